/- RepairSolves returns true for every task, every list of texts and every weight, and these read behind the call as before. No conditions. -/
import Derived.Test.YtafdmfhdjfkooaaGreatZSE
import Derived.Test.YtafdmfhdjfkooaaGreatRows
set_option linter.unusedVariables false
set_option linter.unusedSimpArgs false
namespace Go.Proofs.YtafdmfhdjfkooaaGreat
open Go Go.RowKit
section
open Go Go.RowKit
theorem Scr.append {α:Type} {a b:List α} {n:Nat} (h:Scr a b n):∀ {c d:List α} {m:Nat},Scr c d m→Scr (a ++ c) (b ++ d) (n + m):=by
  induction h with
  | nil=>intro c d m h2;simpa using h2
  | del _ ih=>intro c d m h2;have:=(ih h2).del (x:=‹α›);rw [Nat.add_right_comm] at this;exact this
  | ins _ ih=>intro c d m h2;have:=(ih h2).ins (y:=‹α›);rw [Nat.add_right_comm] at this;exact this
  | keep _ ih=>intro c d m h2;exact (ih h2).keep
theorem Scr.rev {α:Type} {a b:List α} {n:Nat} (h:Scr a b n):Scr a.reverse b.reverse n:=by
  induction h with
  | nil=>exact .nil
  | @del x xs ys n _ ih=>have:=ih.append (.del (x:=x) .nil);simpa using this
  | @ins y xs ys n _ ih=>have:=ih.append (.ins (y:=y) .nil);simpa using this
  | @keep x xs ys n _ ih=>have:=ih.append (.keep (x:=x) .nil);simpa using this
def dist2 (a b:List ByteArray):Nat:=ed a.reverse b.reverse
theorem Qu {a b:List ByteArray} {n:Nat} (h:Scr a b n):dist2 a b≤n:=To h.rev
theorem JK (a b:List ByteArray):Scr a b (dist2 a b):=by have:=(QY a.reverse b.reverse).rev;simpa [dist2] using this
def nmO (t:Tsk) (i:Int):ByteArray:=match t.ops[i.toNat]? with|some o=>o.name|none=>⟨#[]⟩
theorem Lt {t:Tsk} {i:Nat} {o:Opr} (h:t.ops[i]?=some o):nmO t (i:Int)=o.name:=by unfold nmO;rw [Int.toNat_natCast,h]
theorem Ke {α:Type} {l:List α} {q:α×Nat}:q∈l.zipIdx↔l[q.2]?=some q.1:=by
  constructor
  · intro h
    obtain ⟨k,hk⟩:=List.getElem?_of_mem h
    rw [List.getElem?_zipIdx] at hk
    obtain ⟨o,ho,rfl⟩:=Option.map_eq_some_iff.1 hk
    simpa using ho
  · intro h
    refine List.mem_of_getElem? (i:=q.2) ?_
    rw [List.getElem?_zipIdx,h];simp
theorem Mj {t:Tsk} {v p:Int} {name:ByteArray} {q:Opr×Prt}:q∈keepL t.ops.zipIdx v p name↔∃ (i:Nat) (o:Opr),t.ops[i]?=some o∧o.name=name∧q=(keptO o v p,⟨(i:Int)⟩):=by
  unfold keepL
  rw [List.mem_map]
  constructor
  · rintro ⟨x,hx,rfl⟩
    obtain ⟨h1,h2⟩:=List.mem_filter.1 hx
    exact ⟨x.2,x.1,Ke.1 h1,by simpa using h2,rfl⟩
  · rintro ⟨i,o,h1,h2,rfl⟩
    exact ⟨(o,i),List.mem_filter.2 ⟨Ke.2 h1,by simpa using h2⟩,rfl⟩
theorem No {t:Tsk} {w v:Int} {q:Opr×Prt}:∀ {l:List ByteArray} {p:Nat},q∈delL t w v p l↔∃ (j:Nat) (name:ByteArray),l[j]?=some name∧q∈stepL t w v ((p + j:Nat):Int) name
  | [],p=>by simp [delL]
  | x :: l,p=>by
    rw [delL,List.mem_append,No (l:=l)]
    constructor
    · rintro (h|⟨j,name,h1,h2⟩)
      · exact ⟨0,x,rfl,by simpa using h⟩
      · exact ⟨j + 1,name,by simpa using h1,by rw [show p + (j + 1)=p + 1 + j from by omega];exact h2⟩
    · rintro ⟨j,name,h1,h2⟩
      cases j with
      | zero=>simp at h1;subst h1;exact .inl (by simpa using h2)
      | succ j=>exact .inr ⟨j,name,by simpa using h1,by rw [show p + 1 + j=p + (j + 1) from by omega];exact h2⟩
theorem HB {t:Tsk} {old:List ByteArray} {w:Int} {q:Opr×Prt}:q∈cmpL t old w ↔
    (∃ (i:Nat) (o:Opr),t.ops[i]?=some o∧q=(⟨o.name,o.cost + w,o.pre,o.effs⟩,⟨(i:Int)⟩)) ∨
    (∃ (p i:Nat) (o:Opr),old[p]?=some o.name∧t.ops[i]?=some o∧q=(keptO o (t.vars.length:Int) (p:Int),⟨(i:Int)⟩)) ∨
    (∃ (p:Nat) (name:ByteArray),old[p]?=some name∧q=delE w (t.vars.length:Int) (p:Int)):=by
  unfold cmpL
  rw [List.mem_append,No]
  constructor
  · rintro (h|⟨j,name,h1,h2⟩)
    · obtain ⟨x,hx,rfl⟩:=List.mem_map.1 h
      exact .inl ⟨x.2,x.1,Ke.1 hx,rfl⟩
    · rw [Nat.zero_add] at h2
      unfold stepL at h2
      rcases List.mem_append.1 h2 with h2|h2
      · obtain ⟨i,o,g1,g2,rfl⟩:=Mj.1 h2
        exact .inr (.inl ⟨j,i,o,by rw [g2];exact h1,g1,rfl⟩)
      · exact .inr (.inr ⟨j,name,h1,by simpa using h2⟩)
  · rintro (⟨i,o,h,rfl⟩|⟨p,i,o,h1,h2,rfl⟩|⟨p,name,h1,rfl⟩)
    · exact .inl (List.mem_map.2 ⟨(o,i),Ke.2 h,rfl⟩)
    · exact .inr ⟨p,o.name,h1,by rw [Nat.zero_add];exact List.mem_append_left _ (Mj.2 ⟨i,o,h2,rfl,rfl⟩)⟩
    · exact .inr ⟨p,name,h1,by rw [Nat.zero_add];exact List.mem_append_right _ (by simp)⟩
section
variable {vars x : List Int}
theorem RC {f:Fct} (hf:FactOk vars f) (hx:x.length=vars.length) (p:Int):hasB (x ++ [p]) f=hasB x f:=by
  obtain ⟨h1,_,y,h3,_⟩:=hf
  have:=AD h3
  unfold hasB
  rw [List.getElem?_append_left (by omega)]
theorem HS {fs:List Fct} (hf:FactsOk vars fs) (hx:x.length=vars.length) (p:Int):holdsB fs (x ++ [p])=holdsB fs x:=by
  have key:∀ l:List Fct,(∀ f∈l,FactOk vars f)→l.all (hasB (x ++ [p]))=l.all (hasB x):=fun l hl=>by
    induction l with
    | nil=>rfl
    | cons f l ih=>rw [List.all_cons,List.all_cons,RC (hl f List.mem_cons_self) hx,ih fun g hg=>hl g (List.mem_cons_of_mem _ hg)]
  exact key fs fun f hm=>by obtain ⟨i,hi⟩:=List.getElem?_of_mem hm;exact hf.1 i f hi
theorem KI {v:Nat} (hx:x.length=v) (p p0:Int):hasB (x ++ [p]) ⟨(v:Int),p0⟩=decide (p=p0):=by
  unfold hasB
  subst hx
  simp
theorem IJ {fs:List Fct} (hf:FactsOk vars fs) (hx:x.length=vars.length) (p p0:Int):holdsB (fs ++ [⟨(vars.length:Int),p0⟩]) (x ++ [p])=(holdsB fs x && decide (p=p0)):=by
  have:=HS hf hx p
  unfold holdsB at this ⊢
  rw [List.all_append,this,List.all_cons,List.all_nil,KI hx,Bool.and_true]
theorem Np {effs:List Eff} (he:∀ e∈effs,EffOk vars e) (hx:x.length=vars.length) (p:Int):∀ y:List Int,y.length=vars.length→effsOn (x ++ [p]) effs (y ++ [p])=effsOn x effs y ++ [p]:=by
  induction effs with
  | nil=>intro y _;rfl
  | cons e l ih =>
    intro y hy
    obtain ⟨h1,h2,_,z,h3,_⟩:=he e List.mem_cons_self
    have hlt:=AD h3
    simp only at h2 hlt
    simp only [effsOn]
    rw [HS h1 hx]
    by_cases hb:holdsB e.cond x=true
    · rw [if_pos hb,if_pos hb,List.set_append_left _ _ (by omega)]
      exact ih (fun e' h'=>he e' (List.mem_cons_of_mem _ h')) _ (by simpa using hy)
    · rw [if_neg hb,if_neg hb]
      exact ih (fun e' h'=>he e' (List.mem_cons_of_mem _ h')) _ hy
end
theorem Ou {t:Tsk} (hok:TaskOk t) {k:Nat} {o:Opr} (ho:t.ops[k]?=some o):∀ e∈o.effs,EffOk t.vars e:=fun e he=>by
  obtain ⟨i,hi⟩:=List.getElem?_of_mem he
  exact (hok.2.2.2.2.2 k o ho).2.2.2.2.2 i e hi
theorem FU (o:Opr) (x:List Int):(succ o x).length=x.length:=FQ x o.effs x
section
variable {t : Tsk} {old : List ByteArray} {w : Int}
theorem Nq (hok:TaskOk t) {i:Nat} {o:Opr} (ho:t.ops[i]?=some o) {x:List Int} (hx:x.length=t.vars.length) (p c:Int):succ ⟨o.name,c,o.pre,o.effs⟩ (x ++ [p])=succ o x ++ [p]:=Np (Ou hok ho) hx p x hx
theorem Mk {x y:List Int} {v:Nat} (hy:y.length=v) (p q:Int):effsOn (x ++ [p]) [⟨[],(v:Int),q⟩] (y ++ [p])=y ++ [q]:=by
  show (y ++ [p]).set (v:Int).toNat q=_
  subst hy
  rw [Int.toNat_natCast,List.set_append_right _ _ (Nat.le_refl _)]
  simp
theorem Ml (hok:TaskOk t) {i:Nat} {o:Opr} (ho:t.ops[i]?=some o) {x:List Int} (hx:x.length=t.vars.length) (p p0:Int):succ (keptO o (t.vars.length:Int) p0) (x ++ [p])=succ o x ++ [p0 + 1]:=by
  show effsOn (x ++ [p]) (o.effs ++ [⟨[],(t.vars.length:Int),p0 + 1⟩]) (x ++ [p])=_
  rw [GU,Np (Ou hok ho) hx p x hx]
  exact Mk (by rw [FQ];exact hx) p (p0 + 1)
theorem Nr {x:List Int} (hx:x.length=t.vars.length) (p p0:Int):succ (delE w (t.vars.length:Int) p0).1 (x ++ [p])=x ++ [p0 + 1]:=by
  show effsOn (x ++ [p]) ([] ++ [⟨[],(t.vars.length:Int),p0 + 1⟩]) (x ++ [p])=_
  exact Mk hx p (p0 + 1)
def partI (L:List (Opr×Prt)) (k:Int):List Int:=match L[k.toNat]? with|some q=>if 0≤q.2.op then [q.2.op] else []|none=>[]
def mapP (L:List (Opr×Prt)) (P:List Int):List Int:=P.flatMap (partI L)
theorem Mm {L:List (Opr×Prt)} {k:Nat} {q:Opr×Prt} (h:L[k]?=some q) (P:List Int):mapP L ((k:Int) :: P)=(if 0≤q.2.op then [q.2.op] else []) ++ mapP L P:=by
  unfold mapP
  rw [List.flatMap_cons]
  unfold partI
  rw [Int.toNat_natCast,h]
theorem Ov {k:Nat} {o:Opr} (h:(cmpT t old w).ops[k]?=some o):∃ q,(cmpL t old w)[k]?=some q∧q.1=o:=by
  have h':((cmpL t old w).map (·.1))[k]?=some o:=h
  rw [List.getElem?_map] at h'
  obtain ⟨q,h1,h2⟩:=Option.map_eq_some_iff.1 h'
  exact ⟨q,h1,h2⟩
theorem IK {α:Type} {l:List α} {p:Nat} {x:α} (h:l[p]?=some x):l.drop p=x :: l.drop (p + 1):=by
  obtain ⟨hlt,rfl⟩:=List.getElem?_eq_some_iff.1 h
  exact List.drop_eq_getElem_cons hlt
theorem Qv (hok:TaskOk t) {s s' P:List Int} {C:Int} (h:PlanR (cmpT t old w) s P s' C):∀ (x:List Int) (p:Nat),s=x ++ [(p:Int)]→x.length=t.vars.length→p≤old.length →
    ∃ (x':List Int) (p':Nat) (c:Int) (n:Nat),s'=x' ++ [(p':Int)]∧p≤p'∧p'≤old.length∧PlanR t x (mapP (cmpL t old w) P) x' c∧Scr ((mapP (cmpL t old w) P).map (nmO t)) ((old.take p').drop p) n∧C=c + w * n:=by
  induction h with
  | nil =>
    rintro x p rfl hx hp
    refine ⟨x,p,0,0,rfl,Nat.le_refl _,hp,.nil,?_,by simp⟩
    have:(old.take p).drop p=[]:=List.drop_eq_nil_of_le (by simp;omega)
    rw [this];exact .nil
  | @cons s rest s' k o C ho hpre _ ih =>
    rintro x p rfl hx hp
    obtain ⟨q,hq,rfl⟩:=Ov ho
    rw [Mm hq]
    rcases HB.1 (List.mem_of_getElem? hq) with ⟨i,o,hi,rfl⟩|⟨p0,i,o,hn,hi,rfl⟩|⟨p0,name,hn,rfl⟩
    · have hf:=(hok.2.2.2.2.2 i o hi).2.2.2.2.1
      have hpre':holdsB o.pre x=true:=by rw [← HS hf hx];exact hpre
      obtain ⟨x',p',c,n,h1,h2,h3,h4,h5,h6⟩:=ih (succ o x) p (Nq hok hi hx _ _) (by rw [FU];exact hx) hp
      refine ⟨x',p',o.cost + c,n + 1,h1,h2,h3,?_,?_,?_⟩
      · rw [if_pos (by show (0:Int)≤(i:Int);omega)];exact .cons hi hpre' h4
      · rw [if_pos (by show (0:Int)≤(i:Int);omega)]
        simp only [List.singleton_append,List.map_cons]
        exact h5.del
      · show o.cost + w + C=_
        rw [h6,Int.natCast_add,Int.mul_add];simp;omega
    · have hf:=(hok.2.2.2.2.2 i o hi).2.2.2.2.1
      have hpre':holdsB (o.pre ++ [⟨(t.vars.length:Int),(p0:Int)⟩]) (x ++ [(p:Int)])=true:=hpre
      rw [IJ hf hx,Bool.and_eq_true,decide_eq_true_eq] at hpre'
      have hpp:p0=p:=by omega
      subst hpp
      have hlt:=AD hn
      obtain ⟨x',p',c,n,h1,h2,h3,h4,h5,h6⟩:=ih (succ o x) (p0 + 1) (by rw [Ml hok hi hx];simp) (by rw [FU];exact hx) hlt
      have hdr:(old.take p').drop p0=o.name :: (old.take p').drop (p0 + 1):=IK (by rw [List.getElem?_take,if_pos (by omega)];exact hn)
      refine ⟨x',p',o.cost + c,n,h1,by omega,h3,?_,?_,?_⟩
      · rw [if_pos (by show (0:Int)≤(i:Int);omega)];exact .cons hi hpre'.1 h4
      · rw [if_pos (by show (0:Int)≤(i:Int);omega),hdr]
        simp only [List.singleton_append,List.map_cons]
        rw [Lt hi]
        exact h5.keep
      · show o.cost + C=_
        omega
    · have hpre':holdsB ([] ++ [⟨(t.vars.length:Int),(p0:Int)⟩]) (x ++ [(p:Int)])=true:=hpre
      have hp0:hasB (x ++ [(p:Int)]) ⟨(t.vars.length:Int),(p0:Int)⟩=true:=by simpa [holdsB] using hpre'
      rw [KI hx,decide_eq_true_eq] at hp0
      have hpp:p0=p:=by omega
      subst hpp
      have hlt:=AD hn
      obtain ⟨x',p',c,n,h1,h2,h3,h4,h5,h6⟩:=ih x (p0 + 1) (by rw [Nr hx];simp) hx hlt
      have hdr:(old.take p').drop p0=name :: (old.take p').drop (p0 + 1):=IK (by rw [List.getElem?_take,if_pos (by omega)];exact hn)
      refine ⟨x',p',c,n + 1,h1,by omega,h3,?_,?_,?_⟩
      · rw [if_neg (by show ¬ (0:Int)≤-1;omega)];exact h4
      · rw [if_neg (by show ¬ (0:Int)≤-1;omega),hdr];exact h5.ins
      · show w + C=_
        rw [h6,Int.natCast_add,Int.mul_add];simp;omega
theorem Ns {q:Opr×Prt} (h:q∈cmpL t old w):∃ k:Nat,(cmpT t old w).ops[k]?=some q.1:=by
  obtain ⟨k,hk⟩:=List.getElem?_of_mem h
  exact ⟨k,by show ((cmpL t old w).map (·.1))[k]?=_;rw [List.getElem?_map,hk];rfl⟩
theorem PS (hok:TaskOk t) {xs ys:List ByteArray} {n:Nat} (h:Scr xs ys n):∀ (x x' π:List Int) (c:Int) (p:Nat),PlanR t x π x' c→π.map (nmO t)=xs→ys=old.drop p→p≤old.length→x.length=t.vars.length →
    ∃ P,PlanR (cmpT t old w) (x ++ [(p:Int)]) P (x' ++ [(old.length:Int)]) (c + w * n):=by
  induction h with
  | nil =>
    intro x x' π c p hp hn hy hl hx
    have hπ:π=[]:=by simpa using hn
    subst hπ
    have hpl:p=old.length:=by
      have:=congrArg List.length hy
      simp at this;omega
    subst hpl
    cases hp
    exact ⟨[],by simpa using PlanR.nil⟩
  | @del y xs ys n _ ih =>
    intro x x' π c p hp hn hy hl hx
    cases hp with
    | nil=>simp at hn
    | @cons _ rest _ i o C hi hpre hr =>
      simp only [List.map_cons,List.cons.injEq] at hn
      have hf:=(hok.2.2.2.2.2 i o hi).2.2.2.2.1
      obtain ⟨P,hP⟩:=ih (succ o x) x' rest C p hr hn.2 hy hl (by rw [FU];exact hx)
      obtain ⟨k,hk⟩:=Ns (old:=old) (w:=w) (HB.2 (.inl ⟨i,o,hi,rfl⟩))
      refine ⟨(k:Int) :: P,?_⟩
      have h3:PlanR (cmpT t old w) (succ ⟨o.name,o.cost + w,o.pre,o.effs⟩ (x ++ [(p:Int)])) P (x' ++ [(old.length:Int)]) (C + w * n):=by rw [Nq hok hi hx];exact hP
      have h2:=PlanR.cons hk (by show holdsB o.pre (x ++ [(p:Int)])=true;rw [HS hf hx];exact hpre) h3
      have e:o.cost + C + w * ((n + 1:Nat):Int)=o.cost + w + (C + w * n):=by rw [Int.natCast_add,Int.mul_add];simp;omega
      rw [e];exact h2
  | @ins y xs ys n _ ih =>
    intro x x' π c p hp hn hy hl hx
    have hlt:p < old.length:=by
      rcases Nat.lt_or_ge p old.length with h|h
      · exact h
      · rw [List.drop_eq_nil_of_le h] at hy;cases hy
    have hg:old[p]?=some old[p]:=List.getElem?_eq_getElem hlt
    rw [IK hg] at hy
    injection hy with e1 e2
    obtain ⟨P,hP⟩:=ih x x' π c (p + 1) hp hn e2 hlt hx
    obtain ⟨k,hk⟩:=Ns (old:=old) (w:=w) (HB.2 (.inr (.inr ⟨p,old[p],hg,rfl⟩)))
    refine ⟨(k:Int) :: P,?_⟩
    have h3:PlanR (cmpT t old w) (succ (delE w (t.vars.length:Int) (p:Int)).1 (x ++ [(p:Int)])) P (x' ++ [(old.length:Int)]) (c + w * n):=by rw [Nr hx];simpa using hP
    have h2:=PlanR.cons hk (by show holdsB ([] ++ [⟨(t.vars.length:Int),(p:Int)⟩]) (x ++ [(p:Int)])=true;simp only [holdsB,List.nil_append,List.all_cons,List.all_nil,Bool.and_true];rw [KI hx];simp) h3
    have e:c + w * ((n + 1:Nat):Int)=w + (c + w * n):=by rw [Int.natCast_add,Int.mul_add];simp;omega
    rw [e];exact h2
  | @keep y xs ys n _ ih =>
    intro x x' π c p hp hn hy hl hx
    have hlt:p < old.length:=by
      rcases Nat.lt_or_ge p old.length with h|h
      · exact h
      · rw [List.drop_eq_nil_of_le h] at hy;cases hy
    have hg:old[p]?=some old[p]:=List.getElem?_eq_getElem hlt
    rw [IK hg] at hy
    injection hy with e1 e2
    cases hp with
    | nil=>simp at hn
    | @cons _ rest _ i o C hi hpre hr =>
      simp only [List.map_cons,List.cons.injEq] at hn
      have hf:=(hok.2.2.2.2.2 i o hi).2.2.2.2.1
      obtain ⟨P,hP⟩:=ih (succ o x) x' rest C (p + 1) hr hn.2 e2 hlt (by rw [FU];exact hx)
      have hnm:old[p]?=some o.name:=by rw [hg,← e1,← hn.1,Lt hi]
      obtain ⟨k,hk⟩:=Ns (old:=old) (w:=w) (HB.2 (.inr (.inl ⟨p,i,o,hnm,hi,rfl⟩)))
      refine ⟨(k:Int) :: P,?_⟩
      have h3:PlanR (cmpT t old w) (succ (keptO o (t.vars.length:Int) (p:Int)) (x ++ [(p:Int)])) P (x' ++ [(old.length:Int)]) (C + w * n):=by rw [Ml hok hi hx];simpa using hP
      have h2:=PlanR.cons hk (by show holdsB (o.pre ++ [⟨(t.vars.length:Int),(p:Int)⟩]) (x ++ [(p:Int)])=true;rw [IJ hf hx,hpre];simp) h3
      have e:o.cost + C + w * (n:Int)=o.cost + (C + w * n):=by omega
      rw [e];exact h2
theorem KJ (hok:TaskOk t) {x:List Int} (hx:x.length=t.vars.length) (p:Int):holdsB (cmpT t old w).goal (x ++ [p])=(holdsB t.goal x && decide (p=(old.length:Int))):=IJ hok.2.2.2.2.1 hx p _
end
end
section
open Go Go.RowKit
abbrev BQ:=BxR 99 97 Itm
abbrev AI:=An 97 Itm
def toQ (x:Itm):QEn:=⟨x.cost,0,x.id,x.order⟩
def qs (l:List Itm):List QEn:=l.map toQ
theorem FO (l:List Itm):(qs l).length=l.length:=by simp [qs]
theorem GN {l:List Itm} {i:Nat} {x:Itm} (h:l[i]?=some x):(qs l)[i]?=some (toQ x):=by unfold qs;rw [List.getElem?_map,h];rfl
theorem JL (l:List Itm) (i:Nat) (x:Itm):qs (l.set i x)=(qs l).set i (toQ x):=by unfold qs;rw [List.map_set]
theorem RD (l:List Itm) (n:Nat):qs (l.take n)=(qs l).take n:=by unfold qs;rw [List.map_take]
theorem KK {l:List Itm} {i j:Nat} {a b:Itm} (ha:l[i]?=some a) (hb:l[j]?=some b):BJ l (i:Int) (j:Int)=some (decide (bfr (toQ a) (toQ b))):=by
  unfold BJ
  rw [By,ha,Am,By,hb,Am,Am,Am,Am,Am]
  unfold bfr toQ
  by_cases h1:a.cost < b.cost
  · rw [if_pos h1,Am];simp [h1]
  · rw [if_neg h1]
    by_cases h2:a.cost=b.cost
    · rw [if_pos h2]
      by_cases h3:a.order < b.order
      · rw [if_pos h3,Am];simp [h2,h3]
      · rw [if_neg h3,Am];simp [h2,h3]
    · rw [if_neg h2,Am];simp [h1,h2]
theorem KL {l:List Itm} {i j:Nat} {a b:Itm} (ha:l[i]?=some a) (hb:l[j]?=some b):BB l (i:Int) (j:Int)=some ((l.set i b).set j a):=by
  have hil:=AD ha
  have hjl:=AD hb
  obtain ⟨c,hc⟩:=AF (l:=l.set i b) (k:=j) (by simp;exact hjl)
  unfold BB
  rw [By,hb,Am,By,ha,Am,Am,Int.toNat_natCast,By,hc,Am,Int.toNat_natCast]
theorem SG {q:BQ} {i:Nat} (hi:i < q.l.length) (hl:q.l.length≤1000000) (h:UpI (qs q.l) i):∃ r,CK q (i:Int)=some r∧HeapOk (qs r.l)∧(qs r.l).Perm (qs q.l):=by
  unfold CK
  refine Nc (fun s=>∃ i:Nat,s.1=(i:Int)∧i < s.2.l.length∧UpI (qs s.2.l) i∧(qs s.2.l).Perm (qs q.l)) (fun s=>HeapOk (qs s.2.l)∧(qs s.2.l).Perm (qs q.l)) (fun _=>False) (fun s=>s.1.toNat) ⟨i,rfl,hi,h,List.Perm.refl _⟩ ?_ (fun s hs=>⟨_,rfl,hs⟩) (fun s hs=>hs.elim)
  rintro ⟨c,s⟩ ⟨i,hc,hi,hu,hp⟩
  dsimp only at hc hi hu hp ⊢
  subst hc
  have hlen:=hp.length_eq
  rw [FO,FO] at hlen
  rw [BA (by unfold inI64;omega),Am]
  by_cases h0:0 < (i:Int)
  · have hq:quoT ((i:Int) - 1) 2=some (((i - 1) / 2:Nat):Int):=by
      unfold quoT;rw [if_pos (by omega),if_pos (by omega)];congr 1;omega
    obtain ⟨a,ha⟩:=AF (l:=s.l) (k:=i) hi
    obtain ⟨b,hb⟩:=AF (l:=s.l) (k:=(i - 1) / 2) (by omega)
    rw [hq,Am,if_neg (by omega),KK ha hb,Am]
    by_cases hab:bfr (toQ a) (toQ b)
    · rw [decide_eq_true hab,Di,Am,CT,KL hb ha,Am]
      have e1:qs ((s.l.set ((i - 1) / 2) a).set i b)=((qs s.l).set i (toQ b)).set ((i - 1) / 2) (toQ a):=by
        rw [JL,JL,List.set_comm _ _ (by omega)]
      refine .inl ⟨_,rfl,⟨(i - 1) / 2,rfl,by simp;omega,?_,?_⟩,?_⟩
      · dsimp only;rw [e1];exact hu.step (by omega) (GN ha) (GN hb) hab
      · dsimp only;rw [e1];exact (Nl (GN ha) (GN hb)).trans hp
      · dsimp only;omega
    · rw [decide_eq_false hab,CT,Am,Di]
      refine .inr (.inl ⟨_,rfl,hu.heap (.inr fun x y hx hy=>?_),hp⟩)
      rw [GN ha] at hx
      rw [GN hb] at hy
      obtain rfl:=Option.some.inj hx
      obtain rfl:=Option.some.inj hy
      exact hab
  · have h00:i=0:=by omega
    subst h00
    have hq:quoT (((0:Nat):Int) - 1) 2=some 0:=rfl
    rw [hq,Am,if_pos (show (0:Int)=((0:Nat):Int) from rfl),Am,Di]
    exact .inr (.inl ⟨_,rfl,hu.heap (.inl rfl),hp⟩)
theorem Nt {q:BQ} (h:HeapOk (qs q.l)) (hl:q.l.length≤900000) (x:Itm):∃ r,Cq q ⟨x⟩=some r∧HeapOk (qs r.l)∧(qs r.l).Perm (toQ x :: qs q.l):=by
  unfold Cq CV BF
  rw [Bz (by simp;omega) (by simp;omega),Am,Am,Am,BA (by unfold inI64;simp;omega),Am]
  have hlen:(((q.l ++ [x]).length:Int) - 1)=((q.l.length:Nat):Int):=by simp
  rw [hlen]
  have eq1:qs (q.l ++ [x])=qs q.l ++ [toQ x]:=by simp [qs]
  obtain ⟨r,r1,r2,r3⟩:=SG (q:=⟨q.l ++ [x]⟩) (i:=q.l.length) (by simp) (by simp;omega) ⟨fun j y z hj hji hx hy=>by
    dsimp only at hx hy
    rw [eq1] at hx hy
    have hjl:j < (qs q.l).length:=by have:=AD hx;simp at this;rw [FO] at this ⊢;omega
    rw [List.getElem?_append_left hjl] at hx
    rw [List.getElem?_append_left (by omega)] at hy
    exact h j y z hj hx hy,fun j y z h1 h2 h3 hx hy=>by
    dsimp only at hx
    have:=AD hx
    rw [FO] at this
    simp at this
    omega⟩
  rw [r1,Am]
  refine ⟨_,rfl,r2,r3.trans ?_⟩
  dsimp only
  rw [eq1]
  exact List.perm_append_comm (l₁:=qs q.l) (l₂:=[_])
theorem Qw {q:BQ} {n:Nat} (hn:n≤q.l.length) (hl:q.l.length≤1000000) (h:DownI (qs (q.l.take n)) 0):∃ r,Cy q 0 (n:Int)=some r∧HeapOk (qs (r.2.l.take n))∧(qs (r.2.l.take n)).Perm (qs (q.l.take n))∧r.2.l.drop n=q.l.drop n∧r.2.l.length=q.l.length:=by
  unfold Cy
  refine Nc (fun s=>∃ i:Nat,s.1=(i:Int)∧DownI (qs (s.2.l.take n)) i∧i≤n∧(qs (s.2.l.take n)).Perm (qs (q.l.take n))∧s.2.l.drop n=q.l.drop n∧s.2.l.length=q.l.length) (fun s=>HeapOk (qs (s.2.l.take n))∧(qs (s.2.l.take n)).Perm (qs (q.l.take n))∧s.2.l.drop n=q.l.drop n∧s.2.l.length=q.l.length) (fun _=>False) (fun s=>n - s.1.toNat) ⟨0,rfl,h,by omega,List.Perm.refl _,rfl,rfl⟩ ?_ ?_ (fun s hs=>hs.elim)
  · rintro ⟨c,s⟩ ⟨i,hc,hd,hi,hp,hdr,hsl⟩
    dsimp only at hc hd hi hp hdr hsl ⊢
    subst hc
    rw [BA (by unfold inI64;omega),Am,BA (by unfold inI64;omega),Am]
    by_cases h1:(n:Int)≤2 * (i:Int) + 1
    · rw [if_pos h1,Am,Di]
      refine .inr (.inl ⟨_,rfl,hd.heap fun j x y hj hji hx _=>?_,hp,hdr,hsl⟩)
      have:=AD hx
      rw [FO,List.length_take] at this
      omega
    rw [if_neg h1,if_neg (by omega),Am,CT]
    obtain ⟨a,ha⟩:=AF (l:=s.l) (k:=i) (by omega)
    obtain ⟨b,hb⟩:=AF (l:=s.l) (k:=2 * i + 1) (by omega)
    have tk:∀ {k:Nat} {x:Itm},k < n→s.l[k]?=some x→(qs (s.l.take n))[k]?=some (toQ x):=fun {k x} hk hx=>GN (by rw [List.getElem?_take_of_lt hk];exact hx)
    have cast1:2 * (i:Int) + 1=((2 * i + 1:Nat):Int):=by omega
    have cast2:2 * (i:Int) + 1 + 1=((2 * i + 2:Nat):Int):=by omega
    have rest:∀ (c:Nat) (d:Itm),(c=2 * i + 1∨c=2 * i + 2)→c < n→s.l[c]?=some d→(∀ (j:Nat) x,0 < j→(j - 1) / 2=i→(qs (s.l.take n))[j]?=some x→nb x (toQ d))→(∃ s',(bnd (BJ s.l (c:Int) (i:Int)) fun q97=>if q97=true then bnd (BB s.l (i:Int) (c:Int)) fun q109=>some (Ctl.next (ρ:=Bool×BQ) ((c:Int),(⟨q109⟩:BQ))) else some (.brk ((i:Int),s)))=some (.next s')∧(∃ i:Nat,s'.1=(i:Int)∧DownI (qs (s'.2.l.take n)) i∧i≤n∧(qs (s'.2.l.take n)).Perm (qs (q.l.take n))∧s'.2.l.drop n=q.l.drop n∧s'.2.l.length=q.l.length)∧n - s'.1.toNat < n - ((i:Int)).toNat)∨(∃ s',(bnd (BJ s.l (c:Int) (i:Int)) fun q97=>if q97=true then bnd (BB s.l (i:Int) (c:Int)) fun q109=>some (Ctl.next (ρ:=Bool×BQ) ((c:Int),(⟨q109⟩:BQ))) else some (.brk ((i:Int),s)))=some (.brk s')∧HeapOk (qs (s'.2.l.take n))∧(qs (s'.2.l.take n)).Perm (qs (q.l.take n))∧s'.2.l.drop n=q.l.drop n∧s'.2.l.length=q.l.length)∨∃ r,(bnd (BJ s.l (c:Int) (i:Int)) fun q97=>if q97=true then bnd (BB s.l (i:Int) (c:Int)) fun q109=>some (Ctl.next (ρ:=Bool×BQ) ((c:Int),(⟨q109⟩:BQ))) else some (.brk ((i:Int),s)))=some (.ret r)∧False:=by
      intro c d hc hcn hd' hs
      rw [KK hd' ha,Am]
      have e1:qs (((s.l.set i d).set c a).take n)=((qs (s.l.take n)).set i (toQ d)).set c (toQ a):=by
        rw [List.take_set,List.take_set,JL,JL]
      by_cases hda:bfr (toQ d) (toQ a)
      · rw [decide_eq_true hda,Di,KL ha hd',Am]
        refine .inl ⟨_,rfl,⟨c,rfl,?_,by omega,?_,?_,by simp;exact hsl⟩,?_⟩
        · dsimp only;rw [e1];exact hd.step hc (tk (by omega) ha) (tk hcn hd') hda hs
        · dsimp only;rw [e1];exact (Nl (tk (by omega) ha) (tk hcn hd')).trans hp
        · dsimp only
          rw [← hdr]
          apply List.ext_getElem?
          intro k
          rw [List.getElem?_drop,List.getElem?_drop,List.getElem?_set_ne (by omega),List.getElem?_set_ne (by omega)]
        · dsimp only;omega
      · rw [decide_eq_false hda,CT]
        refine .inr (.inl ⟨_,rfl,hd.heap fun j x y hj hji hx hy=>?_,hp,hdr,hsl⟩)
        rw [tk (by omega) ha] at hy
        obtain rfl:=Option.some.inj hy
        exact II (hs j x hj hji hx) hda
    rw [BA (by unfold inI64;omega),Am]
    by_cases h2:2 * (i:Int) + 1 + 1 < (n:Int)
    · obtain ⟨d,hd'⟩:=AF (l:=s.l) (k:=2 * i + 2) (by omega)
      rw [if_pos h2,cast2,cast1,KK hd' hb,Am]
      by_cases hdb:bfr (toQ d) (toQ b)
      · rw [decide_eq_true hdb,Di,Am,Di,Am]
        refine rest (2 * i + 2) d (.inr rfl) (by omega) hd' fun j x hj hji hx=>?_
        have:j=2 * i + 1∨j=2 * i + 2:=by omega
        rcases this with rfl|rfl
        · rw [tk (by omega) hb] at hx;obtain rfl:=Option.some.inj hx;exact Mx hdb
        · rw [tk (by omega) hd'] at hx;obtain rfl:=Option.some.inj hx;exact Lr _
      · rw [decide_eq_false hdb,CT,Am,CT,Am]
        refine rest (2 * i + 1) b (.inl rfl) (by omega) hb fun j x hj hji hx=>?_
        have:j=2 * i + 1∨j=2 * i + 2:=by omega
        rcases this with rfl|rfl
        · rw [tk (by omega) hb] at hx;obtain rfl:=Option.some.inj hx;exact Lr _
        · rw [tk (by omega) hd'] at hx;obtain rfl:=Option.some.inj hx;exact hdb
    · rw [if_neg h2,Am,CT,Am,cast1]
      refine rest (2 * i + 1) b (.inl rfl) (by omega) hb fun j x hj hji hx=>?_
      have:j=2 * i + 1:=by have:=AD hx;rw [FO,List.length_take] at this;omega
      subst this
      rw [tk (by omega) hb] at hx;obtain rfl:=Option.some.inj hx;exact Lr _
  · intro s hs
    by_cases hz:0 < s.1
    · rw [BO,if_pos hz,Am];exact ⟨_,rfl,hs⟩
    · rw [BO,if_neg hz,Am];exact ⟨_,rfl,hs⟩
theorem RE {q:BQ} (h:HeapOk (qs q.l)) (h0:0 < q.l.length) (hl:q.l.length≤900000):∃ r,Ct q=some r∧∃ (e:Itm) (q':BQ),r=((⟨e⟩:AI),q')∧HeapOk (qs q'.l)∧(qs q.l).Perm (toQ e :: qs q'.l)∧∀ x∈qs q.l,nb x (toQ e):=by
  obtain ⟨e,he⟩:=AF (l:=q.l) (k:=0) h0
  obtain ⟨z,hz⟩:=AF (l:=q.l) (k:=q.l.length - 1) (by omega)
  have cz:((q.l.length:Int) - 1)=((q.l.length - 1:Nat):Int):=by omega
  have sw:BB q.l 0 ((q.l.length - 1:Nat):Int)=some ((q.l.set 0 z).set (q.l.length - 1) e):=KL (i:=0) he hz
  unfold Ct BF
  rw [Am,BA (by unfold inI64;omega),Am,cz,sw,Am]
  have tk:((q.l.set 0 z).set (q.l.length - 1) e).take (q.l.length - 1)=(q.l.set 0 z).take (q.l.length - 1):=by
    rw [List.take_set]
    exact List.set_eq_of_length_le (by simp)
  have hperm:(qs q.l).Perm (toQ e :: qs ((q.l.set 0 z).take (q.l.length - 1))):=by
    have:q.l.Perm (e :: (q.l.set 0 z).take (q.l.length - 1)):=by
      cases hq:q.l with
      | nil=>rw [hq] at h0;simp at h0
      | cons a tl =>
        rw [hq] at he hz
        simp at he
        subst he
        cases htl:tl.reverse with
        | nil =>
          have:tl=[]:=by simpa using htl
          subst this
          simp
        | cons w r =>
          have htl':tl=r.reverse ++ [w]:=by have:=congrArg List.reverse htl;simpa using this
          subst htl'
          simp at hz
          subst hz
          simp
    exact this.map toQ
  obtain ⟨r,r1,r2,r3,r4,r5⟩:=Qw (q:=⟨(q.l.set 0 z).set (q.l.length - 1) e⟩) (n:=q.l.length - 1) (by simp) (by simp;omega) (by
    dsimp only
    rw [tk]
    refine ⟨fun j x y hj hjp hx hy=>?_,fun j x y h1=>by omega⟩
    rw [RD,JL] at hx hy
    have hx':=Mg hx
    have hy':=Mg hy
    rw [List.getElem?_set_ne (by omega)] at hx' hy'
    exact h j x y hj hx' hy')
  dsimp only at r3 r4 r5
  rw [tk] at r3
  simp only [List.length_set] at r5
  rw [r1,Am]
  unfold Dd
  have hlast:r.2.l[q.l.length - 1]?=some e:=by
    have:(r.2.l.drop (q.l.length - 1))[0]?=some e:=by
      rw [r4,List.getElem?_drop,Nat.add_zero,List.getElem?_set_self (by simp;omega)]
    rwa [List.getElem?_drop,Nat.add_zero] at this
  have hcut:cutI r.2.l 0 ((q.l.length - 1:Nat):Int)=some (r.2.l.take (q.l.length - 1)):=by
    unfold cutI
    rw [if_pos (by simp;omega)]
    simp
  rw [r5,cz,BA (by unfold inI64;omega),Am,By,hlast,Am,hcut,Am,Am]
  exact ⟨_,rfl,e,⟨r.2.l.take (q.l.length - 1)⟩,rfl,r2,hperm.trans (List.Perm.cons _ r3.symm),PN h (GN he)⟩
end
section
open Go Go.RowKit
theorem RF {t:Tsk} (h:Mid t):∃ b,FM t=some b∧0≤b∧b≤Inf∧(b < Inf→Walk t t.init b)∧∀ C,Walk t t.init C→b≤C:=by
  obtain ⟨d,hd,hdP⟩:=Rv h
  obtain ⟨i0,hi0,hi0'⟩:=LG h h.ok.2.2.2.1
  obtain ⟨c,c1,c2,c3,c4,_⟩:=hdP.1.2 i0 _ hi0'
  refine ⟨c,?_,c2,c3,c4,fun C hw=>hdP.2 i0 _ c C hi0' c1 hw⟩
  unfold FM
  rw [hd,Am,hi0,Am,By,c1,Am]
theorem PlanR.bound {t:Tsk} (h:TaskOk t) {s p s':List Int} {C:Int} (hr:PlanR t s p s' C):0≤C∧C≤(p.length:Int) * 1048576:=by
  induction hr with
  | nil=>simp
  | @cons s rest s' k o C ho _ _ ih =>
    have h1:=(h.2.2.2.2.2 k o ho).1
    have h2:=(h.2.2.2.2.2 k o ho).2.1
    simp only [List.length_cons]
    omega
theorem JM {α:Type} [DecidableEq α]:∀ {a b:List α},a.Nodup→(∀ x∈a,x∈b)→a.length≤b.length
  | [],_,_,_=>Nat.zero_le _
  | x :: a,b,hn,hs=>by
    have hx:=hs x List.mem_cons_self
    have h1:=JM (a:=a) (b:=b.erase x) (List.nodup_cons.1 hn).2 fun y hy=>(List.mem_erase_of_ne (fun e=>(List.nodup_cons.1 hn).1 (by rw [← e];exact hy))).2 (hs y (List.mem_cons_of_mem _ hy))
    have h2:=List.length_erase_of_mem hx
    have h3:=List.length_pos_of_mem hx
    simp only [List.length_cons]
    omega
def marked:List (List Int)→List Bool→List (List Int)
  | s :: l,b :: bs=>if b=true then s :: marked l bs else marked l bs
  | _,_=>[]
theorem Lu:∀ (l:List (List Int)) (bs:List Bool),bs.length=l.length→(marked l bs).length=cnt bs
  | [],bs,h=>by have:bs=[]:=List.length_eq_zero_iff.1 h;subst this;rfl
  | s :: l,[],h=>by simp at h
  | s :: l,b :: bs,h=>by
    have:=Lu l bs (by simpa using h)
    simp only [marked,cnt] at this ⊢
    cases b<;>simp [this]
theorem IL:∀ {l:List (List Int)} {bs:List Bool} {i:Nat} {s:List Int},l[i]?=some s→bs[i]?=some true→s∈marked l bs
  | [],bs,i,s,h,_=>by simp at h
  | s :: l,[],i,s',_,h=>by simp at h
  | s :: l,b :: bs,0,s',h1,h2=>by simp at h1 h2;subst h1 h2;simp [marked]
  | s :: l,b :: bs,i + 1,s',h1,h2=>by
    have:=IL (l:=l) (bs:=bs) (i:=i) (by simpa using h1) (by simpa using h2)
    simp only [marked]
    split
    · exact List.mem_cons_of_mem _ this
    · exact this
theorem Nu {L:List (List Int)} (h:∀ (i j:Nat) s,L[i]?=some s→L[j]?=some s→i=j):L.Nodup:=by
  rw [List.nodup_iff_pairwise_ne,List.pairwise_iff_getElem]
  intro i j hi hj hij he
  have:=h i j L[i] (List.getElem?_eq_getElem hi) (by rw [he];exact List.getElem?_eq_getElem hj)
  omega
end
section
open Go Go.RowKit
abbrev Few (t:Tsk):Prop:=Mid t
def appB (t:Tsk) (s:List Int) (k:Nat):Bool:=match t.ops[k]? with|some o=>holdsB o.pre s|none=>false
def appN (t:Tsk) (s:List Int) (m:Nat):List Nat:=(List.range m).filter (appB t s)
def sucN (t:Tsk) (s:List Int) (k:Nat):List Int:=match t.ops[k]? with|some o=>succ o s|none=>s
theorem SH (t:Tsk) (s:List Int):appl t s=(appN t s t.ops.length).map fun k:Nat=>(k:Int):=rfl
theorem RG (t:Tsk) (s:List Int) (k:Nat):sucOf t s (k:Int)=⟨(k:Int),sucN t s k⟩:=rfl
theorem Ox {t:Tsk} {s:List Int} {k:Nat} {o:Opr} (ho:t.ops[k]?=some o):appB t s k=holdsB o.pre s∧sucN t s k=succ o s:=by unfold appB sucN;rw [ho];exact ⟨rfl,rfl⟩
theorem PlanR.rch {t:Tsk} {s p s':List Int} {C:Int} (h:PlanR t s p s' C) (hs:Rch t s):Rch t s':=by
  induction h with
  | nil=>exact hs
  | cons ho hp _ ih=>exact ih (hs.step ho hp)
end
section
open Go Go.RowKit
theorem Qx {t:Tsk} (hok:TaskOk t):∃ reg,Db t=some (some ⟨t,reg,some ⟨t⟩⟩,⟨0⟩)∧RegI t.vars reg [t.init]∧links reg=[⟨-1,-1,0⟩]:=by
  obtain ⟨rr,n1,reg,rfl,n2,n3⟩:=PP hok.1 hok.2.2.1
  rcases Mi hok.1 n2 hok.2.2.2.1 (by simp) with ⟨i,hi,_⟩|⟨_,r',hadd,hr',hlk⟩
  · simp at hi
  refine ⟨r',?_,hr',by rw [hlk,n3];rfl⟩
  unfold Db
  rw [PH hok,Am,if_neg (by simp),n1,Am,if_neg (by simp),Am,hadd,Am,if_neg (by simp)]
theorem PT {vars:List Int} {r:Reg} {L:List (List Int)} (h:RegI vars r L):(links r).length=L.length:=by unfold links;rw [List.length_map,h.len]
theorem SI {t:Tsk} (h:TaskOk t) {s p s':List Int} {C:Int} (hr:PlanR t s p s' C):∀ (j:Nat) (c:Int),0≤c→c + p.length * 1048576≤1000000000000000 →
    rng (ρ:=Rsl×Err) (fun (_:Nat) (a78:Int) (s75:Int)=>bnd (atI t.ops a78) fun a125=>bnd (chkI (s75 + a125.cost)) fun n146=>some (.next n146)) p j c=some (.done (c + C)):=by
  induction hr with
  | nil=>intro j c _ _;simp [rng]
  | @cons s rest s' k o C ho hp hr ih =>
    intro j c hc hb
    simp only [List.length_cons] at hb
    have hoo:=h.2.2.2.2.2 k o ho
    have h1:=hoo.1
    have h2:=hoo.2.1
    have e2:(bnd (atI t.ops (k:Int)) fun a125=>bnd (chkI (c + a125.cost)) fun n146=>some (Ctl.next (ρ:=Rsl×Err) n146))=some (.next (c + o.cost)):=by
      rw [By,ho,Am,BA (by unfold inI64;omega),Am]
    simp only [rng,e2]
    rw [ih (j + 1) (c + o.cost) (by omega) (by omega),Int.add_assoc]
theorem PU {t:Tsk} {s:List Int} (h:TaskOk t) (hs:StateOk t.vars s):s.length≤1000000:=by have:=hs.1;have:=h.1;omega
end
section
open Go Go.RowKit
structure SQ (t:Tsk) (L:List (List Int)) (x:Spc):Prop where
  tt:x.t=t
  gen:x.gen=some ⟨t⟩
  reg:RegI t.vars x.reg L
theorem Lv:∀ (l:List (List Int)) (bs:List Bool),(marked l bs).Sublist l
  | [],bs=>by simp [marked]
  | s :: l,[]=>by simp [marked]
  | s :: l,b :: bs=>by
    have ih:=Lv l bs
    simp only [marked]
    split
    · exact ih.cons_cons s
    · exact ih.cons s
theorem Hh:∀ {l:List (List Int)} {bs:List Bool} {s:List Int},s∈marked l bs→∃ i:Nat,l[i]?=some s∧bs[i]?=some true
  | [],bs,s,h=>by simp [marked] at h
  | s :: l,[],s',h=>by simp [marked] at h
  | s :: l,b :: bs,s',h=>by
    simp only [marked] at h
    by_cases hb:b=true
    · rw [if_pos hb] at h
      rcases List.mem_cons.1 h with rfl|h
      · exact ⟨0,rfl,by simp [hb]⟩
      · obtain ⟨i,h1,h2⟩:=Hh h;exact ⟨i + 1,by simpa using h1,by simpa using h2⟩
    · rw [if_neg hb] at h
      obtain ⟨i,h1,h2⟩:=Hh h;exact ⟨i + 1,by simpa using h1,by simpa using h2⟩
end
section
open Go Go.RowKit
abbrev US:=(List Int)×(List Bool)×Int×Int×Spc×BQ
abbrev UT:=(List Int)×(List Bool)×Int×Spc×BQ
noncomputable def uIn (t:Tsk) (n2 cst idd:Int) (s:UT) (a:Suc):Option (Ctl UT (Ctl US (Rsl×Err))):=bnd (BK s.2.2.2.1.reg a.state) fun q=>if q.2.2.1.n≠0 then (bnd (Cl 3 n2) fun z=>some (.ret (.ret (z.1,(⟨z.2.n⟩:Err))))) else (bnd (atI t.ops a.op) fun o=>bnd (chkI (cst + o.cost)) fun n=>bnd (if q.2.1=true then (bnd (appI 8 s.1 [n]) fun u=>bnd (appI 1 s.2.1 [false]) fun v=>some (.done (u,v))) else (bnd (bnd (atI s.2.1 q.1) fun b=>if b=true then (some true) else (bnd (atI s.1 q.1) fun c=>if c≤n then (some true) else (some false)):Option Bool) fun y=>if y=true then (some (.ret (.next (s.1,s.2.1,s.2.2.1,(⟨s.2.2.2.1.t,q.2.2.2,s.2.2.2.1.gen⟩:Spc),s.2.2.2.2)))) else (some (.done (s.1,s.2.1)))):Option (Fin ((List Int)×(List Bool)) (Ctl UT (Ctl US (Rsl×Err))))) fun y=>fin y fun (z:(List Int)×(List Bool))=>bnd (atI z.1 q.1) fun _=>bnd (BL q.2.2.2 q.1 idd a.op n) fun k=>if k.1.n≠0 then (some (.ret (.ret ((⟨0,([]:List Int),0,0⟩:Rsl),(⟨k.1.n⟩:Err))))) else (bnd (Cq s.2.2.2.2 (⟨(⟨n,s.2.2.1,q.1⟩:Itm)⟩:AI)) fun h=>bnd (chkI (s.2.2.1 + 1)) fun m=>some (.next ((z.1.set (q.1:Int).toNat n),z.2,m,(⟨s.2.2.2.1.t,k.2,s.2.2.2.1.gen⟩:Spc),h))))
noncomputable def uniF (t:Tsk) (lim:Int):US→Option (Ctl US (Rsl×Err)):=fun s=>bnd (BF s.2.2.2.2.2.l) fun q=>if 0 < q then (bnd (Ct s.2.2.2.2.2) fun e=>bnd (atI s.2.1 e.1.x.id) fun b=>if b=true then (some (.next (s.1,s.2.1,s.2.2.1,s.2.2.2.1,s.2.2.2.2.1,e.2))) else (bnd (BU s.2.2.2.2.1.reg e.1.x.id) fun w=>if w.2.n≠0 then (some (.ret ((⟨0,([]:List Int),0,0⟩:Rsl),(⟨w.2.n⟩:Err)))) else (bnd (DJ t.goal w.1) fun g=>if g=true then bnd (Ci s.2.2.2.2.1 e.1.x.id s.2.2.2.1) fun z=>some (.ret (z.1,(⟨z.2.n⟩:Err))) else if lim≤s.2.2.2.1 then (bnd (Cl 3 s.2.2.2.1) fun z=>some (.ret (z.1,(⟨z.2.n⟩:Err)))) else (bnd (atI s.2.1 e.1.x.id) fun _=>bnd (chkI (s.2.2.2.1 + 1)) fun n2=>bnd (Br s.2.2.2.2.1.gen w.1) fun l=>bnd (rng (ρ:=Ctl US (Rsl×Err)) (fun (_:Nat) (a:Suc) (y:UT)=>uIn t n2 e.1.x.cost e.1.x.id y a) l 0 (s.1,(s.2.1.set (e.1.x.id:Int).toNat true),s.2.2.1,s.2.2.2.2.1,e.2)) fun r=>fin r fun (z:UT)=>some (.next (z.1,z.2.1,z.2.2.1,n2,z.2.2.2.1,z.2.2.2.2)))))) else (some (.brk s))
noncomputable def uniE:Fin US (Rsl×Err)→Option (Rsl×Err):=fun r=>fin r fun (s:US)=>bnd (Cl 2 s.2.2.2.1) fun q=>some (q.1,(⟨q.2.n⟩:Err))
theorem RH (t:Tsk) (lim:Int):Cf t lim=bnd (Db t) fun q=>if q.2.n≠0 then (some ((⟨0,([]:List Int),0,0⟩:Rsl),(⟨q.2.n⟩:Err))) else (bnd q.1 fun o=>bnd (lop (uniF t lim) (([0]:List Int),[false],1,0,o,(⟨[(⟨0,0,0⟩:Itm)]⟩:BQ))) uniE):=rfl
theorem Nv {t:Tsk} {s:List Int} {k:Nat} {o:Opr} (ho:t.ops[k]?=some o) (hp:holdsB o.pre s=true):(k:Int)∈appl t s:=by
  rw [SH,List.mem_map]
  exact ⟨k,List.mem_filter.2 ⟨List.mem_range.2 (AD ho),by rw [(Ox ho).1];exact hp⟩,rfl⟩
theorem JN {t:Tsk} {s:List Int} {C:Int} (hw:Walk t s C):WalkS t (appl t) s C:=by
  induction hw with
  | goal h=>exact .goal h
  | step ho hp _ ih=>exact .step ho (Nv ho hp) ih
theorem IM {t:Tsk} (hs:Few t) {r:Reg} {L:List (List Int)} (h:RegI t.vars r L):L.length≤600:=by
  refine Nat.le_trans (JM (Nu h.nodup) fun s hm=>?_) hs.many
  obtain ⟨i,hi⟩:=List.getElem?_of_mem hm
  exact GI.2 (h.st i s hi)
def KP (L:List (List Int)) (g:List Int) (fn:List Bool) (L':List (List Int)) (g':List Int) (fn':List Bool):Prop:=∀ j:Nat,fn'[j]?=some true→fn[j]?=some true∧g'[j]?=g[j]?∧L'[j]?=L[j]?
def HM (g:List Int) (fn:List Bool) (c:Int):Prop:=∀ (j:Nat) c',fn[j]?=some true→g[j]?=some c'→c'≤c
def CO (t:Tsk) (g:List Int) (fn:List Bool):Prop:=∀ (j:Nat) c',fn[j]?=some true→g[j]?=some c'→∀ C,Walk t t.init C→c'≤C
theorem KP.rfl {L:List (List Int)} {g:List Int} {fn:List Bool}:KP L g fn L g fn:=fun _ h=>⟨h,Eq.refl _,Eq.refl _⟩
theorem KP.upd {L L':List (List Int)} {g g':List Int} {fn fn':List Bool} {i:Nat} {s:List Int} {x:Int} (h1:UpL i s L L') (h2:UpL i x g g') (h3:UpL i false fn fn'):KP L g fn L' g' fn':=fun j hj=>by
  have hne:j≠i:=fun e=>by subst e;rw [h3.1] at hj;cases hj
  exact ⟨by rw [← h3.2 j hne];exact hj,h2.2 j hne,h1.2 j hne⟩
theorem HM.kp {L L':List (List Int)} {g g':List Int} {fn fn':List Bool} {c:Int} (h:HM g fn c) (k:KP L g fn L' g' fn'):HM g' fn' c:=fun j c' hj hc=>by
  obtain ⟨k1,k2,_⟩:=k j hj
  exact h j c' k1 (by rw [← k2];exact hc)
theorem CO.kp {t:Tsk} {L L':List (List Int)} {g g':List Int} {fn fn':List Bool} (h:CO t g fn) (k:KP L g fn L' g' fn'):CO t g' fn':=fun j c' hj hc=>by
  obtain ⟨k1,k2,_⟩:=k j hj
  exact h j c' k1 (by rw [← k2];exact hc)
theorem Tp {t:Tsk} (hs:Few t) {D:Nat→Int→Prop} {ord:Nat→Nat} {L:List (List Int)} {E:Nat} {g:List Int} {fn:List Bool} {order:Int} {x:Spc} {q:BQ} (hx:SQ t L x) (hinv:SrI t (appl t) D L (links x.reg) g fn (qs q.l) ord E) (hh:HeapOk (qs q.l)) (ho0:0≤order) (ho1:order≤100000) (hql:q.l.length≤100000) (hE:E≤601)
    {p k:Nat} {o:Opr} {sp:List Int} {cp n2:Int} (ho:t.ops[k]?=some o) (hsp:L[p]?=some sp) (hfp:fn[p]?=some true) (hpre:holdsB o.pre sp=true) (hgp:g[p]?=some cp) (hmax:HM g fn cp) (hcb:cp + 1048576≤(E:Int) * 1048576) :
    ∃ y:UT,uIn t n2 cp (p:Int) (g,fn,order,x,q) ⟨(k:Int),succ o sp⟩=some (.next y)∧∃ L',SQ t L' y.2.2.2.1∧SrI t (appl t) D L' (links y.2.2.2.1.reg) y.1 y.2.1 (qs y.2.2.2.2.l) ord E∧HeapOk (qs y.2.2.2.2.l)∧0≤y.2.2.1∧y.2.2.1≤order + 1∧y.2.2.2.2.l.length≤q.l.length + 1∧KP L g fn L' y.1 y.2.1∧L'[p]?=some sp∧y.2.1[p]?=some true∧y.1[p]?=some cp∧∃ (i:Nat) (c':Int),L'[i]?=some (succ o sp)∧y.1[i]?=some c'∧c'≤cp + o.cost:=by
  have hok:=hs.ok
  have hoo:=hok.2.2.2.2.2 k o ho
  have ho1':=hoo.1
  have ho2:=hoo.2.1
  have hL:=IM hs hx.reg
  have hcp:=(hinv.bound p cp hgp).1
  have hsok:StateOk t.vars (succ o sp):=Ik hok (hx.reg.st p sp hsp) ho
  have hgl:=hinv.leng
  have hfl:=hinv.lenf
  have hlkl:=PT hx.reg
  have hpl:=AD hsp
  unfold uIn
  dsimp only
  rcases Mi hok.1 hx.reg hsok (by omega) with ⟨i,hi,hadd⟩|⟨hno,r',hadd,hr',hlk⟩
  · have hil:=AD hi
    obtain ⟨ci,hci⟩:=AF (l:=g) (k:=i) (by omega)
    obtain ⟨b,hb⟩:=AF (l:=fn) (k:=i) (by omega)
    rw [hadd,Am,if_neg (by simp),By,ho,Am,BA (by unfold inI64;omega),Am]
    dsimp only
    rw [CT,By,hb,Am,By,hci,Am]
    have keep:ci≤cp + o.cost→∃ y:UT,(some (.next (g,fn,order,(⟨x.t,x.reg,x.gen⟩:Spc),q)):Option (Ctl UT (Ctl US (Rsl×Err))))=some (.next y)∧∃ L',SQ t L' y.2.2.2.1∧SrI t (appl t) D L' (links y.2.2.2.1.reg) y.1 y.2.1 (qs y.2.2.2.2.l) ord E∧HeapOk (qs y.2.2.2.2.l)∧0≤y.2.2.1∧y.2.2.1≤order + 1∧y.2.2.2.2.l.length≤q.l.length + 1∧KP L g fn L' y.1 y.2.1∧L'[p]?=some sp∧y.2.1[p]?=some true∧y.1[p]?=some cp∧∃ (i:Nat) (c':Int),L'[i]?=some (succ o sp)∧y.1[i]?=some c'∧c'≤cp + o.cost:=fun hle =>
      ⟨_,rfl,L,hx,hinv,hh,ho0,by dsimp only;omega,by dsimp only;omega,KP.rfl,hsp,hfp,hgp,i,ci,hi,hci,hle⟩
    cases b with
    | true =>
      rw [Di,Am,Di,Am]
      exact keep (by have:=hmax i ci hb hci;omega)
    | false =>
      rw [CT]
      by_cases hle:ci≤cp + o.cost
      · rw [if_pos hle,Am,Di,Am]
        exact keep hle
      · have hip:p≠i:=fun e=>by subst e;rw [hfp] at hb;cases hb
        obtain ⟨reg',s1,s2,s3⟩:=Ls hx.reg hil (p:=(p:Int)) (o:=(k:Int)) (c:=cp + o.cost) (.inr ⟨p,rfl,hpl⟩)
        obtain ⟨q',u1,u2,u3⟩:=Nt hh (by omega) ⟨cp + o.cost,order,(i:Int)⟩
        have hplen:=u3.length_eq
        simp only [List.length_cons,FO] at hplen
        rw [if_neg hle,Am,CT,Am,BO]
        dsimp only
        rw [By,hci,Am,s1,Am,if_neg (by simp),u1,Am,BA (by unfold inI64;omega),Am,Int.toNat_natCast]
        have v1:UpL i (succ o sp) L L:=Nn hi
        have v3:UpL i (cp + o.cost) g (g.set i (cp + o.cost)):=Oq (by omega)
        have v4:UpL i false fn fn:=Nn hb
        refine ⟨_,rfl,L,⟨hx.tt,hx.gen,s2⟩,?_,u2,by dsimp only;omega,by dsimp only;omega,by dsimp only;omega,KP.upd v1 v3 v4,hsp,hfp,?_,i,cp + o.cost,hi,v3.1,Int.le_refl _⟩
        · dsimp only
          rw [s3]
          exact hinv.upd hok v1 (Oq (by omega)) v3 v4 u3 rfl rfl (by simp;omega) (by simp;omega) (by omega) (by omega) rfl (.inr ⟨hi,hb,fun c hc=>by rw [hci] at hc;have:=Option.some.inj hc;omega⟩) ho hsp hfp hpre rfl hgp rfl hmax (by omega)
        · dsimp only;rw [v3.2 p hip];exact hgp
  · rw [hadd,Am,if_neg (by simp),By,ho,Am,BA (by unfold inI64;omega),Am]
    dsimp only
    have hg2:(g ++ [cp + o.cost])[L.length]?=some (cp + o.cost):=by rw [← hgl];simp
    obtain ⟨reg',s1,s2,s3⟩:=Ls hr' (i:=L.length) (by simp) (p:=(p:Int)) (o:=(k:Int)) (c:=cp + o.cost) (.inr ⟨p,rfl,by simp;omega⟩)
    obtain ⟨q',u1,u2,u3⟩:=Nt hh (by omega) ⟨cp + o.cost,order,((L.length:Nat):Int)⟩
    have hplen:=u3.length_eq
    simp only [List.length_cons,FO] at hplen
    rw [Di,Bz (by simp;omega) (by simp;omega),Am,Bz (by simp;omega) (by simp;omega),Am,Am,BO]
    dsimp only
    rw [By,hg2,Am,s1,Am,if_neg (by simp),u1,Am,BA (by unfold inI64;omega),Am,Int.toNat_natCast]
    have sc:(g ++ [cp + o.cost]).set L.length (cp + o.cost)=g ++ [cp + o.cost]:=by rw [← hgl];simp
    rw [sc]
    have hlk2:links reg'=links x.reg ++ [⟨(p:Int),(k:Int),cp + o.cost⟩]:=by rw [s3,hlk,← hlkl];simp
    have v1:UpL L.length (succ o sp) L (L ++ [succ o sp]):=Kd
    have v2:UpL L.length (⟨(p:Int),(k:Int),cp + o.cost⟩:RLk) (links x.reg) (links x.reg ++ [⟨(p:Int),(k:Int),cp + o.cost⟩]):=by rw [← hlkl];exact Kd
    have v3:UpL L.length (cp + o.cost) g (g ++ [cp + o.cost]):=by rw [← hgl];exact Kd
    have v4:UpL L.length false fn (fn ++ [false]):=by rw [← hfl];exact Kd
    have hne:p≠L.length:=by omega
    refine ⟨_,rfl,L ++ [succ o sp],⟨hx.tt,hx.gen,s2⟩,?_,u2,by dsimp only;omega,by dsimp only;omega,by dsimp only;omega,KP.upd v1 v3 v4,by rw [v1.2 p hne];exact hsp,by dsimp only;rw [v4.2 p hne];exact hfp,by dsimp only;rw [v3.2 p hne];exact hgp,L.length,cp + o.cost,v1.1,v3.1,Int.le_refl _⟩
    dsimp only
    rw [hlk2]
    exact hinv.upd hok v1 v2 v3 v4 u3 rfl rfl (by simp;omega) (by simp;omega) (by simp;omega) (by simp) (RB _) (.inl (List.getElem?_eq_none (Nat.le_refl _))) ho hsp hfp hpre rfl hgp rfl hmax (by omega)
structure UJ (t:Tsk) (D:Nat→Int→Prop) (ord:Nat→Nat) (E N:Nat) (i:Nat) (s:List Int) (c:Int) (L:List (List Int)) (y:UT):Prop where
  sq:SQ t L y.2.2.2.1
  inv:SrI t (appl t) D L (links y.2.2.2.1.reg) y.1 y.2.1 (qs y.2.2.2.2.l) ord E
  heap:HeapOk (qs y.2.2.2.2.l)
  ord0:0≤y.2.2.1
  ord1:y.2.2.1≤(N:Int) + 1
  qlen:y.2.2.2.2.l.length≤N
  hi:L[i]?=some s
  hf:y.2.1[i]?=some true
  hc:y.1[i]?=some c
  hm:HM y.1 y.2.1 c
  co:CO t y.1 y.2.1
theorem Tq {t:Tsk} (hs:Few t) {ord:Nat→Nat} {E N i:Nat} {s:List Int} {c n2:Int} {L:List (List Int)} {y:UT} (h:UJ t (fun j _=>j≠i) ord E N i s c L y) (hN:N≤90000) (hE:E≤601) (hcb:c + 1048576≤(E:Int) * 1048576) :
    ∃ y':UT,rng (ρ:=Ctl US (Rsl×Err)) (fun (_:Nat) (a:Suc) (y:UT)=>uIn t n2 c (i:Int) y a) ((appS t s).map (sucOf t s)) 0 y=some (.done y')∧∃ L',UJ t (fun _ _=>True) ord E (N + 80) i s c L' y':=by
  have hok:=hs.ok
  have hops:t.ops.length≤80:=hs.ops
  have hsok:=h.sq.reg.st i s h.hi
  have hlen:(appl t s).length≤80:=Nat.le_trans (MX t s) hops
  rw [Ij hsok]
  obtain ⟨y',h1,h2⟩:=EI (ρ:=Ctl US (Rsl×Err)) (f:=fun (_:Nat) (a:Suc) (y:UT)=>uIn t n2 c (i:Int) y a) (xs:=(appl t s).map (sucOf t s)) (s₀:=y) (fun m z=>∃ L',UJ t (fun j q=>j≠i∨q∈(appl t s).take m) ord E (N + m) i s c L' z)
    ⟨L, { h with inv:={ h.inv with rel:=fun j s' q hj hs' hq hd=>h.inv.rel j s' q hj hs' hq (by rcases hd with hd|hd;exact hd;simp at hd) } }⟩ (fun m a z hm hz=>by
      rw [List.getElem?_map] at hm
      obtain ⟨op,hop,rfl⟩:=Option.map_eq_some_iff.1 hm
      obtain ⟨L',hz⟩:=hz
      obtain ⟨k,o,rfl,ho,hp⟩:=MW (List.mem_of_getElem? hop)
      have hml:=AD hop
      have hq:=hz.qlen
      have hoo:=hz.ord1
      have e1:sucOf t s (k:Int)=⟨(k:Int),succ o s⟩:=by rw [RG,(Ox ho).2]
      obtain ⟨g,fn,order,x,q⟩:=z
      obtain ⟨z',z1,L'',z2,z3,z4,z5,z6,z7,z8,z9,z10,z11,i',c',z12,z13,z14⟩:=Tp hs (n2:=n2) hz.sq hz.inv hz.heap hz.ord0 (by have:=hz.ord1;dsimp only at this;omega) (by have:=hz.qlen;dsimp only at this;omega) hE ho hz.hi hz.hf hp hz.hc hz.hm hcb
      try dsimp only at hq
      try dsimp only at hoo
      try dsimp only at z6
      try dsimp only at z7
      refine ⟨z',by rw [e1];exact z1,L'',⟨z2,?_,z4,z5,by omega,by omega,z9,z10,z11,hz.hm.kp z8,hz.co.kp z8⟩⟩
      refine z3.more (j₀:=i) (q₀:=(k:Int)) (fun j q hd=>?_) z9 rfl ho z12 z11 z13 z14
      rcases hd with hd|hd
      · exact .inl (.inl hd)
      · rcases (Nj hop).1 hd with hd|rfl
        · exact .inl (.inr hd)
        · by_cases e:j=i
          · exact .inr ⟨e,rfl⟩
          · exact .inl (.inl e))
  obtain ⟨L',h2⟩:=h2
  rw [List.length_map] at h2
  refine ⟨y',h1,L',?_⟩
  have hinv:=h2.inv
  have hq:=h2.qlen
  have hoo:=h2.ord1
  exact { h2 with
    inv:={ hinv with rel:=fun j s' q hj hs' hq hd=>hinv.rel j s' q hj hs' hq (by
      by_cases e:j=i
      · right;rw [List.take_length];subst e;rw [h2.hi] at hs';obtain rfl:=Option.some.inj hs';exact hq
      · exact .inl e) }
    ord1:=by omega
    qlen:=by omega }
structure UI (t:Tsk) (ord:Nat→Nat) (N:Nat) (L:List (List Int)) (s:US):Prop where
  sq:SQ t L s.2.2.2.2.1
  inv:SrI t (appl t) (fun _ _=>True) L (links s.2.2.2.2.1.reg) s.1 s.2.1 (qs s.2.2.2.2.2.l) ord s.2.2.2.1.toNat
  heap:HeapOk (qs s.2.2.2.2.2.l)
  ord0:0≤s.2.2.1
  ord1:s.2.2.1≤(N:Int) + 1
  qlen:s.2.2.2.2.2.l.length≤N
  exp0:0≤s.2.2.2.1
  co:CO t s.1 s.2.1
  nn:(N:Int)≤1 + 80 * s.2.2.2.1
theorem UI.exp {t:Tsk} (hs:Few t) {ord:Nat→Nat} {N:Nat} {L:List (List Int)} {s:US} (h:UI t ord N L s):s.2.2.2.1≤600:=by
  have h1:=h.inv.num
  have h2:=PR s.2.1
  have h3:=h.inv.lenf
  have h4:=IM hs h.sq.reg
  have:=h.exp0
  omega
theorem SrI.ways {t:Tsk} {L:List (List Int)} {lk:List RLk} {g:List Int} {fn:List Bool} {hp:List QEn} {ord:Nat→Nat} {E:Nat} (h:SrI t (appl t) (fun _ _=>True) L lk g fn hp ord E) (hok:TaskOk t) {s0 p s:List Int} {C:Int} (hw:PlanR t s0 p s C):∀ (i:Nat) c,L[i]?=some s0→g[i]?=some c→(∃ e∈hp,e.key≤c + C)∨∃ i:Nat,L[i]?=some s∧fn[i]?=some true:=by
  induction hw with
  | nil =>
    intro i c hi hc
    obtain ⟨b,hb⟩:=AF (l:=fn) (k:=i) (by rw [h.lenf];exact AD hi)
    cases b with
    | false=>obtain ⟨e,m,k1,_⟩:=h.opn i c hb hc;exact .inl ⟨e,m,by omega⟩
    | true=>exact .inr ⟨i,hi,hb⟩
  | @cons s0 rest s' k o C ho hpre hr ih =>
    intro i c hi hc
    have h1:=(hr.bound hok).1
    have h2:=(hok.2.2.2.2.2 k o ho).1
    obtain ⟨b,hb⟩:=AF (l:=fn) (k:=i) (by rw [h.lenf];exact AD hi)
    cases b with
    | false=>obtain ⟨e,m,k1,_⟩:=h.opn i c hb hc;exact .inl ⟨e,m,by omega⟩
    | true =>
      obtain ⟨k',o',i',c0,c',a1,a2,a3,a4,a5,a6⟩:=h.rel i s0 _ hb hi (Nv ho hpre) trivial
      have e1:k=k':=by omega
      subst e1
      rw [ho] at a2
      obtain rfl:=Option.some.inj a2
      rw [hc] at a4
      obtain rfl:=Option.some.inj a4
      rcases ih i' c' a3 a5 with ⟨e,m,k1⟩|h3
      · exact .inl ⟨e,m,by omega⟩
      · exact .inr h3
theorem SJ {t:Tsk} (hs:Few t) {ord:Nat→Nat} {N:Nat} {L:List (List Int)} {st:US} (h:UI t ord N L st) :
    (∃ st':US,(∀ lim,uniF t lim st=some (.next st'))∧UI t ord N L st'∧st'.2.2.2.1=st.2.2.2.1∧st'.2.2.2.2.2.l.length < st.2.2.2.2.2.l.length) ∨
    ((∀ lim,uniF t lim st=some (.brk st))∧st.2.2.2.2.2.l.length=0) ∨
    (∃ p c,(∀ lim,uniF t lim st=some (.ret (⟨1,p,c,st.2.2.2.1⟩,⟨0⟩)))∧p.length≤600∧(∃ s',PlanR t t.init p s' c∧holdsB t.goal s'=true)∧(∀ e∈qs st.2.2.2.2.2.l,c≤e.key)) ∨
    (∃ (st':US) (ord':Nat→Nat) (N':Nat) (L':List (List Int)),(∀ lim,uniF t lim st=if lim≤st.2.2.2.1 then some (.ret (⟨3,[],0,st.2.2.2.1⟩,⟨0⟩)) else some (.next st'))∧UI t ord' N' L' st'∧st'.2.2.2.1=st.2.2.2.1 + 1∧∃ (i:Nat) (s:List Int) (c:Int),L[i]?=some s∧st.2.1[i]?=some false∧st.1[i]?=some c∧holdsB t.goal s=false∧∀ C,Walk t t.init C→c≤C):=by
  have hok:=hs.ok
  have hE:=h.exp hs
  have hE0:=h.exp0
  have hnn:=h.nn
  have hql:=h.qlen
  obtain ⟨g,fn,order,exp,x,q⟩:=st
  dsimp only at hE hE0 hnn hql ⊢
  by_cases h0:q.l.length=0
  · refine .inr (.inl ⟨fun lim=>?_,h0⟩)
    unfold uniF BF
    dsimp only
    rw [Am,if_neg (by omega)]
  obtain ⟨pr,p1,e,q',rfl,p3,p4,p5⟩:=RE (q:=q) h.heap (by omega) (by omega)
  have hem:toQ e∈qs q.l:=p4.mem_iff.2 List.mem_cons_self
  obtain ⟨i,hei,hil,hek⟩:=h.inv.ent _ hem
  change e.id=(i:Int) at hei
  obtain ⟨s,hsi⟩:=AF (l:=L) (k:=i) hil
  obtain ⟨b,hb⟩:=AF (l:=fn) (k:=i) (by have:=h.inv.lenf;dsimp only at this;omega)
  obtain ⟨c,hc⟩:=AF (l:=g) (k:=i) (by have:=h.inv.leng;dsimp only at this;omega)
  have hpl:=p4.length_eq
  simp only [List.length_cons,FO] at hpl
  cases b with
  | true =>
    refine .inl ⟨(g,fn,order,exp,x,q'),fun lim=>?_,⟨h.sq,h.inv.drop p4 hei (.inl hb),p3,h.ord0,h.ord1,by dsimp only;omega,h.exp0,h.co,h.nn⟩,rfl,by dsimp only;omega⟩
    unfold uniF BF
    dsimp only
    rw [Am,if_pos (by omega),p1,Am]
    dsimp only
    rw [hei,By,hb,Am,Di]
  | false =>
    have hke:e.cost=c:=by
      obtain ⟨e',m,k1,_⟩:=h.inv.opn i c hb hc
      have h1:=Nk (p5 e' m)
      have h2:=hek c hc
      change c≤e.cost at h2
      change e.cost≤e'.key at h1
      omega
    have start:∀ lim,uniF t lim (g,fn,order,exp,x,q)=if holdsB t.goal s=true then bnd (Ci x (i:Int) exp) fun z=>some (.ret (z.1,(⟨z.2.n⟩:Err))) else if lim≤exp then (some (.ret (⟨3,[],0,exp⟩,⟨0⟩))) else (bnd (atI fn (i:Int)) fun _=>bnd (chkI (exp + 1)) fun n2=>bnd (Br x.gen s) fun l=>bnd (rng (ρ:=Ctl US (Rsl×Err)) (fun (_:Nat) (a:Suc) (y:UT)=>uIn t n2 c (i:Int) y a) l 0 (g,(fn.set i true),order,x,q')) fun r=>fin r fun (z:UT)=>some (.next (z.1,z.2.1,z.2.2.1,n2,z.2.2.2.1,z.2.2.2.2))):=by
      intro lim
      unfold uniF BF Cl
      dsimp only
      rw [Am,if_pos (by omega),p1,Am]
      dsimp only
      rw [hei,hke,By,hb,Am,CT,NP hok.1 h.sq.reg hsi,Am,if_neg (by simp),PL,Am,Int.toNat_natCast,Am]
    have hkey:g[i]?=some (toQ e).key:=by rw [hc,← hke];rfl
    have hleast:∀ e'∈qs q.l,c≤e'.key:=fun e' m=>by have:=Nk (p5 e' m);change e.cost≤e'.key at this;omega
    have hchp:∀ C,Walk t t.init C→c≤C:=fun C hw=>by
      obtain ⟨e',m,k1⟩:=h.inv.front hok (JN hw) 0 0 h.inv.root h.inv.root0
      have:=hleast e' m
      omega
    by_cases hg:holdsB t.goal s=true
    · obtain ⟨p,g1,g2,g3⟩:=h.inv.path hsi hc
      have hL:=IM hs h.sq.reg
      have hnum:=h.inv.num
      have hcl:=PR fn
      have hfl:=h.inv.lenf
      dsimp only at g1 g2 g3 hnum hcl hfl
      refine .inr (.inr (.inl ⟨p,c,fun lim=>?_,by omega,⟨s,g2,hg⟩,hleast⟩))
      rw [start,if_pos hg]
      unfold Ci
      rw [Rz h.sq.reg (by omega) g1 (by omega),Am,if_neg (by simp),h.sq.tt,SI hok g2 0 0 (by omega) (by omega),Am,BO,Int.zero_add,Am]
    · have hgf:holdsB t.goal s=false:=by simpa using hg
      have hm:=h.inv.mark p4 p5 hei hb hkey hsi hgf
      have hbd:=h.inv.bound i c hc
      dsimp only at hm hbd
      rw [Int.toNat_of_nonneg hE0] at hbd
      have hfl:i < fn.length:=AD hb
      have hset:∀ (j:Nat) c',(fn.set i true)[j]?=some true→g[j]?=some c'→c'≤c∧∀ C,Walk t t.init C→c'≤C:=fun j c' hj hc'=>by
        by_cases e1:i=j
        · subst e1
          rw [hc] at hc'
          obtain rfl:=Option.some.inj hc'
          exact ⟨Int.le_refl _,hchp⟩
        · rw [List.getElem?_set_ne e1] at hj
          exact ⟨by have:=h.inv.lower j c' hj hc' _ hem;change c'≤e.cost at this;omega,h.co j c' hj hc'⟩
      obtain ⟨y',y1,L',y2⟩:=Tq hs (n2:=exp + 1) (E:=exp.toNat + 1) (N:=N) (i:=i) (s:=s) (c:=c) (L:=L) (y:=(g,fn.set i true,order,x,q')) ⟨h.sq,hm,p3,h.ord0,h.ord1,by dsimp only;omega,hsi,List.getElem?_set_self hfl,hc,fun j c' hj hc'=>(hset j c' hj hc').1,fun j c' hj hc'=>(hset j c' hj hc').2⟩ (by omega) (by omega) (by
        have:((exp.toNat + 1:Nat):Int)=exp + 1:=by omega
        rw [this];omega)
      have hsok:=h.sq.reg.st i s hsi
      refine .inr (.inr (.inr ⟨(y'.1,y'.2.1,y'.2.2.1,exp + 1,y'.2.2.2.1,y'.2.2.2.2),(fun j=>if j=i then exp.toNat else ord j),N + 80,L',fun lim=>?_,⟨y2.sq,?_,y2.heap,y2.ord0,y2.ord1,y2.qlen,by dsimp only;omega,y2.co,by dsimp only;omega⟩,rfl,i,s,c,hsi,hb,hc,hgf,hchp⟩))
      · rw [start,if_neg hg]
        by_cases hlim:lim≤exp
        · rw [if_pos hlim,if_pos hlim]
        · rw [if_neg hlim,if_neg hlim,By,hb,Am,BA (by unfold inI64;omega),Am,h.sq.gen,Rq hok (PU hok hsok),Am,y1,Am,BO]
      · dsimp only
        rw [show (exp + 1).toNat=exp.toNat + 1 from by omega]
        exact y2.inv
end
section
open Go Go.RowKit
def Cheap (t:Tsk) (s:List Int):Prop:=holdsB t.goal s=false∧∃ p c,PlanR t t.init p s c∧c≤1000000000∧∀ C,Walk t t.init C→c≤C
def ResU (t:Tsk) (m:Int) (r:Rsl):Prop:=0≤r.expanded∧r.expanded≤m∧∃ M:List (List Int),M.Nodup∧(M.length:Int)=r.expanded∧(∀ s∈M,Cheap t s) ∧
  ((r.verdict=1∧r.plan.length≤600∧(∃ s',PlanR t t.init r.plan s' r.cost∧holdsB t.goal s'=true)∧(∀ C,Walk t t.init C→r.cost≤C)∧∀ s p c,PlanR t t.init p s c→c < r.cost→s∈M) ∨
   (r.verdict=2∧r.plan=[]∧r.cost=0∧(∀ C,¬ Walk t t.init C)∧∀ s p c,PlanR t t.init p s c→s∈M) ∨
   (r.verdict=3∧r.plan=[]∧r.cost=0∧m≤r.expanded∧∃ s,¬ s∈M∧Cheap t s))
def outU:Fin US (Rsl×Err)→Rsl
  | .done s=>⟨2,[],0,s.2.2.2.1⟩
  | .ret r=>r.1
section
variable {t : Tsk} {ord : Nat → Nat} {N : Nat} {L : List (List Int)} {st : US}
theorem UI.set (hs:Few t) (h:UI t ord N L st):(marked L st.2.1).Nodup∧((marked L st.2.1).length:Int)=st.2.2.2.1∧∀ s∈marked L st.2.1,Cheap t s:=by
  have hE:=h.exp hs
  have hE0:=h.exp0
  refine ⟨(Nu h.sq.reg.nodup).sublist (Lv _ _),?_,fun s hm=>?_⟩
  · rw [Lu L st.2.1 h.inv.lenf,h.inv.num,Int.toNat_of_nonneg h.exp0]
  · obtain ⟨i,hi,hb⟩:=Hh hm
    obtain ⟨c,hc⟩:=AF (l:=st.1) (k:=i) (by rw [h.inv.leng];exact AD hi)
    obtain ⟨p,_,g2,_⟩:=h.inv.path hi hc
    have:=h.inv.bound i c hc
    rw [Int.toNat_of_nonneg hE0] at this
    exact ⟨h.inv.nogoal i s hb hi,p,c,g2,by omega,h.co i c hb hc⟩
theorem UI.len (hs:Few t) (h:UI t ord N L st):st.2.2.2.2.2.l.length≤90000:=by
  have h1:=h.exp hs
  have h2:=h.qlen
  have h3:=h.nn
  have:=h.exp0
  omega
end
theorem RI {M K a q q' n:Nat} (ha:a < M) (h:(M - a) * K + q < n + 1) (hq:q' < K):(M - (a + 1)) * K + q' < n:=by
  obtain ⟨b,hb⟩:∃ b,M - a=b + 1:=⟨M - a - 1,by omega⟩
  have hb':M - (a + 1)=b:=by omega
  rw [hb,Nat.add_mul,Nat.one_mul] at h
  rw [hb']
  omega
theorem Ts {t:Tsk} (hs:Few t) (lim:Int):∀ (n:Nat) (st:US) (ord:Nat→Nat) (N:Nat) (L:List (List Int)),UI t ord N L st→st.2.2.2.1≤max lim 0→(601 - st.2.2.2.1.toNat) * 100000 + st.2.2.2.2.2.l.length < n→∃ f,lop (uniF t lim) st=some f∧uniE f=some (outU f,⟨0⟩)∧ResU t (max lim 0) (outU f)∧st.2.2.2.1≤(outU f).expanded∧∀ lim',(outU f).verdict≠3→(outU f).expanded≤max lim' 0→lop (uniF t lim') st=some f:=by
  intro n
  induction n with
  | zero=>intro st ord N L _ _ hn;omega
  | succ n ih =>
    intro st ord N L h hsl hn
    have hE:=h.exp hs
    have hE0:=h.exp0
    have hok:=hs.ok
    obtain ⟨m1,m2,m3⟩:=h.set hs
    rcases SJ hs h with ⟨st',h1,h2,h3,h4⟩|⟨h1,h2⟩|⟨p,c,h1,h2,h3,h4⟩|⟨st',ord',N',L',h1,h2,h3,i,s,c,h4,h5,h6,h7,h8⟩
    · obtain ⟨f,f1,f0,f2,f3,f4⟩:=ih st' ord N L h2 (by omega) (by rw [h3];omega)
      refine ⟨f,by rw [Fb,h1];exact f1,f0,f2,by omega,fun lim' hv hl=>?_⟩
      rw [Fb,h1];exact f4 lim' hv hl
    · have hnil:∀ e,¬ e∈qs st.2.2.2.2.2.l:=fun e he=>by
        have:=List.length_pos_of_mem he
        rw [FO] at this
        omega
      refine ⟨.done st,by rw [Fb,h1],rfl,⟨hE0,hsl,marked L st.2.1,m1,m2,m3,.inr (.inl ⟨rfl,rfl,rfl,fun C hw=>?_,fun s p c hp=>?_⟩)⟩,Int.le_refl _,fun lim' _ _=>by rw [Fb,h1]⟩
      · obtain ⟨e',m,_⟩:=h.inv.front hok (JN hw) 0 0 h.inv.root h.inv.root0
        exact hnil e' m
      · rcases h.inv.ways hok hp 0 0 h.inv.root h.inv.root0 with ⟨e,m,_⟩|⟨i,i1,i2⟩
        · exact absurd m (hnil e)
        · exact IL i1 i2
    · refine ⟨.ret (⟨1,p,c,st.2.2.2.1⟩,⟨0⟩),by rw [Fb,h1],rfl,⟨hE0,hsl,marked L st.2.1,m1,m2,m3,.inl ⟨rfl,h2,h3,fun C hw=>?_,fun s p' c' hp hlt=>?_⟩⟩,Int.le_refl _,fun lim' _ _=>by rw [Fb,h1]⟩
      · obtain ⟨e',m,k⟩:=h.inv.front hok (JN hw) 0 0 h.inv.root h.inv.root0
        have:=h4 e' m
        show c≤C
        omega
      · rcases h.inv.ways hok hp 0 0 h.inv.root h.inv.root0 with ⟨e,m,k⟩|⟨i,i1,i2⟩
        · have:=h4 e m
          change c' < c at hlt
          omega
        · exact IL i1 i2
    · by_cases hlim:lim≤st.2.2.2.1
      · refine ⟨.ret (⟨3,[],0,st.2.2.2.1⟩,⟨0⟩),by rw [Fb,h1,if_pos hlim],rfl,⟨hE0,hsl,marked L st.2.1,m1,m2,m3,.inr (.inr ⟨rfl,rfl,rfl,by show max lim 0≤st.2.2.2.1;omega,s,fun hm=>?_,?_⟩)⟩,Int.le_refl _,fun lim' hv _=>absurd rfl hv⟩
        · obtain ⟨j,j1,j2⟩:=Hh hm
          have:=h.sq.reg.nodup i j s h4 j1
          subst this
          rw [h5] at j2
          cases j2
        · obtain ⟨p,_,g2,_⟩:=h.inv.path h4 h6
          have:=h.inv.bound i c h6
          rw [Int.toNat_of_nonneg hE0] at this
          exact ⟨h7,p,c,g2,by omega,h8⟩
      · have hmany:=h2.len hs
        obtain ⟨f,f1,f0,f2,f3,f4⟩:=ih st' ord' N' L' h2 (by omega) (by
          have:st'.2.2.2.1.toNat=st.2.2.2.1.toNat + 1:=by omega
          rw [this];exact RI (by omega) hn (by omega))
        refine ⟨f,by rw [Fb,h1,if_neg hlim];exact f1,f0,f2,by omega,fun lim' hv hl=>?_⟩
        rw [Fb,h1,if_neg (by omega)];exact f4 lim' hv hl
theorem SK {t:Tsk} {reg:Reg} (hr:RegI t.vars reg [t.init]) (hlk:links reg=[⟨-1,-1,0⟩]):UI t (fun _=>0) 1 [t.init] (([0]:List Int),[false],1,0,⟨t,reg,some ⟨t⟩⟩,(⟨[(⟨0,0,0⟩:Itm)]⟩:BQ)):=by
  have one:∀ {α:Type} {a b:α} {i:Nat},[a][i]?=some b→i=0∧b=a:=fun {α a b i} h=>by
    cases i with
    | zero=>simp at h;exact ⟨rfl,h.symm⟩
    | succ i=>simp at h
  refine ⟨⟨rfl,rfl,hr⟩,?_,fun j x y hj hx=>by have:=(one hx).1;omega,by simp,by simp,by simp,by simp,(fun j c hj=>by have:=(one hj).2;cases this),by simp⟩
  dsimp only
  rw [hlk]
  refine ⟨rfl,rfl,rfl,rfl,rfl,fun i s k c hi hk hc=>?_,fun i hi=>?_,fun j c hj=>?_,fun e he=>?_,fun i c hi hc=>?_,fun i c hc=>?_,fun j s hj=>?_,fun j s q hj=>?_,rfl,fun i s hi=>?_,fun hE=>by simp at hE⟩
  · obtain ⟨rfl,rfl⟩:=one hi
    obtain ⟨_,rfl⟩:=one hk
    obtain ⟨_,rfl⟩:=one hc
    exact .inl ⟨rfl,rfl,rfl⟩
  · have:=(one hi).2;cases this
  · have:=(one hj).2;cases this
  · have he':e=toQ ⟨0,0,0⟩:=by simpa [qs] using he
    subst he'
    refine ⟨0,rfl,by simp,fun c hc=>?_⟩
    have:=(one hc).2
    rw [this]
    decide
  · obtain ⟨rfl,_⟩:=one hi
    have:=(one hc).2
    refine ⟨toQ ⟨0,0,0⟩,by simp [qs],?_,rfl⟩
    rw [this];rfl
  · have:=(one hc).2
    rw [this]
    decide
  · have:=(one hj).2;cases this
  · have:=(one hj).2;cases this
  · obtain ⟨_,rfl⟩:=one hi;exact .init
theorem OW {t:Tsk} (hs:Few t) (lim:Int):∃ r,Cf t lim=some (r,⟨0⟩)∧ResU t (max lim 0) r∧(r.verdict≠3→∀ lim',r.expanded≤max lim' 0→Cf t lim'=some (r,⟨0⟩)):=by
  obtain ⟨reg,b1,b2,b3⟩:=Qx hs.ok
  have unf:∀ l,Cf t l=bnd (lop (uniF t l) (([0]:List Int),[false],1,0,(⟨t,reg,some ⟨t⟩⟩:Spc),(⟨[(⟨0,0,0⟩:Itm)]⟩:BQ))) uniE:=fun l=>by
    rw [RH,b1,Am,if_neg (by simp),Am]
  obtain ⟨f,f1,f0,f2,f3,f4⟩:=Ts hs lim _ _ _ _ _ (SK b2 b3) (by dsimp only;omega) (Nat.lt_succ_self _)
  refine ⟨outU f,by rw [unf,f1,Am,f0],f2,fun hv lim' hl=>?_⟩
  rw [unf,f4 lim' hv hl,Am,f0]
theorem OX {t:Tsk} (hs:Few t) {m:Int} {r:Rsl} (h:ResU t m r) (hm:600≤m):r.verdict≠3:=fun hv=>by
  obtain ⟨_,_,M,m1,m2,m3,h1|h1|⟨_,_,_,h4,s,h5,h6⟩⟩:=h
  · omega
  · omega
  · have h7:(s :: M).length≤(statesL t.vars).length:=JM (List.nodup_cons.2 ⟨h5,m1⟩) fun s' hm'=>by
      have hc:Cheap t s':=by
        rcases List.mem_cons.1 hm' with rfl|hm'
        · exact h6
        · exact m3 s' hm'
      obtain ⟨_,p,c,hp,_⟩:=hc
      exact GI.2 ((hp.rch .init).ok hs.ok)
    have:=hs.many
    rw [List.length_cons] at h7
    omega
end
section
open Go Go.RowKit
structure Fit (t:Tsk) (old:List ByteArray):Prop where
  ok:TaskOk t
  ops:t.ops.length≤10
  old:old.length≤6
  states:∀ k,(statesL (t.vars.take k)).length≤81
theorem OY {t:Tsk} (hok:TaskOk t):∃ r,FL t.vars 81=some r∧(r≤81→∀ k,(statesL (t.vars.take k)).length≤81):=by
  have hv:=hok.2.2.1
  have hz:∀ k,k≤0→(statesL (t.vars.take k)).length≤81:=fun k hk=>by
    have:k=0:=by omega
    subst this
    simp [statesL]
  unfold FL
  refine Il (fun m s=>s=((statesL (t.vars.take m)).length:Int)∧∀ k,k≤m→(statesL (t.vars.take k)).length≤81) (fun q=>q=82) ⟨by simp [statesL],hz⟩ ?_ ?_ ?_
  · rintro m n s hn ⟨rfl,hI⟩
    obtain ⟨n1,n2⟩:=hv m n hn
    have h1:=hI m (Nat.le_refl _)
    have h3:((statesL (t.vars.take (m + 1))).length:Int)=((statesL (t.vars.take m)).length:Int) * n:=by
      rw [EH hn,grows,HN,Int.natCast_mul,Int.toNat_of_nonneg (by omega)]
    have h4:((statesL (t.vars.take m)).length:Int) * n≤81 * 64:=Int.le_trans (Int.mul_le_mul_of_nonneg_right (show ((statesL (t.vars.take m)).length:Int)≤81 by omega) (by omega)) (Int.mul_le_mul_of_nonneg_left (by omega) (by omega))
    have h5:0≤((statesL (t.vars.take m)).length:Int) * n:=Int.mul_nonneg (by omega) (by omega)
    rw [BA (by unfold inI64;omega),Am,show min (max n 0) (81 + 1)=n from by omega,BA (by unfold inI64;omega),Am]
    by_cases hq:81 < ((statesL (t.vars.take m)).length:Int) * n
    · rw [if_pos hq]
      exact .inr ⟨82,rfl,rfl⟩
    · rw [if_neg hq]
      refine .inl ⟨_,rfl,h3.symm,fun k hk=>?_⟩
      by_cases e:k=m + 1
      · subst e;omega
      · exact hI k (by omega)
  · rintro s ⟨rfl,hI⟩
    refine ⟨_,rfl,fun _ k=>?_⟩
    rcases Nat.lt_or_ge t.vars.length k with h|h
    · have h2:=hI t.vars.length (Nat.le_refl _)
      rw [List.take_of_length_le (by omega)]
      rwa [List.take_length] at h2
    · exact hI k h
  · rintro q rfl
    exact ⟨82,rfl,fun h=>by omega⟩
theorem Qy (t:Tsk) (old:List ByteArray):∃ b,FN t old=some b∧(b=true→SmallOk t∧Fit t old):=by
  unfold FN Hx
  by_cases hs:SmallOk t
  case neg=>rw [Bd hs,Am,CT,Am];exact ⟨false,rfl,fun h=>by cases h⟩
  rw [Bo hs,Am,Di]
  by_cases h1:(t.ops.length:Int)≤10
  case neg=>rw [if_neg h1,Am];exact ⟨false,rfl,fun h=>by cases h⟩
  rw [if_pos h1]
  by_cases h2:(old.length:Int)≤6
  case neg=>rw [if_neg h2,Am];exact ⟨false,rfl,fun h=>by cases h⟩
  rw [if_pos h2]
  obtain ⟨r,hr,hr2⟩:=OY hs.ok
  rw [hr,Am]
  by_cases h3:r≤81
  · rw [if_pos h3,Am];exact ⟨true,rfl,fun _=>⟨hs,hs.ok,by omega,by omega,hr2 h3⟩⟩
  · rw [if_neg h3,Am];exact ⟨false,rfl,fun h=>by cases h⟩
section
variable {t : Tsk} {old : List ByteArray} {w : Int}
theorem Fit.mid (h:Fit t old) (hu:TaskOk (cmpT t old w)):Mid (cmpT t old w):=by
  refine ⟨hu,fun k=>?_,?_⟩
  · show (statesL ((t.vars ++ [(old.length:Int) + 1]).take k)).length≤600
    rcases Nat.lt_or_ge t.vars.length k with hk|hk
    · have e:(t.vars ++ [(old.length:Int) + 1]).take k=(t.vars ++ [(old.length:Int) + 1]).take (t.vars.length + 1):=by
        rw [List.take_of_length_le (by simp;omega),List.take_of_length_le (by simp)]
      rw [e,EH (n:=(old.length:Int) + 1) (by simp),grows,HN,List.take_append_of_le_length (Nat.le_refl _),List.take_length]
      have h1:=h.states t.vars.length
      rw [List.take_length] at h1
      have h2:=h.old
      have:(statesL t.vars).length * ((old.length:Int) + 1).toNat≤81 * 7:=Nat.mul_le_mul h1 (by omega)
      omega
    · rw [List.take_append_of_le_length hk]
      have:=h.states k
      omega
  · show ((cmpL t old w).map (·.1)).length≤80
    rw [List.length_map]
    have h1:=Nd t old w
    have h2:old.length * (t.ops.length + 1)≤6 * 11:=Nat.mul_le_mul h.old (by have:=h.ops;omega)
    have:=h.ops
    omega
theorem Oy {u:Tsk} {s P s':List Int} {C:Int} (h:PlanR u s P s' C):∀ (i:Nat) (k:Int),P[i]?=some k→∃ (j:Nat) (o:Opr),k=(j:Int)∧u.ops[j]?=some o:=by
  induction h with
  | nil=>intro i k hi;simp at hi
  | @cons s rest s' j o C ho _ _ ih =>
    intro i k hi
    cases i with
    | zero=>simp at hi;exact ⟨j,o,hi.symm,ho⟩
    | succ i=>exact ih i k (by simpa using hi)
theorem PV (L:List (Opr×Prt)) (P:List Int) (k:Int):mapP L (P ++ [k])=mapP L P ++ mapP L [k]:=by unfold mapP;rw [List.flatMap_append]
theorem IN (L:List (Opr×Prt)):∀ P:List Int,(mapP L P).length≤P.length
  | []=>by simp [mapP]
  | k :: P=>by
    have:=IN L P
    unfold mapP at this ⊢
    rw [List.flatMap_cons,List.length_append,List.length_cons]
    have h1:(partI L k).length≤1:=by
      unfold partI
      split
      · split<;>simp
      · simp
    omega
theorem OZ (h:Fit t old) (hw0:0≤w) (hw1:w≤1000) (hu:¬ TaskOk (cmpT t old w)) (lim:Int):Ca t old w lim=some (⟨0,[],0,0⟩,0,⟨checkN (cmpT t old w)⟩)∧checkN (cmpT t old w)≠0:=by
  have hn:checkN (cmpT t old w)≠0:=fun h=>hu (CS.1 h)
  refine ⟨?_,hn⟩
  unfold Ca
  rw [Lq h.ok (by have:=h.ops;omega) (by have:=h.old;omega) hw0 hw1,if_pos hn,Am,if_pos hn]
theorem Pa (h:Fit t old) (hw0:0≤w) (hw1:w≤1000) (hu:TaskOk (cmpT t old w)) (lim:Int):∃ r,Cf (cmpT t old w) lim=some (r,⟨0⟩)∧ResU (cmpT t old w) (max lim 0) r∧(r.verdict≠3→∀ lim',r.expanded≤max lim' 0→Cf (cmpT t old w) lim'=some (r,⟨0⟩)) ∧
    Ca t old w lim=some (if r.verdict≠1 then (r,0,⟨0⟩) else (⟨r.verdict,mapP (cmpL t old w) r.plan,r.cost,r.expanded⟩,(dist2 ((mapP (cmpL t old w) r.plan).map (nmO t)) old:Int),⟨0⟩)):=by
  obtain ⟨r,r1,r2,r3⟩:=OW (h.mid hu) lim
  refine ⟨r,r1,r2,r3,?_⟩
  unfold Ca
  rw [Lq h.ok (by have:=h.ops;omega) (by have:=h.old;omega) hw0 hw1,if_neg (by rw [CS.2 hu];simp),Am,if_neg (by simp)]
  dsimp only
  rw [r1,Am,if_neg (by simp)]
  by_cases hv:r.verdict≠1
  · rw [if_pos hv,if_pos hv]
  rw [if_neg hv,if_neg hv]
  obtain ⟨_,_,M,_,_,_,⟨_,hl,⟨s',hp,_⟩,_,_⟩|⟨hv2,_⟩|⟨hv2,_⟩⟩:=r2
  · have hol:=h.ops
    have hold:=h.old
    rw [DE (fun i=>(mapP (cmpL t old w) (r.plan.take i),(mapP (cmpL t old w) (r.plan.take i)).map (nmO t))) (by simp [mapP]) ?gg1,Am,BO,List.take_length]
    case gg1 =>
      intro i k hk
      have hkl:=AD hk
      obtain ⟨j,o,rfl,hj⟩:=Oy hp i k hk
      obtain ⟨q,hq,_⟩:=Ov hj
      have hml:=IN (cmpL t old w) (r.plan.take i)
      rw [List.length_take] at hml
      have htk:r.plan.take (i + 1)=r.plan.take i ++ [(j:Int)]:=by rw [List.take_add_one,hk];rfl
      rw [htk,PV,Mm hq,By,List.getElem?_map,hq,Option.map_some,Am]
      have hno:(0:Int)≤q.2.op→∃ (m:Nat) (o:Opr),q.2.op=(m:Int)∧t.ops[m]?=some o:=fun hop=>by
        rcases HB.1 (List.mem_of_getElem? hq) with ⟨m,o,hm,rfl⟩|⟨_,m,o,_,hm,rfl⟩|⟨p,_,_,rfl⟩
        · exact ⟨m,o,rfl,hm⟩
        · exact ⟨m,o,rfl,hm⟩
        · exact absurd (show (0:Int)≤-1 from hop) (by omega)
      by_cases hop:0≤q.2.op
      · obtain ⟨m,o',hm,hmo⟩:=hno hop
        rw [if_pos hop,if_pos hop,hm,By,hmo,Am,Bz (by simp;omega) (by simp;omega),Am,Bz (by simp;omega) (by simp;omega),Am]
        simp [mapP,Lt hmo]
      · rw [if_neg hop,if_neg hop]
        simp [mapP]
    have hml:=IN (cmpL t old w) r.plan
    dsimp only
    rw [SB (by simp;omega) (by omega),Am]
    rfl
  · exact absurd (by rw [hv2];decide) hv
  · exact absurd (by rw [hv2];decide) hv
theorem RJ (h:Fit t old) (hw0:0≤w) {m:Int} {r:Rsl} (hr:ResU (cmpT t old w) m r) (hv:r.verdict=1):∃ x c,PlanR t t.init (mapP (cmpL t old w) r.plan) x c∧holdsB t.goal x=true∧r.cost=c + w * (dist2 ((mapP (cmpL t old w) r.plan).map (nmO t)) old:Int) ∧
    ∀ π' x' c',PlanR t t.init π' x' c'→holdsB t.goal x'=true→r.cost≤c' + w * (dist2 (π'.map (nmO t)) old:Int):=by
  have hi:=h.ok.2.2.2.1.1
  have best:∀ π' x' c',(∀ C,Walk (cmpT t old w) (cmpT t old w).init C→r.cost≤C)→PlanR t t.init π' x' c'→holdsB t.goal x'=true→r.cost≤c' + w * (dist2 (π'.map (nmO t)) old:Int):=fun π' x' c' hb hp hg=>by
    have hx':x'.length=t.vars.length:=by
      have:∀ {s p s':List Int} {C:Int},PlanR t s p s' C→s'.length=s.length:=fun hp=>by
        induction hp with
        | nil=>rfl
        | cons _ _ _ ih=>rw [ih,FU]
      rw [this hp,hi]
    obtain ⟨P,hP⟩:=PS (w:=w) h.ok (JK (π'.map (nmO t)) old) t.init x' π' c' 0 hp rfl rfl (by omega) hi
    refine hb _ (hP.walk ?_)
    rw [KJ h.ok hx',hg];simp
  obtain ⟨_,_,M,_,_,_,⟨_,_,⟨s',hp,hg⟩,hb,_⟩|⟨hv2,_⟩|⟨hv2,_⟩⟩:=hr
  · obtain ⟨x',p',c,n,rfl,_,hp2,hpl,hscr,hC⟩:=Qv h.ok hp t.init 0 rfl hi (by omega)
    have hx':x'.length=t.vars.length:=by
      have:∀ {s p s':List Int} {C:Int},PlanR t s p s' C→s'.length=s.length:=fun hp=>by
        induction hp with
        | nil=>rfl
        | cons _ _ _ ih=>rw [ih,FU]
      rw [this hpl,hi]
    rw [KJ h.ok hx',Bool.and_eq_true,decide_eq_true_eq] at hg
    have hpe:p'=old.length:=by omega
    subst hpe
    rw [List.take_length,List.drop_zero] at hscr
    have hle:=Qu hscr
    have hbb:=best _ _ _ hb hpl hg.1
    refine ⟨x',c,hpl,hg.1,?_,fun π' x' c' h1 h2=>best π' x' c' hb h1 h2⟩
    have h1:w * (dist2 ((mapP (cmpL t old w) r.plan).map (nmO t)) old:Int)≤w * (n:Int):=Int.mul_le_mul_of_nonneg_left (by omega) hw0
    omega
  · omega
  · omega
theorem Qz (h:Fit t old) {m:Int} {r:Rsl} (hr:ResU (cmpT t old w) m r) (hv:r.verdict=2):r.plan=[]∧r.cost=0∧∀ π' x' c',PlanR t t.init π' x' c'→holdsB t.goal x'=true→False:=by
  have hi:=h.ok.2.2.2.1.1
  obtain ⟨_,_,M,_,_,_,⟨hv2,_⟩|⟨_,h1,h2,h3,_⟩|⟨hv2,_⟩⟩:=hr
  · omega
  · refine ⟨h1,h2,fun π' x' c' hp hg=>?_⟩
    have hx':x'.length=t.vars.length:=by
      have:∀ {s p s':List Int} {C:Int},PlanR t s p s' C→s'.length=s.length:=fun hp=>by
        induction hp with
        | nil=>rfl
        | cons _ _ _ ih=>rw [ih,FU]
      rw [this hp,hi]
    obtain ⟨P,hP⟩:=PS (w:=w) h.ok (JK (π'.map (nmO t)) old) t.init x' π' c' 0 hp rfl rfl (by omega) hi
    exact h3 _ (hP.walk (by rw [KJ h.ok hx',hg];simp))
  · omega
theorem ResU.verd {u:Tsk} {m:Int} {r:Rsl} (h:ResU u m r):r.verdict=1∨r.verdict=2∨r.verdict=3:=by
  obtain ⟨_,_,M,_,_,_,⟨h,_⟩|⟨h,_⟩|⟨h,_⟩⟩:=h<;>simp [h]
end
end
section
open Go Go.RowKit
theorem HC {p q:Prop}:(bof p || bof q)=bof (p∨q):=by
  by_cases h:p
  · rw [Bo h,Bo (p:=p∨q) (.inl h)];rfl
  · by_cases h2:q
    · rw [Bd h,Bo h2,Bo (p:=p∨q) (.inr h2)];rfl
    · rw [Bd h,Bd h2,Bd (p:=p∨q) (fun hh=>hh.elim h h2)];rfl
theorem Tt:bof False=false:=Bd id
theorem GO {α ρ:Type} {f:Nat→α→Bool→Option (Ctl Bool ρ)} {xs:List α} {b:Bool} (P:α→Prop) (h:∀ k x s,xs[k]?=some x→f k x s=some (.next (s || bof (P x)))):rng f xs 0 b=some (.done (b || bof (∃ x∈xs,P x))):=by
  rw [DE (fun k=>b || bof (∃ x∈xs.take k,P x)) ?a ?b,List.take_length]
  case a=>simp [Tt]
  case b =>
    intro k x hk
    rw [h k x _ hk,Bool.or_assoc,HC]
    congr 3
    rw [Gh]
    rw [List.take_add_one,hk]
    constructor
    · rintro (⟨y,hy,hp⟩|hp)
      · exact ⟨y,List.mem_append.2 (.inl hy),hp⟩
      · exact ⟨x,List.mem_append.2 (.inr (by simp)),hp⟩
    · rintro ⟨y,hy,hp⟩
      rcases List.mem_append.1 hy with hy|hy
      · exact .inl ⟨y,hy,hp⟩
      · obtain rfl:y=x:=by simpa using hy
        exact .inr hp
theorem RK {ρ:Type} {f:Nat→Bool→Option (Ctl Bool ρ)} {n:Nat} {b:Bool} (P:Nat→Prop) (h:∀ k s,k < n→f k s=some (.next (s || bof (P k)))):rngN f n b=some (.done (b || bof (∃ k,k < n∧P k))):=by
  unfold rngN
  rw [GO P (fun k x s hk=>h x s (List.mem_range.1 (List.mem_of_getElem? hk)))]
  congr 3
  rw [Gh]
  exact ⟨fun ⟨x,hx,hp⟩=>⟨x,List.mem_range.1 hx,hp⟩,fun ⟨x,hx,hp⟩=>⟨x,List.mem_range.2 hx,hp⟩⟩
theorem RL {p:Prop} {s:Bool}:(if s=true then some true else some (bof p))=some (s || bof p):=by cases s<;>rfl
theorem large5 (t:Tsk):Fd t=some (bof (Large t)):=by
  unfold Fd
  have e1:(if 64 < (t.vars.length:Int) then (some true) else (if 4096 < (t.ops.length:Int) then (some true) else (if 64 < (t.goal.length:Int) then (some true) else (some false))):Option Bool)=some (bof (64 < t.vars.length∨4096 < t.ops.length∨64 < t.goal.length)):=by
    by_cases h1:64 < t.vars.length
    · rw [if_pos (by omega),Bo (.inl h1)]
    · by_cases h2:4096 < t.ops.length
      · rw [if_neg (by omega),if_pos (by omega),Bo (.inr (.inl h2))]
      · by_cases h3:64 < t.goal.length
        · rw [if_neg (by omega),if_neg (by omega),if_pos (by omega),Bo (.inr (.inr h3))]
        · rw [if_neg (by omega),if_neg (by omega),if_neg (by omega),Bd (by omega)]
  rw [e1, Am,GO (fun o:Opr=>64 < o.pre.length∨64 < o.effs.length∨∃ e∈o.effs,64 < e.cond.length) (fun k o s hk=>by
    have e2:(if s=true then (some true) else (if 64 < (o.pre.length:Int) then (some true) else (if 64 < (o.effs.length:Int) then (some true) else (some false))):Option Bool)=some (s || bof (64 < o.pre.length∨64 < o.effs.length)):=by
      cases s with
      | true=>rfl
      | false =>
        rw [CT,Bool.false_or]
        by_cases h1:64 < o.pre.length
        · rw [if_pos (by omega),Bo (.inl h1)]
        · by_cases h2:64 < o.effs.length
          · rw [if_neg (by omega),if_pos (by omega),Bo (.inr h2)]
          · rw [if_neg (by omega),if_neg (by omega),Bd (by omega)]
    rw [e2,Am,GO (fun e:Eff=>64 < e.cond.length) (fun k e s hk=>by
      cases s with
      | true=>rfl
      | false =>
        rw [CT,Bool.false_or]
        by_cases h:64 < e.cond.length
        · rw [if_pos (by omega),Bo h]
        · rw [if_neg (by omega),Bd h]),Am,BO,Bool.or_assoc,HC,Gh or_assoc]),Am,BO,HC]
  refine congrArg some (Gh ?_)
  unfold Large
  constructor
  · rintro ((h|h|h)|⟨o,ho,h⟩)
    · exact .inl h
    · exact .inr (.inl h)
    · exact .inr (.inr (.inr ⟨_,DH.2 (.inl rfl),h⟩))
    · obtain ⟨i,hi⟩:=List.getElem?_of_mem ho
      rcases h with h|h|⟨e,he,h⟩
      · exact .inr (.inr (.inr ⟨_,DH.2 (.inr ⟨i,o,hi,.inl rfl⟩),h⟩))
      · exact .inr (.inr (.inl ⟨i,o,hi,h⟩))
      · obtain ⟨j,hj⟩:=List.getElem?_of_mem he
        exact .inr (.inr (.inr ⟨_,DH.2 (.inr ⟨i,o,hi,.inr ⟨j,e,hj,rfl⟩⟩),h⟩))
  · rintro (h|h|⟨i,o,ho,h⟩|⟨f,hf,h⟩)
    · exact .inl (.inl h)
    · exact .inl (.inr (.inl h))
    · exact .inr ⟨o,List.mem_of_getElem? ho,.inr (.inl h)⟩
    · rcases DH.1 hf with rfl|⟨i,o,ho,rfl|⟨j,e,he,rfl⟩⟩
      · exact .inl (.inr (.inr h))
      · exact .inr ⟨o,List.mem_of_getElem? ho,.inl h⟩
      · exact .inr ⟨o,List.mem_of_getElem? ho,.inr (.inr ⟨e,List.mem_of_getElem? he,h⟩)⟩
theorem outside5 (t:Tsk):Ez t=some (bof (¬ (VarsOk t∧CostsOk t))):=by
  unfold Ez
  rw [GO (fun n:Int=>n < 1∨64 < n) (fun k n s hk=>by
    cases s with
    | true=>rfl
    | false =>
      rw [CT,Bool.false_or]
      by_cases h1:n < 1
      · rw [if_pos h1,Bo (.inl h1)]
      · by_cases h2:64 < n
        · rw [if_neg h1,if_pos h2,Bo (.inr h2)]
        · rw [if_neg h1,if_neg h2,Bd (by omega)]),Am,BO,GO (fun o:Opr=>o.cost < 0∨1048576 < o.cost) (fun k o s hk=>by
    cases s with
    | true=>rfl
    | false =>
      rw [CT,Bool.false_or]
      by_cases h1:o.cost < 0
      · rw [if_pos h1,Bo (.inl h1)]
      · by_cases h2:1048576 < o.cost
        · rw [if_neg h1,if_pos h2,Bo (.inr h2)]
        · rw [if_neg h1,if_neg h2,Bd (by omega)]),Am,BO,Bool.false_or,HC]
  refine congrArg some (Gh ?_)
  constructor
  · rintro (⟨n,hn,h⟩|⟨o,ho,h⟩) ⟨h1,h2⟩
    · obtain ⟨i,hi⟩:=List.getElem?_of_mem hn
      have:=h1 i n hi;omega
    · obtain ⟨i,hi⟩:=List.getElem?_of_mem ho
      have:=h2 i o hi;omega
  · intro h
    refine Classical.byContradiction fun hn=>h ⟨fun i n hi=>?_,fun i o hi=>?_⟩
    · refine Classical.byContradiction fun hh=>hn (.inl ⟨n,List.mem_of_getElem? hi,by omega⟩)
    · refine Classical.byContradiction fun hh=>hn (.inr ⟨o,List.mem_of_getElem? hi,by omega⟩)
theorem Oz {p:Prop}:(if bof p=true then some false else some true)=some (bof (¬ p)):=by
  by_cases h:p
  · rw [Bo h,Bd (fun hh=>hh h)];rfl
  · rw [Bd h,Bo h];rfl
theorem malformed5 (t:Tsk):DR t=some (bof (¬ (StateOk t.vars t.init∧CondsOk t∧EffsOk t))):=by
  unfold DR Hw Es
  have e1:(bnd (some (bof (StateOk t.vars t.init))) fun q27=>if q27=true then bnd (some (bof (FactsOk t.vars t.goal))) fun q34=>if q34=true then some false else some true else some true:Option Bool)=some (bof (¬ StateOk t.vars t.init∨¬ FactsOk t.vars t.goal)):=by
    rw [Am,Am,Oz]
    by_cases h:StateOk t.vars t.init
    · rw [Bo h,Di]
      exact congrArg some (Gh ⟨fun h=>.inr h,fun hh=>hh.resolve_left (fun hn=>hn h)⟩)
    · rw [Bd h,CT,Bo (.inl h)]
  rw [e1, Am,GO (fun o:Opr=>¬ FactsOk t.vars o.pre∨∃ e∈o.effs,¬ EffOk t.vars e) (fun k o s hk=>by
    rw [Am,Oz,RL,Am,GO (fun e:Eff=>¬ EffOk t.vars e) (fun k e s hk=>by
      cases s with
      | true=>rfl
      | false =>
        rw [CT,Bool.false_or,Am]
        by_cases h1:FactsOk t.vars e.cond
        · rw [Bo h1,Di,Am]
          by_cases h2:FactsOk t.vars [⟨e.var,e.val⟩]
          · rw [Bo h2,Di,Bd (fun h=>h ⟨h1,Fi.1 h2⟩)]
          · rw [Bd h2,CT,Bo (fun h=>h2 (Fi.2 h.2))]
        · rw [Bd h1,CT,Bo (fun h=>h1 h.1)]),Am,BO,Bool.or_assoc,HC]),Am,BO,HC]
  refine congrArg some (Gh ?_)
  constructor
  · rintro ((h|h)|⟨o,ho,h⟩) ⟨h1,h2,h3⟩
    · exact h h1
    · exact h (h2 0 _ rfl)
    · obtain ⟨i,hi⟩:=List.getElem?_of_mem ho
      have hc:∀ f∈conds t,FactsOk t.vars f:=fun f hf=>by
        obtain ⟨i,hi⟩:=List.getElem?_of_mem hf
        exact h2 i f hi
      rcases h with h|⟨e,he,h⟩
      · exact h (hc _ (DH.2 (.inr ⟨i,o,hi,.inl rfl⟩)))
      · obtain ⟨j,hj⟩:=List.getElem?_of_mem he
        exact h ⟨hc _ (DH.2 (.inr ⟨i,o,hi,.inr ⟨j,e,hj,rfl⟩⟩)),h3 i o hi j e hj⟩
  · intro h
    refine Classical.byContradiction fun hn=>h ?_
    have g1:StateOk t.vars t.init:=Classical.byContradiction fun hh=>hn (.inl (.inl hh))
    have g2:FactsOk t.vars t.goal:=Classical.byContradiction fun hh=>hn (.inl (.inr hh))
    have g3:∀ o∈t.ops,FactsOk t.vars o.pre:=fun o ho=>Classical.byContradiction fun hh=>hn (.inr ⟨o,ho,.inl hh⟩)
    have g4:∀ o∈t.ops,∀ e∈o.effs,EffOk t.vars e:=fun o ho e he=>Classical.byContradiction fun hh=>hn (.inr ⟨o,ho,.inr ⟨e,he,hh⟩⟩)
    refine ⟨g1,fun i f hf=>?_,fun i o ho j e he=>(g4 o (List.mem_of_getElem? ho) e (List.mem_of_getElem? he)).2⟩
    rcases DH.1 (List.mem_of_getElem? hf) with rfl|⟨i,o,ho,rfl|⟨j,e,he,rfl⟩⟩
    · exact g2
    · exact g3 o (List.mem_of_getElem? ho)
    · exact (g4 o (List.mem_of_getElem? ho) e (List.mem_of_getElem? he)).1
theorem misnamed5 (t:Tsk):Eh t=some (bof (¬ NamesOk t)):=by
  unfold Eh
  rw [GO (fun o:Opr=>256 < o.name.size∨∃ k,k < o.name.size∧∃ h:k < o.name.size,(o.name[k]'h).toNat < 32∨126 < (o.name[k]'h).toNat) (fun k o s hk=>by
    have e2:(if s=true then (some true) else (if 256 < (o.name.size:Int) then (some true) else (some false)):Option Bool)=some (s || bof (256 < o.name.size)):=by
      cases s with
      | true=>rfl
      | false =>
        rw [CT,Bool.false_or]
        by_cases h:256 < o.name.size
        · rw [if_pos (by omega),Bo h]
        · rw [if_neg (by omega),Bd h]
    rw [e2,Am,RK (fun k=>∃ h:k < o.name.size,(o.name[k]'h).toNat < 32∨126 < (o.name[k]'h).toNat) (fun k s hk=>by
      cases s with
      | true=>rfl
      | false =>
        rw [CT,Bool.false_or,Rc hk,Am,Am]
        by_cases h1:(o.name[k]'hk).toNat < 32
        · rw [if_pos (by omega),Bo ⟨hk,.inl h1⟩]
        · by_cases h2:126 < (o.name[k]'hk).toNat
          · rw [if_neg (by omega),if_pos (by omega),Bo ⟨hk,.inr h2⟩]
          · rw [if_neg (by omega),if_neg (by omega),Bd (fun ⟨_,h⟩=>by omega)]),Am,BO,Bool.or_assoc,HC]),Am,BO,Bool.false_or]
  refine congrArg some (Gh ?_)
  constructor
  · rintro ⟨o,ho,h⟩ hn
    obtain ⟨i,hi⟩:=List.getElem?_of_mem ho
    obtain ⟨h1,h2⟩:=hn i o hi
    rcases h with h|⟨k,hk,_,h⟩
    · omega
    · have:=h2 k hk;omega
  · intro h
    refine Classical.byContradiction fun hn=>h fun i o ho=>?_
    have hm:=List.mem_of_getElem? ho
    refine ⟨Nat.le_of_not_lt fun hh=>hn ⟨o,hm,.inl hh⟩,fun k hk=>?_⟩
    refine Classical.byContradiction fun hh=>hn ⟨o,hm,.inr ⟨k,hk,hk,by omega⟩⟩
theorem LK {p:Prop}:bof (¬ p)=!bof p:=by
  by_cases h:p
  · rw [Bo h,Bd (fun hh=>hh h)];rfl
  · rw [Bd h,Bo h];rfl
theorem check5 (t:Tsk):DP t=some (checkN t):=by
  unfold DP checkN
  rw [large5,outside5,malformed5,misnamed5,LK,LK,LK]
  cases bof (Large t)<;>cases bof (VarsOk t∧CostsOk t)<;>cases bof (StateOk t.vars t.init∧CondsOk t∧EffsOk t)<;>cases bof (NamesOk t)<;>rfl
end
section
open Go Go.RowKit
theorem Nw {o:Opr} {v:Int} {p:Nat} (h1:o.pre.length≤1000) (h2:o.effs.length≤1000) (hp:p≤1000):Et o v (p:Int)=some (keptO o v (p:Int)):=by
  unfold Et
  rw [BA (by unfold inI64;omega),Am,Bz (by simp;omega) (by simp;omega),Am,List.nil_append,Bz (by simp;omega) (by simp;omega),Am,Bz (by simp;omega) (by simp;omega),Am,List.nil_append,Bz (by simp;omega) (by simp;omega),Am]
  rfl
def so (l:List (Opr×Prt)):List Opr:=l.map (·.1)
theorem LL (l:List (Opr×Prt)) (q:Opr×Prt):so (l ++ [q])=so l ++ [q.1]:=by simp [so]
theorem Nx (l:List (Opr×Prt)):(so l).length=l.length:=by simp [so]
theorem Mq {t:Tsk} (hok:TaskOk t) (hops:t.ops.length≤20) {old:List ByteArray} (hold:old.length≤63) {w:Int} (hw0:0≤w) (hw1:w≤1000) :
    CA t old w=some (if checkN (cmpT t old w)≠0 then (⟨[],[],[],[]⟩,checkN (cmpT t old w)) else (cmpT t old w,0)):=by
  have hv:=hok.1
  have hi:=hok.2.2.2.1.1
  have hg:=DY hok.2.2.2.2.1
  unfold CA
  rw [check5,CS.2 hok,Am,if_neg (by simp),if_neg (by omega),if_neg (by omega),Am,CT,if_neg (by omega),BA (by unfold inI64;omega),Am,Bz (by simp;omega) (by simp;omega),Am,List.nil_append,Bz (by simp;omega) (by simp;omega),Am,Bz (by simp;omega) (by simp;omega),Am,List.nil_append,Bz (by simp;omega) (by simp;omega),Am,Bz (by simp;omega) (by simp;omega),Am,List.nil_append,Bz (by simp;omega) (by simp;omega),Am,Am]
  have zx:∀ k o,t.ops[k]?=some o→t.ops.zipIdx.take (k + 1)=t.ops.zipIdx.take k ++ [(o,k)]:=fun k o h=>Nf h
  rw [DE (fun k=>so ((t.ops.zipIdx.take k).map fun q=>(⟨q.1.name,q.1.cost + w,q.1.pre,q.1.effs⟩,⟨(q.2:Int)⟩))) (by simp [so]) ?gg1,Am,BO]
  case gg1 =>
    intro k o ho
    have hk:=AD ho
    have hc:=(hok.2.2.2.2.2 k o ho).1
    have hc2:=(hok.2.2.2.2.2 k o ho).2.1
    have hl:((t.ops.zipIdx.take k).map fun q=>((⟨q.1.name,q.1.cost + w,q.1.pre,q.1.effs⟩:Opr),(⟨(q.2:Int)⟩:Prt))).length≤20:=by simp;omega
    have l2:=Nx ((t.ops.zipIdx.take k).map fun q=>((⟨q.1.name,q.1.cost + w,q.1.pre,q.1.effs⟩:Opr),(⟨(q.2:Int)⟩:Prt)))
    rw [BA (by unfold inI64;omega),Am,Bz (by rw [l2];simp;omega) (by rw [l2];simp;omega),Am,zx k o ho,List.map_append,List.map_singleton,LL]
  have hzx:t.ops.zipIdx.take t.ops.length=t.ops.zipIdx:=List.take_of_length_le (by simp)
  have hfull:(t.ops.zipIdx.take t.ops.length).map (fun q=>((⟨q.1.name,q.1.cost + w,q.1.pre,q.1.effs⟩:Opr),(⟨(q.2:Int)⟩:Prt)))=insL t w:=by
    unfold insL;rw [hzx]
  rw [hfull]
  rw [DE (fun k=>so (insL t w ++ delL t w (t.vars.length:Int) 0 (old.take k))) (by simp [delL]) ?gg2,Am,BO,List.take_length]
  case gg2 =>
    intro k name hn
    have hk:=AD hn
    have hbase:(insL t w ++ delL t w (t.vars.length:Int) 0 (old.take k)).length≤1500:=by
      have h1:=IH t w (t.vars.length:Int) (old.take k) 0
      have h2:(old.take k).length * (t.ops.length + 1)≤63 * 21:=Nat.mul_le_mul (by simp;omega) (by omega)
      rw [List.length_append,KH];omega
    rw [DE (fun j=>so ((insL t w ++ delL t w (t.vars.length:Int) 0 (old.take k)) ++ keepL (t.ops.zipIdx.take j) (t.vars.length:Int) (k:Int) name)) (by simp [keepL]) ?gg3,Am,BO,hzx]
    case gg3 =>
      intro j o ho
      have hj:=AD ho
      obtain ⟨h1,h2,_⟩:=OpOk.short hok ho
      have hkl:=GM (t.ops.zipIdx.take j) (t.vars.length:Int) (k:Int) name
      rw [List.length_take,List.length_zipIdx] at hkl
      have l2:=Nx ((insL t w ++ delL t w (t.vars.length:Int) 0 (old.take k)) ++ keepL (t.ops.zipIdx.take j) (t.vars.length:Int) (k:Int) name)
      rw [List.length_append] at l2
      rw [zx j o ho,Lp]
      by_cases he:o.name=name
      · rw [if_pos he,if_pos he,Nw (by omega) (by omega) (by omega),Am,Bz (by rw [l2];simp only [List.length_singleton];omega) (by rw [l2];simp only [List.length_singleton];omega),Am,← List.append_assoc,LL]
      · rw [if_neg he,if_neg he,List.append_nil]
    have hkl:=GM t.ops.zipIdx (t.vars.length:Int) (k:Int) name
    rw [List.length_zipIdx] at hkl
    have l2:=Nx ((insL t w ++ delL t w (t.vars.length:Int) 0 (old.take k)) ++ keepL t.ops.zipIdx (t.vars.length:Int) (k:Int) name)
    rw [List.length_append] at l2
    have htk:old.take (k + 1)=old.take k ++ [name]:=by rw [List.take_add_one,hn];rfl
    have hfin:so (insL t w ++ delL t w (t.vars.length:Int) 0 (old.take (k + 1)))=so ((insL t w ++ delL t w (t.vars.length:Int) 0 (old.take k)) ++ keepL t.ops.zipIdx (t.vars.length:Int) (k:Int) name) ++ [keptO ⟨⟨#[]⟩,w,[],[]⟩ (t.vars.length:Int) (k:Int)]:=by
      have hkk:(0 + (old.take k).length:Nat)=k:=by simp;omega
      rw [htk,JI,hkk,stepL,← List.append_assoc,← List.append_assoc,LL]
      rfl
    rw [Nw (by simp) (by simp) (by omega),Am,Bz (by rw [l2];simp only [List.length_singleton];omega) (by rw [l2];simp only [List.length_singleton];omega),Am,hfin]
  show bnd (DP (cmpT t old w)) _=_
  rw [check5,Am]
  by_cases hc:checkN (cmpT t old w)≠0
  · rw [if_pos hc,if_pos hc]
  · rw [if_neg hc,if_neg hc];rfl
theorem QA {t:Tsk} {p:List Int} (hp:∀ (i:Nat) (k:Int),p[i]?=some k→∃ (j:Nat) (o:Opr),k=(j:Int)∧t.ops[j]?=some o) (hl:p.length≤1000000):Fe t p=some (p.map (nmO t)):=by
  unfold Fe
  rw [DE (fun k=>(p.take k).map (nmO t)) (by simp) ?gg1,Am,BO,List.take_length]
  intro i k hk
  have hkl:=AD hk
  obtain ⟨j,o,rfl,hj⟩:=hp i k hk
  rw [By,hj,Am,Bz (by simp;omega) (by simp;omega),Am,List.take_add_one,hk,List.map_append]
  simp [Lt hj]
end
section
open Go Go.RowKit
def Le {α:Type} (x y:Option α):Prop:=∀ r,x=some r→y=some r
theorem Le.rf {α:Type} {x:Option α}:Le x x:=fun _ h=>h
theorem Le.bnd {α β:Type} {x x':Option α} {f f':α→Option β} (h:Le x x') (hf:∀ a,Le (f a) (f' a)):Le (bnd x f) (bnd x' f'):=fun r hr=>by
  obtain ⟨a,ha,hb⟩:=bs hr
  rw [h a ha,Am]
  exact hf a r hb
theorem Le.ite {α:Type} {p:Prop} [Decidable p] {x x' y y':Option α} (h:Le x x') (k:Le y y'):Le (if p then x else y) (if p then x' else y'):=by
  by_cases hp:p
  · rw [if_pos hp,if_pos hp];exact h
  · rw [if_neg hp,if_neg hp];exact k
theorem Le.fin {σ κ:Type} {y:Fin σ κ} {f f':σ→Option κ} (hf:∀ a,Le (f a) (f' a)):Le (fin y f) (fin y f'):=by
  cases y with
  | done s=>exact hf s
  | ret c=>exact Le.rf
theorem Le.rng {α σ ρ:Type} {f f':Nat→α→σ→Option (Ctl σ ρ)} (hf:∀ k a s,Le (f k a s) (f' k a s)):∀ {xs:List α} {k:Nat} {s:σ},Le (rng f xs k s) (rng f' xs k s)
  | [],_,_=>Le.rf
  | x :: xs,k,s=>fun r hr=>by
    simp only [Proofs.YtafdmfhdjfkooaaGreat.rng] at hr ⊢
    cases hc:f k x s with
    | none=>rw [hc] at hr;cases hr
    | some c =>
      rw [hc] at hr
      rw [hf k x s c hc]
      cases c with
      | next s'=>exact Le.rng hf r hr
      | brk s'=>exact hr
      | ret q=>exact hr
theorem Le.rngN {σ ρ:Type} {f f':Nat→σ→Option (Ctl σ ρ)} {n:Nat} {s:σ} (hf:∀ k s,Le (f k s) (f' k s)):Le (rngN f n s) (rngN f' n s):=Le.rng fun _ k s=>hf k s
theorem Le.itr {σ ρ:Type} {f f':σ→Option (Ctl σ ρ)} (hf:∀ s,Le (f s) (f' s)):∀ (n:Nat) (s:σ),Le (itr f n s) (itr f' n s)
  | 0,_=>Le.rf
  | n + 1,s=>fun r hr=>by
    simp only [Proofs.YtafdmfhdjfkooaaGreat.itr] at hr ⊢
    cases hc:f s with
    | none=>rw [hc] at hr;cases hr
    | some c =>
      rw [hc] at hr
      rw [hf s c hc]
      cases c with
      | next s'=>exact Le.itr hf n s' r hr
      | brk s'=>exact hr
      | ret q=>exact hr
def lopE {σ ρ:Type} (f:σ→Option (Ctl σ ρ)) (s:σ):Option (Fin σ ρ):=itr f 600 s
theorem Le.lop {σ ρ:Type} {f f':σ→Option (Ctl σ ρ)} {s:σ} (hf:∀ s,Le (f s) (f' s)):Le (lopE f s) (lop f' s):=fun r hr=>Hu.2 ⟨600,Le.itr hf 600 s r hr⟩
end
section
open Go Go.RowKit
def factB (vars:List Int) (x:Fct):Bool:=decide (0≤x.var) && (decide (0≤x.val) && (match vars[x.var.toNat]? with|some y=>decide (x.val < y)|none=>false))
theorem Ny {vars:List Int} {x:Fct} (h:factB vars x=true):FactOk vars x:=by
  unfold factB at h
  simp only [Bool.and_eq_true,decide_eq_true_eq] at h
  obtain ⟨h1,h2,h3⟩:=h
  cases hv:vars[x.var.toNat]? with
  | none=>rw [hv] at h3;cases h3
  | some y=>rw [hv] at h3;exact ⟨h1,h2,y,hv,by simpa using h3⟩
def ascB:List Fct→Bool
  | x :: y :: r=>decide (x.var < y.var) && ascB (y :: r)
  | _=>true
theorem OA:∀ {f:List Fct},ascB f=true→∀ (i:Nat) x y,f[i]?=some x→f[i + 1]?=some y→x.var < y.var
  | [],_,i,x,y,h,_=>by simp at h
  | [_],_,i,x,y,_,h=>by simp at h
  | a :: b :: r,h,i,x,y,h1,h2=>by
    simp only [ascB,Bool.and_eq_true,decide_eq_true_eq] at h
    cases i with
    | zero=>simp at h1 h2;subst h1;subst h2;exact h.1
    | succ i=>exact OA h.2 i x y (by simpa using h1) (by simpa using h2)
def factsB (vars:List Int) (f:List Fct):Bool:=f.all (factB vars) && ascB f
theorem JO {vars:List Int} {f:List Fct} (h:factsB vars f=true):FactsOk vars f:=by
  unfold factsB at h
  rw [Bool.and_eq_true,List.all_eq_true] at h
  exact ⟨fun i x hx=>Ny (h.1 x (List.mem_of_getElem? hx)),OA h.2⟩
def stateB:List Int→List Int→Bool
  | [],[]=>true
  | y :: vars,x :: s=>decide (0≤x) && (decide (x < y) && stateB vars s)
  | _,_=>false
theorem JP:∀ {vars s:List Int},stateB vars s=true→StateOk vars s
  | [],[],_=>⟨rfl,fun i x y h=>by simp at h⟩
  | y :: vars,x :: s,h=>by
    simp only [stateB,Bool.and_eq_true,decide_eq_true_eq] at h
    obtain ⟨h1,h2⟩:=JP h.2.2
    refine ⟨by simp [h1],fun i a b ha hb=>?_⟩
    cases i with
    | zero=>simp at ha hb;subst ha;subst hb;exact ⟨h.1,h.2.1⟩
    | succ i=>exact h2 i a b (by simpa using ha) (by simpa using hb)
  | [],_ :: _,h=>by simp [stateB] at h
  | _ :: _,[],h=>by simp [stateB] at h
def nameB (s:ByteArray):Bool:=decide (s.size≤256) && s.data.toList.all fun c=>decide (32≤c.toNat) && decide (c.toNat≤126)
theorem QB {s:ByteArray} (h:nameB s=true):NameOk s:=by
  unfold nameB at h
  simp only [Bool.and_eq_true,decide_eq_true_eq,List.all_eq_true] at h
  refine ⟨h.1,fun i hi=>h.2 _ ?_⟩
  show s.data[i]∈_
  simp
def opB (vars:List Int) (o:Opr):Bool:=decide (0≤o.cost) && (decide (o.cost≤1048576) && (decide (o.effs.length≤64) && (nameB o.name && (factsB vars o.pre && o.effs.all fun e=>factsB vars e.cond && factB vars ⟨e.var,e.val⟩))))
theorem SL {vars:List Int} {o:Opr} (h:opB vars o=true):OpOk vars o:=by
  unfold opB at h
  simp only [Bool.and_eq_true,decide_eq_true_eq,List.all_eq_true] at h
  obtain ⟨h1,h2,h3,h4,h5,h6⟩:=h
  exact ⟨h1,h2,h3,QB h4,JO h5,fun i e he=>⟨JO (h6 e (List.mem_of_getElem? he)).1,Ny (h6 e (List.mem_of_getElem? he)).2⟩⟩
def taskB (t:Tsk):Bool:=decide (t.vars.length≤64) && (decide (t.ops.length≤4096) && ((t.vars.all fun n=>decide (1≤n) && decide (n≤64)) && (stateB t.vars t.init && (factsB t.vars t.goal && t.ops.all (opB t.vars)))))
theorem Nz {t:Tsk} (h:taskB t=true):TaskOk t:=by
  unfold taskB at h
  simp only [Bool.and_eq_true,decide_eq_true_eq,List.all_eq_true] at h
  obtain ⟨h1,h2,h3,h4,h5,h6⟩:=h
  exact ⟨h1,h2,fun i n hn=>h3 n (List.mem_of_getElem? hn),JP h4,JO h5,fun i o ho=>SL (h6 o (List.mem_of_getElem? ho))⟩
def HD (t:Tsk):Option Err:=if taskB t=true then some ⟨0⟩ else none
theorem Mr (t:Tsk):Le (HD t) (Df t):=fun r h=>by
  obtain ⟨h1,rfl⟩:=Fp h
  unfold Df
  rw [CS.2 (Nz h1)]
def HZ (x y:List Int):Option Bool:=some (decide (x=y))
theorem NA (x y:List Int):Le (HZ x y) (GF x y):=fun r h=>by
  unfold HZ at h
  unfold GF
  rw [← h]
  by_cases hx:x=y
  · rw [Bo hx];simp [hx]
  · rw [Bd hx];simp [hx]
def HE (f:List Fct) (s:List Int):Option Bool:=DJ f s
theorem Ja (f:List Fct) (s:List Int):Le (HE f s) (DJ f s):=Le.rf
def Dx (x:List Int):Option (List Int):=BT x
theorem Fu (x:List Int):Le (Dx x) (BT x):=Le.rf
end
section
open Go Go.RowKit
set_option maxRecDepth 20000
attribute [local irreducible] bnd fin rng rngN chkI mkI appI atI natI quoT Bj Bx BT Cg
def ED (x:List U64):Option (List U64):=Cg x
theorem Gp (x:List U64):Le (ED x) (Cg x):=Le.rf
def Jb (t:Tsk):Option (Option Gnr×Err):=if taskB t=true then some (some ⟨t⟩,⟨0⟩) else none
theorem LM (t:Tsk):Le (Jb t) (Fc t):=fun r h=>by
  obtain ⟨h1,rfl⟩:=Fp h
  exact PH (Nz h1)
def Dn (x:Option Gnr) (s:List Int):Option (List Int):=match x with
  | some g=>if stateB g.t.vars s=true then (if s.length≤1000000 then some (appl g.t s) else none) else none
  | none=>none
theorem Gd (x:Option Gnr) (s:List Int):Le (Dn x s) (Cu x s):=fun r h=>by
  cases x with
  | none=>cases h
  | some g =>
    unfold Dn at h
    dsimp only at h
    split at h
    · rename_i h1
      obtain ⟨h3,rfl⟩:=Fp h
      unfold Cu
      rw [if_pos h3]
      show some (appS g.t s)=_
      rw [Ij (JP h1)]
    · cases h
noncomputable def Dz (x0:List Itm):Option Int :=
  some (x0.length:Int)
theorem EW (x0:List Itm):Le (Dz x0) (BF x0):=by
  unfold Dz BF
  repeat' (first|apply Le.ite|apply Le.bnd|apply Le.fin|apply Le.rng|apply Le.rngN|apply Le.lop|exact Le.rf|intro _)
noncomputable def Do (x0:List Itm) (x1:Int) (x2:Int):Option Bool :=
  bnd (bnd (atI x0 x1) fun a10=>bnd (atI x0 x2) fun a24=>if a10.cost < a24.cost then (some true) else (bnd (atI x0 x1) fun a39=>bnd (atI x0 x2) fun a53=>if a39.cost=a53.cost then (bnd (atI x0 x1) fun a68=>bnd (atI x0 x2) fun a82=>if a68.order < a82.order then (some true) else (some false)) else (some false)):Option Bool) fun y6=>some y6
theorem Gc (x0:List Itm) (x1:Int) (x2:Int):Le (Do x0 x1 x2) (BJ x0 x1 x2):=by
  unfold Do BJ
  repeat' (first|apply Le.ite|apply Le.bnd|apply Le.fin|apply Le.rng|apply Le.rngN|apply Le.lop|exact Le.rf|intro _)
noncomputable def Dp (x0:List Itm) (x1:Int) (x2:Int):Option (List Itm) :=
  bnd (atI x0 x2) fun a4=>bnd (atI x0 x1) fun a18=>bnd (atI x0 x1) fun a32=>bnd (atI (x0.set (x1:Int).toNat a4) x2) fun a48=>some ((x0.set (x1:Int).toNat a4).set (x2:Int).toNat a18)
theorem EJ (x0:List Itm) (x1:Int) (x2:Int):Le (Dp x0 x1 x2) (BB x0 x1 x2):=by
  unfold Dp BB
  repeat' (first|apply Le.ite|apply Le.bnd|apply Le.fin|apply Le.rng|apply Le.rngN|apply Le.lop|exact Le.rf|intro _)
noncomputable def EX (x0:BxR 99 97 Itm) (x1:An 97 Itm):Option (BxR 99 97 Itm) :=
  bnd (appI 24 x0.l [x1.x]) fun u31=>some (⟨u31⟩:BxR 99 97 Itm)
theorem In (x0:BxR 99 97 Itm) (x1:An 97 Itm):Le (EX x0 x1) (CV x0 x1):=by
  unfold EX CV
  repeat' (first|apply Le.ite|apply Le.bnd|apply Le.fin|apply Le.rng|apply Le.rngN|apply Le.lop|exact Le.rf|intro _)
noncomputable def Fl (x0:BxR 99 97 Itm):Option ((An 97 Itm)×(BxR 99 97 Itm)) :=
  bnd (chkI ((x0.l.length:Int) - 1)) fun n13=>bnd (atI x0.l n13) fun a16=>bnd (cutI x0.l 0 n13) fun u37=>some ((⟨a16⟩:An 97 Itm),(⟨u37⟩:BxR 99 97 Itm))
theorem IO (x0:BxR 99 97 Itm):Le (Fl x0) (Dd x0):=by
  unfold Fl Dd
  repeat' (first|apply Le.ite|apply Le.bnd|apply Le.fin|apply Le.rng|apply Le.rngN|apply Le.lop|exact Le.rf|intro _)
noncomputable def Fm (x0:BxR 99 97 Itm) (x1:Int):Option (BxR 99 97 Itm) :=
  bnd (lopE (ρ:=(BxR 99 97 Itm)) (fun (s5:Int×(BxR 99 97 Itm))=>bnd (chkI (s5.1 - 1)) fun n22=>bnd (quoT n22 2) fun n25=>bnd (if n25=s5.1 then (some true) else (bnd (Do s5.2.l s5.1 n25) fun q42=>if q42=true then some false else some true):Option Bool) fun y28=>if y28=true then (some (.brk (s5.1,s5.2))) else (bnd (Dp s5.2.l n25 s5.1) fun q73=>some (.next (n25,(⟨q73⟩:BxR 99 97 Itm))))) (x1,x0)) fun res3=>fin res3 fun (s90:Int×(BxR 99 97 Itm))=>some s90.2
theorem IP (x0:BxR 99 97 Itm) (x1:Int):Le (Fm x0 x1) (CK x0 x1):=by
  unfold Fm CK
  repeat' (first|apply Gc|apply EJ|apply Le.ite|apply Le.bnd|apply Le.fin|apply Le.rng|apply Le.rngN|apply Le.lop|exact Le.rf|intro _)
noncomputable def EK (x0:BxR 99 97 Itm) (x1:Int) (x2:Int):Option (Bool×(BxR 99 97 Itm)) :=
  bnd (lopE (ρ:=Bool×(BxR 99 97 Itm)) (fun (s6:Int×(BxR 99 97 Itm))=>bnd (chkI (2 * s6.1)) fun n23=>bnd (chkI (n23 + 1)) fun n26=>bnd (if x2≤n26 then (some true) else (if n26 < 0 then (some true) else (some false)):Option Bool) fun y29=>if y29=true then (some (.brk (s6.1,s6.2))) else (bnd (bnd (chkI (n26 + 1)) fun n45=>bnd (if n45 < x2 then (bnd (Do s6.2.l n45 n26) fun q62=>if q62=true then some true else some false) else (some false):Option Bool) fun y48=>if y48=true then (some n45) else (some n26):Option Int) fun y40=>bnd (Do s6.2.l y40 s6.1) fun q97=>if q97=true then bnd (Dp s6.2.l s6.1 y40) fun q109=>some (.next (y40,(⟨q109⟩:BxR 99 97 Itm))) else some (.brk (s6.1,s6.2)))) (x1,x0)) fun res4=>fin res4 fun (s126:Int×(BxR 99 97 Itm))=>bnd (if x1 < s126.1 then (some true) else (some false):Option Bool) fun y128=>some (y128,s126.2)
theorem Ia (x0:BxR 99 97 Itm) (x1:Int) (x2:Int):Le (EK x0 x1 x2) (Cy x0 x1 x2):=by
  unfold EK Cy
  repeat' (first|apply Gc|apply EJ|apply Le.ite|apply Le.bnd|apply Le.fin|apply Le.rng|apply Le.rngN|apply Le.lop|exact Le.rf|intro _)
noncomputable def EL (x0:BxR 99 97 Itm) (x1:An 97 Itm):Option (BxR 99 97 Itm) :=
  bnd (EX x0 (⟨x1.x⟩:An 97 Itm)) fun q9=>bnd (Dz q9.l) fun q26=>bnd (chkI (q26 - 1)) fun n34=>bnd (Fm q9 n34) fun q42=>some q42
theorem Ib (x0:BxR 99 97 Itm) (x1:An 97 Itm):Le (EL x0 x1) (Cq x0 x1):=by
  unfold EL Cq
  repeat' (first|apply EW|apply In|apply IP|apply Le.ite|apply Le.bnd|apply Le.fin|apply Le.rng|apply Le.rngN|apply Le.lop|exact Le.rf|intro _)
noncomputable def EY (x0:BxR 99 97 Itm):Option ((An 97 Itm)×(BxR 99 97 Itm)) :=
  bnd (Dz x0.l) fun q11=>bnd (chkI (q11 - 1)) fun n19=>bnd (Dp x0.l 0 n19) fun q22=>bnd (EK (⟨q22⟩:BxR 99 97 Itm) 0 n19) fun q35=>bnd (Fl q35.2) fun q44=>some ((⟨q44.1.x⟩:An 97 Itm),q44.2)
theorem Ip (x0:BxR 99 97 Itm):Le (EY x0) (Ct x0):=by
  unfold EY Ct
  repeat' (first|apply EW|apply IO|apply EJ|apply Ia|apply Le.ite|apply Le.bnd|apply Le.fin|apply Le.rng|apply Le.rngN|apply Le.lop|exact Le.rf|intro _)
noncomputable def IQ (x0:List Int):Option ((Option Pkr)×Err) :=
  if 64 < (x0.length:Int) then (some (none,(⟨5⟩:Err))) else (bnd (rng (ρ:=(Option Pkr)×Err) (fun (k25:Nat) (a26:Int) (s23:Int×Pkr)=>bnd (if a26 < 1 then (some true) else (if 64 < a26 then (some true) else (some false)):Option Bool) fun y48=>if y48=true then (some (.ret (none,(⟨1⟩:Err)))) else (bnd (lopE (ρ:=Ctl (Int×Pkr) ((Option Pkr)×Err)) (fun (s61:Int)=>bnd (shlI 1 s61) fun n76=>if n76 < a26 then (bnd (chkI (s61 + 1)) fun n80=>some (.next n80)) else (some (.brk s61))) 0) fun res59=>fin res59 fun (s87:Int)=>bnd (bnd (chkI (s23.1 + s87)) fun n95=>if 64 < n95 then (bnd (chkI (s23.2.words + 1)) fun n109=>some (0,(⟨s23.2.fields,n109⟩:Pkr))) else (some (s23.1,s23.2)):Option (Int×Pkr)) fun y89=>bnd (chkI (y89.2.words - 1)) fun n133=>bnd (appI 32 y89.2.fields [(⟨n133,y89.1,s87,a26⟩:PFd)]) fun u142=>bnd (chkI (y89.1 + s87)) fun n155=>some (.next (n155,(⟨u142,y89.2.words⟩:Pkr))))) x0 0 (0,(⟨([]:List PFd),1⟩:Pkr))) fun res21=>fin res21 fun (s167:Int×Pkr)=>some ((some s167.2),(⟨0⟩:Err)))
theorem NQ (x0:List Int):Le (IQ x0) (ET x0):=by
  unfold IQ ET
  repeat' (first|apply Le.ite|apply Le.bnd|apply Le.fin|apply Le.rng|apply Le.rngN|apply Le.lop|exact Le.rf|intro _)
noncomputable def EE (x0:PFd):Option U64 :=
  bnd (shlU (1:U64) x0.width) fun n12=>bnd (shlU (n12 - (1:U64)) x0.bit) fun n14=>some n14
theorem GP (x0:PFd):Le (EE x0) (CH x0):=by
  unfold EE CH
  repeat' (first|apply Le.ite|apply Le.bnd|apply Le.fin|apply Le.rng|apply Le.rngN|apply Le.lop|exact Le.rf|intro _)
noncomputable def FV (x0:PFd) (x1:List U64):Option Int :=
  bnd (atI x1 x0.word) fun a15=>bnd (EE x0) fun q26=>bnd (shrU (a15 &&& q26) x0.bit) fun n33=>some n33.toInt
theorem Ki (x0:PFd) (x1:List U64):Le (FV x0 x1) (Dh x0 x1):=by
  unfold FV Dh
  repeat' (first|apply GP|apply Le.ite|apply Le.bnd|apply Le.fin|apply Le.rng|apply Le.rngN|apply Le.lop|exact Le.rf|intro _)
noncomputable def Fv (x0:Pkr) (x1:List Int):Option ((List U64)×Err) :=
  if (x1.length:Int)≠(x0.fields.length:Int) then (some (([]:List U64),(⟨2⟩:Err))) else (bnd (mkI 8 ((0:U64):U64) x0.words) fun u25=>bnd (rng (ρ:=(List U64)×Err) (fun (k50:Nat) (a51:PFd) (s48:(List U64))=>bnd (bnd (x1[k50]?) fun a87=>if a87 < 0 then (some true) else (bnd (x1[k50]?) fun a98=>if a51.size≤a98 then (some true) else (some false)):Option Bool) fun y83=>if y83=true then (some (.ret (([]:List U64),(⟨2⟩:Err)))) else (bnd (atI s48 a51.word) fun a114=>bnd (x1[k50]?) fun a125=>bnd (shlU (BitVec.ofInt 64 a125) a51.bit) fun n135=>bnd (atI s48 a51.word) fun a137=>some (.next (s48.set (a51.word:Int).toNat (a114 ||| n135))))) x0.fields 0 u25) fun res46=>fin res46 fun (s154:(List U64))=>some (s154,(⟨0⟩:Err)))
theorem Jg (x0:Pkr) (x1:List Int):Le (Fv x0 x1) (BX x0 x1):=by
  unfold Fv BX
  repeat' (first|apply Le.ite|apply Le.bnd|apply Le.fin|apply Le.rng|apply Le.rngN|apply Le.lop|exact Le.rf|intro _)
noncomputable def EZ (x0:Pkr) (x1:List U64):Option ((List Int)×Err) :=
  if (x1.length:Int)≠x0.words then (some (([]:List Int),(⟨2⟩:Err))) else (bnd (mkI 8 (0:Int) (x0.fields.length:Int)) fun u25=>bnd (ED x1) fun q38=>bnd (rng (ρ:=(List Int)×Err) (fun (k60:Nat) (a61:PFd) (s58:(List Int)×(List U64))=>bnd (FV a61 x1) fun q97=>bnd (s58.1[k60]?) fun a105=>bnd ((s58.1.set k60 q97)[k60]?) fun a117=>if a61.size≤a117 then (some (.ret (([]:List Int),(⟨2⟩:Err)))) else (bnd (atI s58.2 a61.word) fun a128=>bnd (EE a61) fun q139=>bnd (atI s58.2 a61.word) fun a146=>some (.next ((s58.1.set k60 q97),(s58.2.set (a61.word:Int).toNat (a128 &&& ~~~q139)))))) x0.fields 0 (u25,q38)) fun res56=>fin res56 fun (s163:(List Int)×(List U64))=>bnd (rng (ρ:=(List Int)×Err) (fun (k171:Nat) (a172:U64) (s169:Unit)=>bnd (s163.2[k171]?) fun a182=>if (a182.toNat:Int)≠((0:U64).toNat:Int) then (some (.ret (([]:List Int),(⟨2⟩:Err)))) else (some (.next ()))) q38 0 ()) fun res167=>fin res167 fun (s196:Unit)=>some (s163.1,(⟨0⟩:Err)))
theorem Iq (x0:Pkr) (x1:List U64):Le (EZ x0 x1) (CE x0 x1):=by
  unfold EZ CE
  repeat' (first|apply Ki|apply GP|apply Gp|apply Le.ite|apply Le.bnd|apply Le.fin|apply Le.rng|apply Le.rngN|apply Le.lop|exact Le.rf|intro _)
noncomputable def Fw (x0:Pkr) (x1:List U64):Option Int :=
  bnd (rng (ρ:=Int) (fun (k13:Nat) (a14:U64) (s11:U64)=>bnd (shrU ((s11 ^^^ a14) * (13787848793156543929:U64)) 29) fun n31=>some (.next (((s11 ^^^ a14) * (13787848793156543929:U64)) ^^^ n31))) x1 0 ((BitVec.ofInt 64 (x1.length:Int)) + (11400714819323198485:U64))) fun res9=>fin res9 fun (s37:U64)=>bnd (shrU s37 2) fun n39=>some n39.toInt
theorem Jh (x0:Pkr) (x1:List U64):Le (Fw x0 x1) (Ch x0 x1):=by
  unfold Fw Ch
  repeat' (first|apply Le.ite|apply Le.bnd|apply Le.fin|apply Le.rng|apply Le.rngN|apply Le.lop|exact Le.rf|intro _)
noncomputable def Du (x0:List U64) (x1:List U64):Option Bool :=
  if (x0.length:Int)≠(x1.length:Int) then (some false) else (bnd (rng (ρ:=Bool) (fun (k18:Nat) (a19:U64) (s16:Unit)=>bnd (x1[k18]?) fun a36=>if (a19.toNat:Int)≠(a36.toNat:Int) then (some (.ret false)) else (some (.next ()))) x0 0 ()) fun res14=>fin res14 fun (s50:Unit)=>some true)
theorem Gq (x0:List U64) (x1:List U64):Le (Du x0 x1) (BS x0 x1):=by
  unfold Du BS
  repeat' (first|apply Le.ite|apply Le.bnd|apply Le.fin|apply Le.rng|apply Le.rngN|apply Le.lop|exact Le.rf|intro _)
noncomputable def GB (x0:List Int):Option ((Option Reg)×Err) :=
  bnd (IQ x0) fun q4=>if q4.2.n≠0 then (some (none,(⟨q4.2.n⟩:Err))) else (bnd q4.1 fun o22=>some ((some (⟨o22,([]:List REn),(⟨[]⟩:MapR 3 Int Int)⟩:Reg)),(⟨0⟩:Err)))
theorem Lw (x0:List Int):Le (GB x0) (DD x0):=by
  unfold GB DD
  repeat' (first|apply NQ|apply Le.ite|apply Le.bnd|apply Le.fin|apply Le.rng|apply Le.rngN|apply Le.lop|exact Le.rf|intro _)
noncomputable def Ei (x0:Reg) (x1:List Int):Option ((List U64)×Int×Int×Err) :=
  bnd (Fv x0.packer x1) fun q20=>if q20.2.n≠0 then (some (([]:List U64),0,(-1),(⟨2⟩:Err))) else (bnd (Fw x0.packer q20.1) fun q41=>bnd (rng (ρ:=(List U64)×Int×Int×Err) (fun (k66:Nat) (a67:Int) (s64:Unit)=>bnd (atI x0.entries a67) fun a100=>bnd (Du a100.words q20.1) fun q118=>if q118=true then some (.ret (q20.1,q41,a67,(⟨0⟩:Err))) else some (.next ())) (mget ([]:List Int) x0.table.l q41) 0 ()) fun res62=>fin res62 fun (s139:Unit)=>some (q20.1,q41,(-1),(⟨0⟩:Err)))
theorem Hi (x0:Reg) (x1:List Int):Le (Ei x0 x1) (BN x0 x1):=by
  unfold Ei BN
  repeat' (first|apply Jh|apply Jg|apply Gq|apply Le.ite|apply Le.bnd|apply Le.fin|apply Le.rng|apply Le.rngN|apply Le.lop|exact Le.rf|intro _)
noncomputable def Dy (x0:Reg) (x1:List Int):Option (Int×Bool×Err×Reg) :=
  bnd (Ei x0 x1) fun q5=>if q5.2.2.2.n≠0 then (some (0,false,(⟨q5.2.2.2.n⟩:Err),x0)) else (if 0≤q5.2.2.1 then (some (q5.2.2.1,false,(⟨0⟩:Err),x0)) else (if 65536≤(x0.entries.length:Int) then (some (0,false,(⟨10⟩:Err),x0)) else (bnd (appI 48 x0.entries [(⟨q5.1,(⟨(-1),(-1),0⟩:RLk)⟩:REn)]) fun u53=>bnd (appI 8 (mget ([]:List Int) x0.table.l q5.2.1) ([(x0.entries.length:Int)]:List Int)) fun u82=>some ((x0.entries.length:Int),true,(⟨0⟩:Err),(⟨x0.packer,u53,(⟨mput x0.table.l q5.2.1 u82⟩:MapR 3 Int Int)⟩:Reg)))))
theorem Fx (x0:Reg) (x1:List Int):Le (Dy x0 x1) (BK x0 x1):=by
  unfold Dy BK
  repeat' (first|apply Hi|apply Le.ite|apply Le.bnd|apply Le.fin|apply Le.rng|apply Le.rngN|apply Le.lop|exact Le.rf|intro _)
noncomputable def CD (x0:Reg) (x1:Int):Option Bool :=
  bnd (if 0≤x1 then (if x1 < (x0.entries.length:Int) then (some true) else (some false)) else (some false):Option Bool) fun y3=>some y3
theorem Ej (x0:Reg) (x1:Int):Le (CD x0 x1) (Bt x0 x1):=by
  unfold CD Bt
  repeat' (first|apply Le.ite|apply Le.bnd|apply Le.fin|apply Le.rng|apply Le.rngN|apply Le.lop|exact Le.rf|intro _)
noncomputable def DV (x0:Reg) (x1:Int):Option ((List Int)×Err) :=
  bnd (CD x0 x1) fun q3=>if q3=true then bnd (atI x0.entries x1) fun a27=>bnd (EZ x0.packer a27.words) fun q45=>some (q45.1,(⟨q45.2.n⟩:Err)) else some (([]:List Int),(⟨1⟩:Err))
theorem GV (x0:Reg) (x1:Int):Le (DV x0 x1) (BU x0 x1):=by
  unfold DV BU
  repeat' (first|apply Iq|apply Ej|apply Le.ite|apply Le.bnd|apply Le.fin|apply Le.rng|apply Le.rngN|apply Le.lop|exact Le.rf|intro _)
noncomputable def DK (x0:Reg) (x1:Int) (x2:Int) (x3:Int) (x4:Int):Option (Err×Reg) :=
  bnd (bnd (CD x0 x1) fun q10=>if q10=true then if x2≠(-1) then (bnd (CD x0 x2) fun q20=>if q20=true then some false else some true) else (some false) else some true:Option Bool) fun y6=>if y6=true then (some ((⟨1⟩:Err),x0)) else (bnd (atI x0.entries x1) fun a49=>some ((⟨0⟩:Err),(⟨x0.packer,(x0.entries.set (x1:Int).toNat ({ a49 with link:=(⟨x2,x3,x4⟩:RLk) }:REn)),x0.table⟩:Reg)))
theorem GC (x0:Reg) (x1:Int) (x2:Int) (x3:Int) (x4:Int):Le (DK x0 x1 x2 x3 x4) (BL x0 x1 x2 x3 x4):=by
  unfold DK BL
  repeat' (first|apply Ej|apply Le.ite|apply Le.bnd|apply Le.fin|apply Le.rng|apply Le.rngN|apply Le.lop|exact Le.rf|intro _)
noncomputable def DW (x0:List Int):Option (List Int) :=
  bnd (chkI ((x0.length:Int) - 1)) fun n4=>bnd (lopE (ρ:=(List Int)) (fun (s9:(List Int)×Int×Int)=>if s9.2.1 < s9.2.2 then (bnd (atI s9.1 s9.2.2) fun a31=>bnd (atI s9.1 s9.2.1) fun a43=>bnd (atI s9.1 s9.2.1) fun a55=>bnd (atI (s9.1.set (s9.2.1:Int).toNat a31) s9.2.2) fun a69=>bnd (chkI (s9.2.1 + 1)) fun n83=>bnd (chkI (s9.2.2 - 1)) fun n86=>some (.next (((s9.1.set (s9.2.1:Int).toNat a31).set (s9.2.2:Int).toNat a43),n83,n86))) else (some (.brk (s9.1,s9.2.1,s9.2.2)))) (x0,0,n4)) fun res7=>fin res7 fun (s93:(List Int)×Int×Int)=>some s93.1
theorem GW (x0:List Int):Le (DW x0) (BV x0):=by
  unfold DW BV
  repeat' (first|apply Le.ite|apply Le.bnd|apply Le.fin|apply Le.rng|apply Le.rngN|apply Le.lop|exact Le.rf|intro _)
noncomputable def Ek (x0:Reg) (x1:Int):Option ((List Int)×Err) :=
  bnd (CD x0 x1) fun q3=>if q3=true then bnd (lopE (ρ:=(List Int)×Err) (fun (s14:Int×(List Int))=>bnd (atI x0.entries s14.1) fun a48=>if a48.link.parent < 0 then (bnd (DW s14.2) fun q74=>some (.ret (q74,(⟨0⟩:Err)))) else (bnd (appI 8 s14.2 [a48.link.op]) fun u89=>if (x0.entries.length:Int) < (u89.length:Int) then (some (.ret (([]:List Int),(⟨21⟩:Err)))) else (some (.next (a48.link.parent,u89))))) (x1,([]:List Int))) fun res12=>fin res12 fun (_:Int×(List Int))=>none else some (([]:List Int),(⟨1⟩:Err))
theorem Hj (x0:Reg) (x1:Int):Le (Ek x0 x1) (Ck x0 x1):=by
  unfold Ek Ck
  repeat' (first|apply Ej|apply GW|apply Le.ite|apply Le.bnd|apply Le.fin|apply Le.rng|apply Le.rngN|apply Le.lop|exact Le.rf|intro _)
noncomputable def Dq (x0:Option Gnr) (x1:List Int):Option (List Suc) :=
  bnd (Dn x0 x1) fun q7=>bnd (rng (ρ:=(List Suc)) (fun (k23:Nat) (a24:Int) (s21:(List Suc))=>bnd (Dx x1) fun q46=>bnd (x0) fun o56=>bnd (atI o56.t.ops a24) fun a88=>bnd (rng (ρ:=Ctl (List Suc) (List Suc)) (fun (k115:Nat) (a116:Eff) (s113:(List Int))=>bnd (HE a116.cond x1) fun q150=>if q150=true then bnd (atI s113 a116.var) fun a157=>some (.next (s113.set (a116.var:Int).toNat a116.val)) else some (.next s113)) a88.effs 0 q46) fun res111=>fin res111 fun (s175:(List Int))=>bnd (appI 32 s21 [(⟨a24,s175⟩:Suc)]) fun u179=>some (.next u179)) q7 0 ([]:List Suc)) fun res19=>fin res19 fun (s195:(List Suc))=>some s195
theorem Ge (x0:Option Gnr) (x1:List Int):Le (Dq x0 x1) (Br x0 x1):=by
  unfold Dq Br
  repeat' (first|apply Fu|apply Gd|apply Ja|apply Le.ite|apply Le.bnd|apply Le.fin|apply Le.rng|apply Le.rngN|apply Le.lop|exact Le.rf|intro _)
noncomputable def Gr (x0:Tsk):Option ((Option Spc)×Err) :=
  bnd (Jb x0) fun q24=>if q24.2.n≠0 then (some (none,(⟨q24.2.n⟩:Err))) else (bnd (GB x0.vars) fun q39=>if q39.2.n≠0 then (some (none,(⟨q39.2.n⟩:Err))) else (bnd q39.1 fun o52=>bnd (Dy o52 x0.init) fun q55=>if q55.2.2.1.n≠0 then (some (none,(⟨q55.2.2.1.n⟩:Err))) else (some ((some (⟨(⟨x0.vars,x0.init,x0.goal,x0.ops⟩:Tsk),q55.2.2.2,q24.1⟩:Spc)),(⟨0⟩:Err)))))
theorem KM (x0:Tsk):Le (Gr x0) (Db x0):=by
  unfold Gr Db
  repeat' (first|apply Lw|apply Fx|apply LM|apply Le.ite|apply Le.bnd|apply Le.fin|apply Le.rng|apply Le.rngN|apply Le.lop|exact Le.rf|intro _)
noncomputable def EC (x0:Spc) (x1:Int) (x2:Int):Option (Rsl×Err) :=
  bnd (Ek x0.reg x1) fun q36=>if q36.2.n≠0 then (some ((⟨0,([]:List Int),0,0⟩:Rsl),(⟨q36.2.n⟩:Err))) else (bnd (rng (ρ:=Rsl×Err) (fun (k77:Nat) (a78:Int) (s75:Int)=>bnd (atI x0.t.ops a78) fun a125=>bnd (chkI (s75 + a125.cost)) fun n146=>some (.next n146)) q36.1 0 0) fun res73=>fin res73 fun (s160:Int)=>some ((⟨1,q36.1,s160,x2⟩:Rsl),(⟨0⟩:Err)))
theorem HF (x0:Spc) (x1:Int) (x2:Int):Le (EC x0 x1 x2) (Ci x0 x1 x2):=by
  unfold EC Ci
  repeat' (first|apply Hj|apply Le.ite|apply Le.bnd|apply Le.fin|apply Le.rng|apply Le.rngN|apply Le.lop|exact Le.rf|intro _)
noncomputable def El (x0:Int) (x1:Int):Option (Rsl×Err) :=
  some ((⟨x0,([]:List Int),0,x1⟩:Rsl),(⟨0⟩:Err))
theorem Kj (x0:Int) (x1:Int):Le (El x0 x1) (Cl x0 x1):=by
  unfold El Cl
  repeat' (first|apply Le.ite|apply Le.bnd|apply Le.fin|apply Le.rng|apply Le.rngN|apply Le.lop|exact Le.rf|intro _)
noncomputable def FF (x0:Tsk) (x1:Int):Option (Rsl×Err) :=
  bnd (Gr x0) fun q30=>if q30.2.n≠0 then (some ((⟨0,([]:List Int),0,0⟩:Rsl),(⟨q30.2.n⟩:Err))) else (bnd q30.1 fun o68=>bnd (lopE (ρ:=Rsl×Err) (fun (s78:(List Int)×(List Bool)×Int×Int×Spc×(BxR 99 97 Itm))=>bnd (Dz s78.2.2.2.2.2.l) fun q116=>if 0 < q116 then (bnd (EY s78.2.2.2.2.2) fun q130=>bnd (atI s78.2.1 q130.1.x.id) fun a152=>if a152=true then (some (.next (s78.1,s78.2.1,s78.2.2.1,s78.2.2.2.1,s78.2.2.2.2.1,q130.2))) else (bnd (DV s78.2.2.2.2.1.reg q130.1.x.id) fun q191=>if q191.2.n≠0 then (some (.ret ((⟨0,([]:List Int),0,0⟩:Rsl),(⟨q191.2.n⟩:Err)))) else (bnd (HE x0.goal q191.1) fun q209=>if q209=true then bnd (EC s78.2.2.2.2.1 q130.1.x.id s78.2.2.2.1) fun q581=>some (.ret (q581.1,(⟨q581.2.n⟩:Err))) else if x1≤s78.2.2.2.1 then (bnd (El 3 s78.2.2.2.1) fun q217=>some (.ret (q217.1,(⟨q217.2.n⟩:Err)))) else (bnd (atI s78.2.1 q130.1.x.id) fun a239=>bnd (chkI (s78.2.2.2.1 + 1)) fun n252=>bnd (Dq s78.2.2.2.2.1.gen q191.1) fun q255=>bnd (rng (ρ:=Ctl ((List Int)×(List Bool)×Int×Int×Spc×(BxR 99 97 Itm)) (Rsl×Err)) (fun (k275:Nat) (a276:Suc) (s273:(List Int)×(List Bool)×Int×Spc×(BxR 99 97 Itm))=>bnd (Dy s273.2.2.2.1.reg a276.state) fun q346=>if q346.2.2.1.n≠0 then (bnd (El 3 n252) fun q363=>some (.ret (.ret (q363.1,(⟨q363.2.n⟩:Err))))) else (bnd (atI x0.ops a276.op) fun a385=>bnd (chkI (q130.1.x.cost + a385.cost)) fun n406=>bnd (if q346.2.1=true then (bnd (appI 8 s273.1 [n406]) fun u418=>bnd (appI 1 s273.2.1 [false]) fun u430=>some (.done (u418,u430))) else (bnd (bnd (atI s273.2.1 q346.1) fun a451=>if a451=true then (some true) else (bnd (atI s273.1 q346.1) fun a468=>if a468≤n406 then (some true) else (some false)):Option Bool) fun y447=>if y447=true then (some (.ret (.next (s273.1,s273.2.1,s273.2.2.1,(⟨(⟨s273.2.2.2.1.t.vars,s273.2.2.2.1.t.init,s273.2.2.2.1.t.goal,s273.2.2.2.1.t.ops⟩:Tsk),q346.2.2.2,s273.2.2.2.1.gen⟩:Spc),s273.2.2.2.2)))) else (some (.done (s273.1,s273.2.1)))):Option (Fin ((List Int)×(List Bool)) (Ctl ((List Int)×(List Bool)×Int×Spc×(BxR 99 97 Itm)) (Ctl ((List Int)×(List Bool)×Int×Int×Spc×(BxR 99 97 Itm)) (Rsl×Err))))) fun y409=>fin y409 fun (s411:(List Int)×(List Bool))=>bnd (atI s411.1 q346.1) fun a500=>bnd (DK ((⟨(⟨s273.2.2.2.1.t.vars,s273.2.2.2.1.t.init,s273.2.2.2.1.t.goal,s273.2.2.2.1.t.ops⟩:Tsk),q346.2.2.2,s273.2.2.2.1.gen⟩:Spc).reg) q346.1 q130.1.x.id a276.op n406) fun q541=>if q541.1.n≠0 then (some (.ret (.ret ((⟨0,([]:List Int),0,0⟩:Rsl),(⟨q541.1.n⟩:Err))))) else (bnd (EL s273.2.2.2.2 (⟨(⟨n406,s273.2.2.1,q346.1⟩:Itm)⟩:An 97 Itm)) fun q554=>bnd (chkI (s273.2.2.1 + 1)) fun n562=>some (.next ((s411.1.set (q346.1:Int).toNat n406),s411.2,n562,(⟨(⟨(⟨(⟨s273.2.2.2.1.t.vars,s273.2.2.2.1.t.init,s273.2.2.2.1.t.goal,s273.2.2.2.1.t.ops⟩:Tsk),q346.2.2.2,s273.2.2.2.1.gen⟩:Spc).t.vars,(⟨(⟨s273.2.2.2.1.t.vars,s273.2.2.2.1.t.init,s273.2.2.2.1.t.goal,s273.2.2.2.1.t.ops⟩:Tsk),q346.2.2.2,s273.2.2.2.1.gen⟩:Spc).t.init,(⟨(⟨s273.2.2.2.1.t.vars,s273.2.2.2.1.t.init,s273.2.2.2.1.t.goal,s273.2.2.2.1.t.ops⟩:Tsk),q346.2.2.2,s273.2.2.2.1.gen⟩:Spc).t.goal,(⟨(⟨s273.2.2.2.1.t.vars,s273.2.2.2.1.t.init,s273.2.2.2.1.t.goal,s273.2.2.2.1.t.ops⟩:Tsk),q346.2.2.2,s273.2.2.2.1.gen⟩:Spc).t.ops⟩:Tsk),q541.2,(⟨(⟨s273.2.2.2.1.t.vars,s273.2.2.2.1.t.init,s273.2.2.2.1.t.goal,s273.2.2.2.1.t.ops⟩:Tsk),q346.2.2.2,s273.2.2.2.1.gen⟩:Spc).gen⟩:Spc),q554))))) q255 0 (s78.1,(s78.2.1.set (q130.1.x.id:Int).toNat true),s78.2.2.1,s78.2.2.2.2.1,q130.2)) fun res271=>fin res271 fun (s574:(List Int)×(List Bool)×Int×Spc×(BxR 99 97 Itm))=>some (.next (s574.1,s574.2.1,s574.2.2.1,n252,s574.2.2.2.1,s574.2.2.2.2)))))) else (some (.brk (s78.1,s78.2.1,s78.2.2.1,s78.2.2.2.1,s78.2.2.2.2.1,s78.2.2.2.2.2)))) (([0]:List Int),[false],1,0,o68,(⟨[(⟨0,0,0⟩:Itm)]⟩:BxR 99 97 Itm))) fun res76=>fin res76 fun (s613:(List Int)×(List Bool)×Int×Int×Spc×(BxR 99 97 Itm))=>bnd (El 2 s613.2.2.2.1) fun q615=>some (q615.1,(⟨q615.2.n⟩:Err)))
theorem JQ (x0:Tsk) (x1:Int):Le (FF x0 x1) (Cf x0 x1):=by
  unfold FF Cf
  repeat' (first|apply KM|apply Kj|apply EW|apply HF|apply Ip|apply Ib|apply Fx|apply GC|apply GV|apply Ge|apply Ja|apply Le.ite|apply Le.bnd|apply Le.fin|apply Le.rng|apply Le.rngN|apply Le.lop|exact Le.rf|intro _)
def Cj (x:List Fct):Option (List Fct):=Bj x
theorem CY (x:List Fct):Le (Cj x) (Bj x):=Le.rf
def CM (x:List Eff):Option (List Eff):=Bx x
theorem DA (x:List Eff):Le (CM x) (Bx x):=Le.rf
noncomputable def FG (x0:List ByteArray) (x1:List ByteArray):Option Int :=
  bnd (chkI ((x1.length:Int) + 1)) fun n9=>bnd (mkI 8 (0:Int) n9) fun u12=>bnd (rngN (ρ:=Int) (fun (k31:Nat) (s29:(List Int))=>bnd (s29[k31]?) fun a50=>some (.next (s29.set k31 (k31:Int)))) u12.length u12) fun res27=>fin res27 fun (s66:(List Int))=>bnd (rng (ρ:=Int) (fun (k74:Nat) (a75:ByteArray) (s72:(List Int))=>bnd (chkI ((x1.length:Int) + 1)) fun n99=>bnd (mkI 8 (0:Int) n99) fun u102=>bnd (chkI ((k74:Int) + 1)) fun n115=>bnd (atI u102 0) fun a118=>bnd (rng (ρ:=Ctl (List Int) Int) (fun (k138:Nat) (a139:ByteArray) (s136:(List Int))=>bnd (chkI ((k138:Int) + 1)) fun n161=>bnd (s136[k138]?) fun a164=>bnd (chkI ((k138:Int) + 1)) fun n174=>bnd (atI s72 n174) fun a177=>bnd (chkI ((min a164 a177) + 1)) fun n189=>bnd (atI s136 n161) fun a192=>if a75=a139 then (bnd (chkI ((k138:Int) + 1)) fun n207=>bnd (chkI ((k138:Int) + 1)) fun n210=>bnd (atI (s136.set (n161:Int).toNat n189) n210) fun a213=>bnd (s72[k138]?) fun a225=>bnd (atI (s136.set (n161:Int).toNat n189) n207) fun a235=>some (.next ((s136.set (n161:Int).toNat n189).set (n207:Int).toNat (min a213 a225)))) else (some (.next (s136.set (n161:Int).toNat n189)))) x1 0 (u102.set (0:Int).toNat n115)) fun res134=>fin res134 fun (s253:(List Int))=>some (.next s253)) x0 0 s66) fun res70=>fin res70 fun (s261:(List Int))=>bnd (s261[x1.length]?) fun a265=>some a265
theorem JR (x0:List ByteArray) (x1:List ByteArray):Le (FG x0 x1) (CX x0 x1):=by
  unfold FG CX
  repeat' (first|apply Le.ite|apply Le.bnd|apply Le.fin|apply Le.rng|apply Le.rngN|apply Le.lop|exact Le.rf|intro _)
noncomputable def FR (x0:Opr) (x1:Int) (x2:Int):Option Opr :=
  bnd (Cj x0.pre) fun q25=>bnd (appI 16 q25 [(⟨x1,x2⟩:Fct)]) fun u35=>bnd (CM x0.effs) fun q49=>bnd (chkI (x2 + 1)) fun n59=>bnd (appI 40 q49 [(⟨([]:List Fct),x1,n59⟩:Eff)]) fun u62=>some (⟨x0.name,x0.cost,u35,u62⟩:Opr)
theorem LN (x0:Opr) (x1:Int) (x2:Int):Le (FR x0 x1 x2) (Dt x0 x1 x2):=by
  unfold FR Dt
  repeat' (first|apply DA|apply CY|apply Le.ite|apply Le.bnd|apply Le.fin|apply Le.rng|apply Le.rngN|apply Le.lop|exact Le.rf|intro _)
noncomputable def Fo (x0:List Eff):Option (List Eff) :=
  bnd (rngN (ρ:=(List Eff)) (fun (k8:Nat) (s6:(List Eff))=>bnd (s6[k8]?) fun a27=>bnd (Cj a27.cond) fun q42=>bnd (s6[k8]?) fun a52=>some (.next (s6.set k8 ({ a52 with cond:=q42 }:Eff)))) x0.length x0) fun res4=>fin res4 fun (s81:(List Eff))=>some s81
theorem IR (x0:List Eff):Le (Fo x0) (CJ x0):=by
  unfold Fo CJ
  repeat' (first|apply CY|apply Le.ite|apply Le.bnd|apply Le.fin|apply Le.rng|apply Le.rngN|apply Le.lop|exact Le.rf|intro _)
noncomputable def FW (x0:Tsk) (x1:List ByteArray) (x2:Int):Option (Tsk×(List Prt)×Err) :=
  bnd (HD x0) fun q33=>if q33.n≠0 then (some ((⟨([]:List Int),([]:List Int),([]:List Fct),([]:List Opr)⟩:Tsk),([]:List Prt),(⟨q33.n⟩:Err))) else (bnd (if x2 < 0 then (some true) else (if 1000 < x2 then (some true) else (some false)):Option Bool) fun y44=>if y44=true then (some ((⟨([]:List Int),([]:List Int),([]:List Fct),([]:List Opr)⟩:Tsk),([]:List Prt),(⟨1⟩:Err))) else (if 63 < (x1.length:Int) then (some ((⟨([]:List Int),([]:List Int),([]:List Fct),([]:List Opr)⟩:Tsk),([]:List Prt),(⟨5⟩:Err))) else (bnd (chkI ((x1.length:Int) + 1)) fun n64=>bnd (Dx x0.vars) fun q66=>bnd (appI 8 q66 ([n64]:List Int)) fun u68=>bnd (Dx x0.init) fun q70=>bnd (appI 8 q70 ([0]:List Int)) fun u72=>bnd (Cj x0.goal) fun q74=>bnd (appI 16 q74 ([(⟨(x0.vars.length:Int),(x1.length:Int)⟩:Fct)]:List Fct)) fun u76=>bnd (some (u68,u72,u76):Option ((List Int)×(List Int)×(List Fct))) fun y78=>bnd (rng (ρ:=Tsk×(List Prt)×Err) (fun (k214:Nat) (a215:Opr) (s212:(List Prt)×(List Opr))=>bnd (chkI (a215.cost + x2)) fun n257=>bnd (Cj a215.pre) fun q262=>bnd (CM a215.effs) fun q272=>bnd (appI 72 s212.2 [(⟨a215.name,n257,q262,q272⟩:Opr)]) fun u288=>bnd (appI 8 s212.1 [(⟨(k214:Int)⟩:Prt)]) fun u300=>some (.next (u300,u288))) x0.ops 0 (([]:List Prt),([]:List Opr))) fun res210=>fin res210 fun (s318:(List Prt)×(List Opr))=>bnd (rng (ρ:=Tsk×(List Prt)×Err) (fun (k326:Nat) (a327:ByteArray) (s324:(List Prt)×(List Opr))=>bnd (rng (ρ:=Ctl ((List Prt)×(List Opr)) (Tsk×(List Prt)×Err)) (fun (k359:Nat) (a360:Opr) (s357:(List Prt)×(List Opr))=>if a360.name=a327 then (bnd (FR a360 (x0.vars.length:Int) (k326:Int)) fun q403=>bnd (appI 72 s357.2 [q403]) fun u405=>bnd (appI 8 s357.1 [(⟨(k359:Int)⟩:Prt)]) fun u407=>some (.next (u407,u405))) else (some (.next (s357.1,s357.2)))) x0.ops 0 (s324.1,s324.2)) fun res355=>fin res355 fun (s563:(List Prt)×(List Opr))=>bnd (FR (⟨(⟨#[]⟩:ByteArray),x2,([]:List Fct),([]:List Eff)⟩:Opr) (x0.vars.length:Int) (k326:Int)) fun q565=>bnd (appI 72 s563.2 [q565]) fun u587=>bnd (appI 8 s563.1 [(⟨(-1)⟩:Prt)]) fun u600=>if 4096 < (u587.length:Int) then (some (.brk (u600,u587))) else (some (.next (u600,u587)))) x1 0 (s318.1,s318.2)) fun res322=>fin res322 fun (s619:(List Prt)×(List Opr))=>bnd (rngN (ρ:=Tsk×(List Prt)×Err) (fun (k627:Nat) (s625:(List Opr))=>bnd (s625[k627]?) fun a646=>bnd (Fo a646.effs) fun q663=>bnd (s625[k627]?) fun a671=>some (.next (s625.set k627 ({ a671 with effs:=q663 }:Opr)))) s619.2.length s619.2) fun res623=>fin res623 fun (s688:(List Opr))=>bnd (HD (⟨y78.1,y78.2.1,y78.2.2,s688⟩:Tsk)) fun q698=>if q698.n≠0 then (some ((⟨([]:List Int),([]:List Int),([]:List Fct),([]:List Opr)⟩:Tsk),([]:List Prt),(⟨q698.n⟩:Err))) else (some ((⟨y78.1,y78.2.1,y78.2.2,s688⟩:Tsk),s619.1,(⟨0⟩:Err))))))
theorem Kk (x0:Tsk) (x1:List ByteArray) (x2:Int):Le (FW x0 x1 x2) (Cd x0 x1 x2):=by
  unfold FW Cd
  repeat' (first|apply IR|apply LN|apply DA|apply CY|apply Fu|apply Mr|apply Le.ite|apply Le.bnd|apply Le.fin|apply Le.rng|apply Le.rngN|apply Le.lop|exact Le.rf|intro _)
noncomputable def Gs (x0:Tsk) (x1:List ByteArray) (x2:Int) (x3:Int):Option (Rsl×Int×Err) :=
  bnd (FW x0 x1 x2) fun q34=>if q34.2.2.n≠0 then (some ((⟨0,([]:List Int),0,0⟩:Rsl),0,(⟨q34.2.2.n⟩:Err))) else (bnd (FF q34.1 x3) fun q77=>if q77.2.n≠0 then (some ((⟨0,([]:List Int),0,0⟩:Rsl),0,(⟨q77.2.n⟩:Err))) else (if q77.1.verdict≠1 then (some (q77.1,0,(⟨0⟩:Err))) else (bnd (rng (ρ:=Rsl×Int×Err) (fun (k116:Nat) (a117:Int) (s114:(List Int)×(List ByteArray))=>bnd (atI q34.2.1 a117) fun a143=>if 0≤a143.op then (bnd (atI x0.ops a143.op) fun a156=>bnd (appI 8 s114.1 ([a143.op]:List Int)) fun u158=>bnd (appI 16 s114.2 [a156.name]) fun u160=>some (.next (u158,u160))) else (some (.next (s114.1,s114.2)))) q77.1.plan 0 (([]:List Int),([]:List ByteArray))) fun res112=>fin res112 fun (s269:(List Int)×(List ByteArray))=>bnd (FG s269.2 x1) fun q273=>some ((⟨q77.1.verdict,s269.1,q77.1.cost,q77.1.expanded⟩:Rsl),q273,(⟨0⟩:Err)))))
theorem KN (x0:Tsk) (x1:List ByteArray) (x2:Int) (x3:Int):Le (Gs x0 x1 x2 x3) (Ca x0 x1 x2 x3):=by
  unfold Gs Ca
  repeat' (first|apply JQ|apply JR|apply Kk|apply Le.ite|apply Le.bnd|apply Le.fin|apply Le.rng|apply Le.rngN|apply Le.lop|exact Le.rf|intro _)
noncomputable def Jc  : Option Bool :=
  bnd (Gs (⟨([2]:List Int),([0]:List Int),[(⟨0,1⟩:Fct)],[(⟨(⟨#[97]⟩:ByteArray),3,([]:List Fct),[(⟨([]:List Fct),0,1⟩:Eff)]⟩:Opr)]⟩:Tsk) [(⟨#[97]⟩:ByteArray)] 5 100) fun q56=>bnd (if q56.2.2.n=0 then (if q56.2.1=0 then (if q56.1.verdict=1 then (if q56.1.cost=3 then (bnd (HZ q56.1.plan ([0]:List Int)) fun q100=>if q100=true then some true else some false) else (some false)) else (some false)) else (some false)) else (some false):Option Bool) fun y86=>some y86
theorem LO  : Le (Jc ) (DQ ):=by
  unfold Jc DQ
  repeat' (first|apply NA|apply KN|apply Le.ite|apply Le.bnd|apply Le.fin|apply Le.rng|apply Le.rngN|apply Le.lop|exact Le.rf|intro _)
set_option maxRecDepth 100000 in
theorem awake60:DQ=some true:=LO true (by kernel_rfl)
end
section
open Go Go.RowKit
def repR (t:Tsk) (old:List ByteArray) (w:Int) (r:Rsl):Rsl×Int×Err:=if r.verdict≠1 then (r,0,⟨0⟩) else (⟨r.verdict,mapP (cmpL t old w) r.plan,r.cost,r.expanded⟩,(dist2 ((mapP (cmpL t old w) r.plan).map (nmO t)) old:Int),⟨0⟩)
section
variable {t : Tsk} {old : List ByteArray} {w : Int} {r : Rsl}
theorem QC:(repR t old w r).2.2.n=0:=by unfold repR;split<;>rfl
theorem QD:(repR t old w r).1.verdict=r.verdict:=by unfold repR;split<;>rfl
theorem PW:(repR t old w r).1.cost=r.cost:=by unfold repR;split<;>rfl
theorem RM (h:r.verdict≠1):repR t old w r=(r,0,⟨0⟩):=if_pos h
theorem QE (h:r.verdict=1):repR t old w r=(⟨r.verdict,mapP (cmpL t old w) r.plan,r.cost,r.expanded⟩,(dist2 ((mapP (cmpL t old w) r.plan).map (nmO t)) old:Int),⟨0⟩):=if_neg (fun h'=>h' h)
theorem QF (a b:List ByteArray):dist2 a b≤a.length + b.length:=(JK a b).bound.1
end
end
section
open Go Go.RowKit
theorem Pb {t:Tsk} {old:List ByteArray} {w:Int} (h:¬ TaskOk t∨w < 0∨1000 < w∨63 < old.length):∃ e,e≠0∧Cd t old w=some (⟨[],[],[],[]⟩,[],⟨e⟩)∧CA t old w=some (⟨[],[],[],[]⟩,e):=by
  by_cases hok:TaskOk t
  case neg =>
    have hn:checkN t≠0:=fun h=>hok (CS.1 h)
    refine ⟨checkN t,hn,?_,?_⟩
    · unfold Cd Df;rw [Am,if_pos hn]
    · unfold CA;rw [check5,Am,if_pos hn]
  by_cases h0:w < 0
  · refine ⟨1,by decide,?_,?_⟩
    · unfold Cd Df;rw [CS.2 hok,Am,if_neg (by simp),if_pos h0,Am,Di]
    · unfold CA;rw [check5,CS.2 hok,Am,if_neg (by simp),if_pos h0,Am,Di]
  by_cases h1:1000 < w
  · refine ⟨1,by decide,?_,?_⟩
    · unfold Cd Df;rw [CS.2 hok,Am,if_neg (by simp),if_neg h0,if_pos h1,Am,Di]
    · unfold CA;rw [check5,CS.2 hok,Am,if_neg (by simp),if_neg h0,if_pos h1,Am,Di]
  have h2:63 < (old.length:Int):=by rcases h with h|h|h|h<;>first|exact absurd hok h|omega
  refine ⟨5,by decide,?_,?_⟩
  · unfold Cd Df;rw [CS.2 hok,Am,if_neg (by simp),if_neg h0,if_neg h1,Am,CT,if_pos h2]
  · unfold CA;rw [check5,CS.2 hok,Am,if_neg (by simp),if_neg h0,if_neg h1,Am,CT,if_pos h2]
theorem Pc (t:Tsk) (old:List ByteArray) (w:Int):DU t old w=some true:=by
  unfold DU
  obtain ⟨b,hb,hfit⟩:=Qy t old
  obtain ⟨l,hl⟩:=PJ old
  rw [hb,hl,awake60]
  cases b with
  | false=>rfl
  | true =>
  cases l with
  | true=>rfl
  | false =>
  obtain ⟨hs,hf⟩:=hfit rfl
  rw [Am,Di,Am,CT,Am,Di,Am,CT]
  have hol:=hf.old
  have hop:=hf.ops
  by_cases hn:¬ TaskOk t∨w < 0∨1000 < w∨63 < old.length
  · obtain ⟨e,he,e1,e2⟩:=Pb hn
    have e3:Ca t old w 2000=some (⟨0,[],0,0⟩,0,⟨e⟩):=by unfold Ca;rw [e1,Am,if_pos he]
    unfold He
    rw [e3,Am,e2,Am,if_pos he,Am,if_pos rfl,if_pos rfl,if_pos rfl,Am]
  have hw0:0≤w:=Int.not_lt.1 fun h=>hn (.inr (.inl h))
  have hw1:w≤1000:=Int.not_lt.1 fun h=>hn (.inr (.inr (.inl h)))
  rw [Mq hf.ok (by omega) (by omega) hw0 hw1]
  by_cases hu:TaskOk (cmpT t old w)
  case neg =>
    obtain ⟨e1,hc⟩:=OZ hf hw0 hw1 hu 2000
    unfold He
    rw [e1,Am,if_pos hc,Am,if_pos hc,Am,if_pos rfl,if_pos rfl,if_pos rfl,Am]
  obtain ⟨r,a1,a2,a3,a4⟩:=Pa hf hw0 hw1 hu 2000
  have a4':Ca t old w 2000=some (repR t old w r):=a4
  have hmid:=hf.mid hu
  obtain ⟨b,b1,b2,b3,b4,b5⟩:=RF hmid
  rw [a4',Am,if_neg (by rw [CS.2 hu];simp),Am,if_neg (by simp)]
  dsimp only
  rw [b1,Am,QC,QD,PW]
  have hv3:=OX hmid a2 (by decide)
  by_cases hbi:b=1125899906842624
  · have hv:r.verdict=2:=by
      rcases a2.verd with h|h|h
      · obtain ⟨_,_,M,_,_,_,⟨_,hl,⟨s',hp,hg⟩,_,_⟩|⟨h2,_⟩|⟨h2,_⟩⟩:=a2
        · have h1:=b5 _ (hp.walk hg)
          have h2:=hp.bound hu
          omega
        · exact h2
        · omega
      · exact h
      · exact absurd h hv3
    obtain ⟨c1,c2,_⟩:=Qz hf a2 hv
    rw [if_pos hbi,if_pos rfl,if_pos hv,RM (by omega),c1,if_pos (by simp),if_pos c2,if_pos rfl,Am]
  · have hlt:b < Inf:=by unfold Inf at b3 ⊢;omega
    have hwk:=b4 hlt
    have hv:r.verdict=1:=by
      rcases a2.verd with h|h|h
      · exact h
      · obtain ⟨_,_,M,_,_,_,⟨h2,_⟩|⟨_,_,_,h3,_⟩|⟨h2,_⟩⟩:=a2
        · exact h2
        · exact absurd hwk (h3 _)
        · omega
      · exact absurd h hv3
    obtain ⟨x,c,p1,p2,p3,p4⟩:=RJ hf hw0 a2 hv
    have hcb:r.cost=b:=by
      obtain ⟨_,_,M,_,_,_,⟨_,hl,⟨s',hp,hg⟩,hb,_⟩|⟨h2,_⟩|⟨h2,_⟩⟩:=a2
      · have h1:=b5 _ (hp.walk hg)
        have h2:=hb _ hwk
        omega
      · omega
      · omega
    have l1:(mapP (cmpL t old w) r.plan).length≤600:=by
      obtain ⟨_,_,M,_,_,_,⟨_,hl,_⟩|⟨h3,_⟩|⟨h3,_⟩⟩:=a2
      · have:=IN (cmpL t old w) r.plan;omega
      · omega
      · omega
    have d1:=QF ((mapP (cmpL t old w) r.plan).map (nmO t)) old
    rw [List.length_map] at d1
    have c1:=p1.bound hf.ok
    rw [if_neg hbi,QE hv]
    dsimp only
    rw [Ru hf.ok hf.ok.2.2.2.1 p1 (by omega),Am,if_pos rfl,if_pos hv,if_pos p2,if_pos hcb,QA (Oy p1) (by omega),Am,Rt (by simp;omega) (by omega),Am]
    have hd:((dist2 ((mapP (cmpL t old w) r.plan).map (nmO t)) old:Nat):Int)=((ed ((mapP (cmpL t old w) r.plan).map (nmO t)).reverse old.reverse:Nat):Int):=rfl
    rw [if_pos hd]
    generalize (dist2 ((mapP (cmpL t old w) r.plan).map (nmO t)) old:Nat)=da at *
    have m1:w * (da:Int)≤1000 * 1000:=Int.le_trans (Int.mul_le_mul_of_nonneg_right hw1 (by omega)) (Int.mul_le_mul_of_nonneg_left (by omega) (by decide))
    have m3:0≤w * (da:Int):=Int.mul_nonneg hw0 (by omega)
    have z1:chkI (w * (da:Int))=some (w * (da:Int)):=BA (by unfold inI64;omega)
    have z2:chkI (c + w * (da:Int))=some (c + w * (da:Int)):=BA (by unfold inI64;omega)
    rw [z1,Am,z2,Am,if_pos p3,Am]
end
section
open Go Go.RowKit Go.ChangeShapes Go.WideShapes Go.Deep
theorem lawRSolves {w:World} {v0:Value} {a0:Tsk} (h0:V w v0 a0) {v1:Value} {a1:List ByteArray} (h1:V w v1 a1) {v2:Value} {a2:Int} (h2:V w v2 a2):Fn Tryz.prog 3 [v0,v1,v2] w fun v w'=>v=.bool true∧Ext w w':=by
  obtain ⟨rfl,r2⟩:=Vb.int h2
  exact (IF (fun _ h=>h) h0 h1 r2 (Pc a0 a1 a2)).mono fun _ _ h=>⟨h.2.bool,h.1⟩
set_option maxRecDepth 100000 in
theorem Ji (os:Os) (started:os.Started) (H:Type) (enc:TypeId×Value→H) :
    ReturnsInHanded {} Tryz.checked os 3 .any (Rows.repairSolvesSpec.pre6 enc Tryz.prog Tryz.f3 Rows.repairSolvesRow.domain false) (Rows.repairSolvesSpec.post enc Tryz.prog Tryz.f3 false true false false):=by
  refine returnsInHanded_of_change (C:=Tryz.checked) ownTry started (by kernel_rfl) Tryz.func3 (ChangeSpec.witness6 (enc:=enc) (C:=Tryz.checked) false ⟨#[],#[(.agg #[.slice none 0 0,.slice none 0 0,.slice none 0 0,.slice none 0 0]),.slice none 0 0,(.int .i64 0)],[]⟩ 8 (by kernel_rfl) (by kernel_rfl) (by kernel_rfl) (by kernel_rfl)) ?_
  intro W base args ds gs before hval hW _ _
  have hopen:∀ p,DataW.TrodAll enc Tryz.prog W 0 (fun _=>true) true Tryz.f3.params.toList args.toList ds p→∃ v0 v1 v2 d0 d1 d2,args=#[v0,v1,v2]∧ds=[d0,d1,d2]∧(∃ a:Tsk,V W v0 a)∧(∃ a:List ByteArray,V W v1 a)∧(∃ a:Int,V W v2 a):=by
    intro p hA
    rw [Tryz.params3] at hA
    replace hval:∀ (j:Nat) t v,(#[26,27,3]:Array TypeId)[j]?=some t→args[j]?=some v→Value.okWide Tryz.prog W .any base t v:=by rw [← Tryz.params3];exact hval
    obtain ⟨v0,vs0,d0,ds0,p0,q0,g0,e0,_,h0,r0⟩:=trodAll_cons hA
    obtain ⟨v1,vs1,d1,ds1,p1,q1,g1,e1,_,h1,r1⟩:=trodAll_cons r0
    obtain ⟨v2,vs2,d2,ds2,p2,q2,g2,e2,_,h2,r2⟩:=trodAll_cons r1
    obtain ⟨g,e,_⟩:=trodAll_nil r2
    rw [g] at g2;rw [e] at e2
    rw [g2] at g1;rw [e2] at e1
    rw [g1] at g0;rw [e1] at e0
    obtain rfl:args=#[v0,v1,v2]:=by cases args;simp_all
    exact ⟨v0,v1,v2,d0,d1,d2,rfl,e0,(by first|exact openAgg rfl (hval 0 26 v0 rfl rfl) h0|exact openOne rfl (hval 0 26 v0 rfl rfl) h0),(by first|exact openAgg rfl (hval 1 27 v1 rfl rfl) h1|exact openOne rfl (hval 1 27 v1 rfl rfl) h1),(by first|exact openAgg rfl (hval 2 3 v2 rfl rfl) h2|exact openOne rfl (hval 2 3 v2 rfl rfl) h2)⟩
  refine lawPost rfl (by kernel_rfl) (by rw [Tryz.params3];exact of_decide_eq_true (by kernel_rfl)) hW ?_ ?_
  · intro p hA
    obtain ⟨v0,v1,v2,d0,d1,d2,_,rfl,_⟩:=hopen p hA
    rfl
  · intro p hA
    obtain ⟨v0,v1,v2,d0,d1,d2,rfl,_,⟨a0,h0⟩,⟨a1,h1⟩,⟨a2,h2⟩⟩:=hopen p hA
    exact lawRSolves h0 h1 h2
theorem repairSolves_holds:Rows.RepairSolvesSaid :=
  OpenClaim.holds_of_wide 3 Tryz.f3 rfl rfl rfl rfl rfl rfl rfl ⟨rfl,rfl,rfl,rfl,rfl⟩ rfl rfl rfl rfl rfl (by kernel_rfl) Tryz.func3 (by kernel_rfl)
    (of_decide_eq_true (by kernel_rfl)) (by unfold Func.isWrapper;first|(rw [if_pos (by decide +kernel)];kernel_rfl)|(rw [if_neg (by decide +kernel)];exact ⟨rfl,rfl⟩))
    (fun os started H enc _=>Ji os started H enc)
#print axioms repairSolves_holds
end
end Go.Proofs.YtafdmfhdjfkooaaGreat

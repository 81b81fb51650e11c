/- ExploreEdges returns true for every task, and it reads behind the call as before. No conditions. -/
import Derived.Test.YtkbmbcblgdgjlaaGreatEED
import Derived.Test.YtkbmbcblgdgjlaaGreatRows
set_option linter.unusedVariables false
set_option linter.unusedSimpArgs false
namespace Go.Proofs.YtkbmbcblgdgjlaaGreat
open Go Go.RowKit
section
set_option linter.unusedVariables false
open Go Go.RowKit
def lle (c k c' k':Int):Prop:=c < c'∨(c=c'∧k≤k')
instance (c k c' k':Int):Decidable (lle c k c' k'):=by unfold lle;infer_instance
theorem Nv {a b c d e f:Int} (h1:lle a b c d) (h2:lle c d e f):lle a b e f:=by unfold lle at *;omega
theorem Hl (a b:Int):lle a b a b:=by unfold lle;omega
def upd {α:Type} (f:Nat→α) (m:Nat) (x:α):Nat→α:=fun j=>if j=m then x else f j
theorem Be {α:Type} (f:Nat→α) (m:Nat) (x:α):upd f m x m=x:=if_pos rfl
theorem Bb {α:Type} {f:Nat→α} {m:Nat} {x:α} {j:Nat} (h:j≠m):upd f m x j=f j:=if_neg h
inductive Lx (S:Nat→Prop) (A:Nat→List (Nat×Int)):Nat→Int→Int→Prop
  | src {i:Nat}:S i→Lx S A i 0 0
  | step {i:Nat} {c k:Int} {j:Nat} {w:Int}:Lx S A i c k→(j,w)∈A i→Lx S A j (c + w) (k + 1)
theorem Lx.mono {S S':Nat→Prop} {A:Nat→List (Nat×Int)} (hS:∀ i,S i→S' i) {i:Nat} {c k:Int} (h:Lx S A i c k):Lx S' A i c k:=by
  induction h with
  | src h=>exact .src (hS _ h)
  | step _ hm ih=>exact .step ih hm
structure ArcsOk (n:Nat) (A:Nat→List (Nat×Int)):Prop where
  to:∀ i p,p∈A i→i < n∧p.1 < n
  wt:∀ i p,p∈A i→0≤p.2∧p.2≤1048576
def sumF (g:Nat→Nat):Nat→Nat
  | 0=>0
  | n + 1=>sumF g n + g n
theorem HC {g g':Nat→Nat}:∀ {n:Nat},(∀ j,j < n→g' j=g j)→sumF g' n=sumF g n
  | 0,_=>rfl
  | n + 1,h=>by
    have h1:=HC (n:=n) fun j hj=>h j (by omega)
    have h2:=h n (by omega)
    simp only [sumF];omega
theorem Jx {g g':Nat→Nat} {i:Nat}:∀ {n:Nat},i < n→(∀ j,j≠i→g' j=g j)→sumF g' n + g i=sumF g n + g' i
  | 0,h,_=>by omega
  | n + 1,h,he=>by
    by_cases e:i=n
    · subst e
      have:=HC (g:=g) (g':=g') (n:=i) fun j hj=>he j (by omega)
      simp only [sumF];omega
    · have h1:=Jx (n:=n) (by omega) he
      have h2:=he n (by omega)
      simp only [sumF];omega
theorem Lq {g:Nat→Nat} {m:Nat}:∀ {n:Nat},(∀ j,j < n→g j≤m)→sumF g n≤n * m
  | 0,_=>by simp [sumF]
  | n + 1,h=>by
    have h1:=Lq (n:=n) fun j hj=>h j (by omega)
    have h2:=h n (by omega)
    simp only [sumF,Nat.succ_mul];omega
def nScan (f:Nat→Bool) (n:Nat):Nat:=sumF (fun i=>if f i=true then 1 else 0) n
def nRem (A:Nat→List (Nat×Int)) (f:Nat→Bool) (n:Nat):Nat:=sumF (fun i=>if f i=true then 0 else (A i).length) n
theorem Lr (f:Nat→Bool) (n:Nat):nScan f n≤n:=by
  have:=Lq (g:=fun i=>if f i=true then 1 else 0) (m:=1) (n:=n) fun j _=>by split<;>omega
  unfold nScan;omega
theorem Nw {f:Nat→Bool} {n i:Nat} (hi:i < n) (hf:f i=false):nScan (upd f i true) n=nScan f n + 1:=by
  have:=Jx (g:=fun i=>if f i=true then 1 else 0) (g':=fun j=>if upd f i true j=true then 1 else 0) hi fun j hj=>by rw [Bb hj]
  rw [Be,if_pos rfl,hf,if_neg (by simp)] at this
  unfold nScan;omega
theorem Ou {A:Nat→List (Nat×Int)} {f:Nat→Bool} {n i:Nat} (hi:i < n) (hf:f i=false):nRem A (upd f i true) n + (A i).length=nRem A f n:=by
  have:=Jx (g:=fun i=>if f i=true then 0 else (A i).length) (g':=fun j=>if upd f i true j=true then 0 else (A j).length) hi fun j hj=>by rw [Bb hj]
  rw [Be,if_pos rfl,hf,if_neg (by simp)] at this
  unfold nRem;omega
structure DjI (n:Nat) (A:Nat→List (Nat×Int)) (S:Nat→Prop) (D:Nat→Nat×Int→Prop) (d k:Nat→Int) (f:Nat→Bool) (hp:List QEn):Prop where
  src:∀ i,S i→i < n∧d i=0∧k i=0
  real:∀ i,d i≠Inf→Lx S A i (d i) (k i)
  bnd:∀ i,d i≠Inf→i < n∧0≤d i∧d i≤(nScan f n:Int) * 1048576∧0≤k i∧k i≤(nScan f n:Int)
  inf:∀ i,d i=Inf→k i=Inf
  ent:∀ e∈hp,∃ i:Nat,e.item=(i:Int)∧i < n∧d i≠Inf∧lle (d i) (k i) e.key e.tie
  opn:∀ i,f i=false→d i≠Inf→∃ e∈hp,e.key=d i∧e.tie=k i∧e.item=(i:Int)
  low:∀ j,f j=true→∀ e∈hp,lle (d j) (k j) e.key e.tie
  fin:∀ j,f j=true→d j≠Inf
  old:∀ (j:Nat) e,f j=true→e∈hp→e.item=(j:Int)→e.key=d j→e.tie=k j→False
  uni:hp.Pairwise (fun a b=>¬(a.key=b.key∧a.tie=b.tie∧a.item=b.item))
  rel:∀ j p,f j=true→p∈A j→D j p→d p.1≠Inf∧lle (d p.1) (k p.1) (d j + p.2) (k j + 1)
structure LexP (n:Nat) (A:Nat→List (Nat×Int)) (S:Nat→Prop) (d k:Nat→Int):Prop where
  real:∀ i,d i≠Inf→Lx S A i (d i) (k i)
  low:∀ i c q,Lx S A i c q→d i≠Inf∧lle (d i) (k i) c q
theorem GD {hp hp':List QEn} (h:hp'.Perm hp) (hu:hp.Pairwise (fun a b=>¬(a.key=b.key∧a.tie=b.tie∧a.item=b.item))):hp'.Pairwise (fun a b=>¬(a.key=b.key∧a.tie=b.tie∧a.item=b.item)) :=
  (h.pairwise_iff fun {a b} hab hc=>hab ⟨hc.1.symm,hc.2.1.symm,hc.2.2.symm⟩).2 hu
section
variable {n : Nat} {A : Nat → List (Nat × Int)} {S : Nat → Prop} {D : Nat → Nat × Int → Prop} {d k : Nat → Int} {f : Nat → Bool} {hp hp' : List QEn} {e : QEn}
theorem Ov:DjI n A (fun _=>False) (fun _ _=>True) (fun _=>Inf) (fun _=>Inf) (fun _=>false) [] :=
  ⟨fun _ h=>h.elim,fun _ h=>(h rfl).elim,fun _ h=>(h rfl).elim,fun _ _=>rfl,fun _ h=>(by simp at h),fun _ _ h=>(h rfl).elim,fun _ h=>(by simp at h),fun _ h=>(by simp at h),fun _ _ h=>(by simp at h),List.Pairwise.nil,fun _ _ h=>(by simp at h)⟩
theorem DjI.source (h:DjI n A S D d k (fun _=>false) hp) {i:Nat} (hi:i < n) (hd:d i=Inf) (hh:hp'.Perm (e :: hp)) (e1:e.key=0) (e2:e.tie=0) (e3:e.item=(i:Int)):DjI n A (fun j=>S j∨j=i) D (upd d i 0) (upd k i 0) (fun _=>false) hp':=by
  have hI:Inf≠0:=by unfold Inf;omega
  refine ⟨?_,?_,?_,?_,?_,?_,fun _ h=>(by simp at h),fun _ h=>(by simp at h),fun _ _ h=>(by simp at h),GD hh (List.pairwise_cons.2 ⟨fun x hx hc=>?_,h.uni⟩),fun _ _ h=>(by simp at h)⟩
  · intro j hj
    by_cases e:j=i
    · subst e;exact ⟨hi,Be ..,Be ..⟩
    · rw [Bb e,Bb e];exact h.src j (hj.resolve_right e)
  · intro j hj
    by_cases e:j=i
    · subst e;rw [Be,Be];exact .src (.inr rfl)
    · rw [Bb e] at hj;rw [Bb e,Bb e];exact (h.real j hj).mono fun _=>.inl
  · intro j hj
    by_cases e:j=i
    · subst e;rw [Be,Be];exact ⟨hi,by omega,by omega,by omega,by omega⟩
    · rw [Bb e] at hj;rw [Bb e,Bb e];exact h.bnd j hj
  · intro j hj
    by_cases e:j=i
    · subst e;rw [Be] at hj;exact (hI hj.symm).elim
    · rw [Bb e] at hj;rw [Bb e];exact h.inf j hj
  · intro x hx
    rcases List.mem_cons.1 (hh.mem_iff.1 hx) with rfl|hx
    · exact ⟨i,e3,hi,by rw [Be];exact hI.symm,by rw [Be,Be,e1,e2];exact Hl _ _⟩
    · obtain ⟨j,a,b,c,g⟩:=h.ent x hx
      have e:j≠i:=fun e=>c (by rw [e];exact hd)
      exact ⟨j,a,b,by rw [Bb e];exact c,by rw [Bb e,Bb e];exact g⟩
  · intro j _ hj
    by_cases e:j=i
    · subst e;exact ⟨_,hh.mem_iff.2 List.mem_cons_self,by rw [Be];exact e1,by rw [Be];exact e2,e3⟩
    · rw [Bb e] at hj
      obtain ⟨x,m,r⟩:=h.opn j rfl hj
      exact ⟨x,hh.mem_iff.2 (List.mem_cons_of_mem _ m),by rw [Bb e,Bb e];exact r⟩
  · obtain ⟨j,a,_,c,_⟩:=h.ent x hx
    have:j=i:=by omega
    subst this
    exact c hd
theorem DjI.drop (h:DjI n A S D d k f hp) (hh:hp.Perm (e :: hp')) {i:Nat} (hi:e.item=(i:Int)) (hd:¬(e.key=d i∧e.tie=k i)):DjI n A S D d k f hp' :=
  { h with
    ent:=fun x hx=>h.ent x (hh.mem_iff.2 (List.mem_cons_of_mem _ hx))
    opn := fun j hj hc=>by
      obtain ⟨x,m,a,b,c⟩:=h.opn j hj hc
      rcases List.mem_cons.1 (hh.mem_iff.1 m) with rfl|m
      · have:j=i:=by omega
        subst this
        exact (hd ⟨a,b⟩).elim
      · exact ⟨x,m,a,b,c⟩
    low:=fun j hj x hx=>h.low j hj x (hh.mem_iff.2 (List.mem_cons_of_mem _ hx))
    old:=fun j x hj hx=>h.old j x hj (hh.mem_iff.2 (List.mem_cons_of_mem _ hx))
    uni:=(List.pairwise_cons.1 (GD hh.symm h.uni)).2 }
theorem DjI.mark (h:DjI n A S (fun _ _=>True) d k f hp) (hh:hp.Perm (e :: hp')) (hmin:∀ x∈hp,nb x e) {i:Nat} (hi:e.item=(i:Int)) (h1:e.key=d i) (h2:e.tie=k i) :
    f i=false∧i < n∧d i≠Inf∧nScan (upd f i true) n=nScan f n + 1∧nRem A (upd f i true) n + (A i).length=nRem A f n∧(∀ j,upd f i true j=true→lle (d j) (k j) (d i) (k i))∧DjI n A S (fun j _=>j≠i) d k (upd f i true) hp':=by
  have he:e∈hp:=hh.mem_iff.2 List.mem_cons_self
  have hsub:∀ x,x∈hp'→x∈hp:=fun x hx=>hh.mem_iff.2 (List.mem_cons_of_mem _ hx)
  obtain ⟨i',a,b,c,_⟩:=h.ent e he
  have e0:i'=i:=by omega
  subst e0
  have hf:f i'=false:=by
    cases hb:f i' with
    | false=>rfl
    | true=>exact (h.old i' e hb he hi h1 h2).elim
  have hn:=Nw b hf
  have hl:∀ x∈hp,lle (d i') (k i') x.key x.tie:=fun x hx=>by
    have:=hmin x hx
    rw [← h1,← h2]
    unfold nb bfr at this
    unfold lle
    omega
  have hu:∀ j,upd f i' true j=true→j=i'∨f j=true:=fun j hj=>by
    by_cases e:j=i'
    · exact .inl e
    · rw [Bb e] at hj;exact .inr hj
  refine ⟨hf,b,c,hn,Ou b hf,fun j hj=>?_,⟨h.src,h.real,fun j hj=>?_,h.inf,fun x hx=>h.ent x (hsub x hx),fun j hj hc=>?_,fun j hj x hx=>?_,fun j hj=>?_,fun j x hj hx e1 e2 e3=>?_,(List.pairwise_cons.1 (GD hh.symm h.uni)).2,fun j p hj hp hne=>?_⟩⟩
  · rcases hu j hj with rfl|hj
    · exact Hl _ _
    · have:=h.low j hj e he
      rwa [h1,h2] at this
  · have:=h.bnd j hj
    rw [hn]
    omega
  · have e:j≠i':=fun e=>by subst e;rw [Be] at hj;cases hj
    rw [Bb e] at hj
    obtain ⟨x,m,r1,r2,r3⟩:=h.opn j hj hc
    rcases List.mem_cons.1 (hh.mem_iff.1 m) with rfl|m
    · omega
    · exact ⟨x,m,r1,r2,r3⟩
  · rcases hu j hj with rfl|hj
    · exact hl x (hsub x hx)
    · exact h.low j hj x (hsub x hx)
  · rcases hu j hj with rfl|hj
    · exact c
    · exact h.fin j hj
  · rcases hu j hj with rfl|hj
    · exact (List.pairwise_cons.1 (GD hh.symm h.uni)).1 x hx ⟨by omega,by omega,by omega⟩
    · exact h.old j x hj (hsub x hx) e1 e2 e3
  · rcases hu j hj with rfl|hj
    · exact (hne rfl).elim
    · exact h.rel j p hj hp trivial
theorem DjI.keep (h:DjI n A S D d k f hp) {D':Nat→Nat×Int→Prop} {i:Nat} {p:Nat×Int} (hD:∀ j q,D' j q→D j q∨(j=i∧q=p)) (hm:d p.1≠Inf) (hl:lle (d p.1) (k p.1) (d i + p.2) (k i + 1)):DjI n A S D' d k f hp :=
  { h with
    rel:=fun j q hj hq hd=>by
      rcases hD j q hd with hd|⟨rfl,rfl⟩
      · exact h.rel j q hj hq hd
      · exact ⟨hm,hl⟩ }
theorem DjI.better (h:DjI n A S D d k f hp) (hA:ArcsOk n A) {D':Nat→Nat×Int→Prop} {i:Nat} {p:Nat×Int} (hD:∀ j q,D' j q→D j q∨(j=i∧q=p)) (hf:f i=true) (hcur:∀ j,f j=true→lle (d j) (k j) (d i) (k i)) (hb:d i + 1048576≤(nScan f n:Int) * 1048576) (hb2:k i + 1≤(nScan f n:Int)) (hp0:p∈A i)
    (hl:¬ lle (d p.1) (k p.1) (d i + p.2) (k i + 1)) (hh:hp'.Perm (e :: hp)) (e1:e.key=d i + p.2) (e2:e.tie=k i + 1) (e3:e.item=(p.1:Int)) (hx:d i + p.2≠Inf):p.1≠i∧DjI n A S D' (upd d p.1 (d i + p.2)) (upd k p.1 (k i + 1)) f hp':=by
  obtain ⟨m,w⟩:=p
  dsimp only at *
  have hw:=hA.wt i _ hp0
  have hmn:=(hA.to i _ hp0).2
  dsimp only at hw hmn
  have hdi:=h.fin i hf
  have hbi:=h.bnd i hdi
  have hmf:∀ j,f j=true→j≠m:=fun j hj e=>by
    subst e
    have:=hcur j hj
    unfold lle at this hl
    omega
  have hmi:=hmf i hf
  refine ⟨Ne.symm hmi,fun j hj=>?_,fun j hj=>?_,fun j hj=>?_,fun j hj=>?_,fun x hx'=>?_,fun j hj hc=>?_,fun j hj x hx'=>?_,fun j hj=>?_,fun j x hj hx' f1 f2 f3=>?_,GD hh (List.pairwise_cons.2 ⟨fun x hx' hc=>?_,h.uni⟩),fun j q hj hq hd=>?_⟩
  · obtain ⟨a,b,c⟩:=h.src j hj
    have e:j≠m:=fun e=>by subst e;unfold lle at hl;omega
    rw [Bb e,Bb e];exact ⟨a,b,c⟩
  · by_cases e:j=m
    · subst e;rw [Be,Be];exact .step (h.real i hdi) hp0
    · rw [Bb e] at hj;rw [Bb e,Bb e];exact h.real j hj
  · by_cases e:j=m
    · subst e;rw [Be,Be];exact ⟨hmn,by omega,by omega,by omega,by omega⟩
    · rw [Bb e] at hj;rw [Bb e,Bb e];exact h.bnd j hj
  · by_cases e:j=m
    · subst e;rw [Be] at hj;exact (hx hj).elim
    · rw [Bb e] at hj;rw [Bb e];exact h.inf j hj
  · rcases List.mem_cons.1 (hh.mem_iff.1 hx') with rfl|hx'
    · exact ⟨m,e3,hmn,by rw [Be];exact hx,by rw [Be,Be,e1,e2];exact Hl _ _⟩
    · obtain ⟨j,a,b,c,g⟩:=h.ent x hx'
      by_cases e:j=m
      · subst e
        exact ⟨j,a,b,by rw [Be];exact hx,by rw [Be,Be];unfold lle at *;omega⟩
      · exact ⟨j,a,b,by rw [Bb e];exact c,by rw [Bb e,Bb e];exact g⟩
  · by_cases e:j=m
    · subst e;exact ⟨_,hh.mem_iff.2 List.mem_cons_self,by rw [Be];exact e1,by rw [Be];exact e2,e3⟩
    · rw [Bb e] at hc
      obtain ⟨x,m,r⟩:=h.opn j hj hc
      exact ⟨x,hh.mem_iff.2 (List.mem_cons_of_mem _ m),by rw [Bb e,Bb e];exact r⟩
  · rw [Bb (hmf j hj),Bb (hmf j hj)]
    rcases List.mem_cons.1 (hh.mem_iff.1 hx') with rfl|hx'
    · have:=hcur j hj
      rw [e1,e2]
      unfold lle at *
      omega
    · exact h.low j hj x hx'
  · rw [Bb (hmf j hj)];exact h.fin j hj
  · have e:=hmf j hj
    rw [Bb e] at f2 f3
    rcases List.mem_cons.1 (hh.mem_iff.1 hx') with rfl|hx'
    · omega
    · exact h.old j x hj hx' f1 f2 f3
  · obtain ⟨j,a,_,c,g⟩:=h.ent x hx'
    have:j=m:=by omega
    subst this
    obtain ⟨c1,c2,c3⟩:=hc
    rw [← c1,← c2,e1,e2] at g
    exact hl g
  · have e:=hmf j hj
    rw [Bb e,Bb e]
    rcases hD j q hd with hd|⟨rfl,rfl⟩
    · obtain ⟨r1,r2⟩:=h.rel j q hj hq hd
      by_cases e:q.1=m
      · rw [e] at r1 r2 ⊢
        rw [Be,Be]
        exact ⟨hx,by unfold lle at *;omega⟩
      · rw [Bb e,Bb e];exact ⟨r1,r2⟩
    · dsimp only
      rw [Be,Be];exact ⟨hx,Hl _ _⟩
theorem DjI.done (h:DjI n A S (fun _ _=>True) d k f []):LexP n A S d k:=by
  have hI:Inf≠0:=by unfold Inf;omega
  refine ⟨h.real,fun i c q hx=>?_⟩
  induction hx with
  | src hs=>obtain ⟨_,a,b⟩:=h.src _ hs;rw [a,b];exact ⟨hI.symm,Hl _ _⟩
  | @step i c q j w _ hm ih =>
    have hf:f i=true:=by
      cases hb:f i with
      | true=>rfl
      | false=>obtain ⟨x,m,_⟩:=h.opn i hb ih.1;simp at m
    obtain ⟨r1,r2⟩:=h.rel i _ hf hm trivial
    refine ⟨r1,Nv r2 ?_⟩
    have:=ih.2
    unfold lle at *
    omega
end
end
section
open Go Go.RowKit
theorem Iy (x y:QEn):BS x y=some (decide (bfr x y)):=by
  unfold BS bfr
  by_cases h1:x.key=y.key
  · by_cases h2:x.tie=y.tie
    · by_cases h3:x.number < y.number<;>simp [h1,h2,h3,bnd]
    · by_cases h3:x.tie < y.tie<;>simp [h1,h2,h3,bnd]
  · by_cases h3:x.key < y.key<;>simp [h1,h3,bnd]
theorem Rg {q:Que} {i:Nat} (hi:i < q.heap.length) (hl:q.heap.length≤1000000) (h:UpI q.heap i):∃ r,CI q (i:Int)=some r∧HeapOk r.heap∧r.heap.Perm q.heap∧r.next=q.next:=by
  unfold CI
  refine Lo (fun s=>∃ i:Nat,s.1=(i:Int)∧i < s.2.heap.length∧UpI s.2.heap i∧s.2.heap.Perm q.heap∧s.2.next=q.next) (fun s=>HeapOk s.2.heap∧s.2.heap.Perm q.heap∧s.2.next=q.next) (fun s=>HeapOk s.heap∧s.heap.Perm q.heap∧s.next=q.next) (fun s=>s.1.toNat) ⟨i,rfl,hi,h,List.Perm.refl _,rfl⟩ ?_ (fun s hs=>⟨_,rfl,hs⟩) (fun s hs=>⟨_,rfl,hs⟩)
  rintro ⟨c,s⟩ ⟨i,hc,hi,hu,hp,hn⟩
  dsimp only at hc hi hu hp hn ⊢
  subst hc
  have hlen:=hp.length_eq
  by_cases h0:0 < (i:Int)
  · rw [if_pos h0,Dg (by unfold inI64;omega),At]
    have hq:quoI ((i:Int) - 1) 2=some (((i - 1) / 2:Nat):Int):=by
      unfold quoI;rw [if_pos (by omega)];congr 1;omega
    obtain ⟨a,ha⟩:=AD (l:=s.heap) (k:=i) hi
    obtain ⟨b,hb⟩:=AD (l:=s.heap) (k:=(i - 1) / 2) (by omega)
    rw [hq,At,Ct,ha,At,Ct,hb,At,Iy,At]
    by_cases hab:bfr a b
    · rw [decide_eq_true hab,Es,At,At,At,Ct,Int.toNat_natCast,List.getElem?_set_ne (by omega),hb,At,Int.toNat_natCast]
      refine .inl ⟨_,rfl,⟨(i - 1) / 2,rfl,by simp;omega,hu.step (by omega) ha hb hab,(Lp ha hb).trans hp,hn⟩,?_⟩
      dsimp only
      omega
    · rw [decide_eq_false hab,Dw]
      refine .inr (.inr ⟨_,rfl,hu.heap (.inr fun x y hx hy=>?_),hp,hn⟩)
      rw [ha] at hx
      rw [hb] at hy
      obtain rfl:=Option.some.inj hx
      obtain rfl:=Option.some.inj hy
      exact hab
  · rw [if_neg h0]
    exact .inr (.inl ⟨_,rfl,hu.heap (.inl (by omega)),hp,hn⟩)
theorem Mk {q:Que} (h:HeapOk q.heap) (hl:q.heap.length < 65536) (hn:0≤q.next∧q.next≤1000000000) (k t i:Int):∃ r,BD q k t i=some r∧r.1=⟨0⟩∧HeapOk r.2.heap∧r.2.heap.Perm (⟨k,t,i,q.next⟩ :: q.heap)∧r.2.next=q.next + 1:=by
  unfold BD
  rw [if_neg (by omega),CD (by simp;omega) (by simp;omega),At,Dg (by unfold inI64;omega),At,Dg (by unfold inI64;simp;omega),At]
  have hlen:(((q.heap ++ [(⟨k,t,i,q.next⟩:QEn)]).length:Int) - 1)=((q.heap.length:Nat):Int):=by simp
  rw [hlen]
  obtain ⟨r,r1,r2,r3,r4⟩:=Rg (q:=⟨q.heap ++ [⟨k,t,i,q.next⟩],q.next + 1⟩) (i:=q.heap.length) (by simp) (by simp;omega) ⟨fun j x y hj hji hx hy=>by
    dsimp only at hx hy
    have hjl:j < q.heap.length:=by have:=AC hx;simp at this;omega
    rw [List.getElem?_append_left hjl] at hx
    rw [List.getElem?_append_left (by omega)] at hy
    exact h j x y hj hx hy,fun j x y h1 h2 h3 hx hy=>by
    dsimp only at hx
    have:=AC hx
    simp at this
    omega⟩
  rw [r1,At]
  exact ⟨_,rfl,rfl,r2,r3.trans (List.perm_append_comm (l₁:=q.heap) (l₂:=[_])),r4⟩
theorem Pr {q:Que} (hl:q.heap.length≤1000000) (h:DownI q.heap 0):∃ r,Cw q 0=some r∧HeapOk r.heap∧r.heap.Perm q.heap∧r.next=q.next:=by
  unfold Cw
  refine Lo (fun s=>∃ i:Nat,s.1=(i:Int)∧DownI s.2.heap i∧i≤s.2.heap.length∧s.2.heap.Perm q.heap∧s.2.next=q.next) (fun _=>False) (fun s=>HeapOk s.heap∧s.heap.Perm q.heap∧s.next=q.next) (fun s=>s.2.heap.length - s.1.toNat) ⟨0,rfl,h,by omega,List.Perm.refl _,rfl⟩ ?_ (fun s hs=>hs.elim) (fun s hs=>⟨_,rfl,hs⟩)
  rintro ⟨c,s⟩ ⟨i,hc,hd,hi,hp,hn⟩
  dsimp only at hc hd hi hp hn ⊢
  subst hc
  have hlen:=hp.length_eq
  rw [Dg (by unfold inI64;omega),At,Dg (by unfold inI64;omega),At]
  by_cases h1:(s.heap.length:Int)≤2 * (i:Int) + 1
  · rw [if_pos h1]
    refine .inr (.inr ⟨_,rfl,hd.heap fun j x y hj hji hx _=>?_,hp,hn⟩)
    have:=AC hx
    omega
  rw [if_neg h1]
  obtain ⟨a,ha⟩:=AD (l:=s.heap) (k:=i) (by omega)
  obtain ⟨b,hb⟩:=AD (l:=s.heap) (k:=2 * i + 1) (by omega)
  have cast1:2 * (i:Int) + 1=((2 * i + 1:Nat):Int):=by omega
  have cast2:2 * (i:Int) + 1 + 1=((2 * i + 2:Nat):Int):=by omega
  have rest:∀ (c:Nat) (d:QEn),(c=2 * i + 1∨c=2 * i + 2)→s.heap[c]?=some d→(∀ (j:Nat) x,0 < j→(j - 1) / 2=i→s.heap[j]?=some x→nb x d)→(∃ s',(bnd (atI s.heap (c:Int)) fun a138=>bnd (atI s.heap (i:Int)) fun a153=>bnd (BS a138 a153) fun q168=>if q168=true then bnd (atI s.heap (c:Int)) fun a180=>bnd (atI s.heap (i:Int)) fun a195=>bnd (atI s.heap (i:Int)) fun _=>bnd (atI (s.heap.set ((i:Int)).toNat a180) (c:Int)) fun _=>some (Ctl.next (ρ:=Que) ((c:Int),(⟨((s.heap.set ((i:Int)).toNat a180).set ((c:Int)).toNat a195),s.next⟩:Que))) else some (.ret s))=some (.next s')∧(∃ i:Nat,s'.1=(i:Int)∧DownI s'.2.heap i∧i≤s'.2.heap.length∧s'.2.heap.Perm q.heap∧s'.2.next=q.next)∧s'.2.heap.length - s'.1.toNat < s.heap.length - ((i:Int)).toNat)∨(∃ s',(bnd (atI s.heap (c:Int)) fun a138=>bnd (atI s.heap (i:Int)) fun a153=>bnd (BS a138 a153) fun q168=>if q168=true then bnd (atI s.heap (c:Int)) fun a180=>bnd (atI s.heap (i:Int)) fun a195=>bnd (atI s.heap (i:Int)) fun _=>bnd (atI (s.heap.set ((i:Int)).toNat a180) (c:Int)) fun _=>some (Ctl.next (ρ:=Que) ((c:Int),(⟨((s.heap.set ((i:Int)).toNat a180).set ((c:Int)).toNat a195),s.next⟩:Que))) else some (.ret s))=some (.brk s')∧False)∨∃ r,(bnd (atI s.heap (c:Int)) fun a138=>bnd (atI s.heap (i:Int)) fun a153=>bnd (BS a138 a153) fun q168=>if q168=true then bnd (atI s.heap (c:Int)) fun a180=>bnd (atI s.heap (i:Int)) fun a195=>bnd (atI s.heap (i:Int)) fun _=>bnd (atI (s.heap.set ((i:Int)).toNat a180) (c:Int)) fun _=>some (Ctl.next (ρ:=Que) ((c:Int),(⟨((s.heap.set ((i:Int)).toNat a180).set ((c:Int)).toNat a195),s.next⟩:Que))) else some (.ret s))=some (.ret r)∧HeapOk r.heap∧r.heap.Perm q.heap∧r.next=q.next:=by
    intro c d hc hd' hs
    have hcl:=AC hd'
    rw [Ct,hd',At,Ct,ha,At,Iy,At]
    by_cases hda:bfr d a
    · rw [decide_eq_true hda,Es,At,At,At,Ct,Int.toNat_natCast,List.getElem?_set_ne (by omega),hd',At,Int.toNat_natCast]
      refine .inl ⟨_,rfl,⟨c,rfl,hd.step hc ha hd' hda hs,by simp;omega,(Lp ha hd').trans hp,hn⟩,?_⟩
      simp
      omega
    · rw [decide_eq_false hda,Dw]
      refine .inr (.inr ⟨_,rfl,hd.heap fun j x y hj hji hx hy=>?_,hp,hn⟩)
      rw [ha] at hy
      obtain rfl:=Option.some.inj hy
      exact HB (hs j x hj hji hx) hda
  rw [Dg (by unfold inI64;omega),At]
  by_cases h2:2 * (i:Int) + 1 + 1 < (s.heap.length:Int)
  · obtain ⟨d,hd'⟩:=AD (l:=s.heap) (k:=2 * i + 2) (by omega)
    rw [if_pos h2,At,cast2,cast1,Ct,hd',At,Ct,hb,At,Iy,At]
    by_cases hdb:bfr d b
    · rw [decide_eq_true hdb,Es,At,Es,At,At]
      refine rest (2 * i + 2) d (.inr rfl) hd' fun j x hj hji hx=>?_
      have:j=2 * i + 1∨j=2 * i + 2:=by omega
      rcases this with rfl|rfl
      · rw [hb] at hx;obtain rfl:=Option.some.inj hx;exact KU hdb
      · rw [hd'] at hx;obtain rfl:=Option.some.inj hx;exact JW _
    · rw [decide_eq_false hdb,Dw,At,Dw,At]
      refine rest (2 * i + 1) b (.inl rfl) hb fun j x hj hji hx=>?_
      have:j=2 * i + 1∨j=2 * i + 2:=by omega
      rcases this with rfl|rfl
      · rw [hb] at hx;obtain rfl:=Option.some.inj hx;exact JW _
      · rw [hd'] at hx;obtain rfl:=Option.some.inj hx;exact hdb
  · rw [if_neg h2,At,Dw,At,cast1]
    refine rest (2 * i + 1) b (.inl rfl) hb fun j x hj hji hx=>?_
    have:j=2 * i + 1:=by have:=AC hx;omega
    subst this
    rw [hb] at hx;obtain rfl:=Option.some.inj hx;exact JW _
theorem Qm {q:Que} (h:HeapOk q.heap) (h0:0 < q.heap.length) (hl:q.heap.length≤1000000):∃ r,Cp q=some r∧∃ (e:QEn) (q':Que),r=(e.key,e.tie,e.item,⟨0⟩,q')∧HeapOk q'.heap∧q.heap.Perm (e :: q'.heap)∧(∀ x∈q.heap,nb x e)∧q'.next=q.next:=by
  obtain ⟨e,he⟩:=AD (l:=q.heap) (k:=0) h0
  obtain ⟨z,hz⟩:=AD (l:=q.heap) (k:=q.heap.length - 1) (by omega)
  have at0:atI q.heap 0=some e:=by rw [show (0:Int)=((0:Nat):Int) from rfl,Ct];exact he
  have cz:((q.heap.length:Int) - 1)=((q.heap.length - 1:Nat):Int):=by omega
  unfold Cp CK
  rw [if_neg (by omega),at0,At,At,if_neg (by simp),Dg (by unfold inI64;omega),At,cz,Ct,hz,At,At]
  unfold cutI
  rw [if_pos (by simp),At]
  simp only [Int.toNat_zero,List.drop_zero,Int.toNat_natCast]
  have hperm:q.heap.Perm (e :: (q.heap.set 0 z).take (q.heap.length - 1)):=by
    cases hq:q.heap with
    | nil=>rw [hq] at h0;simp at h0
    | cons a tl =>
      rw [hq] at he hz
      simp at he
      subst he
      cases htl:tl.reverse with
      | nil =>
        have:tl=[]:=by simpa using htl
        subst this
        simp
      | cons w r =>
        have htl':tl=r.reverse ++ [w]:=by have:=congrArg List.reverse htl;simpa using this
        subst htl'
        simp at hz
        subst hz
        simp
  obtain ⟨r,r1,r2,r3,r4⟩:=Pr (q:=⟨(q.heap.set 0 z).take (q.heap.length - 1),q.next⟩) (by simp;omega) ⟨fun j x y hj hjp hx hy=>by
    dsimp only at hx hy
    have hx':=Ix hx
    have hy':=Ix hy
    rw [List.getElem?_set_ne (by omega)] at hx' hy'
    exact h j x y hj hx' hy',fun j x y h1=>by omega⟩
  rw [r1,At]
  exact ⟨_,rfl,e,r,rfl,r2,hperm.trans (List.Perm.cons _ r3.symm),Nu h he,r4⟩
end
section
set_option linter.unusedVariables false
set_option linter.unusedSimpArgs false
open Go Go.RowKit
def gI (l:List Int) (i:Nat):Int:=(l[i]?).getD Inf
theorem Qn {l:List Int} {i:Nat} (h:i < l.length):l[i]?=some (gI l i):=by unfold gI;rw [List.getElem?_eq_getElem h];rfl
theorem FA {l:List Int} {m:Nat} {x:Int} (h:m < l.length):gI (l.set m x)=upd (gI l) m x:=by
  funext j
  unfold gI upd
  by_cases e:j=m
  · subst e;rw [if_pos rfl,List.getElem?_set_self h];rfl
  · rw [if_neg e,List.getElem?_set_ne (Ne.symm e)]
theorem IS {l:List Int} {i:Nat} (h:i < l.length):atI l (i:Int)=some (gI l i):=by rw [Ct,Qn h]
theorem Nx (n:Nat):gI (List.replicate n Inf)=fun _=>Inf:=by
  funext j
  unfold gI
  rw [List.getElem?_replicate]
  split<;>rfl
def arcA (rows:List (List Arc)) (i:Nat):List (Nat×Int):=((rows[i]?).getD []).map fun a=>(a.dst.toNat,a.weight)
abbrev LQ:=List Int×List Int×Que
noncomputable def shIn (x0:List (List Arc)) (c k:Int):Arc→LQ→Option (Ctl LQ (Ctl LQ (List Int×List Int))):=fun a s=>bnd (chkI (c + a.weight)) fun n1=>bnd (chkI (k + 1)) fun n2=>bnd (bnd (atI s.1 a.dst) fun a385=>if a385 < n1 then (some true) else (bnd (atI s.1 a.dst) fun a398=>if n1=a398 then (bnd (atI s.2.1 a.dst) fun a411=>if a411≤n2 then (some true) else (some false)) else (some false)):Option Bool) fun y381=>if y381=true then (some (.next (s.1,s.2.1,s.2.2))) else (bnd (atI s.1 a.dst) fun _=>bnd (atI s.2.1 a.dst) fun _=>bnd (BD s.2.2 n1 n2 a.dst) fun q457=>if q457.1.n≠0 then (bnd (Dr x0 (s.1.set (a.dst:Int).toNat n1) (s.2.1.set (a.dst:Int).toNat n2)) fun q472=>some (.ret (.ret (q472.1,q472.2)))) else (some (.next ((s.1.set (a.dst:Int).toNat n1),(s.2.1.set (a.dst:Int).toNat n2),q457.2))))
noncomputable def shF (x0:List (List Arc)):LQ→Option (Ctl LQ (List Int×List Int)):=fun s226=>bnd (CB s226.2.2) fun q249=>if 0 < q249 then (bnd (Cp s226.2.2) fun q260=>if q260.2.2.2.1.n≠0 then (some (.brk (s226.1,s226.2.1,q260.2.2.2.2))) else (bnd (bnd (atI s226.1 q260.2.2.1) fun a285=>if q260.1≠a285 then (some true) else (bnd (atI s226.2.1 q260.2.2.1) fun a298=>if q260.2.1≠a298 then (some true) else (some false)):Option Bool) fun y281=>if y281=true then (some (.next (s226.1,s226.2.1,q260.2.2.2.2))) else (bnd (atI x0 q260.2.2.1) fun a316=>bnd (rng (ρ:=Ctl LQ ((List Int)×(List Int))) (fun (_:Nat) (a338:Arc) (s335:LQ)=>shIn x0 q260.1 q260.2.1 a338 s335) a316 0 (s226.1,s226.2.1,q260.2.2.2.2)) fun res333=>fin res333 fun (s491:LQ)=>some (.next (s491.1,s491.2.1,s491.2.2))))) else (some (.brk (s226.1,s226.2.1,s226.2.2)))
noncomputable def shE:Fin LQ (List Int×List Int)→Option (List Int×List Int):=fun res224=>fin res224 fun (s497:LQ)=>some (s497.1,s497.2.1)
noncomputable def shS:Int→LQ→Option (Ctl LQ (List Int×List Int)):=fun a152 s149=>bnd (atI s149.1 a152) fun _=>bnd (atI s149.2.1 a152) fun _=>bnd (BD s149.2.2 0 0 a152) fun q208=>some (.next ((s149.1.set (a152:Int).toNat 0),(s149.2.1.set (a152:Int).toNat 0),q208.2))
theorem Qp (x0:List (List Arc)) (x1:List Int):BQ x0 x1=bnd (mkI 8 (0:Int) (x0.length:Int)) fun u7=>bnd (mkI 8 (0:Int) (x0.length:Int)) fun u9=>bnd (some (u7,u9):Option ((List Int)×(List Int))) fun y11=>bnd (rngN (ρ:=(List Int)×(List Int)) (fun (k77:Nat) (s75:(List Int)×(List Int))=>bnd (s75.1[k77]?) fun a104=>bnd (s75.2[k77]?) fun a116=>some (.next ((s75.1.set k77 1125899906842624),(s75.2.set k77 1125899906842624)))) y11.1.length (y11.1,y11.2)) fun res73=>fin res73 fun (s132:(List Int)×(List Int))=>bnd (DG) fun q134=>bnd q134 fun o144=>bnd (rng (ρ:=(List Int)×(List Int)) (fun (_:Nat) (a152:Int) (s149:LQ)=>shS a152 s149) x1 0 (s132.1,s132.2,o144)) fun res147=>fin res147 fun (s222:LQ)=>bnd (lop (shF x0) (s222.1,s222.2.1,s222.2.2)) shE:=rfl
structure ShI (n:Nat) (A:Nat→List (Nat×Int)) (S:Nat→Prop) (D:Nat→Nat×Int→Prop) (f:Nat→Bool) (s:LQ):Prop where
  dj:DjI n A S D (gI s.1) (gI s.2.1) f s.2.2.heap
  l1:s.1.length=n
  l2:s.2.1.length=n
  hp:HeapOk s.2.2.heap
structure RowsOk (n:Nat) (rows:List (List Arc)):Prop where
  len:rows.length=n
  few:n≤600
  ok:∀ (i:Nat) r a,rows[i]?=some r→a∈r→0≤a.dst∧a.dst < (n:Int)∧0≤a.weight∧a.weight≤1048576
section
variable {n : Nat} {rows : List (List Arc)} {S : Nat → Prop} {D : Nat → Nat × Int → Prop} {f : Nat → Bool} {s : LQ}
theorem RowsOk.arcs (h:RowsOk n rows):ArcsOk n (arcA rows):=by
  have key:∀ i p,p∈arcA rows i→∃ r a,rows[i]?=some r∧a∈r∧p=(a.dst.toNat,a.weight):=fun i p hp=>by
    unfold arcA at hp
    cases hr:rows[i]? with
    | none=>rw [hr] at hp;simp at hp
    | some r =>
      rw [hr] at hp
      obtain ⟨a,ha,rfl⟩:=List.mem_map.1 hp
      exact ⟨r,a,rfl,ha,rfl⟩
  refine ⟨fun i p hp=>?_,fun i p hp=>?_⟩
  · obtain ⟨r,a,h1,h2,rfl⟩:=key i p hp
    have:=h.ok i r a h1 h2
    have hl:=AC h1
    rw [h.len] at hl
    exact ⟨hl,by dsimp only;omega⟩
  · obtain ⟨r,a,h1,h2,rfl⟩:=key i p hp
    have:=h.ok i r a h1 h2
    exact ⟨by dsimp only;omega,by dsimp only;omega⟩
theorem Qq (h:RowsOk n rows) {i:Nat} {row:List Arc} (hr:rows[i]?=some row) {m:Nat} {a:Arc} (ha:row[m]?=some a) (hI:ShI n (arcA rows) S (fun j p=>j≠i∨p∈(arcA rows i).take m) f s) {c k:Int} (hc:gI s.1 i=c) (hk:gI s.2.1 i=k) (hf:f i=true)
    (hcur:∀ j,f j=true→lle (gI s.1 j) (gI s.2.1 j) c k) (hb:c + 1048576≤(nScan f n:Int) * 1048576) (hb2:k + 1≤(nScan f n:Int)) (hl:s.2.2.heap.length < 65536) (hn:0≤s.2.2.next∧s.2.2.next≤1000000000) :
    ∃ s',shIn rows c k a s=some (.next s')∧ShI n (arcA rows) S (fun j p=>j≠i∨p∈(arcA rows i).take (m + 1)) f s'∧gI s'.1 i=c∧gI s'.2.1 i=k∧(∀ j,f j=true→lle (gI s'.1 j) (gI s'.2.1 j) c k)∧s'.2.2.heap.length≤s.2.2.heap.length + 1∧s.2.2.next≤s'.2.2.next∧s'.2.2.next≤s.2.2.next + 1:=by
  obtain ⟨dl,kl,q⟩:=s
  obtain ⟨hD,h1,h2,h3⟩:=hI
  dsimp only at *
  have hAm:(arcA rows i)[m]?=some (a.dst.toNat,a.weight):=by unfold arcA;rw [hr];simp [ha]
  have hmem:=List.mem_of_getElem? hAm
  have hok:=h.ok i row a hr (List.mem_of_getElem? ha)
  have hA:=h.arcs
  have hns:=Lr f n
  have hfew:=h.few
  have hdi:=hD.fin i hf
  have hbi:=hD.bnd i hdi
  rw [hc,hk] at hbi
  obtain ⟨j,hj⟩:∃ j:Nat,a.dst=(j:Int):=⟨a.dst.toNat,by omega⟩
  have hjn:j < n:=by omega
  have hDD:∀ u v,(u≠i∨v∈(arcA rows i).take (m + 1))→(u≠i∨v∈(arcA rows i).take m)∨(u=i∧v=(j,a.weight)):=fun u v hv=>by
    rcases hv with hv|hv
    · exact .inl (.inl hv)
    · rcases (HA hAm).1 hv with hv|hv
      · exact .inl (.inr hv)
      · by_cases e:u=i
        · exact .inr ⟨e,by rw [hv,hj];rfl⟩
        · exact .inl (.inl e)
  have hmem':(j,a.weight)∈arcA rows i:=by rw [hj] at hmem;exact hmem
  unfold shIn
  dsimp only
  have hwc:c + a.weight < Inf:=by unfold Inf;omega
  have hr1:inI64 (c + a.weight):=by unfold inI64;unfold Inf at hwc;omega
  have hr2:inI64 (k + 1):=by unfold inI64;omega
  rw [Dg hr1,At,Dg hr2,At,hj,IS (by omega:j < dl.length),At,At,IS (by omega:j < kl.length),At]
  by_cases hle:lle (gI dl j) (gI kl j) (c + a.weight) (k + 1)
  · have e:(if gI dl j < c + a.weight then some true else if c + a.weight=gI dl j then if gI kl j≤k + 1 then some true else some false else some false)=some true:=by
      unfold lle at hle
      by_cases e1:gI dl j < c + a.weight
      · rw [if_pos e1]
      · rw [if_neg e1,if_pos (by omega),if_pos (by omega)]
    rw [e,At,Es]
    refine ⟨_,rfl,⟨?_,h1,h2,h3⟩,hc,hk,hcur,by dsimp only;omega,by dsimp only;omega,by dsimp only;omega⟩
    exact hD.keep hDD (by unfold lle at hle;dsimp only;omega) (by rw [hc,hk];exact hle)
  · have e:(if gI dl j < c + a.weight then some true else if c + a.weight=gI dl j then if gI kl j≤k + 1 then some true else some false else some false)=some false:=by
      unfold lle at hle
      rw [if_neg (by omega)]
      by_cases e1:c + a.weight=gI dl j
      · rw [if_pos e1,if_neg (by omega)]
      · rw [if_neg e1]
    obtain ⟨r,p1,p2,p3,p4,p5⟩:=Mk h3 hl hn (c + a.weight) (k + 1) (j:Int)
    rw [e,At,Dw,p1,At,At,At,p2,if_neg (by decide),Int.toNat_natCast]
    obtain ⟨b1,b2⟩:=hD.better hA (D':=fun u v=>u≠i∨v∈(arcA rows i).take (m + 1)) hDD hf (by rw [hc,hk];exact hcur) (by rw [hc];exact hb) (by rw [hk];exact hb2) hmem' (by rw [hc,hk];exact hle) p4 (by dsimp only;rw [hc]) (by dsimp only;rw [hk]) rfl (by rw [hc];omega)
    dsimp only at b1 b2
    rw [hc,hk,← FA (by omega),← FA (by omega)] at b2
    have hij:i≠j:=fun e=>b1 e.symm
    refine ⟨_,rfl,⟨b2,by simp [h1],by simp [h2],p3⟩,?_,?_,?_,?_,?_,?_⟩
    · dsimp only;rw [FA (by omega),Bb hij];exact hc
    · dsimp only;rw [FA (by omega),Bb hij];exact hk
    · intro u hu
      dsimp only
      have hcu:=hcur u hu
      rw [FA (by omega),FA (by omega)]
      have hne:u≠j:=fun e=>by subst e;unfold lle at hcu hle;omega
      rw [Bb hne,Bb hne];exact hcu
    · have:=p4.length_eq;simp at this;dsimp only;omega
    · dsimp only;omega
    · dsimp only;omega
theorem Km (h:RowsOk n rows):∀ (N:Nat) (s:LQ) (f:Nat→Bool),ShI n (arcA rows) S (fun _ _=>True) f s→s.2.2.heap.length + nRem (arcA rows) f n≤60000→0≤s.2.2.next→s.2.2.next + nRem (arcA rows) f n≤60000→s.2.2.heap.length + nRem (arcA rows) f n < N →
    ∃ s',lop (shF rows) s=some (.done s')∧s'.1.length=n∧s'.2.1.length=n∧LexP n (arcA rows) S (gI s'.1) (gI s'.2.1)∧(∀ i,gI s'.1 i=Inf→gI s'.2.1 i=Inf)∧∀ i,gI s'.1 i≠Inf→i < n∧0≤gI s'.1 i∧gI s'.1 i≤600 * 1048576∧0≤gI s'.2.1 i∧gI s'.2.1 i≤600
  | 0,_,_,_,_,_,_,h0=>absurd h0 (by omega)
  | N + 1,(dl,kl,q),f,hI,hm,hn0,hn1,h0=>by
    obtain ⟨hD,h1,h2,h3⟩:=hI
    dsimp only at *
    rw [Gy]
    unfold shF
    have hlen:CB q=some (q.heap.length:Int):=rfl
    dsimp only
    rw [hlen,At]
    by_cases hz:q.heap.length=0
    · rw [if_neg (by omega)]
      have hnil:q.heap=[]:=List.length_eq_zero_iff.1 hz
      rw [hnil] at hD
      refine ⟨_,rfl,h1,h2,hD.done,hD.inf,fun i hi=>?_⟩
      have:=hD.bnd i hi
      have hns:=Lr f n
      have:=h.few
      dsimp only at *
      omega
    · rw [if_pos (by omega)]
      obtain ⟨r,r1,e,q',rfl,q1,q2,q3,q4⟩:=Qm h3 (by omega) (by omega)
      rw [r1,At]
      dsimp only
      rw [if_neg (by decide)]
      obtain ⟨i,hi,hin,hdi,_⟩:=hD.ent e (q2.mem_iff.2 List.mem_cons_self)
      have hql:=q2.length_eq
      rw [List.length_cons] at hql
      rw [hi,IS (by omega),At,IS (by omega),At]
      by_cases hs:e.key=gI dl i∧e.tie=gI kl i
      · rw [if_neg (by simp [hs.1]),if_neg (by simp [hs.2]),At,Dw]
        obtain ⟨m1,m2,m3,m4,m5,m6,m7⟩:=hD.mark q2 q3 hi hs.1 hs.2
        obtain ⟨row,hrow⟩:=AD (l:=rows) (k:=i) (by rw [h.len];exact m2)
        rw [Ct,hrow,At]
        have hAl:(arcA rows i).length=row.length:=by unfold arcA;rw [hrow];simp
        have hbi:=hD.bnd i m3
        obtain ⟨s',s1,s2,s3,s4,s5,s6,s7,s8⟩:=Hg (ρ:=Ctl LQ (List Int×List Int)) (f:=fun (_:Nat) (a338:Arc) (s335:LQ)=>shIn rows e.key e.tie a338 s335) (xs:=row) (s₀:=(dl,kl,q'))
          (fun m s=>ShI n (arcA rows) S (fun j p=>j≠i∨p∈(arcA rows i).take m) (upd f i true) s∧gI s.1 i=e.key∧gI s.2.1 i=e.tie∧(∀ j,upd f i true j=true→lle (gI s.1 j) (gI s.2.1 j) e.key e.tie)∧s.2.2.heap.length≤q'.heap.length + m∧q'.next≤s.2.2.next∧s.2.2.next≤q'.next + m)
          ⟨⟨{ m7 with rel:=fun j p hj hp hd=>m7.rel j p hj hp (hd.resolve_right (by simp)) },h1,h2,q1⟩,hs.1.symm,hs.2.symm,fun j hj=>by rw [hs.1,hs.2];exact m6 j hj,by simp,by simp,by simp⟩
          (fun m a s hma hI=>by
            obtain ⟨i1,i2,i3,i4,i5,i6,i7⟩:=hI
            have hml:=AC hma
            obtain ⟨s',t1,t2,t3,t4,t5,t6,t7,t8⟩:=Qq h hrow hma i1 i2 i3 (Be ..) i4 (by rw [m4,hs.1];omega) (by rw [m4,hs.2];omega) (by omega) ⟨by omega,by omega⟩
            exact ⟨s',t1,t2,t3,t4,t5,by omega,by omega,by omega⟩)
        rw [s1,At,Db]
        dsimp only at s2 s6 s7 s8 ⊢
        refine Km h N (s'.1,s'.2.1,s'.2.2) (upd f i true) ⟨{ s2.dj with rel:=fun j p hj hp _=>s2.dj.rel j p hj hp ?_ },s2.l1,s2.l2,s2.hp⟩ ?_ ?_ ?_ ?_
        · by_cases ej:j=i
          · subst ej;exact .inr (by rw [List.take_of_length_le (by omega)];exact hp)
          · exact .inl ej
        all_goals dsimp only;omega
      · have e2:(if e.key≠gI dl i then some true else if e.tie≠gI kl i then some true else some false)=some true:=by
          by_cases e1:e.key=gI dl i
          · rw [if_neg (by simp [e1]),if_pos (fun hh=>hs ⟨e1,hh⟩)]
          · rw [if_pos e1]
        rw [e2,At,Es]
        refine Km h N (dl,kl,q') f ⟨hD.drop q2 hi hs,h1,h2,q1⟩ ?_ ?_ ?_ ?_
        all_goals dsimp only;omega
theorem Ps {n:Nat} (hn:n≤1000000):rngN (ρ:=(List Int)×(List Int)) (fun (k77:Nat) (s75:(List Int)×(List Int))=>bnd (s75.1[k77]?) fun a104=>bnd (s75.2[k77]?) fun a116=>some (.next ((s75.1.set k77 1125899906842624),(s75.2.set k77 1125899906842624)))) n (List.replicate n (0:Int),List.replicate n (0:Int))=some (.done (List.replicate n Inf,List.replicate n Inf)):=by
  have key:∀ k,k < n→(List.replicate k Inf ++ List.replicate (n - k) 0)[k]?=some 0∧(List.replicate k Inf ++ List.replicate (n - k) 0).set k 1125899906842624=List.replicate (k + 1) Inf ++ List.replicate (n - (k + 1)) 0:=fun k hk=>by
    refine ⟨by rw [List.getElem?_append_right (by simp),List.getElem?_replicate,if_pos (by simp;omega)],?_⟩
    apply List.ext_getElem?
    intro j
    rcases Nat.lt_trichotomy j k with h|h|h
    · rw [List.getElem?_set_ne (by omega),List.getElem?_append_left (by simp;omega),List.getElem?_append_left (by simp;omega)]
      rw [List.getElem?_replicate,List.getElem?_replicate,if_pos (by omega),if_pos (by omega)]
    · subst h
      rw [List.getElem?_set_self (by simp;omega),List.getElem?_append_left (by simp)]
      simp [Inf]
    · rw [List.getElem?_set_ne (by omega),List.getElem?_append_right (by simp;omega),List.getElem?_append_right (by simp;omega)]
      simp only [List.length_replicate,List.getElem?_replicate]
      by_cases hj:j < n
      · rw [if_pos (by omega),if_pos (by omega)]
      · rw [if_neg (by omega),if_neg (by omega)]
  rw [Nm (fun k=>(List.replicate k Inf ++ List.replicate (n - k) 0,List.replicate k Inf ++ List.replicate (n - k) 0)) (by simp) (fun k hk=>?_)]
  · simp
  · obtain ⟨e1,e2⟩:=key k hk
    dsimp only
    rw [e1,At,At,e2]
theorem Jf (h:RowsOk n rows) (hT:nRem (arcA rows) (fun _=>false) n≤50000) {src:List Int} (hs:∀ x∈src,0≤x∧x < (n:Int)) (hsn:src.Nodup) (hsl:src.length≤1000) :
    ∃ d k,BQ rows src=some (d,k)∧d.length=n∧k.length=n∧LexP n (arcA rows) (fun i=>(i:Int)∈src) (gI d) (gI k)∧(∀ i,gI d i=Inf→gI k i=Inf)∧∀ i,gI d i≠Inf→i < n∧0≤gI d i∧gI d i≤600 * 1048576∧0≤gI k i∧gI k i≤600:=by
  have hfew:=h.few
  rw [Qp,h.len,JL (by omega) (by omega),At,At,At]
  dsimp only
  rw [List.length_replicate,Ps (by omega),At,Db]
  obtain ⟨q0,hq0,hh0,hn0⟩:∃ q0:Que,DG=some (some q0)∧q0.heap=[]∧q0.next=0:=⟨⟨[],0⟩,rfl,rfl,rfl⟩
  rw [hq0,At,At]
  obtain ⟨s1,e1,e2,e3,e4,e5⟩:=Hg (ρ:=(List Int)×(List Int)) (f:=fun (_:Nat) (a152:Int) (s149:LQ)=>shS a152 s149) (xs:=src) (s₀:=((List.replicate n Inf,List.replicate n Inf).1,(List.replicate n Inf,List.replicate n Inf).2,q0))
    (fun m s=>ShI n (arcA rows) (fun j=>(j:Int)∈src.take m) (fun _ _=>True) (fun _=>false) s∧(∀ j:Nat,¬ (j:Int)∈src.take m→gI s.1 j=Inf)∧s.2.2.heap.length=m∧s.2.2.next=(m:Int))
    ⟨⟨by dsimp only;rw [Nx,hh0];simpa using Ov,by simp,by simp,by dsimp only;rw [hh0];intro j x y _ hx;simp at hx⟩,fun j _=>by dsimp only;rw [Nx],by dsimp only;rw [hh0];rfl,by dsimp only;rw [hn0];rfl⟩
    (fun m x s hx hI=>by
      obtain ⟨⟨hD,h1,h2,h3⟩,hinf,hl,hnx⟩:=hI
      obtain ⟨dl,kl,q⟩:=s
      dsimp only at *
      have hm:=AC hx
      obtain ⟨x0,x1⟩:=hs x (List.mem_of_getElem? hx)
      obtain ⟨j,rfl⟩:∃ j:Nat,x=(j:Int):=⟨x.toNat,by omega⟩
      have hnot:¬ (j:Int)∈src.take m:=fun hh=>by
        obtain ⟨i,hi⟩:=List.getElem?_of_mem hh
        have hi1:=AC hi
        rw [List.length_take] at hi1
        replace hi1:i < m:=by omega
        have hi2:=Ix hi
        obtain ⟨b1,c1⟩:=List.getElem?_eq_some_iff.1 hi2
        obtain ⟨b2,c2⟩:=List.getElem?_eq_some_iff.1 hx
        have:=(List.pairwise_iff_getElem.1 hsn) i m b1 b2 hi1
        exact this (by rw [c1,c2])
      obtain ⟨r,p1,p2,p3,p4,p5⟩:=Mk (q:=q) h3 (by omega) (by omega) 0 0 (j:Int)
      unfold shS
      dsimp only
      rw [IS (by omega),At,IS (by omega),At,p1,At,Int.toNat_natCast]
      have hsrc:=hD.source (by omega) (hinf j hnot) p4 rfl rfl rfl
      rw [← FA (by omega),← FA (by omega)] at hsrc
      refine ⟨_,rfl,⟨?_,by simp [h1],by simp [h2],p3⟩,?_,?_,?_⟩
      · have e:(fun i:Nat=>(i:Int)∈src.take (m + 1))=fun i:Nat=>(i:Int)∈src.take m∨i=j:=by
          funext i
          rw [HA hx]
          apply propext
          constructor<;>rintro (a|a)
          · exact .inl a
          · exact .inr (by omega)
          · exact .inl a
          · exact .inr (by omega)
        rw [e];exact hsrc
      · intro i hi
        rw [HA hx] at hi
        dsimp only
        rw [FA (by omega),Bb (fun e=>hi (.inr (by omega)))]
        exact hinf i (fun hh=>hi (.inl hh))
      · have:=p4.length_eq;simp at this;dsimp only;omega
      · dsimp only;omega)
  rw [e1,At,Db]
  rw [List.take_length] at e2
  obtain ⟨s2,g1,g2,g3,g4,g5,g6⟩:=Km h (s1.2.2.heap.length + nRem (arcA rows) (fun _=>false) n + 1) (s1.1,s1.2.1,s1.2.2) (fun _=>false) e2 (by dsimp only;omega) (by dsimp only;omega) (by dsimp only;omega) (by dsimp only;omega)
  rw [g1,At]
  exact ⟨s2.1,s2.2.1,rfl,g2,g3,g4,g5,g6⟩
end
end
section
set_option linter.unusedVariables false
set_option linter.unusedSimpArgs false
open Go Go.RowKit
def costE (t:Tsk) (e:Edj):Int:=match t.ops[e.label.toNat]? with|some o=>o.cost|none=>0
structure EdgesOk (t:Tsk) (n:Nat) (es:List Edj):Prop where
  ok:∀ e∈es,0≤e.src∧e.src < (n:Int)∧0≤e.dst∧e.dst < (n:Int)∧0≤e.label∧e.label < (t.ops.length:Int)
  few:es.length≤48000
def fwdR (t:Tsk) (es:List Edj) (i:Nat):List Arc:=(es.filter fun e=>decide (e.src=(i:Int))).map fun e=>⟨e.src,e.dst,costE t e⟩
def bwdR (t:Tsk) (es:List Edj) (i:Nat):List Arc:=(es.filter fun e=>decide (e.dst=(i:Int))).map fun e=>⟨e.dst,e.src,costE t e⟩
def fwdA (t:Tsk) (es:List Edj) (i:Nat):List (Nat×Int):=(es.filter fun e=>decide (e.src=(i:Int))).map fun e=>(e.dst.toNat,costE t e)
def bwdA (t:Tsk) (es:List Edj) (i:Nat):List (Nat×Int):=(es.filter fun e=>decide (e.dst=(i:Int))).map fun e=>(e.src.toNat,costE t e)
theorem Jy {t:Tsk} (hok:TaskOk t) {n:Nat} {es:List Edj} (h:EdgesOk t n es) {e:Edj} (he:e∈es):∃ o,atI t.ops e.label=some o∧costE t e=o.cost∧0≤costE t e∧costE t e≤1048576:=by
  obtain ⟨_,_,_,_,h1,h2⟩:=h.ok e he
  obtain ⟨j,hj⟩:∃ j:Nat,e.label=(j:Int):=⟨e.label.toNat,by omega⟩
  obtain ⟨o,ho⟩:=AD (l:=t.ops) (k:=j) (by omega)
  have hc:costE t e=o.cost:=by unfold costE;rw [hj,Int.toNat_natCast,ho]
  have:=hok.2.2.2.2.2 j o ho
  exact ⟨o,by rw [hj,Ct,ho],hc,by rw [hc];exact this.1,by rw [hc];exact this.2.1⟩
structure RowsAre (n:Nat) (rows:List (List Arc)) (g:Nat→List Arc):Prop where
  len:rows.length=n
  at_:∀ i,i < n→rows[i]?=some (g i)
theorem RowsAre.congr {n:Nat} {rows:List (List Arc)} {g g':Nat→List Arc} (h:RowsAre n rows g) (he:∀ i,i < n→g i=g' i):RowsAre n rows g':=⟨h.len,fun i hi=>by rw [h.at_ i hi,he i hi]⟩
theorem RowsAre.rep (n:Nat):RowsAre n (List.replicate n []) fun _=>[]:=⟨by simp,fun i hi=>by rw [List.getElem?_replicate,if_pos hi]⟩
theorem RowsAre.set {n:Nat} {rows:List (List Arc)} {g:Nat→List Arc} (h:RowsAre n rows g) {j:Nat} (hj:j < n) (r:List Arc):RowsAre n (rows.set j r) (upd g j r):=⟨by simp [h.len],fun i hi=>by
  by_cases e:i=j
  · subst e;rw [Be,List.getElem?_set_self (by rw [h.len];exact hi)]
  · rw [Bb e,List.getElem?_set_ne (Ne.symm e)];exact h.at_ i hi⟩
theorem RowsAre.nRem_le {n:Nat} {rows:List (List Arc)} {g:Nat→List Arc} (h:RowsAre n rows g) {f:Nat→Nat} (hf:∀ i,i < n→(g i).length=f i):nRem (arcA rows) (fun _=>false) n=sumF f n:=by
  unfold nRem
  refine HC fun j hj=>?_
  rw [if_neg (by simp)]
  unfold arcA
  rw [h.at_ j hj]
  simp [hf j hj]
theorem GZ {α:Type} (key:α→Int) (n:Nat):∀ (l:List α),sumF (fun i=>(l.filter fun e=>decide (key e=(i:Int))).length) n≤l.length
  | []=>by
    have:∀ n,sumF (fun i=>(([]:List α).filter fun e=>decide (key e=(i:Int))).length) n=0:=fun n=>by
      induction n with
      | zero=>rfl
      | succ n ih=>simp [sumF] at ih ⊢;exact ih
    rw [this];exact Nat.zero_le _
  | e :: l=>by
    have h:=GZ key n l
    have key2:∀ m,sumF (fun i=>((e :: l).filter fun e=>decide (key e=(i:Int))).length) m≤sumF (fun i=>(l.filter fun e=>decide (key e=(i:Int))).length) m + if 0≤key e∧key e < (m:Int) then 1 else 0:=fun m=>by
      induction m with
      | zero=>simp [sumF]
      | succ m ih =>
        simp only [sumF]
        rw [List.filter_cons]
        by_cases hk:key e=(m:Int)
        · rw [if_pos (decide_eq_true hk),List.length_cons,if_pos (by omega)]
          rw [if_neg (by omega)] at ih
          omega
        · rw [if_neg (by simp [hk])]
          by_cases hl:0≤key e∧key e < (m:Int)
          · rw [if_pos (by omega)];rw [if_pos hl] at ih;omega
          · rw [if_neg (by omega)];rw [if_neg hl] at ih;omega
    have:=key2 n
    rw [List.length_cons]
    split at this<;>omega
theorem RowsAre.ok {t:Tsk} (hok:TaskOk t) {n:Nat} (hn:n≤600) {es:List Edj} (he:EdgesOk t n es) {rows:List (List Arc)}:(RowsAre n rows (fwdR t es)→RowsOk n rows∧nRem (arcA rows) (fun _=>false) n≤es.length∧∀ i,i < n→arcA rows i=fwdA t es i) ∧
    (RowsAre n rows (bwdR t es)→RowsOk n rows∧nRem (arcA rows) (fun _=>false) n≤es.length∧∀ i,i < n→arcA rows i=bwdA t es i):=by
  refine ⟨fun h=>⟨⟨h.len,hn,fun i r a hr ha=>?_⟩,?_,fun i hi=>?_⟩,fun h=>⟨⟨h.len,hn,fun i r a hr ha=>?_⟩,?_,fun i hi=>?_⟩⟩
  · have hi:=AC hr
    rw [h.len] at hi
    rw [h.at_ i hi] at hr
    obtain rfl:=Option.some.inj hr
    obtain ⟨e,hm,rfl⟩:=List.mem_map.1 ha
    have hmem:=(List.mem_filter.1 hm).1
    obtain ⟨_,_,_,c1,c2⟩:=Jy hok he hmem
    have:=he.ok e hmem
    dsimp only;omega
  · rw [h.nRem_le (f:=fun i=>(es.filter fun e=>decide (e.src=(i:Int))).length) (fun i _=>by unfold fwdR;rw [List.length_map])]
    exact GZ (fun e:Edj=>e.src) n es
  · unfold arcA fwdA;rw [h.at_ i hi];unfold fwdR;simp
  · have hi:=AC hr
    rw [h.len] at hi
    rw [h.at_ i hi] at hr
    obtain rfl:=Option.some.inj hr
    obtain ⟨e,hm,rfl⟩:=List.mem_map.1 ha
    have hmem:=(List.mem_filter.1 hm).1
    obtain ⟨_,_,_,c1,c2⟩:=Jy hok he hmem
    have:=he.ok e hmem
    dsimp only;omega
  · rw [h.nRem_le (f:=fun i=>(es.filter fun e=>decide (e.dst=(i:Int))).length) (fun i _=>by unfold bwdR;rw [List.length_map])]
    exact GZ (fun e:Edj=>e.dst) n es
  · unfold arcA bwdA;rw [h.at_ i hi];unfold bwdR;simp
theorem Ls {t:Tsk} {n:Nat} {es:List Edj} (he:EdgesOk t n es) {i:Nat} (hi:¬ i < n):fwdA t es i=[]∧bwdA t es i=[]:=by
  unfold fwdA bwdA
  rw [List.filter_eq_nil_iff.2 fun e hm=>by have:=he.ok e hm;simp;omega,List.filter_eq_nil_iff.2 fun e hm=>by have:=he.ok e hm;simp;omega]
  exact ⟨rfl,rfl⟩
theorem Lt {n:Nat} {rows:List (List Arc)} (h:rows.length=n) {i:Nat} (hi:¬ i < n):arcA rows i=[]:=by
  unfold arcA;rw [List.getElem?_eq_none (by omega)];rfl
def goalIx (gs:List Bool):List Int:=(((List.range gs.length).filter fun i=>(gs[i]?).getD false).map fun i:Nat=>(i:Int))
theorem MP {ρ:Type} {gs:List Bool} (hl:gs.length≤1000000):rng (ρ:=ρ) (fun (k446:Nat) (a447:Bool) (s444:(List Int))=>if a447=true then (bnd (appI 8 s444 [(k446:Int)]) fun u469=>some (.next u469)) else (some (.next s444))) gs 0 ([]:List Int)=some (.done (goalIx gs)):=by
  refine Et (fun m=>((List.range m).filter fun i=>(gs[i]?).getD false).map fun i:Nat=>(i:Int)) (by simp) fun m b hb=>?_
  have hm:=AC hb
  have hlen:(((List.range m).filter fun i=>(gs[i]?).getD false).map fun i:Nat=>(i:Int)).length≤m:=by
    rw [List.length_map]
    exact Nat.le_trans (List.length_filter_le _ _) (by simp)
  rw [List.range_succ,List.filter_append]
  cases b with
  | true =>
    rw [if_pos rfl,CD (by simp at hlen ⊢;omega) (by simp at hlen ⊢;omega),At]
    simp [hb]
  | false=>rw [if_neg (by simp)];simp [hb]
theorem HD {gs:List Bool} {x:Int}:x∈goalIx gs↔∃ i:Nat,x=(i:Int)∧gs[i]?=some true:=by
  unfold goalIx
  rw [List.mem_map]
  constructor
  · rintro ⟨i,hi,rfl⟩
    obtain ⟨h1,h2⟩:=List.mem_filter.1 hi
    refine ⟨i,rfl,?_⟩
    cases hg:gs[i]? with
    | none=>rw [hg] at h2;simp at h2
    | some b=>rw [hg] at h2;simp at h2;rw [h2]
  · rintro ⟨i,rfl,hi⟩
    exact ⟨i,List.mem_filter.2 ⟨List.mem_range.2 (AC hi),by rw [hi];rfl⟩,rfl⟩
theorem Lu (gs:List Bool):(goalIx gs).Nodup:=by
  unfold goalIx
  unfold List.Nodup
  rw [List.pairwise_map]
  exact ((List.nodup_range).sublist List.filter_sublist).imp fun h e=>h (by omega)
theorem MQ (gs:List Bool):(goalIx gs).length≤gs.length:=by
  unfold goalIx
  rw [List.length_map]
  exact Nat.le_trans (List.length_filter_le _ _) (by simp)
noncomputable def meaF (t:Tsk):Edj→(List (List Arc))×(List (List Arc))→Option (Ctl ((List (List Arc))×(List (List Arc))) Spa):=fun a180 s177=>bnd (atI t.ops a180.label) fun a258=>bnd (atI s177.1 a180.src) fun a279=>bnd (appI 24 a279 [(⟨a180.src,a180.dst,a258.cost⟩:Arc)]) fun u304=>bnd (atI s177.1 a180.src) fun a315=>bnd (atI s177.2 a180.dst) fun a330=>bnd (appI 24 a330 [(⟨a180.dst,a180.src,a258.cost⟩:Arc)]) fun u355=>bnd (atI s177.2 a180.dst) fun a366=>some (.next ((s177.1.set (a180.src:Int).toNat u304),(s177.2.set (a180.dst:Int).toNat u355)))
theorem Pt (x0:Spa):BI x0=bnd (AW x0.states) fun q45=>bnd (mkI 24 ([]:List Arc) q45) fun u55=>bnd (mkI 24 ([]:List Arc) q45) fun u57=>bnd (some (u55,u57):Option ((List (List Arc))×(List (List Arc)))) fun y59=>bnd (rng (ρ:=Spa) (fun (_:Nat) (a180:Edj) (s177:(List (List Arc))×(List (List Arc)))=>meaF x0.t a180 s177) x0.edges 0 (y59.1,y59.2)) fun res175=>fin res175 fun (s390:(List (List Arc))×(List (List Arc)))=>bnd (rng (ρ:=Spa) (fun (k446:Nat) (a447:Bool) (s444:(List Int))=>if a447=true then (bnd (appI 8 s444 [(k446:Int)]) fun u469=>some (.next u469)) else (some (.next s444))) x0.goals 0 ([]:List Int)) fun res442=>fin res442 fun (s485:(List Int))=>bnd (BQ s390.1 ([0]:List Int)) fun q497=>bnd (BQ s390.2 s485) fun q561=>some (⟨(⟨x0.t.vars,x0.t.init,x0.t.goal,x0.t.ops⟩:Tsk),x0.states,x0.edges,x0.goals,q497.1,q561.1,q561.2⟩:Spa):=rfl
theorem Ny {t:Tsk} {es:List Edj} {m:Nat} {e:Edj} (he:es[m]?=some e) (i:Nat):fwdR t (es.take (m + 1)) i=fwdR t (es.take m) i ++ if e.src=(i:Int) then [⟨e.src,e.dst,costE t e⟩] else []:=by
  unfold fwdR
  rw [List.take_add_one,he,List.filter_append,List.map_append]
  by_cases h:e.src=(i:Int)
  · rw [if_pos h];simp [h]
  · rw [if_neg h];simp [h]
theorem Nz {t:Tsk} {es:List Edj} {m:Nat} {e:Edj} (he:es[m]?=some e) (i:Nat):bwdR t (es.take (m + 1)) i=bwdR t (es.take m) i ++ if e.dst=(i:Int) then [⟨e.dst,e.src,costE t e⟩] else []:=by
  unfold bwdR
  rw [List.take_add_one,he,List.filter_append,List.map_append]
  by_cases h:e.dst=(i:Int)
  · rw [if_pos h];simp [h]
  · rw [if_neg h];simp [h]
theorem Ox (t:Tsk) (es:List Edj) (i:Nat):(fwdR t es i).length≤es.length:=by unfold fwdR;rw [List.length_map];exact List.length_filter_le _ _
theorem Oy (t:Tsk) (es:List Edj) (i:Nat):(bwdR t es i).length≤es.length:=by unfold bwdR;rw [List.length_map];exact List.length_filter_le _ _
structure SpaOk (t:Tsk) (n:Nat) (es:List Edj) (gs:List Bool) (x:Spa):Prop where
  t_:x.t=t
  ed:x.edges=es
  go:x.goals=gs
  cl:x.costs.length=n
  dl:x.distances.length=n
  sl:x.steps.length=n
  cost:∃ k,LexP n (fwdA t es) (fun i=>i=0) (gI x.costs) k∧∀ i,gI x.costs i≠Inf→i < n∧0≤gI x.costs i∧gI x.costs i≤600 * 1048576
  dist:LexP n (bwdA t es) (fun i=>gs[i]?=some true) (gI x.distances) (gI x.steps)
  inf:∀ i,gI x.distances i=Inf→gI x.steps i=Inf
  bnd:∀ i,gI x.distances i≠Inf→i < n∧0≤gI x.distances i∧gI x.distances i≤600 * 1048576∧0≤gI x.steps i∧gI x.steps i≤600
theorem LexP.arcs {n:Nat} {A A':Nat→List (Nat×Int)} {S S':Nat→Prop} {d k:Nat→Int} (h:LexP n A S d k) (hA:A=A') (hS:S=S'):LexP n A' S' d k:=by subst hA;subst hS;exact h
theorem MR {t:Tsk} (hok:TaskOk t) {n:Nat} (hn:n≤600) (hn0:0 < n) {x:Spa} (ht:x.t=t) (hlen:x.states.entries.length=n) (he:EdgesOk t n x.edges) (hg:x.goals.length=n) :
    ∃ r,BI x=some r∧r.states=x.states∧SpaOk t n x.edges x.goals r:=by
  rw [Pt,show AW x.states=some (x.states.entries.length:Int) from rfl,At,hlen,JL (by omega) (by omega),At,At,At,ht]
  dsimp only
  obtain ⟨s,e1,e2,e3⟩:=Hg (ρ:=Spa) (f:=fun (_:Nat) (a180:Edj) (s177:(List (List Arc))×(List (List Arc)))=>meaF t a180 s177) (xs:=x.edges) (s₀:=(List.replicate n [],List.replicate n []))
    (fun m s=>RowsAre n s.1 (fwdR t (x.edges.take m))∧RowsAre n s.2 (bwdR t (x.edges.take m))) ⟨(RowsAre.rep n).congr fun i _=>by simp [fwdR],(RowsAre.rep n).congr fun i _=>by simp [bwdR]⟩
    (fun m e s hm hI=>by
      obtain ⟨hF,hB⟩:=hI
      have hmem:=List.mem_of_getElem? hm
      obtain ⟨s1,s2,d1,d2,_,_⟩:=he.ok e hmem
      obtain ⟨o,o1,o2,_⟩:=Jy hok he hmem
      obtain ⟨i,hi⟩:∃ i:Nat,e.src=(i:Int):=⟨e.src.toNat,by omega⟩
      obtain ⟨j,hj⟩:∃ j:Nat,e.dst=(j:Int):=⟨e.dst.toNat,by omega⟩
      have hml:=AC hm
      have hfew:=he.few
      have fl:=Ox t (x.edges.take m) i
      have bl:=Oy t (x.edges.take m) j
      rw [List.length_take] at fl bl
      unfold meaF
      rw [o1,At,hi,hj,Ct,hF.at_ i (by omega),At,CD (by rw [List.length_singleton];omega) (by rw [List.length_singleton];omega),At,At,Ct,hB.at_ j (by omega),At,CD (by rw [List.length_singleton];omega) (by rw [List.length_singleton];omega),At,At,Int.toNat_natCast,Int.toNat_natCast]
      refine ⟨_,rfl,(hF.set (by omega) _).congr fun u _=>?_,(hB.set (by omega) _).congr fun u _=>?_⟩
      · rw [Ny hm]
        by_cases hu:u=i
        · subst hu;rw [Be,if_pos hi,o2,hi,hj]
        · rw [Bb hu,if_neg (by omega),List.append_nil]
      · rw [Nz hm]
        by_cases hu:u=j
        · subst hu;rw [Be,if_pos hj,o2,hi,hj]
        · rw [Bb hu,if_neg (by omega),List.append_nil])
  rw [List.take_length] at e2 e3
  rw [e1,At,Db,MP (by omega),At,Db]
  obtain ⟨f1,f2,f3⟩:=(RowsAre.ok hok hn he).1 e2
  obtain ⟨b1,b2,b3⟩:=(RowsAre.ok hok hn he).2 e3
  have hfew:=he.few
  obtain ⟨c,k,c1,c2,_,c3,_,c4⟩:=Jf f1 (by omega) (src:=[0]) (fun x hx=>by simp at hx;omega) (by simp) (by simp)
  obtain ⟨d,l,d1,d2,d3,d4,d5,d6⟩:=Jf b1 (by omega) (src:=goalIx x.goals) (fun y hy=>by
    obtain ⟨i,rfl,hi⟩:=HD.1 hy
    have:=AC hi
    omega) (Lu _) (by have:=MQ x.goals;omega)
  rw [c1,At,d1,At]
  have hfA:arcA s.1=fwdA t x.edges:=funext fun i=>by
    by_cases hi:i < n
    · exact f3 i hi
    · rw [Lt e2.len hi,(Ls he hi).1]
  have hbA:arcA s.2=bwdA t x.edges:=funext fun i=>by
    by_cases hi:i < n
    · exact b3 i hi
    · rw [Lt e3.len hi,(Ls he hi).2]
  refine ⟨_,rfl,rfl,rfl,rfl,rfl,c2,d2,d3,⟨gI k,c3.arcs hfA (funext fun i=>by simp),fun i hi=>?_⟩,d4.arcs hbA (funext fun i=>propext ⟨fun hh=>?_,fun hh=>HD.2 ⟨i,rfl,hh⟩⟩),d5,d6⟩
  · have:=c4 i hi;exact ⟨this.1,this.2.1,this.2.2.1⟩
  · obtain ⟨j,hj,hg⟩:=HD.1 hh
    obtain rfl:i=j:=by omega
    exact hg
end
section
open Go Go.RowKit
theorem Ml {σ ρ:Type} {x:Option (Ctl σ ρ)} {I:σ→Prop} (h:∃ r,x=some r∧∃ s',r=Ctl.next s'∧I s'):∃ s',x=some (.next s')∧I s':=by
  obtain ⟨_,h1,s',rfl,h2⟩:=h
  exact ⟨s',h1,h2⟩
def FldOk (W:Nat) (f:PFd) (n:Int):Prop:=∃ k b w:Nat,f=⟨k,b,w,n⟩∧k < W∧b + w≤64∧w≤6∧n≤2 ^ w
def PkOk (vars:List Int) (p:Pkr):Prop:=p.fields.length=vars.length∧(∃ W:Nat,p.words=(W:Int)∧1≤W∧W≤vars.length + 1∧∀ (i:Nat) f n,p.fields[i]?=some f→vars[i]?=some n→FldOk W f n) ∧
  ∀ (i j:Nat) f g,i < j→p.fields[i]?=some f→p.fields[j]?=some g→f.word < g.word∨(f.word=g.word∧f.bit + f.width≤g.bit)
theorem Pu:∀ {w:Nat},w≤6→shlI 1 (w:Int)=some ((2 ^ w:Nat):Int):=by
  intro w h
  have:w=0∨w=1∨w=2∨w=3∨w=4∨w=5∨w=6:=by omega
  rcases this with rfl|rfl|rfl|rfl|rfl|rfl|rfl<;>rfl
theorem Pv {w:Nat} {n:Int} (hw:w≤6) (h:((2 ^ w:Nat):Int) < n) (hn:n≤64):w < 6:=by
  rcases Nat.lt_or_ge w 6 with hh|hh
  · exact hh
  · obtain rfl:w=6:=by omega
    simp at h;omega
def PkI (vars:List Int) (B W:Nat) (fs:List PFd):Prop:=(∀ (i:Nat) f n,fs[i]?=some f→vars[i]?=some n→FldOk W f n) ∧
  (∀ (i j:Nat) f g,i < j→fs[i]?=some f→fs[j]?=some g→f.word < g.word∨(f.word=g.word∧f.bit + f.width≤g.bit))∧∀ (i:Nat) f,fs[i]?=some f→f.word + 1 < (W:Int)∨(f.word + 1=(W:Int)∧f.bit + f.width≤(B:Int))
theorem PkI.over {vars:List Int} {B W:Nat} {fs:List PFd} (h:PkI vars B W fs):PkI vars 0 (W + 1) fs :=
  ⟨fun i f n hf hn=>by obtain ⟨k,b,w,e,e1,e2⟩:=h.1 i f n hf hn;exact ⟨k,b,w,e,by omega,e2⟩,h.2.1,fun i f hf=>by have:=h.2.2 i f hf;omega⟩
theorem DD {α:Type} {l:List α} {x y:α} {i:Nat} (h:(l ++ [x])[i]?=some y):l[i]?=some y∨(i=l.length∧y=x):=by
  rcases Nat.lt_trichotomy i l.length with hi|hi|hi
  · rw [List.getElem?_append_left hi] at h;exact .inl h
  · subst hi;simp at h;exact .inr ⟨rfl,h.symm⟩
  · rw [List.getElem?_append_right (by omega)] at h
    rw [List.getElem?_eq_none (by simp;omega)] at h
    cases h
theorem PkI.add {vars:List Int} {B W w:Nat} {fs:List PFd} {n:Int} (h:PkI vars B W fs) (hW:1≤W) (hn:vars[fs.length]?=some n) (hB:B + w≤64) (hw:w≤6) (hnw:n≤2 ^ w):PkI vars (B + w) W (fs ++ [⟨(W:Int) - 1,(B:Int),(w:Int),n⟩]):=by
  refine ⟨fun i f n' hf hn'=>?_,fun i j f g hij hf hg=>?_,fun i f hf=>?_⟩
  · rcases DD hf with hh|⟨rfl,rfl⟩
    · exact h.1 i f n' hh hn'
    · rw [hn] at hn'
      obtain rfl:=Option.some.inj hn'
      exact ⟨W - 1,B,w,by congr 1;omega,by omega,hB,hw,hnw⟩
  · rcases DD hg with hh|⟨rfl,rfl⟩
    · rcases DD hf with hk|⟨rfl,rfl⟩
      · exact h.2.1 i j f g hij hk hh
      · have:=AC hh;omega
    · rcases DD hf with hk|⟨rfl,rfl⟩
      · have:=h.2.2 i f hk
        dsimp only
        omega
      · omega
  · rcases DD hf with hh|⟨rfl,rfl⟩
    · have:=h.2.2 i f hh;omega
    · dsimp only;omega
theorem MS {vars:List Int} (hl:vars.length≤64) (hv:∀ (i:Nat) n,vars[i]?=some n→1≤n∧n≤64):∃ r,Eu vars=some r∧∃ p,r=(some p,⟨0⟩)∧PkOk vars p:=by
  unfold Eu
  rw [if_neg (by omega)]
  refine Hj (fun m s=>∃ B W:Nat,s.1=(B:Int)∧B≤64∧s.2.words=(W:Int)∧1≤W∧W≤m + 1∧s.2.fields.length=m∧PkI vars B W s.2.fields) (fun _=>False)
    ⟨0,1,rfl,by omega,rfl,by omega,by omega,rfl,fun i f n h=>by simp at h,fun i j f g _ h=>by simp at h,fun i f h=>by simp at h⟩ ?_ ?_ (fun q hq=>hq.elim)
  · rintro m n ⟨s1,s2⟩ hm ⟨B,W,hs1,hB,hW,hW1,hWm,hlen,hI⟩
    dsimp only at hs1 hW hlen hI
    subst hs1
    obtain ⟨hn1,hn2⟩:=hv m n hm
    have hml:=AC hm
    refine .inl (Ml ?_)
    rw [if_neg (by omega),if_neg (by omega),At,Dw]
    refine Lo (fun c=>∃ w:Nat,c=(w:Int)∧w≤6) (fun c=>∃ w:Nat,c=(w:Int)∧w≤6∧n≤2 ^ w) (fun _=>False) (fun c=>7 - c.toNat) ⟨0,rfl,by omega⟩ ?_ ?_ (fun q hq=>hq.elim)
    · rintro c ⟨w,rfl,hw⟩
      rw [Pu hw,At]
      by_cases hlt:((2 ^ w:Nat):Int) < n
      · have:=Pv hw hlt hn2
        rw [if_pos hlt,Dg (by unfold inI64;omega),At]
        exact .inl ⟨_,rfl,⟨w + 1,by omega,by omega⟩,by omega⟩
      · rw [if_neg hlt]
        refine .inr (.inl ⟨_,rfl,w,rfl,hw,?_⟩)
        have:((2 ^ w:Nat):Int)=(2:Int) ^ w:=by simp
        omega
    · rintro c ⟨w,rfl,hw,hnw⟩
      rw [Db,Dg (by unfold inI64;omega),At]
      have fin':∀ (B' W':Nat) (q:Pkr),B' + w≤64→1≤W'→W'≤m + 2→q.words=(W':Int)→q.fields=s2.fields→PkI vars B' W' s2.fields→∃ r,(bnd (chkI (q.words - 1)) fun n133=>bnd (appI 32 q.fields [(⟨n133,(B':Int),(w:Int),n⟩:PFd)]) fun u142=>bnd (chkI ((B':Int) + (w:Int))) fun n155=>some (Ctl.next (ρ:=(Option Pkr)×Err) (n155,(⟨u142,q.words⟩:Pkr))))=some r∧∃ s',r=Ctl.next s'∧∃ B W:Nat,s'.1=(B:Int)∧B≤64∧s'.2.words=(W:Int)∧1≤W∧W≤m + 1 + 1∧s'.2.fields.length=m + 1∧PkI vars B W s'.2.fields:=by
        intro B' W' q hB' hW' hWm' hq1 hq2 hI'
        rw [hq1,hq2,Dg (by unfold inI64;omega),At,CD (by simp;omega) (by simp;omega),At,Dg (by unfold inI64;omega),At]
        exact ⟨_,rfl,_,rfl,B' + w,W',by simp,hB',rfl,hW',by omega,by simp [hlen],hI'.add hW' (by rw [hlen];exact hm) hB' hw hnw⟩
      by_cases hover:64 < (B:Int) + (w:Int)
      · rw [if_pos hover]
        dsimp only
        rw [hW,Dg (by unfold inI64;omega),At,At]
        exact fin' 0 (W + 1) ⟨s2.fields,(W:Int) + 1⟩ (by omega) (by omega) (by omega) (by simp) rfl hI.over
      · rw [if_neg hover,At]
        exact fin' B W s2 (by omega) hW1 (by omega) hW rfl hI
  · rintro ⟨s1,s2⟩ ⟨B,W,hs1,hB,hW,hW1,hWm,hlen,hI⟩
    exact ⟨_,rfl,s2,rfl,hlen,⟨W,hW,hW1,hWm,hI.1⟩,hI.2.1⟩
def InF (f:PFd) (x:Int) (k c:Nat):Prop:=f.word=(k:Int)∧f.bit≤(c:Int)∧(c:Int) < f.bit + f.width∧x.toNat.testBit (c - f.bit.toNat)=true
def Bits (fs:List PFd) (s:List Int) (p:Nat→Prop) (ws:List U64):Prop:=∀ (k c:Nat) a,ws[k]?=some a→c < 64→(a.getLsbD c=true↔∃ (i:Nat) (f:PFd) (x:Int),p i∧fs[i]?=some f∧s[i]?=some x∧InF f x k c)
theorem ones {w:Nat} (h:w≤6):((1:U64) <<< w) - (1:U64)=BitVec.ofNat 64 (2 ^ w - 1):=by
  have:w=0∨w=1∨w=2∨w=3∨w=4∨w=5∨w=6:=by omega
  rcases this with rfl|rfl|rfl|rfl|rfl|rfl|rfl<;>rfl
theorem Lv {w b c:Nat} (hw:w≤6) (hc:c < 64):((((1:U64) <<< w) - (1:U64)) <<< b).getLsbD c=(decide (b≤c) && decide (c < b + w)):=by
  rw [ones hw,BitVec.getLsbD_shiftLeft,BitVec.getLsbD_ofNat,Nat.testBit_two_pow_sub_one]
  by_cases h1:b≤c<;>by_cases h2:c < b + w<;>simp [h1,h2,hc]<;>omega
theorem Kn {x:Int} {w j:Nat} (h0:0≤x) (h1:x < 2 ^ w) (ht:x.toNat.testBit j=true):j < w:=by
  rcases Nat.lt_or_ge j w with h|h
  · exact h
  · have h2:x.toNat < 2 ^ w:=by
      have:((2 ^ w:Nat):Int)=(2:Int) ^ w:=by simp
      omega
    rw [Nat.testBit_lt_two_pow (Nat.lt_of_lt_of_le h2 (Nat.pow_le_pow_right (by omega) h))] at ht
    cases ht
theorem PkOk.field {vars:List Int} {p:Pkr} (h:PkOk vars p) {s:List Int} (hs:StateOk vars s) {i:Nat} {f:PFd} (hf:p.fields[i]?=some f):∃ (k b w:Nat) (n x:Int),f=⟨k,b,w,n⟩∧(k:Int) < p.words∧b + w≤64∧w≤6∧s[i]?=some x∧0≤x∧x < n∧x < 2 ^ w:=by
  obtain ⟨h1,⟨W,hW,_,_,h2⟩,h3⟩:=h
  have hi:=AC hf
  obtain ⟨n,hn⟩:=AD (l:=vars) (k:=i) (by omega)
  obtain ⟨x,hx⟩:=AD (l:=s) (k:=i) (by have:=hs.1;omega)
  obtain ⟨k,b,w,e,e1,e2,e3,e4⟩:=h2 i f n hf hn
  have:=hs.2 i x n hx hn
  exact ⟨k,b,w,n,x,e,by omega,e2,e3,hx,this.1,this.2,by omega⟩
theorem PkOk.same {vars:List Int} {p:Pkr} (h:PkOk vars p) {i j:Nat} {f g:PFd} {k c:Nat} (hf:p.fields[i]?=some f) (hg:p.fields[j]?=some g) (h1:f.word=(k:Int)∧f.bit≤(c:Int)∧(c:Int) < f.bit + f.width) (h2:g.word=(k:Int)∧g.bit≤(c:Int)∧(c:Int) < g.bit + g.width):i=j:=by
  rcases Nat.lt_trichotomy i j with hh|hh|hh
  · have:=h.2.2 i j f g hh hf hg;omega
  · exact hh
  · have:=h.2.2 j i g f hh hg hf;omega
theorem IT {vars:List Int} {p:Pkr} (h:PkOk vars p) (hl:vars.length≤64) {s:List Int} (hs:StateOk vars s):∃ r,By p s=some r∧r.2=⟨0⟩∧(r.1.length:Int)=p.words∧Bits p.fields s (fun _=>True) r.1:=by
  obtain ⟨W,hW,hW1,hW2,_⟩:=h.2.1
  unfold By
  rw [if_neg (by have:=h.1;have:=hs.1;omega),hW,JL (by omega) (by omega),At]
  refine Hj (fun m ws=>(ws.length:Int)=(W:Int)∧Bits p.fields s (fun i=>i < m) ws) (fun _=>False) ⟨by simp,?_⟩ ?_ ?_ (fun q hq=>hq.elim)
  · intro k c a ha _
    have:=List.eq_of_mem_replicate (List.mem_of_getElem? ha)
    subst this
    constructor
    · intro hh;simp at hh
    · rintro ⟨i,_,_,hi,_⟩;omega
  · rintro m f ws hm ⟨hwl,hb⟩
    refine .inl (Ml ?_)
    obtain ⟨k,b,w,n,x,rfl,hk,hbw,hw,hx,hx0,hxn,hxw⟩:=h.field hs hm
    dsimp only
    obtain ⟨a,ha⟩:=AD (l:=ws) (k:=k) (by omega)
    rw [hx,At,if_neg (by omega),At,if_neg (by omega),At,Dw,Ct,ha,At,At]
    unfold shlU
    rw [if_pos (by omega),At,At]
    refine ⟨_,rfl,_,rfl,by simpa using hwl,?_⟩
    simp only [Int.toNat_natCast]
    have hxb:∀ c:Nat,c < 64→((a ||| (BitVec.ofInt 64 x <<< b)).getLsbD c=true↔a.getLsbD c=true∨(b≤c∧x.toNat.testBit (c - b)=true)):=by
      intro c hc
      have hofi:BitVec.ofInt 64 x=BitVec.ofNat 64 x.toNat:=by
        rw [← BitVec.ofInt_natCast,Int.toNat_of_nonneg hx0]
      rw [BitVec.getLsbD_or,BitVec.getLsbD_shiftLeft,hofi,BitVec.getLsbD_ofNat]
      by_cases h1:b≤c
      · have:c - b < 64:=by omega
        simp [hc,h1,this,Nat.not_lt.2 h1]
      · simp [hc,h1,Nat.lt_of_not_le h1]
    intro k' c a' ha' hc
    by_cases e:k=k'
    · subst e
      rw [List.getElem?_set_self (AC ha)] at ha'
      obtain rfl:=Option.some.inj ha'
      rw [hxb c hc,hb k c a ha hc]
      constructor
      · rintro (⟨i,f,y,hi,hr⟩|⟨h1,h2⟩)
        · exact ⟨i,f,y,by omega,hr⟩
        · have:=Kn hx0 hxw h2
          exact ⟨m,_,x,by omega,hm,hx,rfl,by dsimp only;omega,by dsimp only;omega,by simpa using h2⟩
      · rintro ⟨i,f,y,hi,hf,hy,hin⟩
        by_cases he:i=m
        · subst he
          rw [hm] at hf
          obtain rfl:=Option.some.inj hf
          rw [hx] at hy
          obtain rfl:=Option.some.inj hy
          obtain ⟨_,i2,i3,i4⟩:=hin
          dsimp only at i2 i3 i4
          exact .inr ⟨by omega,by simpa using i4⟩
        · exact .inl ⟨i,f,y,by omega,hf,hy,hin⟩
    · rw [List.getElem?_set_ne e] at ha'
      rw [hb k' c a' ha' hc]
      constructor
      · rintro ⟨i,f,y,hi,hr⟩;exact ⟨i,f,y,by omega,hr⟩
      · rintro ⟨i,f,y,hi,hf,hy,hin⟩
        by_cases he:i=m
        · subst he
          rw [hm] at hf
          obtain rfl:=Option.some.inj hf
          have:=hin.1
          dsimp only at this
          omega
        · exact ⟨i,f,y,by omega,hf,hy,hin⟩
  · rintro ws ⟨hwl,hb⟩
    refine ⟨_,rfl,rfl,hwl,fun k c a ha hc=>?_⟩
    rw [hb k c a ha hc]
    constructor
    · rintro ⟨i,f,x,_,hr⟩;exact ⟨i,f,x,trivial,hr⟩
    · rintro ⟨i,f,x,_,hf,hr⟩;exact ⟨i,f,x,AC hf,hf,hr⟩
theorem Mm {k b w:Nat} {n:Int}:Cu ⟨k,b,w,n⟩=some ((((1:U64) <<< w) - (1:U64)) <<< b):=by
  unfold Cu shlU
  dsimp only
  rw [if_pos (by omega),At,if_pos (by omega),At]
  simp
theorem Qr {vars:List Int} {p:Pkr} (h:PkOk vars p) {s:List Int} (hs:StateOk vars s) {ws:List U64} (hwl:(ws.length:Int)=p.words) (hb:Bits p.fields s (fun _=>True) ws) {i:Nat} {f:PFd} {x:Int} (hf:p.fields[i]?=some f) (hx:s[i]?=some x):CR f ws=some x:=by
  obtain ⟨k,b,w,n,x',rfl,hk,hbw,hw,hx',hx0,hxn,hxw⟩:=h.field hs hf
  rw [hx] at hx'
  obtain rfl:=Option.some.inj hx'
  obtain ⟨a,ha⟩:=AD (l:=ws) (k:=k) (by omega)
  unfold CR
  dsimp only
  rw [Ct,ha,At,Mm,At]
  unfold shrU
  rw [if_pos (by omega),At]
  have hval : (a &&& ((((1:U64) <<< w) - (1:U64)) <<< b)) >>> b=BitVec.ofNat 64 x.toNat:=by
    apply BitVec.eq_of_getLsbD_eq
    intro j hj
    rw [BitVec.getLsbD_ushiftRight,BitVec.getLsbD_and,BitVec.getLsbD_ofNat]
    by_cases hjb:b + j < 64
    · rw [Lv hw hjb]
      by_cases hjw:j < w
      · have h1:=hb k (b + j) a ha hjb
        have h2:a.getLsbD (b + j)=x.toNat.testBit j:=by
          cases ht:x.toNat.testBit j with
          | true=>exact h1.2 ⟨i,_,x,trivial,hf,hx,rfl,by dsimp only;omega,by dsimp only;omega,by simpa using ht⟩
          | false =>
            cases hg:a.getLsbD (b + j) with
            | false=>rfl
            | true =>
              obtain ⟨i',f',x',_,hf',hx',hin⟩:=h1.1 hg
              have hii:=h.same (k:=k) (c:=b + j) hf hf' ⟨rfl,by dsimp only;omega,by dsimp only;omega⟩ ⟨hin.1,hin.2.1,hin.2.2.1⟩
              subst hii
              rw [hf] at hf'
              obtain rfl:=Option.some.inj hf'
              rw [hx] at hx'
              obtain rfl:=Option.some.inj hx'
              have:=hin.2.2.2
              simp at this
              rw [this] at ht
              cases ht
        rw [h2]
        simp [hj,hjw]
      · have hf0:x.toNat.testBit j=false:=by
          cases ht:x.toNat.testBit j with
          | false=>rfl
          | true=>exact absurd (Kn hx0 hxw ht) hjw
        simp [hf0,hjw]
    · have hf0:x.toNat.testBit j=false:=by
        cases ht:x.toNat.testBit j with
        | false=>rfl
        | true=>have:=Kn hx0 hxw ht;omega
      rw [BitVec.getLsbD_of_ge _ _ (by omega)]
      simp [hf0]
  have h64:(2:Int) ^ w≤64:=by
    have:w=0∨w=1∨w=2∨w=3∨w=4∨w=5∨w=6:=by omega
    rcases this with rfl|rfl|rfl|rfl|rfl|rfl|rfl<;>decide
  simp only [Int.toNat_natCast]
  rw [hval]
  congr 1
  rw [BitVec.toInt_eq_toNat_of_lt (by rw [BitVec.toNat_ofNat];omega),BitVec.toNat_ofNat]
  omega
theorem Iz {vars:List Int} {p:Pkr} (h:PkOk vars p) (hl:vars.length≤64) {s:List Int} (hs:StateOk vars s) {ws:List U64} (hwl:(ws.length:Int)=p.words) (hb:Bits p.fields s (fun _=>True) ws):Cs p ws=some (s,⟨0⟩):=by
  obtain ⟨W,hW,hW1,hW2,_⟩:=h.2.1
  have hsl:=hs.1
  have hfl:=h.1
  unfold Cs
  rw [if_neg (by omega),JL (by omega) (by omega),At]
  unfold BN
  rw [if_pos (by omega),At]
  refine Mj (fun m st=>st.1.length=s.length∧(∀ (i:Nat) x,i < m→s[i]?=some x→st.1[i]?=some x)∧st.2.length=ws.length∧Bits p.fields s (fun i=>m≤i) st.2) ⟨by simp;omega,fun i x hi=>by omega,rfl,?_⟩ ?_ ?_
  · intro k c a ha hc
    rw [hb k c a ha hc]
    constructor
    · rintro ⟨i,f,x,_,hr⟩;exact ⟨i,f,x,by omega,hr⟩
    · rintro ⟨i,f,x,_,hr⟩;exact ⟨i,f,x,trivial,hr⟩
  · rintro m f ⟨out,rest⟩ hm ⟨i1,i2,i3,i4⟩
    dsimp only at i1 i2 i3 i4 ⊢
    obtain ⟨k,b,w,n,x,rfl,hk,hbw,hw,hx,hx0,hxn,hxw⟩:=h.field hs hm
    have hml:=AC hx
    obtain ⟨u,hu⟩:=AD (l:=out) (k:=m) (by omega)
    obtain ⟨a,ha⟩:=AD (l:=rest) (k:=k) (by omega)
    rw [Qr h hs hwl hb hm hx,At,hu,At,List.getElem?_set_self (by omega),At]
    dsimp only
    rw [if_neg (by omega),Ct,ha,At,Mm,At,At]
    refine ⟨_,rfl,by simpa using i1,fun i y hi hy=>?_,by simpa using i3,?_⟩
    · by_cases e:i=m
      · subst e
        rw [hx] at hy
        obtain rfl:=Option.some.inj hy
        exact List.getElem?_set_self (by omega)
      · show (out.set m x)[i]?=_
        rw [List.getElem?_set_ne (by omega)]
        exact i2 i y (by omega) hy
    · show Bits p.fields s _ (rest.set ((k:Int)).toNat _)
      simp only [Int.toNat_natCast]
      intro k' c a' ha' hc
      by_cases e:k=k'
      · subst e
        rw [List.getElem?_set_self (AC ha)] at ha'
        obtain rfl:=Option.some.inj ha'
        rw [BitVec.getLsbD_and,BitVec.getLsbD_not,Lv hw hc]
        have h1:=i4 k c a ha hc
        constructor
        · intro hh
          simp only [Bool.and_eq_true,Bool.not_eq_true',decide_eq_true_eq] at hh
          obtain ⟨i,f,y,hi,hf,hy,hin⟩:=h1.1 hh.1
          refine ⟨i,f,y,?_,hf,hy,hin⟩
          rcases Nat.lt_or_ge m i with hlt|hge
          · exact hlt
          · exfalso
            obtain rfl:i=m:=by omega
            rw [hm] at hf
            obtain rfl:=Option.some.inj hf
            obtain ⟨_,j2,j3,_⟩:=hin
            dsimp only at j2 j3
            have h2:=hh.2.2
            rw [show decide (b≤c)=true from by simp;omega,show decide (c < b + w)=true from by simp;omega] at h2
            cases h2
        · rintro ⟨i,f,y,hi,hf,hy,hin⟩
          have hg:=h1.2 ⟨i,f,y,by omega,hf,hy,hin⟩
          have hno:¬ (b≤c∧c < b + w):=fun hh=>by
            have:=h.same (k:=k) (c:=c) hm hf ⟨rfl,by dsimp only;omega,by dsimp only;omega⟩ ⟨hin.1,hin.2.1,hin.2.2.1⟩
            omega
          rw [hg]
          by_cases q1:b≤c
          · have q2:¬ c < b + w:=fun hh=>hno ⟨q1,hh⟩
            simp [hc,q1,q2]
          · simp [hc,q1]
      · rw [List.getElem?_set_ne e] at ha'
        rw [i4 k' c a' ha' hc]
        constructor
        · rintro ⟨i,f,y,hi,hf,hy,hin⟩
          refine ⟨i,f,y,?_,hf,hy,hin⟩
          rcases Nat.lt_or_ge m i with hlt|hge
          · exact hlt
          · exfalso
            obtain rfl:i=m:=by omega
            rw [hm] at hf
            obtain rfl:=Option.some.inj hf
            have:=hin.1
            dsimp only at this
            omega
        · rintro ⟨i,f,y,hi,hr⟩;exact ⟨i,f,y,by omega,hr⟩
  · rintro ⟨out,rest⟩ ⟨i1,i2,i3,i4⟩
    dsimp only at i1 i2 i3 i4
    rw [Db]
    dsimp only
    have hout:out=s:=by
      apply List.ext_getElem?
      intro i
      rcases Nat.lt_or_ge i s.length with hi|hi
      · obtain ⟨x,hx⟩:=AD (l:=s) (k:=i) hi
        rw [hx];exact i2 i x (by omega) hx
      · rw [List.getElem?_eq_none hi,List.getElem?_eq_none (by omega)]
    subst hout
    refine Mj (fun _ _=>True) trivial (fun k a _ hk _=>⟨(),?_,trivial⟩) (fun _ _=>rfl)
    obtain ⟨a',ha'⟩:=AD (l:=rest) (k:=k) (by have:=AC hk;omega)
    rw [ha',At]
    have hz:a'=0:=by
      apply BitVec.eq_of_getLsbD_eq
      intro c hc
      cases hg:a'.getLsbD c with
      | false=>simp
      | true =>
        obtain ⟨i,f,x,hi,hf,_⟩:=(i4 k c a' ha' hc).1 hg
        have:=AC hf
        omega
    subst hz
    rw [if_neg (by simp)]
theorem Oz {vars:List Int} {p:Pkr} (h:PkOk vars p) (hl:vars.length≤64) {s s':List Int} (hs:StateOk vars s) (hs':StateOk vars s') {ws:List U64} (h1:By p s=some (ws,⟨0⟩)) (h2:By p s'=some (ws,⟨0⟩)):s=s':=by
  obtain ⟨r,r1,r2,r3,r4⟩:=IT h hl hs
  obtain ⟨q,q1,q2,q3,q4⟩:=IT h hl hs'
  rw [h1] at r1
  rw [h2] at q1
  obtain rfl:=Option.some.inj r1
  obtain rfl:=Option.some.inj q1
  have e1:=Iz h hl hs r3 r4
  have e2:=Iz h hl hs' q3 q4
  rw [e1] at e2
  have:=Option.some.inj e2
  exact congrArg Prod.fst this
end
section
open Go Go.RowKit
theorem KH {K V:Type} [MKey K] (z:V) (k k':K) (v:V):∀ l:List (K×V),mget z (mput l k v) k'=if k=k' then v else mget z l k'
  | []=>by simp only [mput,mget]
  | p :: r=>by
    have ih:=KH z k k' v r
    simp only [mput]
    by_cases h1:p.1=k
    · rw [if_pos h1]
      simp only [mget]
      by_cases h2:k=k'
      · rw [if_pos h2,if_pos h2]
      · rw [if_neg h2,if_neg h2,if_neg (by rw [h1];exact h2)]
    · rw [if_neg h1]
      simp only [mget,ih]
      by_cases h2:k=k'
      · rw [if_pos h2,if_pos h2,if_neg (by rw [← h2];exact h1)]
      · rw [if_neg h2,if_neg h2]
theorem NA (p:Pkr) (ws:List U64):∃ h,BP p ws=some h:=by
  have:∃ r,BP p ws=some r∧True:=by
    unfold BP
    refine Hj (fun _ _=>True) (fun _=>False) trivial (fun i x s _ _=>.inl ?_) (fun s _=>?_) (fun q hq=>hq.elim)
    · exact ⟨_,rfl,trivial⟩
    · exact ⟨_,rfl,trivial⟩
  obtain ⟨h,h1,_⟩:=this
  exact ⟨h,h1⟩
theorem Qs (a b:List U64):Bu a b=some (decide (a=b)):=by
  unfold Bu
  by_cases hl:(a.length:Int)=(b.length:Int)
  · rw [if_neg (by omega)]
    have:∃ r,(bnd (rng (ρ:=Bool) (fun (k18:Nat) (a19:U64) (_:Unit)=>bnd (b[k18]?) fun a36=>if (a19.toNat:Int)≠(a36.toNat:Int) then (some (.ret false)) else (some (.next ()))) a 0 ()) fun res14=>fin res14 fun (_:Unit)=>some true)=some r∧r=decide (a=b):=by
      refine Hj (fun m _=>∀ (i:Nat),i < m→a[i]?=b[i]?) (fun r=>r=false∧a≠b) (fun i hi=>by omega) ?_ ?_ ?_
      · intro i x _ hx hI
        obtain ⟨y,hy⟩:=AD (l:=b) (k:=i) (by have:=AC hx;omega)
        rw [hy,At]
        by_cases he:x=y
        · subst he
          rw [if_neg (by simp)]
          refine .inl ⟨(),rfl,fun j hj=>?_⟩
          by_cases e:j=i
          · subst e;rw [hx,hy]
          · exact hI j (by omega)
        · rw [if_pos (fun h=>he (BitVec.eq_of_toNat_eq (by omega)))]
          refine .inr ⟨_,rfl,rfl,fun h=>he ?_⟩
          rw [h,hy] at hx
          exact (Option.some.inj hx).symm
      · intro _ hI
        refine ⟨_,rfl,?_⟩
        symm
        rw [decide_eq_true_eq]
        apply List.ext_getElem?
        intro i
        rcases Nat.lt_or_ge i a.length with h|h
        · exact hI i h
        · rw [List.getElem?_eq_none h,List.getElem?_eq_none (by omega)]
      · rintro q ⟨rfl,hne⟩
        exact ⟨_,rfl,by simp [hne]⟩
    obtain ⟨r,h1,h2⟩:=this
    rw [h1,h2]
  · rw [if_pos hl]
    congr 1
    symm
    rw [decide_eq_false_iff_not]
    exact fun h=>hl (by rw [h])
structure RegI (vars:List Int) (r:Reg) (L:List (List Int)):Prop where
  pk:PkOk vars r.packer
  len:r.entries.length=L.length
  st:∀ (i:Nat) s,L[i]?=some s→StateOk vars s
  words:∀ (i:Nat) s e,L[i]?=some s→r.entries[i]?=some e→By r.packer s=some (e.words,⟨0⟩)
  nodup:∀ (i j:Nat) s,L[i]?=some s→L[j]?=some s→i=j
  tab:∀ (i:Nat) e,r.entries[i]?=some e→∃ h,BP r.packer e.words=some h∧(i:Int)∈mget ([]:List Int) r.table.l h
  val:∀ h a,a∈mget ([]:List Int) r.table.l h→∃ i:Nat,a=(i:Int)∧i < L.length
  few:∀ h,(mget ([]:List Int) r.table.l h).length≤L.length
def links (r:Reg):List RLk:=r.entries.map (·.link)
theorem NB {vars:List Int} (hl:vars.length≤64) (hv:∀ (i:Nat) n,vars[i]?=some n→1≤n∧n≤64):∃ r,CS vars=some r∧∃ q,r=(some q,⟨0⟩)∧RegI vars q []∧links q=[]:=by
  obtain ⟨r,h1,p,rfl,hp⟩:=MS hl hv
  unfold CS
  rw [h1,At,if_neg (by simp),At]
  exact ⟨_,rfl,_,rfl,⟨hp,rfl,fun i s h=>by simp at h,fun i s e h=>by simp at h,fun i j s h=>by simp at h,fun i e h=>by simp at h,fun h a ha=>by simp [mget] at ha,fun h=>by simp [mget]⟩,rfl⟩
theorem MT {vars:List Int} (hl:vars.length≤64) {r:Reg} {L:List (List Int)} (h:RegI vars r L) {s:List Int} (hs:StateOk vars s):∃ (ws:List U64) (hh:Int),By r.packer s=some (ws,⟨0⟩)∧BP r.packer ws=some hh ∧
    ((∃ i:Nat,L[i]?=some s∧Bq r s=some (ws,hh,(i:Int),⟨0⟩))∨((∀ i:Nat,L[i]?≠some s)∧Bq r s=some (ws,hh,-1,⟨0⟩))):=by
  obtain ⟨⟨ws,er⟩,p1,p2,p3,p4⟩:=IT h.pk hl hs
  dsimp only at p2 p3 p4
  subst p2
  obtain ⟨hh,hhe⟩:=NA r.packer ws
  refine ⟨ws,hh,p1,hhe,?_⟩
  have key:∃ res,Bq r s=some res∧((∃ i:Nat,L[i]?=some s∧res=(ws,hh,(i:Int),⟨0⟩))∨((∀ i:Nat,L[i]?≠some s)∧res=(ws,hh,-1,⟨0⟩))):=by
    unfold Bq
    rw [p1,At,if_neg (by simp),hhe,At]
    refine Hj (fun m _=>∀ (j:Nat) (i:Nat),j < m→(mget ([]:List Int) r.table.l hh)[j]?=some (i:Int)→L[i]?≠some s) (fun res=>∃ i:Nat,L[i]?=some s∧res=(ws,hh,(i:Int),⟨0⟩)) (fun j i hj=>by omega) ?_ ?_ ?_
    · intro m a _ hm hI
      obtain ⟨i,rfl,hi⟩:=h.val hh a (List.mem_of_getElem? hm)
      obtain ⟨e,he⟩:=AD (l:=r.entries) (k:=i) (by rw [h.len];exact hi)
      obtain ⟨s',hs'⟩:=AD (l:=L) (k:=i) hi
      have hw:=h.words i s' e hs' he
      rw [Ct,he,At,Qs,At]
      by_cases hew:e.words=ws
      · rw [decide_eq_true hew,Es]
        rw [hew] at hw
        have:=Oz h.pk hl (h.st i s' hs') hs hw p1
        subst this
        exact .inr ⟨_,rfl,i,hs',rfl⟩
      · rw [decide_eq_false hew,Dw]
        refine .inl ⟨(),rfl,fun j i' hj hi'=>?_⟩
        by_cases e1:j=m
        · subst e1
          rw [hm] at hi'
          have e2:i=i':=by have:=Option.some.inj hi';omega
          subst e2
          intro hL
          rw [hL] at hs'
          obtain rfl:=Option.some.inj hs'
          rw [p1] at hw
          exact hew (congrArg Prod.fst (Option.some.inj hw)).symm
        · exact hI j i' (by omega) hi'
    · intro _ hI
      refine ⟨_,rfl,.inr ⟨fun i hL=>?_,rfl⟩⟩
      obtain ⟨e,he⟩:=AD (l:=r.entries) (k:=i) (by rw [h.len];exact AC hL)
      have hw:=h.words i s e hL he
      rw [p1] at hw
      have hwe:ws=e.words:=congrArg Prod.fst (Option.some.inj hw)
      obtain ⟨h',t1,t2⟩:=h.tab i e he
      rw [← hwe,hhe] at t1
      obtain rfl:=Option.some.inj t1
      obtain ⟨j,hj⟩:=List.getElem?_of_mem t2
      exact hI j i (AC hj) hj hL
    · rintro q ⟨i,hi,rfl⟩
      exact ⟨_,rfl,.inl ⟨i,hi,rfl⟩⟩
  obtain ⟨res,k1,k2⟩:=key
  rcases k2 with ⟨i,hi,rfl⟩|⟨hn,rfl⟩
  · exact .inl ⟨i,hi,k1⟩
  · exact .inr ⟨hn,k1⟩
theorem KI {vars:List Int} (hl:vars.length≤64) {r:Reg} {L:List (List Int)} (h:RegI vars r L) {s:List Int} (hs:StateOk vars s) (hL:L.length < 65536) :
    (∃ i:Nat,L[i]?=some s∧Bh r s=some ((i:Int),false,⟨0⟩,r))∨((∀ i:Nat,L[i]?≠some s)∧∃ r',Bh r s=some ((L.length:Int),true,⟨0⟩,r')∧RegI vars r' (L ++ [s])∧links r'=links r ++ [⟨-1,-1,0⟩]):=by
  obtain ⟨ws,hh,p1,p2,hf⟩:=MT hl h hs
  unfold Bh
  have hlen:=h.len
  rcases hf with ⟨i,hi,hf⟩|⟨hno,hf⟩
  · refine .inl ⟨i,hi,?_⟩
    rw [hf,At,if_neg (by simp),if_pos (by dsimp only;omega)]
  · refine .inr ⟨hno,?_⟩
    have hfew:=h.few hh
    rw [hf,At,if_neg (by simp),if_neg (by dsimp only;omega),if_neg (by omega)]
    dsimp only
    rw [CD (by simp;omega) (by simp;omega),At,CD (by simp;omega) (by simp;omega),At,hlen]
    have hget:∀ k,mget ([]:List Int) (mput r.table.l hh (mget ([]:List Int) r.table.l hh ++ [(L.length:Int)])) k=if hh=k then mget ([]:List Int) r.table.l hh ++ [(L.length:Int)] else mget ([]:List Int) r.table.l k:=fun k=>KH _ _ _ _ _
    refine ⟨_,rfl,⟨h.pk,by simp [hlen],?_,?_,?_,?_,?_,?_⟩,by simp [links]⟩
    · intro i s' hi
      rcases DD hi with hi|⟨_,rfl⟩
      · exact h.st i s' hi
      · exact hs
    · intro i s' e hi he
      rcases DD hi with hi|⟨hi,rfl⟩
      · rcases DD he with he|⟨he,_⟩
        · exact h.words i s' e hi he
        · have:=AC hi;omega
      · rcases DD he with he|⟨he,rfl⟩
        · have:=AC he;omega
        · exact p1
    · intro i j s' hi hj
      rcases DD hi with hi2|⟨hi2,hs2⟩
      · rcases DD hj with hj2|⟨hj2,hs2⟩
        · exact h.nodup i j s' hi2 hj2
        · exact absurd (hs2 ▸ hi2) (hno i)
      · rcases DD hj with hj2|⟨hj2,_⟩
        · exact absurd (hs2 ▸ hj2) (hno j)
        · omega
    · intro i e he
      rcases DD he with he|⟨hi,rfl⟩
      · obtain ⟨k,k1,k2⟩:=h.tab i e he
        refine ⟨k,k1,?_⟩
        dsimp only
        rw [hget]
        by_cases e1:hh=k
        · subst e1;rw [if_pos rfl];exact List.mem_append_left _ k2
        · rw [if_neg e1];exact k2
      · refine ⟨hh,p2,?_⟩
        dsimp only
        rw [hget,if_pos rfl,hi,hlen]
        simp
    · intro k a ha
      dsimp only at ha
      rw [hget] at ha
      simp only [List.length_append,List.length_singleton]
      by_cases e1:hh=k
      · rw [if_pos e1] at ha
        rcases List.mem_append.1 ha with ha|ha
        · obtain ⟨i,h1,h2⟩:=h.val hh a ha;exact ⟨i,h1,by omega⟩
        · exact ⟨L.length,by simpa using ha,by omega⟩
      · rw [if_neg e1] at ha
        obtain ⟨i,h1,h2⟩:=h.val k a ha;exact ⟨i,h1,by omega⟩
    · intro k
      dsimp only
      rw [hget]
      have:=h.few k
      simp only [List.length_append,List.length_singleton]
      by_cases e1:hh=k
      · rw [if_pos e1];simp;omega
      · rw [if_neg e1];omega
theorem NC {vars:List Int} {r:Reg} {L:List (List Int)} (h:RegI vars r L) {i:Nat} (hi:i < L.length):BY r (i:Int)=some true:=by
  unfold BY
  rw [if_pos (by omega),if_pos (by rw [h.len];omega)]
  rfl
theorem LU {vars:List Int} (hl:vars.length≤64) {r:Reg} {L:List (List Int)} (h:RegI vars r L) {i:Nat} {s:List Int} (hi:L[i]?=some s):Bw r (i:Int)=some (s,⟨0⟩):=by
  obtain ⟨e,he⟩:=AD (l:=r.entries) (k:=i) (by rw [h.len];exact AC hi)
  have hs:=h.st i s hi
  obtain ⟨⟨ws,er⟩,p1,p2,p3,p4⟩:=IT h.pk hl hs
  have hw:=h.words i s e hi he
  rw [p1] at hw
  have hwe:ws=e.words:=congrArg Prod.fst (Option.some.inj hw)
  dsimp only at p3 p4
  rw [hwe] at p3 p4
  unfold Bw
  rw [NC h (AC hi),At,Es,Ct,he,At,Iz h.pk hl hs p3 p4,At]
end
section
open Go Go.RowKit
inductive Rch (t:Tsk):List Int→Prop
  | init:Rch t t.init
  | step {s:List Int} {k:Nat} {o:Opr}:Rch t s→t.ops[k]?=some o→holdsB o.pre s=true→Rch t (succ o s)
theorem Rch.ok {t:Tsk} (h:TaskOk t) {s:List Int} (hr:Rch t s):StateOk t.vars s:=by
  induction hr with
  | init=>exact h.2.2.2.1
  | step _ ho _ ih=>exact Mf h ih ho
end
section
open Go Go.RowKit
theorem IA {α:Type} [DecidableEq α]:∀ {a b:List α},a.Nodup→(∀ x∈a,x∈b)→a.length≤b.length
  | [],_,_,_=>Nat.zero_le _
  | x :: a,b,hn,hs=>by
    have hx:=hs x List.mem_cons_self
    have h1:=IA (a:=a) (b:=b.erase x) (List.nodup_cons.1 hn).2 fun y hy=>(List.mem_erase_of_ne (fun e=>(List.nodup_cons.1 hn).1 (by rw [← e];exact hy))).2 (hs y (List.mem_cons_of_mem _ hy))
    have h2:=List.length_erase_of_mem hx
    have h3:=List.length_pos_of_mem hx
    simp only [List.length_cons]
    omega
end
section
open Go Go.RowKit
def appB (t:Tsk) (s:List Int) (k:Nat):Bool:=match t.ops[k]? with|some o=>holdsB o.pre s|none=>false
def appN (t:Tsk) (s:List Int) (m:Nat):List Nat:=(List.range m).filter (appB t s)
def sucN (t:Tsk) (s:List Int) (k:Nat):List Int:=match t.ops[k]? with|some o=>succ o s|none=>s
theorem Qt (t:Tsk) (s:List Int):appl t s=(appN t s t.ops.length).map fun k:Nat=>(k:Int):=rfl
theorem FV {t:Tsk} {s:List Int} {k:Nat} (h:appB t s k=true):∃ o,t.ops[k]?=some o∧holdsB o.pre s=true∧sucN t s k=succ o s:=by
  unfold appB at h
  cases ho:t.ops[k]? with
  | none=>rw [ho] at h;cases h
  | some o=>rw [ho] at h;exact ⟨o,rfl,h,by unfold sucN;rw [ho]⟩
theorem Mn {t:Tsk} {s:List Int} {k:Nat} {o:Opr} (ho:t.ops[k]?=some o):appB t s k=holdsB o.pre s∧sucN t s k=succ o s:=by unfold appB sucN;rw [ho];exact ⟨rfl,rfl⟩
end
section
set_option linter.unusedVariables false
set_option linter.unusedSimpArgs false
open Go Go.RowKit
def putL (L:List (List Int)) (s:List Int):List (List Int):=if s∈L then L else L ++ [s]
def foldP (t:Tsk) (s:List Int) (L:List (List Int)) (ks:List Nat):List (List Int):=ks.foldl (fun L k=>putL L (sucN t s k)) L
def expL (t:Tsk) (s:List Int) (L:List (List Int)) (m:Nat):List (List Int):=foldP t s L (appN t s m)
theorem KJ (t:Tsk) (s:List Int) (m:Nat):appN t s (m + 1)=appN t s m ++ if appB t s m=true then [m] else []:=by
  unfold appN
  rw [List.range_succ,List.filter_append]
  by_cases h:appB t s m=true<;>simp [h]
theorem ND (t:Tsk) (s:List Int) (L:List (List Int)) (m:Nat):expL t s L (m + 1)=if appB t s m=true then putL (expL t s L m) (sucN t s m) else expL t s L m:=by
  unfold expL foldP
  rw [KJ,List.foldl_append]
  by_cases h:appB t s m=true
  · rw [if_pos h,if_pos h];rfl
  · rw [if_neg h,if_neg h];rfl
theorem Lw (L:List (List Int)) (s:List Int):∃ A,putL L s=L ++ A:=by
  unfold putL
  split
  · exact ⟨[],by simp⟩
  · exact ⟨[s],rfl⟩
theorem OA (L:List (List Int)) (s:List Int):s∈putL L s:=by
  unfold putL
  split
  · assumption
  · simp
theorem Em (t:Tsk) (s:List Int):∀ (ks:List Nat) (L:List (List Int)),∃ A,foldP t s L ks=L ++ A
  | [],L=>⟨[],by simp [foldP]⟩
  | k :: ks,L=>by
    obtain ⟨A,hA⟩:=Lw L (sucN t s k)
    obtain ⟨B,hB⟩:=Em t s ks (putL L (sucN t s k))
    exact ⟨A ++ B,by rw [← List.append_assoc,← hA,← hB];rfl⟩
theorem JX (t:Tsk) (s:List Int) (L:List (List Int)) (ks:List Nat) (k:Nat):foldP t s L (ks ++ [k])=putL (foldP t s L ks) (sucN t s k):=by unfold foldP;rw [List.foldl_append];rfl
theorem IB (t:Tsk) (s:List Int):∀ (ks:List Nat) (L:List (List Int)) (k:Nat),k∈ks→sucN t s k∈foldP t s L ks
  | [],_,_,h=>by simp at h
  | q :: ks,L,k,h=>by
    rcases List.mem_cons.1 h with rfl|h
    · obtain ⟨B,hB⟩:=Em t s ks (putL L (sucN t s k))
      show _∈foldP t s (putL L (sucN t s k)) ks
      rw [hB];exact List.mem_append_left _ (OA _ _)
    · exact IB t s ks _ k h
structure BL (t:Tsk) (L:List (List Int)):Prop where
  root:L[0]?=some t.init
  nodup:L.Nodup
  rch:∀ s∈L,Rch t s
theorem Hm (t:Tsk):BL t [t.init]:=⟨rfl,by simp,fun s h=>by simp at h;rw [h];exact .init⟩
theorem BL.ok {t:Tsk} {L:List (List Int)} (h:BL t L) (hok:TaskOk t) {s:List Int} (hs:s∈L):StateOk t.vars s:=(h.rch s hs).ok hok
theorem BL.few {t:Tsk} {L:List (List Int)} (h:BL t L) (hs:Mid t):L.length≤600:=Nat.le_trans (IA h.nodup fun s hm=>Jd.2 (h.ok hs.ok hm)) hs.many
theorem BL.many {t:Tsk} {L:List (List Int)} (h:BL t L) (hok:TaskOk t):L.length≤(statesL t.vars).length:=IA h.nodup fun s hm=>Jd.2 (h.ok hok hm)
theorem BL.put {t:Tsk} {L:List (List Int)} (h:BL t L) {s:List Int} (hs:s∈L) {k:Nat} (hk:appB t s k=true):BL t (putL L (sucN t s k)):=by
  unfold putL
  by_cases hm:sucN t s k∈L
  · rw [if_pos hm];exact h
  · rw [if_neg hm]
    obtain ⟨o,ho,hp,hsu⟩:=FV hk
    refine ⟨?_,?_,fun u hu=>?_⟩
    · rw [List.getElem?_append_left (AC h.root)];exact h.root
    · rw [List.nodup_append]
      refine ⟨h.nodup,by simp,fun a ha b hb=>?_⟩
      simp at hb
      rintro rfl
      exact hm (hb ▸ ha)
    · rcases List.mem_append.1 hu with hu|hu
      · exact h.rch u hu
      · simp at hu;rw [hu,hsu];exact (h.rch s hs).step ho hp
theorem BL.fold {t:Tsk} {s:List Int}:∀ {ks:List Nat} {L:List (List Int)},BL t L→s∈L→(∀ k∈ks,appB t s k=true)→BL t (foldP t s L ks)
  | [],_,h,_,_=>h
  | k :: ks,L,h,hs,hk=>by
    obtain ⟨A,hA⟩:=Lw L (sucN t s k)
    exact BL.fold (L:=putL L (sucN t s k)) (h.put hs (hk k List.mem_cons_self)) (by rw [hA];exact List.mem_append_left _ hs) fun q hq=>hk q (List.mem_cons_of_mem _ hq)
theorem GE {t:Tsk} {s:List Int} {m k:Nat} (h:k∈appN t s m):appB t s k=true∧k < m:=by
  unfold appN at h
  obtain ⟨h1,h2⟩:=List.mem_filter.1 h
  exact ⟨h2,List.mem_range.1 h1⟩
theorem Ly {t:Tsk} {s:List Int} {m k:Nat} (h:appB t s k=true) (hk:k < m):k∈appN t s m:=List.mem_filter.2 ⟨List.mem_range.2 hk,h⟩
theorem BL.exp {t:Tsk} {s:List Int} {L:List (List Int)} (h:BL t L) (hs:s∈L) (m:Nat):BL t (expL t s L m):=h.fold hs fun k hk=>(GE hk).1
def CloL (t:Tsk) (i:Nat) (L:List (List Int)):Prop:=∀ (j:Nat) s k,j < i→L[j]?=some s→appB t s k=true→sucN t s k∈L
theorem CloL.exp {t:Tsk} {i:Nat} {L:List (List Int)} (h:CloL t i L) {s:List Int} (hs:L[i]?=some s):CloL t (i + 1) (expL t s L t.ops.length):=fun j u k hj hu hk=>by
  obtain ⟨A,hA⟩:=Em t s (appN t s t.ops.length) L
  have hi:=AC hs
  have e:expL t s L t.ops.length=L ++ A:=hA
  rw [e,List.getElem?_append_left (by omega)] at hu
  by_cases e2:j=i
  · subst e2
    rw [hs] at hu
    obtain rfl:=Option.some.inj hu
    obtain ⟨o,ho,_⟩:=FV hk
    exact IB t s _ _ k (Ly hk (AC ho))
  · rw [e];exact List.mem_append_left _ (h j u k (by omega) hu hk)
inductive Bx (t:Tsk) (lim:Int):Nat→List (List Int)→Option (List (List Int))→Prop
  | full {i:Nat} {L:List (List Int)}:lim < (L.length:Int)→Bx t lim i L none
  | done {i:Nat} {L:List (List Int)}:(L.length:Int)≤lim→L.length≤i→Bx t lim i L (some L)
  | step {i:Nat} {L:List (List Int)} {s:List Int} {r:Option (List (List Int))}:(L.length:Int)≤lim→L[i]?=some s→Bx t lim (i + 1) (expL t s L t.ops.length) r→Bx t lim i L r
theorem OX {t:Tsk} (hs:Mid t) (lim:Int):∀ (n i:Nat) (L:List (List Int)),601 - i < n→BL t L→∃ r,Bx t lim i L r
  | 0,_,_,h,_=>absurd h (by omega)
  | n + 1,i,L,h,hL=>by
    by_cases h1:lim < (L.length:Int)
    · exact ⟨_,.full h1⟩
    · by_cases h2:L.length≤i
      · exact ⟨_,.done (by omega) h2⟩
      · have hf:=hL.few hs
        obtain ⟨s,hs'⟩:=AD (l:=L) (k:=i) (by omega)
        obtain ⟨r,hr⟩:=OX hs lim n (i + 1) (expL t s L t.ops.length) (by omega) (hL.exp (List.mem_of_getElem? hs') _)
        exact ⟨r,.step (by omega) hs' hr⟩
structure EndL (t:Tsk) (lim:Int) (L:List (List Int)):Prop where
  bl:BL t L
  clo:CloL t L.length L
  few:(L.length:Int)≤lim
theorem Bx.ends {t:Tsk} {lim:Int} {i:Nat} {L:List (List Int)} {r:Option (List (List Int))} (h:Bx t lim i L r):BL t L→CloL t i L→∀ L',r=some L'→EndL t lim L':=by
  induction h with
  | full _=>intro _ _ _ h;cases h
  | done h1 h2=>intro hb hc L' h;cases h;exact ⟨hb,fun j s k hj hs hk=>hc j s k (by omega) hs hk,h1⟩
  | @step i L s r h1 h2 _ ih =>
    intro hb hc L' h
    exact ih (hb.exp (List.mem_of_getElem? h2) _) (hc.exp h2) L' h
def idxE (L:List (List Int)) (s:List Int):Int:=(L.idxOf s:Int)
def edgK (t:Tsk) (L:List (List Int)) (s:List Int) (i:Nat) (ks:List Nat):List Edj:=ks.map fun k:Nat=>(⟨(i:Int),(k:Int),idxE L (sucN t s k)⟩:Edj)
def edgL (t:Tsk) (L:List (List Int)) (i:Nat):List Edj:=(List.range i).flatMap fun j=>match L[j]? with|some s=>edgK t L s j (appN t s t.ops.length)|none=>[]
theorem OB {L A:List (List Int)} {s:List Int} (h:s∈L):idxE (L ++ A) s=idxE L s:=by unfold idxE;rw [List.idxOf_append,if_pos h]
theorem OC {L:List (List Int)} {s:List Int} (h:¬ s∈L):idxE (L ++ [s]) s=(L.length:Int):=by unfold idxE;rw [List.idxOf_append,if_neg h];simp
theorem Mo {L:List (List Int)} {s:List Int} (h:s∈L):∃ i:Nat,idxE L s=(i:Int)∧L[i]?=some s:=⟨L.idxOf s,rfl,by rw [List.getElem?_eq_getElem (List.idxOf_lt_length_of_mem h),List.getElem_idxOf]⟩
theorem OD {α:Type} {L:List α} (hn:L.Nodup) {i j:Nat} {s:α} (h1:L[i]?=some s) (h2:L[j]?=some s):i=j:=by
  obtain ⟨a1,b1⟩:=List.getElem?_eq_some_iff.1 h1
  obtain ⟨a2,b2⟩:=List.getElem?_eq_some_iff.1 h2
  rcases Nat.lt_trichotomy i j with h|h|h
  · exact ((List.pairwise_iff_getElem.1 hn) i j a1 a2 h (by rw [b1,b2])).elim
  · exact h
  · exact ((List.pairwise_iff_getElem.1 hn) j i a2 a1 h (by rw [b1,b2])).elim
theorem Qu {L:List (List Int)} (hn:L.Nodup) {i:Nat} {s:List Int} (h:L[i]?=some s):idxE L s=(i:Int):=by
  obtain ⟨j,h1,h2⟩:=Mo (List.mem_of_getElem? h)
  rw [h1,OD hn h2 h]
theorem Lz {t:Tsk} {L A:List (List Int)} {s:List Int} {i:Nat} {ks:List Nat} (h:∀ k∈ks,sucN t s k∈L):edgK t (L ++ A) s i ks=edgK t L s i ks:=by
  unfold edgK
  exact List.map_congr_left fun k hk=>by rw [OB (h k hk)]
theorem Ko {α β:Type} {l:List α} {f g:α→List β} (h:∀ a∈l,f a=g a):l.flatMap f=l.flatMap g:=by
  induction l with
  | nil=>rfl
  | cons a l ih=>rw [List.flatMap_cons,List.flatMap_cons,h a List.mem_cons_self,ih fun b hb=>h b (List.mem_cons_of_mem _ hb)]
theorem OE {t:Tsk} {L A:List (List Int)} {i:Nat} (hi:i≤L.length) (h:CloL t i L):edgL t (L ++ A) i=edgL t L i:=by
  unfold edgL
  refine Ko fun j hj=>?_
  have hji:=List.mem_range.1 hj
  obtain ⟨s,hs⟩:=AD (l:=L) (k:=j) (by omega)
  rw [List.getElem?_append_left (by omega),hs]
  exact Lz fun k hk=>h j s k hji hs (GE hk).1
theorem IC {t:Tsk} {L:List (List Int)} {i:Nat} {s:List Int} (hs:L[i]?=some s):edgL t L (i + 1)=edgL t L i ++ edgK t L s i (appN t s t.ops.length):=by
  unfold edgL
  rw [List.range_succ,List.flatMap_append,List.flatMap_singleton,hs]
theorem LA {t:Tsk} {L:List (List Int)} {i:Nat} {e:Edj}:e∈edgL t L i↔∃ (j k:Nat) (s:List Int),j < i∧L[j]?=some s∧appB t s k=true∧e=⟨(j:Int),(k:Int),idxE L (sucN t s k)⟩:=by
  unfold edgL
  rw [List.mem_flatMap]
  constructor
  · rintro ⟨j,hj,he⟩
    cases hs:L[j]? with
    | none=>rw [hs] at he;simp at he
    | some s =>
      rw [hs] at he
      obtain ⟨k,hk,rfl⟩:=List.mem_map.1 he
      exact ⟨j,k,s,List.mem_range.1 hj,hs,(GE hk).1,rfl⟩
  · rintro ⟨j,k,s,hj,hs,hk,rfl⟩
    refine ⟨j,List.mem_range.2 hj,?_⟩
    rw [hs]
    obtain ⟨o,ho,_⟩:=FV hk
    exact List.mem_map.2 ⟨k,Ly hk (AC ho),rfl⟩
theorem Jz (t:Tsk) (s:List Int) (m:Nat):(appN t s m).length≤m:=by
  unfold appN
  exact Nat.le_trans (List.length_filter_le _ _) (by simp)
theorem HE (t:Tsk) (L:List (List Int)):∀ (i:Nat),(edgL t L i).length≤i * t.ops.length
  | 0=>by simp [edgL]
  | i + 1=>by
    have h:=HE t L i
    unfold edgL at h ⊢
    rw [List.range_succ,List.flatMap_append,List.flatMap_singleton,List.length_append,Nat.succ_mul]
    have:(match L[i]? with|some s=>edgK t L s i (appN t s t.ops.length)|none=>[]).length≤t.ops.length:=by
      cases L[i]? with
      | none=>simp
      | some s=>dsimp only;unfold edgK;rw [List.length_map];exact Jz _ _ _
    omega
theorem EndL.edges {t:Tsk} {lim:Int} {L:List (List Int)} (h:EndL t lim L) (hs:Mid t):EdgesOk t L.length (edgL t L L.length):=by
  have hf:=h.bl.few hs
  refine ⟨fun e he=>?_,?_⟩
  · obtain ⟨j,k,s,hj,hsj,hk,rfl⟩:=LA.1 he
    obtain ⟨i,h1,h2⟩:=Mo (h.clo j s k hj hsj hk)
    obtain ⟨o,ho,_⟩:=FV hk
    have:=AC h2
    have:=AC ho
    rw [h1]
    dsimp only;omega
  · have h1:=HE t L L.length
    have h2:=hs.ops
    have:L.length * t.ops.length≤600 * 80:=Nat.mul_le_mul hf h2
    omega
-- the document
theorem LB (L:List (List Int)) (s:List Int):Dc L s=some (if s∈L then idxE L s else -1):=by
  have key:∃ r,Dc L s=some r∧r=(if s∈L then idxE L s else -1):=by
    unfold Dc
    refine Hj (fun k _=>¬ s∈L.take k) (fun r=>s∈L∧r=idxE L s) (by simp) (fun k a u hk hI=>?_) (fun u hI=>⟨_,rfl,?_⟩) (fun r hr=>⟨_,rfl,?_⟩)
    · unfold GX
      rw [At]
      by_cases e:a=s
      · rw [Ch e,Es]
        subst e
        refine .inr ⟨_,rfl,List.mem_of_getElem? hk,?_⟩
        have hk2:=AC hk
        have:L=L.take k ++ (a :: L.drop (k + 1)):=by
          have h2:=List.drop_eq_getElem_cons hk2
          rw [(List.getElem?_eq_some_iff.1 hk).2] at h2
          rw [← h2,List.take_append_drop]
        unfold idxE
        rw [this,List.idxOf_append,if_neg hI]
        simp;omega
      · rw [Bi e,Dw]
        refine .inl ⟨(),rfl,fun hm=>?_⟩
        rcases (HA hk).1 hm with hm|rfl
        · exact hI hm
        · exact e rfl
    · rw [List.take_length] at hI;rw [if_neg hI]
    · rw [if_pos hr.1];exact hr.2
  obtain ⟨r,h1,h2⟩:=key
  rw [h1,h2]
theorem OF (L:List (List Int)) (s:List Int):0≤idxE L s:=by unfold idxE;omega
theorem LV {t:Tsk} (hs:Mid t) {lim:Int} {L:List (List Int)} (h:EndL t lim L):Ey t L=some (edgL t L L.length):=by
  have hf:=h.bl.few hs
  have hops:=hs.ops
  unfold Ey
  rw [Et (fun m=>edgL t L m) (by simp [edgL]) (fun i s hi=>?_),At,Db]
  have hil:=AC hi
  have hsok:=h.bl.ok hs.ok (List.mem_of_getElem? hi)
  have hlen:=HE t L i
  have hb:i * t.ops.length≤600 * 80:=Nat.mul_le_mul (by omega) hops
  rw [Et (fun m=>edgL t L i ++ edgK t L s i (appN t s m)) (by simp [edgK,appN]) (fun k o ho=>?_),At,Db,IC hi]
  obtain ⟨e1,e2⟩:=Mn (s:=s) ho
  have hk:=AC ho
  have hlen2:(edgL t L i ++ edgK t L s i (appN t s k)).length≤60000:=by
    have:=Jz t s k
    rw [List.length_append];unfold edgK;rw [List.length_map];omega
  rw [KJ,e1,KE hs.ok hsok ho]
  by_cases hp:holdsB o.pre s=true
  · rw [if_pos hp,if_pos hp,At]
    dsimp only
    rw [Es,LB,At,if_pos (by rw [← e2];exact h.clo i s k hil hi (by rw [e1];exact hp)),CD (by rw [List.length_singleton];omega) (by rw [List.length_singleton];omega),At]
    unfold edgK
    rw [List.map_append,List.append_assoc,← e2];rfl
  · rw [if_neg hp,if_neg hp,At]
    dsimp only
    rw [Dw,List.append_nil]
abbrev LN:=List (List Int)×Int
noncomputable def rstF (x0:Tsk) (q25:Int):LN→Option (Ctl LN ((List (List Int))×Bool)):=fun s60=>bnd (if s60.2 < (s60.1.length:Int) then (if (s60.1.length:Int)≤q25 then (some true) else (some false)) else (some false):Option Bool) fun y79=>if y79=true then (bnd (rng (ρ:=Ctl LN ((List (List Int))×Bool)) (fun (k100:Nat) (a101:Opr) (s98:(List (List Int)))=>bnd (atI s98 s60.2) fun a115=>bnd (CN x0 a115 (k100:Int)) fun q130=>bnd (if q130.2=true then (bnd (Dc s98 q130.1) fun q148=>if q148 < 0 then (some true) else (some false)) else (some false):Option Bool) fun y143=>if y143=true then (bnd (appI 24 s98 [q130.1]) fun u162=>some (.next u162)) else (some (.next s98))) x0.ops 0 s60.1) fun res96=>fin res96 fun (s178:(List (List Int)))=>bnd (chkI (s60.2 + 1)) fun n180=>some (.next (s178,n180))) else (some (.brk (s60.1,s60.2)))
noncomputable def rstE (q25:Int):Fin LN ((List (List Int))×Bool)→Option ((List (List Int))×Bool):=fun res58=>fin res58 fun (s187:LN)=>bnd (if (s187.1.length:Int)≤q25 then (some true) else (some false):Option Bool) fun y189=>some (s187.1,y189)
theorem Pw (x0:Tsk) (x1:Int):DB x0 x1=bnd (EE x1 0 65536) fun q25=>bnd (appI 8 ([]:List Int) x0.init) fun u39=>bnd (lop (rstF x0 q25) ([u39],0)) (rstE q25):=rfl
theorem Px {t:Tsk} (hs:Mid t) {ρ:Type} {i:Nat} {L:List (List Int)} {s:List Int} (hb:BL t L) (hi:L[i]?=some s):rng (ρ:=ρ) (fun (k100:Nat) (a101:Opr) (s98:(List (List Int)))=>bnd (atI s98 (i:Int)) fun a115=>bnd (CN t a115 (k100:Int)) fun q130=>bnd (if q130.2=true then (bnd (Dc s98 q130.1) fun q148=>if q148 < 0 then (some true) else (some false)) else (some false):Option Bool) fun y143=>if y143=true then (bnd (appI 24 s98 [q130.1]) fun u162=>some (.next u162)) else (some (.next s98))) t.ops 0 L=some (.done (expL t s L t.ops.length)):=by
  refine Et (fun m=>expL t s L m) (by simp [expL,appN,foldP]) fun k o ho=>?_
  have hmem:=List.mem_of_getElem? hi
  have hE:=hb.exp hmem k
  have hf:=hE.few hs
  obtain ⟨e1,e2⟩:=Mn (s:=s) ho
  have hsok:=hb.ok hs.ok hmem
  obtain ⟨A,hA⟩:=Em t s (appN t s k) L
  have hget:(expL t s L k)[i]?=some s:=by
    show (foldP t s L (appN t s k))[i]?=some s
    rw [hA,List.getElem?_append_left (AC hi)];exact hi
  rw [ND,e1,Ct,hget,At,KE hs.ok hsok ho]
  by_cases hp:holdsB o.pre s=true
  · rw [if_pos hp,if_pos hp,At]
    dsimp only
    rw [Es,LB,At,e2]
    unfold putL
    by_cases hm:succ o s∈expL t s L k
    · rw [if_pos hm,if_neg (by have:=OF (expL t s L k) (succ o s);omega),At,Dw,if_pos hm]
    · rw [if_neg hm,if_pos (by omega),At,Es,CD (by rw [List.length_singleton];omega) (by rw [List.length_singleton];omega),At,if_neg hm]
  · rw [if_neg hp,if_neg hp,At]
    dsimp only
    rw [Dw,At,Dw]
def outS (r:Option (List (List Int))) (x:List (List Int)×Bool):Prop:=match r with|none=>x.2=false|some L=>x=(L,true)
theorem Qv {t:Tsk} (hs:Mid t) {lim:Int} {i:Nat} {L:List (List Int)} {r:Option (List (List Int))} (h:Bx t lim i L r):BL t L→∃ x,bnd (lop (rstF t lim) (L,(i:Int))) (rstE lim)=some x∧outS r x:=by
  induction h with
  | @full i L h1 =>
    intro _
    rw [Gy]
    unfold rstF
    dsimp only
    have e:(if (i:Int) < (L.length:Int) then (if (L.length:Int)≤lim then some true else some false) else some false)=some false:=by
      split
      · rw [if_neg (by omega)]
      · rfl
    rw [e,At,Dw]
    dsimp only
    rw [At]
    unfold rstE
    rw [Db,if_neg (by dsimp only;omega),At]
    exact ⟨_,rfl,rfl⟩
  | @done i L h1 h2 =>
    intro _
    rw [Gy]
    unfold rstF
    dsimp only
    rw [if_neg (by omega),At,Dw]
    dsimp only
    rw [At]
    unfold rstE
    rw [Db,if_pos (by dsimp only;omega),At]
    exact ⟨_,rfl,rfl⟩
  | @step i L s r h1 h2 _ ih =>
    intro hb
    have hil:=AC h2
    have hf:=hb.few hs
    rw [Gy]
    unfold rstF
    dsimp only
    rw [if_pos (by omega),if_pos h1,At,Es,Px hs hb h2,At,Db,Dg (by unfold inI64;omega),At]
    dsimp only
    exact ih (hb.exp (List.mem_of_getElem? h2) _)
def limE (x:Int):Int:=max 0 (min x 65536)
theorem Py (x:Int):EE x 0 65536=some (limE x):=by
  unfold limE EE
  first|rfl|(congr 1;omega)|(split<;>(try split)<;>(congr 1;omega))
theorem LC {t:Tsk} (hs:Mid t) (lim:Int):∃ r x,Bx t (limE lim) 0 [t.init] r∧DB t lim=some x∧outS r x:=by
  obtain ⟨r,hr⟩:=OX hs (limE lim) 602 0 [t.init] (by omega) (Hm t)
  obtain ⟨x,h1,h2⟩:=Qv hs hr (Hm t)
  refine ⟨r,x,hr,?_,h2⟩
  have h3:=hs.ok.2.2.2.1.1
  have h4:=hs.ok.1
  rw [Pw,Py,At,CD (by simp;omega) (by simp;omega),At,List.nil_append]
  exact h1
end
section
set_option linter.unusedVariables false
set_option linter.unusedSimpArgs false
open Go Go.RowKit
abbrev XI:=List Edj×Reg
abbrev XS:=Int×List Edj×List Bool×Reg
abbrev XR:=Option Spa×Err
theorem ID {f:List Fct} (h:f.length≤1000):Bd f=some f:=if_pos ⟨by omega,by omega⟩
theorem NE {t:Tsk} (h:TaskOk t):CC t=some t:=by
  obtain ⟨h1,h2,h3,h4,h5,h6⟩:=h
  have hg:=DZ h5
  unfold CC
  rw [Ju (by omega),At,Ju (by rw [h4.1];omega),At,ID (by omega),At,At]
  rw [Et (fun k=>t.ops.take k) (by simp) (fun k o ho=>?_),At,Db,List.take_length]
  have hk:=AC ho
  have hoo:=h6 k o ho
  have hp:=DZ hoo.2.2.2.2.1
  rw [ID (by omega),At]
  rw [Et (fun j=>o.effs.take j) (by simp) (fun j e he=>?_),At,Db,List.take_length]
  · rw [CD (by rw [List.length_take,List.length_singleton];omega) (by rw [List.length_take,List.length_singleton];omega),At,List.take_add_one,ho];rfl
  · have hj:=AC he
    have hel:=hoo.2.2.1
    have hc:=DZ (hoo.2.2.2.2.2 j e he).1
    rw [ID (by omega),At,CD (by rw [List.length_take,List.length_singleton];omega) (by rw [List.length_take,List.length_singleton];omega),At,List.take_add_one,he];rfl
noncomputable def exIn (x1 i:Int):Suc→XI→Option (Ctl XI (Ctl XS XR)):=fun a228 s225=>bnd (Bh s225.2 a228.state) fun q263=>bnd (bnd (Eb (⟨q263.2.2.1.n⟩:Err) (⟨10⟩:Err)) fun q283=>if q283=true then some true else if q263.2.1=true then (if (max 0 (min x1 65536))≤q263.1 then (some true) else (some false)) else (some false):Option Bool) fun y279=>if y279=true then (some (.ret (.ret (none,(⟨10⟩:Err))))) else (if q263.2.2.1.n≠0 then (some (.ret (.ret (none,(⟨q263.2.2.1.n⟩:Err))))) else (bnd (appI 24 s225.1 [(⟨i,a228.op,q263.1⟩:Edj)]) fun u304=>some (.next (u304,q263.2.2.2))))
noncomputable def exF (x0:Tsk) (x1:Int) (gen:Option Gnr):XS→Option (Ctl XS XR):=fun s105=>bnd (AW s105.2.2.2) fun q130=>if s105.1 < q130 then (bnd (Bw s105.2.2.2 s105.1) fun q141=>if q141.2.n≠0 then (some (.ret (none,(⟨q141.2.n⟩:Err)))) else (bnd (bnd (Da x0.goal q141.1) fun q163=>if q163=true then bnd (appI 1 s105.2.2.1 [true]) fun u195=>some u195 else bnd (appI 1 s105.2.2.1 [false]) fun u176=>some u176:Option (List Bool)) fun y157=>bnd (Bj gen q141.1) fun q212=>bnd (rng (ρ:=Ctl XS XR) (fun (_:Nat) (a228:Suc) (s225:XI)=>exIn x1 s105.1 a228 s225) q212 0 (s105.2.1,s105.2.2.2)) fun res223=>fin res223 fun (s321:XI)=>bnd (chkI (s105.1 + 1)) fun n323=>some (.next (n323,s321.1,y157,s321.2)))) else (some (.brk (s105.1,s105.2.1,s105.2.2.1,s105.2.2.2)))
noncomputable def exE (q74:Tsk):Fin XS XR→Option XR:=fun res103=>fin res103 fun (s330:XS)=>bnd (BI (⟨(⟨q74.vars,q74.init,q74.goal,q74.ops⟩:Tsk),s330.2.2.2,s330.2.1,s330.2.2.1,([]:List Int),([]:List Int),([]:List Int)⟩:Spa)) fun q341=>some ((some q341),(⟨0⟩:Err))
theorem Qw (x0:Tsk) (x1:Int):Ci x0 x1=bnd (DP x0) fun q25=>if q25.2.n≠0 then (some (none,(⟨q25.2.n⟩:Err))) else (bnd (CS x0.vars) fun q40=>if q40.2.n≠0 then (some (none,(⟨q40.2.n⟩:Err))) else (if (max 0 (min x1 65536)) < 1 then (some (none,(⟨10⟩:Err))) else (bnd q40.1 fun o54=>bnd (Bh o54 x0.init) fun q57=>if q57.2.2.1.n≠0 then (some (none,(⟨q57.2.2.1.n⟩:Err))) else (bnd (CC x0) fun q74=>bnd (lop (exF x0 x1 q25.1) (0,([]:List Edj),([]:List Bool),q57.2.2.2)) (exE q74))))):=rfl
def goalsL (t:Tsk) (L:List (List Int)):List Bool:=L.map (holdsB t.goal)
structure SpX (t:Tsk) (L:List (List Int)) (x:Spa):Prop where
  reg:RegI t.vars x.states L
  sp:SpaOk t L.length (edgL t L L.length) (goalsL t L) x
def outX (t:Tsk) (r:Option (List (List Int))) (x:XR):Prop:=match r with|none=>x=(none,⟨10⟩)|some L=>∃ s,x=(some s,⟨0⟩)∧SpX t L s
theorem NF (t:Tsk) (s:List Int) (L:List (List Int)) (a b:List Nat):foldP t s L (a ++ b)=foldP t s (foldP t s L a) b:=by unfold foldP;rw [List.foldl_append]
theorem KK (t:Tsk) (L:List (List Int)) (s:List Int) (i:Nat) (ks:List Nat) (k:Nat):edgK t L s i (ks ++ [k])=edgK t L s i ks ++ [⟨(i:Int),(k:Int),idxE L (sucN t s k)⟩]:=by unfold edgK;rw [List.map_append];rfl
theorem Qx {t:Tsk} (hs:Mid t) {x1:Int} {i:Nat} {L:List (List Int)} {s:List Int} (hb:BL t L) (hcl:CloL t i L) (hlim:(L.length:Int)≤limE x1) (hi:L[i]?=some s) {reg:Reg} (hr:RegI t.vars reg L) :
    (∃ st,rng (ρ:=Ctl XS XR) (fun (_:Nat) (a228:Suc) (s225:XI)=>exIn x1 (i:Int) a228 s225) ((appS t s).map (sucOf t s)) 0 (edgL t L i,reg)=some (.done st)∧st.1=edgL t (expL t s L t.ops.length) (i + 1)∧RegI t.vars st.2 (expL t s L t.ops.length)∧((expL t s L t.ops.length).length:Int)≤limE x1) ∨
    (rng (ρ:=Ctl XS XR) (fun (_:Nat) (a228:Suc) (s225:XI)=>exIn x1 (i:Int) a228 s225) ((appS t s).map (sucOf t s)) 0 (edgL t L i,reg)=some (.ret (.ret (none,⟨10⟩)))∧limE x1 < ((expL t s L t.ops.length).length:Int)):=by
  have hmem:=List.mem_of_getElem? hi
  have hsok:=hb.ok hs.ok hmem
  have hil:=AC hi
  have hf0:=hb.few hs
  have hap:(appS t s).map (sucOf t s)=(appN t s t.ops.length).map fun k:Nat=>(⟨(k:Int),sucN t s k⟩:Suc):=by
    rw [Hf hsok,Qt,List.map_map];rfl
  rw [hap]
  have hel:=HE t L i
  have hib:i * t.ops.length≤600 * 80:=Nat.mul_le_mul (by omega) hs.ops
  rcases Me (ρ:=Ctl XS XR) (f:=fun (_:Nat) (a228:Suc) (s225:XI)=>exIn x1 (i:Int) a228 s225) (xs:=(appN t s t.ops.length).map fun k:Nat=>(⟨(k:Int),sucN t s k⟩:Suc)) (s₀:=(edgL t L i,reg))
    (fun j y=>y.1=edgL t L i ++ edgK t (foldP t s L ((appN t s t.ops.length).take j)) s i ((appN t s t.ops.length).take j)∧RegI t.vars y.2 (foldP t s L ((appN t s t.ops.length).take j))∧((foldP t s L ((appN t s t.ops.length).take j)).length:Int)≤limE x1)
    (fun r=>r=.ret (none,⟨10⟩)∧limE x1 < ((expL t s L t.ops.length).length:Int))
    ⟨by simp [edgK],by simpa [foldP] using hr,by simpa [foldP] using hlim⟩ (fun j a y hj hI=>by
      obtain ⟨y1,y2,y3⟩:=hI
      obtain ⟨es,reg'⟩:=y
      dsimp only at y1 y2 y3
      rw [List.getElem?_map] at hj
      obtain ⟨k,hk,rfl⟩:=Option.map_eq_some_iff.1 hj
      obtain ⟨hka,hkl⟩:=GE (List.mem_of_getElem? hk)
      have hjl:=AC hk
      have hal:=Jz t s t.ops.length
      have hops:=hs.ops
      obtain ⟨A,hA⟩:=Em t s ((appN t s t.ops.length).take j) L
      have hB:BL t (foldP t s L ((appN t s t.ops.length).take j)):=hb.fold hmem fun q hq=>(GE (List.mem_of_mem_take hq)).1
      have hf:=hB.few hs
      obtain ⟨o,ho,hpre,hsu⟩:=FV hka
      have hsk:StateOk t.vars (sucN t s k):=by rw [hsu];exact Mf hs.ok hsok ho
      have hek:(edgK t (foldP t s L ((appN t s t.ops.length).take j)) s i ((appN t s t.ops.length).take j)).length≤j:=by unfold edgK;rw [List.length_map,List.length_take];omega
      have htk:(appN t s t.ops.length).take (j + 1)=(appN t s t.ops.length).take j ++ [k]:=by rw [List.take_add_one,hk];rfl
      have hlen:es.length≤60000:=by rw [y1,List.length_append];omega
      unfold exIn
      dsimp only
      rcases KI hs.ok.1 y2 hsk (by omega) with ⟨q,hq,hadd⟩|⟨hno,r',hadd,hr',hlk⟩
      · have hq2:=List.mem_of_getElem? hq
        rw [hadd,At,show Eb (⟨0⟩:Err) (⟨10⟩:Err)=some false from rfl,At]
        dsimp only
        rw [Dw,Dw,At,Dw,if_neg (by simp),CD (by rw [List.length_singleton];omega) (by rw [List.length_singleton];omega),At]
        have hput:foldP t s L ((appN t s t.ops.length).take (j + 1))=foldP t s L ((appN t s t.ops.length).take j):=by
          rw [htk,JX];unfold putL;rw [if_pos hq2]
        refine .inl ⟨_,rfl,?_,?_,?_⟩
        · dsimp only
          rw [hput,htk,y1,List.append_assoc,KK,Qu hB.nodup hq]
        · rw [hput];exact y2
        · rw [hput];exact y3
      · have hnm:¬ sucN t s k∈foldP t s L ((appN t s t.ops.length).take j):=fun hm=>by
          obtain ⟨q,hq⟩:=List.getElem?_of_mem hm
          exact hno q hq
        have hput:foldP t s L ((appN t s t.ops.length).take (j + 1))=foldP t s L ((appN t s t.ops.length).take j) ++ [sucN t s k]:=by
          rw [htk,JX];unfold putL;rw [if_neg hnm]
        rw [hadd,At,show Eb (⟨0⟩:Err) (⟨10⟩:Err)=some false from rfl,At]
        dsimp only
        rw [Dw,Es]
        by_cases hfull:max 0 (min x1 65536)≤((foldP t s L ((appN t s t.ops.length).take j)).length:Int)
        · rw [if_pos hfull,At,Es]
          refine .inr ⟨_,rfl,rfl,?_⟩
          have he:expL t s L t.ops.length=foldP t s (foldP t s L ((appN t s t.ops.length).take (j + 1))) ((appN t s t.ops.length).drop (j + 1)):=by
            rw [← NF,List.take_append_drop];rfl
          obtain ⟨B,hB2⟩:=Em t s ((appN t s t.ops.length).drop (j + 1)) (foldP t s L ((appN t s t.ops.length).take (j + 1)))
          rw [he,hB2,hput]
          unfold limE at *
          simp only [List.length_append,List.length_singleton]
          omega
        · rw [if_neg hfull,At,Dw,if_neg (by simp),CD (by rw [List.length_singleton];omega) (by rw [List.length_singleton];omega),At]
          refine .inl ⟨_,rfl,?_,?_,?_⟩
          · dsimp only
            rw [hput,htk,y1,List.append_assoc,KK,OC hnm,Lz fun q hq=>IB t s _ L q hq]
          · rw [hput];exact hr'
          · rw [hput];unfold limE at *;simp only [List.length_append,List.length_singleton];omega) with ⟨st,h1,h2,h3,h4⟩|⟨r,h1,h2,h3⟩
  · rw [List.length_map,List.take_length] at h2 h3 h4
    refine .inl ⟨st,h1,?_,h3,h4⟩
    obtain ⟨A,hA⟩:=Em t s (appN t s t.ops.length) L
    have e:expL t s L t.ops.length=L ++ A:=hA
    rw [h2,IC (s:=s) (by rw [e,List.getElem?_append_left hil];exact hi),e,OE (by omega) hcl,← hA]
  · rw [h2] at h1
    exact .inr ⟨h1,h3⟩
theorem LD {α β:Type} (f:α→β) (L:List α) {i:Nat} {s:α} (h:L[i]?=some s):(L.take (i + 1)).map f=(L.take i).map f ++ [f s]:=by rw [List.take_add_one,h,List.map_append];rfl
theorem Rh {t:Tsk} (hs:Mid t) {x1:Int} {i:Nat} {L:List (List Int)} {r:Option (List (List Int))} (h:Bx t (limE x1) i L r):BL t L→CloL t i L→i≤L.length→(L.length:Int)≤limE x1→∀ reg,RegI t.vars reg L→∃ x,bnd (lop (exF t x1 (some ⟨t⟩)) ((i:Int),edgL t L i,(L.take i).map (holdsB t.goal),reg)) (exE t)=some x∧outX t r x:=by
  induction h with
  | @full i L h1=>intro _ _ _ h2;omega
  | @done i L h1 h2 =>
    intro hb hc hil _ reg hr
    have hf:=hb.few hs
    obtain rfl:i=L.length:=by omega
    have hE:EndL t (limE x1) L:=⟨hb,hc,h1⟩
    have hlen:AW reg=some (L.length:Int):=by rw [← hr.len];rfl
    rw [Gy]
    unfold exF
    dsimp only
    rw [hlen,At,if_neg (by omega)]
    dsimp only
    rw [At]
    unfold exE
    rw [Db,List.take_length]
    have hl0:=AC hb.root
    obtain ⟨x,m1,m2,m3⟩:=MR hs.ok hf hl0 (x:=⟨⟨t.vars,t.init,t.goal,t.ops⟩,reg,edgL t L L.length,L.map (holdsB t.goal),[],[],[]⟩) rfl hr.len (hE.edges hs) (by simp)
    rw [m1,At]
    exact ⟨_,rfl,x,rfl,by rw [m2];exact hr,m3⟩
  | @step i L s r h1 h2 hx ih =>
    intro hb hc hil hlim reg hr
    have hf:=hb.few hs
    have hlt:=AC h2
    have hmem:=List.mem_of_getElem? h2
    have hsok:=hb.ok hs.ok hmem
    have hlen:AW reg=some (L.length:Int):=by rw [← hr.len];rfl
    have hg:(bnd (Da t.goal s) fun q163=>if q163=true then bnd (appI 1 ((L.take i).map (holdsB t.goal)) [true]) fun u195=>some u195 else bnd (appI 1 ((L.take i).map (holdsB t.goal)) [false]) fun u176=>some u176)=some ((L.take (i + 1)).map (holdsB t.goal)):=by
      rw [show Da t.goal s=some (holdsB t.goal s) from rfl,At,LD _ L h2]
      cases holdsB t.goal s with
      | true=>rw [Es,CD (by rw [List.length_map,List.length_take,List.length_singleton];omega) (by rw [List.length_map,List.length_take,List.length_singleton];omega),At]
      | false=>rw [Dw,CD (by rw [List.length_map,List.length_take,List.length_singleton];omega) (by rw [List.length_map,List.length_take,List.length_singleton];omega),At]
    rw [Gy]
    unfold exF
    dsimp only
    rw [hlen,At,if_pos (by omega),LU hs.ok.1 hr h2,At,if_neg (by simp)]
    dsimp only
    rw [hg,At,Pm hs.ok (by rw [hsok.1];have:=hs.ok.1;omega),At]
    rcases Qx hs hb hc hlim h2 hr with ⟨st,e1,e2,e3,e4⟩|⟨e1,e2⟩
    · rw [e1,At,Db,Dg (by unfold inI64;omega),At]
      dsimp only
      obtain ⟨A,hA⟩:=Em t s (appN t s t.ops.length) L
      have e:expL t s L t.ops.length=L ++ A:=hA
      have hb2:=hb.exp hmem t.ops.length
      have hc2:=hc.exp h2
      have:=ih hb2 hc2 (by rw [e,List.length_append];omega) e4 st.2 e3
      rw [e2]
      rw [e,List.take_append_of_le_length (by omega)] at this
      rw [e]
      exact this
    · rw [e1,At,QQ]
      dsimp only
      rw [At]
      cases hx with
      | full _=>exact ⟨_,rfl,rfl⟩
      | done h3 _=>omega
      | step h3 _ _=>omega
theorem MU {t:Tsk} (hs:Mid t) (lim:Int) {r:Option (List (List Int))} (h:Bx t (limE lim) 0 [t.init] r):∃ x,Ci t lim=some x∧outX t r x:=by
  have hok:=hs.ok
  obtain ⟨q,hq,reg,rfl,hr,hlk⟩:=NB hok.1 hok.2.2.1
  rw [Qw,Nn hok,At,if_neg (by simp),hq,At,if_neg (by simp)]
  dsimp only
  by_cases hl:limE lim < 1
  · unfold limE at hl
    rw [if_pos hl]
    cases h with
    | full _=>exact ⟨_,rfl,rfl⟩
    | done h3 _=>unfold limE at h3;simp at h3;omega
    | step h3 _ _=>unfold limE at h3;simp at h3;omega
  · have hl':=hl
    unfold limE at hl
    rw [if_neg hl,At]
    rcases KI hok.1 hr hok.2.2.2.1 (by simp) with ⟨i,hi,_⟩|⟨_,r',hadd,hr',_⟩
    · simp at hi
    · rw [hadd,At,if_neg (by simp),NE hok,At]
      exact Rh hs h (Hm t) (fun j s k hj=>by omega) (by simp) (by simp;omega) r' hr'
theorem LW {t:Tsk} (hs:SmallOk t) {lim:Int} (hl:512≤limE lim):∃ L x,Ci t lim=some (some x,⟨0⟩)∧SpX t L x∧EndL t (limE lim) L∧DB t lim=some (L,true):=by
  obtain ⟨r,y,h1,h2,h3⟩:=LC hs.mid lim
  obtain ⟨x,e1,e2⟩:=MU hs.mid lim h1
  have key:∀ {i:Nat} {L:List (List Int)} {r:Option (List (List Int))},Bx t (limE lim) i L r→BL t L→r≠none:=fun h=>by
    induction h with
    | @full i L h=>intro hb;have:=hb.many hs.ok;have:=hs.many;omega
    | done _ _=>intro _ h;cases h
    | @step i L s r _ h2 _ ih=>intro hb;exact ih (hb.exp (List.mem_of_getElem? h2) _)
  cases r with
  | none=>exact (key h1 (Hm t) rfl).elim
  | some L =>
    obtain ⟨s,rfl,hs2⟩:=e2
    refine ⟨L,s,e1,hs2,h1.ends (Hm t) (fun j s k hj=>by omega) L rfl,?_⟩
    rw [h2]
    exact congrArg some h3
end
section
open Go Go.RowKit
def Le {α:Type} (x y:Option α):Prop:=∀ r,x=some r→y=some r
theorem Le.rf {α:Type} {x:Option α}:Le x x:=fun _ h=>h
theorem Le.bnd {α β:Type} {x x':Option α} {f f':α→Option β} (h:Le x x') (hf:∀ a,Le (f a) (f' a)):Le (bnd x f) (bnd x' f'):=fun r hr=>by
  obtain ⟨a,ha,hb⟩:=bs hr
  rw [h a ha,At]
  exact hf a r hb
theorem Le.ite {α:Type} {p:Prop} [Decidable p] {x x' y y':Option α} (h:Le x x') (k:Le y y'):Le (if p then x else y) (if p then x' else y'):=by
  by_cases hp:p
  · rw [if_pos hp,if_pos hp];exact h
  · rw [if_neg hp,if_neg hp];exact k
theorem Le.fin {σ κ:Type} {y:Fin σ κ} {f f':σ→Option κ} (hf:∀ a,Le (f a) (f' a)):Le (fin y f) (fin y f'):=by
  cases y with
  | done s=>exact hf s
  | ret c=>exact Le.rf
theorem Le.rng {α σ ρ:Type} {f f':Nat→α→σ→Option (Ctl σ ρ)} (hf:∀ k a s,Le (f k a s) (f' k a s)):∀ {xs:List α} {k:Nat} {s:σ},Le (rng f xs k s) (rng f' xs k s)
  | [],_,_=>Le.rf
  | x :: xs,k,s=>fun r hr=>by
    simp only [Proofs.YtkbmbcblgdgjlaaGreat.rng] at hr ⊢
    cases hc:f k x s with
    | none=>rw [hc] at hr;cases hr
    | some c =>
      rw [hc] at hr
      rw [hf k x s c hc]
      cases c with
      | next s'=>exact Le.rng hf r hr
      | brk s'=>exact hr
      | ret q=>exact hr
theorem Le.rngN {σ ρ:Type} {f f':Nat→σ→Option (Ctl σ ρ)} {n:Nat} {s:σ} (hf:∀ k s,Le (f k s) (f' k s)):Le (rngN f n s) (rngN f' n s):=Le.rng fun _ k s=>hf k s
theorem Le.itr {σ ρ:Type} {f f':σ→Option (Ctl σ ρ)} (hf:∀ s,Le (f s) (f' s)):∀ (n:Nat) (s:σ),Le (itr f n s) (itr f' n s)
  | 0,_=>Le.rf
  | n + 1,s=>fun r hr=>by
    simp only [Proofs.YtkbmbcblgdgjlaaGreat.itr] at hr ⊢
    cases hc:f s with
    | none=>rw [hc] at hr;cases hr
    | some c =>
      rw [hc] at hr
      rw [hf s c hc]
      cases c with
      | next s'=>exact Le.itr hf n s' r hr
      | brk s'=>exact hr
      | ret q=>exact hr
def lopE {σ ρ:Type} (f:σ→Option (Ctl σ ρ)) (s:σ):Option (Fin σ ρ):=itr f 600 s
theorem Le.lop {σ ρ:Type} {f f':σ→Option (Ctl σ ρ)} {s:σ} (hf:∀ s,Le (f s) (f' s)):Le (lopE f s) (lop f' s):=fun r hr=>Hq.2 ⟨600,Le.itr hf 600 s r hr⟩
end
section
open Go Go.RowKit
def factB (vars:List Int) (x:Fct):Bool:=decide (0≤x.var) && (decide (0≤x.val) && (match vars[x.var.toNat]? with|some y=>decide (x.val < y)|none=>false))
theorem LE {vars:List Int} {x:Fct} (h:factB vars x=true):FactOk vars x:=by
  unfold factB at h
  simp only [Bool.and_eq_true,decide_eq_true_eq] at h
  obtain ⟨h1,h2,h3⟩:=h
  cases hv:vars[x.var.toNat]? with
  | none=>rw [hv] at h3;cases h3
  | some y=>rw [hv] at h3;exact ⟨h1,h2,y,hv,by simpa using h3⟩
def ascB:List Fct→Bool
  | x :: y :: r=>decide (x.var < y.var) && ascB (y :: r)
  | _=>true
theorem Mp:∀ {f:List Fct},ascB f=true→∀ (i:Nat) x y,f[i]?=some x→f[i + 1]?=some y→x.var < y.var
  | [],_,i,x,y,h,_=>by simp at h
  | [_],_,i,x,y,_,h=>by simp at h
  | a :: b :: r,h,i,x,y,h1,h2=>by
    simp only [ascB,Bool.and_eq_true,decide_eq_true_eq] at h
    cases i with
    | zero=>simp at h1 h2;subst h1;subst h2;exact h.1
    | succ i=>exact Mp h.2 i x y (by simpa using h1) (by simpa using h2)
def factsB (vars:List Int) (f:List Fct):Bool:=f.all (factB vars) && ascB f
theorem IE {vars:List Int} {f:List Fct} (h:factsB vars f=true):FactsOk vars f:=by
  unfold factsB at h
  rw [Bool.and_eq_true,List.all_eq_true] at h
  exact ⟨fun i x hx=>LE (h.1 x (List.mem_of_getElem? hx)),Mp h.2⟩
def stateB:List Int→List Int→Bool
  | [],[]=>true
  | y :: vars,x :: s=>decide (0≤x) && (decide (x < y) && stateB vars s)
  | _,_=>false
theorem IF:∀ {vars s:List Int},stateB vars s=true→StateOk vars s
  | [],[],_=>⟨rfl,fun i x y h=>by simp at h⟩
  | y :: vars,x :: s,h=>by
    simp only [stateB,Bool.and_eq_true,decide_eq_true_eq] at h
    obtain ⟨h1,h2⟩:=IF h.2.2
    refine ⟨by simp [h1],fun i a b ha hb=>?_⟩
    cases i with
    | zero=>simp at ha hb;subst ha;subst hb;exact ⟨h.1,h.2.1⟩
    | succ i=>exact h2 i a b (by simpa using ha) (by simpa using hb)
  | [],_ :: _,h=>by simp [stateB] at h
  | _ :: _,[],h=>by simp [stateB] at h
def nameB (s:ByteArray):Bool:=decide (s.size≤256) && s.data.toList.all fun c=>decide (32≤c.toNat) && decide (c.toNat≤126)
theorem OG {s:ByteArray} (h:nameB s=true):NameOk s:=by
  unfold nameB at h
  simp only [Bool.and_eq_true,decide_eq_true_eq,List.all_eq_true] at h
  refine ⟨h.1,fun i hi=>h.2 _ ?_⟩
  show s.data[i]∈_
  simp
def opB (vars:List Int) (o:Opr):Bool:=decide (0≤o.cost) && (decide (o.cost≤1048576) && (decide (o.effs.length≤64) && (nameB o.name && (factsB vars o.pre && o.effs.all fun e=>factsB vars e.cond && factB vars ⟨e.var,e.val⟩))))
theorem Qy {vars:List Int} {o:Opr} (h:opB vars o=true):OpOk vars o:=by
  unfold opB at h
  simp only [Bool.and_eq_true,decide_eq_true_eq,List.all_eq_true] at h
  obtain ⟨h1,h2,h3,h4,h5,h6⟩:=h
  exact ⟨h1,h2,h3,OG h4,IE h5,fun i e he=>⟨IE (h6 e (List.mem_of_getElem? he)).1,LE (h6 e (List.mem_of_getElem? he)).2⟩⟩
def taskB (t:Tsk):Bool:=decide (t.vars.length≤64) && (decide (t.ops.length≤4096) && ((t.vars.all fun n=>decide (1≤n) && decide (n≤64)) && (stateB t.vars t.init && (factsB t.vars t.goal && t.ops.all (opB t.vars)))))
theorem OH {t:Tsk} (h:taskB t=true):TaskOk t:=by
  unfold taskB at h
  simp only [Bool.and_eq_true,decide_eq_true_eq,List.all_eq_true] at h
  obtain ⟨h1,h2,h3,h4,h5,h6⟩:=h
  exact ⟨h1,h2,fun i n hn=>h3 n (List.mem_of_getElem? hn),IF h4,IE h5,fun i o ho=>Qy (h6 o (List.mem_of_getElem? ho))⟩
def GF (f:List Fct) (s:List Int):Option Bool:=Da f s
theorem HR (f:List Fct) (s:List Int):Le (GF f s) (Da f s):=Le.rf
def Dj (x:List Int):Option (List Int):=BH x
theorem EL (x:List Int):Le (Dj x) (BH x):=Le.rf
end
section
open Go Go.RowKit
set_option maxRecDepth 20000
attribute [local irreducible] bnd fin rng rngN chkI mkI appI atI quoI Bd BH BN
def Ec (x:List U64):Option (List U64):=BN x
theorem FB (x:List U64):Le (Ec x) (BN x):=Le.rf
def Co (x:List Fct):Option (List Fct):=Bd x
theorem EY (x:List Fct):Le (Co x) (Bd x):=Le.rf
def Gc (x:List (List Arc)) (y z:List Int):Option (List Int×List Int):=Dr x y z
theorem IG (x:List (List Arc)) (y z:List Int):Le (Gc x y z) (Dr x y z):=Le.rf
def Jg (x y:Err):Option Bool:=Eb x y
theorem LF (x y:Err):Le (Jg x y) (Eb x y):=Le.rf
def HS (t:Tsk):Option (Option Gnr×Err):=if taskB t=true then some (some ⟨t⟩,⟨0⟩) else none
theorem Kp (t:Tsk):Le (HS t) (DP t):=fun r h=>by
  obtain ⟨h1,rfl⟩:=DX h
  exact Nn (OH h1)
def De (x:Option Gnr) (s:List Int):Option (List Int):=match x with
  | some g=>if stateB g.t.vars s=true then (if s.length≤1000000 then some (appl g.t s) else none) else none
  | none=>none
theorem Fo (x:Option Gnr) (s:List Int):Le (De x s) (Cb x s):=fun r h=>by
  cases x with
  | none=>cases h
  | some g =>
    unfold De at h
    dsimp only at h
    split at h
    · rename_i h1
      obtain ⟨h3,rfl⟩:=DX h
      unfold Cb
      rw [if_pos h3]
      show some (appS g.t s)=_
      rw [Hf (IF h1)]
    · cases h
noncomputable def HF (x0:List Int):Option ((Option Pkr)×Err) :=
  if 64 < (x0.length:Int) then (some (none,(⟨5⟩:Err))) else (bnd (rng (ρ:=(Option Pkr)×Err) (fun (k25:Nat) (a26:Int) (s23:Int×Pkr)=>bnd (if a26 < 1 then (some true) else (if 64 < a26 then (some true) else (some false)):Option Bool) fun y48=>if y48=true then (some (.ret (none,(⟨1⟩:Err)))) else (bnd (lopE (ρ:=Ctl (Int×Pkr) ((Option Pkr)×Err)) (fun (s61:Int)=>bnd (shlI 1 s61) fun n76=>if n76 < a26 then (bnd (chkI (s61 + 1)) fun n80=>some (.next n80)) else (some (.brk s61))) 0) fun res59=>fin res59 fun (s87:Int)=>bnd (bnd (chkI (s23.1 + s87)) fun n95=>if 64 < n95 then (bnd (chkI (s23.2.words + 1)) fun n109=>some (0,(⟨s23.2.fields,n109⟩:Pkr))) else (some (s23.1,s23.2)):Option (Int×Pkr)) fun y89=>bnd (chkI (y89.2.words - 1)) fun n133=>bnd (appI 32 y89.2.fields [(⟨n133,y89.1,s87,a26⟩:PFd)]) fun u142=>bnd (chkI (y89.1 + s87)) fun n155=>some (.next (n155,(⟨u142,y89.2.words⟩:Pkr))))) x0 0 (0,(⟨([]:List PFd),1⟩:Pkr))) fun res21=>fin res21 fun (s167:Int×Pkr)=>some ((some s167.2),(⟨0⟩:Err)))
theorem LX (x0:List Int):Le (HF x0) (Eu x0):=by
  unfold HF Eu
  repeat' (first|apply Le.ite|apply Le.bnd|apply Le.fin|apply Le.rng|apply Le.rngN|apply Le.lop|exact Le.rf|intro _)
noncomputable def Ed (x0:PFd):Option U64 :=
  bnd (shlU (1:U64) x0.width) fun n12=>bnd (shlU (n12 - (1:U64)) x0.bit) fun n14=>some n14
theorem FW (x0:PFd):Le (Ed x0) (Cu x0):=by
  unfold Ed Cu
  repeat' (first|apply Le.ite|apply Le.bnd|apply Le.fin|apply Le.rng|apply Le.rngN|apply Le.lop|exact Le.rf|intro _)
noncomputable def Fh (x0:PFd) (x1:List U64):Option Int :=
  bnd (atI x1 x0.word) fun a15=>bnd (Ed x0) fun q26=>bnd (shrU (a15 &&& q26) x0.bit) fun n33=>some n33.toInt
theorem IW (x0:PFd) (x1:List U64):Le (Fh x0 x1) (CR x0 x1):=by
  unfold Fh CR
  repeat' (first|apply FW|apply Le.ite|apply Le.bnd|apply Le.fin|apply Le.rng|apply Le.rngN|apply Le.lop|exact Le.rf|intro _)
noncomputable def EM (x0:Pkr) (x1:List Int):Option ((List U64)×Err) :=
  if (x1.length:Int)≠(x0.fields.length:Int) then (some (([]:List U64),(⟨2⟩:Err))) else (bnd (mkI 8 ((0:U64):U64) x0.words) fun u25=>bnd (rng (ρ:=(List U64)×Err) (fun (k50:Nat) (a51:PFd) (s48:(List U64))=>bnd (bnd (x1[k50]?) fun a87=>if a87 < 0 then (some true) else (bnd (x1[k50]?) fun a98=>if a51.size≤a98 then (some true) else (some false)):Option Bool) fun y83=>if y83=true then (some (.ret (([]:List U64),(⟨2⟩:Err)))) else (bnd (atI s48 a51.word) fun a114=>bnd (x1[k50]?) fun a125=>bnd (shlU (BitVec.ofInt 64 a125) a51.bit) fun n135=>bnd (atI s48 a51.word) fun a137=>some (.next (s48.set (a51.word:Int).toNat (a114 ||| n135))))) x0.fields 0 u25) fun res46=>fin res46 fun (s154:(List U64))=>some (s154,(⟨0⟩:Err)))
theorem HX (x0:Pkr) (x1:List Int):Le (EM x0 x1) (By x0 x1):=by
  unfold EM By
  repeat' (first|apply Le.ite|apply Le.bnd|apply Le.fin|apply Le.rng|apply Le.rngN|apply Le.lop|exact Le.rf|intro _)
noncomputable def Ew (x0:Pkr) (x1:List U64):Option ((List Int)×Err) :=
  if (x1.length:Int)≠x0.words then (some (([]:List Int),(⟨2⟩:Err))) else (bnd (mkI 8 (0:Int) (x0.fields.length:Int)) fun u25=>bnd (Ec x1) fun q38=>bnd (rng (ρ:=(List Int)×Err) (fun (k60:Nat) (a61:PFd) (s58:(List Int)×(List U64))=>bnd (Fh a61 x1) fun q97=>bnd (s58.1[k60]?) fun a105=>bnd ((s58.1.set k60 q97)[k60]?) fun a117=>if a61.size≤a117 then (some (.ret (([]:List Int),(⟨2⟩:Err)))) else (bnd (atI s58.2 a61.word) fun a128=>bnd (Ed a61) fun q139=>bnd (atI s58.2 a61.word) fun a146=>some (.next ((s58.1.set k60 q97),(s58.2.set (a61.word:Int).toNat (a128 &&& ~~~q139)))))) x0.fields 0 (u25,q38)) fun res56=>fin res56 fun (s163:(List Int)×(List U64))=>bnd (rng (ρ:=(List Int)×Err) (fun (k171:Nat) (a172:U64) (s169:Unit)=>bnd (s163.2[k171]?) fun a182=>if (a182.toNat:Int)≠((0:U64).toNat:Int) then (some (.ret (([]:List Int),(⟨2⟩:Err)))) else (some (.next ()))) q38 0 ()) fun res167=>fin res167 fun (s196:Unit)=>some (s163.1,(⟨0⟩:Err)))
theorem Hn (x0:Pkr) (x1:List U64):Le (Ew x0 x1) (Cs x0 x1):=by
  unfold Ew Cs
  repeat' (first|apply IW|apply FW|apply FB|apply Le.ite|apply Le.bnd|apply Le.fin|apply Le.rng|apply Le.rngN|apply Le.lop|exact Le.rf|intro _)
noncomputable def EN (x0:Pkr) (x1:List U64):Option Int :=
  bnd (rng (ρ:=Int) (fun (k13:Nat) (a14:U64) (s11:U64)=>bnd (shrU ((s11 ^^^ a14) * (13787848793156543929:U64)) 29) fun n31=>some (.next (((s11 ^^^ a14) * (13787848793156543929:U64)) ^^^ n31))) x1 0 ((BitVec.ofInt 64 (x1.length:Int)) + (11400714819323198485:U64))) fun res9=>fin res9 fun (s37:U64)=>bnd (shrU s37 2) fun n39=>some n39.toInt
theorem HY (x0:Pkr) (x1:List U64):Le (EN x0 x1) (BP x0 x1):=by
  unfold EN BP
  repeat' (first|apply Le.ite|apply Le.bnd|apply Le.fin|apply Le.rng|apply Le.rngN|apply Le.lop|exact Le.rf|intro _)
noncomputable def Dh (x0:List U64) (x1:List U64):Option Bool :=
  if (x0.length:Int)≠(x1.length:Int) then (some false) else (bnd (rng (ρ:=Bool) (fun (k18:Nat) (a19:U64) (s16:Unit)=>bnd (x1[k18]?) fun a36=>if (a19.toNat:Int)≠(a36.toNat:Int) then (some (.ret false)) else (some (.next ()))) x0 0 ()) fun res14=>fin res14 fun (s50:Unit)=>some true)
theorem FC (x0:List U64) (x1:List U64):Le (Dh x0 x1) (Bu x0 x1):=by
  unfold Dh Bu
  repeat' (first|apply Le.ite|apply Le.bnd|apply Le.fin|apply Le.rng|apply Le.rngN|apply Le.lop|exact Le.rf|intro _)
noncomputable def FL (x0:List Int):Option ((Option Reg)×Err) :=
  bnd (HF x0) fun q4=>if q4.2.n≠0 then (some (none,(⟨q4.2.n⟩:Err))) else (bnd q4.1 fun o22=>some ((some (⟨o22,([]:List REn),(⟨[]⟩:MapR 3 Int Int)⟩:Reg)),(⟨0⟩:Err)))
theorem JY (x0:List Int):Le (FL x0) (CS x0):=by
  unfold FL CS
  repeat' (first|apply LX|apply Le.ite|apply Le.bnd|apply Le.fin|apply Le.rng|apply Le.rngN|apply Le.lop|exact Le.rf|intro _)
noncomputable def DH (x0:Reg) (x1:List Int):Option ((List U64)×Int×Int×Err) :=
  bnd (EM x0.packer x1) fun q20=>if q20.2.n≠0 then (some (([]:List U64),0,(-1),(⟨2⟩:Err))) else (bnd (EN x0.packer q20.1) fun q41=>bnd (rng (ρ:=(List U64)×Int×Int×Err) (fun (k66:Nat) (a67:Int) (s64:Unit)=>bnd (atI x0.entries a67) fun a100=>bnd (Dh a100.words q20.1) fun q118=>if q118=true then some (.ret (q20.1,q41,a67,(⟨0⟩:Err))) else some (.next ())) (mget ([]:List Int) x0.table.l q41) 0 ()) fun res62=>fin res62 fun (s139:Unit)=>some (q20.1,q41,(-1),(⟨0⟩:Err)))
theorem Gl (x0:Reg) (x1:List Int):Le (DH x0 x1) (Bq x0 x1):=by
  unfold DH Bq
  repeat' (first|apply HY|apply HX|apply FC|apply Le.ite|apply Le.bnd|apply Le.fin|apply Le.rng|apply Le.rngN|apply Le.lop|exact Le.rf|intro _)
noncomputable def Dk (x0:Reg) (x1:List Int):Option (Int×Bool×Err×Reg) :=
  bnd (DH x0 x1) fun q5=>if q5.2.2.2.n≠0 then (some (0,false,(⟨q5.2.2.2.n⟩:Err),x0)) else (if 0≤q5.2.2.1 then (some (q5.2.2.1,false,(⟨0⟩:Err),x0)) else (if 65536≤(x0.entries.length:Int) then (some (0,false,(⟨10⟩:Err),x0)) else (bnd (appI 48 x0.entries [(⟨q5.1,(⟨(-1),(-1),0⟩:RLk)⟩:REn)]) fun u53=>bnd (appI 8 (mget ([]:List Int) x0.table.l q5.2.1) ([(x0.entries.length:Int)]:List Int)) fun u82=>some ((x0.entries.length:Int),true,(⟨0⟩:Err),(⟨x0.packer,u53,(⟨mput x0.table.l q5.2.1 u82⟩:MapR 3 Int Int)⟩:Reg)))))
theorem GG (x0:Reg) (x1:List Int):Le (Dk x0 x1) (Bh x0 x1):=by
  unfold Dk Bh
  repeat' (first|apply Gl|apply Le.ite|apply Le.bnd|apply Le.fin|apply Le.rng|apply Le.rngN|apply Le.lop|exact Le.rf|intro _)
noncomputable def CE (x0:Reg):Option Int :=
  some (x0.entries.length:Int)
theorem DI (x0:Reg):Le (CE x0) (AW x0):=by
  unfold CE AW
  repeat' (first|apply Le.ite|apply Le.bnd|apply Le.fin|apply Le.rng|apply Le.rngN|apply Le.lop|exact Le.rf|intro _)
noncomputable def DN (x0:Reg) (x1:Int):Option Bool :=
  bnd (if 0≤x1 then (if x1 < (x0.entries.length:Int) then (some true) else (some false)) else (some false):Option Bool) fun y3=>some y3
theorem GH (x0:Reg) (x1:Int):Le (DN x0 x1) (BY x0 x1):=by
  unfold DN BY
  repeat' (first|apply Le.ite|apply Le.bnd|apply Le.fin|apply Le.rng|apply Le.rngN|apply Le.lop|exact Le.rf|intro _)
noncomputable def Dz (x0:Reg) (x1:Int):Option ((List Int)×Err) :=
  bnd (DN x0 x1) fun q3=>if q3=true then bnd (atI x0.entries x1) fun a27=>bnd (Ew x0.packer a27.words) fun q45=>some (q45.1,(⟨q45.2.n⟩:Err)) else some (([]:List Int),(⟨1⟩:Err))
theorem FZ (x0:Reg) (x1:Int):Le (Dz x0 x1) (Bw x0 x1):=by
  unfold Dz Bw
  repeat' (first|apply Hn|apply GH|apply Le.ite|apply Le.bnd|apply Le.fin|apply Le.rng|apply Le.rngN|apply Le.lop|exact Le.rf|intro _)
noncomputable def Df (x0:Option Gnr) (x1:List Int):Option (List Suc) :=
  bnd (De x0 x1) fun q7=>bnd (rng (ρ:=(List Suc)) (fun (k23:Nat) (a24:Int) (s21:(List Suc))=>bnd (Dj x1) fun q46=>bnd (x0) fun o56=>bnd (atI o56.t.ops a24) fun a88=>bnd (rng (ρ:=Ctl (List Suc) (List Suc)) (fun (k115:Nat) (a116:Eff) (s113:(List Int))=>bnd (GF a116.cond x1) fun q150=>if q150=true then bnd (atI s113 a116.var) fun a157=>some (.next (s113.set (a116.var:Int).toNat a116.val)) else some (.next s113)) a88.effs 0 q46) fun res111=>fin res111 fun (s175:(List Int))=>bnd (appI 32 s21 [(⟨a24,s175⟩:Suc)]) fun u179=>some (.next u179)) q7 0 ([]:List Suc)) fun res19=>fin res19 fun (s195:(List Suc))=>some s195
theorem Fp (x0:Option Gnr) (x1:List Int):Le (Df x0 x1) (Bj x0 x1):=by
  unfold Df Bj
  repeat' (first|apply EL|apply Fo|apply HR|apply Le.ite|apply Le.bnd|apply Le.fin|apply Le.rng|apply Le.rngN|apply Le.lop|exact Le.rf|intro _)
noncomputable def GI  : Option (Option Que) :=
  some (some (⟨([]:List QEn),0⟩:Que))
theorem KP  : Le (GI ) (DG ):=by
  unfold GI DG
  repeat' (first|apply Le.ite|apply Le.bnd|apply Le.fin|apply Le.rng|apply Le.rngN|apply Le.lop|exact Le.rf|intro _)
noncomputable def DU (x0:QEn) (x1:QEn):Option Bool :=
  if x0.key≠x1.key then (bnd (if x0.key < x1.key then (some true) else (some false):Option Bool) fun y24=>some y24) else (if x0.tie≠x1.tie then (bnd (if x0.tie < x1.tie then (some true) else (some false):Option Bool) fun y34=>some y34) else (bnd (if x0.number < x1.number then (some true) else (some false):Option Bool) fun y43=>some y43))
theorem GJ (x0:QEn) (x1:QEn):Le (DU x0 x1) (BS x0 x1):=by
  unfold DU BS
  repeat' (first|apply Le.ite|apply Le.bnd|apply Le.fin|apply Le.rng|apply Le.rngN|apply Le.lop|exact Le.rf|intro _)
noncomputable def EO (x0:Que):Option Int :=
  some (x0.heap.length:Int)
theorem HZ (x0:Que):Le (EO x0) (CB x0):=by
  unfold EO CB
  repeat' (first|apply Le.ite|apply Le.bnd|apply Le.fin|apply Le.rng|apply Le.rngN|apply Le.lop|exact Le.rf|intro _)
noncomputable def EG (x0:Que):Option (Int×Int×Int×Err) :=
  if (x0.heap.length:Int)=0 then (some (0,0,0,(⟨3⟩:Err))) else (bnd (atI x0.heap 0) fun a20=>some (a20.key,a20.tie,a20.item,(⟨0⟩:Err)))
theorem HG (x0:Que):Le (EG x0) (CK x0):=by
  unfold EG CK
  repeat' (first|apply Le.ite|apply Le.bnd|apply Le.fin|apply Le.rng|apply Le.rngN|apply Le.lop|exact Le.rf|intro _)
noncomputable def EZ (x0:Que) (x1:Int):Option Que :=
  bnd (lopE (ρ:=Que) (fun (s5:Int×Que)=>if 0 < s5.1 then (bnd (chkI (s5.1 - 1)) fun n23=>bnd (quoI n23 2) fun n26=>bnd (atI s5.2.heap s5.1) fun a39=>bnd (atI s5.2.heap n26) fun a54=>bnd (DU a39 a54) fun q69=>if q69=true then bnd (atI s5.2.heap n26) fun a81=>bnd (atI s5.2.heap s5.1) fun a96=>bnd (atI s5.2.heap s5.1) fun a111=>bnd (atI (s5.2.heap.set (s5.1:Int).toNat a81) n26) fun a128=>some (.next (n26,(⟨((s5.2.heap.set (s5.1:Int).toNat a81).set (n26:Int).toNat a96),s5.2.next⟩:Que))) else some (.ret s5.2)) else (some (.brk (s5.1,s5.2)))) (x1,x0)) fun res3=>fin res3 fun (s154:Int×Que)=>some s154.2
theorem IH (x0:Que) (x1:Int):Le (EZ x0 x1) (CI x0 x1):=by
  unfold EZ CI
  repeat' (first|apply GJ|apply Le.ite|apply Le.bnd|apply Le.fin|apply Le.rng|apply Le.rngN|apply Le.lop|exact Le.rf|intro _)
noncomputable def EH (x0:Que) (x1:Int):Option Que :=
  bnd (lopE (ρ:=Que) (fun (s5:Int×Que)=>bnd (chkI (2 * s5.1)) fun n22=>bnd (chkI (n22 + 1)) fun n25=>if (s5.2.heap.length:Int)≤n25 then (some (.ret s5.2)) else (bnd (bnd (bnd (chkI (n25 + 1)) fun n55=>if n55 < (s5.2.heap.length:Int) then (bnd (chkI (n25 + 1)) fun n61=>bnd (atI s5.2.heap n61) fun a64=>bnd (atI s5.2.heap n25) fun a79=>bnd (DU a64 a79) fun q94=>if q94=true then some true else some false) else (some false):Option Bool) fun y51=>if y51=true then (bnd (chkI (n25 + 1)) fun n121=>some n121) else (some n25):Option Int) fun y46=>bnd (atI s5.2.heap y46) fun a138=>bnd (atI s5.2.heap s5.1) fun a153=>bnd (DU a138 a153) fun q168=>if q168=true then bnd (atI s5.2.heap y46) fun a180=>bnd (atI s5.2.heap s5.1) fun a195=>bnd (atI s5.2.heap s5.1) fun a210=>bnd (atI (s5.2.heap.set (s5.1:Int).toNat a180) y46) fun a227=>some (.next (y46,(⟨((s5.2.heap.set (s5.1:Int).toNat a180).set (y46:Int).toNat a195),s5.2.next⟩:Que))) else some (.ret s5.2))) (x1,x0)) fun res3=>fin res3 fun (_:Int×Que)=>none
theorem HH (x0:Que) (x1:Int):Le (EH x0 x1) (Cw x0 x1):=by
  unfold EH Cw
  repeat' (first|apply GJ|apply Le.ite|apply Le.bnd|apply Le.fin|apply Le.rng|apply Le.rngN|apply Le.lop|exact Le.rf|intro _)
noncomputable def DK (x0:Que) (x1:Int) (x2:Int) (x3:Int):Option (Err×Que) :=
  if 65536≤(x0.heap.length:Int) then (some ((⟨10⟩:Err),x0)) else (bnd (appI 32 x0.heap [(⟨x1,x2,x3,x0.next⟩:QEn)]) fun u29=>bnd (chkI (x0.next + 1)) fun n42=>bnd (chkI ((u29.length:Int) - 1)) fun n49=>bnd (EZ (⟨u29,n42⟩:Que) n49) fun q57=>some ((⟨0⟩:Err),q57))
theorem HI (x0:Que) (x1:Int) (x2:Int) (x3:Int):Le (DK x0 x1 x2 x3) (BD x0 x1 x2 x3):=by
  unfold DK BD
  repeat' (first|apply IH|apply Le.ite|apply Le.bnd|apply Le.fin|apply Le.rng|apply Le.rngN|apply Le.lop|exact Le.rf|intro _)
noncomputable def EP (x0:Que):Option (Int×Int×Int×Err×Que) :=
  bnd (EG x0) fun q2=>if q2.2.2.2.n≠0 then (some (0,0,0,(⟨q2.2.2.2.n⟩:Err),x0)) else (bnd (chkI ((x0.heap.length:Int) - 1)) fun n35=>bnd (atI x0.heap n35) fun a38=>bnd (atI x0.heap 0) fun a53=>bnd (cutI (x0.heap.set (0:Int).toNat a38) 0 n35) fun u70=>bnd (EH (⟨u70,x0.next⟩:Que) 0) fun q82=>some (q2.1,q2.2.1,q2.2.2.1,(⟨0⟩:Err),q82))
theorem Ia (x0:Que):Le (EP x0) (Cp x0):=by
  unfold EP Cp
  repeat' (first|apply HG|apply HH|apply Le.ite|apply Le.bnd|apply Le.fin|apply Le.rng|apply Le.rngN|apply Le.lop|exact Le.rf|intro _)
noncomputable def Fi (x0:Tsk):Option Tsk :=
  bnd (Dj x0.vars) fun q29=>bnd (Dj x0.init) fun q31=>bnd (Co x0.goal) fun q33=>bnd (some (q29,q31,q33):Option ((List Int)×(List Int)×(List Fct))) fun y35=>bnd (rng (ρ:=Tsk) (fun (k156:Nat) (a157:Opr) (s154:(List Opr))=>bnd (Co a157.pre) fun q195=>bnd (rng (ρ:=Ctl (List Opr) Tsk) (fun (k213:Nat) (a214:Eff) (s211:(List Eff))=>bnd (Co a214.cond) fun q248=>bnd (appI 40 s211 [(⟨q248,a214.var,a214.val⟩:Eff)]) fun u262=>some (.next u262)) a157.effs 0 ([]:List Eff)) fun res209=>fin res209 fun (s278:(List Eff))=>bnd (appI 72 s154 [(⟨a157.name,a157.cost,q195,s278⟩:Opr)]) fun u286=>some (.next u286)) x0.ops 0 ([]:List Opr)) fun res152=>fin res152 fun (s304:(List Opr))=>some (⟨y35.1,y35.2.1,y35.2.2,s304⟩:Tsk)
theorem IX (x0:Tsk):Le (Fi x0) (CC x0):=by
  unfold Fi CC
  repeat' (first|apply EY|apply EL|apply Le.ite|apply Le.bnd|apply Le.fin|apply Le.rng|apply Le.rngN|apply Le.lop|exact Le.rf|intro _)
noncomputable def DV (x0:List (List Arc)) (x1:List Int):Option ((List Int)×(List Int)) :=
  bnd (mkI 8 (0:Int) (x0.length:Int)) fun u7=>bnd (mkI 8 (0:Int) (x0.length:Int)) fun u9=>bnd (some (u7,u9):Option ((List Int)×(List Int))) fun y11=>bnd (rngN (ρ:=(List Int)×(List Int)) (fun (k77:Nat) (s75:(List Int)×(List Int))=>bnd (s75.1[k77]?) fun a104=>bnd (s75.2[k77]?) fun a116=>some (.next ((s75.1.set k77 1125899906842624),(s75.2.set k77 1125899906842624)))) y11.1.length (y11.1,y11.2)) fun res73=>fin res73 fun (s132:(List Int)×(List Int))=>bnd (GI) fun q134=>bnd q134 fun o144=>bnd (rng (ρ:=(List Int)×(List Int)) (fun (k151:Nat) (a152:Int) (s149:(List Int)×(List Int)×Que)=>bnd (atI s149.1 a152) fun a180=>bnd (atI s149.2.1 a152) fun a194=>bnd (DK s149.2.2 0 0 a152) fun q208=>some (.next ((s149.1.set (a152:Int).toNat 0),(s149.2.1.set (a152:Int).toNat 0),q208.2))) x1 0 (s132.1,s132.2,o144)) fun res147=>fin res147 fun (s222:(List Int)×(List Int)×Que)=>bnd (lopE (ρ:=(List Int)×(List Int)) (fun (s226:(List Int)×(List Int)×Que)=>bnd (EO s226.2.2) fun q249=>if 0 < q249 then (bnd (EP s226.2.2) fun q260=>if q260.2.2.2.1.n≠0 then (some (.brk (s226.1,s226.2.1,q260.2.2.2.2))) else (bnd (bnd (atI s226.1 q260.2.2.1) fun a285=>if q260.1≠a285 then (some true) else (bnd (atI s226.2.1 q260.2.2.1) fun a298=>if q260.2.1≠a298 then (some true) else (some false)):Option Bool) fun y281=>if y281=true then (some (.next (s226.1,s226.2.1,q260.2.2.2.2))) else (bnd (atI x0 q260.2.2.1) fun a316=>bnd (rng (ρ:=Ctl ((List Int)×(List Int)×Que) ((List Int)×(List Int))) (fun (k337:Nat) (a338:Arc) (s335:(List Int)×(List Int)×Que)=>bnd (chkI (q260.1 + a338.weight)) fun n375=>bnd (chkI (q260.2.1 + 1)) fun n378=>bnd (bnd (atI s335.1 a338.dst) fun a385=>if a385 < n375 then (some true) else (bnd (atI s335.1 a338.dst) fun a398=>if n375=a398 then (bnd (atI s335.2.1 a338.dst) fun a411=>if a411≤n378 then (some true) else (some false)) else (some false)):Option Bool) fun y381=>if y381=true then (some (.next (s335.1,s335.2.1,s335.2.2))) else (bnd (atI s335.1 a338.dst) fun a429=>bnd (atI s335.2.1 a338.dst) fun a443=>bnd (DK s335.2.2 n375 n378 a338.dst) fun q457=>if q457.1.n≠0 then (bnd (Gc x0 (s335.1.set (a338.dst:Int).toNat n375) (s335.2.1.set (a338.dst:Int).toNat n378)) fun q472=>some (.ret (.ret (q472.1,q472.2)))) else (some (.next ((s335.1.set (a338.dst:Int).toNat n375),(s335.2.1.set (a338.dst:Int).toNat n378),q457.2))))) a316 0 (s226.1,s226.2.1,q260.2.2.2.2)) fun res333=>fin res333 fun (s491:(List Int)×(List Int)×Que)=>some (.next (s491.1,s491.2.1,s491.2.2))))) else (some (.brk (s226.1,s226.2.1,s226.2.2)))) (s222.1,s222.2.1,s222.2.2)) fun res224=>fin res224 fun (s497:(List Int)×(List Int)×Que)=>some (s497.1,s497.2.1)
theorem Ib (x0:List (List Arc)) (x1:List Int):Le (DV x0 x1) (BQ x0 x1):=by
  unfold DV BQ
  repeat' (first|apply IG|apply KP|apply HZ|apply Ia|apply HI|apply Le.ite|apply Le.bnd|apply Le.fin|apply Le.rng|apply Le.rngN|apply Le.lop|exact Le.rf|intro _)
noncomputable def DO (x0:Spa):Option Spa :=
  bnd (CE x0.states) fun q45=>bnd (mkI 24 ([]:List Arc) q45) fun u55=>bnd (mkI 24 ([]:List Arc) q45) fun u57=>bnd (some (u55,u57):Option ((List (List Arc))×(List (List Arc)))) fun y59=>bnd (rng (ρ:=Spa) (fun (k179:Nat) (a180:Edj) (s177:(List (List Arc))×(List (List Arc)))=>bnd (atI x0.t.ops a180.label) fun a258=>bnd (atI s177.1 a180.src) fun a279=>bnd (appI 24 a279 [(⟨a180.src,a180.dst,a258.cost⟩:Arc)]) fun u304=>bnd (atI s177.1 a180.src) fun a315=>bnd (atI s177.2 a180.dst) fun a330=>bnd (appI 24 a330 [(⟨a180.dst,a180.src,a258.cost⟩:Arc)]) fun u355=>bnd (atI s177.2 a180.dst) fun a366=>some (.next ((s177.1.set (a180.src:Int).toNat u304),(s177.2.set (a180.dst:Int).toNat u355)))) x0.edges 0 (y59.1,y59.2)) fun res175=>fin res175 fun (s390:(List (List Arc))×(List (List Arc)))=>bnd (rng (ρ:=Spa) (fun (k446:Nat) (a447:Bool) (s444:(List Int))=>if a447=true then (bnd (appI 8 s444 [(k446:Int)]) fun u469=>some (.next u469)) else (some (.next s444))) x0.goals 0 ([]:List Int)) fun res442=>fin res442 fun (s485:(List Int))=>bnd (DV s390.1 ([0]:List Int)) fun q497=>bnd (DV s390.2 s485) fun q561=>some (⟨(⟨x0.t.vars,x0.t.init,x0.t.goal,x0.t.ops⟩:Tsk),x0.states,x0.edges,x0.goals,q497.1,q561.1,q561.2⟩:Spa)
theorem GK (x0:Spa):Le (DO x0) (BI x0):=by
  unfold DO BI
  repeat' (first|apply Ib|apply DI|apply Le.ite|apply Le.bnd|apply Le.fin|apply Le.rng|apply Le.rngN|apply Le.lop|exact Le.rf|intro _)
noncomputable def Fa (x0:Tsk) (x1:Int):Option ((Option Spa)×Err) :=
  bnd (HS x0) fun q25=>if q25.2.n≠0 then (some (none,(⟨q25.2.n⟩:Err))) else (bnd (FL x0.vars) fun q40=>if q40.2.n≠0 then (some (none,(⟨q40.2.n⟩:Err))) else (if (max 0 (min x1 65536)) < 1 then (some (none,(⟨10⟩:Err))) else (bnd q40.1 fun o54=>bnd (Dk o54 x0.init) fun q57=>if q57.2.2.1.n≠0 then (some (none,(⟨q57.2.2.1.n⟩:Err))) else (bnd (Fi x0) fun q74=>bnd (lopE (ρ:=(Option Spa)×Err) (fun (s105:Int×(List Edj)×(List Bool)×Reg)=>bnd (CE s105.2.2.2) fun q130=>if s105.1 < q130 then (bnd (Dz s105.2.2.2 s105.1) fun q141=>if q141.2.n≠0 then (some (.ret (none,(⟨q141.2.n⟩:Err)))) else (bnd (bnd (GF x0.goal q141.1) fun q163=>if q163=true then bnd (appI 1 s105.2.2.1 [true]) fun u195=>some u195 else bnd (appI 1 s105.2.2.1 [false]) fun u176=>some u176:Option (List Bool)) fun y157=>bnd (Df q25.1 q141.1) fun q212=>bnd (rng (ρ:=Ctl (Int×(List Edj)×(List Bool)×Reg) ((Option Spa)×Err)) (fun (k227:Nat) (a228:Suc) (s225:(List Edj)×Reg)=>bnd (Dk s225.2 a228.state) fun q263=>bnd (bnd (Jg (⟨q263.2.2.1.n⟩:Err) (⟨10⟩:Err)) fun q283=>if q283=true then some true else if q263.2.1=true then (if (max 0 (min x1 65536))≤q263.1 then (some true) else (some false)) else (some false):Option Bool) fun y279=>if y279=true then (some (.ret (.ret (none,(⟨10⟩:Err))))) else (if q263.2.2.1.n≠0 then (some (.ret (.ret (none,(⟨q263.2.2.1.n⟩:Err))))) else (bnd (appI 24 s225.1 [(⟨s105.1,a228.op,q263.1⟩:Edj)]) fun u304=>some (.next (u304,q263.2.2.2))))) q212 0 (s105.2.1,s105.2.2.2)) fun res223=>fin res223 fun (s321:(List Edj)×Reg)=>bnd (chkI (s105.1 + 1)) fun n323=>some (.next (n323,s321.1,y157,s321.2)))) else (some (.brk (s105.1,s105.2.1,s105.2.2.1,s105.2.2.2)))) (0,([]:List Edj),([]:List Bool),q57.2.2.2)) fun res103=>fin res103 fun (s330:Int×(List Edj)×(List Bool)×Reg)=>bnd (DO (⟨(⟨q74.vars,q74.init,q74.goal,q74.ops⟩:Tsk),s330.2.2.2,s330.2.1,s330.2.2.1,([]:List Int),([]:List Int),([]:List Int)⟩:Spa)) fun q341=>some ((some q341),(⟨0⟩:Err))))))
theorem II (x0:Tsk) (x1:Int):Le (Fa x0 x1) (Ci x0 x1):=by
  unfold Fa Ci
  repeat' (first|apply LF|apply GK|apply IX|apply JY|apply GG|apply DI|apply FZ|apply Fp|apply Kp|apply HR|apply Le.ite|apply Le.bnd|apply Le.fin|apply Le.rng|apply Le.rngN|apply Le.lop|exact Le.rf|intro _)
noncomputable def EI (x0:Spa):Option Int :=
  bnd (CE x0.states) fun q45=>some q45
theorem HJ (x0:Spa):Le (EI x0) (BE x0):=by
  unfold EI BE
  repeat' (first|apply DI|apply Le.ite|apply Le.bnd|apply Le.fin|apply Le.rng|apply Le.rngN|apply Le.lop|exact Le.rf|intro _)
noncomputable def HT  : Option Bool :=
  bnd (Fa (⟨([2]:List Int),([0]:List Int),([]:List Fct),[(⟨(⟨#[]⟩:ByteArray),0,([]:List Fct),[(⟨([]:List Fct),0,1⟩:Eff)]⟩:Opr)]⟩:Tsk) 5) fun q33=>bnd (if q33.2.n=0 then (if q33.1.isNone=false then (bnd q33.1 fun o53=>bnd (EI o53) fun q57=>if q57=2 then (some true) else (some false)) else (some false)) else (some false):Option Bool) fun y47=>some y47
theorem Kq  : Le (HT ) (Dp ):=by
  unfold HT Dp
  repeat' (first|apply II|apply HJ|apply Le.ite|apply Le.bnd|apply Le.fin|apply Le.rng|apply Le.rngN|apply Le.lop|exact Le.rf|intro _)
set_option maxRecDepth 100000 in
theorem awake25:Dp=some true:=Kq true (by kernel_rfl)
end
section
set_option linter.unusedVariables false
set_option linter.unusedSimpArgs false
open Go Go.RowKit
theorem Pz {t:Tsk} (h:SmallOk t):Ei t=some true:=by unfold Ei;rw [Ch h]
theorem PA {t:Tsk} (h:¬ SmallOk t):Ei t=some false:=by unfold Ei;rw [Bi h]
theorem lim512:512≤limE 512:=by unfold limE;omega
theorem SpX.lens {t:Tsk} {L:List (List Int)} {x:Spa} (h:SpX t L x):BE x=some (L.length:Int):=by
  unfold BE
  rw [show AW x.states=some (x.states.entries.length:Int) from rfl,h.reg.len]
  rfl
end
section
set_option linter.unusedVariables false
set_option linter.unusedSimpArgs false
open Go Go.RowKit
theorem OI (t:Tsk) (s:List Int) (m:Nat):(appN t s m).Pairwise (· < ·):=by
  unfold appN
  exact (List.pairwise_lt_range).sublist List.filter_sublist
theorem LG {t:Tsk} {L:List (List Int)}:∀ (n:Nat),(edgL t L n).Pairwise lexE
  | 0=>by simp [edgL]
  | n + 1=>by
    have ih:=LG (t:=t) (L:=L) n
    cases hs:L[n]? with
    | none =>
      have e:edgL t L (n + 1)=edgL t L n:=by
        unfold edgL
        rw [List.range_succ,List.flatMap_append,List.flatMap_singleton,hs]
        simp
      rw [e];exact ih
    | some s =>
      have hk:∀ e∈edgK t L s n (appN t s t.ops.length),e.src=(n:Int):=fun e he=>by
        obtain ⟨k,_,rfl⟩:=List.mem_map.1 he;rfl
      rw [IC hs,List.pairwise_append]
      refine ⟨ih,?_,fun a ha b hb=>?_⟩
      · unfold edgK
        rw [List.pairwise_map]
        exact (OI t s _).imp fun {a b} h=>.inr ⟨rfl,.inl (by dsimp only;omega)⟩
      · obtain ⟨j,k,s,h1,_,_,rfl⟩:=LA.1 ha
        refine .inl ?_
        rw [hk b hb];dsimp only;omega
theorem OJ {a b:Edj} (h:lexE a b):¬ lexE b a:=by unfold lexE at *;omega
theorem KL {l:List Edj} (h:l.length≤100000):Cm l=some l:=if_pos ⟨by omega,by omega⟩
theorem NG {l:List Bool} (h:l.length≤100000):Dx l=some l:=if_pos ⟨by omega,by omega⟩
theorem MV (a:List Edj):DQ a a=some true:=by
  unfold DQ
  rw [if_neg (by simp),Js (fun k x hk=>?_),At,Db]
  rw [hk,At,if_neg (by simp)]
theorem NH {t:Tsk} (hs:Mid t) {lim:Int} {L:List (List Int)} (h:EndL t lim L) {x:Spa} (hx:SpX t L x):CO x=some ⟨(L.length:Int),0,t.ops.map (·.cost),edgL t L L.length,goalsL t L⟩:=by
  have hl:=h.bl.few hs
  have he:=(h.edges hs).few
  have hops:=hs.ops
  have hgl:(goalsL t L).length=L.length:=by unfold goalsL;simp
  unfold CO
  rw [hx.lens,At,hx.sp.ed,hx.sp.go,hx.sp.t_,KL (by omega),At,NG (by omega),At,At]
  rw [Et (fun k=>(t.ops.take k).map (·.cost)) (by simp) (fun k o hk=>?_),At,Db,List.take_length]
  · dsimp only
    rw [if_pos (by omega),At,Pp ((LG L.length).imp OJ)]
  · have:=AC hk
    rw [CD (by rw [List.length_map,List.length_take,List.length_singleton];omega) (by rw [List.length_map,List.length_take,List.length_singleton];omega),At,LD _ _ hk]
theorem NI (t:Tsk):Dy t=some true:=by
  unfold Dy
  by_cases hs:SmallOk t
  · obtain ⟨L,x,e1,e2,e3,e4⟩:=LW hs lim512
    have hed:CT x=some (edgL t L L.length):=by
      unfold CT
      rw [e2.sp.ed,KL (by have:=(e3.edges hs.mid).few;omega),At]
    have hgl:(goalsL t L).length=L.length:=by unfold goalsL;simp
    simp only [Pz hs,awake25,At,if_true,e1,e4,LV hs.mid e3,NH hs.mid e3 e2,hed,MV,ne_eq,not_true_eq_false,if_false,Bool.false_eq_true,List.length_map,hgl]
    rw [Js (fun k o hk=>?_),At,Db,Js (fun k s hk=>?_),At,Db]
    · have hg:(goalsL t L)[k]?=some (holdsB t.goal s):=by unfold goalsL;rw [List.getElem?_map,hk];rfl
      rw [hg,At,show DF t.goal s=some (holdsB t.goal s) from rfl,At]
      cases holdsB t.goal s<;>simp [At]
    · rw [List.getElem?_map,hk,Option.map_some,At,if_neg (by simp)]
  · simp only [PA hs,awake25,At,if_true,Bool.false_eq_true,if_false]
end
section
open Go Go.RowKit Go.ChangeShapes Go.WideShapes Go.Deep
theorem lawEEdges {w:World} {v0:Value} {a0:Tsk} (h0:V w v0 a0):Fn Tryz.prog 8 [v0] w fun v w'=>v=.bool true∧Ext w w':=by
  exact (Hz (fun _ h=>h) h0 (NI a0)).mono fun _ _ h=>⟨h.2.bool,h.1⟩
set_option maxRecDepth 100000 in
theorem Ic (os:Os) (started:os.Started) (H:Type) (enc:TypeId×Value→H) :
    ReturnsInHanded {} Tryz.checked os 8 .any (Rows.exploreEdgesSpec.pre6 enc Tryz.prog Tryz.f8 Rows.exploreEdgesRow.domain false) (Rows.exploreEdgesSpec.post enc Tryz.prog Tryz.f8 false true false false):=by
  refine returnsInHanded_of_change (C:=Tryz.checked) ownTry started (by kernel_rfl) Tryz.func8 (ChangeSpec.witness6 (enc:=enc) (C:=Tryz.checked) false ⟨#[],#[(.agg #[.slice none 0 0,.slice none 0 0,.slice none 0 0,.slice none 0 0])],[]⟩ 8 (by kernel_rfl) (by kernel_rfl) (by kernel_rfl) (by kernel_rfl)) ?_
  intro W base args ds gs before hval hW _ _
  have hopen:∀ p,DataW.TrodAll enc Tryz.prog W 0 (fun _=>true) true Tryz.f8.params.toList args.toList ds p→∃ v0 d0,args=#[v0]∧ds=[d0]∧(∃ a:Tsk,V W v0 a):=by
    intro p hA
    rw [Tryz.params8] at hA
    replace hval:∀ (j:Nat) t v,(#[26]:Array TypeId)[j]?=some t→args[j]?=some v→Value.okWide Tryz.prog W .any base t v:=by rw [← Tryz.params8];exact hval
    obtain ⟨v0,vs0,d0,ds0,p0,q0,g0,e0,_,h0,r0⟩:=trodAll_cons hA
    obtain ⟨g,e,_⟩:=trodAll_nil r0
    rw [g] at g0;rw [e] at e0
    obtain rfl:args=#[v0]:=by cases args;simp_all
    exact ⟨v0,d0,rfl,e0,(by first|exact openAgg rfl (hval 0 26 v0 rfl rfl) h0|exact openOne rfl (hval 0 26 v0 rfl rfl) h0)⟩
  refine lawPost rfl (by kernel_rfl) (by rw [Tryz.params8];exact of_decide_eq_true (by kernel_rfl)) hW ?_ ?_
  · intro p hA
    obtain ⟨v0,d0,_,rfl,_⟩:=hopen p hA
    rfl
  · intro p hA
    obtain ⟨v0,d0,rfl,_,⟨a0,h0⟩⟩:=hopen p hA
    exact lawEEdges h0
theorem exploreEdges_holds:Rows.ExploreEdgesSaid :=
  OpenClaim.holds_of_wide 8 Tryz.f8 rfl rfl rfl rfl rfl rfl rfl ⟨rfl,rfl,rfl,rfl,rfl⟩ rfl rfl rfl rfl rfl (by kernel_rfl) Tryz.func8 (by kernel_rfl)
    (of_decide_eq_true (by kernel_rfl)) (by unfold Func.isWrapper;first|(rw [if_pos (by decide +kernel)];kernel_rfl)|(rw [if_neg (by decide +kernel)];exact ⟨rfl,rfl⟩))
    (fun os started H enc _=>Ic os started H enc)
#print axioms exploreEdges_holds
end
end Go.Proofs.YtkbmbcblgdgjlaaGreat

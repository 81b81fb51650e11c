/- OrbitFinds returns true for every task, and all read behind the call as before; the tables that the row lists are tied to the program's text. No conditions. -/
import Derived.Test.YtdlhmdckakbboaaGreatDoorOFeE
import Derived.Test.YtdlhmdckakbboaaGreatDoorRows
set_option linter.unusedVariables false
set_option linter.unusedSimpArgs false
namespace Go.Proofs.YtdlhmdckakbboaaGreatDoor
open Go Go.RowKit Go.Proofs.Tryz
section
open Go Go.RowKit
def GI (t:Tsk) (i:Nat) (g:List Swp):Prop:=∀ a∈g,SymP t a/\Aaj t ⟨a.vars,a.vals,[]⟩=some a.ops/\Fix t i a
def Dis (t:Tsk) (g:List Swp):Prop:=(∀ a∈g,∃ p,InP t p/\imQ a p≠p)/\g.Pairwise λ a b=>∃ p,InP t p/\imQ a p≠imQ b p
section
variable {t : Tsk} {sg : Nat → Nat → ByteArray} {M : Nat}
theorem Xq (a:TaskOk t) {i:Nat} (hi:i < (allP t).length) {y:Pn} {s:Nat} (c:InP t y) (hf:fitB t sg (idz t i) (xAt t (idz t i)) y=true) {b:Swp} (f:(stp t sg (S7 t) M ((allP t).length - i - 1) (idz t i) y s).1=some b) :
    SymP t b/\Aaj t ⟨b.vars,b.vals,[]⟩=some b.ops/\Fix t i b/\imQ b (xAt t (idz t i))=y:=by
  obtain ⟨ys,h1,h2,h3⟩:=Qx hi c hf f
  obtain ⟨d,h5,h6⟩:=RC a h1 h2 h3
  exact ⟨d,h5,λ p e=>h6 (p,p) (K9.2 (.inl (N8.2 ⟨p,e,rfl⟩))),h6 (xAt t (idz t i),y) (K9.2 (.inr H8))⟩
theorem VL (b:TaskOk t) (d:∀ w,SymF t w->ZK t sg w) {i:Nat} (hi:i < (allP t).length) {y:Pn} {s:Nat} (c:(stp t sg (S7 t) M ((allP t).length - i - 1) (idz t i) y s).1=none) (a:(stp t sg (S7 t) M ((allP t).length - i - 1) (idz t i) y s).2.2=false) {w:Swp} (f:SymF t w) (g:Fix t i w) (h:imQ w (xAt t (idz t i))=y):False:=by
  unfold stp at c a
  by_cases j:M<=s
  . rw [if_pos j] at a;cases a
  . rw [if_neg j] at c a
    have e:=Pb (w:=w) (Ii hi)
    rw [QK g,h] at e
    rw [<- e] at c a
    exact SY b f (QL b f.perm (d w f) _ _ _ (by omega) c a)
theorem Dis.add {g:List Swp} (f:Dis t g) {x y:Pn} (d:InP t x) {b:Swp} (hb:imQ b x=y) (hn:¬ Reach g x y):Dis t (g ++ [b]):=by
  refine ⟨λ a ha=>?_,List.pairwise_append.2 ⟨f.2,List.pairwise_singleton _ _,λ a ha c hc=>?_⟩⟩
  . rcases K9.1 ha with ha|ha
    . exact f.1 a ha
    . simp at ha
      subst ha
      exact ⟨x,d,λ e=>hn (by rw [<- hb,e];exact .one)⟩
  . simp at hc
    subst hc
    exact ⟨x,d,λ e=>hn (by rw [<- hb,<- e];exact .step .one ha)⟩
theorem LX (f:TaskOk t) (h:∀ w,SymF t w→ZK t sg w) {i:Nat} (hi:i < (allP t).length):∀ (l:List Pn) (g:List Swp) (s:Nat),(∀ y∈l,InP t y)→GI t i g→Dis t g→(levL t sg (S7 t) M i (xAt t (idz t i)) l g s).2.2=false →
    GI t i (levL t sg (S7 t) M i (xAt t (idz t i)) l g s).1/\Dis t (levL t sg (S7 t) M i (xAt t (idz t i)) l g s).1/\(∀ a∈g,a∈(levL t sg (S7 t) M i (xAt t (idz t i)) l g s).1) /\
    (∀ w,SymF t w->Fix t i w->imQ w (xAt t (idz t i))∈l->Reach (levL t sg (S7 t) M i (xAt t (idz t i)) l g s).1 (xAt t (idz t i)) (imQ w (xAt t (idz t i)))) /\
    (levL t sg (S7 t) M i (xAt t (idz t i)) l g s).1.length<=g.length + l.length
  | [],g,s,_,hg,hd,_=>⟨hg,hd,λ _ A=>A,λ w _ _ A=>by simp at A,by show g.length<=_;simp⟩
  | y :: l, g,s,hP,hg,hd,c=>by
    have m:∀ q∈l,InP t q:=λ q n=>hP q (F8 _ n)
    have v:=hP y H8
    have o:InP t (xAt t (idz t i)):=Cd.1 (F9 (Ii hi))
    unfold levL at c ⊢
    by_cases hf:fitB t sg (idz t i) (xAt t (idz t i)) y=true/\bof (Reach g (xAt t (idz t i)) y)=false
    . rw [if_pos hf] at c ⊢
      have u:¬ Reach g (xAt t (idz t i)) y:=λ e=>by rw [Bk e] at hf;exact nomatch hf.2
      cases n:(stp t sg (S7 t) M ((allP t).length - i - 1) (idz t i) y s).2.2 with
      | true=>rw [if_pos n] at c;cases c
      | false =>
        rw [n] at c
        rw [if_neg (by decide)] at c ⊢
        cases r:(stp t sg (S7 t) M ((allP t).length - i - 1) (idz t i) y s).1 with
        | none =>
          rw [r] at c
          obtain ⟨p,q2,q3,q4,q5⟩:=LX f h hi l g _ m hg hd c
          refine ⟨p,q2,q3,λ w j d hm=>?_,by rw [J5];exact N6 q5 (by omega)⟩
          rcases M8.1 hm with e|hm
          . exact (VL f h hi r n j d e).elim
          . exact q4 w j d hm
        | some b =>
          rw [r] at c
          obtain ⟨z,b2,b3,b4⟩:=Xq f hi v hf.1 r
          obtain ⟨p,q2,q3,q4,q5⟩:=LX f h hi l (g ++ [b]) _ m (λ a ha=>by
            rcases K9.1 ha with ha|ha
            . exact hg a ha
            . simp at ha;subst ha;exact ⟨z,b2,b3⟩) (hd.add o b4 u) c
          refine ⟨p,q2,λ a ha=>q3 a (K9.2 (.inl ha)),λ w j d hm=>?_,by
            have:(g ++ [b]).length=g.length + 1:=by simp
            rw [J5];exact N6 q5 (by omega)⟩
          rcases M8.1 hm with e|hm
          . have hb:=Reach.step (x:=xAt t (idz t i)) .one (q3 b (K9.2 (.inr (by simp))))
            rw [b4] at hb
            rw [e]
            exact hb
          . exact q4 w j d hm
    . rw [if_neg hf] at c ⊢
      obtain ⟨p,q2,q3,q4,q5⟩:=LX f h hi l g s m hg hd c
      refine ⟨p,q2,q3,λ w j d hm=>?_,by rw [J5];omega⟩
      rcases M8.1 hm with e|hm
      . have k:=Uj (sg:=sg) f j.perm (h w j) (Ii hi)
        rw [QK d,e] at k
        rw [e]
        refine Reach.mono q3 (B9 λ hn=>hf ⟨k,AY hn⟩)
      . exact q4 w j d hm
theorem VM {x:Swp} {q:Pn} (a:TaskOk t) (b:Q0 t x) (c:InP t q):imQ x (imQ (Y0 x) q)=q :=
  have hr:=Gr a (GD a b) c
  LV a (GD a b) (Gr a b hr) c (Sf a b hr)
def Aa1 (t:Tsk) (i:Nat) (g:List Swp):Prop:=∀ w,SymF t w->Fix t i w->∃ π,Wd g π/\∀ p,InP t p->imQ w p=π p
theorem SymF.comp (a:TaskOk t) {w e:Swp} (b:SymF t w) (c:SymP t e):∃ u,SymP t u/\∀ p,InP t p->imQ u p=imQ (Y0 e) (imQ w p):=by
  obtain ⟨ops,b⟩:=b
  exact ⟨T0 ⟨w.vars,w.vals,ops⟩ (Y0 e),Kv a b (VE a c),λ p d=>QM a b.1 (GD a c.1) d⟩
theorem Sl (b:TaskOk t) (o:∀ w,SymF t w→ZK t sg w):∀ (i:Nat) (g:List Swp) (s:Nat),i≤(allP t).length→GI t i g→Dis t g→Aa1 t i g→(V8 t sg (S7 t) M i g s).2.2=false →
    GI t 0 (V8 t sg (S7 t) M i g s).1/\Dis t (V8 t sg (S7 t) M i g s).1/\Aa1 t 0 (V8 t sg (S7 t) M i g s).1/\(V8 t sg (S7 t) M i g s).1.length<=g.length + i * (allP t).length
  | 0,g,s,_,hg,hd,hG,_=>⟨hg,hd,hG,by show g.length<=_;omega⟩
  | i + 1,g,s,hi,hg,hd,hG,d=>by
    have k:i < (allP t).length:=by omega
    have C:((allP t)[i]?).getD (0,0)=xAt t (idz t i):=by rw [Ii k];rfl
    have I:=Ii k
    have r:InP t (xAt t (idz t i)):=Cd.1 (F9 I)
    have x:∀ p,p∈(allP t).take (i + 1)↔p∈(allP t).take i\/p=xAt t (idz t i):=λ p=>Fz I
    unfold V8 at d ⊢
    rw [C] at d ⊢
    cases D:(levL t sg (S7 t) M i (xAt t (idz t i)) (allP t) g s).2.2 with
    | true=>rw [if_pos D] at d;cases d
    | false =>
      rw [D] at d
      rw [if_neg (by decide)] at d ⊢
      have E:GI t i g:=λ a l=>⟨(hg a l).1,(hg a l).2.1,λ p c=>(hg a l).2.2 p ((x p).2 (.inl c))⟩
      obtain ⟨F,q2,q3,q4,q5⟩:=LX (M:=M) b o k (allP t) g s (λ y J=>Cd.1 J) E hd D
      have G:Aa1 t i (levL t sg (S7 t) M i (xAt t (idz t i)) (allP t) g s).1:=λ w B z=>by
        obtain ⟨π,p1,p2⟩:=VG (q4 w B z (Cd.2 (Gr b B.perm r)))
        obtain ⟨K,h1,h2⟩:=Wd.sym b (λ a l=>(F a l).1) p1
        obtain ⟨u,u1,u2⟩:=SymF.comp b B h1
        have m:Fix t i K:=λ p c=>by rw [h2 p (JU c)];exact Wd.fix (λ a l=>(F a l).2.2) p1 p c
        have h:∀ p q,InP t p->imQ K p=q->imQ (Y0 K) q=p:=λ p q c e=>by rw [<- e];exact Sf b h1.1 c
        have n:Fix t (i + 1) u:=λ p c=>by
          have j:=JU c
          rw [u2 p j]
          rcases (x p).1 c with c|rfl
          . rw [z p c]
            exact h p p j (m p c)
          . exact h _ _ j (by rw [h2 _ j,p2])
        obtain ⟨ρ,H,r2⟩:=hG u u1.f n
        refine ⟨λ p=>π (ρ p),Wd.comp p1 (Wd.mono q3 H),λ p c=>?_⟩
        have A:=Gr b u1.1 c
        show imQ w p=π (ρ p)
        rw [<- r2 p c,<- h2 _ A,u2 p c]
        obtain ⟨v,v1,v2⟩:∃ v,InP t v/\imQ K v=imQ w p:=by
          refine ⟨imQ u p,A,?_⟩
          rw [u2 p c]
          exact VM b h1.1 (Gr b B.perm c)
        rw [<- v2,h v _ v1 rfl]
      obtain ⟨H,r2,r3,r4⟩:=Sl b o i _ _ (by omega) F q2 G d
      refine ⟨H,r2,r3,N6 r4 ?_⟩
      rw [Nat.succ_mul]
      omega
end
end
section
open Go Go.RowKit
theorem VN {t:Tsk} (d:TaskOk t) (k:t.ops.length<=20) (l:Z0 (allP t).length (allP t).length<=1048576):∃ c,GI t 0 c/\Dis t c/\Aa1 t 0 c/\c.length<=(allP t).length * (allP t).length /\
    DR t 1048576=some (c,⟨0⟩)/\∀ b,DR t b=some ([],⟨10⟩)\/DR t b=some (c,⟨0⟩):=by
  obtain ⟨sg,h1,h2⟩:=Acg d k
  have g:=λ (b:Int) (M:Nat) (h:max 0 (min b 1048576)=(M:Int))=>Xd d (Vx d sg) (SW d) (Vz d) h (h2 (M:Int))
  have f:=NG (t:=t) (sg:=sg) (leaf:=S7 t) (M:=1048576) (allP t).length [] 0 (P1 _) (by omega)
  obtain ⟨m,g2,g3,g4⟩:=Sl (M:=1048576) d h1 (allP t).length [] 0 (P1 _) (λ a i=>by simp at i) ⟨λ a i=>by simp at i,List.Pairwise.nil⟩ (λ w _ j=>⟨id,.one,λ p n=>j p (by rw [K4];exact Cd.2 n)⟩) f
  refine ⟨_,m,g2,g3,by simpa using g4,?_,λ b=>?_⟩
  . rw [g 1048576 1048576 (by decide),f];rfl
  . obtain ⟨M,h⟩:=D0 (show 0<=max 0 (min b 1048576) by omega)
    rw [g b M h]
    rcases QB (t:=t) (sg:=sg) (leaf:=S7 t) (show M<=1048576 by omega) (allP t).length [] 0 with ⟨o,e2⟩|e
    . left;rw [o,e2];rfl
    . right;rw [e,f];rfl
end
section
open Go Go.RowKit
def fac:Nat->Nat
  | 0=>1
  | n + 1=>(n + 1) * fac n
theorem LY:∀ n,1<=fac n
  | 0=>P1 _
  | n + 1=>N6 (LY n) (E4 _ (by omega))
def W9 (l:List Int):Nat:=l.foldr (λ k n=>fac k.toNat * n) 1
theorem MR:∀ l,1<=W9 l
  | []=>P1 _
  | k :: l=>M6 (LY k.toNat) (MR l)
end
section
open Go Go.RowKit
theorem VO (n:Nat):fac (n + 1)=(n + 1) * fac n:=rfl
theorem Jr (x:Int):∀ l,W9 (l ++ [x])=W9 l * fac x.toNat
  | []=>by show fac x.toNat * 1=1 * fac x.toNat;rw [P5,Nat.one_mul]
  | k :: l=>by
    show fac k.toNat * W9 (l ++ [x])=fac k.toNat * W9 l * fac x.toNat
    rw [Jr x l,Nat.mul_assoc]
theorem VP {a b:Nat} (d:a<=b):fac a<=fac b:=by
  induction d with
  | refl=>exact P1 _
  | step _ c=>exact N6 c (E4 _ (by omega))
theorem Ur {k n0:Nat} (hk:k≤64) (p:1≤n0) (q:n0≤19200) {ρ:Type}:∃ n:Nat,1≤n∧n≤19200∧(n≤300→n0≤300∧n=n0 * fac k)∧∃ l:Int×Int,l.1=(n:Int)∧lop (ρ:=ρ) (λ (c:Int×Int)=>bnd (if c.2≤(k:Int) then (if c.1≤300 then (some true) else (some false)) else (some false):Option Bool) λ d=>if d=true then (bnd (Q1 (c.1 * c.2)) λ e=>bnd (Q1 (c.2 + 1)) λ g=>some (.next (e,g))) else (some (.brk (c.1,c.2)))) ((n0:Int),2)=some (.done l):=by
  have m:=LT (ρ:=ρ) (f:=λ (c:Int×Int)=>bnd (if c.2<=(k:Int) then (if c.1<=300 then (some true) else (some false)) else (some false):Option Bool) λ d=>if d=true then (bnd (Q1 (c.1 * c.2)) λ e=>bnd (Q1 (c.2 + 1)) λ g=>some (.next (e,g))) else (some (.brk (c.1,c.2))))
    (λ s=>∃ n i:Nat,s.1=(n:Int)/\s.2=(i:Int)/\2<=i/\(i<=2\/i<=k + 1)/\1<=n/\n<=19200/\(n<=300->n0<=300/\n=n0 * fac (i - 1))) (λ s=>∃ n:Nat,s.1=(n:Int)/\1<=n/\n<=19200/\(n<=300->n0<=300/\n=n0 * fac k)) (λ _=>False) (λ s=>k + 2 - s.2.toNat) (λ s hs=>by
      obtain ⟨a,b⟩:=s
      obtain ⟨n,i,rfl,rfl,h2,hi,hn1,hn2,hn3⟩:=hs
      by_cases h:(i:Int)<=(k:Int)
      . by_cases hn:(n:Int)<=300
        . left
          have r:n * i<=300 * 64:=M6 (by omega) (by omega)
          have j:1<=n * i:=Nat.mul_pos (by omega) (by omega)
          have hc:((n:Int) * (i:Int))=((n * i:Nat):Int):=by simp
          simp only []
          rw [if_pos h,if_pos hn,Ar,BS,hc,BZ (by unfold P9;omega),Ar,BZ (by unfold P9;omega),Ar]
          refine ⟨_,rfl,⟨n * i,i + 1,rfl,by simp,by omega,by omega,j,by omega,λ _=>?_⟩,?_⟩
          . obtain ⟨o,e2⟩:=hn3 (by omega)
            refine ⟨o,?_⟩
            have:i + 1 - 1=(i - 1) + 1:=by omega
            rw [this,VO,e2,show i - 1 + 1=i from by omega,Nat.mul_assoc,Nat.mul_comm (fac (i - 1)) i]
          . show k + 2 - ((i:Int) + 1).toNat < k + 2 - ((i:Int)).toNat
            omega
        . right;left
          simp only []
          rw [if_pos h,if_neg hn,Ar,CA]
          exact ⟨_,rfl,n,rfl,hn1,hn2,λ t=>absurd t (by omega)⟩
      . right;left
        simp only []
        rw [if_neg h,Ar,CA]
        refine ⟨_,rfl,n,rfl,hn1,hn2,λ t=>?_⟩
        obtain ⟨o,e2⟩:=hn3 t
        refine ⟨o,?_⟩
        rw [e2]
        congr 1
        rcases hi with hi|hi
        . have:i=2:=by omega
          subst this
          have:k=0\/k=1:=by omega
          rcases this with rfl|rfl<;>rfl
        . congr 1
          omega) ((n0:Int),2) ⟨n0,2,rfl,rfl,by omega,by omega,p,q,λ t=>⟨t,by show n0=n0 * fac 1;show n0=n0 * 1;omega⟩⟩
  rcases m with ⟨l,q1,n,q2,q3,q4,q5⟩|⟨_,_,t⟩
  . exact ⟨n,q3,q4,q5,l,q2,q1⟩
  . exact t.elim
theorem Us {vars:List Int} (hl:vars.length<=64) (hv:∀ k∈vars,0<=k/\k<=64):∃ q,Gd vars 300=some q/\(q<=300->W9 vars * fac vars.length<=300):=by
  unfold Gd
  rw [Cu (by simp;omega) (by simp;omega),Ar,L3,Cu (by simp;omega) (by simp;omega),Ar]
  have b:∀ k∈vars ++ [(vars.length:Int)],0<=k/\k<=64:=λ k hk=>by
    rcases K9.1 hk with hk|hk
    . exact hv k hk
    . simp at hk;omega
  have d:W9 (vars ++ [(vars.length:Int)])=W9 vars * fac vars.length:=by rw [Jr];simp
  generalize vars ++ [(vars.length:Int)]=l at b d
  obtain ⟨r,h1,n,h2,h3,h4,h5⟩:=Dw (ρ:=Int) (f:=λ (_:Nat) (h:Int) (i:Int)=>bnd (lop (ρ:=Ctl Int Int) (λ (a:Int×Int)=>bnd (if a.2<=h then (if a.1<=300 then (some true) else (some false)) else (some false):Option Bool) λ m=>if m=true then (bnd (Q1 (a.1 * a.2)) λ o=>bnd (Q1 (a.2 + 1)) λ p=>some (.next (o,p))) else (some (.brk (a.1,a.2)))) (i,2)) λ c=>fin c λ (g:Int×Int)=>some (.next g.1)) (xs:=l) (s₀:=1)
    (λ j s=>∃ n:Nat,s=(n:Int)/\1<=n/\n<=19200/\(n<=300->n=W9 (l.take j))) ⟨1,rfl,by omega,by omega,λ _=>rfl⟩ (λ j k s hj ⟨n,e,h1,h2,h3⟩=>by
      subst e
      obtain ⟨t,k1⟩:=b k (F9 hj)
      obtain ⟨u,rfl⟩:=D0 t
      obtain ⟨v,p1,p2,p3,r,p4,p5⟩:=Ur (k:=u) (n0:=n) (by omega) h1 h2 (ρ:=Ctl Int Int)
      rw [p5,Ar,BB]
      refine ⟨_,rfl,v,p4,p1,p2,λ x=>?_⟩
      obtain ⟨w,e2⟩:=p3 x
      rw [e2,h3 w,Ik hj,Jr]
      simp)
  subst h2
  rw [h1,Ar,BB]
  refine ⟨_,rfl,λ x=>?_⟩
  rw [<- d]
  have hn:n<=300:=by omega
  have:=h5 hn
  rw [K4] at this
  omega
theorem Ut (k:Nat) (a:1<=k) (b:k<=5):2 * 3 ^ k<=9 * fac k:=by
  have:k=1\/k=2\/k=3\/k=4\/k=5:=by omega
  rcases this with rfl|rfl|rfl|rfl|rfl<;>decide
theorem MS {k:Nat} (b:fac k<=300):k<=5:=B9 λ hn=>by
  have:fac 6<=fac k:=VP (by omega)
  have a:fac 6=720:=rfl
  omega
theorem QT:∀ {l:List Int} {k:Int},k∈l->fac k.toNat<=W9 l
  | a :: l,k,h=>by
    rcases M8.1 h with rfl|h
    . exact D1 _ (MR l)
    . exact N6 (QT h) (E4 _ (LY _))
theorem Pg {t:Tsk} (a:TaskOk t) (b:∀ k∈t.vars,k<=5):∀ j,j<=t.vars.length->2 ^ j * 3 ^ (allK t j).length<=9 ^ j * W9 (t.vars.take j)
  | 0,_=>P1 _
  | j + 1,hj=>by
    have c:=Pg a b j (by omega)
    have hs:=Ge a (show j < t.vars.length by omega)
    have d:=HN a (show j < t.vars.length by omega)
    have e:=b _ (F9 hs)
    have f:=Ut (szT t j) d.1 (by omega)
    rw [Lp,H2,L7,J1,Ik hs,Jr,I9,Nat.pow_succ,Nat.pow_succ,Nat.pow_add]
    have:=M6 c f
    calc 2 ^ j * 2 * (3 ^ (allK t j).length * 3 ^ szT t j)=2 ^ j * 3 ^ (allK t j).length * (2 * 3 ^ szT t j):=by ac_rfl
      _<=9 ^ j * W9 (t.vars.take j) * (9 * fac (szT t j)):=this
      _=9 ^ j * 9 * (W9 (t.vars.take j) * fac (szT t j)):=by ac_rfl
theorem Uu {t:Tsk} (b:TaskOk t) (h:W9 t.vars * fac t.vars.length<=300):(∀ k∈t.vars,k<=5)/\t.vars.length<=5/\W9 t.vars<=300/\(allP t).length<=7:=by
  have c:W9 t.vars<=300:=N6 (D1 _ (LY _)) h
  have d:fac t.vars.length<=300:=N6 (E4 _ (MR _)) h
  have e:∀ k∈t.vars,k<=5:=λ k hk=>by
    have:=MS (N6 (QT hk) c)
    omega
  refine ⟨e,MS d,c,B9 λ hn=>?_⟩
  have f:=Pg b e t.vars.length (P1 _)
  rw [K4] at f
  have hm:=MS d
  have g:3 ^ 8<=3 ^ (allK t t.vars.length).length:=Nat.pow_le_pow_right (by omega) (by
    show 8<=(allP t).length
    omega)
  generalize t.vars.length=m at *
  generalize 3 ^ (allK t m).length=z at *
  have hz:6561<=z:=g
  have a:2 ^ m * z * fac m<=9 ^ m * 300:=N6 (F7 _ f) (by rw [Nat.mul_assoc];exact Nat.mul_le_mul_left _ h)
  have:m=0\/m=1\/m=2\/m=3\/m=4\/m=5:=by omega
  rcases this with rfl|rfl|rfl|rfl|rfl|rfl
  . have a:1 * z * 1<=1 * 300:=a;omega
  . have a:2 * z * 1<=9 * 300:=a;omega
  . have a:4 * z * 2<=81 * 300:=a;omega
  . have a:8 * z * 6<=729 * 300:=a;omega
  . have a:16 * z * 24<=6561 * 300:=a;omega
  . have a:32 * z * 120<=59049 * 300:=a;omega
theorem Ta {n:Nat} (a:n<=8):Z0 n n<=1048576:=by
  have:n=0\/n=1\/n=2\/n=3\/n=4\/n=5\/n=6\/n=7\/n=8:=by omega
  rcases this with rfl|rfl|rfl|rfl|rfl|rfl|rfl|rfl|rfl<;>decide
end
section
open Go Go.RowKit
inductive PlanR (t:Tsk):List Int->List Int->List Int->Int->Prop
  | nil {s:List Int}:PlanR t s [] s 0
  | cons {s rest s':List Int} {k:Nat} {o:Opr} {C:Int}:t.ops[k]?=some o->holdsB o.pre s=true->PlanR t (succ o s) rest s' C->PlanR t s ((k:Int) :: rest) s' (o.cost + C)
theorem Uv (f:List Fct) (s:List Int):Gb f s=some (holdsB f s):=rfl
theorem Uw {t:Tsk} (v:TaskOk t) {s a l:List Int} {C:Int} (hr:PlanR t s a l C):∀ (j:Nat) (c:Int),StateOk t.vars s->0<=c->c + a.length * 1048576<=1000000000000000 ->
    rng (ρ:=Int×Bool) (λ (_:Nat) (f:Int) (g:(List Int)×Int)=>bnd (Ds t g.1 f) λ b=>if (!b.2)=true then (some (.ret (0,false))) else (bnd (atI t.ops f) λ d=>bnd (Q1 (g.2 + d.cost)) λ e=>some (.next (b.1,e)))) a j (s,c)=some (.done (l,c + C)):=by
  induction hr with
  | nil=>intro j c _ _ _;simp [rng]
  | @cons s m l k o C i n hr p =>
    intro j c hs hc hb
    simp only [J5] at hb
    have h:=v.2.2.2.2.2 k o i
    have r:=h.1
    have u:=h.2.1
    have q:(bnd (Ds t s (k:Int)) λ b=>if (!b.2)=true then (some (.ret (0,false))) else (bnd (atI t.ops (k:Int)) λ d=>bnd (Q1 (c + d.cost)) λ e=>some (.next (b.1,e))):Option (Ctl (List Int×Int) (Int×Bool)))=some (.next (succ o s,c + o.cost)):=by
      rw [OO v hs i,if_pos n,Ar,if_neg (by simp),Bd,i,Ar,BZ (by unfold P9;omega),Ar]
    simp only [rng,q]
    rw [p (j + 1) (c + o.cost) (GL v hs i) (by omega) (by omega),Int.add_assoc]
theorem Xr {t:Tsk} (c:TaskOk t) {s a b:List Int} {C:Int} (hs:StateOk t.vars s) (hr:PlanR t s a b C) (hl:a.length<=1000):GZ t s a=some (C,holdsB t.goal b):=by
  unfold GZ
  rw [Uw c hr 0 0 hs (by omega) (by omega),Ar,BB,IU,Ar,Int.zero_add]
  cases holdsB t.goal b<;>rfl
end
section
open Go Go.RowKit
inductive Walk (t:Tsk):List Int->Int->Prop
  | goal {s:List Int}:holdsB t.goal s=true->Walk t s 0
  | step {s:List Int} {k:Nat} {o:Opr} {c:Int}:t.ops[k]?=some o->holdsB o.pre s=true->Walk t (succ o s) c->Walk t s (c + o.cost)
def Inf:Int:=1125899906842624
theorem Yw {σ ρ:Type} {f:σ→Option (Ctl σ ρ)} (I:σ→Prop) (B:σ→Prop) (μ:σ→Nat) (e:∀ s,I s→(∃ a,f s=some (.next a)∧I a∧μ a < μ s)∨(∃ a,f s=some (.brk a)∧B a)):∀ s,I s→∃ a,lop f s=some (.done a)∧B a:=by
  have b:∀ (n:Nat) s,I s->μ s < n->∃ a,itr f n s=some (.done a)/\B a:=by
    intro n
    induction n with
    | zero=>intro s _ d;omega
    | succ n c =>
      intro s hs hn
      rcases e s hs with ⟨a,h1,h2,h3⟩|⟨a,h1,h2⟩
      . obtain ⟨r,hr,hb⟩:=c a h2 (by omega)
        exact ⟨r,by simp only [itr,h1];exact hr,hb⟩
      . exact ⟨a,by simp only [itr,h1],h2⟩
  intro s hs
  obtain ⟨r,hr,hb⟩:=b (μ s + 1) s hs (by omega)
  exact ⟨r,Ka.2 ⟨_,hr⟩,hb⟩
def sumN:List Int->Nat
  | []=>0
  | x :: l=>x.toNat + sumN l
theorem QU:∀ (l:List Int) (i:Nat) (x y:Int),l[i]?=some x->0<=y->y < x->sumN (l.set i y) < sumN l
  | [],i,x,y,h,_,_=>by simp at h
  | a :: l,0,x,y,h,h1,h2=>by
    obtain rfl:a=x:=by simpa using h
    show y.toNat + sumN l < a.toNat + sumN l
    omega
  | a :: l,i + 1,x,y,h,h1,h2=>by
    have:=QU l i x y (by simpa using h) h1 h2
    show a.toNat + sumN (l.set i y) < a.toNat + sumN l
    omega
def ZR (t:Tsk) (d:List Int):Prop:=d.length=(statesL t.vars).length/\∀ (i:Nat) s,(statesL t.vars)[i]?=some s->∃ c,d[i]?=some c/\0<=c/\c<=Inf/\(c < Inf->Walk t s c)/\(holdsB t.goal s=true->c=0)
def Ab7 (t:Tsk) (d:List Int):Prop:=ZR t d/\∀ (i:Nat) s c C,(statesL t.vars)[i]?=some s->d[i]?=some c->Walk t s C->c<=C
theorem QV {α:Type} {l:List α} {k:Nat} {x y:α} (a:l[k]?=some x):y∈l.take (k + 1)↔y∈l.take k\/y=x:=by
  rw [I6,a,K9];simp
theorem Xs      {t:Tsk} (h:Mid t):∃ d,Fm t=some d∧Ab7 t d:=by
  have hlen:(statesL t.vars).length<=600:=by have:=h.states t.vars.length;rwa [K4] at this
  unfold Fm
  rw [Lm h,Ar,Ga (by omega) (by omega),Ar]
  obtain ⟨d0,h1,h2,h3⟩:=Dw (ρ:=List Int) (f:=λ (k53:Nat) (a54:List Int) (s51:(List Int))=>bnd (s51[k53]?) λ _=>bnd (EF t.goal a54) λ q91=>if q91=true then bnd ((s51.set k53 1125899906842624)[k53]?) λ _=>some (.next ((s51.set k53 1125899906842624).set k53 0)) else some (.next (s51.set k53 1125899906842624))) (xs:=statesL t.vars) (s₀:=List.replicate (statesL t.vars).length 0)
    (λ n d=>d.length=(statesL t.vars).length/\∀ (i:Nat) s,i < n->(statesL t.vars)[i]?=some s->d[i]?=some (if holdsB t.goal s=true then 0 else Inf)) ⟨by simp,λ i s hi=>by omega⟩ (λ n s d hn hI=>by
      obtain ⟨i1,i2⟩:=hI
      have hlt:=AD hn
      obtain ⟨u,hu⟩:=AG (l:=d) (k:=n) (by omega)
      rw [hu,Ar,IU,Ar]
      by_cases hg:holdsB t.goal s=true
      . rw [if_pos hg,D9 (by omega),Ar]
        refine ⟨_,rfl,by simpa using i1,λ i s' hi hs'=>?_⟩
        by_cases e:i=n
        . subst e
          obtain rfl:s'=s:=by rw [hn] at hs';exact (L1 hs').symm
          rw [D9 (by simp;omega),if_pos hg]
        . rw [G2 (by omega),G2 (by omega)]
          exact i2 i s' (by omega) hs'
      . rw [if_neg hg]
        refine ⟨_,rfl,by simpa using i1,λ i s' hi hs'=>?_⟩
        by_cases e:i=n
        . subst e
          obtain rfl:s'=s:=by rw [hn] at hs';exact (L1 hs').symm
          rw [D9 (by omega),if_neg hg];rfl
        . rw [G2 (by omega)]
          exact i2 i s' (by omega) hs')
  obtain ⟨es,he,hes⟩:=Vo h
  rw [h1,Ar,BB,he,Ar]
  have hd0:ZR t d0:=⟨h2,λ i s hi=>by
    refine ⟨_,h3 i s (AD hi) hi,?_⟩
    by_cases hg:holdsB t.goal s=true
    . rw [if_pos hg];exact ⟨by omega,by unfold Inf;omega,λ _=>.goal hg,λ _=>rfl⟩
    . rw [if_neg hg];exact ⟨by unfold Inf;omega,by omega,λ hh=>absurd hh (by omega),λ hh=>absurd hh hg⟩⟩
  -- one pass over the edges
  have pass : ∀ d,ZR t d→∃ (d':List Int) (b:Bool),rng (ρ:=Ctl ((List Int)×Bool) (List Int)) (λ (_:Nat) (a152:Edg) (s149:(List Int)×Bool)=>bnd (atI t.ops a152.op) λ a183=>bnd (bnd (atI s149.1 a152.dst) λ a208=>if a208 < 1125899906842624 then (bnd (atI s149.1 a152.dst) λ a221=>bnd (Q1 (a221 + a183.cost)) λ n233=>bnd (atI s149.1 a152.src) λ a236=>if n233 < a236 then (some true) else (some false)) else (some false):Option Bool) λ y204=>if y204=true then (bnd (atI s149.1 a152.dst) λ a254=>bnd (Q1 (a254 + a183.cost)) λ n266=>bnd (atI s149.1 a152.src) λ _=>some (.next ((s149.1.set (a152.src).toNat n266),true))) else (some (.next (s149.1,s149.2)))) es 0 (d,false)=some (.done (d',b))∧ZR t d'∧(b=true→sumN d' < sumN d)∧(b=false→d'=d∧∀ e∈es,∀ (i k j:Nat) o x y,e=⟨i,k,j⟩→t.ops[k]?=some o→d[i]?=some x→d[j]?=some y→y < Inf→x≤y + o.cost):=by
    intro d hd
    obtain ⟨⟨d',b⟩,g1,g2,g3,g4⟩:=Dw (ρ:=Ctl ((List Int)×Bool) (List Int)) (f:=λ (_:Nat) (a152:Edg) (s149:(List Int)×Bool)=>bnd (atI t.ops a152.op) λ a183=>bnd (bnd (atI s149.1 a152.dst) λ a208=>if a208 < 1125899906842624 then (bnd (atI s149.1 a152.dst) λ a221=>bnd (Q1 (a221 + a183.cost)) λ n233=>bnd (atI s149.1 a152.src) λ a236=>if n233 < a236 then (some true) else (some false)) else (some false):Option Bool) λ y204=>if y204=true then (bnd (atI s149.1 a152.dst) λ a254=>bnd (Q1 (a254 + a183.cost)) λ n266=>bnd (atI s149.1 a152.src) λ _=>some (.next ((s149.1.set (a152.src).toNat n266),true))) else (some (.next (s149.1,s149.2)))) (xs:=es) (s₀:=(d,false))
      (λ m r=>ZR t r.1/\(r.2=true->sumN r.1 < sumN d)/\(r.2=false->r.1=d/\∀ e∈es.take m,∀ (i k j:Nat) o x y,e=⟨i,k,j⟩->t.ops[k]?=some o->d[i]?=some x->d[j]?=some y->y < Inf->x<=y + o.cost)) ⟨hd,λ hh=>by simp at hh,λ _=>⟨rfl,λ e he=>by simp at he⟩⟩ (λ m e r hm hI=>by
        obtain ⟨i1,i2,i3⟩:=hI
        obtain ⟨r1,r2⟩:=r
        simp only at i1 i2 i3
        obtain ⟨i,k,j,s,o,rfl,a1,a2,a3,a4⟩:=(hes e).1 (F9 hm)
        obtain ⟨x,x1,x2,x3,x4,x5⟩:=i1.2 i s a1
        obtain ⟨y,y1,y2,y3,y4,y5⟩:=i1.2 j _ a4
        have hco:=h.ok.2.2.2.2.2 k o a2
        have hc1:=hco.1
        have hc2:=hco.2.1
        simp only
        rw [Bd,a2,Ar,Bd,y1,Ar,Bd,x1]
        have keep:∀ (hx:y < Inf->x<=y + o.cost),ZR t r1/\(r2=true->sumN r1 < sumN d)/\(r2=false->r1=d/\∀ e∈es.take (m + 1),∀ (i k j:Nat) o x y,e=⟨i,k,j⟩->t.ops[k]?=some o->d[i]?=some x->d[j]?=some y->y < Inf->x<=y + o.cost):=λ hx=>by
          refine ⟨i1,i2,λ hf=>⟨(i3 hf).1,λ e' he'=>?_⟩⟩
          obtain ⟨e1,e2⟩:=i3 hf
          rcases (QV hm).1 he' with hh|rfl
          . exact e2 e' hh
          . intro i' k' j' o' x' y' hE ho' hx' hy' hlt
            injection hE with h1 h2 h3
            obtain rfl:i=i':=by omega
            obtain rfl:k=k':=by omega
            obtain rfl:j=j':=by omega
            obtain rfl:o=o':=by rw [a2] at ho';exact L1 ho'
            rw [<- e1,x1] at hx'
            rw [<- e1,y1] at hy'
            obtain rfl:=L1 hx'
            obtain rfl:=L1 hy'
            exact hx hlt
        by_cases hy:y < 1125899906842624
        . rw [if_pos hy,Ar,BZ (by unfold P9;unfold Inf at *;omega),Ar,Ar]
          by_cases hx:y + o.cost < x
          . rw [if_pos hx,Ar,BS,Ar,BZ (by unfold P9;unfold Inf at *;omega),Ar,Ar]
            refine ⟨_,rfl,⟨by simpa using i1.1,λ i' s' hs'=>?_⟩,λ _=>?_,λ hh=>by simp at hh⟩
            . show ∃ c,(r1.set ((i:Int)).toNat (y + o.cost))[i']?=some c/\_
              rw [show ((i:Int)).toNat=i from by omega]
              by_cases e:i=i'
              . subst e
                obtain rfl:s=s':=by rw [a1] at hs';exact L1 hs'
                refine ⟨_,by rw [D9 (AD x1)],by omega,by omega,λ _=>.step a2 a3 (y4 hy),λ hg=>?_⟩
                have:=x5 hg;omega
              . rw [G2 e];exact i1.2 i' s' hs'
            . show sumN (r1.set ((i:Int)).toNat (y + o.cost)) < _
              rw [show ((i:Int)).toNat=i from by omega]
              have hlt:=QU r1 i x (y + o.cost) x1 (by omega) hx
              cases hr:r2 with
              | true=>have:=i2 hr;omega
              | false=>rw [(i3 hr).1] at hlt;rwa [(i3 hr).1]
          . rw [if_neg hx,Ar,CA]
            exact ⟨_,rfl,keep λ _=>by omega⟩
        . rw [if_neg hy,Ar,CA]
          exact ⟨_,rfl,keep λ hh=>absurd hh hy⟩)
    refine ⟨d',b,g1,g2,g3,λ hb=>?_⟩
    obtain ⟨e1,e2⟩:=g4 hb
    rw [K4] at e2
    exact ⟨e1,e2⟩
  obtain ⟨⟨d,b⟩,l1,l2,l3⟩:=Yw (ρ:=List Int) (f:=λ (s127:(List Int)×Bool)=>if s127.2=true then (bnd (rng (ρ:=Ctl ((List Int)×Bool) (List Int)) (λ (_:Nat) (a152:Edg) (s149:(List Int)×Bool)=>bnd (atI t.ops a152.op) λ a183=>bnd (bnd (atI s149.1 a152.dst) λ a208=>if a208 < 1125899906842624 then (bnd (atI s149.1 a152.dst) λ a221=>bnd (Q1 (a221 + a183.cost)) λ n233=>bnd (atI s149.1 a152.src) λ a236=>if n233 < a236 then (some true) else (some false)) else (some false):Option Bool) λ y204=>if y204=true then (bnd (atI s149.1 a152.dst) λ a254=>bnd (Q1 (a254 + a183.cost)) λ n266=>bnd (atI s149.1 a152.src) λ _=>some (.next ((s149.1.set (a152.src).toNat n266),true))) else (some (.next (s149.1,s149.2)))) es 0 (s127.1,false)) λ res147=>fin res147 λ (s287:(List Int)×Bool)=>some (.next (s287.1,s287.2))) else (some (.brk (s127.1,s127.2))))
    (λ r=>ZR t r.1/\(r.2=false->∀ e∈es,∀ (i k j:Nat) o x y,e=⟨i,k,j⟩->t.ops[k]?=some o->r.1[i]?=some x->r.1[j]?=some y->y < Inf->x<=y + o.cost)) (λ r=>ZR t r.1/\∀ e∈es,∀ (i k j:Nat) o x y,e=⟨i,k,j⟩->t.ops[k]?=some o->r.1[i]?=some x->r.1[j]?=some y->y < Inf->x<=y + o.cost) (λ r=>2 * sumN r.1 + if r.2=true then 1 else 0) (λ r hr=>by
      obtain ⟨r1,r2⟩:=r
      obtain ⟨i1,i2⟩:=hr
      cases r2 with
      | true =>
        obtain ⟨d',b,p1,p2,p3,p4⟩:=pass r1 i1
        refine .inl ⟨(d',b),?_,⟨p2,λ hb=>?_⟩,?_⟩
        . simp only [if_true]
          rw [p1,Ar,BB]
        . obtain ⟨e1,e2⟩:=p4 hb
          show ∀ e∈es,_
          intro e he i k j o x y hE ho hx hy
          simp only at hx hy
          rw [e1] at hx hy
          exact e2 e he i k j o x y hE ho hx hy
        . cases b with
          | true=>have:=p3 rfl;simp;omega
          | false=>rw [(p4 rfl).1];simp
      | false=>exact .inr ⟨(r1,false),by simp,i1,i2 rfl⟩) (d0,true) ⟨hd0,λ hh=>by simp at hh⟩
  refine ⟨d,by rw [l1,Ar,BB],l2,λ i s c C hi hc hw=>?_⟩
  induction hw generalizing i c with
  | goal hg =>
    obtain ⟨c',q1,_,_,_,q5⟩:=l2.2 i _ hi
    rw [hc] at q1
    obtain rfl:=L1 q1
    have:=q5 hg;omega
  | @step s k o C' ho hp hw ih =>
    have hs:StateOk t.vars s:=GY.1 (F9 hi)
    obtain ⟨j,_,hj⟩:=Oi h (GL h.ok hs ho)
    obtain ⟨y,y1,y2,y3,y4,y5⟩:=l2.2 j _ hj
    have h5:=ih j y hj y1
    obtain ⟨x,x1,x2,x3,x4,x5⟩:=l2.2 i s hi
    rw [x1] at hc
    obtain rfl:=L1 hc
    have hco:=(h.ok.2.2.2.2.2 k o ho).1
    by_cases hy:y < Inf
    . have:=l3 ⟨i,k,j⟩ ((hes _).2 ⟨i,k,j,s,o,rfl,hi,ho,hp,hj⟩) i k j o x y rfl ho x1 y1 hy
      omega
    . omega
end
section
open Go Go.RowKit
structure QEn where
  key:Int
  tie:Int
  item:Int
  number:Int
theorem Ph {α:Type} {l:List α} {m i:Nat} {x:α} (a:(l.take m)[i]?=some x):l[i]?=some x:=by
  by_cases hi:i < m
  . rwa [List.getElem?_take_of_lt hi] at a
  . rw [List.getElem?_take_eq_none (by omega)] at a;cases a
def bfr (x y:QEn):Prop:=x.key < y.key\/(x.key=y.key/\(x.tie < y.tie\/(x.tie=y.tie/\x.number < y.number)))
instance (x y:QEn):Decidable (bfr x y):=by unfold bfr;infer_instance
def nb (x y:QEn):Prop:=¬ bfr x y
theorem Kz {x y z:QEn} (a:nb x y) (b:nb y z):nb x z:=by unfold nb bfr at *;omega
theorem Py {x y:QEn} (a:bfr x y):nb y x:=by unfold nb bfr at *;omega
theorem NK (x:QEn):nb x x:=by unfold nb bfr;omega
theorem Ux {x y:QEn} (a:nb x y):y.key<=x.key:=by unfold nb bfr at a;omega
def U6 (l:List QEn):Prop:=∀ (j:Nat) x y,0 < j->l[j]?=some x->l[(j - 1) / 2]?=some y->nb x y
def Ab3 (l:List QEn) (i:Nat):Prop:=∀ (j:Nat) x y,0 < i->0 < j->(j - 1) / 2=i->l[j]?=some x->l[(i - 1) / 2]?=some y->nb x y
def UpI (l:List QEn) (i:Nat):Prop:=(∀ (j:Nat) x y,0 < j->j≠i->l[j]?=some x->l[(j - 1) / 2]?=some y->nb x y)/\Ab3 l i
def DownI (l:List QEn) (i:Nat):Prop:=(∀ (j:Nat) x y,0 < j->(j - 1) / 2≠i->l[j]?=some x->l[(j - 1) / 2]?=some y->nb x y)/\Ab3 l i
theorem JV {l:List QEn} {i j:Nat} {a b:QEn} (hi:l[i]?=some a) (hj:l[j]?=some b) (e:i≠j) (k:Nat):((l.set i b).set j a)[k]?=if k=j then some a else if k=i then some b else l[k]?:=by
  by_cases c:k=j
  . subst c;rw [if_pos rfl,D9 (by simpa using AD hj)]
  . rw [if_neg c,G2 (by omega)]
    by_cases d:k=i
    . subst d;rw [if_pos rfl,D9 (AD hi)]
    . rw [if_neg d,G2 (by omega)]
theorem QW {l:List QEn} {i j:Nat} {a b:QEn} (hi:l[i]?=some a) (hj:l[j]?=some b):((l.set i b).set j a).Perm l:=by
  have c:=AD hi
  have d:=AD hj
  have e:l[i]=a:=by rw [C4 c] at hi;exact L1 hi
  have f:l[j]=b:=by rw [C4 d] at hj;exact L1 hj
  rw [<- e,<- f]
  exact List.set_set_perm c d
theorem UpI.step {l:List QEn} {i:Nat} {a b:QEn} (s:UpI l i) (p:0 < i) (hi:l[i]?=some a) (hj:l[(i - 1) / 2]?=some b) (hb:bfr a b):UpI ((l.set i b).set ((i - 1) / 2) a) ((i - 1) / 2):=by
  have g:i≠(i - 1) / 2:=by omega
  constructor
  . intro j x y e h c d
    rw [JV hi hj g,if_neg h] at c
    rw [JV hi hj g] at d
    by_cases f:j=i
    . subst f
      rw [if_pos rfl] at c d
      obtain rfl:=L1 c
      obtain rfl:=L1 d
      exact Py hb
    . rw [if_neg f] at c
      by_cases m:(j - 1) / 2=(i - 1) / 2
      . rw [if_pos m] at d
        obtain rfl:=L1 d
        have:=s.1 j x b e f c (by rw [m];exact hj)
        exact Kz this (Py hb)
      . rw [if_neg m] at d
        by_cases n:(j - 1) / 2=i
        . rw [if_pos n] at d
          obtain rfl:=L1 d
          exact s.2 j x b p e n c hj
        . rw [if_neg n] at d
          exact s.1 j x y e f c d
  . intro j x y o e h c d
    rw [JV hi hj g] at c d
    have q:((i - 1) / 2 - 1) / 2≠(i - 1) / 2:=by omega
    have r:((i - 1) / 2 - 1) / 2≠i:=by omega
    rw [if_neg q,if_neg r] at d
    have k:=s.1 ((i - 1) / 2) b y o (by omega) hj d
    rw [if_neg (by omega)] at c
    by_cases f:j=i
    . subst f
      rw [if_pos rfl] at c
      obtain rfl:=L1 c
      exact k
    . rw [if_neg f] at c
      exact Kz (s.1 j x b e f c (by rw [h];exact hj)) k
theorem UpI.heap {l:List QEn} {i:Nat} (d:UpI l i) (hi:i=0\/∀ x y,l[i]?=some x->l[(i - 1) / 2]?=some y->nb x y):U6 l:=λ j x y hj a b=>by
  by_cases e:j=i
  . subst e
    rcases hi with c|h1
    . omega
    . exact h1 x y a b
  . exact d.1 j x y hj e a b
theorem DownI.step {l:List QEn} {i c:Nat} {a b:QEn} (r:DownI l i) (hc:c=2 * i + 1∨c=2 * i + 2) (hi:l[i]?=some a) (hj:l[c]?=some b) (hb:bfr b a) (hs:∀ (j:Nat) x,0 < j→(j - 1) / 2=i→l[j]?=some x→nb x b):DownI ((l.set i b).set c a) c:=by
  have h:i≠c:=by omega
  have g:(c - 1) / 2=i:=by omega
  constructor
  . intro j x y f m e d
    rw [JV hi hj h] at e d
    rw [if_neg m] at d
    by_cases o:j=c
    . subst o
      rw [if_pos rfl] at e
      rw [if_pos g] at d
      obtain rfl:=L1 e
      obtain rfl:=L1 d
      exact Py hb
    . rw [if_neg o] at e
      by_cases p:j=i
      . subst p
        rw [if_pos rfl] at e
        rw [if_neg (by omega)] at d
        obtain rfl:=L1 e
        exact r.2 c _ y f (by omega) g hj d
      . rw [if_neg p] at e
        by_cases k:(j - 1) / 2=i
        . rw [if_pos k] at d
          obtain rfl:=L1 d
          exact hs j x f k e
        . rw [if_neg k] at d
          exact r.1 j x y f k e d
  . intro j x y q f n e d
    rw [JV hi hj h] at e d
    rw [if_neg (by omega),if_neg (by omega)] at e
    rw [if_neg (by omega),if_pos g] at d
    obtain rfl:=L1 d
    exact r.1 j x _ f (by omega) e (by rw [n];exact hj)
theorem DownI.heap {l:List QEn} {i:Nat} (c:DownI l i) (hi:∀ (j:Nat) x y,0 < j->(j - 1) / 2=i->l[j]?=some x->l[i]?=some y->nb x y):U6 l:=λ j x y hj a b=>by
  by_cases e:(j - 1) / 2=i
  . exact hi j x y hj e a (by rw [<- e];exact b)
  . exact c.1 j x y hj e a b
theorem Uy {l:List QEn} (g:U6 l) {e:QEn} (he:l[0]?=some e):∀ x∈l,nb x e:=by
  have b:∀ (n j:Nat) x,j<=n->l[j]?=some x->nb x e:=by
    intro n
    induction n with
    | zero =>
      intro j x hj a
      have c:j=0:=by omega
      rw [c,he] at a
      rw [<- L1 a]
      exact NK _
    | succ n d =>
      intro j x hj a
      by_cases f:j=0
      . exact d j x (by omega) a
      . obtain ⟨y,hy⟩:=AG (l:=l) (k:=(j - 1) / 2) (by have:=AD a;omega)
        exact Kz (g j x y (by omega) a hy) (d ((j - 1) / 2) y (by omega) hy)
  intro x a
  obtain ⟨j,hj⟩:=G3 a
  exact b j j x (by omega) hj
end
section
open Go Go.RowKit
theorem Pi {K V:Type} [MKey K] (z:V) (k b:K) (v:V):∀ l:List (K×V),mget z (R3 l k v) b=if k=b then v else mget z l b
  | []=>by simp only [R3,mget]
  | p :: r=>by
    have d:=Pi z k b v r
    simp only [R3]
    by_cases c:p.1=k
    . rw [if_pos c]
      simp only [mget]
      by_cases a:k=b
      . rw [if_pos a,if_pos a]
      . rw [if_neg a,if_neg a,if_neg (by rw [c];exact a)]
    . rw [if_neg c]
      simp only [mget,d]
      by_cases a:k=b
      . rw [if_pos a,if_pos a,if_neg (by rw [<- a];exact c)]
      . rw [if_neg a,if_neg a]
theorem Yx {xs:List Int} (hl:xs.length≤1000000):Da xs=some xs.reverse:=by
  unfold Da
  rw [BZ (by unfold P9;omega),Ar]
  refine RY (λ s=>∃ i:Nat,s.2.1=(i:Int)/\s.2.1 + s.2.2=(xs.length:Int) - 1/\i<=xs.length/\s.1.length=xs.length/\∀ k:Nat,k < xs.length->s.1[k]?=if k < i\/xs.length - 1 - k < i then xs[xs.length - 1 - k]? else xs[k]?) (λ s=>s.1=xs.reverse) (λ s=>(s.2.2 - s.2.1 + 1).toNat) ⟨0,rfl,by dsimp only;omega,by omega,rfl,λ k hk=>by rw [if_neg (by omega)]⟩ ?_ (λ s hs=>by rw [BB,hs])
  rintro ⟨ys,i',j⟩ ⟨i,hi,hij,hil,hlen,hg⟩
  dsimp only at hi hij hlen hg ⊢
  subst hi
  by_cases hlt:(i:Int) < j
  . obtain ⟨c,rfl⟩:∃ c:Nat,j=(c:Int):=⟨j.toNat,by omega⟩
    obtain ⟨a,ha⟩:=AG (l:=ys) (k:=c) (by omega)
    obtain ⟨b,hb⟩:=AG (l:=ys) (k:=i) (by omega)
    rw [if_pos hlt,Bd,ha,Ar,Bd,hb,Ar,Ar,I9,I9,Bd,G2 (by omega),ha,Ar,BZ (by unfold P9;omega),Ar,BZ (by unfold P9;omega),Ar]
    refine .inl ⟨_,rfl,⟨i + 1,by dsimp only;omega,by dsimp only;omega,by omega,by simp [hlen],λ k hk=>?_⟩,by dsimp only;omega⟩
    dsimp only
    have d:=hg c (by omega)
    rw [ha,if_neg (by omega)] at d
    have e:=hg i (by omega)
    rw [hb,if_neg (by omega)] at e
    by_cases g:k=c
    . subst g
      rw [D9 (by simp;omega),if_pos (by omega),e]
      congr 1;omega
    . rw [G2 (by omega)]
      by_cases h:k=i
      . subst h
        rw [D9 (by omega),if_pos (by omega),d]
        congr 1;omega
      . rw [G2 (by omega),hg k hk]
        by_cases f:k < i\/xs.length - 1 - k < i
        . rw [if_pos f,if_pos (by omega)]
        . rw [if_neg f,if_neg (by omega)]
  . rw [if_neg hlt]
    refine .inr ⟨_,rfl,?_⟩
    dsimp only
    apply I3
    intro k
    rcases N2 k xs.length with hk|hk
    . rw [List.getElem?_reverse hk,hg k hk]
      by_cases f:k < i\/xs.length - 1 - k < i
      . rw [if_pos f]
      . rw [if_neg f];congr 1;omega
    . rw [E6 (by omega),E6 (by simp;omega)]
end
section
open Go Go.RowKit
theorem PlanR.snoc {t:Tsk} {s p a:List Int} {C:Int} (g:PlanR t s p a C) {k:Nat} {o:Opr} (e:t.ops[k]?=some o) (d:holdsB o.pre a=true):PlanR t s (p ++ [(k:Int)]) (succ o a) (C + o.cost):=by
  induction g with
  | nil=>have:=PlanR.cons e d (PlanR.nil (t:=t) (s:=succ o _));simpa [O6] using this
  | cons b c _ f=>have:=PlanR.cons b c (f d);rw [Int.add_assoc];exact this
theorem PlanR.walk {t:Tsk} {s p a:List Int} {C:Int} (f:PlanR t s p a C) (b:holdsB t.goal a=true):Walk t s C:=by
  induction f with
  | nil=>exact .goal b
  | cons c d _ e=>have:=Walk.step c d (e b);rwa [O6] at this
end
section
open Go Go.RowKit
theorem Xt {t:Tsk} (f:Mid t):∃ b,Hb t=some b/\0<=b/\b<=Inf/\(b < Inf->Walk t t.init b)/\∀ C,Walk t t.init C->b<=C:=by
  obtain ⟨d,hd,hdP⟩:=Xs f
  obtain ⟨a,hi0,hi0'⟩:=Oi f f.ok.2.2.2.1
  obtain ⟨c,c1,c2,c3,c4,_⟩:=hdP.1.2 a _ hi0'
  refine ⟨c,?_,c2,c3,c4,λ C e=>hdP.2 a _ c C hi0' c1 e⟩
  unfold Hb
  rw [hd,Ar,hi0,Ar,Bd,c1,Ar]
theorem PlanR.bound {t:Tsk} (g:TaskOk t) {s p a:List Int} {C:Int} (hr:PlanR t s p a C):0<=C/\C<=(p.length:Int) * 1048576:=by
  induction hr with
  | nil=>simp
  | @cons s b a k o C c _ _ d =>
    have e:=(g.2.2.2.2.2 k o c).1
    have f:=(g.2.2.2.2.2 k o c).2.1
    simp only [J5]
    omega
theorem VQ {t:Tsk} (j:Mid t) {r:Rsl} {b:Int} (a:b < Inf->Walk t t.init b) (c:∀ C,Walk t t.init C->b<=C) (hv:r.verdict=1) (hl:r.plan.length<=1000) {e:List Int} (d:PlanR t t.init r.plan e r.cost) (f:holdsB t.goal e=true) (hm:∀ C,Walk t t.init C->r.cost<=C):En t r b=some true:=by
  have g:=d.bound j.ok
  have h:=c _ (d.walk f)
  have hlt:b < Inf:=by unfold Inf;omega
  have i:=hm _ (a hlt)
  have he:r.cost=b:=by omega
  unfold En
  unfold Inf at hlt
  rw [if_neg (by omega),Xr j.ok j.ok.2.2.2.1 d hl,Ar,if_pos hv,f,BS,he,if_pos rfl,if_pos rfl]
  rfl
theorem VR {t:Tsk} {r:Rsl} {b:Int} (a:b < Inf->Walk t t.init b) (hv:r.verdict=2) (c:r.plan=[]) (hc:r.cost=0) (hn:∀ C,¬ Walk t t.init C):En t r b=some true:=by
  have hlt:¬ b < Inf:=λ d=>hn _ (a d)
  unfold En
  unfold Inf at hlt
  rw [if_pos (by omega),if_pos hv,c,if_pos (by simp),if_pos hc]
  rfl
theorem Lx {α:Type} [DecidableEq α]:∀ {a b:List α},a.Nodup->(∀ x∈a,x∈b)->a.length<=b.length
  | [],_,_,_=>P4 _
  | x :: a,b,hn,hs=>by
    have c:=hs x H8
    have f:=Lx (a:=a) (b:=b.erase x) (M3.1 hn).2 λ y d=>(List.mem_erase_of_ne (λ e=>(M3.1 hn).1 (by rw [<- e];exact d))).2 (hs y (F8 _ d))
    have g:=List.length_erase_of_mem c
    have h:=List.length_pos_of_mem c
    simp only [J5]
    omega
theorem QX {b:List (List Int)} (c:∀ (i j:Nat) s,b[i]?=some s->b[j]?=some s->i=j):b.Nodup:=by
  rw [B5,C0]
  intro i j hi hj a he
  have:=c i j b[i] (C4 hi) (by rw [he];exact C4 hj)
  omega
end
section
open Go Go.RowKit
def Abg (t:Tsk) (s:List Int) (k:Nat):Bool:=match t.ops[k]? with|some o=>holdsB o.pre s|none=>false
def Acd (t:Tsk) (s:List Int) (m:Nat):List Nat:=(List.range m).filter (Abg t s)
def Abt (t:Tsk) (s:List Int) (k:Nat):List Int:=match t.ops[k]? with|some o=>succ o s|none=>s
theorem Yy (t:Tsk) (s:List Int):W4 t s=(Acd t s t.ops.length).map λ k:Nat=>(k:Int):=rfl
theorem Xu (t:Tsk) (s:List Int) (k:Nat):Z4 t s (k:Int)=⟨(k:Int),Abt t s k⟩:=rfl
theorem Sm {t:Tsk} {s:List Int} {k:Nat} {o:Opr} (a:t.ops[k]?=some o):Abg t s k=holdsB o.pre s/\Abt t s k=succ o s:=by unfold Abg Abt;rw [a];exact ⟨rfl,rfl⟩
end
section
set_option linter.unusedVariables false
set_option linter.unusedSimpArgs false
open Go Go.RowKit
def UpN {α:Type} (i:Nat) (x:α) (l a:List α):Prop:=a[i]?=some x/\∀ j,j≠i->a[j]?=l[j]?
theorem Xv {α:Type} {i:Nat} {x:α} {l:List α} (a:i < l.length):UpN i x l (l.set i x):=⟨D9 a,λ j hj=>G2 (by omega)⟩
theorem Xw {α:Type} {x:α} {l:List α}:UpN l.length x l (l ++ [x]):=⟨by simp,λ j hj=>by
  rcases N2 j l.length with h|h
  . exact B8 h
  . rw [B4 h,E6 (l:=l) h,E6 (by simp;omega)]⟩
theorem QY {t:Tsk} {s:List Int} {k:Nat} {o:Opr} (a:t.ops[k]?=some o) (hp:holdsB o.pre s=true):(k:Int)∈W4 t s:=by
  rw [Yy,N8]
  exact ⟨k,L6.2 ⟨M4.2 (AD a),by rw [(Sm a).1];exact hp⟩,rfl⟩
def W8 (N:List ONd):Nat:=(N.filter λ n=>n.fin).length
theorem VS (N:List ONd) {n:ONd} (a:n.fin=false):W8 (N ++ [n])=W8 N:=by simp [W8,a]
theorem QZ:∀ {N:List ONd} {i:Nat} {a b:ONd},N[i]?=some a->a.fin=false->b.fin=false->W8 (N.set i b)=W8 N
  | [],i,_,_,h,_,_=>by simp at h
  | n :: N,0,a,b,h,ha,hb=>by simp at h;subst h;simp [W8,ha,hb]
  | n :: N,i + 1,a,b,h,ha,hb=>by
    have:=QZ (N:=N) (i:=i) (by simpa using h) ha hb
    simp only [W8,List.set_cons_succ,K7] at this ⊢
    split<;>simp [this]
theorem Pj:∀ {N:List ONd} {i:Nat} {a b:ONd},N[i]?=some a->a.fin=false->b.fin=true->W8 (N.set i b)=W8 N + 1
  | [],i,_,_,h,_,_=>by simp at h
  | n :: N,0,a,b,h,ha,hb=>by simp at h;subst h;simp [W8,ha,hb]
  | n :: N,i + 1,a,b,h,ha,hb=>by
    have:=Pj (N:=N) (i:=i) (by simpa using h) ha hb
    simp only [W8,List.set_cons_succ,K7] at this ⊢
    split<;>simp [this]
theorem Xx (N:List ONd):W8 N<=N.length:=F5 _ _
inductive OR (t:Tsk) (cn:List Int->List Int):List Int->Prop
  | init:OR t cn (cn t.init)
  | step {s:List Int} {k:Nat} {o:Opr}:OR t cn s->holdsB t.goal s=false->t.ops[k]?=some o->holdsB o.pre s=true->OR t cn (cn (succ o s))
inductive WalkC (t:Tsk) (cn:List Int->List Int):List Int->Int->Prop
  | goal {s:List Int}:holdsB t.goal s=true->WalkC t cn s 0
  | step {s:List Int} {k:Nat} {o:Opr} {C:Int}:t.ops[k]?=some o->holdsB o.pre s=true->WalkC t cn (cn (succ o s)) C->WalkC t cn s (C + o.cost)
theorem Uz {t:Tsk} (d:TaskOk t) {cn:List Int->List Int} {s:List Int} {C:Int} (a:WalkC t cn s C):0<=C:=by
  induction a with
  | goal _=>omega
  | @step s k o C b _ _ c=>have:=(d.2.2.2.2.2 k o b).1;omega
structure OrI (t:Tsk) (cn wd:List Int->List Int) (D:Nat->Int->Prop) (N:List ONd) (hp:List QEn) (ord:Nat->Nat) (E:Nat):Prop where
  root:∃ n,N[0]?=some n/\n.state=cn t.init/\n.used=wd t.init/\n.cost=0/\n.parent=-1/\n.op=-1
  link:∀ (i:Nat) n,N[i]?=some n->i=0\/∃ (p q:Nat) (o:Opr) (m:ONd),n.parent=(p:Int)/\n.op=(q:Int)/\t.ops[q]?=some o/\N[p]?=some m/\m.fin=true/\holdsB o.pre m.state=true/\n.state=cn (succ o m.state)/\n.used=wd (succ o m.state)/\n.cost=m.cost + o.cost/\(n.fin=true->ord p < ord i)
  ordl:∀ (i:Nat) n,N[i]?=some n->n.fin=true->ord i < E
  lower:∀ (j:Nat) n,N[j]?=some n->n.fin=true->∀ e∈hp,n.cost<=e.key
  ent:∀ e∈hp,∃ (i:Nat) (n:ONd),e.item=(i:Int)/\N[i]?=some n/\n.cost<=e.key
  opn:∀ (i:Nat) n,N[i]?=some n->n.fin=false->∃ e∈hp,e.key=n.cost/\e.item=(i:Int)
  bound:∀ (i:Nat) n,N[i]?=some n->0<=n.cost/\n.cost<=(E:Int) * 1048576
  nogoal:∀ (j:Nat) n,N[j]?=some n->n.fin=true->holdsB t.goal n.state=false
  rel:∀ (j:Nat) n q,N[j]?=some n->n.fin=true->q∈W4 t n.state->D j q->∃ (k:Nat) (o:Opr) (i:Nat) (m:ONd),q=(k:Int)/\t.ops[k]?=some o/\N[i]?=some m/\m.state=cn (succ o n.state)/\m.cost<=n.cost + o.cost
  num:W8 N=E
  rch:∀ (i:Nat) n,N[i]?=some n->OR t cn n.state
  first:0 < E->∃ n,N[0]?=some n/\n.fin=true
  uniq:∀ (i j:Nat) n m,N[i]?=some n->N[j]?=some m->n.state=m.state->i=j
section
variable {t : Tsk} {cn wd : List Int → List Int} {D : Nat → Int → Prop} {N N' : List ONd} {hp hp' : List QEn} {ord : Nat → Nat} {E : Nat}
theorem OrI.upd (h:OrI t cn wd D N hp ord E) (hok:TaskOk t) {i p q:Nat} {o:Opr} {n m:ONd} {e:QEn} (hN:UpN i n N N') (hh:hp'.Perm (e :: hp)) (ek:e.key=n.cost) (ei:e.item=(i:Int)) (hle:N.length≤N'.length) (hc:W8 N'=W8 N)
    (hi:(N[i]?=none/\∀ (j:Nat) a,N[j]?=some a->a.state≠n.state)\/∃ a,N[i]?=some a/\a.state=n.state/\a.fin=false/\n.cost < a.cost)
    (hd:n.fin=false) (hpa:n.parent=(p:Int)) (hop:n.op=(q:Int)) (ho:t.ops[q]?=some o) (hm:N[p]?=some m) (hmd:m.fin=true) (hpre:holdsB o.pre m.state=true) (hst:n.state=cn (succ o m.state)) (hus:n.used=wd (succ o m.state)) (hx:n.cost=m.cost + o.cost) (hmax:∀ (j:Nat) a,N[j]?=some a->a.fin=true->a.cost<=m.cost) (hxE:n.cost<=(E:Int) * 1048576) :
    OrI t cn wd D N' hp' ord E:=by
  have hoc:=(hok.2.2.2.2.2 q o ho).1
  have hcp:=(h.bound p m hm).1
  have hfin:∀ (j:Nat) a,N[j]?=some a->a.fin=true->j≠i:=λ j a hj hja e1=>by
    subst e1
    rcases hi with ⟨hn,_⟩|⟨b,hb,_,hbd,_⟩
    . rw [hj] at hn;cases hn
    . rw [hj] at hb;obtain rfl:=L1 hb;rw [hja] at hbd;cases hbd
  have hfin':∀ (j:Nat) a,N'[j]?=some a->a.fin=true->j≠i/\N[j]?=some a:=λ j a hj hja=>by
    have hne:j≠i:=λ e1=>by subst e1;rw [hN.1] at hj;obtain rfl:=L1 hj;rw [hd] at hja;cases hja
    exact ⟨hne,by rw [<- hN.2 j hne];exact hj⟩
  obtain ⟨n0,r1,r2,r3,r4,r5,r6⟩:=h.root
  have h0:(0:Nat)≠i:=λ e1=>by
    subst e1
    rcases hi with ⟨hn,_⟩|⟨b,hb,_,_,hlt⟩
    . rw [r1] at hn;cases hn
    . rw [r1] at hb;obtain rfl:=L1 hb;omega
  have hpi:=hfin p m hm hmd
  refine ⟨⟨n0,by rw [hN.2 0 h0];exact r1,r2,r3,r4,r5,r6⟩,?_,?_,?_,?_,?_,?_,?_,?_,by rw [hc];exact h.num,?_,?_,?_⟩
  . intro j a hj
    by_cases e1:j=i
    . subst e1
      rw [hN.1] at hj
      obtain rfl:=L1 hj
      exact .inr ⟨p,q,o,m,hpa,hop,ho,by rw [hN.2 p hpi];exact hm,hmd,hpre,hst,hus,hx,λ hh=>by rw [hd] at hh;cases hh⟩
    . rw [hN.2 j e1] at hj
      rcases h.link j a hj with hh|⟨p',q',o',m',a1,a2,a3,a4,a5,a6⟩
      . exact .inl hh
      . exact .inr ⟨p',q',o',m',a1,a2,a3,by rw [hN.2 p' (hfin p' m' a4 a5)];exact a4,a5,a6⟩
  . intro j a hj hja
    exact h.ordl j a (hfin' j a hj hja).2 hja
  . intro j a hj hja e' he'
    obtain ⟨_,hj⟩:=hfin' j a hj hja
    rcases M8.1 (hh.mem_iff.1 he') with rfl|hm'
    . have:=hmax j a hj hja;omega
    . exact h.lower j a hj hja e' hm'
  . intro e' he'
    rcases M8.1 (hh.mem_iff.1 he') with rfl|hm'
    . exact ⟨i,n,ei,hN.1,by omega⟩
    . obtain ⟨j,a,j1,j2,j3⟩:=h.ent e' hm'
      by_cases e1:j=i
      . subst e1
        rcases hi with ⟨hn,_⟩|⟨b,hb,_,_,hlt⟩
        . rw [j2] at hn;cases hn
        . rw [j2] at hb
          obtain rfl:=L1 hb
          exact ⟨j,n,j1,hN.1,by omega⟩
      . exact ⟨j,a,j1,by rw [hN.2 j e1];exact j2,j3⟩
  . intro j a hj hja
    by_cases e1:j=i
    . subst e1
      rw [hN.1] at hj
      obtain rfl:=L1 hj
      exact ⟨e,hh.mem_iff.2 H8,ek,ei⟩
    . rw [hN.2 j e1] at hj
      obtain ⟨e',m',r⟩:=h.opn j a hj hja
      exact ⟨e',hh.mem_iff.2 (F8 _ m'),r⟩
  . intro j a hj
    by_cases e1:j=i
    . subst e1
      rw [hN.1] at hj
      obtain rfl:=L1 hj
      omega
    . rw [hN.2 j e1] at hj;exact h.bound j a hj
  . intro j a hj hja
    exact h.nogoal j a (hfin' j a hj hja).2 hja
  . intro j a q' hj hja hq hD
    obtain ⟨hne,hj⟩:=hfin' j a hj hja
    obtain ⟨k,o',i',b,a1,a2,a3,a4,a5⟩:=h.rel j a q' hj hja hq hD
    by_cases e1:i'=i
    . subst e1
      rcases hi with ⟨hn,_⟩|⟨b',hb,hbs,_,hlt⟩
      . rw [a3] at hn;cases hn
      . rw [a3] at hb
        obtain rfl:=L1 hb
        exact ⟨k,o',i',n,a1,a2,hN.1,by rw [<- hbs];exact a4,by omega⟩
    . exact ⟨k,o',i',b,a1,a2,by rw [hN.2 i' e1];exact a3,a4,a5⟩
  . intro j a hj
    by_cases e1:j=i
    . subst e1
      rw [hN.1] at hj
      obtain rfl:=L1 hj
      rw [hst]
      exact (h.rch p m hm).step (h.nogoal p m hm hmd) ho hpre
    . rw [hN.2 j e1] at hj;exact h.rch j a hj
  . intro hE
    obtain ⟨b,b1,b2⟩:=h.first hE
    exact ⟨b,by rw [hN.2 0 h0];exact b1,b2⟩
  . intro a b x y hx' hy' hs
    have key:∀ (j:Nat) z,j≠i->N'[j]?=some z->z.state≠n.state:=λ j z hne hz hzs=>by
      rw [hN.2 j hne] at hz
      rcases hi with ⟨_,hn⟩|⟨b',hb,hbs,_⟩
      . exact hn j z hz hzs
      . exact hne (h.uniq j i z b' hz hb (by rw [hzs,hbs]))
    by_cases ea:a=i
    . subst ea
      rw [hN.1] at hx'
      obtain rfl:=L1 hx'
      by_cases eb:b=a
      . exact eb.symm
      . exact (key b y eb hy' hs.symm).elim
    . by_cases eb:b=i
      . subst eb
        rw [hN.1] at hy'
        obtain rfl:=L1 hy'
        exact (key a x ea hx' hs).elim
      . rw [hN.2 a ea] at hx'
        rw [hN.2 b eb] at hy'
        exact h.uniq a b x y hx' hy' hs
theorem OrI.drop (h:OrI t cn wd D N hp ord E) {e:QEn} (f:hp.Perm (e :: hp')) {i:Nat} {n:ONd} (hi:e.item=(i:Int)) (hn:N[i]?=some n) (hd:n.fin=true∨n.cost≠e.key):OrI t cn wd D N hp' ord E :=
  { h with
    lower:=λ j a hj b d c=>h.lower j a hj b d (f.mem_iff.2 (F8 _ c))
    ent:=λ d c=>h.ent d (f.mem_iff.2 (F8 _ c))
    opn := λ j a hj b=>by
      obtain ⟨d,m,k1,k2⟩:=h.opn j a hj b
      rcases M8.1 (f.mem_iff.1 m) with rfl|hm
      . exfalso
        have g:i=j:=by omega
        subst g
        rw [hn] at hj
        obtain rfl:=L1 hj
        rcases hd with hd|hd
        . rw [b] at hd;cases hd
        . exact hd k1.symm
      . exact ⟨d,hm,k1,k2⟩ }
theorem OrI.mark (T:OrI t cn wd (λ _ _=>True) N hp ord E) {e:QEn} (l:hp.Perm (e :: hp')) (B:∀ x∈hp,nb x e) {i:Nat} {n H:ONd} (hi:e.item=(i:Int)) (hn:N[i]?=some n) (hf:n.fin=false) (hc:n.cost=e.key) (J:holdsB t.goal n.state=false) (F:H={ n with fin:=true }) :
    OrI t cn wd (λ j _=>j≠i) (N.set i H) hp' (λ j=>if j=i then E else ord j) (E + 1):=by
  subst F
  have u:=AD hn
  have d:∀ (j:Nat) a,(N.set i { n with fin:=true })[j]?=some a->(j=i/\a={ n with fin:=true })\/(j≠i/\N[j]?=some a):=λ j a hj=>by
    by_cases A:j=i
    . subst A;rw [D9 u] at hj;exact .inl ⟨rfl,(L1 hj).symm⟩
    . rw [G2 (by omega)] at hj;exact .inr ⟨A,hj⟩
  have h:∀ (j:Nat) a,N[j]?=some a->a.fin=true->j≠i/\(N.set i { n with fin:=true })[j]?=some a:=λ j a hj c=>by
    have g:j≠i:=λ A=>by subst A;rw [hn] at hj;obtain rfl:=L1 hj;rw [c] at hf;cases hf
    exact ⟨g,by rw [G2 (by omega)];exact hj⟩
  have r:∀ (j:Nat) a,(N.set i { n with fin:=true })[j]?=some a->∃ b,N[j]?=some b/\b.state=a.state/\b.cost=a.cost:=λ j a hj=>by
    rcases d j a hj with ⟨rfl,rfl⟩|⟨_,G⟩
    . exact ⟨n,hn,rfl,rfl⟩
    . exact ⟨a,G,rfl,rfl⟩
  have v:∀ (j:Nat) b,N[j]?=some b->∃ a,(N.set i { n with fin:=true })[j]?=some a/\a.state=b.state/\a.cost=b.cost/\a.used=b.used/\a.parent=b.parent/\a.op=b.op:=λ j b hj=>by
    by_cases A:j=i
    . subst A
      rw [hn] at hj
      obtain rfl:=L1 hj
      exact ⟨_,D9 u,rfl,rfl,rfl,rfl,rfl⟩
    . exact ⟨b,by rw [G2 (by omega)];exact hj,rfl,rfl,rfl,rfl,rfl⟩
  have C:∀ (p:Nat) (m:ONd),N[p]?=some m->m.fin=true->ord p < E:=λ p m K G=>T.ordl p m K G
  refine ⟨?_,?_,?_,?_,?_,?_,?_,?_,?_,by rw [Pj hn hf rfl,T.num],?_,?_,?_⟩
  . obtain ⟨n0,r1,r2,r3,r4,r5,r6⟩:=T.root
    obtain ⟨a,a1,a2,a3,a4,a5,a6⟩:=v 0 n0 r1
    exact ⟨a,a1,a2.trans r2,a4.trans r3,a3.trans r4,a5.trans r5,a6.trans r6⟩
  . intro j a hj
    rcases d j a hj with ⟨rfl,rfl⟩|⟨g,f⟩
    . rcases T.link j n hn with l|⟨s,q',o',m',a1,a2,a3,a4,a5,a6,a7,a8,a9,a10⟩
      . exact .inl l
      . obtain ⟨g,hp2⟩:=h s m' a4 a5
        exact .inr ⟨s,q',o',m',a1,a2,a3,hp2,a5,a6,a7,a8,a9,λ _=>by rw [if_neg g,if_pos rfl];exact C s m' a4 a5⟩
    . rcases T.link j a f with l|⟨s,q',o',m',a1,a2,a3,a4,a5,a6,a7,a8,a9,a10⟩
      . exact .inl l
      . obtain ⟨D,hp2⟩:=h s m' a4 a5
        exact .inr ⟨s,q',o',m',a1,a2,a3,hp2,a5,a6,a7,a8,a9,λ hd=>by rw [if_neg D,if_neg g];exact a10 hd⟩
  . intro j a hj c
    rcases d j a hj with ⟨rfl,rfl⟩|⟨g,f⟩
    . rw [if_pos rfl];omega
    . rw [if_neg g];have:=T.ordl j a f c;omega
  . intro j a hj c w z
    have hm:w∈hp:=l.mem_iff.2 (F8 _ z)
    rcases d j a hj with ⟨rfl,rfl⟩|⟨_,f⟩
    . have:=Ux (B w hm);dsimp only;omega
    . exact T.lower j a f c w hm
  . intro w z
    obtain ⟨j,b,j1,j2,j3⟩:=T.ent w (l.mem_iff.2 (F8 _ z))
    obtain ⟨a,a1,a2,a3,_⟩:=v j b j2
    exact ⟨j,a,j1,a1,by omega⟩
  . intro j a hj c
    rcases d j a hj with ⟨rfl,rfl⟩|⟨g,f⟩
    . cases c
    . obtain ⟨w,m,k1,k2⟩:=T.opn j a f c
      rcases M8.1 (l.mem_iff.1 m) with rfl|hm
      . omega
      . exact ⟨w,hm,k1,k2⟩
  . intro j a hj
    obtain ⟨b,b1,_,b3⟩:=r j a hj
    have:=T.bound j b b1
    omega
  . intro j a hj c
    rcases d j a hj with ⟨rfl,rfl⟩|⟨_,f⟩
    . exact J
    . exact T.nogoal j a f c
  . intro j a q hj c L M
    rcases d j a hj with ⟨rfl,rfl⟩|⟨_,f⟩
    . exact absurd rfl M
    . obtain ⟨k,o,i',m,a1,a2,a3,a4,a5⟩:=T.rel j a q f c L trivial
      obtain ⟨b,b1,b2,b3,_⟩:=v i' m a3
      exact ⟨k,o,i',b,a1,a2,b1,by rw [b2];exact a4,by omega⟩
  . intro j a hj
    obtain ⟨b,b1,b2,_⟩:=r j a hj
    rw [<- b2];exact T.rch j b b1
  . intro _
    by_cases I:i=0
    . subst I;exact ⟨_,D9 u,rfl⟩
    . rcases T.link i n hn with l|⟨s,_,_,m',_,_,_,a4,a5,_⟩
      . exact absurd l I
      . have O:0 < E:=by have:=T.ordl s m' a4 a5;omega
        obtain ⟨b,b1,b2⟩:=T.first O
        exact ⟨b,(h 0 b b1 b2).2,b2⟩
  . intro a b x y P Q hs
    obtain ⟨R,x1,x2,_⟩:=r a x P
    obtain ⟨S,y1,y2,_⟩:=r b y Q
    exact T.uniq a b R S x1 y1 (by rw [x2,y2,hs])
theorem OrI.front (p:OrI t cn wd (λ _ _=>True) N hp ord E) (a:TaskOk t) {s:List Int} {C:Int} (b:WalkC t cn s C):∀ (i:Nat) n,N[i]?=some n->n.state=s->∃ e∈hp,e.key<=n.cost + C:=by
  induction b with
  | @goal s d =>
    intro i n hi hs
    cases hb:n.fin with
    | false=>obtain ⟨e,m,k1,_⟩:=p.opn i n hi hb;exact ⟨e,m,by omega⟩
    | true=>have:=p.nogoal i n hi hb;rw [hs,d] at this;cases this
  | @step s k o C c hk b f =>
    intro i n hi hs
    have j:=Uz a b
    have l:=(a.2.2.2.2.2 k o c).1
    cases hb:n.fin with
    | false=>obtain ⟨e,m,k1,_⟩:=p.opn i n hi hb;exact ⟨e,m,by omega⟩
    | true =>
      obtain ⟨g,o',i',m,a1,a2,a3,a4,a5⟩:=p.rel i n (k:Int) hi hb (by rw [hs];exact QY c hk) trivial
      have h:k=g:=by omega
      subst h
      rw [c] at a2
      obtain rfl:=L1 a2
      rw [hs] at a4
      obtain ⟨e,m',k1⟩:=f i' m a3 a4
      exact ⟨e,m',by omega⟩
theorem OrI.all (g:OrI t cn wd (λ _ _=>True) N [] ord E) {s:List Int} (hs:OR t cn s):∃ (i:Nat) (n:ONd),N[i]?=some n/\n.state=s/\n.fin=true:=by
  have a:∀ (i:Nat) n,N[i]?=some n->n.fin=true:=λ i n hi=>by
    cases hb:n.fin with
    | true=>rfl
    | false=>obtain ⟨e,m,_⟩:=g.opn i n hi hb;simp at m
  induction hs with
  | init=>obtain ⟨n,r1,r2,_⟩:=g.root;exact ⟨0,n,r1,r2,a 0 n r1⟩
  | @step s k o _ _ b hp c =>
    obtain ⟨i,n,i1,i2,i3⟩:=c
    obtain ⟨d,o',i',m,a1,a2,a3,a4,_⟩:=g.rel i n (k:Int) i1 i3 (by rw [i2];exact QY b hp) trivial
    have f:k=d:=by omega
    subst f
    rw [b] at a2
    obtain rfl:=L1 a2
    exact ⟨i',m,a3,by rw [a4,i2],a i' m a3⟩
theorem OrI.more (r:OrI t cn wd D N hp ord E) {c:Nat→Int→Prop} {j₀:Nat} {q₀:Int} (d:∀ j q,c j q→D j q∨(j=j₀∧q=q₀)) {n m:ONd} (hn:N[j₀]?=some n) {k:Nat} {o:Opr} {i:Nat} (e:q₀=(k:Int)) (f:t.ops[k]?=some o) (g:N[i]?=some m) (h:m.state=cn (succ o n.state)) (l:m.cost≤n.cost + o.cost):OrI t cn wd c N hp ord E :=
  { r with
    rel := λ j a q hj b p hd=>by
      rcases d j q hd with hd|⟨rfl,rfl⟩
      . exact r.rel j a q hj b p hd
      . rw [hn] at hj
        obtain rfl:=L1 hj
        exact ⟨k,o,i,m,e,f,g,h,l⟩ }
inductive TrN (N:List ONd):Nat->List Nat->Prop
  | root {n:ONd}:N[0]?=some n->n.parent=-1->TrN N 0 [0]
  | step {i p:Nat} {n:ONd} {l:List Nat}:N[i]?=some n->n.parent=(p:Int)->TrN N p l->TrN N i (l ++ [i])
theorem OrI.trace (d:OrI t cn wd D N hp ord E):∀ (b i:Nat) n,ord i < b->N[i]?=some n->n.fin=true->∃ l,TrN N i l/\l.length<=ord i + 1:=by
  intro b
  induction b with
  | zero=>intro i n hb;omega
  | succ b a =>
    intro i n hb hi hd
    rcases d.link i n hi with rfl|⟨p,q,o,m,a1,a2,a3,a4,a5,a6,a7,a8,a9,a10⟩
    . obtain ⟨n0,r1,_,_,_,r5,_⟩:=d.root
      exact ⟨[0],.root r1 r5,by simp⟩
    . have c:=a10 hd
      obtain ⟨l,l1,l2⟩:=a p m (by omega) a4 a5
      exact ⟨l ++ [i],.step hi a1 l1,by simp;omega⟩
theorem OrI.path (b:OrI t cn wd D N hp ord E) {i:Nat} {n:ONd} (hi:N[i]?=some n):∃ l,TrN N i l/\l.length<=E + 1:=by
  rcases b.link i n hi with rfl|⟨p,q,o,m,a1,a2,a3,a4,a5,_⟩
  . obtain ⟨n0,r1,_,_,_,r5,_⟩:=b.root
    exact ⟨[0],.root r1 r5,by simp⟩
  . have a:=b.ordl p m a4 a5
    obtain ⟨l,l1,l2⟩:=b.trace (ord p + 1) p m (by omega) a4 a5
    exact ⟨l ++ [i],.step hi a1 l1,by simp;omega⟩
end
end
section
open Go Go.RowKit
abbrev BQ:=BxR 71 77 OEn
abbrev AI:=An 77 OEn
def toQ (x:OEn):QEn:=⟨x.cost,0,x.node,x.number⟩
def qs (l:List OEn):List QEn:=l.map toQ
theorem Il (l:List OEn):(qs l).length=l.length:=by simp [qs]
theorem Im {l:List OEn} {i:Nat} {x:OEn} (a:l[i]?=some x):(qs l)[i]?=some (toQ x):=by unfold qs;rw [I4,a];rfl
theorem Ly (l:List OEn) (i:Nat) (x:OEn):qs (l.set i x)=(qs l).set i (toQ x):=by unfold qs;rw [N7]
theorem Xy (l:List OEn) (n:Nat):qs (l.take n)=(qs l).take n:=by unfold qs;rw [List.map_take]
theorem MT {l:List OEn} {i j:Nat} {a b:OEn} (f:l[i]?=some a) (hb:l[j]?=some b):CO l (i:Int) (j:Int)=some (decide (bfr (toQ a) (toQ b))):=by
  unfold CO
  rw [Bd,f,Ar,Bd,hb,Ar,Ar,Ar,Ar,Ar]
  unfold bfr toQ
  by_cases c:a.cost=b.cost
  . rw [if_neg (by simp [c])]
    by_cases d:a.number < b.number
    . rw [if_pos d,Ar];simp [c,d]
    . rw [if_neg d,Ar];simp [c,d]
  . rw [if_pos c]
    by_cases e:a.cost < b.cost
    . rw [if_pos e,Ar];simp [e]
    . rw [if_neg e,Ar];simp [e,c]
theorem MU {l:List OEn} {i j:Nat} {a b:OEn} (e:l[i]?=some a) (hb:l[j]?=some b):Ct l (i:Int) (j:Int)=some ((l.set i b).set j a):=by
  have f:=AD e
  have d:=AD hb
  obtain ⟨c,hc⟩:=AG (l:=l.set i b) (k:=j) (by simp;exact d)
  unfold Ct
  rw [Bd,hb,Ar,Bd,e,Ar,Ar,I9,Bd,hc,Ar,I9]
theorem Yz {q:BQ} {i:Nat} (hi:i < q.l.length) (hl:q.l.length≤1000000) (o:UpI (qs q.l) i):∃ r,Eu q (i:Int)=some r∧U6 (qs r.l)∧(qs r.l).Perm (qs q.l):=by
  unfold Eu
  refine NE (λ s=>∃ i:Nat,s.1=(i:Int)/\i < s.2.l.length/\UpI (qs s.2.l) i/\(qs s.2.l).Perm (qs q.l)) (λ s=>U6 (qs s.2.l)/\(qs s.2.l).Perm (qs q.l)) (λ _=>False) (λ s=>s.1.toNat) ⟨i,rfl,hi,o,M5 _⟩ ?_ (λ s hs=>⟨_,rfl,hs⟩) (λ s hs=>hs.elim)
  rintro ⟨c,s⟩ ⟨i,hc,hi,hu,hp⟩
  dsimp only at hc hi hu hp ⊢
  subst hc
  have e:=hp.length_eq
  rw [Il,Il] at e
  rw [BZ (by unfold P9;omega),Ar]
  by_cases n:0 < (i:Int)
  . have f:Z5 ((i:Int) - 1) 2=some (((i - 1) / 2:Nat):Int):=by
      unfold Z5;rw [if_pos (by omega),if_pos (by omega)];congr 1;omega
    obtain ⟨a,ha⟩:=AG (l:=s.l) (k:=i) hi
    obtain ⟨b,hb⟩:=AG (l:=s.l) (k:=(i - 1) / 2) (by omega)
    rw [f,Ar,if_neg (by omega),MT ha hb,Ar]
    by_cases d:bfr (toQ a) (toQ b)
    . rw [decide_eq_true d,BS,Ar,CA,MU hb ha,Ar]
      have h:qs ((s.l.set ((i - 1) / 2) a).set i b)=((qs s.l).set i (toQ b)).set ((i - 1) / 2) (toQ a):=by
        rw [Ly,Ly,List.set_comm _ _ (by omega)]
      refine .inl ⟨_,rfl,⟨(i - 1) / 2,rfl,by simp;omega,?_,?_⟩,?_⟩
      . dsimp only;rw [h];exact hu.step (by omega) (Im ha) (Im hb) d
      . dsimp only;rw [h];exact (QW (Im ha) (Im hb)).trans hp
      . dsimp only;omega
    . rw [decide_eq_false d,CA,Ar,BS]
      refine .inr (.inl ⟨_,rfl,hu.heap (.inr λ x y j m=>?_),hp⟩)
      rw [Im ha] at j
      rw [Im hb] at m
      obtain rfl:=L1 j
      obtain rfl:=L1 m
      exact d
  . have g:i=0:=by omega
    subst g
    have f:Z5 (((0:Nat):Int) - 1) 2=some 0:=rfl
    rw [f,Ar,if_pos (show (0:Int)=((0:Nat):Int) from rfl),Ar,BS]
    exact .inr (.inl ⟨_,rfl,hu.heap (.inl rfl),hp⟩)
theorem VT {q:BQ} (m:U6 (qs q.l)) (hl:q.l.length<=900000) (x:OEn):∃ r,DC q ⟨x⟩=some r/\U6 (qs r.l)/\(qs r.l).Perm (toQ x :: qs q.l):=by
  unfold DC FU CH
  rw [Cu (by simp;omega) (by simp;omega),Ar,Ar,Ar,BZ (by unfold P9;simp;omega),Ar]
  have b:(((q.l ++ [x]).length:Int) - 1)=((q.l.length:Nat):Int):=by simp
  rw [b]
  have c:qs (q.l ++ [x])=qs q.l ++ [toQ x]:=by simp [qs]
  obtain ⟨r,r1,r2,r3⟩:=Yz (q:=⟨q.l ++ [x]⟩) (i:=q.l.length) (by simp) (by simp;omega) ⟨λ j y z hj f a d=>by
    dsimp only at a d
    rw [c] at a d
    have e:j < (qs q.l).length:=by have:=AD a;simp at this;rw [Il] at this ⊢;omega
    rw [B8 e] at a
    rw [B8 (by omega)] at d
    exact m j y z hj a d,λ j y z g h k a d=>by
    dsimp only at a
    have:=AD a
    rw [Il] at this
    simp at this
    omega⟩
  rw [r1,Ar]
  refine ⟨_,rfl,r2,r3.trans ?_⟩
  dsimp only
  rw [c]
  exact List.perm_append_comm (l₁:=qs q.l) (l₂:=[_])
theorem VU {q:BQ} {n:Nat} (hn:n≤q.l.length) (hl:q.l.length≤1000000) (F:DownI (qs (q.l.take n)) 0):∃ r,Ed q 0 (n:Int)=some r∧U6 (qs (r.2.l.take n))∧(qs (r.2.l.take n)).Perm (qs (q.l.take n))∧r.2.l.drop n=q.l.drop n∧r.2.l.length=q.l.length:=by
  unfold Ed
  refine NE (λ s=>∃ i:Nat,s.1=(i:Int)/\DownI (qs (s.2.l.take n)) i/\i<=n/\(qs (s.2.l.take n)).Perm (qs (q.l.take n))/\s.2.l.drop n=q.l.drop n/\s.2.l.length=q.l.length) (λ s=>U6 (qs (s.2.l.take n))/\(qs (s.2.l.take n)).Perm (qs (q.l.take n))/\s.2.l.drop n=q.l.drop n/\s.2.l.length=q.l.length) (λ _=>False) (λ s=>n - s.1.toNat) ⟨0,rfl,F,by omega,M5 _,rfl,rfl⟩ ?_ ?_ (λ s hs=>hs.elim)
  . rintro ⟨c,s⟩ ⟨i,hc,hd,hi,hp,hdr,hsl⟩
    dsimp only at hc hd hi hp hdr hsl ⊢
    subst hc
    rw [BZ (by unfold P9;omega),Ar,BZ (by unfold P9;omega),Ar]
    by_cases B:(n:Int)<=2 * (i:Int) + 1
    . rw [if_pos B,Ar,BS]
      refine .inr (.inl ⟨_,rfl,hd.heap λ j x y hj m e _=>?_,hp,hdr,hsl⟩)
      have:=AD e
      rw [Il,K0] at this
      omega
    rw [if_neg B,if_neg (by omega),Ar,CA]
    obtain ⟨a,ha⟩:=AG (l:=s.l) (k:=i) (by omega)
    obtain ⟨b,hb⟩:=AG (l:=s.l) (k:=2 * i + 1) (by omega)
    have u:∀ {k:Nat} {x:OEn},k < n->s.l[k]?=some x->(qs (s.l.take n))[k]?=some (toQ x):=λ {k x} hk e=>Im (by rw [List.getElem?_take_of_lt hk];exact e)
    have o:2 * (i:Int) + 1=((2 * i + 1:Nat):Int):=by omega
    have z:2 * (i:Int) + 1 + 1=((2 * i + 2:Nat):Int):=by omega
    have p:∀ (c:Nat) (d:OEn),(c=2 * i + 1\/c=2 * i + 2)->c < n->s.l[c]?=some d->(∀ (j:Nat) x,0 < j->(j - 1) / 2=i->(qs (s.l.take n))[j]?=some x->nb x (toQ d))->(∃ h,(bnd (CO s.l (c:Int) (i:Int)) λ t=>if t=true then bnd (Ct s.l (i:Int) (c:Int)) λ g=>some (Ctl.next (ρ:=Bool×BQ) ((c:Int),(⟨g⟩:BQ))) else some (.brk ((i:Int),s)))=some (.next h)/\(∃ i:Nat,h.1=(i:Int)/\DownI (qs (h.2.l.take n)) i/\i<=n/\(qs (h.2.l.take n)).Perm (qs (q.l.take n))/\h.2.l.drop n=q.l.drop n/\h.2.l.length=q.l.length)/\n - h.1.toNat < n - ((i:Int)).toNat)\/(∃ h,(bnd (CO s.l (c:Int) (i:Int)) λ t=>if t=true then bnd (Ct s.l (i:Int) (c:Int)) λ g=>some (Ctl.next (ρ:=Bool×BQ) ((c:Int),(⟨g⟩:BQ))) else some (.brk ((i:Int),s)))=some (.brk h)/\U6 (qs (h.2.l.take n))/\(qs (h.2.l.take n)).Perm (qs (q.l.take n))/\h.2.l.drop n=q.l.drop n/\h.2.l.length=q.l.length)\/∃ r,(bnd (CO s.l (c:Int) (i:Int)) λ t=>if t=true then bnd (Ct s.l (i:Int) (c:Int)) λ g=>some (Ctl.next (ρ:=Bool×BQ) ((c:Int),(⟨g⟩:BQ))) else some (.brk ((i:Int),s)))=some (.ret r)/\False:=by
      intro c d hc A f hs
      rw [MT f ha,Ar]
      have C:qs (((s.l.set i d).set c a).take n)=((qs (s.l.take n)).set i (toQ d)).set c (toQ a):=by
        rw [List.take_set,List.take_set,Ly,Ly]
      by_cases v:bfr (toQ d) (toQ a)
      . rw [decide_eq_true v,BS,MU ha f,Ar]
        refine .inl ⟨_,rfl,⟨c,rfl,?_,by omega,?_,?_,by simp;exact hsl⟩,?_⟩
        . dsimp only;rw [C];exact hd.step hc (u (by omega) ha) (u A f) v hs
        . dsimp only;rw [C];exact (QW (u (by omega) ha) (u A f)).trans hp
        . dsimp only
          rw [<- hdr]
          apply I3
          intro k
          rw [H7,H7,G2 (by omega),G2 (by omega)]
        . dsimp only;omega
      . rw [decide_eq_false v,CA]
        refine .inr (.inl ⟨_,rfl,hd.heap λ j x y hj m e D=>?_,hp,hdr,hsl⟩)
        rw [u (by omega) ha] at D
        obtain rfl:=L1 D
        exact Kz (hs j x hj m e) v
    rw [BZ (by unfold P9;omega),Ar]
    by_cases E:2 * (i:Int) + 1 + 1 < (n:Int)
    . obtain ⟨d,f⟩:=AG (l:=s.l) (k:=2 * i + 2) (by omega)
      rw [if_pos E,z,o,MT f hb,Ar]
      by_cases w:bfr (toQ d) (toQ b)
      . rw [decide_eq_true w,BS,Ar,BS,Ar]
        refine p (2 * i + 2) d (.inr rfl) (by omega) f λ j x hj m e=>?_
        have:j=2 * i + 1\/j=2 * i + 2:=by omega
        rcases this with rfl|rfl
        . rw [u (by omega) hb] at e;obtain rfl:=L1 e;exact Py w
        . rw [u (by omega) f] at e;obtain rfl:=L1 e;exact NK _
      . rw [decide_eq_false w,CA,Ar,CA,Ar]
        refine p (2 * i + 1) b (.inl rfl) (by omega) hb λ j x hj m e=>?_
        have:j=2 * i + 1\/j=2 * i + 2:=by omega
        rcases this with rfl|rfl
        . rw [u (by omega) hb] at e;obtain rfl:=L1 e;exact NK _
        . rw [u (by omega) f] at e;obtain rfl:=L1 e;exact w
    . rw [if_neg E,Ar,CA,Ar,o]
      refine p (2 * i + 1) b (.inl rfl) (by omega) hb λ j x hj m e=>?_
      have:j=2 * i + 1:=by have:=AD e;rw [Il,K0] at this;omega
      subst this
      rw [u (by omega) hb] at e;obtain rfl:=L1 e;exact NK _
  . intro s hs
    by_cases hz:0 < s.1
    . rw [BB,if_pos hz,Ar];exact ⟨_,rfl,hs⟩
    . rw [BB,if_neg hz,Ar];exact ⟨_,rfl,hs⟩
theorem Xz {q:BQ} (F:U6 (qs q.l)) (o:0 < q.l.length) (hl:q.l.length≤900000):∃ r,DL q=some r∧∃ (e:OEn) (p:BQ),r=((⟨e⟩:AI),p)∧U6 (qs p.l)∧(qs q.l).Perm (toQ e :: qs p.l)∧∀ x∈qs q.l,nb x (toQ e):=by
  obtain ⟨e,he⟩:=AG (l:=q.l) (k:=0) o
  obtain ⟨z,hz⟩:=AG (l:=q.l) (k:=q.l.length - 1) (by omega)
  have t:((q.l.length:Int) - 1)=((q.l.length - 1:Nat):Int):=by omega
  have C:Ct q.l 0 ((q.l.length - 1:Nat):Int)=some ((q.l.set 0 z).set (q.l.length - 1) e):=MU (i:=0) he hz
  unfold DL CH
  rw [Ar,BZ (by unfold P9;omega),Ar,t,C,Ar]
  have u:((q.l.set 0 z).set (q.l.length - 1) e).take (q.l.length - 1)=(q.l.set 0 z).take (q.l.length - 1):=by
    rw [List.take_set]
    exact List.set_eq_of_length_le (by simp)
  have b:(qs q.l).Perm (toQ e :: qs ((q.l.set 0 z).take (q.l.length - 1))):=by
    have:q.l.Perm (e :: (q.l.set 0 z).take (q.l.length - 1)):=by
      cases v:q.l with
      | nil=>rw [v] at o;simp at o
      | cons a s =>
        rw [v] at he hz
        simp at he
        subst he
        cases d:s.reverse with
        | nil =>
          have:s=[]:=by simpa using d
          subst this
          simp
        | cons w r =>
          have f:s=r.reverse ++ [w]:=by have:=congrArg List.reverse d;simpa using this
          subst f
          simp at hz
          subst hz
          simp
    exact this.map toQ
  obtain ⟨r,r1,r2,r3,r4,r5⟩:=VU (q:=⟨(q.l.set 0 z).set (q.l.length - 1) e⟩) (n:=q.l.length - 1) (by simp) (by simp;omega) (by
    dsimp only
    rw [u]
    refine ⟨λ j x y hj D A B=>?_,λ j x y E=>by omega⟩
    rw [Xy,Ly] at A B
    have g:=Ph A
    have h:=Ph B
    rw [G2 (by omega)] at g h
    exact F j x y hj g h)
  dsimp only at r3 r4 r5
  rw [u] at r3
  simp only [L5] at r5
  rw [r1,Ar]
  unfold Gm
  have c:r.2.l[q.l.length - 1]?=some e:=by
    have:(r.2.l.drop (q.l.length - 1))[0]?=some e:=by
      rw [r4,H7,N3,D9 (by simp;omega)]
    rwa [H7,N3] at this
  have m:Aau r.2.l 0 ((q.l.length - 1:Nat):Int)=some (r.2.l.take (q.l.length - 1)):=by
    unfold Aau
    rw [if_pos (by simp;omega)]
    simp
  rw [r5,t,BZ (by unfold P9;omega),Ar,Bd,c,Ar,Ar,m,Ar,Ar]
  exact ⟨_,rfl,e,⟨r.2.l.take (q.l.length - 1)⟩,rfl,r2,b.trans (List.Perm.cons _ r3.symm),Uy F (Im he)⟩
end
section
open Go Go.RowKit
theorem XA (a b:Int):CM a b=some (Lib.compareInt a b):=by
  unfold CM EJ
  rcases GC a b with ⟨c,h2⟩|⟨c,h2⟩|⟨c,h2⟩
  . simp [bnd,c,h2]
  . subst c;simp [bnd,h2]
  . have:¬ a < b:=by omega
    simp [bnd,c,h2,this]
theorem XB (xs ys:List Int):Cy xs ys=some (cfL xs ys):=by
  have:∃ r,Cy xs ys=some r/\r=cfL xs ys:=by
    unfold Cy
    refine TX (λ m _=>m<=ys.length/\cfL xs ys=cfL (xs.drop m) (ys.drop m)) (λ r=>r=cfL xs ys) ⟨P4 _,rfl⟩ ?_ ?_ (λ q f=>⟨_,rfl,f⟩)
    . rintro m x _ e ⟨d,h2⟩
      by_cases b:(ys.length:Int)<=(m:Int)
      . rw [if_pos b]
        refine .inr ⟨_,rfl,?_⟩
        rw [h2,Qf (l:=ys) (by omega),B7 (AD e)]
        rfl
      . rw [if_neg b]
        obtain ⟨y,hy⟩:=HM (l:=ys) (k:=m) (by omega)
        have a:=Vc e hy
        rw [hy,Ar,XA,Ar]
        by_cases hc:Lib.compareInt x y≠0
        . rw [if_pos hc]
          rw [if_pos hc] at a
          exact .inr ⟨_,rfl,by rw [h2,a]⟩
        . rw [if_neg hc]
          rw [if_neg hc] at a
          exact .inl ⟨(),rfl,by omega,by rw [h2,a]⟩
    . rintro _ ⟨d,h2⟩
      rw [BB]
      rw [List.drop_length] at h2
      by_cases c:(xs.length:Int) < (ys.length:Int)
      . rw [if_pos c]
        refine ⟨_,rfl,?_⟩
        rw [h2,B7 (l:=ys) (i:=xs.length) (by omega)]
        rfl
      . rw [if_neg c]
        refine ⟨_,rfl,?_⟩
        rw [h2,Qf (l:=ys) (by omega)]
        rfl
  obtain ⟨r,d,h2⟩:=this
  rw [d,h2]
def txt (s:List Int):ByteArray:=ZV (s.map bw)
end
section
open Go Go.RowKit
noncomputable def imS (x:Swp) (s:List Int):List Int:=(DG x s).getD []
theorem Lz {t:Tsk} {x:Swp} {s:List Int} (a:TaskOk t) (b:Q0 t x) (hs:StateOk t.vars s):DG x s=some (imS x s)/\ImS x s (imS x s)/\StateOk t.vars (imS x s):=by
  obtain ⟨r,h1,h2⟩:=Qr a b hs
  have:imS x s=r:=by unfold imS;rw [h1];rfl
  rw [this]
  exact ⟨h1,h2,Uh b hs h2⟩
def muL (vars s:List Int):Nat:=((statesL vars).filter λ x=>decide (cfL x s < 0)).length
theorem Pk {α:Type} {p q:α→Bool}:∀ {l:List α},(∀ x∈l,p x=true→q x=true)→(∃ x∈l,q x=true∧p x=false)→(l.filter p).length < (l.filter q).length
  | [],_,h=>by obtain ⟨x,hx,_⟩:=h;cases hx
  | y :: l,hsub,⟨x,hx,h1,h2⟩=>by
    have d:(l.filter p).length<=(l.filter q).length:=by
      clear hx
      induction l with
      | nil=>simp
      | cons z l c =>
        have e:=c λ a ha=>hsub a (by rcases M8.1 ha with rfl|ha;exact H8;exact F8 _ (F8 _ ha))
        have hz:=hsub z (F8 _ H8)
        rw [K7,K7]
        cases b:p z with
        | true=>rw [hz b];simp;omega
        | false=>cases q z<;>simp<;>omega
    rw [K7,K7]
    rcases M8.1 hx with rfl|hx
    . rw [h1,h2];simp;omega
    . have c:=Pk (l:=l) (λ a ha=>hsub a (F8 _ ha)) ⟨x,hx,h1,h2⟩
      have f:=hsub y H8
      cases b:p y with
      | true=>rw [f b];simp;omega
      | false=>cases q y<;>simp<;>omega
theorem YA {vars s r:List Int} (hr:StateOk vars r) (c:cfL r s < 0):muL vars r < muL vars s:=by
  refine Pk (λ x _ a=>?_) ⟨r,GY.2 hr,by simpa using c,by rw [MD];simp⟩
  simp at a ⊢
  have b:=Lh (Int.le_of_lt a) (Int.le_of_lt c)
  rcases Int.lt_or_eq_of_le b with h4|h4
  . exact h4
  . exfalso
    have:=TM h4
    rw [<- this,RT] at c
    omega
noncomputable def ZC (g:List Swp):(List Int)×(List Int)×Int->Option (Ctl ((List Int)×(List Int)×Int) ((List Int)×(List Int)×Err)) :=
  λ (a:(List Int)×(List Int)×Int)=>if a.2.2 < (g.length:Int) then (bnd (atI g a.2.2) λ f=>bnd (DG f a.1) λ b=>bnd (Cy b a.1) λ c=>if 0<=c then (bnd (Q1 (a.2.2 + 1)) λ d=>some (.next (a.1,a.2.1,d))) else (bnd (R8 8 a.2.1 [a.2.2]) λ e=>some (.next (b,e,0)))) else (some (.brk (a.1,a.2.1,a.2.2)))
def AaK (a:List Swp) (s:List Int) (k:Nat):Prop:=∃ x,a[k]?=some x/\cfL (imS x s) s < 0
theorem UA {t:Tsk} (c:TaskOk t) {a:List Swp} (p:∀ x∈a,SymP t x) (q:a.length≤1000) {s used:List Int} (hs:StateOk t.vars s) (hu:used.length≤100000):∀ (n k:Nat),a.length - k=n→k≤a.length →
    ((∀ j,k<=j->¬ AaK a s j)/\lop (ZC a) (s,used,(k:Int))=some (.done (s,used,(a.length:Int))))\/∃ m x,k<=m/\(∀ j,k<=j->j < m->¬ AaK a s j)/\a[m]?=some x/\cfL (imS x s) s < 0/\lop (ZC a) (s,used,(k:Int))=lop (ZC a) (imS x s,used ++ [(m:Int)],0):=by
  intro n
  induction n with
  | zero =>
    intro k hk d
    have:k=a.length:=by omega
    subst this
    refine .inl ⟨λ j hj hf=>by obtain ⟨x,hx,_⟩:=hf;have:=AD hx;omega,?_⟩
    rw [Dj]
    simp only [ZC]
    rw [if_neg (by omega)]
  | succ n r =>
    intro k hk d
    obtain ⟨x,hx⟩:=HM (l:=a) (k:=k) (by omega)
    obtain ⟨g,u,h3⟩:=Lz c (p x (F9 hx)).1 hs
    have h:=AD hx
    have step:ZC a (s,used,(k:Int))=if 0<=cfL (imS x s) s then some (.next (s,used,(k:Int) + 1)) else some (.next (imS x s,used ++ [(k:Int)],0)):=by
      simp only [ZC]
      rw [if_pos (by omega),Bd,hx,Ar,g,Ar,XB,Ar,BZ (by unfold P9;omega),Ar,Cu (by simp;omega) (by simp;omega),Ar]
    by_cases hc:0<=cfL (imS x s) s
    . have i:lop (ZC a) (s,used,(k:Int))=lop (ZC a) (s,used,((k + 1:Nat):Int)):=by
        rw [Dj,step,if_pos hc]
        simp
      have b:¬ AaK a s k:=λ ⟨y,hy,hlt⟩=>by
        rw [hx] at hy
        obtain rfl:=L1 hy
        omega
      rcases r (k + 1) (by omega) (by omega) with ⟨o,g2⟩|⟨m,y,o,g2,g3,g4,g5⟩
      . refine .inl ⟨λ j hj=>?_,by rw [i,g2]⟩
        by_cases e:j=k
        . subst e;exact b
        . exact o j (by omega)
      . refine .inr ⟨m,y,by omega,λ j hj f=>?_,g3,g4,by rw [i,g5]⟩
        by_cases e:j=k
        . subst e;exact b
        . exact g2 j (by omega) f
    . refine .inr ⟨k,x,P1 _,λ j g u=>by omega,hx,by omega,?_⟩
      rw [Dj,step,if_neg hc]
inductive Word (gens:List Swp):List Int->List Int->List Int->Prop
  | nil {s:List Int}:Word gens s [] s
  | cons {s r ws:List Int} {m:Nat} {x:Swp}:gens[m]?=some x->Word gens (imS x s) ws r->Word gens s ((m:Int) :: ws) r
theorem VV {t:Tsk} (b:TaskOk t) {a:List Swp} (f:∀ x∈a,SymP t x) (d:a.length<=1000):∀ (n:Nat) (s used:List Int),StateOk t.vars s->muL t.vars s < n->used.length + n<=100000 ->
    ∃ r c,lop (ZC a) (s,used,0)=some (.done (r,used ++ c,(a.length:Int)))/\True/\StateOk t.vars r/\cfL r s<=0/\Word a s c r/\∀ j,¬ AaK a r j:=by
  intro n
  induction n with
  | zero=>intro s used _ m;omega
  | succ n h =>
    intro s used hs i k
    rcases UA b f d hs (used:=used) (by omega) a.length 0 (by omega) (by omega) with ⟨g,f2⟩|⟨q,x,g,f2,f3,f4,f5⟩
    . exact ⟨s,[],by simpa using f2,trivial,hs,by rw [MD];omega,.nil,λ j=>g j (P4 _)⟩
    . obtain ⟨l,h2,h3⟩:=Lz b (f x (F9 f3)).1 hs
      have hlt:=YA h3 f4
      obtain ⟨r,c,r1,_,r3,r4,r5,r6⟩:=h (imS x s) (used ++ [(q:Int)]) h3 (by omega) (by simp;omega)
      refine ⟨r,(q:Int) :: c,?_,trivial,r3,Lh r4 (by omega),.cons f3 r5,r6⟩
      have e:lop (ZC a) (s,used,0)=lop (ZC a) (imS x s,used ++ [(q:Int)],0):=f5
      rw [e,r1]
      simp
theorem AbF {t:Tsk} (b:TaskOk t) {a:List Swp}:By t a=some ⟨if bof (∀ x∈a,SymP t x)=true then 0 else 2⟩:=by
  have:∃ r,By t a=some r/\r=⟨if bof (∀ x∈a,SymP t x)=true then 0 else 2⟩:=by
    unfold By Dr
    rw [EO.2 b,Ar,if_neg (by simp)]
    refine TX (λ m _=>∀ x∈a.take m,SymP t x) (λ r=>r=⟨2⟩/\¬ ∀ x∈a,SymP t x) (λ x c=>by simp at c) ?_ ?_ ?_
    . intro m x _ c d
      rw [LR b,Ar]
      by_cases g:SymP t x
      . rw [Bk g,BS]
        refine .inl ⟨(),rfl,λ y e=>?_⟩
        rcases (Fz c).1 e with e|rfl
        . exact d y e
        . exact g
      . rw [AY g,CA]
        exact .inr ⟨_,rfl,rfl,λ f=>g (f x (F9 c))⟩
    . intro _ d
      rw [K4] at d
      exact ⟨_,rfl,by rw [Bk d];rfl⟩
    . rintro q ⟨rfl,hn⟩
      exact ⟨_,rfl,by rw [AY hn];rfl⟩
  obtain ⟨r,h1,h2⟩:=this
  rw [h1,h2]
theorem XC {t:Tsk} (hs:SmallOk t) (s:List Int):muL t.vars s<=512:=N6 (F5 _ _) hs.many
theorem UB {t:Tsk} (e:SmallOk t) {a:List Swp} (m:∀ x∈a,SymP t x) (h:a.length<=1000) {s:List Int} (hs:StateOk t.vars s) :
    ∃ r g,Cz t a s=some (r,g,⟨0⟩)/\True/\StateOk t.vars r/\cfL r s<=0/\Word a s g r/\∀ j,¬ AaK a r j:=by
  have b:=e.ok
  obtain ⟨r,g,r1,r2,r3,r4,r5,r6⟩:=VV b m h 513 s [] hs (by have:=XC e s;omega) (by simp)
  rw [L3] at r1
  refine ⟨r,g,?_,trivial,r3,r4,r5,r6⟩
  . have i:Cz t a s=bnd (By t a) λ f=>if f.n≠0 then (some (([]:List Int),([]:List Int),(⟨f.n⟩:Err))) else (bnd (Hg t.vars s) λ k=>if k=true then bnd (BW s) λ l=>bnd (lop (ZC a) (l,([]:List Int),0)) λ d=>fin d λ (c:(List Int)×(List Int)×Int)=>some (c.1,c.2.1,(⟨0⟩:Err)) else some (([]:List Int),([]:List Int),(⟨2⟩:Err))):=rfl
    have hc:BW s=some s:=if_pos ⟨by have:=hs.1;have:=b.1;omega,by have:=hs.1;have:=b.1;omega⟩
    rw [i,AbF b,Bk m,Ar,BS,if_neg (by simp)]
    unfold Hg
    rw [Bk hs,Ar,BS,hc,Ar,r1,Ar,BB]
theorem VW {t:Tsk} (c:SmallOk t) {a:List Swp} (e:∀ x∈a,SymP t x) (d:a.length<=1000) {s:List Int} (hs:StateOk t.vars s) :
    ∃ r b,Cz t a s=some (r,b,⟨0⟩)/\True/\StateOk t.vars r/\cfL r s<=0/\Word a s b r:=by
  obtain ⟨r,b,h1,h2,h3,h4,h5,_⟩:=UB c e d hs
  exact ⟨r,b,h1,h2,h3,h4,h5⟩
end
section
open Go Go.RowKit
theorem XD {t:Tsk} (c:TaskOk t) {a b:List Int} (d:StateOk t.vars a) (hb:StateOk t.vars b) (o:txt a=txt b):a=b:=by
  have f:(a.map bw).map (λ b:Byt=>UInt8.ofNat b.n.toNat)=(b.map bw).map λ b:Byt=>UInt8.ofNat b.n.toNat:=by
    unfold txt ZV at o
    have:=congrArg ByteArray.data o
    simpa using this
  apply I3
  intro i
  rcases N2 i t.vars.length with hi|hi
  . obtain ⟨n,hn⟩:=HM (l:=t.vars) (k:=i) hi
    obtain ⟨x,hx⟩:=HM (l:=a) (k:=i) (by rw [d.1];exact hi)
    obtain ⟨y,hy⟩:=HM (l:=b) (k:=i) (by rw [hb.1];exact hi)
    have g:=d.2 i x n hx hn
    have h:=hb.2 i y n hy hn
    have j:=c.2.2.1 i n hn
    have e:=congrArg (·[i]?) f
    simp only [I4,hx,hy,L8] at e
    have m:=congrArg UInt8.toNat (L1 e)
    simp [bw] at m
    rw [hx,hy]
    congr 1
    omega
  . rw [E6 (by rw [d.1];exact hi),E6 (by rw [hb.1];exact hi)]
end
section
open Go Go.RowKit
def imP (x:Swp) (p:List Int):List Int:=p.map λ a=>(x.ops[a.toNat]?).getD 0
def AbT (n:Nat) (p:List Int):Prop:=∀ a∈p,0<=a/\a < n
end
section
open Go Go.RowKit
theorem Ra {s:List Int} {v u:Nat}:hasB s ⟨v,u⟩=true↔s[v]?=some (u:Int):=by
  unfold hasB
  simp
theorem UC {t:Tsk} {x:Swp} {f:Fct} {s a:List Int} (c:TaskOk t) (d:Q0 t x) (hf:R1 t.vars f) (hs:StateOk t.vars s) (g:ImS x s a):hasB a (imF x f)=hasB s f:=by
  obtain ⟨v,u,n,b,z,l,rfl,h1,h2,h3,hu,h4,h5,h6,h7,h8,h9,h10,e⟩:=FN c d hf
  rw [e,M2,Ra,Ra]
  obtain ⟨y,hy⟩:=AG (l:=s) (k:=v) (by rw [hs.1];exact h1)
  obtain ⟨h,l',z',q1,q2,q3,q4⟩:=g.2 v y hy
  obtain rfl:b=h:=by rw [h4] at q1;have:=L1 q1;omega
  obtain rfl:l=l':=by rw [h5] at q2;exact L1 q2
  obtain ⟨y,rfl,hy2⟩:=HI q3
  rw [q4,hy]
  constructor
  . intro hz
    rw [L1 hz] at hy2
    rw [HP h6 hy2 h7]
  . intro hz
    have:y=u:=by have:=L1 hz;omega
    subst this
    rw [h7] at hy2
    exact hy2.symm
theorem MV {t:Tsk} {x:Swp} {d:List Fct} {s a:List Int} (c:TaskOk t) (e:Q0 t x) (hf:Q7 t.vars d) (hs:StateOk t.vars s) (h:ImS x s a):holdsB (imL x d) a=holdsB d s:=by
  unfold holdsB imL
  rw [M2,J8,J8]
  constructor
  . intro j f b
    rw [<- UC c e ((Ea hf).1 f b) hs h]
    exact j _ ((Fd _).mem_iff.2 (N8.2 ⟨f,b,rfl⟩))
  . intro j g i
    obtain ⟨f,b,rfl⟩:=N8.1 ((Fd _).mem_iff.1 i)
    rw [UC c e ((Ea hf).1 f b) hs h]
    exact j f b
theorem XE {t:Tsk} {x:Swp} {f:Fct} {u b:List Int} (d:TaskOk t) (g:Q0 t x) (hf:R1 t.vars f) (hu:u.length=t.vars.length) (hb:ImS x u b):ImS x (u.set f.var.toNat f.val) (b.set (imF x f).var.toNat (imF x f).val):=by
  obtain ⟨v,y,n,c,z,l,rfl,h1,h2,h3,hy,h4,h5,h6,h7,h8,h9,h10,e⟩:=FN d g hf
  rw [e]
  simp only [I9]
  refine ⟨by simp [hb.1],λ k w hk=>?_⟩
  rw [I5] at hk
  by_cases a:v=k
  . subst a
    rw [if_pos rfl,if_pos (by omega)] at hk
    obtain rfl:=L1 hk
    exact ⟨c,l,z,h4,h5,by rw [Bd,h7],by rw [D9 (by rw [hb.1];omega)]⟩
  . rw [if_neg a] at hk
    obtain ⟨h,l',z',q1,q2,q3,q4⟩:=hb.2 k w hk
    refine ⟨h,l',z',q1,q2,q3,?_⟩
    rw [G2 (λ i=>a ?_),q4]
    subst i
    exact HP g.1 h4 q1
theorem MW {t:Tsk} {x:Swp} {s a:List Int} (c:TaskOk t) (d:Q0 t x) (hs:StateOk t.vars s) (g:ImS x s a):∀ (l:List Eff),(∀ e∈l,Y4 t.vars e)->∀ (u b:List Int),u.length=t.vars.length->ImS x u b->ImS x (effsOn s l u) (effsOn a (l.map (imE x)) b)
  | [],_,_,_,_,hb=>hb
  | e :: l,he,u,b,hu,hb=>by
    obtain ⟨j,h2⟩:=he e H8
    rw [M7]
    unfold effsOn
    have hc:holdsB (imE x e).cond a=holdsB e.cond s:=MV c d j hs g
    rw [hc]
    by_cases f:holdsB e.cond s=true
    . rw [if_pos f,if_pos f]
      exact MW c d hs g l (λ h i=>he h (F8 _ i)) _ _ (by simp [hu]) (XE c d h2 hu hb)
    . rw [if_neg f,if_neg f]
      exact MW c d hs g l (λ h i=>he h (F8 _ i)) _ _ hu hb
theorem Sn {t:Tsk} {x:Swp} {s a:List Int} {k b:Nat} {o p:Opr} (c:TaskOk t) (e:SymP t x) (hs:StateOk t.vars s) (f:ImS x s a) (g:t.ops[k]?=some o) (hk:x.ops[k]?=some (b:Int)) (hb:t.ops[b]?=some p) :
    holdsB p.pre a=holdsB o.pre s/\ImS x (succ o s) (succ p a)/\p.cost=o.cost:=by
  obtain ⟨o',p',b',h1,h2,_,h3,h4,h5,h6⟩:=EH e (AD g)
  obtain rfl:o=o':=by rw [g] at h1;exact L1 h1
  obtain rfl:b=b':=by rw [hk] at h2;have:=L1 h2;omega
  obtain rfl:p=p':=by rw [hb] at h3;exact L1 h3
  have d:=c.2.2.2.2.2 k o g
  refine ⟨by rw [<- h5];exact MV c e.1 d.2.2.2.2.1 hs f,?_,h4.symm⟩
  unfold succ
  rw [<- h6]
  exact MW c e.1 hs f o.effs (HQ d) s a hs.1 f
theorem KA {t:Tsk} {x:Swp} {s a:List Int} (b:TaskOk t) (c:SymP t x) (hs:StateOk t.vars s) (d:ImS x s a):ImS (V9 x) a s:=by
  have hi:=Oo b c
  obtain ⟨r,_,hr⟩:=Qr b hi.1 (Uh c.1 hs d)
  have:=MP c.1 hi.1 hs d hr
  rw [VC b c] at this
  rwa [QG (EA b) hs.1 this (QH b hs)] at hr
end
section
open Go Go.RowKit
theorem So {t:Tsk} {x:Swp} (d:TaskOk t) (h:SymP t x) {s p e:List Int} {C:Int} (hr:PlanR t s p e C):∀ {a:List Int},StateOk t.vars s->ImS x s a->AbT t.ops.length p/\StateOk t.vars e/\∃ a',PlanR t a (imP x p) a' C/\ImS x e a':=by
  induction hr with
  | nil=>intro a hs g;exact ⟨λ b hb=>by simp at hb,hs,a,.nil,g⟩
  | @cons s c e k o C f i hr j =>
    intro a hs g
    obtain ⟨o',p,b,h1,h2,hb,h3,_⟩:=EH h (AD f)
    obtain ⟨l,g2,g3⟩:=Sn d h hs g f h2 h3
    obtain ⟨m,i2,a',i3,i4⟩:=j (GL d hs f) g2
    refine ⟨λ q hq=>?_,i2,a',?_,i4⟩
    . rcases M8.1 hq with rfl|hq
      . have:=AD f;omega
      . exact m q hq
    . have:imP x ((k:Int) :: c)=(b:Int) :: imP x c:=by simp [imP,h2]
      rw [this,<- g3]
      exact .cons h3 (by rw [l];exact i) i3
end
section
set_option linter.unusedVariables false
set_option linter.unusedSimpArgs false
open Go Go.RowKit
noncomputable def cnP (t:Tsk) (a:List Swp) (s:List Int):List Int×List Int:=((Cz t a s).map λ r=>(r.1,r.2.1)).getD ([],[])
noncomputable def cnS (t:Tsk) (a:List Swp) (s:List Int):List Int:=(cnP t a s).1
noncomputable def wdS (t:Tsk) (a:List Swp) (s:List Int):List Int:=(cnP t a s).2
structure Sy (t:Tsk) (gens:List Swp):Prop where
  sm:SmallOk t
  sy:∀ x∈gens,SymP t x
  len:gens.length<=1000
theorem KB {t:Tsk} {a:List Swp} (d:Sy t a) {s:List Int} (hs:StateOk t.vars s):Cz t a s=some (cnS t a s,wdS t a s,⟨0⟩)/\True/\StateOk t.vars (cnS t a s)/\Word a s (wdS t a s) (cnS t a s):=by
  obtain ⟨r,ws,h1,h2,h3,_,h5⟩:=VW d.sm d.sy d.len hs
  have b:cnS t a s=r:=by unfold cnS cnP;rw [h1];rfl
  have c:wdS t a s=ws:=by unfold wdS cnP;rw [h1];rfl
  rw [b,c]
  exact ⟨h1,h2,h3,h5⟩
theorem YB {s:List Int} (hl:s.length≤1000000):Ha s=some (txt s):=by
  unfold Ha
  rw [Ga (by omega) (by omega),Ar]
  refine Xb (λ m l=>l.length=s.length/\∀ (i:Nat) x,i < m->s[i]?=some x->l[i]?=some (bw x)) ⟨by simp,λ i x hi=>by omega⟩ ?_ ?_
  . rintro m x l a ⟨d,h2⟩
    have hm:=AD a
    obtain ⟨u,hu⟩:=HM (l:=l) (k:=m) (by omega)
    rw [hu,Ar]
    refine ⟨_,rfl,by simpa using d,λ i y hi b=>?_⟩
    by_cases e:i=m
    . subst e
      rw [a] at b
      rw [D9 (by omega),L1 b]
    . rw [G2 (by omega)]
      exact h2 i y (by omega) b
  . rintro l ⟨d,h2⟩
    have c:l=s.map bw:=by
      apply I3
      intro i
      rw [I4]
      rcases N2 i s.length with hi|hi
      . obtain ⟨x,a⟩:=HM (l:=s) (k:=i) hi
        rw [a,h2 i x hi a];rfl
      . rw [E6 (by omega),E6 hi];rfl
    subst c
    rw [BB,WJ (by simp;omega),Ar]
    rfl
theorem Pm {K V:Type} [MKey K] (k b:K) (v:V):∀ l:List (K×V),mhas (R3 l k v) b=if k=b then true else mhas l b
  | []=>by simp only [R3,mhas]
  | p :: r=>by
    have d:=Pm k b v r
    simp only [R3]
    by_cases c:p.1=k
    . rw [if_pos c]
      simp only [mhas]
      by_cases a:k=b
      . rw [if_pos a,if_pos a]
      . rw [if_neg a,if_neg a,if_neg (by rw [c];exact a)]
    . rw [if_neg c]
      simp only [mhas,d]
      by_cases a:k=b
      . rw [if_pos a,if_pos a,if_neg (by rw [<- a];exact c)]
      . rw [if_neg a,if_neg a]
def TabI (vars:List Int) (N:List ONd) (a:List (ByteArray×Int)):Prop:=∀ y,StateOk vars y->(mhas a (txt y)=false/\∀ (i:Nat) n,N[i]?=some n->n.state≠y)\/(∃ (i:Nat) (n:ONd),mhas a (txt y)=true/\mget 0 a (txt y)=(i:Int)/\N[i]?=some n/\n.state=y)
theorem TabI.set {vars:List Int} {N:List ONd} {c:List (ByteArray×Int)} (k:TabI vars N c) {i:Nat} {a b:ONd} (g:N[i]?=some a) (hb:b.state=a.state):TabI vars (N.set i b) c:=λ y h=>by
  have d:=AD g
  rcases k y h with ⟨f,h2⟩|⟨j,n,f,h2,h3,h4⟩
  . refine .inl ⟨f,λ j n hj=>?_⟩
    by_cases e:i=j
    . subst e;rw [D9 d] at hj;obtain rfl:=L1 hj;rw [hb];exact h2 i a g
    . rw [G2 e] at hj;exact h2 j n hj
  . by_cases e:i=j
    . subst e
      rw [g] at h3
      obtain rfl:=L1 h3
      exact .inr ⟨i,b,f,h2,D9 d,hb.trans h4⟩
    . exact .inr ⟨j,n,f,h2,by rw [G2 e];exact h3,h4⟩
theorem TabI.app {t:Tsk} (c:TaskOk t) {N:List ONd} {a:List (ByteArray×Int)} (h:TabI t.vars N a) {b:ONd} (hb:StateOk t.vars b.state):TabI t.vars (N ++ [b]) (R3 a (txt b.state) (N.length:Int)):=λ y f=>by
  rw [Pm,Pi]
  by_cases e:txt b.state=txt y
  . have:=XD c hb f e
    rw [if_pos e,if_pos e]
    exact .inr ⟨N.length,b,rfl,rfl,by simp,this⟩
  . rw [if_neg e,if_neg e]
    rcases h y f with ⟨d,h2⟩|⟨j,n,d,h2,h3,h4⟩
    . refine .inl ⟨d,λ j n hj=>?_⟩
      rcases N2 j N.length with hl|hl
      . rw [B8 hl] at hj;exact h2 j n hj
      . rw [B4 hl] at hj
        have:n=b:=by
          cases hk:j - N.length with
          | zero=>rw [hk] at hj;simpa using hj.symm
          | succ k=>rw [hk] at hj;simp at hj
        subst this
        exact λ g=>e (by rw [g])
    . exact .inr ⟨j,n,d,h2,by rw [B8 (AD h3)];exact h3,h4⟩
theorem Wz {t:Tsk} {d:List Swp} (K:Sy t d) {x:Ors} (D:x.t=t) (E:x.gens=d) (f:TabI t.vars x.nodes x.tab.l) (F:U6 (qs x.open_)) (w:0<=x.number) (y:x.number<=100000) (G:x.open_.length<=100000) (H:x.nodes.length<=600) {s:List Int} (hs:StateOk t.vars s) (c p q:Int) :
    (∃ (i:Nat) (n:ONd),x.nodes[i]?=some n/\n.state=cnS t d s/\n.cost<=c/\CD x s c p q=some (⟨0⟩,x)) \/
    ∃ (i:Nat) (g:Ors),CD x s c p q=some (⟨0⟩,g)/\g.t=t/\g.gens=d/\TabI t.vars g.nodes g.tab.l/\U6 (qs g.open_)/\g.number=x.number + 1/\g.open_.length=x.open_.length + 1/\(qs g.open_).Perm (⟨c,0,(i:Int),x.number + 1⟩ :: qs x.open_) /\
      ((i=x.nodes.length/\g.nodes=x.nodes ++ [⟨cnS t d s,c,p,q,wdS t d s,false⟩]/\∀ (j:Nat) n,x.nodes[j]?=some n->n.state≠cnS t d s)\/∃ a,x.nodes[i]?=some a/\a.state=cnS t d s/\c < a.cost/\g.nodes=x.nodes.set i ⟨cnS t d s,c,p,q,wdS t d s,false⟩):=by
  have u:=K.sm.ok
  obtain ⟨I,_,z,_⟩:=KB K hs
  obtain ⟨h,gg,N,tab,op,num⟩:=x
  dsimp only at D E f F w y G H ⊢
  subst D E
  have A:Cz (⟨h.vars,h.init,h.goal,h.ops⟩:Tsk) gg s=some (cnS h gg s,wdS h gg s,⟨0⟩):=I
  have B:(cnS h gg s).length<=1000000:=by have:=z.1;have:=u.1;omega
  have k:∀ i:Nat,∃ r,DC (⟨op⟩:BQ) ⟨⟨c,num + 1,(i:Int)⟩⟩=some r/\U6 (qs r.l)/\(qs r.l).Perm (⟨c,0,(i:Int),num + 1⟩ :: qs op):=λ i=>VT (q:=⟨op⟩) F (by dsimp only;omega) ⟨c,num + 1,(i:Int)⟩
  have m:∀ {l:List OEn} {e:QEn},(qs l).Perm (e :: qs op)->l.length=op.length + 1:=λ {l e} J=>by
    have:=J.length_eq
    simpa [Il] using this
  unfold CD
  dsimp only
  rw [A,Ar,if_neg (by simp)]
  dsimp only
  rw [YB B,Ar]
  rcases f _ z with ⟨C,h2⟩|⟨j,n,C,h2,v,h4⟩
  . refine .inr ⟨N.length,?_⟩
    obtain ⟨r,r1,r2,r3⟩:=k N.length
    rw [C,CA,Ar]
    dsimp only
    rw [CA,CA,Cu (by simp;omega) (by simp;omega),Ar,Ar]
    dsimp only
    rw [BZ (by unfold P9;omega),Ar,r1,Ar]
    exact ⟨_,rfl,rfl,rfl,TabI.app u f (b:=⟨cnS h gg s,c,p,q,wdS h gg s,false⟩) z,r2,rfl,m r3,r3,.inl ⟨rfl,rfl,h2⟩⟩
  . rw [C,BS,h2,Bd,v,Ar]
    by_cases o:n.cost<=c
    . rw [if_pos o,Ar]
      dsimp only
      rw [BS]
      exact .inl ⟨j,n,v,h4,o,rfl⟩
    . refine .inr ⟨j,?_⟩
      obtain ⟨r,r1,r2,r3⟩:=k j
      rw [if_neg o,Ar]
      dsimp only
      rw [CA,BS,Ar,Ar]
      dsimp only
      rw [BZ (by unfold P9;omega),Ar,r1,Ar]
      exact ⟨_,rfl,rfl,rfl,f.set v (b:=⟨cnS h gg s,c,p,q,wdS h gg s,false⟩) h4.symm,r2,rfl,m r3,r3,.inr ⟨n,v,h4,by omega,by dsimp only;rw [I9]⟩⟩
end
section
open Go Go.RowKit
theorem RD {t:Tsk} (a:TaskOk t):DS t=some (idX t,⟨0⟩):=by
  unfold DS
  have b:=a.1
  have c:=a.2.1
  rw [AbD a,Ar,if_neg (by simp),On (by omega),Ar,On (by omega),Ar,Ar,Fp (λ k=>(t.vars.take k).map λ n=>T5 n.toNat) (by simp) (λ k n hk=>by
    have hn:=a.2.2.1 k n hk
    have:=AD hk
    obtain ⟨m,rfl⟩:=D0 (by omega:0<=n)
    rw [On (by omega),Ar,Cu (by simp;omega) (by simp;omega),Ar,map_take hk]
    simp),Ar,BB,K4]
  rfl
theorem Tb {t:Tsk} {x y:Swp} (c:TaskOk t) (d:SymP t x) (f:SymP t y):CX t x y=some (T0 x y,⟨0⟩):=by
  unfold CX
  have i:=c.1
  have j:=c.2.1
  rw [AbG c,Ar,Bk ⟨d,f⟩,BS,if_neg (by simp),ML d.1.1 f.1.1.len (by omega),Ar,ML d.2.1 f.2.1.len (by omega),Ar,Ar,Fp (λ k=>(T0 x y).vals.take k) (by simp) (λ k l hk=>by
    have hlt:=AD hk
    rw [d.1.2.1] at hlt
    obtain ⟨n,a,l',q1,q2,q3,q4,q5⟩:=d.1.2.2 k hlt
    obtain rfl:l=l':=by rw [hk] at q3;exact L1 q3
    obtain ⟨g,ha2⟩:=d.1.1.mem (F9 q2)
    obtain ⟨a,rfl⟩:=D0 g
    obtain ⟨h,b,m,p1,p2,p3,p4,p5⟩:=f.1.2.2 a (by omega)
    rw [Bd] at q4
    have e:n=h:=by rw [q4] at p1;have:=L1 p1;omega
    subst e
    have hn:=c.2.2.1 k n q1
    rw [q2,Ar,Bd,p3,Ar,ML q5 p5.len (by omega),Ar,Cu (by simp;omega) (by simp;omega),Ar,I6,Ij q2 q3 p3]
    rfl),Ar,BB]
  have:x.vals.length=(T0 x y).vals.length:=by simp [T0]
  rw [this,K4]
  rfl
theorem Tc {t:Tsk} {x:Swp} (c:TaskOk t) (d:SymP t x):DK t x=some (V9 x,⟨0⟩):=by
  unfold DK
  have hl:t.vars.length<=1000000:=by have:=c.1;omega
  have p:t.ops.length<=1000000:=by have:=c.2.1;omega
  have r:=d.1.2.1
  rw [AbM c,Ar,Bk d,BS,if_neg (by simp),(Gt d.1.1 hl).1,Ar,(Gt d.2.1 p).1,Ar,Ga (by omega) (by omega),Ar,Ar]
  simp only
  obtain ⟨s,h1,h2,h3⟩:=Dw (ρ:=Swp×Err) (f:=λ (i:Nat) (j:List Int) (g:(List (List Int)))=>bnd (x.vars[i]?) λ h=>bnd (Dh j) λ m=>bnd (atI g h) λ _=>some (.next (g.set (h).toNat m))) (xs:=x.vals) (s₀:=List.replicate x.vals.length []) (λ k s=>s.length=x.vals.length/\∀ v a:Nat,v < k->x.vars[v]?=some (a:Int)->s[a]?=(V9 x).vals[a]?) ⟨by simp,λ v a A=>by omega⟩ (λ k l s hk w=>by
    obtain ⟨y,i2⟩:=w
    have hlt:=AD hk
    obtain ⟨n,a,l',q1,q2,q3,q4,q5⟩:=d.1.2.2 k (by omega)
    obtain rfl:l=l':=by rw [hk] at q3;exact L1 q3
    obtain ⟨q,ha2⟩:=d.1.1.mem (F9 q2)
    obtain ⟨a,rfl⟩:=D0 q
    obtain ⟨u,hu⟩:=AG (l:=s) (k:=a) (by omega)
    have hn:=c.2.2.1 k n q1
    rw [q2,Ar,(Gt q5 (by omega)).1,Ar,Bd,hu,Ar]
    refine ⟨_,rfl,by simpa using y,λ v b hv o=>?_⟩
    rw [show ((a:Int)).toNat=a from by omega,I5]
    by_cases e:a=b
    . subst e;rw [if_pos rfl,if_pos (by omega),Kw c d.1 q2 q3]
    . rw [if_neg e]
      refine i2 v b ?_ o
      have:v≠k:=λ A=>e (by subst A;rw [o] at q2;have:=L1 q2;omega)
      omega)
  rw [h1,Ar,BB]
  have:s=(V9 x).vals:=I3 λ a=>by
    by_cases z:a < x.vals.length
    . obtain ⟨v,hv,hva⟩:=FK d.1.1 (a:=a) (by omega)
      exact h3 v a (by omega) hva
    . rw [E6 (by omega),E6 (by simp [V9];omega)]
  rw [this]
  rfl
end
section
set_option linter.unusedVariables false
set_option linter.unusedSimpArgs false
open Go Go.RowKit
theorem LZ {t:Tsk} {a:List Swp} (e:Sy t a) {s:List Int} (c:OR t (cnS t a) s):StateOk t.vars s:=by
  have b:=e.sm.ok
  induction c with
  | init=>exact (KB e b.2.2.2.1).2.2.1
  | step _ _ c _ d=>exact (KB e (GL b d c)).2.2.1
theorem VX {N:List ONd} {i:Nat} {l:List Nat} (j:TrN N i l):∀ (a:List Int),a.length + l.length<=100000 ->
    lop (ρ:=(List Int)×Err) (λ (b:Int×(List Int))=>if 0<=b.1 then (bnd (R8 8 b.2 [b.1]) λ c=>bnd (atI N b.1) λ d=>some (.next (d.parent,c))) else (some (.brk (b.1,b.2)))) ((i:Int),a)=some (.done (-1,a ++ (l.reverse.map λ k:Nat=>(k:Int)))):=by
  induction j with
  | @root n g e =>
    intro a f
    simp only [F2] at f
    rw [Dj]
    dsimp only
    rw [if_pos (by omega),Cu (by simp;omega) (by simp;omega),Ar,Bd,g,Ar,e]
    dsimp only
    rw [Dj]
    dsimp only
    rw [if_neg (by omega)]
    rfl
  | @step i p n l hi e hl h =>
    intro a f
    simp only [H2,F2] at f
    rw [Dj]
    dsimp only
    rw [if_pos (by omega),Cu (by simp;omega) (by simp;omega),Ar,Bd,hi,Ar,e]
    dsimp only
    rw [h (a ++ [(i:Int)]) (by simp;omega)]
    simp
theorem TrN.way {N:List ONd} {i:Nat} {l:List Nat} (o:TrN N i l):l[0]?=some 0/\l.getLast?=some i/\∀ (k a b:Nat),l[k]?=some a->l[k + 1]?=some b->∃ n,N[b]?=some n/\n.parent=(a:Int):=by
  induction o with
  | root m g=>exact ⟨rfl,rfl,λ k a b _ hb=>by simp at hb⟩
  | @step i p n l hi g hl j =>
    obtain ⟨h,i2,i3⟩:=j
    have d:=AD h
    refine ⟨by rw [B8 d];exact h,by simp,λ k a b c hb=>?_⟩
    rcases N2 (k + 1) l.length with hk|hk
    . rw [B8 hk] at hb
      rw [B8 (by omega)] at c
      exact i3 k a b c hb
    . have e:=AD hb
      simp only [H2,F2] at e
      have f:k + 1=l.length:=by omega
      rw [f] at hb
      simp at hb
      subst hb
      rw [B8 (by omega)] at c
      rw [List.getLast?_eq_getElem?,show l.length - 1=k from by omega,c] at i2
      obtain rfl:=L1 i2
      exact ⟨n,hi,g⟩
theorem TrN.mem {N:List ONd} {i:Nat} {l:List Nat} (d:TrN N i l):∀ k∈l,∃ n,N[k]?=some n:=by
  induction d with
  | root a b=>intro k hk;simp at hk;subst hk;exact ⟨_,a⟩
  | step hi b hl c =>
    intro k hk
    rcases K9.1 hk with hk|hk
    . exact c k hk
    . simp at hk;subst hk;exact ⟨_,hi⟩
theorem UD {t:Tsk} {b:List Swp} (A:Sy t b) {B s l r:List Int} (q:Word b s l r) {ρ:Type} (o:(Swp×Err)->ρ) (v:StateOk t.vars B):∀ (j:Nat) (x:Swp),SymP t x->StateOk t.vars s->ImS x B s ->
    ∃ y:Swp,rng (ρ:=ρ) (λ (u:Nat) (f:Int) (c:(List Int)×(List (List Int))×(List Int))=>bnd (atI b f) λ h=>bnd (CX t (⟨c.1,c.2.1,c.2.2⟩:Swp) h) λ a=>if a.2.n≠0 then (some (.ret (o a))) else (some (.next (a.1.vars,a.1.vals,a.1.ops)))) l j (x.vars,x.vals,x.ops)=some (.done (y.vars,y.vals,y.ops))/\SymP t y/\ImS y B r:=by
  have d:=A.sm.ok
  induction q with
  | nil=>intro j x i _ p;exact ⟨x,rfl,i,p⟩
  | @cons s r l m g hm q w =>
    intro j x i hs p
    have k:=A.sy g (F9 hm)
    obtain ⟨z,g2,g3⟩:=Lz d k.1 hs
    obtain ⟨y,y1,y2,y3⟩:=w (j + 1) (T0 x g) (Kv d i k) g3 (MP i.1 k.1 v p g2)
    refine ⟨y,?_,y2,y3⟩
    have e:CX t (⟨x.vars,x.vals,x.ops⟩:Swp) g=some (T0 x g,⟨0⟩):=Tb d i k
    simp only [rng]
    rw [Bd,hm,Ar,e,Ar,if_neg (by simp)]
    exact y1
theorem VY {t:Tsk} {gens:List Swp} (h:Sy t gens) {x:Ors} (ht:x.t=t) (hg:x.gens=gens) {D:Nat→Int→Prop} {hp:List QEn} {ord:Nat→Nat} {E:Nat} (hinv:OrI t (cnS t gens) (wdS t gens) D x.nodes hp ord E) {i:Nat} {n:ONd} {l:List Nat} (hi:x.nodes[i]?=some n) (hl:TrN x.nodes i l) (hlen:l.length≤1000) :
    ∃ p L,Dz x (i:Int)=some (p,⟨0⟩)/\p.length<=l.length/\PlanR t t.init p L n.cost/\StateOk t.vars L/\∃ y,SymP t y/\ImS y L n.state:=by
  have hok:=h.sm.ok
  have hs0:=hok.2.2.2.1
  obtain ⟨tt,gg,N,tab,op,num⟩:=x
  dsimp only at ht hg hinv hi hl ⊢
  subst ht hg
  obtain ⟨w1,w2,w3⟩:=hl.way
  have hid:DS (⟨tt.vars,tt.init,tt.goal,tt.ops⟩:Tsk)=some (idX tt,⟨0⟩):=RD hok
  have hrev:Da (l.reverse.map λ k:Nat=>(k:Int))=some (l.map λ k:Nat=>(k:Int)):=by
    rw [Yx (by simp;omega)]
    simp
  have hsp:∀ (j:Nat) m,N[j]?=some m->StateOk tt.vars m.state:=λ j m hj=>LZ h (hinv.rch j m hj)
  unfold Dz
  dsimp only
  rw [VX hl [] (by simp;omega),Ar,BB]
  dsimp only
  rw [L3,hrev,Ar,hid,Ar,if_neg (by simp)]
  dsimp only
  refine (?_:∃ p L,_/\p.length<=l.length/\PlanR tt tt.init p L n.cost/\StateOk tt.vars L/\∃ y,SymP tt y/\ImS y L n.state)
  obtain ⟨z,z1,z2⟩:=Dw (ρ:=(List Int)×Err) (xs:=l.reverse.map λ k:Nat=>(k:Int)) (s₀:=(([]:List Int),(idX tt).vars,(idX tt).vals,(idX tt).ops)) (f:=λ (k203:Nat) (a204:Int) (s201:(List Int)×(List Int)×(List (List Int))×(List Int))=>bnd ((l.map λ k:Nat=>(k:Int))[k203]?) λ a224=>bnd (bnd (atI N a224) λ a278=>if 0<=a278.op then (bnd (DK (⟨tt.vars,tt.init,tt.goal,tt.ops⟩:Tsk) (⟨s201.2.1,s201.2.2.1,s201.2.2.2⟩:Swp)) λ q308=>bnd (some (q308.1.vars,q308.1.vals,q308.1.ops):Option ((List Int)×(List (List Int))×(List Int))) λ y310=>if q308.2.n≠0 then (some (.ret (.ret (([]:List Int),(⟨q308.2.n⟩:Err))))) else (bnd (atI y310.2.2 a278.op) λ a394=>bnd (R8 8 s201.1 [a394]) λ u406=>some (.done u406))) else (some (.done s201.1)):Option (Fin (List Int) (Ctl ((List Int)×(List Int)×(List (List Int))×(List Int)) ((List Int)×Err)))) λ y234=>fin y234 λ (s236:(List Int))=>bnd (atI N a224) λ a465=>bnd (rng (ρ:=Ctl ((List Int)×(List Int)×(List (List Int))×(List Int)) ((List Int)×Err)) (λ (k498:Nat) (a499:Int) (s496:(List Int)×(List (List Int))×(List Int))=>bnd (atI gg a499) λ a561=>bnd (CX (⟨tt.vars,tt.init,tt.goal,tt.ops⟩:Tsk) (⟨s496.1,s496.2.1,s496.2.2⟩:Swp) a561) λ q584=>if q584.2.n≠0 then (some (.ret (.ret (([]:List Int),(⟨q584.2.n⟩:Err))))) else (some (.next (q584.1.vars,q584.1.vals,q584.1.ops)))) a465.used 0 (s201.2.1,s201.2.2.1,s201.2.2.2)) λ res494=>fin res494 λ (s626:(List Int)×(List (List Int))×(List Int))=>some (.next (s236,s626.1,s626.2.1,s626.2.2)))
    (λ k st=>∃ y:Swp,SymP tt y/\st.2=(y.vars,y.vals,y.ops)/\st.1.length<=k/\((k=0/\st.1=[]/\y=idX tt)\/∃ (k' j:Nat) (m:ONd) (L:List Int),k=k' + 1/\l[k']?=some j/\N[j]?=some m/\PlanR tt tt.init st.1 L m.cost/\StateOk tt.vars L/\ImS y L m.state))
    ⟨idX tt,QD hok,rfl,by simp,.inl ⟨rfl,rfl,rfl⟩⟩ (λ k a st hk hI=>by
      have hkl:=AD hk
      simp only [L7,List.length_reverse] at hkl
      obtain ⟨j,hj⟩:=AG (l:=l) (k:=k) hkl
      obtain ⟨m,hm⟩:=hl.mem j (F9 hj)
      obtain ⟨pl,st2⟩:=st
      obtain ⟨y,y1,y2,y3,y4⟩:=hI
      dsimp only at y2 y3 y4 ⊢
      subst y2
      dsimp only
      rw [I4,hj]
      simp only [L8]
      rw [Ar,Bd,hm,Ar]
      have wloop:∀ {L s:List Int},StateOk tt.vars L->StateOk tt.vars s->ImS y L s->m.state=cnS tt gg s->m.used=wdS tt gg s->∃ y':Swp,rng (ρ:=Ctl ((List Int)×(List Int)×(List (List Int))×(List Int)) ((List Int)×Err)) (λ (k498:Nat) (a499:Int) (s496:(List Int)×(List (List Int))×(List Int))=>bnd (atI gg a499) λ a561=>bnd (CX (⟨tt.vars,tt.init,tt.goal,tt.ops⟩:Tsk) (⟨s496.1,s496.2.1,s496.2.2⟩:Swp) a561) λ q584=>if q584.2.n≠0 then (some (.ret (.ret (([]:List Int),(⟨q584.2.n⟩:Err))))) else (some (.next (q584.1.vars,q584.1.vals,q584.1.ops)))) m.used 0 (y.vars,y.vals,y.ops)=some (.done (y'.vars,y'.vals,y'.ops))/\SymP tt y'/\ImS y' L m.state:=λ {L s} hL hs ha e1 e2=>by
        rw [e1,e2]
        exact UD h (KB h hs).2.2.2 (λ q584=>Ctl.ret (σ:=(List Int)×(List Int)×(List (List Int))×(List Int)) (([]:List Int),(⟨q584.2.n⟩:Err))) hL 0 y y1 hs ha
      rcases y4 with ⟨rfl,rfl,rfl⟩|⟨k',j',m',L,rfl,hj',hm',hpl,hL,hIm⟩
      . rw [w1] at hj
        obtain rfl:=L1 hj
        obtain ⟨n0,r1,r2,r3,r4,r5,r6⟩:=hinv.root
        rw [r1] at hm
        obtain rfl:=L1 hm
        obtain ⟨y',q1,q2,q3⟩:=wloop hs0 hs0 (QH hok hs0) r2 r3
        rw [r6,if_neg (by omega),Ar,BB,Ar,q1,Ar,BB]
        refine ⟨_,rfl,y',q2,rfl,by simp,.inr ⟨0,0,n0,tt.init,rfl,w1,r1,?_,hs0,q3⟩⟩
        rw [r4]
        exact .nil
      . obtain ⟨m2,hm2,hpar⟩:=w3 k' j' j hj' hj
        rw [hm] at hm2
        obtain rfl:=L1 hm2
        rcases hinv.link j m hm with rfl|⟨pp,q,o,mm,a1,a2,a3,a4,a5,a6,a7,a8,a9,_⟩
        . obtain ⟨n0,r1,_,_,_,r5,_⟩:=hinv.root
          rw [r1] at hm
          obtain rfl:=L1 hm
          omega
        have epp:pp=j':=by omega
        subst epp
        rw [hm'] at a4
        obtain rfl:=L1 a4
        have hst:=hsp pp m' hm'
        have hiv:=Oo hok y1
        obtain ⟨o',p2,b,o1,o2,o3,o4,o5,_⟩:=EH hiv (AD a3)
        have hback:=KA hok y1 hL hIm
        obtain ⟨g1,g2,g3⟩:=Sn hok hiv hst hback a3 o2 o4
        have hs2:=GL hok hst a3
        have hL2:=GL hok hL o4
        have hIm2:ImS y (succ p2 L) (succ o m'.state):=by
          obtain ⟨c1,c2,c3⟩:=Lz hok y1.1 hL2
          have e1:=KA hok y1 hL2 c2
          have e2:=KA hok hiv c3 e1
          have e3:=KA hok hiv hs2 g2
          have e4:=QG (Oo hok hiv).1 hL2.1 e2 e3
          rw [e4] at c2
          exact c2
        obtain ⟨y',q1,q2,q3⟩:=wloop hL2 hs2 hIm2 a7 a8
        have ei:DK (⟨tt.vars,tt.init,tt.goal,tt.ops⟩:Tsk) (⟨y.vars,y.vals,y.ops⟩:Swp)=some (V9 y,⟨0⟩):=Tc hok y1
        rw [a2,if_pos (by omega),ei,Ar,Ar,if_neg (by simp)]
        dsimp only
        rw [Bd,o2,Ar,Cu (by simp;omega) (by simp;omega),Ar,Ar,BB,Ar,q1,Ar,BB]
        refine ⟨_,rfl,y',q2,rfl,by simp;omega,.inr ⟨k' + 1,j,m,succ p2 L,rfl,hj,hm,?_,hL2,q3⟩⟩
        rw [a9,<- g3]
        exact hpl.snoc o4 (by rw [g1];exact a6))
  obtain ⟨y,y1,y2,y3,y4⟩:=z2
  rw [z1,Ar,BB]
  simp only [L7,List.length_reverse] at y3 y4
  have hlp:=AD w1
  rcases y4 with ⟨e,_⟩|⟨k',j,m,L,e,hj,hm,hpl,hL,hIm⟩
  . omega
  rw [List.getLast?_eq_getElem?,show l.length - 1=k' from by omega,hj] at w2
  obtain rfl:=L1 w2
  rw [hi] at hm
  obtain rfl:=L1 hm
  exact ⟨z.1,L,rfl,y3,hpl,hL,y,y1,hIm⟩
end
section
set_option linter.unusedVariables false
set_option linter.unusedSimpArgs false
open Go Go.RowKit
abbrev OT:=Int×Ors
noncomputable def oIn (t:Tsk) (c:Int) (id:Int) (s:Ors) (a:Suc):Option (Ctl Ors (Ctl OT (Rsl×Err))):=bnd (atI t.ops a.op) λ o=>bnd (Q1 (c + o.cost)) λ n=>bnd (CD s a.state n id a.op) λ q=>if q.1.n≠0 then (some (.ret (.ret ((⟨0,([]:List Int),0,0⟩:Rsl),(⟨q.1.n⟩:Err))))) else (some (.next q.2))
noncomputable def Y9 (t:Tsk) (g:Option Gnr) (c:Int):OT->Option (Ctl OT (Rsl×Err)):=λ s=>bnd (CH s.2.open_) λ q=>if q=0 then (some (.ret ((⟨2,([]:List Int),0,s.1⟩:Rsl),(⟨0⟩:Err)))) else (bnd (DL (⟨s.2.open_⟩:BQ)) λ e=>bnd (bnd (atI s.2.nodes e.1.x.node) λ a=>if a.fin=true then (some true) else (bnd (atI s.2.nodes e.1.x.node) λ b=>if b.cost < e.1.x.cost then (some true) else (some false)):Option Bool) λ y=>if y=true then (some (.next (s.1,(⟨s.2.t,s.2.gens,s.2.nodes,s.2.tab,e.2.l,s.2.number⟩:Ors)))) else (bnd (atI s.2.nodes e.1.x.node) λ n=>bnd (Gb t.goal n.state) λ b=>if b=true then bnd (Dz (⟨s.2.t,s.2.gens,s.2.nodes,s.2.tab,e.2.l,s.2.number⟩:Ors) e.1.x.node) λ p=>if p.2.n≠0 then (some (.ret ((⟨0,([]:List Int),0,0⟩:Rsl),(⟨p.2.n⟩:Err)))) else (some (.ret ((⟨1,p.1,n.cost,s.1⟩:Rsl),(⟨0⟩:Err)))) else if c<=s.1 then (some (.ret ((⟨3,([]:List Int),0,s.1⟩:Rsl),(⟨0⟩:Err)))) else (bnd (Q1 (s.1 + 1)) λ d=>bnd (atI s.2.nodes e.1.x.node) λ m=>bnd (Cc g n.state) λ l=>bnd (rng (ρ:=Ctl OT (Rsl×Err)) (λ (_:Nat) (a:Suc) (y:Ors)=>oIn t n.cost e.1.x.node y a) l 0 (⟨s.2.t,s.2.gens,s.2.nodes.set (e.1.x.node:Int).toNat { m with fin:=true },s.2.tab,e.2.l,s.2.number⟩:Ors)) λ r=>fin r λ (z:Ors)=>some (.next (d,z)))))
theorem XF (t:Tsk) (a:List Swp) (f:Int):DM t a f=bnd (Dr t) λ g=>if g.n≠0 then (some ((⟨0,([]:List Int),0,0⟩:Rsl),(⟨g.n⟩:Err))) else (bnd (rng (ρ:=Rsl×Err) (λ (k:Nat) (h:Swp) (l:Unit)=>bnd (DH t h) λ i=>if i=true then some (.next ()) else some (.ret ((⟨0,([]:List Int),0,0⟩:Rsl),(⟨2⟩:Err)))) a 0 ()) λ e=>fin e λ (j:Unit)=>bnd (Gq t) λ b=>if b.2.n≠0 then (some ((⟨0,([]:List Int),0,0⟩:Rsl),(⟨b.2.n⟩:Err))) else (bnd (CD (⟨t,a,([]:List ONd),(⟨[]⟩:MapP ByteArray Int),([]:List OEn),0⟩:Ors) t.init 0 (-1) (-1)) λ c=>if c.1.n≠0 then (some ((⟨0,([]:List Int),0,0⟩:Rsl),(⟨c.1.n⟩:Err))) else (bnd (lop (Y9 t b.1 f) (0,c.2)) λ d=>fin d λ (_:OT)=>none))):=rfl
theorem VZ {t:Tsk} {b:List Swp} (i:Sy t b) {s d r:List Int} (e:Word b s d r) (hs:StateOk t.vars s):∃ x,SymP t x/\ImS x s r:=by
  have a:=i.sm.ok
  induction e with
  | nil=>exact ⟨idX t,QD a,QH a hs⟩
  | @cons s r d m g hm e f =>
    have c:=i.sy g (F9 hm)
    obtain ⟨h,g2,g3⟩:=Lz a c.1 hs
    obtain ⟨x,x1,x2⟩:=f g3
    exact ⟨T0 g x,Kv a c x1,MP c.1 x1.1 hs g2 x2⟩
theorem UE {t:Tsk} {a:List Swp} (b:Sy t a) {s:List Int} (hs:StateOk t.vars s):∃ x,SymP t x/\ImS x s (cnS t a s):=VZ b (KB b hs).2.2.2 hs
theorem Oq {t:Tsk} {x:Swp} (b:TaskOk t) (c:SymP t x) {s a:List Int} (hs:StateOk t.vars s) (d:ImS x s a):holdsB t.goal a=holdsB t.goal s:=by
  have:=MV b c.1 b.2.2.2.2.1 hs d
  rwa [c.2.2.1] at this
theorem UF {t:Tsk} {s:List Int} {C:Int} (b:Walk t s C):∃ p a,PlanR t s p a C/\holdsB t.goal a=true:=by
  induction b with
  | goal f=>exact ⟨[],_,.nil,f⟩
  | @step s k o C c d _ e =>
    obtain ⟨p,a,h1,h2⟩:=e
    refine ⟨(k:Int) :: p,a,?_,h2⟩
    rw [O6]
    exact .cons c d h1
theorem YC {t:Tsk} {a:List Swp} (q:Sy t a):∀ (n:Nat) (p s e:List Int) (C:Int),p.length<=n->StateOk t.vars s->PlanR t s p e C->holdsB t.goal e=true->WalkC t (cnS t a) s C:=by
  have b:=q.sm.ok
  intro n
  induction n with
  | zero =>
    intro p s e C g hs hr f
    cases hr with
    | nil=>exact .goal f
    | cons _ _ _=>simp at g
  | succ n l =>
    intro p s e C g hs hr f
    cases hr with
    | nil=>exact .goal f
    | @cons _ i _ k o C j d hr =>
      have c:=GL b hs j
      obtain ⟨x,x1,x2⟩:=UE q c
      obtain ⟨m,i2,a',i3,i4⟩:=So b x1 hr c x2
      have h:holdsB t.goal a'=true:=by rw [Oq b x1 i2 i4];exact f
      rw [O6]
      exact .step j d (l _ _ _ _ (by simp [imP] at g ⊢;omega) (KB q c).2.2.1 i3 h)
theorem YD {t:Tsk} {a:List Swp} (e:Sy t a) {C:Int} (c:Walk t t.init C):WalkC t (cnS t a) (cnS t a t.init) C:=by
  have b:=e.sm.ok
  have hs:=b.2.2.2.1
  obtain ⟨x,x1,x2⟩:=UE e hs
  obtain ⟨p,s',p1,p2⟩:=UF c
  obtain ⟨d,i2,a',i3,i4⟩:=So b x1 p1 hs x2
  exact YC e _ _ _ _ _ (P1 _) (KB e hs).2.2.1 i3 (by rw [Oq b x1 i2 i4];exact p2)
structure AS (t:Tsk) (gens:List Swp) (x:Ors):Prop where
  tt:x.t=t
  gg:x.gens=gens
  tab:TabI t.vars x.nodes x.tab.l
  heap:U6 (qs x.open_)
  num0:0<=x.number
def KPN (N a:List ONd):Prop:=∀ (j:Nat) n,a[j]?=some n->n.fin=true->N[j]?=some n
def HMN (N:List ONd) (c:Int):Prop:=∀ (j:Nat) n,N[j]?=some n->n.fin=true->n.cost<=c
theorem HMN.kp {N a:List ONd} {c:Int} (b:HMN N c) (k:KPN N a):HMN a c:=λ j n hj hf=>b j n (k j n hj hf) hf
theorem UG {N c:List ONd} {i:Nat} {n:ONd} (f:UpN i n N c) (hf:n.fin=false):KPN N c:=λ j a hj d=>by
  have b:j≠i:=λ e=>by subst e;rw [f.1] at hj;obtain rfl:=L1 hj;rw [hf] at d;cases d
  rw [<- f.2 j b];exact hj
theorem Po {t:Tsk} {a:List Swp} (f:Sy t a) {g:Nat->Int->Prop} {N:List ONd} {e:List QEn} {c:Nat->Nat} {E:Nat} (b:OrI t (cnS t a) (wdS t a) g N e c E):N.length<=512:=by
  have d:(N.map (·.state)).length<=(statesL t.vars).length:=Lx (QX λ i j s hi hj=>by
    rw [I4] at hi hj
    obtain ⟨n,hn,e1⟩:=D6.1 hi
    obtain ⟨m,hm,e2⟩:=D6.1 hj
    exact b.uniq i j n m hn hm (e1.trans e2.symm)) λ s hs=>by
      obtain ⟨n,hn,rfl⟩:=N8.1 hs
      obtain ⟨i,hi⟩:=G3 hn
      exact GY.2 (LZ f (b.rch i n hi))
  rw [L7] at d
  exact N6 d f.sm.many
theorem Zk {t:Tsk} {b:List Swp} (O:Sy t b) {P:Nat→Int→Prop} {s:Nat→Nat} {E:Nat} {x:Ors} (q:AS t b x) (c:OrI t (cnS t b) (wdS t b) P x.nodes (qs x.open_) s E) (z:x.number≤100000) (A:x.open_.length≤100000) (M:E≤601)
    {p k:Nat} {o:Opr} {m:ONd} (u:t.ops[k]?=some o) (hm:x.nodes[p]?=some m) (r:m.fin=true) (l:holdsB o.pre m.state=true) (f:HMN x.nodes m.cost) (H:m.cost + 1048576<=(E:Int) * 1048576) :
    ∃ y:Ors,oIn t m.cost (p:Int) x ⟨(k:Int),succ o m.state⟩=some (.next y)/\AS t b y/\OrI t (cnS t b) (wdS t b) P y.nodes (qs y.open_) s E/\y.number<=x.number + 1/\y.open_.length<=x.open_.length + 1/\KPN x.nodes y.nodes/\y.nodes[p]?=some m/\∃ (i:Nat) (B:ONd),y.nodes[i]?=some B/\B.state=cnS t b (succ o m.state)/\B.cost<=m.cost + o.cost:=by
  have g:=O.sm.ok
  have v:=g.2.2.2.2.2 k o u
  have G:=v.1
  have I:=v.2.1
  have N:=Po O c
  have J:=(c.bound p m hm).1
  have C:=LZ O (c.rch p m hm)
  have hs:=GL g C u
  unfold oIn
  dsimp only
  rw [Bd,u,Ar,BZ (by unfold P9;omega),Ar]
  rcases Wz O q.tt q.gg q.tab q.heap q.num0 z A (by omega) hs (m.cost + o.cost) (p:Int) (k:Int) with ⟨i,n,a1,a2,a3,a4⟩|⟨i,y,a1,a2,a3,a4,a5,a6,a7,a8,K⟩
  . rw [a4,Ar,if_neg (by simp)]
    exact ⟨x,rfl,q,c,by omega,by omega,λ j n hj _=>hj,hm,i,n,a1,a2,a3⟩
  . rw [a1,Ar,if_neg (by simp)]
    have w:AS t b y:=⟨a2,a3,a4,a5,by have:=q.num0;omega⟩
    rcases K with ⟨rfl,b2,b3⟩|⟨a,b1,b2,b3,b4⟩
    . have d:UpN x.nodes.length (⟨cnS t b (succ o m.state),m.cost + o.cost,(p:Int),(k:Int),wdS t b (succ o m.state),false⟩:ONd) x.nodes y.nodes:=by rw [b2];exact Xw
      have L:=AD hm
      have D:y.nodes[p]?=some m:=by rw [d.2 p (by omega)];exact hm
      refine ⟨y,rfl,w,?_,by omega,by omega,UG d rfl,D,x.nodes.length,_,d.1,rfl,P3 _⟩
      exact c.upd g d a8 rfl rfl (by rw [b2];simp) (by rw [b2];exact VS _ rfl) (.inl ⟨E6 (P1 _),b3⟩) rfl rfl rfl u hm r l rfl rfl rfl f (by dsimp only;omega)
    . have h:a.fin=false:=by
        cases hb:a.fin with
        | false=>rfl
        | true=>have:=f i a b1 hb;omega
      have d:UpN i (⟨cnS t b (succ o m.state),m.cost + o.cost,(p:Int),(k:Int),wdS t b (succ o m.state),false⟩:ONd) x.nodes y.nodes:=by rw [b4];exact Xv (AD b1)
      have F:p≠i:=λ e=>by subst e;rw [hm] at b1;obtain rfl:=L1 b1;rw [r] at h;cases h
      refine ⟨y,rfl,w,?_,by omega,by omega,UG d rfl,by rw [d.2 p F];exact hm,i,_,d.1,rfl,P3 _⟩
      exact c.upd g d a8 rfl rfl (by rw [b4];simp) (by rw [b4];exact QZ b1 h rfl) (.inr ⟨a,b1,b2,h,b3⟩) rfl rfl rfl u hm r l rfl rfl rfl f (by dsimp only;omega)
structure OJ (t:Tsk) (gens:List Swp) (D:Nat->Int->Prop) (ord:Nat->Nat) (E NN:Nat) (i:Nat) (m:ONd) (y:Ors):Prop where
  ob:AS t gens y
  inv:OrI t (cnS t gens) (wdS t gens) D y.nodes (qs y.open_) ord E
  num1:y.number<=NN
  qlen:y.open_.length<=NN
  hi:y.nodes[i]?=some m
  hm:HMN y.nodes m.cost
theorem Zl {t:Tsk} {c:List Swp} (M:Sy t c) {g:Nat→Nat} {E NN i:Nat} {m:ONd} {y:Ors} (hj:OJ t c (λ j _=>j≠i) g E NN i m y) (v:m.fin=true) (K:NN≤90000) (D:E≤601) (w:m.cost + 1048576≤(E:Int) * 1048576) :
    ∃ u:Ors,rng (ρ:=Ctl OT (Rsl×Err)) (λ (_:Nat) (a:Suc) (y:Ors)=>oIn t m.cost (i:Int) y a) ((Y1 t m.state).map (Z4 t m.state)) 0 y=some (.done u)/\OJ t c (λ _ _=>True) g E (NN + 20) i m u:=by
  have F:=M.sm.ok
  have p:t.ops.length<=20:=M.sm.2.1
  have r:=LZ M (hj.inv.rch i m hj.hi)
  have C:(W4 t m.state).length<=20:=N6 (Qk t m.state) p
  rw [LP r]
  obtain ⟨u,h1,h2⟩:=Dw (ρ:=Ctl OT (Rsl×Err)) (f:=λ (_:Nat) (a:Suc) (y:Ors)=>oIn t m.cost (i:Int) y a) (xs:=(W4 t m.state).map (Z4 t m.state)) (s₀:=y) (λ b z=>OJ t c (λ j q=>j≠i\/q∈(W4 t m.state).take b) g E (NN + b) i m z)
    { hj with inv:={ hj.inv with rel:=λ j a q x h A hd=>hj.inv.rel j a q x h A (by rcases hd with hd|hd;exact hd;simp at hd) } } (λ b a z hb hz=>by
      rw [I4] at hb
      obtain ⟨L,l,rfl⟩:=D6.1 hb
      obtain ⟨k,o,rfl,ho,hp⟩:=Qj (F9 l)
      have G:=AD l
      have A:=hz.qlen
      have B:=hz.num1
      have H:Z4 t m.state (k:Int)=⟨(k:Int),succ o m.state⟩:=by rw [Xu,(Sm ho).2]
      obtain ⟨I,z1,z2,z3,z4,z5,z6,z7,i',m',z8,z9,z10⟩:=Zk M hz.ob hz.inv (by omega) (by omega) D ho hz.hi v hp hz.hm w
      refine ⟨I,by rw [H];exact z1,⟨z2,?_,by omega,by omega,z7,hz.hm.kp z6⟩⟩
      refine z3.more (j₀:=i) (q₀:=(k:Int)) (λ j q hd=>?_) z7 rfl ho z8 z9 z10
      rcases hd with hd|hd
      . exact .inl (.inl hd)
      . rcases (QV l).1 hd with hd|rfl
        . exact .inl (.inr hd)
        . by_cases e:j=i
          . exact .inr ⟨e,rfl⟩
          . exact .inl (.inl e))
  rw [L7] at h2
  have d:=h2.inv
  have A:=h2.qlen
  have B:=h2.num1
  refine ⟨u,h1,{ h2 with
    inv := { d with rel:=λ j J q n h s hd=>d.rel j J q n h s (by
      by_cases e:j=i
      . subst e
        rw [h2.hi] at n
        obtain rfl:=L1 n
        exact .inr (by rw [D4 (P1 _)];exact s)
      . exact .inl e) }
    num1:=by omega
    qlen:=by omega }⟩
structure OI (t:Tsk) (gens:List Swp) (ord:Nat->Nat) (NN:Nat) (st:OT):Prop where
  ob:AS t gens st.2
  inv:OrI t (cnS t gens) (wdS t gens) (λ _ _=>True) st.2.nodes (qs st.2.open_) ord st.1.toNat
  num1:st.2.number<=NN
  qlen:st.2.open_.length<=NN
  exp0:0<=st.1
  nn:(NN:Int)<=1 + 20 * st.1
theorem OI.exp {t:Tsk} {a:List Swp} (g:Sy t a) {b:Nat->Nat} {NN:Nat} {c:OT} (hi:OI t a b NN c):c.1<=512:=by
  have d:=Po g hi.inv
  have e:=hi.inv.num
  have f:=Xx c.2.nodes
  have:=hi.exp0
  omega
theorem YE {t:Tsk} {gens:List Swp} (h:Sy t gens) {ord:Nat→Nat} {NN:Nat} {st:OT} (hi:OI t gens ord NN st) :
    (∃ st':OT,(∀ lim,Y9 t (some ⟨t⟩) lim st=some (.next st'))/\OI t gens ord NN st'/\st'.1=st.1/\st'.2.open_.length < st.2.open_.length) \/
    ((∀ lim,Y9 t (some ⟨t⟩) lim st=some (.ret (⟨2,[],0,st.1⟩,⟨0⟩)))/\st.2.open_.length=0) \/
    (∃ p c,(∀ lim,Y9 t (some ⟨t⟩) lim st=some (.ret (⟨1,p,c,st.1⟩,⟨0⟩)))/\p.length<=600/\(∃ s',PlanR t t.init p s' c/\holdsB t.goal s'=true)/\(∀ e∈qs st.2.open_,c<=e.key)/\∃ (i:Nat) (n:ONd),st.2.nodes[i]?=some n/\n.fin=false) \/
    (∃ (st':OT) (ord':Nat->Nat) (NN':Nat),(∀ lim,Y9 t (some ⟨t⟩) lim st=if lim<=st.1 then some (.ret (⟨3,[],0,st.1⟩,⟨0⟩)) else some (.next st'))/\OI t gens ord' NN' st'/\st'.1=st.1 + 1/\∃ (i:Nat) (n:ONd),st.2.nodes[i]?=some n/\n.fin=false):=by
  have hok:=h.sm.ok
  have hE:=hi.exp h
  have hE0:=hi.exp0
  have hnn:=hi.nn
  have hql:=hi.qlen
  have hnu:=hi.num1
  obtain ⟨exp,tt,gg,N,tab,op,num⟩:=st
  obtain ⟨⟨e1,e2,has3,has4,has5⟩,hinv,_,_,_,_⟩:=hi
  dsimp only at e1 e2 has3 has4 has5 hinv hE hE0 hnn hql hnu ⊢
  subst e1 e2
  by_cases h0:op.length=0
  . refine .inr (.inl ⟨λ lim=>?_,h0⟩)
    unfold Y9 CH
    dsimp only
    rw [Ar,if_pos (by omega)]
  obtain ⟨pr,p1,e,q',rfl,p3,p4,p5⟩:=Xz (q:=⟨op⟩) has4 (by dsimp only;omega) (by dsimp only;omega)
  dsimp only at p4 p5
  have hem:toQ e∈qs op:=p4.mem_iff.2 H8
  obtain ⟨i,n,hei,hn,hle⟩:=hinv.ent _ hem
  change e.node=(i:Int) at hei
  change n.cost<=e.cost at hle
  have hpl:=p4.length_eq
  simp only [J5,Il] at hpl
  have hst:=LZ h (hinv.rch i n hn)
  by_cases hstale:n.fin=true\/n.cost < e.cost
  . refine .inl ⟨(exp,⟨tt,gg,N,tab,q'.l,num⟩),λ lim=>?_,⟨⟨rfl,rfl,has3,p3,has5⟩,hinv.drop p4 hei hn (hstale.imp id λ hl=>by change n.cost≠e.cost;omega),hnu,by dsimp only;omega,hE0,hnn⟩,rfl,by dsimp only;omega⟩
    unfold Y9 CH
    dsimp only
    rw [Ar,if_neg (by omega),p1,Ar]
    dsimp only
    rw [hei,Bd,hn,Ar]
    by_cases hf:n.fin=true
    . rw [if_pos hf,Ar,BS]
    . rw [if_neg hf,Ar,if_pos (hstale.resolve_left hf),Ar,BS]
  . have hff:n.fin=false:=by
      cases hb:n.fin with
      | false=>rfl
      | true=>exact absurd (.inl hb) hstale
    have hke:n.cost=e.cost:=by
      have:¬ n.cost < e.cost:=λ hl=>hstale (.inr hl)
      omega
    have start:∀ lim,Y9 tt (some ⟨tt⟩) lim (exp,⟨tt,gg,N,tab,op,num⟩)=if holdsB tt.goal n.state=true then bnd (Dz (⟨tt,gg,N,tab,q'.l,num⟩:Ors) (i:Int)) λ p=>if p.2.n≠0 then (some (.ret ((⟨0,([]:List Int),0,0⟩:Rsl),(⟨p.2.n⟩:Err)))) else (some (.ret ((⟨1,p.1,n.cost,exp⟩:Rsl),(⟨0⟩:Err)))) else if lim<=exp then (some (.ret ((⟨3,([]:List Int),0,exp⟩:Rsl),(⟨0⟩:Err)))) else (bnd (Q1 (exp + 1)) λ n2=>bnd (Cc (some ⟨tt⟩) n.state) λ l=>bnd (rng (ρ:=Ctl OT (Rsl×Err)) (λ (_:Nat) (a:Suc) (y:Ors)=>oIn tt n.cost (i:Int) y a) l 0 (⟨tt,gg,N.set i { n with fin:=true },tab,q'.l,num⟩:Ors)) λ r=>fin r λ (z:Ors)=>some (.next (n2,z))):=by
      intro lim
      unfold Y9 CH
      dsimp only
      rw [Ar,if_neg (by omega),p1,Ar]
      dsimp only
      rw [hei,Bd,hn,Ar,hff,CA,Ar,if_neg (by omega),Ar,CA,Ar,Uv,Ar,I9]
      simp only [Ar]
    have hleast:∀ e'∈qs op,n.cost<=e'.key:=λ e' m=>by have:=Ux (p5 e' m);change e.cost<=e'.key at this;omega
    by_cases hg:holdsB tt.goal n.state=true
    . obtain ⟨l,l1,l2⟩:=hinv.path hn
      obtain ⟨p,L,g1,g2,g3,g4,y,g5,g6⟩:=VY h (x:=⟨tt,gg,N,tab,q'.l,num⟩) rfl rfl hinv hn l1 (by omega)
      refine .inr (.inr (.inl ⟨p,n.cost,λ lim=>?_,by omega,⟨L,g3,by rw [<- Oq hok g5 g4 g6];exact hg⟩,hleast,i,n,hn,hff⟩))
      rw [start,if_pos hg,g1,Ar,if_neg (by simp)]
    . have hgf:holdsB tt.goal n.state=false:=by simpa using hg
      have hm:=hinv.mark p4 p5 hei hn hff hke hgf rfl
      have hbd:=hinv.bound i n hn
      rw [Int.toNat_of_nonneg hE0] at hbd
      have hil:=AD hn
      have hself:(N.set i { n with fin:=true })[i]?=some { n with fin:=true }:=D9 hil
      obtain ⟨y',y1,y2⟩:=Zl h (E:=exp.toNat + 1) (NN:=NN) (i:=i) (m:={ n with fin:=true }) (y:=(⟨tt,gg,N.set i { n with fin:=true },tab,q'.l,num⟩:Ors)) ⟨⟨rfl,rfl,has3.set hn rfl,p3,has5⟩,hm,hnu,by dsimp only;omega,hself,λ j a hj hja=>by
          by_cases e1:i=j
          . subst e1;rw [hself] at hj;obtain rfl:=L1 hj;exact P3 _
          . rw [G2 e1] at hj
            have:=hinv.lower j a hj hja _ hem
            change a.cost<=e.cost at this
            change a.cost<=n.cost
            omega⟩ rfl (by omega) (by omega) (by
        have:((exp.toNat + 1:Nat):Int)=exp + 1:=by omega
        rw [this]
        dsimp only
        omega)
      refine .inr (.inr (.inr ⟨(exp + 1,y'),(λ j=>if j=i then exp.toNat else ord j),NN + 20,λ lim=>?_,⟨y2.ob,?_,by have:=y2.num1;dsimp only;omega,y2.qlen,by dsimp only;omega,by dsimp only;omega⟩,rfl,i,n,hn,hff⟩))
      . rw [start,if_neg hg]
        by_cases hlim:lim<=exp
        . rw [if_pos hlim,if_pos hlim]
        . rw [if_neg hlim,if_neg hlim,BZ (by unfold P9;omega),Ar,WW hok (by have:=hst.1;have:=hok.1;omega),Ar,y1,Ar,BB]
      . dsimp only
        rw [show (exp + 1).toNat=exp.toNat + 1 from by omega]
        exact y2.inv
end
section
set_option linter.unusedVariables false
set_option linter.unusedSimpArgs false
open Go Go.RowKit
def AaY (t:Tsk) (gens:List Swp) (m:Int) (r:Rsl):Prop:=0<=r.expanded/\r.expanded<=m/\∃ M:List (List Int),M.Nodup/\(M.length:Int)=r.expanded/\(∀ s∈M,OR t (cnS t gens) s) /\
  ((r.verdict=1/\r.plan.length<=600/\(∃ a,PlanR t t.init r.plan a r.cost/\holdsB t.goal a=true)/\(∀ C,Walk t t.init C->r.cost<=C)/\∃ s,¬ s∈M/\OR t (cnS t gens) s) \/
   (r.verdict=2/\r.plan=[]/\r.cost=0/\(∀ C,¬ Walk t t.init C)/\∀ s,OR t (cnS t gens) s->s∈M) \/
   (r.verdict=3/\r.plan=[]/\r.cost=0/\m<=r.expanded/\∃ s,¬ s∈M/\OR t (cnS t gens) s))
def finS (N:List ONd):List (List Int):=(N.filter (·.fin)).map (·.state)
theorem MX {N:List ONd} {s:List Int}:s∈finS N↔∃ (i:Nat) (n:ONd),N[i]?=some n/\n.fin=true/\n.state=s:=by
  unfold finS
  rw [N8]
  constructor
  . rintro ⟨n,hn,rfl⟩
    obtain ⟨a,h2⟩:=L6.1 hn
    obtain ⟨i,hi⟩:=G3 a
    exact ⟨i,n,hi,h2,rfl⟩
  . rintro ⟨i,n,hi,h2,rfl⟩
    exact ⟨n,L6.2 ⟨F9 hi,h2⟩,rfl⟩
section
variable {t : Tsk} {gens : List Swp} {ord : Nat → Nat} {NN : Nat} {st : OT}
theorem OI.set (e:Sy t gens) (hi:OI t gens ord NN st):(finS st.2.nodes).Nodup/\((finS st.2.nodes).length:Int)=st.1/\∀ s∈finS st.2.nodes,OR t (cnS t gens) s:=by
  have c:=hi.exp0
  refine ⟨?_,?_,λ s hs=>?_⟩
  . have d:(st.2.nodes.map (·.state)).Nodup:=QX λ i j s a b=>by
      rw [I4] at a b
      obtain ⟨n,hn,e1⟩:=D6.1 a
      obtain ⟨m,hm,e2⟩:=D6.1 b
      exact hi.inv.uniq i j n m hn hm (e1.trans e2.symm)
    exact d.sublist ((List.filter_sublist).map _)
  . unfold finS
    rw [L7]
    have:=hi.inv.num
    unfold W8 at this
    omega
  . obtain ⟨i,n,hn,_,rfl⟩:=MX.1 hs
    exact hi.inv.rch i n hn
theorem OI.left (hi:OI t gens ord NN st) {i:Nat} {n:ONd} (hn:st.2.nodes[i]?=some n) (hf:n.fin=false):∃ s,¬ s∈finS st.2.nodes/\OR t (cnS t gens) s:=by
  refine ⟨n.state,λ hm=>?_,hi.inv.rch i n hn⟩
  obtain ⟨j,m,hm,a,e⟩:=MX.1 hm
  have:=hi.inv.uniq j i m n hm hn e
  subst this
  rw [hn] at hm
  obtain rfl:=L1 hm
  rw [hf] at a
  cases a
theorem OI.len (d:Sy t gens) (hi:OI t gens ord NN st):st.2.open_.length<=90000:=by
  have a:=hi.exp d
  have b:=hi.qlen
  have c:=hi.nn
  have:=hi.exp0
  omega
theorem OI.front (b:Sy t gens) (hi:OI t gens ord NN st) {C:Int} (a:Walk t t.init C):∃ e∈qs st.2.open_,e.key<=C:=by
  obtain ⟨n,r1,r2,_,r4,_⟩:=hi.inv.root
  obtain ⟨e,e1,e2⟩:=hi.inv.front b.sm.ok (YD b a) 0 n r1 r2
  exact ⟨e,e1,by omega⟩
end
theorem XG {M K a q d n:Nat} (e:a < M) (g:(M - a) * K + q < n + 1) (f:d < K):(M - (a + 1)) * K + d < n:=by
  obtain ⟨b,hb⟩:∃ b,M - a=b + 1:=⟨M - a - 1,by omega⟩
  have c:M - (a + 1)=b:=by omega
  rw [hb,P2,Nat.one_mul] at g
  rw [c]
  omega
theorem Zm {t:Tsk} {gens:List Swp} (A:Sy t gens) (d:Int):∀ (n:Nat) (st:OT) (ord:Nat→Nat) (NN:Nat),OI t gens ord NN st→st.1≤max d 0→(601 - st.1.toNat) * 100000 + st.2.open_.length < n→∃ r,lop (Y9 t (some ⟨t⟩) d) st=some (.ret (r,⟨0⟩))∧AaY t gens (max d 0) r∧st.1≤r.expanded∧∀ a,r.verdict≠3→r.expanded≤max a 0→lop (Y9 t (some ⟨t⟩) a) st=some (.ret (r,⟨0⟩)):=by
  intro n
  induction n with
  | zero=>intro st ord NN _ _ hn;omega
  | succ n v =>
    intro st ord NN hi h hn
    have z:=hi.exp A
    have j:=hi.exp0
    have y:=A.sm.ok
    obtain ⟨o,m2,m3⟩:=hi.set A
    rcases YE A hi with ⟨e,b,h2,h3,h4⟩|⟨b,h2⟩|⟨p,c,b,h2,h3,h4,i,nd,h5,h6⟩|⟨e,ord',NN',b,h2,h3,i,nd,h5,h6⟩
    . obtain ⟨r,f1,f2,f3,f4⟩:=v e ord NN h2 (by omega) (by rw [h3];omega)
      refine ⟨r,by rw [Dj,b];exact f1,f2,by omega,λ a hv hl=>?_⟩
      rw [Dj,b];exact f4 a hv hl
    . have l:st.2.open_=[]:=List.length_eq_zero_iff.1 h2
      have w:qs st.2.open_=[]:=by rw [l];rfl
      refine ⟨⟨2,[],0,st.1⟩,by rw [Dj,b],⟨j,h,finS st.2.nodes,o,m2,m3,.inr (.inl ⟨rfl,rfl,rfl,λ C q=>?_,λ s hs=>?_⟩)⟩,P3 _,λ a _ _=>by rw [Dj,b]⟩
      . obtain ⟨x,m,_⟩:=hi.front A q
        rw [w] at m;simp at m
      . have f:=hi.inv
        rw [w] at f
        obtain ⟨i,nd,i1,i2,i3⟩:=f.all hs
        exact MX.2 ⟨i,nd,i1,i3,i2⟩
    . refine ⟨⟨1,p,c,st.1⟩,by rw [Dj,b],⟨j,h,finS st.2.nodes,o,m2,m3,.inl ⟨rfl,h2,h3,λ C q=>?_,hi.left h5 h6⟩⟩,P3 _,λ a _ _=>by rw [Dj,b]⟩
      obtain ⟨x,m,k⟩:=hi.front A q
      have:=h4 x m
      show c<=C
      omega
    . by_cases g:d<=st.1
      . exact ⟨⟨3,[],0,st.1⟩,by rw [Dj,b,if_pos g],⟨j,h,finS st.2.nodes,o,m2,m3,.inr (.inr ⟨rfl,rfl,rfl,by show max d 0<=st.1;omega,hi.left h5 h6⟩)⟩,P3 _,λ a hv _=>absurd rfl hv⟩
      . have u:=h2.len A
        obtain ⟨r,f1,f2,f3,f4⟩:=v e ord' NN' h2 (by omega) (by
          have:e.1.toNat=st.1.toNat + 1:=by omega
          rw [this];exact XG (by omega) hn (by omega))
        refine ⟨r,by rw [Dj,b,if_neg g];exact f1,f2,by omega,λ a hv hl=>?_⟩
        rw [Dj,b,if_neg (by omega)];exact f4 a hv hl
theorem YF {t:Tsk} {gens:List Swp} (o:Sy t gens):∃ x,CD (⟨t,gens,([]:List ONd),(⟨[]⟩:MapP ByteArray Int),([]:List OEn),0⟩:Ors) t.init 0 (-1) (-1)=some (⟨0⟩,x)/\OI t gens (λ _=>0) 1 (0,x):=by
  have g:=o.sm.ok
  have one:∀ {α:Type} {a b:α} {i:Nat},[a][i]?=some b->i=0/\b=a:=λ {α a b i} o=>by
    cases i with
    | zero=>simp at o;exact ⟨rfl,o.symm⟩
    | succ i=>simp at o
  have d:TabI t.vars [] ([]:List (ByteArray×Int)):=λ y _=>.inl ⟨rfl,λ i n hi=>by simp at hi⟩
  rcases Wz o (x:=(⟨t,gens,([]:List ONd),(⟨[]⟩:MapP ByteArray Int),([]:List OEn),0⟩:Ors)) rfl rfl d (λ j x y _ h=>by simp [qs] at h) (by simp) (by simp) (by simp) (by simp) g.2.2.2.1 0 (-1) (-1) with ⟨i,n,a1,_⟩|⟨i,y,a1,a2,a3,a4,a5,a6,a7,a8,k⟩
  . simp at a1
  rcases k with ⟨rfl,b2,b3⟩|⟨a,b1,_⟩
  case inr=>simp at b1
  dsimp only at a1 a2 a3 a4 a5 a6 a7 a8 b2 b3
  rw [L3] at b2
  refine ⟨y,a1,⟨⟨a2,a3,a4,a5,by show 0<=y.number;omega⟩,?_,by show y.number<=1;omega,by dsimp only;rw [a7];simp,by simp,by simp⟩⟩
  have c:∀ (i:Nat) n,y.nodes[i]?=some n->i=0/\n=⟨cnS t gens t.init,0,-1,-1,wdS t gens t.init,false⟩:=λ i n hi=>by rw [b2] at hi;exact one hi
  have f:∀ e,e∈qs y.open_↔e=⟨0,0,((0:Nat):Int),0 + 1⟩:=λ e=>by rw [a8.mem_iff];simp [qs]
  dsimp only
  refine ⟨⟨_,by rw [b2];rfl,rfl,rfl,rfl,rfl,rfl⟩,λ i n hi=>.inl (c i n hi).1,λ i n hi hf=>?_,λ i n hi hf=>?_,λ e he=>?_,λ i n hi hf=>?_,λ i n hi=>?_,λ i n hi hf=>?_,λ i n q hi hf=>?_,by rw [b2];rfl,λ i n hi=>?_,λ l=>by simp at l,λ i j n m hi hj _=>by rw [(c i n hi).1,(c j m hj).1]⟩
  . rw [(c i n hi).2] at hf;cases hf
  . rw [(c i n hi).2] at hf;cases hf
  . rw [(f e).1 he]
    exact ⟨0,_,rfl,by rw [b2];rfl,by simp⟩
  . obtain ⟨rfl,rfl⟩:=c i n hi
    exact ⟨_,(f _).2 rfl,rfl,rfl⟩
  . rw [(c i n hi).2]
    simp
  . rw [(c i n hi).2] at hf;cases hf
  . rw [(c i n hi).2] at hf;cases hf
  . rw [(c i n hi).2];exact .init
theorem Td {t:Tsk} {gens:List Swp} (c:TaskOk t) (hs:∀ x∈gens,SymP t x):rng (ρ:=Rsl×Err) (λ (d:Nat) (a:Swp) (e:Unit)=>bnd (DH t a) λ b=>if b=true then some (.next ()) else some (.ret ((⟨0,([]:List Int),0,0⟩:Rsl),(⟨2⟩:Err)))) gens 0 ()=some (.done ()):=by
  obtain ⟨⟨⟩,h1,_⟩:=Dw (ρ:=Rsl×Err) (f:=λ (d:Nat) (a:Swp) (e:Unit)=>bnd (DH t a) λ b=>if b=true then some (.next ()) else some (.ret ((⟨0,([]:List Int),0,0⟩:Rsl),(⟨2⟩:Err)))) (xs:=gens) (s₀:=()) (λ _ _=>True) trivial λ k x s hk _=>by
    rw [Vr,Ar,Bk ⟨c,hs x (F9 hk)⟩,BS]
    exact ⟨(),rfl,trivial⟩
  exact h1
theorem Rb {t:Tsk} {gens:List Swp} (f:Sy t gens) (c:Int):∃ r,DM t gens c=some (r,⟨0⟩)/\AaY t gens (max c 0) r/\(r.verdict≠3->∀ a,r.expanded<=max a 0->DM t gens a=some (r,⟨0⟩)):=by
  have d:=f.sm.ok
  obtain ⟨x,x1,x2⟩:=YF f
  have e:∀ l,DM t gens l=bnd (lop (Y9 t (some ⟨t⟩) l) (0,x)) λ b=>fin b λ (_:OT)=>none:=λ l=>by
    rw [XF]
    unfold Dr
    rw [EO.2 d,Ar,if_neg (by simp),Td d f.sy,Ar,BB,Ys d,Ar,if_neg (by simp),x1,Ar,if_neg (by simp)]
  obtain ⟨r,f1,f2,f3,f4⟩:=Zm f c _ _ _ _ x2 (by dsimp only;omega) (J9 _)
  refine ⟨r,by rw [e,f1,Ar,Ny],f2,λ hv a hl=>?_⟩
  rw [e,f4 a hv hl,Ar,Ny]
theorem NL {t:Tsk} {gens:List Swp} (b:Sy t gens) {m:Int} {r:Rsl} (hr:AaY t gens m r)  (hm:600<=m:=by decide):r.verdict≠3/\r.expanded<=((statesL t.vars).length:Int):=by
  obtain ⟨_,_,M,m1,m2,m3,hc⟩:=hr
  have a:M.length<=(statesL t.vars).length:=Lx m1 λ s hs=>GY.2 (LZ b (m3 s hs))
  refine ⟨λ hv=>?_,by omega⟩
  have:=b.sm.many
  rcases hc with h1|h1|⟨_,_,_,h4,_⟩<;>omega
theorem UH {t:Tsk} {gens:List Swp} (e:Sy t gens) {m:Int} {r:Rsl} (hr:AaY t gens m r) (hv:r.verdict≠3) {b:Int} (a:b < Inf->Walk t t.init b) (d:∀ C,Walk t t.init C->b<=C):En t r b=some true:=by
  obtain ⟨_,_,M,_,_,_,⟨c,h2,⟨s',h3,h4⟩,h5,_⟩|⟨c,h2,h3,h4,_⟩|⟨c,_⟩⟩:=hr
  . exact VQ e.sm.mid a d c (by omega) h3 h4 h5
  . exact VR a c h2 h3 h4
  . exact absurd c hv
end
section
open Go Go.RowKit
def AaJ (vars:List Int) (x:Fct):Bool:=decide (0<=x.var) && (decide (0<=x.val) && (match vars[x.var.toNat]? with|some y=>decide (x.val < y)|none=>false))
theorem Rc {vars:List Int} {x:Fct} (c:AaJ vars x=true):R1 vars x:=by
  unfold AaJ at c
  simp only [J7,decide_eq_true_eq] at c
  obtain ⟨b,h2,a⟩:=c
  cases hv:vars[x.var.toNat]? with
  | none=>rw [hv] at a;cases a
  | some y=>rw [hv] at a;exact ⟨b,h2,y,hv,by simpa using a⟩
def Aa0:List Fct->Bool
  | x :: y :: r=>decide (x.var < y.var) && Aa0 (y :: r)
  | _=>true
theorem Sp:∀ {f:List Fct},Aa0 f=true->∀ (i:Nat) x y,f[i]?=some x->f[i + 1]?=some y->x.var < y.var
  | [],_,i,x,y,h,_=>by simp at h
  | [_],_,i,x,y,_,h=>by simp at h
  | a :: b :: r,h,i,x,y,h1,h2=>by
    simp only [Aa0,J7,decide_eq_true_eq] at h
    cases i with
    | zero=>simp at h1 h2;subst h1;subst h2;exact h.1
    | succ i=>exact Sp h.2 i x y (by simpa using h1) (by simpa using h2)
def Aaa (vars:List Int) (f:List Fct):Bool:=f.all (AaJ vars) && Aa0 f
theorem LA {vars:List Int} {f:List Fct} (b:Aaa vars f=true):Q7 vars f:=by
  unfold Aaa at b
  rw [J7,J8] at b
  exact ⟨λ i x a=>Rc (b.1 x (F9 a)),Sp b.2⟩
def ZZ:List Int->List Int->Bool
  | [],[]=>true
  | y :: vars,x :: s=>decide (0<=x) && (decide (x < y) && ZZ vars s)
  | _,_=>false
theorem Pp:∀ {vars s:List Int},ZZ vars s=true->StateOk vars s
  | [],[],_=>⟨rfl,λ i x y e=>by simp at e⟩
  | y :: vars,x :: s,e=>by
    simp only [ZZ,J7,decide_eq_true_eq] at e
    obtain ⟨d,h2⟩:=Pp e.2.2
    refine ⟨by simp [d],λ i a b c hb=>?_⟩
    cases i with
    | zero=>simp at c hb;subst c;subst hb;exact ⟨e.1,e.2.1⟩
    | succ i=>exact h2 i a b (by simpa using c) (by simpa using hb)
  | [],_ :: _,e=>by simp [ZZ] at e
  | _ :: _,[],e=>by simp [ZZ] at e
def AaU (s:ByteArray):Bool:=decide (s.size<=256) && s.data.toList.all λ c=>decide (32<=c.toNat) && decide (c.toNat<=126)
theorem Wa {s:ByteArray} (a:AaU s=true):ZX s:=by
  unfold AaU at a
  simp only [J7,decide_eq_true_eq,J8] at a
  refine ⟨a.1,λ i hi=>a.2 _ ?_⟩
  show s.data[i]∈_
  simp
def opB (vars:List Int) (o:Opr):Bool:=decide (0<=o.cost) && (decide (o.cost<=1048576) && (decide (o.effs.length<=64) && (AaU o.name && (Aaa vars o.pre && o.effs.all λ e=>Aaa vars e.cond && AaJ vars ⟨e.var,e.val⟩))))
theorem YG {vars:List Int} {o:Opr} (b:opB vars o=true):Aan vars o:=by
  unfold opB at b
  simp only [J7,decide_eq_true_eq,J8] at b
  obtain ⟨a,h2,h3,h4,h5,h6⟩:=b
  exact ⟨a,h2,h3,Wa h4,LA h5,λ i e he=>⟨LA (h6 e (F9 he)).1,Rc (h6 e (F9 he)).2⟩⟩
def AbA (t:Tsk):Bool:=decide (t.vars.length<=64) && (decide (t.ops.length<=4096) && ((t.vars.all λ n=>decide (1<=n) && decide (n<=64)) && (ZZ t.vars t.init && (Aaa t.vars t.goal && t.ops.all (opB t.vars)))))
theorem Wb {t:Tsk} (c:AbA t=true):TaskOk t:=by
  unfold AbA at c
  simp only [J7,decide_eq_true_eq,J8] at c
  obtain ⟨a,h2,h3,h4,h5,h6⟩:=c
  exact ⟨a,h2,λ i n hn=>h3 n (F9 hn),Pp h4,LA h5,λ i o b=>YG (h6 o (F9 b))⟩
end
section
set_option linter.unusedVariables false
set_option linter.unusedSimpArgs false
open Go Go.RowKit
def X4:Tsk:=⟨[2],[0],[(⟨0,1⟩:Fct)],[(⟨(⟨#[]⟩:ByteArray),3,([]:List Fct),[(⟨([]:List Fct),0,1⟩:Eff)]⟩:Opr)]⟩
theorem XH:TaskOk X4:=Wb (by kernel_rfl)
theorem Te:SmallOk X4:=by
  refine ⟨by decide,by decide,λ i o a=>?_,XH,by decide⟩
  have:o∈X4.ops:=F9 a
  simp [X4] at this
  subst this
  decide
theorem UI {s p b:List Int} {C:Int} (e:PlanR X4 s p b C):C=3 * (p.length:Int)/\∀ x∈p,x=0:=by
  induction e with
  | nil=>simp
  | @cons s c b k o C a _ _ d =>
    have hk:=AD a
    simp [X4] at hk
    subst hk
    have:o.cost=3:=by simp [X4] at a;rw [<- a]
    refine ⟨by rw [this,d.1];simp;omega,λ x hx=>?_⟩
    rcases M8.1 hx with rfl|hx
    . rfl
    . exact d.2 x hx
theorem Aaw:Fy=some true:=by
  unfold Fy
  show (bnd (DM X4 [] 10) _)=_
  have f:Sy X4 []:=⟨Te,λ x j=>by simp at j,by simp⟩
  obtain ⟨r,r1,r2,r3⟩:=Rb f 1000
  obtain ⟨hv,j⟩:=NL f r2
  have p:(statesL X4.vars).length=2:=by decide
  rw [r3 hv 10 (by omega),Ar,if_pos rfl]
  have m:Walk X4 X4.init 3:=by
    have d:PlanR X4 X4.init [((0:Nat):Int)] _ (3 + 0):=.cons (k:=0) (o:=(⟨(⟨#[]⟩:ByteArray),3,([]:List Fct),[(⟨([]:List Fct),0,1⟩:Eff)]⟩:Opr)) rfl (by decide) .nil
    exact d.walk (by decide)
  obtain ⟨_,_,M,_,_,_,⟨d,h2,⟨s',g,h4⟩,h5,_⟩|⟨d,h2,g,h4,_⟩|⟨d,_⟩⟩:=r2
  . have h:=UI g
    have q:=h5 3 m
    have n:r.plan=[0]:=by
      cases i:r.plan with
      | nil =>
        rw [i] at g
        have e:s'=X4.init:=by
          generalize r.cost=c at g
          cases g
          rfl
        rw [e] at h4
        exact absurd h4 (by decide)
      | cons a l =>
        rw [i] at h
        have:=h.2 a H8
        subst this
        cases l with
        | nil=>rfl
        | cons b l=>simp at h;omega
    rw [n] at h
    dsimp only
    rw [if_pos d,if_pos (by simpa using h.1),n]
    unfold Jy
    rw [Bk rfl]
    rfl
  . exact absurd m (h4 3)
  . exact absurd d hv
end
section
open Go Go.RowKit
theorem UJ (t:Tsk):FJ t=some true:=by
  unfold FJ IQ
  by_cases hs:SmallOk t
  case neg =>
    rw [AY hs,Ar,CA,Ar,BS,Aaw,Ar,BS]
    rfl
  rw [Bk hs,Ar,BS]
  have a:=hs.2.2.2.1
  obtain ⟨q,hq,hqf⟩:=Us (vars:=t.vars) a.1 λ k hk=>by
    obtain ⟨i,hi⟩:=G3 hk
    have:=a.2.2.1 i k hi
    omega
  rw [hq,Ar]
  by_cases d:300 < q
  . rw [if_pos d,Ar,BS,Aaw,Ar,BS]
    rfl
  rw [if_neg d,Aaw,Ar,BS,Ar,CA]
  obtain ⟨g,hm5,hf2,h7⟩:=Uu a (hqf (by omega))
  obtain ⟨c,g1,_,_,g4,g5,_⟩:=VN a hs.2.1 (Ta (by omega))
  have f:c.length<=49:=N6 g4 (M6 h7 h7)
  have h:Sy t c:=⟨hs,λ x e=>(g1 x e).1,by omega⟩
  obtain ⟨r,r1,r2,_⟩:=Rb h 1000
  obtain ⟨b,b1,b2,b3,b4,b5⟩:=Xt hs.mid
  obtain ⟨hv,e⟩:=NL h r2
  rw [g5,Ar,if_neg (by simp),r1,Ar,if_pos rfl,b1,Ar]
  dsimp only
  rw [UH h r2 hv b4 b5,Ar,BS]
  rfl
end
section
open Go Go.RowKit Go.ChangeShapes Go.WideShapes Go.Deep
theorem Abc {w:World} {a:Value} {b:Tsk} (c:V w a b) (d:TabF w (All w)):Fn prog 3 [a] w λ v w'=>v=.bool true/\Ext w w' :=
  (Ln (λ _ e=>e) c d (UJ b)).mono λ _ _ e=>⟨e.2.bool,e.1⟩
set_option maxRecDepth 100000 in
theorem AbN (os:Os) (a:Array Value):laidMetH prog Rows.orbitFindsRow.laid ((World.doorLaid prog 4000 os).forCall (λ _ _=>0) ⟨#[],a,[]⟩).memory :=
  laidMetH_of_parts3 (fuel:=8) (laidMet_of_run' 8 (by kernel_rfl) (by kernel_rfl)) (by kernel_rfl) (by kernel_rfl)
set_option maxRecDepth 100000 in
theorem Mb (os:Os) (d:os.Started) (s:Type) (enc:TypeId×Value->s) :
    ReturnsInHanded {} checked os 3 .any (λ w b=>(Rows.orbitFindsSpec.pre enc prog f3 Rows.orbitFindsRow.domain false w b/\laidMetH prog Rows.orbitFindsRow.laid w)/\sizedMet enc prog f3 (OpenSpec.ofChange Rows.orbitFindsSpec) false w b) (Rows.orbitFindsSpec.post enc prog f3 false true false false):=by
  refine returnsInHanded_of_change_and (C:=checked) (X:=λ w _=>laidMetH prog Rows.orbitFindsRow.laid w) (λ _ _ _ o u=>u.of_heap o) AbV d (by kernel_rfl) func3 (ChangeSpec.witness_shaped (enc:=enc) (C:=checked) (os:=os) (X:=λ w _=>laidMetH prog Rows.orbitFindsRow.laid w) false (World.doorLaid prog 4000 os) #[(.agg #[.slice none 0 0,.slice none 0 0,.slice none 0 0,.slice none 0 0])] 8 rfl (World.shaped_of_RefB (by kernel_rfl) (by kernel_rfl)) (by kernel_rfl) (by kernel_rfl) (by kernel_rfl) (AbN os _)) ?_
  intro x base b n r l c q _ _ i _
  have f:∀ p,DataW.TrodAll enc prog x 0 (λ _=>true) true f3.params.toList b.toList n p->∃ h k,b=#[h]/\n=[k]/\(∃ a:Tsk,V x h a):=by
    intro p hA
    rw [params3] at hA
    replace c:∀ (j:Nat) t v,(#[26]:Array TypeId)[j]?=some t->b[j]?=some v->Value.okWide prog x .any base t v:=by rw [<- params3];exact c
    obtain ⟨h,vs0,k,ds0,p0,q0,g0,e0,_,m,r0⟩:=trodAll_cons hA
    obtain ⟨g,e,_⟩:=trodAll_nil r0
    rw [g] at g0;rw [e] at e0
    obtain rfl:b=#[h]:=by cases b;simp_all
    exact ⟨h,k,rfl,e0,(by first|exact openAgg rfl (c 0 26 h rfl rfl) m|exact openOne rfl (c 0 26 h rfl rfl) m)⟩
  refine AbJ rfl (by kernel_rfl) (by rw [params3];exact of_decide_eq_true (by kernel_rfl)) q ?_ ?_
  . intro p hA
    obtain ⟨h,k,_,rfl,_⟩:=f p hA
    rfl
  . intro p hA
    obtain ⟨h,k,rfl,_,⟨a0,m⟩⟩:=f p hA
    exact Abc m (WS (laid:=Rows.orbitFindsRow.laid) rfl i)
theorem NM:Rows.OrbitFindsSaid :=
  OpenClaim.holds_of_wide 3 f3 rfl rfl rfl rfl rfl rfl rfl ⟨rfl,rfl,rfl,rfl,rfl⟩ rfl rfl rfl rfl rfl (by kernel_rfl) func3 (by kernel_rfl)
    (of_decide_eq_true (by kernel_rfl)) (by unfold Func.isWrapper;first|(rw [if_pos (by decide +kernel)];kernel_rfl)|(rw [if_neg (by decide +kernel)];exact ⟨rfl,rfl⟩))
    (λ os a b enc _=>Mb os a b enc)
theorem orbitFinds_holds:Rows.OrbitFindsCardSaid :=
  Claim7.holds_tied_plain_at .later [] [.data, .data, .data] true (true, "d5c25815a62dae6ca9a212f7db7607e7936f25f23d4b7ca4f65630193e6e0b81") true
    NM (λ _ e=>by cases e) (by kernel_rfl) (λ _ e=>by cases e) orbitFinds_row_tie rfl ⟨rfl,rfl⟩ (by kernel_rfl) rfl
    (λ f d hf b=>by
      obtain rfl : f = 3 := L1 ((show prog.funcNamed "stratagem/stratagemlaw52.OrbitFinds" = some 3 by kernel_rfl).symm.trans hf) |>.symm
      obtain rfl:d=f3:=(L1 (func3.symm.trans b)).symm
      exact ⟨by kernel_rfl,λ j t c=>by
        rw [params3] at c
        have hm:t∈[26]:=by simpa using Array.mem_of_getElem? c
        have a:([26].all λ u=>!prog.wantsStandIn u)=true:=by kernel_rfl
        exact (show prog.wantsStandIn t=false by simpa using J8.1 a t hm)⟩)
    (by kernel_rfl)
#print axioms orbitFinds_holds
end
end Go.Proofs.YtdlhmdckakbboaaGreatDoor

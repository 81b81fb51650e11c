/- WholeSymmetry returns true for every task, every map and every bound, and these read behind the call as before. No conditions. -/
import Derived.Test.YtonclmjaphieiaaGreatWSzE
import Derived.Test.YtonclmjaphieiaaGreatRows
set_option linter.unusedVariables false
set_option linter.unusedSimpArgs false
namespace Go.Proofs.YtonclmjaphieiaaGreat
open Go Go.RowKit Go.Proofs.Tryz
section
open Go Go.RowKit
def gI{α:Type}(d:α)(l:List α)(i:Int):α:=(l[i.toNat]?).getD d
theorem En{α:Type}{d:α}{l:List α}{i:Int}(a:0<=i)(b:i<l.length):atI l i=some (gI d l i):=by
  obtain⟨k,rfl⟩:=E3 a;obtain⟨x,hx⟩:=AG (l:=l) (k:=k) (by omega);rw[BG,hx];unfold gI;rw[N1,hx];rfl
theorem Gl{α:Type}{d v:α}{l:List α}{i j:Int}(a:0<=i)(b:i<l.length)(hj:0<=j):gI d (l.set i.toNat v) j=if j=i then v else gI d l j:=by
  unfold gI;by_cases e:j=i
  . subst e;rw[if_pos rfl,F2 (by omega)];rfl
  . rw[if_neg e,H7 (by omega)]
theorem Vc{α:Type}{d v:α}{n:Nat}{i:Int}(a:0<=i)(b:i<n):gI d (List.replicate n v) i=v:=by
  unfold gI;rw[E6,if_pos (by omega)];rfl
theorem LW{α:Type}{d x:α}{l:List α}{k:Nat}(h:l[k]?=some x):gI d l k=x:=by
  unfold gI;rw[N1,h];rfl
abbrev RQ:=BxR 160 163 RxE
abbrev RW:=BxR 22 3 Int
def toR(x:RxE):QEn:=⟨x.value,0,0,0⟩
theorem SB:LsG toR DM:=λ{l i j a b} c hb=>by
  unfold DM;rw[BG,c,Ah,BG,hb,Ah];unfold bfr toR;by_cases h:a.value<b.value
  . rw[if_pos h,Ah];simp[h]
  . rw[if_neg h,Ah];simp[h]
theorem SC:SwG Ey:=λ{l i j a b} e hb=>by
  have d:=Az hb;obtain⟨c,hc⟩:=AG (l:=l.set i b) (k:=j) (by simp;exact d);unfold Ey;rw[BG,hb,Ah,BG,e,Ah,Ah,N1,BG,hc,Ah,N1]
theorem Vd{q:RQ}(h:Y8 (qsG toR q.l))(hl:q.l.length<=900000000)(x:RxE):∃r,Ef q ⟨x⟩=some r/\Y8 (qsG toR r.l)/\r.l.Perm (x::q.l):=by
  unfold Ef Hf Ee;rw[Cg (by simp;omega) (by simp;omega),Ah,Ah,Ah,BQ (by unfold X2;simp;omega),Ah];obtain⟨r,h1,h2⟩:=QM (mL:=DM) SB SC h hl x;unfold GZ;rw[h1,Ah];exact⟨_,rfl,h2⟩
theorem Wr{q:RQ}(h:Y8 (qsG toR q.l))(b:0<q.l.length)(hl:q.l.length<=900000000):∃(e:RxE) (a:RQ),Es q=some (⟨e⟩,a)/\Y8 (qsG toR a.l)/\q.l.Perm (e::a.l)/\∀x∈q.l,e.value<=x.value:=by
  obtain⟨l,r,y,h1,h2,h3,h4,h5,h6,h7⟩:=Sa (mL:=DM) SB SC h b hl;have c:((q.l.length:Int)-1)=((q.l.length-1:Nat):Int):=(by omega);unfold Es Ee GK;rw[Ah,BQ (by unfold X2;omega),Ah,h1,Ah,h2,Ah];unfold Hz;rw[h3,c,BQ (by unfold X2;omega),Ah,BG,h4,Ah,Ah,show(0:Int)=((0:Nat):Int)from rfl,Kx (by omega) (by omega),Ah,Ah];exact⟨y,⟨r.2.l.take (q.l.length-1)⟩,rfl,h5,h6,λx d=>UM (h7 (toR x) (V8.2 ⟨x,d,rfl⟩))⟩
inductive DvN(U:List RxU)(S:Int->Prop):Int->Int->Prop
  |base {c i:Int} (h:0<=c) (hi:S i):DvN U S c i
  |op {c c0:Int} {u:RxU} (hu:u∈U) (h0:0<=c0) (hn:∀n∈u.needs,DvN U S c0 n) (hc:c0+u.cost<=c):DvN U S c u.makes
theorem DvN.up{e:List RxU}{S:Int->Prop}{c a i:Int}(h:DvN e S c i)(hc:c<=a):DvN e S a i:=by
  cases h with
  |base h hi=>exact .base (by omega) hi
  |op hu b hn d=>exact .op hu b hn (by omega)
structure RxOk(r:Rlx):Prop where
  f0:0<=r.facts/\r.facts<=1000
  un:∀u∈r.unary,(0<=u.makes/\u.makes<r.facts)/\0<=u.cost/\u.cost<=1048576/\u.needs.Nodup/\u.needs.length<=1000/\∀n∈u.needs,0<=n/\n<r.facts
  ul:r.unary.length<=1000
  nl:(r.needed.length:Int)=r.facts
  nd:∀n,0<=n->n<r.facts->(gI [] r.needed n).Nodup/\∀i,i∈gI [] r.needed n↔∃(k:Nat) (u:RxU),i=k/\r.unary[k]?=some u/\n∈u.needs
  fr:∀i,i∈r.free↔∃(k:Nat) (u:RxU),i=k/\r.unary[k]?=some u/\u.needs=[]
  fl:r.free.length<=r.unary.length
section
variable {r:Rlx}{S:Int → Prop}{D:Int → Bool}{v:Int}
abbrev ov(l:List Int)(i:Int):Int:=gI Inf l i
structure RxO(r:Rlx)(S:Int->Prop)(D:Int->Bool)(v:Int)(s:RW×RQ):Prop where
  ln:(s.1.l.length:Int)=r.facts
  hp:Y8 (qsG toR s.2.l)
  rg:∀i,0<=i->i<r.facts->ov s.1.l i<=Inf/\(ov s.1.l i<Inf->DvN r.unary S (ov s.1.l i) i)
  qe:∀e∈s.2.l,(0<=e.fact/\e.fact<r.facts)/\v<=e.value/\e.value<Inf/\ov s.1.l e.fact<=e.value
  un:∀i,0<=i->i<r.facts->D i=false->ov s.1.l i<Inf->⟨ov s.1.l i,i⟩∈s.2.l
  dn:∀i,0<=i->i<r.facts->D i=true->ov s.1.l i<=v
def Acm(r:Rlx)(D:Int->Bool)(a b:List Int):Prop:=∀i,0<=i->i<r.facts->ov b i<=ov a i/\(D i=true->ov b i=ov a i)
theorem OU{s:RW×RQ}(h:RxO r S D v s)(hl:s.2.l.length≤900000000){f c:Int}(hf:0≤f∧f<r.facts)(hv:v≤c)(hd:c<Inf→DvN r.unary S c f):∃k,CF f c s.1 s.2=some k∧RxO r S D v k∧Acm r D s.1.l k.1.l∧(c<Inf→ov k.1.l f≤c)∧k.2.l.length≤s.2.l.length+1:=by
  have o:=h.ln;unfold CF;rw[En (d:=Inf) hf.1 (by omega),Ah];by_cases hc:c<ov s.1.l f
  . rw[if_pos hc,Ah];obtain⟨q,q1,q2,p⟩:=Vd h.hp hl ⟨c,f⟩;rw[q1,Ah];have t:=(h.rg f hf.1 hf.2).1;have m:D f=false:=by
      cases e:D f with
      |false=>rfl
      |true=>have:=h.dn f hf.1 hf.2 e;omega
    have g:∀i,0<=i->ov (s.1.l.set f.toNat c) i=if i=f then c else ov s.1.l i:=λi hi=>Gl hf.1 (by omega) hi;refine⟨_,rfl,⟨?_,q2,λi a j=>?_,λe he=>?_,λi a j b n=>?_,λi a j b=>?_⟩,λi a j=>?_,λ_=>?_,?_⟩
    . dsimp only;rw[R6];exact o
    . dsimp only;rw[g i a];by_cases e:i=f
      . subst e;rw[if_pos rfl];exact⟨by omega,hd⟩
      . rw[if_neg e];exact h.rg i a j
    . dsimp only;rcases T8.1 (p.mem_iff.1 he)with rfl|he
      . exact⟨hf,hv,Int.lt_of_lt_of_le hc t,by dsimp only;rw[g f hf.1,if_pos rfl];exact W5 _⟩
      . obtain⟨u,a2,a3,a4⟩:=h.qe e he;refine⟨u,a2,a3,?_⟩;rw[g _ u.1];split
        . rename_i e1;rw[e1]at a4;omega
        . exact a4
    . dsimp only at n ⊢;rw[g i a]at n ⊢;refine p.mem_iff.2 ?_;by_cases e:i=f
      . subst e;rw[if_pos rfl];exact L0
      . rw[if_neg e]at n ⊢;exact H1 _ (h.un i a j b n)
    . dsimp only;rw[g i a,if_neg (λe=>by rw[e,m]at b;cases b)];exact h.dn i a j b
    . dsimp only;rw[g i a];by_cases e:i=f
      . subst e;rw[if_pos rfl];exact⟨by omega,λb=>by rw[m]at b;cases b⟩
      . rw[if_neg e];exact⟨W5 _,λ_=>rfl⟩
    . dsimp only;rw[g f hf.1,if_pos rfl];exact W5 _
    . dsimp only;rw[p.length_eq];exact W3 _
  . rw[if_neg hc];exact⟨_,rfl,h,λi _ _=>⟨W5 _,λ_=>rfl⟩,λ_=>W9.1 hc,Nat.le_succ _⟩
def RxG(r:Rlx)(D:Int->Bool)(R:List Int)(o:List Int):Prop:=∀(k:Nat)(u:RxU),r.unary[k]?=some u->¬(k:Int)∈R->(∀n∈u.needs,D n=true)->(u.needs=[]/\(u.cost<Inf->ov o u.makes<=u.cost))\/∃n∈u.needs,ov o n+u.cost<Inf->ov o u.makes<=ov o n+u.cost
theorem RxG.fall(hr:RxOk r){R:List Int}{a b:List Int}(h:RxG r D R a)(hf:Acm r D a b):RxG r D R b:=λk u hk f hn=>by
  obtain⟨d,_,_,_,_,h2⟩:=hr.un u (H2 hk);have e:=(hf _ d.1 d.2).1;rcases h k u hk f hn with⟨c,h5⟩|⟨n,c,h5⟩
  . exact .inl ⟨c,λh=>V7 e (h5 h)⟩
  . have:=(hf n (h2 n c).1 (h2 n c).2).2 (hn n c);exact .inr ⟨n,c,by rw[this];exact λh=>V7 e (h5 h)⟩
def RxL(r:Rlx)(D:Int->Bool)(R:List Int)(l:List Int):Prop:=l.length=r.unary.length/\∀(k:Nat)(u:RxU),r.unary[k]?=some u->gI 0 l k=((u.needs.countP λn=>!D n:Nat):Int)+if(k:Int)∈R then 1 else 0
theorem TB{f:Int}{p q:Int->Bool}(c:p f=true)(d:q f=false):∀{l:List Int},l.Nodup->(∀n∈l,n≠f->q n=p n)->l.countP p=l.countP q+if f∈l then 1 else 0
  |[],_,_=>rfl
  |a::l,hn,h=>by
    obtain⟨g,h2⟩:=List.nodup_cons.1 hn;have i:=TB c d h2 λn b=>h n (H1 _ b);rw[List.countP_cons,List.countP_cons,i];by_cases e:a=f
    . subst e;rw[c,d,if_neg g];simp
    . rw[h a L0 e];have:(f∈a::l)↔f∈l:=(by rw[T8];exact⟨λh=>h.resolve_left λj=>e j.symm,.inr⟩);simp only[this];omega
theorem Ve(hr:RxOk r)           {s:List Int} (hs:∀(k:Nat) x,s[k]?=some x→∃a,r.first[k]?=some a∧0≤a+x∧a+x<r.facts∧S (a+x)) (k0:s.length≤1000) (hS:∀i,S i→∃(k:Nat) (x a:Int),s[k]?=some x∧r.first[k]?=some a∧i=a+x) :
    ∃o,DS r s=some o/\(o.length:Int)=r.facts/\∀i,0<=i->i<r.facts->ov o i<=Inf/\∀c,c<Inf->(ov o i<=c↔DvN r.unary S c i):=by
  obtain⟨f1,f2⟩:=hr.f0;have r0:=hr.ul;obtain⟨F,hF⟩:∃F:Nat,r.facts=F:=⟨r.facts.toNat,by omega⟩;unfold DS;rw[hF,HT (by omega) (by omega),Ah,F9];refine Mn (λk o=>o.length=F/\∀j:Nat,j<k->o[j]?=some Inf) ⟨by simp,λj hj=>absurd hj (by omega)⟩ (λk o hk N=>?_) (λo ho=>?_)
  . obtain⟨x,J⟩:=AG (l:=o) (k:=k) (by omega);rw[J,Ah];refine⟨_,rfl,by simp;exact N.1,λj hj=>?_⟩;by_cases e:k=j
    . subst e;exact F2 (by omega)
    . rw[H7 e];exact N.2 j (by omega)
  obtain rfl:o=List.replicate F Inf:=M5 λk=>by
    by_cases hk:k<F
    . rw[ho.2 k hk,E6,if_pos hk]
    . rw[F5 (by omega),F5 (by simp;omega)]
  clear ho;rw[Bw,HT (by omega) (by omega),Ah];refine Cr (λk(l:List Int)=>l.length=r.unary.length/\∀(j:Nat) u,j<k->r.unary[j]?=some u->gI 0 l j=u.needs.length) (λ_=>False) ⟨by simp,λj u hj=>absurd hj (by omega)⟩ (λk u l hk N=>.inl ?_) (λleft O=>?_) (λq P=>P.elim)
  . have Q:=Az hk;obtain⟨x,J⟩:=AG (l:=l) (k:=k) (by omega);rw[J,Ah];refine⟨_,rfl,by simp;exact N.1,λj R hj D=>?_⟩;have:=Gl (d:=(0:Int)) (v:=(u.needs.length:Int)) (l:=l) (i:=k) (j:=j) (by omega) (by omega) (by omega);rw[N1]at this;rw[this];by_cases e:j=k
    . subst e;rw[if_pos rfl];rw[hk]at D;rw[R1 D]
    . rw[if_neg (by omega)];exact N.2 j R (by omega) D
  rw[Bw];have d0:∀i,0<=i->i<r.facts->ov (List.replicate F Inf) i=Inf:=λi B g=>Vc B (by omega);refine Cr (λk(z:RW×RQ)=>RxO r S (λ_=>false) 0 z/\z.2.l.length<=k/\∀(j:Nat) x a,j<k->s[j]?=some x->r.first[j]?=some a->ov z.1.l (a+x)<=0) (λ_=>False) ⟨⟨by simp;omega,λj x y hj J=>by simp[qsG]at J,λi B g=>by dsimp only;rw[d0 i B g];exact⟨W5 _,λh=>absurd h (Int.lt_irrefl _)⟩,λe he=>by simp at he,λi B g _ t=>by dsimp only at t;rw[d0 i B g]at t;exact absurd t (Int.lt_irrefl _),λi _ _ h=>by cases h⟩,W6 _,λj x a hj=>absurd hj (by omega)⟩ (λk x z hk N=>.inl ?_) (λz T=>?_) (λq P=>P.elim)
  . obtain⟨K,I2,I3⟩:=N;have Q:=Az hk;obtain⟨a,a1,a2,a3,a4⟩:=hs k x hk;rw[a1,Ah,BQ (by unfold X2;omega),Ah];obtain⟨Y,s1,s2,s3,s4,s5⟩:=OU K (by omega) (f:=a+x) (c:=0) ⟨a2,a3⟩ (W5 _) λ_=>.base (W5 _) a4;rw[s1,Ah];refine⟨_,rfl,s2,by dsimp only;omega,λj x' a' hj W X=>?_⟩;by_cases e:j=k
    . subst e;rw[hk]at W;rw[a1]at X;rw[<- R1 W,<- R1 X];exact s4 (by decide)
    . obtain⟨b,b1,b2,b3,_⟩:=hs j x' W;rw[X]at b1;obtain rfl:=R1 b1;exact V7 (s3 _ b2 b3).1 (I3 j x' a' (by omega) W X)
  obtain⟨Z,O2,O3⟩:=T;rw[Bw];have bs:∀i,S i->(0<=i/\i<r.facts)/\ov z.1.l i<=0:=λi hi=>by
    obtain⟨k,x,a,g,t,rfl⟩:=hS i hi;obtain⟨b,b1,b2,b3,_⟩:=hs k x g;rw[t]at b1;obtain rfl:=R1 b1;exact⟨⟨b2,b3⟩,O3 k x a (Az g) g t⟩
  clear O3;have s0:=hr.fl;refine Cr (λk(z:RW×RQ)=>RxO r S (λ_=>false) 0 z/\z.2.l.length<=1000+k/\(∀i,S i->ov z.1.l i<=0)/\∀(m:Nat) u,(m:Int)∈r.free.take k->r.unary[m]?=some u->ov z.1.l u.makes<=u.cost) (λ_=>False) ⟨Z,by dsimp only;omega,λi hi=>(bs i hi).2,λm u hm=>by simp at hm⟩ (λk x z hk N=>.inl ?_) (λz T=>?_) (λq P=>P.elim)
  . obtain⟨K,I2,I3,I4⟩:=N;have  Q:=Az hk;obtain⟨m,u,rfl,m1,m2⟩:=(hr.fr x).1 (H2 hk);obtain⟨u1,u2,u3,_⟩:=hr.un u (H2 m1);rw[BG,m1,Ah,Ah,Ah];obtain⟨Y,s1,s2,s3,s4,s5⟩:=OU K (by omega) (f:=u.makes) (c:=u.cost) u1 u2 λ_=>.op (H2 m1) (W5 _) (by rw[m2];simp) (by omega);rw[s1,Ah];refine⟨_,rfl,s2,by dsimp only;omega,λi hi=>V7 (s3 i (bs i hi).1.1 (bs i hi).1.2).1 (I3 i hi),λm' R e0 D=>?_⟩;rw[M4,hk]at e0;rcases Q8.1 e0 with h|h
    . obtain⟨v1,_⟩:=hr.un R (H2 D);exact V7 (s3 _ v1.1 v1.2).1 (I4 m' R h D)
    . obtain rfl:m'=m:=by       have:(m':Int)=m:=by simpa using h
                                omega
      rw[m1]at D;rw[<- R1 D];exact s4 (by unfold Inf;omega)
  obtain⟨Z,O2,O3,O4⟩:=T;rw[Bw,HT (by omega) (by omega),Ah,Q3]at *
  have a0:∀i,0<=i->gI false (List.replicate F false) i=false:=λi B=>by
    unfold gI;rw[E6];split<;>rfl
  have l0:RxO r S (gI false (List.replicate F false)) 0 z:=⟨Z.ln,Z.hp,Z.rg,Z.qe,λi B g _ t=>Z.un i B g rfl t,λi B g t=>by rw[a0 i B]at t;cases t⟩;refine IA (λq=>∃v,0<=v/\q.2.1.length=F/\RxO r S (gI false q.2.1) v (q.2.2.1,q.2.2.2)/\RxL r (gI false q.2.1) [] q.1/\RxG r (gI false q.2.1) [] q.2.2.1.l/\(∀i,S i->ov q.2.2.1.l i<=0)/\q.2.2.2.l.length+q.2.1.count false*1000<=1002000) (λq=>(q.2.2.1.l.length:Int)=r.facts/\∀i,0<=i->i<r.facts->ov q.2.2.1.l i<=Inf/\∀c,c<Inf->(ov q.2.2.1.l i<=c↔DvN r.unary S c i)) (λ_=>False) (λq=>q.2.1.count false*1001+q.2.2.2.l.length) ⟨0,W5 _,by simp,l0,⟨O.1,λk u hk=>?_⟩,λk u hk _ hn=>?_,O3,?_⟩ ?_ (λq P=>⟨_,rfl,by rw[<- hF];exact P⟩) (λq P=>P.elim)
  . dsimp only;rw[O.2 k u (Az hk) hk,if_neg (by simp),W1];congr 1;refine(List.countP_eq_length.2 λn hn=>?_).symm;rw[a0 n (((hr.un u (H2 hk)).2.2.2.2.2 n hn).1)];rfl
  . dsimp only at hn ⊢;have:u.needs=[]:=by
      cases he:u.needs with
      |nil=>rfl
      |cons n l =>
        have hm:n∈u.needs:=(by rw[he];exact L0);have:=hn n hm;rw[a0 n (((hr.un u (H2 hk)).2.2.2.2.2 n hm).1)]at this;cases this
    exact .inl ⟨this,λ_=>O4 k u ((hr.fr k).2 ⟨k,u,rfl,hk,this⟩) hk⟩
  . dsimp only;rw[List.count_replicate_self];omega
  . rintro⟨left,done,o,q⟩ ⟨v,hv,hdl,C,hL,hG,hB,hc⟩;dsimp only at hdl C hL hG hB hc ⊢;unfold Ee;rw[Ah];by_cases B:0<(q.l.length:Int)
    . rw[if_pos B];obtain⟨e,q',p1,p2,p3,p4⟩:=Wr C.hp (by dsimp only;omega) (by dsimp only;omega);dsimp only at p1;rw[p1,Ah];dsimp only;have m0:e∈q.l:=p3.mem_iff.2 L0;have b0:∀x∈q'.l,x∈q.l:=λx J=>p3.mem_iff.2 (H1 _ J);have t0:q.l.length=q'.l.length+1:=p3.length_eq;obtain⟨L,e2,e3,e4⟩:=C.qe e m0;rw[En (d:=false) L.1 (by omega),Ah];cases H:gI false done e.fact with
      |true =>
        rw[if_pos rfl];exact .inl ⟨_,rfl,⟨v,hv,hdl,⟨C.ln,p2,C.rg,λx J=>C.qe x (b0 x J),λi B g t h3=>by
          rcases T8.1 (p3.mem_iff.1 (C.un i B g t h3))with h|h
          . have:i=e.fact:=(by rw[<- h]);rw[this,H]at t;cases t
          . exact h,C.dn⟩,hL,hG,hB,by dsimp only;omega⟩,by dsimp only;omega⟩
      |false  =>
        rw[if_neg (by simp),Ah,En (d:=[]) L.1 (by have:=hr.nl;omega),Ah];obtain⟨l,hl⟩:∃l,l=gI [] r.needed e.fact:=⟨_,rfl⟩;obtain⟨ln,lm⟩:=hr.nd e.fact L.1 L.2;rw[<- hl]at ln lm ⊢;have u0:l.length<=r.unary.length:=by
          have:=ln.length_le_of_subset (l₂:=(List.range r.unary.length).map λi:Nat=>(i:Int)) λi hi=>by
            obtain⟨k,u,rfl,hk,_⟩:=(lm i).1 hi;exact V8.2 ⟨k,T4.2 (Az hk),rfl⟩
          simpa using this
        have ev:ov o.l e.fact=e.value:=by
          have:=p4 _ (C.un e.fact L.1 L.2 H (M1 e4 e3));exact Int.le_antisymm e4 this
        have I:∀i,0<=i->gI false (done.set e.fact.toNat true) i=if i=e.fact then true else gI false done i:=λi hi=>Gl L.1 (by omega) hi;obtain⟨E,hDe⟩:∃E,E=gI false (done.set e.fact.toNat true):=⟨_,rfl⟩;rw[<- hDe]at I;have O':RxO r S E e.value (o,q'):=⟨C.ln,p2,C.rg,λx J=>by
          obtain⟨x1,x2,x3,x4⟩:=C.qe x (b0 x J);exact⟨x1,p4 x (b0 x J),x3,x4⟩,λi B g t h3=>by
          rw[I i B]at t;by_cases ei:i=e.fact
          . rw[if_pos ei]at t;cases t
          . rw[if_neg ei]at t;rcases T8.1 (p3.mem_iff.1 (C.un i B g t h3))with h|h
            . exact absurd (by rw[<- h]) ei
            . exact h,λi B g t=>by
          rw[I i B]at t;by_cases ei:i=e.fact
          . subst ei;exact e4
          . rw[if_neg ei]at t;exact V7 (C.dn i B g t) e2⟩
        have L':RxL r E l left:=⟨hL.1,λk u hk=>by
          obtain⟨_,_,_,u4,_,u5⟩:=hr.un u (H2 hk);rw[hL.2 k u hk,if_neg (by simp),W1,TB (f:=e.fact) (p:=λn=>!gI false done n) (q:=λn=>!E n) (by simp[H]) (by simp[I _ L.1]) u4 (λn hn n0=>by simp only[I n (u5 n hn).1,if_neg n0])];have:(k:Int)∈l↔e.fact∈u.needs:=⟨λh=>by
            obtain⟨M,R,A,g,t⟩:=(lm k).1 h;obtain rfl:k=M:=(by omega);rw[hk]at g;rw[R1 g];exact t,λh=>(lm k).2 ⟨k,u,rfl,hk,h⟩⟩
          simp only[this];split<;>simp⟩
        have G':RxG r E l o.l:=λk u hk Q hn=>by
          obtain⟨_,_,_,_,_,u5⟩:=hr.un u (H2 hk);refine hG k u hk (by simp) λn w=>?_;have g:=hn n w;rw[I n (u5 n w).1]at g;by_cases en:n=e.fact
          . exact absurd ((lm k).2 ⟨k,u,rfl,hk,en▸w⟩) Q
          . rwa[if_neg en]at g
        refine .inl ?_;refine KO ?_;refine Cr (λj(z:List Int×RW×RQ)=>RxO r S E e.value z.2/\RxL r E (l.drop j) z.1/\RxG r E (l.drop j) z.2.1.l/\(∀i,S i->ov z.2.1.l i<=0)/\z.2.2.l.length<=q'.l.length+j/\ov z.2.1.l e.fact=e.value) (λ_=>False) ⟨O',L',G',hB,W3 _,ev⟩ (λj x z hj N=>.inl ?_) (λz T=>?_) (λq P=>P.elim)
        . obtain⟨left,o,q2⟩:=z;obtain⟨K,I2,I3,I4,I5,I6⟩:=N;dsimp only at K I2 I3 I4 I5 I6 ⊢;have g0:=Az hj;obtain⟨k,u,rfl,hk,hfu⟩:=(lm x).1 (H2 hj);obtain⟨u1,u2,u3,u4,u6,u5⟩:=hr.un u (H2 hk);have Q:=Az hk;have U:l.drop j=(k:Int)::l.drop (j+1):=by
            rw[C3 g0];rw[C9 g0]at hj;rw[R1 hj]
          have o0:¬(k:Int)∈l.drop (j+1):=by
            have:=ln.sublist (N8 j l);rw[U]at this;exact(List.nodup_cons.1 this).1
          have i0:=I2.2 k u hk;rw[U,if_pos L0]at i0;have v0:=List.countP_le_length (p:=λn=>!E n) (l:=u.needs);have k0:(left.length:Int)=r.unary.length:=(by rw[I2.1]);rw[En (d:=0) (l:=left) (i:=k) (by omega) (by omega),Ah,i0,BQ (by unfold X2;omega),Ah,Ah,En (d:=0) (by omega) (by rw[R6];omega),Ah,Gl (by omega) (by omega) (by omega),if_pos rfl];have hz:((u.needs.countP λn=>!E n:Nat):Int)+1-1=((u.needs.countP λn=>!E n:Nat):Int):=(by omega);rw[hz];have L2:RxL r E (l.drop (j+1)) (left.set ((k:Int)).toNat ((u.needs.countP λn=>!E n:Nat):Int)):=⟨by rw[R6];exact I2.1,λM R A=>by
            rw[Gl (by omega) (by omega) (by omega)];by_cases ek:M=k
            . subst ek;rw[hk]at A;rw[if_pos rfl,if_neg o0,<- R1 A,W1]
            . have g:=I2.2 M R A;rw[if_neg (by omega),g,U];have:((M:Int)∈(k:Int)::l.drop (j+1))↔(M:Int)∈l.drop (j+1):=by
                rw[T8];exact⟨λh=>h.resolve_left (by omega),.inr⟩
              simp only[this]⟩
          by_cases G:((u.needs.countP λn=>!E n:Nat):Int)=0
          . have V:∀n∈u.needs,E n=true:=λn hn=>by
              have:=List.countP_eq_zero.1 (Int.ofNat.inj G) n hn;simpa using this
            have j0:∀n∈u.needs,ov o.l n<=e.value:=λn hn=>K.dn n (u5 n hn).1 (u5 n hn).2 (V n hn);rw[if_pos G,BG,hk,Ah,Ah,Ah,BQ (by have:Inf=1125899906842624:=rfl;unfold X2;omega),Ah];obtain⟨Y,s1,s2,s3,s4,s5⟩:=OU K (by dsimp only;omega) (f:=u.makes) (c:=e.value+u.cost) u1 (by omega) λ_=>.op (H2 hk) (c0:=e.value) (by omega) (λn hn=>((K.rg n (u5 n hn).1 (u5 n hn).2).2 (M1 (j0 n hn) e3)).up (j0 n hn)) (W5 _);dsimp only at s1;rw[s1,Ah];refine⟨_,rfl,s2,L2,λM R A hR hn=>?_,λi hi=>V7 (s3 i (bs i hi).1.1 (bs i hi).1.2).1 (I4 i hi),by dsimp only at s5 ⊢;omega,by dsimp only;rw[(s3 _ L.1 L.2).2 (V _ hfu)];exact I6⟩;by_cases ek:M=k
            . subst ek;rw[hk]at A;obtain rfl:=R1 A;have g:ov Y.1.l e.fact=ov o.l e.fact:=(s3 _ L.1 L.2).2 (V _ hfu);refine .inr ⟨e.fact,hfu,λhlt=>?_⟩;rw[g,I6]at hlt ⊢;exact s4 hlt
            . exact I3.fall hr s3 M R A (by rw[U,T8];exact λh=>h.elim (by omega) hR) hn
          . rw[if_neg G];refine⟨_,rfl,K,L2,λM R A hR hn=>?_,I4,by dsimp only;omega,I6⟩;by_cases ek:M=k
            . subst ek;rw[hk]at A;obtain rfl:=R1 A;refine absurd ?_ G;rw[List.countP_eq_zero.2 λn w=>by simp[hn n w]];rfl
            . exact I3 M R A (by rw[U,T8];exact λh=>h.elim (by omega) hR) hn
        . obtain⟨left,o,q2⟩:=z;obtain⟨K,I2,I3,I4,I5,_⟩:=T;dsimp only at K I2 I3 I4 I5 ⊢;rw[Q0]at I2 I3;have q0:(done.set e.fact.toNat true).count false+1=done.count false:=by
            have hlt:e.fact.toNat<done.length:=(by omega);rw[List.count_set hlt];have g:done[e.fact.toNat]=false:=by
              unfold gI at H;rw[C9 hlt]at H;exact H
            have t:0<done.count false:=List.count_pos_iff.2 (g▸List.getElem_mem hlt);rw[g];simp;omega
          rw[Bw];refine⟨_,rfl,_,rfl,⟨e.value,by omega,by dsimp only;rw[R6];exact hdl,?_⟩,?_⟩
          . dsimp only;rw[<- hDe];exact⟨K,I2,I3,I4,by omega⟩
          . dsimp only;omega
    . rw[if_neg B];have p0:q.l=[]:=B1 (by omega);refine .inr (.inl ⟨_,rfl,C.ln,λi B g=>⟨(C.rg i B g).1,λc hc=>⟨λh=>((C.rg i B g).2 (M1 h hc)).up h,λh=>?_⟩⟩⟩);dsimp only
      induction h with
      |base G hi=>exact V7 (hB _ hi) G
      |@op  c c0 u hu G hn w0 ih =>
        obtain⟨u1,u2,u3,u4,u6,u5⟩:=hr.un u hu;obtain⟨k,hk⟩:=H3 hu;have fin:∀n∈u.needs,ov o.l n<=c0:=λn w=>ih n w (u5 n w).1 (u5 n w).2 (by omega);have V:∀n∈u.needs,gI false done n=true:=λn w=>by
          cases hd:gI false done n with
          |true=>rfl
          |false =>
            have:=C.un n (u5 n w).1 (u5 n w).2 hd (M1 (fin n w) (by omega));dsimp only at this;rw[p0]at this;simp at this
        rcases hG k u hk (by simp) V with⟨_,h⟩|⟨n,g,h⟩
        . have:=h (by omega);omega
        . have:=fin n g;have:=h (by omega);omega
end
end
section
open Go Go.RowKit
def vsm:List Int->Int
  |[]=>0
  |x::l=>x+vsm l
theorem NK:∀a b:List Int,vsm (a++b)=vsm a+vsm b
  |[],b=>by simp[vsm]
  |x::a,b=>by show x+vsm (a++b)=x+vsm a+vsm b;rw[NK a b,Int.add_assoc]
theorem HB:∀{l:List Int},(∀x∈l,0<=x)->0<=vsm l
  |[],_=>W5 _
  |x::l,h=>Int.add_nonneg (h x L0) (HB λy a=>h y (H1 _ a))
theorem Ie{l:List Int}{k:Nat}{x:Int}(h:l[k]?=some x):vsm (l.take (k+1))=vsm (l.take k)+x:=by
  rw[M4,h,NK];show _+(x+0)=_;rw[W1]
theorem LX{l:List Int}(h:∀x∈l,0<=x){i j:Nat}(a:i<=j):vsm (l.take i)<=vsm (l.take j):=by
  have e:l.take j=l.take i++(l.take j).drop i:=by
    conv=>lhs;rw[<- F7 i (l.take j),List.take_take,R7 a]
  rw[e,NK];have:=HB (l:=(l.take j).drop i) λx b=>h x (H9 (H8 b));omega
def ZA(vars:List Int):List Int:=(List.range vars.length).map λi=>vsm (vars.take i)
def nm(vars:List Int)(f:Fct):Int:=vsm (vars.take f.var.toNat)+f.val
theorem If{vars:List Int}{k:Nat}(h:k<vars.length):(ZA vars)[k]?=some (vsm (vars.take k)):=by
  unfold ZA;rw[M9,K0 h];rfl
section
variable {vars:List Int}(hv:∀ x ∈ vars, 0 ≤ x)
include hv
theorem IF{f:Fct}(h:YU vars f):0<=nm vars f/\nm vars f<vsm vars:=by
  obtain⟨d,h2,n,hn,h3⟩:=h;have a:=HB (l:=vars.take f.var.toNat) λx c=>hv x (H9 c);have b:=LX hv (show f.var.toNat+1<=vars.length from Az hn);rw[Ie hn,Q3]at b;unfold nm;omega
theorem PO{f g:Fct}(hf:YU vars f)(b:YU vars g)(h:nm vars f=nm vars g):f=g:=by
  obtain⟨c,h2,n,hn,h3⟩:=hf;obtain⟨d,g2,m,hm,g3⟩:=b;unfold nm at h;have a:f.var.toNat=g.var.toNat:=by
    rcases O7 f.var.toNat g.var.toNat with hl|hl|hl
    . have:=LX hv (show f.var.toNat+1<=g.var.toNat from hl);rw[Ie hn]at this;omega
    . exact hl
    . have:=LX hv (show g.var.toNat+1<=f.var.toNat from hl);rw[Ie hm]at this;omega
  rw[a]at h;cases f;cases g;simp only[Fct.mk.injEq]at *
  omega
theorem OV(h64:vsm vars<=1000){f:Fct}(hf:YU vars f):atI (ZA vars) f.var=some (vsm (vars.take f.var.toNat))/\X7 (vsm (vars.take f.var.toNat)+f.val)=some (nm vars f):=by
  have hr:=IF hv hf;obtain⟨a,h2,n,hn,h3⟩:=hf;refine⟨?_,BQ (by show X2 (nm vars f);unfold X2;omega)⟩;have:f.var=((f.var.toNat:Nat):Int):=(by omega);rw[this,BG,If (Az hn),N1]
end
theorem Xh(l:List Int)(x:Int):DF l x=some (decide (x∈l)):=by
  unfold DF Fx;rcases IX (ρ:=Int) (xs:=l) (s₀:=()) (f:=λ(c:Nat)(d:Int)(g:Unit)=>if x=d then(some (.ret (c:Int)))else(some (.next ()))) (λk _=>∀a∈l.take k,x≠a) (λr=>0<=r/\x∈l) (by simp) (λk a s hk e=>by
    by_cases h:x=a
    . rw[if_pos h];exact .inr ⟨_,rfl,by omega,h▸H2 hk⟩
    . rw[if_neg h];refine .inl ⟨_,rfl,λb hb=>?_⟩;rw[M4,hk]at hb;rcases Q8.1 hb with hb|hb
      . exact e b hb
      . obtain rfl:b=a:=(by simpa using hb);exact h)with⟨s,h1,h2⟩|⟨q,h1,h2,h3⟩
  . rw[Q3]at h2;rw[h1,Ah,Bw,Ah,if_neg (by decide),Ah,decide_eq_false λh=>h2 x h rfl]
  . rw[h1,Ah,Jk,Ah,if_pos h2,Ah,decide_eq_true h3]
def Mk(vars:List Int)(u:RxU)(o:Opr)(e:Eff):Prop:=u.cost=o.cost/\u.makes=nm vars ⟨e.var,e.val⟩/\∀n,n∈u.needs↔∃g,(g∈o.pre\/g∈e.cond)/\nm vars g=n
section
variable {vars:List Int}(hv:∀ x ∈ vars, 0 ≤ x)(h64:vsm vars ≤ 1000)
include hv h64
theorem Nm{r:Rlx}(c:r.first=ZA vars){f:Fct}(hf:YU vars f):CW r f=some (nm vars f):=by
  obtain⟨a,b⟩:=OV hv h64 hf;unfold CW;rw[c,a,Ah,b,Ah]
theorem Yc{r      : Rlx}(hr:RxOk r)(P:r.first=ZA vars)(Q:r.facts=vsm vars){u:RxU}(hm:0≤u.makes∧u.makes<vsm vars)(hc:0≤u.cost∧u.cost≤1048576){a b:List Fct}(ha:FactsOk vars a)(hb:FactsOk vars b)(hl:r.unary.length<1000)(d0:a.length+b.length≤200) :
    ∃r' o,DI r u a b=some r'/\RxOk r'/\r'.first=ZA vars/\r'.facts=vsm vars/\r'.t=r.t/\r'.unary=r.unary++[⟨u.op,u.effect,u.cost,u.makes,o⟩]/\∀n,n∈o↔∃g,(g∈a\/g∈b)/\nm vars g=n:=by
  have R:∃r',DI r u a b=some r'/\∃o,RxOk r'/\r'.first=ZA vars/\r'.facts=vsm vars/\r'.t=r.t/\r'.unary=r.unary++[⟨u.op,u.effect,u.cost,u.makes,o⟩]/\∀n,n∈o↔∃g,(g∈a\/g∈b)/\nm vars g=n:=by
    obtain⟨f1,f2⟩:=hr.f0;unfold DI;refine Cr (λk(s:List Int)=>s.Nodup/\s.length<=(([a,b].take k).flatten).length/\∀n,n∈s↔∃g∈([a,b].take k).flatten,nm vars g=n) (λ_=>False) ⟨T6,W3 _,by simp⟩ (λk l s hk B=>.inl ?_) (λo S=>?_) (λq D=>D.elim)
    . have E:=H2 hk;have T:FactsOk vars l/\l.length<=200:=by
        simp only[T8,List.not_mem_nil,or_false]at E;rcases E with rfl|rfl
        . exact⟨ha,by omega⟩
        . exact⟨hb,by omega⟩
      have F:(([a,b].take (k+1)).flatten)=([a,b].take k).flatten++l:=by
        rw[M4,hk];simp
      have G:(([a,b].take k).flatten).length<=200:=by
        have:k=0\/k=1:=(by have:=Az hk;simp at this;omega);rcases this with rfl|rfl<;>simp<;>omega
      refine JX ?_;refine Cr (λj(s:List Int)=>s.Nodup/\s.length<=(([a,b].take k).flatten).length+j/\∀n,n∈s↔∃g∈([a,b].take k).flatten++l.take j,nm vars g=n) (λ_=>False) ⟨B.1,B.2.1,by simpa using B.2.2⟩ (λj f s hj B=>.inl ?_) (λs hs=>⟨_,rfl,_,rfl,hs.1,by rw[F,K4];exact hs.2.1,by rw[F];have:=hs.2.2;rwa[Q3]at this⟩) (λq D=>D.elim);have e0:=Az hj;obtain⟨C,I2,I3⟩:=B;rw[Nm hv h64 P (T.1.1 j f hj),Ah,Xh,Ah];have up:∀n,(∃g∈([a,b].take k).flatten++l.take (j+1),nm vars g=n)↔(n∈s\/n=nm vars f):=λn=>by
        rw[I3,M4,hj,<- M2];simp only[L8,Q8,M0,or_and_right,exists_or,exists_eq_left];exact or_congr X1 eq_comm
      by_cases p:nm vars f∈s
      . rw[decide_eq_true p,BA];exact⟨_,rfl,C,by omega,λn=>by rw[up];exact⟨.inl,λh=>h.elim id λe=>e▸p⟩⟩
      . rw[decide_eq_false p,BT,Cg (by simp;omega) (by simp;omega),Ah];refine⟨_,rfl,N9.2 ⟨C,by simp,λx U y V e=>?_⟩,by rw[K4,G1];omega,λn=>by rw[up];simp⟩;obtain rfl:=M0.1 V;exact p (e▸U)
    . obtain⟨n1,  n2,n3⟩:=S;have H:(([a,b].take [a,b].length).flatten)=a++b:=(by simp);rw[H]at n2 n3;rw[K4]at n2;have I:∀n∈o,0<=n/\n<vsm vars:=λn hn=>by
        obtain⟨g,hg,rfl⟩:=(n3 n).1 hn;rcases Q8.1 hg with h|h
        . exact IF hv ((Zg.1 ha).1 g h)
        . exact IF hv ((Zg.1 hb).1 g h)
      have g0:=hr.nl;rw[Bw];refine Cr (λk(s:Rlx)=>s.t=r.t/\s.first=r.first/\s.facts=r.facts/\s.unary=r.unary/\s.free=r.free/\s.needed.length=r.needed.length/\∀n,0<=n->n<vsm vars->gI [] s.needed n=if n∈o.take k then gI [] r.needed n++[(r.unary.length:Int)]else gI [] r.needed n) (λ_=>False) ⟨rfl,rfl,rfl,rfl,rfl,rfl,λn _ _=>by simp⟩ (λk n s hk B=>.inl ?_) (λs hs=>?_) (λq D=>D.elim)
      . obtain⟨C,I2,I3,I4,I5,I6,I7⟩:=B;have h0:=Az hk;obtain⟨N,m2⟩:=I n (H2 hk);have W:¬n∈o.take k:=λh=>by
          obtain⟨i,hi⟩:=H3 h;have X:=Az hi;rw[P9]at X;rw[D8 (by omega)]at hi;obtain⟨P,e1⟩:=C1.1 hi;obtain⟨Q,H⟩:=C1.1 hk;have:=(Q6 n1).1 (e1.trans H.symm);omega
        have z:=I7 n N m2;rw[if_neg W]at z;have c0:(gI [] r.needed n).length<=1000:=by
          obtain⟨O,g2⟩:=hr.nd n N (by omega);have:=O.length_le_of_subset (l₂:=(List.range r.unary.length).map λi:Nat=>(i:Int)) λi hi=>by
            obtain⟨k,u,rfl,hk,_⟩:=(g2 i).1 hi;exact V8.2 ⟨k,T4.2 (Az hk),rfl⟩
          simp at this;omega
        rw[En (d:=[]) N (by omega),Ah,z,Cg (by simp;omega) (by simp;omega),Ah,Ah];refine⟨_,rfl,by rw[<- C],I2,I3,I4,I5,by simp;exact I6,λm J Y=>?_⟩;dsimp only;rw[Gl N (by omega) J,M4,hk];simp only[L8,Q8,M0];by_cases e:m=n
        . subst e;rw[if_pos rfl,if_pos (.inr rfl)]
        . rw[if_neg e,I7 m J Y];simp only[e,or_false]
      . obtain⟨C,I2,I3,I4,I5,I6,I7⟩:=hs;rw[Q3]at I7;have fin:∀v,(∀i,i∈v↔i∈r.free\/(o=[]/\i=r.unary.length))->v.length<=r.unary.length+1->RxOk ⟨s.t,s.first,s.facts,r.unary++[⟨u.op,u.effect,u.cost,u.makes,o⟩],s.needed,v⟩:=λv Z G=>by
          have get:∀(k:Nat)(w:RxU),(r.unary++[⟨u.op,u.effect,u.cost,u.makes,o⟩])[k]?=some w↔r.unary[k]?=some w\/(k=r.unary.length/\w=⟨u.op,u.effect,u.cost,u.makes,o⟩):=λk w=>by
            rw[List.getElem?_append];by_cases hk:k<r.unary.length
            . rw[if_pos hk];exact⟨.inl,λh=>h.resolve_right λh=>by omega⟩
            . rw[if_neg hk,F5 (l:=r.unary) (by omega)];by_cases K:k=r.unary.length
              . subst K;simp[eq_comm]
              . rw[F5 (by simp;omega)];simp[K]
          refine⟨by dsimp only;omega,λw hw=>?_,by simp;omega,by dsimp only;omega,λn L a0=>?_,λi=>?_,by simp;omega⟩
          . rcases Q8.1 hw with h|h
            . have:=hr.un w h;dsimp only;rw[I3];exact this
            . obtain rfl:=M0.1 h;dsimp only;rw[I3,Q];exact⟨hm,hc.1,hc.2,n1,by omega,I⟩
          . dsimp only at a0 ⊢;obtain⟨O,g2⟩:=hr.nd n L (by omega);rw[I7 n L (by omega)];by_cases hn:n∈o
            . rw[if_pos hn];refine⟨N9.2 ⟨O,by simp,λx U y V e=>?_⟩,λi=>?_⟩
              . obtain rfl:=M0.1 V;obtain⟨k,w,h3,c,_⟩:=(g2 x).1 U;have:=Az c;omega
              . rw[Q8,g2,M0];constructor
                . rintro(⟨k,w,h3,c,h5⟩|h3)
                  . exact⟨k,w,h3,(get k w).2 (.inl c),h5⟩
                  . exact⟨_,_,h3,(get _ _).2 (.inr ⟨rfl,rfl⟩),hn⟩
                . rintro⟨k,w,h3,c,h5⟩;rcases(get k w).1 c with c|⟨c,_⟩
                  . exact .inl ⟨k,w,h3,c,h5⟩
                  . exact .inr (by rw[h3,c])
            . rw[if_neg hn];refine⟨O,λi=>?_⟩;rw[g2];refine⟨λ⟨k,w,h3,c,h5⟩=>⟨k,w,h3,(get k w).2 (.inl c),h5⟩,λ⟨k,w,h3,c,h5⟩=>?_⟩;rcases(get k w).1 c with c|⟨_,rfl⟩
              . exact⟨k,w,h3,c,h5⟩
              . exact absurd h5 hn
          . dsimp only;rw[Z,hr.fr];constructor
            . rintro(⟨k,w,h3,c,h5⟩|⟨h3,c⟩)
              . exact⟨k,w,h3,(get k w).2 (.inl c),h5⟩
              . exact⟨_,_,c,(get _ _).2 (.inr ⟨rfl,rfl⟩),h3⟩
            . rintro⟨k,w,h3,c,h5⟩;rcases(get k w).1 c with c|⟨c,rfl⟩
              . exact .inl ⟨k,w,h3,c,h5⟩
              . exact .inr ⟨h5,by omega⟩
        have G:=hr.fl;have A:((o.length:Int)=0)↔o=[]:=⟨λh=>B1 (by omega),λh=>by rw[h];rfl⟩;rw[Bw];have b0:∃v,(if(o.length:Int)=0 then(bnd (Y0 8 s.free [(r.unary.length:Int)]) λM=>some (⟨(⟨s.t.vars,s.t.init,s.t.goal,s.t.ops⟩:Tsk),s.first,s.facts,s.unary,s.needed,M⟩:Rlx))else(some s):Option Rlx)=some ⟨s.t,s.first,s.facts,s.unary,s.needed,v⟩/\(∀i,i∈v↔i∈r.free\/(o=[]/\i=r.unary.length))/\v.length<=r.free.length+1:=by
          by_cases hn:(o.length:Int)=0
          . rw[if_pos hn,I5,Cg (by simp;omega) (by simp;omega),Ah];refine⟨_,rfl,λi=>?_,by simp⟩;simp[A.1 hn]
          . rw[if_neg hn];refine⟨s.free,rfl,λi=>?_,by rw[I5];omega⟩;rw[I5];exact⟨.inl,λh=>h.elim id λh=>absurd (A.2 h.1) hn⟩
        obtain⟨v,e1,H,e3⟩:=b0;rw[e1,Ah];dsimp only;rw[I4,Cg (by simp;omega) (by simp;omega),Ah];exact⟨_,rfl,o,fin v H (by omega),by rw[I2,P],by rw[I3,Q],C,rfl,λn=>by rw[n3];simp only[Q8]⟩
  obtain⟨r',h3,o,c⟩:=R;exact⟨r',o,h3,c⟩
def UnS(vars:List Int)(a:List RxU)(P:Opr->Eff->Prop):Prop:=(∀u∈a,∃o e,P o e/\Mk vars u o e)/\∀o e,P o e->∃u∈a,Mk vars u o e
theorem Yd{t:Tsk}(b:TaskOk t)(y:t.ops.length≤8)(e:t.vars=vars):∃r,HG t []=some (some r,⟨0⟩)∧RxOk r∧r.first=ZA vars∧r.facts=vsm vars∧r.t=⟨vars,[],t.goal,[]⟩∧UnS vars r.unary λo e=>o∈t.ops∧e∈o.effs:=by
  have s:∃q,HG t []=some q/\∃r,q=(some r,⟨0⟩)/\RxOk r/\r.first=ZA vars/\r.facts=vsm vars/\r.t=⟨vars,[],t.goal,[]⟩/\UnS vars r.unary λo e=>o∈t.ops/\e∈o.effs:=by
    have z:=b.1;have A:=Ht b b.2.2.2.2.1;have J:=HB hv;subst e;unfold HG Cz;rw[FH.2 b,Ah,if_neg (λh=>h rfl),if_neg (by decide),Ah,BT];rw[GF (λk x h=>by simp at h),Ah,Bw,Na (by omega),Ah,Hr (by omega),Ah];rw[Gh (λk=>(⟨⟨t.vars,[],t.goal,[]⟩,(ZA t.vars).take k,vsm (t.vars.take k),[],[],[]⟩:Rlx)) (by simp[vsm]) λk n hk=>?_]
    rotate_left
    . have m:=Az hk;have a:=LX hv (show k+1<=t.vars.length from m);rw[Ie hk,Q3]at a;have d:=HB (l:=t.vars.take k) λx B=>hv x (H9 B);have K:=hv n (H2 hk);have L:((ZA t.vars).take k).length<=64:=(by rw[P9];omega);rw[Cg (by simp;omega) (by simp;omega),Ah,BQ (by dsimp only;unfold X2;omega),Ah,M4 (l:=ZA t.vars),If m,Ie hk];rfl
    rw[Ah,Bw,Q3,show(ZA t.vars).take t.vars.length=ZA t.vars from E8 (by simp[ZA])];obtain⟨F,hF⟩:∃F:Nat,vsm t.vars=F:=⟨(vsm t.vars).toNat,by omega⟩;dsimp only;rw[hF,HT (by omega) (by omega),Ah];have grow:∀{M:List RxU}{P:Opr->Eff->Prop} {u o e},UnS t.vars M P->Mk t.vars u o e->UnS t.vars (M++[u]) λo' g=>P o' g\/(o'=o/\g=e):=λ{M P u o e} h hm=>⟨λw hw=>by
      rcases Q8.1 hw with hw|hw
      . obtain⟨o',g,a,d⟩:=h.1 w hw;exact⟨o',g,.inl a,d⟩
      . obtain rfl:=M0.1 hw;exact⟨o,e,.inr ⟨rfl,rfl⟩,hm⟩,λo' g a=>by
      rcases a with a|⟨rfl,rfl⟩
      . obtain⟨w,hw,d⟩:=h.2 o' g a;exact⟨w,H0 _ hw,d⟩
      . exact⟨u,by simp,hm⟩⟩
    refine Cr (λk(r:Rlx)=>(RxOk r/\r.first=ZA t.vars/\r.facts=vsm t.vars/\r.t=⟨t.vars,[],t.goal,[]⟩)/\r.unary.length<=64*k/\UnS t.vars r.unary λo e=>o∈t.ops.take k/\e∈o.effs) (λ_=>False) ⟨⟨⟨by dsimp only;omega,λu hu=>by simp at hu,W6 _,by simp,λn a d=>?_,λi=>by simp,W3 _⟩,rfl,hF.symm,rfl⟩,W3 _,λu hu=>by simp at hu,λo e h=>by simp at h⟩ (λk o r hk f=>.inl ?_) (λr f=>⟨_,rfl,r,rfl,f.1.1,f.1.2.1,by rw[<- hF];exact f.1.2.2.1,f.1.2.2.2,by have:=f.2.2;rwa[Q3]at this⟩) (λq v=>v.elim)
    . dsimp only at d ⊢;rw[Vc a d];exact⟨T6,λi=>by simp⟩
    . have m:=Az hk;have c:=b.2.2.2.2.2 k o hk;have C:=Ht b c.2.2.2.2.1;obtain⟨D,I2,I3⟩:=f;rw[if_neg (by decide),Ah];refine JX ?_;refine Cr (λj(r:Rlx)=>(RxOk r/\r.first=ZA t.vars/\r.facts=vsm t.vars/\r.t=⟨t.vars,[],t.goal,[]⟩)/\r.unary.length<=64*k+j/\UnS t.vars r.unary λo' e=>(o'∈t.ops.take k/\e∈o'.effs)\/(o'=o/\e∈o.effs.take j)) (λ_=>False) ⟨D,I2,by simpa using I3⟩ (λj e r hj f=>.inl ?_) (λr f=>⟨_,rfl,_,rfl,f.1,by have:=f.2.1;have:=c.2.2.1;omega,?_⟩) (λq v=>v.elim)
      . obtain⟨⟨E,r2,r3,r4⟩,I2,I3⟩:=f;have G:=Az hj;obtain⟨p,hef⟩:=c.2.2.2.2.2 j e hj;have H:=Ht b p;have I:=c.2.2.1;rw[Nm hv h64 r2 hef,Ah];obtain⟨r',ns,a1,a2,a3,a4,a5,a6,a7⟩:=Yc hv h64 E r2 r3 (u:=⟨(k:Int),(j:Int),o.cost,nm t.vars ⟨e.var,e.val⟩,[]⟩) (IF hv hef) ⟨c.1,c.2.1⟩ c.2.2.2.2.1 p (by omega) (by omega);rw[a1,Ah];refine⟨_,rfl,⟨a2,a3,a4,a5.trans r4⟩,by rw[a6];simp;omega,?_⟩;rw[a6];have:=grow I3 (u:=⟨(k:Int),(j:Int),o.cost,nm t.vars ⟨e.var,e.val⟩,ns⟩) (o:=o) (e:=e) ⟨rfl,rfl,a7⟩;refine cast (congrArg _ (funext λo'=>funext λg=>propext ?_)) this;rw[M4,hj,or_assoc];simp only[L8,Q8,M0,and_or_left]
      . refine cast (congrArg _ (funext λo'=>funext λg=>propext ?_)) f.2.2;rw[Q3,M4,hk];simp only[L8,Q8,M0,or_and_right];exact or_congr X1 ⟨λ⟨a,d⟩=>⟨a,a▸d⟩,λ⟨a,d⟩=>⟨a,a▸d⟩⟩
  obtain⟨q,a,r,rfl,d⟩:=s;exact⟨r,a,d⟩
end
end
section
open Go Go.RowKit
theorem TC:∀(l:List Int)(p:Int),(p::l).Pairwise (·≤·)→(p::Z2 p l).Pairwise (· < ·)∧∀x,(x∈Z2 p l∨x=p)↔(x∈l∨x=p)
  |[],p,_=>by simp[Z2]
  |a  :: l,p,h=>by
    obtain⟨c,h2⟩:=L5.1 h;obtain⟨b,i2⟩:=TC l a h2;simp only[Z2];by_cases e:p=a
    . subst e;rw[if_pos rfl];refine⟨b,λx=>(i2 x).trans ?_⟩;simp[or_comm]
    . rw[if_neg e];have:=c a L0;refine⟨L5.2 ⟨λx hx=>?_,b⟩,λx=>?_⟩
      . rcases T8.1 hx with rfl|hx
        . omega
        . have:=(L5.1 b).1 x hx;omega
      . have:=i2 x;simp only[T8];constructor
        . rintro((h|h)|h)
          . exact .inl (.inl h)
          . exact(this.1 (.inl h)).elim (λh=>.inl (.inr h)) λh=>.inl (.inl h)
          . exact .inr h
        . rintro((h|h)|h)
          . exact .inl (.inl h)
          . exact(this.2 (.inl h)).elim (λh=>.inl (.inr h)) λh=>.inl (.inl h)
          . exact .inr h
theorem Vf{l:List Int}(h:l.Pairwise (·<=·)):(Zm l).Nodup/\∀x,x∈Zm l↔x∈l:=by
  cases l with
  |nil=>exact⟨T6,λx=>X1⟩
  |cons a l =>
    obtain⟨b,h2⟩:=TC l a h;refine⟨b.imp λh=>by omega,λx=>?_⟩;simp only[Zm,T8];rw[or_comm,h2,or_comm]
theorem Qp:∀{l:List Int}{i:Int}{v:Int},0<=i->i<l.length->∀d,vsm (l.set i.toNat v)=vsm l-gI d l i+v
  |x  :: l,i,v,h0,h1,d=>by
    obtain⟨k,rfl⟩:=E3 h0;cases k with
    |zero=>simp only[gI,vsm,N1,List.set_cons_zero,List.getElem?_cons_zero,P1];omega
    |succ k =>
      have:=Qp (l:=l) (i:=(k:Int)) (v:=v) (by omega) (by simp at h1;omega) d;simp only[gI,vsm,N1,List.set_cons_succ,E5]at this ⊢;omega
def GrL(vs:List Int)(l:List Int)(g:Int):Prop:=(l=[]/\g=-1)\/(g∈l/\∀n∈l,ov vs n<=ov vs g)
def HiL(vs:List Int)(l:List Int)(m:Int):Prop:=(l=[]/\m=0)\/((∃g∈l,ov vs g=m)/\∀n∈l,ov vs n<=m)
theorem HiL.uniq{vs l:List Int}{m a:Int}(h:HiL vs l m)(b:HiL vs l a):m=a:=by
  rcases h with⟨rfl,rfl⟩|⟨⟨g,h1,h2⟩,h3⟩
  . rcases b with⟨_,rfl⟩|⟨⟨g,h,_⟩,_⟩
    . rfl
    . simp at h
  . rcases b with⟨rfl,_⟩|⟨⟨c,h4,h5⟩,h6⟩
    . simp at h1
    . have:=h3 c h4;have:=h6 g h1;omega
theorem GrL.hi{vs l:List Int}{g:Int}(h:GrL vs l g)(b:∀n∈l,0<=n):(0<=g/\HiL vs l (ov vs g))\/(g=-1/\l=[]/\HiL vs l 0):=by
  rcases h with⟨a,h2⟩|⟨a,h2⟩
  . exact .inr ⟨h2,a,.inl ⟨a,rfl⟩⟩
  . exact .inl ⟨b g a,.inr ⟨⟨g,a,rfl⟩,h2⟩⟩
section
variable {F:Nat}{vs l:List Int}(hl:∀ n ∈ l, 0 ≤ n ∧ n < F)(hv:vs.length = F)
include hl hv
theorem LB:∃g,EV l vs=some g∧GrL vs l g:=by
  unfold EV;refine Cr (λk g=>GrL vs (l.take k) g) (λ_=>False) (.inl ⟨rfl,rfl⟩) (λk a g hk j=>.inl ?_) (λg i=>⟨_,rfl,by rwa[Q3]at i⟩) (λq r=>r.elim);have s:=hl a (H2 hk);have f:l.take (k+1)=l.take k++[a]:=(by rw[M4,hk];rfl);by_cases m:g<0
  . rw[if_pos m,Ah,BA];have:l.take k=[]:=by
      rcases j with h|h
      . exact h.1
      . have:=hl g (H9 h.1);omega
    refine⟨_,rfl,.inr ?_⟩;rw[f,this];simp
  . obtain⟨o,g2⟩:g∈l.take k/\∀n∈l.take k,ov vs n<=ov vs g:=j.resolve_left λh=>(by omega);have i:=hl g (H9 o);have b:∀x,(x=a\/x=g)->ov vs a<=ov vs x->ov vs g<=ov vs x->GrL vs (l.take (k+1)) x:=λx t c e=>.inr (by
      rw[f];refine⟨t.elim (λh=>by rw[h];simp) λh=>by rw[h];exact H0 _ o,λn hn=>?_⟩;rcases Q8.1 hn with hn|hn
      . exact V7 (g2 n hn) e
      . obtain rfl:=M0.1 hn;exact c)
    rw[if_neg m,En (d:=Inf) s.1 (by omega),Ah,En (d:=Inf) i.1 (by omega),Ah];by_cases c:ov vs g<ov vs a
    . rw[if_pos c,Ah,BA];exact⟨_,rfl,b a (.inl rfl) (W5 _) (W0 c)⟩
    . rw[if_neg c,Ah,Ah];by_cases e:ov vs a=ov vs g
      . rw[if_pos e];by_cases p:a<g
        . rw[if_pos p,Ah,BA];exact⟨_,rfl,b a (.inl rfl) (W5 _) (by rw[e];exact W5 _)⟩
        . rw[if_neg p,Ah,BT];exact⟨_,rfl,b g (.inr rfl) (by rw[e];exact W5 _) (W5 _)⟩
      . rw[if_neg e,Ah,BT];exact⟨_,rfl,b g (.inr rfl) (W9.1 c) (W5 _)⟩
theorem Ku:∃m,EF l vs=some m/\HiL vs l m:=by
  obtain⟨g,g1,a⟩:=LB hl hv;unfold EF;rw[g1,Ah];rcases a.hi (λn hn=>(hl n hn).1)with⟨b,h⟩|⟨rfl,_,h⟩
  . have:g<F:=by
      rcases a with⟨_,h⟩|⟨h,_⟩
      . omega
      . exact(hl g h).2
    rw[if_pos b,En (d:=Inf) b (by omega),Ah];exact⟨_,rfl,h⟩
  . exact⟨_,if_neg (by decide),h⟩
end
def Abf(U:List LmU)(P:LmU->Prop)(a:Int->Prop):Prop:=∀u∈U,P u->(∀n∈u.needs,a n)->a u.makes
section
variable {F C:Nat}{U:List LmU}(hU:∀ u ∈ U, (0 ≤ u.op ∧ u.op < C) ∧ (0 ≤ u.makes ∧ u.makes < F) ∧ ∀ n ∈ u.needs, 0 ≤ n ∧ n < F){S:Int → Prop}{cs:List Int}(hcl:cs.length = C)(hc:∀ i:Int, 0 ≤ i → i < C → 0 ≤ gI 0 cs i ∧ gI 0 cs i ≤ 1048576)
include hU hcl hc
def VaI(F:Nat)(U:List LmU)(S:Int->Prop)(vs:List Int):Prop:=(vs.length=F/\∀i:Int,0<=i->i<F->ov vs i<Inf->ov vs i<=((vs.countP λv=>decide (v<Inf):Nat):Int)*1048576)/\(∀i:Int,0<=i->i<F->0<=ov vs i/\ov vs i<=Inf)/\(∀i,S i->ov vs i=0)/\∀a:Int->Prop,(∀i,S i->a i)->Abf U (λ_=>True) a->∀i:Int,0<=i->i<F->ov vs i<Inf->a i
def VaF(U:List LmU)(cs vs:List Int):Prop:=∀u∈U,∀m,HiL vs u.needs m->m<Inf->ov vs u.makes<=m+gI 0 cs u.op
theorem Xi      {h:Lmc} (hf:h.facts=F) (hF:F≤1000) (hl:h.list=U) {s:List Int} (hs:∀(k:Nat) x,s[k]?=some x→∃a,h.first[k]?=some a∧0≤a+x∧a+x<F) (hS:∀i,S i↔∃(k:Nat) (x a:Int),s[k]?=some x∧h.first[k]?=some a∧i=a+x) :
    ∃vs,Du h s cs=some vs/\VaI F U S vs/\VaF U cs vs:=by
  unfold Du;have iv:Inf=1125899906842624:=rfl;rw[hf,HT (by omega) (by omega),Ah,F9];refine Mn (λk o=>o.length=F/\∀j:Nat,j<k->o[j]?=some Inf) ⟨by simp,λj hj=>absurd hj (by omega)⟩ (λk o hk hI=>?_) (λo ho=>?_)
  . obtain⟨x,hx⟩:=AG (l:=o) (k:=k) (by omega);rw[hx,Ah];refine⟨_,rfl,by simp;exact hI.1,λj hj=>?_⟩;by_cases e:k=j
    . subst e;exact F2 (by omega)
    . rw[H7 e];exact hI.2 j (by omega)
  have ho0:∀i:Int,0<=i->i<F->ov o i=Inf:=λi h0 h1=>by
    unfold ov gI;rw[ho.2 i.toNat (by omega)];rfl
  rw[Bw];have srg:∀i,S i->0<=i/\i<F:=λi hi=>by
    obtain⟨k,x,a,h1,h2,rfl⟩:=(hS i).1 hi;obtain⟨b,b1,b2,b3⟩:=hs k x h1;rw[h2]at b1;rw[R1 b1];exact⟨b2,b3⟩
  refine Cr (λk o=>o.length=F/\(∀i:Int,0<=i->i<F->ov o i=Inf\/(ov o i=0/\S i))/\∀(j:Nat) x a,j<k->s[j]?=some x->h.first[j]?=some a->ov o (a+x)=0) (λ_=>False) ⟨ho.1,λi h0 h1=>.inl (ho0 i h0 h1),λj x a hj=>absurd hj (by omega)⟩ (λk x o hk hI=>.inl ?_) (λo hI=>?_) (λq hq=>hq.elim)
  . obtain⟨I1,I2,I3⟩:=hI;obtain⟨a,a1,a2,a3⟩:=hs k x hk;rw[a1,Ah,BQ (by unfold X2;omega),Ah,En (d:=Inf) a2 (by omega),Ah];have gs:∀i:Int,0<=i->ov (o.set (a+x).toNat 0) i=if i=a+x then 0 else ov o i:=λi hi=>Gl a2 (by omega) hi;refine⟨_,rfl,by rw[R6];exact I1,λi h0 h1=>?_,λj x' a' hj hx' ha'=>?_⟩
    . rw[gs i h0];by_cases e:i=a+x
      . subst e;rw[if_pos rfl];exact .inr ⟨rfl,(hS _).2 ⟨k,x,a,hk,a1,rfl⟩⟩
      . rw[if_neg e];exact I2 i h0 h1
    . obtain⟨b,b1,b2,b3⟩:=hs j x' hx';rw[ha']at b1;obtain rfl:=R1 b1;rw[gs _ b2];by_cases e:j=k
      . subst e;rw[hk]at hx';rw[a1]at ha';rw[R1 hx',R1 ha',if_pos rfl]
      . split
        . rfl
        . exact I3 j x' a' (by omega) hx' ha'
  obtain⟨I1,I2,I3⟩:=hI;have I0:VaI F U S o:=⟨⟨I1,λi h0 h1 h2=>by rcases I2 i h0 h1 with h|h<;>omega⟩,λi h0 h1=>by rcases I2 i h0 h1 with h|h<;>omega,λi hi=>by
    obtain⟨k,x,a,h1,h2,rfl⟩:=(hS i).1 hi;exact I3 k x a (Az h1) h1 h2,λZ hZ _ i h0 h1 h2=>by
    rcases I2 i h0 h1 with h|h
    . omega
    . exact hZ i h.2⟩
  rw[Bw];have nn:∀{vs},VaI F U S vs->0<=vsm vs:=λ{vs} h=>HB λx hx=>by
    obtain⟨k,hk⟩:=H3 hx;have:=(h.2.1 k (by omega) (by have:=Az hk;have:=h.1.1;omega)).1;rwa[show ov vs k=x from LW hk]at this
  refine IA (λq:List Int×Bool=>VaI F U S q.1/\(q.2=false->VaF U cs q.1)) (λq=>VaI F U S q.1/\VaF U cs q.1) (λ_=>False) (λq=>2*(vsm q.1).toNat+if q.2=true then 1 else 0) ⟨I0,λh=>by cases h⟩ (λq hq=>?_) (λq hq=>⟨_,rfl,hq⟩) (λq hq=>hq.elim);obtain⟨vs,b⟩:=q;obtain⟨hV,hb⟩:=hq;dsimp only at hV hb ⊢;cases b with
  |false=>rw[if_neg (by simp)];exact .inr (.inl ⟨_,rfl,hV,hb rfl⟩)
  |true =>
    rw[if_pos rfl,hl];refine .inl ?_;refine KO ?_;refine Cr (λj(q:List Int×Bool)=>VaI F U S q.1/\(q.2=true->vsm q.1<vsm vs)/\(q.2=false->q.1=vs/\VaF (U.take j) cs vs)) (λ_=>False) ⟨hV,λh=>(by cases h),λ_=>⟨rfl,λu hu=>by simp at hu⟩⟩ (λj u q hj hI=>.inl ?_) (λq hq=>?_) (λq hq=>hq.elim)
    . obtain⟨ws,c⟩:=q;obtain⟨I1,I2,I3⟩:=hI;dsimp only at I1 I2 I3 ⊢;have hum:=H2 hj;obtain⟨u1,u2,u3⟩:=hU u hum;obtain⟨m,m1,m2⟩:=Ku u3 I1.1.1;have hm0:0<=m:=by
        rcases m2 with⟨_,rfl⟩|⟨⟨g,g1,rfl⟩,_⟩
        . exact W5 _
        . exact(I1.2.1 g (u3 g g1).1 (u3 g g1).2).1
      rw[m1,Ah];have hmk:=I1.2.1 u.makes u2.1 u2.2;have hcu:=hc u.op u1.1 u1.2;have keep:(m<Inf->ov ws u.makes<=m+gI 0 cs u.op)->∃s',some (Ctl.next (ρ:=Ctl (List Int×Bool) (List Int)) (ws,c))=some (.next s')/\VaI F U S s'.1/\(s'.2=true->vsm s'.1<vsm vs)/\(s'.2=false->s'.1=vs/\VaF (U.take (j+1)) cs vs):=λh=>⟨_,rfl,I1,I2,λhc=>by
        obtain⟨rfl,h1⟩:=I3 hc;refine⟨rfl,λu' hu' m' hm' hlt=>?_⟩;rw[M4,hj]at hu';rcases Q8.1 hu' with hu'|hu'
        . exact h1 u' hu' m' hm' hlt
        . obtain rfl:u'=u:=(by simpa using hu');obtain rfl:=hm'.uniq m2;exact h hlt⟩
      by_cases h1:m<1125899906842624
      . have hck:X7 (m+gI 0 cs u.op)=some (m+gI 0 cs u.op):=BQ (by unfold X2;omega);rw[if_pos h1,En (d:=0) u1.1 (by omega),Ah,hck,Ah,En (d:=Inf) u2.1 (by have:=I1.1.1;omega),Ah];by_cases h2:m+gI 0 cs u.op<ov ws u.makes
        . rw[if_pos h2,Ah,BA,Ah,hck,Ah,Ah];have gs:∀i:Int,0<=i->ov (ws.set u.makes.toNat (m+gI 0 cs u.op)) i=if i=u.makes then m+gI 0 cs u.op else ov ws i:=λi hi=>Gl u2.1 (by have:=I1.1.1;omega) hi;have hsm:=Qp (l:=ws) (i:=u.makes) (v:=m+gI 0 cs u.op) u2.1 (by have:=I1.1.1;omega) Inf;refine⟨_,rfl,⟨⟨by rw[R6];exact I1.1.1,λi h0 h1 h3=>?_⟩,λi h0 h1=>?_,λi hi=>?_,λZ hZ hcl i h0 h1 h3=>?_⟩,λ_=>?_,λh=>by cases h⟩
          . have hlt:u.makes.toNat<ws.length:=(by have:=I1.1.1;omega);have hold:ws[u.makes.toNat]=ov ws u.makes:=(by unfold ov gI;rw[C9 hlt];rfl);rw[List.countP_set hlt,hold,if_pos (decide_eq_true (show m+gI 0 cs u.op<Inf by omega))];have hmc:m<=((ws.countP λv=>decide (v<Inf):Nat):Int)*1048576:=by
              rcases m2 with⟨_,rfl⟩|⟨⟨g,g1,rfl⟩,_⟩
              . omega
              . exact I1.1.2 g (u3 g g1).1 (u3 g g1).2 h1
            rw[gs i h0]at h3 ⊢;by_cases ho:ov ws u.makes<Inf
            . have hp:0<ws.countP λv=>decide (v<Inf):=List.countP_pos_iff.2 ⟨_,List.getElem_mem hlt,by rw[hold];exact decide_eq_true ho⟩;have hb:=I1.1.2 u.makes u2.1 u2.2 ho;rw[if_pos (decide_eq_true ho),show(ws.countP λv=>decide (v<Inf))-1+1=ws.countP λv=>decide (v<Inf)by omega];split
              . omega
              . rename_i e;rw[if_neg e]at h3;exact I1.1.2 i h0 (by assumption) h3
            . rw[show(if decide (ov ws u.makes<Inf)=true then 1 else 0)=0 from if_neg (by simpa using ho),V5];split
              . omega
              . rename_i e;rw[if_neg e]at h3;have:=I1.1.2 i h0 (by assumption) h3;omega
          . rw[gs i h0];split
            . omega
            . exact I1.2.1 i h0 h1
          . rw[gs i (srg i hi).1];split
            . rename_i e;have:=I1.2.2.1 i hi;rw[e]at this;omega
            . exact I1.2.2.1 i hi
          . rw[gs i h0]at h3;by_cases e:i=u.makes
            . rw[e];refine hcl u hum trivial λn hn=>I1.2.2.2 Z hZ hcl n (u3 n hn).1 (u3 n hn).2 ?_;rcases m2 with⟨h,_⟩|⟨_,h⟩
              . rw[h]at hn;simp at hn
              . have:=h n hn;omega
            . rw[if_neg e]at h3;exact I1.2.2.2 Z hZ hcl i h0 h1 h3
          . dsimp only;rw[hsm];have:vsm ws<=vsm vs:=by
              cases c with
              |true=>exact W0 (I2 rfl)
              |false=>rw[(I3 rfl).1];exact W5 _
            change m+gI 0 cs u.op<gI Inf ws u.makes at h2;omega
        . rw[if_neg h2,Ah,BT];exact keep λ_=>W9.1 h2
      . rw[if_neg h1,Ah,BT];exact keep λh=>absurd h h1
    . obtain⟨ws,c⟩:=q;obtain⟨I1,I2,I3⟩:=hq;dsimp only at I1 I2 I3 ⊢;rw[Q3]at I3;rw[Bw];refine⟨_,rfl,_,rfl,⟨I1,λh=>by obtain⟨rfl,h⟩:=I3 h;exact h⟩,?_⟩;dsimp only;have n1:=nn I1;have n2:=nn hV;cases c with
      |true=>rw[if_pos rfl];have:=I2 rfl;omega
      |false=>rw[(I3 rfl).1,if_neg (by simp),if_pos rfl];omega
end
end
section
open Go Go.RowKit
theorem Ws{d:List Bool}{i:Int}(b:0<=i)(a:i<d.length)(h:gI false d i=false):(d.set i.toNat true).count false+1=d.count false:=by
  have hlt:i.toNat<d.length:=(by omega);rw[List.count_set hlt];have a:d[i.toNat]=false:=by
    unfold gI at h;rw[C9 hlt]at h;exact h
  have c:0<d.count false:=List.count_pos_iff.2 (a▸List.getElem_mem hlt);rw[a];simp;omega
theorem Vg{R X:Type}{A:List LmA}{F:Nat}{cnd:LmA→List Bool→Option Bool}{ix:LmA→Int}{C:LmA→List Bool→Prop}{P:List Bool→Prop}{k:Fin (List Bool×Bool) R→Option X}{Q:X→Prop}{l:List Bool}(t:l.length=F∧P l)
    (hc:∀a∈A,∀z,z.length=F->P z->∃y,cnd a z=some y/\(y=true↔C a z/\gI false z (ix a)=false))
    (v:∀a∈A,∀z,z.length=F->P z->C a z->gI false z (ix a)=false->(0<=ix a/\ix a<F)/\P (z.set (ix a).toNat true))
    (hk:∀z b,z.length=F->P z->(∀a∈A,C a z->gI false z (ix a)=true)->∃r,k (.done (z,b))=some r/\Q r) :
    ∃r,bnd (lop (ρ:=R) (λs:List Bool×Bool=>if s.2=true then bnd (rng (ρ:=Ctl (List Bool×Bool) R) (λ(_:Nat)(a:LmA)(s:List Bool×Bool)=>bnd (cnd a s.1) λy=>if y=true then(bnd (atI s.1 (ix a)) λ_=>some (.next (s.1.set (ix a).toNat true,true)))else some (.next (s.1,s.2))) A 0 (s.1,false)) λr=>fin r λs=>some (.next (s.1,s.2))else some (.brk (s.1,s.2))) (l,true)) k=some r/\Q r:=by
  refine IA (λq:List Bool×Bool=>(q.1.length=F/\P q.1)/\(q.2=false->∀a∈A,C a q.1->gI false q.1 (ix a)=true)) (λq=>(q.1.length=F/\P q.1)/\∀a∈A,C a q.1->gI false q.1 (ix a)=true) (λ_=>False) (λq=>2*q.1.count false+if q.2=true then 1 else 0) ⟨t,λh=>by cases h⟩ (λq e=>?_) (λq e=>hk q.1 q.2 e.1.1 e.1.2 e.2) (λq e=>e.elim);obtain⟨z,b⟩:=q;obtain⟨m,hb⟩:=e;dsimp only at m hb ⊢;cases b with
  |false=>rw[if_neg (by simp)];exact .inr (.inl ⟨_,rfl,m,hb rfl⟩)
  |true =>
    rw[if_pos rfl];refine .inl ?_;refine KO ?_;refine Cr (λj(q:List Bool×Bool)=>(q.1.length=F/\P q.1)/\(q.2=true->q.1.count false<z.count false)/\(q.2=false->q.1=z/\∀a∈A.take j,C a z->gI false z (ix a)=true)) (λ_=>False) ⟨m,λh=>(by cases h),λ_=>⟨rfl,λu hu=>by simp at hu⟩⟩ (λj a q hj w=>.inl ?_) (λq e=>?_) (λq e=>e.elim)
    . obtain⟨V,c⟩:=q;obtain⟨f,I2,I3⟩:=w;dsimp only at f I2 I3 ⊢;have g:=H2 hj;obtain⟨y,y1,y2⟩:=hc a g V f.1 f.2;rw[y1,Ah];cases y with
      |true =>
        obtain⟨n,h2⟩:=y2.1 rfl;obtain⟨o,h4⟩:=v a g V f.1 f.2 n h2;have hl:ix a<V.length:=(by rw[f.1];exact o.2);rw[if_pos rfl,En (d:=false) o.1 hl,Ah];refine⟨_,rfl,⟨by rw[R6];exact f.1,h4⟩,λ_=>?_,λh=>by cases h⟩;have:=Ws o.1 hl h2;dsimp only;cases c with
        |true=>have:=I2 rfl;omega
        |false=>rw[(I3 rfl).1]at this ⊢;omega
      |false =>
        rw[if_neg (by simp)];refine⟨_,rfl,f,I2,λhc=>?_⟩;obtain⟨rfl,n⟩:=I3 hc;refine⟨rfl,λa' i p=>?_⟩;rw[M4,hj]at i;rcases Q8.1 i with h|h
        . exact n a' h p
        . obtain rfl:a'=a:=(by simpa using h);cases x:gI false V (ix a')with
          |true=>rfl
          |false=>exact absurd (y2.2 ⟨p,x⟩) (by simp)
    . obtain⟨V,c⟩:=q;obtain⟨f,I2,I3⟩:=e;dsimp only at f I2 I3 ⊢;rw[Q3]at I3;rw[Bw];refine⟨_,rfl,_,rfl,⟨f,λh=>by obtain⟨rfl,h⟩:=I3 h;exact h⟩,?_⟩;dsimp only;cases c with
      |true=>rw[if_pos rfl];have:=I2 rfl;omega
      |false=>rw[(I3 rfl).1,if_neg (by simp),if_pos rfl];omega
section
variable {F C:Nat}{U:List LmU}(hU:∀ u ∈ U, (0 ≤ u.op ∧ u.op < C) ∧ (0 ≤ u.makes ∧ u.makes < F) ∧ ∀ n ∈ u.needs, 0 ≤ n ∧ n < F)(hUl:U.length ≤ 1000){S:Int → Prop}{cs:List Int}(hcl:cs.length = C)(hc:∀ i:Int, 0 ≤ i → i < C → 0 ≤ gI 0 cs i ∧ gI 0 cs i ≤ 1048576)
include hU hUl hcl hc
def Aa3(vs:List Int)(u:LmU)(a:LmA):Prop:=a.op=u.op/\a.dst=u.makes/\GrL vs u.needs a.src/\∀n∈u.needs,ov vs n<Inf
omit hcl hc in
theorem Xj{h:Lmc}(hl:h.list=U){vs:List Int}(hv:vs.length=F):∃A,EK h vs=some A∧A.length≤1000∧(∀a∈A,∃u∈U,Aa3 vs u a)∧∀u∈U,(∀n∈u.needs,ov vs n<Inf)→∃a∈A,Aa3 vs u a:=by
  have o:Inf=1125899906842624:=rfl;unfold EK;rw[hl];refine Cr (λk A=>A.length<=k/\(∀a∈A,∃u∈U,Aa3 vs u a)/\∀u∈U.take k,(∀n∈u.needs,ov vs n<Inf)->∃a∈A,Aa3 vs u a) (λ_=>False) ⟨W3 _,λa j=>by simp at j,λu hu=>by simp at hu⟩ (λk u A hk p=>.inl ?_) (λA hA=>⟨_,rfl,by omega,hA.2.1,by have:=hA.2.2;rwa[Q3]at this⟩) (λq r=>r.elim);have s:=Az hk;have e:=H2 hk;obtain⟨_,_,u3⟩:=hU u e;obtain⟨m,m1,t⟩:=Ku u3 hv;obtain⟨g,g1,g2⟩:=LB u3 hv;obtain⟨v,I2,I3⟩:=p;have c:m<Inf↔∀n∈u.needs,ov vs n<Inf:=by
    rcases t with⟨f,rfl⟩|⟨⟨g,f,rfl⟩,h2⟩
    . rw[f];simp;decide
    . exact⟨λh n hn=>M1 (h2 n hn) h,λh=>h g f⟩
  have i:∀b,b∈U.take (k+1)↔b∈U.take k\/b=u:=λb=>(by rw[M4,hk];simp);rw[m1,Ah];by_cases hm:m<1125899906842624
  . rw[if_pos hm,g1,Ah,Cg (by simp;omega) (by simp;omega),Ah];have hn:Aa3 vs u ⟨g,u.makes,u.op⟩:=⟨rfl,rfl,g2,c.1 hm⟩;refine⟨_,rfl,by simp;exact v,λa j=>?_,λb d h=>?_⟩
    . rcases Q8.1 j with h|h
      . exact I2 a h
      . obtain rfl:=M0.1 h;exact⟨u,e,hn⟩
    . rcases(i b).1 d with l|rfl
      . obtain⟨a,f,h2⟩:=I3 b l h;exact⟨a,H0 _ f,h2⟩
      . exact⟨_,by simp,hn⟩
  . rw[if_neg hm];refine⟨_,rfl,by omega,I2,λb d h=>?_⟩;rcases(i b).1 d with l|rfl
    . exact I3 b l h
    . exact absurd (c.2 h) (by rw[o];exact hm)
theorem Ye{h:Lmc}(hf:h.facts=F)(hF:F≤1000)(hl:h.list=U){s:List Int}(hs:∀(k:Nat) x,s[k]?=some x→∃a,h.first[k]?=some a∧0≤a+x∧a+x<F)(hS:∀i,S i↔∃(k:Nat) (x a:Int),s[k]?=some x∧h.first[k]?=some a∧i=a+x)
    {vs:List Int} (hV:VaI F U S vs) (hX:VaF U cs vs) (hg:∀g∈h.goal,0<=g/\g<F) {n:Int} (hn:HiL vs h.goal n) (h0:0<n) (h1:n<Inf) :
    ∃O,DW h s cs vs=some O/\O.Nodup/\O≠[]/\(∀k∈O,(0<=k/\k<C)/\0<gI 0 cs k)/\∃Z:Int->Prop,(∀i,S i->Z i)/\(∃g∈h.goal,¬Z g)/\Abf U (λu=>¬u.op∈O) Z:=by
  obtain⟨A,A1,Al,A2,A3⟩:=Xj hU hUl hl hV.1.1;obtain⟨g,g1,g2⟩:=LB hg hV.1.1;have hgg:g∈h.goal/\ov vs g=n:=by
    rcases g2.hi (λn hn=>(hg n hn).1)with⟨g3,g4⟩|⟨_,h',_⟩
    . refine⟨?_,g4.uniq hn⟩;rcases g2 with⟨_,h⟩|⟨h,_⟩
      . omega
      . exact h
    . rcases hn with⟨_,h⟩|⟨⟨g',h,_⟩,_⟩
      . omega
      . rw[h']at h;simp at h
  have hgr:=hg g hgg.1;have srg:∀i,S i->0<=i/\i<F:=λi hi=>by
    obtain⟨k,x,a,h1,h2,rfl⟩:=(hS i).1 hi;obtain⟨b,b1,b2,b3⟩:=hs k x h1;rw[h2]at b1;rw[R1 b1];exact⟨b2,b3⟩
  -- what is known of an arc
  have arc:∀a∈A,(0<=a.op/\a.op<C)/\(0<=a.dst/\a.dst<F)/\(0<=a.src->a.src<F/\ov vs a.src<Inf/\ov vs a.dst<=ov vs a.src+gI 0 cs a.op)/\(a.src<0->ov vs a.dst<=gI 0 cs a.op)/\ov vs a.dst<Inf:=λa ha=>by
    obtain⟨u,hu,e1,e2,e3,e4⟩:=A2 a ha;obtain⟨u1,u2,u3⟩:=hU u hu;have hcu:=hc _ u1.1 u1.2;rw[e1,e2];rcases e3.hi (λn hn=>(u3 n hn).1)with⟨e5,e6⟩|⟨e5,e6,e7⟩
    . have e7:a.src∈u.needs:=by
        rcases e3 with⟨_,h⟩|⟨h,_⟩
        . omega
        . exact h
      have e8:=hX u hu _ e6 (e4 _ e7);refine⟨u1,u2,λ_=>⟨(u3 _ e7).2,e4 _ e7,e8⟩,λh=>by omega,?_⟩;have:=hV.1.2 _ e5 (u3 _ e7).2 (e4 _ e7);have hcl:=List.countP_le_length (p:=λv=>decide (v<Inf)) (l:=vs);have hln:=hV.1.1;have:Inf=1125899906842624:=rfl;omega
    . have e8:=hX u hu 0 e7 (by decide);exact⟨u1,u2,λh=>by omega,λ_=>by omega,by have:Inf=1125899906842624:=rfl;omega⟩
  unfold DW;rw[A1,Ah,hf,HT (by omega) (by omega),Ah,g1,Ah,En (d:=false) hgr.1 (by simp;omega),Ah];have gr:∀i:Int,0<=i->gI false (List.replicate F false) i=false:=λi h0=>by
    unfold gI;rw[E6];split<;>rfl
  refine Vg (F:=F) (cnd:=λa78 T=>if 0<=a78.src then(bnd (atI cs a78.op) λa107=>if a107=0 then(bnd (atI T a78.dst) λa111=>if a111=true then(bnd (atI T a78.src) λa114=>some (!a114))else(some false))else(some false))else(some false)) (ix:=λa=>a.src) (C:=λa T=>0<=a.src/\gI 0 cs a.op=0/\gI false T a.dst=true) (P:=λT=>gI false T g=true/\∀i:Int,0<=i->i<F->gI false T i=true->0<ov vs i) ⟨by simp,?_,λi i0 i1=>?_⟩ (λa ha T hT hP=>?_) (λa ha T hT hP hC hz=>?_) (λT b hT hP hcl1=>?_)
  . rw[Gl hgr.1 (by simp;omega) hgr.1,if_pos rfl]
  . rw[Gl hgr.1 (by simp;omega) i0];split
    . rename_i e;subst e;rw[hgg.2];exact λ_=>h0
    . rw[gr i i0];exact λh=>by cases h
  . obtain⟨a1,a2,a3,_⟩:=arc a ha;by_cases hsr:0<=a.src
    . obtain⟨a5,_⟩:=a3 hsr;rw[if_pos hsr,En (d:=0) a1.1 (by omega),Ah];by_cases hz:gI 0 cs a.op=0
      . rw[if_pos hz,En (d:=false) a2.1 (by omega),Ah];by_cases hd:gI false T a.dst=true
        . rw[if_pos hd,En (d:=false) hsr (by omega),Ah];refine⟨_,rfl,?_⟩;simp[hsr,hz,hd]
        . rw[if_neg hd];exact⟨_,rfl,by simp[hd]⟩
      . rw[if_neg hz];exact⟨_,rfl,by simp[hz]⟩
    . rw[if_neg hsr];exact⟨_,rfl,by simp[hsr]⟩
  . obtain⟨h1,h2,h3⟩:=hC;obtain⟨a1,a2,a3,_⟩:=arc a ha;obtain⟨a5,_,a6⟩:=a3 h1;have hpos:=hP.2 a.dst a2.1 a2.2 h3;refine⟨⟨h1,a5⟩,?_,λi i0 i1=>?_⟩
    . rw[Gl h1 (by omega) hgr.1];split
      . rfl
      . exact hP.1
    . rw[Gl h1 (by omega) i0];split
      . rename_i e;subst e;exact λ_=>by omega
      . exact hP.2 i i0 i1
  rw[Bw,Ah];dsimp only;refine Cr (λk(V:List Bool)=>V.length=F/\(∀i:Int,0<=i->gI false V i=true->S i)/\∀(j:Nat) x a,j<k->s[j]?=some x->h.first[j]?=some a->gI false V (a+x)=true) (λ_=>False) ⟨by simp,λi i0 hi=>(by rw[gr i i0]at hi;cases hi),λj x a hj=>absurd hj (by omega)⟩ (λk x V hk hI=>.inl ?_) (λV hV0=>?_) (λq hq=>hq.elim)
  . obtain⟨I1,I2,I3⟩:=hI;obtain⟨a,a1,a2,a3⟩:=hs k x hk;rw[a1,Ah,BQ (by unfold X2;omega),Ah,En (d:=false) a2 (by omega),Ah];have gs:∀i,0<=i->gI false (V.set (a+x).toNat true) i=if i=a+x then true else gI false V i:=λi hi=>Gl a2 (by omega) hi;refine⟨_,rfl,by rw[R6];exact I1,λi i0 hi=>?_,λj x' a' hj hx' ha'=>?_⟩
    . rw[gs i i0]at hi;by_cases e:i=a+x
      . exact(hS i).2 ⟨k,x,a,hk,a1,e⟩
      . rw[if_neg e]at hi;exact I2 i i0 hi
    . obtain⟨b,b1,b2,b3⟩:=hs j x' hx';rw[ha']at b1;obtain rfl:=R1 b1;rw[gs _ b2];by_cases e:j=k
      . subst e;rw[hk]at hx';rw[a1]at ha';rw[R1 hx',R1 ha',if_pos rfl]
      . split
        . rfl
        . exact I3 j x' a' (by omega) hx' ha'
  obtain⟨V1,V2,V3⟩:=hV0;rw[Bw];refine Vg (F:=F) (cnd:=λa199 V=>if a199.src<0 then(bnd (atI T a199.dst) λa228=>if(!a228)=true then(bnd (atI V a199.dst) λa231=>some (!a231))else(some false))else(bnd (atI V a199.src) λa233=>if a233=true then(bnd (atI T a199.dst) λa236=>if(!a236)=true then(bnd (atI V a199.dst) λa239=>some (!a239))else(some false))else(some false))) (ix:=λa=>a.dst) (C:=λa V=>(a.src<0\/gI false V a.src=true)/\gI false T a.dst=false) (P:=λV=>(∀i,S i->gI false V i=true)/\∀i:Int,0<=i->i<F->gI false V i=true->gI false T i=false/\ov vs i<Inf) ⟨V1,λi hi=>?_,λi i0 i1 hi=>?_⟩ (λa ha W hW hP=>?_) (λa ha W hW hP hC hz=>?_) (λW b hW hPW hcl2=>?_)
  . obtain⟨k,x,a,k1,k2,rfl⟩:=(hS i).1 hi;exact V3 k x a (Az k1) k1 k2
  . have hz:=hV.2.2.1 i (V2 i i0 hi);refine⟨?_,by rw[hz];decide⟩;cases hT':gI false T i with
    |false=>rfl
    |true=>have:=hP.2 i i0 i1 hT';omega
  . obtain⟨a1,a2,a3,_⟩:=arc a ha;have tail:∀(c:Prop),c->∃y,(bnd (atI T a.dst) λa228=>if(!a228)=true then(bnd (atI W a.dst) λa231=>some (!a231))else(some false))=some y/\(y=true↔(c/\gI false T a.dst=false)/\gI false W a.dst=false):=λc hc=>by
      rw[En (d:=false) a2.1 (by omega),Ah];cases hd:gI false T a.dst with
      |true=>rw[if_neg (by simp)];exact⟨_,rfl,by simp⟩
      |false=>rw[if_pos (by simp),En (d:=false) a2.1 (by omega),Ah];exact⟨_,rfl,by simp[hc]⟩
    by_cases hsr:a.src<0
    . rw[if_pos hsr];exact tail _ (.inl hsr)
    . obtain⟨a5,_⟩:=a3 (by omega);rw[if_neg hsr,En (d:=false) (by omega) (by omega),Ah];by_cases hd:gI false W a.src=true
      . rw[if_pos hd];exact tail _ (.inr hd)
      . rw[if_neg hd];exact⟨_,rfl,by simp[hsr,hd]⟩
  . obtain⟨a1,a2,a3,a4,a5⟩:=arc a ha;refine⟨a2,λi hi=>?_,λi i0 i1=>?_⟩
    . rw[Gl a2.1 (by omega) (srg i hi).1];split
      . rfl
      . exact hP.1 i hi
    . rw[Gl a2.1 (by omega) i0];split
      . rename_i e;subst e;exact λ_=>⟨hC.2,a5⟩
      . exact hP.2 i i0 i1
  rw[Bw];refine Cr (λk(O:List Int)=>O.length<=k/\∀o,o∈O↔∃a∈A.take k,((a.src<0\/gI false W a.src=true)/\gI false T a.dst=true)/\a.op=o) (λ_=>False) ⟨W3 _,by simp⟩ (λk a O hk hI=>.inl ?_) (λO hO=>?_) (λq hq=>hq.elim)
  . obtain⟨a1,a2,a3,_⟩:=arc a (H2 hk);have hkl:=Az hk;obtain⟨I1,I2⟩:=hI;have htk:∀o,(∃a∈A.take (k+1),((a.src<0\/gI false W a.src=true)/\gI false T a.dst=true)/\a.op=o)↔o∈O\/(((a.src<0\/gI false W a.src=true)/\gI false T a.dst=true)/\a.op=o):=λo=>by
      rw[I2,M4,hk];simp only[L8,Q8,M0,or_and_right,exists_or,exists_eq_left]
    have hy:∃y,(if a.src<0 then(bnd (atI T a.dst) λa291=>some a291)else(bnd (atI W a.src) λa293=>if a293=true then(bnd (atI T a.dst) λa296=>some a296)else(some false)):Option Bool)=some y/\(y=true↔(a.src<0\/gI false W a.src=true)/\gI false T a.dst=true):=by
      by_cases hsr:a.src<0
      . rw[if_pos hsr,En (d:=false) a2.1 (by omega),Ah];exact⟨_,rfl,by simp[hsr]⟩
      . obtain⟨a5,_⟩:=a3 (by omega);rw[if_neg hsr,En (d:=false) (by omega) (by omega),Ah];by_cases hd:gI false W a.src=true
        . rw[if_pos hd,En (d:=false) a2.1 (by omega),Ah];exact⟨_,rfl,by simp[hd]⟩
        . rw[if_neg hd];exact⟨_,rfl,by simp[hsr,hd]⟩
    obtain⟨y,y1,y2⟩:=hy;rw[y1,Ah];cases y with
    |true =>
      rw[if_pos rfl,Cg (by simp;omega) (by simp;omega),Ah];refine⟨_,rfl,by simp;exact I1,λo=>?_⟩;rw[htk,Q8,M0];exact or_congr X1 ⟨λh=>⟨y2.1 rfl,h.symm⟩,λh=>h.2.symm⟩
    |false =>
      rw[if_neg (by simp)];refine⟨_,rfl,by omega,λo=>?_⟩;rw[htk];exact⟨.inl,λh=>h.elim id λh=>absurd (y2.2 h.1) (by simp)⟩
  obtain⟨O1,O2⟩:=hO;rw[Q3]at O2;rw[Bw];unfold EJ DT;rw[if_pos (by omega),Ah,Ah];obtain⟨c1,c2⟩:=Vf (MW O);have mem:∀o,o∈Zm (ZY O)↔∃a∈A,((a.src<0\/gI false W a.src=true)/\gI false T a.dst=true)/\a.op=o:=λo=>(by rw[c2,(Py O).mem_iff,O2]);have cls:Abf U (λu=>¬u.op∈Zm (ZY O)) λi=>(0<=i/\i<F)/\gI false W i=true:=λu hu hno hz=>by
    obtain⟨u1,u2,u3⟩:=hU u hu;refine⟨u2,?_⟩;obtain⟨a,ha,e1,e2,e3,e4⟩:=A3 u hu λn hn=>(hPW.2 n (hz n hn).1.1 (hz n hn).1.2 (hz n hn).2).2;have hsrc:a.src<0\/gI false W a.src=true:=by
      rcases e3 with⟨_,h⟩|⟨h,_⟩
      . exact .inl (by omega)
      . exact .inr (hz _ h).2
    cases hT':gI false T a.dst with
    |true=>exact absurd ((mem u.op).2 ⟨a,ha,⟨hsrc,hT'⟩,e1⟩) hno
    |false=>have:=hcl2 a ha ⟨hsrc,hT'⟩;rwa[e2]at this
  have gno:¬((0<=g/\g<F)/\gI false W g=true):=λh=>by
    have:=(hPW.2 g hgr.1 hgr.2 h.2).1;rw[hP.1]at this;cases this
  refine⟨_,rfl,c1,λh=>?_,λk hk=>?_,λi=>(0<=i/\i<F)/\gI false W i=true,λi hi=>⟨srg i hi,hPW.1 i hi⟩,⟨g,hgg.1,gno⟩,cls⟩
  . refine gno (hV.2.2.2 _ (λi hi=>⟨srg i hi,hPW.1 i hi⟩) (λu hu _ hz=>cls u hu (by rw[h];simp) hz) g hgr.1 hgr.2 (by rw[hgg.2];exact h1))
  . obtain⟨a,ha,⟨h2,h3⟩,rfl⟩:=(mem k).1 hk;obtain⟨a1,a2,a3,a4,a5⟩:=arc a ha;refine⟨a1,?_⟩;have hca:=hc a.op a1.1 a1.2;have hpos:=hP.2 a.dst a2.1 a2.2 h3;by_cases hz:gI 0 cs a.op=0
    . by_cases hsr:0<=a.src
      . have h4:=hcl1 a ha ⟨hsr,hz,h3⟩;have h5:=h2.resolve_left (by omega);have:=(hPW.2 a.src hsr (a3 hsr).1 h5).1;rw[h4]at this;cases this
      . have:=a4 (by omega);omega
    . omega
end
end
section
open Go Go.RowKit
def SN(vars s:List Int)(i:Int):Prop:=∃f,YU vars f/\hasB s f=true/\i=nm vars f
theorem QU{s:List Int}{k:Nat}{x:Int}(h:s[k]?=some x):hasB s ⟨k,x⟩=true:=by unfold hasB;simp[h]
section
variable {t:Tsk}(hok:TaskOk t)(h64:vsm t.vars ≤ 1000)
include hok
theorem LY:∀x∈t.vars,0<=x:=λx hx=>by
  obtain⟨k,hk⟩:=H3 hx;have:=hok.2.2.1 k x hk;omega
include h64
theorem Vh{r:Rlx}(hr:RxOk r)(b:r.first=ZA t.vars)(j:r.facts=vsm t.vars)(p:r.t=⟨t.vars,[],t.goal,[]⟩){s:List Int}(hs:StateOk t.vars s):∃m,Da r s=some m/\0<=m/\m<=Inf/\∀c,0<=c->c<Inf->(m<=c↔∀f∈t.goal,DvN r.unary (SN t.vars s) c (nm t.vars f)):=by
  have hv:=LY hok;unfold Da EN;rw[p,BI hs,Ah,BA];obtain⟨o,o1,o2,o3⟩:=Ve (S:=SN t.vars s) hr (s:=s) (λk x hk=>by
    obtain⟨n,hn⟩:=AG (l:=t.vars) (k:=k) (by rw[<- hs.1];exact Az hk);have hx:=hs.2 k x n hk hn;have hf:YU t.vars ⟨k,x⟩:=⟨by dsimp only;omega,hx.1,n,by rw[N1];exact hn,hx.2⟩;have:=IF hv hf;unfold nm at this;dsimp only at this;rw[N1]at this;exact⟨_,by rw[b];exact If (Az hn),this.1,by rw[j];exact this.2,⟨k,x⟩,hf,QU hk,by unfold nm;dsimp only;rw[N1]⟩) (by have:=hs.1;have:=hok.1;omega) (λi ⟨f,hf,hb,e⟩=>by
    unfold hasB at hb;rw[P6,decide_eq_true_eq,decide_eq_true_eq]at hb;obtain⟨_,_,n,hn,_⟩:=hf;exact⟨f.var.toNat,f.val,_,hb.2,by rw[b];exact If (Az hn),e⟩)
  rw[o1,Ah];refine Cr (λk m=>0<=m/\m<=Inf/\∀c,0<=c->c<Inf->(m<=c↔∀f∈t.goal.take k,DvN r.unary (SN t.vars s) c (nm t.vars f))) (λ_=>False) ⟨W5 _,by decide,λc hc _=>by simp[hc]⟩ (λk f m hk a=>.inl ?_) (λm a=>⟨_,rfl,a.1,a.2.1,by have:=a.2.2;rwa[Q3]at this⟩) (λq u=>u.elim);have hf:=hok.2.2.2.2.1.1 k f hk;obtain⟨h,n1⟩:=IF hv hf;obtain⟨v,v2⟩:=o3 _ h (by omega);rw[Nm hv h64 b hf,Ah,En (d:=Inf) h (by omega),Ah];refine⟨_,rfl,by have:=a.1;omega,by have:=a.2.1;have:gI Inf o (nm t.vars f)<=Inf:=v;omega,λc g hc=>?_⟩;rw[M4,hk];simp only[L8,Q8,M0,or_imp,forall_and,forall_eq];rw[<- a.2.2 c g hc,<- v2 c hc];exact Int.max_le
variable {x:Swp}(hx:ZM t x){U:List RxU}(hU:UnS t.vars U fun o e => o ∈ t.ops ∧ e ∈ o.effs){s a:List Int}(hs:StateOk t.vars s)(ha:ImS x s a)
include hx hU hs ha
omit h64 in
theorem Yf{c i:Int}(h:DvN U (SN t.vars s) c i):∀f,YU t.vars f->nm t.vars f=i->DvN U (SN t.vars a) c (nm t.vars (imF x f)):=by
  have hv:=LY hok
  induction h with
  |base hc hi =>
    intro f hf e;obtain⟨g,hg,hb,rfl⟩:=hi;obtain rfl:=PO hv hf hg e;exact .base hc ⟨_,Nh hok hx.1 hf,by rw[PI hok hx.1 hf hs ha];exact hb,rfl⟩
  |@op c c0 u hu r hn hc q =>
    intro f hf e;obtain⟨o,ef,⟨ho,he⟩,m1,m2,m3⟩:=hU.1 u hu;obtain⟨k,hk⟩:=H3 ho;obtain⟨o',p,b,h1,_,_,h3,h4,h5,h6⟩:=IY hx (Az hk);obtain rfl:o=o':=(by rw[hk]at h1;exact R1 h1);have j:=hok.2.2.2.2.2 k o hk;obtain⟨l,hef⟩:=HF j ef he;obtain rfl:=PO hv hf hef (e.trans m2);obtain⟨v,hu',q1,q2,q3⟩:=hU.2 p (imE x ef) ⟨H2 h3,by rw[<- h6];exact V8.2 ⟨ef,he,rfl⟩⟩;have:nm t.vars (imF x ⟨ef.var,ef.val⟩)=v.makes:=q2.symm;rw[this];refine .op hu' r (λn m=>?_) (by rw[q1,<- h4,<- m1];exact hc);obtain⟨g,hg,rfl⟩:=(q3 n).1 m;rw[<- h5]at hg;rcases hg with hg|hg
    . obtain⟨d,hg0,rfl⟩:=Hm.1 hg;exact q _ ((m3 _).2 ⟨d,.inl hg0,rfl⟩) d ((Ds j.2.2.2.2.1).1 d hg0) rfl
    . obtain⟨d,hg0,rfl⟩:=Hm.1 hg;exact q _ ((m3 _).2 ⟨d,.inr hg0,rfl⟩) d ((Ds l).1 d hg0) rfl
omit h64 in
theorem Yg{c i:Int}(h:DvN U (SN t.vars a) c i):∀f,YU t.vars f->nm t.vars (imF x f)=i->DvN U (SN t.vars s) c (nm t.vars f):=by
  have hv:=LY hok
  induction h with
  |base hc hi =>
    intro f hf e;obtain⟨g,hg,hb,rfl⟩:=hi;obtain rfl:=PO hv (Nh hok hx.1 hf) hg e;exact .base hc ⟨f,hf,by rw[<- PI hok hx.1 hf hs ha];exact hb,rfl⟩
  |@op c c0 u hu r hn hc v =>
    intro f hf e;obtain⟨p,ep,⟨hp,hep⟩,m1,m2,m3⟩:=hU.1 u hu;obtain⟨b,hb⟩:=H3 hp;obtain⟨k,hk,hk'⟩:=Hu hx.2.1 (Az hb);obtain⟨o,p',b',h1,h2,_,h3,h4,h5,h6⟩:=IY hx hk;obtain rfl:b=b':=(by rw[hk']at h2;have:=R1 h2;omega);obtain rfl:p=p':=(by rw[hb]at h3;exact R1 h3);have d:=hok.2.2.2.2.2 k o h1;rw[<- h6]at hep;obtain⟨q,he,rfl⟩:=V8.1 hep;obtain⟨j,hef⟩:=HF d q he;obtain rfl:=NJ hok hx.1 hf hef (PO hv (Nh hok hx.1 hf) (Nh hok hx.1 hef) (e.trans m2));obtain⟨w,hu',q1,q2,q3⟩:=hU.2 o q ⟨H2 h1,he⟩;rw[<- q2];refine .op hu' r (λn l=>?_) (by rw[q1,h4,<- m1];exact hc);obtain⟨g,hg,rfl⟩:=(q3 n).1 l;have m:YU t.vars g:=hg.elim ((Ds d.2.2.2.2.1).1 g) ((Ds j).1 g);exact v _ ((m3 _).2 ⟨imF x g,hg.imp (λh=>by rw[<- h5];exact Hm.2 ⟨g,h,rfl⟩) (λh=>Hm.2 ⟨g,h,rfl⟩),rfl⟩) g m rfl
end
theorem Yh{t:Tsk}(hok:TaskOk t)(h64:vsm t.vars<=1000){x:Swp}(hx:ZM t x){r:Rlx}(hr:RxOk r)(b:r.first=ZA t.vars)(d:r.facts=vsm t.vars)(i:r.t=⟨t.vars,[],t.goal,[]⟩)(hU:UnS t.vars r.unary λo e=>o∈t.ops/\e∈o.effs){s a:List Int}(hs:StateOk t.vars s)(ha:ImS x s a):∃m,Da r s=some m/\Da r a=some m:=by
  obtain⟨m,m1,m2,m3,m4⟩:=Vh hok h64 hr b d i hs;obtain⟨n,n1,n2,n3,n4⟩:=Vh hok h64 hr b d i (Ni hx.1 hs ha);have e:∀c,0<=c->c<Inf->(m<=c↔n<=c):=λc j hc=>by
    rw[m4 c j hc,n4 c j hc];constructor
    . intro h f hf;rw[<- hx.2.2.1]at hf;obtain⟨g,hg,rfl⟩:=Hm.1 hf;exact Yf hok hx hU hs ha (h g hg) g ((Ds hok.2.2.2.2.1).1 g hg) rfl
    . intro h f hf;exact Yg hok hx hU hs ha (h (imF x f) (by rw[<- hx.2.2.1];exact Hm.2 ⟨f,hf,rfl⟩)) f ((Ds hok.2.2.2.2.1).1 f hf) rfl
  have:m=n:=by
    rcases Int.lt_trichotomy m n with h|h|h
    . have:=(e m m2 (by omega)).1 (W5 _);omega
    . exact h
    . have:=(e n n2 (by omega)).2 (W5 _);omega
  exact⟨m,m1,this▸n1⟩
end
section
open Go Go.RowKit
def MkL(vars:List Int)(u:LmU)(o:Opr)(e:Eff):Prop:=u.makes=nm vars ⟨e.var,e.val⟩/\∀n,n∈u.needs↔∃g,(g∈o.pre\/g∈e.cond)/\nm vars g=n
def UlS(vars:List Int)(U:List LmU)(P:Nat->Opr->Eff->Prop):Prop:=(∀u∈U,∃k o e,P k o e/\u.op=(k:Int)/\MkL vars u o e)/\∀k o e,P k o e->∃u∈U,u.op=(k:Int)/\MkL vars u o e
section
variable {vars:List Int}(hv:∀ x ∈ vars, 0 ≤ x)(h64:vsm vars ≤ 1000)
include hv h64
theorem Qq{h:Lmc}(c:h.first=ZA vars){l:List Fct}(hl:FactsOk vars l)(d:l.length<=64):CX h l=some (l.map (nm vars)):=by
  unfold CX;rw[Gh (λk=>(l.take k).map (nm vars)) (by simp) λk f hk=>?_]
  . rw[Ah,Bw,Q3]
  . obtain⟨a,b⟩:=OV hv h64 (hl.1 k f hk);have:((l.take k).map (nm vars)).length<=64:=(by rw[R9,P9];omega);rw[c,a,Ah,b,Ah,Cg (by simp;omega) (by simp;omega),Ah,M4,hk];simp
theorem Yi{t:Tsk}(hok:TaskOk t)(C:t.ops.length≤8)(e:t.vars=vars):∃h,HH t=some (some h,⟨0⟩)∧h.vars=vars∧h.first=ZA vars∧h.facts=vsm vars∧h.goal=t.goal.map (nm vars)∧h.costs=t.ops.map (·.cost)∧h.list.length≤1000∧UlS vars h.list λk o e=>t.ops[k]?=some o∧e∈o.effs:=by
  have v:∃q,HH t=some q/\∃h,q=(some h,⟨0⟩)/\h.vars=vars/\h.first=ZA vars/\h.facts=vsm vars/\h.goal=t.goal.map (nm vars)/\h.costs=t.ops.map (·.cost)/\h.list.length<=1000/\UlS vars h.list λk o e=>t.ops[k]?=some o/\e∈o.effs:=by
    have E:=hok.1;have y:=Ht hok hok.2.2.2.2.1;have K:=HB hv;subst e;unfold HH Cz;rw[FH.2 hok,Ah,if_neg (λh=>h rfl),Na (by omega),Ah];rw[Gh (λk=>(⟨t.vars,(ZA t.vars).take k,vsm (t.vars.take k),[],[],[]⟩:Lmc)) (by simp[vsm]) λk n hk=>?_]
    rotate_left
    . have g:=Az hk;have c:=LX hv (show k+1<=t.vars.length from g);rw[Ie hk,Q3]at c;have b:=HB (l:=t.vars.take k) λx F=>hv x (H9 F);have p:=hv n (H2 hk);have L:((ZA t.vars).take k).length<=64:=(by rw[P9];omega);rw[Cg (by simp;omega) (by simp;omega),Ah,BQ (by dsimp only;unfold X2;omega),Ah,M4 (l:=ZA t.vars),If g,Ie hk];rfl
    rw[Ah,Bw,Q3,show(ZA t.vars).take t.vars.length=ZA t.vars from E8 (by simp[ZA])];rw[Qq hv h64 rfl hok.2.2.2.2.1 y,Ah];have grow:∀{U:List LmU}{P:Nat->Opr->Eff->Prop}{u:LmU} {k o e},UlS t.vars U P->u.op=((k:Nat):Int)->MkL t.vars u o e->UlS t.vars (U++[u]) λm o' f=>P m o' f\/(m=k/\o'=o/\f=e):=λ{U P u k o e} h hk hm=>⟨λw hw=>by
      rcases Q8.1 hw with hw|hw
      . obtain⟨m,o',f,c,b⟩:=h.1 w hw;exact⟨m,o',f,.inl c,b⟩
      . obtain rfl:=M0.1 hw;exact⟨k,o,e,.inr ⟨rfl,rfl,rfl⟩,hk,hm⟩,λm o' f c=>by
      rcases c with c|⟨rfl,rfl,rfl⟩
      . obtain⟨w,hw,b⟩:=h.2 m o' f c;exact⟨w,H0 _ hw,b⟩
      . exact⟨u,by simp,hk,hm⟩⟩
    refine Cr (λk(h:Lmc)=>(h.vars=t.vars/\h.first=ZA t.vars/\h.facts=vsm t.vars/\h.goal=t.goal.map (nm t.vars))/\h.costs=(t.ops.take k).map (·.cost)/\h.list.length<=64*k/\UlS t.vars h.list λi o e=>i<k/\t.ops[i]?=some o/\e∈o.effs) (λ_=>False) ⟨⟨rfl,rfl,rfl,rfl⟩,rfl,W3 _,λu hu=>by simp at hu,λi o e h=>absurd h.1 (by omega)⟩ (λk o h hk a=>.inl ?_) (λh a=>⟨_,rfl,h,rfl,a.1.1,a.1.2.1,a.1.2.2.1,a.1.2.2.2,by rw[a.2.1,Q3],by omega,?_⟩) (λq z=>z.elim)
    . have g:=Az hk;have d:=hok.2.2.2.2.2 k o hk;have A:=Ht hok d.2.2.2.2.1;obtain⟨G,I2,I3,I4⟩:=a;have r:h.costs.length<=8:=(by rw[I2,R9,P9];omega);rw[Cg (by simp;omega) (by simp;omega),Ah];have B:h.costs++[o.cost]=(t.ops.take (k+1)).map (·.cost):=(by rw[I2,M4,hk];simp);refine JX ?_;refine Cr (λj(h:Lmc)=>(h.vars=t.vars/\h.first=ZA t.vars/\h.facts=vsm t.vars/\h.goal=t.goal.map (nm t.vars))/\h.costs=(t.ops.take (k+1)).map (·.cost)/\h.list.length<=64*k+j/\UlS t.vars h.list λi o' e=>(i<k/\t.ops[i]?=some o'/\e∈o'.effs)\/(i=k/\o'=o/\e∈o.effs.take j)) (λ_=>False) ⟨G,B,I3,by simpa using I4⟩ (λj e h hj a=>.inl ?_) (λh a=>⟨_,rfl,_,rfl,a.1,a.2.1,by have:=a.2.2.1;have:=d.2.2.1;omega,?_⟩) (λq z=>z.elim)
      . obtain⟨⟨H,r2,r3,r4⟩,I2,I3,I4⟩:=a;have I:=Az hj;obtain⟨s,hef⟩:=d.2.2.2.2.2 j e hj;have r:=Ht hok s;have J:=d.2.2.1;obtain⟨D,a2⟩:=OV hv h64 hef;rw[Qq hv h64 r2 d.2.2.2.2.1 A,Ah,Qq hv h64 r2 s r,Ah,Cg (by simp;omega) (by simp;omega),Ah];unfold EJ DT;dsimp only at D a2;rw[if_pos (by simp;omega),Ah,r2,D,Ah,a2,Ah,Ah,Cg (by simp;omega) (by simp;omega),Ah];refine⟨_,rfl,⟨H,rfl,r3,r4⟩,I2,by simp;omega,?_⟩;have:=grow I4 (u:=⟨(k:Int),nm t.vars ⟨e.var,e.val⟩,Zm (ZY (o.pre.map (nm t.vars)++e.cond.map (nm t.vars)))⟩) (k:=k) (o:=o) (e:=e) rfl ⟨rfl,λn=>by
          rw[(Vf (MW _)).2,(Py _).mem_iff,Q8,V8,V8];simp only[or_and_right,exists_or]⟩
        refine cast (congrArg _ (funext λi=>funext λo'=>funext λf=>propext ?_)) this;rw[M4,hj,or_assoc];simp only[L8,Q8,M0,and_or_left]
      . refine cast (congrArg _ (funext λi=>funext λo'=>funext λf=>propext ?_)) a.2.2.2;rw[Q3];constructor
        . rintro(⟨c,b⟩|⟨rfl,rfl,p⟩)
          . exact⟨by omega,b⟩
          . exact⟨by omega,hk,p⟩
        . rintro⟨c,b,p⟩;by_cases e:i=k
          . subst e;rw[hk]at b;obtain rfl:=R1 b;exact .inr ⟨rfl,rfl,p⟩
          . exact .inl ⟨by omega,b,p⟩
    . refine cast (congrArg _ (funext λi=>funext λo'=>funext λf=>propext ?_)) a.2.2.2;exact⟨λh=>h.2,λh=>⟨Az h.1,h⟩⟩
  obtain⟨q,c,h,rfl,b⟩:=v;exact⟨h,c,b⟩
end
inductive Wk(t:Tsk)(cs:List Int):List Int->Int->Prop
  |goal {s:List Int} (h:YV t.goal s=true):Wk t cs s 0
  |step {s:List Int} {k:Nat} {o:Opr} {c:Int} (ho:t.ops[k]?=some o) (hp:YV o.pre s=true) (h:Wk t cs (succ o s) c):Wk t cs s (gI 0 cs k+c)
theorem Wk.of{t:Tsk}{s:List Int}{c:Int}(h:Walk t s c):Wk t (t.ops.map (·.cost)) s c:=by
  induction h with
  |goal h=>exact .goal h
  |@step s k o c a b h d =>
    have:=Wk.step a b d;rwa[show gI 0 (t.ops.map (·.cost)) k=o.cost from LW (by rw[M9,a];rfl),Int.add_comm]at this
theorem TD{s:List Int}{f:Fct}:∀(j:List Eff)(y:List Int),(∀e∈j,0≤e.var)→hasB (effsOn s j y) f=true→hasB y f=true∨∃e∈j,YV e.cond s=true∧f=⟨e.var,e.val⟩
  |[],_,_,h=>.inl h
  |e  :: j, y,hn,h=>by
    rw[effsOn]at h;rcases TD j _ (λb c=>hn b (H1 _ c)) h with h|⟨b,d,a⟩
    . by_cases hc:YV e.cond s=true
      . rw[if_pos hc]at h;by_cases hv:e.var.toNat=f.var.toNat
        . refine .inr ⟨e,L0,hc,?_⟩;unfold hasB at h;rw[P6,decide_eq_true_eq,decide_eq_true_eq,hv,List.getElem?_set_self']at h;obtain⟨d,a⟩:=h;have i:=hn e L0;cases g:y[f.var.toNat]? with
          |none=>rw[g]at a;cases a
          |some z =>
            rw[g]at a;have:=R1 a;cases f;simp only[Fct.mk.injEq]at *
            exact⟨by omega,this.symm⟩
        . unfold hasB at h ⊢;rw[H7 hv]at h;exact .inl h
      . rw[if_neg hc]at h;exact .inl h
    . exact .inr ⟨b,H1 _ d,a⟩
section
variable {t:Tsk}(hok:TaskOk t){U:List LmU}(hU:UlS t.vars U fun k o e => t.ops[k]? = some o ∧ e ∈ o.effs)
include hok
omit hok in
theorem MA{l:List Fct}{s:List Int}(hl:FactsOk t.vars l)(h:YV l s=true):∀f∈l,SN t.vars s (nm t.vars f):=λf hf=>by
  unfold YV at h;rw[P7]at h;exact⟨f,(Ds hl).1 f hf,h f hf,rfl⟩
include hU
theorem TE{s:List Int}{k:Nat}{o:Opr}(b:t.ops[k]?=some o)(c:YV o.pre s=true){i:Int}(h:SN t.vars (succ o s) i):SN t.vars s i\/∃u∈U,u.op=(k:Int)/\u.makes=i/\∀n∈u.needs,SN t.vars s n:=by
  obtain⟨f,hf,hb,rfl⟩:=h;have a:=hok.2.2.2.2.2 k o b;unfold succ at hb;rcases TD o.effs s (λe he=>(HF a e he).2.1) hb with h|⟨e,h1,h2,rfl⟩
  . exact .inl ⟨f,hf,h,rfl⟩
  . obtain⟨u,hu,u1,u2,u3⟩:=hU.2 k o e ⟨b,h1⟩;refine .inr ⟨u,hu,u1,u2,λn hn=>?_⟩;obtain⟨g,hg,rfl⟩:=(u3 n).1 hn;exact hg.elim (MA a.2.2.2.2.1 c g) (MA (HF a e h1).1 h2 g)
theorem Yj{cs cs' O:List Int}{m:Int}{x:Int→Prop}(p:Abf U (λu=>¬u.op∈O) x)(e:∃g∈t.goal.map (nm t.vars),¬x g)(j:∀k:Nat,k<t.ops.length→gI 0 cs' k≤gI 0 cs k)(q:∀k:Nat,k<t.ops.length→(k:Int)∈O→gI 0 cs' k+m≤gI 0 cs k){s:List Int}{c:Int}(r:Wk t cs s c):(∃a,Wk t cs' s a∧a≤c)∧(StateOk t.vars s→(∀i,SN t.vars s i→x i)→∃a,Wk t cs' s a∧m+a≤c):=by
  induction r with
  |goal h =>
    refine⟨⟨0,.goal h,W5 _⟩,λ_ hz=>?_⟩;obtain⟨g,e,hn⟩:=e;obtain⟨f,hf,rfl⟩:=V8.1 e;exact absurd (hz _ (MA hok.2.2.2.2.1 h f hf)) hn
  |@step s k o c b d _ v =>
    obtain⟨⟨w,c2,c3⟩,ih2⟩:=v;have hk:=Az b;refine⟨⟨_,.step b d c2,by have:=j k hk;omega⟩,λhs hz=>?_⟩;by_cases l:(k:Int)∈O
    . exact⟨_,.step b d c2,by have:=q k hk l;omega⟩
    . obtain⟨a,w1,w2⟩:=ih2 (NE hok hs b) λi hi=>by
        rcases TE hok hU b d hi with h|⟨u,hu,u1,u2,u3⟩
        . exact hz i h
        . rw[<- u2];exact p u hu (show¬u.op∈O by rw[u1];exact l) λn hn=>hz n (u3 n hn)
      exact⟨_,.step b d w1,by have:=j k hk;omega⟩
theorem Vi{F:Nat}{cs vs:List Int}(hr:∀u∈U,∀n∈u.needs,0≤n∧n<F)(b:vs.length=F)(j:VaF U cs vs)(hc:∀k:Nat,k<t.ops.length→0≤gI 0 cs k){s:List Int}{c:Int}(l:Wk t cs s c):0≤c∧∀a,0≤a→(∀i,SN t.vars s i→ov vs i≤a)→a+c<Inf→∀f∈t.goal,ov vs (nm t.vars f)≤a+c:=by
  induction l with
  |goal h=>exact⟨W5 _,λa _ hz _ f hf=>by have:=hz _ (MA hok.2.2.2.2.1 h f hf);omega⟩
  |@step  s k o c e p _ d =>
    have hk:=hc k (Az e);refine⟨by have:=d.1;omega,λa q hz hlt f hf=>?_⟩;have:=d.2 (a+gI 0 cs k) (by omega) (λi hi=>?_) (by omega) f hf
    . omega
    . rcases TE hok hU e p hi with h|⟨u,hu,u1,u2,u3⟩
      . have:=hz i h;omega
      . obtain⟨m,_,hm⟩:=Ku (hr u hu) b;have r:m<=a:=by
          rcases hm with⟨_,rfl⟩|⟨⟨g,g1,rfl⟩,_⟩
          . exact q
          . exact hz g (u3 g g1)
        have:=d.1;have:=j u hu m hm (by omega);rw[u1,u2]at this;omega
def smC(l:List Cut):Int:=vsm (l.map (·.cost))
theorem Wt(v0:t.ops.length≤8)(h64:vsm t.vars≤1000){h:Lmc}(h0:h.vars=t.vars)(h1:h.first=ZA t.vars)(h2:h.facts=vsm t.vars)(h3:h.goal=t.goal.map (nm t.vars))(h4:h.costs=t.ops.map (·.cost))(h5:h.list=U)(p0:U.length≤1000){s:List Int}(hs:StateOk t.vars s):∃v,Et h s=some v∧v≤Inf∧∀c,Walk t s c→c<Inf→v≤c:=by
  have hv:=LY hok;have iv:Inf=1125899906842624:=rfl;obtain⟨F,hF⟩:∃F:Nat,vsm t.vars=F:=⟨(vsm t.vars).toNat,by have:=HB hv;omega⟩;have A:∀u∈U,(0<=u.op/\u.op<t.ops.length)/\(0<=u.makes/\u.makes<F)/\∀n∈u.needs,0<=n/\n<F:=λu hu=>by
    obtain⟨k,o,e,⟨J,he⟩,u1,u2,u3⟩:=hU.1 u hu;have K:=hok.2.2.2.2.2 k o J;have hk:=Az J;rw[u1,u2,<- hF];refine⟨by omega,IF hv (HF K e he).2,λn hn=>?_⟩;obtain⟨g,hg,rfl⟩:=(u3 n).1 hn;exact IF hv (hg.elim ((Ds K.2.2.2.2.1).1 g) ((Ds (HF K e he).1).1 g))
  have B:∀g∈h.goal,0<=g/\g<F:=λg hg=>by
    rw[h3]at hg;obtain⟨f,hf,rfl⟩:=V8.1 hg;rw[<- hF];exact IF hv ((Ds hok.2.2.2.2.1).1 f hf)
  have T:∀(k:Nat) x,s[k]?=some x->∃n,t.vars[k]?=some n/\YU t.vars ⟨k,x⟩/\vsm (t.vars.take k)+x=nm t.vars ⟨k,x⟩:=λk x hk=>by
    obtain⟨n,hn⟩:=AG (l:=t.vars) (k:=k) (by rw[<- hs.1];exact Az hk);have j:=hs.2 k x n hk hn;exact⟨n,hn,⟨by dsimp only;omega,j.1,n,by rw[N1];exact hn,j.2⟩,by unfold nm;dsimp only;rw[N1]⟩
  have V:∀(k:Nat) x,s[k]?=some x->∃a,h.first[k]?=some a/\0<=a+x/\a+x<F:=λk x hk=>by
    obtain⟨n,hn,hf,e⟩:=T k x hk;refine⟨_,by rw[h1];exact If (Az hn),?_⟩;rw[e,<- hF];exact IF hv hf
  have W:∀i,SN t.vars s i↔∃(k:Nat) (x a:Int),s[k]?=some x/\h.first[k]?=some a/\i=a+x:=λi=>by
    constructor
    . rintro⟨f,hf,hb,e⟩;unfold hasB at hb;rw[P6,decide_eq_true_eq,decide_eq_true_eq]at hb;obtain⟨_,_,n,hn,_⟩:=hf;exact⟨f.var.toNat,f.val,_,hb.2,by rw[h1];exact If (Az hn),e⟩
    . rintro⟨k,x,a,hk,ha,rfl⟩;obtain⟨n,hn,hf,e⟩:=T k x hk;rw[h1,If (Az hn)]at ha;rw[<- R1 ha,e];exact⟨_,hf,QU hk,rfl⟩
  obtain⟨b,hcs0⟩:∃b,b=t.ops.map (·.cost):=⟨_,rfl⟩;have X:∀i:Int,0<=i->i<t.ops.length->0<=gI 0 b i/\gI 0 b i<=1048576:=λi L i1=>by
    obtain⟨k,rfl⟩:=E3 L;obtain⟨o,J⟩:=AG (l:=t.ops) (k:=k) (by omega);have:=hok.2.2.2.2.2 k o J;rw[hcs0,show gI 0 (t.ops.map (·.cost)) k=o.cost from LW (by rw[M9,J];rfl)];exact⟨this.1,this.2.1⟩
  have Y:b.length=t.ops.length:=(by rw[hcs0,R9]);have a0:∀{cs:List Int},cs.length=t.ops.length->(∀i:Int,0<=i->i<t.ops.length->0<=gI 0 cs i/\gI 0 cs i<=1048576)->0<=vsm cs:=λ{cs} hl h=>HB λx j=>by
    obtain⟨k,hk⟩:=H3 j;have:=(h k (by omega) (by have:=Az hk;omega)).1;rwa[show gI 0 cs k=x from LW hk]at this
  have w0:vsm b<=8388608:=by
    have q0:∀l:List Int,(∀x∈l,x<=1048576)->vsm l<=(l.length:Int)*1048576:=by
      intro l
      induction l with
      |nil=>intro _;exact W5 _
      |cons x l ih =>
        intro h;have:=ih λy G=>h y (H1 _ G);have:=h x L0;simp only[vsm,P3];omega
    have:=q0 b λx j=>by
      obtain⟨k,hk⟩:=H3 j;have:=(X k (by omega) (by have:=Az hk;omega)).2;rwa[show gI 0 b k=x from LW hk]at this
    omega
  unfold Et FR EN;rw[h0,BI hs,Ah,BA,h4,Na (by simp;omega),Ah,<- hcs0];have fin:∃q,(bnd (lop (ρ:=(List Cut)×Err) (λ(p:(List Int)×(List Cut))=>bnd (Du h s p.1) λb0=>bnd (EF h.goal b0) λc0=>if c0=1125899906842624 then(some (.ret (([]:List Cut),(⟨3⟩:Err))))else(if c0=0 then(some (.ret (p.2,(⟨0⟩:Err))))else(bnd (DW h s p.1 b0) λM=>bnd (rng (ρ:=Ctl ((List Int)×(List Cut)) ((List Cut)×Err)) (λ(b1:Nat)(r0:Int)(s0:Int)=>bnd (atI p.1 r0) λd0=>some (.next (min s0 d0))) M 0 1048576) λN=>fin N λ(H:Int)=>bnd (rng (ρ:=Ctl ((List Int)×(List Cut)) ((List Cut)×Err)) (λ(x0:Nat)(r:Int)(w:(List Int))=>bnd (atI w r) λe0=>bnd (X7 (e0-H)) λf0=>bnd (atI w r) λy0=>some (.next (w.set (r:Int).toNat f0))) M 0 p.1) λC=>fin C λ(g0:(List Int))=>bnd (Y0 32 p.2 [(⟨M,H⟩:Cut)]) λj0=>some (.next (g0,j0))))) (b,([]:List Cut))) λP=>fin P λ(_:(List Int)×(List Cut))=>none)=some q/\((q.2.n≠0/\∀c,Wk t b s c->¬c<Inf)\/(q.2.n=0/\(∀x∈q.1,0<=x.cost)/\smC q.1<=8388608/\∀c,Wk t b s c->c<Inf->smC q.1<=c)):=by
    refine IA (λq:List Int×List Cut=>q.1.length=t.ops.length/\(∀i:Int,0<=i->i<t.ops.length->0<=gI 0 q.1 i/\gI 0 q.1 i<=1048576)/\(∀x∈q.2,0<=x.cost)/\(q.2.length:Int)<=smC q.2/\smC q.2+vsm q.1<=vsm b/\∀c,Wk t b s c->c<Inf->∃R,Wk t q.1 s R/\smC q.2+R<=c) (λ_=>False) (λq=>(q.2.n≠0/\∀c,Wk t b s c->¬c<Inf)\/(q.2.n=0/\(∀x∈q.1,0<=x.cost)/\smC q.1<=8388608/\∀c,Wk t b s c->c<Inf->smC q.1<=c)) (λq=>(vsm q.1).toNat) ⟨Y,X,λx j=>by simp at j,W5 _,by simp[smC,vsm],λc hc _=>⟨c,hc,by simp[smC,vsm]⟩⟩ (λq D=>?_) (λq D=>D.elim) (λq D=>⟨_,rfl,D⟩);obtain⟨cs,cuts⟩:=q;obtain⟨I1,I2,I3,I4,I5,I6⟩:=D;dsimp only at I1 I2 I3 I4 I5 I6 ⊢;have k0:∀k:Nat,k<t.ops.length->0<=gI 0 cs k:=λk hk=>(I2 k (by omega) (by omega)).1;obtain⟨vs,v1,v2,v3⟩:=Xi A I1 I2 (S:=SN t.vars s) (h:=h) (by rw[h2,hF]) (by omega) h5 V W;obtain⟨n,n1,n2⟩:=Ku B v2.1.1;rw[v1,Ah,n1,Ah];have n0:0<=n/\n<=Inf:=by
      rcases n2 with⟨_,rfl⟩|⟨⟨g,g1,rfl⟩,_⟩
      . exact⟨W5 _,by decide⟩
      . exact v2.2.1 g (B g g1).1 (B g g1).2
    have wv:∀c,Wk t cs s c->0<=c:=λc hc=>(Vi hok hU (λu hu=>(A u hu).2.2) v2.1.1 v3 k0 hc).1;have c1:smC cuts<=8388608:=(by have:=a0 I1 I2;omega);have c2:0<=smC cuts:=HB λx j=>by
      obtain⟨y,G,rfl⟩:=V8.1 j;exact I3 y G
    by_cases hi:n=1125899906842624
    . rw[if_pos hi];refine .inr (.inr ⟨_,rfl,.inl ⟨by decide,λc hc hlt=>?_⟩⟩);obtain⟨R,w1,w2⟩:=I6 c hc hlt;obtain⟨w3,w4⟩:=Vi hok hU (λu hu=>(A u hu).2.2) v2.1.1 v3 k0 w1;have hz:=w4 0 (W5 _) (λi hi=>by rw[v2.2.2.1 i hi];exact W5 _) (by omega);rcases n2 with⟨_,rfl⟩|⟨⟨g,g1,g2⟩,_⟩
      . cases hi
      . rw[h3]at g1;obtain⟨f,hf,rfl⟩:=V8.1 g1;have:=hz f hf;omega
    . rw[if_neg hi];by_cases hz:n=0
      . rw[if_pos hz];refine .inr (.inr ⟨_,rfl,.inr ⟨rfl,I3,c1,λc hc hlt=>?_⟩⟩);obtain⟨R,w1,w2⟩:=I6 c hc hlt;have:=wv R w1;dsimp only;omega
      . obtain⟨O,o1,o2,o3,o4,Z,z1,z2,z3⟩:=Ye A p0 I1 I2 (S:=SN t.vars s) (h:=h) (by rw[h2,hF]) (by omega) h5 V W v2 v3 B n2 (by omega) (by omega);rw[if_neg hz,o1,Ah];refine .inl ?_;refine KO ?_;refine Cr (λk(m:Int)=>0<m/\m<=1048576/\∀o∈O.take k,m<=gI 0 cs o) (λ_=>False) ⟨by decide,W5 _,λo J=>by simp at J⟩ (λk o m hk hI=>.inl ?_) (λm hm=>?_) (λq D=>D.elim)
        . obtain⟨E,a2⟩:=o4 o (H2 hk);rw[En (d:=0) E.1 (by omega),Ah];refine⟨_,rfl,by have:=hI.1;omega,by have:=hI.2.1;omega,λo' l0=>?_⟩;rw[M4,hk]at l0;rcases Q8.1 l0 with h|h
          . have:=hI.2.2 o' h;omega
          . obtain rfl:o'=o:=(by simpa using h);omega
        obtain⟨m1,m2,m3⟩:=hm;rw[Q3]at m3;rw[Bw];refine Cr (λk(I:List Int)=>I.length=t.ops.length/\(∀i:Int,0<=i->gI 0 I i=if i∈O.take k then gI 0 cs i-m else gI 0 cs i)/\vsm I+m*k=vsm cs) (λ_=>False) ⟨I1,λi _=>by simp,by simp⟩ (λk o I hk hI=>.inl ?_) (λI hd=>?_) (λq D=>D.elim)
        . obtain⟨J1,J2,J3⟩:=hI;have m0:=H2 hk;obtain⟨E,a2⟩:=o4 o m0;have t0:¬o∈O.take k:=λh=>by
            obtain⟨i,hi⟩:=H3 h;have u0:=Az hi;rw[P9]at u0;rw[D8 (by omega)]at hi;obtain⟨h1,e1⟩:=C1.1 hi;obtain⟨h2,e2⟩:=C1.1 hk;have:=(Q6 o2).1 (e1.trans e2.symm);omega
          have z:=J2 o E.1;rw[if_neg t0]at z;have f1:=I2 o E.1 E.2;have j1:=m3 o m0;rw[En (d:=0) E.1 (by omega),Ah,z,BQ (by unfold X2;omega),Ah,Ah];refine⟨_,rfl,by rw[R6];exact J1,λi L=>?_,?_⟩
          . rw[Gl E.1 (by omega) L,M4,hk];simp only[L8,Q8,M0];by_cases e:i=o
            . subst e;rw[if_pos rfl,if_pos (.inr rfl)]
            . rw[if_neg e,J2 i L];simp only[e,or_false]
          . rw[Qp E.1 (by omega) 0,z,<- J3];have:m*((k+1:Nat):Int)=m*k+m:=(by rw[Int.natCast_add,Int.mul_add];simp);rw[this];omega
        obtain⟨J1,J2,J3⟩:=hd;rw[Q3]at J2;have k1:1<=O.length:=by
          cases O with
          |nil=>exact absurd rfl o3
          |cons a l=>simp
        have z0:m<=m*(O.length:Int):=by
          have:=Int.mul_le_mul_of_nonneg_left (show(1:Int)<=(O.length:Int)by omega) (W0 m1);omega
        have J5:∀i:Int,0<=i->i<t.ops.length->0<=gI 0 I i/\gI 0 I i<=1048576:=λi L i1=>by
          rw[J2 i L];have:=I2 i L i1;split
          . rename_i hm;have:=m3 i hm;omega
          . exact this
        have Q:smC (cuts++[⟨O,m⟩])=smC cuts+m:=by
          unfold smC;rw[S8,NK];simp[vsm]
        have l1:=a0 J1 J5;rw[Bw,Cg (by simp;omega) (by simp;omega),Ah];refine⟨_,rfl,_,rfl,⟨J1,J5,λx j=>?_,?_,?_,λc hc hlt=>?_⟩,?_⟩
        . rcases Q8.1 j with h|h
          . exact I3 x h
          . obtain rfl:=M0.1 h;exact W0 m1
        . dsimp only;rw[Q,K4,G1];omega
        . dsimp only;rw[Q];omega
        . dsimp only;obtain⟨R,w1,w2⟩:=I6 c hc hlt;obtain⟨d,d1,d2⟩:=(Yj hok hU (cs':=I) (m:=m) z3 (by rw[<- h3];exact z2) (λk hk=>by
            rw[J2 k (by omega)];split<;>omega) (λk hk hO=>by rw[J2 k (by omega),if_pos hO];omega) w1).2 hs z1
          exact⟨d,d1,by rw[Q];omega⟩
        . dsimp only;omega
  obtain⟨q,q1,q2⟩:=fin;rw[q1,Ah];have wk:∀c,Walk t s c->Wk t b s c:=λc hc=>(by rw[hcs0];exact Wk.of hc);rcases q2 with⟨q2,q3⟩|⟨q2,q3,q4,q5⟩
  . rw[if_pos q2];exact⟨_,rfl,W5 _,λc hc hlt=>absurd hlt (q3 c (wk c hc))⟩
  . rw[if_neg (by omega)];have o0:∀x∈q.1.map (·.cost),0<=x:=λx j=>by
      obtain⟨y,G,rfl⟩:=V8.1 j;exact q3 y G
    rw[Gh (λk=>smC (q.1.take k)) (by simp[smC,vsm]) λk x hk=>?_]
    . rw[Ah,Bw,Q3];exact⟨_,rfl,by omega,λc hc hlt=>q5 c (wk c hc) hlt⟩
    . have e1:smC (q.1.take (k+1))=smC (q.1.take k)+x.cost:=by
        unfold smC;rw[U1,U1,Ie (by rw[M9,hk];rfl)]
      have E:0<=smC (q.1.take k):=HB λy G=>(by rw[U1]at G;exact o0 y (H9 G));have a2:smC (q.1.take (k+1))<=smC q.1:=by
        have:=LX o0 (show k+1<=(q.1.map (·.cost)).length by rw[R9];exact Az hk);rw[Q3,<- U1]at this;exact this
      have a3:=q3 x (H2 hk);rw[BQ (by unfold X2;omega),Ah,e1]
end
end
section
open Go Go.RowKit
theorem Vj(t:Tsk):∃b,IE t=some b∧(b=true→SmallOk t∧∀n∈t.vars,2≤n∧n≤4):=by
  unfold IE KK;by_cases hs:SmallOk t
  case neg=>rw[Bb hs,Ah,BT];exact⟨false,rfl,λh=>by cases h⟩
  rw[BI hs,Ah,BA];refine Cr (λk _=>∀n∈t.vars.take k,2<=n/\n<=4) (λq=>q=false) (λn hn=>by simp at hn) (λk n s hk g=>?_) (λs g=>?_) (λq u=>⟨_,rfl,λh=>by rw[u]at h;cases h⟩)
  . by_cases v:n<2
    . rw[if_pos v,Ah,BA];exact .inr ⟨_,rfl,rfl⟩
    . rw[if_neg v];by_cases i:4<n
      . rw[if_pos i,Ah,BA];exact .inr ⟨_,rfl,rfl⟩
      . rw[if_neg i,Ah,BT];refine .inl ⟨_,rfl,λm hm=>?_⟩;rw[M4,hk]at hm;rcases Q8.1 hm with h|h
        . exact g m h
        . obtain rfl:m=n:=(by simpa using h);omega
  rw[Q3]at g;rw[Bw];refine Cr (λ_ _=>True) (λ_=>True) trivial (λk o s hk _=>?_) (λs _=>⟨_,rfl,λ_=>⟨hs,g⟩⟩) (λq _=>⟨_,rfl,λ_=>⟨hs,g⟩⟩);have hl:=(hs.ok.2.2.2.2.2 k o hk).2.2.1;have:∃c,(bnd (rng (ρ:=Ctl Unit Bool) (λ(w:Nat)(d:Eff)(f:Int)=>if 2<(d.cond.length:Int)then(some (.ret (.ret false)))else(if 0<(d.cond.length:Int)then(bnd (X7 (f+1)) λl=>some (.next l))else(some (.next f)))) o.effs 0 0) λa=>fin a λ(p:Int)=>if 3<p then(some (.ret false))else(some (.next ())))=some c/\((∃x,c=Ctl.next x)\/∃q,c=Ctl.ret q):=by
    refine Cr (λj s=>0<=s/\s<=(j:Int)) (λc=>c=.ret false) ⟨by decide,by decide⟩ (λj e s hj y=>?_) (λs y=>?_) (λq u=>by subst u;exact⟨_,rfl,.inr ⟨_,rfl⟩⟩)
    . have:=Az hj;by_cases i:2<(e.cond.length:Int)
      . rw[if_pos i];exact .inr ⟨_,rfl,rfl⟩
      . rw[if_neg i];by_cases r:0<(e.cond.length:Int)
        . rw[if_pos r,BQ (by unfold X2;omega),Ah];exact .inl ⟨_,rfl,by omega,by omega⟩
        . rw[if_neg r];exact .inl ⟨_,rfl,by omega,by omega⟩
    . rw[Bw];by_cases r:3<s
      . rw[if_pos r];exact⟨_,rfl,.inr ⟨_,rfl⟩⟩
      . rw[if_neg r];exact⟨_,rfl,.inl ⟨_,rfl⟩⟩
  obtain⟨c,c1,⟨x,rfl⟩|⟨q,rfl⟩⟩:=this
  . exact .inl ⟨_,c1,trivial⟩
  . exact .inr ⟨_,c1,trivial⟩
theorem SD:∀(l:List Int)(a b:Nat),(∀x∈l,2<=x/\x<=4)->a ^ 3<=b ^ 5->(ZO (l.map (· + 1)) a) ^ 3<=(ZO l b) ^ 5
  |[],_,_,_,h=>h
  |x::l,a,b,hl,h=>by
    have d:=hl x L0;simp only[T7,ZO];refine SD l _ _ (λy c=>hl y (H1 _ c)) ?_;rw[Nat.mul_pow,Nat.mul_pow];have:x=2\/x=3\/x=4:=(by omega);refine Nat.mul_le_mul h ?_;rcases this with rfl|rfl|rfl<;>decide
theorem Aci{t:Tsk}(c:∀n∈t.vars,2<=n/\n<=4):∃r,ID t.vars 36=some r/\(r<=36->ZO t.vars 1<=36):=by
  unfold ID;refine Cr (λm s=>s=((statesL (t.vars.take m)).length:Int)/\s<=36) (λq=>q=37) ⟨by simp[statesL],by decide⟩ (λm n s hn a=>?_) (λs a=>?_) (λq e=>⟨_,rfl,λh=>by omega⟩)
  . obtain⟨rfl,a⟩:=a;have hb:=c n (H2 hn);have d:((statesL (t.vars.take (m+1))).length:Int)=((statesL (t.vars.take m)).length:Int)*n:=by
      rw[Ib hn,Aaa,Lj,R0,Int.toNat_of_nonneg (by omega)]
    have f:0<=((statesL (t.vars.take m)).length:Int)*n:=Int.mul_nonneg (by omega) (by omega);have g:((statesL (t.vars.take m)).length:Int)*n<=36*n:=Int.mul_le_mul_of_nonneg_right a (by omega);rw[show X7 ((36:Int)+1)=some 37 from rfl,Ah,show min (max n 0) 37=n from by omega,BQ (by unfold X2;omega),Ah];by_cases b:36<((statesL (t.vars.take m)).length:Int)*n
    . rw[if_pos b,Ah];exact .inr ⟨_,rfl,rfl⟩
    . rw[if_neg b];exact .inl ⟨_,rfl,d.symm,by omega⟩
  . obtain⟨rfl,a⟩:=a;rw[Q3,Lp]at a ⊢;exact⟨_,rfl,λ_=>by omega⟩
theorem Xk(t:Tsk)(x:Swp)(b:Int):GM t x b=some true:=by
  unfold GM;obtain⟨L,tm1,tm2⟩:=Vj t;have w:∀{f:Bool->Option Bool},f true=some true->bnd (some true) f=some true:=λh=>(by rw[Ah,h]);have E:(bnd (bnd DN λF=>if F=true then some true else some false:Option Bool) λG=>some G)=some true:=(by rw[Abr];rfl);rw[tm1,Ah];cases L with
  |false=>rw[BT];exact w (by rw[BA,E])
  |true =>
  obtain⟨hs,ht⟩:=tm2 rfl;have a:=hs.ok;rw[BA];by_cases B:8<(t.ops.length:Int)
  . rw[if_pos B];exact w (by rw[BA,E])
  obtain⟨m,mm1,mm2⟩:=Aci ht;rw[if_neg B,mm1,Ah];by_cases z:36<m
  . rw[if_pos z];exact w (by rw[BA,E])
  have z:=mm2 (by omega);rw[if_neg (by assumption),Abr,Ah,BA,Ah,BT,Sk,Ah];by_cases g:ZM t x
  case neg=>rw[Bb λh=>g h.2,BT]
  rw[BI ⟨a,g⟩,BA];have i:=hs.mid;have p:vsm t.vars<=1000:=by
    have H:∀l:List Int,(∀x∈l,2<=x/\x<=4)->vsm l<=(l.length:Int)*4:=by
      intro l
      induction l with
      |nil=>intro _;exact W5 _
      |cons x l M =>
        intro h;have:=M λy N=>h y (H1 _ N);have:=h x L0;simp only[vsm,P3];omega
    have:=H t.vars ht;have:=a.1;omega
  have I:ZW t.vars:=VR (by have:=hs.1;omega) a.2.2.1 (by
    have h:=SD t.vars 1 1 ht (W3 _);have O:(ZO t.vars 1) ^ 5<=36 ^ 5:=Nat.pow_le_pow_left z 5;refine Q4 λhlt=>?_;have P:1025 ^ 3<=(ZO (t.vars.map (· + 1)) 1) ^ 3:=Nat.pow_le_pow_left hlt 3;have:1025 ^ 3<=36 ^ 5:=V6 P (V6 h O);exact absurd this (by decide))
  have hv:=LY a;obtain⟨r,r1,r2,r3,r4,r5,r6⟩:=Yd hv p a (by omega) rfl;obtain⟨h,l1,l2,l3,l4,l5,l6,l7,l8⟩:=Yi hv p a (by omega) rfl;obtain⟨d,d1,d2⟩:=WU i;rw[r1,Ah,l1,Ah,if_neg (λh=>h rfl),if_neg (λh=>h rfl),Ah,BT,d1,Ah,KP i,Ah,Ah,Ah];rw[GF (λk s hk=>?_)]
  rotate_left
  . have o:=JN.1 (H2 hk);obtain⟨y,y1,y2⟩:=ON a g.1 o;have C:=Ni g.1 o y2;obtain⟨mx,m1,m2⟩:=Yh a p g r2 r3 r4 r5 r6 o y2;obtain⟨c,c1,c2,c3,c4,_⟩:=d2.1.2 k s hk;obtain⟨j,j1,j2⟩:=Qk i C;obtain⟨U,e1,A,e3,e4,_⟩:=d2.1.2 j y j2;obtain rfl:=Xb a g d2 o y2 hk j2 c1 e1;obtain⟨v,v1,v2,v3⟩:=Wt a l8 (by omega) p l2 l3 l4 l5 l6 rfl l7 C;have J:¬c<v:=by
      by_cases hc:c<Inf
      . have:=v3 c (e4 hc) hc;omega
      . omega
    rw[Sl a g o y1,Ah,if_neg (λh=>h rfl),m2,Ah,m1,Ah,if_neg (λh=>h rfl),c1,Ah,j1,Ah,BG,e1,Ah,if_neg (λh=>h rfl),Ah,v1,Ah,if_neg J,Ah,BT]
  rw[Ah,Bw];unfold JO;rw[Ah];obtain⟨q,q1,q2⟩:=VX (b:=max (-1) (min b 30)) a I (by omega) (by omega) (by omega);rw[q1,Ah,Ah];by_cases K:q.2.n≠0
  . rw[if_pos K]
  obtain⟨Q,b2⟩:=q2 (by omega);have u:=a.2.2.2.1;obtain⟨y,y1,y2⟩:=ON a g.1 u;rw[if_neg K,Sl a g u y1,Ah,if_neg (λh=>h rfl)];have R:=b2.len;rw[Gh (λk=>(q.1.nogoods.take k).map λn=>(⟨imL x n.facts,n.dist⟩:Ngd)) (by simp) λk n hk=>?_]
  rotate_left
  . have S:=Az hk;rw[Va a g.1 (b2.ng n (H2 hk)).1.1,Ah,Cg (by simp;omega) (by simp;omega),Ah,M4,hk];simp
  rw[Ah,Bw,Q3];obtain⟨T,u2⟩:=Xc a g I y2 b2;obtain⟨e,e1,A⟩:=US T I (by show t.ops.length<=8;omega) (by omega) (by omega) u2;dsimp only;rw[Q,e1,Ah];rcases A with A|⟨A,e3⟩
  . rw[if_pos A];rfl
  . rw[if_neg (by omega)];have D:Lg ⟨e.n⟩ 10=some true:=(by rw[A];rfl);rw[D,Ah,BA,if_pos (by omega)];rfl
end
section
open Go Go.RowKit Go.ChangeShapes Go.WideShapes Go.Deep
theorem Aa9{w:World}{a:Value}{b:Tsk}(g:V w a b){c:Value}{d:Swp}(i:V w c d){e:Value}{f:Int}(j:V w e f):Fn prog 3 [a,c,e] w λv w'=>v=.bool true/\Ext w w':=by
  obtain⟨rfl,r2⟩:=Vb.int j;exact(MM (λ_ h=>h) g i r2 (Xk b d f)).mono λ_ _ h=>⟨h.2.bool,h.1⟩
set_option maxRecDepth 100000 in
theorem MB(u:Os)(d:u.Started)(z:Type)(enc:TypeId×Value->z) :
    ReturnsInHanded {} checked u 3 .any (Rows.wholeSymmetrySpec.pre6 enc prog f3 Rows.wholeSymmetryRow.domain false) (Rows.wholeSymmetrySpec.post enc prog f3 false true false false):=by
  refine returnsInHanded_of_change (C:=checked) Ab7 d (by kernel_rfl) func3 (ChangeSpec.witness6 (enc:=enc) (C:=checked) false ⟨#[],#[(.agg #[.slice none 0 0,.slice none 0 0,.slice none 0 0,.slice none 0 0]),(.agg #[.slice none 0 0,.slice none 0 0,.slice none 0 0]),(.int .i64 0)],[]⟩ 8 (by kernel_rfl) (by kernel_rfl) (by kernel_rfl) (by kernel_rfl)) ?_;intro A base c w y o b x _ _;have f:∀p,DataW.TrodAll enc prog A 0 (λ_=>true) true f3.params.toList c.toList w p->∃h i k l m n,c=#[h,i,k]/\w=[l,m,n]/\(∃a:Tsk,V A h a)/\(∃a:Swp,V A i a)/\(∃a:Int,V A k a):=by
    intro p hA;rw[params3]at hA;replace b:∀(j:Nat) t v,(#[26,29,3]:Array TypeId)[j]?=some t->c[j]?=some v->Value.okWide prog A .any base t v:=(by rw[<- params3];exact b);obtain⟨h,vs0,l,ds0,p0,q0,g0,e0,_,q,r0⟩:=trodAll_cons hA;obtain⟨i,vs1,m,ds1,p1,q1,g1,e1,_,r,r1⟩:=trodAll_cons r0;obtain⟨k,vs2,n,ds2,p2,q2,g2,e2,_,s,r2⟩:=trodAll_cons r1;obtain⟨g,e,_⟩:=trodAll_nil r2;rw[g]at g2;rw[e]at e2;rw[g2]at g1;rw[e2]at e1;rw[g1]at g0;rw[e1]at e0;obtain rfl:c=#[h,i,k]:=(by cases c;simp_all);exact⟨h,i,k,l,m,n,rfl,e0,(by first|exact openAgg rfl (b 0 26 h rfl rfl) q|exact openOne rfl (b 0 26 h rfl rfl) q),(by first|exact openAgg rfl (b 1 29 i rfl rfl) r|exact openOne rfl (b 1 29 i rfl rfl) r),(by first|exact openAgg rfl (b 2 3 k rfl rfl) s|exact openOne rfl (b 2 3 k rfl rfl) s)⟩
  refine Ab3 rfl (by kernel_rfl) (by rw[params3];exact of_decide_eq_true (by kernel_rfl)) x ?_ ?_
  . intro p hA;obtain⟨h,i,k,l,m,n,_,rfl,_⟩:=f p hA;rfl
  . intro p hA;obtain⟨h,i,k,l,m,n,rfl,_,⟨a0,q⟩,⟨a1,r⟩,⟨a2,s⟩⟩:=f p hA;exact Aa9 q r s
theorem wholeSymmetry_holds:Rows.WholeSymmetrySaid :=
  OpenClaim.holds_of_wide 3 f3 rfl rfl rfl rfl rfl rfl rfl ⟨rfl,rfl,rfl,rfl,rfl⟩ rfl rfl rfl rfl rfl (by kernel_rfl) func3 (by kernel_rfl)
    (of_decide_eq_true (by kernel_rfl)) (by unfold Func.isWrapper;first|(rw[if_pos (by decide +kernel)];kernel_rfl)|(rw[if_neg (by decide +kernel)];exact⟨rfl,rfl⟩))
    (λb a c enc _=>MB b a c enc)
#print axioms wholeSymmetry_holds
end
end Go.Proofs.YtonclmjaphieiaaGreat

/- Own text: what the proof of wholeRepair_holds uses, part 5: rules, models and their proofs, plain laws. -/
import Derived.Test.YthgeinkfgcgjiaaGreatDoorWRD
set_option linter.unusedVariables false
set_option linter.unusedSimpArgs false
namespace Go.Proofs.YthgeinkfgcgjiaaGreatDoor
open Go Go.RowKit Go.Proofs.Tryz
section
open Go Go.RowKit
theorem PX(p x:List Fct):∃b,DV p x=some b:=by
  unfold DV;rcases Jv (ρ:=Bool) (xs:=x) (s₀:=()) (f:=λ(j:Nat)(c:Fct)(l:Unit)=>bnd (EA p c.var) λd=>bnd (if 0<=d then(if d≠c.val then(some true)else(some false))else(some false):Option Bool) λe=>if e=true then(some (.ret true))else(some (.next ()))) (λ_ _=>True) (λ_=>True) trivial (λk a s hk m=>by
    rw[QP,At];by_cases g:0<=fdV p a.var
    . rw[if_pos g];by_cases i:fdV p a.var≠a.val
      . rw[if_pos i,At,Cd];exact .inr ⟨_,rfl,trivial⟩
      . rw[if_neg i,At,BY];exact .inl ⟨_,rfl,trivial⟩
    . rw[if_neg g,At,BY];exact .inl ⟨_,rfl,trivial⟩)with⟨s,h,_⟩|⟨r,h,_⟩
  . rw[h,At,BH];exact⟨_,rfl⟩
  . rw[h,At,II];exact⟨_,rfl⟩
theorem Uh{vars:List Int}(h:vars.length<=64)(c:∀(i:Nat) n,vars[i]?=some n->1<=n/\n<=64){p:List Fct}(d:FactsOk vars p):EM p=some true:=by
  unfold EM;rw[Hf (λk a e=>?_)]
  . rfl
  . obtain⟨j,h1,n,hn,h2⟩:=d.1 k a e;have:=c _ n hn;have hl:=AF hn;have g:=Fs d;have hk:=AF e;rw[if_neg (by omega),if_neg (by omega),if_neg (by omega),if_neg (by omega)];by_cases f:0<(k:Int)
    . obtain⟨b,hb⟩:=AK (l:=p) (k:=k-1) (by omega);have:=d.2 (k-1) b a hb (by rw[show k-1+1=k by omega];exact e);rw[if_pos f,Br (by unfold W1;omega),At,show(k:Int)-1=((k-1:Nat):Int)by omega,BD,hb,At,if_neg (by omega),At,BY]
    . rw[if_neg f,At,BY]
section
variable {t:Tsk}{b:Int}{N:List Ngd}
def Za(t:Tsk)(b:Int)(N:List Ngd)(x:Chk):Prop:=x.t=t/\x.c=⟨b,N⟩/\0<=x.steps/\x.steps<=1048576
theorem Ls(R:ZD t.vars)(S:CertOk t b N){x:Chk}(I:Za t b N x){p:List Fct}(J:FactsOk t.vars p){T:Int}(hc:CovN N p T):∃E e F,Cs x p T=some (E,e,F)∧((e.n=10∧x.steps≤0)∨(e.n=0∧E=true∧Za t b N F)):=by
  obtain⟨⟨i,ti,tg,to⟩,c,st⟩:=x;obtain⟨G,h2,h3,h4⟩:=I;dsimp only at G h2 h3 h4;subst G;subst h2;have w:=S.len;unfold Cs;have K:DK ⟨⟨i,ti,tg,to⟩,⟨b,N⟩,st⟩ T=some ((N.filter λn=>decide (n.dist<=T)).map (·.facts)):=by
    unfold DK;rw[He (λk=>((N.take k).filter λn=>decide (n.dist<=T)).map (·.facts)) (by simp) λk n hk=>?_]
    . rw[P4];rfl
    . have hl:(((N.take k).filter λn=>decide (n.dist<=T)).map (·.facts)).length<=1024:=by
        rw[R1];exact U8 (G0 _ _) (by rw[N8];omega)
      rw[M2,hk,L6,R2];by_cases hd:n.dist<=T
      . rw[if_pos hd,Cb (by simp only[F9];omega) (by simp only[F9];omega),At];simp[hd]
      . rw[if_neg hd];simp[hd]
  rw[K,At];obtain⟨m,hm,hmd,hmc⟩:=hc;have g:m.facts∈(N.filter λn=>decide (n.dist<=T)).map (·.facts):=U9.2 ⟨m,Q9.2 ⟨hm,by simpa using hmd⟩,rfl⟩;have h:∀q∈(N.filter λn=>decide (n.dist<=T)).map (·.facts),FactsOk i q:=λq M=>by
    obtain⟨n,hn,rfl⟩:=U9.1 M;exact(S.ng n (Q9.1 hn).1).1.1
  have A:((N.filter λn=>decide (n.dist<=T)).map (·.facts)).length<=1024:=by
    rw[R1];exact U8 (G0 _ _) w
  generalize (N.filter λn=>decide (n.dist<=T)).map (·.facts)=L at g h A;have O:Bq L i=some false:=by
    unfold Bq BG;rw[Hf (λk q hk=>?_)]
    . rfl
    . unfold FO EJ;rw[Dq (h q (H1 hk)),At,Cd,At,At,BY]
  unfold Gy EJ;dsimp only;rw[Dq J,At,Cd,O,At,BY,At,BY];unfold Ft;dsimp only;by_cases hs:st<=0
  . rw[if_pos hs,At,if_pos rfl,At,if_pos (by decide)];exact⟨_,_,_,rfl,.inl ⟨rfl,hs⟩⟩
  . rw[if_neg hs,Br (by decide),At];have B:rng (ρ:=Bool×Cov) (λ(C:Nat)(a:List Fct)(d:(List (List Fct)))=>bnd (CF p a) λl=>if l=true then some (.ret (true,(⟨i,0+1,st,false⟩:Cov)))else bnd (DV p a) λo=>if o=true then some (.next d)else bnd (X6 24 d [a]) λu=>some (.next u)) L 0 ([]:List (List Fct))=some (.ret (true,⟨i,0+1,st,false⟩)):=by
      rcases Jv (ρ:=Bool×Cov) (xs:=L) (s₀:=([]:List (List Fct))) (f:=λ(C:Nat)(a:List Fct)(d:(List (List Fct)))=>bnd (CF p a) λl=>if l=true then some (.ret (true,(⟨i,0+1,st,false⟩:Cov)))else bnd (DV p a) λo=>if o=true then some (.next d)else bnd (X6 24 d [a]) λu=>some (.next u)) (λk s=>s.length<=k/\∀j q,j<k->L[j]?=some q->ctn p q=false) (λr=>r=(true,⟨i,0+1,st,false⟩)) ⟨V2 _,λj q hj=>absurd hj (by omega)⟩ (λk q s hk H=>by
        have P:=AF hk;rw[JS,At];cases D:ctn p q with
        |true=>rw[Cd];exact .inr ⟨_,rfl,rfl⟩
        |false =>
          have y:∀j z,j<k+1->L[j]?=some z->ctn p z=false:=λj z hj v=>by
            by_cases e:j=k
            . subst e;rw[hk]at v;obtain rfl:=Q1 v;exact D
            . exact H.2 j z (by omega) v
          obtain⟨c,hc⟩:=PX p q;rw[BY,hc,At];have Q:=H.1;cases c with
          |true=>rw[Cd];exact .inl ⟨_,rfl,by omega,y⟩
          |false =>
            rw[BY,Cb (by simp only[F9];omega) (by simp only[F9];omega),At];exact .inl ⟨_,rfl,by rw[K0,F9];omega,y⟩)with⟨s,h5,h6,h7⟩|⟨r,h5,h6⟩
      . obtain⟨k,hk⟩:=H4 g;have:=h7 k _ (AF hk) hk;rw[hmc]at this;cases this
      . rw[h5,h6]
    rw[B,At,II,At,if_neg (by simp),At,if_neg (λS=>S rfl),Br (by show W1 (st-(0+1));unfold W1;omega),At];exact⟨_,_,_,rfl,.inr ⟨rfl,rfl,rfl,rfl,by show 0<=st-(0+1);omega,by show st-(0+1)<=1048576;omega⟩⟩
theorem Vw(m:TaskOk t)(D:ZD t.vars)(G:b≤1099511627776)(K:CertOk t b N){x:Chk}(w:Za t b N x){n:Ngd}(hn:n∈N){i:Nat}{o:Opr}(y:t.ops[i]?=some o):∃e j,CB x n (i:Int)=some (e,j)∧(e.n=10∨(e.n=0∧Za t b N j)):=by
  obtain⟨E,h2,h3,h4⟩:=w;have w:Za t b N x:=⟨E,h2,h3,h4⟩;have u:=m.2.2.2.2.2 i o y;have B:=u.1;have z:=u.2.1;obtain⟨hf,g1,g2,g3,_⟩:=(K.ng n hn).1;unfold CB;rw[E,h2];have go:∀M,dNx b n.dist o.cost=some M->∃e j,(fin (.done M:Fin Int (Err×Chk)) λ(C:Int)=>bnd (CU t (i:Int) n.facts) λd=>if d.2.n≠0 then(some ((⟨d.2.n⟩:Err),x))else(bnd (rng (ρ:=Err×Chk) (λ(v:Nat)(f:List Fct)(g:Chk)=>bnd (Cs g f C) λa=>if a.2.1.n≠0 then(some (.ret ((⟨a.2.1.n⟩:Err),a.2.2)))else(if(!a.1)=true then(some (.ret ((⟨19⟩:Err),a.2.2)))else(some (.next a.2.2)))) d.1 0 x) λc=>fin c λ(h:Chk)=>some ((⟨0⟩:Err),h)))=some (e,j)/\(e.n=10\/(e.n=0/\Za t b N j)):=λM hd=>by
    obtain⟨L,L1,L2,L3⟩:=Oi m D y hf;rw[BH,L1,At,if_neg (λK=>K rfl)];have:∃r,(bnd (rng (ρ:=Err×Chk) (λ(v:Nat)(f:List Fct)(g:Chk)=>bnd (Cs g f M) λa=>if a.2.1.n≠0 then(some (.ret ((⟨a.2.1.n⟩:Err),a.2.2)))else(if(!a.1)=true then(some (.ret ((⟨19⟩:Err),a.2.2)))else(some (.next a.2.2)))) L 0 x) λc=>fin c λ(h:Chk)=>some ((⟨0⟩:Err),h))=some r/\(r.1.n=10\/(r.1.n=0/\Za t b N r.2)):=by
      refine ED (λ_ s=>Za t b N s) (λr=>r.1.n=10) w (λk p s hk H=>?_) (λs hs=>⟨_,rfl,.inr ⟨rfl,hs⟩⟩) (λq I=>⟨_,rfl,.inl I⟩);have F:=H1 hk;obtain⟨J,e,j,c1,A⟩:=Ls D K H (L3 p F).1 (K.cl n hn i o y M hd L L1 p F);rw[c1,At];rcases A with⟨A,_⟩|⟨A,c3,c4⟩
      . rw[if_pos (by show e.n≠0;omega)];exact .inr ⟨_,rfl,A⟩
      . subst c3;rw[if_neg (by show¬e.n≠0;omega),if_neg (by simp)];exact .inl ⟨_,rfl,c4⟩
    obtain⟨⟨e,j⟩,r1,r2⟩:=this;exact⟨e,j,r1,r2⟩
  dsimp only;by_cases hb:0<=b
  . rw[if_pos hb,BD,y,At,Br (by have:=g3 hb;unfold W1;omega),At];by_cases l:b<=n.dist+o.cost
    . rw[if_pos l,At,II];exact⟨_,_,rfl,.inr ⟨rfl,w⟩⟩
    . rw[if_neg l,At];exact go _ (by unfold dNx;rw[if_neg (by omega),if_neg l])
  . rw[if_neg hb,At];exact go 0 (by unfold dNx;rw[if_pos (by omega)])
theorem PJ(a:TaskOk t)(d:-1<=b)(e:b<=1099511627776)(g:CertOk t b N):Ee t.vars ⟨b,N⟩=some ⟨0⟩:=by
  have c:=g.len;have f:Ek ⟨b,N⟩=some ⟨0⟩:=by
    unfold Ek;dsimp only;rw[if_neg (by omega),if_neg (by omega),At,BY,if_neg (by omega),Hf (λk n hk=>?_),At,BH,Hf (λk n hk=>?_)]
    . rfl
    . obtain⟨_,g1,g2,g3,_⟩:=(g.ng n (H1 hk)).1;rw[if_neg (by omega)];by_cases hb:0<=b
      . rw[if_pos hb,if_neg (by have:=g3 hb;omega),if_neg (by omega),At,BY]
      . rw[if_neg hb,if_pos (by omega),if_neg (by have:=g2 (by omega);omega),At,BY]
    . rw[Uh a.1 a.2.2.1 (g.ng n (H1 hk)).1.1,At,Cd]
  unfold Ee;rw[f,At,if_neg (λg=>g rfl),Hf (λk n hk=>?_)]
  . rfl
  . unfold EJ;rw[Dq (g.ng n (H1 hk)).1.1,At,Cd]
theorem PK(j:TaskOk t)(I:ZD t.vars)(F:-1≤b)(v:b≤1099511627776)(P:CertOk t b N):∃e,Dz t ⟨b,N⟩ 1048576=some e∧(e.n=0∨e.n=10):=by
  have G:∃r,EO t ⟨b,N⟩ 1048576=some r/\(r.2.2.n=0\/r.2.2.n=10):=by
    unfold EO CE;rw[Ei.2 j,At,if_neg (λP=>P rfl),PJ j F v P,At,if_neg (λP=>P rfl),Hf (λk n hk=>by
      rw[GK,(P.ng n (H1 hk)).2,At,BY]),At,BH]
    have w:Za t b N ⟨⟨t.vars,t.init,t.goal,t.ops⟩,⟨b,N⟩,max 0 (min 1048576 1048576)⟩:=⟨rfl,rfl,by show(0:Int)<=max 0 (min 1048576 1048576);decide,by show max (0:Int) (min 1048576 1048576)<=1048576;decide⟩;have m:∀x,Za t b N x->∃r,(fin (.done x:Fin Chk (Int×Int×Err)) λ(y:Chk)=>bnd (rng (ρ:=Int×Int×Err) (λ(z:Nat)(A:Ngd)(B:Chk)=>bnd (rng (ρ:=Ctl Chk (Int×Int×Err)) (λ(f:Nat)(C:Opr)(g:Chk)=>bnd (CB g A (f:Int)) λa=>if a.1.n≠0 then(some (.ret (.ret ((z:Int),(f:Int),(⟨a.1.n⟩:Err)))))else(some (.next a.2))) t.ops 0 B) λd=>fin d λ(h:Chk)=>some (.next h)) N 0 y) λl=>fin l λ(J:Chk)=>some ((-1:Int),(-1:Int),(⟨0⟩:Err)))=some r/\(r.2.2.n=0\/r.2.2.n=10):=λx K=>by
      rw[BH];refine ED (λ_ s=>Za t b N s) (λr=>r.2.2.n=10) K (λk n s hk L=>?_) (λs hs=>⟨_,rfl,.inl rfl⟩) (λq H=>⟨_,rfl,.inr H⟩);have hn:=H1 hk;have:∃c,(bnd (rng (ρ:=Ctl Chk (Int×Int×Err)) (λ(f:Nat)(C:Opr)(g:Chk)=>bnd (CB g n (f:Int)) λa=>if a.1.n≠0 then(some (.ret (.ret ((k:Int),(f:Int),(⟨a.1.n⟩:Err)))))else(some (.next a.2))) t.ops 0 s) λd=>fin d λ(h:Chk)=>some (.next h))=some c/\((∃D,c=Ctl.next D/\Za t b N D)\/∃q,c=.ret q/\q.2.2.n=10):=by
        refine ED (λ_ s=>Za t b N s) (λc=>∃q,c=Ctl.ret q/\q.2.2.n=10) L (λi o D hi M=>?_) (λs hs=>⟨_,rfl,.inl ⟨_,rfl,hs⟩⟩) (λq H=>⟨_,rfl,.inr H⟩);obtain⟨e,x',s1,E⟩:=Vw j I v P M hn hi;rw[s1,At];rcases E with E|⟨E,s3⟩
        . rw[if_pos (by show e.n≠0;omega)];exact .inr ⟨_,rfl,_,rfl,E⟩
        . rw[if_neg (by show¬e.n≠0;omega)];exact .inl ⟨_,rfl,s3⟩
      obtain⟨c,c1,⟨D,rfl,p⟩|⟨q,rfl,p⟩⟩:=this
      . exact .inl ⟨_,c1,p⟩
      . exact .inr ⟨_,c1,p⟩
    by_cases u:b≠0
    . dsimp only;rw[if_pos u];obtain⟨O,e,x',c1,p⟩:=Ls I P w j.2.2.2.2.1 (P.gl u);rw[c1,At];rcases p with⟨p,_⟩|⟨p,c3,c4⟩
      . rw[if_pos (by show e.n≠0;omega),At,II];exact⟨_,rfl,.inr p⟩
      . subst c3;rw[if_neg (by show¬e.n≠0;omega),if_neg (by simp),At];exact m x' c4
    . dsimp only;rw[if_neg u,At];exact m _ w
  obtain⟨r,r1,r2⟩:=G;unfold Dz;rw[r1,At];exact⟨_,rfl,r2⟩
end
end
section
open Go Go.RowKit
def Acd(a:Nat)(f:PFd)(n:Int):Prop:=∃k b w:Nat,f=⟨k,b,w,n⟩/\k<a/\b+w<=64/\w<=6/\n<=2 ^ w
def PkOk(vars:List Int)(p:Pkr):Prop:=p.fields.length=vars.length/\(∃a:Nat,p.words=(a:Int)/\1<=a/\a<=vars.length+1/\∀(i:Nat) f n,p.fields[i]?=some f->vars[i]?=some n->Acd a f n) /\
  ∀(i j:Nat) f g,i<j->p.fields[i]?=some f->p.fields[j]?=some g->f.word<g.word\/(f.word=g.word/\f.bit+f.width<=g.bit)
theorem WD:∀{w:Nat},w<=6->AaI 1 (w:Int)=some ((2 ^ w:Nat):Int):=by
  intro w a;have:w=0\/w=1\/w=2\/w=3\/w=4\/w=5\/w=6:=(by omega);rcases this with rfl|rfl|rfl|rfl|rfl|rfl|rfl<;>rfl
theorem WE{w:Nat}{n:Int}(a:w<=6)(b:((2 ^ w:Nat):Int)<n)(hn:n<=64):w<6:=by
  rcases T9 w 6 with hh|hh
  . exact hh
  . obtain rfl:w=6:=(by omega);simp at b;omega
def PkI(vars:List Int)(b c:Nat)(a:List PFd):Prop:=(∀(i:Nat) f n,a[i]?=some f->vars[i]?=some n->Acd c f n) /\
  (∀(i j:Nat) f g,i<j->a[i]?=some f->a[j]?=some g->f.word<g.word\/(f.word=g.word/\f.bit+f.width<=g.bit))/\∀(i:Nat) f,a[i]?=some f->f.word+1<(c:Int)\/(f.word+1=(c:Int)/\f.bit+f.width<=(b:Int))
theorem PkI.over{vars:List Int}{c d:Nat}{a:List PFd}(g:PkI vars c d a):PkI vars 0 (d+1) a :=
  ⟨λi f n hf hn=>by obtain⟨k,b,w,e,e1,e2⟩:=g.1 i f n hf hn;exact⟨k,b,w,e,by omega,e2⟩,g.2.1,λi f hf=>by have:=g.2.2 i f hf;omega⟩
theorem FU{α:Type}{l:List α}{x y:α}{i:Nat}(a:(l++[x])[i]?=some y):l[i]?=some y\/(i=l.length/\y=x):=by
  rcases M7 i l.length with hi|hi|hi
  . rw[C4 hi]at a;exact .inl a
  . subst hi;simp at a;exact .inr ⟨rfl,a.symm⟩
  . rw[C0 (by omega)]at a;rw[F2 (by simp;omega)]at a;cases a
theorem PkI.add{vars:List Int}{p q w:Nat}{c:List PFd}{n:Int}(r:PkI vars p q c)(o:1≤q)(hn:vars[c.length]?=some n)(h:p+w≤64)(k:w≤6)(d:n≤2 ^ w):PkI vars (p+w) q (c++[⟨(q:Int)-1,(p:Int),(w:Int),n⟩]):=by
  refine⟨λi f l hf a=>?_,λi j f g e hf m=>?_,λi f hf=>?_⟩
  . rcases FU hf with b|⟨rfl,rfl⟩
    . exact r.1 i f l b a
    . rw[hn]at a;obtain rfl:=Q1 a;exact⟨q-1,p,w,by congr 1;omega,by omega,h,k,d⟩
  . rcases FU m with b|⟨rfl,rfl⟩
    . rcases FU hf with hk|⟨rfl,rfl⟩
      . exact r.2.1 i j f g e hk b
      . have:=AF b;omega
    . rcases FU hf with hk|⟨rfl,rfl⟩
      . have:=r.2.2 i f hk;dsimp only;omega
      . omega
  . rcases FU hf with b|⟨rfl,rfl⟩
    . have:=r.2.2 i f b;omega
    . dsimp only;omega
theorem Tm{vars:List Int}(hl:vars.length≤64)(A:∀(i:Nat) n,vars[i]?=some n→1≤n∧n≤64):∃r,Ia vars=some r∧∃p,r=(some p,⟨0⟩)∧PkOk vars p:=by
  unfold Ia;rw[if_neg (by omega)];refine ED (λm s=>∃E F:Nat,s.1=(E:Int)/\E<=64/\s.2.words=(F:Int)/\1<=F/\F<=m+1/\s.2.fields.length=m/\PkI vars E F s.2.fields) (λ_=>False)
    ⟨0,1,rfl,by omega,rfl,by omega,by omega,rfl,λi f n G=>by simp at G,λi j f g _ G=>by simp at G,λi f G=>by simp at G⟩ ?_ ?_ (λq u=>u.elim)
  . rintro m n ⟨B,s2⟩ hm ⟨E,F,hs1,hB,hW,hW1,hWm,hlen,hI⟩;dsimp only at hs1 hW hlen hI;subst hs1;obtain⟨C,hn2⟩:=A m n hm;have D:=AF hm;refine .inl (IA ?_);rw[if_neg (by omega),if_neg (by omega),At,BY];refine JR (λc=>∃w:Nat,c=(w:Int)/\w<=6) (λc=>∃w:Nat,c=(w:Int)/\w<=6/\n<=2 ^ w) (λ_=>False) (λc=>7-c.toNat) ⟨0,rfl,by omega⟩ ?_ ?_ (λq u=>u.elim)
    . rintro c ⟨w,rfl,hw⟩;rw[WD hw,At];by_cases hlt:((2 ^ w:Nat):Int)<n
      . have:=WE hw hlt hn2;rw[if_pos hlt,Br (by unfold W1;omega),At];exact .inl ⟨_,rfl,⟨w+1,by omega,by omega⟩,by omega⟩
      . rw[if_neg hlt];refine .inr (.inl ⟨_,rfl,w,rfl,hw,?_⟩);have:((2 ^ w:Nat):Int)=(2:Int) ^ w:=(by simp);omega
    . rintro c ⟨w,rfl,hw,hnw⟩;rw[BH,Br (by unfold W1;omega),At];have b:∀(d W':Nat)(q:Pkr),d+w<=64->1<=W'->W'<=m+2->q.words=(W':Int)->q.fields=s2.fields->PkI vars d W' s2.fields->∃r,(bnd (W5 (q.words-1)) λe=>bnd (X6 32 q.fields [(⟨e,(d:Int),(w:Int),n⟩:PFd)]) λh=>bnd (W5 ((d:Int)+(w:Int))) λk=>some (Ctl.next (ρ:=(Option Pkr)×Err) (k,(⟨h,q.words⟩:Pkr))))=some r/\∃l,r=Ctl.next l/\∃E F:Nat,l.1=(E:Int)/\E<=64/\l.2.words=(F:Int)/\1<=F/\F<=m+1+1/\l.2.fields.length=m+1/\PkI vars E F l.2.fields:=by
        intro d W' q o t z v x y;rw[v,x,Br (by unfold W1;omega),At,Cb (by simp;omega) (by simp;omega),At,Br (by unfold W1;omega),At];exact⟨_,rfl,_,rfl,d+w,W',by simp,o,rfl,t,by omega,by simp[hlen],y.add t (by rw[hlen];exact hm) o hw hnw⟩
      by_cases a:64<(E:Int)+(w:Int)
      . rw[if_pos a];dsimp only;rw[hW,Br (by unfold W1;omega),At,At];exact b 0 (F+1) ⟨s2.fields,(F:Int)+1⟩ (by omega) (by omega) (by omega) (by simp) rfl hI.over
      . rw[if_neg a,At];exact b E F s2 (by omega) hW1 (by omega) hW rfl hI
  . rintro⟨B,s2⟩ ⟨E,F,hs1,hB,hW,hW1,hWm,hlen,hI⟩;exact⟨_,rfl,s2,rfl,hlen,⟨F,hW,hW1,hWm,hI.1⟩,hI.2.1⟩
def InF(f:PFd)(x:Int)(k c:Nat):Prop:=f.word=(k:Int)/\f.bit<=(c:Int)/\(c:Int)<f.bit+f.width/\x.toNat.testBit (c-f.bit.toNat)=true
def AaY(b:List PFd)(s:List Int)(p:Nat->Prop)(d:List U64):Prop:=∀(k c:Nat) a,d[k]?=some a->c<64->(a.getLsbD c=true↔∃(i:Nat) (f:PFd) (x:Int),p i/\b[i]?=some f/\s[i]?=some x/\InF f x k c)
theorem Ac0{w:Nat}(a:w<=6):((1:U64)<<<w)-(1:U64)=BitVec.ofNat 64 (2 ^ w-1):=by
  have:w=0\/w=1\/w=2\/w=3\/w=4\/w=5\/w=6:=(by omega);rcases this with rfl|rfl|rfl|rfl|rfl|rfl|rfl<;>rfl
theorem Rb{w b c:Nat}(a:w<=6)(hc:c<64):((((1:U64)<<<w)-(1:U64))<<<b).getLsbD c=(decide (b<=c)&&decide (c<b+w)):=by
  rw[Ac0 a,BitVec.getLsbD_shiftLeft,I0,Nat.testBit_two_pow_sub_one];by_cases d:b<=c<;>by_cases e:c<b+w<;>simp[d,e,hc]<;>omega
theorem Pf{x:Int}{w j:Nat}(c:0<=x)(d:x<2 ^ w)(a:x.toNat.testBit j=true):j<w:=by
  rcases T9 j w with h|h
  . exact h
  . have b:x.toNat<2 ^ w:=by
      have:((2 ^ w:Nat):Int)=(2:Int) ^ w:=(by simp);omega
    rw[Nat.testBit_lt_two_pow (K1 b (Nat.pow_le_pow_right (by omega) h))]at a;cases a
theorem PkOk.field{vars:List Int}{p:Pkr}(c:PkOk vars p){s:List Int}(hs:StateOk vars s){i:Nat}{f:PFd}(hf:p.fields[i]?=some f):∃(k b w:Nat) (n x:Int),f=⟨k,b,w,n⟩/\(k:Int)<p.words/\b+w<=64/\w<=6/\s[i]?=some x/\0<=x/\x<n/\x<2 ^ w:=by
  obtain⟨a,⟨W,hW,_,_,h2⟩,h3⟩:=c;have hi:=AF hf;obtain⟨n,hn⟩:=AK (l:=vars) (k:=i) (by omega);obtain⟨x,hx⟩:=AK (l:=s) (k:=i) (by have:=hs.1;omega);obtain⟨k,b,w,e,e1,e2,e3,e4⟩:=h2 i f n hf hn;have:=hs.2 i x n hx hn;exact⟨k,b,w,n,x,e,by omega,e2,e3,hx,this.1,this.2,by omega⟩
theorem PkOk.same{vars:List Int}{p:Pkr}(e:PkOk vars p){i j:Nat}{f g:PFd}{k c:Nat}(hf:p.fields[i]?=some f)(a:p.fields[j]?=some g)(b:f.word=(k:Int)/\f.bit<=(c:Int)/\(c:Int)<f.bit+f.width)(d:g.word=(k:Int)/\g.bit<=(c:Int)/\(c:Int)<g.bit+g.width):i=j:=by
  rcases M7 i j with hh|hh|hh
  . have:=e.2.2 i j f g hh hf a;omega
  . exact hh
  . have:=e.2.2 j i g f hh a hf;omega
theorem ME{vars:List Int}{p:Pkr}(B:PkOk vars p)(hl:vars.length≤64){s:List Int}(hs:StateOk vars s):∃r,Dx p s=some r∧r.2=⟨0⟩∧(r.1.length:Int)=p.words∧AaY p.fields s (λ_=>True) r.1:=by
  obtain⟨C,hW,hW1,hW2,_⟩:=B.2.1;unfold Dx;rw[if_neg (by have:=B.1;have:=hs.1;omega),hW,LN (by omega) (by omega),At];refine ED (λm j=>(j.length:Int)=(C:Int)/\AaY p.fields s (λi=>i<m) j) (λ_=>False) ⟨by simp,?_⟩ ?_ ?_ (λq z=>z.elim)
  . intro k c a g _;have:=List.eq_of_mem_replicate (H1 g);subst this;constructor
    . intro A;simp at A
    . rintro⟨i,_,_,hi,_⟩;omega
  . rintro m f j hm ⟨h,hb⟩;refine .inl (IA ?_);obtain⟨k,b,w,n,x,rfl,hk,hbw,hw,hx,hx0,hxn,hxw⟩:=B.field hs hm;dsimp only;obtain⟨a,g⟩:=AK (l:=j) (k:=k) (by omega);rw[hx,At,if_neg (by omega),At,if_neg (by omega),At,BY,BD,g,At,At];unfold Aay;rw[if_pos (by omega),At,At];refine⟨_,rfl,_,rfl,by simpa using h,?_⟩;simp only[M6];have u:∀c:Nat,c<64->((a|||(BitVec.ofInt 64 x<<<b)).getLsbD c=true↔a.getLsbD c=true\/(b<=c/\x.toNat.testBit (c-b)=true)):=by
      intro c hc;have o:BitVec.ofInt 64 x=BitVec.ofNat 64 x.toNat:=by
        rw[<- BitVec.ofInt_natCast,I8 hx0]
      rw[BitVec.getLsbD_or,BitVec.getLsbD_shiftLeft,o,I0];by_cases t:b<=c
      . have:c-b<64:=(by omega);simp[hc,t,this,Nat.not_lt.2 t]
      . simp[hc,t,Nat.lt_of_not_le t]
    intro v c a' d hc;by_cases e:k=v
    . subst e;rw[E9 (AF g)]at d;obtain rfl:=Q1 d;rw[u c hc,hb k c a g hc];constructor
      . rintro(⟨i,f,y,hi,hr⟩|⟨t,h2⟩)
        . exact⟨i,f,y,by omega,hr⟩
        . have:=Pf hx0 hxw h2;exact⟨m,_,x,by omega,hm,hx,rfl,by dsimp only;omega,by dsimp only;omega,by simpa using h2⟩
      . rintro⟨i,f,y,hi,hf,hy,hin⟩;by_cases he:i=m
        . subst he;rw[hm]at hf;obtain rfl:=Q1 hf;rw[hx]at hy;obtain rfl:=Q1 hy;obtain⟨_,i2,i3,i4⟩:=hin;dsimp only at i2 i3 i4;exact .inr ⟨by omega,by simpa using i4⟩
        . exact .inl ⟨i,f,y,by omega,hf,hy,hin⟩
    . rw[H7 e]at d;rw[hb v c a' d hc];constructor
      . rintro⟨i,f,y,hi,hr⟩;exact⟨i,f,y,by omega,hr⟩
      . rintro⟨i,f,y,hi,hf,hy,hin⟩;by_cases he:i=m
        . subst he;rw[hm]at hf;obtain rfl:=Q1 hf;have:=hin.1;dsimp only at this;omega
        . exact⟨i,f,y,by omega,hf,hy,hin⟩
  . rintro j ⟨h,hb⟩;refine⟨_,rfl,rfl,h,λk c a g hc=>?_⟩;rw[hb k c a g hc];constructor
    . rintro⟨i,f,x,_,hr⟩;exact⟨i,f,x,trivial,hr⟩
    . rintro⟨i,f,x,_,hf,hr⟩;exact⟨i,f,x,AF hf,hf,hr⟩
theorem Sz{k b w:Nat}{n:Int}:ER ⟨k,b,w,n⟩=some ((((1:U64)<<<w)-(1:U64))<<<b):=by
  unfold ER Aay;dsimp only;rw[if_pos (by omega),At,if_pos (by omega),At];simp
theorem XS{vars:List Int}{p:Pkr}(B:PkOk vars p){s:List Int}(hs:StateOk vars s){o:List U64}(u:(o.length:Int)=p.words)(hb:AaY p.fields s (λ_=>True) o){i:Nat}{f:PFd}{x:Int}(hf:p.fields[i]?=some f)(q:s[i]?=some x):FZ f o=some x:=by
  obtain⟨k,b,w,n,x',rfl,hk,hbw,hw,hx',hx0,hxn,hxw⟩:=B.field hs hf;rw[q]at hx';obtain rfl:=Q1 hx';obtain⟨a,ha⟩:=AK (l:=o) (k:=k) (by omega);unfold FZ;dsimp only;rw[BD,ha,At,Sz,At];unfold Z4;rw[if_pos (by omega),At]
  have h    : (a&&&((((1:U64)<<<w)-(1:U64))<<<b))>>>b=BitVec.ofNat 64 x.toNat:=by
    apply BitVec.eq_of_getLsbD_eq;intro j hj;rw[BitVec.getLsbD_ushiftRight,BitVec.getLsbD_and,I0];by_cases m:b+j<64
    . rw[Rb hw m];by_cases d:j<w
      . have t:=hb k (b+j) a ha m;have v:a.getLsbD (b+j)=x.toNat.testBit j:=by
          cases e:x.toNat.testBit j with
          |true=>exact t.2 ⟨i,_,x,trivial,hf,q,rfl,by dsimp only;omega,by dsimp only;omega,by simpa using e⟩
          |false =>
            cases y:a.getLsbD (b+j)with
            |false=>rfl
            |true =>
              obtain⟨A,f',x',_,hf',hx',hin⟩:=t.1 y;have r:=B.same (k:=k) (c:=b+j) hf hf' ⟨rfl,by dsimp only;omega,by dsimp only;omega⟩ ⟨hin.1,hin.2.1,hin.2.2.1⟩;subst r;rw[hf]at hf';obtain rfl:=Q1 hf';rw[q]at hx';obtain rfl:=Q1 hx';have:=hin.2.2.2;simp at this;rw[this]at e;cases e
        rw[v];simp[hj,d]
      . have g:x.toNat.testBit j=false:=by
          cases e:x.toNat.testBit j with
          |false=>rfl
          |true=>exact absurd (Pf hx0 hxw e) d
        simp[g,d]
    . have g:x.toNat.testBit j=false:=by
        cases e:x.toNat.testBit j with
        |false=>rfl
        |true=>have:=Pf hx0 hxw e;omega
      rw[BitVec.getLsbD_of_ge _ _ (by omega)];simp[g]
  have z:(2:Int) ^ w<=64:=by
    have:w=0\/w=1\/w=2\/w=3\/w=4\/w=5\/w=6:=(by omega);rcases this with rfl|rfl|rfl|rfl|rfl|rfl|rfl<;>decide
  simp only[M6];rw[h];congr 1;rw[BitVec.toInt_eq_toNat_of_lt (by rw[L7];omega),L7];omega
theorem Mh{vars:List Int}{p:Pkr}(J:PkOk vars p)(hl:vars.length≤64){s:List Int}(hs:StateOk vars s){r:List U64}(v:(r.length:Int)=p.words)(hb:AaY p.fields s (λ_=>True) r):EK p r=some (s,⟨0⟩):=by
  obtain⟨K,hW,hW1,hW2,_⟩:=J.2.1;have F:=hs.1;have G:=J.1;unfold EK;rw[if_neg (by omega),LN (by omega) (by omega),At];unfold EV;rw[if_pos (by omega),At];refine Jx (λm t=>t.1.length=s.length/\(∀(i:Nat) x,i<m->s[i]?=some x->t.1[i]?=some x)/\t.2.length=r.length/\AaY p.fields s (λi=>m<=i) t.2) ⟨by simp;omega,λi x hi=>by omega,rfl,?_⟩ ?_ ?_
  . intro k c a o hc;rw[hb k c a o hc];constructor
    . rintro⟨i,f,x,_,hr⟩;exact⟨i,f,x,by omega,hr⟩
    . rintro⟨i,f,x,_,hr⟩;exact⟨i,f,x,trivial,hr⟩
  . rintro m f ⟨g,rest⟩ hm ⟨i1,i2,i3,i4⟩;dsimp only at i1 i2 i3 i4 ⊢;obtain⟨k,b,w,n,x,rfl,hk,hbw,hw,hx,hx0,hxn,hxw⟩:=J.field hs hm;have H:=AF hx;obtain⟨u,hu⟩:=AK (l:=g) (k:=m) (by omega);obtain⟨a,o⟩:=AK (l:=rest) (k:=k) (by omega);rw[XS J hs v hb hm hx,At,hu,At,E9 (by omega),At];dsimp only;rw[if_neg (by omega),BD,o,At,Sz,At,At];refine⟨_,rfl,by simpa using i1,λi y hi h=>?_,by simpa using i3,?_⟩
    . by_cases e:i=m
      . subst e;rw[hx]at h;obtain rfl:=Q1 h;exact E9 (by omega)
      . show(g.set m x)[i]?=_;rw[H7 (by omega)];exact i2 i y (by omega) h
    . show AaY p.fields s _ (rest.set ((k:Int)).toNat _);simp only[M6];intro C c a' d hc;by_cases e:k=C
      . subst e;rw[E9 (AF o)]at d;obtain rfl:=Q1 d;rw[BitVec.getLsbD_and,BitVec.getLsbD_not,Rb hw hc];have D:=i4 k c a o hc;constructor
        . intro j;simp only[N1,Bool.not_eq_true',decide_eq_true_eq]at j;obtain⟨i,f,y,hi,hf,h,hin⟩:=D.1 j.1;refine⟨i,f,y,?_,hf,h,hin⟩;rcases T9 m i with hlt|hge
          . exact hlt
          . exfalso;obtain rfl:i=m:=(by omega);rw[hm]at hf;obtain rfl:=Q1 hf;obtain⟨_,j2,j3,_⟩:=hin;dsimp only at j2 j3;have E:=j.2.2;rw[show decide (b<=c)=true from by simp;omega,show decide (c<b+w)=true from by simp;omega]at E;cases E
        . rintro⟨i,f,y,hi,hf,h,hin⟩;have z:=D.2 ⟨i,f,y,by omega,hf,h,hin⟩;have A:¬(b<=c/\c<b+w):=λj=>by
            have:=J.same (k:=k) (c:=c) hm hf ⟨rfl,by dsimp only;omega,by dsimp only;omega⟩ ⟨hin.1,hin.2.1,hin.2.2.1⟩;omega
          rw[z];by_cases B:b<=c
          . have I:¬c<b+w:=λj=>A ⟨B,j⟩;simp[hc,B,I]
          . simp[hc,B]
      . rw[H7 e]at d;rw[i4 C c a' d hc];constructor
        . rintro⟨i,f,y,hi,hf,h,hin⟩;refine⟨i,f,y,?_,hf,h,hin⟩;rcases T9 m i with hlt|hge
          . exact hlt
          . exfalso;obtain rfl:i=m:=(by omega);rw[hm]at hf;obtain rfl:=Q1 hf;have:=hin.1;dsimp only at this;omega
        . rintro⟨i,f,y,hi,hr⟩;exact⟨i,f,y,by omega,hr⟩
  . rintro⟨g,rest⟩ ⟨i1,i2,i3,i4⟩;dsimp only at i1 i2 i3 i4;rw[BH];dsimp only;have q:g=s:=by
      apply M0;intro i;rcases T9 i s.length with hi|hi
      . obtain⟨x,hx⟩:=AK (l:=s) (k:=i) hi;rw[hx];exact i2 i x (by omega) hx
      . rw[F2 hi,F2 (by omega)]
    subst q;refine Jx (λ_ _=>True) trivial (λk a _ hk _=>⟨(),?_,trivial⟩) (λ_ _=>rfl);obtain⟨a',d⟩:=AK (l:=rest) (k:=k) (by have:=AF hk;omega);rw[d,At];have hz:a'=0:=by
      apply BitVec.eq_of_getLsbD_eq;intro c hc;cases z:a'.getLsbD c with
      |false=>simp
      |true =>
        obtain⟨i,f,x,hi,hf,_⟩:=(i4 k c a' d hc).1 z;have:=AF hf;omega
    subst hz;rw[if_neg (by simp)]
theorem Vx{vars:List Int}{p:Pkr}(h:PkOk vars p)(hl:vars.length<=64){s b:List Int}(hs:StateOk vars s)(a:StateOk vars b){c:List U64}(e:Dx p s=some (c,⟨0⟩))(f:Dx p b=some (c,⟨0⟩)):s=b:=by
  obtain⟨r,r1,r2,r3,r4⟩:=ME h hl hs;obtain⟨q,q1,q2,q3,q4⟩:=ME h hl a;rw[e]at r1;rw[f]at q1;obtain rfl:=Q1 r1;obtain rfl:=Q1 q1;have g:=Mh h hl hs r3 r4;have d:=Mh h hl a q3 q4;rw[g]at d;have:=Q1 d;exact congrArg Prod.fst this
end
section
open Go Go.RowKit
theorem PL{K V:Type}[MKey K](z:V)(k b:K)(v:V):∀l:List (K×V),Y2 z (ZZ l k v) b=if k=b then v else Y2 z l b
  |[]=>by simp only[ZZ,Y2]
  |p  :: r=>by
    have d:=PL z k b v r;simp only[ZZ];by_cases c:p.1=k
    . rw[if_pos c];simp only[Y2];by_cases a:k=b
      . rw[if_pos a,if_pos a]
      . rw[if_neg a,if_neg a,if_neg (by rw[c];exact a)]
    . rw[if_neg c];simp only[Y2,d];by_cases a:k=b
      . rw[if_pos a,if_pos a,if_neg (by rw[<- a];exact c)]
      . rw[if_neg a,if_neg a]
theorem Ui(p:Pkr)(a:List U64):∃c,DG p a=some c:=by
  have:∃r,DG p a=some r/\True:=by
    unfold DG;refine ED (λ_ _=>True) (λ_=>False) trivial (λi x s _ _=>.inl ?_) (λs _=>?_) (λq b=>b.elim)
    . exact⟨_,rfl,trivial⟩
    . exact⟨_,rfl,trivial⟩
  obtain⟨c,h1,_⟩:=this;exact⟨c,h1⟩
theorem XT(a b:List U64):DC a b=some (decide (a=b)):=by
  unfold DC;by_cases hl:(a.length:Int)=(b.length:Int)
  . rw[if_neg (by omega)];have:∃r,(bnd (rng (ρ:=Bool) (λ(f:Nat)(g:U64)(_:Unit)=>bnd (b[f]?) λn=>if(g.toNat:Int)≠(n.toNat:Int)then(some (.ret false))else(some (.next ()))) a 0 ()) λc=>fin c λ(_:Unit)=>some true)=some r/\r=decide (a=b):=by
      refine ED (λm _=>∀(i:Nat),i<m->a[i]?=b[i]?) (λr=>r=false/\a≠b) (λi hi=>by omega) ?_ ?_ ?_
      . intro i x _ d o;obtain⟨y,hy⟩:=AK (l:=b) (k:=i) (by have:=AF d;omega);rw[hy,At];by_cases he:x=y
        . subst he;rw[if_neg (by simp)];refine .inl ⟨(),rfl,λj hj=>?_⟩;by_cases e:j=i
          . subst e;rw[d,hy]
          . exact o j (by omega)
        . rw[if_pos (λh=>he (BitVec.eq_of_toNat_eq (by omega)))];refine .inr ⟨_,rfl,rfl,λh=>he ?_⟩;rw[h,hy]at d;exact(Q1 d).symm
      . intro _ o;refine⟨_,rfl,?_⟩;symm;rw[decide_eq_true_eq];apply M0;intro i;rcases T9 i a.length with h|h
        . exact o i h
        . rw[F2 h,F2 (by omega)]
      . rintro q ⟨rfl,hne⟩;exact⟨_,rfl,by simp[hne]⟩
    obtain⟨r,h1,h2⟩:=this;rw[h1,h2]
  . rw[if_pos hl];congr 1;symm;rw[decide_eq_false_iff_not];exact λh=>hl (by rw[h])
structure RegI(vars:List Int)(r:Reg)(L:List (List Int)):Prop where
  pk:PkOk vars r.packer
  len:r.entries.length=L.length
  st:∀(i:Nat) s,L[i]?=some s->StateOk vars s
  words:∀(i:Nat) s e,L[i]?=some s->r.entries[i]?=some e->Dx r.packer s=some (e.words,⟨0⟩)
  nodup:∀(i j:Nat) s,L[i]?=some s->L[j]?=some s->i=j
  tab:∀(i:Nat) e,r.entries[i]?=some e->∃h,DG r.packer e.words=some h/\(i:Int)∈Y2 ([]:List Int) r.table.l h
  val:∀h a,a∈Y2 ([]:List Int) r.table.l h->∃i:Nat,a=(i:Int)/\i<L.length
  few:∀h,(Y2 ([]:List Int) r.table.l h).length<=L.length
def Y1(r:Reg):List RLk:=r.entries.map (·.link)
theorem Uj{vars:List Int}(hl:vars.length<=64)(b:∀(i:Nat) n,vars[i]?=some n->1<=n/\n<=64):∃r,GE vars=some r/\∃q,r=(some q,⟨0⟩)/\RegI vars q []/\Y1 q=[]:=by
  obtain⟨r,h1,p,rfl,hp⟩:=Tm hl b;unfold GE;rw[h1,At,if_neg (by simp),At];exact⟨_,rfl,_,rfl,⟨hp,rfl,λi s d=>by simp at d,λi s e d=>by simp at d,λi j s d=>by simp at d,λi e d=>by simp at d,λd a c=>by simp[Y2]at c,λd=>by simp[Y2]⟩,rfl⟩
theorem Tn{vars:List Int}(hl:vars.length≤64){r:Reg}{L:List (List Int)}(A:RegI vars r L){s:List Int}(hs:StateOk vars s):∃(c:List U64) (d:Int),Dx r.packer s=some (c,⟨0⟩)∧DG r.packer c=some d ∧
    ((∃i:Nat,L[i]?=some s/\De r s=some (c,d,(i:Int),⟨0⟩))\/((∀i:Nat,L[i]?≠some s)/\De r s=some (c,d,-1,⟨0⟩))):=by
  obtain⟨⟨c,er⟩,p1,p2,p3,p4⟩:=ME A.pk hl hs;dsimp only at p2 p3 p4;subst p2;obtain⟨d,hhe⟩:=Ui r.packer c;refine⟨c,d,p1,hhe,?_⟩;have o:∃b,De r s=some b/\((∃i:Nat,L[i]?=some s/\b=(c,d,(i:Int),⟨0⟩))\/((∀i:Nat,L[i]?≠some s)/\b=(c,d,-1,⟨0⟩))):=by
    unfold De;rw[p1,At,if_neg (by simp),hhe,At];refine ED (λm _=>∀(j:Nat)(i:Nat),j<m->(Y2 ([]:List Int) r.table.l d)[j]?=some (i:Int)->L[i]?≠some s) (λb=>∃i:Nat,L[i]?=some s/\b=(c,d,(i:Int),⟨0⟩)) (λj i hj=>by omega) ?_ ?_ ?_
    . intro m a _ hm p;obtain⟨i,rfl,hi⟩:=A.val d a (H1 hm);obtain⟨e,he⟩:=AK (l:=r.entries) (k:=i) (by rw[A.len];exact hi);obtain⟨u,hs'⟩:=AK (l:=L) (k:=i) hi;have g:=A.words i u e hs' he;rw[BD,he,At,XT,At];by_cases f:e.words=c
      . rw[decide_eq_true f,Cd];rw[f]at g;have:=Vx A.pk hl (A.st i u hs') hs g p1;subst this;exact .inr ⟨_,rfl,i,hs',rfl⟩
      . rw[decide_eq_false f,BY];refine .inl ⟨(),rfl,λj v hj h=>?_⟩;by_cases w:j=m
        . subst w;rw[hm]at h;have x:i=v:=(by have:=Q1 h;omega);subst x;intro n;rw[n]at hs';obtain rfl:=Q1 hs';rw[p1]at g;exact f (congrArg Prod.fst (Q1 g)).symm
        . exact p j v (by omega) h
    . intro _ p;refine⟨_,rfl,.inr ⟨λi n=>?_,rfl⟩⟩;obtain⟨e,he⟩:=AK (l:=r.entries) (k:=i) (by rw[A.len];exact AF n);have g:=A.words i s e n he;rw[p1]at g;have t:c=e.words:=congrArg Prod.fst (Q1 g);obtain⟨z,t1,t2⟩:=A.tab i e he;rw[<- t,hhe]at t1;obtain rfl:=Q1 t1;obtain⟨j,hj⟩:=H4 t2;exact p j i (AF hj) hj n
    . rintro q ⟨i,hi,rfl⟩;exact⟨_,rfl,.inl ⟨i,hi,rfl⟩⟩
  obtain⟨b,k1,y⟩:=o;rcases y with⟨i,hi,rfl⟩|⟨hn,rfl⟩
  . exact .inl ⟨i,hi,k1⟩
  . exact .inr ⟨hn,k1⟩
theorem PM{vars:List Int}(hl:vars.length≤64){r:Reg}{L:List (List Int)}(q:RegI vars r L){s:List Int}(hs:StateOk vars s)(o:L.length<65536) :
    (∃i:Nat,L[i]?=some s/\CN r s=some ((i:Int),false,⟨0⟩,r))\/((∀i:Nat,L[i]?≠some s)/\∃r',CN r s=some ((L.length:Int),true,⟨0⟩,r')/\RegI vars r' (L++[s])/\Y1 r'=Y1 r++[⟨-1,-1,0⟩]):=by
  obtain⟨p,hh,p1,p2,hf⟩:=Tn hl q hs;unfold CN;have c:=q.len;rcases hf with⟨i,hi,hf⟩|⟨g,hf⟩
  . refine .inl ⟨i,hi,?_⟩;rw[hf,At,if_neg (by simp),if_pos (by dsimp only;omega)]
  . refine .inr ⟨g,?_⟩;have n:=q.few hh;rw[hf,At,if_neg (by simp),if_neg (by dsimp only;omega),if_neg (by omega)];dsimp only;rw[Cb (by simp;omega) (by simp;omega),At,Cb (by simp;omega) (by simp;omega),At,c];have b:∀k,Y2 ([]:List Int) (ZZ r.table.l hh (Y2 ([]:List Int) r.table.l hh++[(L.length:Int)])) k=if hh=k then Y2 ([]:List Int) r.table.l hh++[(L.length:Int)]else Y2 ([]:List Int) r.table.l k:=λk=>PL _ _ _ _ _;refine⟨_,rfl,⟨q.pk,by simp[c],?_,?_,?_,?_,?_,?_⟩,by simp[Y1]⟩
    . intro i m hi;rcases FU hi with hi|⟨_,rfl⟩
      . exact q.st i m hi
      . exact hs
    . intro i m e hi he;rcases FU hi with hi|⟨hi,rfl⟩
      . rcases FU he with he|⟨he,_⟩
        . exact q.words i m e hi he
        . have:=AF hi;omega
      . rcases FU he with he|⟨he,rfl⟩
        . have:=AF he;omega
        . exact p1
    . intro i j m hi hj;rcases FU hi with h|⟨h,hs2⟩
      . rcases FU hj with d|⟨d,hs2⟩
        . exact q.nodup i j m h d
        . exact absurd (hs2▸h) (g i)
      . rcases FU hj with d|⟨d,_⟩
        . exact absurd (hs2▸d) (g j)
        . omega
    . intro i e he;rcases FU he with he|⟨hi,rfl⟩
      . obtain⟨k,k1,k2⟩:=q.tab i e he;refine⟨k,k1,?_⟩;dsimp only;rw[b];by_cases f:hh=k
        . subst f;rw[if_pos rfl];exact G9 _ k2
        . rw[if_neg f];exact k2
      . refine⟨hh,p2,?_⟩;dsimp only;rw[b,if_pos rfl,hi,c];simp
    . intro k a ha;dsimp only at ha;rw[b]at ha;simp only[K0,F9];by_cases f:hh=k
      . rw[if_pos f]at ha;rcases P8.1 ha with ha|ha
        . obtain⟨i,h1,h2⟩:=q.val hh a ha;exact⟨i,h1,by omega⟩
        . exact⟨L.length,by simpa using ha,by omega⟩
      . rw[if_neg f]at ha;obtain⟨i,h1,h2⟩:=q.val k a ha;exact⟨i,h1,by omega⟩
    . intro k;dsimp only;rw[b];have:=q.few k;simp only[K0,F9];by_cases f:hh=k
      . rw[if_pos f];simp;omega
      . rw[if_neg f];omega
theorem Kt{vars:List Int}{r:Reg}{L:List (List Int)}(a:RegI vars r L){i:Nat}(hi:i<L.length):BV r (i:Int)=some true:=by
  unfold BV;rw[if_pos (by omega),if_pos (by rw[a.len];omega)];rfl
theorem RM{vars:List Int}(hl:vars.length<=64){r:Reg}{L:List (List Int)}(d:RegI vars r L){i:Nat}{s:List Int}(hi:L[i]?=some s):DA r (i:Int)=some (s,⟨0⟩):=by
  obtain⟨e,he⟩:=AK (l:=r.entries) (k:=i) (by rw[d.len];exact AF hi);have hs:=d.st i s hi;obtain⟨⟨c,er⟩,p1,p2,p3,p4⟩:=ME d.pk hl hs;have b:=d.words i s e hi he;rw[p1]at b;have a:c=e.words:=congrArg Prod.fst (Q1 b);dsimp only at p3 p4;rw[a]at p3 p4;unfold DA;rw[Kt d (AF hi),At,Cd,BD,he,At,Mh d.pk hl hs p3 p4,At]
theorem On{vars:List Int}{r:Reg}{L:List (List Int)}(n:RegI vars r L){i:Nat}(hi:i<L.length){p o c:Int}(m:p=-1\/∃j:Nat,p=(j:Int)/\j<L.length):∃r',Dm r (i:Int) p o c=some (⟨0⟩,r')/\RegI vars r' L/\Y1 r'=(Y1 r).set i ⟨p,o,c⟩:=by
  obtain⟨e,he⟩:=AK (l:=r.entries) (k:=i) (by rw[n.len];exact hi);unfold Dm;have b:(bnd (BV r (i:Int)) λf=>if f=true then if p≠(-1)then(bnd (BV r p) λg=>if g=true then some false else some true)else(some false)else some true:Option Bool)=some false:=by
    rw[Kt n hi,At,Cd];rcases m with rfl|⟨j,rfl,hj⟩
    . rfl
    . rw[if_pos (by omega),Kt n hj];rfl
  rw[b,At,BY,BD,he,At];have d:∀(j:Nat) x,(r.entries.set ((i:Int)).toNat ({ e with link:=(⟨p,o,c⟩:RLk) }:REn))[j]?=some x->∃y,r.entries[j]?=some y/\x.words=y.words:=by
    intro j x a;rw[M6]at a;by_cases h:i=j
    . subst h;rw[E9 (AF he)]at a;obtain rfl:=Q1 a;exact⟨e,he,rfl⟩
    . rw[H7 h]at a;exact⟨x,a,rfl⟩
  refine⟨_,rfl,⟨n.pk,by simp[n.len],n.st,?_,n.nodup,?_,n.val,n.few⟩,?_⟩
  . intro j s x hj a;obtain⟨y,hy,hxy⟩:=d j x a;rw[hxy];exact n.words j s y hj hy
  . intro j x a;obtain⟨y,hy,hxy⟩:=d j x a;rw[hxy];exact n.tab j y hy
  . simp[Y1,V0]
theorem XU{xs:List Int}(hl:xs.length≤1000000):DB xs=some xs.reverse:=by
  unfold DB;rw[Br (by unfold W1;omega),At];refine So (λs=>∃i:Nat,s.2.1=(i:Int)/\s.2.1+s.2.2=(xs.length:Int)-1/\i<=xs.length/\s.1.length=xs.length/\∀k:Nat,k<xs.length->s.1[k]?=if k<i\/xs.length-1-k<i then xs[xs.length-1-k]? else xs[k]?) (λs=>s.1=xs.reverse) (λs=>(s.2.2-s.2.1+1).toNat) ⟨0,rfl,by dsimp only;omega,by omega,rfl,λk hk=>by rw[if_neg (by omega)]⟩ ?_ (λs hs=>by rw[BH,hs]);rintro⟨ys,i',j⟩ ⟨i,hi,hij,hil,hlen,hg⟩;dsimp only at hi hij hlen hg ⊢;subst hi;by_cases hlt:(i:Int)<j
  . obtain⟨c,rfl⟩:∃c:Nat,j=(c:Int):=⟨j.toNat,by omega⟩;obtain⟨a,ha⟩:=AK (l:=ys) (k:=c) (by omega);obtain⟨b,hb⟩:=AK (l:=ys) (k:=i) (by omega);rw[if_pos hlt,BD,ha,At,BD,hb,At,At,M6,M6,BD,H7 (by omega),ha,At,Br (by unfold W1;omega),At,Br (by unfold W1;omega),At];refine .inl ⟨_,rfl,⟨i+1,by dsimp only;omega,by dsimp only;omega,by omega,by simp[hlen],λk hk=>?_⟩,by dsimp only;omega⟩;dsimp only;have d:=hg c (by omega);rw[ha,if_neg (by omega)]at d;have e:=hg i (by omega);rw[hb,if_neg (by omega)]at e;by_cases g:k=c
    . subst g;rw[E9 (by simp;omega),if_pos (by omega),e];congr 1;omega
    . rw[H7 (by omega)];by_cases h:k=i
      . subst h;rw[E9 (by omega),if_pos (by omega),d];congr 1;omega
      . rw[H7 (by omega),hg k hk];by_cases f:k<i\/xs.length-1-k<i
        . rw[if_pos f,if_pos (by omega)]
        . rw[if_neg f,if_neg (by omega)]
  . rw[if_neg hlt];refine .inr ⟨_,rfl,?_⟩;dsimp only;apply M0;intro k;rcases T9 k xs.length with hk|hk
    . rw[List.getElem?_reverse hk,hg k hk];by_cases f:k<i\/xs.length-1-k<i
      . rw[if_pos f]
      . rw[if_neg f];congr 1;omega
    . rw[F2 (by omega),F2 (by simp;omega)]
inductive PathL(lk:List RLk):Nat->List Int->Prop
  |root {i:Nat} {k:RLk}:lk[i]?=some k->k.parent<0->PathL lk i []
  |step {i j:Nat} {k:RLk} {p:List Int}:lk[i]?=some k->k.parent=(j:Int)->PathL lk j p->PathL lk i (p++[k.op])
theorem WF{vars:List Int}{r:Reg}{L:List (List Int)}(u:RegI vars r L)(t:L.length<=65536){i:Nat}{p:List Int}(h:PathL (Y1 r) i p)(hl:p.length<=L.length):DU r (i:Int)=some (p,⟨0⟩):=by
  have b:∀{i:Nat}{k:RLk},(Y1 r)[i]?=some k->∃e:REn,r.entries[i]?=some e/\e.link=k:=by
    intro i k hk;unfold Y1 at hk;rw[M3]at hk;cases he:r.entries[i]? with
    |none=>rw[he]at hk;cases hk
    |some e=>rw[he]at hk;exact⟨e,rfl,by simpa using hk⟩
  have l:i<L.length:=by
    have:∃k,(Y1 r)[i]?=some k:=(by cases h with|root c _=>exact⟨_,c⟩|step c _ _=>exact⟨_,c⟩);obtain⟨k,hk⟩:=this;obtain⟨e,he,_⟩:=b hk;rw[<- u.len];exact AF he
  unfold DU;rw[Kt u l,At,Cd];have m:∀{i p},PathL (Y1 r) i p->∀a:List Int,a.length+p.length<=L.length->lop (ρ:=(List Int)×Err) (λ(d:Int×(List Int))=>bnd (atI r.entries d.1) λf=>if f.link.parent<0 then(bnd (DB d.2) λn=>some (.ret (n,(⟨0⟩:Err))))else(bnd (X6 8 d.2 [f.link.op]) λg=>if(r.entries.length:Int)<(g.length:Int)then(some (.ret (([]:List Int),(⟨21⟩:Err))))else(some (.next (f.link.parent,g))))) ((i:Int),a)=some (.ret (p++a.reverse,⟨0⟩)):=by
    intro i p h
    induction h with
    |root c o =>
      intro a q;obtain⟨e,he,rfl⟩:=b c;rw[GS];dsimp only;rw[BD,he,At,if_pos o,XU (by omega),At];rfl
    |@step i j k p c o _ s =>
      intro a q;obtain⟨e,he,rfl⟩:=b c;simp at q;rw[GS];dsimp only;rw[BD,he,At,if_neg (by omega),Cb (by simp;omega) (by simp;omega),At,if_neg (by rw[u.len];simp;omega),o];dsimp only;rw[s (a++[e.link.op]) (by simp;omega)];simp
  rw[m h [] (by simpa using hl),At];simp[fin]
end
section
open Go Go.RowKit
inductive Rch(t:Tsk):List Int->Prop
  |init:Rch t t.init
  |step {s:List Int} {k:Nat} {o:Opr}:Rch t s->t.ops[k]?=some o->holdsB o.pre s=true->Rch t (succ o s)
theorem Rch.ok{t:Tsk}(c:TaskOk t){s:List Int}(hr:Rch t s):StateOk t.vars s:=by
  induction hr with
  |init=>exact c.2.2.2.1
  |step _ a _ b=>exact IB c b a
theorem PlanR.snoc{t:Tsk}{s p a:List Int}{C:Int}(e:PlanR t s p a C){k:Nat}{o:Opr}(c:t.ops[k]?=some o)(hp:holdsB o.pre a=true):PlanR t s (p++[(k:Int)]) (succ o a) (C+o.cost):=by
  induction e with
  |nil=>have:=PlanR.cons c hp (PlanR.nil (t:=t) (s:=succ o _));simpa[Int.add_comm]using this
  |cons b hp' _ d=>have:=PlanR.cons b hp' (d hp);rw[Int.add_assoc];exact this
theorem PlanR.walk{t:Tsk}{s p a:List Int}{C:Int}(e:PlanR t s p a C)(b:holdsB t.goal a=true):Walk t s C:=by
  induction e with
  |nil=>exact .goal b
  |cons c hp _ d=>have:=Walk.step c hp (d b);rwa[Int.add_comm]at this
inductive WalkS(t:Tsk)(sel:List Int->List Int):List Int->Int->Prop
  |goal {s:List Int}:holdsB t.goal s=true->WalkS t sel s 0
  |step {s:List Int} {k:Nat} {o:Opr} {C:Int}:t.ops[k]?=some o->(k:Int)∈sel s->WalkS t sel (succ o s) C->WalkS t sel s (C+o.cost)
theorem Uk{t:Tsk}(d:TaskOk t){sel:List Int->List Int}{s:List Int}{C:Int}(a:WalkS t sel s C):0<=C:=by
  induction a with
  |goal _=>omega
  |@step s k o C b _ _ c=>have:=(d.2.2.2.2.2 k o b).1;omega
def UpL{α:Type}(i:Nat)(x:α)(l a:List α):Prop:=a[i]?=some x/\∀j,j≠i->a[j]?=l[j]?
theorem SA{α:Type}{i:Nat}{x:α}{l:List α}(a:i<l.length):UpL i x l (l.set i x):=⟨E9 a,λj hj=>H7 (by omega)⟩
theorem Rc{α:Type}{i:Nat}{x:α}{l:List α}(a:l[i]?=some x):UpL i x l l:=⟨a,λ_ _=>rfl⟩
theorem MF{α:Type}{x:α}{l:List α}:UpL l.length x l (l++[x]):=⟨by simp,λj hj=>by
  rcases T9 j l.length with h|h
  . exact C4 h
  . rw[C0 h,F2 (l:=l) h,F2 (by simp;omega)]⟩
def cnt(l:List Bool):Nat:=(l.filter id).length
theorem Ul(l:List Bool):cnt l<=l.length:=G0 _ _
theorem WG(l:List Bool):cnt (l++[false])=cnt l:=by simp[cnt]
theorem SB:∀{l:List Bool}{i:Nat},l[i]?=some false->cnt (l.set i true)=cnt l+1
  |[],i,h=>by simp at h
  |b::l,0,h=>by simp at h;subst h;simp[cnt]
  |b::l,i+1,h=>by
    have:=SB (l:=l) (i:=i) (by simpa using h);simp only[cnt]at this ⊢;cases b<;>simp[this]
theorem SC:∀{l:List Bool}{i:Nat},l[i]?=some true->0<cnt l
  |[],i,h=>by simp at h
  |b::l,0,h=>by simp at h;subst h;simp[cnt]
  |b::l,i+1,h=>by
    have:=SC (l:=l) (i:=i) (by simpa using h);unfold cnt at this ⊢;rw[P7];split
    . simp
    . exact this
structure SrI(t:Tsk)(sel:List Int->List Int)(D:Nat->Int->Prop)(L:List (List Int))(lk:List RLk)(g:List Int)(fn:List Bool)(hp:List QEn)(ord:Nat->Nat)(E:Nat):Prop where
  root:L[0]?=some t.init
  root0:g[0]?=some 0
  lenk:lk.length=L.length
  leng:g.length=L.length
  lenf:fn.length=L.length
  link:∀(i:Nat) s k c,L[i]?=some s->lk[i]?=some k->g[i]?=some c->(i=0/\k.parent=-1/\c=0)\/∃(p q:Nat) (o:Opr) (s':List Int) (c':Int),k.parent=(p:Int)/\k.op=(q:Int)/\t.ops[q]?=some o/\L[p]?=some s'/\fn[p]?=some true/\holdsB o.pre s'=true/\succ o s'=s/\g[p]?=some c'/\c=c'+o.cost/\(fn[i]?=some true->ord p<ord i)
  ordl:∀i:Nat,fn[i]?=some true->ord i<E
  lower:∀(j:Nat) c,fn[j]?=some true->g[j]?=some c->∀e∈hp,c<=e.key
  ent:∀e∈hp,∃i:Nat,e.item=(i:Int)/\i<L.length/\∀c,g[i]?=some c->c<=e.key
  opn:∀(i:Nat) c,fn[i]?=some false->g[i]?=some c->∃e∈hp,e.key=c/\e.item=(i:Int)
  bound:∀(i:Nat) c,g[i]?=some c->0<=c/\c<=(E:Int)*1048576
  nogoal:∀(j:Nat) s,fn[j]?=some true->L[j]?=some s->holdsB t.goal s=false
  rel:∀(j:Nat) s q,fn[j]?=some true->L[j]?=some s->q∈sel s->D j q->∃(k:Nat) (o:Opr) (i:Nat) (c c':Int),q=(k:Int)/\t.ops[k]?=some o/\L[i]?=some (succ o s)/\g[j]?=some c/\g[i]?=some c'/\c'<=c+o.cost
  num:cnt fn=E
  rch:∀(i:Nat) s,L[i]?=some s->Rch t s
  first:0<E->fn[0]?=some true
section
variable {t:Tsk}{sel:List Int → List Int}{D:Nat → Int → Prop}{L L':List (List Int)}{lk lk':List RLk}{g g':List Int}{fn fn':List Bool}{hp hp':List QEn}{ord:Nat → Nat}{E:Nat}
theorem SrI.upd(h:SrI t sel D L lk g fn hp ord E)(hok:TaskOk t){i p q:Nat}{o:Opr}{s sp:List Int}{x cp lc:Int}{e:QEn}(hL:UpL i s L L')(hk:UpL i ⟨(p:Int),(q:Int),lc⟩ lk lk')(hg:UpL i x g g')(hf:UpL i false fn fn')(hh:hp'.Perm (e::hp))(ek:e.key=x)(ei:e.item=(i:Int))
    (l1:lk'.length=L'.length) (l2:g'.length=L'.length) (l3:fn'.length=L'.length) (l4:L.length<=L'.length) (hc:cnt fn'=cnt fn) (hi:L[i]?=none\/(L[i]?=some s/\fn[i]?=some false/\∀c,g[i]?=some c->x<c))
    (ho:t.ops[q]?=some o) (hsp:L[p]?=some sp) (hfp:fn[p]?=some true) (hpre:holdsB o.pre sp=true) (hs:succ o sp=s) (hgp:g[p]?=some cp) (hx:x=cp+o.cost) (hmax:∀(j:Nat) c,fn[j]?=some true->g[j]?=some c->c<=cp) (hxE:x<=(E:Int)*1048576) :
    SrI t sel D L' lk' g' fn' hp' ord E:=by
  have hoc:=(hok.2.2.2.2.2 q o ho).1;have hcp:=(h.bound p cp hgp).1;have hfin:∀j:Nat,fn[j]?=some true->j≠i:=λj hj e=>by
    subst e;rcases hi with hn|⟨_,hn,_⟩
    . have:=AF hj;rw[h.lenf]at this;rw[C9]at hn;omega
    . rw[hj]at hn;cases hn
  have hfin':∀j:Nat,fn'[j]?=some true->j≠i/\fn[j]?=some true:=λj hj=>by
    have hne:j≠i:=λe=>(by subst e;rw[hf.1]at hj;cases hj);exact⟨hne,by rw[<- hf.2 j hne];exact hj⟩
  have h0:(0:Nat)≠i:=λe=>by
    subst e;rcases hi with hn|⟨_,_,hn⟩
    . rw[h.root]at hn;cases hn
    . have:=hn 0 h.root0;omega
  have hpi:=hfin p hfp;have hiL:i<L'.length:=AF hL.1;refine⟨by rw[hL.2 0 h0];exact h.root,by rw[hg.2 0 h0];exact h.root0,l1,l2,l3,?_,?_,?_,?_,?_,?_,?_,?_,by rw[hc];exact h.num,?_,?_⟩
  . intro j s' k c hs' hk' hc';by_cases e1:j=i
    . subst e1;rw[hL.1]at hs';rw[hk.1]at hk';rw[hg.1]at hc';obtain rfl:=Q1 hs';obtain rfl:=Q1 hk';obtain rfl:=Q1 hc';exact .inr ⟨p,q,o,sp,cp,rfl,rfl,ho,by rw[hL.2 p hpi];exact hsp,by rw[hf.2 p hpi];exact hfp,hpre,hs,by rw[hg.2 p hpi];exact hgp,hx,λhh=>by rw[hf.1]at hh;cases hh⟩
    . rw[hL.2 j e1]at hs';rw[hk.2 j e1]at hk';rw[hg.2 j e1]at hc';rcases h.link j s' k c hs' hk' hc' with hh|⟨p',q',o',sp',c',a1,a2,a3,a4,a5,a6,a7,a8,a9,a10⟩
      . exact .inl hh
      . have hne:=hfin p' a5;exact .inr ⟨p',q',o',sp',c',a1,a2,a3,by rw[hL.2 p' hne];exact a4,by rw[hf.2 p' hne];exact a5,a6,a7,by rw[hg.2 p' hne];exact a8,a9,λhh=>a10 (hfin' j hh).2⟩
  . exact λj hj=>h.ordl j (hfin' j hj).2
  . intro j c hj hcj e' he';obtain⟨hne,hj⟩:=hfin' j hj;rw[hg.2 j hne]at hcj;rcases S0.1 (hh.mem_iff.1 he')with rfl|hm
    . have:=hmax j c hj hcj;omega
    . exact h.lower j c hj hcj e' hm
  . intro e' he';rcases S0.1 (hh.mem_iff.1 he')with rfl|hm
    . exact⟨i,ei,hiL,λc hc=>by rw[hg.1]at hc;have:=Q1 hc;omega⟩
    . obtain⟨j,j1,j2,j3⟩:=h.ent e' hm;refine⟨j,j1,by omega,λc hc=>?_⟩;by_cases e1:j=i
      . subst e1;rw[hg.1]at hc;obtain rfl:=Q1 hc;rcases hi with hn|⟨_,_,hn⟩
        . rw[C9]at hn;omega
        . obtain⟨c0,hc0⟩:=AK (l:=g) (k:=j) (by rw[h.leng];exact j2);have:=j3 c0 hc0;have:=hn c0 hc0;omega
      . rw[hg.2 j e1]at hc;exact j3 c hc
  . intro j c hj hcj;by_cases e1:j=i
    . subst e1;rw[hg.1]at hcj;obtain rfl:=Q1 hcj;exact⟨e,hh.mem_iff.2 K6,ek,ei⟩
    . rw[hf.2 j e1]at hj;rw[hg.2 j e1]at hcj;obtain⟨e',m,r⟩:=h.opn j c hj hcj;exact⟨e',hh.mem_iff.2 (H0 _ m),r⟩
  . intro j c hcj;by_cases e1:j=i
    . subst e1;rw[hg.1]at hcj;obtain rfl:=Q1 hcj;omega
    . rw[hg.2 j e1]at hcj;exact h.bound j c hcj
  . intro j s' hj hs';obtain⟨hne,hj⟩:=hfin' j hj;rw[hL.2 j hne]at hs';exact h.nogoal j s' hj hs'
  . intro j s' q' hj hs' hq hD;obtain⟨hne,hj⟩:=hfin' j hj;rw[hL.2 j hne]at hs';obtain⟨k,o',i',c,c',a1,a2,a3,a4,a5,a6⟩:=h.rel j s' q' hj hs' hq hD;by_cases e1:i'=i
    . subst e1;rcases hi with hn|⟨hn1,_,hn⟩
      . rw[hn]at a3;cases a3
      . rw[hn1]at a3;have:=hn c' a5;exact⟨k,o',i',c,x,a1,a2,by rw[hL.1];exact a3,by rw[hg.2 j hne];exact a4,hg.1,by omega⟩
    . exact⟨k,o',i',c,c',a1,a2,by rw[hL.2 i' e1];exact a3,by rw[hg.2 j hne];exact a4,by rw[hg.2 i' e1];exact a5,a6⟩
  . intro j s' hs';by_cases e1:j=i
    . subst e1;rw[hL.1]at hs';obtain rfl:=Q1 hs';rw[<- hs];exact(h.rch p sp hsp).step ho hpre
    . rw[hL.2 j e1]at hs';exact h.rch j s' hs'
  . intro hE;rw[hf.2 0 h0];exact h.first hE
theorem SrI.drop(h:SrI t sel D L lk g fn hp ord E){e:QEn}(d:hp.Perm (e::hp')){i:Nat}(hi:e.item=(i:Int))(hd:fn[i]?=some true∨g[i]?≠some e.key):SrI t sel D L lk g fn hp' ord E :=
  { h with
    lower:=λj c hj hc b a=>h.lower j c hj hc b (d.mem_iff.2 (H0 _ a))
    ent:=λb a=>h.ent b (d.mem_iff.2 (H0 _ a))
    opn := λj c hj hc=>by
      obtain⟨b,m,k1,k2⟩:=h.opn j c hj hc;rcases S0.1 (d.mem_iff.1 m)with rfl|hm
      . exfalso;have f:i=j:=(by omega);subst f;rcases hd with hd|hd
        . rw[hj]at hd;cases hd
        . exact hd (by rw[k1];exact hc)
      . exact⟨b,hm,k1,k2⟩ }
theorem SrI.mark(I:SrI t sel (λ_ _=>True) L lk g fn hp ord E){e:QEn}(o:hp.Perm (e::hp'))(w:∀x∈hp,nb x e){i:Nat}{s:List Int}(hi:e.item=(i:Int))(hf:fn[i]?=some false)(hc:g[i]?=some e.key)(hs:L[i]?=some s)(D:holdsB t.goal s=false) :
    SrI t sel (λj _=>j≠i) L lk g (fn.set i true) hp' (λj=>if j=i then E else ord j) (E+1):=by
  have p:=AF hf;have a:∀j:Nat,(fn.set i true)[j]?=some true->j=i\/(j≠i/\fn[j]?=some true):=λj hj=>by
    by_cases v:j=i
    . exact .inl v
    . rw[H7 (by omega)]at hj;exact .inr ⟨v,hj⟩
  have f:∀j:Nat,fn[j]?=some true->j≠i/\(fn.set i true)[j]?=some true:=λj hj=>by
    have n:j≠i:=λv=>(by subst v;rw[hf]at hj;cases hj);exact⟨n,by rw[H7 (by omega)];exact hj⟩
  refine⟨I.root,I.root0,I.lenk,I.leng,by simp[I.lenf],?_,?_,?_,?_,?_,?_,?_,?_,by rw[SB hf,I.num],I.rch,?_⟩
  . intro j y k c b A B;rcases I.link j y k c b A B with o|⟨z,q',o',sp',c',a1,a2,a3,a4,a5,a6,a7,a8,a9,a10⟩
    . exact .inl o
    . obtain⟨n,hp2⟩:=f z a5;refine .inr ⟨z,q',o',sp',c',a1,a2,a3,a4,hp2,a6,a7,a8,a9,λhj=>?_⟩;rw[if_neg n];rcases a j hj with rfl|⟨h,hj2⟩
      . rw[if_pos rfl];exact I.ordl z a5
      . rw[if_neg h];exact a10 hj2
  . intro j hj;rcases a j hj with rfl|⟨h,hj2⟩
    . rw[if_pos rfl];omega
    . rw[if_neg h];have:=I.ordl j hj2;omega
  . intro j c hj d r u;have hm:r∈hp:=o.mem_iff.2 (H0 _ u);rcases a j hj with rfl|⟨_,hj2⟩
    . rw[hc]at d;obtain rfl:=Q1 d;exact Ol (w r hm)
    . exact I.lower j c hj2 d r hm
  . exact λr u=>I.ent r (o.mem_iff.2 (H0 _ u))
  . intro j c hj d;have n:j≠i:=λv=>(by subst v;rw[E9 p]at hj;cases hj);rw[H7 (by omega)]at hj;obtain⟨r,m,k1,k2⟩:=I.opn j c hj d;rcases S0.1 (o.mem_iff.1 m)with rfl|hm
    . omega
    . exact⟨r,hm,k1,k2⟩
  . intro j c d;have:=I.bound j c d;omega
  . intro j y hj b;rcases a j hj with rfl|⟨_,hj2⟩
    . rw[hs]at b;obtain rfl:=Q1 b;exact D
    . exact I.nogoal j y hj2 b
  . intro j y q hj b F G;rcases a j hj with rfl|⟨_,hj2⟩
    . exact absurd rfl G
    . exact I.rel j y q hj2 b F trivial
  . intro _;by_cases C:i=0
    . subst C;exact E9 p
    . have H:0<E:=by
        obtain⟨k,hk⟩:=AK (l:=lk) (k:=i) (by rw[I.lenk,<- I.lenf];exact p);rcases I.link i s k _ hs hk hc with⟨o,_⟩|⟨z,_,_,_,_,_,_,_,_,a5,_⟩
        . exact absurd o C
        . rw[<- I.num];exact SC a5
      exact(f 0 (I.first H)).2
theorem SrI.front(u:SrI t sel (λ_ _=>True) L lk g fn hp ord E)(a:TaskOk t){s:List Int}{C:Int}(d:WalkS t sel s C):∀(i:Nat) c,L[i]?=some s->g[i]?=some c->∃e∈hp,e.key<=c+C:=by
  induction d with
  |@goal s h =>
    intro i c hi hc;obtain⟨b,hb⟩:=AK (l:=fn) (k:=i) (by rw[u.lenf];exact AF hi);cases b with
    |false=>obtain⟨e,m,k1,_⟩:=u.opn i c hb hc;exact⟨e,m,by omega⟩
    |true=>have:=u.nogoal i s hb hi;rw[h]at this;cases this
  |@step s k o C f hk d j =>
    intro i c hi hc;have q:=Uk a d;have r:=(a.2.2.2.2.2 k o f).1;obtain⟨b,hb⟩:=AK (l:=fn) (k:=i) (by rw[u.lenf];exact AF hi);cases b with
    |false=>obtain⟨e,m,k1,_⟩:=u.opn i c hb hc;exact⟨e,m,by omega⟩
    |true =>
      obtain⟨n,o',i',c0,c',a1,a2,a3,a4,a5,a6⟩:=u.rel i s _ hb hi hk trivial;have p:k=n:=(by omega);subst p;rw[f]at a2;obtain rfl:=Q1 a2;rw[hc]at a4;obtain rfl:=Q1 a4;obtain⟨e,m,k1⟩:=j i' c' a3 a5;exact⟨e,m,by omega⟩
theorem SrI.pathF(e:SrI t sel D L lk g fn hp ord E):∀(n i:Nat) s c,ord i<n->fn[i]?=some true->L[i]?=some s->g[i]?=some c->∃p,PathL lk i p/\PlanR t t.init p s c/\p.length<=ord i:=by
  intro n
  induction n with
  |zero=>intro i s c hn;omega
  |succ n a =>
    intro i s c hn hf hi hc;obtain⟨k,hk⟩:=AK (l:=lk) (k:=i) (by rw[e.lenk];exact AF hi);rcases e.link i s k c hi hk hc with⟨rfl,h1,rfl⟩|⟨b,q',o',sp',c',a1,a2,a3,a4,a5,a6,a7,a8,a9,a10⟩
    . rw[e.root]at hi;obtain rfl:=Q1 hi;exact⟨[],.root hk (by omega),.nil,by simp⟩
    . have d:=a10 hf;obtain⟨p,b1,b2,b3⟩:=a b sp' c' (by omega) a5 a4 a8;refine⟨p++[k.op],.step hk a1 b1,?_,by simp;omega⟩;rw[a2,a9,<- a7];exact b2.snoc a3 a6
theorem SrI.path(d:SrI t sel D L lk g fn hp ord E){i:Nat}{s:List Int}{c:Int}(hi:L[i]?=some s)(hc:g[i]?=some c):∃p,PathL lk i p/\PlanR t t.init p s c/\p.length<=E:=by
  obtain⟨k,hk⟩:=AK (l:=lk) (k:=i) (by rw[d.lenk];exact AF hi);rcases d.link i s k c hi hk hc with⟨rfl,h1,rfl⟩|⟨a,q',o',sp',c',a1,a2,a3,a4,a5,a6,a7,a8,a9,a10⟩
  . rw[d.root]at hi;obtain rfl:=Q1 hi;exact⟨[],.root hk (by omega),.nil,by simp⟩
  . have b:=d.ordl a a5;obtain⟨p,b1,b2,b3⟩:=d.pathF (ord a+1) a sp' c' (by omega) a5 a4 a8;refine⟨p++[k.op],.step hk a1 b1,?_,by simp;omega⟩;rw[a2,a9,<- a7];exact b2.snoc a3 a6
theorem SrI.more(v:SrI t sel D L lk g fn hp ord E){d:Nat→Int→Prop}{j₀:Nat}{q₀:Int}(e:∀j q,d j q→D j q∨(j=j₀∧q=q₀)){s:List Int}(hs:L[j₀]?=some s){k:Nat}{o:Opr}{i:Nat}{c b:Int}(f:q₀=(k:Int))(h:t.ops[k]?=some o)(l:L[i]?=some (succ o s))(m:g[j₀]?=some c)(n:g[i]?=some b)(p:b≤c+o.cost):SrI t sel d L lk g fn hp ord E :=
  { v with
    rel:=λj r q hj a u hd=>by
      rcases e j q hd with hd|⟨rfl,rfl⟩
      . exact v.rel j r q hj a u hd
      . rw[hs]at a;obtain rfl:=Q1 a;exact⟨k,o,i,c,b,f,h,l,m,n,p⟩ }
end
end
section
open Go Go.RowKit
attribute [local irreducible] ewp owp hwp hwq hws Ev Evg Fn W6 X7 X4 X1
noncomputable def HS(a:Err)(b:Int):Option Bool :=
  bnd (if a.n≠0 then(bnd (Hk (⟨a.n⟩:Err)) λc=>if c=b then(some true)else(some false))else(some false):Option Bool) λd=>some d
section
attribute [local irreducible] Vb Lc Rw Ob
theorem Um{w:World}{A:Nat->Prop}(hA:∀k,A k->k<w.heap.size){b:Err}(g:W1 b.n){c:Int}(h:W1 c){r:Bool}(hm:HS b c=some r) :
    Fn prog 13 [(ZI b.n),(.int .i64 c)] w λv w'=>Ext w w'/\Vb w' (upA A w w') v r:=by
 obtain⟨_,_,_⟩:=Db hA;refine AG func13 rfl ntmps13 ?_;unfold HS at hm;refine Aj (Ae (Au rfl (o_z (Aj (Dp (X:=Unit) hm [] [] [] [] (λ_ _ d _ t=>(4,.bool d)::t) (λ_ _ _ _ t=>t) ?_ ?_)))))
 ·intro d a;refine Ae (Ar rfl (Cy rfl (λe=>?_) λe=>?_))
  ·replace a:=ip a e;refine Ar rfl (Az rfl rfl (Ar rfl (Az rfl rfl ?_)));obtain⟨i,c0,a⟩:=bs a;refine DE rfl (Lh (λ_ j=>j) zI c0) ?_;intros;refine Az rfl rfl (Ar rfl (Az rfl rfl (EH rfl rfl (λf=>?_) λf=>?_)))
   ·replace a:=ip a f;refine AV rfl rfl (Au rfl (o_z ?_));obtain rfl:=sm a;exact Bb ()
   replace a:=im a f;refine AV rfl rfl (Au rfl (o_z ?_));obtain rfl:=sm a;exact Bb ()
  replace a:=im a e;refine Ar rfl (Ay rfl rfl (Ay rfl rfl (Ay rfl rfl (Ay rfl rfl (AS rfl rfl (Au rfl (o_z ?_)))))));obtain rfl:=sm a;exact Bb ()
 intro d _ _ _ _ hm;intros;refine BP ?_;refine AD ?_;obtain rfl:=sm hm;exact Ca
end
noncomputable def HB(h:List Int)(c:Int):Option Int :=
  bnd (rng (ρ:=Int) (λ(i:Nat)(d:Int)(j:Int)=>bnd (W5 (c+1)) λe=>bnd (W5 (j*(min (max d 0) e))) λa=>if c<a then(bnd (W5 (c+1)) λf=>some (.ret f))else(some (.next a))) h 0 1) λb=>fin b λ(g:Int)=>some g
section
attribute [local irreducible] Vb Lc Rw Ob
theorem RN{w:World}{A:Nat->Prop}(hA:∀k,A k->k<w.heap.size){b:Value}{f:List Int}(g:Vb w A b f){d:Int}(h:W1 d){r:Int}(hm:HB f d=some r) :
    Fn prog 5 [b,(.int .i64 d)] w λv w'=>Ext w w'/\Vb w' (upA A w w') v r:=by
 obtain⟨_,_,_⟩:=Db hA;apply CZ g;intros;refine AG func5 rfl ntmps5 ?_;unfold HB at hm;refine Aj (Ae (Au rfl (o_z (Aj (Ae (Au rfl (o_z (Aj (Aj (Ae (Ar rfl (AO rfl (Ar rfl (o_z ?_))))))))))))));refine Fq (X:=Unit) hm [1,8] [] [] [] (λ_ _ c _ t=>(5,.int .i64 c)::t) (λ_ _ c _ t=>fI c::t) () ?_ ?_
 ·intro j l c _ _ _ _ a m _ i;intros;refine Aj (Ae (FW ?_));intros;refine Le (Au rfl (o_z (Aj (Ae (Ar rfl (Ar rfl (Qa rfl rfl rfl (Ar rfl ?_))))))));obtain⟨n,f0,a⟩:=bs a;refine DM (he:=f0) rfl rfl (PZ rfl rfl rfl ?_);obtain⟨l0,g0,a⟩:=bs a;refine Mv (he:=g0) rfl rfl rfl (Au rfl (o_z (Aj (Ae (Ar rfl (Ar rfl (Cq rfl rfl (λe=>?_) λe=>?_)))))))
  ·replace a:=ip a e;refine o_z (Am rfl (Aj (Ae (Ar rfl ?_))));obtain⟨o,h0,a⟩:=bs a;refine DM (he:=h0) rfl rfl (Au rfl (o_z (AD ?_)));obtain rfl:=sm a;obtain rfl:=i _ rfl;exact Ca
  replace a:=im a e;refine o_z (Ah rfl (AE ?_));exact EI () a
 intro p _ _ _ _ hm;intros;refine BP ?_;refine Aj (Ae (Ar rfl (Au rfl (o_z (AD ?_)))));obtain rfl:=sm hm;exact Ca
end
end
section
open Go Go.RowKit
theorem PlanR.bound{t:Tsk}(g:TaskOk t){s p a:List Int}{C:Int}(hr:PlanR t s p a C):0<=C/\C<=(p.length:Int)*1048576:=by
  induction hr with
  |nil=>simp
  |@cons s b a k o C c _ _ d =>
    have e:=(g.2.2.2.2.2 k o c).1;have f:=(g.2.2.2.2.2 k o c).2.1;simp only[M8];omega
theorem IQ{α:Type}[DecidableEq α]:∀{a b:List α},a.Nodup->(∀x∈a,x∈b)->a.length<=b.length
  |[],_,_,_=>V5 _
  |x::a,b,hn,hs=>by
    have c:=hs x K6;have f:=IQ (a:=a) (b:=b.erase x) (R3.1 hn).2 λy d=>(List.mem_erase_of_ne (λe=>(R3.1 hn).1 (by rw[<- e];exact d))).2 (hs y (H0 _ d));have g:=List.length_erase_of_mem c;have h:=List.length_pos_of_mem c;simp only[M8];omega
def marked:List (List Int)->List Bool->List (List Int)
  |s::l,b::bs=>if b=true then s::marked l bs else marked l bs
  |_,_=>[]
theorem Oo:∀(l:List (List Int))(bs:List Bool),bs.length=l.length->(marked l bs).length=cnt bs
  |[],bs,h=>by have:bs=[]:=List.length_eq_zero_iff.1 h;subst this;rfl
  |s::l,[],h=>by simp at h
  |s::l,b::bs,h=>by
    have:=Oo l bs (by simpa using h);simp only[marked,cnt]at this ⊢;cases b<;>simp[this]
theorem Lt:∀{l:List (List Int)}{bs:List Bool}{i:Nat}{s:List Int},l[i]?=some s->bs[i]?=some true->s∈marked l bs
  |[],bs,i,s,h,_=>by simp at h
  |s::l,[],i,s',_,h=>by simp at h
  |s::l,b::bs,0,s',h1,h2=>by simp at h1 h2;subst h1 h2;simp[marked]
  |s::l,b::bs,i+1,s',h1,h2=>by
    have:=Lt (l:=l) (bs:=bs) (i:=i) (by simpa using h1) (by simpa using h2);simp only[marked];split
    . exact H0 _ this
    . exact this
theorem Re{L:List (List Int)}(b:∀(i j:Nat) s,L[i]?=some s->L[j]?=some s->i=j):L.Nodup:=by
  rw[C2,D0];intro i j hi hj a he;have:=b i j L[i] (D1 hi) (by rw[he];exact D1 hj);omega
end
section
open Go Go.RowKit
theorem Rf:∀(p:List Fct)(v:Int),fdV p v=-1\/∃f∈p,f.var=v/\fdV p v=f.val
  |[],_=>.inl rfl
  |f  :: p,v=>by
    rw[fdV];by_cases b:f.var=v
    . rw[if_pos b];exact .inr ⟨f,K6,b,rfl⟩
    . rw[if_neg b];rcases Rf p v with a|⟨g,hg,a⟩
      . exact .inl a
      . exact .inr ⟨g,H0 _ hg,a⟩
def Z6(vars:List Int)(p:List Fct):List Int:=(List.range vars.length).map λv:Nat=>fdV p (v:Int)+1
theorem WH{vars:List Int}{p:List Fct}(g:FactsOk vars p)(d:∀(i:Nat) n,vars[i]?=some n->1<=n):StateOk (vars.map (· + 1)) (Z6 vars p):=by
  refine⟨by unfold Z6;simp,λi x y a c=>?_⟩;rw[M3]at c;obtain⟨n,hn,rfl⟩:=E7.1 c;unfold Z6 at a;rw[M3,I9 (AF hn),R0]at a;obtain rfl:=Q1 a;have:=d i n hn;rcases Rf p (i:Int)with b|⟨f,hf,b,h2⟩
  . rw[b];omega
  . obtain⟨e,g2,m,hm,g3⟩:=(Aao.1 g).1 f hf;rw[b,M6,hn]at hm;obtain rfl:=Q1 hm;rw[h2];omega
theorem Rg{vars:List Int}{p q:List Fct}(b:FactsOk vars p)(he:Z6 vars p=Z6 vars q):∀f∈p,f∈q:=λf hf=>by
  obtain⟨h,g2,m,hm,g3⟩:=(Aao.1 b).1 f hf;have d:=Ss b.ps f hf;have hlt:=AF hm;have a:(Z6 vars p)[f.var.toNat]?=(Z6 vars q)[f.var.toNat]?:=(by rw[he]);unfold Z6 at a;rw[M3,M3,I9 hlt,R0,R0]at a;have e:=Q1 a;rw[show((f.var.toNat:Nat):Int)=f.var by omega,d]at e;rcases Rf q f.var with c|⟨g,hg,c,h4⟩
  . omega
  . have:g=f:=by
      cases g;cases f;simp only[Fct.mk.injEq]at *
      exact⟨c,by omega⟩
    rw[<- this];exact hg
theorem Rh{p:List Fct}(d:Ps p):p.Nodup:=d.2.imp λ{a b} c e=>by subst e;omega
theorem Vy{vars:List Int}{p q:List Fct}(a:FactsOk vars p)(b:FactsOk vars q)(he:Z6 vars p=Z6 vars q):p=q :=
  MS ((List.perm_ext_iff_of_nodup (Rh a.ps) (Rh b.ps)).2 λf=>⟨Rg a he f,Rg b he.symm f⟩) a.ps.2 b.ps.2 λx y c d=>by omega
theorem Ri{vars:List Int}(g:vars.length<=16)(f:∀(i:Nat) n,vars[i]?=some n->1<=n/\n<=64)(k:Y7 (vars.map (· + 1)) 1<=1024):ZD vars:=by
  refine⟨g,f,λL h c=>?_⟩;have hn:(L.map (Z6 vars)).Nodup:=by
    unfold List.Nodup;rw[List.pairwise_map];exact h.imp_of_mem λ{a b} j hb d e=>d (Vy (c a j) (c b hb) e)
  have:=IQ hn (b:=statesL (vars.map (· + 1))) λs hs=>by
    obtain⟨p,hpL,rfl⟩:=U9.1 hs;exact HA.2 (WH (c p hpL) λi n hn=>(f i n hn).1)
  rw[R1,KG]at this;omega
theorem Oq:∀(a:List Int)(k:Int)(n:Nat),Y7 (a++[k]) n=Y7 a n*k.toNat
  |[],_,_=>rfl
  |x::a,k,n=>by
    show Y7 (a++[k]) (n*x.toNat)=_;rw[Oq];rfl
theorem Ot:∀(a:List Int){n m:Nat},n<=m->Y7 a n<=Y7 a m
  |[],_,_,h=>h
  |x::a,_,_,h=>Ot a (G8 _ h)
theorem Rj:∀(a:List Int)(n:Nat),(∀x∈a,2<=x)->Y7 (a.map (· + 1)) (n*n)<=Y7 a n*Y7 a n
  |[],n,_=>V2 _
  |x::a,n,h=>by
    have e:=h x K6;obtain⟨m,rfl⟩:∃m:Nat,x=(m:Int):=⟨x.toNat,by omega⟩;have hm:2<=m:=(by omega);have b:=Rj a (n*m) λy c=>h y (H0 _ c);simp only[R9,Y7];refine U8 (Ot _ ?_) b;have d:((m:Int)+1).toNat=m+1:=(by omega);rw[d,show n*m*(n*m)=n*n*(m*m)by rw[Nat.mul_assoc,Nat.mul_left_comm m n m,<- Nat.mul_assoc]];refine Nat.mul_le_mul_left _ ?_;have:=Nat.mul_le_mul_left m hm;omega
end
section
open Go.Shelf
def RO:Go.Shelf.Ren:=⟨fun|170=>80|n=>n,fun|70=>170|3=>3|0=>0|72=>173|37=>171|5=>5|n=>n,fun|n=>n⟩
theorem Acj:Go.Proofs.Lays.n170 prog RO:={
  mixed:=by kernel_rfl
  f170:=func80.trans (congrArg some (by kernel_rfl))
  t0:=underlying0
  a0:=isAgg0
  z0:=sizeOf0
  v0:=zeroValue0
  t3:=underlying3
  a3:=isAgg3
  z3:=sizeOf3
  v3:=zeroValue3
  t37:=underlying171
  a37:=isAgg171
  z37:=sizeOf171
  v37:=zeroValue171
  t70:=underlying170
  a70:=isAgg170
  z70:=sizeOf170
  v70:=zeroValue170
  t72:=underlying173
  a72:=isAgg173
  z72:=sizeOf173
  v72:=zeroValue173 }
def MW:Go.Shelf.Ren:=⟨fun|169=>81|n=>n,fun|70=>170|9=>9|0=>0|72=>173|37=>171|127=>214|3=>3|5=>5|n=>n,fun|n=>n⟩
theorem Ach:Go.Proofs.Lays.n169 prog MW:={
  mixed:=by kernel_rfl
  f169:=func81.trans (congrArg some (by kernel_rfl))
  t0:=underlying0
  a0:=isAgg0
  z0:=sizeOf0
  v0:=zeroValue0
  t3:=underlying3
  a3:=isAgg3
  z3:=sizeOf3
  v3:=zeroValue3
  t9:=underlying9
  a9:=isAgg9
  z9:=sizeOf9
  v9:=zeroValue9
  t37:=underlying171
  a37:=isAgg171
  z37:=sizeOf171
  v37:=zeroValue171
  t70:=underlying170
  a70:=isAgg170
  z70:=sizeOf170
  v70:=zeroValue170
  t72:=underlying173
  a72:=isAgg173
  z72:=sizeOf173
  v72:=zeroValue173
  t127:=underlying214
  a127:=isAgg214
  z127:=sizeOf214
  v127:=zeroValue214 }
theorem Tryz.Builder_Extra_169:Builder.Extra prog MW:={
  sizeBuilder:=by kernel_rfl
  liesBuilder:=by kernel_rfl
  t5:=underlying5
  a5:=isAgg5
  z5:=sizeOf5
  v5:=zeroValue5
  infoByte:=by kernel_rfl
  cellsByte:=by kernel_rfl
  sizeByte:=by kernel_rfl
  neB5:=by decide }
open Go.RowKit in
theorem Tryz.Builder_Len_f(a b:Nat)(bs:List Value)(w:World)(c:Lib.IsBuilderF 173 5 a b bs w) :
    Calls prog 80 #[.pointer (some ⟨b,0,none⟩)] w λe w'=>e=.returned (.int .i64 bs.length)/\w'=w:=Any.Builder_Len_f Acj a b bs w c
open Go.RowKit in
theorem Tryz.Builder_String_k(c b:Nat)(l:List UInt8)(w:World)(d:Lib.IsBuilderF 173 5 c b (Lib.byteCells l) w)(a:l≠[]) :
    Calls prog 81 #[.pointer (some ⟨b,0,none⟩)] w λe w'=>e=.returned (.string ⟨l.toArray⟩)/\(Lib.IsBuilderF 173 5 c b (Lib.byteCells l) w'/\Below c w w'/\Lib.OthersKept 5 (some b) w w'):=Any.Builder_String_k Ach Tryz.Builder_Extra_169 c b l w d a
end
section
open Go Go.RowKit Go.Lib
def BldA(i:Nat)(w:World)(O:Lab)(b:Nat)(s:List UInt8):Prop:=∃p v,(p=.pointer none\/p=.pointer (some ⟨b,0,none⟩))/\Lc i w O b 173 [p,v]/\w.ownsRow 0 5 1 v s.length (Lib.byteCells s)/\v.ownBlock≠some b/\∀g,v.ownBlock=some g->O g=i
theorem JZ{w w':World}{base:Nat}{e:TypeId}{k n:Nat}{v:Value}{xs:List Value}(a:w.ownsRow base e k v n xs)(hk:∀g,v.ownBlock=some g->w'.heap[g]?=w.heap[g]?):w'.ownsRow base e k v n xs:=by
  refine⟨a.1,?_⟩;rcases a.2 with a|⟨g,cap,cur,rfl,h1,h2,h3⟩
  . exact .inl a
  . exact .inr ⟨g,cap,cur,rfl,h1,(hk g rfl).trans h2,h3⟩
theorem Ou{w:World}{base:Nat}{e:TypeId}{k n:Nat}{v:Value}{xs:List Value}(h:w.ownsRow base e k v n xs){g:Nat}(a:v.ownBlock=some g):g<w.heap.size:=by
  rcases h.2 with⟨rfl,_⟩|⟨b,cap,cur,rfl,_,c,_⟩
  . simp[Value.ownBlock]at a
  . have:b=g:=(by simpa[Value.ownBlock]using a);subst this;rcases T9 b w.heap.size with h|h
    . exact h
    . rw[E6 h]at c;cases c
theorem BldA.st{i:Nat}{w w':World}{O c:Lab}{b:Nat}{s:List UInt8}{e:Nat->Prop}(f:BldA i w O b s)(d:St e w O w' c)(hi:¬e i:=by decide):BldA i w' c b s:=by
  obtain⟨p,v,h1,h2,h3,h4,h5⟩:=f;have hk:∀g,v.ownBlock=some g->w'.heap[g]?=w.heap[g]?/\c g=O g:=λg a=>d.same g (Ou h3 a) (by rw[h5 g a];exact hi);exact⟨p,v,h1,h2.st d hi,JZ h3 λg a=>(hk g a).1,h4,λg a=>(hk g a).2.trans (h5 g a)⟩
section
variable {P:Program}{l:Env}{w:World}{dst:Option Tmp}{ty:TypeId}{pos:String}{aft:Array Edge}
theorem Un{s t:TypeId}{x:Operand}{u v:Value}(a:opv l x=some u)(hr:∀d,(convert s t u).run P (dr w d)=.ok v (dr w d)):Ev P ⟨dst,.convert s t x,ty,pos,aft,none⟩ l w v:=λ_ _ e b=>by
  simp[execOp,b.eval a,hr]
theorem Vz{b c u:TypeId}[f:TPtr P b c]{z:Value}{size bytes:Nat}[hi:TInfo P c z size bytes]{x y:Operand}{a:Addr}(g:opv l x=some (.pointer (some a)))(h:opv l y=some (.pointer (some a))):Ev P ⟨dst,.binOp .neq b x y u,ty,pos,aft,none⟩ l w (.bool false):=λ_ _ e d=>by
  obtain⟨j,hj,_⟩:=hi.eq;have:=run_neq_ptr_same (P:=P) (dr w e) a f.eq hj;simp[execOp,d.eval g,d.eval h,eqGuard,this]
end
section
variable {P:Program}{n:Nat}{ops:Array Oper}{Q:X0}{rest:List Oper}{l:Env}{w:World}{d:Tmp}{ty:TypeId}{pos:String}{aft:Array Edge}
theorem Uo{f : FuncId}{c : Func}(hf : P.funcs[f]?=some c)(b : (c.name == "runtime.NumGoroutine")=false)(e : c.body.isNone=true)(hn : Extern.findNext c=none)(he : Extern.find c=some Extern.AbiNoEscape.same){x : Operand}{v : Value}{i : Array TypeId}(j : opv l x=some v)
    (hd:Nat.blt d n=true) (k:owp P n ops Q rest ((d,v)::l) w):owp P n ops Q (⟨some d,.call { callee:=.value (.func f),args:=#[x],argTypes:=i },ty,pos,aft,none⟩::rest) l w :=
  HL (w':=w) (λa q h=>.inl ⟨v,q,by
    have g:a.eval (.func f)=.func (.func f) #[] #[]:=rfl;have hr:=run_callFunc_extern hf b e hn he #[v] (dr w q);rw[run_noEscape]at hr;simp[execOp,resolve,g,Deferred.ofValue,invoke,h.eval j,hr],h.put hd _⟩) k
theorem WI{t u e:TypeId}[r:TSlice P t e][hu:TStr P u]{bytes:Nat}[hi:TInfo P e (.int .u8 0) 1 bytes](h:bytes=1){x y:Operand}{v:Value}{m:Nat}{xs:List Value}{s:ByteArray}(E:opv l x=some v)(F:opv l y=some (.string s))(C:w.ownsRow 0 e 1 v m xs)(hl:m+s.size≤1000000)(hd:Nat.blt d n=true)
    (I:∀c w',w'.ownsRow 0 e 1 c (m+s.size) (xs++strCells s)->w.grownBy w' v.ownBlock->(c.ownBlock=v.ownBlock\/c.ownBlock=some w.heap.size)->owp P n ops Q rest ((d,c)::l) w'):owp P n ops Q (⟨some d,.call { callee:=.builtin .append,args:=#[x,y],argTypes:=#[t,u] },ty,pos,aft,none⟩::rest) l w :=
  Il      λa q z K G=>by
    obtain⟨f,i1,i2,i3,i4⟩:=hi.eq;have i:(dr w q).ownsRow 0 e 1 v m xs:=C;obtain⟨c,w',hr,h2,h3,h4⟩:=run_append_own_string (P:=P) (dr w q) 0 t u ty e f r.eq hu.eq i1 i2 i3 (i4.trans h) v m xs i s (by unfold maxLen;omega) (by omega) (V5 _);have H:c.ownBlock=v.ownBlock\/c.ownBlock=some w.heap.size:=by
      have A:xs.length=m:=(by simpa using C.1);rcases i.2 with⟨rfl,rfl⟩|⟨g,cap,cur,rfl,hbg,hg,hnc,hcm,hcs,htake⟩
      . by_cases hm:s.size=0
        . rw[h4.2 ⟨rfl,hm⟩];exact .inl rfl
        . have:=run_append_nil_string (P:=P) (dr w q) t u ty e f (.int .u8 0) r.eq hu.eq i1 i2 s (by omega) (by omega) (by rw[i4,h];omega);rw[this]at hr;injection hr with b p;rw[<- b];exact .inr rfl
      . by_cases k:m+s.size<=cap
        . have D:cur.size=cap:=(by simpa using hcs);have:=run_append_room_string (P:=P) (dr w q) t u ty e f r.eq hu.eq i1 i3 g m cap cur hg s k (by omega);rw[this]at hr;injection hr with b p;rw[<- b];exact .inl rfl
        . have o:∀j u,xs[j]?=some u->(dr w q).cell? ((⟨g,0,none⟩:Addr).add j)=some u:=i.cells (g:=g) rfl;have:=run_append_grow_string (P:=P) (dr w q) t u ty e f (.int .u8 0) r.eq hu.eq i1 i2 ⟨g,0,none⟩ m cap xs (by rw[i3];simpa using A) o s (by omega) (by omega) (by rw[i4,h];exact growslice_fits (by omega) (by omega));rw[this]at hr;injection hr with b p;rw[<- b];exact .inr rfl
    have B:(execOp a.eval ⟨some d,.call { callee:=.builtin .append,args:=#[x,y],argTypes:=#[t,u] },ty,pos,aft,none⟩).run P (dr w q)=.ok (.value c) w':=by
      simp[execOp,resolve,invoke,builtin,z.eval E,z.eval F,hr]
    unfold Oper.wp;rw[B];exact G _ _ (I c w' h2 ⟨h3.os,h3.tape,h3.output,h3.size,h3.block⟩ H _ w'.drawn (z.put hd c))
end
section
variable {i:Nat}{w:World}{O:Lab}{b:Nat}{s:List UInt8}
theorem WJ(c:BldA i w O b s):IsBuilderF 173 5 0 b (Lib.byteCells s) w:=by
  obtain⟨p,v,a,hL,hR,hne,hlab⟩:=c;have:BuilderAt 173 5 0 b p (Lib.byteCells s) w:=⟨V5 _,v,hL.1,by rw[I1];exact hR,hne⟩;rcases a with rfl|rfl
  . exact .inl (T6 this)
  . exact .inr (T6 this)
theorem WK(a:BldA i w O b s):Fn prog 80 [.pointer (some ⟨b,0,none⟩)] w λv w'=>v=.int .i64 s.length/\w'=w:=λd =>
  (Tryz.Builder_Len_f 0 b (Lib.byteCells s) (dr w d) (WJ a)).mono λe w' ⟨he,hw⟩=>⟨_,w,d,he,hw,by rw[I1],rfl⟩
theorem To{c:World}(q:BldA i w O b s)(hs:s≠[]){A:Nat->Prop}(h:Bs c A w O)(l:i≠0)(m:i≠1):Fn prog 81 [.pointer (some ⟨b,0,none⟩)] w λv w'=>v=.string ⟨s.toArray⟩/\Ext c w':=λd=>by
  obtain⟨p,v,n,hL,j,hne,hlab⟩:=q;have a:∀k,O k=i->c.heap.size<=k:=λk hk=>by
    rcases T9 k c.heap.size with hlt|hge
    . rcases h.lab k hlt with⟨_,e⟩|⟨_,e⟩<;>omega
    . exact hge
  have hA:BuilderAt 173 5 c.heap.size b p (Lib.byteCells s) (dr w d):=⟨a b hL.2,v,hL.1,by
    rw[I1];refine⟨j.1,?_⟩;rcases j.2 with q|⟨g,cap,cur,rfl,_,h2⟩
    . exact .inl q
    . exact .inr ⟨g,cap,cur,rfl,a g (hlab g rfl),h2⟩,hne⟩
  have o:IsBuilderF 173 5 c.heap.size b (Lib.byteCells s) (dr w d):=by
    rcases n with rfl|rfl
    . exact .inl (T6 hA)
    . exact .inr (T6 hA)
  refine(Tryz.Builder_String_k c.heap.size b s (dr w d) o hs).mono λe w' ⟨he,_,hb,_⟩=>⟨_,w',w'.drawn,he,rfl,rfl,?_⟩;have f:=h.ext;exact⟨hb.os.trans f.os,hb.tape.trans f.tape,hb.output.trans f.output,U8 f.size hb.size,λk hk=>(hb.block k hk).trans (f.block k hk)⟩
end
attribute [local irreducible] ewp owp hwp hwq hws Ev Evg Fn W6 X7 X4 X1
attribute [local irreducible] hwx YW
section
variable {i:Nat}{w:World}{O:Lab}{b:Nat}{s:List UInt8}
theorem Up(m:BldA i w O b s):Fn prog 109 [.pointer (some ⟨b,0,none⟩)] w λ_ w'=>∃f,St (eT i) w O w' f/\BldA i w' f b s:=by
  obtain⟨p,v,h,hL,hR,hne,hlab⟩:=m;have a:w.shape? b=some (173,2):=(by unfold World.shape?;rw[show w.heap[b]?=_ from hL.1];rfl);obtain⟨j,hj,_,hjs,_⟩:=(inferInstance:TInfo prog 173 _ _ _).eq;refine AG func109 rfl ntmps109 ?_;refine ab ?_;rcases h with rfl|rfl
  . refine Ar rfl (Cm rfl (AJ rfl (AL (hc:=Blk.cell (i:=0) hL.1 rfl) rfl (VZ (b:=true) rfl rfl rfl (λ_=>?_) λm=>absurd rfl m))));refine o_z ?_;refine ab ?_;refine Ar rfl (Ar rfl ?_);refine AT (Un rfl λd=>run_to_unsafe (dr w d) ⟨b,0,none⟩ (inferInstance:TPtr prog 170 _).eq underlying244 hj (by rw[hjs];decide) a (Nat.zero_lt_succ 1)) rfl ?_;refine Uo func136 (by kernel_rfl) (by kernel_rfl) (by kernel_rfl) (by kernel_rfl) rfl rfl ?_;refine AT (Un rfl λd=>run_from_unsafe (dr w d) ⟨b,0,none⟩ underlying244 (inferInstance:TPtr prog 170 _).eq hj a (by kernel_rfl)) rfl ?_;refine Cm rfl (AJ rfl ?_);refine CL rfl rfl hL.1 rfl (Bg) (allOne) λl c=>?_;refine o_z ?_;refine Zj rfl ⟨O,c.st hL.2,.pointer (some ⟨b,0,none⟩),v,.inr rfl,⟨c.blk,hL.2⟩,?_,hne,hlab⟩;exact JZ hR λg k=>c.other g λe=>hne (by rw[k,e])
  . refine Ar rfl (Cm rfl (AJ rfl (AL (hc:=Blk.cell (i:=0) hL.1 rfl) rfl (VZ (b:=false) rfl rfl rfl (λm=>by cases m) λ_=>?_))));refine o_z ?_;refine ab ?_;refine Ar rfl (Cm rfl (AJ rfl (AL (hc:=Blk.cell (i:=0) hL.1 rfl) rfl (Ar rfl (AT (Vz rfl rfl) rfl (o_z ?_))))));refine ab ?_;exact Zj rfl ⟨O,St.refl _ _ _,_,v,.inr rfl,hL,hR,hne,hlab⟩
theorem Ku(J:BldA i w O b s)  {u:ByteArray}  (A:i≠0:=by decide) (hl:s.length+u.size<=100000:=by decide):Fn prog 78 [.pointer (some ⟨b,0,none⟩),.string u] w λ_ w'=>∃o,St (eT i) w O w' o/\BldA i w' o b (s++u.data.toList):=by
  refine AG func78 rfl ntmps78 ?_;refine ab ?_;refine Au rfl (Au rfl (o_z ?_));refine ab ?_;refine ac ?_;refine BM (R:=λ_ w' o=>BldA i w' o b s) (Up J) rfl λH q r B C=>?_;refine o_z ?_;refine ab ?_;obtain⟨p,v,hp,hL,hR,hne,hlab⟩:=C;refine Ar rfl (Ar rfl (Cm rfl (AJ rfl (AL (hc:=Blk.cell (i:=1) hL.1 rfl) rfl (Ar rfl ?_)))));refine WI rfl rfl rfl hR (by omega) rfl λj z c h l=>?_;have t:Blk z b 173 [p,v]:=hL.1.keep (h.block b hL.1.lt λe=>hne e.symm);have a:j.ownBlock≠some b:=by
    rcases l with e|e
    . rw[e];exact hne
    . rw[e];intro D;have:=Q1 D;have:=hL.1.lt;omega
  refine Cm rfl (AJ rfl ?_);have d:j.cells.toList=[j]:=by
    rcases c.2 with⟨rfl,_⟩|⟨g,cap,cur,rfl,_⟩<;>rfl
  have m:∀u∈j.cells.toList,u.oneCell'=true:=by
    rw[d];intro u hu;obtain rfl:=K9.1 hu;rcases c.2 with⟨rfl,_⟩|⟨g,cap,cur,rfl,_⟩<;>rfl
  refine CL rfl rfl t (by rw[d];rfl) (Bg) m λI x=>?_;refine o_z ?_;refine ab ?_;refine Ar rfl (OJ rfl rfl (Au rfl (Au rfl (o_z ?_))));refine ab ?_;have hlt:=hL.1.lt;have E:St (eT i) q r z (upO r q.heap.size λ_=>i):=⟨h.os,h.tape,h.output,h.size,λk hk F=>⟨h.block k hk λhe=>F (hlab k he.symm),Ex hk⟩⟩;have n:upO r q.heap.size (λ_=>i) b=i:=(Ex hlt).trans hL.2;have G:=x.st n;refine X3 rfl (AC rfl) (AC rfl) ⟨_,(B.comp E λ_ J=>J).comp G λ_ J=>J,p,j,hp,⟨?_,n⟩,?_,a,λg f=>?_⟩
  . have:=x.blk;rw[d]at this;exact this
  . have hs:(s++u.data.toList).length=s.length+u.size:=by
      rw[K0,I2];rfl
    have y:Lib.byteCells (s++u.data.toList)=Lib.byteCells s++strCells u:=by
      rw[strCells_eq];unfold Lib.byteCells;rw[R2]
    rw[hs,y];exact JZ c λg f=>x.other g λe=>a (by rw[f,e])
  . rcases l with e|e
    . rw[e]at f;exact(Ex (Ou hR f)).trans (hlab g f)
    . rw[e]at f;rw[<- Q1 f];exact Fh (V2 _)
end
end
section
open Go Go.RowKit
def ZL(i:Nat):ByteArray:=if i<10 then⟨#[UInt8.ofNat (48+i)]⟩else⟨#[UInt8.ofNat (48+i/10),UInt8.ofNat (48+i%10)]⟩
def Abi:ByteArray:=⟨((List.range 10).map λi=>UInt8.ofNat (48+i)).toArray++((List.range 26).map λi=>UInt8.ofNat (97+i)).toArray⟩
def itoS:ByteArray:=⟨(List.range 100).flatMap (λi=>[UInt8.ofNat (48+i/10),UInt8.ofNat (48+i%10)]) |>.toArray⟩
theorem VA:((List.range 10).all λi=>(Abi.extract i (i+1)).data.toList==(ZL i).data.toList)=true:=by decide +kernel
theorem VB:((List.range 100).all λi=>decide (i<10)||(itoS.extract (i*2) (i*2+2)).data.toList==(ZL i).data.toList)=true:=by decide +kernel
theorem Uq{a b:ByteArray}(c:a.data.toList=b.data.toList):a=b:=by
  cases a;cases b;simp only[ByteArray.mk.injEq];exact N0.1 c
theorem WL(i:Nat)(a:i<10):Abi.extract i (i+1)=ZL i:=Uq (by
  have:=N6.1 VA i (R5.2 a);simpa using this)
theorem WM(i:Nat)(c:i<100)(b:10<=i):itoS.extract (i*2) (i*2+2)=ZL i:=Uq (by
  have:=N6.1 VB i (R5.2 c);have a:¬i<10:=(by omega);simpa[a]using this)
theorem Ur:Abi.size=36:=by decide +kernel
theorem Us:itoS.size=200:=by decide +kernel
theorem Ov(i:Nat):(ZL i).size<=2:=by unfold ZL;split<;>simp[ByteArray.size]
section
variable {P:Program}{l:Env}{w:World}{dst:Option Tmp}{ty:TypeId}{pos:String}{aft:Array Edge}
theorem Rk{t:TypeId}[j:TStr P t]{x lo hi:Operand}{s:ByteArray}{a b:Int}(h:opv l x=some (.string s))(c:opv l lo=some (.int .i64 a))(d:opv l hi=some (.int .i64 b))(i:0<=a)(f:a<=b)(hb:b<=s.size) :
    Ev P ⟨dst,.slice t x (some lo) (some hi) none,ty,pos,aft,none⟩ l w (.string (s.extract a.toNat b.toNat)):=λ_ _ e g=>by
  have:=run_slice_string (P:=P) (dr w e) t s .i64 .i64 a b j.eq i f hb;simp[execOp,g.eval h,g.eval c,g.eval d,Instr.sliceAt,run_underlying j.eq,this]
end
attribute [local irreducible] ewp owp hwp hwq hws Ev Evg Fn W6 X7 X4 X1
attribute [local irreducible] hwx YW
noncomputable def Ka(a:Int):Option ByteArray:=if 0<=a/\a<100 then some (ZL a.toNat)else none
set_option maxRecDepth 100000 in
theorem Kb{w:World}{A:Nat->Prop}(hA:∀k,A k->k<w.heap.size){a:Int}(c:W1 a){r:ByteArray}(hm:Ka a=some r) :
    Fn prog 150 [.int .i64 a] w λv w'=>Ext w w'/\Vb w' (upA A w w') v r:=by
  obtain⟨⟨g,h1⟩,rfl⟩:=FV hm;obtain⟨k,rfl⟩:∃k:Nat,a=(k:Int):=⟨a.toNat,by omega⟩;refine AG func150 rfl ntmps150 ?_;have d:W5 ((k:Int)+1)=some ((k:Int)+1):=if_pos ⟨by omega,by omega⟩;have b:W5 ((k:Int)*2)=some ((k:Int)*2):=if_pos ⟨by omega,by omega⟩;have f:W5 ((k:Int)*2+2)=some ((k:Int)*2+2):=if_pos ⟨by omega,by omega⟩;refine ab ?_;refine Au rfl (o_z ?_);refine ab ?_;refine Ar rfl (Cp rfl rfl (λh=>?_) λh=>?_)
  . refine o_z ?_;refine ab ?_;refine Ar rfl (Ar rfl ?_);refine DM rfl rfl ?_ d;refine AT (Rk (s:=Abi) rfl rfl rfl (by omega) (by omega) (by rw[Ur];omega)) rfl ?_;refine Au rfl (o_z ?_);refine ab ?_;refine X2 rfl (AC rfl) ⟨V8 _ _,?_⟩;have:=WL k (by omega);have e:Abi.extract (k:Int).toNat ((k:Int)+1).toNat=ZL k:=(by rw[<- this];congr 1);rw[e];exact vStr (U8 (Ov k) (by decide))
  . refine o_z ?_;refine ab ?_;refine ac ?_;refine Mv rfl rfl rfl ?_ b;refine ac ?_;refine Mv rfl rfl rfl ?_ b;refine DM rfl rfl ?_ f;refine AT (Rk (s:=itoS) rfl rfl rfl (by omega) (by omega) (by rw[Us];omega)) rfl ?_;refine Au rfl (o_z ?_);refine ab ?_;refine X2 rfl (AC rfl) ⟨V8 _ _,?_⟩;have:=WM k (by omega) (by omega);have e:itoS.extract ((k:Int)*2).toNat ((k:Int)*2+2).toNat=ZL k:=(by rw[<- this];congr 1);rw[e];exact vStr (U8 (Ov k) (by decide))
noncomputable def Fl(a:Int)(b:Int):Option ByteArray:=if b=10/\0<=a/\a<100 then some (ZL a.toNat)else none
theorem IC{w:World}{A:Nat->Prop}(hA:∀k,A k->k<w.heap.size){a:Int}(b:W1 a){c:Int}(d:W1 c){r:ByteArray}(hm:Fl a c=some r) :
    Fn prog 137 [.int .i64 a,.int .i64 c] w λv w'=>Ext w w'/\Vb w' (upA A w w') v r:=by
  obtain⟨⟨rfl,h0,h1⟩,rfl⟩:=FV hm;refine AG func137 rfl ntmps137 ?_;refine ab ?_;refine Au rfl (o_z ?_);refine ab ?_;refine Ar rfl (EH rfl rfl (λ_=>?_) λf=>absurd rfl f);refine o_z ?_;refine ab ?_;refine Ar rfl (Mt rfl rfl rfl (λ_=>?_) λf=>absurd h0 f);refine ac ?_;refine Az rfl rfl ?_;refine ac ?_;refine Az rfl rfl ?_;refine Cp rfl rfl (λ_=>?_) λf=>absurd h1 f;refine AV rfl rfl ?_;refine o_z ?_;refine ab ?_;refine ac ?_;refine By (R:=λv w'=>Ext w w'/\Vb w' (upA A w w') v (ZL a.toNat)) rfl (Kb hA b (if_pos ⟨h0,h1⟩)) λv w' ⟨e,hv⟩=>?_;refine Au rfl (o_z ?_);refine ab ?_;exact X2 rfl (AC rfl) ⟨e,hv⟩
noncomputable def Fd(a:Int):Option ByteArray :=
  bnd (Fl a 10) λb=>some b
section
attribute [local irreducible] Vb Lc Rw Ob
theorem Ke{w:World}{A:Nat->Prop}(hA:∀k,A k->k<w.heap.size){a:Int}(b:W1 a){r:ByteArray}(hm:Fd a=some r) :
    Fn prog 110 [(.int .i64 a)] w λv w'=>Ext w w'/\Vb w' (upA A w w') v r:=by
 obtain⟨_,_,_⟩:=Db hA;refine AG func110 rfl ntmps110 ?_;unfold Fd at hm;refine Aj (Ae (Au rfl (o_z (Aj (Ae (Ar rfl ?_))))));obtain⟨c,e3,hm⟩:=bs hm;refine DE rfl (IC (λ_ d=>d) zI zI e3) ?_;intros;refine Au rfl (o_z (AD ?_));obtain rfl:=sm hm;exact Ca
end
noncomputable def Ho(a:Int):Option ByteArray :=
  bnd (Fd a) λb=>some b
section
attribute [local irreducible] Vb Lc Rw Ob
theorem Hp{w:World}{A:Nat->Prop}(hA:∀k,A k->k<w.heap.size){a:Int}  {r:ByteArray} (hm:Ho a=some r) (b:W1 a:=by decide) :
    Fn prog 79 [(.int .i64 a)] w λv w'=>Ext w w'/\Vb w' (upA A w w') v r:=by
 obtain⟨_,_,_⟩:=Db hA;refine AG func79 rfl ntmps79 ?_;unfold Ho at hm;refine Aj (Ae (Au rfl (o_z (Aj (Ae (Ar rfl ?_))))));obtain⟨c,e3,hm⟩:=bs hm;refine DE rfl (Ke (λ_ d=>d) zI e3) ?_;intros;refine Au rfl (o_z (AD ?_));obtain rfl:=sm hm;exact Ca
end
end
section
open Go Go.RowKit
def ZB:Crt:=⟨2,[⟨[⟨0,1⟩],0⟩]⟩
def Abl:ByteArray:=⟨#[108,111,119,101,114,32,50,10,110,111,103,111,111,100,32,48,58,32,48,61,49,10]⟩
noncomputable def FP(c:Crt):Option (ByteArray×Err):=@ite _ (c=ZB) (Classical.propDecidable _) (some (Abl,⟨0⟩)) none
theorem AcI:Ek ZB=some ⟨0⟩:=by rfl
theorem ito(k:Nat)  (a:k<100:=by decide):Ho (k:Int)=some (ZL k):=by
  unfold Ho Fd Fl;rw[if_pos ⟨rfl,by omega,by omega⟩,M6];rfl
theorem AaO{a b:ByteArray}  (c:a.size+b.size<=1000:=by decide):Abz a b=some (a++b):=if_pos (by omega)
def tx1:List UInt8:=[108,111,119,101,114,32,50,10]
def tx2:List UInt8:=[108,111,119,101,114,32,50,10,110,111,103,111,111,100,32,48,58]
def tx3:List UInt8:=[108,111,119,101,114,32,50,10,110,111,103,111,111,100,32,48,58,32,48,61,49]
def tx4:List UInt8:=[108,111,119,101,114,32,50,10,110,111,103,111,111,100,32,48,58,32,48,61,49,10]
attribute [local irreducible] ewp owp hwp hwq hws Ev Evg Fn W6 X7 X4 X1
attribute [local irreducible] hwx YW
theorem Lu{w:World}{A:Nat→Prop}(hA:∀k,A k→k<w.heap.size){vx0:Value}{x0:Crt}(m0:Vb w A vx0 x0){r:ByteArray×Err}(hm:FP x0=some r) :
    Fn prog 44 [vx0] w λv w'=>Ext w w'/\T2 w' (upA A w w') v r:=by
  have hc:x0=ZB/\r=(Abl,⟨0⟩):=by
    unfold FP at hm;by_cases h:x0=ZB
    . rw[if_pos h]at hm;exact⟨h,(Q1 hm).symm⟩
    . rw[if_neg h]at hm;cases hm
  obtain⟨rfl,rfl⟩:=hc;obtain⟨O,hB,e1⟩:=enter hA;obtain⟨f1,rfl,v6,rfl,h7,i1⟩:=id m0;obtain⟨A8,c9,rfl⟩:=h7.form;refine AG func44 rfl ntmps44 ?_;refine ab ?_;refine Ea 2 O rfl λg1 w1 O1 S1 h1=>?_;refine Au rfl (Au rfl (o_z ?_));refine ab ?_;refine BE (hl:=rfl) (hc:=(h1.1).cellsAt) rfl ?_;replace hB:=hB.st S1;refine Ip (O:=O1) (A:=All w1) (R:=λw' F v=>Vb w' F v (⟨0⟩:Err)) (Ij (λ_ h=>h) (Vb.mono (F:=Fr 0 w1 O1) (m0.zs hA hB) Fr.lt) AcI) rfl rfl λv2 w2 O2 S2 h2=>?_;obtain⟨rfl,_⟩:=h2.err;refine Au rfl (o_z ?_);refine ab ?_;refine Ar rfl (Cy rfl (λh=>absurd rfl h) λ_=>o_z ?_);refine ab ?_;replace hB:=hB.st S2;replace h1:=h1.st S2;refine BL 3 O2 λg3 w3 O3 S3 h3=>?_;refine o_z ?_;replace hB:=hB.st S3;replace h1:=h1.st S3;have b3:BldA 3 w3 O3 g3 []:=⟨_,.slice none 0 0,.inl rfl,h3,⟨rfl,.inl ⟨rfl,rfl⟩⟩,λh=>(by cases h),λg h=>(by cases h)⟩;refine ab ?_;refine AJ rfl (AL (hc:=Blk.cell (i:=0) h1.1 rfl) rfl (Cp rfl rfl (λh=>absurd h (by decide)) λ_=>o_z ?_));refine ab ?_;refine AJ rfl (AL (hc:=Blk.cell (i:=0) h1.1 rfl) rfl ?_);refine Ey (O:=O3) (R:=λw' F v=>Vb w' F v (ZL 2)) (Hp Fr.lt (ito 2)) rfl λv4 w4 O4 S4 h4=>?_;obtain⟨rfl,_⟩:=h4.str;replace hB:=hB.st S4;replace h1:=h1.st S4;replace b3:=b3.st S4;refine Qj (AaO) rfl rfl rfl (Qj (AaO) rfl rfl rfl ?_);refine BM (R:=λ_ w' O'=>BldA 3 w' O' g3 _) (Ku b3) rfl λv5 w5 O5 S5 b5=>?_;replace b5:BldA 3 w5 O5 g3 tx1:=b5;replace hB:=hB.st S5;replace h1:=h1.st S5;refine o_z ?_;refine ab ?_;refine AJ rfl (AL (hc:=Blk.cell (i:=1) h1.1 rfl) rfl (AO rfl (Ar rfl (o_z ?_))));refine ab ?_;refine FS (λq:Nat=>[(1,.pointer (some ⟨g1,0,none⟩)),(5,.pointer (some ⟨g3,0,none⟩)),(26,.slice A8 ZB.nogoods.length c9),(27,.int .i64 (ZB.nogoods.length:Int)),(28,.int .i64 (q:Int))]) (λq w'=>∃O',Bs w A w' O'/\BldA 3 w' O' g3 (if q=0 then tx1 else tx4)/\q<=1) (λq=>1-q) 0 ⟨O5,hB,b5,by decide⟩ Ad ?_;rintro q w6 ⟨O6,hB,b6,hq⟩;refine ab ?_;refine Cp rfl rfl (λd0=>?_) λd0=>?_
  . obtain rfl:q=0:=by
      have:(q:Int)<1:=d0;omega
    rw[if_pos rfl]at b6;refine o_z ?_;refine ab ?_;obtain⟨b,o,ce,hAa,hla,hda,va,rfl,hfa,ra⟩:=(h7.zs hA hB).elem' (k:=0) (x:=⟨[⟨0,1⟩],0⟩) rfl;obtain⟨n0,o0,rfl⟩:=hfa.form;refine BA (hA:=hAa) (hj:=rfl) (hlt:=hla) rfl rfl (BE (hl:=rfl) (hc:=hda) rfl ?_);refine BL 4 O6 λg7 w7 O7 S7 b0=>?_;refine AR b0 rfl rfl rfl (Bg) (allOne) λw8 S8 b0=>?_;refine o_z ?_;replace hB:=(hB.st S7).st S8;replace b6:=(b6.st S7).st S8;replace hfa:=(hfa.st S7).st S8;refine ab ?_;refine AJ rfl (AL (hc:=Blk.cell (i:=1) b0.1 rfl) rfl ?_);refine Ey (O:=O7) (R:=λw' F v=>Vb w' F v (ZL 0)) (Hp Fr.lt (ito 0)) rfl λv9 w9 O9 S9 h9=>?_;obtain⟨rfl,_⟩:=h9.str;refine Qj (AaO) rfl rfl rfl (Qj (AaO) rfl rfl rfl ?_);replace b6:=b6.st S9;refine BM (R:=λ_ w' O'=>BldA 3 w' O' g3 _) (Ku b6) rfl λj1 u0 p0 h0 i0=>?_;replace i0:BldA 3 u0 p0 g3 tx2:=i0;replace hB:=(hB.st S9).st h0;replace b0:=(b0.st S9).st h0;replace hfa:=(hfa.st S9).st h0;refine o_z ?_;refine ab ?_;refine AJ rfl (AL (hc:=Blk.cell (i:=0) b0.1 rfl) rfl (AO rfl (Ar rfl (o_z ?_))));refine ab ?_;refine FS (λq:Nat=>[(1,.pointer (some ⟨g1,0,none⟩)),(5,.pointer (some ⟨g3,0,none⟩)),(26,.slice A8 ZB.nogoods.length c9),(27,.int .i64 (ZB.nogoods.length:Int)),(28,.int .i64 ((0:Nat):Int)),(39,.slice n0 1 o0),(40,.int .i64 ((1:Nat):Int)),(41,.int .i64 (q:Int))]) (λq w'=>∃O',Bs w A w' O'/\BldA 3 w' O' g3 (if q=0 then tx2 else tx3)/\Vb w' (Fr 0 w' O') (.slice n0 1 o0) [(⟨0,1⟩:Fct)]/\q<=1) (λq=>1-q) 0 ⟨p0,hB,i0,hfa,by decide⟩ D3 ?_;rintro q k1 ⟨v0,hB,a0,hfa,hq⟩;refine ab ?_;refine Cp rfl rfl (λd0=>?_) λd0=>?_
    . obtain rfl:q=0:=by
        have:(q:Int)<1:=d0;omega
      rw[if_pos rfl]at a0;refine o_z ?_;refine ab ?_;obtain⟨b,o,ce,hAa,hla,hda,rfl,ra⟩:=hfa.elem' (k:=0) (x:=⟨0,1⟩) rfl;refine BA (hA:=hAa) (hj:=rfl) (hlt:=hla) rfl rfl (BE (hl:=rfl) (hc:=hda) rfl ?_);refine BL 5 v0 λg9 l1 w0 j0 c0=>?_;refine AR c0 rfl rfl rfl (Bg) (allOne) λm1 k0 c0=>?_;refine o_z ?_;replace hB:=(hB.st j0).st k0;replace a0:=(a0.st j0).st k0;replace hfa:=(hfa.st j0).st k0;refine ab ?_;refine Ct (λw'=>w'.cell? ⟨g9,1,none⟩=some (.int .i64 1)/\w'.cell? ⟨g9,0,none⟩=some (.int .i64 0)) [(0,true),(1,true),(5,true),(6,true),(2,false),(3,true),(4,true),(7,false),(8,true),(9,false)] rfl ⟨c0.1.cell (i:=1) rfl,c0.1.cell (i:=0) rfl⟩ ?_;refine Be rfl rfl (Bz (hc:=λ_ h=>h.2) rfl rfl (Be rfl rfl (Bz (hc:=λ_ h=>h.1) rfl rfl ?_)));refine BZ rfl (Ey (O:=w0) (R:=λw' F v=>Vb w' F v (ZL 0)) (Hp Fr.lt (ito 0)) rfl λn1 o1 y0 e0 z0=>Ds ?_ ?_)
      . have:=(c0.st e0).1;exact⟨this.cell (i:=1) rfl,this.cell (i:=0) rfl⟩
      obtain⟨rfl,_⟩:=z0.str;replace hB:=hB.st e0;replace a0:=a0.st e0;replace hfa:=hfa.st e0;replace c0:=c0.st e0;refine Tf (AaO) rfl rfl rfl rfl (Tf (AaO) rfl rfl rfl rfl ?_);refine BZ rfl (Ey (O:=y0) (R:=λw' F v=>Vb w' F v (ZL 1)) (Hp Fr.lt (ito 1)) rfl λp1 q1 r1 f0 a1=>Ds ?_ ?_)
      . have:=(c0.st f0).1;exact⟨this.cell (i:=1) rfl,this.cell (i:=0) rfl⟩
      obtain⟨rfl,_⟩:=a1.str;replace hB:=hB.st f0;replace a0:=a0.st f0;replace hfa:=hfa.st f0;refine Tf (AaO) rfl rfl rfl rfl ?_;refine BZ rfl (BM (R:=λ_ w' O'=>BldA 3 w' O' g3 _) (Ku a0) rfl λs1 b1 q0 r0 l0=>Gl (h_z ?_));replace l0:BldA 3 b1 q0 g3 tx3:=l0;refine ab ?_;refine GY rfl (Ar rfl (o_z ?_));exact⟨1,D3,⟨q0,hB.st r0,l0,hfa.st r0,by decide⟩,by decide⟩
    . obtain rfl:q=1:=by
        have:¬(q:Int)<1:=d0;omega
      rw[if_neg (by decide)]at a0;refine o_z ?_;refine ab ?_;refine BM (R:=λ_ w' O'=>BldA 3 w' O' g3 _) (Ku a0) rfl λt1 s0 t0 c1 g0=>?_;replace g0:BldA 3 s0 t0 g3 tx4:=g0;replace hB:=hB.st c1;refine o_z ?_;refine ab ?_;refine By (R:=λv w'=>v=.int .i64 tx4.length/\w'=s0) rfl (WK g0) λu1 v1 d1=>?_;obtain⟨rfl,rfl⟩:=d1;refine Cq rfl rfl (λh=>absurd h (by decide)) λ_=>o_z ?_;refine ab ?_;refine GY rfl (Ar rfl (o_z ?_));exact⟨1,Ad,⟨t0,hB,g0,by decide⟩,by decide⟩
  . obtain rfl:q=1:=by
      have:¬(q:Int)<1:=d0;omega
    rw[if_neg (by decide)]at b6;refine o_z ?_;refine ab ?_;refine By (R:=λv w'=>v=.string ⟨tx4.toArray⟩/\Ext w w') rfl (To b6 (by decide) hB (by decide) (by decide)) λv7 w7 b0=>?_;obtain⟨rfl,hE⟩:=b0;refine Au rfl (Au rfl (o_z ?_));refine ab ?_;exact X3 rfl (AC rfl) (AC rfl) ⟨hE,_,_,rfl,vStr (by decide),vErr (W3 0)⟩
end
section
open Go Go.RowKit
attribute [local irreducible] ewp owp hwp hwq hws Ev Evg Fn W6 X7 X4 X1
theorem AbL{w:World}{sv:Value}{xs:List Int}(hs:V w sv xs)(hl:xs.length*8<=140737488355328) :
    Fn prog 45 [sv] w λv w'=>Own w' w.heap.size (All w) 3 v xs/\Ext w w':=by
  obtain⟨A,c,rfl⟩:=hs.form;refine AG func45 rfl ntmps45 ?_;cases A with
  |none =>
    have e:xs=[]:=by
      cases xs with
      |nil=>rfl
      |cons x xs=>obtain⟨_,_,_,m,_⟩:=hs.elem (k:=0) (x:=x) rfl;cases m
    subst e;refine aw ?_<;>refine ad ?_;exact W8 rfl rfl ⟨Own.nil _ _ _ _,V8 _ _⟩
  |some i =>
    refine aw ?_<;>refine ab ?_;refine FQ rfl rfl (by simp) rfl λf d=>?_;have b:=d.ext;have a:Own f w.heap.size (All w) 3 (.slice (some ⟨w.heap.size,0,none⟩) 0 0) ([]:List Int):=Own.made d rfl rfl (T0 _) (by decide);refine ac ?_;refine Ky rfl rfl rfl a (λk hk=>K1 hk b.size) b.size (Vb.agree hs (b.agree λ_ m=>m)) (by simpa using hl) (by simp;omega) rfl λj l g h=>?_;refine ae ?_;refine ab ?_;refine W8 rfl rfl ⟨by simpa using g,b.trans (a.fits (V2 _) b.size h)⟩
theorem Abu{w:World}{sv:Value}{xs:List Fct}(hs:V w sv xs)(hl:xs.length*16<=140737488355328) :
    Fn prog 24 [sv] w λv w'=>Own w' w.heap.size (All w) 61 v xs/\Ext w w':=by
  obtain⟨A,c,rfl⟩:=hs.form;refine AG func24 rfl ntmps24 ?_;cases A with
  |none =>
    have e:xs=[]:=by
      cases xs with
      |nil=>rfl
      |cons x xs=>obtain⟨_,_,_,m,_⟩:=hs.elem (k:=0) (x:=x) rfl;cases m
    subst e;refine aw ?_<;>refine ad ?_;exact W8 rfl rfl ⟨Own.nil _ _ _ _,V8 _ _⟩
  |some i =>
    refine aw ?_<;>refine ab ?_;refine FQ rfl rfl (by simp) rfl λf d=>?_;have b:=d.ext;have a:Own f w.heap.size (All w) 61 (.slice (some ⟨w.heap.size,0,none⟩) 0 0) ([]:List Fct):=Own.made d rfl rfl (T0 _) (by decide);refine ac ?_;refine Ky rfl rfl rfl a (λk hk=>K1 hk b.size) b.size (Vb.agree hs (b.agree λ_ m=>m)) (by simpa using hl) (by simp;omega) rfl λj l g h=>?_;refine ae ?_;refine ab ?_;refine W8 rfl rfl ⟨by simpa using g,b.trans (a.fits (V2 _) b.size h)⟩
def AaG(t:Tsk)(s:List Int)(k:Nat):List Int:=((List.range k).filter λi=>match t.ops[i]? with|some o=>holdsB o.pre s|none=>false).map λi:Nat=>(i:Int)
def ZC(t:Tsk)(s:List Int):List Int:=AaG t s t.ops.length
theorem Ut(t:Tsk)(s:List Int)(k:Nat):(AaG t s k).length<=k:=by
  unfold AaG;rw[R1];exact U8 (G0 _ _) (by simp)
end
section
open Go Go.RowKit
attribute [local irreducible] ewp owp hwp hwq hws Ev Evg Fn W6 X7 X4 X1
inductive Tr where
  |nil
  |leaf (ops:List Int)
  |node (nx many:Nat) (vals:Nat->Tr) (rest:Tr)
def TrR(w:World)(F:Nat->Prop):Tr->Value->Prop
  |.nil,p=>p=.pointer none
  |.leaf ops,p=>∃g e,p=.pointer (some ⟨g,0,none⟩)/\F g/\Blk w g 241 [e,.bool true,.int .i64 0,.slice none 0 0,.pointer none]/\Vb w F e ops
  |.node h k a d,p=>∃g A c f,p=.pointer (some ⟨g,0,none⟩)/\F g/\Blk w g 241 [.slice none 0 0,.bool false,.int .i64 (h:Int),.slice A k c,.pointer f]/\TrR w F d (.pointer f) /\
      ∀i,i<k->∃b o q,A=some ⟨b,o,none⟩/\F b/\w.cell? ⟨b,o+i,none⟩=some (.pointer q)/\TrR w F (a i) (.pointer q)
theorem TrR.agree{w w':World}{F:Nat->Prop}(a:Agree F w w'):∀{j:Tr}{p:Value},TrR w F j p->TrR w' F j p
  |.nil,_,h=>h
  |.leaf ops,_,⟨g,ov,h1,h2,h3,h4⟩=>⟨g,ov,h1,h2,h3.keep (a g h2),h4.agree a⟩
  |.node f k d e,_,⟨g,A,c,rp,h1,h2,h3,h4,h5⟩=>⟨g,A,c,rp,h1,h2,h3.keep (a g h2),TrR.agree a h4,λi hi=>by
      obtain⟨b,o,q,g1,g2,g3,g4⟩:=h5 i hi;exact⟨b,o,q,g1,g2,(a.cell g2).trans g3,TrR.agree a g4⟩⟩
theorem TrR.mono{w:World}{F G:Nat->Prop}(hk:∀k,F k->G k):∀{f:Tr}{p:Value},TrR w F f p->TrR w G f p
  |.nil,_,h=>h
  |.leaf ops,_,⟨g,ov,h1,h2,h3,h4⟩=>⟨g,ov,h1,hk _ h2,h3,h4.mono hk⟩
  |.node e k a d,_,⟨g,A,c,rp,h1,h2,h3,h4,h5⟩=>⟨g,A,c,rp,h1,hk _ h2,h3,TrR.mono hk h4,λi hi=>by
      obtain⟨b,o,q,g1,g2,g3,g4⟩:=h5 i hi;exact⟨b,o,q,g1,hk _ g2,g3,TrR.mono hk g4⟩⟩
theorem TrR.form{w:World}{F:Nat->Prop}:∀{a:Tr}{p:Value},TrR w F a p->∃q,p=.pointer q
  |.nil,_,h=>⟨none,h⟩
  |.leaf _,_,⟨_,_,h,_⟩=>⟨_,h⟩
  |.node ..,_,⟨_,_,_,_,h,_⟩=>⟨_,h⟩
def atN(s:List Int)(i:Nat):Nat:=(s[i]?.getD 0).toNat
def ZQ(s:List Int):Tr->List Int
  |.nil=>[]
  |.leaf ops=>ops
  |.node c _ a b=>ZQ s (a (atN s c))++ZQ s b
def Zx(s:List Int):Tr->List Bool->List Bool
  |.nil,l=>l
  |.leaf _,l=>l
  |.node c _ a b,l=>Zx s b (Zx s (a (atN s c)) (l.set c true))
def AaP(s:List Int):Tr->Prop
  |.nil=>True
  |.leaf _=>True
  |.node c k a b=>(∃x:Nat,s[c]?=some (x:Int)/\x<k)/\AaP s (a (atN s c))/\AaP s b
theorem IJ(s:List Int):∀(d:Tr)(l:List Bool),(Zx s d l).length=l.length
  |.nil,_=>rfl
  |.leaf _,_=>rfl
  |.node c k a b,l=>by rw[Zx,IJ s b,IJ s (a _)];simp
theorem Own.own_ne{α β:Type}[Rp α][Rp β]{w:World}{j l:Nat}{F G:Nat->Prop}{e f:TypeId}{u v:Value}{xs:List α}{ys:List β}(t:Own w j F e u xs)(k:Own w l G f v ys)(b:e≠f):∀g,u.ownBlock=some g->v.ownBlock≠some g:=by
  intro g h i;obtain⟨r,m,_⟩:=t;obtain⟨s,n,_⟩:=k;rcases m.2 with⟨rfl,_⟩|⟨o,cap1,cur1,rfl,_,hh1,_⟩
  . simp[Value.ownBlock]at h
  . rcases n.2 with⟨rfl,_⟩|⟨p,cap2,cur2,rfl,_,a,_⟩
    . simp[Value.ownBlock]at i
    . have c:o=g:=(by simpa[Value.ownBlock]using h);have d:p=g:=(by simpa[Value.ownBlock]using i);subst c;subst d;rw[hh1]at a;injection a with a;injection a with _ q;exact b q
theorem Own.kept{α:Type}[Rp α]{w w':World}{base:Nat}{F:Nat->Prop}{e:TypeId}{v u:Value}{xs:List α}(f:Own w base F e v xs)(b:Kept w w' u)(c:∀k,F k->k<w.heap.size/\u.ownBlock≠some k)(a:∀g,v.ownBlock=some g->u.ownBlock≠some g):Own w' base F e v xs :=
  f.agree (λk hk=>b.block k (c k hk).1 (c k hk).2) λg d=>b.block g (f.lt g d).2 (a g d)
theorem bj{G H:Prop}(g:H)(h:Wr0 H->G:=by intro x;refine En rfl rfl ?_;refine Be rfl rfl ?_;exact x.o):G:=h ⟨g⟩
theorem aX{G H:Prop}(g:H)(h:Wr0 H->G:=by intro x;(first|refine GM rfl rfl ?_|refine Bz rfl rfl ?_);exact x.o):G:=h ⟨g⟩
theorem bp{G H:Prop}(g:H)(h:Wr0 H->G:=by intro x;refine aj ?_;refine bj ?_;refine aX ?_;exact x.o):G:=h ⟨g⟩
theorem bw{G H:Prop}(g:H)(h:Wr0 H->G:=by intro x;refine aX ?_;refine OM rfl rfl rfl rfl ?_;refine aX ?_;exact x.o):G:=h ⟨g⟩
theorem Acl(B:Nat)(s:List Int):∀(T:Tr)(w:World)(p ov sv lv:Value)(out:List Int)(looked:List Bool),B<=w.heap.size->TrR w (· < B) T p->Vb w (· < B) sv s->Own w B (· < B) 3 ov out->Own w B (· < B) 4 lv looked ->
    AaP s T->looked.length=s.length->out.length+(ZQ s T).length<=1000000 ->
    Fn prog 134 [p,ov,sv,lv] w λv w'=>Own w' B (· < B) 3 v (out++ZQ s T)/\Own w' B (· < B) 4 lv (Zx s T looked)/\Below B w w':=by
  intro T
  induction T with
  |nil =>
    intro w p ov sv lv out looked hB hT hs ho hl _ _ hlen;have hp:p=.pointer none:=hT;subst hp;refine AG func134 rfl ntmps134 ?_;refine ax ?_<;>refine IU rfl ?_<;>refine o_z ?_<;>refine al ?_;exact W8 rfl rfl ⟨by simpa[ZQ]using ho,hl,V8 _ _⟩
  |leaf ops =>
    intro w p ov sv lv out looked hB hT hs ho hl _ _ hlen;obtain⟨g,opv',rfl,hg,hb1,hops⟩:=hT;refine AG func134 rfl ntmps134 ?_;refine ax ?_<;>refine IU rfl ?_<;>refine o_z ?_<;>refine ah ?_<;>refine Cm rfl ?_<;>refine af ?_<;>refine o_z ?_<;>refine ah ?_<;>refine ac ?_<;>refine Cm rfl ?_<;>refine af ?_<;>refine ab ?_;simp only[ZQ]at hlen;refine Ky rfl rfl rfl ho (λk hk=>K1 hk hB) hB hops (by omega) (by omega) rfl λv' w1 ho1 hK=>?_;refine ae ?_;refine ab ?_;refine W8 rfl rfl ⟨ho1,?_,ho.fits (V2 _) hB hK⟩;exact hl.kept hK (λk hk=>⟨K1 hk hB,λhe=>by have:=(ho.lt k he).1;have:k<B:=hk;omega⟩) (λg hg=>hl.own_ne ho (by decide) g hg)
  |node nx k vals rest ih1 ih2 =>
    intro w p ov sv lv out looked hB hT hs ho hl hfit hll hlen;obtain⟨g,A,c,rp,rfl,hg,hb1,hrest,hvals⟩:=hT;obtain⟨⟨x,hx,hxk⟩,hfit1,hfit2⟩:=hfit;obtain⟨bv,ovv,q,rfl,hbv,hcv,hq⟩:=hvals x hxk;obtain⟨As,cs,rfl⟩:=hs.form;obtain⟨bs,os,ce,rfl,hbs,_,hds,rfl,_⟩:=hs.elem hx;have hnx:=BT hx;have hat:atN s nx=x:=(by simp[atN,hx]);obtain⟨gl,capl,_,_,rfl,_⟩:=hl.open (by omega);refine AG func134 rfl ntmps134 ?_;have hll':nx<looked.length:=(by omega);refine ax ?_<;>refine IU rfl ?_<;>refine o_z ?_<;>refine ah ?_<;>refine Cm rfl ?_<;>refine af ?_<;>refine o_z ?_<;>refine ah ?_<;>refine ac ?_<;>refine Cm rfl ?_<;>refine af ?_<;>refine Eu rfl rfl ?_<;>refine ab ?_;refine MQ (i:=nx) (a:=true) rfl rfl rfl hl hll' (show Vb w (· < B) (.bool true) true from rfl) λw1 hl1 hK1 hz1=>?_;have hB1:Below B w w1:=hl.fits (V2 _) hB hK1;have ho1:Own w1 B (· < B) 3 ov out:=ho.kept hK1 (λk hk=>⟨K1 hk hB,λhe=>by have:=(hl.lt k he).1;have:k<B:=hk;omega⟩) (λg hg=>ho.own_ne hl (by decide) g hg);refine o_z ?_;refine ab ?_;have hag:∀w',Below B w1 w'->Agree (· < B) w w':=λw' h k hk=>(hB1.trans h).block k hk;replace hb1:∀w',Below B w1 w'->Blk w' g 241 [.slice none 0 0,.bool false,.int .i64 (nx:Int),.slice (some ⟨bv,ovv,none⟩) k c,.pointer rp]:=λw' h=>hb1.keep (hag w' h g hg);have hd1:∀w',Below B w1 w'->cellsAt w' bs (os+nx*1) [.int .i64 (x:Int)]:=λw' h=>DD (hag w' h) hbs hds;have hc1:∀w',Below B w1 w'->w'.cell? ⟨bv,ovv+x*1,none⟩=some (.pointer q):=λw' h=>(by rw[V6];exact((hag w' h).cell hbv).trans hcv);refine Ct (Below B w1) [(0,true),(1,true),(2,true),(3,true),(4,true),(5,true),(6,true),(7,true),(8,true),(9,true),(10,true),(11,true),(12,true),(13,true),(14,true),(15,true),(16,true),(17,true),(18,true),(19,true),(21,true),(22,true),(20,false),(23,false),(24,true)] rfl (V8 _ _) ?_;refine bp ?_<;>refine bp ?_<;>refine aj ?_<;>refine bp ?_<;>refine OM rfl rfl rfl rfl ?_<;>refine bw ?_<;>refine aj ?_<;>refine aj ?_<;>refine aj ?_<;>refine aj ?_<;>refine aj ?_;refine BZ rfl ?_;simp only[ZQ,hat,K0]at hlen;refine By rfl (ih1 x w1 (.pointer q) ov _ _ out (looked.set nx true) (U8 hB hB1.size) (TrR.agree (hag w1 (V8 _ _)) hq) (hs.agree (hag w1 (V8 _ _))) ho1 hl1 (hat▸hfit1) (by simpa using hll) (by omega)) ?_;rintro v2 w2 ⟨ho2,hl2,hB2⟩;refine Ds hB2 ?_;refine BZ rfl ?_;refine By rfl (ih2 w2 (.pointer rp) v2 _ _ (out++ZQ s (vals x)) (Zx s (vals x) (looked.set nx true)) (U8 hB (hB1.trans hB2).size) (TrR.agree (hag w2 hB2) hrest) (hs.agree (hag w2 hB2)) ho2 hl2 hfit2 (by rw[IJ];simpa using hll) (by rw[K0];omega)) ?_;rintro v3 w3 ⟨ho3,hl3,hB3⟩;refine Ds (hB2.trans hB3) ?_;refine CY rfl rfl ?_<;>refine h_z ?_;refine ab ?_;exact W8 rfl rfl ⟨by simpa[ZQ,hat]using ho3,by simpa[Zx,hat]using hl3,hB1.trans (hB2.trans hB3)⟩
end
section
open Go Go.RowKit
attribute [local irreducible] ewp owp hwp hwq hws Ev Evg Fn W6 X7 X4 X1
def GenR(w:World)(F:Nat->Prop)(gv:Value)(t:Tsk)(T:Tr):Prop :=
  ∃d a b c e r,gv=.pointer (some ⟨d,0,none⟩)/\F d/\Blk w d 165 [a,b,c,e,r]/\Vb w F a t.vars/\Vb w F b t.init/\Vb w F c t.goal/\Vb w F e t.ops/\TrR w F T r
theorem Rl(z:Value)(n:Nat)(hz:z.cells=#[z]):(madeCells z.cells (n*1)).toList=List.replicate n z:=by
  rw[hz,V6];apply List.ext_getElem
  . simp[madeCells]
  . intro i a b;simp[madeCells,Nat.mod_one]
theorem Mi{w:World}{F:Nat->Prop}:∀n,Chunks w F (List.replicate n (.bool false)) (List.replicate n false)
  |0=>rfl
  |n+1=>⟨[.bool false],List.replicate n (.bool false),rfl,rfl,Mi n⟩
noncomputable def Aaa(t:Tsk)(T:Tr)(s:List Int):List Int:=if bof (StateOk t.vars s)=true then Aau (ZQ s T)else[]
noncomputable def findN(t:Tsk)(T:Tr)(s:List Int):Nat:=if bof (StateOk t.vars s)=true then(Zx s T (List.replicate s.length false)).count true else 0
theorem Tp{l:List Bool}{k:Nat}{b:Bool}(a:l[k]?=some b):(l.take (k+1)).count true=(l.take k).count true+if b=true then 1 else 0:=by
  rw[M2,a,List.count_append];cases b<;>simp
theorem Aco{w:World}{gv sv:Value}{t:Tsk}{T:Tr}{s:List Int}(z:GenR w (All w) gv t T)(hs:V w sv s)(p:StateOk t.vars s->AaP s T)(i:(ZQ s T).length<=1000000)(K:s.length<=1000000) :
    Fn prog 104 [gv,sv] w λv w'=>Ext w w'/\∃u,v=.tuple #[u,.int .i64 (findN t T s:Int)]/\Own w' w.heap.size (All w) 3 u (Aaa t T s):=by
  obtain⟨P,a,b,c,d,r,rfl,hgb,hb1,hvars,hinit,hgoal,hops,hT⟩:=z;obtain⟨Q,cv,rfl⟩:=hvars.form;obtain⟨R,cs,rfl⟩:=hs.form;obtain⟨L,rfl⟩:=hT.form;refine AG func104 rfl ntmps104 ?_
  (refine ab ?_<;>refine aS ?_<;>(refine ac ?_<;>refine IU rfl ?_<;>refine ac ?_<;>(first|(refine Az rfl rfl ?_;refine Ar rfl ?_)|refine Ay rfl rfl ?_)<;>(first|(refine Az rfl rfl ?_;refine Cm rfl ?_)|refine Ay rfl rfl ?_)<;>(first|(refine Az rfl rfl ?_;refine AJ rfl ?_)|refine Ay rfl rfl ?_)<;>(first|(refine Az rfl rfl ?_;refine AJ rfl ?_)|refine Ay rfl rfl ?_)<;>(first|(refine Az rfl rfl ?_;refine AL rfl ?_)|refine Ay rfl rfl ?_)<;>(first|(refine Az rfl rfl ?_;refine Ar rfl ?_)|refine Ay rfl rfl ?_))<;>refine ab ?_)
  refine Az rfl rfl ?_;refine Ej rfl (Aap hvars hs) ?_ ?_
  case refine_2 =>
    intro y I e
    ((first|(refine Az rfl rfl ?_;(first|refine Cw rfl ?_|refine Cx rfl ?_|refine Em rfl ?_))|refine Ay rfl rfl ?_)<;>refine ai ?_)
    refine ab ?_;refine ab ?_<;>refine aS ?_;refine X3 rfl (AC rfl) (AC rfl) ⟨e,.slice none 0 0,?_,?_⟩
    . rw[findN,BU I];rfl
    . rw[Aaa,BU I];exact Own.nil _ _ _ _
  intro y j e;replace hb1:=hb1.ext e
  ((first|(refine Az rfl rfl ?_;(first|refine Cw rfl ?_|refine Cx rfl ?_|refine Em rfl ?_))|refine Ay rfl rfl ?_)<;>refine ai ?_)
  refine ab ?_;refine ac ?_<;>refine AO rfl ?_;refine Ng rfl rfl (by omega) (by omega) rfl λA m=>?_;replace hb1:=hb1.ext m.ext;have h:Ext w A:=e.trans' m.ext;have B:Own A w.heap.size (· < w.heap.size) 4 (.slice (some ⟨y.heap.size,0,none⟩) s.length s.length) (List.replicate s.length false) :=
    (Own.made m (by rw[Rl _ _ rfl];exact Mi _) (by simp) (by have:=e.size;omega) (by omega)).lower e.size
  refine ae ?_;refine ab ?_;refine ac ?_<;>refine Cm rfl ?_<;>refine af ?_<;>refine aV ?_;refine By rfl (Acl w.heap.size s T A (.pointer L) (.slice none 0 0) _ _ [] _ h.size (TrR.agree (h.agree λ_ U=>U) hT) (Vb.agree hs (h.agree λ_ U=>U)) (Own.nil _ _ _ _) B (p j) (by simp) (by simpa using i)) ?_;rintro J M ⟨f,hl3,hB3⟩;have o:Ext w M:=h.trans hB3;rw[Q4]at f;refine ae ?_;refine ab ?_;refine ac ?_;refine By rfl (AbM f i) ?_;rintro _ C ⟨rfl,ho4,hK4⟩;have D:Ext w C:=o.trans (f.fits (V2 _) o.size hK4);have E:=hl3.kept hK4 (λk hk=>⟨K1 hk o.size,λhe=>by have:=(f.lt k he).1;have:k<w.heap.size:=hk;omega⟩) (λg z=>hl3.own_ne f (by decide) g z);have F:Vb C _ (.slice (some ⟨y.heap.size,0,none⟩) s.length s.length) (Zx s T (List.replicate s.length false)):=E.vb;have N:(Zx s T (List.replicate s.length false)).length=s.length:=(by rw[IJ];simp);refine o_z ?_;refine ab ?_;refine aY ?_;refine Cj s.length (by omega) (λn:Nat=>[(7,J),(8,.int .i64 (n:Int)),(35,.slice (some ⟨y.heap.size,0,none⟩) s.length s.length)]) (λk n w'=>w'=C/\n=((Zx s T (List.replicate s.length false)).take k).count true) 0
    ⟨rfl,by simp⟩ Ad (λ_=>⟨rfl,rfl⟩) ⟨rfl,rfl,rfl⟩ ⟨rfl,rfl⟩ ?_ ?_
  . rintro k n _ hk ⟨rfl,hn⟩;obtain⟨x,hx⟩:=AK (l:=Zx s T (List.replicate s.length false)) (k:=k) (by omega);obtain⟨S,o2,ce,he,_,_,hd1,rfl⟩:=F.elem hx;injection he with he;injection he with G H;subst G;subst H;have O:n<=k:=by
      rw[hn];exact U8 List.count_le_length (by rw[N8];omega)
    have q:=Tp hx;cases x
    . refine aW ?_<;>refine bb ?_<;>refine ab ?_;exact⟨n,Ad,rfl,by rw[q,hn];simp⟩
    . refine aW ?_<;>refine bb ?_<;>refine ah ?_<;>refine bm ?_<;>refine aq ?_;exact⟨n+1,Ad,rfl,by rw[q,hn];simp⟩
  rintro n _ ⟨rfl,hn⟩;refine ab ?_;refine ah ?_<;>refine ac ?_<;>refine aS ?_;refine X3 rfl (AC rfl) (AC rfl) ⟨D,J,?_,?_⟩
  . rw[findN,Dq j,if_pos rfl,hn,E5 (by omega)]
  . rw[Aaa,Dq j,if_pos rfl];exact ho4
section
variable {w:World}{gv sv:Value}{t:Tsk}{T:Tr}{s:List Int}
theorem Aba(d:GenR w (All w) gv t T)(hs:V w sv s)(a:StateOk t.vars s->AaP s T)(b:(ZQ s T).length<=1000000)(c:s.length<=1000000) :
    Fn prog 72 [gv,sv] w λv w'=>Ext w w'/\Own w' w.heap.size (All w) 3 v (Aaa t T s):=by
  refine AG func72 rfl ntmps72 ?_;refine bn ?_;refine By rfl (Aco d hs a b c) ?_;rintro _ f ⟨e,u,rfl,ho⟩;refine bd ?_<;>refine Au rfl ?_<;>refine ae ?_;refine ab ?_;refine al ?_;exact W8 rfl rfl ⟨e,ho⟩
theorem Own.form{α:Type}[Rp α]{w:World}{base:Nat}{F:Nat->Prop}{e:TypeId}{v:Value}{xs:List α}(a:Own w base F e v xs):∃A c,v=.slice A xs.length c:=a.vb.form
end
structure Suc where
  op:Int
  state:List Int
instance:Rp Suc where
  isAgg:=true
  size:=2
  R w F cs x:=∃v,cs=[.int .i64 x.op,v]/\Vb w F v x.state/\W1 x.op
  len:=by rintro w F cs x ⟨v,rfl,_⟩;rfl
  one:=by rintro w F cs x ⟨v,rfl,h,_⟩ u hu;simp at hu;rcases hu with rfl|rfl<;>first|rfl|exact Vb.one rfl (by assumption)
  agree:=by rintro w w' F cs x ⟨v,rfl,h,h2⟩ ha;exact⟨v,rfl,h.agree ha,h2⟩
  mono:=by rintro w F G cs x ⟨v,rfl,h,h2⟩ ha;exact⟨v,rfl,h.mono ha,h2⟩
def Aaq(t:Tsk)(s:List Int)(a:Int):Suc:=⟨a,match t.ops[a.toNat]? with|some o=>succ o s|none=>s⟩
end
section
open Go Go.RowKit
attribute [local irreducible] ewp owp hwp hwq hws Ev Evg Fn W6 X7 X4 X1
def GenB(w:World)(F:Nat->Prop)(e:Value)(t:Tsk):Prop :=
  ∃d a b c g f,e=.pointer (some ⟨d,0,none⟩)/\F d/\Blk w d 165 [a,b,c,g,.pointer f]/\Vb w F a t.vars/\Vb w F b t.init/\Vb w F c t.goal/\Vb w F g t.ops
theorem GenB.agree{w w':World}{F:Nat->Prop}{f:Value}{t:Tsk}(h:GenB w F f t)(e:Agree F w w'):GenB w' F f t:=by
  obtain⟨g,a,b,c,d,r,h1,h2,h3,h4,h5,h6,h7⟩:=h;exact⟨g,a,b,c,d,r,h1,h2,h3.keep (e g h2),h4.agree e,h5.agree e,h6.agree e,h7.agree e⟩
theorem GenB.mono{w:World}{F G:Nat->Prop}{f:Value}{t:Tsk}(h:GenB w F f t)(e:∀k,F k->G k):GenB w G f t:=by
  obtain⟨g,a,b,c,d,r,h1,h2,h3,h4,h5,h6,h7⟩:=h;exact⟨g,a,b,c,d,r,h1,e _ h2,h3,h4.mono e,h5.mono e,h6.mono e,h7.mono e⟩
theorem GenB.ext{w w':World}{a:Value}{t:Tsk}(c:GenB w (All w) a t)(b:Ext w w'):GenB w' (All w') a t:=(c.agree (b.agree λ_ c=>c)).mono λk hk=>K1 hk b.size
def factOn(l:List Fct)(v:Int):Option Fct:=l.find? λf=>decide (f.var=v)
def AaT:Option Fct->Value
  |some f=>.tuple #[.agg #[.int .i64 f.var,.int .i64 f.val],.bool true]
  |none=>.tuple #[.agg #[.int .i64 0,.int .i64 0],.bool false]
theorem PN{α:Type}(p:α->Bool):∀{l:List α}{k:Nat}{x:α},l[k]?=some x->p x=true->(∀i,i<k->∀y,l[i]?=some y->p y=false)->l.find? p=some x
  |[],_,_,h,_,_=>by simp at h
  |y::l,0,x,h,hp,_=>by
    have:y=x:=(by simpa using h);subst this;simp[hp]
  |y::l,k+1,x,h,hp,hn=>by
    have a:=hn 0 (by omega) y rfl;rw[List.find?_cons,a];exact PN p (k:=k) (by simpa using h) hp λi hi z hz=>hn (i+1) (by omega) z (by simpa using hz)
theorem Uu{α:Type}(p:α->Bool){l:List α}(hn:∀i,i<l.length->∀y,l[i]?=some y->p y=false):l.find? p=none:=by
  rw[List.find?_eq_none];intro x a;obtain⟨i,hi⟩:=H4 a;simp[hn i (BT hi) x hi]
theorem Abr{w:World}{z:Value}{t:Tsk}{j:Nat}{o:Opr}{v:Int}(A:GenB w (All w) z t)(B:t.ops[j]?=some o) :
    Fn prog 133 [z,.int .i64 (j:Int),.int .i64 v] w λr w'=>r=AaT (factOn o.pre v)/\Ext w w':=by
  obtain⟨J,a,b,c,d,rp,rfl,hgb,hb0,hvars,hinit,hgoal,hops⟩:=A;obtain⟨K,co,rfl⟩:=hops.form;obtain⟨L,o2,ce,rfl,hbl,hjl,hd0,p,q,rfl,hp,hq,hc,hnm⟩:=hops.elem B;obtain⟨C,cp,rfl⟩:=hp.form;have D:=hp.len;refine AG func133 rfl ntmps133 ?_;refine ab ?_;refine Gk rfl λx n=>?_;have e:=n.blk;have g:Ext w x:=n.ext;have E:=hb0.ext g;have y:=LH hd0 hbl g;refine ae ?_;refine ab ?_;refine ah ?_<;>refine Cm rfl ?_<;>refine AJ rfl ?_<;>refine af ?_<;>refine ac ?_<;>refine Eu rfl rfl ?_<;>refine af ?_<;>refine az ?_;refine Cj o.pre.length (by omega) (λ_:Unit=>[(2,.int .i64 v),(6,.pointer (some ⟨w.heap.size,0,none⟩)),(18,.slice C o.pre.length cp)]) (λk _ w'=>Ext x w'/\∀i,i<k->∀f,o.pre[i]?=some f->decide (f.var=v)=false) ()
    ⟨V8 _ _,λi hi=>by omega⟩ Ad (λ_=>⟨rfl,rfl⟩) ⟨rfl,rfl,rfl⟩ ⟨rfl,rfl⟩ ?_ ?_
  . rintro k _ F hk ⟨h,hh⟩;obtain⟨f,hf⟩:=AK hk;obtain⟨M,o3,ce,rfl,_,_,y,rfl,hr1,hr2⟩:=(hp.ext (g.trans' h)).elem hf;refine ak ?_;refine Dk rfl rfl (by simp[Value.cells,Value.oneCell']) λG s=>?_;have H:=s.blk;have m:Ext x G:=h.trans' s.ext;replace e:=e.ext m;refine o_z ?_;refine ab ?_
    (refine ab ?_<;>(refine af ?_<;>refine ac ?_<;>(first|refine SO rfl rfl rfl ?_|refine SP rfl rfl rfl ?_|refine EH rfl rfl (λ_=>?_) λ_=>?_)<;>refine o_z ?_)<;>refine ab ?_)
    . refine BE rfl ?_;refine CL rfl rfl e rfl (V2 _) (by simp[Value.cells,Value.oneCell']) λI u=>?_;refine ae ?_;refine ab ?_;refine X3 rfl (CC rfl rfl u.blk.cellsAt) (AC rfl) ⟨?_,g.trans ((m.mono g.size).trans (u.below (V2 _)))⟩;rw[factOn,PN _ hf (by simpa using ‹f.var=v›) hh];rfl
    . exact⟨(),Ad,m,DT hh λf' l=>by rw[hf]at l;injection l with l;subst l;simpa using ‹¬f.var=v›⟩
  rintro _ F ⟨h,hh⟩;replace e:=e.ext h;refine ab ?_;refine am ?_;refine CL rfl rfl e rfl (V2 _) (by simp[Value.cells,Value.oneCell',Y6]) λI u=>?_;refine ae ?_;refine ab ?_;refine X3 rfl (CC rfl rfl u.blk.cellsAt) (AC rfl) ⟨?_,g.trans ((h.mono g.size).trans (u.below (V2 _)))⟩;rw[factOn,Uu _ hh];rfl
theorem AbK{w:World}{b:Value}{t:Tsk}{j:Nat}{o:Opr}{v:Int}{c d:Nat}{e g:TypeId}(h:GenB w (All w) b t)(i:t.ops[j]?=some o)(k:Blk w c e [b])(l:Blk w d g [.int .i64 v]) :
    Fn prog 132 ([.int .i64 (j:Int)]++[.pointer (some ⟨c,0,none⟩),.pointer (some ⟨d,0,none⟩)]) w λr w'=>r=.bool (factOn o.pre v).isSome/\Ext w w':=by
  have m:=k;have n:=l;refine AG func132 rfl ntmps132 ?_;refine ad ?_<;>refine AL rfl ?_<;>refine ac ?_<;>refine AL rfl ?_<;>refine ab ?_;refine By rfl (Abr h i) ?_;rintro _ q ⟨rfl,hE1⟩;cases hf:factOn o.pre v with
  |none =>
    simp only[AaT];refine bd ?_;refine Dk rfl rfl (by simp[Value.cells,Value.oneCell']) λp a=>?_;refine ae ?_;refine ab ?_;refine al ?_;exact W8 rfl rfl ⟨rfl,hE1.trans' a.ext⟩
  |some f =>
    simp only[AaT];refine bd ?_;refine Dk rfl rfl (by simp[Value.cells,Value.oneCell']) λp a=>?_;refine ae ?_;refine ab ?_;refine al ?_;exact W8 rfl rfl ⟨rfl,hE1.trans' a.ext⟩
end
section
open Go Go.RowKit
attribute [local irreducible] ewp owp hwp hwq hws Ev Evg Fn W6 X7 X4 X1
theorem Aa8{w:World}{sv:Value}{xs:List (Int)}{g:FuncId}[Callable prog g]{caps:List Value}{p:Int->Prop}(hs:V w sv xs)
    (l:∀v x w',x∈xs->Ext w w'->V w' v x->Fn prog g ([v]++caps) w' λr h=>r=.bool (bof (p x))/\Ext w' h) :
    Fn prog 148 [sv,.func (.func g) #[] caps.toArray] w λv w'=>((∃k:Nat,v=.int .i64 (k:Int)/\∃x∈xs,p x)\/(v=.int .i64 (-1)/\∀x∈xs,¬p x))/\Ext w w':=by
  obtain⟨A,c,rfl⟩:=hs.form;have hl:=hs.len;refine AG func148 rfl ntmps148 ?_;refine aY ?_;refine Cj xs.length (by omega) (λ_:Unit=>[(0,.slice A xs.length c),(1,.func (.func g) #[] caps.toArray)]) (λk _ w'=>Ext w w'/\∀i,i<k->∀x,xs[i]?=some x->¬p x) ()
    ⟨V8 _ _,λi hi=>by omega⟩ A1 (λ_=>⟨rfl,rfl⟩) ⟨rfl,rfl,rfl⟩ ⟨rfl,rfl⟩ ?_ ?_
  . rintro k _ j hk ⟨d,hh⟩;obtain⟨x,e⟩:=AK hk;obtain⟨b,o,ce,rfl,_,_,hd1,hR⟩:=(hs.ext d).elem e;obtain⟨v,rfl⟩:=List.length_eq_one_iff.1 (Rp.len hR);refine bP ?_;refine Kf rfl rfl rfl (l v x j (H1 e) d hR) ?_;rintro _ m ⟨rfl,hE2⟩;by_cases f:p x
    . rw[Dq f];refine o_z ?_;refine ab ?_;refine al ?_;exact W8 rfl rfl ⟨.inl ⟨k,rfl,x,H1 e,f⟩,d.trans' hE2⟩
    . rw[BU f];refine o_z ?_;refine ab ?_;exact⟨(),A1,d.trans' hE2,DT hh λn a=>by rw[e]at a;injection a with a;exact a▸f⟩
  rintro _ j ⟨d,hh⟩;refine ab ?_;refine ad ?_;refine W8 rfl rfl ⟨.inr ⟨rfl,λx e=>?_⟩,d⟩;obtain⟨i,hi⟩:=H4 e;exact hh i (BT hi) x hi
theorem AaK{w:World}{sv:Value}{xs:List (Int)}{g:FuncId}[Callable prog g]{caps:List Value}{p:Int->Prop}(hs:V w sv xs)
    (b:∀v x w',x∈xs->Ext w w'->V w' v x->Fn prog g ([v]++caps) w' λr a=>r=.bool (bof (p x))/\Ext w' a) :
    Fn prog 131 [sv,.func (.func g) #[] caps.toArray] w λv w'=>v=.bool (bof (∃x∈xs,p x))/\Ext w w':=by
  refine AG func131 rfl ntmps131 ?_;refine bn ?_;refine By rfl (Aa8 hs b) ?_;rintro v c ⟨d,hE⟩;rcases d with⟨k,rfl,d⟩|⟨rfl,d⟩
  . refine bo ?_;refine ab ?_;exact W8 rfl rfl ⟨by rw[Dq d],hE⟩
  . refine bo ?_;refine ab ?_;exact W8 rfl rfl ⟨by rw[BU (λ⟨x,hx,hp⟩=>d x hx hp)],hE⟩
end
section
open Go Go.RowKit
attribute [local irreducible] ewp owp hwp hwq hws Ev Evg Fn W6 X7 X4 X1
def preOf(t:Tsk)(a:Int):List Fct:=match t.ops[a.toNat]? with|some o=>o.pre|none=>[]
def ZM(t:Tsk)(ops:List Int)(v:Nat):Bool:=ops.any λa=>(factOn (preOf t a) (v:Int)).isSome
def nextF(t:Tsk)(ops:List Int):Nat->Nat->Nat
  |0,v=>v
  |k+1,v=>if ZM t ops v=true then v else nextF t ops k (v+1)
def nextV(t:Tsk)(ops:List Int)(v:Nat):Nat:=nextF t ops (t.vars.length-v) v
def valB(t:Tsk)(u:Nat)(x:Nat)(a:Int):Bool:=match factOn (preOf t a) (u:Int)with|some f=>decide (f.val=(x:Int))|none=>false
def Y9(t:Tsk)(u:Nat)(a:Int):Bool:=(factOn (preOf t a) (u:Int)).isNone
def mkT(t:Tsk):Nat→List Int→Nat→Tr
  |0,_,_=>.nil
  |fuel+1,ops,v =>
    if ops.isEmpty then .nil
    else if nextV t ops v=t.vars.length then .leaf ops
    else .node (nextV t ops v) (t.vars[nextV t ops v]?.getD 0).toNat (λx=>mkT t fuel (ops.filter (valB t (nextV t ops v) x)) (nextV t ops v+1)) (mkT t fuel (ops.filter (Y9 t (nextV t ops v))) (nextV t ops v+1))
theorem Lv(t:Tsk)(ops:List Int):∀(k v:Nat),v<=nextF t ops k v/\nextF t ops k v<=v+k/\(∀u,v<=u->u<nextF t ops k v->ZM t ops u=false)/\(nextF t ops k v<v+k->ZM t ops (nextF t ops k v)=true)
  |0,v=>by simp[nextF];intro u b c;omega
  |k  + 1,v=>by
    by_cases e:ZM t ops v=true
    . simp only[nextF,e,if_true];exact⟨V2 _,by omega,λu b c=>by omega,λ_=>trivial⟩
    . obtain⟨b,c,h3,h4⟩:=Lv t ops k (v+1);simp only[nextF,e];refine⟨by simp;omega,by simp;omega,λu d a=>?_,λhlt=>h4 (by simp at hlt;omega)⟩;by_cases he:u=v
      . subst he;simpa using e
      . exact h3 u (by omega) (by simpa using a)
theorem VC(t:Tsk)(ops:List Int){v u:Nat}(a:v<=u)(e:u<=t.vars.length)(b:∀x,v<=x->x<u->ZM t ops x=false)(c:u<t.vars.length->ZM t ops u=true):nextV t ops v=u:=by
  obtain⟨d,g2,g3,g4⟩:=Lv t ops (t.vars.length-v) v;unfold nextV;rcases M7 (nextF t ops (t.vars.length-v) v) u with h|h|h
  . have:=b _ d h;rw[g4 (by omega)]at this;cases this
  . exact h
  . have:=g3 u a h;rw[c (by omega)]at this;cases this
def Acf(t:Tsk)(ops:List Int):Prop:=∀a∈ops,0<=a/\a<t.ops.length
def Abn(t:Tsk):Prop:=∀(i:Nat) o,t.ops[i]?=some o->∀(v:Nat) f,factOn o.pre (v:Int)=some f->v<t.vars.length->0<=f.val/\∃n,t.vars[v]?=some n/\f.val<n
structure ByInv(w:World)(base gby:Nat)(vals:List Value)(rv:Value)(L:Nat->List Int)(R:List Int)(m:Nat):Prop where
  len:vals.length=m
  blk:Blk w gby 22 vals
  own:∀(i:Nat)(u:Value),vals[i]?=some u->Own w base (λ_=>False) 3 u (L i)
  rest:Own w base (λ_=>False) 3 rv R
  apart:∀(i j:Nat)(u u':Value),i≠j->vals[i]?=some u->vals[j]?=some u'->∀g,u.ownBlock=some g->u'.ownBlock≠some g
  apartR:∀(i:Nat)(u:Value),vals[i]?=some u->∀g,u.ownBlock=some g->rv.ownBlock≠some g
theorem ByInv.ext{w w':World}{base b:Nat}{a:List Value}{rv:Value}{L:Nat->List Int}{R:List Int}{m:Nat}(d:ByInv w base b a rv L R m)(c:Ext w w'):ByInv w' base b a rv L R m :=
  ⟨d.len,d.blk.ext c,λi u hu=>(d.own i u hu).ext c λ_ hk=>hk.elim,d.rest.ext c λ_ hk=>hk.elim,d.apart,d.apartR⟩
theorem ByInv.putRest{w w':World}{base d:Nat}{c:List Value}{rv b:Value}{L:Nat->List Int}{R e:List Int}{m:Nat}(l:ByInv w base d c rv L R m)(f:Kept w w' rv)(j:Own w' base (λ_=>False) 3 b e)
    (a:b.ownBlock=rv.ownBlock\/∃g,b.ownBlock=some g/\w.heap.size<=g):ByInv w' base d c b L e m:=by
  refine⟨l.len,f.blk l.blk (l.rest.blk_ne l.blk (by decide)),λi u hu=>(l.own i u hu).kept f (λ_ hk=>hk.elim) (l.apartR i u hu),j,l.apart,λi u hu g h he=>?_⟩;rcases a with a|⟨k,a,hge⟩
  . exact l.apartR i u hu g h (a▸he)
  . have:=((l.own i u hu).lt g h).2;rw[a]at he;injection he with he;omega
theorem ByInv.putVal{w w' f:World}{base h:Nat}{c:List Value}{rv u p:Value}{L:Nat→List Int}{R:List Int}{m i:Nat}{xs:List Int}(C:ByInv w base h c rv L R m)(hu:c[i]?=some u)(r:Kept w w' u)(A:Own w' base (λ_=>False) 3 p xs)
    (e:p.ownBlock=u.ownBlock\/∃g,p.ownBlock=some g/\w.heap.size<=g) (x:Upd w' f h 22 (c.set i p)):ByInv f base h (c.set i p) rv (λj=>if j=i then xs else L j) R m:=by
  have hi:i<c.length:=(C3.1 hu).1;have l:∀{v:Value}{ys:List Int},Own w' base (λ_=>False) 3 v ys->Own f base (λ_=>False) 3 v ys:=λz=>by
    have s:=z.blk_ne (r.blk C.blk ((C.own i u hu).blk_ne C.blk (by decide))) (by decide);exact z.agree (λ_ hk=>hk.elim) λg d=>x.other g λhe=>s (he▸d)
  have n:∀{y:Value}{ys:List Int},Own w base (λ_=>False) 3 y ys->(∀g,u.ownBlock=some g->y.ownBlock≠some g)->∀g,p.ownBlock=some g->y.ownBlock≠some g:=λa q g d he=>by
    rcases e with e|⟨B,e,hge⟩
    . exact q g (e▸d) he
    . have:=(a.lt g he).2;rw[e]at d;injection d with d;omega
  refine⟨by rw[Q7];exact C.len,x.blk,λj y a=>?_,l (C.rest.kept r (λ_ hk=>hk.elim) λg d he=>C.apartR i u hu g he d),λj k y t o a b g d=>?_,λj y a g d=>?_⟩
  . by_cases hj:j=i
    . subst hj;rw[E9 hi]at a;injection a with a;subst a;rw[if_pos rfl];exact l A
    . rw[H7 (W0 hj)]at a;rw[if_neg hj];exact l ((C.own j y a).kept r (λ_ hk=>hk.elim) (C.apart j i y u hj a hu))
  . by_cases hj:j=i
    . subst hj;rw[E9 hi]at a;injection a with a;subst a;rw[H7 o]at b;exact n (C.own k t b) (C.apart j k u t o hu b) g d
    . rw[H7 (W0 hj)]at a;by_cases hk:k=i
      . subst hk;rw[E9 hi]at b;injection b with b;subst b;intro he;exact n (C.own j y a) (C.apart k j u y (W0 hj) hu a) g he d
      . rw[H7 (W0 hk)]at b;exact C.apart j k y t o a b g d
  . by_cases hj:j=i
    . subst hj;rw[E9 hi]at a;injection a with a;subst a;exact n C.rest (C.apartR j u hu) g d
    . rw[H7 (W0 hj)]at a;exact C.apartR j y a g d
instance:Rp Tr where
  isAgg:=false
  size:=1
  R w F cs T:=∃q,cs=[.pointer q]/\TrR w F T (.pointer q)
  len:=by rintro w F cs x ⟨v,rfl,_⟩;rfl
  one:=by rintro w F cs x ⟨v,rfl,h⟩ u hu;simp at hu;subst hu;rfl
  agree:=by rintro w w' F cs x ⟨v,rfl,h⟩ ha;exact⟨v,rfl,TrR.agree ha h⟩
  mono:=by rintro w F G cs x ⟨v,rfl,h⟩ ha;exact⟨v,rfl,TrR.mono ha h⟩
def more(F:Nat->Prop)(w w':World):Nat->Prop:=λk=>F k\/w.heap.size<=k/\k<w'.heap.size
theorem IK{p:Int->Bool}{l:List Int}{k:Nat}{x:Int}(b:l[k]?=some x):(l.take (k+1)).filter p=(l.take k).filter p++if p x=true then[x]else[]:=by
  rw[M2,b,L6];cases a:p x<;>simp[a]
theorem Uv(n:Nat):(madeCells (Value.slice none 0 0).cells (n*1)).toList=List.replicate n (.slice none 0 0):=Rl _ n rfl
theorem bR{G H:Prop}(g:H)(h:Wr0 H->G:=by intro x;refine Jg rfl rfl ?_;refine Jg rfl rfl ?_;refine bj ?_;refine Be rfl rfl ?_;refine Jg rfl rfl ?_;refine OK rfl rfl rfl ?_;exact x.o):G:=h ⟨g⟩
theorem bT{G H:Prop}(g:H)(h:Wr0 H->G:=by intro x;refine aj ?_;refine ap ?_;(refine AB rfl ?_;(first|(refine AA rfl rfl ?_;refine Xk rfl rfl rfl ?_)|refine AH rfl rfl ?_));exact x.o):G:=h ⟨g⟩
theorem bx{G H:Prop}(g:H)(h:Wr0 H->G:=by intro x;(refine AB rfl ?_;(first|(refine AA rfl rfl ?_;(first|refine UK rfl rfl ?_|refine UL rfl rfl ?_|refine UM rfl rfl ?_))|refine AH rfl rfl ?_));refine bq ?_;refine h_z ?_;exact x.o):G:=h ⟨g⟩
theorem bU{G H:Prop}(g:H)(h:Wr0 H->G:=by intro x;refine Du rfl rfl ?_;refine Du rfl rfl ?_;refine bj ?_;refine ay ?_;refine OK rfl rfl rfl ?_;exact x.o):G:=h ⟨g⟩
theorem AbT(t:Tsk)(s1:Z3 t)(x2:Abn t)(n3:t.vars.length≤64):∀(fuel:Nat)(w:World)(gv c0:Value)(ops:List Int)(v:Nat)(F:Nat→Prop),GenB w (All w) gv t→Vb w F c0 ops→(∀k,F k→k<w.heap.size)→Acf t ops→ops.length≤4096 →
    v<=t.vars.length->t.vars.length<fuel+v->Fn prog 98 [gv,c0,.int .i64 (v:Int)] w λp w'=>TrR w' (more F w w') (mkT t fuel ops v) p/\Ext w w':=by
  intro fuel
  induction fuel with
  |zero=>intro w gv c0 ops v F _ _ _ _ _ h1 h2;omega
  |succ fuel ih =>
    intro w gv c0 ops v F g0 d0 hF f1 t1 y2 z2;obtain⟨gb,a,b,c,d,rp,rfl,hgb,hbg,hvars,hinit,hgoal,hopsv⟩:=id g0;obtain⟨Av,cv,rfl⟩:=hvars.form;obtain⟨Ax,cx,rfl⟩:=d0.form;refine AG func98 rfl ntmps98 ?_;refine ab ?_;refine FC rfl λQ h0=>?_;refine FC rfl λw2 s0=>?_;have u1:Ext w w2:=h0.ext.trans' s0.ext;have s:Blk w2 w.heap.size 107 [.pointer (some ⟨gb,0,none⟩)]:=h0.blk.ext s0.ext;have e:Blk w2 Q.heap.size 3 [.int .i64 (v:Int)]:=s0.blk;have v1:Q.heap.size≠w.heap.size:=(by rw[h0.size];omega);have x1:w.heap.size<=Q.heap.size:=h0.ext.size;have hz1:Q.heap.size=w.heap.size+1:=h0.size;have o3:w2.heap.size=Q.heap.size+1:=s0.size;refine ae ?_;refine ab ?_;by_cases y1:ops.length=0
    . have:ops=[]:=B2 y1;subst this;refine ah ?_<;>refine AO rfl ?_<;>(first|refine SO rfl rfl rfl ?_|refine SP rfl rfl rfl ?_)<;>refine o_z ?_<;>refine ad ?_;exact W8 rfl rfl ⟨rfl,u1⟩
    have i0:ops.isEmpty=false:=by cases ops<;>simp at *
    refine ac ?_<;>refine AO rfl ?_<;>(first|refine SO rfl rfl rfl ?_|refine SP rfl rfl rfl ?_)<;>refine o_z ?_;refine Ah rfl (AE ?_);refine RX (λl' w'=>∃u:Nat,W4 l' [(1,.slice Ax ops.length cx),(3,.pointer (some ⟨w.heap.size,0,none⟩)),(5,.pointer (some ⟨Q.heap.size,0,none⟩))]/\Ext w w'/\Blk w' w.heap.size 107 [.pointer (some ⟨gb,0,none⟩)]/\Blk w' Q.heap.size 3 [.int .i64 (u:Int)] /\
      v<=u/\u<=t.vars.length/\(∀x,v<=x->x<u->ZM t ops x=false)/\(u<t.vars.length->ZM t ops u=true)) ?_ ?_
    . refine ab ?_;refine FS (λ_:Nat=>[(1,.slice Ax ops.length cx),(3,.pointer (some ⟨w.heap.size,0,none⟩)),(5,.pointer (some ⟨Q.heap.size,0,none⟩))]) (λu w'=>Ext w w'/\Blk w' w.heap.size 107 [.pointer (some ⟨gb,0,none⟩)]/\Blk w' Q.heap.size 3 [.int .i64 (u:Int)] /\
        v<=u/\u<=t.vars.length/\∀x,v<=x->x<u->ZM t ops x=false) (λu=>t.vars.length-u) v ⟨u1,s,e,V2 _,y2,λx h1 h2=>by omega⟩ B5 ?_
      rintro u L ⟨D,s,e,hvu,hun,hno⟩;have j0:=hbg.ext D;refine ab ?_;refine Ct (Ext L) [(0,true),(1,true),(2,true),(3,true),(4,true),(5,true),(6,true),(7,true),(8,true),(9,true),(10,true),(11,false),(12,true),(13,true)] rfl (V8 _ _) ?_;by_cases hlt:u<t.vars.length
      . (refine bR ?_<;>(first|refine IE rfl rfl rfl ?_|refine IF rfl rfl rfl ?_|refine GN rfl rfl rfl (λ_=>?_) λ_=>?_)<;>refine bT ?_)
        refine BZ rfl ?_;refine Az rfl rfl ?_;have g1:V L (.slice Ax ops.length cx) ops:=Vb.mono (Vb.agree d0 (D.agree hF)) λk hk=>K1 (hF k hk) D.size;have z1:(∃x∈ops,(factOn (preOf t x) (u:Int)).isSome=true)↔ZM t ops u=true:=(by unfold ZM;rw[List.any_eq_true]);refine Ej rfl (AaK (g:=132) (caps:=[.pointer (some ⟨w.heap.size,0,none⟩),.pointer (some ⟨Q.heap.size,0,none⟩)]) (p:=λop=>(factOn (preOf t op) (u:Int)).isSome=true) g1 ?_) ?_ ?_
        . intro vx x w' hx i1 j1;obtain⟨j1,_⟩:=j1;obtain rfl:vx=.int .i64 x:=(by simpa using j1);obtain⟨k1,hx1⟩:=f1 x hx;obtain⟨j,rfl⟩:=E3 k1;obtain⟨o,ho⟩:=AK (l:=t.ops) (k:=j) (by omega);refine(AbK (g0.ext (D.trans' i1)) ho (s.ext i1) (e.ext i1)).mono λr p3 ⟨hr,hE''⟩=>⟨?_,hE''⟩;rw[hr,Jf];simp[preOf,ho]
        . intro w4 hp I;refine Ds I ?_;refine bx ?_;refine ab ?_;exact⟨u,B5,D.trans' I,s.ext I,e.ext I,hvu,hun,hno,λ_=>z1.1 hp⟩
        . intro w4 hp I;refine Ds I ?_;refine bx ?_;refine ab ?_;replace s:=s.ext I;replace e:=e.ext I;refine AL rfl ?_<;>refine bm ?_;refine CL rfl rfl e rfl (V2 _) (by simp[Value.cells,Value.oneCell']) λw5 hU=>?_;refine o_z ?_;refine⟨u+1,B5,⟨(D.trans' I).trans (hU.below x1),s.keep (hU.other _ (λh=>v1 h.symm)),hU.blk,by omega,by omega,λx h1 h2=>?_⟩,by omega⟩;by_cases he:x=u
          . subst he;cases hq:ZM t ops x
            . rfl
            . exact absurd (z1.2 hq) hp
          . exact hno x h1 (by omega)
      . (refine bR ?_<;>(first|refine IE rfl rfl rfl ?_|refine IF rfl rfl rfl ?_|refine GN rfl rfl rfl (λ_=>?_) λ_=>?_)<;>refine bT ?_)
        refine BZ rfl ?_;refine Ay rfl rfl ?_;refine Ds (V8 _ _) ?_;refine bx ?_;refine ab ?_;exact⟨u,B5,D,s,e,hvu,hun,hno,λh=>absurd h hlt⟩
    rintro l' L ⟨u,X,D,s,e,hvu,hun,hno,hyes⟩;refine AQ _ X ?_;clear X;have l1:nextV t ops v=u:=VC t ops hvu hun hno hyes;have j0:=hbg.ext D;have g1:Vb L F (.slice Ax ops.length cx) ops:=Vb.agree d0 (D.agree hF);refine ab ?_;refine Ct (·=L) [(0,true),(1,true),(2,true),(3,true),(4,true),(5,true),(6,true),(7,true)] rfl rfl ?_;by_cases k0:u=t.vars.length
    . (refine bU ?_<;>(first|refine VU rfl rfl rfl rfl ?_|refine VV rfl rfl rfl rfl ?_|refine VW rfl rfl rfl rfl (λ_=>?_) λ_=>?_)<;>refine h_z ?_)<;>refine ab ?_
      refine ac ?_<;>refine am ?_;refine FC rfl λw4 O=>?_;refine ae ?_;refine ab ?_;have I:Ext w w4:=D.trans' O.ext;have hT:mkT t (fuel+1) ops v=.leaf ops:=(by simp only[mkT,i0,l1,k0];simp);rw[hT];refine W8 rfl rfl ⟨⟨L.heap.size,.slice Ax ops.length cx,rfl,.inr ⟨D.size,O.blk.lt⟩,O.blk,?_⟩,I⟩;exact Vb.mono (Vb.agree g1 (O.ext.agree λk hk=>K1 (hF k hk) D.size)) λk hk=>.inl hk
    have a1:u<t.vars.length:=(by omega);obtain⟨n,hn⟩:=AK a1;have q3:=s1 u n hn;obtain⟨m,rfl⟩:=E3 (show 0<=n by omega);have hT:mkT t (fuel+1) ops v=.node u m (λx=>mkT t fuel (ops.filter (valB t u x)) (u+1)) (mkT t fuel (ops.filter (Y9 t u)) (u+1)):=by
      simp only[mkT,i0,l1,k0,hn];simp
    rw[hT];clear hT l1
    (refine bU ?_<;>(first|refine VU rfl rfl rfl rfl ?_|refine VV rfl rfl rfl rfl ?_|refine VW rfl rfl rfl rfl (λ_=>?_) λ_=>?_)<;>refine h_z ?_)<;>refine ab ?_
    obtain⟨bv,ov,ce,rfl,hbv,_,hdv,rfl,_⟩:=hvars.elem hn;refine Ct (Ext L) [(0,true),(1,true),(2,true),(3,true),(4,true),(5,true),(6,true),(7,true),(8,false),(9,true)] rfl (V8 _ _) ?_;have J:=s;have E:=e;replace s:∀w',Ext L w'->Blk w' w.heap.size 107 [.pointer (some ⟨gb,0,none⟩)]:=λw' h=>J.ext h;replace e:∀w',Ext L w'->Blk w' Q.heap.size 3 [.int .i64 (u:Int)]:=λw' h=>E.ext h;have a2:=j0;replace j0:∀w',Ext L w'->Blk w' gb 165 [.slice (some ⟨bv,ov,none⟩) t.vars.length cv,b,c,d,.pointer rp]:=λw' h=>a2.ext h;have c2:∀w',Ext L w'->cellsAt w' bv (ov+u*1) [.int .i64 (m:Int)]:=λw' h=>LH hdv hbv (D.trans' h);refine aX ?_<;>refine bj ?_<;>refine Be rfl rfl ?_<;>refine aX ?_<;>refine bw ?_;refine BZ rfl ?_;refine Ng rfl rfl (by omega) (by omega) rfl λw4 O=>?_;refine Ds O.ext ?_;refine CY rfl rfl ?_<;>refine h_z ?_;have I:Ext w w4:=D.trans' O.ext;have d2:w2.heap.size<=L.heap.size:=(by have:=E.lt;omega);replace s:=J.ext O.ext;replace e:=E.ext O.ext;clear j0 c2;refine ab ?_;refine aY ?_;have f2:ByInv w4 w2.heap.size L.heap.size (List.replicate m (.slice none 0 0)) (.slice none 0 0) (λi=>((ops.take 0).filter (valB t u i))) ((ops.take 0).filter (Y9 t u)) m:=by
      have l0:∀(i:Nat)(x:Value),(List.replicate m (Value.slice none 0 0))[i]?=some x->x=.slice none 0 0:=λi x h=>by
        rw[List.getElem?_replicate]at h;split at h<;>simp at h;exact h.symm
      refine⟨by simp,by have:=O.blk;rwa[Uv]at this,λi x h=>?_,by simpa using Own.nil _ _ _ _,λi j x y _ hx _ g hg=>?_,λi x hx g hg=>?_⟩
      . rw[l0 i x h];simpa using Own.nil _ _ _ _
      . rw[l0 i x hx]at hg;simp[Value.ownBlock]at hg
      . rw[l0 i x hx]at hg;simp[Value.ownBlock]at hg
    refine Cj ops.length (by omega) (λx:List Value×Value=>[(1,.slice Ax ops.length cx),(3,.pointer (some ⟨w.heap.size,0,none⟩)),(5,.pointer (some ⟨Q.heap.size,0,none⟩)),(7,.slice (some ⟨L.heap.size,0,none⟩) m m),(8,x.2),(55,.slice Ax ops.length cx)])
      (λk x w'=>Ext w w'/\Blk w' w.heap.size 107 [.pointer (some ⟨gb,0,none⟩)]/\Blk w' Q.heap.size 3 [.int .i64 (u:Int)]/\ByInv w' w2.heap.size L.heap.size x.1 x.2 (λi=>((ops.take k).filter (valB t u i))) ((ops.take k).filter (Y9 t u)) m) (List.replicate m (.slice none 0 0),.slice none 0 0)
      ⟨I,s,e,f2⟩ D3 (λ_=>⟨rfl,rfl⟩) ⟨rfl,rfl,rfl⟩ ⟨rfl,rfl⟩ ?_ ?_
    . rintro k ⟨C,rv⟩ w5 hk ⟨hE5,s,e,hby⟩;dsimp only at hby;obtain⟨x,hx⟩:=AK hk;obtain⟨k1,hx1⟩:=f1 x (H1 hx);obtain⟨j,rfl⟩:=E3 k1;obtain⟨o,ho⟩:=AK (l:=t.ops) (k:=j) (by omega);have Y:preOf t (j:Int)=o.pre:=(by simp[preOf,ho]);obtain⟨b2,o2,ce,rfl,hbF,_,hd0,rfl,hxin⟩:=d0.elem hx;have c2:=LH hd0 (hF _ hbF) hE5;refine aW ?_<;>refine AL rfl ?_<;>refine ac ?_<;>refine AL rfl ?_<;>refine ab ?_;refine By rfl (Abr (g0.ext hE5) ho) ?_;rintro _ S ⟨rfl,hE6⟩;replace s:=s.ext hE6;replace e:=e.ext hE6;replace hby:=hby.ext hE6;have b1:Ext w S:=hE5.trans' hE6;have r3:((ops.take k).filter (Y9 t u)).length<=4096:=U8 (G0 _ _) (by rw[N8];omega);cases hf:factOn o.pre (u:Int)with
      |none =>
        simp only[AaT];refine bd ?_;refine Dk rfl rfl (by simp[Value.cells,Value.oneCell']) λw7 B=>?_;replace s:=s.ext B.ext;replace e:=e.ext B.ext;replace hby:=hby.ext B.ext;have m1:Ext w w7:=b1.trans' B.ext;refine ae ?_;refine ab ?_;refine ah ?_<;>refine o_z ?_<;>refine ab ?_;refine aV ?_;have g2:=e.lt;refine Qp (a:=(j:Int)) rfl rfl rfl hby.rest (λ_ h=>h.elim) (by omega) ⟨rfl,hxin⟩ (by decide) (by decide) (by omega) (by omega) ⟨rfl,rfl⟩ λa3 P b3 i2 hat=>?_;have n1:Below w2.heap.size w7 P:=hby.rest.fits (V2 _) (by omega) i2;have e0:=hby.putRest i2 b3 hat;refine ae ?_;refine ab ?_;refine⟨(C,a3),D3,m1.trans (n1.mono (by omega)),s.keep (n1.block _ (by omega)),e.keep (n1.block _ (by omega)),?_⟩;have e1:∀i,(ops.take (k+1)).filter (valB t u i)=(ops.take k).filter (valB t u i):=λi=>(by rw[IK hx];simp[valB,Y,hf]);have e2:(ops.take (k+1)).filter (Y9 t u)=(ops.take k).filter (Y9 t u)++[(j:Int)]:=(by rw[IK hx];simp[Y9,Y,hf]);dsimp only;rw[e2];simp only[e1];exact e0
      |some f =>
        obtain⟨c3,n',t0,hf1⟩:=x2 j o ho u f hf a1;rw[hn]at t0;injection t0 with t0;subst t0;obtain⟨W,hj1⟩:=E3 c3;have j2:W<m:=(by omega);obtain⟨u0,hu0⟩:=AK (l:=C) (k:=W) (by rw[hby.len];exact j2);simp only[AaT];refine bd ?_;refine Dk rfl rfl (by simp[Value.cells,Value.oneCell']) λw7 B=>?_;replace s:=s.ext B.ext;replace e:=e.ext B.ext;replace hby:=hby.ext B.ext;have m1:Ext w w7:=b1.trans' B.ext;have v0:=B.blk;refine ae ?_;refine ab ?_;refine ah ?_<;>refine o_z ?_<;>refine ab ?_;have g2:=e.lt;have z:=hby.own W u0 hu0;have l3:((ops.take k).filter (valB t u W)).length<=4096:=U8 (G0 _ _) (by rw[N8];omega);refine Ct (λw'=>Blk w' S.heap.size 61 [.int .i64 f.var,.int .i64 f.val]/\Blk w' L.heap.size 22 C) [(0,true),(1,true),(2,true),(3,true),(4,true),(5,true),(6,true),(7,true),(8,true),(9,false),(10,false),(11,true),(12,false)] rfl ⟨v0,hby.blk⟩ ?_;have J:=s;have E:=e;clear e;replace s:∀w',(Blk w' S.heap.size 61 [.int .i64 f.var,.int .i64 f.val]/\Blk w' L.heap.size 22 C)->Blk w' S.heap.size 61 [.int .i64 f.var,.int .i64 f.val]:=λ_ h=>h.1;have k2:∀w',(Blk w' S.heap.size 61 [.int .i64 f.var,.int .i64 f.val]/\Blk w' L.heap.size 22 C)->w'.cell? ⟨L.heap.size,0+W*1,none⟩=some u0:=λ_ h=>h.2.cell (by rw[U4,V6];exact hu0);refine aj ?_<;>refine Be rfl rfl ?_<;>refine aX ?_<;>refine aj ?_<;>refine Be rfl rfl ?_<;>refine bw ?_<;>refine aj ?_;refine BZ rfl ?_;refine FQ rfl rfl (by simp[Value.cells]) rfl λP K=>?_;refine Ds ⟨v0.ext K.ext,hby.blk.ext K.ext⟩ ?_;refine BZ rfl ?_;refine Hh (α:=Int) (A:=some ⟨w7.heap.size,0,none⟩) (c:=1) (ys:=[(j:Int)]) (cells:=[.int .i64 (j:Int)]) rfl rfl (z.ext K.ext λ_ h=>h.elim) (λ_ h=>h.elim) (by have:=K.size;omega) (.single ⟨rfl,hxin⟩) (λ_=>⟨_,_,rfl,K.blk.cellsAt⟩) (by decide) (by rw[F9];omega) (by rw[F9];omega) rfl λv' w9 l2 m0 hat=>?_;have w0:Kept w7 w9 u0:=⟨m0.os.trans K.ext.os,m0.tape.trans K.ext.tape,m0.output.trans K.ext.output,U8 K.ext.size m0.size,λk hk n0=>by rw[m0.block k (K1 hk K.ext.size) (λhe=>n0 he.symm),K.ext.block k hk]⟩;have m2:=w0.blk v0 (z.blk_ne v0 (by decide));have c1:=w0.blk hby.blk (z.blk_ne hby.blk (by decide));have o1:Below w2.heap.size w7 w9:=z.fits (V2 _) (by omega) w0;refine Ds ⟨m2,c1⟩ ?_;refine OM rfl rfl rfl rfl ?_;refine BZ rfl ?_;obtain⟨A9,c9,rfl⟩:=l2.form;refine CL (g:=L.heap.size) (o:=0+W*1) rfl rfl c1 rfl (by rw[hby.len];show 0+W*1+1<=m;omega) (by simp[Value.cells,Value.oneCell']) λa0 hU=>?_;have n2:W9 C (0+W*1) [.slice A9 (List.filter (valB t u W) (List.take k ops)++[(j:Int)]).length c9]=C.set W (.slice A9 (List.filter (valB t u W) (List.take k ops)++[(j:Int)]).length c9):=(by rw[U4,V6];rfl);have d3:Upd w9 a0 L.heap.size 22 (C.set W (.slice A9 (List.filter (valB t u W) (List.take k ops)++[(j:Int)]).length c9)):=n2▸hU;have p1:=hby.putVal hu0 w0 l2 (by
          rcases hat with hat|hat
          . exact .inl hat
          . exact .inr ⟨_,hat,K.ext.size⟩) d3
        have o0:Below w2.heap.size w9 a0:=hU.below d2;refine Gl ?_;refine h_z ?_;refine ab ?_;refine⟨(C.set W (.slice A9 (List.filter (valB t u W) (List.take k ops)++[(j:Int)]).length c9),rv),D3,m1.trans ((o1.trans o0).mono (by omega)),J.keep ((o1.trans o0).block _ (by omega)),E.keep ((o1.trans o0).block _ (by omega)),?_⟩;have e1:∀i,(ops.take (k+1)).filter (valB t u i)=if i=W then(ops.take k).filter (valB t u W)++[(j:Int)]else(ops.take k).filter (valB t u i):=λi=>by
          rw[IK hx];by_cases hi:i=W
          . subst hi;simp[valB,Y,hf,hj1]
          . have:¬(f.val=(i:Int)):=(by omega);simp[valB,Y,hf,hi,this]
        have e2:(ops.take (k+1)).filter (Y9 t u)=(ops.take k).filter (Y9 t u):=(by rw[IK hx];simp[Y9,Y,hf]);dsimp only;rw[e2];simp only[e1];exact p1
    rintro⟨C,rv⟩ w5 ⟨hE5,s,e,hby⟩;dsimp only at hby;rw[P4]at hby;have g2:=e.lt;have J:=s;have E:=e;have f0:∀p:Int->Bool,Acf t (ops.filter p)/\(ops.filter p).length<=4096:=λp=>⟨λx hx=>f1 x (Q9.1 hx).1,U8 (G0 _ _) t1⟩;have e3:Vb w5 (λk=>rv.ownBlock=some k) rv (ops.filter (Y9 t u)):=hby.rest.vb.mono λk hk=>hk.resolve_left id;refine ab ?_;refine Ct (Ext w5) [(0,true),(1,true),(2,true),(3,true),(4,true),(5,false),(6,true),(7,false),(8,true)] rfl (V8 _ _) ?_;refine Jg rfl rfl ?_<;>refine Jg rfl rfl ?_<;>refine aj ?_<;>refine Jg rfl rfl ?_<;>(first|refine Xj rfl rfl rfl ?_|refine Xi rfl rfl rfl rfl ?_);refine BZ rfl ?_;refine By rfl (ih w5 _ rv _ (u+1) (λk=>rv.ownBlock=some k) (g0.ext hE5) e3 (λk hk=>(hby.rest.lt k hk).2) (f0 _).1 (f0 _).2 (by omega) (by omega)) ?_;rintro p6 S ⟨p2,hE6⟩;obtain⟨q6,rfl⟩:=p2.form;refine Ds hE6 ?_;refine Nj rfl rfl rfl ?_;refine BZ rfl ?_;refine FC rfl λw7 B=>?_;refine Ds (hE6.trans' B.ext) ?_;refine CY rfl rfl ?_<;>refine h_z ?_;have q1:Blk w7 S.heap.size 241 [.slice none 0 0,.bool false,.int .i64 (u:Int),.slice none 0 0,.pointer q6]:=B.blk;have q2:=hby.ext hE6;refine ab ?_;refine ah ?_<;>refine az ?_;refine Cj m (by omega) (λx:Value=>[(3,.pointer (some ⟨w.heap.size,0,none⟩)),(5,.pointer (some ⟨Q.heap.size,0,none⟩)),(13,.pointer (some ⟨S.heap.size,0,none⟩)),(94,.slice (some ⟨L.heap.size,0,none⟩) m m)])
      (λk x w'=>Ext S w'/\Blk w' S.heap.size 241 [.slice none 0 0,.bool false,.int .i64 (u:Int),x,.pointer q6]/\∃G:Nat->Prop,(∀k,G k->k<w'.heap.size/\w2.heap.size<=k)/\¬G S.heap.size/\Own w' w7.heap.size G 163 x ((List.range k).map λi=>mkT t fuel (ops.filter (valB t u i)) (u+1))) (.slice none 0 0)
      ⟨B.ext,q1,λ_=>False,λ_ h=>h.elim,id,Own.nil _ _ _ _⟩ Af (λ_=>⟨rfl,rfl⟩) ⟨rfl,rfl,rfl⟩ ⟨rfl,rfl⟩ ?_ ?_
    . rintro k xv P hk ⟨Z,hnd,G,hG,hGn,hown⟩;obtain⟨u0,hu0⟩:=AK (l:=C) (k:=k) (by rw[hby.len];exact hk);have e0:=q2.ext Z;have M:Ext w5 P:=hE6.trans' Z;have p0:Ext w P:=hE5.trans' M;have k2:P.cell? ⟨L.heap.size,0+k*1,none⟩=some u0:=e0.blk.cell (by rw[U4,V6];exact hu0);have z:=e0.own k u0 hu0;obtain⟨Ak,ck,rfl⟩:=z.form;obtain⟨N,cx',rfl⟩:=hown.form;have r2:w7.heap.size<=P.heap.size:=(by have:=hnd.lt;have:=B.size;omega);refine aW ?_;refine Ct (λw'=>Blk w' S.heap.size 241 [.slice none 0 0,.bool false,.int .i64 (u:Int),.slice N ((List.range k).map λi=>mkT t fuel (ops.filter (valB t u i)) (u+1)).length cx',.pointer q6]/\Blk w' w.heap.size 107 [.pointer (some ⟨gb,0,none⟩)]/\Blk w' Q.heap.size 3 [.int .i64 (u:Int)]) [(0,true),(1,true),(2,true),(3,true),(4,true),(5,true),(6,true),(7,true),(8,true),(9,false),(10,false),(11,false),(12,true),(13,true),(14,false)] rfl ⟨hnd,J.ext M,E.ext M⟩ ?_;have s2:∀w',Ext P w'->Blk w' S.heap.size 241 [.slice none 0 0,.bool false,.int .i64 (u:Int),.slice N ((List.range k).map λi=>mkT t fuel (ops.filter (valB t u i)) (u+1)).length cx',.pointer q6]/\Blk w' w.heap.size 107 [.pointer (some ⟨gb,0,none⟩)]/\Blk w' Q.heap.size 3 [.int .i64 (u:Int)]:=λw' h=>⟨hnd.ext h,(J.ext M).ext h,(E.ext M).ext h⟩;clear s e k2;have s:∀w',(Blk w' S.heap.size 241 [.slice none 0 0,.bool false,.int .i64 (u:Int),.slice N ((List.range k).map λi=>mkT t fuel (ops.filter (valB t u i)) (u+1)).length cx',.pointer q6]/\Blk w' w.heap.size 107 [.pointer (some ⟨gb,0,none⟩)]/\Blk w' Q.heap.size 3 [.int .i64 (u:Int)])->Blk w' S.heap.size 241 [.slice none 0 0,.bool false,.int .i64 (u:Int),.slice N ((List.range k).map λi=>mkT t fuel (ops.filter (valB t u i)) (u+1)).length cx',.pointer q6]:=λ_ h=>h.1;have e:∀w',(Blk w' S.heap.size 241 [.slice none 0 0,.bool false,.int .i64 (u:Int),.slice N ((List.range k).map λi=>mkT t fuel (ops.filter (valB t u i)) (u+1)).length cx',.pointer q6]/\Blk w' w.heap.size 107 [.pointer (some ⟨gb,0,none⟩)]/\Blk w' Q.heap.size 3 [.int .i64 (u:Int)])->Blk w' w.heap.size 107 [.pointer (some ⟨gb,0,none⟩)]:=λ_ h=>h.2.1;have j0:∀w',(Blk w' S.heap.size 241 [.slice none 0 0,.bool false,.int .i64 (u:Int),.slice N ((List.range k).map λi=>mkT t fuel (ops.filter (valB t u i)) (u+1)).length cx',.pointer q6]/\Blk w' w.heap.size 107 [.pointer (some ⟨gb,0,none⟩)]/\Blk w' Q.heap.size 3 [.int .i64 (u:Int)])->Blk w' Q.heap.size 3 [.int .i64 (u:Int)]:=λ_ h=>h.2.2;refine aj ?_<;>refine bp ?_<;>refine aX ?_<;>refine aj ?_<;>refine aX ?_<;>(first|refine Xj rfl rfl rfl ?_|refine Xi rfl rfl rfl rfl ?_);refine BZ rfl ?_;have t2:Vb P (λq=>(Value.slice Ak (ops.filter (valB t u k)).length ck).ownBlock=some q) (.slice Ak (ops.filter (valB t u k)).length ck) (ops.filter (valB t u k)):=z.vb.mono λq hq=>hq.resolve_left id;refine By rfl (ih P _ _ _ (u+1) _ (g0.ext p0) t2 (λq hq=>(z.lt q hq).2) (f0 _).1 (f0 _).2 (by omega) (by omega)) ?_;rintro p9 w9 ⟨y0,hE9⟩;obtain⟨q9,rfl⟩:=y0.form;refine Ds (s2 w9 hE9) ?_;refine BZ rfl ?_;refine FQ rfl rfl (by simp[Value.cells]) rfl λa0 T=>?_;have H:Ext P a0:=hE9.trans' T.ext;refine Ds (s2 a0 H) ?_;have z0:∀q,(G q\/(Value.slice Ak (ops.filter (valB t u k)).length ck).ownBlock=some q\/P.heap.size<=q/\q<w9.heap.size)->q<w9.heap.size/\w2.heap.size<=q:=λq hq=>by
        have h9:=hE9.size;have h6:=hE6.size;have h7:=B.size;rcases hq with hq|hq|hq
        . have:=hG q hq;exact⟨by omega,this.2⟩
        . have:=z.lt q hq;exact⟨by omega,this.1⟩
        . exact⟨hq.2,by omega⟩
      have f3:∀g,(Value.slice N ((List.range k).map λi=>mkT t fuel (ops.filter (valB t u i)) (u+1)).length cx').ownBlock=some g->¬(G g\/(Value.slice Ak (ops.filter (valB t u k)).length ck).ownBlock=some g\/P.heap.size<=g/\g<w9.heap.size):=λg hg h=>by
        rcases h with h|h|h
        . obtain⟨_,_,_,h3⟩:=hown;exact h3 g hg h
        . exact hown.own_ne z (by decide) g hg h
        . have:=(hown.lt g hg).2;omega
      have r1:Own w9 w7.heap.size (λq=>G q\/(Value.slice Ak (ops.filter (valB t u k)).length ck).ownBlock=some q\/P.heap.size<=q/\q<w9.heap.size) 163 _ _:=(hown.ext hE9 λq hq=>(hG q hq).1).mono (λq hq=>.inl hq) f3;have g3:Chunks a0 (λq=>G q\/(Value.slice Ak (ops.filter (valB t u k)).length ck).ownBlock=some q\/P.heap.size<=q/\q<w9.heap.size) [.pointer q9] [mkT t fuel (ops.filter (valB t u k)) (u+1)] :=
        .single (show Rp.R a0 _ [.pointer q9] _ from⟨q9,rfl,TrR.agree (T.ext.agree λq hq=>(z0 q hq).1) (TrR.mono (λq hq=>by
          rcases hq with hq|hq
          . exact .inr (.inl hq)
          . exact .inr (.inr hq)) y0)⟩)
      refine BZ rfl ?_;have s3:((List.range k).map λi=>mkT t fuel (ops.filter (valB t u i)) (u+1)).length<=64:=(by simp;omega);refine Hh (α:=Tr) (A:=some ⟨w9.heap.size,0,none⟩) (c:=1) (ys:=[mkT t fuel (ops.filter (valB t u k)) (u+1)]) (cells:=[.pointer q9]) rfl rfl (r1.ext T.ext λq hq=>(z0 q hq).1) (λq hq=>K1 (z0 q hq).1 T.ext.size) (by have:=H.size;omega) g3 (λ_=>⟨_,_,rfl,T.blk.cellsAt⟩) (by decide) (by rw[F9];omega) (by rw[F9];omega) rfl λv' u2 q0 U hat=>?_;have v2:=hown.ext H λq hq=>(hG q hq).1;have d1:Kept P u2 (.slice N ((List.range k).map λi=>mkT t fuel (ops.filter (valB t u i)) (u+1)).length cx'):=⟨U.os.trans H.os,U.tape.trans H.tape,U.output.trans H.output,U8 H.size U.size,λq hq n0=>by rw[U.block q (K1 hq H.size) (λhe=>n0 he.symm),H.block q hq]⟩;have r0:Below w7.heap.size P u2:=hown.fits (V2 _) r2 d1;have b0:=d1.blk hnd (hown.blk_ne hnd (by decide));have m3:=B.size;refine Ds ⟨b0,(J.ext M).keep (r0.block _ (by have:=hE6.size;omega)),(E.ext M).keep (r0.block _ (by have:=hE6.size;omega))⟩ ?_;refine bj ?_;refine BZ rfl ?_;obtain⟨i3,c11,rfl⟩:=q0.form;refine CL (g:=S.heap.size) rfl rfl b0 rfl (show 0+3+1<=5 by decide) (by simp[Value.cells,Value.oneCell']) λt3 hU=>?_;refine Gl ?_;refine h_z ?_;refine ab ?_;refine⟨_,Af,?_,hU.blk,(λq=>G q\/(Value.slice Ak (ops.filter (valB t u k)).length ck).ownBlock=some q\/P.heap.size<=q/\q<w9.heap.size),?_,?_,?_⟩
      . exact Z.trans ((r0.mono (by omega)).trans (hU.below (V2 _)))
      . intro q hq;have:=z0 q hq;have h1:=T.ext.size;have h2:=U.size;exact⟨by rw[hU.size];omega,this.2⟩
      . rintro(h|h|h)
        . exact hGn h
        . exact z.blk_ne hnd (by decide) h
        . have:=hnd.lt;omega
      . rw[List.range_succ,R2];have n0:(Value.slice i3 (((List.range k).map λi=>mkT t fuel (ops.filter (valB t u i)) (u+1))++[mkT t fuel (ops.filter (valB t u k)) (u+1)]).length c11).ownBlock≠some S.heap.size:=q0.blk_ne b0 (by decide);exact q0.agree (hU.agree (by
          rintro(h|h|h)
          . exact hGn h
          . exact z.blk_ne hnd (by decide) h
          . have:=hnd.lt;omega)) λg hg=>hU.other g λhe=>n0 (he▸hg)
    rintro xv P ⟨Z,hnd,G,hG,hGn,hown⟩;refine ab ?_;refine al ?_;have p0:Ext w P:=hE5.trans' (hE6.trans' Z);obtain⟨N,cx',rfl⟩:=hown.form;have j3:((List.range m).map λi=>mkT t fuel (ops.filter (valB t u i)) (u+1)).length=m:=(by simp);rw[j3]at hnd;refine W8 rfl rfl ⟨⟨S.heap.size,N,cx',q6,rfl,.inr ⟨by have:=hE5.size;have:=hE6.size;omega,hnd.lt⟩,hnd,?_,λi hi=>?_⟩,p0⟩
    . refine TrR.mono (λq hq=>?_) (TrR.agree (Z.agree λq hq=>?_) p2)
      . rcases hq with hq|hq
        . have:=hby.rest.lt q hq;have:=hE6.size;have:=Z.size;exact .inr ⟨by omega,by omega⟩
        . have:=Z.size;have:=hE5.size;exact .inr ⟨by omega,by omega⟩
      . rcases hq with hq|hq
        . have:=hby.rest.lt q hq;have:=hE6.size;omega
        . exact hq.2
    . have k3:=hown.vb;obtain⟨b9,o9,cs9,hA,hF9,_,hc9,q9,rfl,y0⟩:=k3.elem (k:=i) (x:=mkT t fuel (ops.filter (valB t u i)) (u+1)) (by rw[M3,I9 hi];rfl);have X:∀q,(G q\/(Value.slice N ((List.range m).map λi=>mkT t fuel (ops.filter (valB t u i)) (u+1)).length cx').ownBlock=some q)->more F w P q:=λq hq=>by
        rcases hq with hq|hq
        . have:=hG q hq;exact .inr ⟨by omega,this.1⟩
        . have h1:=hown.lt q hq;have:=B.size;have:=hE6.size;exact .inr ⟨by omega,h1.2⟩
      exact⟨b9,o9,q9,hA,X _ hF9,by have:=hc9.1;rwa[show i*Rp.size Tr=i from V6 i]at this,TrR.mono X y0⟩
end
section
open Go Go.RowKit
attribute [local irreducible] ewp owp hwp hwq hws Ev Evg Fn W6 X7 X4 X1
def nw(w w':World):Nat->Prop:=λk=>w.heap.size<=k/\k<w'.heap.size
theorem Ox{w:World}{F G:Nat->Prop}:∀{xs:List Fct}{cells:List Value},Chunks w F cells xs->Chunks w G cells xs
  |[],_,h=>h
  |_::_,_,⟨cs,rest,he,hr,hc⟩=>⟨cs,rest,he,hr,Ox hc⟩
theorem KI{w:World}{F G:Nat->Prop}:∀{xs:List Int}{cells:List Value},Chunks w F cells xs->Chunks w G cells xs
  |[],_,h=>h
  |_::_,_,⟨cs,rest,he,hr,hc⟩=>⟨cs,rest,he,hr,KI hc⟩
theorem Zh{w:World}{sv:Value}{xs:List Int}(hs:V w sv xs)(hl:xs.length<=1000000):Fn prog 45 [sv] w λv w'=>Vb w' (nw w w') v xs/\Ext w w' :=
  (AbL hs (by omega)).mono λv w' ⟨b,hE⟩=>⟨by
    obtain⟨cells,q1,q2,q3⟩:=id b;have a:Own w' w.heap.size (λ_=>False) 3 v xs:=⟨cells,q1,KI q2,λ_ _ c=>c⟩;exact a.vb.mono λk hk=>b.lt k (hk.resolve_left id),hE⟩
theorem ZP{w:World}{sv:Value}{xs:List Fct}(hs:V w sv xs)(hl:xs.length<=1000000):Fn prog 24 [sv] w λv w'=>Vb w' (nw w w') v xs/\Ext w w' :=
  (Abu hs (by omega)).mono λv w' ⟨b,hE⟩=>⟨by
    obtain⟨cells,q1,q2,q3⟩:=id b;have a:Own w' w.heap.size (λ_=>False) 61 v xs:=⟨cells,q1,Ox q2,λ_ _ c=>c⟩;exact a.vb.mono λk hk=>b.lt k (hk.resolve_left id),hE⟩
theorem Vb.nwext{α:Type}[Rp α]{w w' a:World}{v:Value}{x:α}(c:Vb w' (nw w w') v x)(b:Ext w' a):Vb a (nw w w') v x:=c.agree (b.agree λ_ hk=>hk.2)
theorem AbF{w:World}{tv:Value}{t:Tsk}(ht:V w tv t)(hl1:t.vars.length≤1000000)(hl2:t.init.length≤1000000)(hl3:t.goal.length≤1000000)(hl4:t.ops.length≤1000000)
    (hl5:∀(i:Nat) o,t.ops[i]?=some o->o.pre.length<=1000000/\o.effs.length<=1000000/\∀(j:Nat) e,o.effs[j]?=some e->e.cond.length<=1000000) :
    Fn prog 97 [tv] w λv w'=>Vb w' (nw w w') v t/\Ext w w':=by
  obtain⟨cs,rfl,a,b,c,d,rfl,hvars,hinit,hgoal,hops⟩:=ht;obtain⟨Av,cv,rfl⟩:=hvars.form;obtain⟨Ai,ci,rfl⟩:=hinit.form;obtain⟨Ag,cg,rfl⟩:=hgoal.form;obtain⟨Ao,co,rfl⟩:=hops.form;refine AG func97 rfl ntmps97 ?_;refine ab ?_;refine FC rfl λw1 hN1=>?_;refine Gk rfl λw2 hN2=>?_;have hE2:Ext w w2:=hN1.ext.trans' hN2.ext;have hz1:w1.heap.size=w.heap.size+1:=hN1.size;have hz2:w2.heap.size=w1.heap.size+1:=hN2.size;have hb1:Blk w2 w.heap.size 26 [.slice Av t.vars.length cv,.slice Ai t.init.length ci,.slice Ag t.goal.length cg,.slice Ao t.ops.length co]:=hN1.blk.ext hN2.ext;have hres:Blk w2 w1.heap.size 26 [.slice none 0 0,.slice none 0 0,.slice none 0 0,.slice none 0 0]:=hN2.blk;refine o_z ?_;refine RX (λl' w'=>∃g3 av bv cv',W4 l' [(1,.pointer (some ⟨w.heap.size,0,none⟩)),(2,.pointer (some ⟨w1.heap.size,0,none⟩)),(3,.pointer (some ⟨g3,0,none⟩))]/\Ext w2 w'/\w2.heap.size<=g3/\Blk w' g3 26 [av,bv,cv',.slice none 0 0] /\
    Vb w' (λk=>nw w2 w' k/\k≠g3) av t.vars/\Vb w' (λk=>nw w2 w' k/\k≠g3) bv t.init/\Vb w' (λk=>nw w2 w' k/\k≠g3) cv' t.goal) ?_ ?_
  . have q0:∀w',Ext w2 w'->Blk w' w.heap.size 26 [.slice Av t.vars.length cv,.slice Ai t.init.length ci,.slice Ag t.goal.length cg,.slice Ao t.ops.length co]:=λw' h=>hb1.ext h;refine TA (Ext w2) ?_;refine Mr (i:=0) rfl rfl rfl (evg λ_ _=>Dd rfl) (V8 _ _) ?_;refine Mr (i:=1) rfl rfl rfl (evg λ_ hS=>CJ rfl ((hb1.ext hS).cell rfl)) (V8 _ _) ?_;refine Mr (i:=3) rfl rfl rfl (evg λ_ _=>Dd rfl) (V8 _ _) ?_;refine Mr (i:=4) rfl rfl rfl (evg λ_ hS=>CJ rfl ((hb1.ext hS).cell rfl)) (V8 _ _) ?_;refine Mr (i:=6) rfl rfl rfl (evg λ_ _=>Dd rfl) (V8 _ _) ?_;refine Mr (i:=7) rfl rfl rfl (evg λ_ hS=>CJ rfl ((hb1.ext hS).cell rfl)) (V8 _ _) ?_;refine OI (i:=2) (j:=10) rfl rfl ?_ ?_
    . refine By rfl (Zh (hvars.ext hE2) hl1) ?_;rintro av w3 ⟨hav,hE3⟩;refine HN hE3 ?_;refine OI (i:=5) (j:=10) rfl rfl ?_ ?_
      . refine By rfl (Zh (hinit.ext (hE2.trans' hE3)) hl2) ?_;rintro bv w4 ⟨hbv,hE4⟩;refine HN (hE3.trans' hE4) ?_;refine OI (i:=8) (j:=10) rfl rfl ?_ ?_
        . refine By rfl (ZP (hgoal.ext (hE2.trans' (hE3.trans' hE4))) hl3) ?_;rintro cv' w5 ⟨hcv,hE5⟩;refine HN (hE3.trans' (hE4.trans' hE5)) ?_;refine Ms [(9,true),(10,false),(11,false)] rfl (hE3.trans' (hE4.trans' hE5)) ?_;obtain⟨Aa,ca,rfl⟩:=hav.form;obtain⟨Ab,cb,rfl⟩:=hbv.form;obtain⟨Ac,cc,rfl⟩:=hcv.form;refine AB rfl ?_;refine Bv (λ_ _=>Im rfl rfl) rfl ?_;refine BZ rfl ?_;refine Gk rfl λw6 hN6=>?_;refine Ds (hE3.trans' (hE4.trans' (hE5.trans' hN6.ext))) ?_;refine BZ rfl ?_;refine CL rfl rfl hN6.blk rfl (V2 _) (by simp[Value.cells,Value.oneCell',Y6,W9]) λw7 hU=>?_;refine Gl (AP ?_);have hE7:Ext w5 w7:=(hN6.upd hU).ext;have s3:=hE3.size;have s4:=hE4.size;have s5:=hE5.size;have s7:=hE7.size;refine⟨w5.heap.size,_,_,_,B5,hE3.trans' (hE4.trans' (hE5.trans' hE7)),by omega,hU.blk,?_,?_,?_⟩
          . exact((((hav.nwext hE4).agree (hE5.agree λk hk=>by have:=hk.2;omega)).agree (hE7.agree λk hk=>by have:=hk.2;omega)).mono λk hk=>⟨⟨by have:=hk.1;omega,by have:=hk.2;omega⟩,by have:=hk.2;omega⟩)
          . exact((hbv.nwext hE5).agree (hE7.agree λk hk=>by have:=hk.2;omega)).mono λk hk=>⟨⟨by have:=hk.1;omega,by have:=hk.2;omega⟩,by have:=hk.2;omega⟩
          . exact(hcv.nwext hE7).mono λk hk=>⟨⟨by have:=hk.1;omega,by have:=hk.2;omega⟩,by have:=hk.2;omega⟩
        . refine Gk rfl λw5 hN=>?_;have hE5:=hN.ext;refine HN (hE3.trans' (hE4.trans' hE5)) ?_;refine Ms [(8,false),(9,true),(11,false)] rfl (hE3.trans' (hE4.trans' hE5)) ?_;refine BZ rfl ?_;refine By rfl (ZP (hgoal.ext (hE2.trans' (hE3.trans' (hE4.trans' hE5)))) hl3) ?_;rintro cv' w6 ⟨hcv,hE6⟩;refine Ds (hE3.trans' (hE4.trans' (hE5.trans' hE6))) ?_;have hg3:=hN.blk.ext hE6;obtain⟨Aa,ca,rfl⟩:=hav.form;obtain⟨Ab,cb,rfl⟩:=hbv.form;obtain⟨Ac,cc,rfl⟩:=hcv.form;refine AB rfl ?_;refine Bv (λ_ _=>Im rfl rfl) rfl ?_;refine BZ rfl ?_;refine CL rfl rfl hg3 rfl (V2 _) (by simp[Value.cells,Value.oneCell',Y6,W9]) λw7 hU=>?_;refine Gl (AP ?_);have s3:=hE3.size;have s4:=hE4.size;have s5:=hE5.size;have s6:=hE6.size;have s7:=hU.size;have sN:=hN.size;refine⟨_,_,_,_,B5,(hE3.trans' (hE4.trans' (hE5.trans' hE6))).trans (hU.below (by omega)),by omega,hU.blk,?_,?_,?_⟩
          . exact(hav.agree λk hk=>(hU.other k (by have:=hk.2;omega)).trans ((hE4.trans' (hE5.trans' hE6)).block k hk.2)).mono λk hk=>⟨⟨by have:=hk.1;omega,by have:=hk.2;omega⟩,by have:=hk.2;omega⟩
          . exact(hbv.agree λk hk=>(hU.other k (by have:=hk.2;omega)).trans ((hE5.trans' hE6).block k hk.2)).mono λk hk=>⟨⟨by have:=hk.1;omega,by have:=hk.2;omega⟩,by have:=hk.2;omega⟩
          . exact(hcv.agree λk hk=>hU.other k (by have:=hk.1;omega)).mono λk hk=>⟨⟨by have:=hk.1;omega,by have:=hk.2;omega⟩,by have:=hk.1;omega⟩
      . refine Gk rfl λw4 hN=>?_;have hE4:=hN.ext;refine HN (hE3.trans' hE4) ?_;refine Ms [(5,false),(8,false),(9,true),(11,false)] rfl (hE3.trans' hE4) ?_;refine BZ rfl ?_;refine By rfl (Zh (hinit.ext (hE2.trans' (hE3.trans' hE4))) hl2) ?_;rintro bv w5 ⟨hbv,hE5⟩;refine Ds (hE3.trans' (hE4.trans' hE5)) ?_;refine BZ rfl ?_;refine By rfl (ZP (hgoal.ext (hE2.trans' (hE3.trans' (hE4.trans' hE5)))) hl3) ?_;rintro cv' w6 ⟨hcv,hE6⟩;refine Ds (hE3.trans' (hE4.trans' (hE5.trans' hE6))) ?_;have hg3:=(hN.blk.ext hE5).ext hE6;obtain⟨Aa,ca,rfl⟩:=hav.form;obtain⟨Ab,cb,rfl⟩:=hbv.form;obtain⟨Ac,cc,rfl⟩:=hcv.form;refine AB rfl ?_;refine Bv (λ_ _=>Im rfl rfl) rfl ?_;refine BZ rfl ?_;refine CL rfl rfl hg3 rfl (V2 _) (by simp[Value.cells,Value.oneCell',Y6,W9]) λw7 hU=>?_;refine Gl (AP ?_);have s3:=hE3.size;have s4:=hE4.size;have s5:=hE5.size;have s6:=hE6.size;have s7:=hU.size;have sN:=hN.size;refine⟨_,_,_,_,B5,(hE3.trans' (hE4.trans' (hE5.trans' hE6))).trans (hU.below (by omega)),by omega,hU.blk,?_,?_,?_⟩
        . exact(hav.agree λk hk=>(hU.other k (by have:=hk.2;omega)).trans ((hE4.trans' (hE5.trans' hE6)).block k hk.2)).mono λk hk=>⟨⟨by have:=hk.1;omega,by have:=hk.2;omega⟩,by have:=hk.2;omega⟩
        . exact(hbv.agree λk hk=>(hU.other k (by have:=hk.1;omega)).trans (hE6.block k hk.2)).mono λk hk=>⟨⟨by have:=hk.1;omega,by have:=hk.2;omega⟩,by have:=hk.1;omega⟩
        . exact(hcv.agree λk hk=>hU.other k (by have:=hk.1;omega)).mono λk hk=>⟨⟨by have:=hk.1;omega,by have:=hk.2;omega⟩,by have:=hk.1;omega⟩
    . refine Gk rfl λw3 hN=>?_;have hE3:=hN.ext;refine HN hE3 ?_;refine Ms [(2,false),(5,false),(8,false),(9,true),(11,false)] rfl hE3 ?_;refine BZ rfl ?_;refine By rfl (Zh (hvars.ext (hE2.trans' hE3)) hl1) ?_;rintro av w4 ⟨hav,hE4⟩;refine Ds (hE3.trans' hE4) ?_;refine BZ rfl ?_;refine By rfl (Zh (hinit.ext (hE2.trans' (hE3.trans' hE4))) hl2) ?_;rintro bv w5 ⟨hbv,hE5⟩;refine Ds (hE3.trans' (hE4.trans' hE5)) ?_;refine BZ rfl ?_;refine By rfl (ZP (hgoal.ext (hE2.trans' (hE3.trans' (hE4.trans' hE5)))) hl3) ?_;rintro cv' w6 ⟨hcv,hE6⟩;refine Ds (hE3.trans' (hE4.trans' (hE5.trans' hE6))) ?_;have hg3:=((hN.blk.ext hE4).ext hE5).ext hE6;obtain⟨Aa,ca,rfl⟩:=hav.form;obtain⟨Ab,cb,rfl⟩:=hbv.form;obtain⟨Ac,cc,rfl⟩:=hcv.form;refine AB rfl ?_;refine Bv (λ_ _=>Im rfl rfl) rfl ?_;refine BZ rfl ?_;refine CL rfl rfl hg3 rfl (V2 _) (by simp[Value.cells,Value.oneCell',Y6,W9]) λw7 hU=>?_;refine Gl (AP ?_);have s3:=hE3.size;have s4:=hE4.size;have s5:=hE5.size;have s6:=hE6.size;have s7:=hU.size;have sN:=hN.size;refine⟨_,_,_,_,B5,(hE3.trans' (hE4.trans' (hE5.trans' hE6))).trans (hU.below (by omega)),by omega,hU.blk,?_,?_,?_⟩
      . exact(hav.agree λk hk=>(hU.other k (by have:=hk.1;omega)).trans ((hE5.trans' hE6).block k hk.2)).mono λk hk=>⟨⟨by have:=hk.1;omega,by have:=hk.2;omega⟩,by have:=hk.1;omega⟩
      . exact(hbv.agree λk hk=>(hU.other k (by have:=hk.1;omega)).trans (hE6.block k hk.2)).mono λk hk=>⟨⟨by have:=hk.1;omega,by have:=hk.2;omega⟩,by have:=hk.1;omega⟩
      . exact(hcv.agree λk hk=>hU.other k (by have:=hk.1;omega)).mono λk hk=>⟨⟨by have:=hk.1;omega,by have:=hk.2;omega⟩,by have:=hk.1;omega⟩
  . rintro l' w3 ⟨g3,av,bv,cv',hsub,hE3,hg3,hb3,hav,hbv,hcv⟩;refine AQ _ hsub ?_;clear hsub;replace hb1:=hb1.ext hE3;replace hres:=hres.ext hE3;have hE03:Ext w w3:=hE2.trans' hE3;have hg3z:g3<w3.heap.size:=hb3.lt;refine ab ?_;refine au ?_;refine Cj t.ops.length (by omega) (λ_:Unit=>[(2,.pointer (some ⟨w1.heap.size,0,none⟩)),(3,.pointer (some ⟨g3,0,none⟩)),(20,.slice Ao t.ops.length co)])
      (λk _ w'=>Below w2.heap.size w2 w'/\w3.heap.size<=w'.heap.size/\(∀q,q<w3.heap.size->q≠g3->w'.heap[q]?=w3.heap[q]?)/\∃(ov:Value) (G:Nat->Prop),Blk w' g3 26 [av,bv,cv',ov]/\(∀q,G q->w3.heap.size<=q/\q<w'.heap.size)/\Own w' w3.heap.size G 57 ov (t.ops.take k)) ()
      ⟨hE3,V2 _,λ_ _ _=>rfl,.slice none 0 0,λ_=>False,hb3,λ_ h=>h.elim,Own.nil _ _ _ _⟩ Ad (λ_=>⟨rfl,rfl⟩) ⟨rfl,rfl,rfl⟩ ⟨rfl,rfl⟩ ?_ ?_
    . rintro k _ w4 hk ⟨hB4,hz34,hkeep,ov,G,hb3,hG,hown⟩;have hE04:Ext w w4:=hE2.trans (hB4.mono (by omega));obtain⟨o,ho⟩:=AK hk;obtain⟨hp5,hq5,hc5⟩:=hl5 k o ho;obtain⟨b2,o2,ce,rfl,_,_,hd1,p,q,rfl,hp,hq,hc,hn⟩:=(hops.ext hE04).elem ho;obtain⟨Ap,cp,rfl⟩:=hp.form;obtain⟨Aq,cq,rfl⟩:=hq.form;obtain⟨Aov,cov,rfl⟩:=hown.form;refine ak ?_;refine Dk rfl rfl (by simp[Value.cells,Value.oneCell']) λw5 hN5=>?_;have hb2:Blk w5 w4.heap.size 57 [.string o.name,.int .i64 o.cost,.slice Ap o.pre.length cp,.slice Aq o.effs.length cq]:=hN5.blk;have hz5:=hN5.size;refine o_z ?_;refine ab ?_;clear hd1;refine af ?_;refine By rfl (ZP (hp.ext hN5.ext) hp5) ?_;rintro pv w6 ⟨hpv,hE6⟩;obtain⟨Ap',cp',rfl⟩:=hpv.form;replace hb2:=hb2.ext hE6;refine AJ rfl ?_;refine CL rfl rfl hb2 rfl (show 0+2+1<=4 by decide) (by simp[Value.cells,Value.oneCell']) λw7 hU7=>?_;have hE47:Ext w4 w7:=(hN5.ext.trans' hE6).trans (hU7.below (V2 _));replace hb2:Blk w7 w4.heap.size 57 [.string o.name,.int .i64 o.cost,.slice Ap' o.pre.length cp',.slice Aq o.effs.length cq]:=hU7.blk;have hpv7:Vb w7 (nw w5 w6) (.slice Ap' o.pre.length cp') o.pre:=hpv.agree λq hq=>hU7.other q (by have:=hq.1;omega);refine o_z ?_;refine ab ?_;refine ad ?_<;>refine af ?_<;>refine az ?_;refine Cj o.effs.length (by omega) (λev:Value=>[(2,.pointer (some ⟨w1.heap.size,0,none⟩)),(3,.pointer (some ⟨g3,0,none⟩)),(5,.pointer (some ⟨w4.heap.size,0,none⟩)),(6,ev),(20,.slice (some ⟨b2,o2,none⟩) t.ops.length co),(21,.int .i64 (t.ops.length:Int)),(22,.int .i64 (k:Int)),(31,.slice Aq o.effs.length cq)])
        (λi ev w'=>Ext w7 w'/\∃H:Nat->Prop,(∀q,H q->w7.heap.size<=q/\q<w'.heap.size)/\Own w' w7.heap.size H 59 ev (o.effs.take i)) (.slice none 0 0)
        ⟨V8 _ _,λ_=>False,λ_ h=>h.elim,Own.nil _ _ _ _⟩ Eo (λ_=>⟨rfl,rfl⟩) ⟨rfl,rfl,rfl⟩ ⟨rfl,rfl⟩ ?_ ?_
      . rintro i ev w8 hi ⟨hE8,H,hH,hev⟩;obtain⟨e,he⟩:=AK hi;have hce:=hc5 i e he;obtain⟨b3,o3,ce,rfl,_,_,hd1,cv8,rfl,hcn,hr1,hr2⟩:=(hq.ext (hE47.trans' hE8)).elem he;obtain⟨Acn,ccn,rfl⟩:=hcn.form;refine ak ?_;refine Dk rfl rfl (by simp[Value.cells,Value.oneCell']) λw9 hN9=>?_;have hb4:Blk w9 w8.heap.size 59 [.slice Acn e.cond.length ccn,.int .i64 e.var,.int .i64 e.val]:=hN9.blk;have hz9:=hN9.size;refine o_z ?_;refine ab ?_;clear hd1;refine af ?_;refine By rfl (ZP (hcn.ext hN9.ext) hce) ?_;rintro cw w10 ⟨hcw,hE10⟩;obtain⟨Acw,ccw,rfl⟩:=hcw.form;replace hb4:=hb4.ext hE10;refine AJ rfl ?_;refine CL rfl rfl hb4 rfl (show 0+0+1<=3 by decide) (by simp[Value.cells,Value.oneCell']) λw11 hU11=>?_;replace hb4:Blk w11 w8.heap.size 59 [.slice Acw e.cond.length ccw,.int .i64 e.var,.int .i64 e.val]:=hU11.blk;have hE811:Ext w8 w11:=(hN9.ext.trans' hE10).trans (hU11.below (V2 _));have hE711:Ext w7 w11:=hE8.trans' hE811;have hcw11:Vb w11 (nw w9 w10) (.slice Acw e.cond.length ccw) e.cond:=hcw.agree λq hq=>hU11.other q (by have:=hq.1;omega);have s10:=hE10.size;have s11:=hU11.size;have hne:∀g,ev.ownBlock=some g->¬(H g\/nw w9 w10 g):=λg hg h=>by
          have hlt:=(hev.lt g hg).2;rcases h with h|h
          . obtain⟨_,_,_,h3⟩:=hev;exact h3 g hg h
          . have:=h.1;omega
        have hev11:Own w11 w7.heap.size (λq=>H q\/nw w9 w10 q) 59 ev _:=(hev.ext hE811 λq hq=>(hH q hq).2).mono (λq hq=>.inl hq) hne;have hH11:∀q,(H q\/nw w9 w10 q)->w7.heap.size<=q/\q<w11.heap.size:=λq hq=>by
          rcases hq with hq|hq
          . have:=hH q hq;omega
          . have h1:=hq.1;have h2:=hq.2;have:=hE8.size;omega
        have hil:(o.effs.take i).length<=1000000:=(by rw[N8];omega);refine o_z ?_;refine ab ?_;refine ac ?_<;>refine BE rfl ?_;refine Hw (a:=e) rfl rfl rfl hev11 (λq hq=>(hH11 q hq).2) hE711.size ⟨_,rfl,_,rfl,hcw11.mono λq hq=>.inr hq,hr1,hr2⟩ (by omega) (by omega) ⟨rfl,rfl⟩ λev' w12 hev12 hK12=>?_;refine ae ?_;refine ab ?_;exact⟨ev',Eo,hE711.trans (hev11.fits (V2 _) hE711.size hK12),_,λq hq=>⟨(hH11 q hq).1,K1 (hH11 q hq).2 hK12.size⟩,by rw[M2,he];simpa using hev12⟩
      rintro ev w12 ⟨hE12,H,hH,hev⟩;rw[P4]at hev;obtain⟨Aev,cev,rfl⟩:=hev.form;replace hb2:=hb2.ext hE12;refine ab ?_;refine ac ?_<;>refine AJ rfl ?_;refine CL rfl rfl hb2 rfl (show 0+3+1<=4 by decide) (by simp[Value.cells,Value.oneCell']) λw13 hU13=>?_;replace hb2:Blk w13 w4.heap.size 57 [.string o.name,.int .i64 o.cost,.slice Ap' o.pre.length cp',.slice Aev o.effs.length cev]:=hU13.blk;have hE413:Ext w4 w13:=(hE47.trans' hE12).trans (hU13.below (V2 _));have s6:=hE6.size;have s7:=hU7.size;have s12:=hE12.size;have s13:=hU13.size;have hb3':=hb3.ext hE413;have hg3lt:=hb3.lt;have hpv13:Vb w13 (nw w5 w6) (.slice Ap' o.pre.length cp') o.pre:=hpv7.agree λq hq=>(hU13.other q (by have:=hq.1;omega)).trans (hE12.block q (by have:=hq.2;omega));have hev13:Vb w13 (λq=>H q\/(Value.slice Aev o.effs.length cev).ownBlock=some q) (.slice Aev o.effs.length cev) o.effs:=hev.vb.agree λq hq=>hU13.other q (by
        rcases hq with hq|hq
        . have:=(hH q hq).1;omega
        . have:=(hev.lt q hq).1;omega)
      have hne:∀g,(Value.slice Aov (t.ops.take k).length cov).ownBlock=some g->¬(G g\/w4.heap.size<=g/\g<w13.heap.size):=λg hg h=>by
        have hlt:=(hown.lt g hg).2;rcases h with h|h
        . obtain⟨_,_,_,h3⟩:=hown;exact h3 g hg h
        . omega
      have hown13:Own w13 w3.heap.size (λq=>G q\/w4.heap.size<=q/\q<w13.heap.size) 57 _ _:=(hown.ext hE413 λq hq=>(hG q hq).2).mono (λq hq=>.inl hq) hne;have hG13:∀q,(G q\/w4.heap.size<=q/\q<w13.heap.size)->w3.heap.size<=q/\q<w13.heap.size:=λq hq=>by
        have:=hE413.size;rcases hq with hq|hq
        . have:=hG q hq;omega
        . omega
      have hopr:Vb w13 (λq=>G q\/w4.heap.size<=q/\q<w13.heap.size) (.agg #[.string o.name,.int .i64 o.cost,.slice Ap' o.pre.length cp',.slice Aev o.effs.length cev]) o :=
        ⟨[.string o.name,.int .i64 o.cost,.slice Ap' o.pre.length cp',.slice Aev o.effs.length cev],rfl,_,_,rfl,hpv13.mono λq hq=>.inr (by have h1:=hq.1;have h2:=hq.2;omega),hev13.mono λq hq=>.inr (by
          rcases hq with hq|hq
          . have:=hH q hq;omega
          . have:=hev.lt q hq;omega),hc,hn⟩
      have hkl:(t.ops.take k).length<=1000000:=(by rw[N8];omega);refine o_z ?_;refine ab ?_;have hbx:=hb2;clear hb1;have hb1:=hb3';refine af ?_<;>refine BE rfl ?_;refine Hw (a:=o) rfl rfl rfl hown13 (λq hq=>(hG13 q hq).2) (by have:=hE413.size;omega) hopr (by omega) (by omega) ⟨rfl,rfl⟩ λov' w14 hov14 hK14=>?_;obtain⟨Aov',cov',rfl⟩:=hov14.form;have hb3k:=hK14.blk hb3' (hown13.blk_ne hb3' (by decide));refine AJ rfl ?_;refine CL rfl rfl hb3k rfl (show 0+3+1<=4 by decide) (by simp[Value.cells,Value.oneCell']) λw15 hU15=>?_;refine o_z ?_;refine ab ?_;have hB14:Below w3.heap.size w13 w14:=hown13.fits (V2 _) (by have:=hE413.size;omega) hK14;have sz14:=hK14.size;have sz15:=hU15.size;refine⟨(),Ad,?_,?_,?_,_,(λq=>G q\/w4.heap.size<=q/\q<w13.heap.size),hU15.blk,λq hq=>?_,?_⟩
      . exact hB4.trans (((hE413.mono (by omega)).trans (hB14.mono (by omega))).trans (hU15.below (by omega)))
      . have:=hE413.size;omega
      . intro q hq hne';rw[hU15.other q hne',hB14.block q hq,hE413.block q (by omega),hkeep q hq hne']
      . have:=hG13 q hq;omega
      . have hne15:=hov14.blk_ne hb3k (by decide);rw[M2,ho];refine hov14.agree (hU15.agree ?_) λg hg=>hU15.other g λhe=>hne15 (he▸hg);rintro(h|h)
        . have:=(hG g3 h).1;omega
        . omega
    rintro _ w4 ⟨hB4,hz34,hkeep,ov,G,hb3,hG,hown⟩;rw[P4]at hown;obtain⟨Aov,cov,rfl⟩:=hown.form;have hresz:=hres.lt;replace hres:=hres.keep (hkeep _ hresz (by omega));clear hb1;have hb1:=hb3;refine ab ?_;obtain⟨Aa,ca,rfl⟩:=hav.form;obtain⟨Ab,cb,rfl⟩:=hbv.form;obtain⟨Ac,cc,rfl⟩:=hcv.form;refine BE rfl ?_;refine CL rfl rfl hres rfl (V2 _) (by simp[Value.cells,Value.oneCell']) λw5 hU=>?_;refine o_z ?_;refine ab ?_;have hE4:Ext w w4:=hE2.trans (hB4.mono (by omega));have s5:=hU.size;have s04:=hE4.size;have hcl:∀{α:Type}[Rp α]{v:Value}{x:α},Vb w3 (λk=>nw w2 w3 k/\k≠g3) v x->Vb w5 (nw w w5) v x:=λh=>(h.agree λq hq=>(hU.other q (by have:=hq.1.1;omega)).trans (hkeep q hq.1.2 hq.2)).mono λq hq=>⟨by have:=hq.1.1;omega,by have:=hq.1.2;omega⟩;have hovv:Vb w5 (nw w w5) (.slice Aov t.ops.length cov) t.ops:=(hown.vb.agree λq hq=>hU.other q (by
      rcases hq with hq|hq
      . have:=(hG q hq).1;omega
      . have:=(hown.lt q hq).1;omega)).mono λq hq=>by
        rcases hq with hq|hq
        . have:=hG q hq;exact⟨by omega,by omega⟩
        . have:=hown.lt q hq;exact⟨by omega,by omega⟩
    refine X2 rfl (CC rfl rfl hU.blk.cellsAt) ⟨⟨_,rfl,_,_,_,_,rfl,hcl hav,hcl hbv,hcl hcv,hovv⟩,hE4.trans (hU.below (by omega))⟩
end
section
def Z0(t:Tsk):Prop:=∀(i:Nat) o,t.ops[i]?=some o->FactsOk t.vars o.pre
theorem TaskOk.pre{t:Tsk}(b:TaskOk t):Z0 t:=λi o a=>(b.2.2.2.2.2 i o a).2.2.2.2.1
theorem Rm{t:Tsk}(d:Z0 t)(b:Int):FactsOk t.vars (preOf t b):=by
  unfold preOf;cases c:t.ops[b.toNat]? with
  |none=>exact⟨λi x a=>by simp at a,λi x y a=>by simp at a⟩
  |some o=>exact d _ o c
theorem KJ{l:List Fct}{v:Int}{f:Fct}(a:factOn l v=some f):f∈l/\f.var=v:=by
  unfold factOn at a;exact⟨List.mem_of_find?_eq_some a,by simpa using List.find?_some a⟩
theorem RP{l:List Fct}{v:Int}(a:factOn l v=none):∀f∈l,f.var≠v:=by
  unfold factOn at a;rw[List.find?_eq_none]at a;intro f hf;simpa using a f hf
theorem RQ{vars:List Int}{l:List Fct}(hl:FactsOk vars l){f g:Fct}(hf:f∈l)(a:g∈l)(he:f.var=g.var):f=g:=by
  obtain⟨i,hi⟩:=H4 hf;obtain⟨j,hj⟩:=H4 a;rcases M7 i j with h|h|h
  . have:=Jk hl j i f g h hi hj;omega
  . subst h;rw[hi]at hj;injection hj
  . have:=Jk hl i j g f h hj hi;omega
theorem TaskOk.fits{t:Tsk}(e:TaskOk t):Abn t:=by
  intro i o a v f hf c;obtain⟨b,h2⟩:=KJ hf;obtain⟨j,hj⟩:=H4 b;obtain⟨d,g2,n,g3,g4⟩:=(e.pre i o a).1 j f hj;rw[h2]at g3;exact⟨g2,n,by simpa using g3,g4⟩
def hf(t:Tsk)(s:List Int)(v:Nat)(a:Int):Bool:=(preOf t a).all λf=>decide (f.var<(v:Int))||hasB s f
theorem Mj{t:Tsk}{s:List Int}{v:Nat}{a:Int}:hf t s v a=true↔∀f∈preOf t a,f.var<(v:Int)\/hasB s f=true:=by
  unfold hf;simp[N6]
theorem SD{t:Tsk}{s:List Int}{v:Nat}{a:Int}(c:factOn (preOf t a) (v:Int)=none):hf t s v a=hf t s (v+1) a:=by
  rw[Bool.eq_iff_iff,Mj,Mj];constructor
  . intro b f hm;rcases b f hm with h1|h1
    . exact .inl (by omega)
    . exact .inr h1
  . intro b f hm;have:=RP c f hm;rcases b f hm with h1|h1
    . exact .inl (by omega)
    . exact .inr h1
theorem WN{t:Tsk}{s:List Int}{v:Nat}{a:Int}{f:Fct}(e:Z0 t)(h:factOn (preOf t a) (v:Int)=some f):hf t s v a=(hasB s f&&hf t s (v+1) a):=by
  obtain⟨d,h2⟩:=KJ h;rw[Bool.eq_iff_iff,N1,Mj,Mj];constructor
  . intro b;refine⟨(b f d).resolve_left (by omega),λg c=>?_⟩;rcases b g c with h3|h3
    . exact .inl (by omega)
    . exact .inr h3
  . rintro⟨h3,b⟩ g c;rcases b g c with h4|h4
    . by_cases he:g.var=(v:Int)
      . have:g=f:=RQ (Rm e a) c d (by omega);subst this;exact .inr h3
      . exact .inl (by omega)
    . exact .inr h4
theorem SE{t:Tsk}{s:List Int}{ops:List Int}:∀(k v:Nat),(∀x,v<=x->x<v+k->ZM t ops x=false)->∀a∈ops,hf t s v a=hf t s (v+k) a
  |0,_,_,_,_=>rfl
  |k+1,v,h,a,ho=>by
    have b:=h v (V2 _) (by omega);unfold ZM at b;rw[List.any_eq_false]at b;have c:=b a ho;have d:factOn (preOf t a) (v:Int)=none:=(by simpa using c);rw[SD d,SE k (v+1) (λx e f=>h x (by omega) (by omega)) a ho];congr 1;omega
theorem Oy{a b c:Int→Bool}{p:Int→Bool}(h:∀x,p x=if a x=true then b x else if c x=true then b x else false)(f:∀x,a x=true→c x=false) :
    ∀l:List Int,(l.filter p).Perm ((l.filter a).filter b++(l.filter c).filter b)
  |[]=>by simp
  |x  :: l=>by
    have g:=Oy h f l;have d:=h x;cases e:a x
    . cases hc:c x
      . simp only[e,hc]at d;simpa[P7,e,hc,d]using g
      . simp only[e,hc]at d;cases hb:b x
        . rw[hb]at d;simpa[P7,e,hc,hb,d]using g
        . rw[hb]at d;simp only[P7,e,hc,hb,d,if_true,L0,if_false];exact(g.cons x).trans (List.perm_middle.symm)
    . have hc:=f x e;simp only[e]at d;cases hb:b x
      . rw[hb]at d;simpa[P7,e,hc,hb,d]using g
      . rw[hb]at d;simp only[P7,e,hc,hb,d,if_true,L0,if_false,M9];exact g.cons x
theorem XV{t:Tsk}{s:List Int}(c:Z0 t)(b:Int):hf t s t.vars.length b=true:=by
  rw[Mj];intro f a;obtain⟨i,hi⟩:=H4 a;obtain⟨d,h2,n,h3,_⟩:=(Rm c b).1 i f hi;have:=BT h3;exact .inl (by omega)
theorem Tq(t:Tsk)(ops:List Int){v:Nat}(b:v<=t.vars.length):v<=nextV t ops v/\nextV t ops v<=t.vars.length/\(∀u,v<=u->u<nextV t ops v->ZM t ops u=false)/\(nextV t ops v<t.vars.length->ZM t ops (nextV t ops v)=true):=by
  obtain⟨a,h2,h3,h4⟩:=Lv t ops (t.vars.length-v) v;exact⟨a,by unfold nextV;omega,h3,λb=>h4 (by unfold nextV at b;omega)⟩
theorem StateOk.at{vars s:List Int}(b:StateOk vars s){u:Nat}(hu:u<vars.length):∃(x:Nat) (n:Int),s[u]?=some (x:Int)/\vars[u]?=some n/\(x:Int)<n/\atN s u=x:=by
  obtain⟨y,hy⟩:=AK (l:=s) (k:=u) (by rw[b.1];exact hu);obtain⟨n,hn⟩:=AK hu;obtain⟨a,h2⟩:=b.2 u y n hy hn;obtain⟨x,rfl⟩:=E3 a;exact⟨x,n,hy,hn,h2,by simp[atN,hy]⟩
theorem Rn{t:Tsk}{s:List Int}(j:Z0 t)(hs:StateOk t.vars s):∀(fuel:Nat)(ops:List Int)(v:Nat),v≤t.vars.length→t.vars.length<fuel+v →
    (ZQ s (mkT t fuel ops v)).Perm (ops.filter (hf t s v))/\AaP s (mkT t fuel ops v):=by
  intro fuel
  induction fuel with
  |zero=>intro ops v k p;omega
  |succ fuel l =>
    intro ops v k p;obtain⟨r,g2,g3,g4⟩:=Tq t ops k;have b:=SE (t:=t) (s:=s) (ops:=ops) (nextV t ops v-v) v (λx g q=>g3 x g (by omega));rw[show v+(nextV t ops v-v)=nextV t ops v from by omega]at b;have d:ops.filter (hf t s v)=ops.filter (hf t s (nextV t ops v)):=L9 b;rw[d];unfold mkT;by_cases he:ops.isEmpty=true
    . rw[if_pos he];have:ops=[]:=(by simpa using he);subst this;exact⟨by simp[ZQ],trivial⟩
    rw[if_neg he];by_cases hn:nextV t ops v=t.vars.length
    . rw[if_pos hn,hn];have:ops.filter (hf t s t.vars.length)=ops:=List.filter_eq_self.2 λx _=>XV j x;rw[this];exact⟨R8 _,trivial⟩
    rw[if_neg hn];obtain⟨x,n,q1,q2,q3,q4⟩:=hs.at (u:=nextV t ops v) (by omega);have m:=l (ops.filter (valB t (nextV t ops v) x)) (nextV t ops v+1) (by omega) (by omega);have o:=l (ops.filter (Y9 t (nextV t ops v))) (nextV t ops v+1) (by omega) (by omega);refine⟨?_,⟨x,q1,by rw[q2];simp;omega⟩,by rw[q4];exact m.2,o.2⟩;rw[ZQ,q4];refine(m.1.append o.1).trans (Oy (a:=valB t (nextV t ops v) x) (c:=Y9 t (nextV t ops v)) (λh=>?_) (λh w=>?_) ops).symm
    . unfold valB Y9;cases e:factOn (preOf t h) (nextV t ops v:Int)with
      |none=>rw[SD e];simp
      |some f =>
        rw[WN j e];obtain⟨_,hv⟩:=KJ e;rw[OW (s:=s) hv q1];by_cases i:f.val=(x:Int)
        . simp[i]
        . simp[i,W0 i]
    . unfold valB at w;unfold Y9;cases e:factOn (preOf t h) (nextV t ops v:Int)with
      |none=>rw[e]at w;simp at w
      |some f=>rfl
def Zr(t:Tsk):List Int:=(List.range t.ops.length).map λi:Nat=>(i:Int)
def Zs(t:Tsk):Tr:=mkT t (t.vars.length+1) (Zr t) 0
theorem PO{α:Type}{p q:α->Bool}:∀{l:List α},(∀x∈l,p x=q x)->l.all p=l.all q
  |[],_=>rfl
  |x::l,h=>by rw[T4,T4,h x K6,PO λy a=>h y (H0 _ a)]
theorem WO{t:Tsk}(b:Z0 t)(s:List Int):ZC t s=(Zr t).filter (hf t s 0):=by
  unfold ZC AaG Zr;rw[List.filter_map];congr 1;refine L9 λi hi=>?_;obtain⟨o,ho⟩:=AK (l:=t.ops) (k:=i) (R5.1 hi);simp only[Function.comp,hf,preOf,holdsB,M6,ho];refine PO λf a=>?_;obtain⟨j,hj⟩:=H4 a;have:=((b i o ho).1 j f hj).1;have:decide (f.var<((0:Nat):Int))=false:=decide_eq_false (by omega);rw[this,Bool.false_or]
theorem RR(t:Tsk)(s:List Int):(ZC t s).Pairwise λx y=>decide (x<=y)=true:=by
  unfold ZC AaG;refine List.Pairwise.map _ (λa b c=>?_) (List.Pairwise.filter _ List.pairwise_lt_range);exact decide_eq_true (by omega)
theorem RS{l m:List Int}(f:l.Perm m)(hm:m.Pairwise λx y=>decide (x<=y)=true):Aau l=m:=by
  refine List.Perm.eq_of_pairwise (le:=λx y:Int=>decide (x<=y)=true) (λa b _ _ d e=>?_) (List.pairwise_mergeSort (λa b c d e=>?_) (λa b=>?_) l) hm ((I5 _ _).trans f)
  . have:=of_decide_eq_true d;have:=of_decide_eq_true e;omega
  . have:=of_decide_eq_true d;have:=of_decide_eq_true e;exact decide_eq_true (by omega)
  . simp;omega
theorem Ts{t:Tsk}{s:List Int}(a:Z0 t)(hs:StateOk t.vars s):Aaa t (Zs t) s=ZC t s:=by
  unfold Aaa;rw[if_pos (Dq hs)];refine RS ?_ (RR t s);rw[WO a];exact(Rn a hs _ _ 0 (V5 _) (by omega)).1
theorem Uw{t:Tsk}{s:List Int}(a:Z0 t)(hs:StateOk t.vars s):AaP s (Zs t):=(Rn a hs _ _ 0 (V5 _) (by omega)).2
theorem VD(t:Tsk)(s:List Int):∀(fuel:Nat)(ops:List Int)(v:Nat),(ZQ s (mkT t fuel ops v)).length≤ops.length:=by
  intro fuel
  induction fuel with
  |zero=>intro ops v;exact V5 _
  |succ fuel b =>
    intro ops v;unfold mkT;by_cases he:ops.isEmpty=true
    . rw[if_pos he];exact V5 _
    rw[if_neg he];by_cases hn:nextV t ops v=t.vars.length
    . rw[if_pos hn];exact V2 _
    rw[if_neg hn,ZQ,K0];refine U8 (Nat.add_le_add (b _ _) (b _ _)) ?_;generalize nextV t ops v=u;generalize atN s u=x;clear he hn b
    induction ops with
    |nil=>simp
    |cons a ops d =>
      have c:valB t u x a=true->Y9 t u a=false:=by
        unfold valB Y9;cases factOn (preOf t a) (u:Int)<;>simp
      rw[P7,P7];cases e:valB t u x a
      . cases hc:Y9 t u a<;>simp<;>omega
      . rw[c e];simp;omega
theorem Oz(t:Tsk):(Zr t).length=t.ops.length:=by simp[Zr]
theorem VE(t:Tsk)(s:List Int):(ZQ s (Zs t)).length<=t.ops.length:=by
  have:=VD t s (t.vars.length+1) (Zr t) 0;rwa[Oz]at this
end
section
open Go Go.RowKit
attribute [local irreducible] ewp owp hwp hwq hws Ev Evg Fn W6 X7 X4 X1
theorem RT:∀k,((List.range (k+1)).map λi:Nat=>(i:Int))=((List.range k).map λi:Nat=>(i:Int))++[(k:Int)]:=λk=>by
  rw[List.range_succ,R2];rfl
theorem Acz{w:World}{tv:Value}{t:Tsk}(ht:V w tv t):Fn prog 67 [tv] w λv w'=>Ext w w' /\
    ((TaskOk t/\∃gv,v=.tuple #[gv,.nilIface]/\GenR w' (nw w w') gv t (Zs t))\/(¬TaskOk t/\v=.tuple #[.pointer none,ZI (Y0 t)])):=by
  have ht0:=ht;obtain⟨cs,rfl,a,b,c,d,rfl,hvars,hinit,hgoal,hops⟩:=ht;refine AG func67 rfl ntmps67 ?_;refine ab ?_;refine FC rfl λw1 hN1=>?_;have hE1:Ext w w1:=hN1.ext;have hb1:Blk w1 w.heap.size 26 [a,b,c,d]:=hN1.blk;have ht1:=ht0.ext hE1;refine Au rfl ?_<;>refine ae ?_;refine ab ?_;refine BE rfl ?_;refine By rfl (Aa6 ht1) ?_;rintro _ w2 ⟨rfl,hE2⟩;have hE02:Ext w w2:=hE1.trans' hE2;have hb1:=hb1.ext hE2;by_cases hok:TaskOk t
  case neg =>
    have hne:Y0 t≠0:=λh=>hok (Ei.1 h);rw[JJ hne];refine ae ?_;refine ab ?_;refine ah ?_<;>(first|refine Xg rfl rfl ?_|refine Xh rfl rfl ?_)<;>refine o_z ?_<;>refine ab ?_;refine ah ?_<;>refine aS ?_;exact X3 rfl (AC rfl) (AC rfl) ⟨hE02,.inr ⟨hok,rfl⟩⟩
  rw[Ei.2 hok,IO];refine ae ?_;refine ab ?_;refine ah ?_<;>(first|refine Xg rfl rfl ?_|refine Xh rfl rfl ?_)<;>refine o_z ?_<;>refine ab ?_;have hpre:=hok.pre;have hl1:t.vars.length<=64:=hok.1;have hl4:t.ops.length<=4096:=hok.2.1;have hcp:=AbF (ht1.ext hE2) (by omega) (by rw[hok.2.2.2.1.1];omega) (by have:=Fs hok.2.2.2.2.1;omega) (by omega) (λi o ho=>by
    obtain⟨_,_,h3,_,h5,h6⟩:=hok.2.2.2.2.2 i o ho;exact⟨by have:=Fs h5;omega,by omega,λj e he=>by have:=Fs (h6 j e he).1;omega⟩)
  refine BE rfl ?_;refine By rfl hcp ?_;rintro cvv w3 ⟨hcv,hE3⟩;obtain⟨cs',rfl,a',b',c',d',rfl,hvars',hinit',hgoal',hops'⟩:=hcv;refine am ?_;refine FC rfl λw4 hN4=>?_;have hbg:Blk w4 w3.heap.size 165 [a',b',c',d',.pointer none]:=hN4.blk;have hE34:Ext w3 w4:=hN4.ext;have s2:=hE02.size;have s3:=hE3.size;have s4:w4.heap.size=w3.heap.size+1:=hN4.size;obtain⟨Ao,co,rfl⟩:=hops'.form;refine ae ?_;refine ab ?_;refine ad ?_;clear hb1;have hb1:=hbg;refine ah ?_<;>refine Cm rfl ?_<;>refine AJ rfl ?_<;>refine af ?_<;>refine az ?_;refine Cj t.ops.length (by omega) (λv:Value=>[(1,.pointer (some ⟨w.heap.size,0,none⟩)),(5,.pointer (some ⟨w3.heap.size,0,none⟩)),(6,v)]) (λk v w'=>Ext w4 w'/\Own w' w4.heap.size (λ_=>False) 3 v ((List.range k).map λi:Nat=>(i:Int))) (.slice none 0 0)
    ⟨V8 _ _,Own.nil _ _ _ _⟩ Ad (λ_=>⟨rfl,rfl⟩) ⟨rfl,rfl,rfl⟩ ⟨rfl,rfl⟩ ?_ ?_
  . rintro k v w5 hk ⟨hE5,hown⟩;refine al ?_;refine aV ?_;refine Hw (a:=(k:Int)) rfl rfl rfl hown (λ_ h=>h.elim) hE5.size ⟨rfl,by omega,by omega⟩ (by simp;omega) (by simp;omega) ⟨rfl,rfl⟩ λv' w6 hown6 hK=>?_;refine ae ?_;refine ab ?_;exact⟨v',Ad,hE5.trans (hown.fits (V2 _) hE5.size hK),by rw[RT];exact hown6⟩
  rintro v w5 ⟨hE5,hown⟩;have s5:=hE5.size;have hE35:=hE34.trans' hE5;have hbg5:=hbg.ext hE5;have hB5:GenB w5 (All w5) (.pointer (some ⟨w3.heap.size,0,none⟩)) t:=⟨_,_,_,_,_,_,rfl,by show _<_;omega,hbg5,(hvars'.agree (hE35.agree λ_ h=>h.2)).mono λk hk=>by have:=hk.2;show _<_;omega,(hinit'.agree (hE35.agree λ_ h=>h.2)).mono λk hk=>by have:=hk.2;show _<_;omega,(hgoal'.agree (hE35.agree λ_ h=>h.2)).mono λk hk=>by have:=hk.2;show _<_;omega,(hops'.agree (hE35.agree λ_ h=>h.2)).mono λk hk=>by have:=hk.2;show _<_;omega⟩;have hov:Vb w5 (nw w4 w5) v (Zr t):=hown.vb.mono λk hk=>hown.lt k (hk.resolve_left id);have hbuild:=AbT t hok.vars hok.fits hl1 (t.vars.length+1) w5 _ v (Zr t) 0 (nw w4 w5) hB5 hov (λk hk=>hk.2) (λop hop=>by
    obtain⟨i,hi,rfl⟩:=U9.1 hop;have:=R5.1 hi;exact⟨by omega,by omega⟩) (by rw[Oz];omega) (V5 _) (by omega)
  refine ab ?_;refine aV ?_<;>refine ac ?_;refine By rfl hbuild ?_;rintro p w6 ⟨hT,hE6⟩;obtain⟨rp,rfl⟩:=hT.form;have s6:=hE6.size;refine Cm rfl ?_<;>refine AJ rfl ?_;refine CL rfl rfl (hbg5.ext hE6) rfl (V2 _) (by simp[Value.cells,Value.oneCell']) λw7 hU=>?_;refine o_z ?_;refine ab ?_;refine ah ?_<;>refine aS ?_;have hE36:=hE35.trans' hE6;have s7:=hU.size;have hcl:∀{α:Type}[Rp α]{v:Value}{x:α},Vb w3 (nw w2 w3) v x->Vb w7 (nw w w7) v x:=λh=>((h.agree (hE36.agree λ_ h=>h.2)).agree λq hq=>hU.other q (by have:=hq.2;omega)).mono λk hk=>⟨by have:=hk.1;omega,by have:=hk.2;omega⟩;refine X3 rfl (AC rfl) (AC rfl) ⟨(((hE02.trans' hE3).trans' hE36).trans (hU.below (by omega))),.inl ⟨hok,_,rfl,_,_,_,_,_,_,rfl,⟨by omega,by omega⟩,hU.blk,hcl hvars',hcl hinit',hcl hgoal',hcl hops',?_⟩⟩;refine TrR.mono (λk hk=>?_) (TrR.agree (λq hq=>hU.other q ?_) hT)
  . rcases hk with hk|hk
    . exact⟨by have:=hk.1;omega,by have:=hk.2;omega⟩
    . exact⟨by omega,by omega⟩
  . rcases hq with hk|hk
    . have:=hk.1;omega
    . omega
end
section
open Go Go.RowKit
attribute [local irreducible] ewp owp hwp hwq hws Ev Evg Fn W6 X7 X4 X1
theorem GenR.mono{w:World}{F G:Nat->Prop}{gv:Value}{t:Tsk}{f:Tr}(g:GenR w F gv t f)(hk:∀k,F k->G k):GenR w G gv t f:=by
  obtain⟨e,a,b,c,d,r,h1,h2,h3,h4,h5,h6,h7,h8⟩:=g;exact⟨e,a,b,c,d,r,h1,hk _ h2,h3,h4.mono hk,h5.mono hk,h6.mono hk,h7.mono hk,TrR.mono hk h8⟩
theorem GenR.agree{w w':World}{F:Nat->Prop}{gv:Value}{t:Tsk}{g:Tr}(h:GenR w F gv t g)(e:Agree F w w'):GenR w' F gv t g:=by
  obtain⟨f,a,b,c,d,r,h1,h2,h3,h4,h5,h6,h7,h8⟩:=h;exact⟨f,a,b,c,d,r,h1,h2,h3.keep (e f h2),h4.agree e,h5.agree e,h6.agree e,h7.agree e,TrR.agree e h8⟩
theorem GenR.form{w:World}{F:Nat->Prop}{gv:Value}{t:Tsk}{f:Tr}(g:GenR w F gv t f):∃e,gv=.pointer (some ⟨e,0,none⟩):=by
  obtain⟨e,a,b,c,d,r,h1,_⟩:=g;exact⟨e,h1⟩
noncomputable def Zl(t:Tsk)(s:List Int):List Int:=if bof (StateOk t.vars s)=true then ZC t s else[]
theorem MG{t:Tsk}{s:List Int}(a:StateOk t.vars s):Zl t s=ZC t s:=by unfold Zl;rw[if_pos (Dq a)]
theorem Pg{t:Tsk}{s:List Int}(a:¬StateOk t.vars s):Zl t s=[]:=by unfold Zl;rw[BU a];rfl
theorem Tt{t:Tsk}(a:Z0 t)(s:List Int):Aaa t (Zs t) s=Zl t s:=by
  by_cases b:StateOk t.vars s
  . rw[Ts a b,MG b]
  . rw[Pg b];unfold Aaa;rw[BU b];rfl
theorem Ro{t:Tsk}{s:List Int}{x:Int}(b:x∈ZC t s):∃(j:Nat) (o:Opr),x=(j:Int)/\t.ops[j]?=some o/\holdsB o.pre s=true:=by
  unfold ZC AaG at b;obtain⟨j,hj,rfl⟩:=U9.1 b;obtain⟨a,h2⟩:=Q9.1 hj;obtain⟨o,ho⟩:=AK (R5.1 a);rw[ho]at h2;exact⟨j,o,rfl,ho,h2⟩
theorem VF{t:Tsk}{s:List Int}{x:Int}(a:x∈Zl t s):StateOk t.vars s/\x∈ZC t s:=by
  by_cases hs:StateOk t.vars s
  . rw[MG hs]at a;exact⟨hs,a⟩
  . rw[Pg hs]at a;cases a
theorem Rq(t:Tsk)(s:List Int):(ZC t s).length<=t.ops.length:=Ut t s _
theorem VG(t:Tsk)(s:List Int):(Zl t s).length<=t.ops.length:=by
  by_cases hs:StateOk t.vars s
  . rw[MG hs];exact Rq t s
  . rw[Pg hs];exact V5 _
section
variable {w:World}{gv sv:Value}{t:Tsk}{s:List Int}
theorem AcK(a:TaskOk t)(c:GenR w (All w) gv t (Zs t))(hs:V w sv s)(b:s.length<=1000000) :
    Fn prog 72 [gv,sv] w λv w'=>Ext w w'/\Own w' w.heap.size (All w) 3 v (Zl t s):=by
  have:=Aba c hs (Uw a.pre) (by have:=VE t s;have:=a.2.1;omega) b;rwa[Tt a.pre]at this
end
theorem Acp{w:World}{sv:Value}:Fn prog 104 [.pointer none,sv] w λv w'=>v=.tuple #[.slice none 0 0,.int .i64 0]/\Ext w w':=by
  refine AG func104 rfl ntmps104 ?_;refine ab ?_<;>refine aS ?_
  (refine ac ?_<;>refine IU rfl ?_<;>refine ac ?_<;>(first|(refine Az rfl rfl ?_;refine Ar rfl ?_)|refine Ay rfl rfl ?_)<;>(first|(refine Az rfl rfl ?_;refine Cm rfl ?_)|refine Ay rfl rfl ?_)<;>(first|(refine Az rfl rfl ?_;refine AJ rfl ?_)|refine Ay rfl rfl ?_)<;>(first|(refine Az rfl rfl ?_;refine AJ rfl ?_)|refine Ay rfl rfl ?_)<;>(first|(refine Az rfl rfl ?_;refine AL rfl ?_)|refine Ay rfl rfl ?_)<;>(first|(refine Az rfl rfl ?_;refine Ar rfl ?_)|refine Ay rfl rfl ?_))
  refine Ay rfl rfl ?_
  ((first|(refine Az rfl rfl ?_;(first|refine Cw rfl ?_|refine Cx rfl ?_|refine Em rfl ?_))|refine Ay rfl rfl ?_)<;>refine ai ?_)
  refine ab ?_;refine ab ?_<;>refine aS ?_;exact X3 rfl (AC rfl) (AC rfl) ⟨rfl,V8 _ _⟩
theorem Aa9{w:World}{sv:Value}:Fn prog 72 [.pointer none,sv] w λv w'=>v=.slice none 0 0/\Ext w w':=by
  refine AG func72 rfl ntmps72 ?_;refine bn ?_;refine By rfl Acp ?_;rintro _ a ⟨rfl,hE⟩;refine bd ?_<;>refine Au rfl ?_<;>refine ae ?_;refine ab ?_;refine al ?_;exact W8 rfl rfl ⟨rfl,hE⟩
end
section
open Go Go.RowKit
attribute [local irreducible] ewp owp hwp hwq hws Ev Evg Fn W6 X7 X4 X1
structure Gnr where
  t:Tsk
def GnrR(w:World)(F:Nat->Prop)(v:Value):Option Gnr->Prop
  |none=>v=.pointer none
  |some g=>TaskOk g.t/\GenR w F v g.t (Zs g.t)
theorem GnrR.one{w:World}{F:Nat->Prop}{v:Value}:∀{x:Option Gnr},GnrR w F v x->v.oneCell'=true
  |none,h=>by     have:v=.pointer none:=h
                  subst this;rfl
  |some g,h=>by
    obtain⟨a,rfl⟩:=h.2.form;rfl
instance:Rp (Option Gnr) where
  isAgg:=false
  size:=1
  R w F cs x:=∃v,cs=[v]/\GnrR w F v x
  len:=by rintro w F cs x ⟨v,rfl,_⟩;rfl
  one:=by
    rintro w F cs x ⟨v,rfl,h⟩ u hu;have:u=v:=(by simpa using hu);subst this;exact h.one
  agree:=by
    rintro w w' F cs x ⟨v,rfl,h⟩ ha;refine⟨v,rfl,?_⟩;cases x with
    |none=>exact h
    |some g=>exact⟨h.1,h.2.agree ha⟩
  mono:=by
    rintro w F G cs x ⟨v,rfl,h⟩ hk;refine⟨v,rfl,?_⟩;cases x with
    |none=>exact h
    |some g=>exact⟨h.1,h.2.mono hk⟩
theorem AcL{w:World}{F:Nat->Prop}:Vb w F (.pointer none) (none:Option Gnr):=⟨_,rfl,rfl⟩
theorem Vb.gnr{w:World}{F:Nat->Prop}{v:Value}{x:Option Gnr}(a:Vb w F v x):GnrR w F v x:=by
  obtain⟨u,hu,h'⟩:=a;have:v=u:=(by simpa using hu);subst this;exact h'
theorem Vb.ptr{w:World}{F:Nat->Prop}{v:Value}{x:Option Gnr}(b:Vb w F v x):∃p,v=.pointer p/\p.isNone=x.isNone:=by
  cases x with
  |none=>exact⟨none,b.gnr,rfl⟩
  |some g=>obtain⟨a,rfl⟩:=b.gnr.2.form;exact⟨_,rfl,rfl⟩
theorem VH{w:World}{F:Nat->Prop}{p:Option Addr}{x:Option Gnr}{g:Gnr}(h:Vb w F (.pointer p) x)(e:x=some g) :
    ∃d a b c i r,p=some ⟨d,0,none⟩/\F d/\cellsAt w d 0 [a,b,c,i,r]/\Vb w F a g.t.vars/\Vb w F b g.t.init/\Vb w F c g.t.goal/\Vb w F i g.t.ops:=by
  subst e;obtain⟨_,d,a,b,c,i,r,f,h2,h3,h4,h5,h6,h7,_⟩:=h.gnr;injection f with f;exact⟨d,a,b,c,i,r,f,h2,h3.cellsAt,h4,h5,h6,h7⟩
theorem AcP{w:World}{F:Nat->Prop}{v:Value}{g:Gnr}(b:TaskOk g.t)(a:GenR w F v g.t (Zs g.t)):Vb w F v (some g):=⟨v,rfl,b,a⟩
theorem WP{A:Nat->Prop}{w w':World}:∀k,nw w w' k->upA A w w' k:=λ_ a=>.inr a
theorem Own.intRow{w w':World}{F A:Nat->Prop}{e:TypeId}{v:Value}{xs:List Int}(a:Own w' w.heap.size F e v xs):RowR w w' (upA A w w') e v xs:=by
  obtain⟨cells,q1,q2,q3⟩:=a;exact⟨λ_=>False,λ_ a=>a.elim,cells,q1,KI q2,λ_ _ a=>a⟩
noncomputable def HF(t:Tsk):Option (Option Gnr×Err):=some (if bof (TaskOk t)=true then some ⟨t⟩else none,⟨Y0 t⟩)
theorem PY{w:World}{A:Nat->Prop}(hA:∀k,A k->k<w.heap.size){d:Value}{b:Tsk}(e:Vb w A d b){r:Option Gnr×Err}(hm:HF b=some r):Fn prog 67 [d] w λv w'=>Ext w w'/\T2 w' (upA A w w') v r:=by
  obtain rfl:=sm hm;refine(Acz (e.mono hA)).mono λv w' f=>⟨f.1,?_⟩;rcases f.2 with⟨a,gv,rfl,hg⟩|⟨c,rfl⟩
  . rw[Dq a,Ei.2 a];exact⟨gv,_,rfl,AcP (g:=⟨b⟩) a (hg.mono WP),vErr0⟩
  . rw[BU c];exact⟨_,_,rfl,AcL,vErr (Of _)⟩
noncomputable def AcY:Option Gnr->List Int->List Int
  |none,_=>[]
  |some g,s=>Zl g.t s
noncomputable def EP(x:Option Gnr)(s:List Int):Option (List Int):=if s.length<=1000000 then some (AcY x s)else none
theorem If{w:World}{A:Nat->Prop}(hA:∀k,A k->k<w.heap.size){a:Value}{b:Option Gnr}(d:Vb w A a b){e:Value}{f:List Int}(h:Vb w A e f){r:List Int}(hm:EP b f=some r) :
    Fn prog 72 [a,e] w λv w'=>Ext w w'/\RowR w w' (upA A w w') 3 v r:=by
  obtain⟨hl,rfl⟩:=FV hm;cases b with
  |none =>
    have i:=d.gnr;have:a=.pointer none:=i;subst this;refine Aa9.mono λv w' j=>⟨j.2,?_⟩;rw[j.1];exact RowR.nil
  |some g =>
    obtain⟨c,hg⟩:=d.gnr;exact(AcK c (hg.mono hA) (h.mono hA) hl).mono λv w' j=>⟨j.1,j.2.intRow⟩
end
section
open Go Go.RowKit
section
attribute [local irreducible] ewp owp hwp hwq hws Ev Evg Fn W6 X7 X4 X1
noncomputable def Cg(o:Option Gnr)(j:List Int):Option (List Suc) :=
  bnd (EP o j) λr=>bnd (rng (ρ:=(List Suc)) (λ(s:Nat)(e:Int)(k:(List Suc))=>bnd (CM j) λl=>bnd (o) λm=>bnd (atI m.t.ops e) λn=>bnd (rng (ρ:=Ctl (List Suc) (List Suc)) (λ(p:Nat)(a:Eff)(b:(List Int))=>bnd (DJ a.cond j) λf=>if f=true then bnd (atI b a.var) λq=>some (.next (b.set (a.var:Int).toNat a.val))else some (.next b)) n.effs 0 l) λc=>fin c λ(g:(List Int))=>bnd (X6 32 k [(⟨e,g⟩:Suc)]) λh=>some (.next h)) r 0 ([]:List Suc)) λd=>fin d λ(i:(List Suc))=>some i
theorem Ig{w:World}{A:Nat->Prop}(hA:∀k,A k->k<w.heap.size){vx0:Value}{x0:Option Gnr}(d0:Vb w A vx0 x0){vx1:Value}{x1:List Int}(o1:Vb w A vx1 x1){r:(List Suc)}(hm:Cg x0 x1=some r) :
    Fn prog 40 [vx0,vx1] w λv w'=>Ext w w'/\Vb w' (upA A w w') v r:=by
 obtain⟨O,hB,n3⟩:=enter hA;replace d0:=d0.mono n3;obtain⟨p3,rfl,o3⟩:=d0.ptr;obtain⟨A5,c6,rfl⟩:=o1.form;refine AG func40 rfl ntmps40 ?_;unfold Cg at hm;refine Aj (Ae (Au rfl (o_z (Aj (Ae (Au rfl (o_z (Aj (Aj (Ae (Ar rfl (Ar rfl ?_))))))))))));obtain⟨q7,e8,hm⟩:=bs hm;refine DF 2 (O:=O) (If Fr.lt d0 (o1.zs hA hB) e8) rfl λp1 q1 w9 q3 f3 j0=>?_;refine AO rfl ?_;have w1:=Bj j0.len;have s5:=rngNat w1;refine Ar rfl (o_z ?_);obtain⟨g3,y1,hm⟩:=bs hm;replace d0:=d0.st f3;replace hB:=hB.st f3;refine Dg (X:=(Option Addr×Nat)) (q7.length) y1 rfl w1 (λq0 n0=>[(0,(.pointer p3)),(1,(.slice A5 x1.length c6)),(5,(.slice n0.1 q0.length n0.2)),(13,(.slice p1 q7.length q1))]) (λq0 n0 w'=>∃O':Lab,Bs w A w' O'/\Vb w' (Fr 0 w' O') (.pointer p3) x0/\Rw 5 w' O' 115 (.slice n0.1 q0.length n0.2) q0/\Rw 2 w' O' 3 (.slice p1 q7.length q1) q7) (none,0) ⟨q3,hB,d0,(Rw.nil 5 (by decide)),j0⟩ Af (λ_ _=>rfl) ?_ ?_
 ·rintro r3 r1 q0 n0 t5 s3 y0 ⟨t3,hB,d0,h0,j0⟩ b0 z1 a2;have rk23:=YV y0 w1;refine Aj (Ae ?_);obtain⟨u5,v5,u3,b2,c2,d2,rfl,v3⟩:=j0.elem y0;refine BA (hA:=b2) (hj:=rfl) (hlt:=c2) rfl rfl (AL (hc:=cat0 d2) rfl (Au rfl (o_z (Aj (Ae (Ar rfl ?_))))));obtain⟨e2,w3,b0⟩:=bs b0;refine DF 3 (O:=t3) (Fb Fr.lt (o1.zs hA hB) w3) rfl λf2 g2 w5 x3 s1 y3=>?_;refine Au rfl (o_z (Aj (Aj (Ae (Ar rfl ?_)))));obtain⟨x5,h3,b0⟩:=bs b0;obtain⟨ad59,h2⟩:=OO (o3.trans (by rw[h3];rfl));refine Yo (hA:=h2) rfl rfl ?_;replace d0:=d0.st s1;obtain⟨y5,z5,a6,b6,d6,e6,i2,z3,j2,a4,b4,c4,i3⟩:=VH d0 h3;obtain⟨f6,g6,rfl⟩:=a4.form;obtain⟨h6,i6,rfl⟩:=b4.form;obtain⟨j6,k6,rfl⟩:=c4.form;obtain⟨l6,m6,rfl⟩:=i3.form;refine Yn (hA:=i2) rfl rfl (AJ rfl (AL (hc:=cat3 j2) rfl (Ar rfl ?_)));obtain⟨t1,d4,b0⟩:=bs b0;obtain⟨e4,f4⟩:=Cn d4;obtain⟨n6,o6,g4,k2,l2,m2,p6,h4,rfl,n2,e0,i4,j4⟩:=i3.elem' f4;obtain⟨k4,l4,rfl⟩:=n2.form;obtain⟨z0,a1,rfl⟩:=e0.form;refine BA (hA:=k2) (hj:=e4) (hlt:=l2) rfl rfl (AJ rfl (AL (hc:=cat3 m2) rfl (AO rfl ?_)));have t0:=Bj e0.len;have m4:=rngNat t0;refine Ar rfl (o_z ?_);obtain⟨o2,b1,b0⟩:=bs b0;replace hB:=hB.st s1;replace j0:=j0.st s1;replace h0:=h0.st s1;refine Dg (X:=Unit) (t1.effs.length) b1 rfl t0 (λu0 c1=>[(0,(.pointer p3)),(1,(.slice A5 x1.length c6)),(5,(.slice n0.1 q0.length n0.2)),(7,(.int .i64 r1)),(8,(.slice f2 e2.length g2)),(13,(.slice p1 q7.length q1)),(14,(.int .i64 (q7.length:Int))),(15,(.int .i64 (r3:Int))),(29,(.slice z0 t1.effs.length a1))]) (λu0 c1 w'=>∃O':Lab,Bs w A w' O'/\Vb w' (Fr 0 w' O') (.pointer p3) x0/\Rw 5 w' O' 115 (.slice n0.1 q0.length n0.2) q0/\Rw 3 w' O' 3 (.slice f2 e2.length g2) u0/\Rw 2 w' O' 3 (.slice p1 q7.length q1) q7/\Vb w' (Fr 0 w' O') (.slice z0 t1.effs.length a1) t1.effs) () ⟨x3,hB,d0,h0,y3,j0,e0⟩ G3 (λ_ _=>rfl) ?_ ?_
  ·rintro n4 p2 u0 c1 o4 j3 r0 ⟨q2,hB,d0,h0,c0,j0,e0⟩ a0 u1 v1;have rk115:=YV r0 t0;refine Aj (Ae ?_);obtain⟨p4,q4,k3,d1,e1,f1,r4,rfl,o0,s4,r2⟩:=e0.elem' r0;obtain⟨t4,u4,rfl⟩:=o0.form;refine BA (hA:=d1) (hj:=rfl) (hlt:=e1) rfl rfl (BE (hl:=rfl) (hc:=f1) rfl ?_);refine BL 4 q2 λv4 w4 g1 l0 g0=>?_;refine AR g0 rfl rfl rfl (Bg) (allOne) λs2 m0 g0=>?_;refine o_z (Aj (Ae (AJ rfl (AL (hc:=Blk.cell (i:=0) (g0.1) rfl) rfl (Ar rfl ?_)))));obtain⟨t2,u2,a0⟩:=bs a0;replace hB:=(hB.st l0).st m0;replace o0:=(o0.st l0).st m0;refine BO (O:=g1) (FX (λ_ h=>h) (vMo o0) (Vb.mono (F:=Fr 0 s2 g1) (o1.zs hA hB) Fr.lt) u2) rfl λx4 y4 z4 k0 v2=>?_;obtain rfl:=v2.bool;cases t2
   case false =>
    replace a0:=iF a0;refine o_z (Ah rfl (AE ?_));obtain rfl:=sm a0;have f0:=(l0.an m0).an k0;exact show Exists _ from⟨_,(),rfl,G3,_,hB.st k0,d0.st f0,h0.st f0,c0.st f0,j0.st f0,e0.st f0⟩
   replace a0:=iT a0;refine o_z (Am rfl (Ae (Ar rfl (AJ rfl ?_))));replace g0:=g0.st k0;refine AL (hc:=Blk.cell (i:=1) (g0.1) rfl) rfl (AJ rfl (AL (hc:=Blk.cell (i:=2) (g0.1) rfl) rfl ?_));obtain⟨a5,w2,a0⟩:=bs a0;obtain⟨x2,h1⟩:=Cn w2;replace c0:=((c0.st l0).st m0).st k0;obtain⟨b5,c5,l3,s0,i1,m3,rfl,d5⟩:=c0.elem h1;refine BA (hA:=s0) (hj:=x2) (hlt:=i1) rfl rfl ?_;refine Fe rfl c0 (a:=p2.val) (vInt r2) s0 rfl rfl (AF h1) λe5 j1 c0=>?_;refine o_z ?_;obtain rfl:=sm a0;have i0:=((l0.an m0).an k0).an j1;exact show Exists _ from⟨_,(),rfl,G3,_,(hB.st k0).st j1,d0.st i0,h0.st i0,c0,j0.st i0,e0.st i0⟩
  rintro f5 g5 ⟨k1,h5,rfl,l1,i5,hB,d0,h0,c0,j0,e0⟩;replace b0:=AW b0;refine AQ _ l1 ?_;refine Ae (Ar rfl (Ar rfl (Ar rfl (CK rfl rfl ?_))));obtain⟨j5,p0,c0⟩:=c0.freeze;obtain⟨k5,v0,b0⟩:=bs b0;obtain⟨v0,y2,z2⟩:=Bw v0;replace h0:=h0.st p0;refine Dl rfl (a:=(⟨r1,k1⟩:Suc)) h0 (Vb.ofAgg (cs:=[(.int .i64 r1),(.slice f2 e2.length g2)]) (x:=(⟨r1,k1⟩:Suc)) rfl ⟨_,rfl,c0,v3⟩) (λ_=>rfl) rfl y2 z2 ⟨rfl,rfl⟩ λl5 a3 b3 m5 n5 w0 m1=>?_;rw[<- v0]at m1 ⊢;refine Au rfl (o_z ?_);obtain rfl:=sm b0;exact show Exists _ from⟨_,(a3,b3),rfl,Af,_,(hB.st p0).st w0,(d0.st p0).st w0,m1,(j0.st p0).st w0⟩
 rintro o5 c3 ⟨p5,q5,rfl,n1,r5,hB,d0,h0,j0⟩;replace hm:=AW hm;refine AQ _ n1 ?_;refine Aj (Ae (Ar rfl (Au rfl (o_z (AD ?_)))));obtain⟨d3,e3,h0⟩:=h0.freeze;obtain rfl:=sm hm;replace hB:=hB.st e3;exact X2 rfl (AC rfl) ⟨hB.ext,(Vb.mono (F:=Fr 0 c3 d3) h0 hB.out)⟩
end
theorem VI{s:List Int}(hl:s.length<=1000000):CM s=some s:=if_pos ⟨by omega,by omega⟩
theorem WQ{t:Tsk}{s:List Int}(a:TaskOk t)(hl:s.length<=1000000):Cg (some ⟨t⟩) s=some ((Zl t s).map (Aaq t s)):=by
  have c:EP (some ⟨t⟩) s=some (Zl t s):=if_pos hl;have d:=a.2.1;have e:=VG t s;unfold Cg;rw[c,At];rw[He (λk=>((Zl t s).take k).map (Aaq t s)) ?_ ?_,At,BH,P4]
  . rfl
  intro k x hk;have f:=AF hk;obtain⟨b,hmem⟩:=VF (H1 hk);obtain⟨j,o,rfl,hj,hp⟩:=Ro hmem;rw[VI hl,At,At,BD,hj,At,Nw (a.effs b j o hj) DJ (λ_ _=>rfl) s rfl,At,BH,Cb (by simp;omega) (by simp;omega),At,M2,hk,R2];simp[Aaq,hj,succ]
theorem XW{t:Tsk}(a:TaskOk t):HF t=some (some ⟨t⟩,⟨0⟩):=by unfold HF;rw[Dq a,Cd,Ei.2 a]
end
section
open Go Go.RowKit
attribute [local irreducible] ewp owp hwp hwq hws Ev Evg Fn W6 X7 X4 X1
attribute [local irreducible] hwx YW
structure Spc where
  t:Tsk
  reg:Reg
  gen:Option Gnr
instance:Ow Spc where
  R w F j v x:=∃(g:Nat) (L:Lab) (a b c d e f:Value),v=.pointer (some ⟨g,0,none⟩)/\Blk w g 109 [a,b,c,d,e,f]/\j g/\L g=0/\Vb w F a x.t.vars/\Vb w F b x.t.init/\Vb w F c x.t.goal/\Vb w F d x.t.ops/\Ow.R w F (λk=>j k/\L k=1) e x.reg/\Vb w F f x.gen
  agree:=by rintro w w' F j v x ⟨g,L,a,b,c,d,e,f,rfl,hb,hM,hL,h0,h1,h2,h3,h4,h5⟩ a1 a2;exact⟨g,L,a,b,c,d,e,f,rfl,hb.keep (a2 g hM),hM,hL,h0.agree a1,h1.agree a1,h2.agree a1,h3.agree a1,Ow.agree h4 a1 λk hk=>a2 k hk.1,h5.agree a1⟩
  mono:=by rintro w F j h i v x ⟨g,L,a,b,c,d,e,f,rfl,hb,hM,hL,h0,h1,h2,h3,h4,h5⟩ a1 a2 a3;exact⟨g,L,a,b,c,d,e,f,rfl,hb,a2 g hM,hL,h0.mono a1,h1.mono a1,h2.mono a1,h3.mono a1,Ow.mono h4 a1 (λk hk=>⟨a2 k hk.1,hk.2⟩) λk hf hm=>a3 k hf hm.1,h5.mono a1⟩
instance:OwP Spc:=⟨by rintro w F a v x ⟨g,L,c0,c1,c2,c3,c4,c5,rfl,_⟩;exact⟨g,rfl⟩⟩
theorem Spc.opn{i:Nat}{w:World}{O:Lab}{p:Nat}{x:Spc}(n:Ob i w O (.pointer (some ⟨p,0,none⟩)) x)(l0 c:Nat)(hl:l0≠0/\c≠0):∃(a:Lab) (d e f h l m:Value),St (eT i) w O w a/\(∀k,Fr i w O k->∃q,q∈[l0,c]/\Fr q w a k)/\Lc l0 w a p 109 [d,e,f,h,l,m]/\Vb w (Fr 0 w a) d x.t.vars/\Vb w (Fr 0 w a) e x.t.init/\Vb w (Fr 0 w a) f x.t.goal/\Vb w (Fr 0 w a) h x.t.ops/\Ob c w a l x.reg/\Vb w (Fr 0 w a) m x.gen:=by
  obtain⟨⟨g,L,d,e,f,h,l,m,b,hb,hM,hL,h0,h1,h2,h3,h4,h5⟩,hi⟩:=n;obtain rfl:p=g:=(by injection b with b;injection b with b;injection b);exact⟨part O i L [l0,c],d,e,f,h,l,m,Js hi,Iq (by simp),⟨hb,(Gg (j:=0) rfl p ⟨hM,hL⟩).2⟩,h0.mono (DR hi),h1.mono (DR hi),h2.mono (DR hi),h3.mono (DR hi),⟨Ow.mono h4 (DR hi) (Gg (j:=1) rfl) (YY hl.2),hl.2⟩,h5.mono (DR hi)⟩
theorem Spc.shut{w:World}{O:Lab}{p:Nat}{x:Spc}{l0 c:Nat}{g h j l m n:Value}(hd:¬0∈[l0,c]/\[l0,c].idxOf l0=0/\[l0,c].idxOf c=1)(hb:Lc l0 w O p 109 [g,h,j,l,m,n])(r:Vb w (Fr 0 w O) g x.t.vars)(s:Vb w (Fr 0 w O) h x.t.init)(u:Vb w (Fr 0 w O) j x.t.goal)(v:Vb w (Fr 0 w O) l x.t.ops)(y:Ob c w O m x.reg)(z:Vb w (Fr 0 w O) n x.gen):∃f,St (·∈[l0,c]) w O w f/\(∀k,Fr 0 w O k->Fr 0 w f k)/\(∀q,q∈[l0,c]->∀k,Fr q w O k->Fr l0 w f k)/\Ob l0 w f (.pointer (some ⟨p,0,none⟩)) x:=by
  have d:l0≠0:=λe=>hd.1 (by simp[e]);have o:=FG (i:=l0) hd.2.1 (by simp) p ⟨hb.1.lt,hb.2⟩;exact⟨ZS O l0 [l0,c],Ir,CD hd.1,HO,⟨p,λk=>[l0,c].idxOf (O k),g,h,j,l,m,n,rfl,hb.1,o.1,o.2,r.mono (CD hd.1),s.mono (CD hd.1),u.mono (CD hd.1),v.mono (CD hd.1),Ow.mono y.1 (CD hd.1) (FG hd.2.2 (by simp)) (λk a b=>YY d k a b.1),z.mono (CD hd.1)⟩,d⟩
noncomputable def FE(a:Tsk):Option ((Option Spc)×Err) :=
  bnd (HF a) λb=>if b.2.n≠0 then(some (none,(⟨b.2.n⟩:Err)))else(bnd (GE a.vars) λc=>if c.2.n≠0 then(some (none,(⟨c.2.n⟩:Err)))else(bnd c.1 λe=>bnd (CN e a.init) λd=>if d.2.2.1.n≠0 then(some (none,(⟨d.2.2.1.n⟩:Err)))else(some ((some (⟨(⟨a.vars,a.init,a.goal,a.ops⟩:Tsk),d.2.2.2,b.1⟩:Spc)),(⟨0⟩:Err)))))
theorem OA{w:World}{O:Lab}{e:Value}{d:Tsk}(f:Vb w (Fr 0 w O) e d)(j:Nat)(k:j≠0){r:(Option Spc)×Err}(hm:FE d=some r) :
    Fn prog 35 [e] w λv w'=>∃b,St nT w O w' b/\∃t u:Value,v=.tuple #[t,u]/\Obo j w' b t r.1/\Vb w' (Fr 0 w' b) u r.2:=by
 obtain⟨l,hE,s0⟩:=Ab0 (w:=w) (O:=O);have a:Bm w l w l:=Bm.refl;replace f:=f.mono s0;obtain⟨K,rfl,v3,v4,v5,v6,rfl,h7,f0,p0,q0⟩:=id f;obtain⟨L,c9,rfl⟩:=h7.form;obtain⟨M,z1,rfl⟩:=f0.form;obtain⟨N,b2,rfl⟩:=p0.form;obtain⟨P,d2,rfl⟩:=q0.form;refine AG func35 rfl ntmps35 ?_;unfold FE at hm;refine Aj (Ae (Ea 2 l rfl λQ S A B c=>?_));refine Au rfl (Au rfl (o_z (Aj (Ae (BE (hl:=rfl) (hc:=(c.1).cellsAt) rfl ?_)))));obtain⟨y,w0,hm⟩:=bs hm;replace a:=a.st B;refine Ey (O:=A) (R:=λw' F v=>T2 w' F v y) (PY Fr.lt (f.z a) w0) rfl λT U C m z0=>?_;obtain⟨V,j2,rfl,c0,a1⟩:=z0;obtain⟨W,rfl,b1⟩:=c0.ptr;obtain⟨rfl,c1⟩:=a1.err;refine Ar rfl (AZ rfl rfl (AZ rfl rfl (Au rfl (Au rfl (o_z (Aj (Aj (Ae (Ar rfl (Cy rfl (λn=>?_) λn=>?_))))))))))
 ·replace hm:=ip hm n;refine o_z (Am rfl (Aj (Ae (Ar rfl (Au rfl (Au rfl (o_z (AD ?_))))))));obtain rfl:=sm hm;replace a:=a.st m;obtain⟨b,hS',hz,hl⟩:=hE.leave (λ_=>0) rfl a;exact X3 rfl (AC rfl) (AC rfl) ⟨b,hS',_,_,rfl,rfl,(vErr c1)⟩
 replace hm:=im hm n;refine o_z (Ah rfl (AE (Aj (Ae (AJ rfl ?_)))));replace c:=c.st m;refine AL (hc:=Blk.cell (i:=0) (c.1) rfl) rfl ?_;obtain⟨X,d1,hm⟩:=bs hm;replace a:=a.st m;refine BM (O:=C) (OX (h7.z a) 3 (by decide) d1) rfl λY n2 D g E=>?_;obtain⟨Z,p2,rfl,i0,g1⟩:=E;obtain⟨rfl,h1⟩:=g1.err;refine Ar rfl (AZ rfl rfl (AZ rfl rfl (Au rfl (Au rfl (o_z (Aj (Aj (Ae (Ar rfl (Cy rfl (λo=>?_) λo=>?_))))))))))
 ·replace hm:=ip hm o;refine o_z (Am rfl (Aj (Ae (Ar rfl (Au rfl (Au rfl (o_z (AD ?_))))))));obtain rfl:=sm hm;replace a:=a.st g;obtain⟨b,hS',hz,hl⟩:=hE.leave (λ_=>0) rfl a;exact X3 rfl (AC rfl) (AC rfl) ⟨b,hS',_,_,rfl,rfl,(vErr h1)⟩
 replace hm:=im hm o;refine o_z (Ah rfl (AE (Aj (Aj (Ae (Ar rfl (AJ rfl ?_)))))));replace c:=c.st g;refine AL (hc:=Blk.cell (i:=1) (c.1) rfl) rfl ?_;obtain⟨q2,i1,hm⟩:=bs hm;rw[i1]at i0;obtain⟨r2,rfl⟩:=Ob.ptr i0;obtain⟨G,k1,hm⟩:=bs hm;replace a:=a.st g;refine BM (O:=D) (Hq i0 (f0.z a) k1) rfl λs2 t2 H h I=>?_;obtain⟨u2,v2,w2,m0,rfl,n1,o1,p1⟩:=I;obtain⟨rfl,x2⟩:=n1.int;obtain rfl:=o1.bool;obtain⟨rfl,q1⟩:=p1.err;refine Ar rfl (AZ rfl rfl (AZ rfl rfl (AZ rfl rfl (Au rfl (Au rfl (Au rfl (o_z (Aj (Ae (Ar rfl (Cy rfl (λp=>?_) λp=>?_)))))))))))
 ·replace hm:=ip hm p;refine o_z (Am rfl (Aj (Ae (Ar rfl (Au rfl (Au rfl (o_z (AD ?_))))))));obtain rfl:=sm hm;replace a:=a.st h;obtain⟨b,hS',hz,hl⟩:=hE.leave (λ_=>0) rfl a;exact X3 rfl (AC rfl) (AC rfl) ⟨b,hS',_,_,rfl,rfl,(vErr q1)⟩
 replace hm:=im hm p;refine o_z (Ah rfl (AE (Aj (Ae ?_))));replace c:=c.st h;refine BE (hl:=rfl) (hc:=(c.1).cellsAt) rfl (Ar rfl (Ar rfl (CK rfl rfl ?_)));refine Ea 4 H rfl λy2 z2 a3 s J=>?_;refine Au rfl (Au rfl (o_z (AD ?_)));replace a:=(a.st h).st s;replace c0:=((c0.st g).st h).st s;replace m0:=m0.st s;obtain⟨b3,s1,t1,u1,w1⟩:=Spc.shut (x:=(⟨(⟨d.vars,d.init,d.goal,d.ops⟩:Tsk),G.2.2.2,y.1⟩:Spc)) (l0:=4) (by decide) J (h7.z a) (f0.z a) (p0.z a) (q0.z a) m0 c0;obtain rfl:=sm hm;replace a:=a.st s1;obtain⟨b,hS',hz,hl⟩:=hE.leave (λq=>if q=4 then j else 0) rfl a;exact X3 rfl (AC rfl) (AC rfl) ⟨b,hS',_,_,rfl,(Ob.leave w1 hz (hl 4 (by decide) (by decide)) k),(vErr (W3 0))⟩
noncomputable def DN(h:Spc)(i:Int)(j:Int):Option (Rsl×Err) :=
  bnd (DU h.reg i) λa=>if a.2.n≠0 then(some ((⟨0,([]:List Int),0,0⟩:Rsl),(⟨a.2.n⟩:Err)))else(bnd (rng (ρ:=Rsl×Err) (λ(k:Nat)(f:Int)(g:Int)=>bnd (atI h.t.ops f) λc=>bnd (W5 (g+c.cost)) λd=>some (.next d)) a.1 0 0) λb=>fin b λ(e:Int)=>some ((⟨1,a.1,e,j⟩:Rsl),(⟨0⟩:Err)))
theorem KK{w:World}{O:Lab}{o p:Nat}{g:Spc}(y:Ob p w O (.pointer (some ⟨o,0,none⟩)) g){B:Int}(C:W1 B){h:Int}(D:W1 h){r:Rsl×Err}(hm:DN g B h=some r) :
    Fn prog 38 [(.pointer (some ⟨o,0,none⟩)),(.int .i64 B),(.int .i64 h)] w λv w'=>∃b,St (eT p) w O w' b/\∃L M:Value,Ob p w' b (.pointer (some ⟨o,0,none⟩)) g/\v=.tuple #[L,M]/\Vb w' (Fr 0 w' b) L r.1/\Vb w' (Fr 0 w' b) M r.2:=by
 obtain⟨z,hE,a3,b3⟩:=Y3 (w:=w) (O:=O) y.2;have k:=Ob.leave y a3 b3 (j:=2) (by decide);have d:Bm w z w z:=Bm.refl;refine AG func38 rfl ntmps38 ?_;unfold DN at hm;refine Aj (Ae (BL 3 z λN w5 O6 E a=>?_));refine Au rfl (o_z (Aj (Ae (Ar rfl (Cm rfl ?_)))));replace k:=k.st E;obtain⟨T,c5,d5,e5,f5,g5,h5,s1,c3,t0,u0,w0,y0,z0,n2,a1⟩:=Spc.opn k 2 4 (by decide);obtain⟨i5,j5,rfl⟩:=u0.form;obtain⟨k5,l5,rfl⟩:=w0.form;obtain⟨m5,n5,rfl⟩:=y0.form;obtain⟨o5,p5,rfl⟩:=z0.form;obtain⟨q5,rfl⟩:=n2.ptr;obtain⟨r5,rfl,d3⟩:=a1.ptr;refine AJ rfl (AL (hc:=Blk.cell (i:=4) (t0.1) rfl) rfl (Ar rfl ?_));obtain⟨e,e3,hm⟩:=bs hm;refine BM (O:=T) (JN n2 C e3) rfl λs5 t5 U l V=>?_;obtain⟨u5,v5,f1,rfl,d0,h3⟩:=V;obtain⟨s,h1,rfl⟩:=d0.form;obtain⟨rfl,i3⟩:=h3.err;refine Ar rfl (AZ rfl rfl (AZ rfl rfl (Au rfl (Au rfl (o_z (Aj (Aj (Ae (Ar rfl (Cy rfl (λF=>?_) λF=>?_))))))))))
 ·replace hm:=ip hm F;refine o_z (Am rfl (Aj (Ae (CK rfl rfl ?_))));refine ac ?_;replace a:=(a.st s1).st l;refine AR a rfl rfl rfl (Bg) (allOne) λx5 G a=>?_;refine Au rfl (o_z (AD ?_));have m:=l.an G;replace t0:=t0.st m;replace u0:=u0.st m;replace w0:=w0.st m;replace y0:=y0.st m;replace z0:=z0.st m;replace a1:=a1.st m;replace f1:=f1.st G;obtain⟨y5,o2,j3,k3,l3⟩:=Spc.shut (x:=g) (l0:=2) (by decide) t0 u0 w0 y0 z0 f1 a1;obtain rfl:=sm hm;replace d:=((((d.st E).st s1).st l).st G).st o2;obtain⟨b,hS',hz,hl⟩:=hE.leave (λq=>if q=2 then p else 0) rfl d;replace a:=a.st o2;exact X3 rfl (CC (cs:=[(.int .i64 0),(.slice none 0 0),(.int .i64 0),(.int .i64 0)]) rfl rfl a.1.cellsAt) (AC rfl) ⟨b,hS',_,_,(Ob.leave l3 hz (hl 2 (by decide) (by decide)) y.2),rfl,(Vb.mono (Vb.ofAgg (cs:=[(.int .i64 0),(.slice none 0 0),(.int .i64 0),(.int .i64 0)]) (x:=(⟨0,([]:List Int),0,0⟩:Rsl)) rfl ⟨_,rfl,(Vb.nil _ _),(W3 0),(W3 0),(W3 0)⟩) hz),(vErr i3)⟩
 replace hm:=im hm F;refine o_z (Ah rfl (AE (Aj (Ae (Ar rfl (Ar rfl (CK rfl rfl ?_)))))));refine BL 5 U λP z5 a6 t c=>?_;refine AR c rfl rfl rfl (Bg) (allOne) λb6 u c=>?_;refine o_z (Aj (Aj (Ae (Ar rfl (AO rfl ?_)))));replace d0:=(d0.st t).st u;have H:=Bj d0.len;have c6:=rngNat H;refine Ar rfl (o_z ?_);have n:=(l.an t).an u;replace t0:=t0.st n;replace u0:=u0.st n;replace w0:=w0.st n;replace y0:=y0.st n;replace z0:=z0.st n;replace a1:=a1.st n;replace f1:=(f1.st t).st u;obtain⟨W,t1,n3,o3,b1⟩:=Spc.shut (x:=g) (l0:=2) (by decide) t0 u0 w0 y0 z0 f1 a1;obtain⟨q2,a2,hm⟩:=bs hm;replace d:=(((((d.st E).st s1).st l).st t).st u).st t1;replace a:=((((a.st s1).st l).st t).st u).st t1;replace d0:=d0.st t1;replace c:=c.st t1;refine Dg (X:=Unit) (e.1.length) a2 rfl H (λA Q=>[(0,(.pointer (some ⟨o,0,none⟩))),(6,(.pointer (some ⟨N,0,none⟩))),(10,(.pointer (some ⟨P,0,none⟩))),(29,(.slice s e.1.length h1))]) (λA Q w'=>∃b:Lab,Bm w z w' b/\Ob 2 w' b (.pointer (some ⟨o,0,none⟩)) g/\Lc 3 w' b N 32 [(.int .i64 0),(.slice none 0 0),(.int .i64 0),(.int .i64 0)]/\Lc 5 w' b P 32 [(.int .i64 1),(.slice s e.1.length h1),(.int .i64 A),(.int .i64 h)]/\Vb w' (Fr 0 w' b) (.slice s e.1.length h1) e.1/\W1 A) () ⟨W,d,b1,a,c,d0,(W3 0)⟩ Af (λ_ _=>rfl) ?_ ?_
 ·rintro d6 e6 A Q f6 p3 R ⟨g6,d,b1,a,c,d0,s2⟩ f0 b2 c2;have S:=YV R H;refine Aj (Ae ?_);obtain⟨h6,i6,q3,d2,e2,f2,rfl,j6⟩:=d0.elem' R;refine BA (hA:=d2) (hj:=rfl) (hlt:=e2) rfl rfl (AL (hc:=cat0 f2) rfl (Au rfl (o_z ?_)));obtain⟨Y,s3,t3,u3,v3,w3,x3,t2,u2,j0,k0,m0,n0,g0,o0,q0⟩:=Spc.opn b1 2 4 (by decide);obtain⟨y3,z3,rfl⟩:=k0.form;obtain⟨a4,b4,rfl⟩:=m0.form;obtain⟨c4,d4,rfl⟩:=n0.form;obtain⟨e4,f4,rfl⟩:=g0.form;obtain⟨h4,rfl⟩:=o0.ptr;obtain⟨i4,rfl,v2⟩:=q0.ptr;refine Ck [] Y ?_;refine Bl (fuel:=1) [] (Ci (FH 0 13)) rfl (Be rfl rfl ?_);replace c:=c.st t2;refine Bz (hc:=CH c 2 rfl) rfl rfl (AM rfl rfl (En rfl rfl (Be rfl rfl (Be rfl rfl (Bz (hc:=CH j0 3 rfl) rfl rfl (AM rfl rfl ?_))))));obtain⟨j4,g2,f0⟩:=bs f0;obtain⟨Z,i2⟩:=Cn g2;obtain⟨k4,l4,w2,l1,m1,n1,o1,m4,n4,rfl,j2,k2,o4,p4⟩:=g0.elem i2;obtain⟨q4,r4,rfl⟩:=j2.form;obtain⟨s4,t4,rfl⟩:=k2.form;refine CX (hA:=l1) (hj:=Z) (hlt:=n1) rfl rfl rfl (Be rfl rfl (Bz (hc:=λw' ⟨b,hq⟩=>cat1 (DD (hq.agree (i:=0) (by decide)) m1 o1)) rfl rfl ?_));obtain⟨u4,p1,f0⟩:=bs f0;have l2:=(Bh p1);refine Jh (he:=p1) rfl rfl rfl (Be rfl rfl (AP (Bo (i:=13) rfl ?_)));refine AR c rfl rfl rfl (Bg) (allOne) λv4 f c=>?_;refine Gn (Dv ?_);replace j0:=j0.st f;replace k0:=k0.st f;replace m0:=m0.st f;replace n0:=n0.st f;replace g0:=g0.st f;replace o0:=o0.st f;replace q0:=q0.st f;obtain⟨w4,q1,y2,z2,m2⟩:=Spc.shut (x:=g) (l0:=2) (by decide) j0 k0 m0 n0 g0 o0 q0;obtain rfl:=sm f0;have I:=(t2.an f).an q1;exact show Exists _ from⟨_,(),rfl,Af,_,d.st I,m2,a.st I,c.st q1,d0.st I,l2⟩
 rintro x4 y4 ⟨J,z4,rfl,r1,a5,d,b1,a,c,d0,s2⟩;replace hm:=AW hm;refine AQ _ r1 ?_;refine Aj (Ae (BE (hl:=rfl) (hc:=(c.1).cellsAt) rfl ?_));refine AR a rfl rfl rfl (Bg) (allOne) λb5 K a=>?_;refine Au rfl (o_z (AD ?_));obtain rfl:=sm hm;replace d:=d.st K;obtain⟨b,hS',hz,hl⟩:=hE.leave (λq=>if q=2 then p else 0) rfl d;replace d0:=d0.st K;replace b1:=b1.st K;exact X3 rfl (CC (cs:=[(.int .i64 1),(.slice s e.1.length h1),(.int .i64 J),(.int .i64 h)]) rfl rfl a.1.cellsAt) (AC rfl) ⟨b,hS',_,_,(Ob.leave b1 hz (hl 2 (by decide) (by decide)) y.2),rfl,(Vb.mono (Vb.ofAgg (cs:=[(.int .i64 1),(.slice s e.1.length h1),(.int .i64 J),(.int .i64 h)]) (x:=(⟨1,e.1,J,h⟩:Rsl)) rfl ⟨_,rfl,d0,(W3 1),s2,D⟩) hz),(vErr (W3 0))⟩
noncomputable def DI(a:Int)(b:Int):Option (Rsl×Err) :=
  some ((⟨a,([]:List Int),0,b⟩:Rsl),(⟨0⟩:Err))
section
attribute [local irreducible] Vb Lc Rw Ob
theorem HJ{w:World}{A:Nat->Prop}(hA:∀k,A k->k<w.heap.size){a:Int}(c:W1 a){b:Int}(d:W1 b){r:Rsl×Err}(hm:DI a b=some r) :
    Fn prog 39 [(.int .i64 a),(.int .i64 b)] w λv w'=>Ext w w'/\T2 w' (upA A w w') v r:=by
 obtain⟨_,_,_⟩:=Db hA;refine AG func39 rfl ntmps39 ?_;unfold DI at hm;refine Aj (Ae (Cv 2 ?_));intros;refine Au rfl (o_z (Aj (Ae (Ar rfl (Ar rfl (CK rfl rfl ?_))))));refine BW ?_;intros;refine Au rfl (o_z (AD ?_));obtain rfl:=sm hm;exact Ge
end
noncomputable def CV(K:Tsk)(P:Int):Option (Rsl×Err) :=
  bnd (FE K) λs=>if s.2.n≠0 then(some ((⟨0,([]:List Int),0,0⟩:Rsl),(⟨s.2.n⟩:Err)))else(bnd s.1 λL=>bnd (lop (ρ:=Rsl×Err) (λ(b:(List Int)×(List Bool)×Int×Int×Spc×(BxR 104 102 Itm))=>bnd (Co b.2.2.2.2.2.l) λv=>if 0<v then(bnd (Ed b.2.2.2.2.2) λd=>bnd (atI b.2.1 d.1.x.id) λw=>if w=true then(some (.next (b.1,b.2.1,b.2.2.1,b.2.2.2.1,b.2.2.2.2.1,d.2)))else(bnd (DA b.2.2.2.2.1.reg d.1.x.id) λg=>if g.2.n≠0 then(some (.ret ((⟨0,([]:List Int),0,0⟩:Rsl),(⟨g.2.n⟩:Err))))else(bnd (DJ K.goal g.1) λy=>if y=true then bnd (DN b.2.2.2.2.1 d.1.x.id b.2.2.2.1) λm=>some (.ret (m.1,(⟨m.2.n⟩:Err)))else if P<=b.2.2.2.1 then(bnd (DI 3 b.2.2.2.1) λo=>some (.ret (o.1,(⟨o.2.n⟩:Err))))else(bnd (atI b.2.1 d.1.x.id) λM=>bnd (W5 (b.2.2.2.1+1)) λp=>bnd (Cg b.2.2.2.2.1.gen g.1) λz=>bnd (rng (ρ:=Ctl ((List Int)×(List Bool)×Int×Int×Spc×(BxR 104 102 Itm)) (Rsl×Err)) (λ(N:Nat)(h:Suc)(a:(List Int)×(List Bool)×Int×Spc×(BxR 104 102 Itm))=>bnd (CN a.2.2.2.1.reg h.state) λc=>if c.2.2.1.n≠0 then(bnd (DI 3 p) λq=>some (.ret (.ret (q.1,(⟨q.2.n⟩:Err)))))else(bnd (atI K.ops h.op) λA=>bnd (W5 (d.1.x.cost+A.cost)) λe=>bnd (if c.2.1=true then(bnd (X6 8 a.1 [e]) λB=>bnd (X6 1 a.2.1 [false]) λC=>some (.done (B,C)))else(bnd (bnd (atI a.2.1 c.1) λD=>if D=true then(some true)else(bnd (atI a.1 c.1) λE=>if E<=e then(some true)else(some false)):Option Bool) λF=>if F=true then(some (.ret (.next (a.1,a.2.1,a.2.2.1,(⟨(⟨a.2.2.2.1.t.vars,a.2.2.2.1.t.init,a.2.2.2.1.t.goal,a.2.2.2.1.t.ops⟩:Tsk),c.2.2.2,a.2.2.2.1.gen⟩:Spc),a.2.2.2.2))))else(some (.done (a.1,a.2.1)))):Option (Fin ((List Int)×(List Bool)) (Ctl ((List Int)×(List Bool)×Int×Spc×(BxR 104 102 Itm)) (Ctl ((List Int)×(List Bool)×Int×Int×Spc×(BxR 104 102 Itm)) (Rsl×Err))))) λG=>fin G λ(i:(List Int)×(List Bool))=>bnd (atI i.1 c.1) λO=>bnd (Dm ((⟨(⟨a.2.2.2.1.t.vars,a.2.2.2.1.t.init,a.2.2.2.1.t.goal,a.2.2.2.1.t.ops⟩:Tsk),c.2.2.2,a.2.2.2.1.gen⟩:Spc).reg) c.1 d.1.x.id h.op e) λj=>if j.1.n≠0 then(some (.ret (.ret ((⟨0,([]:List Int),0,0⟩:Rsl),(⟨j.1.n⟩:Err)))))else(bnd (DQ a.2.2.2.2 (⟨(⟨e,a.2.2.1,c.1⟩:Itm)⟩:An 102 Itm)) λH=>bnd (W5 (a.2.2.1+1)) λI=>some (.next ((i.1.set (c.1:Int).toNat e),i.2,I,(⟨(⟨(⟨(⟨a.2.2.2.1.t.vars,a.2.2.2.1.t.init,a.2.2.2.1.t.goal,a.2.2.2.1.t.ops⟩:Tsk),c.2.2.2,a.2.2.2.1.gen⟩:Spc).t.vars,(⟨(⟨a.2.2.2.1.t.vars,a.2.2.2.1.t.init,a.2.2.2.1.t.goal,a.2.2.2.1.t.ops⟩:Tsk),c.2.2.2,a.2.2.2.1.gen⟩:Spc).t.init,(⟨(⟨a.2.2.2.1.t.vars,a.2.2.2.1.t.init,a.2.2.2.1.t.goal,a.2.2.2.1.t.ops⟩:Tsk),c.2.2.2,a.2.2.2.1.gen⟩:Spc).t.goal,(⟨(⟨a.2.2.2.1.t.vars,a.2.2.2.1.t.init,a.2.2.2.1.t.goal,a.2.2.2.1.t.ops⟩:Tsk),c.2.2.2,a.2.2.2.1.gen⟩:Spc).t.ops⟩:Tsk),j.2,(⟨(⟨a.2.2.2.1.t.vars,a.2.2.2.1.t.init,a.2.2.2.1.t.goal,a.2.2.2.1.t.ops⟩:Tsk),c.2.2.2,a.2.2.2.1.gen⟩:Spc).gen⟩:Spc),H))))) z 0 (b.1,(b.2.1.set (d.1.x.id:Int).toNat true),b.2.2.1,b.2.2.2.2.1,d.2)) λk=>fin k λ(f:(List Int)×(List Bool)×Int×Spc×(BxR 104 102 Itm))=>some (.next (f.1,f.2.1,f.2.2.1,p,f.2.2.2.1,f.2.2.2.2))))))else(some (.brk (b.1,b.2.1,b.2.2.1,b.2.2.2.1,b.2.2.2.2.1,b.2.2.2.2.2)))) (([0]:List Int),[false],1,0,L,(⟨[(⟨0,0,0⟩:Itm)]⟩:BxR 104 102 Itm))) λu=>fin u λ(J:(List Int)×(List Bool)×Int×Int×Spc×(BxR 104 102 Itm))=>bnd (DI 2 J.2.2.2.1) λr=>some (r.1,(⟨r.2.n⟩:Err)))
theorem Jc{w:World}{A:Nat→Prop}(hA:∀k,A k→k<w.heap.size){vx0:Value}{x0:Tsk}(vD:Vb w A vx0 x0){x1:Int}(rx1:W1 x1){r:Rsl×Err}(hm:CV x0 x1=some r) :
    Fn prog 15 [vx0,(.int .i64 x1)] w λv w'=>Ext w w'/\T2 w' (upA A w w') v r:=by
 obtain⟨O,hB,dN⟩:=enter hA;obtain⟨eN,rfl,v4,v5,v6,v7,rfl,h8,pF,wD,xD⟩:=id vD;obtain⟨A9,i8,rfl⟩:=h8.form;obtain⟨j8,k8,rfl⟩:=pF.form;obtain⟨l8,m8,rfl⟩:=wD.form;obtain⟨n8,o8,rfl⟩:=xD.form;refine AG func15 rfl ntmps15 ?_;unfold CV at hm;refine Aj (Ae (Ea 2 O rfl λq4 fN qF rF y0=>?_));refine BL 3 qF λv3 gN sF yD f0=>?_;refine Au rfl (o_z (Aj (Ae ?_)));replace y0:=y0.st yD;refine BE (hl:=rfl) (hc:=(y0.1).cellsAt) rfl ?_;obtain⟨hN,tF,hm⟩:=bs hm;replace hB:=(hB.st rF).st yD;refine BM (O:=sF) (OA (vD.zs hA hB) 4 (by decide) tF) rfl λiN jN zD p8 uF=>?_;obtain⟨kN,lN,rfl,b5,vF⟩:=uF;obtain⟨rfl,wF⟩:=vF.err;refine Ar rfl (AZ rfl rfl (AZ rfl rfl (Au rfl (Au rfl (o_z (Aj (Aj (Ae (Ar rfl (Cy rfl (λt8=>?_) λt8=>?_))))))))))
 ·replace hm:=ip hm t8;refine o_z (Am rfl (Aj (Ae (CK rfl rfl ?_))));refine ac ?_;replace f0:=f0.st p8;refine AR f0 rfl rfl rfl (Bg) (allOne) λxF yF f0=>?_;refine Au rfl (o_z (AD ?_));obtain rfl:=sm hm;replace hB:=(hB.st p8).st yF;exact X3 rfl (CC (cs:=[(.int .i64 0),(.slice none 0 0),(.int .i64 0),(.int .i64 0)]) rfl rfl f0.1.cellsAt) (AC rfl) ⟨hB.ext,_,_,rfl,(Vb.mono (F:=Fr 0 xF zD) (Vb.ofAgg (cs:=[(.int .i64 0),(.slice none 0 0),(.int .i64 0),(.int .i64 0)]) (x:=(⟨0,([]:List Int),0,0⟩:Rsl)) rfl ⟨_,rfl,(Vb.nil _ _),(W3 0),(W3 0),(W3 0)⟩) hB.out),(vErr wF)⟩
 replace hm:=im hm t8;refine o_z (Ah rfl (AE (Aj (Ae ?_))));refine CW 5 zD (xs:=(([0]:List Int):List Int)) rfl rfl rfl ⟨(vInt (W3 0)),trivial⟩ λzF mN aG u8 v8=>?_;refine CW 6 aG (xs:=([false]:List Bool)) rfl rfl rfl ⟨vBool,trivial⟩ λbG nN cG q8 w8=>?_;refine Au rfl (Au rfl (o_z (Aj (Ae (CK rfl rfl ?_)))));refine CW 7 cG (xs:=([(⟨0,0,0⟩:Itm)]:List Itm)) rfl rfl rfl ⟨(Vb.ofAgg (cs:=[(.int .i64 0),(.int .i64 0),(.int .i64 0)]) (x:=(⟨0,0,0⟩:Itm)) rfl ⟨rfl,(W3 0),(W3 0),(W3 0)⟩),trivial⟩ λoN pN dG w5 x8=>?_;refine Ea 8 dG rfl λr4 qN rN u5 eG=>?_;refine Au rfl (o_z (Aj (Ae (Au rfl (Au rfl (o_z (Aj ?_)))))));obtain⟨sN,fG,hm⟩:=bs hm;replace b5:=(((b5.st u8).st q8).st w5).st u5;rw[fG]at b5;obtain⟨s4,rfl⟩:=Ob.ptr b5;replace x8:=x8.st u5;obtain⟨gG,x5,hG,iG,jG⟩:=BxR.shut (x:=(⟨[(⟨0,0,0⟩:Itm)]⟩:BxR 104 102 Itm)) (l0:=8) (by decide) eG x8;obtain⟨y5,y8,hm⟩:=bs hm;refine Bc (aft y5 (λ(h1:(List Int)×(List Bool)×Int×Int×Spc×(BxR 104 102 Itm))(m1:(Option Addr×Nat)×(Option Addr×Nat))=>[(4,(.pointer (some ⟨v3,0,none⟩))),(12,(.int .i64 h1.2.2.2.1))]) (λh1 m1 w'=>∃O':Lab,Bs w A w' O'/\Lc 3 w' O' v3 32 [(.int .i64 0),(.slice none 0 0),(.int .i64 0),(.int .i64 0)]/\W1 h1.2.2.1/\W1 h1.2.2.2.1)) ?_ ?_
 ·refine BC ?_;have l3:=((((p8.an u8).an q8).an w5).an u5).an x5;replace hB:=hB.st l3;replace y0:=y0.st l3;replace f0:=f0.st l3;replace b5:=b5.st x5;replace v8:=(((v8.st q8).st w5).st u5).st x5;replace w8:=((w8.st w5).st u5).st x5;refine GB (σ:=(List Int)×(List Bool)×Int×Int×Spc×(BxR 104 102 Itm)) (X:=(Option Addr×Nat)×(Option Addr×Nat)) y8 (λ(h1:(List Int)×(List Bool)×Int×Int×Spc×(BxR 104 102 Itm))(m1:(Option Addr×Nat)×(Option Addr×Nat))=>[(1,(.int .i64 x1)),(2,(.pointer (some ⟨q4,0,none⟩))),(4,(.pointer (some ⟨v3,0,none⟩))),(6,(.pointer (some ⟨s4,0,none⟩))),(8,(.slice m1.1.1 h1.1.length m1.1.2)),(9,(.slice m1.2.1 h1.2.1.length m1.2.2)),(10,(.pointer (some ⟨r4,0,none⟩))),(11,(.int .i64 h1.2.2.1)),(12,(.int .i64 h1.2.2.2.1))]) _ (λh1 m1 w'=>∃O':Lab,Bs w A w' O'/\Lc 2 w' O' q4 26 [(.slice A9 x0.vars.length i8),(.slice j8 x0.init.length k8),(.slice l8 x0.goal.length m8),(.slice n8 x0.ops.length o8)]/\Lc 3 w' O' v3 32 [(.int .i64 0),(.slice none 0 0),(.int .i64 0),(.int .i64 0)]/\Ob 4 w' O' (.pointer (some ⟨s4,0,none⟩)) h1.2.2.2.2.1/\Rw 5 w' O' 3 (.slice m1.1.1 h1.1.length m1.1.2) h1.1/\Rw 6 w' O' 4 (.slice m1.2.1 h1.2.1.length m1.2.2) h1.2.1/\Ob 8 w' O' (.pointer (some ⟨r4,0,none⟩)) h1.2.2.2.2.2/\W1 h1.2.2.1/\W1 h1.2.2.2.1) _ (((some ⟨zF,0,none⟩),1),((some ⟨bG,0,none⟩),1)) ⟨gG,hB,y0,f0,b5,v8,w8,jG,(W3 1),(W3 0)⟩ D5 ?_;rintro h1 m1 tN kG ⟨uN,hB,y0,f0,w3,r8,i1,z8,x3,b3⟩ b0 n1 c5;refine Aj (Aj (Ae (Ar rfl (Cm rfl ?_))));obtain⟨a9,lG,o1,aE,o2,g2⟩:=BxR.opn z8 8 9 (by decide);obtain⟨mG,nG,rfl⟩:=g2.form;refine AL (hc:=Blk.cell (i:=0) (o2.1) rfl) rfl ?_;obtain⟨oG,b9,b0⟩:=bs b0;refine BO (O:=a9) (Ha (λ_ h=>h) (g2).all b9) rfl λpG qG rG v0 c9=>?_;obtain⟨rfl,sG⟩:=c9.int;refine Cq rfl rfl (λd5=>?_) λd5=>?_
  ·replace b0:=ip b0 d5;refine o_z (Am rfl (AE (BC (Aj (Ae (Ar rfl (Ki rfl ?_)))))));replace o2:=o2.st v0;replace g2:=g2.st v0;obtain⟨d9,p1,bE,cE,e9⟩:=BxR.shut (x:=h1.2.2.2.2.2) (l0:=8) (by decide) o2 g2;obtain⟨q1,f9,b0⟩:=bs b0;refine BM (O:=d9) (Lk e9 f9) rfl λtG uG g9 r1 h9=>?_;obtain⟨y3,i9⟩:=h9;obtain⟨vG,rfl,j9⟩:=i9.any;obtain⟨dE,rfl,rfl,wG,xG,e5⟩:=j9;refine Qg rfl rfl (Ar rfl (AZ rfl rfl (AZ rfl rfl ?_)));refine BL 10 g9 λc3 yG zG j1 e0=>?_;refine AR e0 rfl rfl rfl (Bg) (allOne) λaH k1 e0=>?_;refine Au rfl (o_z (Aj (Aj (Ae (Ar rfl (AJ rfl (AL (hc:=Blk.cell (i:=2) (e0.1) rfl) rfl ?_)))))));obtain⟨bH,k9,b0⟩:=bs b0;obtain⟨l9,m9⟩:=Cn k9;replace i1:=(((((i1.st o1).st v0).st p1).st r1).st j1).st k1;obtain⟨cH,dH,eE,z5,a6,b6,rfl⟩:=i1.elem m9;refine BA (hA:=z5) (hj:=l9) (hlt:=a6) rfl rfl (AL (hc:=cat0 b6) rfl (o_z (Bx rfl (λf5=>?_) (λf5=>?_))))
   ·replace b0:=ip b0 f5;refine Cl ?_;obtain rfl:=sm b0;have h2:=((((o1.an v0).an p1).an r1).an j1).an k1;exact show Exists _ from⟨_,((m1.1.1,m1.1.2),(m1.2.1,m1.2.2)),rfl,D5,_,hB.st h2,y0.st h2,f0.st h2,w3.st h2,r8.st h2,i1,(y3.st j1).st k1,x3,b3⟩
   replace b0:=im' b0 f5;refine AE (Aj ?_);replace w3:=(((((w3.st o1).st v0).st p1).st r1).st j1).st k1;obtain⟨c6,eH,fH,gH,hH,iH,jH,s1,fE,t1,p2,q2,r2,s2,d6,u1⟩:=Spc.opn w3 4 11 (by decide);obtain⟨kH,lH,rfl⟩:=p2.form;obtain⟨mH,nH,rfl⟩:=q2.form;obtain⟨oH,pH,rfl⟩:=r2.form;obtain⟨qH,rH,rfl⟩:=s2.form;obtain⟨sH,rfl⟩:=d6.ptr;obtain⟨tH,rfl,gE⟩:=u1.ptr;refine Ck [(6,[11])] c6 ?_;refine Bl (fuel:=6) [] (Ci (FH 0 6)) rfl (AM rfl rfl (En rfl rfl (Be rfl rfl (Bz (hc:=CH t1 4 rfl) rfl rfl (Be rfl rfl ?_)))));replace e0:=e0.st s1;refine Bz (hc:=CH e0 2 rfl) rfl rfl (AP (Bo (i:=6) rfl ?_));obtain⟨uH,n9,b0⟩:=bs b0;refine BM (O:=c6) (Jl d6 e5 n9) rfl λvH o9 g5 r0 p9=>?_;obtain⟨wH,xH,d3,rfl,m3,q9⟩:=p9;obtain⟨yH,zH,rfl⟩:=m3.form;obtain⟨rfl,r9⟩:=q9.err;have hZ:=r0.lst [11] (λ_ h=>by cases h;decide);refine CT [] hZ ?_;refine Bl (fuel:=0) [] (Ci (FH 7 5)) rfl (AM rfl rfl (IW rfl rfl rfl (IW rfl rfl rfl (CY rfl rfl (CY rfl rfl (AP (Dv (Aj (Aj (Ae (Ar rfl (Cy rfl (λh5=>?_) λh5=>?_))))))))))))
   ·replace b0:=ip b0 h5;refine o_z (Am rfl (Aj (Ae (CK rfl rfl ?_))));refine ac ?_;replace f0:=(((((((f0.st o1).st v0).st p1).st r1).st j1).st k1).st s1).st r0;refine AR f0 rfl rfl rfl (Bg) (allOne) λs9 t9 f0=>?_;refine Au rfl (o_z (AD ?_));obtain rfl:=sm b0;obtain rfl:=n1 _ rfl;obtain rfl:=sm (Bp hm);replace hB:=((((((((hB.st o1).st v0).st p1).st r1).st j1).st k1).st s1).st r0).st t9;exact X3 rfl (CC (cs:=[(.int .i64 0),(.slice none 0 0),(.int .i64 0),(.int .i64 0)]) rfl rfl f0.1.cellsAt) (AC rfl) ⟨hB.ext,_,_,rfl,(Vb.mono (F:=Fr 0 s9 g5) (Vb.ofAgg (cs:=[(.int .i64 0),(.slice none 0 0),(.int .i64 0),(.int .i64 0)]) (x:=(⟨0,([]:List Int),0,0⟩:Rsl)) rfl ⟨_,rfl,(Vb.nil _ _),(W3 0),(W3 0),(W3 0)⟩) hB.out),(vErr r9)⟩
   replace b0:=im b0 h5;refine o_z (Ah rfl (AE (Aj (Aj (Ae (AJ rfl ?_))))));replace y0:=(((((((y0.st o1).st v0).st p1).st r1).st j1).st k1).st s1).st r0;refine AL (hc:=Blk.cell (i:=2) (y0.1) rfl) rfl (Ar rfl ?_);obtain⟨u9,v9,b0⟩:=bs b0;replace hB:=(((((((hB.st o1).st v0).st p1).st r1).st j1).st k1).st s1).st r0;refine BO (O:=g5) (FX (λ_ h=>h) (Vb.mono (F:=Fr 0 o9 g5) (wD.zs hA hB) Fr.lt) (vMo m3) v9) rfl λaI bI e6 m0 w9=>?_;obtain rfl:=w9.bool;cases u9
   case false =>
    replace b0:=iF b0;refine o_z (Ah rfl (AE (Aj (Aj (Ae (Ar rfl (Ar rfl (Es rfl rfl (λi5=>?_) λi5=>?_))))))))
    ·replace b0:=ip b0 i5;refine o_z (Am rfl (Aj (Ae (Ar rfl ?_))));obtain⟨v1,x9,b0⟩:=bs b0;refine Ey (O:=e6) (R:=λw' F v=>T2 w' F v v1) (HJ Fr.lt (W3 3) b3 x9) rfl λcI dI y9 f6 z9=>?_;obtain⟨eI,fI,rfl,aA,bA⟩:=z9;obtain⟨hE,rfl,gI,rfl,z3,cA,dA,eA⟩:=aA;obtain⟨g6,h6,rfl⟩:=z3.form;obtain⟨rfl,fA⟩:=bA.err;refine AZ rfl rfl (AZ rfl rfl ?_);replace f0:=(((((((((f0.st o1).st v0).st p1).st r1).st j1).st k1).st s1).st r0).st m0).st f6;refine AR f0 rfl rfl rfl (Bg) (allOne) λgA i6 f0=>?_;refine Au rfl (o_z (AD ?_));obtain rfl:=sm b0;obtain rfl:=n1 _ rfl;obtain rfl:=sm (Bp hm);replace hB:=((hB.st m0).st f6).st i6;replace z3:=z3.st i6;exact X3 rfl (CC (cs:=[(.int .i64 v1.1.verdict),(.slice g6 v1.1.plan.length h6),(.int .i64 v1.1.cost),(.int .i64 v1.1.expanded)]) rfl rfl f0.1.cellsAt) (AC rfl) ⟨hB.ext,_,_,rfl,(Vb.mono (F:=Fr 0 gA y9) (Vb.ofAgg (cs:=[(.int .i64 v1.1.verdict),(.slice g6 v1.1.plan.length h6),(.int .i64 v1.1.cost),(.int .i64 v1.1.expanded)]) (x:=v1.1) rfl ⟨_,rfl,z3,cA,dA,eA⟩) hB.out),(vErr fA)⟩
    replace b0:=im b0 i5;refine o_z (Ah rfl (AE (Aj (Ae (Ar rfl (AJ rfl ?_))))));replace e0:=(e0.st r0).st m0;refine AL (hc:=Blk.cell (i:=2) (e0.1) rfl) rfl ?_;obtain⟨hI,iA,b0⟩:=bs b0;obtain⟨jA,j6⟩:=Cn iA;replace i1:=((i1.st s1).st r0).st m0;obtain⟨iI,jI,iE,t4,k6,jE,rfl⟩:=i1.elem j6;refine BA (hA:=t4) (hj:=jA) (hlt:=k6) rfl rfl ?_;refine Fe rfl i1 (a:=true) vBool t4 rfl rfl (AF j6) λkI d2 i1=>?_;refine o_z (Aj (Ae (Ar rfl ?_)));obtain⟨j5,l6,b0⟩:=bs b0;have m6:=(Bh l6);refine DM (he:=l6) rfl rfl (Au rfl (o_z (Aj (Ae (Ar rfl (Cm rfl (AJ rfl ?_)))))));replace t1:=((t1.st r0).st m0).st d2;refine AL (hc:=Blk.cell (i:=5) (t1.1) rfl) rfl (Ar rfl ?_);obtain⟨l1,kA,b0⟩:=bs b0;replace u1:=((u1.st r0).st m0).st d2;replace m3:=(m3.st m0).st d2;refine Sd (O:=e6) (Ig Fr.lt u1 m3 kA) rfl rfl λlI mI nI e2 j0=>?_;obtain⟨e3,f3,rfl⟩:=j0.form;refine AO rfl ?_;have k5:=Bj j0.len;have oI:=rngNat k5;refine Ar rfl (o_z ?_);have x2:=((r0.an m0).an d2).an e2;replace t1:=t1.st e2;replace p2:=p2.st x2;replace q2:=q2.st x2;replace r2:=r2.st x2;replace s2:=s2.st x2;replace u1:=u1.st e2;replace d3:=((d3.st m0).st d2).st e2;obtain⟨lA,g3,kE,lE,mA⟩:=Spc.shut (x:=h1.2.2.2.2.1) (l0:=4) (by decide) t1 p2 q2 r2 s2 d3 u1;obtain⟨nA,n6,b0⟩:=bs b0;have u4:=((m0.an d2).an e2).an g3;have w4:=((((((((((o1.an v0).an p1).an r1).an j1).an k1).an s1).an r0).an m0).an d2).an e2).an g3;replace hB:=hB.st u4;replace y0:=y0.st u4;replace f0:=f0.st w4;replace r8:=r8.st w4;replace i1:=(i1.st e2).st g3;replace y3:=(((((((y3.st j1).st k1).st s1).st r0).st m0).st d2).st e2).st g3;replace e0:=((e0.st d2).st e2).st g3;replace j0:=j0.st g3;refine Dg (X:=(Option Addr×Nat)×(Option Addr×Nat)) (l1.length) n6 rfl k5 (λa0 g0=>[(1,(.int .i64 x1)),(2,(.pointer (some ⟨q4,0,none⟩))),(4,(.pointer (some ⟨v3,0,none⟩))),(6,(.pointer (some ⟨s4,0,none⟩))),(8,(.slice g0.1.1 a0.1.length g0.1.2)),(9,(.slice g0.2.1 a0.2.1.length g0.2.2)),(10,(.pointer (some ⟨r4,0,none⟩))),(11,(.int .i64 a0.2.2.1)),(12,(.int .i64 j5)),(13,(.pointer (some ⟨c3,0,none⟩))),(98,(.slice e3 l1.length f3))]) (λa0 g0 w'=>∃O':Lab,Bs w A w' O'/\Lc 2 w' O' q4 26 [(.slice A9 x0.vars.length i8),(.slice j8 x0.init.length k8),(.slice l8 x0.goal.length m8),(.slice n8 x0.ops.length o8)]/\Lc 3 w' O' v3 32 [(.int .i64 0),(.slice none 0 0),(.int .i64 0),(.int .i64 0)]/\Ob 4 w' O' (.pointer (some ⟨s4,0,none⟩)) a0.2.2.2.1/\Rw 5 w' O' 3 (.slice g0.1.1 a0.1.length g0.1.2) a0.1/\Rw 6 w' O' 4 (.slice g0.2.1 a0.2.1.length g0.2.2) a0.2.1/\Ob 8 w' O' (.pointer (some ⟨r4,0,none⟩)) a0.2.2.2.2/\Lc 10 w' O' c3 102 [(.int .i64 q1.1.x.cost),(.int .i64 q1.1.x.order),(.int .i64 q1.1.x.id)]/\Vb w' (Fr 0 w' O') (.slice e3 l1.length f3) l1/\W1 a0.2.2.1) ((m1.1.1,m1.1.2),(m1.2.1,m1.2.2)) ⟨lA,hB,y0,f0,mA,r8,i1.relen,y3,e0,j0,x3⟩ ⟨rfl,rfl,rfl,rfl,rfl,rfl,rfl,(congrArg (λn=>some (Value.slice _ n _)) ((by simp:(h1.2.1.set (q1.1.x.id:Int).toNat true).length=h1.2.1.length).trans rfl).symm),rfl,rfl,rfl,rfl,rfl,trivial⟩ (λ_ _=>rfl) ?_ ?_
    ·rintro o6 i2 a0 g0 pI mE x4 ⟨oA,hB,y0,f0,n3,s0,t0,n0,e0,j0,a4⟩ c0 y2 s8;have rk275:=YV x4 k5;refine Aj (Ae ?_);obtain⟨qI,rI,nE,p6,q6,r6,sI,rfl,w0,pA⟩:=j0.elem' x4;obtain⟨b4,c4,rfl⟩:=w0.form;refine BA (hA:=p6) (hj:=rfl) (hlt:=q6) rfl rfl (BE (hl:=rfl) (hc:=r6) rfl ?_);refine BL 12 oA λd4 tI uI o0 k0=>?_;refine AR k0 rfl rfl rfl (Bg) (allOne) λvI p0 k0=>?_;refine o_z (Aj ?_);replace n3:=(n3.st o0).st p0;obtain⟨s6,wI,xI,yI,zI,aJ,bJ,q0,oE,a1,b1,c1,d1,e1,t6,f1⟩:=Spc.opn n3 4 11 (by decide);obtain⟨cJ,dJ,rfl⟩:=b1.form;obtain⟨eJ,fJ,rfl⟩:=c1.form;obtain⟨gJ,hJ,rfl⟩:=d1.form;obtain⟨iJ,jJ,rfl⟩:=e1.form;obtain⟨kJ,rfl⟩:=t6.ptr;obtain⟨lJ,rfl,pE⟩:=f1.ptr;refine Ck [(6,[11])] s6 ?_;refine Bl (fuel:=8) [] (Ci (FH 0 6)) rfl (AM rfl rfl (En rfl rfl (Be rfl rfl (Bz (hc:=CH a1 4 rfl) rfl rfl (Be rfl rfl ?_)))));replace k0:=k0.st q0;refine Bz (hc:=CH k0 1 rfl) rfl rfl (AP (Bo (i:=6) rfl ?_));obtain⟨u0,qA,c0⟩:=bs c0;replace w0:=((w0.st o0).st p0).st q0;refine BM (O:=s6) (Hq t6 w0 qA) rfl λmJ rA sA d0 tA=>?_;obtain⟨nJ,oJ,pJ,h3,rfl,uA,vA,wA⟩:=tA;obtain⟨rfl,u6⟩:=uA.int;obtain rfl:=vA.bool;obtain⟨rfl,qJ⟩:=wA.err;have hZ:=d0.lst [11] (λ_ h=>by cases h;decide);refine CT [] hZ ?_;refine Bl (fuel:=0) [] (Ci (FH 7 7)) rfl (AM rfl rfl (IW rfl rfl rfl (IW rfl rfl rfl (IW rfl rfl rfl (CY rfl rfl (CY rfl rfl (CY rfl rfl (AP (Dv (Aj (Aj (Ae (Ar rfl (Cy rfl (λl5=>?_) λl5=>?_))))))))))))))
     ·replace c0:=ip c0 l5;refine o_z (Am rfl (Aj (Ae (Ar rfl ?_))));obtain⟨w1,xA,c0⟩:=bs c0;refine Ey (O:=sA) (R:=λw' F v=>T2 w' F v w1) (HJ Fr.lt (W3 3) m6 xA) rfl λrJ sJ yA w6 zA=>?_;obtain⟨tJ,uJ,rfl,aB,bB⟩:=zA;obtain⟨qE,rfl,vJ,rfl,e4,cB,dB,eB⟩:=aB;obtain⟨x6,y6,rfl⟩:=e4.form;obtain⟨rfl,fB⟩:=bB.err;refine AZ rfl rfl (AZ rfl rfl ?_);replace f0:=((((f0.st o0).st p0).st q0).st d0).st w6;refine AR f0 rfl rfl rfl (Bg) (allOne) λgB z6 f0=>?_;refine Au rfl (o_z (AD ?_));obtain rfl:=sm c0;obtain rfl:=y2 _ rfl;obtain rfl:=sm (Bp b0);obtain rfl:=n1 _ rfl;obtain rfl:=sm (Bp hm);replace hB:=(((((hB.st o0).st p0).st q0).st d0).st w6).st z6;replace e4:=e4.st z6;exact X3 rfl (CC (cs:=[(.int .i64 w1.1.verdict),(.slice x6 w1.1.plan.length y6),(.int .i64 w1.1.cost),(.int .i64 w1.1.expanded)]) rfl rfl f0.1.cellsAt) (AC rfl) ⟨hB.ext,_,_,rfl,(Vb.mono (F:=Fr 0 gB yA) (Vb.ofAgg (cs:=[(.int .i64 w1.1.verdict),(.slice x6 w1.1.plan.length y6),(.int .i64 w1.1.cost),(.int .i64 w1.1.expanded)]) (x:=w1.1) rfl ⟨_,rfl,e4,cB,dB,eB⟩) hB.out),(vErr fB)⟩
     replace c0:=im c0 l5;refine o_z (Ah rfl (AE (Aj ?_)));refine Ct (·=rA) [(0,true),(1,true),(2,true),(3,true),(4,true),(5,true),(6,true),(7,true),(8,true),(9,true),(10,true)] rfl rfl ?_;refine Be rfl rfl ?_;replace e0:=(((e0.st o0).st p0).st q0).st d0;refine Du (hc:=Blk.cell (i:=0) (e0.1) rfl) rfl rfl (Be rfl rfl ?_);replace y0:=(((y0.st o0).st p0).st q0).st d0;refine Du (hc:=Blk.cell (i:=3) (y0.1) rfl) rfl rfl (Be rfl rfl ?_);replace k0:=k0.st d0;refine Du (hc:=Blk.cell (i:=0) (k0.1) rfl) rfl rfl ?_;obtain⟨wJ,iB,c0⟩:=bs c0;obtain⟨jB,kB⟩:=Cn iB;replace hB:=(((hB.st o0).st p0).st q0).st d0;obtain⟨xJ,yJ,rE,a7,b7,c7,zJ,aK,rfl,lB,mB,bK,cK⟩:=(xD.zs hA hB).elem' kB;obtain⟨dK,eK,rfl⟩:=lB.form;obtain⟨fK,gK,rfl⟩:=mB.form;refine CX (hA:=a7) (hj:=jB) (hlt:=b7) rfl rfl rfl (Be rfl rfl (Du (hc:=cat1 c7) rfl rfl ?_));obtain⟨t2,d7,c0⟩:=bs c0;have f4:=(Bh d7);refine Jh (he:=d7) rfl rfl rfl (CY rfl rfl (h_z (Aj ?_)));obtain⟨nB,h0,c0⟩:=bs c0;refine Bc (λl' w'=>∃(y1:(List Int)×(List Bool)) (g1:(Option Addr×Nat)×(Option Addr×Nat)) (O':Lab),nB=.done y1/\W4 l' [(1,(.int .i64 x1)),(2,(.pointer (some ⟨q4,0,none⟩))),(4,(.pointer (some ⟨v3,0,none⟩))),(6,(.pointer (some ⟨s4,0,none⟩))),(8,(.slice g1.1.1 y1.1.length g1.1.2)),(9,(.slice g1.2.1 y1.2.length g1.2.2)),(10,(.pointer (some ⟨r4,0,none⟩))),(11,(.int .i64 a0.2.2.1)),(12,(.int .i64 j5)),(13,(.pointer (some ⟨c3,0,none⟩))),(18,(.pointer (some ⟨d4,0,none⟩))),(19,(.int .i64 u0.1)),(22,(.int .i64 t2)),(98,(.slice e3 l1.length f3)),(99,(.int .i64 (l1.length:Int))),(100,(.int .i64 (o6:Int)))]/\Bs w A w' O'/\Lc 2 w' O' q4 26 [(.slice A9 x0.vars.length i8),(.slice j8 x0.init.length k8),(.slice l8 x0.goal.length m8),(.slice n8 x0.ops.length o8)]/\Lc 3 w' O' v3 32 [(.int .i64 0),(.slice none 0 0),(.int .i64 0),(.int .i64 0)]/\Ob 4 w' O' (.pointer (some ⟨s4,0,none⟩)) (⟨(⟨a0.2.2.2.1.t.vars,a0.2.2.2.1.t.init,a0.2.2.2.1.t.goal,a0.2.2.2.1.t.ops⟩:Tsk),u0.2.2.2,a0.2.2.2.1.gen⟩:Spc)/\Rw 5 w' O' 3 (.slice g1.1.1 y1.1.length g1.1.2) y1.1/\Rw 6 w' O' 4 (.slice g1.2.1 y1.2.length g1.2.2) y1.2/\Ob 8 w' O' (.pointer (some ⟨r4,0,none⟩)) a0.2.2.2.2/\Lc 10 w' O' c3 102 [(.int .i64 q1.1.x.cost),(.int .i64 q1.1.x.order),(.int .i64 q1.1.x.id)]/\Lc 12 w' O' d4 115 [(.int .i64 i2.op),(.slice b4 i2.state.length c4)]/\Vb w' (Fr 0 w' O') (.slice b4 i2.state.length c4) i2.state/\Vb w' (Fr 0 w' O') (.slice e3 l1.length f3) l1) ?_ ?_
     ·refine Aj (Ae (Ar rfl (o_z (Bx rfl (λm5=>?_) (λm5=>?_)))))
      ·replace h0:=ip h0 m5;refine Ae (Ar rfl (Ar rfl ?_));obtain⟨hK,n5,h0⟩:=bs h0;obtain⟨n5,oB,pB⟩:=Bw n5;replace s0:=(((s0.st o0).st p0).st q0).st d0;refine Dl rfl (a:=t2) s0 (vInt f4) (λ_=>rfl) rfl oB pB ⟨rfl,rfl⟩ λiK qB rB jK kK i3 e7=>?_;rw[<- n5]at e7 ⊢;refine ac ?_;obtain⟨lK,o5,h0⟩:=bs h0;obtain⟨o5,sB,tB⟩:=Bw o5;replace t0:=((((t0.st o0).st p0).st q0).st d0).st i3;refine Dl rfl (a:=false) t0 vBool (λ_=>rfl) rfl sB tB ⟨rfl,rfl⟩ λmK uB vB nK oK j3 f7=>?_;rw[<- o5]at f7 ⊢;refine Au rfl (Au rfl (o_z ?_));have a2:=(d0.an i3).an j3;replace a1:=a1.st a2;replace b1:=b1.st a2;replace c1:=c1.st a2;replace d1:=d1.st a2;replace e1:=e1.st a2;replace f1:=f1.st a2;replace h3:=(h3.st i3).st j3;obtain⟨pK,o3,sE,tE,wB⟩:=Spc.shut (x:=(⟨(⟨a0.2.2.2.1.t.vars,a0.2.2.2.1.t.init,a0.2.2.2.1.t.goal,a0.2.2.2.1.t.ops⟩:Tsk),u0.2.2.2,a0.2.2.2.1.gen⟩:Spc)) (l0:=4) (by decide) a1 b1 c1 d1 e1 h3 f1;obtain rfl:=sm h0;have z2:=(i3.an j3).an o3;have p3:=(((((o0.an p0).an q0).an d0).an i3).an j3).an o3;exact⟨_,((qB,rB),(uB,vB)),_,rfl,⟨rfl,rfl,rfl,rfl,rfl,rfl,rfl,rfl,rfl,rfl,rfl,rfl,rfl,rfl,rfl,rfl,trivial⟩,hB.st z2,y0.st z2,f0.st p3,wB,(e7.st j3).st o3,f7.st o3,n0.st p3,e0.st z2,k0.st z2,(((w0.st d0).st i3).st j3).st o3,j0.st p3⟩
      replace h0:=im' h0 m5;refine Aj ?_;obtain⟨xB,i0,h0⟩:=bs h0;refine Bc (λl' w'=>∃(yB:Unit) (O':Lab),W4 l' [(1,(.int .i64 x1)),(2,(.pointer (some ⟨q4,0,none⟩))),(4,(.pointer (some ⟨v3,0,none⟩))),(6,(.pointer (some ⟨s4,0,none⟩))),(8,(.slice g0.1.1 a0.1.length g0.1.2)),(9,(.slice g0.2.1 a0.2.1.length g0.2.2)),(10,(.pointer (some ⟨r4,0,none⟩))),(11,(.int .i64 a0.2.2.1)),(12,(.int .i64 j5)),(13,(.pointer (some ⟨c3,0,none⟩))),(18,(.pointer (some ⟨d4,0,none⟩))),(19,(.int .i64 u0.1)),(22,(.int .i64 t2)),(98,(.slice e3 l1.length f3)),(99,(.int .i64 (l1.length:Int))),(100,(.int .i64 (o6:Int))),(150,(.bool xB))]/\Bs w A w' O'/\Lc 2 w' O' q4 26 [(.slice A9 x0.vars.length i8),(.slice j8 x0.init.length k8),(.slice l8 x0.goal.length m8),(.slice n8 x0.ops.length o8)]/\Lc 3 w' O' v3 32 [(.int .i64 0),(.slice none 0 0),(.int .i64 0),(.int .i64 0)]/\Ob 4 w' O' (.pointer (some ⟨s4,0,none⟩)) (⟨(⟨a0.2.2.2.1.t.vars,a0.2.2.2.1.t.init,a0.2.2.2.1.t.goal,a0.2.2.2.1.t.ops⟩:Tsk),u0.2.2.2,a0.2.2.2.1.gen⟩:Spc)/\Rw 5 w' O' 3 (.slice g0.1.1 a0.1.length g0.1.2) a0.1/\Rw 6 w' O' 4 (.slice g0.2.1 a0.2.1.length g0.2.2) a0.2.1/\Ob 8 w' O' (.pointer (some ⟨r4,0,none⟩)) a0.2.2.2.2/\Lc 10 w' O' c3 102 [(.int .i64 q1.1.x.cost),(.int .i64 q1.1.x.order),(.int .i64 q1.1.x.id)]/\Lc 12 w' O' d4 115 [(.int .i64 i2.op),(.slice b4 i2.state.length c4)]/\Vb w' (Fr 0 w' O') (.slice b4 i2.state.length c4) i2.state/\Vb w' (Fr 0 w' O') (.slice e3 l1.length f3) l1) ?_ ?_
      ·refine Ae (Ar rfl (Ar rfl ?_));obtain⟨zB,aC,i0⟩:=bs i0;obtain⟨bC,cC⟩:=Cn aC;replace t0:=(((t0.st o0).st p0).st q0).st d0;obtain⟨qK,rK,uE,g7,h7,i7,rfl⟩:=t0.elem cC;refine BA (hA:=g7) (hj:=bC) (hlt:=h7) rfl rfl (AL (hc:=cat0 i7) rfl (Ar rfl ?_));rcases E2 zB with q3|q3
       ·(try rw[q3]);replace i0:=ip i0 q3;refine Ay rfl rfl (Ay rfl rfl (Ay rfl rfl (Ay rfl rfl (Ay rfl rfl (Ay rfl rfl (AV rfl rfl (o_z ?_)))))));replace a1:=a1.st d0;replace b1:=b1.st d0;replace c1:=c1.st d0;replace d1:=d1.st d0;replace e1:=e1.st d0;replace f1:=f1.st d0;obtain⟨sK,u2,vE,wE,dC⟩:=Spc.shut (x:=(⟨(⟨a0.2.2.2.1.t.vars,a0.2.2.2.1.t.init,a0.2.2.2.1.t.goal,a0.2.2.2.1.t.ops⟩:Tsk),u0.2.2.2,a0.2.2.2.1.gen⟩:Spc)) (l0:=4) (by decide) a1 b1 c1 d1 e1 h3 f1;obtain rfl:=sm i0;have a3:=(((o0.an p0).an q0).an d0).an u2;exact⟨(),_,⟨rfl,rfl,rfl,rfl,rfl,rfl,rfl,rfl,rfl,rfl,rfl,rfl,rfl,rfl,rfl,rfl,rfl,trivial⟩,hB.st u2,y0.st u2,f0.st a3,dC,s0.st a3,t0.st u2,n0.st a3,e0.st u2,k0.st u2,(w0.st d0).st u2,j0.st a3⟩
       (try rw[q3]);replace i0:=im' i0 q3;refine Az rfl rfl (Ar rfl (Az rfl rfl (Ar rfl (Az rfl rfl (Ar rfl (Az rfl rfl ?_))))));obtain⟨tK,eC,i0⟩:=bs i0;obtain⟨fC,gC⟩:=Cn eC;replace s0:=(((s0.st o0).st p0).st q0).st d0;obtain⟨uK,vK,xE,j7,k7,l7,rfl,wK⟩:=s0.elem gC;refine BA (hA:=j7) (hj:=fC) (hlt:=k7) rfl rfl (Az rfl rfl (AL (hc:=cat0 l7) rfl (Az rfl rfl (Es rfl rfl (λp5=>?_) λp5=>?_))))
       ·replace i0:=ip i0 p5;refine AS rfl rfl (o_z ?_);replace a1:=a1.st d0;replace b1:=b1.st d0;replace c1:=c1.st d0;replace d1:=d1.st d0;replace e1:=e1.st d0;replace f1:=f1.st d0;obtain⟨xK,j2,yE,zE,hC⟩:=Spc.shut (x:=(⟨(⟨a0.2.2.2.1.t.vars,a0.2.2.2.1.t.init,a0.2.2.2.1.t.goal,a0.2.2.2.1.t.ops⟩:Tsk),u0.2.2.2,a0.2.2.2.1.gen⟩:Spc)) (l0:=4) (by decide) a1 b1 c1 d1 e1 h3 f1;obtain rfl:=sm i0;have r3:=(((o0.an p0).an q0).an d0).an j2;exact⟨(),_,⟨rfl,rfl,rfl,rfl,rfl,rfl,rfl,rfl,rfl,rfl,rfl,rfl,rfl,rfl,rfl,rfl,rfl,trivial⟩,hB.st j2,y0.st j2,f0.st r3,hC,s0.st j2,t0.st j2,n0.st r3,e0.st j2,k0.st j2,(w0.st d0).st j2,j0.st r3⟩
       replace i0:=im i0 p5;refine AS rfl rfl (o_z ?_);replace a1:=a1.st d0;replace b1:=b1.st d0;replace c1:=c1.st d0;replace d1:=d1.st d0;replace e1:=e1.st d0;replace f1:=f1.st d0;obtain⟨yK,k2,aF,bF,iC⟩:=Spc.shut (x:=(⟨(⟨a0.2.2.2.1.t.vars,a0.2.2.2.1.t.init,a0.2.2.2.1.t.goal,a0.2.2.2.1.t.ops⟩:Tsk),u0.2.2.2,a0.2.2.2.1.gen⟩:Spc)) (l0:=4) (by decide) a1 b1 c1 d1 e1 h3 f1;obtain rfl:=sm i0;have s3:=(((o0.an p0).an q0).an d0).an k2;exact⟨(),_,⟨rfl,rfl,rfl,rfl,rfl,rfl,rfl,rfl,rfl,rfl,rfl,rfl,rfl,rfl,rfl,rfl,rfl,trivial⟩,hB.st k2,y0.st k2,f0.st s3,iC,s0.st k2,t0.st k2,n0.st s3,e0.st k2,k0.st k2,(w0.st d0).st k2,j0.st s3⟩
      have l2:=((o0.an p0).an q0).an d0;replace f0:=f0.st l2;replace j0:=j0.st l2;replace s0:=s0.st l2;replace t0:=t0.st l2;replace n0:=n0.st l2;replace w0:=w0.st d0;rintro zK aL ⟨yB,bL,m7,hB,y0,f0,n7,s0,t0,n0,e0,k0,w0,j0⟩;refine AQ _ m7 ?_;refine Bx rfl (λq5=>?_) (λq5=>?_)
      ·replace h0:=ip h0 q5;refine Cl ?_;obtain rfl:=sm h0;obtain rfl:=sm (Bp c0);exact show Exists _ from⟨_,((g0.1.1,g0.1.2),(g0.2.1,g0.2.2)),rfl,⟨rfl,rfl,rfl,rfl,rfl,rfl,rfl,rfl,rfl,rfl,rfl,rfl,rfl,trivial⟩,_,hB,y0,f0,n7,s0,t0,n0,e0,j0,a4⟩
      replace h0:=im' h0 q5;refine AE ?_;obtain rfl:=sm h0;exact⟨_,((g0.1.1,g0.1.2),(g0.2.1,g0.2.2)),_,rfl,⟨rfl,rfl,rfl,rfl,rfl,rfl,rfl,rfl,rfl,rfl,rfl,rfl,rfl,rfl,rfl,rfl,trivial⟩,hB,y0,f0,n7,s0,t0,n0,e0,k0,w0,j0⟩
     have t3:=((o0.an p0).an q0).an d0;replace f0:=f0.st t3;replace j0:=j0.st t3;replace n0:=n0.st t3;replace w0:=w0.st d0;rintro cL dL ⟨y1,g1,eL,rfl,o7,hB,y0,f0,r5,k3,jC,n0,e0,k0,w0,j0⟩;replace c0:=AW c0;refine AQ _ o7 ?_;refine Aj (Ae (Ar rfl (Ar rfl (Ar rfl ?_))));obtain⟨fL,kC,c0⟩:=bs c0;obtain⟨lC,p7⟩:=Cn kC;obtain⟨gL,hL,cF,y4,q7,dF,rfl,iL⟩:=k3.elem p7;refine BA (hA:=y4) (hj:=lC) (hlt:=q7) rfl rfl ?_;refine Fe rfl k3 (a:=t2) (vInt f4) y4 rfl rfl (AF p7) λjL v2 k3=>?_;refine o_z (Aj (Aj ?_));replace r5:=r5.st v2;obtain⟨r7,kL,lL,mL,nL,oL,pL,w2,eF,g4,h4,i4,j4,k4,s7,l4⟩:=Spc.opn r5 4 11 (by decide);obtain⟨qL,rL,rfl⟩:=h4.form;obtain⟨sL,tL,rfl⟩:=i4.form;obtain⟨uL,vL,rfl⟩:=j4.form;obtain⟨wL,xL,rfl⟩:=k4.form;obtain⟨yL,rfl⟩:=s7.ptr;obtain⟨zL,rfl,fF⟩:=l4.ptr;refine Ck [(10,[11])] r7 ?_;refine Bl (fuel:=2) [] (Ci (FH 0 10)) rfl (AM rfl rfl (En rfl rfl (Be rfl rfl (Bz (hc:=CH g4 4 rfl) rfl rfl (AM rfl rfl (Be rfl rfl ?_))))));replace e0:=(e0.st v2).st w2;refine Bz (hc:=CH e0 2 rfl) rfl rfl (Be rfl rfl ?_);replace k0:=(k0.st v2).st w2;refine Bz (hc:=CH k0 0 rfl) rfl rfl (AM rfl rfl (AP (Bo (i:=10) rfl ?_)));obtain⟨mC,nC,c0⟩:=bs c0;refine BM (O:=r7) (IP s7 u6 e5 pA f4 nC) rfl λaM bM t7 m2 oC=>?_;obtain⟨s5,pC⟩:=oC;obtain⟨rfl,qC⟩:=pC.err;have hZ:=m2.lst [11] (λ_ h=>by cases h;decide);refine CT [] hZ ?_;refine Bl (fuel:=0) [] [(11,true)] rfl (CY rfl rfl (AP (Dv (Aj (Ae (Ar rfl (Cy rfl (λt5=>?_) λt5=>?_)))))))
     ·replace c0:=ip c0 t5;refine o_z (Am rfl (Aj (Ae (CK rfl rfl ?_))));refine ac ?_;replace f0:=((f0.st v2).st w2).st m2;refine AR f0 rfl rfl rfl (Bg) (allOne) λrC sC f0=>?_;refine Au rfl (o_z (AD ?_));obtain rfl:=sm c0;obtain rfl:=y2 _ rfl;obtain rfl:=sm (Bp b0);obtain rfl:=n1 _ rfl;obtain rfl:=sm (Bp hm);replace hB:=(((hB.st v2).st w2).st m2).st sC;exact X3 rfl (CC (cs:=[(.int .i64 0),(.slice none 0 0),(.int .i64 0),(.int .i64 0)]) rfl rfl f0.1.cellsAt) (AC rfl) ⟨hB.ext,_,_,rfl,(Vb.mono (F:=Fr 0 rC t7) (Vb.ofAgg (cs:=[(.int .i64 0),(.slice none 0 0),(.int .i64 0),(.int .i64 0)]) (x:=(⟨0,([]:List Int),0,0⟩:Rsl)) rfl ⟨_,rfl,(Vb.nil _ _),(W3 0),(W3 0),(W3 0)⟩) hB.out),(vErr qC)⟩
     replace c0:=im c0 t5;refine o_z (Ah rfl (AE (Aj (Ae (Ar rfl (Ki rfl (Ar rfl (Ar rfl (Ar rfl (CK rfl rfl ?_))))))))));refine Ki rfl ?_;obtain⟨cM,tC,c0⟩:=bs c0;replace n0:=((n0.st v2).st w2).st m2;refine BM (O:=t7) (KT n0 (Aaw (Vb.ofAgg (cs:=[(.int .i64 t2),(.int .i64 a0.2.2.1),(.int .i64 u0.1)]) (x:=(⟨t2,a0.2.2.1,u0.1⟩:Itm)) rfl ⟨rfl,f4,a4,u6⟩)) tC) rfl λdM eM fM u3 uC=>?_;refine o_z (Ae (Ar rfl ?_));obtain⟨gM,u7,c0⟩:=bs c0;have vC:=(Bh u7);refine DM (he:=u7) rfl rfl (Au rfl (o_z ?_));have b2:=m2.an u3;replace g4:=g4.st b2;replace h4:=h4.st b2;replace i4:=i4.st b2;replace j4:=j4.st b2;replace k4:=k4.st b2;replace l4:=l4.st b2;replace s5:=s5.st u3;obtain⟨hM,m4,gF,hF,wC⟩:=Spc.shut (x:=(⟨(⟨(⟨(⟨a0.2.2.2.1.t.vars,a0.2.2.2.1.t.init,a0.2.2.2.1.t.goal,a0.2.2.2.1.t.ops⟩:Tsk),u0.2.2.2,a0.2.2.2.1.gen⟩:Spc).t.vars,(⟨(⟨a0.2.2.2.1.t.vars,a0.2.2.2.1.t.init,a0.2.2.2.1.t.goal,a0.2.2.2.1.t.ops⟩:Tsk),u0.2.2.2,a0.2.2.2.1.gen⟩:Spc).t.init,(⟨(⟨a0.2.2.2.1.t.vars,a0.2.2.2.1.t.init,a0.2.2.2.1.t.goal,a0.2.2.2.1.t.ops⟩:Tsk),u0.2.2.2,a0.2.2.2.1.gen⟩:Spc).t.goal,(⟨(⟨a0.2.2.2.1.t.vars,a0.2.2.2.1.t.init,a0.2.2.2.1.t.goal,a0.2.2.2.1.t.ops⟩:Tsk),u0.2.2.2,a0.2.2.2.1.gen⟩:Spc).t.ops⟩:Tsk),mC.2,(⟨(⟨a0.2.2.2.1.t.vars,a0.2.2.2.1.t.init,a0.2.2.2.1.t.goal,a0.2.2.2.1.t.ops⟩:Tsk),u0.2.2.2,a0.2.2.2.1.gen⟩:Spc).gen⟩:Spc)) (l0:=4) (by decide) g4 h4 i4 j4 k4 s5 l4;obtain rfl:=sm c0;have n2:=(((v2.an w2).an m2).an u3).an m4;replace k3:=(((k3.st w2).st m2).st u3).st m4;exact show Exists _ from⟨_,((g1.1.1,g1.1.2),(g1.2.1,g1.2.2)),rfl,⟨rfl,rfl,rfl,rfl,rfl,rfl,(congrArg (λn=>some (Value.slice _ n _)) ((by simp:(y1.1.set (u0.1:Int).toNat t2).length=y1.1.length).trans rfl).symm),rfl,rfl,rfl,rfl,rfl,rfl,trivial⟩,_,hB.st n2,y0.st n2,f0.st n2,wC,k3.relen,jC.st n2,uC.st m4,((e0.st m2).st u3).st m4,j0.st n2,vC⟩
    rintro iM jM ⟨kM,n4,rfl,z0,lM,hB,y0,f0,n3,s0,t0,n0,e0,j0,a4⟩;replace b0:=AW b0;obtain rfl:=sm b0;exact show Exists _ from⟨_,((n4.1.1,n4.1.2),(n4.2.1,n4.2.2)),rfl,⟨(Bn z0 _ _ rfl),(Bn z0 _ _ rfl),(Bn z0 _ _ rfl),(Bn z0 _ _ rfl),(Bn z0 _ _ rfl),(Bn z0 _ _ rfl),(Bn z0 _ _ rfl),(Bn z0 _ _ rfl),(Bn z0 _ _ rfl),trivial⟩,_,hB,y0,f0,n3,s0,t0,n0,a4,m6⟩
   replace b0:=iT b0;refine o_z (Am rfl (Aj (Ae (Ar rfl (AJ rfl ?_)))));replace e0:=(e0.st r0).st m0;refine AL (hc:=Blk.cell (i:=2) (e0.1) rfl) rfl (Ar rfl ?_);have c2:=r0.an m0;replace t1:=t1.st c2;replace p2:=p2.st c2;replace q2:=q2.st c2;replace r2:=r2.st c2;replace s2:=s2.st c2;replace u1:=u1.st c2;replace d3:=d3.st m0;obtain⟨xC,w7,jF,kF,yC⟩:=Spc.shut (x:=h1.2.2.2.2.1) (l0:=4) (by decide) t1 p2 q2 r2 s2 d3 u1;obtain⟨f2,zC,b0⟩:=bs b0;refine BM (O:=xC) (KK yC e5 b3 zC) rfl λmM nM aD x7 bD=>?_;obtain⟨oM,pM,qM,rfl,cD,dD⟩:=bD;obtain⟨lF,rfl,rM,rfl,o4,eD,fD,gD⟩:=cD;obtain⟨y7,z7,rfl⟩:=o4.form;obtain⟨rfl,hD⟩:=dD.err;refine AZ rfl rfl (AZ rfl rfl ?_);have a8:=(((((((((o1.an v0).an p1).an r1).an j1).an k1).an s1).an r0).an m0).an w7).an x7;replace f0:=f0.st a8;refine AR f0 rfl rfl rfl (Bg) (allOne) λiD b8 f0=>?_;refine Au rfl (o_z (AD ?_));obtain rfl:=sm b0;obtain rfl:=n1 _ rfl;obtain rfl:=sm (Bp hm);replace hB:=(((hB.st m0).st w7).st x7).st b8;replace o4:=o4.st b8;exact X3 rfl (CC (cs:=[(.int .i64 f2.1.verdict),(.slice y7 f2.1.plan.length z7),(.int .i64 f2.1.cost),(.int .i64 f2.1.expanded)]) rfl rfl f0.1.cellsAt) (AC rfl) ⟨hB.ext,_,_,rfl,(Vb.mono (F:=Fr 0 iD aD) (Vb.ofAgg (cs:=[(.int .i64 f2.1.verdict),(.slice y7 f2.1.plan.length z7),(.int .i64 f2.1.cost),(.int .i64 f2.1.expanded)]) (x:=f2.1) rfl ⟨_,rfl,o4,eD,fD,gD⟩) hB.out),(vErr hD)⟩
  replace b0:=im b0 d5;refine o_z (Ah rfl (Cl ?_));replace o2:=o2.st v0;replace g2:=g2.st v0;obtain⟨sM,jD,mF,nF,tM⟩:=BxR.shut (x:=h1.2.2.2.2.2) (l0:=8) (by decide) o2 g2;obtain rfl:=sm b0;have z4:=(o1.an v0).an jD;exact show Exists _ from⟨_,((m1.1.1,m1.1.2),(m1.2.1,m1.2.2)),c5 _ rfl,D4,_,hB.st z4,f0.st z4,x3,b3⟩
 have a5:=((((p8.an u8).an q8).an w5).an u5).an x5;replace hB:=hB.st a5;replace f0:=f0.st a5;rintro uM vM ⟨wM,xM,rfl,c8,kD,hB,f0,x3,b3⟩;replace hm:=AW hm;refine AQ _ c8 ?_;refine Aj (Ae (Ar rfl ?_));obtain⟨z1,lD,hm⟩:=bs hm;refine Ey (O:=kD) (R:=λw' F v=>T2 w' F v z1) (HJ Fr.lt (W3 2) b3 lD) rfl λyM zM mD d8 nD=>?_;obtain⟨aN,bN,rfl,oD,pD⟩:=nD;obtain⟨oF,rfl,cN,rfl,p4,qD,rD,sD⟩:=oD;obtain⟨e8,f8,rfl⟩:=p4.form;obtain⟨rfl,tD⟩:=pD.err;refine AZ rfl rfl (AZ rfl rfl ?_);replace f0:=f0.st d8;refine AR f0 rfl rfl rfl (Bg) (allOne) λuD g8 f0=>?_;refine Au rfl (o_z (AD ?_));obtain rfl:=sm hm;replace hB:=(hB.st d8).st g8;replace p4:=p4.st g8;exact X3 rfl (CC (cs:=[(.int .i64 z1.1.verdict),(.slice e8 z1.1.plan.length f8),(.int .i64 z1.1.cost),(.int .i64 z1.1.expanded)]) rfl rfl f0.1.cellsAt) (AC rfl) ⟨hB.ext,_,_,rfl,(Vb.mono (F:=Fr 0 uD mD) (Vb.ofAgg (cs:=[(.int .i64 z1.1.verdict),(.slice e8 z1.1.plan.length f8),(.int .i64 z1.1.cost),(.int .i64 z1.1.expanded)]) (x:=z1.1) rfl ⟨_,rfl,p4,qD,rD,sD⟩) hB.out),(vErr tD)⟩
end
section
open Go Go.RowKit
attribute [local irreducible] ewp owp hwp hwq hws Ev Evg Fn W6 X7 X4 X1
noncomputable def FJ(G:List ByteArray)(y:List ByteArray):Option Int :=
  bnd (W5 ((y.length:Int)+1)) λH=>bnd (mkI 8 (0:Int) H) λk=>bnd (Zb (ρ:=Int) (λ(h:Nat)(l:(List Int))=>bnd (l[h]?) λI=>some (.next (l.set h (h:Int)))) k.length k) λi=>fin i λ(z:(List Int))=>bnd (rng (ρ:=Int) (λ(A:Nat)(B:ByteArray)(m:(List Int))=>bnd (W5 ((y.length:Int)+1)) λC=>bnd (mkI 8 (0:Int) C) λf=>bnd (W5 ((A:Int)+1)) λn=>bnd (atI f 0) λD=>bnd (rng (ρ:=Ctl (List Int) Int) (λ(a:Nat)(o:ByteArray)(b:(List Int))=>bnd (W5 ((a:Int)+1)) λc=>bnd (b[a]?) λp=>bnd (W5 ((a:Int)+1)) λq=>bnd (atI m q) λr=>bnd (W5 ((min p r)+1)) λd=>bnd (atI b c) λE=>if B=o then(bnd (W5 ((a:Int)+1)) λg=>bnd (W5 ((a:Int)+1)) λs=>bnd (atI (b.set (c:Int).toNat d) s) λt=>bnd (m[a]?) λu=>bnd (atI (b.set (c:Int).toNat d) g) λF=>some (.next ((b.set (c:Int).toNat d).set (g:Int).toNat (min t u))))else(some (.next (b.set (c:Int).toNat d)))) y 0 (f.set (0:Int).toNat n)) λe=>fin e λ(v:(List Int))=>some (.next v)) G 0 z) λj=>fin j λ(w:(List Int))=>bnd (w[y.length]?) λx=>some x
theorem MN{w:World}{A:Nat->Prop}(hA:∀k,A k->k<w.heap.size){l:Value}{g:List ByteArray}(t:Vb w A l g){m:Value}{h:List ByteArray}(j:Vb w A m h){r:Int}(hm:FJ g h=some r) :
    Fn prog 19 [l,m] w λv w'=>Ext w w'/\Vb w' (upA A w w') v r:=by
 obtain⟨O,hB,t8⟩:=enter hA;obtain⟨u,c4,rfl⟩:=t.form;obtain⟨q,c6,rfl⟩:=j.form;refine AG func19 rfl ntmps19 ?_;unfold FJ at hm;refine Aj (Ae (Au rfl (o_z (Aj (Ae (Ar rfl (AO rfl ?_)))))));have W:=Bj j.len;have r7:=rngNat W;obtain⟨n9,v4,hm⟩:=bs hm;have u8:=(Bh v4);refine DM (he:=v4) rfl rfl ?_;obtain⟨x,p5,hm⟩:=bs hm;obtain⟨y,q5,r5,s5,t5⟩:=JG p5;refine LL 2 O (z0:=(0:Int)) rfl rfl rfl rfl rfl q5 (vInt (W3 0)) r5 s5 rfl λz v8 Y Z B=>?_;rw[<- t5]at B ⊢;refine Au rfl (o_z (Aj (Aj (Ae (Ar rfl (AO rfl ?_))))));have C:=Bj B.len;have w8:=rngNat C;refine Ar rfl (o_z ?_);obtain⟨w4,z2,hm⟩:=bs hm;replace hB:=hB.st Z;refine LO (X:=Unit) (x.length) z2 C (λD L=>[(0,(.slice u g.length c4)),(1,(.slice q h.length c6)),(5,(.slice (some ⟨z,0,none⟩) x.length y))]) (λD L w'=>∃d:Lab,Bs w A w' d/\Rw 2 w' d 3 (.slice (some ⟨z,0,none⟩) x.length y) D) () ⟨Y,hB,B⟩ Ad (λ_ _=>rfl) ?_ ?_
 ·rintro w5 D L x8 x5 b3 ⟨y8,hB,e⟩ n0 c3 d3;have o:=AaQ b3 C;refine Aj (Ae (Ar rfl (Au rfl (o_z (Ae (Ar rfl (Ar rfl (Ar rfl ?_))))))));obtain⟨z8,y4,n0⟩:=bs n0;obtain⟨a9,b9,y5,u0,e3,z5,rfl,c9⟩:=e.elem y4;refine BA (hA:=u0) (hj:=rfl) (hlt:=e3) rfl rfl ?_;refine Fe rfl e (a:=(w5:Int)) (vInt o) u0 rfl rfl (AF y4) λd9 a6 e=>?_;refine o_z ?_;obtain rfl:=sm n0;exact show Exists _ from⟨_,(),rfl,Ad,_,hB.st a6,e⟩
 rintro e9 f9 ⟨g9,h9,rfl,f3,i9,hB,e⟩;replace hm:=AW hm;refine AQ _ f3 ?_;refine Aj (Aj (Ae (Ar rfl (AO rfl ?_))));have E:=Bj t.len;have j9:=rngNat E;refine Ar rfl (o_z ?_);obtain⟨z4,h3,hm⟩:=bs hm;obtain⟨b6,d6,e⟩:=e.freeze;replace hB:=hB.st d6;refine Dg (X:=(Option Addr×Nat)) (g.length) h3 rfl E (λf c=>[(1,(.slice q h.length c6)),(5,(.slice c.1 f.length c.2)),(26,(.slice u g.length c4))]) (λf c w'=>∃d:Lab,Bs w A w' d/\Vb w' (Fr 0 w' d) (.slice c.1 f.length c.2) f) ((some ⟨z,0,none⟩),y) ⟨b6,hB,e.relen⟩ ⟨rfl,rfl,rfl,(congrArg (λn=>some (Value.slice _ n _)) e.len.1.symm.symm),rfl,trivial⟩ (λ_ _=>rfl) ?_ ?_
 ·rintro e6 f6 f c k9 g6 M ⟨h6,hB,d0⟩ c0 i3 j3;have N:=YV M E;refine Aj (Ae (Ar rfl ?_));obtain⟨l9,m9,i6,k3,l3,m3,rfl,o9⟩:=(t.zs hA hB).elem' M;refine BA (hA:=k3) (hj:=rfl) (hlt:=l3) rfl rfl (AL (hc:=cat0 m3) rfl (Au rfl (Au rfl (o_z (Aj (Ae (Ar rfl (AO rfl ?_))))))));have j6:=Bj j.len;have p9:=rngNat j6;obtain⟨q9,w0,c0⟩:=bs c0;have k6:=(Bh w0);refine DM (he:=w0) rfl rfl ?_;obtain⟨P,n3,c0⟩:=bs c0;obtain⟨F,o3,p3,q3,r3⟩:=JG n3;refine LL 3 h6 (z0:=(0:Int)) rfl rfl rfl rfl rfl o3 (vInt (W3 0)) p3 q3 rfl λG l6 s3 Q p=>?_;rw[<- r3]at p ⊢;refine Au rfl (o_z (Aj (Ae (Ar rfl (Ar rfl ?_)))));obtain⟨t3,b1,c0⟩:=bs c0;have u3:=(Bh b1);refine DM (he:=b1) rfl rfl ?_;obtain⟨m6,v3,c0⟩:=bs c0;obtain⟨w3,c1⟩:=Cn v3;obtain⟨n6,o6,a5,j0,d1,b5,rfl,p6⟩:=p.elem c1;refine BA (hA:=j0) (hj:=w3) (hlt:=d1) rfl rfl ?_;refine Fe rfl p (a:=t3) (vInt u3) j0 rfl rfl (AF c1) λq6 R p=>?_;refine o_z (Aj (Aj (Ae (Ar rfl (AO rfl ?_)))));have H:=Bj j.len;have r6:=rngNat H;refine Ar rfl (o_z ?_);obtain⟨x3,f1,c0⟩:=bs c0;replace hB:=(hB.st Q).st R;replace d0:=(d0.st Q).st R;refine Dg (X:=Unit) (h.length) f1 rfl H (λI S=>[(1,(.slice q h.length c6)),(5,(.slice c.1 f.length c.2)),(8,(.string f6)),(9,(.slice (some ⟨G,0,none⟩) P.length F)),(26,(.slice u g.length c4)),(27,(.int .i64 (g.length:Int))),(28,(.int .i64 (e6:Int))),(41,(.slice q h.length c6))]) (λI S w'=>∃d:Lab,Bs w A w' d/\Vb w' (Fr 0 w' d) (.slice c.1 f.length c.2) f/\Rw 3 w' d 3 (.slice (some ⟨G,0,none⟩) P.length F) I) () ⟨s3,hB,d0,p⟩ Eo (λ_ _=>rfl) ?_ ?_
  ·rintro s6 t6 I S u6 c5 T ⟨U,hB,d0,b⟩ a0 r2 s2;have J:=YV T H;refine Aj (Ae (Ar rfl ?_));obtain⟨v6,w6,d5,i1,j1,k1,rfl,x6⟩:=(j.zs hA hB).elem' T;refine BA (hA:=i1) (hj:=rfl) (hlt:=j1) rfl rfl (AL (hc:=cat0 k1) rfl (Au rfl (Au rfl (o_z (Aj ?_)))));refine Ck [] U ?_;refine Bl (fuel:=1) [] (Ci (FH 0 15)) rfl (AM rfl rfl (AM rfl rfl ?_));obtain⟨y6,l1,a0⟩:=bs a0;have z6:=(Bh l1);refine Jh (he:=l1) rfl rfl rfl (AM rfl rfl (AM rfl rfl ?_));obtain⟨a7,y3,a0⟩:=bs a0;obtain⟨b7,c7,e5,m1,n1,o1,p1,rfl,d7⟩:=b.elemF y3;refine CX (hA:=m1) (hj:=rfl) (hlt:=o1) rfl rfl rfl (Bz (hc:=JI n1 p1) rfl rfl (AM rfl rfl (AM rfl rfl ?_)));obtain⟨e7,q1,a0⟩:=bs a0;have f7:=(Bh q1);refine Jh (he:=q1) rfl rfl rfl ?_;obtain⟨g7,z3,a0⟩:=bs a0;obtain⟨a4,b4⟩:=Cn z3;obtain⟨h7,i7,f5,r1,s1,t1,u1,rfl,j7⟩:=d0.elem b4;refine CX (hA:=r1) (hj:=a4) (hlt:=t1) rfl rfl rfl (Bz (hc:=JI s1 u1) rfl rfl (VP rfl rfl rfl rfl ?_));obtain⟨d4,v1,a0⟩:=bs a0;have e4:=(Bh v1);refine Jh (he:=v1) rfl rfl rfl ?_;obtain⟨k7,f4,a0⟩:=bs a0;obtain⟨g4,w1⟩:=Cn f4;obtain⟨l7,m7,g5,l0,h5,y1,i5,rfl,n7⟩:=b.elemF w1;refine CX (hA:=l0) (hj:=g4) (hlt:=y1) rfl rfl rfl (AP (Bo (i:=15) rfl ?_));refine Fe rfl b (a:=d4) (vInt e4) l0 rfl rfl (AF w1) λo7 s b=>?_;refine Gn (Dv (Aj (Ae (Ar rfl (Ar rfl (Qh rfl rfl rfl (λK=>?_) λK=>?_))))))
   ·replace a0:=ip a0 K;refine o_z (Am rfl ?_);refine Ck [] U ?_;refine Bl (fuel:=1) [] (Ci (FH 0 14)) rfl (AM rfl rfl (AM rfl rfl ?_));obtain⟨p7,z1,a0⟩:=bs a0;have q7:=(Bh z1);refine Jh (he:=z1) rfl rfl rfl (AM rfl rfl (AM rfl rfl ?_));obtain⟨s7,a2,a0⟩:=bs a0;have t7:=(Bh a2);refine Jh (he:=a2) rfl rfl rfl ?_;obtain⟨h4,i4,a0⟩:=bs a0;obtain⟨j4,k4⟩:=Cn i4;obtain⟨u7,v7,j5,b2,c2,d2,e2,rfl,l4⟩:=b.elemF k4;refine CX (hA:=b2) (hj:=j4) (hlt:=d2) rfl rfl rfl (Bz (hc:=JI c2 e2) rfl rfl (AM rfl rfl (AM rfl rfl ?_)));obtain⟨m4,n4,a0⟩:=bs a0;replace d0:=d0.st s;obtain⟨w7,x7,k5,f2,g2,h2,i2,rfl,o4⟩:=d0.elem n4;refine CX (hA:=f2) (hj:=rfl) (hlt:=h2) rfl rfl rfl (Bz (hc:=JI g2 i2) rfl rfl (VP rfl rfl rfl rfl ?_));obtain⟨y7,p4,a0⟩:=bs a0;obtain⟨q4,j2⟩:=Cn p4;obtain⟨z7,a8,l5,m0,m5,k2,n5,rfl,b8⟩:=b.elemF j2;refine CX (hA:=m0) (hj:=q4) (hlt:=k2) rfl rfl rfl (AP (Bo (i:=14) rfl ?_));refine Fe rfl b (a:=(min h4 m4)) (vInt (rngMin l4 o4)) m0 rfl rfl (AF j2) λc8 V b=>?_;refine Gn (Dv ?_);obtain rfl:=sm a0;exact show Exists _ from⟨_,(),rfl,Eo,_,(hB.st s).st V,d0.st V,b⟩
   replace a0:=im a0 K;refine o_z (Ah rfl (AE ?_));obtain rfl:=sm a0;exact show Exists _ from⟨_,(),rfl,Eo,_,hB.st s,d0.st s,b⟩
  rintro d8 e8 ⟨f8,g8,rfl,m2,h8,hB,d0,b⟩;replace c0:=AW c0;refine AQ _ m2 ?_;refine Ae (Ar rfl (Au rfl (o_z ?_)));obtain⟨i8,r4,b⟩:=b.freeze;obtain rfl:=sm c0;exact show Exists _ from⟨_,((some ⟨G,0,none⟩),F),rfl,⟨rfl,rfl,rfl,(congrArg (λn=>some (Value.slice _ n _)) b.len.1.symm.symm),rfl,trivial⟩,_,hB.st r4,b.relen⟩
 rintro j8 k8 ⟨m8,n8,rfl,n2,o8,hB,d0⟩;replace hm:=AW hm;refine AQ _ n2 ?_;refine Aj (Ae (Ar rfl (Ar rfl (AO rfl ?_))));have s4:=Bj j.len;have p8:=rngNat s4;obtain⟨q8,t4,hm⟩:=bs hm;obtain⟨r8,s8,o5,o2,p2,q2,rfl,u4⟩:=d0.elem' t4;refine BA (hA:=o2) (hj:=rfl) (hlt:=p2) rfl rfl (AL (hc:=cat0 q2) rfl (Au rfl (o_z (AD ?_))));obtain rfl:=sm hm;exact X2 rfl (AC rfl) ⟨hB.ext,(vInt u4)⟩
end
section
open Go Go.RowKit
attribute [local irreducible] ewp owp hwp hwq hws Ev Evg Fn W6 X7 X4 X1
attribute [local irreducible] hwx YW hwz ZY
noncomputable def DP(l:Tsk)(m:List ByteArray)(o:Int)(p:Int):Option (Rsl×Int×Err) :=
  bnd (Fi l m o) λc=>if c.2.2.n≠0 then(some ((⟨0,([]:List Int),0,0⟩:Rsl),0,(⟨c.2.2.n⟩:Err)))else(bnd (CV c.1 p) λa=>if a.2.n≠0 then(some ((⟨0,([]:List Int),0,0⟩:Rsl),0,(⟨a.2.n⟩:Err)))else(if a.1.verdict≠1 then(some (a.1,0,(⟨0⟩:Err)))else(bnd (rng (ρ:=Rsl×Int×Err) (λ(q:Nat)(k:Int)(d:(List Int)×(List ByteArray))=>bnd (atI c.2.1 k) λb=>if 0<=b.op then(bnd (atI l.ops b.op) λg=>bnd (X6 8 d.1 ([b.op]:List Int)) λh=>bnd (X6 16 d.2 [g.name]) λi=>some (.next (h,i)))else(some (.next (d.1,d.2)))) a.1.plan 0 (([]:List Int),([]:List ByteArray))) λf=>fin f λ(e:(List Int)×(List ByteArray))=>bnd (FJ e.2 m) λj=>some ((⟨a.1.verdict,e.1,a.1.cost,a.1.expanded⟩:Rsl),j,(⟨0⟩:Err)))))
section
attribute [local irreducible] Vb Lc Rw Ob
theorem Kv{w:World}{A:Nat->Prop}(hA:∀k,A k->k<w.heap.size){c:Value}{o:Tsk}(s:Vb w A c o){d:Value}{p:List ByteArray}(u:Vb w A d p){f:Int}(x:W1 f){g:Int}(y:W1 g){r:Rsl×Int×Err}(hm:DP o p f g=some r) :
    Fn prog 7 [c,d,(.int .i64 f),(.int .i64 g)] w λv w'=>Ext w w'/\T3 w' (upA A w w') v r:=by
 obtain⟨_,_,_⟩:=Db hA;apply CZ s;intros;apply CZ u;intros;refine AG func7 rfl ntmps7 ?_;unfold DP at hm;refine Aj (Ae (Gx 2 ?_));intros;refine Cv 3 ?_;intros;refine Au rfl (Au rfl (o_z (Aj (Ae (Ep (Ar rfl (Ar rfl ?_)))))));obtain⟨F,q0,hm⟩:=bs hm;refine Qx rfl (JO Fr.lt zV zV zI q0) λ_ _ _ _ _ _ z B C=>?_;apply Dw z;intros;apply Dw B;intros;apply Dw C;intros;refine Ar rfl (AZ rfl rfl (AZ rfl rfl (AZ rfl rfl (Cv 4 ?_))));intros;refine BW ?_;intros;refine Au rfl (Au rfl (o_z (Aj (Aj (Ae (Ar rfl (Cy rfl (λh=>?_) λh=>?_)))))))
 ·replace hm:=ip hm h;refine o_z (Am rfl (Aj (Ae (CK rfl rfl ?_))));refine Ar rfl (BW ?_);intros;refine Au rfl (Au rfl (o_z (AD ?_)));obtain rfl:=sm hm;exact Ta
 replace hm:=im hm h;refine o_z (Ah rfl (AE (Aj (Ae (Ep (Ar rfl ?_))))));obtain⟨G,u0,hm⟩:=bs hm;refine KB rfl (Jc Fr.lt zV zI u0) λ_ _ _ _ _ D E=>?_;apply Dw D;intros;apply Dw E;intros;refine Ar rfl (AZ rfl rfl (AZ rfl rfl (Cv 5 ?_)));intros;refine BW ?_;intros;refine Au rfl (o_z (Aj (Aj (Ae (Ar rfl (Cy rfl (λl=>?_) λl=>?_))))))
 ·replace hm:=ip hm l;refine o_z (Am rfl (Aj (Ae (CK rfl rfl ?_))));refine Ar rfl (BW ?_);intros;refine Au rfl (Au rfl (o_z (AD ?_)));obtain rfl:=sm hm;exact Ta
 replace hm:=im hm l;refine o_z (Ah rfl (AE (Aj (Aj (Ae (AJ rfl (BN (Gm rfl rfl (λl0=>?_) λl0=>?_))))))))
 ·replace hm:=ip hm l0;refine o_z (Am rfl (Aj (Ae (Ep ?_))));refine BW ?_;intros;refine Au rfl (Au rfl (o_z (AD ?_)));obtain rfl:=sm hm;exact Ta
 replace hm:=im hm l0;refine o_z (Ah rfl (AE (Aj (Ae (Au rfl (o_z (Aj (Ae (Au rfl (o_z (Aj (Aj (Ae (AJ rfl ?_))))))))))))));refine BN (AO rfl (Ar rfl (o_z ?_)));refine Fq (X:=(Option Addr×Nat)×(Option Addr×Nat)) hm [1,4,8,12,14,47] [] [7,9] [] (λ_ _ b e t=>(15,sv e.1 b.1)::(16,sv e.2 b.2)::t) (λ_ _ b e t=>fR 7 3 e.1 b.1::fR 9 9 e.2 b.2::t) ((_,_),(_,_)) ?_ ?_
 ·intro H I b _ _ _ _ a J _ K;intros;refine Aj (Ae (FW ?_));intros;refine Le (Au rfl (o_z (Aj (Ae (Ar rfl (Ar rfl ?_))))));obtain⟨q,y0,a⟩:=bs a;refine KA ?_;intros;refine AJ rfl (OT (Au rfl (o_z (Aj (Ae (Ar rfl (Es rfl rfl (λm=>?_) λm=>?_)))))))
  ·replace a:=ip a m;refine o_z (Am rfl ?_);obtain⟨n,z0,a⟩:=bs a;obtain⟨L,d0,a⟩:=bs a;obtain⟨M,e0,a⟩:=bs a;refine Tb [(3,[7]),(12,[9])] ?_;refine Bl (fuel:=13) [] (Ci [0,1]) rfl (AM rfl rfl (AM rfl rfl (AP ?_)));refine Bl (fuel:=6) [7] (Ci (FH 4 7)) rfl (AM rfl rfl (Be rfl rfl (Ji rfl (AM rfl rfl ?_))));refine Oa rfl ?_;intros;refine Be rfl rfl (NZ rfl (AP ?_));refine NW (i:=2) (j:=11) rfl rfl ?_ ?_
   ·refine q_S [] ?_;intros;refine GC 6 (([q.op]:List Int):List Int) ?_;intros;refine GZ [(3,[7]),(12,[9])] ?_;refine NW (i:=3) (j:=11) rfl rfl ?_ ?_
    ·refine q_S [7] ?_;intros;refine LP d0 ?_;intros;refine GZ [(12,[9])] ?_;refine Bo (i:=11) rfl (q_S [] ?_);intros;refine GC 8 ([n.name]:List ByteArray) ?_;intros;refine GZ [(12,[9])] ?_;refine Bo (i:=12) rfl (q_S [9] ?_);intros;refine LP e0 ?_;intros;refine GZ [] ?_;refine Bl (fuel:=0) [] (Ci [13,14]) rfl (CY rfl rfl (CY rfl rfl (AP (Dv ?_))));exact EI ((_,_),(_,_)) a
    refine q_S [] ?_;intros;refine GC 8 ([n.name]:List ByteArray) ?_;intros;refine GZ [(3,[7]),(12,[9])] ?_;refine Bo (i:=3) rfl (q_S [7] ?_);intros;refine LP d0 ?_;intros;refine GZ [(12,[9])] ?_;refine Bo (i:=12) rfl (q_S [9] ?_);intros;refine LP e0 ?_;intros;refine GZ [] ?_;refine Bl (fuel:=0) [] (Ci [13,14]) rfl (CY rfl rfl (CY rfl rfl (AP (Dv ?_))));exact EI ((_,_),(_,_)) a
   refine q_S [] ?_;intros;refine GC 8 ([n.name]:List ByteArray) ?_;intros;refine GZ [(3,[7]),(12,[9])] ?_;refine Bo (i:=2) rfl (q_S [] ?_);intros;refine GC 6 (([q.op]:List Int):List Int) ?_;intros;refine GZ [(3,[7]),(12,[9])] ?_;refine Bo (i:=3) rfl (q_S [7] ?_);intros;refine LP d0 ?_;intros;refine GZ [(12,[9])] ?_;refine Bo (i:=12) rfl (q_S [9] ?_);intros;refine LP e0 ?_;intros;refine GZ [] ?_;refine Bl (fuel:=0) [] (Ci [13,14]) rfl (CY rfl rfl (CY rfl rfl (AP (Dv ?_))));exact EI ((_,_),(_,_)) a
  replace a:=im a m;refine o_z (Ah rfl (AE ?_));exact EI ((_,_),(_,_)) a
 intro N _ _ _ _ hm;intros;refine BP ?_;refine Aj (Ae (Ar rfl (AJ rfl (BW ?_))));intros;refine o_z (Aj (Tb [(4,[3])] ?_));refine Bl (fuel:=4) [] (Ci [0,1,2]) rfl (YD rfl (AM rfl rfl (AM rfl rfl (AP (Bo (i:=3) rfl ?_)))));refine q_S [] ?_;intros;obtain⟨O,m0,hm⟩:=bs hm;refine DE rfl (MN (λ_ P=>P) zAr zA m0) ?_;intros;refine GZ [(4,[3])] ?_;refine Bo (i:=4) rfl (q_S [3] ?_);intros;refine BW ?_;intros;refine GZ [] ?_;refine Bl (fuel:=0) [] (Ci [5,6]) rfl (CY rfl rfl (CY rfl rfl (AP (Dv (AD (GP 7 ?_))))));intros;obtain rfl:=sm hm;exact Ta
end
noncomputable def Fm(b:Tsk)(c:List ByteArray)(d:Int):Option (Tsk×Err) :=
  bnd (Fi b c d) λa=>some (a.1,(⟨a.2.2.n⟩:Err))
section
attribute [local irreducible] Vb Lc Rw Ob
theorem Nz{w:World}{A:Nat->Prop}(hA:∀k,A k->k<w.heap.size){a:Value}{d:Tsk}(f:Vb w A a d){b:Value}{e:List ByteArray}(g:Vb w A b e){c:Int}(h:W1 c){r:Tsk×Err}(hm:Fm d e c=some r) :
    Fn prog 8 [a,b,(.int .i64 c)] w λv w'=>Ext w w'/\T2 w' (upA A w w') v r:=by
 obtain⟨_,_,_⟩:=Db hA;apply CZ f;intros;apply CZ g;intros;refine AG func8 rfl ntmps8 ?_;unfold Fm at hm;refine Aj (Ae (Gx 2 ?_));intros;refine Cv 3 ?_;intros;refine Au rfl (o_z (Aj (Ae (Ep (Ar rfl (Ar rfl ?_))))));obtain⟨m,c0,hm⟩:=bs hm;refine Qx rfl (JO Fr.lt zV zV zI c0) λ_ _ _ _ _ _ i j l=>?_;apply Dw i;intros;apply Dw j;intros;apply Dw l;intros;refine Ar rfl (AZ rfl rfl (AZ rfl rfl (AZ rfl rfl (Cv 4 ?_))));intros;refine BW ?_;intros;refine Au rfl (Au rfl (o_z (Aj (Ae (Ep (Ar rfl ?_))))));refine BW ?_;intros;refine Au rfl (o_z (AD ?_));obtain rfl:=sm hm;exact Ge
end
end
section
open Go Go.RowKit
attribute [local irreducible] ewp owp hwp hwq hws Ev Evg Fn W6 X7 X4 X1
attribute [local irreducible] hwx YW hwz ZY
noncomputable def EE(c:Opr)(d:ByteArray)(e:List Int):Option Bool :=
  bnd (if c.name=d then(bnd (DJ c.pre e) λa=>if a=true then some true else some false)else(some false):Option Bool) λb=>some b
theorem Mk{w:World}{A:Nat->Prop}(hA:∀k,A k->k<w.heap.size){l:Value}{s:Opr}(B:Vb w A l s){a:Nat}{b:List Value}{t:ByteArray}(m:Blk w a 9 b)(n:A a)(c:Rp.R w A b t){d:Nat}{e:List Value}{u:List Int}(o:Blk w d 22 e)(p:A d)(f:Rp.R w A e u){r:Bool}(hm:EE s t u=some r) :
    Fn prog 33 [l,(.pointer (some ⟨a,0,none⟩)),(.pointer (some ⟨d,0,none⟩))] w λv w'=>Ext w w'/\Vb w' (upA A w w') v r:=by
 obtain⟨O,hB,c0⟩:=enter hA;have g:Lc 0 w O a 9 b:=⟨m,(c0 a n).2⟩;replace c:=Rp.mono c c0;obtain⟨rfl,z2⟩:=c;have h:Lc 0 w O d 22 e:=⟨o,(c0 d p).2⟩;replace f:=Rp.mono f c0;obtain⟨J,rfl,h4⟩:=f;replace h4:=Vb.of_slice h4;obtain⟨K,c6,rfl⟩:=h4.form;obtain⟨L,rfl,v8,v9,rfl,f0,k0,s0,t0⟩:=id B;obtain⟨M,v0,rfl⟩:=f0.form;obtain⟨N,z0,rfl⟩:=k0.form;refine AG func33 rfl ntmps33 ?_;unfold EE at hm;refine Aj (Ae (Ea 2 O rfl λP l0 x j y=>?_));refine Au rfl (o_z (Aj ?_));obtain⟨C,a0,hm⟩:=bs hm;refine Bc (λD w'=>∃(E:Unit) (G:Lab),W4 D [(4,(.bool C))]/\Bs w A w' G) ?_ ?_
 ·refine Ae (AJ rfl (AL (hc:=Blk.cell (i:=0) (y.1) rfl) rfl ?_));replace g:=g.st j;refine AL (hc:=Blk.cell (i:=0) (g.1) rfl) rfl (Qh rfl rfl rfl (λq=>?_) λq=>?_)
  ·replace a0:=ip a0 q;refine Ar rfl (Az rfl rfl (AJ rfl (Az rfl rfl (AL (hc:=Blk.cell (i:=2) (y.1) rfl) rfl (Az rfl rfl ?_)))));replace h:=h.st j;refine AL (hc:=Blk.cell (i:=0) (h.1) rfl) rfl (Az rfl rfl ?_);obtain⟨H,p0,a0⟩:=bs a0;replace hB:=hB.st j;replace h4:=h4.st j;refine BO (O:=x) (FX (λ_ W=>W) (Vb.mono (F:=Fr 0 l0 x) (f0.zs hA hB) Fr.lt) (vMo h4) p0) rfl λQ S T z I=>?_;obtain rfl:=I.bool;cases H
   case false =>
    replace a0:=iF a0;refine AV rfl rfl (Au rfl (o_z ?_));obtain rfl:=sm a0;exact⟨(),_,B3,hB.st z⟩
   replace a0:=iT a0;refine AV rfl rfl (Au rfl (o_z ?_));obtain rfl:=sm a0;exact⟨(),_,B3,hB.st z⟩
  replace a0:=im a0 q;refine Ar rfl (Ay rfl rfl (Ay rfl rfl (Ay rfl rfl (Ay rfl rfl (AS rfl rfl (Au rfl (o_z ?_)))))));obtain rfl:=sm a0;exact⟨(),_,B3,hB.st j⟩
 replace hB:=hB.st j;rintro U V ⟨E,g1,e0,hB⟩;refine AQ _ e0 ?_;refine AD ?_;obtain rfl:=sm hm;exact X2 rfl (AC rfl) ⟨hB.ext,vBool⟩
noncomputable def Ba(e:List Opr)(f:ByteArray)(g:List Int):Option Int :=
  bnd (rng (ρ:=Int) (λ(b:Nat)(c:Opr)(h:Unit)=>bnd (EE c f g) λd=>if d=true then some (.ret (b:Int))else some (.next ())) e 0 ()) λa=>fin a λ(i:Unit)=>some (-1)
theorem FK{w:World}{A:Nat->Prop}(hA:∀k,A k->k<w.heap.size){vx0:Value}{x0:List Opr}(i0:Vb w A vx0 x0){py0:Nat}{csy0:List Value}{y0:ByteArray}(hby0:Blk w py0 9 csy0)(hay0:A py0)(hcy0:Rp.R w A csy0 y0){py1:Nat}{csy1:List Value}{y1:List Int}(hby1:Blk w py1 22 csy1)(hay1:A py1)(hcy1:Rp.R w A csy1 y1){r:Int}(hm:Ba x0 y0 y1=some r) :
    Fn prog 32 [vx0,(.func (.func 33) #[] #[(.pointer (some ⟨py0,0,none⟩)),(.pointer (some ⟨py1,0,none⟩))])] w λv w'=>Ext w w'/\Vb w' (upA A w w') v r:=by
 obtain⟨O,hB,f0⟩:=enter hA;have hLy0:Lc 0 w O py0 9 csy0:=⟨hby0,(f0 py0 hay0).2⟩;replace hcy0:=Rp.mono hcy0 f0;obtain⟨rfl,z3⟩:=hcy0;have hLy1:Lc 0 w O py1 22 csy1:=⟨hby1,(f0 py1 hay1).2⟩;replace hcy1:=Rp.mono hcy1 f0;obtain⟨v4,rfl,h5⟩:=hcy1;replace h5:=Vb.of_slice h5;obtain⟨A6,c7,rfl⟩:=h5.form;obtain⟨A8,c9,rfl⟩:=i0.form;refine AG func32 rfl ntmps32 ?_;unfold Ba at hm;refine Aj (Ae (Au rfl (o_z (Aj (Aj (Ae (Ar rfl (AO rfl ?_))))))));have j0:=Bj i0.len;have i1:=rngNat j0;refine Ar rfl (o_z ?_);obtain⟨q0,k0,hm⟩:=bs hm;refine Dg (X:=Unit) (x0.length) k0 rfl j0 (λr0 s0=>[(0,(.slice A8 x0.length c9)),(1,(.func (.func 33) #[] #[(.pointer (some ⟨py0,0,none⟩)),(.pointer (some ⟨py1,0,none⟩))]))]) (λr0 s0 w'=>∃O':Lab,Bs w A w' O'/\Lc 0 w' O' py0 9 [(.string y0)]/\Lc 0 w' O' py1 22 [(.slice A6 y1.length c7)]/\Vb w' (Fr 0 w' O') (.slice A6 y1.length c7) y1) () ⟨O,hB,hLy0,hLy1,h5⟩ A1 (λ_ _=>rfl) ?_ ?_
 ·rintro j1 c0 r0 s0 g0 w0 d0 ⟨h0,hB,hLy0,hLy1,h5⟩ a0 b0 l0;have rk16:=YV d0 j0;refine Aj (Ae (Ar rfl (Au rfl (o_z (Aj (Ae (Ar rfl (Ar rfl (Ar rfl ?_)))))))));obtain⟨k1,l1,z0,m0,n0,o0,m1,n1,rfl,t0,u0,a1,b1⟩:=(i0.zs hA hB).elem' d0;obtain⟨c1,d1,rfl⟩:=t0.form;obtain⟨e1,f1,rfl⟩:=u0.form;refine BA (hA:=m0) (hj:=rfl) (hlt:=n0) rfl rfl (BE (hl:=rfl) (hc:=o0) rfl ?_);obtain⟨v0,g1,a0⟩:=bs a0;refine Lb (O:=h0) (A:=All g0) (R:=λw' F v=>Vb w' F v v0) (Mk (λ_ h=>h) (Vb.mono (F:=Fr 0 g0 h0) (Vb.ofAgg (cs:=[(.string c0.name),(.int .i64 c0.cost),(.slice c1 c0.pre.length d1),(.slice e1 c0.effs.length f1)]) (x:=c0) rfl ⟨_,_,rfl,t0,u0,a1,b1⟩) Fr.lt) hLy0.1 hLy0.1.lt (Rp.mono (F:=Fr 0 g0 h0) (x:=y0) (Vb.cells1 (vStr z3)) Fr.lt) hLy1.1 hLy1.1.lt (Rp.mono (F:=Fr 0 g0 h0) (x:=y1) (Vb.cells1 h5) Fr.lt) g1) rfl rfl rfl rfl λo1 p1 q1 e0 h1=>?_;obtain rfl:=h1.bool;cases v0
  case false =>
   replace a0:=iF a0;refine o_z (Ah rfl (AE ?_));obtain rfl:=sm a0;exact show Exists _ from⟨_,(),rfl,A1,_,hB.st e0,hLy0.st e0,hLy1.st e0,h5.st e0⟩
  replace a0:=iT a0;refine o_z (Am rfl (Aj (Ae (Ar rfl (Au rfl (o_z (AD ?_)))))));obtain rfl:=sm a0;obtain rfl:=b0 _ rfl;obtain rfl:=sm (Bp hm);replace hB:=hB.st e0;exact X2 rfl (AC rfl) ⟨hB.ext,(vInt rk16)⟩
 rintro r1 s1 ⟨t1,u1,rfl,p0,v1,hB,hLy0,hLy1,h5⟩;replace hm:=AW hm;refine AQ _ p0 ?_;refine Aj (Ae (Au rfl (o_z (AD ?_))));obtain rfl:=sm hm;exact X2 rfl (AC rfl) ⟨hB.ext,(vInt (W3 (-1)))⟩
noncomputable def FA(c:Tsk)(d:List Int)(e:Int):Option ((List Int)×Err) :=
  bnd (CE c) λa=>if a.n≠0 then(some (([]:List Int),(⟨a.n⟩:Err)))else(bnd (Ic c d e) λb=>some (b.1,(⟨b.2.n⟩:Err)))
section
attribute [local irreducible] Vb Lc Rw Ob
theorem Rr{w:World}{A:Nat->Prop}(hA:∀k,A k->k<w.heap.size){a:Value}{e:Tsk}(g:Vb w A a e){b:Value}{f:List Int}(h:Vb w A b f){c:Int}(i:W1 c){r:(List Int)×Err}(hm:FA e f c=some r) :
    Fn prog 34 [a,b,(.int .i64 c)] w λv w'=>Ext w w'/\T2 w' (upA A w w') v r:=by
 obtain⟨_,_,_⟩:=Db hA;apply CZ g;intros;apply CZ h;intros;refine AG func34 rfl ntmps34 ?_;unfold FA at hm;refine Aj (Ae (Gx 2 ?_));intros;refine Au rfl (Au rfl (o_z (Aj (Aj (Ae (Ep ?_))))));obtain⟨m,d0,hm⟩:=bs hm;refine DE rfl (FY (λ_ o=>o) zA d0) ?_;intros;refine Au rfl (o_z (Aj (Ae (Ar rfl (Cy rfl (λd=>?_) λd=>?_)))))
 ·replace hm:=ip hm d;refine o_z (Am rfl (Aj (Ae (Ar rfl (Au rfl (Au rfl (o_z (AD ?_))))))));obtain rfl:=sm hm;exact Ge
 replace hm:=im hm d;refine o_z (Ah rfl (AE (Aj (Ae (Ep (Ar rfl (Ar rfl ?_)))))));obtain⟨n,e0,hm⟩:=bs hm;refine KB rfl (QF Fr.lt zV zV zI e0) λ_ _ _ _ _ j l=>?_;apply Dw j;intros;apply Dw l;intros;refine AZ rfl rfl (AZ rfl rfl (Au rfl (Au rfl (o_z (AD ?_)))));obtain rfl:=sm hm;exact Ge
end
noncomputable def FF(h:Tsk)(j:List ByteArray):Option ((List Int)×Int×Err) :=
  bnd (CE h) λe=>if e.n≠0 then(some (([]:List Int),0,(⟨e.n⟩:Err)))else(bnd (rng (ρ:=(List Int)×Int×Err) (λ(k:Nat)(i:ByteArray)(a:(List Int)×(List Int))=>bnd (Ba h.ops i a.2) λc=>if c<0 then(some (.brk (a.1,a.2)))else(bnd (FA h a.2 c) λf=>if f.2.n≠0 then(some (.brk (a.1,a.2)))else(bnd (X6 8 a.1 [c]) λg=>some (.next (g,f.1))))) j 0 (([]:List Int),h.init)) λd=>fin d λ(b:(List Int)×(List Int))=>some (b.1,(b.1.length:Int),(⟨0⟩:Err)))
theorem OB{w:World}{A:Nat->Prop}(hA:∀k,A k->k<w.heap.size){vx0:Value}{x0:Tsk}(z0:Vb w A vx0 x0){vx1:Value}{x1:List ByteArray}(a1:Vb w A vx1 x1){r:(List Int)×Int×Err}(hm:FF x0 x1=some r) :
    Fn prog 14 [vx0,vx1] w λv w'=>Ext w w'/\T3 w' (upA A w w') v r:=by
 obtain⟨O,hB,u3⟩:=enter hA;obtain⟨v3,rfl,v4,v5,v6,v7,rfl,h8,z1,j2,a2⟩:=id z0;obtain⟨A9,k2,rfl⟩:=h8.form;obtain⟨b2,c2,rfl⟩:=z1.form;obtain⟨l2,m2,rfl⟩:=j2.form;obtain⟨n2,o2,rfl⟩:=a2.form;obtain⟨p2,q2,rfl⟩:=a1.form;refine AG func14 rfl ntmps14 ?_;unfold FF at hm;refine Aj (Ae (Ea 2 O rfl λd2 r2 e2 s2 d0=>?_));refine Au rfl (Au rfl (Au rfl (o_z (Aj (Aj (Ae (BE (hl:=rfl) (hc:=(d0.1).cellsAt) rfl ?_)))))));obtain⟨w3,t2,hm⟩:=bs hm;replace hB:=hB.st s2;refine BO (O:=e2) (FY (λ_ h=>h) (Vb.mono (F:=Fr 0 r2 e2) (z0.zs hA hB) Fr.lt) t2) rfl λx3 u2 f2 v0 v2=>?_;obtain⟨rfl,w2⟩:=v2.err;refine Au rfl (o_z (Aj (Ae (Ar rfl (Cy rfl (λb1=>?_) λb1=>?_)))))
 ·replace hm:=ip hm b1;refine o_z (Am rfl (Aj (Ae (Ar rfl (Au rfl (Au rfl (Au rfl (o_z (AD ?_)))))))));obtain rfl:=sm hm;replace hB:=hB.st v0;exact ZG rfl (AC rfl) (AC rfl) (AC rfl) ⟨hB.ext,_,_,_,rfl,(Vb.mono (F:=Fr 0 u2 f2) (Vb.nil _ _) hB.out),(vInt (W3 0)),(vErr w2)⟩
 replace hm:=im hm b1;refine o_z (Ah rfl (AE (Aj (Ae (Au rfl (o_z (Aj (Ae (AJ rfl ?_)))))))));replace d0:=d0.st v0;refine AL (hc:=Blk.cell (i:=1) (d0.1) rfl) rfl ?_;refine BL 3 f2 λg2 y3 x2 c1 c0=>?_;refine AR c0 rfl rfl rfl (Bg) (allOne) λz3 d1 c0=>?_;refine o_z (Aj (Aj (Ae (Ar rfl (AO rfl ?_)))));have e1:=Bj a1.len;have a4:=rngNat e1;refine Ar rfl (o_z ?_);obtain⟨q0,f1,hm⟩:=bs hm;refine Bc (aft q0 (λ(e0:(List Int)×(List Int))(b0:(Option Addr×Nat)×(Option Addr×Nat))=>[(8,(.slice b0.1.1 e0.1.length b0.1.2))]) (λe0 b0 w'=>∃O':Lab,Bs w A w' O'/\Rw 5 w' O' 3 (.slice b0.1.1 e0.1.length b0.1.2) e0.1)) ?_ ?_
 ·refine BC ?_;replace hB:=((hB.st v0).st c1).st d1;replace d0:=(d0.st c1).st d1;refine KO (σ:=(List Int)×(List Int)) (X:=(Option Addr×Nat)×(Option Addr×Nat)) (x1.length) f1 rfl e1 (λ(e0:(List Int)×(List Int))(b0:(Option Addr×Nat)×(Option Addr×Nat))=>[(2,(.pointer (some ⟨d2,0,none⟩))),(8,(.slice b0.1.1 e0.1.length b0.1.2)),(9,(.pointer (some ⟨g2,0,none⟩))),(22,(.slice p2 x1.length q2))]) _ (λe0 b0 w'=>∃O':Lab,Bs w A w' O'/\Lc 2 w' O' d2 26 [(.slice A9 x0.vars.length k2),(.slice b2 x0.init.length c2),(.slice l2 x0.goal.length m2),(.slice n2 x0.ops.length o2)]/\Rw 5 w' O' 3 (.slice b0.1.1 e0.1.length b0.1.2) e0.1/\Lc 3 w' O' g2 22 [(.slice b0.2.1 e0.2.length b0.2.2)]/\Vb w' (Fr 0 w' O') (.slice b0.2.1 e0.2.length b0.2.2) e0.2) _ ((none,0),(b2,c2)) ⟨x2,hB,d0,(Rw.nil 5 (by decide)),c0,(z1.zs hA hB)⟩ Af (λ_ _=>⟨rfl,rfl⟩) (λ_ _=>B3) (λ_ _ _ ⟨O',hB,d0,f0,c0,j0⟩=>⟨O',hB,f0⟩) ⟨rfl,rfl,rfl⟩ ⟨rfl,rfl⟩ ?_;rintro b4 y2 e0 b0 c4 z2 r0 ⟨a3,hB,d0,f0,c0,j0⟩ a0 g1 g0;have rk49:=YV r0 e1;refine Aj (Ae ?_);obtain⟨d4,e4,b3,h1,i1,j1,rfl,c3⟩:=(a1.zs hA hB).elem' r0;refine BA (hA:=h1) (hj:=rfl) (hlt:=i1) rfl rfl (AL (hc:=cat0 j1) rfl ?_);refine BL 4 a3 λf4 g4 w0 k0 y0=>?_;refine AR y0 rfl rfl rfl (Bg) (allOne) λk1 l0 y0=>?_;refine o_z (Aj (Ae (AJ rfl ?_)));replace d0:=(d0.st k0).st l0;refine AL (hc:=Blk.cell (i:=3) (d0.1) rfl) rfl (Qq rfl rfl rfl ?_);obtain⟨d3,e3,a0⟩:=bs a0;replace hB:=(hB.st k0).st l0;replace c0:=(c0.st k0).st l0;replace j0:=(j0.st k0).st l0;refine BO (O:=w0) (FK (λ_ h=>h) (Vb.mono (F:=Fr 0 k1 w0) (a2.zs hA hB) Fr.lt) y0.1 y0.1.lt (Rp.mono (F:=Fr 0 k1 w0) (x:=y2) (Vb.cells1 (vStr c3)) Fr.lt) c0.1 c0.1.lt (Rp.mono (F:=Fr 0 k1 w0) (x:=e0.2) (Vb.cells1 j0) Fr.lt) e3) rfl λh4 i4 f3 h0 g3=>?_;obtain⟨rfl,h2⟩:=g3.int;refine Au rfl (o_z (Aj (Aj (Ae (Ar rfl (Cp rfl rfl (λl1=>?_) λl1=>?_))))))
  ·replace a0:=ip a0 l1;refine o_z (Am rfl (Cl ?_));obtain rfl:=sm a0;exact show Exists _ from⟨_,((b0.1.1,b0.1.2),(b0.2.1,b0.2.2)),g0 _ rfl,B3,_,hB.st h0,((f0.st k0).st l0).st h0⟩
  replace a0:=im a0 l1;refine o_z (Ah rfl (AE (Aj (Ae ?_))));replace d0:=d0.st h0;refine BE (hl:=rfl) (hc:=(d0.1).cellsAt) rfl ?_;replace c0:=c0.st h0;refine AL (hc:=Blk.cell (i:=0) (c0.1) rfl) rfl (Ar rfl ?_);obtain⟨h3,i3,a0⟩:=bs a0;replace hB:=hB.st h0;replace j0:=j0.st h0;refine Ey (O:=f3) (R:=λw' F v=>T2 w' F v h3) (Rr Fr.lt (z0.zs hA hB) j0 h2 i3) rfl λj4 k4 l4 s0 j3=>?_;obtain⟨m4,n4,rfl,i2,m1⟩:=j3;obtain⟨n1,o1,rfl⟩:=i2.form;obtain⟨rfl,k3⟩:=m1.err;refine Ar rfl (AZ rfl rfl (AZ rfl rfl (Au rfl (Au rfl (o_z (Aj (Aj (Ae (Ar rfl (Cy rfl (λm0=>?_) λm0=>?_))))))))))
  ·replace a0:=ip a0 m0;refine o_z (Am rfl (Cl ?_));obtain rfl:=sm a0;exact show Exists _ from⟨_,((b0.1.1,b0.1.2),(b0.2.1,b0.2.2)),g0 _ rfl,B3,_,hB.st s0,(((f0.st k0).st l0).st h0).st s0⟩
  replace a0:=im a0 m0;refine o_z (Ah rfl (AE (Ae (Ar rfl (Ar rfl ?_)))));obtain⟨l3,n0,a0⟩:=bs a0;obtain⟨n0,p1,q1⟩:=Bw n0;replace f0:=(((f0.st k0).st l0).st h0).st s0;refine Dl rfl (a:=d3) f0 (vInt h2) (λ_=>rfl) rfl p1 q1 ⟨rfl,rfl⟩ λm3 r1 s1 n3 o3 o0 t0=>?_;rw[<- n0]at t0 ⊢;refine Ar rfl (Au rfl ?_);replace c0:=(c0.st s0).st o0;refine AR c0 rfl rfl rfl (Bg) (allOne) λp3 p0 c0=>?_;refine o_z ?_;obtain rfl:=sm a0;have i0:=(s0.an o0).an p0;exact show Exists _ from⟨_,((r1,s1),(n1,o1)),rfl,Af,_,hB.st i0,d0.st i0,t0.st p0,c0,(i2.st o0).st p0⟩
 replace hB:=((hB.st v0).st c1).st d1;rintro q3 t1 ⟨r3,s3,rfl,u0,t3,hB,f0⟩;replace hm:=AW hm;refine AQ _ u0 ?_;refine Aj (Ae (Ar rfl (Ar rfl (AO rfl ?_))));have u1:=Bj f0.len;have v1:=rngNat u1;refine Au rfl (Au rfl (Au rfl (o_z (AD ?_))));obtain⟨w1,y1,f0⟩:=f0.freeze;obtain rfl:=sm hm;replace hB:=hB.st y1;exact ZG rfl (AC rfl) (AC rfl) (AC rfl) ⟨hB.ext,_,_,_,rfl,(Vb.mono (F:=Fr 0 t1 w1) f0 hB.out),(vInt v1),(vErr (W3 0))⟩
end
end Go.Proofs.YthgeinkfgcgjiaaGreatDoor

/- CompileLeast returns true for every temporal task, and it reads behind the call as before. No conditions. -/
import Derived.Test.YtllibjejncelhaaGreatDoorCLE
import Derived.Test.YtllibjejncelhaaGreatDoorRows
set_option linter.unusedVariables false
set_option linter.unusedSimpArgs false
namespace Go.Proofs.YtllibjejncelhaaGreatDoor
open Go Go.RowKit Go.Proofs.Tryz
section
open Go Go.RowKit
theorem UI {σ ρ:Type} {x:Option (Ctl σ ρ)} {I:σ->Prop} (h:∃ b,x=some b/\∃ a,b=Ctl.next a/\I a):∃ a,x=some (.next a)/\I a:=by
  obtain ⟨_,h1,a,rfl,h2⟩:=h;exact ⟨a,h1,h2⟩
def Aeu (a:Nat) (f:PFd) (n:Int):Prop:=∃ k b w:Nat,f=⟨k,b,w,n⟩/\k < a/\b + w<=64/\w<=6/\n<=2 ^ w
def PkOk (a:List Int) (p:Pkr):Prop:=p.fields.length=a.length/\(∃ b:Nat,p.words=(b:Int)/\1<=b/\b<=a.length + 1/\∀ (i:Nat) f n,p.fields[i]?=some f->a[i]?=some n->Aeu b f n) /\
  ∀ (i j:Nat) f g,i < j->p.fields[i]?=some f->p.fields[j]?=some g->f.word < g.word\/(f.word=g.word/\f.bit + f.width<=g.bit)
theorem Zw:∀ {w:Nat},w<=6->Acp 1 (w:Int)=some ((2 ^ w:Nat):Int):=by
  intro w h;have:w=0\/w=1\/w=2\/w=3\/w=4\/w=5\/w=6:=(by omega);rcases this with rfl|rfl|rfl|rfl|rfl|rfl|rfl<;>rfl
theorem Zx {w:Nat} {n:Int} (a:w<=6) (h:((2 ^ w:Nat):Int) < n) (hn:n<=64):w < 6:=by
  rcases Q8 w 6 with hh|hh
  . exact hh
  . obtain rfl:w=6:=(by omega);simp at h;omega
def PkI (a:List Int) (c d:Nat) (b:List PFd):Prop:=(∀ (i:Nat) f n,b[i]?=some f->a[i]?=some n->Aeu d f n) /\
  (∀ (i j:Nat) f g,i < j->b[i]?=some f->b[j]?=some g->f.word < g.word\/(f.word=g.word/\f.bit + f.width<=g.bit))/\∀ (i:Nat) f,b[i]?=some f->f.word + 1 < (d:Int)\/(f.word + 1=(d:Int)/\f.bit + f.width<=(c:Int))
theorem PkI.over {a:List Int} {d g:Nat} {c:List PFd} (h:PkI a d g c):PkI a 0 (g + 1) c :=
  ⟨λ i f n hf hn=>by obtain ⟨k,b,w,e,e1,e2⟩:=h.1 i f n hf hn;exact ⟨k,b,w,e,by omega,e2⟩,h.2.1,λ i f hf=>by have:=h.2.2 i f hf;omega⟩
theorem Gp {α:Type} {l:List α} {x y:α} {i:Nat} (h:(l ++ [x])[i]?=some y):l[i]?=some y\/(i=l.length/\y=x):=by
  rcases L1 i l.length with hi|hi|hi
  . rw [B8 hi] at h;exact .inl h
  . subst hi;simp at h;exact .inr ⟨rfl,h.symm⟩
  . rw [B4 (by omega)] at h;rw [E8 (by simp;omega)] at h;cases h
theorem PkI.add {a:List Int} {q r w:Nat} {d:List PFd} {n:Int} (h:PkI a q r d) (hW:1≤r) (hn:a[d.length]?=some n) (l:q + w≤64) (m:w≤6) (e:n≤2 ^ w):PkI a (q + w) r (d ++ [⟨(r:Int) - 1,(q:Int),(w:Int),n⟩]):=by
  refine ⟨λ i f o hf b=>?_,λ i j f g k hf p=>?_,λ i f hf=>?_⟩
  . rcases Gp hf with c|⟨rfl,rfl⟩
    . exact h.1 i f o c b
    . rw [hn] at b;obtain rfl:=N4 b;exact ⟨r - 1,q,w,by congr 1;omega,by omega,l,m,e⟩
  . rcases Gp p with c|⟨rfl,rfl⟩
    . rcases Gp hf with hk|⟨rfl,rfl⟩
      . exact h.2.1 i j f g k hk c
      . have:=AO c;omega
    . rcases Gp hf with hk|⟨rfl,rfl⟩
      . have:=h.2.2 i f hk;dsimp only;omega
      . omega
  . rcases Gp hf with c|⟨rfl,rfl⟩
    . have:=h.2.2 i f c;omega
    . dsimp only;omega
theorem VF {a:List Int} (hl:a.length≤64) (B:∀ (i:Nat) n,a[i]?=some n→1≤n∧n≤64):∃ F,Jn a=some F∧∃ p,F=(some p,⟨0⟩)∧PkOk a p:=by
  unfold Jn;rw [if_neg (by omega)];refine Ga (λ m s=>∃ G H:Nat,s.1=(G:Int)/\G<=64/\s.2.words=(H:Int)/\1<=H/\H<=m + 1/\s.2.fields.length=m/\PkI a G H s.2.fields) (λ _=>False)
    ⟨0,1,rfl,by omega,rfl,by omega,by omega,rfl,λ i f n h=>by simp at h,λ i j f g _ h=>by simp at h,λ i f h=>by simp at h⟩ ?_ ?_ (λ q v=>v.elim)
  . rintro m n ⟨C,s2⟩ hm ⟨G,H,hs1,hB,hW,hW1,hWm,hlen,hI⟩;dsimp only at hs1 hW hlen hI;subst hs1;obtain ⟨D,hn2⟩:=B m n hm;have E:=AO hm;refine .inl (UI ?_);rw [if_neg (by omega),if_neg (by omega),At,Fe];refine Qy (λ c=>∃ w:Nat,c=(w:Int)/\w<=6) (λ c=>∃ w:Nat,c=(w:Int)/\w<=6/\n<=2 ^ w) (λ _=>False) (λ c=>7 - c.toNat) ⟨0,rfl,by omega⟩ ?_ ?_ (λ q v=>v.elim)
    . rintro c ⟨w,rfl,hw⟩;rw [Zw hw,At];by_cases hlt:((2 ^ w:Nat):Int) < n
      . have:=Zx hw hlt hn2;rw [if_pos hlt,BN (by unfold T3;omega),At];exact .inl ⟨_,rfl,⟨w + 1,by omega,by omega⟩,by omega⟩
      . rw [if_neg hlt];refine .inr (.inl ⟨_,rfl,w,rfl,hw,?_⟩);have:((2 ^ w:Nat):Int)=(2:Int) ^ w:=(by simp);omega
    . rintro c ⟨w,rfl,hw,hnw⟩;rw [Cg,BN (by unfold T3;omega),At];have d:∀ (e W':Nat) (q:Pkr),e + w<=64->1<=W'->W'<=m + 2->q.words=(W':Int)->q.fields=s2.fields->PkI a e W' s2.fields->∃ F,(bnd (T4 (q.words - 1)) λ k=>bnd (T5 32 q.fields [(⟨k,(e:Int),(w:Int),n⟩:PFd)]) λ l=>bnd (T4 ((e:Int) + (w:Int))) λ o=>some (Ctl.next (ρ:=(Option Pkr)×Err) (o,(⟨l,q.words⟩:Pkr))))=some F/\∃ r,F=Ctl.next r/\∃ G H:Nat,r.1=(G:Int)/\G<=64/\r.2.words=(H:Int)/\1<=H/\H<=m + 1 + 1/\r.2.fields.length=m + 1/\PkI a G H r.2.fields:=by
        intro e W' q t u A x y z;rw [x,y,BN (by unfold T3;omega),At,Bn (by simp;omega) (by simp;omega),At,BN (by unfold T3;omega),At];exact ⟨_,rfl,_,rfl,e + w,W',by simp,t,rfl,u,by omega,by simp [hlen],z.add u (by rw [hlen];exact hm) t hw hnw⟩
      by_cases b:64 < (G:Int) + (w:Int)
      . rw [if_pos b];dsimp only;rw [hW,BN (by unfold T3;omega),At,At];exact d 0 (H + 1) ⟨s2.fields,(H:Int) + 1⟩ (by omega) (by omega) (by omega) (by simp) rfl hI.over
      . rw [if_neg b,At];exact d G H s2 (by omega) hW1 (by omega) hW rfl hI
  . rintro ⟨C,s2⟩ ⟨G,H,hs1,hB,hW,hW1,hWm,hlen,hI⟩;exact ⟨_,rfl,s2,rfl,hlen,⟨H,hW,hW1,hWm,hI.1⟩,hI.2.1⟩
def InF (f:PFd) (x:Int) (k c:Nat):Prop:=f.word=(k:Int)/\f.bit<=(c:Int)/\(c:Int) < f.bit + f.width/\x.toNat.testBit (c - f.bit.toNat)=true
def Adf (b:List PFd) (s:List Int) (p:Nat->Prop) (d:List U64):Prop:=∀ (k c:Nat) a,d[k]?=some a->c < 64->(a.getLsbD c=true↔∃ (i:Nat) (f:PFd) (x:Int),p i/\b[i]?=some f/\s[i]?=some x/\InF f x k c)
theorem Aff {w:Nat} (h:w<=6):((1:U64) <<< w) - (1:U64)=BitVec.ofNat 64 (2 ^ w - 1):=by
  have:w=0\/w=1\/w=2\/w=3\/w=4\/w=5\/w=6:=(by omega);rcases this with rfl|rfl|rfl|rfl|rfl|rfl|rfl<;>rfl
theorem TF {w b c:Nat} (a:w<=6) (hc:c < 64):((((1:U64) <<< w) - (1:U64)) <<< b).getLsbD c=(decide (b<=c) && decide (c < b + w)):=by
  rw [Aff a,BitVec.getLsbD_shiftLeft,H3,Nat.testBit_two_pow_sub_one];by_cases d:b<=c<;>by_cases e:c < b + w<;>simp [d,e,hc]<;>omega
theorem Ra {x:Int} {w j:Nat} (c:0<=x) (d:x < 2 ^ w) (a:x.toNat.testBit j=true):j < w:=by
  rcases Q8 j w with h|h
  . exact h
  . have b:x.toNat < 2 ^ w:=by
      have:((2 ^ w:Nat):Int)=(2:Int) ^ w:=(by simp);omega
    rw [Nat.testBit_lt_two_pow (I6 b (G3 (by omega) h))] at a;cases a
theorem PkOk.field {a:List Int} {p:Pkr} (h:PkOk a p) {s:List Int} (hs:StateOk a s) {i:Nat} {f:PFd} (hf:p.fields[i]?=some f):∃ (k b w:Nat) (n x:Int),f=⟨k,b,w,n⟩/\(k:Int) < p.words/\b + w<=64/\w<=6/\s[i]?=some x/\0<=x/\x < n/\x < 2 ^ w:=by
  obtain ⟨c,⟨W,hW,_,_,h2⟩,h3⟩:=h;have hi:=AO hf;obtain ⟨n,hn⟩:=AL (l:=a) (k:=i) (by omega);obtain ⟨x,hx⟩:=AL (l:=s) (k:=i) (by have:=hs.1;omega);obtain ⟨k,b,w,e,e1,e2,e3,e4⟩:=h2 i f n hf hn;have:=hs.2 i x n hx hn;exact ⟨k,b,w,n,x,e,by omega,e2,e3,hx,this.1,this.2,by omega⟩
theorem PkOk.same {a:List Int} {p:Pkr} (h:PkOk a p) {i j:Nat} {f g:PFd} {k c:Nat} (hf:p.fields[i]?=some f) (b:p.fields[j]?=some g) (d:f.word=(k:Int)/\f.bit<=(c:Int)/\(c:Int) < f.bit + f.width) (e:g.word=(k:Int)/\g.bit<=(c:Int)/\(c:Int) < g.bit + g.width):i=j:=by
  rcases L1 i j with hh|hh|hh
  . have:=h.2.2 i j f g hh hf b;omega
  . exact hh
  . have:=h.2.2 j i g f hh b hf;omega
theorem OD {d:List Int} {p:Pkr} (h:PkOk d p) (hl:d.length≤64) {s:List Int} (hs:StateOk d s):∃ C,Dq p s=some C∧C.2=⟨0⟩∧(C.1.length:Int)=p.words∧Adf p.fields s (λ _=>True) C.1:=by
  obtain ⟨D,hW,hW1,hW2,_⟩:=h.2.1;unfold Dq;rw [if_neg (by have:=h.1;have:=hs.1;omega),hW,Sv (by omega) (by omega),At];refine Ga (λ m r=>(r.length:Int)=(D:Int)/\Adf p.fields s (λ i=>i < m) r) (λ _=>False) ⟨by simp,?_⟩ ?_ ?_ (λ q A=>A.elim)
  . intro k c a j _;have:=List.eq_of_mem_replicate (G2 j);subst this;constructor
    . intro B;simp at B
    . rintro ⟨i,_,_,hi,_⟩;omega
  . rintro m f r hm ⟨o,hb⟩;refine .inl (UI ?_);obtain ⟨k,b,w,n,x,rfl,hk,hbw,hw,hx,hx0,hxn,hxw⟩:=h.field hs hm;dsimp only;obtain ⟨a,j⟩:=AL (l:=r) (k:=k) (by omega);rw [hx,At,if_neg (by omega),At,if_neg (by omega),At,Fe,CY,j,At,At];unfold AcM;rw [if_pos (by omega),At,At];refine ⟨_,rfl,_,rfl,by simpa using o,?_⟩;simp only [L2];have v:∀ c:Nat,c < 64->((a ||| (BitVec.ofInt 64 x <<< b)).getLsbD c=true↔a.getLsbD c=true\/(b<=c/\x.toNat.testBit (c - b)=true)):=by
      intro c hc;have t:BitVec.ofInt 64 x=BitVec.ofNat 64 x.toNat:=by
        rw [<- BitVec.ofInt_natCast,I4 hx0]
      rw [BitVec.getLsbD_or,BitVec.getLsbD_shiftLeft,t,H3];by_cases u:b<=c
      . have:c - b < 64:=(by omega);simp [hc,u,this,Nat.not_lt.2 u]
      . simp [hc,u,Nat.lt_of_not_le u]
    intro z c a' g hc;by_cases e:k=z
    . subst e;rw [E6 (AO j)] at g;obtain rfl:=N4 g;rw [v c hc,hb k c a j hc];constructor
      . rintro (⟨i,f,y,hi,hr⟩|⟨u,h2⟩)
        . exact ⟨i,f,y,by omega,hr⟩
        . have:=Ra hx0 hxw h2;exact ⟨m,_,x,by omega,hm,hx,rfl,by dsimp only;omega,by dsimp only;omega,by simpa using h2⟩
      . rintro ⟨i,f,y,hi,hf,hy,hin⟩;by_cases he:i=m
        . subst he;rw [hm] at hf;obtain rfl:=N4 hf;rw [hx] at hy;obtain rfl:=N4 hy;obtain ⟨_,i2,i3,i4⟩:=hin;dsimp only at i2 i3 i4;exact .inr ⟨by omega,by simpa using i4⟩
        . exact .inl ⟨i,f,y,by omega,hf,hy,hin⟩
    . rw [H1 e] at g;rw [hb z c a' g hc];constructor
      . rintro ⟨i,f,y,hi,hr⟩;exact ⟨i,f,y,by omega,hr⟩
      . rintro ⟨i,f,y,hi,hf,hy,hin⟩;by_cases he:i=m
        . subst he;rw [hm] at hf;obtain rfl:=N4 hf;have:=hin.1;dsimp only at this;omega
        . exact ⟨i,f,y,by omega,hf,hy,hin⟩
  . rintro r ⟨o,hb⟩;refine ⟨_,rfl,rfl,o,λ k c a j hc=>?_⟩;rw [hb k c a j hc];constructor
    . rintro ⟨i,f,x,_,hr⟩;exact ⟨i,f,x,trivial,hr⟩
    . rintro ⟨i,f,x,_,hf,hr⟩;exact ⟨i,f,x,AO hf,hf,hr⟩
theorem UK {k b w:Nat} {n:Int}:Fc ⟨k,b,w,n⟩=some ((((1:U64) <<< w) - (1:U64)) <<< b):=by
  unfold Fc AcM;dsimp only;rw [if_pos (by omega),At,if_pos (by omega),At];simp
theorem AaO {d:List Int} {p:Pkr} (h:PkOk d p) {s:List Int} (hs:StateOk d s) {r:List U64} (y:(r.length:Int)=p.words) (hb:Adf p.fields s (λ _=>True) r) {i:Nat} {f:PFd} {x:Int} (hf:p.fields[i]?=some f) (t:s[i]?=some x):Gt f r=some x:=by
  obtain ⟨k,b,w,n,x',rfl,hk,hbw,hw,hx',hx0,hxn,hxw⟩:=h.field hs hf;rw [t] at hx';obtain rfl:=N4 hx';obtain ⟨a,ha⟩:=AL (l:=r) (k:=k) (by omega);unfold Gt;dsimp only;rw [CY,ha,At,UK,At];unfold AcI;rw [if_pos (by omega),At];have o    : (a &&& ((((1:U64) <<< w) - (1:U64)) <<< b)) >>> b=BitVec.ofNat 64 x.toNat:=by
    apply BitVec.eq_of_getLsbD_eq;intro j hj;rw [BitVec.getLsbD_ushiftRight,BitVec.getLsbD_and,H3];by_cases q:b + j < 64
    . rw [TF hw q];by_cases e:j < w
      . have v:=hb k (b + j) a ha q;have z:a.getLsbD (b + j)=x.toNat.testBit j:=by
          cases g:x.toNat.testBit j with
          | true=>exact v.2 ⟨i,_,x,trivial,hf,t,rfl,by dsimp only;omega,by dsimp only;omega,by simpa using g⟩
          | false =>
            cases A:a.getLsbD (b + j) with
            | false=>rfl
            | true =>
              obtain ⟨C,f',x',_,hf',hx',hin⟩:=v.1 A;have u:=h.same (k:=k) (c:=b + j) hf hf' ⟨rfl,by dsimp only;omega,by dsimp only;omega⟩ ⟨hin.1,hin.2.1,hin.2.2.1⟩;subst u;rw [hf] at hf';obtain rfl:=N4 hf';rw [t] at hx';obtain rfl:=N4 hx';have:=hin.2.2.2;simp at this;rw [this] at g;cases g
        rw [z];simp [hj,e]
      . have m:x.toNat.testBit j=false:=by
          cases g:x.toNat.testBit j with
          | false=>rfl
          | true=>exact absurd (Ra hx0 hxw g) e
        simp [m,e]
    . have m:x.toNat.testBit j=false:=by
        cases g:x.toNat.testBit j with
        | false=>rfl
        | true=>have:=Ra hx0 hxw g;omega
      rw [BitVec.getLsbD_of_ge _ _ (by omega)];simp [m]
  have B:(2:Int) ^ w<=64:=by
    have:w=0\/w=1\/w=2\/w=3\/w=4\/w=5\/w=6:=(by omega);rcases this with rfl|rfl|rfl|rfl|rfl|rfl|rfl<;>decide
  simp only [L2];rw [o];congr 1;rw [BitVec.toInt_eq_toNat_of_lt (by rw [BitVec.toNat_ofNat];omega),BitVec.toNat_ofNat];omega
theorem Od {g:List Int} {p:Pkr} (h:PkOk g p) (hl:g.length≤64) {s:List Int} (hs:StateOk g s) {v:List U64} (A:(v.length:Int)=p.words) (hb:Adf p.fields s (λ _=>True) v):EY p v=some (s,⟨0⟩):=by
  obtain ⟨L,hW,hW1,hW2,_⟩:=h.2.1;have H:=hs.1;have I:=h.1;unfold EY;rw [if_neg (by omega),Sv (by omega) (by omega),At];unfold Fd;rw [if_pos (by omega),At];refine UA (λ m z=>z.1.length=s.length/\(∀ (i:Nat) x,i < m->s[i]?=some x->z.1[i]?=some x)/\z.2.length=v.length/\Adf p.fields s (λ i=>m<=i) z.2) ⟨by simp;omega,λ i x hi=>by omega,rfl,?_⟩ ?_ ?_
  . intro k c a r hc;rw [hb k c a r hc];constructor
    . rintro ⟨i,f,x,_,hr⟩;exact ⟨i,f,x,by omega,hr⟩
    . rintro ⟨i,f,x,_,hr⟩;exact ⟨i,f,x,trivial,hr⟩
  . rintro m f ⟨j,rest⟩ hm ⟨i1,i2,i3,i4⟩;dsimp only at i1 i2 i3 i4 ⊢;obtain ⟨k,b,w,n,x,rfl,hk,hbw,hw,hx,hx0,hxn,hxw⟩:=h.field hs hm;have J:=AO hx;obtain ⟨u,hu⟩:=AL (l:=j) (k:=m) (by omega);obtain ⟨a,r⟩:=AL (l:=rest) (k:=k) (by omega);rw [AaO h hs A hb hm hx,At,hu,At,E6 (by omega),At];dsimp only;rw [if_neg (by omega),CY,r,At,UK,At,At];refine ⟨_,rfl,by simpa using i1,λ i y hi o=>?_,by simpa using i3,?_⟩
    . by_cases e:i=m
      . subst e;rw [hx] at o;obtain rfl:=N4 o;exact E6 (by omega)
      . show (j.set m x)[i]?=_;rw [H1 (by omega)];exact i2 i y (by omega) o
    . show Adf p.fields s _ (rest.set ((k:Int)).toNat _);simp only [L2];intro E c a' d hc;by_cases e:k=E
      . subst e;rw [E6 (AO r)] at d;obtain rfl:=N4 d;rw [BitVec.getLsbD_and,BitVec.getLsbD_not,TF hw hc];have F:=i4 k c a r hc;constructor
        . intro q;simp only [L9,Bool.not_eq_true',decide_eq_true_eq] at q;obtain ⟨i,f,y,hi,hf,o,hin⟩:=F.1 q.1;refine ⟨i,f,y,?_,hf,o,hin⟩;rcases Q8 m i with hlt|hge
          . exact hlt
          . exfalso;obtain rfl:i=m:=(by omega);rw [hm] at hf;obtain rfl:=N4 hf;obtain ⟨_,j2,j3,_⟩:=hin;dsimp only at j2 j3;have G:=q.2.2;rw [show decide (b<=c)=true from by simp;omega,show decide (c < b + w)=true from by simp;omega] at G;cases G
        . rintro ⟨i,f,y,hi,hf,o,hin⟩;have B:=F.2 ⟨i,f,y,by omega,hf,o,hin⟩;have C:¬ (b<=c/\c < b + w):=λ q=>by
            have:=h.same (k:=k) (c:=c) hm hf ⟨rfl,by dsimp only;omega,by dsimp only;omega⟩ ⟨hin.1,hin.2.1,hin.2.2.1⟩;omega
          rw [B];by_cases D:b<=c
          . have K:¬ c < b + w:=λ q=>C ⟨D,q⟩;simp [hc,D,K]
          . simp [hc,D]
      . rw [H1 e] at d;rw [i4 E c a' d hc];constructor
        . rintro ⟨i,f,y,hi,hf,o,hin⟩;refine ⟨i,f,y,?_,hf,o,hin⟩;rcases Q8 m i with hlt|hge
          . exact hlt
          . exfalso;obtain rfl:i=m:=(by omega);rw [hm] at hf;obtain rfl:=N4 hf;have:=hin.1;dsimp only at this;omega
        . rintro ⟨i,f,y,hi,hr⟩;exact ⟨i,f,y,by omega,hr⟩
  . rintro ⟨j,rest⟩ ⟨i1,i2,i3,i4⟩;dsimp only at i1 i2 i3 i4;rw [Cg];dsimp only;have t:j=s:=by
      apply K0;intro i;rcases Q8 i s.length with hi|hi
      . obtain ⟨x,hx⟩:=AL (l:=s) (k:=i) hi;rw [hx];exact i2 i x (by omega) hx
      . rw [E8 hi,E8 (by omega)]
    subst t;refine UA (λ _ _=>True) trivial (λ k a _ hk _=>⟨(),?_,trivial⟩) (λ _ _=>rfl);obtain ⟨a',d⟩:=AL (l:=rest) (k:=k) (by have:=AO hk;omega);rw [d,At];have hz:a'=0:=by
      apply BitVec.eq_of_getLsbD_eq;intro c hc;cases B:a'.getLsbD c with
      | false=>simp
      | true =>
        obtain ⟨i,f,x,hi,hf,_⟩:=(i4 k c a' d hc).1 B;have:=AO hf;omega
    subst hz;rw [if_neg (by simp)]
theorem XT {a:List Int} {p:Pkr} (h:PkOk a p) (hl:a.length<=64) {s c:List Int} (hs:StateOk a s) (b:StateOk a c) {d:List U64} (f:Dq p s=some (d,⟨0⟩)) (g:Dq p c=some (d,⟨0⟩)):s=c:=by
  obtain ⟨j,r1,r2,r3,r4⟩:=OD h hl hs;obtain ⟨q,q1,q2,q3,q4⟩:=OD h hl b;rw [f] at r1;rw [g] at q1;obtain rfl:=N4 r1;obtain rfl:=N4 q1;have i:=Od h hl hs r3 r4;have e:=Od h hl b q3 q4;rw [i] at e;have:=N4 e;exact congrArg Prod.fst this
end
section
open Go Go.RowKit
theorem RD {K V:Type} [MKey K] (z:V) (k b:K) (v:V):∀ l:List (K×V),V0 z (X7 l k v) b=if k=b then v else V0 z l b
  | []=>by simp only [X7,V0]
  | p :: r=>by
    have d:=RD z k b v r;simp only [X7];by_cases c:p.1=k
    . rw [if_pos c];simp only [V0];by_cases a:k=b
      . rw [if_pos a,if_pos a]
      . rw [if_neg a,if_neg a,if_neg (by rw [c];exact a)]
    . rw [if_neg c];simp only [V0,d];by_cases a:k=b
      . rw [if_pos a,if_pos a,if_neg (by rw [<- a];exact c)]
      . rw [if_neg a,if_neg a]
theorem WR (p:Pkr) (a:List U64):∃ h,DG p a=some h:=by
  have:∃ c,DG p a=some c/\True:=by
    unfold DG;refine Ga (λ _ _=>True) (λ _=>False) trivial (λ i x s _ _=>.inl ?_) (λ s _=>?_) (λ q b=>b.elim)
    . exact ⟨_,rfl,trivial⟩
    . exact ⟨_,rfl,trivial⟩
  obtain ⟨h,h1,_⟩:=this;exact ⟨h,h1⟩
theorem AaP (a b:List U64):Dy a b=some (decide (a=b)):=by
  unfold Dy;by_cases hl:(a.length:Int)=(b.length:Int)
  . rw [if_neg (by omega)];have:∃ p,(bnd (rng (ρ:=Bool) (λ (f:Nat) (g:U64) (_:Unit)=>bnd (b[f]?) λ n=>if (g.toNat:Int)≠(n.toNat:Int) then (some (.ret false)) else (some (.next ()))) a 0 ()) λ c=>fin c λ (_:Unit)=>some true)=some p/\p=decide (a=b):=by
      refine Ga (λ m _=>∀ (i:Nat),i < m->a[i]?=b[i]?) (λ p=>p=false/\a≠b) (λ i hi=>by omega) ?_ ?_ ?_
      . intro i x _ d o;obtain ⟨y,hy⟩:=AL (l:=b) (k:=i) (by have:=AO d;omega);rw [hy,At];by_cases he:x=y
        . subst he;rw [if_neg (by simp)];refine .inl ⟨(),rfl,λ j hj=>?_⟩;by_cases e:j=i
          . subst e;rw [d,hy]
          . exact o j (by omega)
        . rw [if_pos (λ h=>he (BitVec.eq_of_toNat_eq (by omega)))];refine .inr ⟨_,rfl,rfl,λ h=>he ?_⟩;rw [h,hy] at d;exact (N4 d).symm
      . intro _ o;refine ⟨_,rfl,?_⟩;symm;rw [decide_eq_true_eq];apply K0;intro i;rcases Q8 i a.length with h|h
        . exact o i h
        . rw [E8 h,E8 (by omega)]
      . rintro q ⟨rfl,hne⟩;exact ⟨_,rfl,by simp [hne]⟩
    obtain ⟨p,h1,h2⟩:=this;rw [h1,h2]
  . rw [if_pos hl];congr 1;symm;rw [decide_eq_false_iff_not];exact λ h=>hl (by rw [h])
structure RegI (vars:List Int) (r:Reg) (L:List (List Int)):Prop where
  pk:PkOk vars r.packer
  len:r.entries.length=L.length
  st:∀ (i:Nat) s,L[i]?=some s->StateOk vars s
  words:∀ (i:Nat) s e,L[i]?=some s->r.entries[i]?=some e->Dq r.packer s=some (e.words,⟨0⟩)
  nodup:∀ (i j:Nat) s,L[i]?=some s->L[j]?=some s->i=j
  tab:∀ (i:Nat) e,r.entries[i]?=some e->∃ h,DG r.packer e.words=some h/\(i:Int)∈V0 ([]:List Int) r.table.l h
  val:∀ h a,a∈V0 ([]:List Int) r.table.l h->∃ i:Nat,a=(i:Int)/\i < L.length
  few:∀ h,(V0 ([]:List Int) r.table.l h).length<=L.length
def V4 (a:Reg):List RLk:=a.entries.map (·.link)
theorem WS {b:List Int} (hl:b.length<=64) (c:∀ (i:Nat) n,b[i]?=some n->1<=n/\n<=64):∃ f,GX b=some f/\∃ q,f=(some q,⟨0⟩)/\RegI b q []/\V4 q=[]:=by
  obtain ⟨f,h1,p,rfl,hp⟩:=VF hl c;unfold GX;rw [h1,At,if_neg (by simp),At];exact ⟨_,rfl,_,rfl,⟨hp,rfl,λ i s h=>by simp at h,λ i s e h=>by simp at h,λ i j s h=>by simp at h,λ i e h=>by simp at h,λ h a d=>by simp [V0] at d,λ h=>by simp [V0]⟩,rfl⟩
theorem QE {d:List Int} (hl:d.length≤64) {B:Reg} {L:List (List Int)} (h:RegI d B L) {s:List Int} (hs:StateOk d s):∃ (c:List U64) (f:Int),Dq B.packer s=some (c,⟨0⟩)∧DG B.packer c=some f ∧
    ((∃ i:Nat,L[i]?=some s/\De B s=some (c,f,(i:Int),⟨0⟩))\/((∀ i:Nat,L[i]?≠some s)/\De B s=some (c,f,-1,⟨0⟩))):=by
  obtain ⟨⟨c,er⟩,p1,p2,p3,p4⟩:=OD h.pk hl hs;dsimp only at p2 p3 p4;subst p2;obtain ⟨f,hhe⟩:=WR B.packer c;refine ⟨c,f,p1,hhe,?_⟩;have r:∃ b,De B s=some b/\((∃ i:Nat,L[i]?=some s/\b=(c,f,(i:Int),⟨0⟩))\/((∀ i:Nat,L[i]?≠some s)/\b=(c,f,-1,⟨0⟩))):=by
    unfold De;rw [p1,At,if_neg (by simp),hhe,At];refine Ga (λ m _=>∀ (j:Nat) (i:Nat),j < m->(V0 ([]:List Int) B.table.l f)[j]?=some (i:Int)->L[i]?≠some s) (λ b=>∃ i:Nat,L[i]?=some s/\b=(c,f,(i:Int),⟨0⟩)) (λ j i hj=>by omega) ?_ ?_ ?_
    . intro m a _ hm t;obtain ⟨i,rfl,hi⟩:=h.val f a (G2 hm);obtain ⟨e,he⟩:=AL (l:=B.entries) (k:=i) (by rw [h.len];exact hi);obtain ⟨v,hs'⟩:=AL (l:=L) (k:=i) hi;have n:=h.words i v e hs' he;rw [CY,he,At,AaP,At];by_cases g:e.words=c
      . rw [decide_eq_true g,DE];rw [g] at n;have:=XT h.pk hl (h.st i v hs') hs n p1;subst this;exact .inr ⟨_,rfl,i,hs',rfl⟩
      . rw [decide_eq_false g,Fe];refine .inl ⟨(),rfl,λ j w hj o=>?_⟩;by_cases x:j=m
        . subst x;rw [hm] at o;have y:i=w:=(by have:=N4 o;omega);subst y;intro p;rw [p] at hs';obtain rfl:=N4 hs';rw [p1] at n;exact g (congrArg Prod.fst (N4 n)).symm
        . exact t j w (by omega) o
    . intro _ t;refine ⟨_,rfl,.inr ⟨λ i p=>?_,rfl⟩⟩;obtain ⟨e,he⟩:=AL (l:=B.entries) (k:=i) (by rw [h.len];exact AO p);have n:=h.words i s e p he;rw [p1] at n;have u:c=e.words:=congrArg Prod.fst (N4 n);obtain ⟨A,t1,t2⟩:=h.tab i e he;rw [<- u,hhe] at t1;obtain rfl:=N4 t1;obtain ⟨j,hj⟩:=G6 t2;exact t j i (AO hj) hj p
    . rintro q ⟨i,hi,rfl⟩;exact ⟨_,rfl,.inl ⟨i,hi,rfl⟩⟩
  obtain ⟨b,k1,z⟩:=r;rcases z with ⟨i,hi,rfl⟩|⟨hn,rfl⟩
  . exact .inl ⟨i,hi,k1⟩
  . exact .inr ⟨hn,k1⟩
theorem RE {b:List Int} (hl:b.length≤64) {u:Reg} {L:List (List Int)} (h:RegI b u L) {s:List Int} (hs:StateOk b s) (r:L.length < 65536) :
    (∃ i:Nat,L[i]?=some s/\BS u s=some ((i:Int),false,⟨0⟩,u))\/((∀ i:Nat,L[i]?≠some s)/\∃ p,BS u s=some ((L.length:Int),true,⟨0⟩,p)/\RegI b p (L ++ [s])/\V4 p=V4 u ++ [⟨-1,-1,0⟩]):=by
  obtain ⟨t,hh,p1,p2,hf⟩:=QE hl h hs;unfold BS;have d:=h.len;rcases hf with ⟨i,hi,hf⟩|⟨m,hf⟩
  . refine .inl ⟨i,hi,?_⟩;rw [hf,At,if_neg (by simp),if_pos (by dsimp only;omega)]
  . refine .inr ⟨m,?_⟩;have q:=h.few hh;rw [hf,At,if_neg (by simp),if_neg (by dsimp only;omega),if_neg (by omega)];dsimp only;rw [Bn (by simp;omega) (by simp;omega),At,Bn (by simp;omega) (by simp;omega),At,d];have c:∀ k,V0 ([]:List Int) (X7 u.table.l hh (V0 ([]:List Int) u.table.l hh ++ [(L.length:Int)])) k=if hh=k then V0 ([]:List Int) u.table.l hh ++ [(L.length:Int)] else V0 ([]:List Int) u.table.l k:=λ k=>RD _ _ _ _ _;refine ⟨_,rfl,⟨h.pk,by simp [d],?_,?_,?_,?_,?_,?_⟩,by simp [V4]⟩
    . intro i o hi;rcases Gp hi with hi|⟨_,rfl⟩
      . exact h.st i o hi
      . exact hs
    . intro i o e hi he;rcases Gp hi with hi|⟨hi,rfl⟩
      . rcases Gp he with he|⟨he,_⟩
        . exact h.words i o e hi he
        . have:=AO hi;omega
      . rcases Gp he with he|⟨he,rfl⟩
        . have:=AO he;omega
        . exact p1
    . intro i j o hi hj;rcases Gp hi with n|⟨n,hs2⟩
      . rcases Gp hj with f|⟨f,hs2⟩
        . exact h.nodup i j o n f
        . exact absurd (hs2 ▸ n) (m i)
      . rcases Gp hj with f|⟨f,_⟩
        . exact absurd (hs2 ▸ f) (m j)
        . omega
    . intro i e he;rcases Gp he with he|⟨hi,rfl⟩
      . obtain ⟨k,k1,k2⟩:=h.tab i e he;refine ⟨k,k1,?_⟩;dsimp only;rw [c];by_cases g:hh=k
        . subst g;rw [if_pos rfl];exact G0 _ k2
        . rw [if_neg g];exact k2
      . refine ⟨hh,p2,?_⟩;dsimp only;rw [c,if_pos rfl,hi,d];simp
    . intro k a ha;dsimp only at ha;rw [c] at ha;simp only [I5,F7];by_cases g:hh=k
      . rw [if_pos g] at ha;rcases N1.1 ha with ha|ha
        . obtain ⟨i,h1,h2⟩:=h.val hh a ha;exact ⟨i,h1,by omega⟩
        . exact ⟨L.length,by simpa using ha,by omega⟩
      . rw [if_neg g] at ha;obtain ⟨i,h1,h2⟩:=h.val k a ha;exact ⟨i,h1,by omega⟩
    . intro k;dsimp only;rw [c];have:=h.few k;simp only [I5,F7];by_cases g:hh=k
      . rw [if_pos g];simp;omega
      . rw [if_neg g];omega
theorem LH {a:List Int} {b:Reg} {L:List (List Int)} (h:RegI a b L) {i:Nat} (hi:i < L.length):Cd b (i:Int)=some true:=by
  unfold Cd;rw [if_pos (by omega),if_pos (by rw [h.len];omega)];rfl
theorem Uc {a:List Int} (hl:a.length<=64) {f:Reg} {L:List (List Int)} (h:RegI a f L) {i:Nat} {s:List Int} (hi:L[i]?=some s):Dw f (i:Int)=some (s,⟨0⟩):=by
  obtain ⟨e,he⟩:=AL (l:=f.entries) (k:=i) (by rw [h.len];exact AO hi);have hs:=h.st i s hi;obtain ⟨⟨d,er⟩,p1,p2,p3,p4⟩:=OD h.pk hl hs;have c:=h.words i s e hi he;rw [p1] at c;have b:d=e.words:=congrArg Prod.fst (N4 c);dsimp only at p3 p4;rw [b] at p3 p4;unfold Dw;rw [LH h (AO hi),At,DE,CY,he,At,Od h.pk hl hs p3 p4,At]
theorem QF {b:List Int} {t:Reg} {L:List (List Int)} (h:RegI b t L) {i:Nat} (hi:i < L.length) {p o c:Int} (r:p=-1\/∃ j:Nat,p=(j:Int)/\j < L.length):∃ g,Di t (i:Int) p o c=some (⟨0⟩,g)/\RegI b g L/\V4 g=(V4 t).set i ⟨p,o,c⟩:=by
  obtain ⟨e,he⟩:=AL (l:=t.entries) (k:=i) (by rw [h.len];exact hi);unfold Di;have d:(bnd (Cd t (i:Int)) λ m=>if m=true then if p≠(-1) then (bnd (Cd t p) λ n=>if n=true then some false else some true) else (some false) else some true:Option Bool)=some false:=by
    rw [LH h hi,At,DE];rcases r with rfl|⟨j,rfl,hj⟩
    . rfl
    . rw [if_pos (by omega),LH h hj];rfl
  rw [d,At,Fe,CY,he,At];have f:∀ (j:Nat) x,(t.entries.set ((i:Int)).toNat ({ e with link:=(⟨p,o,c⟩:RLk) }:REn))[j]?=some x->∃ y,t.entries[j]?=some y/\x.words=y.words:=by
    intro j x a;rw [L2] at a;by_cases q:i=j
    . subst q;rw [E6 (AO he)] at a;obtain rfl:=N4 a;exact ⟨e,he,rfl⟩
    . rw [H1 q] at a;exact ⟨x,a,rfl⟩
  refine ⟨_,rfl,⟨h.pk,by simp [h.len],h.st,?_,h.nodup,?_,h.val,h.few⟩,?_⟩
  . intro j s x hj a;obtain ⟨y,hy,hxy⟩:=f j x a;rw [hxy];exact h.words j s y hj hy
  . intro j x a;obtain ⟨y,hy,hxy⟩:=f j x a;rw [hxy];exact h.tab j y hy
  . simp [V4,List.map_set]
theorem AaQ {xs:List Int} (hl:xs.length≤1000000):Dx xs=some xs.reverse:=by
  unfold Dx;rw [BN (by unfold T3;omega),At];refine Zi (λ s=>∃ i:Nat,s.2.1=(i:Int)/\s.2.1 + s.2.2=(xs.length:Int) - 1/\i<=xs.length/\s.1.length=xs.length/\∀ k:Nat,k < xs.length->s.1[k]?=if k < i\/xs.length - 1 - k < i then xs[xs.length - 1 - k]? else xs[k]?) (λ s=>s.1=xs.reverse) (λ s=>(s.2.2 - s.2.1 + 1).toNat) ⟨0,rfl,by dsimp only;omega,by omega,rfl,λ k hk=>by rw [if_neg (by omega)]⟩ ?_ (λ s hs=>by rw [Cg,hs]);rintro ⟨ys,i',j⟩ ⟨i,hi,hij,hil,hlen,hg⟩;dsimp only at hi hij hlen hg ⊢;subst hi;by_cases hlt:(i:Int) < j
  . obtain ⟨c,rfl⟩:∃ c:Nat,j=(c:Int):=⟨j.toNat,by omega⟩;obtain ⟨a,ha⟩:=AL (l:=ys) (k:=c) (by omega);obtain ⟨b,hb⟩:=AL (l:=ys) (k:=i) (by omega);rw [if_pos hlt,CY,ha,At,CY,hb,At,At,L2,L2,CY,H1 (by omega),ha,At,BN (by unfold T3;omega),At,BN (by unfold T3;omega),At];refine .inl ⟨_,rfl,⟨i + 1,by dsimp only;omega,by dsimp only;omega,by omega,by simp [hlen],λ k hk=>?_⟩,by dsimp only;omega⟩;dsimp only;have d:=hg c (by omega);rw [ha,if_neg (by omega)] at d;have e:=hg i (by omega);rw [hb,if_neg (by omega)] at e;by_cases g:k=c
    . subst g;rw [E6 (by simp;omega),if_pos (by omega),e];congr 1;omega
    . rw [H1 (by omega)];by_cases h:k=i
      . subst h;rw [E6 (by omega),if_pos (by omega),d];congr 1;omega
      . rw [H1 (by omega),hg k hk];by_cases f:k < i\/xs.length - 1 - k < i
        . rw [if_pos f,if_pos (by omega)]
        . rw [if_neg f,if_neg (by omega)]
  . rw [if_neg hlt];refine .inr ⟨_,rfl,?_⟩;dsimp only;apply K0;intro k;rcases Q8 k xs.length with hk|hk
    . rw [List.getElem?_reverse hk,hg k hk];by_cases f:k < i\/xs.length - 1 - k < i
      . rw [if_pos f]
      . rw [if_neg f];congr 1;omega
    . rw [E8 (by omega),E8 (by simp;omega)]
inductive PathL (lk:List RLk):Nat->List Int->Prop
  | root {i:Nat} {k:RLk}:lk[i]?=some k->k.parent < 0->PathL lk i []
  | step {i j:Nat} {k:RLk} {p:List Int}:lk[i]?=some k->k.parent=(j:Int)->PathL lk j p->PathL lk i (p ++ [k.op])
theorem Zy {g:List Int} {v:Reg} {L:List (List Int)} (h:RegI g v L) (u:L.length<=65536) {i:Nat} {p:List Int} (m:PathL (V4 v) i p) (hl:p.length<=L.length):Ei v (i:Int)=some (p,⟨0⟩):=by
  have b:∀ {i:Nat} {k:RLk},(V4 v)[i]?=some k->∃ e:REn,v.entries[i]?=some e/\e.link=k:=by
    intro i k hk;unfold V4 at hk;rw [K1] at hk;cases he:v.entries[i]? with
    | none=>rw [he] at hk;cases hk
    | some e=>rw [he] at hk;exact ⟨e,rfl,by simpa using hk⟩
  have n:i < L.length:=by
    have:∃ k,(V4 v)[i]?=some k:=(by cases m with|root c _=>exact ⟨_,c⟩|step c _ _=>exact ⟨_,c⟩);obtain ⟨k,hk⟩:=this;obtain ⟨e,he,_⟩:=b hk;rw [<- h.len];exact AO he
  unfold Ei;rw [LH h n,At,DE];have o:∀ {i p},PathL (V4 v) i p->∀ a:List Int,a.length + p.length<=L.length->lop (ρ:=(List Int)×Err) (λ (d:Int×(List Int))=>bnd (atI v.entries d.1) λ f=>if f.link.parent < 0 then (bnd (Dx d.2) λ q=>some (.ret (q,(⟨0⟩:Err)))) else (bnd (T5 8 d.2 [f.link.op]) λ l=>if (v.entries.length:Int) < (l.length:Int) then (some (.ret (([]:List Int),(⟨21⟩:Err)))) else (some (.next (f.link.parent,l))))) ((i:Int),a)=some (.ret (p ++ a.reverse,⟨0⟩)):=by
    intro i p m
    induction m with
    | root c r =>
      intro a s;obtain ⟨e,he,rfl⟩:=b c;rw [JS];dsimp only;rw [CY,he,At,if_pos r,AaQ (by omega),At];rfl
    | @step i j k p c r _ t =>
      intro a s;obtain ⟨e,he,rfl⟩:=b c;simp at s;rw [JS];dsimp only;rw [CY,he,At,if_neg (by omega),Bn (by simp;omega) (by simp;omega),At,if_neg (by rw [h.len];simp;omega),r];dsimp only;rw [t (a ++ [e.link.op]) (by simp;omega)];simp
  rw [o m [] (by simpa using hl),At];simp [fin]
end
section
open Go Go.RowKit
inductive Rch (t:Tsk):List Int->Prop
  | init:Rch t t.init
  | step {s:List Int} {k:Nat} {o:Opr}:Rch t s->t.ops[k]?=some o->holdsB o.pre s=true->Rch t (succ o s)
theorem PlanR.snoc {t:Tsk} {s p a:List Int} {C:Int} (h:PlanR t s p a C) {k:Nat} {o:Opr} (c:t.ops[k]?=some o) (hp:holdsB o.pre a=true):PlanR t s (p ++ [(k:Int)]) (succ o a) (C + o.cost):=by
  induction h with
  | nil=>have:=PlanR.cons c hp (PlanR.nil (t:=t) (s:=succ o _));simpa [Int.add_comm] using this
  | cons b hp' _ d=>have:=PlanR.cons b hp' (d hp);rw [Q5];exact this
theorem PlanR.walk {t:Tsk} {s p a:List Int} {C:Int} (h:PlanR t s p a C) (b:holdsB t.goal a=true):Walk t s C:=by
  induction h with
  | nil=>exact .goal b
  | cons c hp _ d=>have:=Walk.step c hp (d b);rwa [Int.add_comm] at this
inductive WalkS (t:Tsk) (sel:List Int->List Int):List Int->Int->Prop
  | goal {s:List Int}:holdsB t.goal s=true->WalkS t sel s 0
  | step {s:List Int} {k:Nat} {o:Opr} {C:Int}:t.ops[k]?=some o->(k:Int)∈sel s->WalkS t sel (succ o s) C->WalkS t sel s (C + o.cost)
theorem WT {t:Tsk} (h:TaskOk t) {sel:List Int->List Int} {s:List Int} {C:Int} (a:WalkS t sel s C):0<=C:=by
  induction a with
  | goal _=>omega
  | @step s k o C b _ _ c=>have:=(h.2.2.2.2.2 k o b).1;omega
def UpL {α:Type} (i:Nat) (x:α) (l a:List α):Prop:=a[i]?=some x/\∀ j,j≠i->a[j]?=l[j]?
theorem UM {α:Type} {i:Nat} {x:α} {l:List α} (h:i < l.length):UpL i x l (l.set i x):=⟨E6 h,λ j hj=>H1 (by omega)⟩
theorem TG {α:Type} {i:Nat} {x:α} {l:List α} (h:l[i]?=some x):UpL i x l l:=⟨h,λ _ _=>rfl⟩
theorem OE {α:Type} {x:α} {l:List α}:UpL l.length x l (l ++ [x]):=⟨by simp,λ j hj=>by
  rcases Q8 j l.length with h|h
  . exact B8 h
  . rw [B4 h,E8 (l:=l) h,E8 (by simp;omega)]⟩
def cnt (l:List Bool):Nat:=(l.filter id).length
theorem AaR (l:List Bool):cnt l<=l.length:=F6 _ _
theorem Zz (l:List Bool):cnt (l ++ [false])=cnt l:=by simp [cnt]
theorem UN:∀ {l:List Bool} {i:Nat},l[i]?=some false->cnt (l.set i true)=cnt l + 1
  | [],i,h=>by simp at h
  | b :: l,0,h=>by simp at h;subst h;simp [cnt]
  | b :: l,i + 1,h=>by
    have:=UN (l:=l) (i:=i) (by simpa using h);simp only [cnt] at this ⊢;cases b<;>simp [this]
theorem UO:∀ {l:List Bool} {i:Nat},l[i]?=some true->0 < cnt l
  | [],i,h=>by simp at h
  | b :: l,0,h=>by simp at h;subst h;simp [cnt]
  | b :: l,i + 1,h=>by
    have:=UO (l:=l) (i:=i) (by simpa using h);unfold cnt at this ⊢;rw [M8];split
    . simp
    . exact this
structure SrI (t:Tsk) (sel:List Int->List Int) (D:Nat->Int->Prop) (L:List (List Int)) (lk:List RLk) (g:List Int) (fn:List Bool) (hp:List QEn) (ord:Nat->Nat) (E:Nat):Prop where
  root:L[0]?=some t.init
  root0:g[0]?=some 0
  lenk:lk.length=L.length
  leng:g.length=L.length
  lenf:fn.length=L.length
  link:∀ (i:Nat) s k c,L[i]?=some s->lk[i]?=some k->g[i]?=some c->(i=0/\k.parent=-1/\c=0)\/∃ (p q:Nat) (o:Opr) (s':List Int) (c':Int),k.parent=(p:Int)/\k.op=(q:Int)/\t.ops[q]?=some o/\L[p]?=some s'/\fn[p]?=some true/\holdsB o.pre s'=true/\succ o s'=s/\g[p]?=some c'/\c=c' + o.cost/\(fn[i]?=some true->ord p < ord i)
  ordl:∀ i:Nat,fn[i]?=some true->ord i < E
  lower:∀ (j:Nat) c,fn[j]?=some true->g[j]?=some c->∀ e∈hp,c<=e.key
  ent:∀ e∈hp,∃ i:Nat,e.item=(i:Int)/\i < L.length/\∀ c,g[i]?=some c->c<=e.key
  opn:∀ (i:Nat) c,fn[i]?=some false->g[i]?=some c->∃ e∈hp,e.key=c/\e.item=(i:Int)
  bound:∀ (i:Nat) c,g[i]?=some c->0<=c/\c<=(E:Int) * 1048576
  nogoal:∀ (j:Nat) s,fn[j]?=some true->L[j]?=some s->holdsB t.goal s=false
  rel:∀ (j:Nat) s q,fn[j]?=some true->L[j]?=some s->q∈sel s->D j q->∃ (k:Nat) (o:Opr) (i:Nat) (c c':Int),q=(k:Int)/\t.ops[k]?=some o/\L[i]?=some (succ o s)/\g[j]?=some c/\g[i]?=some c'/\c'<=c + o.cost
  num:cnt fn=E
  rch:∀ (i:Nat) s,L[i]?=some s->Rch t s
  first:0 < E->fn[0]?=some true
section
variable {t : Tsk} {sel : List Int → List Int} {D : Nat → Int → Prop} {L L' : List (List Int)} {lk lk' : List RLk} {g g' : List Int} {fn fn' : List Bool} {hp hp' : List QEn} {ord : Nat → Nat} {E : Nat}
theorem SrI.upd (h:SrI t sel D L lk g fn hp ord E) (Q:TaskOk t) {i p q:Nat} {o:Opr} {s sp:List Int} {x I Y:Int} {e:QEn} (v:UpL i s L L') (hk:UpL i ⟨(p:Int),(q:Int),Y⟩ lk lk') (u:UpL i x g g') (hf:UpL i false fn fn') (w:hp'.Perm (e :: hp)) (Z:e.key=x) (W:e.item=(i:Int))
    (l1:lk'.length=L'.length) (l2:g'.length=L'.length) (l3:fn'.length=L'.length) (l4:L.length<=L'.length) (hc:cnt fn'=cnt fn) (hi:L[i]?=none\/(L[i]?=some s/\fn[i]?=some false/\∀ c,g[i]?=some c->x < c))
    (R:t.ops[q]?=some o) (J:L[p]?=some sp) (K:fn[p]?=some true) (A:holdsB o.pre sp=true) (hs:succ o sp=s) (M:g[p]?=some I) (hx:x=I + o.cost) (N:∀ (j:Nat) c,fn[j]?=some true->g[j]?=some c->c<=I) (a0:x<=(E:Int) * 1048576) :
    SrI t sel D L' lk' g' fn' hp' ord E:=by
  have b0:=(Q.2.2.2.2.2 q o R).1;have d0:=(h.bound p I M).1;have B:∀ j:Nat,fn[j]?=some true->j≠i:=λ j hj e=>by
    subst e;rcases hi with hn|⟨_,hn,_⟩
    . have:=AO hj;rw [h.lenf] at this;rw [C2] at hn;omega
    . rw [hj] at hn;cases hn
  have f:∀ j:Nat,fn'[j]?=some true->j≠i/\fn[j]?=some true:=λ j hj=>by
    have b:j≠i:=λ e=>(by subst e;rw [hf.1] at hj;cases hj);exact ⟨b,by rw [<- hf.2 j b];exact hj⟩
  have S:(0:Nat)≠i:=λ e=>by
    subst e;rcases hi with hn|⟨_,_,hn⟩
    . rw [h.root] at hn;cases hn
    . have:=hn 0 h.root0;omega
  have C:=B p K;have T:i < L'.length:=AO v.1;refine ⟨by rw [v.2 0 S];exact h.root,by rw [u.2 0 S];exact h.root0,l1,l2,l3,?_,?_,?_,?_,?_,?_,?_,?_,by rw [hc];exact h.num,?_,?_⟩
  . intro j F k c a y z;by_cases n:j=i
    . subst n;rw [v.1] at a;rw [hk.1] at y;rw [u.1] at z;obtain rfl:=N4 a;obtain rfl:=N4 y;obtain rfl:=N4 z;exact .inr ⟨p,q,o,sp,I,rfl,rfl,R,by rw [v.2 p C];exact J,by rw [hf.2 p C];exact K,A,hs,by rw [u.2 p C];exact M,hx,λ w=>by rw [hf.1] at w;cases w⟩
    . rw [v.2 j n] at a;rw [hk.2 j n] at y;rw [u.2 j n] at z;rcases h.link j F k c a y z with w|⟨O,U,o',sp',c',a1,a2,G,a4,a5,a6,a7,a8,a9,a10⟩
      . exact .inl w
      . have b:=B O a5;exact .inr ⟨O,U,o',sp',c',a1,a2,G,by rw [v.2 O b];exact a4,by rw [hf.2 O b];exact a5,a6,a7,by rw [u.2 O b];exact a8,a9,λ w=>a10 (f j w).2⟩
  . exact λ j hj=>h.ordl j (f j hj).2
  . intro j c hj d P H;obtain ⟨b,hj⟩:=f j hj;rw [u.2 j b] at d;rcases Q1.1 (w.mem_iff.1 H) with rfl|hm
    . have:=N j c hj d;omega
    . exact h.lower j c hj d P hm
  . intro P H;rcases Q1.1 (w.mem_iff.1 H) with rfl|hm
    . exact ⟨i,W,T,λ c hc=>by rw [u.1] at hc;have:=N4 hc;omega⟩
    . obtain ⟨j,j1,j2,j3⟩:=h.ent P hm;refine ⟨j,j1,by omega,λ c hc=>?_⟩;by_cases n:j=i
      . subst n;rw [u.1] at hc;obtain rfl:=N4 hc;rcases hi with hn|⟨_,_,hn⟩
        . rw [C2] at hn;omega
        . obtain ⟨X,hc0⟩:=AL (l:=g) (k:=j) (by rw [h.leng];exact j2);have:=j3 X hc0;have:=hn X hc0;omega
      . rw [u.2 j n] at hc;exact j3 c hc
  . intro j c hj d;by_cases n:j=i
    . subst n;rw [u.1] at d;obtain rfl:=N4 d;exact ⟨e,w.mem_iff.2 J0,Z,W⟩
    . rw [hf.2 j n] at hj;rw [u.2 j n] at d;obtain ⟨P,m,r⟩:=h.opn j c hj d;exact ⟨P,w.mem_iff.2 (G1 _ m),r⟩
  . intro j c d;by_cases n:j=i
    . subst n;rw [u.1] at d;obtain rfl:=N4 d;omega
    . rw [u.2 j n] at d;exact h.bound j c d
  . intro j F hj a;obtain ⟨b,hj⟩:=f j hj;rw [v.2 j b] at a;exact h.nogoal j F hj a
  . intro j F U hj a hq hD;obtain ⟨b,hj⟩:=f j hj;rw [v.2 j b] at a;obtain ⟨k,o',i',c,c',a1,a2,G,a4,a5,a6⟩:=h.rel j F U hj a hq hD;by_cases n:i'=i
    . subst n;rcases hi with hn|⟨V,_,hn⟩
      . rw [hn] at G;cases G
      . rw [V] at G;have:=hn c' a5;exact ⟨k,o',i',c,x,a1,a2,by rw [v.1];exact G,by rw [u.2 j b];exact a4,u.1,by omega⟩
    . exact ⟨k,o',i',c,c',a1,a2,by rw [v.2 i' n];exact G,by rw [u.2 j b];exact a4,by rw [u.2 i' n];exact a5,a6⟩
  . intro j F a;by_cases n:j=i
    . subst n;rw [v.1] at a;obtain rfl:=N4 a;rw [<- hs];exact (h.rch p sp J).step R A
    . rw [v.2 j n] at a;exact h.rch j F a
  . intro hE;rw [hf.2 0 S];exact h.first hE
theorem SrI.drop (h:SrI t sel D L lk g fn hp ord E) {e:QEn} (d:hp.Perm (e :: hp')) {i:Nat} (hi:e.item=(i:Int)) (hd:fn[i]?=some true∨g[i]?≠some e.key):SrI t sel D L lk g fn hp' ord E :=
  { h with
    lower:=λ j c hj hc b a=>h.lower j c hj hc b (d.mem_iff.2 (G1 _ a))
    ent:=λ b a=>h.ent b (d.mem_iff.2 (G1 _ a))
    opn := λ j c hj hc=>by
      obtain ⟨b,m,k1,k2⟩:=h.opn j c hj hc;rcases Q1.1 (d.mem_iff.1 m) with rfl|hm
      . exfalso;have f:i=j:=(by omega);subst f;rcases hd with hd|hd
        . rw [hj] at hd;cases hd
        . exact hd (by rw [k1];exact hc)
      . exact ⟨b,hm,k1,k2⟩ }
theorem SrI.mark (h:SrI t sel (λ _ _=>True) L lk g fn hp ord E) {e:QEn} (p:hp.Perm (e :: hp')) (y:∀ x∈hp,nb x e) {i:Nat} {s:List Int} (hi:e.item=(i:Int)) (hf:fn[i]?=some false) (hc:g[i]?=some e.key) (hs:L[i]?=some s) (F:holdsB t.goal s=false) :
    SrI t sel (λ j _=>j≠i) L lk g (fn.set i true) hp' (λ j=>if j=i then E else ord j) (E + 1):=by
  have r:=AO hf;have a:∀ j:Nat,(fn.set i true)[j]?=some true->j=i\/(j≠i/\fn[j]?=some true):=λ j hj=>by
    by_cases w:j=i
    . exact .inl w
    . rw [H1 (by omega)] at hj;exact .inr ⟨w,hj⟩
  have f:∀ j:Nat,fn[j]?=some true->j≠i/\(fn.set i true)[j]?=some true:=λ j hj=>by
    have o:j≠i:=λ w=>(by subst w;rw [hf] at hj;cases hj);exact ⟨o,by rw [H1 (by omega)];exact hj⟩
  refine ⟨h.root,h.root0,h.lenk,h.leng,by simp [h.lenf],?_,?_,?_,?_,?_,?_,?_,?_,by rw [UN hf,h.num],h.rch,?_⟩
  . intro j z k c b B C;rcases h.link j z k c b B C with p|⟨A,q',o',sp',c',a1,a2,a3,a4,a5,a6,a7,a8,a9,a10⟩
    . exact .inl p
    . obtain ⟨o,hp2⟩:=f A a5;refine .inr ⟨A,q',o',sp',c',a1,a2,a3,a4,hp2,a6,a7,a8,a9,λ hj=>?_⟩;rw [if_neg o];rcases a j hj with rfl|⟨n,hj2⟩
      . rw [if_pos rfl];exact h.ordl A a5
      . rw [if_neg n];exact a10 hj2
  . intro j hj;rcases a j hj with rfl|⟨n,hj2⟩
    . rw [if_pos rfl];omega
    . rw [if_neg n];have:=h.ordl j hj2;omega
  . intro j c hj d u v;have hm:u∈hp:=p.mem_iff.2 (G1 _ v);rcases a j hj with rfl|⟨_,hj2⟩
    . rw [hc] at d;obtain rfl:=N4 d;exact TD (y u hm)
    . exact h.lower j c hj2 d u hm
  . exact λ u v=>h.ent u (p.mem_iff.2 (G1 _ v))
  . intro j c hj d;have o:j≠i:=λ w=>(by subst w;rw [E6 r] at hj;cases hj);rw [H1 (by omega)] at hj;obtain ⟨u,m,k1,k2⟩:=h.opn j c hj d;rcases Q1.1 (p.mem_iff.1 m) with rfl|hm
    . omega
    . exact ⟨u,hm,k1,k2⟩
  . intro j c d;have:=h.bound j c d;omega
  . intro j z hj b;rcases a j hj with rfl|⟨_,hj2⟩
    . rw [hs] at b;obtain rfl:=N4 b;exact F
    . exact h.nogoal j z hj2 b
  . intro j z q hj b G H;rcases a j hj with rfl|⟨_,hj2⟩
    . exact absurd rfl H
    . exact h.rel j z q hj2 b G trivial
  . intro _;by_cases D:i=0
    . subst D;exact E6 r
    . have I:0 < E:=by
        obtain ⟨k,hk⟩:=AL (l:=lk) (k:=i) (by rw [h.lenk,<- h.lenf];exact r);rcases h.link i s k _ hs hk hc with ⟨p,_⟩|⟨A,_,_,_,_,_,_,_,_,a5,_⟩
        . exact absurd p D
        . rw [<- h.num];exact UO a5
      exact (f 0 (h.first I)).2
theorem SrI.front (h:SrI t sel (λ _ _=>True) L lk g fn hp ord E) (a:TaskOk t) {s:List Int} {C:Int} (d:WalkS t sel s C):∀ (i:Nat) c,L[i]?=some s->g[i]?=some c->∃ e∈hp,e.key<=c + C:=by
  induction d with
  | @goal s j =>
    intro i c hi hc;obtain ⟨b,hb⟩:=AL (l:=fn) (k:=i) (by rw [h.lenf];exact AO hi);cases b with
    | false=>obtain ⟨e,m,k1,_⟩:=h.opn i c hb hc;exact ⟨e,m,by omega⟩
    | true=>have:=h.nogoal i s hb hi;rw [j] at this;cases this
  | @step s k o C f hk d n =>
    intro i c hi hc;have r:=WT a d;have u:=(a.2.2.2.2.2 k o f).1;obtain ⟨b,hb⟩:=AL (l:=fn) (k:=i) (by rw [h.lenf];exact AO hi);cases b with
    | false=>obtain ⟨e,m,k1,_⟩:=h.opn i c hb hc;exact ⟨e,m,by omega⟩
    | true =>
      obtain ⟨p,o',i',c0,c',a1,a2,a3,a4,a5,a6⟩:=h.rel i s _ hb hi hk trivial;have q:k=p:=(by omega);subst q;rw [f] at a2;obtain rfl:=N4 a2;rw [hc] at a4;obtain rfl:=N4 a4;obtain ⟨e,m,k1⟩:=n i' c' a3 a5;exact ⟨e,m,by omega⟩
theorem SrI.pathF (h:SrI t sel D L lk g fn hp ord E):∀ (n i:Nat) s c,ord i < n->fn[i]?=some true->L[i]?=some s->g[i]?=some c->∃ p,PathL lk i p/\PlanR t t.init p s c/\p.length<=ord i:=by
  intro n
  induction n with
  | zero=>intro i s c hn;omega
  | succ n a =>
    intro i s c hn hf hi hc;obtain ⟨k,hk⟩:=AL (l:=lk) (k:=i) (by rw [h.lenk];exact AO hi);rcases h.link i s k c hi hk hc with ⟨rfl,h1,rfl⟩|⟨b,q',o',sp',c',a1,a2,a3,a4,a5,a6,a7,a8,a9,a10⟩
    . rw [h.root] at hi;obtain rfl:=N4 hi;exact ⟨[],.root hk (by omega),.nil,by simp⟩
    . have d:=a10 hf;obtain ⟨p,b1,b2,b3⟩:=a b sp' c' (by omega) a5 a4 a8;refine ⟨p ++ [k.op],.step hk a1 b1,?_,by simp;omega⟩;rw [a2,a9,<- a7];exact b2.snoc a3 a6
theorem SrI.path (h:SrI t sel D L lk g fn hp ord E) {i:Nat} {s:List Int} {c:Int} (hi:L[i]?=some s) (hc:g[i]?=some c):∃ p,PathL lk i p/\PlanR t t.init p s c/\p.length<=E:=by
  obtain ⟨k,hk⟩:=AL (l:=lk) (k:=i) (by rw [h.lenk];exact AO hi);rcases h.link i s k c hi hk hc with ⟨rfl,h1,rfl⟩|⟨a,q',o',sp',c',a1,a2,a3,a4,a5,a6,a7,a8,a9,a10⟩
  . rw [h.root] at hi;obtain rfl:=N4 hi;exact ⟨[],.root hk (by omega),.nil,by simp⟩
  . have b:=h.ordl a a5;obtain ⟨p,b1,b2,b3⟩:=h.pathF (ord a + 1) a sp' c' (by omega) a5 a4 a8;refine ⟨p ++ [k.op],.step hk a1 b1,?_,by simp;omega⟩;rw [a2,a9,<- a7];exact b2.snoc a3 a6
theorem SrI.more (h:SrI t sel D L lk g fn hp ord E) {d:Nat→Int→Prop} {j₀:Nat} {q₀:Int} (e:∀ j q,d j q→D j q∨(j=j₀∧q=q₀)) {s:List Int} (hs:L[j₀]?=some s) {k:Nat} {o:Opr} {i:Nat} {c b:Int} (f:q₀=(k:Int)) (l:t.ops[k]?=some o) (m:L[i]?=some (succ o s)) (n:g[j₀]?=some c) (p:g[i]?=some b) (r:b≤c + o.cost):SrI t sel d L lk g fn hp ord E :=
  { h with
    rel := λ j u q hj a v hd=>by
      rcases e j q hd with hd|⟨rfl,rfl⟩
      . exact h.rel j u q hj a v hd
      . rw [hs] at a;obtain rfl:=N4 a;exact ⟨k,o,i,c,b,f,l,m,n,p,r⟩ }
end
end
section
open Go Go.RowKit
section
variable {t : Tpl} {u : Tsk} {s : List Int} {q : Nat → Int}
def nxN (t:Tpl) (x:Nd6) (k:Nat) (y:Nd6):Prop:=StK t x.values x.left k/\y=⟨afH t x.values (blk t x.left k),(lfL t x.left k).map X4⟩
def glN (t:Tpl) (x:Nd6) (k:Nat):Prop:=StK t x.values x.left k/\(∀ i,i < t.jobs.length->lft t x.left k i < 0)/\holdsB t.goal (afH t x.values (blk t x.left k))=true
abbrev WlN (t:Tpl):Nd6->Nat->Prop:=Wlf (nxN t) (glN t) (2 ^ t.jobs.length)
theorem AaS (d:TplOk t) {x:Nd6} {j:Nat} (h:WlN t x j):(0 < t.jobs.length\/j=0)->NdW t x.values x.left->∀ q:Nat->Int,(∀ i,i < t.jobs.length->q i=qL t x.left i) ->
    ∃ b bs e f,Trc t x.values q b bs e f/\bs.length=j/\(∀ i,i < t.jobs.length->f i=0)/\holdsB t.goal e=true:=by
  induction h with
  | @goal x k hk m =>
    intro _ a q c;obtain ⟨g,h2,h3⟩:=m;refine ⟨blk t x.left k,[],_,_,.last (g.hb a c),rfl,λ i hi=>?_,h3⟩;rw [(MY d hi a (c i hi)).1,if_pos (h2 i hi)]
  | @more x y j k hk hn _ n =>
    intro l a q c;have l:=l.resolve_right (by omega);obtain ⟨g,rfl⟩:=hn;obtain ⟨b,bs,e,f,g1,g2,g3⟩:=n (.inl l) (Sk d a) (nxq t (stA t q (blk t x.left k))) λ i hi=>YK d a hi (c i hi);exact ⟨blk t x.left k,b :: bs,e,f,.more (g.hb a c) ⟨l,g.ps d a c⟩ g1,by simp [g2],g3⟩
theorem AaT (a:TplOk t) {b:List Hh} {bs:List (List Hh)} {f:List Int} {g:Nat->Int} (h:Trc t s q b bs f g):∀ l,NdW t s l->(∀ i,i < t.jobs.length->q i=qL t l i)->(∀ i,i < t.jobs.length->g i=0)->holdsB t.goal f=true->WlN t ⟨s,l⟩ bs.length:=by
  induction h with
  | @last s q b hb =>
    intro l c d e j;obtain ⟨k,k1,k2,_,k4,k5⟩:=WP a c d hb λ i hi=>by
      have:=a.dur i;rw [e i hi];exact ⟨R9 _,by omega,λ p=>by omega⟩
    refine .goal k1 ⟨k2,λ i hi=>?_,by rw [<- k4];exact j⟩;obtain ⟨m,g2,g3,g4⟩:=MY a (k:=k) hi c (d i hi);rw [<- k5 i hi,e i hi] at m;split at m<;>omega
  | @more s q b r bs f g hb n _ o =>
    intro l c d e j;obtain ⟨k,k1,k2,_,k4,k5⟩:=WP a c d hb n.2;refine .more k1 (y:=⟨afH t s b,(lfL t l k).map X4⟩) ⟨k2,by rw [k4]⟩ (o _ ?_ (λ i hi=>?_) e j)
    . rw [k4];exact Sk a c
    . rw [<- YK a c hi (d i hi)];unfold nxq;rw [k5 i hi]
def bgN (t:Tpl):Nd6:=⟨t.init,List.replicate t.jobs.length (-1)⟩
theorem YL {i:Nat}:lAt (bgN t).left i=-1:=by
  unfold lAt bgN;dsimp only;rw [D4];by_cases h:i < t.jobs.length
  . rw [if_pos h]
  . rw [if_neg h]
theorem VG (a:TplOk t):NdW t (bgN t).values (bgN t).left:=by
  refine ⟨a.init,by simp [bgN],λ i hi=>?_⟩;have:=a.dur i;rw [YL];omega
theorem AaU {i:Nat}:(0:Int)=qL t (bgN t).left i:=by
  unfold qL lq;rw [YL];rfl
theorem ZA {u:Tsk} {s:List Int} {C:Int} (b:Walk u s C):∃ p a,PlanR u s p a C/\holdsB u.goal a=true:=by
  induction b with
  | goal h=>exact ⟨[],_,.nil,h⟩
  | @step s k o c d e _ f =>
    obtain ⟨p,a,h1,h2⟩:=f;exact ⟨_,a,by have:=PlanR.cons d e h1;rwa [Int.add_comm] at this,h2⟩
theorem ZB (c:Cmd t u) {x:List Int} (h:holdsB u.goal x=true):x[kpos t (5,0)]?=some 0:=by
  rw [c.goal] at h;have:=M0.1 h (toF t ((5,0),0)) (H8 (by simp));unfold hasB toF at this;simpa using this
theorem WU (c:Cmd t u) (a:TplOk t) {C:Int} (b:Walk u u.init C):∃ j:Nat,C=j/\WlN t (bgN t) j:=by
  obtain ⟨p,x,h1,h2⟩:=ZA b;rw [c.init] at h1;obtain ⟨d,bs,s0,q0,bl,r1,_,r3,r4,r5,r6⟩:=Zr c a (ZB c h2) p.length p (R7 _) t.init (λ _=>0) [] C a.init.1 (HBok.nil _ _) h1;rw [r3] at h2;unfold Mdt at h2;obtain ⟨e,g2,_⟩:=(TB c a (by rw [Hc];exact r5)).1 h2;exact ⟨bs.length,r6,AaT a r1 _ (VG a) (λ i hi=>AaU) g2 e⟩
theorem WV (c:Cmd t u) (a:TplOk t) {j:Nat} (h:WlN t (bgN t) j) (d:0 < t.jobs.length\/j=0):Walk u u.init (j:Int):=by
  obtain ⟨b,bs,s',q',g1,g2,g3,g4⟩:=AaS a h d (VG a) (λ _=>0) λ i hi=>AaU;obtain ⟨hl,hp⟩:=Zp c a g1 a.init.1;rw [c.init,<- g2];exact hp.walk ((TB c a (by rw [g1.len];exact a.init.1)).2 ⟨g4,g3,rfl⟩)
theorem ZC (f:TplOk t) (c:t.jobs.length=0) {x:Nd6} {j:Nat} (h:WlN t x j):NdW t x.values x.left->WlN t x 0:=by
  induction h with
  | goal hk g=>exact λ _=>.goal hk g
  | @more x y j k hk hn _ i =>
    intro d;obtain ⟨n,rfl⟩:=hn;have l:blk t x.left k=[]:=(by unfold blk;rw [c];rfl);have m:lfL t x.left k=[]:=(by unfold lfL;rw [c];rfl);have e:x.left=[]:=D6.1 (by rw [d.len,c]);have:=i (Sk f d);rw [l,m] at this;obtain ⟨a,b⟩:=x;simp only at e;subst e;exact this
end
end
section
open Go Go.RowKit
section
variable {σ ρ : Type}
def AeY (I:σ->Prop) (R:ρ->Prop):Ctl σ ρ->Prop
  | .next s=>I s
  | .ret q=>R q
  | .brk _=>False
theorem Kc {x:Option (Ctl σ ρ)} {I:σ->Prop} {R:ρ->Prop} (h:∃ c,x=some c/\AeY I R c):(∃ a,x=some (.next a)/\I a)\/∃ q,x=some (.ret q)/\R q:=by
  obtain ⟨c,h1,h2⟩:=h;cases c with
  | next s=>exact .inl ⟨s,h1,h2⟩
  | ret q=>exact .inr ⟨q,h1,h2⟩
  | brk s=>exact h2.elim
end
theorem AaV {k i:Nat} (hk:k < 4294967296) (hi:i<=60):(bnd (AcF (k:Int) (i:Int)) λ n=>if AcZ n 1=1 then some true else some false)=some (k.testBit i):=by
  have a:AcF (k:Int) (i:Int)=some ((k / 2 ^ i:Nat):Int):=by
    unfold AcF;rw [if_pos (by omega),L2,P1 (by omega),B6 _ (Int.le_of_lt (Int.pow_pos (by decide)))];simp
  have hlt:k / 2 ^ i<=k:=Nat.div_le_self _ _;have b:AcZ ((k / 2 ^ i:Nat):Int) 1=((k / 2 ^ i % 2:Nat):Int):=by
    generalize k / 2 ^ i=m at hlt;unfold AcZ;have:(BitVec.ofInt 64 (m:Int) &&& BitVec.ofInt 64 1).toNat=m % 2:=by
      have c:(BitVec.ofInt 64 (1:Int)).toNat=1:=(by decide);rw [BitVec.toNat_and,c,Nat.and_one_is_mod,J2];omega
    rw [this];unfold wr;have h2:m % 2=0\/m % 2=1:=(by omega);rcases h2 with h2|h2<;>rw [h2]<;>decide
  rw [a,At,b,Nat.testBit_eq_decide_div_mod_eq];by_cases h:k / 2 ^ i % 2=1
  . rw [if_pos (by omega),decide_eq_true h]
  . rw [if_neg (by omega),decide_eq_false h]
theorem AaW (l:List Fct) (v:Int):HF l v=some (hasV l v):=by
  unfold HF;rw [Hb (λ f:Fct=>decide (f.var=v)) true (λ k a _=>by
    by_cases h:a.var=v
    . rw [if_pos h,if_pos (by simpa using h)]
    . rw [if_neg h,if_neg (by simpa using h)])]
  unfold hasV;split
  . rename_i h;rw [h];rfl
  . rename_i h;rw [K5.2 h];rfl
section
variable {t : Tpl} {s l : List Int} {k : Nat}
theorem UP (a:NdW t s l) {i:Nat} (hi:i < t.jobs.length):l[i]?=some (lAt l i):=by
  obtain ⟨x,hx⟩:=AL (l:=l) (k:=i) (by rw [a.len];exact hi);unfold lAt;rw [hx]
theorem TH (i:Nat) (e:Bool):Hz (jb t i) e=some (hR t (i,e)):=by
  unfold Hz hR;cases e<;>rfl
theorem RF (i:Nat) (e:Bool):GT (jb t i) e=some (hW t (i,e)):=by
  unfold GT hW;cases e<;>rfl
structure St1 (t:Tpl) (l:List Int) (k i:Nat) (st:(List (List Fct))×(List (List Fct))×(List Int)):Prop where
  r:st.1=(Y0 l k i).map (hR t)
  w:st.2.1=(Y0 l k i).map (hW t)
  len:st.2.2.length=t.jobs.length
  at':∀ j,j < t.jobs.length->st.2.2[j]?=some (if j < i then lft t l k j else lAt l j)
  beg:∀ j,j < i->k.testBit j=true->lAt l j < 0
theorem PJ:∀ n,(Y0 l k n).length<=n
  | 0=>by simp [Y0]
  | n + 1=>by
    have:=PJ n;have a:(Ab8 l k n).length<=1:=(by unfold Ab8;split;simp;split<;>simp);rw [Jh,I5];omega
theorem St1.app {i:Nat} {a:(List (List Fct))×(List (List Fct))×(List Int)} (h:St1 t l k i a) (hi:i < t.jobs.length) {e:Bool} (hb:Ab8 l k i=[(i,e)]) (g:k.testBit i=true->lAt l i < 0) {L:List Int} (hl:L.length=t.jobs.length) (m:∀ j,j≠i->L[j]?=a.2.2[j]?) (d:L[i]?=some (lft t l k i)) :
    St1 t l k (i + 1) (a.1 ++ [hR t (i,e)],a.2.1 ++ [hW t (i,e)],L):=by
  refine ⟨?_,?_,hl,λ j hj=>?_,λ j hj b=>?_⟩
  . show a.1 ++ _=_;rw [h.r,Jh,hb,P3];rfl
  . show a.2.1 ++ _=_;rw [h.w,Jh,hb,P3];rfl
  . show L[j]?=_;by_cases c:j=i
    . subst c;rw [d,if_pos (by omega)]
    . rw [m j c,h.at' j hj];by_cases f:j < i
      . rw [if_pos f,if_pos (by omega)]
      . rw [if_neg f,if_neg (by omega)]
  . by_cases c:j=i
    . subst c;exact g b
    . exact h.beg j (by omega) b
def Cf (t:Tpl) (a b:Hh):Prop:=∃ f∈hW t a,hasV (hR t b) f.var=true\/hasV (hW t b) f.var=true
theorem WW {a b:Hh} (h:Cf t a b):IntF t a b:=by
  obtain ⟨f,hf,h⟩:=h;exact ⟨f.var,.inl ⟨IZ.2 ⟨f,hf,rfl⟩,h.symm⟩⟩
theorem AaX {a b:Hh} (h:IntF t a b):Cf t a b\/Cf t b a:=by
  obtain ⟨v,⟨c,h2⟩|⟨c,h2⟩⟩:=h
  . obtain ⟨f,hf,rfl⟩:=IZ.1 c;exact .inl ⟨f,hf,h2.symm⟩
  . obtain ⟨f,hf,rfl⟩:=IZ.1 h2;exact .inr ⟨f,hf,.inl c⟩
structure St2 (t:Tpl) (s:List Int) (B:List Hh) (i:Nat) (st:List Int):Prop where
  st:st=afH t s (B.take i)
  reads:∀ h∈B.take i,holdsB (hR t h) s=true
  non:∀ (a b:Nat) ha hb,a < i->a≠b->B[a]?=some ha->B[b]?=some hb->¬ Cf t ha hb
theorem UQ {k:List Hh}:(k.Pairwise λ a b=>¬ IntF t a b)↔∀ (a b:Nat) e hb,a≠b->k[a]?=some e->k[b]?=some hb->¬ Cf t e hb:=by
  rw [C3];constructor
  . intro l a b e hb f g i hc;obtain ⟨c,rfl⟩:=B7.1 g;obtain ⟨d,rfl⟩:=B7.1 i;rcases Nat.lt_or_gt_of_ne f with h|h
    . exact l a b c d h (WW hc)
    . exact l b a d c h (WW hc).symm
  . intro l a b c d j hi;rcases AaX hi with h|h
    . exact l a b _ _ (by omega) (C4 c) (C4 d) h
    . exact l b a _ _ (by omega) (C4 d) (C4 c) h
theorem ZD      (ht : TplOk t) (hw:NdW t s l) (hk:k < 4294967296):∃ r,HZ t ⟨s,l⟩ (k:Int)=some r∧(StK t s l k∧r=(⟨afH t s (blk t l k),lfL t l k⟩,true)∨¬ StK t s l k∧r.2=false):=by
  have hj:=ht.nj;have hv:=ht.nv;have hsl:=hw.st.1;have hll:=hw.len;unfold HZ;rw [Bn (by simp;omega) (by simp;omega),At,Bn (by simp;omega) (by simp;omega),At,At];simp only [N6];refine Ga (St1 t l k) (λ q=>¬ StK t s l k/\q.2=false) ⟨by simp [Y0],by simp [Y0],hll,λ j hj=>by rw [if_neg (by omega)];exact UP hw hj,λ j hj=>by omega⟩ ?_ ?_ (λ q hq=>⟨_,rfl,.inr hq⟩)
  . intro i a st ha hI;have hi:=AO ha;have ea:a=jb t i:=(Qz ha).symm;subst ea;have hfew:=PJ (l:=l) (k:=k) i;have hr:=hI.r;have hww:=hI.w;obtain ⟨R,W,L⟩:=st;have hLi:=hI.at' i hi;have hLl:=hI.len;dsimp only at hr hww hLi hLl ⊢;subst hr hww;rw [if_neg (by omega)] at hLi;rw [AaV hk (by omega),At,UP hw hi];have a1:∀ e,T5 24 ((Y0 l k i).map (hR t)) [hR t (i,e)]=some ((Y0 l k i).map (hR t) ++ [hR t (i,e)]):=λ e=>Bn (by simp;omega) (by simp;omega);have a2:∀ e,T5 24 ((Y0 l k i).map (hW t)) [hW t (i,e)]=some ((Y0 l k i).map (hW t) ++ [hW t (i,e)]):=λ e=>Bn (by simp;omega) (by simp;omega);by_cases hb:k.testBit i=true
    . rw [hb];simp only [At,if_true];by_cases h0:0<=lAt l i
      . rw [if_pos h0,At];exact .inr ⟨_,rfl,λ hs=>by have:=hs.beg i hi hb;omega,rfl⟩
      . rw [if_neg h0,At];simp only [Bool.not_true,J5,if_false,At,if_true,TH,RF,a1,a2,hLi];rw [E6 (by omega),At];refine .inl ⟨_,rfl,hI.app hi (e:=false) (by unfold Ab8;rw [if_pos hb]) (λ _=>by omega) (by simp [hLl]) (λ j hj=>?_) ?_⟩
        . rw [H1 (T1 hj),H1 (T1 hj)]
        . rw [E6 (by simp;omega)];unfold lft;rw [if_pos hb]
    . have hb':=K5.2 hb;rw [hb'];simp only [At,if_true,J5,if_false,Bool.not_false];by_cases h0:lAt l i=0
      . rw [if_neg (by omega),At];simp only [J5,if_false,At,TH,RF,a1,a2,hLi];refine .inl ⟨_,rfl,hI.app hi (e:=true) (by unfold Ab8;rw [if_neg hb,if_pos h0]) (λ h=>absurd h hb) (by simp [hLl]) (λ j hj=>?_) ?_⟩
        . rw [H1 (T1 hj)]
        . rw [E6 (by omega)];unfold lft;rw [if_neg hb,if_pos h0]
      . rw [if_pos h0,At,if_pos rfl];have hb1:Ab8 l k i=[]:=(by unfold Ab8;rw [if_neg hb,if_neg h0]);refine .inl ⟨_,rfl,by dsimp only;rw [Jh,hb1,N7],by dsimp only;rw [Jh,hb1,N7],hLl,λ j hj=>?_,λ j hj hbj=>?_⟩
        . rw [hI.at' j hj];by_cases e1:j=i
          . subst e1;rw [if_neg (by omega),if_pos (by omega)];unfold lft;rw [if_neg hb,if_neg h0]
          . by_cases h2:j < i
            . rw [if_pos h2,if_pos (by omega)]
            . rw [if_neg h2,if_neg (by omega)]
        . by_cases e1:j=i
          . subst e1;exact absurd hbj hb
          . exact hI.beg j (by omega) hbj
  . intro st hI;obtain ⟨R,W,L⟩:=st;have hr:=hI.r;have hww:=hI.w;have hLl:=hI.len;have hLa:=hI.at';have hbeg:=hI.beg;have eL:L=lfL t l k:=by
      refine K0 λ j=>?_;unfold lfL;by_cases h:j < t.jobs.length
      . have:=hLa j h;dsimp only at this;rw [this,if_pos h,K1,I1 h];rfl
      . dsimp only at hLl;rw [E8 (by omega),E8 (by simp;omega)]
    dsimp only at hr hww ⊢;subst hr hww eL;rw [Cg];have hB:Y0 l k t.jobs.length=blk t l k:=rfl;rw [hB];have hBf:(blk t l k).length<=24:=R2 (PJ _) hj;generalize hBB:blk t l k=B at *
    refine Ga (St2 t s B) (λ q=>¬ StK t s l k/\q.2=false) ⟨rfl,λ h hh=>by simp at hh,λ a b ha hb hlt=>by omega⟩ ?_ ?_ (λ q hq=>⟨_,rfl,.inr hq⟩)
    . intro a ra st2 ha hI2;rw [K1] at ha;obtain ⟨h,hh,rfl⟩:=E3.1 ha;refine Kc ?_;show ∃ c,(bnd (some (holdsB (hR t h) s)) _)=some c/\_;rw [At];by_cases hrd:holdsB (hR t h) s=true
      . rw [if_pos hrd];have hWa:(B.map (hW t))[a]?=some (hW t h):=(by rw [K1,hh];rfl);refine Ga (λ b (_:Unit)=>∀ (j:Nat) hb,j < b->a≠j->B[j]?=some hb->¬ Cf t h hb) (λ q=>q=.ret (⟨st2,lfL t l k⟩,false)/\∃ (j:Nat) (hb:Hh),a≠j/\B[j]?=some hb/\Cf t h hb) (λ j hb hlt=>by omega) ?_ ?_ ?_
        . rintro b rb ⟨⟩ hb hI3;rw [K1] at hb;obtain ⟨g,hg,rfl⟩:=E3.1 hb;have hWb:(B.map (hW t))[b]?=some (hW t g):=(by rw [K1,hg];rfl);refine Kc ?_;rw [hWa,At];refine Ga (λ m (_:Unit)=>a≠b->∀ f∈(hW t h).take m,¬ (hasV (hR t g) f.var=true\/hasV (hW t g) f.var=true)) (λ q=>q=.ret (.ret (⟨st2,lfL t l k⟩,false))/\a≠b/\Cf t h g) (λ _ f hf=>by simp at hf) ?_ ?_ ?_
          . rintro m f ⟨⟩ hf hI4;refine Kc ?_;rw [hWb];simp only [AaW,At];by_cases hab:a=b
            . subst hab;rw [if_neg (by simp),At,if_neg (by simp)];exact ⟨_,rfl,λ hne=>absurd rfl hne⟩
            . rw [if_pos (by omega)];by_cases h1:hasV (hR t g) f.var=true
              . rw [if_pos h1,At,if_pos rfl];exact ⟨_,rfl,rfl,hab,f,G2 hf,.inl h1⟩
              . rw [if_neg h1];by_cases h2:hasV (hW t g) f.var=true
                . rw [if_pos h2,At,if_pos rfl];exact ⟨_,rfl,rfl,hab,f,G2 hf,.inr h2⟩
                . rw [if_neg h2,At,if_neg (by simp)];refine ⟨_,rfl,λ hne f' hf'=>?_⟩;rw [K4,hf] at hf';rcases N1.1 hf' with hf'|hf'
                  . exact hI4 hne f' hf'
                  . have:f'=f:=(by simpa using hf');subst this;exact λ hc=>hc.elim h1 h2
          . rintro ⟨⟩ hI4;rw [Cg];refine ⟨_,rfl,λ j hb hlt hne hjb=>?_⟩;by_cases e1:j=b
            . subst e1;rw [hg] at hjb;cases hjb;rintro ⟨f,hf,hc⟩;rw [M9] at hI4;exact hI4 hne f hf hc
            . exact hI3 j hb (by omega) hne hjb
          . rintro q ⟨rfl,hne,hc⟩;exact ⟨_,rfl,rfl,b,g,hne,hg,hc⟩
        . rintro ⟨⟩ hI3;rw [P6] at hI3;rw [Cg,hWa,At];have e1:=hI2.st;have hlen:st2.length=t.vars.length:=(by rw [e1,Hc];exact hsl);have hwf:=(V3.1 (ht.hW h)).1;refine Ga (λ m st3=>st3=wrL st2 ((hW t h).take m)) (λ _=>False) rfl ?_ ?_ (λ q hq=>hq.elim)
          . rintro m f st3 hf rfl;have hfl:=Gn (hwf f (G2 hf));obtain ⟨v,hv⟩:=D1 hfl.1;obtain ⟨x,hx⟩:=AL (l:=wrL st2 ((hW t h).take m)) (k:=v) (by rw [Ms];omega);left;refine ⟨_,by rw [hv,CY,hx,At],?_⟩;rw [K4,hf];unfold wrL;rw [L0];show _=List.set _ f.var.toNat f.val;rw [hv]
          . rintro st3 rfl;rw [Cg];refine ⟨_,rfl,?_,?_,?_⟩
            . rw [M9,K4,hh,UE,<- e1];rfl
            . intro h' hh';rw [K4,hh] at hh';rcases N1.1 hh' with hh'|hh'
              . exact hI2.reads h' hh'
              . have:h'=h:=(by simpa using hh');subst this;exact hrd
            . intro a' b' ha' hb' hlt hne h1 h2;by_cases e2:a'=a
              . subst e2;rw [hh] at h1;cases h1;exact hI3 b' hb' (AO h2) hne h2
              . exact hI2.non a' b' ha' hb' (by omega) hne h1 h2
        . rintro q ⟨rfl,j,hb,hne,hj1,hc⟩;refine ⟨_,rfl,λ hs=>?_,rfl⟩;have:=hs.non;rw [hBB] at this;exact UQ.1 this a j h hb hne hh hj1 hc
      . rw [if_neg hrd];refine ⟨_,rfl,λ hs=>hrd ?_,rfl⟩;exact hs.reads h (by rw [hBB];exact G2 hh)
    . intro st2 hI2;rw [P6] at hI2;have e1:=hI2.st;rw [M9] at e1;subst e1;rw [Cg];refine Ga (λ i (_:Unit)=>∀ j,j < i->0<=lft t l k j->holdsB (jb t j).over (afH t s B)=true) (λ q=>¬ StK t s l k/\q.2=false) (λ j hlt=>by omega) ?_ ?_ (λ q hq=>⟨_,rfl,.inr hq⟩)
      . rintro i a ⟨⟩ ha hI3;have hi:=AO ha;have ea:a=jb t i:=(Qz ha).symm;subst ea;have hLi:(lfL t l k)[i]?=some (lft t l k i):=(by unfold lfL;rw [K1,I1 hi];rfl);refine Kc ?_;rw [hLi,At];have nxt:(0<=lft t l k i->holdsB (jb t i).over (afH t s B)=true)->∀ j,j < i + 1->0<=lft t l k j->holdsB (jb t j).over (afH t s B)=true:=λ h j hj' h0=>by
          by_cases e1:j=i
          . subst e1;exact h h0
          . exact hI3 j (by omega) h0
        by_cases h0:0<=lft t l k i
        . rw [if_pos h0];show ∃ c,(bnd (bnd (some (holdsB (jb t i).over (afH t s B))) _) _)=some c/\_;rw [At];by_cases ho:holdsB (jb t i).over (afH t s B)=true
          . rw [if_pos ho,At,if_neg (by simp)];exact ⟨_,rfl,nxt λ _=>ho⟩
          . rw [if_neg ho,At,if_pos rfl];refine ⟨_,rfl,λ hs=>ho ?_,rfl⟩;have:=hs.over i hi h0;rwa [hBB] at this
        . rw [if_neg h0,At,if_neg (by simp)];exact ⟨_,rfl,nxt λ h=>absurd h h0⟩
      . rintro ⟨⟩ hI3;rw [Cg];refine ⟨_,rfl,.inl ⟨⟨hbeg,?_,?_,λ i hi h0=>?_⟩,rfl⟩⟩
        . rw [hBB];intro h hh;exact hI2.reads h (by rw [M9];exact hh)
        . rw [hBB];exact UQ.2 λ a b ha hb hne h1 h2=>hI2.non a b ha hb (AO h1) hne h1 h2
        . rw [hBB];exact hI3 i hi h0
end
end
section
open Go Go.RowKit
def toO (t:Tpl) (o:KO):Opr:=⟨o.name,o.cost,AM (o.pre.map (toF t)),o.effs.map (toE t)⟩
def jvs (a:List Job):List Int:=a.flatMap λ j=>[j.dur + 2,2]
def vrs (t:Tpl):List Int:=t.vars ++ (jvs t.jobs ++ (List.replicate (ksM t t.vars.length).length (2:Int) ++ [(t.jobs.length:Int) + 2]))
def wrP (t:Tpl) (n:Nat):List Int:=(List.range n).map λ v:Nat=>if wrT t (v:Int)=true then (kpos t (3,v):Int) else -1
def rdP (t:Tpl) (n:Nat):List Int:=(List.range n).map λ v:Nat=>if wrT t (v:Int)=true/\rdT t (v:Int)=true then (kpos t (4,v):Int) else -1
def Y6 (t:Tpl):Lay:=⟨(t.vars.length:Int),wrP t t.vars.length,rdP t t.vars.length,(kpos t (5,0):Int),vrs t⟩
def cTask (t:Tpl):Tsk:=⟨vrs t,enc t (gst t t.init (λ _=>0) [] 0),(factsK t.goal ++ (List.range t.jobs.length).map (λ i=>(((1,i):Ky),(0:Int))) ++ [((5,0),0)]).map (toF t),(W7 t).map (toO t)⟩
section
variable {t : Tpl}
theorem Ae5 (b:Bool):(if b=true then some true else some false:Option Bool)=some b:=by cases b<;>rfl
theorem Ik (l:List Fct) (v:Int):CD l v=some (hasV l v):=by
  unfold CD Bk Br;rw [Lj (λ f:Fct=>decide (f.var=v)) λ k a hk=>by
    unfold Er;by_cases h:a.var=v<;>simp [h,At]]
  rw [At,Ae5,At];rfl
theorem AaY (v:Int):Bg t.jobs v=some (wrT t v):=by
  unfold Bg BC;rw [Lj (λ j:Job=>hasV j.atStart v || hasV j.atEnd v) λ k a hk=>by
    unfold Fw;rw [Ik,Ik,At,At];cases hasV a.atStart v<;>cases hasV a.atEnd v<;>rfl]
  rfl
theorem AaZ (v:Int):Bh t.jobs v=some (rdT t v):=by
  unfold Bh BD;rw [Lj (λ j:Job=>hasV j.start v || hasV j.fin v) λ k a hk=>by
    unfold Fx;rw [Ik,Ik,At,At];cases hasV a.start v<;>cases hasV a.fin v<;>rfl]
  rfl
theorem Mx:∀ a:List Job,(jvs a).length=2 * a.length
  | []=>rfl
  | j :: a=>by
    have:=Mx a;unfold jvs at *
    rw [K7,I5,this];simp;omega
theorem ZE (v:Nat):(mkK t v).length<=2:=by
  unfold mkK;split
  . split<;>simp
  . simp
theorem Kd:∀ n,(ksM t n).length<=2 * n
  | 0=>by simp [ksM]
  | n + 1=>by
    have:=Kd n;have:=ZE (t:=t) n;rw [MU,I5];omega
theorem UR (a b:Nat):List.replicate (a + b) (2:Int)=List.replicate a 2 ++ List.replicate b 2:=by rw [List.replicate_append_replicate]
theorem Aa0 (g:TplOk t):FO t=some (Y6 t):=by
  have hn:=g.nv;have hj:=g.nj;unfold FO;rw [Zn (by omega),At];rw [FR (λ k=>t.vars ++ jvs (t.jobs.take k)) (by simp [jvs]) (λ k j hk=>by
    have hd:=g.durs j (G2 hk);have hl:(t.vars ++ jvs (t.jobs.take k)).length<=200:=(by rw [I5,Mx,M3];omega);rw [BN (by unfold T3;omega),At,Bn (by simp only [L6,N8];omega) (by simp only [L6,N8];omega),At,K4,hk];unfold jvs;simp)]
  rw [At,Cg,M9];have e:∀ k,(t.vars ++ (jvs t.jobs ++ List.replicate (ksM t k).length (2:Int))).length=kpos t (3,k):=λ k=>by
    rw [AcO];simp [Mx];omega
  rw [FR (λ k=>(wrP t k,rdP t k,t.vars ++ (jvs t.jobs ++ List.replicate (ksM t k).length (2:Int)))) (by simp [wrP,rdP,ksM]) (λ k x hk=>by
    have hlt:=AO hk;have hl:=e k;have i:=Kd (t:=t) k;have hb:kpos t (3,k)<=300:=(by rw [AcO];omega);have b:(wrP t k).length=k:=(by unfold wrP;simp);have c:(rdP t k).length=k:=(by unfold rdP;simp);have l:wrP t (k + 1)=wrP t k ++ [if wrT t (k:Int)=true then (kpos t (3,k):Int) else -1]:=(by unfold wrP;rw [P8,P3];rfl);have m:rdP t (k + 1)=rdP t k ++ [if wrT t (k:Int)=true/\rdT t (k:Int)=true then (kpos t (4,k):Int) else -1]:=(by unfold rdP;rw [P8,P3];rfl);dsimp only;rw [AaY,At,hl,l,m,MU];by_cases a:wrT t (k:Int)=true
    . rw [if_pos a,if_pos a,Bn (by rw [hl];simp;omega) (by rw [hl];simp;omega),At,AaZ,At];by_cases d:rdT t (k:Int)=true
      . rw [if_pos d,if_pos ⟨a,d⟩,Bn (by rw [I5,hl];simp;omega) (by rw [I5,hl];simp;omega),At,At];dsimp only;rw [Bn (by rw [b];simp;omega) (by rw [b];simp;omega),At,Bn (by rw [c];simp;omega) (by rw [c];simp;omega),At];have f:mkK t k=[(3,k),(4,k)]:=(by unfold mkK;rw [if_pos a,if_pos d]);have n:(((t.vars ++ (jvs t.jobs ++ List.replicate (ksM t k).length (2:Int)) ++ [2]).length:Nat):Int)=(kpos t (4,k):Int):=(by rw [I5,hl,AcO,AeD];simp);rw [n,f,I5,UR];simp
      . rw [if_neg d,if_neg (λ h=>d h.2),At];dsimp only;rw [Bn (by rw [b];simp;omega) (by rw [b];simp;omega),At,Bn (by rw [c];simp;omega) (by rw [c];simp;omega),At];have f:mkK t k=[(3,k)]:=(by unfold mkK;rw [if_pos a,if_neg d]);rw [f,I5,UR];simp
    . rw [if_neg a,if_neg a,if_neg (λ h=>a h.1),At];dsimp only;rw [Bn (by rw [b];simp;omega) (by rw [b];simp;omega),At,Bn (by rw [c];simp;omega) (by rw [c];simp;omega),At];have f:mkK t k=[]:=(by unfold mkK;rw [if_neg a]);rw [f,N7])]
  rw [At,Cg];dsimp only;have hl:=e t.vars.length;have i:=Kd (t:=t) t.vars.length;have o:kpos t (3,t.vars.length)=kpos t (5,0):=(by rw [AcO,Ac3]);have hb:kpos t (3,t.vars.length)<=300:=(by rw [AcO];omega);rw [BN (by unfold T3;omega),At,hl,Bn (by rw [hl];simp;omega) (by rw [hl];simp;omega),At,o];unfold Y6 vrs;simp
theorem RG (a:TplOk t) {i:Nat} (hi:i < t.jobs.length):BP (Y6 t) (i:Int)=some (kpos t (1,i):Int):=by
  have:=a.nv;have:=a.nj;unfold BP Y6;rw [BN (by unfold T3;omega),At,BN (by unfold T3;dsimp only;omega),At,AcB];dsimp only;congr 1
theorem TI (a:TplOk t) {i:Nat} (hi:i < t.jobs.length):CV (Y6 t) (i:Int)=some (kpos t (2,i):Int):=by
  have:=a.nv;have:=a.nj;unfold CV Y6;rw [BN (by unfold T3;omega),At,BN (by unfold T3;dsimp only;omega),At,BN (by unfold T3;dsimp only;omega),At,Aew];dsimp only;congr 1
theorem Na (a w:List Fct) (n:Nat):needK t a w (n + 1)=needK t a w n ++ V9 t a w n:=by
  unfold needK;rw [P8,I0];simp
theorem RH (a w:List Fct) (n:Nat):Acb t a w (n + 1)=Acb t a w n ++ Y9 t a w n:=by
  unfold Acb;rw [P8,I0];simp
theorem Oe (a w:List Fct):∀ n,(needK t a w n).length<=2 * n
  | 0=>by simp [needK]
  | n + 1=>by
    have:=Oe a w n;rw [Na,I5];have:(V9 t a w n).length<=2:=by
      unfold V9;split
      . split<;>simp
      . split<;>simp
    omega
theorem Nb (a w:List Fct):∀ n,(Acb t a w n).length<=2 * n
  | 0=>by simp [Acb]
  | n + 1=>by
    have:=Nb a w n;rw [RH,I5];have:(Y9 t a w n).length<=2:=by
      unfold Y9;split
      . simp
      . split<;>simp
    omega
theorem UU {v:Nat} (a:v < t.vars.length):(wrP t t.vars.length)[v]?=some (if wrT t (v:Int)=true then (kpos t (3,v):Int) else -1):=by
  unfold wrP;rw [K1,I1 a];rfl
theorem UV {v:Nat} (a:v < t.vars.length):(rdP t t.vars.length)[v]?=some (if wrT t (v:Int)=true/\rdT t (v:Int)=true then (kpos t (4,v):Int) else -1):=by
  unfold rdP;rw [K1,I1 a];rfl
theorem OF:(wrP t t.vars.length).length=t.vars.length:=by unfold wrP;simp
theorem XU (m:TplOk t) {p w:List Fct} (n:∀ v,hasV w v=true→wrT t v=true) (hr:∀ v,hasV p v=true→rdT t v=true):Du (Y6 t) p w=some ((needK t p w t.vars.length).map (toF t),(Acb t p w t.vars.length).map (toE t)):=by
  have hn:=m.nv;unfold Du;rw [show (Y6 t).write=wrP t t.vars.length from rfl,show (Y6 t).read=rdP t t.vars.length from rfl];rw [FR (λ k=>((needK t p w k).map (toF t),(Acb t p w k).map (toE t))) (by rfl) (λ k a hk=>by
    have hlt:k < t.vars.length:=(by have:=AO hk;rwa [OF] at this);rw [UU hlt] at hk;have f:=(N4 hk).symm;have o:((needK t p w k).map (toF t)).length<=200:=(by have:=Oe (t:=t) p w k;rw [P6];omega);have n2:((Acb t p w k).map (toE t)).length<=200:=(by have:=Nb (t:=t) p w k;rw [P6];omega);dsimp only;rw [Ik,Ik,UV hlt,At,At,Na,RH,P3,P3];by_cases b:hasV w (k:Int)=true
    . have g:=n _ b;rw [if_pos g] at f;subst f;rw [if_pos b,Bn (by simp only [L6,N8];omega) (by simp only [L6,N8];omega),At];have e:Y9 t p w k=[((3,k),1)]:=(by unfold Y9;rw [if_pos b]);by_cases i:rdT t (k:Int)=true
      . have d:V9 t p w k=[((3,k),0),((4,k),0)]:=(by unfold V9;rw [if_pos b,if_pos i]);rw [if_pos ⟨g,i⟩,At,if_pos (by omega),At,Bn (by rw [I5];simp only [L6,N8];omega) (by rw [I5];simp only [L6,N8];omega),At,At];rw [Bn (by simp only [L6,N8];omega) (by simp only [L6,N8];omega),At,d,e];simp [toF,toE]
      . have d:V9 t p w k=[((3,k),0)]:=(by unfold V9;rw [if_pos b,if_neg i]);rw [if_neg (λ h=>i h.2),At,if_neg (by omega),At];rw [Bn (by simp only [L6,N8];omega) (by simp only [L6,N8];omega),At,d,e];simp [toF,toE]
    . rw [if_neg b];by_cases c:hasV p (k:Int)=true/\wrT t (k:Int)=true
      . have d:V9 t p w k=[((3,k),0)]:=(by unfold V9;rw [if_neg b,if_pos c]);have e:Y9 t p w k=[((4,k),1)]:=(by unfold Y9;rw [if_neg b,if_pos c]);rw [if_pos c.2] at f;subst f;rw [if_pos c.1,if_pos (by omega),At,if_pos rfl,Bn (by simp only [L6,N8];omega) (by simp only [L6,N8];omega),At,if_pos ⟨c.2,hr _ c.1⟩,At];rw [Bn (by simp only [L6,N8];omega) (by simp only [L6,N8];omega),At,d,e];simp [toF,toE]
      . have d:V9 t p w k=[]:=(by unfold V9;rw [if_neg b,if_neg c]);have e:Y9 t p w k=[]:=(by unfold Y9;rw [if_neg b,if_neg c]);have j:(if hasV p (k:Int)=true then if 0<=a then (some true) else (some false) else some false:Option Bool)=some false:=by
          by_cases l:hasV p (k:Int)=true
          . rw [if_pos l,if_neg];rw [f,if_neg λ h=>c ⟨l,h⟩];decide
          . rw [if_neg l]
        rw [j,At,if_neg (by decide),d,e];simp)]
  rw [At,Cg,OF]
theorem Ac8 {l:List Fct} (hl:FactsOk t.vars l):(factsK l).map (toF t)=l:=by
  unfold factsK;rw [R5];refine (I3 λ f hf=>?_).trans (List.map_id l);have:=(Gn ((V3.1 hl).1 f hf)).1;unfold toF;simp only [Function.comp,Ac4];rw [I4 this];rfl
theorem Ae3 {l:List Fct} (hl:FactsOk t.vars l):(factsK l).map (toE t)=l.map λ f=>(⟨[],f.var,f.val⟩:Eff):=by
  unfold factsK;rw [R5];refine I3 λ f hf=>?_;have:=(Gn ((V3.1 hl).1 f hf)).1;unfold toE;simp only [Function.comp,Ac4];rw [I4 this]
theorem AeE {a b c:List Fct} (h:a.length + b.length + c.length<=1000):BY [a,b,c]=some (a ++ b ++ c):=by
  unfold BY Dd;simp only [rng];rw [BN (by unfold T3;omega),At,if_neg (by omega)];dsimp only;rw [BN (by unfold T3;omega),At,if_neg (by omega)];dsimp only;rw [BN (by unfold T3;omega),At,if_neg (by omega)];dsimp only;rw [At,Cg,if_pos ⟨by omega,by omega⟩,At];rw [Bn (by simp;omega) (by simp;omega),At];dsimp only;rw [Bn (by simp;omega) (by simp;omega),At];dsimp only;rw [Bn (by simp;omega) (by simp;omega),At];dsimp only;rw [At,Cg,N6]
theorem AeG {a b c:List Eff} (h:a.length + b.length + c.length<=1000):BR [a,b,c]=some (a ++ b ++ c):=by
  unfold BR CJ;simp only [rng];rw [BN (by unfold T3;omega),At,if_neg (by omega)];dsimp only;rw [BN (by unfold T3;omega),At,if_neg (by omega)];dsimp only;rw [BN (by unfold T3;omega),At,if_neg (by omega)];dsimp only;rw [At,Cg,if_pos ⟨by omega,by omega⟩,At];rw [Bn (by simp;omega) (by simp;omega),At];dsimp only;rw [Bn (by simp;omega) (by simp;omega),At];dsimp only;rw [Bn (by simp;omega) (by simp;omega),At];dsimp only;rw [At,Cg,N6]
theorem UW (a:TplOk t) {h:Hh} (hi:h.1 < t.jobs.length) {name:ByteArray} (hn:name=(if h.2=true then enN else stN) ++ (jb t h.1).name) {more:List Fct} (hm:more=(ownP t h).map (toF t)) {ef:List Eff} (he:ef=(Z5 t h).map (toE t)) :
    Cu (Y6 t) name (hR t h) (hW t h) more ef=some (toO t (hapO t h)):=by
  have c:=a.hR h;have d:=a.hW h;have i:=FB c;have j:=FB d;have b:=a.nv;have e:(ownP t h).length<=2:=(by unfold ownP;split<;>simp);have g:(Z5 t h).length<=2:=(by unfold Z5;split<;>simp);have l:=Oe (t:=t) (hR t h) (hW t h) t.vars.length;have m:=Nb (t:=t) (hR t h) (hW t h) t.vars.length;have n:more.length<=2:=(by rw [hm,P6];exact e);have o:ef.length<=2:=(by rw [he,P6];exact g);unfold Cu;rw [AeE (by simp only [L6,N8];omega),At];rw [FR (λ k=>((hW t h).take k).map λ f=>(⟨[],f.var,f.val⟩:Eff)) (by rfl) (λ k f hk=>by
    have:=AO hk;rw [Bn (by simp;omega) (by simp;omega),At,K4,hk];simp)]
  rw [At,Cg,M9,XU a (λ v b=>Ln hi b) (λ v b=>Tw hi b),At];dsimp only;rw [Bn (by simp;omega) (by simp;omega),At,AeG (by simp;omega),At,if_pos (by simp;omega),At];unfold toO hapO;simp only [P3,Ac8 c,Ae3 d,<- hm,<- he,<- hn];rfl
theorem Of {a b:ByteArray} (h:a.size + b.size<=1000):Z4 a b=some (a ++ b):=if_pos (by omega)
theorem UX (f:Fct):AM [f]=[f]:=QX (.refl _) (D5 _ _)
theorem XV (e:TplOk t) {i:Nat} (hi:i < t.jobs.length) {l:List Fct} (hl:FactsOk t.vars l) (a b:Int):AM (l ++ [⟨(kpos t (1,i):Int),a⟩,⟨(kpos t (5,0):Int),b⟩])=l ++ [⟨(kpos t (1,i):Int),a⟩,⟨(kpos t (5,0):Int),b⟩]:=by
  refine QX (.refl _) ?_;rw [H2];refine ⟨(V3.1 hl).2,?_,λ x d y c=>?_⟩
  . refine .cons (λ y c=>?_) (D5 _ _);have:y=⟨(kpos t (5,0):Int),b⟩:=(by simpa using c);subst this;show (kpos t (1,i):Int) < (kpos t (5,0):Int);rw [AcB,Ac3];omega
  . have f:=Gn ((V3.1 hl).1 x d);have:y=⟨(kpos t (1,i):Int),a⟩\/y=⟨(kpos t (5,0):Int),b⟩:=(by simpa using c);rcases this with rfl|rfl
    . show x.var < (kpos t (1,i):Int);rw [AcB];omega
    . show x.var < (kpos t (5,0):Int);rw [Ac3];omega
theorem XW (k:Nat):(Y1 k).size<=2:=MG k
theorem ZF (a:TplOk t) {i:Nat} (hi:i < t.jobs.length) (n:(jb t i).name.size<=300) {k:Nat} (hk:k<=(jb t i).dur.toNat):Dh (Y6 t) (jb t i) (i:Int) (k:Int)=some (toO t (waitO t i k)):=by
  have hd:=a.dur i;have r:=a.nv;have hj:=a.nj;have fo:=a.over i;have s:=FB fo;have hs:=XW k;have u:waN.size=5:=rfl;have v:spN.size=1:=rfl;unfold Dh;rw [show (⟨#[119,97,105,116,32]⟩:ByteArray)=waN from rfl,show (⟨#[32]⟩:ByteArray)=spN from rfl];rw [Of (by omega),At,Of (by rw [F5];omega),At,Uy,if_pos ⟨by omega,by omega⟩,At,L2,Of (by rw [F5,F5];omega),At];have o:(if 0 < (k:Int) then (bnd (BU (jb t i).over) λ b=>some b) else (some ([]:List Fct)):Option (List Fct))=some (if 0 < k then (jb t i).over else []):=by
    by_cases j:0 < k
    . rw [if_pos (by omega),if_pos j,Tv (by omega),At]
    . rw [if_neg (by omega),if_neg j]
  have w:(if 0 < k then (jb t i).over else []).length<=64:=by
    split
    . omega
    . simp
  (try rw [At]);rw [o,At,BN (by unfold T3;omega),At,RG a hi,At,Bn (by simp only [L6,N8];omega) (by simp only [L6,N8];omega),At];have p:(if 1 < (k:Int) then (bnd (T4 ((k:Int) - 1)) λ c=>bnd (some (kpos t (1,i):Int)) λ d=>bnd (T5 40 ([]:List Eff) [(⟨([]:List Fct),d,c⟩:Eff)]) λ e=>some e) else (if (k:Int)=1 then (bnd (T4 ((jb t i).dur + 1)) λ f=>bnd (some (kpos t (1,i):Int)) λ g=>bnd (T5 40 ([]:List Eff) [(⟨([]:List Fct),g,f⟩:Eff)]) λ h=>some h) else (some ([]:List Eff))):Option (List Eff))=some ((waitE t i k).map (toE t)):=by
    unfold waitE;by_cases l:1 < k
    . rw [if_pos (by omega),if_pos l,BN (by unfold T3;omega),At,At,Bn (by simp) (by simp),At];rfl
    . rw [if_neg (by omega),if_neg l];by_cases m:k=1
      . rw [if_pos (by omega),if_pos m,BN (by unfold T3;omega),At,At,Bn (by simp) (by simp),At];rfl
      . rw [if_neg (by omega),if_neg m];rfl
  have x:(waitE t i k).length<=1:=by
    unfold waitE;split
    . simp
    . split<;>simp
  rw [p,At,BN (by unfold T3;omega),At,Bn (by simp;omega) (by simp;omega),At];unfold toO waitO;have q:((if 0 < k then factsK (jb t i).over else []) ++ [((1,i),(k:Int)),((5,0),(i:Int) + 1)]:List KF).map (toF t)=(if 0 < k then (jb t i).over else []) ++ [⟨(kpos t (1,i):Int),(k:Int)⟩,⟨(kpos t (5,0):Int),(i:Int) + 1⟩]:=by
    rw [P3];congr 1;split
    . exact Ac8 fo
    . rfl
  rw [q];dsimp only;have hf:FactsOk t.vars (if 0 < k then (jb t i).over else []):=by
    split
    . exact fo
    . exact AdF _
  rw [XV a hi hf,P3];rfl
theorem Aa1 (e:TplOk t):CK (Y6 t) (t.jobs.length:Int)=some (toO t (Z1 t)):=by
  have j:=e.nv;have hj:=e.nj;unfold CK;rw [BN (by unfold T3;omega),At,show Y5 (t.jobs.length:Int)=some t.jobs.length from by unfold Y5;rw [if_pos (by omega)];simp,At];rw [LC (λ k=>((List.range k).map (λ i=>(((2,i):Ky),(0:Int)))).map (toE t)) (by rfl) (λ k hk=>by
    rw [TI e hk,At,Bn (by simp;omega) (by simp;omega),At,P8];simp [toE])]
  rw [At,Cg];rw [show (Y6 t).write=wrP t t.vars.length from rfl,show (Y6 t).read=rdP t t.vars.length from rfl];rw [FR (λ k=>((List.range t.jobs.length).map (λ i=>(((2,i):Ky),(0:Int)))).map (toE t) ++ ((ksM t k).map λ y=>(y,(0:Int))).map (toE t)) (by simp [ksM]) (λ k a hk=>by
    have hlt:k < t.vars.length:=(by have:=AO hk;rwa [OF] at this);rw [UU hlt] at hk;have f:=(N4 hk).symm;have g:=Kd (t:=t) k;have l:(((List.range t.jobs.length).map (λ i=>(((2,i):Ky),(0:Int)))).map (toE t) ++ ((ksM t k).map λ y=>(y,(0:Int))).map (toE t)).length<=200:=(by simp;omega);rw [UV hlt,MU];simp only [At];by_cases b:wrT t (k:Int)=true
    . rw [if_pos b] at f;subst f;rw [if_pos (by omega),Bn (by simp only [L6,N8];omega) (by simp only [L6,N8];omega),At,At];by_cases d:rdT t (k:Int)=true
      . have c:mkK t k=[(3,k),(4,k)]:=(by unfold mkK;rw [if_pos b,if_pos d]);rw [if_pos (show wrT t (k:Int)=true/\rdT t (k:Int)=true from ⟨b,d⟩),if_pos (by omega),Bn (by rw [I5];simp only [L6,N8];omega) (by rw [I5];simp only [L6,N8];omega),At,c];simp [toE]
      . have c:mkK t k=[(3,k)]:=(by unfold mkK;rw [if_pos b,if_neg d]);rw [if_neg (show ¬ (wrT t (k:Int)=true/\rdT t (k:Int)=true) from λ h=>d h.2),if_neg (by omega),c];simp [toE]
    . rw [if_neg b] at f;have c:mkK t k=[]:=(by unfold mkK;rw [if_neg b]);rw [if_neg (show ¬ (wrT t (k:Int)=true/\rdT t (k:Int)=true) from λ h=>b h.1),if_neg (show ¬ (0:Int)<=a by omega),At,if_neg (show ¬ (0:Int)<=-1 by omega),c,N7])]
  have g:=Kd (t:=t) t.vars.length;rw [At,Cg,OF,Bn (by simp;omega) (by simp;omega),At];unfold toO Z1;rw [show ([((5,0),(t.jobs.length:Int) + 1)]:List KF).map (toF t)=[(⟨(kpos t (5,0):Int),(t.jobs.length:Int) + 1⟩:Fct)] from rfl];dsimp only;rw [UX,P3,P3];rfl
theorem Og (a:TplOk t):∀ n,(V2 t n).length<=63 * n
  | 0=>by simp [V2]
  | n + 1=>by
    have:=Og a n;have:=a.dur n;rw [Ka];omega
theorem ZG (d:TplOk t):cpyL (List.replicate (vrs t).length (0:Int)) t.init=enc t (gst t t.init (λ _=>0) [] 0):=by
  have hi:=d.init.1;have hl:(vrs t).length=(keys t).length:=(by rw [Lk];unfold vrs;simp [Mx];omega);refine K0 λ i=>?_;unfold cpyL enc;rw [F3,hl,K1];by_cases e:i < t.vars.length
  . rw [B8 (by rw [M3,Lk];omega),I7];rw [if_pos (by rw [Lk];omega)];have hk:=IX (t:=t) (k:=(0,i)) (Ew.2 (.inl ⟨rfl,e⟩));rw [Ac4] at hk;rw [hk];obtain ⟨x,hx⟩:=AL (l:=t.init) (k:=i) (by omega);rw [hx];show some x=some ((t.init[i]?).getD 0);rw [hx];rfl
  . rw [B4 (by rw [M3];omega),M3,M6 (by rw [Lk];omega),List.drop_replicate,D4];by_cases b:i < (keys t).length
    . rw [if_pos (by omega),C4 b];have hm:=List.getElem_mem b;have c:=PF t i _ (C4 b);generalize (keys t)[i]=k at hm c;show some 0=some (gst t t.init (λ _=>0) [] 0 k);rcases Ew.1 hm with ⟨g1,g2⟩|⟨g1|g1,_⟩|⟨g1,_⟩|⟨g1,_⟩|g1
      . obtain ⟨a,v⟩:=k;simp only at g1 g2;subst g1;rw [Ac4] at c;omega
      . obtain ⟨a,v⟩:=k;simp only at g1;subst g1;rfl
      . obtain ⟨a,v⟩:=k;simp only at g1;subst g1;rfl
      . obtain ⟨a,v⟩:=k;simp only at g1;subst g1;rfl
      . obtain ⟨a,v⟩:=k;simp only at g1;subst g1;rfl
      . subst g1;rfl
    . rw [if_neg (by omega),E8 (by omega)];rfl
theorem VH (A:tck t=0) (y:∀ j∈t.jobs,j.name.size≤300):DA t=some (if V6 (cTask t)≠0 then (⟨[],[],[],[]⟩,⟨V6 (cTask t)⟩) else (cTask t,⟨0⟩)):=by
  have a:=To A;have J:=a.nv;have hj:=a.nj;have B:=a.goal;have K:=B.1;have L:(vrs t).length<=300:=by
    have:=Kd (t:=t) t.vars.length;unfold vrs;simp [Mx];omega
  unfold DA;rw [WH (by omega),A,At,if_neg (by simp),Aa0 a,At];rw [show (Y6 t).vars=vrs t from rfl,show (Y6 t).phase=(kpos t (5,0):Int) from rfl];rw [Sv (by omega) (by omega),At,Tv (by omega),At];have M:stN.size=6:=rfl;have N:enN.size=4:=rfl;rw [FR (λ k=>(t.goal ++ ((List.range k).map (λ i=>(((1,i):Ky),(0:Int)))).map (toF t),(AbV t k).map (toO t))) (by simp [AbV]) (λ k j hk=>by
    have hlt:=AO hk;have b:=Qz hk;have hn:=y j (G2 hk);have hd:=a.durs j (G2 hk);have E:((AbV t k).map (toO t)).length<=100:=(by rw [P6,DU];omega);dsimp only;rw [RG a hlt,TI a hlt];simp only [At];rw [show (⟨#[115,116,97,114,116,32]⟩:ByteArray)=stN from rfl,show (⟨#[101,110,100,32]⟩:ByteArray)=enN from rfl];rw [Of (by omega),At];have C:=UW a (h:=(k,false)) hlt (name:=stN ++ j.name) (by rw [b];rfl) (more:=[(⟨(kpos t (1,k):Int),0⟩:Fct),(⟨(kpos t (2,k):Int),0⟩:Fct)]) rfl (ef:=[(⟨([]:List Fct),(kpos t (1,k):Int),j.dur⟩:Eff)]) (by rw [<- b];rfl);have D:=UW a (h:=(k,true)) hlt (name:=enN ++ j.name) (by rw [b];rfl) (more:=[(⟨(kpos t (1,k):Int),j.dur + 1⟩:Fct)]) (by rw [<- b];rfl) (ef:=[(⟨([]:List Fct),(kpos t (1,k):Int),0⟩:Eff),(⟨([]:List Fct),(kpos t (2,k):Int),1⟩:Eff)]) rfl;rw [show hR t (k,false)=j.start from by rw [<- b];rfl,show hW t (k,false)=j.atStart from by rw [<- b];rfl] at C;rw [show hR t (k,true)=j.fin from by rw [<- b];rfl,show hW t (k,true)=j.atEnd from by rw [<- b];rfl] at D;rw [C,At,Bn (by simp only [L6,N8];omega) (by simp only [L6,N8];omega),At,BN (by unfold T3;omega),At,Of (by omega),At,D,At];rw [Bn (by rw [I5];simp only [L6,N8];omega) (by rw [I5];simp only [L6,N8];omega),At];rw [Bn (by simp;omega) (by simp;omega),At,Oa,P8];simp [toF])]
  rw [At,Cg];dsimp only;rw [Bn (by simp;omega) (by simp;omega),At];have F:t.goal ++ ((List.range t.jobs.length).map (λ i=>(((1,i):Ky),(0:Int)))).map (toF t) ++ [(⟨(kpos t (5,0):Int),0⟩:Fct)]=(cTask t).goal:=by
    unfold cTask;simp only [P3,Ac8 B.2];rfl
  have z:(if 0 < (t.jobs.length:Int) then (bnd (T5 72 ((AbV t t.jobs.length).map (toO t)) [(⟨(⟨#[116,105,99,107]⟩:ByteArray),0,[(⟨(kpos t (5,0):Int),0⟩:Fct)],[(⟨([]:List Fct),(kpos t (5,0):Int),1⟩:Eff)]⟩:Opr)]) λ f=>bnd (rng (ρ:=(List Opr)) (λ (g:Nat) (c:Job) (l:(List Opr))=>bnd (T4 (c.dur + 1)) λ n=>bnd (Y5 n) λ o=>bnd (rngN (ρ:=Ctl (List Opr) (List Opr)) (λ (p:Nat) (q:(List Opr))=>bnd (Dh (Y6 t) c (g:Int) (p:Int)) λ r=>bnd (T5 72 q [r]) λ s=>some (.next s)) o l) λ d=>fin d λ (u:(List Opr))=>some (.next u)) t.jobs 0 f) λ e=>fin e λ (v:(List Opr))=>bnd (CK (Y6 t) (t.jobs.length:Int)) λ w=>bnd (T5 72 v [w]) λ x=>some x) else (some ((AbV t t.jobs.length).map (toO t))):Option (List Opr))=some ((W7 t).map (toO t)):=by
    have E:((AbV t t.jobs.length).map (toO t)).length<=100:=(by rw [P6,DU];omega);unfold W7;by_cases hz:t.jobs.length=0
    . rw [if_neg (by omega),if_pos hz,N7]
    . rw [if_pos (by omega),if_neg hz];have G:(⟨(⟨#[116,105,99,107]⟩:ByteArray),0,[(⟨(kpos t (5,0):Int),0⟩:Fct)],[(⟨([]:List Fct),(kpos t (5,0):Int),1⟩:Eff)]⟩:Opr)=toO t W9:=by
        unfold toO W9;rw [show ([((5,0),0)]:List KF).map (toF t)=[(⟨(kpos t (5,0):Int),0⟩:Fct)] from rfl];dsimp only;rw [UX];rfl
      rw [G,Bn (by simp only [L6,N8];omega) (by simp only [L6,N8];omega),At];rw [FR (λ k=>(AbV t t.jobs.length).map (toO t) ++ [toO t W9] ++ (V2 t k).map (toO t)) (by simp [V2]) (λ k j hk=>by
        have hlt:=AO hk;have b:=Qz hk;have hn:=y j (G2 hk);have hd:=a.durs j (G2 hk);have H:=Og a k;have I:Y5 (j.dur + 1)=some (j.dur.toNat + 1):=(by unfold Y5;rw [if_pos (by omega)];congr 1;omega);rw [BN (by unfold T3;omega),At,I,At];rw [LC (λ m=>(AbV t t.jobs.length).map (toO t) ++ [toO t W9] ++ (V2 t k).map (toO t) ++ ((List.range m).map (waitO t k)).map (toO t)) (by simp) (λ m hm=>by
          have:=ZF a hlt (by rw [b];exact hn) (k:=m) (by rw [b];omega);rw [b] at this;rw [this,At,Bn (by simp;rw [DU];omega) (by simp;rw [DU];omega),At,P8];simp)]
        rw [At,Cg,MW,b];simp)]
      have H:=Og a t.jobs.length;rw [At,Cg,Aa1 a,At,Bn (by simp;rw [DU];omega) (by simp;rw [DU];omega),At];simp
  rw [z,At,F,ZG a];unfold HY;rw [At];show (if V6 (cTask t)≠0 then _ else _)=_;by_cases hc:V6 (cTask t)≠0
  . rw [if_pos hc,if_pos hc];rfl
  . rw [if_neg hc,if_neg hc];rfl
theorem Aa2 (hc:V6 (cTask t)=0):Cmd t (cTask t):=by
  refine ⟨by unfold cTask;simp,λ k o a=>⟨toO t o,?_,rfl,?_,rfl⟩,rfl,rfl,IP.1 hc⟩
  . unfold cTask;rw [K1,a];rfl
  . exact Jf _
end
end
section
open Go Go.RowKit
section
variable {t : Tpl}
def KNd (l:List KF):Prop:=(l.map (·.1)).Nodup
theorem KNd.app {a b:List KF} (c:KNd a) (hb:KNd b) (h:∀ x∈a,∀ y∈b,x.1≠y.1):KNd (a ++ b):=by
  unfold KNd at *
  rw [P3,K3];refine ⟨c,hb,λ x d y e=>?_⟩;obtain ⟨p,hp,rfl⟩:=R3.1 d;obtain ⟨q,hq,rfl⟩:=R3.1 e;exact h p hp q hq
theorem RI {l:List Fct} (hl:FactsOk t.vars l):KNd (factsK l):=by
  unfold KNd factsK List.Nodup;rw [R5,L4];refine D0 (λ {a b} c hb h=>?_) (V3.1 hl).2;have d:=(Gn ((V3.1 hl).1 a c)).1;simp only [Function.comp];intro e;injection e with _ e;omega
theorem TJ (f w:List Fct):∀ n,KNd (needK t f w n)
  | 0=>by simp [KNd,needK]
  | n + 1 => by
    rw [Na];refine (TJ f w n).app ?_ λ x c y hy=>?_
    . unfold KNd V9;split
      . split<;>simp
      . split<;>simp
    . have b  : x.1.2 < n:=by
        obtain ⟨v,hv,⟨a|⟨a,_⟩,_⟩|⟨a,_⟩⟩:=LF c
        . rw [a];exact hv
        . rw [a];exact hv
        . rw [a];exact hv
      have d  : y.1.2=n:=by
        unfold V9 at hy;split at hy
        . rcases Q1.1 hy with rfl|hy
          . rfl
          . split at hy
            . have:y=((4,n),0):=(by simpa using hy);rw [this]
            . cases hy
        . split at hy
          . have:y=((3,n),0):=(by simpa using hy);rw [this]
          . cases hy
      intro e;rw [e,d] at b;exact Q2 _ b
theorem PK {h:Hh} {x:KF} (a:x∈ownP t h):x.1.1=1\/x.1.1=2:=by
  unfold ownP at a;split at a
  . have:x=((1,h.1),(jb t h.1).dur + 1):=(by simpa using a);subst this;exact .inl rfl
  . have:x=((1,h.1),0)\/x=((2,h.1),0):=(by simpa using a);rcases this with rfl|rfl
    . exact .inl rfl
    . exact .inr rfl
theorem WX {b w:List Fct} {n:Nat} {x:KF} (h:x∈needK t b w n):x.1.1=3\/x.1.1=4:=by
  obtain ⟨v,_,⟨a|⟨a,_⟩,_⟩|⟨a,_⟩⟩:=LF h
  . rw [a];exact .inl rfl
  . rw [a];exact .inr rfl
  . rw [a];exact .inl rfl
theorem Aa3 (d:TplOk t) (h:Hh):KNd (hapO t h).pre:=by
  unfold hapO;refine KNd.app (KNd.app (KNd.app (RI (d.hR h)) ?_ λ x hx y c e=>?_) ?_ λ x hx y c e=>?_) (TJ _ _ _) λ x hx y c e=>?_
  . unfold KNd ownP;split<;>simp
  . have a:=Gf hx;have b:=PK c;rw [e] at a;omega
  . unfold KNd;simp
  . have:y=((5,0),0):=(by simpa using c);subst this;rcases N1.1 hx with hx|hx
    . have a:=Gf hx;rw [e] at a;cases a
    . have b:=PK hx;rw [e] at b;simp at b
  . have b:=WX c;rcases N1.1 hx with hx|hx
    . rcases N1.1 hx with hx|hx
      . have a:=Gf hx;rw [e] at a;omega
      . have a:=PK hx;rw [e] at a;omega
    . have:x=((5,0),0):=(by simpa using hx);subst this;rw [<- e] at b;simp at b
theorem ZH (c:TplOk t) (i k:Nat):KNd (waitO t i k).pre:=by
  unfold waitO;refine KNd.app ?_ (by unfold KNd;simp) λ x b y d e=>?_
  . split
    . exact RI (c.over i)
    . unfold KNd;simp
  . have a:x.1.1=0:=by
      split at b
      . exact Gf b
      . cases b
    have:y=((1,i),(k:Int))\/y=((5,0),(i:Int) + 1):=(by simpa using d);rcases this with rfl|rfl
    . rw [e] at a;cases a
    . rw [e] at a;cases a
theorem ZI {l:List KF} (h:KNd l) (hk:∀ x∈l,x.1∈keys t):(l.map (toF t)).Pairwise λ a b=>a.var≠b.var:=by
  unfold KNd List.Nodup at h;rw [L4] at h ⊢;refine D0 (λ {a b} d hb c e=>c ?_) h;unfold toF at e;exact XN (hk a d) (hk b hb) (by simp only at e;omega)
theorem VI {l:List Fct} (h:l.Pairwise λ a b=>a.var≠b.var):(AM l).Pairwise λ a b=>a.var < b.var:=by
  have c:=Pa l;have d:=((Jf l).pairwise_iff (R:=λ a b:Fct=>a.var≠b.var) (λ e=>T1 e)).2 h;exact List.Pairwise.imp₂ (λ a b p q=>by omega) c d
end
end
section
open Go Go.RowKit
theorem PlanR.bound {t:Tsk} (h:TaskOk t) {s p a:List Int} {C:Int} (hr:PlanR t s p a C):0<=C/\C<=(p.length:Int) * 1048576:=by
  induction hr with
  | nil=>simp
  | @cons s b a k o C c _ _ d =>
    have e:=(h.2.2.2.2.2 k o c).1;have f:=(h.2.2.2.2.2 k o c).2.1;simp only [L6];omega
theorem XX {t:Tsk} {f:Rsl} {b:Int} (a:b < Inf->Walk t t.init b) (c:f.verdict=2) (d:f.plan=[]) (hc:f.cost=0) (hn:∀ C,¬ Walk t t.init C):FP t f b=some true:=by
  have hlt:¬ b < Inf:=λ e=>hn _ (a e);unfold FP;unfold Inf at hlt;rw [if_pos (by omega),if_pos c,d,if_pos (by simp),if_pos hc];rfl
theorem RJ {α:Type} [DecidableEq α]:∀ {a b:List α},a.Nodup->(∀ x∈a,x∈b)->a.length<=b.length
  | [],_,_,_=>S0 _
  | x :: a,b,hn,hs=>by
    have c:=hs x J0;have f:=RJ (a:=a) (b:=b.erase x) (P5.1 hn).2 λ y d=>(List.mem_erase_of_ne (λ e=>(P5.1 hn).1 (by rw [<- e];exact d))).2 (hs y (G1 _ d));have g:=List.length_erase_of_mem c;have h:=E5 c;simp only [L6];omega
end
section
open Go Go.RowKit
section
variable {t : Tpl}
def dm (t:Tpl) (k:Ky):Int:=if k.1=0 then (t.vars[k.2]?).getD 1 else if k.1=1 then (jb t k.2).dur + 2 else if k.1=5 then (t.jobs.length:Int) + 2 else 2
theorem dm0 (v:Nat):dm t (0,v)=(t.vars[v]?).getD 1:=rfl
theorem dm1 (i:Nat):dm t (1,i)=(jb t i).dur + 2:=rfl
theorem UY:∀ (n:Nat),n<=t.jobs.length->(ksJ n).map (dm t)=jvs (t.jobs.take n)
  | 0,_=>rfl
  | n + 1,h=>by
    rw [PE,P3,UY n (by omega),K4,AaN (by omega)];unfold jvs;simp [dm]
theorem OG:vrs t=(keys t).map (dm t):=by
  unfold vrs keys;rw [P3,P3,P3,UY _ (R7 _),M9,R5];congr 1
  . refine K0 λ i=>?_;rw [K1];by_cases h:i < t.vars.length
    . obtain ⟨x,a⟩:=AL h;rw [I1 h,a];show _=some ((t.vars[i]?).getD 1);rw [a];rfl
    . rw [E8 (by omega),E8 (by simpa using h)];rfl
  . congr 1;congr 1;symm;rw [List.eq_replicate_iff];refine ⟨by simp,λ x a=>?_⟩;obtain ⟨k,hk,rfl⟩:=R3.1 a;unfold ksM at hk;obtain ⟨v,_,hk⟩:=M5.1 hk;rcases KD.1 hk with ⟨rfl,_⟩|⟨rfl,_⟩<;>rfl
theorem Aa4 {k:Ky} (h:k∈keys t):(vrs t)[kpos t k]?=some (dm t k):=by
  rw [OG,K1,IX h];rfl
def VIn (t:Tpl) (x:KF):Prop:=0<=x.2/\x.2 < dm t x.1
theorem My {x:KF} (h:x.1∈keys t) (a:VIn t x):X1 (vrs t) (toF t x):=by
  refine ⟨by unfold toF;simp,a.1,dm t x.1,?_,a.2⟩;unfold toF;simp only [L2];exact Aa4 h
theorem XY {l:List KF} (hn:KNd l) (hk:∀ x∈l,x.1∈keys t) (a:∀ x∈l,VIn t x):FactsOk (vrs t) (AM (l.map (toF t))):=by
  refine V3.2 ⟨λ f hf=>?_,VI (ZI hn hk)⟩;obtain ⟨x,hx,rfl⟩:=R3.1 ((Jf _).mem_iff.1 hf);exact My (hk x hx) (a x hx)
theorem v0 {l:List Fct} (hl:FactsOk t.vars l):∀ x∈factsK l,VIn t x:=λ x a=>by
  obtain ⟨f,hf,rfl⟩:=Ju.1 a;obtain ⟨b,h2,y,h3,h4⟩:=(V3.1 hl).1 f hf;refine ⟨h2,?_⟩;rw [dm0,h3];exact h4
theorem JI (b:TplOk t) {k:Ky} (h:k∈keys t):VIn t (k,0):=by
  refine ⟨R9 _,?_⟩;show 0 < dm t k;rcases Ew.1 h with ⟨g1,g2⟩|⟨g1|g1,_⟩|⟨g1,_⟩|⟨g1,_⟩|g1
  . obtain ⟨a,v⟩:=k;simp only at g1 g2;subst g1;obtain ⟨x,hx⟩:=AL g2;have:=b.doms x (G2 hx);rw [dm0,hx];show 0 < x;omega
  . obtain ⟨a,v⟩:=k;simp only at g1;subst g1;have:=b.dur v;rw [dm1];omega
  . obtain ⟨a,v⟩:=k;simp only at g1;subst g1;show (0:Int) < 2;omega
  . obtain ⟨a,v⟩:=k;simp only at g1;subst g1;show (0:Int) < 2;omega
  . obtain ⟨a,v⟩:=k;simp only at g1;subst g1;show (0:Int) < 2;omega
  . subst g1;show (0:Int) < (t.jobs.length:Int) + 2;omega
def VlO (t:Tpl) (o:KO):Prop:=(∀ x∈o.pre,VIn t x)/\∀ x∈o.effs,VIn t x
theorem Aa5 (b:TplOk t) {h:Hh} (hi:h.1 < t.jobs.length):VlO t (hapO t h):=by
  have hd:=b.dur h.1;unfold VlO hapO;simp only [N1,or_imp,forall_and];refine ⟨⟨⟨⟨v0 (b.hR h),λ x a=>?_⟩,λ x a=>?_⟩,λ x a=>?_⟩,⟨v0 (b.hW h),λ x a=>?_⟩,λ x a=>?_⟩
  . unfold ownP at a;split at a
    . have:x=((1,h.1),(jb t h.1).dur + 1):=(by simpa using a);subst this;unfold VIn;simp only [dm1];omega
    . have:x=((1,h.1),0)\/x=((2,h.1),0):=(by simpa using a);rcases this with rfl|rfl
      . exact JI b (Acg hi)
      . exact JI b (AdE hi)
  . have:x=((5,0),0):=(by simpa using a);subst this;exact JI b AbX
  . obtain ⟨v,hv,⟨c|⟨c,h2⟩,h1⟩|⟨c,h1,h2⟩⟩:=LF a
    . subst c;exact JI b (Add hv (Ln hi h1))
    . subst c;exact JI b (AdM hv (Ln hi h1) h2)
    . subst c;exact JI b (Add hv h2)
  . unfold Z5 at a;split at a
    . have:x=((1,h.1),0)\/x=((2,h.1),1):=(by simpa using a);rcases this with rfl|rfl
      . exact JI b (Acg hi)
      . exact ⟨by simp,by show (1:Int) < 2;decide⟩
    . have:x=((1,h.1),(jb t h.1).dur):=(by simpa using a);subst this;unfold VIn;simp only [dm1];omega
  . obtain ⟨v,hv,⟨rfl,h1⟩|⟨rfl,_,h1,h2⟩⟩:=Ht.1 a
    . exact ⟨by simp,by show (1:Int) < 2;decide⟩
    . exact ⟨by simp,by show (1:Int) < 2;decide⟩
theorem ZJ (b:TplOk t):VlO t W9:=⟨λ x a=>(by have:x=((5,0),0):=(by simpa [W9] using a);subst this;exact JI b AbX),λ x a=>(by have:x=((5,0),1):=(by simpa [W9] using a);subst this;exact ⟨by simp,by show (1:Int) < (t.jobs.length:Int) + 2;omega⟩)⟩
theorem ZK (b:TplOk t) {i k:Nat} (hi:i < t.jobs.length) (hk:k≤(jb t i).dur.toNat):VlO t (waitO t i k):=by
  have hd:=b.dur i;unfold VlO waitO;simp only [N1,or_imp,forall_and];refine ⟨⟨λ x a=>?_,λ x a=>?_⟩,λ x a=>?_,λ x a=>?_⟩
  . split at a
    . exact v0 (b.over i) x a
    . cases a
  . have:x=((1,i),(k:Int))\/x=((5,0),(i:Int) + 1):=(by simpa using a);rcases this with rfl|rfl
    . unfold VIn;simp only [dm1];omega
    . exact ⟨by simp only;omega,by show (i:Int) + 1 < (t.jobs.length:Int) + 2;omega⟩
  . unfold waitE at a;split at a
    . have:x=((1,i),(k:Int) - 1):=(by simpa using a);subst this;unfold VIn;simp only [dm1];omega
    . split at a
      . have:x=((1,i),(jb t i).dur + 1):=(by simpa using a);subst this;unfold VIn;simp only [dm1];omega
      . cases a
  . have:x=((5,0),(i:Int) + 2):=(by simpa using a);subst this;exact ⟨by simp only;omega,by show (i:Int) + 2 < (t.jobs.length:Int) + 2;omega⟩
theorem Aa6 (d:TplOk t):VlO t (Z1 t):=by
  have hk:=KG (t:=t);refine ⟨λ x hx=>?_,λ x hx=>?_⟩
  . have:x=((5,0),(t.jobs.length:Int) + 1):=(by simpa [Z1] using hx);subst this;exact ⟨by simp only;omega,by show (t.jobs.length:Int) + 1 < (t.jobs.length:Int) + 2;omega⟩
  . have e:=hk.2 x hx;have c:x.2=0:=by
      unfold Z1 at hx;simp only [N1,R3] at hx;rcases hx with (⟨i,_,rfl⟩|⟨y,_,rfl⟩)|hx
      . rfl
      . rfl
      . have:x=((5,0),0):=(by simpa using hx);subst this;rfl
    obtain ⟨a,b⟩:=x;simp only at c;subst c;exact JI d e
theorem XZ {P:KO->Prop} (c:∀ h:Hh,h.1 < t.jobs.length->P (hapO t h)) (d:P W9) (e:∀ i k,i < t.jobs.length->k<=(jb t i).dur.toNat->P (waitO t i k)) (f:P (Z1 t)) {k:Nat} {o:KO} (a:(W7 t)[k]?=some o):P o:=by
  rcases OC (t:=t) (p:=k) (AO a) with ⟨h,hi,rfl⟩|⟨b,rfl|⟨i,k',hi,hk,rfl⟩|rfl⟩
  . rw [Mq hi] at a;cases a;exact c h hi
  . rw [Ll b] at a;cases a;exact d
  . rw [Lm hi hk] at a;cases a;exact e i k' hi hk
  . rw [Mr b] at a;cases a;exact f
structure Tiny (t:Tpl):Prop where
  vars:t.vars.length<=3
  jobs:t.jobs.length<=2
  dur:∀ i,i < t.jobs.length->(jb t i).dur<=3
theorem RK (b:TplOk t) (a:Tiny t):∀ n,n<=t.jobs.length->(V2 t n).length<=4 * n
  | 0,_=>by simp [V2]
  | n + 1,h=>by
    have:=RK b a n (by omega);have:=a.dur n (by omega);rw [Ka];omega
theorem UZ (b:TplOk t) (a:Tiny t):(W7 t).length<=14:=by
  have hj:=a.jobs;by_cases c:0 < t.jobs.length
  . have:=RK b a _ (R7 _);rw [Tt t c];unfold wNo;omega
  . rw [Tu (by omega)];simp
theorem Ya (a:Tiny t):(keys t).length<=14:=by
  have b:=a.vars;have c:=a.jobs;have:=Kd (t:=t) t.vars.length;rw [Lk];omega
theorem Yb (a:TplOk t):FactsOk (vrs t) (cTask t).goal:=by
  unfold cTask;dsimp only;refine V3.2 ⟨λ f hf=>?_,?_⟩
  . obtain ⟨x,hx,rfl⟩:=R3.1 hf;simp only [N1,R3,P9] at hx;rcases hx with (hx|⟨i,hi,rfl⟩)|hx
    . exact My (Adz a a.goal.2 hx) (v0 a.goal.2 x hx)
    . exact My (Acg hi) (JI a (Acg hi))
    . have:x=((5,0),0):=(by simpa using hx);subst this;exact My AbX (JI a AbX)
  . rw [P3,P3,Ac8 a.goal.2,H2,H2];refine ⟨⟨(V3.1 a.goal.2).2,?_,λ x hx y b=>?_⟩,D5 _ _,λ x hx y b=>?_⟩
    . rw [L4,L4];refine List.pairwise_lt_range.imp λ h=>?_;unfold toF;simp only [AcB];omega
    . have c:=Gn ((V3.1 a.goal.2).1 x hx);obtain ⟨z,hz,rfl⟩:=R3.1 b;obtain ⟨i,_,rfl⟩:=R3.1 hz;unfold toF;simp only [AcB];omega
    . have:y=toF t ((5,0),0):=(by simpa using b);subst this;unfold toF;simp only [Ac3];rcases N1.1 hx with hx|hx
      . have c:=Gn ((V3.1 a.goal.2).1 x hx);omega
      . obtain ⟨z,hz,rfl⟩:=R3.1 hx;obtain ⟨i,hi,rfl⟩:=R3.1 hz;have:=P9.1 hi;unfold toF;simp only [AcB];omega
theorem ZL {t:Tpl} {f:List Fct} (h:f∈conds (cTask t)):f=(cTask t).goal\/(∃ o,(∃ k:Nat,(W7 t)[k]?=some o)/\f=(toO t o).pre)\/f=[]:=by
  rcases JW.1 h with h|⟨i,o,ho,rfl|⟨j,e,he,rfl⟩⟩
  . exact .inl h
  . unfold cTask at ho;rw [K1] at ho;obtain ⟨x,hx,rfl⟩:=E3.1 ho;exact .inr (.inl ⟨x,⟨i,hx⟩,rfl⟩)
  . unfold cTask at ho;rw [K1] at ho;obtain ⟨x,hx,rfl⟩:=E3.1 ho;unfold toO at he;rw [K1] at he;obtain ⟨y,hy,rfl⟩:=E3.1 he;exact .inr (.inr rfl)
theorem VJ (b:TplOk t) (g:Tiny t):V6 (cTask t)=0∨V6 (cTask t)=8:=by
  have hk:=Ya g;have s:=UZ b g;have hj:=g.jobs;have r:(vrs t).length=(keys t).length:=(by rw [OG,P6]);have q:∀ {k:Nat} {o:KO},(W7 t)[k]?=some o->KNd o.pre/\KOk t o/\VlO t o/\o.effs.length<=64/\(0<=o.cost/\o.cost<=1):=λ {k o} d=>by
    refine XZ (P:=λ o=>KNd o.pre/\KOk t o/\VlO t o/\o.effs.length<=64/\(0<=o.cost/\o.cost<=1)) (λ h hi=>⟨Aa3 b h,Mv b hi,Aa5 b hi,?_,?_⟩) ⟨?_,Lp,ZJ b,?_,?_⟩ (λ i k hi hk=>⟨ZH b i k,Lq b hi,ZK b hi hk,?_,?_⟩) ⟨?_,KG,Aa6 b,?_,?_⟩ d
    . have G:=FB (b.hW h);have u:(Z5 t h).length<=2:=(by unfold Z5;split<;>simp);have A:=Nb (t:=t) (hR t h) (hW t h) t.vars.length;have B:=g.vars;unfold hapO factsK;simp only [I5,P6];omega
    . exact ⟨R9 _,by show (0:Int)<=1;decide⟩
    . unfold KNd W9;simp
    . unfold W9;simp
    . exact ⟨R9 _,by show (0:Int)<=1;decide⟩
    . have u:(waitE t i k).length<=1:=(by unfold waitE;split;simp;split<;>simp);unfold waitO;simp only [I5,L6,N8];omega
    . exact ⟨R9 _,by show (0:Int)<=1;decide⟩
    . unfold KNd Z1;simp
    . have A:=Kd (t:=t) t.vars.length;have B:=g.vars;unfold Z1;simp only [I5,P6,L6,N8,L3];omega
    . exact ⟨by show (0:Int)<=1;decide,by show (1:Int)<=1;decide⟩
  have hc:∀ f∈conds (cTask t),FactsOk (vrs t) f:=λ f hf=>by
    rcases ZL hf with rfl|⟨o,⟨k,d⟩,rfl⟩|rfl
    . exact Yb b
    . obtain ⟨C,n2,n3,_⟩:=q d;exact XY C n2.1 n3.1
    . exact AdF _
  have m:∀ {i:Nat} {o:Opr},(cTask t).ops[i]?=some o->∃ x,(W7 t)[i]?=some x/\o=toO t x:=λ {i o} d=>by
    unfold cTask at d;rw [K1] at d;obtain ⟨x,c,rfl⟩:=E3.1 d;exact ⟨x,c,rfl⟩
  have D:¬ AcT (cTask t):=by
    rintro (h|h|⟨i,o,d,h⟩|⟨f,hf,h⟩)
    . change 64 < (vrs t).length at h;omega
    . unfold cTask at h;simp only [P6] at h;omega
    . obtain ⟨x,c,rfl⟩:=m d;have:=(q c).2.2.2.1;unfold toO at h;simp only [P6] at h;omega
    . have:=FB (hc f hf);omega
  have E:Ab3 (cTask t)/\Ace (cTask t):=by
    refine ⟨λ i n hn=>?_,λ i o d=>?_⟩
    . change (vrs t)[i]?=some n at hn;rw [OG,K1] at hn;obtain ⟨k,hk,rfl⟩:=E3.1 hn;have hm:=G2 hk;have:=(JI b hm).2;refine ⟨by simp only at this;omega,?_⟩;rcases Ew.1 hm with ⟨g1,g2⟩|⟨g1|g1,g2⟩|⟨g1,_⟩|⟨g1,_⟩|g1
      . obtain ⟨a,v⟩:=k;simp only at g1 g2;subst g1;obtain ⟨x,c⟩:=AL g2;have:=b.doms x (G2 c);rw [dm0,c];show x<=64;omega
      . obtain ⟨a,v⟩:=k;simp only at g1 g2;subst g1;have:=g.dur v g2;rw [dm1];omega
      . obtain ⟨a,v⟩:=k;simp only at g1;subst g1;show (2:Int)<=64;omega
      . obtain ⟨a,v⟩:=k;simp only at g1;subst g1;show (2:Int)<=64;omega
      . obtain ⟨a,v⟩:=k;simp only at g1;subst g1;show (2:Int)<=64;omega
      . subst g1;show (t.jobs.length:Int) + 2<=64;omega
    . obtain ⟨x,c,rfl⟩:=m d;have:=(q c).2.2.2.2;exact ⟨this.1,by have:=this.2;show x.cost<=1048576;omega⟩
  have F:StateOk (cTask t).vars (cTask t).init/\AbY (cTask t)/\Acf (cTask t):=by
    refine ⟨⟨?_,λ i x y c g=>?_⟩,λ i f hf=>hc f (G2 hf),λ i o d j e he=>?_⟩
    . show (enc t _).length=(vrs t).length;rw [Zk,r]
    . change (enc t _)[i]?=some x at c;change (vrs t)[i]?=some y at g;unfold enc at c;rw [OG,K1] at g;rw [K1] at c;obtain ⟨k,hk,rfl⟩:=E3.1 g;rw [hk] at c;cases c;have hm:=G2 hk;have hz:=JI b hm;rcases Ew.1 hm with ⟨g1,g2⟩|⟨g1|g1,g2⟩|⟨g1,_⟩|⟨g1,_⟩|g1
      . obtain ⟨a,v⟩:=k;simp only at g1 g2;subst g1;obtain ⟨z,hz⟩:=AL g2;obtain ⟨w,hw⟩:=AL (l:=t.init) (k:=v) (by rw [b.init.1];exact g2);have:=b.init.2 v w z hw hz;rw [dm0,hz,AdV,hw];exact this
      . obtain ⟨a,v⟩:=k;simp only at g1;subst g1;exact hz
      . obtain ⟨a,v⟩:=k;simp only at g1;subst g1;exact hz
      . obtain ⟨a,v⟩:=k;simp only at g1;subst g1;exact hz
      . obtain ⟨a,v⟩:=k;simp only at g1;subst g1;exact hz
      . subst g1;exact hz
    . obtain ⟨x,c,rfl⟩:=m d;obtain ⟨_,n2,n3,_⟩:=q c;unfold toO at he;rw [K1] at he;obtain ⟨z,hz,rfl⟩:=E3.1 he;exact My (n2.2 z (G2 hz)) (n3.2 z (G2 hz))
  unfold V6;rw [if_neg (λ p=>D (JD.1 p)),if_neg (λ p=>Gh.1 p E),if_neg (λ p=>Gh.1 p F)];split
  . exact .inr rfl
  . exact .inl rfl
end
end
section
open Go Go.RowKit
section
theorem Yc {α:Type} (p:α->Bool) {l:List α} {k:Nat} {x:α} (h:l[k]?=some x):(l.take (k + 1)).any p=((l.take k).any p || p x):=by
  rw [K4,h,List.any_append];simp
theorem Yd {ρ:Type} (L:List Int):rngN (ρ:=ρ) (λ (k:Nat) (s:Bool)=>if s=true then (some (.next true)) else (bnd (L[k]?) λ a=>if 0<=a then (some (.next true)) else (some (.next false)))) L.length false=some (.done (L.any λ v=>decide (0<=v))):=by
  rw [LC (λ k=>(L.take k).any λ v=>decide (0<=v)) (by simp) (λ k hk=>by
    obtain ⟨x,hx⟩:=AL hk;rw [Yc _ hx,hx];cases (L.take k).any λ v=>decide (0<=v)
    . rw [if_neg (by simp),At];by_cases h:0<=x
      . rw [if_pos h,decide_eq_true h];rfl
      . rw [if_neg h,decide_eq_false h];rfl
    . rw [if_pos rfl];rfl),M9]
theorem Ye {ρ:Type} (L:List Int) (e:∀ x∈L,x<=1000):rngN (ρ:=ρ) (λ (k:Nat) (s:List Int)=>bnd (s[k]?) λ a=>if 0 < a then (bnd (s[k]?) λ b=>bnd (T4 (b - 1)) λ n=>bnd (s[k]?) λ c=>some (.next (s.set k n))) else (some (.next s))) L.length L=some (.done (L.map X4)):=by
  rw [LC (λ k=>(L.take k).map X4 ++ L.drop k) (by simp) (λ k hk=>by
    obtain ⟨x,hx⟩:=AL hk;have hl:((L.take k).map X4).length=k:=(by simp;omega);have hd:L.drop k=x :: L.drop (k + 1):=by
      obtain ⟨f,rfl⟩:=B7.1 hx;exact B9 f
    have d:((L.take k).map X4 ++ L.drop k)[k]?=some x:=by
      rw [B4 (by omega),hl,hd,Nat.sub_self];rfl
    have g:=e x (G2 hx);rw [d,At];have hr:(L.take (k + 1)).map X4 ++ L.drop (k + 1)=(L.take k).map X4 ++ X4 x :: L.drop (k + 1):=by
      rw [K4,hx];simp
    rw [hr,hd];by_cases h:0 < x
    . rw [if_pos h,show X4 x=x - 1 from if_pos h,At,BN (by unfold T3;omega),At,At];congr 2;rw [F1 _ _ (by omega),hl,Nat.sub_self];rfl
    . rw [if_neg h,show X4 x=x from if_neg h]),M9,List.drop_length,N7]
theorem ZM (x y:Nd6):GW x y=some (bof (x=y)):=by
  obtain ⟨a,b⟩:=x;obtain ⟨c,d⟩:=y;unfold GW Gi;rw [At];by_cases e:a=c
  . subst e;rw [CT rfl,DE,At];by_cases f:b=d
    . subst f;rw [CT rfl,CT rfl,DE,At]
    . rw [Cc f,Fe,At,Cc (by simpa using f)]
  . rw [Cc e,Fe,At,Cc (by intro h;injection h with h _;exact e h)]
theorem VL {ρ:Type} (v L:List Int) (seen:List Nd6):rng (ρ:=ρ) (λ (_:Nat) (a:Nd6) (s:Bool×(List Int))=>if s.1=true then (some (.next (true,s.2))) else (bnd (GW (⟨v,s.2⟩:Nd6) a) λ q=>if q=true then some (.next (true,s.2)) else some (.next (false,s.2)))) seen 0 (false,L)=some (.done (bof ((⟨v,L⟩:Nd6)∈seen),L)):=by
  rw [FR (λ k=>(bof ((⟨v,L⟩:Nd6)∈seen.take k),L)) (by rw [Cc (by simp)]) (λ k x c=>by
    dsimp only;by_cases h:(⟨v,L⟩:Nd6)∈seen.take k
    . rw [CT h,DE,CT (List.mem_of_mem_take (i:=k) (by rw [List.take_take,P1 (by omega)];exact h))]
    . rw [Cc h,Fe,ZM,At];by_cases b:(⟨v,L⟩:Nd6)=x
      . rw [CT b,DE,CT (by rw [K4,c,b];simp)]
      . rw [Cc b,Fe,Cc (by rw [K4,c];simp [h,b])]),M9]
end
section
variable {t : Tpl}
theorem Va (l:List Int) (k:Nat):((lfL t l k).any λ v=>decide (0<=v))=false↔∀ i,i < t.jobs.length->lft t l k i < 0:=by
  unfold lfL;rw [List.any_map,List.any_eq_false];simp only [P9,Function.comp];exact ⟨λ h i hi=>by have:=h i hi;simp at this;omega,λ h i hi=>by have:=h i hi;simp;omega⟩
def Adp (x:Nd6):List Int:=x.values ++ x.left.map (· + 1)
theorem TK:∀ (n:Nat) (L:List (List Int)),((List.replicate n (4:Int)).foldl AcC L).length=L.length * 4 ^ n
  | 0,L=>by simp
  | n + 1,L=>by
    rw [List.replicate_succ,N2,TK n];unfold AcC;rw [NK,Nat.pow_succ,Nat.mul_assoc,Nat.mul_comm (Int.toNat 4)];rfl
theorem WY (f:Tiny t) (hs:(V8 t.vars).length<=18) {seen:List Nd6} (hn:seen.Nodup) (d:∀ y∈seen,NdW t y.values y.left):seen.length<=288:=by
  have k:(seen.map Adp).Nodup:=by
    unfold List.Nodup;rw [L4];refine D0 (λ {a b} c hb e he=>e ?_) hn;have l:=d a c;have m:=d b hb;unfold Adp at he;obtain ⟨g,e2⟩:=List.append_inj he (by rw [l.st.1,m.st.1]);have j:=List.map_inj_right (λ x y (h:x + 1=y + 1)=>by omega) |>.1 e2;obtain ⟨p,q⟩:=a;obtain ⟨B,u⟩:=b;simp only at g j;rw [g,j]
  have n:=RJ (b:=V8 (t.vars ++ List.replicate t.jobs.length 4)) k λ x o=>by
    obtain ⟨y,hy2,rfl⟩:=R3.1 o;have w:=d y hy2;refine TS.2 ⟨by unfold Adp;simp [w.st.1,w.len],λ i a b c hb=>?_⟩;unfold Adp at c;by_cases hi:i < t.vars.length
    . rw [B8 (by rw [w.st.1];exact hi)] at c;rw [B8 hi] at hb;exact w.st.2 i a b c hb
    . rw [B4 (by rw [w.st.1];omega),w.st.1,K1] at c;rw [B4 (by omega)] at hb;obtain ⟨v,hv,rfl⟩:=E3.1 c;have hlt:i - t.vars.length < t.jobs.length:=(by have:=AO hv;rw [w.len] at this;exact this);have r:=List.eq_of_mem_replicate (G2 hb);have hr:=w.rng _ hlt;have hd:=f.dur _ hlt;unfold lAt at hr;rw [hv] at hr;simp only at hr;omega
  rw [P6] at n;have z:(V8 (t.vars ++ List.replicate t.jobs.length 4)).length=(V8 t.vars).length * 4 ^ t.jobs.length:=by
    unfold V8;rw [L0,TK]
  have s:4 ^ t.jobs.length<=4 ^ 2:=G3 (by decide) f.jobs;have A:(V8 t.vars).length * 4 ^ t.jobs.length<=18 * 4 ^ 2:=Nat.mul_le_mul hs s;omega
abbrev LyN (t:Tpl):=LyI (nxN t) (glN t) (2 ^ t.jobs.length) (bgN t)
abbrev InN (t:Tpl):=InI (nxN t) (glN t) (2 ^ t.jobs.length) (bgN t)
def LsR (t:Tpl) (a:Int):Prop:=(∃ j:Nat,a=j/\j<=1000/\WlN t (bgN t) j/\∀ n,WlN t (bgN t) n->j<=n)\/(a=1125899906842624/\∀ n,¬ WlN t (bgN t) n)
structure LsI (t:Tpl) (st:(List Nd6)×(List Nd6)×Int) (T:Nat):Prop where
  tick:st.2.2=(T:Int)
  ly:LyN t T st.1 st.2.1
  w:∀ y∈st.1,NdW t y.values y.left
theorem Yf (ht:TplOk t) (hy:Tiny t) (hs:(V8 t.vars).length≤18):∃ r,HB t=some r∧LsR t r:=by
  have hj:=hy.jobs;have hil:=ht.init.1;have hnv:=ht.nv;have few:∀ {T:Nat} {seen:List Nd6},seen.Nodup->(∀ y∈seen,NdW t y.values y.left)->seen.length<=288:=λ h1 h2=>WY hy hs h1 h2;unfold HB;rw [Bn (by simp;omega) (by simp;omega),At,FR (s₀:=([]:List Int)) (λ k=>List.replicate k (-1)) rfl (λ k x hx=>by
    have:=AO hx;rw [Bn (by simp;omega) (by simp;omega),At,List.replicate_succ']),At,Cg,At]
  simp only [N6];have hbg:(⟨t.init,List.replicate t.jobs.length (-1)⟩:Nd6)=bgN t:=rfl;rw [hbg];refine Qy (λ st=>∃ T,LsI t st T) (λ st=>∀ n,¬ WlN t (bgN t) n) (λ r=>LsR t r) (λ st=>2 * (1000 - st.1.length) + (if st.2.1.length=0 then 0 else 1)) ⟨0,rfl,LyI.init,λ y hy=>by rw [J3] at hy;subst hy;exact VG ht⟩ ?_ (λ st hst=>⟨_,rfl,.inr ⟨rfl,hst⟩⟩) (λ q hq=>⟨q,rfl,hq⟩);rintro ⟨seen0,layer,tick⟩ ⟨T,hI⟩;have htick:=hI.tick;have hly:=hI.ly;have hw0:=hI.w;dsimp only at htick hly hw0 ⊢;subst htick;have hf0:=few (T:=T) hly.nod hw0;by_cases h0:layer.length=0
  . rw [if_neg (by omega)];have:layer=[]:=D6.1 h0;subst this;exact .inr (.inl ⟨_,rfl,hly.stop⟩)
  . rw [if_pos (by omega)];have hne:layer≠[]:=λ e=>h0 (by rw [e];rfl);have hT:T < seen0.length:=hly.big.resolve_left hne;have hlw:∀ y∈layer,NdW t y.values y.left:=λ y hyl=>hw0 y ((hly.mem y).2 ⟨T,R7 _,hly.lay y hyl⟩);suffices hsuf:∃ c,(bnd (rng _ layer 0 (seen0,([]:List Nd6))) _:Option (Ctl ((List Nd6)×(List Nd6)×Int) Int))=some c/\AeY (λ st'=>(∃ T',LsI t st' T')/\2 * (1000 - st'.1.length) + (if st'.2.1.length=0 then 0 else 1) < 2 * (1000 - seen0.length) + (if layer.length=0 then 0 else 1)) (LsR t) c by
      obtain ⟨c,h1,h2⟩:=hsuf;rw [h1];cases c with
      | next st'=>exact .inl ⟨st',rfl,h2⟩
      | ret r=>exact .inr (.inr ⟨r,rfl,h2⟩)
      | brk _=>exact h2.elim
    refine Ga (λ a (st:(List Nd6)×(List Nd6))=>InN t T seen0 layer a 0 st.1 st.2/\∀ y∈st.1,NdW t y.values y.left) (λ q=>∃ r,q=.ret r/\LsR t r) ⟨hly.start,hw0⟩ ?_ ?_ ?_
    . rintro a x ⟨seen1,next1⟩ hx ⟨hin,hw1⟩;refine Kc ?_;have hxw:=hlw x (G2 hx);have hsh:Acp 1 (t.jobs.length:Int)=some ((2 ^ t.jobs.length:Nat):Int):=by
        unfold Acp;rw [if_pos (by omega),L2,P1 (by omega)];have:t.jobs.length=0\/t.jobs.length=1\/t.jobs.length=2:=(by omega);rcases this with h|h|h<;>rw [h]<;>decide
      have hp2:2 ^ t.jobs.length<=4:=by
        have:(2:Nat) ^ t.jobs.length<=2 ^ 2:=G3 (by decide) hj;omega
      rw [hsh,At,YQ,At];unfold rngN;refine Ga (λ kk (st:(List Nd6)×(List Nd6))=>InN t T seen0 layer a kk st.1 st.2/\∀ y∈st.1,NdW t y.values y.left) (λ q=>∃ r,q=.ret (.ret r)/\LsR t r) ⟨hin,hw1⟩ ?_ ?_ ?_
      . rintro kk k ⟨seen,next⟩ hk ⟨hin,hw⟩;have hkl:=AO hk;rw [L3] at hkl;rw [I1 hkl] at hk;cases hk;refine Kc ?_;dsimp only at hin hw ⊢;obtain ⟨sv,sl⟩:=x;obtain ⟨r,hr,hcase⟩:=ZD (k:=kk) ht hxw (by omega);rw [hr,At];rcases hcase with ⟨hS,rfl⟩|⟨hS,hr2⟩
        . dsimp only;have hin':NdW t (afH t sv (blk t sl kk)) ((lfL t sl kk).map X4):=Sk ht hxw;rw [if_neg (by simp)];have e1:=Yd (ρ:=Ctl ((List Nd6)×(List Nd6)) (Ctl ((List Nd6)×(List Nd6)) (Ctl ((List Nd6)×(List Nd6)×Int) Int))) (lfL t sl kk);unfold rngN at e1;rw [e1,At,Cg];have htst:(bnd (if (!((lfL t sl kk).any λ v=>decide (0<=v)))=true then (bnd (DO t.goal (afH t sv (blk t sl kk))) λ q298=>if q298=true then some true else some false) else (some false):Option Bool) λ y=>(some y:Option Bool))=some (bof (glN t ⟨sv,sl⟩ kk)):=by
            by_cases ha:((lfL t sl kk).any λ v=>decide (0<=v))=false
            . rw [ha,if_pos (show (!false)=true from rfl)];show bnd (bnd (some (holdsB t.goal (afH t sv (blk t sl kk)))) _) _=_;rw [At];by_cases hg:holdsB t.goal (afH t sv (blk t sl kk))=true
              . rw [if_pos hg,At,CT ⟨hS,(Va _ _).1 ha,hg⟩]
              . rw [if_neg hg,At,Cc λ hh=>hg hh.2.2]
            . have ha':((lfL t sl kk).any λ v=>decide (0<=v))=true:=(by simpa using ha);rw [ha',if_neg (show ¬ (!true)=true from by simp),At,Cc λ hh=>ha ((Va _ _).2 hh.2.1)]
          have htst2:∀ {β:Type} (K:Bool->Option β),bnd (if (!((lfL t sl kk).any λ v=>decide (0<=v)))=true then (bnd (DO t.goal (afH t sv (blk t sl kk))) λ q298=>if q298=true then some true else some false) else (some false):Option Bool) K=K (bof (glN t ⟨sv,sl⟩ kk)):=λ K=>by
            generalize (if (!((lfL t sl kk).any λ v=>decide (0<=v)))=true then (bnd (DO t.goal (afH t sv (blk t sl kk))) λ q298=>if q298=true then some true else some false) else (some false):Option Bool)=o at htst;cases o with
            | none=>cases htst
            | some b=>rw [At] at htst;injection htst with htst;rw [At,htst]
          rw [htst2];by_cases hgl:glN t ⟨sv,sl⟩ kk
          . rw [CT hgl,DE];have hres:=InI.goal hly hx hkl hgl;exact ⟨_,rfl,_,rfl,.inl ⟨T,rfl,by omega,hres⟩⟩
          . rw [Cc hgl,Fe];have e2:=Ye (ρ:=Ctl ((List Nd6)×(List Nd6)) (Ctl ((List Nd6)×(List Nd6)) (Ctl ((List Nd6)×(List Nd6)×Int) Int))) (lfL t sl kk) (λ v hv=>by
              unfold lfL at hv;obtain ⟨i,hi,rfl⟩:=R3.1 hv;have hi:=P9.1 hi;have h1:lft t sl kk i<=(jb t i).dur:=(MY ht (k:=kk) hi hxw rfl).2.2.1;have h2:=ht.dur i;omega)
            unfold rngN at e2;rw [e2,At,Cg,VL,At,Cg];dsimp only;have hwk:WkN (nxN t) (2 ^ t.jobs.length) (bgN t) (T + 1) ⟨afH t sv (blk t sl kk),(lfL t sl kk).map X4⟩:=.succ (hly.lay _ (G2 hx)) hkl ⟨hS,rfl⟩;by_cases hmem:(⟨afH t sv (blk t sl kk),(lfL t sl kk).map X4⟩:Nd6)∈seen
            . rw [CT hmem,if_neg (show ¬ (!true)=true from by simp)];exact ⟨_,rfl,hin.skip hx (λ y hyn=>by rw [hyn.2];exact hmem) hgl,hw⟩
            . rw [Cc hmem,if_pos (show (!false)=true from rfl)];have hf:=few (T:=T) hin.nod hw;have hlen:=hin.len;have hadd:=(hin.add hmem hwk).skip hx (λ y hyn=>by rw [hyn.2];simp) hgl;rw [Bn (by simp;omega) (by simp;omega),At,Bn (by simp;omega) (by simp;omega),At];refine ⟨_,rfl,hadd,λ y hy2=>?_⟩;rcases N1.1 hy2 with hy2|hy2
              . exact hw y hy2
              . rw [J3] at hy2;subst hy2;exact hin'
        . rw [hr2,if_pos (show (!false)=true from rfl)];exact ⟨_,rfl,hin.skip hx (λ y hyn=>absurd hyn.1 hS) (λ hg=>hS hg.1),hw⟩
      . rintro ⟨seen,next⟩ ⟨hin,hw⟩;rw [L3] at hin;rw [Cg];exact ⟨_,rfl,hin.row,hw⟩
      . rintro q ⟨r,rfl,hr⟩;exact ⟨_,rfl,r,rfl,hr⟩
    . rintro ⟨seen,next⟩ ⟨hin,hw⟩;rw [Cg,BN (by unfold T3;omega),At];have hf:=few (T:=T) hin.nod hw;have hlen:=hin.len;refine ⟨_,rfl,⟨T + 1,by simp,hin.fin hly hne,hw⟩,?_⟩;dsimp only at hf hlen ⊢;rw [if_neg h0];split<;>omega
    . rintro q ⟨r,rfl,hr⟩;exact ⟨_,rfl,hr⟩
end
end
section
open Go Go.RowKit
abbrev BQ:=BxR 81 79 Itm
abbrev AI:=An 79 Itm
def toQ (x:Itm):QEn:=⟨x.cost,0,x.id,x.order⟩
def qs (l:List Itm):List QEn:=l.map toQ
theorem IF (l:List Itm):(qs l).length=l.length:=by simp [qs]
theorem Ke {l:List Itm} {i:Nat} {x:Itm} (h:l[i]?=some x):(qs l)[i]?=some (toQ x):=by unfold qs;rw [K1,h];rfl
theorem Oh (l:List Itm) (i:Nat) (x:Itm):qs (l.set i x)=(qs l).set i (toQ x):=by unfold qs;rw [List.map_set]
theorem ZN (l:List Itm) (n:Nat):qs (l.take n)=(qs l).take n:=by unfold qs;rw [List.map_take]
theorem PL {l:List Itm} {i j:Nat} {a b:Itm} (f:l[i]?=some a) (hb:l[j]?=some b):CG l (i:Int) (j:Int)=some (decide (bfr (toQ a) (toQ b))):=by
  unfold CG;rw [CY,f,At,CY,hb,At,At,At,At,At];unfold bfr toQ;by_cases d:a.cost < b.cost
  . rw [if_pos d,At];simp [d]
  . rw [if_neg d];by_cases c:a.cost=b.cost
    . rw [if_pos c];by_cases e:a.order < b.order
      . rw [if_pos e,At];simp [c,e]
      . rw [if_neg e,At];simp [c,e]
    . rw [if_neg c,At];simp [d,c]
theorem PM {l:List Itm} {i j:Nat} {a b:Itm} (e:l[i]?=some a) (hb:l[j]?=some b):Cn l (i:Int) (j:Int)=some ((l.set i b).set j a):=by
  have f:=AO e;have d:=AO hb;obtain ⟨c,hc⟩:=AL (l:=l.set i b) (k:=j) (by simp;exact d);unfold Cn;rw [CY,hb,At,CY,e,At,At,L2,CY,hc,At,L2]
theorem Aa7 {q:BQ} {i:Nat} (hi:i < q.l.length) (hl:q.l.length≤1000000) (h:UpI (qs q.l) i):∃ p,Ft q (i:Int)=some p∧W4 (qs p.l)∧(qs p.l).Perm (qs q.l):=by
  unfold Ft;refine Qy (λ s=>∃ i:Nat,s.1=(i:Int)/\i < s.2.l.length/\UpI (qs s.2.l) i/\(qs s.2.l).Perm (qs q.l)) (λ s=>W4 (qs s.2.l)/\(qs s.2.l).Perm (qs q.l)) (λ _=>False) (λ s=>s.1.toNat) ⟨i,rfl,hi,h,List.Perm.refl _⟩ ?_ (λ s hs=>⟨_,rfl,hs⟩) (λ s hs=>hs.elim);rintro ⟨c,s⟩ ⟨i,hc,hi,hu,hp⟩;dsimp only at hc hi hu hp ⊢;subst hc;have e:=hp.length_eq;rw [IF,IF] at e;rw [BN (by unfold T3;omega),At];by_cases o:0 < (i:Int)
  . have f:Acz ((i:Int) - 1) 2=some (((i - 1) / 2:Nat):Int):=by
      unfold Acz;rw [if_pos (by omega),if_pos (by omega)];congr 1;omega
    obtain ⟨a,ha⟩:=AL (l:=s.l) (k:=i) hi;obtain ⟨b,hb⟩:=AL (l:=s.l) (k:=(i - 1) / 2) (by omega);rw [f,At,if_neg (by omega),PL ha hb,At];by_cases d:bfr (toQ a) (toQ b)
    . rw [decide_eq_true d,DE,At,Fe,PM hb ha,At];have j:qs ((s.l.set ((i - 1) / 2) a).set i b)=((qs s.l).set i (toQ b)).set ((i - 1) / 2) (toQ a):=by
        rw [Oh,Oh,List.set_comm _ _ (by omega)]
      refine .inl ⟨_,rfl,⟨(i - 1) / 2,rfl,by simp;omega,?_,?_⟩,?_⟩
      . dsimp only;rw [j];exact hu.step (by omega) (Ke ha) (Ke hb) d
      . dsimp only;rw [j];exact (TE (Ke ha) (Ke hb)).trans hp
      . dsimp only;omega
    . rw [decide_eq_false d,Fe,At,DE];refine .inr (.inl ⟨_,rfl,hu.heap (.inr λ x y m n=>?_),hp⟩);rw [Ke ha] at m;rw [Ke hb] at n;obtain rfl:=N4 m;obtain rfl:=N4 n;exact d
  . have g:i=0:=(by omega);subst g;have f:Acz (((0:Nat):Int) - 1) 2=some 0:=rfl;rw [f,At,if_pos (show (0:Int)=((0:Nat):Int) from rfl),At,DE];exact .inr (.inl ⟨_,rfl,hu.heap (.inl rfl),hp⟩)
theorem TL {q:BQ} (h:W4 (qs q.l)) (hl:q.l.length<=900000) (x:Itm):∃ n,DZ q ⟨x⟩=some n/\W4 (qs n.l)/\(qs n.l).Perm (toQ x :: qs q.l):=by
  unfold DZ Gd Cy;rw [Bn (by simp;omega) (by simp;omega),At,At,At,BN (by unfold T3;simp;omega),At];have b:(((q.l ++ [x]).length:Int) - 1)=((q.l.length:Nat):Int):=(by simp);rw [b];have c:qs (q.l ++ [x])=qs q.l ++ [toQ x]:=(by simp [qs]);obtain ⟨n,r1,r2,r3⟩:=Aa7 (q:=⟨q.l ++ [x]⟩) (i:=q.l.length) (by simp) (by simp;omega) ⟨λ j y z hj f a d=>by
    dsimp only at a d;rw [c] at a d;have e:j < (qs q.l).length:=(by have:=AO a;simp at this;rw [IF] at this ⊢;omega);rw [B8 e] at a;rw [B8 (by omega)] at d;exact h j y z hj a d,λ j y z g k m a d=>by
    dsimp only at a;have:=AO a;rw [IF] at this;simp at this;omega⟩
  rw [r1,At];refine ⟨_,rfl,r2,r3.trans ?_⟩;dsimp only;rw [c];exact List.perm_append_comm (l₁:=qs q.l) (l₂:=[_])
theorem Yg {q:BQ} {n:Nat} (hn:n≤q.l.length) (hl:q.l.length≤1000000) (h:DownI (qs (q.l.take n)) 0):∃ E,EK q 0 (n:Int)=some E∧W4 (qs (E.2.l.take n))∧(qs (E.2.l.take n)).Perm (qs (q.l.take n))∧E.2.l.drop n=q.l.drop n∧E.2.l.length=q.l.length:=by
  unfold EK;refine Qy (λ s=>∃ i:Nat,s.1=(i:Int)/\DownI (qs (s.2.l.take n)) i/\i<=n/\(qs (s.2.l.take n)).Perm (qs (q.l.take n))/\s.2.l.drop n=q.l.drop n/\s.2.l.length=q.l.length) (λ s=>W4 (qs (s.2.l.take n))/\(qs (s.2.l.take n)).Perm (qs (q.l.take n))/\s.2.l.drop n=q.l.drop n/\s.2.l.length=q.l.length) (λ _=>False) (λ s=>n - s.1.toNat) ⟨0,rfl,h,by omega,List.Perm.refl _,rfl,rfl⟩ ?_ ?_ (λ s hs=>hs.elim)
  . rintro ⟨c,s⟩ ⟨i,hc,hd,hi,hp,hdr,hsl⟩;dsimp only at hc hd hi hp hdr hsl ⊢;subst hc;rw [BN (by unfold T3;omega),At,BN (by unfold T3;omega),At];by_cases A:(n:Int)<=2 * (i:Int) + 1
    . rw [if_pos A,At,DE];refine .inr (.inl ⟨_,rfl,hd.heap λ j x y hj m d _=>?_,hp,hdr,hsl⟩);have:=AO d;rw [IF,M3] at this;omega
    rw [if_neg A,if_neg (by omega),At,Fe];obtain ⟨a,ha⟩:=AL (l:=s.l) (k:=i) (by omega);obtain ⟨b,hb⟩:=AL (l:=s.l) (k:=2 * i + 1) (by omega);have t:∀ {k:Nat} {x:Itm},k < n->s.l[k]?=some x->(qs (s.l.take n))[k]?=some (toQ x):=λ {k x} hk d=>Ke (by rw [List.getElem?_take_of_lt hk];exact d);have o:2 * (i:Int) + 1=((2 * i + 1:Nat):Int):=(by omega);have w:2 * (i:Int) + 1 + 1=((2 * i + 2:Nat):Int):=(by omega);have p:∀ (c:Nat) (F:Itm),(c=2 * i + 1\/c=2 * i + 2)->c < n->s.l[c]?=some F->(∀ (j:Nat) x,0 < j->(j - 1) / 2=i->(qs (s.l.take n))[j]?=some x->nb x (toQ F))->(∃ g,(bnd (CG s.l (c:Int) (i:Int)) λ r=>if r=true then bnd (Cn s.l (i:Int) (c:Int)) λ f=>some (Ctl.next (ρ:=Bool×BQ) ((c:Int),(⟨f⟩:BQ))) else some (.brk ((i:Int),s)))=some (.next g)/\(∃ i:Nat,g.1=(i:Int)/\DownI (qs (g.2.l.take n)) i/\i<=n/\(qs (g.2.l.take n)).Perm (qs (q.l.take n))/\g.2.l.drop n=q.l.drop n/\g.2.l.length=q.l.length)/\n - g.1.toNat < n - ((i:Int)).toNat)\/(∃ g,(bnd (CG s.l (c:Int) (i:Int)) λ r=>if r=true then bnd (Cn s.l (i:Int) (c:Int)) λ f=>some (Ctl.next (ρ:=Bool×BQ) ((c:Int),(⟨f⟩:BQ))) else some (.brk ((i:Int),s)))=some (.brk g)/\W4 (qs (g.2.l.take n))/\(qs (g.2.l.take n)).Perm (qs (q.l.take n))/\g.2.l.drop n=q.l.drop n/\g.2.l.length=q.l.length)\/∃ E,(bnd (CG s.l (c:Int) (i:Int)) λ r=>if r=true then bnd (Cn s.l (i:Int) (c:Int)) λ f=>some (Ctl.next (ρ:=Bool×BQ) ((c:Int),(⟨f⟩:BQ))) else some (.brk ((i:Int),s)))=some (.ret E)/\False:=by
      intro c F hc z e hs;rw [PL e ha,At];have B:qs (((s.l.set i F).set c a).take n)=((qs (s.l.take n)).set i (toQ F)).set c (toQ a):=by
        rw [List.take_set,List.take_set,Oh,Oh]
      by_cases u:bfr (toQ F) (toQ a)
      . rw [decide_eq_true u,DE,PM ha e,At];refine .inl ⟨_,rfl,⟨c,rfl,?_,by omega,?_,?_,by simp;exact hsl⟩,?_⟩
        . dsimp only;rw [B];exact hd.step hc (t (by omega) ha) (t z e) u hs
        . dsimp only;rw [B];exact (TE (t (by omega) ha) (t z e)).trans hp
        . dsimp only;rw [<- hdr];apply K0;intro k;rw [J1,J1,H1 (by omega),H1 (by omega)]
        . dsimp only;omega
      . rw [decide_eq_false u,Fe];refine .inr (.inl ⟨_,rfl,hd.heap λ j x y hj m d C=>?_,hp,hdr,hsl⟩);rw [t (by omega) ha] at C;obtain rfl:=N4 C;exact MZ (hs j x hj m d) u
    rw [BN (by unfold T3;omega),At];by_cases D:2 * (i:Int) + 1 + 1 < (n:Int)
    . obtain ⟨F,e⟩:=AL (l:=s.l) (k:=2 * i + 2) (by omega);rw [if_pos D,w,o,PL e hb,At];by_cases v:bfr (toQ F) (toQ b)
      . rw [decide_eq_true v,DE,At,DE,At];refine p (2 * i + 2) F (.inr rfl) (by omega) e λ j x hj m d=>?_;have:j=2 * i + 1\/j=2 * i + 2:=(by omega);rcases this with rfl|rfl
        . rw [t (by omega) hb] at d;obtain rfl:=N4 d;exact Sl v
        . rw [t (by omega) e] at d;obtain rfl:=N4 d;exact QD _
      . rw [decide_eq_false v,Fe,At,Fe,At];refine p (2 * i + 1) b (.inl rfl) (by omega) hb λ j x hj m d=>?_;have:j=2 * i + 1\/j=2 * i + 2:=(by omega);rcases this with rfl|rfl
        . rw [t (by omega) hb] at d;obtain rfl:=N4 d;exact QD _
        . rw [t (by omega) e] at d;obtain rfl:=N4 d;exact v
    . rw [if_neg D,At,Fe,At,o];refine p (2 * i + 1) b (.inl rfl) (by omega) hb λ j x hj m d=>?_;have:j=2 * i + 1:=(by have:=AO d;rw [IF,M3] at this;omega);subst this;rw [t (by omega) hb] at d;obtain rfl:=N4 d;exact QD _
  . intro s hs;by_cases hz:0 < s.1
    . rw [Cg,if_pos hz,At];exact ⟨_,rfl,hs⟩
    . rw [Cg,if_neg hz,At];exact ⟨_,rfl,hs⟩
theorem ZO {q:BQ} (h:W4 (qs q.l)) (p:0 < q.l.length) (hl:q.l.length≤900000):∃ F,Es q=some F∧∃ (e:Itm) (r:BQ),F=((⟨e⟩:AI),r)∧W4 (qs r.l)∧(qs q.l).Perm (toQ e :: qs r.l)∧∀ x∈qs q.l,nb x (toQ e):=by
  obtain ⟨e,he⟩:=AL (l:=q.l) (k:=0) p;obtain ⟨z,hz⟩:=AL (l:=q.l) (k:=q.l.length - 1) (by omega);have t:((q.l.length:Int) - 1)=((q.l.length - 1:Nat):Int):=(by omega);have C:Cn q.l 0 ((q.l.length - 1:Nat):Int)=some ((q.l.set 0 z).set (q.l.length - 1) e):=PM (i:=0) he hz;unfold Es Cy;rw [At,BN (by unfold T3;omega),At,t,C,At];have u:((q.l.set 0 z).set (q.l.length - 1) e).take (q.l.length - 1)=(q.l.set 0 z).take (q.l.length - 1):=by
    rw [List.take_set];exact List.set_eq_of_length_le (by simp)
  have b:(qs q.l).Perm (toQ e :: qs ((q.l.set 0 z).take (q.l.length - 1))):=by
    have:q.l.Perm (e :: (q.l.set 0 z).take (q.l.length - 1)):=by
      cases v:q.l with
      | nil=>rw [v] at p;simp at p
      | cons a s =>
        rw [v] at he hz;simp at he;subst he;cases d:s.reverse with
        | nil =>
          have:s=[]:=(by simpa using d);subst this;simp
        | cons w F =>
          have f:s=F.reverse ++ [w]:=(by have:=congrArg List.reverse d;simpa using this);subst f;simp at hz;subst hz;simp
    exact this.map toQ
  obtain ⟨F,r1,r2,r3,r4,r5⟩:=Yg (q:=⟨(q.l.set 0 z).set (q.l.length - 1) e⟩) (n:=q.l.length - 1) (by simp) (by simp;omega) (by
    dsimp only;rw [u];refine ⟨λ j x y hj D A B=>?_,λ j x y E=>by omega⟩;rw [ZN,Oh] at A B;have g:=RC A;have m:=RC B;rw [H1 (by omega)] at g m;exact h j x y hj g m)
  dsimp only at r3 r4 r5;rw [u] at r3;simp only [N9] at r5;rw [r1,At];unfold Gx;have c:F.2.l[q.l.length - 1]?=some e:=by
    have:(F.2.l.drop (q.l.length - 1))[0]?=some e:=by
      rw [r4,J1,Q9,E6 (by simp;omega)]
    rwa [J1,Q9] at this
  have o:Adb F.2.l 0 ((q.l.length - 1:Nat):Int)=some (F.2.l.take (q.l.length - 1)):=by
    unfold Adb;rw [if_pos (by simp;omega)];simp
  rw [r5,t,BN (by unfold T3;omega),At,CY,c,At,o,At,At];exact ⟨_,rfl,e,⟨F.2.l.take (q.l.length - 1)⟩,rfl,r2,b.trans (List.Perm.cons _ r3.symm),WQ h (Ke he)⟩
end
section
open Go Go.RowKit
def Aes (t:Tsk) (s:List Int) (k:Nat):Bool:=match t.ops[k]? with|some o=>holdsB o.pre s|none=>false
def Afd (t:Tsk) (s:List Int) (m:Nat):List Nat:=(List.range m).filter (Aes t s)
def Aeo (t:Tsk) (s:List Int) (k:Nat):List Int:=match t.ops[k]? with|some o=>succ o s|none=>s
theorem Aa8 (t:Tsk) (s:List Int):X2 t s=(Afd t s t.ops.length).map λ k:Nat=>(k:Int):=rfl
theorem ZP (t:Tsk) (s:List Int) (k:Nat):Acc t s (k:Int)=⟨(k:Int),Aeo t s k⟩:=rfl
theorem Vc {t:Tsk} {s:List Int} {k:Nat} {o:Opr} (a:t.ops[k]?=some o):Aes t s k=holdsB o.pre s/\Aeo t s k=succ o s:=by unfold Aes Aeo;rw [a];exact ⟨rfl,rfl⟩
end
section
open Go Go.RowKit
theorem Yh {t:Tsk} (a:TaskOk t):∃ b,FM t=some (some ⟨t,b,some ⟨t⟩⟩,⟨0⟩)/\RegI t.vars b [t.init]/\V4 b=[⟨-1,-1,0⟩]:=by
  obtain ⟨c,n1,b,rfl,n2,n3⟩:=WS a.1 a.2.2.1;rcases RE a.1 n2 a.2.2.2.1 (by simp) with ⟨i,hi,_⟩|⟨_,r',hadd,hr',hlk⟩
  . simp at hi
  refine ⟨r',?_,hr',by rw [hlk,n3];rfl⟩;unfold FM;rw [AaL a,At,if_neg (by simp),n1,At,if_neg (by simp),At,hadd,At,if_neg (by simp)]
theorem WZ {a:List Int} {b:Reg} {L:List (List Int)} (h:RegI a b L):(V4 b).length=L.length:=by unfold V4;rw [P6,h.len]
theorem Aa9 {t:Tsk} (h:TaskOk t) {s p g:List Int} {C:Int} (hr:PlanR t s p g C):∀ (j:Nat) (c:Int),0<=c->c + p.length * 1048576<=1000000000000000 ->
    rng (ρ:=Rsl×Err) (λ (_:Nat) (e:Int) (f:Int)=>bnd (atI t.ops e) λ a=>bnd (T4 (f + a.cost)) λ b=>some (.next b)) p j c=some (.done (c + C)):=by
  induction hr with
  | nil=>intro j c _ _;simp [rng]
  | @cons s i g k o C l q hr m =>
    intro j c hc hb;simp only [L6] at hb;have d:=h.2.2.2.2.2 k o l;have r:=d.1;have u:=d.2.1;have n:(bnd (atI t.ops (k:Int)) λ a=>bnd (T4 (c + a.cost)) λ b=>some (Ctl.next (ρ:=Rsl×Err) b))=some (.next (c + o.cost)):=by
      rw [CY,l,At,BN (by unfold T3;omega),At]
    simp only [rng,n];rw [m (j + 1) (c + o.cost) (by omega) (by omega),Q5]
theorem Xa {t:Tsk} {s:List Int} (h:TaskOk t) (hs:StateOk t.vars s):s.length<=1000000:=by have:=hs.1;have:=h.1;omega
end
section
open Go Go.RowKit
structure SQ (t:Tsk) (L:List (List Int)) (x:Spc):Prop where
  tt:x.t=t
  gen:x.gen=some ⟨t⟩
  reg:RegI t.vars x.reg L
end
section
open Go Go.RowKit
abbrev US:=(List Int)×(List Bool)×Int×Int×Spc×BQ
abbrev UT:=(List Int)×(List Bool)×Int×Spc×BQ
noncomputable def uIn (t:Tsk) (n2 d e:Int) (s:UT) (a:Suc):Option (Ctl UT (Ctl US (Rsl×Err))):=bnd (BS s.2.2.2.1.reg a.state) λ q=>if q.2.2.1.n≠0 then (bnd (DK 3 n2) λ z=>some (.ret (.ret (z.1,(⟨z.2.n⟩:Err))))) else (bnd (atI t.ops a.op) λ o=>bnd (T4 (d + o.cost)) λ n=>bnd (if q.2.1=true then (bnd (T5 8 s.1 [n]) λ u=>bnd (T5 1 s.2.1 [false]) λ v=>some (.done (u,v))) else (bnd (bnd (atI s.2.1 q.1) λ b=>if b=true then (some true) else (bnd (atI s.1 q.1) λ c=>if c<=n then (some true) else (some false)):Option Bool) λ y=>if y=true then (some (.ret (.next (s.1,s.2.1,s.2.2.1,(⟨s.2.2.2.1.t,q.2.2.2,s.2.2.2.1.gen⟩:Spc),s.2.2.2.2)))) else (some (.done (s.1,s.2.1)))):Option (Fin ((List Int)×(List Bool)) (Ctl UT (Ctl US (Rsl×Err))))) λ y=>fin y λ (z:(List Int)×(List Bool))=>bnd (atI z.1 q.1) λ _=>bnd (Di q.2.2.2 q.1 e a.op n) λ k=>if k.1.n≠0 then (some (.ret (.ret ((⟨0,([]:List Int),0,0⟩:Rsl),(⟨k.1.n⟩:Err))))) else (bnd (DZ s.2.2.2.2 (⟨(⟨n,s.2.2.1,q.1⟩:Itm)⟩:AI)) λ h=>bnd (T4 (s.2.2.1 + 1)) λ m=>some (.next ((z.1.set (q.1:Int).toNat n),z.2,m,(⟨s.2.2.2.1.t,k.2,s.2.2.2.1.gen⟩:Spc),h))))
noncomputable def Ab9 (t:Tsk) (lim:Int):US->Option (Ctl US (Rsl×Err)):=λ s=>bnd (Cy s.2.2.2.2.2.l) λ q=>if 0 < q then (bnd (Es s.2.2.2.2.2) λ e=>bnd (atI s.2.1 e.1.x.id) λ b=>if b=true then (some (.next (s.1,s.2.1,s.2.2.1,s.2.2.2.1,s.2.2.2.2.1,e.2))) else (bnd (Dw s.2.2.2.2.1.reg e.1.x.id) λ w=>if w.2.n≠0 then (some (.ret ((⟨0,([]:List Int),0,0⟩:Rsl),(⟨w.2.n⟩:Err)))) else (bnd (Ef t.goal w.1) λ g=>if g=true then bnd (DP s.2.2.2.2.1 e.1.x.id s.2.2.2.1) λ z=>some (.ret (z.1,(⟨z.2.n⟩:Err))) else if lim<=s.2.2.2.1 then (bnd (DK 3 s.2.2.2.1) λ z=>some (.ret (z.1,(⟨z.2.n⟩:Err)))) else (bnd (atI s.2.1 e.1.x.id) λ _=>bnd (T4 (s.2.2.2.1 + 1)) λ n2=>bnd (Cp s.2.2.2.2.1.gen w.1) λ l=>bnd (rng (ρ:=Ctl US (Rsl×Err)) (λ (_:Nat) (a:Suc) (y:UT)=>uIn t n2 e.1.x.cost e.1.x.id y a) l 0 (s.1,(s.2.1.set (e.1.x.id:Int).toNat true),s.2.2.1,s.2.2.2.2.1,e.2)) λ c=>fin c λ (z:UT)=>some (.next (z.1,z.2.1,z.2.2.1,n2,z.2.2.2.1,z.2.2.2.2)))))) else (some (.brk s))
noncomputable def Ae2:Fin US (Rsl×Err)->Option (Rsl×Err):=λ a=>fin a λ (s:US)=>bnd (DK 2 s.2.2.2.1) λ q=>some (q.1,(⟨q.2.n⟩:Err))
theorem ZQ (t:Tsk) (lim:Int):FY t lim=bnd (FM t) λ q=>if q.2.n≠0 then (some ((⟨0,([]:List Int),0,0⟩:Rsl),(⟨q.2.n⟩:Err))) else (bnd q.1 λ o=>bnd (lop (Ab9 t lim) (([0]:List Int),[false],1,0,o,(⟨[(⟨0,0,0⟩:Itm)]⟩:BQ))) Ae2):=rfl
theorem Yi {t:Tsk} {s:List Int} {k:Nat} {o:Opr} (a:t.ops[k]?=some o) (b:holdsB o.pre s=true):(k:Int)∈X2 t s:=by
  rw [Aa8,R3];exact ⟨k,P2.2 ⟨P9.2 (AO a),by rw [(Vc a).1];exact b⟩,rfl⟩
theorem Oi {t:Tsk} {s:List Int} {C:Int} (b:Walk t s C):WalkS t (X2 t) s C:=by
  induction b with
  | goal h=>exact .goal h
  | step a c _ d=>exact .step a (Yi a c) d
def KP (L:List (List Int)) (g:List Int) (b:List Bool) (c:List (List Int)) (d:List Int) (a:List Bool):Prop:=∀ j:Nat,a[j]?=some true->b[j]?=some true/\d[j]?=g[j]?/\c[j]?=L[j]?
def HM (g:List Int) (a:List Bool) (c:Int):Prop:=∀ (j:Nat) c',a[j]?=some true->g[j]?=some c'->c'<=c
def CO (t:Tsk) (g:List Int) (a:List Bool):Prop:=∀ (j:Nat) c',a[j]?=some true->g[j]?=some c'->∀ C,Walk t t.init C->c'<=C
theorem KP.rfl {L:List (List Int)} {g:List Int} {a:List Bool}:KP L g a L g a:=λ _ h=>⟨h,Eq.refl _,Eq.refl _⟩
theorem KP.upd {L c:List (List Int)} {g d:List Int} {f b:List Bool} {i:Nat} {s:List Int} {x:Int} (k:UpL i s L c) (l:UpL i x g d) (h:UpL i false f b):KP L g f c d b:=λ j hj=>by
  have a:j≠i:=λ e=>(by subst e;rw [h.1] at hj;cases hj);exact ⟨by rw [<- h.2 j a];exact hj,l.2 j a,k.2 j a⟩
theorem HM.kp {L e:List (List Int)} {g b:List Int} {d a:List Bool} {c:Int} (h:HM g d c) (k:KP L g d e b a):HM b a c:=λ j f hj hc=>by
  obtain ⟨i,k2,_⟩:=k j hj;exact h j f i (by rw [<- k2];exact hc)
theorem CO.kp {t:Tsk} {L d:List (List Int)} {g b:List Int} {c a:List Bool} (h:CO t g c) (k:KP L g c d b a):CO t b a:=λ j e hj hc=>by
  obtain ⟨f,k2,_⟩:=k j hj;exact h j e f (by rw [<- k2];exact hc)
structure UJ (t:Tsk) (D:Nat->Int->Prop) (ord:Nat->Nat) (E N:Nat) (i:Nat) (s:List Int) (c:Int) (L:List (List Int)) (y:UT):Prop where
  sq:SQ t L y.2.2.2.1
  inv:SrI t (X2 t) D L (V4 y.2.2.2.1.reg) y.1 y.2.1 (qs y.2.2.2.2.l) ord E
  heap:W4 (qs y.2.2.2.2.l)
  ord0:0<=y.2.2.1
  ord1:y.2.2.1<=(N:Int) + 1
  qlen:y.2.2.2.2.l.length<=N
  hi:L[i]?=some s
  hf:y.2.1[i]?=some true
  hc:y.1[i]?=some c
  hm:HM y.1 y.2.1 c
  co:CO t y.1 y.2.1
end
section
open Go Go.RowKit
structure Lmt (t:Tsk):Prop where
  ok:TaskOk t
  ops:t.ops.length<=20
theorem VM {a:List Int} (hl:a.length<=64) {j:Reg} {L:List (List Int)} (h:RegI a j L) {s:List Int} (hs:StateOk a s) (f:L.length<=65536) :
    ((∃ i:Nat,L[i]?=some s/\BS j s=some ((i:Int),false,⟨0⟩,j))\/(L.length < 65536/\(∀ i:Nat,L[i]?≠some s)/\∃ b,BS j s=some ((L.length:Int),true,⟨0⟩,b)/\RegI a b (L ++ [s])/\V4 b=V4 j ++ [⟨-1,-1,0⟩])) \/
      ∃ n:Int,n≠0/\BS j s=some (0,false,⟨n⟩,j):=by
  by_cases hf:L.length < 65536
  . rcases RE hl h hs hf with c|⟨c,h2⟩
    . exact .inl (.inl c)
    . exact .inl (.inr ⟨hf,c,h2⟩)
  . obtain ⟨g,hh,p1,p2,hf⟩:=QE hl h hs;unfold BS;have d:=h.len;rcases hf with ⟨i,hi,hf⟩|⟨e,hf⟩
    . refine .inl (.inl ⟨i,hi,?_⟩);rw [hf,At,if_neg (by simp),if_pos (by dsimp only;omega)]
    . refine .inr ⟨10,by decide,?_⟩;rw [hf,At,if_neg (by simp),if_neg (by dsimp only;omega),if_pos (by omega)]
theorem Aba {α σ ρ:Type} {f:Nat->α->σ->Option (Ctl σ ρ)} {xs:List α} {s₀:σ} {R:ρ->Prop} (I:Nat->σ->Prop) (c:I 0 s₀)
    (h:∀ i x s,xs[i]?=some x->I i s->(∃ b,f i x s=some (.next b)/\I (i + 1) b)\/∃ q,f i x s=some (.ret q)/\R q):(∃ s,rng f xs 0 s₀=some (.done s)/\I xs.length s)\/∃ q,rng f xs 0 s₀=some (.ret q)/\R q:=by
  obtain ⟨g,h1,a⟩:=Ga (k:=λ x=>some x) (P:=λ g=>(∃ s,g=.done s/\I xs.length s)\/∃ q,g=.ret q/\R q) I R c h (λ s hs=>⟨_,rfl,.inl ⟨s,rfl,hs⟩⟩) (λ q d=>⟨_,rfl,.inr ⟨q,rfl,d⟩⟩);have e:∀ x:Option (Fin σ ρ),bnd x (λ y=>some y)=x:=λ x=>(by cases x<;>rfl);rw [e] at h1;rcases a with ⟨s,rfl,a⟩|⟨q,rfl,a⟩
  . exact .inl ⟨s,h1,a⟩
  . exact .inr ⟨q,h1,a⟩
theorem AbL {t:Tsk} (hs:Lmt t) {D:Nat→Int→Prop} {ord:Nat→Nat} {L:List (List Int)} {E:Nat} {g:List Int} {fn:List Bool} {order:Int} {x:Spc} {q:BQ} (hx:SQ t L x) (hinv:SrI t (X2 t) D L (V4 x.reg) g fn (qs q.l) ord E) (hh:W4 (qs q.l)) (ho0:0≤order) (ho1:order≤500000) (hql:q.l.length≤500000) (hE:E≤20001) (hL:L.length≤65536)
    {p k:Nat} {o:Opr} {sp:List Int} {cp n2:Int} (ho:t.ops[k]?=some o) (hsp:L[p]?=some sp) (hfp:fn[p]?=some true) (hpre:holdsB o.pre sp=true) (hgp:g[p]?=some cp) (hmax:HM g fn cp) (hcb:cp + 1048576<=(E:Int) * 1048576) :
    uIn t n2 cp (p:Int) (g,fn,order,x,q) ⟨(k:Int),succ o sp⟩=some (.ret (.ret (⟨3,[],0,n2⟩,⟨0⟩)))\/∃ y:UT,uIn t n2 cp (p:Int) (g,fn,order,x,q) ⟨(k:Int),succ o sp⟩=some (.next y)/\∃ L',SQ t L' y.2.2.2.1/\SrI t (X2 t) D L' (V4 y.2.2.2.1.reg) y.1 y.2.1 (qs y.2.2.2.2.l) ord E/\W4 (qs y.2.2.2.2.l)/\0<=y.2.2.1/\y.2.2.1<=order + 1/\y.2.2.2.2.l.length<=q.l.length + 1/\KP L g fn L' y.1 y.2.1/\L'[p]?=some sp/\y.2.1[p]?=some true/\y.1[p]?=some cp/\∃ (i:Nat) (c':Int),L'[i]?=some (succ o sp)/\y.1[i]?=some c'/\c'<=cp + o.cost/\L'.length<=65536:=by
  have hok:=hs.ok;have hoo:=hok.2.2.2.2.2 k o ho;have ho1':=hoo.1;have ho2:=hoo.2.1;have hcp:=(hinv.bound p cp hgp).1;have hsok:StateOk t.vars (succ o sp):=Uv hok (hx.reg.st p sp hsp) ho;have hgl:=hinv.leng;have hfl:=hinv.lenf;have hlkl:=WZ hx.reg;have hpl:=AO hsp;unfold uIn;dsimp only;rcases VM hok.1 hx.reg hsok hL with (⟨i,hi,hadd⟩|⟨hlt,hno,r',hadd,hr',hlk⟩)|⟨n,hn,hadd⟩
  rotate_right
  . left;rw [hadd,At,if_pos hn];rfl
  all_goals right
  . have hil:=AO hi;obtain ⟨ci,hci⟩:=AL (l:=g) (k:=i) (by omega);obtain ⟨b,hb⟩:=AL (l:=fn) (k:=i) (by omega);rw [hadd,At,if_neg (by simp),CY,ho,At,BN (by unfold T3;omega),At];dsimp only;rw [Fe,CY,hb,At,CY,hci,At];have keep:ci<=cp + o.cost->∃ y:UT,(some (.next (g,fn,order,(⟨x.t,x.reg,x.gen⟩:Spc),q)):Option (Ctl UT (Ctl US (Rsl×Err))))=some (.next y)/\∃ L',SQ t L' y.2.2.2.1/\SrI t (X2 t) D L' (V4 y.2.2.2.1.reg) y.1 y.2.1 (qs y.2.2.2.2.l) ord E/\W4 (qs y.2.2.2.2.l)/\0<=y.2.2.1/\y.2.2.1<=order + 1/\y.2.2.2.2.l.length<=q.l.length + 1/\KP L g fn L' y.1 y.2.1/\L'[p]?=some sp/\y.2.1[p]?=some true/\y.1[p]?=some cp/\∃ (i:Nat) (c':Int),L'[i]?=some (succ o sp)/\y.1[i]?=some c'/\c'<=cp + o.cost/\L'.length<=65536:=λ hle =>
      ⟨_,rfl,L,hx,hinv,hh,ho0,by dsimp only;omega,by dsimp only;omega,KP.rfl,hsp,hfp,hgp,i,ci,hi,hci,hle,hL⟩
    cases b with
    | true =>
      rw [DE,At,DE,At];exact keep (by have:=hmax i ci hb hci;omega)
    | false =>
      rw [Fe];by_cases hle:ci<=cp + o.cost
      . rw [if_pos hle,At,DE,At];exact keep hle
      . have hip:p≠i:=λ e=>(by subst e;rw [hfp] at hb;cases hb);obtain ⟨reg',s1,s2,s3⟩:=QF hx.reg hil (p:=(p:Int)) (o:=(k:Int)) (c:=cp + o.cost) (.inr ⟨p,rfl,hpl⟩);obtain ⟨q',u1,u2,u3⟩:=TL hh (by omega) ⟨cp + o.cost,order,(i:Int)⟩;have hplen:=u3.length_eq;simp only [L6,IF] at hplen;rw [if_neg hle,At,Fe,At,Cg];dsimp only;rw [CY,hci,At,s1,At,if_neg (by simp),u1,At,BN (by unfold T3;omega),At,L2];have v1:UpL i (succ o sp) L L:=TG hi;have v3:UpL i (cp + o.cost) g (g.set i (cp + o.cost)):=UM (by omega);have v4:UpL i false fn fn:=TG hb;refine ⟨_,rfl,L,⟨hx.tt,hx.gen,s2⟩,?_,u2,by dsimp only;omega,by dsimp only;omega,by dsimp only;omega,KP.upd v1 v3 v4,hsp,hfp,?_,i,cp + o.cost,hi,v3.1,R9 _,hL⟩
        . dsimp only;rw [s3];exact hinv.upd hok v1 (UM (by omega)) v3 v4 u3 rfl rfl (by simp;omega) (by simp;omega) (by omega) (by omega) rfl (.inr ⟨hi,hb,λ c hc=>by rw [hci] at hc;have:=N4 hc;omega⟩) ho hsp hfp hpre rfl hgp rfl hmax (by omega)
        . dsimp only;rw [v3.2 p hip];exact hgp
  . rw [hadd,At,if_neg (by simp),CY,ho,At,BN (by unfold T3;omega),At];dsimp only;have hg2:(g ++ [cp + o.cost])[L.length]?=some (cp + o.cost):=(by rw [<- hgl];simp);obtain ⟨reg',s1,s2,s3⟩:=QF hr' (i:=L.length) (by simp) (p:=(p:Int)) (o:=(k:Int)) (c:=cp + o.cost) (.inr ⟨p,rfl,by simp;omega⟩);obtain ⟨q',u1,u2,u3⟩:=TL hh (by omega) ⟨cp + o.cost,order,((L.length:Nat):Int)⟩;have hplen:=u3.length_eq;simp only [L6,IF] at hplen;rw [DE,Bn (by simp;omega) (by simp;omega),At,Bn (by simp;omega) (by simp;omega),At,At,Cg];dsimp only;rw [CY,hg2,At,s1,At,if_neg (by simp),u1,At,BN (by unfold T3;omega),At,L2];have sc:(g ++ [cp + o.cost]).set L.length (cp + o.cost)=g ++ [cp + o.cost]:=(by rw [<- hgl];simp);rw [sc];have hlk2:V4 reg'=V4 x.reg ++ [⟨(p:Int),(k:Int),cp + o.cost⟩]:=(by rw [s3,hlk,<- hlkl];simp);have v1:UpL L.length (succ o sp) L (L ++ [succ o sp]):=OE;have v2:UpL L.length (⟨(p:Int),(k:Int),cp + o.cost⟩:RLk) (V4 x.reg) (V4 x.reg ++ [⟨(p:Int),(k:Int),cp + o.cost⟩]):=(by rw [<- hlkl];exact OE);have v3:UpL L.length (cp + o.cost) g (g ++ [cp + o.cost]):=(by rw [<- hgl];exact OE);have v4:UpL L.length false fn (fn ++ [false]):=(by rw [<- hfl];exact OE);have hne:p≠L.length:=(by omega);refine ⟨_,rfl,L ++ [succ o sp],⟨hx.tt,hx.gen,s2⟩,?_,u2,by dsimp only;omega,by dsimp only;omega,by dsimp only;omega,KP.upd v1 v3 v4,by rw [v1.2 p hne];exact hsp,by dsimp only;rw [v4.2 p hne];exact hfp,by dsimp only;rw [v3.2 p hne];exact hgp,L.length,cp + o.cost,v1.1,v3.1,R9 _,by simp;omega⟩;dsimp only;rw [hlk2];exact hinv.upd hok v1 v2 v3 v4 u3 rfl rfl (by simp;omega) (by simp;omega) (by simp;omega) (by simp) (Zz _) (.inl (E8 (R7 _))) ho hsp hfp hpre rfl hgp rfl hmax (by omega)
theorem AbM {t:Tsk} (hs:Lmt t) {n:Nat→Nat} {E N i:Nat} {s:List Int} {c n2:Int} {L:List (List Int)} {y:UT} (h:UJ t (λ j _=>j≠i) n E N i s c L y) (O:N≤450000) (H:E≤20001) (I:L.length≤65536) (B:c + 1048576≤(E:Int) * 1048576) :
    rng (ρ:=Ctl US (Rsl×Err)) (λ (_:Nat) (a:Suc) (y:UT)=>uIn t n2 c (i:Int) y a) ((Z6 t s).map (Acc t s)) 0 y=some (.ret (.ret (⟨3,[],0,n2⟩,⟨0⟩)))\/∃ A:UT,rng (ρ:=Ctl US (Rsl×Err)) (λ (_:Nat) (a:Suc) (y:UT)=>uIn t n2 c (i:Int) y a) ((Z6 t s).map (Acc t s)) 0 y=some (.done A)/\∃ d,UJ t (λ _ _=>True) n E (N + 20) i s c d A/\d.length<=65536:=by
  have J:=hs.ok;have u:t.ops.length<=20:=hs.ops;have v:=h.sq.reg.st i s h.hi;have F:(X2 t s).length<=20:=R2 (Tg t s) u;rw [OA v];have C:=Aba (ρ:=Ctl US (Rsl×Err)) (f:=λ (_:Nat) (a:Suc) (y:UT)=>uIn t n2 c (i:Int) y a) (xs:=(X2 t s).map (Acc t s)) (s₀:=y) (R:=λ q=>q=.ret (⟨3,[],0,n2⟩,⟨0⟩)) (λ m z=>∃ d,UJ t (λ j q=>j≠i\/q∈(X2 t s).take m) n E (N + m) i s c d z/\d.length<=65536)
    ⟨L, ⟨{ h with inv:={ h.inv with rel:=λ j D q hj b p hd=>h.inv.rel j D q hj b p (by rcases hd with hd|hd;exact hd;simp at hd) } },I⟩⟩ (λ m a z hm hz=>by
      rw [K1] at hm;obtain ⟨P,r,rfl⟩:=E3.1 hm;obtain ⟨d,hz,hzL⟩:=hz;obtain ⟨k,o,rfl,ho,hp⟩:=Tf (G2 r);have K:=AO r;have p:=hz.qlen;have w:=hz.ord1;have G:Acc t s (k:Int)=⟨(k:Int),succ o s⟩:=(by rw [ZP,(Vc ho).2]);obtain ⟨g,fn,order,x,q⟩:=z;rcases AbL hs (n2:=n2) hz.sq hz.inv hz.heap hz.ord0 (by have:=hz.ord1;dsimp only at this;omega) (by have:=hz.qlen;dsimp only at this;omega) H hzL ho hz.hi hz.hf hp hz.hc hz.hm B with z0|⟨M,z1,L'',z2,z3,z4,z5,z6,z7,z8,z9,z10,z11,i',c',z12,z13,z14,z15⟩
      . exact .inr ⟨_,by rw [G];exact z0,rfl⟩
      left;(try dsimp only at p);(try dsimp only at w);(try dsimp only at z6);(try dsimp only at z7);refine ⟨M,by rw [G];exact z1,L'',⟨z2,?_,z4,z5,by omega,by omega,z9,z10,z11,hz.hm.kp z8,hz.co.kp z8⟩,z15⟩;refine z3.more (j₀:=i) (q₀:=(k:Int)) (λ j q hd=>?_) z9 rfl ho z12 z11 z13 z14;rcases hd with hd|hd
      . exact .inl (.inl hd)
      . rcases (XS r).1 hd with hd|rfl
        . exact .inl (.inr hd)
        . by_cases e:j=i
          . exact .inr ⟨e,rfl⟩
          . exact .inl (.inl e))
  rcases C with ⟨A,h1,d,h2,h3⟩|⟨q,h1,rfl⟩
  rotate_right
  . exact .inl h1
  right;rw [P6] at h2;refine ⟨A,h1,d,?_,h3⟩;have l:=h2.inv;have p:=h2.qlen;have w:=h2.ord1;exact { h2 with
    inv:={ l with rel:=λ j D q hj b p hd=>l.rel j D q hj b p (by
      by_cases e:j=i
      . right;rw [M9];subst e;rw [h2.hi] at b;obtain rfl:=N4 b;exact p
      . exact .inl e) }
    ord1:=by omega
    qlen:=by omega }
structure UL (t:Tsk) (ord:Nat->Nat) (N:Nat) (L:List (List Int)) (s:US):Prop where
  sq:SQ t L s.2.2.2.2.1
  inv:SrI t (X2 t) (λ _ _=>True) L (V4 s.2.2.2.2.1.reg) s.1 s.2.1 (qs s.2.2.2.2.2.l) ord s.2.2.2.1.toNat
  heap:W4 (qs s.2.2.2.2.2.l)
  ord0:0<=s.2.2.1
  ord1:s.2.2.1<=(N:Int) + 1
  qlen:s.2.2.2.2.2.l.length<=N
  exp0:0<=s.2.2.2.1
  co:CO t s.1 s.2.1
  nn:(N:Int)<=1 + 20 * s.2.2.2.1
  few:L.length<=65536
theorem Abb {t:Tsk} (hs:Lmt t) {lim:Int} (hlm:lim≤20000) {ord:Nat→Nat} {N:Nat} {L:List (List Int)} {st:US} (h:UL t ord N L st) (hE:st.2.2.2.1≤20000) :
    (∃ st':US,Ab9 t lim st=some (.next st')/\UL t ord N L st'/\st'.2.2.2.1=st.2.2.2.1/\st'.2.2.2.2.2.l.length < st.2.2.2.2.2.l.length) \/
    (Ab9 t lim st=some (.brk st)/\st.2.2.2.2.2.l.length=0) \/
    (∃ p c,Ab9 t lim st=some (.ret (⟨1,p,c,st.2.2.2.1⟩,⟨0⟩))/\p.length<=20000/\(∃ s',PlanR t t.init p s' c/\holdsB t.goal s'=true)/\(∀ e∈qs st.2.2.2.2.2.l,c<=e.key)) \/
    (∃ e,Ab9 t lim st=some (.ret (⟨3,[],0,e⟩,⟨0⟩))) \/
    (∃ (st':US) (ord':Nat->Nat) (N':Nat) (L':List (List Int)),Ab9 t lim st=some (.next st')/\UL t ord' N' L' st'/\st'.2.2.2.1=st.2.2.2.1 + 1/\st'.2.2.2.1<=20000):=by
  have hok:=hs.ok;have hE0:=h.exp0;have hnn:=h.nn;have hql:=h.qlen;obtain ⟨g,fn,order,exp,x,q⟩:=st;dsimp only at hE hE0 hnn hql ⊢;by_cases h0:q.l.length=0
  . refine .inr (.inl ⟨?_,h0⟩);unfold Ab9 Cy;dsimp only;rw [At,if_neg (by omega)]
  obtain ⟨pr,p1,e,q',rfl,p3,p4,p5⟩:=ZO (q:=q) h.heap (by omega) (by omega);have hem:toQ e∈qs q.l:=p4.mem_iff.2 J0;obtain ⟨i,hei,hil,hek⟩:=h.inv.ent _ hem;change e.id=(i:Int) at hei;obtain ⟨s,hsi⟩:=AL (l:=L) (k:=i) hil;obtain ⟨b,hb⟩:=AL (l:=fn) (k:=i) (by have:=h.inv.lenf;dsimp only at this;omega);obtain ⟨c,hc⟩:=AL (l:=g) (k:=i) (by have:=h.inv.leng;dsimp only at this;omega);have hpl:=p4.length_eq;simp only [L6,IF] at hpl;cases b with
  | true =>
    refine .inl ⟨(g,fn,order,exp,x,q'),?_,⟨h.sq,h.inv.drop p4 hei (.inl hb),p3,h.ord0,h.ord1,by dsimp only;omega,h.exp0,h.co,h.nn,h.few⟩,rfl,by dsimp only;omega⟩;unfold Ab9 Cy;dsimp only;rw [At,if_pos (by omega),p1,At];dsimp only;rw [hei,CY,hb,At,DE]
  | false =>
    have hke:e.cost=c:=by
      obtain ⟨e',m,k1,_⟩:=h.inv.opn i c hb hc;have h1:=TD (p5 e' m);have h2:=hek c hc;change c<=e.cost at h2;change e.cost<=e'.key at h1;omega
    have start:Ab9 t lim (g,fn,order,exp,x,q)=if holdsB t.goal s=true then bnd (DP x (i:Int) exp) λ z=>some (.ret (z.1,(⟨z.2.n⟩:Err))) else if lim<=exp then (some (.ret (⟨3,[],0,exp⟩,⟨0⟩))) else (bnd (atI fn (i:Int)) λ _=>bnd (T4 (exp + 1)) λ n2=>bnd (Cp x.gen s) λ l=>bnd (rng (ρ:=Ctl US (Rsl×Err)) (λ (_:Nat) (a:Suc) (y:UT)=>uIn t n2 c (i:Int) y a) l 0 (g,(fn.set i true),order,x,q')) λ r=>fin r λ (z:UT)=>some (.next (z.1,z.2.1,z.2.2.1,n2,z.2.2.2.1,z.2.2.2.2))):=by
      unfold Ab9 Cy DK;dsimp only;rw [At,if_pos (by omega),p1,At];dsimp only;rw [hei,hke,CY,hb,At,Fe,Uc hok.1 h.sq.reg hsi,At,if_neg (by simp),WJ,At,L2,At]
    have hkey:g[i]?=some (toQ e).key:=(by rw [hc,<- hke];rfl);have hleast:∀ e'∈qs q.l,c<=e'.key:=λ e' m=>(by have:=TD (p5 e' m);change e.cost<=e'.key at this;omega);have hchp:∀ C,Walk t t.init C->c<=C:=λ C hw=>by
      obtain ⟨e',m,k1⟩:=h.inv.front hok (Oi hw) 0 0 h.inv.root h.inv.root0;have:=hleast e' m;omega
    by_cases hg:holdsB t.goal s=true
    . obtain ⟨p,g1,g2,g3⟩:=h.inv.path hsi hc;have hL:=h.few;have hnum:=h.inv.num;have hcl:=AaR fn;have hfl:=h.inv.lenf;dsimp only at g1 g2 g3 hnum hcl hfl;refine .inr (.inr (.inl ⟨p,c,?_,by omega,⟨s,g2,hg⟩,hleast⟩));rw [start,if_pos hg];unfold DP;rw [Zy h.sq.reg hL g1 (by omega),At,if_neg (by simp),h.sq.tt,Aa9 hok g2 0 0 (by omega) (by omega),At,Cg,R6,At]
    . have hgf:holdsB t.goal s=false:=(by simpa using hg);have hm:=h.inv.mark p4 p5 hei hb hkey hsi hgf;have hbd:=h.inv.bound i c hc;dsimp only at hm hbd;rw [I4 hE0] at hbd;have hfl:i < fn.length:=AO hb;have hset:∀ (j:Nat) c',(fn.set i true)[j]?=some true->g[j]?=some c'->c'<=c/\∀ C,Walk t t.init C->c'<=C:=λ j c' hj hc'=>by
        by_cases e1:i=j
        . subst e1;rw [hc] at hc';obtain rfl:=N4 hc';exact ⟨R9 _,hchp⟩
        . rw [H1 e1] at hj;exact ⟨by have:=h.inv.lower j c' hj hc' _ hem;change c'<=e.cost at this;omega,h.co j c' hj hc'⟩
      by_cases hlim:lim<=exp
      . exact .inr (.inr (.inr (.inl ⟨exp,by rw [start,if_neg hg,if_pos hlim]⟩)))
      have st2:Ab9 t lim (g,fn,order,exp,x,q)=bnd (rng (ρ:=Ctl US (Rsl×Err)) (λ (_:Nat) (a:Suc) (y:UT)=>uIn t (exp + 1) c (i:Int) y a) ((Z6 t s).map (Acc t s)) 0 (g,(fn.set i true),order,x,q')) λ r=>fin r λ (z:UT)=>some (.next (z.1,z.2.1,z.2.2.1,exp + 1,z.2.2.2.1,z.2.2.2.2)):=by
        rw [start,if_neg hg,if_neg hlim,CY,hb,At,BN (by unfold T3;omega),At,h.sq.gen,Zg hok (Xa hok (h.sq.reg.st i s hsi)),At]
      rcases AbM hs (n2:=exp + 1) (E:=exp.toNat + 1) (N:=N) (i:=i) (s:=s) (c:=c) (L:=L) (y:=(g,fn.set i true,order,x,q')) ⟨h.sq,hm,p3,h.ord0,h.ord1,by dsimp only;omega,hsi,E6 hfl,hc,λ j c' hj hc'=>(hset j c' hj hc').1,λ j c' hj hc'=>(hset j c' hj hc').2⟩ (by omega) (by omega) h.few (by
        have:((exp.toNat + 1:Nat):Int)=exp + 1:=(by omega);rw [this];omega) with y0|⟨y',y1,L',y2,y3⟩
      . exact .inr (.inr (.inr (.inl ⟨exp + 1,by rw [st2,y0,At];rfl⟩)))
      refine .inr (.inr (.inr (.inr ⟨(y'.1,y'.2.1,y'.2.2.1,exp + 1,y'.2.2.2.1,y'.2.2.2.2),(λ j=>if j=i then exp.toNat else ord j),N + 20,L',?_,⟨y2.sq,?_,y2.heap,y2.ord0,y2.ord1,y2.qlen,by dsimp only;omega,y2.co,by dsimp only;omega,y3⟩,rfl,by dsimp only;omega⟩)))
      . rw [st2,y1,At,Cg]
      . dsimp only;rw [show (exp + 1).toNat=exp.toNat + 1 from by omega];exact y2.inv
def Ael:Fin US (Rsl×Err)->Rsl
  | .done s=>⟨2,[],0,s.2.2.2.1⟩
  | .ret a=>a.1
theorem Yj {g K a q d n:Nat} (e:a < g) (h:(g - a) * K + q < n + 1) (f:d < K):(g - (a + 1)) * K + d < n:=by
  obtain ⟨b,hb⟩:∃ b,g - a=b + 1:=⟨g - a - 1,by omega⟩;have c:g - (a + 1)=b:=(by omega);rw [hb,R8,Nat.one_mul] at h;rw [c];omega
def Aed (t:Tsk) (b:Rsl):Prop :=
  (b.verdict=1/\b.plan.length<=20000/\(∃ a,PlanR t t.init b.plan a b.cost/\holdsB t.goal a=true)/\∀ C,Walk t t.init C->b.cost<=C)\/(b.verdict=2/\b.plan=[]/\b.cost=0/\∀ C,¬ Walk t t.init C)\/b.verdict=3
theorem AbN {t:Tsk} (hs:Lmt t) {lim:Int} (j:lim≤20000):∀ (n:Nat) (a:US) (b:Nat→Nat) (N:Nat) (L:List (List Int)),UL t b N L a→a.2.2.2.1≤20000→(20001 - a.2.2.2.1.toNat) * 500000 + a.2.2.2.2.2.l.length < n→∃ f,lop (Ab9 t lim) a=some f∧Ae2 f=some (Ael f,⟨0⟩)∧Aed t (Ael f):=by
  intro n
  induction n with
  | zero=>intro a b N L _ _ hn;omega
  | succ n q =>
    intro a b N L h s hn;have u:=h.exp0;have i:=hs.ok;rcases Abb hs j h s with ⟨d,g,h2,h3,h4⟩|⟨g,h2⟩|⟨p,c,g,h2,h3,h4⟩|⟨e,g⟩|⟨d,ord',N',L',g,h2,h3,h4⟩
    . obtain ⟨f,f1,f2⟩:=q d b N L h2 (by omega) (by rw [h3];omega);exact ⟨f,by rw [JS,g];exact f1,f2⟩
    . refine ⟨.done a,by rw [JS,g],rfl,.inr (.inl ⟨rfl,rfl,rfl,λ C o=>?_⟩)⟩;obtain ⟨r,m,_⟩:=h.inv.front i (Oi o) 0 0 h.inv.root h.inv.root0;have:=E5 m;rw [IF] at this;omega
    . refine ⟨.ret (⟨1,p,c,a.2.2.2.1⟩,⟨0⟩),by rw [JS,g],rfl,.inl ⟨rfl,h2,h3,λ C o=>?_⟩⟩;obtain ⟨r,m,k⟩:=h.inv.front i (Oi o) 0 0 h.inv.root h.inv.root0;have:=h4 r m;show c<=C;omega
    . exact ⟨.ret (⟨3,[],0,e⟩,⟨0⟩),by rw [JS,g],rfl,.inr (.inr rfl)⟩
    . have w:=h2.qlen;have v:=h2.nn;obtain ⟨f,f1,f2⟩:=q d ord' N' L' h2 h4 (by
        have:d.2.2.2.1.toNat=a.2.2.2.1.toNat + 1:=(by omega);rw [this];exact Yj (by omega) hn (by omega))
      exact ⟨f,by rw [JS,g];exact f1,f2⟩
theorem Abc {t:Tsk} {d:Reg} (hr:RegI t.vars d [t.init]) (f:V4 d=[⟨-1,-1,0⟩]):UL t (λ _=>0) 1 [t.init] (([0]:List Int),[false],1,0,⟨t,d,some ⟨t⟩⟩,(⟨[(⟨0,0,0⟩:Itm)]⟩:BQ)):=by
  have one:∀ {α:Type} {a b:α} {i:Nat},[a][i]?=some b->i=0/\b=a:=λ {α a b i} h=>by
    cases i with
    | zero=>simp at h;exact ⟨rfl,h.symm⟩
    | succ i=>simp at h
  refine ⟨⟨rfl,rfl,hr⟩,?_,λ j x y hj l=>by have:=(one l).1;omega,by simp,by simp,by simp,by simp,(λ j c hj=>by have:=(one hj).2;cases this),by simp,by simp⟩;dsimp only;rw [f];refine ⟨rfl,rfl,rfl,rfl,rfl,λ i s k c hi hk hc=>?_,λ i hi=>?_,λ j c hj=>?_,λ e he=>?_,λ i c hi hc=>?_,λ i c hc=>?_,λ j s hj=>?_,λ j s q hj=>?_,rfl,λ i s hi=>?_,λ m=>by simp at m⟩
  . obtain ⟨rfl,rfl⟩:=one hi;obtain ⟨_,rfl⟩:=one hk;obtain ⟨_,rfl⟩:=one hc;exact .inl ⟨rfl,rfl,rfl⟩
  . have:=(one hi).2;cases this
  . have:=(one hj).2;cases this
  . have g:e=toQ ⟨0,0,0⟩:=(by simpa [qs] using he);subst g;refine ⟨0,rfl,by simp,λ c hc=>?_⟩;have:=(one hc).2;rw [this];decide
  . obtain ⟨rfl,_⟩:=one hi;have:=(one hc).2;refine ⟨toQ ⟨0,0,0⟩,by simp [qs],?_,rfl⟩;rw [this];rfl
  . have:=(one hc).2;rw [this];decide
  . have:=(one hj).2;cases this
  . have:=(one hj).2;cases this
  . obtain ⟨_,rfl⟩:=one hi;exact .init
theorem Ud {t:Tsk} (hs:Lmt t) {lim:Int} (a:lim<=20000):∃ c,FY t lim=some (c,⟨0⟩)/\Aed t c:=by
  obtain ⟨b,b1,b2,b3⟩:=Yh hs.ok;obtain ⟨f,f1,f0,f2⟩:=AbN hs a _ _ _ _ _ (Abc b2 b3) (by dsimp only;omega) (M2 _);refine ⟨Ael f,?_,f2⟩;rw [ZQ,b1,At,if_neg (by simp),At,f1,At,f0]
theorem Yk {t:Tsk} (h:TaskOk t) {s a b:List Int} {C:Int} (hs:StateOk t.vars s) (hr:PlanR t s a b C) (hl:a.length<=60000):Iz t s a=some (C,holdsB t.goal b):=by
  unfold Iz;rw [WK h hr 0 0 hs (by omega) (by omega),At,Cg,MN,At,R6];cases holdsB t.goal b<;>rfl
theorem Xb {t:Tsk} (hs:Lmt t) {i:Rsl} (h:Aed t i) (d:i.verdict≠3) {b:Int} (a:b < Inf->Walk t t.init b) (c:∀ C,Walk t t.init C->b<=C):FP t i b=some true:=by
  rcases h with ⟨h1,h2,⟨s',h3,h4⟩,h5⟩|⟨h1,h2,h3,h4⟩|h1
  . have e:=h3.bound hs.ok;have f:=c _ (h3.walk h4);have hlt:b < Inf:=(by unfold Inf;omega);have g:=h5 _ (a hlt);have he:i.cost=b:=(by omega);unfold FP;unfold Inf at hlt;rw [if_neg (by omega),Yk hs.ok hs.ok.2.2.2.1 h3 (by omega),At,if_pos h1,h4,DE,he,if_pos rfl,if_pos rfl];rfl
  . exact XX a h1 h2 h3 h4
  . exact absurd h1 d
end
section
open Go Go.RowKit
theorem Yl (b:List Int):∃ q,IA b 18=some q∧(q≤18→(∀ n∈b,1≤n)→(V8 b).length≤18):=by
  unfold IA;refine Ga (λ m s=>0<=s/\s<=18/\((∀ n∈b,1<=n)->1<=s/\s=((V8 (b.take m)).length:Int))) (λ q=>¬ q<=18) ⟨by decide,by decide,λ _=>⟨by decide,by simp [V8]⟩⟩ ?_ (λ s ⟨j,h2,h3⟩=>⟨s,rfl,λ k f=>by have:=(h3 f).2;rw [M9] at this;omega⟩) (λ q k=>⟨q,rfl,λ h=>absurd h k⟩);rintro m a s l ⟨j,h2,h3⟩;refine Kc ?_;have d:0<=min (max a 0) 19/\min (max a 0) 19<=19:=(by omega);generalize o:min (max a 0) 19=x at d;have g:0<=s * x:=Int.mul_nonneg j d.1;have p:s * x<=18 * 19:=Int.mul_le_mul h2 d.2 d.1 (by decide);rw [BN (by decide),At];show ∃ c,bnd (T4 (s * (min (max a 0) 19))) _=_/\_;rw [o,BN (by unfold T3;omega),At];by_cases hlt:18 < s * x
  . rw [if_pos hlt,At];exact ⟨_,rfl,show ¬ (18 + 1:Int)<=18 by decide⟩
  . rw [if_neg hlt];refine ⟨_,rfl,g,by omega,λ f=>?_⟩;obtain ⟨r,g2⟩:=h3 f;have t:=f a (G2 l);have i:x=a:=by
      by_cases hc:a<=19
      . omega
      . have e:x=19:=(by omega);rw [e] at hlt;omega
    subst i;have:s * x=((V8 (b.take (m + 1))).length:Int):=by
      rw [SV l,AcC,NK,N3,I4 (by omega),<- g2]
    refine ⟨?_,this⟩;have:=Int.mul_le_mul r t (by decide) (by omega);omega
theorem Ym {t:Tpl} (hj:t.jobs.length≤30):∃ b,Ia t=some b∧(b=true→tck t=0∧Tiny t∧(V8 t.vars).length≤18):=by
  unfold Ia;by_cases j:t.jobs.length<=2
  . rw [if_neg (by omega)];by_cases k:t.vars.length<=3
    . rw [if_neg (by omega)];obtain ⟨q,d,hq2⟩:=Yl t.vars;rw [d,At];by_cases l:q<=18
      . rw [if_neg (by omega),At,Fe];refine Ga (λ m (_:Unit)=>∀ i,i < m->i < t.jobs.length->(jb t i).dur<=3) (λ q=>q=false) (λ i hi=>by omega) ?_ ?_ (λ q d=>⟨_,rfl,λ h=>by rw [d] at h;cases h⟩)
        . rintro m a ⟨⟩ o f;have p:a=jb t m:=(Qz o).symm;subst p;refine Kc ?_;by_cases hd:3 < (jb t m).dur
          . rw [if_pos hd];exact ⟨_,rfl,rfl⟩
          . rw [if_neg hd];refine ⟨_,rfl,λ i hi g=>?_⟩;by_cases e:i=m
            . subst e;omega
            . exact f i (by omega) g
        . rintro ⟨⟩ f;rw [Cg,WI hj,At];by_cases c:tck t=0
          . rw [if_pos c,At];exact ⟨_,rfl,λ _=>⟨c,⟨k,j,λ i hi=>f i hi hi⟩,hq2 l λ n hn=>((To c).doms n hn).1⟩⟩
          . rw [if_neg c,At];exact ⟨_,rfl,λ h=>by cases h⟩
      . rw [if_pos (by omega),At,DE];exact ⟨_,rfl,λ h=>by cases h⟩
    . rw [if_pos (by omega),At,DE];exact ⟨_,rfl,λ h=>by cases h⟩
  . rw [if_pos (by omega),At,DE];exact ⟨_,rfl,λ h=>by cases h⟩
theorem Xc (t:Tpl):Ge t=some true:=by
  unfold Ge;rw [AeJ,At,DE];obtain ⟨b,hb,hf⟩:=Zm t [];rw [hb,At];cases b with
  | false=>rfl
  | true =>
    obtain ⟨n,f2,f3,f4,f5⟩:=hf rfl;obtain ⟨l,hb2,hf2⟩:=Ym f2;rw [DE,hb2,At];cases l with
    | false=>rfl
    | true =>
      obtain ⟨g,d,hst⟩:=hf2 rfl;have a:=To g;rw [DE,At,Fe,VH g f5];rcases VJ a d with hc|hc
      . rw [if_neg (λ h=>h hc),At];have c:=Aa2 hc;have e:=IP.1 hc;have hl:Lmt (cTask t):=⟨e,by have:=UZ a d;unfold cTask;simp only [P6];omega⟩;obtain ⟨p,u1,u2⟩:=Ud hl (lim:=20000) (by decide);dsimp only;rw [if_neg (by simp),u1,At,if_neg (by simp)];by_cases f:p.verdict=3
        . rw [if_pos f]
        . rw [if_neg f];obtain ⟨L,l1,i⟩:=Yf a d hst;rw [l1,At,Xb hl u2 f (b:=L) (λ hlt=>?_) (λ C m=>?_),At,DE,At]
          . rcases i with ⟨j,rfl,_,j2,j3⟩|⟨o,_⟩
            . refine WV c a j2 ?_;by_cases hn:t.jobs.length=0
              . have:=j3 0 (ZC a hn j2 (VG a));omega
              . omega
            . unfold Inf at hlt;omega
          . obtain ⟨k,rfl,w⟩:=WU c a m;rcases i with ⟨j,rfl,_,j2,j3⟩|⟨_,h2⟩
            . have:=j3 k w;omega
            . exact absurd w (h2 k)
      . rw [if_pos (by rw [hc];decide),At];dsimp only;rw [hc,if_pos (by decide)];rfl
end
section
open Go Go.RowKit Go.ChangeShapes Go.WideShapes Go.Deep
theorem Ad3 {w:World} {v0:Value} {a:Tpl} (b:V w v0 a):Fn prog 3 [v0] w λ v w'=>v=.bool true/\Ext w w' :=
  (MO (λ _ h=>h) b (Xc a)).mono λ _ _ h=>⟨h.2.bool,h.1⟩
set_option maxRecDepth 100000 in
theorem AeI (os:Os) (a:Array Value):laidMetH prog Rows.compileLeastRow.laid ((World.doorLaid prog 4000 os).forCall (λ _ _=>0) ⟨#[],a,[]⟩).memory :=
  laidMetH_of_parts3 (fuel:=8) (laidMet_of_run' 8 (by kernel_rfl) (by kernel_rfl)) (by kernel_rfl) (by kernel_rfl)
set_option maxRecDepth 100000 in
theorem Nt (os:Os) (d:os.Started) (q:Type) (enc:TypeId×Value->q) :
    ReturnsInHanded {} checked os 3 .any (λ w b=>(Rows.compileLeastSpec.pre enc prog f3 Rows.compileLeastRow.domain false w b/\laidMetH prog Rows.compileLeastRow.laid w)/\sizedMet enc prog f3 (OpenSpec.ofChange Rows.compileLeastSpec) false w b) (Rows.compileLeastSpec.post enc prog f3 false true false false):=by
  refine returnsInHanded_of_change_and (C:=checked) (X:=λ w _=>laidMetH prog Rows.compileLeastRow.laid w) (λ _ _ _ n h=>h.of_heap n) AeW d (by kernel_rfl) func3 (ChangeSpec.witness_shaped (enc:=enc) (C:=checked) (os:=os) (X:=λ w _=>laidMetH prog Rows.compileLeastRow.laid w) false (World.doorLaid prog 4000 os) #[(.agg #[.slice none 0 0,.slice none 0 0,.slice none 0 0,.slice none 0 0])] 8 rfl (World.shaped_of_RefB (by kernel_rfl) (by kernel_rfl)) (by kernel_rfl) (by kernel_rfl) (by kernel_rfl) (AeI os _)) ?_;intro r base b m o k c hW _ _ _ _;have f:∀ p,DataW.TrodAll enc prog r 0 (λ _=>true) true f3.params.toList b.toList m p->∃ v0 i,b=#[v0]/\m=[i]/\(∃ a:Tpl,V r v0 a):=by
    intro p hA;rw [params3] at hA;replace c:∀ (j:Nat) t v,(#[26]:Array TypeId)[j]?=some t->b[j]?=some v->Value.okWide prog r .any base t v:=(by rw [<- params3];exact c);obtain ⟨v0,vs0,i,ds0,p0,q0,g0,e0,_,l,r0⟩:=trodAll_cons hA;obtain ⟨g,e,_⟩:=trodAll_nil r0;rw [g] at g0;rw [e] at e0;obtain rfl:b=#[v0]:=(by cases b;simp_all);exact ⟨v0,i,rfl,e0,(by first|exact openAgg rfl (c 0 26 v0 rfl rfl) l|exact openOne rfl (c 0 26 v0 rfl rfl) l)⟩
  refine AeL rfl (by kernel_rfl) (by rw [params3];exact of_decide_eq_true (by kernel_rfl)) hW ?_ ?_
  . intro p hA;obtain ⟨v0,i,_,rfl,_⟩:=f p hA;rfl
  . intro p hA;obtain ⟨v0,i,rfl,_,⟨a0,l⟩⟩:=f p hA;exact Ad3 l
theorem OS:Rows.CompileLeastSaid :=
  OpenClaim.holds_of_wide 3 f3 rfl rfl rfl rfl rfl rfl rfl ⟨rfl,rfl,rfl,rfl,rfl⟩ rfl rfl rfl rfl rfl (by kernel_rfl) func3 (by kernel_rfl)
    (of_decide_eq_true (by kernel_rfl)) (by unfold Func.isWrapper;first|(rw [if_pos (by decide +kernel)];kernel_rfl)|(rw [if_neg (by decide +kernel)];exact ⟨rfl,rfl⟩))
    (λ os a b enc _=>Nt os a b enc)
theorem compileLeast_holds:Rows.CompileLeastCardSaid :=
  Claim7.holds_tied_plain_at .later [] [.data, .data, .data] true (true, "4dab322006757d6dc0d2e3c1e15fbec76c61a14017c6d8220edf9cd3f6eb2c0e") true
    OS (λ _ h=>by cases h) (by kernel_rfl) (λ _ h=>by cases h) compileLeast_row_tie rfl ⟨rfl,rfl⟩ (by kernel_rfl) rfl
    (λ f d hf b=>by
      obtain rfl : f = 3 := N4 ((show prog.funcNamed "stratagem/stratagemlaw56.CompileLeast" = some 3 by kernel_rfl).symm.trans hf) |>.symm;obtain rfl:d=f3:=(N4 (func3.symm.trans b)).symm;exact ⟨by kernel_rfl,λ j t c=>by
        rw [params3] at c;have hm:t∈[26]:=(by simpa using Array.mem_of_getElem? c);have a:([26].all λ u=>!prog.wantsStandIn u)=true:=(by kernel_rfl);exact (show prog.wantsStandIn t=false by simpa using M0.1 a t hm)⟩)
    (by kernel_rfl)
#print axioms compileLeast_holds
end
end Go.Proofs.YtllibjejncelhaaGreatDoor

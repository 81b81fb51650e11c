/- ExplorePerfect returns true for every task, and it reads behind the call as before. No conditions. -/
import Derived.Test.YtkbmbcblgdgjlaaGreatEFD
import Derived.Test.YtkbmbcblgdgjlaaGreatRows
set_option linter.unusedVariables false
set_option linter.unusedSimpArgs false
namespace Go.Proofs.YtkbmbcblgdgjlaaGreat
open Go Go.RowKit
section
open Go Go.RowKit
theorem Mt {σ ρ:Type} {x:Option (Ctl σ ρ)} {I:σ→Prop} (h:∃ r,x=some r∧∃ s',r=Ctl.next s'∧I s'):∃ s',x=some (.next s')∧I s':=by
  obtain ⟨_,h1,s',rfl,h2⟩:=h
  exact ⟨s',h1,h2⟩
def FldOk (W:Nat) (f:PFd) (n:Int):Prop:=∃ k b w:Nat,f=⟨k,b,w,n⟩∧k < W∧b + w≤64∧w≤6∧n≤2 ^ w
def PkOk (vars:List Int) (p:Pkr):Prop:=p.fields.length=vars.length∧(∃ W:Nat,p.words=(W:Int)∧1≤W∧W≤vars.length + 1∧∀ (i:Nat) f n,p.fields[i]?=some f→vars[i]?=some n→FldOk W f n) ∧
  ∀ (i j:Nat) f g,i < j→p.fields[i]?=some f→p.fields[j]?=some g→f.word < g.word∨(f.word=g.word∧f.bit + f.width≤g.bit)
theorem PA:∀ {w:Nat},w≤6→shlI 1 (w:Int)=some ((2 ^ w:Nat):Int):=by
  intro w h
  have:w=0∨w=1∨w=2∨w=3∨w=4∨w=5∨w=6:=by omega
  rcases this with rfl|rfl|rfl|rfl|rfl|rfl|rfl<;>rfl
theorem PB {w:Nat} {n:Int} (hw:w≤6) (h:((2 ^ w:Nat):Int) < n) (hn:n≤64):w < 6:=by
  rcases Nat.lt_or_ge w 6 with hh|hh
  · exact hh
  · obtain rfl:w=6:=by omega
    simp at h;omega
def PkI (vars:List Int) (B W:Nat) (fs:List PFd):Prop:=(∀ (i:Nat) f n,fs[i]?=some f→vars[i]?=some n→FldOk W f n) ∧
  (∀ (i j:Nat) f g,i < j→fs[i]?=some f→fs[j]?=some g→f.word < g.word∨(f.word=g.word∧f.bit + f.width≤g.bit))∧∀ (i:Nat) f,fs[i]?=some f→f.word + 1 < (W:Int)∨(f.word + 1=(W:Int)∧f.bit + f.width≤(B:Int))
theorem PkI.over {vars:List Int} {B W:Nat} {fs:List PFd} (h:PkI vars B W fs):PkI vars 0 (W + 1) fs :=
  ⟨fun i f n hf hn=>by obtain ⟨k,b,w,e,e1,e2⟩:=h.1 i f n hf hn;exact ⟨k,b,w,e,by omega,e2⟩,h.2.1,fun i f hf=>by have:=h.2.2 i f hf;omega⟩
theorem DC {α:Type} {l:List α} {x y:α} {i:Nat} (h:(l ++ [x])[i]?=some y):l[i]?=some y∨(i=l.length∧y=x):=by
  rcases Nat.lt_trichotomy i l.length with hi|hi|hi
  · rw [List.getElem?_append_left hi] at h;exact .inl h
  · subst hi;simp at h;exact .inr ⟨rfl,h.symm⟩
  · rw [List.getElem?_append_right (by omega)] at h
    rw [List.getElem?_eq_none (by simp;omega)] at h
    cases h
theorem PkI.add {vars:List Int} {B W w:Nat} {fs:List PFd} {n:Int} (h:PkI vars B W fs) (hW:1≤W) (hn:vars[fs.length]?=some n) (hB:B + w≤64) (hw:w≤6) (hnw:n≤2 ^ w):PkI vars (B + w) W (fs ++ [⟨(W:Int) - 1,(B:Int),(w:Int),n⟩]):=by
  refine ⟨fun i f n' hf hn'=>?_,fun i j f g hij hf hg=>?_,fun i f hf=>?_⟩
  · rcases DC hf with hh|⟨rfl,rfl⟩
    · exact h.1 i f n' hh hn'
    · rw [hn] at hn'
      obtain rfl:=Option.some.inj hn'
      exact ⟨W - 1,B,w,by congr 1;omega,by omega,hB,hw,hnw⟩
  · rcases DC hg with hh|⟨rfl,rfl⟩
    · rcases DC hf with hk|⟨rfl,rfl⟩
      · exact h.2.1 i j f g hij hk hh
      · have:=AC hh;omega
    · rcases DC hf with hk|⟨rfl,rfl⟩
      · have:=h.2.2 i f hk
        dsimp only
        omega
      · omega
  · rcases DC hf with hh|⟨rfl,rfl⟩
    · have:=h.2.2 i f hh;omega
    · dsimp only;omega
theorem MQ {vars:List Int} (hl:vars.length≤64) (hv:∀ (i:Nat) n,vars[i]?=some n→1≤n∧n≤64):∃ r,Et vars=some r∧∃ p,r=(some p,⟨0⟩)∧PkOk vars p:=by
  unfold Et
  rw [if_neg (by omega)]
  refine Ho (fun m s=>∃ B W:Nat,s.1=(B:Int)∧B≤64∧s.2.words=(W:Int)∧1≤W∧W≤m + 1∧s.2.fields.length=m∧PkI vars B W s.2.fields) (fun _=>False)
    ⟨0,1,rfl,by omega,rfl,by omega,by omega,rfl,fun i f n h=>by simp at h,fun i j f g _ h=>by simp at h,fun i f h=>by simp at h⟩ ?_ ?_ (fun q hq=>hq.elim)
  · rintro m n ⟨s1,s2⟩ hm ⟨B,W,hs1,hB,hW,hW1,hWm,hlen,hI⟩
    dsimp only at hs1 hW hlen hI
    subst hs1
    obtain ⟨hn1,hn2⟩:=hv m n hm
    have hml:=AC hm
    refine .inl (Mt ?_)
    rw [if_neg (by omega),if_neg (by omega),An,Dc]
    refine LA (fun c=>∃ w:Nat,c=(w:Int)∧w≤6) (fun c=>∃ w:Nat,c=(w:Int)∧w≤6∧n≤2 ^ w) (fun _=>False) (fun c=>7 - c.toNat) ⟨0,rfl,by omega⟩ ?_ ?_ (fun q hq=>hq.elim)
    · rintro c ⟨w,rfl,hw⟩
      rw [PA hw,An]
      by_cases hlt:((2 ^ w:Nat):Int) < n
      · have:=PB hw hlt hn2
        rw [if_pos hlt,Cd (by unfold inI64;omega),An]
        exact .inl ⟨_,rfl,⟨w + 1,by omega,by omega⟩,by omega⟩
      · rw [if_neg hlt]
        refine .inr (.inl ⟨_,rfl,w,rfl,hw,?_⟩)
        have:((2 ^ w:Nat):Int)=(2:Int) ^ w:=by simp
        omega
    · rintro c ⟨w,rfl,hw,hnw⟩
      rw [Cr,Cd (by unfold inI64;omega),An]
      have fin':∀ (B' W':Nat) (q:Pkr),B' + w≤64→1≤W'→W'≤m + 2→q.words=(W':Int)→q.fields=s2.fields→PkI vars B' W' s2.fields→∃ r,(bnd (chkI (q.words - 1)) fun n133=>bnd (appI 32 q.fields [(⟨n133,(B':Int),(w:Int),n⟩:PFd)]) fun u142=>bnd (chkI ((B':Int) + (w:Int))) fun n155=>some (Ctl.next (ρ:=(Option Pkr)×Err) (n155,(⟨u142,q.words⟩:Pkr))))=some r∧∃ s',r=Ctl.next s'∧∃ B W:Nat,s'.1=(B:Int)∧B≤64∧s'.2.words=(W:Int)∧1≤W∧W≤m + 1 + 1∧s'.2.fields.length=m + 1∧PkI vars B W s'.2.fields:=by
        intro B' W' q hB' hW' hWm' hq1 hq2 hI'
        rw [hq1,hq2,Cd (by unfold inI64;omega),An,Cp (by simp;omega) (by simp;omega),An,Cd (by unfold inI64;omega),An]
        exact ⟨_,rfl,_,rfl,B' + w,W',by simp,hB',rfl,hW',by omega,by simp [hlen],hI'.add hW' (by rw [hlen];exact hm) hB' hw hnw⟩
      by_cases hover:64 < (B:Int) + (w:Int)
      · rw [if_pos hover]
        dsimp only
        rw [hW,Cd (by unfold inI64;omega),An,An]
        exact fin' 0 (W + 1) ⟨s2.fields,(W:Int) + 1⟩ (by omega) (by omega) (by omega) (by simp) rfl hI.over
      · rw [if_neg hover,An]
        exact fin' B W s2 (by omega) hW1 (by omega) hW rfl hI
  · rintro ⟨s1,s2⟩ ⟨B,W,hs1,hB,hW,hW1,hWm,hlen,hI⟩
    exact ⟨_,rfl,s2,rfl,hlen,⟨W,hW,hW1,hWm,hI.1⟩,hI.2.1⟩
def InF (f:PFd) (x:Int) (k c:Nat):Prop:=f.word=(k:Int)∧f.bit≤(c:Int)∧(c:Int) < f.bit + f.width∧x.toNat.testBit (c - f.bit.toNat)=true
def Bits (fs:List PFd) (s:List Int) (p:Nat→Prop) (ws:List U64):Prop:=∀ (k c:Nat) a,ws[k]?=some a→c < 64→(a.getLsbD c=true↔∃ (i:Nat) (f:PFd) (x:Int),p i∧fs[i]?=some f∧s[i]?=some x∧InF f x k c)
theorem ones {w:Nat} (h:w≤6):((1:U64) <<< w) - (1:U64)=BitVec.ofNat 64 (2 ^ w - 1):=by
  have:w=0∨w=1∨w=2∨w=3∨w=4∨w=5∨w=6:=by omega
  rcases this with rfl|rfl|rfl|rfl|rfl|rfl|rfl<;>rfl
theorem LI {w b c:Nat} (hw:w≤6) (hc:c < 64):((((1:U64) <<< w) - (1:U64)) <<< b).getLsbD c=(decide (b≤c) && decide (c < b + w)):=by
  rw [ones hw,BitVec.getLsbD_shiftLeft,BitVec.getLsbD_ofNat,Nat.testBit_two_pow_sub_one]
  by_cases h1:b≤c<;>by_cases h2:c < b + w<;>simp [h1,h2,hc]<;>omega
theorem Kq {x:Int} {w j:Nat} (h0:0≤x) (h1:x < 2 ^ w) (ht:x.toNat.testBit j=true):j < w:=by
  rcases Nat.lt_or_ge j w with h|h
  · exact h
  · have h2:x.toNat < 2 ^ w:=by
      have:((2 ^ w:Nat):Int)=(2:Int) ^ w:=by simp
      omega
    rw [Nat.testBit_lt_two_pow (Nat.lt_of_lt_of_le h2 (Nat.pow_le_pow_right (by omega) h))] at ht
    cases ht
theorem PkOk.field {vars:List Int} {p:Pkr} (h:PkOk vars p) {s:List Int} (hs:StateOk vars s) {i:Nat} {f:PFd} (hf:p.fields[i]?=some f):∃ (k b w:Nat) (n x:Int),f=⟨k,b,w,n⟩∧(k:Int) < p.words∧b + w≤64∧w≤6∧s[i]?=some x∧0≤x∧x < n∧x < 2 ^ w:=by
  obtain ⟨h1,⟨W,hW,_,_,h2⟩,h3⟩:=h
  have hi:=AC hf
  obtain ⟨n,hn⟩:=AD (l:=vars) (k:=i) (by omega)
  obtain ⟨x,hx⟩:=AD (l:=s) (k:=i) (by have:=hs.1;omega)
  obtain ⟨k,b,w,e,e1,e2,e3,e4⟩:=h2 i f n hf hn
  have:=hs.2 i x n hx hn
  exact ⟨k,b,w,n,x,e,by omega,e2,e3,hx,this.1,this.2,by omega⟩
theorem PkOk.same {vars:List Int} {p:Pkr} (h:PkOk vars p) {i j:Nat} {f g:PFd} {k c:Nat} (hf:p.fields[i]?=some f) (hg:p.fields[j]?=some g) (h1:f.word=(k:Int)∧f.bit≤(c:Int)∧(c:Int) < f.bit + f.width) (h2:g.word=(k:Int)∧g.bit≤(c:Int)∧(c:Int) < g.bit + g.width):i=j:=by
  rcases Nat.lt_trichotomy i j with hh|hh|hh
  · have:=h.2.2 i j f g hh hf hg;omega
  · exact hh
  · have:=h.2.2 j i g f hh hg hf;omega
theorem IZ {vars:List Int} {p:Pkr} (h:PkOk vars p) (hl:vars.length≤64) {s:List Int} (hs:StateOk vars s):∃ r,BE p s=some r∧r.2=⟨0⟩∧(r.1.length:Int)=p.words∧Bits p.fields s (fun _=>True) r.1:=by
  obtain ⟨W,hW,hW1,hW2,_⟩:=h.2.1
  unfold BE
  rw [if_neg (by have:=h.1;have:=hs.1;omega),hW,Gt (by omega) (by omega),An]
  refine Ho (fun m ws=>(ws.length:Int)=(W:Int)∧Bits p.fields s (fun i=>i < m) ws) (fun _=>False) ⟨by simp,?_⟩ ?_ ?_ (fun q hq=>hq.elim)
  · intro k c a ha _
    have:=List.eq_of_mem_replicate (List.mem_of_getElem? ha)
    subst this
    constructor
    · intro hh;simp at hh
    · rintro ⟨i,_,_,hi,_⟩;omega
  · rintro m f ws hm ⟨hwl,hb⟩
    refine .inl (Mt ?_)
    obtain ⟨k,b,w,n,x,rfl,hk,hbw,hw,hx,hx0,hxn,hxw⟩:=h.field hs hm
    dsimp only
    obtain ⟨a,ha⟩:=AD (l:=ws) (k:=k) (by omega)
    rw [hx,An,if_neg (by omega),An,if_neg (by omega),An,Dc,BR,ha,An,An]
    unfold shlU
    rw [if_pos (by omega),An,An]
    refine ⟨_,rfl,_,rfl,by simpa using hwl,?_⟩
    simp only [Int.toNat_natCast]
    have hxb:∀ c:Nat,c < 64→((a ||| (BitVec.ofInt 64 x <<< b)).getLsbD c=true↔a.getLsbD c=true∨(b≤c∧x.toNat.testBit (c - b)=true)):=by
      intro c hc
      have hofi:BitVec.ofInt 64 x=BitVec.ofNat 64 x.toNat:=by
        rw [← BitVec.ofInt_natCast,Int.toNat_of_nonneg hx0]
      rw [BitVec.getLsbD_or,BitVec.getLsbD_shiftLeft,hofi,BitVec.getLsbD_ofNat]
      by_cases h1:b≤c
      · have:c - b < 64:=by omega
        simp [hc,h1,this,Nat.not_lt.2 h1]
      · simp [hc,h1,Nat.lt_of_not_le h1]
    intro k' c a' ha' hc
    by_cases e:k=k'
    · subst e
      rw [List.getElem?_set_self (AC ha)] at ha'
      obtain rfl:=Option.some.inj ha'
      rw [hxb c hc,hb k c a ha hc]
      constructor
      · rintro (⟨i,f,y,hi,hr⟩|⟨h1,h2⟩)
        · exact ⟨i,f,y,by omega,hr⟩
        · have:=Kq hx0 hxw h2
          exact ⟨m,_,x,by omega,hm,hx,rfl,by dsimp only;omega,by dsimp only;omega,by simpa using h2⟩
      · rintro ⟨i,f,y,hi,hf,hy,hin⟩
        by_cases he:i=m
        · subst he
          rw [hm] at hf
          obtain rfl:=Option.some.inj hf
          rw [hx] at hy
          obtain rfl:=Option.some.inj hy
          obtain ⟨_,i2,i3,i4⟩:=hin
          dsimp only at i2 i3 i4
          exact .inr ⟨by omega,by simpa using i4⟩
        · exact .inl ⟨i,f,y,by omega,hf,hy,hin⟩
    · rw [List.getElem?_set_ne e] at ha'
      rw [hb k' c a' ha' hc]
      constructor
      · rintro ⟨i,f,y,hi,hr⟩;exact ⟨i,f,y,by omega,hr⟩
      · rintro ⟨i,f,y,hi,hf,hy,hin⟩
        by_cases he:i=m
        · subst he
          rw [hm] at hf
          obtain rfl:=Option.some.inj hf
          have:=hin.1
          dsimp only at this
          omega
        · exact ⟨i,f,y,by omega,hf,hy,hin⟩
  · rintro ws ⟨hwl,hb⟩
    refine ⟨_,rfl,rfl,hwl,fun k c a ha hc=>?_⟩
    rw [hb k c a ha hc]
    constructor
    · rintro ⟨i,f,x,_,hr⟩;exact ⟨i,f,x,trivial,hr⟩
    · rintro ⟨i,f,x,_,hf,hr⟩;exact ⟨i,f,x,AC hf,hf,hr⟩
theorem Mu {k b w:Nat} {n:Int}:Cz ⟨k,b,w,n⟩=some ((((1:U64) <<< w) - (1:U64)) <<< b):=by
  unfold Cz shlU
  dsimp only
  rw [if_pos (by omega),An,if_pos (by omega),An]
  simp
theorem QA {vars:List Int} {p:Pkr} (h:PkOk vars p) {s:List Int} (hs:StateOk vars s) {ws:List U64} (hwl:(ws.length:Int)=p.words) (hb:Bits p.fields s (fun _=>True) ws) {i:Nat} {f:PFd} {x:Int} (hf:p.fields[i]?=some f) (hx:s[i]?=some x):CS f ws=some x:=by
  obtain ⟨k,b,w,n,x',rfl,hk,hbw,hw,hx',hx0,hxn,hxw⟩:=h.field hs hf
  rw [hx] at hx'
  obtain rfl:=Option.some.inj hx'
  obtain ⟨a,ha⟩:=AD (l:=ws) (k:=k) (by omega)
  unfold CS
  dsimp only
  rw [BR,ha,An,Mu,An]
  unfold shrU
  rw [if_pos (by omega),An]
  have hval : (a &&& ((((1:U64) <<< w) - (1:U64)) <<< b)) >>> b=BitVec.ofNat 64 x.toNat:=by
    apply BitVec.eq_of_getLsbD_eq
    intro j hj
    rw [BitVec.getLsbD_ushiftRight,BitVec.getLsbD_and,BitVec.getLsbD_ofNat]
    by_cases hjb:b + j < 64
    · rw [LI hw hjb]
      by_cases hjw:j < w
      · have h1:=hb k (b + j) a ha hjb
        have h2:a.getLsbD (b + j)=x.toNat.testBit j:=by
          cases ht:x.toNat.testBit j with
          | true=>exact h1.2 ⟨i,_,x,trivial,hf,hx,rfl,by dsimp only;omega,by dsimp only;omega,by simpa using ht⟩
          | false =>
            cases hg:a.getLsbD (b + j) with
            | false=>rfl
            | true =>
              obtain ⟨i',f',x',_,hf',hx',hin⟩:=h1.1 hg
              have hii:=h.same (k:=k) (c:=b + j) hf hf' ⟨rfl,by dsimp only;omega,by dsimp only;omega⟩ ⟨hin.1,hin.2.1,hin.2.2.1⟩
              subst hii
              rw [hf] at hf'
              obtain rfl:=Option.some.inj hf'
              rw [hx] at hx'
              obtain rfl:=Option.some.inj hx'
              have:=hin.2.2.2
              simp at this
              rw [this] at ht
              cases ht
        rw [h2]
        simp [hj,hjw]
      · have hf0:x.toNat.testBit j=false:=by
          cases ht:x.toNat.testBit j with
          | false=>rfl
          | true=>exact absurd (Kq hx0 hxw ht) hjw
        simp [hf0,hjw]
    · have hf0:x.toNat.testBit j=false:=by
        cases ht:x.toNat.testBit j with
        | false=>rfl
        | true=>have:=Kq hx0 hxw ht;omega
      rw [BitVec.getLsbD_of_ge _ _ (by omega)]
      simp [hf0]
  have h64:(2:Int) ^ w≤64:=by
    have:w=0∨w=1∨w=2∨w=3∨w=4∨w=5∨w=6:=by omega
    rcases this with rfl|rfl|rfl|rfl|rfl|rfl|rfl<;>decide
  simp only [Int.toNat_natCast]
  rw [hval]
  congr 1
  rw [BitVec.toInt_eq_toNat_of_lt (by rw [BitVec.toNat_ofNat];omega),BitVec.toNat_ofNat]
  omega
theorem IG {vars:List Int} {p:Pkr} (h:PkOk vars p) (hl:vars.length≤64) {s:List Int} (hs:StateOk vars s) {ws:List U64} (hwl:(ws.length:Int)=p.words) (hb:Bits p.fields s (fun _=>True) ws):Cv p ws=some (s,⟨0⟩):=by
  obtain ⟨W,hW,hW1,hW2,_⟩:=h.2.1
  have hsl:=hs.1
  have hfl:=h.1
  unfold Cv
  rw [if_neg (by omega),Gt (by omega) (by omega),An]
  unfold BQ
  rw [if_pos (by omega),An]
  refine Mr (fun m st=>st.1.length=s.length∧(∀ (i:Nat) x,i < m→s[i]?=some x→st.1[i]?=some x)∧st.2.length=ws.length∧Bits p.fields s (fun i=>m≤i) st.2) ⟨by simp;omega,fun i x hi=>by omega,rfl,?_⟩ ?_ ?_
  · intro k c a ha hc
    rw [hb k c a ha hc]
    constructor
    · rintro ⟨i,f,x,_,hr⟩;exact ⟨i,f,x,by omega,hr⟩
    · rintro ⟨i,f,x,_,hr⟩;exact ⟨i,f,x,trivial,hr⟩
  · rintro m f ⟨out,rest⟩ hm ⟨i1,i2,i3,i4⟩
    dsimp only at i1 i2 i3 i4 ⊢
    obtain ⟨k,b,w,n,x,rfl,hk,hbw,hw,hx,hx0,hxn,hxw⟩:=h.field hs hm
    have hml:=AC hx
    obtain ⟨u,hu⟩:=AD (l:=out) (k:=m) (by omega)
    obtain ⟨a,ha⟩:=AD (l:=rest) (k:=k) (by omega)
    rw [QA h hs hwl hb hm hx,An,hu,An,List.getElem?_set_self (by omega),An]
    dsimp only
    rw [if_neg (by omega),BR,ha,An,Mu,An,An]
    refine ⟨_,rfl,by simpa using i1,fun i y hi hy=>?_,by simpa using i3,?_⟩
    · by_cases e:i=m
      · subst e
        rw [hx] at hy
        obtain rfl:=Option.some.inj hy
        exact List.getElem?_set_self (by omega)
      · show (out.set m x)[i]?=_
        rw [List.getElem?_set_ne (by omega)]
        exact i2 i y (by omega) hy
    · show Bits p.fields s _ (rest.set ((k:Int)).toNat _)
      simp only [Int.toNat_natCast]
      intro k' c a' ha' hc
      by_cases e:k=k'
      · subst e
        rw [List.getElem?_set_self (AC ha)] at ha'
        obtain rfl:=Option.some.inj ha'
        rw [BitVec.getLsbD_and,BitVec.getLsbD_not,LI hw hc]
        have h1:=i4 k c a ha hc
        constructor
        · intro hh
          simp only [Bool.and_eq_true,Bool.not_eq_true',decide_eq_true_eq] at hh
          obtain ⟨i,f,y,hi,hf,hy,hin⟩:=h1.1 hh.1
          refine ⟨i,f,y,?_,hf,hy,hin⟩
          rcases Nat.lt_or_ge m i with hlt|hge
          · exact hlt
          · exfalso
            obtain rfl:i=m:=by omega
            rw [hm] at hf
            obtain rfl:=Option.some.inj hf
            obtain ⟨_,j2,j3,_⟩:=hin
            dsimp only at j2 j3
            have h2:=hh.2.2
            rw [show decide (b≤c)=true from by simp;omega,show decide (c < b + w)=true from by simp;omega] at h2
            cases h2
        · rintro ⟨i,f,y,hi,hf,hy,hin⟩
          have hg:=h1.2 ⟨i,f,y,by omega,hf,hy,hin⟩
          have hno:¬ (b≤c∧c < b + w):=fun hh=>by
            have:=h.same (k:=k) (c:=c) hm hf ⟨rfl,by dsimp only;omega,by dsimp only;omega⟩ ⟨hin.1,hin.2.1,hin.2.2.1⟩
            omega
          rw [hg]
          by_cases q1:b≤c
          · have q2:¬ c < b + w:=fun hh=>hno ⟨q1,hh⟩
            simp [hc,q1,q2]
          · simp [hc,q1]
      · rw [List.getElem?_set_ne e] at ha'
        rw [i4 k' c a' ha' hc]
        constructor
        · rintro ⟨i,f,y,hi,hf,hy,hin⟩
          refine ⟨i,f,y,?_,hf,hy,hin⟩
          rcases Nat.lt_or_ge m i with hlt|hge
          · exact hlt
          · exfalso
            obtain rfl:i=m:=by omega
            rw [hm] at hf
            obtain rfl:=Option.some.inj hf
            have:=hin.1
            dsimp only at this
            omega
        · rintro ⟨i,f,y,hi,hr⟩;exact ⟨i,f,y,by omega,hr⟩
  · rintro ⟨out,rest⟩ ⟨i1,i2,i3,i4⟩
    dsimp only at i1 i2 i3 i4
    rw [Cr]
    dsimp only
    have hout:out=s:=by
      apply List.ext_getElem?
      intro i
      rcases Nat.lt_or_ge i s.length with hi|hi
      · obtain ⟨x,hx⟩:=AD (l:=s) (k:=i) hi
        rw [hx];exact i2 i x (by omega) hx
      · rw [List.getElem?_eq_none hi,List.getElem?_eq_none (by omega)]
    subst hout
    refine Mr (fun _ _=>True) trivial (fun k a _ hk _=>⟨(),?_,trivial⟩) (fun _ _=>rfl)
    obtain ⟨a',ha'⟩:=AD (l:=rest) (k:=k) (by have:=AC hk;omega)
    rw [ha',An]
    have hz:a'=0:=by
      apply BitVec.eq_of_getLsbD_eq
      intro c hc
      cases hg:a'.getLsbD c with
      | false=>simp
      | true =>
        obtain ⟨i,f,x,hi,hf,_⟩:=(i4 k c a' ha' hc).1 hg
        have:=AC hf
        omega
    subst hz
    rw [if_neg (by simp)]
theorem Ov {vars:List Int} {p:Pkr} (h:PkOk vars p) (hl:vars.length≤64) {s s':List Int} (hs:StateOk vars s) (hs':StateOk vars s') {ws:List U64} (h1:BE p s=some (ws,⟨0⟩)) (h2:BE p s'=some (ws,⟨0⟩)):s=s':=by
  obtain ⟨r,r1,r2,r3,r4⟩:=IZ h hl hs
  obtain ⟨q,q1,q2,q3,q4⟩:=IZ h hl hs'
  rw [h1] at r1
  rw [h2] at q1
  obtain rfl:=Option.some.inj r1
  obtain rfl:=Option.some.inj q1
  have e1:=IG h hl hs r3 r4
  have e2:=IG h hl hs' q3 q4
  rw [e1] at e2
  have:=Option.some.inj e2
  exact congrArg Prod.fst this
end
section
open Go Go.RowKit
theorem KM {K V:Type} [MKey K] (z:V) (k k':K) (v:V):∀ l:List (K×V),mget z (mput l k v) k'=if k=k' then v else mget z l k'
  | []=>by simp only [mput,mget]
  | p :: r=>by
    have ih:=KM z k k' v r
    simp only [mput]
    by_cases h1:p.1=k
    · rw [if_pos h1]
      simp only [mget]
      by_cases h2:k=k'
      · rw [if_pos h2,if_pos h2]
      · rw [if_neg h2,if_neg h2,if_neg (by rw [h1];exact h2)]
    · rw [if_neg h1]
      simp only [mget,ih]
      by_cases h2:k=k'
      · rw [if_pos h2,if_pos h2,if_neg (by rw [← h2];exact h1)]
      · rw [if_neg h2,if_neg h2]
theorem NB (p:Pkr) (ws:List U64):∃ h,BS p ws=some h:=by
  have:∃ r,BS p ws=some r∧True:=by
    unfold BS
    refine Ho (fun _ _=>True) (fun _=>False) trivial (fun i x s _ _=>.inl ?_) (fun s _=>?_) (fun q hq=>hq.elim)
    · exact ⟨_,rfl,trivial⟩
    · exact ⟨_,rfl,trivial⟩
  obtain ⟨h,h1,_⟩:=this
  exact ⟨h,h1⟩
theorem QB (a b:List U64):Bv a b=some (decide (a=b)):=by
  unfold Bv
  by_cases hl:(a.length:Int)=(b.length:Int)
  · rw [if_neg (by omega)]
    have:∃ r,(bnd (rng (ρ:=Bool) (fun (k18:Nat) (a19:U64) (_:Unit)=>bnd (b[k18]?) fun a36=>if (a19.toNat:Int)≠(a36.toNat:Int) then (some (.ret false)) else (some (.next ()))) a 0 ()) fun res14=>fin res14 fun (_:Unit)=>some true)=some r∧r=decide (a=b):=by
      refine Ho (fun m _=>∀ (i:Nat),i < m→a[i]?=b[i]?) (fun r=>r=false∧a≠b) (fun i hi=>by omega) ?_ ?_ ?_
      · intro i x _ hx hI
        obtain ⟨y,hy⟩:=AD (l:=b) (k:=i) (by have:=AC hx;omega)
        rw [hy,An]
        by_cases he:x=y
        · subst he
          rw [if_neg (by simp)]
          refine .inl ⟨(),rfl,fun j hj=>?_⟩
          by_cases e:j=i
          · subst e;rw [hx,hy]
          · exact hI j (by omega)
        · rw [if_pos (fun h=>he (BitVec.eq_of_toNat_eq (by omega)))]
          refine .inr ⟨_,rfl,rfl,fun h=>he ?_⟩
          rw [h,hy] at hx
          exact (Option.some.inj hx).symm
      · intro _ hI
        refine ⟨_,rfl,?_⟩
        symm
        rw [decide_eq_true_eq]
        apply List.ext_getElem?
        intro i
        rcases Nat.lt_or_ge i a.length with h|h
        · exact hI i h
        · rw [List.getElem?_eq_none h,List.getElem?_eq_none (by omega)]
      · rintro q ⟨rfl,hne⟩
        exact ⟨_,rfl,by simp [hne]⟩
    obtain ⟨r,h1,h2⟩:=this
    rw [h1,h2]
  · rw [if_pos hl]
    congr 1
    symm
    rw [decide_eq_false_iff_not]
    exact fun h=>hl (by rw [h])
structure RegI (vars:List Int) (r:Reg) (L:List (List Int)):Prop where
  pk:PkOk vars r.packer
  len:r.entries.length=L.length
  st:∀ (i:Nat) s,L[i]?=some s→StateOk vars s
  words:∀ (i:Nat) s e,L[i]?=some s→r.entries[i]?=some e→BE r.packer s=some (e.words,⟨0⟩)
  nodup:∀ (i j:Nat) s,L[i]?=some s→L[j]?=some s→i=j
  tab:∀ (i:Nat) e,r.entries[i]?=some e→∃ h,BS r.packer e.words=some h∧(i:Int)∈mget ([]:List Int) r.table.l h
  val:∀ h a,a∈mget ([]:List Int) r.table.l h→∃ i:Nat,a=(i:Int)∧i < L.length
  few:∀ h,(mget ([]:List Int) r.table.l h).length≤L.length
def links (r:Reg):List RLk:=r.entries.map (·.link)
theorem NC {vars:List Int} (hl:vars.length≤64) (hv:∀ (i:Nat) n,vars[i]?=some n→1≤n∧n≤64):∃ r,CV vars=some r∧∃ q,r=(some q,⟨0⟩)∧RegI vars q []∧links q=[]:=by
  obtain ⟨r,h1,p,rfl,hp⟩:=MQ hl hv
  unfold CV
  rw [h1,An,if_neg (by simp),An]
  exact ⟨_,rfl,_,rfl,⟨hp,rfl,fun i s h=>by simp at h,fun i s e h=>by simp at h,fun i j s h=>by simp at h,fun i e h=>by simp at h,fun h a ha=>by simp [mget] at ha,fun h=>by simp [mget]⟩,rfl⟩
theorem MR {vars:List Int} (hl:vars.length≤64) {r:Reg} {L:List (List Int)} (h:RegI vars r L) {s:List Int} (hs:StateOk vars s):∃ (ws:List U64) (hh:Int),BE r.packer s=some (ws,⟨0⟩)∧BS r.packer ws=some hh ∧
    ((∃ i:Nat,L[i]?=some s∧Bq r s=some (ws,hh,(i:Int),⟨0⟩))∨((∀ i:Nat,L[i]?≠some s)∧Bq r s=some (ws,hh,-1,⟨0⟩))):=by
  obtain ⟨⟨ws,er⟩,p1,p2,p3,p4⟩:=IZ h.pk hl hs
  dsimp only at p2 p3 p4
  subst p2
  obtain ⟨hh,hhe⟩:=NB r.packer ws
  refine ⟨ws,hh,p1,hhe,?_⟩
  have key:∃ res,Bq r s=some res∧((∃ i:Nat,L[i]?=some s∧res=(ws,hh,(i:Int),⟨0⟩))∨((∀ i:Nat,L[i]?≠some s)∧res=(ws,hh,-1,⟨0⟩))):=by
    unfold Bq
    rw [p1,An,if_neg (by simp),hhe,An]
    refine Ho (fun m _=>∀ (j:Nat) (i:Nat),j < m→(mget ([]:List Int) r.table.l hh)[j]?=some (i:Int)→L[i]?≠some s) (fun res=>∃ i:Nat,L[i]?=some s∧res=(ws,hh,(i:Int),⟨0⟩)) (fun j i hj=>by omega) ?_ ?_ ?_
    · intro m a _ hm hI
      obtain ⟨i,rfl,hi⟩:=h.val hh a (List.mem_of_getElem? hm)
      obtain ⟨e,he⟩:=AD (l:=r.entries) (k:=i) (by rw [h.len];exact hi)
      obtain ⟨s',hs'⟩:=AD (l:=L) (k:=i) hi
      have hw:=h.words i s' e hs' he
      rw [BR,he,An,QB,An]
      by_cases hew:e.words=ws
      · rw [decide_eq_true hew,DN]
        rw [hew] at hw
        have:=Ov h.pk hl (h.st i s' hs') hs hw p1
        subst this
        exact .inr ⟨_,rfl,i,hs',rfl⟩
      · rw [decide_eq_false hew,Dc]
        refine .inl ⟨(),rfl,fun j i' hj hi'=>?_⟩
        by_cases e1:j=m
        · subst e1
          rw [hm] at hi'
          have e2:i=i':=by have:=Option.some.inj hi';omega
          subst e2
          intro hL
          rw [hL] at hs'
          obtain rfl:=Option.some.inj hs'
          rw [p1] at hw
          exact hew (congrArg Prod.fst (Option.some.inj hw)).symm
        · exact hI j i' (by omega) hi'
    · intro _ hI
      refine ⟨_,rfl,.inr ⟨fun i hL=>?_,rfl⟩⟩
      obtain ⟨e,he⟩:=AD (l:=r.entries) (k:=i) (by rw [h.len];exact AC hL)
      have hw:=h.words i s e hL he
      rw [p1] at hw
      have hwe:ws=e.words:=congrArg Prod.fst (Option.some.inj hw)
      obtain ⟨h',t1,t2⟩:=h.tab i e he
      rw [← hwe,hhe] at t1
      obtain rfl:=Option.some.inj t1
      obtain ⟨j,hj⟩:=List.getElem?_of_mem t2
      exact hI j i (AC hj) hj hL
    · rintro q ⟨i,hi,rfl⟩
      exact ⟨_,rfl,.inl ⟨i,hi,rfl⟩⟩
  obtain ⟨res,k1,k2⟩:=key
  rcases k2 with ⟨i,hi,rfl⟩|⟨hn,rfl⟩
  · exact .inl ⟨i,hi,k1⟩
  · exact .inr ⟨hn,k1⟩
theorem KN {vars:List Int} (hl:vars.length≤64) {r:Reg} {L:List (List Int)} (h:RegI vars r L) {s:List Int} (hs:StateOk vars s) (hL:L.length < 65536) :
    (∃ i:Nat,L[i]?=some s∧Bj r s=some ((i:Int),false,⟨0⟩,r))∨((∀ i:Nat,L[i]?≠some s)∧∃ r',Bj r s=some ((L.length:Int),true,⟨0⟩,r')∧RegI vars r' (L ++ [s])∧links r'=links r ++ [⟨-1,-1,0⟩]):=by
  obtain ⟨ws,hh,p1,p2,hf⟩:=MR hl h hs
  unfold Bj
  have hlen:=h.len
  rcases hf with ⟨i,hi,hf⟩|⟨hno,hf⟩
  · refine .inl ⟨i,hi,?_⟩
    rw [hf,An,if_neg (by simp),if_pos (by dsimp only;omega)]
  · refine .inr ⟨hno,?_⟩
    have hfew:=h.few hh
    rw [hf,An,if_neg (by simp),if_neg (by dsimp only;omega),if_neg (by omega)]
    dsimp only
    rw [Cp (by simp;omega) (by simp;omega),An,Cp (by simp;omega) (by simp;omega),An,hlen]
    have hget:∀ k,mget ([]:List Int) (mput r.table.l hh (mget ([]:List Int) r.table.l hh ++ [(L.length:Int)])) k=if hh=k then mget ([]:List Int) r.table.l hh ++ [(L.length:Int)] else mget ([]:List Int) r.table.l k:=fun k=>KM _ _ _ _ _
    refine ⟨_,rfl,⟨h.pk,by simp [hlen],?_,?_,?_,?_,?_,?_⟩,by simp [links]⟩
    · intro i s' hi
      rcases DC hi with hi|⟨_,rfl⟩
      · exact h.st i s' hi
      · exact hs
    · intro i s' e hi he
      rcases DC hi with hi|⟨hi,rfl⟩
      · rcases DC he with he|⟨he,_⟩
        · exact h.words i s' e hi he
        · have:=AC hi;omega
      · rcases DC he with he|⟨he,rfl⟩
        · have:=AC he;omega
        · exact p1
    · intro i j s' hi hj
      rcases DC hi with hi2|⟨hi2,hs2⟩
      · rcases DC hj with hj2|⟨hj2,hs2⟩
        · exact h.nodup i j s' hi2 hj2
        · exact absurd (hs2 ▸ hi2) (hno i)
      · rcases DC hj with hj2|⟨hj2,_⟩
        · exact absurd (hs2 ▸ hj2) (hno j)
        · omega
    · intro i e he
      rcases DC he with he|⟨hi,rfl⟩
      · obtain ⟨k,k1,k2⟩:=h.tab i e he
        refine ⟨k,k1,?_⟩
        dsimp only
        rw [hget]
        by_cases e1:hh=k
        · subst e1;rw [if_pos rfl];exact List.mem_append_left _ k2
        · rw [if_neg e1];exact k2
      · refine ⟨hh,p2,?_⟩
        dsimp only
        rw [hget,if_pos rfl,hi,hlen]
        simp
    · intro k a ha
      dsimp only at ha
      rw [hget] at ha
      simp only [List.length_append,List.length_singleton]
      by_cases e1:hh=k
      · rw [if_pos e1] at ha
        rcases List.mem_append.1 ha with ha|ha
        · obtain ⟨i,h1,h2⟩:=h.val hh a ha;exact ⟨i,h1,by omega⟩
        · exact ⟨L.length,by simpa using ha,by omega⟩
      · rw [if_neg e1] at ha
        obtain ⟨i,h1,h2⟩:=h.val k a ha;exact ⟨i,h1,by omega⟩
    · intro k
      dsimp only
      rw [hget]
      have:=h.few k
      simp only [List.length_append,List.length_singleton]
      by_cases e1:hh=k
      · rw [if_pos e1];simp;omega
      · rw [if_neg e1];omega
theorem ND {vars:List Int} {r:Reg} {L:List (List Int)} (h:RegI vars r L) {i:Nat} (hi:i < L.length):Cc r (i:Int)=some true:=by
  unfold Cc
  rw [if_pos (by omega),if_pos (by rw [h.len];omega)]
  rfl
theorem Jl {vars:List Int} (hl:vars.length≤64) {r:Reg} {L:List (List Int)} (h:RegI vars r L) {i:Nat} {s:List Int} (hi:L[i]?=some s):Bp r (i:Int)=some (s,⟨0⟩):=by
  obtain ⟨e,he⟩:=AD (l:=r.entries) (k:=i) (by rw [h.len];exact AC hi)
  have hs:=h.st i s hi
  obtain ⟨⟨ws,er⟩,p1,p2,p3,p4⟩:=IZ h.pk hl hs
  have hw:=h.words i s e hi he
  rw [p1] at hw
  have hwe:ws=e.words:=congrArg Prod.fst (Option.some.inj hw)
  dsimp only at p3 p4
  rw [hwe] at p3 p4
  unfold Bp
  rw [ND h (AC hi),An,DN,BR,he,An,IG h.pk hl hs p3 p4,An]
end
section
open Go Go.RowKit
inductive Rch (t:Tsk):List Int→Prop
  | init:Rch t t.init
  | step {s:List Int} {k:Nat} {o:Opr}:Rch t s→t.ops[k]?=some o→holdsB o.pre s=true→Rch t (succ o s)
theorem Rch.ok {t:Tsk} (h:TaskOk t) {s:List Int} (hr:Rch t s):StateOk t.vars s:=by
  induction hr with
  | init=>exact h.2.2.2.1
  | step _ ho _ ih=>exact Hk h ih ho
end
section
open Go Go.RowKit
theorem GV {α:Type} [DecidableEq α]:∀ {a b:List α},a.Nodup→(∀ x∈a,x∈b)→a.length≤b.length
  | [],_,_,_=>Nat.zero_le _
  | x :: a,b,hn,hs=>by
    have hx:=hs x List.mem_cons_self
    have h1:=GV (a:=a) (b:=b.erase x) (List.nodup_cons.1 hn).2 fun y hy=>(List.mem_erase_of_ne (fun e=>(List.nodup_cons.1 hn).1 (by rw [← e];exact hy))).2 (hs y (List.mem_cons_of_mem _ hy))
    have h2:=List.length_erase_of_mem hx
    have h3:=List.length_pos_of_mem hx
    simp only [List.length_cons]
    omega
theorem Ox {L:List (List Int)} (h:∀ (i j:Nat) s,L[i]?=some s→L[j]?=some s→i=j):L.Nodup:=by
  rw [List.nodup_iff_pairwise_ne,List.pairwise_iff_getElem]
  intro i j hi hj hij he
  have:=h i j L[i] (List.getElem?_eq_getElem hi) (by rw [he];exact List.getElem?_eq_getElem hj)
  omega
end
section
open Go Go.RowKit
def appB (t:Tsk) (s:List Int) (k:Nat):Bool:=match t.ops[k]? with|some o=>holdsB o.pre s|none=>false
def appN (t:Tsk) (s:List Int) (m:Nat):List Nat:=(List.range m).filter (appB t s)
def sucN (t:Tsk) (s:List Int) (k:Nat):List Int:=match t.ops[k]? with|some o=>succ o s|none=>s
theorem NE (t:Tsk) (s:List Int):appl t s=(appN t s t.ops.length).map fun k:Nat=>(k:Int):=rfl
theorem DX {t:Tsk} {s:List Int} {k:Nat} (h:appB t s k=true):∃ o,t.ops[k]?=some o∧holdsB o.pre s=true∧sucN t s k=succ o s:=by
  unfold appB at h
  cases ho:t.ops[k]? with
  | none=>rw [ho] at h;cases h
  | some o=>rw [ho] at h;exact ⟨o,rfl,h,by unfold sucN;rw [ho]⟩
theorem Kr {t:Tsk} {s:List Int} {k:Nat} {o:Opr} (ho:t.ops[k]?=some o):appB t s k=holdsB o.pre s∧sucN t s k=succ o s:=by unfold appB sucN;rw [ho];exact ⟨rfl,rfl⟩
end
section
set_option linter.unusedVariables false
set_option linter.unusedSimpArgs false
open Go Go.RowKit
def putL (L:List (List Int)) (s:List Int):List (List Int):=if s∈L then L else L ++ [s]
def foldP (t:Tsk) (s:List Int) (L:List (List Int)) (ks:List Nat):List (List Int):=ks.foldl (fun L k=>putL L (sucN t s k)) L
def expL (t:Tsk) (s:List Int) (L:List (List Int)) (m:Nat):List (List Int):=foldP t s L (appN t s m)
theorem NF (t:Tsk) (s:List Int) (m:Nat):appN t s (m + 1)=appN t s m ++ if appB t s m=true then [m] else []:=by
  unfold appN
  rw [List.range_succ,List.filter_append]
  by_cases h:appB t s m=true<;>simp [h]
theorem NG (t:Tsk) (s:List Int) (L:List (List Int)) (m:Nat):expL t s L (m + 1)=if appB t s m=true then putL (expL t s L m) (sucN t s m) else expL t s L m:=by
  unfold expL foldP
  rw [NF,List.foldl_append]
  by_cases h:appB t s m=true
  · rw [if_pos h,if_pos h];rfl
  · rw [if_neg h,if_neg h];rfl
theorem LJ (L:List (List Int)) (s:List Int):∃ A,putL L s=L ++ A:=by
  unfold putL
  split
  · exact ⟨[],by simp⟩
  · exact ⟨[s],rfl⟩
theorem Oy (L:List (List Int)) (s:List Int):s∈putL L s:=by
  unfold putL
  split
  · assumption
  · simp
theorem Ep (t:Tsk) (s:List Int):∀ (ks:List Nat) (L:List (List Int)),∃ A,foldP t s L ks=L ++ A
  | [],L=>⟨[],by simp [foldP]⟩
  | k :: ks,L=>by
    obtain ⟨A,hA⟩:=LJ L (sucN t s k)
    obtain ⟨B,hB⟩:=Ep t s ks (putL L (sucN t s k))
    exact ⟨A ++ B,by rw [← List.append_assoc,← hA,← hB];rfl⟩
theorem Kc (t:Tsk) (s:List Int) (L:List (List Int)) (ks:List Nat) (k:Nat):foldP t s L (ks ++ [k])=putL (foldP t s L ks) (sucN t s k):=by unfold foldP;rw [List.foldl_append];rfl
theorem IH (t:Tsk) (s:List Int):∀ (ks:List Nat) (L:List (List Int)) (k:Nat),k∈ks→sucN t s k∈foldP t s L ks
  | [],_,_,h=>by simp at h
  | q :: ks,L,k,h=>by
    rcases List.mem_cons.1 h with rfl|h
    · obtain ⟨B,hB⟩:=Ep t s ks (putL L (sucN t s k))
      show _∈foldP t s (putL L (sucN t s k)) ks
      rw [hB];exact List.mem_append_left _ (Oy _ _)
    · exact IH t s ks _ k h
structure BL (t:Tsk) (L:List (List Int)):Prop where
  root:L[0]?=some t.init
  nodup:L.Nodup
  rch:∀ s∈L,Rch t s
theorem Hr (t:Tsk):BL t [t.init]:=⟨rfl,by simp,fun s h=>by simp at h;rw [h];exact .init⟩
theorem BL.ok {t:Tsk} {L:List (List Int)} (h:BL t L) (hok:TaskOk t) {s:List Int} (hs:s∈L):StateOk t.vars s:=(h.rch s hs).ok hok
theorem BL.few {t:Tsk} {L:List (List Int)} (h:BL t L) (hs:Mid t):L.length≤600:=Nat.le_trans (GV h.nodup fun s hm=>CG.2 (h.ok hs.ok hm)) hs.many
theorem BL.many {t:Tsk} {L:List (List Int)} (h:BL t L) (hok:TaskOk t):L.length≤(statesL t.vars).length:=GV h.nodup fun s hm=>CG.2 (h.ok hok hm)
theorem BL.put {t:Tsk} {L:List (List Int)} (h:BL t L) {s:List Int} (hs:s∈L) {k:Nat} (hk:appB t s k=true):BL t (putL L (sucN t s k)):=by
  unfold putL
  by_cases hm:sucN t s k∈L
  · rw [if_pos hm];exact h
  · rw [if_neg hm]
    obtain ⟨o,ho,hp,hsu⟩:=DX hk
    refine ⟨?_,?_,fun u hu=>?_⟩
    · rw [List.getElem?_append_left (AC h.root)];exact h.root
    · rw [List.nodup_append]
      refine ⟨h.nodup,by simp,fun a ha b hb=>?_⟩
      simp at hb
      rintro rfl
      exact hm (hb ▸ ha)
    · rcases List.mem_append.1 hu with hu|hu
      · exact h.rch u hu
      · simp at hu;rw [hu,hsu];exact (h.rch s hs).step ho hp
theorem BL.fold {t:Tsk} {s:List Int}:∀ {ks:List Nat} {L:List (List Int)},BL t L→s∈L→(∀ k∈ks,appB t s k=true)→BL t (foldP t s L ks)
  | [],_,h,_,_=>h
  | k :: ks,L,h,hs,hk=>by
    obtain ⟨A,hA⟩:=LJ L (sucN t s k)
    exact BL.fold (L:=putL L (sucN t s k)) (h.put hs (hk k List.mem_cons_self)) (by rw [hA];exact List.mem_append_left _ hs) fun q hq=>hk q (List.mem_cons_of_mem _ hq)
theorem FM {t:Tsk} {s:List Int} {m k:Nat} (h:k∈appN t s m):appB t s k=true∧k < m:=by
  unfold appN at h
  obtain ⟨h1,h2⟩:=List.mem_filter.1 h
  exact ⟨h2,List.mem_range.1 h1⟩
theorem LK {t:Tsk} {s:List Int} {m k:Nat} (h:appB t s k=true) (hk:k < m):k∈appN t s m:=List.mem_filter.2 ⟨List.mem_range.2 hk,h⟩
theorem BL.exp {t:Tsk} {s:List Int} {L:List (List Int)} (h:BL t L) (hs:s∈L) (m:Nat):BL t (expL t s L m):=h.fold hs fun k hk=>(FM hk).1
def CloL (t:Tsk) (i:Nat) (L:List (List Int)):Prop:=∀ (j:Nat) s k,j < i→L[j]?=some s→appB t s k=true→sucN t s k∈L
theorem CloL.exp {t:Tsk} {i:Nat} {L:List (List Int)} (h:CloL t i L) {s:List Int} (hs:L[i]?=some s):CloL t (i + 1) (expL t s L t.ops.length):=fun j u k hj hu hk=>by
  obtain ⟨A,hA⟩:=Ep t s (appN t s t.ops.length) L
  have hi:=AC hs
  have e:expL t s L t.ops.length=L ++ A:=hA
  rw [e,List.getElem?_append_left (by omega)] at hu
  by_cases e2:j=i
  · subst e2
    rw [hs] at hu
    obtain rfl:=Option.some.inj hu
    obtain ⟨o,ho,_⟩:=DX hk
    exact IH t s _ _ k (LK hk (AC ho))
  · rw [e];exact List.mem_append_left _ (h j u k (by omega) hu hk)
inductive Bx (t:Tsk) (lim:Int):Nat→List (List Int)→Option (List (List Int))→Prop
  | full {i:Nat} {L:List (List Int)}:lim < (L.length:Int)→Bx t lim i L none
  | done {i:Nat} {L:List (List Int)}:(L.length:Int)≤lim→L.length≤i→Bx t lim i L (some L)
  | step {i:Nat} {L:List (List Int)} {s:List Int} {r:Option (List (List Int))}:(L.length:Int)≤lim→L[i]?=some s→Bx t lim (i + 1) (expL t s L t.ops.length) r→Bx t lim i L r
theorem Pc {t:Tsk} (hs:Mid t) (lim:Int):∀ (n i:Nat) (L:List (List Int)),601 - i < n→BL t L→∃ r,Bx t lim i L r
  | 0,_,_,h,_=>absurd h (by omega)
  | n + 1,i,L,h,hL=>by
    by_cases h1:lim < (L.length:Int)
    · exact ⟨_,.full h1⟩
    · by_cases h2:L.length≤i
      · exact ⟨_,.done (by omega) h2⟩
      · have hf:=hL.few hs
        obtain ⟨s,hs'⟩:=AD (l:=L) (k:=i) (by omega)
        obtain ⟨r,hr⟩:=Pc hs lim n (i + 1) (expL t s L t.ops.length) (by omega) (hL.exp (List.mem_of_getElem? hs') _)
        exact ⟨r,.step (by omega) hs' hr⟩
structure EndL (t:Tsk) (lim:Int) (L:List (List Int)):Prop where
  bl:BL t L
  clo:CloL t L.length L
  few:(L.length:Int)≤lim
theorem Bx.ends {t:Tsk} {lim:Int} {i:Nat} {L:List (List Int)} {r:Option (List (List Int))} (h:Bx t lim i L r):BL t L→CloL t i L→∀ L',r=some L'→EndL t lim L':=by
  induction h with
  | full _=>intro _ _ _ h;cases h
  | done h1 h2=>intro hb hc L' h;cases h;exact ⟨hb,fun j s k hj hs hk=>hc j s k (by omega) hs hk,h1⟩
  | @step i L s r h1 h2 _ ih =>
    intro hb hc L' h
    exact ih (hb.exp (List.mem_of_getElem? h2) _) (hc.exp h2) L' h
def idxE (L:List (List Int)) (s:List Int):Int:=(L.idxOf s:Int)
def edgK (t:Tsk) (L:List (List Int)) (s:List Int) (i:Nat) (ks:List Nat):List Edj:=ks.map fun k:Nat=>(⟨(i:Int),(k:Int),idxE L (sucN t s k)⟩:Edj)
def edgL (t:Tsk) (L:List (List Int)) (i:Nat):List Edj:=(List.range i).flatMap fun j=>match L[j]? with|some s=>edgK t L s j (appN t s t.ops.length)|none=>[]
theorem Oz {L A:List (List Int)} {s:List Int} (h:s∈L):idxE (L ++ A) s=idxE L s:=by unfold idxE;rw [List.idxOf_append,if_pos h]
theorem OA {L:List (List Int)} {s:List Int} (h:¬ s∈L):idxE (L ++ [s]) s=(L.length:Int):=by unfold idxE;rw [List.idxOf_append,if_neg h];simp
theorem Gk {L:List (List Int)} {s:List Int} (h:s∈L):∃ i:Nat,idxE L s=(i:Int)∧L[i]?=some s:=⟨L.idxOf s,rfl,by rw [List.getElem?_eq_getElem (List.idxOf_lt_length_of_mem h),List.getElem_idxOf]⟩
theorem OB {α:Type} {L:List α} (hn:L.Nodup) {i j:Nat} {s:α} (h1:L[i]?=some s) (h2:L[j]?=some s):i=j:=by
  obtain ⟨a1,b1⟩:=List.getElem?_eq_some_iff.1 h1
  obtain ⟨a2,b2⟩:=List.getElem?_eq_some_iff.1 h2
  rcases Nat.lt_trichotomy i j with h|h|h
  · exact ((List.pairwise_iff_getElem.1 hn) i j a1 a2 h (by rw [b1,b2])).elim
  · exact h
  · exact ((List.pairwise_iff_getElem.1 hn) j i a2 a1 h (by rw [b1,b2])).elim
theorem QC {L:List (List Int)} (hn:L.Nodup) {i:Nat} {s:List Int} (h:L[i]?=some s):idxE L s=(i:Int):=by
  obtain ⟨j,h1,h2⟩:=Gk (List.mem_of_getElem? h)
  rw [h1,OB hn h2 h]
theorem LL {t:Tsk} {L A:List (List Int)} {s:List Int} {i:Nat} {ks:List Nat} (h:∀ k∈ks,sucN t s k∈L):edgK t (L ++ A) s i ks=edgK t L s i ks:=by
  unfold edgK
  exact List.map_congr_left fun k hk=>by rw [Oz (h k hk)]
theorem Ks {α β:Type} {l:List α} {f g:α→List β} (h:∀ a∈l,f a=g a):l.flatMap f=l.flatMap g:=by
  induction l with
  | nil=>rfl
  | cons a l ih=>rw [List.flatMap_cons,List.flatMap_cons,h a List.mem_cons_self,ih fun b hb=>h b (List.mem_cons_of_mem _ hb)]
theorem OC {t:Tsk} {L A:List (List Int)} {i:Nat} (hi:i≤L.length) (h:CloL t i L):edgL t (L ++ A) i=edgL t L i:=by
  unfold edgL
  refine Ks fun j hj=>?_
  have hji:=List.mem_range.1 hj
  obtain ⟨s,hs⟩:=AD (l:=L) (k:=j) (by omega)
  rw [List.getElem?_append_left (by omega),hs]
  exact LL fun k hk=>h j s k hji hs (FM hk).1
theorem KO {t:Tsk} {L:List (List Int)} {i:Nat} {s:List Int} (hs:L[i]?=some s):edgL t L (i + 1)=edgL t L i ++ edgK t L s i (appN t s t.ops.length):=by
  unfold edgL
  rw [List.range_succ,List.flatMap_append,List.flatMap_singleton,hs]
theorem HL {t:Tsk} {L:List (List Int)} {i:Nat} {e:Edj}:e∈edgL t L i↔∃ (j k:Nat) (s:List Int),j < i∧L[j]?=some s∧appB t s k=true∧e=⟨(j:Int),(k:Int),idxE L (sucN t s k)⟩:=by
  unfold edgL
  rw [List.mem_flatMap]
  constructor
  · rintro ⟨j,hj,he⟩
    cases hs:L[j]? with
    | none=>rw [hs] at he;simp at he
    | some s =>
      rw [hs] at he
      obtain ⟨k,hk,rfl⟩:=List.mem_map.1 he
      exact ⟨j,k,s,List.mem_range.1 hj,hs,(FM hk).1,rfl⟩
  · rintro ⟨j,k,s,hj,hs,hk,rfl⟩
    refine ⟨j,List.mem_range.2 hj,?_⟩
    rw [hs]
    obtain ⟨o,ho,_⟩:=DX hk
    exact List.mem_map.2 ⟨k,LK hk (AC ho),rfl⟩
theorem JF (t:Tsk) (s:List Int) (m:Nat):(appN t s m).length≤m:=by
  unfold appN
  exact Nat.le_trans (List.length_filter_le _ _) (by simp)
theorem GD (t:Tsk) (L:List (List Int)):∀ (i:Nat),(edgL t L i).length≤i * t.ops.length
  | 0=>by simp [edgL]
  | i + 1=>by
    have h:=GD t L i
    unfold edgL at h ⊢
    rw [List.range_succ,List.flatMap_append,List.flatMap_singleton,List.length_append,Nat.succ_mul]
    have:(match L[i]? with|some s=>edgK t L s i (appN t s t.ops.length)|none=>[]).length≤t.ops.length:=by
      cases L[i]? with
      | none=>simp
      | some s=>dsimp only;unfold edgK;rw [List.length_map];exact JF _ _ _
    omega
theorem EndL.edges {t:Tsk} {lim:Int} {L:List (List Int)} (h:EndL t lim L) (hs:Mid t):EdgesOk t L.length (edgL t L L.length):=by
  have hf:=h.bl.few hs
  refine ⟨fun e he=>?_,?_⟩
  · obtain ⟨j,k,s,hj,hsj,hk,rfl⟩:=HL.1 he
    obtain ⟨i,h1,h2⟩:=Gk (h.clo j s k hj hsj hk)
    obtain ⟨o,ho,_⟩:=DX hk
    have:=AC h2
    have:=AC ho
    rw [h1]
    dsimp only;omega
  · have h1:=GD t L L.length
    have h2:=hs.ops
    have:L.length * t.ops.length≤600 * 80:=Nat.mul_le_mul hf h2
    omega
-- the document
theorem OD (L:List (List Int)) (s:List Int):Em L s=some (if s∈L then idxE L s else -1):=by
  have key:∃ r,Em L s=some r∧r=(if s∈L then idxE L s else -1):=by
    unfold Em
    refine Ho (fun k _=>¬ s∈L.take k) (fun r=>s∈L∧r=idxE L s) (by simp) (fun k a u hk hI=>?_) (fun u hI=>⟨_,rfl,?_⟩) (fun r hr=>⟨_,rfl,?_⟩)
    · unfold EA
      rw [An]
      by_cases e:a=s
      · rw [Ce e,DN]
        subst e
        refine .inr ⟨_,rfl,List.mem_of_getElem? hk,?_⟩
        have hk2:=AC hk
        have:L=L.take k ++ (a :: L.drop (k + 1)):=by
          have h2:=List.drop_eq_getElem_cons hk2
          rw [(List.getElem?_eq_some_iff.1 hk).2] at h2
          rw [← h2,List.take_append_drop]
        unfold idxE
        rw [this,List.idxOf_append,if_neg hI]
        simp;omega
      · rw [Bk e,Dc]
        refine .inl ⟨(),rfl,fun hm=>?_⟩
        rcases (GB hk).1 hm with hm|rfl
        · exact hI hm
        · exact e rfl
    · rw [List.take_length] at hI;rw [if_neg hI]
    · rw [if_pos hr.1];exact hr.2
  obtain ⟨r,h1,h2⟩:=key
  rw [h1,h2]
theorem OE (L:List (List Int)) (s:List Int):0≤idxE L s:=by unfold idxE;omega
abbrev LN:=List (List Int)×Int
noncomputable def rstF (x0:Tsk) (q25:Int):LN→Option (Ctl LN ((List (List Int))×Bool)):=fun s60=>bnd (if s60.2 < (s60.1.length:Int) then (if (s60.1.length:Int)≤q25 then (some true) else (some false)) else (some false):Option Bool) fun y79=>if y79=true then (bnd (rng (ρ:=Ctl LN ((List (List Int))×Bool)) (fun (k100:Nat) (a101:Opr) (s98:(List (List Int)))=>bnd (atI s98 s60.2) fun a115=>bnd (Cx x0 a115 (k100:Int)) fun q130=>bnd (if q130.2=true then (bnd (Em s98 q130.1) fun q148=>if q148 < 0 then (some true) else (some false)) else (some false):Option Bool) fun y143=>if y143=true then (bnd (appI 24 s98 [q130.1]) fun u162=>some (.next u162)) else (some (.next s98))) x0.ops 0 s60.1) fun res96=>fin res96 fun (s178:(List (List Int)))=>bnd (chkI (s60.2 + 1)) fun n180=>some (.next (s178,n180))) else (some (.brk (s60.1,s60.2)))
noncomputable def rstE (q25:Int):Fin LN ((List (List Int))×Bool)→Option ((List (List Int))×Bool):=fun res58=>fin res58 fun (s187:LN)=>bnd (if (s187.1.length:Int)≤q25 then (some true) else (some false):Option Bool) fun y189=>some (s187.1,y189)
theorem PC (x0:Tsk) (x1:Int):FL x0 x1=bnd (FT x1 0 65536) fun q25=>bnd (appI 8 ([]:List Int) x0.init) fun u39=>bnd (lop (rstF x0 q25) ([u39],0)) (rstE q25):=rfl
theorem PD {t:Tsk} (hs:Mid t) {ρ:Type} {i:Nat} {L:List (List Int)} {s:List Int} (hb:BL t L) (hi:L[i]?=some s):rng (ρ:=ρ) (fun (k100:Nat) (a101:Opr) (s98:(List (List Int)))=>bnd (atI s98 (i:Int)) fun a115=>bnd (Cx t a115 (k100:Int)) fun q130=>bnd (if q130.2=true then (bnd (Em s98 q130.1) fun q148=>if q148 < 0 then (some true) else (some false)) else (some false):Option Bool) fun y143=>if y143=true then (bnd (appI 24 s98 [q130.1]) fun u162=>some (.next u162)) else (some (.next s98))) t.ops 0 L=some (.done (expL t s L t.ops.length)):=by
  refine Es (fun m=>expL t s L m) (by simp [expL,appN,foldP]) fun k o ho=>?_
  have hmem:=List.mem_of_getElem? hi
  have hE:=hb.exp hmem k
  have hf:=hE.few hs
  obtain ⟨e1,e2⟩:=Kr (s:=s) ho
  have hsok:=hb.ok hs.ok hmem
  obtain ⟨A,hA⟩:=Ep t s (appN t s k) L
  have hget:(expL t s L k)[i]?=some s:=by
    show (foldP t s L (appN t s k))[i]?=some s
    rw [hA,List.getElem?_append_left (AC hi)];exact hi
  rw [NG,e1,BR,hget,An,KL hs.ok hsok ho]
  by_cases hp:holdsB o.pre s=true
  · rw [if_pos hp,if_pos hp,An]
    dsimp only
    rw [DN,OD,An,e2]
    unfold putL
    by_cases hm:succ o s∈expL t s L k
    · rw [if_pos hm,if_neg (by have:=OE (expL t s L k) (succ o s);omega),An,Dc,if_pos hm]
    · rw [if_neg hm,if_pos (by omega),An,DN,Cp (by rw [List.length_singleton];omega) (by rw [List.length_singleton];omega),An,if_neg hm]
  · rw [if_neg hp,if_neg hp,An]
    dsimp only
    rw [Dc,An,Dc]
def outS (r:Option (List (List Int))) (x:List (List Int)×Bool):Prop:=match r with|none=>x.2=false|some L=>x=(L,true)
theorem QD {t:Tsk} (hs:Mid t) {lim:Int} {i:Nat} {L:List (List Int)} {r:Option (List (List Int))} (h:Bx t lim i L r):BL t L→∃ x,bnd (lop (rstF t lim) (L,(i:Int))) (rstE lim)=some x∧outS r x:=by
  induction h with
  | @full i L h1 =>
    intro _
    rw [Gv]
    unfold rstF
    dsimp only
    have e:(if (i:Int) < (L.length:Int) then (if (L.length:Int)≤lim then some true else some false) else some false)=some false:=by
      split
      · rw [if_neg (by omega)]
      · rfl
    rw [e,An,Dc]
    dsimp only
    rw [An]
    unfold rstE
    rw [Cr,if_neg (by dsimp only;omega),An]
    exact ⟨_,rfl,rfl⟩
  | @done i L h1 h2 =>
    intro _
    rw [Gv]
    unfold rstF
    dsimp only
    rw [if_neg (by omega),An,Dc]
    dsimp only
    rw [An]
    unfold rstE
    rw [Cr,if_pos (by dsimp only;omega),An]
    exact ⟨_,rfl,rfl⟩
  | @step i L s r h1 h2 _ ih =>
    intro hb
    have hil:=AC h2
    have hf:=hb.few hs
    rw [Gv]
    unfold rstF
    dsimp only
    rw [if_pos (by omega),if_pos h1,An,DN,PD hs hb h2,An,Cr,Cd (by unfold inI64;omega),An]
    dsimp only
    exact ih (hb.exp (List.mem_of_getElem? h2) _)
def limE (x:Int):Int:=max 0 (min x 65536)
theorem PE (x:Int):FT x 0 65536=some (limE x):=by
  unfold limE FT
  first|rfl|(congr 1;omega)|(split<;>(try split)<;>(congr 1;omega))
theorem LM {t:Tsk} (hs:Mid t) (lim:Int):∃ r x,Bx t (limE lim) 0 [t.init] r∧FL t lim=some x∧outS r x:=by
  obtain ⟨r,hr⟩:=Pc hs (limE lim) 602 0 [t.init] (by omega) (Hr t)
  obtain ⟨x,h1,h2⟩:=QD hs hr (Hr t)
  refine ⟨r,x,hr,?_,h2⟩
  have h3:=hs.ok.2.2.2.1.1
  have h4:=hs.ok.1
  rw [PC,PE,An,Cp (by simp;omega) (by simp;omega),An,List.nil_append]
  exact h1
end
section
set_option linter.unusedVariables false
set_option linter.unusedSimpArgs false
open Go Go.RowKit
abbrev XI:=List Edj×Reg
abbrev XS:=Int×List Edj×List Bool×Reg
abbrev XR:=Option Spa×Err
theorem II {f:List Fct} (h:f.length≤1000):Be f=some f:=if_pos ⟨by omega,by omega⟩
theorem NH {t:Tsk} (h:TaskOk t):CF t=some t:=by
  obtain ⟨h1,h2,h3,h4,h5,h6⟩:=h
  have hg:=Ec h5
  unfold CF
  rw [HG (by omega),An,HG (by rw [h4.1];omega),An,II (by omega),An,An]
  rw [Es (fun k=>t.ops.take k) (by simp) (fun k o ho=>?_),An,Cr,List.take_length]
  have hk:=AC ho
  have hoo:=h6 k o ho
  have hp:=Ec hoo.2.2.2.2.1
  rw [II (by omega),An]
  rw [Es (fun j=>o.effs.take j) (by simp) (fun j e he=>?_),An,Cr,List.take_length]
  · rw [Cp (by rw [List.length_take,List.length_singleton];omega) (by rw [List.length_take,List.length_singleton];omega),An,List.take_add_one,ho];rfl
  · have hj:=AC he
    have hel:=hoo.2.2.1
    have hc:=Ec (hoo.2.2.2.2.2 j e he).1
    rw [II (by omega),An,Cp (by rw [List.length_take,List.length_singleton];omega) (by rw [List.length_take,List.length_singleton];omega),An,List.take_add_one,he];rfl
noncomputable def exIn (x1 i:Int):Suc→XI→Option (Ctl XI (Ctl XS XR)):=fun a228 s225=>bnd (Bj s225.2 a228.state) fun q263=>bnd (bnd (Ef (⟨q263.2.2.1.n⟩:Err) (⟨10⟩:Err)) fun q283=>if q283=true then some true else if q263.2.1=true then (if (max 0 (min x1 65536))≤q263.1 then (some true) else (some false)) else (some false):Option Bool) fun y279=>if y279=true then (some (.ret (.ret (none,(⟨10⟩:Err))))) else (if q263.2.2.1.n≠0 then (some (.ret (.ret (none,(⟨q263.2.2.1.n⟩:Err))))) else (bnd (appI 24 s225.1 [(⟨i,a228.op,q263.1⟩:Edj)]) fun u304=>some (.next (u304,q263.2.2.2))))
noncomputable def exF (x0:Tsk) (x1:Int) (gen:Option Gnr):XS→Option (Ctl XS XR):=fun s105=>bnd (Bd s105.2.2.2) fun q130=>if s105.1 < q130 then (bnd (Bp s105.2.2.2 s105.1) fun q141=>if q141.2.n≠0 then (some (.ret (none,(⟨q141.2.n⟩:Err)))) else (bnd (bnd (Cq x0.goal q141.1) fun q163=>if q163=true then bnd (appI 1 s105.2.2.1 [true]) fun u195=>some u195 else bnd (appI 1 s105.2.2.1 [false]) fun u176=>some u176:Option (List Bool)) fun y157=>bnd (AX gen q141.1) fun q212=>bnd (rng (ρ:=Ctl XS XR) (fun (_:Nat) (a228:Suc) (s225:XI)=>exIn x1 s105.1 a228 s225) q212 0 (s105.2.1,s105.2.2.2)) fun res223=>fin res223 fun (s321:XI)=>bnd (chkI (s105.1 + 1)) fun n323=>some (.next (n323,s321.1,y157,s321.2)))) else (some (.brk (s105.1,s105.2.1,s105.2.2.1,s105.2.2.2)))
noncomputable def exE (q74:Tsk):Fin XS XR→Option XR:=fun res103=>fin res103 fun (s330:XS)=>bnd (BM (⟨(⟨q74.vars,q74.init,q74.goal,q74.ops⟩:Tsk),s330.2.2.2,s330.2.1,s330.2.2.1,([]:List Int),([]:List Int),([]:List Int)⟩:Spa)) fun q341=>some ((some q341),(⟨0⟩:Err))
theorem QE (x0:Tsk) (x1:Int):Cl x0 x1=bnd (Db x0) fun q25=>if q25.2.n≠0 then (some (none,(⟨q25.2.n⟩:Err))) else (bnd (CV x0.vars) fun q40=>if q40.2.n≠0 then (some (none,(⟨q40.2.n⟩:Err))) else (if (max 0 (min x1 65536)) < 1 then (some (none,(⟨10⟩:Err))) else (bnd q40.1 fun o54=>bnd (Bj o54 x0.init) fun q57=>if q57.2.2.1.n≠0 then (some (none,(⟨q57.2.2.1.n⟩:Err))) else (bnd (CF x0) fun q74=>bnd (lop (exF x0 x1 q25.1) (0,([]:List Edj),([]:List Bool),q57.2.2.2)) (exE q74))))):=rfl
def goalsL (t:Tsk) (L:List (List Int)):List Bool:=L.map (holdsB t.goal)
structure SpX (t:Tsk) (L:List (List Int)) (x:Spa):Prop where
  reg:RegI t.vars x.states L
  sp:SpaOk t L.length (edgL t L L.length) (goalsL t L) x
def outX (t:Tsk) (r:Option (List (List Int))) (x:XR):Prop:=match r with|none=>x=(none,⟨10⟩)|some L=>∃ s,x=(some s,⟨0⟩)∧SpX t L s
theorem NI (t:Tsk) (s:List Int) (L:List (List Int)) (a b:List Nat):foldP t s L (a ++ b)=foldP t s (foldP t s L a) b:=by unfold foldP;rw [List.foldl_append]
theorem IJ (t:Tsk) (L:List (List Int)) (s:List Int) (i:Nat) (ks:List Nat) (k:Nat):edgK t L s i (ks ++ [k])=edgK t L s i ks ++ [⟨(i:Int),(k:Int),idxE L (sucN t s k)⟩]:=by unfold edgK;rw [List.map_append];rfl
theorem QF {t:Tsk} (hs:Mid t) {x1:Int} {i:Nat} {L:List (List Int)} {s:List Int} (hb:BL t L) (hcl:CloL t i L) (hlim:(L.length:Int)≤limE x1) (hi:L[i]?=some s) {reg:Reg} (hr:RegI t.vars reg L) :
    (∃ st,rng (ρ:=Ctl XS XR) (fun (_:Nat) (a228:Suc) (s225:XI)=>exIn x1 (i:Int) a228 s225) ((appS t s).map (sucOf t s)) 0 (edgL t L i,reg)=some (.done st)∧st.1=edgL t (expL t s L t.ops.length) (i + 1)∧RegI t.vars st.2 (expL t s L t.ops.length)∧((expL t s L t.ops.length).length:Int)≤limE x1) ∨
    (rng (ρ:=Ctl XS XR) (fun (_:Nat) (a228:Suc) (s225:XI)=>exIn x1 (i:Int) a228 s225) ((appS t s).map (sucOf t s)) 0 (edgL t L i,reg)=some (.ret (.ret (none,⟨10⟩)))∧limE x1 < ((expL t s L t.ops.length).length:Int)):=by
  have hmem:=List.mem_of_getElem? hi
  have hsok:=hb.ok hs.ok hmem
  have hil:=AC hi
  have hf0:=hb.few hs
  have hap:(appS t s).map (sucOf t s)=(appN t s t.ops.length).map fun k:Nat=>(⟨(k:Int),sucN t s k⟩:Suc):=by
    rw [Gj hsok,NE,List.map_map];rfl
  rw [hap]
  have hel:=GD t L i
  have hib:i * t.ops.length≤600 * 80:=Nat.mul_le_mul (by omega) hs.ops
  rcases Mp (ρ:=Ctl XS XR) (f:=fun (_:Nat) (a228:Suc) (s225:XI)=>exIn x1 (i:Int) a228 s225) (xs:=(appN t s t.ops.length).map fun k:Nat=>(⟨(k:Int),sucN t s k⟩:Suc)) (s₀:=(edgL t L i,reg))
    (fun j y=>y.1=edgL t L i ++ edgK t (foldP t s L ((appN t s t.ops.length).take j)) s i ((appN t s t.ops.length).take j)∧RegI t.vars y.2 (foldP t s L ((appN t s t.ops.length).take j))∧((foldP t s L ((appN t s t.ops.length).take j)).length:Int)≤limE x1)
    (fun r=>r=.ret (none,⟨10⟩)∧limE x1 < ((expL t s L t.ops.length).length:Int))
    ⟨by simp [edgK],by simpa [foldP] using hr,by simpa [foldP] using hlim⟩ (fun j a y hj hI=>by
      obtain ⟨y1,y2,y3⟩:=hI
      obtain ⟨es,reg'⟩:=y
      dsimp only at y1 y2 y3
      rw [List.getElem?_map] at hj
      obtain ⟨k,hk,rfl⟩:=Option.map_eq_some_iff.1 hj
      obtain ⟨hka,hkl⟩:=FM (List.mem_of_getElem? hk)
      have hjl:=AC hk
      have hal:=JF t s t.ops.length
      have hops:=hs.ops
      obtain ⟨A,hA⟩:=Ep t s ((appN t s t.ops.length).take j) L
      have hB:BL t (foldP t s L ((appN t s t.ops.length).take j)):=hb.fold hmem fun q hq=>(FM (List.mem_of_mem_take hq)).1
      have hf:=hB.few hs
      obtain ⟨o,ho,hpre,hsu⟩:=DX hka
      have hsk:StateOk t.vars (sucN t s k):=by rw [hsu];exact Hk hs.ok hsok ho
      have hek:(edgK t (foldP t s L ((appN t s t.ops.length).take j)) s i ((appN t s t.ops.length).take j)).length≤j:=by unfold edgK;rw [List.length_map,List.length_take];omega
      have htk:(appN t s t.ops.length).take (j + 1)=(appN t s t.ops.length).take j ++ [k]:=by rw [List.take_add_one,hk];rfl
      have hlen:es.length≤60000:=by rw [y1,List.length_append];omega
      unfold exIn
      dsimp only
      rcases KN hs.ok.1 y2 hsk (by omega) with ⟨q,hq,hadd⟩|⟨hno,r',hadd,hr',hlk⟩
      · have hq2:=List.mem_of_getElem? hq
        rw [hadd,An,show Ef (⟨0⟩:Err) (⟨10⟩:Err)=some false from rfl,An]
        dsimp only
        rw [Dc,Dc,An,Dc,if_neg (by simp),Cp (by rw [List.length_singleton];omega) (by rw [List.length_singleton];omega),An]
        have hput:foldP t s L ((appN t s t.ops.length).take (j + 1))=foldP t s L ((appN t s t.ops.length).take j):=by
          rw [htk,Kc];unfold putL;rw [if_pos hq2]
        refine .inl ⟨_,rfl,?_,?_,?_⟩
        · dsimp only
          rw [hput,htk,y1,List.append_assoc,IJ,QC hB.nodup hq]
        · rw [hput];exact y2
        · rw [hput];exact y3
      · have hnm:¬ sucN t s k∈foldP t s L ((appN t s t.ops.length).take j):=fun hm=>by
          obtain ⟨q,hq⟩:=List.getElem?_of_mem hm
          exact hno q hq
        have hput:foldP t s L ((appN t s t.ops.length).take (j + 1))=foldP t s L ((appN t s t.ops.length).take j) ++ [sucN t s k]:=by
          rw [htk,Kc];unfold putL;rw [if_neg hnm]
        rw [hadd,An,show Ef (⟨0⟩:Err) (⟨10⟩:Err)=some false from rfl,An]
        dsimp only
        rw [Dc,DN]
        by_cases hfull:max 0 (min x1 65536)≤((foldP t s L ((appN t s t.ops.length).take j)).length:Int)
        · rw [if_pos hfull,An,DN]
          refine .inr ⟨_,rfl,rfl,?_⟩
          have he:expL t s L t.ops.length=foldP t s (foldP t s L ((appN t s t.ops.length).take (j + 1))) ((appN t s t.ops.length).drop (j + 1)):=by
            rw [← NI,List.take_append_drop];rfl
          obtain ⟨B,hB2⟩:=Ep t s ((appN t s t.ops.length).drop (j + 1)) (foldP t s L ((appN t s t.ops.length).take (j + 1)))
          rw [he,hB2,hput]
          unfold limE at *
          simp only [List.length_append,List.length_singleton]
          omega
        · rw [if_neg hfull,An,Dc,if_neg (by simp),Cp (by rw [List.length_singleton];omega) (by rw [List.length_singleton];omega),An]
          refine .inl ⟨_,rfl,?_,?_,?_⟩
          · dsimp only
            rw [hput,htk,y1,List.append_assoc,IJ,OA hnm,LL fun q hq=>IH t s _ L q hq]
          · rw [hput];exact hr'
          · rw [hput];unfold limE at *;simp only [List.length_append,List.length_singleton];omega) with ⟨st,h1,h2,h3,h4⟩|⟨r,h1,h2,h3⟩
  · rw [List.length_map,List.take_length] at h2 h3 h4
    refine .inl ⟨st,h1,?_,h3,h4⟩
    obtain ⟨A,hA⟩:=Ep t s (appN t s t.ops.length) L
    have e:expL t s L t.ops.length=L ++ A:=hA
    rw [h2,KO (s:=s) (by rw [e,List.getElem?_append_left hil];exact hi),e,OC (by omega) hcl,← hA]
  · rw [h2] at h1
    exact .inr ⟨h1,h3⟩
theorem OF {α β:Type} (f:α→β) (L:List α) {i:Nat} {s:α} (h:L[i]?=some s):(L.take (i + 1)).map f=(L.take i).map f ++ [f s]:=by rw [List.take_add_one,h,List.map_append];rfl
theorem Rn {t:Tsk} (hs:Mid t) {x1:Int} {i:Nat} {L:List (List Int)} {r:Option (List (List Int))} (h:Bx t (limE x1) i L r):BL t L→CloL t i L→i≤L.length→(L.length:Int)≤limE x1→∀ reg,RegI t.vars reg L→∃ x,bnd (lop (exF t x1 (some ⟨t⟩)) ((i:Int),edgL t L i,(L.take i).map (holdsB t.goal),reg)) (exE t)=some x∧outX t r x:=by
  induction h with
  | @full i L h1=>intro _ _ _ h2;omega
  | @done i L h1 h2 =>
    intro hb hc hil _ reg hr
    have hf:=hb.few hs
    obtain rfl:i=L.length:=by omega
    have hE:EndL t (limE x1) L:=⟨hb,hc,h1⟩
    have hlen:Bd reg=some (L.length:Int):=by rw [← hr.len];rfl
    rw [Gv]
    unfold exF
    dsimp only
    rw [hlen,An,if_neg (by omega)]
    dsimp only
    rw [An]
    unfold exE
    rw [Cr,List.take_length]
    have hl0:=AC hb.root
    obtain ⟨x,m1,m2,m3⟩:=MP hs.ok hf hl0 (x:=⟨⟨t.vars,t.init,t.goal,t.ops⟩,reg,edgL t L L.length,L.map (holdsB t.goal),[],[],[]⟩) rfl hr.len (hE.edges hs) (by simp)
    rw [m1,An]
    exact ⟨_,rfl,x,rfl,by rw [m2];exact hr,m3⟩
  | @step i L s r h1 h2 hx ih =>
    intro hb hc hil hlim reg hr
    have hf:=hb.few hs
    have hlt:=AC h2
    have hmem:=List.mem_of_getElem? h2
    have hsok:=hb.ok hs.ok hmem
    have hlen:Bd reg=some (L.length:Int):=by rw [← hr.len];rfl
    have hg:(bnd (Cq t.goal s) fun q163=>if q163=true then bnd (appI 1 ((L.take i).map (holdsB t.goal)) [true]) fun u195=>some u195 else bnd (appI 1 ((L.take i).map (holdsB t.goal)) [false]) fun u176=>some u176)=some ((L.take (i + 1)).map (holdsB t.goal)):=by
      rw [show Cq t.goal s=some (holdsB t.goal s) from rfl,An,OF _ L h2]
      cases holdsB t.goal s with
      | true=>rw [DN,Cp (by rw [List.length_map,List.length_take,List.length_singleton];omega) (by rw [List.length_map,List.length_take,List.length_singleton];omega),An]
      | false=>rw [Dc,Cp (by rw [List.length_map,List.length_take,List.length_singleton];omega) (by rw [List.length_map,List.length_take,List.length_singleton];omega),An]
    rw [Gv]
    unfold exF
    dsimp only
    rw [hlen,An,if_pos (by omega),Jl hs.ok.1 hr h2,An,if_neg (by simp)]
    dsimp only
    rw [hg,An,Mq hs.ok (by rw [hsok.1];have:=hs.ok.1;omega),An]
    rcases QF hs hb hc hlim h2 hr with ⟨st,e1,e2,e3,e4⟩|⟨e1,e2⟩
    · rw [e1,An,Cr,Cd (by unfold inI64;omega),An]
      dsimp only
      obtain ⟨A,hA⟩:=Ep t s (appN t s t.ops.length) L
      have e:expL t s L t.ops.length=L ++ A:=hA
      have hb2:=hb.exp hmem t.ops.length
      have hc2:=hc.exp h2
      have:=ih hb2 hc2 (by rw [e,List.length_append];omega) e4 st.2 e3
      rw [e2]
      rw [e,List.take_append_of_le_length (by omega)] at this
      rw [e]
      exact this
    · rw [e1,An,QY]
      dsimp only
      rw [An]
      cases hx with
      | full _=>exact ⟨_,rfl,rfl⟩
      | done h3 _=>omega
      | step h3 _ _=>omega
theorem MS {t:Tsk} (hs:Mid t) (lim:Int) {r:Option (List (List Int))} (h:Bx t (limE lim) 0 [t.init] r):∃ x,Cl t lim=some x∧outX t r x:=by
  have hok:=hs.ok
  obtain ⟨q,hq,reg,rfl,hr,hlk⟩:=NC hok.1 hok.2.2.1
  rw [QE,Lw hok,An,if_neg (by simp),hq,An,if_neg (by simp)]
  dsimp only
  by_cases hl:limE lim < 1
  · unfold limE at hl
    rw [if_pos hl]
    cases h with
    | full _=>exact ⟨_,rfl,rfl⟩
    | done h3 _=>unfold limE at h3;simp at h3;omega
    | step h3 _ _=>unfold limE at h3;simp at h3;omega
  · have hl':=hl
    unfold limE at hl
    rw [if_neg hl,An]
    rcases KN hok.1 hr hok.2.2.2.1 (by simp) with ⟨i,hi,_⟩|⟨_,r',hadd,hr',_⟩
    · simp at hi
    · rw [hadd,An,if_neg (by simp),NH hok,An]
      exact Rn hs h (Hr t) (fun j s k hj=>by omega) (by simp) (by simp;omega) r' hr'
theorem Md {t:Tsk} (hs:SmallOk t) {lim:Int} (hl:512≤limE lim):∃ L x,Cl t lim=some (some x,⟨0⟩)∧SpX t L x∧EndL t (limE lim) L∧FL t lim=some (L,true):=by
  obtain ⟨r,y,h1,h2,h3⟩:=LM hs.mid lim
  obtain ⟨x,e1,e2⟩:=MS hs.mid lim h1
  have key:∀ {i:Nat} {L:List (List Int)} {r:Option (List (List Int))},Bx t (limE lim) i L r→BL t L→r≠none:=fun h=>by
    induction h with
    | @full i L h=>intro hb;have:=hb.many hs.ok;have:=hs.many;omega
    | done _ _=>intro _ h;cases h
    | @step i L s r _ h2 _ ih=>intro hb;exact ih (hb.exp (List.mem_of_getElem? h2) _)
  cases r with
  | none=>exact (key h1 (Hr t) rfl).elim
  | some L =>
    obtain ⟨s,rfl,hs2⟩:=e2
    refine ⟨L,s,e1,hs2,h1.ends (Hr t) (fun j s k hj=>by omega) L rfl,?_⟩
    rw [h2]
    exact congrArg some h3
end
section
set_option linter.unusedVariables false
set_option linter.unusedSimpArgs false
open Go Go.RowKit
theorem QG {a b:List Int} (hl:a.length=b.length) (h:∀ i,i < a.length→gI a i=gI b i):a=b:=by
  apply List.ext_getElem?
  intro i
  by_cases hi:i < a.length
  · rw [LF hi,LF (by omega),h i hi]
  · rw [List.getElem?_eq_none (by omega),List.getElem?_eq_none (by omega)]
end
section
set_option linter.unusedVariables false
set_option linter.unusedSimpArgs false
open Go Go.RowKit
attribute [local irreducible] ewp owp hwp hwq hws Ev Evg Fn retPost loud loudS Res1
attribute [local irreducible] hwx loudX
noncomputable def Dp  : Option Bool :=
  bnd (Cl (⟨([2]:List Int),([0]:List Int),([]:List Fct),[(⟨(⟨#[]⟩:ByteArray),0,([]:List Fct),[(⟨([]:List Fct),0,1⟩:Eff)]⟩:Opr)]⟩:Tsk) 5) fun q33=>bnd (if q33.2.n=0 then (if q33.1.isNone=false then (bnd q33.1 fun o53=>bnd (Dg o53) fun q57=>if q57=2 then (some true) else (some false)) else (some false)) else (some false):Option Bool) fun y47=>some y47
theorem Ia {w:World} {A:Nat→Prop} (hA:∀ k,A k→k < w.heap.size)  {r:Bool} (hm:Dp  = some r) :
    Fn Tryz.prog 11 [] w fun v w'=>Ext w w'∧Vb w' (upA A w w') v r:=by
 obtain ⟨O,hB,j1⟩:=enter hA
 refine AI Tryz.func11 rfl Tryz.ntmps11 rfl ?_
 unfold Dp at hm
 refine Al (Aj (At rfl rfl (o_z ?_)))
 refine Al (Aj (Ca 2 (by decide) O (xs:=(([2]:List Int):List Int)) rfl rfl rfl rfl ⟨(vInt (show inI64 (2) from by decide)),trivial⟩ (by decide) (by decide) rfl fun g1 w2 O3 S4 h5=>?_))
 refine Ca 3 (by decide) O3 (xs:=(([0]:List Int):List Int)) rfl rfl rfl rfl ⟨(vInt (show inI64 (0) from by decide)),trivial⟩ (by decide) (by decide) rfl fun g7 w8 O9 i0 b0=>?_
 refine EG rfl rfl rfl ?_
 refine Ca 4 (by decide) O9 (xs:=([(⟨([]:List Fct),0,1⟩:Eff)]:List Eff)) rfl rfl rfl rfl ⟨(Vb.ofAgg (cs:=[(.slice none 0 0),(.int .i64 0),(.int .i64 1)]) (x:=(⟨([]:List Fct),0,1⟩:Eff)) rfl ⟨_,rfl,(Vb.nil _ _),(show inI64 (0) from by decide),(show inI64 (1) from by decide)⟩),trivial⟩ (by decide) (by decide) rfl fun t0 k1 l1 c0 m0=>?_
 refine EG rfl rfl rfl ?_
 obtain ⟨u0,d0,m0⟩:=m0.freeze
 refine Ca 5 (by decide) u0 (xs:=([(⟨(⟨#[]⟩:ByteArray),0,([]:List Fct),[(⟨([]:List Fct),0,1⟩:Eff)]⟩:Opr)]:List Opr)) rfl rfl rfl rfl ⟨(Vb.ofAgg (cs:=[(.string (⟨#[]⟩:ByteArray)),(.int .i64 0),(.slice none 0 0),(.slice (some ⟨t0,0,none⟩) [(⟨([]:List Fct),0,1⟩:Eff)].length 1)]) (x:=(⟨(⟨#[]⟩:ByteArray),0,([]:List Fct),[(⟨([]:List Fct),0,1⟩:Eff)]⟩:Opr)) rfl ⟨_,_,rfl,(Vb.nil _ _),m0,(show inI64 0 from by decide),(show (⟨#[]⟩:ByteArray).size≤9223372036854775807 from by decide)⟩),trivial⟩ (by decide) (by decide) rfl fun v0 m1 n1 e0 j0=>?_
 refine EG rfl rfl rfl ?_
 replace h5:=(((h5.st i0).st c0).st d0).st e0
 obtain ⟨o1,f0,h5⟩:=h5.freeze
 replace b0:=(((b0.st c0).st d0).st e0).st f0
 obtain ⟨p1,g0,b0⟩:=b0.freeze
 replace j0:=(j0.st f0).st g0
 obtain ⟨w0,h0,j0⟩:=j0.freeze
 obtain ⟨q1,x0,hm⟩:=bs hm
 replace h5:=(h5.st g0).st h0
 replace b0:=b0.st h0
 refine BP (O:=w0) (Gb (Vb.ofAgg (cs:=[(.slice (some ⟨g1,0,none⟩) ([2]:List Int).length 1),(.slice (some ⟨g7,0,none⟩) ([0]:List Int).length 1),(.slice none 0 0),(.slice (some ⟨v0,0,none⟩) [(⟨(⟨#[]⟩:ByteArray),0,([]:List Fct),[(⟨([]:List Fct),0,1⟩:Eff)]⟩:Opr)].length 1)]) (x:=(⟨([2]:List Int),([0]:List Int),([]:List Fct),[(⟨(⟨#[]⟩:ByteArray),0,([]:List Fct),[(⟨([]:List Fct),0,1⟩:Eff)]⟩:Opr)]⟩:Tsk)) rfl ⟨_,_,_,_,rfl,h5,b0,(Vb.nil _ _),j0⟩) (show inI64 (5) from by decide) 6 (by decide) x0) rfl rfl fun r1 s1 y0 k0 z0=>?_
 obtain ⟨t1,u1,rfl,l0,a1⟩:=z0
 obtain ⟨v1,rfl,n0⟩:=Obo.ptrq l0
 obtain ⟨rfl,w1⟩:=a1.err
 refine Am rfl rfl (Bf rfl rfl rfl (Bf rfl rfl rfl (At rfl rfl (At rfl rfl (o_z ?_)))))
 refine Al ?_
 obtain ⟨b1,a0,hm⟩:=bs hm
 refine AM (fun l' w'=>∃ (c1:Unit) (O':Lab),subs l' [(0,(.bool b1))]∧Bs w A w' O') ?_ ?_
 ·
  refine Aj (Am rfl rfl (QU rfl rfl (fun o0=>?_) fun o0=>?_))
  ·
   replace a0:=ip a0 o0
   refine Am rfl rfl (Ay rfl rfl (Am rfl rfl (Ay rfl rfl (QV n0 rfl rfl (fun p0=>?_) fun p0=>?_))))
   ·
    replace a0:=ip a0 p0
    refine BV rfl rfl rfl (Am rfl rfl (Ay rfl rfl (Am rfl rfl (Ay rfl rfl ?_))))
    obtain ⟨x1,d1,a0⟩:=bs a0
    rw [d1] at l0
    obtain ⟨y1,e1⟩:=Ob.ptr l0
    obtain rfl:=Mn e1
    obtain ⟨z1,f1,a0⟩:=bs a0
    refine BP (O:=y0) (Ig l0 f1) rfl rfl fun a2 b2 c2 s0 h1=>?_
    obtain ⟨d2,i1⟩:=h1
    obtain ⟨rfl,e2⟩:=i1.int
    refine Ay rfl rfl (KV rfl rfl rfl (fun q0=>?_) fun q0=>?_)
    ·
     replace a0:=ip a0 q0
     refine BV rfl rfl rfl (At rfl rfl (o_z ?_))
     obtain rfl:=sm a0
     exact ⟨(),_,⟨rfl,trivial⟩,(((((((((hB.st S4).st i0).st c0).st d0).st e0).st f0).st g0).st h0).st k0).st s0⟩
    replace a0:=im a0 q0
    refine BV rfl rfl rfl (At rfl rfl (o_z ?_))
    obtain rfl:=sm a0
    exact ⟨(),_,⟨rfl,trivial⟩,(((((((((hB.st S4).st i0).st c0).st d0).st e0).st f0).st g0).st h0).st k0).st s0⟩
   replace a0:=im a0 p0
   refine BV rfl rfl rfl (Am rfl rfl (Az rfl rfl rfl rfl (Az rfl rfl rfl rfl (Az rfl rfl rfl rfl (Bz rfl rfl rfl (At rfl rfl (o_z ?_)))))))
   obtain rfl:=sm a0
   exact ⟨(),_,⟨rfl,trivial⟩,((((((((hB.st S4).st i0).st c0).st d0).st e0).st f0).st g0).st h0).st k0⟩
  replace a0:=im a0 o0
  refine Am rfl rfl (Az rfl rfl rfl rfl (Az rfl rfl rfl rfl (Bz rfl rfl rfl (Am rfl rfl (Az rfl rfl rfl rfl (Az rfl rfl rfl rfl (Az rfl rfl rfl rfl (Bz rfl rfl rfl (At rfl rfl (o_z ?_))))))))))
  obtain rfl:=sm a0
  exact ⟨(),_,⟨rfl,trivial⟩,((((((((hB.st S4).st i0).st c0).st d0).st e0).st f0).st g0).st h0).st k0⟩
 replace hB:=((((((((hB.st S4).st i0).st c0).st d0).st e0).st f0).st g0).st h0).st k0
 rintro f2 g2 ⟨c1,h2,r0,hB⟩
 refine AP _ r0 ?_
 refine AJ ?_
 obtain rfl:=sm hm
 exact ret1v rfl (AA rfl) ⟨hB.ext,vBool⟩
noncomputable def Dj (x0:Tsk):Option Bool :=
  bnd (bnd (El x0) fun q28=>if q28=true then bnd (Dp) fun q35=>if q35=true then some false else some true else some true:Option Bool) fun y24=>if y24=true then (bnd (bnd (Dp) fun q51=>if q51=true then some true else some false:Option Bool) fun y47=>some y47) else (bnd (Ds x0) fun q62=>bnd (if q62.2.n≠0 then (some true) else (bnd (DI x0) fun q81=>bnd (EA q62.1 q81) fun q90=>if q90=true then some false else some true):Option Bool) fun y76=>if y76=true then (some false) else (bnd (Cl x0 512) fun q102=>if q102.2.n≠0 then (some false) else (bnd q102.1 fun o117=>bnd (CB o117) fun q121=>bnd (rng (ρ:=Bool) (fun (k138:Nat) (a139:Int) (s136:Unit)=>bnd (CW o117 (k138:Int)) fun q149=>if q149.2.n≠0 then (some (.ret false)) else (bnd (Eg x0 q149.1) fun q165=>bnd (if q165.2.n≠0 then (some true) else (if q165.1 < 0 then (some true) else (if (q62.1.length:Int)≤q165.1 then (some true) else (bnd (atI q62.1 q165.1) fun a187=>if a187≠a139 then (some true) else (some false)))):Option Bool) fun y178=>if y178=true then (some (.ret false)) else (some (.next ())))) q121 0 ()) fun res134=>fin res134 fun (s217:Unit)=>some true)))
theorem He {w:World} {A:Nat→Prop} (hA:∀ k,A k→k < w.heap.size) {vx0:Value} {x0:Tsk} (r2:Vb w A vx0 x0) {r:Bool} (hm:Dj x0=some r) :
    Fn Tryz.prog 6 [vx0] w fun v w'=>Ext w w'∧Vb w' (upA A w w') v r:=by
 obtain ⟨O,hB,l4⟩:=enter hA
 replace r2:=r2.mono l4
 obtain ⟨c7,rfl,v3,v4,v5,v6,rfl,h7,e0,f0,g0⟩:=r2
 obtain ⟨A8,c9,rfl⟩:=h7.form
 obtain ⟨t0,u0,rfl⟩:=e0.form
 obtain ⟨v0,w0,rfl⟩:=f0.form
 obtain ⟨y0,z0,rfl⟩:=g0.form
 refine AI Tryz.func6 rfl Tryz.ntmps6 rfl ?_
 unfold Dj at hm
 refine Al (Aj (Dw 2 O rfl rfl fun g1 s2 t2 d1 i0=>?_))
 replace i0:Lc 2 s2 t2 g1 26 [(.slice A8 x0.vars.length c9),(.slice t0 x0.init.length u0),(.slice v0 x0.goal.length w0),(.slice y0 x0.ops.length z0)]:=i0
 refine At rfl rfl (o_z ?_)
 refine Al (Al ?_)
 obtain ⟨m4,j0,hm⟩:=bs hm
 refine AM (fun l' w'=>∃ (n4:Unit) (O':Lab),subs l' [(1,(.pointer (some ⟨g1,0,none⟩))),(18,(.bool m4))]∧Bs w A w' O'∧Lc 2 w' O' g1 26 [(.slice A8 x0.vars.length c9),(.slice t0 x0.init.length u0),(.slice v0 x0.goal.length w0),(.slice y0 x0.ops.length z0)]∧Vb w' (Fr 0 w' O') (.slice A8 x0.vars.length c9) x0.vars∧Vb w' (Fr 0 w' O') (.slice t0 x0.init.length u0) x0.init∧Vb w' (Fr 0 w' O') (.slice v0 x0.goal.length w0) x0.goal∧Vb w' (Fr 0 w' O') (.slice y0 x0.ops.length z0) x0.ops) ?_ ?_
 ·
  refine Aj (Bn (hl:=rfl) (hc:=(i0.1).cellsAt) rfl rfl ?_)
  obtain ⟨a4,o4,j0⟩:=bs j0
  replace h7:=h7.st d1
  replace e0:=e0.st d1
  replace f0:=f0.st d1
  replace g0:=g0.st d1
  refine BO (O:=t2) (A:=All s2) (R:=fun w' F v=>Vb w' F v a4) (Lr (fun _ h=>h) (Vb.mono (F:=Fr 0 s2 t2) (Vb.ofAgg (cs:=[(.slice A8 x0.vars.length c9),(.slice t0 x0.init.length u0),(.slice v0 x0.goal.length w0),(.slice y0 x0.ops.length z0)]) (x:=x0) rfl ⟨_,_,_,_,rfl,h7,e0,f0,g0⟩) Fr.lt) o4) rfl rfl fun d7 p4 q4 q0 r4=>?_
  obtain rfl:=r4.bool
  cases a4
  case false =>
   replace j0:=iF j0
   refine CM rfl rfl (Am rfl rfl (Az rfl rfl rfl rfl (Az rfl rfl rfl rfl (BV rfl rfl rfl (o_z ?_)))))
   obtain rfl:=sm j0
   exact ⟨(),_,⟨rfl,rfl,trivial⟩,(hB.st d1).st q0,i0.st q0,h7.st q0,e0.st q0,f0.st q0,g0.st q0⟩
  replace j0:=iT j0
  refine CL rfl rfl (Am rfl rfl (Ay rfl rfl ?_))
  obtain ⟨b4,s4,j0⟩:=bs j0
  refine BO (O:=q4) (A:=All p4) (R:=fun w' F v=>Vb w' F v b4) (Ia (fun _ h=>h)  s4) rfl rfl fun e7 f7 g7 e1 t4=>?_
  obtain rfl:=t4.bool
  cases b4
  case false =>
   replace j0:=iF j0
   refine Ay rfl rfl (CM rfl rfl (Bz rfl rfl rfl (o_z ?_)))
   obtain rfl:=sm j0
   exact ⟨(),_,⟨rfl,rfl,trivial⟩,((hB.st d1).st q0).st e1,(i0.st q0).st e1,(h7.st q0).st e1,(e0.st q0).st e1,(f0.st q0).st e1,(g0.st q0).st e1⟩
  replace j0:=iT j0
  refine Ay rfl rfl (CL rfl rfl (Bz rfl rfl rfl (o_z ?_)))
  obtain rfl:=sm j0
  exact ⟨(),_,⟨rfl,rfl,trivial⟩,((hB.st d1).st q0).st e1,(i0.st q0).st e1,(h7.st q0).st e1,(e0.st q0).st e1,(f0.st q0).st e1,(g0.st q0).st e1⟩
 replace hB:=hB.st d1
 replace h7:=h7.st d1
 replace e0:=e0.st d1
 replace f0:=f0.st d1
 replace g0:=g0.st d1
 rintro i7 u4 ⟨n4,c4,u2,hB,i0,h7,e0,f0,g0⟩
 refine AP _ u2 ?_
 refine CO rfl (fun v2=>?_) (fun v2=>?_)
 ·
  replace hm:=ip hm v2
  refine Al ?_
  obtain ⟨w4,r0,hm⟩:=bs hm
  refine AM (fun l' w'=>∃ (x4:Unit) (O':Lab),subs l' [(2,(.bool w4))]∧Bs w A w' O') ?_ ?_
  ·
   refine Aj ?_
   obtain ⟨d4,y4,r0⟩:=bs r0
   refine BO (O:=c4) (A:=All u4) (R:=fun w' F v=>Vb w' F v d4) (Ia (fun _ h=>h)  y4) rfl rfl fun j7 k7 l7 e4 z4=>?_
   obtain rfl:=z4.bool
   cases d4
   case false =>
    replace r0:=iF r0
    refine At rfl rfl (o_z ?_)
    obtain rfl:=sm r0
    exact ⟨(),_,⟨rfl,trivial⟩,hB.st e4⟩
   replace r0:=iT r0
   refine At rfl rfl (o_z ?_)
   obtain rfl:=sm r0
   exact ⟨(),_,⟨rfl,trivial⟩,hB.st e4⟩
  rintro m7 n7 ⟨x4,o7,w2,hB⟩
  refine AP _ w2 ?_
  refine AJ ?_
  obtain rfl:=sm hm
  exact ret1v rfl (AA rfl) ⟨hB.ext,vBool⟩
 replace hm:=im' hm v2
 refine AH (Al (Aj (Bn (hl:=rfl) (hc:=(i0.1).cellsAt) rfl rfl ?_)))
 obtain ⟨f1,a5,hm⟩:=bs hm
 refine Dq (O:=c4) (R:=fun w' F v=>T2 w' F v f1) (Jc Fr.lt (Vb.ofAgg (cs:=[(.slice A8 x0.vars.length c9),(.slice t0 x0.init.length u0),(.slice v0 x0.goal.length w0),(.slice y0 x0.ops.length z0)]) (x:=x0) rfl ⟨_,_,_,_,rfl,h7,e0,f0,g0⟩) a5) rfl rfl fun p7 q7 b5 n0 c5=>?_
 obtain ⟨r7,s7,rfl,l0,d5⟩:=c5
 obtain ⟨b2,c2,rfl⟩:=l0.form
 obtain ⟨rfl,t7⟩:=d5.err
 refine Am rfl rfl (Bf rfl rfl rfl (Bf rfl rfl rfl (At rfl rfl (At rfl rfl (o_z ?_)))))
 refine Al (Al ?_)
 obtain ⟨e5,k0,hm⟩:=bs hm
 refine AM (fun l' w'=>∃ (f5:Unit) (O':Lab),subs l' [(1,(.pointer (some ⟨g1,0,none⟩))),(3,(.slice b2 f1.1.length c2)),(33,(.bool e5))]∧Bs w A w' O'∧Lc 2 w' O' g1 26 [(.slice A8 x0.vars.length c9),(.slice t0 x0.init.length u0),(.slice v0 x0.goal.length w0),(.slice y0 x0.ops.length z0)]∧Vb w' (Fr 0 w' O') (.slice A8 x0.vars.length c9) x0.vars∧Vb w' (Fr 0 w' O') (.slice t0 x0.init.length u0) x0.init∧Vb w' (Fr 0 w' O') (.slice v0 x0.goal.length w0) x0.goal∧Vb w' (Fr 0 w' O') (.slice y0 x0.ops.length z0) x0.ops∧Vb w' (Fr 0 w' O') (.slice b2 f1.1.length c2) f1.1) ?_ ?_
 ·
  refine Aj (Am rfl rfl (Di rfl rfl (fun x2=>?_) fun x2=>?_))
  ·
   replace k0:=ip k0 x2
   refine Am rfl rfl (Az rfl rfl rfl rfl (Az rfl rfl rfl rfl (Az rfl rfl rfl rfl (Az rfl rfl rfl rfl (Az rfl rfl rfl rfl (BV rfl rfl rfl (o_z ?_)))))))
   obtain rfl:=sm k0
   exact ⟨(),_,⟨rfl,rfl,rfl,trivial⟩,hB.st n0,i0.st n0,h7.st n0,e0.st n0,f0.st n0,g0.st n0,l0⟩
  replace k0:=im k0 x2
  refine Am rfl rfl (Ay rfl rfl (Am rfl rfl (Ay rfl rfl ?_)))
  replace i0:=i0.st n0
  refine Bn (hl:=rfl) (hc:=(i0.1).cellsAt) rfl rfl ?_
  refine Ay rfl rfl ?_
  obtain ⟨g5,h5,k0⟩:=bs k0
  replace h7:=h7.st n0
  replace e0:=e0.st n0
  replace f0:=f0.st n0
  replace g0:=g0.st n0
  refine Dq (O:=b5) (R:=fun w' F v=>Vb w' F v g5) (Jy Fr.lt (Vb.ofAgg (cs:=[(.slice A8 x0.vars.length c9),(.slice t0 x0.init.length u0),(.slice v0 x0.goal.length w0),(.slice y0 x0.ops.length z0)]) (x:=x0) rfl ⟨_,_,_,_,rfl,h7,e0,f0,g0⟩) h5) rfl rfl fun u7 y2 z2 c1 f4=>?_
  obtain ⟨v7,w7,rfl⟩:=f4.form
  refine Ay rfl rfl ?_
  obtain ⟨g4,i5,k0⟩:=bs k0
  replace l0:=l0.st c1
  refine BO (O:=z2) (A:=All y2) (R:=fun w' F v=>Vb w' F v g4) (LX (fun _ h=>h) (Vb.mono (F:=Fr 0 y2 z2) l0 Fr.lt) (Vb.mono (F:=Fr 0 y2 z2) f4 Fr.lt) i5) rfl rfl fun x7 y7 z7 a1 j5=>?_
  obtain rfl:=j5.bool
  cases g4
  case false =>
   replace k0:=iF k0
   refine Ay rfl rfl (CM rfl rfl (Bz rfl rfl rfl (o_z ?_)))
   obtain rfl:=sm k0
   exact ⟨(),_,⟨rfl,rfl,rfl,trivial⟩,((hB.st n0).st c1).st a1,(i0.st c1).st a1,(h7.st c1).st a1,(e0.st c1).st a1,(f0.st c1).st a1,(g0.st c1).st a1,l0.st a1⟩
  replace k0:=iT k0
  refine Ay rfl rfl (CL rfl rfl (Bz rfl rfl rfl (o_z ?_)))
  obtain rfl:=sm k0
  exact ⟨(),_,⟨rfl,rfl,rfl,trivial⟩,((hB.st n0).st c1).st a1,(i0.st c1).st a1,(h7.st c1).st a1,(e0.st c1).st a1,(f0.st c1).st a1,(g0.st c1).st a1,l0.st a1⟩
 replace hB:=hB.st n0
 replace h7:=h7.st n0
 replace e0:=e0.st n0
 replace f0:=f0.st n0
 replace g0:=g0.st n0
 replace i0:=i0.st n0
 rintro a8 b8 ⟨f5,k5,d2,hB,i0,h7,e0,f0,g0,l0⟩
 refine AP _ d2 ?_
 refine CO rfl (fun p1=>?_) (fun p1=>?_)
 ·
  replace hm:=ip hm p1
  refine Al (Aj (At rfl rfl (o_z ?_)))
  refine AJ ?_
  obtain rfl:=sm hm
  exact ret1v rfl (AA rfl) ⟨hB.ext,vBool⟩
 replace hm:=im' hm p1
 refine AH (Al (Aj (Bn (hl:=rfl) (hc:=(i0.1).cellsAt) rfl rfl ?_)))
 obtain ⟨l5,a3,hm⟩:=bs hm
 refine BP (O:=k5) (Gb (Vb.ofAgg (cs:=[(.slice A8 x0.vars.length c9),(.slice t0 x0.init.length u0),(.slice v0 x0.goal.length w0),(.slice y0 x0.ops.length z0)]) (x:=x0) rfl ⟨_,_,_,_,rfl,h7,e0,f0,g0⟩) (show inI64 (512) from by decide) 3 (by decide) a3) rfl rfl fun m5 n5 b3 o0 c3=>?_
 obtain ⟨o5,p5,rfl,h1,d3⟩:=c3
 obtain ⟨q5,rfl,h4⟩:=Obo.ptrq h1
 obtain ⟨rfl,r5⟩:=d3.err
 refine Am rfl rfl (Bf rfl rfl rfl (Bf rfl rfl rfl (At rfl rfl (At rfl rfl (o_z ?_)))))
 refine Al (Al (Aj (Am rfl rfl (Di rfl rfl (fun q1=>?_) fun q1=>?_))))
 ·
  replace hm:=ip hm q1
  refine o_z ?_
  refine Ah rfl (Al (Aj (At rfl rfl (o_z ?_))))
  refine AJ ?_
  obtain rfl:=sm hm
  replace hB:=hB.st o0
  exact ret1v rfl (AA rfl) ⟨hB.ext,vBool⟩
 replace hm:=im hm q1
 refine o_z ?_
 refine Ae rfl (AH (Al (Aj (Am rfl rfl ?_))))
 obtain ⟨e2,e3,hm⟩:=bs hm
 rw [e3] at h1
 obtain ⟨i1,f3⟩:=Ob.ptr h1
 obtain rfl:=Mn f3
 obtain ⟨m0,g3,hm⟩:=bs hm
 refine BP (O:=b3) (Gg h1 g3) rfl rfl fun s5 t5 h3 s0 i3=>?_
 obtain ⟨j1,h0⟩:=i3
 obtain ⟨k1,l1,rfl⟩:=h0.form
 refine At rfl rfl (o_z ?_)
 refine Al (Al (Aj (Am rfl rfl (AO rfl rfl ?_))))
 have r1:m0.length≤9223372036854775807:=Nat.le_trans h0.len.2.1 h0.len.2.2
 have u5:inI64 (m0.length:Int):=rngNat r1
 refine Am rfl rfl (o_z ?_)
 obtain ⟨s1,f2,hm⟩:=bs hm
 refine AM (aft s1 (fun (m1:Unit) (n1:Unit)=>[]) (fun m1 n1 w'=>∃ O':Lab,Bs w A w' O')) ?_ ?_
 ·
  refine AN ?_
  replace hB:=(hB.st o0).st s0
  replace h7:=(h7.st o0).st s0
  replace e0:=(e0.st o0).st s0
  replace f0:=(f0.st o0).st s0
  replace g0:=(g0.st o0).st s0
  replace i0:=(i0.st o0).st s0
  replace l0:=(l0.st o0).st s0
  refine BI (σ:=Unit) (X:=Unit) (m0.length) f2 rfl r1 (fun (m1:Unit) (n1:Unit)=>[(1,(.pointer (some ⟨g1,0,none⟩))),(3,(.slice b2 f1.1.length c2)),(5,(.pointer (some ⟨i1,0,none⟩))),(6,(.slice k1 m0.length l1))]) _ (fun m1 n1 w'=>∃ O':Lab,Bs w A w' O'∧Lc 2 w' O' g1 26 [(.slice A8 x0.vars.length c9),(.slice t0 x0.init.length u0),(.slice v0 x0.goal.length w0),(.slice y0 x0.ops.length z0)]∧Vb w' (Fr 0 w' O') (.slice A8 x0.vars.length c9) x0.vars∧Vb w' (Fr 0 w' O') (.slice t0 x0.init.length u0) x0.init∧Vb w' (Fr 0 w' O') (.slice v0 x0.goal.length w0) x0.goal∧Vb w' (Fr 0 w' O') (.slice y0 x0.ops.length z0) x0.ops∧Vb w' (Fr 0 w' O') (.slice b2 f1.1.length c2) f1.1∧Ob 3 w' O' (.pointer (some ⟨i1,0,none⟩)) e2∧Vb w' (Fr 0 w' O') (.slice k1 m0.length l1) m0) _ () ⟨h3,hB,i0,h7,e0,f0,g0,l0,j1,h0⟩ ⟨rfl,rfl,rfl,rfl,rfl,rfl,trivial⟩ (fun _ _=>⟨rfl,rfl⟩) (fun _ _=>trivial) (fun _ _ _ ⟨O',hB,i0,h7,e0,f0,g0,l0,j1,h0⟩=>⟨O',hB⟩) ⟨rfl,rfl,rfl⟩ ⟨rfl,rfl⟩ ?_
  rintro g2 w5 m1 n1 x5 i4 o1 ⟨j3,hB,i0,h7,e0,f0,g0,l0,j1,h0⟩ c0 b1 q2
  have rk138:inI64 (g2:Int):=rngK o1 r1
  refine Al (Aj (Am rfl rfl (At rfl rfl (o_z ?_))))
  refine Al (Aj (Am rfl rfl (Am rfl rfl ?_)))
  obtain ⟨y5,k3,c0⟩:=bs c0
  refine BP (O:=j3) (Hm j1 rk138 k3) rfl rfl fun z5 t1 u1 d0 l3=>?_
  obtain ⟨a6,b6,p0,rfl,h2,m3⟩:=l3
  obtain ⟨c6,d6,rfl⟩:=h2.form
  obtain ⟨rfl,e6⟩:=m3.err
  refine Am rfl rfl (Bf rfl rfl rfl (Bf rfl rfl rfl (At rfl rfl (At rfl rfl (o_z ?_)))))
  refine Al (Al (Aj (Am rfl rfl (Di rfl rfl (fun v1=>?_) fun v1=>?_))))
  ·
   replace c0:=ip c0 v1
   refine o_z ?_
   refine Ah rfl (Al (Aj (At rfl rfl (o_z ?_))))
   refine AJ ?_
   obtain rfl:=sm c0
   obtain rfl:=b1 _ rfl
   obtain rfl:=sm (Cy hm)
   replace hB:=hB.st d0
   exact ret1v rfl (AA rfl) ⟨hB.ext,vBool⟩
  replace c0:=im c0 v1
  refine o_z ?_
  refine Ae rfl (AH (Al (Aj ?_)))
  replace i0:=i0.st d0
  refine Bn (hl:=rfl) (hc:=(i0.1).cellsAt) rfl rfl ?_
  refine Am rfl rfl ?_
  obtain ⟨n3,o3,c0⟩:=bs c0
  replace h7:=h7.st d0
  replace e0:=e0.st d0
  replace f0:=f0.st d0
  replace g0:=g0.st d0
  refine BO (O:=u1) (A:=All t1) (R:=fun w' F v=>T2 w' F v n3) (Jk (fun _ h=>h) (Vb.mono (F:=Fr 0 t1 u1) (Vb.ofAgg (cs:=[(.slice A8 x0.vars.length c9),(.slice t0 x0.init.length u0),(.slice v0 x0.goal.length w0),(.slice y0 x0.ops.length z0)]) (x:=x0) rfl ⟨_,_,_,_,rfl,h7,e0,f0,g0⟩) Fr.lt) (Vb.mono (F:=Fr 0 t1 u1) h2 Fr.lt) o3) rfl rfl fun f6 p3 g6 a0 q3=>?_
  obtain ⟨h6,i6,rfl,r3,s3⟩:=q3
  obtain ⟨rfl,j6⟩:=r3.int
  obtain ⟨rfl,k6⟩:=s3.err
  refine Am rfl rfl (Bf rfl rfl rfl (Bf rfl rfl rfl (At rfl rfl (At rfl rfl (o_z ?_)))))
  refine Al ?_
  obtain ⟨t3,b0,c0⟩:=bs c0
  refine AM (fun l' w'=>∃ (u3:Unit) (O':Lab),subs l' [(1,(.pointer (some ⟨g1,0,none⟩))),(3,(.slice b2 f1.1.length c2)),(5,(.pointer (some ⟨i1,0,none⟩))),(6,(.slice k1 m0.length l1)),(44,(.int .i64 (m0.length:Int))),(45,(.int .i64 (g2:Int))),(84,(.bool t3))]∧Bs w A w' O'∧Lc 2 w' O' g1 26 [(.slice A8 x0.vars.length c9),(.slice t0 x0.init.length u0),(.slice v0 x0.goal.length w0),(.slice y0 x0.ops.length z0)]∧Vb w' (Fr 0 w' O') (.slice A8 x0.vars.length c9) x0.vars∧Vb w' (Fr 0 w' O') (.slice t0 x0.init.length u0) x0.init∧Vb w' (Fr 0 w' O') (.slice v0 x0.goal.length w0) x0.goal∧Vb w' (Fr 0 w' O') (.slice y0 x0.ops.length z0) x0.ops∧Vb w' (Fr 0 w' O') (.slice b2 f1.1.length c2) f1.1∧Ob 3 w' O' (.pointer (some ⟨i1,0,none⟩)) e2∧Vb w' (Fr 0 w' O') (.slice k1 m0.length l1) m0) ?_ ?_
  ·
   refine BZ (·=p3) [(0,true),(1,true),(2,true),(3,true),(4,true),(5,true),(6,true),(7,true),(8,true),(9,true),(10,true),(11,true),(12,true),(13,true),(14,true),(15,true),(16,true),(17,true),(18,true),(19,true),(20,true),(21,true),(22,true)] (by kernel_rfl) rfl (by kernel_rfl) rfl ?_
   refine AG rfl rfl rfl (Aw rfl (AQ (fun _ _=>Mm rfl) rfl (fun w1=>?_) (fun w1=>?_)))
   ·
    replace b0:=ip b0 w1
    refine AG rfl rfl rfl (Bg rfl rfl rfl rfl rfl (Bg rfl rfl rfl rfl rfl (Cn rfl rfl rfl rfl (AG rfl rfl rfl (Bg rfl rfl rfl rfl rfl (Bg rfl rfl rfl rfl rfl (Bg rfl rfl rfl rfl rfl (Bg rfl rfl rfl rfl rfl (Cn rfl rfl rfl rfl (AG rfl rfl rfl (Bg rfl rfl rfl rfl rfl (Bg rfl rfl rfl rfl rfl (Bg rfl rfl rfl rfl rfl (Bg rfl rfl rfl rfl rfl ?_))))))))))))))
    refine Bg rfl rfl rfl rfl rfl (Bg rfl rfl rfl rfl rfl (Bg rfl rfl rfl rfl rfl (Bg rfl rfl rfl rfl rfl (Bg rfl rfl rfl rfl rfl (Cn rfl rfl rfl rfl (h_z ?_))))))
    obtain rfl:=sm b0
    exact ⟨(),_,⟨rfl,rfl,rfl,rfl,rfl,rfl,rfl,trivial⟩,(hB.st d0).st a0,i0.st a0,h7.st a0,e0.st a0,f0.st a0,g0.st a0,(l0.st d0).st a0,p0.st a0,(h0.st d0).st a0⟩
   replace b0:=im b0 w1
   refine AG rfl rfl rfl (Aw rfl (Au rfl rfl (BF rfl rfl (Aw rfl (Au rfl rfl (AQ (fun _ _=>Cw rfl rfl) rfl (fun x1=>?_) (fun x1=>?_)))))))
   ·
    replace b0:=ip b0 x1
    refine Ct rfl rfl rfl rfl (AG rfl rfl rfl (Bg rfl rfl rfl rfl rfl (Bg rfl rfl rfl rfl rfl (Bg rfl rfl rfl rfl rfl (Bg rfl rfl rfl rfl rfl (Cn rfl rfl rfl rfl (AG rfl rfl rfl (Bg rfl rfl rfl rfl rfl (Bg rfl rfl rfl rfl rfl (Bg rfl rfl rfl rfl rfl (Bg rfl rfl rfl rfl rfl (Bg rfl rfl rfl rfl rfl (Bg rfl rfl rfl rfl rfl (Bg rfl rfl rfl rfl rfl ?_))))))))))))))
    refine Bg rfl rfl rfl rfl rfl (Bg rfl rfl rfl rfl rfl (Cn rfl rfl rfl rfl (h_z ?_)))
    obtain rfl:=sm b0
    exact ⟨(),_,⟨rfl,rfl,rfl,rfl,rfl,rfl,rfl,trivial⟩,(hB.st d0).st a0,i0.st a0,h7.st a0,e0.st a0,f0.st a0,g0.st a0,(l0.st d0).st a0,p0.st a0,(h0.st d0).st a0⟩
   replace b0:=im b0 x1
   refine Ct rfl rfl rfl rfl (AG rfl rfl rfl (Aw rfl (Au rfl rfl (BF rfl rfl (Aw rfl (Au rfl rfl (BF rfl rfl (Aw rfl (Au rfl rfl (GY rfl rfl ?_))))))))))
   replace l0:=(l0.st d0).st a0
   have w3:f1.1.length≤9223372036854775807:=Nat.le_trans l0.len.2.1 l0.len.2.2
   have l6:inI64 (f1.1.length:Int):=rngNat w3
   refine Aw rfl (Au rfl rfl (AQ (fun _ _=>AT rfl rfl) rfl (fun y1=>?_) (fun y1=>?_)))
   ·
    replace b0:=ip b0 y1
    refine Ct rfl rfl rfl rfl (AG rfl rfl rfl (Bg rfl rfl rfl rfl rfl (Bg rfl rfl rfl rfl rfl (Bg rfl rfl rfl rfl rfl (Bg rfl rfl rfl rfl rfl (Bg rfl rfl rfl rfl rfl (Bg rfl rfl rfl rfl rfl (Bg rfl rfl rfl rfl rfl (Bg rfl rfl rfl rfl rfl (Bg rfl rfl rfl rfl rfl (Cn rfl rfl rfl rfl (h_z ?_))))))))))))
    obtain rfl:=sm b0
    exact ⟨(),_,⟨rfl,rfl,rfl,rfl,rfl,rfl,rfl,trivial⟩,(hB.st d0).st a0,i0.st a0,h7.st a0,e0.st a0,f0.st a0,g0.st a0,l0,p0.st a0,(h0.st d0).st a0⟩
   replace b0:=im b0 y1
   refine Ct rfl rfl rfl rfl (AG rfl rfl rfl (Aw rfl (Au rfl rfl (BF rfl rfl (Aw rfl (Au rfl rfl (BF rfl rfl (Aw rfl (Au rfl rfl ?_)))))))))
   obtain ⟨m6,x3,b0⟩:=bs b0
   obtain ⟨y3,z3⟩:=AL x3
   obtain ⟨n6,o6,j4,i2,j2,k2,rfl,p6⟩:=l0.elem' z3
   refine HC (hA:=i2) (hj:=(Int.toNat_of_nonneg y3).symm) (hlt:=j2) rfl rfl rfl ?_
   refine Aw rfl (Au rfl rfl (Bh (hc:=cat0 k2) rfl rfl ?_))
   refine Aw rfl (Au rfl rfl (BF rfl rfl (Aw rfl (Au rfl rfl (BF rfl rfl (Aw rfl (Au rfl rfl ?_)))))))
   replace h0:=(h0.st d0).st a0
   obtain ⟨q6,r6,k4,l2,m2,n2,rfl,s6⟩:=h0.elem' o1
   refine HC (hA:=l2) (hj:=rfl) (hlt:=m2) rfl rfl rfl ?_
   refine Aw rfl (Au rfl rfl (Bh (hc:=cat0 n2) rfl rfl ?_))
   refine Aw rfl (Au rfl rfl (AQ (fun _ _=>Dt rfl rfl) rfl (fun z1=>?_) (fun z1=>?_)))
   ·
    replace b0:=ip b0 z1
    refine Ct rfl rfl rfl rfl (h_z ?_)
    obtain rfl:=sm b0
    exact ⟨(),_,⟨rfl,rfl,rfl,rfl,rfl,rfl,rfl,trivial⟩,(hB.st d0).st a0,i0.st a0,h7.st a0,e0.st a0,f0.st a0,g0.st a0,l0,p0.st a0,h0⟩
   replace b0:=im b0 z1
   refine Ct rfl rfl rfl rfl (h_z ?_)
   obtain rfl:=sm b0
   exact ⟨(),_,⟨rfl,rfl,rfl,rfl,rfl,rfl,rfl,trivial⟩,(hB.st d0).st a0,i0.st a0,h7.st a0,e0.st a0,f0.st a0,g0.st a0,l0,p0.st a0,h0⟩
  replace hB:=(hB.st d0).st a0
  replace h7:=h7.st a0
  replace e0:=e0.st a0
  replace f0:=f0.st a0
  replace g0:=g0.st a0
  replace i0:=i0.st a0
  replace l0:=(l0.st d0).st a0
  replace h0:=(h0.st d0).st a0
  replace p0:=p0.st a0
  rintro t6 u6 ⟨u3,w6,o2,hB,i0,h7,e0,f0,g0,l0,p0,h0⟩
  refine AP _ o2 ?_
  refine CO rfl (fun a2=>?_) (fun a2=>?_)
  ·
   replace c0:=ip c0 a2
   refine Al (Aj (At rfl rfl (o_z ?_)))
   refine AJ ?_
   obtain rfl:=sm c0
   obtain rfl:=b1 _ rfl
   obtain rfl:=sm (Cy hm)
   exact ret1v rfl (AA rfl) ⟨hB.ext,vBool⟩
  replace c0:=im' c0 a2
  refine AH ?_
  obtain rfl:=sm c0
  exact show Exists _ from ⟨_,(),rfl,⟨rfl,rfl,rfl,rfl,rfl,rfl,trivial⟩,_,hB,i0,h7,e0,f0,g0,l0,p0,h0⟩
 replace hB:=(hB.st o0).st s0
 rintro x6 y6 ⟨z6,a7,rfl,p2,b7,hB⟩
 replace hm:=Ba hm
 refine AP _ p2 ?_
 refine Al (Aj (At rfl rfl (o_z ?_)))
 refine AJ ?_
 obtain rfl:=sm hm
 exact ret1v rfl (AA rfl) ⟨hB.ext,vBool⟩
end
section
open Go Go.RowKit
def Le {α:Type} (x y:Option α):Prop:=∀ r,x=some r→y=some r
theorem Le.rf {α:Type} {x:Option α}:Le x x:=fun _ h=>h
theorem Le.bnd {α β:Type} {x x':Option α} {f f':α→Option β} (h:Le x x') (hf:∀ a,Le (f a) (f' a)):Le (bnd x f) (bnd x' f'):=fun r hr=>by
  obtain ⟨a,ha,hb⟩:=bs hr
  rw [h a ha,An]
  exact hf a r hb
theorem Le.ite {α:Type} {p:Prop} [Decidable p] {x x' y y':Option α} (h:Le x x') (k:Le y y'):Le (if p then x else y) (if p then x' else y'):=by
  by_cases hp:p
  · rw [if_pos hp,if_pos hp];exact h
  · rw [if_neg hp,if_neg hp];exact k
theorem Le.fin {σ κ:Type} {y:Fin σ κ} {f f':σ→Option κ} (hf:∀ a,Le (f a) (f' a)):Le (fin y f) (fin y f'):=by
  cases y with
  | done s=>exact hf s
  | ret c=>exact Le.rf
theorem Le.rng {α σ ρ:Type} {f f':Nat→α→σ→Option (Ctl σ ρ)} (hf:∀ k a s,Le (f k a s) (f' k a s)):∀ {xs:List α} {k:Nat} {s:σ},Le (rng f xs k s) (rng f' xs k s)
  | [],_,_=>Le.rf
  | x :: xs,k,s=>fun r hr=>by
    simp only [Proofs.YtkbmbcblgdgjlaaGreat.rng] at hr ⊢
    cases hc:f k x s with
    | none=>rw [hc] at hr;cases hr
    | some c =>
      rw [hc] at hr
      rw [hf k x s c hc]
      cases c with
      | next s'=>exact Le.rng hf r hr
      | brk s'=>exact hr
      | ret q=>exact hr
theorem Le.rngN {σ ρ:Type} {f f':Nat→σ→Option (Ctl σ ρ)} {n:Nat} {s:σ} (hf:∀ k s,Le (f k s) (f' k s)):Le (rngN f n s) (rngN f' n s):=Le.rng fun _ k s=>hf k s
theorem Le.itr {σ ρ:Type} {f f':σ→Option (Ctl σ ρ)} (hf:∀ s,Le (f s) (f' s)):∀ (n:Nat) (s:σ),Le (itr f n s) (itr f' n s)
  | 0,_=>Le.rf
  | n + 1,s=>fun r hr=>by
    simp only [Proofs.YtkbmbcblgdgjlaaGreat.itr] at hr ⊢
    cases hc:f s with
    | none=>rw [hc] at hr;cases hr
    | some c =>
      rw [hc] at hr
      rw [hf s c hc]
      cases c with
      | next s'=>exact Le.itr hf n s' r hr
      | brk s'=>exact hr
      | ret q=>exact hr
def lopE {σ ρ:Type} (f:σ→Option (Ctl σ ρ)) (s:σ):Option (Fin σ ρ):=itr f 600 s
theorem Le.lop {σ ρ:Type} {f f':σ→Option (Ctl σ ρ)} {s:σ} (hf:∀ s,Le (f s) (f' s)):Le (lopE f s) (lop f' s):=fun r hr=>Gu.2 ⟨600,Le.itr hf 600 s r hr⟩
end
section
open Go Go.RowKit
def factB (vars:List Int) (x:Fct):Bool:=decide (0≤x.var) && (decide (0≤x.val) && (match vars[x.var.toNat]? with|some y=>decide (x.val < y)|none=>false))
theorem LO {vars:List Int} {x:Fct} (h:factB vars x=true):FactOk vars x:=by
  unfold factB at h
  simp only [Bool.and_eq_true,decide_eq_true_eq] at h
  obtain ⟨h1,h2,h3⟩:=h
  cases hv:vars[x.var.toNat]? with
  | none=>rw [hv] at h3;cases h3
  | some y=>rw [hv] at h3;exact ⟨h1,h2,y,hv,by simpa using h3⟩
def ascB:List Fct→Bool
  | x :: y :: r=>decide (x.var < y.var) && ascB (y :: r)
  | _=>true
theorem Mv:∀ {f:List Fct},ascB f=true→∀ (i:Nat) x y,f[i]?=some x→f[i + 1]?=some y→x.var < y.var
  | [],_,i,x,y,h,_=>by simp at h
  | [_],_,i,x,y,_,h=>by simp at h
  | a :: b :: r,h,i,x,y,h1,h2=>by
    simp only [ascB,Bool.and_eq_true,decide_eq_true_eq] at h
    cases i with
    | zero=>simp at h1 h2;subst h1;subst h2;exact h.1
    | succ i=>exact Mv h.2 i x y (by simpa using h1) (by simpa using h2)
def factsB (vars:List Int) (f:List Fct):Bool:=f.all (factB vars) && ascB f
theorem IK {vars:List Int} {f:List Fct} (h:factsB vars f=true):FactsOk vars f:=by
  unfold factsB at h
  rw [Bool.and_eq_true,List.all_eq_true] at h
  exact ⟨fun i x hx=>LO (h.1 x (List.mem_of_getElem? hx)),Mv h.2⟩
def stateB:List Int→List Int→Bool
  | [],[]=>true
  | y :: vars,x :: s=>decide (0≤x) && (decide (x < y) && stateB vars s)
  | _,_=>false
theorem IL:∀ {vars s:List Int},stateB vars s=true→StateOk vars s
  | [],[],_=>⟨rfl,fun i x y h=>by simp at h⟩
  | y :: vars,x :: s,h=>by
    simp only [stateB,Bool.and_eq_true,decide_eq_true_eq] at h
    obtain ⟨h1,h2⟩:=IL h.2.2
    refine ⟨by simp [h1],fun i a b ha hb=>?_⟩
    cases i with
    | zero=>simp at ha hb;subst ha;subst hb;exact ⟨h.1,h.2.1⟩
    | succ i=>exact h2 i a b (by simpa using ha) (by simpa using hb)
  | [],_ :: _,h=>by simp [stateB] at h
  | _ :: _,[],h=>by simp [stateB] at h
def nameB (s:ByteArray):Bool:=decide (s.size≤256) && s.data.toList.all fun c=>decide (32≤c.toNat) && decide (c.toNat≤126)
theorem OG {s:ByteArray} (h:nameB s=true):NameOk s:=by
  unfold nameB at h
  simp only [Bool.and_eq_true,decide_eq_true_eq,List.all_eq_true] at h
  refine ⟨h.1,fun i hi=>h.2 _ ?_⟩
  show s.data[i]∈_
  simp
def opB (vars:List Int) (o:Opr):Bool:=decide (0≤o.cost) && (decide (o.cost≤1048576) && (decide (o.effs.length≤64) && (nameB o.name && (factsB vars o.pre && o.effs.all fun e=>factsB vars e.cond && factB vars ⟨e.var,e.val⟩))))
theorem QH {vars:List Int} {o:Opr} (h:opB vars o=true):OpOk vars o:=by
  unfold opB at h
  simp only [Bool.and_eq_true,decide_eq_true_eq,List.all_eq_true] at h
  obtain ⟨h1,h2,h3,h4,h5,h6⟩:=h
  exact ⟨h1,h2,h3,OG h4,IK h5,fun i e he=>⟨IK (h6 e (List.mem_of_getElem? he)).1,LO (h6 e (List.mem_of_getElem? he)).2⟩⟩
def taskB (t:Tsk):Bool:=decide (t.vars.length≤64) && (decide (t.ops.length≤4096) && ((t.vars.all fun n=>decide (1≤n) && decide (n≤64)) && (stateB t.vars t.init && (factsB t.vars t.goal && t.ops.all (opB t.vars)))))
theorem OH {t:Tsk} (h:taskB t=true):TaskOk t:=by
  unfold taskB at h
  simp only [Bool.and_eq_true,decide_eq_true_eq,List.all_eq_true] at h
  obtain ⟨h1,h2,h3,h4,h5,h6⟩:=h
  exact ⟨h1,h2,fun i n hn=>h3 n (List.mem_of_getElem? hn),IL h4,IK h5,fun i o ho=>QH (h6 o (List.mem_of_getElem? ho))⟩
def GE (f:List Fct) (s:List Int):Option Bool:=Cq f s
theorem Ib (f:List Fct) (s:List Int):Le (GE f s) (Cq f s):=Le.rf
def De (x:List Int):Option (List Int):=By x
theorem EL (x:List Int):Le (De x) (By x):=Le.rf
end
section
open Go Go.RowKit
set_option maxRecDepth 20000
attribute [local irreducible] bnd fin rng rngN chkI mkI appI atI natI quoI remI Be By BQ
def Eh (x:List U64):Option (List U64):=BQ x
theorem Fy (x:List U64):Le (Eh x) (BQ x):=Le.rf
def Cs (x:List Fct):Option (List Fct):=Be x
theorem EX (x:List Fct):Le (Cs x) (Be x):=Le.rf
def Gc (x:List (List Arc)) (y z:List Int):Option (List Int×List Int):=Dr x y z
theorem IM (x:List (List Arc)) (y z:List Int):Le (Gc x y z) (Dr x y z):=Le.rf
def Jm (x y:Err):Option Bool:=Ef x y
theorem LP (x y:Err):Le (Jm x y) (Ef x y):=Le.rf
def Ic (t:Tsk):Option (Option Gnr×Err):=if taskB t=true then some (some ⟨t⟩,⟨0⟩) else none
theorem Kt (t:Tsk):Le (Ic t) (Db t):=fun r h=>by
  obtain ⟨h1,rfl⟩:=Fe h
  exact Lw (OH h1)
def CZ (x:Option Gnr) (s:List Int):Option (List Int):=match x with
  | some g=>if stateB g.t.vars s=true then (if s.length≤1000000 then some (appl g.t s) else none) else none
  | none=>none
theorem Fk (x:Option Gnr) (s:List Int):Le (CZ x s) (Ch x s):=fun r h=>by
  cases x with
  | none=>cases h
  | some g =>
    unfold CZ at h
    dsimp only at h
    split at h
    · rename_i h1
      obtain ⟨h3,rfl⟩:=Fe h
      unfold Ch
      rw [if_pos h3]
      show some (appS g.t s)=_
      rw [Gj (IL h1)]
    · cases h
noncomputable def HM (x0:List Int):Option ((Option Pkr)×Err) :=
  if 64 < (x0.length:Int) then (some (none,(⟨5⟩:Err))) else (bnd (rng (ρ:=(Option Pkr)×Err) (fun (k25:Nat) (a26:Int) (s23:Int×Pkr)=>bnd (if a26 < 1 then (some true) else (if 64 < a26 then (some true) else (some false)):Option Bool) fun y48=>if y48=true then (some (.ret (none,(⟨1⟩:Err)))) else (bnd (lopE (ρ:=Ctl (Int×Pkr) ((Option Pkr)×Err)) (fun (s61:Int)=>bnd (shlI 1 s61) fun n76=>if n76 < a26 then (bnd (chkI (s61 + 1)) fun n80=>some (.next n80)) else (some (.brk s61))) 0) fun res59=>fin res59 fun (s87:Int)=>bnd (bnd (chkI (s23.1 + s87)) fun n95=>if 64 < n95 then (bnd (chkI (s23.2.words + 1)) fun n109=>some (0,(⟨s23.2.fields,n109⟩:Pkr))) else (some (s23.1,s23.2)):Option (Int×Pkr)) fun y89=>bnd (chkI (y89.2.words - 1)) fun n133=>bnd (appI 32 y89.2.fields [(⟨n133,y89.1,s87,a26⟩:PFd)]) fun u142=>bnd (chkI (y89.1 + s87)) fun n155=>some (.next (n155,(⟨u142,y89.2.words⟩:Pkr))))) x0 0 (0,(⟨([]:List PFd),1⟩:Pkr))) fun res21=>fin res21 fun (s167:Int×Pkr)=>some ((some s167.2),(⟨0⟩:Err)))
theorem Me (x0:List Int):Le (HM x0) (Et x0):=by
  unfold HM Et
  repeat' (first|apply Le.ite|apply Le.bnd|apply Le.fin|apply Le.rng|apply Le.rngN|apply Le.lop|exact Le.rf|intro _)
noncomputable def Ei (x0:PFd):Option U64 :=
  bnd (shlU (1:U64) x0.width) fun n12=>bnd (shlU (n12 - (1:U64)) x0.bit) fun n14=>some n14
theorem FW (x0:PFd):Le (Ei x0) (Cz x0):=by
  unfold Ei Cz
  repeat' (first|apply Le.ite|apply Le.bnd|apply Le.fin|apply Le.rng|apply Le.rngN|apply Le.lop|exact Le.rf|intro _)
noncomputable def Ff (x0:PFd) (x1:List U64):Option Int :=
  bnd (atI x1 x0.word) fun a15=>bnd (Ei x0) fun q26=>bnd (shrU (a15 &&& q26) x0.bit) fun n33=>some n33.toInt
theorem Jd (x0:PFd) (x1:List U64):Le (Ff x0 x1) (CS x0 x1):=by
  unfold Ff CS
  repeat' (first|apply FW|apply Le.ite|apply Le.bnd|apply Le.fin|apply Le.rng|apply Le.rngN|apply Le.lop|exact Le.rf|intro _)
noncomputable def EM (x0:Pkr) (x1:List Int):Option ((List U64)×Err) :=
  if (x1.length:Int)≠(x0.fields.length:Int) then (some (([]:List U64),(⟨2⟩:Err))) else (bnd (mkI 8 ((0:U64):U64) x0.words) fun u25=>bnd (rng (ρ:=(List U64)×Err) (fun (k50:Nat) (a51:PFd) (s48:(List U64))=>bnd (bnd (x1[k50]?) fun a87=>if a87 < 0 then (some true) else (bnd (x1[k50]?) fun a98=>if a51.size≤a98 then (some true) else (some false)):Option Bool) fun y83=>if y83=true then (some (.ret (([]:List U64),(⟨2⟩:Err)))) else (bnd (atI s48 a51.word) fun a114=>bnd (x1[k50]?) fun a125=>bnd (shlU (BitVec.ofInt 64 a125) a51.bit) fun n135=>bnd (atI s48 a51.word) fun a137=>some (.next (s48.set (a51.word:Int).toNat (a114 ||| n135))))) x0.fields 0 u25) fun res46=>fin res46 fun (s154:(List U64))=>some (s154,(⟨0⟩:Err)))
theorem Ih (x0:Pkr) (x1:List Int):Le (EM x0 x1) (BE x0 x1):=by
  unfold EM BE
  repeat' (first|apply Le.ite|apply Le.bnd|apply Le.fin|apply Le.rng|apply Le.rngN|apply Le.lop|exact Le.rf|intro _)
noncomputable def Eu (x0:Pkr) (x1:List U64):Option ((List Int)×Err) :=
  if (x1.length:Int)≠x0.words then (some (([]:List Int),(⟨2⟩:Err))) else (bnd (mkI 8 (0:Int) (x0.fields.length:Int)) fun u25=>bnd (Eh x1) fun q38=>bnd (rng (ρ:=(List Int)×Err) (fun (k60:Nat) (a61:PFd) (s58:(List Int)×(List U64))=>bnd (Ff a61 x1) fun q97=>bnd (s58.1[k60]?) fun a105=>bnd ((s58.1.set k60 q97)[k60]?) fun a117=>if a61.size≤a117 then (some (.ret (([]:List Int),(⟨2⟩:Err)))) else (bnd (atI s58.2 a61.word) fun a128=>bnd (Ei a61) fun q139=>bnd (atI s58.2 a61.word) fun a146=>some (.next ((s58.1.set k60 q97),(s58.2.set (a61.word:Int).toNat (a128 &&& ~~~q139)))))) x0.fields 0 (u25,q38)) fun res56=>fin res56 fun (s163:(List Int)×(List U64))=>bnd (rng (ρ:=(List Int)×Err) (fun (k171:Nat) (a172:U64) (s169:Unit)=>bnd (s163.2[k171]?) fun a182=>if (a182.toNat:Int)≠((0:U64).toNat:Int) then (some (.ret (([]:List Int),(⟨2⟩:Err)))) else (some (.next ()))) q38 0 ()) fun res167=>fin res167 fun (s196:Unit)=>some (s163.1,(⟨0⟩:Err)))
theorem Hs (x0:Pkr) (x1:List U64):Le (Eu x0 x1) (Cv x0 x1):=by
  unfold Eu Cv
  repeat' (first|apply Jd|apply FW|apply Fy|apply Le.ite|apply Le.bnd|apply Le.fin|apply Le.rng|apply Le.rngN|apply Le.lop|exact Le.rf|intro _)
noncomputable def EN (x0:Pkr) (x1:List U64):Option Int :=
  bnd (rng (ρ:=Int) (fun (k13:Nat) (a14:U64) (s11:U64)=>bnd (shrU ((s11 ^^^ a14) * (13787848793156543929:U64)) 29) fun n31=>some (.next (((s11 ^^^ a14) * (13787848793156543929:U64)) ^^^ n31))) x1 0 ((BitVec.ofInt 64 (x1.length:Int)) + (11400714819323198485:U64))) fun res9=>fin res9 fun (s37:U64)=>bnd (shrU s37 2) fun n39=>some n39.toInt
theorem Ii (x0:Pkr) (x1:List U64):Le (EN x0 x1) (BS x0 x1):=by
  unfold EN BS
  repeat' (first|apply Le.ite|apply Le.bnd|apply Le.fin|apply Le.rng|apply Le.rngN|apply Le.lop|exact Le.rf|intro _)
noncomputable def Dd (x0:List U64) (x1:List U64):Option Bool :=
  if (x0.length:Int)≠(x1.length:Int) then (some false) else (bnd (rng (ρ:=Bool) (fun (k18:Nat) (a19:U64) (s16:Unit)=>bnd (x1[k18]?) fun a36=>if (a19.toNat:Int)≠(a36.toNat:Int) then (some (.ret false)) else (some (.next ()))) x0 0 ()) fun res14=>fin res14 fun (s50:Unit)=>some true)
theorem Fz (x0:List U64) (x1:List U64):Le (Dd x0 x1) (Bv x0 x1):=by
  unfold Dd Bv
  repeat' (first|apply Le.ite|apply Le.bnd|apply Le.fin|apply Le.rng|apply Le.rngN|apply Le.lop|exact Le.rf|intro _)
noncomputable def FN (x0:List Int):Option ((Option Reg)×Err) :=
  bnd (HM x0) fun q4=>if q4.2.n≠0 then (some (none,(⟨q4.2.n⟩:Err))) else (bnd q4.1 fun o22=>some ((some (⟨o22,([]:List REn),(⟨[]⟩:MapR 3 Int Int)⟩:Reg)),(⟨0⟩:Err)))
theorem Kd (x0:List Int):Le (FN x0) (CV x0):=by
  unfold FN CV
  repeat' (first|apply Me|apply Le.ite|apply Le.bnd|apply Le.fin|apply Le.rng|apply Le.rngN|apply Le.lop|exact Le.rf|intro _)
noncomputable def DK (x0:Reg) (x1:List Int):Option ((List U64)×Int×Int×Err) :=
  bnd (EM x0.packer x1) fun q20=>if q20.2.n≠0 then (some (([]:List U64),0,(-1),(⟨2⟩:Err))) else (bnd (EN x0.packer q20.1) fun q41=>bnd (rng (ρ:=(List U64)×Int×Int×Err) (fun (k66:Nat) (a67:Int) (s64:Unit)=>bnd (atI x0.entries a67) fun a100=>bnd (Dd a100.words q20.1) fun q118=>if q118=true then some (.ret (q20.1,q41,a67,(⟨0⟩:Err))) else some (.next ())) (mget ([]:List Int) x0.table.l q41) 0 ()) fun res62=>fin res62 fun (s139:Unit)=>some (q20.1,q41,(-1),(⟨0⟩:Err)))
theorem Gh (x0:Reg) (x1:List Int):Le (DK x0 x1) (Bq x0 x1):=by
  unfold DK Bq
  repeat' (first|apply Ii|apply Ih|apply Fz|apply Le.ite|apply Le.bnd|apply Le.fin|apply Le.rng|apply Le.rngN|apply Le.lop|exact Le.rf|intro _)
noncomputable def Df (x0:Reg) (x1:List Int):Option (Int×Bool×Err×Reg) :=
  bnd (DK x0 x1) fun q5=>if q5.2.2.2.n≠0 then (some (0,false,(⟨q5.2.2.2.n⟩:Err),x0)) else (if 0≤q5.2.2.1 then (some (q5.2.2.1,false,(⟨0⟩:Err),x0)) else (if 65536≤(x0.entries.length:Int) then (some (0,false,(⟨10⟩:Err),x0)) else (bnd (appI 48 x0.entries [(⟨q5.1,(⟨(-1),(-1),0⟩:RLk)⟩:REn)]) fun u53=>bnd (appI 8 (mget ([]:List Int) x0.table.l q5.2.1) ([(x0.entries.length:Int)]:List Int)) fun u82=>some ((x0.entries.length:Int),true,(⟨0⟩:Err),(⟨x0.packer,u53,(⟨mput x0.table.l q5.2.1 u82⟩:MapR 3 Int Int)⟩:Reg)))))
theorem GF (x0:Reg) (x1:List Int):Le (Df x0 x1) (Bj x0 x1):=by
  unfold Df Bj
  repeat' (first|apply Gh|apply Le.ite|apply Le.bnd|apply Le.fin|apply Le.rng|apply Le.rngN|apply Le.lop|exact Le.rf|intro _)
noncomputable def CH (x0:Reg):Option Int :=
  some (x0.entries.length:Int)
theorem DL (x0:Reg):Le (CH x0) (Bd x0):=by
  unfold CH Bd
  repeat' (first|apply Le.ite|apply Le.bnd|apply Le.fin|apply Le.rng|apply Le.rngN|apply Le.lop|exact Le.rf|intro _)
noncomputable def DP (x0:Reg) (x1:Int):Option Bool :=
  bnd (if 0≤x1 then (if x1 < (x0.entries.length:Int) then (some true) else (some false)) else (some false):Option Bool) fun y3=>some y3
theorem GG (x0:Reg) (x1:Int):Le (DP x0 x1) (Cc x0 x1):=by
  unfold DP Cc
  repeat' (first|apply Le.ite|apply Le.bnd|apply Le.fin|apply Le.rng|apply Le.rngN|apply Le.lop|exact Le.rf|intro _)
noncomputable def Dy (x0:Reg) (x1:Int):Option ((List Int)×Err) :=
  bnd (DP x0 x1) fun q3=>if q3=true then bnd (atI x0.entries x1) fun a27=>bnd (Eu x0.packer a27.words) fun q45=>some (q45.1,(⟨q45.2.n⟩:Err)) else some (([]:List Int),(⟨1⟩:Err))
theorem FZ (x0:Reg) (x1:Int):Le (Dy x0 x1) (Bp x0 x1):=by
  unfold Dy Bp
  repeat' (first|apply Hs|apply GG|apply Le.ite|apply Le.bnd|apply Le.fin|apply Le.rng|apply Le.rngN|apply Le.lop|exact Le.rf|intro _)
noncomputable def Da (x0:Option Gnr) (x1:List Int):Option (List Suc) :=
  bnd (CZ x0 x1) fun q7=>bnd (rng (ρ:=(List Suc)) (fun (k23:Nat) (a24:Int) (s21:(List Suc))=>bnd (De x1) fun q46=>bnd (x0) fun o56=>bnd (atI o56.t.ops a24) fun a88=>bnd (rng (ρ:=Ctl (List Suc) (List Suc)) (fun (k115:Nat) (a116:Eff) (s113:(List Int))=>bnd (GE a116.cond x1) fun q150=>if q150=true then bnd (atI s113 a116.var) fun a157=>some (.next (s113.set (a116.var:Int).toNat a116.val)) else some (.next s113)) a88.effs 0 q46) fun res111=>fin res111 fun (s175:(List Int))=>bnd (appI 32 s21 [(⟨a24,s175⟩:Suc)]) fun u179=>some (.next u179)) q7 0 ([]:List Suc)) fun res19=>fin res19 fun (s195:(List Suc))=>some s195
theorem Fl (x0:Option Gnr) (x1:List Int):Le (Da x0 x1) (AX x0 x1):=by
  unfold Da AX
  repeat' (first|apply EL|apply Fk|apply Ib|apply Le.ite|apply Le.bnd|apply Le.fin|apply Le.rng|apply Le.rngN|apply Le.lop|exact Le.rf|intro _)
noncomputable def GH  : Option (Option Que) :=
  some (some (⟨([]:List QEn),0⟩:Que))
theorem KS  : Le (GH ) (DJ ):=by
  unfold GH DJ
  repeat' (first|apply Le.ite|apply Le.bnd|apply Le.fin|apply Le.rng|apply Le.rngN|apply Le.lop|exact Le.rf|intro _)
noncomputable def DY (x0:QEn) (x1:QEn):Option Bool :=
  if x0.key≠x1.key then (bnd (if x0.key < x1.key then (some true) else (some false):Option Bool) fun y24=>some y24) else (if x0.tie≠x1.tie then (bnd (if x0.tie < x1.tie then (some true) else (some false):Option Bool) fun y34=>some y34) else (bnd (if x0.number < x1.number then (some true) else (some false):Option Bool) fun y43=>some y43))
theorem GI (x0:QEn) (x1:QEn):Le (DY x0 x1) (BU x0 x1):=by
  unfold DY BU
  repeat' (first|apply Le.ite|apply Le.bnd|apply Le.fin|apply Le.rng|apply Le.rngN|apply Le.lop|exact Le.rf|intro _)
noncomputable def EO (x0:Que):Option Int :=
  some (x0.heap.length:Int)
theorem Ij (x0:Que):Le (EO x0) (CE x0):=by
  unfold EO CE
  repeat' (first|apply Le.ite|apply Le.bnd|apply Le.fin|apply Le.rng|apply Le.rngN|apply Le.lop|exact Le.rf|intro _)
noncomputable def EC (x0:Que):Option (Int×Int×Int×Err) :=
  if (x0.heap.length:Int)=0 then (some (0,0,0,(⟨3⟩:Err))) else (bnd (atI x0.heap 0) fun a20=>some (a20.key,a20.tie,a20.item,(⟨0⟩:Err)))
theorem HN (x0:Que):Le (EC x0) (CK x0):=by
  unfold EC CK
  repeat' (first|apply Le.ite|apply Le.bnd|apply Le.fin|apply Le.rng|apply Le.rngN|apply Le.lop|exact Le.rf|intro _)
noncomputable def EY (x0:Que) (x1:Int):Option Que :=
  bnd (lopE (ρ:=Que) (fun (s5:Int×Que)=>if 0 < s5.1 then (bnd (chkI (s5.1 - 1)) fun n23=>bnd (quoI n23 2) fun n26=>bnd (atI s5.2.heap s5.1) fun a39=>bnd (atI s5.2.heap n26) fun a54=>bnd (DY a39 a54) fun q69=>if q69=true then bnd (atI s5.2.heap n26) fun a81=>bnd (atI s5.2.heap s5.1) fun a96=>bnd (atI s5.2.heap s5.1) fun a111=>bnd (atI (s5.2.heap.set (s5.1:Int).toNat a81) n26) fun a128=>some (.next (n26,(⟨((s5.2.heap.set (s5.1:Int).toNat a81).set (n26:Int).toNat a96),s5.2.next⟩:Que))) else some (.ret s5.2)) else (some (.brk (s5.1,s5.2)))) (x1,x0)) fun res3=>fin res3 fun (s154:Int×Que)=>some s154.2
theorem IN (x0:Que) (x1:Int):Le (EY x0 x1) (CI x0 x1):=by
  unfold EY CI
  repeat' (first|apply GI|apply Le.ite|apply Le.bnd|apply Le.fin|apply Le.rng|apply Le.rngN|apply Le.lop|exact Le.rf|intro _)
noncomputable def ED (x0:Que) (x1:Int):Option Que :=
  bnd (lopE (ρ:=Que) (fun (s5:Int×Que)=>bnd (chkI (2 * s5.1)) fun n22=>bnd (chkI (n22 + 1)) fun n25=>if (s5.2.heap.length:Int)≤n25 then (some (.ret s5.2)) else (bnd (bnd (bnd (chkI (n25 + 1)) fun n55=>if n55 < (s5.2.heap.length:Int) then (bnd (chkI (n25 + 1)) fun n61=>bnd (atI s5.2.heap n61) fun a64=>bnd (atI s5.2.heap n25) fun a79=>bnd (DY a64 a79) fun q94=>if q94=true then some true else some false) else (some false):Option Bool) fun y51=>if y51=true then (bnd (chkI (n25 + 1)) fun n121=>some n121) else (some n25):Option Int) fun y46=>bnd (atI s5.2.heap y46) fun a138=>bnd (atI s5.2.heap s5.1) fun a153=>bnd (DY a138 a153) fun q168=>if q168=true then bnd (atI s5.2.heap y46) fun a180=>bnd (atI s5.2.heap s5.1) fun a195=>bnd (atI s5.2.heap s5.1) fun a210=>bnd (atI (s5.2.heap.set (s5.1:Int).toNat a180) y46) fun a227=>some (.next (y46,(⟨((s5.2.heap.set (s5.1:Int).toNat a180).set (y46:Int).toNat a195),s5.2.next⟩:Que))) else some (.ret s5.2))) (x1,x0)) fun res3=>fin res3 fun (_:Int×Que)=>none
theorem HO (x0:Que) (x1:Int):Le (ED x0 x1) (CA x0 x1):=by
  unfold ED CA
  repeat' (first|apply GI|apply Le.ite|apply Le.bnd|apply Le.fin|apply Le.rng|apply Le.rngN|apply Le.lop|exact Le.rf|intro _)
noncomputable def DM (x0:Que) (x1:Int) (x2:Int) (x3:Int):Option (Err×Que) :=
  if 65536≤(x0.heap.length:Int) then (some ((⟨10⟩:Err),x0)) else (bnd (appI 32 x0.heap [(⟨x1,x2,x3,x0.next⟩:QEn)]) fun u29=>bnd (chkI (x0.next + 1)) fun n42=>bnd (chkI ((u29.length:Int) - 1)) fun n49=>bnd (EY (⟨u29,n42⟩:Que) n49) fun q57=>some ((⟨0⟩:Err),q57))
theorem HP (x0:Que) (x1:Int) (x2:Int) (x3:Int):Le (DM x0 x1 x2 x3) (BJ x0 x1 x2 x3):=by
  unfold DM BJ
  repeat' (first|apply IN|apply Le.ite|apply Le.bnd|apply Le.fin|apply Le.rng|apply Le.rngN|apply Le.lop|exact Le.rf|intro _)
noncomputable def EP (x0:Que):Option (Int×Int×Int×Err×Que) :=
  bnd (EC x0) fun q2=>if q2.2.2.2.n≠0 then (some (0,0,0,(⟨q2.2.2.2.n⟩:Err),x0)) else (bnd (chkI ((x0.heap.length:Int) - 1)) fun n35=>bnd (atI x0.heap n35) fun a38=>bnd (atI x0.heap 0) fun a53=>bnd (cutI (x0.heap.set (0:Int).toNat a38) 0 n35) fun u70=>bnd (ED (⟨u70,x0.next⟩:Que) 0) fun q82=>some (q2.1,q2.2.1,q2.2.2.1,(⟨0⟩:Err),q82))
theorem Ik (x0:Que):Le (EP x0) (Cu x0):=by
  unfold EP Cu
  repeat' (first|apply HN|apply HO|apply Le.ite|apply Le.bnd|apply Le.fin|apply Le.rng|apply Le.rngN|apply Le.lop|exact Le.rf|intro _)
noncomputable def Fg (x0:Tsk):Option Tsk :=
  bnd (De x0.vars) fun q29=>bnd (De x0.init) fun q31=>bnd (Cs x0.goal) fun q33=>bnd (some (q29,q31,q33):Option ((List Int)×(List Int)×(List Fct))) fun y35=>bnd (rng (ρ:=Tsk) (fun (k156:Nat) (a157:Opr) (s154:(List Opr))=>bnd (Cs a157.pre) fun q195=>bnd (rng (ρ:=Ctl (List Opr) Tsk) (fun (k213:Nat) (a214:Eff) (s211:(List Eff))=>bnd (Cs a214.cond) fun q248=>bnd (appI 40 s211 [(⟨q248,a214.var,a214.val⟩:Eff)]) fun u262=>some (.next u262)) a157.effs 0 ([]:List Eff)) fun res209=>fin res209 fun (s278:(List Eff))=>bnd (appI 72 s154 [(⟨a157.name,a157.cost,q195,s278⟩:Opr)]) fun u286=>some (.next u286)) x0.ops 0 ([]:List Opr)) fun res152=>fin res152 fun (s304:(List Opr))=>some (⟨y35.1,y35.2.1,y35.2.2,s304⟩:Tsk)
theorem Je (x0:Tsk):Le (Fg x0) (CF x0):=by
  unfold Fg CF
  repeat' (first|apply EX|apply EL|apply Le.ite|apply Le.bnd|apply Le.fin|apply Le.rng|apply Le.rngN|apply Le.lop|exact Le.rf|intro _)
noncomputable def DZ (x0:List (List Arc)) (x1:List Int):Option ((List Int)×(List Int)) :=
  bnd (mkI 8 (0:Int) (x0.length:Int)) fun u7=>bnd (mkI 8 (0:Int) (x0.length:Int)) fun u9=>bnd (some (u7,u9):Option ((List Int)×(List Int))) fun y11=>bnd (rngN (ρ:=(List Int)×(List Int)) (fun (k77:Nat) (s75:(List Int)×(List Int))=>bnd (s75.1[k77]?) fun a104=>bnd (s75.2[k77]?) fun a116=>some (.next ((s75.1.set k77 1125899906842624),(s75.2.set k77 1125899906842624)))) y11.1.length (y11.1,y11.2)) fun res73=>fin res73 fun (s132:(List Int)×(List Int))=>bnd (GH) fun q134=>bnd q134 fun o144=>bnd (rng (ρ:=(List Int)×(List Int)) (fun (k151:Nat) (a152:Int) (s149:(List Int)×(List Int)×Que)=>bnd (atI s149.1 a152) fun a180=>bnd (atI s149.2.1 a152) fun a194=>bnd (DM s149.2.2 0 0 a152) fun q208=>some (.next ((s149.1.set (a152:Int).toNat 0),(s149.2.1.set (a152:Int).toNat 0),q208.2))) x1 0 (s132.1,s132.2,o144)) fun res147=>fin res147 fun (s222:(List Int)×(List Int)×Que)=>bnd (lopE (ρ:=(List Int)×(List Int)) (fun (s226:(List Int)×(List Int)×Que)=>bnd (EO s226.2.2) fun q249=>if 0 < q249 then (bnd (EP s226.2.2) fun q260=>if q260.2.2.2.1.n≠0 then (some (.brk (s226.1,s226.2.1,q260.2.2.2.2))) else (bnd (bnd (atI s226.1 q260.2.2.1) fun a285=>if q260.1≠a285 then (some true) else (bnd (atI s226.2.1 q260.2.2.1) fun a298=>if q260.2.1≠a298 then (some true) else (some false)):Option Bool) fun y281=>if y281=true then (some (.next (s226.1,s226.2.1,q260.2.2.2.2))) else (bnd (atI x0 q260.2.2.1) fun a316=>bnd (rng (ρ:=Ctl ((List Int)×(List Int)×Que) ((List Int)×(List Int))) (fun (k337:Nat) (a338:Arc) (s335:(List Int)×(List Int)×Que)=>bnd (chkI (q260.1 + a338.weight)) fun n375=>bnd (chkI (q260.2.1 + 1)) fun n378=>bnd (bnd (atI s335.1 a338.dst) fun a385=>if a385 < n375 then (some true) else (bnd (atI s335.1 a338.dst) fun a398=>if n375=a398 then (bnd (atI s335.2.1 a338.dst) fun a411=>if a411≤n378 then (some true) else (some false)) else (some false)):Option Bool) fun y381=>if y381=true then (some (.next (s335.1,s335.2.1,s335.2.2))) else (bnd (atI s335.1 a338.dst) fun a429=>bnd (atI s335.2.1 a338.dst) fun a443=>bnd (DM s335.2.2 n375 n378 a338.dst) fun q457=>if q457.1.n≠0 then (bnd (Gc x0 (s335.1.set (a338.dst:Int).toNat n375) (s335.2.1.set (a338.dst:Int).toNat n378)) fun q472=>some (.ret (.ret (q472.1,q472.2)))) else (some (.next ((s335.1.set (a338.dst:Int).toNat n375),(s335.2.1.set (a338.dst:Int).toNat n378),q457.2))))) a316 0 (s226.1,s226.2.1,q260.2.2.2.2)) fun res333=>fin res333 fun (s491:(List Int)×(List Int)×Que)=>some (.next (s491.1,s491.2.1,s491.2.2))))) else (some (.brk (s226.1,s226.2.1,s226.2.2)))) (s222.1,s222.2.1,s222.2.2)) fun res224=>fin res224 fun (s497:(List Int)×(List Int)×Que)=>some (s497.1,s497.2.1)
theorem Il (x0:List (List Arc)) (x1:List Int):Le (DZ x0 x1) (Bu x0 x1):=by
  unfold DZ Bu
  repeat' (first|apply IM|apply KS|apply Ij|apply Ik|apply HP|apply Le.ite|apply Le.bnd|apply Le.fin|apply Le.rng|apply Le.rngN|apply Le.lop|exact Le.rf|intro _)
noncomputable def DQ (x0:Spa):Option Spa :=
  bnd (CH x0.states) fun q45=>bnd (mkI 24 ([]:List Arc) q45) fun u55=>bnd (mkI 24 ([]:List Arc) q45) fun u57=>bnd (some (u55,u57):Option ((List (List Arc))×(List (List Arc)))) fun y59=>bnd (rng (ρ:=Spa) (fun (k179:Nat) (a180:Edj) (s177:(List (List Arc))×(List (List Arc)))=>bnd (atI x0.t.ops a180.label) fun a258=>bnd (atI s177.1 a180.src) fun a279=>bnd (appI 24 a279 [(⟨a180.src,a180.dst,a258.cost⟩:Arc)]) fun u304=>bnd (atI s177.1 a180.src) fun a315=>bnd (atI s177.2 a180.dst) fun a330=>bnd (appI 24 a330 [(⟨a180.dst,a180.src,a258.cost⟩:Arc)]) fun u355=>bnd (atI s177.2 a180.dst) fun a366=>some (.next ((s177.1.set (a180.src:Int).toNat u304),(s177.2.set (a180.dst:Int).toNat u355)))) x0.edges 0 (y59.1,y59.2)) fun res175=>fin res175 fun (s390:(List (List Arc))×(List (List Arc)))=>bnd (rng (ρ:=Spa) (fun (k446:Nat) (a447:Bool) (s444:(List Int))=>if a447=true then (bnd (appI 8 s444 [(k446:Int)]) fun u469=>some (.next u469)) else (some (.next s444))) x0.goals 0 ([]:List Int)) fun res442=>fin res442 fun (s485:(List Int))=>bnd (DZ s390.1 ([0]:List Int)) fun q497=>bnd (DZ s390.2 s485) fun q561=>some (⟨(⟨x0.t.vars,x0.t.init,x0.t.goal,x0.t.ops⟩:Tsk),x0.states,x0.edges,x0.goals,q497.1,q561.1,q561.2⟩:Spa)
theorem GJ (x0:Spa):Le (DQ x0) (BM x0):=by
  unfold DQ BM
  repeat' (first|apply Il|apply DL|apply Le.ite|apply Le.bnd|apply Le.fin|apply Le.rng|apply Le.rngN|apply Le.lop|exact Le.rf|intro _)
noncomputable def EZ (x0:Tsk) (x1:Int):Option ((Option Spa)×Err) :=
  bnd (Ic x0) fun q25=>if q25.2.n≠0 then (some (none,(⟨q25.2.n⟩:Err))) else (bnd (FN x0.vars) fun q40=>if q40.2.n≠0 then (some (none,(⟨q40.2.n⟩:Err))) else (if (max 0 (min x1 65536)) < 1 then (some (none,(⟨10⟩:Err))) else (bnd q40.1 fun o54=>bnd (Df o54 x0.init) fun q57=>if q57.2.2.1.n≠0 then (some (none,(⟨q57.2.2.1.n⟩:Err))) else (bnd (Fg x0) fun q74=>bnd (lopE (ρ:=(Option Spa)×Err) (fun (s105:Int×(List Edj)×(List Bool)×Reg)=>bnd (CH s105.2.2.2) fun q130=>if s105.1 < q130 then (bnd (Dy s105.2.2.2 s105.1) fun q141=>if q141.2.n≠0 then (some (.ret (none,(⟨q141.2.n⟩:Err)))) else (bnd (bnd (GE x0.goal q141.1) fun q163=>if q163=true then bnd (appI 1 s105.2.2.1 [true]) fun u195=>some u195 else bnd (appI 1 s105.2.2.1 [false]) fun u176=>some u176:Option (List Bool)) fun y157=>bnd (Da q25.1 q141.1) fun q212=>bnd (rng (ρ:=Ctl (Int×(List Edj)×(List Bool)×Reg) ((Option Spa)×Err)) (fun (k227:Nat) (a228:Suc) (s225:(List Edj)×Reg)=>bnd (Df s225.2 a228.state) fun q263=>bnd (bnd (Jm (⟨q263.2.2.1.n⟩:Err) (⟨10⟩:Err)) fun q283=>if q283=true then some true else if q263.2.1=true then (if (max 0 (min x1 65536))≤q263.1 then (some true) else (some false)) else (some false):Option Bool) fun y279=>if y279=true then (some (.ret (.ret (none,(⟨10⟩:Err))))) else (if q263.2.2.1.n≠0 then (some (.ret (.ret (none,(⟨q263.2.2.1.n⟩:Err))))) else (bnd (appI 24 s225.1 [(⟨s105.1,a228.op,q263.1⟩:Edj)]) fun u304=>some (.next (u304,q263.2.2.2))))) q212 0 (s105.2.1,s105.2.2.2)) fun res223=>fin res223 fun (s321:(List Edj)×Reg)=>bnd (chkI (s105.1 + 1)) fun n323=>some (.next (n323,s321.1,y157,s321.2)))) else (some (.brk (s105.1,s105.2.1,s105.2.2.1,s105.2.2.2)))) (0,([]:List Edj),([]:List Bool),q57.2.2.2)) fun res103=>fin res103 fun (s330:Int×(List Edj)×(List Bool)×Reg)=>bnd (DQ (⟨(⟨q74.vars,q74.init,q74.goal,q74.ops⟩:Tsk),s330.2.2.2,s330.2.1,s330.2.2.1,([]:List Int),([]:List Int),([]:List Int)⟩:Spa)) fun q341=>some ((some q341),(⟨0⟩:Err))))))
theorem IO (x0:Tsk) (x1:Int):Le (EZ x0 x1) (Cl x0 x1):=by
  unfold EZ Cl
  repeat' (first|apply LP|apply GJ|apply Je|apply Kd|apply GF|apply DL|apply FZ|apply Fl|apply Kt|apply Ib|apply Le.ite|apply Le.bnd|apply Le.fin|apply Le.rng|apply Le.rngN|apply Le.lop|exact Le.rf|intro _)
noncomputable def EE (x0:Spa):Option Int :=
  bnd (CH x0.states) fun q45=>some q45
theorem HQ (x0:Spa):Le (EE x0) (Dg x0):=by
  unfold EE Dg
  repeat' (first|apply DL|apply Le.ite|apply Le.bnd|apply Le.fin|apply Le.rng|apply Le.rngN|apply Le.lop|exact Le.rf|intro _)
noncomputable def Id  : Option Bool :=
  bnd (EZ (⟨([2]:List Int),([0]:List Int),([]:List Fct),[(⟨(⟨#[]⟩:ByteArray),0,([]:List Fct),[(⟨([]:List Fct),0,1⟩:Eff)]⟩:Opr)]⟩:Tsk) 5) fun q33=>bnd (if q33.2.n=0 then (if q33.1.isNone=false then (bnd q33.1 fun o53=>bnd (EE o53) fun q57=>if q57=2 then (some true) else (some false)) else (some false)) else (some false):Option Bool) fun y47=>some y47
theorem Ku  : Le (Id ) (Dp ):=by
  unfold Id Dp
  repeat' (first|apply IO|apply HQ|apply Le.ite|apply Le.bnd|apply Le.fin|apply Le.rng|apply Le.rngN|apply Le.lop|exact Le.rf|intro _)
set_option maxRecDepth 100000 in
theorem awake25:Dp=some true:=Ku true (by kernel_rfl)
end
section
set_option linter.unusedVariables false
set_option linter.unusedSimpArgs false
open Go Go.RowKit
theorem PF {t:Tsk} (h:SmallOk t):El t=some true:=by unfold El;rw [Ce h]
theorem PG {t:Tsk} (h:¬ SmallOk t):El t=some false:=by unfold El;rw [Bk h]
theorem lim512:512≤limE 512:=by unfold limE;omega
theorem NJ (a:List Int):EA a a=some true:=by unfold EA;rw [Ce rfl]
theorem SpX.dists {t:Tsk} {L:List (List Int)} {x:Spa} (h:SpX t L x) (hl:L.length≤600):CB x=some x.distances:=by
  unfold CB
  rw [HG (by rw [h.sp.dl];omega),An]
theorem SpX.state {t:Tsk} {L:List (List Int)} {x:Spa} (h:SpX t L x) (hok:TaskOk t) {i:Nat} {s:List Int} (hi:L[i]?=some s):CW x (i:Int)=some (s,⟨0⟩):=by
  unfold CW
  rw [Jl hok.1 h.reg hi,An]
end
section
set_option linter.unusedVariables false
set_option linter.unusedSimpArgs false
open Go Go.RowKit
theorem JG {vars:List Int} {k:Nat} {n:Int} (h:vars[k]?=some n):(statesL (vars.take (k + 1))).length=(statesL (vars.take k)).length * n.toNat:=by
  rw [DH h]
  exact GS _ _
theorem Ke {t:Tsk} (h:Mid t):Do t=some ((statesL t.vars).length:Int):=by
  unfold Do EI
  rw [An,FJ.2 h.ok,if_neg (by simp),Es (fun k=>((statesL (t.vars.take k)).length:Int)) (by simp [statesL]) (fun k n hk=>?_),An,Cr,List.take_length]
  have hn:=h.ok.vars k n hk
  have h1:=h.states k
  have h2:=h.states (k + 1)
  obtain ⟨m,rfl⟩:=Int.eq_ofNat_of_zero_le (by omega:0≤n)
  have e:=JG hk
  rw [Int.toNat_natCast] at e
  have e2:((statesL (t.vars.take k)).length:Int) * (m:Int)=((statesL (t.vars.take (k + 1))).length:Int):=by rw [e];simp
  rw [e2,Cd (by unfold inI64;omega),An,show min ((statesL (t.vars.take (k + 1))).length:Int) 65537=((statesL (t.vars.take (k + 1))).length:Int) from by omega]
theorem Jn {t:Tsk} (h:Mid t):DB t=some (((statesL t.vars).length:Int),⟨0⟩):=by
  have:=h.many
  unfold DB EI
  rw [An,FJ.2 h.ok,if_neg (by simp),Ke h,An,if_neg (by omega)]
theorem LR {t:Tsk} (h:Mid t) {s:List Int} {i:Nat} (hi:(statesL t.vars)[i]?=some s):Eg t s=some ((i:Int),⟨0⟩):=by
  have hs:StateOk t.vars s:=CG.1 (List.mem_of_getElem? hi)
  unfold Eg FY
  rw [Jn h,An,if_neg (by simp),An,Ce hs,DN]
  obtain ⟨r,h1,j,rfl,h2⟩:=DA (ρ:=Int×Err) (f:=fun (k54:Nat) (a55:Int) (s52:Int)=>bnd (t.vars[k54]?) fun a75=>bnd (chkI (s52 * a75)) fun n85=>bnd (chkI (n85 + a55)) fun n88=>some (.next n88)) (xs:=s) (s₀:=0) (fun k r=>∃ i:Nat,r=(i:Int)∧(statesL (t.vars.take k))[i]?=some (s.take k)) ⟨0,rfl,rfl⟩ (fun k x r hk hI=>by
    obtain ⟨i,rfl,hi⟩:=hI
    have hlt:=AC hk
    obtain ⟨n,hn⟩:=AD (l:=t.vars) (k:=k) (by rw [← hs.1];exact hlt)
    have hn1:=h.ok.vars k n hn
    obtain ⟨hx1,hx2⟩:=hs.2 k x n hk hn
    obtain ⟨x,rfl⟩:=Int.eq_ofNat_of_zero_le hx1
    obtain ⟨n,rfl⟩:=Int.eq_ofNat_of_zero_le (by omega:0≤n)
    have hget:(statesL (t.vars.take (k + 1)))[i * n + x]?=some (s.take (k + 1)):=by
      rw [DH hn]
      show ((statesL (t.vars.take k)).flatMap (exts ((n:Int)).toNat))[i * n + x]?=_
      rw [show ((n:Int)).toNat=n from by omega,Gz (by omega)]
      have e1:(i * n + x) / n=i:=by
        rw [Nat.mul_comm,Nat.mul_add_div (by omega),Nat.div_eq_of_lt (by omega)];omega
      have e2:(i * n + x) % n=x:=by
        rw [Nat.mul_comm,Nat.mul_add_mod,Nat.mod_eq_of_lt (by omega)]
      rw [e1,e2,hi,List.take_add_one,hk];rfl
    have hb:=AC hget
    have hb2:=h.states (k + 1)
    have e3:(i:Int) * (n:Int)=((i * n:Nat):Int):=by simp
    rw [hn,An,e3,Cd (by unfold inI64;omega),An,Cd (by unfold inI64;omega),An]
    exact ⟨_,rfl,i * n + x,by omega,hget⟩)
  rw [List.take_length,hs.1,List.take_length] at h2
  rw [h1,An,Cr,Hb h.ok h2 hi]
theorem NK {t:Tsk} (h:Mid t) {s:List Int} {i:Nat} (hi:(statesL t.vars)[i]?=some s):DR t (i:Int)=some (s,⟨0⟩):=by
  have hs:StateOk t.vars s:=CG.1 (List.mem_of_getElem? hi)
  have hil:=AC hi
  have hvl:=h.ok.1
  unfold DR
  rw [Jn h,An]
  dsimp only
  rw [if_neg (by simp),if_neg (by omega),if_neg (by omega),An,Dc,Gt (by omega) (by omega),An,List.length_replicate,Cd (by unfold inI64;omega),An]
  have key:=Nu (ρ:=List Int×Err) (f:=fun (s72:Int×(List Int)×Int)=>if 0≤s72.2.2 then (bnd (atI t.vars s72.2.2) fun a94=>bnd (remI s72.1 a94) fun n106=>bnd (atI s72.2.1 s72.2.2) fun a109=>bnd (atI t.vars s72.2.2) fun a123=>bnd (quoI s72.1 a123) fun n135=>bnd (chkI (s72.2.2 - 1)) fun n138=>some (.next (n135,(s72.2.1.set (s72.2.2:Int).toNat n106),n138))) else (some (.brk (s72.1,s72.2.1,s72.2.2))))
    (fun z=>∃ (r m:Nat) (u:List Int),z=((r:Int),u,(m:Int) - 1)∧m≤t.vars.length∧(statesL (t.vars.take m))[r]?=some (s.take m)∧u.length=t.vars.length∧∀ j,m≤j→u[j]?=s[j]?)
    (fun z=>z.2.1=s) (fun z=>(z.2.2 + 1).toNat) (fun z ⟨r,m,u,hz,hm,hr,hu,hj⟩=>by
      subst hz
      dsimp only
      cases m with
      | zero =>
        rw [if_neg (by omega)]
        exact .inr ⟨_,rfl,List.ext_getElem? fun j=>hj j (Nat.zero_le _)⟩
      | succ m =>
        obtain ⟨n,hn⟩:=AD (l:=t.vars) (k:=m) (by omega)
        obtain ⟨x,hx⟩:=AD (l:=s) (k:=m) (by rw [hs.1];omega)
        have hn1:=h.ok.vars m n hn
        obtain ⟨n,rfl⟩:=Int.eq_ofNat_of_zero_le (by omega:0≤n)
        rw [DH hn] at hr
        replace hr:((statesL (t.vars.take m)).flatMap (exts ((n:Int)).toNat))[r]?=some (s.take (m + 1)):=hr
        rw [show ((n:Int)).toNat=n from by omega,Gz (by omega)] at hr
        obtain ⟨s0,h0,h1⟩:=Option.map_eq_some_iff.1 hr
        rw [List.take_add_one,hx] at h1
        obtain ⟨e1,e2⟩:=List.append_inj' h1 rfl
        have e3:((r % n:Nat):Int)=x:=by simpa using e2
        subst e1
        have e4:((m + 1:Nat):Int) - 1=(m:Int):=by omega
        have hum:m < u.length:=by omega
        rw [if_pos (by omega),e4,BR,hn,An,Pg (by omega) (by omega),An,BR,List.getElem?_eq_getElem hum,An,An,Pi (by omega) (by omega),An,Cd (by unfold inI64;omega),An,Int.toNat_natCast]
        refine .inl ⟨_,rfl,⟨r / n,m,_,rfl,by omega,h0,by simp [hu],fun j hjm=>?_⟩,by dsimp only;omega⟩
        by_cases ej:j=m
        · subst ej
          rw [List.getElem?_set_self hum,hx,← e3];simp
        · rw [List.getElem?_set_ne (by omega)];exact hj j (by omega)) ((i:Int),List.replicate t.vars.length 0,(t.vars.length:Int) - 1) ⟨i,t.vars.length,_,rfl,Nat.le_refl _,by rw [List.take_length,← hs.1,List.take_length];exact hi,by simp,fun j hj=>by rw [List.getElem?_eq_none (by simp;omega),List.getElem?_eq_none (by rw [hs.1];omega)]⟩
  obtain ⟨z,k1,k2⟩:=key
  rw [k1,An,Cr,k2]
structure AllL (t:Tsk) (L:List (List Int)):Prop where
  nodup:L.Nodup
  ok:∀ s∈L,StateOk t.vars s
  clo:CloL t L.length L
theorem Jo {t:Tsk} (h:TaskOk t):AllL t (statesL t.vars):=⟨Ox fun _ _ _ h1 h2=>Hb h h1 h2,fun s hs=>CG.1 hs,fun j s k _ hs hk=>by
  obtain ⟨o,ho,hp,hsu⟩:=DX hk
  rw [hsu]
  exact CG.2 (Hk h (CG.1 (List.mem_of_getElem? hs)) ho)⟩
theorem AllL.edges {t:Tsk} {L:List (List Int)} (h:AllL t L) (hs:Mid t):EdgesOk t L.length (edgL t L L.length):=by
  have hf:L.length≤600:=Nat.le_trans (GV h.nodup fun s hm=>CG.2 (h.ok s hm)) hs.many
  refine ⟨fun e he=>?_,?_⟩
  · obtain ⟨j,k,s,hj,hsj,hk,rfl⟩:=HL.1 he
    obtain ⟨i,h1,h2⟩:=Gk (h.clo j s k hj hsj hk)
    obtain ⟨o,ho,_⟩:=DX hk
    have:=AC h2
    have:=AC ho
    rw [h1]
    dsimp only;omega
  · have h1:=GD t L L.length
    have h2:=hs.ops
    have:L.length * t.ops.length≤600 * 80:=Nat.mul_le_mul hf h2
    omega
theorem PH {t:Tsk} {L:List (List Int)} (hA:AllL t L) {i:Nat} {c q:Int} (h:Lx (fun i=>(goalsL t L)[i]?=some true) (bwdA t (edgL t L L.length)) i c q):∀ s,L[i]?=some s→Walk t s c:=by
  induction h with
  | @src i h =>
    intro s hs
    unfold goalsL at h
    rw [List.getElem?_map,hs] at h
    exact .goal (Option.some.inj h)
  | @step i c q j w _ hm ih =>
    intro s hs
    obtain ⟨e,e1,e2,e3,e4⟩:=LG.1 hm
    obtain ⟨j',k,s',hj,hsj,hk,rfl⟩:=HL.1 e1
    dsimp only at e2 e3
    obtain rfl:j'=j:=by omega
    rw [hs] at hsj
    obtain rfl:=Option.some.inj hsj
    obtain ⟨o,ho,hp,hsu⟩:=DX hk
    have hmem:=hA.clo _ s k (AC hs) hs hk
    obtain ⟨i',g1,g2⟩:=Gk hmem
    obtain rfl:i'=i:=by omega
    have:=ih _ g2
    rw [hsu] at this
    have hw:w=o.cost:=by rw [← e4];unfold costE;dsimp only;rw [Int.toNat_natCast,ho]
    rw [hw]
    exact .step ho hp this
theorem Mw {t:Tsk} {L:List (List Int)} (hA:AllL t L) {s:List Int} {c:Int} (h:Walk t s c):∀ i:Nat,L[i]?=some s→∃ q,Lx (fun i=>(goalsL t L)[i]?=some true) (bwdA t (edgL t L L.length)) i c q:=by
  induction h with
  | @goal s h =>
    intro i hi
    exact ⟨0,.src (by unfold goalsL;rw [List.getElem?_map,hi];exact congrArg some h)⟩
  | @step s k o c ho hp _ ih =>
    intro i hi
    have hk:appB t s k=true:=by rw [(Kr ho).1];exact hp
    have hsu:=(Kr (s:=s) ho).2
    obtain ⟨j,g1,g2⟩:=Gk (hA.clo i s k (AC hi) hi hk)
    rw [hsu] at g1 g2
    obtain ⟨q,hq⟩:=ih j g2
    refine ⟨q + 1,.step hq (LG.2 ⟨⟨(i:Int),(k:Int),idxE L (sucN t s k)⟩,HL.2 ⟨i,k,s,AC hi,hi,hk,rfl⟩,?_,by simp,?_⟩)⟩
    · dsimp only;rw [hsu,g1]
    · unfold costE;dsimp only;rw [Int.toNat_natCast,ho]
def DistV (t:Tsk) (s:List Int) (c:Int):Prop:=(c=Inf∧∀ C,¬ Walk t s C)∨(c < Inf∧Walk t s c∧∀ C,Walk t s C→c≤C)
theorem MT {t:Tsk} {s:List Int} {c c':Int} (h:DistV t s c) (h':DistV t s c'):c=c':=by
  rcases h with ⟨a,b⟩|⟨a,b,e⟩<;>rcases h' with ⟨a',b'⟩|⟨a',b',e'⟩
  · omega
  · exact (b _ b').elim
  · exact (b' _ b).elim
  · have:=e _ b';have:=e' _ b;omega
theorem KP {t:Tsk} {L:List (List Int)} (hA:AllL t L) {d k:Nat→Int} (h:LexP L.length (bwdA t (edgL t L L.length)) (fun i=>(goalsL t L)[i]?=some true) d k) (hb:∀ i,d i≠Inf→d i < Inf) {i:Nat} {s:List Int} (hi:L[i]?=some s):DistV t s (d i):=by
  by_cases hd:d i=Inf
  · refine .inl ⟨hd,fun C hC=>?_⟩
    obtain ⟨q,hq⟩:=Mw hA hC i hi
    exact (h.low i _ _ hq).1 hd
  · refine .inr ⟨hb i hd,PH hA (h.real i hd) s hi,fun C hC=>?_⟩
    obtain ⟨q,hq⟩:=Mw hA hC i hi
    have:=(h.low i _ _ hq).2
    unfold lle at this;omega
theorem MU {t:Tsk} {d:List Int} (h:DistP t d) {i:Nat} {s:List Int} (hi:(statesL t.vars)[i]?=some s) {D:Int} (hD:DistV t s D):gI d i=D:=by
  obtain ⟨c,c1,c2,c3,c4,_⟩:=h.1.2 i s hi
  rw [Pb c1]
  rcases hD with ⟨a,b⟩|⟨a,b,e⟩
  · by_cases hc:c < Inf
    · exact (b _ (c4 hc)).elim
    · omega
  · have h1:=h.2 i s c _ hi c1 b
    have h2:=e _ (c4 (by omega))
    omega
theorem PI {t:Tsk} {s:List Int} (hs:StateOk t.vars s):(appS t s).map (sucOf t s)=(appN t s t.ops.length).map fun k:Nat=>(⟨(k:Int),sucN t s k⟩:Suc):=by
  rw [Gj hs,NE,List.map_map];rfl
abbrev PS:=List (List Arc)×List Int
noncomputable def pfG (x0:Tsk) (k65:Int):Suc→List (List Arc)→Option (Ctl (List (List Arc)) (Ctl PS (List Int×Err))):=fun a144 s141=>bnd (Eg x0 a144.state) fun q177=>if q177.2.n≠0 then (some (.ret (.ret (([]:List Int),(⟨q177.2.n⟩:Err))))) else (bnd (atI s141 q177.1) fun a191=>bnd (atI x0.ops a144.op) fun a206=>bnd (appI 24 a191 [(⟨q177.1,k65,a206.cost⟩:Arc)]) fun u237=>bnd (atI s141 q177.1) fun a248=>some (.next (s141.set (q177.1:Int).toNat u237)))
noncomputable def pfF (x0:Tsk) (gen:Option Gnr):Nat→PS→Option (Ctl PS (List Int×Err)):=fun k65 s63=>bnd (DR x0 (k65:Int)) fun q84=>if q84.2.n≠0 then (some (.ret (([]:List Int),(⟨q84.2.n⟩:Err)))) else (bnd (bnd (Cq x0.goal q84.1) fun q105=>if q105=true then bnd (appI 8 s63.2 [(k65:Int)]) fun u112=>some u112 else some s63.2:Option (List Int)) fun y99=>bnd (AX gen q84.1) fun q128=>bnd (rng (ρ:=Ctl PS (List Int×Err)) (fun (_:Nat) (a144:Suc) (s141:(List (List Arc)))=>pfG x0 (k65:Int) a144 s141) q128 0 s63.1) fun res139=>fin res139 fun (s267:(List (List Arc)))=>some (.next (s267,y99)))
theorem QI (x0:Tsk):Ds x0=bnd (Db x0) fun q24=>if q24.2.n≠0 then (some (([]:List Int),(⟨q24.2.n⟩:Err))) else (bnd (Do x0) fun q39=>if 65536 < q39 then (some (([]:List Int),(⟨5⟩:Err))) else (bnd (mkI 24 ([]:List Arc) q39) fun u48=>bnd (natI q39) fun N74=>bnd (rngN (ρ:=(List Int)×Err) (fun (k65:Nat) (s63:PS)=>pfF x0 q24.1 k65 s63) N74 (u48,([]:List Int))) fun res61=>fin res61 fun (s273:PS)=>bnd (Bu s273.1 s273.2) fun q279=>some (q279.1,(⟨0⟩:Err)))):=rfl
theorem OI (t:Tsk) (es:List Edj) (e:Edj) (i:Nat):bwdR t (es ++ [e]) i=bwdR t es i ++ if e.dst=(i:Int) then [⟨e.dst,e.src,costE t e⟩] else []:=by
  unfold bwdR
  rw [List.filter_append,List.map_append]
  by_cases h:e.dst=(i:Int)
  · rw [if_pos h];simp [h]
  · rw [if_neg h];simp [h]
theorem QJ {t:Tsk} (hs:Mid t) {i:Nat} {s:List Int} (hi:(statesL t.vars)[i]?=some s) {rows:List (List Arc)} (hr:RowsAre (statesL t.vars).length rows (bwdR t (edgL t (statesL t.vars) i))) :
    ∃ rows',rng (ρ:=Ctl PS (List Int×Err)) (fun (_:Nat) (a144:Suc) (s141:(List (List Arc)))=>pfG t (i:Int) a144 s141) ((appS t s).map (sucOf t s)) 0 rows=some (.done rows')∧RowsAre (statesL t.vars).length rows' (bwdR t (edgL t (statesL t.vars) (i + 1))):=by
  have hok:=hs.ok
  have hA:=Jo hok
  have hsok:=CG.1 (List.mem_of_getElem? hi)
  have hil:=AC hi
  have hf:=hs.many
  have hops:=hs.ops
  rw [PI hsok]
  have hel:=GD t (statesL t.vars) i
  have hib:i * t.ops.length≤600 * 80:=Nat.mul_le_mul (by omega) hs.ops
  obtain ⟨rows',h1,h2⟩:=DA (ρ:=Ctl PS (List Int×Err)) (f:=fun (_:Nat) (a144:Suc) (s141:(List (List Arc)))=>pfG t (i:Int) a144 s141) (xs:=(appN t s t.ops.length).map fun k:Nat=>(⟨(k:Int),sucN t s k⟩:Suc)) (s₀:=rows)
    (fun m r=>RowsAre (statesL t.vars).length r (bwdR t (edgL t (statesL t.vars) i ++ edgK t (statesL t.vars) s i ((appN t s t.ops.length).take m)))) (by simpa [edgK] using hr) (fun m a r hm hI=>by
      rw [List.getElem?_map] at hm
      obtain ⟨k,hk,rfl⟩:=Option.map_eq_some_iff.1 hm
      obtain ⟨hka,hkl⟩:=FM (List.mem_of_getElem? hk)
      have hml:=AC hk
      have hal:=JF t s t.ops.length
      obtain ⟨j,g1,g2⟩:=Gk (hA.clo i s k hil hi hka)
      have hjl:=AC g2
      obtain ⟨o,ho,_,_⟩:=DX hka
      have hbl:=LH t (edgL t (statesL t.vars) i ++ edgK t (statesL t.vars) s i ((appN t s t.ops.length).take m)) j
      have hek:(edgK t (statesL t.vars) s i ((appN t s t.ops.length).take m)).length≤m:=by unfold edgK;rw [List.length_map,List.length_take];omega
      rw [List.length_append] at hbl
      unfold pfG
      dsimp only
      rw [LR hs g2,An]
      dsimp only
      rw [if_neg (by simp),BR,hI.at_ j hjl,An,BR,ho,An,Cp (by rw [List.length_singleton];omega) (by rw [List.length_singleton];omega),An,An,Int.toNat_natCast]
      refine ⟨_,rfl,(hI.set hjl _).congr fun u _=>?_⟩
      rw [List.take_add_one,hk,show (some k).toList=[k] from rfl,IJ,← List.append_assoc,OI,g1]
      have hc:costE t ⟨(i:Int),(k:Int),(j:Int)⟩=o.cost:=by unfold costE;dsimp only;rw [Int.toNat_natCast,ho]
      by_cases hu:u=j
      · subst hu;rw [Bb,if_pos rfl,hc]
      · rw [AY hu,if_neg (by dsimp only;omega),List.append_nil])
  rw [List.length_map,List.take_length,← KO hi] at h2
  exact ⟨rows',h1,h2⟩
theorem MV {t:Tsk} (hs:Mid t):∃ d,Ds t=some (d,⟨0⟩)∧d.length=(statesL t.vars).length∧∀ (i:Nat) s,(statesL t.vars)[i]?=some s→DistV t s (gI d i):=by
  have hok:=hs.ok
  have hA:=Jo hok
  have hf:=hs.many
  rw [QI,Lw hok,An,if_neg (by simp),Ke hs,An,if_neg (by omega),Gt (by omega) (by omega),An,Mj,An]
  have hgl:(goalsL t (statesL t.vars)).length=(statesL t.vars).length:=by unfold goalsL;simp
  obtain ⟨st,h1,h2,h3⟩:=Oj (ρ:=(List Int)×Err) (f:=fun (k65:Nat) (s63:PS)=>pfF t (some ⟨t⟩) k65 s63) (N:=(statesL t.vars).length) (s₀:=(List.replicate (statesL t.vars).length [],[]))
    (fun m z=>RowsAre (statesL t.vars).length z.1 (bwdR t (edgL t (statesL t.vars) m))∧z.2=((List.range m).filter fun i=>((goalsL t (statesL t.vars))[i]?).getD false).map fun i:Nat=>(i:Int)) ⟨(RowsAre.rep _).congr fun i _=>by simp [bwdR,edgL],by simp⟩ (fun m z hm hI=>by
      obtain ⟨rows,gl⟩:=z
      obtain ⟨hr,hg⟩:=hI
      dsimp only at hr hg
      obtain ⟨s,hi⟩:=AD (l:=statesL t.vars) (k:=m) hm
      have hsok:=CG.1 (List.mem_of_getElem? hi)
      obtain ⟨rows',r1,r2⟩:=QJ hs hi hr
      have hgm:(goalsL t (statesL t.vars))[m]?=some (holdsB t.goal s):=by unfold goalsL;rw [List.getElem?_map,hi];rfl
      have hgll:gl.length≤m:=by rw [hg,List.length_map];exact Nat.le_trans (List.length_filter_le _ _) (by simp)
      have hgoal:(bnd (Cq t.goal s) fun q105=>if q105=true then bnd (appI 8 gl [(m:Int)]) fun u112=>some u112 else some gl:Option (List Int))=some (((List.range (m + 1)).filter fun i=>((goalsL t (statesL t.vars))[i]?).getD false).map fun i:Nat=>(i:Int)):=by
        rw [show Cq t.goal s=some (holdsB t.goal s) from rfl,An,List.range_succ,List.filter_append,List.map_append,← hg]
        cases hh:holdsB t.goal s with
        | true=>rw [DN,Cp (by rw [List.length_singleton];omega) (by rw [List.length_singleton];omega),An];simp [hgm,hh]
        | false=>rw [Dc];simp [hgm,hh]
      unfold pfF
      dsimp only
      rw [NK hs hi,An]
      dsimp only
      rw [if_neg (by simp),hgoal,An,Mq hok (by rw [hsok.1];have:=hok.1;omega),An,r1,An,Cr]
      exact ⟨_,rfl,r2,rfl⟩)
  have hgi:st.2=goalIx (goalsL t (statesL t.vars)):=by rw [h3];unfold goalIx;rw [hgl]
  rw [h1,An,Cr,hgi]
  have he:=hA.edges hs
  have hefew:=he.few
  obtain ⟨b1,b2,b3⟩:=(RowsAre.ok hok hf he).2 h2
  obtain ⟨d,l,d1,d2,d3,d4,d5,d6⟩:=Hc b1 (by omega) (src:=goalIx (goalsL t (statesL t.vars))) (fun y hy=>by
    obtain ⟨i,rfl,hi⟩:=EU.1 hy
    have:=AC hi
    omega) (IF _) (by have:=Kb (goalsL t (statesL t.vars));omega)
  have hbA:arcA st.1=bwdA t (edgL t (statesL t.vars) (statesL t.vars).length):=funext fun i=>by
    by_cases hi:i < (statesL t.vars).length
    · exact b3 i hi
    · rw [JE h2.len hi,(JD he hi).2]
  rw [d1,An]
  refine ⟨d,rfl,d2,fun i s hi=>?_⟩
  have hI:Inf=1125899906842624:=rfl
  have hset:(fun i:Nat=>(i:Int)∈goalIx (goalsL t (statesL t.vars)))=fun i=>(goalsL t (statesL t.vars))[i]?=some true:=by
    funext u
    refine propext ⟨fun hh=>?_,fun hh=>EU.2 ⟨u,rfl,hh⟩⟩
    obtain ⟨j,hj,hg⟩:=EU.1 hh
    obtain rfl:u=j:=by omega
    exact hg
  exact KP hA (d4.arcs hbA hset) (fun i hi=>by have:=d6 i hi;omega) hi
theorem EndL.all {t:Tsk} {lim:Int} {L:List (List Int)} (h:EndL t lim L) (hok:TaskOk t):AllL t L:=⟨h.bl.nodup,fun s hs=>h.bl.ok hok hs,h.clo⟩
theorem Mf (t:Tsk):Dj t=some true:=by
  unfold Dj
  by_cases hs:SmallOk t
  · obtain ⟨L,x,e1,e2,e3,e4⟩:=Md hs lim512
    obtain ⟨d,p1,p2,p3⟩:=MV hs.mid
    obtain ⟨d',q1,q2⟩:=Pw hs.mid
    have hl:=e3.bl.few hs.mid
    have hI:Inf=1125899906842624:=rfl
    have hdd:d=d':=QG (p2.trans q2.1.1.symm) fun i hi=>by
      obtain ⟨s,hi'⟩:=AD (l:=statesL t.vars) (k:=i) (by omega)
      exact (MU q2 hi' (p3 i s hi')).symm
    subst hdd
    simp only [PF hs,awake25,An,if_true,p1,q1,NJ,e1,ne_eq,not_true_eq_false,if_false,Bool.false_eq_true,e2.dists hl]
    rw [Oh (fun i c hc=>?_),An,Cr]
    have hil:=AC hc
    rw [e2.sp.dl] at hil
    obtain ⟨s,hi⟩:=AD (l:=L) (k:=i) hil
    have hsok:=e3.bl.ok hs.ok (List.mem_of_getElem? hi)
    obtain ⟨r,r1,r2⟩:=Kn hs.mid hsok
    have hrl:=AC r2
    have hv:=KP (e3.all hs.ok) e2.sp.dist (fun i hi=>by have:=e2.sp.bnd i hi;omega) hi
    have he:=MT (p3 r s r2) hv
    rw [Pb hc] at he
    rw [e2.state hs.ok hi,An]
    dsimp only
    rw [if_neg (by simp),LR hs.mid r2,An]
    dsimp only
    rw [if_neg (by simp),if_neg (by omega),if_neg (by rw [p2];omega),HK (by omega),An,he,if_neg (by simp),An,Dc]
  · simp only [PG hs,awake25,An,if_true,Bool.false_eq_true,if_false]
end
section
open Go Go.RowKit Go.ChangeShapes Go.WideShapes Go.Deep
theorem lawEPerfect {w:World} {v0:Value} {a0:Tsk} (h0:V w v0 a0):Fn Tryz.prog 6 [v0] w fun v w'=>v=.bool true∧Ext w w':=by
  exact (He (fun _ h=>h) h0 (Mf a0)).mono fun _ _ h=>⟨h.2.bool,h.1⟩
set_option maxRecDepth 100000 in
theorem Ht (os:Os) (started:os.Started) (H:Type) (enc:TypeId×Value→H) :
    ReturnsInHanded {} Tryz.checked os 6 .any (Rows.explorePerfectSpec.pre6 enc Tryz.prog Tryz.f6 Rows.explorePerfectRow.domain false) (Rows.explorePerfectSpec.post enc Tryz.prog Tryz.f6 false true false false):=by
  refine returnsInHanded_of_change (C:=Tryz.checked) ownTry started (by kernel_rfl) Tryz.func6 (ChangeSpec.witness6 (enc:=enc) (C:=Tryz.checked) false ⟨#[],#[(.agg #[.slice none 0 0,.slice none 0 0,.slice none 0 0,.slice none 0 0])],[]⟩ 8 (by kernel_rfl) (by kernel_rfl) (by kernel_rfl) (by kernel_rfl)) ?_
  intro W base args ds gs before hval hW _ _
  have hopen:∀ p,DataW.TrodAll enc Tryz.prog W 0 (fun _=>true) true Tryz.f6.params.toList args.toList ds p→∃ v0 d0,args=#[v0]∧ds=[d0]∧(∃ a:Tsk,V W v0 a):=by
    intro p hA
    rw [Tryz.params6] at hA
    replace hval:∀ (j:Nat) t v,(#[26]:Array TypeId)[j]?=some t→args[j]?=some v→Value.okWide Tryz.prog W .any base t v:=by rw [← Tryz.params6];exact hval
    obtain ⟨v0,vs0,d0,ds0,p0,q0,g0,e0,_,h0,r0⟩:=trodAll_cons hA
    obtain ⟨g,e,_⟩:=trodAll_nil r0
    rw [g] at g0;rw [e] at e0
    obtain rfl:args=#[v0]:=by cases args;simp_all
    exact ⟨v0,d0,rfl,e0,(by first|exact openAgg rfl (hval 0 26 v0 rfl rfl) h0|exact openOne rfl (hval 0 26 v0 rfl rfl) h0)⟩
  refine lawPost rfl (by kernel_rfl) (by rw [Tryz.params6];exact of_decide_eq_true (by kernel_rfl)) hW ?_ ?_
  · intro p hA
    obtain ⟨v0,d0,_,rfl,_⟩:=hopen p hA
    rfl
  · intro p hA
    obtain ⟨v0,d0,rfl,_,⟨a0,h0⟩⟩:=hopen p hA
    exact lawEPerfect h0
theorem explorePerfect_holds:Rows.ExplorePerfectSaid :=
  OpenClaim.holds_of_wide 6 Tryz.f6 rfl rfl rfl rfl rfl rfl rfl ⟨rfl,rfl,rfl,rfl,rfl⟩ rfl rfl rfl rfl rfl (by kernel_rfl) Tryz.func6 (by kernel_rfl)
    (of_decide_eq_true (by kernel_rfl)) (by unfold Func.isWrapper;first|(rw [if_pos (by decide +kernel)];kernel_rfl)|(rw [if_neg (by decide +kernel)];exact ⟨rfl,rfl⟩))
    (fun os started H enc _=>Ht os started H enc)
#print axioms explorePerfect_holds
end
end Go.Proofs.YtkbmbcblgdgjlaaGreat

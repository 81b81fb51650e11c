/- ExplorePlans returns true for every task, and it reads behind the call as before. No conditions. -/
import Derived.Test.YtkbmbcblgdgjlaaGreatEPD
import Derived.Test.YtkbmbcblgdgjlaaGreatRows
set_option linter.unusedVariables false
set_option linter.unusedSimpArgs false
namespace Go.Proofs.YtkbmbcblgdgjlaaGreat
open Go Go.RowKit
section
open Go Go.RowKit
theorem Mc {σ ρ:Type} {x:Option (Ctl σ ρ)} {I:σ→Prop} (h:∃ r,x=some r∧∃ s',r=Ctl.next s'∧I s'):∃ s',x=some (.next s')∧I s':=by
  obtain ⟨_,h1,s',rfl,h2⟩:=h
  exact ⟨s',h1,h2⟩
def FldOk (W:Nat) (f:PFd) (n:Int):Prop:=∃ k b w:Nat,f=⟨k,b,w,n⟩∧k < W∧b + w≤64∧w≤6∧n≤2 ^ w
def PkOk (vars:List Int) (p:Pkr):Prop:=p.fields.length=vars.length∧(∃ W:Nat,p.words=(W:Int)∧1≤W∧W≤vars.length + 1∧∀ (i:Nat) f n,p.fields[i]?=some f→vars[i]?=some n→FldOk W f n) ∧
  ∀ (i j:Nat) f g,i < j→p.fields[i]?=some f→p.fields[j]?=some g→f.word < g.word∨(f.word=g.word∧f.bit + f.width≤g.bit)
theorem Pq:∀ {w:Nat},w≤6→shlI 1 (w:Int)=some ((2 ^ w:Nat):Int):=by
  intro w h
  have:w=0∨w=1∨w=2∨w=3∨w=4∨w=5∨w=6:=by omega
  rcases this with rfl|rfl|rfl|rfl|rfl|rfl|rfl<;>rfl
theorem Pr {w:Nat} {n:Int} (hw:w≤6) (h:((2 ^ w:Nat):Int) < n) (hn:n≤64):w < 6:=by
  rcases Nat.lt_or_ge w 6 with hh|hh
  · exact hh
  · obtain rfl:w=6:=by omega
    simp at h;omega
def PkI (vars:List Int) (B W:Nat) (fs:List PFd):Prop:=(∀ (i:Nat) f n,fs[i]?=some f→vars[i]?=some n→FldOk W f n) ∧
  (∀ (i j:Nat) f g,i < j→fs[i]?=some f→fs[j]?=some g→f.word < g.word∨(f.word=g.word∧f.bit + f.width≤g.bit))∧∀ (i:Nat) f,fs[i]?=some f→f.word + 1 < (W:Int)∨(f.word + 1=(W:Int)∧f.bit + f.width≤(B:Int))
theorem PkI.over {vars:List Int} {B W:Nat} {fs:List PFd} (h:PkI vars B W fs):PkI vars 0 (W + 1) fs :=
  ⟨fun i f n hf hn=>by obtain ⟨k,b,w,e,e1,e2⟩:=h.1 i f n hf hn;exact ⟨k,b,w,e,by omega,e2⟩,h.2.1,fun i f hf=>by have:=h.2.2 i f hf;omega⟩
theorem DC {α:Type} {l:List α} {x y:α} {i:Nat} (h:(l ++ [x])[i]?=some y):l[i]?=some y∨(i=l.length∧y=x):=by
  rcases Nat.lt_trichotomy i l.length with hi|hi|hi
  · rw [List.getElem?_append_left hi] at h;exact .inl h
  · subst hi;simp at h;exact .inr ⟨rfl,h.symm⟩
  · rw [List.getElem?_append_right (by omega)] at h
    rw [List.getElem?_eq_none (by simp;omega)] at h
    cases h
theorem PkI.add {vars:List Int} {B W w:Nat} {fs:List PFd} {n:Int} (h:PkI vars B W fs) (hW:1≤W) (hn:vars[fs.length]?=some n) (hB:B + w≤64) (hw:w≤6) (hnw:n≤2 ^ w):PkI vars (B + w) W (fs ++ [⟨(W:Int) - 1,(B:Int),(w:Int),n⟩]):=by
  refine ⟨fun i f n' hf hn'=>?_,fun i j f g hij hf hg=>?_,fun i f hf=>?_⟩
  · rcases DC hf with hh|⟨rfl,rfl⟩
    · exact h.1 i f n' hh hn'
    · rw [hn] at hn'
      obtain rfl:=Option.some.inj hn'
      exact ⟨W - 1,B,w,by congr 1;omega,by omega,hB,hw,hnw⟩
  · rcases DC hg with hh|⟨rfl,rfl⟩
    · rcases DC hf with hk|⟨rfl,rfl⟩
      · exact h.2.1 i j f g hij hk hh
      · have:=AC hh;omega
    · rcases DC hf with hk|⟨rfl,rfl⟩
      · have:=h.2.2 i f hk
        dsimp only
        omega
      · omega
  · rcases DC hf with hh|⟨rfl,rfl⟩
    · have:=h.2.2 i f hh;omega
    · dsimp only;omega
theorem MK {vars:List Int} (hl:vars.length≤64) (hv:∀ (i:Nat) n,vars[i]?=some n→1≤n∧n≤64):∃ r,Ep vars=some r∧∃ p,r=(some p,⟨0⟩)∧PkOk vars p:=by
  unfold Ep
  rw [if_neg (by omega)]
  refine Hb (fun m s=>∃ B W:Nat,s.1=(B:Int)∧B≤64∧s.2.words=(W:Int)∧1≤W∧W≤m + 1∧s.2.fields.length=m∧PkI vars B W s.2.fields) (fun _=>False)
    ⟨0,1,rfl,by omega,rfl,by omega,by omega,rfl,fun i f n h=>by simp at h,fun i j f g _ h=>by simp at h,fun i f h=>by simp at h⟩ ?_ ?_ (fun q hq=>hq.elim)
  · rintro m n ⟨s1,s2⟩ hm ⟨B,W,hs1,hB,hW,hW1,hWm,hlen,hI⟩
    dsimp only at hs1 hW hlen hI
    subst hs1
    obtain ⟨hn1,hn2⟩:=hv m n hm
    have hml:=AC hm
    refine .inl (Mc ?_)
    rw [if_neg (by omega),if_neg (by omega),Ar,Dq]
    refine Li (fun c=>∃ w:Nat,c=(w:Int)∧w≤6) (fun c=>∃ w:Nat,c=(w:Int)∧w≤6∧n≤2 ^ w) (fun _=>False) (fun c=>7 - c.toNat) ⟨0,rfl,by omega⟩ ?_ ?_ (fun q hq=>hq.elim)
    · rintro c ⟨w,rfl,hw⟩
      rw [Pq hw,Ar]
      by_cases hlt:((2 ^ w:Nat):Int) < n
      · have:=Pr hw hlt hn2
        rw [if_pos hlt,Cq (by unfold inI64;omega),Ar]
        exact .inl ⟨_,rfl,⟨w + 1,by omega,by omega⟩,by omega⟩
      · rw [if_neg hlt]
        refine .inr (.inl ⟨_,rfl,w,rfl,hw,?_⟩)
        have:((2 ^ w:Nat):Int)=(2:Int) ^ w:=by simp
        omega
    · rintro c ⟨w,rfl,hw,hnw⟩
      rw [CP,Cq (by unfold inI64;omega),Ar]
      have fin':∀ (B' W':Nat) (q:Pkr),B' + w≤64→1≤W'→W'≤m + 2→q.words=(W':Int)→q.fields=s2.fields→PkI vars B' W' s2.fields→∃ r,(bnd (chkI (q.words - 1)) fun n133=>bnd (appI 32 q.fields [(⟨n133,(B':Int),(w:Int),n⟩:PFd)]) fun u142=>bnd (chkI ((B':Int) + (w:Int))) fun n155=>some (Ctl.next (ρ:=(Option Pkr)×Err) (n155,(⟨u142,q.words⟩:Pkr))))=some r∧∃ s',r=Ctl.next s'∧∃ B W:Nat,s'.1=(B:Int)∧B≤64∧s'.2.words=(W:Int)∧1≤W∧W≤m + 1 + 1∧s'.2.fields.length=m + 1∧PkI vars B W s'.2.fields:=by
        intro B' W' q hB' hW' hWm' hq1 hq2 hI'
        rw [hq1,hq2,Cq (by unfold inI64;omega),Ar,Cy (by simp;omega) (by simp;omega),Ar,Cq (by unfold inI64;omega),Ar]
        exact ⟨_,rfl,_,rfl,B' + w,W',by simp,hB',rfl,hW',by omega,by simp [hlen],hI'.add hW' (by rw [hlen];exact hm) hB' hw hnw⟩
      by_cases hover:64 < (B:Int) + (w:Int)
      · rw [if_pos hover]
        dsimp only
        rw [hW,Cq (by unfold inI64;omega),Ar,Ar]
        exact fin' 0 (W + 1) ⟨s2.fields,(W:Int) + 1⟩ (by omega) (by omega) (by omega) (by simp) rfl hI.over
      · rw [if_neg hover,Ar]
        exact fin' B W s2 (by omega) hW1 (by omega) hW rfl hI
  · rintro ⟨s1,s2⟩ ⟨B,W,hs1,hB,hW,hW1,hWm,hlen,hI⟩
    exact ⟨_,rfl,s2,rfl,hlen,⟨W,hW,hW1,hWm,hI.1⟩,hI.2.1⟩
def InF (f:PFd) (x:Int) (k c:Nat):Prop:=f.word=(k:Int)∧f.bit≤(c:Int)∧(c:Int) < f.bit + f.width∧x.toNat.testBit (c - f.bit.toNat)=true
def Bits (fs:List PFd) (s:List Int) (p:Nat→Prop) (ws:List U64):Prop:=∀ (k c:Nat) a,ws[k]?=some a→c < 64→(a.getLsbD c=true↔∃ (i:Nat) (f:PFd) (x:Int),p i∧fs[i]?=some f∧s[i]?=some x∧InF f x k c)
theorem ones {w:Nat} (h:w≤6):((1:U64) <<< w) - (1:U64)=BitVec.ofNat 64 (2 ^ w - 1):=by
  have:w=0∨w=1∨w=2∨w=3∨w=4∨w=5∨w=6:=by omega
  rcases this with rfl|rfl|rfl|rfl|rfl|rfl|rfl<;>rfl
theorem Lp {w b c:Nat} (hw:w≤6) (hc:c < 64):((((1:U64) <<< w) - (1:U64)) <<< b).getLsbD c=(decide (b≤c) && decide (c < b + w)):=by
  rw [ones hw,BitVec.getLsbD_shiftLeft,BitVec.getLsbD_ofNat,Nat.testBit_two_pow_sub_one]
  by_cases h1:b≤c<;>by_cases h2:c < b + w<;>simp [h1,h2,hc]<;>omega
theorem Ka {x:Int} {w j:Nat} (h0:0≤x) (h1:x < 2 ^ w) (ht:x.toNat.testBit j=true):j < w:=by
  rcases Nat.lt_or_ge j w with h|h
  · exact h
  · have h2:x.toNat < 2 ^ w:=by
      have:((2 ^ w:Nat):Int)=(2:Int) ^ w:=by simp
      omega
    rw [Nat.testBit_lt_two_pow (Nat.lt_of_lt_of_le h2 (Nat.pow_le_pow_right (by omega) h))] at ht
    cases ht
theorem PkOk.field {vars:List Int} {p:Pkr} (h:PkOk vars p) {s:List Int} (hs:StateOk vars s) {i:Nat} {f:PFd} (hf:p.fields[i]?=some f):∃ (k b w:Nat) (n x:Int),f=⟨k,b,w,n⟩∧(k:Int) < p.words∧b + w≤64∧w≤6∧s[i]?=some x∧0≤x∧x < n∧x < 2 ^ w:=by
  obtain ⟨h1,⟨W,hW,_,_,h2⟩,h3⟩:=h
  have hi:=AC hf
  obtain ⟨n,hn⟩:=AE (l:=vars) (k:=i) (by omega)
  obtain ⟨x,hx⟩:=AE (l:=s) (k:=i) (by have:=hs.1;omega)
  obtain ⟨k,b,w,e,e1,e2,e3,e4⟩:=h2 i f n hf hn
  have:=hs.2 i x n hx hn
  exact ⟨k,b,w,n,x,e,by omega,e2,e3,hx,this.1,this.2,by omega⟩
theorem PkOk.same {vars:List Int} {p:Pkr} (h:PkOk vars p) {i j:Nat} {f g:PFd} {k c:Nat} (hf:p.fields[i]?=some f) (hg:p.fields[j]?=some g) (h1:f.word=(k:Int)∧f.bit≤(c:Int)∧(c:Int) < f.bit + f.width) (h2:g.word=(k:Int)∧g.bit≤(c:Int)∧(c:Int) < g.bit + g.width):i=j:=by
  rcases Nat.lt_trichotomy i j with hh|hh|hh
  · have:=h.2.2 i j f g hh hf hg;omega
  · exact hh
  · have:=h.2.2 j i g f hh hg hf;omega
theorem IO {vars:List Int} {p:Pkr} (h:PkOk vars p) (hl:vars.length≤64) {s:List Int} (hs:StateOk vars s):∃ r,BF p s=some r∧r.2=⟨0⟩∧(r.1.length:Int)=p.words∧Bits p.fields s (fun _=>True) r.1:=by
  obtain ⟨W,hW,hW1,hW2,_⟩:=h.2.1
  unfold BF
  rw [if_neg (by have:=h.1;have:=hs.1;omega),hW,Id (by omega) (by omega),Ar]
  refine Hb (fun m ws=>(ws.length:Int)=(W:Int)∧Bits p.fields s (fun i=>i < m) ws) (fun _=>False) ⟨by simp,?_⟩ ?_ ?_ (fun q hq=>hq.elim)
  · intro k c a ha _
    have:=List.eq_of_mem_replicate (List.mem_of_getElem? ha)
    subst this
    constructor
    · intro hh;simp at hh
    · rintro ⟨i,_,_,hi,_⟩;omega
  · rintro m f ws hm ⟨hwl,hb⟩
    refine .inl (Mc ?_)
    obtain ⟨k,b,w,n,x,rfl,hk,hbw,hw,hx,hx0,hxn,hxw⟩:=h.field hs hm
    dsimp only
    obtain ⟨a,ha⟩:=AE (l:=ws) (k:=k) (by omega)
    rw [hx,Ar,if_neg (by omega),Ar,if_neg (by omega),Ar,Dq,Cm,ha,Ar,Ar]
    unfold shlU
    rw [if_pos (by omega),Ar,Ar]
    refine ⟨_,rfl,_,rfl,by simpa using hwl,?_⟩
    simp only [Int.toNat_natCast]
    have hxb:∀ c:Nat,c < 64→((a ||| (BitVec.ofInt 64 x <<< b)).getLsbD c=true↔a.getLsbD c=true∨(b≤c∧x.toNat.testBit (c - b)=true)):=by
      intro c hc
      have hofi:BitVec.ofInt 64 x=BitVec.ofNat 64 x.toNat:=by
        rw [← BitVec.ofInt_natCast,Int.toNat_of_nonneg hx0]
      rw [BitVec.getLsbD_or,BitVec.getLsbD_shiftLeft,hofi,BitVec.getLsbD_ofNat]
      by_cases h1:b≤c
      · have:c - b < 64:=by omega
        simp [hc,h1,this,Nat.not_lt.2 h1]
      · simp [hc,h1,Nat.lt_of_not_le h1]
    intro k' c a' ha' hc
    by_cases e:k=k'
    · subst e
      rw [List.getElem?_set_self (AC ha)] at ha'
      obtain rfl:=Option.some.inj ha'
      rw [hxb c hc,hb k c a ha hc]
      constructor
      · rintro (⟨i,f,y,hi,hr⟩|⟨h1,h2⟩)
        · exact ⟨i,f,y,by omega,hr⟩
        · have:=Ka hx0 hxw h2
          exact ⟨m,_,x,by omega,hm,hx,rfl,by dsimp only;omega,by dsimp only;omega,by simpa using h2⟩
      · rintro ⟨i,f,y,hi,hf,hy,hin⟩
        by_cases he:i=m
        · subst he
          rw [hm] at hf
          obtain rfl:=Option.some.inj hf
          rw [hx] at hy
          obtain rfl:=Option.some.inj hy
          obtain ⟨_,i2,i3,i4⟩:=hin
          dsimp only at i2 i3 i4
          exact .inr ⟨by omega,by simpa using i4⟩
        · exact .inl ⟨i,f,y,by omega,hf,hy,hin⟩
    · rw [List.getElem?_set_ne e] at ha'
      rw [hb k' c a' ha' hc]
      constructor
      · rintro ⟨i,f,y,hi,hr⟩;exact ⟨i,f,y,by omega,hr⟩
      · rintro ⟨i,f,y,hi,hf,hy,hin⟩
        by_cases he:i=m
        · subst he
          rw [hm] at hf
          obtain rfl:=Option.some.inj hf
          have:=hin.1
          dsimp only at this
          omega
        · exact ⟨i,f,y,by omega,hf,hy,hin⟩
  · rintro ws ⟨hwl,hb⟩
    refine ⟨_,rfl,rfl,hwl,fun k c a ha hc=>?_⟩
    rw [hb k c a ha hc]
    constructor
    · rintro ⟨i,f,x,_,hr⟩;exact ⟨i,f,x,trivial,hr⟩
    · rintro ⟨i,f,x,_,hf,hr⟩;exact ⟨i,f,x,AC hf,hf,hr⟩
theorem Md {k b w:Nat} {n:Int}:Cv ⟨k,b,w,n⟩=some ((((1:U64) <<< w) - (1:U64)) <<< b):=by
  unfold Cv shlU
  dsimp only
  rw [if_pos (by omega),Ar,if_pos (by omega),Ar]
  simp
theorem Qs {vars:List Int} {p:Pkr} (h:PkOk vars p) {s:List Int} (hs:StateOk vars s) {ws:List U64} (hwl:(ws.length:Int)=p.words) (hb:Bits p.fields s (fun _=>True) ws) {i:Nat} {f:PFd} {x:Int} (hf:p.fields[i]?=some f) (hx:s[i]?=some x):CX f ws=some x:=by
  obtain ⟨k,b,w,n,x',rfl,hk,hbw,hw,hx',hx0,hxn,hxw⟩:=h.field hs hf
  rw [hx] at hx'
  obtain rfl:=Option.some.inj hx'
  obtain ⟨a,ha⟩:=AE (l:=ws) (k:=k) (by omega)
  unfold CX
  dsimp only
  rw [Cm,ha,Ar,Md,Ar]
  unfold shrU
  rw [if_pos (by omega),Ar]
  have hval : (a &&& ((((1:U64) <<< w) - (1:U64)) <<< b)) >>> b=BitVec.ofNat 64 x.toNat:=by
    apply BitVec.eq_of_getLsbD_eq
    intro j hj
    rw [BitVec.getLsbD_ushiftRight,BitVec.getLsbD_and,BitVec.getLsbD_ofNat]
    by_cases hjb:b + j < 64
    · rw [Lp hw hjb]
      by_cases hjw:j < w
      · have h1:=hb k (b + j) a ha hjb
        have h2:a.getLsbD (b + j)=x.toNat.testBit j:=by
          cases ht:x.toNat.testBit j with
          | true=>exact h1.2 ⟨i,_,x,trivial,hf,hx,rfl,by dsimp only;omega,by dsimp only;omega,by simpa using ht⟩
          | false =>
            cases hg:a.getLsbD (b + j) with
            | false=>rfl
            | true =>
              obtain ⟨i',f',x',_,hf',hx',hin⟩:=h1.1 hg
              have hii:=h.same (k:=k) (c:=b + j) hf hf' ⟨rfl,by dsimp only;omega,by dsimp only;omega⟩ ⟨hin.1,hin.2.1,hin.2.2.1⟩
              subst hii
              rw [hf] at hf'
              obtain rfl:=Option.some.inj hf'
              rw [hx] at hx'
              obtain rfl:=Option.some.inj hx'
              have:=hin.2.2.2
              simp at this
              rw [this] at ht
              cases ht
        rw [h2]
        simp [hj,hjw]
      · have hf0:x.toNat.testBit j=false:=by
          cases ht:x.toNat.testBit j with
          | false=>rfl
          | true=>exact absurd (Ka hx0 hxw ht) hjw
        simp [hf0,hjw]
    · have hf0:x.toNat.testBit j=false:=by
        cases ht:x.toNat.testBit j with
        | false=>rfl
        | true=>have:=Ka hx0 hxw ht;omega
      rw [BitVec.getLsbD_of_ge _ _ (by omega)]
      simp [hf0]
  have h64:(2:Int) ^ w≤64:=by
    have:w=0∨w=1∨w=2∨w=3∨w=4∨w=5∨w=6:=by omega
    rcases this with rfl|rfl|rfl|rfl|rfl|rfl|rfl<;>decide
  simp only [Int.toNat_natCast]
  rw [hval]
  congr 1
  rw [BitVec.toInt_eq_toNat_of_lt (by rw [BitVec.toNat_ofNat];omega),BitVec.toNat_ofNat]
  omega
theorem Is {vars:List Int} {p:Pkr} (h:PkOk vars p) (hl:vars.length≤64) {s:List Int} (hs:StateOk vars s) {ws:List U64} (hwl:(ws.length:Int)=p.words) (hb:Bits p.fields s (fun _=>True) ws):Cu p ws=some (s,⟨0⟩):=by
  obtain ⟨W,hW,hW1,hW2,_⟩:=h.2.1
  have hsl:=hs.1
  have hfl:=h.1
  unfold Cu
  rw [if_neg (by omega),Id (by omega) (by omega),Ar]
  unfold BP
  rw [if_pos (by omega),Ar]
  refine Ma (fun m st=>st.1.length=s.length∧(∀ (i:Nat) x,i < m→s[i]?=some x→st.1[i]?=some x)∧st.2.length=ws.length∧Bits p.fields s (fun i=>m≤i) st.2) ⟨by simp;omega,fun i x hi=>by omega,rfl,?_⟩ ?_ ?_
  · intro k c a ha hc
    rw [hb k c a ha hc]
    constructor
    · rintro ⟨i,f,x,_,hr⟩;exact ⟨i,f,x,by omega,hr⟩
    · rintro ⟨i,f,x,_,hr⟩;exact ⟨i,f,x,trivial,hr⟩
  · rintro m f ⟨out,rest⟩ hm ⟨i1,i2,i3,i4⟩
    dsimp only at i1 i2 i3 i4 ⊢
    obtain ⟨k,b,w,n,x,rfl,hk,hbw,hw,hx,hx0,hxn,hxw⟩:=h.field hs hm
    have hml:=AC hx
    obtain ⟨u,hu⟩:=AE (l:=out) (k:=m) (by omega)
    obtain ⟨a,ha⟩:=AE (l:=rest) (k:=k) (by omega)
    rw [Qs h hs hwl hb hm hx,Ar,hu,Ar,List.getElem?_set_self (by omega),Ar]
    dsimp only
    rw [if_neg (by omega),Cm,ha,Ar,Md,Ar,Ar]
    refine ⟨_,rfl,by simpa using i1,fun i y hi hy=>?_,by simpa using i3,?_⟩
    · by_cases e:i=m
      · subst e
        rw [hx] at hy
        obtain rfl:=Option.some.inj hy
        exact List.getElem?_set_self (by omega)
      · show (out.set m x)[i]?=_
        rw [List.getElem?_set_ne (by omega)]
        exact i2 i y (by omega) hy
    · show Bits p.fields s _ (rest.set ((k:Int)).toNat _)
      simp only [Int.toNat_natCast]
      intro k' c a' ha' hc
      by_cases e:k=k'
      · subst e
        rw [List.getElem?_set_self (AC ha)] at ha'
        obtain rfl:=Option.some.inj ha'
        rw [BitVec.getLsbD_and,BitVec.getLsbD_not,Lp hw hc]
        have h1:=i4 k c a ha hc
        constructor
        · intro hh
          simp only [Bool.and_eq_true,Bool.not_eq_true',decide_eq_true_eq] at hh
          obtain ⟨i,f,y,hi,hf,hy,hin⟩:=h1.1 hh.1
          refine ⟨i,f,y,?_,hf,hy,hin⟩
          rcases Nat.lt_or_ge m i with hlt|hge
          · exact hlt
          · exfalso
            obtain rfl:i=m:=by omega
            rw [hm] at hf
            obtain rfl:=Option.some.inj hf
            obtain ⟨_,j2,j3,_⟩:=hin
            dsimp only at j2 j3
            have h2:=hh.2.2
            rw [show decide (b≤c)=true from by simp;omega,show decide (c < b + w)=true from by simp;omega] at h2
            cases h2
        · rintro ⟨i,f,y,hi,hf,hy,hin⟩
          have hg:=h1.2 ⟨i,f,y,by omega,hf,hy,hin⟩
          have hno:¬ (b≤c∧c < b + w):=fun hh=>by
            have:=h.same (k:=k) (c:=c) hm hf ⟨rfl,by dsimp only;omega,by dsimp only;omega⟩ ⟨hin.1,hin.2.1,hin.2.2.1⟩
            omega
          rw [hg]
          by_cases q1:b≤c
          · have q2:¬ c < b + w:=fun hh=>hno ⟨q1,hh⟩
            simp [hc,q1,q2]
          · simp [hc,q1]
      · rw [List.getElem?_set_ne e] at ha'
        rw [i4 k' c a' ha' hc]
        constructor
        · rintro ⟨i,f,y,hi,hf,hy,hin⟩
          refine ⟨i,f,y,?_,hf,hy,hin⟩
          rcases Nat.lt_or_ge m i with hlt|hge
          · exact hlt
          · exfalso
            obtain rfl:i=m:=by omega
            rw [hm] at hf
            obtain rfl:=Option.some.inj hf
            have:=hin.1
            dsimp only at this
            omega
        · rintro ⟨i,f,y,hi,hr⟩;exact ⟨i,f,y,by omega,hr⟩
  · rintro ⟨out,rest⟩ ⟨i1,i2,i3,i4⟩
    dsimp only at i1 i2 i3 i4
    rw [CP]
    dsimp only
    have hout:out=s:=by
      apply List.ext_getElem?
      intro i
      rcases Nat.lt_or_ge i s.length with hi|hi
      · obtain ⟨x,hx⟩:=AE (l:=s) (k:=i) hi
        rw [hx];exact i2 i x (by omega) hx
      · rw [List.getElem?_eq_none hi,List.getElem?_eq_none (by omega)]
    subst hout
    refine Ma (fun _ _=>True) trivial (fun k a _ hk _=>⟨(),?_,trivial⟩) (fun _ _=>rfl)
    obtain ⟨a',ha'⟩:=AE (l:=rest) (k:=k) (by have:=AC hk;omega)
    rw [ha',Ar]
    have hz:a'=0:=by
      apply BitVec.eq_of_getLsbD_eq
      intro c hc
      cases hg:a'.getLsbD c with
      | false=>simp
      | true =>
        obtain ⟨i,f,x,hi,hf,_⟩:=(i4 k c a' ha' hc).1 hg
        have:=AC hf
        omega
    subst hz
    rw [if_neg (by simp)]
theorem Oo {vars:List Int} {p:Pkr} (h:PkOk vars p) (hl:vars.length≤64) {s s':List Int} (hs:StateOk vars s) (hs':StateOk vars s') {ws:List U64} (h1:BF p s=some (ws,⟨0⟩)) (h2:BF p s'=some (ws,⟨0⟩)):s=s':=by
  obtain ⟨r,r1,r2,r3,r4⟩:=IO h hl hs
  obtain ⟨q,q1,q2,q3,q4⟩:=IO h hl hs'
  rw [h1] at r1
  rw [h2] at q1
  obtain rfl:=Option.some.inj r1
  obtain rfl:=Option.some.inj q1
  have e1:=Is h hl hs r3 r4
  have e2:=Is h hl hs' q3 q4
  rw [e1] at e2
  have:=Option.some.inj e2
  exact congrArg Prod.fst this
end
section
open Go Go.RowKit
theorem Ku {K V:Type} [MKey K] (z:V) (k k':K) (v:V):∀ l:List (K×V),mget z (mput l k v) k'=if k=k' then v else mget z l k'
  | []=>by simp only [mput,mget]
  | p :: r=>by
    have ih:=Ku z k k' v r
    simp only [mput]
    by_cases h1:p.1=k
    · rw [if_pos h1]
      simp only [mget]
      by_cases h2:k=k'
      · rw [if_pos h2,if_pos h2]
      · rw [if_neg h2,if_neg h2,if_neg (by rw [h1];exact h2)]
    · rw [if_neg h1]
      simp only [mget,ih]
      by_cases h2:k=k'
      · rw [if_pos h2,if_pos h2,if_neg (by rw [← h2];exact h1)]
      · rw [if_neg h2,if_neg h2]
theorem Nr (p:Pkr) (ws:List U64):∃ h,BS p ws=some h:=by
  have:∃ r,BS p ws=some r∧True:=by
    unfold BS
    refine Hb (fun _ _=>True) (fun _=>False) trivial (fun i x s _ _=>.inl ?_) (fun s _=>?_) (fun q hq=>hq.elim)
    · exact ⟨_,rfl,trivial⟩
    · exact ⟨_,rfl,trivial⟩
  obtain ⟨h,h1,_⟩:=this
  exact ⟨h,h1⟩
theorem Qt (a b:List U64):Bz a b=some (decide (a=b)):=by
  unfold Bz
  by_cases hl:(a.length:Int)=(b.length:Int)
  · rw [if_neg (by omega)]
    have:∃ r,(bnd (rng (ρ:=Bool) (fun (k18:Nat) (a19:U64) (_:Unit)=>bnd (b[k18]?) fun a36=>if (a19.toNat:Int)≠(a36.toNat:Int) then (some (.ret false)) else (some (.next ()))) a 0 ()) fun res14=>fin res14 fun (_:Unit)=>some true)=some r∧r=decide (a=b):=by
      refine Hb (fun m _=>∀ (i:Nat),i < m→a[i]?=b[i]?) (fun r=>r=false∧a≠b) (fun i hi=>by omega) ?_ ?_ ?_
      · intro i x _ hx hI
        obtain ⟨y,hy⟩:=AE (l:=b) (k:=i) (by have:=AC hx;omega)
        rw [hy,Ar]
        by_cases he:x=y
        · subst he
          rw [if_neg (by simp)]
          refine .inl ⟨(),rfl,fun j hj=>?_⟩
          by_cases e:j=i
          · subst e;rw [hx,hy]
          · exact hI j (by omega)
        · rw [if_pos (fun h=>he (BitVec.eq_of_toNat_eq (by omega)))]
          refine .inr ⟨_,rfl,rfl,fun h=>he ?_⟩
          rw [h,hy] at hx
          exact (Option.some.inj hx).symm
      · intro _ hI
        refine ⟨_,rfl,?_⟩
        symm
        rw [decide_eq_true_eq]
        apply List.ext_getElem?
        intro i
        rcases Nat.lt_or_ge i a.length with h|h
        · exact hI i h
        · rw [List.getElem?_eq_none h,List.getElem?_eq_none (by omega)]
      · rintro q ⟨rfl,hne⟩
        exact ⟨_,rfl,by simp [hne]⟩
    obtain ⟨r,h1,h2⟩:=this
    rw [h1,h2]
  · rw [if_pos hl]
    congr 1
    symm
    rw [decide_eq_false_iff_not]
    exact fun h=>hl (by rw [h])
structure RegI (vars:List Int) (r:Reg) (L:List (List Int)):Prop where
  pk:PkOk vars r.packer
  len:r.entries.length=L.length
  st:∀ (i:Nat) s,L[i]?=some s→StateOk vars s
  words:∀ (i:Nat) s e,L[i]?=some s→r.entries[i]?=some e→BF r.packer s=some (e.words,⟨0⟩)
  nodup:∀ (i j:Nat) s,L[i]?=some s→L[j]?=some s→i=j
  tab:∀ (i:Nat) e,r.entries[i]?=some e→∃ h,BS r.packer e.words=some h∧(i:Int)∈mget ([]:List Int) r.table.l h
  val:∀ h a,a∈mget ([]:List Int) r.table.l h→∃ i:Nat,a=(i:Int)∧i < L.length
  few:∀ h,(mget ([]:List Int) r.table.l h).length≤L.length
def links (r:Reg):List RLk:=r.entries.map (·.link)
theorem Ns {vars:List Int} (hl:vars.length≤64) (hv:∀ (i:Nat) n,vars[i]?=some n→1≤n∧n≤64):∃ r,CY vars=some r∧∃ q,r=(some q,⟨0⟩)∧RegI vars q []∧links q=[]:=by
  obtain ⟨r,h1,p,rfl,hp⟩:=MK hl hv
  unfold CY
  rw [h1,Ar,if_neg (by simp),Ar]
  exact ⟨_,rfl,_,rfl,⟨hp,rfl,fun i s h=>by simp at h,fun i s e h=>by simp at h,fun i j s h=>by simp at h,fun i e h=>by simp at h,fun h a ha=>by simp [mget] at ha,fun h=>by simp [mget]⟩,rfl⟩
theorem ML {vars:List Int} (hl:vars.length≤64) {r:Reg} {L:List (List Int)} (h:RegI vars r L) {s:List Int} (hs:StateOk vars s):∃ (ws:List U64) (hh:Int),BF r.packer s=some (ws,⟨0⟩)∧BS r.packer ws=some hh ∧
    ((∃ i:Nat,L[i]?=some s∧Bw r s=some (ws,hh,(i:Int),⟨0⟩))∨((∀ i:Nat,L[i]?≠some s)∧Bw r s=some (ws,hh,-1,⟨0⟩))):=by
  obtain ⟨⟨ws,er⟩,p1,p2,p3,p4⟩:=IO h.pk hl hs
  dsimp only at p2 p3 p4
  subst p2
  obtain ⟨hh,hhe⟩:=Nr r.packer ws
  refine ⟨ws,hh,p1,hhe,?_⟩
  have key:∃ res,Bw r s=some res∧((∃ i:Nat,L[i]?=some s∧res=(ws,hh,(i:Int),⟨0⟩))∨((∀ i:Nat,L[i]?≠some s)∧res=(ws,hh,-1,⟨0⟩))):=by
    unfold Bw
    rw [p1,Ar,if_neg (by simp),hhe,Ar]
    refine Hb (fun m _=>∀ (j:Nat) (i:Nat),j < m→(mget ([]:List Int) r.table.l hh)[j]?=some (i:Int)→L[i]?≠some s) (fun res=>∃ i:Nat,L[i]?=some s∧res=(ws,hh,(i:Int),⟨0⟩)) (fun j i hj=>by omega) ?_ ?_ ?_
    · intro m a _ hm hI
      obtain ⟨i,rfl,hi⟩:=h.val hh a (List.mem_of_getElem? hm)
      obtain ⟨e,he⟩:=AE (l:=r.entries) (k:=i) (by rw [h.len];exact hi)
      obtain ⟨s',hs'⟩:=AE (l:=L) (k:=i) hi
      have hw:=h.words i s' e hs' he
      rw [Cm,he,Ar,Qt,Ar]
      by_cases hew:e.words=ws
      · rw [decide_eq_true hew,Ej]
        rw [hew] at hw
        have:=Oo h.pk hl (h.st i s' hs') hs hw p1
        subst this
        exact .inr ⟨_,rfl,i,hs',rfl⟩
      · rw [decide_eq_false hew,Dq]
        refine .inl ⟨(),rfl,fun j i' hj hi'=>?_⟩
        by_cases e1:j=m
        · subst e1
          rw [hm] at hi'
          have e2:i=i':=by have:=Option.some.inj hi';omega
          subst e2
          intro hL
          rw [hL] at hs'
          obtain rfl:=Option.some.inj hs'
          rw [p1] at hw
          exact hew (congrArg Prod.fst (Option.some.inj hw)).symm
        · exact hI j i' (by omega) hi'
    · intro _ hI
      refine ⟨_,rfl,.inr ⟨fun i hL=>?_,rfl⟩⟩
      obtain ⟨e,he⟩:=AE (l:=r.entries) (k:=i) (by rw [h.len];exact AC hL)
      have hw:=h.words i s e hL he
      rw [p1] at hw
      have hwe:ws=e.words:=congrArg Prod.fst (Option.some.inj hw)
      obtain ⟨h',t1,t2⟩:=h.tab i e he
      rw [← hwe,hhe] at t1
      obtain rfl:=Option.some.inj t1
      obtain ⟨j,hj⟩:=List.getElem?_of_mem t2
      exact hI j i (AC hj) hj hL
    · rintro q ⟨i,hi,rfl⟩
      exact ⟨_,rfl,.inl ⟨i,hi,rfl⟩⟩
  obtain ⟨res,k1,k2⟩:=key
  rcases k2 with ⟨i,hi,rfl⟩|⟨hn,rfl⟩
  · exact .inl ⟨i,hi,k1⟩
  · exact .inr ⟨hn,k1⟩
theorem Kv {vars:List Int} (hl:vars.length≤64) {r:Reg} {L:List (List Int)} (h:RegI vars r L) {s:List Int} (hs:StateOk vars s) (hL:L.length < 65536) :
    (∃ i:Nat,L[i]?=some s∧Bi r s=some ((i:Int),false,⟨0⟩,r))∨((∀ i:Nat,L[i]?≠some s)∧∃ r',Bi r s=some ((L.length:Int),true,⟨0⟩,r')∧RegI vars r' (L ++ [s])∧links r'=links r ++ [⟨-1,-1,0⟩]):=by
  obtain ⟨ws,hh,p1,p2,hf⟩:=ML hl h hs
  unfold Bi
  have hlen:=h.len
  rcases hf with ⟨i,hi,hf⟩|⟨hno,hf⟩
  · refine .inl ⟨i,hi,?_⟩
    rw [hf,Ar,if_neg (by simp),if_pos (by dsimp only;omega)]
  · refine .inr ⟨hno,?_⟩
    have hfew:=h.few hh
    rw [hf,Ar,if_neg (by simp),if_neg (by dsimp only;omega),if_neg (by omega)]
    dsimp only
    rw [Cy (by simp;omega) (by simp;omega),Ar,Cy (by simp;omega) (by simp;omega),Ar,hlen]
    have hget:∀ k,mget ([]:List Int) (mput r.table.l hh (mget ([]:List Int) r.table.l hh ++ [(L.length:Int)])) k=if hh=k then mget ([]:List Int) r.table.l hh ++ [(L.length:Int)] else mget ([]:List Int) r.table.l k:=fun k=>Ku _ _ _ _ _
    refine ⟨_,rfl,⟨h.pk,by simp [hlen],?_,?_,?_,?_,?_,?_⟩,by simp [links]⟩
    · intro i s' hi
      rcases DC hi with hi|⟨_,rfl⟩
      · exact h.st i s' hi
      · exact hs
    · intro i s' e hi he
      rcases DC hi with hi|⟨hi,rfl⟩
      · rcases DC he with he|⟨he,_⟩
        · exact h.words i s' e hi he
        · have:=AC hi;omega
      · rcases DC he with he|⟨he,rfl⟩
        · have:=AC he;omega
        · exact p1
    · intro i j s' hi hj
      rcases DC hi with hi2|⟨hi2,hs2⟩
      · rcases DC hj with hj2|⟨hj2,hs2⟩
        · exact h.nodup i j s' hi2 hj2
        · exact absurd (hs2 ▸ hi2) (hno i)
      · rcases DC hj with hj2|⟨hj2,_⟩
        · exact absurd (hs2 ▸ hj2) (hno j)
        · omega
    · intro i e he
      rcases DC he with he|⟨hi,rfl⟩
      · obtain ⟨k,k1,k2⟩:=h.tab i e he
        refine ⟨k,k1,?_⟩
        dsimp only
        rw [hget]
        by_cases e1:hh=k
        · subst e1;rw [if_pos rfl];exact List.mem_append_left _ k2
        · rw [if_neg e1];exact k2
      · refine ⟨hh,p2,?_⟩
        dsimp only
        rw [hget,if_pos rfl,hi,hlen]
        simp
    · intro k a ha
      dsimp only at ha
      rw [hget] at ha
      simp only [List.length_append,List.length_singleton]
      by_cases e1:hh=k
      · rw [if_pos e1] at ha
        rcases List.mem_append.1 ha with ha|ha
        · obtain ⟨i,h1,h2⟩:=h.val hh a ha;exact ⟨i,h1,by omega⟩
        · exact ⟨L.length,by simpa using ha,by omega⟩
      · rw [if_neg e1] at ha
        obtain ⟨i,h1,h2⟩:=h.val k a ha;exact ⟨i,h1,by omega⟩
    · intro k
      dsimp only
      rw [hget]
      have:=h.few k
      simp only [List.length_append,List.length_singleton]
      by_cases e1:hh=k
      · rw [if_pos e1];simp;omega
      · rw [if_neg e1];omega
theorem Nt {vars:List Int} {r:Reg} {L:List (List Int)} (h:RegI vars r L) {i:Nat} (hi:i < L.length):Cc r (i:Int)=some true:=by
  unfold Cc
  rw [if_pos (by omega),if_pos (by rw [h.len];omega)]
  rfl
theorem LL {vars:List Int} (hl:vars.length≤64) {r:Reg} {L:List (List Int)} (h:RegI vars r L) {i:Nat} {s:List Int} (hi:L[i]?=some s):BD r (i:Int)=some (s,⟨0⟩):=by
  obtain ⟨e,he⟩:=AE (l:=r.entries) (k:=i) (by rw [h.len];exact AC hi)
  have hs:=h.st i s hi
  obtain ⟨⟨ws,er⟩,p1,p2,p3,p4⟩:=IO h.pk hl hs
  have hw:=h.words i s e hi he
  rw [p1] at hw
  have hwe:ws=e.words:=congrArg Prod.fst (Option.some.inj hw)
  dsimp only at p3 p4
  rw [hwe] at p3 p4
  unfold BD
  rw [Nt h (AC hi),Ar,Ej,Cm,he,Ar,Is h.pk hl hs p3 p4,Ar]
end
section
open Go Go.RowKit
inductive Rch (t:Tsk):List Int→Prop
  | init:Rch t t.init
  | step {s:List Int} {k:Nat} {o:Opr}:Rch t s→t.ops[k]?=some o→holdsB o.pre s=true→Rch t (succ o s)
theorem Rch.ok {t:Tsk} (h:TaskOk t) {s:List Int} (hr:Rch t s):StateOk t.vars s:=by
  induction hr with
  | init=>exact h.2.2.2.1
  | step _ ho _ ih=>exact LZ h ih ho
end
section
open Go Go.RowKit
attribute [local irreducible] ewp owp hwp hwq hws Ev Evg Fn retPost loud loudS Res1
noncomputable def It (x0:Err) (x1:Int):Option Bool :=
  bnd (if x0.n≠0 then (bnd (JH (⟨x0.n⟩:Err)) fun q8=>if q8=x1 then (some true) else (some false)) else (some false):Option Bool) fun y3=>some y3
theorem Nu {w:World} {A:Nat→Prop} (hA:∀ k,A k→k < w.heap.size) {x0:Err} (rx0:inI64 x0.n) {x1:Int} (rx1:inI64 x1) {r:Bool} (hm:It x0 x1=some r) :
    Fn Tryz.prog 20 [(errV x0.n),(.int .i64 x1)] w fun v w'=>Ext w w'∧Vb w' (upA A w w') v r:=by
 obtain ⟨O,hB,f0⟩:=enter hA
 refine AI Tryz.func20 rfl Tryz.ntmps20 rfl ?_
 unfold It at hm
 refine Al (Aj (At rfl rfl (o_z ?_)))
 refine Al ?_
 obtain ⟨y3,a0,hm⟩:=bs hm
 refine AM (fun l' w'=>∃ (x6:Unit) (O':Lab),subs l' [(4,(.bool y3))]∧Bs w A w' O') ?_ ?_
 ·
  refine Aj (Am rfl rfl (ET rfl rfl (fun c7=>?_) fun c7=>?_))
  ·
   replace a0:=ip a0 c7
   refine Am rfl rfl (Aw rfl rfl (Am rfl rfl (Aw rfl rfl ?_)))
   obtain ⟨q8,e9,a0⟩:=bs a0
   refine BU (O:=O) (A:=All w) (R:=fun w' F v=>Vb w' F v q8) (MC (fun _ h=>h) rx0 e9) rfl rfl fun g0 h0 i0 d0 e0=>?_
   obtain ⟨rfl,j0⟩:=e0.int
   refine Aw rfl rfl (Am rfl rfl (Aw rfl rfl (EP rfl rfl rfl (fun b0=>?_) fun b0=>?_)))
   ·
    replace a0:=ip a0 b0
    refine Bo rfl rfl rfl (At rfl rfl (o_z ?_))
    obtain rfl:=sm a0
    exact ⟨(),_,⟨rfl,trivial⟩,hB.st d0⟩
   replace a0:=im a0 b0
   refine Bo rfl rfl rfl (At rfl rfl (o_z ?_))
   obtain rfl:=sm a0
   exact ⟨(),_,⟨rfl,trivial⟩,hB.st d0⟩
  replace a0:=im a0 c7
  refine Am rfl rfl (Ay rfl rfl rfl rfl (Ay rfl rfl rfl rfl (Ay rfl rfl rfl rfl (Ay rfl rfl rfl rfl (Bl rfl rfl rfl (At rfl rfl (o_z ?_)))))))
  obtain rfl:=sm a0
  exact ⟨(),_,⟨rfl,trivial⟩,hB⟩
 rintro k0 l0 ⟨x6,m0,c0,hB⟩
 refine AO _ c0 ?_
 refine AL ?_
 obtain rfl:=sm hm
 exact ret1v rfl (AA rfl) ⟨hB.ext,vBool⟩
end
section
open Go Go.RowKit
theorem Iu {α:Type} [DecidableEq α]:∀ {a b:List α},a.Nodup→(∀ x∈a,x∈b)→a.length≤b.length
  | [],_,_,_=>Nat.zero_le _
  | x :: a,b,hn,hs=>by
    have hx:=hs x List.mem_cons_self
    have h1:=Iu (a:=a) (b:=b.erase x) (List.nodup_cons.1 hn).2 fun y hy=>(List.mem_erase_of_ne (fun e=>(List.nodup_cons.1 hn).1 (by rw [← e];exact hy))).2 (hs y (List.mem_cons_of_mem _ hy))
    have h2:=List.length_erase_of_mem hx
    have h3:=List.length_pos_of_mem hx
    simp only [List.length_cons]
    omega
end
section
open Go Go.RowKit
def appB (t:Tsk) (s:List Int) (k:Nat):Bool:=match t.ops[k]? with|some o=>holdsB o.pre s|none=>false
def appN (t:Tsk) (s:List Int) (m:Nat):List Nat:=(List.range m).filter (appB t s)
def sucN (t:Tsk) (s:List Int) (k:Nat):List Int:=match t.ops[k]? with|some o=>succ o s|none=>s
theorem Qu (t:Tsk) (s:List Int):appl t s=(appN t s t.ops.length).map fun k:Nat=>(k:Int):=rfl
theorem FX {t:Tsk} {s:List Int} {k:Nat} (h:appB t s k=true):∃ o,t.ops[k]?=some o∧holdsB o.pre s=true∧sucN t s k=succ o s:=by
  unfold appB at h
  cases ho:t.ops[k]? with
  | none=>rw [ho] at h;cases h
  | some o=>rw [ho] at h;exact ⟨o,rfl,h,by unfold sucN;rw [ho]⟩
theorem Me {t:Tsk} {s:List Int} {k:Nat} {o:Opr} (ho:t.ops[k]?=some o):appB t s k=holdsB o.pre s∧sucN t s k=succ o s:=by unfold appB sucN;rw [ho];exact ⟨rfl,rfl⟩
end
section
set_option linter.unusedVariables false
set_option linter.unusedSimpArgs false
open Go Go.RowKit
def putL (L:List (List Int)) (s:List Int):List (List Int):=if s∈L then L else L ++ [s]
def foldP (t:Tsk) (s:List Int) (L:List (List Int)) (ks:List Nat):List (List Int):=ks.foldl (fun L k=>putL L (sucN t s k)) L
def expL (t:Tsk) (s:List Int) (L:List (List Int)) (m:Nat):List (List Int):=foldP t s L (appN t s m)
theorem Kw (t:Tsk) (s:List Int) (m:Nat):appN t s (m + 1)=appN t s m ++ if appB t s m=true then [m] else []:=by
  unfold appN
  rw [List.range_succ,List.filter_append]
  by_cases h:appB t s m=true<;>simp [h]
theorem Nv (t:Tsk) (s:List Int) (L:List (List Int)) (m:Nat):expL t s L (m + 1)=if appB t s m=true then putL (expL t s L m) (sucN t s m) else expL t s L m:=by
  unfold expL foldP
  rw [Kw,List.foldl_append]
  by_cases h:appB t s m=true
  · rw [if_pos h,if_pos h];rfl
  · rw [if_neg h,if_neg h];rfl
theorem Lq (L:List (List Int)) (s:List Int):∃ A,putL L s=L ++ A:=by
  unfold putL
  split
  · exact ⟨[],by simp⟩
  · exact ⟨[s],rfl⟩
theorem Oq (L:List (List Int)) (s:List Int):s∈putL L s:=by
  unfold putL
  split
  · assumption
  · simp
theorem Em (t:Tsk) (s:List Int):∀ (ks:List Nat) (L:List (List Int)),∃ A,foldP t s L ks=L ++ A
  | [],L=>⟨[],by simp [foldP]⟩
  | k :: ks,L=>by
    obtain ⟨A,hA⟩:=Lq L (sucN t s k)
    obtain ⟨B,hB⟩:=Em t s ks (putL L (sucN t s k))
    exact ⟨A ++ B,by rw [← List.append_assoc,← hA,← hB];rfl⟩
theorem JK (t:Tsk) (s:List Int) (L:List (List Int)) (ks:List Nat) (k:Nat):foldP t s L (ks ++ [k])=putL (foldP t s L ks) (sucN t s k):=by unfold foldP;rw [List.foldl_append];rfl
theorem Iv (t:Tsk) (s:List Int):∀ (ks:List Nat) (L:List (List Int)) (k:Nat),k∈ks→sucN t s k∈foldP t s L ks
  | [],_,_,h=>by simp at h
  | q :: ks,L,k,h=>by
    rcases List.mem_cons.1 h with rfl|h
    · obtain ⟨B,hB⟩:=Em t s ks (putL L (sucN t s k))
      show _∈foldP t s (putL L (sucN t s k)) ks
      rw [hB];exact List.mem_append_left _ (Oq _ _)
    · exact Iv t s ks _ k h
structure BL (t:Tsk) (L:List (List Int)):Prop where
  root:L[0]?=some t.init
  nodup:L.Nodup
  rch:∀ s∈L,Rch t s
theorem Hd (t:Tsk):BL t [t.init]:=⟨rfl,by simp,fun s h=>by simp at h;rw [h];exact .init⟩
theorem BL.ok {t:Tsk} {L:List (List Int)} (h:BL t L) (hok:TaskOk t) {s:List Int} (hs:s∈L):StateOk t.vars s:=(h.rch s hs).ok hok
theorem BL.few {t:Tsk} {L:List (List Int)} (h:BL t L) (hs:Mid t):L.length≤600:=Nat.le_trans (Iu h.nodup fun s hm=>Ja.2 (h.ok hs.ok hm)) hs.many
theorem BL.many {t:Tsk} {L:List (List Int)} (h:BL t L) (hok:TaskOk t):L.length≤(statesL t.vars).length:=Iu h.nodup fun s hm=>Ja.2 (h.ok hok hm)
theorem BL.put {t:Tsk} {L:List (List Int)} (h:BL t L) {s:List Int} (hs:s∈L) {k:Nat} (hk:appB t s k=true):BL t (putL L (sucN t s k)):=by
  unfold putL
  by_cases hm:sucN t s k∈L
  · rw [if_pos hm];exact h
  · rw [if_neg hm]
    obtain ⟨o,ho,hp,hsu⟩:=FX hk
    refine ⟨?_,?_,fun u hu=>?_⟩
    · rw [List.getElem?_append_left (AC h.root)];exact h.root
    · rw [List.nodup_append]
      refine ⟨h.nodup,by simp,fun a ha b hb=>?_⟩
      simp at hb
      rintro rfl
      exact hm (hb ▸ ha)
    · rcases List.mem_append.1 hu with hu|hu
      · exact h.rch u hu
      · simp at hu;rw [hu,hsu];exact (h.rch s hs).step ho hp
theorem BL.fold {t:Tsk} {s:List Int}:∀ {ks:List Nat} {L:List (List Int)},BL t L→s∈L→(∀ k∈ks,appB t s k=true)→BL t (foldP t s L ks)
  | [],_,h,_,_=>h
  | k :: ks,L,h,hs,hk=>by
    obtain ⟨A,hA⟩:=Lq L (sucN t s k)
    exact BL.fold (L:=putL L (sucN t s k)) (h.put hs (hk k List.mem_cons_self)) (by rw [hA];exact List.mem_append_left _ hs) fun q hq=>hk q (List.mem_cons_of_mem _ hq)
theorem Gy {t:Tsk} {s:List Int} {m k:Nat} (h:k∈appN t s m):appB t s k=true∧k < m:=by
  unfold appN at h
  obtain ⟨h1,h2⟩:=List.mem_filter.1 h
  exact ⟨h2,List.mem_range.1 h1⟩
theorem Lr {t:Tsk} {s:List Int} {m k:Nat} (h:appB t s k=true) (hk:k < m):k∈appN t s m:=List.mem_filter.2 ⟨List.mem_range.2 hk,h⟩
theorem BL.exp {t:Tsk} {s:List Int} {L:List (List Int)} (h:BL t L) (hs:s∈L) (m:Nat):BL t (expL t s L m):=h.fold hs fun k hk=>(Gy hk).1
def CloL (t:Tsk) (i:Nat) (L:List (List Int)):Prop:=∀ (j:Nat) s k,j < i→L[j]?=some s→appB t s k=true→sucN t s k∈L
theorem CloL.exp {t:Tsk} {i:Nat} {L:List (List Int)} (h:CloL t i L) {s:List Int} (hs:L[i]?=some s):CloL t (i + 1) (expL t s L t.ops.length):=fun j u k hj hu hk=>by
  obtain ⟨A,hA⟩:=Em t s (appN t s t.ops.length) L
  have hi:=AC hs
  have e:expL t s L t.ops.length=L ++ A:=hA
  rw [e,List.getElem?_append_left (by omega)] at hu
  by_cases e2:j=i
  · subst e2
    rw [hs] at hu
    obtain rfl:=Option.some.inj hu
    obtain ⟨o,ho,_⟩:=FX hk
    exact Iv t s _ _ k (Lr hk (AC ho))
  · rw [e];exact List.mem_append_left _ (h j u k (by omega) hu hk)
inductive Bx (t:Tsk) (lim:Int):Nat→List (List Int)→Option (List (List Int))→Prop
  | full {i:Nat} {L:List (List Int)}:lim < (L.length:Int)→Bx t lim i L none
  | done {i:Nat} {L:List (List Int)}:(L.length:Int)≤lim→L.length≤i→Bx t lim i L (some L)
  | step {i:Nat} {L:List (List Int)} {s:List Int} {r:Option (List (List Int))}:(L.length:Int)≤lim→L[i]?=some s→Bx t lim (i + 1) (expL t s L t.ops.length) r→Bx t lim i L r
theorem OR {t:Tsk} (hs:Mid t) (lim:Int):∀ (n i:Nat) (L:List (List Int)),601 - i < n→BL t L→∃ r,Bx t lim i L r
  | 0,_,_,h,_=>absurd h (by omega)
  | n + 1,i,L,h,hL=>by
    by_cases h1:lim < (L.length:Int)
    · exact ⟨_,.full h1⟩
    · by_cases h2:L.length≤i
      · exact ⟨_,.done (by omega) h2⟩
      · have hf:=hL.few hs
        obtain ⟨s,hs'⟩:=AE (l:=L) (k:=i) (by omega)
        obtain ⟨r,hr⟩:=OR hs lim n (i + 1) (expL t s L t.ops.length) (by omega) (hL.exp (List.mem_of_getElem? hs') _)
        exact ⟨r,.step (by omega) hs' hr⟩
structure EndL (t:Tsk) (lim:Int) (L:List (List Int)):Prop where
  bl:BL t L
  clo:CloL t L.length L
  few:(L.length:Int)≤lim
theorem Bx.ends {t:Tsk} {lim:Int} {i:Nat} {L:List (List Int)} {r:Option (List (List Int))} (h:Bx t lim i L r):BL t L→CloL t i L→∀ L',r=some L'→EndL t lim L':=by
  induction h with
  | full _=>intro _ _ _ h;cases h
  | done h1 h2=>intro hb hc L' h;cases h;exact ⟨hb,fun j s k hj hs hk=>hc j s k (by omega) hs hk,h1⟩
  | @step i L s r h1 h2 _ ih =>
    intro hb hc L' h
    exact ih (hb.exp (List.mem_of_getElem? h2) _) (hc.exp h2) L' h
def idxE (L:List (List Int)) (s:List Int):Int:=(L.idxOf s:Int)
def edgK (t:Tsk) (L:List (List Int)) (s:List Int) (i:Nat) (ks:List Nat):List Edj:=ks.map fun k:Nat=>(⟨(i:Int),(k:Int),idxE L (sucN t s k)⟩:Edj)
def edgL (t:Tsk) (L:List (List Int)) (i:Nat):List Edj:=(List.range i).flatMap fun j=>match L[j]? with|some s=>edgK t L s j (appN t s t.ops.length)|none=>[]
theorem Or {L A:List (List Int)} {s:List Int} (h:s∈L):idxE (L ++ A) s=idxE L s:=by unfold idxE;rw [List.idxOf_append,if_pos h]
theorem Ot {L:List (List Int)} {s:List Int} (h:¬ s∈L):idxE (L ++ [s]) s=(L.length:Int):=by unfold idxE;rw [List.idxOf_append,if_neg h];simp
theorem Mf {L:List (List Int)} {s:List Int} (h:s∈L):∃ i:Nat,idxE L s=(i:Int)∧L[i]?=some s:=⟨L.idxOf s,rfl,by rw [List.getElem?_eq_getElem (List.idxOf_lt_length_of_mem h),List.getElem_idxOf]⟩
theorem Ou {α:Type} {L:List α} (hn:L.Nodup) {i j:Nat} {s:α} (h1:L[i]?=some s) (h2:L[j]?=some s):i=j:=by
  obtain ⟨a1,b1⟩:=List.getElem?_eq_some_iff.1 h1
  obtain ⟨a2,b2⟩:=List.getElem?_eq_some_iff.1 h2
  rcases Nat.lt_trichotomy i j with h|h|h
  · exact ((List.pairwise_iff_getElem.1 hn) i j a1 a2 h (by rw [b1,b2])).elim
  · exact h
  · exact ((List.pairwise_iff_getElem.1 hn) j i a2 a1 h (by rw [b1,b2])).elim
theorem Qv {L:List (List Int)} (hn:L.Nodup) {i:Nat} {s:List Int} (h:L[i]?=some s):idxE L s=(i:Int):=by
  obtain ⟨j,h1,h2⟩:=Mf (List.mem_of_getElem? h)
  rw [h1,Ou hn h2 h]
theorem Ls {t:Tsk} {L A:List (List Int)} {s:List Int} {i:Nat} {ks:List Nat} (h:∀ k∈ks,sucN t s k∈L):edgK t (L ++ A) s i ks=edgK t L s i ks:=by
  unfold edgK
  exact List.map_congr_left fun k hk=>by rw [Or (h k hk)]
theorem Kb {α β:Type} {l:List α} {f g:α→List β} (h:∀ a∈l,f a=g a):l.flatMap f=l.flatMap g:=by
  induction l with
  | nil=>rfl
  | cons a l ih=>rw [List.flatMap_cons,List.flatMap_cons,h a List.mem_cons_self,ih fun b hb=>h b (List.mem_cons_of_mem _ hb)]
theorem Ov {t:Tsk} {L A:List (List Int)} {i:Nat} (hi:i≤L.length) (h:CloL t i L):edgL t (L ++ A) i=edgL t L i:=by
  unfold edgL
  refine Kb fun j hj=>?_
  have hji:=List.mem_range.1 hj
  obtain ⟨s,hs⟩:=AE (l:=L) (k:=j) (by omega)
  rw [List.getElem?_append_left (by omega),hs]
  exact Ls fun k hk=>h j s k hji hs (Gy hk).1
theorem Iw {t:Tsk} {L:List (List Int)} {i:Nat} {s:List Int} (hs:L[i]?=some s):edgL t L (i + 1)=edgL t L i ++ edgK t L s i (appN t s t.ops.length):=by
  unfold edgL
  rw [List.range_succ,List.flatMap_append,List.flatMap_singleton,hs]
theorem Lt {t:Tsk} {L:List (List Int)} {i:Nat} {e:Edj}:e∈edgL t L i↔∃ (j k:Nat) (s:List Int),j < i∧L[j]?=some s∧appB t s k=true∧e=⟨(j:Int),(k:Int),idxE L (sucN t s k)⟩:=by
  unfold edgL
  rw [List.mem_flatMap]
  constructor
  · rintro ⟨j,hj,he⟩
    cases hs:L[j]? with
    | none=>rw [hs] at he;simp at he
    | some s =>
      rw [hs] at he
      obtain ⟨k,hk,rfl⟩:=List.mem_map.1 he
      exact ⟨j,k,s,List.mem_range.1 hj,hs,(Gy hk).1,rfl⟩
  · rintro ⟨j,k,s,hj,hs,hk,rfl⟩
    refine ⟨j,List.mem_range.2 hj,?_⟩
    rw [hs]
    obtain ⟨o,ho,_⟩:=FX hk
    exact List.mem_map.2 ⟨k,Lr hk (AC ho),rfl⟩
theorem Jq (t:Tsk) (s:List Int) (m:Nat):(appN t s m).length≤m:=by
  unfold appN
  exact Nat.le_trans (List.length_filter_le _ _) (by simp)
theorem Hw (t:Tsk) (L:List (List Int)):∀ (i:Nat),(edgL t L i).length≤i * t.ops.length
  | 0=>by simp [edgL]
  | i + 1=>by
    have h:=Hw t L i
    unfold edgL at h ⊢
    rw [List.range_succ,List.flatMap_append,List.flatMap_singleton,List.length_append,Nat.succ_mul]
    have:(match L[i]? with|some s=>edgK t L s i (appN t s t.ops.length)|none=>[]).length≤t.ops.length:=by
      cases L[i]? with
      | none=>simp
      | some s=>dsimp only;unfold edgK;rw [List.length_map];exact Jq _ _ _
    omega
theorem EndL.edges {t:Tsk} {lim:Int} {L:List (List Int)} (h:EndL t lim L) (hs:Mid t):EdgesOk t L.length (edgL t L L.length):=by
  have hf:=h.bl.few hs
  refine ⟨fun e he=>?_,?_⟩
  · obtain ⟨j,k,s,hj,hsj,hk,rfl⟩:=Lt.1 he
    obtain ⟨i,h1,h2⟩:=Mf (h.clo j s k hj hsj hk)
    obtain ⟨o,ho,_⟩:=FX hk
    have:=AC h2
    have:=AC ho
    rw [h1]
    dsimp only;omega
  · have h1:=Hw t L L.length
    have h2:=hs.ops
    have:L.length * t.ops.length≤600 * 80:=Nat.mul_le_mul hf h2
    omega
-- the document
theorem Lu (L:List (List Int)) (s:List Int):Dh L s=some (if s∈L then idxE L s else -1):=by
  have key:∃ r,Dh L s=some r∧r=(if s∈L then idxE L s else -1):=by
    unfold Dh
    refine Hb (fun k _=>¬ s∈L.take k) (fun r=>s∈L∧r=idxE L s) (by simp) (fun k a u hk hI=>?_) (fun u hI=>⟨_,rfl,?_⟩) (fun r hr=>⟨_,rfl,?_⟩)
    · unfold Ex
      rw [Ar]
      by_cases e:a=s
      · rw [Ch e,Ej]
        subst e
        refine .inr ⟨_,rfl,List.mem_of_getElem? hk,?_⟩
        have hk2:=AC hk
        have:L=L.take k ++ (a :: L.drop (k + 1)):=by
          have h2:=List.drop_eq_getElem_cons hk2
          rw [(List.getElem?_eq_some_iff.1 hk).2] at h2
          rw [← h2,List.take_append_drop]
        unfold idxE
        rw [this,List.idxOf_append,if_neg hI]
        simp;omega
      · rw [Bj e,Dq]
        refine .inl ⟨(),rfl,fun hm=>?_⟩
        rcases (Gv hk).1 hm with hm|rfl
        · exact hI hm
        · exact e rfl
    · rw [List.take_length] at hI;rw [if_neg hI]
    · rw [if_pos hr.1];exact hr.2
  obtain ⟨r,h1,h2⟩:=key
  rw [h1,h2]
theorem Ox (L:List (List Int)) (s:List Int):0≤idxE L s:=by unfold idxE;omega
theorem LM {t:Tsk} (hs:Mid t) {lim:Int} {L:List (List Int)} (h:EndL t lim L):Es t L=some (edgL t L L.length):=by
  have hf:=h.bl.few hs
  have hops:=hs.ops
  unfold Es
  rw [EF (fun m=>edgL t L m) (by simp [edgL]) (fun i s hi=>?_),Ar,CP]
  have hil:=AC hi
  have hsok:=h.bl.ok hs.ok (List.mem_of_getElem? hi)
  have hlen:=Hw t L i
  have hb:i * t.ops.length≤600 * 80:=Nat.mul_le_mul (by omega) hops
  rw [EF (fun m=>edgL t L i ++ edgK t L s i (appN t s m)) (by simp [edgK,appN]) (fun k o ho=>?_),Ar,CP,Iw hi]
  obtain ⟨e1,e2⟩:=Me (s:=s) ho
  have hk:=AC ho
  have hlen2:(edgL t L i ++ edgK t L s i (appN t s k)).length≤60000:=by
    have:=Jq t s k
    rw [List.length_append];unfold edgK;rw [List.length_map];omega
  rw [Kw,e1,Ks hs.ok hsok ho]
  by_cases hp:holdsB o.pre s=true
  · rw [if_pos hp,if_pos hp,Ar]
    dsimp only
    rw [Ej,Lu,Ar,if_pos (by rw [← e2];exact h.clo i s k hil hi (by rw [e1];exact hp)),Cy (by rw [List.length_singleton];omega) (by rw [List.length_singleton];omega),Ar]
    unfold edgK
    rw [List.map_append,List.append_assoc,← e2];rfl
  · rw [if_neg hp,if_neg hp,Ar]
    dsimp only
    rw [Dq,List.append_nil]
abbrev LN:=List (List Int)×Int
noncomputable def rstF (x0:Tsk) (q25:Int):LN→Option (Ctl LN ((List (List Int))×Bool)):=fun s60=>bnd (if s60.2 < (s60.1.length:Int) then (if (s60.1.length:Int)≤q25 then (some true) else (some false)) else (some false):Option Bool) fun y79=>if y79=true then (bnd (rng (ρ:=Ctl LN ((List (List Int))×Bool)) (fun (k100:Nat) (a101:Opr) (s98:(List (List Int)))=>bnd (atI s98 s60.2) fun a115=>bnd (CT x0 a115 (k100:Int)) fun q130=>bnd (if q130.2=true then (bnd (Dh s98 q130.1) fun q148=>if q148 < 0 then (some true) else (some false)) else (some false):Option Bool) fun y143=>if y143=true then (bnd (appI 24 s98 [q130.1]) fun u162=>some (.next u162)) else (some (.next s98))) x0.ops 0 s60.1) fun res96=>fin res96 fun (s178:(List (List Int)))=>bnd (chkI (s60.2 + 1)) fun n180=>some (.next (s178,n180))) else (some (.brk (s60.1,s60.2)))
noncomputable def rstE (q25:Int):Fin LN ((List (List Int))×Bool)→Option ((List (List Int))×Bool):=fun res58=>fin res58 fun (s187:LN)=>bnd (if (s187.1.length:Int)≤q25 then (some true) else (some false):Option Bool) fun y189=>some (s187.1,y189)
theorem Ps (x0:Tsk) (x1:Int):DB x0 x1=bnd (Ey x1 0 65536) fun q25=>bnd (appI 8 ([]:List Int) x0.init) fun u39=>bnd (lop (rstF x0 q25) ([u39],0)) (rstE q25):=rfl
theorem Pt {t:Tsk} (hs:Mid t) {ρ:Type} {i:Nat} {L:List (List Int)} {s:List Int} (hb:BL t L) (hi:L[i]?=some s):rng (ρ:=ρ) (fun (k100:Nat) (a101:Opr) (s98:(List (List Int)))=>bnd (atI s98 (i:Int)) fun a115=>bnd (CT t a115 (k100:Int)) fun q130=>bnd (if q130.2=true then (bnd (Dh s98 q130.1) fun q148=>if q148 < 0 then (some true) else (some false)) else (some false):Option Bool) fun y143=>if y143=true then (bnd (appI 24 s98 [q130.1]) fun u162=>some (.next u162)) else (some (.next s98))) t.ops 0 L=some (.done (expL t s L t.ops.length)):=by
  refine EF (fun m=>expL t s L m) (by simp [expL,appN,foldP]) fun k o ho=>?_
  have hmem:=List.mem_of_getElem? hi
  have hE:=hb.exp hmem k
  have hf:=hE.few hs
  obtain ⟨e1,e2⟩:=Me (s:=s) ho
  have hsok:=hb.ok hs.ok hmem
  obtain ⟨A,hA⟩:=Em t s (appN t s k) L
  have hget:(expL t s L k)[i]?=some s:=by
    show (foldP t s L (appN t s k))[i]?=some s
    rw [hA,List.getElem?_append_left (AC hi)];exact hi
  rw [Nv,e1,Cm,hget,Ar,Ks hs.ok hsok ho]
  by_cases hp:holdsB o.pre s=true
  · rw [if_pos hp,if_pos hp,Ar]
    dsimp only
    rw [Ej,Lu,Ar,e2]
    unfold putL
    by_cases hm:succ o s∈expL t s L k
    · rw [if_pos hm,if_neg (by have:=Ox (expL t s L k) (succ o s);omega),Ar,Dq,if_pos hm]
    · rw [if_neg hm,if_pos (by omega),Ar,Ej,Cy (by rw [List.length_singleton];omega) (by rw [List.length_singleton];omega),Ar,if_neg hm]
  · rw [if_neg hp,if_neg hp,Ar]
    dsimp only
    rw [Dq,Ar,Dq]
def outS (r:Option (List (List Int))) (x:List (List Int)×Bool):Prop:=match r with|none=>x.2=false|some L=>x=(L,true)
theorem Qw {t:Tsk} (hs:Mid t) {lim:Int} {i:Nat} {L:List (List Int)} {r:Option (List (List Int))} (h:Bx t lim i L r):BL t L→∃ x,bnd (lop (rstF t lim) (L,(i:Int))) (rstE lim)=some x∧outS r x:=by
  induction h with
  | @full i L h1 =>
    intro _
    rw [Eh]
    unfold rstF
    dsimp only
    have e:(if (i:Int) < (L.length:Int) then (if (L.length:Int)≤lim then some true else some false) else some false)=some false:=by
      split
      · rw [if_neg (by omega)]
      · rfl
    rw [e,Ar,Dq]
    dsimp only
    rw [Ar]
    unfold rstE
    rw [CP,if_neg (by dsimp only;omega),Ar]
    exact ⟨_,rfl,rfl⟩
  | @done i L h1 h2 =>
    intro _
    rw [Eh]
    unfold rstF
    dsimp only
    rw [if_neg (by omega),Ar,Dq]
    dsimp only
    rw [Ar]
    unfold rstE
    rw [CP,if_pos (by dsimp only;omega),Ar]
    exact ⟨_,rfl,rfl⟩
  | @step i L s r h1 h2 _ ih =>
    intro hb
    have hil:=AC h2
    have hf:=hb.few hs
    rw [Eh]
    unfold rstF
    dsimp only
    rw [if_pos (by omega),if_pos h1,Ar,Ej,Pt hs hb h2,Ar,CP,Cq (by unfold inI64;omega),Ar]
    dsimp only
    exact ih (hb.exp (List.mem_of_getElem? h2) _)
def limE (x:Int):Int:=max 0 (min x 65536)
theorem Pu (x:Int):Ey x 0 65536=some (limE x):=by
  unfold limE Ey
  first|rfl|(congr 1;omega)|(split<;>(try split)<;>(congr 1;omega))
theorem Lv {t:Tsk} (hs:Mid t) (lim:Int):∃ r x,Bx t (limE lim) 0 [t.init] r∧DB t lim=some x∧outS r x:=by
  obtain ⟨r,hr⟩:=OR hs (limE lim) 602 0 [t.init] (by omega) (Hd t)
  obtain ⟨x,h1,h2⟩:=Qw hs hr (Hd t)
  refine ⟨r,x,hr,?_,h2⟩
  have h3:=hs.ok.2.2.2.1.1
  have h4:=hs.ok.1
  rw [Ps,Pu,Ar,Cy (by simp;omega) (by simp;omega),Ar,List.nil_append]
  exact h1
end
section
set_option linter.unusedVariables false
set_option linter.unusedSimpArgs false
open Go Go.RowKit
abbrev XI:=List Edj×Reg
abbrev XS:=Int×List Edj×List Bool×Reg
abbrev XR:=Option Spa×Err
theorem Ix {f:List Fct} (h:f.length≤1000):Bf f=some f:=if_pos ⟨by omega,by omega⟩
theorem Nw {t:Tsk} (h:TaskOk t):CE t=some t:=by
  obtain ⟨h1,h2,h3,h4,h5,h6⟩:=h
  have hg:=DZ h5
  unfold CE
  rw [Jl (by omega),Ar,Jl (by rw [h4.1];omega),Ar,Ix (by omega),Ar,Ar]
  rw [EF (fun k=>t.ops.take k) (by simp) (fun k o ho=>?_),Ar,CP,List.take_length]
  have hk:=AC ho
  have hoo:=h6 k o ho
  have hp:=DZ hoo.2.2.2.2.1
  rw [Ix (by omega),Ar]
  rw [EF (fun j=>o.effs.take j) (by simp) (fun j e he=>?_),Ar,CP,List.take_length]
  · rw [Cy (by rw [List.length_take,List.length_singleton];omega) (by rw [List.length_take,List.length_singleton];omega),Ar,List.take_add_one,ho];rfl
  · have hj:=AC he
    have hel:=hoo.2.2.1
    have hc:=DZ (hoo.2.2.2.2.2 j e he).1
    rw [Ix (by omega),Ar,Cy (by rw [List.length_take,List.length_singleton];omega) (by rw [List.length_take,List.length_singleton];omega),Ar,List.take_add_one,he];rfl
noncomputable def exIn (x1 i:Int):Suc→XI→Option (Ctl XI (Ctl XS XR)):=fun a228 s225=>bnd (Bi s225.2 a228.state) fun q263=>bnd (bnd (Eb (⟨q263.2.2.1.n⟩:Err) (⟨10⟩:Err)) fun q283=>if q283=true then some true else if q263.2.1=true then (if (max 0 (min x1 65536))≤q263.1 then (some true) else (some false)) else (some false):Option Bool) fun y279=>if y279=true then (some (.ret (.ret (none,(⟨10⟩:Err))))) else (if q263.2.2.1.n≠0 then (some (.ret (.ret (none,(⟨q263.2.2.1.n⟩:Err))))) else (bnd (appI 24 s225.1 [(⟨i,a228.op,q263.1⟩:Edj)]) fun u304=>some (.next (u304,q263.2.2.2))))
noncomputable def exF (x0:Tsk) (x1:Int) (gen:Option Gnr):XS→Option (Ctl XS XR):=fun s105=>bnd (Be s105.2.2.2) fun q130=>if s105.1 < q130 then (bnd (BD s105.2.2.2 s105.1) fun q141=>if q141.2.n≠0 then (some (.ret (none,(⟨q141.2.n⟩:Err)))) else (bnd (bnd (Dg x0.goal q141.1) fun q163=>if q163=true then bnd (appI 1 s105.2.2.1 [true]) fun u195=>some u195 else bnd (appI 1 s105.2.2.1 [false]) fun u176=>some u176:Option (List Bool)) fun y157=>bnd (Bk gen q141.1) fun q212=>bnd (rng (ρ:=Ctl XS XR) (fun (_:Nat) (a228:Suc) (s225:XI)=>exIn x1 s105.1 a228 s225) q212 0 (s105.2.1,s105.2.2.2)) fun res223=>fin res223 fun (s321:XI)=>bnd (chkI (s105.1 + 1)) fun n323=>some (.next (n323,s321.1,y157,s321.2)))) else (some (.brk (s105.1,s105.2.1,s105.2.2.1,s105.2.2.2)))
noncomputable def exE (q74:Tsk):Fin XS XR→Option XR:=fun res103=>fin res103 fun (s330:XS)=>bnd (BN (⟨(⟨q74.vars,q74.init,q74.goal,q74.ops⟩:Tsk),s330.2.2.2,s330.2.1,s330.2.2.1,([]:List Int),([]:List Int),([]:List Int)⟩:Spa)) fun q341=>some ((some q341),(⟨0⟩:Err))
theorem Qx (x0:Tsk) (x1:Int):Cj x0 x1=bnd (DN x0) fun q25=>if q25.2.n≠0 then (some (none,(⟨q25.2.n⟩:Err))) else (bnd (CY x0.vars) fun q40=>if q40.2.n≠0 then (some (none,(⟨q40.2.n⟩:Err))) else (if (max 0 (min x1 65536)) < 1 then (some (none,(⟨10⟩:Err))) else (bnd q40.1 fun o54=>bnd (Bi o54 x0.init) fun q57=>if q57.2.2.1.n≠0 then (some (none,(⟨q57.2.2.1.n⟩:Err))) else (bnd (CE x0) fun q74=>bnd (lop (exF x0 x1 q25.1) (0,([]:List Edj),([]:List Bool),q57.2.2.2)) (exE q74))))):=rfl
def goalsL (t:Tsk) (L:List (List Int)):List Bool:=L.map (holdsB t.goal)
structure SpX (t:Tsk) (L:List (List Int)) (x:Spa):Prop where
  reg:RegI t.vars x.states L
  sp:SpaOk t L.length (edgL t L L.length) (goalsL t L) x
def outX (t:Tsk) (r:Option (List (List Int))) (x:XR):Prop:=match r with|none=>x=(none,⟨10⟩)|some L=>∃ s,x=(some s,⟨0⟩)∧SpX t L s
theorem Nx (t:Tsk) (s:List Int) (L:List (List Int)) (a b:List Nat):foldP t s L (a ++ b)=foldP t s (foldP t s L a) b:=by unfold foldP;rw [List.foldl_append]
theorem Kx (t:Tsk) (L:List (List Int)) (s:List Int) (i:Nat) (ks:List Nat) (k:Nat):edgK t L s i (ks ++ [k])=edgK t L s i ks ++ [⟨(i:Int),(k:Int),idxE L (sucN t s k)⟩]:=by unfold edgK;rw [List.map_append];rfl
theorem Qy {t:Tsk} (hs:Mid t) {x1:Int} {i:Nat} {L:List (List Int)} {s:List Int} (hb:BL t L) (hcl:CloL t i L) (hlim:(L.length:Int)≤limE x1) (hi:L[i]?=some s) {reg:Reg} (hr:RegI t.vars reg L) :
    (∃ st,rng (ρ:=Ctl XS XR) (fun (_:Nat) (a228:Suc) (s225:XI)=>exIn x1 (i:Int) a228 s225) ((appS t s).map (sucOf t s)) 0 (edgL t L i,reg)=some (.done st)∧st.1=edgL t (expL t s L t.ops.length) (i + 1)∧RegI t.vars st.2 (expL t s L t.ops.length)∧((expL t s L t.ops.length).length:Int)≤limE x1) ∨
    (rng (ρ:=Ctl XS XR) (fun (_:Nat) (a228:Suc) (s225:XI)=>exIn x1 (i:Int) a228 s225) ((appS t s).map (sucOf t s)) 0 (edgL t L i,reg)=some (.ret (.ret (none,⟨10⟩)))∧limE x1 < ((expL t s L t.ops.length).length:Int)):=by
  have hmem:=List.mem_of_getElem? hi
  have hsok:=hb.ok hs.ok hmem
  have hil:=AC hi
  have hf0:=hb.few hs
  have hap:(appS t s).map (sucOf t s)=(appN t s t.ops.length).map fun k:Nat=>(⟨(k:Int),sucN t s k⟩:Suc):=by
    rw [Ha hsok,Qu,List.map_map];rfl
  rw [hap]
  have hel:=Hw t L i
  have hib:i * t.ops.length≤600 * 80:=Nat.mul_le_mul (by omega) hs.ops
  rcases LX (ρ:=Ctl XS XR) (f:=fun (_:Nat) (a228:Suc) (s225:XI)=>exIn x1 (i:Int) a228 s225) (xs:=(appN t s t.ops.length).map fun k:Nat=>(⟨(k:Int),sucN t s k⟩:Suc)) (s₀:=(edgL t L i,reg))
    (fun j y=>y.1=edgL t L i ++ edgK t (foldP t s L ((appN t s t.ops.length).take j)) s i ((appN t s t.ops.length).take j)∧RegI t.vars y.2 (foldP t s L ((appN t s t.ops.length).take j))∧((foldP t s L ((appN t s t.ops.length).take j)).length:Int)≤limE x1)
    (fun r=>r=.ret (none,⟨10⟩)∧limE x1 < ((expL t s L t.ops.length).length:Int))
    ⟨by simp [edgK],by simpa [foldP] using hr,by simpa [foldP] using hlim⟩ (fun j a y hj hI=>by
      obtain ⟨y1,y2,y3⟩:=hI
      obtain ⟨es,reg'⟩:=y
      dsimp only at y1 y2 y3
      rw [List.getElem?_map] at hj
      obtain ⟨k,hk,rfl⟩:=Option.map_eq_some_iff.1 hj
      obtain ⟨hka,hkl⟩:=Gy (List.mem_of_getElem? hk)
      have hjl:=AC hk
      have hal:=Jq t s t.ops.length
      have hops:=hs.ops
      obtain ⟨A,hA⟩:=Em t s ((appN t s t.ops.length).take j) L
      have hB:BL t (foldP t s L ((appN t s t.ops.length).take j)):=hb.fold hmem fun q hq=>(Gy (List.mem_of_mem_take hq)).1
      have hf:=hB.few hs
      obtain ⟨o,ho,hpre,hsu⟩:=FX hka
      have hsk:StateOk t.vars (sucN t s k):=by rw [hsu];exact LZ hs.ok hsok ho
      have hek:(edgK t (foldP t s L ((appN t s t.ops.length).take j)) s i ((appN t s t.ops.length).take j)).length≤j:=by unfold edgK;rw [List.length_map,List.length_take];omega
      have htk:(appN t s t.ops.length).take (j + 1)=(appN t s t.ops.length).take j ++ [k]:=by rw [List.take_add_one,hk];rfl
      have hlen:es.length≤60000:=by rw [y1,List.length_append];omega
      unfold exIn
      dsimp only
      rcases Kv hs.ok.1 y2 hsk (by omega) with ⟨q,hq,hadd⟩|⟨hno,r',hadd,hr',hlk⟩
      · have hq2:=List.mem_of_getElem? hq
        rw [hadd,Ar,show Eb (⟨0⟩:Err) (⟨10⟩:Err)=some false from rfl,Ar]
        dsimp only
        rw [Dq,Dq,Ar,Dq,if_neg (by simp),Cy (by rw [List.length_singleton];omega) (by rw [List.length_singleton];omega),Ar]
        have hput:foldP t s L ((appN t s t.ops.length).take (j + 1))=foldP t s L ((appN t s t.ops.length).take j):=by
          rw [htk,JK];unfold putL;rw [if_pos hq2]
        refine .inl ⟨_,rfl,?_,?_,?_⟩
        · dsimp only
          rw [hput,htk,y1,List.append_assoc,Kx,Qv hB.nodup hq]
        · rw [hput];exact y2
        · rw [hput];exact y3
      · have hnm:¬ sucN t s k∈foldP t s L ((appN t s t.ops.length).take j):=fun hm=>by
          obtain ⟨q,hq⟩:=List.getElem?_of_mem hm
          exact hno q hq
        have hput:foldP t s L ((appN t s t.ops.length).take (j + 1))=foldP t s L ((appN t s t.ops.length).take j) ++ [sucN t s k]:=by
          rw [htk,JK];unfold putL;rw [if_neg hnm]
        rw [hadd,Ar,show Eb (⟨0⟩:Err) (⟨10⟩:Err)=some false from rfl,Ar]
        dsimp only
        rw [Dq,Ej]
        by_cases hfull:max 0 (min x1 65536)≤((foldP t s L ((appN t s t.ops.length).take j)).length:Int)
        · rw [if_pos hfull,Ar,Ej]
          refine .inr ⟨_,rfl,rfl,?_⟩
          have he:expL t s L t.ops.length=foldP t s (foldP t s L ((appN t s t.ops.length).take (j + 1))) ((appN t s t.ops.length).drop (j + 1)):=by
            rw [← Nx,List.take_append_drop];rfl
          obtain ⟨B,hB2⟩:=Em t s ((appN t s t.ops.length).drop (j + 1)) (foldP t s L ((appN t s t.ops.length).take (j + 1)))
          rw [he,hB2,hput]
          unfold limE at *
          simp only [List.length_append,List.length_singleton]
          omega
        · rw [if_neg hfull,Ar,Dq,if_neg (by simp),Cy (by rw [List.length_singleton];omega) (by rw [List.length_singleton];omega),Ar]
          refine .inl ⟨_,rfl,?_,?_,?_⟩
          · dsimp only
            rw [hput,htk,y1,List.append_assoc,Kx,Ot hnm,Ls fun q hq=>Iv t s _ L q hq]
          · rw [hput];exact hr'
          · rw [hput];unfold limE at *;simp only [List.length_append,List.length_singleton];omega) with ⟨st,h1,h2,h3,h4⟩|⟨r,h1,h2,h3⟩
  · rw [List.length_map,List.take_length] at h2 h3 h4
    refine .inl ⟨st,h1,?_,h3,h4⟩
    obtain ⟨A,hA⟩:=Em t s (appN t s t.ops.length) L
    have e:expL t s L t.ops.length=L ++ A:=hA
    rw [h2,Iw (s:=s) (by rw [e,List.getElem?_append_left hil];exact hi),e,Ov (by omega) hcl,← hA]
  · rw [h2] at h1
    exact .inr ⟨h1,h3⟩
theorem Oy {α β:Type} (f:α→β) (L:List α) {i:Nat} {s:α} (h:L[i]?=some s):(L.take (i + 1)).map f=(L.take i).map f ++ [f s]:=by rw [List.take_add_one,h,List.map_append];rfl
theorem Rf {t:Tsk} (hs:Mid t) {x1:Int} {i:Nat} {L:List (List Int)} {r:Option (List (List Int))} (h:Bx t (limE x1) i L r):BL t L→CloL t i L→i≤L.length→(L.length:Int)≤limE x1→∀ reg,RegI t.vars reg L→∃ x,bnd (lop (exF t x1 (some ⟨t⟩)) ((i:Int),edgL t L i,(L.take i).map (holdsB t.goal),reg)) (exE t)=some x∧outX t r x:=by
  induction h with
  | @full i L h1=>intro _ _ _ h2;omega
  | @done i L h1 h2 =>
    intro hb hc hil _ reg hr
    have hf:=hb.few hs
    obtain rfl:i=L.length:=by omega
    have hE:EndL t (limE x1) L:=⟨hb,hc,h1⟩
    have hlen:Be reg=some (L.length:Int):=by rw [← hr.len];rfl
    rw [Eh]
    unfold exF
    dsimp only
    rw [hlen,Ar,if_neg (by omega)]
    dsimp only
    rw [Ar]
    unfold exE
    rw [CP,List.take_length]
    have hl0:=AC hb.root
    obtain ⟨x,m1,m2,m3⟩:=MJ hs.ok hf hl0 (x:=⟨⟨t.vars,t.init,t.goal,t.ops⟩,reg,edgL t L L.length,L.map (holdsB t.goal),[],[],[]⟩) rfl hr.len (hE.edges hs) (by simp)
    rw [m1,Ar]
    exact ⟨_,rfl,x,rfl,by rw [m2];exact hr,m3⟩
  | @step i L s r h1 h2 hx ih =>
    intro hb hc hil hlim reg hr
    have hf:=hb.few hs
    have hlt:=AC h2
    have hmem:=List.mem_of_getElem? h2
    have hsok:=hb.ok hs.ok hmem
    have hlen:Be reg=some (L.length:Int):=by rw [← hr.len];rfl
    have hg:(bnd (Dg t.goal s) fun q163=>if q163=true then bnd (appI 1 ((L.take i).map (holdsB t.goal)) [true]) fun u195=>some u195 else bnd (appI 1 ((L.take i).map (holdsB t.goal)) [false]) fun u176=>some u176)=some ((L.take (i + 1)).map (holdsB t.goal)):=by
      rw [show Dg t.goal s=some (holdsB t.goal s) from rfl,Ar,Oy _ L h2]
      cases holdsB t.goal s with
      | true=>rw [Ej,Cy (by rw [List.length_map,List.length_take,List.length_singleton];omega) (by rw [List.length_map,List.length_take,List.length_singleton];omega),Ar]
      | false=>rw [Dq,Cy (by rw [List.length_map,List.length_take,List.length_singleton];omega) (by rw [List.length_map,List.length_take,List.length_singleton];omega),Ar]
    rw [Eh]
    unfold exF
    dsimp only
    rw [hlen,Ar,if_pos (by omega),LL hs.ok.1 hr h2,Ar,if_neg (by simp)]
    dsimp only
    rw [hg,Ar,Pj hs.ok (by rw [hsok.1];have:=hs.ok.1;omega),Ar]
    rcases Qy hs hb hc hlim h2 hr with ⟨st,e1,e2,e3,e4⟩|⟨e1,e2⟩
    · rw [e1,Ar,CP,Cq (by unfold inI64;omega),Ar]
      dsimp only
      obtain ⟨A,hA⟩:=Em t s (appN t s t.ops.length) L
      have e:expL t s L t.ops.length=L ++ A:=hA
      have hb2:=hb.exp hmem t.ops.length
      have hc2:=hc.exp h2
      have:=ih hb2 hc2 (by rw [e,List.length_append];omega) e4 st.2 e3
      rw [e2]
      rw [e,List.take_append_of_le_length (by omega)] at this
      rw [e]
      exact this
    · rw [e1,Ar,QS]
      dsimp only
      rw [Ar]
      cases hx with
      | full _=>exact ⟨_,rfl,rfl⟩
      | done h3 _=>omega
      | step h3 _ _=>omega
theorem MM {t:Tsk} (hs:Mid t) (lim:Int) {r:Option (List (List Int))} (h:Bx t (limE lim) 0 [t.init] r):∃ x,Cj t lim=some x∧outX t r x:=by
  have hok:=hs.ok
  obtain ⟨q,hq,reg,rfl,hr,hlk⟩:=Ns hok.1 hok.2.2.1
  rw [Qx,Nf hok,Ar,if_neg (by simp),hq,Ar,if_neg (by simp)]
  dsimp only
  by_cases hl:limE lim < 1
  · unfold limE at hl
    rw [if_pos hl]
    cases h with
    | full _=>exact ⟨_,rfl,rfl⟩
    | done h3 _=>unfold limE at h3;simp at h3;omega
    | step h3 _ _=>unfold limE at h3;simp at h3;omega
  · have hl':=hl
    unfold limE at hl
    rw [if_neg hl,Ar]
    rcases Kv hok.1 hr hok.2.2.2.1 (by simp) with ⟨i,hi,_⟩|⟨_,r',hadd,hr',_⟩
    · simp at hi
    · rw [hadd,Ar,if_neg (by simp),Nw hok,Ar]
      exact Rf hs h (Hd t) (fun j s k hj=>by omega) (by simp) (by simp;omega) r' hr'
theorem LO {t:Tsk} (hs:SmallOk t) {lim:Int} (hl:512≤limE lim):∃ L x,Cj t lim=some (some x,⟨0⟩)∧SpX t L x∧EndL t (limE lim) L∧DB t lim=some (L,true):=by
  obtain ⟨r,y,h1,h2,h3⟩:=Lv hs.mid lim
  obtain ⟨x,e1,e2⟩:=MM hs.mid lim h1
  have key:∀ {i:Nat} {L:List (List Int)} {r:Option (List (List Int))},Bx t (limE lim) i L r→BL t L→r≠none:=fun h=>by
    induction h with
    | @full i L h=>intro hb;have:=hb.many hs.ok;have:=hs.many;omega
    | done _ _=>intro _ h;cases h
    | @step i L s r _ h2 _ ih=>intro hb;exact ih (hb.exp (List.mem_of_getElem? h2) _)
  cases r with
  | none=>exact (key h1 (Hd t) rfl).elim
  | some L =>
    obtain ⟨s,rfl,hs2⟩:=e2
    refine ⟨L,s,e1,hs2,h1.ends (Hd t) (fun j s k hj=>by omega) L rfl,?_⟩
    rw [h2]
    exact congrArg some h3
end
section
set_option linter.unusedVariables false
set_option linter.unusedSimpArgs false
open Go Go.RowKit
theorem Qz {a b:List Int} (hl:a.length=b.length) (h:∀ i,i < a.length→gI a i=gI b i):a=b:=by
  apply List.ext_getElem?
  intro i
  by_cases hi:i < a.length
  · rw [JJ hi,JJ (by omega),h i hi]
  · rw [List.getElem?_eq_none (by omega),List.getElem?_eq_none (by omega)]
theorem QA {a:List Int} {i:Nat} (h:¬ i < a.length):gI a i=Inf:=by unfold gI;rw [List.getElem?_eq_none (by omega)];rfl
-- costs
abbrev LLB:=List Int×List Int×Bool
noncomputable def rdG (x0:Tsk):Edj→LLB→Option (Ctl LLB (Ctl LLB (List Int×List Int))):=fun a182 s179=>bnd (atI s179.1 a182.dst) fun a217=>if a217=1125899906842624 then (some (.next (s179.1,s179.2.1,s179.2.2))) else (bnd (atI s179.1 a182.dst) fun a230=>bnd (atI x0.ops a182.label) fun a242=>bnd (chkI (a230 + a242.cost)) fun n263=>bnd (atI s179.2.1 a182.dst) fun a266=>bnd (chkI (a266 + 1)) fun n278=>bnd (bnd (atI s179.1 a182.src) fun a285=>if n263 < a285 then (some true) else (bnd (atI s179.1 a182.src) fun a298=>if n263=a298 then (bnd (atI s179.2.1 a182.src) fun a311=>if n278 < a311 then (some true) else (some false)) else (some false)):Option Bool) fun y281=>if y281=true then (bnd (atI s179.1 a182.src) fun a329=>bnd (atI s179.2.1 a182.src) fun a343=>some (.next ((s179.1.set (a182.src:Int).toNat n263),(s179.2.1.set (a182.src:Int).toNat n278),true))) else (some (.next (s179.1,s179.2.1,s179.2.2))))
noncomputable def rdF (x0:Tsk) (x2:List Edj):LLB→Option (Ctl LLB (List Int×List Int)):=fun s153=>if s153.2.2=true then (bnd (rng (ρ:=Ctl LLB ((List Int)×(List Int))) (fun (_:Nat) (a182:Edj) (s179:LLB)=>rdG x0 a182 s179) x2 0 (s153.1,s153.2.1,false)) fun res177=>fin res177 fun (s361:LLB)=>some (.next (s361.1,s361.2.1,s361.2.2))) else (some (.brk (s153.1,s153.2.1,s153.2.2)))
theorem QB (x0:Tsk) (x1:List (List Int)) (x2:List Edj):CL x0 x1 x2=bnd (mkI 8 (0:Int) (x1.length:Int)) fun u30=>bnd (mkI 8 (0:Int) (x1.length:Int)) fun u32=>bnd (some (u30,u32):Option ((List Int)×(List Int))) fun y34=>bnd (rng (ρ:=(List Int)×(List Int)) (fun (k100:Nat) (a101:List Int) (s98:(List Int))=>bnd (CS x0.goal a101) fun q126=>if q126=true then some (.next s98) else bnd (s98[k100]?) fun a133=>some (.next (s98.set k100 1125899906842624))) x1 0 y34.1) fun res96=>fin res96 fun (s149:(List Int))=>bnd (lop (rdF x0 x2) (s149,y34.2,true)) fun res151=>fin res151 fun (s367:LLB)=>some (s367.1,s367.2.1):=rfl
theorem Lw {t:Tsk} (hok:TaskOk t) {n:Nat} {es:List Edj} (he:EdgesOk t n es):ArcsOk n (bwdA t es):=by
  refine ⟨fun i p hp=>?_,fun i p hp=>?_⟩
  · obtain ⟨j,w⟩:=p
    obtain ⟨e,e1,e2,e3,e4⟩:=Gx.1 hp
    have:=he.ok e e1
    dsimp only;omega
  · obtain ⟨j,w⟩:=p
    obtain ⟨e,e1,e2,e3,e4⟩:=Gx.1 hp
    obtain ⟨_,_,_,c1,c2⟩:=Fi hok he e1
    dsimp only;omega
section
variable {t : Tsk} {n : Nat} {es : List Edj} {S : Nat → Prop}
def Seen (t:Tsk) (es:List Edj) (i:Nat) (p:Nat×Int):Prop:=∃ e∈es,e.dst=(i:Int)∧e.src.toNat=p.1∧costE t e=p.2
theorem Pv      (hok:TaskOk t) (he:EdgesOk t n es) {B:Int} (hB:B + es.length≤40000000) {x y:List Int} (hx:x.length=n) (hy:y.length=n) (h:BfI S (bwdA t es) (gI x) (gI y) B) :
    ∃ x' y' b,rng (ρ:=Ctl LLB ((List Int)×(List Int))) (fun (_:Nat) (a182:Edj) (s179:LLB)=>rdG t a182 s179) es 0 (x,y,false)=some (.done (x',y',b))∧x'.length=n∧y'.length=n∧PasI S (bwdA t es) (fun _ _=>True) (gI x) (gI y) (gI x') (gI y') b (B + es.length):=by
  have hA:=Lw hok he
  have hIe:Inf=1125899906842624:=rfl
  obtain ⟨⟨x',y',b⟩,g1,g2,g3,g4⟩:=FK (ρ:=Ctl LLB ((List Int)×(List Int))) (f:=fun (_:Nat) (a182:Edj) (s179:LLB)=>rdG t a182 s179) (xs:=es) (s₀:=(x,y,false))
    (fun m s => s.1.length=n∧s.2.1.length=n∧PasI S (bwdA t es) (Seen t (es.take m)) (gI x) (gI y) (gI s.1) (gI s.2.1) s.2.2 (B + (m:Nat))) ⟨hx,hy,by
      have:=Nn h
      refine { this.mono (B':=B + (0:Nat)) (by omega) with don:=fun j p _ hq=>?_ }
      obtain ⟨e,e1,_⟩:=hq
      simp at e1⟩ (fun m e s hm hI=>by
      obtain ⟨u,v,b⟩:=s
      obtain ⟨h1,h2,hP⟩:=hI
      dsimp only at h1 h2 hP
      have hml:=AC hm
      have hmem:=List.mem_of_getElem? hm
      obtain ⟨s1,s2,d1,d2,_,_⟩:=he.ok e hmem
      obtain ⟨o,o1,o2,c1,c2⟩:=Fi hok he hmem
      obtain ⟨i,hi⟩:∃ i:Nat,e.src=(i:Int):=⟨e.src.toNat,by omega⟩
      obtain ⟨j,hj⟩:∃ j:Nat,e.dst=(j:Int):=⟨e.dst.toNat,by omega⟩
      have hpA:(i,costE t e)∈bwdA t es j:=Gx.2 ⟨e,hmem,hj,by omega,rfl⟩
      have hQ:∀ a q,Seen t (es.take (m + 1)) a q→Seen t (es.take m) a q∨(a=j∧q=(i,costE t e)):=fun a q hq=>by
        obtain ⟨e',f1,f2,f3,f4⟩:=hq
        rcases (Gv hm).1 f1 with f1|rfl
        · exact .inl ⟨e',f1,f2,f3,f4⟩
        · obtain ⟨q1,q2⟩:=q
          dsimp only at f3 f4
          refine .inr ⟨by omega,?_⟩
          rw [← f3,f4,hi];rfl
      have hB1:B + (m:Nat)≤B + ((m + 1:Nat):Int):=by omega
      unfold rdG
      dsimp only
      rw [hj,Do (by omega),Ar]
      by_cases hinf:gI u j=Inf
      · rw [if_pos (show gI u j=1125899906842624 from hinf)]
        exact ⟨_,rfl,h1,h2,(hP.skip hQ hinf).mono hB1⟩
      · rw [if_neg (show ¬ gI u j=1125899906842624 from fun hh=>hinf hh)]
        have hr:=hP.bf.real j hinf
        have hps:=hr.pos hA
        have hbd:=hP.bf.bd j hinf
        have hmul:gI v j * 1048576≤40000000 * 1048576:=Int.mul_le_mul_of_nonneg_right (by omega) (by omega)
        have hX:gI u j + costE t e≠Inf:=by omega
        rw [Ar,o1,Ar,← o2,Cq (by unfold inI64;omega),Ar,Do (by omega),Ar,Cq (by unfold inI64;omega),Ar,hi,Do (by omega),Ar,Ar,Do (by omega),Ar]
        by_cases hlt:gI u i≠Inf∧lle (gI u i) (gI v i) (gI u j + costE t e) (gI v j + 1)
        · have hl2:=hlt.2
          have e3:(if gI u j + costE t e < gI u i then some true else if gI u j + costE t e=gI u i then if gI v j + 1 < gI v i then some true else some false else some false)=some false:=by
            unfold lle at hl2
            rw [if_neg (by omega)]
            by_cases e1:gI u j + costE t e=gI u i
            · rw [if_pos e1,if_neg (by omega)]
            · rw [if_neg e1]
          rw [e3,Ar,Dq]
          exact ⟨_,rfl,h1,h2,(hP.keep hQ hlt.1 hl2).mono hB1⟩
        · have hl3:gI u i=Inf∨¬ lle (gI u i) (gI v i) (gI u j + costE t e) (gI v j + 1):=by
            by_cases e1:gI u i=Inf
            · exact .inl e1
            · exact .inr fun hh=>hlt ⟨e1,hh⟩
          have e3:(if gI u j + costE t e < gI u i then some true else if gI u j + costE t e=gI u i then if gI v j + 1 < gI v i then some true else some false else some false)=some true:=by
            by_cases e1:gI u j + costE t e < gI u i
            · rw [if_pos e1]
            · rcases hl3 with hl3|hl3
              · omega
              · unfold lle at hl3
                rw [if_neg e1,if_pos (by omega),if_pos (by omega)]
          rw [e3,Ar,Ej,Ar,Int.toNat_natCast]
          have hbt:=hP.better hA (m:=i) (w:=costE t e) hQ hpA hinf hX hl3
          rw [← Ek (by omega),← Ek (by omega)] at hbt
          refine ⟨_,rfl,by simp [h1],by simp [h2],hbt.mono (by omega)⟩)
  rw [List.take_length] at g4
  refine ⟨x',y',b,g1,g2,g3,{ g4 with don:=fun j p hp _=>g4.don j p hp ?_ }⟩
  obtain ⟨a,w⟩:=p
  obtain ⟨e,e1,e2,e3,e4⟩:=Gx.1 hp
  exact ⟨e,e1,e2,e3,e4⟩
theorem Pw (d k x y:Nat→Int) (n:Nat):nOpt d k x y n≤n:=by
  have:=Jp (g:=fun i=>if d i≠Inf∧¬ (x i=d i∧y i=k i) then 1 else 0) (m:=1) (n:=n) fun j _=>by split<;>omega
  unfold nOpt;omega
theorem Mg (hok:TaskOk t) (he:EdgesOk t n es) (hn:n≤600) {D K:Nat→Int} (hL:LexP n (bwdA t es) S D K) (hDn:∀ i,D i≠Inf→i < n):∀ (N:Nat) (x y:List Int),x.length=n→y.length=n→BfI S (bwdA t es) (gI x) (gI y) ((700 - nOpt D K (gI x) (gI y) n:Nat) * 48000:Nat)→nOpt D K (gI x) (gI y) n < N →
    ∃ x' y',lop (rdF t es) (x,y,true)=some (.done (x',y',false))∧x'.length=n∧y'.length=n∧LexP n (bwdA t es) S (gI x') (gI y')
  | 0,_,_,_,_,_,h=>absurd h (by omega)
  | N + 1,x,y,hx,hy,hbf,hN=>by
    have hA:=Lw hok he
    have hno:=Pw D K (gI x) (gI y) n
    have hfew:=he.few
    rw [Eh]
    unfold rdF
    dsimp only
    rw [if_pos rfl]
    obtain ⟨x',y',b,p1,p2,p3,p4⟩:=Pv hok he (B:=((700 - nOpt D K (gI x) (gI y) n:Nat) * 48000:Nat)) (by
      have:(700 - nOpt D K (gI x) (gI y) n) * 48000≤700 * 48000:=Nat.mul_le_mul_right _ (by omega)
      omega) hx hy hbf
    rw [p1,Ar,CP]
    dsimp only
    have hless:=p4.less hbf hL hDn hA
    cases b with
    | false =>
      have hd:=p4.done (n:=n)
      have hff:=p4.ff rfl
      rw [Eh]
      dsimp only
      rw [if_neg (by simp)]
      have e1:gI x'=gI x:=funext fun i=>(hff i).1
      have e2:gI y'=gI y:=funext fun i=>(hff i).2
      refine ⟨_,_,rfl,p2,p3,?_⟩
      rw [e1,e2];exact hd
    | true =>
      rw [if_pos rfl] at hless
      refine Mg hok he hn hL hDn N x' y' p2 p3 (p4.bf.mono ?_) (by omega)
      have:(700 - nOpt D K (gI x) (gI y) n) * 48000 + 48000≤(700 - nOpt D K (gI x') (gI y') n) * 48000:=by
        have h1:700 - nOpt D K (gI x) (gI y) n + 1≤700 - nOpt D K (gI x') (gI y') n:=by omega
        have:=Nat.mul_le_mul_right 48000 h1
        omega
      omega
end
theorem Oz {t:Tsk} {L:List (List Int)} (hl:L.length≤1000):∃ d,rng (ρ:=(List Int)×(List Int)) (fun (k100:Nat) (a101:List Int) (s98:(List Int))=>bnd (CS t.goal a101) fun q126=>if q126=true then some (.next s98) else bnd (s98[k100]?) fun a133=>some (.next (s98.set k100 1125899906842624))) L 0 (List.replicate L.length 0)=some (.done d)∧d.length=L.length∧∀ i,gI d i=if (goalsL t L)[i]?=some true then 0 else Inf:=by
  obtain ⟨d,h1,h2,h3,h4⟩:=FK (ρ:=(List Int)×(List Int)) (f:=fun (k100:Nat) (a101:List Int) (s98:(List Int))=>bnd (CS t.goal a101) fun q126=>if q126=true then some (.next s98) else bnd (s98[k100]?) fun a133=>some (.next (s98.set k100 1125899906842624))) (xs:=L) (s₀:=List.replicate L.length 0)
    (fun m d=>d.length=L.length∧(∀ i,i < m→gI d i=if (goalsL t L)[i]?=some true then 0 else Inf)∧∀ i,m≤i→i < L.length→gI d i=0) ⟨by simp,fun i hi=>by omega,fun i _ hi=>by unfold gI;rw [List.getElem?_replicate,if_pos hi];rfl⟩ (fun m s d hm hI=>by
      obtain ⟨i1,i2,i3⟩:=hI
      have hml:=AC hm
      have hg:(goalsL t L)[m]?=some (holdsB t.goal s):=by unfold goalsL;rw [List.getElem?_map,hm];rfl
      rw [show CS t.goal s=some (holdsB t.goal s) from rfl,Ar]
      cases hh:holdsB t.goal s with
      | true =>
        rw [if_pos rfl]
        refine ⟨_,rfl,i1,fun i hi=>?_,fun i hi hil=>i3 i (by omega) hil⟩
        by_cases e:i=m
        · subst e;rw [hg,hh,if_pos rfl];exact i3 i (Nat.le_refl _) hml
        · exact i2 i (by omega)
      | false =>
        rw [if_neg (by simp),JJ (by omega),Ar]
        refine ⟨_,rfl,by simp [i1],fun i hi=>?_,fun i hi hil=>?_⟩
        · rw [Ek (by omega)]
          by_cases e:i=m
          · subst e;rw [AS,hg,hh,if_neg (by simp)];rfl
          · rw [AT e];exact i2 i (by omega)
        · rw [Ek (by omega),AT (by omega)];exact i3 i (by omega) hil)
  refine ⟨d,h1,h2,fun i=>?_⟩
  by_cases hi:i < L.length
  · exact h3 i hi
  · rw [QA (by omega),if_neg]
    unfold goalsL
    rw [List.getElem?_eq_none (by simp;omega)];simp
theorem MN {t:Tsk} (hs:Mid t) {lim:Int} {L:List (List Int)} (h:EndL t lim L) {x:Spa} (hx:SpX t L x):∃ st,CL t L (edgL t L L.length)=some (x.distances,st)∧st.length=L.length∧∀ i,gI x.distances i≠Inf→gI st i=gI x.steps i:=by
  have hf:=h.bl.few hs
  have he:=h.edges hs
  obtain ⟨d,f1,f2,f3⟩:=Oz (t:=t) (L:=L) (by omega)
  have hL:=hx.sp.dist
  have hDn:∀ i,gI x.distances i≠Inf→i < L.length:=fun i hi=>(hx.sp.bnd i hi).1
  have hrep:∀ i,gI (List.replicate L.length 0) i=if i < L.length then 0 else Inf:=fun i=>by
    unfold gI;rw [List.getElem?_replicate];split<;>rfl
  have hI:Inf=1125899906842624:=rfl
  have hgl:∀ i,(goalsL t L)[i]?=some true→i < L.length:=fun i hi=>by have:=AC hi;unfold goalsL at this;simpa using this
  have hbf:BfI (fun i=>(goalsL t L)[i]?=some true) (bwdA t (edgL t L L.length)) (gI d) (gI (List.replicate L.length 0)) 0:=by
    refine ⟨fun i hi=>?_,fun i hi=>?_,fun i hi=>?_⟩
    · rw [f3,if_pos hi,hrep,if_pos (hgl i hi)];exact ⟨rfl,rfl⟩
    · rw [f3] at hi ⊢
      by_cases e:(goalsL t L)[i]?=some true
      · rw [if_pos e,hrep,if_pos (hgl i e)];exact .src e
      · rw [if_neg e] at hi;exact (hi rfl).elim
    · rw [f3] at hi
      by_cases e:(goalsL t L)[i]?=some true
      · rw [hrep,if_pos (hgl i e)];omega
      · rw [if_neg e] at hi;exact (hi rfl).elim
  obtain ⟨x',y',g1,g2,g3,g4⟩:=Mg hs.ok he hf hL hDn _ d (List.replicate L.length 0) f2 (by simp) (hbf.mono (by omega)) (Nat.lt_succ_self _)
  rw [QB,Id (by omega) (by omega),Ar,Ar,Ar]
  dsimp only
  rw [f1,Ar,CP,g1,Ar,CP]
  have hsame:=LexP.same g4 hL
  have e:x'=x.distances:=Qz (g2.trans hx.sp.dl.symm) fun i _=>(hsame i).1
  refine ⟨y',?_,g3,fun i hi=>(hsame i).2 (by rw [(hsame i).1];exact hi)⟩
  dsimp only
  rw [e]
end
section
set_option linter.unusedVariables false
set_option linter.unusedSimpArgs false
open Go Go.RowKit
attribute [local irreducible] ewp owp hwp hwq hws Ev Evg Fn retPost loud loudS Res1
attribute [local irreducible] hwx loudX
noncomputable def DU (x0:Int):Option Bool :=
  bnd (if x0≠x0 then (some true) else (some false):Option Bool) fun y2=>some y2
theorem GO {w:World} {A:Nat→Prop} (hA:∀ k,A k→k < w.heap.size) {x0:Int} (rx0:inI64 x0) {r:Bool} (hm:DU x0=some r) :
    Fn Tryz.prog 103 [(.int .i64 x0)] w fun v w'=>Ext w w'∧Vb w' (upA A w w') v r:=by
 obtain ⟨O,hB,c0⟩:=enter hA
 refine AI Tryz.func103 rfl Tryz.ntmps103 rfl ?_
 unfold DU at hm
 refine Al (Aj (At rfl rfl (o_z ?_)))
 refine Al ?_
 obtain ⟨y2,a0,hm⟩:=bs hm
 refine AM (fun l' w'=>∃ (x5:Unit) (O':Lab),subs l' [(2,(.bool y2))]∧Bs w A w' O') ?_ ?_
 ·
  refine Aj (Am rfl rfl (Am rfl rfl (FO rfl rfl rfl (fun c6=>?_) fun c6=>?_)))
  ·
   replace a0:=ip a0 c6
   refine At rfl rfl (o_z ?_)
   obtain rfl:=sm a0
   exact ⟨(),_,⟨rfl,trivial⟩,hB⟩
  replace a0:=im a0 c6
  refine At rfl rfl (o_z ?_)
  obtain rfl:=sm a0
  exact ⟨(),_,⟨rfl,trivial⟩,hB⟩
 rintro l7 w8 ⟨x5,O9,b0,hB⟩
 refine AO _ b0 ?_
 refine AL ?_
 obtain rfl:=sm hm
 exact ret1v rfl (AA rfl) ⟨hB.ext,vBool⟩
noncomputable def Du (x0:Int) (x1:Int):Option Int :=
  bnd (bnd (DU x0) fun q7=>if q7=true then some true else some false:Option Bool) fun y3=>bnd (bnd (DU x1) fun q22=>if q22=true then some true else some false:Option Bool) fun y18=>if y3=true then (if y18=true then (some 0) else (some (-1))) else (if y18=true then (some 1) else (if x0 < x1 then (some (-1)) else (if x1 < x0 then (some 1) else (some 0))))
theorem IR {w:World} {A:Nat→Prop} (hA:∀ k,A k→k < w.heap.size) {x0:Int} (rx0:inI64 x0) {x1:Int} (rx1:inI64 x1) {r:Int} (hm:Du x0 x1=some r) :
    Fn Tryz.prog 73 [(.int .i64 x0),(.int .i64 x1)] w fun v w'=>Ext w w'∧Vb w' (upA A w w') v r:=by
 obtain ⟨O,hB,t0⟩:=enter hA
 refine AI Tryz.func73 rfl Tryz.ntmps73 rfl ?_
 unfold Du at hm
 refine Al (Aj (At rfl rfl (o_z ?_)))
 refine Al ?_
 obtain ⟨y3,b0,hm⟩:=bs hm
 refine AM (fun l' w'=>∃ (x6:Unit) (O':Lab),subs l' [(0,(.int .i64 x0)),(1,(.int .i64 x1)),(5,(.bool y3))]∧Bs w A w' O') ?_ ?_
 ·
  refine Aj (Am rfl rfl ?_)
  obtain ⟨q7,e8,b0⟩:=bs b0
  refine BU (O:=O) (A:=All w) (R:=fun w' F v=>Vb w' F v q7) (GO (fun _ h=>h) rx0 e8) rfl rfl fun u0 w9 v0 j0 m0=>?_
  obtain rfl:=m0.bool
  cases q7
  case false =>
   replace b0:=iF b0
   refine At rfl rfl (o_z ?_)
   obtain rfl:=sm b0
   exact ⟨(),_,⟨rfl,rfl,rfl,trivial⟩,hB.st j0⟩
  replace b0:=iT b0
  refine At rfl rfl (o_z ?_)
  obtain rfl:=sm b0
  exact ⟨(),_,⟨rfl,rfl,rfl,trivial⟩,hB.st j0⟩
 rintro w0 n0 ⟨x6,o0,c0,hB⟩
 refine AO _ c0 ?_
 refine Al ?_
 obtain ⟨p0,a0,hm⟩:=bs hm
 refine AM (fun l' w'=>∃ (q0:Unit) (O':Lab),subs l' [(0,(.int .i64 x0)),(1,(.int .i64 x1)),(5,(.bool y3)),(6,(.bool p0))]∧Bs w A w' O') ?_ ?_
 ·
  refine Aj (Am rfl rfl ?_)
  obtain ⟨k0,r0,a0⟩:=bs a0
  refine BU (O:=o0) (A:=All n0) (R:=fun w' F v=>Vb w' F v k0) (GO (fun _ h=>h) rx1 r0) rfl rfl fun y0 z0 a1 l0 s0=>?_
  obtain rfl:=s0.bool
  cases k0
  case false =>
   replace a0:=iF a0
   refine At rfl rfl (o_z ?_)
   obtain rfl:=sm a0
   exact ⟨(),_,⟨rfl,rfl,rfl,rfl,trivial⟩,hB.st l0⟩
  replace a0:=iT a0
  refine At rfl rfl (o_z ?_)
  obtain rfl:=sm a0
  exact ⟨(),_,⟨rfl,rfl,rfl,rfl,trivial⟩,hB.st l0⟩
 rintro b1 c1 ⟨q0,d1,d0,hB⟩
 refine AO _ d0 ?_
 refine Al (Al (Aj (Am rfl rfl (o_z ?_))))
 refine Cs rfl (fun e0=>?_) (fun e0=>?_)
 ·
  replace hm:=ip hm e0
  refine Al (Al (Aj (Am rfl rfl (o_z ?_))))
  refine Cs rfl (fun f0=>?_) (fun f0=>?_)
  ·
   replace hm:=ip hm f0
   refine Al (Aj (At rfl rfl (o_z ?_)))
   refine AL ?_
   obtain rfl:=sm hm
   exact ret1v rfl (AA rfl) ⟨hB.ext,(vInt (show inI64 (0) from by decide))⟩
  replace hm:=im' hm f0
  refine AK (Al (Aj (At rfl rfl (o_z ?_))))
  refine AL ?_
  obtain rfl:=sm hm
  exact ret1v rfl (AA rfl) ⟨hB.ext,(vInt (show inI64 (-1) from by decide))⟩
 replace hm:=im' hm e0
 refine AK (Al (Al (Aj (Am rfl rfl (o_z ?_)))))
 refine Cs rfl (fun g0=>?_) (fun g0=>?_)
 ·
  replace hm:=ip hm g0
  refine Al (Aj (At rfl rfl (o_z ?_)))
  refine AL ?_
  obtain rfl:=sm hm
  exact ret1v rfl (AA rfl) ⟨hB.ext,(vInt (show inI64 (1) from by decide))⟩
 replace hm:=im' hm g0
 refine AK (Al (Al (Aj (Am rfl rfl (Am rfl rfl (CU rfl rfl rfl (fun h0=>?_) fun h0=>?_))))))
 ·
  replace hm:=ip hm h0
  refine o_z ?_
  refine Ah rfl (Al (Aj (At rfl rfl (o_z ?_))))
  refine AL ?_
  obtain rfl:=sm hm
  exact ret1v rfl (AA rfl) ⟨hB.ext,(vInt (show inI64 (-1) from by decide))⟩
 replace hm:=im hm h0
 refine o_z ?_
 refine Ae rfl (AK (Al (Al (Aj (Am rfl rfl (Am rfl rfl (CN rfl rfl rfl (fun i0=>?_) fun i0=>?_)))))))
 ·
  replace hm:=ip hm i0
  refine o_z ?_
  refine Ah rfl (Al (Aj (At rfl rfl (o_z ?_))))
  refine AL ?_
  obtain rfl:=sm hm
  exact ret1v rfl (AA rfl) ⟨hB.ext,(vInt (show inI64 (1) from by decide))⟩
 replace hm:=im hm i0
 refine o_z ?_
 refine Ae rfl (AK (Al (Aj (At rfl rfl (o_z ?_)))))
 refine AL ?_
 obtain rfl:=sm hm
 exact ret1v rfl (AA rfl) ⟨hB.ext,(vInt (show inI64 (0) from by decide))⟩
noncomputable def Cd (x0:Edj) (x1:Int):Option Int :=
  bnd (Du x0.src x1) fun q12=>some q12
theorem EW {w:World} {A:Nat→Prop} (hA:∀ k,A k→k < w.heap.size) {vx0:Value} {x0:Edj} (a0:Vb w A vx0 x0) {x1:Int} (rx1:inI64 x1) {r:Int} (hm:Cd x0 x1=some r) :
    Fn Tryz.prog 91 [vx0,(.int .i64 x1)] w fun v w'=>Ext w w'∧Vb w' (upA A w w') v r:=by
 obtain ⟨O,hB,c0⟩:=enter hA
 replace a0:=a0.mono c0
 obtain ⟨j0,rfl,rfl,r4,r5,r6⟩:=a0
 refine AI Tryz.func91 rfl Tryz.ntmps91 rfl ?_
 unfold Cd at hm
 refine Al (Aj (DR 2 O rfl rfl fun g7 w8 O9 d0 b0=>?_))
 replace b0:Lc 2 w8 O9 g7 94 [(.int .i64 x0.src),(.int .i64 x0.label),(.int .i64 x0.dst)]:=b0
 refine At rfl rfl (o_z ?_)
 refine Al (Aj (AG rfl rfl (AD (hc:=Blk.cell (i:=0) (b0.1) rfl) rfl rfl ?_)))
 refine Am rfl rfl ?_
 obtain ⟨e0,f0,hm⟩:=bs hm
 refine BU (O:=O9) (A:=All w8) (R:=fun w' F v=>Vb w' F v e0) (IR (fun _ h=>h) r4 rx1 f0) rfl rfl fun k0 l0 m0 g0 h0=>?_
 obtain ⟨rfl,i0⟩:=h0.int
 refine At rfl rfl (o_z ?_)
 refine AL ?_
 obtain rfl:=sm hm
 replace hB:=(hB.st d0).st g0
 exact ret1v rfl (AA rfl) ⟨hB.ext,(vInt i0)⟩
noncomputable def AN (x0:List Edj) (x1:Int):Option (Int×Bool) :=
  bnd (lop (ρ:=Int×Bool) (fun (s10:Int×Int)=>if s10.1 < s10.2 then (bnd (chkI (s10.1 + s10.2)) fun n28=>bnd (shrU (BitVec.ofInt 64 n28) 1) fun n31=>bnd (atI x0 n31.toInt) fun a33=>bnd (Cd a33 x1) fun q47=>if q47 < 0 then (bnd (chkI (n31.toInt + 1)) fun n56=>some (.next (n56,s10.2))) else (some (.next (s10.1,n31.toInt)))) else (some (.brk (s10.1,s10.2)))) (0,(x0.length:Int))) fun res8=>fin res8 fun (s63:Int×Int)=>bnd (if s63.1 < (x0.length:Int) then (bnd (atI x0 s63.1) fun a70=>bnd (Cd a70 x1) fun q84=>if q84=0 then (some true) else (some false)) else (some false):Option Bool) fun y65=>some (s63.1,y65)
theorem CF {w:World} {A:Nat→Prop} (hA:∀ k,A k→k < w.heap.size) {vx0:Value} {x0:List Edj} (c0:Vb w A vx0 x0) {x1:Int} (rx1:inI64 x1) {r:Int×Bool} (hm:AN x0 x1=some r) :
    Fn Tryz.prog 90 [vx0,(.int .i64 x1),(.func (.func 91) #[] #[])] w fun v w'=>Ext w w'∧T2 w' (upA A w w') v r:=by
 obtain ⟨O,hB,h1⟩:=enter hA
 replace c0:=c0.mono h1
 obtain ⟨A4,c5,rfl⟩:=c0.form
 refine AI Tryz.func90 rfl Tryz.ntmps90 rfl ?_
 unfold AN at hm
 refine Al (Aj (At rfl rfl (At rfl rfl (o_z ?_))))
 refine Al (Aj (Am rfl rfl (AQ rfl rfl ?_)))
 have l7:x0.length≤9223372036854775807:=Nat.le_trans c0.len.2.1 c0.len.2.2
 have r6:inI64 (x0.length:Int):=rngNat l7
 refine At rfl rfl (o_z ?_)
 refine Al (Aj (Am rfl rfl (At rfl rfl (At rfl rfl (o_z ?_)))))
 refine Al ?_
 obtain ⟨k0,i1,hm⟩:=bs hm
 refine AM (aft k0 (fun (d0:Int×Int) (f0:Unit)=>[(0,(.slice A4 x0.length c5)),(1,(.int .i64 x1)),(2,(.func (.func 91) #[] #[])),(8,(.int .i64 (x0.length:Int))),(9,(.int .i64 d0.1))]) (fun d0 f0 w'=>∃ O':Lab,Bs w A w' O'∧Vb w' (Fr 0 w' O') (.slice A4 x0.length c5) x0∧inI64 d0.1∧inI64 d0.2)) ?_ ?_
 ·
  refine AP (Eu (σ:=Int×Int) (X:=Unit) i1 (fun (d0:Int×Int) (f0:Unit)=>[(0,(.slice A4 x0.length c5)),(1,(.int .i64 x1)),(2,(.func (.func 91) #[] #[])),(8,(.int .i64 (x0.length:Int))),(9,(.int .i64 d0.1)),(10,(.int .i64 d0.2))]) _ (fun d0 f0 w'=>∃ O':Lab,Bs w A w' O'∧Vb w' (Fr 0 w' O') (.slice A4 x0.length c5) x0∧inI64 d0.1∧inI64 d0.2) _ () ⟨O,hB,c0,(show inI64 (0) from by decide),r6⟩ ⟨rfl,rfl,rfl,rfl,rfl,rfl,trivial⟩ ?_)
  rintro d0 f0 a1 j1 ⟨b1,hB,c0,g0,l0⟩ a0 m0 e0
  refine Al (Al (Aj (Am rfl rfl (Am rfl rfl (CU rfl rfl rfl (fun n0=>?_) fun n0=>?_)))))
  ·
   replace a0:=ip a0 n0
   refine o_z ?_
   refine Ah rfl (AK (AP (Al (Aj (Am rfl rfl (Am rfl rfl ?_))))))
   obtain ⟨k1,c1,a0⟩:=bs a0
   have m2:=(BE c1)
   refine ES (he:=c1) rfl rfl rfl ?_
   refine OO rfl rfl ?_
   obtain ⟨l1,m1,a0⟩:=bs a0
   refine MD (a:=(BitVec.ofInt 64 k1)) (he:=m1) rfl rfl rfl ?_
   refine OP (a:=l1) rfl rfl ?_
   refine At rfl rfl (o_z ?_)
   refine Al (Aj (Am rfl rfl (Am rfl rfl (Am rfl rfl ?_))))
   obtain ⟨h0,n1,a0⟩:=bs a0
   obtain ⟨o1,p1⟩:=AH n1
   obtain ⟨n2,o2,q1,o0,p0,q0,rfl,r1,s1,t1⟩:=c0.elem' p1
   refine Br (hA:=o0) (hj:=(Int.toNat_of_nonneg o1).symm) (hlt:=p0) rfl rfl rfl ?_
   refine BB (hl:=rfl) (hc:=q0) rfl rfl ?_
   refine Am rfl rfl ?_
   obtain ⟨u1,v1,a0⟩:=bs a0
   refine KU (O:=b1) (A:=All a1) (R:=fun w' F v=>Vb w' F v u1) (EW (fun _ h=>h) (Vb.mono (F:=Fr 0 a1 b1) (Vb.ofAgg (cs:=[(.int .i64 h0.src),(.int .i64 h0.label),(.int .i64 h0.dst)]) (x:=h0) rfl ⟨rfl,r1,s1,t1⟩) Fr.lt) rx1 v1) rfl rfl rfl fun p2 q2 r2 i0 w1=>?_
   obtain ⟨rfl,s2⟩:=w1.int
   refine CU rfl rfl rfl (fun r0=>?_) fun r0=>?_
   ·
    replace a0:=ip a0 r0
    refine o_z ?_
    refine Ah rfl (Aj (Am rfl rfl ?_))
    obtain ⟨t2,d1,a0⟩:=bs a0
    have y1:=(BE d1)
    refine ES (he:=d1) rfl rfl rfl ?_
    refine At rfl rfl (o_z ?_)
    obtain rfl:=sm a0
    exact show Exists _ from ⟨_,(),rfl,⟨rfl,rfl,rfl,rfl,rfl,rfl,trivial⟩,_,hB.st i0,c0.st i0,y1,l0⟩
   replace a0:=im a0 r0
   refine o_z ?_
   refine Ae rfl (Aj (Am rfl rfl (At rfl rfl (o_z ?_))))
   obtain rfl:=sm a0
   exact show Exists _ from ⟨_,(),rfl,⟨rfl,rfl,rfl,rfl,rfl,rfl,trivial⟩,_,hB.st i0,c0.st i0,g0,(toIntR _)⟩
  replace a0:=im a0 n0
  refine o_z ?_
  refine Ae rfl (Cz ?_)
  obtain rfl:=sm a0
  exact show Exists _ from ⟨_,(),e0 _ rfl,⟨rfl,rfl,rfl,rfl,rfl,trivial⟩,_,hB,c0,g0,l0⟩
 rintro u2 e1 ⟨z1,v2,rfl,s0,f1,hB,c0,g0,l0⟩
 replace hm:=Bh hm
 refine AO _ s0 ?_
 refine Al ?_
 obtain ⟨a2,b0,hm⟩:=bs hm
 refine AM (fun l' w'=>∃ (b2:Unit) (O':Lab),subs l' [(6,(.int .i64 z1.1)),(7,(.bool a2))]∧Bs w A w' O') ?_ ?_
 ·
  refine Aj (Am rfl rfl (Am rfl rfl (Am rfl rfl (CU rfl rfl rfl (fun t0=>?_) fun t0=>?_))))
  ·
   replace b0:=ip b0 t0
   refine Am rfl rfl (Aw rfl rfl (Am rfl rfl (Aw rfl rfl (Am rfl rfl (Aw rfl rfl (Am rfl rfl (Aw rfl rfl ?_)))))))
   obtain ⟨j0,c2,b0⟩:=bs b0
   obtain ⟨d2,e2⟩:=AH c2
   obtain ⟨w2,x2,f2,u0,v0,w0,rfl,g2,h2,i2⟩:=c0.elem' e2
   refine Br (hA:=u0) (hj:=(Int.toNat_of_nonneg d2).symm) (hlt:=v0) rfl rfl rfl ?_
   refine Aw rfl rfl (BB (hl:=rfl) (hc:=w0) rfl rfl ?_)
   refine Aw rfl rfl (Am rfl rfl (Aw rfl rfl ?_))
   obtain ⟨j2,k2,b0⟩:=bs b0
   refine KU (O:=f1) (A:=All e1) (R:=fun w' F v=>Vb w' F v j2) (EW (fun _ h=>h) (Vb.mono (F:=Fr 0 e1 f1) (Vb.ofAgg (cs:=[(.int .i64 j0.src),(.int .i64 j0.label),(.int .i64 j0.dst)]) (x:=j0) rfl ⟨rfl,g2,h2,i2⟩) Fr.lt) rx1 k2) rfl rfl rfl fun y2 z2 a3 g1 l2=>?_
   obtain ⟨rfl,b3⟩:=l2.int
   refine Aw rfl rfl (EP rfl rfl rfl (fun y0=>?_) fun y0=>?_)
   ·
    replace b0:=ip b0 y0
    refine Bo rfl rfl rfl (At rfl rfl (At rfl rfl (o_z ?_)))
    obtain rfl:=sm b0
    exact ⟨(),_,⟨rfl,rfl,trivial⟩,hB.st g1⟩
   replace b0:=im b0 y0
   refine Bo rfl rfl rfl (At rfl rfl (At rfl rfl (o_z ?_)))
   obtain rfl:=sm b0
   exact ⟨(),_,⟨rfl,rfl,trivial⟩,hB.st g1⟩
  replace b0:=im b0 t0
  refine Am rfl rfl (Ay rfl rfl rfl rfl (Ay rfl rfl rfl rfl (Ay rfl rfl rfl rfl (Ay rfl rfl rfl rfl (Ay rfl rfl rfl rfl (Ay rfl rfl rfl rfl (Ay rfl rfl rfl rfl (Ay rfl rfl rfl rfl (Bl rfl rfl rfl (At rfl rfl (At rfl rfl (o_z ?_))))))))))))
  obtain rfl:=sm b0
  exact ⟨(),_,⟨rfl,rfl,trivial⟩,hB⟩
 rintro c3 d3 ⟨b2,e3,z0,hB⟩
 refine AO _ z0 ?_
 refine AL ?_
 obtain rfl:=sm hm
 exact ret2 rfl (AA rfl) (AA rfl) ⟨hB.ext,_,_,rfl,(vInt g0),vBool⟩
noncomputable def CH (x0:Spa) (x1:Int):Option (Int×Int) :=
  bnd (AN x0.edges x1) fun q46=>bnd (cutI x0.edges q46.1 (x0.edges.length:Int)) fun u58=>bnd (rng (ρ:=Int×Int) (fun (k75:Nat) (a76:Edj) (s73:Unit)=>if a76.src≠x1 then (some (.brk ())) else (bnd (bnd (atI x0.distances a76.dst) fun a151=>bnd (atI x0.t.ops a76.label) fun a163=>bnd (chkI (a151 + a163.cost)) fun n184=>bnd (atI x0.distances x1) fun a187=>if n184=a187 then (bnd (atI x0.steps a76.dst) fun a200=>bnd (chkI (a200 + 1)) fun n212=>bnd (atI x0.steps x1) fun a215=>if n212=a215 then (some true) else (some false)) else (some false):Option Bool) fun y104=>if y104=true then (some (.ret (a76.label,a76.dst))) else (some (.next ())))) u58 0 ()) fun res71=>fin res71 fun (s252:Unit)=>some ((-1),(-1))
theorem Hx {w:World} {O:Lab} {p0 i0:Nat} {x0:Spa} (j1:Ob i0 w O (.pointer (some ⟨p0,0,none⟩)) x0) {x1:Int} (rx1:inI64 x1) {r:Int×Int} (hm:CH x0 x1=some r) :
    Fn Tryz.prog 57 [(.pointer (some ⟨p0,0,none⟩)),(.int .i64 x1)] w fun v w'=>∃ O',St (eT i0) w O w' O'∧∃ v0 v1:Value,Ob i0 w' O' (.pointer (some ⟨p0,0,none⟩)) x0∧v=.tuple #[v0,v1]∧Vb w' (Fr 0 w' O') v0 r.1∧Vb w' (Fr 0 w' O') v1 r.2:=by
 obtain ⟨O0,hE,p4,q4⟩:=ent1 (w:=w) (O:=O) j1.2
 have j1':=Ob.leave j1 p4 q4 (j:=2) (by decide)
 have hB:Bm w O0 w O0:=Bm.refl
 refine AI Tryz.func57 rfl Tryz.ntmps57 rfl ?_
 unfold CH at hm
 refine Al (Aj (At rfl rfl (At rfl rfl (o_z ?_))))
 refine Al (Aj (Am rfl rfl (BO rfl rfl ?_)))
 obtain ⟨O3,v7,c8,d8,e8,f8,g8,i8,j8,k8,l8,S4,m8,h5,h8,m2,n2,o2,p2,k1,q2,r2,s2,t2⟩:=Spa.opn j1' 2 3 (by decide)
 obtain ⟨A9,n8,rfl⟩:=h8.form
 obtain ⟨o8,p8,rfl⟩:=m2.form
 obtain ⟨q8,r8,rfl⟩:=n2.form
 obtain ⟨s8,t8,rfl⟩:=o2.form
 obtain ⟨u8,rfl⟩:=p2.ptr
 obtain ⟨v8,w8,rfl⟩:=k1.form
 obtain ⟨x8,y8,rfl⟩:=q2.form
 obtain ⟨z8,a9,rfl⟩:=r2.form
 obtain ⟨b9,c9,rfl⟩:=s2.form
 obtain ⟨d9,e9,rfl⟩:=t2.form
 refine AG rfl rfl (AD (hc:=Blk.cell (i:=5) (h5.1) rfl) rfl rfl ?_)
 refine Am rfl rfl ?_
 obtain ⟨r4,s4,hm⟩:=bs hm
 refine BU (O:=O3) (A:=All w) (R:=fun w' F v=>T2 w' F v r4) (CF (fun _ h=>h) (Vb.mono (F:=Fr 0 w O3) k1 Fr.lt) rx1 s4) rfl rfl fun f9 g9 h9 h0 t4=>?_
 obtain ⟨i9,j9,rfl,u4,v4⟩:=t4
 obtain ⟨rfl,k9⟩:=u4.int
 obtain rfl:=v4.bool
 refine Am rfl rfl (Bn rfl rfl rfl (Bn rfl rfl rfl (At rfl rfl (At rfl rfl (o_z ?_)))))
 refine Al (Al (Aj (Am rfl rfl (BO rfl rfl (AG rfl rfl ?_)))))
 replace h5:=h5.st h0
 refine AD (hc:=Blk.cell (i:=5) (h5.1) rfl) rfl rfl ?_
 refine Am rfl rfl ?_
 obtain ⟨o0,w4,hm⟩:=bs hm
 replace k1:=k1.st h0
 obtain ⟨u2,v2,f0,x4⟩:=cutB k1 w4
 refine PZ (hc:=x4) rfl rfl rfl ?_
 refine AQ rfl rfl ?_
 have y2:o0.length≤9223372036854775807:=Nat.le_trans f0.len.2.1 f0.len.2.2
 have l9:inI64 (o0.length:Int):=rngNat y2
 refine Am rfl rfl (o_z ?_)
 replace h8:=h8.st h0
 replace m2:=m2.st h0
 replace n2:=n2.st h0
 replace o2:=o2.st h0
 replace p2:=p2.st h0
 replace q2:=q2.st h0
 replace r2:=r2.st h0
 replace s2:=s2.st h0
 replace t2:=t2.st h0
 obtain ⟨y4,z2,z4,a5,q0⟩:=Spa.shut (x:=x0) (l0:=2) (l1:=3) (by decide) h5 h8 m2 n2 o2 p2 k1 q2 r2 s2 t2
 obtain ⟨n1,a3,hm⟩:=bs hm
 refine AM (aft n1 (fun (w2:Unit) (x2:Unit)=>[]) (fun w2 x2 w'=>∃ O':Lab,Bm w O0 w' O'∧Ob 2 w' O' (.pointer (some ⟨p0,0,none⟩)) x0)) ?_ ?_
 ·
  refine AP ?_
  replace hB:=((hB.st S4).st h0).st z2
  replace f0:=f0.st z2
  refine Ca (σ:=Unit) (X:=Unit) (o0.length) a3 rfl y2 (fun (w2:Unit) (x2:Unit)=>[(0,(.pointer (some ⟨p0,0,none⟩))),(1,(.int .i64 x1)),(24,(.slice u2 o0.length v2))]) _ (fun w2 x2 w'=>∃ O':Lab,Bm w O0 w' O'∧Ob 2 w' O' (.pointer (some ⟨p0,0,none⟩)) x0∧Vb w' (Fr 0 w' O') (.slice u2 o0.length v2) o0) _ () ⟨y4,hB,q0,f0⟩ ⟨rfl,rfl,rfl,rfl,rfl,trivial⟩ (fun _ _=>⟨rfl,rfl⟩) (fun _ _=>trivial) (fun _ _ _ ⟨O',hB,q0,f0⟩=>⟨O',hB,q0⟩) ⟨rfl,rfl,rfl⟩ ⟨rfl,rfl⟩ ?_
  rintro c4 m1 w2 x2 m9 b5 o1 ⟨c5,hB,q0,f0⟩ c0 a1 b1
  have rk75:inI64 (c4:Int):=rngK o1 y2
  refine Al (Aj ?_)
  obtain ⟨n9,o9,d5,b3,c3,d3,rfl,p9,e5,f5⟩:=f0.elem' o1
  refine Br (hA:=b3) (hj:=rfl) (hlt:=c3) rfl rfl rfl ?_
  refine BB (hl:=rfl) (hc:=d3) rfl rfl ?_
  refine CQ 4 c5 rfl fun e3 q9 g5 m0 b0=>?_
  refine Bu b0 rfl rfl rfl (Ci rfl) (allOne rfl) fun p1 d0 b0=>?_
  replace b0:Lc 4 p1 g5 e3 94 [(.int .i64 m1.src),(.int .i64 m1.label),(.int .i64 m1.dst)]:=b0
  refine o_z ?_
  refine Al (Al (Aj (AG rfl rfl (AD (hc:=Blk.cell (i:=0) (b0.1) rfl) rfl rfl ?_))))
  refine Am rfl rfl (FO rfl rfl rfl (fun c1=>?_) fun c1=>?_)
  ·
   replace c0:=ip c0 c1
   refine o_z ?_
   refine Ah rfl (Cz ?_)
   obtain rfl:=sm c0
   exact show Exists _ from ⟨_,(),b1 _ rfl,trivial,_,(hB.st m0).st d0,(q0.st m0).st d0⟩
  replace c0:=im c0 c1
  refine o_z ?_
  refine Ae rfl (AK (Al ?_))
  obtain ⟨f3,a0,c0⟩:=bs c0
  refine AM (fun l' w'=>∃ (g3:Unit) (O':Lab),subs l' [(0,(.pointer (some ⟨p0,0,none⟩))),(1,(.int .i64 x1)),(9,(.pointer (some ⟨e3,0,none⟩))),(24,(.slice u2 o0.length v2)),(25,(.int .i64 (o0.length:Int))),(26,(.int .i64 (c4:Int))),(79,(.bool f3))]∧Bm w O0 w' O'∧Ob 2 w' O' (.pointer (some ⟨p0,0,none⟩)) x0∧Lc 4 w' O' e3 94 [(.int .i64 m1.src),(.int .i64 m1.label),(.int .i64 m1.dst)]∧Vb w' (Fr 0 w' O') (.slice u2 o0.length v2) o0) ?_ ?_
  ·
   refine BQ (·=p1) [(0,true),(1,true),(2,true),(3,true),(4,true),(5,true),(6,true),(7,true),(8,true),(9,true),(10,true),(11,true),(12,true),(13,true),(14,true),(15,true),(16,true),(17,true),(18,true),(19,true),(20,true),(21,true),(22,true),(23,true),(24,true),(25,true),(26,true),(27,true),(28,true),(29,true),(30,true),(31,true),(32,true),(33,true),(34,true),(35,true),(36,true),(37,true),(38,true),(39,true),(40,true),(41,true),(42,true),(43,true),(44,true),(45,true)] (by kernel_rfl) rfl (by kernel_rfl) rfl ?_
   refine AF rfl rfl rfl (Cb rfl rfl rfl ?_)
   replace q0:=(q0.st m0).st d0
   obtain ⟨i5,j5,k5,l5,m5,n5,o5,p5,q5,r5,s5,g0,d4,e0,r0,s0,t0,n0,u0,w0,y0,z0,j0,k0⟩:=Spa.opn q0 2 3 (by decide)
   obtain ⟨t5,u5,rfl⟩:=r0.form
   obtain ⟨v5,w5,rfl⟩:=s0.form
   obtain ⟨x5,y5,rfl⟩:=t0.form
   obtain ⟨z5,a6,rfl⟩:=n0.form
   obtain ⟨b6,rfl⟩:=u0.ptr
   obtain ⟨c6,d6,rfl⟩:=w0.form
   obtain ⟨e6,f6,rfl⟩:=y0.form
   obtain ⟨g6,h6,rfl⟩:=z0.form
   obtain ⟨i6,j6,rfl⟩:=j0.form
   obtain ⟨k6,l6,rfl⟩:=k0.form
   refine AR rfl rfl rfl (Bp (hc:=Blk.cell (i:=8) (e0.1) rfl) rfl rfl rfl ?_)
   refine AR rfl rfl rfl ?_
   replace b0:=b0.st g0
   refine Bp (hc:=Blk.cell (i:=2) (b0.1) rfl) rfl rfl rfl ?_
   obtain ⟨m6,h3,a0⟩:=bs a0
   obtain ⟨i3,j3⟩:=AH h3
   obtain ⟨n6,o6,e4,q1,r1,s1,rfl,p6⟩:=j0.elem' j3
   refine BC (hA:=q1) (hj:=(Int.toNat_of_nonneg i3).symm) (hlt:=r1) rfl rfl rfl rfl ?_
   refine Bp (hc:=cat0 s1) rfl rfl rfl ?_
   refine AF rfl rfl rfl (Cb rfl rfl rfl (AR rfl rfl rfl (AR rfl rfl rfl (Bp (hc:=Blk.cell (i:=3) (e0.1) rfl) rfl rfl rfl ?_))))
   refine AR rfl rfl rfl (Bp (hc:=Blk.cell (i:=1) (b0.1) rfl) rfl rfl rfl ?_)
   obtain ⟨q6,k3,a0⟩:=bs a0
   obtain ⟨l3,m3⟩:=AH k3
   obtain ⟨r6,s6,f4,t1,u1,w1,t6,u6,rfl,n3,o3,v6,w6⟩:=n0.elem' m3
   obtain ⟨x6,y6,rfl⟩:=n3.form
   obtain ⟨z6,a7,rfl⟩:=o3.form
   refine BC (hA:=t1) (hj:=(Int.toNat_of_nonneg l3).symm) (hlt:=u1) rfl rfl rfl rfl ?_
   refine AR rfl rfl rfl (Bp (hc:=cat1 w1) rfl rfl rfl ?_)
   obtain ⟨b7,y1,a0⟩:=bs a0
   have c7:=(BE y1)
   refine KF (he:=y1) rfl rfl rfl rfl ?_
   refine AF rfl rfl rfl (Cb rfl rfl rfl (AR rfl rfl rfl (Bp (hc:=Blk.cell (i:=8) (e0.1) rfl) rfl rfl rfl ?_)))
   refine AF rfl rfl rfl ?_
   obtain ⟨d7,p3,a0⟩:=bs a0
   obtain ⟨q3,r3⟩:=AH p3
   obtain ⟨e7,f7,g4,z1,a2,b2,rfl,g7⟩:=j0.elem' r3
   refine BC (hA:=z1) (hj:=(Int.toNat_of_nonneg q3).symm) (hlt:=a2) rfl rfl rfl rfl ?_
   refine Bp (hc:=cat0 b2) rfl rfl rfl ?_
   refine KE rfl rfl rfl rfl (fun d1=>?_) fun d1=>?_
   ·
    replace a0:=ip a0 d1
    refine AF rfl rfl rfl (Az rfl (Au rfl rfl (BK rfl rfl (Az rfl (Au rfl rfl (Mt rfl rfl (Az rfl (Au rfl rfl (BR rfl rfl (Az rfl (Au rfl rfl (Ba (hc:=Blk.cell (i:=9) (e0.1) rfl) rfl rfl ?_))))))))))))
    refine Az rfl (Au rfl rfl (BR rfl rfl (Az rfl (Au rfl rfl (Ba (hc:=Blk.cell (i:=2) (b0.1) rfl) rfl rfl ?_)))))
    refine Az rfl (Au rfl rfl ?_)
    obtain ⟨h7,s3,a0⟩:=bs a0
    obtain ⟨t3,u3⟩:=AH s3
    obtain ⟨i7,j7,h4,c2,d2,e2,rfl,k7⟩:=k0.elem' u3
    refine FU (hA:=c2) (hj:=(Int.toNat_of_nonneg t3).symm) (hlt:=d2) rfl rfl rfl ?_
    refine Az rfl (Au rfl rfl (Ba (hc:=cat0 e2) rfl rfl ?_))
    refine Az rfl (Au rfl rfl ?_)
    obtain ⟨l7,f2,a0⟩:=bs a0
    have m7:=(BE f2)
    refine KG (he:=f2) rfl rfl rfl ?_
    refine Az rfl (Au rfl rfl (BK rfl rfl (Az rfl (Au rfl rfl (Mt rfl rfl (Az rfl (Au rfl rfl (BR rfl rfl (Az rfl (Au rfl rfl (Ba (hc:=Blk.cell (i:=9) (e0.1) rfl) rfl rfl ?_)))))))))))
    refine Az rfl (Au rfl rfl (BK rfl rfl (Az rfl (Au rfl rfl ?_))))
    obtain ⟨n7,v3,a0⟩:=bs a0
    obtain ⟨w3,x3⟩:=AH v3
    obtain ⟨o7,p7,i4,g2,h2,i2,rfl,q7⟩:=k0.elem' x3
    refine FU (hA:=g2) (hj:=(Int.toNat_of_nonneg w3).symm) (hlt:=h2) rfl rfl rfl ?_
    refine Az rfl (Au rfl rfl (Ba (hc:=cat0 i2) rfl rfl ?_))
    refine Az rfl (Au rfl rfl (AX (fun _ _=>Ft rfl rfl) rfl (fun e1=>?_) (fun e1=>?_)))
    ·
     replace a0:=ip a0 e1
     refine Ct rfl rfl rfl rfl (h_z ?_)
     obtain ⟨r7,f1,j4,k4,y3⟩:=Spa.shut (x:=x0) (l0:=2) (l1:=3) (by decide) e0 r0 s0 t0 n0 u0 w0 y0 z0 j0 k0
     obtain rfl:=sm a0
     exact ⟨(),_,⟨rfl,rfl,rfl,rfl,rfl,rfl,rfl,trivial⟩,(((hB.st m0).st d0).st g0).st f1,y3,b0.st f1,(((f0.st m0).st d0).st g0).st f1⟩
    replace a0:=im a0 e1
    refine Ct rfl rfl rfl rfl (h_z ?_)
    obtain ⟨s7,g1,l4,m4,z3⟩:=Spa.shut (x:=x0) (l0:=2) (l1:=3) (by decide) e0 r0 s0 t0 n0 u0 w0 y0 z0 j0 k0
    obtain rfl:=sm a0
    exact ⟨(),_,⟨rfl,rfl,rfl,rfl,rfl,rfl,rfl,trivial⟩,(((hB.st m0).st d0).st g0).st g1,z3,b0.st g1,(((f0.st m0).st d0).st g0).st g1⟩
   replace a0:=im a0 d1
   refine AF rfl rfl rfl (Bb rfl rfl rfl rfl rfl (Bb rfl rfl rfl rfl rfl (Bb rfl rfl rfl rfl rfl (Bb rfl rfl rfl rfl rfl (Bb rfl rfl rfl rfl rfl (Bb rfl rfl rfl rfl rfl (Bb rfl rfl rfl rfl rfl (Bb rfl rfl rfl rfl rfl (Bb rfl rfl rfl rfl rfl (Bb rfl rfl rfl rfl rfl (Bb rfl rfl rfl rfl rfl (Bb rfl rfl rfl rfl rfl (Bb rfl rfl rfl rfl rfl (Bb rfl rfl rfl rfl rfl ?_))))))))))))))
   refine Bb rfl rfl rfl rfl rfl (Bb rfl rfl rfl rfl rfl (Bb rfl rfl rfl rfl rfl (Cw rfl rfl rfl rfl (h_z ?_))))
   obtain ⟨t7,h1,n4,o4,a4⟩:=Spa.shut (x:=x0) (l0:=2) (l1:=3) (by decide) e0 r0 s0 t0 n0 u0 w0 y0 z0 j0 k0
   obtain rfl:=sm a0
   exact ⟨(),_,⟨rfl,rfl,rfl,rfl,rfl,rfl,rfl,trivial⟩,(((hB.st m0).st d0).st g0).st h1,a4,b0.st h1,(((f0.st m0).st d0).st g0).st h1⟩
  replace hB:=(hB.st m0).st d0
  replace f0:=(f0.st m0).st d0
  rintro u7 b4 ⟨g3,w7,j2,hB,k2,b0,f0⟩
  refine AO _ j2 ?_
  refine Cs rfl (fun i1=>?_) (fun i1=>?_)
  ·
   replace c0:=ip c0 i1
   refine Al (BQ (·=b4) [(0,true),(1,true),(2,true),(3,true),(4,true),(5,true)] (by kernel_rfl) rfl (by kernel_rfl) rfl ?_)
   refine AR rfl rfl rfl (Bp (hc:=Blk.cell (i:=1) (b0.1) rfl) rfl rfl rfl ?_)
   refine AR rfl rfl rfl (Bp (hc:=Blk.cell (i:=2) (b0.1) rfl) rfl rfl rfl ?_)
   refine CB rfl rfl rfl (CB rfl rfl rfl (h_z ?_))
   refine AL ?_
   obtain rfl:=sm c0
   obtain rfl:=a1 _ rfl
   obtain rfl:=sm (CG hm)
   obtain ⟨O',hS',hz,hl⟩:=hE.leave (fun q=>if q=2 then i0 else 0) rfl hB
   exact ret2 rfl (AA rfl) (AA rfl) ⟨O',hS',_,_,(Ob.leave k2 hz (hl 2 (by decide) (by decide)) j1.2),rfl,(vInt e5),(vInt f5)⟩
  replace c0:=im' c0 i1
  refine AK ?_
  obtain rfl:=sm c0
  exact show Exists _ from ⟨_,(),rfl,⟨rfl,rfl,rfl,rfl,rfl,trivial⟩,_,hB,k2,f0⟩
 replace hB:=((hB.st S4).st h0).st z2
 rintro x7 y7 ⟨z7,a8,rfl,l2,b8,hB,q0⟩
 replace hm:=Bh hm
 refine AO _ l2 ?_
 refine Al (Aj (At rfl rfl (At rfl rfl (o_z ?_))))
 refine AL ?_
 obtain rfl:=sm hm
 obtain ⟨O',hS',hz,hl⟩:=hE.leave (fun q=>if q=2 then i0 else 0) rfl hB
 exact ret2 rfl (AA rfl) (AA rfl) ⟨O',hS',_,_,(Ob.leave q0 hz (hl 2 (by decide) (by decide)) j1.2),rfl,(vInt (show inI64 (-1) from by decide)),(vInt (show inI64 (-1) from by decide))⟩
noncomputable def CI (x0:Spa):Option ((List Int)×Int×Err) :=
  bnd (atI x0.distances 0) fun a45=>if 1125899906842624≤a45 then (some (([]:List Int),0,(⟨3⟩:Err))) else (bnd (lop (ρ:=(List Int)×Int×Err) (fun (s70:(List Int)×Int)=>bnd (atI x0.steps s70.2) fun a132=>if 0 < a132 then (bnd (CH x0 s70.2) fun q150=>if q150.2 < 0 then (some (.ret (([]:List Int),0,(⟨3⟩:Err)))) else (bnd (appI 8 s70.1 [q150.1]) fun u165=>some (.next (u165,q150.2)))) else (some (.brk (s70.1,s70.2)))) (([]:List Int),0)) fun res68=>fin res68 fun (s186:(List Int)×Int)=>bnd (atI x0.distances 0) fun a231=>some (s186.1,a231,(⟨0⟩:Err)))
theorem Hy {w:World} {O:Lab} {p0 i0:Nat} {x0:Spa} (u0:Ob i0 w O (.pointer (some ⟨p0,0,none⟩)) x0) {r:(List Int)×Int×Err} (hm:CI x0=some r) :
    Fn Tryz.prog 24 [(.pointer (some ⟨p0,0,none⟩))] w fun v w'=>∃ O',St (eT i0) w O w' O'∧∃ v0 v1 v2:Value,Ob i0 w' O' (.pointer (some ⟨p0,0,none⟩)) x0∧v=.tuple #[v0,v1,v2]∧Vb w' (Fr 0 w' O') v0 r.1∧Vb w' (Fr 0 w' O') v1 r.2.1∧Vb w' (Fr 0 w' O') v2 r.2.2:=by
 obtain ⟨O0,hE,d4,e4⟩:=ent1 (w:=w) (O:=O) u0.2
 have u0':=Ob.leave u0 d4 e4 (j:=2) (by decide)
 have hB:Bm w O0 w O0:=Bm.refl
 refine AI Tryz.func24 rfl Tryz.ntmps24 rfl ?_
 unfold CI at hm
 refine Al (Aj (At rfl rfl (At rfl rfl (At rfl rfl (o_z ?_)))))
 refine Al (Al (Aj (Am rfl rfl (EY rfl rfl ?_))))
 refine Am rfl rfl (Aw rfl rfl (Am rfl rfl (Aw rfl rfl (BO rfl rfl (Aw rfl rfl ?_)))))
 obtain ⟨O2,v6,u7,v7,w7,x7,y7,z7,a8,b8,c8,S3,d8,h4,h7,e2,f2,g2,h2,i2,j2,k2,d2,l2⟩:=Spa.opn u0' 2 3 (by decide)
 obtain ⟨A8,c9,rfl⟩:=h7.form
 obtain ⟨e8,f8,rfl⟩:=e2.form
 obtain ⟨g8,h8,rfl⟩:=f2.form
 obtain ⟨i8,j8,rfl⟩:=g2.form
 obtain ⟨k8,rfl⟩:=h2.ptr
 obtain ⟨l8,m8,rfl⟩:=i2.form
 obtain ⟨n8,o8,rfl⟩:=j2.form
 obtain ⟨p8,q8,rfl⟩:=k2.form
 obtain ⟨r8,s8,rfl⟩:=d2.form
 obtain ⟨t8,u8,rfl⟩:=l2.form
 refine AG rfl rfl (Aw rfl rfl (AD (hc:=Blk.cell (i:=8) (h4.1) rfl) rfl rfl ?_))
 refine Aw rfl rfl ?_
 obtain ⟨v8,f4,hm⟩:=bs hm
 obtain ⟨g4,i4⟩:=AH f4
 obtain ⟨w8,x8,j4,m2,n2,o2,rfl,y8⟩:=d2.elem' i4
 refine Br (hA:=m2) (hj:=(Int.toNat_of_nonneg g4).symm) (hlt:=n2) rfl rfl rfl ?_
 refine Aw rfl rfl (AD (hc:=cat0 o2) rfl rfl ?_)
 refine Aw rfl rfl (FN rfl rfl rfl (fun p2=>?_) fun p2=>?_)
 ·
  replace hm:=ip hm p2
  refine Bl rfl rfl rfl (o_z ?_)
  refine Ah rfl (Al (Aj (DT rfl rfl ?_)))
  refine At rfl rfl (At rfl rfl (At rfl rfl (o_z ?_)))
  refine AL ?_
  obtain ⟨z8,k4,l4,m4,n4⟩:=Spa.shut (x:=x0) (l0:=2) (l1:=3) (by decide) h4 h7 e2 f2 g2 h2 i2 j2 k2 d2 l2
  obtain rfl:=sm hm
  replace hB:=(hB.st S3).st k4
  obtain ⟨O',hS',hz,hl⟩:=hE.leave (fun q=>if q=2 then i0 else 0) rfl hB
  exact ret3 rfl (AA rfl) (AA rfl) (AA rfl) ⟨O',hS',_,_,_,(Ob.leave n4 hz (hl 2 (by decide) (by decide)) u0.2),rfl,(Vb.mono (Vb.nil _ _) hz),(vInt (show inI64 (0) from by decide)),(vErr (by decide))⟩
 replace hm:=im hm p2
 refine Bl rfl rfl rfl (o_z ?_)
 refine Ae rfl (AK (Al (Aj (At rfl rfl (o_z ?_)))))
 refine Al (Aj (At rfl rfl (o_z ?_)))
 refine Al ?_
 obtain ⟨o4,t3,p4,q4,m1⟩:=Spa.shut (x:=x0) (l0:=2) (l1:=3) (by decide) h4 h7 e2 f2 g2 h2 i2 j2 k2 d2 l2
 obtain ⟨n1,q2,hm⟩:=bs hm
 refine AM (aft n1 (fun (d0:(List Int)×Int) (c0:(Option Addr×Nat))=>[(0,(.pointer (some ⟨p0,0,none⟩))),(5,(.slice c0.1 d0.1.length c0.2))]) (fun d0 c0 w'=>∃ O':Lab,Bm w O0 w' O'∧Ob 2 w' O' (.pointer (some ⟨p0,0,none⟩)) x0∧Rw 4 w' O' 3 (.slice c0.1 d0.1.length c0.2) d0.1∧inI64 d0.2)) ?_ ?_
 ·
  refine AP ?_
  replace hB:=(hB.st S3).st t3
  refine Eu (σ:=(List Int)×Int) (X:=(Option Addr×Nat)) q2 (fun (d0:(List Int)×Int) (c0:(Option Addr×Nat))=>[(0,(.pointer (some ⟨p0,0,none⟩))),(5,(.slice c0.1 d0.1.length c0.2)),(6,(.int .i64 d0.2))]) _ (fun d0 c0 w'=>∃ O':Lab,Bm w O0 w' O'∧Ob 2 w' O' (.pointer (some ⟨p0,0,none⟩)) x0∧Rw 4 w' O' 3 (.slice c0.1 d0.1.length c0.2) d0.1∧inI64 d0.2) _ (none,0) ⟨o4,hB,m1,(Rw.nil 4 (by decide)),(show inI64 (0) from by decide)⟩ ⟨rfl,rfl,rfl,trivial⟩ ?_
  rintro d0 c0 a9 r4 ⟨b9,hB,m1,e0,r2⟩ a0 w0 y0
  refine Al (Al (Aj (Am rfl rfl (BO rfl rfl ?_))))
  obtain ⟨d9,e9,f9,s4,t4,u4,v4,w4,x4,y4,z4,o1,a5,s2,t2,u2,z0,a1,b1,c1,d1,e1,f1,g0⟩:=Spa.opn m1 2 3 (by decide)
  obtain ⟨g9,h9,rfl⟩:=t2.form
  obtain ⟨i9,b5,rfl⟩:=u2.form
  obtain ⟨c5,d5,rfl⟩:=z0.form
  obtain ⟨e5,f5,rfl⟩:=a1.form
  obtain ⟨g5,rfl⟩:=b1.ptr
  obtain ⟨h5,i5,rfl⟩:=c1.form
  obtain ⟨j5,k5,rfl⟩:=d1.form
  obtain ⟨l5,m5,rfl⟩:=e1.form
  obtain ⟨n5,o5,rfl⟩:=f1.form
  obtain ⟨p5,q5,rfl⟩:=g0.form
  refine AG rfl rfl (AD (hc:=Blk.cell (i:=9) (s2.1) rfl) rfl rfl ?_)
  refine Am rfl rfl ?_
  obtain ⟨r5,w2,a0⟩:=bs a0
  obtain ⟨x2,y2⟩:=AH w2
  obtain ⟨s5,t5,u3,p1,q1,r1,rfl,u5⟩:=g0.elem' y2
  refine Br (hA:=p1) (hj:=(Int.toNat_of_nonneg x2).symm) (hlt:=q1) rfl rfl rfl ?_
  refine AD (hc:=cat0 r1) rfl rfl ?_
  refine CN rfl rfl rfl (fun g1=>?_) fun g1=>?_
  ·
   replace a0:=ip a0 g1
   refine o_z ?_
   refine Ah rfl (AK (AP (Al (Aj (Am rfl rfl (Am rfl rfl ?_))))))
   obtain ⟨z2,h1,v3,w3,a3⟩:=Spa.shut (x:=x0) (l0:=2) (l1:=3) (by decide) s2 t2 u2 z0 a1 b1 c1 d1 e1 f1 g0
   obtain ⟨b3,c3,a0⟩:=bs a0
   refine BV (O:=z2) (Hx a3 r2 c3) rfl rfl fun v5 w5 x5 i1 d3=>?_
   obtain ⟨y5,z5,s1,rfl,e3,f3⟩:=d3
   obtain ⟨rfl,g3⟩:=e3.int
   obtain ⟨rfl,h3⟩:=f3.int
   refine Am rfl rfl (Bn rfl rfl rfl (Bn rfl rfl rfl (At rfl rfl (At rfl rfl (o_z ?_)))))
   refine Al (Al (Aj (Am rfl rfl (CU rfl rfl rfl (fun j1=>?_) fun j1=>?_))))
   ·
    replace a0:=ip a0 j1
    refine o_z ?_
    refine Ah rfl (Al (Aj (DT rfl rfl ?_)))
    refine At rfl rfl (At rfl rfl (At rfl rfl (o_z ?_)))
    refine AL ?_
    obtain rfl:=sm a0
    obtain rfl:=w0 _ rfl
    obtain rfl:=sm (CG hm)
    replace hB:=((hB.st o1).st h1).st i1
    obtain ⟨O',hS',hz,hl⟩:=hE.leave (fun q=>if q=2 then i0 else 0) rfl hB
    exact ret3 rfl (AA rfl) (AA rfl) (AA rfl) ⟨O',hS',_,_,_,(Ob.leave s1 hz (hl 2 (by decide) (by decide)) u0.2),rfl,(Vb.mono (Vb.nil _ _) hz),(vInt (show inI64 (0) from by decide)),(vErr (by decide))⟩
   replace a0:=im a0 j1
   refine o_z ?_
   refine Ae rfl (AK (Al (Aj (Am rfl rfl (Am rfl rfl ?_)))))
   obtain ⟨a6,k1,a0⟩:=bs a0
   obtain ⟨k1,i3,j3⟩:=Ce k1
   replace e0:=((e0.st o1).st h1).st i1
   refine DS rfl (a:=b3.1) e0 (vInt g3) (fun _=>rfl) rfl (by decide) (by decide) i3 j3 ⟨rfl,rfl⟩ fun b6 k3 l3 c6 d6 t1 u1=>?_
   rw [← k1] at u1 ⊢
   refine At rfl rfl (o_z ?_)
   refine Aj (Am rfl rfl (At rfl rfl (o_z ?_)))
   obtain rfl:=sm a0
   exact show Exists _ from ⟨_,(k3,l3),rfl,⟨rfl,rfl,rfl,trivial⟩,_,(((hB.st o1).st h1).st i1).st t1,s1.st t1,u1,h3⟩
  replace a0:=im a0 g1
  refine o_z ?_
  refine Ae rfl (Cz ?_)
  obtain ⟨e6,w1,x3,y3,m3⟩:=Spa.shut (x:=x0) (l0:=2) (l1:=3) (by decide) s2 t2 u2 z0 a1 b1 c1 d1 e1 f1 g0
  obtain rfl:=sm a0
  exact show Exists _ from ⟨_,(c0.1,c0.2),y0 _ rfl,⟨rfl,rfl,trivial⟩,_,(hB.st o1).st w1,m3,(e0.st o1).st w1,r2⟩
 replace hB:=(hB.st S3).st t3
 rintro f6 n3 ⟨g6,h6,rfl,x1,i6,hB,m1,e0,r2⟩
 replace hm:=Bh hm
 refine AO _ x1 ?_
 refine Al (BQ (·=n3) [(0,true),(1,true),(2,true),(3,true),(4,true),(5,true),(6,true),(7,true),(8,true),(9,true)] (by kernel_rfl) rfl (by kernel_rfl) rfl ?_)
 refine AF rfl rfl rfl (AF rfl rfl rfl (Cb rfl rfl rfl ?_))
 obtain ⟨j6,k6,l6,m6,n6,o6,p6,q6,r6,s6,t6,y1,z3,h0,j0,k0,m0,n0,o0,q0,r0,s0,f0,t0⟩:=Spa.opn m1 2 3 (by decide)
 obtain ⟨u6,w6,rfl⟩:=j0.form
 obtain ⟨x6,y6,rfl⟩:=k0.form
 obtain ⟨z6,a7,rfl⟩:=m0.form
 obtain ⟨b7,c7,rfl⟩:=n0.form
 obtain ⟨d7,rfl⟩:=o0.ptr
 obtain ⟨e7,f7,rfl⟩:=q0.form
 obtain ⟨g7,i7,rfl⟩:=r0.form
 obtain ⟨j7,k7,rfl⟩:=s0.form
 obtain ⟨l7,m7,rfl⟩:=f0.form
 obtain ⟨n7,o7,rfl⟩:=t0.form
 refine AR rfl rfl rfl (Bp (hc:=Blk.cell (i:=8) (h0.1) rfl) rfl rfl rfl ?_)
 obtain ⟨p7,o3,hm⟩:=bs hm
 obtain ⟨p3,q3⟩:=AH o3
 obtain ⟨q7,r7,a4,z1,a2,b2,rfl,r3⟩:=f0.elem' q3
 refine BC (hA:=z1) (hj:=(Int.toNat_of_nonneg p3).symm) (hlt:=a2) rfl rfl rfl rfl ?_
 refine Bp (hc:=cat0 b2) rfl rfl rfl ?_
 refine CB rfl rfl rfl (CB rfl rfl rfl (CB rfl rfl rfl (h_z ?_)))
 refine AL ?_
 replace e0:=e0.st y1
 obtain ⟨s7,b0,e0⟩:=e0.freeze
 replace h0:=h0.st b0
 replace j0:=j0.st b0
 replace k0:=k0.st b0
 replace m0:=m0.st b0
 replace n0:=n0.st b0
 replace o0:=o0.st b0
 replace q0:=q0.st b0
 replace r0:=r0.st b0
 replace s0:=s0.st b0
 replace f0:=f0.st b0
 replace t0:=t0.st b0
 obtain ⟨t7,c2,b4,c4,s3⟩:=Spa.shut (x:=x0) (l0:=2) (l1:=3) (by decide) h0 j0 k0 m0 n0 o0 q0 r0 s0 f0 t0
 obtain rfl:=sm hm
 replace hB:=((hB.st y1).st b0).st c2
 obtain ⟨O',hS',hz,hl⟩:=hE.leave (fun q=>if q=2 then i0 else 0) rfl hB
 replace e0:=e0.st c2
 exact ret3 rfl (AA rfl) (AA rfl) (AA rfl) ⟨O',hS',_,_,_,(Ob.leave s3 hz (hl 2 (by decide) (by decide)) u0.2),rfl,(Vb.mono e0 hz),(vInt r3),(vErr (show inI64 0 from by decide))⟩
noncomputable def Ds  : Option Bool :=
  bnd (Cj (⟨([2]:List Int),([0]:List Int),([]:List Fct),[(⟨(⟨#[]⟩:ByteArray),0,([]:List Fct),[(⟨([]:List Fct),0,1⟩:Eff)]⟩:Opr)]⟩:Tsk) 5) fun q33=>bnd (if q33.2.n=0 then (if q33.1.isNone=false then (bnd q33.1 fun o53=>bnd (Dn o53) fun q57=>if q57=2 then (some true) else (some false)) else (some false)) else (some false):Option Bool) fun y47=>some y47
theorem HL {w:World} {A:Nat→Prop} (hA:∀ k,A k→k < w.heap.size)  {r:Bool} (hm:Ds  = some r) :
    Fn Tryz.prog 11 [] w fun v w'=>Ext w w'∧Vb w' (upA A w w') v r:=by
 obtain ⟨O,hB,j1⟩:=enter hA
 refine AI Tryz.func11 rfl Tryz.ntmps11 rfl ?_
 unfold Ds at hm
 refine Al (Aj (At rfl rfl (o_z ?_)))
 refine Al (Aj (Cl 2 (by decide) O (xs:=(([2]:List Int):List Int)) rfl rfl rfl rfl ⟨(vInt (show inI64 (2) from by decide)),trivial⟩ (by decide) (by decide) rfl fun g1 w2 O3 S4 h5=>?_))
 refine Cl 3 (by decide) O3 (xs:=(([0]:List Int):List Int)) rfl rfl rfl rfl ⟨(vInt (show inI64 (0) from by decide)),trivial⟩ (by decide) (by decide) rfl fun g7 w8 O9 i0 b0=>?_
 refine ED rfl rfl rfl ?_
 refine Cl 4 (by decide) O9 (xs:=([(⟨([]:List Fct),0,1⟩:Eff)]:List Eff)) rfl rfl rfl rfl ⟨(Vb.ofAgg (cs:=[(.slice none 0 0),(.int .i64 0),(.int .i64 1)]) (x:=(⟨([]:List Fct),0,1⟩:Eff)) rfl ⟨_,rfl,(Vb.nil _ _),(show inI64 (0) from by decide),(show inI64 (1) from by decide)⟩),trivial⟩ (by decide) (by decide) rfl fun t0 k1 l1 c0 m0=>?_
 refine ED rfl rfl rfl ?_
 obtain ⟨u0,d0,m0⟩:=m0.freeze
 refine Cl 5 (by decide) u0 (xs:=([(⟨(⟨#[]⟩:ByteArray),0,([]:List Fct),[(⟨([]:List Fct),0,1⟩:Eff)]⟩:Opr)]:List Opr)) rfl rfl rfl rfl ⟨(Vb.ofAgg (cs:=[(.string (⟨#[]⟩:ByteArray)),(.int .i64 0),(.slice none 0 0),(.slice (some ⟨t0,0,none⟩) [(⟨([]:List Fct),0,1⟩:Eff)].length 1)]) (x:=(⟨(⟨#[]⟩:ByteArray),0,([]:List Fct),[(⟨([]:List Fct),0,1⟩:Eff)]⟩:Opr)) rfl ⟨_,_,rfl,(Vb.nil _ _),m0,(show inI64 0 from by decide),(show (⟨#[]⟩:ByteArray).size≤9223372036854775807 from by decide)⟩),trivial⟩ (by decide) (by decide) rfl fun v0 m1 n1 e0 j0=>?_
 refine ED rfl rfl rfl ?_
 replace h5:=(((h5.st i0).st c0).st d0).st e0
 obtain ⟨o1,f0,h5⟩:=h5.freeze
 replace b0:=(((b0.st c0).st d0).st e0).st f0
 obtain ⟨p1,g0,b0⟩:=b0.freeze
 replace j0:=(j0.st f0).st g0
 obtain ⟨w0,h0,j0⟩:=j0.freeze
 obtain ⟨q1,x0,hm⟩:=bs hm
 replace h5:=(h5.st g0).st h0
 replace b0:=b0.st h0
 refine BV (O:=w0) (Gc (Vb.ofAgg (cs:=[(.slice (some ⟨g1,0,none⟩) ([2]:List Int).length 1),(.slice (some ⟨g7,0,none⟩) ([0]:List Int).length 1),(.slice none 0 0),(.slice (some ⟨v0,0,none⟩) [(⟨(⟨#[]⟩:ByteArray),0,([]:List Fct),[(⟨([]:List Fct),0,1⟩:Eff)]⟩:Opr)].length 1)]) (x:=(⟨([2]:List Int),([0]:List Int),([]:List Fct),[(⟨(⟨#[]⟩:ByteArray),0,([]:List Fct),[(⟨([]:List Fct),0,1⟩:Eff)]⟩:Opr)]⟩:Tsk)) rfl ⟨_,_,_,_,rfl,h5,b0,(Vb.nil _ _),j0⟩) (show inI64 (5) from by decide) 6 (by decide) x0) rfl rfl fun r1 s1 y0 k0 z0=>?_
 obtain ⟨t1,u1,rfl,l0,a1⟩:=z0
 obtain ⟨v1,rfl,n0⟩:=Obo.ptrq l0
 obtain ⟨rfl,w1⟩:=a1.err
 refine Am rfl rfl (Bn rfl rfl rfl (Bn rfl rfl rfl (At rfl rfl (At rfl rfl (o_z ?_)))))
 refine Al ?_
 obtain ⟨b1,a0,hm⟩:=bs hm
 refine AM (fun l' w'=>∃ (c1:Unit) (O':Lab),subs l' [(0,(.bool b1))]∧Bs w A w' O') ?_ ?_
 ·
  refine Aj (Am rfl rfl (OM rfl rfl (fun o0=>?_) fun o0=>?_))
  ·
   replace a0:=ip a0 o0
   refine Am rfl rfl (Aw rfl rfl (Am rfl rfl (Aw rfl rfl (QQ n0 rfl rfl (fun p0=>?_) fun p0=>?_))))
   ·
    replace a0:=ip a0 p0
    refine Bo rfl rfl rfl (Am rfl rfl (Aw rfl rfl (Am rfl rfl (Aw rfl rfl ?_))))
    obtain ⟨x1,d1,a0⟩:=bs a0
    rw [d1] at l0
    obtain ⟨y1,e1⟩:=Ob.ptr l0
    obtain rfl:=LV e1
    obtain ⟨z1,f1,a0⟩:=bs a0
    refine BV (O:=y0) (HR l0 f1) rfl rfl fun a2 b2 c2 s0 h1=>?_
    obtain ⟨d2,i1⟩:=h1
    obtain ⟨rfl,e2⟩:=i1.int
    refine Aw rfl rfl (EP rfl rfl rfl (fun q0=>?_) fun q0=>?_)
    ·
     replace a0:=ip a0 q0
     refine Bo rfl rfl rfl (At rfl rfl (o_z ?_))
     obtain rfl:=sm a0
     exact ⟨(),_,⟨rfl,trivial⟩,(((((((((hB.st S4).st i0).st c0).st d0).st e0).st f0).st g0).st h0).st k0).st s0⟩
    replace a0:=im a0 q0
    refine Bo rfl rfl rfl (At rfl rfl (o_z ?_))
    obtain rfl:=sm a0
    exact ⟨(),_,⟨rfl,trivial⟩,(((((((((hB.st S4).st i0).st c0).st d0).st e0).st f0).st g0).st h0).st k0).st s0⟩
   replace a0:=im a0 p0
   refine Bo rfl rfl rfl (Am rfl rfl (Ay rfl rfl rfl rfl (Ay rfl rfl rfl rfl (Ay rfl rfl rfl rfl (Bl rfl rfl rfl (At rfl rfl (o_z ?_)))))))
   obtain rfl:=sm a0
   exact ⟨(),_,⟨rfl,trivial⟩,((((((((hB.st S4).st i0).st c0).st d0).st e0).st f0).st g0).st h0).st k0⟩
  replace a0:=im a0 o0
  refine Am rfl rfl (Ay rfl rfl rfl rfl (Ay rfl rfl rfl rfl (Bl rfl rfl rfl (Am rfl rfl (Ay rfl rfl rfl rfl (Ay rfl rfl rfl rfl (Ay rfl rfl rfl rfl (Bl rfl rfl rfl (At rfl rfl (o_z ?_))))))))))
  obtain rfl:=sm a0
  exact ⟨(),_,⟨rfl,trivial⟩,((((((((hB.st S4).st i0).st c0).st d0).st e0).st f0).st g0).st h0).st k0⟩
 replace hB:=((((((((hB.st S4).st i0).st c0).st d0).st e0).st f0).st g0).st h0).st k0
 rintro f2 g2 ⟨c1,h2,r0,hB⟩
 refine AO _ r0 ?_
 refine AL ?_
 obtain rfl:=sm hm
 exact ret1v rfl (AA rfl) ⟨hB.ext,vBool⟩
noncomputable def Dy (x0:Tsk):Option Bool :=
  bnd (bnd (Ei x0) fun q28=>if q28=true then bnd (Ds) fun q35=>if q35=true then some false else some true else some true:Option Bool) fun y24=>if y24=true then (bnd (bnd (Ds) fun q51=>if q51=true then some true else some false:Option Bool) fun y47=>some y47) else (bnd (Cj x0 512) fun q62=>if q62.2.n≠0 then (some false) else (bnd (DB x0 512) fun q77=>bnd (Es x0 q77.1) fun q90=>bnd (CL x0 q77.1 q90) fun q99=>bnd q62.1 fun o114=>bnd (CI o114) fun q118=>bnd (atI q99.1 0) fun a136=>if a136=1125899906842624 then (bnd (bnd (It (⟨q118.2.2.n⟩:Err) 3) fun q153=>if q153=true then if (q118.1.length:Int)=0 then (if q118.2.1=0 then (some true) else (some false)) else (some false) else some false:Option Bool) fun y149=>some y149) else (bnd (if q118.2.2.n=0 then (bnd (atI q99.1 0) fun a173=>if q118.2.1=a173 then (bnd (EG x0 q77.1 q90) fun q186=>bnd (Ex q118.1 q186) fun q195=>if q195=true then some true else some false) else (some false)) else (some false):Option Bool) fun y168=>some y168)))
theorem Hz {w:World} {A:Nat→Prop} (hA:∀ k,A k→k < w.heap.size) {vx0:Value} {x0:Tsk} (z1:Vb w A vx0 x0) {r:Bool} (hm:Dy x0=some r) :
    Fn Tryz.prog 5 [vx0] w fun v w'=>Ext w w'∧Vb w' (upA A w w') v r:=by
 obtain ⟨O,hB,r3⟩:=enter hA
 replace z1:=z1.mono r3
 obtain ⟨m6,rfl,v3,v4,v5,v6,rfl,h7,f0,g0,h0⟩:=z1
 obtain ⟨A8,c9,rfl⟩:=h7.form
 obtain ⟨t0,u0,rfl⟩:=f0.form
 obtain ⟨v0,w0,rfl⟩:=g0.form
 obtain ⟨y0,z0,rfl⟩:=h0.form
 refine AI Tryz.func5 rfl Tryz.ntmps5 rfl ?_
 unfold Dy at hm
 refine Al (Aj (DR 2 O rfl rfl fun a2 b2 c2 p0 i0=>?_))
 replace i0:Lc 2 b2 c2 a2 26 [(.slice A8 x0.vars.length c9),(.slice t0 x0.init.length u0),(.slice v0 x0.goal.length w0),(.slice y0 x0.ops.length z0)]:=i0
 refine At rfl rfl (o_z ?_)
 refine Al (Al ?_)
 obtain ⟨s3,e0,hm⟩:=bs hm
 refine AM (fun l' w'=>∃ (t3:Unit) (O':Lab),subs l' [(1,(.pointer (some ⟨a2,0,none⟩))),(18,(.bool s3))]∧Bs w A w' O'∧Lc 2 w' O' a2 26 [(.slice A8 x0.vars.length c9),(.slice t0 x0.init.length u0),(.slice v0 x0.goal.length w0),(.slice y0 x0.ops.length z0)]∧Vb w' (Fr 0 w' O') (.slice A8 x0.vars.length c9) x0.vars∧Vb w' (Fr 0 w' O') (.slice t0 x0.init.length u0) x0.init∧Vb w' (Fr 0 w' O') (.slice v0 x0.goal.length w0) x0.goal∧Vb w' (Fr 0 w' O') (.slice y0 x0.ops.length z0) x0.ops) ?_ ?_
 ·
  refine Aj (BB (hl:=rfl) (hc:=(i0.1).cellsAt) rfl rfl ?_)
  obtain ⟨k3,u3,e0⟩:=bs e0
  replace h7:=h7.st p0
  replace f0:=f0.st p0
  replace g0:=g0.st p0
  replace h0:=h0.st p0
  refine BU (O:=c2) (A:=All b2) (R:=fun w' F v=>Vb w' F v k3) (Lb (fun _ h=>h) (Vb.mono (F:=Fr 0 b2 c2) (Vb.ofAgg (cs:=[(.slice A8 x0.vars.length c9),(.slice t0 x0.init.length u0),(.slice v0 x0.goal.length w0),(.slice y0 x0.ops.length z0)]) (x:=x0) rfl ⟨_,_,_,_,rfl,h7,f0,g0,h0⟩) Fr.lt) u3) rfl rfl fun n6 w3 x3 j0 y3=>?_
  obtain rfl:=y3.bool
  cases k3
  case false =>
   replace e0:=iF e0
   refine Dc rfl rfl (Am rfl rfl (Ay rfl rfl rfl rfl (Ay rfl rfl rfl rfl (Bo rfl rfl rfl (o_z ?_)))))
   obtain rfl:=sm e0
   exact ⟨(),_,⟨rfl,rfl,trivial⟩,(hB.st p0).st j0,i0.st j0,h7.st j0,f0.st j0,g0.st j0,h0.st j0⟩
  replace e0:=iT e0
  refine Db rfl rfl (Am rfl rfl (Aw rfl rfl ?_))
  obtain ⟨l3,z3,e0⟩:=bs e0
  refine BU (O:=x3) (A:=All w3) (R:=fun w' F v=>Vb w' F v l3) (HL (fun _ h=>h)  z3) rfl rfl fun o6 p6 q6 q0 a4=>?_
  obtain rfl:=a4.bool
  cases l3
  case false =>
   replace e0:=iF e0
   refine Aw rfl rfl (Dc rfl rfl (Bl rfl rfl rfl (o_z ?_)))
   obtain rfl:=sm e0
   exact ⟨(),_,⟨rfl,rfl,trivial⟩,((hB.st p0).st j0).st q0,(i0.st j0).st q0,(h7.st j0).st q0,(f0.st j0).st q0,(g0.st j0).st q0,(h0.st j0).st q0⟩
  replace e0:=iT e0
  refine Aw rfl rfl (Db rfl rfl (Bl rfl rfl rfl (o_z ?_)))
  obtain rfl:=sm e0
  exact ⟨(),_,⟨rfl,rfl,trivial⟩,((hB.st p0).st j0).st q0,(i0.st j0).st q0,(h7.st j0).st q0,(f0.st j0).st q0,(g0.st j0).st q0,(h0.st j0).st q0⟩
 replace hB:=hB.st p0
 replace h7:=h7.st p0
 replace f0:=f0.st p0
 replace g0:=g0.st p0
 replace h0:=h0.st p0
 rintro r6 b4 ⟨t3,m3,d2,hB,i0,h7,f0,g0,h0⟩
 refine AO _ d2 ?_
 refine Cs rfl (fun e2=>?_) (fun e2=>?_)
 ·
  replace hm:=ip hm e2
  refine Al ?_
  obtain ⟨c4,k0,hm⟩:=bs hm
  refine AM (fun l' w'=>∃ (d4:Unit) (O':Lab),subs l' [(2,(.bool c4))]∧Bs w A w' O') ?_ ?_
  ·
   refine Aj ?_
   obtain ⟨n3,e4,k0⟩:=bs k0
   refine BU (O:=m3) (A:=All b4) (R:=fun w' F v=>Vb w' F v n3) (HL (fun _ h=>h)  e4) rfl rfl fun s6 t6 u6 o3 f4=>?_
   obtain rfl:=f4.bool
   cases n3
   case false =>
    replace k0:=iF k0
    refine At rfl rfl (o_z ?_)
    obtain rfl:=sm k0
    exact ⟨(),_,⟨rfl,trivial⟩,hB.st o3⟩
   replace k0:=iT k0
   refine At rfl rfl (o_z ?_)
   obtain rfl:=sm k0
   exact ⟨(),_,⟨rfl,trivial⟩,hB.st o3⟩
  rintro w6 x6 ⟨d4,y6,f2,hB⟩
  refine AO _ f2 ?_
  refine AL ?_
  obtain rfl:=sm hm
  exact ret1v rfl (AA rfl) ⟨hB.ext,vBool⟩
 replace hm:=im' hm e2
 refine AK (Al (Aj (BB (hl:=rfl) (hc:=(i0.1).cellsAt) rfl rfl ?_)))
 obtain ⟨z6,g4,hm⟩:=bs hm
 refine BV (O:=m3) (Gc (Vb.ofAgg (cs:=[(.slice A8 x0.vars.length c9),(.slice t0 x0.init.length u0),(.slice v0 x0.goal.length w0),(.slice y0 x0.ops.length z0)]) (x:=x0) rfl ⟨_,_,_,_,rfl,h7,f0,g0,h0⟩) (show inI64 (512) from by decide) 3 (by decide) g4) rfl rfl fun a7 b7 h4 n0 i4=>?_
 obtain ⟨c7,d7,rfl,j1,j4⟩:=i4
 obtain ⟨e7,rfl,k4⟩:=Obo.ptrq j1
 obtain ⟨rfl,f7⟩:=j4.err
 refine Am rfl rfl (Bn rfl rfl rfl (Bn rfl rfl rfl (At rfl rfl (At rfl rfl (o_z ?_)))))
 refine Al (Al (Aj (Am rfl rfl (ET rfl rfl (fun g2=>?_) fun g2=>?_))))
 ·
  replace hm:=ip hm g2
  refine o_z ?_
  refine Ah rfl (Al (Aj (At rfl rfl (o_z ?_))))
  refine AL ?_
  obtain rfl:=sm hm
  replace hB:=hB.st n0
  exact ret1v rfl (AA rfl) ⟨hB.ext,vBool⟩
 replace hm:=im hm g2
 refine o_z ?_
 refine Ae rfl (AK (Al (Aj ?_)))
 replace i0:=i0.st n0
 refine BB (hl:=rfl) (hc:=(i0.1).cellsAt) rfl rfl ?_
 obtain ⟨l4,m4,hm⟩:=bs hm
 replace h7:=h7.st n0
 replace f0:=f0.st n0
 replace g0:=g0.st n0
 replace h0:=h0.st n0
 refine Eg (O:=h4) (R:=fun w' F v=>T2 w' F v l4) (JW Fr.lt (Vb.ofAgg (cs:=[(.slice A8 x0.vars.length c9),(.slice t0 x0.init.length u0),(.slice v0 x0.goal.length w0),(.slice y0 x0.ops.length z0)]) (x:=x0) rfl ⟨_,_,_,_,rfl,h7,f0,g0,h0⟩) (show inI64 (512) from by decide) m4) rfl rfl fun g7 i7 n4 o0 o4=>?_
 obtain ⟨j7,k7,rfl,a1,p4⟩:=o4
 obtain ⟨l7,m7,rfl⟩:=a1.form
 obtain rfl:=p4.bool
 refine Am rfl rfl (Bn rfl rfl rfl (Bn rfl rfl rfl (At rfl rfl (At rfl rfl (o_z ?_)))))
 refine Al (Aj ?_)
 replace i0:=i0.st o0
 refine BB (hl:=rfl) (hc:=(i0.1).cellsAt) rfl rfl ?_
 refine Am rfl rfl ?_
 obtain ⟨q4,r4,hm⟩:=bs hm
 replace h7:=h7.st o0
 replace f0:=f0.st o0
 replace g0:=g0.st o0
 replace h0:=h0.st o0
 refine Eg (O:=n4) (R:=fun w' F v=>Vb w' F v q4) (Kz Fr.lt (Vb.ofAgg (cs:=[(.slice A8 x0.vars.length c9),(.slice t0 x0.init.length u0),(.slice v0 x0.goal.length w0),(.slice y0 x0.ops.length z0)]) (x:=x0) rfl ⟨_,_,_,_,rfl,h7,f0,g0,h0⟩) a1 r4) rfl rfl fun n7 o7 s4 l0 k1=>?_
 obtain ⟨p7,q7,rfl⟩:=k1.form
 refine At rfl rfl (o_z ?_)
 refine Al (Aj ?_)
 replace i0:=i0.st l0
 refine BB (hl:=rfl) (hc:=(i0.1).cellsAt) rfl rfl ?_
 refine Am rfl rfl (Am rfl rfl ?_)
 obtain ⟨t4,h2,hm⟩:=bs hm
 replace h7:=h7.st l0
 replace f0:=f0.st l0
 replace g0:=g0.st l0
 replace h0:=h0.st l0
 replace a1:=a1.st l0
 refine Eg (O:=s4) (R:=fun w' F v=>T2 w' F v t4) (Gd Fr.lt (Vb.ofAgg (cs:=[(.slice A8 x0.vars.length c9),(.slice t0 x0.init.length u0),(.slice v0 x0.goal.length w0),(.slice y0 x0.ops.length z0)]) (x:=x0) rfl ⟨_,_,_,_,rfl,h7,f0,g0,h0⟩) a1 k1 h2) rfl rfl fun u4 w4 i2 c0 j2=>?_
 obtain ⟨x4,y4,rfl,r0,k2⟩:=j2
 obtain ⟨z4,a5,rfl⟩:=r0.form
 obtain ⟨b5,c5,rfl⟩:=k2.form
 refine Am rfl rfl (Bn rfl rfl rfl (Bn rfl rfl rfl (At rfl rfl (At rfl rfl (o_z ?_)))))
 refine Al (Aj (Am rfl rfl ?_))
 obtain ⟨d5,l2,hm⟩:=bs hm
 replace j1:=((j1.st o0).st l0).st c0
 rw [l2] at j1
 obtain ⟨e5,m2⟩:=Ob.ptr j1
 obtain rfl:=LV m2
 obtain ⟨l1,n2,hm⟩:=bs hm
 refine BV (O:=i2) (Hy j1 n2) rfl rfl fun f5 o2 m1 d0 p2=>?_
 obtain ⟨g5,h5,i5,j5,rfl,m0,q2,r2⟩:=p2
 obtain ⟨k5,l5,rfl⟩:=m0.form
 obtain ⟨rfl,m5⟩:=q2.int
 obtain ⟨rfl,s2⟩:=r2.err
 refine Am rfl rfl (Bn rfl rfl rfl (Bn rfl rfl rfl (Bn rfl rfl rfl (At rfl rfl (At rfl rfl (At rfl rfl (o_z ?_)))))))
 refine Al (Al (Aj (Am rfl rfl ?_)))
 obtain ⟨n5,t2,hm⟩:=bs hm
 obtain ⟨u2,v2⟩:=AH t2
 replace r0:=r0.st d0
 obtain ⟨o5,p5,p3,n1,o1,p1,rfl,q5⟩:=r0.elem' v2
 refine Br (hA:=n1) (hj:=(Int.toNat_of_nonneg u2).symm) (hlt:=o1) rfl rfl rfl ?_
 refine AD (hc:=cat0 p1) rfl rfl ?_
 refine EP rfl rfl rfl (fun b1=>?_) fun b1=>?_
 ·
  replace hm:=ip hm b1
  refine o_z ?_
  refine Ah rfl (Al ?_)
  obtain ⟨w2,b0,hm⟩:=bs hm
  refine AM (fun l' w'=>∃ (x2:Unit) (O':Lab),subs l' [(2,(.bool w2))]∧Bs w A w' O') ?_ ?_
  ·
   refine Aj (Am rfl rfl ?_)
   obtain ⟨q1,y2,b0⟩:=bs b0
   refine BU (O:=m1) (A:=All o2) (R:=fun w' F v=>Vb w' F v q1) (Nu (fun _ h=>h) s2 (show inI64 (3) from by decide) y2) rfl rfl fun r5 s5 t5 s0 z2=>?_
   obtain rfl:=z2.bool
   cases q1
   case false =>
    replace b0:=iF b0
    refine Am rfl rfl (Ay rfl rfl rfl rfl (Ay rfl rfl rfl rfl (Ay rfl rfl rfl rfl (Bl rfl rfl rfl (Am rfl rfl (Ay rfl rfl rfl rfl (Ay rfl rfl rfl rfl (Bl rfl rfl rfl (At rfl rfl (o_z ?_))))))))))
    obtain rfl:=sm b0
    exact ⟨(),_,⟨rfl,trivial⟩,(((((hB.st n0).st o0).st l0).st c0).st d0).st s0⟩
   replace b0:=iT b0
   refine Am rfl rfl (Aw rfl rfl (Am rfl rfl (Aw rfl rfl (AQ rfl rfl ?_))))
   replace m0:=m0.st s0
   have a3:l1.1.length≤9223372036854775807:=Nat.le_trans m0.len.2.1 m0.len.2.2
   have u5:inI64 (l1.1.length:Int):=rngNat a3
   refine Aw rfl rfl (EP rfl rfl rfl (fun c1=>?_) fun c1=>?_)
   ·
    replace b0:=ip b0 c1
    refine Bo rfl rfl rfl (Am rfl rfl (Aw rfl rfl (Am rfl rfl (Aw rfl rfl (EP rfl rfl rfl (fun d1=>?_) fun d1=>?_)))))
    ·
     replace b0:=ip b0 d1
     refine Bo rfl rfl rfl (At rfl rfl (o_z ?_))
     obtain rfl:=sm b0
     exact ⟨(),_,⟨rfl,trivial⟩,(((((hB.st n0).st o0).st l0).st c0).st d0).st s0⟩
    replace b0:=im b0 d1
    refine Bo rfl rfl rfl (At rfl rfl (o_z ?_))
    obtain rfl:=sm b0
    exact ⟨(),_,⟨rfl,trivial⟩,(((((hB.st n0).st o0).st l0).st c0).st d0).st s0⟩
   replace b0:=im b0 c1
   refine Bo rfl rfl rfl (Am rfl rfl (Ay rfl rfl rfl rfl (Ay rfl rfl rfl rfl (Bl rfl rfl rfl (At rfl rfl (o_z ?_))))))
   obtain rfl:=sm b0
   exact ⟨(),_,⟨rfl,trivial⟩,(((((hB.st n0).st o0).st l0).st c0).st d0).st s0⟩
  replace hB:=((((hB.st n0).st o0).st l0).st c0).st d0
  rintro w5 x5 ⟨x2,y5,r1,hB⟩
  refine AO _ r1 ?_
  refine AL ?_
  obtain rfl:=sm hm
  exact ret1v rfl (AA rfl) ⟨hB.ext,vBool⟩
 replace hm:=im hm b1
 refine o_z ?_
 refine Ae rfl (AK (Al ?_))
 obtain ⟨b3,a0,hm⟩:=bs hm
 refine AM (fun l' w'=>∃ (c3:Unit) (O':Lab),subs l' [(2,(.bool b3))]∧Bs w A w' O') ?_ ?_
 ·
  refine Aj (Am rfl rfl (OM rfl rfl (fun e1=>?_) fun e1=>?_))
  ·
   replace a0:=ip a0 e1
   refine Am rfl rfl (Aw rfl rfl (Am rfl rfl (Aw rfl rfl (Am rfl rfl (Aw rfl rfl ?_)))))
   obtain ⟨z5,d3,a0⟩:=bs a0
   obtain ⟨e3,f3⟩:=AH d3
   obtain ⟨a6,b6,q3,s1,t1,u1,rfl,c6⟩:=r0.elem' f3
   refine Br (hA:=s1) (hj:=(Int.toNat_of_nonneg e3).symm) (hlt:=t1) rfl rfl rfl ?_
   refine Aw rfl rfl (AD (hc:=cat0 u1) rfl rfl ?_)
   refine Aw rfl rfl (EP rfl rfl rfl (fun f1=>?_) fun f1=>?_)
   ·
    replace a0:=ip a0 f1
    refine Bo rfl rfl rfl (Am rfl rfl (Aw rfl rfl (Am rfl rfl (Aw rfl rfl ?_))))
    replace i0:=(i0.st c0).st d0
    refine BB (hl:=rfl) (hc:=(i0.1).cellsAt) rfl rfl ?_
    refine Aw rfl rfl (Am rfl rfl (Aw rfl rfl (Am rfl rfl (Aw rfl rfl ?_))))
    obtain ⟨g3,h3,a0⟩:=bs a0
    replace h7:=(h7.st c0).st d0
    replace f0:=(f0.st c0).st d0
    replace g0:=(g0.st c0).st d0
    replace h0:=(h0.st c0).st d0
    replace a1:=(a1.st c0).st d0
    replace k1:=(k1.st c0).st d0
    refine Eg (O:=m1) (R:=fun w' F v=>Vb w' F v g3) (Lh Fr.lt (Vb.ofAgg (cs:=[(.slice A8 x0.vars.length c9),(.slice t0 x0.init.length u0),(.slice v0 x0.goal.length w0),(.slice y0 x0.ops.length z0)]) (x:=x0) rfl ⟨_,_,_,_,rfl,h7,f0,g0,h0⟩) a1 k1 h3) rfl rfl fun d6 g1 h1 i1 v1=>?_
    obtain ⟨e6,f6,rfl⟩:=v1.form
    refine Aw rfl rfl ?_
    obtain ⟨w1,i3,a0⟩:=bs a0
    replace m0:=m0.st i1
    refine BU (O:=h1) (A:=All g1) (R:=fun w' F v=>Vb w' F v w1) (IZ (fun _ h=>h) (Vb.mono (F:=Fr 0 g1 h1) m0 Fr.lt) (Vb.mono (F:=Fr 0 g1 h1) v1 Fr.lt) i3) rfl rfl fun g6 h6 i6 x1 j3=>?_
    obtain rfl:=j3.bool
    cases w1
    case false =>
     replace a0:=iF a0
     refine Bo rfl rfl rfl (At rfl rfl (o_z ?_))
     obtain rfl:=sm a0
     exact ⟨(),_,⟨rfl,trivial⟩,((((((hB.st n0).st o0).st l0).st c0).st d0).st i1).st x1⟩
    replace a0:=iT a0
    refine Bo rfl rfl rfl (At rfl rfl (o_z ?_))
    obtain rfl:=sm a0
    exact ⟨(),_,⟨rfl,trivial⟩,((((((hB.st n0).st o0).st l0).st c0).st d0).st i1).st x1⟩
   replace a0:=im a0 f1
   refine Bo rfl rfl rfl (Am rfl rfl (Ay rfl rfl rfl rfl (Ay rfl rfl rfl rfl (Ay rfl rfl rfl rfl (Ay rfl rfl rfl rfl (Ay rfl rfl rfl rfl (Ay rfl rfl rfl rfl (Bl rfl rfl rfl (At rfl rfl (o_z ?_))))))))))
   obtain rfl:=sm a0
   exact ⟨(),_,⟨rfl,trivial⟩,((((hB.st n0).st o0).st l0).st c0).st d0⟩
  replace a0:=im a0 e1
  refine Am rfl rfl (Ay rfl rfl rfl rfl (Ay rfl rfl rfl rfl (Ay rfl rfl rfl rfl (Ay rfl rfl rfl rfl (Ay rfl rfl rfl rfl (Bl rfl rfl rfl (Am rfl rfl (Ay rfl rfl rfl rfl (Ay rfl rfl rfl rfl (Ay rfl rfl rfl rfl (Ay rfl rfl rfl rfl (Ay rfl rfl rfl rfl (Ay rfl rfl rfl rfl (Bl rfl rfl rfl ?_))))))))))))))
  refine At rfl rfl (o_z ?_)
  obtain rfl:=sm a0
  exact ⟨(),_,⟨rfl,trivial⟩,((((hB.st n0).st o0).st l0).st c0).st d0⟩
 replace hB:=((((hB.st n0).st o0).st l0).st c0).st d0
 rintro j6 k6 ⟨c3,l6,y1,hB⟩
 refine AO _ y1 ?_
 refine AL ?_
 obtain rfl:=sm hm
 exact ret1v rfl (AA rfl) ⟨hB.ext,vBool⟩
end
section
open Go Go.RowKit
def Le {α:Type} (x y:Option α):Prop:=∀ r,x=some r→y=some r
theorem Le.rf {α:Type} {x:Option α}:Le x x:=fun _ h=>h
theorem Le.bnd {α β:Type} {x x':Option α} {f f':α→Option β} (h:Le x x') (hf:∀ a,Le (f a) (f' a)):Le (bnd x f) (bnd x' f'):=fun r hr=>by
  obtain ⟨a,ha,hb⟩:=bs hr
  rw [h a ha,Ar]
  exact hf a r hb
theorem Le.ite {α:Type} {p:Prop} [Decidable p] {x x' y y':Option α} (h:Le x x') (k:Le y y'):Le (if p then x else y) (if p then x' else y'):=by
  by_cases hp:p
  · rw [if_pos hp,if_pos hp];exact h
  · rw [if_neg hp,if_neg hp];exact k
theorem Le.fin {σ κ:Type} {y:Fin σ κ} {f f':σ→Option κ} (hf:∀ a,Le (f a) (f' a)):Le (fin y f) (fin y f'):=by
  cases y with
  | done s=>exact hf s
  | ret c=>exact Le.rf
theorem Le.rng {α σ ρ:Type} {f f':Nat→α→σ→Option (Ctl σ ρ)} (hf:∀ k a s,Le (f k a s) (f' k a s)):∀ {xs:List α} {k:Nat} {s:σ},Le (rng f xs k s) (rng f' xs k s)
  | [],_,_=>Le.rf
  | x :: xs,k,s=>fun r hr=>by
    simp only [Proofs.YtkbmbcblgdgjlaaGreat.rng] at hr ⊢
    cases hc:f k x s with
    | none=>rw [hc] at hr;cases hr
    | some c =>
      rw [hc] at hr
      rw [hf k x s c hc]
      cases c with
      | next s'=>exact Le.rng hf r hr
      | brk s'=>exact hr
      | ret q=>exact hr
theorem Le.rngN {σ ρ:Type} {f f':Nat→σ→Option (Ctl σ ρ)} {n:Nat} {s:σ} (hf:∀ k s,Le (f k s) (f' k s)):Le (rngN f n s) (rngN f' n s):=Le.rng fun _ k s=>hf k s
theorem Le.itr {σ ρ:Type} {f f':σ→Option (Ctl σ ρ)} (hf:∀ s,Le (f s) (f' s)):∀ (n:Nat) (s:σ),Le (itr f n s) (itr f' n s)
  | 0,_=>Le.rf
  | n + 1,s=>fun r hr=>by
    simp only [Proofs.YtkbmbcblgdgjlaaGreat.itr] at hr ⊢
    cases hc:f s with
    | none=>rw [hc] at hr;cases hr
    | some c =>
      rw [hc] at hr
      rw [hf s c hc]
      cases c with
      | next s'=>exact Le.itr hf n s' r hr
      | brk s'=>exact hr
      | ret q=>exact hr
def lopE {σ ρ:Type} (f:σ→Option (Ctl σ ρ)) (s:σ):Option (Fin σ ρ):=itr f 600 s
theorem Le.lop {σ ρ:Type} {f f':σ→Option (Ctl σ ρ)} {s:σ} (hf:∀ s,Le (f s) (f' s)):Le (lopE f s) (lop f' s):=fun r hr=>Gs.2 ⟨600,Le.itr hf 600 s r hr⟩
end
section
open Go Go.RowKit
def factB (vars:List Int) (x:Fct):Bool:=decide (0≤x.var) && (decide (0≤x.val) && (match vars[x.var.toNat]? with|some y=>decide (x.val < y)|none=>false))
theorem Ly {vars:List Int} {x:Fct} (h:factB vars x=true):FactOk vars x:=by
  unfold factB at h
  simp only [Bool.and_eq_true,decide_eq_true_eq] at h
  obtain ⟨h1,h2,h3⟩:=h
  cases hv:vars[x.var.toNat]? with
  | none=>rw [hv] at h3;cases h3
  | some y=>rw [hv] at h3;exact ⟨h1,h2,y,hv,by simpa using h3⟩
def ascB:List Fct→Bool
  | x :: y :: r=>decide (x.var < y.var) && ascB (y :: r)
  | _=>true
theorem Mh:∀ {f:List Fct},ascB f=true→∀ (i:Nat) x y,f[i]?=some x→f[i + 1]?=some y→x.var < y.var
  | [],_,i,x,y,h,_=>by simp at h
  | [_],_,i,x,y,_,h=>by simp at h
  | a :: b :: r,h,i,x,y,h1,h2=>by
    simp only [ascB,Bool.and_eq_true,decide_eq_true_eq] at h
    cases i with
    | zero=>simp at h1 h2;subst h1;subst h2;exact h.1
    | succ i=>exact Mh h.2 i x y (by simpa using h1) (by simpa using h2)
def factsB (vars:List Int) (f:List Fct):Bool:=f.all (factB vars) && ascB f
theorem Iy {vars:List Int} {f:List Fct} (h:factsB vars f=true):FactsOk vars f:=by
  unfold factsB at h
  rw [Bool.and_eq_true,List.all_eq_true] at h
  exact ⟨fun i x hx=>Ly (h.1 x (List.mem_of_getElem? hx)),Mh h.2⟩
def stateB:List Int→List Int→Bool
  | [],[]=>true
  | y :: vars,x :: s=>decide (0≤x) && (decide (x < y) && stateB vars s)
  | _,_=>false
theorem Iz:∀ {vars s:List Int},stateB vars s=true→StateOk vars s
  | [],[],_=>⟨rfl,fun i x y h=>by simp at h⟩
  | y :: vars,x :: s,h=>by
    simp only [stateB,Bool.and_eq_true,decide_eq_true_eq] at h
    obtain ⟨h1,h2⟩:=Iz h.2.2
    refine ⟨by simp [h1],fun i a b ha hb=>?_⟩
    cases i with
    | zero=>simp at ha hb;subst ha;subst hb;exact ⟨h.1,h.2.1⟩
    | succ i=>exact h2 i a b (by simpa using ha) (by simpa using hb)
  | [],_ :: _,h=>by simp [stateB] at h
  | _ :: _,[],h=>by simp [stateB] at h
def nameB (s:ByteArray):Bool:=decide (s.size≤256) && s.data.toList.all fun c=>decide (32≤c.toNat) && decide (c.toNat≤126)
theorem OA {s:ByteArray} (h:nameB s=true):NameOk s:=by
  unfold nameB at h
  simp only [Bool.and_eq_true,decide_eq_true_eq,List.all_eq_true] at h
  refine ⟨h.1,fun i hi=>h.2 _ ?_⟩
  show s.data[i]∈_
  simp
def opB (vars:List Int) (o:Opr):Bool:=decide (0≤o.cost) && (decide (o.cost≤1048576) && (decide (o.effs.length≤64) && (nameB o.name && (factsB vars o.pre && o.effs.all fun e=>factsB vars e.cond && factB vars ⟨e.var,e.val⟩))))
theorem QC {vars:List Int} {o:Opr} (h:opB vars o=true):OpOk vars o:=by
  unfold opB at h
  simp only [Bool.and_eq_true,decide_eq_true_eq,List.all_eq_true] at h
  obtain ⟨h1,h2,h3,h4,h5,h6⟩:=h
  exact ⟨h1,h2,h3,OA h4,Iy h5,fun i e he=>⟨Iy (h6 e (List.mem_of_getElem? he)).1,Ly (h6 e (List.mem_of_getElem? he)).2⟩⟩
def taskB (t:Tsk):Bool:=decide (t.vars.length≤64) && (decide (t.ops.length≤4096) && ((t.vars.all fun n=>decide (1≤n) && decide (n≤64)) && (stateB t.vars t.init && (factsB t.vars t.goal && t.ops.all (opB t.vars)))))
theorem OB {t:Tsk} (h:taskB t=true):TaskOk t:=by
  unfold taskB at h
  simp only [Bool.and_eq_true,decide_eq_true_eq,List.all_eq_true] at h
  obtain ⟨h1,h2,h3,h4,h5,h6⟩:=h
  exact ⟨h1,h2,fun i n hn=>h3 n (List.mem_of_getElem? hn),Iz h4,Iy h5,fun i o ho=>QC (h6 o (List.mem_of_getElem? ho))⟩
def Gz (f:List Fct) (s:List Int):Option Bool:=Dg f s
theorem HM (f:List Fct) (s:List Int):Le (Gz f s) (Dg f s):=Le.rf
def Dl (x:List Int):Option (List Int):=BM x
theorem EH (x:List Int):Le (Dl x) (BM x):=Le.rf
end
section
open Go Go.RowKit
set_option maxRecDepth 20000
attribute [local irreducible] bnd fin rng rngN chkI mkI appI atI quoI Bf BM BP
def Ec (x:List U64):Option (List U64):=BP x
theorem Fz (x:List U64):Le (Ec x) (BP x):=Le.rf
def Cn (x:List Fct):Option (List Fct):=Bf x
theorem EZ (x:List Fct):Le (Cn x) (Bf x):=Le.rf
def Ge (x:List (List Arc)) (y z:List Int):Option (List Int×List Int):=Dt x y z
theorem IA (x:List (List Arc)) (y z:List Int):Le (Ge x y z) (Dt x y z):=Le.rf
def Jc (x y:Err):Option Bool:=Eb x y
theorem Lz (x y:Err):Le (Jc x y) (Eb x y):=Le.rf
def HN (t:Tsk):Option (Option Gnr×Err):=if taskB t=true then some (some ⟨t⟩,⟨0⟩) else none
theorem Kc (t:Tsk):Le (HN t) (DN t):=fun r h=>by
  obtain ⟨h1,rfl⟩:=Fh h
  exact Nf (OB h1)
def Di (x:Option Gnr) (s:List Int):Option (List Int):=match x with
  | some g=>if stateB g.t.vars s=true then (if s.length≤1000000 then some (appl g.t s) else none) else none
  | none=>none
theorem Fq (x:Option Gnr) (s:List Int):Le (Di x s) (Cg x s):=fun r h=>by
  cases x with
  | none=>cases h
  | some g =>
    unfold Di at h
    dsimp only at h
    split at h
    · rename_i h1
      obtain ⟨h3,rfl⟩:=Fh h
      unfold Cg
      rw [if_pos h3]
      show some (appS g.t s)=_
      rw [Ha (Iz h1)]
    · cases h
noncomputable def HA (x0:List Int):Option ((Option Pkr)×Err) :=
  if 64 < (x0.length:Int) then (some (none,(⟨5⟩:Err))) else (bnd (rng (ρ:=(Option Pkr)×Err) (fun (k25:Nat) (a26:Int) (s23:Int×Pkr)=>bnd (if a26 < 1 then (some true) else (if 64 < a26 then (some true) else (some false)):Option Bool) fun y48=>if y48=true then (some (.ret (none,(⟨1⟩:Err)))) else (bnd (lopE (ρ:=Ctl (Int×Pkr) ((Option Pkr)×Err)) (fun (s61:Int)=>bnd (shlI 1 s61) fun n76=>if n76 < a26 then (bnd (chkI (s61 + 1)) fun n80=>some (.next n80)) else (some (.brk s61))) 0) fun res59=>fin res59 fun (s87:Int)=>bnd (bnd (chkI (s23.1 + s87)) fun n95=>if 64 < n95 then (bnd (chkI (s23.2.words + 1)) fun n109=>some (0,(⟨s23.2.fields,n109⟩:Pkr))) else (some (s23.1,s23.2)):Option (Int×Pkr)) fun y89=>bnd (chkI (y89.2.words - 1)) fun n133=>bnd (appI 32 y89.2.fields [(⟨n133,y89.1,s87,a26⟩:PFd)]) fun u142=>bnd (chkI (y89.1 + s87)) fun n155=>some (.next (n155,(⟨u142,y89.2.words⟩:Pkr))))) x0 0 (0,(⟨([]:List PFd),1⟩:Pkr))) fun res21=>fin res21 fun (s167:Int×Pkr)=>some ((some s167.2),(⟨0⟩:Err)))
theorem LP (x0:List Int):Le (HA x0) (Ep x0):=by
  unfold HA Ep
  repeat' (first|apply Le.ite|apply Le.bnd|apply Le.fin|apply Le.rng|apply Le.rngN|apply Le.lop|exact Le.rf|intro _)
noncomputable def Ed (x0:PFd):Option U64 :=
  bnd (shlU (1:U64) x0.width) fun n12=>bnd (shlU (n12 - (1:U64)) x0.bit) fun n14=>some n14
theorem FY (x0:PFd):Le (Ed x0) (Cv x0):=by
  unfold Ed Cv
  repeat' (first|apply Le.ite|apply Le.bnd|apply Le.fin|apply Le.rng|apply Le.rngN|apply Le.lop|exact Le.rf|intro _)
noncomputable def Fj (x0:PFd) (x1:List U64):Option Int :=
  bnd (atI x1 x0.word) fun a15=>bnd (Ed x0) fun q26=>bnd (shrU (a15 &&& q26) x0.bit) fun n33=>some n33.toInt
theorem IS (x0:PFd) (x1:List U64):Le (Fj x0 x1) (CX x0 x1):=by
  unfold Fj CX
  repeat' (first|apply FY|apply Le.ite|apply Le.bnd|apply Le.fin|apply Le.rng|apply Le.rngN|apply Le.lop|exact Le.rf|intro _)
noncomputable def EI (x0:Pkr) (x1:List Int):Option ((List U64)×Err) :=
  if (x1.length:Int)≠(x0.fields.length:Int) then (some (([]:List U64),(⟨2⟩:Err))) else (bnd (mkI 8 ((0:U64):U64) x0.words) fun u25=>bnd (rng (ρ:=(List U64)×Err) (fun (k50:Nat) (a51:PFd) (s48:(List U64))=>bnd (bnd (x1[k50]?) fun a87=>if a87 < 0 then (some true) else (bnd (x1[k50]?) fun a98=>if a51.size≤a98 then (some true) else (some false)):Option Bool) fun y83=>if y83=true then (some (.ret (([]:List U64),(⟨2⟩:Err)))) else (bnd (atI s48 a51.word) fun a114=>bnd (x1[k50]?) fun a125=>bnd (shlU (BitVec.ofInt 64 a125) a51.bit) fun n135=>bnd (atI s48 a51.word) fun a137=>some (.next (s48.set (a51.word:Int).toNat (a114 ||| n135))))) x0.fields 0 u25) fun res46=>fin res46 fun (s154:(List U64))=>some (s154,(⟨0⟩:Err)))
theorem HS (x0:Pkr) (x1:List Int):Le (EI x0 x1) (BF x0 x1):=by
  unfold EI BF
  repeat' (first|apply Le.ite|apply Le.bnd|apply Le.fin|apply Le.rng|apply Le.rngN|apply Le.lop|exact Le.rf|intro _)
noncomputable def Eq (x0:Pkr) (x1:List U64):Option ((List Int)×Err) :=
  if (x1.length:Int)≠x0.words then (some (([]:List Int),(⟨2⟩:Err))) else (bnd (mkI 8 (0:Int) (x0.fields.length:Int)) fun u25=>bnd (Ec x1) fun q38=>bnd (rng (ρ:=(List Int)×Err) (fun (k60:Nat) (a61:PFd) (s58:(List Int)×(List U64))=>bnd (Fj a61 x1) fun q97=>bnd (s58.1[k60]?) fun a105=>bnd ((s58.1.set k60 q97)[k60]?) fun a117=>if a61.size≤a117 then (some (.ret (([]:List Int),(⟨2⟩:Err)))) else (bnd (atI s58.2 a61.word) fun a128=>bnd (Ed a61) fun q139=>bnd (atI s58.2 a61.word) fun a146=>some (.next ((s58.1.set k60 q97),(s58.2.set (a61.word:Int).toNat (a128 &&& ~~~q139)))))) x0.fields 0 (u25,q38)) fun res56=>fin res56 fun (s163:(List Int)×(List U64))=>bnd (rng (ρ:=(List Int)×Err) (fun (k171:Nat) (a172:U64) (s169:Unit)=>bnd (s163.2[k171]?) fun a182=>if (a182.toNat:Int)≠((0:U64).toNat:Int) then (some (.ret (([]:List Int),(⟨2⟩:Err)))) else (some (.next ()))) q38 0 ()) fun res167=>fin res167 fun (s196:Unit)=>some (s163.1,(⟨0⟩:Err)))
theorem He (x0:Pkr) (x1:List U64):Le (Eq x0 x1) (Cu x0 x1):=by
  unfold Eq Cu
  repeat' (first|apply IS|apply FY|apply Fz|apply Le.ite|apply Le.bnd|apply Le.fin|apply Le.rng|apply Le.rngN|apply Le.lop|exact Le.rf|intro _)
noncomputable def EJ (x0:Pkr) (x1:List U64):Option Int :=
  bnd (rng (ρ:=Int) (fun (k13:Nat) (a14:U64) (s11:U64)=>bnd (shrU ((s11 ^^^ a14) * (13787848793156543929:U64)) 29) fun n31=>some (.next (((s11 ^^^ a14) * (13787848793156543929:U64)) ^^^ n31))) x1 0 ((BitVec.ofInt 64 (x1.length:Int)) + (11400714819323198485:U64))) fun res9=>fin res9 fun (s37:U64)=>bnd (shrU s37 2) fun n39=>some n39.toInt
theorem HT (x0:Pkr) (x1:List U64):Le (EJ x0 x1) (BS x0 x1):=by
  unfold EJ BS
  repeat' (first|apply Le.ite|apply Le.bnd|apply Le.fin|apply Le.rng|apply Le.rngN|apply Le.lop|exact Le.rf|intro _)
noncomputable def Dk (x0:List U64) (x1:List U64):Option Bool :=
  if (x0.length:Int)≠(x1.length:Int) then (some false) else (bnd (rng (ρ:=Bool) (fun (k18:Nat) (a19:U64) (s16:Unit)=>bnd (x1[k18]?) fun a36=>if (a19.toNat:Int)≠(a36.toNat:Int) then (some (.ret false)) else (some (.next ()))) x0 0 ()) fun res14=>fin res14 fun (s50:Unit)=>some true)
theorem FA (x0:List U64) (x1:List U64):Le (Dk x0 x1) (Bz x0 x1):=by
  unfold Dk Bz
  repeat' (first|apply Le.ite|apply Le.bnd|apply Le.fin|apply Le.rng|apply Le.rngN|apply Le.lop|exact Le.rf|intro _)
noncomputable def FM (x0:List Int):Option ((Option Reg)×Err) :=
  bnd (HA x0) fun q4=>if q4.2.n≠0 then (some (none,(⟨q4.2.n⟩:Err))) else (bnd q4.1 fun o22=>some ((some (⟨o22,([]:List REn),(⟨[]⟩:MapR 3 Int Int)⟩:Reg)),(⟨0⟩:Err)))
theorem JL (x0:List Int):Le (FM x0) (CY x0):=by
  unfold FM CY
  repeat' (first|apply LP|apply Le.ite|apply Le.bnd|apply Le.fin|apply Le.rng|apply Le.rngN|apply Le.lop|exact Le.rf|intro _)
noncomputable def DG (x0:Reg) (x1:List Int):Option ((List U64)×Int×Int×Err) :=
  bnd (EI x0.packer x1) fun q20=>if q20.2.n≠0 then (some (([]:List U64),0,(-1),(⟨2⟩:Err))) else (bnd (EJ x0.packer q20.1) fun q41=>bnd (rng (ρ:=(List U64)×Int×Int×Err) (fun (k66:Nat) (a67:Int) (s64:Unit)=>bnd (atI x0.entries a67) fun a100=>bnd (Dk a100.words q20.1) fun q118=>if q118=true then some (.ret (q20.1,q41,a67,(⟨0⟩:Err))) else some (.next ())) (mget ([]:List Int) x0.table.l q41) 0 ()) fun res62=>fin res62 fun (s139:Unit)=>some (q20.1,q41,(-1),(⟨0⟩:Err)))
theorem Gj (x0:Reg) (x1:List Int):Le (DG x0 x1) (Bw x0 x1):=by
  unfold DG Bw
  repeat' (first|apply HT|apply HS|apply FA|apply Le.ite|apply Le.bnd|apply Le.fin|apply Le.rng|apply Le.rngN|apply Le.lop|exact Le.rf|intro _)
noncomputable def Dm (x0:Reg) (x1:List Int):Option (Int×Bool×Err×Reg) :=
  bnd (DG x0 x1) fun q5=>if q5.2.2.2.n≠0 then (some (0,false,(⟨q5.2.2.2.n⟩:Err),x0)) else (if 0≤q5.2.2.1 then (some (q5.2.2.1,false,(⟨0⟩:Err),x0)) else (if 65536≤(x0.entries.length:Int) then (some (0,false,(⟨10⟩:Err),x0)) else (bnd (appI 48 x0.entries [(⟨q5.1,(⟨(-1),(-1),0⟩:RLk)⟩:REn)]) fun u53=>bnd (appI 8 (mget ([]:List Int) x0.table.l q5.2.1) ([(x0.entries.length:Int)]:List Int)) fun u82=>some ((x0.entries.length:Int),true,(⟨0⟩:Err),(⟨x0.packer,u53,(⟨mput x0.table.l q5.2.1 u82⟩:MapR 3 Int Int)⟩:Reg)))))
theorem GA (x0:Reg) (x1:List Int):Le (Dm x0 x1) (Bi x0 x1):=by
  unfold Dm Bi
  repeat' (first|apply Gj|apply Le.ite|apply Le.bnd|apply Le.fin|apply Le.rng|apply Le.rngN|apply Le.lop|exact Le.rf|intro _)
noncomputable def CJ (x0:Reg):Option Int :=
  some (x0.entries.length:Int)
theorem DH (x0:Reg):Le (CJ x0) (Be x0):=by
  unfold CJ Be
  repeat' (first|apply Le.ite|apply Le.bnd|apply Le.fin|apply Le.rng|apply Le.rngN|apply Le.lop|exact Le.rf|intro _)
noncomputable def DL (x0:Reg) (x1:Int):Option Bool :=
  bnd (if 0≤x1 then (if x1 < (x0.entries.length:Int) then (some true) else (some false)) else (some false):Option Bool) fun y3=>some y3
theorem GB (x0:Reg) (x1:Int):Le (DL x0 x1) (Cc x0 x1):=by
  unfold DL Cc
  repeat' (first|apply Le.ite|apply Le.bnd|apply Le.fin|apply Le.rng|apply Le.rngN|apply Le.lop|exact Le.rf|intro _)
noncomputable def Dz (x0:Reg) (x1:Int):Option ((List Int)×Err) :=
  bnd (DL x0 x1) fun q3=>if q3=true then bnd (atI x0.entries x1) fun a27=>bnd (Eq x0.packer a27.words) fun q45=>some (q45.1,(⟨q45.2.n⟩:Err)) else some (([]:List Int),(⟨1⟩:Err))
theorem Ga (x0:Reg) (x1:Int):Le (Dz x0 x1) (BD x0 x1):=by
  unfold Dz BD
  repeat' (first|apply He|apply GB|apply Le.ite|apply Le.bnd|apply Le.fin|apply Le.rng|apply Le.rngN|apply Le.lop|exact Le.rf|intro _)
noncomputable def Dj (x0:Option Gnr) (x1:List Int):Option (List Suc) :=
  bnd (Di x0 x1) fun q7=>bnd (rng (ρ:=(List Suc)) (fun (k23:Nat) (a24:Int) (s21:(List Suc))=>bnd (Dl x1) fun q46=>bnd (x0) fun o56=>bnd (atI o56.t.ops a24) fun a88=>bnd (rng (ρ:=Ctl (List Suc) (List Suc)) (fun (k115:Nat) (a116:Eff) (s113:(List Int))=>bnd (Gz a116.cond x1) fun q150=>if q150=true then bnd (atI s113 a116.var) fun a157=>some (.next (s113.set (a116.var:Int).toNat a116.val)) else some (.next s113)) a88.effs 0 q46) fun res111=>fin res111 fun (s175:(List Int))=>bnd (appI 32 s21 [(⟨a24,s175⟩:Suc)]) fun u179=>some (.next u179)) q7 0 ([]:List Suc)) fun res19=>fin res19 fun (s195:(List Suc))=>some s195
theorem Fs (x0:Option Gnr) (x1:List Int):Le (Dj x0 x1) (Bk x0 x1):=by
  unfold Dj Bk
  repeat' (first|apply EH|apply Fq|apply HM|apply Le.ite|apply Le.bnd|apply Le.fin|apply Le.rng|apply Le.rngN|apply Le.lop|exact Le.rf|intro _)
noncomputable def GC  : Option (Option Que) :=
  some (some (⟨([]:List QEn),0⟩:Que))
theorem KA  : Le (GC ) (DF ):=by
  unfold GC DF
  repeat' (first|apply Le.ite|apply Le.bnd|apply Le.fin|apply Le.rng|apply Le.rngN|apply Le.lop|exact Le.rf|intro _)
noncomputable def DV (x0:QEn) (x1:QEn):Option Bool :=
  if x0.key≠x1.key then (bnd (if x0.key < x1.key then (some true) else (some false):Option Bool) fun y24=>some y24) else (if x0.tie≠x1.tie then (bnd (if x0.tie < x1.tie then (some true) else (some false):Option Bool) fun y34=>some y34) else (bnd (if x0.number < x1.number then (some true) else (some false):Option Bool) fun y43=>some y43))
theorem GD (x0:QEn) (x1:QEn):Le (DV x0 x1) (BX x0 x1):=by
  unfold DV BX
  repeat' (first|apply Le.ite|apply Le.bnd|apply Le.fin|apply Le.rng|apply Le.rngN|apply Le.lop|exact Le.rf|intro _)
noncomputable def EK (x0:Que):Option Int :=
  some (x0.heap.length:Int)
theorem HU (x0:Que):Le (EK x0) (CD x0):=by
  unfold EK CD
  repeat' (first|apply Le.ite|apply Le.bnd|apply Le.fin|apply Le.rng|apply Le.rngN|apply Le.lop|exact Le.rf|intro _)
noncomputable def EA (x0:Que):Option (Int×Int×Int×Err) :=
  if (x0.heap.length:Int)=0 then (some (0,0,0,(⟨3⟩:Err))) else (bnd (atI x0.heap 0) fun a20=>some (a20.key,a20.tie,a20.item,(⟨0⟩:Err)))
theorem HB (x0:Que):Le (EA x0) (CR x0):=by
  unfold EA CR
  repeat' (first|apply Le.ite|apply Le.bnd|apply Le.fin|apply Le.rng|apply Le.rngN|apply Le.lop|exact Le.rf|intro _)
noncomputable def Fa (x0:Que) (x1:Int):Option Que :=
  bnd (lopE (ρ:=Que) (fun (s5:Int×Que)=>if 0 < s5.1 then (bnd (chkI (s5.1 - 1)) fun n23=>bnd (quoI n23 2) fun n26=>bnd (atI s5.2.heap s5.1) fun a39=>bnd (atI s5.2.heap n26) fun a54=>bnd (DV a39 a54) fun q69=>if q69=true then bnd (atI s5.2.heap n26) fun a81=>bnd (atI s5.2.heap s5.1) fun a96=>bnd (atI s5.2.heap s5.1) fun a111=>bnd (atI (s5.2.heap.set (s5.1:Int).toNat a81) n26) fun a128=>some (.next (n26,(⟨((s5.2.heap.set (s5.1:Int).toNat a81).set (n26:Int).toNat a96),s5.2.next⟩:Que))) else some (.ret s5.2)) else (some (.brk (s5.1,s5.2)))) (x1,x0)) fun res3=>fin res3 fun (s154:Int×Que)=>some s154.2
theorem IB (x0:Que) (x1:Int):Le (Fa x0 x1) (CK x0 x1):=by
  unfold Fa CK
  repeat' (first|apply GD|apply Le.ite|apply Le.bnd|apply Le.fin|apply Le.rng|apply Le.rngN|apply Le.lop|exact Le.rf|intro _)
noncomputable def EB (x0:Que) (x1:Int):Option Que :=
  bnd (lopE (ρ:=Que) (fun (s5:Int×Que)=>bnd (chkI (2 * s5.1)) fun n22=>bnd (chkI (n22 + 1)) fun n25=>if (s5.2.heap.length:Int)≤n25 then (some (.ret s5.2)) else (bnd (bnd (bnd (chkI (n25 + 1)) fun n55=>if n55 < (s5.2.heap.length:Int) then (bnd (chkI (n25 + 1)) fun n61=>bnd (atI s5.2.heap n61) fun a64=>bnd (atI s5.2.heap n25) fun a79=>bnd (DV a64 a79) fun q94=>if q94=true then some true else some false) else (some false):Option Bool) fun y51=>if y51=true then (bnd (chkI (n25 + 1)) fun n121=>some n121) else (some n25):Option Int) fun y46=>bnd (atI s5.2.heap y46) fun a138=>bnd (atI s5.2.heap s5.1) fun a153=>bnd (DV a138 a153) fun q168=>if q168=true then bnd (atI s5.2.heap y46) fun a180=>bnd (atI s5.2.heap s5.1) fun a195=>bnd (atI s5.2.heap s5.1) fun a210=>bnd (atI (s5.2.heap.set (s5.1:Int).toNat a180) y46) fun a227=>some (.next (y46,(⟨((s5.2.heap.set (s5.1:Int).toNat a180).set (y46:Int).toNat a195),s5.2.next⟩:Que))) else some (.ret s5.2))) (x1,x0)) fun res3=>fin res3 fun (_:Int×Que)=>none
theorem HC (x0:Que) (x1:Int):Le (EB x0 x1) (Cx x0 x1):=by
  unfold EB Cx
  repeat' (first|apply GD|apply Le.ite|apply Le.bnd|apply Le.fin|apply Le.rng|apply Le.rngN|apply Le.lop|exact Le.rf|intro _)
noncomputable def DJ (x0:Que) (x1:Int) (x2:Int) (x3:Int):Option (Err×Que) :=
  if 65536≤(x0.heap.length:Int) then (some ((⟨10⟩:Err),x0)) else (bnd (appI 32 x0.heap [(⟨x1,x2,x3,x0.next⟩:QEn)]) fun u29=>bnd (chkI (x0.next + 1)) fun n42=>bnd (chkI ((u29.length:Int) - 1)) fun n49=>bnd (Fa (⟨u29,n42⟩:Que) n49) fun q57=>some ((⟨0⟩:Err),q57))
theorem HD (x0:Que) (x1:Int) (x2:Int) (x3:Int):Le (DJ x0 x1 x2 x3) (BI x0 x1 x2 x3):=by
  unfold DJ BI
  repeat' (first|apply IB|apply Le.ite|apply Le.bnd|apply Le.fin|apply Le.rng|apply Le.rngN|apply Le.lop|exact Le.rf|intro _)
noncomputable def EL (x0:Que):Option (Int×Int×Int×Err×Que) :=
  bnd (EA x0) fun q2=>if q2.2.2.2.n≠0 then (some (0,0,0,(⟨q2.2.2.2.n⟩:Err),x0)) else (bnd (chkI ((x0.heap.length:Int) - 1)) fun n35=>bnd (atI x0.heap n35) fun a38=>bnd (atI x0.heap 0) fun a53=>bnd (cutI (x0.heap.set (0:Int).toNat a38) 0 n35) fun u70=>bnd (EB (⟨u70,x0.next⟩:Que) 0) fun q82=>some (q2.1,q2.2.1,q2.2.2.1,(⟨0⟩:Err),q82))
theorem HV (x0:Que):Le (EL x0) (Co x0):=by
  unfold EL Co
  repeat' (first|apply HB|apply HC|apply Le.ite|apply Le.bnd|apply Le.fin|apply Le.rng|apply Le.rngN|apply Le.lop|exact Le.rf|intro _)
noncomputable def Fk (x0:Tsk):Option Tsk :=
  bnd (Dl x0.vars) fun q29=>bnd (Dl x0.init) fun q31=>bnd (Cn x0.goal) fun q33=>bnd (some (q29,q31,q33):Option ((List Int)×(List Int)×(List Fct))) fun y35=>bnd (rng (ρ:=Tsk) (fun (k156:Nat) (a157:Opr) (s154:(List Opr))=>bnd (Cn a157.pre) fun q195=>bnd (rng (ρ:=Ctl (List Opr) Tsk) (fun (k213:Nat) (a214:Eff) (s211:(List Eff))=>bnd (Cn a214.cond) fun q248=>bnd (appI 40 s211 [(⟨q248,a214.var,a214.val⟩:Eff)]) fun u262=>some (.next u262)) a157.effs 0 ([]:List Eff)) fun res209=>fin res209 fun (s278:(List Eff))=>bnd (appI 72 s154 [(⟨a157.name,a157.cost,q195,s278⟩:Opr)]) fun u286=>some (.next u286)) x0.ops 0 ([]:List Opr)) fun res152=>fin res152 fun (s304:(List Opr))=>some (⟨y35.1,y35.2.1,y35.2.2,s304⟩:Tsk)
theorem IT (x0:Tsk):Le (Fk x0) (CE x0):=by
  unfold Fk CE
  repeat' (first|apply EZ|apply EH|apply Le.ite|apply Le.bnd|apply Le.fin|apply Le.rng|apply Le.rngN|apply Le.lop|exact Le.rf|intro _)
noncomputable def DW (x0:List (List Arc)) (x1:List Int):Option ((List Int)×(List Int)) :=
  bnd (mkI 8 (0:Int) (x0.length:Int)) fun u7=>bnd (mkI 8 (0:Int) (x0.length:Int)) fun u9=>bnd (some (u7,u9):Option ((List Int)×(List Int))) fun y11=>bnd (rngN (ρ:=(List Int)×(List Int)) (fun (k77:Nat) (s75:(List Int)×(List Int))=>bnd (s75.1[k77]?) fun a104=>bnd (s75.2[k77]?) fun a116=>some (.next ((s75.1.set k77 1125899906842624),(s75.2.set k77 1125899906842624)))) y11.1.length (y11.1,y11.2)) fun res73=>fin res73 fun (s132:(List Int)×(List Int))=>bnd (GC) fun q134=>bnd q134 fun o144=>bnd (rng (ρ:=(List Int)×(List Int)) (fun (k151:Nat) (a152:Int) (s149:(List Int)×(List Int)×Que)=>bnd (atI s149.1 a152) fun a180=>bnd (atI s149.2.1 a152) fun a194=>bnd (DJ s149.2.2 0 0 a152) fun q208=>some (.next ((s149.1.set (a152:Int).toNat 0),(s149.2.1.set (a152:Int).toNat 0),q208.2))) x1 0 (s132.1,s132.2,o144)) fun res147=>fin res147 fun (s222:(List Int)×(List Int)×Que)=>bnd (lopE (ρ:=(List Int)×(List Int)) (fun (s226:(List Int)×(List Int)×Que)=>bnd (EK s226.2.2) fun q249=>if 0 < q249 then (bnd (EL s226.2.2) fun q260=>if q260.2.2.2.1.n≠0 then (some (.brk (s226.1,s226.2.1,q260.2.2.2.2))) else (bnd (bnd (atI s226.1 q260.2.2.1) fun a285=>if q260.1≠a285 then (some true) else (bnd (atI s226.2.1 q260.2.2.1) fun a298=>if q260.2.1≠a298 then (some true) else (some false)):Option Bool) fun y281=>if y281=true then (some (.next (s226.1,s226.2.1,q260.2.2.2.2))) else (bnd (atI x0 q260.2.2.1) fun a316=>bnd (rng (ρ:=Ctl ((List Int)×(List Int)×Que) ((List Int)×(List Int))) (fun (k337:Nat) (a338:Arc) (s335:(List Int)×(List Int)×Que)=>bnd (chkI (q260.1 + a338.weight)) fun n375=>bnd (chkI (q260.2.1 + 1)) fun n378=>bnd (bnd (atI s335.1 a338.dst) fun a385=>if a385 < n375 then (some true) else (bnd (atI s335.1 a338.dst) fun a398=>if n375=a398 then (bnd (atI s335.2.1 a338.dst) fun a411=>if a411≤n378 then (some true) else (some false)) else (some false)):Option Bool) fun y381=>if y381=true then (some (.next (s335.1,s335.2.1,s335.2.2))) else (bnd (atI s335.1 a338.dst) fun a429=>bnd (atI s335.2.1 a338.dst) fun a443=>bnd (DJ s335.2.2 n375 n378 a338.dst) fun q457=>if q457.1.n≠0 then (bnd (Ge x0 (s335.1.set (a338.dst:Int).toNat n375) (s335.2.1.set (a338.dst:Int).toNat n378)) fun q472=>some (.ret (.ret (q472.1,q472.2)))) else (some (.next ((s335.1.set (a338.dst:Int).toNat n375),(s335.2.1.set (a338.dst:Int).toNat n378),q457.2))))) a316 0 (s226.1,s226.2.1,q260.2.2.2.2)) fun res333=>fin res333 fun (s491:(List Int)×(List Int)×Que)=>some (.next (s491.1,s491.2.1,s491.2.2))))) else (some (.brk (s226.1,s226.2.1,s226.2.2)))) (s222.1,s222.2.1,s222.2.2)) fun res224=>fin res224 fun (s497:(List Int)×(List Int)×Que)=>some (s497.1,s497.2.1)
theorem HW (x0:List (List Arc)) (x1:List Int):Le (DW x0 x1) (BT x0 x1):=by
  unfold DW BT
  repeat' (first|apply IA|apply KA|apply HU|apply HV|apply HD|apply Le.ite|apply Le.bnd|apply Le.fin|apply Le.rng|apply Le.rngN|apply Le.lop|exact Le.rf|intro _)
noncomputable def DM (x0:Spa):Option Spa :=
  bnd (CJ x0.states) fun q45=>bnd (mkI 24 ([]:List Arc) q45) fun u55=>bnd (mkI 24 ([]:List Arc) q45) fun u57=>bnd (some (u55,u57):Option ((List (List Arc))×(List (List Arc)))) fun y59=>bnd (rng (ρ:=Spa) (fun (k179:Nat) (a180:Edj) (s177:(List (List Arc))×(List (List Arc)))=>bnd (atI x0.t.ops a180.label) fun a258=>bnd (atI s177.1 a180.src) fun a279=>bnd (appI 24 a279 [(⟨a180.src,a180.dst,a258.cost⟩:Arc)]) fun u304=>bnd (atI s177.1 a180.src) fun a315=>bnd (atI s177.2 a180.dst) fun a330=>bnd (appI 24 a330 [(⟨a180.dst,a180.src,a258.cost⟩:Arc)]) fun u355=>bnd (atI s177.2 a180.dst) fun a366=>some (.next ((s177.1.set (a180.src:Int).toNat u304),(s177.2.set (a180.dst:Int).toNat u355)))) x0.edges 0 (y59.1,y59.2)) fun res175=>fin res175 fun (s390:(List (List Arc))×(List (List Arc)))=>bnd (rng (ρ:=Spa) (fun (k446:Nat) (a447:Bool) (s444:(List Int))=>if a447=true then (bnd (appI 8 s444 [(k446:Int)]) fun u469=>some (.next u469)) else (some (.next s444))) x0.goals 0 ([]:List Int)) fun res442=>fin res442 fun (s485:(List Int))=>bnd (DW s390.1 ([0]:List Int)) fun q497=>bnd (DW s390.2 s485) fun q561=>some (⟨(⟨x0.t.vars,x0.t.init,x0.t.goal,x0.t.ops⟩:Tsk),x0.states,x0.edges,x0.goals,q497.1,q561.1,q561.2⟩:Spa)
theorem GE (x0:Spa):Le (DM x0) (BN x0):=by
  unfold DM BN
  repeat' (first|apply HW|apply DH|apply Le.ite|apply Le.bnd|apply Le.fin|apply Le.rng|apply Le.rngN|apply Le.lop|exact Le.rf|intro _)
noncomputable def Fb (x0:Tsk) (x1:Int):Option ((Option Spa)×Err) :=
  bnd (HN x0) fun q25=>if q25.2.n≠0 then (some (none,(⟨q25.2.n⟩:Err))) else (bnd (FM x0.vars) fun q40=>if q40.2.n≠0 then (some (none,(⟨q40.2.n⟩:Err))) else (if (max 0 (min x1 65536)) < 1 then (some (none,(⟨10⟩:Err))) else (bnd q40.1 fun o54=>bnd (Dm o54 x0.init) fun q57=>if q57.2.2.1.n≠0 then (some (none,(⟨q57.2.2.1.n⟩:Err))) else (bnd (Fk x0) fun q74=>bnd (lopE (ρ:=(Option Spa)×Err) (fun (s105:Int×(List Edj)×(List Bool)×Reg)=>bnd (CJ s105.2.2.2) fun q130=>if s105.1 < q130 then (bnd (Dz s105.2.2.2 s105.1) fun q141=>if q141.2.n≠0 then (some (.ret (none,(⟨q141.2.n⟩:Err)))) else (bnd (bnd (Gz x0.goal q141.1) fun q163=>if q163=true then bnd (appI 1 s105.2.2.1 [true]) fun u195=>some u195 else bnd (appI 1 s105.2.2.1 [false]) fun u176=>some u176:Option (List Bool)) fun y157=>bnd (Dj q25.1 q141.1) fun q212=>bnd (rng (ρ:=Ctl (Int×(List Edj)×(List Bool)×Reg) ((Option Spa)×Err)) (fun (k227:Nat) (a228:Suc) (s225:(List Edj)×Reg)=>bnd (Dm s225.2 a228.state) fun q263=>bnd (bnd (Jc (⟨q263.2.2.1.n⟩:Err) (⟨10⟩:Err)) fun q283=>if q283=true then some true else if q263.2.1=true then (if (max 0 (min x1 65536))≤q263.1 then (some true) else (some false)) else (some false):Option Bool) fun y279=>if y279=true then (some (.ret (.ret (none,(⟨10⟩:Err))))) else (if q263.2.2.1.n≠0 then (some (.ret (.ret (none,(⟨q263.2.2.1.n⟩:Err))))) else (bnd (appI 24 s225.1 [(⟨s105.1,a228.op,q263.1⟩:Edj)]) fun u304=>some (.next (u304,q263.2.2.2))))) q212 0 (s105.2.1,s105.2.2.2)) fun res223=>fin res223 fun (s321:(List Edj)×Reg)=>bnd (chkI (s105.1 + 1)) fun n323=>some (.next (n323,s321.1,y157,s321.2)))) else (some (.brk (s105.1,s105.2.1,s105.2.2.1,s105.2.2.2)))) (0,([]:List Edj),([]:List Bool),q57.2.2.2)) fun res103=>fin res103 fun (s330:Int×(List Edj)×(List Bool)×Reg)=>bnd (DM (⟨(⟨q74.vars,q74.init,q74.goal,q74.ops⟩:Tsk),s330.2.2.2,s330.2.1,s330.2.2.1,([]:List Int),([]:List Int),([]:List Int)⟩:Spa)) fun q341=>some ((some q341),(⟨0⟩:Err))))))
theorem IC (x0:Tsk) (x1:Int):Le (Fb x0 x1) (Cj x0 x1):=by
  unfold Fb Cj
  repeat' (first|apply Lz|apply GE|apply IT|apply JL|apply GA|apply DH|apply Ga|apply Fs|apply Kc|apply HM|apply Le.ite|apply Le.bnd|apply Le.fin|apply Le.rng|apply Le.rngN|apply Le.lop|exact Le.rf|intro _)
noncomputable def EC (x0:Spa):Option Int :=
  bnd (CJ x0.states) fun q45=>some q45
theorem HE (x0:Spa):Le (EC x0) (Dn x0):=by
  unfold EC Dn
  repeat' (first|apply DH|apply Le.ite|apply Le.bnd|apply Le.fin|apply Le.rng|apply Le.rngN|apply Le.lop|exact Le.rf|intro _)
noncomputable def HO  : Option Bool :=
  bnd (Fb (⟨([2]:List Int),([0]:List Int),([]:List Fct),[(⟨(⟨#[]⟩:ByteArray),0,([]:List Fct),[(⟨([]:List Fct),0,1⟩:Eff)]⟩:Opr)]⟩:Tsk) 5) fun q33=>bnd (if q33.2.n=0 then (if q33.1.isNone=false then (bnd q33.1 fun o53=>bnd (EC o53) fun q57=>if q57=2 then (some true) else (some false)) else (some false)) else (some false):Option Bool) fun y47=>some y47
theorem Kd  : Le (HO ) (Ds ):=by
  unfold HO Ds
  repeat' (first|apply IC|apply HE|apply Le.ite|apply Le.bnd|apply Le.fin|apply Le.rng|apply Le.rngN|apply Le.lop|exact Le.rf|intro _)
set_option maxRecDepth 100000 in
theorem awake25:Ds=some true:=Kd true (by kernel_rfl)
end
section
set_option linter.unusedVariables false
set_option linter.unusedSimpArgs false
open Go Go.RowKit
theorem Px {t:Tsk} (h:SmallOk t):Ei t=some true:=by unfold Ei;rw [Ch h]
theorem Py {t:Tsk} (h:¬ SmallOk t):Ei t=some false:=by unfold Ei;rw [Bj h]
theorem lim512:512≤limE 512:=by unfold limE;omega
theorem Ny (a:List Int):Ex a a=some true:=by unfold Ex;rw [Ch rfl]
end
section
set_option linter.unusedVariables false
set_option linter.unusedSimpArgs false
open Go Go.RowKit
theorem Mi (a b:Int):∃ c,Du a b=some c∧(c < 0↔a < b)∧(c=0↔a=b):=by
  unfold Du DU
  by_cases h:a < b
  · exact ⟨-1,by simp [bnd,h],by simp [h],by simp;omega⟩
  · by_cases h2:b < a
    · exact ⟨1,by simp [bnd,h,h2],by simp;omega,by simp;omega⟩
    · exact ⟨0,by simp [bnd,h,h2],by simp;omega,by simp;omega⟩
theorem Pz {m:Nat} (h:m≤1000000000):∃ v:U64,shrU (BitVec.ofInt 64 (m:Int)) 1=some v∧v.toInt=((m / 2:Nat):Int):=by
  refine ⟨BitVec.ofInt 64 (m:Int) >>> 1,rfl,?_⟩
  have e:BitVec.ofInt 64 (m:Int)=BitVec.ofNat 64 m:=by simp
  have e2:(BitVec.ofNat 64 m >>> 1).toNat=m / 2:=by
    rw [BitVec.toNat_ushiftRight,BitVec.toNat_ofNat,Nat.mod_eq_of_lt (by omega),Nat.shiftRight_eq_div_pow]
  rw [e,BitVec.toInt_eq_toNat_of_lt (by rw [e2];omega),e2]
theorem MO {es:List Edj} (hl:es.length≤100000) (hsrt:∀ (i j:Nat) a b,i < j→es[i]?=some a→es[j]?=some b→a.src≤b.src) (x:Int) :
    ∃ (f:Nat) (b:Bool),AN es x=some ((f:Int),b)∧f≤es.length∧(∀ (i:Nat) a,i < f→es[i]?=some a→a.src < x)∧∀ (i:Nat) a,f≤i→es[i]?=some a→x≤a.src:=by
  unfold AN
  have key:=Qn (ρ:=Int×Bool) (f:=fun (s10:Int×Int)=>if s10.1 < s10.2 then (bnd (chkI (s10.1 + s10.2)) fun n28=>bnd (shrU (BitVec.ofInt 64 n28) 1) fun n31=>bnd (atI es n31.toInt) fun a33=>bnd (Cd a33 x) fun q47=>if q47 < 0 then (bnd (chkI (n31.toInt + 1)) fun n56=>some (.next (n56,s10.2))) else (some (.next (s10.1,n31.toInt)))) else (some (.brk (s10.1,s10.2))))
    (fun s=>∃ i j:Nat,s=((i:Int),(j:Int))∧i≤j∧j≤es.length∧(∀ (k:Nat) a,k < i→es[k]?=some a→a.src < x)∧∀ (k:Nat) a,j≤k→es[k]?=some a→x≤a.src)
    (fun s=>∃ i:Nat,s=((i:Int),(i:Int))∧i≤es.length∧(∀ (k:Nat) a,k < i→es[k]?=some a→a.src < x)∧∀ (k:Nat) a,i≤k→es[k]?=some a→x≤a.src)
    (fun s=>(s.2 - s.1).toNat) (fun s ⟨i,j,hs,h1,h2,h3,h4⟩=>by
      subst hs
      dsimp only
      by_cases hij:i < j
      · obtain ⟨v,v1,v2⟩:=Pz (m:=i + j) (by omega)
        obtain ⟨a,ha⟩:=AE (l:=es) (k:=(i + j) / 2) (by omega)
        obtain ⟨c,c1,c2,_⟩:=Mi a.src x
        rw [if_pos (by omega),Cq (by unfold inI64;omega),Ar,show (i:Int) + (j:Int)=((i + j:Nat):Int) from by omega,v1,Ar,v2,Cm,ha,Ar]
        unfold Cd
        rw [c1,Ar,Ar]
        by_cases hc:c < 0
        · rw [if_pos hc,Cq (by unfold inI64;omega),Ar]
          refine .inl ⟨_,rfl,⟨(i + j) / 2 + 1,j,by simp,by omega,h2,fun k b hk hb=>?_,h4⟩,by dsimp only;omega⟩
          have hax:=c2.1 hc
          by_cases e:k=(i + j) / 2
          · subst e;rw [ha] at hb;obtain rfl:=Option.some.inj hb;exact hax
          · have:=hsrt k ((i + j) / 2) b a (by omega) hb ha;omega
        · rw [if_neg hc]
          refine .inl ⟨_,rfl,⟨i,(i + j) / 2,rfl,by omega,by omega,h3,fun k b hk hb=>?_⟩,by dsimp only;omega⟩
          have hax:x≤a.src:=by
            refine Int.not_lt.1 fun hh=>hc (c2.2 hh)
          by_cases e:k=(i + j) / 2
          · subst e;rw [ha] at hb;obtain rfl:=Option.some.inj hb;exact hax
          · have:=hsrt ((i + j) / 2) k a b (by omega) ha hb;omega
      · obtain rfl:i=j:=by omega
        rw [if_neg (by omega)]
        exact .inr ⟨_,rfl,i,rfl,h2,h3,h4⟩) (0,(es.length:Int)) ⟨0,es.length,rfl,by omega,by omega,fun k a hk=>by omega,fun k a hk ha=>by have:=AC ha;omega⟩
  obtain ⟨s,k1,i,rfl,k2,k3,k4⟩:=key
  rw [k1,Ar,CP]
  dsimp only
  by_cases hi:i < es.length
  · obtain ⟨a,ha⟩:=AE (l:=es) (k:=i) hi
    obtain ⟨c,c1,_,_⟩:=Mi a.src x
    rw [if_pos (by omega),Cm,ha,Ar]
    unfold Cd
    rw [c1,Ar,Ar]
    by_cases hc:c=0
    · rw [if_pos hc,Ar];exact ⟨i,true,rfl,k2,k3,k4⟩
    · rw [if_neg hc,Ar];exact ⟨i,false,rfl,k2,k3,k4⟩
  · rw [if_neg (by omega),Ar]
    exact ⟨i,false,rfl,k2,k3,k4⟩
def tightB (t:Tsk) (d k:List Int) (i:Nat) (e:Edj):Bool:=decide (e.src=(i:Int)) && decide (gI d e.dst.toNat + costE t e=gI d i) && decide (gI k e.dst.toNat + 1=gI k i)
theorem EU {t:Tsk} {d k:List Int} {i:Nat} {e:Edj}:tightB t d k i e=true↔e.src=(i:Int)∧gI d e.dst.toNat + costE t e=gI d i∧gI k e.dst.toNat + 1=gI k i:=by unfold tightB;simp [and_assoc]
theorem LA {t:Tsk} {L:List (List Int)}:∀ (n:Nat),(edgL t L n).Pairwise fun a b=>a.src≤b.src
  | 0=>by simp [edgL]
  | n + 1=>by
    have ih:=LA (t:=t) (L:=L) n
    cases hs:L[n]? with
    | none =>
      have e:edgL t L (n + 1)=edgL t L n:=by
        unfold edgL
        rw [List.range_succ,List.flatMap_append,List.flatMap_singleton,hs]
        simp
      rw [e];exact ih
    | some s =>
      have hk:∀ e∈edgK t L s n (appN t s t.ops.length),e.src=(n:Int):=fun e he=>by
        obtain ⟨k,_,rfl⟩:=List.mem_map.1 he;rfl
      rw [Iw hs,List.pairwise_append]
      refine ⟨ih,?_,fun a ha b hb=>?_⟩
      · rw [List.pairwise_iff_getElem]
        intro i j hi hj _
        rw [hk _ (List.getElem_mem hi),hk _ (List.getElem_mem hj)];exact Int.le_refl _
      · obtain ⟨j,k,s,h1,_,_,rfl⟩:=Lt.1 ha
        rw [hk b hb];dsimp only;omega
theorem PA {es:List Edj} (h:es.Pairwise fun a b=>a.src≤b.src) (i j:Nat) (a b:Edj) (hij:i < j) (ha:es[i]?=some a) (hb:es[j]?=some b):a.src≤b.src:=by
  obtain ⟨a1,b1⟩:=List.getElem?_eq_some_iff.1 ha
  obtain ⟨a2,b2⟩:=List.getElem?_eq_some_iff.1 hb
  have:=(List.pairwise_iff_getElem.1 h) i j a1 a2 hij
  rwa [b1,b2] at this
structure PlI (t:Tsk) (L:List (List Int)) (d k:List Int):Prop where
  ok:Mid t
  bl:BL t L
  clo:CloL t L.length L
  eo:EdgesOk t L.length (edgL t L L.length)
  dl:d.length=L.length
  kl:k.length=L.length
  lex:LexP L.length (bwdA t (edgL t L L.length)) (fun i=>(goalsL t L)[i]?=some true) (gI d) (gI k)
  bnd:∀ i,gI d i≠Inf→i < L.length∧0≤gI d i∧gI d i≤600 * 1048576∧0≤gI k i∧gI k i≤600
section
variable {t : Tsk} {L : List (List Int)} {d k : List Int}
theorem PlI.of {lim:Int} (hs:Mid t) (h:EndL t lim L) {x:Spa} (hx:SpX t L x):PlI t L x.distances x.steps:=⟨hs,h.bl,h.clo,h.edges hs,hx.sp.dl,hx.sp.sl,hx.sp.dist,hx.sp.bnd⟩
theorem PlI.find (h:PlI t L d k) {i:Nat} (hd:gI d i≠Inf) (hk:0 < gI k i):∃ e,(edgL t L L.length).find? (tightB t d k i)=some e∧e∈edgL t L L.length∧tightB t d k i e=true∧gI d e.dst.toNat≠Inf:=by
  have hI:Inf=1125899906842624:=rfl
  have hex:∃ e∈edgL t L L.length,tightB t d k i e=true:=by
    rcases h.lex.tight hd with ⟨_,_,h0⟩|⟨j,w,hm,hj,h1,h2⟩
    · omega
    · obtain ⟨e,e1,e2,e3,e4⟩:=Gx.1 hm
      have:=h.eo.ok e e1
      refine ⟨e,e1,EU.2 ⟨by omega,?_,?_⟩⟩
      · rw [e2,Int.toNat_natCast,e4];exact h1.symm
      · rw [e2,Int.toNat_natCast];exact h2.symm
  cases hf:(edgL t L L.length).find? (tightB t d k i) with
  | none =>
    obtain ⟨e,e1,e2⟩:=hex
    have:=List.find?_eq_none.1 hf e e1
    exact (this e2).elim
  | some e =>
    have h1:=List.find?_some hf
    have h2:=List.mem_of_find?_eq_some hf
    obtain ⟨_,e2,_⟩:=EU.1 h1
    obtain ⟨o,_,_,c1,_⟩:=Fi h.ok.ok h.eo h2
    have:=h.bnd i hd
    exact ⟨e,rfl,h2,h1,by omega⟩
inductive Pl (t:Tsk) (L:List (List Int)) (d k:List Int):Nat→List Int→Prop
  | nil {i:Nat}:gI d i≠Inf→gI k i=0→Pl t L d k i []
  | cons {i:Nat} {e:Edj} {p:List Int}:gI d i≠Inf→0 < gI k i→(edgL t L L.length).find? (tightB t d k i)=some e→Pl t L d k e.dst.toNat p→Pl t L d k i (e.label :: p)
theorem OS (h:PlI t L d k):∀ (n i:Nat),gI d i≠Inf→gI k i=(n:Int)→∃ p,Pl t L d k i p∧p.length=n
  | 0,i,hd,hk=>⟨[],.nil hd hk,rfl⟩
  | n + 1,i,hd,hk=>by
    obtain ⟨e,e1,e2,e3,e4⟩:=h.find hd (by omega)
    obtain ⟨_,_,t3⟩:=EU.1 e3
    obtain ⟨p,p1,p2⟩:=OS h n e.dst.toNat e4 (by omega)
    exact ⟨e.label :: p,.cons hd (by omega) e1 p1,by simp [p2]⟩
theorem PlI.plan (h:PlI t L d k) {i:Nat} (hd:gI d i≠Inf):∃ p,Pl t L d k i p∧p.length≤600:=by
  have:=h.bnd i hd
  obtain ⟨p,h1,h2⟩:=OS h (gI k i).toNat i hd (by omega)
  exact ⟨p,h1,by omega⟩
end
-- the program
noncomputable def nxF (x0:Spa) (x1:Int):Edj→Option (Ctl Unit (Int×Int)):=fun a76=>if a76.src≠x1 then (some (.brk ())) else (bnd (bnd (atI x0.distances a76.dst) fun a151=>bnd (atI x0.t.ops a76.label) fun a163=>bnd (chkI (a151 + a163.cost)) fun n184=>bnd (atI x0.distances x1) fun a187=>if n184=a187 then (bnd (atI x0.steps a76.dst) fun a200=>bnd (chkI (a200 + 1)) fun n212=>bnd (atI x0.steps x1) fun a215=>if n212=a215 then (some true) else (some false)) else (some false):Option Bool) fun y104=>if y104=true then (some (.ret (a76.label,a76.dst))) else (some (.next ())))
theorem QD (x0:Spa) (x1:Int):CH x0 x1=bnd (AN x0.edges x1) fun q46=>bnd (cutI x0.edges q46.1 (x0.edges.length:Int)) fun u58=>bnd (rng (ρ:=Int×Int) (fun (_:Nat) (a76:Edj) (_:Unit)=>nxF x0 x1 a76) u58 0 ()) fun res71=>fin res71 fun (s252:Unit)=>some ((-1),(-1)):=rfl
theorem JM {t:Tsk} {L:List (List Int)} {d k st:List Int} (h:PlI t L d k) (hst:st.length=L.length) (hse:∀ i,gI d i≠Inf→gI st i=gI k i) {i:Nat} (hi:gI d i≠Inf) {e:Edj} (he:e∈edgL t L L.length) (hsrc:e.src=(i:Int)) {ops:List Opr} (ho:ops=t.ops) :
    (bnd (atI d e.dst) fun a151=>bnd (atI ops e.label) fun a163=>bnd (chkI (a151 + a163.cost)) fun n184=>bnd (atI d (i:Int)) fun a187=>if n184=a187 then (bnd (atI st e.dst) fun a200=>bnd (chkI (a200 + 1)) fun n212=>bnd (atI st (i:Int)) fun a215=>if n212=a215 then (some true) else (some false)) else (some false):Option Bool)=some (tightB t d k i e):=by
  subst ho
  have hI:Inf=1125899906842624:=rfl
  obtain ⟨s1,s2,d1,d2,_,_⟩:=h.eo.ok e he
  obtain ⟨o,o1,o2,c1,c2⟩:=Fi h.ok.ok h.eo he
  obtain ⟨j,hj⟩:∃ j:Nat,e.dst=(j:Int):=⟨e.dst.toNat,by omega⟩
  have hb:=h.bnd i hi
  have hdl:=h.dl
  have hkl:=h.kl
  have hin:inI64 (gI d j + costE t e):=by
    unfold inI64
    by_cases e1:gI d j=Inf
    · omega
    · have:=h.bnd j e1;omega
  rw [hj,Do (by omega),Ar,o1,Ar,← o2,Cq hin,Ar,Do (by omega),Ar,Do (by omega),Ar,Do (by omega)]
  have et:tightB t d k i e=(decide (gI d j + costE t e=gI d i) && decide (gI k j + 1=gI k i)):=by
    unfold tightB;rw [hsrc,hj,Int.toNat_natCast];simp
  rw [et]
  by_cases h1:gI d j + costE t e=gI d i
  · have hjn:gI d j≠Inf:=by omega
    have hbj:=h.bnd j hjn
    rw [if_pos h1,hse j hjn,Cq (by unfold inI64;omega),Ar,hse i hi,Ar]
    by_cases h2:gI k j + 1=gI k i
    · rw [if_pos h2];simp [h1,h2]
    · rw [if_neg h2];simp [h1,h2]
  · rw [if_neg h1];simp [h1]
theorem Mj {t:Tsk} {L:List (List Int)} {x:Spa} (hx:SpX t L x) (h:PlI t L x.distances x.steps) {i:Nat} (hi:gI x.distances i≠Inf):∀ (l:List Edj) (j:Nat),(∀ e∈l,e∈edgL t L L.length)→(∀ e∈l,(i:Int)≤e.src)→l.Pairwise (fun a b=>a.src≤b.src) →
    rng (ρ:=Int×Int) (fun (_:Nat) (a76:Edj) (_:Unit)=>nxF x (i:Int) a76) l j ()=some (match l.find? (tightB t x.distances x.steps i) with|some e=>.ret (e.label,e.dst)|none=>.done ())
  | [],_,_,_,_=>rfl
  | e :: l,j,h1,h2,h3=>by
    have he:=h1 e List.mem_cons_self
    have hpw:=List.pairwise_cons.1 h3
    simp only [rng]
    by_cases hs:e.src=(i:Int)
    · have hne:¬ e.src≠(i:Int):=fun hh=>hh hs
      have ht:=JM h h.kl (fun _ _=>rfl) hi he hs (ops:=x.t.ops) (by rw [hx.sp.t_])
      have ef:nxF x (i:Int) e=some (if tightB t x.distances x.steps i e=true then .ret (e.label,e.dst) else .next ()):=by
        unfold nxF
        rw [if_neg hne,ht,Ar]
        split<;>rfl
      rw [ef]
      cases hb:tightB t x.distances x.steps i e with
      | true=>rw [List.find?_cons,hb];rfl
      | false =>
        rw [List.find?_cons,hb]
        exact Mj hx h hi l (j + 1) (fun a ha=>h1 a (List.mem_cons_of_mem _ ha)) (fun a ha=>h2 a (List.mem_cons_of_mem _ ha)) hpw.2
    · have ef:nxF x (i:Int) e=some (.brk ()):=by unfold nxF;rw [if_pos hs]
      rw [ef]
      have hlt:(i:Int) < e.src:=by have:=h2 e List.mem_cons_self;omega
      have hn:(e :: l).find? (tightB t x.distances x.steps i)=none:=by
        rw [List.find?_eq_none]
        intro a ha hta
        have hs2:=(EU.1 hta).1
        rcases List.mem_cons.1 ha with rfl|ha
        · exact hs hs2
        · have:=hpw.1 a ha;omega
      rw [hn]
theorem PB {t:Tsk} {L:List (List Int)} {x:Spa} (hx:SpX t L x) (h:PlI t L x.distances x.steps) {i:Nat} (hi:gI x.distances i≠Inf) {e:Edj} (he:(edgL t L L.length).find? (tightB t x.distances x.steps i)=some e):CH x (i:Int)=some (e.label,e.dst):=by
  have hsrt:=LA (t:=t) (L:=L) L.length
  have hfew:=h.eo.few
  obtain ⟨f,b,f1,f2,f3,f4⟩:=MO (es:=edgL t L L.length) (by omega) (PA hsrt) (i:Int)
  rw [QD,hx.sp.ed,f1,Ar]
  dsimp only
  rw [OX f2 (Nat.le_refl _),Ar,List.take_length,Mj hx h hi ((edgL t L L.length).drop f) 0 (fun e he=>List.mem_of_mem_drop he) (fun e he=>by
    obtain ⟨q,hq⟩:=List.getElem?_of_mem he
    rw [List.getElem?_drop] at hq
    exact f4 (f + q) e (by omega) hq) (hsrt.sublist (List.drop_sublist _ _))]
  have hsplit:(edgL t L L.length).find? (tightB t x.distances x.steps i)=((edgL t L L.length).drop f).find? (tightB t x.distances x.steps i):=by
    conv=>lhs;rw [← List.take_append_drop f (edgL t L L.length)]
    rw [List.find?_append]
    have:((edgL t L L.length).take f).find? (tightB t x.distances x.steps i)=none:=by
      rw [List.find?_eq_none]
      intro a ha hta
      obtain ⟨q,hq⟩:=List.getElem?_of_mem ha
      have hql:=AC hq
      rw [List.length_take] at hql
      have:=f3 q a (by omega) (GN hq)
      have:=(EU.1 hta).1
      omega
    rw [this];rfl
  rw [← hsplit,he,Ar]
  rfl
noncomputable def plF (x0:Spa):List Int×Int→Option (Ctl (List Int×Int) (List Int×Int×Err)):=fun s70=>bnd (atI x0.steps s70.2) fun a132=>if 0 < a132 then (bnd (CH x0 s70.2) fun q150=>if q150.2 < 0 then (some (.ret (([]:List Int),0,(⟨3⟩:Err)))) else (bnd (appI 8 s70.1 [q150.1]) fun u165=>some (.next (u165,q150.2)))) else (some (.brk (s70.1,s70.2)))
theorem Nz (x0:Spa):CI x0=bnd (atI x0.distances 0) fun a45=>if 1125899906842624≤a45 then (some (([]:List Int),0,(⟨3⟩:Err))) else (bnd (lop (plF x0) (([]:List Int),0)) fun res68=>fin res68 fun (s186:(List Int)×Int)=>bnd (atI x0.distances 0) fun a231=>some (s186.1,a231,(⟨0⟩:Err))):=rfl
theorem PC {t:Tsk} {L:List (List Int)} {x:Spa} (hx:SpX t L x) (h:PlI t L x.distances x.steps) {i:Nat} {p:List Int} (hp:Pl t L x.distances x.steps i p):∀ acc:List Int,acc.length + p.length≤1000000→∃ q,lop (plF x) (acc,(i:Int))=some (.done (acc ++ p,q)):=by
  induction hp with
  | @nil i hd hk =>
    intro acc _
    have hi:=(h.bnd i hd).1
    rw [Eh]
    unfold plF
    dsimp only
    rw [Do (by rw [h.kl];exact hi),Ar,hk,if_neg (by omega)]
    exact ⟨_,by rw [List.append_nil]⟩
  | @cons i e p hd hk hf _ ih =>
    intro acc hacc
    have hi:=(h.bnd i hd).1
    have he:=List.mem_of_find?_eq_some hf
    obtain ⟨_,_,d1,d2,_,_⟩:=h.eo.ok e he
    simp only [List.length_cons] at hacc
    rw [Eh]
    unfold plF
    dsimp only
    rw [Do (by rw [h.kl];exact hi),Ar,if_pos hk,PB hx h hd hf,Ar]
    dsimp only
    rw [if_neg (by omega),Cy (by rw [List.length_singleton];omega) (by rw [List.length_singleton];omega),Ar]
    dsimp only
    obtain ⟨q,hq⟩:=ih (acc ++ [e.label]) (by rw [List.length_append,List.length_singleton];omega)
    rw [show ((e.dst.toNat:Nat):Int)=e.dst from by omega] at hq
    exact ⟨q,by rw [show acc ++ e.label :: p=acc ++ [e.label] ++ p from by simp];exact hq⟩
theorem NA {t:Tsk} {L:List (List Int)} {x:Spa} (hx:SpX t L x) (h:PlI t L x.distances x.steps) (hd:gI x.distances 0=Inf):CI x=some ([],0,⟨3⟩):=by
  have h0:=AC h.bl.root
  rw [Nz,show (0:Int)=((0:Nat):Int) from rfl,Do (by rw [h.dl];exact h0),Ar,hd,if_pos (by unfold Inf;omega)]
theorem NB {t:Tsk} {L:List (List Int)} {x:Spa} (hx:SpX t L x) (h:PlI t L x.distances x.steps) (hd:gI x.distances 0≠Inf) {p:List Int} (hp:Pl t L x.distances x.steps 0 p) (hl:p.length≤600):CI x=some (p,gI x.distances 0,⟨0⟩):=by
  have h0:=AC h.bl.root
  have hb:=h.bnd 0 hd
  obtain ⟨q,hq⟩:=PC hx h hp [] (by simp;omega)
  have hat:atI x.distances 0=some (gI x.distances 0):=Do (i:=0) (by rw [h.dl];exact h0)
  rw [Nz,hat,Ar,if_neg (by omega)]
  have hq':lop (plF x) ([],0)=some (.done (p,q)):=hq
  rw [hq',Ar,CP,Ar]
-- the document
abbrev LI:=List Int×Int
noncomputable def rpG (x0:Tsk) (d st:List Int):Edj→LI→Option (Ctl LI (Ctl LI (List Int))):=fun a99 s96=>bnd (if a99.src=s96.2 then (bnd (atI d a99.dst) fun a137=>bnd (atI x0.ops a99.label) fun a149=>bnd (chkI (a137 + a149.cost)) fun n170=>bnd (atI d s96.2) fun a173=>if n170=a173 then (bnd (atI st a99.dst) fun a186=>bnd (chkI (a186 + 1)) fun n198=>bnd (atI st s96.2) fun a201=>if n198=a201 then (some true) else (some false)) else (some false)) else (some false):Option Bool) fun y132=>if y132=true then (bnd (appI 8 s96.1 [a99.label]) fun u219=>some (.brk (u219,a99.dst))) else (some (.next (s96.1,s96.2)))
noncomputable def rpF (x0:Tsk) (x2:List Edj) (d st:List Int):LI→Option (Ctl LI (List Int)):=fun s60=>bnd (atI st s60.2) fun a79=>if 0 < a79 then (bnd (rng (ρ:=Ctl LI (List Int)) (fun (_:Nat) (a99:Edj) (s96:LI)=>rpG x0 d st a99 s96) x2 0 (s60.1,s60.2)) fun res94=>fin res94 fun (s235:LI)=>some (.next (s235.1,s235.2))) else (some (.brk (s60.1,s60.2)))
theorem QE (x0:Tsk) (x1:List (List Int)) (x2:List Edj):EG x0 x1 x2=bnd (CL x0 x1 x2) fun q30=>bnd (atI q30.1 0) fun a45=>if a45=1125899906842624 then (some ([]:List Int)) else (bnd (lop (rpF x0 x2 q30.1 q30.2) (([]:List Int),0)) fun res58=>fin res58 fun (s241:LI)=>some s241.1):=rfl
section
variable {t : Tsk} {L : List (List Int)} {d k st : List Int}
theorem NC (h:PlI t L d k) (hst:st.length=L.length) (hse:∀ i,gI d i≠Inf→gI st i=gI k i) {i:Nat} (hi:gI d i≠Inf) {acc:List Int} (ha:acc.length≤1000000):∀ (l:List Edj) (j:Nat),(∀ e∈l,e∈edgL t L L.length) →
    rng (ρ:=Ctl LI (List Int)) (fun (_:Nat) (a99:Edj) (s96:LI)=>rpG t d st a99 s96) l j (acc,(i:Int))=some (match l.find? (tightB t d k i) with|some e=>.done (acc ++ [e.label],e.dst)|none=>.done (acc,(i:Int)))
  | [],_,_=>rfl
  | e :: l,j,h1=>by
    have he:=h1 e List.mem_cons_self
    simp only [rng]
    have ef:rpG t d st e (acc,(i:Int))=some (if tightB t d k i e=true then .brk (acc ++ [e.label],e.dst) else .next (acc,(i:Int))):=by
      unfold rpG
      dsimp only
      by_cases hs:e.src=(i:Int)
      · rw [if_pos hs,JM h hst hse hi he hs rfl,Ar]
        by_cases hb:tightB t d k i e=true
        · rw [if_pos hb,if_pos hb,Cy (by rw [List.length_singleton];omega) (by rw [List.length_singleton];omega),Ar]
        · rw [if_neg hb,if_neg hb]
      · rw [if_neg hs,Ar,Dq,if_neg (fun hh=>hs (EU.1 hh).1)]
    rw [ef]
    cases hb:tightB t d k i e with
    | true=>rw [List.find?_cons,hb];rfl
    | false =>
      rw [List.find?_cons,hb]
      exact NC h hst hse hi ha l (j + 1) (fun a ha=>h1 a (List.mem_cons_of_mem _ ha))
theorem PD (h:PlI t L d k) (hst:st.length=L.length) (hse:∀ i,gI d i≠Inf→gI st i=gI k i) {i:Nat} {p:List Int} (hp:Pl t L d k i p):∀ acc:List Int,acc.length + p.length≤1000000→∃ q,lop (rpF t (edgL t L L.length) d st) (acc,(i:Int))=some (.done (acc ++ p,q)):=by
  induction hp with
  | @nil i hd hk =>
    intro acc _
    have hi:=(h.bnd i hd).1
    rw [Eh]
    unfold rpF
    dsimp only
    rw [Do (by rw [hst];exact hi),Ar,hse i hd,hk,if_neg (by omega)]
    exact ⟨_,by rw [List.append_nil]⟩
  | @cons i e p hd hk hf _ ih =>
    intro acc hacc
    have hi:=(h.bnd i hd).1
    have he:=List.mem_of_find?_eq_some hf
    obtain ⟨_,_,d1,d2,_,_⟩:=h.eo.ok e he
    simp only [List.length_cons] at hacc
    rw [Eh]
    unfold rpF
    dsimp only
    rw [Do (by rw [hst];exact hi),Ar,hse i hd,if_pos hk,NC h hst hse hd (by omega) _ 0 (fun e he=>he),hf,Ar,CP]
    dsimp only
    obtain ⟨q,hq⟩:=ih (acc ++ [e.label]) (by rw [List.length_append,List.length_singleton];omega)
    rw [show ((e.dst.toNat:Nat):Int)=e.dst from by omega] at hq
    exact ⟨q,by rw [show acc ++ e.label :: p=acc ++ [e.label] ++ p from by simp];exact hq⟩
end
theorem ND (t:Tsk):Dy t=some true:=by
  unfold Dy
  by_cases hs:SmallOk t
  · obtain ⟨L,x,e1,e2,e3,e4⟩:=LO hs lim512
    obtain ⟨st,e5,e6,e7⟩:=MN hs.mid e3 e2
    have hP:=PlI.of hs.mid e3 e2
    have h0:=AC hP.bl.root
    have hat:atI x.distances 0=some (gI x.distances 0):=Do (i:=0) (by rw [hP.dl];exact h0)
    simp only [Px hs,awake25,Ar,if_true,e1,e4,LM hs.mid e3,e5,ne_eq,not_true_eq_false,if_false,Bool.false_eq_true,hat]
    by_cases hd:gI x.distances 0=Inf
    · rw [NA e2 hP hd,Ar,if_pos (show gI x.distances 0=1125899906842624 from hd)];rfl
    · obtain ⟨p,p1,p2⟩:=hP.plan hd
      obtain ⟨q,hq⟩:=PD hP e6 e7 p1 [] (by simp;omega)
      have hq':lop (rpF t (edgL t L L.length) x.distances st) ([],0)=some (.done (p,q)):=hq
      have hr:EG t L (edgL t L L.length)=some p:=by
        rw [QE,e5,Ar]
        dsimp only
        rw [hat,Ar,if_neg (show ¬ gI x.distances 0=1125899906842624 from hd),hq',Ar,CP]
      rw [NB e2 hP hd p1 p2,Ar,if_neg (show ¬ gI x.distances 0=1125899906842624 from hd)]
      simp only [if_true,Ar,hr,Ny]
  · simp only [Py hs,awake25,Ar,if_true,Bool.false_eq_true,if_false]
end
section
open Go Go.RowKit Go.ChangeShapes Go.WideShapes Go.Deep
theorem lawEPlans {w:World} {v0:Value} {a0:Tsk} (h0:V w v0 a0):Fn Tryz.prog 5 [v0] w fun v w'=>v=.bool true∧Ext w w':=by
  exact (Hz (fun _ h=>h) h0 (ND a0)).mono fun _ _ h=>⟨h.2.bool,h.1⟩
set_option maxRecDepth 100000 in
theorem HX (os:Os) (started:os.Started) (H:Type) (enc:TypeId×Value→H) :
    ReturnsInHanded {} Tryz.checked os 5 .any (Rows.explorePlansSpec.pre6 enc Tryz.prog Tryz.f5 Rows.explorePlansRow.domain false) (Rows.explorePlansSpec.post enc Tryz.prog Tryz.f5 false true false false):=by
  refine returnsInHanded_of_change (C:=Tryz.checked) ownTry started (by kernel_rfl) Tryz.func5 (ChangeSpec.witness6 (enc:=enc) (C:=Tryz.checked) false ⟨#[],#[(.agg #[.slice none 0 0,.slice none 0 0,.slice none 0 0,.slice none 0 0])],[]⟩ 8 (by kernel_rfl) (by kernel_rfl) (by kernel_rfl) (by kernel_rfl)) ?_
  intro W base args ds gs before hval hW _ _
  have hopen:∀ p,DataW.TrodAll enc Tryz.prog W 0 (fun _=>true) true Tryz.f5.params.toList args.toList ds p→∃ v0 d0,args=#[v0]∧ds=[d0]∧(∃ a:Tsk,V W v0 a):=by
    intro p hA
    rw [Tryz.params5] at hA
    replace hval:∀ (j:Nat) t v,(#[26]:Array TypeId)[j]?=some t→args[j]?=some v→Value.okWide Tryz.prog W .any base t v:=by rw [← Tryz.params5];exact hval
    obtain ⟨v0,vs0,d0,ds0,p0,q0,g0,e0,_,h0,r0⟩:=trodAll_cons hA
    obtain ⟨g,e,_⟩:=trodAll_nil r0
    rw [g] at g0;rw [e] at e0
    obtain rfl:args=#[v0]:=by cases args;simp_all
    exact ⟨v0,d0,rfl,e0,(by first|exact openAgg rfl (hval 0 26 v0 rfl rfl) h0|exact openOne rfl (hval 0 26 v0 rfl rfl) h0)⟩
  refine lawPost rfl (by kernel_rfl) (by rw [Tryz.params5];exact of_decide_eq_true (by kernel_rfl)) hW ?_ ?_
  · intro p hA
    obtain ⟨v0,d0,_,rfl,_⟩:=hopen p hA
    rfl
  · intro p hA
    obtain ⟨v0,d0,rfl,_,⟨a0,h0⟩⟩:=hopen p hA
    exact lawEPlans h0
theorem explorePlans_holds:Rows.ExplorePlansSaid :=
  OpenClaim.holds_of_wide 5 Tryz.f5 rfl rfl rfl rfl rfl rfl rfl ⟨rfl,rfl,rfl,rfl,rfl⟩ rfl rfl rfl rfl rfl (by kernel_rfl) Tryz.func5 (by kernel_rfl)
    (of_decide_eq_true (by kernel_rfl)) (by unfold Func.isWrapper;first|(rw [if_pos (by decide +kernel)];kernel_rfl)|(rw [if_neg (by decide +kernel)];exact ⟨rfl,rfl⟩))
    (fun os started H enc _=>HX os started H enc)
#print axioms explorePlans_holds
end
end Go.Proofs.YtkbmbcblgdgjlaaGreat

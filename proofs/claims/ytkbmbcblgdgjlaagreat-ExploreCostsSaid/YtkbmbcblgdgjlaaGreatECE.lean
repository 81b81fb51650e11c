/- ExploreCosts returns true for every task, and it reads behind the call as before. No conditions. -/
import Derived.Test.YtkbmbcblgdgjlaaGreatECD
import Derived.Test.YtkbmbcblgdgjlaaGreatRows
set_option linter.unusedVariables false
set_option linter.unusedSimpArgs false
namespace Go.Proofs.YtkbmbcblgdgjlaaGreat
open Go Go.RowKit
section
open Go Go.RowKit
theorem LJ {σ ρ:Type} {x:Option (Ctl σ ρ)} {I:σ→Prop} (h:∃ r,x=some r∧∃ s',r=Ctl.next s'∧I s'):∃ s',x=some (.next s')∧I s':=by
  obtain ⟨_,h1,s',rfl,h2⟩:=h
  exact ⟨s',h1,h2⟩
def FldOk (W:Nat) (f:PFd) (n:Int):Prop:=∃ k b w:Nat,f=⟨k,b,w,n⟩∧k < W∧b + w≤64∧w≤6∧n≤2 ^ w
def PkOk (vars:List Int) (p:Pkr):Prop:=p.fields.length=vars.length∧(∃ W:Nat,p.words=(W:Int)∧1≤W∧W≤vars.length + 1∧∀ (i:Nat) f n,p.fields[i]?=some f→vars[i]?=some n→FldOk W f n) ∧
  ∀ (i j:Nat) f g,i < j→p.fields[i]?=some f→p.fields[j]?=some g→f.word < g.word∨(f.word=g.word∧f.bit + f.width≤g.bit)
theorem OP:∀ {w:Nat},w≤6→shlI 1 (w:Int)=some ((2 ^ w:Nat):Int):=by
  intro w h
  have:w=0∨w=1∨w=2∨w=3∨w=4∨w=5∨w=6:=by omega
  rcases this with rfl|rfl|rfl|rfl|rfl|rfl|rfl<;>rfl
theorem OQ {w:Nat} {n:Int} (hw:w≤6) (h:((2 ^ w:Nat):Int) < n) (hn:n≤64):w < 6:=by
  rcases Nat.lt_or_ge w 6 with hh|hh
  · exact hh
  · obtain rfl:w=6:=by omega
    simp at h;omega
def PkI (vars:List Int) (B W:Nat) (fs:List PFd):Prop:=(∀ (i:Nat) f n,fs[i]?=some f→vars[i]?=some n→FldOk W f n) ∧
  (∀ (i j:Nat) f g,i < j→fs[i]?=some f→fs[j]?=some g→f.word < g.word∨(f.word=g.word∧f.bit + f.width≤g.bit))∧∀ (i:Nat) f,fs[i]?=some f→f.word + 1 < (W:Int)∨(f.word + 1=(W:Int)∧f.bit + f.width≤(B:Int))
theorem PkI.over {vars:List Int} {B W:Nat} {fs:List PFd} (h:PkI vars B W fs):PkI vars 0 (W + 1) fs :=
  ⟨fun i f n hf hn=>by obtain ⟨k,b,w,e,e1,e2⟩:=h.1 i f n hf hn;exact ⟨k,b,w,e,by omega,e2⟩,h.2.1,fun i f hf=>by have:=h.2.2 i f hf;omega⟩
theorem Dy {α:Type} {l:List α} {x y:α} {i:Nat} (h:(l ++ [x])[i]?=some y):l[i]?=some y∨(i=l.length∧y=x):=by
  rcases Nat.lt_trichotomy i l.length with hi|hi|hi
  · rw [List.getElem?_append_left hi] at h;exact .inl h
  · subst hi;simp at h;exact .inr ⟨rfl,h.symm⟩
  · rw [List.getElem?_append_right (by omega)] at h
    rw [List.getElem?_eq_none (by simp;omega)] at h
    cases h
theorem PkI.add {vars:List Int} {B W w:Nat} {fs:List PFd} {n:Int} (h:PkI vars B W fs) (hW:1≤W) (hn:vars[fs.length]?=some n) (hB:B + w≤64) (hw:w≤6) (hnw:n≤2 ^ w):PkI vars (B + w) W (fs ++ [⟨(W:Int) - 1,(B:Int),(w:Int),n⟩]):=by
  refine ⟨fun i f n' hf hn'=>?_,fun i j f g hij hf hg=>?_,fun i f hf=>?_⟩
  · rcases Dy hf with hh|⟨rfl,rfl⟩
    · exact h.1 i f n' hh hn'
    · rw [hn] at hn'
      obtain rfl:=Option.some.inj hn'
      exact ⟨W - 1,B,w,by congr 1;omega,by omega,hB,hw,hnw⟩
  · rcases Dy hg with hh|⟨rfl,rfl⟩
    · rcases Dy hf with hk|⟨rfl,rfl⟩
      · exact h.2.1 i j f g hij hk hh
      · have:=AC hh;omega
    · rcases Dy hf with hk|⟨rfl,rfl⟩
      · have:=h.2.2 i f hk
        dsimp only
        omega
      · omega
  · rcases Dy hf with hh|⟨rfl,rfl⟩
    · have:=h.2.2 i f hh;omega
    · dsimp only;omega
theorem Mo {vars:List Int} (hl:vars.length≤64) (hv:∀ (i:Nat) n,vars[i]?=some n→1≤n∧n≤64):∃ r,Ef vars=some r∧∃ p,r=(some p,⟨0⟩)∧PkOk vars p:=by
  unfold Ef
  rw [if_neg (by omega)]
  refine GT (fun m s=>∃ B W:Nat,s.1=(B:Int)∧B≤64∧s.2.words=(W:Int)∧1≤W∧W≤m + 1∧s.2.fields.length=m∧PkI vars B W s.2.fields) (fun _=>False)
    ⟨0,1,rfl,by omega,rfl,by omega,by omega,rfl,fun i f n h=>by simp at h,fun i j f g _ h=>by simp at h,fun i f h=>by simp at h⟩ ?_ ?_ (fun q hq=>hq.elim)
  · rintro m n ⟨s1,s2⟩ hm ⟨B,W,hs1,hB,hW,hW1,hWm,hlen,hI⟩
    dsimp only at hs1 hW hlen hI
    subst hs1
    obtain ⟨hn1,hn2⟩:=hv m n hm
    have hml:=AC hm
    refine .inl (LJ ?_)
    rw [if_neg (by omega),if_neg (by omega),Ar,Dm]
    refine KO (fun c=>∃ w:Nat,c=(w:Int)∧w≤6) (fun c=>∃ w:Nat,c=(w:Int)∧w≤6∧n≤2 ^ w) (fun _=>False) (fun c=>7 - c.toNat) ⟨0,rfl,by omega⟩ ?_ ?_ (fun q hq=>hq.elim)
    · rintro c ⟨w,rfl,hw⟩
      rw [OP hw,Ar]
      by_cases hlt:((2 ^ w:Nat):Int) < n
      · have:=OQ hw hlt hn2
        rw [if_pos hlt,Ct (by unfold inI64;omega),Ar]
        exact .inl ⟨_,rfl,⟨w + 1,by omega,by omega⟩,by omega⟩
      · rw [if_neg hlt]
        refine .inr (.inl ⟨_,rfl,w,rfl,hw,?_⟩)
        have:((2 ^ w:Nat):Int)=(2:Int) ^ w:=by simp
        omega
    · rintro c ⟨w,rfl,hw,hnw⟩
      rw [CJ,Ct (by unfold inI64;omega),Ar]
      have fin':∀ (B' W':Nat) (q:Pkr),B' + w≤64→1≤W'→W'≤m + 2→q.words=(W':Int)→q.fields=s2.fields→PkI vars B' W' s2.fields→∃ r,(bnd (chkI (q.words - 1)) fun n133=>bnd (appI 32 q.fields [(⟨n133,(B':Int),(w:Int),n⟩:PFd)]) fun u142=>bnd (chkI ((B':Int) + (w:Int))) fun n155=>some (Ctl.next (ρ:=(Option Pkr)×Err) (n155,(⟨u142,q.words⟩:Pkr))))=some r∧∃ s',r=Ctl.next s'∧∃ B W:Nat,s'.1=(B:Int)∧B≤64∧s'.2.words=(W:Int)∧1≤W∧W≤m + 1 + 1∧s'.2.fields.length=m + 1∧PkI vars B W s'.2.fields:=by
        intro B' W' q hB' hW' hWm' hq1 hq2 hI'
        rw [hq1,hq2,Ct (by unfold inI64;omega),Ar,CE (by simp;omega) (by simp;omega),Ar,Ct (by unfold inI64;omega),Ar]
        exact ⟨_,rfl,_,rfl,B' + w,W',by simp,hB',rfl,hW',by omega,by simp [hlen],hI'.add hW' (by rw [hlen];exact hm) hB' hw hnw⟩
      by_cases hover:64 < (B:Int) + (w:Int)
      · rw [if_pos hover]
        dsimp only
        rw [hW,Ct (by unfold inI64;omega),Ar,Ar]
        exact fin' 0 (W + 1) ⟨s2.fields,(W:Int) + 1⟩ (by omega) (by omega) (by omega) (by simp) rfl hI.over
      · rw [if_neg hover,Ar]
        exact fin' B W s2 (by omega) hW1 (by omega) hW rfl hI
  · rintro ⟨s1,s2⟩ ⟨B,W,hs1,hB,hW,hW1,hWm,hlen,hI⟩
    exact ⟨_,rfl,s2,rfl,hlen,⟨W,hW,hW1,hWm,hI.1⟩,hI.2.1⟩
def InF (f:PFd) (x:Int) (k c:Nat):Prop:=f.word=(k:Int)∧f.bit≤(c:Int)∧(c:Int) < f.bit + f.width∧x.toNat.testBit (c - f.bit.toNat)=true
def Bits (fs:List PFd) (s:List Int) (p:Nat→Prop) (ws:List U64):Prop:=∀ (k c:Nat) a,ws[k]?=some a→c < 64→(a.getLsbD c=true↔∃ (i:Nat) (f:PFd) (x:Int),p i∧fs[i]?=some f∧s[i]?=some x∧InF f x k c)
theorem ones {w:Nat} (h:w≤6):((1:U64) <<< w) - (1:U64)=BitVec.ofNat 64 (2 ^ w - 1):=by
  have:w=0∨w=1∨w=2∨w=3∨w=4∨w=5∨w=6:=by omega
  rcases this with rfl|rfl|rfl|rfl|rfl|rfl|rfl<;>rfl
theorem KX {w b c:Nat} (hw:w≤6) (hc:c < 64):((((1:U64) <<< w) - (1:U64)) <<< b).getLsbD c=(decide (b≤c) && decide (c < b + w)):=by
  rw [ones hw,BitVec.getLsbD_shiftLeft,BitVec.getLsbD_ofNat,Nat.testBit_two_pow_sub_one]
  by_cases h1:b≤c<;>by_cases h2:c < b + w<;>simp [h1,h2,hc]<;>omega
theorem JK {x:Int} {w j:Nat} (h0:0≤x) (h1:x < 2 ^ w) (ht:x.toNat.testBit j=true):j < w:=by
  rcases Nat.lt_or_ge j w with h|h
  · exact h
  · have h2:x.toNat < 2 ^ w:=by
      have:((2 ^ w:Nat):Int)=(2:Int) ^ w:=by simp
      omega
    rw [Nat.testBit_lt_two_pow (Nat.lt_of_lt_of_le h2 (Nat.pow_le_pow_right (by omega) h))] at ht
    cases ht
theorem PkOk.field {vars:List Int} {p:Pkr} (h:PkOk vars p) {s:List Int} (hs:StateOk vars s) {i:Nat} {f:PFd} (hf:p.fields[i]?=some f):∃ (k b w:Nat) (n x:Int),f=⟨k,b,w,n⟩∧(k:Int) < p.words∧b + w≤64∧w≤6∧s[i]?=some x∧0≤x∧x < n∧x < 2 ^ w:=by
  obtain ⟨h1,⟨W,hW,_,_,h2⟩,h3⟩:=h
  have hi:=AC hf
  obtain ⟨n,hn⟩:=AD (l:=vars) (k:=i) (by omega)
  obtain ⟨x,hx⟩:=AD (l:=s) (k:=i) (by have:=hs.1;omega)
  obtain ⟨k,b,w,e,e1,e2,e3,e4⟩:=h2 i f n hf hn
  have:=hs.2 i x n hx hn
  exact ⟨k,b,w,n,x,e,by omega,e2,e3,hx,this.1,this.2,by omega⟩
theorem PkOk.same {vars:List Int} {p:Pkr} (h:PkOk vars p) {i j:Nat} {f g:PFd} {k c:Nat} (hf:p.fields[i]?=some f) (hg:p.fields[j]?=some g) (h1:f.word=(k:Int)∧f.bit≤(c:Int)∧(c:Int) < f.bit + f.width) (h2:g.word=(k:Int)∧g.bit≤(c:Int)∧(c:Int) < g.bit + g.width):i=j:=by
  rcases Nat.lt_trichotomy i j with hh|hh|hh
  · have:=h.2.2 i j f g hh hf hg;omega
  · exact hh
  · have:=h.2.2 j i g f hh hg hf;omega
theorem IE {vars:List Int} {p:Pkr} (h:PkOk vars p) (hl:vars.length≤64) {s:List Int} (hs:StateOk vars s):∃ r,BA p s=some r∧r.2=⟨0⟩∧(r.1.length:Int)=p.words∧Bits p.fields s (fun _=>True) r.1:=by
  obtain ⟨W,hW,hW1,hW2,_⟩:=h.2.1
  unfold BA
  rw [if_neg (by have:=h.1;have:=hs.1;omega),hW,GQ (by omega) (by omega),Ar]
  refine GT (fun m ws=>(ws.length:Int)=(W:Int)∧Bits p.fields s (fun i=>i < m) ws) (fun _=>False) ⟨by simp,?_⟩ ?_ ?_ (fun q hq=>hq.elim)
  · intro k c a ha _
    have:=List.eq_of_mem_replicate (List.mem_of_getElem? ha)
    subst this
    constructor
    · intro hh;simp at hh
    · rintro ⟨i,_,_,hi,_⟩;omega
  · rintro m f ws hm ⟨hwl,hb⟩
    refine .inl (LJ ?_)
    obtain ⟨k,b,w,n,x,rfl,hk,hbw,hw,hx,hx0,hxn,hxw⟩:=h.field hs hm
    dsimp only
    obtain ⟨a,ha⟩:=AD (l:=ws) (k:=k) (by omega)
    rw [hx,Ar,if_neg (by omega),Ar,if_neg (by omega),Ar,Dm,Cn,ha,Ar,Ar]
    unfold shlU
    rw [if_pos (by omega),Ar,Ar]
    refine ⟨_,rfl,_,rfl,by simpa using hwl,?_⟩
    simp only [Int.toNat_natCast]
    have hxb:∀ c:Nat,c < 64→((a ||| (BitVec.ofInt 64 x <<< b)).getLsbD c=true↔a.getLsbD c=true∨(b≤c∧x.toNat.testBit (c - b)=true)):=by
      intro c hc
      have hofi:BitVec.ofInt 64 x=BitVec.ofNat 64 x.toNat:=by
        rw [← BitVec.ofInt_natCast,Int.toNat_of_nonneg hx0]
      rw [BitVec.getLsbD_or,BitVec.getLsbD_shiftLeft,hofi,BitVec.getLsbD_ofNat]
      by_cases h1:b≤c
      · have:c - b < 64:=by omega
        simp [hc,h1,this,Nat.not_lt.2 h1]
      · simp [hc,h1,Nat.lt_of_not_le h1]
    intro k' c a' ha' hc
    by_cases e:k=k'
    · subst e
      rw [List.getElem?_set_self (AC ha)] at ha'
      obtain rfl:=Option.some.inj ha'
      rw [hxb c hc,hb k c a ha hc]
      constructor
      · rintro (⟨i,f,y,hi,hr⟩|⟨h1,h2⟩)
        · exact ⟨i,f,y,by omega,hr⟩
        · have:=JK hx0 hxw h2
          exact ⟨m,_,x,by omega,hm,hx,rfl,by dsimp only;omega,by dsimp only;omega,by simpa using h2⟩
      · rintro ⟨i,f,y,hi,hf,hy,hin⟩
        by_cases he:i=m
        · subst he
          rw [hm] at hf
          obtain rfl:=Option.some.inj hf
          rw [hx] at hy
          obtain rfl:=Option.some.inj hy
          obtain ⟨_,i2,i3,i4⟩:=hin
          dsimp only at i2 i3 i4
          exact .inr ⟨by omega,by simpa using i4⟩
        · exact .inl ⟨i,f,y,by omega,hf,hy,hin⟩
    · rw [List.getElem?_set_ne e] at ha'
      rw [hb k' c a' ha' hc]
      constructor
      · rintro ⟨i,f,y,hi,hr⟩;exact ⟨i,f,y,by omega,hr⟩
      · rintro ⟨i,f,y,hi,hf,hy,hin⟩
        by_cases he:i=m
        · subst he
          rw [hm] at hf
          obtain rfl:=Option.some.inj hf
          have:=hin.1
          dsimp only at this
          omega
        · exact ⟨i,f,y,by omega,hf,hy,hin⟩
  · rintro ws ⟨hwl,hb⟩
    refine ⟨_,rfl,rfl,hwl,fun k c a ha hc=>?_⟩
    rw [hb k c a ha hc]
    constructor
    · rintro ⟨i,f,x,_,hr⟩;exact ⟨i,f,x,trivial,hr⟩
    · rintro ⟨i,f,x,_,hf,hr⟩;exact ⟨i,f,x,AC hf,hf,hr⟩
theorem LK {k b w:Nat} {n:Int}:Cp ⟨k,b,w,n⟩=some ((((1:U64) <<< w) - (1:U64)) <<< b):=by
  unfold Cp shlU
  dsimp only
  rw [if_pos (by omega),Ar,if_pos (by omega),Ar]
  simp
theorem PM {vars:List Int} {p:Pkr} (h:PkOk vars p) {s:List Int} (hs:StateOk vars s) {ws:List U64} (hwl:(ws.length:Int)=p.words) (hb:Bits p.fields s (fun _=>True) ws) {i:Nat} {f:PFd} {x:Int} (hf:p.fields[i]?=some f) (hx:s[i]?=some x):CO f ws=some x:=by
  obtain ⟨k,b,w,n,x',rfl,hk,hbw,hw,hx',hx0,hxn,hxw⟩:=h.field hs hf
  rw [hx] at hx'
  obtain rfl:=Option.some.inj hx'
  obtain ⟨a,ha⟩:=AD (l:=ws) (k:=k) (by omega)
  unfold CO
  dsimp only
  rw [Cn,ha,Ar,LK,Ar]
  unfold shrU
  rw [if_pos (by omega),Ar]
  have hval : (a &&& ((((1:U64) <<< w) - (1:U64)) <<< b)) >>> b=BitVec.ofNat 64 x.toNat:=by
    apply BitVec.eq_of_getLsbD_eq
    intro j hj
    rw [BitVec.getLsbD_ushiftRight,BitVec.getLsbD_and,BitVec.getLsbD_ofNat]
    by_cases hjb:b + j < 64
    · rw [KX hw hjb]
      by_cases hjw:j < w
      · have h1:=hb k (b + j) a ha hjb
        have h2:a.getLsbD (b + j)=x.toNat.testBit j:=by
          cases ht:x.toNat.testBit j with
          | true=>exact h1.2 ⟨i,_,x,trivial,hf,hx,rfl,by dsimp only;omega,by dsimp only;omega,by simpa using ht⟩
          | false =>
            cases hg:a.getLsbD (b + j) with
            | false=>rfl
            | true =>
              obtain ⟨i',f',x',_,hf',hx',hin⟩:=h1.1 hg
              have hii:=h.same (k:=k) (c:=b + j) hf hf' ⟨rfl,by dsimp only;omega,by dsimp only;omega⟩ ⟨hin.1,hin.2.1,hin.2.2.1⟩
              subst hii
              rw [hf] at hf'
              obtain rfl:=Option.some.inj hf'
              rw [hx] at hx'
              obtain rfl:=Option.some.inj hx'
              have:=hin.2.2.2
              simp at this
              rw [this] at ht
              cases ht
        rw [h2]
        simp [hj,hjw]
      · have hf0:x.toNat.testBit j=false:=by
          cases ht:x.toNat.testBit j with
          | false=>rfl
          | true=>exact absurd (JK hx0 hxw ht) hjw
        simp [hf0,hjw]
    · have hf0:x.toNat.testBit j=false:=by
        cases ht:x.toNat.testBit j with
        | false=>rfl
        | true=>have:=JK hx0 hxw ht;omega
      rw [BitVec.getLsbD_of_ge _ _ (by omega)]
      simp [hf0]
  have h64:(2:Int) ^ w≤64:=by
    have:w=0∨w=1∨w=2∨w=3∨w=4∨w=5∨w=6:=by omega
    rcases this with rfl|rfl|rfl|rfl|rfl|rfl|rfl<;>decide
  simp only [Int.toNat_natCast]
  rw [hval]
  congr 1
  rw [BitVec.toInt_eq_toNat_of_lt (by rw [BitVec.toNat_ofNat];omega),BitVec.toNat_ofNat]
  omega
theorem Ii {vars:List Int} {p:Pkr} (h:PkOk vars p) (hl:vars.length≤64) {s:List Int} (hs:StateOk vars s) {ws:List U64} (hwl:(ws.length:Int)=p.words) (hb:Bits p.fields s (fun _=>True) ws):Cm p ws=some (s,⟨0⟩):=by
  obtain ⟨W,hW,hW1,hW2,_⟩:=h.2.1
  have hsl:=hs.1
  have hfl:=h.1
  unfold Cm
  rw [if_neg (by omega),GQ (by omega) (by omega),Ar]
  unfold BM
  rw [if_pos (by omega),Ar]
  refine LH (fun m st=>st.1.length=s.length∧(∀ (i:Nat) x,i < m→s[i]?=some x→st.1[i]?=some x)∧st.2.length=ws.length∧Bits p.fields s (fun i=>m≤i) st.2) ⟨by simp;omega,fun i x hi=>by omega,rfl,?_⟩ ?_ ?_
  · intro k c a ha hc
    rw [hb k c a ha hc]
    constructor
    · rintro ⟨i,f,x,_,hr⟩;exact ⟨i,f,x,by omega,hr⟩
    · rintro ⟨i,f,x,_,hr⟩;exact ⟨i,f,x,trivial,hr⟩
  · rintro m f ⟨out,rest⟩ hm ⟨i1,i2,i3,i4⟩
    dsimp only at i1 i2 i3 i4 ⊢
    obtain ⟨k,b,w,n,x,rfl,hk,hbw,hw,hx,hx0,hxn,hxw⟩:=h.field hs hm
    have hml:=AC hx
    obtain ⟨u,hu⟩:=AD (l:=out) (k:=m) (by omega)
    obtain ⟨a,ha⟩:=AD (l:=rest) (k:=k) (by omega)
    rw [PM h hs hwl hb hm hx,Ar,hu,Ar,List.getElem?_set_self (by omega),Ar]
    dsimp only
    rw [if_neg (by omega),Cn,ha,Ar,LK,Ar,Ar]
    refine ⟨_,rfl,by simpa using i1,fun i y hi hy=>?_,by simpa using i3,?_⟩
    · by_cases e:i=m
      · subst e
        rw [hx] at hy
        obtain rfl:=Option.some.inj hy
        exact List.getElem?_set_self (by omega)
      · show (out.set m x)[i]?=_
        rw [List.getElem?_set_ne (by omega)]
        exact i2 i y (by omega) hy
    · show Bits p.fields s _ (rest.set ((k:Int)).toNat _)
      simp only [Int.toNat_natCast]
      intro k' c a' ha' hc
      by_cases e:k=k'
      · subst e
        rw [List.getElem?_set_self (AC ha)] at ha'
        obtain rfl:=Option.some.inj ha'
        rw [BitVec.getLsbD_and,BitVec.getLsbD_not,KX hw hc]
        have h1:=i4 k c a ha hc
        constructor
        · intro hh
          simp only [Bool.and_eq_true,Bool.not_eq_true',decide_eq_true_eq] at hh
          obtain ⟨i,f,y,hi,hf,hy,hin⟩:=h1.1 hh.1
          refine ⟨i,f,y,?_,hf,hy,hin⟩
          rcases Nat.lt_or_ge m i with hlt|hge
          · exact hlt
          · exfalso
            obtain rfl:i=m:=by omega
            rw [hm] at hf
            obtain rfl:=Option.some.inj hf
            obtain ⟨_,j2,j3,_⟩:=hin
            dsimp only at j2 j3
            have h2:=hh.2.2
            rw [show decide (b≤c)=true from by simp;omega,show decide (c < b + w)=true from by simp;omega] at h2
            cases h2
        · rintro ⟨i,f,y,hi,hf,hy,hin⟩
          have hg:=h1.2 ⟨i,f,y,by omega,hf,hy,hin⟩
          have hno:¬ (b≤c∧c < b + w):=fun hh=>by
            have:=h.same (k:=k) (c:=c) hm hf ⟨rfl,by dsimp only;omega,by dsimp only;omega⟩ ⟨hin.1,hin.2.1,hin.2.2.1⟩
            omega
          rw [hg]
          by_cases q1:b≤c
          · have q2:¬ c < b + w:=fun hh=>hno ⟨q1,hh⟩
            simp [hc,q1,q2]
          · simp [hc,q1]
      · rw [List.getElem?_set_ne e] at ha'
        rw [i4 k' c a' ha' hc]
        constructor
        · rintro ⟨i,f,y,hi,hf,hy,hin⟩
          refine ⟨i,f,y,?_,hf,hy,hin⟩
          rcases Nat.lt_or_ge m i with hlt|hge
          · exact hlt
          · exfalso
            obtain rfl:i=m:=by omega
            rw [hm] at hf
            obtain rfl:=Option.some.inj hf
            have:=hin.1
            dsimp only at this
            omega
        · rintro ⟨i,f,y,hi,hr⟩;exact ⟨i,f,y,by omega,hr⟩
  · rintro ⟨out,rest⟩ ⟨i1,i2,i3,i4⟩
    dsimp only at i1 i2 i3 i4
    rw [CJ]
    dsimp only
    have hout:out=s:=by
      apply List.ext_getElem?
      intro i
      rcases Nat.lt_or_ge i s.length with hi|hi
      · obtain ⟨x,hx⟩:=AD (l:=s) (k:=i) hi
        rw [hx];exact i2 i x (by omega) hx
      · rw [List.getElem?_eq_none hi,List.getElem?_eq_none (by omega)]
    subst hout
    refine LH (fun _ _=>True) trivial (fun k a _ hk _=>⟨(),?_,trivial⟩) (fun _ _=>rfl)
    obtain ⟨a',ha'⟩:=AD (l:=rest) (k:=k) (by have:=AC hk;omega)
    rw [ha',Ar]
    have hz:a'=0:=by
      apply BitVec.eq_of_getLsbD_eq
      intro c hc
      cases hg:a'.getLsbD c with
      | false=>simp
      | true =>
        obtain ⟨i,f,x,hi,hf,_⟩:=(i4 k c a' ha' hc).1 hg
        have:=AC hf
        omega
    subst hz
    rw [if_neg (by simp)]
theorem NN {vars:List Int} {p:Pkr} (h:PkOk vars p) (hl:vars.length≤64) {s s':List Int} (hs:StateOk vars s) (hs':StateOk vars s') {ws:List U64} (h1:BA p s=some (ws,⟨0⟩)) (h2:BA p s'=some (ws,⟨0⟩)):s=s':=by
  obtain ⟨r,r1,r2,r3,r4⟩:=IE h hl hs
  obtain ⟨q,q1,q2,q3,q4⟩:=IE h hl hs'
  rw [h1] at r1
  rw [h2] at q1
  obtain rfl:=Option.some.inj r1
  obtain rfl:=Option.some.inj q1
  have e1:=Ii h hl hs r3 r4
  have e2:=Ii h hl hs' q3 q4
  rw [e1] at e2
  have:=Option.some.inj e2
  exact congrArg Prod.fst this
end
section
open Go Go.RowKit
theorem Ke {K V:Type} [MKey K] (z:V) (k k':K) (v:V):∀ l:List (K×V),mget z (mput l k v) k'=if k=k' then v else mget z l k'
  | []=>by simp only [mput,mget]
  | p :: r=>by
    have ih:=Ke z k k' v r
    simp only [mput]
    by_cases h1:p.1=k
    · rw [if_pos h1]
      simp only [mget]
      by_cases h2:k=k'
      · rw [if_pos h2,if_pos h2]
      · rw [if_neg h2,if_neg h2,if_neg (by rw [h1];exact h2)]
    · rw [if_neg h1]
      simp only [mget,ih]
      by_cases h2:k=k'
      · rw [if_pos h2,if_pos h2,if_neg (by rw [← h2];exact h1)]
      · rw [if_neg h2,if_neg h2]
theorem MW (p:Pkr) (ws:List U64):∃ h,BN p ws=some h:=by
  have:∃ r,BN p ws=some r∧True:=by
    unfold BN
    refine GT (fun _ _=>True) (fun _=>False) trivial (fun i x s _ _=>.inl ?_) (fun s _=>?_) (fun q hq=>hq.elim)
    · exact ⟨_,rfl,trivial⟩
    · exact ⟨_,rfl,trivial⟩
  obtain ⟨h,h1,_⟩:=this
  exact ⟨h,h1⟩
theorem PN (a b:List U64):Br a b=some (decide (a=b)):=by
  unfold Br
  by_cases hl:(a.length:Int)=(b.length:Int)
  · rw [if_neg (by omega)]
    have:∃ r,(bnd (rng (ρ:=Bool) (fun (k18:Nat) (a19:U64) (_:Unit)=>bnd (b[k18]?) fun a36=>if (a19.toNat:Int)≠(a36.toNat:Int) then (some (.ret false)) else (some (.next ()))) a 0 ()) fun res14=>fin res14 fun (_:Unit)=>some true)=some r∧r=decide (a=b):=by
      refine GT (fun m _=>∀ (i:Nat),i < m→a[i]?=b[i]?) (fun r=>r=false∧a≠b) (fun i hi=>by omega) ?_ ?_ ?_
      · intro i x _ hx hI
        obtain ⟨y,hy⟩:=AD (l:=b) (k:=i) (by have:=AC hx;omega)
        rw [hy,Ar]
        by_cases he:x=y
        · subst he
          rw [if_neg (by simp)]
          refine .inl ⟨(),rfl,fun j hj=>?_⟩
          by_cases e:j=i
          · subst e;rw [hx,hy]
          · exact hI j (by omega)
        · rw [if_pos (fun h=>he (BitVec.eq_of_toNat_eq (by omega)))]
          refine .inr ⟨_,rfl,rfl,fun h=>he ?_⟩
          rw [h,hy] at hx
          exact (Option.some.inj hx).symm
      · intro _ hI
        refine ⟨_,rfl,?_⟩
        symm
        rw [decide_eq_true_eq]
        apply List.ext_getElem?
        intro i
        rcases Nat.lt_or_ge i a.length with h|h
        · exact hI i h
        · rw [List.getElem?_eq_none h,List.getElem?_eq_none (by omega)]
      · rintro q ⟨rfl,hne⟩
        exact ⟨_,rfl,by simp [hne]⟩
    obtain ⟨r,h1,h2⟩:=this
    rw [h1,h2]
  · rw [if_pos hl]
    congr 1
    symm
    rw [decide_eq_false_iff_not]
    exact fun h=>hl (by rw [h])
structure RegI (vars:List Int) (r:Reg) (L:List (List Int)):Prop where
  pk:PkOk vars r.packer
  len:r.entries.length=L.length
  st:∀ (i:Nat) s,L[i]?=some s→StateOk vars s
  words:∀ (i:Nat) s e,L[i]?=some s→r.entries[i]?=some e→BA r.packer s=some (e.words,⟨0⟩)
  nodup:∀ (i j:Nat) s,L[i]?=some s→L[j]?=some s→i=j
  tab:∀ (i:Nat) e,r.entries[i]?=some e→∃ h,BN r.packer e.words=some h∧(i:Int)∈mget ([]:List Int) r.table.l h
  val:∀ h a,a∈mget ([]:List Int) r.table.l h→∃ i:Nat,a=(i:Int)∧i < L.length
  few:∀ h,(mget ([]:List Int) r.table.l h).length≤L.length
def links (r:Reg):List RLk:=r.entries.map (·.link)
theorem MX {vars:List Int} (hl:vars.length≤64) (hv:∀ (i:Nat) n,vars[i]?=some n→1≤n∧n≤64):∃ r,CR vars=some r∧∃ q,r=(some q,⟨0⟩)∧RegI vars q []∧links q=[]:=by
  obtain ⟨r,h1,p,rfl,hp⟩:=Mo hl hv
  unfold CR
  rw [h1,Ar,if_neg (by simp),Ar]
  exact ⟨_,rfl,_,rfl,⟨hp,rfl,fun i s h=>by simp at h,fun i s e h=>by simp at h,fun i j s h=>by simp at h,fun i e h=>by simp at h,fun h a ha=>by simp [mget] at ha,fun h=>by simp [mget]⟩,rfl⟩
theorem Mp {vars:List Int} (hl:vars.length≤64) {r:Reg} {L:List (List Int)} (h:RegI vars r L) {s:List Int} (hs:StateOk vars s):∃ (ws:List U64) (hh:Int),BA r.packer s=some (ws,⟨0⟩)∧BN r.packer ws=some hh ∧
    ((∃ i:Nat,L[i]?=some s∧Bo r s=some (ws,hh,(i:Int),⟨0⟩))∨((∀ i:Nat,L[i]?≠some s)∧Bo r s=some (ws,hh,-1,⟨0⟩))):=by
  obtain ⟨⟨ws,er⟩,p1,p2,p3,p4⟩:=IE h.pk hl hs
  dsimp only at p2 p3 p4
  subst p2
  obtain ⟨hh,hhe⟩:=MW r.packer ws
  refine ⟨ws,hh,p1,hhe,?_⟩
  have key:∃ res,Bo r s=some res∧((∃ i:Nat,L[i]?=some s∧res=(ws,hh,(i:Int),⟨0⟩))∨((∀ i:Nat,L[i]?≠some s)∧res=(ws,hh,-1,⟨0⟩))):=by
    unfold Bo
    rw [p1,Ar,if_neg (by simp),hhe,Ar]
    refine GT (fun m _=>∀ (j:Nat) (i:Nat),j < m→(mget ([]:List Int) r.table.l hh)[j]?=some (i:Int)→L[i]?≠some s) (fun res=>∃ i:Nat,L[i]?=some s∧res=(ws,hh,(i:Int),⟨0⟩)) (fun j i hj=>by omega) ?_ ?_ ?_
    · intro m a _ hm hI
      obtain ⟨i,rfl,hi⟩:=h.val hh a (List.mem_of_getElem? hm)
      obtain ⟨e,he⟩:=AD (l:=r.entries) (k:=i) (by rw [h.len];exact hi)
      obtain ⟨s',hs'⟩:=AD (l:=L) (k:=i) hi
      have hw:=h.words i s' e hs' he
      rw [Cn,he,Ar,PN,Ar]
      by_cases hew:e.words=ws
      · rw [decide_eq_true hew,DZ]
        rw [hew] at hw
        have:=NN h.pk hl (h.st i s' hs') hs hw p1
        subst this
        exact .inr ⟨_,rfl,i,hs',rfl⟩
      · rw [decide_eq_false hew,Dm]
        refine .inl ⟨(),rfl,fun j i' hj hi'=>?_⟩
        by_cases e1:j=m
        · subst e1
          rw [hm] at hi'
          have e2:i=i':=by have:=Option.some.inj hi';omega
          subst e2
          intro hL
          rw [hL] at hs'
          obtain rfl:=Option.some.inj hs'
          rw [p1] at hw
          exact hew (congrArg Prod.fst (Option.some.inj hw)).symm
        · exact hI j i' (by omega) hi'
    · intro _ hI
      refine ⟨_,rfl,.inr ⟨fun i hL=>?_,rfl⟩⟩
      obtain ⟨e,he⟩:=AD (l:=r.entries) (k:=i) (by rw [h.len];exact AC hL)
      have hw:=h.words i s e hL he
      rw [p1] at hw
      have hwe:ws=e.words:=congrArg Prod.fst (Option.some.inj hw)
      obtain ⟨h',t1,t2⟩:=h.tab i e he
      rw [← hwe,hhe] at t1
      obtain rfl:=Option.some.inj t1
      obtain ⟨j,hj⟩:=List.getElem?_of_mem t2
      exact hI j i (AC hj) hj hL
    · rintro q ⟨i,hi,rfl⟩
      exact ⟨_,rfl,.inl ⟨i,hi,rfl⟩⟩
  obtain ⟨res,k1,k2⟩:=key
  rcases k2 with ⟨i,hi,rfl⟩|⟨hn,rfl⟩
  · exact .inl ⟨i,hi,k1⟩
  · exact .inr ⟨hn,k1⟩
theorem Kf {vars:List Int} (hl:vars.length≤64) {r:Reg} {L:List (List Int)} (h:RegI vars r L) {s:List Int} (hs:StateOk vars s) (hL:L.length < 65536) :
    (∃ i:Nat,L[i]?=some s∧Bf r s=some ((i:Int),false,⟨0⟩,r))∨((∀ i:Nat,L[i]?≠some s)∧∃ r',Bf r s=some ((L.length:Int),true,⟨0⟩,r')∧RegI vars r' (L ++ [s])∧links r'=links r ++ [⟨-1,-1,0⟩]):=by
  obtain ⟨ws,hh,p1,p2,hf⟩:=Mp hl h hs
  unfold Bf
  have hlen:=h.len
  rcases hf with ⟨i,hi,hf⟩|⟨hno,hf⟩
  · refine .inl ⟨i,hi,?_⟩
    rw [hf,Ar,if_neg (by simp),if_pos (by dsimp only;omega)]
  · refine .inr ⟨hno,?_⟩
    have hfew:=h.few hh
    rw [hf,Ar,if_neg (by simp),if_neg (by dsimp only;omega),if_neg (by omega)]
    dsimp only
    rw [CE (by simp;omega) (by simp;omega),Ar,CE (by simp;omega) (by simp;omega),Ar,hlen]
    have hget:∀ k,mget ([]:List Int) (mput r.table.l hh (mget ([]:List Int) r.table.l hh ++ [(L.length:Int)])) k=if hh=k then mget ([]:List Int) r.table.l hh ++ [(L.length:Int)] else mget ([]:List Int) r.table.l k:=fun k=>Ke _ _ _ _ _
    refine ⟨_,rfl,⟨h.pk,by simp [hlen],?_,?_,?_,?_,?_,?_⟩,by simp [links]⟩
    · intro i s' hi
      rcases Dy hi with hi|⟨_,rfl⟩
      · exact h.st i s' hi
      · exact hs
    · intro i s' e hi he
      rcases Dy hi with hi|⟨hi,rfl⟩
      · rcases Dy he with he|⟨he,_⟩
        · exact h.words i s' e hi he
        · have:=AC hi;omega
      · rcases Dy he with he|⟨he,rfl⟩
        · have:=AC he;omega
        · exact p1
    · intro i j s' hi hj
      rcases Dy hi with hi2|⟨hi2,hs2⟩
      · rcases Dy hj with hj2|⟨hj2,hs2⟩
        · exact h.nodup i j s' hi2 hj2
        · exact absurd (hs2 ▸ hi2) (hno i)
      · rcases Dy hj with hj2|⟨hj2,_⟩
        · exact absurd (hs2 ▸ hj2) (hno j)
        · omega
    · intro i e he
      rcases Dy he with he|⟨hi,rfl⟩
      · obtain ⟨k,k1,k2⟩:=h.tab i e he
        refine ⟨k,k1,?_⟩
        dsimp only
        rw [hget]
        by_cases e1:hh=k
        · subst e1;rw [if_pos rfl];exact List.mem_append_left _ k2
        · rw [if_neg e1];exact k2
      · refine ⟨hh,p2,?_⟩
        dsimp only
        rw [hget,if_pos rfl,hi,hlen]
        simp
    · intro k a ha
      dsimp only at ha
      rw [hget] at ha
      simp only [List.length_append,List.length_singleton]
      by_cases e1:hh=k
      · rw [if_pos e1] at ha
        rcases List.mem_append.1 ha with ha|ha
        · obtain ⟨i,h1,h2⟩:=h.val hh a ha;exact ⟨i,h1,by omega⟩
        · exact ⟨L.length,by simpa using ha,by omega⟩
      · rw [if_neg e1] at ha
        obtain ⟨i,h1,h2⟩:=h.val k a ha;exact ⟨i,h1,by omega⟩
    · intro k
      dsimp only
      rw [hget]
      have:=h.few k
      simp only [List.length_append,List.length_singleton]
      by_cases e1:hh=k
      · rw [if_pos e1];simp;omega
      · rw [if_neg e1];omega
theorem MY {vars:List Int} {r:Reg} {L:List (List Int)} (h:RegI vars r L) {i:Nat} (hi:i < L.length):BV r (i:Int)=some true:=by
  unfold BV
  rw [if_pos (by omega),if_pos (by rw [h.len];omega)]
  rfl
theorem Lr {vars:List Int} (hl:vars.length≤64) {r:Reg} {L:List (List Int)} (h:RegI vars r L) {i:Nat} {s:List Int} (hi:L[i]?=some s):Bw r (i:Int)=some (s,⟨0⟩):=by
  obtain ⟨e,he⟩:=AD (l:=r.entries) (k:=i) (by rw [h.len];exact AC hi)
  have hs:=h.st i s hi
  obtain ⟨⟨ws,er⟩,p1,p2,p3,p4⟩:=IE h.pk hl hs
  have hw:=h.words i s e hi he
  rw [p1] at hw
  have hwe:ws=e.words:=congrArg Prod.fst (Option.some.inj hw)
  dsimp only at p3 p4
  rw [hwe] at p3 p4
  unfold Bw
  rw [MY h (AC hi),Ar,DZ,Cn,he,Ar,Ii h.pk hl hs p3 p4,Ar]
end
section
open Go Go.RowKit
inductive Rch (t:Tsk):List Int→Prop
  | init:Rch t t.init
  | step {s:List Int} {k:Nat} {o:Opr}:Rch t s→t.ops[k]?=some o→holdsB o.pre s=true→Rch t (succ o s)
theorem Rch.ok {t:Tsk} (h:TaskOk t) {s:List Int} (hr:Rch t s):StateOk t.vars s:=by
  induction hr with
  | init=>exact h.2.2.2.1
  | step _ ho _ ih=>exact LG h ih ho
end
section
open Go Go.RowKit
theorem Ij {α:Type} [DecidableEq α]:∀ {a b:List α},a.Nodup→(∀ x∈a,x∈b)→a.length≤b.length
  | [],_,_,_=>Nat.zero_le _
  | x :: a,b,hn,hs=>by
    have hx:=hs x List.mem_cons_self
    have h1:=Ij (a:=a) (b:=b.erase x) (List.nodup_cons.1 hn).2 fun y hy=>(List.mem_erase_of_ne (fun e=>(List.nodup_cons.1 hn).1 (by rw [← e];exact hy))).2 (hs y (List.mem_cons_of_mem _ hy))
    have h2:=List.length_erase_of_mem hx
    have h3:=List.length_pos_of_mem hx
    simp only [List.length_cons]
    omega
end
section
open Go Go.RowKit
def appB (t:Tsk) (s:List Int) (k:Nat):Bool:=match t.ops[k]? with|some o=>holdsB o.pre s|none=>false
def appN (t:Tsk) (s:List Int) (m:Nat):List Nat:=(List.range m).filter (appB t s)
def sucN (t:Tsk) (s:List Int) (k:Nat):List Int:=match t.ops[k]? with|some o=>succ o s|none=>s
theorem PO (t:Tsk) (s:List Int):appl t s=(appN t s t.ops.length).map fun k:Nat=>(k:Int):=rfl
theorem FL {t:Tsk} {s:List Int} {k:Nat} (h:appB t s k=true):∃ o,t.ops[k]?=some o∧holdsB o.pre s=true∧sucN t s k=succ o s:=by
  unfold appB at h
  cases ho:t.ops[k]? with
  | none=>rw [ho] at h;cases h
  | some o=>rw [ho] at h;exact ⟨o,rfl,h,by unfold sucN;rw [ho]⟩
theorem LL {t:Tsk} {s:List Int} {k:Nat} {o:Opr} (ho:t.ops[k]?=some o):appB t s k=holdsB o.pre s∧sucN t s k=succ o s:=by unfold appB sucN;rw [ho];exact ⟨rfl,rfl⟩
end
section
set_option linter.unusedVariables false
set_option linter.unusedSimpArgs false
open Go Go.RowKit
def putL (L:List (List Int)) (s:List Int):List (List Int):=if s∈L then L else L ++ [s]
def foldP (t:Tsk) (s:List Int) (L:List (List Int)) (ks:List Nat):List (List Int):=ks.foldl (fun L k=>putL L (sucN t s k)) L
def expL (t:Tsk) (s:List Int) (L:List (List Int)) (m:Nat):List (List Int):=foldP t s L (appN t s m)
theorem Kg (t:Tsk) (s:List Int) (m:Nat):appN t s (m + 1)=appN t s m ++ if appB t s m=true then [m] else []:=by
  unfold appN
  rw [List.range_succ,List.filter_append]
  by_cases h:appB t s m=true<;>simp [h]
theorem MZ (t:Tsk) (s:List Int) (L:List (List Int)) (m:Nat):expL t s L (m + 1)=if appB t s m=true then putL (expL t s L m) (sucN t s m) else expL t s L m:=by
  unfold expL foldP
  rw [Kg,List.foldl_append]
  by_cases h:appB t s m=true
  · rw [if_pos h,if_pos h];rfl
  · rw [if_neg h,if_neg h];rfl
theorem KY (L:List (List Int)) (s:List Int):∃ A,putL L s=L ++ A:=by
  unfold putL
  split
  · exact ⟨[],by simp⟩
  · exact ⟨[s],rfl⟩
theorem NO (L:List (List Int)) (s:List Int):s∈putL L s:=by
  unfold putL
  split
  · assumption
  · simp
theorem Eb (t:Tsk) (s:List Int):∀ (ks:List Nat) (L:List (List Int)),∃ A,foldP t s L ks=L ++ A
  | [],L=>⟨[],by simp [foldP]⟩
  | k :: ks,L=>by
    obtain ⟨A,hA⟩:=KY L (sucN t s k)
    obtain ⟨B,hB⟩:=Eb t s ks (putL L (sucN t s k))
    exact ⟨A ++ B,by rw [← List.append_assoc,← hA,← hB];rfl⟩
theorem Jv (t:Tsk) (s:List Int) (L:List (List Int)) (ks:List Nat) (k:Nat):foldP t s L (ks ++ [k])=putL (foldP t s L ks) (sucN t s k):=by unfold foldP;rw [List.foldl_append];rfl
theorem Ik (t:Tsk) (s:List Int):∀ (ks:List Nat) (L:List (List Int)) (k:Nat),k∈ks→sucN t s k∈foldP t s L ks
  | [],_,_,h=>by simp at h
  | q :: ks,L,k,h=>by
    rcases List.mem_cons.1 h with rfl|h
    · obtain ⟨B,hB⟩:=Eb t s ks (putL L (sucN t s k))
      show _∈foldP t s (putL L (sucN t s k)) ks
      rw [hB];exact List.mem_append_left _ (NO _ _)
    · exact Ik t s ks _ k h
structure BL (t:Tsk) (L:List (List Int)):Prop where
  root:L[0]?=some t.init
  nodup:L.Nodup
  rch:∀ s∈L,Rch t s
theorem GV (t:Tsk):BL t [t.init]:=⟨rfl,by simp,fun s h=>by simp at h;rw [h];exact .init⟩
theorem BL.ok {t:Tsk} {L:List (List Int)} (h:BL t L) (hok:TaskOk t) {s:List Int} (hs:s∈L):StateOk t.vars s:=(h.rch s hs).ok hok
theorem BL.few {t:Tsk} {L:List (List Int)} (h:BL t L) (hs:Mid t):L.length≤600:=Nat.le_trans (Ij h.nodup fun s hm=>IP.2 (h.ok hs.ok hm)) hs.many
theorem BL.many {t:Tsk} {L:List (List Int)} (h:BL t L) (hok:TaskOk t):L.length≤(statesL t.vars).length:=Ij h.nodup fun s hm=>IP.2 (h.ok hok hm)
theorem BL.put {t:Tsk} {L:List (List Int)} (h:BL t L) {s:List Int} (hs:s∈L) {k:Nat} (hk:appB t s k=true):BL t (putL L (sucN t s k)):=by
  unfold putL
  by_cases hm:sucN t s k∈L
  · rw [if_pos hm];exact h
  · rw [if_neg hm]
    obtain ⟨o,ho,hp,hsu⟩:=FL hk
    refine ⟨?_,?_,fun u hu=>?_⟩
    · rw [List.getElem?_append_left (AC h.root)];exact h.root
    · rw [List.nodup_append]
      refine ⟨h.nodup,by simp,fun a ha b hb=>?_⟩
      simp at hb
      rintro rfl
      exact hm (hb ▸ ha)
    · rcases List.mem_append.1 hu with hu|hu
      · exact h.rch u hu
      · simp at hu;rw [hu,hsu];exact (h.rch s hs).step ho hp
theorem BL.fold {t:Tsk} {s:List Int}:∀ {ks:List Nat} {L:List (List Int)},BL t L→s∈L→(∀ k∈ks,appB t s k=true)→BL t (foldP t s L ks)
  | [],_,h,_,_=>h
  | k :: ks,L,h,hs,hk=>by
    obtain ⟨A,hA⟩:=KY L (sucN t s k)
    exact BL.fold (L:=putL L (sucN t s k)) (h.put hs (hk k List.mem_cons_self)) (by rw [hA];exact List.mem_append_left _ hs) fun q hq=>hk q (List.mem_cons_of_mem _ hq)
theorem Gm {t:Tsk} {s:List Int} {m k:Nat} (h:k∈appN t s m):appB t s k=true∧k < m:=by
  unfold appN at h
  obtain ⟨h1,h2⟩:=List.mem_filter.1 h
  exact ⟨h2,List.mem_range.1 h1⟩
theorem KZ {t:Tsk} {s:List Int} {m k:Nat} (h:appB t s k=true) (hk:k < m):k∈appN t s m:=List.mem_filter.2 ⟨List.mem_range.2 hk,h⟩
theorem BL.exp {t:Tsk} {s:List Int} {L:List (List Int)} (h:BL t L) (hs:s∈L) (m:Nat):BL t (expL t s L m):=h.fold hs fun k hk=>(Gm hk).1
def CloL (t:Tsk) (i:Nat) (L:List (List Int)):Prop:=∀ (j:Nat) s k,j < i→L[j]?=some s→appB t s k=true→sucN t s k∈L
theorem CloL.exp {t:Tsk} {i:Nat} {L:List (List Int)} (h:CloL t i L) {s:List Int} (hs:L[i]?=some s):CloL t (i + 1) (expL t s L t.ops.length):=fun j u k hj hu hk=>by
  obtain ⟨A,hA⟩:=Eb t s (appN t s t.ops.length) L
  have hi:=AC hs
  have e:expL t s L t.ops.length=L ++ A:=hA
  rw [e,List.getElem?_append_left (by omega)] at hu
  by_cases e2:j=i
  · subst e2
    rw [hs] at hu
    obtain rfl:=Option.some.inj hu
    obtain ⟨o,ho,_⟩:=FL hk
    exact Ik t s _ _ k (KZ hk (AC ho))
  · rw [e];exact List.mem_append_left _ (h j u k (by omega) hu hk)
inductive Bx (t:Tsk) (lim:Int):Nat→List (List Int)→Option (List (List Int))→Prop
  | full {i:Nat} {L:List (List Int)}:lim < (L.length:Int)→Bx t lim i L none
  | done {i:Nat} {L:List (List Int)}:(L.length:Int)≤lim→L.length≤i→Bx t lim i L (some L)
  | step {i:Nat} {L:List (List Int)} {s:List Int} {r:Option (List (List Int))}:(L.length:Int)≤lim→L[i]?=some s→Bx t lim (i + 1) (expL t s L t.ops.length) r→Bx t lim i L r
theorem Ot {t:Tsk} (hs:Mid t) (lim:Int):∀ (n i:Nat) (L:List (List Int)),601 - i < n→BL t L→∃ r,Bx t lim i L r
  | 0,_,_,h,_=>absurd h (by omega)
  | n + 1,i,L,h,hL=>by
    by_cases h1:lim < (L.length:Int)
    · exact ⟨_,.full h1⟩
    · by_cases h2:L.length≤i
      · exact ⟨_,.done (by omega) h2⟩
      · have hf:=hL.few hs
        obtain ⟨s,hs'⟩:=AD (l:=L) (k:=i) (by omega)
        obtain ⟨r,hr⟩:=Ot hs lim n (i + 1) (expL t s L t.ops.length) (by omega) (hL.exp (List.mem_of_getElem? hs') _)
        exact ⟨r,.step (by omega) hs' hr⟩
structure EndL (t:Tsk) (lim:Int) (L:List (List Int)):Prop where
  bl:BL t L
  clo:CloL t L.length L
  few:(L.length:Int)≤lim
theorem Bx.ends {t:Tsk} {lim:Int} {i:Nat} {L:List (List Int)} {r:Option (List (List Int))} (h:Bx t lim i L r):BL t L→CloL t i L→∀ L',r=some L'→EndL t lim L':=by
  induction h with
  | full _=>intro _ _ _ h;cases h
  | done h1 h2=>intro hb hc L' h;cases h;exact ⟨hb,fun j s k hj hs hk=>hc j s k (by omega) hs hk,h1⟩
  | @step i L s r h1 h2 _ ih =>
    intro hb hc L' h
    exact ih (hb.exp (List.mem_of_getElem? h2) _) (hc.exp h2) L' h
def idxE (L:List (List Int)) (s:List Int):Int:=(L.idxOf s:Int)
def edgK (t:Tsk) (L:List (List Int)) (s:List Int) (i:Nat) (ks:List Nat):List Edj:=ks.map fun k:Nat=>(⟨(i:Int),(k:Int),idxE L (sucN t s k)⟩:Edj)
def edgL (t:Tsk) (L:List (List Int)) (i:Nat):List Edj:=(List.range i).flatMap fun j=>match L[j]? with|some s=>edgK t L s j (appN t s t.ops.length)|none=>[]
theorem NP {L A:List (List Int)} {s:List Int} (h:s∈L):idxE (L ++ A) s=idxE L s:=by unfold idxE;rw [List.idxOf_append,if_pos h]
theorem NQ {L:List (List Int)} {s:List Int} (h:¬ s∈L):idxE (L ++ [s]) s=(L.length:Int):=by unfold idxE;rw [List.idxOf_append,if_neg h];simp
theorem LM {L:List (List Int)} {s:List Int} (h:s∈L):∃ i:Nat,idxE L s=(i:Int)∧L[i]?=some s:=⟨L.idxOf s,rfl,by rw [List.getElem?_eq_getElem (List.idxOf_lt_length_of_mem h),List.getElem_idxOf]⟩
theorem NS {α:Type} {L:List α} (hn:L.Nodup) {i j:Nat} {s:α} (h1:L[i]?=some s) (h2:L[j]?=some s):i=j:=by
  obtain ⟨a1,b1⟩:=List.getElem?_eq_some_iff.1 h1
  obtain ⟨a2,b2⟩:=List.getElem?_eq_some_iff.1 h2
  rcases Nat.lt_trichotomy i j with h|h|h
  · exact ((List.pairwise_iff_getElem.1 hn) i j a1 a2 h (by rw [b1,b2])).elim
  · exact h
  · exact ((List.pairwise_iff_getElem.1 hn) j i a2 a1 h (by rw [b1,b2])).elim
theorem PP {L:List (List Int)} (hn:L.Nodup) {i:Nat} {s:List Int} (h:L[i]?=some s):idxE L s=(i:Int):=by
  obtain ⟨j,h1,h2⟩:=LM (List.mem_of_getElem? h)
  rw [h1,NS hn h2 h]
theorem La {t:Tsk} {L A:List (List Int)} {s:List Int} {i:Nat} {ks:List Nat} (h:∀ k∈ks,sucN t s k∈L):edgK t (L ++ A) s i ks=edgK t L s i ks:=by
  unfold edgK
  exact List.map_congr_left fun k hk=>by rw [NP (h k hk)]
theorem JL {α β:Type} {l:List α} {f g:α→List β} (h:∀ a∈l,f a=g a):l.flatMap f=l.flatMap g:=by
  induction l with
  | nil=>rfl
  | cons a l ih=>rw [List.flatMap_cons,List.flatMap_cons,h a List.mem_cons_self,ih fun b hb=>h b (List.mem_cons_of_mem _ hb)]
theorem NT {t:Tsk} {L A:List (List Int)} {i:Nat} (hi:i≤L.length) (h:CloL t i L):edgL t (L ++ A) i=edgL t L i:=by
  unfold edgL
  refine JL fun j hj=>?_
  have hji:=List.mem_range.1 hj
  obtain ⟨s,hs⟩:=AD (l:=L) (k:=j) (by omega)
  rw [List.getElem?_append_left (by omega),hs]
  exact La fun k hk=>h j s k hji hs (Gm hk).1
theorem Kh {t:Tsk} {L:List (List Int)} {i:Nat} {s:List Int} (hs:L[i]?=some s):edgL t L (i + 1)=edgL t L i ++ edgK t L s i (appN t s t.ops.length):=by
  unfold edgL
  rw [List.range_succ,List.flatMap_append,List.flatMap_singleton,hs]
theorem NU {t:Tsk} {L:List (List Int)} {i:Nat} {e:Edj}:e∈edgL t L i↔∃ (j k:Nat) (s:List Int),j < i∧L[j]?=some s∧appB t s k=true∧e=⟨(j:Int),(k:Int),idxE L (sucN t s k)⟩:=by
  unfold edgL
  rw [List.mem_flatMap]
  constructor
  · rintro ⟨j,hj,he⟩
    cases hs:L[j]? with
    | none=>rw [hs] at he;simp at he
    | some s =>
      rw [hs] at he
      obtain ⟨k,hk,rfl⟩:=List.mem_map.1 he
      exact ⟨j,k,s,List.mem_range.1 hj,hs,(Gm hk).1,rfl⟩
  · rintro ⟨j,k,s,hj,hs,hk,rfl⟩
    refine ⟨j,List.mem_range.2 hj,?_⟩
    rw [hs]
    obtain ⟨o,ho,_⟩:=FL hk
    exact List.mem_map.2 ⟨k,KZ hk (AC ho),rfl⟩
theorem Je (t:Tsk) (s:List Int) (m:Nat):(appN t s m).length≤m:=by
  unfold appN
  exact Nat.le_trans (List.length_filter_le _ _) (by simp)
theorem Ho (t:Tsk) (L:List (List Int)):∀ (i:Nat),(edgL t L i).length≤i * t.ops.length
  | 0=>by simp [edgL]
  | i + 1=>by
    have h:=Ho t L i
    unfold edgL at h ⊢
    rw [List.range_succ,List.flatMap_append,List.flatMap_singleton,List.length_append,Nat.succ_mul]
    have:(match L[i]? with|some s=>edgK t L s i (appN t s t.ops.length)|none=>[]).length≤t.ops.length:=by
      cases L[i]? with
      | none=>simp
      | some s=>dsimp only;unfold edgK;rw [List.length_map];exact Je _ _ _
    omega
theorem EndL.edges {t:Tsk} {lim:Int} {L:List (List Int)} (h:EndL t lim L) (hs:Mid t):EdgesOk t L.length (edgL t L L.length):=by
  have hf:=h.bl.few hs
  refine ⟨fun e he=>?_,?_⟩
  · obtain ⟨j,k,s,hj,hsj,hk,rfl⟩:=NU.1 he
    obtain ⟨i,h1,h2⟩:=LM (h.clo j s k hj hsj hk)
    obtain ⟨o,ho,_⟩:=FL hk
    have:=AC h2
    have:=AC ho
    rw [h1]
    dsimp only;omega
  · have h1:=Ho t L L.length
    have h2:=hs.ops
    have:L.length * t.ops.length≤600 * 80:=Nat.mul_le_mul hf h2
    omega
-- the document
theorem Lb (L:List (List Int)) (s:List Int):Db L s=some (if s∈L then idxE L s else -1):=by
  have key:∃ r,Db L s=some r∧r=(if s∈L then idxE L s else -1):=by
    unfold Db
    refine GT (fun k _=>¬ s∈L.take k) (fun r=>s∈L∧r=idxE L s) (by simp) (fun k a u hk hI=>?_) (fun u hI=>⟨_,rfl,?_⟩) (fun r hr=>⟨_,rfl,?_⟩)
    · unfold DR
      rw [Ar]
      by_cases e:a=s
      · rw [Cb e,DZ]
        subst e
        refine .inr ⟨_,rfl,List.mem_of_getElem? hk,?_⟩
        have hk2:=AC hk
        have:L=L.take k ++ (a :: L.drop (k + 1)):=by
          have h2:=List.drop_eq_getElem_cons hk2
          rw [(List.getElem?_eq_some_iff.1 hk).2] at h2
          rw [← h2,List.take_append_drop]
        unfold idxE
        rw [this,List.idxOf_append,if_neg hI]
        simp;omega
      · rw [Bh e,Dm]
        refine .inl ⟨(),rfl,fun hm=>?_⟩
        rcases (Fz hk).1 hm with hm|rfl
        · exact hI hm
        · exact e rfl
    · rw [List.take_length] at hI;rw [if_neg hI]
    · rw [if_pos hr.1];exact hr.2
  obtain ⟨r,h1,h2⟩:=key
  rw [h1,h2]
theorem NV (L:List (List Int)) (s:List Int):0≤idxE L s:=by unfold idxE;omega
theorem Ls {t:Tsk} (hs:Mid t) {lim:Int} {L:List (List Int)} (h:EndL t lim L):Ek t L=some (edgL t L L.length):=by
  have hf:=h.bl.few hs
  have hops:=hs.ops
  unfold Ek
  rw [EA (fun m=>edgL t L m) (by simp [edgL]) (fun i s hi=>?_),Ar,CJ]
  have hil:=AC hi
  have hsok:=h.bl.ok hs.ok (List.mem_of_getElem? hi)
  have hlen:=Ho t L i
  have hb:i * t.ops.length≤600 * 80:=Nat.mul_le_mul (by omega) hops
  rw [EA (fun m=>edgL t L i ++ edgK t L s i (appN t s m)) (by simp [edgK,appN]) (fun k o ho=>?_),Ar,CJ,Kh hi]
  obtain ⟨e1,e2⟩:=LL (s:=s) ho
  have hk:=AC ho
  have hlen2:(edgL t L i ++ edgK t L s i (appN t s k)).length≤60000:=by
    have:=Je t s k
    rw [List.length_append];unfold edgK;rw [List.length_map];omega
  rw [Kg,e1,Kc hs.ok hsok ho]
  by_cases hp:holdsB o.pre s=true
  · rw [if_pos hp,if_pos hp,Ar]
    dsimp only
    rw [DZ,Lb,Ar,if_pos (by rw [← e2];exact h.clo i s k hil hi (by rw [e1];exact hp)),CE (by rw [List.length_singleton];omega) (by rw [List.length_singleton];omega),Ar]
    unfold edgK
    rw [List.map_append,List.append_assoc,← e2];rfl
  · rw [if_neg hp,if_neg hp,Ar]
    dsimp only
    rw [Dm,List.append_nil]
abbrev LN:=List (List Int)×Int
noncomputable def rstF (x0:Tsk) (q25:Int):LN→Option (Ctl LN ((List (List Int))×Bool)):=fun s60=>bnd (if s60.2 < (s60.1.length:Int) then (if (s60.1.length:Int)≤q25 then (some true) else (some false)) else (some false):Option Bool) fun y79=>if y79=true then (bnd (rng (ρ:=Ctl LN ((List (List Int))×Bool)) (fun (k100:Nat) (a101:Opr) (s98:(List (List Int)))=>bnd (atI s98 s60.2) fun a115=>bnd (CI x0 a115 (k100:Int)) fun q130=>bnd (if q130.2=true then (bnd (Db s98 q130.1) fun q148=>if q148 < 0 then (some true) else (some false)) else (some false):Option Bool) fun y143=>if y143=true then (bnd (appI 24 s98 [q130.1]) fun u162=>some (.next u162)) else (some (.next s98))) x0.ops 0 s60.1) fun res96=>fin res96 fun (s178:(List (List Int)))=>bnd (chkI (s60.2 + 1)) fun n180=>some (.next (s178,n180))) else (some (.brk (s60.1,s60.2)))
noncomputable def rstE (q25:Int):Fin LN ((List (List Int))×Bool)→Option ((List (List Int))×Bool):=fun res58=>fin res58 fun (s187:LN)=>bnd (if (s187.1.length:Int)≤q25 then (some true) else (some false):Option Bool) fun y189=>some (s187.1,y189)
theorem OR (x0:Tsk) (x1:Int):Dx x0 x1=bnd (Eq x1 0 65536) fun q25=>bnd (appI 8 ([]:List Int) x0.init) fun u39=>bnd (lop (rstF x0 q25) ([u39],0)) (rstE q25):=rfl
theorem OS {t:Tsk} (hs:Mid t) {ρ:Type} {i:Nat} {L:List (List Int)} {s:List Int} (hb:BL t L) (hi:L[i]?=some s):rng (ρ:=ρ) (fun (k100:Nat) (a101:Opr) (s98:(List (List Int)))=>bnd (atI s98 (i:Int)) fun a115=>bnd (CI t a115 (k100:Int)) fun q130=>bnd (if q130.2=true then (bnd (Db s98 q130.1) fun q148=>if q148 < 0 then (some true) else (some false)) else (some false):Option Bool) fun y143=>if y143=true then (bnd (appI 24 s98 [q130.1]) fun u162=>some (.next u162)) else (some (.next s98))) t.ops 0 L=some (.done (expL t s L t.ops.length)):=by
  refine EA (fun m=>expL t s L m) (by simp [expL,appN,foldP]) fun k o ho=>?_
  have hmem:=List.mem_of_getElem? hi
  have hE:=hb.exp hmem k
  have hf:=hE.few hs
  obtain ⟨e1,e2⟩:=LL (s:=s) ho
  have hsok:=hb.ok hs.ok hmem
  obtain ⟨A,hA⟩:=Eb t s (appN t s k) L
  have hget:(expL t s L k)[i]?=some s:=by
    show (foldP t s L (appN t s k))[i]?=some s
    rw [hA,List.getElem?_append_left (AC hi)];exact hi
  rw [MZ,e1,Cn,hget,Ar,Kc hs.ok hsok ho]
  by_cases hp:holdsB o.pre s=true
  · rw [if_pos hp,if_pos hp,Ar]
    dsimp only
    rw [DZ,Lb,Ar,e2]
    unfold putL
    by_cases hm:succ o s∈expL t s L k
    · rw [if_pos hm,if_neg (by have:=NV (expL t s L k) (succ o s);omega),Ar,Dm,if_pos hm]
    · rw [if_neg hm,if_pos (by omega),Ar,DZ,CE (by rw [List.length_singleton];omega) (by rw [List.length_singleton];omega),Ar,if_neg hm]
  · rw [if_neg hp,if_neg hp,Ar]
    dsimp only
    rw [Dm,Ar,Dm]
def outS (r:Option (List (List Int))) (x:List (List Int)×Bool):Prop:=match r with|none=>x.2=false|some L=>x=(L,true)
theorem PQ {t:Tsk} (hs:Mid t) {lim:Int} {i:Nat} {L:List (List Int)} {r:Option (List (List Int))} (h:Bx t lim i L r):BL t L→∃ x,bnd (lop (rstF t lim) (L,(i:Int))) (rstE lim)=some x∧outS r x:=by
  induction h with
  | @full i L h1 =>
    intro _
    rw [Fj]
    unfold rstF
    dsimp only
    have e:(if (i:Int) < (L.length:Int) then (if (L.length:Int)≤lim then some true else some false) else some false)=some false:=by
      split
      · rw [if_neg (by omega)]
      · rfl
    rw [e,Ar,Dm]
    dsimp only
    rw [Ar]
    unfold rstE
    rw [CJ,if_neg (by dsimp only;omega),Ar]
    exact ⟨_,rfl,rfl⟩
  | @done i L h1 h2 =>
    intro _
    rw [Fj]
    unfold rstF
    dsimp only
    rw [if_neg (by omega),Ar,Dm]
    dsimp only
    rw [Ar]
    unfold rstE
    rw [CJ,if_pos (by dsimp only;omega),Ar]
    exact ⟨_,rfl,rfl⟩
  | @step i L s r h1 h2 _ ih =>
    intro hb
    have hil:=AC h2
    have hf:=hb.few hs
    rw [Fj]
    unfold rstF
    dsimp only
    rw [if_pos (by omega),if_pos h1,Ar,DZ,OS hs hb h2,Ar,CJ,Ct (by unfold inI64;omega),Ar]
    dsimp only
    exact ih (hb.exp (List.mem_of_getElem? h2) _)
def limE (x:Int):Int:=max 0 (min x 65536)
theorem OT (x:Int):Eq x 0 65536=some (limE x):=by
  unfold limE Eq
  first|rfl|(congr 1;omega)|(split<;>(try split)<;>(congr 1;omega))
theorem Ld {t:Tsk} (hs:Mid t) (lim:Int):∃ r x,Bx t (limE lim) 0 [t.init] r∧Dx t lim=some x∧outS r x:=by
  obtain ⟨r,hr⟩:=Ot hs (limE lim) 602 0 [t.init] (by omega) (GV t)
  obtain ⟨x,h1,h2⟩:=PQ hs hr (GV t)
  refine ⟨r,x,hr,?_,h2⟩
  have h3:=hs.ok.2.2.2.1.1
  have h4:=hs.ok.1
  rw [OR,OT,Ar,CE (by simp;omega) (by simp;omega),Ar,List.nil_append]
  exact h1
end
section
set_option linter.unusedVariables false
set_option linter.unusedSimpArgs false
open Go Go.RowKit
abbrev XI:=List Edj×Reg
abbrev XS:=Int×List Edj×List Bool×Reg
abbrev XR:=Option Spa×Err
theorem Il {f:List Fct} (h:f.length≤1000):Bc f=some f:=if_pos ⟨by omega,by omega⟩
theorem Na {t:Tsk} (h:TaskOk t):Cy t=some t:=by
  obtain ⟨h1,h2,h3,h4,h5,h6⟩:=h
  have hg:=DP h5
  unfold Cy
  rw [Gj (by omega),Ar,Gj (by rw [h4.1];omega),Ar,Il (by omega),Ar,Ar]
  rw [EA (fun k=>t.ops.take k) (by simp) (fun k o ho=>?_),Ar,CJ,List.take_length]
  have hk:=AC ho
  have hoo:=h6 k o ho
  have hp:=DP hoo.2.2.2.2.1
  rw [Il (by omega),Ar]
  rw [EA (fun j=>o.effs.take j) (by simp) (fun j e he=>?_),Ar,CJ,List.take_length]
  · rw [CE (by rw [List.length_take,List.length_singleton];omega) (by rw [List.length_take,List.length_singleton];omega),Ar,List.take_add_one,ho];rfl
  · have hj:=AC he
    have hel:=hoo.2.2.1
    have hc:=DP (hoo.2.2.2.2.2 j e he).1
    rw [Il (by omega),Ar,CE (by rw [List.length_take,List.length_singleton];omega) (by rw [List.length_take,List.length_singleton];omega),Ar,List.take_add_one,he];rfl
noncomputable def exIn (x1 i:Int):Suc→XI→Option (Ctl XI (Ctl XS XR)):=fun a228 s225=>bnd (Bf s225.2 a228.state) fun q263=>bnd (bnd (DS (⟨q263.2.2.1.n⟩:Err) (⟨10⟩:Err)) fun q283=>if q283=true then some true else if q263.2.1=true then (if (max 0 (min x1 65536))≤q263.1 then (some true) else (some false)) else (some false):Option Bool) fun y279=>if y279=true then (some (.ret (.ret (none,(⟨10⟩:Err))))) else (if q263.2.2.1.n≠0 then (some (.ret (.ret (none,(⟨q263.2.2.1.n⟩:Err))))) else (bnd (appI 24 s225.1 [(⟨i,a228.op,q263.1⟩:Edj)]) fun u304=>some (.next (u304,q263.2.2.2))))
noncomputable def exF (x0:Tsk) (x1:Int) (gen:Option Gnr):XS→Option (Ctl XS XR):=fun s105=>bnd (Bb s105.2.2.2) fun q130=>if s105.1 < q130 then (bnd (Bw s105.2.2.2 s105.1) fun q141=>if q141.2.n≠0 then (some (.ret (none,(⟨q141.2.n⟩:Err)))) else (bnd (bnd (Da x0.goal q141.1) fun q163=>if q163=true then bnd (appI 1 s105.2.2.1 [true]) fun u195=>some u195 else bnd (appI 1 s105.2.2.1 [false]) fun u176=>some u176:Option (List Bool)) fun y157=>bnd (Bi gen q141.1) fun q212=>bnd (rng (ρ:=Ctl XS XR) (fun (_:Nat) (a228:Suc) (s225:XI)=>exIn x1 s105.1 a228 s225) q212 0 (s105.2.1,s105.2.2.2)) fun res223=>fin res223 fun (s321:XI)=>bnd (chkI (s105.1 + 1)) fun n323=>some (.next (n323,s321.1,y157,s321.2)))) else (some (.brk (s105.1,s105.2.1,s105.2.2.1,s105.2.2.2)))
noncomputable def exE (q74:Tsk):Fin XS XR→Option XR:=fun res103=>fin res103 fun (s330:XS)=>bnd (BK (⟨(⟨q74.vars,q74.init,q74.goal,q74.ops⟩:Tsk),s330.2.2.2,s330.2.1,s330.2.2.1,([]:List Int),([]:List Int),([]:List Int)⟩:Spa)) fun q341=>some ((some q341),(⟨0⟩:Err))
theorem PR (x0:Tsk) (x1:Int):Cd x0 x1=bnd (DJ x0) fun q25=>if q25.2.n≠0 then (some (none,(⟨q25.2.n⟩:Err))) else (bnd (CR x0.vars) fun q40=>if q40.2.n≠0 then (some (none,(⟨q40.2.n⟩:Err))) else (if (max 0 (min x1 65536)) < 1 then (some (none,(⟨10⟩:Err))) else (bnd q40.1 fun o54=>bnd (Bf o54 x0.init) fun q57=>if q57.2.2.1.n≠0 then (some (none,(⟨q57.2.2.1.n⟩:Err))) else (bnd (Cy x0) fun q74=>bnd (lop (exF x0 x1 q25.1) (0,([]:List Edj),([]:List Bool),q57.2.2.2)) (exE q74))))):=rfl
def goalsL (t:Tsk) (L:List (List Int)):List Bool:=L.map (holdsB t.goal)
structure SpX (t:Tsk) (L:List (List Int)) (x:Spa):Prop where
  reg:RegI t.vars x.states L
  sp:SpaOk t L.length (edgL t L L.length) (goalsL t L) x
def outX (t:Tsk) (r:Option (List (List Int))) (x:XR):Prop:=match r with|none=>x=(none,⟨10⟩)|some L=>∃ s,x=(some s,⟨0⟩)∧SpX t L s
theorem Nb (t:Tsk) (s:List Int) (L:List (List Int)) (a b:List Nat):foldP t s L (a ++ b)=foldP t s (foldP t s L a) b:=by unfold foldP;rw [List.foldl_append]
theorem Ki (t:Tsk) (L:List (List Int)) (s:List Int) (i:Nat) (ks:List Nat) (k:Nat):edgK t L s i (ks ++ [k])=edgK t L s i ks ++ [⟨(i:Int),(k:Int),idxE L (sucN t s k)⟩]:=by unfold edgK;rw [List.map_append];rfl
theorem PS {t:Tsk} (hs:Mid t) {x1:Int} {i:Nat} {L:List (List Int)} {s:List Int} (hb:BL t L) (hcl:CloL t i L) (hlim:(L.length:Int)≤limE x1) (hi:L[i]?=some s) {reg:Reg} (hr:RegI t.vars reg L) :
    (∃ st,rng (ρ:=Ctl XS XR) (fun (_:Nat) (a228:Suc) (s225:XI)=>exIn x1 (i:Int) a228 s225) ((appS t s).map (sucOf t s)) 0 (edgL t L i,reg)=some (.done st)∧st.1=edgL t (expL t s L t.ops.length) (i + 1)∧RegI t.vars st.2 (expL t s L t.ops.length)∧((expL t s L t.ops.length).length:Int)≤limE x1) ∨
    (rng (ρ:=Ctl XS XR) (fun (_:Nat) (a228:Suc) (s225:XI)=>exIn x1 (i:Int) a228 s225) ((appS t s).map (sucOf t s)) 0 (edgL t L i,reg)=some (.ret (.ret (none,⟨10⟩)))∧limE x1 < ((expL t s L t.ops.length).length:Int)):=by
  have hmem:=List.mem_of_getElem? hi
  have hsok:=hb.ok hs.ok hmem
  have hil:=AC hi
  have hf0:=hb.few hs
  have hap:(appS t s).map (sucOf t s)=(appN t s t.ops.length).map fun k:Nat=>(⟨(k:Int),sucN t s k⟩:Suc):=by
    rw [GR hsok,PO,List.map_map];rfl
  rw [hap]
  have hel:=Ho t L i
  have hib:i * t.ops.length≤600 * 80:=Nat.mul_le_mul (by omega) hs.ops
  rcases LE (ρ:=Ctl XS XR) (f:=fun (_:Nat) (a228:Suc) (s225:XI)=>exIn x1 (i:Int) a228 s225) (xs:=(appN t s t.ops.length).map fun k:Nat=>(⟨(k:Int),sucN t s k⟩:Suc)) (s₀:=(edgL t L i,reg))
    (fun j y=>y.1=edgL t L i ++ edgK t (foldP t s L ((appN t s t.ops.length).take j)) s i ((appN t s t.ops.length).take j)∧RegI t.vars y.2 (foldP t s L ((appN t s t.ops.length).take j))∧((foldP t s L ((appN t s t.ops.length).take j)).length:Int)≤limE x1)
    (fun r=>r=.ret (none,⟨10⟩)∧limE x1 < ((expL t s L t.ops.length).length:Int))
    ⟨by simp [edgK],by simpa [foldP] using hr,by simpa [foldP] using hlim⟩ (fun j a y hj hI=>by
      obtain ⟨y1,y2,y3⟩:=hI
      obtain ⟨es,reg'⟩:=y
      dsimp only at y1 y2 y3
      rw [List.getElem?_map] at hj
      obtain ⟨k,hk,rfl⟩:=Option.map_eq_some_iff.1 hj
      obtain ⟨hka,hkl⟩:=Gm (List.mem_of_getElem? hk)
      have hjl:=AC hk
      have hal:=Je t s t.ops.length
      have hops:=hs.ops
      obtain ⟨A,hA⟩:=Eb t s ((appN t s t.ops.length).take j) L
      have hB:BL t (foldP t s L ((appN t s t.ops.length).take j)):=hb.fold hmem fun q hq=>(Gm (List.mem_of_mem_take hq)).1
      have hf:=hB.few hs
      obtain ⟨o,ho,hpre,hsu⟩:=FL hka
      have hsk:StateOk t.vars (sucN t s k):=by rw [hsu];exact LG hs.ok hsok ho
      have hek:(edgK t (foldP t s L ((appN t s t.ops.length).take j)) s i ((appN t s t.ops.length).take j)).length≤j:=by unfold edgK;rw [List.length_map,List.length_take];omega
      have htk:(appN t s t.ops.length).take (j + 1)=(appN t s t.ops.length).take j ++ [k]:=by rw [List.take_add_one,hk];rfl
      have hlen:es.length≤60000:=by rw [y1,List.length_append];omega
      unfold exIn
      dsimp only
      rcases Kf hs.ok.1 y2 hsk (by omega) with ⟨q,hq,hadd⟩|⟨hno,r',hadd,hr',hlk⟩
      · have hq2:=List.mem_of_getElem? hq
        rw [hadd,Ar,show DS (⟨0⟩:Err) (⟨10⟩:Err)=some false from rfl,Ar]
        dsimp only
        rw [Dm,Dm,Ar,Dm,if_neg (by simp),CE (by rw [List.length_singleton];omega) (by rw [List.length_singleton];omega),Ar]
        have hput:foldP t s L ((appN t s t.ops.length).take (j + 1))=foldP t s L ((appN t s t.ops.length).take j):=by
          rw [htk,Jv];unfold putL;rw [if_pos hq2]
        refine .inl ⟨_,rfl,?_,?_,?_⟩
        · dsimp only
          rw [hput,htk,y1,List.append_assoc,Ki,PP hB.nodup hq]
        · rw [hput];exact y2
        · rw [hput];exact y3
      · have hnm:¬ sucN t s k∈foldP t s L ((appN t s t.ops.length).take j):=fun hm=>by
          obtain ⟨q,hq⟩:=List.getElem?_of_mem hm
          exact hno q hq
        have hput:foldP t s L ((appN t s t.ops.length).take (j + 1))=foldP t s L ((appN t s t.ops.length).take j) ++ [sucN t s k]:=by
          rw [htk,Jv];unfold putL;rw [if_neg hnm]
        rw [hadd,Ar,show DS (⟨0⟩:Err) (⟨10⟩:Err)=some false from rfl,Ar]
        dsimp only
        rw [Dm,DZ]
        by_cases hfull:max 0 (min x1 65536)≤((foldP t s L ((appN t s t.ops.length).take j)).length:Int)
        · rw [if_pos hfull,Ar,DZ]
          refine .inr ⟨_,rfl,rfl,?_⟩
          have he:expL t s L t.ops.length=foldP t s (foldP t s L ((appN t s t.ops.length).take (j + 1))) ((appN t s t.ops.length).drop (j + 1)):=by
            rw [← Nb,List.take_append_drop];rfl
          obtain ⟨B,hB2⟩:=Eb t s ((appN t s t.ops.length).drop (j + 1)) (foldP t s L ((appN t s t.ops.length).take (j + 1)))
          rw [he,hB2,hput]
          unfold limE at *
          simp only [List.length_append,List.length_singleton]
          omega
        · rw [if_neg hfull,Ar,Dm,if_neg (by simp),CE (by rw [List.length_singleton];omega) (by rw [List.length_singleton];omega),Ar]
          refine .inl ⟨_,rfl,?_,?_,?_⟩
          · dsimp only
            rw [hput,htk,y1,List.append_assoc,Ki,NQ hnm,La fun q hq=>Ik t s _ L q hq]
          · rw [hput];exact hr'
          · rw [hput];unfold limE at *;simp only [List.length_append,List.length_singleton];omega) with ⟨st,h1,h2,h3,h4⟩|⟨r,h1,h2,h3⟩
  · rw [List.length_map,List.take_length] at h2 h3 h4
    refine .inl ⟨st,h1,?_,h3,h4⟩
    obtain ⟨A,hA⟩:=Eb t s (appN t s t.ops.length) L
    have e:expL t s L t.ops.length=L ++ A:=hA
    rw [h2,Kh (s:=s) (by rw [e,List.getElem?_append_left hil];exact hi),e,NT (by omega) hcl,← hA]
  · rw [h2] at h1
    exact .inr ⟨h1,h3⟩
theorem NW {α β:Type} (f:α→β) (L:List α) {i:Nat} {s:α} (h:L[i]?=some s):(L.take (i + 1)).map f=(L.take i).map f ++ [f s]:=by rw [List.take_add_one,h,List.map_append];rfl
theorem QA {t:Tsk} (hs:Mid t) {x1:Int} {i:Nat} {L:List (List Int)} {r:Option (List (List Int))} (h:Bx t (limE x1) i L r):BL t L→CloL t i L→i≤L.length→(L.length:Int)≤limE x1→∀ reg,RegI t.vars reg L→∃ x,bnd (lop (exF t x1 (some ⟨t⟩)) ((i:Int),edgL t L i,(L.take i).map (holdsB t.goal),reg)) (exE t)=some x∧outX t r x:=by
  induction h with
  | @full i L h1=>intro _ _ _ h2;omega
  | @done i L h1 h2 =>
    intro hb hc hil _ reg hr
    have hf:=hb.few hs
    obtain rfl:i=L.length:=by omega
    have hE:EndL t (limE x1) L:=⟨hb,hc,h1⟩
    have hlen:Bb reg=some (L.length:Int):=by rw [← hr.len];rfl
    rw [Fj]
    unfold exF
    dsimp only
    rw [hlen,Ar,if_neg (by omega)]
    dsimp only
    rw [Ar]
    unfold exE
    rw [CJ,List.take_length]
    have hl0:=AC hb.root
    obtain ⟨x,m1,m2,m3⟩:=Mn hs.ok hf hl0 (x:=⟨⟨t.vars,t.init,t.goal,t.ops⟩,reg,edgL t L L.length,L.map (holdsB t.goal),[],[],[]⟩) rfl hr.len (hE.edges hs) (by simp)
    rw [m1,Ar]
    exact ⟨_,rfl,x,rfl,by rw [m2];exact hr,m3⟩
  | @step i L s r h1 h2 hx ih =>
    intro hb hc hil hlim reg hr
    have hf:=hb.few hs
    have hlt:=AC h2
    have hmem:=List.mem_of_getElem? h2
    have hsok:=hb.ok hs.ok hmem
    have hlen:Bb reg=some (L.length:Int):=by rw [← hr.len];rfl
    have hg:(bnd (Da t.goal s) fun q163=>if q163=true then bnd (appI 1 ((L.take i).map (holdsB t.goal)) [true]) fun u195=>some u195 else bnd (appI 1 ((L.take i).map (holdsB t.goal)) [false]) fun u176=>some u176)=some ((L.take (i + 1)).map (holdsB t.goal)):=by
      rw [show Da t.goal s=some (holdsB t.goal s) from rfl,Ar,NW _ L h2]
      cases holdsB t.goal s with
      | true=>rw [DZ,CE (by rw [List.length_map,List.length_take,List.length_singleton];omega) (by rw [List.length_map,List.length_take,List.length_singleton];omega),Ar]
      | false=>rw [Dm,CE (by rw [List.length_map,List.length_take,List.length_singleton];omega) (by rw [List.length_map,List.length_take,List.length_singleton];omega),Ar]
    rw [Fj]
    unfold exF
    dsimp only
    rw [hlen,Ar,if_pos (by omega),Lr hs.ok.1 hr h2,Ar,if_neg (by simp)]
    dsimp only
    rw [hg,Ar,OJ hs.ok (by rw [hsok.1];have:=hs.ok.1;omega),Ar]
    rcases PS hs hb hc hlim h2 hr with ⟨st,e1,e2,e3,e4⟩|⟨e1,e2⟩
    · rw [e1,Ar,CJ,Ct (by unfold inI64;omega),Ar]
      dsimp only
      obtain ⟨A,hA⟩:=Eb t s (appN t s t.ops.length) L
      have e:expL t s L t.ops.length=L ++ A:=hA
      have hb2:=hb.exp hmem t.ops.length
      have hc2:=hc.exp h2
      have:=ih hb2 hc2 (by rw [e,List.length_append];omega) e4 st.2 e3
      rw [e2]
      rw [e,List.take_append_of_le_length (by omega)] at this
      rw [e]
      exact this
    · rw [e1,Ar,Ql]
      dsimp only
      rw [Ar]
      cases hx with
      | full _=>exact ⟨_,rfl,rfl⟩
      | done h3 _=>omega
      | step h3 _ _=>omega
theorem Mq {t:Tsk} (hs:Mid t) (lim:Int) {r:Option (List (List Int))} (h:Bx t (limE lim) 0 [t.init] r):∃ x,Cd t lim=some x∧outX t r x:=by
  have hok:=hs.ok
  obtain ⟨q,hq,reg,rfl,hr,hlk⟩:=MX hok.1 hok.2.2.1
  rw [PR,MJ hok,Ar,if_neg (by simp),hq,Ar,if_neg (by simp)]
  dsimp only
  by_cases hl:limE lim < 1
  · unfold limE at hl
    rw [if_pos hl]
    cases h with
    | full _=>exact ⟨_,rfl,rfl⟩
    | done h3 _=>unfold limE at h3;simp at h3;omega
    | step h3 _ _=>unfold limE at h3;simp at h3;omega
  · have hl':=hl
    unfold limE at hl
    rw [if_neg hl,Ar]
    rcases Kf hok.1 hr hok.2.2.2.1 (by simp) with ⟨i,hi,_⟩|⟨_,r',hadd,hr',_⟩
    · simp at hi
    · rw [hadd,Ar,if_neg (by simp),Na hok,Ar]
      exact QA hs h (GV t) (fun j s k hj=>by omega) (by simp) (by simp;omega) r' hr'
theorem Lt {t:Tsk} (hs:SmallOk t) {lim:Int} (hl:512≤limE lim):∃ L x,Cd t lim=some (some x,⟨0⟩)∧SpX t L x∧EndL t (limE lim) L∧Dx t lim=some (L,true):=by
  obtain ⟨r,y,h1,h2,h3⟩:=Ld hs.mid lim
  obtain ⟨x,e1,e2⟩:=Mq hs.mid lim h1
  have key:∀ {i:Nat} {L:List (List Int)} {r:Option (List (List Int))},Bx t (limE lim) i L r→BL t L→r≠none:=fun h=>by
    induction h with
    | @full i L h=>intro hb;have:=hb.many hs.ok;have:=hs.many;omega
    | done _ _=>intro _ h;cases h
    | @step i L s r _ h2 _ ih=>intro hb;exact ih (hb.exp (List.mem_of_getElem? h2) _)
  cases r with
  | none=>exact (key h1 (GV t) rfl).elim
  | some L =>
    obtain ⟨s,rfl,hs2⟩:=e2
    refine ⟨L,s,e1,hs2,h1.ends (GV t) (fun j s k hj=>by omega) L rfl,?_⟩
    rw [h2]
    exact congrArg some h3
end
section
set_option linter.unusedVariables false
set_option linter.unusedSimpArgs false
open Go Go.RowKit
theorem Nc {a b:List Int} (hl:a.length=b.length) (h:∀ i,i < a.length→gI a i=gI b i):a=b:=by
  apply List.ext_getElem?
  intro i
  by_cases hi:i < a.length
  · rw [Ih hi,Ih (by omega),h i hi]
  · rw [List.getElem?_eq_none (by omega),List.getElem?_eq_none (by omega)]
theorem Nd {a:List Int} {i:Nat} (h:¬ i < a.length):gI a i=Inf:=by unfold gI;rw [List.getElem?_eq_none (by omega)];rfl
-- costs
abbrev LB:=List Int×Bool
noncomputable def rcG (x0:Tsk):Edj→LB→Option (Ctl LB (Ctl LB (List Int))):=fun a113 s110=>bnd (atI s110.1 a113.src) fun a144=>bnd (atI x0.ops a113.label) fun a156=>bnd (chkI (a144 + a156.cost)) fun n177=>bnd (atI s110.1 a113.dst) fun a180=>if n177 < a180 then (bnd (atI s110.1 a113.dst) fun a193=>some (.next ((s110.1.set (a113.dst:Int).toNat n177),true))) else (some (.next (s110.1,s110.2)))
noncomputable def rcF (x0:Tsk) (x2:List Edj):LB→Option (Ctl LB (List Int)):=fun s88=>if s88.2=true then (bnd (rng (ρ:=Ctl LB (List Int)) (fun (_:Nat) (a113:Edj) (s110:LB)=>rcG x0 a113 s110) x2 0 (s88.1,false)) fun res108=>fin res108 fun (s211:LB)=>some (.next (s211.1,s211.2))) else (some (.brk (s88.1,s88.2)))
noncomputable def rcI (x1:Int):List Int×Int→Option (Ctl (List Int×Int) (List Int)):=fun s43=>if s43.2 < x1 then (bnd (atI s43.1 s43.2) fun a63=>bnd (chkI (s43.2 + 1)) fun n77=>some (.next ((s43.1.set (s43.2:Int).toNat 1125899906842624),n77))) else (some (.brk (s43.1,s43.2)))
theorem PT (x0:Tsk) (x1:Int) (x2:List Edj):El x0 x1 x2=bnd (mkI 8 (0:Int) x1) fun u28=>bnd (lop (rcI x1) (u28,1)) fun res41=>fin res41 fun (s84:(List Int)×Int)=>bnd (lop (rcF x0 x2) (s84.1,true)) fun res86=>fin res86 fun (s217:LB)=>some s217.1:=rfl
structure RcI (n:Nat) (A:Nat→List (Nat×Int)) (S:Nat→Prop) (d:List Int):Prop where
  len:d.length=n
  rng:∀ i,0≤gI d i∧gI d i≤Inf
  real:∀ i,gI d i≠Inf→∃ q,Lx S A i (gI d i) q
  src:∀ i,S i→gI d i=0
theorem NX {n:Nat} (hn:n≤600) (hn0:0 < n):∃ s,lop (rcI (n:Int)) (List.replicate n 0,1)=some (.done s)∧s.1.length=n∧gI s.1 0=0∧∀ j,j≠0→gI s.1 j=Inf:=by
  have:=MP (f:=rcI (n:Int)) (fun s=>∃ i:Nat,s.2=(i:Int)∧1≤i∧i≤n∧s.1.length=n∧gI s.1 0=0∧∀ j,j≠0→j < i→gI s.1 j=Inf) (fun s=>s.1.length=n∧gI s.1 0=0∧∀ j,j≠0→gI s.1 j=Inf) (fun s=>n - s.2.toNat) (fun s ⟨i,h1,h2,h3,h4,h5,h6⟩=>by
    obtain ⟨d,q⟩:=s
    dsimp only at *
    subst h1
    unfold rcI
    dsimp only
    by_cases hi:i < n
    · rw [if_pos (by omega),EK (by omega),Ar,Ct (by unfold inI64;omega),Ar,Int.toNat_natCast]
      refine .inl ⟨_,rfl,⟨i + 1,by dsimp only;omega,by omega,by omega,by simp [h4],?_,fun j hj hji=>?_⟩,by dsimp only;omega⟩
      · dsimp only;rw [Dj (by omega),AO (by omega)];exact h5
      · dsimp only
        rw [Dj (by omega)]
        by_cases e:j=i
        · subst e;rw [AQ];rfl
        · rw [AO e];exact h6 j hj (by omega)
    · rw [if_neg (by omega)]
      refine .inr ⟨_,rfl,h4,h5,fun j hj=>?_⟩
      by_cases hjn:j < n
      · exact h6 j hj (by omega)
      · exact Nd (by dsimp only;omega)) (List.replicate n 0,1) ⟨1,rfl,by omega,by omega,by simp,by unfold gI;rw [List.getElem?_replicate,if_pos hn0];rfl,fun j hj hj1=>by omega⟩
  exact this
section
variable {t : Tsk} {n : Nat} {es : List Edj} {S : Nat → Prop}
theorem OU (hok:TaskOk t) (he:EdgesOk t n es) {d:List Int} (hd:RcI n (fwdA t es) S d):∃ d' b,rng (ρ:=Ctl LB (List Int)) (fun (_:Nat) (a113:Edj) (s110:LB)=>rcG t a113 s110) es 0 (d,false)=some (.done (d',b))∧RcI n (fwdA t es) S d'∧(b=true→sumN d' < sumN d)∧(b=false→d'=d∧∀ e∈es,gI d e.dst.toNat≤gI d e.src.toNat + costE t e):=by
  obtain ⟨⟨d',b⟩,g1,g2,g3,g4⟩:=Fc (ρ:=Ctl LB (List Int)) (f:=fun (_:Nat) (a:Edj) (s:LB)=>rcG t a s) (xs:=es) (s₀:=(d,false))
    (fun m r=>RcI n (fwdA t es) S r.1∧(r.2=true→sumN r.1 < sumN d)∧(r.2=false→r.1=d∧∀ e∈es.take m,gI d e.dst.toNat≤gI d e.src.toNat + costE t e)) ⟨hd,fun hh=>by simp at hh,fun _=>⟨rfl,fun e he=>by simp at he⟩⟩ (fun m e r hm hI=>by
      obtain ⟨i1,i2,i3⟩:=hI
      obtain ⟨x,b⟩:=r
      dsimp only at i1 i2 i3
      have hmem:=List.mem_of_getElem? hm
      obtain ⟨s1,s2,d1,d2,_,_⟩:=he.ok e hmem
      obtain ⟨o,o1,o2,c1,c2⟩:=FB hok he hmem
      obtain ⟨i,hi⟩:∃ i:Nat,e.src=(i:Int):=⟨e.src.toNat,by omega⟩
      obtain ⟨j,hj⟩:∃ j:Nat,e.dst=(j:Int):=⟨e.dst.toNat,by omega⟩
      have hl:=i1.len
      have hr:=i1.rng i
      have hI:Inf=1125899906842624:=rfl
      unfold rcG
      dsimp only
      rw [hi,EK (by omega),Ar,o1,Ar,← o2,Ct (by unfold inI64;omega),Ar,hj,EK (by omega),Ar]
      by_cases hlt:gI x i + costE t e < gI x j
      · rw [if_pos hlt,Ar,Int.toNat_natCast]
        have hrj:=i1.rng j
        obtain ⟨q,hq⟩:=i1.real i (by omega)
        have hset:sumN (x.set j (gI x i + costE t e)) < sumN x:=KP x j _ _ (Ih (by omega)) (by omega) hlt
        refine ⟨_,rfl,⟨by simp [hl],fun u=>?_,fun u hu=>?_,fun u hu=>?_⟩,fun _=>?_,fun hh=>by simp at hh⟩
        · dsimp only;rw [Dj (by omega)]
          by_cases eu:u=j
          · subst eu;rw [AQ];omega
          · rw [AO eu];exact i1.rng u
        · dsimp only at hu ⊢;rw [Dj (by omega)] at hu ⊢
          by_cases eu:u=j
          · subst eu;rw [AQ];exact ⟨q + 1,.step hq (KT.2 ⟨e,hmem,hi,by omega,rfl⟩)⟩
          · rw [AO eu] at hu ⊢;exact i1.real u hu
        · dsimp only;rw [Dj (by omega)]
          by_cases eu:u=j
          · subst eu;have:=i1.src u hu;omega
          · rw [AO eu];exact i1.src u hu
        · dsimp only
          cases b with
          | true=>have:=i2 rfl;omega
          | false=>rw [(i3 rfl).1] at hset ⊢;exact hset
      · rw [if_neg hlt]
        refine ⟨_,rfl,i1,i2,fun hb=>⟨(i3 hb).1,fun e' he'=>?_⟩⟩
        obtain ⟨e1,e2⟩:=i3 hb
        rcases (Fz hm).1 he' with hh|rfl
        · exact e2 e' hh
        · rw [← e1,hi,hj,Int.toNat_natCast,Int.toNat_natCast];omega)
  rw [List.take_length] at g4
  exact ⟨d',b,g1,g2,g3,g4⟩
theorem OV (hok:TaskOk t) (he:EdgesOk t n es) {d:List Int} (hd:RcI n (fwdA t es) S d):∃ d',lop (rcF t es) (d,true)=some (.done (d',false))∧RcI n (fwdA t es) S d'∧∀ e∈es,gI d' e.dst.toNat≤gI d' e.src.toNat + costE t e:=by
  have key:=MP (f:=rcF t es) (fun s=>RcI n (fwdA t es) S s.1∧(s.2=false→∀ e∈es,gI s.1 e.dst.toNat≤gI s.1 e.src.toNat + costE t e)) (fun s=>s.2=false∧RcI n (fwdA t es) S s.1∧∀ e∈es,gI s.1 e.dst.toNat≤gI s.1 e.src.toNat + costE t e) (fun s=>2 * sumN s.1 + if s.2=true then 1 else 0) (fun s ⟨h1,h2⟩=>by
    obtain ⟨x,b⟩:=s
    dsimp only at *
    unfold rcF
    dsimp only
    cases b with
    | false=>rw [if_neg (by simp)];exact .inr ⟨_,rfl,rfl,h1,h2 rfl⟩
    | true =>
      rw [if_pos rfl]
      obtain ⟨d',b',p1,p2,p3,p4⟩:=OU hok he h1
      rw [p1,Ar,CJ]
      refine .inl ⟨_,rfl,⟨p2,fun hb=>?_⟩,?_⟩
      · dsimp only at hb ⊢
        obtain ⟨e1,e2⟩:=p4 hb
        rw [e1];exact e2
      · dsimp only
        cases b' with
        | true=>have:=p3 rfl;simp;omega
        | false=>rw [(p4 rfl).1];simp) (d,true) ⟨hd,fun hh=>by simp at hh⟩
  obtain ⟨⟨d',b⟩,e1,e2,e3,e4⟩:=key
  dsimp only at e2
  subst e2
  exact ⟨d',e1,e3,e4⟩
theorem Mr {A:Nat→List (Nat×Int)} {D K:Nat→Int} (hL:LexP n A S D K) (hD:∀ i,D i≠Inf→D i < Inf) {d:List Int} (hd:RcI n A S d) (hlow:∀ i c q,Lx S A i c q→gI d i≤c) (i:Nat):gI d i=D i:=by
  by_cases h:D i=Inf
  · rw [h]
    refine Classical.byContradiction fun hc=>?_
    obtain ⟨q,hq⟩:=hd.real i hc
    exact (hL.low i _ _ hq).1 h
  · have h1:=hlow i _ _ (hL.real i h)
    have h2:=hD i h
    obtain ⟨q,hq⟩:=hd.real i (by omega)
    have h3:=(hL.low i _ _ hq).2
    unfold lle at h3
    omega
end
theorem Lu {t:Tsk} (hs:Mid t) {lim:Int} {L:List (List Int)} (h:EndL t lim L) {x:Spa} (hx:SpX t L x):El t (L.length:Int) (edgL t L L.length)=some x.costs:=by
  have hf:=h.bl.few hs
  have h0:=AC h.bl.root
  have he:=h.edges hs
  obtain ⟨K,hL,hb⟩:=hx.sp.cost
  obtain ⟨⟨d1,q1⟩,f1,f2,f3,f4⟩:=NX hf h0
  dsimp only at f2 f3 f4
  have hI:Inf=1125899906842624:=rfl
  have hrc:RcI L.length (fwdA t (edgL t L L.length)) (fun i=>i=0) d1:=by
    refine ⟨f2,fun i=>?_,fun i hi=>?_,fun i hi=>?_⟩
    · by_cases e:i=0
      · subst e;omega
      · rw [f4 i e];omega
    · by_cases e:i=0
      · subst e;rw [f3];exact ⟨0,.src rfl⟩
      · exact (hi (f4 i e)).elim
    · subst hi;exact f3
  obtain ⟨d2,g1,g2,g3⟩:=OV hs.ok he hrc
  rw [PT,GQ (by omega) (by omega),Ar,f1,Ar,CJ,g1,Ar,CJ]
  have hlow:∀ i c q,Lx (fun i=>i=0) (fwdA t (edgL t L L.length)) i c q→gI d2 i≤c:=fun i c q hl=>by
    induction hl with
    | src hs'=>rw [g2.src _ hs'];omega
    | @step i c k j w _ hm ih =>
      obtain ⟨e,e1,e2,e3,e4⟩:=KT.1 hm
      have:=g3 e e1
      rw [e2,e3,e4,Int.toNat_natCast] at this
      omega
  have hsame:=Mr hL (fun i hi=>by have:=hb i hi;omega) g2 hlow
  exact congrArg some (Nc (g2.len.trans hx.sp.cl.symm) fun i _=>hsame i)
-- distances
abbrev LLB:=List Int×List Int×Bool
noncomputable def rdG (x0:Tsk):Edj→LLB→Option (Ctl LLB (Ctl LLB (List Int×List Int))):=fun a182 s179=>bnd (atI s179.1 a182.dst) fun a217=>if a217=1125899906842624 then (some (.next (s179.1,s179.2.1,s179.2.2))) else (bnd (atI s179.1 a182.dst) fun a230=>bnd (atI x0.ops a182.label) fun a242=>bnd (chkI (a230 + a242.cost)) fun n263=>bnd (atI s179.2.1 a182.dst) fun a266=>bnd (chkI (a266 + 1)) fun n278=>bnd (bnd (atI s179.1 a182.src) fun a285=>if n263 < a285 then (some true) else (bnd (atI s179.1 a182.src) fun a298=>if n263=a298 then (bnd (atI s179.2.1 a182.src) fun a311=>if n278 < a311 then (some true) else (some false)) else (some false)):Option Bool) fun y281=>if y281=true then (bnd (atI s179.1 a182.src) fun a329=>bnd (atI s179.2.1 a182.src) fun a343=>some (.next ((s179.1.set (a182.src:Int).toNat n263),(s179.2.1.set (a182.src:Int).toNat n278),true))) else (some (.next (s179.1,s179.2.1,s179.2.2))))
noncomputable def rdF (x0:Tsk) (x2:List Edj):LLB→Option (Ctl LLB (List Int×List Int)):=fun s153=>if s153.2.2=true then (bnd (rng (ρ:=Ctl LLB ((List Int)×(List Int))) (fun (_:Nat) (a182:Edj) (s179:LLB)=>rdG x0 a182 s179) x2 0 (s153.1,s153.2.1,false)) fun res177=>fin res177 fun (s361:LLB)=>some (.next (s361.1,s361.2.1,s361.2.2))) else (some (.brk (s153.1,s153.2.1,s153.2.2)))
theorem PU (x0:Tsk) (x1:List (List Int)) (x2:List Edj):Dp x0 x1 x2=bnd (mkI 8 (0:Int) (x1.length:Int)) fun u30=>bnd (mkI 8 (0:Int) (x1.length:Int)) fun u32=>bnd (some (u30,u32):Option ((List Int)×(List Int))) fun y34=>bnd (rng (ρ:=(List Int)×(List Int)) (fun (k100:Nat) (a101:List Int) (s98:(List Int))=>bnd (CH x0.goal a101) fun q126=>if q126=true then some (.next s98) else bnd (s98[k100]?) fun a133=>some (.next (s98.set k100 1125899906842624))) x1 0 y34.1) fun res96=>fin res96 fun (s149:(List Int))=>bnd (lop (rdF x0 x2) (s149,y34.2,true)) fun res151=>fin res151 fun (s367:LLB)=>some (s367.1,s367.2.1):=rfl
theorem Lf {t:Tsk} (hok:TaskOk t) {n:Nat} {es:List Edj} (he:EdgesOk t n es):ArcsOk n (bwdA t es):=by
  refine ⟨fun i p hp=>?_,fun i p hp=>?_⟩
  · obtain ⟨j,w⟩:=p
    obtain ⟨e,e1,e2,e3,e4⟩:=Hm.1 hp
    have:=he.ok e e1
    dsimp only;omega
  · obtain ⟨j,w⟩:=p
    obtain ⟨e,e1,e2,e3,e4⟩:=Hm.1 hp
    obtain ⟨_,_,_,c1,c2⟩:=FB hok he e1
    dsimp only;omega
section
variable {t : Tsk} {n : Nat} {es : List Edj} {S : Nat → Prop}
def Seen (t:Tsk) (es:List Edj) (i:Nat) (p:Nat×Int):Prop:=∃ e∈es,e.dst=(i:Int)∧e.src.toNat=p.1∧costE t e=p.2
theorem OW      (hok:TaskOk t) (he:EdgesOk t n es) {B:Int} (hB:B + es.length≤40000000) {x y:List Int} (hx:x.length=n) (hy:y.length=n) (h:BfI S (bwdA t es) (gI x) (gI y) B) :
    ∃ x' y' b,rng (ρ:=Ctl LLB ((List Int)×(List Int))) (fun (_:Nat) (a182:Edj) (s179:LLB)=>rdG t a182 s179) es 0 (x,y,false)=some (.done (x',y',b))∧x'.length=n∧y'.length=n∧PasI S (bwdA t es) (fun _ _=>True) (gI x) (gI y) (gI x') (gI y') b (B + es.length):=by
  have hA:=Lf hok he
  have hIe:Inf=1125899906842624:=rfl
  obtain ⟨⟨x',y',b⟩,g1,g2,g3,g4⟩:=Fc (ρ:=Ctl LLB ((List Int)×(List Int))) (f:=fun (_:Nat) (a182:Edj) (s179:LLB)=>rdG t a182 s179) (xs:=es) (s₀:=(x,y,false))
    (fun m s => s.1.length=n∧s.2.1.length=n∧PasI S (bwdA t es) (Seen t (es.take m)) (gI x) (gI y) (gI s.1) (gI s.2.1) s.2.2 (B + (m:Nat))) ⟨hx,hy,by
      have:=MS h
      refine { this.mono (B':=B + (0:Nat)) (by omega) with don:=fun j p _ hq=>?_ }
      obtain ⟨e,e1,_⟩:=hq
      simp at e1⟩ (fun m e s hm hI=>by
      obtain ⟨u,v,b⟩:=s
      obtain ⟨h1,h2,hP⟩:=hI
      dsimp only at h1 h2 hP
      have hml:=AC hm
      have hmem:=List.mem_of_getElem? hm
      obtain ⟨s1,s2,d1,d2,_,_⟩:=he.ok e hmem
      obtain ⟨o,o1,o2,c1,c2⟩:=FB hok he hmem
      obtain ⟨i,hi⟩:∃ i:Nat,e.src=(i:Int):=⟨e.src.toNat,by omega⟩
      obtain ⟨j,hj⟩:∃ j:Nat,e.dst=(j:Int):=⟨e.dst.toNat,by omega⟩
      have hpA:(i,costE t e)∈bwdA t es j:=Hm.2 ⟨e,hmem,hj,by omega,rfl⟩
      have hQ:∀ a q,Seen t (es.take (m + 1)) a q→Seen t (es.take m) a q∨(a=j∧q=(i,costE t e)):=fun a q hq=>by
        obtain ⟨e',f1,f2,f3,f4⟩:=hq
        rcases (Fz hm).1 f1 with f1|rfl
        · exact .inl ⟨e',f1,f2,f3,f4⟩
        · obtain ⟨q1,q2⟩:=q
          dsimp only at f3 f4
          refine .inr ⟨by omega,?_⟩
          rw [← f3,f4,hi];rfl
      have hB1:B + (m:Nat)≤B + ((m + 1:Nat):Int):=by omega
      unfold rdG
      dsimp only
      rw [hj,EK (by omega),Ar]
      by_cases hinf:gI u j=Inf
      · rw [if_pos (show gI u j=1125899906842624 from hinf)]
        exact ⟨_,rfl,h1,h2,(hP.skip hQ hinf).mono hB1⟩
      · rw [if_neg (show ¬ gI u j=1125899906842624 from fun hh=>hinf hh)]
        have hr:=hP.bf.real j hinf
        have hps:=hr.pos hA
        have hbd:=hP.bf.bd j hinf
        have hmul:gI v j * 1048576≤40000000 * 1048576:=Int.mul_le_mul_of_nonneg_right (by omega) (by omega)
        have hX:gI u j + costE t e≠Inf:=by omega
        rw [Ar,o1,Ar,← o2,Ct (by unfold inI64;omega),Ar,EK (by omega),Ar,Ct (by unfold inI64;omega),Ar,hi,EK (by omega),Ar,Ar,EK (by omega),Ar]
        by_cases hlt:gI u i≠Inf∧lle (gI u i) (gI v i) (gI u j + costE t e) (gI v j + 1)
        · have hl2:=hlt.2
          have e3:(if gI u j + costE t e < gI u i then some true else if gI u j + costE t e=gI u i then if gI v j + 1 < gI v i then some true else some false else some false)=some false:=by
            unfold lle at hl2
            rw [if_neg (by omega)]
            by_cases e1:gI u j + costE t e=gI u i
            · rw [if_pos e1,if_neg (by omega)]
            · rw [if_neg e1]
          rw [e3,Ar,Dm]
          exact ⟨_,rfl,h1,h2,(hP.keep hQ hlt.1 hl2).mono hB1⟩
        · have hl3:gI u i=Inf∨¬ lle (gI u i) (gI v i) (gI u j + costE t e) (gI v j + 1):=by
            by_cases e1:gI u i=Inf
            · exact .inl e1
            · exact .inr fun hh=>hlt ⟨e1,hh⟩
          have e3:(if gI u j + costE t e < gI u i then some true else if gI u j + costE t e=gI u i then if gI v j + 1 < gI v i then some true else some false else some false)=some true:=by
            by_cases e1:gI u j + costE t e < gI u i
            · rw [if_pos e1]
            · rcases hl3 with hl3|hl3
              · omega
              · unfold lle at hl3
                rw [if_neg e1,if_pos (by omega),if_pos (by omega)]
          rw [e3,Ar,DZ,Ar,Int.toNat_natCast]
          have hbt:=hP.better hA (m:=i) (w:=costE t e) hQ hpA hinf hX hl3
          rw [← Dj (by omega),← Dj (by omega)] at hbt
          refine ⟨_,rfl,by simp [h1],by simp [h2],hbt.mono (by omega)⟩)
  rw [List.take_length] at g4
  refine ⟨x',y',b,g1,g2,g3,{ g4 with don:=fun j p hp _=>g4.don j p hp ?_ }⟩
  obtain ⟨a,w⟩:=p
  obtain ⟨e,e1,e2,e3,e4⟩:=Hm.1 hp
  exact ⟨e,e1,e2,e3,e4⟩
theorem OX (d k x y:Nat→Int) (n:Nat):nOpt d k x y n≤n:=by
  have:=Jd (g:=fun i=>if d i≠Inf∧¬ (x i=d i∧y i=k i) then 1 else 0) (m:=1) (n:=n) fun j _=>by split<;>omega
  unfold nOpt;omega
theorem LO (hok:TaskOk t) (he:EdgesOk t n es) (hn:n≤600) {D K:Nat→Int} (hL:LexP n (bwdA t es) S D K) (hDn:∀ i,D i≠Inf→i < n):∀ (N:Nat) (x y:List Int),x.length=n→y.length=n→BfI S (bwdA t es) (gI x) (gI y) ((700 - nOpt D K (gI x) (gI y) n:Nat) * 48000:Nat)→nOpt D K (gI x) (gI y) n < N →
    ∃ x' y',lop (rdF t es) (x,y,true)=some (.done (x',y',false))∧x'.length=n∧y'.length=n∧LexP n (bwdA t es) S (gI x') (gI y')
  | 0,_,_,_,_,_,h=>absurd h (by omega)
  | N + 1,x,y,hx,hy,hbf,hN=>by
    have hA:=Lf hok he
    have hno:=OX D K (gI x) (gI y) n
    have hfew:=he.few
    rw [Fj]
    unfold rdF
    dsimp only
    rw [if_pos rfl]
    obtain ⟨x',y',b,p1,p2,p3,p4⟩:=OW hok he (B:=((700 - nOpt D K (gI x) (gI y) n:Nat) * 48000:Nat)) (by
      have:(700 - nOpt D K (gI x) (gI y) n) * 48000≤700 * 48000:=Nat.mul_le_mul_right _ (by omega)
      omega) hx hy hbf
    rw [p1,Ar,CJ]
    dsimp only
    have hless:=p4.less hbf hL hDn hA
    cases b with
    | false =>
      have hd:=p4.done (n:=n)
      have hff:=p4.ff rfl
      rw [Fj]
      dsimp only
      rw [if_neg (by simp)]
      have e1:gI x'=gI x:=funext fun i=>(hff i).1
      have e2:gI y'=gI y:=funext fun i=>(hff i).2
      refine ⟨_,_,rfl,p2,p3,?_⟩
      rw [e1,e2];exact hd
    | true =>
      rw [if_pos rfl] at hless
      refine LO hok he hn hL hDn N x' y' p2 p3 (p4.bf.mono ?_) (by omega)
      have:(700 - nOpt D K (gI x) (gI y) n) * 48000 + 48000≤(700 - nOpt D K (gI x') (gI y') n) * 48000:=by
        have h1:700 - nOpt D K (gI x) (gI y) n + 1≤700 - nOpt D K (gI x') (gI y') n:=by omega
        have:=Nat.mul_le_mul_right 48000 h1
        omega
      omega
end
theorem NY {t:Tsk} {L:List (List Int)} (hl:L.length≤1000):∃ d,rng (ρ:=(List Int)×(List Int)) (fun (k100:Nat) (a101:List Int) (s98:(List Int))=>bnd (CH t.goal a101) fun q126=>if q126=true then some (.next s98) else bnd (s98[k100]?) fun a133=>some (.next (s98.set k100 1125899906842624))) L 0 (List.replicate L.length 0)=some (.done d)∧d.length=L.length∧∀ i,gI d i=if (goalsL t L)[i]?=some true then 0 else Inf:=by
  obtain ⟨d,h1,h2,h3,h4⟩:=Fc (ρ:=(List Int)×(List Int)) (f:=fun (k100:Nat) (a101:List Int) (s98:(List Int))=>bnd (CH t.goal a101) fun q126=>if q126=true then some (.next s98) else bnd (s98[k100]?) fun a133=>some (.next (s98.set k100 1125899906842624))) (xs:=L) (s₀:=List.replicate L.length 0)
    (fun m d=>d.length=L.length∧(∀ i,i < m→gI d i=if (goalsL t L)[i]?=some true then 0 else Inf)∧∀ i,m≤i→i < L.length→gI d i=0) ⟨by simp,fun i hi=>by omega,fun i _ hi=>by unfold gI;rw [List.getElem?_replicate,if_pos hi];rfl⟩ (fun m s d hm hI=>by
      obtain ⟨i1,i2,i3⟩:=hI
      have hml:=AC hm
      have hg:(goalsL t L)[m]?=some (holdsB t.goal s):=by unfold goalsL;rw [List.getElem?_map,hm];rfl
      rw [show CH t.goal s=some (holdsB t.goal s) from rfl,Ar]
      cases hh:holdsB t.goal s with
      | true =>
        rw [if_pos rfl]
        refine ⟨_,rfl,i1,fun i hi=>?_,fun i hi hil=>i3 i (by omega) hil⟩
        by_cases e:i=m
        · subst e;rw [hg,hh,if_pos rfl];exact i3 i (Nat.le_refl _) hml
        · exact i2 i (by omega)
      | false =>
        rw [if_neg (by simp),Ih (by omega),Ar]
        refine ⟨_,rfl,by simp [i1],fun i hi=>?_,fun i hi hil=>?_⟩
        · rw [Dj (by omega)]
          by_cases e:i=m
          · subst e;rw [AQ,hg,hh,if_neg (by simp)];rfl
          · rw [AO e];exact i2 i (by omega)
        · rw [Dj (by omega),AO (by omega)];exact i3 i (by omega) hil)
  refine ⟨d,h1,h2,fun i=>?_⟩
  by_cases hi:i < L.length
  · exact h3 i hi
  · rw [Nd (by omega),if_neg]
    unfold goalsL
    rw [List.getElem?_eq_none (by simp;omega)];simp
theorem Ms {t:Tsk} (hs:Mid t) {lim:Int} {L:List (List Int)} (h:EndL t lim L) {x:Spa} (hx:SpX t L x):∃ st,Dp t L (edgL t L L.length)=some (x.distances,st)∧st.length=L.length∧∀ i,gI x.distances i≠Inf→gI st i=gI x.steps i:=by
  have hf:=h.bl.few hs
  have he:=h.edges hs
  obtain ⟨d,f1,f2,f3⟩:=NY (t:=t) (L:=L) (by omega)
  have hL:=hx.sp.dist
  have hDn:∀ i,gI x.distances i≠Inf→i < L.length:=fun i hi=>(hx.sp.bnd i hi).1
  have hrep:∀ i,gI (List.replicate L.length 0) i=if i < L.length then 0 else Inf:=fun i=>by
    unfold gI;rw [List.getElem?_replicate];split<;>rfl
  have hI:Inf=1125899906842624:=rfl
  have hgl:∀ i,(goalsL t L)[i]?=some true→i < L.length:=fun i hi=>by have:=AC hi;unfold goalsL at this;simpa using this
  have hbf:BfI (fun i=>(goalsL t L)[i]?=some true) (bwdA t (edgL t L L.length)) (gI d) (gI (List.replicate L.length 0)) 0:=by
    refine ⟨fun i hi=>?_,fun i hi=>?_,fun i hi=>?_⟩
    · rw [f3,if_pos hi,hrep,if_pos (hgl i hi)];exact ⟨rfl,rfl⟩
    · rw [f3] at hi ⊢
      by_cases e:(goalsL t L)[i]?=some true
      · rw [if_pos e,hrep,if_pos (hgl i e)];exact .src e
      · rw [if_neg e] at hi;exact (hi rfl).elim
    · rw [f3] at hi
      by_cases e:(goalsL t L)[i]?=some true
      · rw [hrep,if_pos (hgl i e)];omega
      · rw [if_neg e] at hi;exact (hi rfl).elim
  obtain ⟨x',y',g1,g2,g3,g4⟩:=LO hs.ok he hf hL hDn _ d (List.replicate L.length 0) f2 (by simp) (hbf.mono (by omega)) (Nat.lt_succ_self _)
  rw [PU,GQ (by omega) (by omega),Ar,Ar,Ar]
  dsimp only
  rw [f1,Ar,CJ,g1,Ar,CJ]
  have hsame:=LexP.same g4 hL
  have e:x'=x.distances:=Nc (g2.trans hx.sp.dl.symm) fun i _=>(hsame i).1
  refine ⟨y',?_,g3,fun i hi=>(hsame i).2 (by rw [(hsame i).1];exact hi)⟩
  dsimp only
  rw [e]
end
section
set_option linter.unusedVariables false
set_option linter.unusedSimpArgs false
open Go Go.RowKit
attribute [local irreducible] ewp owp hwp hwq hws Ev Evg Fn retPost loud loudS Res1
attribute [local irreducible] hwx loudX
noncomputable def Dn  : Option Bool :=
  bnd (Cd (⟨([2]:List Int),([0]:List Int),([]:List Fct),[(⟨(⟨#[]⟩:ByteArray),0,([]:List Fct),[(⟨([]:List Fct),0,1⟩:Eff)]⟩:Opr)]⟩:Tsk) 5) fun q33=>bnd (if q33.2.n=0 then (if q33.1.isNone=false then (bnd q33.1 fun o53=>bnd (Di o53) fun q57=>if q57=2 then (some true) else (some false)) else (some false)) else (some false):Option Bool) fun y47=>some y47
theorem HB {w:World} {A:Nat→Prop} (hA:∀ k,A k→k < w.heap.size)  {r:Bool} (hm:Dn  = some r) :
    Fn Tryz.prog 11 [] w fun v w'=>Ext w w'∧Vb w' (upA A w w') v r:=by
 obtain ⟨O,hB,j1⟩:=enter hA
 refine AI Tryz.func11 rfl Tryz.ntmps11 rfl ?_
 unfold Dn at hm
 refine Al (Aj (At rfl rfl (o_z ?_)))
 refine Al (Aj (Ch 2 (by decide) O (xs:=(([2]:List Int):List Int)) rfl rfl rfl rfl ⟨(vInt (show inI64 (2) from by decide)),trivial⟩ (by decide) (by decide) rfl fun g1 w2 O3 S4 h5=>?_))
 refine Ch 3 (by decide) O3 (xs:=(([0]:List Int):List Int)) rfl rfl rfl rfl ⟨(vInt (show inI64 (0) from by decide)),trivial⟩ (by decide) (by decide) rfl fun g7 w8 O9 i0 b0=>?_
 refine Ex rfl rfl rfl ?_
 refine Ch 4 (by decide) O9 (xs:=([(⟨([]:List Fct),0,1⟩:Eff)]:List Eff)) rfl rfl rfl rfl ⟨(Vb.ofAgg (cs:=[(.slice none 0 0),(.int .i64 0),(.int .i64 1)]) (x:=(⟨([]:List Fct),0,1⟩:Eff)) rfl ⟨_,rfl,(Vb.nil _ _),(show inI64 (0) from by decide),(show inI64 (1) from by decide)⟩),trivial⟩ (by decide) (by decide) rfl fun t0 k1 l1 c0 m0=>?_
 refine Ex rfl rfl rfl ?_
 obtain ⟨u0,d0,m0⟩:=m0.freeze
 refine Ch 5 (by decide) u0 (xs:=([(⟨(⟨#[]⟩:ByteArray),0,([]:List Fct),[(⟨([]:List Fct),0,1⟩:Eff)]⟩:Opr)]:List Opr)) rfl rfl rfl rfl ⟨(Vb.ofAgg (cs:=[(.string (⟨#[]⟩:ByteArray)),(.int .i64 0),(.slice none 0 0),(.slice (some ⟨t0,0,none⟩) [(⟨([]:List Fct),0,1⟩:Eff)].length 1)]) (x:=(⟨(⟨#[]⟩:ByteArray),0,([]:List Fct),[(⟨([]:List Fct),0,1⟩:Eff)]⟩:Opr)) rfl ⟨_,_,rfl,(Vb.nil _ _),m0,(show inI64 0 from by decide),(show (⟨#[]⟩:ByteArray).size≤9223372036854775807 from by decide)⟩),trivial⟩ (by decide) (by decide) rfl fun v0 m1 n1 e0 j0=>?_
 refine Ex rfl rfl rfl ?_
 replace h5:=(((h5.st i0).st c0).st d0).st e0
 obtain ⟨o1,f0,h5⟩:=h5.freeze
 replace b0:=(((b0.st c0).st d0).st e0).st f0
 obtain ⟨p1,g0,b0⟩:=b0.freeze
 replace j0:=(j0.st f0).st g0
 obtain ⟨w0,h0,j0⟩:=j0.freeze
 obtain ⟨q1,x0,hm⟩:=bs hm
 replace h5:=(h5.st g0).st h0
 replace b0:=b0.st h0
 refine BQ (O:=w0) (FQ (Vb.ofAgg (cs:=[(.slice (some ⟨g1,0,none⟩) ([2]:List Int).length 1),(.slice (some ⟨g7,0,none⟩) ([0]:List Int).length 1),(.slice none 0 0),(.slice (some ⟨v0,0,none⟩) [(⟨(⟨#[]⟩:ByteArray),0,([]:List Fct),[(⟨([]:List Fct),0,1⟩:Eff)]⟩:Opr)].length 1)]) (x:=(⟨([2]:List Int),([0]:List Int),([]:List Fct),[(⟨(⟨#[]⟩:ByteArray),0,([]:List Fct),[(⟨([]:List Fct),0,1⟩:Eff)]⟩:Opr)]⟩:Tsk)) rfl ⟨_,_,_,_,rfl,h5,b0,(Vb.nil _ _),j0⟩) (show inI64 (5) from by decide) 6 (by decide) x0) rfl rfl fun r1 s1 y0 k0 z0=>?_
 obtain ⟨t1,u1,rfl,l0,a1⟩:=z0
 obtain ⟨v1,rfl,n0⟩:=Obo.ptrq l0
 obtain ⟨rfl,w1⟩:=a1.err
 refine Am rfl rfl (By rfl rfl rfl (By rfl rfl rfl (At rfl rfl (At rfl rfl (o_z ?_)))))
 refine Al ?_
 obtain ⟨b1,a0,hm⟩:=bs hm
 refine AM (fun l' w'=>∃ (c1:Unit) (O':Lab),subs l' [(0,(.bool b1))]∧Bs w A w' O') ?_ ?_
 ·
  refine Aj (Am rfl rfl (Qh rfl rfl (fun o0=>?_) fun o0=>?_))
  ·
   replace a0:=ip a0 o0
   refine Am rfl rfl (Aw rfl rfl (Am rfl rfl (Aw rfl rfl (Qi n0 rfl rfl (fun p0=>?_) fun p0=>?_))))
   ·
    replace a0:=ip a0 p0
    refine BC rfl rfl rfl (Am rfl rfl (Aw rfl rfl (Am rfl rfl (Aw rfl rfl ?_))))
    obtain ⟨x1,d1,a0⟩:=bs a0
    rw [d1] at l0
    obtain ⟨y1,e1⟩:=Ob.ptr l0
    obtain rfl:=LC e1
    obtain ⟨z1,f1,a0⟩:=bs a0
    refine BQ (O:=y0) (HH l0 f1) rfl rfl fun a2 b2 c2 s0 h1=>?_
    obtain ⟨d2,i1⟩:=h1
    obtain ⟨rfl,e2⟩:=i1.int
    refine Aw rfl rfl (Iw rfl rfl rfl (fun q0=>?_) fun q0=>?_)
    ·
     replace a0:=ip a0 q0
     refine BC rfl rfl rfl (At rfl rfl (o_z ?_))
     obtain rfl:=sm a0
     exact ⟨(),_,⟨rfl,trivial⟩,(((((((((hB.st S4).st i0).st c0).st d0).st e0).st f0).st g0).st h0).st k0).st s0⟩
    replace a0:=im a0 q0
    refine BC rfl rfl rfl (At rfl rfl (o_z ?_))
    obtain rfl:=sm a0
    exact ⟨(),_,⟨rfl,trivial⟩,(((((((((hB.st S4).st i0).st c0).st d0).st e0).st f0).st g0).st h0).st k0).st s0⟩
   replace a0:=im a0 p0
   refine BC rfl rfl rfl (Am rfl rfl (Ay rfl rfl rfl rfl (Ay rfl rfl rfl rfl (Ay rfl rfl rfl rfl (Bv rfl rfl rfl (At rfl rfl (o_z ?_)))))))
   obtain rfl:=sm a0
   exact ⟨(),_,⟨rfl,trivial⟩,((((((((hB.st S4).st i0).st c0).st d0).st e0).st f0).st g0).st h0).st k0⟩
  replace a0:=im a0 o0
  refine Am rfl rfl (Ay rfl rfl rfl rfl (Ay rfl rfl rfl rfl (Bv rfl rfl rfl (Am rfl rfl (Ay rfl rfl rfl rfl (Ay rfl rfl rfl rfl (Ay rfl rfl rfl rfl (Bv rfl rfl rfl (At rfl rfl (o_z ?_))))))))))
  obtain rfl:=sm a0
  exact ⟨(),_,⟨rfl,trivial⟩,((((((((hB.st S4).st i0).st c0).st d0).st e0).st f0).st g0).st h0).st k0⟩
 replace hB:=((((((((hB.st S4).st i0).st c0).st d0).st e0).st f0).st g0).st h0).st k0
 rintro f2 g2 ⟨c1,h2,r0,hB⟩
 refine AT _ r0 ?_
 refine AL ?_
 obtain rfl:=sm hm
 exact ret1v rfl (AB rfl) ⟨hB.ext,vBool⟩
noncomputable def Du (x0:Tsk):Option Bool :=
  bnd (bnd (DY x0) fun q28=>if q28=true then bnd (Dn) fun q35=>if q35=true then some false else some true else some true:Option Bool) fun y24=>if y24=true then (bnd (bnd (Dn) fun q51=>if q51=true then some true else some false:Option Bool) fun y47=>some y47) else (bnd (Cd x0 512) fun q62=>if q62.2.n≠0 then (some false) else (bnd (Dx x0 512) fun q77=>bnd (Ek x0 q77.1) fun q90=>bnd (Dp x0 q77.1 q90) fun q99=>bnd (bnd q62.1 fun o120=>bnd (CS o120) fun q124=>bnd (El x0 (q77.1.length:Int) q90) fun q135=>bnd (DR q124 q135) fun q144=>if q144=true then bnd (Cr o120) fun q151=>bnd (DR q151 q99.1) fun q162=>if q162=true then some true else some false else some false:Option Bool) fun y114=>some y114))
theorem Hp {w:World} {A:Nat→Prop} (hA:∀ k,A k→k < w.heap.size) {vx0:Value} {x0:Tsk} (q1:Vb w A vx0 x0) {r:Bool} (hm:Du x0=some r) :
    Fn Tryz.prog 3 [vx0] w fun v w'=>Ext w w'∧Vb w' (upA A w w') v r:=by
 obtain ⟨O,hB,z2⟩:=enter hA
 replace q1:=q1.mono z2
 obtain ⟨h5,rfl,v3,v4,v5,v6,rfl,h7,d0,e0,f0⟩:=q1
 obtain ⟨A8,c9,rfl⟩:=h7.form
 obtain ⟨r0,s0,rfl⟩:=d0.form
 obtain ⟨t0,u0,rfl⟩:=e0.form
 obtain ⟨v0,w0,rfl⟩:=f0.form
 refine AI Tryz.func3 rfl Tryz.ntmps3 rfl ?_
 unfold Du at hm
 refine Al (Aj (DU 2 O rfl rfl fun r1 s1 t1 m0 h0=>?_))
 replace h0:Lc 2 s1 t1 r1 26 [(.slice A8 x0.vars.length c9),(.slice r0 x0.init.length s0),(.slice t0 x0.goal.length u0),(.slice v0 x0.ops.length w0)]:=h0
 refine At rfl rfl (o_z ?_)
 refine Al (Al ?_)
 obtain ⟨a3,b0,hm⟩:=bs hm
 refine AM (fun l' w'=>∃ (b3:Unit) (O':Lab),subs l' [(1,(.pointer (some ⟨r1,0,none⟩))),(16,(.bool a3))]∧Bs w A w' O'∧Lc 2 w' O' r1 26 [(.slice A8 x0.vars.length c9),(.slice r0 x0.init.length s0),(.slice t0 x0.goal.length u0),(.slice v0 x0.ops.length w0)]∧Vb w' (Fr 0 w' O') (.slice A8 x0.vars.length c9) x0.vars∧Vb w' (Fr 0 w' O') (.slice r0 x0.init.length s0) x0.init∧Vb w' (Fr 0 w' O') (.slice t0 x0.goal.length u0) x0.goal∧Vb w' (Fr 0 w' O') (.slice v0 x0.ops.length w0) x0.ops) ?_ ?_
 ·
  refine Aj (BI (hl:=rfl) (hc:=(h0.1).cellsAt) rfl rfl ?_)
  obtain ⟨u2,c3,b0⟩:=bs b0
  replace h7:=h7.st m0
  replace d0:=d0.st m0
  replace e0:=e0.st m0
  replace f0:=f0.st m0
  refine Cl (O:=t1) (A:=All s1) (R:=fun w' F v=>Vb w' F v u2) (KK (fun _ h=>h) (Vb.mono (F:=Fr 0 s1 t1) (Vb.ofAgg (cs:=[(.slice A8 x0.vars.length c9),(.slice r0 x0.init.length s0),(.slice t0 x0.goal.length u0),(.slice v0 x0.ops.length w0)]) (x:=x0) rfl ⟨_,_,_,_,rfl,h7,d0,e0,f0⟩) Fr.lt) c3) rfl rfl fun i5 d3 e3 i0 f3=>?_
  obtain rfl:=f3.bool
  cases u2
  case false =>
   replace b0:=iF b0
   refine CW rfl rfl (Am rfl rfl (Ay rfl rfl rfl rfl (Ay rfl rfl rfl rfl (BC rfl rfl rfl (o_z ?_)))))
   obtain rfl:=sm b0
   exact ⟨(),_,⟨rfl,rfl,trivial⟩,(hB.st m0).st i0,h0.st i0,h7.st i0,d0.st i0,e0.st i0,f0.st i0⟩
  replace b0:=iT b0
  refine CV rfl rfl (Am rfl rfl (Aw rfl rfl ?_))
  obtain ⟨v2,g3,b0⟩:=bs b0
  refine Cl (O:=e3) (A:=All d3) (R:=fun w' F v=>Vb w' F v v2) (HB (fun _ h=>h)  g3) rfl rfl fun j5 k5 l5 n0 h3=>?_
  obtain rfl:=h3.bool
  cases v2
  case false =>
   replace b0:=iF b0
   refine Aw rfl rfl (CW rfl rfl (Bv rfl rfl rfl (o_z ?_)))
   obtain rfl:=sm b0
   exact ⟨(),_,⟨rfl,rfl,trivial⟩,((hB.st m0).st i0).st n0,(h0.st i0).st n0,(h7.st i0).st n0,(d0.st i0).st n0,(e0.st i0).st n0,(f0.st i0).st n0⟩
  replace b0:=iT b0
  refine Aw rfl rfl (CV rfl rfl (Bv rfl rfl rfl (o_z ?_)))
  obtain rfl:=sm b0
  exact ⟨(),_,⟨rfl,rfl,trivial⟩,((hB.st m0).st i0).st n0,(h0.st i0).st n0,(h7.st i0).st n0,(d0.st i0).st n0,(e0.st i0).st n0,(f0.st i0).st n0⟩
 replace hB:=hB.st m0
 replace h7:=h7.st m0
 replace d0:=d0.st m0
 replace e0:=e0.st m0
 replace f0:=f0.st m0
 rintro m5 i3 ⟨b3,w2,u1,hB,h0,h7,d0,e0,f0⟩
 refine AT _ u1 ?_
 refine CK rfl (fun v1=>?_) (fun v1=>?_)
 ·
  replace hm:=ip hm v1
  refine Al ?_
  obtain ⟨j3,j0,hm⟩:=bs hm
  refine AM (fun l' w'=>∃ (k3:Unit) (O':Lab),subs l' [(2,(.bool j3))]∧Bs w A w' O') ?_ ?_
  ·
   refine Aj ?_
   obtain ⟨x2,l3,j0⟩:=bs j0
   refine Cl (O:=w2) (A:=All i3) (R:=fun w' F v=>Vb w' F v x2) (HB (fun _ h=>h)  l3) rfl rfl fun n5 o5 p5 y2 m3=>?_
   obtain rfl:=m3.bool
   cases x2
   case false =>
    replace j0:=iF j0
    refine At rfl rfl (o_z ?_)
    obtain rfl:=sm j0
    exact ⟨(),_,⟨rfl,trivial⟩,hB.st y2⟩
   replace j0:=iT j0
   refine At rfl rfl (o_z ?_)
   obtain rfl:=sm j0
   exact ⟨(),_,⟨rfl,trivial⟩,hB.st y2⟩
  rintro q5 r5 ⟨k3,s5,w1,hB⟩
  refine AT _ w1 ?_
  refine AL ?_
  obtain rfl:=sm hm
  exact ret1v rfl (AB rfl) ⟨hB.ext,vBool⟩
 replace hm:=im' hm v1
 refine AJ (Al (Aj (BI (hl:=rfl) (hc:=(h0.1).cellsAt) rfl rfl ?_)))
 obtain ⟨t5,n3,hm⟩:=bs hm
 refine BQ (O:=w2) (FQ (Vb.ofAgg (cs:=[(.slice A8 x0.vars.length c9),(.slice r0 x0.init.length s0),(.slice t0 x0.goal.length u0),(.slice v0 x0.ops.length w0)]) (x:=x0) rfl ⟨_,_,_,_,rfl,h7,d0,e0,f0⟩) (show inI64 (512) from by decide) 3 (by decide) n3) rfl rfl fun u5 w5 o3 p0 p3=>?_
 obtain ⟨x5,y5,rfl,i1,q3⟩:=p3
 obtain ⟨z5,rfl,r3⟩:=Obo.ptrq i1
 obtain ⟨rfl,a6⟩:=q3.err
 refine Am rfl rfl (By rfl rfl rfl (By rfl rfl rfl (At rfl rfl (At rfl rfl (o_z ?_)))))
 refine Al (Al (Aj (Am rfl rfl (EW rfl rfl (fun x1=>?_) fun x1=>?_))))
 ·
  replace hm:=ip hm x1
  refine o_z ?_
  refine Ah rfl (Al (Aj (At rfl rfl (o_z ?_))))
  refine AL ?_
  obtain rfl:=sm hm
  replace hB:=hB.st p0
  exact ret1v rfl (AB rfl) ⟨hB.ext,vBool⟩
 replace hm:=im hm x1
 refine o_z ?_
 refine Ae rfl (AJ (Al (Aj ?_)))
 replace h0:=h0.st p0
 refine BI (hl:=rfl) (hc:=(h0.1).cellsAt) rfl rfl ?_
 obtain ⟨y1,s3,hm⟩:=bs hm
 replace h7:=h7.st p0
 replace d0:=d0.st p0
 replace e0:=e0.st p0
 replace f0:=f0.st p0
 refine Ej (O:=o3) (R:=fun w' F v=>T2 w' F v y1) (JG Fr.lt (Vb.ofAgg (cs:=[(.slice A8 x0.vars.length c9),(.slice r0 x0.init.length s0),(.slice t0 x0.goal.length u0),(.slice v0 x0.ops.length w0)]) (x:=x0) rfl ⟨_,_,_,_,rfl,h7,d0,e0,f0⟩) (show inI64 (512) from by decide) s3) rfl rfl fun b6 c6 t3 q0 u3=>?_
 obtain ⟨d6,e6,rfl,y0,w3⟩:=u3
 obtain ⟨f6,g6,rfl⟩:=y0.form
 obtain rfl:=w3.bool
 refine Am rfl rfl (By rfl rfl rfl (By rfl rfl rfl (At rfl rfl (At rfl rfl (o_z ?_)))))
 refine Al (Aj ?_)
 replace h0:=h0.st q0
 refine BI (hl:=rfl) (hc:=(h0.1).cellsAt) rfl rfl ?_
 refine Am rfl rfl ?_
 obtain ⟨x3,y3,hm⟩:=bs hm
 replace h7:=h7.st q0
 replace d0:=d0.st q0
 replace e0:=e0.st q0
 replace f0:=f0.st q0
 refine Ej (O:=t3) (R:=fun w' F v=>Vb w' F v x3) (Kk Fr.lt (Vb.ofAgg (cs:=[(.slice A8 x0.vars.length c9),(.slice r0 x0.init.length s0),(.slice t0 x0.goal.length u0),(.slice v0 x0.ops.length w0)]) (x:=x0) rfl ⟨_,_,_,_,rfl,h7,d0,e0,f0⟩) y0 y3) rfl rfl fun h6 i6 z3 o0 j1=>?_
 obtain ⟨j6,k6,rfl⟩:=j1.form
 refine At rfl rfl (o_z ?_)
 refine Al (Aj ?_)
 replace h0:=h0.st o0
 refine BI (hl:=rfl) (hc:=(h0.1).cellsAt) rfl rfl ?_
 refine Am rfl rfl (Am rfl rfl ?_)
 obtain ⟨a4,z1,hm⟩:=bs hm
 replace h7:=h7.st o0
 replace d0:=d0.st o0
 replace e0:=e0.st o0
 replace f0:=f0.st o0
 replace y0:=y0.st o0
 refine Ej (O:=z3) (R:=fun w' F v=>T2 w' F v a4) (IH Fr.lt (Vb.ofAgg (cs:=[(.slice A8 x0.vars.length c9),(.slice r0 x0.init.length s0),(.slice t0 x0.goal.length u0),(.slice v0 x0.ops.length w0)]) (x:=x0) rfl ⟨_,_,_,_,rfl,h7,d0,e0,f0⟩) y0 j1 z1) rfl rfl fun b4 c4 k1 c0 a2=>?_
 obtain ⟨d4,e4,rfl,z0,b2⟩:=a2
 obtain ⟨f4,g4,rfl⟩:=z0.form
 obtain ⟨h4,i4,rfl⟩:=b2.form
 refine Am rfl rfl (By rfl rfl rfl (By rfl rfl rfl (At rfl rfl (At rfl rfl (o_z ?_)))))
 refine Al ?_
 obtain ⟨c2,a0,hm⟩:=bs hm
 refine AM (fun l' w'=>∃ (d2:Unit) (O':Lab),subs l' [(2,(.bool c2))]∧Bs w A w' O') ?_ ?_
 ·
  refine Bn [(1,[3]),(10,[3])] k1 ?_
  refine AP (fuel:=14) [] [(0,true)] (by kernel_rfl) rfl ?_
  refine AH rfl rfl rfl (AF ?_)
  refine AP (fuel:=10) [3] [(2,true),(3,true),(4,true),(5,true)] (by kernel_rfl) rfl ?_
  replace h0:=h0.st c0
  refine Ew (hl:=rfl) (hb:=fun w' ⟨O',hq⟩=>((h0.st hq (by decide)).1).cellsAt) rfl rfl rfl ?_
  refine AH rfl rfl rfl (GF rfl rfl rfl ?_)
  replace y0:=y0.st c0
  have e2:y1.1.length≤9223372036854775807:=Nat.le_trans y0.len.2.1 y0.len.2.2
  have f2:inI64 (y1.1.length:Int):=rngNat e2
  refine AH rfl rfl rfl (AF ?_)
  refine AW (i:=1) (by kernel_rfl) rfl ?_
  obtain ⟨j4,g2,a0⟩:=bs a0
  replace i1:=((i1.st q0).st o0).st c0
  rw [g2] at i1
  obtain ⟨k4,h2⟩:=Ob.ptr i1
  obtain rfl:=LC h2
  obtain ⟨l4,i2,a0⟩:=bs a0
  refine BQ (O:=k1) (GS i1 i2) rfl rfl fun m4 n4 j2 g0 k2=>?_
  obtain ⟨c1,a1⟩:=k2
  obtain ⟨o4,p4,rfl⟩:=a1.form
  have hZ:=g0.lst [3] (fun _ h=>by cases h;decide)
  refine Be [(10,[3])] hZ (by kernel_rfl) ?_
  refine AW (i:=6) (by kernel_rfl) rfl ?_
  obtain ⟨l2,m2,a0⟩:=bs a0
  replace h7:=(h7.st c0).st g0
  replace d0:=(d0.st c0).st g0
  replace e0:=(e0.st c0).st g0
  replace f0:=(f0.st c0).st g0
  replace j1:=(j1.st c0).st g0
  refine Ej (O:=j2) (R:=fun w' F v=>Vb w' F v l2) (Kl Fr.lt (Vb.ofAgg (cs:=[(.slice A8 x0.vars.length c9),(.slice r0 x0.init.length s0),(.slice t0 x0.goal.length u0),(.slice v0 x0.ops.length w0)]) (x:=x0) rfl ⟨_,_,_,_,rfl,h7,d0,e0,f0⟩) f2 j1 m2) rfl rfl fun q4 d1 e1 k0 l1=>?_
  obtain ⟨r4,s4,rfl⟩:=l1.form
  have hZ:=k0.lst [] (fun _ h=>h.elim)
  refine Be [(10,[3])] hZ (by kernel_rfl) ?_
  refine AW (i:=7) (by kernel_rfl) rfl ?_
  obtain ⟨m1,n2,a0⟩:=bs a0
  replace a1:=a1.st k0
  refine Cl (O:=e1) (A:=All d1) (R:=fun w' F v=>Vb w' F v m1) (GJ (fun _ h=>h) (Vb.mono (F:=Fr 0 d1 e1) a1 Fr.lt) (Vb.mono (F:=Fr 0 d1 e1) l1 Fr.lt) n2) rfl rfl fun t4 u4 o2 l0 p2=>?_
  obtain rfl:=p2.bool
  have hZ:=l0.lst [] (fun _ h=>h.elim)
  cases m1
  case false =>
   replace a0:=iF a0
   refine Be [(10,[3])] hZ (by kernel_rfl) ?_
   refine AP (fuel:=5) [] [(8,true),(9,true)] (by kernel_rfl) rfl ?_
   refine AH rfl rfl rfl (Ds rfl rfl rfl rfl rfl (AF ?_))
   refine AP (fuel:=4) [3] [(11,true)] (by kernel_rfl) rfl ?_
   refine Ds rfl rfl rfl rfl rfl (AF ?_)
   refine AW (i:=10) (by kernel_rfl) rfl ?_
   refine Ay rfl rfl rfl rfl (Be [] ((St.refl nT _ _).lst [] (fun _ h=>h.elim)) (by kernel_rfl) ?_)
   refine AW (i:=12) (by kernel_rfl) rfl ?_
   refine Ay rfl rfl rfl rfl (Be [] ((St.refl nT _ _).lst [] (fun _ h=>h.elim)) (by kernel_rfl) ?_)
   refine AP (fuel:=0) [] [(13,true),(14,true)] (by kernel_rfl) rfl ?_
   refine CA rfl rfl rfl rfl (Cz rfl rfl rfl (AF ?_))
   refine BF (by kernel_rfl) ?_
   obtain rfl:=sm a0
   exact ⟨(),_,⟨rfl,trivial⟩,((((((hB.st p0).st q0).st o0).st c0).st g0).st k0).st l0⟩
  replace a0:=iT a0
  refine Be [(10,[3])] hZ (by kernel_rfl) ?_
  refine AP (fuel:=5) [] [(8,true),(9,true)] (by kernel_rfl) rfl ?_
  refine AH rfl rfl rfl (Az rfl (Au rfl rfl (BX rfl rfl (AF ?_))))
  refine AP (fuel:=4) [3] [(11,true)] (by kernel_rfl) rfl ?_
  refine Az rfl (Au rfl rfl (BX rfl rfl (AF ?_)))
  refine AW (i:=10) (by kernel_rfl) rfl ?_
  refine Aw rfl rfl ?_
  obtain ⟨w4,q2,a0⟩:=bs a0
  replace c1:=(c1.st k0).st l0
  refine BQ (O:=o2) (FX c1 q2) rfl rfl fun x4 f1 g1 b1 r2=>?_
  obtain ⟨y4,n1⟩:=r2
  obtain ⟨z4,a5,rfl⟩:=n1.form
  have hZ:=b1.lst [3] (fun _ h=>by cases h;decide)
  refine Be [] hZ (by kernel_rfl) ?_
  refine AW (i:=12) (by kernel_rfl) rfl ?_
  refine Aw rfl rfl ?_
  obtain ⟨o1,s2,a0⟩:=bs a0
  replace z0:=(((z0.st g0).st k0).st l0).st b1
  refine Cl (O:=g1) (A:=All f1) (R:=fun w' F v=>Vb w' F v o1) (GJ (fun _ h=>h) (Vb.mono (F:=Fr 0 f1 g1) n1 Fr.lt) (Vb.mono (F:=Fr 0 f1 g1) z0 Fr.lt) s2) rfl rfl fun b5 c5 d5 h1 t2=>?_
  obtain rfl:=t2.bool
  have hZ:=h1.lst [] (fun _ h=>h.elim)
  cases o1
  case false =>
   replace a0:=iF a0
   refine Be [] hZ (by kernel_rfl) ?_
   refine AP (fuel:=0) [] [(13,true),(14,true)] (by kernel_rfl) rfl ?_
   refine Cv rfl rfl rfl rfl (Cz rfl rfl rfl (AF ?_))
   refine BF (by kernel_rfl) ?_
   obtain rfl:=sm a0
   exact ⟨(),_,⟨rfl,trivial⟩,((((((((hB.st p0).st q0).st o0).st c0).st g0).st k0).st l0).st b1).st h1⟩
  replace a0:=iT a0
  refine Be [] hZ (by kernel_rfl) ?_
  refine AP (fuel:=0) [] [(13,true),(14,true)] (by kernel_rfl) rfl ?_
  refine Cv rfl rfl rfl rfl (Cz rfl rfl rfl (AF ?_))
  refine BF (by kernel_rfl) ?_
  obtain rfl:=sm a0
  exact ⟨(),_,⟨rfl,trivial⟩,((((((((hB.st p0).st q0).st o0).st c0).st g0).st k0).st l0).st b1).st h1⟩
 replace hB:=(((hB.st p0).st q0).st o0).st c0
 rintro e5 f5 ⟨d2,g5,p1,hB⟩
 refine AT _ p1 ?_
 refine AL ?_
 obtain rfl:=sm hm
 exact ret1v rfl (AB rfl) ⟨hB.ext,vBool⟩
end
section
open Go Go.RowKit
def Le {α:Type} (x y:Option α):Prop:=∀ r,x=some r→y=some r
theorem Le.rf {α:Type} {x:Option α}:Le x x:=fun _ h=>h
theorem Le.bnd {α β:Type} {x x':Option α} {f f':α→Option β} (h:Le x x') (hf:∀ a,Le (f a) (f' a)):Le (bnd x f) (bnd x' f'):=fun r hr=>by
  obtain ⟨a,ha,hb⟩:=bs hr
  rw [h a ha,Ar]
  exact hf a r hb
theorem Le.ite {α:Type} {p:Prop} [Decidable p] {x x' y y':Option α} (h:Le x x') (k:Le y y'):Le (if p then x else y) (if p then x' else y'):=by
  by_cases hp:p
  · rw [if_pos hp,if_pos hp];exact h
  · rw [if_neg hp,if_neg hp];exact k
theorem Le.fin {σ κ:Type} {y:Fin σ κ} {f f':σ→Option κ} (hf:∀ a,Le (f a) (f' a)):Le (fin y f) (fin y f'):=by
  cases y with
  | done s=>exact hf s
  | ret c=>exact Le.rf
theorem Le.rng {α σ ρ:Type} {f f':Nat→α→σ→Option (Ctl σ ρ)} (hf:∀ k a s,Le (f k a s) (f' k a s)):∀ {xs:List α} {k:Nat} {s:σ},Le (rng f xs k s) (rng f' xs k s)
  | [],_,_=>Le.rf
  | x :: xs,k,s=>fun r hr=>by
    simp only [Proofs.YtkbmbcblgdgjlaaGreat.rng] at hr ⊢
    cases hc:f k x s with
    | none=>rw [hc] at hr;cases hr
    | some c =>
      rw [hc] at hr
      rw [hf k x s c hc]
      cases c with
      | next s'=>exact Le.rng hf r hr
      | brk s'=>exact hr
      | ret q=>exact hr
theorem Le.rngN {σ ρ:Type} {f f':Nat→σ→Option (Ctl σ ρ)} {n:Nat} {s:σ} (hf:∀ k s,Le (f k s) (f' k s)):Le (rngN f n s) (rngN f' n s):=Le.rng fun _ k s=>hf k s
theorem Le.itr {σ ρ:Type} {f f':σ→Option (Ctl σ ρ)} (hf:∀ s,Le (f s) (f' s)):∀ (n:Nat) (s:σ),Le (itr f n s) (itr f' n s)
  | 0,_=>Le.rf
  | n + 1,s=>fun r hr=>by
    simp only [Proofs.YtkbmbcblgdgjlaaGreat.itr] at hr ⊢
    cases hc:f s with
    | none=>rw [hc] at hr;cases hr
    | some c =>
      rw [hc] at hr
      rw [hf s c hc]
      cases c with
      | next s'=>exact Le.itr hf n s' r hr
      | brk s'=>exact hr
      | ret q=>exact hr
def lopE {σ ρ:Type} (f:σ→Option (Ctl σ ρ)) (s:σ):Option (Fin σ ρ):=itr f 600 s
theorem Le.lop {σ ρ:Type} {f f':σ→Option (Ctl σ ρ)} {s:σ} (hf:∀ s,Le (f s) (f' s)):Le (lopE f s) (lop f' s):=fun r hr=>Gg.2 ⟨600,Le.itr hf 600 s r hr⟩
end
section
open Go Go.RowKit
def factB (vars:List Int) (x:Fct):Bool:=decide (0≤x.var) && (decide (0≤x.val) && (match vars[x.var.toNat]? with|some y=>decide (x.val < y)|none=>false))
theorem Lg {vars:List Int} {x:Fct} (h:factB vars x=true):FactOk vars x:=by
  unfold factB at h
  simp only [Bool.and_eq_true,decide_eq_true_eq] at h
  obtain ⟨h1,h2,h3⟩:=h
  cases hv:vars[x.var.toNat]? with
  | none=>rw [hv] at h3;cases h3
  | some y=>rw [hv] at h3;exact ⟨h1,h2,y,hv,by simpa using h3⟩
def ascB:List Fct→Bool
  | x :: y :: r=>decide (x.var < y.var) && ascB (y :: r)
  | _=>true
theorem LP:∀ {f:List Fct},ascB f=true→∀ (i:Nat) x y,f[i]?=some x→f[i + 1]?=some y→x.var < y.var
  | [],_,i,x,y,h,_=>by simp at h
  | [_],_,i,x,y,_,h=>by simp at h
  | a :: b :: r,h,i,x,y,h1,h2=>by
    simp only [ascB,Bool.and_eq_true,decide_eq_true_eq] at h
    cases i with
    | zero=>simp at h1 h2;subst h1;subst h2;exact h.1
    | succ i=>exact LP h.2 i x y (by simpa using h1) (by simpa using h2)
def factsB (vars:List Int) (f:List Fct):Bool:=f.all (factB vars) && ascB f
theorem Im {vars:List Int} {f:List Fct} (h:factsB vars f=true):FactsOk vars f:=by
  unfold factsB at h
  rw [Bool.and_eq_true,List.all_eq_true] at h
  exact ⟨fun i x hx=>Lg (h.1 x (List.mem_of_getElem? hx)),LP h.2⟩
def stateB:List Int→List Int→Bool
  | [],[]=>true
  | y :: vars,x :: s=>decide (0≤x) && (decide (x < y) && stateB vars s)
  | _,_=>false
theorem In:∀ {vars s:List Int},stateB vars s=true→StateOk vars s
  | [],[],_=>⟨rfl,fun i x y h=>by simp at h⟩
  | y :: vars,x :: s,h=>by
    simp only [stateB,Bool.and_eq_true,decide_eq_true_eq] at h
    obtain ⟨h1,h2⟩:=In h.2.2
    refine ⟨by simp [h1],fun i a b ha hb=>?_⟩
    cases i with
    | zero=>simp at ha hb;subst ha;subst hb;exact ⟨h.1,h.2.1⟩
    | succ i=>exact h2 i a b (by simpa using ha) (by simpa using hb)
  | [],_ :: _,h=>by simp [stateB] at h
  | _ :: _,[],h=>by simp [stateB] at h
def nameB (s:ByteArray):Bool:=decide (s.size≤256) && s.data.toList.all fun c=>decide (32≤c.toNat) && decide (c.toNat≤126)
theorem NZ {s:ByteArray} (h:nameB s=true):NameOk s:=by
  unfold nameB at h
  simp only [Bool.and_eq_true,decide_eq_true_eq,List.all_eq_true] at h
  refine ⟨h.1,fun i hi=>h.2 _ ?_⟩
  show s.data[i]∈_
  simp
def opB (vars:List Int) (o:Opr):Bool:=decide (0≤o.cost) && (decide (o.cost≤1048576) && (decide (o.effs.length≤64) && (nameB o.name && (factsB vars o.pre && o.effs.all fun e=>factsB vars e.cond && factB vars ⟨e.var,e.val⟩))))
theorem PV {vars:List Int} {o:Opr} (h:opB vars o=true):OpOk vars o:=by
  unfold opB at h
  simp only [Bool.and_eq_true,decide_eq_true_eq,List.all_eq_true] at h
  obtain ⟨h1,h2,h3,h4,h5,h6⟩:=h
  exact ⟨h1,h2,h3,NZ h4,Im h5,fun i e he=>⟨Im (h6 e (List.mem_of_getElem? he)).1,Lg (h6 e (List.mem_of_getElem? he)).2⟩⟩
def taskB (t:Tsk):Bool:=decide (t.vars.length≤64) && (decide (t.ops.length≤4096) && ((t.vars.all fun n=>decide (1≤n) && decide (n≤64)) && (stateB t.vars t.init && (factsB t.vars t.goal && t.ops.all (opB t.vars)))))
theorem Oa {t:Tsk} (h:taskB t=true):TaskOk t:=by
  unfold taskB at h
  simp only [Bool.and_eq_true,decide_eq_true_eq,List.all_eq_true] at h
  obtain ⟨h1,h2,h3,h4,h5,h6⟩:=h
  exact ⟨h1,h2,fun i n hn=>h3 n (List.mem_of_getElem? hn),In h4,Im h5,fun i o ho=>PV (h6 o (List.mem_of_getElem? ho))⟩
def Gn (f:List Fct) (s:List Int):Option Bool:=Da f s
theorem HC (f:List Fct) (s:List Int):Le (Gn f s) (Da f s):=Le.rf
def Dg (x:List Int):Option (List Int):=Bl x
theorem EB (x:List Int):Le (Dg x) (Bl x):=Le.rf
end
section
open Go Go.RowKit
set_option maxRecDepth 20000
attribute [local irreducible] bnd fin rng rngN chkI mkI appI atI quoI Bc Bl BM
def DT (x:List U64):Option (List U64):=BM x
theorem Fo (x:List U64):Le (DT x) (BM x):=Le.rf
def Ci (x:List Fct):Option (List Fct):=Bc x
theorem EN (x:List Fct):Le (Ci x) (Bc x):=Le.rf
def FR (x:List (List Arc)) (y z:List Int):Option (List Int×List Int):=Do x y z
theorem Ip (x:List (List Arc)) (y z:List Int):Le (FR x y z) (Do x y z):=Le.rf
def IR (x y:Err):Option Bool:=DS x y
theorem Lh (x y:Err):Le (IR x y) (DS x y):=Le.rf
def HD (t:Tsk):Option (Option Gnr×Err):=if taskB t=true then some (some ⟨t⟩,⟨0⟩) else none
theorem JM (t:Tsk):Le (HD t) (DJ t):=fun r h=>by
  obtain ⟨h1,rfl⟩:=EX h
  exact MJ (Oa h1)
def Dc (x:Option Gnr) (s:List Int):Option (List Int):=match x with
  | some g=>if stateB g.t.vars s=true then (if s.length≤1000000 then some (appl g.t s) else none) else none
  | none=>none
theorem Fe (x:Option Gnr) (s:List Int):Le (Dc x s) (BZ x s):=fun r h=>by
  cases x with
  | none=>cases h
  | some g =>
    unfold Dc at h
    dsimp only at h
    split at h
    · rename_i h1
      obtain ⟨h3,rfl⟩:=EX h
      unfold BZ
      rw [if_pos h3]
      show some (appS g.t s)=_
      rw [GR (In h1)]
    · cases h
noncomputable def Hq (x0:List Int):Option ((Option Pkr)×Err) :=
  if 64 < (x0.length:Int) then (some (none,(⟨5⟩:Err))) else (bnd (rng (ρ:=(Option Pkr)×Err) (fun (k25:Nat) (a26:Int) (s23:Int×Pkr)=>bnd (if a26 < 1 then (some true) else (if 64 < a26 then (some true) else (some false)):Option Bool) fun y48=>if y48=true then (some (.ret (none,(⟨1⟩:Err)))) else (bnd (lopE (ρ:=Ctl (Int×Pkr) ((Option Pkr)×Err)) (fun (s61:Int)=>bnd (shlI 1 s61) fun n76=>if n76 < a26 then (bnd (chkI (s61 + 1)) fun n80=>some (.next n80)) else (some (.brk s61))) 0) fun res59=>fin res59 fun (s87:Int)=>bnd (bnd (chkI (s23.1 + s87)) fun n95=>if 64 < n95 then (bnd (chkI (s23.2.words + 1)) fun n109=>some (0,(⟨s23.2.fields,n109⟩:Pkr))) else (some (s23.1,s23.2)):Option (Int×Pkr)) fun y89=>bnd (chkI (y89.2.words - 1)) fun n133=>bnd (appI 32 y89.2.fields [(⟨n133,y89.1,s87,a26⟩:PFd)]) fun u142=>bnd (chkI (y89.1 + s87)) fun n155=>some (.next (n155,(⟨u142,y89.2.words⟩:Pkr))))) x0 0 (0,(⟨([]:List PFd),1⟩:Pkr))) fun res21=>fin res21 fun (s167:Int×Pkr)=>some ((some s167.2),(⟨0⟩:Err)))
theorem Lv (x0:List Int):Le (Hq x0) (Ef x0):=by
  unfold Hq Ef
  repeat' (first|apply Le.ite|apply Le.bnd|apply Le.fin|apply Le.rng|apply Le.rngN|apply Le.lop|exact Le.rf|intro _)
noncomputable def DV (x0:PFd):Option U64 :=
  bnd (shlU (1:U64) x0.width) fun n12=>bnd (shlU (n12 - (1:U64)) x0.bit) fun n14=>some n14
theorem FM (x0:PFd):Le (DV x0) (Cp x0):=by
  unfold DV Cp
  repeat' (first|apply Le.ite|apply Le.bnd|apply Le.fin|apply Le.rng|apply Le.rngN|apply Le.lop|exact Le.rf|intro _)
noncomputable def EY (x0:PFd) (x1:List U64):Option Int :=
  bnd (atI x1 x0.word) fun a15=>bnd (DV x0) fun q26=>bnd (shrU (a15 &&& q26) x0.bit) fun n33=>some n33.toInt
theorem II (x0:PFd) (x1:List U64):Le (EY x0 x1) (CO x0 x1):=by
  unfold EY CO
  repeat' (first|apply FM|apply Le.ite|apply Le.bnd|apply Le.fin|apply Le.rng|apply Le.rngN|apply Le.lop|exact Le.rf|intro _)
noncomputable def EC (x0:Pkr) (x1:List Int):Option ((List U64)×Err) :=
  if (x1.length:Int)≠(x0.fields.length:Int) then (some (([]:List U64),(⟨2⟩:Err))) else (bnd (mkI 8 ((0:U64):U64) x0.words) fun u25=>bnd (rng (ρ:=(List U64)×Err) (fun (k50:Nat) (a51:PFd) (s48:(List U64))=>bnd (bnd (x1[k50]?) fun a87=>if a87 < 0 then (some true) else (bnd (x1[k50]?) fun a98=>if a51.size≤a98 then (some true) else (some false)):Option Bool) fun y83=>if y83=true then (some (.ret (([]:List U64),(⟨2⟩:Err)))) else (bnd (atI s48 a51.word) fun a114=>bnd (x1[k50]?) fun a125=>bnd (shlU (BitVec.ofInt 64 a125) a51.bit) fun n135=>bnd (atI s48 a51.word) fun a137=>some (.next (s48.set (a51.word:Int).toNat (a114 ||| n135))))) x0.fields 0 u25) fun res46=>fin res46 fun (s154:(List U64))=>some (s154,(⟨0⟩:Err)))
theorem HI (x0:Pkr) (x1:List Int):Le (EC x0 x1) (BA x0 x1):=by
  unfold EC BA
  repeat' (first|apply Le.ite|apply Le.bnd|apply Le.fin|apply Le.rng|apply Le.rngN|apply Le.lop|exact Le.rf|intro _)
noncomputable def Eg (x0:Pkr) (x1:List U64):Option ((List Int)×Err) :=
  if (x1.length:Int)≠x0.words then (some (([]:List Int),(⟨2⟩:Err))) else (bnd (mkI 8 (0:Int) (x0.fields.length:Int)) fun u25=>bnd (DT x1) fun q38=>bnd (rng (ρ:=(List Int)×Err) (fun (k60:Nat) (a61:PFd) (s58:(List Int)×(List U64))=>bnd (EY a61 x1) fun q97=>bnd (s58.1[k60]?) fun a105=>bnd ((s58.1.set k60 q97)[k60]?) fun a117=>if a61.size≤a117 then (some (.ret (([]:List Int),(⟨2⟩:Err)))) else (bnd (atI s58.2 a61.word) fun a128=>bnd (DV a61) fun q139=>bnd (atI s58.2 a61.word) fun a146=>some (.next ((s58.1.set k60 q97),(s58.2.set (a61.word:Int).toNat (a128 &&& ~~~q139)))))) x0.fields 0 (u25,q38)) fun res56=>fin res56 fun (s163:(List Int)×(List U64))=>bnd (rng (ρ:=(List Int)×Err) (fun (k171:Nat) (a172:U64) (s169:Unit)=>bnd (s163.2[k171]?) fun a182=>if (a182.toNat:Int)≠((0:U64).toNat:Int) then (some (.ret (([]:List Int),(⟨2⟩:Err)))) else (some (.next ()))) q38 0 ()) fun res167=>fin res167 fun (s196:Unit)=>some (s163.1,(⟨0⟩:Err)))
theorem GW (x0:Pkr) (x1:List U64):Le (Eg x0 x1) (Cm x0 x1):=by
  unfold Eg Cm
  repeat' (first|apply II|apply FM|apply Fo|apply Le.ite|apply Le.bnd|apply Le.fin|apply Le.rng|apply Le.rngN|apply Le.lop|exact Le.rf|intro _)
noncomputable def ED (x0:Pkr) (x1:List U64):Option Int :=
  bnd (rng (ρ:=Int) (fun (k13:Nat) (a14:U64) (s11:U64)=>bnd (shrU ((s11 ^^^ a14) * (13787848793156543929:U64)) 29) fun n31=>some (.next (((s11 ^^^ a14) * (13787848793156543929:U64)) ^^^ n31))) x1 0 ((BitVec.ofInt 64 (x1.length:Int)) + (11400714819323198485:U64))) fun res9=>fin res9 fun (s37:U64)=>bnd (shrU s37 2) fun n39=>some n39.toInt
theorem HJ (x0:Pkr) (x1:List U64):Le (ED x0 x1) (BN x0 x1):=by
  unfold ED BN
  repeat' (first|apply Le.ite|apply Le.bnd|apply Le.fin|apply Le.rng|apply Le.rngN|apply Le.lop|exact Le.rf|intro _)
noncomputable def De (x0:List U64) (x1:List U64):Option Bool :=
  if (x0.length:Int)≠(x1.length:Int) then (some false) else (bnd (rng (ρ:=Bool) (fun (k18:Nat) (a19:U64) (s16:Unit)=>bnd (x1[k18]?) fun a36=>if (a19.toNat:Int)≠(a36.toNat:Int) then (some (.ret false)) else (some (.next ()))) x0 0 ()) fun res14=>fin res14 fun (s50:Unit)=>some true)
theorem Fp (x0:List U64) (x1:List U64):Le (De x0 x1) (Br x0 x1):=by
  unfold De Br
  repeat' (first|apply Le.ite|apply Le.bnd|apply Le.fin|apply Le.rng|apply Le.rngN|apply Le.lop|exact Le.rf|intro _)
noncomputable def FC (x0:List Int):Option ((Option Reg)×Err) :=
  bnd (Hq x0) fun q4=>if q4.2.n≠0 then (some (none,(⟨q4.2.n⟩:Err))) else (bnd q4.1 fun o22=>some ((some (⟨o22,([]:List REn),(⟨[]⟩:MapR 3 Int Int)⟩:Reg)),(⟨0⟩:Err)))
theorem Jw (x0:List Int):Le (FC x0) (CR x0):=by
  unfold FC CR
  repeat' (first|apply Lv|apply Le.ite|apply Le.bnd|apply Le.fin|apply Le.rng|apply Le.rngN|apply Le.lop|exact Le.rf|intro _)
noncomputable def DC (x0:Reg) (x1:List Int):Option ((List U64)×Int×Int×Err) :=
  bnd (EC x0.packer x1) fun q20=>if q20.2.n≠0 then (some (([]:List U64),0,(-1),(⟨2⟩:Err))) else (bnd (ED x0.packer q20.1) fun q41=>bnd (rng (ρ:=(List U64)×Int×Int×Err) (fun (k66:Nat) (a67:Int) (s64:Unit)=>bnd (atI x0.entries a67) fun a100=>bnd (De a100.words q20.1) fun q118=>if q118=true then some (.ret (q20.1,q41,a67,(⟨0⟩:Err))) else some (.next ())) (mget ([]:List Int) x0.table.l q41) 0 ()) fun res62=>fin res62 fun (s139:Unit)=>some (q20.1,q41,(-1),(⟨0⟩:Err)))
theorem FY (x0:Reg) (x1:List Int):Le (DC x0 x1) (Bo x0 x1):=by
  unfold DC Bo
  repeat' (first|apply HJ|apply HI|apply Fp|apply Le.ite|apply Le.bnd|apply Le.fin|apply Le.rng|apply Le.rngN|apply Le.lop|exact Le.rf|intro _)
noncomputable def Dh (x0:Reg) (x1:List Int):Option (Int×Bool×Err×Reg) :=
  bnd (DC x0 x1) fun q5=>if q5.2.2.2.n≠0 then (some (0,false,(⟨q5.2.2.2.n⟩:Err),x0)) else (if 0≤q5.2.2.1 then (some (q5.2.2.1,false,(⟨0⟩:Err),x0)) else (if 65536≤(x0.entries.length:Int) then (some (0,false,(⟨10⟩:Err),x0)) else (bnd (appI 48 x0.entries [(⟨q5.1,(⟨(-1),(-1),0⟩:RLk)⟩:REn)]) fun u53=>bnd (appI 8 (mget ([]:List Int) x0.table.l q5.2.1) ([(x0.entries.length:Int)]:List Int)) fun u82=>some ((x0.entries.length:Int),true,(⟨0⟩:Err),(⟨x0.packer,u53,(⟨mput x0.table.l q5.2.1 u82⟩:MapR 3 Int Int)⟩:Reg)))))
theorem Gp (x0:Reg) (x1:List Int):Le (Dh x0 x1) (Bf x0 x1):=by
  unfold Dh Bf
  repeat' (first|apply FY|apply Le.ite|apply Le.bnd|apply Le.fin|apply Le.rng|apply Le.rngN|apply Le.lop|exact Le.rf|intro _)
noncomputable def CB (x0:Reg):Option Int :=
  some (x0.entries.length:Int)
theorem DD (x0:Reg):Le (CB x0) (Bb x0):=by
  unfold CB Bb
  repeat' (first|apply Le.ite|apply Le.bnd|apply Le.fin|apply Le.rng|apply Le.rngN|apply Le.lop|exact Le.rf|intro _)
noncomputable def DH (x0:Reg) (x1:Int):Option Bool :=
  bnd (if 0≤x1 then (if x1 < (x0.entries.length:Int) then (some true) else (some false)) else (some false):Option Bool) fun y3=>some y3
theorem Gq (x0:Reg) (x1:Int):Le (DH x0 x1) (BV x0 x1):=by
  unfold DH BV
  repeat' (first|apply Le.ite|apply Le.bnd|apply Le.fin|apply Le.rng|apply Le.rngN|apply Le.lop|exact Le.rf|intro _)
noncomputable def Dv (x0:Reg) (x1:Int):Option ((List Int)×Err) :=
  bnd (DH x0 x1) fun q3=>if q3=true then bnd (atI x0.entries x1) fun a27=>bnd (Eg x0.packer a27.words) fun q45=>some (q45.1,(⟨q45.2.n⟩:Err)) else some (([]:List Int),(⟨1⟩:Err))
theorem FO (x0:Reg) (x1:Int):Le (Dv x0 x1) (Bw x0 x1):=by
  unfold Dv Bw
  repeat' (first|apply GW|apply Gq|apply Le.ite|apply Le.bnd|apply Le.fin|apply Le.rng|apply Le.rngN|apply Le.lop|exact Le.rf|intro _)
noncomputable def Dd (x0:Option Gnr) (x1:List Int):Option (List Suc) :=
  bnd (Dc x0 x1) fun q7=>bnd (rng (ρ:=(List Suc)) (fun (k23:Nat) (a24:Int) (s21:(List Suc))=>bnd (Dg x1) fun q46=>bnd (x0) fun o56=>bnd (atI o56.t.ops a24) fun a88=>bnd (rng (ρ:=Ctl (List Suc) (List Suc)) (fun (k115:Nat) (a116:Eff) (s113:(List Int))=>bnd (Gn a116.cond x1) fun q150=>if q150=true then bnd (atI s113 a116.var) fun a157=>some (.next (s113.set (a116.var:Int).toNat a116.val)) else some (.next s113)) a88.effs 0 q46) fun res111=>fin res111 fun (s175:(List Int))=>bnd (appI 32 s21 [(⟨a24,s175⟩:Suc)]) fun u179=>some (.next u179)) q7 0 ([]:List Suc)) fun res19=>fin res19 fun (s195:(List Suc))=>some s195
theorem Ff (x0:Option Gnr) (x1:List Int):Le (Dd x0 x1) (Bi x0 x1):=by
  unfold Dd Bi
  repeat' (first|apply EB|apply Fe|apply HC|apply Le.ite|apply Le.bnd|apply Le.fin|apply Le.rng|apply Le.rngN|apply Le.lop|exact Le.rf|intro _)
noncomputable def Gr  : Option (Option Que) :=
  some (some (⟨([]:List QEn),0⟩:Que))
theorem Km  : Le (Gr ) (DB ):=by
  unfold Gr DB
  repeat' (first|apply Le.ite|apply Le.bnd|apply Le.fin|apply Le.rng|apply Le.rngN|apply Le.lop|exact Le.rf|intro _)
noncomputable def DM (x0:QEn) (x1:QEn):Option Bool :=
  if x0.key≠x1.key then (bnd (if x0.key < x1.key then (some true) else (some false):Option Bool) fun y24=>some y24) else (if x0.tie≠x1.tie then (bnd (if x0.tie < x1.tie then (some true) else (some false):Option Bool) fun y34=>some y34) else (bnd (if x0.number < x1.number then (some true) else (some false):Option Bool) fun y43=>some y43))
theorem Gs (x0:QEn) (x1:QEn):Le (DM x0 x1) (BR x0 x1):=by
  unfold DM BR
  repeat' (first|apply Le.ite|apply Le.bnd|apply Le.fin|apply Le.rng|apply Le.rngN|apply Le.lop|exact Le.rf|intro _)
noncomputable def EE (x0:Que):Option Int :=
  some (x0.heap.length:Int)
theorem HK (x0:Que):Le (EE x0) (Cx x0):=by
  unfold EE Cx
  repeat' (first|apply Le.ite|apply Le.bnd|apply Le.fin|apply Le.rng|apply Le.rngN|apply Le.lop|exact Le.rf|intro _)
noncomputable def Es (x0:Que):Option (Int×Int×Int×Err) :=
  if (x0.heap.length:Int)=0 then (some (0,0,0,(⟨3⟩:Err))) else (bnd (atI x0.heap 0) fun a20=>some (a20.key,a20.tie,a20.item,(⟨0⟩:Err)))
theorem Hr (x0:Que):Le (Es x0) (CF x0):=by
  unfold Es CF
  repeat' (first|apply Le.ite|apply Le.bnd|apply Le.fin|apply Le.rng|apply Le.rngN|apply Le.lop|exact Le.rf|intro _)
noncomputable def EO (x0:Que) (x1:Int):Option Que :=
  bnd (lopE (ρ:=Que) (fun (s5:Int×Que)=>if 0 < s5.1 then (bnd (chkI (s5.1 - 1)) fun n23=>bnd (quoI n23 2) fun n26=>bnd (atI s5.2.heap s5.1) fun a39=>bnd (atI s5.2.heap n26) fun a54=>bnd (DM a39 a54) fun q69=>if q69=true then bnd (atI s5.2.heap n26) fun a81=>bnd (atI s5.2.heap s5.1) fun a96=>bnd (atI s5.2.heap s5.1) fun a111=>bnd (atI (s5.2.heap.set (s5.1:Int).toNat a81) n26) fun a128=>some (.next (n26,(⟨((s5.2.heap.set (s5.1:Int).toNat a81).set (n26:Int).toNat a96),s5.2.next⟩:Que))) else some (.ret s5.2)) else (some (.brk (s5.1,s5.2)))) (x1,x0)) fun res3=>fin res3 fun (s154:Int×Que)=>some s154.2
theorem Iq (x0:Que) (x1:Int):Le (EO x0 x1) (CC x0 x1):=by
  unfold EO CC
  repeat' (first|apply Gs|apply Le.ite|apply Le.bnd|apply Le.fin|apply Le.rng|apply Le.rngN|apply Le.lop|exact Le.rf|intro _)
noncomputable def Et (x0:Que) (x1:Int):Option Que :=
  bnd (lopE (ρ:=Que) (fun (s5:Int×Que)=>bnd (chkI (2 * s5.1)) fun n22=>bnd (chkI (n22 + 1)) fun n25=>if (s5.2.heap.length:Int)≤n25 then (some (.ret s5.2)) else (bnd (bnd (bnd (chkI (n25 + 1)) fun n55=>if n55 < (s5.2.heap.length:Int) then (bnd (chkI (n25 + 1)) fun n61=>bnd (atI s5.2.heap n61) fun a64=>bnd (atI s5.2.heap n25) fun a79=>bnd (DM a64 a79) fun q94=>if q94=true then some true else some false) else (some false):Option Bool) fun y51=>if y51=true then (bnd (chkI (n25 + 1)) fun n121=>some n121) else (some n25):Option Int) fun y46=>bnd (atI s5.2.heap y46) fun a138=>bnd (atI s5.2.heap s5.1) fun a153=>bnd (DM a138 a153) fun q168=>if q168=true then bnd (atI s5.2.heap y46) fun a180=>bnd (atI s5.2.heap s5.1) fun a195=>bnd (atI s5.2.heap s5.1) fun a210=>bnd (atI (s5.2.heap.set (s5.1:Int).toNat a180) y46) fun a227=>some (.next (y46,(⟨((s5.2.heap.set (s5.1:Int).toNat a180).set (y46:Int).toNat a195),s5.2.next⟩:Que))) else some (.ret s5.2))) (x1,x0)) fun res3=>fin res3 fun (_:Int×Que)=>none
theorem Hs (x0:Que) (x1:Int):Le (Et x0 x1) (Cq x0 x1):=by
  unfold Et Cq
  repeat' (first|apply Gs|apply Le.ite|apply Le.bnd|apply Le.fin|apply Le.rng|apply Le.rngN|apply Le.lop|exact Le.rf|intro _)
noncomputable def DF (x0:Que) (x1:Int) (x2:Int) (x3:Int):Option (Err×Que) :=
  if 65536≤(x0.heap.length:Int) then (some ((⟨10⟩:Err),x0)) else (bnd (appI 32 x0.heap [(⟨x1,x2,x3,x0.next⟩:QEn)]) fun u29=>bnd (chkI (x0.next + 1)) fun n42=>bnd (chkI ((u29.length:Int) - 1)) fun n49=>bnd (EO (⟨u29,n42⟩:Que) n49) fun q57=>some ((⟨0⟩:Err),q57))
theorem Ht (x0:Que) (x1:Int) (x2:Int) (x3:Int):Le (DF x0 x1 x2 x3) (BG x0 x1 x2 x3):=by
  unfold DF BG
  repeat' (first|apply Iq|apply Le.ite|apply Le.bnd|apply Le.fin|apply Le.rng|apply Le.rngN|apply Le.lop|exact Le.rf|intro _)
noncomputable def EF (x0:Que):Option (Int×Int×Int×Err×Que) :=
  bnd (Es x0) fun q2=>if q2.2.2.2.n≠0 then (some (0,0,0,(⟨q2.2.2.2.n⟩:Err),x0)) else (bnd (chkI ((x0.heap.length:Int) - 1)) fun n35=>bnd (atI x0.heap n35) fun a38=>bnd (atI x0.heap 0) fun a53=>bnd (cutI (x0.heap.set (0:Int).toNat a38) 0 n35) fun u70=>bnd (Et (⟨u70,x0.next⟩:Que) 0) fun q82=>some (q2.1,q2.2.1,q2.2.2.1,(⟨0⟩:Err),q82))
theorem HL (x0:Que):Le (EF x0) (Ck x0):=by
  unfold EF Ck
  repeat' (first|apply Hr|apply Hs|apply Le.ite|apply Le.bnd|apply Le.fin|apply Le.rng|apply Le.rngN|apply Le.lop|exact Le.rf|intro _)
noncomputable def EZ (x0:Tsk):Option Tsk :=
  bnd (Dg x0.vars) fun q29=>bnd (Dg x0.init) fun q31=>bnd (Ci x0.goal) fun q33=>bnd (some (q29,q31,q33):Option ((List Int)×(List Int)×(List Fct))) fun y35=>bnd (rng (ρ:=Tsk) (fun (k156:Nat) (a157:Opr) (s154:(List Opr))=>bnd (Ci a157.pre) fun q195=>bnd (rng (ρ:=Ctl (List Opr) Tsk) (fun (k213:Nat) (a214:Eff) (s211:(List Eff))=>bnd (Ci a214.cond) fun q248=>bnd (appI 40 s211 [(⟨q248,a214.var,a214.val⟩:Eff)]) fun u262=>some (.next u262)) a157.effs 0 ([]:List Eff)) fun res209=>fin res209 fun (s278:(List Eff))=>bnd (appI 72 s154 [(⟨a157.name,a157.cost,q195,s278⟩:Opr)]) fun u286=>some (.next u286)) x0.ops 0 ([]:List Opr)) fun res152=>fin res152 fun (s304:(List Opr))=>some (⟨y35.1,y35.2.1,y35.2.2,s304⟩:Tsk)
theorem IJ (x0:Tsk):Le (EZ x0) (Cy x0):=by
  unfold EZ Cy
  repeat' (first|apply EN|apply EB|apply Le.ite|apply Le.bnd|apply Le.fin|apply Le.rng|apply Le.rngN|apply Le.lop|exact Le.rf|intro _)
noncomputable def DN (x0:List (List Arc)) (x1:List Int):Option ((List Int)×(List Int)) :=
  bnd (mkI 8 (0:Int) (x0.length:Int)) fun u7=>bnd (mkI 8 (0:Int) (x0.length:Int)) fun u9=>bnd (some (u7,u9):Option ((List Int)×(List Int))) fun y11=>bnd (rngN (ρ:=(List Int)×(List Int)) (fun (k77:Nat) (s75:(List Int)×(List Int))=>bnd (s75.1[k77]?) fun a104=>bnd (s75.2[k77]?) fun a116=>some (.next ((s75.1.set k77 1125899906842624),(s75.2.set k77 1125899906842624)))) y11.1.length (y11.1,y11.2)) fun res73=>fin res73 fun (s132:(List Int)×(List Int))=>bnd (Gr) fun q134=>bnd q134 fun o144=>bnd (rng (ρ:=(List Int)×(List Int)) (fun (k151:Nat) (a152:Int) (s149:(List Int)×(List Int)×Que)=>bnd (atI s149.1 a152) fun a180=>bnd (atI s149.2.1 a152) fun a194=>bnd (DF s149.2.2 0 0 a152) fun q208=>some (.next ((s149.1.set (a152:Int).toNat 0),(s149.2.1.set (a152:Int).toNat 0),q208.2))) x1 0 (s132.1,s132.2,o144)) fun res147=>fin res147 fun (s222:(List Int)×(List Int)×Que)=>bnd (lopE (ρ:=(List Int)×(List Int)) (fun (s226:(List Int)×(List Int)×Que)=>bnd (EE s226.2.2) fun q249=>if 0 < q249 then (bnd (EF s226.2.2) fun q260=>if q260.2.2.2.1.n≠0 then (some (.brk (s226.1,s226.2.1,q260.2.2.2.2))) else (bnd (bnd (atI s226.1 q260.2.2.1) fun a285=>if q260.1≠a285 then (some true) else (bnd (atI s226.2.1 q260.2.2.1) fun a298=>if q260.2.1≠a298 then (some true) else (some false)):Option Bool) fun y281=>if y281=true then (some (.next (s226.1,s226.2.1,q260.2.2.2.2))) else (bnd (atI x0 q260.2.2.1) fun a316=>bnd (rng (ρ:=Ctl ((List Int)×(List Int)×Que) ((List Int)×(List Int))) (fun (k337:Nat) (a338:Arc) (s335:(List Int)×(List Int)×Que)=>bnd (chkI (q260.1 + a338.weight)) fun n375=>bnd (chkI (q260.2.1 + 1)) fun n378=>bnd (bnd (atI s335.1 a338.dst) fun a385=>if a385 < n375 then (some true) else (bnd (atI s335.1 a338.dst) fun a398=>if n375=a398 then (bnd (atI s335.2.1 a338.dst) fun a411=>if a411≤n378 then (some true) else (some false)) else (some false)):Option Bool) fun y381=>if y381=true then (some (.next (s335.1,s335.2.1,s335.2.2))) else (bnd (atI s335.1 a338.dst) fun a429=>bnd (atI s335.2.1 a338.dst) fun a443=>bnd (DF s335.2.2 n375 n378 a338.dst) fun q457=>if q457.1.n≠0 then (bnd (FR x0 (s335.1.set (a338.dst:Int).toNat n375) (s335.2.1.set (a338.dst:Int).toNat n378)) fun q472=>some (.ret (.ret (q472.1,q472.2)))) else (some (.next ((s335.1.set (a338.dst:Int).toNat n375),(s335.2.1.set (a338.dst:Int).toNat n378),q457.2))))) a316 0 (s226.1,s226.2.1,q260.2.2.2.2)) fun res333=>fin res333 fun (s491:(List Int)×(List Int)×Que)=>some (.next (s491.1,s491.2.1,s491.2.2))))) else (some (.brk (s226.1,s226.2.1,s226.2.2)))) (s222.1,s222.2.1,s222.2.2)) fun res224=>fin res224 fun (s497:(List Int)×(List Int)×Que)=>some (s497.1,s497.2.1)
theorem HM (x0:List (List Arc)) (x1:List Int):Le (DN x0 x1) (BO x0 x1):=by
  unfold DN BO
  repeat' (first|apply Ip|apply Km|apply HK|apply HL|apply Ht|apply Le.ite|apply Le.bnd|apply Le.fin|apply Le.rng|apply Le.rngN|apply Le.lop|exact Le.rf|intro _)
noncomputable def DI (x0:Spa):Option Spa :=
  bnd (CB x0.states) fun q45=>bnd (mkI 24 ([]:List Arc) q45) fun u55=>bnd (mkI 24 ([]:List Arc) q45) fun u57=>bnd (some (u55,u57):Option ((List (List Arc))×(List (List Arc)))) fun y59=>bnd (rng (ρ:=Spa) (fun (k179:Nat) (a180:Edj) (s177:(List (List Arc))×(List (List Arc)))=>bnd (atI x0.t.ops a180.label) fun a258=>bnd (atI s177.1 a180.src) fun a279=>bnd (appI 24 a279 [(⟨a180.src,a180.dst,a258.cost⟩:Arc)]) fun u304=>bnd (atI s177.1 a180.src) fun a315=>bnd (atI s177.2 a180.dst) fun a330=>bnd (appI 24 a330 [(⟨a180.dst,a180.src,a258.cost⟩:Arc)]) fun u355=>bnd (atI s177.2 a180.dst) fun a366=>some (.next ((s177.1.set (a180.src:Int).toNat u304),(s177.2.set (a180.dst:Int).toNat u355)))) x0.edges 0 (y59.1,y59.2)) fun res175=>fin res175 fun (s390:(List (List Arc))×(List (List Arc)))=>bnd (rng (ρ:=Spa) (fun (k446:Nat) (a447:Bool) (s444:(List Int))=>if a447=true then (bnd (appI 8 s444 [(k446:Int)]) fun u469=>some (.next u469)) else (some (.next s444))) x0.goals 0 ([]:List Int)) fun res442=>fin res442 fun (s485:(List Int))=>bnd (DN s390.1 ([0]:List Int)) fun q497=>bnd (DN s390.2 s485) fun q561=>some (⟨(⟨x0.t.vars,x0.t.init,x0.t.goal,x0.t.ops⟩:Tsk),x0.states,x0.edges,x0.goals,q497.1,q561.1,q561.2⟩:Spa)
theorem Gt (x0:Spa):Le (DI x0) (BK x0):=by
  unfold DI BK
  repeat' (first|apply HM|apply DD|apply Le.ite|apply Le.bnd|apply Le.fin|apply Le.rng|apply Le.rngN|apply Le.lop|exact Le.rf|intro _)
noncomputable def EP (x0:Tsk) (x1:Int):Option ((Option Spa)×Err) :=
  bnd (HD x0) fun q25=>if q25.2.n≠0 then (some (none,(⟨q25.2.n⟩:Err))) else (bnd (FC x0.vars) fun q40=>if q40.2.n≠0 then (some (none,(⟨q40.2.n⟩:Err))) else (if (max 0 (min x1 65536)) < 1 then (some (none,(⟨10⟩:Err))) else (bnd q40.1 fun o54=>bnd (Dh o54 x0.init) fun q57=>if q57.2.2.1.n≠0 then (some (none,(⟨q57.2.2.1.n⟩:Err))) else (bnd (EZ x0) fun q74=>bnd (lopE (ρ:=(Option Spa)×Err) (fun (s105:Int×(List Edj)×(List Bool)×Reg)=>bnd (CB s105.2.2.2) fun q130=>if s105.1 < q130 then (bnd (Dv s105.2.2.2 s105.1) fun q141=>if q141.2.n≠0 then (some (.ret (none,(⟨q141.2.n⟩:Err)))) else (bnd (bnd (Gn x0.goal q141.1) fun q163=>if q163=true then bnd (appI 1 s105.2.2.1 [true]) fun u195=>some u195 else bnd (appI 1 s105.2.2.1 [false]) fun u176=>some u176:Option (List Bool)) fun y157=>bnd (Dd q25.1 q141.1) fun q212=>bnd (rng (ρ:=Ctl (Int×(List Edj)×(List Bool)×Reg) ((Option Spa)×Err)) (fun (k227:Nat) (a228:Suc) (s225:(List Edj)×Reg)=>bnd (Dh s225.2 a228.state) fun q263=>bnd (bnd (IR (⟨q263.2.2.1.n⟩:Err) (⟨10⟩:Err)) fun q283=>if q283=true then some true else if q263.2.1=true then (if (max 0 (min x1 65536))≤q263.1 then (some true) else (some false)) else (some false):Option Bool) fun y279=>if y279=true then (some (.ret (.ret (none,(⟨10⟩:Err))))) else (if q263.2.2.1.n≠0 then (some (.ret (.ret (none,(⟨q263.2.2.1.n⟩:Err))))) else (bnd (appI 24 s225.1 [(⟨s105.1,a228.op,q263.1⟩:Edj)]) fun u304=>some (.next (u304,q263.2.2.2))))) q212 0 (s105.2.1,s105.2.2.2)) fun res223=>fin res223 fun (s321:(List Edj)×Reg)=>bnd (chkI (s105.1 + 1)) fun n323=>some (.next (n323,s321.1,y157,s321.2)))) else (some (.brk (s105.1,s105.2.1,s105.2.2.1,s105.2.2.2)))) (0,([]:List Edj),([]:List Bool),q57.2.2.2)) fun res103=>fin res103 fun (s330:Int×(List Edj)×(List Bool)×Reg)=>bnd (DI (⟨(⟨q74.vars,q74.init,q74.goal,q74.ops⟩:Tsk),s330.2.2.2,s330.2.1,s330.2.2.1,([]:List Int),([]:List Int),([]:List Int)⟩:Spa)) fun q341=>some ((some q341),(⟨0⟩:Err))))))
theorem Ir (x0:Tsk) (x1:Int):Le (EP x0 x1) (Cd x0 x1):=by
  unfold EP Cd
  repeat' (first|apply Lh|apply Gt|apply IJ|apply Jw|apply Gp|apply DD|apply FO|apply Ff|apply JM|apply HC|apply Le.ite|apply Le.bnd|apply Le.fin|apply Le.rng|apply Le.rngN|apply Le.lop|exact Le.rf|intro _)
noncomputable def Eu (x0:Spa):Option Int :=
  bnd (CB x0.states) fun q45=>some q45
theorem Hu (x0:Spa):Le (Eu x0) (Di x0):=by
  unfold Eu Di
  repeat' (first|apply DD|apply Le.ite|apply Le.bnd|apply Le.fin|apply Le.rng|apply Le.rngN|apply Le.lop|exact Le.rf|intro _)
noncomputable def HE  : Option Bool :=
  bnd (EP (⟨([2]:List Int),([0]:List Int),([]:List Fct),[(⟨(⟨#[]⟩:ByteArray),0,([]:List Fct),[(⟨([]:List Fct),0,1⟩:Eff)]⟩:Opr)]⟩:Tsk) 5) fun q33=>bnd (if q33.2.n=0 then (if q33.1.isNone=false then (bnd q33.1 fun o53=>bnd (Eu o53) fun q57=>if q57=2 then (some true) else (some false)) else (some false)) else (some false):Option Bool) fun y47=>some y47
theorem JN  : Le (HE ) (Dn ):=by
  unfold HE Dn
  repeat' (first|apply Ir|apply Hu|apply Le.ite|apply Le.bnd|apply Le.fin|apply Le.rng|apply Le.rngN|apply Le.lop|exact Le.rf|intro _)
set_option maxRecDepth 100000 in
theorem awake25:Dn=some true:=JN true (by kernel_rfl)
end
section
set_option linter.unusedVariables false
set_option linter.unusedSimpArgs false
open Go Go.RowKit
theorem OY {t:Tsk} (h:SmallOk t):DY t=some true:=by unfold DY;rw [Cb h]
theorem OZ {t:Tsk} (h:¬ SmallOk t):DY t=some false:=by unfold DY;rw [Bh h]
theorem lim512:512≤limE 512:=by unfold limE;omega
theorem Nf (a:List Int):DR a a=some true:=by unfold DR;rw [Cb rfl]
theorem SpX.costs {t:Tsk} {L:List (List Int)} {x:Spa} (h:SpX t L x) (hl:L.length≤600):CS x=some x.costs:=by
  unfold CS
  rw [Gj (by rw [h.sp.cl];omega),Ar]
theorem SpX.dists {t:Tsk} {L:List (List Int)} {x:Spa} (h:SpX t L x) (hl:L.length≤600):Cr x=some x.distances:=by
  unfold Cr
  rw [Gj (by rw [h.sp.dl];omega),Ar]
theorem Ng (t:Tsk):Du t=some true:=by
  unfold Du
  by_cases hs:SmallOk t
  · obtain ⟨L,x,e1,e2,e3,e4⟩:=Lt hs lim512
    obtain ⟨st,e5,_,_⟩:=Ms hs.mid e3 e2
    have hl:=e3.bl.few hs.mid
    simp only [OY hs,awake25,Ar,if_true,e1,e4,Ls hs.mid e3,e5,e2.costs hl,e2.dists hl,Lu hs.mid e3 e2,Nf,ne_eq,not_true_eq_false,if_false,Bool.false_eq_true]
  · simp only [OZ hs,awake25,Ar,if_true,Bool.false_eq_true,if_false]
end
section
open Go Go.RowKit Go.ChangeShapes Go.WideShapes Go.Deep
theorem lawECosts {w:World} {v0:Value} {a0:Tsk} (h0:V w v0 a0):Fn Tryz.prog 3 [v0] w fun v w'=>v=.bool true∧Ext w w':=by
  exact (Hp (fun _ h=>h) h0 (Ng a0)).mono fun _ _ h=>⟨h.2.bool,h.1⟩
set_option maxRecDepth 100000 in
theorem HN (os:Os) (started:os.Started) (H:Type) (enc:TypeId×Value→H) :
    ReturnsInHanded {} Tryz.checked os 3 .any (Rows.exploreCostsSpec.pre6 enc Tryz.prog Tryz.f3 Rows.exploreCostsRow.domain false) (Rows.exploreCostsSpec.post enc Tryz.prog Tryz.f3 false true false false):=by
  refine returnsInHanded_of_change (C:=Tryz.checked) ownTry started (by kernel_rfl) Tryz.func3 (ChangeSpec.witness6 (enc:=enc) (C:=Tryz.checked) false ⟨#[],#[(.agg #[.slice none 0 0,.slice none 0 0,.slice none 0 0,.slice none 0 0])],[]⟩ 8 (by kernel_rfl) (by kernel_rfl) (by kernel_rfl) (by kernel_rfl)) ?_
  intro W base args ds gs before hval hW _ _
  have hopen:∀ p,DataW.TrodAll enc Tryz.prog W 0 (fun _=>true) true Tryz.f3.params.toList args.toList ds p→∃ v0 d0,args=#[v0]∧ds=[d0]∧(∃ a:Tsk,V W v0 a):=by
    intro p hA
    rw [Tryz.params3] at hA
    replace hval:∀ (j:Nat) t v,(#[26]:Array TypeId)[j]?=some t→args[j]?=some v→Value.okWide Tryz.prog W .any base t v:=by rw [← Tryz.params3];exact hval
    obtain ⟨v0,vs0,d0,ds0,p0,q0,g0,e0,_,h0,r0⟩:=trodAll_cons hA
    obtain ⟨g,e,_⟩:=trodAll_nil r0
    rw [g] at g0;rw [e] at e0
    obtain rfl:args=#[v0]:=by cases args;simp_all
    exact ⟨v0,d0,rfl,e0,(by first|exact openAgg rfl (hval 0 26 v0 rfl rfl) h0|exact openOne rfl (hval 0 26 v0 rfl rfl) h0)⟩
  refine lawPost rfl (by kernel_rfl) (by rw [Tryz.params3];exact of_decide_eq_true (by kernel_rfl)) hW ?_ ?_
  · intro p hA
    obtain ⟨v0,d0,_,rfl,_⟩:=hopen p hA
    rfl
  · intro p hA
    obtain ⟨v0,d0,rfl,_,⟨a0,h0⟩⟩:=hopen p hA
    exact lawECosts h0
theorem exploreCosts_holds:Rows.ExploreCostsSaid :=
  OpenClaim.holds_of_wide 3 Tryz.f3 rfl rfl rfl rfl rfl rfl rfl ⟨rfl,rfl,rfl,rfl,rfl⟩ rfl rfl rfl rfl rfl (by kernel_rfl) Tryz.func3 (by kernel_rfl)
    (of_decide_eq_true (by kernel_rfl)) (by unfold Func.isWrapper;first|(rw [if_pos (by decide +kernel)];kernel_rfl)|(rw [if_neg (by decide +kernel)];exact ⟨rfl,rfl⟩))
    (fun os started H enc _=>HN os started H enc)
#print axioms exploreCosts_holds
end
end Go.Proofs.YtkbmbcblgdgjlaaGreat

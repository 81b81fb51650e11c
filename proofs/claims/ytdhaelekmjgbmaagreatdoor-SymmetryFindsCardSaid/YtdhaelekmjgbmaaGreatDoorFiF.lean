/- SymmetryFinds returns true for every task, and all read behind the call as before; the tables that the row lists are tied to the program's text. No conditions. -/
import Derived.Test.YtdhaelekmjgbmaaGreatDoorFiE
import Derived.Test.YtdhaelekmjgbmaaGreatDoorRows
set_option linter.unusedVariables false
set_option linter.unusedSimpArgs false
namespace Go.Proofs.YtdhaelekmjgbmaaGreatDoor
open Go Go.RowKit
section
open Go Go.RowKit
def SymF (t:Tsk) (w:Swp):Prop:=∃ ops,SymP t ⟨w.vars,w.vals,ops⟩
def SgOk (t:Tsk) (sg:Nat→Nat→ByteArray) (w:Swp):Prop:=∀ p,InP t p→sg (imP w p).1 (imP w p).2=sg p.1 p.2
def zsOf (t:Tsk) (w:Swp) (k:Nat):Zs:=((allP t).take k).map fun p=>(p,imP w p)
def Fix (t:Tsk) (k:Nat) (w:Swp):Prop:=∀ p∈(allP t).take k,imP w p=p
section
variable {t : Tsk} {w : Swp}
theorem SymF.perm (h:SymF t w):FactsPerm t w:=h.elim fun _ h=>h.1
theorem SymP.f (h:SymP t w):SymF t w:=⟨w.ops,h⟩
theorem JB {k:Nat} (h:k≤(allP t).length):(zsOf t w k).length=k:=by unfold zsOf;simp;omega
theorem Le {k:Nat} {x:Pn} (h:(allP t)[k]?=some x):zsOf t w (k + 1)=zsOf t w k ++ [(x,imP w x)]:=by
  unfold zsOf
  rw [List.take_add_one,h,List.map_append];rfl
theorem EA {k:Nat} {z:Pn×Pn} (h:z∈zsOf t w k):z.2=imP w z.1∧z.1∈(allP t).take k:=by
  obtain ⟨x,hx,rfl⟩:=List.mem_map.1 h
  exact ⟨rfl,hx⟩
theorem Gs {k:Nat} {p:Pn} (h:p∈(allP t).take k):InP t p:=BJ.1 (List.mem_of_mem_take h)
theorem FI {k:Nat} {z:Pn×Pn} (h:z∈zsOf t w k):InP t z.1:=Gs (EA h).2
theorem Qw (hok:TaskOk t) (hp:FactsPerm t w) {k:Nat} (hk:k≤(allP t).length):Gz t (zsOf t w k):=by
  have hl:=JB (w:=w) hk
  refine ⟨?_,by omega,fun z hz=>?_,?_,fun z hz z' hz'=>?_,fun z hz=>?_⟩
  · rw [hl]
    unfold zsOf
    rw [List.map_map]
    exact (List.map_congr_left fun a _=>rfl).trans (List.map_id _)
  · rw [(EA hz).1]
    exact ED hok hp (FI hz)
  · unfold zsOf
    rw [List.map_map]
    refine Eu ?_ fun a ha b hb e=>IL hok hp (Gs ha) (Gs hb) e
    have:=ET t
    rw [← List.take_append_drop k (allP t),List.nodup_append] at this
    exact this.1
  · rw [(EA hz).1,(EA hz').1]
    exact IK hok hp (FI hz) (FI hz')
  · rw [(EA hz).1]
    obtain ⟨_,_,_,_,_,h,_⟩:=Eq hok hp (FI hz)
    exact h.symm
theorem Mw {k:Nat} (h:Fix t k w):zsOf t w k=idz t k:=List.map_congr_left fun p hp=>by rw [h p hp]
theorem PQ {k:Nat} {x:Pn} (hx:(allP t)[k]?=some x):x ∉ (allP t).take k:=fun h=>by
  have h2:=ET t
  rw [← List.take_append_drop k (allP t),List.nodup_append] at h2
  exact h2.2.2 _ h _ (List.mem_of_getElem? (i:=0) (by rw [List.getElem?_drop,Nat.add_zero];exact hx)) rfl
theorem OV {sg:Nat→Nat→ByteArray} (hok:TaskOk t) (hp:FactsPerm t w) (hs:SgOk t sg w) {k:Nat} {x:Pn} (hx:(allP t)[k]?=some x):fitB t sg (zsOf t w k) x (imP w x)=true:=by
  have hin:InP t x:=BJ.1 (List.mem_of_getElem? hx)
  have hT:Tf (zsOf t w k) (imP w x).1 (imP w x).2=false:=NM.2 fun z hz e=>by
    rw [(EA hz).1] at e
    have:=IL hok hp (FI hz) hin e
    exact PQ hx (this ▸ (EA hz).2)
  unfold fitB
  rw [if_neg (by rw [hT,hs x hin];simp)]
  by_cases hv:0≤Vf (zsOf t w k) x.1
  · rw [if_pos hv]
    obtain ⟨z,hz,e1,e2⟩:=Hn (by omega:¬ Vf (zsOf t w k) x.1 < 0)
    rw [e2,(EA hz).1,(IK hok hp (FI hz) hin).1 e1]
    simp
  · rw [if_neg hv]
    have hU:Uf (zsOf t w k) (imP w x).1=false:=PE.2 fun z hz e=>by
      rw [(EA hz).1] at e
      exact Hm.1 (by omega) z hz ((IK hok hp (FI hz) hin).2 e)
    obtain ⟨_,_,_,_,_,h,_⟩:=Eq hok hp hin
    rw [hU,h]
    simp
end
section
variable {t : Tsk} {sg : Nat → Nat → ByteArray} {leaf : Zs → Option Swp} {M : Nat} {w : Swp}
theorem JC {fit:Pn→Bool} {sub:Pn→Nat→Rs}:∀ (l:List Pn) (s:Nat),(goL M fit sub l s).1=none→(goL M fit sub l s).2.2=false→∀ y∈l,fit y=true→∃ s',(sub y s').1=none∧(sub y s').2.2=false
  | [],_,_,_,y,hy,_=>by simp at hy
  | y :: l, s,h1,h2,z,hz,hf=>by
    unfold goL at h1 h2
    by_cases hy:fit y=true
    · rw [if_pos hy] at h1 h2
      by_cases hM:M≤s
      · rw [if_pos hM] at h2;cases h2
      · rw [if_neg hM] at h1 h2
        by_cases hq:(sub y (s + 1)).1.isSome=true∨(sub y (s + 1)).2.2=true
        · rw [if_pos hq] at h1 h2
          rcases hq with hq|hq
          · rw [h1] at hq;cases hq
          · rw [h2] at hq;cases hq
        · rw [if_neg hq] at h1 h2
          rcases List.mem_cons.1 hz with e|hz
          · subst e
            refine ⟨s + 1,?_,?_⟩
            · cases h:(sub z (s + 1)).1 with
              | none=>rfl
              | some v=>exact absurd (.inl (by rw [h];rfl)) hq
            · cases h:(sub z (s + 1)).2.2 with
              | false=>rfl
              | true=>exact absurd (.inr h) hq
          · exact JC l _ h1 h2 z hz hf
    · rw [if_neg hy] at h1 h2
      rcases List.mem_cons.1 hz with e|hz
      · subst e;exact absurd hf hy
      · exact JC l _ h1 h2 z hz hf
theorem Mx (hok:TaskOk t) (hp:FactsPerm t w) (hs:SgOk t sg w):∀ (d k s:Nat),k + d=(allP t).length→(ext t sg leaf M d (zsOf t w k) s).1=none→(ext t sg leaf M d (zsOf t w k) s).2.2=false→leaf (zsOf t w (allP t).length)=none
  | 0,k,s,hk,h1,_=>by
    have:k=(allP t).length:=by omega
    subst this
    exact h1
  | d + 1,k,s,hk,h1,h2=>by
    have hl:=JB (t:=t) (w:=w) (k:=k) (by omega)
    have hx:(allP t)[k]?=some (xAt t (zsOf t w k)):=by
      have:=Ep (t:=t) (zs:=zsOf t w k) (by omega)
      rwa [hl] at this
    have hin:InP t (xAt t (zsOf t w k)):=BJ.1 (List.mem_of_getElem? hx)
    obtain ⟨s',h3,h4⟩:=JC _ _ h1 h2 (imP w (xAt t (zsOf t w k))) (BJ.2 (ED hok hp hin)) (OV hok hp hs hx)
    rw [← Le hx] at h3 h4
    exact Mx hok hp hs d (k + 1) s' (by omega) h3 h4
end
section
variable {t : Tsk} {w : Swp}
theorem Kg (hok:TaskOk t) (hp:FactsPerm t w):swF t (zsOf t w (allP t).length)=⟨w.vars,w.vals,[]⟩:=by
  have hz:=Qw hok hp (Nat.le_refl (allP t).length)
  have hm:∀ p,InP t p→(p,imP w p)∈zsOf t w (allP t).length:=fun p h=>List.mem_map.2 ⟨p,by rw [List.take_length];exact BJ.2 h,rfl⟩
  have h1:rowT t (Vf (zsOf t w (allP t).length))=w.vars:=List.ext_getElem? fun v=>by
    by_cases hv:v < t.vars.length
    · have:=EU (t:=t) (Vf (zsOf t w (allP t).length)) hv
      rw [BA] at this
      have hin:InP t (v,0):=⟨hv,(FG hok hv).1⟩
      obtain ⟨l,q1,_⟩:=Eq hok hp hin
      rw [this,q1,NQ hz (hm _ hin)]
    · rw [List.getElem?_eq_none (by simp [rowT];omega),List.getElem?_eq_none (by rw [hp.1.len];omega)]
  have h2:gridT t (Wf (zsOf t w (allP t).length))=w.vals:=List.ext_getElem? fun v=>by
    by_cases hv:v < t.vars.length
    · have:=DL (t:=t) (Wf (zsOf t w (allP t).length)) hv
      rw [BA] at this
      have hin:InP t (v,0):=⟨hv,(FG hok hv).1⟩
      obtain ⟨l,_,q2,_,q4,_⟩:=Eq hok hp hin
      rw [this,q2]
      congr 1
      refine List.ext_getElem? fun a=>?_
      by_cases ha:a < szT t v
      · have hia:InP t (v,a):=⟨hv,ha⟩
        obtain ⟨l',_,r2,r3,_⟩:=Eq hok hp hia
        rw [q2] at r2
        injection r2 with r2
        subst r2
        rw [List.getElem?_map,List.getElem?_range ha,r3]
        show some (Wf (zsOf t w (allP t).length) v a)=_
        rw [Kc hz (hm _ hia)]
      · rw [List.getElem?_eq_none (by simp;omega),List.getElem?_eq_none (by rw [q4.len];show szT t v≤a;omega)]
    · rw [List.getElem?_eq_none (by simp [gridT,rowT];omega),List.getElem?_eq_none (by rw [hp.2.1];omega)]
  unfold swF
  rw [h1,h2]
theorem IW (hok:TaskOk t) {zs:Zs} (hz:Gz t zs) (hl:zs.length=(allP t).length) (h:leafC t zs=some w):SymP t w∧opsC t ⟨w.vars,w.vals,[]⟩=some w.ops∧∀ z∈zs,imP w z.1=z.2:=by
  have hp:=HH hok hz hl
  unfold leafC at h
  split at h
  · rename_i l hop
    split at h
    · rename_i hg
      injection h with h
      subst h
      obtain ⟨tk,hi,hlen⟩:=Kf t.ops _ [] l (OpI.nil t (swF t zs)) rfl (by simp) hop
      refine ⟨⟨hp,GF hi.nod (fun a ha=>?_) hlen,FH hg,fun k hk=>?_⟩,hop,fun z hzz=>QW hok hz hl hzz⟩
      · obtain ⟨j,hj⟩:=List.getElem?_of_mem ha
        obtain ⟨o,p,k,e,_,h3,_⟩:=hi.mat j a hj
        have:=Aw h3
        omega
      · obtain ⟨a,ha⟩:=AR (l:=l) (k:=k) (by omega)
        obtain ⟨o,p,k',e,h2,h3,h4⟩:=hi.mat k a ha
        exact ⟨o,p,a,h2,ha,by rw [e,BA,h3],h4⟩
    · cases h
  · cases h
theorem Kh (hok:TaskOk t) (h:SymF t w):leafC t (zsOf t w (allP t).length)≠none:=by
  obtain ⟨ops,hs⟩:=h
  have hsw:=Kg hok (w:=w) hs.1
  unfold leafC
  rw [hsw]
  have hg:imL ⟨w.vars,w.vals,[]⟩ t.goal=t.goal:=hs.2.2.1
  obtain ⟨l,hl⟩:=La (t:=t) (x:=⟨w.vars,w.vals,[]⟩) (π:=fun i=>((ops[i]?).getD 0).toNat) (fun i j hi hj e=>by
    obtain ⟨_,_,a,_,h2,ha,_⟩:=EM hs hi
    obtain ⟨_,_,b,_,h2',hb,_⟩:=EM hs hj
    have h2:ops[i]?=some (a:Int):=h2
    have h2':ops[j]?=some (b:Int):=h2'
    simp only [h2,h2',Option.getD_some,Int.toNat_natCast] at e
    subst e
    exact Jx hs.2.1 h2 h2') (fun i o ho=>by
    obtain ⟨o',p,a,h1,h2,ha,h3,h4⟩:=EM hs (Aw ho)
    have h2:ops[i]?=some (a:Int):=h2
    rw [ho] at h1
    injection h1 with h1
    subst h1
    exact ⟨p,by simp only [h2,Option.getD_some,Int.toNat_natCast];exact h3,h4⟩) t.ops _ [] (OpI.nil t _) rfl (by simp)
  have:opsC t ⟨w.vars,w.vals,[]⟩=some l:=hl
  rw [this]
  simp only []
  rw [if_pos (Be hg)]
  exact fun h=>nomatch h
end
inductive Wd (g:List Swp):(Pn→Pn)→Prop
  | one:Wd g id
  | step {π:Pn→Pn} {a:Swp}:Wd g π→a∈g→Wd g fun p=>imP a (π p)
section
variable {t : Tsk} {g g' : List Swp}
theorem Wd.mono (h:∀ a∈g,a∈g') {π:Pn→Pn} (hw:Wd g π):Wd g' π:=by
  induction hw with
  | one=>exact .one
  | step _ ha ih=>exact .step ih (h _ ha)
theorem Wd.comp {π ρ:Pn→Pn} (h:Wd g π) (h':Wd g ρ):Wd g fun p=>π (ρ p):=by
  induction h with
  | one=>exact h'
  | step _ ha ih=>exact .step ih ha
theorem PR {x y:Pn} (h:Reach g x y):∃ π,Wd g π∧π x=y:=by
  induction h with
  | one=>exact ⟨id,.one,rfl⟩
  | step _ ha ih =>
    obtain ⟨π,h1,h2⟩:=ih
    exact ⟨_,.step h1 ha,by rw [h2]⟩
theorem Reach.mono (h:∀ a∈g,a∈g') {x y:Pn} (hr:Reach g x y):Reach g' x y:=by
  induction hr with
  | one=>exact .one
  | step _ ha ih=>exact .step ih (h _ ha)
theorem Fh {w:Swp} {p:Pn} (hok:TaskOk t) (hp:FactsPerm t w) (h:InP t p):imF w (fc p)=fc (imP w p):=by
  obtain ⟨_,_,_,_,h⟩:=Mj hok hp h
  exact h
theorem My {p:Pn} (hok:TaskOk t) (h:InP t p):imP (idX t) p=p:=Hl (by rw [← Fh hok (EF hok) h,Fp hok (h.ok hok)])
theorem JD {x y:Swp} {p:Pn} (hok:TaskOk t) (hx:FactsPerm t x) (hy:FactsPerm t y) (h:InP t p):imP (compX x y) p=imP y (imP x p):=Hl (by
  rw [← Fh hok (KX hx hy) h,KY hok hx hy (h.ok hok),Fh hok hx h,Fh hok hy (ED hok hx h)])
theorem Nh {x:Swp} {p:Pn} (hok:TaskOk t) (hx:FactsPerm t x) (h:InP t p):imP (invN x) (imP x p)=p:=Hl (by
  rw [← Fh hok (EN hok hx) (ED hok hx h),← Fh hok hx h,Iu hok hx (h.ok hok)])
theorem Wd.sym (hok:TaskOk t) (hg:∀ a∈g,SymP t a) {π:Pn→Pn} (h:Wd g π):∃ H,SymP t H∧∀ p,InP t p→imP H p=π p:=by
  induction h with
  | one=>exact ⟨idX t,OT hok,fun p hp=>My hok hp⟩
  | @step π a _ ha ih =>
    obtain ⟨H,h1,h2⟩:=ih
    exact ⟨compX H a,JA hok h1 (hg a ha),fun p hp=>by rw [JD hok h1.1 (hg a ha).1 hp,h2 p hp]⟩
theorem Wd.fix {k:Nat} (hg:∀ a∈g,Fix t k a) {π:Pn→Pn} (h:Wd g π):∀ p∈(allP t).take k,π p=p:=by
  induction h with
  | one=>exact fun p _=>rfl
  | @step π a _ ha ih=>exact fun p hp=>by show imP a (π p)=p;rw [ih p hp];exact hg a ha p hp
end
end
section
open Go Go.RowKit
abbrev Nt:=ByteArray×Fct
noncomputable def cntN (ns:List Nt) (a:ByteArray) (f:Fct):Nat:=ns.countP fun n=>bof (n=(a,f))
theorem Ni (ns:List Nt) (a:ByteArray) (f:Fct):cntN ns a f≤ns.length:=List.countP_le_length
theorem Lf (ns:List Nt) (n:Nt) (a:ByteArray) (f:Fct):cntN (ns ++ [n]) a f=cntN ns a f + if n=(a,f) then 1 else 0:=by
  unfold cntN
  rw [List.countP_append,List.countP_cons,List.countP_nil]
  by_cases h:n=(a,f)
  · rw [if_pos h,Be h];rfl
  · rw [if_neg h,AQ h];rfl
abbrev Cs:=List (ByteArray×List (Fct×Int))
theorem DY:∀ (m:Cs) (k k':ByteArray) (v:List (Fct×Int)),mgetO (mput m k v) k'=if k=k' then some v else mgetO m k'
  | [],k,k',v=>by simp [mput,mgetO]
  | p :: r,k,k',v=>by
    by_cases h:p.1=k
    · subst h
      by_cases h2:p.1=k'<;>simp [mput,mgetO,h2]
    · have ih:=DY r k k' v
      by_cases h2:p.1=k'
      · have:¬ k=k':=fun e=>h (h2.trans e.symm)
        rw [mput,if_neg h,mgetO,if_pos h2,mgetO,if_pos h2,if_neg this]
      · rw [mput,if_neg h,mgetO,if_neg h2,mgetO,if_neg h2,ih]
theorem OW (m:Cs) (a:ByteArray):mhas m a=(mgetO m a).isSome:=by
  rcases Gi m a with ⟨_,h1,h2⟩|⟨_,_,_,_,_,h1,h2⟩<;>rw [h1,h2]<;>rfl
structure NI (ns:List Nt) (m:Cs) (names:List ByteArray):Prop where
  get:∀ a v,mgetO m a=some v→∀ f,fget 0 v f=(cntN ns a f:Int)
  non:∀ a,mgetO m a=none→∀ f,cntN ns a f=0
  nam:∀ a∈names,mgetO m a≠none
  len:names.length≤ns.length
theorem NI.nil:NI [] [] []:=⟨fun a v h=>by simp [mgetO] at h,fun _ _ _=>rfl,by simp,by simp⟩
theorem Rc {ns:List Nt} {m:Cs} {names:List ByteArray} (h:NI ns m names) (hl:ns.length≤1000000) (a:ByteArray) (f:Fct):∃ m' names',AN a f ⟨⟨m⟩⟩ ⟨names⟩=some (⟨⟨m'⟩⟩,⟨names'⟩)∧NI (ns ++ [(a,f)]) m' names':=by
  unfold AN
  have key:∀ (m1:Cs) (names1:List ByteArray) (v:List (Fct×Int)),mgetO m1 a=some v→(∀ b v,mgetO m1 b=some v→∀ f,fget 0 v f=(cntN ns b f:Int))→(∀ b,mgetO m1 b=none→∀ f,cntN ns b f=0)→(∀ b∈names1,mgetO m1 b≠none)→names1.length≤ns.length + 1 →
      ∃ m' names',(bnd (mgetO m1 a) fun m86=>bnd (chkI ((fget 0 m86 f) + 1)) fun n88=>some ((⟨(⟨mput m1 a (fput m86 f n88)⟩:MapM)⟩:BxM),(⟨names1⟩:BxR 80 9 ByteArray)))=some (⟨⟨m'⟩⟩,⟨names'⟩)∧NI (ns ++ [(a,f)]) m' names':=by
    intro m1 names1 v hv hg hn hm hl1
    have hc:=Ni ns a f
    have hgf:=hg a v hv f
    rw [hv,Af,CR (by unfold inI64;rw [hgf];omega),Af]
    refine ⟨_,_,rfl,⟨fun b u hb g=>?_,fun b hb g=>?_,fun b hb=>?_,by simpa using hl1⟩⟩
    · rw [DY] at hb
      rw [Lf]
      by_cases e:a=b
      · subst e
        rw [if_pos rfl] at hb
        injection hb with hb
        subst hb
        rw [GV]
        by_cases e2:f=g
        · subst e2
          rw [if_pos rfl,if_pos rfl,hgf];rfl
        · rw [if_neg e2,if_neg (fun e=>e2 (congrArg Prod.snd e)),hg a v hv g];rfl
      · rw [if_neg e] at hb
        rw [if_neg (fun h=>e (congrArg Prod.fst h)),hg b u hb g];rfl
    · rw [DY] at hb
      by_cases e:a=b
      · rw [if_pos e] at hb;cases hb
      · rw [if_neg e] at hb
        rw [Lf,if_neg (fun h=>e (congrArg Prod.fst h)),hn b hb g]
    · rw [DY]
      by_cases e:a=b
      · rw [if_pos e];exact fun h=>nomatch h
      · rw [if_neg e];exact hm b hb
  cases hv:mgetO m a with
  | some v =>
    have hh:mhas m a=true:=by rw [OW,hv];rfl
    simp only [hh]
    rw [if_neg (by decide),Af]
    exact key m names v hv h.get h.non h.nam (by have:=h.len;omega)
  | none =>
    have hh:mhas m a=false:=by rw [OW,hv];rfl
    have:=h.len
    simp only [hh]
    rw [if_pos (by decide),BM (by simp;omega) (by simp;omega),Af,Af]
    refine key (mput m a []) (names ++ [a]) [] (by rw [DY,if_pos rfl]) (fun b v hb g=>?_) (fun b hb g=>?_) (fun b hb=>?_) (by simp;omega)
    · rw [DY] at hb
      by_cases e:a=b
      · subst e
        rw [if_pos rfl] at hb
        injection hb with hb
        subst hb
        rw [h.non a hv g];rfl
      · rw [if_neg e] at hb;exact h.get b v hb g
    · rw [DY] at hb
      by_cases e:a=b
      · rw [if_pos e] at hb;cases hb
      · rw [if_neg e] at hb;exact h.non b hb g
    · rw [DY]
      by_cases e:a=b
      · rw [if_pos e];exact fun h=>nomatch h
      · rw [if_neg e]
        rcases List.mem_append.1 hb with hb|hb
        · exact h.nam b hb
        · simp at hb;exact absurd hb.symm e
abbrev NS:=BxM×(BxR 80 9 ByteArray)
def NIs (ns:List Nt) (s:NS):Prop:=NI ns s.1.l.l s.2.l
theorem Mz {ns:List Nt} {s:NS} (h:NIs ns s) (hl:ns.length≤1000000) (a:ByteArray) (f:Fct):∃ s':NS,AN a f s.1 s.2=some s'∧NIs (ns ++ [(a,f)]) s':=by
  obtain ⟨⟨⟨m⟩⟩,⟨names⟩⟩:=s
  obtain ⟨m',names',h1,h2⟩:=Rc h hl a f
  exact ⟨_,h1,h2⟩
def kd (o:Opr):ByteArray:=itoaF o.cost ++ (⟨#[32]⟩:ByteArray) ++ itoaF (o.pre.length:Int) ++ (⟨#[32]⟩:ByteArray) ++ itoaF (o.effs.length:Int)
def preB:ByteArray:=⟨#[32,112,114,101]⟩
def effB:ByteArray:=⟨#[32,101,102,102,32]⟩
def whenB:ByteArray:=⟨#[32,119,104,101,110,32]⟩
def noteE (c:ByteArray) (k:Nat) (e:Eff):List Nt:=(c ++ effB ++ itoaF (k:Int),⟨e.var,e.val⟩) :: e.cond.map fun f=>(c ++ whenB ++ itoaF (k:Int),f)
def notesE (c:ByteArray):List Eff→Nat→List Nt
  | [],_=>[]
  | e :: es,k=>noteE c k e ++ notesE c es (k + 1)
def notesO (o:Opr):List Nt:=o.pre.map (fun f=>(kd o ++ preB,f)) ++ notesE (kd o) o.effs 0
theorem EW {a b:ByteArray} (h:a.size + b.size≤9223372036854775807):catI a b=some (a ++ b):=if_pos h
theorem IX (c:ByteArray) (e:Eff):∀ (l:List Eff) (j:Nat),notesE c (l ++ [e]) j=notesE c l j ++ noteE c (j + l.length) e
  | [],j=>by simp [notesE]
  | a :: l,j=>by
    rw [List.cons_append,notesE,IX c e l (j + 1),notesE,List.append_assoc]
    have:j + 1 + l.length=j + (a :: l).length:=by simp;omega
    rw [this]
theorem OX (c:ByteArray) (k:Nat) (e:Eff):(noteE c k e).length=e.cond.length + 1:=by simp [noteE]
theorem Gm (c:ByteArray):∀ (l:List Eff) (j:Nat),(∀ e∈l,e.cond.length≤64)→(notesE c l j).length≤65 * l.length
  | [],_,_=>Nat.le_refl _
  | e :: l,j,h=>by
    have h1:=h e List.mem_cons_self
    have ih:=Gm c l (j + 1) fun q hq=>h q (List.mem_cons_of_mem _ hq)
    rw [notesE,List.length_append,OX,List.length_cons]
    omega
def LitO (o:Opr):Prop:=o.pre.length≤64∧o.effs.length≤64∧(∀ e∈o.effs,e.cond.length≤64)∧inI64 o.cost
theorem Ki {o:Opr} (h:LitO o):(notesO o).length≤4224:=by
  have:=Gm (kd o) o.effs 0 h.2.2.1
  obtain ⟨h1,h2,_⟩:=h
  unfold notesO
  rw [List.length_append,List.length_map]
  omega
theorem GL {n:Nat} (h:n≤1000000):(itoaF (n:Int)).size≤21:=Gj (by unfold inI64;omega)
theorem Re {o:Opr} (h:LitO o):(kd o).size≤65:=by
  have h1:=Gj h.2.2.2
  have h2:=GL (n:=o.pre.length) (by have:=h.1;omega)
  have h3:=GL (n:=o.effs.length) (by have:=h.2.1;omega)
  have e:(⟨#[32]⟩:ByteArray).size=1:=rfl
  unfold kd
  simp only [ByteArray.size_append,e]
  omega
theorem OY {ρ:Type} {c:ByteArray} {l:List Fct} {ns:List Nt} {s:NS} (hc:c.size≤1000) (hs:NIs ns s) (hl:ns.length + l.length≤1000000) :
    ∃ s',rng (ρ:=ρ) (fun (k198:Nat) (a199:Fct) (s196:BxM×(BxR 80 9 ByteArray))=>bnd (catI c (⟨#[32,112,114,101]⟩:ByteArray)) fun n229=>bnd (AN n229 a199 s196.1 s196.2) fun q231=>some (.next (q231.1,q231.2))) l 0 (s.1,s.2)=some (.done s')∧NIs (ns ++ l.map fun f=>(c ++ preB,f)) s':=by
  obtain ⟨s',h1,h2⟩:=En (ρ:=ρ) (f:=fun (k198:Nat) (a199:Fct) (s196:BxM×(BxR 80 9 ByteArray))=>bnd (catI c (⟨#[32,112,114,101]⟩:ByteArray)) fun n229=>bnd (AN n229 a199 s196.1 s196.2) fun q231=>some (.next (q231.1,q231.2))) (xs:=l) (s₀:=(s.1,s.2)) (fun k s=>NIs (ns ++ (l.take k).map fun f=>(c ++ preB,f)) s) (by simpa using hs) (fun k f s hf hs=>by
    have hk:=Aw hf
    obtain ⟨s1,q1,q2⟩:=Mz hs (by simp;omega) (c ++ preB) f
    have e:(⟨#[32,112,114,101]⟩:ByteArray).size=4:=rfl
    rw [EW (by rw [e];omega),Af,show AN (c ++ (⟨#[32,112,114,101]⟩:ByteArray)) f s.1 s.2=_ from q1,Af]
    exact ⟨_,rfl,by rw [map_take hf,← List.append_assoc];exact q2⟩)
  rw [List.take_length] at h2
  exact ⟨s',h1,h2⟩
theorem NV {ρ:Type} {c:ByteArray} {j:Nat} (hj:j≤1000000) {l:List Fct} {ns:List Nt} {s:NS} (hc:c.size≤1000) (hs:NIs ns s) (hl:ns.length + l.length≤1000000) :
    ∃ s',rng (ρ:=ρ) (fun (k314:Nat) (a315:Fct) (s312:BxM×(BxR 80 9 ByteArray))=>bnd (catI c (⟨#[32,119,104,101,110,32]⟩:ByteArray)) fun n345=>bnd (Bh (j:Int)) fun q347=>bnd (catI n345 q347) fun n355=>bnd (AN n355 a315 s312.1 s312.2) fun q357=>some (.next (q357.1,q357.2))) l 0 (s.1,s.2)=some (.done s')∧NIs (ns ++ l.map fun f=>(c ++ whenB ++ itoaF (j:Int),f)) s':=by
  obtain ⟨s',h1,h2⟩:=En (ρ:=ρ) (f:=fun (k314:Nat) (a315:Fct) (s312:BxM×(BxR 80 9 ByteArray))=>bnd (catI c (⟨#[32,119,104,101,110,32]⟩:ByteArray)) fun n345=>bnd (Bh (j:Int)) fun q347=>bnd (catI n345 q347) fun n355=>bnd (AN n355 a315 s312.1 s312.2) fun q357=>some (.next (q357.1,q357.2))) (xs:=l) (s₀:=(s.1,s.2)) (fun k s=>NIs (ns ++ (l.take k).map fun f=>(c ++ whenB ++ itoaF (j:Int),f)) s) (by simpa using hs) (fun k f s hf hs=>by
    have hk:=Aw hf
    obtain ⟨s1,q1,q2⟩:=Mz hs (by simp;omega) (c ++ whenB ++ itoaF (j:Int)) f
    have e:(⟨#[32,119,104,101,110,32]⟩:ByteArray).size=6:=rfl
    have hi:=GL hj
    rw [EW (by rw [e];omega),Af,show Bh (j:Int)=some (itoaF (j:Int)) from rfl,Af,EW (by rw [ByteArray.size_append,e];omega),Af,show AN (c ++ (⟨#[32,119,104,101,110,32]⟩:ByteArray) ++ itoaF (j:Int)) f s.1 s.2=_ from q1,Af]
    exact ⟨_,rfl,by rw [map_take hf,← List.append_assoc];exact q2⟩)
  rw [List.take_length] at h2
  exact ⟨s',h1,h2⟩
theorem Dq {α:Type} {l:List α} {k:Nat} {x:α} (h:l[k]?=some x):l.take (k + 1)=l.take k ++ [x]:=by rw [List.take_add_one,h];rfl
noncomputable def opsF (kinds:List Opr):Nat→Opr→NS→Option (Ctl NS Fnd):=fun (k115:Nat) (_:Opr) (s113:BxM×(BxR 80 9 ByteArray))=>bnd (kinds[k115]?) fun a130=>bnd (Bh a130.cost) fun q160=>bnd (catI q160 (⟨#[32]⟩:ByteArray)) fun n168=>bnd (Bh (a130.pre.length:Int)) fun q170=>bnd (catI n168 q170) fun n178=>bnd (catI n178 (⟨#[32]⟩:ByteArray)) fun n180=>bnd (Bh (a130.effs.length:Int)) fun q182=>bnd (catI n180 q182) fun n190=>bnd (rng (ρ:=Ctl (BxM×(BxR 80 9 ByteArray)) Fnd) (fun (k198:Nat) (a199:Fct) (s196:BxM×(BxR 80 9 ByteArray))=>bnd (catI n190 (⟨#[32,112,114,101]⟩:ByteArray)) fun n229=>bnd (AN n229 a199 s196.1 s196.2) fun q231=>some (.next (q231.1,q231.2))) a130.pre 0 (s113.1,s113.2)) fun res194=>fin res194 fun (s244:BxM×(BxR 80 9 ByteArray))=>bnd (rng (ρ:=Ctl (BxM×(BxR 80 9 ByteArray)) Fnd) (fun (k252:Nat) (a253:Eff) (s250:BxM×(BxR 80 9 ByteArray))=>bnd (catI n190 (⟨#[32,101,102,102,32]⟩:ByteArray)) fun n287=>bnd (Bh (k252:Int)) fun q289=>bnd (catI n287 q289) fun n297=>bnd (AN n297 (⟨a253.var,a253.val⟩:Fct) s250.1 s250.2) fun q299=>bnd (rng (ρ:=Ctl (BxM×(BxR 80 9 ByteArray)) (Ctl (BxM×(BxR 80 9 ByteArray)) Fnd)) (fun (k314:Nat) (a315:Fct) (s312:BxM×(BxR 80 9 ByteArray))=>bnd (catI n190 (⟨#[32,119,104,101,110,32]⟩:ByteArray)) fun n345=>bnd (Bh (k252:Int)) fun q347=>bnd (catI n345 q347) fun n355=>bnd (AN n355 a315 s312.1 s312.2) fun q357=>some (.next (q357.1,q357.2))) a253.cond 0 (q299.1,q299.2)) fun res310=>fin res310 fun (s370:BxM×(BxR 80 9 ByteArray))=>some (.next (s370.1,s370.2))) a130.effs 0 (s244.1,s244.2)) fun res248=>fin res248 fun (s376:BxM×(BxR 80 9 ByteArray))=>some (.next (s376.1,s376.2))
theorem PS {kinds:List Opr} {k:Nat} {o x:Opr} {ns:List Nt} {s:NS} (ho:kinds[k]?=some o) (hL:LitO o) (hs:NIs ns s) (hl:ns.length + 4224≤1000000):∃ s',opsF kinds k x s=some (.next s')∧NIs (ns ++ notesO o) s':=by
  have hkd:=Re hL
  have h1:=Gj hL.2.2.2
  have h2:=GL (n:=o.pre.length) (by have:=hL.1;omega)
  have h3:=GL (n:=o.effs.length) (by have:=hL.2.1;omega)
  have e:(⟨#[32]⟩:ByteArray).size=1:=rfl
  have e5:(⟨#[32,101,102,102,32]⟩:ByteArray).size=5:=rfl
  obtain ⟨s1,p1,p2⟩:=OY (ρ:=Ctl NS Fnd) (c:=kd o) (l:=o.pre) (by omega) hs (by have:=hL.1;omega)
  have hEl:=Gm (kd o) o.effs 0 hL.2.2.1
  obtain ⟨s2,p3,p4⟩:=En (ρ:=Ctl NS Fnd) (f:=fun (k252:Nat) (a253:Eff) (s250:BxM×(BxR 80 9 ByteArray))=>bnd (catI (kd o) (⟨#[32,101,102,102,32]⟩:ByteArray)) fun n287=>bnd (Bh (k252:Int)) fun q289=>bnd (catI n287 q289) fun n297=>bnd (AN n297 (⟨a253.var,a253.val⟩:Fct) s250.1 s250.2) fun q299=>bnd (rng (ρ:=Ctl (BxM×(BxR 80 9 ByteArray)) (Ctl (BxM×(BxR 80 9 ByteArray)) Fnd)) (fun (k314:Nat) (a315:Fct) (s312:BxM×(BxR 80 9 ByteArray))=>bnd (catI (kd o) (⟨#[32,119,104,101,110,32]⟩:ByteArray)) fun n345=>bnd (Bh (k252:Int)) fun q347=>bnd (catI n345 q347) fun n355=>bnd (AN n355 a315 s312.1 s312.2) fun q357=>some (.next (q357.1,q357.2))) a253.cond 0 (q299.1,q299.2)) fun res310=>fin res310 fun (s370:BxM×(BxR 80 9 ByteArray))=>some (.next (s370.1,s370.2))) (xs:=o.effs) (s₀:=(s1.1,s1.2))
    (fun k s=>NIs ((ns ++ o.pre.map fun f=>(kd o ++ preB,f)) ++ notesE (kd o) (o.effs.take k) 0) s) (by simpa [notesE] using p2) (fun j ef s hj hs=>by
      have hjl:=Aw hj
      have hjl2:=hL.2.1
      have hpl:=hL.1
      have htl:=Gm (kd o) (o.effs.take j) 0 fun q hq=>hL.2.2.1 q (List.mem_of_mem_take hq)
      rw [List.length_take] at htl
      have hcl:=hL.2.2.1 ef (List.mem_of_getElem? hj)
      have hi:=GL (n:=j) (by omega)
      obtain ⟨s1,q1,q2⟩:=Mz hs (by simp only [List.length_append,List.length_map];omega) (kd o ++ effB ++ itoaF (j:Int)) ⟨ef.var,ef.val⟩
      obtain ⟨s2,q3,q4⟩:=NV (ρ:=Ctl NS (Ctl NS Fnd)) (c:=kd o) (j:=j) (by omega) (l:=ef.cond) (by omega) q2 (by simp only [List.length_append,List.length_map,List.length_singleton];omega)
      rw [show Bh (j:Int)=some (itoaF (j:Int)) from rfl] at q3
      rw [EW (by rw [e5];omega),Af,show Bh (j:Int)=some (itoaF (j:Int)) from rfl,Af,EW (by rw [ByteArray.size_append,e5];omega),Af,show AN (kd o ++ (⟨#[32,101,102,102,32]⟩:ByteArray) ++ itoaF (j:Int)) ⟨ef.var,ef.val⟩ s.1 s.2=_ from q1,Af,q3,Af,BF]
      refine ⟨_,rfl,?_⟩
      have:notesE (kd o) (o.effs.take (j + 1)) 0=notesE (kd o) (o.effs.take j) 0 ++ noteE (kd o) j ef:=by
        rw [Dq hj,IX,List.length_take,Nat.zero_add,Nat.min_eq_left (by omega)]
      rw [this]
      simpa [noteE] using q4)
  rw [List.take_length] at p4
  refine ⟨s2,?_,by unfold notesO;rw [← List.append_assoc];exact p4⟩
  unfold opsF
  rw [ho,Af,show Bh o.cost=some (itoaF o.cost) from rfl,Af,EW (by rw [e];omega),Af,show Bh (o.pre.length:Int)=some (itoaF (o.pre.length:Int)) from rfl,Af,EW (by rw [ByteArray.size_append,e];omega),Af,EW (by rw [ByteArray.size_append,ByteArray.size_append,e];omega),Af,show Bh (o.effs.length:Int)=some (itoaF (o.effs.length:Int)) from rfl,Af,EW (by simp only [ByteArray.size_append,e];omega),Af]
  show bnd (rng (fun (k198:Nat) (a199:Fct) (s196:BxM×(BxR 80 9 ByteArray))=>bnd (catI (kd o) (⟨#[32,112,114,101]⟩:ByteArray)) fun n229=>bnd (AN n229 a199 s196.1 s196.2) fun q231=>some (.next (q231.1,q231.2))) o.pre 0 (s.1,s.2)) _=_
  rw [p1,Af,BF]
  show bnd (rng (fun (k252:Nat) (a253:Eff) (s250:BxM×(BxR 80 9 ByteArray))=>bnd (catI (kd o) (⟨#[32,101,102,102,32]⟩:ByteArray)) fun n287=>bnd (Bh (k252:Int)) fun q289=>bnd (catI n287 q289) fun n297=>bnd (AN n297 (⟨a253.var,a253.val⟩:Fct) s250.1 s250.2) fun q299=>bnd (rng (ρ:=Ctl (BxM×(BxR 80 9 ByteArray)) (Ctl (BxM×(BxR 80 9 ByteArray)) Fnd)) (fun (k314:Nat) (a315:Fct) (s312:BxM×(BxR 80 9 ByteArray))=>bnd (catI (kd o) (⟨#[32,119,104,101,110,32]⟩:ByteArray)) fun n345=>bnd (Bh (k252:Int)) fun q347=>bnd (catI n345 q347) fun n355=>bnd (AN n355 a315 s312.1 s312.2) fun q357=>some (.next (q357.1,q357.2))) a253.cond 0 (q299.1,q299.2)) fun res310=>fin res310 fun (s370:BxM×(BxR 80 9 ByteArray))=>some (.next (s370.1,s370.2))) o.effs 0 (s1.1,s1.2)) _=_
  rw [p3,Af,BF]
theorem OZ {kinds:List Opr} (hL:∀ o∈kinds,LitO o) (hl:kinds.length≤20):∃ s:NS,rng (opsF kinds) kinds 0 ((⟨(⟨[]⟩:MapM)⟩:BxM),(⟨([]:List ByteArray)⟩:BxR 80 9 ByteArray))=some (.done s)∧NIs (kinds.flatMap notesO) s:=by
  obtain ⟨s,h1,h2⟩:=En (f:=opsF kinds) (xs:=kinds) (s₀:=((⟨(⟨[]⟩:MapM)⟩:BxM),(⟨([]:List ByteArray)⟩:BxR 80 9 ByteArray))) (fun k s=>NIs ((kinds.take k).flatMap notesO) s∧((kinds.take k).flatMap notesO).length≤4224 * k) ⟨NI.nil,by simp⟩ (fun k o s ho ⟨hs,hn⟩=>by
    have hk:=Aw ho
    have hLo:=hL o (List.mem_of_getElem? ho)
    obtain ⟨s',q1,q2⟩:=PS (x:=o) ho hLo hs (by omega)
    have hlo:=Ki hLo
    have:(kinds.take (k + 1)).flatMap notesO=(kinds.take k).flatMap notesO ++ notesO o:=by rw [Dq ho,List.flatMap_append];simp
    rw [this]
    exact ⟨s',q1,q2,by rw [List.length_append];omega⟩)
  rw [List.take_length] at h2
  exact ⟨s,h1,h2.1⟩
end
section
open Go Go.RowKit
noncomputable def sgA (t:Tsk) (ns:List Nt):List ByteArray→(Nat→Nat→ByteArray)→Nat→Nat→ByteArray
  | [],sg=>sg
  | a :: l,sg=>sgA t ns l (addL sg (allP t) fun f=>itoaF (cntN ns a f:Int))
theorem MA (t:Tsk) (ns:List Nt) (a:ByteArray):∀ (l:List ByteArray) (sg:Nat→Nat→ByteArray),sgA t ns (l ++ [a]) sg=addL (sgA t ns l sg) (allP t) fun f=>itoaF (cntN ns a f:Int)
  | [],_=>rfl
  | b :: l,sg=>MA t ns a l _
theorem Lg {sg:Nat→Nat→ByteArray} {l:List Pn} {rl:Fct→ByteArray} {B R:Nat} (h:∀ v a,(sg v a).size≤B) (hR:∀ f,(rl f).size≤R) (v a:Nat):(addL sg l rl v a).size≤B + (R + 1):=by
  have:=h v a
  have h2:=hR (fc (v,a))
  have e:(⟨#[59]⟩:ByteArray).size=1:=rfl
  unfold addL
  split
  · rw [ByteArray.size_append,ByteArray.size_append,e];omega
  · omega
theorem MB {ns:List Nt} (h:ns.length≤1000000) (a:ByteArray) (f:Fct):(itoaF (cntN ns a f:Int)).size≤21:=GL (by have:=Ni ns a f;omega)
theorem MC {t:Tsk} {ns:List Nt} (hn:ns.length≤1000000):∀ (l:List ByteArray) (sg:Nat→Nat→ByteArray) (B:Nat),(∀ v a,(sg v a).size≤B)→∀ v a,(sgA t ns l sg v a).size≤B + 22 * l.length
  | [],_,_,h=>h
  | b :: l,sg,B,h=>fun v a=>by
    have:=MC (t:=t) hn l (addL sg (allP t) fun f=>itoaF (cntN ns b f:Int)) (B + 22) (Lg h (MB hn b)) v a
    rw [sgA,List.length_cons]
    omega
theorem MD {α β σ ρ:Type} {f:Nat→α→σ→Option (Ctl σ ρ)} {g:Nat→β→σ→Option (Ctl σ ρ)} (h:∀ k a b s,f k a s=g k b s):∀ {xs:List α} {ys:List β},xs.length=ys.length→∀ (k:Nat) (s:σ),rng f xs k s=rng g ys k s
  | [],[],_,_,_=>rfl
  | a :: xs,b :: ys,hl,k,s=>by
    unfold rng
    rw [h k a b s]
    cases hg:g k b s with
    | none=>rfl
    | some c =>
      cases c with
      | next s'=>exact MD h (by simpa using hl) (k + 1) s'
      | brk s'=>rfl
      | ret r=>rfl
  | [],_ :: _,hl,_,_=>by simp at hl
  | _ :: _,[],hl,_,_=>by simp at hl
theorem Pa {t:Tsk} (hok:TaskOk t) (ho:t.ops.length < 20) {sg:Nat→Nat→ByteArray} (hs:∀ v a,(sg v a).size≤1000):∃ ns q,ns.Perm (t.ops.flatMap notesO)∧∀ s M fl,BZ (mkF t sg [] s M fl)=some (mkF t (sgA t ns q sg) [] s M fl):=by
  obtain ⟨kinds,hk1,hk2⟩:=MP (l:=t.ops) ho
  have hkl:=hk2.length_eq
  have hL:∀ o∈kinds,LitO o:=fun o hm=>by
    obtain ⟨i,hi⟩:=List.getElem?_of_mem (hk2.mem_iff.1 hm)
    have h:=hok.2.2.2.2.2 i o hi
    exact ⟨FW hok h.2.2.2.2.1,h.2.2.1,fun e he=>FW hok (Hq h e he).1,by unfold inI64;have:=h.1;have:=h.2.1;omega⟩
  obtain ⟨s1,h1,h2⟩:=OZ hL (by omega)
  have hnl:((kinds.flatMap notesO)).length≤100000:=by
    have:∀ (l:List Opr),(∀ o∈l,LitO o)→(l.flatMap notesO).length≤4224 * l.length:=by
      intro l
      induction l with
      | nil=>intro _;simp
      | cons o l ih =>
        intro hl
        have:=Ki (hl o List.mem_cons_self)
        have:=ih fun q hq=>hl q (List.mem_cons_of_mem _ hq)
        rw [List.flatMap_cons,List.length_append,List.length_cons]
        omega
    have:=this kinds hL
    omega
  generalize hns:kinds.flatMap notesO=ns at h2 hnl
  obtain ⟨⟨⟨m⟩⟩,⟨names⟩⟩:=s1
  have hNI:NI ns m names:=h2
  have hnm:=hNI.len
  refine ⟨ns,sortT names,by rw [← hns];exact hk2.flatMap_right _,fun s M fl=>?_⟩
  unfold BZ
  have hcl:Cw t.ops=some t.ops:=if_pos ⟨by omega,by omega⟩
  show bnd (Cw t.ops) _=_
  rw [hcl,Af,hk1,Af]
  have hq:(sortT names).length=names.length:=Dp names
  have hloop:rng (opsF kinds) t.ops 0 ((⟨(⟨[]⟩:MapM)⟩:BxM),(⟨([]:List ByteArray)⟩:BxR 80 9 ByteArray))=some (.done (⟨⟨m⟩⟩,⟨names⟩)):=by
    rw [← h1]
    exact MD (f:=opsF kinds) (g:=opsF kinds) (xs:=t.ops) (ys:=kinds) (fun k a b s=>rfl) hkl.symm 0 _
  unfold opsF at hloop
  rw [hloop,Af,BF]
  show bnd (if names.length≤1000000 then some (sortT names) else none) _=_
  rw [if_pos (by omega),Af]
  have hout:=CQ (ρ:=Fnd) (f:=fun (k413:Nat) (_:ByteArray) (s411:Fnd)=>bnd ((sortT names)[k413]?) fun a426=>bnd (rng (ρ:=Ctl Fnd Fnd) (fun (_:Nat) (a503:Fct) (s500:Fnd)=>bnd (mgetO m a426) fun m541=>bnd (Bh (fget 0 m541 a503)) fun q548=>bnd (BH s500 a503 q548) fun q556=>some (.next q556)) s411.list 0 s411) fun res498=>fin res498 fun (s573:Fnd)=>some (.next s573)) (xs:=names) (s₀:=mkF t sg [] s M fl) (fun k=>mkF t (sgA t ns ((sortT names).take k) sg) [] s M fl) rfl (fun k x hx=>by
    have hk:=Aw hx
    obtain ⟨a0,ha⟩:=AR (l:=sortT names) (k:=k) (by omega)
    have hmem:a0∈names:=(HB names).mem_iff.1 (List.mem_of_getElem? ha)
    rw [ha,Af]
    cases hv:mgetO m a0 with
    | none=>exact absurd hv (hNI.nam a0 hmem)
    | some v =>
      have hF:(fun (_:Nat) (a503:Fct) (s500:Fnd)=>bnd (some v) fun m541=>bnd (Bh (fget 0 m541 a503)) fun q548=>bnd (BH s500 a503 q548) fun q556=>some (Ctl.next (ρ:=Ctl Fnd Fnd) q556))=fun (_:Nat) (a:Fct) (s:Fnd)=>bnd (BH s a (itoaF (cntN ns a0 a:Int))) fun q=>some (.next q):=by
        funext k b s'
        rw [Af,hNI.get a0 v hv b]
        rfl
      have hsz:=MC (t:=t) (ns:=ns) (by omega) ((sortT names).take k) sg 1000 hs
      have:=HJ (t:=t) (s:=s) (M:=M) (fl:=fl) (ρ:=Ctl Fnd Fnd) (rl:=fun f=>itoaF (cntN ns a0 f:Int)) (R:=21) (B:=10000000) (MB (by omega) a0) (by omega) (allP t) 0 (sgA t ns ((sortT names).take k) sg) (ET t) (fun x hx=>BJ.1 hx) (fun x _=>by
        have:=hsz x.1 x.2
        rw [List.length_take] at this
        omega)
      rw [hF]
      show bnd (rng _ ((allP t).map fc) 0 _) _=_
      rw [this,Af,BF,Dq ha,MA])
  have e1:(sortT names).take names.length=sortT names:=List.take_of_length_le (by omega)
  rw [e1] at hout
  rw [hout,Af,BF]
theorem Ly (x:Swp) (l:List Fct):(imL x l).Perm (l.map (imF x)):=DU _
def imN (x:Swp) (n:Nt):Nt:=(n.1,imF x n.2)
theorem PT (x:Swp) (c:ByteArray) (k:Nat) (e:Eff):(noteE c k (imE x e)).Perm ((noteE c k e).map (imN x)):=by
  unfold noteE
  rw [List.map_cons,List.map_map]
  refine List.Perm.cons _ ?_
  have:=(Ly x e.cond).map fun f=>((c ++ whenB ++ itoaF (k:Int),f):Nt)
  rw [List.map_map] at this
  exact this
theorem Lh (x:Swp) (c:ByteArray):∀ (l:List Eff) (k:Nat),(notesE c (l.map (imE x)) k).Perm ((notesE c l k).map (imN x))
  | [],_=>.refl _
  | e :: l,k=>by
    rw [List.map_cons,notesE,notesE,List.map_append]
    exact (PT x c k e).append (Lh x c l (k + 1))
theorem Pb {x:Swp} {o p:Opr} (h:Mt x o p):(notesO p).Perm ((notesO o).map (imN x)):=by
  obtain ⟨h1,h2,h3⟩:=h
  have hl:p.pre.length=o.pre.length:=by rw [← h2,(Ly x o.pre).length_eq,List.length_map]
  have hk:kd p=kd o:=by unfold kd;rw [← h1,hl,← h3,List.length_map]
  unfold notesO
  rw [hk,← h3,List.map_append,List.map_map]
  refine List.Perm.append ?_ (Lh x (kd o) o.effs 0)
  have:=(Ly x o.pre).map fun f=>((kd o ++ preB,f):Nt)
  rw [List.map_map,h2] at this
  exact this
theorem Nj {x:Swp}:∀ (l P:List Opr),l.length=P.length→(∀ (k:Nat) (o p:Opr),l[k]?=some o→P[k]?=some p→Mt x o p)→(P.flatMap notesO).Perm ((l.flatMap notesO).map (imN x))
  | [],[],_,_=>.refl _
  | o :: l,p :: P,hl,h=>by
    rw [List.flatMap_cons,List.flatMap_cons,List.map_append]
    exact (Pb (h 0 o p rfl rfl)).append (Nj l P (by simpa using hl) fun k o' p' h1 h2=>h (k + 1) o' p' (by simpa using h1) (by simpa using h2))
  | [],_ :: _,hl,_=>by simp at hl
  | _ :: _,[],hl,_=>by simp at hl
def opr0:Opr:=⟨⟨#[]⟩,0,[],[]⟩
theorem Pc {t:Tsk} {x:Swp} (hx:SymP t x):(t.ops.flatMap notesO).Perm ((t.ops.flatMap notesO).map (imN x)):=by
  let P:=x.ops.map fun a=>(t.ops[a.toNat]?).getD opr0
  have h1:P.Perm t.ops:=by
    have:=hx.2.1.map fun a=>(t.ops[a.toNat]?).getD opr0
    have e:(rangeI t.ops.length).map (fun a=>(t.ops[a.toNat]?).getD opr0)=t.ops:=List.ext_getElem? fun k=>by
      by_cases hk:k < t.ops.length
      · rw [List.getElem?_map,EV hk]
        obtain ⟨o,ho⟩:=AR hk
        simp [ho]
      · rw [List.getElem?_eq_none (by rw [List.length_map,Gk];omega),List.getElem?_eq_none (by omega)]
    rwa [e] at this
  refine (h1.flatMap_right notesO).symm.trans (Nj t.ops P (by rw [List.length_map,hx.2.1.len]) fun k o p ho hp=>?_)
  obtain ⟨o',p',a,q1,q2,_,q3,q4⟩:=EM hx (Aw ho)
  rw [ho] at q1
  injection q1 with q1
  subst q1
  have hp:(x.ops.map fun a=>(t.ops[a.toNat]?).getD opr0)[k]?=some p:=hp
  rw [List.getElem?_map,q2] at hp
  have:p'=p:=by simpa [q3] using hp
  subst this
  exact q4
theorem Li {vars:List Int} {c:ByteArray}:∀ (l:List Eff) (k:Nat),(∀ e∈l,EffOk vars e)→∀ n∈notesE c l k,FactOk vars n.2
  | [],_,_,n,hn=>by simp [notesE] at hn
  | e :: l,k,h,n,hn=>by
    have he:=h e List.mem_cons_self
    rw [notesE,List.mem_append] at hn
    rcases hn with hn|hn
    · rcases List.mem_cons.1 hn with rfl|hn
      · exact he.2
      · obtain ⟨f,hf,rfl⟩:=List.mem_map.1 hn
        exact (CX he.1).1 f hf
    · exact Li l (k + 1) (fun q hq=>h q (List.mem_cons_of_mem _ hq)) n hn
theorem PU {t:Tsk} (hok:TaskOk t):∀ n∈t.ops.flatMap notesO,FactOk t.vars n.2:=fun n hn=>by
  obtain ⟨o,ho,hn⟩:=List.mem_flatMap.1 hn
  obtain ⟨i,hi⟩:=List.getElem?_of_mem ho
  have h:=hok.2.2.2.2.2 i o hi
  unfold notesO at hn
  rcases List.mem_append.1 hn with hn|hn
  · obtain ⟨f,hf,rfl⟩:=List.mem_map.1 hn
    exact (CX h.2.2.2.2.1).1 f hf
  · exact Li _ _ (Hq h) n hn
theorem Nk {t:Tsk} {x:Swp} (hok:TaskOk t) (hp:FactsPerm t x) {f g:Fct} (hf:FactOk t.vars f) (hg:FactOk t.vars g) (e:imF x f=imF x g):f=g:=by
  obtain ⟨h1,h2⟩:=HI hok hf
  obtain ⟨h3,h4⟩:=HI hok hg
  rw [h2,h4,Fh hok hp h1,Fh hok hp h3] at e
  rw [h2,h4,IL hok hp h1 h3 (Hl e)]
theorem Rf {t:Tsk} {x:Swp} (hok:TaskOk t) (hx:SymP t x) {ns:List Nt} (hns:ns.Perm (t.ops.flatMap notesO)) (a:ByteArray) {f:Fct} (hf:FactOk t.vars f):cntN ns a (imF x f)=cntN ns a f:=by
  unfold cntN
  rw [hns.countP_eq,hns.countP_eq,(Pc hx).countP_eq,List.countP_map]
  refine List.countP_congr fun n hn=>?_
  have hnf:=PU hok n hn
  have:imN x n=(a,imF x f)↔n=(a,f):=by
    constructor
    · intro e
      have e1:n.1=a:=congrArg Prod.fst e
      have e2:imF x n.2=imF x f:=congrArg Prod.snd e
      exact Prod.ext e1 (Nk hok hx.1 hnf hf e2)
    · intro e;rw [e];rfl
  show bof (imN x n=(a,imF x f))=true↔_
  rw [FS this]
theorem ME {t:Tsk} {w:Swp} {sg:Nat→Nat→ByteArray} {l:List Pn} {rl:Fct→ByteArray} (h:SgOk t sg w) (hl:∀ p,InP t p→(imP w p∈l↔p∈l)) (hr:∀ p,InP t p→rl (fc (imP w p))=rl (fc p)):SgOk t (addL sg l rl) w:=fun p hp=>by
  unfold addL
  by_cases hm:p∈l
  · rw [if_pos ((hl p hp).2 hm),if_pos hm,h p hp,hr p hp]
  · rw [if_neg (fun e=>hm ((hl p hp).1 e)),if_neg hm,h p hp]
theorem Nl {t:Tsk} {x:Swp} (hok:TaskOk t) (hx:SymP t x) {ns:List Nt} (hns:ns.Perm (t.ops.flatMap notesO)):∀ (l:List ByteArray) (sg:Nat→Nat→ByteArray),SgOk t sg x→SgOk t (sgA t ns l sg) x
  | [],_,h=>h
  | a :: l,sg,h=>Nl hok hx hns l _ (ME h (fun p hp=>⟨fun _=>BJ.2 hp,fun _=>BJ.2 (ED hok hx.1 hp)⟩) fun p hp=>by
    rw [← Fh hok hx.1 hp,Rf hok hx hns a (hp.ok hok)])
theorem Rg {t:Tsk} {x:Swp} (hok:TaskOk t) (hx:SymP t x):SgOk t (sg0 t) x:=by
  have hgf:=(CX hok.2.2.2.2.1).1
  have hmem:∀ p,InP t p→(p∈t.goal.map pf↔fc p∈t.goal):=fun p hp=>by
    rw [List.mem_map]
    constructor
    · rintro ⟨g,hg,rfl⟩
      rw [← (HI hok (hgf g hg)).2];exact hg
    · intro h
      exact ⟨fc p,h,by unfold pf fc;simp⟩
  have hg:=Ly x t.goal
  rw [hx.2.2.1] at hg
  refine ME (fun _ _=>rfl) (fun p hp=>?_) fun _ _=>rfl
  rw [hmem _ (ED hok hx.1 hp),hmem p hp,← Fh hok hx.1 hp]
  constructor
  · intro h
    obtain ⟨g,hg1,hg2⟩:=List.mem_map.1 (hg.mem_iff.1 h)
    rw [← Nk hok hx.1 (hgf g hg1) (hp.ok hok) hg2]
    exact hg1
  · intro h
    exact hg.mem_iff.2 (List.mem_map.2 ⟨_,h,rfl⟩)
theorem newF {t:Tsk} (hok:TaskOk t) (ho:t.ops.length < 20):∃ sg,(∀ w,SymF t w→SgOk t sg w)∧∀ M,Cn t M=some (some (mkF t sg [] 0 M false)):=by
  have hs:∀ v a,(sg0 t v a).size≤1000:=fun v a=>by
    have:=Lg (sg:=fun _ _=>⟨#[]⟩) (l:=t.goal.map pf) (rl:=fun _=>goalB) (B:=0) (R:=4) (fun _ _=>Nat.le_refl _) (fun _=>Nat.le_refl _) v a
    unfold sg0
    omega
  obtain ⟨ns,q,h2,h1⟩:=Pa hok ho (sg:=sg0 t) hs
  refine ⟨sgA t ns q (sg0 t),fun w ⟨ops,hw⟩=>Nl hok hw h2 q _ (Rg hok hw),fun M=>RG hok (h1 0 M false)⟩
end
section
open Go Go.RowKit
def GI (t:Tsk) (i:Nat) (g:List Swp):Prop:=∀ a∈g,SymP t a∧opsC t ⟨a.vars,a.vals,[]⟩=some a.ops∧Fix t i a
def Dis (t:Tsk) (g:List Swp):Prop:=(∀ a∈g,∃ p,InP t p∧imP a p≠p)∧g.Pairwise fun a b=>∃ p,InP t p∧imP a p≠imP b p
section
variable {t : Tsk} {sg : Nat → Nat → ByteArray} {M : Nat}
theorem Rh (hok:TaskOk t) {i:Nat} (hi:i < (allP t).length) {y:Pn} {s:Nat} (hy:InP t y) (hf:fitB t sg (idz t i) (xAt t (idz t i)) y=true) {b:Swp} (h:(stp t sg (leafC t) M ((allP t).length - i - 1) (idz t i) y s).1=some b) :
    SymP t b∧opsC t ⟨b.vars,b.vals,[]⟩=some b.ops∧Fix t i b∧imP b (xAt t (idz t i))=y:=by
  obtain ⟨ys,h1,h2,h3⟩:=Mm hi hy hf h
  obtain ⟨h4,h5,h6⟩:=IW hok h1 h2 h3
  exact ⟨h4,h5,fun p hp=>h6 (p,p) (List.mem_append.2 (.inl (List.mem_map.2 ⟨p,hp,rfl⟩))),h6 (xAt t (idz t i),y) (List.mem_append.2 (.inr List.mem_cons_self))⟩
theorem PV (hok:TaskOk t) (hsg:∀ w,SymF t w→SgOk t sg w) {i:Nat} (hi:i < (allP t).length) {y:Pn} {s:Nat} (h1:(stp t sg (leafC t) M ((allP t).length - i - 1) (idz t i) y s).1=none) (h2:(stp t sg (leafC t) M ((allP t).length - i - 1) (idz t i) y s).2.2=false) {w:Swp} (hw:SymF t w) (hfx:Fix t i w) (hxy:imP w (xAt t (idz t i))=y):False:=by
  unfold stp at h1 h2
  by_cases hM:M≤s
  · rw [if_pos hM] at h2;cases h2
  · rw [if_neg hM] at h1 h2
    have e:=Le (w:=w) (FY hi)
    rw [Mw hfx,hxy] at e
    rw [← e] at h1 h2
    exact Kh hok hw (Mx hok hw.perm (hsg w hw) _ _ _ (by omega) h1 h2)
theorem Dis.add {g:List Swp} (h:Dis t g) {x y:Pn} (hx:InP t x) {b:Swp} (hb:imP b x=y) (hn:¬ Reach g x y):Dis t (g ++ [b]):=by
  refine ⟨fun a ha=>?_,List.pairwise_append.2 ⟨h.2,List.pairwise_singleton _ _,fun a ha c hc=>?_⟩⟩
  · rcases List.mem_append.1 ha with ha|ha
    · exact h.1 a ha
    · simp at ha
      subst ha
      exact ⟨x,hx,fun e=>hn (by rw [← hb,e];exact .one)⟩
  · simp at hc
    subst hc
    exact ⟨x,hx,fun e=>hn (by rw [← hb,← e];exact .step .one ha)⟩
theorem IO (hok:TaskOk t) (hsg:∀ w,SymF t w→SgOk t sg w) {i:Nat} (hi:i < (allP t).length):∀ (l:List Pn) (g:List Swp) (s:Nat),(∀ y∈l,InP t y)→GI t i g→Dis t g→(levL t sg (leafC t) M i (xAt t (idz t i)) l g s).2.2=false →
    GI t i (levL t sg (leafC t) M i (xAt t (idz t i)) l g s).1∧Dis t (levL t sg (leafC t) M i (xAt t (idz t i)) l g s).1∧(∀ a∈g,a∈(levL t sg (leafC t) M i (xAt t (idz t i)) l g s).1) ∧
    (∀ w,SymF t w→Fix t i w→imP w (xAt t (idz t i))∈l→Reach (levL t sg (leafC t) M i (xAt t (idz t i)) l g s).1 (xAt t (idz t i)) (imP w (xAt t (idz t i)))) ∧
    (levL t sg (leafC t) M i (xAt t (idz t i)) l g s).1.length≤g.length + l.length
  | [],g,s,_,hg,hd,_=>⟨hg,hd,fun _ h=>h,fun w _ _ h=>by simp at h,by show g.length≤_;simp⟩
  | y :: l, g,s,hP,hg,hd,hfl=>by
    have hP':∀ q∈l,InP t q:=fun q hq=>hP q (List.mem_cons_of_mem _ hq)
    have hy:=hP y List.mem_cons_self
    have hxin:InP t (xAt t (idz t i)):=BJ.1 (List.mem_of_getElem? (FY hi))
    unfold levL at hfl ⊢
    by_cases hf:fitB t sg (idz t i) (xAt t (idz t i)) y=true∧bof (Reach g (xAt t (idz t i)) y)=false
    · rw [if_pos hf] at hfl ⊢
      have hnr:¬ Reach g (xAt t (idz t i)) y:=fun e=>by rw [Be e] at hf;exact nomatch hf.2
      cases hq:(stp t sg (leafC t) M ((allP t).length - i - 1) (idz t i) y s).2.2 with
      | true=>rw [if_pos hq] at hfl;cases hfl
      | false =>
        rw [hq] at hfl
        rw [if_neg (by decide)] at hfl ⊢
        cases ho:(stp t sg (leafC t) M ((allP t).length - i - 1) (idz t i) y s).1 with
        | none =>
          rw [ho] at hfl
          obtain ⟨q1,q2,q3,q4,q5⟩:=IO hok hsg hi l g _ hP' hg hd hfl
          refine ⟨q1,q2,q3,fun w hw hfx hm=>?_,by rw [List.length_cons];exact Nat.le_trans q5 (by omega)⟩
          rcases List.mem_cons.1 hm with e|hm
          · exact (PV hok hsg hi ho hq hw hfx e).elim
          · exact q4 w hw hfx hm
        | some b =>
          rw [ho] at hfl
          obtain ⟨b1,b2,b3,b4⟩:=Rh hok hi hy hf.1 ho
          obtain ⟨q1,q2,q3,q4,q5⟩:=IO hok hsg hi l (g ++ [b]) _ hP' (fun a ha=>by
            rcases List.mem_append.1 ha with ha|ha
            · exact hg a ha
            · simp at ha;subst ha;exact ⟨b1,b2,b3⟩) (hd.add hxin b4 hnr) hfl
          refine ⟨q1,q2,fun a ha=>q3 a (List.mem_append.2 (.inl ha)),fun w hw hfx hm=>?_,by
            have:(g ++ [b]).length=g.length + 1:=by simp
            rw [List.length_cons];exact Nat.le_trans q5 (by omega)⟩
          rcases List.mem_cons.1 hm with e|hm
          · have hb:=Reach.step (x:=xAt t (idz t i)) .one (q3 b (List.mem_append.2 (.inr (by simp))))
            rw [b4] at hb
            rw [e]
            exact hb
          · exact q4 w hw hfx hm
    · rw [if_neg hf] at hfl ⊢
      obtain ⟨q1,q2,q3,q4,q5⟩:=IO hok hsg hi l g s hP' hg hd hfl
      refine ⟨q1,q2,q3,fun w hw hfx hm=>?_,by rw [List.length_cons];omega⟩
      rcases List.mem_cons.1 hm with e|hm
      · have hfit:=OV (sg:=sg) hok hw.perm (hsg w hw) (FY hi)
        rw [Mw hfx,e] at hfit
        rw [e]
        refine Reach.mono q3 (Classical.byContradiction fun hn=>hf ⟨hfit,AQ hn⟩)
      · exact q4 w hw hfx hm
theorem PW {x:Swp} {q:Pn} (hok:TaskOk t) (hx:FactsPerm t x) (h:InP t q):imP x (imP (invN x) q)=q :=
  have hr:=ED hok (EN hok hx) h
  IL hok (EN hok hx) (ED hok hx hr) h (Nh hok hx hr)
def Gens (t:Tsk) (i:Nat) (g:List Swp):Prop:=∀ w,SymF t w→Fix t i w→∃ π,Wd g π∧∀ p,InP t p→imP w p=π p
theorem SymF.comp (hok:TaskOk t) {w H:Swp} (hw:SymF t w) (hH:SymP t H):∃ u,SymP t u∧∀ p,InP t p→imP u p=imP (invN H) (imP w p):=by
  obtain ⟨ops,hw⟩:=hw
  exact ⟨compX ⟨w.vars,w.vals,ops⟩ (invN H),JA hok hw (PP hok hH),fun p hp=>JD hok hw.1 (EN hok hH.1) hp⟩
theorem Nm (hok:TaskOk t) (hsg:∀ w,SymF t w→SgOk t sg w):∀ (i:Nat) (g:List Swp) (s:Nat),i≤(allP t).length→GI t i g→Dis t g→Gens t i g→(fndL t sg (leafC t) M i g s).2.2=false →
    GI t 0 (fndL t sg (leafC t) M i g s).1∧Dis t (fndL t sg (leafC t) M i g s).1∧Gens t 0 (fndL t sg (leafC t) M i g s).1∧(fndL t sg (leafC t) M i g s).1.length≤g.length + i * (allP t).length
  | 0,g,s,_,hg,hd,hG,_=>⟨hg,hd,hG,by show g.length≤_;omega⟩
  | i + 1,g,s,hi,hg,hd,hG,hfl=>by
    have hii:i < (allP t).length:=by omega
    have hxe:((allP t)[i]?).getD (0,0)=xAt t (idz t i):=by rw [FY hii];rfl
    have hx:=FY hii
    have hxin:InP t (xAt t (idz t i)):=BJ.1 (List.mem_of_getElem? hx)
    have htk:∀ p,p∈(allP t).take (i + 1)↔p∈(allP t).take i∨p=xAt t (idz t i):=fun p=>CZ hx
    unfold fndL at hfl ⊢
    rw [hxe] at hfl ⊢
    cases hq:(levL t sg (leafC t) M i (xAt t (idz t i)) (allP t) g s).2.2 with
    | true=>rw [if_pos hq] at hfl;cases hfl
    | false =>
      rw [hq] at hfl
      rw [if_neg (by decide)] at hfl ⊢
      have hg':GI t i g:=fun a ha=>⟨(hg a ha).1,(hg a ha).2.1,fun p hp=>(hg a ha).2.2 p ((htk p).2 (.inl hp))⟩
      obtain ⟨q1,q2,q3,q4,q5⟩:=IO (M:=M) hok hsg hii (allP t) g s (fun y hy=>BJ.1 hy) hg' hd hq
      have hG':Gens t i (levL t sg (leafC t) M i (xAt t (idz t i)) (allP t) g s).1:=fun w hw hfx=>by
        obtain ⟨π,p1,p2⟩:=PR (q4 w hw hfx (BJ.2 (ED hok hw.perm hxin)))
        obtain ⟨H,h1,h2⟩:=Wd.sym hok (fun a ha=>(q1 a ha).1) p1
        obtain ⟨u,u1,u2⟩:=SymF.comp hok hw h1
        have hHfix:Fix t i H:=fun p hp=>by rw [h2 p (Gs hp)];exact Wd.fix (fun a ha=>(q1 a ha).2.2) p1 p hp
        have hback:∀ p q,InP t p→imP H p=q→imP (invN H) q=p:=fun p q hp e=>by rw [← e];exact Nh hok h1.1 hp
        have hufix:Fix t (i + 1) u:=fun p hp=>by
          have hpin:=Gs hp
          rw [u2 p hpin]
          rcases (htk p).1 hp with hp|rfl
          · rw [hfx p hp]
            exact hback p p hpin (hHfix p hp)
          · exact hback _ _ hpin (by rw [h2 _ hpin,p2])
        obtain ⟨ρ,r1,r2⟩:=hG u u1.f hufix
        refine ⟨fun p=>π (ρ p),Wd.comp p1 (Wd.mono q3 r1),fun p hp=>?_⟩
        have hui:=ED hok u1.1 hp
        show imP w p=π (ρ p)
        rw [← r2 p hp,← h2 _ hui,u2 p hp]
        obtain ⟨v,v1,v2⟩:∃ v,InP t v∧imP H v=imP w p:=by
          refine ⟨imP u p,hui,?_⟩
          rw [u2 p hp]
          exact PW hok h1.1 (ED hok hw.perm hp)
        rw [← v2,hback v _ v1 rfl]
      obtain ⟨r1,r2,r3,r4⟩:=Nm hok hsg i _ _ (by omega) q1 q2 hG' hfl
      refine ⟨r1,r2,r3,Nat.le_trans r4 ?_⟩
      rw [Nat.succ_mul]
      omega
end
end
section
open Go Go.RowKit
def fac:Nat→Nat
  | 0=>1
  | n + 1=>(n + 1) * fac n
theorem Hr:∀ n,1≤fac n
  | 0=>Nat.le_refl _
  | n + 1=>Nat.le_trans (Hr n) (Nat.le_mul_of_pos_left _ (by omega))
def insL (x:Int) (p:List Int):List (List Int):=(List.range (p.length + 1)).map fun k=>p.take k ++ [x] ++ p.drop k
def permsL:Nat→List (List Int)
  | 0=>[[]]
  | n + 1=>(permsL n).flatMap (insL (n:Int))
theorem IP {x:Int} {p l:List Int}:l∈insL x p↔∃ a b,p=a ++ b∧l=a ++ [x] ++ b:=by
  unfold insL
  rw [List.mem_map]
  constructor
  · rintro ⟨k,_,rfl⟩
    exact ⟨p.take k,p.drop k,(List.take_append_drop k p).symm,rfl⟩
  · rintro ⟨a,b,rfl,rfl⟩
    exact ⟨a.length,List.mem_range.2 (by simp;omega),by simp⟩
theorem MQ (n:Nat):rangeI (n + 1)=rangeI n ++ [(n:Int)]:=by
  unfold rangeI
  rw [List.range_succ,List.map_append];rfl
theorem Dr:∀ {n:Nat} {l:List Int},l∈permsL n↔PermR l n
  | 0,l=>by
    unfold permsL PermR
    rw [List.mem_singleton]
    exact ⟨fun h=>by rw [h];exact .refl _,fun h=>List.Perm.eq_nil h⟩
  | n + 1,l=>by
    unfold permsL
    rw [List.mem_flatMap]
    unfold PermR
    rw [MQ]
    constructor
    · rintro ⟨p,hp,hl⟩
      obtain ⟨a,b,rfl,rfl⟩:=IP.1 hl
      have h1:PermR (a ++ b) n:=Dr.1 hp
      have h2:(a ++ [(n:Int)] ++ b).Perm ((n:Int) :: (a ++ b)):=by
        rw [List.append_assoc]
        exact List.perm_middle
      exact h2.trans ((h1.cons _).trans (List.perm_append_singleton _ _).symm)
    · intro h
      have hm:(n:Int)∈l:=h.mem_iff.2 (by simp)
      obtain ⟨a,b,rfl⟩:=List.append_of_mem hm
      have h2:(a ++ b).Perm (rangeI n):=by
        have h3:((n:Int) :: (a ++ b)).Perm ((n:Int) :: rangeI n):=List.perm_middle.symm.trans (h.trans (List.perm_append_singleton _ _))
        exact h3.cons_inv
      exact ⟨a ++ b,Dr.2 h2,IP.2 ⟨a,b,rfl,by simp⟩⟩
theorem JE {x:Int}:∀ {a b a' b':List Int},x ∉ a ++ b→x ∉ a' ++ b'→a ++ x :: b=a' ++ x :: b'→a=a'∧b=b'
  | [],b,[],b',_,_,h=>by
    injection h with _ h
    exact ⟨rfl,h⟩
  | [],b,y :: a',b',h1,h2,h=>by
    injection h with h _
    exact absurd (by rw [h];simp) h2
  | y :: a,b,[],b',h1,h2,h=>by
    injection h with h _
    exact absurd (by rw [← h];simp) h1
  | y :: a,b,z :: a',b',h1,h2,h=>by
    injection h with h3 h4
    obtain ⟨h5,h6⟩:=JE (fun e=>h1 (by simp at e ⊢;exact .inr e)) (fun e=>h2 (by simp at e ⊢;exact .inr e)) h4
    exact ⟨by rw [h3,h5],h6⟩
theorem Hb:∀ n,(permsL n).Nodup
  | 0=>by simp [permsL]
  | n + 1=>by
    have hnot:∀ p∈permsL n,(n:Int) ∉ p:=fun p hp h=>by
      have:=(Dr.1 hp).mem h
      omega
    refine Fx (Hb n) (fun p hp=>Eu List.nodup_range fun i hi j hj e=>?_) fun p hp q hq hne l hl hl'=>?_
    · have hi:=List.mem_range.1 hi
      have hj:=List.mem_range.1 hj
      simp only [List.append_assoc,List.singleton_append] at e
      have:=(JE (by rw [List.take_append_drop];exact hnot p hp) (by rw [List.take_append_drop];exact hnot p hp) e).1
      have h2:=congrArg List.length this
      rw [List.length_take,List.length_take] at h2
      omega
    · obtain ⟨a,b,rfl,rfl⟩:=IP.1 hl
      obtain ⟨a',b',rfl,e⟩:=IP.1 hl'
      simp only [List.append_assoc,List.singleton_append] at e
      obtain ⟨e1,e2⟩:=JE (hnot _ hp) (hnot _ hq) e
      exact hne (by rw [e1,e2])
theorem GM {α β:Type} {f:α→List β} {c:Nat}:∀ {l:List α},(∀ a∈l,(f a).length=c)→(l.flatMap f).length=l.length * c
  | [],_=>by simp
  | a :: l,h=>by
    rw [List.flatMap_cons,List.length_append,h a List.mem_cons_self,GM fun b hb=>h b (List.mem_cons_of_mem _ hb),List.length_cons,Nat.succ_mul]
    omega
theorem EO:∀ n,(permsL n).length=fac n
  | 0=>rfl
  | n + 1=>by
    unfold permsL fac
    rw [GM (c:=n + 1) fun p hp=>by
      unfold insL
      rw [List.length_map,List.length_range,(Dr.1 hp).len],EO n,Nat.mul_comm]
theorem RH {n:Nat} (h:n≤7):fac n≤5040:=by
  have:n=0∨n=1∨n=2∨n=3∨n=4∨n=5∨n=6∨n=7:=by omega
  rcases this with rfl|rfl|rfl|rfl|rfl|rfl|rfl|rfl<;>decide
theorem Nn:∀ (d n:Nat),n < d→n≤7→mxP d (n:Int)=some (permsL n)
  | 0,_,h,_=>absurd h (by omega)
  | d + 1,0,_,_=>by
    unfold mxP GE
    rw [if_pos (show ((0:Nat):Int)=0 from rfl)]
    rfl
  | d + 1,n + 1,h,h7=>by
    have ih:=Nn d n (by omega) (by omega)
    unfold mxP GE
    have e1:chkI (((n + 1:Nat):Int) - 1)=some (n:Int):=by
      rw [CR (by unfold inI64;omega)]
      congr 1
      omega
    rw [if_neg (by omega),e1,Af,ih,Af]
    have hfn:=RH (n:=n + 1) h7
    rw [CQ (s₀:=([]:List (List Int))) (fun k=>((permsL n).take k).flatMap (insL (n:Int))) (by simp) (fun k p hk=>?_),Af,BF,List.take_length]
    · rfl
    · have hp:PermR p n:=Dr.1 (List.mem_of_getElem? hk)
      have hpl:=hp.len
      have hk2:=Aw hk
      have hpre:((permsL n).take k).flatMap (insL (n:Int)) ++ insL (n:Int) p=((permsL n).take (k + 1)).flatMap (insL (n:Int)):=by
        rw [Dq hk,List.flatMap_append];simp
      have hlen:(((permsL n).take k).flatMap (insL (n:Int))).length=k * (n + 1):=by
        rw [GM (c:=n + 1) fun q hq=>by
          unfold insL
          rw [List.length_map,List.length_range,(Dr.1 (List.mem_of_mem_take hq)).len],List.length_take,Nat.min_eq_left (by omega)]
      have htot:k * (n + 1) + (n + 1)≤5040:=by
        have h1:=EO n
        have h2:(k + 1) * (n + 1)≤fac n * (n + 1):=Nat.mul_le_mul_right _ (by omega)
        have h3:fac (n + 1)=(n + 1) * fac n:=rfl
        rw [Nat.succ_mul] at h2
        rw [h3,Nat.mul_comm] at hfn
        omega
      rw [← hpre]
      refine Kz (I:=fun s=>∃ j:Nat,j≤n + 1∧s=(((permsL n).take k).flatMap (insL (n:Int)) ++ (insL (n:Int) p).take j,(j:Int))) (B:=fun s=>s.1=((permsL n).take k).flatMap (insL (n:Int)) ++ insL (n:Int) p) (μ:=fun s=>n + 1 - s.2.toNat) ⟨0,by omega,by simp⟩ ?_ ?_
      · rintro s ⟨j,hj,rfl⟩
        have hil:(insL (n:Int) p).length=n + 1:=by unfold insL;rw [List.length_map,List.length_range,hpl]
        simp only []
        by_cases hjn:j≤n
        · left
          have hget:(insL (n:Int) p)[j]?=some (p.take j ++ [(n:Int)] ++ p.drop j):=by
            unfold insL
            rw [List.getElem?_map,List.getElem?_range (by omega)];rfl
          have hc1:cutI p 0 (j:Int)=some (p.take j):=by
            have:=Ko (xs:=p) (a:=0) (b:=j) (by omega) (by omega)
            simpa using this
          have hc2:cutI p (j:Int) (p.length:Int)=some (p.drop j):=by
            have:=Ko (xs:=p) (a:=j) (b:=p.length) (by omega) (by omega)
            simpa using this
          rw [if_pos (by omega),hc1,Af,Af,hc2,Af,BM (by simp;omega) (by simp;omega),Af,BM (by simp;omega) (by simp;omega),Af,BM (by simp;omega) (by simp;omega),Af,BM (by rw [List.length_append,hlen,List.length_take,hil,List.length_singleton];omega) (by rw [List.length_append,hlen,List.length_take,hil,List.length_singleton];omega),Af,Af,CR (by unfold inI64;omega),Af]
          refine ⟨_,rfl,⟨j + 1,by omega,?_⟩,by simp only [Int.toNat_natCast];omega⟩
          rw [Dq hget]
          simp
        · right
          rw [if_neg (by omega)]
          refine ⟨_,rfl,?_⟩
          have e:(insL (n:Int) p).take j=insL (n:Int) p:=List.take_of_length_le (by omega)
          show _ ++ (insL (n:Int) p).take j=_
          rw [e]
      · rintro s hs
        rw [BF,hs]
theorem MF {n:Nat} (h:n≤7):EC (n:Int)=some (permsL n):=by
  unfold EC
  exact Nn _ n (by simp) h
def valuesL:List Int→List (List (List Int))
  | []=>[[]]
  | k :: r=>(permsL k.toNat).flatMap fun p=>(valuesL r).map (p :: ·)
def facL (l:List Int):Nat:=l.foldr (fun k n=>fac k.toNat * n) 1
theorem JF:∀ l,1≤facL l
  | []=>Nat.le_refl _
  | k :: l=>Nat.mul_le_mul (Hr k.toNat) (JF l)
theorem Gn:∀ l,(valuesL l).length=facL l
  | []=>rfl
  | k :: l=>by
    unfold valuesL
    rw [GM (c:=(valuesL l).length) fun p _=>List.length_map _,EO,Gn l];rfl
theorem Fz:∀ {sizes:List Int} {L:List (List Int)},L∈valuesL sizes↔L.length=sizes.length∧∀ (i:Nat) (k:Int) (l:List Int),sizes[i]?=some k→L[i]?=some l→PermR l k.toNat
  | [],L=>by
    unfold valuesL
    rw [List.mem_singleton]
    exact ⟨fun h=>by rw [h];exact ⟨rfl,fun i k l h=>by simp at h⟩,fun h=>List.eq_nil_of_length_eq_zero h.1⟩
  | k :: r,L=>by
    unfold valuesL
    rw [List.mem_flatMap]
    constructor
    · rintro ⟨p,hp,hL⟩
      obtain ⟨q,hq,rfl⟩:=List.mem_map.1 hL
      obtain ⟨h1,h2⟩:=Fz.1 hq
      refine ⟨by simp [h1],fun i k' l h3 h4=>?_⟩
      cases i with
      | zero =>
        have e1:k=k':=by simpa using h3
        have e2:p=l:=by simpa using h4
        rw [← e1,← e2]
        exact Dr.1 hp
      | succ i=>exact h2 i k' l (by simpa using h3) (by simpa using h4)
    · rintro ⟨h1,h2⟩
      match L,h1,h2 with
      | p :: q,h1,h2 =>
        refine ⟨p,Dr.2 (h2 0 k p rfl rfl),List.mem_map.2 ⟨q,Fz.2 ⟨by simpa using h1,fun i k' l h3 h4=>h2 (i + 1) k' l (by simpa using h3) (by simpa using h4)⟩,rfl⟩⟩
theorem Iv:∀ l,(valuesL l).Nodup
  | []=>by simp [valuesL]
  | k :: l=>by
    refine Fx (Hb _) (fun p _=>Eu (Iv l) fun a _ b _ e=>by injection e) fun p _ q _ hne L hL hL'=>?_
    obtain ⟨_,_,rfl⟩:=List.mem_map.1 hL
    obtain ⟨_,_,e⟩:=List.mem_map.1 hL'
    injection e with e _
    exact hne e.symm
theorem MG:∀ (sizes:List Int) (d:Nat),sizes.length < d→(∀ k∈sizes,0≤k∧k≤7)→sizes.length≤1000→facL sizes≤1000000→mxV d sizes=some (valuesL sizes)
  | _,0,h,_,_,_=>absurd h (by omega)
  | [],d + 1,_,_,_,_=>by
    unfold mxV FV
    rw [if_pos (show (([]:List Int).length:Int)=0 from rfl)];rfl
  | k :: r,d + 1,h,hk,hl,hf=>by
    obtain ⟨k0,k7⟩:=hk k List.mem_cons_self
    have hfc:facL (k :: r)=fac k.toNat * facL r:=rfl
    have hfr:facL r≤facL (k :: r):=by rw [hfc];exact Nat.le_mul_of_pos_left _ (Hr _)
    have ih:=MG r d (by simpa using h) (fun q hq=>hk q (List.mem_cons_of_mem _ hq)) (by simp at hl;omega) (by omega)
    have hp:=MF (n:=k.toNat) (by omega)
    rw [show ((k.toNat:Nat):Int)=k from by omega] at hp
    unfold mxV FV
    rw [if_neg (by simp;omega),show atI (k :: r) 0=some k from rfl,Af,hp,Af]
    have hc:cutI (k :: r) 1 (((k :: r).length:Nat):Int)=some r:=by
      have:=Ko (xs:=k :: r) (a:=1) (b:=(k :: r).length) (by simp) (Nat.le_refl _)
      rw [List.take_length] at this
      exact this
    have hvl:=Gn r
    have hlr:r.length≤1000:=by simp at hl;omega
    rw [CQ (s₀:=([]:List (List (List Int)))) (fun j=>((permsL k.toNat).take j).flatMap fun p=>(valuesL r).map (p :: ·)) (by simp) (fun j p hj=>?_),Af,BF,List.take_length]
    · rfl
    · have hj2:=Aw hj
      rw [EO] at hj2
      have hlen:(((permsL k.toNat).take j).flatMap fun p=>(valuesL r).map (p :: ·)).length=j * facL r:=by
        rw [GM (c:=facL r) fun q _=>by rw [List.length_map,hvl],List.length_take,EO,Nat.min_eq_left (by omega)]
      have htot:j * facL r + facL r≤1000000:=by
        have h2:(j + 1) * facL r≤fac k.toNat * facL r:=Nat.mul_le_mul_right _ (by omega)
        rw [Nat.succ_mul] at h2
        omega
      rw [hc,Af,ih,Af]
      rw [CQ (fun i=>(((permsL k.toNat).take j).flatMap fun p=>(valuesL r).map (p :: ·)) ++ ((valuesL r).take i).map (p :: ·)) (by simp) (fun i q hi=>?_),Af,BF,List.take_length]
      · congr 2
        rw [Dq hj,List.flatMap_append];simp
      · have hi2:=Aw hi
        have hq:=(Fz.1 (List.mem_of_getElem? hi)).1
        rw [BM (by simp;omega) (by simp;omega),Af,BM (by rw [List.length_append,hlen,List.length_map,List.length_take,List.length_singleton];omega) (by rw [List.length_append,hlen,List.length_map,List.length_take,List.length_singleton];omega),Af,Dq hi,List.map_append]
        simp
theorem Pd {sizes:List Int} (h:∀ k∈sizes,0≤k∧k≤7) (hl:sizes.length≤1000) (hf:facL sizes≤1000000):ES sizes=some (valuesL sizes):=MG sizes _ (by omega) h hl hf
end
section
open Go Go.RowKit
theorem PX (n:Nat):fac (n + 1)=(n + 1) * fac n:=rfl
theorem GW (x:Int):∀ l,facL (l ++ [x])=facL l * fac x.toNat
  | []=>by show fac x.toNat * 1=1 * fac x.toNat;rw [Nat.mul_one,Nat.one_mul]
  | k :: l=>by
    show fac k.toNat * facL (l ++ [x])=fac k.toNat * facL l * fac x.toNat
    rw [GW x l,Nat.mul_assoc]
theorem PY {a b:Nat} (h:a≤b):fac a≤fac b:=by
  induction h with
  | refl=>exact Nat.le_refl _
  | step _ ih=>exact Nat.le_trans ih (Nat.le_mul_of_pos_left _ (by omega))
theorem Pe {k n0:Nat} (hk:k≤64) (h0:1≤n0) (h1:n0≤19200) {ρ:Type}:∃ n:Nat,1≤n∧n≤19200∧(n≤300→n0≤300∧n=n0 * fac k)∧∃ s':Int×Int,s'.1=(n:Int)∧lop (ρ:=ρ) (fun (s65:Int×Int)=>bnd (if s65.2≤(k:Int) then (if s65.1≤300 then (some true) else (some false)) else (some false):Option Bool) fun y82=>if y82=true then (bnd (chkI (s65.1 * s65.2)) fun n93=>bnd (chkI (s65.2 + 1)) fun n96=>some (.next (n93,n96))) else (some (.brk (s65.1,s65.2)))) ((n0:Int),2)=some (.done s'):=by
  have hlw:=IJ (ρ:=ρ) (f:=fun (s65:Int×Int)=>bnd (if s65.2≤(k:Int) then (if s65.1≤300 then (some true) else (some false)) else (some false):Option Bool) fun y82=>if y82=true then (bnd (chkI (s65.1 * s65.2)) fun n93=>bnd (chkI (s65.2 + 1)) fun n96=>some (.next (n93,n96))) else (some (.brk (s65.1,s65.2))))
    (fun s=>∃ n i:Nat,s.1=(n:Int)∧s.2=(i:Int)∧2≤i∧(i≤2∨i≤k + 1)∧1≤n∧n≤19200∧(n≤300→n0≤300∧n=n0 * fac (i - 1))) (fun s=>∃ n:Nat,s.1=(n:Int)∧1≤n∧n≤19200∧(n≤300→n0≤300∧n=n0 * fac k)) (fun _=>False) (fun s=>k + 2 - s.2.toNat) (fun s hs=>by
      obtain ⟨a,b⟩:=s
      obtain ⟨n,i,rfl,rfl,h2,hi,hn1,hn2,hn3⟩:=hs
      by_cases hik:(i:Int)≤(k:Int)
      · by_cases hn:(n:Int)≤300
        · left
          have hni:n * i≤300 * 64:=Nat.mul_le_mul (by omega) (by omega)
          have hpos:1≤n * i:=Nat.mul_pos (by omega) (by omega)
          have hc:((n:Int) * (i:Int))=((n * i:Nat):Int):=by simp
          simp only []
          rw [if_pos hik,if_pos hn,Af,Bq,hc,CR (by unfold inI64;omega),Af,CR (by unfold inI64;omega),Af]
          refine ⟨_,rfl,⟨n * i,i + 1,rfl,by simp,by omega,by omega,hpos,by omega,fun _=>?_⟩,?_⟩
          · obtain ⟨e1,e2⟩:=hn3 (by omega)
            refine ⟨e1,?_⟩
            have:i + 1 - 1=(i - 1) + 1:=by omega
            rw [this,PX,e2,show i - 1 + 1=i from by omega,Nat.mul_assoc,Nat.mul_comm (fac (i - 1)) i]
          · show k + 2 - ((i:Int) + 1).toNat < k + 2 - ((i:Int)).toNat
            omega
        · right;left
          simp only []
          rw [if_pos hik,if_neg hn,Af,BO]
          exact ⟨_,rfl,n,rfl,hn1,hn2,fun h=>absurd h (by omega)⟩
      · right;left
        simp only []
        rw [if_neg hik,Af,BO]
        refine ⟨_,rfl,n,rfl,hn1,hn2,fun h=>?_⟩
        obtain ⟨e1,e2⟩:=hn3 h
        refine ⟨e1,?_⟩
        rw [e2]
        congr 1
        rcases hi with hi|hi
        · have:i=2:=by omega
          subst this
          have:k=0∨k=1:=by omega
          rcases this with rfl|rfl<;>rfl
        · congr 1
          omega) ((n0:Int),2) ⟨n0,2,rfl,rfl,by omega,by omega,h0,h1,fun h=>⟨h,by show n0=n0 * fac 1;show n0=n0 * 1;omega⟩⟩
  rcases hlw with ⟨s',q1,n,q2,q3,q4,q5⟩|⟨_,_,h⟩
  · exact ⟨n,q3,q4,q5,s',q2,q1⟩
  · exact h.elim
theorem Pf {vars:List Int} (hl:vars.length≤64) (hv:∀ k∈vars,0≤k∧k≤64):∃ q,Em vars 300=some q∧(q≤300→facL vars * fac vars.length≤300):=by
  unfold Em
  rw [BM (by simp;omega) (by simp;omega),Af,List.nil_append,BM (by simp;omega) (by simp;omega),Af]
  have hall:∀ k∈vars ++ [(vars.length:Int)],0≤k∧k≤64:=fun k hk=>by
    rcases List.mem_append.1 hk with hk|hk
    · exact hv k hk
    · simp at hk;omega
  have hfl:facL (vars ++ [(vars.length:Int)])=facL vars * fac vars.length:=by rw [GW];simp
  generalize vars ++ [(vars.length:Int)]=l at hall hfl
  obtain ⟨s',h1,n,h2,h3,h4,h5⟩:=En (ρ:=Int) (f:=fun (_:Nat) (a43:Int) (s40:Int)=>bnd (lop (ρ:=Ctl Int Int) (fun (s65:Int×Int)=>bnd (if s65.2≤a43 then (if s65.1≤300 then (some true) else (some false)) else (some false):Option Bool) fun y82=>if y82=true then (bnd (chkI (s65.1 * s65.2)) fun n93=>bnd (chkI (s65.2 + 1)) fun n96=>some (.next (n93,n96))) else (some (.brk (s65.1,s65.2)))) (s40,2)) fun res63=>fin res63 fun (s103:Int×Int)=>some (.next s103.1)) (xs:=l) (s₀:=1)
    (fun j s=>∃ n:Nat,s=(n:Int)∧1≤n∧n≤19200∧(n≤300→n=facL (l.take j))) ⟨1,rfl,by omega,by omega,fun _=>rfl⟩ (fun j k s hj ⟨n,e,h1,h2,h3⟩=>by
      subst e
      obtain ⟨k0,k1⟩:=hall k (List.mem_of_getElem? hj)
      obtain ⟨kk,rfl⟩:=Int.eq_ofNat_of_zero_le k0
      obtain ⟨n',p1,p2,p3,s',p4,p5⟩:=Pe (k:=kk) (n0:=n) (by omega) h1 h2 (ρ:=Ctl Int Int)
      rw [p5,Af,BF]
      refine ⟨_,rfl,n',p4,p1,p2,fun h=>?_⟩
      obtain ⟨e1,e2⟩:=p3 h
      rw [e2,h3 e1,Dq hj,GW]
      simp)
  subst h2
  rw [h1,Af,BF]
  refine ⟨_,rfl,fun h=>?_⟩
  rw [← hfl]
  have hn:n≤300:=by omega
  have:=h5 hn
  rw [List.take_length] at this
  omega
theorem Pg (k:Nat) (h1:1≤k) (h5:k≤5):2 * 3 ^ k≤9 * fac k:=by
  have:k=1∨k=2∨k=3∨k=4∨k=5:=by omega
  rcases this with rfl|rfl|rfl|rfl|rfl<;>decide
theorem JG {k:Nat} (h:fac k≤300):k≤5:=Classical.byContradiction fun hn=>by
  have:fac 6≤fac k:=PY (by omega)
  have h6:fac 6=720:=rfl
  omega
theorem MH:∀ {l:List Int} {k:Int},k∈l→fac k.toNat≤facL l
  | a :: l,k,h=>by
    rcases List.mem_cons.1 h with rfl|h
    · exact Nat.le_mul_of_pos_right _ (JF l)
    · exact Nat.le_trans (MH h) (Nat.le_mul_of_pos_left _ (Hr _))
theorem Lj {t:Tsk} (hok:TaskOk t) (h5:∀ k∈t.vars,k≤5):∀ j,j≤t.vars.length→2 ^ j * 3 ^ (allK t j).length≤9 ^ j * facL (t.vars.take j)
  | 0,_=>Nat.le_refl _
  | j + 1,hj=>by
    have ih:=Lj hok h5 j (by omega)
    have hs:=Dw hok (show j < t.vars.length by omega)
    have hp:=FG hok (show j < t.vars.length by omega)
    have hle:=h5 _ (List.mem_of_getElem? hs)
    have h3:=Pg (szT t j) hp.1 (by omega)
    rw [Im,List.length_append,List.length_map,List.length_range,Dq hs,GW,Int.toNat_natCast,Nat.pow_succ,Nat.pow_succ,Nat.pow_add]
    have:=Nat.mul_le_mul ih h3
    calc 2 ^ j * 2 * (3 ^ (allK t j).length * 3 ^ szT t j)=2 ^ j * 3 ^ (allK t j).length * (2 * 3 ^ szT t j):=by ac_rfl
      _≤9 ^ j * facL (t.vars.take j) * (9 * fac (szT t j)):=this
      _=9 ^ j * 9 * (facL (t.vars.take j) * fac (szT t j)):=by ac_rfl
theorem Ph {t:Tsk} (hok:TaskOk t) (h:facL t.vars * fac t.vars.length≤300):(∀ k∈t.vars,k≤5)∧t.vars.length≤5∧facL t.vars≤300∧(allP t).length≤7:=by
  have h1:facL t.vars≤300:=Nat.le_trans (Nat.le_mul_of_pos_right _ (Hr _)) h
  have h2:fac t.vars.length≤300:=Nat.le_trans (Nat.le_mul_of_pos_left _ (JF _)) h
  have h5:∀ k∈t.vars,k≤5:=fun k hk=>by
    have:=JG (Nat.le_trans (MH hk) h1)
    omega
  refine ⟨h5,JG h2,h1,Classical.byContradiction fun hn=>?_⟩
  have hp:=Lj hok h5 t.vars.length (Nat.le_refl _)
  rw [List.take_length] at hp
  have hm:=JG h2
  have h8:3 ^ 8≤3 ^ (allK t t.vars.length).length:=Nat.pow_le_pow_right (by omega) (by
    show 8≤(allP t).length
    omega)
  generalize t.vars.length=m at *
  generalize 3 ^ (allK t m).length=z at *
  have hz:6561≤z:=h8
  have hx:2 ^ m * z * fac m≤9 ^ m * 300:=Nat.le_trans (Nat.mul_le_mul_right _ hp) (by rw [Nat.mul_assoc];exact Nat.mul_le_mul_left _ h)
  have:m=0∨m=1∨m=2∨m=3∨m=4∨m=5:=by omega
  rcases this with rfl|rfl|rfl|rfl|rfl|rfl
  · have hx:1 * z * 1≤1 * 300:=hx;omega
  · have hx:2 * z * 1≤9 * 300:=hx;omega
  · have hx:4 * z * 2≤81 * 300:=hx;omega
  · have hx:8 * z * 6≤729 * 300:=hx;omega
  · have hx:16 * z * 24≤6561 * 300:=hx;omega
  · have hx:32 * z * 120≤59049 * 300:=hx;omega
theorem NW {n:Nat} (h:n≤8):stepsU n n≤1048576:=by
  have:n=0∨n=1∨n=2∨n=3∨n=4∨n=5∨n=6∨n=7∨n=8:=by omega
  rcases this with rfl|rfl|rfl|rfl|rfl|rfl|rfl|rfl|rfl<;>decide
end
section
open Go Go.RowKit
section
variable {t : Tsk}
theorem Lk {X:Swp} {tk:List Bool} {o:Opr} {j:Nat} {ρ:Type}:∀ (ps:List Opr) (k:Nat),rng (ρ:=ρ) (fun (k96:Nat) (a97:Opr) (s94:Int)=>bnd (if s94 < 0 then (bnd (tk[k96]?) fun a114=>if (!a114)=true then (bnd (CW X o a97) fun q158=>if q158=true then some true else some false) else (some false)) else (some false):Option Bool) fun y109=>if y109=true then (some (.next (k96:Int))) else (some (.next s94))) ps k (j:Int)=some (.done (j:Int))
  | [],k=>rfl
  | p :: ps,k=>by
    unfold rng
    rw [if_neg (by omega),Af,BO]
    exact Lk ps (k + 1)
theorem Ll {X:Swp} {tk:List Bool} {o:Opr} {ρ:Type} (hq:∀ p,CW X o p=some (bof (Mt X o p))):∀ (ps:List Opr) (k:Nat),tk.length=k + ps.length →
    rng (ρ:=ρ) (fun (k96:Nat) (a97:Opr) (s94:Int)=>bnd (if s94 < 0 then (bnd (tk[k96]?) fun a114=>if (!a114)=true then (bnd (CW X o a97) fun q158=>if q158=true then some true else some false) else (some false)) else (some false):Option Bool) fun y109=>if y109=true then (some (.next (k96:Int))) else (some (.next s94))) ps k (-1)=some (.done (match fstM X o ps (tk.drop k) k with|some j=>(j:Int)|none=>-1))
  | [],k,hl=>by
    have:tk.drop k=[]:=List.drop_of_length_le (by simp at hl;omega)
    rw [this]
    rfl
  | p :: ps,k,hl=>by
    have hk:k < tk.length:=by simp at hl;omega
    have ih:=Ll (ρ:=ρ) (tk:=tk) hq ps (k + 1) (by simp at hl;omega)
    rw [List.drop_eq_getElem_cons hk]
    unfold rng fstM
    rw [if_pos (by decide),List.getElem?_eq_getElem hk,Af,hq p]
    cases hb:tk[k] with
    | true=>exact ih
    | false =>
      by_cases hm:Mt X o p
      · rw [Be hm,if_pos (by decide),Af,Bq,Af,Bq,if_pos ⟨rfl,rfl⟩]
        exact Lk ps (k + 1)
      · rw [AQ hm]
        exact ih
theorem Lm (hok:TaskOk t) {v:List Int} {l:List (List Int)} {o0:List Int} (hp:FactsPerm t ⟨v,l,[]⟩):∃ r,Cu t ⟨v,l,o0⟩=some r∧match opsC t ⟨v,l,[]⟩ with|some os=>r=(⟨v,l,os⟩,bof (imL ⟨v,l,[]⟩ t.goal=t.goal))|none=>r.2=false:=by
  have hol:=hok.2.1
  unfold Cu
  rw [Fv (by omega) (by omega),Af]
  have key2 : ∀ (os:List Opr) (k:Nat) (tk:List Bool) (acc:List Int),tk.length=t.ops.length→acc.length + os.length≤t.ops.length→(∀ o∈os,OpOk t.vars o) →
      ∃ r,(bnd (rng (ρ:=Swp×Bool) (fun (k71:Nat) (a72:Opr) (s69:(List Bool)×(List Int))=>bnd (rng (ρ:=Ctl ((List Bool)×(List Int)) (Swp×Bool)) (fun (k96:Nat) (a97:Opr) (s94:Int)=>bnd (if s94 < 0 then (bnd (s69.1[k96]?) fun a114=>if (!a114)=true then (bnd (CW (⟨v,l,s69.2⟩:Swp) a72 a97) fun q158=>if q158=true then some true else some false) else (some false)) else (some false):Option Bool) fun y109=>if y109=true then (some (.next (k96:Int))) else (some (.next s94))) t.ops 0 (-1)) fun res92=>fin res92 fun (s174:Int)=>if s174 < 0 then (some (.ret ((⟨v,l,s69.2⟩:Swp),false))) else (bnd (atI s69.1 s174) fun a181=>bnd (appI 8 s69.2 [s174]) fun u194=>some (.next ((s69.1.set (s174:Int).toNat true),u194)))) os k (tk,acc)) fun res67=>fin res67 fun (s212:(List Bool)×(List Int))=>bnd (bnd (CI (⟨v,l,s212.2⟩:Swp) t.goal) fun q218=>bnd (DJ q218 t.goal) fun q227=>if q227=true then some true else some false:Option Bool) fun y214=>some ((⟨v,l,s212.2⟩:Swp),y214))=some r ∧
        match opsL ⟨v,l,[]⟩ t.ops os tk acc with|some os=>r=(⟨v,l,os⟩,bof (imL ⟨v,l,[]⟩ t.goal=t.goal))|none=>r.2=false:=by
    intro os
    induction os with
    | nil =>
      intro k tk acc _ _ _
      have h1:CI (⟨v,l,acc⟩:Swp) t.goal=some (imL ⟨v,l,[]⟩ t.goal):=GZ (x:=⟨v,l,acc⟩) hok hp hok.2.2.2.2.1
      unfold rng
      rw [Af,BF,h1,Af,HF,Af]
      refine ⟨(⟨v,l,acc⟩,bof (imL ⟨v,l,[]⟩ t.goal=t.goal)),?_,rfl⟩
      cases bof (imL ⟨v,l,[]⟩ t.goal=t.goal)<;>rfl
    | cons o os ih =>
      intro k tk acc htk hacc hos
      have ho:=hos o List.mem_cons_self
      have hloop:=Ll (ρ:=Ctl ((List Bool)×(List Int)) (Swp×Bool)) (X:=⟨v,l,acc⟩) (o:=o) (tk:=tk) (fun p=>QR (x:=⟨v,l,acc⟩) hok hp ho) t.ops 0 (by omega)
      rw [List.drop_zero] at hloop
      have hfe:∀ (ps:List Opr) (bs:List Bool) (k:Nat),fstM ⟨v,l,acc⟩ o ps bs k=fstM ⟨v,l,[]⟩ o ps bs k:=fun ps=>by
        induction ps with
        | nil=>intro bs k;simp [fstM]
        | cons p ps ihp =>
          intro bs k
          cases bs with
          | nil=>simp [fstM]
          | cons b bs =>
            unfold fstM
            rw [ihp bs (k + 1)]
            rfl
      rw [hfe] at hloop
      unfold rng opsL
      rw [hloop,Af,BF]
      cases hj:fstM ⟨v,l,[]⟩ o t.ops tk 0 with
      | none =>
        simp only []
        rw [if_pos (by decide),Af]
        exact ⟨_,rfl,rfl⟩
      | some j =>
        simp only []
        have hjl:=KA t.ops tk 0 j hj
        have hat:atI tk (j:Int)=some tk[j]:=by rw [BA,List.getElem?_eq_getElem (by omega)]
        rw [if_neg (by omega),hat,Af,BM (by simp at hacc ⊢;omega) (by simp at hacc ⊢;omega),Af]
        have e1:((j:Nat):Int).toNat=j:=by omega
        simp only [e1]
        exact ih (k + 1) (tk.set j true) (acc ++ [(j:Int)]) (by simpa using htk) (by simp at hacc ⊢;omega) (fun q hq=>hos q (List.mem_cons_of_mem _ hq))
  exact key2 t.ops 0 (List.replicate t.ops.length false) [] (by simp) (by simp) (fun o ho=>by
    obtain ⟨i,hi⟩:=List.getElem?_of_mem ho
    exact hok.2.2.2.2.2 i o hi)
noncomputable def optX (t:Tsk) (p:List Int) (l:List (List Int)):Option Swp:=match opsC t ⟨p,l,[]⟩ with
  | some os=>if bof (imL ⟨p,l,[]⟩ t.goal=t.goal)=true then some ⟨p,l,os⟩ else none
  | none=>none
theorem NX (hok:TaskOk t) {v:List Int} {l:List (List Int)} {o0:List Int} (hp:FactsPerm t ⟨v,l,[]⟩):∃ r,Cu t ⟨v,l,o0⟩=some r∧(match optX t v l with|some x=>r=(x,true)|none=>r.2=false):=by
  obtain ⟨r,h1,h2⟩:=Lm hok (o0:=o0) hp
  refine ⟨r,h1,?_⟩
  unfold optX
  cases ho:opsC t ⟨v,l,[]⟩ with
  | none=>rw [ho] at h2;exact h2
  | some os =>
    rw [ho] at h2
    simp only at h2 ⊢
    cases hb:bof (imL ⟨v,l,[]⟩ t.goal=t.goal) with
    | true=>rw [hb] at h2;simpa using h2
    | false=>rw [hb] at h2;simp [h2]
theorem Ln (hok:TaskOk t) {w:Swp} (hp:FactsPerm t w):leafC t (zsOf t w (allP t).length)=optX t w.vars w.vals:=by
  unfold leafC optX
  rw [Kg hok hp]
  cases opsC t { vars:=w.vars,vals:=w.vals,ops:=[] }<;>rfl
theorem MI (hok:TaskOk t) {p:List Int} {l:List (List Int)} (hp:FactsPerm t ⟨p,l,[]⟩) {x:Swp} (h:optX t p l=some x):SymP t x∧x.vars=p∧x.vals=l:=by
  have hl:=Ln hok hp
  simp only at hl
  rw [← hl] at h
  obtain ⟨h1,_,_⟩:=IW hok (Qw hok hp (Nat.le_refl _)) (JB (Nat.le_refl _)) h
  rw [hl] at h
  unfold optX at h
  split at h
  · split at h
    · injection h with h
      subst h
      exact ⟨h1,rfl,rfl⟩
    · cases h
  · cases h
theorem Pi (hok:TaskOk t) {w:Swp} (h:SymF t w):∃ x,optX t w.vars w.vals=some x:=by
  have:=Kh hok h
  rw [Ln hok h.perm] at this
  cases ho:optX t w.vars w.vals with
  | none=>exact absurd ho this
  | some x=>exact ⟨x,rfl⟩
def SizP (t:Tsk) (p:List Int):Prop:=∀ (j:Nat) (a:Int),p[j]?=some a→atI t.vars a=t.vars[j]?
theorem HW {p:List Int} {l:List (List Int)} (h1:PermR p t.vars.length) (h2:SizP t p) (h3:l∈valuesL t.vars) (hok:TaskOk t):FactsPerm t ⟨p,l,[]⟩:=by
  obtain ⟨h4,h5⟩:=Fz.1 h3
  refine ⟨h1,h4,fun k hk=>?_⟩
  obtain ⟨a,ha⟩:=AR (l:=p) (k:=k) (by rw [h1.len];exact hk)
  obtain ⟨q,hq⟩:=AR (l:=l) (k:=k) (by omega)
  have hs:=Dw hok hk
  refine ⟨szT t k,a,q,hs,ha,hq,by rw [h2 k a ha,hs],?_⟩
  have:=h5 k _ q hs hq
  simpa using this
theorem Lq (hok:TaskOk t) {w:Swp} (h:FactsPerm t w):w.vars∈permsL t.vars.length∧SizP t w.vars∧w.vals∈valuesL t.vars:=by
  refine ⟨Dr.2 h.1,fun j a hj=>?_,Fz.2 ⟨h.2.1,fun i k q hi hq=>?_⟩⟩
  · obtain ⟨n,a',q,q1,q2,q3,q4,q5⟩:=h.2.2 j (by have:=Aw hj;rw [h.1.len] at this;exact this)
    rw [hj] at q2
    injection q2 with q2
    subst q2
    rw [q4,q1]
  · obtain ⟨n,a',q',q1,q2,q3,q4,q5⟩:=h.2.2 i (Aw hi)
    rw [hi] at q1
    injection q1 with q1
    rw [hq] at q3
    injection q3 with q3
    subst q1 q3
    simpa using q5
noncomputable def allX (t:Tsk):List Swp:=(permsL t.vars.length).flatMap fun p=>if bof (SizP t p)=true then (valuesL t.vars).filterMap (optX t p) else []
theorem PZ (hok:TaskOk t) {x:Swp} (h:x∈allX t):SymP t x:=by
  unfold allX at h
  obtain ⟨p,hp,h⟩:=List.mem_flatMap.1 h
  split at h
  · rename_i hs
    obtain ⟨l,hl,h⟩:=List.mem_filterMap.1 h
    exact (MI hok (HW (Dr.1 hp) (FH hs) hl hok) h).1
  · simp at h
theorem Pj (hok:TaskOk t) {w:Swp} (h:SymF t w):∃ x∈allX t,x.vars=w.vars∧x.vals=w.vals:=by
  obtain ⟨h1,h2,h3⟩:=Lq hok h.perm
  obtain ⟨x,hx⟩:=Pi hok h
  refine ⟨x,List.mem_flatMap.2 ⟨w.vars,h1,?_⟩,?_⟩
  · rw [if_pos (Be h2)]
    exact List.mem_filterMap.2 ⟨w.vals,h3,hx⟩
  · exact (MI hok (p:=w.vars) (l:=w.vals) h.perm hx).2
def fv (x:Swp):List Int×List (List Int):=(x.vars,x.vals)
theorem IQ {p:List Int} {l:List (List Int)} {x:Swp} (h:optX t p l=some x):fv x=(p,l):=by
  unfold optX at h
  split at h
  · split at h
    · injection h with h
      subst h
      rfl
    · cases h
  · cases h
theorem NY:((allX t).map fv).Nodup:=by
  unfold allX
  rw [List.map_flatMap]
  refine Fx (Hb _) (fun p _=>?_) fun p _ q _ hne x hx hx'=>?_
  · split
    · rw [List.nodup_iff_pairwise_ne,List.pairwise_map,List.pairwise_filterMap]
      refine (List.nodup_iff_pairwise_ne.1 (Iv t.vars)).imp fun hne b hb c hc e=>?_
      rw [IQ hb,IQ hc] at e
      injection e with _ e
      exact hne e
    · simp
  · obtain ⟨y,hy,rfl⟩:=List.mem_map.1 hx
    obtain ⟨z,hz,e⟩:=List.mem_map.1 hx'
    split at hy
    · split at hz
      · obtain ⟨_,_,hy⟩:=List.mem_filterMap.1 hy
        obtain ⟨_,_,hz⟩:=List.mem_filterMap.1 hz
        rw [IQ hy,IQ hz] at e
        injection e with e _
        exact hne e.symm
      · simp at hz
    · simp at hy
theorem KD {α β:Type} {f:α→List β} {c:Nat}:∀ {l:List α},(∀ a∈l,(f a).length≤c)→(l.flatMap f).length≤l.length * c
  | [],_=>by simp
  | a :: l,h=>by
    have h1:=h a List.mem_cons_self
    have h2:=KD fun b hb=>h b (List.mem_cons_of_mem _ hb)
    rw [List.flatMap_cons,List.length_append,List.length_cons,Nat.succ_mul]
    omega
theorem Qa {ρ:Type} (hok:TaskOk t) {p:List Int} (hp:PermR p t.vars.length):rng (ρ:=ρ) (fun (k73:Nat) (a74:Int) (s71:Bool)=>if s71=true then (bnd (atI t.vars a74) fun a93=>bnd (t.vars[k73]?) fun a105=>if a93=a105 then (some (.next true)) else (some (.next false))) else (some (.next false))) p 0 true=some (.done (bof (SizP t p))):=by
  have h:=CQ (ρ:=ρ) (f:=fun (k73:Nat) (a74:Int) (s71:Bool)=>if s71=true then (bnd (atI t.vars a74) fun a93=>bnd (t.vars[k73]?) fun a105=>if a93=a105 then (some (.next true)) else (some (.next false))) else (some (.next false))) (xs:=p) (s₀:=true) (fun k=>bof (∀ (j:Nat) (a:Int),j < k→p[j]?=some a→atI t.vars a=t.vars[j]?)) (Be fun j a hj=>absurd hj (by omega)).symm (fun k a hk=>by
    have hkl:=Aw hk
    rw [hp.len] at hkl
    obtain ⟨h1,h2⟩:=hp.mem (List.mem_of_getElem? hk)
    obtain ⟨n,rfl⟩:=Int.eq_ofNat_of_zero_le h1
    have e1:=Dw hok (v:=n) (by omega)
    have e2:=Dw hok hkl
    by_cases hI:∀ (j:Nat) (a:Int),j < k→p[j]?=some a→atI t.vars a=t.vars[j]?
    · rw [Be hI,Bq,BA,e1,Af,e2,Af]
      by_cases he:(szT t n:Int)=(szT t k:Int)
      · rw [if_pos he,Be]
        intro j a hj ha
        by_cases hjk:j=k
        · subst hjk
          rw [hk] at ha
          injection ha with ha
          rw [← ha,BA,e1,e2,he]
        · exact hI j a (by omega) ha
      · rw [if_neg he,AQ]
        intro h
        have:=h k _ (by omega) hk
        rw [BA,e1,e2] at this
        injection this with this
        exact he this
    · rw [AQ hI,BO,AQ fun h=>hI fun j a hj ha=>h j a (by omega) ha])
  rw [h]
  congr 2
  exact FS ⟨fun h j a ha=>h j a (Aw ha) ha,fun h j a _ ha=>h j a ha⟩
theorem RI (hok:TaskOk t) (h5:∀ k∈t.vars,k≤5) (hm:t.vars.length≤5) (hf:facL t.vars * fac t.vars.length≤300) (hf2:facL t.vars≤300):Fe t=some (allX t):=by
  unfold Fe
  rw [MF (by omega),Af]
  have hva:ES t.vars=some (valuesL t.vars):=Pd (fun k hk=>by
    obtain ⟨i,hi⟩:=List.getElem?_of_mem hk
    have:=hok.2.2.1 i k hi
    have:=h5 k hk
    omega) (by omega) (by omega)
  have hvl:=Gn t.vars
  have hpl:=EO t.vars.length
  rw [CQ (s₀:=([]:List Swp)) (fun k=>((permsL t.vars.length).take k).flatMap fun p=>if bof (SizP t p)=true then (valuesL t.vars).filterMap (optX t p) else []) (by simp) (fun k p hk=>?_),Af,BF,List.take_length]
  · rfl
  · have hp:PermR p t.vars.length:=Dr.1 (List.mem_of_getElem? hk)
    have hk2:=Aw hk
    have hlen:(((permsL t.vars.length).take k).flatMap fun p=>if bof (SizP t p)=true then (valuesL t.vars).filterMap (optX t p) else []).length≤k * facL t.vars:=by
      refine Nat.le_trans (KD (c:=facL t.vars) fun q _=>?_) (Nat.mul_le_mul_right _ (by rw [List.length_take];omega))
      split
      · exact Nat.le_trans (List.length_filterMap_le _ _) (by omega)
      · simp
    have htot:k * facL t.vars + facL t.vars≤300:=by
      have h1:(k + 1) * facL t.vars≤fac t.vars.length * facL t.vars:=Nat.mul_le_mul_right _ (by omega)
      rw [Nat.succ_mul] at h1
      rw [Nat.mul_comm] at hf
      omega
    rw [Qa hok hp,Af,BF,Dq hk,List.flatMap_append]
    generalize hacc:(((permsL t.vars.length).take k).flatMap fun p=>if bof (SizP t p)=true then (valuesL t.vars).filterMap (optX t p) else [])=acc at hlen
    cases hs:bof (SizP t p) with
    | false=>simp [hs]
    | true =>
      rw [if_neg (by simp),hva,Af]
      rw [CQ (fun i=>acc ++ ((valuesL t.vars).take i).filterMap (optX t p)) (by simp) (fun i l hi=>?_),Af,BF,List.take_length]
      · simp [hs]
      · have hil:=Aw hi
        have hpm:FactsPerm t ⟨p,l,[]⟩:=HW hp (FH hs) (List.mem_of_getElem? hi) hok
        obtain ⟨r,h1,h2⟩:=NX hok (o0:=[]) hpm
        rw [h1,Af,Dq hi,List.filterMap_append]
        have hfl:=List.length_filterMap_le (optX t p) ((valuesL t.vars).take i)
        rw [List.length_take] at hfl
        cases ho:optX t p l with
        | none =>
          rw [ho] at h2
          simp only at h2
          rw [h2,if_neg (by simp)]
          simp [ho]
        | some x =>
          rw [ho] at h2
          simp only at h2
          rw [h2,Bq,BM (by simp only [List.length_append,List.length_singleton];omega) (by simp only [List.length_append,List.length_singleton];omega),Af]
          simp [ho]
end
end
section
open Go Go.RowKit
theorem Qb {t:Tsk} (hok:TaskOk t) (ho:t.ops.length < 20) (hst:stepsU (allP t).length (allP t).length≤1048576):∃ gens,GI t 0 gens∧Dis t gens∧Gens t 0 gens∧gens.length≤(allP t).length * (allP t).length ∧
    CH t 1048576=some (gens,⟨0⟩)∧∀ steps,CH t steps=some ([],⟨10⟩)∨CH t steps=some (gens,⟨0⟩):=by
  obtain ⟨sg,h1,h2⟩:=newF hok ho
  have hfe:=fun (steps:Int) (M:Nat) (hM:max 0 (min steps 1048576)=(M:Int))=>QV hok (PK hok sg) (NT hok) (PM hok) hM (h2 (M:Int))
  have hfl:=Kd (t:=t) (sg:=sg) (leaf:=leafC t) (M:=1048576) (allP t).length [] 0 (Nat.le_refl _) (by omega)
  obtain ⟨g1,g2,g3,g4⟩:=Nm (M:=1048576) hok h1 (allP t).length [] 0 (Nat.le_refl _) (fun a ha=>by simp at ha) ⟨fun a ha=>by simp at ha,List.Pairwise.nil⟩ (fun w _ hfx=>⟨id,.one,fun p hp=>hfx p (by rw [List.take_length];exact BJ.2 hp)⟩) hfl
  refine ⟨_,g1,g2,g3,by simpa using g4,?_,fun steps=>?_⟩
  · rw [hfe 1048576 1048576 (by decide),hfl];rfl
  · obtain ⟨M,hM⟩:=Int.eq_ofNat_of_zero_le (show 0≤max 0 (min steps 1048576) by omega)
    rw [hfe steps M hM]
    rcases Mq (t:=t) (sg:=sg) (leaf:=leafC t) (show M≤1048576 by omega) (allP t).length [] 0 with ⟨e1,e2⟩|e
    · left;rw [e1,e2];rfl
    · right;rw [e,hfl];rfl
end
section
open Go Go.RowKit
theorem MR {t:Tsk} (hok:TaskOk t):Dc t=some (idX t,⟨0⟩):=by
  unfold Dc
  have h1:=hok.1
  have h2:=hok.2.1
  rw [demand0 hok,Af,if_neg (by simp),KC (by omega),Af,KC (by omega),Af,Af,CQ (fun k=>(t.vars.take k).map fun n=>rangeI n.toNat) (by simp) (fun k n hk=>by
    have hn:=hok.2.2.1 k n hk
    have:=Aw hk
    obtain ⟨m,rfl⟩:=Int.eq_ofNat_of_zero_le (by omega:0≤n)
    rw [KC (by omega),Af,BM (by simp;omega) (by simp;omega),Af,map_take hk]
    simp),Af,BF,List.take_length]
  rfl
theorem NZ {t:Tsk} {x y:Swp} (hok:TaskOk t) (hx:SymP t x) (hy:SymP t y):Cz t x y=some (compX x y,⟨0⟩):=by
  unfold Cz
  have h1:=hok.1
  have h2:=hok.2.1
  rw [demand2 hok,Af,Be ⟨hx,hy⟩,Bq,if_neg (by simp),Jy hx.1.1 hy.1.1.len (by omega),Af,Jy hx.2.1 hy.2.1.len (by omega),Af,Af,CQ (fun k=>(compX x y).vals.take k) (by simp) (fun k l hk=>by
    have hlt:=Aw hk
    rw [hx.1.2.1] at hlt
    obtain ⟨n,a,l',q1,q2,q3,q4,q5⟩:=hx.1.2.2 k hlt
    obtain rfl:l=l':=by rw [hk] at q3;exact Option.some.inj q3
    obtain ⟨ha1,ha2⟩:=hx.1.1.mem (List.mem_of_getElem? q2)
    obtain ⟨a,rfl⟩:=Int.eq_ofNat_of_zero_le ha1
    obtain ⟨n',b,m,p1,p2,p3,p4,p5⟩:=hy.1.2.2 a (by omega)
    rw [BA] at q4
    have e:n=n':=by rw [q4] at p1;have:=Option.some.inj p1;omega
    subst e
    have hn:=hok.2.2.1 k n q1
    rw [q2,Af,BA,p3,Af,Jy q5 p5.len (by omega),Af,BM (by simp;omega) (by simp;omega),Af,List.take_add_one,Ir q2 q3 p3]
    rfl),Af,BF]
  have:x.vals.length=(compX x y).vals.length:=by simp [compX]
  rw [this,List.take_length]
  rfl
end
section
open Go Go.RowKit
theorem No (a b:Swp):El a b=some (bof (a.vars=b.vars∧a.ops=b.ops∧a.vals=b.vals)):=by
  unfold El DE
  by_cases h1:a.vars=b.vars
  case neg=>rw [AQ h1,Af,BO,Af,Bq,AQ fun h=>h1 h.1]
  rw [Be h1,Af,Bq]
  by_cases h2:a.ops=b.ops
  case neg=>rw [AQ h2,Af,BO,Af,Bq,AQ fun h=>h2 h.2.1]
  rw [Be h2,Af,Bq]
  by_cases h3:(a.vals.length:Int)=(b.vals.length:Int)
  case neg=>rw [if_pos h3,Af,Bq,AQ fun h=>h3 (by rw [h.2.2])]
  rw [if_neg (by simpa using h3),Af,BO,Gq (P:=fun k=>a.vals[k]?=b.vals[k]?) fun k x hk=>by
    obtain ⟨y,hy⟩:=AR (l:=b.vals) (k:=k) (by have:=Aw hk;omega)
    rw [hy,Af,Af]
    have:(x=y)↔(a.vals[k]?=some y):=by
      rw [hk]
      exact ⟨fun h=>by rw [h],fun h=>by injection h⟩
    rw [FS this]]
  congr 1
  refine FS ⟨fun h=>⟨h1,h2,List.ext_getElem? fun k=>?_⟩,fun h k _=>by rw [h.2.2]⟩
  by_cases hk:k < a.vals.length
  · exact h k hk
  · rw [List.getElem?_eq_none (by omega),List.getElem?_eq_none (by omega)]
theorem IY (a b:Swp):CA a b=some (bof (fv a=fv b)):=by
  unfold CA
  rw [No,Af]
  have:(a.vars=b.vars∧([]:List Int)=[]∧a.vals=b.vals)↔fv a=fv b:=by
    unfold fv
    constructor
    · rintro ⟨h1,_,h2⟩;rw [h1,h2]
    · intro h
      injection h with h1 h2
      exact ⟨h1,rfl,h2⟩
  show bnd (if bof (a.vars=b.vars∧([]:List Int)=[]∧a.vals=b.vals)=true then some true else some false) _=_
  rw [FS this]
  cases bof (fv a=fv b)<;>rfl
section
variable {t : Tsk}
theorem Qx {x y:Swp} (h:fv x=fv y) (p:Pn):imP x p=imP y p:=by
  unfold fv at h
  injection h with h1 h2
  unfold imP imF
  rw [h1,h2]
theorem RZ (hok:TaskOk t) {x y:Swp} (hx:FactsPerm t x) (hy:FactsPerm t y) (h:∀ p,InP t p→imP x p=imP y p):fv x=fv y:=by
  have e:zsOf t x (allP t).length=zsOf t y (allP t).length:=List.map_congr_left fun p hp=>by rw [h p (Gs hp)]
  have h1:=Kg hok hx
  rw [e,Kg hok hy] at h1
  injection h1 with h1 h2
  unfold fv
  rw [h1,h2]
structure Grp (t:Tsk) (gens:List Swp) (G:List Swp) (i:Nat):Prop where
  sym:∀ z∈G,SymP t z
  dis:(G.map fv).Nodup
  idm:idX t∈G
  cls:∀ (j:Nat) (x a:Swp),j < i→G[j]?=some x→a∈gens→∃ z∈G,fv z=fv (compX x a)
theorem Ri (hok:TaskOk t) {G:List Swp} (h:∀ z∈G,SymP t z):∀ q∈G.map fv,q∈(allX t).map fv:=fun q hq=>by
  obtain ⟨z,hz,rfl⟩:=List.mem_map.1 hq
  obtain ⟨x,hx,e1,e2⟩:=Pj hok (h z hz).f
  exact List.mem_map.2 ⟨x,hx,by unfold fv;rw [e1,e2]⟩
theorem KE (hok:TaskOk t) {G:List Swp} (h:∀ z∈G,SymP t z) (hd:(G.map fv).Nodup):G.length≤(allX t).length:=by
  have:=Ew hd (Ri hok h)
  simpa using this
theorem Oa {ρ:Type} (y:Swp) (G:List Swp):rng (ρ:=ρ) (fun (_:Nat) (a437:Swp) (s434:Bool)=>if s434=true then (some (.next true)) else (bnd (CA y a437) fun q474=>if q474=true then some (.next true) else some (.next false))) G 0 false=some (.done (bof (∃ z∈G,fv y=fv z))):=by
  have h:=CQ (ρ:=ρ) (f:=fun (_:Nat) (a437:Swp) (s434:Bool)=>if s434=true then (some (.next true)) else (bnd (CA y a437) fun q474=>if q474=true then some (.next true) else some (.next false))) (xs:=G) (s₀:=false) (fun k=>bof (∃ z∈G.take k,fv y=fv z)) (AQ (by simp)).symm (fun k x hk=>by
    by_cases hI:∃ z∈G.take k,fv y=fv z
    · rw [Be hI,Bq,Be]
      obtain ⟨z,hz,e⟩:=hI
      exact ⟨z,(CZ hk).2 (.inl hz),e⟩
    · rw [AQ hI,BO,IY,Af]
      by_cases he:fv y=fv x
      · rw [Be he,Bq,Be ⟨x,(CZ hk).2 (.inr rfl),he⟩]
      · rw [AQ he,BO,AQ]
        rintro ⟨z,hz,e⟩
        rcases (CZ hk).1 hz with hz|rfl
        · exact hI ⟨z,hz,e⟩
        · exact he e)
  rw [h,List.take_length]
theorem Qc (hok:TaskOk t) {gens:List Swp} (hg:∀ a∈gens,SymP t a) (hall:(allX t).length≤300) {G:List Swp} {i:Nat} (h:Grp t gens G i) {x:Swp} (hx:G[i]?=some x) :
    ∃ G',rng (ρ:=Ctl ((List Swp)×Int) Bool) (fun (_:Nat) (a291:Swp) (s288:(List Swp))=>bnd (atI s288 (i:Int)) fun a331=>bnd (Cz t a331 a291) fun q333=>bnd (some (q333.1.vars,q333.1.vals,q333.1.ops):Option ((List Int)×(List (List Int))×(List Int))) fun y335=>if q333.2.n≠0 then (some (.ret (.ret false))) else (bnd (rng (ρ:=Ctl (List Swp) (Ctl ((List Swp)×Int) Bool)) (fun (_:Nat) (a437:Swp) (s434:Bool)=>if s434=true then (some (.next true)) else (bnd (CA (⟨y335.1,y335.2.1,y335.2.2⟩:Swp) a437) fun q474=>if q474=true then some (.next true) else some (.next false))) s288 0 false) fun res432=>fin res432 fun (s485:Bool)=>if (!s485)=true then (bnd (appI 72 s288 [(⟨y335.1,y335.2.1,y335.2.2⟩:Swp)]) fun u488=>some (.next u488)) else (some (.next s288)))) gens 0 G=some (.done G')∧Grp t gens G' (i + 1)∧G.length≤G'.length:=by
  have hxs:=h.sym x (List.mem_of_getElem? hx)
  obtain ⟨G',h1,⟨H,e,h3,h4⟩,h5⟩:=En (ρ:=Ctl ((List Swp)×Int) Bool) (f:=fun (_:Nat) (a291:Swp) (s288:(List Swp))=>bnd (atI s288 (i:Int)) fun a331=>bnd (Cz t a331 a291) fun q333=>bnd (some (q333.1.vars,q333.1.vals,q333.1.ops):Option ((List Int)×(List (List Int))×(List Int))) fun y335=>if q333.2.n≠0 then (some (.ret (.ret false))) else (bnd (rng (ρ:=Ctl (List Swp) (Ctl ((List Swp)×Int) Bool)) (fun (_:Nat) (a437:Swp) (s434:Bool)=>if s434=true then (some (.next true)) else (bnd (CA (⟨y335.1,y335.2.1,y335.2.2⟩:Swp) a437) fun q474=>if q474=true then some (.next true) else some (.next false))) s288 0 false) fun res432=>fin res432 fun (s485:Bool)=>if (!s485)=true then (bnd (appI 72 s288 [(⟨y335.1,y335.2.1,y335.2.2⟩:Swp)]) fun u488=>some (.next u488)) else (some (.next s288)))) (xs:=gens) (s₀:=G)
    (fun k s=>(∃ H,s=G ++ H∧(∀ z∈s,SymP t z)∧(s.map fv).Nodup)∧∀ (j:Nat) (a:Swp),j < k→gens[j]?=some a→∃ z∈s,fv z=fv (compX x a)) ⟨⟨[],by simp,h.sym,h.dis⟩,fun j a hj=>absurd hj (by omega)⟩ (fun k a s hk ⟨⟨H,e,hs1,hs2⟩,hs3⟩=>by
      have ha:=hg a (List.mem_of_getElem? hk)
      have hat:atI s (i:Int)=some x:=by rw [BA,e,List.getElem?_append_left (Aw hx),hx]
      have hys:=JA hok hxs ha
      rw [hat,Af,NZ hok hxs ha,Af,Af,if_neg (by simp)]
      rw [Oa,Af,BF]
      have hlen:=KE hok hs1 hs2
      have heta:(⟨(compX x a).vars,(compX x a).vals,(compX x a).ops⟩:Swp)=compX x a:=rfl
      simp only [heta]
      by_cases hf:∃ z∈s,fv (compX x a)=fv z
      · rw [Be hf,if_neg (by simp)]
        refine ⟨_,rfl,⟨H,e,hs1,hs2⟩,fun j b hj hb=>?_⟩
        by_cases hjk:j=k
        · subst hjk
          rw [hk] at hb
          injection hb with hb
          subst hb
          obtain ⟨z,hz,e⟩:=hf
          exact ⟨z,hz,e.symm⟩
        · exact hs3 j b (by omega) hb
      · rw [AQ hf,if_pos (by simp),BM (by simp only [List.length_singleton];omega) (by simp only [List.length_singleton];omega),Af]
        refine ⟨_,rfl,⟨H ++ [compX x a],by rw [e,List.append_assoc],fun z hz=>?_,?_⟩,fun j b hj hb=>?_⟩
        · rcases List.mem_append.1 hz with hz|hz
          · exact hs1 z hz
          · simp at hz;subst hz;exact hys
        · rw [List.map_append,List.nodup_append]
          refine ⟨hs2,by simp,fun u hu v hv e=>hf ?_⟩
          obtain ⟨z,hz,rfl⟩:=List.mem_map.1 hu
          simp at hv
          exact ⟨z,hz,by rw [e,hv]⟩
        · by_cases hjk:j=k
          · subst hjk
            rw [hk] at hb
            injection hb with hb
            subst hb
            exact ⟨_,List.mem_append.2 (.inr (by simp)),rfl⟩
          · obtain ⟨z,hz,e⟩:=hs3 j b (by omega) hb
            exact ⟨z,List.mem_append.2 (.inl hz),e⟩)
  subst e
  refine ⟨_,h1,⟨h3,h4,List.mem_append.2 (.inl h.idm),fun j y a hj hy ha=>?_⟩,by simp⟩
  by_cases hji:j=i
  · subst hji
    rw [List.getElem?_append_left (Aw hx),hx] at hy
    injection hy with hy
    subst hy
    obtain ⟨k,hk⟩:=List.getElem?_of_mem ha
    exact h5 k a (Aw hk) hk
  · rw [List.getElem?_append_left (by have:=Aw hx;omega)] at hy
    obtain ⟨z,hz,e⟩:=h.cls j y a (by omega) hy ha
    exact ⟨z,List.mem_append.2 (.inl hz),e⟩
theorem Rj (hok:TaskOk t) {gens G:List Swp} (hg:∀ a∈gens,SymP t a) (hG:Gens t 0 gens) (h:Grp t gens G G.length):G.length=(allX t).length:=by
  have hw:∀ π,Wd gens π→∃ z∈G,∀ p,InP t p→imP z p=π p:=fun π hπ=>by
    induction hπ with
    | one=>exact ⟨idX t,h.idm,fun p hp=>My hok hp⟩
    | @step π a _ ha ih =>
      obtain ⟨z,hz,e⟩:=ih
      obtain ⟨j,hj⟩:=List.getElem?_of_mem hz
      obtain ⟨y,hy,ey⟩:=h.cls j z a (Aw hj) hj ha
      exact ⟨y,hy,fun p hp=>by rw [Qx ey p,JD hok (h.sym z hz).1 (hg a ha).1 hp,e p hp]⟩
  have h1:=KE hok h.sym h.dis
  have h2:=Ew (l₁:=(allX t).map fv) (l₂:=G.map fv) NY fun q hq=>by
    obtain ⟨x,hx,rfl⟩:=List.mem_map.1 hq
    have hxs:=PZ hok hx
    obtain ⟨π,p1,p2⟩:=hG x hxs.f (fun p hp=>by simp at hp)
    obtain ⟨z,hz,e⟩:=hw π p1
    exact List.mem_map.2 ⟨z,hz,RZ hok (h.sym z hz).1 hxs.1 fun p hp=>by rw [e p hp,p2 p hp]⟩
  rw [List.length_map,List.length_map] at h2
  omega
theorem Qd (hf:facL t.vars * fac t.vars.length≤300):(allX t).length≤300:=by
  unfold allX
  refine Nat.le_trans (KD (c:=facL t.vars) fun q _=>?_) (by rw [EO,Nat.mul_comm];exact hf)
  split
  · exact Nat.le_trans (List.length_filterMap_le _ _) (by rw [Gn];exact Nat.le_refl _)
  · simp
end
theorem Qe (t:Tsk):Dv t=some true:=by
  unfold Dv Gy
  by_cases hsm:SmallOk t
  case neg =>
    rw [AQ hsm,Af,BO,Af,Bq,awake51,Af,Bq]
    rfl
  rw [Be hsm,Af,Bq]
  have hok:=hsm.2.2.2.1
  have hv:=hok.1
  obtain ⟨q,hq,hqf⟩:=Pf (vars:=t.vars) hv fun k hk=>by
    obtain ⟨i,hi⟩:=List.getElem?_of_mem hk
    have:=hok.2.2.1 i k hi
    omega
  rw [hq,Af]
  by_cases hw:300 < q
  · rw [if_pos hw,Af,Bq,awake51,Af,Bq]
    rfl
  rw [if_neg hw]
  by_cases h6:6 < (t.ops.length:Int)
  · rw [if_pos h6,Af,Bq,awake51,Af,Bq]
    rfl
  rw [if_neg h6,awake51,Af,Bq,Af,BO]
  have hf:=hqf (by omega)
  obtain ⟨h5,hm5,hf2,h7⟩:=Ph hok hf
  obtain ⟨gens,g1,g2,g3,g4,g5,_⟩:=Qb hok (by omega) (NW (by omega))
  have hgl:gens.length≤49:=Nat.le_trans g4 (Nat.mul_le_mul h7 h7)
  have hgs:∀ a∈gens,SymP t a:=fun a ha=>(g1 a ha).1
  rw [g5,Af]
  simp only []
  rw [if_neg (by simp),if_neg (by omega),Af,BO,MR hok,Af]
  simp only []
  rw [if_neg (by simp)]
  rw [HD (fun k a hk=>by
    have ham:=List.mem_of_getElem? hk
    obtain ⟨ha1,ha2,_⟩:=g1 a ham
    have hne:¬ fv a=fv (idX t):=fun e=>by
      obtain ⟨p,hp,hpe⟩:=g2.1 a ham
      exact hpe (by rw [Qx e p,My hok hp])
    obtain ⟨r,r1,r2⟩:=Lm (v:=a.vars) (l:=a.vals) hok (o0:=a.ops) ha1.1
    rw [ha2] at r2
    simp only at r2
    have hgo:imL ⟨a.vars,a.vals,[]⟩ t.goal=t.goal:=ha1.2.2.1
    rw [Be hgo] at r2
    have r1:Cu t a=some r:=r1
    rw [Md,Be ⟨hok,ha1⟩,Af,Bq,IY,AQ hne,Af,BO,Af,BO,r1,Af,r2,if_neg (by simp)]
    have heta:(⟨a.vars,a.vals,a.ops⟩:Swp)=a:=rfl
    simp only [heta]
    rw [No,Be ⟨rfl,rfl,rfl⟩,Af,Bq,Af,BO]),Af,BF]
  have hall:=Qd hf
  refine Kz (I:=fun s=>∃ i:Nat,s.2=(i:Int)∧i≤s.1.length∧Grp t gens s.1 i) (B:=fun s=>Grp t gens s.1 s.1.length) (μ:=fun s=>301 - s.2.toNat) ⟨0,rfl,by simp,⟨fun z hz=>?_,by simp,by simp,fun j x a hj=>absurd hj (by omega)⟩⟩ ?_ ?_
  · simp at hz;subst hz;exact OT hok
  · rintro ⟨G,ii⟩ ⟨i,e,hi,hG⟩
    simp only at e hi hG ⊢
    subst e
    by_cases hlt:(i:Int) < (G.length:Int)
    · left
      obtain ⟨x,hx⟩:=AR (l:=G) (k:=i) (by omega)
      obtain ⟨G',p1,p2,p3⟩:=Qc hok hgs hall hG hx
      have hgl2:=KE hok hG.sym hG.dis
      rw [if_pos hlt,p1,Af,BF,CR (by unfold inI64;omega),Af]
      refine ⟨_,rfl,⟨i + 1,rfl,by show i + 1≤G'.length;omega,p2⟩,?_⟩
      show 301 - ((i:Int) + 1).toNat < 301 - ((i:Int)).toNat
      omega
    · right
      rw [if_neg hlt]
      have:i=G.length:=by omega
      subst this
      exact ⟨_,rfl,hG⟩
  · rintro s hs
    have hl:=Rj hok hgs g3 hs
    rw [BF,RI hok h5 hm5 hf hf2,Af,if_pos (by rw [hl])]
    rfl
end
section
open Go Go.RowKit Go.ChangeShapes Go.WideShapes Go.Deep
theorem lawSFinds {w:World} {v0:Value} {a0:Tsk} (h0:V w v0 a0) (hT:TabF w (All w)):Fn Tryz.prog 4 [v0] w fun v w'=>v=.bool true∧Ext w w' :=
  (Hi (fun _ h=>h) h0 hT (Qe a0)).mono fun _ _ h=>⟨h.2.bool,h.1⟩
set_option maxRecDepth 100000 in
theorem doorMet (os:Os) (args:Array Value):laidMetH Tryz.prog Rows.symmetryFindsRow.laid ((World.doorLaid Tryz.prog 4000 os).forCall (fun _ _=>0) ⟨#[],args,[]⟩).memory :=
  laidMetH_of_parts3 (fuel:=8) (laidMet_of_run' 8 (by kernel_rfl) (by kernel_rfl)) (by kernel_rfl) (by kernel_rfl)
set_option maxRecDepth 100000 in
theorem HN (os:Os) (started:os.Started) (H:Type) (enc:TypeId×Value→H) :
    ReturnsInHanded {} Tryz.checked os 4 .any (fun w args=>(Rows.symmetryFindsSpec.pre enc Tryz.prog Tryz.f4 Rows.symmetryFindsRow.domain false w args∧laidMetH Tryz.prog Rows.symmetryFindsRow.laid w)∧sizedMet enc Tryz.prog Tryz.f4 (OpenSpec.ofChange Rows.symmetryFindsSpec) false w args) (Rows.symmetryFindsSpec.post enc Tryz.prog Tryz.f4 false true false false):=by
  refine returnsInHanded_of_change_and (C:=Tryz.checked) (X:=fun w _=>laidMetH Tryz.prog Rows.symmetryFindsRow.laid w) (fun _ _ _ hh h=>h.of_heap hh) ownTry started (by kernel_rfl) Tryz.func4 (ChangeSpec.witness_shaped (enc:=enc) (C:=Tryz.checked) (os:=os) (X:=fun w _=>laidMetH Tryz.prog Rows.symmetryFindsRow.laid w) false (World.doorLaid Tryz.prog 4000 os) #[(.agg #[.slice none 0 0,.slice none 0 0,.slice none 0 0,.slice none 0 0])] 8 rfl (World.shaped_of_RefB (by kernel_rfl) (by kernel_rfl)) (by kernel_rfl) (by kernel_rfl) (by kernel_rfl) (doorMet os _)) ?_
  intro W base args ds gs before hval hW _ _ hlaid _
  have hopen:∀ p,DataW.TrodAll enc Tryz.prog W 0 (fun _=>true) true Tryz.f4.params.toList args.toList ds p→∃ v0 d0,args=#[v0]∧ds=[d0]∧(∃ a:Tsk,V W v0 a):=by
    intro p hA
    rw [Tryz.params4] at hA
    replace hval:∀ (j:Nat) t v,(#[30]:Array TypeId)[j]?=some t→args[j]?=some v→Value.okWide Tryz.prog W .any base t v:=by rw [← Tryz.params4];exact hval
    obtain ⟨v0,vs0,d0,ds0,p0,q0,g0,e0,_,h0,r0⟩:=trodAll_cons hA
    obtain ⟨g,e,_⟩:=trodAll_nil r0
    rw [g] at g0;rw [e] at e0
    obtain rfl:args=#[v0]:=by cases args;simp_all
    exact ⟨v0,d0,rfl,e0,(by first|exact openAgg rfl (hval 0 30 v0 rfl rfl) h0|exact openOne rfl (hval 0 30 v0 rfl rfl) h0)⟩
  refine lawPost rfl (by kernel_rfl) (by rw [Tryz.params4];exact of_decide_eq_true (by kernel_rfl)) hW ?_ ?_
  · intro p hA
    obtain ⟨v0,d0,_,rfl,_⟩:=hopen p hA
    rfl
  · intro p hA
    obtain ⟨v0,d0,rfl,_,⟨a0,h0⟩⟩:=hopen p hA
    exact lawSFinds h0 (QL (laid:=Rows.symmetryFindsRow.laid) rfl hlaid)
theorem Iw:Rows.SymmetryFindsSaid :=
  OpenClaim.holds_of_wide 4 Tryz.f4 rfl rfl rfl rfl rfl rfl rfl ⟨rfl,rfl,rfl,rfl,rfl⟩ rfl rfl rfl rfl rfl (by kernel_rfl) Tryz.func4 (by kernel_rfl)
    (of_decide_eq_true (by kernel_rfl)) (by unfold Func.isWrapper;first|(rw [if_pos (by decide +kernel)];kernel_rfl)|(rw [if_neg (by decide +kernel)];exact ⟨rfl,rfl⟩))
    (fun os started H enc _=>HN os started H enc)
theorem symmetryFinds_holds:Rows.SymmetryFindsCardSaid :=
  Claim7.holds_tied_plain_at .later [] [.data, .data, .data] true (true, "03a333c742d1981ef5aacd3994ddfe60e77a6392c9885136920c7b5b57ec2ebe") true
    Iw (fun _ h=>by cases h) (by kernel_rfl) (fun _ h=>by cases h) symmetryFinds_row_tie rfl ⟨rfl,rfl⟩ (by kernel_rfl) rfl
    (fun f fn hf hfn=>by
      obtain rfl : f = 4 := Option.some.inj ((show Tryz.prog.funcNamed "stratagem/stratagemlaw51.SymmetryFinds" = some 4 by kernel_rfl).symm.trans hf) |>.symm
      obtain rfl:fn=Tryz.f4:=(Option.some.inj (Tryz.func4.symm.trans hfn)).symm
      exact ⟨by kernel_rfl,fun j t ht=>by
        rw [Tryz.params4] at ht
        have hm:t∈[30]:=by simpa using Array.mem_of_getElem? ht
        have hall:([30].all fun u=>!Tryz.prog.wantsStandIn u)=true:=by kernel_rfl
        exact (show Tryz.prog.wantsStandIn t=false by simpa using List.all_eq_true.1 hall t hm)⟩)
    (by kernel_rfl)
#print axioms symmetryFinds_holds
end
end Go.Proofs.YtdhaelekmjgbmaaGreatDoor

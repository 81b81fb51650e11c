/- Own text: what the proof of exploreEdges_holds uses, part 3: rules, models and their proofs, plain laws. -/
import Derived.Test.YtkbmbcblgdgjlaaGreatEEB
set_option linter.unusedVariables false
set_option linter.unusedSimpArgs false
namespace Go.Proofs.YtkbmbcblgdgjlaaGreat
open Go Go.RowKit
section
open Go Go.RowKit
def wpAnyX (P:Program) (ops:Array Oper) (Q:Exit→Act→World→Prop) (S:Array Bool→World→Prop):Nat→Array Bool→Act→World→Prop
  | 0,listed,a,w=>Region.ready .any ops listed=[]∧Q .normal a w
  | fuel + 1,listed,a,w =>
    (Region.ready .any ops listed=[]→Q .normal a w) ∧
    ∀ i∈Region.ready .any ops listed,wpOp P ops Q i (fun a' w'=>(isLast ops i=false→S (listed.setIfInBounds i true) w')∧wpAnyX P ops Q S fuel (listed.setIfInBounds i true) a' w') a w
theorem JS {P:Program} {ops:Array Oper} {Q:Exit→Act→World→Prop} {S:Array Bool→World→Prop}:∀ (fuel:Nat) (listed:Array Bool) (a:Act) (w:World),wpAnyX P ops Q S fuel listed a w→wpAny P .any ops Q fuel listed a w
  | 0,_,_,_,h=>h
  | fuel + 1,_,_,_,h=>⟨h.1,fun i hi=>wpOp_mono (fun a' w' h'=>JS fuel _ a' w' h'.2) (h.2 i hi)⟩
theorem Lg {P:Program} {ops:Array Oper} {Q:Exit→Act→World→Prop} {S:Array Bool→World→Prop} {Si:World→Prop} {i:Nat} {oi:Oper} {v:Value} (hi:ops[i]?=some oi) (hsel:∀ (j:Nat) (o:Oper) cs b,ops[j]?=some o→o.op≠.select cs b)
    (hQ:∀ c a w,Q (.panic c) (a.put oi.dst v) w→Q (.panic c) a w) (hinv:∀ listed w,S (listed.setIfInBounds i true) w→S listed w) (hinv':∀ listed w,S listed w→S (listed.setIfInBounds i true) w)
    (hSi:∀ listed w,Closed ops listed→i∈Region.ready .any ops listed→S listed w→Si w) :
    ∀ (fuel:Nat) (listed:Array Bool) (a:Act) (w:World),Closed ops listed →
      (∀ j oj,ops[j]?=some oj→j≠i→listed.getD j true=false→(∀ e∈oj.after,Region.binds .any e=true→e.on≠i)→oi.apart ops oj=true) →
      i∈Region.ready .any ops listed→YieldsIf P ops Si oi v a→S listed w →
      wpAnyX P ops Q S fuel (listed.setIfInBounds i true) (a.put oi.dst v) w→wpAnyX P ops Q S (fuel + 1) listed a w:=by
  intro fuel
  induction fuel with
  | zero =>
    intro listed a w hcl _ hr hy hS H
    refine ⟨fun h=>(by rw [h] at hr;cases hr),fun j hj=>?_⟩
    by_cases hji:j=i
    · subst hji;exact hy.wpOp hi (hSi _ _ hcl hr hS) ⟨fun _=>hinv' _ _ hS,H⟩
    · have:=ready_mono hj hji
      rw [H.1] at this
      cases this
  | succ fuel ih =>
    intro listed a w hcl hfree hr hy hS H
    refine ⟨fun h=>(by rw [h] at hr;cases hr),fun j hj=>?_⟩
    by_cases hji:j=i
    · subst hji;exact hy.wpOp hi (hSi _ _ hcl hr hS) ⟨fun _=>hinv' _ _ hS,H⟩
    · have h1:=H.2 j (ready_mono hj hji)
      obtain ⟨hjun,oj,hoj,hall⟩:=mem_ready.1 hj
      have hnot:∀ e∈oj.after,Region.binds .any e=true→e.on≠i:=fun e he hb heq=>by
        have h1:=hall e he hb
        have h0:=(mem_ready.1 hr).1
        rw [heq] at h1
        rcases Nat.lt_or_ge i listed.size with h'|h'
        · simp [h'] at h0 h1;rw [h0] at h1;cases h1
        · simp [Array.getElem?_eq_none h'] at h1
      have hap:=hfree j oj hoj hji hjun hnot
      have hrj:i∈Region.ready .any ops (listed.setIfInBounds j true):=ready_mono hr (Ne.symm hji)
      have hil:i < ops.size:=by
        rcases Nat.lt_or_ge i ops.size with h|h
        · exact h
        · rw [Array.getElem?_eq_none h] at hi;cases hi
      have hnl:isLast ops j=false:=by
        cases hl:isLast ops j with
        | false=>rfl
        | true =>
          exfalso
          have h4:=List.all_eq_true.1 hl i (List.mem_range.2 hil)
          rw [Bool.or_eq_true] at h4
          rcases h4 with h4|h4
          · exact hji (by simpa using h4:i=j).symm
          · have h5:=Fe hcl ops.size j i oj hoj hall h4
            have h6:=(mem_ready.1 hr).1
            rcases Nat.lt_or_ge i listed.size with h'|h'
            · simp [h'] at h5 h6;rw [h6] at h5;cases h5
            · simp [Array.getElem?_eq_none h'] at h5
      have hfree':∀ k ok,ops[k]?=some ok→k≠i→(listed.setIfInBounds j true).getD k true=false →
          (∀ e∈ok.after,Region.binds .any e=true→e.on≠i)→oi.apart ops ok=true:=fun k ok hk hki hun hno=>by
        refine hfree k ok hk hki ?_ hno
        by_cases hjk:j=k
        · subst hjk;exact hjun
        · rw [getD_set_ne true hjk] at hun;exact hun
      have h2:=wpOp_putIf hoj hap (fun cs b=>hsel i oi cs b hi) (fun cs b=>hsel j oj cs b hoj) hQ hy h1
      refine wpOp_mono (fun a' w' h3=>?_) h2
      have hS':S (listed.setIfInBounds j true) w':=hinv _ _ (by
        have:=h3.2.1 hnl
        rwa [Array.setIfInBounds_comm _ _ (Ne.symm hji)] at this)
      refine ⟨fun _=>hS',ih (listed.setIfInBounds j true) a' w' (hcl.set hj) hfree' hrj h3.1 hS' ?_⟩
      rw [Array.setIfInBounds_comm _ _ hji]
      exact h3.2.2
theorem Jb {P:Program} {ops:Array Oper} {Q:Exit→Act→World→Prop} {S S':Array Bool→World→Prop} (P0:Array Bool→Prop) (hP:∀ listed i,P0 listed→P0 (listed.setIfInBounds i true)) (hS:∀ listed w,P0 listed→S' listed w→S listed w) :
    ∀ (fuel:Nat) (listed:Array Bool) (a:Act) (w:World),P0 listed→wpAnyX P ops Q S' fuel listed a w→wpAnyX P ops Q S fuel listed a w
  | 0,_,_,_,_,h=>h
  | fuel + 1,listed,_,_,hp,h=>⟨h.1,fun i hi=>wpOp_mono (fun a' w' h'=>⟨fun hl=>hS _ _ (hP _ i hp) (h'.1 hl),Jb P0 hP hS fuel _ a' w' (hP _ i hp) h'.2⟩) (h.2 i hi)⟩
def tcs (acts:List (Nat×List Nat)) (listed:Array Bool):List Nat:=(acts.filter fun p=>listed.getD p.1 false).flatMap (·.2)
def tci (ops:Array Oper) (acts:List (Nat×List Nat)) (i:Nat):List Nat:=(acts.filter fun p=>!comesB ops ops.size p.1 i).flatMap (·.2)
def Sx (acts:List (Nat×List Nat)) (w0:World) (O0:Lab) (listed:Array Bool) (w:World):Prop:=∃ d O',St (·∈tcs acts listed) w0 O0 (dr w d) O'
theorem St.mono {T T':Nat→Prop} {w w':World} {O O':Lab} (h:St T w O w' O') (ht:∀ i,T i→T' i):St T' w O w' O' :=
  ⟨h.os,h.tape,h.output,h.size,fun k hk hn=>h.same k hk fun e=>hn (ht _ e)⟩
theorem St.lst {T:Nat→Prop} {w w':World} {O O':Lab} (h:St T w O w' O') (ls:List Nat) (ht:∀ i,T i→i∈ls):St (·∈ls) w O w' O':=h.mono ht
theorem St.cmp {T:Nat→Prop} {ls:List Nat} {w w' w'':World} {O O' O'':Lab} (h:St (·∈ls) w O w' O') (k:St T w' O' w'' O'') (ls':List Nat) (ht:∀ i,T i→i∈ls') (hl:(ls.all (ls'.contains ·))=true):St (·∈ls') w O w'' O'' :=
  St.comp (h.mono fun q hq=>by simpa using List.all_eq_true.1 hl q hq) (k.mono ht) fun _ h=>h
theorem Md {acts:List (Nat×List Nat)} {i:Nat} (hi:(acts.any (·.1 == i))=false) (listed:Array Bool):tcs acts (listed.setIfInBounds i true)=tcs acts listed:=by
  unfold tcs
  congr 1
  apply List.filter_congr
  intro p hp
  have:p.1≠i:=fun e=>by
    have h2:(acts.any (·.1 == i))=true:=List.any_eq_true.2 ⟨p,hp,by simp [e]⟩
    rw [hi] at h2;cases h2
  exact getD_set_ne false (Ne.symm this)
theorem Pj {ops:Array Oper} {acts:List (Nat×List Nat)} {i:Nat} {listed:Array Bool} (hb:(acts.all fun p=>(ops[p.1]?).isSome)=true) (hcl:Closed ops listed) (hr:i∈Region.ready .any ops listed):∀ q,q∈tcs acts listed→q∈tci ops acts i:=by
  intro q hq
  unfold tcs at hq
  unfold tci
  rw [List.mem_flatMap] at hq ⊢
  obtain ⟨p,hp,hq⟩:=hq
  rw [List.mem_filter] at hp
  refine ⟨p,List.mem_filter.2 ⟨hp.1,?_⟩,hq⟩
  cases hc:comesB ops ops.size p.1 i with
  | false=>rfl
  | true =>
    exfalso
    have hp2:=hp.2
    have hs:=List.all_eq_true.1 hb p hp.1
    obtain ⟨o,ho⟩:=Option.isSome_iff_exists.1 hs
    have h5:=Fe hcl ops.size p.1 i o ho (fun e he hbi=>hcl p.1 o hp2 ho e he hbi) hc
    have h6:=(mem_ready.1 hr).1
    rcases Nat.lt_or_ge i listed.size with h'|h'
    · simp [h'] at h5 h6;rw [h6] at h5;cases h5
    · simp [Array.getElem?_eq_none h'] at h5
def hwx (P:Program) (n:Nat) (ops:Array Oper) (Q:Post) (acts:List (Nat×List Nat)) (w0:World) (O0:Lab) (fuel:Nat) (listed:Array Bool) (l:Env) (w:World):Prop :=
  Closed ops listed→∀ a d,Ok n a l→wpAnyX P ops (lift n Q) (Sx acts w0 O0) fuel listed a (dr w d)
def loudX (P:Program) (n:Nat) (ops:Array Oper) (Q:Post) (acts:List (Nat×List Nat)) (w0:World) (O0:Lab) (i:Nat) (fuel:Nat) (listed:Array Bool):Post
  | .normal,l,w=>(isLast ops i=false→Sx acts w0 O0 (listed.setIfInBounds i true) w)∧hwx P n ops Q acts w0 O0 fuel (listed.setIfInBounds i true) l w
  | _,_,_=>False
abbrev SS (w0:World) (O0:Lab) (ls:List Nat):World→Prop:=fun w'=>∃ O',St (·∈ls) w0 O0 w' O'
theorem Sx.dr {acts:List (Nat×List Nat)} {w0 w:World} {O0:Lab} {listed:Array Bool} (h:Sx acts w0 O0 listed w) (d:Nat):Sx acts w0 O0 listed (dr w d):=by
  obtain ⟨e,O',h⟩:=h
  exact ⟨e,O',h⟩
theorem JT {P:Program} {ops:Array Oper} {Q Q':Exit→Act→World→Prop} {acts:List (Nat×List Nat)} {w0:World} {O0:Lab} {fuel:Nat} (ls:List Nat) (hs:Region.noSelect ops=true) (hb:(acts.all fun p=>(ops[p.1]?).isSome)=true) (hQ:∀ c a w,¬ Q (.panic c) a w) :
    ∀ (ord:List (Nat×Bool)) (listed:Array Bool) (a:Act) (w:World),Closed ops listed→ordPre ops listed ord=true→(ord.all fun p=>(tci ops acts p.1).all (ls.contains ·) && !acts.any (·.1 == p.1))=true→Sx acts w0 O0 listed w →
      (∀ a w,Closed ops (listAll listed ord)→Q' .normal a w→wpAnyX P ops Q (Sx acts w0 O0) fuel (listAll listed ord) a w)→wpOrd P ops Q' (fun w'=>∃ d',SS w0 O0 ls (dr w' d')) ord a w→wpAnyX P ops Q (Sx acts w0 O0) (ord.length + fuel) listed a w
  | [],listed,a,w,hcl,_,_,_,hk,h=>by rw [List.length_nil,Nat.zero_add];exact hk a w hcl h
  | (i, true) :: r,listed,a,w,hcl,hc,hl,hS,hk,h=>by
    simp only [ordPre,Bool.and_eq_true] at hc
    rw [List.all_cons,Bool.and_eq_true,Bool.and_eq_true] at hl
    obtain ⟨o,v,ho,hy,hr⟩:=h
    have hi:i∈Region.ready .any ops listed:=by simpa using hc.1
    have hna:(acts.any (·.1 == i))=false:=by simpa using hl.1.2
    have e1:∀ listed w,Sx acts w0 O0 (listed.setIfInBounds i true) w→Sx acts w0 O0 listed w:=fun listed w h=>by unfold Sx at *;rwa [Md hna] at h
    have e2:∀ listed w,Sx acts w0 O0 listed w→Sx acts w0 O0 (listed.setIfInBounds i true) w:=fun listed w h=>by unfold Sx at *;rwa [Md hna]
    have:=Lg ho (Region.noSelect_spec hs) (fun c a w hq=>(hQ c _ _ hq).elim) e1 e2 (fun listed w hc hr ⟨d,O',hS⟩=>(⟨d,O',hS.mono fun q hq=>by
        have:=List.all_eq_true.1 hl.1.1 q (Pj hb hc hr q hq)
        simpa using this⟩:∃ d',SS w0 O0 ls (Proofs.YtkbmbcblgdgjlaaGreat.dr w d'))) (r.length + fuel) listed a w hcl (Region.free_spec ho hc.2.1) hi hy hS (JT ls hs hb hQ r _ _ w (hcl.set hi) hc.2.2 hl.2 (e2 _ _ hS) hk hr)
    rwa [List.length_cons,show r.length + 1 + fuel=r.length + fuel + 1 from by omega]
  | (i,false) :: r,listed,a,w,hcl,hc,_,_,_,_=>by simp [ordPre] at hc
section
variable {P : Program} {n : Nat} {ops : Array Oper} {Q : Post} {acts : List (Nat × List Nat)} {w0 : World} {O0 : Lab} {l : Env} {w : World}
theorem PZ {fuel tot:Nat} {listed:Array Bool} (ls:List Nat) (ord:List (Nat×Bool)) (hs:(Region.noSelect ops && (acts.all fun p=>(ops[p.1]?).isSome) && ordPre ops listed ord && (ord.all fun p=>(tci ops acts p.1).all (ls.contains ·) && !acts.any (·.1 == p.1)))=true) (hl:ord.length + fuel=tot)
    (h:hwp P n ops (thn (hwx P n ops Q acts w O0 fuel (listAll listed ord)) fun _ _ _=>False) (SS w O0 ls) ord l w):hwx P n ops Q acts w O0 tot listed l w:=fun hcl a e ha=>by
  subst hl
  simp only [Bool.and_eq_true] at hs
  obtain ⟨⟨⟨h1,h2⟩,h3⟩,h4⟩:=hs
  refine JT (P:=P) ls h1 h2 (Q:=lift n Q) (fun c a w hq=>hq.1) ord listed a (dr w e) hcl h3 (by simpa using h4) ⟨w.drawn,O0,St.refl _ _ _⟩ ?_ (h a e ha)
  rintro a' w' hcl' ⟨_,l',w₀,d',rfl,ho,hh⟩
  exact hh hcl' a' d' ho
theorem Jr {fuel i:Nat} {o:Oper} {listed:Array Bool} (hi:ops[i]?=some o) (hr:i∈Region.ready .any ops listed) (h:owp P n ops (loudX P n ops Q acts w0 O0 i fuel listed) [o] l w) (hcl:Closed ops listed) (a:Act) (e:Nat) (ha:Ok n a l) :
    wpOp P ops (lift n Q) i (fun a' w'=>(isLast ops i=false→Sx acts w0 O0 (listed.setIfInBounds i true) w')∧wpAnyX P ops (lift n Q) (Sx acts w0 O0) fuel (listed.setIfInBounds i true) a' w') a (dr w e):=by
  have h1:=h a e ha
  unfold wpList at h1
  unfold wpOp
  simp only [hi]
  have conv:∀ a' w',lift n (loudX P n ops Q acts w0 O0 i fuel listed) .normal a' w'→(isLast ops i=false→Sx acts w0 O0 (listed.setIfInBounds i true) w')∧wpAnyX P ops (lift n Q) (Sx acts w0 O0) fuel (listed.setIfInBounds i true) a' w':=by
    rintro a' w' ⟨_,l',w₀,d',rfl,ho,hS,hh⟩
    exact ⟨fun hl=>(hS hl).dr d',hh (hcl.set hr) a' d' ho⟩
  have nope:∀ e' a' w',lift n (loudX P n ops Q acts w0 O0 i fuel listed) e' a' w'→e'=.normal:=by
    rintro e' a' w' ⟨hn,l',w₀,d',rfl,ho,hh⟩
    cases e'<;>first|rfl|exact hh.elim
  by_cases hw:Region.wanted o (yielded ops a.tmps)=true
  · rw [if_pos hw] at h1
    rw [if_pos hw]
    rcases h1 with h1|⟨h1,a0,w0,h2⟩
    · refine .inl ?_
      unfold Oper.wp at *
      generalize (execOp a.eval o).run P (dr w e)=res at *
      cases res with
      | ok nx w' =>
        cases nx<;>simp only [Oper.upon] at h1 ⊢ <;>
          first
            | exact conv _ _ h1
            | exact Calls.mono h1 (fun en w'' he=>by
                cases en with
                | returned v=>exact conv _ _ he
                | panicked c=>exact absurd (nope _ _ _ he) (by simp)
                | outgrown=>obtain ⟨a0,w0,hq⟩:=he;exact absurd (nope _ _ _ hq) (by simp))
            | exact Rows.mono h1 (fun _ _ he=>conv _ _ he)
            | exact h1.elim
      | halt x w'=>cases x<;>simp only [Oper.upon] at h1 ⊢<;>first|exact h1.elim|exact absurd (nope _ _ _ h1) (by simp)
    · exact absurd (nope _ _ _ h2) (by simp)
  · rw [if_neg hw] at h1
    rw [if_neg hw]
    exact conv _ _ h1
theorem AV {fuel i:Nat} {oi:Oper} {listed:Array Bool} (hr:Region.ready .any ops listed=[i]) (hi:ops[i]?=some oi) (h1:owp P n ops (loudX P n ops Q acts w0 O0 i fuel listed) [oi] l w):hwx P n ops Q acts w0 O0 (fuel + 1) listed l w:=fun hcl a e ha=>by
  refine ⟨fun h0=>by rw [hr] at h0;simp at h0,fun k hk=>?_⟩
  have hk':=hk
  rw [hr] at hk
  have:k=i:=by simpa using hk
  subst this
  exact Jr hi hk' h1 hcl a e ha
theorem GR {fuel i j:Nat} {oi oj:Oper} {listed:Array Bool} (hr:Region.ready .any ops listed=[i,j]) (hi:ops[i]?=some oi) (hj:ops[j]?=some oj)
    (h1:owp P n ops (loudX P n ops Q acts w0 O0 i fuel listed) [oi] l w) (h2:owp P n ops (loudX P n ops Q acts w0 O0 j fuel listed) [oj] l w):hwx P n ops Q acts w0 O0 (fuel + 1) listed l w:=fun hcl a e ha=>by
  refine ⟨fun h0=>by rw [hr] at h0;simp at h0,fun k hk=>?_⟩
  have hk':=hk
  rw [hr] at hk
  have:k=i∨k=j:=by simpa using hk
  rcases this with rfl|rfl
  · exact Jr hi hk' h1 hcl a e ha
  · exact Jr hj hk' h2 hcl a e ha
theorem Bg {fuel i:Nat} {listed:Array Bool} {ls:List Nat} {O':Lab} (acts':List (Nat×List Nat)) (hZ:St (·∈ls) w0 O0 w O') (hs:(ls.all ((tcs acts (listed.setIfInBounds i true)).contains ·) && acts'.all (acts.contains ·))=true) (h2:hwx P n ops Q acts' w O' fuel (listed.setIfInBounds i true) l w):owp P n ops (loudX P n ops Q acts w0 O0 i fuel listed) [] l w:=by
  rw [Bool.and_eq_true] at hs
  have hls:∀ q,q∈ls→q∈tcs acts (listed.setIfInBounds i true):=fun q hq=>by simpa using List.all_eq_true.1 hs.1 q hq
  have hac:∀ p,p∈acts'→p∈acts:=fun q hq=>by simpa using List.all_eq_true.1 hs.2 q hq
  refine FH ⟨fun _=>⟨w.drawn,O',hZ.mono hls⟩,fun hcl a d ha=>?_⟩
  refine Jb (fun listed'=>∀ j,(listed.setIfInBounds i true).getD j false=true→listed'.getD j false=true) (fun listed' k h j hj=>getD_set_true (h j hj)) ?_ _ _ _ _ (fun j hj=>hj) (h2 hcl a d ha)
  rintro listed' v hp ⟨e,O'',hS⟩
  refine ⟨e,O'',((hZ.mono fun q hq=>?_).comp (hS.mono fun q hq=>?_) fun _ h=>h:St (·∈tcs acts listed') w0 O0 _ O'')⟩
  · have:=hls q hq
    unfold tcs at this ⊢
    rw [List.mem_flatMap] at this ⊢
    obtain ⟨p,h1,h3⟩:=this
    rw [List.mem_filter] at h1
    exact ⟨p,List.mem_filter.2 ⟨h1.1,hp _ h1.2⟩,h3⟩
  · unfold tcs at hq ⊢
    rw [List.mem_flatMap] at hq ⊢
    obtain ⟨p,h1,h3⟩:=hq
    rw [List.mem_filter] at h1
    exact ⟨p,List.mem_filter.2 ⟨hac _ h1.1,h1.2⟩,h3⟩
theorem Qa {fuel i:Nat} {listed:Array Bool} (hl:isLast ops i=true) (h2:hwx P n ops Q acts w0 O0 fuel (listed.setIfInBounds i true) l w):owp P n ops (loudX P n ops Q acts w0 O0 i fuel listed) [] l w:=FH ⟨(fun h=>by rw [hl] at h;exact Bool.noConfusion h),h2⟩
theorem BC {listed:Array Bool} (hr:Region.ready .any ops listed=[]) (h:Q .normal l w):hwx P n ops Q acts w0 O0 0 listed l w:=fun _ _ _ ha=>⟨hr,Gm trivial ha h⟩
def maskOf (ms:List Nat) (o:Oper):Nat:=o.after.toList.foldl (fun m e=>if Region.binds .any e=true then m ||| (2 ^ e.on ||| ms.getD e.on 0) else m) 0
def masksFrom:List Oper→List Nat→List Nat
  | [],ms=>ms
  | o :: r,ms=>masksFrom r (ms ++ [maskOf ms o])
def bef (ops:Array Oper) (j k:Nat):Bool:=((masksFrom ops.toList []).getD j 0).testBit k
theorem Jc {ops:Array Oper}:∀ (f j k:Nat),comesB ops f j k=true→comesB ops (f + 1) j k=true
  | 0,j,k,h=>by simp [comesB] at h
  | f + 1,j,k,h=>by
    rw [comesB] at h ⊢
    cases hj:ops[j]? with
    | none=>rw [hj] at h;simp at h
    | some o =>
      rw [hj] at h
      simp only [Option.any_some,Array.any_eq_true'] at h ⊢
      obtain ⟨e,he,h⟩:=h
      refine ⟨e,he,?_⟩
      simp only [Bool.and_eq_true,Bool.or_eq_true] at h ⊢
      refine ⟨h.1,h.2.imp id fun h=>Jc f e.on k h⟩
theorem Ky {ops:Array Oper} {f g j k:Nat} (h:comesB ops f j k=true) (hl:f≤g):comesB ops g j k=true:=by
  induction hl with
  | refl=>exact h
  | step _ ih=>exact Jc _ _ _ ih
theorem Kz {ms:List Nat} {k:Nat}:∀ (l:List Edge) (m:Nat),(l.foldl (fun m e=>if Region.binds .any e=true then m ||| (2 ^ e.on ||| ms.getD e.on 0) else m) m).testBit k=true→m.testBit k=true∨∃ e∈l,Region.binds .any e=true∧(e.on=k∨(ms.getD e.on 0).testBit k=true)
  | [],m,h=>.inl h
  | e :: l,m,h=>by
    rw [List.foldl_cons] at h
    rcases Kz l _ h with h|⟨e',h1,h2⟩
    · by_cases hb:Region.binds .any e=true
      · rw [if_pos hb,Nat.testBit_or,Nat.testBit_or,Nat.testBit_two_pow,Bool.or_eq_true,Bool.or_eq_true] at h
        rcases h with h|h|h
        · exact .inl h
        · exact .inr ⟨e,List.mem_cons_self,hb,.inl (by simpa using h)⟩
        · exact .inr ⟨e,List.mem_cons_self,hb,.inr h⟩
      · rw [if_neg hb] at h;exact .inl h
    · exact .inr ⟨e',List.mem_cons_of_mem _ h1,h2⟩
theorem Lh {ops:Array Oper}:∀ (rest pre:List Oper) (ms:List Nat),ops.toList=pre ++ rest→ms.length=pre.length→(∀ a k,(ms.getD a 0).testBit k=true→comesB ops (a + 1) a k=true)→(masksFrom rest ms).length=ops.size∧∀ a k,((masksFrom rest ms).getD a 0).testBit k=true→comesB ops (a + 1) a k=true
  | [],pre,ms,h1,h2,h3=>⟨by rw [masksFrom,h2,← Array.length_toList,h1,List.append_nil],h3⟩
  | o :: rest,pre,ms,h1,h2,h3=>by
    refine Lh rest (pre ++ [o]) (ms ++ [maskOf ms o]) (by rw [h1,List.append_assoc];rfl) (by simp [h2]) fun a k hk=>?_
    by_cases ha:a < ms.length
    · rw [List.getD_eq_getElem?_getD,List.getElem?_append_left ha,← List.getD_eq_getElem?_getD] at hk;exact h3 a k hk
    · by_cases ha2:a=ms.length
      · subst ha2
        have:(ms ++ [maskOf ms o]).getD ms.length 0=maskOf ms o:=by simp
        rw [this] at hk
        rcases Kz _ _ hk with h|⟨e,he,hb,h⟩
        · simp at h
        · have ho:ops[ms.length]?=some o:=by rw [← Array.getElem?_toList,h1,h2];simp
          rw [comesB,ho]
          simp only [Option.any_some,Array.any_eq_true',Bool.and_eq_true,Bool.or_eq_true]
          refine ⟨e,by simpa using he,hb,?_⟩
          rcases h with h|h
          · exact .inl (by simpa using h)
          · have hlt:e.on < ms.length:=by
              rcases Nat.lt_or_ge e.on ms.length with h'|h'
              · exact h'
              · rw [List.getD_eq_getElem?_getD,List.getElem?_eq_none h'] at h;simp at h
            exact .inr (Ky (h3 _ _ h) hlt)
      · rw [List.getD_eq_getElem?_getD,List.getElem?_eq_none (by simp;omega)] at hk;simp at hk
theorem KA {ops:Array Oper} {j k:Nat} (h:bef ops j k=true):comesB ops ops.size j k=true:=by
  obtain ⟨h1,h2⟩:=Lh (ops:=ops) ops.toList [] [] (by simp) rfl (fun a k h=>by simp at h)
  refine Ky (h2 j k h) ?_
  rcases Nat.lt_or_ge j ops.size with h'|h'
  · exact h'
  · unfold bef at h
    rw [List.getD_eq_getElem?_getD,List.getElem?_eq_none (by omega)] at h;simp at h
theorem AT {fuel tot:Nat} {listed:Array Bool} (ls:List Nat) (ord:List (Nat×Bool)) (hs:(Region.noSelect ops && (acts.all fun p=>(ops[p.1]?).isSome) && ordPre ops listed ord && (ord.all fun p=>(acts.all fun q=>q.2.all (ls.contains ·) || bef ops q.1 p.1) && !acts.any (·.1 == p.1)))=true) (hl:ord.length + fuel=tot)
    (h:hwp P n ops (thn (hwx P n ops Q acts w O0 fuel (listAll listed ord)) fun _ _ _=>False) (SS w O0 ls) ord l w):hwx P n ops Q acts w O0 tot listed l w:=by
  refine PZ ls ord ?_ hl h
  simp only [Bool.and_eq_true] at hs ⊢
  refine ⟨hs.1,List.all_eq_true.2 fun p hp=>?_⟩
  have h1:=List.all_eq_true.1 hs.2 p hp
  rw [Bool.and_eq_true] at h1 ⊢
  refine ⟨List.all_eq_true.2 fun q hq=>?_,h1.2⟩
  unfold tci at hq
  rw [List.mem_flatMap] at hq
  obtain ⟨a,ha,hqa⟩:=hq
  rw [List.mem_filter] at ha
  have h2:=List.all_eq_true.1 h1.1 a ha.1
  rw [Bool.or_eq_true] at h2
  rcases h2 with h2|h2
  · exact List.all_eq_true.1 h2 q hqa
  · have:=ha.2;rw [KA h2] at this;simp at this
theorem Di {fuel i:Nat} {listed:Array Bool} (hl:((List.range ops.size).all fun k=>k == i || bef ops i k)=true) (h2:hwx P n ops Q acts w0 O0 fuel (listed.setIfInBounds i true) l w):owp P n ops (loudX P n ops Q acts w0 O0 i fuel listed) [] l w:=by
  refine Qa ?_ h2
  refine List.all_eq_true.2 fun k hk=>?_
  have:=List.all_eq_true.1 hl k hk
  rw [Bool.or_eq_true] at this ⊢
  exact this.imp id KA
theorem Bt [hm:Mixed P] {id:Nat} {L:List Oper} (acts:List (Nat×List Nat)) (O:Lab) (h:hwx P n L.toArray Q acts w O L.toArray.size (Array.replicate L.toArray.size false) l w):ewp P n (.region id L.toArray true) Q l w:=fun a d ha =>
  wp_region_any hm.eq (JS _ _ _ _ (h (fun m om hm=>by
      simp only [Array.getD_eq_getD_getElem?,Array.getElem?_replicate] at hm
      split at hm<;>simp at hm) a (d + 1) ha))
end
end
section
open Go Go.RowKit
attribute [local irreducible] ewp owp hwp hwq hws Ev Evg Fn retPost loud loudS Res1
section
variable {w : World} {A : Nat → Prop} (hA : ∀ k, A k → k < w.heap.size) {v0 v1 : Value}
include hA
omit hA in
def DF (f:List Fct) (s:List Int):Option Bool:=some (holdsB f s)
theorem GA {x0:List Fct} (h0:Vb w A v0 x0) {x1:List Int} (h1:Vb w A v1 x1) {r:Bool} (hm:DF x0 x1=some r):Fn Tryz.prog 34 [v0,v1] w fun v w'=>Ext w w'∧Vb w' (upA A w w') v r:=by
  obtain rfl:=sm hm
  refine (baseHolds (h0.mono hA) (h1.mono hA)).mono fun v w' h=>⟨h.2,?_⟩
  rw [h.1,Gf];exact vBool
omit hA in
def Da (f:List Fct) (s:List Int):Option Bool:=some (holdsB f s)
theorem Il {x0:List Fct} (h0:Vb w A v0 x0) {x1:List Int} (h1:Vb w A v1 x1) {r:Bool} (hm:Da x0 x1=some r):Fn Tryz.prog 48 [v0,v1] w fun v w'=>Ext w w'∧Vb w' (upA A w w') v r:=by
  obtain rfl:=sm hm
  refine (taskHolds (h0.mono hA) (h1.mono hA)).mono fun v w' h=>⟨h.2,?_⟩
  rw [h.1,Gf];exact vBool
omit hA in
noncomputable def GX (x:List Int) (y:List Int):Option Bool:=some (bof (x=y))
theorem LM {x0:List Int} (h0:Vb w A v0 x0) {x1:List Int} (h1:Vb w A v1 x1) {r:Bool} (hm:GX x0 x1=some r):Fn Tryz.prog 16 [v0,v1] w fun v w'=>Ext w w'∧Vb w' (upA A w w') v r:=by
  obtain rfl:=sm hm
  refine (baseInts (h0.mono hA) (h1.mono hA)).mono fun v w' h=>⟨h.2,?_⟩
  rw [h.1];exact vBool
omit hA in
noncomputable def Ei (t:Tsk):Option Bool:=some (bof (SmallOk t))
theorem Li {x0:Tsk} (h0:Vb w A v0 x0) {r:Bool} (hm:Ei x0=some r):Fn Tryz.prog 10 [v0] w fun v w'=>Ext w w'∧Vb w' (upA A w w') v r:=by
  obtain rfl:=sm hm
  refine (baseSmall (h0.mono hA)).mono fun v w' h=>⟨h.2,?_⟩
  rw [h.1];exact vBool
end
theorem MJ (t:Tsk):inI64 (checkN t):=by unfold checkN;(repeat' split)<;>decide
def BH (xs:List Int):Option (List Int):=if xs.length * 8≤140737488355328∧xs.length≤9223372036854775807 then some xs else none
theorem Cr {w:World} {A:Nat→Prop} (hA:∀ k,A k→k < w.heap.size) {v0:Value} {x0:List Int} (h0:Vb w A v0 x0) {r:List Int} (hm:BH x0=some r) :
    Fn Tryz.prog 55 [v0] w fun v w'=>Ext w w'∧RowR w w' (upA A w w') 3 v r:=by
  obtain ⟨⟨hl,a0⟩,rfl⟩:=DX hm
  obtain ⟨O,hB,b0⟩:=enter hA
  replace h0:=h0.mono b0
  obtain ⟨Ad,c,rfl⟩:=h0.form
  refine AI Tryz.func55 rfl Tryz.ntmps55 rfl ?_
  cases Ad with
  | none =>
    have hx:x0=[]:=by
      cases x0 with
      | nil=>rfl
      | cons x xs=>obtain ⟨_,_,_,h,_⟩:=h0.elem (k:=0) (x:=x) rfl;cases h
    subst hx
    ((repeat (first|refine An ?_|refine Ah rfl ?_|refine Ae rfl ?_))<;>(refine Ar rfl rfl ?_<;>(refine o_z ?_))<;>(repeat (first|refine An ?_|refine Ah rfl ?_|refine Ae rfl ?_))<;>(refine Am rfl rfl ?_<;>refine Ft rfl rfl ?_<;>(refine o_z ?_))<;>(repeat (first|refine An ?_|refine Ah rfl ?_|refine Ae rfl ?_))<;>(refine Ar rfl rfl ?_<;>(refine o_z ?_))<;>(repeat (first|refine An ?_|refine Ah rfl ?_|refine Ae rfl ?_)))
    exact ret1 rfl rfl ⟨Below.refl _ _,RowR.nil⟩
  | some ad =>
    ((repeat (first|refine An ?_|refine Ah rfl ?_|refine Ae rfl ?_))<;>(refine Ar rfl rfl ?_<;>(refine o_z ?_))<;>(repeat (first|refine An ?_|refine Ah rfl ?_|refine Ae rfl ?_))<;>(refine Am rfl rfl ?_<;>refine Ft rfl rfl ?_<;>(refine o_z ?_))<;>(repeat (first|refine An ?_|refine Ah rfl ?_|refine Ae rfl ?_)))
    refine BX 2 (by decide) O (xs:=([]:List Int)) rfl rfl rfl rfl trivial (by decide) (by decide) rfl fun g w1 O1 S1 h1=>?_
    replace hB:=hB.st S1 (fun h=>h) (fun h=>h)
    replace h0:=h0.st S1 (fun h=>h)
    (refine Am rfl rfl ?_)
    refine CH rfl h1 h0.rd rfl rfl (by decide) (by simpa using hl) (by simpa using a0) rfl fun A2 c2 w2 O2 S2 h2=>?_
    replace hB:=hB.st S2 (by decide) (by decide)
    rw [List.nil_append] at h2 ⊢
    (refine Ar rfl rfl ?_<;>(refine o_z ?_))
    repeat (first|refine An ?_|refine Ah rfl ?_|refine Ae rfl ?_)
    exact ret1 rfl rfl ⟨hB.ext,h2.out hB (by decide)⟩
end
section
open Go Go.RowKit
attribute [local irreducible] ewp owp hwp hwq hws Ev Evg Fn retPost loud loudS Res1
structure Gnr where
  t:Tsk
def GnrR (w:World) (F:Nat→Prop) (v:Value):Option Gnr→Prop
  | none=>v=.pointer none
  | some g=>TaskOk g.t∧GenR w F v g.t (treeOf g.t)
theorem GnrR.one {w:World} {F:Nat→Prop} {v:Value}:∀ {x:Option Gnr},GnrR w F v x→v.oneCell'=true
  | none,h=>by    have:v=.pointer none:=h
                  subst this;rfl
  | some g,h=>by
    obtain ⟨gb,rfl⟩:=h.2.form
    rfl
instance:Rp (Option Gnr) where
  isAgg:=false
  size:=1
  R w F cs x:=∃ v,cs=[v]∧GnrR w F v x
  len:=by rintro w F cs x ⟨v,rfl,_⟩;rfl
  one:=by
    rintro w F cs x ⟨v,rfl,h⟩ u hu
    have:u=v:=by simpa using hu
    subst this;exact h.one
  agree:=by
    rintro w w' F cs x ⟨v,rfl,h⟩ ha
    refine ⟨v,rfl,?_⟩
    cases x with
    | none=>exact h
    | some g=>exact ⟨h.1,h.2.agree ha⟩
  mono:=by
    rintro w F G cs x ⟨v,rfl,h⟩ hk
    refine ⟨v,rfl,?_⟩
    cases x with
    | none=>exact h
    | some g=>exact ⟨h.1,h.2.mono hk⟩
theorem vNone {w:World} {F:Nat→Prop}:Vb w F (.pointer none) (none:Option Gnr):=⟨_,rfl,rfl⟩
theorem Vb.gnr {w:World} {F:Nat→Prop} {v:Value} {x:Option Gnr} (h:Vb w F v x):GnrR w F v x:=by
  obtain ⟨u,hu,h'⟩:=h
  have:v=u:=by simpa using hu
  subst this;exact h'
theorem Vb.ptr {w:World} {F:Nat→Prop} {v:Value} {x:Option Gnr} (h:Vb w F v x):∃ p,v=.pointer p∧p.isNone=x.isNone:=by
  cases x with
  | none=>exact ⟨none,h.gnr,rfl⟩
  | some g=>obtain ⟨gb,rfl⟩:=h.gnr.2.form;exact ⟨_,rfl,rfl⟩
theorem Oe {w:World} {F:Nat→Prop} {p:Option Addr} {x:Option Gnr} {g:Gnr} (h:Vb w F (.pointer p) x) (e:x=some g) :
    ∃ gb a b c d r,p=some ⟨gb,0,none⟩∧F gb∧cellsAt w gb 0 [a,b,c,d,r]∧Vb w F a g.t.vars∧Vb w F b g.t.init∧Vb w F c g.t.goal∧Vb w F d g.t.ops:=by
  subst e
  obtain ⟨_,gb,a,b,c,d,r,h1,h2,h3,h4,h5,h6,h7,_⟩:=h.gnr
  injection h1 with h1
  exact ⟨gb,a,b,c,d,r,h1,h2,h3.cellsAt,h4,h5,h6,h7⟩
theorem vGnr {w:World} {F:Nat→Prop} {v:Value} {g:Gnr} (h:TaskOk g.t) (hg:GenR w F v g.t (treeOf g.t)):Vb w F v (some g):=⟨v,rfl,h,hg⟩
theorem Pk {A:Nat→Prop} {w w':World}:∀ k,nw w w' k→upA A w w' k:=fun _ h=>.inr h
theorem Own.intRow {w w':World} {F A:Nat→Prop} {e:TypeId} {v:Value} {xs:List Int} (h:Own w' w.heap.size F e v xs):RowR w w' (upA A w w') e v xs:=by
  obtain ⟨cells,q1,q2,q3⟩:=h
  exact ⟨fun _=>False,fun _ h=>h.elim,cells,q1,GV q2,fun _ _ h=>h⟩
noncomputable def DP (t:Tsk):Option (Option Gnr×Err):=some (if bof (TaskOk t)=true then some ⟨t⟩ else none,⟨checkN t⟩)
theorem KM {w:World} {A:Nat→Prop} (hA:∀ k,A k→k < w.heap.size) {v0:Value} {x0:Tsk} (h0:Vb w A v0 x0) {r:Option Gnr×Err} (hm:DP x0=some r):Fn Tryz.prog 42 [v0] w fun v w'=>Ext w w'∧T2 w' (upA A w w') v r:=by
  obtain rfl:=sm hm
  refine (genNew (h0.mono hA)).mono fun v w' h=>⟨h.1,?_⟩
  rcases h.2 with ⟨hok,gv,rfl,hg⟩|⟨hno,rfl⟩
  · rw [Ch hok,Ht.2 hok]
    exact ⟨gv,_,rfl,vGnr (g:=⟨x0⟩) hok (hg.mono Pk),vErr0⟩
  · rw [Bi hno]
    exact ⟨_,_,rfl,vNone,vErr (MJ _)⟩
noncomputable def appG:Option Gnr→List Int→List Int
  | none,_=>[]
  | some g,s=>appS g.t s
noncomputable def Cb (x:Option Gnr) (s:List Int):Option (List Int):=if s.length≤1000000 then some (appG x s) else none
theorem Fx {w:World} {A:Nat→Prop} (hA:∀ k,A k→k < w.heap.size) {v0:Value} {x0:Option Gnr} (h0:Vb w A v0 x0) {v1:Value} {x1:List Int} (h1:Vb w A v1 x1) {r:List Int} (hm:Cb x0 x1=some r) :
    Fn Tryz.prog 87 [v0,v1] w fun v w'=>Ext w w'∧RowR w w' (upA A w w') 3 v r:=by
  obtain ⟨hl,rfl⟩:=DX hm
  cases x0 with
  | none =>
    have h2:=h0.gnr
    have:v0=.pointer none:=h2
    subst this
    refine nilApplicable.mono fun v w' h=>⟨h.2,?_⟩
    rw [h.1];exact RowR.nil
  | some g =>
    obtain ⟨hok,hg⟩:=h0.gnr
    exact (applT hok (hg.mono hA) (h1.mono hA) hl).mono fun v w' h=>⟨h.1,h.2.intRow⟩
end
section
open Go Go.RowKit
attribute [local irreducible] ewp owp hwp hwq hws Ev Evg Fn retPost loud loudS Res1
def exts (n:Nat) (s:List Int):List (List Int):=(List.range n).map fun x:Nat=>s ++ [(x:Int)]
def grows (out:List (List Int)) (k:Int):List (List Int):=out.flatMap (exts k.toNat)
def statesL (vars:List Int):List (List Int):=vars.foldl grows [[]]
theorem Of (n:Nat) (s:List Int):(exts n s).length=n:=by simp [exts]
theorem KB (n:Nat):∀ l:List (List Int),(l.flatMap (exts n)).length=l.length * n
  | []=>by simp
  | s :: l=>by rw [List.flatMap_cons,List.length_append,Of,KB n l,List.length_cons,Nat.add_mul];omega
end
section
open Go Go.RowKit
def prodV:List Int→Nat→Nat
  | [],n=>n
  | k :: r,n=>prodV r (n * k.toNat)
theorem GS:∀ (vars:List Int) (out:List (List Int)),(vars.foldl grows out).length=prodV vars out.length
  | [],_=>rfl
  | k :: r,out=>by
    simp only [List.foldl_cons,prodV]
    rw [GS r,grows,KB]
theorem LO (vars:List Int):(statesL vars).length=prodV vars 1:=GS vars [[]]
theorem KC {most:Nat}:∀ (vars:List Int) (n:Nat),(∀ x∈vars,1≤x)→1≤n→manyF most vars (n:Int)≤most→∀ k,prodV (vars.take k) n≤most
  | [],n,_,_,h,k=>by simp only [List.take_nil,prodV];simp only [manyF] at h;omega
  | x :: r,n,hx,hn,h,k=>by
    have h1:1≤x:=hx x List.mem_cons_self
    simp only [manyF] at h
    have hmax:max x 0=x:=by omega
    rw [hmax] at h
    obtain ⟨m,rfl⟩:∃ m:Nat,x=(m:Int):=⟨x.toNat,by omega⟩
    by_cases hm:(m:Int)≤most
    · rw [show min (m:Int) (most + 1)=(m:Int) from by omega,← Int.natCast_mul] at h
      have hnm:n≤n * m:=Nat.le_mul_of_pos_right n (by omega)
      by_cases hc:(most:Int) < ((n * m:Nat):Int)
      · rw [if_pos hc] at h;omega
      · rw [if_neg hc] at h
        cases k with
        | zero=>simp only [List.take_zero,prodV];omega
        | succ k =>
          simp only [List.take_succ_cons,prodV,Int.toNat_natCast]
          exact KC r (n * m) (fun y hy=>hx y (List.mem_cons_of_mem _ hy)) (by omega) h k
    · exfalso
      rw [show min (m:Int) (most + 1)=((most + 1:Nat):Int) from by omega,← Int.natCast_mul] at h
      have:most + 1≤n * (most + 1):=Nat.le_mul_of_pos_left _ hn
      rw [if_pos (by omega)] at h
      omega
theorem Im {y x:Int} {vs s:List Int}:StateOk (y :: vs) (x :: s)↔(0≤x∧x < y)∧StateOk vs s:=by
  constructor
  · intro h
    exact ⟨h.2 0 x y rfl rfl,by have:=h.1;simpa using this,fun i a b ha hb=>h.2 (i + 1) a b (by simpa using ha) (by simpa using hb)⟩
  · rintro ⟨h1,h2,h3⟩
    refine ⟨by simpa using h2,fun i a b ha hb=>?_⟩
    cases i with
    | zero=>simp at ha hb;subst ha;subst hb;exact h1
    | succ i=>exact h3 i a b (by simpa using ha) (by simpa using hb)
theorem LP:StateOk [] []:=⟨rfl,fun i a b ha=>by simp at ha⟩
theorem Lj {n:Nat} {s t:List Int}:t∈exts n s↔∃ x:Nat,x < n∧t=s ++ [(x:Int)]:=by
  unfold exts
  rw [List.mem_map]
  constructor
  · rintro ⟨x,hx,rfl⟩;exact ⟨x,List.mem_range.1 hx,rfl⟩
  · rintro ⟨x,hx,rfl⟩;exact ⟨x,List.mem_range.2 hx,rfl⟩
theorem GT:∀ (vars:List Int) (out:List (List Int)) (s:List Int),s∈vars.foldl grows out↔∃ s0∈out,∃ r,s=s0 ++ r∧StateOk vars r
  | [],out,s=>by
    constructor
    · intro h;exact ⟨s,h,[],by simp,LP⟩
    · rintro ⟨s0,h,r,rfl,hr⟩
      have:r=[]:=List.eq_nil_of_length_eq_zero hr.1
      subst this;simpa using h
  | k :: vs,out,s=>by
    simp only [List.foldl_cons]
    rw [GT vs (grows out k) s]
    constructor
    · rintro ⟨s1,h1,r,rfl,hr⟩
      obtain ⟨s0,h0,h2⟩:=List.mem_flatMap.1 h1
      obtain ⟨x,hx,rfl⟩:=Lj.1 h2
      exact ⟨s0,h0,(x:Int) :: r,by simp,Im.2 ⟨⟨by omega,by omega⟩,hr⟩⟩
    · rintro ⟨s0,h0,r,rfl,hr⟩
      cases r with
      | nil=>have:=hr.1;simp at this
      | cons x r =>
        obtain ⟨⟨h1,h2⟩,h3⟩:=Im.1 hr
        exact ⟨s0 ++ [x],List.mem_flatMap.2 ⟨s0,h0,Lj.2 ⟨x.toNat,by omega,by rw [show ((x.toNat:Nat):Int)=x from by omega]⟩⟩,r,by simp,h3⟩
theorem Jd {vars s:List Int}:s∈statesL vars↔StateOk vars s:=by
  unfold statesL
  rw [GT]
  constructor
  · rintro ⟨s0,h0,r,rfl,hr⟩
    have:s0=[]:=by simpa using h0
    subst this;exact hr
  · intro h;exact ⟨[],by simp,s,rfl,h⟩
theorem SmallOk.ok {t:Tsk} (h:SmallOk t):TaskOk t:=h.2.2.2.1
theorem SmallOk.states {t:Tsk} (h:SmallOk t):∀ k,(statesL (t.vars.take k)).length≤512:=fun k=>by
  rw [LO]
  refine KC (most:=512) t.vars 1 (fun x hx=>?_) (Nat.le_refl _) h.2.2.2.2 k
  obtain ⟨i,hi,rfl⟩:=List.getElem_of_mem hx
  exact (h.ok.vars i _ (List.getElem?_eq_getElem hi)).1
theorem SmallOk.many {t:Tsk} (h:SmallOk t):(statesL t.vars).length≤512:=by
  have:=h.states t.vars.length
  rwa [List.take_length] at this
structure Mid (t:Tsk):Prop where
  ok:TaskOk t
  states:∀ k,(statesL (t.vars.take k)).length≤600
  ops:t.ops.length≤80
theorem Mid.many {t:Tsk} (h:Mid t):(statesL t.vars).length≤600:=by
  have:=h.states t.vars.length
  rwa [List.take_length] at this
theorem SmallOk.mid {t:Tsk} (h:SmallOk t):Mid t:=⟨h.ok,fun k=>by have:=h.states k;omega,by have:=h.2.1;omega⟩
end
section
open Go Go.RowKit
attribute [local irreducible] ewp owp hwp hwq hws Ev Evg Fn retPost loud loudS Res1
noncomputable def CN (x0:Tsk) (x1:List Int) (x2:Int):Option ((List Int)×Bool) :=
  bnd (if x2 < 0 then (some true) else (if (x0.ops.length:Int)≤x2 then (some true) else (bnd (atI x0.ops x2) fun a36=>bnd (DF a36.pre x1) fun q57=>if q57=true then some false else some true)):Option Bool) fun y28=>if y28=true then (some (([]:List Int),false)) else (bnd (appI 8 ([]:List Int) x1) fun u75=>bnd (atI x0.ops x2) fun a86=>bnd (rng (ρ:=(List Int)×Bool) (fun (k113:Nat) (a114:Eff) (s111:(List Int))=>bnd (DF a114.cond x1) fun q148=>if q148=true then bnd (atI s111 a114.var) fun a155=>some (.next (s111.set (a114.var:Int).toNat a114.val)) else some (.next s111)) a86.effs 0 u75) fun res109=>fin res109 fun (s173:(List Int))=>some (s173,true))
theorem In {w:World} {A:Nat→Prop} (hA:∀ k,A k→k < w.heap.size) {vx0:Value} {x0:Tsk} (y1:Vb w A vx0 x0) {vx1:Value} {x1:List Int} (e0:Vb w A vx1 x1) {x2:Int} (rx2:inI64 x2) {r:(List Int)×Bool} (hm:CN x0 x1 x2=some r) :
    Fn Tryz.prog 53 [vx0,vx1,(.int .i64 x2)] w fun v w'=>Ext w w'∧T2 w' (upA A w w') v r:=by
 obtain ⟨O,hB,h3⟩:=enter hA
 replace y1:=y1.mono h3
 obtain ⟨h5,rfl,v5,v6,v7,v8,rfl,h9,t0,u0,k0⟩:=y1
 obtain ⟨z1,a2,rfl⟩:=h9.form
 obtain ⟨b2,c2,rfl⟩:=t0.form
 obtain ⟨d2,e2,rfl⟩:=u0.form
 obtain ⟨f2,g2,rfl⟩:=k0.form
 replace e0:=e0.mono h3
 obtain ⟨o1,p1,rfl⟩:=e0.form
 refine AI Tryz.func53 rfl Tryz.ntmps53 rfl ?_
 unfold CN at hm
 refine Al (Aj (EJ 2 O rfl rfl fun h2 q1 r1 c0 n0=>?_))
 replace n0:Lc 2 q1 r1 h2 26 [(.slice z1 x0.vars.length a2),(.slice b2 x0.init.length c2),(.slice d2 x0.goal.length e2),(.slice f2 x0.ops.length g2)]:=n0
 refine Ar rfl rfl (Ar rfl rfl (o_z ?_))
 refine Al (Al ?_)
 obtain ⟨q3,a0,hm⟩:=bs hm
 refine AM (fun l' w'=>∃ (r3:Unit) (O':Lab),subs l' [(1,(.slice o1 x1.length p1)),(2,(.int .i64 x2)),(3,(.pointer (some ⟨h2,0,none⟩))),(30,(.bool q3))]∧Bs w A w' O'∧Vb w' (Fr 0 w' O') (.slice o1 x1.length p1) x1∧Lc 2 w' O' h2 26 [(.slice z1 x0.vars.length a2),(.slice b2 x0.init.length c2),(.slice d2 x0.goal.length e2),(.slice f2 x0.ops.length g2)]∧Vb w' (Fr 0 w' O') (.slice z1 x0.vars.length a2) x0.vars∧Vb w' (Fr 0 w' O') (.slice b2 x0.init.length c2) x0.init∧Vb w' (Fr 0 w' O') (.slice d2 x0.goal.length e2) x0.goal∧Vb w' (Fr 0 w' O') (.slice f2 x0.ops.length g2) x0.ops) ?_ ?_
 ·
  refine Aj (Am rfl rfl (DJ rfl rfl rfl (fun i2=>?_) fun i2=>?_))
  ·
   replace a0:=ip a0 i2
   refine Am rfl rfl (Au rfl rfl rfl rfl (Au rfl rfl rfl rfl (Au rfl rfl rfl rfl (Au rfl rfl rfl rfl (Au rfl rfl rfl rfl (Bk rfl rfl rfl (Am rfl rfl (Au rfl rfl rfl rfl (Au rfl rfl rfl rfl (Au rfl rfl rfl rfl (Au rfl rfl rfl rfl (Au rfl rfl rfl rfl (Au rfl rfl rfl rfl (Au rfl rfl rfl rfl ?_))))))))))))))
   refine Au rfl rfl rfl rfl (Au rfl rfl rfl rfl (Bk rfl rfl rfl (o_z ?_)))
   obtain rfl:=sm a0
   exact ⟨(),_,⟨rfl,rfl,rfl,rfl,trivial⟩,hB.st c0,e0.st c0,n0,h9.st c0,t0.st c0,u0.st c0,k0.st c0⟩
  replace a0:=im a0 i2
  refine Am rfl rfl (Aw rfl rfl (Am rfl rfl (Aw rfl rfl (AF rfl rfl (Aw rfl rfl (AE (hc:=Blk.cell (i:=3) (n0.1) rfl) rfl rfl ?_))))))
  refine Aw rfl rfl (AN rfl rfl ?_)
  replace k0:=k0.st c0
  have s3:x0.ops.length≤9223372036854775807:=Nat.le_trans k0.len.2.1 k0.len.2.2
  have i5:inI64 (x0.ops.length:Int):=rngNat s3
  refine Aw rfl rfl (Gg rfl rfl rfl (fun j2=>?_) fun j2=>?_)
  ·
   replace a0:=ip a0 j2
   refine Bp rfl rfl rfl (Am rfl rfl (Au rfl rfl rfl rfl (Au rfl rfl rfl rfl (Au rfl rfl rfl rfl (Au rfl rfl rfl rfl (Au rfl rfl rfl rfl (Au rfl rfl rfl rfl (Au rfl rfl rfl rfl (Au rfl rfl rfl rfl (Au rfl rfl rfl rfl (Bk rfl rfl rfl (o_z ?_))))))))))))
   obtain rfl:=sm a0
   exact ⟨(),_,⟨rfl,rfl,rfl,rfl,trivial⟩,hB.st c0,e0.st c0,n0,h9.st c0,t0.st c0,u0.st c0,k0⟩
  replace a0:=im a0 j2
  refine Bp rfl rfl rfl (Am rfl rfl (Aw rfl rfl (AF rfl rfl (Aw rfl rfl (AE (hc:=Blk.cell (i:=3) (n0.1) rfl) rfl rfl ?_)))))
  refine Aw rfl rfl (Am rfl rfl (Aw rfl rfl ?_))
  obtain ⟨j5,t3,a0⟩:=bs a0
  obtain ⟨u3,v3⟩:=AO t3
  obtain ⟨k5,l5,w3,k2,l2,m2,m5,n5,rfl,i3,x3,o5,p5⟩:=k0.elem' v3
  obtain ⟨q5,r5,rfl⟩:=i3.form
  obtain ⟨s5,t5,rfl⟩:=x3.form
  refine BW (hA:=k2) (hj:=(Int.toNat_of_nonneg u3).symm) (hlt:=l2) rfl rfl rfl ?_
  refine Aw rfl rfl (AF rfl rfl (Aw rfl rfl (AE (hc:=cat2 m2) rfl rfl ?_)))
  refine Aw rfl rfl (Am rfl rfl (Aw rfl rfl ?_))
  obtain ⟨j3,y3,a0⟩:=bs a0
  replace e0:=e0.st c0
  refine Ce (O:=r1) (A:=All q1) (R:=fun w' F v=>Vb w' F v j3) (GA (fun _ h=>h) (Vb.mono (F:=Fr 0 q1 r1) i3 Fr.lt) (Vb.mono (F:=Fr 0 q1 r1) e0 Fr.lt) y3) rfl rfl fun u5 w5 x5 l0 z3=>?_
  obtain rfl:=z3.bool
  cases j3
  case false =>
   replace a0:=iF a0
   refine Aw rfl rfl (CM rfl rfl (Bp rfl rfl rfl (o_z ?_)))
   obtain rfl:=sm a0
   exact ⟨(),_,⟨rfl,rfl,rfl,rfl,trivial⟩,(hB.st c0).st l0,e0.st l0,n0.st l0,(h9.st c0).st l0,(t0.st c0).st l0,(u0.st c0).st l0,k0.st l0⟩
  replace a0:=iT a0
  refine Aw rfl rfl (CL rfl rfl (Bp rfl rfl rfl (o_z ?_)))
  obtain rfl:=sm a0
  exact ⟨(),_,⟨rfl,rfl,rfl,rfl,trivial⟩,(hB.st c0).st l0,e0.st l0,n0.st l0,(h9.st c0).st l0,(t0.st c0).st l0,(u0.st c0).st l0,k0.st l0⟩
 replace hB:=hB.st c0
 replace e0:=e0.st c0
 replace h9:=h9.st c0
 replace t0:=t0.st c0
 replace u0:=u0.st c0
 replace k0:=k0.st c0
 rintro y5 a4 ⟨r3,k3,n2,hB,e0,n0,h9,t0,u0,k0⟩
 refine AP _ n2 ?_
 refine CY rfl (fun o2=>?_) (fun o2=>?_)
 ·
  replace hm:=ip hm o2
  refine Al (Aj (Ar rfl rfl (Ar rfl rfl (o_z ?_))))
  refine AK ?_
  obtain rfl:=sm hm
  exact ret2 rfl (AB rfl) (AB rfl) ⟨hB.ext,_,_,rfl,(Vb.mono (F:=Fr 0 a4 k3) (Vb.nil _ _) hB.out),vBool⟩
 replace hm:=im' hm o2
 refine AJ (Al (Aj (BX 3 (by decide) k3 (xs:=(([]:List Int):List Int)) rfl rfl rfl rfl trivial (by decide) (by decide) rfl fun z5 a6 b6 c1 b4=>?_)))
 refine Am rfl rfl ?_
 obtain ⟨s1,p2,hm⟩:=bs hm
 obtain ⟨p2,c4,d4⟩:=Cg p2
 replace e0:=e0.st c1
 refine CH rfl b4 (e0.rd) rfl rfl (by decide) c4 d4 rfl fun t1 u1 c6 e4 d1 l3=>?_
 rw [← p2] at l3 ⊢
 refine Ar rfl rfl (o_z ?_)
 refine Al (Al (Aj (AF rfl rfl ?_)))
 replace n0:=(n0.st c1).st d1
 refine AE (hc:=Blk.cell (i:=3) (n0.1) rfl) rfl rfl ?_
 refine Am rfl rfl ?_
 obtain ⟨b1,f4,hm⟩:=bs hm
 obtain ⟨g4,h4⟩:=AO f4
 replace k0:=(k0.st c1).st d1
 obtain ⟨d6,e6,i4,q2,r2,s2,f6,g6,rfl,j4,f0,k4,l4⟩:=k0.elem' h4
 obtain ⟨m4,n4,rfl⟩:=j4.form
 obtain ⟨e1,f1,rfl⟩:=f0.form
 refine BW (hA:=q2) (hj:=(Int.toNat_of_nonneg g4).symm) (hlt:=r2) rfl rfl rfl ?_
 refine AF rfl rfl (AE (hc:=cat3 s2) rfl rfl ?_)
 refine AN rfl rfl ?_
 have y0:b1.effs.length≤9223372036854775807:=Nat.le_trans f0.len.2.1 f0.len.2.2
 have o4:inI64 (b1.effs.length:Int):=rngNat y0
 refine Am rfl rfl (o_z ?_)
 obtain ⟨z0,g1,hm⟩:=bs hm
 refine AM (aft z0 (fun (m0:(List Int)) (o0:Unit)=>[(8,(.slice t1 s1.length u1))]) (fun m0 o0 w'=>∃ O':Lab,Bs w A w' O'∧Rw 3 w' O' 3 (.slice t1 s1.length u1) m0)) ?_ ?_
 ·
  refine AQ ?_
  replace hB:=(hB.st c1).st d1
  replace e0:=e0.st d1
  refine BV (σ:=(List Int)) (X:=Unit) (b1.effs.length) g1 rfl y0 (fun (m0:(List Int)) (o0:Unit)=>[(1,(.slice o1 x1.length p1)),(8,(.slice t1 s1.length u1)),(39,(.slice e1 b1.effs.length f1))]) _ (fun m0 o0 w'=>∃ O':Lab,Bs w A w' O'∧Vb w' (Fr 0 w' O') (.slice o1 x1.length p1) x1∧Rw 3 w' O' 3 (.slice t1 s1.length u1) m0∧Vb w' (Fr 0 w' O') (.slice e1 b1.effs.length f1) b1.effs) _ () ⟨e4,hB,e0,l3,f0⟩ ⟨rfl,rfl,rfl,rfl,rfl,trivial⟩ (fun _ _=>⟨rfl,rfl⟩) (fun _ _=>⟨rfl,trivial⟩) (fun _ _ _ ⟨O',hB,e0,d0,f0⟩=>⟨O',hB,d0⟩) ⟨rfl,rfl,rfl⟩ ⟨rfl,rfl⟩ ?_
  rintro t2 p0 m0 o0 p4 m3 v0 ⟨u2,hB,e0,d0,f0⟩ b0 v1 w1
  have rk113:inI64 (t2:Int):=rngK v0 y0
  refine Al (Aj ?_)
  obtain ⟨q4,r4,n3,h1,i1,j1,s4,rfl,q0,t4,v2⟩:=f0.elem' v0
  obtain ⟨w2,y2,rfl⟩:=q0.form
  refine BW (hA:=h1) (hj:=rfl) (hlt:=i1) rfl rfl rfl ?_
  refine BM (hl:=rfl) (hc:=j1) rfl rfl ?_
  refine Cq 4 u2 rfl fun z2 u4 r0 i0 g0=>?_
  refine Bf g0 rfl rfl rfl (BO rfl) (allOne rfl) fun s0 j0 g0=>?_
  replace g0:Lc 4 s0 r0 z2 76 [(.slice w2 p0.cond.length y2),(.int .i64 p0.var),(.int .i64 p0.val)]:=g0
  refine o_z ?_
  refine Al (Aj (AF rfl rfl (AE (hc:=Blk.cell (i:=0) (g0.1) rfl) rfl rfl ?_)))
  refine Am rfl rfl ?_
  obtain ⟨k1,a3,b0⟩:=bs b0
  replace e0:=(e0.st i0).st j0
  replace q0:=(q0.st i0).st j0
  refine Ce (O:=r0) (A:=All s0) (R:=fun w' F v=>Vb w' F v k1) (GA (fun _ h=>h) (Vb.mono (F:=Fr 0 s0 r0) q0 Fr.lt) (Vb.mono (F:=Fr 0 s0 r0) e0 Fr.lt) a3) rfl rfl fun v4 w4 x4 h0 b3=>?_
  obtain rfl:=b3.bool
  cases k1
  case false =>
   replace b0:=iF b0
   refine o_z ?_
   refine Ae rfl (AJ ?_)
   obtain rfl:=sm b0
   exact show Exists _ from ⟨_,(),rfl,⟨rfl,rfl,rfl,rfl,rfl,trivial⟩,_,((hB.st i0).st j0).st h0,e0.st h0,((d0.st i0).st j0).st h0,((f0.st i0).st j0).st h0⟩
  replace b0:=iT b0
  refine o_z ?_
  refine Ah rfl (Aj (Am rfl rfl (AF rfl rfl ?_)))
  replace g0:=g0.st h0
  refine AE (hc:=Blk.cell (i:=1) (g0.1) rfl) rfl rfl ?_
  refine AF rfl rfl (AE (hc:=Blk.cell (i:=2) (g0.1) rfl) rfl rfl ?_)
  obtain ⟨y4,c3,b0⟩:=bs b0
  obtain ⟨d3,l1⟩:=AO c3
  replace d0:=((d0.st i0).st j0).st h0
  obtain ⟨z4,a5,o3,w0,m1,p3,rfl,b5⟩:=d0.elem l1
  refine BW (hA:=w0) (hj:=(Int.toNat_of_nonneg d3).symm) (hlt:=m1) rfl rfl rfl ?_
  refine Dq rfl d0 (a:=p0.val) (vInt v2) w0 rfl rfl (AC l1) fun c5 a1 d0=>?_
  refine o_z ?_
  obtain rfl:=sm b0
  exact show Exists _ from ⟨_,(),rfl,⟨rfl,rfl,rfl,rfl,rfl,trivial⟩,_,(((hB.st i0).st j0).st h0).st a1,(e0.st h0).st a1,d0,(((f0.st i0).st j0).st h0).st a1⟩
 replace hB:=(hB.st c1).st d1
 rintro d5 e3 ⟨e5,f5,rfl,n1,g5,hB,d0⟩
 replace hm:=Bo hm
 refine AP _ n1 ?_
 refine Al (Aj (Am rfl rfl (Ar rfl rfl (Ar rfl rfl (o_z ?_)))))
 refine AK ?_
 obtain ⟨f3,g3,d0⟩:=d0.freeze
 obtain rfl:=sm hm
 replace hB:=hB.st g3
 exact ret2 rfl (AB rfl) (AB rfl) ⟨hB.ext,_,_,rfl,(Vb.mono (F:=Fr 0 e3 f3) d0 hB.out),vBool⟩
end
section
section
variable {α σ ρ : Type}
theorem Db {s:σ} {f:σ→Option ρ}:fin (.done s) f=f s:=rfl
theorem QQ {c:ρ} {f:σ→Option ρ}:fin (.ret c) f=some c:=rfl
theorem Es {x y:α}:(if true=true then x else y)=x:=rfl
theorem Dw {x y:α}:(if false=true then x else y)=y:=rfl
theorem Ip {f:Nat→α→σ→Option (Ctl σ ρ)} {I:Nat→σ→Prop} {R:ρ→Prop}:∀ (ys:List α) (j:Nat) (s:σ),I j s →
    (∀ k x s,ys[k]?=some x→I (j + k) s→(∃ s',f (j + k) x s=some (.next s')∧I (j + k + 1) s')∨(∃ r,f (j + k) x s=some (.ret r)∧R r)) →
    (∃ s',rng f ys j s=some (.done s')∧I (j + ys.length) s')∨∃ r,rng f ys j s=some (.ret r)∧R r
  | [],j,s,h0,_=>.inl ⟨s,rfl,h0⟩
  | y :: ys,j,s,h0,h=>by
    rcases h 0 y s rfl h0 with ⟨s',h1,h2⟩|⟨r,h1,h2⟩
    · have h1':f j y s=some (.next s'):=h1
      simp only [rng,h1']
      rcases Ip (I:=I) (R:=R) ys (j + 1) s' h2 (fun k x s hk hI=>by
        have:=h (k + 1) x s (by simpa using hk) (by rwa [show j + (k + 1)=j + 1 + k from by omega])
        rwa [show j + (k + 1)=j + 1 + k from by omega] at this) with ⟨s2,h3,h4⟩|h3
      · exact .inl ⟨s2,h3,by rw [List.length_cons,show j + (ys.length + 1)=j + 1 + ys.length from by omega];exact h4⟩
      · exact .inr h3
    · have h1':f j y s=some (.ret r):=h1
      simp only [rng,h1']
      exact .inr ⟨r,rfl,h2⟩
theorem Me {f:Nat→α→σ→Option (Ctl σ ρ)} {xs:List α} {s₀:σ} (I:Nat→σ→Prop) (R:ρ→Prop) (h0:I 0 s₀)
    (h:∀ k x s,xs[k]?=some x→I k s→(∃ s',f k x s=some (.next s')∧I (k + 1) s')∨(∃ r,f k x s=some (.ret r)∧R r)) :
    (∃ s',rng f xs 0 s₀=some (.done s')∧I xs.length s')∨∃ r,rng f xs 0 s₀=some (.ret r)∧R r:=by
  have:=Ip (f:=f) (I:=I) (R:=R) xs 0 s₀ h0 (fun k x s hk hI=>by rw [Nat.zero_add] at hI ⊢;exact h k x s hk hI)
  rwa [Nat.zero_add] at this
theorem Hg {f:Nat→α→σ→Option (Ctl σ ρ)} {xs:List α} {s₀:σ} (I:Nat→σ→Prop) (h0:I 0 s₀) (h:∀ k x s,xs[k]?=some x→I k s→∃ s',f k x s=some (.next s')∧I (k + 1) s') :
    ∃ s',rng f xs 0 s₀=some (.done s')∧I xs.length s':=by
  rcases Me I (fun _=>False) h0 (fun k x s hk hI=>.inl (h k x s hk hI)) with h|⟨_,_,h⟩
  · exact h
  · exact h.elim
theorem Kh {f:Nat→α→σ→Option (Ctl σ ρ)} {xs:List α} (g:Nat→σ) (h:∀ k x,xs[k]?=some x→f k x (g k)=some (.next (g (k + 1)))):rng f xs 0 (g 0)=some (.done (g xs.length)):=by
  obtain ⟨s',h1,h2⟩:=Hg (f:=f) (xs:=xs) (s₀:=g 0) (fun k s=>s=g k) rfl (fun k x s hk hI=>⟨_,by rw [hI];exact h k x hk,rfl⟩)
  rw [h1,h2]
theorem Et {f:Nat→α→σ→Option (Ctl σ ρ)} {xs:List α} {s₀:σ} (g:Nat→σ) (h0:s₀=g 0) (h:∀ k x,xs[k]?=some x→f k x (g k)=some (.next (g (k + 1)))):rng f xs 0 s₀=some (.done (g xs.length)):=by
  rw [h0];exact Kh g h
theorem Js {f:Nat→α→Unit→Option (Ctl Unit ρ)} {xs:List α} (h:∀ k x,xs[k]?=some x→f k x ()=some (.next ())):rng f xs 0 ()=some (.done ()):=Kh (fun _=>()) h
theorem Og {f:Nat→σ→Option (Ctl σ ρ)} {N:Nat} (g:Nat→σ) (h:∀ k,k < N→f k (g k)=some (.next (g (k + 1)))):rngN f N (g 0)=some (.done (g N)):=by
  have:=Kh (f:=fun _ k s=>f k s) (xs:=List.range N) g (fun k x hk=>by
    obtain ⟨hlt,rfl⟩:=List.getElem?_eq_some_iff.1 hk
    simpa using h k (by simpa using hlt))
  rwa [List.length_range] at this
theorem Nm {f:Nat→σ→Option (Ctl σ ρ)} {N:Nat} {s₀:σ} (g:Nat→σ) (h0:s₀=g 0) (h:∀ k,k < N→f k (g k)=some (.next (g (k + 1)))):rngN f N s₀=some (.done (g N)):=by
  rw [h0];exact Og g h
end
end
section
open Go Go.RowKit
theorem Jt (f:List Fct) (s:List Int):DF f s=some (holdsB f s):=rfl
theorem Lk {ρ:Type} {s:List Int} {effs:List Eff} (he:EffsIn s effs) (m:List Fct→List Int→Option Bool) (hm:∀ f s,m f s=some (holdsB f s)) (u:List Int) (hu:u.length=s.length) :
    rng (ρ:=ρ) (fun (_:Nat) (e:Eff) (out:List Int)=>bnd (m e.cond s) fun q=>if q=true then bnd (atI out e.var) fun _=>some (.next (out.set (e.var).toNat e.val)) else some (.next out)) effs 0 u=some (.done (effsOn s effs u)):=by
  rw [Et (fun k=>effsOn s (effs.take k) u) ?_ ?_,List.take_length]
  · rfl
  intro k e hk
  rw [hm,At,LH s hk]
  have hin:=he k e hk
  have hl:=HM s (effs.take k) u
  by_cases hb:holdsB e.cond s=true
  · rw [if_pos hb,if_pos hb]
    obtain ⟨j,hj⟩:=Int.eq_ofNat_of_zero_le hin.1
    rw [hj,Ct,List.getElem?_eq_getElem (by omega),At]
  · rw [if_neg hb,if_neg hb]
theorem Oh {t:Tsk} {s:List Int} {j:Nat} {o:Opr} (ho:t.ops[j]?=some o) (hp:holdsB o.pre s=true) (hl:s.length≤1000000) (he:EffsIn s o.effs):CN t s (j:Int)=some (succ o s,true):=by
  have hj:=AC ho
  unfold CN
  rw [if_neg (by omega),if_neg (by omega),Ct,ho,At,Jt,At,hp,Es,At,Dw,CD (by simp;omega) (by simp;omega),At,At,List.nil_append,Lk he DF Jt s rfl,At,Db]
  rfl
theorem KD {vars s:List Int}:∀ (l:List Eff),(∀ e∈l,EffOk vars e)→∀ (u:List Int),StateOk vars u→StateOk vars (effsOn s l u)
  | [],_,_,hu=>hu
  | e :: l,he,u,hu=>by
    refine KD l (fun e' h'=>he e' (List.mem_cons_of_mem _ h')) _ ?_
    split
    · obtain ⟨_,h1,h2,y,hy,h3⟩:=he e List.mem_cons_self
      refine ⟨by rw [List.length_set];exact hu.1,fun i x n hx hn=>?_⟩
      rw [List.getElem?_set] at hx
      by_cases hi:e.var.toNat=i
      · subst hi
        rw [if_pos rfl] at hx
        split at hx
        · obtain rfl:=Option.some.inj hx
          simp only at hy h2 h3
          rw [hy] at hn
          obtain rfl:=Option.some.inj hn
          exact ⟨h2,h3⟩
        · cases hx
      · rw [if_neg hi] at hx
        exact hu.2 i x n hx hn
    · exact hu
theorem Mf {t:Tsk} (h:TaskOk t) {s:List Int} (hs:StateOk t.vars s) {k:Nat} {o:Opr} (ho:t.ops[k]?=some o):StateOk t.vars (succ o s) :=
  KD o.effs (fun e he=>by obtain ⟨j,hj⟩:=List.getElem?_of_mem he;exact (h.2.2.2.2.2 k o ho).2.2.2.2.2 j e hj) s hs
theorem KE {t:Tsk} (h:TaskOk t) {s:List Int} (hs:StateOk t.vars s) {k:Nat} {o:Opr} (ho:t.ops[k]?=some o):CN t s (k:Int)=some (if holdsB o.pre s=true then (succ o s,true) else ([],false)):=by
  have hk:=AC ho
  by_cases hp:holdsB o.pre s=true
  · rw [Oh ho hp (by have:=hs.1;have:=h.1;omega) (h.effs hs k o ho),if_pos hp]
  · unfold CN
    rw [if_neg (by omega),if_neg (by omega),Ct,ho,At,Jt,At,if_neg hp,if_neg hp,At,Es]
end
section
open Go Go.RowKit
section
attribute [local irreducible] ewp owp hwp hwq hws Ev Evg Fn retPost loud loudS Res1
noncomputable def Bj (x0:Option Gnr) (x1:List Int):Option (List Suc) :=
  bnd (Cb x0 x1) fun q7=>bnd (rng (ρ:=(List Suc)) (fun (k23:Nat) (a24:Int) (s21:(List Suc))=>bnd (BH x1) fun q46=>bnd (x0) fun o56=>bnd (atI o56.t.ops a24) fun a88=>bnd (rng (ρ:=Ctl (List Suc) (List Suc)) (fun (k115:Nat) (a116:Eff) (s113:(List Int))=>bnd (Da a116.cond x1) fun q150=>if q150=true then bnd (atI s113 a116.var) fun a157=>some (.next (s113.set (a116.var:Int).toNat a116.val)) else some (.next s113)) a88.effs 0 q46) fun res111=>fin res111 fun (s175:(List Int))=>bnd (appI 32 s21 [(⟨a24,s175⟩:Suc)]) fun u179=>some (.next u179)) q7 0 ([]:List Suc)) fun res19=>fin res19 fun (s195:(List Suc))=>some s195
theorem Fy {w:World} {A:Nat→Prop} (hA:∀ k,A k→k < w.heap.size) {vx0:Value} {x0:Option Gnr} (h0:Vb w A vx0 x0) {vx1:Value} {x1:List Int} (g0:Vb w A vx1 x1) {r:(List Suc)} (hm:Bj x0 x1=some r) :
    Fn Tryz.prog 49 [vx0,vx1] w fun v w'=>Ext w w'∧Vb w' (upA A w w') v r:=by
 obtain ⟨O,hB,k3⟩:=enter hA
 replace h0:=h0.mono k3
 obtain ⟨p3,rfl,s3⟩:=h0.ptr
 replace g0:=g0.mono k3
 obtain ⟨A5,c6,rfl⟩:=g0.form
 refine AI Tryz.func49 rfl Tryz.ntmps49 rfl ?_
 unfold Bj at hm
 refine Al (Aj (Ar rfl rfl (o_z ?_)))
 refine Al (Aj (Ar rfl rfl (o_z ?_)))
 refine Al (Al (Aj (Am rfl rfl (Am rfl rfl ?_))))
 obtain ⟨q7,e8,hm⟩:=bs hm
 refine BG 2 (by decide) (O:=O) (Fx Fr.lt h0 g0 e8) rfl rfl fun e1 f1 w9 t3 b2 m0=>?_
 refine AN rfl rfl ?_
 have e2:q7.length≤9223372036854775807:=Nat.le_trans m0.len.2.1 m0.len.2.2
 have q5:inI64 (q7.length:Int):=rngNat e2
 refine Am rfl rfl (o_z ?_)
 obtain ⟨h1,f2,hm⟩:=bs hm
 refine AM (aft h1 (fun (n0:(List Suc)) (i0:(Option Addr×Nat))=>[(5,(.slice i0.1 n0.length i0.2))]) (fun n0 i0 w'=>∃ O':Lab,Bs w A w' O'∧Rw 5 w' O' 91 (.slice i0.1 n0.length i0.2) n0)) ?_ ?_
 ·
  refine AQ ?_
  replace hB:=hB.st b2
  replace h0:=h0.st b2
  replace g0:=g0.st b2
  refine BV (σ:=(List Suc)) (X:=(Option Addr×Nat)) (q7.length) f2 rfl e2 (fun (n0:(List Suc)) (i0:(Option Addr×Nat))=>[(0,(.pointer p3)),(1,(.slice A5 x1.length c6)),(5,(.slice i0.1 n0.length i0.2)),(13,(.slice e1 q7.length f1))]) _ (fun n0 i0 w'=>∃ O':Lab,Bs w A w' O'∧Vb w' (Fr 0 w' O') (.pointer p3) x0∧Vb w' (Fr 0 w' O') (.slice A5 x1.length c6) x1∧Rw 5 w' O' 91 (.slice i0.1 n0.length i0.2) n0∧Rw 2 w' O' 3 (.slice e1 q7.length f1) q7) _ (none,0) ⟨t3,hB,h0,g0,(Rw.nil 5 (by decide)),m0⟩ ⟨rfl,rfl,rfl,rfl,rfl,rfl,trivial⟩ (fun _ _=>⟨rfl,rfl⟩) (fun _ _=>⟨rfl,trivial⟩) (fun _ _ _ ⟨O',hB,h0,g0,j0,m0⟩=>⟨O',hB,j0⟩) ⟨rfl,rfl,rfl⟩ ⟨rfl,rfl⟩ ?_
  rintro g2 i1 n0 i0 r5 u3 j1 ⟨v3,hB,h0,g0,j0,m0⟩ e0 h2 i2
  have rk23:inI64 (g2:Int):=rngK j1 e2
  refine Al (Aj ?_)
  obtain ⟨s5,t5,w3,j2,k2,l2,rfl,x3⟩:=m0.elem j1
  refine BW (hA:=j2) (hj:=rfl) (hlt:=k2) rfl rfl rfl ?_
  refine AE (hc:=cat0 l2) rfl rfl ?_
  refine Ar rfl rfl (o_z ?_)
  refine Al (Aj (Am rfl rfl ?_))
  obtain ⟨k1,y3,e0⟩:=bs e0
  refine BG 3 (by decide) (O:=v3) (Cr Fr.lt g0 y3) rfl rfl fun l1 m1 u5 z3 r0 a4=>?_
  refine Ar rfl rfl (o_z ?_)
  refine Al (Al (Aj (Am rfl rfl ?_)))
  obtain ⟨v5,l3,e0⟩:=bs e0
  obtain ⟨ad59,m2⟩:=Ke (s3.trans (by rw [l3];rfl))
  refine QK (hA:=m2) rfl rfl ?_
  replace h0:=h0.st r0
  obtain ⟨w5,x5,y5,z5,a6,b6,n2,b4,o2,c4,d4,e4,m3⟩:=Oe h0 l3
  obtain ⟨d6,e6,rfl⟩:=c4.form
  obtain ⟨f6,g6,rfl⟩:=d4.form
  obtain ⟨h6,i6,rfl⟩:=e4.form
  obtain ⟨j6,k6,rfl⟩:=m3.form
  refine QJ (hA:=n2) rfl rfl ?_
  refine AF rfl rfl (AE (hc:=cat3 o2) rfl rfl ?_)
  refine Am rfl rfl ?_
  obtain ⟨g1,f4,e0⟩:=bs e0
  obtain ⟨g4,h4⟩:=AO f4
  obtain ⟨l6,m6,i4,p2,q2,r2,n6,j4,rfl,s2,k0,k4,l4⟩:=m3.elem' h4
  obtain ⟨m4,n4,rfl⟩:=s2.form
  obtain ⟨n1,o1,rfl⟩:=k0.form
  refine BW (hA:=p2) (hj:=(Int.toNat_of_nonneg g4).symm) (hlt:=q2) rfl rfl rfl ?_
  refine AF rfl rfl (AE (hc:=cat3 r2) rfl rfl ?_)
  refine AN rfl rfl ?_
  have b1:g1.effs.length≤9223372036854775807:=Nat.le_trans k0.len.2.1 k0.len.2.2
  have o4:inI64 (g1.effs.length:Int):=rngNat b1
  refine Am rfl rfl (o_z ?_)
  obtain ⟨c1,p1,e0⟩:=bs e0
  refine AM (aft c1 (fun (o0:(List Int)) (s0:Unit)=>[(0,(.pointer p3)),(1,(.slice A5 x1.length c6)),(5,(.slice i0.1 n0.length i0.2)),(7,(.int .i64 i1)),(8,(.slice l1 k1.length m1)),(13,(.slice e1 q7.length f1)),(14,(.int .i64 (q7.length:Int))),(15,(.int .i64 (g2:Int)))]) (fun o0 s0 w'=>∃ O':Lab,Bs w A w' O'∧Vb w' (Fr 0 w' O') (.pointer p3) x0∧Vb w' (Fr 0 w' O') (.slice A5 x1.length c6) x1∧Rw 5 w' O' 91 (.slice i0.1 n0.length i0.2) n0∧Rw 3 w' O' 3 (.slice l1 k1.length m1) o0∧Rw 2 w' O' 3 (.slice e1 q7.length f1) q7)) ?_ ?_
  ·
   refine AQ ?_
   replace hB:=hB.st r0
   replace g0:=g0.st r0
   replace m0:=m0.st r0
   replace j0:=j0.st r0
   refine BV (σ:=(List Int)) (X:=Unit) (g1.effs.length) p1 rfl b1 (fun (o0:(List Int)) (s0:Unit)=>[(0,(.pointer p3)),(1,(.slice A5 x1.length c6)),(5,(.slice i0.1 n0.length i0.2)),(7,(.int .i64 i1)),(8,(.slice l1 k1.length m1)),(13,(.slice e1 q7.length f1)),(14,(.int .i64 (q7.length:Int))),(15,(.int .i64 (g2:Int))),(29,(.slice n1 g1.effs.length o1))]) _ (fun o0 s0 w'=>∃ O':Lab,Bs w A w' O'∧Vb w' (Fr 0 w' O') (.pointer p3) x0∧Vb w' (Fr 0 w' O') (.slice A5 x1.length c6) x1∧Rw 5 w' O' 91 (.slice i0.1 n0.length i0.2) n0∧Rw 3 w' O' 3 (.slice l1 k1.length m1) o0∧Rw 2 w' O' 3 (.slice e1 q7.length f1) q7∧Vb w' (Fr 0 w' O') (.slice n1 g1.effs.length o1) g1.effs) _ () ⟨z3,hB,h0,g0,j0,a4,m0,k0⟩ ⟨rfl,rfl,rfl,rfl,rfl,rfl,rfl,rfl,rfl,rfl,rfl,trivial⟩ (fun _ _=>⟨rfl,rfl⟩) (fun _ _=>⟨rfl,rfl,rfl,rfl,rfl,rfl,rfl,rfl,trivial⟩) (fun _ _ _ ⟨O',hB,h0,g0,j0,f0,m0,k0⟩=>⟨O',hB,h0,g0,j0,f0,m0⟩) ⟨rfl,rfl,rfl⟩ ⟨rfl,rfl⟩ ?_
   rintro t2 t0 o0 s0 p4 n3 z0 ⟨u2,hB,h0,g0,j0,f0,m0,k0⟩ a0 c2 d2
   have rk115:inI64 (t2:Int):=rngK z0 b1
   refine Al (Aj ?_)
   obtain ⟨q4,r4,o3,q1,r1,s1,s4,rfl,u0,t4,v2⟩:=k0.elem' z0
   obtain ⟨w2,x2,rfl⟩:=u0.form
   refine BW (hA:=q1) (hj:=rfl) (hlt:=r1) rfl rfl rfl ?_
   refine BM (hl:=rfl) (hc:=s1) rfl rfl ?_
   refine Cq 4 u2 rfl fun y2 u4 v0 c0 l0=>?_
   refine Bf l0 rfl rfl rfl (BO rfl) (allOne rfl) fun w0 d0 l0=>?_
   replace l0:Lc 4 w0 v0 y2 76 [(.slice w2 t0.cond.length x2),(.int .i64 t0.var),(.int .i64 t0.val)]:=l0
   refine o_z ?_
   refine Al (Aj (AF rfl rfl (AE (hc:=Blk.cell (i:=0) (l0.1) rfl) rfl rfl ?_)))
   refine Am rfl rfl ?_
   obtain ⟨t1,z2,a0⟩:=bs a0
   replace g0:=(g0.st c0).st d0
   replace u0:=(u0.st c0).st d0
   refine Ce (O:=v0) (A:=All w0) (R:=fun w' F v=>Vb w' F v t1) (Il (fun _ h=>h) (Vb.mono (F:=Fr 0 w0 v0) u0 Fr.lt) (Vb.mono (F:=Fr 0 w0 v0) g0 Fr.lt) z2) rfl rfl fun v4 w4 x4 b0 a3=>?_
   obtain rfl:=a3.bool
   cases t1
   case false =>
    replace a0:=iF a0
    refine o_z ?_
    refine Ae rfl (AJ ?_)
    obtain rfl:=sm a0
    exact show Exists _ from ⟨_,(),rfl,⟨rfl,rfl,rfl,rfl,rfl,rfl,rfl,rfl,rfl,rfl,rfl,trivial⟩,_,((hB.st c0).st d0).st b0,((h0.st c0).st d0).st b0,g0.st b0,((j0.st c0).st d0).st b0,((f0.st c0).st d0).st b0,((m0.st c0).st d0).st b0,((k0.st c0).st d0).st b0⟩
   replace a0:=iT a0
   refine o_z ?_
   refine Ah rfl (Aj (Am rfl rfl (AF rfl rfl ?_)))
   replace l0:=l0.st b0
   refine AE (hc:=Blk.cell (i:=1) (l0.1) rfl) rfl rfl ?_
   refine AF rfl rfl (AE (hc:=Blk.cell (i:=2) (l0.1) rfl) rfl rfl ?_)
   obtain ⟨y4,b3,a0⟩:=bs a0
   obtain ⟨c3,u1⟩:=AO b3
   replace f0:=((f0.st c0).st d0).st b0
   obtain ⟨z4,a5,q3,a1,v1,r3,rfl,b5⟩:=f0.elem u1
   refine BW (hA:=a1) (hj:=(Int.toNat_of_nonneg c3).symm) (hlt:=v1) rfl rfl rfl ?_
   refine Dq rfl f0 (a:=t0.val) (vInt v2) a1 rfl rfl (AC u1) fun c5 p0 f0=>?_
   refine o_z ?_
   obtain rfl:=sm a0
   exact show Exists _ from ⟨_,(),rfl,⟨rfl,rfl,rfl,rfl,rfl,rfl,rfl,rfl,rfl,rfl,rfl,trivial⟩,_,(((hB.st c0).st d0).st b0).st p0,(((h0.st c0).st d0).st b0).st p0,(g0.st b0).st p0,(((j0.st c0).st d0).st b0).st p0,f0,(((m0.st c0).st d0).st b0).st p0,(((k0.st c0).st d0).st b0).st p0⟩
  replace hB:=hB.st r0
  replace g0:=g0.st r0
  replace m0:=m0.st r0
  replace j0:=j0.st r0
  rintro d5 e5 ⟨w1,f5,rfl,y1,g5,hB,h0,g0,j0,f0,m0⟩
  replace e0:=Bo e0
  refine AP _ y1 ?_
  refine Aj (Am rfl rfl (Am rfl rfl (Am rfl rfl (EK rfl rfl rfl ?_))))
  obtain ⟨h5,q0,f0⟩:=f0.freeze
  obtain ⟨i5,d1,e0⟩:=bs e0
  obtain ⟨d1,d3,e3⟩:=Cg d1
  replace j0:=j0.st q0
  refine Ej rfl (a:=(⟨i1,w1⟩:Suc)) j0 (Vb.ofAgg (cs:=[(.int .i64 i1),(.slice l1 k1.length m1)]) (x:=(⟨i1,w1⟩:Suc)) rfl ⟨_,rfl,f0,x3⟩) (fun _=>rfl) rfl (by decide) (by decide) d3 e3 ⟨rfl,rfl⟩ fun j5 f3 g3 k5 l5 y0 z1=>?_
  rw [← d1] at z1 ⊢
  refine Ar rfl rfl (o_z ?_)
  obtain rfl:=sm e0
  exact show Exists _ from ⟨_,(f3,g3),rfl,⟨rfl,rfl,rfl,rfl,rfl,rfl,trivial⟩,_,(hB.st q0).st y0,(h0.st q0).st y0,(g0.st q0).st y0,z1,(m0.st q0).st y0⟩
 replace hB:=hB.st b2
 rintro m5 h3 ⟨n5,o5,rfl,a2,p5,hB,j0⟩
 replace hm:=Bo hm
 refine AP _ a2 ?_
 refine Al (Aj (Am rfl rfl (Ar rfl rfl (o_z ?_))))
 refine AK ?_
 obtain ⟨i3,j3,j0⟩:=j0.freeze
 obtain rfl:=sm hm
 replace hB:=hB.st j3
 exact ret1v rfl (AB rfl) ⟨hB.ext,(Vb.mono (F:=Fr 0 h3 i3) j0 hB.out)⟩
end
theorem Ju {s:List Int} (hl:s.length≤1000000):BH s=some s:=if_pos ⟨by omega,by omega⟩
theorem Pm {t:Tsk} {s:List Int} (hok:TaskOk t) (hl:s.length≤1000000):Bj (some ⟨t⟩) s=some ((appS t s).map (sucOf t s)):=by
  have ha:Cb (some ⟨t⟩) s=some (appS t s):=if_pos hl
  have hol:=hok.2.1
  have hal:=Od t s
  unfold Bj
  rw [ha,At]
  rw [Et (fun k=>((appS t s).take k).map (sucOf t s)) ?_ ?_,At,Db,List.take_length]
  · rfl
  intro k x hk
  have hkl:=AC hk
  obtain ⟨hst,hmem⟩:=Oa (List.mem_of_getElem? hk)
  obtain ⟨j,o,rfl,hj,hp⟩:=NZ hmem
  rw [Ju hl,At,At,Ct,hj,At,Lk (hok.effs hst j o hj) Da (fun _ _=>rfl) s rfl,At,Db,CD (by simp;omega) (by simp;omega),At,List.take_add_one,hk,List.map_append]
  simp [sucOf,hj,succ]
theorem Nn {t:Tsk} (h:TaskOk t):DP t=some (some ⟨t⟩,⟨0⟩):=by unfold DP;rw [Ch h,Es,Ht.2 h]
end
section
open Go Go.RowKit
abbrev U64:=BitVec 64
instance:Rp U64 where
  isAgg:=false
  size:=1
  R _ _ cs x:=cs=[.int .u64 (x.toNat:Int)]
  len:=by rintro w F cs x rfl;rfl
  one:=by
    rintro w F cs x rfl u hu
    have:u=.int .u64 (x.toNat:Int):=by simpa using hu
    subst this;rfl
  agree:=fun h _=>h
  mono:=fun h _=>h
theorem Vb.u64 {w:World} {F:Nat→Prop} {v:Value} {x:U64} (h:Vb w F v x):v=.int .u64 (x.toNat:Int):=by
  have:[v]=[.int .u64 (x.toNat:Int)]:=h
  simpa using this
theorem vU64 {w:World} {F:Nat→Prop} {x:U64}:Vb w F (.int .u64 (x.toNat:Int)) x:=rfl
theorem wrapU (a:Int):IntKind.u64.wrap a=a % 18446744073709551616:=by simp [IntKind.wrap,IntKind.bits,IntKind.signed]
theorem wrapN (x:BitVec 64):IntKind.u64.wrap (x.toNat:Int)=(x.toNat:Int):=by
  rw [wrapU]
  have:=x.isLt
  omega
theorem ofIntU (x:U64):BitVec.ofInt 64 (x.toNat:Int)=x:=by simp
def shlU (a:U64) (q:Int):Option U64:=if 0≤q then some (a <<< q.toNat) else none
def shrU (a:U64) (q:Int):Option U64:=if 0≤q then some (a >>> q.toNat) else none
def shlI (a q:Int):Option Int:=if 0≤q then some (wr (a * 2 ^ (min q.toNat 64))) else none
theorem Oi {a q c:Int} (h:shlI a q=some c):inI64 c:=by
  unfold shlI at h
  split at h
  · rw [← sm h];exact PT _
  · cases h
theorem toIntR (a:U64):inI64 a.toInt:=by
  have h1:=BitVec.toInt_lt (x:=a)
  have h2:=BitVec.le_toInt (x:=a)
  simp at h1 h2
  exact ⟨by omega,by omega⟩
section
variable {P : Program} {l : Env} {w : World} {dst : Option Tmp} {ty : TypeId} {pos : String} {aft : Array Edge}
theorem Qb {t u:TypeId} {x y:Operand} {a b:U64} (hx:opv l x=some (.int .u64 (a.toNat:Int))) (hy:opv l y=some (.int .u64 (b.toNat:Int))):Ev P ⟨dst,.binOp .and t x y u,ty,pos,aft,none⟩ l w (.int .u64 ((a &&& b).toNat:Int)):=fun _ _ d ha=>by
  have h:=wrapN (a &&& b)
  have h1:(BitVec.ofInt IntKind.u64.bits (a.toNat:Int))=a:=ofIntU a
  have h2:(BitVec.ofInt IntKind.u64.bits (b.toNat:Int))=b:=ofIntU b
  simp only [execOp,ha.eval hx,ha.eval hy,eqGuard,binOp,Op.intBits,h1,h2]
  simp
  exact h.trans (by simp)
theorem Qc {t u:TypeId} {x y:Operand} {a b:U64} (hx:opv l x=some (.int .u64 (a.toNat:Int))) (hy:opv l y=some (.int .u64 (b.toNat:Int))):Ev P ⟨dst,.binOp .or t x y u,ty,pos,aft,none⟩ l w (.int .u64 ((a ||| b).toNat:Int)):=fun _ _ d ha=>by
  have h:=wrapN (a ||| b)
  have h1:(BitVec.ofInt IntKind.u64.bits (a.toNat:Int))=a:=ofIntU a
  have h2:(BitVec.ofInt IntKind.u64.bits (b.toNat:Int))=b:=ofIntU b
  simp only [execOp,ha.eval hx,ha.eval hy,eqGuard,binOp,Op.intBits,h1,h2]
  simp
  exact h.trans (by simp)
theorem Qd {t u:TypeId} {x y:Operand} {a b:U64} (hx:opv l x=some (.int .u64 (a.toNat:Int))) (hy:opv l y=some (.int .u64 (b.toNat:Int))):Ev P ⟨dst,.binOp .xor t x y u,ty,pos,aft,none⟩ l w (.int .u64 ((a ^^^ b).toNat:Int)):=fun _ _ d ha=>by
  have h:=wrapN (a ^^^ b)
  have h1:(BitVec.ofInt IntKind.u64.bits (a.toNat:Int))=a:=ofIntU a
  have h2:(BitVec.ofInt IntKind.u64.bits (b.toNat:Int))=b:=ofIntU b
  simp only [execOp,ha.eval hx,ha.eval hy,eqGuard,binOp,Op.intBits,h1,h2]
  simp
  exact h.trans (by simp)
theorem Qe {t u:TypeId} {x y:Operand} {a b:U64} (hx:opv l x=some (.int .u64 (a.toNat:Int))) (hy:opv l y=some (.int .u64 (b.toNat:Int))):Ev P ⟨dst,.binOp .andNot t x y u,ty,pos,aft,none⟩ l w (.int .u64 ((a &&& ~~~b).toNat:Int)):=fun _ _ d ha=>by
  have h:=wrapN (a &&& ~~~b)
  have h1:(BitVec.ofInt IntKind.u64.bits (a.toNat:Int))=a:=ofIntU a
  have h2:(BitVec.ofInt IntKind.u64.bits (b.toNat:Int))=b:=ofIntU b
  simp only [execOp,ha.eval hx,ha.eval hy,eqGuard,binOp,Op.intBits,h1,h2]
  simp
  exact h.trans (by simp)
theorem Qf {t u:TypeId} {x y:Operand} {a b:U64} (hx:opv l x=some (.int .u64 (a.toNat:Int))) (hy:opv l y=some (.int .u64 (b.toNat:Int))):Ev P ⟨dst,.binOp .add t x y u,ty,pos,aft,none⟩ l w (.int .u64 ((a + b).toNat:Int)):=fun _ _ d ha=>by
  have h:IntKind.u64.wrap ((a.toNat:Int) + (b.toNat:Int))=((a + b).toNat:Int):=by
    rw [wrapU]
    have h1:=a.isLt
    have h2:=b.isLt
    rw [BitVec.toNat_add];omega
  simp [execOp,ha.eval hx,ha.eval hy,eqGuard,binOp,Op.intArith,h]
theorem Qg {t u:TypeId} {x y:Operand} {a b:U64} (hx:opv l x=some (.int .u64 (a.toNat:Int))) (hy:opv l y=some (.int .u64 (b.toNat:Int))):Ev P ⟨dst,.binOp .sub t x y u,ty,pos,aft,none⟩ l w (.int .u64 ((a - b).toNat:Int)):=fun _ _ d ha=>by
  have h:IntKind.u64.wrap ((a.toNat:Int) - (b.toNat:Int))=((a - b).toNat:Int):=by
    rw [wrapU]
    have h1:=a.isLt
    have h2:=b.isLt
    rw [BitVec.toNat_sub];omega
  simp [execOp,ha.eval hx,ha.eval hy,eqGuard,binOp,Op.intArith,h]
theorem Qh {t u:TypeId} {x y:Operand} {a b:U64} (hx:opv l x=some (.int .u64 (a.toNat:Int))) (hy:opv l y=some (.int .u64 (b.toNat:Int))):Ev P ⟨dst,.binOp .mul t x y u,ty,pos,aft,none⟩ l w (.int .u64 ((a * b).toNat:Int)):=fun _ _ d ha=>by
  have h:IntKind.u64.wrap ((a.toNat:Int) * (b.toNat:Int))=((a * b).toNat:Int):=by
    rw [wrapU]
    have h1:=a.isLt
    have h2:=b.isLt
    rw [BitVec.toNat_mul,Int.natCast_emod,Int.natCast_mul];rfl
  simp [execOp,ha.eval hx,ha.eval hy,eqGuard,binOp,Op.intArith,h]
theorem Qi {t u:TypeId} {x y:Operand} {a c:U64} {q:Int} {k:IntKind} (hx:opv l x=some (.int .u64 (a.toNat:Int))) (hy:opv l y=some (.int k q)) (he:shlU a q=some c):Ev P ⟨dst,.binOp .shl t x y u,ty,pos,aft,none⟩ l w (.int .u64 (c.toNat:Int)):=fun _ _ d ha=>by
  unfold shlU at he
  split at he
  · rename_i hq
    have hc:=sm he
    subst hc
    have h:IntKind.u64.wrap ((a.toNat:Int) * 2 ^ (min q.toNat IntKind.u64.bits))=((a <<< q.toNat).toNat:Int):=by
      rw [wrapU,BitVec.toNat_shiftLeft,Nat.shiftLeft_eq]
      show (a.toNat:Int) * 2 ^ (min q.toNat 64) % 18446744073709551616=((a.toNat * 2 ^ q.toNat % 18446744073709551616:Nat):Int)
      by_cases hk:q.toNat≤64
      · rw [Nat.min_eq_left hk,Int.natCast_emod,Int.natCast_mul,Int.natCast_pow];rfl
      · have hb:q.toNat=64 + (q.toNat - 64):=by omega
        rw [Nat.min_eq_right (by omega),hb,Nat.pow_add]
        have e1:a.toNat * (2 ^ 64 * 2 ^ (q.toNat - 64)) % 18446744073709551616=0:=by
          rw [← Nat.mul_assoc,Nat.mul_right_comm]
          exact Nat.mul_mod_left _ _
        have e2:(a.toNat:Int) * 2 ^ 64 % 18446744073709551616=0:=Int.mul_emod_left _ _
        rw [e1,e2];rfl
    have hn:¬ q < 0:=by omega
    simp [execOp,ha.eval hx,ha.eval hy,eqGuard,binOp,Op.shift,hn,h]
  · cases he
theorem No {t u:TypeId} {x y:Operand} {a c:U64} {q:Int} {k:IntKind} (hx:opv l x=some (.int .u64 (a.toNat:Int))) (hy:opv l y=some (.int k q)) (he:shrU a q=some c):Ev P ⟨dst,.binOp .shr t x y u,ty,pos,aft,none⟩ l w (.int .u64 (c.toNat:Int)):=fun _ _ d ha=>by
  unfold shrU at he
  split at he
  · rename_i hq
    have hc:=sm he
    subst hc
    have h:(a.toNat:Int).fdiv (2 ^ (min q.toNat IntKind.u64.bits))=((a >>> q.toNat).toNat:Int):=by
      rw [BitVec.toNat_ushiftRight,Nat.shiftRight_eq_div_pow]
      show (a.toNat:Int).fdiv (2 ^ (min q.toNat 64))=_
      have hl:=a.isLt
      rw [Int.fdiv_eq_ediv_of_nonneg _ (by exact_mod_cast Nat.zero_le (2 ^ (min q.toNat 64)))]
      by_cases hk:q.toNat≤64
      · rw [Nat.min_eq_left hk,Int.natCast_ediv,Int.natCast_pow];rfl
      · rw [Nat.min_eq_right (by omega)]
        have e1:a.toNat / 2 ^ q.toNat=0:=Nat.div_eq_of_lt (Nat.lt_of_lt_of_le hl (Nat.pow_le_pow_right (by decide) (by omega)))
        rw [e1]
        omega
    have hn:¬ q < 0:=by omega
    simp [execOp,ha.eval hx,ha.eval hy,eqGuard,binOp,Op.shift,hn,h]
  · cases he
theorem Qj {t u:TypeId} {x y:Operand} {a c q:Int} (hx:opv l x=some (.int .i64 a)) (hy:opv l y=some (.int .i64 q)) (he:shlI a q=some c):Ev P ⟨dst,.binOp .shl t x y u,ty,pos,aft,none⟩ l w (.int .i64 c):=fun _ _ d ha=>by
  unfold shlI at he
  split at he
  · rename_i hq
    have hc:=sm he
    subst hc
    have hn:¬ q < 0:=by omega
    simp [execOp,ha.eval hx,ha.eval hy,eqGuard,binOp,Op.shift,hn,wr,IntKind.bits]
  · cases he
theorem Np {s t:TypeId} {k:IntKind} [hs:TInt P s k] [ht:TInt P t .u64] {x:Operand} {a:Int} (hx:opv l x=some (.int k a)):Ev P ⟨dst,.convert s t x,ty,pos,aft,none⟩ l w (.int .u64 ((BitVec.ofInt 64 a).toNat:Int)):=fun _ _ d ha=>by
  have h:IntKind.u64.wrap a=((BitVec.ofInt 64 a).toNat:Int):=by
    rw [wrapU,BitVec.toNat_ofInt]
    have:(0:Int)≤a % 18446744073709551616:=by omega
    simp
    omega
  simp [execOp,ha.eval hx,convert,run_underlying hs.eq,run_underlying ht.eq,Conv.intToInt,h]
theorem Nq {s t:TypeId} [hs:TInt P s .u64] [ht:TInt P t .i64] {x:Operand} {a:U64} (hx:opv l x=some (.int .u64 (a.toNat:Int))):Ev P ⟨dst,.convert s t x,ty,pos,aft,none⟩ l w (.int .i64 a.toInt):=fun _ _ d ha=>by
  have h:IntKind.i64.wrap (a.toNat:Int)=a.toInt:=by
    rw [IntKind.wrap_i64,BitVec.toInt_eq_toNat_cond]
    have:=a.isLt
    split<;>omega
  simp [execOp,ha.eval hx,convert,run_underlying hs.eq,run_underlying ht.eq,Conv.intToInt,h]
end
section
variable {P : Program} {n : Nat} {ops : Array Oper} {Q : Post} {rest : List Oper} {l : Env} {w : World} {d : Tmp} {ty : TypeId} {pos : String} {aft : Array Edge}
theorem OU {t u:TypeId} {x y:Operand} {a b:U64} (hx:opv l x=some (.int .u64 (a.toNat:Int))) (hy:opv l y=some (.int .u64 (b.toNat:Int))) (hd:Nat.blt d n=true) (h:owp P n ops Q rest ((d,.int .u64 ((a ^^^ b).toNat:Int)) :: l) w)  : owp P n ops Q (⟨some d,.binOp .xor t x y u,ty,pos,aft,none⟩ :: rest) l w:=Ba (Qd hx hy) hd h
theorem QR {t u:TypeId} {x y:Operand} {a b:U64} (hx:opv l x=some (.int .u64 (a.toNat:Int))) (hy:opv l y=some (.int .u64 (b.toNat:Int))) (hd:Nat.blt d n=true) (h:owp P n ops Q rest ((d,.int .u64 ((a + b).toNat:Int)) :: l) w)  : owp P n ops Q (⟨some d,.binOp .add t x y u,ty,pos,aft,none⟩ :: rest) l w:=Ba (Qf hx hy) hd h
theorem QS {t u:TypeId} {x y:Operand} {a b:U64} (hx:opv l x=some (.int .u64 (a.toNat:Int))) (hy:opv l y=some (.int .u64 (b.toNat:Int))) (hd:Nat.blt d n=true) (h:owp P n ops Q rest ((d,.int .u64 ((a * b).toNat:Int)) :: l) w)  : owp P n ops Q (⟨some d,.binOp .mul t x y u,ty,pos,aft,none⟩ :: rest) l w:=Ba (Qh hx hy) hd h
theorem OV {t u:TypeId} {x y:Operand} {a c:U64} {q:Int} {k:IntKind} (hx:opv l x=some (.int .u64 (a.toNat:Int))) (hy:opv l y=some (.int k q)) (hd:Nat.blt d n=true) (h:owp P n ops Q rest ((d,.int .u64 (c.toNat:Int)) :: l) w) (he:shrU a q=some c:=by assumption):owp P n ops Q (⟨some d,.binOp .shr t x y u,ty,pos,aft,none⟩ :: rest) l w:=Ba (No hx hy he) hd h
theorem QT {t u:TypeId} {x y:Operand} {a c q:Int} (hx:opv l x=some (.int .i64 a)) (hy:opv l y=some (.int .i64 q)) (hd:Nat.blt d n=true) (h:owp P n ops Q rest ((d,.int .i64 c) :: l) w) (he:shlI a q=some c:=by assumption):owp P n ops Q (⟨some d,.binOp .shl t x y u,ty,pos,aft,none⟩ :: rest) l w:=Ba (Qj hx hy he) hd h
theorem QU {s t:TypeId} {k:IntKind} [TInt P s k] [TInt P t .u64] {x:Operand} {a:Int} (hx:opv l x=some (.int k a)) (hd:Nat.blt d n=true) (h:owp P n ops Q rest ((d,.int .u64 ((BitVec.ofInt 64 a).toNat:Int)) :: l) w)  : owp P n ops Q (⟨some d,.convert s t x,ty,pos,aft,none⟩ :: rest) l w:=Ba (Np hx) hd h
theorem QV {s t:TypeId} [TInt P s .u64] [TInt P t .i64] {x:Operand} {a:U64} (hx:opv l x=some (.int .u64 (a.toNat:Int))) (hd:Nat.blt d n=true) (h:owp P n ops Q rest ((d,.int .i64 a.toInt) :: l) w)  : owp P n ops Q (⟨some d,.convert s t x,ty,pos,aft,none⟩ :: rest) l w:=Ba (Nq hx) hd h
variable {S : World → Prop} {r : List (Nat × Bool)} {i : Nat}
theorem QW {t u:TypeId} {x y:Operand} {a b:U64} (hi:ops[i]?=some ⟨some d,.binOp .and t x y u,ty,pos,aft,none⟩) (hx:opv l x=some (.int .u64 (a.toNat:Int))) (hy:opv l y=some (.int .u64 (b.toNat:Int))) (hd:Nat.blt d n=true) (h:hwp P n ops Q S r ((d,.int .u64 ((a &&& b).toNat:Int)) :: l) w)  : hwp P n ops Q S ((i,true) :: r) l w:=Az hi (AY (fun _ _=>Qb hx hy) hd h)
theorem QX {t u:TypeId} {x y:Operand} {a b:U64} (hi:ops[i]?=some ⟨some d,.binOp .or t x y u,ty,pos,aft,none⟩) (hx:opv l x=some (.int .u64 (a.toNat:Int))) (hy:opv l y=some (.int .u64 (b.toNat:Int))) (hd:Nat.blt d n=true) (h:hwp P n ops Q S r ((d,.int .u64 ((a ||| b).toNat:Int)) :: l) w)  : hwp P n ops Q S ((i,true) :: r) l w:=Az hi (AY (fun _ _=>Qc hx hy) hd h)
theorem QY {t u:TypeId} {x y:Operand} {a b:U64} (hi:ops[i]?=some ⟨some d,.binOp .andNot t x y u,ty,pos,aft,none⟩) (hx:opv l x=some (.int .u64 (a.toNat:Int))) (hy:opv l y=some (.int .u64 (b.toNat:Int))) (hd:Nat.blt d n=true) (h:hwp P n ops Q S r ((d,.int .u64 ((a &&& ~~~b).toNat:Int)) :: l) w)  : hwp P n ops Q S ((i,true) :: r) l w:=Az hi (AY (fun _ _=>Qe hx hy) hd h)
theorem QZ {t u:TypeId} {x y:Operand} {a b:U64} (hi:ops[i]?=some ⟨some d,.binOp .sub t x y u,ty,pos,aft,none⟩) (hx:opv l x=some (.int .u64 (a.toNat:Int))) (hy:opv l y=some (.int .u64 (b.toNat:Int))) (hd:Nat.blt d n=true) (h:hwp P n ops Q S r ((d,.int .u64 ((a - b).toNat:Int)) :: l) w)  : hwp P n ops Q S ((i,true) :: r) l w:=Az hi (AY (fun _ _=>Qg hx hy) hd h)
theorem MK {t u:TypeId} {x y:Operand} {a c:U64} {q:Int} {k:IntKind} (hi:ops[i]?=some ⟨some d,.binOp .shl t x y u,ty,pos,aft,none⟩) (hx:opv l x=some (.int .u64 (a.toNat:Int))) (hy:opv l y=some (.int k q)) (hd:Nat.blt d n=true) (h:hwp P n ops Q S r ((d,.int .u64 (c.toNat:Int)) :: l) w) (he:shlU a q=some c:=by assumption):hwp P n ops Q S ((i,true) :: r) l w:=Az hi (AY (fun _ _=>Qi hx hy he) hd h)
theorem Ra {t u:TypeId} {x y:Operand} {a c:U64} {q:Int} {k:IntKind} (hi:ops[i]?=some ⟨some d,.binOp .shr t x y u,ty,pos,aft,none⟩) (hx:opv l x=some (.int .u64 (a.toNat:Int))) (hy:opv l y=some (.int k q)) (hd:Nat.blt d n=true) (h:hwp P n ops Q S r ((d,.int .u64 (c.toNat:Int)) :: l) w) (he:shrU a q=some c:=by assumption):hwp P n ops Q S ((i,true) :: r) l w:=Az hi (AY (fun _ _=>No hx hy he) hd h)
theorem Rb {s t:TypeId} {k:IntKind} [TInt P s k] [TInt P t .u64] {x:Operand} {a:Int} (hi:ops[i]?=some ⟨some d,.convert s t x,ty,pos,aft,none⟩) (hx:opv l x=some (.int k a)) (hd:Nat.blt d n=true) (h:hwp P n ops Q S r ((d,.int .u64 ((BitVec.ofInt 64 a).toNat:Int)) :: l) w)  : hwp P n ops Q S ((i,true) :: r) l w:=Az hi (AY (fun _ _=>Np hx) hd h)
theorem Rc {s t:TypeId} [TInt P s .u64] [TInt P t .i64] {x:Operand} {a:U64} (hi:ops[i]?=some ⟨some d,.convert s t x,ty,pos,aft,none⟩) (hx:opv l x=some (.int .u64 (a.toNat:Int))) (hd:Nat.blt d n=true) (h:hwp P n ops Q S r ((d,.int .i64 a.toInt) :: l) w)  : hwp P n ops Q S ((i,true) :: r) l w:=Az hi (AY (fun _ _=>Nq hx) hd h)
end
end
section
open Go Go.RowKit
attribute [local irreducible] ewp owp hwp hwq hws Ev Evg Fn retPost loud loudS Res1
attribute [local irreducible] hwx loudX
structure QEn where
  key:Int
  tie:Int
  item:Int
  number:Int
instance:Rp QEn where
  isAgg:=true
  size:=4
  R w F cs x:=cs=[.int .i64 x.key,.int .i64 x.tie,.int .i64 x.item,.int .i64 x.number]∧inI64 x.key∧inI64 x.tie∧inI64 x.item∧inI64 x.number
  len:=by rintro w F cs x ⟨rfl,h0,h1,h2,h3⟩;rfl
  one:=by rintro w F cs x ⟨rfl,h0,h1,h2,h3⟩ u hu;simp at hu;rcases hu with rfl|rfl|rfl|rfl<;>first|rfl|exact Vb.one rfl (by assumption)
  agree:=by rintro w w' F cs x ⟨rfl,h0,h1,h2,h3⟩ ha;exact ⟨rfl,h0,h1,h2,h3⟩
  mono:=by rintro w F G cs x ⟨rfl,h0,h1,h2,h3⟩ ha;exact ⟨rfl,h0,h1,h2,h3⟩
structure Que where
  heap:List QEn
  next:Int
instance:Ow Que where
  R w F M v x:=∃ (g:Nat) (L:Lab) (c0:Value),v=.pointer (some ⟨g,0,none⟩)∧Blk w g 200 [c0,.int .i64 x.next]∧M g∧L g=0∧RwM w F (fun k=>M k∧L k=1) 202 c0 x.heap∧inI64 x.next
  agree:=by rintro w w' F M v x ⟨g,L,c0,rfl,hb,hM,hL,h0,h1⟩ a1 a2;exact ⟨g,L,c0,rfl,hb.keep (a2 g hM),hM,hL,h0.agree a1 fun k hk=>a2 k hk.1,h1⟩
  mono:=by rintro w F M F' M' v x ⟨g,L,c0,rfl,hb,hM,hL,h0,h1⟩ a1 a2 a3;exact ⟨g,L,c0,rfl,hb,a2 g hM,hL,h0.mono a1 (fun k hk=>⟨a2 k hk.1,hk.2⟩) fun k hf hm=>a3 k hf hm.1,h1⟩
instance:OwP Que:=⟨by rintro w F M v x ⟨g,L,c0,rfl,_⟩;exact ⟨g,rfl⟩⟩
theorem Que.opn {i:Nat} {w:World} {O:Lab} {p:Nat} {x:Que} (h:Ob i w O (.pointer (some ⟨p,0,none⟩)) x) (l0 l1:Nat) (hl:l0≠0∧l1≠0):∃ (O':Lab) (c0:Value),St (eT i) w O w O'∧(∀ k,Fr i w O k→∃ q,q∈[l0,l1]∧Fr q w O' k)∧Lc l0 w O' p 200 [c0,.int .i64 x.next]∧Rw l1 w O' 202 c0 x.heap∧inI64 x.next:=by
  obtain ⟨⟨g,L,c0,hv,hb,hM,hL,h0,h1⟩,hi⟩:=h
  obtain rfl:p=g:=by injection hv with hv;injection hv with hv;injection hv
  exact ⟨part O i L [l0,l1],c0,IQ hi,Hv (by simp),⟨hb,(ED (j:=0) rfl p ⟨hM,hL⟩).2⟩,h0.rw (CQ hi) (ED (j:=1) rfl) hl.2,h1⟩
theorem Que.shut {w:World} {O:Lab} {p:Nat} {x:Que} {l0 l1:Nat} {c0:Value} (hd:¬ 0∈[l0,l1]∧[l0,l1].idxOf l0=0∧[l0,l1].idxOf l1=1) (hb:Lc l0 w O p 200 [c0,.int .i64 x.next]) (h0:Rw l1 w O 202 c0 x.heap) (h1:inI64 x.next):∃ O',St (·∈[l0,l1]) w O w O'∧(∀ k,Fr 0 w O k→Fr 0 w O' k)∧(∀ q,q∈[l0,l1]→∀ k,Fr q w O k→Fr l0 w O' k)∧Ob l0 w O' (.pointer (some ⟨p,0,none⟩)) x:=by
  have hb1:l0≠0:=fun e=>hd.1 (by simp [e])
  have hg:=Ea (i:=l0) hd.2.1 (by simp) p ⟨hb.1.lt,hb.2⟩
  exact ⟨whole O l0 [l0,l1],Hw,Ca hd.1,GQ,⟨p,fun k=>[l0,l1].idxOf (O k),c0,rfl,hb.1,hg.1,hg.2,h0.m (Ca hd.1) (Ea hd.2.2 (by simp)) (fun k a b=>frNe0 hb1 k a b.1),h1⟩,hb1⟩
noncomputable def DG  : Option (Option Que) :=
  some (some (⟨([]:List QEn),0⟩:Que))
theorem Ll {w:World} {O:Lab} (j0:Nat) (hj0:j0≠0) {r:(Option Que)} (hm:DG  = some r) :
    Fn Tryz.prog 92 [] w fun v w'=>∃ O',St nT w O w' O'∧Obo j0 w' O' v r:=by
 obtain ⟨O0,hE,d0⟩:=ent0 (w:=w) (O:=O)
 have hB:Bm w O0 w O0:=Bm.refl
 refine AI Tryz.func92 rfl Tryz.ntmps92 rfl ?_
 unfold DG at hm
 refine Al (Aj (Ar rfl rfl (o_z ?_)))
 refine Al (Aj (EK rfl rfl rfl ?_))
 refine EJ 2 O0 rfl rfl fun g1 w2 O3 S4 h5=>?_
 replace h5:Lc 2 w2 O3 g1 200 [(.slice none 0 0),(.int .i64 0)]:=h5
 refine Ar rfl rfl (o_z ?_)
 refine AK ?_
 have h6:Rw 3 w2 O3 202 (.slice none 0 0) ([]:List QEn):=Rw.nil 3 (by decide)
 obtain ⟨O8,S9,a0,b0,c0⟩:=Que.shut (x:=(⟨([]:List QEn),0⟩:Que)) (l0:=2) (l1:=3) (by decide) h5 h6 (show inI64 0 from by decide)
 obtain rfl:=sm hm
 replace hB:=(hB.st S4).st S9
 obtain ⟨O',hS',hz,hl⟩:=hE.leave (fun q=>if q=2 then j0 else 0) rfl hB
 exact ret1v rfl (AB rfl) ⟨O',hS',(Ob.leave c0 hz (hl 2 (by decide) (by decide)) hj0)⟩
noncomputable def BS (x0:QEn) (x1:QEn):Option Bool :=
  if x0.key≠x1.key then (bnd (if x0.key < x1.key then (some true) else (some false):Option Bool) fun y24=>some y24) else (if x0.tie≠x1.tie then (bnd (if x0.tie < x1.tie then (some true) else (some false):Option Bool) fun y34=>some y34) else (bnd (if x0.number < x1.number then (some true) else (some false):Option Bool) fun y43=>some y43))
theorem Fz {w:World} {A:Nat→Prop} (hA:∀ k,A k→k < w.heap.size) {vx0:Value} {x0:QEn} (h0:Vb w A vx0 x0) {vx1:Value} {x1:QEn} (i0:Vb w A vx1 x1) {r:Bool} (hm:BS x0 x1=some r) :
    Fn Tryz.prog 132 [vx0,vx1] w fun v w'=>Ext w w'∧Vb w' (upA A w w') v r:=by
 obtain ⟨O,hB,r0⟩:=enter hA
 replace h0:=h0.mono r0
 obtain ⟨f1,rfl,rfl,r4,r5,r6,r7⟩:=h0
 replace i0:=i0.mono r0
 obtain ⟨g1,rfl,rfl,r9,h1,i1,j1⟩:=i0
 refine AI Tryz.func132 rfl Tryz.ntmps132 rfl ?_
 unfold BS at hm
 refine Al (Aj (EJ 2 O rfl rfl fun t0 u0 s0 e0 f0=>?_))
 replace f0:Lc 2 u0 s0 t0 202 [(.int .i64 x0.key),(.int .i64 x0.tie),(.int .i64 x0.item),(.int .i64 x0.number)]:=f0
 refine EJ 3 s0 rfl rfl fun v0 w0 y0 d0 g0=>?_
 replace g0:Lc 3 w0 y0 v0 202 [(.int .i64 x1.key),(.int .i64 x1.tie),(.int .i64 x1.item),(.int .i64 x1.number)]:=g0
 refine Ar rfl rfl (o_z ?_)
 refine Al (Al (Aj (AF rfl rfl ?_)))
 replace f0:=f0.st d0
 refine AE (hc:=Blk.cell (i:=0) (f0.1) rfl) rfl rfl ?_
 refine AF rfl rfl (AE (hc:=Blk.cell (i:=0) (g0.1) rfl) rfl rfl ?_)
 refine ES rfl rfl rfl (fun j0=>?_) fun j0=>?_
 ·
  replace hm:=ip hm j0
  refine o_z ?_
  refine Ah rfl (Al ?_)
  obtain ⟨z0,a0,hm⟩:=bs hm
  refine AM (fun l' w'=>∃ (a1:Unit) (O':Lab),subs l' [(4,(.bool z0))]∧Bs w A w' O') ?_ ?_
  ·
   refine Aj (AF rfl rfl (AE (hc:=Blk.cell (i:=0) (f0.1) rfl) rfl rfl ?_))
   refine AF rfl rfl (AE (hc:=Blk.cell (i:=0) (g0.1) rfl) rfl rfl ?_)
   refine DJ rfl rfl rfl (fun k0=>?_) fun k0=>?_
   ·
    replace a0:=ip a0 k0
    refine Ar rfl rfl (o_z ?_)
    obtain rfl:=sm a0
    exact ⟨(),_,⟨rfl,trivial⟩,(hB.st e0).st d0⟩
   replace a0:=im a0 k0
   refine Ar rfl rfl (o_z ?_)
   obtain rfl:=sm a0
   exact ⟨(),_,⟨rfl,trivial⟩,(hB.st e0).st d0⟩
  replace hB:=(hB.st e0).st d0
  rintro k1 l1 ⟨a1,m1,l0,hB⟩
  refine AP _ l0 ?_
  refine AK ?_
  obtain rfl:=sm hm
  exact ret1v rfl (AB rfl) ⟨hB.ext,vBool⟩
 replace hm:=im hm j0
 refine o_z ?_
 refine Ae rfl (AJ (Al (Al (Aj (AF rfl rfl (AE (hc:=Blk.cell (i:=1) (f0.1) rfl) rfl rfl ?_))))))
 refine AF rfl rfl (AE (hc:=Blk.cell (i:=1) (g0.1) rfl) rfl rfl ?_)
 refine ES rfl rfl rfl (fun m0=>?_) fun m0=>?_
 ·
  replace hm:=ip hm m0
  refine o_z ?_
  refine Ah rfl (Al ?_)
  obtain ⟨b1,b0,hm⟩:=bs hm
  refine AM (fun l' w'=>∃ (c1:Unit) (O':Lab),subs l' [(4,(.bool b1))]∧Bs w A w' O') ?_ ?_
  ·
   refine Aj (AF rfl rfl (AE (hc:=Blk.cell (i:=1) (f0.1) rfl) rfl rfl ?_))
   refine AF rfl rfl (AE (hc:=Blk.cell (i:=1) (g0.1) rfl) rfl rfl ?_)
   refine DJ rfl rfl rfl (fun n0=>?_) fun n0=>?_
   ·
    replace b0:=ip b0 n0
    refine Ar rfl rfl (o_z ?_)
    obtain rfl:=sm b0
    exact ⟨(),_,⟨rfl,trivial⟩,(hB.st e0).st d0⟩
   replace b0:=im b0 n0
   refine Ar rfl rfl (o_z ?_)
   obtain rfl:=sm b0
   exact ⟨(),_,⟨rfl,trivial⟩,(hB.st e0).st d0⟩
  replace hB:=(hB.st e0).st d0
  rintro n1 o1 ⟨c1,p1,o0,hB⟩
  refine AP _ o0 ?_
  refine AK ?_
  obtain rfl:=sm hm
  exact ret1v rfl (AB rfl) ⟨hB.ext,vBool⟩
 replace hm:=im hm m0
 refine o_z ?_
 refine Ae rfl (AJ (Al ?_))
 obtain ⟨d1,c0,hm⟩:=bs hm
 refine AM (fun l' w'=>∃ (e1:Unit) (O':Lab),subs l' [(4,(.bool d1))]∧Bs w A w' O') ?_ ?_
 ·
  refine Aj (AF rfl rfl (AE (hc:=Blk.cell (i:=3) (f0.1) rfl) rfl rfl ?_))
  refine AF rfl rfl (AE (hc:=Blk.cell (i:=3) (g0.1) rfl) rfl rfl ?_)
  refine DJ rfl rfl rfl (fun p0=>?_) fun p0=>?_
  ·
   replace c0:=ip c0 p0
   refine Ar rfl rfl (o_z ?_)
   obtain rfl:=sm c0
   exact ⟨(),_,⟨rfl,trivial⟩,(hB.st e0).st d0⟩
  replace c0:=im c0 p0
  refine Ar rfl rfl (o_z ?_)
  obtain rfl:=sm c0
  exact ⟨(),_,⟨rfl,trivial⟩,(hB.st e0).st d0⟩
 replace hB:=(hB.st e0).st d0
 rintro q1 r1 ⟨e1,s1,q0,hB⟩
 refine AP _ q0 ?_
 refine AK ?_
 obtain rfl:=sm hm
 exact ret1v rfl (AB rfl) ⟨hB.ext,vBool⟩
noncomputable def CB (x0:Que):Option Int :=
  some (x0.heap.length:Int)
theorem Iq {w:World} {O:Lab} {p0 i0:Nat} {x0:Que} (a0:Ob i0 w O (.pointer (some ⟨p0,0,none⟩)) x0) {r:Int} (hm:CB x0=some r) :
    Fn Tryz.prog 94 [(.pointer (some ⟨p0,0,none⟩))] w fun v w'=>∃ O',St (eT i0) w O w' O'∧Ob i0 w' O' (.pointer (some ⟨p0,0,none⟩)) x0∧Vb w' (Fr 0 w' O') v r:=by
 obtain ⟨O0,hE,b0,c0⟩:=ent1 (w:=w) (O:=O) a0.2
 have a0':=Ob.leave a0 b0 c0 (j:=2) (by decide)
 have hB:Bm w O0 w O0:=Bm.refl
 refine AI Tryz.func94 rfl Tryz.ntmps94 rfl ?_
 unfold CB at hm
 refine Al (Aj (Ar rfl rfl (o_z ?_)))
 refine Al (Al (Aj (Am rfl rfl (Ep rfl rfl ?_))))
 refine o_z ?_
 refine Ae rfl (AJ (Al (Aj (Am rfl rfl (BK rfl rfl ?_)))))
 obtain ⟨O2,v6,S3,m0,h4,h7,d0⟩:=Que.opn a0' 2 3 (by decide)
 obtain ⟨A8,c9,rfl⟩:=h7.form
 refine AF rfl rfl (AE (hc:=Blk.cell (i:=0) (h4.1) rfl) rfl rfl ?_)
 refine AN rfl rfl ?_
 have e0:x0.heap.length≤9223372036854775807:=Nat.le_trans h7.len.2.1 h7.len.2.2
 have f0:inI64 (x0.heap.length:Int):=rngNat e0
 refine Ar rfl rfl (o_z ?_)
 refine AK ?_
 obtain ⟨n0,g0,h0,j0,k0⟩:=Que.shut (x:=x0) (l0:=2) (l1:=3) (by decide) h4 h7 d0
 obtain rfl:=sm hm
 replace hB:=(hB.st S3).st g0
 obtain ⟨O',hS',hz,hl⟩:=hE.leave (fun q=>if q=2 then i0 else 0) rfl hB
 exact ret1v rfl (AB rfl) ⟨O',hS',(Ob.leave k0 hz (hl 2 (by decide) (by decide)) a0.2),(vInt f0)⟩
noncomputable def CK (x0:Que):Option (Int×Int×Int×Err) :=
  if (x0.heap.length:Int)=0 then (some (0,0,0,(⟨3⟩:Err))) else (bnd (atI x0.heap 0) fun a20=>some (a20.key,a20.tie,a20.item,(⟨0⟩:Err)))
theorem HU {w:World} {O:Lab} {p0 i0:Nat} {x0:Que} (b0:Ob i0 w O (.pointer (some ⟨p0,0,none⟩)) x0) {r:Int×Int×Int×Err} (hm:CK x0=some r) :
    Fn Tryz.prog 115 [(.pointer (some ⟨p0,0,none⟩))] w fun v w'=>∃ O',St (eT i0) w O w' O'∧∃ v0 v1 v2 v3:Value,Ob i0 w' O' (.pointer (some ⟨p0,0,none⟩)) x0∧v=.tuple #[v0,v1,v2,v3]∧Vb w' (Fr 0 w' O') v0 r.1∧Vb w' (Fr 0 w' O') v1 r.2.1∧Vb w' (Fr 0 w' O') v2 r.2.2.1∧Vb w' (Fr 0 w' O') v3 r.2.2.2:=by
 obtain ⟨O0,hE,n0,o0⟩:=ent1 (w:=w) (O:=O) b0.2
 have b0':=Ob.leave b0 n0 o0 (j:=2) (by decide)
 have hB:Bm w O0 w O0:=Bm.refl
 refine AI Tryz.func115 rfl Tryz.ntmps115 rfl ?_
 unfold CK at hm
 refine Al (Aj (Ar rfl rfl (Ar rfl rfl (Ar rfl rfl (Ar rfl rfl (o_z ?_))))))
 refine Al (Al (Aj (Am rfl rfl (Ep rfl rfl ?_))))
 refine Am rfl rfl (Aw rfl rfl (Am rfl rfl (Aw rfl rfl (BK rfl rfl (Aw rfl rfl ?_)))))
 obtain ⟨O2,v6,S3,k1,h4,h7,k0⟩:=Que.opn b0' 2 3 (by decide)
 obtain ⟨A8,c9,rfl⟩:=h7.form
 refine AF rfl rfl (Aw rfl rfl (AE (hc:=Blk.cell (i:=0) (h4.1) rfl) rfl rfl ?_))
 refine Aw rfl rfl (AN rfl rfl ?_)
 have q0:x0.heap.length≤9223372036854775807:=Nat.le_trans h7.len.2.1 h7.len.2.2
 have m1:inI64 (x0.heap.length:Int):=rngNat q0
 refine Aw rfl rfl (KT rfl rfl rfl (fun d0=>?_) fun d0=>?_)
 ·
  replace hm:=ip hm d0
  refine Bp rfl rfl rfl (o_z ?_)
  refine Ah rfl (Al (Aj (Er rfl rfl ?_)))
  refine Ar rfl rfl (Ar rfl rfl (Ar rfl rfl (Ar rfl rfl (o_z ?_))))
  refine AK ?_
  obtain ⟨n1,r0,s0,t0,u0⟩:=Que.shut (x:=x0) (l0:=2) (l1:=3) (by decide) h4 h7 k0
  obtain rfl:=sm hm
  replace hB:=(hB.st S3).st r0
  obtain ⟨O',hS',hz,hl⟩:=hE.leave (fun q=>if q=2 then i0 else 0) rfl hB
  exact ret4 rfl (AB rfl) (AB rfl) (AB rfl) (AB rfl) ⟨O',hS',_,_,_,_,(Ob.leave u0 hz (hl 2 (by decide) (by decide)) b0.2),rfl,(vInt (show inI64 (0) from by decide)),(vInt (show inI64 (0) from by decide)),(vInt (show inI64 (0) from by decide)),(vErr (by decide))⟩
 replace hm:=im hm d0
 refine Bp rfl rfl rfl (o_z ?_)
 refine Ae rfl (AJ (Al (Aj (Am rfl rfl (BK rfl rfl (AF rfl rfl (AE (hc:=Blk.cell (i:=0) (h4.1) rfl) rfl rfl ?_)))))))
 obtain ⟨c0,w0,hm⟩:=bs hm
 obtain ⟨y0,z0⟩:=AO w0
 obtain ⟨o1,p1,a1,e0,f0,g0,rfl,b1,c1,d1,q1⟩:=h7.elem z0
 refine BW (hA:=e0) (hj:=(Int.toNat_of_nonneg y0).symm) (hlt:=f0) rfl rfl rfl ?_
 refine BM (hl:=rfl) (hc:=g0) rfl rfl ?_
 refine Cq 4 O2 rfl fun e1 r1 f1 h0 a0=>?_
 refine Bf a0 rfl rfl rfl (BO rfl) (allOne rfl) fun m0 j0 a0=>?_
 replace a0:Lc 4 m0 f1 e1 202 [(.int .i64 c0.key),(.int .i64 c0.tie),(.int .i64 c0.item),(.int .i64 c0.number)]:=a0
 refine o_z ?_
 refine Al (Cc (·=m0) [(0,true),(1,true),(2,true),(3,true),(4,true),(5,true),(6,true),(7,true),(8,true),(9,true)] (by kernel_rfl) rfl (by kernel_rfl) rfl ?_)
 refine AR rfl rfl rfl (BZ (hc:=Blk.cell (i:=0) (a0.1) rfl) rfl rfl rfl ?_)
 refine AR rfl rfl rfl (BZ (hc:=Blk.cell (i:=1) (a0.1) rfl) rfl rfl rfl ?_)
 refine AR rfl rfl rfl (BZ (hc:=Blk.cell (i:=2) (a0.1) rfl) rfl rfl rfl ?_)
 refine Dv rfl rfl rfl (Dv rfl rfl rfl (Dv rfl rfl rfl (Dv rfl rfl rfl (h_z ?_))))
 refine AK ?_
 replace h4:=(h4.st h0).st j0
 replace h7:=(h7.st h0).st j0
 obtain ⟨s1,g1,h1,i1,j1⟩:=Que.shut (x:=x0) (l0:=2) (l1:=3) (by decide) h4 h7 k0
 obtain rfl:=sm hm
 replace hB:=(((hB.st S3).st h0).st j0).st g1
 obtain ⟨O',hS',hz,hl⟩:=hE.leave (fun q=>if q=2 then i0 else 0) rfl hB
 exact ret4 rfl (AB rfl) (AB rfl) (AB rfl) (AB rfl) ⟨O',hS',_,_,_,_,(Ob.leave j1 hz (hl 2 (by decide) (by decide)) b0.2),rfl,(vInt b1),(vInt c1),(vInt d1),(vErr (show inI64 0 from by decide))⟩
noncomputable def CI (x0:Que) (x1:Int):Option Que :=
  bnd (lop (ρ:=Que) (fun (s5:Int×Que)=>if 0 < s5.1 then (bnd (chkI (s5.1 - 1)) fun n23=>bnd (quoI n23 2) fun n26=>bnd (atI s5.2.heap s5.1) fun a39=>bnd (atI s5.2.heap n26) fun a54=>bnd (BS a39 a54) fun q69=>if q69=true then bnd (atI s5.2.heap n26) fun a81=>bnd (atI s5.2.heap s5.1) fun a96=>bnd (atI s5.2.heap s5.1) fun a111=>bnd (atI (s5.2.heap.set (s5.1:Int).toNat a81) n26) fun a128=>some (.next (n26,(⟨((s5.2.heap.set (s5.1:Int).toNat a81).set (n26:Int).toNat a96),s5.2.next⟩:Que))) else some (.ret s5.2)) else (some (.brk (s5.1,s5.2)))) (x1,x0)) fun res3=>fin res3 fun (s154:Int×Que)=>some s154.2
theorem IU {w:World} {O:Lab} {p0 i0:Nat} {x0:Que} (n0:Ob i0 w O (.pointer (some ⟨p0,0,none⟩)) x0) {x1:Int} (rx1:inI64 x1) {r:Que} (hm:CI x0 x1=some r) :
    Fn Tryz.prog 114 [(.pointer (some ⟨p0,0,none⟩)),(.int .i64 x1)] w fun v w'=>∃ O',St (eT i0) w O w' O'∧Ob i0 w' O' (.pointer (some ⟨p0,0,none⟩)) r:=by
 obtain ⟨O0,hE,v2,w2⟩:=ent1 (w:=w) (O:=O) n0.2
 have n0':=Ob.leave n0 v2 w2 (j:=2) (by decide)
 have hB:Bm w O0 w O0:=Bm.refl
 refine AI Tryz.func114 rfl Tryz.ntmps114 rfl ?_
 unfold CI at hm
 obtain ⟨d1,x2,hm⟩:=bs hm
 refine AM (aft d1 (fun (s5:Int×Que) (x6:Unit)=>[]) (fun s5 x6 w'=>∃ O':Lab,Bm w O0 w' O'∧Ob 2 w' O' (.pointer (some ⟨p0,0,none⟩)) s5.2∧inI64 s5.1)) ?_ ?_
 ·
  refine AQ (Gn (σ:=Int×Que) (X:=Unit) x2 (fun (s5:Int×Que) (x6:Unit)=>[(0,(.pointer (some ⟨p0,0,none⟩))),(1,(.int .i64 s5.1))]) _ (fun s5 x6 w'=>∃ O':Lab,Bm w O0 w' O'∧Ob 2 w' O' (.pointer (some ⟨p0,0,none⟩)) s5.2∧inI64 s5.1) _ () ⟨O0,hB,n0',rx1⟩ ⟨rfl,rfl,trivial⟩ ?_)
  rintro s5 x6 w9 y2 ⟨h5,hB,b1,d2⟩ a0 h0 j0
  refine Al (Al (Aj (Am rfl rfl (CZ rfl rfl rfl (fun e1=>?_) fun e1=>?_))))
  ·
   replace a0:=ip a0 e1
   refine o_z ?_
   refine Ah rfl (AJ (AQ (Al (Aj (Am rfl rfl ?_)))))
   obtain ⟨i5,e2,a0⟩:=bs a0
   have f2:=(Cv e2)
   refine MG (he:=e2) rfl rfl rfl ?_
   obtain ⟨g2,h2,a0⟩:=bs a0
   have z2:=Pa h2 f2
   refine QI (he:=h2) (hr:=f2) rfl rfl rfl ?_
   refine Ar rfl rfl (o_z ?_)
   refine Al (Al ?_)
   obtain ⟨c1,j5,i2,a3,c0,b0,j2⟩:=Que.opn b1 2 3 (by decide)
   obtain ⟨k5,l5,rfl⟩:=b0.form
   refine Bt [] c1 ?_
   refine AT (fuel:=2) [] [(0,true),(1,true),(2,true),(3,true),(4,true),(5,true),(6,true),(7,true),(8,true),(9,true),(10,true),(11,true),(12,true),(13,true)] (by kernel_rfl) rfl ?_
   refine AH rfl rfl rfl (Cd rfl rfl rfl (AR rfl rfl rfl (AS (hc:=fun w' ⟨O',hq⟩=>Blk.cell (i:=0) ((c0.st hq (by decide)).1) rfl) rfl rfl rfl ?_)))
   refine AH rfl rfl rfl ?_
   obtain ⟨o0,b3,a0⟩:=bs a0
   obtain ⟨c3,d3⟩:=AO b3
   obtain ⟨m5,n5,e3,f1,g1,h1,i1,rfl,f3,g3,h3,i3⟩:=b0.elemF d3
   refine BJ (hA:=f1) (hj:=(Int.toNat_of_nonneg c3).symm) (hlt:=h1) rfl rfl rfl rfl ?_
   refine ET (hl:=rfl) (hb:=fun w' ⟨O',hq⟩=>(AZ (hq.agree (i:=3) (by decide)) g1 i1)) rfl rfl rfl ?_
   refine AH rfl rfl rfl (Cd rfl rfl rfl (AR rfl rfl rfl (AS (hc:=fun w' ⟨O',hq⟩=>Blk.cell (i:=0) ((c0.st hq (by decide)).1) rfl) rfl rfl rfl ?_)))
   refine AH rfl rfl rfl ?_
   obtain ⟨q0,j3,a0⟩:=bs a0
   obtain ⟨k3,l3⟩:=AO j3
   obtain ⟨o5,p5,m3,j1,k1,m1,n1,rfl,n3,o3,p3,q3⟩:=b0.elemF l3
   refine BJ (hA:=j1) (hj:=(Int.toNat_of_nonneg k3).symm) (hlt:=m1) rfl rfl rfl rfl ?_
   refine ET (hl:=rfl) (hb:=fun w' ⟨O',hq⟩=>(AZ (hq.agree (i:=3) (by decide)) k1 n1)) rfl rfl rfl ?_
   refine AG ?_
   refine AV (i:=14) (by kernel_rfl) rfl ?_
   obtain ⟨k2,r3,a0⟩:=bs a0
   refine Ce (O:=c1) (A:=All w9) (R:=fun w' F v=>Vb w' F v k2) (Fz (fun _ h=>h) (Vb.mono (F:=Fr 0 w9 c1) (Vb.ofAgg (cs:=[(.int .i64 o0.key),(.int .i64 o0.tie),(.int .i64 o0.item),(.int .i64 o0.number)]) (x:=o0) rfl ⟨rfl,f3,g3,h3,i3⟩) Fr.lt) (Vb.mono (F:=Fr 0 w9 c1) (Vb.ofAgg (cs:=[(.int .i64 q0.key),(.int .i64 q0.tie),(.int .i64 q0.item),(.int .i64 q0.number)]) (x:=q0) rfl ⟨rfl,n3,o3,p3,q3⟩) Fr.lt) r3) rfl rfl fun q5 r5 s3 k0 t3=>?_
   obtain rfl:=t3.bool
   have hZ:=k0.lst [] (fun _ h=>h.elim)
   cases k2
   case false =>
    replace a0:=iF a0
    refine Bg [] hZ (by kernel_rfl) ?_
    refine AT (fuel:=0) [] [(15,true)] (by kernel_rfl) rfl ?_
    refine PK rfl rfl rfl (AG ?_)
    refine BC (by kernel_rfl) ?_
    refine Ah rfl (AK ?_)
    replace c0:=c0.st k0
    replace b0:=b0.st k0
    obtain ⟨t5,u3,v3,w3,x3⟩:=Que.shut (x:=s5.2) (l0:=2) (l1:=3) (by decide) c0 b0 j2
    obtain rfl:=sm a0
    obtain rfl:=h0 _ rfl
    obtain rfl:=sm (Cy hm)
    replace hB:=((hB.st i2).st k0).st u3
    obtain ⟨O',hS',hz,hl⟩:=hE.leave (fun q=>if q=2 then i0 else 0) rfl hB
    exact ret0 rfl  ⟨O',hS',(Ob.leave x3 hz (hl 2 (by decide) (by decide)) n0.2)⟩
   replace a0:=iT a0
   refine Bg [] hZ (by kernel_rfl) ?_
   refine AT (fuel:=0) [] [(15,true)] (by kernel_rfl) rfl ?_
   refine PJ rfl rfl rfl (AG ?_)
   refine BC (by kernel_rfl) ?_
   refine Ae rfl (AJ (Al (Bt [(25,[3])] s3 ?_)))
   refine AT (fuel:=4) [] [(0,true),(1,true),(2,true),(3,true),(4,true),(5,true),(6,true),(7,true),(8,true),(10,true),(11,true),(12,true),(13,true),(14,true),(15,true),(16,true),(17,true),(18,true),(19,true),(20,true),(21,true),(22,true),(23,true),(24,true)] (by kernel_rfl) rfl ?_
   refine AH rfl rfl rfl (Cd rfl rfl rfl (AR rfl rfl rfl ?_))
   replace c0:=c0.st k0
   refine AS (hc:=fun w' ⟨O',hq⟩=>Blk.cell (i:=0) ((c0.st hq (by decide)).1) rfl) rfl rfl rfl ?_
   refine AH rfl rfl rfl (AH rfl rfl rfl (Cd rfl rfl rfl (AR rfl rfl rfl (AS (hc:=fun w' ⟨O',hq⟩=>Blk.cell (i:=0) ((c0.st hq (by decide)).1) rfl) rfl rfl rfl ?_))))
   refine AH rfl rfl rfl (Cd rfl rfl rfl (AR rfl rfl rfl (AS (hc:=fun w' ⟨O',hq⟩=>Blk.cell (i:=0) ((c0.st hq (by decide)).1) rfl) rfl rfl rfl ?_)))
   refine AH rfl rfl rfl ?_
   obtain ⟨d0,y3,a0⟩:=bs a0
   obtain ⟨z3,a4⟩:=AO y3
   replace b0:=b0.st k0
   obtain ⟨u5,v5,b4,o1,p1,q1,r1,rfl,c4,d4,e4,f4⟩:=b0.elemF a4
   refine BJ (hA:=o1) (hj:=(Int.toNat_of_nonneg z3).symm) (hlt:=q1) rfl rfl rfl rfl ?_
   refine ET (hl:=rfl) (hb:=fun w' ⟨O',hq⟩=>(AZ (hq.agree (i:=3) (by decide)) p1 r1)) rfl rfl rfl ?_
   refine AH rfl rfl rfl (Cd rfl rfl rfl (AR rfl rfl rfl (AS (hc:=fun w' ⟨O',hq⟩=>Blk.cell (i:=0) ((c0.st hq (by decide)).1) rfl) rfl rfl rfl ?_)))
   refine AH rfl rfl rfl ?_
   obtain ⟨e0,g4,a0⟩:=bs a0
   obtain ⟨h4,i4⟩:=AO g4
   obtain ⟨j4,k4,l2,r0,s0,t0,u0,rfl,s1,t1,u1,v1⟩:=b0.elemF i4
   refine BJ (hA:=r0) (hj:=(Int.toNat_of_nonneg h4).symm) (hlt:=t0) rfl rfl rfl rfl ?_
   refine ET (hl:=rfl) (hb:=fun w' ⟨O',hq⟩=>(AZ (hq.agree (i:=3) (by decide)) s0 u0)) rfl rfl rfl ?_
   obtain ⟨l4,w1,a0⟩:=bs a0
   obtain ⟨y1,v0⟩:=AO w1
   obtain ⟨m4,n4,m2,f0,n2,w0,o2,rfl,o4,p4,q4,r4⟩:=b0.elemF v0
   refine BJ (hA:=f0) (hj:=(Int.toNat_of_nonneg y1).symm) (hlt:=w0) rfl rfl rfl rfl ?_
   refine AG ?_
   refine AT (fuel:=3) [3] [(9,true)] (by kernel_rfl) rfl ?_
   refine AH rfl rfl rfl (AG ?_)
   refine AV (i:=25) (by kernel_rfl) rfl ?_
   refine Dq rfl b0 (a:=d0) (Vb.ofAgg (cs:=[(.int .i64 d0.key),(.int .i64 d0.tie),(.int .i64 d0.item),(.int .i64 d0.number)]) (x:=d0) rfl ⟨rfl,c4,d4,e4,f4⟩) f0 rfl rfl (AC v0) fun s4 m0 b0=>?_
   have hZ:=m0.lst [3] (fun _ h=>by cases h;decide)
   refine Bg [] hZ (by kernel_rfl) ?_
   refine AT (fuel:=1) [] [(26,true)] (by kernel_rfl) rfl ?_
   obtain ⟨t4,z1,a0⟩:=bs a0
   obtain ⟨a2,y0⟩:=AO z1
   obtain ⟨u4,v4,p2,g0,q2,z0,r2,rfl,w4,x4,y4,z4⟩:=b0.elemF y0
   refine BJ (hA:=g0) (hj:=(Int.toNat_of_nonneg a2).symm) (hlt:=z0) rfl rfl rfl rfl ?_
   refine AG ?_
   refine AV (i:=27) (by kernel_rfl) rfl ?_
   refine Dq rfl b0 (a:=e0) (Vb.ofAgg (cs:=[(.int .i64 e0.key),(.int .i64 e0.tie),(.int .i64 e0.item),(.int .i64 e0.number)]) (x:=e0) rfl ⟨rfl,s1,t1,u1,v1⟩) g0 rfl rfl (AC y0) fun a5 a1 b0=>?_
   refine Di (by kernel_rfl) ?_
   refine BC (by kernel_rfl) ?_
   refine Aj (Am rfl rfl (Ar rfl rfl (o_z ?_)))
   replace c0:=(c0.st m0).st a1
   obtain ⟨b5,b2,s2,t2,c2⟩:=Que.shut (x:=(⟨((s5.2.heap.set (s5.1:Int).toNat d0).set (g2:Int).toNat e0),s5.2.next⟩:Que)) (l0:=2) (l1:=3) (by decide) (by have q:=c0;rw [← ((by simp:((s5.2.heap.set (s5.1:Int).toNat d0).set (g2:Int).toNat e0).length=(s5.2.heap.set (s5.1:Int).toNat d0).length).trans ((by simp:(s5.2.heap.set (s5.1:Int).toNat d0).length=s5.2.heap.length).trans rfl))] at q;exact q) b0.relen j2
   obtain rfl:=sm a0
   exact show Exists _ from ⟨_,(),rfl,⟨rfl,rfl,trivial⟩,_,((((hB.st i2).st k0).st m0).st a1).st b2,c2,z2⟩
  replace a0:=im a0 e1
  refine o_z ?_
  refine Ae rfl (DW ?_)
  obtain rfl:=sm a0
  exact show Exists _ from ⟨_,(),j0 _ rfl,trivial,_,hB,b1,d2⟩
 rintro c5 d5 ⟨e5,f5,rfl,u2,g5,hB,b1,d2⟩
 replace hm:=Bo hm
 obtain rfl:=sm hm
 obtain ⟨O',hS',hz,hl⟩:=hE.leave (fun q=>if q=2 then i0 else 0) rfl hB
 exact ret0n rfl  ⟨O',hS',(Ob.leave b1 hz (hl 2 (by decide) (by decide)) n0.2)⟩
noncomputable def Cw (x0:Que) (x1:Int):Option Que :=
  bnd (lop (ρ:=Que) (fun (s5:Int×Que)=>bnd (chkI (2 * s5.1)) fun n22=>bnd (chkI (n22 + 1)) fun n25=>if (s5.2.heap.length:Int)≤n25 then (some (.ret s5.2)) else (bnd (bnd (bnd (chkI (n25 + 1)) fun n55=>if n55 < (s5.2.heap.length:Int) then (bnd (chkI (n25 + 1)) fun n61=>bnd (atI s5.2.heap n61) fun a64=>bnd (atI s5.2.heap n25) fun a79=>bnd (BS a64 a79) fun q94=>if q94=true then some true else some false) else (some false):Option Bool) fun y51=>if y51=true then (bnd (chkI (n25 + 1)) fun n121=>some n121) else (some n25):Option Int) fun y46=>bnd (atI s5.2.heap y46) fun a138=>bnd (atI s5.2.heap s5.1) fun a153=>bnd (BS a138 a153) fun q168=>if q168=true then bnd (atI s5.2.heap y46) fun a180=>bnd (atI s5.2.heap s5.1) fun a195=>bnd (atI s5.2.heap s5.1) fun a210=>bnd (atI (s5.2.heap.set (s5.1:Int).toNat a180) y46) fun a227=>some (.next (y46,(⟨((s5.2.heap.set (s5.1:Int).toNat a180).set (y46:Int).toNat a195),s5.2.next⟩:Que))) else some (.ret s5.2))) (x1,x0)) fun res3=>fin res3 fun (_:Int×Que)=>none
theorem HV {w:World} {O:Lab} {p0 i0:Nat} {x0:Que} (y0:Ob i0 w O (.pointer (some ⟨p0,0,none⟩)) x0) {x1:Int} (rx1:inI64 x1) {r:Que} (hm:Cw x0 x1=some r) :
    Fn Tryz.prog 116 [(.pointer (some ⟨p0,0,none⟩)),(.int .i64 x1)] w fun v w'=>∃ O',St (eT i0) w O w' O'∧Ob i0 w' O' (.pointer (some ⟨p0,0,none⟩)) r:=by
 obtain ⟨O0,hE,p5,q5⟩:=ent1 (w:=w) (O:=O) y0.2
 have y0':=Ob.leave y0 p5 q5 (j:=2) (by decide)
 have hB:Bm w O0 w O0:=Bm.refl
 refine AI Tryz.func116 rfl Tryz.ntmps116 rfl ?_
 unfold Cw at hm
 obtain ⟨j2,r5,hm⟩:=bs hm
 refine AM (aft j2 (fun (s5:Int×Que) (x6:Unit)=>[]) (fun s5 x6 w'=>False)) ?_ ?_
 ·
  refine AQ (Gn (σ:=Int×Que) (X:=Unit) r5 (fun (s5:Int×Que) (x6:Unit)=>[(0,(.pointer (some ⟨p0,0,none⟩))),(1,(.int .i64 s5.1))]) _ (fun s5 x6 w'=>∃ O':Lab,Bm w O0 w' O'∧Ob 2 w' O' (.pointer (some ⟨p0,0,none⟩)) s5.2∧inI64 s5.1) _ () ⟨O0,hB,y0',rx1⟩ ⟨rfl,rfl,trivial⟩ ?_)
  rintro s5 x6 w9 t5 ⟨u8,hB,u5,v8⟩ a0 m0 k2
  refine AQ (Al (Aj (Am rfl rfl ?_)))
  obtain ⟨w8,p4,a0⟩:=bs a0
  have x8:=(Cv p4)
  refine QH (he:=p4) rfl rfl rfl ?_
  obtain ⟨v5,q4,a0⟩:=bs a0
  have w5:=(Cv q4)
  refine Fw (he:=q4) rfl rfl rfl ?_
  refine Ar rfl rfl (o_z ?_)
  refine Al (Al (Aj (Am rfl rfl (Am rfl rfl (BK rfl rfl ?_)))))
  obtain ⟨f2,y8,z0,x5,k0,h0,g2⟩:=Que.opn u5 2 3 (by decide)
  obtain ⟨z8,a9,rfl⟩:=h0.form
  refine AF rfl rfl (AE (hc:=Blk.cell (i:=0) (k0.1) rfl) rfl rfl ?_)
  refine AN rfl rfl ?_
  have y5:s5.2.heap.length≤9223372036854775807:=Nat.le_trans h0.len.2.1 h0.len.2.2
  have b9:inI64 (s5.2.heap.length:Int):=rngNat y5
  refine Gg rfl rfl rfl (fun l2=>?_) fun l2=>?_
  ·
   replace a0:=ip a0 l2
   refine o_z ?_
   refine Ah rfl (AK ?_)
   obtain ⟨c9,z5,a6,b6,c6⟩:=Que.shut (x:=s5.2) (l0:=2) (l1:=3) (by decide) k0 h0 g2
   obtain rfl:=sm a0
   obtain rfl:=m0 _ rfl
   obtain rfl:=sm (Cy hm)
   replace hB:=(hB.st z0).st z5
   obtain ⟨O',hS',hz,hl⟩:=hE.leave (fun q=>if q=2 then i0 else 0) rfl hB
   exact ret0 rfl  ⟨O',hS',(Ob.leave c6 hz (hl 2 (by decide) (by decide)) y0.2)⟩
  replace a0:=im a0 l2
  refine o_z ?_
  refine Ae rfl (AJ (Al ?_))
  obtain ⟨h2,e0,a0⟩:=bs a0
  refine AM (fun l' w'=>∃ (d6:Unit) (O':Lab),subs l' [(0,(.pointer (some ⟨p0,0,none⟩))),(1,(.int .i64 s5.1)),(4,(.int .i64 h2))]∧Bm w O0 w' O'∧Ob 2 w' O' (.pointer (some ⟨p0,0,none⟩)) s5.2∧inI64 h2) ?_ ?_
  ·
   refine Al ?_
   obtain ⟨e6,b0,e0⟩:=bs e0
   refine AM (fun l' w'=>∃ (f6:Unit) (O':Lab),subs l' [(0,(.pointer (some ⟨p0,0,none⟩))),(1,(.int .i64 s5.1)),(4,(.int .i64 v5)),(40,(.bool e6))]∧Bm w O0 w' O'∧Ob 2 w' O' (.pointer (some ⟨p0,0,none⟩)) s5.2) ?_ ?_
   ·
    refine Bt [] f2 ?_
    refine AT (fuel:=2) [] [(0,true),(1,true),(2,true),(3,true),(4,true),(5,true),(6,true),(7,true),(8,true),(9,true),(10,true),(11,true),(12,true),(13,true),(14,true),(15,true),(16,true),(17,true),(18,true),(19,true),(20,true),(21,true),(22,true),(23,true)] (by kernel_rfl) rfl ?_
    refine AH rfl rfl rfl ?_
    obtain ⟨d9,r4,b0⟩:=bs b0
    have e9:=(Cv r4)
    refine QN (he:=r4) rfl rfl rfl rfl ?_
    refine AH rfl rfl rfl (Cd rfl rfl rfl (AR rfl rfl rfl (AS (hc:=fun w' ⟨O',hq⟩=>Blk.cell (i:=0) ((k0.st hq (by decide)).1) rfl) rfl rfl rfl ?_)))
    refine Jp rfl rfl rfl ?_
    have g6:s5.2.heap.length≤9223372036854775807:=Nat.le_trans h0.len.2.1 h0.len.2.2
    have f9:inI64 (s5.2.heap.length:Int):=rngNat g6
    refine Ff rfl rfl rfl rfl (fun m2=>?_) fun m2=>?_
    ·
     replace b0:=ip b0 m2
     refine AH rfl rfl rfl (Az rfl (Ay rfl rfl (Cf rfl rfl (Az rfl (Ay rfl rfl (PN rfl rfl (Az rfl (Ay rfl rfl (Cl rfl rfl (Az rfl (Ay rfl rfl (OR (hc:=fun w' ⟨O',hq⟩=>Blk.cell (i:=0) ((k0.st hq (by decide)).1) rfl) rfl rfl ?_))))))))))))
     refine Az rfl (Ay rfl rfl (Cf rfl rfl (Az rfl (Ay rfl rfl ?_))))
     obtain ⟨g9,s4,b0⟩:=bs b0
     have h9:=(Cv s4)
     refine QO (he:=s4) rfl rfl rfl ?_
     refine Az rfl (Ay rfl rfl ?_)
     obtain ⟨a1,h6,b0⟩:=bs b0
     obtain ⟨i6,j6⟩:=AO h6
     obtain ⟨i9,j9,k6,n2,o2,p2,q2,rfl,l6,m6,n6,o6⟩:=h0.elemF j6
     refine MH (hA:=n2) (hj:=(Int.toNat_of_nonneg i6).symm) (hlt:=p2) rfl rfl rfl ?_
     refine Az rfl (Ay rfl rfl (OS (hl:=rfl) (hb:=fun w' ⟨O',hq⟩=>(AZ (hq.agree (i:=3) (by decide)) o2 q2)) rfl rfl ?_))
     refine Az rfl (Ay rfl rfl (Cf rfl rfl (Az rfl (Ay rfl rfl (PN rfl rfl (Az rfl (Ay rfl rfl (Cl rfl rfl (Az rfl (Ay rfl rfl (OR (hc:=fun w' ⟨O',hq⟩=>Blk.cell (i:=0) ((k0.st hq (by decide)).1) rfl) rfl rfl ?_)))))))))))
     refine Az rfl (Ay rfl rfl (Cf rfl rfl (Az rfl (Ay rfl rfl ?_))))
     obtain ⟨b1,p6,b0⟩:=bs b0
     obtain ⟨q6,r6⟩:=AO p6
     obtain ⟨k9,l9,s6,r2,s2,t2,u2,rfl,t6,u6,v6,w6⟩:=h0.elemF r6
     refine MH (hA:=r2) (hj:=(Int.toNat_of_nonneg q6).symm) (hlt:=t2) rfl rfl rfl ?_
     refine Az rfl (Ay rfl rfl (OS (hl:=rfl) (hb:=fun w' ⟨O',hq⟩=>(AZ (hq.agree (i:=3) (by decide)) s2 u2)) rfl rfl ?_))
     refine AG ?_
     refine AV (i:=24) (by kernel_rfl) rfl ?_
     refine Aw rfl rfl ?_
     obtain ⟨t4,y6,b0⟩:=bs b0
     refine Ce (O:=f2) (A:=All w9) (R:=fun w' F v=>Vb w' F v t4) (Fz (fun _ h=>h) (Vb.mono (F:=Fr 0 w9 f2) (Vb.ofAgg (cs:=[(.int .i64 a1.key),(.int .i64 a1.tie),(.int .i64 a1.item),(.int .i64 a1.number)]) (x:=a1) rfl ⟨rfl,l6,m6,n6,o6⟩) Fr.lt) (Vb.mono (F:=Fr 0 w9 f2) (Vb.ofAgg (cs:=[(.int .i64 b1.key),(.int .i64 b1.tie),(.int .i64 b1.item),(.int .i64 b1.number)]) (x:=b1) rfl ⟨rfl,t6,u6,v6,w6⟩) Fr.lt) y6) rfl rfl fun z6 m9 n9 t0 i2=>?_
     obtain rfl:=i2.bool
     have hZ:=t0.lst [] (fun _ h=>h.elim)
     cases t4
     case false =>
      replace b0:=iF b0
      refine Bg [] hZ (by kernel_rfl) ?_
      refine AT (fuel:=0) [] [(25,true)] (by kernel_rfl) rfl ?_
      refine CF rfl rfl rfl rfl (AG ?_)
      refine BC (by kernel_rfl) ?_
      replace k0:=k0.st t0
      replace h0:=h0.st t0
      obtain ⟨a7,v2,u4,v4,w2⟩:=Que.shut (x:=s5.2) (l0:=2) (l1:=3) (by decide) k0 h0 g2
      obtain rfl:=sm b0
      exact ⟨(),_,⟨rfl,rfl,rfl,rfl,trivial⟩,((hB.st z0).st t0).st v2,w2⟩
     replace b0:=iT b0
     refine Bg [] hZ (by kernel_rfl) ?_
     refine AT (fuel:=0) [] [(25,true)] (by kernel_rfl) rfl ?_
     refine CF rfl rfl rfl rfl (AG ?_)
     refine BC (by kernel_rfl) ?_
     replace k0:=k0.st t0
     replace h0:=h0.st t0
     obtain ⟨b7,x2,w4,x4,y2⟩:=Que.shut (x:=s5.2) (l0:=2) (l1:=3) (by decide) k0 h0 g2
     obtain rfl:=sm b0
     exact ⟨(),_,⟨rfl,rfl,rfl,rfl,trivial⟩,((hB.st z0).st t0).st x2,y2⟩
    replace b0:=im b0 m2
    refine AH rfl rfl rfl (DL rfl rfl rfl rfl rfl (DL rfl rfl rfl rfl rfl (DL rfl rfl rfl rfl rfl (DL rfl rfl rfl rfl rfl (DL rfl rfl rfl rfl rfl (DL rfl rfl rfl rfl rfl (DL rfl rfl rfl rfl rfl (DL rfl rfl rfl rfl rfl (DL rfl rfl rfl rfl rfl (DL rfl rfl rfl rfl rfl (DL rfl rfl rfl rfl rfl (DL rfl rfl rfl rfl rfl (DL rfl rfl rfl rfl rfl (DL rfl rfl rfl rfl rfl ?_))))))))))))))
    refine DL rfl rfl rfl rfl rfl (AG ?_)
    refine AV (i:=24) (by kernel_rfl) rfl ?_
    refine Au rfl rfl rfl rfl (Bg [] ((St.refl nT _ _).lst [] (fun _ h=>h.elim)) (by kernel_rfl) ?_)
    refine AT (fuel:=0) [] [(25,true)] (by kernel_rfl) rfl ?_
    refine CG rfl rfl rfl rfl (AG ?_)
    refine BC (by kernel_rfl) ?_
    obtain ⟨c7,z2,y4,z4,a3⟩:=Que.shut (x:=s5.2) (l0:=2) (l1:=3) (by decide) k0 h0 g2
    obtain rfl:=sm b0
    exact ⟨(),_,⟨rfl,rfl,rfl,rfl,trivial⟩,(hB.st z0).st z2,a3⟩
   replace hB:=hB.st z0
   rintro d7 e7 ⟨f6,f7,c1,hB,i2⟩
   refine AP _ c1 ?_
   refine CY rfl (fun u0=>?_) (fun u0=>?_)
   ·
    replace e0:=ip e0 u0
    refine Aj (Am rfl rfl ?_)
    obtain ⟨g7,d1,e0⟩:=bs e0
    have b3:=(Cv d1)
    refine Fw (he:=d1) rfl rfl rfl ?_
    refine Ar rfl rfl (o_z ?_)
    obtain rfl:=sm e0
    exact ⟨(),_,⟨rfl,rfl,rfl,trivial⟩,hB,i2,b3⟩
   replace e0:=im' e0 u0
   refine AJ ?_
   obtain rfl:=sm e0
   exact ⟨(),_,⟨rfl,rfl,rfl,trivial⟩,hB,i2,w5⟩
  replace hB:=hB.st z0
  rintro h7 v0 ⟨d6,i7,e1,hB,j7,k7⟩
  refine AP _ e1 ?_
  refine Al (Al ?_)
  obtain ⟨q0,l7,f1,a5,d0,c0,g1⟩:=Que.opn j7 2 3 (by decide)
  obtain ⟨m7,n7,rfl⟩:=c0.form
  refine Bt [] q0 ?_
  refine AT (fuel:=2) [] [(0,true),(1,true),(2,true),(3,true),(4,true),(5,true),(6,true),(7,true),(8,true),(9,true),(10,true),(11,true),(12,true),(13,true)] (by kernel_rfl) rfl ?_
  refine AH rfl rfl rfl (Cd rfl rfl rfl (AR rfl rfl rfl (AS (hc:=fun w' ⟨O',hq⟩=>Blk.cell (i:=0) ((d0.st hq (by decide)).1) rfl) rfl rfl rfl ?_)))
  refine AH rfl rfl rfl ?_
  obtain ⟨n0,c3,a0⟩:=bs a0
  obtain ⟨d3,e3⟩:=AO c3
  obtain ⟨o7,p7,b5,h1,i1,j1,k1,rfl,f3,g3,h3,i3⟩:=c0.elemF e3
  refine BJ (hA:=h1) (hj:=(Int.toNat_of_nonneg d3).symm) (hlt:=j1) rfl rfl rfl rfl ?_
  refine ET (hl:=rfl) (hb:=fun w' ⟨O',hq⟩=>(AZ (hq.agree (i:=3) (by decide)) i1 k1)) rfl rfl rfl ?_
  refine AH rfl rfl rfl (Cd rfl rfl rfl (AR rfl rfl rfl (AS (hc:=fun w' ⟨O',hq⟩=>Blk.cell (i:=0) ((d0.st hq (by decide)).1) rfl) rfl rfl rfl ?_)))
  refine AH rfl rfl rfl ?_
  obtain ⟨o0,j3,a0⟩:=bs a0
  obtain ⟨k3,l3⟩:=AO j3
  obtain ⟨q7,r7,c5,m1,n1,o1,p1,rfl,m3,n3,o3,p3⟩:=c0.elemF l3
  refine BJ (hA:=m1) (hj:=(Int.toNat_of_nonneg k3).symm) (hlt:=o1) rfl rfl rfl rfl ?_
  refine ET (hl:=rfl) (hb:=fun w' ⟨O',hq⟩=>(AZ (hq.agree (i:=3) (by decide)) n1 p1)) rfl rfl rfl ?_
  refine AG ?_
  refine AV (i:=14) (by kernel_rfl) rfl ?_
  obtain ⟨q1,q3,a0⟩:=bs a0
  refine Ce (O:=q0) (A:=All v0) (R:=fun w' F v=>Vb w' F v q1) (Fz (fun _ h=>h) (Vb.mono (F:=Fr 0 v0 q0) (Vb.ofAgg (cs:=[(.int .i64 n0.key),(.int .i64 n0.tie),(.int .i64 n0.item),(.int .i64 n0.number)]) (x:=n0) rfl ⟨rfl,f3,g3,h3,i3⟩) Fr.lt) (Vb.mono (F:=Fr 0 v0 q0) (Vb.ofAgg (cs:=[(.int .i64 o0.key),(.int .i64 o0.tie),(.int .i64 o0.item),(.int .i64 o0.number)]) (x:=o0) rfl ⟨rfl,m3,n3,o3,p3⟩) Fr.lt) q3) rfl rfl fun s7 t7 r3 j0 s3=>?_
  obtain rfl:=s3.bool
  have hZ:=j0.lst [] (fun _ h=>h.elim)
  cases q1
  case false =>
   replace a0:=iF a0
   refine Bg [] hZ (by kernel_rfl) ?_
   refine AT (fuel:=0) [] [(15,true)] (by kernel_rfl) rfl ?_
   refine PK rfl rfl rfl (AG ?_)
   refine BC (by kernel_rfl) ?_
   refine Ah rfl (AK ?_)
   replace d0:=d0.st j0
   replace c0:=c0.st j0
   obtain ⟨u7,t3,d5,e5,u3⟩:=Que.shut (x:=s5.2) (l0:=2) (l1:=3) (by decide) d0 c0 g1
   obtain rfl:=sm a0
   obtain rfl:=m0 _ rfl
   obtain rfl:=sm (Cy hm)
   replace hB:=((hB.st f1).st j0).st t3
   obtain ⟨O',hS',hz,hl⟩:=hE.leave (fun q=>if q=2 then i0 else 0) rfl hB
   exact ret0 rfl  ⟨O',hS',(Ob.leave u3 hz (hl 2 (by decide) (by decide)) y0.2)⟩
  replace a0:=iT a0
  refine Bg [] hZ (by kernel_rfl) ?_
  refine AT (fuel:=0) [] [(15,true)] (by kernel_rfl) rfl ?_
  refine PJ rfl rfl rfl (AG ?_)
  refine BC (by kernel_rfl) ?_
  refine Ae rfl (AJ (Al (Bt [(25,[3])] r3 ?_)))
  refine AT (fuel:=4) [] [(0,true),(1,true),(2,true),(3,true),(4,true),(5,true),(6,true),(7,true),(8,true),(10,true),(11,true),(12,true),(13,true),(14,true),(15,true),(16,true),(17,true),(18,true),(19,true),(20,true),(21,true),(22,true),(23,true),(24,true)] (by kernel_rfl) rfl ?_
  refine AH rfl rfl rfl (Cd rfl rfl rfl (AR rfl rfl rfl ?_))
  replace d0:=d0.st j0
  refine AS (hc:=fun w' ⟨O',hq⟩=>Blk.cell (i:=0) ((d0.st hq (by decide)).1) rfl) rfl rfl rfl ?_
  refine AH rfl rfl rfl (AH rfl rfl rfl (Cd rfl rfl rfl (AR rfl rfl rfl (AS (hc:=fun w' ⟨O',hq⟩=>Blk.cell (i:=0) ((d0.st hq (by decide)).1) rfl) rfl rfl rfl ?_))))
  refine AH rfl rfl rfl (Cd rfl rfl rfl (AR rfl rfl rfl (AS (hc:=fun w' ⟨O',hq⟩=>Blk.cell (i:=0) ((d0.st hq (by decide)).1) rfl) rfl rfl rfl ?_)))
  refine AH rfl rfl rfl ?_
  obtain ⟨f0,v3,a0⟩:=bs a0
  obtain ⟨w3,x3⟩:=AO v3
  replace c0:=c0.st j0
  obtain ⟨v7,w7,f5,r1,s1,t1,u1,rfl,y3,z3,a4,b4⟩:=c0.elemF x3
  refine BJ (hA:=r1) (hj:=(Int.toNat_of_nonneg w3).symm) (hlt:=t1) rfl rfl rfl rfl ?_
  refine ET (hl:=rfl) (hb:=fun w' ⟨O',hq⟩=>(AZ (hq.agree (i:=3) (by decide)) s1 u1)) rfl rfl rfl ?_
  refine AH rfl rfl rfl (Cd rfl rfl rfl (AR rfl rfl rfl (AS (hc:=fun w' ⟨O',hq⟩=>Blk.cell (i:=0) ((d0.st hq (by decide)).1) rfl) rfl rfl rfl ?_)))
  refine AH rfl rfl rfl ?_
  obtain ⟨g0,c4,a0⟩:=bs a0
  obtain ⟨d4,e4⟩:=AO c4
  obtain ⟨x7,y7,g5,v1,w1,y1,z1,rfl,f4,g4,h4,i4⟩:=c0.elemF e4
  refine BJ (hA:=v1) (hj:=(Int.toNat_of_nonneg d4).symm) (hlt:=y1) rfl rfl rfl rfl ?_
  refine ET (hl:=rfl) (hb:=fun w' ⟨O',hq⟩=>(AZ (hq.agree (i:=3) (by decide)) w1 z1)) rfl rfl rfl ?_
  obtain ⟨z7,j4,a0⟩:=bs a0
  obtain ⟨k4,a2⟩:=AO j4
  obtain ⟨a8,b8,h5,r0,i5,b2,j5,rfl,c8,d8,e8,f8⟩:=c0.elemF a2
  refine BJ (hA:=r0) (hj:=(Int.toNat_of_nonneg k4).symm) (hlt:=b2) rfl rfl rfl rfl ?_
  refine AG ?_
  refine AT (fuel:=3) [3] [(9,true)] (by kernel_rfl) rfl ?_
  refine AH rfl rfl rfl (AG ?_)
  refine AV (i:=25) (by kernel_rfl) rfl ?_
  refine Dq rfl c0 (a:=f0) (Vb.ofAgg (cs:=[(.int .i64 f0.key),(.int .i64 f0.tie),(.int .i64 f0.item),(.int .i64 f0.number)]) (x:=f0) rfl ⟨rfl,y3,z3,a4,b4⟩) r0 rfl rfl (AC a2) fun g8 w0 c0=>?_
  have hZ:=w0.lst [3] (fun _ h=>by cases h;decide)
  refine Bg [] hZ (by kernel_rfl) ?_
  refine AT (fuel:=1) [] [(26,true)] (by kernel_rfl) rfl ?_
  obtain ⟨h8,l4,a0⟩:=bs a0
  obtain ⟨m4,c2⟩:=AO l4
  obtain ⟨i8,j8,k5,s0,l5,d2,m5,rfl,k8,l8,m8,n8⟩:=c0.elemF c2
  refine BJ (hA:=s0) (hj:=(Int.toNat_of_nonneg m4).symm) (hlt:=d2) rfl rfl rfl rfl ?_
  refine AG ?_
  refine AV (i:=27) (by kernel_rfl) rfl ?_
  refine Dq rfl c0 (a:=g0) (Vb.ofAgg (cs:=[(.int .i64 g0.key),(.int .i64 g0.tie),(.int .i64 g0.item),(.int .i64 g0.number)]) (x:=g0) rfl ⟨rfl,f4,g4,h4,i4⟩) s0 rfl rfl (AC c2) fun o8 e2 c0=>?_
  refine Di (by kernel_rfl) ?_
  refine BC (by kernel_rfl) ?_
  refine Aj (Am rfl rfl (Ar rfl rfl (o_z ?_)))
  replace d0:=(d0.st w0).st e2
  obtain ⟨p8,n4,n5,o5,o4⟩:=Que.shut (x:=(⟨((s5.2.heap.set (s5.1:Int).toNat f0).set (h2:Int).toNat g0),s5.2.next⟩:Que)) (l0:=2) (l1:=3) (by decide) (by have q:=d0;rw [← ((by simp:((s5.2.heap.set (s5.1:Int).toNat f0).set (h2:Int).toNat g0).length=(s5.2.heap.set (s5.1:Int).toNat f0).length).trans ((by simp:(s5.2.heap.set (s5.1:Int).toNat f0).length=s5.2.heap.length).trans rfl))] at q;exact q) c0.relen g1
  obtain rfl:=sm a0
  exact show Exists _ from ⟨_,(),rfl,⟨rfl,rfl,trivial⟩,_,((((hB.st f1).st j0).st w0).st e2).st n4,o4,k7⟩
 rintro q8 r8 ⟨s8,t8,_,_,hE⟩
 exact hE.elim
noncomputable def BD (x0:Que) (x1:Int) (x2:Int) (x3:Int):Option (Err×Que) :=
  if 65536≤(x0.heap.length:Int) then (some ((⟨10⟩:Err),x0)) else (bnd (appI 32 x0.heap [(⟨x1,x2,x3,x0.next⟩:QEn)]) fun u29=>bnd (chkI (x0.next + 1)) fun n42=>bnd (chkI ((u29.length:Int) - 1)) fun n49=>bnd (CI (⟨u29,n42⟩:Que) n49) fun q57=>some ((⟨0⟩:Err),q57))
theorem FF {w:World} {O:Lab} {p0 i0:Nat} {x0:Que} (b0:Ob i0 w O (.pointer (some ⟨p0,0,none⟩)) x0) {x1:Int} (rx1:inI64 x1) {x2:Int} (rx2:inI64 x2) {x3:Int} (rx3:inI64 x3) {r:Err×Que} (hm:BD x0 x1 x2 x3=some r) :
    Fn Tryz.prog 93 [(.pointer (some ⟨p0,0,none⟩)),(.int .i64 x1),(.int .i64 x2),(.int .i64 x3)] w fun v w'=>∃ O',St (eT i0) w O w' O'∧Ob i0 w' O' (.pointer (some ⟨p0,0,none⟩)) r.2∧Vb w' (Fr 0 w' O') v r.1:=by
 obtain ⟨O0,hE,u0,v0⟩:=ent1 (w:=w) (O:=O) b0.2
 have b0':=Ob.leave b0 u0 v0 (j:=2) (by decide)
 have hB:Bm w O0 w O0:=Bm.refl
 refine AI Tryz.func93 rfl Tryz.ntmps93 rfl ?_
 unfold BD at hm
 refine Al (Aj (Ar rfl rfl (o_z ?_)))
 refine Al (Al (Aj (Am rfl rfl (Ep rfl rfl ?_))))
 refine o_z ?_
 refine Ae rfl (AJ (Al (Al (Aj (Am rfl rfl (BK rfl rfl ?_))))))
 obtain ⟨O5,v9,S6,t1,h7,a0,j0⟩:=Que.opn b0' 2 3 (by decide)
 obtain ⟨u1,v1,rfl⟩:=a0.form
 refine AF rfl rfl (AE (hc:=Blk.cell (i:=0) (h7.1) rfl) rfl rfl ?_)
 refine AN rfl rfl ?_
 have w0:x0.heap.length≤9223372036854775807:=Nat.le_trans a0.len.2.1 a0.len.2.2
 have w1:inI64 (x0.heap.length:Int):=rngNat w0
 refine Gg rfl rfl rfl (fun f0=>?_) fun f0=>?_
 ·
  replace hm:=ip hm f0
  refine o_z ?_
  refine Ah rfl (Al (Aj (Er rfl rfl ?_)))
  refine Ar rfl rfl (o_z ?_)
  refine AK ?_
  obtain ⟨y1,y0,z0,a1,b1⟩:=Que.shut (x:=x0) (l0:=2) (l1:=3) (by decide) h7 a0 j0
  obtain rfl:=sm hm
  replace hB:=(hB.st S6).st y0
  obtain ⟨O',hS',hz,hl⟩:=hE.leave (fun q=>if q=2 then i0 else 0) rfl hB
  exact ret1v rfl (AB rfl) ⟨O',hS',(Ob.leave b1 hz (hl 2 (by decide) (by decide)) b0.2),(vErr (by decide))⟩
 replace hm:=im hm f0
 refine o_z ?_
 refine Ae rfl (AJ (Al (Bt [(14,[3])] O5 ?_)))
 refine AT (fuel:=6) [] [(1,true),(2,true),(3,true),(4,true),(5,true),(6,true),(7,true),(8,true),(9,true),(10,true),(11,true),(12,true)] (by kernel_rfl) rfl ?_
 refine AH rfl rfl rfl (Cd rfl rfl rfl (AR rfl rfl rfl (AS (hc:=fun w' ⟨O',hq⟩=>Blk.cell (i:=0) ((h7.st hq (by decide)).1) rfl) rfl rfl rfl ?_)))
 refine AH rfl rfl rfl (AH rfl rfl rfl (AH rfl rfl rfl (AH rfl rfl rfl (Cd rfl rfl rfl (AR rfl rfl rfl (AS (hc:=fun w' ⟨O',hq⟩=>Blk.cell (i:=1) ((h7.st hq (by decide)).1) rfl) rfl rfl rfl ?_))))))
 refine Fu rfl rfl rfl rfl ?_
 refine AG ?_
 refine AT (fuel:=5) [3] [(0,true)] (by kernel_rfl) rfl ?_
 refine AH rfl rfl rfl (AG ?_)
 refine AV (i:=13) (by kernel_rfl) rfl ?_
 refine BX 4 (by decide) O5 (xs:=([(⟨x1,x2,x3,x0.next⟩:QEn)]:List QEn)) rfl rfl rfl rfl ⟨(Vb.ofAgg (cs:=[(.int .i64 x1),(.int .i64 x2),(.int .i64 x3),(.int .i64 x0.next)]) (x:=(⟨x1,x2,x3,x0.next⟩:QEn)) rfl ⟨rfl,rx1,rx2,rx3,j0⟩),trivial⟩ (by decide) (by decide) rfl fun z1 a2 b2 e0 c1=>?_
 have hZ:=e0.lst [] (fun _ h=>h.elim)
 refine Bg [(14,[3])] hZ (by kernel_rfl) ?_
 refine AV (i:=14) (by kernel_rfl) rfl ?_
 obtain ⟨d0,g0,hm⟩:=bs hm
 obtain ⟨g0,d1,e1⟩:=Cg g0
 replace a0:=a0.st e0
 refine CH rfl a0 (c1.rd) rfl rfl (by decide) d1 e1 rfl fun k0 m0 c2 n0 h0 c0=>?_
 rw [← g0] at c0 ⊢
 have hZ:=h0.lst [3] (fun _ h=>by cases h;decide)
 refine Bg [] hZ (by kernel_rfl) ?_
 refine AT (fuel:=1) [] [(15,true),(16,true)] (by kernel_rfl) rfl ?_
 refine Cd rfl rfl rfl (AR rfl rfl rfl (AG ?_))
 refine AV (i:=17) (by kernel_rfl) rfl ?_
 replace h7:=(h7.st e0).st h0
 refine Bf h7 rfl rfl rfl (BO rfl) (allOne rfl) fun f1 o0 h7=>?_
 replace h7:Lc 2 f1 n0 p0 200 [(.slice k0 d0.length m0),(.int .i64 x0.next)]:=h7
 refine Di (by kernel_rfl) ?_
 refine BC (by kernel_rfl) ?_
 refine Al (Aj (Am rfl rfl (BK rfl rfl (AF rfl rfl (AE (hc:=Blk.cell (i:=1) (h7.1) rfl) rfl rfl ?_)))))
 obtain ⟨q0,r0,hm⟩:=bs hm
 have g1:=(Cv r0)
 refine Fw (he:=r0) rfl rfl rfl ?_
 refine BK rfl rfl (AF rfl rfl (Bf h7 rfl rfl rfl (BO rfl) (allOne rfl) fun h1 s0 h7=>?_))
 replace h7:Lc 2 h1 n0 p0 200 [(.slice k0 d0.length m0),(.int .i64 q0)]:=h7
 refine o_z ?_
 refine Al (Aj (Am rfl rfl (Am rfl rfl (BK rfl rfl (AF rfl rfl (AE (hc:=Blk.cell (i:=0) (h7.1) rfl) rfl rfl ?_))))))
 refine AN rfl rfl ?_
 replace c0:=(c0.st o0).st s0
 have i1:d0.length≤9223372036854775807:=Nat.le_trans c0.len.2.1 c0.len.2.2
 have d2:inI64 (d0.length:Int):=rngNat i1
 obtain ⟨e2,t0,hm⟩:=bs hm
 have j1:=(Cv t0)
 refine MG (he:=t0) rfl rfl rfl ?_
 obtain ⟨k1,m1,n1,o1,p1⟩:=Que.shut (x:=(⟨d0,q0⟩:Que)) (l0:=2) (l1:=3) (by decide) h7 c0 g1
 obtain ⟨f2,q1,hm⟩:=bs hm
 refine BR (O:=k1) (IU p1 j1 q1) rfl rfl fun g2 h2 i2 r1 s1=>?_
 refine o_z ?_
 refine Al (Aj (Ar rfl rfl (o_z ?_)))
 refine AK ?_
 obtain rfl:=sm hm
 replace hB:=((((((hB.st S6).st e0).st h0).st o0).st s0).st m1).st r1
 obtain ⟨O',hS',hz,hl⟩:=hE.leave (fun q=>if q=2 then i0 else 0) rfl hB
 exact ret1v rfl (AB rfl) ⟨O',hS',(Ob.leave s1 hz (hl 2 (by decide) (by decide)) b0.2),(vErr (show inI64 0 from by decide))⟩
noncomputable def Cp (x0:Que):Option (Int×Int×Int×Err×Que) :=
  bnd (CK x0) fun q2=>if q2.2.2.2.n≠0 then (some (0,0,0,(⟨q2.2.2.2.n⟩:Err),x0)) else (bnd (chkI ((x0.heap.length:Int) - 1)) fun n35=>bnd (atI x0.heap n35) fun a38=>bnd (atI x0.heap 0) fun a53=>bnd (cutI (x0.heap.set (0:Int).toNat a38) 0 n35) fun u70=>bnd (Cw (⟨u70,x0.next⟩:Que) 0) fun q82=>some (q2.1,q2.2.1,q2.2.2.1,(⟨0⟩:Err),q82))
theorem Ir {w:World} {O:Lab} {p0 i0:Nat} {x0:Que} (c0:Ob i0 w O (.pointer (some ⟨p0,0,none⟩)) x0) {r:Int×Int×Int×Err×Que} (hm:Cp x0=some r) :
    Fn Tryz.prog 95 [(.pointer (some ⟨p0,0,none⟩))] w fun v w'=>∃ O',St (eT i0) w O w' O'∧∃ v0 v1 v2 v3:Value,Ob i0 w' O' (.pointer (some ⟨p0,0,none⟩)) r.2.2.2.2∧v=.tuple #[v0,v1,v2,v3]∧Vb w' (Fr 0 w' O') v0 r.1∧Vb w' (Fr 0 w' O') v1 r.2.1∧Vb w' (Fr 0 w' O') v2 r.2.2.1∧Vb w' (Fr 0 w' O') v3 r.2.2.2.1:=by
 obtain ⟨O0,hE,w0,y0⟩:=ent1 (w:=w) (O:=O) c0.2
 have c0':=Ob.leave c0 w0 y0 (j:=2) (by decide)
 have hB:Bm w O0 w O0:=Bm.refl
 refine AI Tryz.func95 rfl Tryz.ntmps95 rfl ?_
 unfold Cp at hm
 refine Al (Aj (Ar rfl rfl (Ar rfl rfl (Ar rfl rfl (Ar rfl rfl (o_z ?_))))))
 refine Al (Aj (Am rfl rfl ?_))
 obtain ⟨q2,e3,hm⟩:=bs hm
 refine BR (O:=O0) (HU c0' e3) rfl rfl fun v8 w4 O5 S6 h7=>?_
 obtain ⟨n2,o2,p2,r2,h9,rfl,z0,a1,b1,c1⟩:=h7
 obtain ⟨rfl,d1⟩:=z0.int
 obtain ⟨rfl,e1⟩:=a1.int
 obtain ⟨rfl,f1⟩:=b1.int
 obtain ⟨rfl,g1⟩:=c1.err
 refine Am rfl rfl (Bz rfl rfl rfl (Bz rfl rfl rfl (Bz rfl rfl rfl (Bz rfl rfl rfl (Ar rfl rfl (Ar rfl rfl (Ar rfl rfl (Ar rfl rfl (o_z ?_)))))))))
 refine Al (Al (Aj (Am rfl rfl (Fg rfl rfl (fun f0=>?_) fun f0=>?_))))
 ·
  replace hm:=ip hm f0
  refine o_z ?_
  refine Ah rfl (Al (Aj (Am rfl rfl (Ar rfl rfl (Ar rfl rfl (Ar rfl rfl (Ar rfl rfl (o_z ?_))))))))
  refine AK ?_
  obtain rfl:=sm hm
  replace hB:=hB.st S6
  obtain ⟨O',hS',hz,hl⟩:=hE.leave (fun q=>if q=2 then i0 else 0) rfl hB
  exact ret4 rfl (AB rfl) (AB rfl) (AB rfl) (AB rfl) ⟨O',hS',_,_,_,_,(Ob.leave h9 hz (hl 2 (by decide) (by decide)) c0.2),rfl,(vInt (show inI64 (0) from by decide)),(vInt (show inI64 (0) from by decide)),(vInt (show inI64 (0) from by decide)),(vErr g1)⟩
 replace hm:=im hm f0
 refine o_z ?_
 refine Ae rfl (AJ (Al (Aj (Am rfl rfl (BK rfl rfl ?_)))))
 obtain ⟨o0,s2,h1,i1,a0,b0,j1⟩:=Que.opn h9 2 3 (by decide)
 obtain ⟨k1,m1,rfl⟩:=b0.form
 refine AF rfl rfl (AE (hc:=Blk.cell (i:=0) (a0.1) rfl) rfl rfl ?_)
 refine AN rfl rfl ?_
 have n1:x0.heap.length≤9223372036854775807:=Nat.le_trans b0.len.2.1 b0.len.2.2
 have t2:inI64 (x0.heap.length:Int):=rngNat n1
 obtain ⟨u2,q0,hm⟩:=bs hm
 have w2:=(Cv q0)
 refine MG (he:=q0) rfl rfl rfl ?_
 refine Ar rfl rfl (o_z ?_)
 refine Al (Bt [] o0 ?_)
 refine AT (fuel:=1) [] [(0,true),(1,true),(2,true),(3,true),(4,true),(5,true),(6,true),(7,true),(8,true),(9,true),(10,true),(11,true)] (by kernel_rfl) rfl ?_
 refine AH rfl rfl rfl (Cd rfl rfl rfl (AR rfl rfl rfl (AS (hc:=fun w' ⟨O',hq⟩=>Blk.cell (i:=0) ((a0.st hq (by decide)).1) rfl) rfl rfl rfl ?_)))
 refine AH rfl rfl rfl (Cd rfl rfl rfl (AR rfl rfl rfl (AS (hc:=fun w' ⟨O',hq⟩=>Blk.cell (i:=0) ((a0.st hq (by decide)).1) rfl) rfl rfl rfl ?_)))
 refine AH rfl rfl rfl ?_
 obtain ⟨d0,o1,hm⟩:=bs hm
 obtain ⟨p1,q1⟩:=AO o1
 obtain ⟨x2,y2,r1,g0,h0,j0,k0,rfl,s1,t1,u1,w1⟩:=b0.elemF q1
 refine BJ (hA:=g0) (hj:=(Int.toNat_of_nonneg p1).symm) (hlt:=j0) rfl rfl rfl rfl ?_
 refine ET (hl:=rfl) (hb:=fun w' ⟨O',hq⟩=>(AZ (hq.agree (i:=3) (by decide)) h0 k0)) rfl rfl rfl ?_
 obtain ⟨z2,x1,hm⟩:=bs hm
 obtain ⟨y1,r0⟩:=AO x1
 obtain ⟨a3,b3,z1,e0,a2,m0,b2,rfl,c3,d3,f3,g3⟩:=b0.elemF r0
 refine BJ (hA:=e0) (hj:=(Int.toNat_of_nonneg y1).symm) (hlt:=m0) rfl rfl rfl rfl ?_
 refine AG ?_
 refine AV (i:=12) (by kernel_rfl) rfl ?_
 refine Dq rfl b0 (a:=d0) (Vb.ofAgg (cs:=[(.int .i64 d0.key),(.int .i64 d0.tie),(.int .i64 d0.item),(.int .i64 d0.number)]) (x:=d0) rfl ⟨rfl,s1,t1,u1,w1⟩) e0 rfl rfl (AC r0) fun h3 s0 b0=>?_
 refine Di (by kernel_rfl) ?_
 refine BC (by kernel_rfl) ?_
 refine Al (Aj (Am rfl rfl (Am rfl rfl (BK rfl rfl (AF rfl rfl ?_)))))
 replace a0:=a0.st s0
 refine AE (hc:=Blk.cell (i:=0) (a0.1) rfl) rfl rfl ?_
 refine Am rfl rfl ?_
 obtain ⟨t0,c2,hm⟩:=bs hm
 obtain ⟨n0,d2⟩:=cutRw b0 c2
 refine PY (hc:=d2) rfl rfl rfl ?_
 refine BK rfl rfl (AF rfl rfl (Bf a0 rfl rfl rfl (BO rfl) (allOne rfl) fun e2 u0 a0=>?_))
 replace a0:Lc 2 e2 o0 p0 200 [(.slice k1 t0.length m1),(.int .i64 x0.next)]:=a0
 refine o_z ?_
 refine Al (Aj (Am rfl rfl ?_))
 replace n0:=n0.st u0
 obtain ⟨f2,g2,h2,i2,j2⟩:=Que.shut (x:=(⟨t0,x0.next⟩:Que)) (l0:=2) (l1:=3) (by decide) a0 n0 j1
 obtain ⟨i3,k2,hm⟩:=bs hm
 refine BR (O:=f2) (HV j2 (show inI64 (0) from by decide) k2) rfl rfl fun j3 k3 l3 l2 m2=>?_
 refine o_z ?_
 refine Al (Aj (Am rfl rfl (Am rfl rfl (Am rfl rfl (Ar rfl rfl (Ar rfl rfl (Ar rfl rfl (Ar rfl rfl (o_z ?_)))))))))
 refine AK ?_
 obtain rfl:=sm hm
 replace hB:=(((((hB.st S6).st h1).st s0).st u0).st g2).st l2
 obtain ⟨O',hS',hz,hl⟩:=hE.leave (fun q=>if q=2 then i0 else 0) rfl hB
 exact ret4 rfl (AB rfl) (AB rfl) (AB rfl) (AB rfl) ⟨O',hS',_,_,_,_,(Ob.leave m2 hz (hl 2 (by decide) (by decide)) c0.2),rfl,(vInt d1),(vInt e1),(vInt f1),(vErr (show inI64 0 from by decide))⟩
end
section
open Go Go.RowKit
attribute [local irreducible] ewp owp hwp hwq hws Ev Evg Fn retPost loud loudS Res1
attribute [local irreducible] hwx loudX
def BN (xs:List U64):Option (List U64):=if xs.length * 8≤140737488355328∧xs.length≤9223372036854775807 then some xs else none
theorem FD {w:World} {A:Nat→Prop} (hA:∀ k,A k→k < w.heap.size) {v0:Value} {x0:List U64} (h0:Vb w A v0 x0) {r:List U64} (hm:BN x0=some r) :
    Fn Tryz.prog 110 [v0] w fun v w'=>Ext w w'∧RowR w w' (upA A w w') 182 v r:=by
  obtain ⟨⟨hl,a0⟩,rfl⟩:=DX hm
  obtain ⟨O,hB,b0⟩:=enter hA
  replace h0:=h0.mono b0
  obtain ⟨Ad,c,rfl⟩:=h0.form
  refine AI Tryz.func110 rfl Tryz.ntmps110 rfl ?_
  cases Ad with
  | none =>
    have hx:x0=[]:=by
      cases x0 with
      | nil=>rfl
      | cons x xs=>obtain ⟨_,_,_,h,_⟩:=h0.elem (k:=0) (x:=x) rfl;cases h
    subst hx
    ((repeat (first|refine An ?_|refine Ah rfl ?_|refine Ae rfl ?_))<;>(refine Ar rfl rfl ?_<;>(refine o_z ?_))<;>(repeat (first|refine An ?_|refine Ah rfl ?_|refine Ae rfl ?_))<;>(refine Am rfl rfl ?_<;>refine Ft rfl rfl ?_<;>(refine o_z ?_))<;>(repeat (first|refine An ?_|refine Ah rfl ?_|refine Ae rfl ?_))<;>(refine Ar rfl rfl ?_<;>(refine o_z ?_))<;>(repeat (first|refine An ?_|refine Ah rfl ?_|refine Ae rfl ?_)))
    exact ret1 rfl rfl ⟨Below.refl _ _,RowR.nil⟩
  | some ad =>
    ((repeat (first|refine An ?_|refine Ah rfl ?_|refine Ae rfl ?_))<;>(refine Ar rfl rfl ?_<;>(refine o_z ?_))<;>(repeat (first|refine An ?_|refine Ah rfl ?_|refine Ae rfl ?_))<;>(refine Am rfl rfl ?_<;>refine Ft rfl rfl ?_<;>(refine o_z ?_))<;>(repeat (first|refine An ?_|refine Ah rfl ?_|refine Ae rfl ?_)))
    refine BX 2 (by decide) O (xs:=([]:List U64)) rfl rfl rfl rfl trivial (by decide) (by decide) rfl fun g w1 O1 S1 h1=>?_
    replace hB:=hB.st S1 (fun h=>h) (fun h=>h)
    replace h0:=h0.st S1 (fun h=>h)
    (refine Am rfl rfl ?_)
    refine CH rfl h1 h0.rd rfl rfl (by decide) (by simpa using hl) (by simpa using a0) rfl fun A2 c2 w2 O2 S2 h2=>?_
    replace hB:=hB.st S2 (by decide) (by decide)
    rw [List.nil_append] at h2 ⊢
    (refine Ar rfl rfl ?_<;>(refine o_z ?_))
    repeat (first|refine An ?_|refine Ah rfl ?_|refine Ae rfl ?_)
    exact ret1 rfl rfl ⟨hB.ext,h2.out hB (by decide)⟩
structure PFd where
  word:Int
  bit:Int
  width:Int
  size:Int
instance:Rp PFd where
  isAgg:=true
  size:=4
  R w F cs x:=cs=[.int .i64 x.word,.int .i64 x.bit,.int .i64 x.width,.int .i64 x.size]∧inI64 x.word∧inI64 x.bit∧inI64 x.width∧inI64 x.size
  len:=by rintro w F cs x ⟨rfl,h0,h1,h2,h3⟩;rfl
  one:=by rintro w F cs x ⟨rfl,h0,h1,h2,h3⟩ u hu;simp at hu;rcases hu with rfl|rfl|rfl|rfl<;>first|rfl|exact Vb.one rfl (by assumption)
  agree:=by rintro w w' F cs x ⟨rfl,h0,h1,h2,h3⟩ ha;exact ⟨rfl,h0,h1,h2,h3⟩
  mono:=by rintro w F G cs x ⟨rfl,h0,h1,h2,h3⟩ ha;exact ⟨rfl,h0,h1,h2,h3⟩
structure Pkr where
  fields:List PFd
  words:Int
instance:Ow Pkr where
  R w F M v x:=∃ (g:Nat) (L:Lab) (c0:Value),v=.pointer (some ⟨g,0,none⟩)∧Blk w g 175 [c0,.int .i64 x.words]∧M g∧L g=0∧RwM w F (fun k=>M k∧L k=1) 177 c0 x.fields∧inI64 x.words
  agree:=by rintro w w' F M v x ⟨g,L,c0,rfl,hb,hM,hL,h0,h1⟩ a1 a2;exact ⟨g,L,c0,rfl,hb.keep (a2 g hM),hM,hL,h0.agree a1 fun k hk=>a2 k hk.1,h1⟩
  mono:=by rintro w F M F' M' v x ⟨g,L,c0,rfl,hb,hM,hL,h0,h1⟩ a1 a2 a3;exact ⟨g,L,c0,rfl,hb,a2 g hM,hL,h0.mono a1 (fun k hk=>⟨a2 k hk.1,hk.2⟩) fun k hf hm=>a3 k hf hm.1,h1⟩
instance:OwP Pkr:=⟨by rintro w F M v x ⟨g,L,c0,rfl,_⟩;exact ⟨g,rfl⟩⟩
theorem Pkr.opn {i:Nat} {w:World} {O:Lab} {p:Nat} {x:Pkr} (h:Ob i w O (.pointer (some ⟨p,0,none⟩)) x) (l0 l1:Nat) (hl:l0≠0∧l1≠0):∃ (O':Lab) (c0:Value),St (eT i) w O w O'∧(∀ k,Fr i w O k→∃ q,q∈[l0,l1]∧Fr q w O' k)∧Lc l0 w O' p 175 [c0,.int .i64 x.words]∧Rw l1 w O' 177 c0 x.fields∧inI64 x.words:=by
  obtain ⟨⟨g,L,c0,hv,hb,hM,hL,h0,h1⟩,hi⟩:=h
  obtain rfl:p=g:=by injection hv with hv;injection hv with hv;injection hv
  exact ⟨part O i L [l0,l1],c0,IQ hi,Hv (by simp),⟨hb,(ED (j:=0) rfl p ⟨hM,hL⟩).2⟩,h0.rw (CQ hi) (ED (j:=1) rfl) hl.2,h1⟩
theorem Pkr.shut {w:World} {O:Lab} {p:Nat} {x:Pkr} {l0 l1:Nat} {c0:Value} (hd:¬ 0∈[l0,l1]∧[l0,l1].idxOf l0=0∧[l0,l1].idxOf l1=1) (hb:Lc l0 w O p 175 [c0,.int .i64 x.words]) (h0:Rw l1 w O 177 c0 x.fields) (h1:inI64 x.words):∃ O',St (·∈[l0,l1]) w O w O'∧(∀ k,Fr 0 w O k→Fr 0 w O' k)∧(∀ q,q∈[l0,l1]→∀ k,Fr q w O k→Fr l0 w O' k)∧Ob l0 w O' (.pointer (some ⟨p,0,none⟩)) x:=by
  have hb1:l0≠0:=fun e=>hd.1 (by simp [e])
  have hg:=Ea (i:=l0) hd.2.1 (by simp) p ⟨hb.1.lt,hb.2⟩
  exact ⟨whole O l0 [l0,l1],Hw,Ca hd.1,GQ,⟨p,fun k=>[l0,l1].idxOf (O k),c0,rfl,hb.1,hg.1,hg.2,h0.m (Ca hd.1) (Ea hd.2.2 (by simp)) (fun k a b=>frNe0 hb1 k a b.1),h1⟩,hb1⟩
noncomputable def Eu (x0:List Int):Option ((Option Pkr)×Err) :=
  if 64 < (x0.length:Int) then (some (none,(⟨5⟩:Err))) else (bnd (rng (ρ:=(Option Pkr)×Err) (fun (k25:Nat) (a26:Int) (s23:Int×Pkr)=>bnd (if a26 < 1 then (some true) else (if 64 < a26 then (some true) else (some false)):Option Bool) fun y48=>if y48=true then (some (.ret (none,(⟨1⟩:Err)))) else (bnd (lop (ρ:=Ctl (Int×Pkr) ((Option Pkr)×Err)) (fun (s61:Int)=>bnd (shlI 1 s61) fun n76=>if n76 < a26 then (bnd (chkI (s61 + 1)) fun n80=>some (.next n80)) else (some (.brk s61))) 0) fun res59=>fin res59 fun (s87:Int)=>bnd (bnd (chkI (s23.1 + s87)) fun n95=>if 64 < n95 then (bnd (chkI (s23.2.words + 1)) fun n109=>some (0,(⟨s23.2.fields,n109⟩:Pkr))) else (some (s23.1,s23.2)):Option (Int×Pkr)) fun y89=>bnd (chkI (y89.2.words - 1)) fun n133=>bnd (appI 32 y89.2.fields [(⟨n133,y89.1,s87,a26⟩:PFd)]) fun u142=>bnd (chkI (y89.1 + s87)) fun n155=>some (.next (n155,(⟨u142,y89.2.words⟩:Pkr))))) x0 0 (0,(⟨([]:List PFd),1⟩:Pkr))) fun res21=>fin res21 fun (s167:Int×Pkr)=>some ((some s167.2),(⟨0⟩:Err)))
theorem ML {w:World} {O:Lab} {vx0:Value} {x0:List Int} (b0:Vb w (Fr 0 w O) vx0 x0) (j0:Nat) (hj0:j0≠0) {r:(Option Pkr)×Err} (hm:Eu x0=some r) :
    Fn Tryz.prog 82 [vx0] w fun v w'=>∃ O',St nT w O w' O'∧∃ v0 v1:Value,v=.tuple #[v0,v1]∧Obo j0 w' O' v0 r.1∧Vb w' (Fr 0 w' O') v1 r.2:=by
 obtain ⟨O0,hE,q3⟩:=ent0 (w:=w) (O:=O)
 have hB:Bm w O0 w O0:=Bm.refl
 replace b0:=b0.mono q3
 obtain ⟨A2,c3,rfl⟩:=b0.form
 refine AI Tryz.func82 rfl Tryz.ntmps82 rfl ?_
 unfold Eu at hm
 refine Al (Aj (Ar rfl rfl (Ar rfl rfl (o_z ?_))))
 refine Al (Al (Aj (Am rfl rfl (AN rfl rfl ?_))))
 have l5:x0.length≤9223372036854775807:=Nat.le_trans b0.len.2.1 b0.len.2.2
 have r4:inI64 (x0.length:Int):=rngNat l5
 refine CZ rfl rfl rfl (fun c6=>?_) fun c6=>?_
 ·
  replace hm:=ip hm c6
  refine o_z ?_
  refine Ah rfl (Al (Aj (Er rfl rfl ?_)))
  refine Ar rfl rfl (Ar rfl rfl (o_z ?_))
  refine AK ?_
  obtain rfl:=sm hm
  obtain ⟨O',hS',hz,hl⟩:=hE.leave (fun _=>0) rfl hB
  exact ret2 rfl (AB rfl) (AB rfl) ⟨O',hS',_,_,rfl,rfl,(vErr (by decide))⟩
 replace hm:=im hm c6
 refine o_z ?_
 refine Ae rfl (AJ (Al (Aj (EK rfl rfl rfl ?_))))
 refine EJ 2 O0 rfl rfl fun g7 w8 O9 x1 y1=>?_
 replace y1:Lc 2 w8 O9 g7 175 [(.slice none 0 0),(.int .i64 1)]:=y1
 refine Ar rfl rfl (o_z ?_)
 refine Al (Aj (Ar rfl rfl (o_z ?_)))
 refine Al (Al (Aj (Am rfl rfl (AN rfl rfl ?_))))
 replace b0:=b0.st x1
 have z1:x0.length≤9223372036854775807:=Nat.le_trans b0.len.2.1 b0.len.2.2
 have d5:inI64 (x0.length:Int):=rngNat z1
 refine Am rfl rfl (o_z ?_)
 have r3:Rw 3 w8 O9 177 (.slice none 0 0) ([]:List PFd):=Rw.nil 3 (by decide)
 obtain ⟨s3,a2,t3,u3,v3⟩:=Pkr.shut (x:=(⟨([]:List PFd),1⟩:Pkr)) (l0:=2) (l1:=3) (by decide) y1 r3 (show inI64 (1) from by decide)
 obtain ⟨b1,b2,hm⟩:=bs hm
 refine AM (aft b1 (fun (g0:Int×Pkr) (s1:Unit)=>[(4,(.pointer (some ⟨g7,0,none⟩)))]) (fun g0 s1 w'=>∃ O':Lab,Bm w O0 w' O'∧Ob 2 w' O' (.pointer (some ⟨g7,0,none⟩)) g0.2∧inI64 g0.1)) ?_ ?_
 ·
  refine AQ ?_
  replace b0:=b0.st a2
  replace hB:=(hB.st x1).st a2
  refine BV (σ:=Int×Pkr) (X:=Unit) (x0.length) b2 rfl z1 (fun (g0:Int×Pkr) (s1:Unit)=>[(4,(.pointer (some ⟨g7,0,none⟩))),(5,(.int .i64 g0.1)),(15,(.slice A2 x0.length c3))]) _ (fun g0 s1 w'=>∃ O':Lab,Bm w O0 w' O'∧Ob 2 w' O' (.pointer (some ⟨g7,0,none⟩)) g0.2∧Vb w' (Fr 0 w' O') (.slice A2 x0.length c3) x0∧inI64 g0.1) _ () ⟨s3,hB,v3,b0,(show inI64 (0) from by decide)⟩ ⟨rfl,rfl,rfl,rfl,rfl,trivial⟩ (fun _ _=>⟨rfl,rfl⟩) (fun _ _=>⟨rfl,trivial⟩) (fun _ _ _ ⟨O',hB,h0,b0,t1⟩=>⟨O',hB,h0,t1⟩) ⟨rfl,rfl,rfl⟩ ⟨rfl,rfl⟩ ?_
  rintro c1 s0 g0 s1 e5 w3 d1 ⟨f5,hB,h0,b0,t1⟩ a0 t0 c2
  have rk25:inI64 (c1:Int):=rngK d1 z1
  refine Al (Aj ?_)
  obtain ⟨g5,h5,x3,d2,e2,f2,rfl,y3⟩:=b0.elem' d1
  refine BW (hA:=d2) (hj:=rfl) (hlt:=e2) rfl rfl rfl ?_
  refine AE (hc:=cat0 f2) rfl rfl ?_
  refine Ar rfl rfl (o_z ?_)
  refine Al (Al ?_)
  obtain ⟨z3,c0,a0⟩:=bs a0
  refine AM (fun l' w'=>∃ (a4:Unit) (O':Lab),subs l' [(4,(.pointer (some ⟨g7,0,none⟩))),(5,(.int .i64 g0.1)),(7,(.int .i64 s0)),(15,(.slice A2 x0.length c3)),(16,(.int .i64 (x0.length:Int))),(17,(.int .i64 (c1:Int))),(26,(.bool z3))]∧Bm w O0 w' O'∧Ob 2 w' O' (.pointer (some ⟨g7,0,none⟩)) g0.2∧Vb w' (Fr 0 w' O') (.slice A2 x0.length c3) x0) ?_ ?_
  ·
   refine Aj (Am rfl rfl (DJ rfl rfl rfl (fun g2=>?_) fun g2=>?_))
   ·
    replace c0:=ip c0 g2
    refine Am rfl rfl (Au rfl rfl rfl rfl (Au rfl rfl rfl rfl (Bk rfl rfl rfl (o_z ?_))))
    obtain rfl:=sm c0
    exact ⟨(),_,⟨rfl,rfl,rfl,rfl,rfl,rfl,rfl,trivial⟩,hB,h0,b0⟩
   replace c0:=im c0 g2
   refine Am rfl rfl (Aw rfl rfl (Am rfl rfl (Aw rfl rfl (CZ rfl rfl rfl (fun h2=>?_) fun h2=>?_))))
   ·
    replace c0:=ip c0 h2
    refine Bp rfl rfl rfl (o_z ?_)
    obtain rfl:=sm c0
    exact ⟨(),_,⟨rfl,rfl,rfl,rfl,rfl,rfl,rfl,trivial⟩,hB,h0,b0⟩
   replace c0:=im c0 h2
   refine Bp rfl rfl rfl (o_z ?_)
   obtain rfl:=sm c0
   exact ⟨(),_,⟨rfl,rfl,rfl,rfl,rfl,rfl,rfl,trivial⟩,hB,h0,b0⟩
  rintro i5 j5 ⟨a4,b4,i2,hB,h0,b0⟩
  refine AP _ i2 ?_
  refine CY rfl (fun j2=>?_) (fun j2=>?_)
  ·
   replace a0:=ip a0 j2
   refine Al (Aj (Er rfl rfl ?_))
   refine Ar rfl rfl (Ar rfl rfl (o_z ?_))
   refine AK ?_
   obtain rfl:=sm a0
   obtain rfl:=t0 _ rfl
   obtain rfl:=sm (Cy hm)
   obtain ⟨O',hS',hz,hl⟩:=hE.leave (fun _=>0) rfl hB
   exact ret2 rfl (AB rfl) (AB rfl) ⟨O',hS',_,_,rfl,rfl,(vErr (by decide))⟩
  replace a0:=im' a0 j2
  refine AJ (Al (Aj (Ar rfl rfl (o_z ?_))))
  refine Al ?_
  obtain ⟨e1,k2,a0⟩:=bs a0
  refine AM (aft e1 (fun (q0:Int) (u1:Unit)=>[(4,(.pointer (some ⟨g7,0,none⟩))),(5,(.int .i64 g0.1)),(7,(.int .i64 s0)),(8,(.int .i64 q0)),(15,(.slice A2 x0.length c3)),(16,(.int .i64 (x0.length:Int))),(17,(.int .i64 (c1:Int)))]) (fun q0 u1 w'=>∃ O':Lab,Bm w O0 w' O'∧Ob 2 w' O' (.pointer (some ⟨g7,0,none⟩)) g0.2∧Vb w' (Fr 0 w' O') (.slice A2 x0.length c3) x0∧inI64 q0)) ?_ ?_
  ·
   refine AQ (Gn (σ:=Int) (X:=Unit) k2 (fun (q0:Int) (u1:Unit)=>[(4,(.pointer (some ⟨g7,0,none⟩))),(5,(.int .i64 g0.1)),(7,(.int .i64 s0)),(8,(.int .i64 q0)),(15,(.slice A2 x0.length c3)),(16,(.int .i64 (x0.length:Int))),(17,(.int .i64 (c1:Int)))]) _ (fun q0 u1 w'=>∃ O':Lab,Bm w O0 w' O'∧Ob 2 w' O' (.pointer (some ⟨g7,0,none⟩)) g0.2∧Vb w' (Fr 0 w' O') (.slice A2 x0.length c3) x0∧inI64 q0) _ () ⟨b4,hB,h0,b0,(show inI64 (0) from by decide)⟩ ⟨rfl,rfl,rfl,rfl,rfl,rfl,rfl,trivial⟩ ?_)
   rintro q0 u1 k5 c4 ⟨m5,hB,h0,b0,l2⟩ d0 m2 u0
   refine Al (Al (Aj (Am rfl rfl ?_)))
   obtain ⟨n5,h3,d0⟩:=bs d0
   have o5:=Oi h3
   refine QT (he:=h3) rfl rfl rfl ?_
   refine Am rfl rfl (DJ rfl rfl rfl (fun n2=>?_) fun n2=>?_)
   ·
    replace d0:=ip d0 n2
    refine o_z ?_
    refine Ah rfl (AJ (AQ (Aj (Am rfl rfl ?_))))
    obtain ⟨p5,i3,d0⟩:=bs d0
    have d4:=(Cv i3)
    refine Fw (he:=i3) rfl rfl rfl ?_
    refine Ar rfl rfl (o_z ?_)
    obtain rfl:=sm d0
    exact show Exists _ from ⟨_,(),rfl,⟨rfl,rfl,rfl,rfl,rfl,rfl,rfl,trivial⟩,_,hB,h0,b0,d4⟩
   replace d0:=im d0 n2
   refine o_z ?_
   refine Ae rfl (DW ?_)
   obtain rfl:=sm d0
   exact show Exists _ from ⟨_,(),u0 _ rfl,⟨rfl,rfl,rfl,rfl,rfl,rfl,rfl,trivial⟩,_,hB,h0,b0,l2⟩
  rintro q5 r5 ⟨w1,s5,rfl,o2,t5,hB,h0,b0,l2⟩
  replace a0:=Bo a0
  refine AP _ o2 ?_
  refine Al ?_
  obtain ⟨r0,e0,a0⟩:=bs a0
  refine AM (fun l' w'=>∃ (e4:Unit) (O':Lab),subs l' [(4,(.pointer (some ⟨g7,0,none⟩))),(5,(.int .i64 r0.1)),(7,(.int .i64 s0)),(8,(.int .i64 w1)),(15,(.slice A2 x0.length c3)),(16,(.int .i64 (x0.length:Int))),(17,(.int .i64 (c1:Int)))]∧Bm w O0 w' O'∧Ob 2 w' O' (.pointer (some ⟨g7,0,none⟩)) r0.2∧Vb w' (Fr 0 w' O') (.slice A2 x0.length c3) x0∧inI64 r0.1) ?_ ?_
  ·
   refine Al (Aj (Am rfl rfl (Am rfl rfl ?_)))
   obtain ⟨u5,j3,e0⟩:=bs e0
   have v5:=(Cv j3)
   refine Fw (he:=j3) rfl rfl rfl ?_
   refine CZ rfl rfl rfl (fun p2=>?_) fun p2=>?_
   ·
    replace e0:=ip e0 p2
    refine o_z ?_
    refine Ah rfl (Al (Aj (Am rfl rfl (BK rfl rfl ?_))))
    obtain ⟨f4,g4,f1,k3,i0,m0,h4⟩:=Pkr.opn h0 2 4 (by decide)
    obtain ⟨q2,r2,rfl⟩:=m0.form
    refine AF rfl rfl (AE (hc:=Blk.cell (i:=1) (i0.1) rfl) rfl rfl ?_)
    obtain ⟨g1,h1,e0⟩:=bs e0
    have s2:=(Cv h1)
    refine Fw (he:=h1) rfl rfl rfl ?_
    refine BK rfl rfl (AF rfl rfl (Bf i0 rfl rfl rfl (BO rfl) (allOne rfl) fun t2 w0 i0=>?_))
    replace i0:Lc 2 t2 f4 g7 175 [(.slice q2 g0.2.fields.length r2),(.int .i64 g1)]:=i0
    refine o_z ?_
    refine Aj (Ar rfl rfl (o_z ?_))
    replace m0:=m0.st w0
    obtain ⟨i4,i1,l3,m3,u2⟩:=Pkr.shut (x:=(⟨g0.2.fields,g1⟩:Pkr)) (l0:=2) (l1:=4) (by decide) i0 m0 s2
    obtain rfl:=sm e0
    exact ⟨(),_,⟨rfl,rfl,rfl,rfl,rfl,rfl,rfl,trivial⟩,((hB.st f1).st w0).st i1,u2,((b0.st f1).st w0).st i1,(show inI64 (0) from by decide)⟩
   replace e0:=im e0 p2
   refine o_z ?_
   refine Ae rfl (AJ ?_)
   obtain rfl:=sm e0
   exact ⟨(),_,⟨rfl,rfl,rfl,rfl,rfl,rfl,rfl,trivial⟩,hB,h0,b0,t1⟩
  rintro j4 k4 ⟨e4,l4,j1,hB,m4,b0,n4⟩
  refine AP _ j1 ?_
  refine Al ?_
  obtain ⟨k1,o4,m1,n3,f0,n0,v2⟩:=Pkr.opn m4 2 4 (by decide)
  obtain ⟨p4,q4,rfl⟩:=n0.form
  refine Bt [(15,[4])] k1 ?_
  refine AT (fuel:=6) [] [(1,true),(2,true),(3,true),(4,true),(5,true),(6,true),(7,true),(8,true),(9,true),(10,true),(11,true),(12,true),(13,true)] (by kernel_rfl) rfl ?_
  refine AH rfl rfl rfl (Cd rfl rfl rfl (AR rfl rfl rfl (AS (hc:=fun w' ⟨O',hq⟩=>Blk.cell (i:=0) ((f0.st hq (by decide)).1) rfl) rfl rfl rfl ?_)))
  refine AH rfl rfl rfl (Cd rfl rfl rfl (AR rfl rfl rfl (AS (hc:=fun w' ⟨O',hq⟩=>Blk.cell (i:=1) ((f0.st hq (by decide)).1) rfl) rfl rfl rfl ?_)))
  obtain ⟨y0,n1,a0⟩:=bs a0
  have w2:=(Cv n1)
  refine QP (he:=n1) rfl rfl rfl rfl ?_
  refine AH rfl rfl rfl (AH rfl rfl rfl (AH rfl rfl rfl (Fu rfl rfl rfl rfl ?_)))
  refine AG ?_
  refine AT (fuel:=5) [4] [(0,true)] (by kernel_rfl) rfl ?_
  refine AH rfl rfl rfl (AG ?_)
  refine AV (i:=14) (by kernel_rfl) rfl ?_
  refine BX 5 (by decide) k1 (xs:=([(⟨y0,r0.1,w1,s0⟩:PFd)]:List PFd)) rfl rfl rfl rfl ⟨(Vb.ofAgg (cs:=[(.int .i64 y0),(.int .i64 r0.1),(.int .i64 w1),(.int .i64 s0)]) (x:=(⟨y0,r0.1,w1,s0⟩:PFd)) rfl ⟨rfl,w2,n4,l2,y3⟩),trivial⟩ (by decide) (by decide) rfl fun s4 t4 u4 k0 x2=>?_
  have hZ:=k0.lst [] (fun _ h=>h.elim)
  refine Bg [(15,[4])] hZ (by kernel_rfl) ?_
  refine AV (i:=15) (by kernel_rfl) rfl ?_
  obtain ⟨o1,z0,a0⟩:=bs a0
  obtain ⟨z0,y2,z2⟩:=Cg z0
  replace n0:=n0.st k0
  refine CH rfl n0 (x2.rd) rfl rfl (by decide) y2 z2 rfl fun a3 b3 v4 d3 o0 p0=>?_
  rw [← z0] at p0 ⊢
  have hZ:=o0.lst [4] (fun _ h=>by cases h;decide)
  refine Bg [] hZ (by kernel_rfl) ?_
  refine AT (fuel:=1) [] [(16,true),(17,true)] (by kernel_rfl) rfl ?_
  refine Cd rfl rfl rfl (AR rfl rfl rfl (AG ?_))
  refine AV (i:=18) (by kernel_rfl) rfl ?_
  replace f0:=(f0.st k0).st o0
  refine Bf f0 rfl rfl rfl (BO rfl) (allOne rfl) fun e3 a1 f0=>?_
  replace f0:Lc 2 e3 d3 g7 175 [(.slice a3 o1.length b3),(.int .i64 r0.2.words)]:=f0
  refine Di (by kernel_rfl) ?_
  refine BC (by kernel_rfl) ?_
  refine Aj (Am rfl rfl (Am rfl rfl ?_))
  obtain ⟨w4,p1,a0⟩:=bs a0
  have f3:=(Cv p1)
  refine Fw (he:=p1) rfl rfl rfl ?_
  refine Ar rfl rfl (o_z ?_)
  replace p0:=p0.st a1
  obtain ⟨x4,q1,o3,p3,g3⟩:=Pkr.shut (x:=(⟨o1,r0.2.words⟩:Pkr)) (l0:=2) (l1:=4) (by decide) f0 p0 v2
  obtain rfl:=sm a0
  exact show Exists _ from ⟨_,(),rfl,⟨rfl,rfl,rfl,rfl,rfl,trivial⟩,_,((((hB.st m1).st k0).st o0).st a1).st q1,g3,((((b0.st m1).st k0).st o0).st a1).st q1,f3⟩
 replace hB:=(hB.st x1).st a2
 rintro y4 z4 ⟨a5,b5,rfl,r1,c5,hB,h0,t1⟩
 replace hm:=Bo hm
 refine AP _ r1 ?_
 refine Al (Aj (Am rfl rfl (Ar rfl rfl (Ar rfl rfl (o_z ?_)))))
 refine AK ?_
 obtain rfl:=sm hm
 obtain ⟨O',hS',hz,hl⟩:=hE.leave (fun q=>if q=2 then j0 else 0) rfl hB
 exact ret2 rfl (AB rfl) (AB rfl) ⟨O',hS',_,_,rfl,(Ob.leave h0 hz (hl 2 (by decide) (by decide)) hj0),(vErr (show inI64 0 from by decide))⟩
noncomputable def Cu (x0:PFd):Option U64 :=
  bnd (shlU (1:U64) x0.width) fun n12=>bnd (shlU (n12 - (1:U64)) x0.bit) fun n14=>some n14
theorem Ga {w:World} {A:Nat→Prop} (hA:∀ k,A k→k < w.heap.size) {vx0:Value} {x0:PFd} (b0:Vb w A vx0 x0) {r:U64} (hm:Cu x0=some r) :
    Fn Tryz.prog 112 [vx0] w fun v w'=>Ext w w'∧Vb w' (upA A w w') v r:=by
 obtain ⟨O,hB,d0⟩:=enter hA
 replace b0:=b0.mono d0
 obtain ⟨h0,rfl,rfl,r3,r4,r5,r6⟩:=b0
 refine AI Tryz.func112 rfl Tryz.ntmps112 rfl ?_
 unfold Cu at hm
 refine Al (Aj (EJ 2 O rfl rfl fun g7 w8 O9 e0 a0=>?_))
 replace a0:Lc 2 w8 O9 g7 177 [(.int .i64 x0.word),(.int .i64 x0.bit),(.int .i64 x0.width),(.int .i64 x0.size)]:=a0
 refine Ar rfl rfl (o_z ?_)
 refine Al (Cc (·=w8) [(0,true),(1,true),(2,true),(3,true),(4,true),(5,true),(6,true),(7,true)] (by kernel_rfl) rfl (by kernel_rfl) rfl ?_)
 refine AR rfl rfl rfl (BZ (hc:=Blk.cell (i:=2) (a0.1) rfl) rfl rfl rfl ?_)
 obtain ⟨c0,f0,hm⟩:=bs hm
 refine MK (a:=(1:U64)) (he:=f0) rfl rfl rfl rfl ?_
 refine QZ (a:=c0) (b:=(1:U64)) rfl rfl rfl rfl ?_
 refine AR rfl rfl rfl (BZ (hc:=Blk.cell (i:=1) (a0.1) rfl) rfl rfl rfl ?_)
 obtain ⟨i0,g0,hm⟩:=bs hm
 refine MK (a:=(c0 - (1:U64))) (he:=g0) rfl rfl rfl rfl ?_
 refine Dv rfl rfl rfl (h_z ?_)
 refine AK ?_
 obtain rfl:=sm hm
 replace hB:=hB.st e0
 exact ret1v rfl (AB rfl) ⟨hB.ext,vU64⟩
noncomputable def CR (x0:PFd) (x1:List U64):Option Int :=
  bnd (atI x1 x0.word) fun a15=>bnd (Cu x0) fun q26=>bnd (shrU (a15 &&& q26) x0.bit) fun n33=>some n33.toInt
theorem Jv {w:World} {A:Nat→Prop} (hA:∀ k,A k→k < w.heap.size) {vx0:Value} {x0:PFd} (d0:Vb w A vx0 x0) {vx1:Value} {x1:List U64} (a0:Vb w A vx1 x1) {r:Int} (hm:CR x0 x1=some r) :
    Fn Tryz.prog 111 [vx0,vx1] w fun v w'=>Ext w w'∧Vb w' (upA A w w') v r:=by
 obtain ⟨O,hB,k0⟩:=enter hA
 replace d0:=d0.mono k0
 obtain ⟨y0,rfl,rfl,r4,r5,r6,r7⟩:=d0
 replace a0:=a0.mono k0
 obtain ⟨A8,c9,rfl⟩:=a0.form
 refine AI Tryz.func111 rfl Tryz.ntmps111 rfl ?_
 unfold CR at hm
 refine Al (Aj (EJ 2 O rfl rfl fun o0 e0 c0 l0 b0=>?_))
 replace b0:Lc 2 e0 c0 o0 177 [(.int .i64 x0.word),(.int .i64 x0.bit),(.int .i64 x0.width),(.int .i64 x0.size)]:=b0
 refine Ar rfl rfl (o_z ?_)
 refine Al (Bt [] c0 ?_)
 refine AT (fuel:=5) [] [(0,true),(1,true),(2,true),(3,true),(4,true),(5,true),(8,true),(9,true)] (by kernel_rfl) rfl ?_
 refine AH rfl rfl rfl (AR rfl rfl rfl (AS (hc:=fun w' ⟨O',hq⟩=>Blk.cell (i:=0) ((b0.st hq (by decide)).1) rfl) rfl rfl rfl ?_))
 obtain ⟨m0,p0,hm⟩:=bs hm
 obtain ⟨q0,r0⟩:=AO p0
 replace a0:=a0.st l0
 obtain ⟨z0,a1,s0,f0,g0,h0,i0,rfl⟩:=a0.elem r0
 refine BJ (hA:=f0) (hj:=(Int.toNat_of_nonneg q0).symm) (hlt:=h0) rfl rfl rfl rfl ?_
 refine AS (hc:=fun w' ⟨O',hq⟩=>cat0 (AZ (hq.agree (i:=0) (by decide)) g0 i0)) rfl rfl rfl ?_
 refine ET (hl:=rfl) (hb:=fun w' ⟨O',hq⟩=>((b0.st hq (by decide)).1).cellsAt) rfl rfl rfl ?_
 refine AR rfl rfl rfl (AS (hc:=fun w' ⟨O',hq⟩=>Blk.cell (i:=1) ((b0.st hq (by decide)).1) rfl) rfl rfl rfl ?_)
 refine AG ?_
 refine AV (i:=6) (by kernel_rfl) rfl ?_
 obtain ⟨j0,t0,hm⟩:=bs hm
 refine Ce (O:=c0) (A:=All e0) (R:=fun w' F v=>Vb w' F v j0) (Ga (fun _ h=>h) (Vb.mono (F:=Fr 0 e0 c0) (Vb.ofAgg (cs:=[(.int .i64 x0.word),(.int .i64 x0.bit),(.int .i64 x0.width),(.int .i64 x0.size)]) (x:=x0) rfl ⟨rfl,r4,r5,r6,r7⟩) Fr.lt) t0) rfl rfl fun b1 c1 d1 n0 u0=>?_
 obtain rfl:=u0.u64
 have hZ:=n0.lst [] (fun _ h=>h.elim)
 refine Bg [] hZ (by kernel_rfl) ?_
 refine AT (fuel:=0) [] [(7,true),(10,true),(11,true),(12,true)] (by kernel_rfl) rfl ?_
 refine QW (a:=m0) (b:=j0) rfl rfl rfl rfl ?_
 obtain ⟨v0,w0,hm⟩:=bs hm
 refine Ra (a:=(m0 &&& j0)) (he:=w0) rfl rfl rfl rfl ?_
 refine Rc (a:=v0) rfl rfl rfl ?_
 refine Dv rfl rfl rfl (AG ?_)
 refine BC (by kernel_rfl) ?_
 refine AK ?_
 obtain rfl:=sm hm
 replace hB:=(hB.st l0).st n0
 exact ret1v rfl (AB rfl) ⟨hB.ext,(vInt (toIntR _))⟩
noncomputable def By (x0:Pkr) (x1:List Int):Option ((List U64)×Err) :=
  if (x1.length:Int)≠(x0.fields.length:Int) then (some (([]:List U64),(⟨2⟩:Err))) else (bnd (mkI 8 ((0:U64):U64) x0.words) fun u25=>bnd (rng (ρ:=(List U64)×Err) (fun (k50:Nat) (a51:PFd) (s48:(List U64))=>bnd (bnd (x1[k50]?) fun a87=>if a87 < 0 then (some true) else (bnd (x1[k50]?) fun a98=>if a51.size≤a98 then (some true) else (some false)):Option Bool) fun y83=>if y83=true then (some (.ret (([]:List U64),(⟨2⟩:Err)))) else (bnd (atI s48 a51.word) fun a114=>bnd (x1[k50]?) fun a125=>bnd (shlU (BitVec.ofInt 64 a125) a51.bit) fun n135=>bnd (atI s48 a51.word) fun a137=>some (.next (s48.set (a51.word:Int).toNat (a114 ||| n135))))) x0.fields 0 u25) fun res46=>fin res46 fun (s154:(List U64))=>some (s154,(⟨0⟩:Err)))
theorem Is {w:World} {O:Lab} {p0 i0:Nat} {x0:Pkr} (q0:Ob i0 w O (.pointer (some ⟨p0,0,none⟩)) x0) {vx1:Value} {x1:List Int} (c0:Vb w (Fr 0 w O) vx1 x1) {r:(List U64)×Err} (hm:By x0 x1=some r) :
    Fn Tryz.prog 107 [(.pointer (some ⟨p0,0,none⟩)),vx1] w fun v w'=>∃ O',St (eT i0) w O w' O'∧∃ v0 v1:Value,Ob i0 w' O' (.pointer (some ⟨p0,0,none⟩)) x0∧v=.tuple #[v0,v1]∧Vb w' (Fr 0 w' O') v0 r.1∧Vb w' (Fr 0 w' O') v1 r.2:=by
 obtain ⟨O0,hE,c3,l3⟩:=ent1 (w:=w) (O:=O) q0.2
 have q0':=Ob.leave q0 c3 l3 (j:=2) (by decide)
 have hB:Bm w O0 w O0:=Bm.refl
 replace c0:=c0.mono c3
 obtain ⟨A3,c4,rfl⟩:=c0.form
 refine AI Tryz.func107 rfl Tryz.ntmps107 rfl ?_
 unfold By at hm
 refine Al (Aj (Ar rfl rfl (Ar rfl rfl (o_z ?_))))
 refine Al (Al (Aj (Am rfl rfl (Ep rfl rfl ?_))))
 refine o_z ?_
 refine Ae rfl (AJ (Al (Al (Aj (Am rfl rfl (AN rfl rfl ?_))))))
 have l6:x1.length≤9223372036854775807:=Nat.le_trans c0.len.2.1 c0.len.2.2
 have r5:inI64 (x1.length:Int):=rngNat l6
 refine Am rfl rfl (BK rfl rfl ?_)
 obtain ⟨O7,c5,S8,m3,h9,k0,d3⟩:=Pkr.opn q0' 2 3 (by decide)
 obtain ⟨a2,b2,rfl⟩:=k0.form
 refine AF rfl rfl (AE (hc:=Blk.cell (i:=0) (h9.1) rfl) rfl rfl ?_)
 refine AN rfl rfl ?_
 have n3:x0.fields.length≤9223372036854775807:=Nat.le_trans k0.len.2.1 k0.len.2.2
 have d5:inI64 (x0.fields.length:Int):=rngNat n3
 refine ES rfl rfl rfl (fun e2=>?_) fun e2=>?_
 ·
  replace hm:=ip hm e2
  refine o_z ?_
  refine Ah rfl (Al (Aj (Er rfl rfl ?_)))
  refine Ar rfl rfl (Ar rfl rfl (o_z ?_))
  refine AK ?_
  obtain ⟨e5,o3,p3,q3,r3⟩:=Pkr.shut (x:=x0) (l0:=2) (l1:=3) (by decide) h9 k0 d3
  obtain rfl:=sm hm
  replace hB:=(hB.st S8).st o3
  obtain ⟨O',hS',hz,hl⟩:=hE.leave (fun q=>if q=2 then i0 else 0) rfl hB
  exact ret2 rfl (AB rfl) (AB rfl) ⟨O',hS',_,_,(Ob.leave r3 hz (hl 2 (by decide) (by decide)) q0.2),rfl,(Vb.mono (Vb.nil _ _) hz),(vErr (by decide))⟩
 replace hm:=im hm e2
 refine o_z ?_
 refine Ae rfl (AJ (Al (Aj (Am rfl rfl (BK rfl rfl (AF rfl rfl (AE (hc:=Blk.cell (i:=1) (h9.1) rfl) rfl rfl ?_)))))))
 obtain ⟨w0,s3,hm⟩:=bs hm
 obtain ⟨y0,t3,u3,v3,w3⟩:=DY s3
 refine Gx 4 (by decide) O7 (z0:=((0:U64):U64)) rfl rfl rfl rfl rfl t3 vU64 u3 v3 rfl fun a1 f5 g5 b1 c2=>?_
 rw [← w3] at c2 ⊢
 refine Ar rfl rfl (o_z ?_)
 refine Al (Al (Aj (Am rfl rfl (BK rfl rfl (AF rfl rfl ?_)))))
 replace h9:=h9.st b1
 refine AE (hc:=Blk.cell (i:=0) (h9.1) rfl) rfl rfl ?_
 refine AN rfl rfl ?_
 replace k0:=k0.st b1
 have f2:x0.fields.length≤9223372036854775807:=Nat.le_trans k0.len.2.1 k0.len.2.2
 have h5:inI64 (x0.fields.length:Int):=rngNat f2
 refine Am rfl rfl (o_z ?_)
 obtain ⟨x3,c1,g2,h2,e0⟩:=Pkr.shut (x:=x0) (l0:=2) (l1:=3) (by decide) h9 k0 d3
 have f0:=(k0.lend [3] (by decide)).shutS c1 g2 h2 [2] (by decide)
 obtain ⟨d1,i2,hm⟩:=bs hm
 refine AM (aft d1 (fun (r0:(List U64)) (d2:Unit)=>[(6,(.slice (some ⟨a1,0,none⟩) w0.length y0))]) (fun r0 d2 w'=>∃ O':Lab,Bm w O0 w' O'∧Rw 4 w' O' 182 (.slice (some ⟨a1,0,none⟩) w0.length y0) r0∧Ob 2 w' O' (.pointer (some ⟨p0,0,none⟩)) x0)) ?_ ?_
 ·
  refine AQ ?_
  replace hB:=((hB.st S8).st b1).st c1
  replace c0:=((c0.st S8).st b1).st c1
  replace c2:=c2.st c1
  refine BV (σ:=(List U64)) (X:=Unit) (x0.fields.length) i2 rfl f2 (fun (r0:(List U64)) (d2:Unit)=>[(1,(.slice A3 x1.length c4)),(6,(.slice (some ⟨a1,0,none⟩) w0.length y0)),(29,(.slice a2 x0.fields.length b2))]) _ (fun r0 d2 w'=>∃ O':Lab,Bm w O0 w' O'∧Vb w' (Fr 0 w' O') (.slice A3 x1.length c4) x1∧Rw 4 w' O' 182 (.slice (some ⟨a1,0,none⟩) w0.length y0) r0∧Vb w' (FrS [2] w' O') (.slice a2 x0.fields.length b2) x0.fields∧Ob 2 w' O' (.pointer (some ⟨p0,0,none⟩)) x0) _ () ⟨x3,hB,c0,c2,f0,e0⟩ ⟨rfl,rfl,rfl,rfl,rfl,trivial⟩ (fun _ _=>⟨rfl,rfl⟩) (fun _ _=>⟨rfl,trivial⟩) (fun _ _ _ ⟨O',hB,c0,d0,f0,e0⟩=>⟨O',hB,d0,e0⟩) ⟨rfl,rfl,rfl⟩ ⟨rfl,rfl⟩ ?_
  rintro j2 n0 r0 d2 i5 y3 e1 ⟨z3,hB,c0,d0,f0,e0⟩ a0 s0 k2
  have rk50:inI64 (j2:Int):=rngK e1 f2
  refine Al (Aj (Am rfl rfl ?_))
  obtain ⟨j5,k5,a4,l2,m2,n2,rfl,l5,m5,n5,o5⟩:=f0.elem' e1
  refine BW (hA:=l2) (hj:=rfl) (hlt:=m2) rfl rfl rfl ?_
  refine BM (hl:=rfl) (hc:=n2) rfl rfl ?_
  refine Cq 5 z3 rfl fun o2 p5 b4 g0 j0=>?_
  replace f0:=f0.stS g0 id (fun _ _=>id)
  refine Ar rfl rfl (Bf j0 rfl rfl rfl (BO rfl) (allOne rfl) fun e3 h0 j0=>?_)
  replace j0:Lc 5 e3 b4 o2 177 [(.int .i64 n0.word),(.int .i64 n0.bit),(.int .i64 n0.width),(.int .i64 n0.size)]:=j0
  replace f0:=f0.stS h0 (by decide) (by decide)
  refine o_z ?_
  refine Al (Al ?_)
  obtain ⟨d4,b0,a0⟩:=bs a0
  refine AM (fun l' w'=>∃ (e4:Unit) (O':Lab),subs l' [(1,(.slice A3 x1.length c4)),(6,(.slice (some ⟨a1,0,none⟩) w0.length y0)),(7,(.int .i64 (j2:Int))),(8,(.pointer (some ⟨o2,0,none⟩))),(29,(.slice a2 x0.fields.length b2)),(30,(.int .i64 (x0.fields.length:Int))),(31,(.int .i64 (j2:Int))),(49,(.bool d4))]∧Bm w O0 w' O'∧Vb w' (Fr 0 w' O') (.slice A3 x1.length c4) x1∧Rw 4 w' O' 182 (.slice (some ⟨a1,0,none⟩) w0.length y0) r0∧Lc 5 w' O' o2 177 [(.int .i64 n0.word),(.int .i64 n0.bit),(.int .i64 n0.width),(.int .i64 n0.size)]∧Vb w' (FrS [2] w' O') (.slice a2 x0.fields.length b2) x0.fields∧Ob 2 w' O' (.pointer (some ⟨p0,0,none⟩)) x0) ?_ ?_
  ·
   refine Cc (·=e3) [(0,true),(1,true),(2,true),(3,true),(4,true),(5,true),(6,true),(7,true),(8,true),(9,true),(10,true),(11,true),(12,true),(13,true)] (by kernel_rfl) rfl (by kernel_rfl) rfl ?_
   refine AH rfl rfl rfl (AH rfl rfl rfl ?_)
   obtain ⟨q5,f4,b0⟩:=bs b0
   replace c0:=(c0.st g0).st h0
   obtain ⟨s5,t5,g4,p2,q2,r2,rfl,u5⟩:=c0.elem' f4
   refine BJ (hA:=p2) (hj:=rfl) (hlt:=q2) rfl rfl rfl rfl ?_
   refine BZ (hc:=cat0 r2) rfl rfl rfl ?_
   refine Ff rfl rfl rfl rfl (fun s2=>?_) fun s2=>?_
   ·
    replace b0:=ip b0 s2
    refine AH rfl rfl rfl (DL rfl rfl rfl rfl rfl (DL rfl rfl rfl rfl rfl (DL rfl rfl rfl rfl rfl (DL rfl rfl rfl rfl rfl (DL rfl rfl rfl rfl rfl (DL rfl rfl rfl rfl rfl (DL rfl rfl rfl rfl rfl (CF rfl rfl rfl rfl (h_z ?_)))))))))
    obtain rfl:=sm b0
    exact ⟨(),_,⟨rfl,rfl,rfl,rfl,rfl,rfl,rfl,rfl,trivial⟩,(hB.st g0).st h0,c0,(d0.st g0).st h0,j0,f0,(e0.st g0).st h0⟩
   replace b0:=im b0 s2
   refine AH rfl rfl rfl (Az rfl (Ay rfl rfl (Cf rfl rfl (Az rfl (Ay rfl rfl (Cf rfl rfl (Az rfl (Ay rfl rfl ?_))))))))
   obtain ⟨v5,h4,b0⟩:=bs b0
   obtain ⟨i4,j4,f3,f1,g1,h1,rfl,k4⟩:=c0.elem' h4
   refine MH (hA:=f1) (hj:=rfl) (hlt:=g1) rfl rfl rfl ?_
   refine Az rfl (Ay rfl rfl (Bl (hc:=cat0 h1) rfl rfl ?_))
   refine Az rfl (Ay rfl rfl (Cl rfl rfl (Az rfl (Ay rfl rfl (Bl (hc:=Blk.cell (i:=3) (j0.1) rfl) rfl rfl ?_)))))
   refine Az rfl (Ay rfl rfl (AX (fun _ _=>AU rfl rfl) rfl (fun t0=>?_) (fun t0=>?_)))
   ·
    replace b0:=ip b0 t0
    refine CG rfl rfl rfl rfl (h_z ?_)
    obtain rfl:=sm b0
    exact ⟨(),_,⟨rfl,rfl,rfl,rfl,rfl,rfl,rfl,rfl,trivial⟩,(hB.st g0).st h0,c0,(d0.st g0).st h0,j0,f0,(e0.st g0).st h0⟩
   replace b0:=im b0 t0
   refine CG rfl rfl rfl rfl (h_z ?_)
   obtain rfl:=sm b0
   exact ⟨(),_,⟨rfl,rfl,rfl,rfl,rfl,rfl,rfl,rfl,trivial⟩,(hB.st g0).st h0,c0,(d0.st g0).st h0,j0,f0,(e0.st g0).st h0⟩
  replace hB:=(hB.st g0).st h0
  replace c0:=(c0.st g0).st h0
  replace e0:=(e0.st g0).st h0
  replace d0:=(d0.st g0).st h0
  rintro l4 m4 ⟨e4,t2,i1,hB,c0,d0,j0,f0,e0⟩
  refine AP _ i1 ?_
  refine CY rfl (fun u0=>?_) (fun u0=>?_)
  ·
   replace a0:=ip a0 u0
   refine Al (Aj (Er rfl rfl ?_))
   refine Ar rfl rfl (Ar rfl rfl (o_z ?_))
   refine AK ?_
   obtain rfl:=sm a0
   obtain rfl:=s0 _ rfl
   obtain rfl:=sm (Cy hm)
   obtain ⟨O',hS',hz,hl⟩:=hE.leave (fun q=>if q=2 then i0 else 0) rfl hB
   exact ret2 rfl (AB rfl) (AB rfl) ⟨O',hS',_,_,(Ob.leave e0 hz (hl 2 (by decide) (by decide)) q0.2),rfl,(Vb.mono (Vb.nil _ _) hz),(vErr (by decide))⟩
  replace a0:=im' a0 u0
  refine AJ (Bt [] t2 ?_)
  refine AT (fuel:=1) [] [(0,true),(1,true),(2,true),(3,true),(4,true),(5,true),(6,true),(7,true),(8,true),(9,true),(10,true),(11,true),(12,true),(13,true),(14,true)] (by kernel_rfl) rfl ?_
  refine AH rfl rfl rfl (AR rfl rfl rfl (AS (hc:=fun w' ⟨O',hq⟩=>Blk.cell (i:=0) ((j0.st hq (by decide)).1) rfl) rfl rfl rfl ?_))
  obtain ⟨j1,u2,a0⟩:=bs a0
  obtain ⟨v2,w2⟩:=AO u2
  obtain ⟨n4,o4,g3,k1,m1,n1,o1,rfl⟩:=d0.elemF w2
  refine BJ (hA:=k1) (hj:=(Int.toNat_of_nonneg v2).symm) (hlt:=n1) rfl rfl rfl rfl ?_
  refine AS (hc:=fun w' ⟨O',hq⟩=>cat0 (AZ (hq.agree (i:=4) (by decide)) m1 o1)) rfl rfl rfl ?_
  refine AH rfl rfl rfl (AH rfl rfl rfl ?_)
  obtain ⟨x2,y2,a0⟩:=bs a0
  obtain ⟨p4,q4,h3,p1,q1,r1,s1,rfl,r4⟩:=c0.elem y2
  refine BJ (hA:=p1) (hj:=rfl) (hlt:=r1) rfl rfl rfl rfl ?_
  refine AS (hc:=fun w' ⟨O',hq⟩=>cat0 (AZ (hq.agree (i:=0) (by decide)) q1 s1)) rfl rfl rfl ?_
  refine Rb rfl rfl rfl ?_
  refine AR rfl rfl rfl (AS (hc:=fun w' ⟨O',hq⟩=>Blk.cell (i:=1) ((j0.st hq (by decide)).1) rfl) rfl rfl rfl ?_)
  obtain ⟨t1,z2,a0⟩:=bs a0
  refine MK (a:=(BitVec.ofInt 64 x2)) (he:=z2) rfl rfl rfl rfl ?_
  refine QX (a:=j1) (b:=t1) rfl rfl rfl rfl ?_
  obtain ⟨s4,a3,a0⟩:=bs a0
  obtain ⟨b3,u1⟩:=AO a3
  obtain ⟨t4,u4,i3,o0,j3,w1,k3,rfl⟩:=d0.elemF u1
  refine BJ (hA:=o0) (hj:=(Int.toNat_of_nonneg b3).symm) (hlt:=w1) rfl rfl rfl rfl ?_
  refine AG ?_
  refine AV (i:=15) (by kernel_rfl) rfl ?_
  refine Dq rfl d0 (a:=(j1 ||| t1)) vU64 o0 rfl rfl (AC u1) fun v4 m0 d0=>?_
  replace f0:=f0.stS m0 (by decide) (by decide)
  refine Di (by kernel_rfl) ?_
  refine BC (by kernel_rfl) ?_
  obtain rfl:=sm a0
  exact show Exists _ from ⟨_,(),rfl,⟨rfl,rfl,rfl,rfl,rfl,trivial⟩,_,hB.st m0,c0.st m0,d0,f0,e0.st m0⟩
 replace hB:=((hB.st S8).st b1).st c1
 rintro w4 x4 ⟨y4,z4,rfl,y1,a5,hB,d0,e0⟩
 replace hm:=Bo hm
 refine AP _ y1 ?_
 refine Al (Aj (Am rfl rfl (Ar rfl rfl (Ar rfl rfl (o_z ?_)))))
 refine AK ?_
 obtain ⟨b5,z1,d0⟩:=d0.freeze
 obtain rfl:=sm hm
 replace hB:=hB.st z1
 obtain ⟨O',hS',hz,hl⟩:=hE.leave (fun q=>if q=2 then i0 else 0) rfl hB
 replace e0:=e0.st z1
 exact ret2 rfl (AB rfl) (AB rfl) ⟨O',hS',_,_,(Ob.leave e0 hz (hl 2 (by decide) (by decide)) q0.2),rfl,(Vb.mono d0 hz),(vErr (show inI64 0 from by decide))⟩
noncomputable def Cs (x0:Pkr) (x1:List U64):Option ((List Int)×Err) :=
  if (x1.length:Int)≠x0.words then (some (([]:List Int),(⟨2⟩:Err))) else (bnd (mkI 8 (0:Int) (x0.fields.length:Int)) fun u25=>bnd (BN x1) fun q38=>bnd (rng (ρ:=(List Int)×Err) (fun (k60:Nat) (a61:PFd) (s58:(List Int)×(List U64))=>bnd (CR a61 x1) fun q97=>bnd (s58.1[k60]?) fun a105=>bnd ((s58.1.set k60 q97)[k60]?) fun a117=>if a61.size≤a117 then (some (.ret (([]:List Int),(⟨2⟩:Err)))) else (bnd (atI s58.2 a61.word) fun a128=>bnd (Cu a61) fun q139=>bnd (atI s58.2 a61.word) fun a146=>some (.next ((s58.1.set k60 q97),(s58.2.set (a61.word:Int).toNat (a128 &&& ~~~q139)))))) x0.fields 0 (u25,q38)) fun res56=>fin res56 fun (s163:(List Int)×(List U64))=>bnd (rng (ρ:=(List Int)×Err) (fun (k171:Nat) (a172:U64) (s169:Unit)=>bnd (s163.2[k171]?) fun a182=>if (a182.toNat:Int)≠((0:U64).toNat:Int) then (some (.ret (([]:List Int),(⟨2⟩:Err)))) else (some (.next ()))) q38 0 ()) fun res167=>fin res167 fun (s196:Unit)=>some (s163.1,(⟨0⟩:Err)))
theorem Hx {w:World} {O:Lab} {p0 i0:Nat} {x0:Pkr} (w0:Ob i0 w O (.pointer (some ⟨p0,0,none⟩)) x0) {vx1:Value} {x1:List U64} (g0:Vb w (Fr 0 w O) vx1 x1) {r:(List Int)×Err} (hm:Cs x0 x1=some r) :
    Fn Tryz.prog 86 [(.pointer (some ⟨p0,0,none⟩)),vx1] w fun v w'=>∃ O',St (eT i0) w O w' O'∧∃ v0 v1:Value,Ob i0 w' O' (.pointer (some ⟨p0,0,none⟩)) x0∧v=.tuple #[v0,v1]∧Vb w' (Fr 0 w' O') v0 r.1∧Vb w' (Fr 0 w' O') v1 r.2:=by
 obtain ⟨O0,hE,w3,p4⟩:=ent1 (w:=w) (O:=O) w0.2
 have w0':=Ob.leave w0 w3 p4 (j:=2) (by decide)
 have hB:Bm w O0 w O0:=Bm.refl
 replace g0:=g0.mono w3
 obtain ⟨A3,c4,rfl⟩:=g0.form
 refine AI Tryz.func86 rfl Tryz.ntmps86 rfl ?_
 unfold Cs at hm
 refine Al (Aj (Ar rfl rfl (Ar rfl rfl (o_z ?_))))
 refine Al (Al (Aj (Am rfl rfl (Ep rfl rfl ?_))))
 refine o_z ?_
 refine Ae rfl (AJ (Al (Al (Aj (Am rfl rfl (AN rfl rfl ?_))))))
 have l6:x1.length≤9223372036854775807:=Nat.le_trans g0.len.2.1 g0.len.2.2
 have r5:inI64 (x1.length:Int):=rngNat l6
 refine Am rfl rfl (BK rfl rfl ?_)
 obtain ⟨O7,u6,S8,q4,h9,o0,x3⟩:=Pkr.opn w0' 2 3 (by decide)
 obtain ⟨y3,z3,rfl⟩:=o0.form
 refine AF rfl rfl (AE (hc:=Blk.cell (i:=1) (h9.1) rfl) rfl rfl ?_)
 refine ES rfl rfl rfl (fun z2=>?_) fun z2=>?_
 ·
  replace hm:=ip hm z2
  refine o_z ?_
  refine Ah rfl (Al (Aj (Er rfl rfl ?_)))
  refine Ar rfl rfl (Ar rfl rfl (o_z ?_))
  refine AK ?_
  obtain ⟨v6,r4,s4,t4,u4⟩:=Pkr.shut (x:=x0) (l0:=2) (l1:=3) (by decide) h9 o0 x3
  obtain rfl:=sm hm
  replace hB:=(hB.st S8).st r4
  obtain ⟨O',hS',hz,hl⟩:=hE.leave (fun q=>if q=2 then i0 else 0) rfl hB
  exact ret2 rfl (AB rfl) (AB rfl) ⟨O',hS',_,_,(Ob.leave u4 hz (hl 2 (by decide) (by decide)) w0.2),rfl,(Vb.mono (Vb.nil _ _) hz),(vErr (by decide))⟩
 replace hm:=im hm z2
 refine o_z ?_
 refine Ae rfl (AJ (Al (Aj (Am rfl rfl (BK rfl rfl (AF rfl rfl (AE (hc:=Blk.cell (i:=0) (h9.1) rfl) rfl rfl ?_)))))))
 refine AN rfl rfl ?_
 have v4:x0.fields.length≤9223372036854775807:=Nat.le_trans o0.len.2.1 o0.len.2.2
 have w6:inI64 (x0.fields.length:Int):=rngNat v4
 obtain ⟨y0,w4,hm⟩:=bs hm
 obtain ⟨a1,x4,y4,z4,a5⟩:=DY w4
 refine Gx 4 (by decide) O7 (z0:=(0:Int)) rfl rfl rfl rfl rfl x4 (vInt (show inI64 0 from by decide)) y4 z4 rfl fun b1 x6 b5 w1 u2=>?_
 rw [← a5] at u2 ⊢
 refine Ar rfl rfl (o_z ?_)
 refine Al (Aj (Am rfl rfl ?_))
 obtain ⟨r0,c5,hm⟩:=bs hm
 replace g0:=(g0.st S8).st w1
 refine BG 5 (by decide) (O:=b5) (FD Fr.lt g0 c5) rfl rfl fun r1 s1 y6 z6 t1 a3=>?_
 refine Ar rfl rfl (o_z ?_)
 refine Al (Al (Aj (Am rfl rfl (BK rfl rfl (AF rfl rfl ?_)))))
 replace h9:=(h9.st w1).st t1
 refine AE (hc:=Blk.cell (i:=0) (h9.1) rfl) rfl rfl ?_
 refine AN rfl rfl ?_
 replace o0:=(o0.st w1).st t1
 have b3:x0.fields.length≤9223372036854775807:=Nat.le_trans o0.len.2.1 o0.len.2.2
 have a7:inI64 (x0.fields.length:Int):=rngNat b3
 refine Am rfl rfl (o_z ?_)
 obtain ⟨d5,u1,c3,d3,c0⟩:=Pkr.shut (x:=x0) (l0:=2) (l1:=3) (by decide) h9 o0 x3
 have h0:=(o0.lend [3] (by decide)).shutS u1 c3 d3 [2] (by decide)
 obtain ⟨y1,e3,hm⟩:=bs hm
 refine AM (aft y1 (fun (c1:(List Int)×(List U64)) (v2:Unit)=>[(6,(.slice (some ⟨b1,0,none⟩) y0.length a1)),(7,(.slice r1 r0.length s1))]) (fun c1 v2 w'=>∃ O':Lab,Bm w O0 w' O'∧Rw 4 w' O' 3 (.slice (some ⟨b1,0,none⟩) y0.length a1) c1.1∧Rw 5 w' O' 182 (.slice r1 r0.length s1) c1.2∧Ob 2 w' O' (.pointer (some ⟨p0,0,none⟩)) x0)) ?_ ?_
 ·
  refine AQ ?_
  replace hB:=(((hB.st S8).st w1).st t1).st u1
  replace g0:=(g0.st t1).st u1
  replace u2:=(u2.st t1).st u1
  replace a3:=a3.st u1
  refine BV (σ:=(List Int)×(List U64)) (X:=Unit) (x0.fields.length) e3 rfl b3 (fun (c1:(List Int)×(List U64)) (v2:Unit)=>[(1,(.slice A3 x1.length c4)),(6,(.slice (some ⟨b1,0,none⟩) y0.length a1)),(7,(.slice r1 r0.length s1)),(34,(.slice y3 x0.fields.length z3))]) _ (fun c1 v2 w'=>∃ O':Lab,Bm w O0 w' O'∧Vb w' (Fr 0 w' O') (.slice A3 x1.length c4) x1∧Rw 4 w' O' 3 (.slice (some ⟨b1,0,none⟩) y0.length a1) c1.1∧Rw 5 w' O' 182 (.slice r1 r0.length s1) c1.2∧Vb w' (FrS [2] w' O') (.slice y3 x0.fields.length z3) x0.fields∧Ob 2 w' O' (.pointer (some ⟨p0,0,none⟩)) x0) _ () ⟨d5,hB,g0,u2,a3,h0,c0⟩ ⟨rfl,rfl,rfl,rfl,rfl,rfl,trivial⟩ (fun _ _=>⟨rfl,rfl⟩) (fun _ _=>⟨rfl,rfl,trivial⟩) (fun _ _ _ ⟨O',hB,g0,d0,e0,h0,c0⟩=>⟨O',hB,d0,e0,c0⟩) ⟨rfl,rfl,rfl⟩ ⟨rfl,rfl⟩ ?_
  rintro e5 m0 c1 v2 b7 f5 z1 ⟨g5,hB,g0,d0,e0,h0,c0⟩ a0 h1 f3
  have rk60:inI64 (e5:Int):=rngK z1 b3
  refine Al (Aj (Am rfl rfl ?_))
  obtain ⟨c7,d7,h5,g3,h3,i3,rfl,a4,b4,d4,e4⟩:=h0.elem' z1
  refine BW (hA:=g3) (hj:=rfl) (hlt:=h3) rfl rfl rfl ?_
  refine BM (hl:=rfl) (hc:=i3) rfl rfl ?_
  refine Cq 6 g5 rfl fun i5 e7 w2 d1 q0=>?_
  replace h0:=h0.stS d1 id (fun _ _=>id)
  refine Ar rfl rfl (Bf q0 rfl rfl rfl (BO rfl) (allOne rfl) fun x2 e1 q0=>?_)
  replace q0:Lc 6 x2 w2 i5 177 [(.int .i64 m0.word),(.int .i64 m0.bit),(.int .i64 m0.width),(.int .i64 m0.size)]:=q0
  replace h0:=h0.stS e1 (by decide) (by decide)
  refine o_z ?_
  refine Al (Aj (Am rfl rfl (Am rfl rfl (BM (hl:=rfl) (hc:=(q0.1).cellsAt) rfl rfl ?_))))
  refine Am rfl rfl ?_
  obtain ⟨f4,j5,a0⟩:=bs a0
  replace g0:=(g0.st d1).st e1
  refine Ce (O:=w2) (A:=All x2) (R:=fun w' F v=>Vb w' F v f4) (Jv (fun _ h=>h) (Vb.mono (F:=Fr 0 x2 w2) (Vb.ofAgg (cs:=[(.int .i64 m0.word),(.int .i64 m0.bit),(.int .i64 m0.width),(.int .i64 m0.size)]) (x:=m0) rfl ⟨rfl,a4,b4,d4,e4⟩) Fr.lt) (Vb.mono (F:=Fr 0 x2 w2) g0 Fr.lt) j5) rfl rfl fun k5 f7 i1 f0 j3=>?_
  obtain ⟨rfl,k3⟩:=j3.int
  replace h0:=h0.stS f0 id (fun _ _=>id)
  obtain ⟨l5,a2,a0⟩:=bs a0
  replace d0:=((d0.st d1).st e1).st f0
  obtain ⟨m5,n5,g4,f1,b2,h4,rfl,o5⟩:=d0.elem a2
  refine BW (hA:=f1) (hj:=rfl) (hlt:=b2) rfl rfl rfl ?_
  refine Dq rfl d0 (a:=f4) (vInt k3) f1 rfl rfl (AC a2) fun j1 j0 d0=>?_
  replace h0:=h0.stS j0 (by decide) (by decide)
  refine o_z ?_
  refine Al (Al (Cc (·=j1) [(0,true),(1,true),(2,true),(3,true),(4,true),(5,true),(6,true)] (by kernel_rfl) rfl (by kernel_rfl) rfl ?_))
  refine AH rfl rfl rfl (AH rfl rfl rfl ?_)
  obtain ⟨p5,l3,a0⟩:=bs a0
  obtain ⟨q5,s5,i4,c2,d2,e2,rfl,t5⟩:=d0.elem l3
  refine BJ (hA:=c2) (hj:=rfl) (hlt:=d2) rfl rfl rfl rfl ?_
  refine BZ (hc:=cat0 e2) rfl rfl rfl ?_
  refine AR rfl rfl rfl ?_
  replace q0:=(q0.st f0).st j0
  refine BZ (hc:=Blk.cell (i:=3) (q0.1) rfl) rfl rfl rfl ?_
  refine QA rfl rfl rfl rfl (fun k1=>?_) fun k1=>?_
  ·
   replace a0:=ip a0 k1
   refine h_z ?_
   refine Ah rfl (Al (Aj (Er rfl rfl ?_)))
   refine Ar rfl rfl (Ar rfl rfl (o_z ?_))
   refine AK ?_
   obtain rfl:=sm a0
   obtain rfl:=h1 _ rfl
   obtain rfl:=sm (Cy hm)
   replace hB:=(((hB.st d1).st e1).st f0).st j0
   obtain ⟨O',hS',hz,hl⟩:=hE.leave (fun q=>if q=2 then i0 else 0) rfl hB
   replace c0:=(((c0.st d1).st e1).st f0).st j0
   exact ret2 rfl (AB rfl) (AB rfl) ⟨O',hS',_,_,(Ob.leave c0 hz (hl 2 (by decide) (by decide)) w0.2),rfl,(Vb.mono (Vb.nil _ _) hz),(vErr (by decide))⟩
  replace a0:=im a0 k1
  refine h_z ?_
  refine Ae rfl (AJ (Bt [] i1 ?_))
  refine AT (fuel:=4) [] [(0,true),(1,true),(2,true),(3,true),(4,true),(5,true)] (by kernel_rfl) rfl ?_
  refine AH rfl rfl rfl (AR rfl rfl rfl (AS (hc:=fun w' ⟨O',hq⟩=>Blk.cell (i:=0) ((q0.st hq (by decide)).1) rfl) rfl rfl rfl ?_))
  obtain ⟨f2,m3,a0⟩:=bs a0
  obtain ⟨n3,o3⟩:=AO m3
  replace e0:=(((e0.st d1).st e1).st f0).st j0
  obtain ⟨u5,v5,j4,g2,h2,i2,j2,rfl⟩:=e0.elemF o3
  refine BJ (hA:=g2) (hj:=(Int.toNat_of_nonneg n3).symm) (hlt:=i2) rfl rfl rfl rfl ?_
  refine AS (hc:=fun w' ⟨O',hq⟩=>cat0 (AZ (hq.agree (i:=5) (by decide)) h2 j2)) rfl rfl rfl ?_
  refine ET (hl:=rfl) (hb:=fun w' ⟨O',hq⟩=>((q0.st hq (by decide)).1).cellsAt) rfl rfl rfl ?_
  refine AG ?_
  refine AV (i:=6) (by kernel_rfl) rfl ?_
  obtain ⟨m1,p3,a0⟩:=bs a0
  refine Ce (O:=i1) (A:=All j1) (R:=fun w' F v=>Vb w' F v m1) (Ga (fun _ h=>h) (Vb.mono (F:=Fr 0 j1 i1) (Vb.ofAgg (cs:=[(.int .i64 m0.word),(.int .i64 m0.bit),(.int .i64 m0.width),(.int .i64 m0.size)]) (x:=m0) rfl ⟨rfl,a4,b4,d4,e4⟩) Fr.lt) p3) rfl rfl fun w5 x5 y5 k0 q3=>?_
  obtain rfl:=q3.u64
  have hZ:=k0.lst [] (fun _ h=>h.elim)
  replace h0:=h0.stS k0 id (fun _ _=>id)
  refine Bg [] hZ (by kernel_rfl) ?_
  refine AT (fuel:=1) [] [(7,true),(8,true)] (by kernel_rfl) rfl ?_
  refine QY (a:=f2) (b:=m1) rfl rfl rfl rfl ?_
  obtain ⟨z5,r3,a0⟩:=bs a0
  obtain ⟨s3,k2⟩:=AO r3
  replace e0:=e0.st k0
  obtain ⟨a6,b6,k4,g1,l4,l2,m4,rfl⟩:=e0.elemF k2
  refine BJ (hA:=g1) (hj:=(Int.toNat_of_nonneg s3).symm) (hlt:=l2) rfl rfl rfl rfl ?_
  refine AG ?_
  refine AV (i:=9) (by kernel_rfl) rfl ?_
  refine Dq rfl e0 (a:=(f2 &&& ~~~m1)) vU64 g1 rfl rfl (AC k2) fun c6 n0 e0=>?_
  replace h0:=h0.stS n0 (by decide) (by decide)
  refine Di (by kernel_rfl) ?_
  refine BC (by kernel_rfl) ?_
  obtain rfl:=sm a0
  exact show Exists _ from ⟨_,(),rfl,⟨rfl,rfl,rfl,rfl,rfl,rfl,trivial⟩,_,(((((hB.st d1).st e1).st f0).st j0).st k0).st n0,(((g0.st f0).st j0).st k0).st n0,(d0.st k0).st n0,e0,h0,(((((c0.st d1).st e1).st f0).st j0).st k0).st n0⟩
 replace hB:=(((hB.st S8).st w1).st t1).st u1
 rintro d6 e6 ⟨n1,f6,rfl,m2,t3,hB,d0,e0,c0⟩
 replace hm:=Bo hm
 refine AP _ m2 ?_
 refine Al (Al (Aj (Am rfl rfl (AN rfl rfl ?_))))
 have o1:r0.length≤9223372036854775807:=Nat.le_trans e0.len.2.1 e0.len.2.2
 have g6:inI64 (r0.length:Int):=rngNat o1
 refine Am rfl rfl (o_z ?_)
 obtain ⟨p1,n2,hm⟩:=bs hm
 refine AM (aft p1 (fun (s0:Unit) (t0:Unit)=>[(6,(.slice (some ⟨b1,0,none⟩) y0.length a1))]) (fun s0 t0 w'=>∃ O':Lab,Bm w O0 w' O'∧Rw 4 w' O' 3 (.slice (some ⟨b1,0,none⟩) y0.length a1) n1.1∧Ob 2 w' O' (.pointer (some ⟨p0,0,none⟩)) x0)) ?_ ?_
 ·
  refine AQ (BV (σ:=Unit) (X:=Unit) (r0.length) n2 rfl o1 (fun (s0:Unit) (t0:Unit)=>[(6,(.slice (some ⟨b1,0,none⟩) y0.length a1)),(65,(.slice r1 r0.length s1))]) _ (fun s0 t0 w'=>∃ O':Lab,Bm w O0 w' O'∧Rw 4 w' O' 3 (.slice (some ⟨b1,0,none⟩) y0.length a1) n1.1∧Rw 5 w' O' 182 (.slice r1 r0.length s1) n1.2∧Ob 2 w' O' (.pointer (some ⟨p0,0,none⟩)) x0) _ () ⟨t3,hB,d0,e0,c0⟩ ⟨rfl,rfl,rfl,rfl,trivial⟩ (fun _ _=>⟨rfl,rfl⟩) (fun _ _=>⟨rfl,trivial⟩) (fun _ _ _ ⟨O',hB,d0,e0,c0⟩=>⟨O',hB,d0,c0⟩) ⟨rfl,rfl,rfl⟩ ⟨rfl,rfl⟩ ?_)
  rintro u3 h6 s0 t0 i6 n4 o2 ⟨j6,hB,d0,e0,c0⟩ b0 u0 y2
  have rk171:inI64 (u3:Int):=rngK o2 o1
  refine Al (Aj ?_)
  obtain ⟨k6,v3,b0⟩:=bs b0
  obtain ⟨m6,n6,o4,p2,q2,r2,rfl⟩:=e0.elem v3
  refine BW (hA:=p2) (hj:=rfl) (hlt:=q2) rfl rfl rfl ?_
  refine AE (hc:=cat0 r2) rfl rfl ?_
  refine Ar rfl rfl (o_z ?_)
  refine Al (Aj (Am rfl rfl (ES rfl rfl rfl (fun q1=>?_) fun q1=>?_)))
  ·
   replace b0:=ip b0 q1
   refine o_z ?_
   refine Ah rfl (Al (Aj (Er rfl rfl ?_)))
   refine Ar rfl rfl (Ar rfl rfl (o_z ?_))
   refine AK ?_
   obtain rfl:=sm b0
   obtain rfl:=u0 _ rfl
   obtain rfl:=sm (Cy hm)
   obtain ⟨O',hS',hz,hl⟩:=hE.leave (fun q=>if q=2 then i0 else 0) rfl hB
   exact ret2 rfl (AB rfl) (AB rfl) ⟨O',hS',_,_,(Ob.leave c0 hz (hl 2 (by decide) (by decide)) w0.2),rfl,(Vb.mono (Vb.nil _ _) hz),(vErr (by decide))⟩
  replace b0:=im b0 q1
  refine o_z ?_
  refine Ae rfl (AJ ?_)
  obtain rfl:=sm b0
  exact show Exists _ from ⟨_,(),rfl,⟨rfl,rfl,rfl,rfl,trivial⟩,_,hB,d0,e0,c0⟩
 rintro o6 p6 ⟨q6,r6,rfl,s2,s6,hB,d0,c0⟩
 replace hm:=Bo hm
 refine AP _ s2 ?_
 refine Al (Aj (Am rfl rfl (Ar rfl rfl (Ar rfl rfl (o_z ?_)))))
 refine AK ?_
 obtain ⟨t6,t2,d0⟩:=d0.freeze
 obtain rfl:=sm hm
 replace hB:=hB.st t2
 obtain ⟨O',hS',hz,hl⟩:=hE.leave (fun q=>if q=2 then i0 else 0) rfl hB
 replace c0:=c0.st t2
 exact ret2 rfl (AB rfl) (AB rfl) ⟨O',hS',_,_,(Ob.leave c0 hz (hl 2 (by decide) (by decide)) w0.2),rfl,(Vb.mono d0 hz),(vErr (show inI64 0 from by decide))⟩
noncomputable def BP (x0:Pkr) (x1:List U64):Option Int :=
  bnd (rng (ρ:=Int) (fun (k13:Nat) (a14:U64) (s11:U64)=>bnd (shrU ((s11 ^^^ a14) * (13787848793156543929:U64)) 29) fun n31=>some (.next (((s11 ^^^ a14) * (13787848793156543929:U64)) ^^^ n31))) x1 0 ((BitVec.ofInt 64 (x1.length:Int)) + (11400714819323198485:U64))) fun res9=>fin res9 fun (s37:U64)=>bnd (shrU s37 2) fun n39=>some n39.toInt
theorem It {w:World} {O:Lab} {p0 i0:Nat} {x0:Pkr} (b0:Ob i0 w O (.pointer (some ⟨p0,0,none⟩)) x0) {vx1:Value} {x1:List U64} (a0:Vb w (Fr 0 w O) vx1 x1) {r:Int} (hm:BP x0 x1=some r) :
    Fn Tryz.prog 108 [(.pointer (some ⟨p0,0,none⟩)),vx1] w fun v w'=>∃ O',St (eT i0) w O w' O'∧Ob i0 w' O' (.pointer (some ⟨p0,0,none⟩)) x0∧Vb w' (Fr 0 w' O') v r:=by
 obtain ⟨O0,hE,r0,s0⟩:=ent1 (w:=w) (O:=O) b0.2
 have b0':=Ob.leave b0 r0 s0 (j:=2) (by decide)
 have hB:Bm w O0 w O0:=Bm.refl
 replace a0:=a0.mono r0
 obtain ⟨A3,c4,rfl⟩:=a0.form
 refine AI Tryz.func108 rfl Tryz.ntmps108 rfl ?_
 unfold BP at hm
 refine Al (Aj (Ar rfl rfl (o_z ?_)))
 refine Al (Al (Aj (Am rfl rfl (Ep rfl rfl ?_))))
 refine o_z ?_
 refine Ae rfl (AJ (Al (Aj (Am rfl rfl (AN rfl rfl ?_)))))
 have l6:x1.length≤9223372036854775807:=Nat.le_trans a0.len.2.1 a0.len.2.2
 have r5:inI64 (x1.length:Int):=rngNat l6
 refine QU rfl rfl ?_
 refine QR (a:=(BitVec.ofInt 64 (x1.length:Int))) (b:=(11400714819323198485:U64)) rfl rfl rfl ?_
 refine Ar rfl rfl (o_z ?_)
 refine Al (Al (Aj (Am rfl rfl (AN rfl rfl ?_))))
 have l8:x1.length≤9223372036854775807:=Nat.le_trans a0.len.2.1 a0.len.2.2
 have r7:inI64 (x1.length:Int):=rngNat l8
 refine Am rfl rfl (o_z ?_)
 obtain ⟨h0,j0,hm⟩:=bs hm
 refine AM (aft h0 (fun (c0:U64) (f0:Unit)=>[(5,(.int .u64 c0.toNat))]) (fun c0 f0 w'=>∃ O':Lab,Bm w O0 w' O'∧Ob 2 w' O' (.pointer (some ⟨p0,0,none⟩)) x0)) ?_ ?_
 ·
  refine AQ (BV (σ:=U64) (X:=Unit) (x1.length) j0 rfl l8 (fun (c0:U64) (f0:Unit)=>[(5,(.int .u64 c0.toNat)),(14,(.slice A3 x1.length c4))]) _ (fun c0 f0 w'=>∃ O':Lab,Bm w O0 w' O'∧Vb w' (Fr 0 w' O') (.slice A3 x1.length c4) x1∧Ob 2 w' O' (.pointer (some ⟨p0,0,none⟩)) x0) _ () ⟨O0,hB,a0,b0'⟩ ⟨rfl,rfl,rfl,rfl,trivial⟩ (fun _ _=>⟨rfl,rfl⟩) (fun _ _=>⟨rfl,trivial⟩) (fun _ _ _ ⟨O',hB,a0,b0'⟩=>⟨O',hB,b0'⟩) ⟨rfl,rfl,rfl⟩ ⟨rfl,rfl⟩ ?_)
  rintro t0 g0 c0 f0 c1 u0 e0 ⟨d1,hB,a0,b0'⟩ d0 k0 l0
  have rk13:inI64 (t0:Int):=rngK e0 l8
  refine Al (Aj ?_)
  obtain ⟨e1,f1,v0,m0,n0,o0,rfl⟩:=a0.elem' e0
  refine BW (hA:=m0) (hj:=rfl) (hlt:=n0) rfl rfl rfl ?_
  refine AE (hc:=cat0 o0) rfl rfl ?_
  refine Ar rfl rfl (o_z ?_)
  refine Al (Aj (Am rfl rfl (Am rfl rfl (OU (a:=c0) (b:=g0) rfl rfl rfl ?_))))
  refine Ar rfl rfl (o_z ?_)
  refine Al (Aj (Am rfl rfl (QS (a:=(c0 ^^^ g0)) (b:=(13787848793156543929:U64)) rfl rfl rfl ?_)))
  refine Ar rfl rfl (o_z ?_)
  refine Aj (Am rfl rfl (Am rfl rfl ?_))
  obtain ⟨w0,y0,d0⟩:=bs d0
  refine OV (a:=((c0 ^^^ g0) * (13787848793156543929:U64))) (he:=y0) rfl rfl rfl ?_
  refine OU (a:=((c0 ^^^ g0) * (13787848793156543929:U64))) (b:=w0) rfl rfl rfl ?_
  refine Ar rfl rfl (o_z ?_)
  obtain rfl:=sm d0
  exact show Exists _ from ⟨_,(),rfl,⟨rfl,rfl,rfl,rfl,trivial⟩,_,hB,a0,b0'⟩
 rintro g1 h1 ⟨z0,i1,rfl,q0,j1,hB,b0'⟩
 replace hm:=Bo hm
 refine AP _ q0 ?_
 refine Al (Aj (Am rfl rfl ?_))
 obtain ⟨a1,b1,hm⟩:=bs hm
 refine OV (a:=z0) (he:=b1) rfl rfl rfl ?_
 refine QV (a:=a1) rfl rfl ?_
 refine Ar rfl rfl (o_z ?_)
 refine AK ?_
 obtain rfl:=sm hm
 obtain ⟨O',hS',hz,hl⟩:=hE.leave (fun q=>if q=2 then i0 else 0) rfl hB
 exact ret1v rfl (AB rfl) ⟨O',hS',(Ob.leave b0' hz (hl 2 (by decide) (by decide)) b0.2),(vInt (toIntR _))⟩
noncomputable def Bu (x0:List U64) (x1:List U64):Option Bool :=
  if (x0.length:Int)≠(x1.length:Int) then (some false) else (bnd (rng (ρ:=Bool) (fun (k18:Nat) (a19:U64) (s16:Unit)=>bnd (x1[k18]?) fun a36=>if (a19.toNat:Int)≠(a36.toNat:Int) then (some (.ret false)) else (some (.next ()))) x0 0 ()) fun res14=>fin res14 fun (s50:Unit)=>some true)
theorem FE {w:World} {A:Nat→Prop} (hA:∀ k,A k→k < w.heap.size) {vx0:Value} {x0:List U64} (b0:Vb w A vx0 x0) {vx1:Value} {x1:List U64} (c0:Vb w A vx1 x1) {r:Bool} (hm:Bu x0 x1=some r) :
    Fn Tryz.prog 109 [vx0,vx1] w fun v w'=>Ext w w'∧Vb w' (upA A w w') v r:=by
 obtain ⟨O,hB,u0⟩:=enter hA
 replace b0:=b0.mono u0
 obtain ⟨A3,c4,rfl⟩:=b0.form
 replace c0:=c0.mono u0
 obtain ⟨A5,c6,rfl⟩:=c0.form
 refine AI Tryz.func109 rfl Tryz.ntmps109 rfl ?_
 unfold Bu at hm
 refine Al (Aj (Ar rfl rfl (o_z ?_)))
 refine Al (Al (Aj (Am rfl rfl (AN rfl rfl ?_))))
 have l8:x0.length≤9223372036854775807:=Nat.le_trans b0.len.2.1 b0.len.2.2
 have r7:inI64 (x0.length:Int):=rngNat l8
 refine Am rfl rfl (AN rfl rfl ?_)
 have v0:x1.length≤9223372036854775807:=Nat.le_trans c0.len.2.1 c0.len.2.2
 have r9:inI64 (x1.length:Int):=rngNat v0
 refine ES rfl rfl rfl (fun i0=>?_) fun i0=>?_
 ·
  replace hm:=ip hm i0
  refine o_z ?_
  refine Ah rfl (Al (Aj (Ar rfl rfl (o_z ?_))))
  refine AK ?_
  obtain rfl:=sm hm
  exact ret1v rfl (AB rfl) ⟨hB.ext,vBool⟩
 replace hm:=im hm i0
 refine o_z ?_
 refine Ae rfl (AJ (Al (Al (Aj (Am rfl rfl (AN rfl rfl ?_))))))
 have j0:x0.length≤9223372036854775807:=Nat.le_trans b0.len.2.1 b0.len.2.2
 have d1:inI64 (x0.length:Int):=rngNat j0
 refine Am rfl rfl (o_z ?_)
 obtain ⟨e0,k0,hm⟩:=bs hm
 refine AM (aft e0 (fun (g0:Unit) (h0:Unit)=>[]) (fun g0 h0 w'=>∃ O':Lab,Bs w A w' O')) ?_ ?_
 ·
  refine AQ (BV (σ:=Unit) (X:=Unit) (x0.length) k0 rfl j0 (fun (g0:Unit) (h0:Unit)=>[(0,(.slice A3 x0.length c4)),(1,(.slice A5 x1.length c6))]) _ (fun g0 h0 w'=>∃ O':Lab,Bs w A w' O'∧Vb w' (Fr 0 w' O') (.slice A3 x0.length c4) x0∧Vb w' (Fr 0 w' O') (.slice A5 x1.length c6) x1) _ () ⟨O,hB,b0,c0⟩ ⟨rfl,rfl,rfl,rfl,trivial⟩ (fun _ _=>⟨rfl,rfl⟩) (fun _ _=>trivial) (fun _ _ _ ⟨O',hB,b0,c0⟩=>⟨O',hB⟩) ⟨rfl,rfl,rfl⟩ ⟨rfl,rfl⟩ ?_)
  rintro w0 e1 g0 h0 y0 z0 f0 ⟨f1,hB,b0,c0⟩ a0 d0 l0
  have rk18:inI64 (w0:Int):=rngK f0 j0
  refine Al (Aj (Am rfl rfl (Ar rfl rfl (o_z ?_))))
  refine Al (Cc (·=y0) [(0,true),(1,true),(2,true),(3,true),(4,true),(5,true),(6,true),(7,true),(8,true)] (by kernel_rfl) rfl (by kernel_rfl) rfl ?_)
  refine AH rfl rfl rfl (AH rfl rfl rfl ?_)
  obtain ⟨g1,h1,a1,m0,n0,o0,rfl⟩:=b0.elem' f0
  refine BJ (hA:=m0) (hj:=rfl) (hlt:=n0) rfl rfl rfl rfl ?_
  refine BZ (hc:=cat0 o0) rfl rfl rfl ?_
  refine AH rfl rfl rfl (AH rfl rfl rfl ?_)
  obtain ⟨i1,b1,a0⟩:=bs a0
  obtain ⟨j1,k1,c1,p0,q0,r0,rfl⟩:=c0.elem' b1
  refine BJ (hA:=p0) (hj:=rfl) (hlt:=q0) rfl rfl rfl rfl ?_
  refine BZ (hc:=cat0 r0) rfl rfl rfl ?_
  refine Mz rfl rfl rfl rfl (fun s0=>?_) fun s0=>?_
  ·
   replace a0:=ip a0 s0
   refine h_z ?_
   refine Ah rfl (Al (Aj (Ar rfl rfl (o_z ?_))))
   refine AK ?_
   obtain rfl:=sm a0
   obtain rfl:=d0 _ rfl
   obtain rfl:=sm (Cy hm)
   exact ret1v rfl (AB rfl) ⟨hB.ext,vBool⟩
  replace a0:=im a0 s0
  refine h_z ?_
  refine Ae rfl (AJ ?_)
  obtain rfl:=sm a0
  exact show Exists _ from ⟨_,(),rfl,⟨rfl,rfl,rfl,rfl,trivial⟩,_,hB,b0,c0⟩
 rintro l1 m1 ⟨n1,o1,rfl,t0,p1,hB⟩
 replace hm:=Bo hm
 refine AP _ t0 ?_
 refine Al (Aj (Ar rfl rfl (o_z ?_)))
 refine AK ?_
 obtain rfl:=sm hm
 exact ret1v rfl (AB rfl) ⟨hB.ext,vBool⟩
end
section
open Go Go.RowKit
class TMap (P:Program) (t:TypeId) (k e:outParam TypeId):Prop where eq:P.underlying t=some (.map k e)
class MKey (K:Type) where
  dec:DecidableEq K
  enc:K→Value
  desc:TypeDesc
  key:∀ a,MapKept.IsKey desc (enc a)
  inj:∀ a b,enc a=enc b→a=b
class TKey (P:Program) (t:TypeId) (K:Type) [MKey K]:Prop where eq:P.underlying t=some (MKey.desc K)
instance:MKey Int where
  dec:=inferInstance
  enc a:=.int .i64 a
  desc:=.int .i64
  key _:=rfl
  inj _ _ h:=by injection h
section
variable {K V : Type} [MKey K]
instance keyDec:DecidableEq K:=MKey.dec
def mhas:List (K×V)→K→Bool
  | [],_=>false
  | p :: r,k=>if p.1=k then true else mhas r k
def mget (z:V):List (K×V)→K→V
  | [],_=>z
  | p :: r,k=>if p.1=k then p.2 else mget z r k
def mput:List (K×V)→K→V→List (K×V)
  | [],k,v=>[(k,v)]
  | p :: r,k,v=>if p.1=k then (k,v) :: r else p :: mput r k v
def midx:List (K×V)→K→Option Nat
  | [],_=>none
  | p :: r,k=>if p.1=k then some 0 else (midx r k).map (· + 1)
theorem Fl (a:K):∀ (es:List MapEntry) (x:List (K×V)) (i:Nat),es.map (·.key)=x.map (fun p=>MKey.enc p.1) →
    (midx x a=none∧Instr.findNow (MKey.desc K) (MKey.enc a) es i=some none∧mhas x a=false∧(∀ z,mget z x a=z)∧∀ v,mput x a v=x ++ [(a,v)]) ∨
    ∃ j e p,midx x a=some j∧es[j]?=some e∧x[j]?=some p∧Instr.findNow (MKey.desc K) (MKey.enc a) es i=some (some (i + j,e.val))∧e.key=MKey.enc a∧mhas x a=true∧(∀ z,mget z x a=p.2)∧∀ v,mput x a v=x.set j (a,v)
  | [],[],_,_=>.inl ⟨rfl,rfl,rfl,fun _=>rfl,fun _=>rfl⟩
  | [],_ :: _,_,h=>by simp at h
  | _ :: _,[],_,h=>by simp at h
  | e :: es,p :: x,i,h=>by
    rw [List.map_cons,List.map_cons] at h
    injection h with h1 h2
    obtain ⟨r,hr,hiff⟩:=MapKept.sameNow_of_keys (MKey.key a) (MKey.key p.1)
    by_cases hp:p.1=a
    · have:r=true:=hiff.2 (by rw [hp])
      subst this
      refine .inr ⟨0,e,p,by simp [midx,hp],rfl,rfl,?_,by rw [h1,hp],by simp [mhas,hp],fun z=>by simp [mget,hp],fun v=>by simp [mput,hp]⟩
      simp [Instr.findNow,h1,hr]
    · have:r=false:=by
        cases r with
        | false=>rfl
        | true=>exact absurd (MKey.inj _ _ (hiff.1 rfl)).symm hp
      subst this
      rcases Fl a es x (i + 1) h2 with ⟨g0,g1,g2,g3,g4⟩|⟨j,e',p',g0,g1,g2,g3,g4,g5,g6,g7⟩
      · exact .inl ⟨by simp [midx,hp,g0],by simp [Instr.findNow,h1,hr,g1],by simp [mhas,hp,g2],fun z=>by simp [mget,hp,g3],fun v=>by simp [mput,hp,g4]⟩
      · refine .inr ⟨j + 1,e',p',by simp [midx,hp,g0],by simpa using g1,by simpa using g2,?_,g4,by simp [mhas,hp,g5],fun z=>by simp [mget,hp,g6],fun v=>by simp [mput,hp,g7]⟩
        simp [Instr.findNow,h1,hr,g3];omega
end
def LkV (d:TypeDesc) (z:Value) (w:World) (r:Nat) (key v:Value) (b:Bool):Prop:=∃ es ck a,w.heap[r]?=some (.map es ck)∧Instr.findNow d key es.toList 0=some a∧v=(match a with|some p=>p.2|none=>z)∧b=a.isSome
theorem LkV.keep {d:TypeDesc} {z:Value} {w w':World} {r:Nat} {key v:Value} {b:Bool} (h:LkV d z w r key v b) (e:w'.heap[r]?=w.heap[r]?):LkV d z w' r key v b:=by
  obtain ⟨es,ck,a,h1,h2⟩:=h
  exact ⟨es,ck,a,e.trans h1,h2⟩
section
variable {P : Program} {l : Env} {w : World} {dst : Option Tmp} {ty : TypeId} {pos : String} {aft : Array Edge}
theorem OW {K:Type} [MKey K] {t k e:TypeId} [ht:TMap P t k e] [hk:TKey P k K] {z:Value} {size bytes:Nat} [TInfo P e z size bytes] {x y:Operand} {r:Nat} {a:K} {v:Value} {b:Bool} (hx:opv l x=some (.map (some r))) (hy:opv l y=some (MKey.enc a)) (hv:LkV (MKey.desc K) z w r (MKey.enc a) v b) :
    Ev P ⟨dst,.lookup t x y false,ty,pos,aft,none⟩ l w v:=fun _ _ d ha=>by
  obtain ⟨es,ck,q,h1,h2,h3,h4⟩:=hv
  have hb:(dr w d).heap[r]?=some (.map es ck):=h1
  subst h3
  cases q with
  | none=>simp [execOp,ha.eval hx,ha.eval hy,Instr.lookup,run_underlying ht.eq,MapKept.run_getObj_map hb,MapKept.run_checkKey hk.eq (MKey.key a),MapKept.run_findKey hk.eq h2,Result.andThen,Gq (P:=P) (t:=e)]
  | some p=>simp [execOp,ha.eval hx,ha.eval hy,Instr.lookup,run_underlying ht.eq,MapKept.run_getObj_map hb,MapKept.run_checkKey hk.eq (MKey.key a),MapKept.run_findKey hk.eq h2,Result.andThen]
end
def putEs (es:List MapEntry) (ck:Nat) (key v:Value):Option Nat→List MapEntry
  | none=>es ++ [{ key:=key,val:=v,born:=ck }]
  | some j=>es.modify j fun e=>{ e with key:=key,val:=v }
section
variable {P : Program} {n : Nat} {ops : Array Oper} {Q : Post} {rest : List Oper} {l : Env} {w : World} {d : Tmp} {ty : TypeId} {pos : String} {aft : Array Edge}
theorem Oj {K V:Type} [MKey K] {t k e:TypeId} [ht:TMap P t k e] [hk:TKey P k K] {x y u:Operand} {r ck:Nat} {a:K} {v:Value} {es:List MapEntry} {xs:List (K×V)} (hb:w.heap[r]?=some (.map es.toArray ck)) (hks:es.map (·.key)=xs.map (fun p=>MKey.enc p.1)) (hx:opv l x=some (.map (some r))) (hy:opv l y=some (MKey.enc a)) (hu:opv l u=some v)
    (h:∀ w' ck',w'.os=w.os→w'.tape=w.tape→w'.output=w.output→w'.heap.size=w.heap.size→w'.heap[r]?=some (.map (putEs es ck (MKey.enc a) v (midx xs a)).toArray ck')→(∀ q,q≠r→w'.heap[q]?=w.heap[q]?)→owp P n ops Q rest l w'):owp P n ops Q (⟨none,.mapUpdate t x y u,ty,pos,aft,none⟩ :: rest) l w:=fun ac d ha=>by
  refine wpList_plain rfl fun K' hK=>?_
  have hbd:(dr w d).heap[r]?=some (.map es.toArray ck):=hb
  unfold Oper.wp
  rcases Fl a es xs 0 hks with ⟨g0,g1,_⟩|⟨j,e',p,g0,g1,g2,g3,g4,_⟩
  · have hr:(execOp ac.eval ⟨none,.mapUpdate t x y u,ty,pos,aft,none⟩).run P (dr w d)=.ok .skip { (dr w d) with heap:=(dr w d).heap.setIfInBounds r (.map (es.toArray.push { key:=MKey.enc a,val:=v,born:=ck }) (ck + 1)) }:=by
      simp [execOp,ha.eval hx,ha.eval hy,ha.eval hu,Instr.mapUpdate,run_underlying ht.eq,MapKept.run_getObj_map hbd,MapKept.run_checkKey hk.eq (MKey.key a),MapKept.run_findKey hk.eq g1,MapKept.run_setObj_map _ hbd,Result.andThen]
    rw [hr]
    refine hK _ _ (h { w with heap:=w.heap.setIfInBounds r (.map (es.toArray.push { key:=MKey.enc a,val:=v,born:=ck }) (ck + 1)) } (ck + 1) rfl rfl rfl (by simp) ?_ (fun q hq=>(MapKept.heap_set hb).2 q hq) _ d ha)
    rw [g0]
    simpa [putEs] using (MapKept.heap_set hb).1
  · have hj:es.toArray[j]?=some e':=by simpa using g1
    have hj':es[j]?=some e':=g1
    rw [Nat.zero_add] at g3
    have hr:(execOp ac.eval ⟨none,.mapUpdate t x y u,ty,pos,aft,none⟩).run P (dr w d)=.ok .skip { (dr w d) with heap:=(dr w d).heap.setIfInBounds r (.map (es.toArray.modify j fun e=>{ e with key:=MKey.enc a,val:=v }) ck) }:=by
      simp [execOp,ha.eval hx,ha.eval hy,ha.eval hu,Instr.mapUpdate,run_underlying ht.eq,MapKept.run_getObj_map hbd,MapKept.run_checkKey hk.eq (MKey.key a),MapKept.run_findKey hk.eq g3,hj',g4,MapKept.run_keyThatStays (MKey.key a),MapKept.run_setObj_map _ hbd,Result.andThen]
    rw [hr]
    refine hK _ _ (h { w with heap:=w.heap.setIfInBounds r (.map (es.toArray.modify j fun e=>{ e with key:=MKey.enc a,val:=v }) ck) } ck rfl rfl rfl (by simp) ?_ (fun q hq=>(MapKept.heap_set hb).2 q hq) _ d ha)
    rw [g0]
    have:=(MapKept.heap_set (o':=.map (es.toArray.modify j fun e=>{ e with key:=MKey.enc a,val:=v }) ck) hb).1
    simpa [putEs] using this
theorem Nr {t:TypeId} (hd:Nat.blt d n=true) (h:∀ w',Ext w w'→w'.heap.size=w.heap.size + 1→w'.heap[w.heap.size]?=some (.map #[] 0)→owp P n ops Q rest ((d,.map (some w.heap.size)) :: l) w'):owp P n ops Q (⟨some d,.makeMap t none,ty,pos,aft,none⟩ :: rest) l w :=
  Hb (w':=w.alloc (.map #[] 0)) (fun a e ha=>.inl ⟨.map (some w.heap.size),e,by simp [execOp,Instr.makeMap];exact ⟨rfl,rfl⟩,ha.put hd _⟩)
    (h _ ((Below.refl _ _).alloc (Nat.le_refl _) _) (by simp) (by show (w.heap.push _)[_]?=_;simp))
end
theorem MM {K V:Type} [MKey K] {es:List MapEntry} {xs:List (K×V)} (ck:Nat) (a:K) (v:Value) (y:V) (h:es.map (·.key)=xs.map (fun p=>MKey.enc p.1)):(putEs es ck (MKey.enc a) v (midx xs a)).map (·.key)=(mput xs a y).map (fun p=>MKey.enc p.1):=by
  rcases Fl a es xs 0 h with ⟨g0,_,_,_,g4⟩|⟨j,e',p,g0,g1,g2,g3,g4,_,_,g7⟩
  · rw [g0,g4];simp [putEs,h]
  · rw [g0,g7]
    simp only [putEs,List.map_set,← h]
    apply List.ext_getElem?
    intro q
    rw [List.getElem?_map,List.getElem?_modify,List.getElem?_set]
    by_cases hq:j=q
    · subst hq
      have hlt:j < es.length:=AC g1
      simp [g1,hlt]
    · simp [hq]
class OwM (α:Type) [Ow α]:Prop where
  mptr:∀ {w:World} {F M:Nat→Prop} {v:Value} {x:α},Ow.R w F M v x→∃ r,v=.map (some r)
theorem Ob.mptr {α:Type} [Ow α] [OwM α] {i:Nat} {w:World} {O:Lab} {v:Value} {x:α} (h:Ob i w O v x):∃ r,v=.map (some r):=OwM.mptr h.1
structure MapR (e:TypeId) (K V:Type) where
  l:List (K×List V)
def RA {K V:Type} [Rp V] (w:World) (F M:Nat→Prop) (L:Lab) (e:TypeId) (es:List MapEntry) (xs:List (K×List V)) (skip:Option Nat):Prop:=∀ (j:Nat) (en:MapEntry) (p:K×List V),es[j]?=some en→xs[j]?=some p→skip≠some j→RwM w F (fun k=>M k∧L k=j + 1) e en.val p.2
instance {e:TypeId} {K V:Type} [MKey K] [Rp V]:Ow (MapR e K V) where
  R w F M v x:=∃ (r:Nat) (L:Lab) (es:List MapEntry) (ck:Nat),v=.map (some r)∧w.heap[r]?=some (.map es.toArray ck)∧M r∧L r=0∧es.map (·.key)=x.l.map (fun p=>MKey.enc p.1)∧RA w F M L e es x.l none
  agree:=by rintro w w' F M v x ⟨r,L,es,ck,rfl,hb,hM,hL,hk,hv⟩ a1 a2;exact ⟨r,L,es,ck,rfl,(a2 r hM).trans hb,hM,hL,hk,fun j en p h1 h2 h3=>(hv j en p h1 h2 h3).agree a1 fun k hk=>a2 k hk.1⟩
  mono:=by rintro w F M F' M' v x ⟨r,L,es,ck,rfl,hb,hM,hL,hk,hv⟩ a1 a2 a3;exact ⟨r,L,es,ck,rfl,hb,a2 r hM,hL,hk,fun j en p h1 h2 h3=>(hv j en p h1 h2 h3).mono a1 (fun k hk=>⟨a2 k hk.1,hk.2⟩) fun k hf hm=>a3 k hf hm.1⟩
instance {e:TypeId} {K V:Type} [MKey K] [Rp V]:OwM (MapR e K V):=⟨by rintro w F M v x ⟨r,L,es,ck,rfl,_⟩;exact ⟨r,rfl⟩⟩
def MapH {K V:Type} [MKey K] [Rp V] (i:Nat) (w:World) (O:Lab) (r:Nat) (e:TypeId) (x:MapR e K V) (a:K):Prop :=
  (∃ (L:Lab) (es:List MapEntry) (ck:Nat),w.heap[r]?=some (.map es.toArray ck)∧Fr i w O r∧es.map (·.key)=x.l.map (fun p=>MKey.enc p.1)∧RA w (Fr 0 w O) (Fr i w O) L e es x.l (midx x.l a))∧i≠0
section
variable {e : TypeId} {K V : Type} [MKey K] [Rp V] {i j : Nat} {T : Nat → Prop} {w w' : World} {O O' : Lab} {r : Nat} {x : MapR e K V} {a : K}
theorem MapH.st (h:MapH i w O r e x a) (hS:St T w O w' O') (h0:¬ T 0:=by decide) (hi:¬ T i:=by decide):MapH i w' O' r e x a:=by
  obtain ⟨⟨L,es,ck,hb,hM,hk,hr⟩,h1⟩:=h
  refine ⟨⟨L,es,ck,(hS.agree hi r hM).trans hb,hS.fr hi r hM,hk,fun q en p g1 g2 g3=>?_⟩,h1⟩
  exact ((hr q en p g1 g2 g3).agree (hS.agree h0) fun k hk=>hS.agree hi k hk.1).mono (hS.fr h0) (fun k hk=>⟨hS.fr hi k hk.1,hk.2⟩) fun k hf hm=>frNe0 h1 k hf hm.1
theorem MapR.at (h:Ob i w O (.map (some r)) x):Fr i w O r:=by
  obtain ⟨⟨r',L,es,ck,hv,hb,hM,_⟩,_⟩:=h
  injection hv with hv
  injection hv with hv
  subst hv
  exact hM
theorem MapR.get (h:Ob i w O (.map (some r)) x) (a:K):∃ A c,LkV (MKey.desc K) (.slice none 0 0) w r (MKey.enc a) (.slice A (mget ([]:List V) x.l a).length c) (mhas x.l a)∧Vb w (FrS [i] w O) (.slice A (mget ([]:List V) x.l a).length c) (mget ([]:List V) x.l a):=by
  obtain ⟨⟨r',L,es,ck,hv,hb,hM,hL,hk,hra⟩,hi⟩:=h
  injection hv with hv
  injection hv with hv
  subst hv
  rcases Fl a es x.l 0 hk with ⟨g0,g1,g2,g3,g4⟩|⟨q,e',p,g0,g1,g2,g3,g4,g5,g6,g7⟩
  · rw [g3,g2]
    exact ⟨none,0,⟨_,ck,none,hb,by simpa using g1,rfl,rfl⟩,Vb.nil _ _⟩
  · rw [g6,g5]
    have h1:=hra q e' p g1 g2 (by simp)
    have h2:Rw i w O e e'.val p.2:=h1.rw (fun _ h=>h) (fun _ h=>h.1) hi
    obtain ⟨A,c,hA⟩:=h2.form
    refine ⟨A,c,⟨_,ck,some (0 + q,e'.val),hb,by simpa using g3,hA.symm,rfl⟩,?_⟩
    rw [← hA]
    exact h2.lend [i] (by simp)
theorem MapR.take (h:Ob i w O (.map (some r)) x) {v:Value} {b:Bool} (hl:LkV (MKey.desc K) (.slice none 0 0) w r (MKey.enc a) v b) (j:Nat) (hj:j≠0) (hij:j≠i):∃ O',St (eT i) w O w O'∧MapH i w O' r e x a∧Rw j w O' e v (mget ([]:List V) x.l a):=by
  obtain ⟨⟨r',L,es,ck,hv,hb,hM,hL,hk,hra⟩,hi⟩:=h
  injection hv with hv
  injection hv with hv
  subst hv
  obtain ⟨es',ck',q,h1,h2,h3,h4⟩:=hl
  rw [hb] at h1
  injection h1 with h1
  injection h1 with h1 h1'
  subst h1
  rw [List.toList_toArray] at h2
  rcases Fl a es x.l 0 hk with ⟨g0,g1,g2,g3,g4⟩|⟨n,e',p,g0,g1,g2,g3,g4,g5,g6,g7⟩
  · rw [g1] at h2
    have:=sm h2
    subst this
    rw [g3,h3]
    exact ⟨O,St.refl _ _ _,⟨⟨L,es,ck,hb,hM,hk,fun q en p a1 a2 _=>hra q en p a1 a2 (by simp)⟩,hi⟩,Rw.nil j hj⟩
  · rw [g3] at h2
    have:=sm h2
    subst this
    rw [g6,h3]
    have hrow:=hra n e' p g1 g2 (by simp)
    refine ⟨fun k=>if O k=i∧L k=n + 1 then j else O k,⟨rfl,rfl,rfl,Nat.le_refl _,fun k _ hk=>⟨rfl,if_neg fun h=>hk h.1⟩⟩,⟨⟨L,es,ck,hb,⟨hM.1,?_⟩,hk,fun q en p' a1 a2 a3=>?_⟩,hi⟩,hrow.rw (fun k hk=>⟨hk.1,?_⟩) (fun k hk=>⟨hk.1.1,if_pos ⟨hk.1.2,hk.2⟩⟩) hj⟩
    · show (if _ then _ else _)=_
      rw [if_neg (by rw [hL];omega)];exact hM.2
    · rw [g0] at a3
      have hne:n≠q:=fun e=>a3 (by rw [e])
      refine (hra q en p' a1 a2 (by simp)).mono (fun k hk=>⟨hk.1,?_⟩) (fun k hk=>⟨⟨hk.1.1,?_⟩,hk.2⟩) (fun k hf hm=>frNe0 hi k hf hm.1)
      · show (if _ then _ else _)=_
        rw [if_neg (by rw [hk.2];exact fun h=>hi h.1.symm)];exact hk.2
      · show (if _ then _ else _)=_
        rw [if_neg (by rw [hk.2];omega)];exact hk.1.2
    · show (if _ then _ else _)=_
      rw [if_neg (by rw [hk.2];exact fun h=>hi h.1.symm)];exact hk.2
end
section
variable {P : Program} {n : Nat} {ops : Array Oper} {Q : Post} {rest : List Oper} {l : Env} {w : World} {d : Tmp} {ty : TypeId} {pos : String} {aft : Array Edge} {K V : Type} [MKey K] [Rp V] {i j : Nat} {O : Lab} {r : Nat}
theorem Pn {e':TypeId} {x:MapR e' K V} {t k e:TypeId} [TMap P t k e] [TKey P k K] {m y u:Operand} {a:K} {v:Value} {ys:List V} (hM:MapH i w O r e' x a) (hv:Rw j w O e' v ys) (hij:j≠i) (hx:opv l m=some (.map (some r))) (hy:opv l y=some (MKey.enc a)) (hu:opv l u=some v)
    (h:∀ w' O',St (fun q=>q=i∨q=j) w O w' O'→Ob i w' O' (.map (some r)) (⟨mput x.l a ys⟩:MapR e' K V)→owp P n ops Q rest l w'):owp P n ops Q (⟨none,.mapUpdate t m y u,ty,pos,aft,none⟩ :: rest) l w:=by
  obtain ⟨⟨L,es,ck,hb,hM',hk,hra⟩,hi⟩:=hM
  refine Oj hb hk hx hy hu fun w' ck' e1 e2 e3 e4 e5 e6=>?_
  have hlen:es.length=x.l.length:=by have:=congrArg List.length hk;simpa using this
  have hj0:j≠0:=hv.2.2
  have hrj:O r≠j:=by rw [hM'.2];exact Ne.symm hij
  let n0:Nat:=match midx x.l a with|some q=>q|none=>es.length
  have hS:St (fun q=>q=i∨q=j) w O w' (fun k=>if O k=j then i else O k):=⟨e1,e2,e3,by omega,fun q hq hT=>⟨e6 q fun e=>hT (by rw [e];exact .inl hM'.2),if_neg fun e=>hT (.inr e)⟩⟩
  have hF:∀ k,Fr 0 w O k→Fr 0 w' (fun k=>if O k=j then i else O k) k:=fun k hk=>⟨by rw [e4];exact hk.1,by show (if _ then _ else _)=_;rw [if_neg (by rw [hk.2];exact Ne.symm hj0)];exact hk.2⟩
  have hA0:Agree (Fr 0 w O) w w':=fun k hk=>e6 k fun e=>by rw [e] at hk;exact hi (hM'.2.symm.trans hk.2)
  have hdis:∀ m:Nat,∀ k,Fr 0 w' (fun k=>if O k=j then i else O k) k→¬ (Fr i w' (fun k=>if O k=j then i else O k) k∧(if O k=j then n0 + 1 else if k=r then 0 else L k)=m):=fun m k hf hm=>frNe0 hi k hf hm.1
  have hnew:RwM w' (Fr 0 w' (fun k=>if O k=j then i else O k)) (fun k=>Fr i w' (fun k=>if O k=j then i else O k) k∧(if O k=j then n0 + 1 else if k=r then 0 else L k)=n0 + 1) e' v ys:=by
    have h1:RwM w (Fr 0 w O) (Fr j w O) e' v ys:=hv.m (fun _ h=>h) (fun _ h=>h) (frNe0 hj0)
    have h2:=h1.agree hA0 (fun k hk=>e6 k fun e=>by rw [e] at hk;exact hrj hk.2)
    exact h2.mono hF (fun k hk=>⟨⟨by rw [e4];exact hk.1,if_pos hk.2⟩,if_pos hk.2⟩) (hdis _)
  have hkeep:∀ q en (p:K×List V),es[q]?=some en→x.l[q]?=some p→midx x.l a≠some q→RwM w' (Fr 0 w' (fun k=>if O k=j then i else O k)) (fun k=>Fr i w' (fun k=>if O k=j then i else O k) k∧(if O k=j then n0 + 1 else if k=r then 0 else L k)=q + 1) e' en.val p.2:=fun q en p g1 g2 g3=>by
    have h1:=hra q en p g1 g2 g3
    have hnr:∀ g,en.val.ownBlock=some g→g≠r:=fun g hg e=>by
      subst e
      have h2:=h1.1
      obtain ⟨cells,o1,o2,o3⟩:=h2
      rcases o1.2 with ⟨hv0,_⟩|⟨g',cap,cur,hv0,_,hh,_⟩
      · rw [hv0] at hg;simp [Value.ownBlock] at hg
      · rw [hv0] at hg
        have:g'=g:=by simpa [Value.ownBlock] using hg
        subst this
        rw [hb] at hh;cases hh
    have h2:RwM w (Fr 0 w O) (fun k=>(Fr i w O k∧L k=q + 1)∧k≠r) e' en.val p.2:=⟨h1.1,fun g hg=>⟨h1.2 g hg,hnr g hg⟩⟩
    have h3:=h2.agree hA0 (fun k hk=>e6 k hk.2)
    refine h3.mono hF (fun k hk=>?_) (hdis _)
    have hkj:O k≠j:=by rw [hk.1.1.2];exact Ne.symm hij
    exact ⟨⟨by rw [e4];exact hk.1.1.1,by show (if _ then _ else _)=_;rw [if_neg hkj];exact hk.1.1.2⟩,by rw [if_neg hkj,if_neg hk.2];exact hk.1.2⟩
  refine h w' _ hS ⟨⟨r,fun k=>if O k=j then n0 + 1 else if k=r then 0 else L k,_,ck',rfl,e5,⟨by rw [e4];exact hM'.1,by show (if _ then _ else _)=_;rw [if_neg hrj];exact hM'.2⟩,by show (if _ then _ else _)=_;rw [if_neg hrj,if_pos rfl],MM ck a v ys hk,?_⟩,hi⟩
  intro q en p h1 h2 _
  rcases Fl a es x.l 0 hk with ⟨g0,_,_,_,g4⟩|⟨m,e'',p',g0,g1,g2,g3,g4,_,_,g7⟩
  · have hn0:n0=es.length:=by show (match midx x.l a with|some q=>q|none=>es.length)=_;rw [g0]
    rw [g0] at h1
    rw [g4] at h2
    simp only [putEs] at h1
    by_cases hq:q < es.length
    · rw [List.getElem?_append_left hq] at h1
      rw [List.getElem?_append_left (by omega)] at h2
      exact hkeep q en p h1 h2 (by rw [g0];simp)
    · rw [List.getElem?_append_right (by omega)] at h1
      rw [List.getElem?_append_right (by omega)] at h2
      cases hz:q - es.length with
      | zero =>
        rw [hz] at h1
        rw [show q - x.l.length=0 from by omega] at h2
        simp at h1 h2
        subst h1;subst h2
        have hqe:q=n0:=by rw [hn0];omega
        rw [hqe]
        exact hnew
      | succ m=>rw [hz] at h1;simp at h1
  · have hn0:n0=m:=by show (match midx x.l a with|some q=>q|none=>es.length)=_;rw [g0]
    rw [g0] at h1
    rw [g7] at h2
    simp only [putEs] at h1
    rw [List.getElem?_modify] at h1
    rw [List.getElem?_set] at h2
    by_cases hq:m=q
    · subst hq
      have hlt:=AC g2
      rw [g1] at h1
      simp [hlt] at h1 h2
      subst h1;subst h2
      rw [← hn0]
      exact hnew
    · simp [hq] at h1 h2
      exact hkeep q en p h1 h2 (by rw [g0];simpa using hq)
theorem Ol {t:TypeId} (e:TypeId) (i:Nat) (hi:i≠0) (O:Lab) (hd:Nat.blt d n=true) (h:∀ g w' O',St nT w O w' O'→Ob i w' O' (.map (some g)) (⟨[]⟩:MapR e K V)→owp P n ops Q rest ((d,.map (some g)) :: l) w'):owp P n ops Q (⟨some d,.makeMap t none,ty,pos,aft,none⟩ :: rest) l w :=
  Nr hd fun w' hE hs hb=>h _ w' _ (hE.st O fun _=>i) ⟨⟨w.heap.size,fun _=>0,[],0,rfl,hb,⟨by omega,EU (Nat.le_refl _)⟩,rfl,rfl,fun j e p h1 _=>by simp at h1⟩,hi⟩
end
section
variable {P : Program} {n : Nat} {ops : Array Oper} {Q : Post} {rest : List Oper} {l : Env} {w : World} {d : Tmp} {ty : TypeId} {pos : String} {aft : Array Edge} {S : World → Prop} {rr : List (Nat × Bool)} {i' : Nat}
theorem Rk {K:Type} [MKey K] {t k e:TypeId} [TMap P t k e] [TKey P k K] {z:Value} {size bytes:Nat} [TInfo P e z size bytes] {x y:Operand} {r:Nat} {v:Value} {b:Bool} (a:K) (hv:LkV (MKey.desc K) z w r (MKey.enc a) v b) (hx:opv l x=some (.map (some r))) (hy:opv l y=some (MKey.enc a)) (hd:Nat.blt d n=true) (h:owp P n ops Q rest ((d,v) :: l) w):owp P n ops Q (⟨some d,.lookup t x y false,ty,pos,aft,none⟩ :: rest) l w:=Ba (OW hx hy hv) hd h
theorem Rl {K:Type} [MKey K] {t k e:TypeId} [TMap P t k e] [TKey P k K] {z:Value} {size bytes:Nat} [TInfo P e z size bytes] {x y:Operand} {r:Nat} {v:Value} {b:Bool} (a:K) (hv:∀ w',S w'→LkV (MKey.desc K) z w' r (MKey.enc a) v b) (hi:ops[i']?=some ⟨some d,.lookup t x y false,ty,pos,aft,none⟩) (hx:opv l x=some (.map (some r))) (hy:opv l y=some (MKey.enc a)) (hd:Nat.blt d n=true) (h:hwp P n ops Q S rr ((d,v) :: l) w):hwp P n ops Q S ((i',true) :: rr) l w:=Az hi (AY (fun w' hS=>OW hx hy (hv w' hS)) hd h)
end
end
section
open Go Go.RowKit
attribute [local irreducible] ewp owp hwp hwq hws Ev Evg Fn retPost loud loudS Res1
attribute [local irreducible] hwx loudX
instance:TMap Tryz.prog 134 3 22:=⟨Tryz.underlying134⟩
instance:TKey Tryz.prog 3 Int:=⟨Tryz.underlying3⟩
structure RLk where
  parent:Int
  op:Int
  cost:Int
structure REn where
  words:List U64
  link:RLk
instance:Rp REn where
  isAgg:=true
  size:=4
  R w F cs x:=∃ v0,cs=[v0,.int .i64 x.link.parent,.int .i64 x.link.op,.int .i64 x.link.cost]∧Vb w F v0 x.words∧inI64 x.link.parent∧inI64 x.link.op∧inI64 x.link.cost
  len:=by rintro w F cs x ⟨v0,rfl,h0,h1,h2,h3⟩;rfl
  one:=by rintro w F cs x ⟨v0,rfl,h0,h1,h2,h3⟩ u hu;simp at hu;rcases hu with rfl|rfl|rfl|rfl<;>first|rfl|exact Vb.one rfl (by assumption)
  agree:=by rintro w w' F cs x ⟨v0,rfl,h0,h1,h2,h3⟩ ha;exact ⟨v0,rfl,h0.agree ha,h1,h2,h3⟩
  mono:=by rintro w F G cs x ⟨v0,rfl,h0,h1,h2,h3⟩ ha;exact ⟨v0,rfl,h0.mono ha,h1,h2,h3⟩
structure Reg where
  packer:Pkr
  entries:List REn
  table:MapR 3 Int Int
instance:Ow Reg where
  R w F M v x:=∃ (g:Nat) (L:Lab) (c0 c1 c2:Value),v=.pointer (some ⟨g,0,none⟩)∧Blk w g 137 [c0,c1,c2]∧M g∧L g=0∧Ow.R w F (fun k=>M k∧L k=1) c0 x.packer∧RwM w F (fun k=>M k∧L k=2) 144 c1 x.entries∧Ow.R w F (fun k=>M k∧L k=3) c2 x.table
  agree:=by rintro w w' F M v x ⟨g,L,c0,c1,c2,rfl,hb,hM,hL,h0,h1,h2⟩ a1 a2;exact ⟨g,L,c0,c1,c2,rfl,hb.keep (a2 g hM),hM,hL,Ow.agree h0 a1 fun k hk=>a2 k hk.1,h1.agree a1 fun k hk=>a2 k hk.1,Ow.agree h2 a1 fun k hk=>a2 k hk.1⟩
  mono:=by rintro w F M F' M' v x ⟨g,L,c0,c1,c2,rfl,hb,hM,hL,h0,h1,h2⟩ a1 a2 a3;exact ⟨g,L,c0,c1,c2,rfl,hb,a2 g hM,hL,Ow.mono h0 a1 (fun k hk=>⟨a2 k hk.1,hk.2⟩) fun k hf hm=>a3 k hf hm.1,h1.mono a1 (fun k hk=>⟨a2 k hk.1,hk.2⟩) fun k hf hm=>a3 k hf hm.1,Ow.mono h2 a1 (fun k hk=>⟨a2 k hk.1,hk.2⟩) fun k hf hm=>a3 k hf hm.1⟩
instance:OwP Reg:=⟨by rintro w F M v x ⟨g,L,c0,c1,c2,rfl,_⟩;exact ⟨g,rfl⟩⟩
theorem Reg.opn {i:Nat} {w:World} {O:Lab} {p:Nat} {x:Reg} (h:Ob i w O (.pointer (some ⟨p,0,none⟩)) x) (l0 l1 l2 l3:Nat) (hl:l0≠0∧l1≠0∧l2≠0∧l3≠0):∃ (O':Lab) (c0 c1 c2:Value),St (eT i) w O w O'∧(∀ k,Fr i w O k→∃ q,q∈[l0,l1,l2,l3]∧Fr q w O' k)∧Lc l0 w O' p 137 [c0,c1,c2]∧Ob l1 w O' c0 x.packer∧Rw l2 w O' 144 c1 x.entries∧Ob l3 w O' c2 x.table:=by
  obtain ⟨⟨g,L,c0,c1,c2,hv,hb,hM,hL,h0,h1,h2⟩,hi⟩:=h
  obtain rfl:p=g:=by injection hv with hv;injection hv with hv;injection hv
  exact ⟨part O i L [l0,l1,l2,l3],c0,c1,c2,IQ hi,Hv (by simp),⟨hb,(ED (j:=0) rfl p ⟨hM,hL⟩).2⟩,⟨Ow.mono h0 (CQ hi) (ED (j:=1) rfl) (frNe0 hl.2.1),hl.2.1⟩,h1.rw (CQ hi) (ED (j:=2) rfl) hl.2.2.1,⟨Ow.mono h2 (CQ hi) (ED (j:=3) rfl) (frNe0 hl.2.2.2),hl.2.2.2⟩⟩
theorem Reg.shut {w:World} {O:Lab} {p:Nat} {x:Reg} {l0 l1 l2 l3:Nat} {c0 c1 c2:Value} (hd:¬ 0∈[l0,l1,l2,l3]∧[l0,l1,l2,l3].idxOf l0=0∧[l0,l1,l2,l3].idxOf l1=1∧[l0,l1,l2,l3].idxOf l2=2∧[l0,l1,l2,l3].idxOf l3=3) (hb:Lc l0 w O p 137 [c0,c1,c2]) (h0:Ob l1 w O c0 x.packer) (h1:Rw l2 w O 144 c1 x.entries) (h2:Ob l3 w O c2 x.table):∃ O',St (·∈[l0,l1,l2,l3]) w O w O'∧(∀ k,Fr 0 w O k→Fr 0 w O' k)∧(∀ q,q∈[l0,l1,l2,l3]→∀ k,Fr q w O k→Fr l0 w O' k)∧Ob l0 w O' (.pointer (some ⟨p,0,none⟩)) x:=by
  have hb1:l0≠0:=fun e=>hd.1 (by simp [e])
  have hg:=Ea (i:=l0) hd.2.1 (by simp) p ⟨hb.1.lt,hb.2⟩
  exact ⟨whole O l0 [l0,l1,l2,l3],Hw,Ca hd.1,GQ,⟨p,fun k=>[l0,l1,l2,l3].idxOf (O k),c0,c1,c2,rfl,hb.1,hg.1,hg.2,Ow.mono h0.1 (Ca hd.1) (Ea hd.2.2.1 (by simp)) (fun k a b=>frNe0 hb1 k a b.1),h1.m (Ca hd.1) (Ea hd.2.2.2.1 (by simp)) (fun k a b=>frNe0 hb1 k a b.1),Ow.mono h2.1 (Ca hd.1) (Ea hd.2.2.2.2 (by simp)) (fun k a b=>frNe0 hb1 k a b.1)⟩,hb1⟩
noncomputable def CS (x0:List Int):Option ((Option Reg)×Err) :=
  bnd (Eu x0) fun q4=>if q4.2.n≠0 then (some (none,(⟨q4.2.n⟩:Err))) else (bnd q4.1 fun o22=>some ((some (⟨o22,([]:List REn),(⟨[]⟩:MapR 3 Int Int)⟩:Reg)),(⟨0⟩:Err)))
theorem Ki {w:World} {O:Lab} {vx0:Value} {x0:List Int} (b0:Vb w (Fr 0 w O) vx0 x0) (j0:Nat) (hj0:j0≠0) {r:(Option Reg)×Err} (hm:CS x0=some r) :
    Fn Tryz.prog 43 [vx0] w fun v w'=>∃ O',St nT w O w' O'∧∃ v0 v1:Value,v=.tuple #[v0,v1]∧Obo j0 w' O' v0 r.1∧Vb w' (Fr 0 w' O') v1 r.2:=by
 obtain ⟨O0,hE,k0⟩:=ent0 (w:=w) (O:=O)
 have hB:Bm w O0 w O0:=Bm.refl
 replace b0:=b0.mono k0
 obtain ⟨A2,c3,rfl⟩:=b0.form
 refine AI Tryz.func43 rfl Tryz.ntmps43 rfl ?_
 unfold CS at hm
 refine Al (Aj (Ar rfl rfl (Ar rfl rfl (o_z ?_))))
 refine Al (Aj (Am rfl rfl ?_))
 obtain ⟨q4,e5,hm⟩:=bs hm
 refine BR (O:=O0) (ML b0 2 (by decide) e5) rfl rfl fun b1 w6 O7 S8 h9=>?_
 obtain ⟨c1,d1,rfl,a0,m0⟩:=h9
 obtain ⟨rfl,n0⟩:=m0.err
 refine Am rfl rfl (Bz rfl rfl rfl (Bz rfl rfl rfl (Ar rfl rfl (Ar rfl rfl (o_z ?_)))))
 refine Al (Al (Aj (Am rfl rfl (Fg rfl rfl (fun c0=>?_) fun c0=>?_))))
 ·
  replace hm:=ip hm c0
  refine o_z ?_
  refine Ah rfl (Al (Aj (Am rfl rfl (Ar rfl rfl (Ar rfl rfl (o_z ?_))))))
  refine AK ?_
  obtain rfl:=sm hm
  replace hB:=hB.st S8
  obtain ⟨O',hS',hz,hl⟩:=hE.leave (fun _=>0) rfl hB
  exact ret2 rfl (AB rfl) (AB rfl) ⟨O',hS',_,_,rfl,rfl,(vErr n0)⟩
 replace hm:=im hm c0
 refine o_z ?_
 refine Ae rfl (AJ (Al (Aj (Am rfl rfl (Ol (K:=Int) (V:=Int) 3 3 (by decide) O7 rfl fun o0 e1 p0 g0 d0=>?_)))))
 obtain ⟨q0,r0,hm⟩:=bs hm
 replace a0:=a0.st g0
 rw [r0] at a0
 obtain ⟨s0,rfl⟩:=Ob.ptr a0
 refine EK rfl rfl rfl ?_
 refine EJ 4 p0 rfl rfl fun t0 h0 i0 e0 f0=>?_
 replace f0:Lc 4 h0 i0 t0 137 [(.pointer (some ⟨s0,0,none⟩)),(.slice none 0 0),(.map (some o0))]:=f0
 refine Ar rfl rfl (Ar rfl rfl (o_z ?_))
 refine AK ?_
 have u0:Rw 5 h0 i0 144 (.slice none 0 0) ([]:List REn):=Rw.nil 5 (by decide)
 replace a0:=a0.st e0
 replace d0:=d0.st e0
 obtain ⟨f1,w0,y0,z0,a1⟩:=Reg.shut (x:=(⟨q0,([]:List REn),(⟨[]⟩:MapR 3 Int Int)⟩:Reg)) (l0:=4) (l1:=2) (l2:=5) (l3:=3) (by decide) f0 a0 u0 d0
 obtain rfl:=sm hm
 replace hB:=(((hB.st S8).st g0).st e0).st w0
 obtain ⟨O',hS',hz,hl⟩:=hE.leave (fun q=>if q=4 then j0 else 0) rfl hB
 exact ret2 rfl (AB rfl) (AB rfl) ⟨O',hS',_,_,rfl,(Ob.leave a1 hz (hl 4 (by decide) (by decide)) hj0),(vErr (show inI64 0 from by decide))⟩
noncomputable def Bq (x0:Reg) (x1:List Int):Option ((List U64)×Int×Int×Err) :=
  bnd (By x0.packer x1) fun q20=>if q20.2.n≠0 then (some (([]:List U64),0,(-1),(⟨2⟩:Err))) else (bnd (BP x0.packer q20.1) fun q41=>bnd (rng (ρ:=(List U64)×Int×Int×Err) (fun (k66:Nat) (a67:Int) (s64:Unit)=>bnd (atI x0.entries a67) fun a100=>bnd (Bu a100.words q20.1) fun q118=>if q118=true then some (.ret (q20.1,q41,a67,(⟨0⟩:Err))) else some (.next ())) (mget ([]:List Int) x0.table.l q41) 0 ()) fun res62=>fin res62 fun (s139:Unit)=>some (q20.1,q41,(-1),(⟨0⟩:Err)))
theorem GB {w:World} {O:Lab} {p0 i0:Nat} {x0:Reg} (j0:Ob i0 w O (.pointer (some ⟨p0,0,none⟩)) x0) {vx1:Value} {x1:List Int} (u0:Vb w (Fr 0 w O) vx1 x1) {r:(List U64)×Int×Int×Err} (hm:Bq x0 x1=some r) :
    Fn Tryz.prog 83 [(.pointer (some ⟨p0,0,none⟩)),vx1] w fun v w'=>∃ O',St (eT i0) w O w' O'∧∃ v0 v1 v2 v3:Value,Ob i0 w' O' (.pointer (some ⟨p0,0,none⟩)) x0∧v=.tuple #[v0,v1,v2,v3]∧Vb w' (Fr 0 w' O') v0 r.1∧Vb w' (Fr 0 w' O') v1 r.2.1∧Vb w' (Fr 0 w' O') v2 r.2.2.1∧Vb w' (Fr 0 w' O') v3 r.2.2.2:=by
 obtain ⟨O0,hE,n2,x2⟩:=ent1 (w:=w) (O:=O) j0.2
 have j0':=Ob.leave j0 n2 x2 (j:=2) (by decide)
 have hB:Bm w O0 w O0:=Bm.refl
 replace u0:=u0.mono n2
 obtain ⟨A3,c4,rfl⟩:=u0.form
 refine AI Tryz.func83 rfl Tryz.ntmps83 rfl ?_
 unfold Bq at hm
 refine Al (Aj (Ar rfl rfl (Ar rfl rfl (Ar rfl rfl (Ar rfl rfl (o_z ?_))))))
 refine Al (Aj (Am rfl rfl (BK rfl rfl ?_)))
 obtain ⟨O5,v9,l4,m4,S6,n4,h7,o2,k0,g0⟩:=Reg.opn j0' 2 3 4 5 (by decide)
 obtain ⟨o4,rfl⟩:=o2.ptr
 obtain ⟨p4,q4,rfl⟩:=k0.form
 obtain ⟨r4,rfl⟩:=g0.mptr
 refine AF rfl rfl (AE (hc:=Blk.cell (i:=0) (h7.1) rfl) rfl rfl ?_)
 refine Am rfl rfl ?_
 obtain ⟨w0,y2,hm⟩:=bs hm
 replace u0:=u0.st S6
 refine BR (O:=O5) (Is o2 u0 y2) rfl rfl fun s4 t4 z2 f0 a3=>?_
 obtain ⟨u4,v4,p2,rfl,c0,b3⟩:=a3
 obtain ⟨k1,m1,rfl⟩:=c0.form
 obtain ⟨rfl,w4⟩:=b3.err
 refine Am rfl rfl (Bz rfl rfl rfl (Bz rfl rfl rfl (Ar rfl rfl (Ar rfl rfl (o_z ?_)))))
 refine Al (Al (Aj (Am rfl rfl (Fg rfl rfl (fun q1=>?_) fun q1=>?_))))
 ·
  replace hm:=ip hm q1
  refine o_z ?_
  refine Ah rfl (Al (Aj (Er rfl rfl ?_)))
  refine Ar rfl rfl (Ar rfl rfl (Ar rfl rfl (Ar rfl rfl (o_z ?_))))
  refine AK ?_
  replace h7:=h7.st f0
  replace k0:=k0.st f0
  replace g0:=g0.st f0
  obtain ⟨x4,c3,d3,e3,f3⟩:=Reg.shut (x:=x0) (l0:=2) (l1:=3) (l2:=4) (l3:=5) (by decide) h7 p2 k0 g0
  obtain rfl:=sm hm
  replace hB:=((hB.st S6).st f0).st c3
  obtain ⟨O',hS',hz,hl⟩:=hE.leave (fun q=>if q=2 then i0 else 0) rfl hB
  exact ret4 rfl (AB rfl) (AB rfl) (AB rfl) (AB rfl) ⟨O',hS',_,_,_,_,(Ob.leave f3 hz (hl 2 (by decide) (by decide)) j0.2),rfl,(Vb.mono (Vb.nil _ _) hz),(vInt (show inI64 (0) from by decide)),(vInt (show inI64 (-1) from by decide)),(vErr (by decide))⟩
 replace hm:=im hm q1
 refine o_z ?_
 refine Ae rfl (AJ (Al (Aj (Am rfl rfl (BK rfl rfl (AF rfl rfl ?_))))))
 replace h7:=h7.st f0
 refine AE (hc:=Blk.cell (i:=0) (h7.1) rfl) rfl rfl ?_
 refine Am rfl rfl ?_
 obtain ⟨e0,g3,hm⟩:=bs hm
 refine BR (O:=z2) (It p2 c0 g3) rfl rfl fun y4 z4 a5 m0 h3=>?_
 obtain ⟨i3,j3⟩:=h3
 obtain ⟨rfl,q2⟩:=j3.int
 refine Ar rfl rfl (o_z ?_)
 refine Al (Al (Aj (Am rfl rfl (BK rfl rfl (AF rfl rfl ?_)))))
 replace h7:=h7.st m0
 refine AE (hc:=Blk.cell (i:=2) (h7.1) rfl) rfl rfl ?_
 refine Am rfl rfl ?_
 replace g0:=(g0.st f0).st m0
 obtain ⟨r2,s2,r1,d0⟩:=MapR.get g0 e0
 refine Rk e0 r1 rfl rfl rfl ?_
 refine AN rfl rfl ?_
 have s1:(mget ([]:List Int) x0.table.l e0).length≤9223372036854775807:=Nat.le_trans d0.len.2.1 d0.len.2.2
 have b5:inI64 ((mget ([]:List Int) x0.table.l e0).length:Int):=rngNat s1
 refine Am rfl rfl (o_z ?_)
 replace k0:=(k0.st f0).st m0
 obtain ⟨k3,y0,t1,u1,n0⟩:=Reg.shut (x:=x0) (l0:=2) (l1:=3) (l2:=4) (l3:=5) (by decide) h7 i3 k0 g0
 replace d0:=d0.shutS y0 t1 u1 [2] (by decide)
 obtain ⟨z0,w1,hm⟩:=bs hm
 refine AM (aft z0 (fun (n1:Unit) (o1:Unit)=>[(8,(.slice k1 w0.1.length m1)),(10,(.int .i64 e0))]) (fun n1 o1 w'=>∃ O':Lab,Bm w O0 w' O'∧Vb w' (Fr 0 w' O') (.slice k1 w0.1.length m1) w0.1∧Ob 2 w' O' (.pointer (some ⟨p0,0,none⟩)) x0)) ?_ ?_
 ·
  refine AQ ?_
  replace hB:=(((hB.st S6).st f0).st m0).st y0
  replace c0:=(c0.st m0).st y0
  refine BV (σ:=Unit) (X:=Unit) ((mget ([]:List Int) x0.table.l e0).length) w1 rfl s1 (fun (n1:Unit) (o1:Unit)=>[(0,(.pointer (some ⟨p0,0,none⟩))),(8,(.slice k1 w0.1.length m1)),(10,(.int .i64 e0)),(36,(.slice r2 (mget ([]:List Int) x0.table.l e0).length s2))]) _ (fun n1 o1 w'=>∃ O':Lab,Bm w O0 w' O'∧Ob 2 w' O' (.pointer (some ⟨p0,0,none⟩)) x0∧Vb w' (Fr 0 w' O') (.slice k1 w0.1.length m1) w0.1∧Vb w' (FrS [2] w' O') (.slice r2 (mget ([]:List Int) x0.table.l e0).length s2) (mget ([]:List Int) x0.table.l e0)) _ () ⟨k3,hB,n0,c0,d0⟩ ⟨rfl,rfl,rfl,rfl,rfl,rfl,trivial⟩ (fun _ _=>⟨rfl,rfl⟩) (fun _ _=>⟨rfl,rfl,trivial⟩) (fun _ _ _ ⟨O',hB,n0,c0,d0⟩=>⟨O',hB,c0,n0⟩) ⟨rfl,rfl,rfl⟩ ⟨rfl,rfl⟩ ?_
  rintro m3 c5 n1 o1 y1 n3 a1 ⟨d5,hB,n0,c0,d0⟩ b0 o0 z1
  have rk66:inI64 (m3:Int):=rngK a1 s1
  refine Al (Aj ?_)
  obtain ⟨e5,f5,o3,a2,b2,c2,rfl,p3⟩:=d0.elem' a1
  refine BW (hA:=a2) (hj:=rfl) (hlt:=b2) rfl rfl rfl ?_
  refine AE (hc:=cat0 c2) rfl rfl ?_
  refine Ar rfl rfl (o_z ?_)
  refine Al (Aj (Am rfl rfl (BK rfl rfl ?_)))
  obtain ⟨d2,g5,h5,i5,p1,e2,q0,r0,h0,s0⟩:=Reg.opn n0 2 3 4 5 (by decide)
  obtain ⟨j5,rfl⟩:=r0.ptr
  obtain ⟨k5,l5,rfl⟩:=h0.form
  obtain ⟨m5,rfl⟩:=s0.mptr
  replace d0:=d0.opnS p1 (by decide) e2 [2,3,4,5] (by decide)
  refine AF rfl rfl (AE (hc:=Blk.cell (i:=1) (q0.1) rfl) rfl rfl ?_)
  refine Am rfl rfl ?_
  obtain ⟨q3,f2,b0⟩:=bs b0
  obtain ⟨g2,h2⟩:=AO f2
  obtain ⟨r3,s3,t2,b1,c1,d1,t3,rfl,e1,u3,w3,x3⟩:=h0.elem h2
  obtain ⟨y3,z3,rfl⟩:=e1.form
  refine BW (hA:=b1) (hj:=(Int.toNat_of_nonneg g2).symm) (hlt:=c1) rfl rfl rfl ?_
  refine AF rfl rfl (AE (hc:=cat0 d1) rfl rfl ?_)
  refine Am rfl rfl ?_
  obtain ⟨f1,i2,b0⟩:=bs b0
  replace c0:=c0.st p1
  refine Ce (O:=d2) (A:=All y1) (R:=fun w' F v=>Vb w' F v f1) (FE (fun _ h=>h) (Vb.mono (F:=Fr 0 y1 d2) e1 Fr.lt) (Vb.mono (F:=Fr 0 y1 d2) c0 Fr.lt) i2) rfl rfl fun a4 b4 d4 a0 j2=>?_
  obtain rfl:=j2.bool
  replace d0:=d0.stS a0 id (fun _ _=>id)
  cases f1
  case false =>
   replace b0:=iF b0
   refine o_z ?_
   refine Ae rfl (AJ ?_)
   replace q0:=q0.st a0
   replace r0:=r0.st a0
   replace h0:=h0.st a0
   replace s0:=s0.st a0
   obtain ⟨e4,t0,g1,h1,k2⟩:=Reg.shut (x:=x0) (l0:=2) (l1:=3) (l2:=4) (l3:=5) (by decide) q0 r0 h0 s0
   replace d0:=d0.shutS t0 g1 h1 [2] (by decide)
   obtain rfl:=sm b0
   exact show Exists _ from ⟨_,(),rfl,⟨rfl,rfl,rfl,rfl,rfl,rfl,trivial⟩,_,((hB.st p1).st a0).st t0,k2,(c0.st a0).st t0,d0⟩
  replace b0:=iT b0
  refine o_z ?_
  refine Ah rfl (Al (Aj (Am rfl rfl (Am rfl rfl (Am rfl rfl (Ar rfl rfl (Ar rfl rfl (Ar rfl rfl (Ar rfl rfl (o_z ?_))))))))))
  refine AK ?_
  replace q0:=q0.st a0
  replace r0:=r0.st a0
  replace h0:=h0.st a0
  replace s0:=s0.st a0
  obtain ⟨f4,i1,u2,w2,m2⟩:=Reg.shut (x:=x0) (l0:=2) (l1:=3) (l2:=4) (l3:=5) (by decide) q0 r0 h0 s0
  obtain rfl:=sm b0
  obtain rfl:=o0 _ rfl
  obtain rfl:=sm (Cy hm)
  replace hB:=((hB.st p1).st a0).st i1
  obtain ⟨O',hS',hz,hl⟩:=hE.leave (fun q=>if q=2 then i0 else 0) rfl hB
  replace c0:=(c0.st a0).st i1
  exact ret4 rfl (AB rfl) (AB rfl) (AB rfl) (AB rfl) ⟨O',hS',_,_,_,_,(Ob.leave m2 hz (hl 2 (by decide) (by decide)) j0.2),rfl,(Vb.mono c0 hz),(vInt q2),(vInt p3),(vErr (show inI64 0 from by decide))⟩
 replace hB:=(((hB.st S6).st f0).st m0).st y0
 replace c0:=(c0.st m0).st y0
 rintro g4 h4 ⟨i4,j4,rfl,j1,k4,hB,c0,n0⟩
 replace hm:=Bo hm
 refine AP _ j1 ?_
 refine Al (Aj (Am rfl rfl (Am rfl rfl (Ar rfl rfl (Ar rfl rfl (Ar rfl rfl (Ar rfl rfl (o_z ?_))))))))
 refine AK ?_
 obtain rfl:=sm hm
 obtain ⟨O',hS',hz,hl⟩:=hE.leave (fun q=>if q=2 then i0 else 0) rfl hB
 exact ret4 rfl (AB rfl) (AB rfl) (AB rfl) (AB rfl) ⟨O',hS',_,_,_,_,(Ob.leave n0 hz (hl 2 (by decide) (by decide)) j0.2),rfl,(Vb.mono c0 hz),(vInt q2),(vInt (show inI64 (-1) from by decide)),(vErr (show inI64 0 from by decide))⟩
noncomputable def Bh (x0:Reg) (x1:List Int):Option (Int×Bool×Err×Reg) :=
  bnd (Bq x0 x1) fun q5=>if q5.2.2.2.n≠0 then (some (0,false,(⟨q5.2.2.2.n⟩:Err),x0)) else (if 0≤q5.2.2.1 then (some (q5.2.2.1,false,(⟨0⟩:Err),x0)) else (if 65536≤(x0.entries.length:Int) then (some (0,false,(⟨10⟩:Err),x0)) else (bnd (appI 48 x0.entries [(⟨q5.1,(⟨(-1),(-1),0⟩:RLk)⟩:REn)]) fun u53=>bnd (appI 8 (mget ([]:List Int) x0.table.l q5.2.1) ([(x0.entries.length:Int)]:List Int)) fun u82=>some ((x0.entries.length:Int),true,(⟨0⟩:Err),(⟨x0.packer,u53,(⟨mput x0.table.l q5.2.1 u82⟩:MapR 3 Int Int)⟩:Reg)))))
theorem EW {w:World} {O:Lab} {p0 i0:Nat} {x0:Reg} (d0:Ob i0 w O (.pointer (some ⟨p0,0,none⟩)) x0) {vx1:Value} {x1:List Int} (k0:Vb w (Fr 0 w O) vx1 x1) {r:Int×Bool×Err×Reg} (hm:Bh x0 x1=some r) :
    Fn Tryz.prog 44 [(.pointer (some ⟨p0,0,none⟩)),vx1] w fun v w'=>∃ O',St (eT i0) w O w' O'∧∃ v0 v1 v2:Value,Ob i0 w' O' (.pointer (some ⟨p0,0,none⟩)) r.2.2.2∧v=.tuple #[v0,v1,v2]∧Vb w' (Fr 0 w' O') v0 r.1∧Vb w' (Fr 0 w' O') v1 r.2.1∧Vb w' (Fr 0 w' O') v2 r.2.2.1:=by
 obtain ⟨O0,hE,e1,m1⟩:=ent1 (w:=w) (O:=O) d0.2
 have d0':=Ob.leave d0 e1 m1 (j:=2) (by decide)
 have hB:Bm w O0 w O0:=Bm.refl
 replace k0:=k0.mono e1
 obtain ⟨A3,c4,rfl⟩:=k0.form
 refine AI Tryz.func44 rfl Tryz.ntmps44 rfl ?_
 unfold Bh at hm
 refine Al (Aj (Ar rfl rfl (Ar rfl rfl (Ar rfl rfl (o_z ?_)))))
 refine Al (Al (Aj (Am rfl rfl (Ep rfl rfl ?_))))
 refine o_z ?_
 refine Ae rfl (AJ (Al (Aj (Am rfl rfl (Am rfl rfl ?_)))))
 obtain ⟨q5,e6,hm⟩:=bs hm
 refine BR (O:=O0) (GB d0' k0 e6) rfl rfl fun t2 w7 O8 S9 n1=>?_
 obtain ⟨u2,w2,x2,y2,s0,rfl,m0,o1,p1,q1⟩:=n1
 obtain ⟨r1,s1,rfl⟩:=m0.form
 obtain ⟨rfl,z2⟩:=o1.int
 obtain ⟨rfl,t1⟩:=p1.int
 obtain ⟨rfl,u1⟩:=q1.err
 refine Am rfl rfl (Bz rfl rfl rfl (Bz rfl rfl rfl (Bz rfl rfl rfl (Bz rfl rfl rfl (Ar rfl rfl (Ar rfl rfl (Ar rfl rfl (Ar rfl rfl (o_z ?_)))))))))
 refine Al (AQ (Al (Aj (Am rfl rfl (Fg rfl rfl (fun t0=>?_) fun t0=>?_)))))
 ·
  replace hm:=ip hm t0
  refine Ar rfl rfl (o_z ?_)
  refine Ah rfl (Al (Aj (Am rfl rfl (Ar rfl rfl (Ar rfl rfl (Ar rfl rfl (o_z ?_)))))))
  refine AK ?_
  obtain rfl:=sm hm
  replace hB:=hB.st S9
  obtain ⟨O',hS',hz,hl⟩:=hE.leave (fun q=>if q=2 then i0 else 0) rfl hB
  exact ret3 rfl (AB rfl) (AB rfl) (AB rfl) ⟨O',hS',_,_,_,(Ob.leave s0 hz (hl 2 (by decide) (by decide)) d0.2),rfl,(vInt (show inI64 (0) from by decide)),vBool,(vErr u1)⟩
 replace hm:=im hm t0
 refine Ar rfl rfl (o_z ?_)
 refine Ae rfl (Al (Aj (Am rfl rfl (Gg rfl rfl rfl (fun u0=>?_) fun u0=>?_))))
 ·
  replace hm:=ip hm u0
  refine Ar rfl rfl (o_z ?_)
  refine Ah rfl (Al (Aj (Am rfl rfl (Ar rfl rfl (Ar rfl rfl (Ar rfl rfl (o_z ?_)))))))
  refine AK ?_
  obtain rfl:=sm hm
  replace hB:=hB.st S9
  obtain ⟨O',hS',hz,hl⟩:=hE.leave (fun q=>if q=2 then i0 else 0) rfl hB
  exact ret3 rfl (AB rfl) (AB rfl) (AB rfl) ⟨O',hS',_,_,_,(Ob.leave s0 hz (hl 2 (by decide) (by decide)) d0.2),rfl,(vInt t1),vBool,(vErr (show inI64 0 from by decide))⟩
 replace hm:=im hm u0
 refine Ar rfl rfl (o_z ?_)
 refine Ae rfl (Al (Aj (Am rfl rfl (BK rfl rfl ?_))))
 obtain ⟨a3,b3,c3,d3,w0,w1,a0,j0,f0,b0⟩:=Reg.opn s0 2 3 4 5 (by decide)
 obtain ⟨y1,rfl⟩:=j0.ptr
 obtain ⟨e3,f3,rfl⟩:=f0.form
 obtain ⟨z1,rfl⟩:=b0.mptr
 refine AF rfl rfl (AE (hc:=Blk.cell (i:=1) (a0.1) rfl) rfl rfl ?_)
 refine AN rfl rfl ?_
 have a2:x0.entries.length≤9223372036854775807:=Nat.le_trans f0.len.2.1 f0.len.2.2
 have g3:inI64 (x0.entries.length:Int):=rngNat a2
 refine Gg rfl rfl rfl (fun y0=>?_) fun y0=>?_
 ·
  replace hm:=ip hm y0
  refine Ar rfl rfl (o_z ?_)
  refine Ah rfl (Al (Aj (Er rfl rfl ?_)))
  refine Ar rfl rfl (Ar rfl rfl (Ar rfl rfl (o_z ?_)))
  refine AK ?_
  obtain ⟨h3,b2,c2,d2,e2⟩:=Reg.shut (x:=x0) (l0:=2) (l1:=3) (l2:=4) (l3:=5) (by decide) a0 j0 f0 b0
  obtain rfl:=sm hm
  replace hB:=((hB.st S9).st w0).st b2
  obtain ⟨O',hS',hz,hl⟩:=hE.leave (fun q=>if q=2 then i0 else 0) rfl hB
  exact ret3 rfl (AB rfl) (AB rfl) (AB rfl) ⟨O',hS',_,_,_,(Ob.leave e2 hz (hl 2 (by decide) (by decide)) d0.2),rfl,(vInt (show inI64 (0) from by decide)),vBool,(vErr (by decide))⟩
 replace hm:=im hm y0
 refine Ar rfl rfl (o_z ?_)
 refine Ae rfl (AJ (Al (Aj (Am rfl rfl (BK rfl rfl (AF rfl rfl (AE (hc:=Blk.cell (i:=1) (a0.1) rfl) rfl rfl ?_)))))))
 refine AN rfl rfl ?_
 have f2:x0.entries.length≤9223372036854775807:=Nat.le_trans f0.len.2.1 f0.len.2.2
 have f1:inI64 (x0.entries.length:Int):=rngNat f2
 refine Ar rfl rfl (o_z ?_)
 refine Al (Aj (Am rfl rfl (Am rfl rfl (BK rfl rfl (AF rfl rfl (AE (hc:=Blk.cell (i:=1) (a0.1) rfl) rfl rfl ?_))))))
 refine Am rfl rfl (EK rfl rfl rfl ?_)
 refine EK rfl rfl rfl ?_
 obtain ⟨g1,z0,hm⟩:=bs hm
 obtain ⟨z0,g2,h2⟩:=Cg z0
 replace m0:=m0.st w0
 refine Ej rfl (a:=(⟨q5.1,(⟨(-1),(-1),0⟩:RLk)⟩:REn)) f0 (Vb.ofAgg (cs:=[(.slice r1 q5.1.length s1),(.int .i64 (-1)),(.int .i64 (-1)),(.int .i64 0)]) (x:=(⟨q5.1,(⟨(-1),(-1),0⟩:RLk)⟩:REn)) rfl ⟨_,rfl,m0,(show inI64 (-1) from by decide),(show inI64 (-1) from by decide),(show inI64 (0) from by decide)⟩) (fun _=>rfl) rfl (by decide) (by decide) g2 h2 ⟨rfl,rfl⟩ fun i3 i2 j2 j3 a1 n0 o0=>?_
 rw [← z0] at o0 ⊢
 refine BK rfl rfl (AF rfl rfl ?_)
 replace a0:=a0.st n0
 refine Bf a0 rfl rfl rfl (BO rfl) (allOne rfl) fun k2 q0 a0=>?_
 replace a0:Lc 2 k2 a1 p0 137 [(.pointer (some ⟨y1,0,none⟩)),(.slice i2 g1.length j2),(.map (some z1))]:=a0
 refine o_z ?_
 refine Al (Bt [(13,[5,7])] a1 ?_)
 refine AT (fuel:=8) [] [(5,true),(6,true),(7,true),(8,true),(9,true),(10,true),(11,true)] (by kernel_rfl) rfl ?_
 refine AH rfl rfl rfl (Cd rfl rfl rfl (AR rfl rfl rfl (AS (hc:=fun w' ⟨O',hq⟩=>Blk.cell (i:=2) ((a0.st hq (by decide)).1) rfl) rfl rfl rfl ?_)))
 refine AH rfl rfl rfl ?_
 replace b0:=(b0.st n0).st q0
 obtain ⟨k3,m3,c0,h1⟩:=MapR.get b0 q5.2.1
 refine Rl q5.2.1 (fun w' ⟨O',hq⟩=>c0.keep (hq.agree (i:=5) (by decide) _ (MapR.at b0))) rfl rfl rfl rfl ?_
 refine AH rfl rfl rfl (AG ?_)
 refine AT (fuel:=3) [5,7] [(0,true),(1,true),(2,true),(3,true),(4,true)] (by kernel_rfl) rfl ?_
 refine AH rfl rfl rfl (Cd rfl rfl rfl (AR rfl rfl rfl (AS (hc:=fun w' ⟨O',hq⟩=>Blk.cell (i:=2) ((a0.st hq (by decide)).1) rfl) rfl rfl rfl ?_)))
 refine AH rfl rfl rfl (AG ?_)
 refine AV (i:=12) (by kernel_rfl) rfl ?_
 refine BX 6 (by decide) a1 (xs:=(([(x0.entries.length:Int)]:List Int):List Int)) rfl rfl rfl rfl ⟨(vInt f1),trivial⟩ (by decide) (by decide) rfl fun n3 o3 p3 e0 b1=>?_
 have hZ:=e0.lst [] (fun _ h=>h.elim)
 replace c0:=c0.keep (e0.agree (i:=5) id _ (MapR.at b0))
 replace h1:=h1.stS e0 id (fun _ _=>id)
 refine Bg [(13,[5,7])] hZ (by kernel_rfl) ?_
 refine AV (i:=13) (by kernel_rfl) rfl ?_
 replace b0:=b0.st e0
 obtain ⟨q3,g0,c1,m2⟩:=MapR.take b0 c0 7 (by decide) (by decide)
 have hZ:=g0.lst [5] (fun _ h=>by cases h;decide)
 obtain ⟨n2,d1,hm⟩:=bs hm
 obtain ⟨d1,o2,p2⟩:=Cg d1
 replace b1:=b1.st g0
 refine CH rfl m2 (b1.rd) rfl rfl (by decide) o2 p2 rfl fun r3 s3 t3 u3 h0 i1=>?_
 rw [← d1] at i1 ⊢
 replace hZ:=hZ.cmp h0 [5,7] (fun _ h=>by cases h;decide) rfl
 refine Bg [] hZ (by kernel_rfl) ?_
 refine AV (i:=14) (by kernel_rfl) rfl ?_
 replace c1:=c1.st h0
 refine Pn c1 i1 (by decide) rfl rfl rfl fun v3 w3 r0 q2=>?_
 refine Di (by kernel_rfl) ?_
 refine BC (by kernel_rfl) ?_
 refine Al (Aj (Am rfl rfl (Ar rfl rfl (Ar rfl rfl (Ar rfl rfl (o_z ?_))))))
 refine AK ?_
 replace a0:=(((a0.st e0).st g0).st h0).st r0
 replace j0:=(((((j0.st n0).st q0).st e0).st g0).st h0).st r0
 replace o0:=((((o0.st q0).st e0).st g0).st h0).st r0
 obtain ⟨x3,r2,j1,k1,s2⟩:=Reg.shut (x:=(⟨x0.packer,g1,(⟨mput x0.table.l q5.2.1 n2⟩:MapR 3 Int Int)⟩:Reg)) (l0:=2) (l1:=3) (l2:=4) (l3:=5) (by decide) a0 j0 o0 q2
 obtain rfl:=sm hm
 replace hB:=((((((((hB.st S9).st w0).st n0).st q0).st e0).st g0).st h0).st r0).st r2
 obtain ⟨O',hS',hz,hl⟩:=hE.leave (fun q=>if q=2 then i0 else 0) rfl hB
 exact ret3 rfl (AB rfl) (AB rfl) (AB rfl) ⟨O',hS',_,_,_,(Ob.leave s2 hz (hl 2 (by decide) (by decide)) d0.2),rfl,(vInt f1),vBool,(vErr (show inI64 0 from by decide))⟩
noncomputable def BY (x0:Reg) (x1:Int):Option Bool :=
  bnd (if 0≤x1 then (if x1 < (x0.entries.length:Int) then (some true) else (some false)) else (some false):Option Bool) fun y3=>some y3
theorem GL {w:World} {O:Lab} {p0 i0:Nat} {x0:Reg} (b0:Ob i0 w O (.pointer (some ⟨p0,0,none⟩)) x0) {x1:Int} (rx1:inI64 x1) {r:Bool} (hm:BY x0 x1=some r) :
    Fn Tryz.prog 85 [(.pointer (some ⟨p0,0,none⟩)),(.int .i64 x1)] w fun v w'=>∃ O',St (eT i0) w O w' O'∧Ob i0 w' O' (.pointer (some ⟨p0,0,none⟩)) x0∧Vb w' (Fr 0 w' O') v r:=by
 obtain ⟨O0,hE,j0,k0⟩:=ent1 (w:=w) (O:=O) b0.2
 have b0':=Ob.leave b0 j0 k0 (j:=2) (by decide)
 have hB:Bm w O0 w O0:=Bm.refl
 refine AI Tryz.func85 rfl Tryz.ntmps85 rfl ?_
 unfold BY at hm
 refine Al (Aj (Ar rfl rfl (o_z ?_)))
 refine Al ?_
 obtain ⟨y3,a0,hm⟩:=bs hm
 refine AM (fun l' w'=>∃ (x6:Unit) (O':Lab),subs l' [(4,(.bool y3))]∧Bm w O0 w' O'∧Ob 2 w' O' (.pointer (some ⟨p0,0,none⟩)) x0) ?_ ?_
 ·
  refine Aj (Am rfl rfl (Gg rfl rfl rfl (fun c7=>?_) fun c7=>?_))
  ·
   replace a0:=ip a0 c7
   refine Am rfl rfl (Aw rfl rfl (Am rfl rfl (Aw rfl rfl (Am rfl rfl (Aw rfl rfl (BK rfl rfl (Aw rfl rfl ?_)))))))
   obtain ⟨O8,z0,a1,b1,S9,m0,d0,e0,c0,f0⟩:=Reg.opn b0' 2 3 4 5 (by decide)
   obtain ⟨c1,rfl⟩:=e0.ptr
   obtain ⟨d1,e1,rfl⟩:=c0.form
   obtain ⟨f1,rfl⟩:=f0.mptr
   refine AF rfl rfl (Aw rfl rfl (AE (hc:=Blk.cell (i:=1) (d0.1) rfl) rfl rfl ?_))
   refine Aw rfl rfl (AN rfl rfl ?_)
   have n0:x0.entries.length≤9223372036854775807:=Nat.le_trans c0.len.2.1 c0.len.2.2
   have g1:inI64 (x0.entries.length:Int):=rngNat n0
   refine Aw rfl rfl (DJ rfl rfl rfl (fun g0=>?_) fun g0=>?_)
   ·
    replace a0:=ip a0 g0
    refine Bk rfl rfl rfl (Ar rfl rfl (o_z ?_))
    obtain ⟨h1,o0,q0,r0,s0⟩:=Reg.shut (x:=x0) (l0:=2) (l1:=3) (l2:=4) (l3:=5) (by decide) d0 e0 c0 f0
    obtain rfl:=sm a0
    exact ⟨(),_,⟨rfl,trivial⟩,(hB.st S9).st o0,s0⟩
   replace a0:=im a0 g0
   refine Bk rfl rfl rfl (Ar rfl rfl (o_z ?_))
   obtain ⟨i1,t0,u0,v0,w0⟩:=Reg.shut (x:=x0) (l0:=2) (l1:=3) (l2:=4) (l3:=5) (by decide) d0 e0 c0 f0
   obtain rfl:=sm a0
   exact ⟨(),_,⟨rfl,trivial⟩,(hB.st S9).st t0,w0⟩
  replace a0:=im a0 c7
  refine Am rfl rfl (Au rfl rfl rfl rfl (Au rfl rfl rfl rfl (Au rfl rfl rfl rfl (Au rfl rfl rfl rfl (Au rfl rfl rfl rfl (Au rfl rfl rfl rfl (Au rfl rfl rfl rfl (Bp rfl rfl rfl (Ar rfl rfl (o_z ?_))))))))))
  obtain rfl:=sm a0
  exact ⟨(),_,⟨rfl,trivial⟩,hB,b0'⟩
 rintro j1 k1 ⟨x6,m1,h0,hB,y0⟩
 refine AP _ h0 ?_
 refine AK ?_
 obtain rfl:=sm hm
 obtain ⟨O',hS',hz,hl⟩:=hE.leave (fun q=>if q=2 then i0 else 0) rfl hB
 exact ret1v rfl (AB rfl) ⟨O',hS',(Ob.leave y0 hz (hl 2 (by decide) (by decide)) b0.2),vBool⟩
noncomputable def Bw (x0:Reg) (x1:Int):Option ((List Int)×Err) :=
  bnd (BY x0 x1) fun q3=>if q3=true then bnd (atI x0.entries x1) fun a27=>bnd (Cs x0.packer a27.words) fun q45=>some (q45.1,(⟨q45.2.n⟩:Err)) else some (([]:List Int),(⟨1⟩:Err))
theorem Gi {w:World} {O:Lab} {p0 i0:Nat} {x0:Reg} (a0:Ob i0 w O (.pointer (some ⟨p0,0,none⟩)) x0) {x1:Int} (rx1:inI64 x1) {r:(List Int)×Err} (hm:Bw x0 x1=some r) :
    Fn Tryz.prog 47 [(.pointer (some ⟨p0,0,none⟩)),(.int .i64 x1)] w fun v w'=>∃ O',St (eT i0) w O w' O'∧∃ v0 v1:Value,Ob i0 w' O' (.pointer (some ⟨p0,0,none⟩)) x0∧v=.tuple #[v0,v1]∧Vb w' (Fr 0 w' O') v0 r.1∧Vb w' (Fr 0 w' O') v1 r.2:=by
 obtain ⟨O0,hE,s0,t0⟩:=ent1 (w:=w) (O:=O) a0.2
 have a0':=Ob.leave a0 s0 t0 (j:=2) (by decide)
 have hB:Bm w O0 w O0:=Bm.refl
 refine AI Tryz.func47 rfl Tryz.ntmps47 rfl ?_
 unfold Bw at hm
 refine Al (Aj (Ar rfl rfl (Ar rfl rfl (o_z ?_))))
 refine Al (AQ (Al (Aj (Am rfl rfl (Ep rfl rfl ?_)))))
 refine Ar rfl rfl (o_z ?_)
 refine Ae rfl (Al (Aj (Am rfl rfl (Am rfl rfl ?_))))
 obtain ⟨q3,e4,hm⟩:=bs hm
 refine BR (O:=O0) (GL a0' rx1 e4) rfl rfl fun v9 w5 O6 S7 h8=>?_
 obtain ⟨m0,u0⟩:=h8
 obtain rfl:=u0.bool
 cases q3
 case false =>
  replace hm:=iF hm
  refine CM rfl rfl (Ar rfl rfl (o_z ?_))
  refine Ah rfl (Al (Aj (Er rfl rfl ?_)))
  refine Ar rfl rfl (Ar rfl rfl (o_z ?_))
  refine AK ?_
  obtain rfl:=sm hm
  replace hB:=hB.st S7
  obtain ⟨O',hS',hz,hl⟩:=hE.leave (fun q=>if q=2 then i0 else 0) rfl hB
  exact ret2 rfl (AB rfl) (AB rfl) ⟨O',hS',_,_,(Ob.leave m0 hz (hl 2 (by decide) (by decide)) a0.2),rfl,(Vb.mono (Vb.nil _ _) hz),(vErr (by decide))⟩
 replace hm:=iT hm
 refine CL rfl rfl (Ar rfl rfl (o_z ?_))
 refine Ae rfl (AJ (Al ?_))
 obtain ⟨n0,m1,n1,o1,w0,y0,b0,o0,c0,e0⟩:=Reg.opn m0 2 3 4 5 (by decide)
 obtain ⟨p1,rfl⟩:=o0.ptr
 obtain ⟨q1,r1,rfl⟩:=c0.form
 obtain ⟨s1,rfl⟩:=e0.mptr
 refine Bt [(12,[3])] n0 ?_
 refine AT (fuel:=5) [] [(0,true),(1,true),(2,true),(3,true),(4,true),(5,true),(6,true),(7,true),(8,true),(9,true),(10,true),(11,true)] (by kernel_rfl) rfl ?_
 refine AH rfl rfl rfl (Cd rfl rfl rfl (AR rfl rfl rfl (AS (hc:=fun w' ⟨O',hq⟩=>Blk.cell (i:=0) ((b0.st hq (by decide)).1) rfl) rfl rfl rfl ?_)))
 refine AH rfl rfl rfl (Cd rfl rfl rfl (AR rfl rfl rfl (AS (hc:=fun w' ⟨O',hq⟩=>Blk.cell (i:=1) ((b0.st hq (by decide)).1) rfl) rfl rfl rfl ?_)))
 refine AH rfl rfl rfl ?_
 obtain ⟨t1,z0,hm⟩:=bs hm
 obtain ⟨a1,b1⟩:=AO z0
 obtain ⟨u1,w1,c1,g0,h0,j0,k0,y1,rfl,q0,z1,a2,b2⟩:=c0.elemF b1
 obtain ⟨c2,d2,rfl⟩:=q0.form
 refine BJ (hA:=g0) (hj:=(Int.toNat_of_nonneg a1).symm) (hlt:=j0) rfl rfl rfl rfl ?_
 refine AR rfl rfl rfl (AS (hc:=fun w' ⟨O',hq⟩=>cat0 (AZ (hq.agree (i:=4) (by decide)) h0 k0)) rfl rfl rfl ?_)
 refine AG ?_
 refine AV (i:=12) (by kernel_rfl) rfl ?_
 obtain ⟨e2,d1,hm⟩:=bs hm
 refine BR (O:=n0) (Hx o0 q0 d1) rfl rfl fun f2 g2 h2 d0 e1=>?_
 obtain ⟨i2,j2,f1,rfl,f0,g1⟩:=e1
 obtain ⟨k2,m2,rfl⟩:=f0.form
 obtain ⟨rfl,h1⟩:=g1.err
 have hZ:=d0.lst [3] (fun _ h=>by cases h;decide)
 refine Bg [] hZ (by kernel_rfl) ?_
 refine AT (fuel:=0) [] [(13,true),(14,true),(15,true),(16,true)] (by kernel_rfl) rfl ?_
 refine Kc rfl rfl rfl rfl (Kc rfl rfl rfl rfl (Dv rfl rfl rfl (Dv rfl rfl rfl (AG ?_))))
 refine BC (by kernel_rfl) ?_
 refine AK ?_
 replace b0:=b0.st d0
 replace c0:=c0.st d0
 replace e0:=e0.st d0
 obtain ⟨n2,r0,i1,j1,k1⟩:=Reg.shut (x:=x0) (l0:=2) (l1:=3) (l2:=4) (l3:=5) (by decide) b0 f1 c0 e0
 obtain rfl:=sm hm
 replace hB:=(((hB.st S7).st w0).st d0).st r0
 obtain ⟨O',hS',hz,hl⟩:=hE.leave (fun q=>if q=2 then i0 else 0) rfl hB
 replace f0:=f0.st r0
 exact ret2 rfl (AB rfl) (AB rfl) ⟨O',hS',_,_,(Ob.leave k1 hz (hl 2 (by decide) (by decide)) a0.2),rfl,(Vb.mono f0 hz),(vErr h1)⟩
end
section
open Go Go.RowKit
attribute [local irreducible] ewp owp hwp hwq hws Ev Evg Fn retPost loud loudS Res1
attribute [local irreducible] hwx loudX
def Bd (xs:List Fct):Option (List Fct):=if xs.length * 16≤140737488355328∧xs.length≤9223372036854775807 then some xs else none
theorem Bv {w:World} {A:Nat→Prop} (hA:∀ k,A k→k < w.heap.size) {v0:Value} {x0:List Fct} (h0:Vb w A v0 x0) {r:List Fct} (hm:Bd x0=some r) :
    Fn Tryz.prog 84 [v0] w fun v w'=>Ext w w'∧RowR w w' (upA A w w') 123 v r:=by
  obtain ⟨⟨hl,a0⟩,rfl⟩:=DX hm
  obtain ⟨O,hB,b0⟩:=enter hA
  replace h0:=h0.mono b0
  obtain ⟨Ad,c,rfl⟩:=h0.form
  refine AI Tryz.func84 rfl Tryz.ntmps84 rfl ?_
  cases Ad with
  | none =>
    have hx:x0=[]:=by
      cases x0 with
      | nil=>rfl
      | cons x xs=>obtain ⟨_,_,_,h,_⟩:=h0.elem (k:=0) (x:=x) rfl;cases h
    subst hx
    ((repeat (first|refine An ?_|refine Ah rfl ?_|refine Ae rfl ?_))<;>(refine Ar rfl rfl ?_<;>(refine o_z ?_))<;>(repeat (first|refine An ?_|refine Ah rfl ?_|refine Ae rfl ?_))<;>(refine Am rfl rfl ?_<;>refine Ft rfl rfl ?_<;>(refine o_z ?_))<;>(repeat (first|refine An ?_|refine Ah rfl ?_|refine Ae rfl ?_))<;>(refine Ar rfl rfl ?_<;>(refine o_z ?_))<;>(repeat (first|refine An ?_|refine Ah rfl ?_|refine Ae rfl ?_)))
    exact ret1 rfl rfl ⟨Below.refl _ _,RowR.nil⟩
  | some ad =>
    ((repeat (first|refine An ?_|refine Ah rfl ?_|refine Ae rfl ?_))<;>(refine Ar rfl rfl ?_<;>(refine o_z ?_))<;>(repeat (first|refine An ?_|refine Ah rfl ?_|refine Ae rfl ?_))<;>(refine Am rfl rfl ?_<;>refine Ft rfl rfl ?_<;>(refine o_z ?_))<;>(repeat (first|refine An ?_|refine Ah rfl ?_|refine Ae rfl ?_)))
    refine BX 2 (by decide) O (xs:=([]:List Fct)) rfl rfl rfl rfl trivial (by decide) (by decide) rfl fun g w1 O1 S1 h1=>?_
    replace hB:=hB.st S1 (fun h=>h) (fun h=>h)
    replace h0:=h0.st S1 (fun h=>h)
    (refine Am rfl rfl ?_)
    refine CH rfl h1 h0.rd rfl rfl (by decide) (by simpa using hl) (by simpa using a0) rfl fun A2 c2 w2 O2 S2 h2=>?_
    replace hB:=hB.st S2 (by decide) (by decide)
    rw [List.nil_append] at h2 ⊢
    (refine Ar rfl rfl ?_<;>(refine o_z ?_))
    repeat (first|refine An ?_|refine Ah rfl ?_|refine Ae rfl ?_)
    exact ret1 rfl rfl ⟨hB.ext,h2.out hB (by decide)⟩
end
section
open Go Go.RowKit
structure Raw (a:Bool) (n:Nat) where
  cs:List Value
  len:cs.length=n
  one:∀ u∈cs,u.oneCell'=true
instance {a:Bool} {n:Nat}:Rp (Raw a n) where
  isAgg:=a
  size:=n
  R _ _ cs x:=cs=x.cs
  len:=by rintro _ _ cs x rfl;exact x.len
  one:=by rintro _ _ cs x rfl;exact x.one
  agree:=by rintro _ _ _ cs x rfl _;rfl
  mono:=by rintro _ _ _ cs x rfl _;rfl
class NestAt (α β:Type) [Rp α] [Rp β] where
  q:Nat
  get:α→List β
  put:α→List β→α
  get_put:∀ x y,get (put x y)=y
  put_put:∀ x y z,put (put x y) z=put x z
  split:∀ {w F cs x},Rp.R w F cs x→Rp.R w F (cs.set q (.slice none 0 0)) (put x [])∧∃ v,cs[q]?=some v∧Vb w F v (get x)
  join:∀ {w F cs x v},Rp.R w F (cs.set q (.slice none 0 0)) (put x [])→cs[q]?=some v→Vb w F v (get x)→Rp.R w F cs x
def Nest {α β:Type} [Rp α] [Rp β] [N:NestAt α β] {a:Bool} {n:Nat} (j:Nat) (w:World) (O:Lab) (e:TypeId) (rs:List (Raw a n)) (xs:List α) (skip:Option Nat):Prop :=
  (∃ L:Lab,rs.length=xs.length∧∀ (k:Nat) (r:Raw a n) (x:α),rs[k]?=some r→xs[k]?=some x →
    Rp.R w (Fr 0 w O) (r.cs.set N.q (.slice none 0 0)) (N.put x [])∧(skip≠some k→∃ v,r.cs[N.q]?=some v∧RwM w (Fr 0 w O) (fun b=>Fr j w O b∧L b=k) e v (N.get x)))∧j≠0
section
variable {α β : Type} [Rp α] [Rp β] [N : NestAt α β] {a : Bool} {n i j l : Nat} {T : Nat → Prop} {w w' : World} {O O' : Lab} {e : TypeId} {rs : List (Raw a n)} {xs : List α} {skip : Option Nat}
theorem Nest.st (h:Nest (β:=β) j w O e rs xs skip) (hS:St T w O w' O') (h0:¬ T 0:=by decide) (hj:¬ T j:=by decide):Nest (β:=β) j w' O' e rs xs skip:=by
  obtain ⟨⟨L,hl,hr⟩,h1⟩:=h
  refine ⟨⟨L,hl,fun k r x g1 g2=>⟨Rp.mono (Rp.agree (hr k r x g1 g2).1 (hS.agree h0)) (hS.fr h0),fun g3=>?_⟩⟩,h1⟩
  obtain ⟨v,hv,hm⟩:=(hr k r x g1 g2).2 g3
  exact ⟨v,hv,(hm.agree (hS.agree h0) fun b hb=>hS.agree hj b hb.1).mono (hS.fr h0) (fun b hb=>⟨hS.fr hj b hb.1,hb.2⟩) fun b hf hm=>frNe0 h1 b hf hm.1⟩
theorem Nest.take (h:Nest (β:=β) j w O e rs xs none) {k:Nat} {r:Raw a n} {x:α} (hr:rs[k]?=some r) (hx:xs[k]?=some x) (l:Nat) (hl:l≠0) (hlj:l≠j) :
    ∃ O' v,St (eT j) w O w O'∧r.cs[N.q]?=some v∧Nest (β:=β) j w O' e rs xs (some k)∧Rw l w O' e v (N.get x):=by
  obtain ⟨⟨L,hlen,hra⟩,hj⟩:=h
  obtain ⟨v,hv,hm⟩:=(hra k r x hr hx).2 (by simp)
  have hF:∀ b,Fr 0 w O b→Fr 0 w (fun b=>if O b=j∧L b=k then l else O b) b:=fun b hb=>⟨hb.1,by show (if _ then _ else _)=_;rw [if_neg (by rw [hb.2];exact fun h=>hj h.1.symm)];exact hb.2⟩
  refine ⟨fun b=>if O b=j∧L b=k then l else O b,v,⟨rfl,rfl,rfl,Nat.le_refl _,fun b _ hb=>⟨rfl,if_neg fun h=>hb h.1⟩⟩,hv,⟨⟨L,hlen,fun k' r' x' g1 g2=>⟨Rp.mono (hra k' r' x' g1 g2).1 hF,fun g3=>?_⟩⟩,hj⟩,hm.rw hF (fun b hb=>⟨hb.1.1,if_pos ⟨hb.1.2,hb.2⟩⟩) hl⟩
  obtain ⟨v',hv',hm'⟩:=(hra k' r' x' g1 g2).2 (by simp)
  refine ⟨v',hv',hm'.mono hF (fun b hb=>?_) fun b hf hm=>frNe0 hj b hf hm.1⟩
  have hne:¬ (O b=j∧L b=k):=fun h=>g3 (by rw [← h.2,hb.2])
  exact ⟨⟨hb.1.1,by show (if _ then _ else _)=_;rw [if_neg hne];exact hb.1.2⟩,hb.2⟩
theorem Nest.put {k:Nat} (h:Nest (β:=β) j w O e rs xs (some k)) {r r':Raw a n} {x:α} {v:Value} {ys:List β} (hr:rs[k]?=some r) (hx:xs[k]?=some x) (hr':r'.cs=r.cs.set N.q v) (hq:N.q < n) (hw:Rw l w O e v ys) (hlj:l≠j) :
    ∃ O',St (eT l) w O w O'∧Nest (β:=β) j w O' e (rs.set k r') (xs.set k (N.put x ys)) none:=by
  obtain ⟨⟨L,hlen,hra⟩,hj⟩:=h
  have hl0:l≠0:=hw.2.2
  have hF:∀ b,Fr 0 w O b→Fr 0 w (fun b=>if O b=l then j else O b) b:=fun b hb=>⟨hb.1,by show (if _ then _ else _)=_;rw [if_neg (by rw [hb.2];exact Ne.symm hl0)];exact hb.2⟩
  refine ⟨fun b=>if O b=l then j else O b,⟨rfl,rfl,rfl,Nat.le_refl _,fun b _ hb=>⟨rfl,if_neg hb⟩⟩,⟨fun b=>if O b=l then k else L b,by simp [hlen],fun k' r2 x2 g1 g2=>?_⟩,hj⟩
  by_cases hk:k'=k
  · subst hk
    rw [List.getElem?_set_self (AC hr)] at g1
    rw [List.getElem?_set_self (AC hx)] at g2
    have e1:r'=r2:=by simpa using g1
    have e2:N.put x ys=x2:=by simpa using g2
    subst e1 e2
    refine ⟨?_,fun _=>⟨v,?_,?_⟩⟩
    · rw [hr',List.set_set,N.put_put];exact Rp.mono (hra k' r x hr hx).1 hF
    · rw [hr',List.getElem?_set_self (by rw [r.len];exact hq)]
    · rw [N.get_put]
      have h1:RwM w (Fr 0 w O) (Fr l w O) e v ys:=hw.m (fun _ h=>h) (fun _ h=>h) (frNe0 hl0)
      exact h1.mono hF (fun b hb=>⟨⟨hb.1,if_pos hb.2⟩,if_pos hb.2⟩) fun b hf hm=>frNe0 hj b hf hm.1
  · rw [List.getElem?_set_ne (Ne.symm hk)] at g1 g2
    refine ⟨Rp.mono (hra k' r2 x2 g1 g2).1 hF,fun _=>?_⟩
    obtain ⟨v',hv',hm⟩:=(hra k' r2 x2 g1 g2).2 (fun h=>hk (Option.some.inj h).symm)
    refine ⟨v',hv',hm.mono hF (fun b hb=>?_) fun b hf hm=>frNe0 hj b hf hm.1⟩
    have hb':O b≠l:=by rw [hb.1.2];exact Ne.symm hlj
    exact ⟨⟨hb.1.1,by show (if _ then _ else _)=_;rw [if_neg hb'];exact hb.1.2⟩,by show (if _ then _ else _)=_;rw [if_neg hb'];exact hb.2⟩
theorem Chunks.conv {γ δ:Type} [Rp γ] [Rp δ] {F G:Nat→Prop}:∀ {rs:List γ} {xs:List δ} {cells:List Value},rs.length=xs.length→(∀ (k:Nat) r x cs,rs[k]?=some r→xs[k]?=some x→Rp.R w F cs r→Rp.R w G cs x)→Chunks w F cells rs→Chunks w G cells xs
  | [],[],_,_,_,h=>h
  | [],_ :: _,_,hl,_,_=>by simp at hl
  | _ :: _,[],_,hl,_,_=>by simp at hl
  | r :: rs,x :: xs,_,hl,hc,⟨cs,rest,he,hr,h⟩ =>
    ⟨cs,rest,he,hc 0 r x cs rfl rfl hr,Chunks.conv (by simpa using hl) (fun k r x cs g1 g2=>hc (k + 1) r x cs (by simpa using g1) (by simpa using g2)) h⟩
theorem Nest.lend {e':TypeId} {v:Value} (hR:Rw i w O e' v rs) (h:Nest (β:=β) j w O e rs xs none):Vb w (FrS [i,j] w O) v xs:=by
  obtain ⟨⟨L,hl,hra⟩,hj⟩:=h
  obtain ⟨A,c,cells,h1,h2,h3,h4,h5⟩:=hR.1.vb.slice
  refine .of_slice ⟨A,c,cells,by rw [h1,hl],by omega,h3,?_,fun hp=>?_⟩
  · refine h4.conv hl fun k r x cs g1 g2 g3=>?_
    have g3':cs=r.cs:=g3
    subst g3'
    obtain ⟨q1,q2⟩:=hra k r x g1 g2
    obtain ⟨v',hv',hm⟩:=q2 (by simp)
    refine N.join (Rp.mono q1 fun b hb=>⟨hb.1,.inl hb.2⟩) hv' (hm.1.vb.mono fun b hb=>?_)
    rcases hb with hb|hb
    · exact ⟨hb.1,.inl hb.2⟩
    · have:=(hm.2 b hb).1;exact ⟨this.1,.inr (by rw [this.2];simp)⟩
  · obtain ⟨b,o,h6,h7,h8⟩:=h5 (by omega)
    refine ⟨b,o,h6,?_,h8⟩
    rcases h7 with h7|h7
    · exact ⟨h7.1,.inl h7.2⟩
    · exact ⟨(hR.1.lt b h7).2,.inr (by rw [hR.2.1 b h7];simp)⟩
end
instance {β:Type} [Rp β]:NestAt (List β) β where
  q:=0
  get x:=x
  put _ y:=y
  get_put _ _:=rfl
  put_put _ _ _:=rfl
  split:=by
    intro w F cs x h
    have hl:=Rp.len h
    match cs,hl,h with
    | [v],_,h=>exact ⟨(Vb.nil w F).cells1,v,rfl,by unfold Vb;exact h⟩
  join:=by
    intro w F cs x v h hv hx
    have hl:=Rp.len h
    rw [List.length_set] at hl
    match cs,hl,hv with
    | [u],_,hv =>
      obtain rfl:u=v:=by simpa using hv
      exact hx.cells1
def NR {α:Type} (β:Type) [Rp α] [Rp β] [N:NestAt α β] (i:Nat) (w:World) (O:Lab) (e' e:TypeId) (v:Value) (xs:List α) (skip:Option Nat):Prop :=
  ∃ (rs:List (Raw (Rp.isAgg α) (Rp.size α))) (L:Lab),Own w 0 (Fr 0 w O) e' v rs∧(∀ g,v.ownBlock=some g→O g=i∧L g=0)∧i≠0∧rs.length=xs.length ∧
    ∀ (k:Nat) (r:Raw (Rp.isAgg α) (Rp.size α)) (x:α),rs[k]?=some r→xs[k]?=some x →
      Rp.R w (Fr 0 w O) (r.cs.set N.q (.slice none 0 0)) (N.put x [])∧(skip≠some k→∃ u,r.cs[N.q]?=some u∧RwM w (Fr 0 w O) (fun b=>Fr i w O b∧L b=k + 1) e u (N.get x))
theorem labBound (O:Lab):∀ n:Nat,∃ b,∀ k,k < n→O k≤b
  | 0=>⟨0,fun k h=>by omega⟩
  | n + 1=>by
    obtain ⟨b,hb⟩:=labBound O n
    refine ⟨max b (O n),fun k hk=>?_⟩
    rcases Nat.lt_or_ge k n with h|h
    · have:=hb k h;omega
    · have:k=n:=by omega
      subst this;omega
theorem labFresh (O:Lab) (n a b:Nat):∃ j,j≠0∧j≠a∧j≠b∧∀ k,k < n→O k≠j:=by
  obtain ⟨c,hc⟩:=labBound O n
  exact ⟨c + a + b + 1,by omega,by omega,by omega,fun k hk=>by have:=hc k hk;omega⟩
theorem St.via {T T1 T2 T3:Nat→Prop} {w w':World} {O O1 O2 O3:Lab} {j:Nat} (h1:St T1 w O w O1) (h2:St T2 w O1 w' O2) (h3:St T3 w' O2 w' O3) (hj:∀ k,k < w.heap.size→O k≠j) (a1:∀ q,T1 q→T q) (a2:∀ q,T2 q→T q∨q=j) (a3:∀ q,T3 q→T q∨q=j):St T w O w' O3 :=
  ⟨(h3.os.trans h2.os).trans h1.os,(h3.tape.trans h2.tape).trans h1.tape,(h3.output.trans h2.output).trans h1.output,Nat.le_trans h2.size h3.size,fun k hk hT=>by
    obtain ⟨e1,e2⟩:=h1.same k hk fun h=>hT (a1 _ h)
    obtain ⟨e3,e4⟩:=h2.same k hk (by rw [e2];exact fun h=>(a2 _ h).elim hT (hj k hk))
    obtain ⟨e5,e6⟩:=h3.same k (Nat.lt_of_lt_of_le hk h2.size) (by rw [e4,e2];exact fun h=>(a3 _ h).elim hT (hj k hk))
    exact ⟨(e5.trans e3).trans e1,(e6.trans e4).trans e2⟩⟩
section
variable {α β : Type} [Rp α] [Rp β] [N : NestAt α β] {i j l : Nat} {T : Nat → Prop} {w w' : World} {O O' : Lab} {e' e : TypeId} {v : Value} {xs : List α} {skip : Option Nat}
theorem NR.opn (h:NR β i w O e' e v xs skip) (j:Nat) (hj:j≠0) (hji:j≠i):∃ (rs:List (Raw (Rp.isAgg α) (Rp.size α))) (O1:Lab),St (eT i) w O w O1∧Rw i w O1 e' v rs∧Nest (β:=β) j w O1 e rs xs skip:=by
  obtain ⟨rs,L,h1,h2,h3,h4,h5⟩:=h
  have hF:∀ b,Fr 0 w O b→Fr 0 w (fun b=>if O b=i∧L b≠0 then j else O b) b:=fun b hb=>⟨hb.1,by show (if _ then _ else _)=_;rw [if_neg (by rw [hb.2];exact fun h=>h3 h.1.symm)];exact hb.2⟩
  refine ⟨rs,fun b=>if O b=i∧L b≠0 then j else O b,⟨rfl,rfl,rfl,Nat.le_refl _,fun b _ hb=>⟨rfl,if_neg fun h=>hb h.1⟩⟩,⟨h1.mono hF fun g hg hf=>?_,fun g hg=>?_,h3⟩,⟨fun b=>L b - 1,h4,fun k r x g1 g2=>⟨Rp.mono (h5 k r x g1 g2).1 hF,fun g3=>?_⟩⟩,hj⟩
  · have h8:(if O g=i∧L g≠0 then j else O g)=0:=hf.2
    rw [if_neg (fun h=>h.2 (h2 g hg).2),(h2 g hg).1] at h8
    exact h3 h8
  · show (if O g=i∧L g≠0 then j else O g)=i
    rw [if_neg (fun h=>h.2 (h2 g hg).2)];exact (h2 g hg).1
  · obtain ⟨u,hu,hm⟩:=(h5 k r x g1 g2).2 g3
    refine ⟨u,hu,hm.mono hF (fun b hb=>⟨⟨hb.1.1,?_⟩,?_⟩) fun b hf hm=>frNe0 hj b hf hm.1⟩
    · show (if O b=i∧L b≠0 then j else O b)=j
      rw [if_pos ⟨hb.1.2,by have:=hb.2;omega⟩]
    · show L b - 1=k
      have:=hb.2;omega
theorem NR.shut {rs:List (Raw (Rp.isAgg α) (Rp.size α))} (hR:Rw i w O e' v rs) (hN:Nest (β:=β) j w O e rs xs skip) (hji:j≠i):∃ O1,St (eT j) w O w O1∧NR β i w O1 e' e v xs skip:=by
  obtain ⟨⟨L,h4,h5⟩,hj⟩:=hN
  obtain ⟨h1,h2,h3⟩:=hR
  have hF:∀ b,Fr 0 w O b→Fr 0 w (fun b=>if O b=j then i else O b) b:=fun b hb=>⟨hb.1,by show (if _ then _ else _)=_;rw [if_neg (by rw [hb.2];exact Ne.symm hj)];exact hb.2⟩
  have hi:∀ g,v.ownBlock=some g→(if O g=j then i else O g)=i:=fun g hg=>by
    split
    · rfl
    · exact h2 g hg
  refine ⟨fun b=>if O b=j then i else O b,⟨rfl,rfl,rfl,Nat.le_refl _,fun b _ hb=>⟨rfl,if_neg hb⟩⟩,rs,fun b=>if O b=j then L b + 1 else 0,h1.mono hF fun g hg hf=>h3 (((hi g hg).symm.trans hf.2)),fun g hg=>⟨hi g hg,?_⟩,h3,h4,fun k r x g1 g2=>⟨Rp.mono (h5 k r x g1 g2).1 hF,fun g3=>?_⟩⟩
  · show (if O g=j then L g + 1 else 0)=0
    rw [if_neg (by rw [h2 g hg];exact Ne.symm hji)]
  · obtain ⟨u,hu,hm⟩:=(h5 k r x g1 g2).2 g3
    refine ⟨u,hu,hm.mono hF (fun b hb=>⟨⟨hb.1.1,if_pos hb.1.2⟩,?_⟩) fun b hf hm=>frNe0 h3 b hf hm.1⟩
    show (if O b=j then L b + 1 else 0)=k + 1
    rw [if_pos hb.1.2,hb.2]
theorem NR.st (h:NR β i w O e' e v xs skip) (hS:St T w O w' O') (h0:¬ T 0:=by decide) (hi:¬ T i:=by decide):NR β i w' O' e' e v xs skip:=by
  obtain ⟨rs,L,h1,h2,h3,h4,h5⟩:=h
  have hR:Rw i w' O' e' v rs:=Rw.st (O:=O) ⟨h1,fun g hg=>(h2 g hg).1,h3⟩ hS h0 hi
  refine ⟨rs,L,hR.1,fun g hg=>⟨hR.2.1 g hg,(h2 g hg).2⟩,h3,h4,fun k r x g1 g2=>⟨Rp.mono (Rp.agree (h5 k r x g1 g2).1 (hS.agree h0)) (hS.fr h0),fun g3=>?_⟩⟩
  obtain ⟨u,hu,hm⟩:=(h5 k r x g1 g2).2 g3
  exact ⟨u,hu,(hm.agree (hS.agree h0) fun b hb=>hS.agree hi b hb.1).mono (hS.fr h0) (fun b hb=>⟨hS.fr hi b hb.1,hb.2⟩) fun b hf hm=>frNe0 h3 b hf hm.1⟩
theorem NR.lend (h:NR β i w O e' e v xs none):Vb w (FrS [i] w O) v xs:=by
  obtain ⟨j,hj,hji,_,hf⟩:=labFresh O w.heap.size i 0
  obtain ⟨rs,O1,hS,hR,hN⟩:=h.opn j hj hji
  refine (Nest.lend hR hN).mono fun k hk=>⟨hk.1,?_⟩
  by_cases hi:O k=i
  · exact .inr (by rw [hi];simp)
  · have:=(hS.same k hk.1 hi).2
    rcases hk.2 with h0|h0
    · exact .inl (this.symm.trans h0)
    · rw [this] at h0
      rcases List.mem_cons.1 h0 with h0|h0
      · exact (hi h0).elim
      · exact (hf k hk.1 (by simpa using h0)).elim
theorem NR.freeze (h:NR β i w O e' e v xs none):∃ O',St (eT i) w O w O'∧Vb w (Fr 0 w O') v xs:=by
  refine ⟨fun k=>if O k=i then 0 else O k,⟨rfl,rfl,rfl,Nat.le_refl _,fun k _ hk=>⟨rfl,if_neg hk⟩⟩,h.lend.mono fun k hk=>⟨hk.1,?_⟩⟩
  show (if _ then _ else _)=_
  rcases hk.2 with h0|h0
  · split
    · rfl
    · exact h0
  · rw [if_pos (by simpa using h0)]
theorem NR.at {A:Option Addr} {m c:Nat} (h:NR β i w O e' e (.slice A m c) xs skip) {k:Nat} {x:α} (hx:xs[k]?=some x):∃ b o,A=some ⟨b,o,none⟩∧k < m:=by
  obtain ⟨rs,L,h1,h2,h3,h4,h5⟩:=h
  have hk:k < rs.length:=by rw [h4];exact AC hx
  obtain ⟨b,o,cs,h6,h7,_⟩:=Rw.elem (i:=i) (O:=O) ⟨h1,fun g hg=>(h2 g hg).1,h3⟩ (List.getElem?_eq_getElem hk)
  exact ⟨b,o,h6,h7⟩
theorem NR.peek {A:Option Addr} {m c b o:Nat} (h:NR β i w O e' e (.slice A m c) xs none) (hA:A=some ⟨b,o,none⟩) {k:Nat} {x:α} (hx:xs[k]?=some x) :
    ∃ (A':Option Addr) (c':Nat),w.cell? ⟨b,o + k * Rp.size α + N.q,none⟩=some (.slice A' (N.get x).length c')∧Vb w (FrS [i] w O) (.slice A' (N.get x).length c') (N.get x):=by
  obtain ⟨rs,L,h1,h2,h3,h4,h5⟩:=h
  have hk:k < rs.length:=by rw [h4];exact AC hx
  have hr:rs[k]?=some rs[k]:=List.getElem?_eq_getElem hk
  obtain ⟨b',o',cs,h6,h7,h8,h9⟩:=Rw.elem (i:=i) (O:=O) ⟨h1,fun g hg=>(h2 g hg).1,h3⟩ hr
  obtain ⟨rfl,rfl⟩:b=b'∧o=o':=by rw [hA] at h6;injection h6 with h6;injection h6 with h6 h7;exact ⟨h6,h7⟩
  have h9':cs=rs[k].cs:=h9
  subst h9'
  obtain ⟨u,hu,hm⟩:=(h5 k rs[k] x hr hx).2 (by simp)
  obtain ⟨A',c',_,rfl,_⟩:=hm.1.chunk
  refine ⟨A',c',Ez h8 _ _ hu,hm.1.vb.mono fun g hg=>?_⟩
  rcases hg with hg|hg
  · exact ⟨hg.1,.inl hg.2⟩
  · have:=(hm.2 g hg).1;exact ⟨this.1,.inr (by rw [this.2];simp)⟩
theorem NR.stay {A:Option Addr} {m c b o p:Nat} {u:Value} (h:NR β i w O e' e (.slice A m c) xs skip) (hA:A=some ⟨b,o,none⟩) (hS:St T w O w' O') (hi:¬ T i) (hc:w.cell? ⟨b,p,none⟩=some u):w'.cell? ⟨b,p,none⟩=some u:=by
  obtain ⟨rs,L,h1,h2,h3,h4,h5⟩:=h
  subst hA
  have:=hS.same b (h1.lt b rfl).2 (by rw [(h2 b rfl).1];exact hi)
  rw [← hc]
  unfold World.cell?
  rw [this.1]
theorem NR.take {A:Option Addr} {m c b o:Nat} (h:NR β i w O e' e (.slice A m c) xs none) (hA:A=some ⟨b,o,none⟩) {k:Nat} {x:α} (hx:xs[k]?=some x) (l:Nat) (hl:l≠0) (hli:l≠i) :
    ∃ (O':Lab) (A':Option Addr) (c':Nat),St (eT i) w O w O'∧w.cell? ⟨b,o + k * Rp.size α + N.q,none⟩=some (.slice A' (N.get x).length c')∧NR β i w O' e' e (.slice A m c) xs (some k)∧Rw l w O' e (.slice A' (N.get x).length c') (N.get x):=by
  obtain ⟨j,hj,hji,hjl,hf⟩:=labFresh O w.heap.size i l
  obtain ⟨rs,O1,hS,hR,hN⟩:=h.opn j hj hji
  have hlen:rs.length=xs.length:=by obtain ⟨⟨_,h,_⟩,_⟩:=hN;exact h
  have hk:k < rs.length:=by rw [hlen];exact AC hx
  have hr:rs[k]?=some rs[k]:=List.getElem?_eq_getElem hk
  obtain ⟨O2,u,hS2,hu,hN2,hw⟩:=hN.take hr hx l hl (Ne.symm hjl)
  obtain ⟨A',c',rfl⟩:=hw.form
  have hR2:=hR.st hS2 (fun h=>hj h.symm) (Ne.symm hji)
  obtain ⟨O3,hS3,h3⟩:=NR.shut hR2 hN2 hji
  obtain ⟨b',o',cs,h1,h2,h4,h5⟩:=hR.elem hr
  obtain ⟨rfl,rfl⟩:b=b'∧o=o':=by rw [hA] at h1;injection h1 with h1;injection h1 with h1 h2;exact ⟨h1,h2⟩
  have h5':cs=rs[k].cs:=h5
  subst h5'
  exact ⟨O3,A',c',St.via (j:=j) hS hS2 hS3 hf (fun _ h=>h) (fun _ h=>.inr h) (fun _ h=>.inr h),Ez h4 _ _ hu,h3,hw.st hS3 (fun h=>hj h.symm) (Ne.symm hjl)⟩
theorem NR.take' {A A':Option Addr} {m c b o n' c':Nat} (h:NR β i w O e' e (.slice A m c) xs none) (hA:A=some ⟨b,o,none⟩) {k:Nat} {x:α} (hx:xs[k]?=some x) (hc:w.cell? ⟨b,o + k * Rp.size α + N.q,none⟩=some (.slice A' n' c')) (l:Nat) (hl:l≠0) (hli:l≠i) :
    ∃ (O':Lab),St (eT i) w O w O'∧NR β i w O' e' e (.slice A m c) xs (some k)∧Rw l w O' e (.slice A' n' c') (N.get x):=by
  obtain ⟨O',A2,c2,h1,h2,h3,h4⟩:=h.take hA hx l hl hli
  rw [hc] at h2
  injection h2 with h2
  injection h2 with e1 e2 e3
  subst e1;subst e2;subst e3
  exact ⟨O',h1,h3,h4⟩
end
section
variable {P : Program} {n : Nat} {ops : Array Oper} {Q : Post} {rest : List Oper} {l : Env} {w : World} {d d1 d2 : Tmp} {ty ty2 : TypeId} {pos pos2 : String} {aft aft2 : Array Edge}
theorem IR {β:Type} [Rp β] (i:Nat) (hi:i≠0) (O:Lab) {t e' e:TypeId} [TSlice P t e'] {z:Value} {size bytes:Nat} [TInfo P e' z size bytes] {x y:Operand} {k k':IntKind} {m:Nat} {a:Int} (hsize:size=1) (hz:z=.slice none 0 0) (hx:opv l x=some (.int k a)) (hy:opv l y=some (.int k' a)) (ha:a=(m:Int))
    (hm:bytes * m≤281474976710656) (h63:m≤9223372036854775807) (hd:Nat.blt d n=true)
    (h:∀ g w' O',St nT w O w' O'→NR β i w' O' e' e (.slice (some ⟨g,0,none⟩) (List.replicate m ([]:List β)).length m) (List.replicate m ([]:List β)) none→owp P n ops Q rest ((d,.slice (some ⟨g,0,none⟩) (List.replicate m ([]:List β)).length m) :: l) w'):owp P n ops Q (⟨some d,.makeSlice t x y,ty,pos,aft,none⟩ :: rest) l w:=by
  subst hz
  obtain ⟨q,hq0,hqi,_,hf⟩:=labFresh O w.heap.size i 0
  let z0:Raw false 1:=⟨[.slice none 0 0],rfl,fun u hu=>by simp at hu;subst hu;rfl⟩
  have hz0:Vb w (Fr 0 w O) (.slice none 0 0) z0:=show Rp.R w (Fr 0 w O) [Value.slice none 0 0] z0 from rfl
  refine Gx (α:=Raw false 1) i hi O (z0:=z0) hsize rfl rfl hx hy ha hz0 hm h63 hd fun g w' O' hS hR=>?_
  have hN:Nest (α:=List β) (β:=β) q w' O' e (List.replicate m z0) (List.replicate m ([]:List β)) none:=by
    refine ⟨⟨fun _=>0,by simp,fun j r x g1 g2=>?_⟩,hq0⟩
    obtain rfl:r=z0:=List.eq_of_mem_replicate (List.mem_of_getElem? g1)
    obtain rfl:x=[]:=List.eq_of_mem_replicate (List.mem_of_getElem? g2)
    refine ⟨(Vb.nil w' _).cells1,fun _=>⟨.slice none 0 0,rfl,Own.nil _ _ _ _,fun g hg=>by simp [Value.ownBlock] at hg⟩⟩
  obtain ⟨O2,hS2,h2⟩:=NR.shut (α:=List β) hR hN hqi
  have hle:(List.replicate m z0).length=(List.replicate m ([]:List β)).length:=by simp
  rw [hle] at h2 ⊢
  refine h g w' O2 ⟨hS2.os.trans hS.os,hS2.tape.trans hS.tape,hS2.output.trans hS.output,Nat.le_trans hS.size hS2.size,fun j hj hT=>?_⟩ h2
  obtain ⟨f1,e1⟩:=hS.same j hj hT
  obtain ⟨f2,e2⟩:=hS2.same j (Nat.lt_of_lt_of_le hj hS.size) (by rw [e1];exact hf j hj)
  exact ⟨f2.trans f1,e2.trans e1⟩
theorem Ns {α β:Type} [Rp α] [Rp β] [N:NestAt α β] {i j:Nat} {O:Lab} {t e' e:TypeId} {z:Value} {size bytes:Nat} [TInfo P t z size bytes] {x y:Operand} {b o k off m c:Nat} {A A':Option Addr} {m' c':Nat} {a:α} {ys:List β} {xs:List α} (hR:NR β i w O e' e (.slice A m c) xs (some k)) (hw:Rw j w O e (.slice A' m' c') ys) (hji:j≠i) (hA:A=some ⟨b,o,none⟩) (hk:xs[k]?=some a)
    (hx:opv l x=some (.pointer (some ⟨b,o + k * Rp.size α + off,none⟩))) (hy:opv l y=some (.slice A' m' c')) (hoff:off=N.q) (hsz:size=1) (hqn:N.q < Rp.size α)
    (h:∀ w' O',St (fun q=>q=i∨q=j) w O w' O'→NR β i w' O' e' e (.slice A m c) (xs.set k (N.put a ys)) none→owp P n ops Q rest l w'):owp P n ops Q (⟨none,.store t x y,ty,pos,aft,none⟩ :: rest) l w:=by
  subst hoff hsz
  obtain ⟨q,hq0,hqi,hqj,hf⟩:=labFresh O w.heap.size i j
  have hj0:j≠0:=hw.2.2
  have hi0:i≠0:=by obtain ⟨_,_,_,_,h,_⟩:=hR;exact h
  obtain ⟨rs,O1,hS,hRw,hN⟩:=hR.opn q hq0 hqi
  have hlen:rs.length=xs.length:=by obtain ⟨⟨_,h,_⟩,_⟩:=hN;exact h
  have hkr:k < rs.length:=by rw [hlen];exact AC hk
  have hr:rs[k]?=some rs[k]:=List.getElem?_eq_getElem hkr
  have hw1:=hw.st hS (fun h=>hi0 h.symm) hji
  let r':Raw (Rp.isAgg α) (Rp.size α):=⟨rs[k].cs.set N.q (.slice A' m' c'),by rw [List.length_set];exact rs[k].len,fun u hu=>by
    rcases List.mem_or_eq_of_mem_set hu with h|h
    · exact rs[k].one u h
    · subst h;rfl⟩
  obtain ⟨O2,hS2,hN2⟩:=hN.put (r':=r') hr hk rfl hqn hw1 (Ne.symm hqj)
  have hR2:=hRw.st hS2 (fun h=>hj0 h.symm) (Ne.symm hji)
  refine Nf (a:=rs[k]) (a':=r') hR2 hA hr hx hy rfl (by show N.q + 1≤Rp.size α;omega) (fun v hv=>by simp [Value.cells] at hv;subst hv;rfl) (fun ce hc=>?_) fun w' hS3 hR3=>?_
  · have hc':ce=rs[k].cs:=hc
    subst hc';rfl
  have hN3:=hN2.st hS3 (fun h=>hi0 h.symm) hqi
  obtain ⟨O4,hS4,h4⟩:=NR.shut hR3 hN3 hqi
  refine h w' O4 ?_ h4
  have hS12:St (fun p=>p=i∨p=j) w O w O2:=⟨rfl,rfl,rfl,Nat.le_refl _,fun k hk hT=>by
    obtain ⟨_,e2⟩:=hS.same k hk fun h=>hT (.inl h)
    obtain ⟨_,e4⟩:=hS2.same k hk (by rw [e2];exact fun h=>hT (.inr h))
    exact ⟨rfl,e4.trans e2⟩⟩
  exact St.via (j:=q) hS12 hS3 hS4 hf (fun _ h=>h) (fun _ h=>.inl (.inl h)) (fun _ h=>.inr h)
end
end
end Go.Proofs.YtkbmbcblgdgjlaaGreat

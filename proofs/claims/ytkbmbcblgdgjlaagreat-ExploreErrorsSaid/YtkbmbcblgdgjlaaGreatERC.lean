/- Own text: what the proof of exploreErrors_holds uses, part 3: rules, models and their proofs, plain laws. -/
import Derived.Test.YtkbmbcblgdgjlaaGreatERB
set_option linter.unusedVariables false
set_option linter.unusedSimpArgs false
namespace Go.Proofs.YtkbmbcblgdgjlaaGreat
open Go Go.RowKit
section
open Go Go.RowKit
def wpAnyX (P:Program) (ops:Array Oper) (Q:Exit→Act→World→Prop) (S:Array Bool→World→Prop):Nat→Array Bool→Act→World→Prop
  | 0,listed,a,w=>Region.ready .any ops listed=[]∧Q .normal a w
  | fuel + 1,listed,a,w =>
    (Region.ready .any ops listed=[]→Q .normal a w) ∧
    ∀ i∈Region.ready .any ops listed,wpOp P ops Q i (fun a' w'=>(isLast ops i=false→S (listed.setIfInBounds i true) w')∧wpAnyX P ops Q S fuel (listed.setIfInBounds i true) a' w') a w
theorem Ks {P:Program} {ops:Array Oper} {Q:Exit→Act→World→Prop} {S:Array Bool→World→Prop}:∀ (fuel:Nat) (listed:Array Bool) (a:Act) (w:World),wpAnyX P ops Q S fuel listed a w→wpAny P .any ops Q fuel listed a w
  | 0,_,_,_,h=>h
  | fuel + 1,_,_,_,h=>⟨h.1,fun i hi=>wpOp_mono (fun a' w' h'=>Ks fuel _ a' w' h'.2) (h.2 i hi)⟩
theorem Mc {P:Program} {ops:Array Oper} {Q:Exit→Act→World→Prop} {S:Array Bool→World→Prop} {Si:World→Prop} {i:Nat} {oi:Oper} {v:Value} (hi:ops[i]?=some oi) (hsel:∀ (j:Nat) (o:Oper) cs b,ops[j]?=some o→o.op≠.select cs b)
    (hQ:∀ c a w,Q (.panic c) (a.put oi.dst v) w→Q (.panic c) a w) (hinv:∀ listed w,S (listed.setIfInBounds i true) w→S listed w) (hinv':∀ listed w,S listed w→S (listed.setIfInBounds i true) w)
    (hSi:∀ listed w,Closed ops listed→i∈Region.ready .any ops listed→S listed w→Si w) :
    ∀ (fuel:Nat) (listed:Array Bool) (a:Act) (w:World),Closed ops listed →
      (∀ j oj,ops[j]?=some oj→j≠i→listed.getD j true=false→(∀ e∈oj.after,Region.binds .any e=true→e.on≠i)→oi.apart ops oj=true) →
      i∈Region.ready .any ops listed→YieldsIf P ops Si oi v a→S listed w →
      wpAnyX P ops Q S fuel (listed.setIfInBounds i true) (a.put oi.dst v) w→wpAnyX P ops Q S (fuel + 1) listed a w:=by
  intro fuel
  induction fuel with
  | zero =>
    intro listed a w hcl _ hr hy hS H
    refine ⟨fun h=>(by rw [h] at hr;cases hr),fun j hj=>?_⟩
    by_cases hji:j=i
    · subst hji;exact hy.wpOp hi (hSi _ _ hcl hr hS) ⟨fun _=>hinv' _ _ hS,H⟩
    · have:=ready_mono hj hji
      rw [H.1] at this
      cases this
  | succ fuel ih =>
    intro listed a w hcl hfree hr hy hS H
    refine ⟨fun h=>(by rw [h] at hr;cases hr),fun j hj=>?_⟩
    by_cases hji:j=i
    · subst hji;exact hy.wpOp hi (hSi _ _ hcl hr hS) ⟨fun _=>hinv' _ _ hS,H⟩
    · have h1:=H.2 j (ready_mono hj hji)
      obtain ⟨hjun,oj,hoj,hall⟩:=mem_ready.1 hj
      have hnot:∀ e∈oj.after,Region.binds .any e=true→e.on≠i:=fun e he hb heq=>by
        have h1:=hall e he hb
        have h0:=(mem_ready.1 hr).1
        rw [heq] at h1
        rcases Nat.lt_or_ge i listed.size with h'|h'
        · simp [h'] at h0 h1;rw [h0] at h1;cases h1
        · simp [Array.getElem?_eq_none h'] at h1
      have hap:=hfree j oj hoj hji hjun hnot
      have hrj:i∈Region.ready .any ops (listed.setIfInBounds j true):=ready_mono hr (Ne.symm hji)
      have hil:i < ops.size:=by
        rcases Nat.lt_or_ge i ops.size with h|h
        · exact h
        · rw [Array.getElem?_eq_none h] at hi;cases hi
      have hnl:isLast ops j=false:=by
        cases hl:isLast ops j with
        | false=>rfl
        | true =>
          exfalso
          have h4:=List.all_eq_true.1 hl i (List.mem_range.2 hil)
          rw [Bool.or_eq_true] at h4
          rcases h4 with h4|h4
          · exact hji (by simpa using h4:i=j).symm
          · have h5:=Ft hcl ops.size j i oj hoj hall h4
            have h6:=(mem_ready.1 hr).1
            rcases Nat.lt_or_ge i listed.size with h'|h'
            · simp [h'] at h5 h6;rw [h6] at h5;cases h5
            · simp [Array.getElem?_eq_none h'] at h5
      have hfree':∀ k ok,ops[k]?=some ok→k≠i→(listed.setIfInBounds j true).getD k true=false →
          (∀ e∈ok.after,Region.binds .any e=true→e.on≠i)→oi.apart ops ok=true:=fun k ok hk hki hun hno=>by
        refine hfree k ok hk hki ?_ hno
        by_cases hjk:j=k
        · subst hjk;exact hjun
        · rw [getD_set_ne true hjk] at hun;exact hun
      have h2:=wpOp_putIf hoj hap (fun cs b=>hsel i oi cs b hi) (fun cs b=>hsel j oj cs b hoj) hQ hy h1
      refine wpOp_mono (fun a' w' h3=>?_) h2
      have hS':S (listed.setIfInBounds j true) w':=hinv _ _ (by
        have:=h3.2.1 hnl
        rwa [Array.setIfInBounds_comm _ _ (Ne.symm hji)] at this)
      refine ⟨fun _=>hS',ih (listed.setIfInBounds j true) a' w' (hcl.set hj) hfree' hrj h3.1 hS' ?_⟩
      rw [Array.setIfInBounds_comm _ _ hji]
      exact h3.2.2
theorem JD {P:Program} {ops:Array Oper} {Q:Exit→Act→World→Prop} {S S':Array Bool→World→Prop} (P0:Array Bool→Prop) (hP:∀ listed i,P0 listed→P0 (listed.setIfInBounds i true)) (hS:∀ listed w,P0 listed→S' listed w→S listed w) :
    ∀ (fuel:Nat) (listed:Array Bool) (a:Act) (w:World),P0 listed→wpAnyX P ops Q S' fuel listed a w→wpAnyX P ops Q S fuel listed a w
  | 0,_,_,_,_,h=>h
  | fuel + 1,listed,_,_,hp,h=>⟨h.1,fun i hi=>wpOp_mono (fun a' w' h'=>⟨fun hl=>hS _ _ (hP _ i hp) (h'.1 hl),JD P0 hP hS fuel _ a' w' (hP _ i hp) h'.2⟩) (h.2 i hi)⟩
def tcs (acts:List (Nat×List Nat)) (listed:Array Bool):List Nat:=(acts.filter fun p=>listed.getD p.1 false).flatMap (·.2)
def tci (ops:Array Oper) (acts:List (Nat×List Nat)) (i:Nat):List Nat:=(acts.filter fun p=>!comesB ops ops.size p.1 i).flatMap (·.2)
def Sx (acts:List (Nat×List Nat)) (w0:World) (O0:Lab) (listed:Array Bool) (w:World):Prop:=∃ d O',St (·∈tcs acts listed) w0 O0 (dr w d) O'
theorem St.mono {T T':Nat→Prop} {w w':World} {O O':Lab} (h:St T w O w' O') (ht:∀ i,T i→T' i):St T' w O w' O' :=
  ⟨h.os,h.tape,h.output,h.size,fun k hk hn=>h.same k hk fun e=>hn (ht _ e)⟩
theorem St.lst {T:Nat→Prop} {w w':World} {O O':Lab} (h:St T w O w' O') (ls:List Nat) (ht:∀ i,T i→i∈ls):St (·∈ls) w O w' O':=h.mono ht
theorem St.cmp {T:Nat→Prop} {ls:List Nat} {w w' w'':World} {O O' O'':Lab} (h:St (·∈ls) w O w' O') (k:St T w' O' w'' O'') (ls':List Nat) (ht:∀ i,T i→i∈ls') (hl:(ls.all (ls'.contains ·))=true):St (·∈ls') w O w'' O'' :=
  St.comp (h.mono fun q hq=>by simpa using List.all_eq_true.1 hl q hq) (k.mono ht) fun _ h=>h
theorem MZ {acts:List (Nat×List Nat)} {i:Nat} (hi:(acts.any (·.1 == i))=false) (listed:Array Bool):tcs acts (listed.setIfInBounds i true)=tcs acts listed:=by
  unfold tcs
  congr 1
  apply List.filter_congr
  intro p hp
  have:p.1≠i:=fun e=>by
    have h2:(acts.any (·.1 == i))=true:=List.any_eq_true.2 ⟨p,hp,by simp [e]⟩
    rw [hi] at h2;cases h2
  exact getD_set_ne false (Ne.symm this)
theorem Qd {ops:Array Oper} {acts:List (Nat×List Nat)} {i:Nat} {listed:Array Bool} (hb:(acts.all fun p=>(ops[p.1]?).isSome)=true) (hcl:Closed ops listed) (hr:i∈Region.ready .any ops listed):∀ q,q∈tcs acts listed→q∈tci ops acts i:=by
  intro q hq
  unfold tcs at hq
  unfold tci
  rw [List.mem_flatMap] at hq ⊢
  obtain ⟨p,hp,hq⟩:=hq
  rw [List.mem_filter] at hp
  refine ⟨p,List.mem_filter.2 ⟨hp.1,?_⟩,hq⟩
  cases hc:comesB ops ops.size p.1 i with
  | false=>rfl
  | true =>
    exfalso
    have hp2:=hp.2
    have hs:=List.all_eq_true.1 hb p hp.1
    obtain ⟨o,ho⟩:=Option.isSome_iff_exists.1 hs
    have h5:=Ft hcl ops.size p.1 i o ho (fun e he hbi=>hcl p.1 o hp2 ho e he hbi) hc
    have h6:=(mem_ready.1 hr).1
    rcases Nat.lt_or_ge i listed.size with h'|h'
    · simp [h'] at h5 h6;rw [h6] at h5;cases h5
    · simp [Array.getElem?_eq_none h'] at h5
def hwx (P:Program) (n:Nat) (ops:Array Oper) (Q:Post) (acts:List (Nat×List Nat)) (w0:World) (O0:Lab) (fuel:Nat) (listed:Array Bool) (l:Env) (w:World):Prop :=
  Closed ops listed→∀ a d,Ok n a l→wpAnyX P ops (lift n Q) (Sx acts w0 O0) fuel listed a (dr w d)
def loudX (P:Program) (n:Nat) (ops:Array Oper) (Q:Post) (acts:List (Nat×List Nat)) (w0:World) (O0:Lab) (i:Nat) (fuel:Nat) (listed:Array Bool):Post
  | .normal,l,w=>(isLast ops i=false→Sx acts w0 O0 (listed.setIfInBounds i true) w)∧hwx P n ops Q acts w0 O0 fuel (listed.setIfInBounds i true) l w
  | _,_,_=>False
abbrev SS (w0:World) (O0:Lab) (ls:List Nat):World→Prop:=fun w'=>∃ O',St (·∈ls) w0 O0 w' O'
theorem Sx.dr {acts:List (Nat×List Nat)} {w0 w:World} {O0:Lab} {listed:Array Bool} (h:Sx acts w0 O0 listed w) (d:Nat):Sx acts w0 O0 listed (dr w d):=by
  obtain ⟨e,O',h⟩:=h
  exact ⟨e,O',h⟩
theorem Kt {P:Program} {ops:Array Oper} {Q Q':Exit→Act→World→Prop} {acts:List (Nat×List Nat)} {w0:World} {O0:Lab} {fuel:Nat} (ls:List Nat) (hs:Region.noSelect ops=true) (hb:(acts.all fun p=>(ops[p.1]?).isSome)=true) (hQ:∀ c a w,¬ Q (.panic c) a w) :
    ∀ (ord:List (Nat×Bool)) (listed:Array Bool) (a:Act) (w:World),Closed ops listed→ordPre ops listed ord=true→(ord.all fun p=>(tci ops acts p.1).all (ls.contains ·) && !acts.any (·.1 == p.1))=true→Sx acts w0 O0 listed w →
      (∀ a w,Closed ops (listAll listed ord)→Q' .normal a w→wpAnyX P ops Q (Sx acts w0 O0) fuel (listAll listed ord) a w)→wpOrd P ops Q' (fun w'=>∃ d',SS w0 O0 ls (dr w' d')) ord a w→wpAnyX P ops Q (Sx acts w0 O0) (ord.length + fuel) listed a w
  | [],listed,a,w,hcl,_,_,_,hk,h=>by rw [List.length_nil,Nat.zero_add];exact hk a w hcl h
  | (i, true) :: r,listed,a,w,hcl,hc,hl,hS,hk,h=>by
    simp only [ordPre,Bool.and_eq_true] at hc
    rw [List.all_cons,Bool.and_eq_true,Bool.and_eq_true] at hl
    obtain ⟨o,v,ho,hy,hr⟩:=h
    have hi:i∈Region.ready .any ops listed:=by simpa using hc.1
    have hna:(acts.any (·.1 == i))=false:=by simpa using hl.1.2
    have e1:∀ listed w,Sx acts w0 O0 (listed.setIfInBounds i true) w→Sx acts w0 O0 listed w:=fun listed w h=>by unfold Sx at *;rwa [MZ hna] at h
    have e2:∀ listed w,Sx acts w0 O0 listed w→Sx acts w0 O0 (listed.setIfInBounds i true) w:=fun listed w h=>by unfold Sx at *;rwa [MZ hna]
    have:=Mc ho (Region.noSelect_spec hs) (fun c a w hq=>(hQ c _ _ hq).elim) e1 e2 (fun listed w hc hr ⟨d,O',hS⟩=>(⟨d,O',hS.mono fun q hq=>by
        have:=List.all_eq_true.1 hl.1.1 q (Qd hb hc hr q hq)
        simpa using this⟩:∃ d',SS w0 O0 ls (Proofs.YtkbmbcblgdgjlaaGreat.dr w d'))) (r.length + fuel) listed a w hcl (Region.free_spec ho hc.2.1) hi hy hS (Kt ls hs hb hQ r _ _ w (hcl.set hi) hc.2.2 hl.2 (e2 _ _ hS) hk hr)
    rwa [List.length_cons,show r.length + 1 + fuel=r.length + fuel + 1 from by omega]
  | (i,false) :: r,listed,a,w,hcl,hc,_,_,_,_=>by simp [ordPre] at hc
section
variable {P : Program} {n : Nat} {ops : Array Oper} {Q : Post} {acts : List (Nat × List Nat)} {w0 : World} {O0 : Lab} {l : Env} {w : World}
theorem QZ {fuel tot:Nat} {listed:Array Bool} (ls:List Nat) (ord:List (Nat×Bool)) (hs:(Region.noSelect ops && (acts.all fun p=>(ops[p.1]?).isSome) && ordPre ops listed ord && (ord.all fun p=>(tci ops acts p.1).all (ls.contains ·) && !acts.any (·.1 == p.1)))=true) (hl:ord.length + fuel=tot)
    (h:hwp P n ops (thn (hwx P n ops Q acts w O0 fuel (listAll listed ord)) fun _ _ _=>False) (SS w O0 ls) ord l w):hwx P n ops Q acts w O0 tot listed l w:=fun hcl a e ha=>by
  subst hl
  simp only [Bool.and_eq_true] at hs
  obtain ⟨⟨⟨h1,h2⟩,h3⟩,h4⟩:=hs
  refine Kt (P:=P) ls h1 h2 (Q:=lift n Q) (fun c a w hq=>hq.1) ord listed a (dr w e) hcl h3 (by simpa using h4) ⟨w.drawn,O0,St.refl _ _ _⟩ ?_ (h a e ha)
  rintro a' w' hcl' ⟨_,l',w₀,d',rfl,ho,hh⟩
  exact hh hcl' a' d' ho
theorem JS {fuel i:Nat} {o:Oper} {listed:Array Bool} (hi:ops[i]?=some o) (hr:i∈Region.ready .any ops listed) (h:owp P n ops (loudX P n ops Q acts w0 O0 i fuel listed) [o] l w) (hcl:Closed ops listed) (a:Act) (e:Nat) (ha:Ok n a l) :
    wpOp P ops (lift n Q) i (fun a' w'=>(isLast ops i=false→Sx acts w0 O0 (listed.setIfInBounds i true) w')∧wpAnyX P ops (lift n Q) (Sx acts w0 O0) fuel (listed.setIfInBounds i true) a' w') a (dr w e):=by
  have h1:=h a e ha
  unfold wpList at h1
  unfold wpOp
  simp only [hi]
  have conv:∀ a' w',lift n (loudX P n ops Q acts w0 O0 i fuel listed) .normal a' w'→(isLast ops i=false→Sx acts w0 O0 (listed.setIfInBounds i true) w')∧wpAnyX P ops (lift n Q) (Sx acts w0 O0) fuel (listed.setIfInBounds i true) a' w':=by
    rintro a' w' ⟨_,l',w₀,d',rfl,ho,hS,hh⟩
    exact ⟨fun hl=>(hS hl).dr d',hh (hcl.set hr) a' d' ho⟩
  have nope:∀ e' a' w',lift n (loudX P n ops Q acts w0 O0 i fuel listed) e' a' w'→e'=.normal:=by
    rintro e' a' w' ⟨hn,l',w₀,d',rfl,ho,hh⟩
    cases e'<;>first|rfl|exact hh.elim
  by_cases hw:Region.wanted o (yielded ops a.tmps)=true
  · rw [if_pos hw] at h1
    rw [if_pos hw]
    rcases h1 with h1|⟨h1,a0,w0,h2⟩
    · refine .inl ?_
      unfold Oper.wp at *
      generalize (execOp a.eval o).run P (dr w e)=res at *
      cases res with
      | ok nx w' =>
        cases nx<;>simp only [Oper.upon] at h1 ⊢ <;>
          first
            | exact conv _ _ h1
            | exact Calls.mono h1 (fun en w'' he=>by
                cases en with
                | returned v=>exact conv _ _ he
                | panicked c=>exact absurd (nope _ _ _ he) (by simp)
                | outgrown=>obtain ⟨a0,w0,hq⟩:=he;exact absurd (nope _ _ _ hq) (by simp))
            | exact Rows.mono h1 (fun _ _ he=>conv _ _ he)
            | exact h1.elim
      | halt x w'=>cases x<;>simp only [Oper.upon] at h1 ⊢<;>first|exact h1.elim|exact absurd (nope _ _ _ h1) (by simp)
    · exact absurd (nope _ _ _ h2) (by simp)
  · rw [if_neg hw] at h1
    rw [if_neg hw]
    exact conv _ _ h1
theorem Bg {fuel i:Nat} {oi:Oper} {listed:Array Bool} (hr:Region.ready .any ops listed=[i]) (hi:ops[i]?=some oi) (h1:owp P n ops (loudX P n ops Q acts w0 O0 i fuel listed) [oi] l w):hwx P n ops Q acts w0 O0 (fuel + 1) listed l w:=fun hcl a e ha=>by
  refine ⟨fun h0=>by rw [hr] at h0;simp at h0,fun k hk=>?_⟩
  have hk':=hk
  rw [hr] at hk
  have:k=i:=by simpa using hk
  subst this
  exact JS hi hk' h1 hcl a e ha
theorem Ku {fuel i j:Nat} {oi oj:Oper} {listed:Array Bool} (hr:Region.ready .any ops listed=[i,j]) (hi:ops[i]?=some oi) (hj:ops[j]?=some oj)
    (h1:owp P n ops (loudX P n ops Q acts w0 O0 i fuel listed) [oi] l w) (h2:owp P n ops (loudX P n ops Q acts w0 O0 j fuel listed) [oj] l w):hwx P n ops Q acts w0 O0 (fuel + 1) listed l w:=fun hcl a e ha=>by
  refine ⟨fun h0=>by rw [hr] at h0;simp at h0,fun k hk=>?_⟩
  have hk':=hk
  rw [hr] at hk
  have:k=i∨k=j:=by simpa using hk
  rcases this with rfl|rfl
  · exact JS hi hk' h1 hcl a e ha
  · exact JS hj hk' h2 hcl a e ha
theorem BE {fuel i:Nat} {listed:Array Bool} {ls:List Nat} {O':Lab} (acts':List (Nat×List Nat)) (hZ:St (·∈ls) w0 O0 w O') (hs:(ls.all ((tcs acts (listed.setIfInBounds i true)).contains ·) && acts'.all (acts.contains ·))=true) (h2:hwx P n ops Q acts' w O' fuel (listed.setIfInBounds i true) l w):owp P n ops (loudX P n ops Q acts w0 O0 i fuel listed) [] l w:=by
  rw [Bool.and_eq_true] at hs
  have hls:∀ q,q∈ls→q∈tcs acts (listed.setIfInBounds i true):=fun q hq=>by simpa using List.all_eq_true.1 hs.1 q hq
  have hac:∀ p,p∈acts'→p∈acts:=fun q hq=>by simpa using List.all_eq_true.1 hs.2 q hq
  refine FZ ⟨fun _=>⟨w.drawn,O',hZ.mono hls⟩,fun hcl a d ha=>?_⟩
  refine JD (fun listed'=>∀ j,(listed.setIfInBounds i true).getD j false=true→listed'.getD j false=true) (fun listed' k h j hj=>getD_set_true (h j hj)) ?_ _ _ _ _ (fun j hj=>hj) (h2 hcl a d ha)
  rintro listed' v hp ⟨e,O'',hS⟩
  refine ⟨e,O'',((hZ.mono fun q hq=>?_).comp (hS.mono fun q hq=>?_) fun _ h=>h:St (·∈tcs acts listed') w0 O0 _ O'')⟩
  · have:=hls q hq
    unfold tcs at this ⊢
    rw [List.mem_flatMap] at this ⊢
    obtain ⟨p,h1,h3⟩:=this
    rw [List.mem_filter] at h1
    exact ⟨p,List.mem_filter.2 ⟨h1.1,hp _ h1.2⟩,h3⟩
  · unfold tcs at hq ⊢
    rw [List.mem_flatMap] at hq ⊢
    obtain ⟨p,h1,h3⟩:=hq
    rw [List.mem_filter] at h1
    exact ⟨p,List.mem_filter.2 ⟨hac _ h1.1,h1.2⟩,h3⟩
theorem Ra {fuel i:Nat} {listed:Array Bool} (hl:isLast ops i=true) (h2:hwx P n ops Q acts w0 O0 fuel (listed.setIfInBounds i true) l w):owp P n ops (loudX P n ops Q acts w0 O0 i fuel listed) [] l w:=FZ ⟨(fun h=>by rw [hl] at h;exact Bool.noConfusion h),h2⟩
theorem Ck {listed:Array Bool} (hr:Region.ready .any ops listed=[]) (h:Q .normal l w):hwx P n ops Q acts w0 O0 0 listed l w:=fun _ _ _ ha=>⟨hr,GN trivial ha h⟩
def maskOf (ms:List Nat) (o:Oper):Nat:=o.after.toList.foldl (fun m e=>if Region.binds .any e=true then m ||| (2 ^ e.on ||| ms.getD e.on 0) else m) 0
def masksFrom:List Oper→List Nat→List Nat
  | [],ms=>ms
  | o :: r,ms=>masksFrom r (ms ++ [maskOf ms o])
def bef (ops:Array Oper) (j k:Nat):Bool:=((masksFrom ops.toList []).getD j 0).testBit k
theorem JE {ops:Array Oper}:∀ (f j k:Nat),comesB ops f j k=true→comesB ops (f + 1) j k=true
  | 0,j,k,h=>by simp [comesB] at h
  | f + 1,j,k,h=>by
    rw [comesB] at h ⊢
    cases hj:ops[j]? with
    | none=>rw [hj] at h;simp at h
    | some o =>
      rw [hj] at h
      simp only [Option.any_some,Array.any_eq_true'] at h ⊢
      obtain ⟨e,he,h⟩:=h
      refine ⟨e,he,?_⟩
      simp only [Bool.and_eq_true,Bool.or_eq_true] at h ⊢
      refine ⟨h.1,h.2.imp id fun h=>JE f e.on k h⟩
theorem Ll {ops:Array Oper} {f g j k:Nat} (h:comesB ops f j k=true) (hl:f≤g):comesB ops g j k=true:=by
  induction hl with
  | refl=>exact h
  | step _ ih=>exact JE _ _ _ ih
theorem Lm {ms:List Nat} {k:Nat}:∀ (l:List Edge) (m:Nat),(l.foldl (fun m e=>if Region.binds .any e=true then m ||| (2 ^ e.on ||| ms.getD e.on 0) else m) m).testBit k=true→m.testBit k=true∨∃ e∈l,Region.binds .any e=true∧(e.on=k∨(ms.getD e.on 0).testBit k=true)
  | [],m,h=>.inl h
  | e :: l,m,h=>by
    rw [List.foldl_cons] at h
    rcases Lm l _ h with h|⟨e',h1,h2⟩
    · by_cases hb:Region.binds .any e=true
      · rw [if_pos hb,Nat.testBit_or,Nat.testBit_or,Nat.testBit_two_pow,Bool.or_eq_true,Bool.or_eq_true] at h
        rcases h with h|h|h
        · exact .inl h
        · exact .inr ⟨e,List.mem_cons_self,hb,.inl (by simpa using h)⟩
        · exact .inr ⟨e,List.mem_cons_self,hb,.inr h⟩
      · rw [if_neg hb] at h;exact .inl h
    · exact .inr ⟨e',List.mem_cons_of_mem _ h1,h2⟩
theorem Md {ops:Array Oper}:∀ (rest pre:List Oper) (ms:List Nat),ops.toList=pre ++ rest→ms.length=pre.length→(∀ a k,(ms.getD a 0).testBit k=true→comesB ops (a + 1) a k=true)→(masksFrom rest ms).length=ops.size∧∀ a k,((masksFrom rest ms).getD a 0).testBit k=true→comesB ops (a + 1) a k=true
  | [],pre,ms,h1,h2,h3=>⟨by rw [masksFrom,h2,← Array.length_toList,h1,List.append_nil],h3⟩
  | o :: rest,pre,ms,h1,h2,h3=>by
    refine Md rest (pre ++ [o]) (ms ++ [maskOf ms o]) (by rw [h1,List.append_assoc];rfl) (by simp [h2]) fun a k hk=>?_
    by_cases ha:a < ms.length
    · rw [List.getD_eq_getElem?_getD,List.getElem?_append_left ha,← List.getD_eq_getElem?_getD] at hk;exact h3 a k hk
    · by_cases ha2:a=ms.length
      · subst ha2
        have:(ms ++ [maskOf ms o]).getD ms.length 0=maskOf ms o:=by simp
        rw [this] at hk
        rcases Lm _ _ hk with h|⟨e,he,hb,h⟩
        · simp at h
        · have ho:ops[ms.length]?=some o:=by rw [← Array.getElem?_toList,h1,h2];simp
          rw [comesB,ho]
          simp only [Option.any_some,Array.any_eq_true',Bool.and_eq_true,Bool.or_eq_true]
          refine ⟨e,by simpa using he,hb,?_⟩
          rcases h with h|h
          · exact .inl (by simpa using h)
          · have hlt:e.on < ms.length:=by
              rcases Nat.lt_or_ge e.on ms.length with h'|h'
              · exact h'
              · rw [List.getD_eq_getElem?_getD,List.getElem?_eq_none h'] at h;simp at h
            exact .inr (Ll (h3 _ _ h) hlt)
      · rw [List.getD_eq_getElem?_getD,List.getElem?_eq_none (by simp;omega)] at hk;simp at hk
theorem Ln {ops:Array Oper} {j k:Nat} (h:bef ops j k=true):comesB ops ops.size j k=true:=by
  obtain ⟨h1,h2⟩:=Md (ops:=ops) ops.toList [] [] (by simp) rfl (fun a k h=>by simp at h)
  refine Ll (h2 j k h) ?_
  rcases Nat.lt_or_ge j ops.size with h'|h'
  · exact h'
  · unfold bef at h
    rw [List.getD_eq_getElem?_getD,List.getElem?_eq_none (by omega)] at h;simp at h
theorem Bb {fuel tot:Nat} {listed:Array Bool} (ls:List Nat) (ord:List (Nat×Bool)) (hs:(Region.noSelect ops && (acts.all fun p=>(ops[p.1]?).isSome) && ordPre ops listed ord && (ord.all fun p=>(acts.all fun q=>q.2.all (ls.contains ·) || bef ops q.1 p.1) && !acts.any (·.1 == p.1)))=true) (hl:ord.length + fuel=tot)
    (h:hwp P n ops (thn (hwx P n ops Q acts w O0 fuel (listAll listed ord)) fun _ _ _=>False) (SS w O0 ls) ord l w):hwx P n ops Q acts w O0 tot listed l w:=by
  refine QZ ls ord ?_ hl h
  simp only [Bool.and_eq_true] at hs ⊢
  refine ⟨hs.1,List.all_eq_true.2 fun p hp=>?_⟩
  have h1:=List.all_eq_true.1 hs.2 p hp
  rw [Bool.and_eq_true] at h1 ⊢
  refine ⟨List.all_eq_true.2 fun q hq=>?_,h1.2⟩
  unfold tci at hq
  rw [List.mem_flatMap] at hq
  obtain ⟨a,ha,hqa⟩:=hq
  rw [List.mem_filter] at ha
  have h2:=List.all_eq_true.1 h1.1 a ha.1
  rw [Bool.or_eq_true] at h2
  rcases h2 with h2|h2
  · exact List.all_eq_true.1 h2 q hqa
  · have:=ha.2;rw [Ln h2] at this;simp at this
theorem DI {fuel i:Nat} {listed:Array Bool} (hl:((List.range ops.size).all fun k=>k == i || bef ops i k)=true) (h2:hwx P n ops Q acts w0 O0 fuel (listed.setIfInBounds i true) l w):owp P n ops (loudX P n ops Q acts w0 O0 i fuel listed) [] l w:=by
  refine Ra ?_ h2
  refine List.all_eq_true.2 fun k hk=>?_
  have:=List.all_eq_true.1 hl k hk
  rw [Bool.or_eq_true] at this ⊢
  exact this.imp id Ln
theorem BG [hm:Mixed P] {id:Nat} {L:List Oper} (acts:List (Nat×List Nat)) (O:Lab) (h:hwx P n L.toArray Q acts w O L.toArray.size (Array.replicate L.toArray.size false) l w):ewp P n (.region id L.toArray true) Q l w:=fun a d ha =>
  wp_region_any hm.eq (Ks _ _ _ _ (h (fun m om hm=>by
      simp only [Array.getD_eq_getD_getElem?,Array.getElem?_replicate] at hm
      split at hm<;>simp at hm) a (d + 1) ha))
end
end
section
open Go Go.RowKit
attribute [local irreducible] ewp owp hwp hwq hws Ev Evg Fn retPost loud loudS Res1
section
variable {w : World} {A : Nat → Prop} (hA : ∀ k, A k → k < w.heap.size) {v0 v1 : Value}
include hA
omit hA in
def ER (f:List Fct) (s:List Int):Option Bool:=some (holdsB f s)
theorem IQ {x0:List Fct} (h0:Vb w A v0 x0) {x1:List Int} (h1:Vb w A v1 x1) {r:Bool} (hm:ER x0 x1=some r):Fn Tryz.prog 34 [v0,v1] w fun v w'=>Ext w w'∧Vb w' (upA A w w') v r:=by
  obtain rfl:=sm hm
  refine (baseHolds (h0.mono hA) (h1.mono hA)).mono fun v w' h=>⟨h.2,?_⟩
  rw [h.1,GF];exact vBool
omit hA in
def CF (f:List Fct) (s:List Int):Option Bool:=some (holdsB f s)
theorem GX {x0:List Fct} (h0:Vb w A v0 x0) {x1:List Int} (h1:Vb w A v1 x1) {r:Bool} (hm:CF x0 x1=some r):Fn Tryz.prog 48 [v0,v1] w fun v w'=>Ext w w'∧Vb w' (upA A w w') v r:=by
  obtain rfl:=sm hm
  refine (taskHolds (h0.mono hA) (h1.mono hA)).mono fun v w' h=>⟨h.2,?_⟩
  rw [h.1,GF];exact vBool
omit hA in
noncomputable def JF (x:List Int) (y:List Int):Option Bool:=some (bof (x=y))
omit hA in
noncomputable def DQ (x:List Int) (y:List Int):Option Bool:=some (bof (StateOk x y))
theorem IR {x0:List Int} (h0:Vb w A v0 x0) {x1:List Int} (h1:Vb w A v1 x1) {r:Bool} (hm:DQ x0 x1=some r):Fn Tryz.prog 38 [v0,v1] w fun v w'=>Ext w w'∧Vb w' (upA A w w') v r:=by
  obtain rfl:=sm hm
  refine (baseState (h0.mono hA) (h1.mono hA)).mono fun v w' h=>⟨h.2,?_⟩
  rw [h.1];exact vBool
omit hA in
noncomputable def Ea (x:List Int) (y:List Fct):Option Bool:=some (bof (FactsOk x y))
theorem Fw {x0:List Int} (h0:Vb w A v0 x0) {x1:List Fct} (h1:Vb w A v1 x1) {r:Bool} (hm:Ea x0 x1=some r):Fn Tryz.prog 78 [v0,v1] w fun v w'=>Ext w w'∧Vb w' (upA A w w') v r:=by
  obtain rfl:=sm hm
  refine (baseProper (h0.mono hA) (h1.mono hA)).mono fun v w' h=>⟨h.2,?_⟩
  rw [h.1];exact vBool
omit hA in
noncomputable def Iu (x:List Int) (y:List Int):Option Bool:=some (bof (StateOk x y))
theorem Lv {x0:List Int} (h0:Vb w A v0 x0) {x1:List Int} (h1:Vb w A v1 x1) {r:Bool} (hm:Iu x0 x1=some r):Fn Tryz.prog 64 [v0,v1] w fun v w'=>Ext w w'∧Vb w' (upA A w w') v r:=by
  obtain rfl:=sm hm
  refine (taskProper (h0.mono hA) (h1.mono hA)).mono fun v w' h=>⟨h.2,?_⟩
  rw [h.1];exact vBool
omit hA in
noncomputable def Ew (t:Tsk):Option Bool:=some (bof (SmallOk t))
theorem Me {x0:Tsk} (h0:Vb w A v0 x0) {r:Bool} (hm:Ew x0=some r):Fn Tryz.prog 10 [v0] w fun v w'=>Ext w w'∧Vb w' (upA A w w') v r:=by
  obtain rfl:=sm hm
  refine (baseSmall (h0.mono hA)).mono fun v w' h=>⟨h.2,?_⟩
  rw [h.1];exact vBool
end
noncomputable def FP (t:Tsk):Option Err:=some ⟨checkN t⟩
theorem Kv (t:Tsk):inI64 (checkN t):=by unfold checkN;(repeat' split)<;>decide
theorem IS {w:World} {A:Nat→Prop} (hA:∀ k,A k→k < w.heap.size) {v0:Value} {x0:Tsk} (h0:Vb w A v0 x0) {r:Err} (hm:FP x0=some r):Fn Tryz.prog 66 [v0] w fun v w'=>Ext w w'∧Vb w' (upA A w w') v r:=by
  obtain rfl:=sm hm
  refine (taskCheck (h0.mono hA)).mono fun v w' h=>⟨h.2,?_⟩
  rw [h.1]
  exact vErr (Kv _)
def Ff (x:Err):Option Int:=some x.n
theorem Ib {w:World} {A:Nat→Prop} (hA:∀ k,A k→k < w.heap.size) {x0:Err} (r0:inI64 x0.n) {r:Int} (hm:Ff x0=some r):Fn Tryz.prog 36 [errV x0.n] w fun v w'=>Ext w w'∧Vb w' (upA A w w') v r:=by
  obtain rfl:=sm hm
  refine AH Tryz.func36 rfl Tryz.ntmps36 rfl ?_
  by_cases h:x0.n=0
  · rw [h,FE]
    ((repeat (first|refine Au ?_|refine Ah rfl ?_|refine Ae rfl ?_))<;>(refine An rfl rfl ?_<;>(refine o_z ?_))<;>(repeat (first|refine Au ?_|refine Ah rfl ?_|refine Ae rfl ?_))<;>(refine Am rfl rfl ?_<;>(first|refine OC rfl rfl ?_|refine QE rfl rfl ?_)<;>(refine o_z ?_))<;>(repeat (first|refine Au ?_|refine Ah rfl ?_|refine Ae rfl ?_))<;>(refine An rfl rfl ?_<;>(refine o_z ?_))<;>(repeat (first|refine Au ?_|refine Ah rfl ?_|refine Ae rfl ?_)))
    exact ret1 rfl rfl ⟨Below.refl _ _,vInt (by decide)⟩
  · rw [Gd h]
    have h2:-9223372036854775808≤x0.n∧x0.n≤9223372036854775807:=r0
    ((repeat (first|refine Au ?_|refine Ah rfl ?_|refine Ae rfl ?_))<;>(refine An rfl rfl ?_<;>(refine o_z ?_))<;>(repeat (first|refine Au ?_|refine Ah rfl ?_|refine Ae rfl ?_))<;>(refine Am rfl rfl ?_<;>(first|refine OC rfl rfl ?_|refine QE rfl rfl ?_)<;>(refine o_z ?_))<;>(repeat (first|refine Au ?_|refine Ah rfl ?_|refine Ae rfl ?_))<;>(refine Am rfl rfl ?_<;>refine Sf rfl rfl ?_<;>refine Am rfl rfl ?_<;>refine AZ rfl rfl rfl ?_<;>refine AZ rfl rfl rfl ?_<;>refine An rfl rfl ?_<;>refine An rfl rfl ?_<;>(refine o_z ?_))<;>(repeat (first|refine Au ?_|refine Ah rfl ?_|refine Ae rfl ?_))<;>(refine Am rfl rfl ?_<;>(refine o_z ?_))<;>(repeat (first|refine Au ?_|refine Ah rfl ?_|refine Ae rfl ?_))<;>(refine Am rfl rfl ?_<;>refine An rfl rfl ?_<;>(refine o_z ?_))<;>(repeat (first|refine Au ?_|refine Ah rfl ?_|refine Ae rfl ?_)))
    exact ret1 rfl rfl ⟨Below.refl _ _,vInt r0⟩
def BK (xs:List Int):Option (List Int):=if xs.length * 8≤140737488355328∧xs.length≤9223372036854775807 then some xs else none
theorem Cs {w:World} {A:Nat→Prop} (hA:∀ k,A k→k < w.heap.size) {v0:Value} {x0:List Int} (h0:Vb w A v0 x0) {r:List Int} (hm:BK x0=some r) :
    Fn Tryz.prog 55 [v0] w fun v w'=>Ext w w'∧RowR w w' (upA A w w') 3 v r:=by
  obtain ⟨⟨hl,a0⟩,rfl⟩:=Fy hm
  obtain ⟨O,hB,b0⟩:=enter hA
  replace h0:=h0.mono b0
  obtain ⟨Ad,c,rfl⟩:=h0.form
  refine AH Tryz.func55 rfl Tryz.ntmps55 rfl ?_
  cases Ad with
  | none =>
    have hx:x0=[]:=by
      cases x0 with
      | nil=>rfl
      | cons x xs=>obtain ⟨_,_,_,h,_⟩:=h0.elem (k:=0) (x:=x) rfl;cases h
    subst hx
    ((repeat (first|refine Au ?_|refine Ah rfl ?_|refine Ae rfl ?_))<;>(refine An rfl rfl ?_<;>(refine o_z ?_))<;>(repeat (first|refine Au ?_|refine Ah rfl ?_|refine Ae rfl ?_))<;>(refine Am rfl rfl ?_<;>refine Hv rfl rfl ?_<;>(refine o_z ?_))<;>(repeat (first|refine Au ?_|refine Ah rfl ?_|refine Ae rfl ?_))<;>(refine An rfl rfl ?_<;>(refine o_z ?_))<;>(repeat (first|refine Au ?_|refine Ah rfl ?_|refine Ae rfl ?_)))
    exact ret1 rfl rfl ⟨Below.refl _ _,RowR.nil⟩
  | some ad =>
    ((repeat (first|refine Au ?_|refine Ah rfl ?_|refine Ae rfl ?_))<;>(refine An rfl rfl ?_<;>(refine o_z ?_))<;>(repeat (first|refine Au ?_|refine Ah rfl ?_|refine Ae rfl ?_))<;>(refine Am rfl rfl ?_<;>refine Hv rfl rfl ?_<;>(refine o_z ?_))<;>(repeat (first|refine Au ?_|refine Ah rfl ?_|refine Ae rfl ?_)))
    refine BX 2 (by decide) O (xs:=([]:List Int)) rfl rfl rfl rfl trivial (by decide) (by decide) rfl fun g w1 O1 S1 h1=>?_
    replace hB:=hB.st S1 (fun h=>h) (fun h=>h)
    replace h0:=h0.st S1 (fun h=>h)
    (refine Am rfl rfl ?_)
    refine CX rfl h1 h0.rd rfl rfl (by decide) (by simpa using hl) (by simpa using a0) rfl fun A2 c2 w2 O2 S2 h2=>?_
    replace hB:=hB.st S2 (by decide) (by decide)
    rw [List.nil_append] at h2 ⊢
    (refine An rfl rfl ?_<;>(refine o_z ?_))
    repeat (first|refine Au ?_|refine Ah rfl ?_|refine Ae rfl ?_)
    exact ret1 rfl rfl ⟨hB.ext,h2.out hB (by decide)⟩
end
section
open Go Go.RowKit
attribute [local irreducible] ewp owp hwp hwq hws Ev Evg Fn retPost loud loudS Res1
structure Gnr where
  t:Tsk
def GnrR (w:World) (F:Nat→Prop) (v:Value):Option Gnr→Prop
  | none=>v=.pointer none
  | some g=>TaskOk g.t∧GenR w F v g.t (treeOf g.t)
theorem GnrR.one {w:World} {F:Nat→Prop} {v:Value}:∀ {x:Option Gnr},GnrR w F v x→v.oneCell'=true
  | none,h=>by    have:v=.pointer none:=h
                  subst this;rfl
  | some g,h=>by
    obtain ⟨gb,rfl⟩:=h.2.form
    rfl
instance:Rp (Option Gnr) where
  isAgg:=false
  size:=1
  R w F cs x:=∃ v,cs=[v]∧GnrR w F v x
  len:=by rintro w F cs x ⟨v,rfl,_⟩;rfl
  one:=by
    rintro w F cs x ⟨v,rfl,h⟩ u hu
    have:u=v:=by simpa using hu
    subst this;exact h.one
  agree:=by
    rintro w w' F cs x ⟨v,rfl,h⟩ ha
    refine ⟨v,rfl,?_⟩
    cases x with
    | none=>exact h
    | some g=>exact ⟨h.1,h.2.agree ha⟩
  mono:=by
    rintro w F G cs x ⟨v,rfl,h⟩ hk
    refine ⟨v,rfl,?_⟩
    cases x with
    | none=>exact h
    | some g=>exact ⟨h.1,h.2.mono hk⟩
theorem vNone {w:World} {F:Nat→Prop}:Vb w F (.pointer none) (none:Option Gnr):=⟨_,rfl,rfl⟩
theorem Vb.gnr {w:World} {F:Nat→Prop} {v:Value} {x:Option Gnr} (h:Vb w F v x):GnrR w F v x:=by
  obtain ⟨u,hu,h'⟩:=h
  have:v=u:=by simpa using hu
  subst this;exact h'
theorem Vb.ptr {w:World} {F:Nat→Prop} {v:Value} {x:Option Gnr} (h:Vb w F v x):∃ p,v=.pointer p∧p.isNone=x.isNone:=by
  cases x with
  | none=>exact ⟨none,h.gnr,rfl⟩
  | some g=>obtain ⟨gb,rfl⟩:=h.gnr.2.form;exact ⟨_,rfl,rfl⟩
theorem OU {w:World} {F:Nat→Prop} {p:Option Addr} {x:Option Gnr} {g:Gnr} (h:Vb w F (.pointer p) x) (e:x=some g) :
    ∃ gb a b c d r,p=some ⟨gb,0,none⟩∧F gb∧cellsAt w gb 0 [a,b,c,d,r]∧Vb w F a g.t.vars∧Vb w F b g.t.init∧Vb w F c g.t.goal∧Vb w F d g.t.ops:=by
  subst e
  obtain ⟨_,gb,a,b,c,d,r,h1,h2,h3,h4,h5,h6,h7,_⟩:=h.gnr
  injection h1 with h1
  exact ⟨gb,a,b,c,d,r,h1,h2,h3.cellsAt,h4,h5,h6,h7⟩
theorem vGnr {w:World} {F:Nat→Prop} {v:Value} {g:Gnr} (h:TaskOk g.t) (hg:GenR w F v g.t (treeOf g.t)):Vb w F v (some g):=⟨v,rfl,h,hg⟩
theorem Qe {A:Nat→Prop} {w w':World}:∀ k,nw w w' k→upA A w w' k:=fun _ h=>.inr h
theorem Own.intRow {w w':World} {F A:Nat→Prop} {e:TypeId} {v:Value} {xs:List Int} (h:Own w' w.heap.size F e v xs):RowR w w' (upA A w w') e v xs:=by
  obtain ⟨cells,q1,q2,q3⟩:=h
  exact ⟨fun _=>False,fun _ h=>h.elim,cells,q1,Hw q2,fun _ _ h=>h⟩
noncomputable def CJ (t:Tsk):Option (Option Gnr×Err):=some (if bof (TaskOk t)=true then some ⟨t⟩ else none,⟨checkN t⟩)
theorem Iv {w:World} {A:Nat→Prop} (hA:∀ k,A k→k < w.heap.size) {v0:Value} {x0:Tsk} (h0:Vb w A v0 x0) {r:Option Gnr×Err} (hm:CJ x0=some r):Fn Tryz.prog 42 [v0] w fun v w'=>Ext w w'∧T2 w' (upA A w w') v r:=by
  obtain rfl:=sm hm
  refine (genNew (h0.mono hA)).mono fun v w' h=>⟨h.1,?_⟩
  rcases h.2 with ⟨hok,gv,rfl,hg⟩|⟨hno,rfl⟩
  · rw [Bf hok,Fz.2 hok]
    exact ⟨gv,_,rfl,vGnr (g:=⟨x0⟩) hok (hg.mono Qe),vErr0⟩
  · rw [AU hno]
    exact ⟨_,_,rfl,vNone,vErr (Kv _)⟩
noncomputable def appG:Option Gnr→List Int→List Int
  | none,_=>[]
  | some g,s=>appS g.t s
noncomputable def Cf (x:Option Gnr) (s:List Int):Option (List Int):=if s.length≤1000000 then some (appG x s) else none
theorem FQ {w:World} {A:Nat→Prop} (hA:∀ k,A k→k < w.heap.size) {v0:Value} {x0:Option Gnr} (h0:Vb w A v0 x0) {v1:Value} {x1:List Int} (h1:Vb w A v1 x1) {r:List Int} (hm:Cf x0 x1=some r) :
    Fn Tryz.prog 87 [v0,v1] w fun v w'=>Ext w w'∧RowR w w' (upA A w w') 3 v r:=by
  obtain ⟨hl,rfl⟩:=Fy hm
  cases x0 with
  | none =>
    have h2:=h0.gnr
    have:v0=.pointer none:=h2
    subst this
    refine nilApplicable.mono fun v w' h=>⟨h.2,?_⟩
    rw [h.1];exact RowR.nil
  | some g =>
    obtain ⟨hok,hg⟩:=h0.gnr
    exact (applT hok (hg.mono hA) (h1.mono hA) hl).mono fun v w' h=>⟨h.1,h.2.intRow⟩
end
section
open Go Go.RowKit
attribute [local irreducible] ewp owp hwp hwq hws Ev Evg Fn retPost loud loudS Res1
def exts (n:Nat) (s:List Int):List (List Int):=(List.range n).map fun x:Nat=>s ++ [(x:Int)]
def grows (out:List (List Int)) (k:Int):List (List Int):=out.flatMap (exts k.toNat)
def statesL (vars:List Int):List (List Int):=vars.foldl grows [[]]
theorem ES {vars:List Int} {k:Nat} {n:Int} (h:vars[k]?=some n):statesL (vars.take (k + 1))=grows (statesL (vars.take k)) n:=by
  unfold statesL
  rw [List.take_add_one,h,List.foldl_append];rfl
theorem NY (n:Nat) (s:List Int):exts (n + 1) s=exts n s ++ [s ++ [(n:Int)]]:=by unfold exts;rw [List.range_succ];simp
theorem Ge (n:Nat) (s:List Int):(exts n s).length=n:=by simp [exts]
theorem Hr (n:Nat):∀ l:List (List Int),(l.flatMap (exts n)).length=l.length * n
  | []=>by simp
  | s :: l=>by rw [List.flatMap_cons,List.length_append,Ge,Hr n l,List.length_cons,Nat.add_mul];omega
theorem NZ {α β:Type} (f:α→List β) {l:List α} {k:Nat} {x:α} (h:l[k]?=some x):(l.take (k + 1)).flatMap f=(l.take k).flatMap f ++ f x:=by
  rw [List.take_add_one,h];simp
theorem MJ (vars:List Int):∀ (k:Nat),k≤vars.length→∀ s∈statesL (vars.take k),s.length=k:=by
  intro k
  induction k with
  | zero=>intro _ s hs;simp [statesL] at hs;simp [hs]
  | succ k ih =>
    intro hk s hs
    obtain ⟨n,hn⟩:∃ n,vars[k]?=some n:=⟨vars[k],List.getElem?_eq_getElem (by omega)⟩
    rw [ES hn] at hs
    obtain ⟨s',h1,h2⟩:=List.mem_flatMap.1 hs
    obtain ⟨x,_,rfl⟩:=List.mem_map.1 h2
    simp [ih (by omega) s' h1]
end
section
open Go Go.RowKit
def prodV:List Int→Nat→Nat
  | [],n=>n
  | k :: r,n=>prodV r (n * k.toNat)
theorem Hs:∀ (vars:List Int) (out:List (List Int)),(vars.foldl grows out).length=prodV vars out.length
  | [],_=>rfl
  | k :: r,out=>by
    simp only [List.foldl_cons,prodV]
    rw [Hs r,grows,Hr]
theorem MK (vars:List Int):(statesL vars).length=prodV vars 1:=Hs vars [[]]
theorem Lo {most:Nat}:∀ (vars:List Int) (n:Nat),(∀ x∈vars,1≤x)→1≤n→manyF most vars (n:Int)≤most→∀ k,prodV (vars.take k) n≤most
  | [],n,_,_,h,k=>by simp only [List.take_nil,prodV];simp only [manyF] at h;omega
  | x :: r,n,hx,hn,h,k=>by
    have h1:1≤x:=hx x List.mem_cons_self
    simp only [manyF] at h
    have hmax:max x 0=x:=by omega
    rw [hmax] at h
    obtain ⟨m,rfl⟩:∃ m:Nat,x=(m:Int):=⟨x.toNat,by omega⟩
    by_cases hm:(m:Int)≤most
    · rw [show min (m:Int) (most + 1)=(m:Int) from by omega,← Int.natCast_mul] at h
      have hnm:n≤n * m:=Nat.le_mul_of_pos_right n (by omega)
      by_cases hc:(most:Int) < ((n * m:Nat):Int)
      · rw [if_pos hc] at h;omega
      · rw [if_neg hc] at h
        cases k with
        | zero=>simp only [List.take_zero,prodV];omega
        | succ k =>
          simp only [List.take_succ_cons,prodV,Int.toNat_natCast]
          exact Lo r (n * m) (fun y hy=>hx y (List.mem_cons_of_mem _ hy)) (by omega) h k
    · exfalso
      rw [show min (m:Int) (most + 1)=((most + 1:Nat):Int) from by omega,← Int.natCast_mul] at h
      have:most + 1≤n * (most + 1):=Nat.le_mul_of_pos_left _ hn
      rw [if_pos (by omega)] at h
      omega
theorem IT {y x:Int} {vs s:List Int}:StateOk (y :: vs) (x :: s)↔(0≤x∧x < y)∧StateOk vs s:=by
  constructor
  · intro h
    exact ⟨h.2 0 x y rfl rfl,by have:=h.1;simpa using this,fun i a b ha hb=>h.2 (i + 1) a b (by simpa using ha) (by simpa using hb)⟩
  · rintro ⟨h1,h2,h3⟩
    refine ⟨by simpa using h2,fun i a b ha hb=>?_⟩
    cases i with
    | zero=>simp at ha hb;subst ha;subst hb;exact h1
    | succ i=>exact h3 i a b (by simpa using ha) (by simpa using hb)
theorem ML:StateOk [] []:=⟨rfl,fun i a b ha=>by simp at ha⟩
theorem Mf {n:Nat} {s t:List Int}:t∈exts n s↔∃ x:Nat,x < n∧t=s ++ [(x:Int)]:=by
  unfold exts
  rw [List.mem_map]
  constructor
  · rintro ⟨x,hx,rfl⟩;exact ⟨x,List.mem_range.1 hx,rfl⟩
  · rintro ⟨x,hx,rfl⟩;exact ⟨x,List.mem_range.2 hx,rfl⟩
theorem Ht:∀ (vars:List Int) (out:List (List Int)) (s:List Int),s∈vars.foldl grows out↔∃ s0∈out,∃ r,s=s0 ++ r∧StateOk vars r
  | [],out,s=>by
    constructor
    · intro h;exact ⟨s,h,[],by simp,ML⟩
    · rintro ⟨s0,h,r,rfl,hr⟩
      have:r=[]:=List.eq_nil_of_length_eq_zero hr.1
      subst this;simpa using h
  | k :: vs,out,s=>by
    simp only [List.foldl_cons]
    rw [Ht vs (grows out k) s]
    constructor
    · rintro ⟨s1,h1,r,rfl,hr⟩
      obtain ⟨s0,h0,h2⟩:=List.mem_flatMap.1 h1
      obtain ⟨x,hx,rfl⟩:=Mf.1 h2
      exact ⟨s0,h0,(x:Int) :: r,by simp,IT.2 ⟨⟨by omega,by omega⟩,hr⟩⟩
    · rintro ⟨s0,h0,r,rfl,hr⟩
      cases r with
      | nil=>have:=hr.1;simp at this
      | cons x r =>
        obtain ⟨⟨h1,h2⟩,h3⟩:=IT.1 hr
        exact ⟨s0 ++ [x],List.mem_flatMap.2 ⟨s0,h0,Mf.2 ⟨x.toNat,by omega,by rw [show ((x.toNat:Nat):Int)=x from by omega]⟩⟩,r,by simp,h3⟩
theorem Gm {vars s:List Int}:s∈statesL vars↔StateOk vars s:=by
  unfold statesL
  rw [Ht]
  constructor
  · rintro ⟨s0,h0,r,rfl,hr⟩
    have:s0=[]:=by simpa using h0
    subst this;exact hr
  · intro h;exact ⟨[],by simp,s,rfl,h⟩
theorem SmallOk.ok {t:Tsk} (h:SmallOk t):TaskOk t:=h.2.2.2.1
theorem SmallOk.states {t:Tsk} (h:SmallOk t):∀ k,(statesL (t.vars.take k)).length≤512:=fun k=>by
  rw [MK]
  refine Lo (most:=512) t.vars 1 (fun x hx=>?_) (Nat.le_refl _) h.2.2.2.2 k
  obtain ⟨i,hi,rfl⟩:=List.getElem_of_mem hx
  exact (h.ok.vars i _ (List.getElem?_eq_getElem hi)).1
theorem SmallOk.many {t:Tsk} (h:SmallOk t):(statesL t.vars).length≤512:=by
  have:=h.states t.vars.length
  rwa [List.take_length] at this
structure Mid (t:Tsk):Prop where
  ok:TaskOk t
  states:∀ k,(statesL (t.vars.take k)).length≤600
  ops:t.ops.length≤80
theorem Mid.many {t:Tsk} (h:Mid t):(statesL t.vars).length≤600:=by
  have:=h.states t.vars.length
  rwa [List.take_length] at this
theorem SmallOk.mid {t:Tsk} (h:SmallOk t):Mid t:=⟨h.ok,fun k=>by have:=h.states k;omega,by have:=h.2.1;omega⟩
end
section
open Go Go.RowKit
attribute [local irreducible] ewp owp hwp hwq hws Ev Evg Fn retPost loud loudS Res1
structure Edg where
  src:Int
  op:Int
  dst:Int
instance:Rp Edg where
  isAgg:=true
  size:=3
  R w F cs x:=cs=[.int .i64 x.src,.int .i64 x.op,.int .i64 x.dst]∧inI64 x.src∧inI64 x.op∧inI64 x.dst
  len:=by rintro w F cs x ⟨rfl,h0,h1,h2⟩;rfl
  one:=by rintro w F cs x ⟨rfl,h0,h1,h2⟩ u hu;simp at hu;rcases hu with rfl|rfl|rfl<;>first|rfl|exact Vb.one rfl (by assumption)
  agree:=by rintro w w' F cs x ⟨rfl,h0,h1,h2⟩ ha;exact ⟨rfl,h0,h1,h2⟩
  mono:=by rintro w F G cs x ⟨rfl,h0,h1,h2⟩ ha;exact ⟨rfl,h0,h1,h2⟩
noncomputable def Eb (x0:List Int):Option (List (List Int)) :=
  bnd (rng (ρ:=(List (List Int))) (fun (k24:Nat) (a25:Int) (s22:(List (List Int)))=>bnd (rng (ρ:=Ctl (List (List Int)) (List (List Int))) (fun (k53:Nat) (a54:List Int) (s51:(List (List Int)))=>bnd (natI a25) fun N92=>bnd (rngN (ρ:=Ctl (List (List Int)) (Ctl (List (List Int)) (List (List Int)))) (fun (k83:Nat) (s81:(List (List Int)))=>bnd (appI 8 ([]:List Int) a54) fun u104=>bnd (appI 8 u104 [(k83:Int)]) fun u115=>bnd (appI 24 s81 [u115]) fun u129=>some (.next u129)) N92 s51) fun res79=>fin res79 fun (s145:(List (List Int)))=>some (.next s145)) s22 0 ([]:List (List Int))) fun res49=>fin res49 fun (s151:(List (List Int)))=>some (.next s151)) x0 0 [([]:List Int)]) fun res20=>fin res20 fun (s159:(List (List Int)))=>some s159
theorem Lw {w:World} {A:Nat→Prop} (hA:∀ k,A k→k < w.heap.size) {vx0:Value} {x0:List Int} (a0:Vb w A vx0 x0) {r:(List (List Int))} (hm:Eb x0=some r) :
    Fn Tryz.prog 61 [vx0] w fun v w'=>Ext w w'∧Vb w' (upA A w w') v r:=by
 obtain ⟨O,hB,d3⟩:=enter hA
 replace a0:=a0.mono d3
 obtain ⟨A2,c3,rfl⟩:=a0.form
 refine AH Tryz.func61 rfl Tryz.ntmps61 rfl ?_
 unfold Eb at hm
 refine Al (Aj (An rfl rfl (o_z ?_)))
 refine Al (Aj (BX 2 (by decide) O (xs:=(([]:List Int):List Int)) rfl rfl rfl rfl trivial (by decide) (by decide) rfl fun g4 w5 O6 S7 h8=>?_))
 obtain ⟨e3,n1,h8⟩:=h8.freeze
 refine BX 3 (by decide) e3 (xs:=([([]:List Int)]:List (List Int))) rfl rfl rfl rfl ⟨h8,trivial⟩ (by decide) (by decide) rfl fun f3 t4 u4 o1 p1=>?_
 refine An rfl rfl (o_z ?_)
 refine Al (Al (Aj (Am rfl rfl (AP rfl rfl ?_))))
 replace a0:=((a0.st S7).st n1).st o1
 have q1:x0.length≤9223372036854775807:=Nat.le_trans a0.len.2.1 a0.len.2.2
 have v4:inI64 (x0.length:Int):=rngNat q1
 refine Am rfl rfl (o_z ?_)
 obtain ⟨a1,r1,hm⟩:=bs hm
 refine AJ (aft a1 (fun (c0:(List (List Int))) (d0:(Option Addr×Nat))=>[(3,(.slice d0.1 c0.length d0.2))]) (fun c0 d0 w'=>∃ O':Lab,Bs w A w' O'∧Vb w' (Fr 0 w' O') (.slice d0.1 c0.length d0.2) c0)) ?_ ?_
 ·
  refine AM ?_
  obtain ⟨g3,x2,p1⟩:=p1.freeze
  replace a0:=a0.st x2
  replace hB:=(((hB.st S7).st n1).st o1).st x2
  refine By (σ:=(List (List Int))) (X:=(Option Addr×Nat)) (x0.length) r1 rfl q1 (fun (c0:(List (List Int))) (d0:(Option Addr×Nat))=>[(3,(.slice d0.1 c0.length d0.2)),(12,(.slice A2 x0.length c3))]) _ (fun c0 d0 w'=>∃ O':Lab,Bs w A w' O'∧Vb w' (Fr 0 w' O') (.slice d0.1 c0.length d0.2) c0∧Vb w' (Fr 0 w' O') (.slice A2 x0.length c3) x0) _ ((some ⟨f3,0,none⟩),1) ⟨g3,hB,p1,a0⟩ ⟨rfl,rfl,rfl,rfl,trivial⟩ (fun _ _=>⟨rfl,rfl⟩) (fun _ _=>⟨rfl,trivial⟩) (fun _ _ _ ⟨O',hB,e0,a0⟩=>⟨O',hB,e0⟩) ⟨rfl,rfl,rfl⟩ ⟨rfl,rfl⟩ ?_
  rintro b1 s1 c0 d0 w4 h3 c1 ⟨i3,hB,e0,a0⟩ j0 t1 u1
  have rk24:inI64 (b1:Int):=rngK c1 q1
  refine Al (Aj ?_)
  obtain ⟨x4,y4,j3,v1,w1,x1,rfl,y2⟩:=a0.elem' c1
  refine Bo (hA:=v1) (hj:=rfl) (hlt:=w1) rfl rfl rfl ?_
  refine AC (hc:=cat0 x1) rfl rfl ?_
  refine An rfl rfl (o_z ?_)
  refine Al (Aj (An rfl rfl (o_z ?_)))
  refine Al (Al (Aj (Am rfl rfl (AP rfl rfl ?_))))
  have y1:c0.length≤9223372036854775807:=Nat.le_trans e0.len.2.1 e0.len.2.2
  have z4:inI64 (c0.length:Int):=rngNat y1
  refine Am rfl rfl (o_z ?_)
  obtain ⟨d1,z1,j0⟩:=bs j0
  refine AJ (aft d1 (fun (p0:(List (List Int))) (h0:(Option Addr×Nat))=>[(6,(.slice h0.1 p0.length h0.2)),(12,(.slice A2 x0.length c3)),(13,(.int .i64 (x0.length:Int))),(14,(.int .i64 (b1:Int)))]) (fun p0 h0 w'=>∃ O':Lab,Bs w A w' O'∧Rw 5 w' O' 22 (.slice h0.1 p0.length h0.2) p0∧Vb w' (Fr 0 w' O') (.slice A2 x0.length c3) x0)) ?_ ?_
  ·
   refine AM (By (σ:=(List (List Int))) (X:=(Option Addr×Nat)) (c0.length) z1 rfl y1 (fun (p0:(List (List Int))) (h0:(Option Addr×Nat))=>[(5,(.int .i64 s1)),(6,(.slice h0.1 p0.length h0.2)),(12,(.slice A2 x0.length c3)),(13,(.int .i64 (x0.length:Int))),(14,(.int .i64 (b1:Int))),(18,(.slice d0.1 c0.length d0.2))]) _ (fun p0 h0 w'=>∃ O':Lab,Bs w A w' O'∧Rw 5 w' O' 22 (.slice h0.1 p0.length h0.2) p0∧Vb w' (Fr 0 w' O') (.slice A2 x0.length c3) x0∧Vb w' (Fr 0 w' O') (.slice d0.1 c0.length d0.2) c0) _ (none,0) ⟨i3,hB,(Rw.nil 5 (by decide)),a0,e0⟩ ⟨rfl,rfl,rfl,rfl,rfl,rfl,rfl,rfl,trivial⟩ (fun _ _=>⟨rfl,rfl⟩) (fun _ _=>⟨rfl,rfl,rfl,rfl,trivial⟩) (fun _ _ _ ⟨O',hB,u0,a0,e0⟩=>⟨O',hB,u0,a0⟩) ⟨rfl,rfl,rfl⟩ ⟨rfl,rfl⟩ ?_)
   rintro a2 b2 p0 h0 a5 k3 e1 ⟨l3,hB,u0,a0,e0⟩ f0 c2 d2
   have rk53:inI64 (a2:Int):=rngK e1 y1
   refine Al (Aj ?_)
   obtain ⟨b5,c5,m3,e2,f2,g2,d5,rfl,q0⟩:=e0.elem' e1
   replace q0:=Vb.of_slice q0
   obtain ⟨z2,a3,rfl⟩:=q0.form
   refine Bo (hA:=e2) (hj:=rfl) (hlt:=f2) rfl rfl rfl ?_
   refine AC (hc:=cat0 g2) rfl rfl ?_
   refine An rfl rfl (o_z ?_)
   refine Al (Aj (Am rfl rfl (Am rfl rfl (o_z ?_))))
   obtain ⟨n3,k0,f0⟩:=bs f0
   replace k0:=Lh k0
   obtain ⟨f1,h2,f0⟩:=bs f0
   refine AJ (aft f1 (fun (r0:(List (List Int))) (i0:(Option Addr×Nat))=>[(5,(.int .i64 s1)),(6,(.slice i0.1 r0.length i0.2)),(12,(.slice A2 x0.length c3)),(13,(.int .i64 (x0.length:Int))),(14,(.int .i64 (b1:Int))),(18,(.slice d0.1 c0.length d0.2)),(19,(.int .i64 (c0.length:Int))),(20,(.int .i64 (a2:Int)))]) (fun r0 i0 w'=>∃ O':Lab,Bs w A w' O'∧Rw 5 w' O' 22 (.slice i0.1 r0.length i0.2) r0∧Vb w' (Fr 0 w' O') (.slice A2 x0.length c3) x0∧Vb w' (Fr 0 w' O') (.slice d0.1 c0.length d0.2) c0)) ?_ ?_
   ·
    refine AM (HV (σ:=(List (List Int))) (X:=(Option Addr×Nat)) n3 h2 (Jq k0 y2) (fun (r0:(List (List Int))) (i0:(Option Addr×Nat))=>[(5,(.int .i64 s1)),(6,(.slice i0.1 r0.length i0.2)),(8,(.slice z2 b2.length a3)),(12,(.slice A2 x0.length c3)),(13,(.int .i64 (x0.length:Int))),(14,(.int .i64 (b1:Int))),(18,(.slice d0.1 c0.length d0.2)),(19,(.int .i64 (c0.length:Int))),(20,(.int .i64 (a2:Int)))]) _ (fun r0 i0 w'=>∃ O':Lab,Bs w A w' O'∧Rw 5 w' O' 22 (.slice i0.1 r0.length i0.2) r0∧Vb w' (Fr 0 w' O') (.slice z2 b2.length a3) b2∧Vb w' (Fr 0 w' O') (.slice A2 x0.length c3) x0∧Vb w' (Fr 0 w' O') (.slice d0.1 c0.length d0.2) c0) _ (h0.1,h0.2) ⟨l3,hB,u0,q0,a0,e0⟩ ⟨rfl,(congrArg (fun z=>some (Value.int .i64 z)) k0),rfl,rfl,rfl,rfl,rfl,rfl,rfl,rfl,rfl,trivial⟩ (fun _ _=>⟨rfl,rfl⟩) (fun _ _=>⟨rfl,rfl,rfl,rfl,rfl,rfl,rfl,rfl,trivial⟩) (fun _ _ _ ⟨O',hB,v0,q0,a0,e0⟩=>⟨O',hB,v0,a0,e0⟩) ⟨rfl,rfl,rfl⟩ ⟨rfl,rfl⟩ ?_)
    rintro b3 r0 i0 e5 o3 i2 ⟨p3,hB,v0,q0,a0,e0⟩ g0 j2 k2
    have rk83:inI64 (b3:Int):=rngKN i2 (Jq k0 y2)
    refine Al (Aj (Am rfl rfl (An rfl rfl (o_z ?_))))
    refine Aj (Am rfl rfl (BX 4 (by decide) p3 (xs:=(([]:List Int):List Int)) rfl rfl rfl rfl trivial (by decide) (by decide) rfl fun f5 g5 q3 l0 l2=>?_))
    refine Am rfl rfl ?_
    obtain ⟨r3,w0,g0⟩:=bs g0
    obtain ⟨w0,m2,n2⟩:=Cc w0
    replace q0:=q0.st l0
    refine CX rfl l2 (q0.rd) rfl rfl (by decide) m2 n2 rfl fun s3 t3 u3 v3 m0 g1=>?_
    rw [← w0] at g1 ⊢
    refine Am rfl rfl ?_
    obtain ⟨o2,y0,g0⟩:=bs g0
    obtain ⟨y0,p2,q2⟩:=Cc y0
    refine Ed rfl (a:=(b3:Int)) g1 (vInt rk83) (fun _=>rfl) rfl (by decide) (by decide) p2 q2 ⟨rfl,rfl⟩ fun w3 x3 y3 z3 a4 n0 s0=>?_
    rw [← y0] at s0 ⊢
    obtain ⟨b4,o0,s0⟩:=s0.freeze
    obtain ⟨c4,z0,g0⟩:=bs g0
    obtain ⟨z0,r2,s2⟩:=Cc z0
    replace v0:=(((v0.st l0).st m0).st n0).st o0
    refine Ed rfl (a:=o2) v0 s0 (fun _=>rfl) rfl (by decide) (by decide) r2 s2 ⟨rfl,rfl⟩ fun d4 t2 u2 e4 f4 t0 h1=>?_
    rw [← z0] at h1 ⊢
    refine An rfl rfl (o_z ?_)
    obtain rfl:=sm g0
    exact show Exists _ from ⟨_,(t2,u2),rfl,⟨rfl,rfl,rfl,rfl,rfl,rfl,rfl,rfl,rfl,rfl,rfl,trivial⟩,_,((((hB.st l0).st m0).st n0).st o0).st t0,h1,(((q0.st m0).st n0).st o0).st t0,((((a0.st l0).st m0).st n0).st o0).st t0,((((e0.st l0).st m0).st n0).st o0).st t0⟩
   rintro h4 i4 ⟨j4,i1,rfl,b0,k4,hB,v0,a0,e0⟩
   replace f0:=AX f0
   obtain rfl:=sm f0
   exact show Exists _ from ⟨_,(i1.1,i1.2),rfl,⟨(Bn b0 _ _ rfl),(Bn b0 _ _ rfl),(Bn b0 _ _ rfl),(Bn b0 _ _ rfl),(Bn b0 _ _ rfl),(Bn b0 _ _ rfl),(Bn b0 _ _ rfl),(Bn b0 _ _ rfl),trivial⟩,_,hB,v0,a0,e0⟩
  rintro l4 m4 ⟨n4,j1,rfl,k1,o4,hB,u0,a0⟩
  replace j0:=AX j0
  refine AN _ k1 ?_
  refine Aj (Am rfl rfl (An rfl rfl (o_z ?_)))
  obtain ⟨p4,l1,u0⟩:=u0.freeze
  obtain rfl:=sm j0
  exact show Exists _ from ⟨_,(j1.1,j1.2),rfl,⟨rfl,rfl,rfl,rfl,trivial⟩,_,hB.st l1,u0,a0.st l1⟩
 replace hB:=((hB.st S7).st n1).st o1
 rintro q4 v2 ⟨r4,s4,rfl,m1,w2,hB,e0⟩
 replace hm:=AX hm
 refine AN _ m1 ?_
 refine Al (Aj (Am rfl rfl (An rfl rfl (o_z ?_))))
 refine AG ?_
 obtain rfl:=sm hm
 exact ret1v rfl (Az rfl) ⟨hB.ext,(Vb.mono (F:=Fr 0 v2 w2) e0 hB.out)⟩
noncomputable def Cw (x0:Tsk) (x1:List Int) (x2:Int):Option ((List Int)×Bool) :=
  bnd (if x2 < 0 then (some true) else (if (x0.ops.length:Int)≤x2 then (some true) else (bnd (atI x0.ops x2) fun a36=>bnd (ER a36.pre x1) fun q57=>if q57=true then some false else some true)):Option Bool) fun y28=>if y28=true then (some (([]:List Int),false)) else (bnd (appI 8 ([]:List Int) x1) fun u75=>bnd (atI x0.ops x2) fun a86=>bnd (rng (ρ:=(List Int)×Bool) (fun (k113:Nat) (a114:Eff) (s111:(List Int))=>bnd (ER a114.cond x1) fun q148=>if q148=true then bnd (atI s111 a114.var) fun a155=>some (.next (s111.set (a114.var:Int).toNat a114.val)) else some (.next s111)) a86.effs 0 u75) fun res109=>fin res109 fun (s173:(List Int))=>some (s173,true))
theorem Mg {w:World} {A:Nat→Prop} (hA:∀ k,A k→k < w.heap.size) {vx0:Value} {x0:Tsk} (y1:Vb w A vx0 x0) {vx1:Value} {x1:List Int} (e0:Vb w A vx1 x1) {x2:Int} (rx2:inI64 x2) {r:(List Int)×Bool} (hm:Cw x0 x1 x2=some r) :
    Fn Tryz.prog 53 [vx0,vx1,(.int .i64 x2)] w fun v w'=>Ext w w'∧T2 w' (upA A w w') v r:=by
 obtain ⟨O,hB,h3⟩:=enter hA
 replace y1:=y1.mono h3
 obtain ⟨h5,rfl,v5,v6,v7,v8,rfl,h9,t0,u0,k0⟩:=y1
 obtain ⟨z1,a2,rfl⟩:=h9.form
 obtain ⟨b2,c2,rfl⟩:=t0.form
 obtain ⟨d2,e2,rfl⟩:=u0.form
 obtain ⟨f2,g2,rfl⟩:=k0.form
 replace e0:=e0.mono h3
 obtain ⟨o1,p1,rfl⟩:=e0.form
 refine AH Tryz.func53 rfl Tryz.ntmps53 rfl ?_
 unfold Cw at hm
 refine Al (Aj (Dc 2 O rfl rfl fun h2 q1 r1 c0 n0=>?_))
 replace n0:Lc 2 q1 r1 h2 26 [(.slice z1 x0.vars.length a2),(.slice b2 x0.init.length c2),(.slice d2 x0.goal.length e2),(.slice f2 x0.ops.length g2)]:=n0
 refine An rfl rfl (An rfl rfl (o_z ?_))
 refine Al (Al ?_)
 obtain ⟨q3,a0,hm⟩:=bs hm
 refine AJ (fun l' w'=>∃ (r3:Unit) (O':Lab),subs l' [(1,(.slice o1 x1.length p1)),(2,(.int .i64 x2)),(3,(.pointer (some ⟨h2,0,none⟩))),(30,(.bool q3))]∧Bs w A w' O'∧Vb w' (Fr 0 w' O') (.slice o1 x1.length p1) x1∧Lc 2 w' O' h2 26 [(.slice z1 x0.vars.length a2),(.slice b2 x0.init.length c2),(.slice d2 x0.goal.length e2),(.slice f2 x0.ops.length g2)]∧Vb w' (Fr 0 w' O') (.slice z1 x0.vars.length a2) x0.vars∧Vb w' (Fr 0 w' O') (.slice b2 x0.init.length c2) x0.init∧Vb w' (Fr 0 w' O') (.slice d2 x0.goal.length e2) x0.goal∧Vb w' (Fr 0 w' O') (.slice f2 x0.ops.length g2) x0.ops) ?_ ?_
 ·
  refine Aj (Am rfl rfl (Dx rfl rfl rfl (fun i2=>?_) fun i2=>?_))
  ·
   replace a0:=ip a0 i2
   refine Am rfl rfl (At rfl rfl rfl rfl (At rfl rfl rfl rfl (At rfl rfl rfl rfl (At rfl rfl rfl rfl (At rfl rfl rfl rfl (AY rfl rfl rfl (Am rfl rfl (At rfl rfl rfl rfl (At rfl rfl rfl rfl (At rfl rfl rfl rfl (At rfl rfl rfl rfl (At rfl rfl rfl rfl (At rfl rfl rfl rfl (At rfl rfl rfl rfl ?_))))))))))))))
   refine At rfl rfl rfl rfl (At rfl rfl rfl rfl (AY rfl rfl rfl (o_z ?_)))
   obtain rfl:=sm a0
   exact ⟨(),_,⟨rfl,rfl,rfl,rfl,trivial⟩,hB.st c0,e0.st c0,n0,h9.st c0,t0.st c0,u0.st c0,k0.st c0⟩
  replace a0:=im a0 i2
  refine Am rfl rfl (Aw rfl rfl (Am rfl rfl (Aw rfl rfl (AE rfl rfl (Aw rfl rfl (AC (hc:=Blk.cell (i:=3) (n0.1) rfl) rfl rfl ?_))))))
  refine Aw rfl rfl (AP rfl rfl ?_)
  replace k0:=k0.st c0
  have s3:x0.ops.length≤9223372036854775807:=Nat.le_trans k0.len.2.1 k0.len.2.2
  have i5:inI64 (x0.ops.length:Int):=rngNat s3
  refine Aw rfl rfl (FM rfl rfl rfl (fun j2=>?_) fun j2=>?_)
  ·
   replace a0:=ip a0 j2
   refine AQ rfl rfl rfl (Am rfl rfl (At rfl rfl rfl rfl (At rfl rfl rfl rfl (At rfl rfl rfl rfl (At rfl rfl rfl rfl (At rfl rfl rfl rfl (At rfl rfl rfl rfl (At rfl rfl rfl rfl (At rfl rfl rfl rfl (At rfl rfl rfl rfl (AY rfl rfl rfl (o_z ?_))))))))))))
   obtain rfl:=sm a0
   exact ⟨(),_,⟨rfl,rfl,rfl,rfl,trivial⟩,hB.st c0,e0.st c0,n0,h9.st c0,t0.st c0,u0.st c0,k0⟩
  replace a0:=im a0 j2
  refine AQ rfl rfl rfl (Am rfl rfl (Aw rfl rfl (AE rfl rfl (Aw rfl rfl (AC (hc:=Blk.cell (i:=3) (n0.1) rfl) rfl rfl ?_)))))
  refine Aw rfl rfl (Am rfl rfl (Aw rfl rfl ?_))
  obtain ⟨j5,t3,a0⟩:=bs a0
  obtain ⟨u3,v3⟩:=AO t3
  obtain ⟨k5,l5,w3,k2,l2,m2,m5,n5,rfl,i3,x3,o5,p5⟩:=k0.elem' v3
  obtain ⟨q5,r5,rfl⟩:=i3.form
  obtain ⟨s5,t5,rfl⟩:=x3.form
  refine Bo (hA:=k2) (hj:=(Int.toNat_of_nonneg u3).symm) (hlt:=l2) rfl rfl rfl ?_
  refine Aw rfl rfl (AE rfl rfl (Aw rfl rfl (AC (hc:=cat2 m2) rfl rfl ?_)))
  refine Aw rfl rfl (Am rfl rfl (Aw rfl rfl ?_))
  obtain ⟨j3,y3,a0⟩:=bs a0
  replace e0:=e0.st c0
  refine AV (O:=r1) (A:=All q1) (R:=fun w' F v=>Vb w' F v j3) (IQ (fun _ h=>h) (Vb.mono (F:=Fr 0 q1 r1) i3 Fr.lt) (Vb.mono (F:=Fr 0 q1 r1) e0 Fr.lt) y3) rfl rfl fun u5 w5 x5 l0 z3=>?_
  obtain rfl:=z3.bool
  cases j3
  case false =>
   replace a0:=iF a0
   refine Aw rfl rfl (Cq rfl rfl (AQ rfl rfl rfl (o_z ?_)))
   obtain rfl:=sm a0
   exact ⟨(),_,⟨rfl,rfl,rfl,rfl,trivial⟩,(hB.st c0).st l0,e0.st l0,n0.st l0,(h9.st c0).st l0,(t0.st c0).st l0,(u0.st c0).st l0,k0.st l0⟩
  replace a0:=iT a0
  refine Aw rfl rfl (Cp rfl rfl (AQ rfl rfl rfl (o_z ?_)))
  obtain rfl:=sm a0
  exact ⟨(),_,⟨rfl,rfl,rfl,rfl,trivial⟩,(hB.st c0).st l0,e0.st l0,n0.st l0,(h9.st c0).st l0,(t0.st c0).st l0,(u0.st c0).st l0,k0.st l0⟩
 replace hB:=hB.st c0
 replace e0:=e0.st c0
 replace h9:=h9.st c0
 replace t0:=t0.st c0
 replace u0:=u0.st c0
 replace k0:=k0.st c0
 rintro y5 a4 ⟨r3,k3,n2,hB,e0,n0,h9,t0,u0,k0⟩
 refine AN _ n2 ?_
 refine CV rfl (fun o2=>?_) (fun o2=>?_)
 ·
  replace hm:=ip hm o2
  refine Al (Aj (An rfl rfl (An rfl rfl (o_z ?_))))
  refine AG ?_
  obtain rfl:=sm hm
  exact ret2 rfl (Az rfl) (Az rfl) ⟨hB.ext,_,_,rfl,(Vb.mono (F:=Fr 0 a4 k3) (Vb.nil _ _) hB.out),vBool⟩
 replace hm:=im' hm o2
 refine AI (Al (Aj (BX 3 (by decide) k3 (xs:=(([]:List Int):List Int)) rfl rfl rfl rfl trivial (by decide) (by decide) rfl fun z5 a6 b6 c1 b4=>?_)))
 refine Am rfl rfl ?_
 obtain ⟨s1,p2,hm⟩:=bs hm
 obtain ⟨p2,c4,d4⟩:=Cc p2
 replace e0:=e0.st c1
 refine CX rfl b4 (e0.rd) rfl rfl (by decide) c4 d4 rfl fun t1 u1 c6 e4 d1 l3=>?_
 rw [← p2] at l3 ⊢
 refine An rfl rfl (o_z ?_)
 refine Al (Al (Aj (AE rfl rfl ?_)))
 replace n0:=(n0.st c1).st d1
 refine AC (hc:=Blk.cell (i:=3) (n0.1) rfl) rfl rfl ?_
 refine Am rfl rfl ?_
 obtain ⟨b1,f4,hm⟩:=bs hm
 obtain ⟨g4,h4⟩:=AO f4
 replace k0:=(k0.st c1).st d1
 obtain ⟨d6,e6,i4,q2,r2,s2,f6,g6,rfl,j4,f0,k4,l4⟩:=k0.elem' h4
 obtain ⟨m4,n4,rfl⟩:=j4.form
 obtain ⟨e1,f1,rfl⟩:=f0.form
 refine Bo (hA:=q2) (hj:=(Int.toNat_of_nonneg g4).symm) (hlt:=r2) rfl rfl rfl ?_
 refine AE rfl rfl (AC (hc:=cat3 s2) rfl rfl ?_)
 refine AP rfl rfl ?_
 have y0:b1.effs.length≤9223372036854775807:=Nat.le_trans f0.len.2.1 f0.len.2.2
 have o4:inI64 (b1.effs.length:Int):=rngNat y0
 refine Am rfl rfl (o_z ?_)
 obtain ⟨z0,g1,hm⟩:=bs hm
 refine AJ (aft z0 (fun (m0:(List Int)) (o0:Unit)=>[(8,(.slice t1 s1.length u1))]) (fun m0 o0 w'=>∃ O':Lab,Bs w A w' O'∧Rw 3 w' O' 3 (.slice t1 s1.length u1) m0)) ?_ ?_
 ·
  refine AM ?_
  replace hB:=(hB.st c1).st d1
  replace e0:=e0.st d1
  refine By (σ:=(List Int)) (X:=Unit) (b1.effs.length) g1 rfl y0 (fun (m0:(List Int)) (o0:Unit)=>[(1,(.slice o1 x1.length p1)),(8,(.slice t1 s1.length u1)),(39,(.slice e1 b1.effs.length f1))]) _ (fun m0 o0 w'=>∃ O':Lab,Bs w A w' O'∧Vb w' (Fr 0 w' O') (.slice o1 x1.length p1) x1∧Rw 3 w' O' 3 (.slice t1 s1.length u1) m0∧Vb w' (Fr 0 w' O') (.slice e1 b1.effs.length f1) b1.effs) _ () ⟨e4,hB,e0,l3,f0⟩ ⟨rfl,rfl,rfl,rfl,rfl,trivial⟩ (fun _ _=>⟨rfl,rfl⟩) (fun _ _=>⟨rfl,trivial⟩) (fun _ _ _ ⟨O',hB,e0,d0,f0⟩=>⟨O',hB,d0⟩) ⟨rfl,rfl,rfl⟩ ⟨rfl,rfl⟩ ?_
  rintro t2 p0 m0 o0 p4 m3 v0 ⟨u2,hB,e0,d0,f0⟩ b0 v1 w1
  have rk113:inI64 (t2:Int):=rngK v0 y0
  refine Al (Aj ?_)
  obtain ⟨q4,r4,n3,h1,i1,j1,s4,rfl,q0,t4,v2⟩:=f0.elem' v0
  obtain ⟨w2,y2,rfl⟩:=q0.form
  refine Bo (hA:=h1) (hj:=rfl) (hlt:=i1) rfl rfl rfl ?_
  refine Bk (hl:=rfl) (hc:=j1) rfl rfl ?_
  refine Ch 4 u2 rfl fun z2 u4 r0 i0 g0=>?_
  refine Br g0 rfl rfl rfl (BN rfl) (allOne rfl) fun s0 j0 g0=>?_
  replace g0:Lc 4 s0 r0 z2 76 [(.slice w2 p0.cond.length y2),(.int .i64 p0.var),(.int .i64 p0.val)]:=g0
  refine o_z ?_
  refine Al (Aj (AE rfl rfl (AC (hc:=Blk.cell (i:=0) (g0.1) rfl) rfl rfl ?_)))
  refine Am rfl rfl ?_
  obtain ⟨k1,a3,b0⟩:=bs b0
  replace e0:=(e0.st i0).st j0
  replace q0:=(q0.st i0).st j0
  refine AV (O:=r0) (A:=All s0) (R:=fun w' F v=>Vb w' F v k1) (IQ (fun _ h=>h) (Vb.mono (F:=Fr 0 s0 r0) q0 Fr.lt) (Vb.mono (F:=Fr 0 s0 r0) e0 Fr.lt) a3) rfl rfl fun v4 w4 x4 h0 b3=>?_
  obtain rfl:=b3.bool
  cases k1
  case false =>
   replace b0:=iF b0
   refine o_z ?_
   refine Ae rfl (AI ?_)
   obtain rfl:=sm b0
   exact show Exists _ from ⟨_,(),rfl,⟨rfl,rfl,rfl,rfl,rfl,trivial⟩,_,((hB.st i0).st j0).st h0,e0.st h0,((d0.st i0).st j0).st h0,((f0.st i0).st j0).st h0⟩
  replace b0:=iT b0
  refine o_z ?_
  refine Ah rfl (Aj (Am rfl rfl (AE rfl rfl ?_)))
  replace g0:=g0.st h0
  refine AC (hc:=Blk.cell (i:=1) (g0.1) rfl) rfl rfl ?_
  refine AE rfl rfl (AC (hc:=Blk.cell (i:=2) (g0.1) rfl) rfl rfl ?_)
  obtain ⟨y4,c3,b0⟩:=bs b0
  obtain ⟨d3,l1⟩:=AO c3
  replace d0:=((d0.st i0).st j0).st h0
  obtain ⟨z4,a5,o3,w0,m1,p3,rfl,b5⟩:=d0.elem l1
  refine Bo (hA:=w0) (hj:=(Int.toNat_of_nonneg d3).symm) (hlt:=m1) rfl rfl rfl ?_
  refine Dh rfl d0 (a:=p0.val) (vInt v2) w0 rfl rfl (AD l1) fun c5 a1 d0=>?_
  refine o_z ?_
  obtain rfl:=sm b0
  exact show Exists _ from ⟨_,(),rfl,⟨rfl,rfl,rfl,rfl,rfl,trivial⟩,_,(((hB.st i0).st j0).st h0).st a1,(e0.st h0).st a1,d0,(((f0.st i0).st j0).st h0).st a1⟩
 replace hB:=(hB.st c1).st d1
 rintro d5 e3 ⟨e5,f5,rfl,n1,g5,hB,d0⟩
 replace hm:=AX hm
 refine AN _ n1 ?_
 refine Al (Aj (Am rfl rfl (An rfl rfl (An rfl rfl (o_z ?_)))))
 refine AG ?_
 obtain ⟨f3,g3,d0⟩:=d0.freeze
 obtain rfl:=sm hm
 replace hB:=hB.st g3
 exact ret2 rfl (Az rfl) (Az rfl) ⟨hB.ext,_,_,rfl,(Vb.mono (F:=Fr 0 e3 f3) d0 hB.out),vBool⟩
noncomputable def Dg (x0:List Int) (x1:List Int):Option Int :=
  bnd (rng (ρ:=Int) (fun (k13:Nat) (a14:Int) (s11:Int)=>bnd (x0[k13]?) fun a26=>bnd (chkI (s11 * a26)) fun n36=>bnd (chkI (n36 + a14)) fun n47=>some (.next n47)) x1 0 0) fun res9=>fin res9 fun (s54:Int)=>some s54
theorem Hy {w:World} {A:Nat→Prop} (hA:∀ k,A k→k < w.heap.size) {vx0:Value} {x0:List Int} (c0:Vb w A vx0 x0) {vx1:Value} {x1:List Int} (b0:Vb w A vx1 x1) {r:Int} (hm:Dg x0 x1=some r) :
    Fn Tryz.prog 40 [vx0,vx1] w fun v w'=>Ext w w'∧Vb w' (upA A w w') v r:=by
 obtain ⟨O,hB,s0⟩:=enter hA
 replace c0:=c0.mono s0
 obtain ⟨A3,c4,rfl⟩:=c0.form
 replace b0:=b0.mono s0
 obtain ⟨A5,c6,rfl⟩:=b0.form
 refine AH Tryz.func40 rfl Tryz.ntmps40 rfl ?_
 unfold Dg at hm
 refine Al (Aj (An rfl rfl (o_z ?_)))
 refine Al (Aj (An rfl rfl (o_z ?_)))
 refine Al (Al (Aj (Am rfl rfl (AP rfl rfl ?_))))
 have l8:x1.length≤9223372036854775807:=Nat.le_trans b0.len.2.1 b0.len.2.2
 have r7:inI64 (x1.length:Int):=rngNat l8
 refine Am rfl rfl (o_z ?_)
 obtain ⟨h0,i0,hm⟩:=bs hm
 refine AJ (aft h0 (fun (d0:Int) (f0:Unit)=>[(5,(.int .i64 d0))]) (fun d0 f0 w'=>∃ O':Lab,Bs w A w' O'∧inI64 d0)) ?_ ?_
 ·
  refine AM (By (σ:=Int) (X:=Unit) (x1.length) i0 rfl l8 (fun (d0:Int) (f0:Unit)=>[(0,(.slice A3 x0.length c4)),(1,(.slice A5 x1.length c6)),(5,(.int .i64 d0))]) _ (fun d0 f0 w'=>∃ O':Lab,Bs w A w' O'∧Vb w' (Fr 0 w' O') (.slice A3 x0.length c4) x0∧Vb w' (Fr 0 w' O') (.slice A5 x1.length c6) x1∧inI64 d0) _ () ⟨O,hB,c0,b0,(show inI64 (0) from by decide)⟩ ⟨rfl,rfl,rfl,rfl,rfl,trivial⟩ (fun _ _=>⟨rfl,rfl⟩) (fun _ _=>⟨rfl,trivial⟩) (fun _ _ _ ⟨O',hB,c0,b0,g0⟩=>⟨O',hB,g0⟩) ⟨rfl,rfl,rfl⟩ ⟨rfl,rfl⟩ ?_)
  rintro v0 d1 d0 f0 w0 y0 e0 ⟨e1,hB,c0,b0,g0⟩ a0 j0 k0
  have rk13:inI64 (v0:Int):=rngK e0 l8
  refine Al (Aj (Am rfl rfl (An rfl rfl (o_z ?_))))
  refine Ct (·=w0) [(0,true),(1,true),(2,true),(3,true),(4,true),(5,true),(6,true),(7,true),(8,true),(9,true),(10,true),(11,true)] (by kernel_rfl) rfl (by kernel_rfl) rfl ?_
  refine AK rfl rfl rfl (AK rfl rfl rfl (AK rfl rfl rfl ?_))
  obtain ⟨f1,z0,a0⟩:=bs a0
  obtain ⟨g1,h1,a1,l0,m0,n0,rfl,i1⟩:=c0.elem' z0
  refine BU (hA:=l0) (hj:=rfl) (hlt:=m0) rfl rfl rfl rfl ?_
  refine Cu (hc:=cat0 n0) rfl rfl rfl ?_
  obtain ⟨j1,t0,a0⟩:=bs a0
  have k1:=(Bw t0)
  refine RO (he:=t0) rfl rfl rfl rfl ?_
  refine AK rfl rfl rfl (AK rfl rfl rfl ?_)
  obtain ⟨l1,m1,b1,o0,p0,q0,rfl,n1⟩:=b0.elem' e0
  refine BU (hA:=o0) (hj:=rfl) (hlt:=p0) rfl rfl rfl rfl ?_
  refine Cu (hc:=cat0 q0) rfl rfl rfl ?_
  obtain ⟨o1,u0,a0⟩:=bs a0
  have c1:=(Bw u0)
  refine PI (he:=u0) rfl rfl rfl rfl ?_
  refine Ek rfl rfl rfl (h_z ?_)
  obtain rfl:=sm a0
  exact show Exists _ from ⟨_,(),rfl,⟨rfl,rfl,rfl,rfl,rfl,trivial⟩,_,hB,c0,b0,c1⟩
 rintro p1 q1 ⟨r1,s1,rfl,r0,t1,hB,g0⟩
 replace hm:=AX hm
 refine AN _ r0 ?_
 refine Al (Aj (Am rfl rfl (An rfl rfl (o_z ?_))))
 refine AG ?_
 obtain rfl:=sm hm
 exact ret1v rfl (Az rfl) ⟨hB.ext,(vInt g0)⟩
noncomputable def ET (x0:Tsk):Option (List Edg) :=
  bnd (Eb x0.vars) fun q24=>bnd (rng (ρ:=(List Edg)) (fun (k39:Nat) (a40:List Int) (s37:(List Edg))=>bnd (rng (ρ:=Ctl (List Edg) (List Edg)) (fun (k71:Nat) (a72:Opr) (s69:(List Edg))=>bnd (Cw x0 a40 (k71:Int)) fun q86=>if q86.2=true then (bnd (Dg x0.vars q86.1) fun q100=>bnd (appI 24 s69 [(⟨(k39:Int),(k71:Int),q100⟩:Edg)]) fun u108=>some (.next u108)) else (some (.next s69))) x0.ops 0 s37) fun res67=>fin res67 fun (s124:(List Edg))=>some (.next s124)) q24 0 ([]:List Edg)) fun res35=>fin res35 fun (s130:(List Edg))=>some s130
theorem Mh {w:World} {A:Nat→Prop} (hA:∀ k,A k→k < w.heap.size) {vx0:Value} {x0:Tsk} (p1:Vb w A vx0 x0) {r:(List Edg)} (hm:ET x0=some r) :
    Fn Tryz.prog 62 [vx0] w fun v w'=>Ext w w'∧Vb w' (upA A w w') v r:=by
 obtain ⟨O,hB,u2⟩:=enter hA
 replace p1:=p1.mono u2
 obtain ⟨x3,rfl,v3,v4,v5,v6,rfl,h7,h0,i0,e0⟩:=p1
 obtain ⟨A8,c9,rfl⟩:=h7.form
 obtain ⟨s0,t0,rfl⟩:=h0.form
 obtain ⟨u0,v0,rfl⟩:=i0.form
 obtain ⟨w0,y0,rfl⟩:=e0.form
 refine AH Tryz.func62 rfl Tryz.ntmps62 rfl ?_
 unfold ET at hm
 refine Al (Aj (Dc 2 O rfl rfl fun a1 v2 q2 f1 b0=>?_))
 replace b0:Lc 2 v2 q2 a1 26 [(.slice A8 x0.vars.length c9),(.slice s0 x0.init.length t0),(.slice u0 x0.goal.length v0),(.slice w0 x0.ops.length y0)]:=b0
 refine An rfl rfl (o_z ?_)
 refine Al (Aj (An rfl rfl (o_z ?_)))
 refine Al (Al (Aj (AE rfl rfl (AC (hc:=Blk.cell (i:=0) (b0.1) rfl) rfl rfl ?_))))
 obtain ⟨j0,w2,hm⟩:=bs hm
 replace h7:=h7.st f1
 refine CK (O:=q2) (R:=fun w' F v=>Vb w' F v j0) (Lw Fr.lt h7 w2) rfl rfl fun y3 z3 x2 b1 k0=>?_
 obtain ⟨g1,h1,rfl⟩:=k0.form
 refine AP rfl rfl ?_
 have q1:j0.length≤9223372036854775807:=Nat.le_trans k0.len.2.1 k0.len.2.2
 have a4:inI64 (j0.length:Int):=rngNat q1
 refine Am rfl rfl (o_z ?_)
 obtain ⟨i1,r1,hm⟩:=bs hm
 refine AJ (aft i1 (fun (o0:(List Edg)) (l0:(Option Addr×Nat))=>[(3,(.slice l0.1 o0.length l0.2))]) (fun o0 l0 w'=>∃ O':Lab,Bs w A w' O'∧Rw 3 w' O' 112 (.slice l0.1 o0.length l0.2) o0)) ?_ ?_
 ·
  refine AM ?_
  replace hB:=(hB.st f1).st b1
  replace h7:=h7.st b1
  replace h0:=(h0.st f1).st b1
  replace i0:=(i0.st f1).st b1
  replace e0:=(e0.st f1).st b1
  replace b0:=b0.st b1
  refine By (σ:=(List Edg)) (X:=(Option Addr×Nat)) (j0.length) r1 rfl q1 (fun (o0:(List Edg)) (l0:(Option Addr×Nat))=>[(1,(.pointer (some ⟨a1,0,none⟩))),(3,(.slice l0.1 o0.length l0.2)),(11,(.slice g1 j0.length h1))]) _ (fun o0 l0 w'=>∃ O':Lab,Bs w A w' O'∧Lc 2 w' O' a1 26 [(.slice A8 x0.vars.length c9),(.slice s0 x0.init.length t0),(.slice u0 x0.goal.length v0),(.slice w0 x0.ops.length y0)]∧Vb w' (Fr 0 w' O') (.slice A8 x0.vars.length c9) x0.vars∧Vb w' (Fr 0 w' O') (.slice s0 x0.init.length t0) x0.init∧Vb w' (Fr 0 w' O') (.slice u0 x0.goal.length v0) x0.goal∧Vb w' (Fr 0 w' O') (.slice w0 x0.ops.length y0) x0.ops∧Rw 3 w' O' 112 (.slice l0.1 o0.length l0.2) o0∧Vb w' (Fr 0 w' O') (.slice g1 j0.length h1) j0) _ (none,0) ⟨x2,hB,b0,h7,h0,i0,e0,(Rw.nil 3 (by decide)),k0⟩ ⟨rfl,rfl,rfl,rfl,rfl,trivial⟩ (fun _ _=>⟨rfl,rfl⟩) (fun _ _=>⟨rfl,trivial⟩) (fun _ _ _ ⟨O',hB,b0,h7,h0,i0,e0,c1,k0⟩=>⟨O',hB,c1⟩) ⟨rfl,rfl,rfl⟩ ⟨rfl,rfl⟩ ?_
  rintro d1 s1 o0 l0 b4 y2 j1 ⟨z2,hB,b0,h7,h0,i0,e0,c1,k0⟩ n0 t1 u1
  have rk39:inI64 (d1:Int):=rngK j1 q1
  refine Al (Aj (Am rfl rfl ?_))
  obtain ⟨c4,d4,a3,v1,w1,x1,e4,rfl,q0⟩:=k0.elem' j1
  replace q0:=Vb.of_slice q0
  obtain ⟨r2,s2,rfl⟩:=q0.form
  refine Bo (hA:=v1) (hj:=rfl) (hlt:=w1) rfl rfl rfl ?_
  refine AC (hc:=cat0 x1) rfl rfl ?_
  refine An rfl rfl (An rfl rfl (o_z ?_))
  refine Al (Aj (AE rfl rfl (AC (hc:=Blk.cell (i:=3) (b0.1) rfl) rfl rfl ?_)))
  refine AP rfl rfl ?_
  have y1:x0.ops.length≤9223372036854775807:=Nat.le_trans e0.len.2.1 e0.len.2.2
  have f4:inI64 (x0.ops.length:Int):=rngNat y1
  refine Am rfl rfl (o_z ?_)
  obtain ⟨k1,z1,n0⟩:=bs n0
  refine AJ (aft k1 (fun (p0:(List Edg)) (m0:(Option Addr×Nat))=>[(1,(.pointer (some ⟨a1,0,none⟩))),(3,(.slice m0.1 p0.length m0.2)),(11,(.slice g1 j0.length h1)),(12,(.int .i64 (j0.length:Int))),(13,(.int .i64 (d1:Int)))]) (fun p0 m0 w'=>∃ O':Lab,Bs w A w' O'∧Lc 2 w' O' a1 26 [(.slice A8 x0.vars.length c9),(.slice s0 x0.init.length t0),(.slice u0 x0.goal.length v0),(.slice w0 x0.ops.length y0)]∧Vb w' (Fr 0 w' O') (.slice A8 x0.vars.length c9) x0.vars∧Vb w' (Fr 0 w' O') (.slice s0 x0.init.length t0) x0.init∧Vb w' (Fr 0 w' O') (.slice u0 x0.goal.length v0) x0.goal∧Vb w' (Fr 0 w' O') (.slice w0 x0.ops.length y0) x0.ops∧Rw 3 w' O' 112 (.slice m0.1 p0.length m0.2) p0∧Vb w' (Fr 0 w' O') (.slice g1 j0.length h1) j0)) ?_ ?_
  ·
   refine AM (By (σ:=(List Edg)) (X:=(Option Addr×Nat)) (x0.ops.length) z1 rfl y1 (fun (p0:(List Edg)) (m0:(Option Addr×Nat))=>[(1,(.pointer (some ⟨a1,0,none⟩))),(3,(.slice m0.1 p0.length m0.2)),(4,(.int .i64 (d1:Int))),(5,(.slice r2 s1.length s2)),(11,(.slice g1 j0.length h1)),(12,(.int .i64 (j0.length:Int))),(13,(.int .i64 (d1:Int)))]) _ (fun p0 m0 w'=>∃ O':Lab,Bs w A w' O'∧Lc 2 w' O' a1 26 [(.slice A8 x0.vars.length c9),(.slice s0 x0.init.length t0),(.slice u0 x0.goal.length v0),(.slice w0 x0.ops.length y0)]∧Vb w' (Fr 0 w' O') (.slice A8 x0.vars.length c9) x0.vars∧Vb w' (Fr 0 w' O') (.slice s0 x0.init.length t0) x0.init∧Vb w' (Fr 0 w' O') (.slice u0 x0.goal.length v0) x0.goal∧Vb w' (Fr 0 w' O') (.slice w0 x0.ops.length y0) x0.ops∧Rw 3 w' O' 112 (.slice m0.1 p0.length m0.2) p0∧Vb w' (Fr 0 w' O') (.slice r2 s1.length s2) s1∧Vb w' (Fr 0 w' O') (.slice g1 j0.length h1) j0) _ (l0.1,l0.2) ⟨z2,hB,b0,h7,h0,i0,e0,c1,q0,k0⟩ ⟨rfl,rfl,rfl,rfl,rfl,rfl,rfl,rfl,rfl,trivial⟩ (fun _ _=>⟨rfl,rfl⟩) (fun _ _=>⟨rfl,rfl,rfl,rfl,rfl,trivial⟩) (fun _ _ _ ⟨O',hB,b0,h7,h0,i0,e0,z0,q0,k0⟩=>⟨O',hB,b0,h7,h0,i0,e0,z0,k0⟩) ⟨rfl,rfl,rfl⟩ ⟨rfl,rfl⟩ ?_)
   rintro o1 g4 p0 m0 h4 b3 a2 ⟨c3,hB,b0,h7,h0,i0,e0,z0,q0,k0⟩ a0 b2 c2
   have rk71:inI64 (o1:Int):=rngK a2 y1
   refine Al (Aj (Am rfl rfl (An rfl rfl (o_z ?_))))
   refine Al (Aj (Bk (hl:=rfl) (hc:=(b0.1).cellsAt) rfl rfl ?_))
   refine Am rfl rfl (Am rfl rfl ?_)
   obtain ⟨d3,e3,a0⟩:=bs a0
   refine CK (O:=c3) (R:=fun w' F v=>T2 w' F v d3) (Mg Fr.lt (Vb.ofAgg (cs:=[(.slice A8 x0.vars.length c9),(.slice s0 x0.init.length t0),(.slice u0 x0.goal.length v0),(.slice w0 x0.ops.length y0)]) (x:=x0) rfl ⟨_,_,_,_,rfl,h7,h0,i0,e0⟩) q0 rk71 e3) rfl rfl fun i4 d2 e2 d0 f3=>?_
   obtain ⟨j4,k4,rfl,t2,g3⟩:=f3
   obtain ⟨l4,m4,rfl⟩:=t2.form
   obtain rfl:=g3.bool
   refine Am rfl rfl (AZ rfl rfl rfl (AZ rfl rfl rfl (An rfl rfl (An rfl rfl (o_z ?_)))))
   refine Al (Aj (Am rfl rfl (o_z ?_)))
   refine CV rfl (fun f2=>?_) (fun f2=>?_)
   ·
    replace a0:=ip a0 f2
    refine Aj (Am rfl rfl (Am rfl rfl (Am rfl rfl (AE rfl rfl ?_))))
    replace b0:=b0.st d0
    refine AC (hc:=Blk.cell (i:=0) (b0.1) rfl) rfl rfl ?_
    refine Am rfl rfl ?_
    obtain ⟨r0,g2,a0⟩:=bs a0
    replace h7:=h7.st d0
    refine AV (O:=e2) (A:=All d2) (R:=fun w' F v=>Vb w' F v r0) (Hy (fun _ h=>h) (Vb.mono (F:=Fr 0 d2 e2) h7 Fr.lt) (Vb.mono (F:=Fr 0 d2 e2) t2 Fr.lt) g2) rfl rfl fun h3 i3 j3 c0 h2=>?_
    obtain ⟨rfl,i2⟩:=h2.int
    refine EC rfl rfl rfl ?_
    obtain ⟨k3,e1,a0⟩:=bs a0
    obtain ⟨e1,j2,k2⟩:=Cc e1
    replace z0:=(z0.st d0).st c0
    refine Ed rfl (a:=(⟨(d1:Int),(o1:Int),r0⟩:Edg)) z0 (Vb.ofAgg (cs:=[(.int .i64 (d1:Int)),(.int .i64 (o1:Int)),(.int .i64 r0)]) (x:=(⟨(d1:Int),(o1:Int),r0⟩:Edg)) rfl ⟨rfl,rk39,rk71,i2⟩) (fun _=>rfl) rfl (by decide) (by decide) j2 k2 ⟨rfl,rfl⟩ fun l3 l2 m2 m3 n3 f0 l1=>?_
    rw [← e1] at l1 ⊢
    refine An rfl rfl (o_z ?_)
    obtain rfl:=sm a0
    exact show Exists _ from ⟨_,(l2,m2),rfl,⟨rfl,rfl,rfl,rfl,rfl,rfl,rfl,rfl,rfl,trivial⟩,_,((hB.st d0).st c0).st f0,(b0.st c0).st f0,(h7.st c0).st f0,((h0.st d0).st c0).st f0,((i0.st d0).st c0).st f0,((e0.st d0).st c0).st f0,l1,((q0.st d0).st c0).st f0,((k0.st d0).st c0).st f0⟩
   replace a0:=im' a0 f2
   refine AI ?_
   obtain rfl:=sm a0
   exact show Exists _ from ⟨_,(m0.1,m0.2),rfl,⟨rfl,rfl,rfl,rfl,rfl,rfl,rfl,rfl,rfl,trivial⟩,_,hB.st d0,b0.st d0,h7.st d0,h0.st d0,i0.st d0,e0.st d0,z0.st d0,q0.st d0,k0.st d0⟩
  rintro o3 p3 ⟨q3,m1,rfl,g0,r3,hB,b0,h7,h0,i0,e0,z0,k0⟩
  replace n0:=AX n0
  obtain rfl:=sm n0
  exact show Exists _ from ⟨_,(m1.1,m1.2),rfl,⟨(Bn g0 _ _ rfl),(Bn g0 _ _ rfl),(Bn g0 _ _ rfl),(Bn g0 _ _ rfl),(Bn g0 _ _ rfl),trivial⟩,_,hB,b0,h7,h0,i0,e0,z0,k0⟩
 replace hB:=(hB.st f1).st b1
 rintro s3 n2 ⟨t3,u3,rfl,n1,w3,hB,c1⟩
 replace hm:=AX hm
 refine AN _ n1 ?_
 refine Al (Aj (Am rfl rfl (An rfl rfl (o_z ?_))))
 refine AG ?_
 obtain ⟨o2,p2,c1⟩:=c1.freeze
 obtain rfl:=sm hm
 replace hB:=hB.st p2
 exact ret1v rfl (Az rfl) ⟨hB.ext,(Vb.mono (F:=Fr 0 n2 o2) c1 hB.out)⟩
end
section
section
variable {α σ ρ : Type}
theorem Ci {s:σ} {f:σ→Option ρ}:fin (.done s) f=f s:=rfl
theorem RP {c:ρ} {f:σ→Option ρ}:fin (.ret c) f=some c:=rfl
theorem Dj {x y:α}:(if true=true then x else y)=x:=rfl
theorem Cx {x y:α}:(if false=true then x else y)=y:=rfl
theorem IU {f:Nat→α→σ→Option (Ctl σ ρ)} {I:Nat→σ→Prop} {R:ρ→Prop}:∀ (ys:List α) (j:Nat) (s:σ),I j s →
    (∀ k x s,ys[k]?=some x→I (j + k) s→(∃ s',f (j + k) x s=some (.next s')∧I (j + k + 1) s')∨(∃ r,f (j + k) x s=some (.ret r)∧R r)) →
    (∃ s',rng f ys j s=some (.done s')∧I (j + ys.length) s')∨∃ r,rng f ys j s=some (.ret r)∧R r
  | [],j,s,h0,_=>.inl ⟨s,rfl,h0⟩
  | y :: ys,j,s,h0,h=>by
    rcases h 0 y s rfl h0 with ⟨s',h1,h2⟩|⟨r,h1,h2⟩
    · have h1':f j y s=some (.next s'):=h1
      simp only [rng,h1']
      rcases IU (I:=I) (R:=R) ys (j + 1) s' h2 (fun k x s hk hI=>by
        have:=h (k + 1) x s (by simpa using hk) (by rwa [show j + (k + 1)=j + 1 + k from by omega])
        rwa [show j + (k + 1)=j + 1 + k from by omega] at this) with ⟨s2,h3,h4⟩|h3
      · exact .inl ⟨s2,h3,by rw [List.length_cons,show j + (ys.length + 1)=j + 1 + ys.length from by omega];exact h4⟩
      · exact .inr h3
    · have h1':f j y s=some (.ret r):=h1
      simp only [rng,h1']
      exact .inr ⟨r,rfl,h2⟩
theorem Na {f:Nat→α→σ→Option (Ctl σ ρ)} {xs:List α} {s₀:σ} (I:Nat→σ→Prop) (R:ρ→Prop) (h0:I 0 s₀)
    (h:∀ k x s,xs[k]?=some x→I k s→(∃ s',f k x s=some (.next s')∧I (k + 1) s')∨(∃ r,f k x s=some (.ret r)∧R r)) :
    (∃ s',rng f xs 0 s₀=some (.done s')∧I xs.length s')∨∃ r,rng f xs 0 s₀=some (.ret r)∧R r:=by
  have:=IU (f:=f) (I:=I) (R:=R) xs 0 s₀ h0 (fun k x s hk hI=>by rw [Nat.zero_add] at hI ⊢;exact h k x s hk hI)
  rwa [Nat.zero_add] at this
theorem Fg {f:Nat→α→σ→Option (Ctl σ ρ)} {xs:List α} {s₀:σ} (I:Nat→σ→Prop) (h0:I 0 s₀) (h:∀ k x s,xs[k]?=some x→I k s→∃ s',f k x s=some (.next s')∧I (k + 1) s') :
    ∃ s',rng f xs 0 s₀=some (.done s')∧I xs.length s':=by
  rcases Na I (fun _=>False) h0 (fun k x s hk hI=>.inl (h k x s hk hI)) with h|⟨_,_,h⟩
  · exact h
  · exact h.elim
theorem Nb {f:Nat→α→σ→Option (Ctl σ ρ)} {xs:List α} (g:Nat→σ) (h:∀ k x,xs[k]?=some x→f k x (g k)=some (.next (g (k + 1)))):rng f xs 0 (g 0)=some (.done (g xs.length)):=by
  obtain ⟨s',h1,h2⟩:=Fg (f:=f) (xs:=xs) (s₀:=g 0) (fun k s=>s=g k) rfl (fun k x s hk hI=>⟨_,by rw [hI];exact h k x hk,rfl⟩)
  rw [h1,h2]
theorem En {f:Nat→α→σ→Option (Ctl σ ρ)} {xs:List α} {s₀:σ} (g:Nat→σ) (h0:s₀=g 0) (h:∀ k x,xs[k]?=some x→f k x (g k)=some (.next (g (k + 1)))):rng f xs 0 s₀=some (.done (g xs.length)):=by
  rw [h0];exact Nb g h
theorem OV {f:Nat→σ→Option (Ctl σ ρ)} {N:Nat} (g:Nat→σ) (h:∀ k,k < N→f k (g k)=some (.next (g (k + 1)))):rngN f N (g 0)=some (.done (g N)):=by
  have:=Nb (f:=fun _ k s=>f k s) (xs:=List.range N) g (fun k x hk=>by
    obtain ⟨hlt,rfl⟩:=List.getElem?_eq_some_iff.1 hk
    simpa using h k (by simpa using hlt))
  rwa [List.length_range] at this
theorem Lp {f:Nat→σ→Option (Ctl σ ρ)} {N:Nat} {s₀:σ} (g:Nat→σ) (h0:s₀=g 0) (h:∀ k,k < N→f k (g k)=some (.next (g (k + 1)))):rngN f N s₀=some (.done (g N)):=by
  rw [h0];exact OV g h
end
end
section
open Go Go.RowKit
theorem Oa {vars:List Int} (h0:∀ (i:Nat) n,vars[i]?=some n→0≤n∧n≤64) (hb:∀ k,(statesL (vars.take k)).length≤1000000) (hvn:vars.length≤1000):Eb vars=some (statesL vars):=by
  unfold Eb
  rw [En (fun k=>statesL (vars.take k)) ?_ ?_]
  · rw [Ar,Ci,List.take_length]
  · rfl
  intro k n hn
  obtain ⟨N,rfl⟩:=Int.eq_ofNat_of_zero_le (h0 k n hn).1
  have hN:=(h0 k _ hn).2
  have hk:=AD hn
  have hlen:=hb k
  rw [En (fun i=>((statesL (vars.take k)).take i).flatMap (exts N)) ?_ ?_]
  · rw [Ar,Ci,List.take_length,ES hn];rfl
  · rfl
  intro i s hs
  have hsl:=MJ vars k (by omega) s (List.mem_of_getElem? hs)
  have hfl:=Hr N ((statesL (vars.take k)).take i)
  have hfl2:((statesL (vars.take k)).take i).length * N≤1000000 * 64:=Nat.mul_le_mul (by rw [List.length_take];omega) (by omega)
  rw [PT,Ar,Lp (fun x=>((statesL (vars.take k)).take i).flatMap (exts N) ++ exts x s) ?_ ?_]
  · rw [Ar,Ci,NZ _ hs]
  · simp [exts]
  intro x hx
  rw [Cy (by simp;omega) (by simp;omega),Ar,Cy (by simp;omega) (by simp;omega),Ar,Cy (by simp only [List.length_append,Ge,List.length_singleton];omega) (by simp only [List.length_append,Ge,List.length_singleton];omega),Ar,NY]
  simp
theorem Mi {t:Tsk} (h:Mid t):Eb t.vars=some (statesL t.vars) :=
  Oa (fun i n hn=>by have:=h.ok.vars i n hn;omega) (fun k=>by have:=h.states k;omega) (by have:=h.ok.1;omega)
end
section
open Go Go.RowKit
theorem JT (f:List Fct) (s:List Int):ER f s=some (holdsB f s):=rfl
theorem Mj {ρ:Type} {s:List Int} {effs:List Eff} (he:EffsIn s effs) (m:List Fct→List Int→Option Bool) (hm:∀ f s,m f s=some (holdsB f s)) (u:List Int) (hu:u.length=s.length) :
    rng (ρ:=ρ) (fun (_:Nat) (e:Eff) (out:List Int)=>bnd (m e.cond s) fun q=>if q=true then bnd (atI out e.var) fun _=>some (.next (out.set (e.var).toNat e.val)) else some (.next out)) effs 0 u=some (.done (effsOn s effs u)):=by
  rw [En (fun k=>effsOn s (effs.take k) u) ?_ ?_,List.take_length]
  · rfl
  intro k e hk
  rw [hm,Ar,ME s hk]
  have hin:=he k e hk
  have hl:=Ir s (effs.take k) u
  by_cases hb:holdsB e.cond s=true
  · rw [if_pos hb,if_pos hb]
    obtain ⟨j,hj⟩:=Int.eq_ofNat_of_zero_le hin.1
    rw [hj,BY,List.getElem?_eq_getElem (by omega),Ar]
  · rw [if_neg hb,if_neg hb]
theorem OW {t:Tsk} {s:List Int} {j:Nat} {o:Opr} (ho:t.ops[j]?=some o) (hp:holdsB o.pre s=true) (hl:s.length≤1000000) (he:EffsIn s o.effs):Cw t s (j:Int)=some (succ o s,true):=by
  have hj:=AD ho
  unfold Cw
  rw [if_neg (by omega),if_neg (by omega),BY,ho,Ar,JT,Ar,hp,Dj,Ar,Cx,Cy (by simp;omega) (by simp;omega),Ar,Ar,List.nil_append,Mj he ER JT s rfl,Ar,Ci]
  rfl
theorem Lq {vars s:List Int}:∀ (l:List Eff),(∀ e∈l,EffOk vars e)→∀ (u:List Int),StateOk vars u→StateOk vars (effsOn s l u)
  | [],_,_,hu=>hu
  | e :: l,he,u,hu=>by
    refine Lq l (fun e' h'=>he e' (List.mem_cons_of_mem _ h')) _ ?_
    split
    · obtain ⟨_,h1,h2,y,hy,h3⟩:=he e List.mem_cons_self
      refine ⟨by rw [List.length_set];exact hu.1,fun i x n hx hn=>?_⟩
      rw [List.getElem?_set] at hx
      by_cases hi:e.var.toNat=i
      · subst hi
        rw [if_pos rfl] at hx
        split at hx
        · obtain rfl:=Option.some.inj hx
          simp only at hy h2 h3
          rw [hy] at hn
          obtain rfl:=Option.some.inj hn
          exact ⟨h2,h3⟩
        · cases hx
      · rw [if_neg hi] at hx
        exact hu.2 i x n hx hn
    · exact hu
theorem KL {t:Tsk} (h:TaskOk t) {s:List Int} (hs:StateOk t.vars s) {k:Nat} {o:Opr} (ho:t.ops[k]?=some o):StateOk t.vars (succ o s) :=
  Lq o.effs (fun e he=>by obtain ⟨j,hj⟩:=List.getElem?_of_mem he;exact (h.2.2.2.2.2 k o ho).2.2.2.2.2 j e hj) s hs
theorem Lr {t:Tsk} (h:TaskOk t) {s:List Int} (hs:StateOk t.vars s) {k:Nat} {o:Opr} (ho:t.ops[k]?=some o):Cw t s (k:Int)=some (if holdsB o.pre s=true then (succ o s,true) else ([],false)):=by
  have hk:=AD ho
  by_cases hp:holdsB o.pre s=true
  · rw [OW ho hp (by have:=hs.1;have:=h.1;omega) (h.effs hs k o ho),if_pos hp]
  · unfold Cw
    rw [if_neg (by omega),if_neg (by omega),BY,ho,Ar,JT,Ar,if_neg hp,if_neg hp,Ar,Dj]
theorem JU {n:Nat} (hn:0 < n):∀ (l:List (List Int)) (q:Nat),(l.flatMap (exts n))[q]?=(l[q / n]?).map (· ++ [((q % n:Nat):Int)])
  | [],q=>by simp
  | a :: l,q=>by
    rw [List.flatMap_cons]
    by_cases hq:q < n
    · rw [List.getElem?_append_left (by rw [Ge];exact hq),Nat.div_eq_of_lt hq,Nat.mod_eq_of_lt hq]
      simp [exts,hq]
    · rw [List.getElem?_append_right (by rw [Ge];omega),Ge,JU hn l (q - n)]
      obtain ⟨r,rfl⟩:∃ r,q=r + n:=⟨q - n,by omega⟩
      rw [Nat.add_sub_cancel,Nat.add_div_right _ hn,Nat.add_mod_right]
      simp
theorem Kw {vars:List Int} (hv:∀ (i:Nat) n,vars[i]?=some n→1≤n):∀ (k:Nat),k≤vars.length→∀ (i j:Nat) (s:List Int),(statesL (vars.take k))[i]?=some s→(statesL (vars.take k))[j]?=some s→i=j
  | 0,_,i,j,s,h1,h2=>by
    have e1:=AD h1
    have e2:=AD h2
    simp [statesL] at e1 e2
    omega
  | k + 1,hk,i,j,s,h1,h2=>by
    obtain ⟨n,hn⟩:=AF (l:=vars) (k:=k) (by omega)
    have hn1:=hv k n hn
    rw [ES hn] at h1 h2
    unfold grows at h1 h2
    rw [JU (by omega)] at h1 h2
    obtain ⟨p,hp,rfl⟩:=Option.map_eq_some_iff.1 h1
    obtain ⟨p',hp',e⟩:=Option.map_eq_some_iff.1 h2
    obtain ⟨e1,e2⟩:=List.append_inj' e rfl
    subst e1
    have:=Kw hv k (by omega) _ _ _ hp hp'
    have e3:j % n.toNat=i % n.toNat:=by
      have:=List.singleton_inj.1 e2
      omega
    have d1:=Nat.div_add_mod i n.toNat
    have d2:=Nat.div_add_mod j n.toNat
    rw [this,← e3] at d1
    omega
theorem JG {t:Tsk} (h:TaskOk t) {i j:Nat} {s:List Int} (h1:(statesL t.vars)[i]?=some s) (h2:(statesL t.vars)[j]?=some s):i=j:=by
  have:=Kw (vars:=t.vars) (fun i n hn=>(h.vars i n hn).1) t.vars.length (Nat.le_refl _) i j s
  rw [List.take_length] at this
  exact this h1 h2
theorem HH {t:Tsk} (h:Mid t) {s:List Int} (hs:StateOk t.vars s):∃ i:Nat,Dg t.vars s=some (i:Int)∧(statesL t.vars)[i]?=some s:=by
  unfold Dg
  obtain ⟨r,h1,i,rfl,h2⟩:=Fg (ρ:=Int) (f:=fun (k11:Nat) (a12:Int) (s9:Int)=>bnd (t.vars[k11]?) fun a24=>bnd (chkI (s9 * a24)) fun n34=>bnd (chkI (n34 + a12)) fun n45=>some (.next n45)) (xs:=s) (s₀:=0) (fun k r=>∃ i:Nat,r=(i:Int)∧(statesL (t.vars.take k))[i]?=some (s.take k)) ⟨0,rfl,by simp [statesL]⟩ (fun k x r hk hI=>by
    obtain ⟨i,rfl,hi⟩:=hI
    have hlt:=AD hk
    obtain ⟨n,hn⟩:=AF (l:=t.vars) (k:=k) (by rw [← hs.1];exact hlt)
    have hn1:=h.ok.vars k n hn
    obtain ⟨hx1,hx2⟩:=hs.2 k x n hk hn
    obtain ⟨x,rfl⟩:=Int.eq_ofNat_of_zero_le hx1
    obtain ⟨n,rfl⟩:=Int.eq_ofNat_of_zero_le (by omega:0≤n)
    have hget:(statesL (t.vars.take (k + 1)))[i * n + x]?=some (s.take (k + 1)):=by
      rw [ES hn]
      show ((statesL (t.vars.take k)).flatMap (exts ((n:Int)).toNat))[i * n + x]?=_
      rw [show ((n:Int)).toNat=n from by omega,JU (by omega)]
      have e1:(i * n + x) / n=i:=by
        rw [Nat.mul_comm,Nat.mul_add_div (by omega),Nat.div_eq_of_lt (by omega)];omega
      have e2:(i * n + x) % n=x:=by
        rw [Nat.mul_comm,Nat.mul_add_mod,Nat.mod_eq_of_lt (by omega)]
      rw [e1,e2,hi,List.take_add_one,hk];rfl
    have hb:=AD hget
    have hb2:=h.states (k + 1)
    have e3:(i:Int) * (n:Int)=((i * n:Nat):Int):=by simp
    rw [hn,Ar,e3,Cb (by unfold inI64;omega),Ar,Cb (by unfold inI64;omega),Ar]
    exact ⟨_,rfl,i * n + x,by omega,hget⟩)
  rw [List.take_length,hs.1,List.take_length] at h2
  exact ⟨i,by rw [h1,Ar,Ci],h2⟩
theorem Qf {t:Tsk} (h:Mid t) {s:List Int} {i:Nat} (hi:(statesL t.vars)[i]?=some s):Dg t.vars s=some (i:Int):=by
  obtain ⟨j,h1,h2⟩:=HH h (Gm.1 (List.mem_of_getElem? hi))
  rw [h1,JG h.ok h2 hi]
def EdgeOk (t:Tsk) (e:Edg):Prop:=∃ (i k j:Nat) (s:List Int) (o:Opr),e=⟨i,k,j⟩∧(statesL t.vars)[i]?=some s∧t.ops[k]?=some o∧holdsB o.pre s=true∧(statesL t.vars)[j]?=some (succ o s)
theorem OX {t:Tsk} (h:Mid t):∃ es,ET t=some es∧∀ e,e∈es↔EdgeOk t e:=by
  have hlen:(statesL t.vars).length≤600:=by have:=h.states t.vars.length;rwa [List.take_length] at this
  have hops:=h.ops
  have uniq:∀ {i i':Nat} {s:List Int},(statesL t.vars)[i]?=some s→(statesL t.vars)[i']?=some s→i=i':=fun h1 h2=>JG h.ok h1 h2
  unfold ET
  rw [Mi h,Ar]
  obtain ⟨es, h1,h2,h3⟩:=Fg (ρ:=List Edg) (f:=fun (k38:Nat) (a39:List Int) (s36:(List Edg))=>bnd (rng (ρ:=Ctl (List Edg) (List Edg)) (fun (k70:Nat) (_:Opr) (s68:(List Edg))=>bnd (Cw t a39 (k70:Int)) fun q85=>if q85.2=true then (bnd (Dg t.vars q85.1) fun q99=>bnd (appI 24 s68 [(⟨(k38:Int),(k70:Int),q99⟩:Edg)]) fun u107=>some (.next u107)) else (some (.next s68))) t.ops 0 s36) fun res66=>fin res66 fun (s123:(List Edg))=>some (.next s123)) (xs:=statesL t.vars) (s₀:=[])
    (fun n acc=>acc.length≤n * 80∧∀ e,e∈acc↔EdgeOk t e∧e.src < (n:Int)) ⟨by simp,fun e=>⟨fun he=>by simp at he,fun ⟨⟨i,_,_,_,_,hE,_⟩,hlt⟩=>by subst hE;simp only at hlt;omega⟩⟩ (fun n s acc hn hI=>by
      obtain ⟨i1,i2⟩:=hI
      have hnlt:=AD hn
      have hs:StateOk t.vars s:=Gm.1 (List.mem_of_getElem? hn)
      obtain ⟨es,g1,g2,g3⟩:=Fg (ρ:=Ctl (List Edg) (List Edg)) (f:=fun (k70:Nat) (_:Opr) (s68:(List Edg))=>bnd (Cw t s (k70:Int)) fun q85=>if q85.2=true then (bnd (Dg t.vars q85.1) fun q99=>bnd (appI 24 s68 [(⟨(n:Int),(k70:Int),q99⟩:Edg)]) fun u107=>some (.next u107)) else (some (.next s68))) (xs:=t.ops) (s₀:=acc)
        (fun m acc'=>acc'.length≤n * 80 + m∧∀ e,e∈acc'↔EdgeOk t e∧(e.src < (n:Int)∨e.src=(n:Int)∧e.op < (m:Int))) ⟨by omega,fun e=>by
          rw [i2]
          constructor
          · rintro ⟨a,b⟩;exact ⟨a,.inl b⟩
          · rintro ⟨a,b|⟨b,c⟩⟩
            · exact ⟨a,b⟩
            · obtain ⟨i,k,j,s',o,rfl,_⟩:=a
              simp at c;omega⟩ (fun m o acc' hm hI=>by
          obtain ⟨j1,j2⟩:=hI
          have hmlt:=AD hm
          rw [Lr h.ok hs hm,Ar]
          by_cases hp:holdsB o.pre s=true
          · obtain ⟨r,hr,hr2⟩:=HH h (KL h.ok hs hm)
            rw [if_pos hp,Dj,hr,Ar,Cy (by simp;omega) (by simp;omega),Ar]
            refine ⟨_,rfl,by simp;omega,fun e=>?_⟩
            rw [List.mem_append,j2]
            constructor
            · rintro (⟨a,b⟩|hmem)
              · refine ⟨a,?_⟩
                rcases b with b|⟨b,c⟩
                · exact .inl b
                · exact .inr ⟨b,by omega⟩
              · obtain rfl:e=⟨(n:Int),(m:Int),(r:Int)⟩:=by simpa using hmem
                exact ⟨⟨n,m,r,s,o,rfl,hn,hm,hp,hr2⟩,.inr ⟨rfl,by simp;omega⟩⟩
            · rintro ⟨a,b⟩
              obtain ⟨i,k,j,s',o',rfl,a1,a2,a3,a4⟩:=a
              simp only at b
              by_cases hc:i=n∧k=m
              · obtain ⟨rfl,rfl⟩:=hc
                obtain rfl:s'=s:=by rw [hn] at a1;exact (Option.some.inj a1).symm
                obtain rfl:o'=o:=by rw [hm] at a2;exact (Option.some.inj a2).symm
                obtain rfl:=uniq a4 hr2
                exact .inr (by simp)
              · exact .inl ⟨⟨i,k,j,s',o',rfl,a1,a2,a3,a4⟩,by simp only;omega⟩
          · rw [if_neg hp]
            refine ⟨_,if_neg (by simp),by omega,fun e=>?_⟩
            rw [j2]
            constructor
            · rintro ⟨a,b⟩
              refine ⟨a,?_⟩
              rcases b with b|⟨b,c⟩
              · exact .inl b
              · exact .inr ⟨b,by omega⟩
            · rintro ⟨a,b⟩
              obtain ⟨i,k,j,s',o',rfl,a1,a2,a3,a4⟩:=a
              simp only at b
              by_cases hc:i=n∧k=m
              · obtain ⟨rfl,rfl⟩:=hc
                obtain rfl:s'=s:=by rw [hn] at a1;exact (Option.some.inj a1).symm
                obtain rfl:o'=o:=by rw [hm] at a2;exact (Option.some.inj a2).symm
                exact absurd a3 hp
              · exact ⟨⟨i,k,j,s',o',rfl,a1,a2,a3,a4⟩,by simp only;omega⟩)
      rw [g1,Ar,Ci]
      refine ⟨_,rfl,by omega,fun e=>?_⟩
      rw [g3]
      constructor
      · rintro ⟨a,b⟩
        exact ⟨a,by rcases b with b|⟨b,_⟩<;>omega⟩
      · rintro ⟨a,b⟩
        refine ⟨a,?_⟩
        obtain ⟨i,k,j,s',o',rfl,a1,a2,a3,a4⟩:=a
        simp only at b ⊢
        have:=AD a2
        omega)
  refine ⟨es,by rw [h1,Ar,Ci],fun e=>?_⟩
  rw [h3]
  refine ⟨fun a=>a.1,fun a=>⟨a,?_⟩⟩
  obtain ⟨i,k,j,s',o',rfl,a1,a2,a3,a4⟩:=a
  have:=AD a1
  simp only;omega
end
section
open Go Go.RowKit
section
attribute [local irreducible] ewp owp hwp hwq hws Ev Evg Fn retPost loud loudS Res1
noncomputable def Bd (x0:Option Gnr) (x1:List Int):Option (List Suc) :=
  bnd (Cf x0 x1) fun q7=>bnd (rng (ρ:=(List Suc)) (fun (k23:Nat) (a24:Int) (s21:(List Suc))=>bnd (BK x1) fun q46=>bnd (x0) fun o56=>bnd (atI o56.t.ops a24) fun a88=>bnd (rng (ρ:=Ctl (List Suc) (List Suc)) (fun (k115:Nat) (a116:Eff) (s113:(List Int))=>bnd (CF a116.cond x1) fun q150=>if q150=true then bnd (atI s113 a116.var) fun a157=>some (.next (s113.set (a116.var:Int).toNat a116.val)) else some (.next s113)) a88.effs 0 q46) fun res111=>fin res111 fun (s175:(List Int))=>bnd (appI 32 s21 [(⟨a24,s175⟩:Suc)]) fun u179=>some (.next u179)) q7 0 ([]:List Suc)) fun res19=>fin res19 fun (s195:(List Suc))=>some s195
theorem Ef {w:World} {A:Nat→Prop} (hA:∀ k,A k→k < w.heap.size) {vx0:Value} {x0:Option Gnr} (h0:Vb w A vx0 x0) {vx1:Value} {x1:List Int} (g0:Vb w A vx1 x1) {r:(List Suc)} (hm:Bd x0 x1=some r) :
    Fn Tryz.prog 49 [vx0,vx1] w fun v w'=>Ext w w'∧Vb w' (upA A w w') v r:=by
 obtain ⟨O,hB,k3⟩:=enter hA
 replace h0:=h0.mono k3
 obtain ⟨p3,rfl,s3⟩:=h0.ptr
 replace g0:=g0.mono k3
 obtain ⟨A5,c6,rfl⟩:=g0.form
 refine AH Tryz.func49 rfl Tryz.ntmps49 rfl ?_
 unfold Bd at hm
 refine Al (Aj (An rfl rfl (o_z ?_)))
 refine Al (Aj (An rfl rfl (o_z ?_)))
 refine Al (Al (Aj (Am rfl rfl (Am rfl rfl ?_))))
 obtain ⟨q7,e8,hm⟩:=bs hm
 refine CR 2 (by decide) (O:=O) (FQ Fr.lt h0 g0 e8) rfl rfl fun e1 f1 w9 t3 b2 m0=>?_
 refine AP rfl rfl ?_
 have e2:q7.length≤9223372036854775807:=Nat.le_trans m0.len.2.1 m0.len.2.2
 have q5:inI64 (q7.length:Int):=rngNat e2
 refine Am rfl rfl (o_z ?_)
 obtain ⟨h1,f2,hm⟩:=bs hm
 refine AJ (aft h1 (fun (n0:(List Suc)) (i0:(Option Addr×Nat))=>[(5,(.slice i0.1 n0.length i0.2))]) (fun n0 i0 w'=>∃ O':Lab,Bs w A w' O'∧Rw 5 w' O' 91 (.slice i0.1 n0.length i0.2) n0)) ?_ ?_
 ·
  refine AM ?_
  replace hB:=hB.st b2
  replace h0:=h0.st b2
  replace g0:=g0.st b2
  refine By (σ:=(List Suc)) (X:=(Option Addr×Nat)) (q7.length) f2 rfl e2 (fun (n0:(List Suc)) (i0:(Option Addr×Nat))=>[(0,(.pointer p3)),(1,(.slice A5 x1.length c6)),(5,(.slice i0.1 n0.length i0.2)),(13,(.slice e1 q7.length f1))]) _ (fun n0 i0 w'=>∃ O':Lab,Bs w A w' O'∧Vb w' (Fr 0 w' O') (.pointer p3) x0∧Vb w' (Fr 0 w' O') (.slice A5 x1.length c6) x1∧Rw 5 w' O' 91 (.slice i0.1 n0.length i0.2) n0∧Rw 2 w' O' 3 (.slice e1 q7.length f1) q7) _ (none,0) ⟨t3,hB,h0,g0,(Rw.nil 5 (by decide)),m0⟩ ⟨rfl,rfl,rfl,rfl,rfl,rfl,trivial⟩ (fun _ _=>⟨rfl,rfl⟩) (fun _ _=>⟨rfl,trivial⟩) (fun _ _ _ ⟨O',hB,h0,g0,j0,m0⟩=>⟨O',hB,j0⟩) ⟨rfl,rfl,rfl⟩ ⟨rfl,rfl⟩ ?_
  rintro g2 i1 n0 i0 r5 u3 j1 ⟨v3,hB,h0,g0,j0,m0⟩ e0 h2 i2
  have rk23:inI64 (g2:Int):=rngK j1 e2
  refine Al (Aj ?_)
  obtain ⟨s5,t5,w3,j2,k2,l2,rfl,x3⟩:=m0.elem j1
  refine Bo (hA:=j2) (hj:=rfl) (hlt:=k2) rfl rfl rfl ?_
  refine AC (hc:=cat0 l2) rfl rfl ?_
  refine An rfl rfl (o_z ?_)
  refine Al (Aj (Am rfl rfl ?_))
  obtain ⟨k1,y3,e0⟩:=bs e0
  refine CR 3 (by decide) (O:=v3) (Cs Fr.lt g0 y3) rfl rfl fun l1 m1 u5 z3 r0 a4=>?_
  refine An rfl rfl (o_z ?_)
  refine Al (Al (Aj (Am rfl rfl ?_)))
  obtain ⟨v5,l3,e0⟩:=bs e0
  obtain ⟨ad59,m2⟩:=KI (s3.trans (by rw [l3];rfl))
  refine RJ (hA:=m2) rfl rfl ?_
  replace h0:=h0.st r0
  obtain ⟨w5,x5,y5,z5,a6,b6,n2,b4,o2,c4,d4,e4,m3⟩:=OU h0 l3
  obtain ⟨d6,e6,rfl⟩:=c4.form
  obtain ⟨f6,g6,rfl⟩:=d4.form
  obtain ⟨h6,i6,rfl⟩:=e4.form
  obtain ⟨j6,k6,rfl⟩:=m3.form
  refine RI (hA:=n2) rfl rfl ?_
  refine AE rfl rfl (AC (hc:=cat3 o2) rfl rfl ?_)
  refine Am rfl rfl ?_
  obtain ⟨g1,f4,e0⟩:=bs e0
  obtain ⟨g4,h4⟩:=AO f4
  obtain ⟨l6,m6,i4,p2,q2,r2,n6,j4,rfl,s2,k0,k4,l4⟩:=m3.elem' h4
  obtain ⟨m4,n4,rfl⟩:=s2.form
  obtain ⟨n1,o1,rfl⟩:=k0.form
  refine Bo (hA:=p2) (hj:=(Int.toNat_of_nonneg g4).symm) (hlt:=q2) rfl rfl rfl ?_
  refine AE rfl rfl (AC (hc:=cat3 r2) rfl rfl ?_)
  refine AP rfl rfl ?_
  have b1:g1.effs.length≤9223372036854775807:=Nat.le_trans k0.len.2.1 k0.len.2.2
  have o4:inI64 (g1.effs.length:Int):=rngNat b1
  refine Am rfl rfl (o_z ?_)
  obtain ⟨c1,p1,e0⟩:=bs e0
  refine AJ (aft c1 (fun (o0:(List Int)) (s0:Unit)=>[(0,(.pointer p3)),(1,(.slice A5 x1.length c6)),(5,(.slice i0.1 n0.length i0.2)),(7,(.int .i64 i1)),(8,(.slice l1 k1.length m1)),(13,(.slice e1 q7.length f1)),(14,(.int .i64 (q7.length:Int))),(15,(.int .i64 (g2:Int)))]) (fun o0 s0 w'=>∃ O':Lab,Bs w A w' O'∧Vb w' (Fr 0 w' O') (.pointer p3) x0∧Vb w' (Fr 0 w' O') (.slice A5 x1.length c6) x1∧Rw 5 w' O' 91 (.slice i0.1 n0.length i0.2) n0∧Rw 3 w' O' 3 (.slice l1 k1.length m1) o0∧Rw 2 w' O' 3 (.slice e1 q7.length f1) q7)) ?_ ?_
  ·
   refine AM ?_
   replace hB:=hB.st r0
   replace g0:=g0.st r0
   replace m0:=m0.st r0
   replace j0:=j0.st r0
   refine By (σ:=(List Int)) (X:=Unit) (g1.effs.length) p1 rfl b1 (fun (o0:(List Int)) (s0:Unit)=>[(0,(.pointer p3)),(1,(.slice A5 x1.length c6)),(5,(.slice i0.1 n0.length i0.2)),(7,(.int .i64 i1)),(8,(.slice l1 k1.length m1)),(13,(.slice e1 q7.length f1)),(14,(.int .i64 (q7.length:Int))),(15,(.int .i64 (g2:Int))),(29,(.slice n1 g1.effs.length o1))]) _ (fun o0 s0 w'=>∃ O':Lab,Bs w A w' O'∧Vb w' (Fr 0 w' O') (.pointer p3) x0∧Vb w' (Fr 0 w' O') (.slice A5 x1.length c6) x1∧Rw 5 w' O' 91 (.slice i0.1 n0.length i0.2) n0∧Rw 3 w' O' 3 (.slice l1 k1.length m1) o0∧Rw 2 w' O' 3 (.slice e1 q7.length f1) q7∧Vb w' (Fr 0 w' O') (.slice n1 g1.effs.length o1) g1.effs) _ () ⟨z3,hB,h0,g0,j0,a4,m0,k0⟩ ⟨rfl,rfl,rfl,rfl,rfl,rfl,rfl,rfl,rfl,rfl,rfl,trivial⟩ (fun _ _=>⟨rfl,rfl⟩) (fun _ _=>⟨rfl,rfl,rfl,rfl,rfl,rfl,rfl,rfl,trivial⟩) (fun _ _ _ ⟨O',hB,h0,g0,j0,f0,m0,k0⟩=>⟨O',hB,h0,g0,j0,f0,m0⟩) ⟨rfl,rfl,rfl⟩ ⟨rfl,rfl⟩ ?_
   rintro t2 t0 o0 s0 p4 n3 z0 ⟨u2,hB,h0,g0,j0,f0,m0,k0⟩ a0 c2 d2
   have rk115:inI64 (t2:Int):=rngK z0 b1
   refine Al (Aj ?_)
   obtain ⟨q4,r4,o3,q1,r1,s1,s4,rfl,u0,t4,v2⟩:=k0.elem' z0
   obtain ⟨w2,x2,rfl⟩:=u0.form
   refine Bo (hA:=q1) (hj:=rfl) (hlt:=r1) rfl rfl rfl ?_
   refine Bk (hl:=rfl) (hc:=s1) rfl rfl ?_
   refine Ch 4 u2 rfl fun y2 u4 v0 c0 l0=>?_
   refine Br l0 rfl rfl rfl (BN rfl) (allOne rfl) fun w0 d0 l0=>?_
   replace l0:Lc 4 w0 v0 y2 76 [(.slice w2 t0.cond.length x2),(.int .i64 t0.var),(.int .i64 t0.val)]:=l0
   refine o_z ?_
   refine Al (Aj (AE rfl rfl (AC (hc:=Blk.cell (i:=0) (l0.1) rfl) rfl rfl ?_)))
   refine Am rfl rfl ?_
   obtain ⟨t1,z2,a0⟩:=bs a0
   replace g0:=(g0.st c0).st d0
   replace u0:=(u0.st c0).st d0
   refine AV (O:=v0) (A:=All w0) (R:=fun w' F v=>Vb w' F v t1) (GX (fun _ h=>h) (Vb.mono (F:=Fr 0 w0 v0) u0 Fr.lt) (Vb.mono (F:=Fr 0 w0 v0) g0 Fr.lt) z2) rfl rfl fun v4 w4 x4 b0 a3=>?_
   obtain rfl:=a3.bool
   cases t1
   case false =>
    replace a0:=iF a0
    refine o_z ?_
    refine Ae rfl (AI ?_)
    obtain rfl:=sm a0
    exact show Exists _ from ⟨_,(),rfl,⟨rfl,rfl,rfl,rfl,rfl,rfl,rfl,rfl,rfl,rfl,rfl,trivial⟩,_,((hB.st c0).st d0).st b0,((h0.st c0).st d0).st b0,g0.st b0,((j0.st c0).st d0).st b0,((f0.st c0).st d0).st b0,((m0.st c0).st d0).st b0,((k0.st c0).st d0).st b0⟩
   replace a0:=iT a0
   refine o_z ?_
   refine Ah rfl (Aj (Am rfl rfl (AE rfl rfl ?_)))
   replace l0:=l0.st b0
   refine AC (hc:=Blk.cell (i:=1) (l0.1) rfl) rfl rfl ?_
   refine AE rfl rfl (AC (hc:=Blk.cell (i:=2) (l0.1) rfl) rfl rfl ?_)
   obtain ⟨y4,b3,a0⟩:=bs a0
   obtain ⟨c3,u1⟩:=AO b3
   replace f0:=((f0.st c0).st d0).st b0
   obtain ⟨z4,a5,q3,a1,v1,r3,rfl,b5⟩:=f0.elem u1
   refine Bo (hA:=a1) (hj:=(Int.toNat_of_nonneg c3).symm) (hlt:=v1) rfl rfl rfl ?_
   refine Dh rfl f0 (a:=t0.val) (vInt v2) a1 rfl rfl (AD u1) fun c5 p0 f0=>?_
   refine o_z ?_
   obtain rfl:=sm a0
   exact show Exists _ from ⟨_,(),rfl,⟨rfl,rfl,rfl,rfl,rfl,rfl,rfl,rfl,rfl,rfl,rfl,trivial⟩,_,(((hB.st c0).st d0).st b0).st p0,(((h0.st c0).st d0).st b0).st p0,(g0.st b0).st p0,(((j0.st c0).st d0).st b0).st p0,f0,(((m0.st c0).st d0).st b0).st p0,(((k0.st c0).st d0).st b0).st p0⟩
  replace hB:=hB.st r0
  replace g0:=g0.st r0
  replace m0:=m0.st r0
  replace j0:=j0.st r0
  rintro d5 e5 ⟨w1,f5,rfl,y1,g5,hB,h0,g0,j0,f0,m0⟩
  replace e0:=AX e0
  refine AN _ y1 ?_
  refine Aj (Am rfl rfl (Am rfl rfl (Am rfl rfl (EC rfl rfl rfl ?_))))
  obtain ⟨h5,q0,f0⟩:=f0.freeze
  obtain ⟨i5,d1,e0⟩:=bs e0
  obtain ⟨d1,d3,e3⟩:=Cc d1
  replace j0:=j0.st q0
  refine Ed rfl (a:=(⟨i1,w1⟩:Suc)) j0 (Vb.ofAgg (cs:=[(.int .i64 i1),(.slice l1 k1.length m1)]) (x:=(⟨i1,w1⟩:Suc)) rfl ⟨_,rfl,f0,x3⟩) (fun _=>rfl) rfl (by decide) (by decide) d3 e3 ⟨rfl,rfl⟩ fun j5 f3 g3 k5 l5 y0 z1=>?_
  rw [← d1] at z1 ⊢
  refine An rfl rfl (o_z ?_)
  obtain rfl:=sm e0
  exact show Exists _ from ⟨_,(f3,g3),rfl,⟨rfl,rfl,rfl,rfl,rfl,rfl,trivial⟩,_,(hB.st q0).st y0,(h0.st q0).st y0,(g0.st q0).st y0,z1,(m0.st q0).st y0⟩
 replace hB:=hB.st b2
 rintro m5 h3 ⟨n5,o5,rfl,a2,p5,hB,j0⟩
 replace hm:=AX hm
 refine AN _ a2 ?_
 refine Al (Aj (Am rfl rfl (An rfl rfl (o_z ?_))))
 refine AG ?_
 obtain ⟨i3,j3,j0⟩:=j0.freeze
 obtain rfl:=sm hm
 replace hB:=hB.st j3
 exact ret1v rfl (Az rfl) ⟨hB.ext,(Vb.mono (F:=Fr 0 h3 i3) j0 hB.out)⟩
end
theorem JV {s:List Int} (hl:s.length≤1000000):BK s=some s:=if_pos ⟨by omega,by omega⟩
theorem Qg {t:Tsk} {s:List Int} (hok:TaskOk t) (hl:s.length≤1000000):Bd (some ⟨t⟩) s=some ((appS t s).map (sucOf t s)):=by
  have ha:Cf (some ⟨t⟩) s=some (appS t s):=if_pos hl
  have hol:=hok.2.1
  have hal:=OT t s
  unfold Bd
  rw [ha,Ar]
  rw [En (fun k=>((appS t s).take k).map (sucOf t s)) ?_ ?_,Ar,Ci,List.take_length]
  · rfl
  intro k x hk
  have hkl:=AD hk
  obtain ⟨hst,hmem⟩:=OR (List.mem_of_getElem? hk)
  obtain ⟨j,o,rfl,hj,hp⟩:=OQ hmem
  rw [JV hl,Ar,Ar,BY,hj,Ar,Mj (hok.effs hst j o hj) CF (fun _ _=>rfl) s rfl,Ar,Ci,Cy (by simp;omega) (by simp;omega),Ar,List.take_add_one,hk,List.map_append]
  simp [sucOf,hj,succ]
theorem Mk {t:Tsk} (h:TaskOk t):CJ t=some (some ⟨t⟩,⟨0⟩):=by unfold CJ;rw [Bf h,Dj,Fz.2 h]
theorem Oc {t:Tsk} (h:¬ TaskOk t):CJ t=some (none,⟨checkN t⟩):=by unfold CJ;rw [AU h,Cx]
end
section
open Go Go.RowKit
abbrev U64:=BitVec 64
instance:Rp U64 where
  isAgg:=false
  size:=1
  R _ _ cs x:=cs=[.int .u64 (x.toNat:Int)]
  len:=by rintro w F cs x rfl;rfl
  one:=by
    rintro w F cs x rfl u hu
    have:u=.int .u64 (x.toNat:Int):=by simpa using hu
    subst this;rfl
  agree:=fun h _=>h
  mono:=fun h _=>h
theorem Vb.u64 {w:World} {F:Nat→Prop} {v:Value} {x:U64} (h:Vb w F v x):v=.int .u64 (x.toNat:Int):=by
  have:[v]=[.int .u64 (x.toNat:Int)]:=h
  simpa using this
theorem vU64 {w:World} {F:Nat→Prop} {x:U64}:Vb w F (.int .u64 (x.toNat:Int)) x:=rfl
theorem wrapU (a:Int):IntKind.u64.wrap a=a % 18446744073709551616:=by simp [IntKind.wrap,IntKind.bits,IntKind.signed]
theorem wrapN (x:BitVec 64):IntKind.u64.wrap (x.toNat:Int)=(x.toNat:Int):=by
  rw [wrapU]
  have:=x.isLt
  omega
theorem ofIntU (x:U64):BitVec.ofInt 64 (x.toNat:Int)=x:=by simp
def shlU (a:U64) (q:Int):Option U64:=if 0≤q then some (a <<< q.toNat) else none
def shrU (a:U64) (q:Int):Option U64:=if 0≤q then some (a >>> q.toNat) else none
def shlI (a q:Int):Option Int:=if 0≤q then some (wr (a * 2 ^ (min q.toNat 64))) else none
theorem OY {a q c:Int} (h:shlI a q=some c):inI64 c:=by
  unfold shlI at h
  split at h
  · rw [← sm h];exact QS _
  · cases h
theorem toIntR (a:U64):inI64 a.toInt:=by
  have h1:=BitVec.toInt_lt (x:=a)
  have h2:=BitVec.le_toInt (x:=a)
  simp at h1 h2
  exact ⟨by omega,by omega⟩
section
variable {P : Program} {l : Env} {w : World} {dst : Option Tmp} {ty : TypeId} {pos : String} {aft : Array Edge}
theorem Rb {t u:TypeId} {x y:Operand} {a b:U64} (hx:opv l x=some (.int .u64 (a.toNat:Int))) (hy:opv l y=some (.int .u64 (b.toNat:Int))):Ev P ⟨dst,.binOp .and t x y u,ty,pos,aft,none⟩ l w (.int .u64 ((a &&& b).toNat:Int)):=fun _ _ d ha=>by
  have h:=wrapN (a &&& b)
  have h1:(BitVec.ofInt IntKind.u64.bits (a.toNat:Int))=a:=ofIntU a
  have h2:(BitVec.ofInt IntKind.u64.bits (b.toNat:Int))=b:=ofIntU b
  simp only [execOp,ha.eval hx,ha.eval hy,eqGuard,binOp,Op.intBits,h1,h2]
  simp
  exact h.trans (by simp)
theorem Rc {t u:TypeId} {x y:Operand} {a b:U64} (hx:opv l x=some (.int .u64 (a.toNat:Int))) (hy:opv l y=some (.int .u64 (b.toNat:Int))):Ev P ⟨dst,.binOp .or t x y u,ty,pos,aft,none⟩ l w (.int .u64 ((a ||| b).toNat:Int)):=fun _ _ d ha=>by
  have h:=wrapN (a ||| b)
  have h1:(BitVec.ofInt IntKind.u64.bits (a.toNat:Int))=a:=ofIntU a
  have h2:(BitVec.ofInt IntKind.u64.bits (b.toNat:Int))=b:=ofIntU b
  simp only [execOp,ha.eval hx,ha.eval hy,eqGuard,binOp,Op.intBits,h1,h2]
  simp
  exact h.trans (by simp)
theorem Re {t u:TypeId} {x y:Operand} {a b:U64} (hx:opv l x=some (.int .u64 (a.toNat:Int))) (hy:opv l y=some (.int .u64 (b.toNat:Int))):Ev P ⟨dst,.binOp .xor t x y u,ty,pos,aft,none⟩ l w (.int .u64 ((a ^^^ b).toNat:Int)):=fun _ _ d ha=>by
  have h:=wrapN (a ^^^ b)
  have h1:(BitVec.ofInt IntKind.u64.bits (a.toNat:Int))=a:=ofIntU a
  have h2:(BitVec.ofInt IntKind.u64.bits (b.toNat:Int))=b:=ofIntU b
  simp only [execOp,ha.eval hx,ha.eval hy,eqGuard,binOp,Op.intBits,h1,h2]
  simp
  exact h.trans (by simp)
theorem Rf {t u:TypeId} {x y:Operand} {a b:U64} (hx:opv l x=some (.int .u64 (a.toNat:Int))) (hy:opv l y=some (.int .u64 (b.toNat:Int))):Ev P ⟨dst,.binOp .andNot t x y u,ty,pos,aft,none⟩ l w (.int .u64 ((a &&& ~~~b).toNat:Int)):=fun _ _ d ha=>by
  have h:=wrapN (a &&& ~~~b)
  have h1:(BitVec.ofInt IntKind.u64.bits (a.toNat:Int))=a:=ofIntU a
  have h2:(BitVec.ofInt IntKind.u64.bits (b.toNat:Int))=b:=ofIntU b
  simp only [execOp,ha.eval hx,ha.eval hy,eqGuard,binOp,Op.intBits,h1,h2]
  simp
  exact h.trans (by simp)
theorem Rg {t u:TypeId} {x y:Operand} {a b:U64} (hx:opv l x=some (.int .u64 (a.toNat:Int))) (hy:opv l y=some (.int .u64 (b.toNat:Int))):Ev P ⟨dst,.binOp .add t x y u,ty,pos,aft,none⟩ l w (.int .u64 ((a + b).toNat:Int)):=fun _ _ d ha=>by
  have h:IntKind.u64.wrap ((a.toNat:Int) + (b.toNat:Int))=((a + b).toNat:Int):=by
    rw [wrapU]
    have h1:=a.isLt
    have h2:=b.isLt
    rw [BitVec.toNat_add];omega
  simp [execOp,ha.eval hx,ha.eval hy,eqGuard,binOp,Op.intArith,h]
theorem Rh {t u:TypeId} {x y:Operand} {a b:U64} (hx:opv l x=some (.int .u64 (a.toNat:Int))) (hy:opv l y=some (.int .u64 (b.toNat:Int))):Ev P ⟨dst,.binOp .sub t x y u,ty,pos,aft,none⟩ l w (.int .u64 ((a - b).toNat:Int)):=fun _ _ d ha=>by
  have h:IntKind.u64.wrap ((a.toNat:Int) - (b.toNat:Int))=((a - b).toNat:Int):=by
    rw [wrapU]
    have h1:=a.isLt
    have h2:=b.isLt
    rw [BitVec.toNat_sub];omega
  simp [execOp,ha.eval hx,ha.eval hy,eqGuard,binOp,Op.intArith,h]
theorem Ri {t u:TypeId} {x y:Operand} {a b:U64} (hx:opv l x=some (.int .u64 (a.toNat:Int))) (hy:opv l y=some (.int .u64 (b.toNat:Int))):Ev P ⟨dst,.binOp .mul t x y u,ty,pos,aft,none⟩ l w (.int .u64 ((a * b).toNat:Int)):=fun _ _ d ha=>by
  have h:IntKind.u64.wrap ((a.toNat:Int) * (b.toNat:Int))=((a * b).toNat:Int):=by
    rw [wrapU]
    have h1:=a.isLt
    have h2:=b.isLt
    rw [BitVec.toNat_mul,Int.natCast_emod,Int.natCast_mul];rfl
  simp [execOp,ha.eval hx,ha.eval hy,eqGuard,binOp,Op.intArith,h]
theorem Rj {t u:TypeId} {x y:Operand} {a c:U64} {q:Int} {k:IntKind} (hx:opv l x=some (.int .u64 (a.toNat:Int))) (hy:opv l y=some (.int k q)) (he:shlU a q=some c):Ev P ⟨dst,.binOp .shl t x y u,ty,pos,aft,none⟩ l w (.int .u64 (c.toNat:Int)):=fun _ _ d ha=>by
  unfold shlU at he
  split at he
  · rename_i hq
    have hc:=sm he
    subst hc
    have h:IntKind.u64.wrap ((a.toNat:Int) * 2 ^ (min q.toNat IntKind.u64.bits))=((a <<< q.toNat).toNat:Int):=by
      rw [wrapU,BitVec.toNat_shiftLeft,Nat.shiftLeft_eq]
      show (a.toNat:Int) * 2 ^ (min q.toNat 64) % 18446744073709551616=((a.toNat * 2 ^ q.toNat % 18446744073709551616:Nat):Int)
      by_cases hk:q.toNat≤64
      · rw [Nat.min_eq_left hk,Int.natCast_emod,Int.natCast_mul,Int.natCast_pow];rfl
      · have hb:q.toNat=64 + (q.toNat - 64):=by omega
        rw [Nat.min_eq_right (by omega),hb,Nat.pow_add]
        have e1:a.toNat * (2 ^ 64 * 2 ^ (q.toNat - 64)) % 18446744073709551616=0:=by
          rw [← Nat.mul_assoc,Nat.mul_right_comm]
          exact Nat.mul_mod_left _ _
        have e2:(a.toNat:Int) * 2 ^ 64 % 18446744073709551616=0:=Int.mul_emod_left _ _
        rw [e1,e2];rfl
    have hn:¬ q < 0:=by omega
    simp [execOp,ha.eval hx,ha.eval hy,eqGuard,binOp,Op.shift,hn,h]
  · cases he
theorem Od {t u:TypeId} {x y:Operand} {a c:U64} {q:Int} {k:IntKind} (hx:opv l x=some (.int .u64 (a.toNat:Int))) (hy:opv l y=some (.int k q)) (he:shrU a q=some c):Ev P ⟨dst,.binOp .shr t x y u,ty,pos,aft,none⟩ l w (.int .u64 (c.toNat:Int)):=fun _ _ d ha=>by
  unfold shrU at he
  split at he
  · rename_i hq
    have hc:=sm he
    subst hc
    have h:(a.toNat:Int).fdiv (2 ^ (min q.toNat IntKind.u64.bits))=((a >>> q.toNat).toNat:Int):=by
      rw [BitVec.toNat_ushiftRight,Nat.shiftRight_eq_div_pow]
      show (a.toNat:Int).fdiv (2 ^ (min q.toNat 64))=_
      have hl:=a.isLt
      rw [Int.fdiv_eq_ediv_of_nonneg _ (by exact_mod_cast Nat.zero_le (2 ^ (min q.toNat 64)))]
      by_cases hk:q.toNat≤64
      · rw [Nat.min_eq_left hk,Int.natCast_ediv,Int.natCast_pow];rfl
      · rw [Nat.min_eq_right (by omega)]
        have e1:a.toNat / 2 ^ q.toNat=0:=Nat.div_eq_of_lt (Nat.lt_of_lt_of_le hl (Nat.pow_le_pow_right (by decide) (by omega)))
        rw [e1]
        omega
    have hn:¬ q < 0:=by omega
    simp [execOp,ha.eval hx,ha.eval hy,eqGuard,binOp,Op.shift,hn,h]
  · cases he
theorem Rk {t u:TypeId} {x y:Operand} {a c q:Int} (hx:opv l x=some (.int .i64 a)) (hy:opv l y=some (.int .i64 q)) (he:shlI a q=some c):Ev P ⟨dst,.binOp .shl t x y u,ty,pos,aft,none⟩ l w (.int .i64 c):=fun _ _ d ha=>by
  unfold shlI at he
  split at he
  · rename_i hq
    have hc:=sm he
    subst hc
    have hn:¬ q < 0:=by omega
    simp [execOp,ha.eval hx,ha.eval hy,eqGuard,binOp,Op.shift,hn,wr,IntKind.bits]
  · cases he
theorem Oe {s t:TypeId} {k:IntKind} [hs:TInt P s k] [ht:TInt P t .u64] {x:Operand} {a:Int} (hx:opv l x=some (.int k a)):Ev P ⟨dst,.convert s t x,ty,pos,aft,none⟩ l w (.int .u64 ((BitVec.ofInt 64 a).toNat:Int)):=fun _ _ d ha=>by
  have h:IntKind.u64.wrap a=((BitVec.ofInt 64 a).toNat:Int):=by
    rw [wrapU,BitVec.toNat_ofInt]
    have:(0:Int)≤a % 18446744073709551616:=by omega
    simp
    omega
  simp [execOp,ha.eval hx,convert,run_underlying hs.eq,run_underlying ht.eq,Conv.intToInt,h]
theorem Of {s t:TypeId} [hs:TInt P s .u64] [ht:TInt P t .i64] {x:Operand} {a:U64} (hx:opv l x=some (.int .u64 (a.toNat:Int))):Ev P ⟨dst,.convert s t x,ty,pos,aft,none⟩ l w (.int .i64 a.toInt):=fun _ _ d ha=>by
  have h:IntKind.i64.wrap (a.toNat:Int)=a.toInt:=by
    rw [IntKind.wrap_i64,BitVec.toInt_eq_toNat_cond]
    have:=a.isLt
    split<;>omega
  simp [execOp,ha.eval hx,convert,run_underlying hs.eq,run_underlying ht.eq,Conv.intToInt,h]
end
section
variable {P : Program} {n : Nat} {ops : Array Oper} {Q : Post} {rest : List Oper} {l : Env} {w : World} {d : Tmp} {ty : TypeId} {pos : String} {aft : Array Edge}
theorem PJ {t u:TypeId} {x y:Operand} {a b:U64} (hx:opv l x=some (.int .u64 (a.toNat:Int))) (hy:opv l y=some (.int .u64 (b.toNat:Int))) (hd:Nat.blt d n=true) (h:owp P n ops Q rest ((d,.int .u64 ((a ^^^ b).toNat:Int)) :: l) w)  : owp P n ops Q (⟨some d,.binOp .xor t x y u,ty,pos,aft,none⟩ :: rest) l w:=AR (Re hx hy) hd h
theorem RQ {t u:TypeId} {x y:Operand} {a b:U64} (hx:opv l x=some (.int .u64 (a.toNat:Int))) (hy:opv l y=some (.int .u64 (b.toNat:Int))) (hd:Nat.blt d n=true) (h:owp P n ops Q rest ((d,.int .u64 ((a + b).toNat:Int)) :: l) w)  : owp P n ops Q (⟨some d,.binOp .add t x y u,ty,pos,aft,none⟩ :: rest) l w:=AR (Rg hx hy) hd h
theorem RR {t u:TypeId} {x y:Operand} {a b:U64} (hx:opv l x=some (.int .u64 (a.toNat:Int))) (hy:opv l y=some (.int .u64 (b.toNat:Int))) (hd:Nat.blt d n=true) (h:owp P n ops Q rest ((d,.int .u64 ((a * b).toNat:Int)) :: l) w)  : owp P n ops Q (⟨some d,.binOp .mul t x y u,ty,pos,aft,none⟩ :: rest) l w:=AR (Ri hx hy) hd h
theorem PK {t u:TypeId} {x y:Operand} {a c:U64} {q:Int} {k:IntKind} (hx:opv l x=some (.int .u64 (a.toNat:Int))) (hy:opv l y=some (.int k q)) (hd:Nat.blt d n=true) (h:owp P n ops Q rest ((d,.int .u64 (c.toNat:Int)) :: l) w) (he:shrU a q=some c:=by assumption):owp P n ops Q (⟨some d,.binOp .shr t x y u,ty,pos,aft,none⟩ :: rest) l w:=AR (Od hx hy he) hd h
theorem RS {t u:TypeId} {x y:Operand} {a c q:Int} (hx:opv l x=some (.int .i64 a)) (hy:opv l y=some (.int .i64 q)) (hd:Nat.blt d n=true) (h:owp P n ops Q rest ((d,.int .i64 c) :: l) w) (he:shlI a q=some c:=by assumption):owp P n ops Q (⟨some d,.binOp .shl t x y u,ty,pos,aft,none⟩ :: rest) l w:=AR (Rk hx hy he) hd h
theorem RT {s t:TypeId} {k:IntKind} [TInt P s k] [TInt P t .u64] {x:Operand} {a:Int} (hx:opv l x=some (.int k a)) (hd:Nat.blt d n=true) (h:owp P n ops Q rest ((d,.int .u64 ((BitVec.ofInt 64 a).toNat:Int)) :: l) w)  : owp P n ops Q (⟨some d,.convert s t x,ty,pos,aft,none⟩ :: rest) l w:=AR (Oe hx) hd h
theorem RU {s t:TypeId} [TInt P s .u64] [TInt P t .i64] {x:Operand} {a:U64} (hx:opv l x=some (.int .u64 (a.toNat:Int))) (hd:Nat.blt d n=true) (h:owp P n ops Q rest ((d,.int .i64 a.toInt) :: l) w)  : owp P n ops Q (⟨some d,.convert s t x,ty,pos,aft,none⟩ :: rest) l w:=AR (Of hx) hd h
variable {S : World → Prop} {r : List (Nat × Bool)} {i : Nat}
theorem RV {t u:TypeId} {x y:Operand} {a b:U64} (hi:ops[i]?=some ⟨some d,.binOp .and t x y u,ty,pos,aft,none⟩) (hx:opv l x=some (.int .u64 (a.toNat:Int))) (hy:opv l y=some (.int .u64 (b.toNat:Int))) (hd:Nat.blt d n=true) (h:hwp P n ops Q S r ((d,.int .u64 ((a &&& b).toNat:Int)) :: l) w)  : hwp P n ops Q S ((i,true) :: r) l w:=AA hi (Ba (fun _ _=>Rb hx hy) hd h)
theorem RW {t u:TypeId} {x y:Operand} {a b:U64} (hi:ops[i]?=some ⟨some d,.binOp .or t x y u,ty,pos,aft,none⟩) (hx:opv l x=some (.int .u64 (a.toNat:Int))) (hy:opv l y=some (.int .u64 (b.toNat:Int))) (hd:Nat.blt d n=true) (h:hwp P n ops Q S r ((d,.int .u64 ((a ||| b).toNat:Int)) :: l) w)  : hwp P n ops Q S ((i,true) :: r) l w:=AA hi (Ba (fun _ _=>Rc hx hy) hd h)
theorem RX {t u:TypeId} {x y:Operand} {a b:U64} (hi:ops[i]?=some ⟨some d,.binOp .andNot t x y u,ty,pos,aft,none⟩) (hx:opv l x=some (.int .u64 (a.toNat:Int))) (hy:opv l y=some (.int .u64 (b.toNat:Int))) (hd:Nat.blt d n=true) (h:hwp P n ops Q S r ((d,.int .u64 ((a &&& ~~~b).toNat:Int)) :: l) w)  : hwp P n ops Q S ((i,true) :: r) l w:=AA hi (Ba (fun _ _=>Rf hx hy) hd h)
theorem RY {t u:TypeId} {x y:Operand} {a b:U64} (hi:ops[i]?=some ⟨some d,.binOp .sub t x y u,ty,pos,aft,none⟩) (hx:opv l x=some (.int .u64 (a.toNat:Int))) (hy:opv l y=some (.int .u64 (b.toNat:Int))) (hd:Nat.blt d n=true) (h:hwp P n ops Q S r ((d,.int .u64 ((a - b).toNat:Int)) :: l) w)  : hwp P n ops Q S ((i,true) :: r) l w:=AA hi (Ba (fun _ _=>Rh hx hy) hd h)
theorem Nx {t u:TypeId} {x y:Operand} {a c:U64} {q:Int} {k:IntKind} (hi:ops[i]?=some ⟨some d,.binOp .shl t x y u,ty,pos,aft,none⟩) (hx:opv l x=some (.int .u64 (a.toNat:Int))) (hy:opv l y=some (.int k q)) (hd:Nat.blt d n=true) (h:hwp P n ops Q S r ((d,.int .u64 (c.toNat:Int)) :: l) w) (he:shlU a q=some c:=by assumption):hwp P n ops Q S ((i,true) :: r) l w:=AA hi (Ba (fun _ _=>Rj hx hy he) hd h)
theorem RZ {t u:TypeId} {x y:Operand} {a c:U64} {q:Int} {k:IntKind} (hi:ops[i]?=some ⟨some d,.binOp .shr t x y u,ty,pos,aft,none⟩) (hx:opv l x=some (.int .u64 (a.toNat:Int))) (hy:opv l y=some (.int k q)) (hd:Nat.blt d n=true) (h:hwp P n ops Q S r ((d,.int .u64 (c.toNat:Int)) :: l) w) (he:shrU a q=some c:=by assumption):hwp P n ops Q S ((i,true) :: r) l w:=AA hi (Ba (fun _ _=>Od hx hy he) hd h)
theorem Sa {s t:TypeId} {k:IntKind} [TInt P s k] [TInt P t .u64] {x:Operand} {a:Int} (hi:ops[i]?=some ⟨some d,.convert s t x,ty,pos,aft,none⟩) (hx:opv l x=some (.int k a)) (hd:Nat.blt d n=true) (h:hwp P n ops Q S r ((d,.int .u64 ((BitVec.ofInt 64 a).toNat:Int)) :: l) w)  : hwp P n ops Q S ((i,true) :: r) l w:=AA hi (Ba (fun _ _=>Oe hx) hd h)
theorem Sb {s t:TypeId} [TInt P s .u64] [TInt P t .i64] {x:Operand} {a:U64} (hi:ops[i]?=some ⟨some d,.convert s t x,ty,pos,aft,none⟩) (hx:opv l x=some (.int .u64 (a.toNat:Int))) (hd:Nat.blt d n=true) (h:hwp P n ops Q S r ((d,.int .i64 a.toInt) :: l) w)  : hwp P n ops Q S ((i,true) :: r) l w:=AA hi (Ba (fun _ _=>Of hx) hd h)
end
end
section
open Go Go.RowKit
attribute [local irreducible] ewp owp hwp hwq hws Ev Evg Fn retPost loud loudS Res1
attribute [local irreducible] hwx loudX
structure QEn where
  key:Int
  tie:Int
  item:Int
  number:Int
instance:Rp QEn where
  isAgg:=true
  size:=4
  R w F cs x:=cs=[.int .i64 x.key,.int .i64 x.tie,.int .i64 x.item,.int .i64 x.number]∧inI64 x.key∧inI64 x.tie∧inI64 x.item∧inI64 x.number
  len:=by rintro w F cs x ⟨rfl,h0,h1,h2,h3⟩;rfl
  one:=by rintro w F cs x ⟨rfl,h0,h1,h2,h3⟩ u hu;simp at hu;rcases hu with rfl|rfl|rfl|rfl<;>first|rfl|exact Vb.one rfl (by assumption)
  agree:=by rintro w w' F cs x ⟨rfl,h0,h1,h2,h3⟩ ha;exact ⟨rfl,h0,h1,h2,h3⟩
  mono:=by rintro w F G cs x ⟨rfl,h0,h1,h2,h3⟩ ha;exact ⟨rfl,h0,h1,h2,h3⟩
structure Que where
  heap:List QEn
  next:Int
instance:Ow Que where
  R w F M v x:=∃ (g:Nat) (L:Lab) (c0:Value),v=.pointer (some ⟨g,0,none⟩)∧Blk w g 200 [c0,.int .i64 x.next]∧M g∧L g=0∧RwM w F (fun k=>M k∧L k=1) 202 c0 x.heap∧inI64 x.next
  agree:=by rintro w w' F M v x ⟨g,L,c0,rfl,hb,hM,hL,h0,h1⟩ a1 a2;exact ⟨g,L,c0,rfl,hb.keep (a2 g hM),hM,hL,h0.agree a1 fun k hk=>a2 k hk.1,h1⟩
  mono:=by rintro w F M F' M' v x ⟨g,L,c0,rfl,hb,hM,hL,h0,h1⟩ a1 a2 a3;exact ⟨g,L,c0,rfl,hb,a2 g hM,hL,h0.mono a1 (fun k hk=>⟨a2 k hk.1,hk.2⟩) fun k hf hm=>a3 k hf hm.1,h1⟩
instance:OwP Que:=⟨by rintro w F M v x ⟨g,L,c0,rfl,_⟩;exact ⟨g,rfl⟩⟩
theorem Que.opn {i:Nat} {w:World} {O:Lab} {p:Nat} {x:Que} (h:Ob i w O (.pointer (some ⟨p,0,none⟩)) x) (l0 l1:Nat) (hl:l0≠0∧l1≠0):∃ (O':Lab) (c0:Value),St (eT i) w O w O'∧(∀ k,Fr i w O k→∃ q,q∈[l0,l1]∧Fr q w O' k)∧Lc l0 w O' p 200 [c0,.int .i64 x.next]∧Rw l1 w O' 202 c0 x.heap∧inI64 x.next:=by
  obtain ⟨⟨g,L,c0,hv,hb,hM,hL,h0,h1⟩,hi⟩:=h
  obtain rfl:p=g:=by injection hv with hv;injection hv with hv;injection hv
  exact ⟨part O i L [l0,l1],c0,Js hi,HZ (by simp),⟨hb,(EL (j:=0) rfl p ⟨hM,hL⟩).2⟩,h0.rw (CY hi) (EL (j:=1) rfl) hl.2,h1⟩
theorem Que.shut {w:World} {O:Lab} {p:Nat} {x:Que} {l0 l1:Nat} {c0:Value} (hd:¬ 0∈[l0,l1]∧[l0,l1].idxOf l0=0∧[l0,l1].idxOf l1=1) (hb:Lc l0 w O p 200 [c0,.int .i64 x.next]) (h0:Rw l1 w O 202 c0 x.heap) (h1:inI64 x.next):∃ O',St (·∈[l0,l1]) w O w O'∧(∀ k,Fr 0 w O k→Fr 0 w O' k)∧(∀ q,q∈[l0,l1]→∀ k,Fr q w O k→Fr l0 w O' k)∧Ob l0 w O' (.pointer (some ⟨p,0,none⟩)) x:=by
  have hb1:l0≠0:=fun e=>hd.1 (by simp [e])
  have hg:=Em (i:=l0) hd.2.1 (by simp) p ⟨hb.1.lt,hb.2⟩
  exact ⟨whole O l0 [l0,l1],Ia,Ce hd.1,Hq,⟨p,fun k=>[l0,l1].idxOf (O k),c0,rfl,hb.1,hg.1,hg.2,h0.m (Ce hd.1) (Em hd.2.2 (by simp)) (fun k a b=>frNe0 hb1 k a b.1),h1⟩,hb1⟩
noncomputable def DR  : Option (Option Que) :=
  some (some (⟨([]:List QEn),0⟩:Que))
theorem Ml {w:World} {O:Lab} (j0:Nat) (hj0:j0≠0) {r:(Option Que)} (hm:DR  = some r) :
    Fn Tryz.prog 92 [] w fun v w'=>∃ O',St nT w O w' O'∧Obo j0 w' O' v r:=by
 obtain ⟨O0,hE,d0⟩:=ent0 (w:=w) (O:=O)
 have hB:Bm w O0 w O0:=Bm.refl
 refine AH Tryz.func92 rfl Tryz.ntmps92 rfl ?_
 unfold DR at hm
 refine Al (Aj (An rfl rfl (o_z ?_)))
 refine Al (Aj (EC rfl rfl rfl ?_))
 refine Dc 2 O0 rfl rfl fun g1 w2 O3 S4 h5=>?_
 replace h5:Lc 2 w2 O3 g1 200 [(.slice none 0 0),(.int .i64 0)]:=h5
 refine An rfl rfl (o_z ?_)
 refine AG ?_
 have h6:Rw 3 w2 O3 202 (.slice none 0 0) ([]:List QEn):=Rw.nil 3 (by decide)
 obtain ⟨O8,S9,a0,b0,c0⟩:=Que.shut (x:=(⟨([]:List QEn),0⟩:Que)) (l0:=2) (l1:=3) (by decide) h5 h6 (show inI64 0 from by decide)
 obtain rfl:=sm hm
 replace hB:=(hB.st S4).st S9
 obtain ⟨O',hS',hz,hl⟩:=hE.leave (fun q=>if q=2 then j0 else 0) rfl hB
 exact ret1v rfl (Az rfl) ⟨O',hS',(Ob.leave c0 hz (hl 2 (by decide) (by decide)) hj0)⟩
noncomputable def BV (x0:QEn) (x1:QEn):Option Bool :=
  if x0.key≠x1.key then (bnd (if x0.key < x1.key then (some true) else (some false):Option Bool) fun y24=>some y24) else (if x0.tie≠x1.tie then (bnd (if x0.tie < x1.tie then (some true) else (some false):Option Bool) fun y34=>some y34) else (bnd (if x0.number < x1.number then (some true) else (some false):Option Bool) fun y43=>some y43))
theorem FR {w:World} {A:Nat→Prop} (hA:∀ k,A k→k < w.heap.size) {vx0:Value} {x0:QEn} (h0:Vb w A vx0 x0) {vx1:Value} {x1:QEn} (i0:Vb w A vx1 x1) {r:Bool} (hm:BV x0 x1=some r) :
    Fn Tryz.prog 132 [vx0,vx1] w fun v w'=>Ext w w'∧Vb w' (upA A w w') v r:=by
 obtain ⟨O,hB,r0⟩:=enter hA
 replace h0:=h0.mono r0
 obtain ⟨f1,rfl,rfl,r4,r5,r6,r7⟩:=h0
 replace i0:=i0.mono r0
 obtain ⟨g1,rfl,rfl,r9,h1,i1,j1⟩:=i0
 refine AH Tryz.func132 rfl Tryz.ntmps132 rfl ?_
 unfold BV at hm
 refine Al (Aj (Dc 2 O rfl rfl fun t0 u0 s0 e0 f0=>?_))
 replace f0:Lc 2 u0 s0 t0 202 [(.int .i64 x0.key),(.int .i64 x0.tie),(.int .i64 x0.item),(.int .i64 x0.number)]:=f0
 refine Dc 3 s0 rfl rfl fun v0 w0 y0 d0 g0=>?_
 replace g0:Lc 3 w0 y0 v0 202 [(.int .i64 x1.key),(.int .i64 x1.tie),(.int .i64 x1.item),(.int .i64 x1.number)]:=g0
 refine An rfl rfl (o_z ?_)
 refine Al (Al (Aj (AE rfl rfl ?_)))
 replace f0:=f0.st d0
 refine AC (hc:=Blk.cell (i:=0) (f0.1) rfl) rfl rfl ?_
 refine AE rfl rfl (AC (hc:=Blk.cell (i:=0) (g0.1) rfl) rfl rfl ?_)
 refine Gh rfl rfl rfl (fun j0=>?_) fun j0=>?_
 ·
  replace hm:=ip hm j0
  refine o_z ?_
  refine Ah rfl (Al ?_)
  obtain ⟨z0,a0,hm⟩:=bs hm
  refine AJ (fun l' w'=>∃ (a1:Unit) (O':Lab),subs l' [(4,(.bool z0))]∧Bs w A w' O') ?_ ?_
  ·
   refine Aj (AE rfl rfl (AC (hc:=Blk.cell (i:=0) (f0.1) rfl) rfl rfl ?_))
   refine AE rfl rfl (AC (hc:=Blk.cell (i:=0) (g0.1) rfl) rfl rfl ?_)
   refine Dx rfl rfl rfl (fun k0=>?_) fun k0=>?_
   ·
    replace a0:=ip a0 k0
    refine An rfl rfl (o_z ?_)
    obtain rfl:=sm a0
    exact ⟨(),_,⟨rfl,trivial⟩,(hB.st e0).st d0⟩
   replace a0:=im a0 k0
   refine An rfl rfl (o_z ?_)
   obtain rfl:=sm a0
   exact ⟨(),_,⟨rfl,trivial⟩,(hB.st e0).st d0⟩
  replace hB:=(hB.st e0).st d0
  rintro k1 l1 ⟨a1,m1,l0,hB⟩
  refine AN _ l0 ?_
  refine AG ?_
  obtain rfl:=sm hm
  exact ret1v rfl (Az rfl) ⟨hB.ext,vBool⟩
 replace hm:=im hm j0
 refine o_z ?_
 refine Ae rfl (AI (Al (Al (Aj (AE rfl rfl (AC (hc:=Blk.cell (i:=1) (f0.1) rfl) rfl rfl ?_))))))
 refine AE rfl rfl (AC (hc:=Blk.cell (i:=1) (g0.1) rfl) rfl rfl ?_)
 refine Gh rfl rfl rfl (fun m0=>?_) fun m0=>?_
 ·
  replace hm:=ip hm m0
  refine o_z ?_
  refine Ah rfl (Al ?_)
  obtain ⟨b1,b0,hm⟩:=bs hm
  refine AJ (fun l' w'=>∃ (c1:Unit) (O':Lab),subs l' [(4,(.bool b1))]∧Bs w A w' O') ?_ ?_
  ·
   refine Aj (AE rfl rfl (AC (hc:=Blk.cell (i:=1) (f0.1) rfl) rfl rfl ?_))
   refine AE rfl rfl (AC (hc:=Blk.cell (i:=1) (g0.1) rfl) rfl rfl ?_)
   refine Dx rfl rfl rfl (fun n0=>?_) fun n0=>?_
   ·
    replace b0:=ip b0 n0
    refine An rfl rfl (o_z ?_)
    obtain rfl:=sm b0
    exact ⟨(),_,⟨rfl,trivial⟩,(hB.st e0).st d0⟩
   replace b0:=im b0 n0
   refine An rfl rfl (o_z ?_)
   obtain rfl:=sm b0
   exact ⟨(),_,⟨rfl,trivial⟩,(hB.st e0).st d0⟩
  replace hB:=(hB.st e0).st d0
  rintro n1 o1 ⟨c1,p1,o0,hB⟩
  refine AN _ o0 ?_
  refine AG ?_
  obtain rfl:=sm hm
  exact ret1v rfl (Az rfl) ⟨hB.ext,vBool⟩
 replace hm:=im hm m0
 refine o_z ?_
 refine Ae rfl (AI (Al ?_))
 obtain ⟨d1,c0,hm⟩:=bs hm
 refine AJ (fun l' w'=>∃ (e1:Unit) (O':Lab),subs l' [(4,(.bool d1))]∧Bs w A w' O') ?_ ?_
 ·
  refine Aj (AE rfl rfl (AC (hc:=Blk.cell (i:=3) (f0.1) rfl) rfl rfl ?_))
  refine AE rfl rfl (AC (hc:=Blk.cell (i:=3) (g0.1) rfl) rfl rfl ?_)
  refine Dx rfl rfl rfl (fun p0=>?_) fun p0=>?_
  ·
   replace c0:=ip c0 p0
   refine An rfl rfl (o_z ?_)
   obtain rfl:=sm c0
   exact ⟨(),_,⟨rfl,trivial⟩,(hB.st e0).st d0⟩
  replace c0:=im c0 p0
  refine An rfl rfl (o_z ?_)
  obtain rfl:=sm c0
  exact ⟨(),_,⟨rfl,trivial⟩,(hB.st e0).st d0⟩
 replace hB:=(hB.st e0).st d0
 rintro q1 r1 ⟨e1,s1,q0,hB⟩
 refine AN _ q0 ?_
 refine AG ?_
 obtain rfl:=sm hm
 exact ret1v rfl (Az rfl) ⟨hB.ext,vBool⟩
noncomputable def CG (x0:Que):Option Int :=
  some (x0.heap.length:Int)
theorem IV {w:World} {O:Lab} {p0 i0:Nat} {x0:Que} (a0:Ob i0 w O (.pointer (some ⟨p0,0,none⟩)) x0) {r:Int} (hm:CG x0=some r) :
    Fn Tryz.prog 94 [(.pointer (some ⟨p0,0,none⟩))] w fun v w'=>∃ O',St (eT i0) w O w' O'∧Ob i0 w' O' (.pointer (some ⟨p0,0,none⟩)) x0∧Vb w' (Fr 0 w' O') v r:=by
 obtain ⟨O0,hE,b0,c0⟩:=ent1 (w:=w) (O:=O) a0.2
 have a0':=Ob.leave a0 b0 c0 (j:=2) (by decide)
 have hB:Bm w O0 w O0:=Bm.refl
 refine AH Tryz.func94 rfl Tryz.ntmps94 rfl ?_
 unfold CG at hm
 refine Al (Aj (An rfl rfl (o_z ?_)))
 refine Al (Al (Aj (Am rfl rfl (EQ rfl rfl ?_))))
 refine o_z ?_
 refine Ae rfl (AI (Al (Aj (Am rfl rfl (BW rfl rfl ?_)))))
 obtain ⟨O2,v6,S3,m0,h4,h7,d0⟩:=Que.opn a0' 2 3 (by decide)
 obtain ⟨A8,c9,rfl⟩:=h7.form
 refine AE rfl rfl (AC (hc:=Blk.cell (i:=0) (h4.1) rfl) rfl rfl ?_)
 refine AP rfl rfl ?_
 have e0:x0.heap.length≤9223372036854775807:=Nat.le_trans h7.len.2.1 h7.len.2.2
 have f0:inI64 (x0.heap.length:Int):=rngNat e0
 refine An rfl rfl (o_z ?_)
 refine AG ?_
 obtain ⟨n0,g0,h0,j0,k0⟩:=Que.shut (x:=x0) (l0:=2) (l1:=3) (by decide) h4 h7 d0
 obtain rfl:=sm hm
 replace hB:=(hB.st S3).st g0
 obtain ⟨O',hS',hz,hl⟩:=hE.leave (fun q=>if q=2 then i0 else 0) rfl hB
 exact ret1v rfl (Az rfl) ⟨O',hS',(Ob.leave k0 hz (hl 2 (by decide) (by decide)) a0.2),(vInt f0)⟩
noncomputable def CS (x0:Que):Option (Int×Int×Int×Err) :=
  if (x0.heap.length:Int)=0 then (some (0,0,0,(⟨3⟩:Err))) else (bnd (atI x0.heap 0) fun a20=>some (a20.key,a20.tie,a20.item,(⟨0⟩:Err)))
theorem IB {w:World} {O:Lab} {p0 i0:Nat} {x0:Que} (b0:Ob i0 w O (.pointer (some ⟨p0,0,none⟩)) x0) {r:Int×Int×Int×Err} (hm:CS x0=some r) :
    Fn Tryz.prog 115 [(.pointer (some ⟨p0,0,none⟩))] w fun v w'=>∃ O',St (eT i0) w O w' O'∧∃ v0 v1 v2 v3:Value,Ob i0 w' O' (.pointer (some ⟨p0,0,none⟩)) x0∧v=.tuple #[v0,v1,v2,v3]∧Vb w' (Fr 0 w' O') v0 r.1∧Vb w' (Fr 0 w' O') v1 r.2.1∧Vb w' (Fr 0 w' O') v2 r.2.2.1∧Vb w' (Fr 0 w' O') v3 r.2.2.2:=by
 obtain ⟨O0,hE,n0,o0⟩:=ent1 (w:=w) (O:=O) b0.2
 have b0':=Ob.leave b0 n0 o0 (j:=2) (by decide)
 have hB:Bm w O0 w O0:=Bm.refl
 refine AH Tryz.func115 rfl Tryz.ntmps115 rfl ?_
 unfold CS at hm
 refine Al (Aj (An rfl rfl (An rfl rfl (An rfl rfl (An rfl rfl (o_z ?_))))))
 refine Al (Al (Aj (Am rfl rfl (EQ rfl rfl ?_))))
 refine Am rfl rfl (Aw rfl rfl (Am rfl rfl (Aw rfl rfl (BW rfl rfl (Aw rfl rfl ?_)))))
 obtain ⟨O2,v6,S3,k1,h4,h7,k0⟩:=Que.opn b0' 2 3 (by decide)
 obtain ⟨A8,c9,rfl⟩:=h7.form
 refine AE rfl rfl (Aw rfl rfl (AC (hc:=Blk.cell (i:=0) (h4.1) rfl) rfl rfl ?_))
 refine Aw rfl rfl (AP rfl rfl ?_)
 have q0:x0.heap.length≤9223372036854775807:=Nat.le_trans h7.len.2.1 h7.len.2.2
 have m1:inI64 (x0.heap.length:Int):=rngNat q0
 refine Aw rfl rfl (GG rfl rfl rfl (fun d0=>?_) fun d0=>?_)
 ·
  replace hm:=ip hm d0
  refine AQ rfl rfl rfl (o_z ?_)
  refine Ah rfl (Al (Aj (Di rfl rfl ?_)))
  refine An rfl rfl (An rfl rfl (An rfl rfl (An rfl rfl (o_z ?_))))
  refine AG ?_
  obtain ⟨n1,r0,s0,t0,u0⟩:=Que.shut (x:=x0) (l0:=2) (l1:=3) (by decide) h4 h7 k0
  obtain rfl:=sm hm
  replace hB:=(hB.st S3).st r0
  obtain ⟨O',hS',hz,hl⟩:=hE.leave (fun q=>if q=2 then i0 else 0) rfl hB
  exact ret4 rfl (Az rfl) (Az rfl) (Az rfl) (Az rfl) ⟨O',hS',_,_,_,_,(Ob.leave u0 hz (hl 2 (by decide) (by decide)) b0.2),rfl,(vInt (show inI64 (0) from by decide)),(vInt (show inI64 (0) from by decide)),(vInt (show inI64 (0) from by decide)),(vErr (by decide))⟩
 replace hm:=im hm d0
 refine AQ rfl rfl rfl (o_z ?_)
 refine Ae rfl (AI (Al (Aj (Am rfl rfl (BW rfl rfl (AE rfl rfl (AC (hc:=Blk.cell (i:=0) (h4.1) rfl) rfl rfl ?_)))))))
 obtain ⟨c0,w0,hm⟩:=bs hm
 obtain ⟨y0,z0⟩:=AO w0
 obtain ⟨o1,p1,a1,e0,f0,g0,rfl,b1,c1,d1,q1⟩:=h7.elem z0
 refine Bo (hA:=e0) (hj:=(Int.toNat_of_nonneg y0).symm) (hlt:=f0) rfl rfl rfl ?_
 refine Bk (hl:=rfl) (hc:=g0) rfl rfl ?_
 refine Ch 4 O2 rfl fun e1 r1 f1 h0 a0=>?_
 refine Br a0 rfl rfl rfl (BN rfl) (allOne rfl) fun m0 j0 a0=>?_
 replace a0:Lc 4 m0 f1 e1 202 [(.int .i64 c0.key),(.int .i64 c0.tie),(.int .i64 c0.item),(.int .i64 c0.number)]:=a0
 refine o_z ?_
 refine Al (Ct (·=m0) [(0,true),(1,true),(2,true),(3,true),(4,true),(5,true),(6,true),(7,true),(8,true),(9,true)] (by kernel_rfl) rfl (by kernel_rfl) rfl ?_)
 refine AT rfl rfl rfl (Cu (hc:=Blk.cell (i:=0) (a0.1) rfl) rfl rfl rfl ?_)
 refine AT rfl rfl rfl (Cu (hc:=Blk.cell (i:=1) (a0.1) rfl) rfl rfl rfl ?_)
 refine AT rfl rfl rfl (Cu (hc:=Blk.cell (i:=2) (a0.1) rfl) rfl rfl rfl ?_)
 refine Ek rfl rfl rfl (Ek rfl rfl rfl (Ek rfl rfl rfl (Ek rfl rfl rfl (h_z ?_))))
 refine AG ?_
 replace h4:=(h4.st h0).st j0
 replace h7:=(h7.st h0).st j0
 obtain ⟨s1,g1,h1,i1,j1⟩:=Que.shut (x:=x0) (l0:=2) (l1:=3) (by decide) h4 h7 k0
 obtain rfl:=sm hm
 replace hB:=(((hB.st S3).st h0).st j0).st g1
 obtain ⟨O',hS',hz,hl⟩:=hE.leave (fun q=>if q=2 then i0 else 0) rfl hB
 exact ret4 rfl (Az rfl) (Az rfl) (Az rfl) (Az rfl) ⟨O',hS',_,_,_,_,(Ob.leave j1 hz (hl 2 (by decide) (by decide)) b0.2),rfl,(vInt b1),(vInt c1),(vInt d1),(vErr (show inI64 0 from by decide))⟩
noncomputable def CO (x0:Que) (x1:Int):Option Que :=
  bnd (lop (ρ:=Que) (fun (s5:Int×Que)=>if 0 < s5.1 then (bnd (chkI (s5.1 - 1)) fun n23=>bnd (quoI n23 2) fun n26=>bnd (atI s5.2.heap s5.1) fun a39=>bnd (atI s5.2.heap n26) fun a54=>bnd (BV a39 a54) fun q69=>if q69=true then bnd (atI s5.2.heap n26) fun a81=>bnd (atI s5.2.heap s5.1) fun a96=>bnd (atI s5.2.heap s5.1) fun a111=>bnd (atI (s5.2.heap.set (s5.1:Int).toNat a81) n26) fun a128=>some (.next (n26,(⟨((s5.2.heap.set (s5.1:Int).toNat a81).set (n26:Int).toNat a96),s5.2.next⟩:Que))) else some (.ret s5.2)) else (some (.brk (s5.1,s5.2)))) (x1,x0)) fun res3=>fin res3 fun (s154:Int×Que)=>some s154.2
theorem Jv {w:World} {O:Lab} {p0 i0:Nat} {x0:Que} (n0:Ob i0 w O (.pointer (some ⟨p0,0,none⟩)) x0) {x1:Int} (rx1:inI64 x1) {r:Que} (hm:CO x0 x1=some r) :
    Fn Tryz.prog 114 [(.pointer (some ⟨p0,0,none⟩)),(.int .i64 x1)] w fun v w'=>∃ O',St (eT i0) w O w' O'∧Ob i0 w' O' (.pointer (some ⟨p0,0,none⟩)) r:=by
 obtain ⟨O0,hE,v2,w2⟩:=ent1 (w:=w) (O:=O) n0.2
 have n0':=Ob.leave n0 v2 w2 (j:=2) (by decide)
 have hB:Bm w O0 w O0:=Bm.refl
 refine AH Tryz.func114 rfl Tryz.ntmps114 rfl ?_
 unfold CO at hm
 obtain ⟨d1,x2,hm⟩:=bs hm
 refine AJ (aft d1 (fun (s5:Int×Que) (x6:Unit)=>[]) (fun s5 x6 w'=>∃ O':Lab,Bm w O0 w' O'∧Ob 2 w' O' (.pointer (some ⟨p0,0,none⟩)) s5.2∧inI64 s5.1)) ?_ ?_
 ·
  refine AM (Gc (σ:=Int×Que) (X:=Unit) x2 (fun (s5:Int×Que) (x6:Unit)=>[(0,(.pointer (some ⟨p0,0,none⟩))),(1,(.int .i64 s5.1))]) _ (fun s5 x6 w'=>∃ O':Lab,Bm w O0 w' O'∧Ob 2 w' O' (.pointer (some ⟨p0,0,none⟩)) s5.2∧inI64 s5.1) _ () ⟨O0,hB,n0',rx1⟩ ⟨rfl,rfl,trivial⟩ ?_)
  rintro s5 x6 w9 y2 ⟨h5,hB,b1,d2⟩ a0 h0 j0
  refine Al (Al (Aj (Am rfl rfl (BS rfl rfl rfl (fun e1=>?_) fun e1=>?_))))
  ·
   replace a0:=ip a0 e1
   refine o_z ?_
   refine Ah rfl (AI (AM (Al (Aj (Am rfl rfl ?_)))))
   obtain ⟨i5,e2,a0⟩:=bs a0
   have f2:=(Bw e2)
   refine Kr (he:=e2) rfl rfl rfl ?_
   obtain ⟨g2,h2,a0⟩:=bs a0
   have z2:=MU h2 f2
   refine PF (he:=h2) (hr:=f2) rfl rfl rfl ?_
   refine An rfl rfl (o_z ?_)
   refine Al (Al ?_)
   obtain ⟨c1,j5,i2,a3,c0,b0,j2⟩:=Que.opn b1 2 3 (by decide)
   obtain ⟨k5,l5,rfl⟩:=b0.form
   refine BG [] c1 ?_
   refine Bb (fuel:=2) [] [(0,true),(1,true),(2,true),(3,true),(4,true),(5,true),(6,true),(7,true),(8,true),(9,true),(10,true),(11,true),(12,true),(13,true)] (by kernel_rfl) rfl ?_
   refine AK rfl rfl rfl (Cm rfl rfl rfl (AT rfl rfl rfl (AS (hc:=fun w' ⟨O',hq⟩=>Blk.cell (i:=0) ((c0.st hq (by decide)).1) rfl) rfl rfl rfl ?_)))
   refine AK rfl rfl rfl ?_
   obtain ⟨o0,b3,a0⟩:=bs a0
   obtain ⟨c3,d3⟩:=AO b3
   obtain ⟨m5,n5,e3,f1,g1,h1,i1,rfl,f3,g3,h3,i3⟩:=b0.elemF d3
   refine BU (hA:=f1) (hj:=(Int.toNat_of_nonneg c3).symm) (hlt:=h1) rfl rfl rfl rfl ?_
   refine Fu (hl:=rfl) (hb:=fun w' ⟨O',hq⟩=>(Bh (hq.agree (i:=3) (by decide)) g1 i1)) rfl rfl rfl ?_
   refine AK rfl rfl rfl (Cm rfl rfl rfl (AT rfl rfl rfl (AS (hc:=fun w' ⟨O',hq⟩=>Blk.cell (i:=0) ((c0.st hq (by decide)).1) rfl) rfl rfl rfl ?_)))
   refine AK rfl rfl rfl ?_
   obtain ⟨q0,j3,a0⟩:=bs a0
   obtain ⟨k3,l3⟩:=AO j3
   obtain ⟨o5,p5,m3,j1,k1,m1,n1,rfl,n3,o3,p3,q3⟩:=b0.elemF l3
   refine BU (hA:=j1) (hj:=(Int.toNat_of_nonneg k3).symm) (hlt:=m1) rfl rfl rfl rfl ?_
   refine Fu (hl:=rfl) (hb:=fun w' ⟨O',hq⟩=>(Bh (hq.agree (i:=3) (by decide)) k1 n1)) rfl rfl rfl ?_
   refine AL ?_
   refine Bg (i:=14) (by kernel_rfl) rfl ?_
   obtain ⟨k2,r3,a0⟩:=bs a0
   refine AV (O:=c1) (A:=All w9) (R:=fun w' F v=>Vb w' F v k2) (FR (fun _ h=>h) (Vb.mono (F:=Fr 0 w9 c1) (Vb.ofAgg (cs:=[(.int .i64 o0.key),(.int .i64 o0.tie),(.int .i64 o0.item),(.int .i64 o0.number)]) (x:=o0) rfl ⟨rfl,f3,g3,h3,i3⟩) Fr.lt) (Vb.mono (F:=Fr 0 w9 c1) (Vb.ofAgg (cs:=[(.int .i64 q0.key),(.int .i64 q0.tie),(.int .i64 q0.item),(.int .i64 q0.number)]) (x:=q0) rfl ⟨rfl,n3,o3,p3,q3⟩) Fr.lt) r3) rfl rfl fun q5 r5 s3 k0 t3=>?_
   obtain rfl:=t3.bool
   have hZ:=k0.lst [] (fun _ h=>h.elim)
   cases k2
   case false =>
    replace a0:=iF a0
    refine BE [] hZ (by kernel_rfl) ?_
    refine Bb (fuel:=0) [] [(15,true)] (by kernel_rfl) rfl ?_
    refine QJ rfl rfl rfl (AL ?_)
    refine Ck (by kernel_rfl) ?_
    refine Ah rfl (AG ?_)
    replace c0:=c0.st k0
    replace b0:=b0.st k0
    obtain ⟨t5,u3,v3,w3,x3⟩:=Que.shut (x:=s5.2) (l0:=2) (l1:=3) (by decide) c0 b0 j2
    obtain rfl:=sm a0
    obtain rfl:=h0 _ rfl
    obtain rfl:=sm (CB hm)
    replace hB:=((hB.st i2).st k0).st u3
    obtain ⟨O',hS',hz,hl⟩:=hE.leave (fun q=>if q=2 then i0 else 0) rfl hB
    exact ret0 rfl  ⟨O',hS',(Ob.leave x3 hz (hl 2 (by decide) (by decide)) n0.2)⟩
   replace a0:=iT a0
   refine BE [] hZ (by kernel_rfl) ?_
   refine Bb (fuel:=0) [] [(15,true)] (by kernel_rfl) rfl ?_
   refine QI rfl rfl rfl (AL ?_)
   refine Ck (by kernel_rfl) ?_
   refine Ae rfl (AI (Al (BG [(25,[3])] s3 ?_)))
   refine Bb (fuel:=4) [] [(0,true),(1,true),(2,true),(3,true),(4,true),(5,true),(6,true),(7,true),(8,true),(10,true),(11,true),(12,true),(13,true),(14,true),(15,true),(16,true),(17,true),(18,true),(19,true),(20,true),(21,true),(22,true),(23,true),(24,true)] (by kernel_rfl) rfl ?_
   refine AK rfl rfl rfl (Cm rfl rfl rfl (AT rfl rfl rfl ?_))
   replace c0:=c0.st k0
   refine AS (hc:=fun w' ⟨O',hq⟩=>Blk.cell (i:=0) ((c0.st hq (by decide)).1) rfl) rfl rfl rfl ?_
   refine AK rfl rfl rfl (AK rfl rfl rfl (Cm rfl rfl rfl (AT rfl rfl rfl (AS (hc:=fun w' ⟨O',hq⟩=>Blk.cell (i:=0) ((c0.st hq (by decide)).1) rfl) rfl rfl rfl ?_))))
   refine AK rfl rfl rfl (Cm rfl rfl rfl (AT rfl rfl rfl (AS (hc:=fun w' ⟨O',hq⟩=>Blk.cell (i:=0) ((c0.st hq (by decide)).1) rfl) rfl rfl rfl ?_)))
   refine AK rfl rfl rfl ?_
   obtain ⟨d0,y3,a0⟩:=bs a0
   obtain ⟨z3,a4⟩:=AO y3
   replace b0:=b0.st k0
   obtain ⟨u5,v5,b4,o1,p1,q1,r1,rfl,c4,d4,e4,f4⟩:=b0.elemF a4
   refine BU (hA:=o1) (hj:=(Int.toNat_of_nonneg z3).symm) (hlt:=q1) rfl rfl rfl rfl ?_
   refine Fu (hl:=rfl) (hb:=fun w' ⟨O',hq⟩=>(Bh (hq.agree (i:=3) (by decide)) p1 r1)) rfl rfl rfl ?_
   refine AK rfl rfl rfl (Cm rfl rfl rfl (AT rfl rfl rfl (AS (hc:=fun w' ⟨O',hq⟩=>Blk.cell (i:=0) ((c0.st hq (by decide)).1) rfl) rfl rfl rfl ?_)))
   refine AK rfl rfl rfl ?_
   obtain ⟨e0,g4,a0⟩:=bs a0
   obtain ⟨h4,i4⟩:=AO g4
   obtain ⟨j4,k4,l2,r0,s0,t0,u0,rfl,s1,t1,u1,v1⟩:=b0.elemF i4
   refine BU (hA:=r0) (hj:=(Int.toNat_of_nonneg h4).symm) (hlt:=t0) rfl rfl rfl rfl ?_
   refine Fu (hl:=rfl) (hb:=fun w' ⟨O',hq⟩=>(Bh (hq.agree (i:=3) (by decide)) s0 u0)) rfl rfl rfl ?_
   obtain ⟨l4,w1,a0⟩:=bs a0
   obtain ⟨y1,v0⟩:=AO w1
   obtain ⟨m4,n4,m2,f0,n2,w0,o2,rfl,o4,p4,q4,r4⟩:=b0.elemF v0
   refine BU (hA:=f0) (hj:=(Int.toNat_of_nonneg y1).symm) (hlt:=w0) rfl rfl rfl rfl ?_
   refine AL ?_
   refine Bb (fuel:=3) [3] [(9,true)] (by kernel_rfl) rfl ?_
   refine AK rfl rfl rfl (AL ?_)
   refine Bg (i:=25) (by kernel_rfl) rfl ?_
   refine Dh rfl b0 (a:=d0) (Vb.ofAgg (cs:=[(.int .i64 d0.key),(.int .i64 d0.tie),(.int .i64 d0.item),(.int .i64 d0.number)]) (x:=d0) rfl ⟨rfl,c4,d4,e4,f4⟩) f0 rfl rfl (AD v0) fun s4 m0 b0=>?_
   have hZ:=m0.lst [3] (fun _ h=>by cases h;decide)
   refine BE [] hZ (by kernel_rfl) ?_
   refine Bb (fuel:=1) [] [(26,true)] (by kernel_rfl) rfl ?_
   obtain ⟨t4,z1,a0⟩:=bs a0
   obtain ⟨a2,y0⟩:=AO z1
   obtain ⟨u4,v4,p2,g0,q2,z0,r2,rfl,w4,x4,y4,z4⟩:=b0.elemF y0
   refine BU (hA:=g0) (hj:=(Int.toNat_of_nonneg a2).symm) (hlt:=z0) rfl rfl rfl rfl ?_
   refine AL ?_
   refine Bg (i:=27) (by kernel_rfl) rfl ?_
   refine Dh rfl b0 (a:=e0) (Vb.ofAgg (cs:=[(.int .i64 e0.key),(.int .i64 e0.tie),(.int .i64 e0.item),(.int .i64 e0.number)]) (x:=e0) rfl ⟨rfl,s1,t1,u1,v1⟩) g0 rfl rfl (AD y0) fun a5 a1 b0=>?_
   refine DI (by kernel_rfl) ?_
   refine Ck (by kernel_rfl) ?_
   refine Aj (Am rfl rfl (An rfl rfl (o_z ?_)))
   replace c0:=(c0.st m0).st a1
   obtain ⟨b5,b2,s2,t2,c2⟩:=Que.shut (x:=(⟨((s5.2.heap.set (s5.1:Int).toNat d0).set (g2:Int).toNat e0),s5.2.next⟩:Que)) (l0:=2) (l1:=3) (by decide) (by have q:=c0;rw [← ((by simp:((s5.2.heap.set (s5.1:Int).toNat d0).set (g2:Int).toNat e0).length=(s5.2.heap.set (s5.1:Int).toNat d0).length).trans ((by simp:(s5.2.heap.set (s5.1:Int).toNat d0).length=s5.2.heap.length).trans rfl))] at q;exact q) b0.relen j2
   obtain rfl:=sm a0
   exact show Exists _ from ⟨_,(),rfl,⟨rfl,rfl,trivial⟩,_,((((hB.st i2).st k0).st m0).st a1).st b2,c2,z2⟩
  replace a0:=im a0 e1
  refine o_z ?_
  refine Ae rfl (DN ?_)
  obtain rfl:=sm a0
  exact show Exists _ from ⟨_,(),j0 _ rfl,trivial,_,hB,b1,d2⟩
 rintro c5 d5 ⟨e5,f5,rfl,u2,g5,hB,b1,d2⟩
 replace hm:=AX hm
 obtain rfl:=sm hm
 obtain ⟨O',hS',hz,hl⟩:=hE.leave (fun q=>if q=2 then i0 else 0) rfl hB
 exact ret0n rfl  ⟨O',hS',(Ob.leave b1 hz (hl 2 (by decide) (by decide)) n0.2)⟩
noncomputable def CA (x0:Que) (x1:Int):Option Que :=
  bnd (lop (ρ:=Que) (fun (s5:Int×Que)=>bnd (chkI (2 * s5.1)) fun n22=>bnd (chkI (n22 + 1)) fun n25=>if (s5.2.heap.length:Int)≤n25 then (some (.ret s5.2)) else (bnd (bnd (bnd (chkI (n25 + 1)) fun n55=>if n55 < (s5.2.heap.length:Int) then (bnd (chkI (n25 + 1)) fun n61=>bnd (atI s5.2.heap n61) fun a64=>bnd (atI s5.2.heap n25) fun a79=>bnd (BV a64 a79) fun q94=>if q94=true then some true else some false) else (some false):Option Bool) fun y51=>if y51=true then (bnd (chkI (n25 + 1)) fun n121=>some n121) else (some n25):Option Int) fun y46=>bnd (atI s5.2.heap y46) fun a138=>bnd (atI s5.2.heap s5.1) fun a153=>bnd (BV a138 a153) fun q168=>if q168=true then bnd (atI s5.2.heap y46) fun a180=>bnd (atI s5.2.heap s5.1) fun a195=>bnd (atI s5.2.heap s5.1) fun a210=>bnd (atI (s5.2.heap.set (s5.1:Int).toNat a180) y46) fun a227=>some (.next (y46,(⟨((s5.2.heap.set (s5.1:Int).toNat a180).set (y46:Int).toNat a195),s5.2.next⟩:Que))) else some (.ret s5.2))) (x1,x0)) fun res3=>fin res3 fun (_:Int×Que)=>none
theorem IC {w:World} {O:Lab} {p0 i0:Nat} {x0:Que} (y0:Ob i0 w O (.pointer (some ⟨p0,0,none⟩)) x0) {x1:Int} (rx1:inI64 x1) {r:Que} (hm:CA x0 x1=some r) :
    Fn Tryz.prog 116 [(.pointer (some ⟨p0,0,none⟩)),(.int .i64 x1)] w fun v w'=>∃ O',St (eT i0) w O w' O'∧Ob i0 w' O' (.pointer (some ⟨p0,0,none⟩)) r:=by
 obtain ⟨O0,hE,p5,q5⟩:=ent1 (w:=w) (O:=O) y0.2
 have y0':=Ob.leave y0 p5 q5 (j:=2) (by decide)
 have hB:Bm w O0 w O0:=Bm.refl
 refine AH Tryz.func116 rfl Tryz.ntmps116 rfl ?_
 unfold CA at hm
 obtain ⟨j2,r5,hm⟩:=bs hm
 refine AJ (aft j2 (fun (s5:Int×Que) (x6:Unit)=>[]) (fun s5 x6 w'=>False)) ?_ ?_
 ·
  refine AM (Gc (σ:=Int×Que) (X:=Unit) r5 (fun (s5:Int×Que) (x6:Unit)=>[(0,(.pointer (some ⟨p0,0,none⟩))),(1,(.int .i64 s5.1))]) _ (fun s5 x6 w'=>∃ O':Lab,Bm w O0 w' O'∧Ob 2 w' O' (.pointer (some ⟨p0,0,none⟩)) s5.2∧inI64 s5.1) _ () ⟨O0,hB,y0',rx1⟩ ⟨rfl,rfl,trivial⟩ ?_)
  rintro s5 x6 w9 t5 ⟨u8,hB,u5,v8⟩ a0 m0 k2
  refine AM (Al (Aj (Am rfl rfl ?_)))
  obtain ⟨w8,p4,a0⟩:=bs a0
  have x8:=(Bw p4)
  refine LI (he:=p4) rfl rfl rfl ?_
  obtain ⟨v5,q4,a0⟩:=bs a0
  have w5:=(Bw q4)
  refine Ee (he:=q4) rfl rfl rfl ?_
  refine An rfl rfl (o_z ?_)
  refine Al (Al (Aj (Am rfl rfl (Am rfl rfl (BW rfl rfl ?_)))))
  obtain ⟨f2,y8,z0,x5,k0,h0,g2⟩:=Que.opn u5 2 3 (by decide)
  obtain ⟨z8,a9,rfl⟩:=h0.form
  refine AE rfl rfl (AC (hc:=Blk.cell (i:=0) (k0.1) rfl) rfl rfl ?_)
  refine AP rfl rfl ?_
  have y5:s5.2.heap.length≤9223372036854775807:=Nat.le_trans h0.len.2.1 h0.len.2.2
  have b9:inI64 (s5.2.heap.length:Int):=rngNat y5
  refine FM rfl rfl rfl (fun l2=>?_) fun l2=>?_
  ·
   replace a0:=ip a0 l2
   refine o_z ?_
   refine Ah rfl (AG ?_)
   obtain ⟨c9,z5,a6,b6,c6⟩:=Que.shut (x:=s5.2) (l0:=2) (l1:=3) (by decide) k0 h0 g2
   obtain rfl:=sm a0
   obtain rfl:=m0 _ rfl
   obtain rfl:=sm (CB hm)
   replace hB:=(hB.st z0).st z5
   obtain ⟨O',hS',hz,hl⟩:=hE.leave (fun q=>if q=2 then i0 else 0) rfl hB
   exact ret0 rfl  ⟨O',hS',(Ob.leave c6 hz (hl 2 (by decide) (by decide)) y0.2)⟩
  replace a0:=im a0 l2
  refine o_z ?_
  refine Ae rfl (AI (Al ?_))
  obtain ⟨h2,e0,a0⟩:=bs a0
  refine AJ (fun l' w'=>∃ (d6:Unit) (O':Lab),subs l' [(0,(.pointer (some ⟨p0,0,none⟩))),(1,(.int .i64 s5.1)),(4,(.int .i64 h2))]∧Bm w O0 w' O'∧Ob 2 w' O' (.pointer (some ⟨p0,0,none⟩)) s5.2∧inI64 h2) ?_ ?_
  ·
   refine Al ?_
   obtain ⟨e6,b0,e0⟩:=bs e0
   refine AJ (fun l' w'=>∃ (f6:Unit) (O':Lab),subs l' [(0,(.pointer (some ⟨p0,0,none⟩))),(1,(.int .i64 s5.1)),(4,(.int .i64 v5)),(40,(.bool e6))]∧Bm w O0 w' O'∧Ob 2 w' O' (.pointer (some ⟨p0,0,none⟩)) s5.2) ?_ ?_
   ·
    refine BG [] f2 ?_
    refine Bb (fuel:=2) [] [(0,true),(1,true),(2,true),(3,true),(4,true),(5,true),(6,true),(7,true),(8,true),(9,true),(10,true),(11,true),(12,true),(13,true),(14,true),(15,true),(16,true),(17,true),(18,true),(19,true),(20,true),(21,true),(22,true),(23,true)] (by kernel_rfl) rfl ?_
    refine AK rfl rfl rfl ?_
    obtain ⟨d9,r4,b0⟩:=bs b0
    have e9:=(Bw r4)
    refine PI (he:=r4) rfl rfl rfl rfl ?_
    refine AK rfl rfl rfl (Cm rfl rfl rfl (AT rfl rfl rfl (AS (hc:=fun w' ⟨O',hq⟩=>Blk.cell (i:=0) ((k0.st hq (by decide)).1) rfl) rfl rfl rfl ?_)))
    refine JQ rfl rfl rfl ?_
    have g6:s5.2.heap.length≤9223372036854775807:=Nat.le_trans h0.len.2.1 h0.len.2.2
    have f9:inI64 (s5.2.heap.length:Int):=rngNat g6
    refine Fv rfl rfl rfl rfl (fun m2=>?_) fun m2=>?_
    ·
     replace b0:=ip b0 m2
     refine AK rfl rfl rfl (AA rfl (Ay rfl rfl (Cj rfl rfl (AA rfl (Ay rfl rfl (QM rfl rfl (AA rfl (Ay rfl rfl (Cn rfl rfl (AA rfl (Ay rfl rfl (PC (hc:=fun w' ⟨O',hq⟩=>Blk.cell (i:=0) ((k0.st hq (by decide)).1) rfl) rfl rfl ?_))))))))))))
     refine AA rfl (Ay rfl rfl (Cj rfl rfl (AA rfl (Ay rfl rfl ?_))))
     obtain ⟨g9,s4,b0⟩:=bs b0
     have h9:=(Bw s4)
     refine RM (he:=s4) rfl rfl rfl ?_
     refine AA rfl (Ay rfl rfl ?_)
     obtain ⟨a1,h6,b0⟩:=bs b0
     obtain ⟨i6,j6⟩:=AO h6
     obtain ⟨i9,j9,k6,n2,o2,p2,q2,rfl,l6,m6,n6,o6⟩:=h0.elemF j6
     refine Nw (hA:=n2) (hj:=(Int.toNat_of_nonneg i6).symm) (hlt:=p2) rfl rfl rfl ?_
     refine AA rfl (Ay rfl rfl (PD (hl:=rfl) (hb:=fun w' ⟨O',hq⟩=>(Bh (hq.agree (i:=3) (by decide)) o2 q2)) rfl rfl ?_))
     refine AA rfl (Ay rfl rfl (Cj rfl rfl (AA rfl (Ay rfl rfl (QM rfl rfl (AA rfl (Ay rfl rfl (Cn rfl rfl (AA rfl (Ay rfl rfl (PC (hc:=fun w' ⟨O',hq⟩=>Blk.cell (i:=0) ((k0.st hq (by decide)).1) rfl) rfl rfl ?_)))))))))))
     refine AA rfl (Ay rfl rfl (Cj rfl rfl (AA rfl (Ay rfl rfl ?_))))
     obtain ⟨b1,p6,b0⟩:=bs b0
     obtain ⟨q6,r6⟩:=AO p6
     obtain ⟨k9,l9,s6,r2,s2,t2,u2,rfl,t6,u6,v6,w6⟩:=h0.elemF r6
     refine Nw (hA:=r2) (hj:=(Int.toNat_of_nonneg q6).symm) (hlt:=t2) rfl rfl rfl ?_
     refine AA rfl (Ay rfl rfl (PD (hl:=rfl) (hb:=fun w' ⟨O',hq⟩=>(Bh (hq.agree (i:=3) (by decide)) s2 u2)) rfl rfl ?_))
     refine AL ?_
     refine Bg (i:=24) (by kernel_rfl) rfl ?_
     refine Aw rfl rfl ?_
     obtain ⟨t4,y6,b0⟩:=bs b0
     refine AV (O:=f2) (A:=All w9) (R:=fun w' F v=>Vb w' F v t4) (FR (fun _ h=>h) (Vb.mono (F:=Fr 0 w9 f2) (Vb.ofAgg (cs:=[(.int .i64 a1.key),(.int .i64 a1.tie),(.int .i64 a1.item),(.int .i64 a1.number)]) (x:=a1) rfl ⟨rfl,l6,m6,n6,o6⟩) Fr.lt) (Vb.mono (F:=Fr 0 w9 f2) (Vb.ofAgg (cs:=[(.int .i64 b1.key),(.int .i64 b1.tie),(.int .i64 b1.item),(.int .i64 b1.number)]) (x:=b1) rfl ⟨rfl,t6,u6,v6,w6⟩) Fr.lt) y6) rfl rfl fun z6 m9 n9 t0 i2=>?_
     obtain rfl:=i2.bool
     have hZ:=t0.lst [] (fun _ h=>h.elim)
     cases t4
     case false =>
      replace b0:=iF b0
      refine BE [] hZ (by kernel_rfl) ?_
      refine Bb (fuel:=0) [] [(25,true)] (by kernel_rfl) rfl ?_
      refine CM rfl rfl rfl rfl (AL ?_)
      refine Ck (by kernel_rfl) ?_
      replace k0:=k0.st t0
      replace h0:=h0.st t0
      obtain ⟨a7,v2,u4,v4,w2⟩:=Que.shut (x:=s5.2) (l0:=2) (l1:=3) (by decide) k0 h0 g2
      obtain rfl:=sm b0
      exact ⟨(),_,⟨rfl,rfl,rfl,rfl,trivial⟩,((hB.st z0).st t0).st v2,w2⟩
     replace b0:=iT b0
     refine BE [] hZ (by kernel_rfl) ?_
     refine Bb (fuel:=0) [] [(25,true)] (by kernel_rfl) rfl ?_
     refine CM rfl rfl rfl rfl (AL ?_)
     refine Ck (by kernel_rfl) ?_
     replace k0:=k0.st t0
     replace h0:=h0.st t0
     obtain ⟨b7,x2,w4,x4,y2⟩:=Que.shut (x:=s5.2) (l0:=2) (l1:=3) (by decide) k0 h0 g2
     obtain rfl:=sm b0
     exact ⟨(),_,⟨rfl,rfl,rfl,rfl,trivial⟩,((hB.st z0).st t0).st x2,y2⟩
    replace b0:=im b0 m2
    refine AK rfl rfl rfl (DW rfl rfl rfl rfl rfl (DW rfl rfl rfl rfl rfl (DW rfl rfl rfl rfl rfl (DW rfl rfl rfl rfl rfl (DW rfl rfl rfl rfl rfl (DW rfl rfl rfl rfl rfl (DW rfl rfl rfl rfl rfl (DW rfl rfl rfl rfl rfl (DW rfl rfl rfl rfl rfl (DW rfl rfl rfl rfl rfl (DW rfl rfl rfl rfl rfl (DW rfl rfl rfl rfl rfl (DW rfl rfl rfl rfl rfl (DW rfl rfl rfl rfl rfl ?_))))))))))))))
    refine DW rfl rfl rfl rfl rfl (AL ?_)
    refine Bg (i:=24) (by kernel_rfl) rfl ?_
    refine At rfl rfl rfl rfl (BE [] ((St.refl nT _ _).lst [] (fun _ h=>h.elim)) (by kernel_rfl) ?_)
    refine Bb (fuel:=0) [] [(25,true)] (by kernel_rfl) rfl ?_
    refine CN rfl rfl rfl rfl (AL ?_)
    refine Ck (by kernel_rfl) ?_
    obtain ⟨c7,z2,y4,z4,a3⟩:=Que.shut (x:=s5.2) (l0:=2) (l1:=3) (by decide) k0 h0 g2
    obtain rfl:=sm b0
    exact ⟨(),_,⟨rfl,rfl,rfl,rfl,trivial⟩,(hB.st z0).st z2,a3⟩
   replace hB:=hB.st z0
   rintro d7 e7 ⟨f6,f7,c1,hB,i2⟩
   refine AN _ c1 ?_
   refine CV rfl (fun u0=>?_) (fun u0=>?_)
   ·
    replace e0:=ip e0 u0
    refine Aj (Am rfl rfl ?_)
    obtain ⟨g7,d1,e0⟩:=bs e0
    have b3:=(Bw d1)
    refine Ee (he:=d1) rfl rfl rfl ?_
    refine An rfl rfl (o_z ?_)
    obtain rfl:=sm e0
    exact ⟨(),_,⟨rfl,rfl,rfl,trivial⟩,hB,i2,b3⟩
   replace e0:=im' e0 u0
   refine AI ?_
   obtain rfl:=sm e0
   exact ⟨(),_,⟨rfl,rfl,rfl,trivial⟩,hB,i2,w5⟩
  replace hB:=hB.st z0
  rintro h7 v0 ⟨d6,i7,e1,hB,j7,k7⟩
  refine AN _ e1 ?_
  refine Al (Al ?_)
  obtain ⟨q0,l7,f1,a5,d0,c0,g1⟩:=Que.opn j7 2 3 (by decide)
  obtain ⟨m7,n7,rfl⟩:=c0.form
  refine BG [] q0 ?_
  refine Bb (fuel:=2) [] [(0,true),(1,true),(2,true),(3,true),(4,true),(5,true),(6,true),(7,true),(8,true),(9,true),(10,true),(11,true),(12,true),(13,true)] (by kernel_rfl) rfl ?_
  refine AK rfl rfl rfl (Cm rfl rfl rfl (AT rfl rfl rfl (AS (hc:=fun w' ⟨O',hq⟩=>Blk.cell (i:=0) ((d0.st hq (by decide)).1) rfl) rfl rfl rfl ?_)))
  refine AK rfl rfl rfl ?_
  obtain ⟨n0,c3,a0⟩:=bs a0
  obtain ⟨d3,e3⟩:=AO c3
  obtain ⟨o7,p7,b5,h1,i1,j1,k1,rfl,f3,g3,h3,i3⟩:=c0.elemF e3
  refine BU (hA:=h1) (hj:=(Int.toNat_of_nonneg d3).symm) (hlt:=j1) rfl rfl rfl rfl ?_
  refine Fu (hl:=rfl) (hb:=fun w' ⟨O',hq⟩=>(Bh (hq.agree (i:=3) (by decide)) i1 k1)) rfl rfl rfl ?_
  refine AK rfl rfl rfl (Cm rfl rfl rfl (AT rfl rfl rfl (AS (hc:=fun w' ⟨O',hq⟩=>Blk.cell (i:=0) ((d0.st hq (by decide)).1) rfl) rfl rfl rfl ?_)))
  refine AK rfl rfl rfl ?_
  obtain ⟨o0,j3,a0⟩:=bs a0
  obtain ⟨k3,l3⟩:=AO j3
  obtain ⟨q7,r7,c5,m1,n1,o1,p1,rfl,m3,n3,o3,p3⟩:=c0.elemF l3
  refine BU (hA:=m1) (hj:=(Int.toNat_of_nonneg k3).symm) (hlt:=o1) rfl rfl rfl rfl ?_
  refine Fu (hl:=rfl) (hb:=fun w' ⟨O',hq⟩=>(Bh (hq.agree (i:=3) (by decide)) n1 p1)) rfl rfl rfl ?_
  refine AL ?_
  refine Bg (i:=14) (by kernel_rfl) rfl ?_
  obtain ⟨q1,q3,a0⟩:=bs a0
  refine AV (O:=q0) (A:=All v0) (R:=fun w' F v=>Vb w' F v q1) (FR (fun _ h=>h) (Vb.mono (F:=Fr 0 v0 q0) (Vb.ofAgg (cs:=[(.int .i64 n0.key),(.int .i64 n0.tie),(.int .i64 n0.item),(.int .i64 n0.number)]) (x:=n0) rfl ⟨rfl,f3,g3,h3,i3⟩) Fr.lt) (Vb.mono (F:=Fr 0 v0 q0) (Vb.ofAgg (cs:=[(.int .i64 o0.key),(.int .i64 o0.tie),(.int .i64 o0.item),(.int .i64 o0.number)]) (x:=o0) rfl ⟨rfl,m3,n3,o3,p3⟩) Fr.lt) q3) rfl rfl fun s7 t7 r3 j0 s3=>?_
  obtain rfl:=s3.bool
  have hZ:=j0.lst [] (fun _ h=>h.elim)
  cases q1
  case false =>
   replace a0:=iF a0
   refine BE [] hZ (by kernel_rfl) ?_
   refine Bb (fuel:=0) [] [(15,true)] (by kernel_rfl) rfl ?_
   refine QJ rfl rfl rfl (AL ?_)
   refine Ck (by kernel_rfl) ?_
   refine Ah rfl (AG ?_)
   replace d0:=d0.st j0
   replace c0:=c0.st j0
   obtain ⟨u7,t3,d5,e5,u3⟩:=Que.shut (x:=s5.2) (l0:=2) (l1:=3) (by decide) d0 c0 g1
   obtain rfl:=sm a0
   obtain rfl:=m0 _ rfl
   obtain rfl:=sm (CB hm)
   replace hB:=((hB.st f1).st j0).st t3
   obtain ⟨O',hS',hz,hl⟩:=hE.leave (fun q=>if q=2 then i0 else 0) rfl hB
   exact ret0 rfl  ⟨O',hS',(Ob.leave u3 hz (hl 2 (by decide) (by decide)) y0.2)⟩
  replace a0:=iT a0
  refine BE [] hZ (by kernel_rfl) ?_
  refine Bb (fuel:=0) [] [(15,true)] (by kernel_rfl) rfl ?_
  refine QI rfl rfl rfl (AL ?_)
  refine Ck (by kernel_rfl) ?_
  refine Ae rfl (AI (Al (BG [(25,[3])] r3 ?_)))
  refine Bb (fuel:=4) [] [(0,true),(1,true),(2,true),(3,true),(4,true),(5,true),(6,true),(7,true),(8,true),(10,true),(11,true),(12,true),(13,true),(14,true),(15,true),(16,true),(17,true),(18,true),(19,true),(20,true),(21,true),(22,true),(23,true),(24,true)] (by kernel_rfl) rfl ?_
  refine AK rfl rfl rfl (Cm rfl rfl rfl (AT rfl rfl rfl ?_))
  replace d0:=d0.st j0
  refine AS (hc:=fun w' ⟨O',hq⟩=>Blk.cell (i:=0) ((d0.st hq (by decide)).1) rfl) rfl rfl rfl ?_
  refine AK rfl rfl rfl (AK rfl rfl rfl (Cm rfl rfl rfl (AT rfl rfl rfl (AS (hc:=fun w' ⟨O',hq⟩=>Blk.cell (i:=0) ((d0.st hq (by decide)).1) rfl) rfl rfl rfl ?_))))
  refine AK rfl rfl rfl (Cm rfl rfl rfl (AT rfl rfl rfl (AS (hc:=fun w' ⟨O',hq⟩=>Blk.cell (i:=0) ((d0.st hq (by decide)).1) rfl) rfl rfl rfl ?_)))
  refine AK rfl rfl rfl ?_
  obtain ⟨f0,v3,a0⟩:=bs a0
  obtain ⟨w3,x3⟩:=AO v3
  replace c0:=c0.st j0
  obtain ⟨v7,w7,f5,r1,s1,t1,u1,rfl,y3,z3,a4,b4⟩:=c0.elemF x3
  refine BU (hA:=r1) (hj:=(Int.toNat_of_nonneg w3).symm) (hlt:=t1) rfl rfl rfl rfl ?_
  refine Fu (hl:=rfl) (hb:=fun w' ⟨O',hq⟩=>(Bh (hq.agree (i:=3) (by decide)) s1 u1)) rfl rfl rfl ?_
  refine AK rfl rfl rfl (Cm rfl rfl rfl (AT rfl rfl rfl (AS (hc:=fun w' ⟨O',hq⟩=>Blk.cell (i:=0) ((d0.st hq (by decide)).1) rfl) rfl rfl rfl ?_)))
  refine AK rfl rfl rfl ?_
  obtain ⟨g0,c4,a0⟩:=bs a0
  obtain ⟨d4,e4⟩:=AO c4
  obtain ⟨x7,y7,g5,v1,w1,y1,z1,rfl,f4,g4,h4,i4⟩:=c0.elemF e4
  refine BU (hA:=v1) (hj:=(Int.toNat_of_nonneg d4).symm) (hlt:=y1) rfl rfl rfl rfl ?_
  refine Fu (hl:=rfl) (hb:=fun w' ⟨O',hq⟩=>(Bh (hq.agree (i:=3) (by decide)) w1 z1)) rfl rfl rfl ?_
  obtain ⟨z7,j4,a0⟩:=bs a0
  obtain ⟨k4,a2⟩:=AO j4
  obtain ⟨a8,b8,h5,r0,i5,b2,j5,rfl,c8,d8,e8,f8⟩:=c0.elemF a2
  refine BU (hA:=r0) (hj:=(Int.toNat_of_nonneg k4).symm) (hlt:=b2) rfl rfl rfl rfl ?_
  refine AL ?_
  refine Bb (fuel:=3) [3] [(9,true)] (by kernel_rfl) rfl ?_
  refine AK rfl rfl rfl (AL ?_)
  refine Bg (i:=25) (by kernel_rfl) rfl ?_
  refine Dh rfl c0 (a:=f0) (Vb.ofAgg (cs:=[(.int .i64 f0.key),(.int .i64 f0.tie),(.int .i64 f0.item),(.int .i64 f0.number)]) (x:=f0) rfl ⟨rfl,y3,z3,a4,b4⟩) r0 rfl rfl (AD a2) fun g8 w0 c0=>?_
  have hZ:=w0.lst [3] (fun _ h=>by cases h;decide)
  refine BE [] hZ (by kernel_rfl) ?_
  refine Bb (fuel:=1) [] [(26,true)] (by kernel_rfl) rfl ?_
  obtain ⟨h8,l4,a0⟩:=bs a0
  obtain ⟨m4,c2⟩:=AO l4
  obtain ⟨i8,j8,k5,s0,l5,d2,m5,rfl,k8,l8,m8,n8⟩:=c0.elemF c2
  refine BU (hA:=s0) (hj:=(Int.toNat_of_nonneg m4).symm) (hlt:=d2) rfl rfl rfl rfl ?_
  refine AL ?_
  refine Bg (i:=27) (by kernel_rfl) rfl ?_
  refine Dh rfl c0 (a:=g0) (Vb.ofAgg (cs:=[(.int .i64 g0.key),(.int .i64 g0.tie),(.int .i64 g0.item),(.int .i64 g0.number)]) (x:=g0) rfl ⟨rfl,f4,g4,h4,i4⟩) s0 rfl rfl (AD c2) fun o8 e2 c0=>?_
  refine DI (by kernel_rfl) ?_
  refine Ck (by kernel_rfl) ?_
  refine Aj (Am rfl rfl (An rfl rfl (o_z ?_)))
  replace d0:=(d0.st w0).st e2
  obtain ⟨p8,n4,n5,o5,o4⟩:=Que.shut (x:=(⟨((s5.2.heap.set (s5.1:Int).toNat f0).set (h2:Int).toNat g0),s5.2.next⟩:Que)) (l0:=2) (l1:=3) (by decide) (by have q:=d0;rw [← ((by simp:((s5.2.heap.set (s5.1:Int).toNat f0).set (h2:Int).toNat g0).length=(s5.2.heap.set (s5.1:Int).toNat f0).length).trans ((by simp:(s5.2.heap.set (s5.1:Int).toNat f0).length=s5.2.heap.length).trans rfl))] at q;exact q) c0.relen g1
  obtain rfl:=sm a0
  exact show Exists _ from ⟨_,(),rfl,⟨rfl,rfl,trivial⟩,_,((((hB.st f1).st j0).st w0).st e2).st n4,o4,k7⟩
 rintro q8 r8 ⟨s8,t8,_,_,hE⟩
 exact hE.elim
noncomputable def BI (x0:Que) (x1:Int) (x2:Int) (x3:Int):Option (Err×Que) :=
  if 65536≤(x0.heap.length:Int) then (some ((⟨10⟩:Err),x0)) else (bnd (appI 32 x0.heap [(⟨x1,x2,x3,x0.next⟩:QEn)]) fun u29=>bnd (chkI (x0.next + 1)) fun n42=>bnd (chkI ((u29.length:Int) - 1)) fun n49=>bnd (CO (⟨u29,n42⟩:Que) n49) fun q57=>some ((⟨0⟩:Err),q57))
theorem FY {w:World} {O:Lab} {p0 i0:Nat} {x0:Que} (b0:Ob i0 w O (.pointer (some ⟨p0,0,none⟩)) x0) {x1:Int} (rx1:inI64 x1) {x2:Int} (rx2:inI64 x2) {x3:Int} (rx3:inI64 x3) {r:Err×Que} (hm:BI x0 x1 x2 x3=some r) :
    Fn Tryz.prog 93 [(.pointer (some ⟨p0,0,none⟩)),(.int .i64 x1),(.int .i64 x2),(.int .i64 x3)] w fun v w'=>∃ O',St (eT i0) w O w' O'∧Ob i0 w' O' (.pointer (some ⟨p0,0,none⟩)) r.2∧Vb w' (Fr 0 w' O') v r.1:=by
 obtain ⟨O0,hE,u0,v0⟩:=ent1 (w:=w) (O:=O) b0.2
 have b0':=Ob.leave b0 u0 v0 (j:=2) (by decide)
 have hB:Bm w O0 w O0:=Bm.refl
 refine AH Tryz.func93 rfl Tryz.ntmps93 rfl ?_
 unfold BI at hm
 refine Al (Aj (An rfl rfl (o_z ?_)))
 refine Al (Al (Aj (Am rfl rfl (EQ rfl rfl ?_))))
 refine o_z ?_
 refine Ae rfl (AI (Al (Al (Aj (Am rfl rfl (BW rfl rfl ?_))))))
 obtain ⟨O5,v9,S6,t1,h7,a0,j0⟩:=Que.opn b0' 2 3 (by decide)
 obtain ⟨u1,v1,rfl⟩:=a0.form
 refine AE rfl rfl (AC (hc:=Blk.cell (i:=0) (h7.1) rfl) rfl rfl ?_)
 refine AP rfl rfl ?_
 have w0:x0.heap.length≤9223372036854775807:=Nat.le_trans a0.len.2.1 a0.len.2.2
 have w1:inI64 (x0.heap.length:Int):=rngNat w0
 refine FM rfl rfl rfl (fun f0=>?_) fun f0=>?_
 ·
  replace hm:=ip hm f0
  refine o_z ?_
  refine Ah rfl (Al (Aj (Di rfl rfl ?_)))
  refine An rfl rfl (o_z ?_)
  refine AG ?_
  obtain ⟨y1,y0,z0,a1,b1⟩:=Que.shut (x:=x0) (l0:=2) (l1:=3) (by decide) h7 a0 j0
  obtain rfl:=sm hm
  replace hB:=(hB.st S6).st y0
  obtain ⟨O',hS',hz,hl⟩:=hE.leave (fun q=>if q=2 then i0 else 0) rfl hB
  exact ret1v rfl (Az rfl) ⟨O',hS',(Ob.leave b1 hz (hl 2 (by decide) (by decide)) b0.2),(vErr (by decide))⟩
 replace hm:=im hm f0
 refine o_z ?_
 refine Ae rfl (AI (Al (BG [(14,[3])] O5 ?_)))
 refine Bb (fuel:=6) [] [(1,true),(2,true),(3,true),(4,true),(5,true),(6,true),(7,true),(8,true),(9,true),(10,true),(11,true),(12,true)] (by kernel_rfl) rfl ?_
 refine AK rfl rfl rfl (Cm rfl rfl rfl (AT rfl rfl rfl (AS (hc:=fun w' ⟨O',hq⟩=>Blk.cell (i:=0) ((h7.st hq (by decide)).1) rfl) rfl rfl rfl ?_)))
 refine AK rfl rfl rfl (AK rfl rfl rfl (AK rfl rfl rfl (AK rfl rfl rfl (Cm rfl rfl rfl (AT rfl rfl rfl (AS (hc:=fun w' ⟨O',hq⟩=>Blk.cell (i:=1) ((h7.st hq (by decide)).1) rfl) rfl rfl rfl ?_))))))
 refine GV rfl rfl rfl rfl ?_
 refine AL ?_
 refine Bb (fuel:=5) [3] [(0,true)] (by kernel_rfl) rfl ?_
 refine AK rfl rfl rfl (AL ?_)
 refine Bg (i:=13) (by kernel_rfl) rfl ?_
 refine BX 4 (by decide) O5 (xs:=([(⟨x1,x2,x3,x0.next⟩:QEn)]:List QEn)) rfl rfl rfl rfl ⟨(Vb.ofAgg (cs:=[(.int .i64 x1),(.int .i64 x2),(.int .i64 x3),(.int .i64 x0.next)]) (x:=(⟨x1,x2,x3,x0.next⟩:QEn)) rfl ⟨rfl,rx1,rx2,rx3,j0⟩),trivial⟩ (by decide) (by decide) rfl fun z1 a2 b2 e0 c1=>?_
 have hZ:=e0.lst [] (fun _ h=>h.elim)
 refine BE [(14,[3])] hZ (by kernel_rfl) ?_
 refine Bg (i:=14) (by kernel_rfl) rfl ?_
 obtain ⟨d0,g0,hm⟩:=bs hm
 obtain ⟨g0,d1,e1⟩:=Cc g0
 replace a0:=a0.st e0
 refine CX rfl a0 (c1.rd) rfl rfl (by decide) d1 e1 rfl fun k0 m0 c2 n0 h0 c0=>?_
 rw [← g0] at c0 ⊢
 have hZ:=h0.lst [3] (fun _ h=>by cases h;decide)
 refine BE [] hZ (by kernel_rfl) ?_
 refine Bb (fuel:=1) [] [(15,true),(16,true)] (by kernel_rfl) rfl ?_
 refine Cm rfl rfl rfl (AT rfl rfl rfl (AL ?_))
 refine Bg (i:=17) (by kernel_rfl) rfl ?_
 replace h7:=(h7.st e0).st h0
 refine Br h7 rfl rfl rfl (BN rfl) (allOne rfl) fun f1 o0 h7=>?_
 replace h7:Lc 2 f1 n0 p0 200 [(.slice k0 d0.length m0),(.int .i64 x0.next)]:=h7
 refine DI (by kernel_rfl) ?_
 refine Ck (by kernel_rfl) ?_
 refine Al (Aj (Am rfl rfl (BW rfl rfl (AE rfl rfl (AC (hc:=Blk.cell (i:=1) (h7.1) rfl) rfl rfl ?_)))))
 obtain ⟨q0,r0,hm⟩:=bs hm
 have g1:=(Bw r0)
 refine Ee (he:=r0) rfl rfl rfl ?_
 refine BW rfl rfl (AE rfl rfl (Br h7 rfl rfl rfl (BN rfl) (allOne rfl) fun h1 s0 h7=>?_))
 replace h7:Lc 2 h1 n0 p0 200 [(.slice k0 d0.length m0),(.int .i64 q0)]:=h7
 refine o_z ?_
 refine Al (Aj (Am rfl rfl (Am rfl rfl (BW rfl rfl (AE rfl rfl (AC (hc:=Blk.cell (i:=0) (h7.1) rfl) rfl rfl ?_))))))
 refine AP rfl rfl ?_
 replace c0:=(c0.st o0).st s0
 have i1:d0.length≤9223372036854775807:=Nat.le_trans c0.len.2.1 c0.len.2.2
 have d2:inI64 (d0.length:Int):=rngNat i1
 obtain ⟨e2,t0,hm⟩:=bs hm
 have j1:=(Bw t0)
 refine Kr (he:=t0) rfl rfl rfl ?_
 obtain ⟨k1,m1,n1,o1,p1⟩:=Que.shut (x:=(⟨d0,q0⟩:Que)) (l0:=2) (l1:=3) (by decide) h7 c0 g1
 obtain ⟨f2,q1,hm⟩:=bs hm
 refine BH (O:=k1) (Jv p1 j1 q1) rfl rfl fun g2 h2 i2 r1 s1=>?_
 refine o_z ?_
 refine Al (Aj (An rfl rfl (o_z ?_)))
 refine AG ?_
 obtain rfl:=sm hm
 replace hB:=((((((hB.st S6).st e0).st h0).st o0).st s0).st m1).st r1
 obtain ⟨O',hS',hz,hl⟩:=hE.leave (fun q=>if q=2 then i0 else 0) rfl hB
 exact ret1v rfl (Az rfl) ⟨O',hS',(Ob.leave s1 hz (hl 2 (by decide) (by decide)) b0.2),(vErr (show inI64 0 from by decide))⟩
noncomputable def Cr (x0:Que):Option (Int×Int×Int×Err×Que) :=
  bnd (CS x0) fun q2=>if q2.2.2.2.n≠0 then (some (0,0,0,(⟨q2.2.2.2.n⟩:Err),x0)) else (bnd (chkI ((x0.heap.length:Int) - 1)) fun n35=>bnd (atI x0.heap n35) fun a38=>bnd (atI x0.heap 0) fun a53=>bnd (cutI (x0.heap.set (0:Int).toNat a38) 0 n35) fun u70=>bnd (CA (⟨u70,x0.next⟩:Que) 0) fun q82=>some (q2.1,q2.2.1,q2.2.2.1,(⟨0⟩:Err),q82))
theorem IW {w:World} {O:Lab} {p0 i0:Nat} {x0:Que} (c0:Ob i0 w O (.pointer (some ⟨p0,0,none⟩)) x0) {r:Int×Int×Int×Err×Que} (hm:Cr x0=some r) :
    Fn Tryz.prog 95 [(.pointer (some ⟨p0,0,none⟩))] w fun v w'=>∃ O',St (eT i0) w O w' O'∧∃ v0 v1 v2 v3:Value,Ob i0 w' O' (.pointer (some ⟨p0,0,none⟩)) r.2.2.2.2∧v=.tuple #[v0,v1,v2,v3]∧Vb w' (Fr 0 w' O') v0 r.1∧Vb w' (Fr 0 w' O') v1 r.2.1∧Vb w' (Fr 0 w' O') v2 r.2.2.1∧Vb w' (Fr 0 w' O') v3 r.2.2.2.1:=by
 obtain ⟨O0,hE,w0,y0⟩:=ent1 (w:=w) (O:=O) c0.2
 have c0':=Ob.leave c0 w0 y0 (j:=2) (by decide)
 have hB:Bm w O0 w O0:=Bm.refl
 refine AH Tryz.func95 rfl Tryz.ntmps95 rfl ?_
 unfold Cr at hm
 refine Al (Aj (An rfl rfl (An rfl rfl (An rfl rfl (An rfl rfl (o_z ?_))))))
 refine Al (Aj (Am rfl rfl ?_))
 obtain ⟨q2,e3,hm⟩:=bs hm
 refine BH (O:=O0) (IB c0' e3) rfl rfl fun v8 w4 O5 S6 h7=>?_
 obtain ⟨n2,o2,p2,r2,h9,rfl,z0,a1,b1,c1⟩:=h7
 obtain ⟨rfl,d1⟩:=z0.int
 obtain ⟨rfl,e1⟩:=a1.int
 obtain ⟨rfl,f1⟩:=b1.int
 obtain ⟨rfl,g1⟩:=c1.err
 refine Am rfl rfl (AZ rfl rfl rfl (AZ rfl rfl rfl (AZ rfl rfl rfl (AZ rfl rfl rfl (An rfl rfl (An rfl rfl (An rfl rfl (An rfl rfl (o_z ?_)))))))))
 refine Al (Al (Aj (Am rfl rfl (Dy rfl rfl (fun f0=>?_) fun f0=>?_))))
 ·
  replace hm:=ip hm f0
  refine o_z ?_
  refine Ah rfl (Al (Aj (Am rfl rfl (An rfl rfl (An rfl rfl (An rfl rfl (An rfl rfl (o_z ?_))))))))
  refine AG ?_
  obtain rfl:=sm hm
  replace hB:=hB.st S6
  obtain ⟨O',hS',hz,hl⟩:=hE.leave (fun q=>if q=2 then i0 else 0) rfl hB
  exact ret4 rfl (Az rfl) (Az rfl) (Az rfl) (Az rfl) ⟨O',hS',_,_,_,_,(Ob.leave h9 hz (hl 2 (by decide) (by decide)) c0.2),rfl,(vInt (show inI64 (0) from by decide)),(vInt (show inI64 (0) from by decide)),(vInt (show inI64 (0) from by decide)),(vErr g1)⟩
 replace hm:=im hm f0
 refine o_z ?_
 refine Ae rfl (AI (Al (Aj (Am rfl rfl (BW rfl rfl ?_)))))
 obtain ⟨o0,s2,h1,i1,a0,b0,j1⟩:=Que.opn h9 2 3 (by decide)
 obtain ⟨k1,m1,rfl⟩:=b0.form
 refine AE rfl rfl (AC (hc:=Blk.cell (i:=0) (a0.1) rfl) rfl rfl ?_)
 refine AP rfl rfl ?_
 have n1:x0.heap.length≤9223372036854775807:=Nat.le_trans b0.len.2.1 b0.len.2.2
 have t2:inI64 (x0.heap.length:Int):=rngNat n1
 obtain ⟨u2,q0,hm⟩:=bs hm
 have w2:=(Bw q0)
 refine Kr (he:=q0) rfl rfl rfl ?_
 refine An rfl rfl (o_z ?_)
 refine Al (BG [] o0 ?_)
 refine Bb (fuel:=1) [] [(0,true),(1,true),(2,true),(3,true),(4,true),(5,true),(6,true),(7,true),(8,true),(9,true),(10,true),(11,true)] (by kernel_rfl) rfl ?_
 refine AK rfl rfl rfl (Cm rfl rfl rfl (AT rfl rfl rfl (AS (hc:=fun w' ⟨O',hq⟩=>Blk.cell (i:=0) ((a0.st hq (by decide)).1) rfl) rfl rfl rfl ?_)))
 refine AK rfl rfl rfl (Cm rfl rfl rfl (AT rfl rfl rfl (AS (hc:=fun w' ⟨O',hq⟩=>Blk.cell (i:=0) ((a0.st hq (by decide)).1) rfl) rfl rfl rfl ?_)))
 refine AK rfl rfl rfl ?_
 obtain ⟨d0,o1,hm⟩:=bs hm
 obtain ⟨p1,q1⟩:=AO o1
 obtain ⟨x2,y2,r1,g0,h0,j0,k0,rfl,s1,t1,u1,w1⟩:=b0.elemF q1
 refine BU (hA:=g0) (hj:=(Int.toNat_of_nonneg p1).symm) (hlt:=j0) rfl rfl rfl rfl ?_
 refine Fu (hl:=rfl) (hb:=fun w' ⟨O',hq⟩=>(Bh (hq.agree (i:=3) (by decide)) h0 k0)) rfl rfl rfl ?_
 obtain ⟨z2,x1,hm⟩:=bs hm
 obtain ⟨y1,r0⟩:=AO x1
 obtain ⟨a3,b3,z1,e0,a2,m0,b2,rfl,c3,d3,f3,g3⟩:=b0.elemF r0
 refine BU (hA:=e0) (hj:=(Int.toNat_of_nonneg y1).symm) (hlt:=m0) rfl rfl rfl rfl ?_
 refine AL ?_
 refine Bg (i:=12) (by kernel_rfl) rfl ?_
 refine Dh rfl b0 (a:=d0) (Vb.ofAgg (cs:=[(.int .i64 d0.key),(.int .i64 d0.tie),(.int .i64 d0.item),(.int .i64 d0.number)]) (x:=d0) rfl ⟨rfl,s1,t1,u1,w1⟩) e0 rfl rfl (AD r0) fun h3 s0 b0=>?_
 refine DI (by kernel_rfl) ?_
 refine Ck (by kernel_rfl) ?_
 refine Al (Aj (Am rfl rfl (Am rfl rfl (BW rfl rfl (AE rfl rfl ?_)))))
 replace a0:=a0.st s0
 refine AC (hc:=Blk.cell (i:=0) (a0.1) rfl) rfl rfl ?_
 refine Am rfl rfl ?_
 obtain ⟨t0,c2,hm⟩:=bs hm
 obtain ⟨n0,d2⟩:=cutRw b0 c2
 refine QY (hc:=d2) rfl rfl rfl ?_
 refine BW rfl rfl (AE rfl rfl (Br a0 rfl rfl rfl (BN rfl) (allOne rfl) fun e2 u0 a0=>?_))
 replace a0:Lc 2 e2 o0 p0 200 [(.slice k1 t0.length m1),(.int .i64 x0.next)]:=a0
 refine o_z ?_
 refine Al (Aj (Am rfl rfl ?_))
 replace n0:=n0.st u0
 obtain ⟨f2,g2,h2,i2,j2⟩:=Que.shut (x:=(⟨t0,x0.next⟩:Que)) (l0:=2) (l1:=3) (by decide) a0 n0 j1
 obtain ⟨i3,k2,hm⟩:=bs hm
 refine BH (O:=f2) (IC j2 (show inI64 (0) from by decide) k2) rfl rfl fun j3 k3 l3 l2 m2=>?_
 refine o_z ?_
 refine Al (Aj (Am rfl rfl (Am rfl rfl (Am rfl rfl (An rfl rfl (An rfl rfl (An rfl rfl (An rfl rfl (o_z ?_)))))))))
 refine AG ?_
 obtain rfl:=sm hm
 replace hB:=(((((hB.st S6).st h1).st s0).st u0).st g2).st l2
 obtain ⟨O',hS',hz,hl⟩:=hE.leave (fun q=>if q=2 then i0 else 0) rfl hB
 exact ret4 rfl (Az rfl) (Az rfl) (Az rfl) (Az rfl) ⟨O',hS',_,_,_,_,(Ob.leave m2 hz (hl 2 (by decide) (by decide)) c0.2),rfl,(vInt d1),(vInt e1),(vInt f1),(vErr (show inI64 0 from by decide))⟩
end
section
open Go Go.RowKit
attribute [local irreducible] ewp owp hwp hwq hws Ev Evg Fn retPost loud loudS Res1
attribute [local irreducible] hwx loudX
def BR (xs:List U64):Option (List U64):=if xs.length * 8≤140737488355328∧xs.length≤9223372036854775807 then some xs else none
theorem FV {w:World} {A:Nat→Prop} (hA:∀ k,A k→k < w.heap.size) {v0:Value} {x0:List U64} (h0:Vb w A v0 x0) {r:List U64} (hm:BR x0=some r) :
    Fn Tryz.prog 110 [v0] w fun v w'=>Ext w w'∧RowR w w' (upA A w w') 182 v r:=by
  obtain ⟨⟨hl,a0⟩,rfl⟩:=Fy hm
  obtain ⟨O,hB,b0⟩:=enter hA
  replace h0:=h0.mono b0
  obtain ⟨Ad,c,rfl⟩:=h0.form
  refine AH Tryz.func110 rfl Tryz.ntmps110 rfl ?_
  cases Ad with
  | none =>
    have hx:x0=[]:=by
      cases x0 with
      | nil=>rfl
      | cons x xs=>obtain ⟨_,_,_,h,_⟩:=h0.elem (k:=0) (x:=x) rfl;cases h
    subst hx
    ((repeat (first|refine Au ?_|refine Ah rfl ?_|refine Ae rfl ?_))<;>(refine An rfl rfl ?_<;>(refine o_z ?_))<;>(repeat (first|refine Au ?_|refine Ah rfl ?_|refine Ae rfl ?_))<;>(refine Am rfl rfl ?_<;>refine Hv rfl rfl ?_<;>(refine o_z ?_))<;>(repeat (first|refine Au ?_|refine Ah rfl ?_|refine Ae rfl ?_))<;>(refine An rfl rfl ?_<;>(refine o_z ?_))<;>(repeat (first|refine Au ?_|refine Ah rfl ?_|refine Ae rfl ?_)))
    exact ret1 rfl rfl ⟨Below.refl _ _,RowR.nil⟩
  | some ad =>
    ((repeat (first|refine Au ?_|refine Ah rfl ?_|refine Ae rfl ?_))<;>(refine An rfl rfl ?_<;>(refine o_z ?_))<;>(repeat (first|refine Au ?_|refine Ah rfl ?_|refine Ae rfl ?_))<;>(refine Am rfl rfl ?_<;>refine Hv rfl rfl ?_<;>(refine o_z ?_))<;>(repeat (first|refine Au ?_|refine Ah rfl ?_|refine Ae rfl ?_)))
    refine BX 2 (by decide) O (xs:=([]:List U64)) rfl rfl rfl rfl trivial (by decide) (by decide) rfl fun g w1 O1 S1 h1=>?_
    replace hB:=hB.st S1 (fun h=>h) (fun h=>h)
    replace h0:=h0.st S1 (fun h=>h)
    (refine Am rfl rfl ?_)
    refine CX rfl h1 h0.rd rfl rfl (by decide) (by simpa using hl) (by simpa using a0) rfl fun A2 c2 w2 O2 S2 h2=>?_
    replace hB:=hB.st S2 (by decide) (by decide)
    rw [List.nil_append] at h2 ⊢
    (refine An rfl rfl ?_<;>(refine o_z ?_))
    repeat (first|refine Au ?_|refine Ah rfl ?_|refine Ae rfl ?_)
    exact ret1 rfl rfl ⟨hB.ext,h2.out hB (by decide)⟩
structure PFd where
  word:Int
  bit:Int
  width:Int
  size:Int
instance:Rp PFd where
  isAgg:=true
  size:=4
  R w F cs x:=cs=[.int .i64 x.word,.int .i64 x.bit,.int .i64 x.width,.int .i64 x.size]∧inI64 x.word∧inI64 x.bit∧inI64 x.width∧inI64 x.size
  len:=by rintro w F cs x ⟨rfl,h0,h1,h2,h3⟩;rfl
  one:=by rintro w F cs x ⟨rfl,h0,h1,h2,h3⟩ u hu;simp at hu;rcases hu with rfl|rfl|rfl|rfl<;>first|rfl|exact Vb.one rfl (by assumption)
  agree:=by rintro w w' F cs x ⟨rfl,h0,h1,h2,h3⟩ ha;exact ⟨rfl,h0,h1,h2,h3⟩
  mono:=by rintro w F G cs x ⟨rfl,h0,h1,h2,h3⟩ ha;exact ⟨rfl,h0,h1,h2,h3⟩
structure Pkr where
  fields:List PFd
  words:Int
instance:Ow Pkr where
  R w F M v x:=∃ (g:Nat) (L:Lab) (c0:Value),v=.pointer (some ⟨g,0,none⟩)∧Blk w g 175 [c0,.int .i64 x.words]∧M g∧L g=0∧RwM w F (fun k=>M k∧L k=1) 177 c0 x.fields∧inI64 x.words
  agree:=by rintro w w' F M v x ⟨g,L,c0,rfl,hb,hM,hL,h0,h1⟩ a1 a2;exact ⟨g,L,c0,rfl,hb.keep (a2 g hM),hM,hL,h0.agree a1 fun k hk=>a2 k hk.1,h1⟩
  mono:=by rintro w F M F' M' v x ⟨g,L,c0,rfl,hb,hM,hL,h0,h1⟩ a1 a2 a3;exact ⟨g,L,c0,rfl,hb,a2 g hM,hL,h0.mono a1 (fun k hk=>⟨a2 k hk.1,hk.2⟩) fun k hf hm=>a3 k hf hm.1,h1⟩
instance:OwP Pkr:=⟨by rintro w F M v x ⟨g,L,c0,rfl,_⟩;exact ⟨g,rfl⟩⟩
theorem Pkr.opn {i:Nat} {w:World} {O:Lab} {p:Nat} {x:Pkr} (h:Ob i w O (.pointer (some ⟨p,0,none⟩)) x) (l0 l1:Nat) (hl:l0≠0∧l1≠0):∃ (O':Lab) (c0:Value),St (eT i) w O w O'∧(∀ k,Fr i w O k→∃ q,q∈[l0,l1]∧Fr q w O' k)∧Lc l0 w O' p 175 [c0,.int .i64 x.words]∧Rw l1 w O' 177 c0 x.fields∧inI64 x.words:=by
  obtain ⟨⟨g,L,c0,hv,hb,hM,hL,h0,h1⟩,hi⟩:=h
  obtain rfl:p=g:=by injection hv with hv;injection hv with hv;injection hv
  exact ⟨part O i L [l0,l1],c0,Js hi,HZ (by simp),⟨hb,(EL (j:=0) rfl p ⟨hM,hL⟩).2⟩,h0.rw (CY hi) (EL (j:=1) rfl) hl.2,h1⟩
theorem Pkr.shut {w:World} {O:Lab} {p:Nat} {x:Pkr} {l0 l1:Nat} {c0:Value} (hd:¬ 0∈[l0,l1]∧[l0,l1].idxOf l0=0∧[l0,l1].idxOf l1=1) (hb:Lc l0 w O p 175 [c0,.int .i64 x.words]) (h0:Rw l1 w O 177 c0 x.fields) (h1:inI64 x.words):∃ O',St (·∈[l0,l1]) w O w O'∧(∀ k,Fr 0 w O k→Fr 0 w O' k)∧(∀ q,q∈[l0,l1]→∀ k,Fr q w O k→Fr l0 w O' k)∧Ob l0 w O' (.pointer (some ⟨p,0,none⟩)) x:=by
  have hb1:l0≠0:=fun e=>hd.1 (by simp [e])
  have hg:=Em (i:=l0) hd.2.1 (by simp) p ⟨hb.1.lt,hb.2⟩
  exact ⟨whole O l0 [l0,l1],Ia,Ce hd.1,Hq,⟨p,fun k=>[l0,l1].idxOf (O k),c0,rfl,hb.1,hg.1,hg.2,h0.m (Ce hd.1) (Em hd.2.2 (by simp)) (fun k a b=>frNe0 hb1 k a b.1),h1⟩,hb1⟩
noncomputable def EE (x0:List Int):Option ((Option Pkr)×Err) :=
  if 64 < (x0.length:Int) then (some (none,(⟨5⟩:Err))) else (bnd (rng (ρ:=(Option Pkr)×Err) (fun (k25:Nat) (a26:Int) (s23:Int×Pkr)=>bnd (if a26 < 1 then (some true) else (if 64 < a26 then (some true) else (some false)):Option Bool) fun y48=>if y48=true then (some (.ret (none,(⟨1⟩:Err)))) else (bnd (lop (ρ:=Ctl (Int×Pkr) ((Option Pkr)×Err)) (fun (s61:Int)=>bnd (shlI 1 s61) fun n76=>if n76 < a26 then (bnd (chkI (s61 + 1)) fun n80=>some (.next n80)) else (some (.brk s61))) 0) fun res59=>fin res59 fun (s87:Int)=>bnd (bnd (chkI (s23.1 + s87)) fun n95=>if 64 < n95 then (bnd (chkI (s23.2.words + 1)) fun n109=>some (0,(⟨s23.2.fields,n109⟩:Pkr))) else (some (s23.1,s23.2)):Option (Int×Pkr)) fun y89=>bnd (chkI (y89.2.words - 1)) fun n133=>bnd (appI 32 y89.2.fields [(⟨n133,y89.1,s87,a26⟩:PFd)]) fun u142=>bnd (chkI (y89.1 + s87)) fun n155=>some (.next (n155,(⟨u142,y89.2.words⟩:Pkr))))) x0 0 (0,(⟨([]:List PFd),1⟩:Pkr))) fun res21=>fin res21 fun (s167:Int×Pkr)=>some ((some s167.2),(⟨0⟩:Err)))
theorem Ny {w:World} {O:Lab} {vx0:Value} {x0:List Int} (b0:Vb w (Fr 0 w O) vx0 x0) (j0:Nat) (hj0:j0≠0) {r:(Option Pkr)×Err} (hm:EE x0=some r) :
    Fn Tryz.prog 82 [vx0] w fun v w'=>∃ O',St nT w O w' O'∧∃ v0 v1:Value,v=.tuple #[v0,v1]∧Obo j0 w' O' v0 r.1∧Vb w' (Fr 0 w' O') v1 r.2:=by
 obtain ⟨O0,hE,q3⟩:=ent0 (w:=w) (O:=O)
 have hB:Bm w O0 w O0:=Bm.refl
 replace b0:=b0.mono q3
 obtain ⟨A2,c3,rfl⟩:=b0.form
 refine AH Tryz.func82 rfl Tryz.ntmps82 rfl ?_
 unfold EE at hm
 refine Al (Aj (An rfl rfl (An rfl rfl (o_z ?_))))
 refine Al (Al (Aj (Am rfl rfl (AP rfl rfl ?_))))
 have l5:x0.length≤9223372036854775807:=Nat.le_trans b0.len.2.1 b0.len.2.2
 have r4:inI64 (x0.length:Int):=rngNat l5
 refine BS rfl rfl rfl (fun c6=>?_) fun c6=>?_
 ·
  replace hm:=ip hm c6
  refine o_z ?_
  refine Ah rfl (Al (Aj (Di rfl rfl ?_)))
  refine An rfl rfl (An rfl rfl (o_z ?_))
  refine AG ?_
  obtain rfl:=sm hm
  obtain ⟨O',hS',hz,hl⟩:=hE.leave (fun _=>0) rfl hB
  exact ret2 rfl (Az rfl) (Az rfl) ⟨O',hS',_,_,rfl,rfl,(vErr (by decide))⟩
 replace hm:=im hm c6
 refine o_z ?_
 refine Ae rfl (AI (Al (Aj (EC rfl rfl rfl ?_))))
 refine Dc 2 O0 rfl rfl fun g7 w8 O9 x1 y1=>?_
 replace y1:Lc 2 w8 O9 g7 175 [(.slice none 0 0),(.int .i64 1)]:=y1
 refine An rfl rfl (o_z ?_)
 refine Al (Aj (An rfl rfl (o_z ?_)))
 refine Al (Al (Aj (Am rfl rfl (AP rfl rfl ?_))))
 replace b0:=b0.st x1
 have z1:x0.length≤9223372036854775807:=Nat.le_trans b0.len.2.1 b0.len.2.2
 have d5:inI64 (x0.length:Int):=rngNat z1
 refine Am rfl rfl (o_z ?_)
 have r3:Rw 3 w8 O9 177 (.slice none 0 0) ([]:List PFd):=Rw.nil 3 (by decide)
 obtain ⟨s3,a2,t3,u3,v3⟩:=Pkr.shut (x:=(⟨([]:List PFd),1⟩:Pkr)) (l0:=2) (l1:=3) (by decide) y1 r3 (show inI64 (1) from by decide)
 obtain ⟨b1,b2,hm⟩:=bs hm
 refine AJ (aft b1 (fun (g0:Int×Pkr) (s1:Unit)=>[(4,(.pointer (some ⟨g7,0,none⟩)))]) (fun g0 s1 w'=>∃ O':Lab,Bm w O0 w' O'∧Ob 2 w' O' (.pointer (some ⟨g7,0,none⟩)) g0.2∧inI64 g0.1)) ?_ ?_
 ·
  refine AM ?_
  replace hB:=(hB.st x1).st a2
  replace b0:=b0.st a2
  refine By (σ:=Int×Pkr) (X:=Unit) (x0.length) b2 rfl z1 (fun (g0:Int×Pkr) (s1:Unit)=>[(4,(.pointer (some ⟨g7,0,none⟩))),(5,(.int .i64 g0.1)),(15,(.slice A2 x0.length c3))]) _ (fun g0 s1 w'=>∃ O':Lab,Bm w O0 w' O'∧Ob 2 w' O' (.pointer (some ⟨g7,0,none⟩)) g0.2∧Vb w' (Fr 0 w' O') (.slice A2 x0.length c3) x0∧inI64 g0.1) _ () ⟨s3,hB,v3,b0,(show inI64 (0) from by decide)⟩ ⟨rfl,rfl,rfl,rfl,rfl,trivial⟩ (fun _ _=>⟨rfl,rfl⟩) (fun _ _=>⟨rfl,trivial⟩) (fun _ _ _ ⟨O',hB,h0,b0,t1⟩=>⟨O',hB,h0,t1⟩) ⟨rfl,rfl,rfl⟩ ⟨rfl,rfl⟩ ?_
  rintro c1 s0 g0 s1 e5 w3 d1 ⟨f5,hB,h0,b0,t1⟩ a0 t0 c2
  have rk25:inI64 (c1:Int):=rngK d1 z1
  refine Al (Aj ?_)
  obtain ⟨g5,h5,x3,d2,e2,f2,rfl,y3⟩:=b0.elem' d1
  refine Bo (hA:=d2) (hj:=rfl) (hlt:=e2) rfl rfl rfl ?_
  refine AC (hc:=cat0 f2) rfl rfl ?_
  refine An rfl rfl (o_z ?_)
  refine Al (Al ?_)
  obtain ⟨z3,c0,a0⟩:=bs a0
  refine AJ (fun l' w'=>∃ (a4:Unit) (O':Lab),subs l' [(4,(.pointer (some ⟨g7,0,none⟩))),(5,(.int .i64 g0.1)),(7,(.int .i64 s0)),(15,(.slice A2 x0.length c3)),(16,(.int .i64 (x0.length:Int))),(17,(.int .i64 (c1:Int))),(26,(.bool z3))]∧Bm w O0 w' O'∧Ob 2 w' O' (.pointer (some ⟨g7,0,none⟩)) g0.2∧Vb w' (Fr 0 w' O') (.slice A2 x0.length c3) x0) ?_ ?_
  ·
   refine Aj (Am rfl rfl (Dx rfl rfl rfl (fun g2=>?_) fun g2=>?_))
   ·
    replace c0:=ip c0 g2
    refine Am rfl rfl (At rfl rfl rfl rfl (At rfl rfl rfl rfl (AY rfl rfl rfl (o_z ?_))))
    obtain rfl:=sm c0
    exact ⟨(),_,⟨rfl,rfl,rfl,rfl,rfl,rfl,rfl,trivial⟩,hB,h0,b0⟩
   replace c0:=im c0 g2
   refine Am rfl rfl (Aw rfl rfl (Am rfl rfl (Aw rfl rfl (BS rfl rfl rfl (fun h2=>?_) fun h2=>?_))))
   ·
    replace c0:=ip c0 h2
    refine AQ rfl rfl rfl (o_z ?_)
    obtain rfl:=sm c0
    exact ⟨(),_,⟨rfl,rfl,rfl,rfl,rfl,rfl,rfl,trivial⟩,hB,h0,b0⟩
   replace c0:=im c0 h2
   refine AQ rfl rfl rfl (o_z ?_)
   obtain rfl:=sm c0
   exact ⟨(),_,⟨rfl,rfl,rfl,rfl,rfl,rfl,rfl,trivial⟩,hB,h0,b0⟩
  rintro i5 j5 ⟨a4,b4,i2,hB,h0,b0⟩
  refine AN _ i2 ?_
  refine CV rfl (fun j2=>?_) (fun j2=>?_)
  ·
   replace a0:=ip a0 j2
   refine Al (Aj (Di rfl rfl ?_))
   refine An rfl rfl (An rfl rfl (o_z ?_))
   refine AG ?_
   obtain rfl:=sm a0
   obtain rfl:=t0 _ rfl
   obtain rfl:=sm (CB hm)
   obtain ⟨O',hS',hz,hl⟩:=hE.leave (fun _=>0) rfl hB
   exact ret2 rfl (Az rfl) (Az rfl) ⟨O',hS',_,_,rfl,rfl,(vErr (by decide))⟩
  replace a0:=im' a0 j2
  refine AI (Al (Aj (An rfl rfl (o_z ?_))))
  refine Al ?_
  obtain ⟨e1,k2,a0⟩:=bs a0
  refine AJ (aft e1 (fun (q0:Int) (u1:Unit)=>[(4,(.pointer (some ⟨g7,0,none⟩))),(5,(.int .i64 g0.1)),(7,(.int .i64 s0)),(8,(.int .i64 q0)),(15,(.slice A2 x0.length c3)),(16,(.int .i64 (x0.length:Int))),(17,(.int .i64 (c1:Int)))]) (fun q0 u1 w'=>∃ O':Lab,Bm w O0 w' O'∧Ob 2 w' O' (.pointer (some ⟨g7,0,none⟩)) g0.2∧Vb w' (Fr 0 w' O') (.slice A2 x0.length c3) x0∧inI64 q0)) ?_ ?_
  ·
   refine AM (Gc (σ:=Int) (X:=Unit) k2 (fun (q0:Int) (u1:Unit)=>[(4,(.pointer (some ⟨g7,0,none⟩))),(5,(.int .i64 g0.1)),(7,(.int .i64 s0)),(8,(.int .i64 q0)),(15,(.slice A2 x0.length c3)),(16,(.int .i64 (x0.length:Int))),(17,(.int .i64 (c1:Int)))]) _ (fun q0 u1 w'=>∃ O':Lab,Bm w O0 w' O'∧Ob 2 w' O' (.pointer (some ⟨g7,0,none⟩)) g0.2∧Vb w' (Fr 0 w' O') (.slice A2 x0.length c3) x0∧inI64 q0) _ () ⟨b4,hB,h0,b0,(show inI64 (0) from by decide)⟩ ⟨rfl,rfl,rfl,rfl,rfl,rfl,rfl,trivial⟩ ?_)
   rintro q0 u1 k5 c4 ⟨m5,hB,h0,b0,l2⟩ d0 m2 u0
   refine Al (Al (Aj (Am rfl rfl ?_)))
   obtain ⟨n5,h3,d0⟩:=bs d0
   have o5:=OY h3
   refine RS (he:=h3) rfl rfl rfl ?_
   refine Am rfl rfl (Dx rfl rfl rfl (fun n2=>?_) fun n2=>?_)
   ·
    replace d0:=ip d0 n2
    refine o_z ?_
    refine Ah rfl (AI (AM (Aj (Am rfl rfl ?_))))
    obtain ⟨p5,i3,d0⟩:=bs d0
    have d4:=(Bw i3)
    refine Ee (he:=i3) rfl rfl rfl ?_
    refine An rfl rfl (o_z ?_)
    obtain rfl:=sm d0
    exact show Exists _ from ⟨_,(),rfl,⟨rfl,rfl,rfl,rfl,rfl,rfl,rfl,trivial⟩,_,hB,h0,b0,d4⟩
   replace d0:=im d0 n2
   refine o_z ?_
   refine Ae rfl (DN ?_)
   obtain rfl:=sm d0
   exact show Exists _ from ⟨_,(),u0 _ rfl,⟨rfl,rfl,rfl,rfl,rfl,rfl,rfl,trivial⟩,_,hB,h0,b0,l2⟩
  rintro q5 r5 ⟨w1,s5,rfl,o2,t5,hB,h0,b0,l2⟩
  replace a0:=AX a0
  refine AN _ o2 ?_
  refine Al ?_
  obtain ⟨r0,e0,a0⟩:=bs a0
  refine AJ (fun l' w'=>∃ (e4:Unit) (O':Lab),subs l' [(4,(.pointer (some ⟨g7,0,none⟩))),(5,(.int .i64 r0.1)),(7,(.int .i64 s0)),(8,(.int .i64 w1)),(15,(.slice A2 x0.length c3)),(16,(.int .i64 (x0.length:Int))),(17,(.int .i64 (c1:Int)))]∧Bm w O0 w' O'∧Ob 2 w' O' (.pointer (some ⟨g7,0,none⟩)) r0.2∧Vb w' (Fr 0 w' O') (.slice A2 x0.length c3) x0∧inI64 r0.1) ?_ ?_
  ·
   refine Al (Aj (Am rfl rfl (Am rfl rfl ?_)))
   obtain ⟨u5,j3,e0⟩:=bs e0
   have v5:=(Bw j3)
   refine Ee (he:=j3) rfl rfl rfl ?_
   refine BS rfl rfl rfl (fun p2=>?_) fun p2=>?_
   ·
    replace e0:=ip e0 p2
    refine o_z ?_
    refine Ah rfl (Al (Aj (Am rfl rfl (BW rfl rfl ?_))))
    obtain ⟨f4,g4,f1,k3,i0,m0,h4⟩:=Pkr.opn h0 2 4 (by decide)
    obtain ⟨q2,r2,rfl⟩:=m0.form
    refine AE rfl rfl (AC (hc:=Blk.cell (i:=1) (i0.1) rfl) rfl rfl ?_)
    obtain ⟨g1,h1,e0⟩:=bs e0
    have s2:=(Bw h1)
    refine Ee (he:=h1) rfl rfl rfl ?_
    refine BW rfl rfl (AE rfl rfl (Br i0 rfl rfl rfl (BN rfl) (allOne rfl) fun t2 w0 i0=>?_))
    replace i0:Lc 2 t2 f4 g7 175 [(.slice q2 g0.2.fields.length r2),(.int .i64 g1)]:=i0
    refine o_z ?_
    refine Aj (An rfl rfl (o_z ?_))
    replace m0:=m0.st w0
    obtain ⟨i4,i1,l3,m3,u2⟩:=Pkr.shut (x:=(⟨g0.2.fields,g1⟩:Pkr)) (l0:=2) (l1:=4) (by decide) i0 m0 s2
    obtain rfl:=sm e0
    exact ⟨(),_,⟨rfl,rfl,rfl,rfl,rfl,rfl,rfl,trivial⟩,((hB.st f1).st w0).st i1,u2,((b0.st f1).st w0).st i1,(show inI64 (0) from by decide)⟩
   replace e0:=im e0 p2
   refine o_z ?_
   refine Ae rfl (AI ?_)
   obtain rfl:=sm e0
   exact ⟨(),_,⟨rfl,rfl,rfl,rfl,rfl,rfl,rfl,trivial⟩,hB,h0,b0,t1⟩
  rintro j4 k4 ⟨e4,l4,j1,hB,m4,b0,n4⟩
  refine AN _ j1 ?_
  refine Al ?_
  obtain ⟨k1,o4,m1,n3,f0,n0,v2⟩:=Pkr.opn m4 2 4 (by decide)
  obtain ⟨p4,q4,rfl⟩:=n0.form
  refine BG [(15,[4])] k1 ?_
  refine Bb (fuel:=6) [] [(1,true),(2,true),(3,true),(4,true),(5,true),(6,true),(7,true),(8,true),(9,true),(10,true),(11,true),(12,true),(13,true)] (by kernel_rfl) rfl ?_
  refine AK rfl rfl rfl (Cm rfl rfl rfl (AT rfl rfl rfl (AS (hc:=fun w' ⟨O',hq⟩=>Blk.cell (i:=0) ((f0.st hq (by decide)).1) rfl) rfl rfl rfl ?_)))
  refine AK rfl rfl rfl (Cm rfl rfl rfl (AT rfl rfl rfl (AS (hc:=fun w' ⟨O',hq⟩=>Blk.cell (i:=1) ((f0.st hq (by decide)).1) rfl) rfl rfl rfl ?_)))
  obtain ⟨y0,n1,a0⟩:=bs a0
  have w2:=(Bw n1)
  refine RN (he:=n1) rfl rfl rfl rfl ?_
  refine AK rfl rfl rfl (AK rfl rfl rfl (AK rfl rfl rfl (GV rfl rfl rfl rfl ?_)))
  refine AL ?_
  refine Bb (fuel:=5) [4] [(0,true)] (by kernel_rfl) rfl ?_
  refine AK rfl rfl rfl (AL ?_)
  refine Bg (i:=14) (by kernel_rfl) rfl ?_
  refine BX 5 (by decide) k1 (xs:=([(⟨y0,r0.1,w1,s0⟩:PFd)]:List PFd)) rfl rfl rfl rfl ⟨(Vb.ofAgg (cs:=[(.int .i64 y0),(.int .i64 r0.1),(.int .i64 w1),(.int .i64 s0)]) (x:=(⟨y0,r0.1,w1,s0⟩:PFd)) rfl ⟨rfl,w2,n4,l2,y3⟩),trivial⟩ (by decide) (by decide) rfl fun s4 t4 u4 k0 x2=>?_
  have hZ:=k0.lst [] (fun _ h=>h.elim)
  refine BE [(15,[4])] hZ (by kernel_rfl) ?_
  refine Bg (i:=15) (by kernel_rfl) rfl ?_
  obtain ⟨o1,z0,a0⟩:=bs a0
  obtain ⟨z0,y2,z2⟩:=Cc z0
  replace n0:=n0.st k0
  refine CX rfl n0 (x2.rd) rfl rfl (by decide) y2 z2 rfl fun a3 b3 v4 d3 o0 p0=>?_
  rw [← z0] at p0 ⊢
  have hZ:=o0.lst [4] (fun _ h=>by cases h;decide)
  refine BE [] hZ (by kernel_rfl) ?_
  refine Bb (fuel:=1) [] [(16,true),(17,true)] (by kernel_rfl) rfl ?_
  refine Cm rfl rfl rfl (AT rfl rfl rfl (AL ?_))
  refine Bg (i:=18) (by kernel_rfl) rfl ?_
  replace f0:=(f0.st k0).st o0
  refine Br f0 rfl rfl rfl (BN rfl) (allOne rfl) fun e3 a1 f0=>?_
  replace f0:Lc 2 e3 d3 g7 175 [(.slice a3 o1.length b3),(.int .i64 r0.2.words)]:=f0
  refine DI (by kernel_rfl) ?_
  refine Ck (by kernel_rfl) ?_
  refine Aj (Am rfl rfl (Am rfl rfl ?_))
  obtain ⟨w4,p1,a0⟩:=bs a0
  have f3:=(Bw p1)
  refine Ee (he:=p1) rfl rfl rfl ?_
  refine An rfl rfl (o_z ?_)
  replace p0:=p0.st a1
  obtain ⟨x4,q1,o3,p3,g3⟩:=Pkr.shut (x:=(⟨o1,r0.2.words⟩:Pkr)) (l0:=2) (l1:=4) (by decide) f0 p0 v2
  obtain rfl:=sm a0
  exact show Exists _ from ⟨_,(),rfl,⟨rfl,rfl,rfl,rfl,rfl,trivial⟩,_,((((hB.st m1).st k0).st o0).st a1).st q1,g3,((((b0.st m1).st k0).st o0).st a1).st q1,f3⟩
 replace hB:=(hB.st x1).st a2
 rintro y4 z4 ⟨a5,b5,rfl,r1,c5,hB,h0,t1⟩
 replace hm:=AX hm
 refine AN _ r1 ?_
 refine Al (Aj (Am rfl rfl (An rfl rfl (An rfl rfl (o_z ?_)))))
 refine AG ?_
 obtain rfl:=sm hm
 obtain ⟨O',hS',hz,hl⟩:=hE.leave (fun q=>if q=2 then j0 else 0) rfl hB
 exact ret2 rfl (Az rfl) (Az rfl) ⟨O',hS',_,_,rfl,(Ob.leave h0 hz (hl 2 (by decide) (by decide)) hj0),(vErr (show inI64 0 from by decide))⟩
noncomputable def Cz (x0:PFd):Option U64 :=
  bnd (shlU (1:U64) x0.width) fun n12=>bnd (shlU (n12 - (1:U64)) x0.bit) fun n14=>some n14
theorem GB {w:World} {A:Nat→Prop} (hA:∀ k,A k→k < w.heap.size) {vx0:Value} {x0:PFd} (b0:Vb w A vx0 x0) {r:U64} (hm:Cz x0=some r) :
    Fn Tryz.prog 112 [vx0] w fun v w'=>Ext w w'∧Vb w' (upA A w w') v r:=by
 obtain ⟨O,hB,d0⟩:=enter hA
 replace b0:=b0.mono d0
 obtain ⟨h0,rfl,rfl,r3,r4,r5,r6⟩:=b0
 refine AH Tryz.func112 rfl Tryz.ntmps112 rfl ?_
 unfold Cz at hm
 refine Al (Aj (Dc 2 O rfl rfl fun g7 w8 O9 e0 a0=>?_))
 replace a0:Lc 2 w8 O9 g7 177 [(.int .i64 x0.word),(.int .i64 x0.bit),(.int .i64 x0.width),(.int .i64 x0.size)]:=a0
 refine An rfl rfl (o_z ?_)
 refine Al (Ct (·=w8) [(0,true),(1,true),(2,true),(3,true),(4,true),(5,true),(6,true),(7,true)] (by kernel_rfl) rfl (by kernel_rfl) rfl ?_)
 refine AT rfl rfl rfl (Cu (hc:=Blk.cell (i:=2) (a0.1) rfl) rfl rfl rfl ?_)
 obtain ⟨c0,f0,hm⟩:=bs hm
 refine Nx (a:=(1:U64)) (he:=f0) rfl rfl rfl rfl ?_
 refine RY (a:=c0) (b:=(1:U64)) rfl rfl rfl rfl ?_
 refine AT rfl rfl rfl (Cu (hc:=Blk.cell (i:=1) (a0.1) rfl) rfl rfl rfl ?_)
 obtain ⟨i0,g0,hm⟩:=bs hm
 refine Nx (a:=(c0 - (1:U64))) (he:=g0) rfl rfl rfl rfl ?_
 refine Ek rfl rfl rfl (h_z ?_)
 refine AG ?_
 obtain rfl:=sm hm
 replace hB:=hB.st e0
 exact ret1v rfl (Az rfl) ⟨hB.ext,vU64⟩
noncomputable def CZ (x0:PFd) (x1:List U64):Option Int :=
  bnd (atI x1 x0.word) fun a15=>bnd (Cz x0) fun q26=>bnd (shrU (a15 &&& q26) x0.bit) fun n33=>some n33.toInt
theorem JW {w:World} {A:Nat→Prop} (hA:∀ k,A k→k < w.heap.size) {vx0:Value} {x0:PFd} (d0:Vb w A vx0 x0) {vx1:Value} {x1:List U64} (a0:Vb w A vx1 x1) {r:Int} (hm:CZ x0 x1=some r) :
    Fn Tryz.prog 111 [vx0,vx1] w fun v w'=>Ext w w'∧Vb w' (upA A w w') v r:=by
 obtain ⟨O,hB,k0⟩:=enter hA
 replace d0:=d0.mono k0
 obtain ⟨y0,rfl,rfl,r4,r5,r6,r7⟩:=d0
 replace a0:=a0.mono k0
 obtain ⟨A8,c9,rfl⟩:=a0.form
 refine AH Tryz.func111 rfl Tryz.ntmps111 rfl ?_
 unfold CZ at hm
 refine Al (Aj (Dc 2 O rfl rfl fun o0 e0 c0 l0 b0=>?_))
 replace b0:Lc 2 e0 c0 o0 177 [(.int .i64 x0.word),(.int .i64 x0.bit),(.int .i64 x0.width),(.int .i64 x0.size)]:=b0
 refine An rfl rfl (o_z ?_)
 refine Al (BG [] c0 ?_)
 refine Bb (fuel:=5) [] [(0,true),(1,true),(2,true),(3,true),(4,true),(5,true),(8,true),(9,true)] (by kernel_rfl) rfl ?_
 refine AK rfl rfl rfl (AT rfl rfl rfl (AS (hc:=fun w' ⟨O',hq⟩=>Blk.cell (i:=0) ((b0.st hq (by decide)).1) rfl) rfl rfl rfl ?_))
 obtain ⟨m0,p0,hm⟩:=bs hm
 obtain ⟨q0,r0⟩:=AO p0
 replace a0:=a0.st l0
 obtain ⟨z0,a1,s0,f0,g0,h0,i0,rfl⟩:=a0.elem r0
 refine BU (hA:=f0) (hj:=(Int.toNat_of_nonneg q0).symm) (hlt:=h0) rfl rfl rfl rfl ?_
 refine AS (hc:=fun w' ⟨O',hq⟩=>cat0 (Bh (hq.agree (i:=0) (by decide)) g0 i0)) rfl rfl rfl ?_
 refine Fu (hl:=rfl) (hb:=fun w' ⟨O',hq⟩=>((b0.st hq (by decide)).1).cellsAt) rfl rfl rfl ?_
 refine AT rfl rfl rfl (AS (hc:=fun w' ⟨O',hq⟩=>Blk.cell (i:=1) ((b0.st hq (by decide)).1) rfl) rfl rfl rfl ?_)
 refine AL ?_
 refine Bg (i:=6) (by kernel_rfl) rfl ?_
 obtain ⟨j0,t0,hm⟩:=bs hm
 refine AV (O:=c0) (A:=All e0) (R:=fun w' F v=>Vb w' F v j0) (GB (fun _ h=>h) (Vb.mono (F:=Fr 0 e0 c0) (Vb.ofAgg (cs:=[(.int .i64 x0.word),(.int .i64 x0.bit),(.int .i64 x0.width),(.int .i64 x0.size)]) (x:=x0) rfl ⟨rfl,r4,r5,r6,r7⟩) Fr.lt) t0) rfl rfl fun b1 c1 d1 n0 u0=>?_
 obtain rfl:=u0.u64
 have hZ:=n0.lst [] (fun _ h=>h.elim)
 refine BE [] hZ (by kernel_rfl) ?_
 refine Bb (fuel:=0) [] [(7,true),(10,true),(11,true),(12,true)] (by kernel_rfl) rfl ?_
 refine RV (a:=m0) (b:=j0) rfl rfl rfl rfl ?_
 obtain ⟨v0,w0,hm⟩:=bs hm
 refine RZ (a:=(m0 &&& j0)) (he:=w0) rfl rfl rfl rfl ?_
 refine Sb (a:=v0) rfl rfl rfl ?_
 refine Ek rfl rfl rfl (AL ?_)
 refine Ck (by kernel_rfl) ?_
 refine AG ?_
 obtain rfl:=sm hm
 replace hB:=(hB.st l0).st n0
 exact ret1v rfl (Az rfl) ⟨hB.ext,(vInt (toIntR _))⟩
noncomputable def Bz (x0:Pkr) (x1:List Int):Option ((List U64)×Err) :=
  if (x1.length:Int)≠(x0.fields.length:Int) then (some (([]:List U64),(⟨2⟩:Err))) else (bnd (mkI 8 ((0:U64):U64) x0.words) fun u25=>bnd (rng (ρ:=(List U64)×Err) (fun (k50:Nat) (a51:PFd) (s48:(List U64))=>bnd (bnd (x1[k50]?) fun a87=>if a87 < 0 then (some true) else (bnd (x1[k50]?) fun a98=>if a51.size≤a98 then (some true) else (some false)):Option Bool) fun y83=>if y83=true then (some (.ret (([]:List U64),(⟨2⟩:Err)))) else (bnd (atI s48 a51.word) fun a114=>bnd (x1[k50]?) fun a125=>bnd (shlU (BitVec.ofInt 64 a125) a51.bit) fun n135=>bnd (atI s48 a51.word) fun a137=>some (.next (s48.set (a51.word:Int).toNat (a114 ||| n135))))) x0.fields 0 u25) fun res46=>fin res46 fun (s154:(List U64))=>some (s154,(⟨0⟩:Err)))
theorem IX {w:World} {O:Lab} {p0 i0:Nat} {x0:Pkr} (q0:Ob i0 w O (.pointer (some ⟨p0,0,none⟩)) x0) {vx1:Value} {x1:List Int} (c0:Vb w (Fr 0 w O) vx1 x1) {r:(List U64)×Err} (hm:Bz x0 x1=some r) :
    Fn Tryz.prog 107 [(.pointer (some ⟨p0,0,none⟩)),vx1] w fun v w'=>∃ O',St (eT i0) w O w' O'∧∃ v0 v1:Value,Ob i0 w' O' (.pointer (some ⟨p0,0,none⟩)) x0∧v=.tuple #[v0,v1]∧Vb w' (Fr 0 w' O') v0 r.1∧Vb w' (Fr 0 w' O') v1 r.2:=by
 obtain ⟨O0,hE,c3,l3⟩:=ent1 (w:=w) (O:=O) q0.2
 have q0':=Ob.leave q0 c3 l3 (j:=2) (by decide)
 have hB:Bm w O0 w O0:=Bm.refl
 replace c0:=c0.mono c3
 obtain ⟨A3,c4,rfl⟩:=c0.form
 refine AH Tryz.func107 rfl Tryz.ntmps107 rfl ?_
 unfold Bz at hm
 refine Al (Aj (An rfl rfl (An rfl rfl (o_z ?_))))
 refine Al (Al (Aj (Am rfl rfl (EQ rfl rfl ?_))))
 refine o_z ?_
 refine Ae rfl (AI (Al (Al (Aj (Am rfl rfl (AP rfl rfl ?_))))))
 have l6:x1.length≤9223372036854775807:=Nat.le_trans c0.len.2.1 c0.len.2.2
 have r5:inI64 (x1.length:Int):=rngNat l6
 refine Am rfl rfl (BW rfl rfl ?_)
 obtain ⟨O7,c5,S8,m3,h9,k0,d3⟩:=Pkr.opn q0' 2 3 (by decide)
 obtain ⟨a2,b2,rfl⟩:=k0.form
 refine AE rfl rfl (AC (hc:=Blk.cell (i:=0) (h9.1) rfl) rfl rfl ?_)
 refine AP rfl rfl ?_
 have n3:x0.fields.length≤9223372036854775807:=Nat.le_trans k0.len.2.1 k0.len.2.2
 have d5:inI64 (x0.fields.length:Int):=rngNat n3
 refine Gh rfl rfl rfl (fun e2=>?_) fun e2=>?_
 ·
  replace hm:=ip hm e2
  refine o_z ?_
  refine Ah rfl (Al (Aj (Di rfl rfl ?_)))
  refine An rfl rfl (An rfl rfl (o_z ?_))
  refine AG ?_
  obtain ⟨e5,o3,p3,q3,r3⟩:=Pkr.shut (x:=x0) (l0:=2) (l1:=3) (by decide) h9 k0 d3
  obtain rfl:=sm hm
  replace hB:=(hB.st S8).st o3
  obtain ⟨O',hS',hz,hl⟩:=hE.leave (fun q=>if q=2 then i0 else 0) rfl hB
  exact ret2 rfl (Az rfl) (Az rfl) ⟨O',hS',_,_,(Ob.leave r3 hz (hl 2 (by decide) (by decide)) q0.2),rfl,(Vb.mono (Vb.nil _ _) hz),(vErr (by decide))⟩
 replace hm:=im hm e2
 refine o_z ?_
 refine Ae rfl (AI (Al (Aj (Am rfl rfl (BW rfl rfl (AE rfl rfl (AC (hc:=Blk.cell (i:=1) (h9.1) rfl) rfl rfl ?_)))))))
 obtain ⟨w0,s3,hm⟩:=bs hm
 obtain ⟨y0,t3,u3,v3,w3⟩:=Dw s3
 refine FO 4 (by decide) O7 (z0:=((0:U64):U64)) rfl rfl rfl rfl rfl t3 vU64 u3 v3 rfl fun a1 f5 g5 b1 c2=>?_
 rw [← w3] at c2 ⊢
 refine An rfl rfl (o_z ?_)
 refine Al (Al (Aj (Am rfl rfl (BW rfl rfl (AE rfl rfl ?_)))))
 replace h9:=h9.st b1
 refine AC (hc:=Blk.cell (i:=0) (h9.1) rfl) rfl rfl ?_
 refine AP rfl rfl ?_
 replace k0:=k0.st b1
 have f2:x0.fields.length≤9223372036854775807:=Nat.le_trans k0.len.2.1 k0.len.2.2
 have h5:inI64 (x0.fields.length:Int):=rngNat f2
 refine Am rfl rfl (o_z ?_)
 obtain ⟨x3,c1,g2,h2,e0⟩:=Pkr.shut (x:=x0) (l0:=2) (l1:=3) (by decide) h9 k0 d3
 have f0:=(k0.lend [3] (by decide)).shutS c1 g2 h2 [2] (by decide)
 obtain ⟨d1,i2,hm⟩:=bs hm
 refine AJ (aft d1 (fun (r0:(List U64)) (d2:Unit)=>[(6,(.slice (some ⟨a1,0,none⟩) w0.length y0))]) (fun r0 d2 w'=>∃ O':Lab,Bm w O0 w' O'∧Rw 4 w' O' 182 (.slice (some ⟨a1,0,none⟩) w0.length y0) r0∧Ob 2 w' O' (.pointer (some ⟨p0,0,none⟩)) x0)) ?_ ?_
 ·
  refine AM ?_
  replace hB:=((hB.st S8).st b1).st c1
  replace c0:=((c0.st S8).st b1).st c1
  replace c2:=c2.st c1
  refine By (σ:=(List U64)) (X:=Unit) (x0.fields.length) i2 rfl f2 (fun (r0:(List U64)) (d2:Unit)=>[(1,(.slice A3 x1.length c4)),(6,(.slice (some ⟨a1,0,none⟩) w0.length y0)),(29,(.slice a2 x0.fields.length b2))]) _ (fun r0 d2 w'=>∃ O':Lab,Bm w O0 w' O'∧Vb w' (Fr 0 w' O') (.slice A3 x1.length c4) x1∧Rw 4 w' O' 182 (.slice (some ⟨a1,0,none⟩) w0.length y0) r0∧Vb w' (FrS [2] w' O') (.slice a2 x0.fields.length b2) x0.fields∧Ob 2 w' O' (.pointer (some ⟨p0,0,none⟩)) x0) _ () ⟨x3,hB,c0,c2,f0,e0⟩ ⟨rfl,rfl,rfl,rfl,rfl,trivial⟩ (fun _ _=>⟨rfl,rfl⟩) (fun _ _=>⟨rfl,trivial⟩) (fun _ _ _ ⟨O',hB,c0,d0,f0,e0⟩=>⟨O',hB,d0,e0⟩) ⟨rfl,rfl,rfl⟩ ⟨rfl,rfl⟩ ?_
  rintro j2 n0 r0 d2 i5 y3 e1 ⟨z3,hB,c0,d0,f0,e0⟩ a0 s0 k2
  have rk50:inI64 (j2:Int):=rngK e1 f2
  refine Al (Aj (Am rfl rfl ?_))
  obtain ⟨j5,k5,a4,l2,m2,n2,rfl,l5,m5,n5,o5⟩:=f0.elem' e1
  refine Bo (hA:=l2) (hj:=rfl) (hlt:=m2) rfl rfl rfl ?_
  refine Bk (hl:=rfl) (hc:=n2) rfl rfl ?_
  refine Ch 5 z3 rfl fun o2 p5 b4 g0 j0=>?_
  replace f0:=f0.stS g0 id (fun _ _=>id)
  refine An rfl rfl (Br j0 rfl rfl rfl (BN rfl) (allOne rfl) fun e3 h0 j0=>?_)
  replace j0:Lc 5 e3 b4 o2 177 [(.int .i64 n0.word),(.int .i64 n0.bit),(.int .i64 n0.width),(.int .i64 n0.size)]:=j0
  replace f0:=f0.stS h0 (by decide) (by decide)
  refine o_z ?_
  refine Al (Al ?_)
  obtain ⟨d4,b0,a0⟩:=bs a0
  refine AJ (fun l' w'=>∃ (e4:Unit) (O':Lab),subs l' [(1,(.slice A3 x1.length c4)),(6,(.slice (some ⟨a1,0,none⟩) w0.length y0)),(7,(.int .i64 (j2:Int))),(8,(.pointer (some ⟨o2,0,none⟩))),(29,(.slice a2 x0.fields.length b2)),(30,(.int .i64 (x0.fields.length:Int))),(31,(.int .i64 (j2:Int))),(49,(.bool d4))]∧Bm w O0 w' O'∧Vb w' (Fr 0 w' O') (.slice A3 x1.length c4) x1∧Rw 4 w' O' 182 (.slice (some ⟨a1,0,none⟩) w0.length y0) r0∧Lc 5 w' O' o2 177 [(.int .i64 n0.word),(.int .i64 n0.bit),(.int .i64 n0.width),(.int .i64 n0.size)]∧Vb w' (FrS [2] w' O') (.slice a2 x0.fields.length b2) x0.fields∧Ob 2 w' O' (.pointer (some ⟨p0,0,none⟩)) x0) ?_ ?_
  ·
   refine Ct (·=e3) [(0,true),(1,true),(2,true),(3,true),(4,true),(5,true),(6,true),(7,true),(8,true),(9,true),(10,true),(11,true),(12,true),(13,true)] (by kernel_rfl) rfl (by kernel_rfl) rfl ?_
   refine AK rfl rfl rfl (AK rfl rfl rfl ?_)
   obtain ⟨q5,f4,b0⟩:=bs b0
   replace c0:=(c0.st g0).st h0
   obtain ⟨s5,t5,g4,p2,q2,r2,rfl,u5⟩:=c0.elem' f4
   refine BU (hA:=p2) (hj:=rfl) (hlt:=q2) rfl rfl rfl rfl ?_
   refine Cu (hc:=cat0 r2) rfl rfl rfl ?_
   refine Fv rfl rfl rfl rfl (fun s2=>?_) fun s2=>?_
   ·
    replace b0:=ip b0 s2
    refine AK rfl rfl rfl (DW rfl rfl rfl rfl rfl (DW rfl rfl rfl rfl rfl (DW rfl rfl rfl rfl rfl (DW rfl rfl rfl rfl rfl (DW rfl rfl rfl rfl rfl (DW rfl rfl rfl rfl rfl (DW rfl rfl rfl rfl rfl (CM rfl rfl rfl rfl (h_z ?_)))))))))
    obtain rfl:=sm b0
    exact ⟨(),_,⟨rfl,rfl,rfl,rfl,rfl,rfl,rfl,rfl,trivial⟩,(hB.st g0).st h0,c0,(d0.st g0).st h0,j0,f0,(e0.st g0).st h0⟩
   replace b0:=im b0 s2
   refine AK rfl rfl rfl (AA rfl (Ay rfl rfl (Cj rfl rfl (AA rfl (Ay rfl rfl (Cj rfl rfl (AA rfl (Ay rfl rfl ?_))))))))
   obtain ⟨v5,h4,b0⟩:=bs b0
   obtain ⟨i4,j4,f3,f1,g1,h1,rfl,k4⟩:=c0.elem' h4
   refine Nw (hA:=f1) (hj:=rfl) (hlt:=g1) rfl rfl rfl ?_
   refine AA rfl (Ay rfl rfl (Bu (hc:=cat0 h1) rfl rfl ?_))
   refine AA rfl (Ay rfl rfl (Cn rfl rfl (AA rfl (Ay rfl rfl (Bu (hc:=Blk.cell (i:=3) (j0.1) rfl) rfl rfl ?_)))))
   refine AA rfl (Ay rfl rfl (Bc (fun _ _=>AW rfl rfl) rfl (fun t0=>?_) (fun t0=>?_)))
   ·
    replace b0:=ip b0 t0
    refine CN rfl rfl rfl rfl (h_z ?_)
    obtain rfl:=sm b0
    exact ⟨(),_,⟨rfl,rfl,rfl,rfl,rfl,rfl,rfl,rfl,trivial⟩,(hB.st g0).st h0,c0,(d0.st g0).st h0,j0,f0,(e0.st g0).st h0⟩
   replace b0:=im b0 t0
   refine CN rfl rfl rfl rfl (h_z ?_)
   obtain rfl:=sm b0
   exact ⟨(),_,⟨rfl,rfl,rfl,rfl,rfl,rfl,rfl,rfl,trivial⟩,(hB.st g0).st h0,c0,(d0.st g0).st h0,j0,f0,(e0.st g0).st h0⟩
  replace hB:=(hB.st g0).st h0
  replace c0:=(c0.st g0).st h0
  replace e0:=(e0.st g0).st h0
  replace d0:=(d0.st g0).st h0
  rintro l4 m4 ⟨e4,t2,i1,hB,c0,d0,j0,f0,e0⟩
  refine AN _ i1 ?_
  refine CV rfl (fun u0=>?_) (fun u0=>?_)
  ·
   replace a0:=ip a0 u0
   refine Al (Aj (Di rfl rfl ?_))
   refine An rfl rfl (An rfl rfl (o_z ?_))
   refine AG ?_
   obtain rfl:=sm a0
   obtain rfl:=s0 _ rfl
   obtain rfl:=sm (CB hm)
   obtain ⟨O',hS',hz,hl⟩:=hE.leave (fun q=>if q=2 then i0 else 0) rfl hB
   exact ret2 rfl (Az rfl) (Az rfl) ⟨O',hS',_,_,(Ob.leave e0 hz (hl 2 (by decide) (by decide)) q0.2),rfl,(Vb.mono (Vb.nil _ _) hz),(vErr (by decide))⟩
  replace a0:=im' a0 u0
  refine AI (BG [] t2 ?_)
  refine Bb (fuel:=1) [] [(0,true),(1,true),(2,true),(3,true),(4,true),(5,true),(6,true),(7,true),(8,true),(9,true),(10,true),(11,true),(12,true),(13,true),(14,true)] (by kernel_rfl) rfl ?_
  refine AK rfl rfl rfl (AT rfl rfl rfl (AS (hc:=fun w' ⟨O',hq⟩=>Blk.cell (i:=0) ((j0.st hq (by decide)).1) rfl) rfl rfl rfl ?_))
  obtain ⟨j1,u2,a0⟩:=bs a0
  obtain ⟨v2,w2⟩:=AO u2
  obtain ⟨n4,o4,g3,k1,m1,n1,o1,rfl⟩:=d0.elemF w2
  refine BU (hA:=k1) (hj:=(Int.toNat_of_nonneg v2).symm) (hlt:=n1) rfl rfl rfl rfl ?_
  refine AS (hc:=fun w' ⟨O',hq⟩=>cat0 (Bh (hq.agree (i:=4) (by decide)) m1 o1)) rfl rfl rfl ?_
  refine AK rfl rfl rfl (AK rfl rfl rfl ?_)
  obtain ⟨x2,y2,a0⟩:=bs a0
  obtain ⟨p4,q4,h3,p1,q1,r1,s1,rfl,r4⟩:=c0.elem y2
  refine BU (hA:=p1) (hj:=rfl) (hlt:=r1) rfl rfl rfl rfl ?_
  refine AS (hc:=fun w' ⟨O',hq⟩=>cat0 (Bh (hq.agree (i:=0) (by decide)) q1 s1)) rfl rfl rfl ?_
  refine Sa rfl rfl rfl ?_
  refine AT rfl rfl rfl (AS (hc:=fun w' ⟨O',hq⟩=>Blk.cell (i:=1) ((j0.st hq (by decide)).1) rfl) rfl rfl rfl ?_)
  obtain ⟨t1,z2,a0⟩:=bs a0
  refine Nx (a:=(BitVec.ofInt 64 x2)) (he:=z2) rfl rfl rfl rfl ?_
  refine RW (a:=j1) (b:=t1) rfl rfl rfl rfl ?_
  obtain ⟨s4,a3,a0⟩:=bs a0
  obtain ⟨b3,u1⟩:=AO a3
  obtain ⟨t4,u4,i3,o0,j3,w1,k3,rfl⟩:=d0.elemF u1
  refine BU (hA:=o0) (hj:=(Int.toNat_of_nonneg b3).symm) (hlt:=w1) rfl rfl rfl rfl ?_
  refine AL ?_
  refine Bg (i:=15) (by kernel_rfl) rfl ?_
  refine Dh rfl d0 (a:=(j1 ||| t1)) vU64 o0 rfl rfl (AD u1) fun v4 m0 d0=>?_
  replace f0:=f0.stS m0 (by decide) (by decide)
  refine DI (by kernel_rfl) ?_
  refine Ck (by kernel_rfl) ?_
  obtain rfl:=sm a0
  exact show Exists _ from ⟨_,(),rfl,⟨rfl,rfl,rfl,rfl,rfl,trivial⟩,_,hB.st m0,c0.st m0,d0,f0,e0.st m0⟩
 replace hB:=((hB.st S8).st b1).st c1
 rintro w4 x4 ⟨y4,z4,rfl,y1,a5,hB,d0,e0⟩
 replace hm:=AX hm
 refine AN _ y1 ?_
 refine Al (Aj (Am rfl rfl (An rfl rfl (An rfl rfl (o_z ?_)))))
 refine AG ?_
 obtain ⟨b5,z1,d0⟩:=d0.freeze
 obtain rfl:=sm hm
 replace hB:=hB.st z1
 obtain ⟨O',hS',hz,hl⟩:=hE.leave (fun q=>if q=2 then i0 else 0) rfl hB
 replace e0:=e0.st z1
 exact ret2 rfl (Az rfl) (Az rfl) ⟨O',hS',_,_,(Ob.leave e0 hz (hl 2 (by decide) (by decide)) q0.2),rfl,(Vb.mono d0 hz),(vErr (show inI64 0 from by decide))⟩
noncomputable def Cv (x0:Pkr) (x1:List U64):Option ((List Int)×Err) :=
  if (x1.length:Int)≠x0.words then (some (([]:List Int),(⟨2⟩:Err))) else (bnd (mkI 8 (0:Int) (x0.fields.length:Int)) fun u25=>bnd (BR x1) fun q38=>bnd (rng (ρ:=(List Int)×Err) (fun (k60:Nat) (a61:PFd) (s58:(List Int)×(List U64))=>bnd (CZ a61 x1) fun q97=>bnd (s58.1[k60]?) fun a105=>bnd ((s58.1.set k60 q97)[k60]?) fun a117=>if a61.size≤a117 then (some (.ret (([]:List Int),(⟨2⟩:Err)))) else (bnd (atI s58.2 a61.word) fun a128=>bnd (Cz a61) fun q139=>bnd (atI s58.2 a61.word) fun a146=>some (.next ((s58.1.set k60 q97),(s58.2.set (a61.word:Int).toNat (a128 &&& ~~~q139)))))) x0.fields 0 (u25,q38)) fun res56=>fin res56 fun (s163:(List Int)×(List U64))=>bnd (rng (ρ:=(List Int)×Err) (fun (k171:Nat) (a172:U64) (s169:Unit)=>bnd (s163.2[k171]?) fun a182=>if (a182.toNat:Int)≠((0:U64).toNat:Int) then (some (.ret (([]:List Int),(⟨2⟩:Err)))) else (some (.next ()))) q38 0 ()) fun res167=>fin res167 fun (s196:Unit)=>some (s163.1,(⟨0⟩:Err)))
theorem Ic {w:World} {O:Lab} {p0 i0:Nat} {x0:Pkr} (w0:Ob i0 w O (.pointer (some ⟨p0,0,none⟩)) x0) {vx1:Value} {x1:List U64} (g0:Vb w (Fr 0 w O) vx1 x1) {r:(List Int)×Err} (hm:Cv x0 x1=some r) :
    Fn Tryz.prog 86 [(.pointer (some ⟨p0,0,none⟩)),vx1] w fun v w'=>∃ O',St (eT i0) w O w' O'∧∃ v0 v1:Value,Ob i0 w' O' (.pointer (some ⟨p0,0,none⟩)) x0∧v=.tuple #[v0,v1]∧Vb w' (Fr 0 w' O') v0 r.1∧Vb w' (Fr 0 w' O') v1 r.2:=by
 obtain ⟨O0,hE,w3,p4⟩:=ent1 (w:=w) (O:=O) w0.2
 have w0':=Ob.leave w0 w3 p4 (j:=2) (by decide)
 have hB:Bm w O0 w O0:=Bm.refl
 replace g0:=g0.mono w3
 obtain ⟨A3,c4,rfl⟩:=g0.form
 refine AH Tryz.func86 rfl Tryz.ntmps86 rfl ?_
 unfold Cv at hm
 refine Al (Aj (An rfl rfl (An rfl rfl (o_z ?_))))
 refine Al (Al (Aj (Am rfl rfl (EQ rfl rfl ?_))))
 refine o_z ?_
 refine Ae rfl (AI (Al (Al (Aj (Am rfl rfl (AP rfl rfl ?_))))))
 have l6:x1.length≤9223372036854775807:=Nat.le_trans g0.len.2.1 g0.len.2.2
 have r5:inI64 (x1.length:Int):=rngNat l6
 refine Am rfl rfl (BW rfl rfl ?_)
 obtain ⟨O7,u6,S8,q4,h9,o0,x3⟩:=Pkr.opn w0' 2 3 (by decide)
 obtain ⟨y3,z3,rfl⟩:=o0.form
 refine AE rfl rfl (AC (hc:=Blk.cell (i:=1) (h9.1) rfl) rfl rfl ?_)
 refine Gh rfl rfl rfl (fun z2=>?_) fun z2=>?_
 ·
  replace hm:=ip hm z2
  refine o_z ?_
  refine Ah rfl (Al (Aj (Di rfl rfl ?_)))
  refine An rfl rfl (An rfl rfl (o_z ?_))
  refine AG ?_
  obtain ⟨v6,r4,s4,t4,u4⟩:=Pkr.shut (x:=x0) (l0:=2) (l1:=3) (by decide) h9 o0 x3
  obtain rfl:=sm hm
  replace hB:=(hB.st S8).st r4
  obtain ⟨O',hS',hz,hl⟩:=hE.leave (fun q=>if q=2 then i0 else 0) rfl hB
  exact ret2 rfl (Az rfl) (Az rfl) ⟨O',hS',_,_,(Ob.leave u4 hz (hl 2 (by decide) (by decide)) w0.2),rfl,(Vb.mono (Vb.nil _ _) hz),(vErr (by decide))⟩
 replace hm:=im hm z2
 refine o_z ?_
 refine Ae rfl (AI (Al (Aj (Am rfl rfl (BW rfl rfl (AE rfl rfl (AC (hc:=Blk.cell (i:=0) (h9.1) rfl) rfl rfl ?_)))))))
 refine AP rfl rfl ?_
 have v4:x0.fields.length≤9223372036854775807:=Nat.le_trans o0.len.2.1 o0.len.2.2
 have w6:inI64 (x0.fields.length:Int):=rngNat v4
 obtain ⟨y0,w4,hm⟩:=bs hm
 obtain ⟨a1,x4,y4,z4,a5⟩:=Dw w4
 refine FO 4 (by decide) O7 (z0:=(0:Int)) rfl rfl rfl rfl rfl x4 (vInt (show inI64 0 from by decide)) y4 z4 rfl fun b1 x6 b5 w1 u2=>?_
 rw [← a5] at u2 ⊢
 refine An rfl rfl (o_z ?_)
 refine Al (Aj (Am rfl rfl ?_))
 obtain ⟨r0,c5,hm⟩:=bs hm
 replace g0:=(g0.st S8).st w1
 refine CR 5 (by decide) (O:=b5) (FV Fr.lt g0 c5) rfl rfl fun r1 s1 y6 z6 t1 a3=>?_
 refine An rfl rfl (o_z ?_)
 refine Al (Al (Aj (Am rfl rfl (BW rfl rfl (AE rfl rfl ?_)))))
 replace h9:=(h9.st w1).st t1
 refine AC (hc:=Blk.cell (i:=0) (h9.1) rfl) rfl rfl ?_
 refine AP rfl rfl ?_
 replace o0:=(o0.st w1).st t1
 have b3:x0.fields.length≤9223372036854775807:=Nat.le_trans o0.len.2.1 o0.len.2.2
 have a7:inI64 (x0.fields.length:Int):=rngNat b3
 refine Am rfl rfl (o_z ?_)
 obtain ⟨d5,u1,c3,d3,c0⟩:=Pkr.shut (x:=x0) (l0:=2) (l1:=3) (by decide) h9 o0 x3
 have h0:=(o0.lend [3] (by decide)).shutS u1 c3 d3 [2] (by decide)
 obtain ⟨y1,e3,hm⟩:=bs hm
 refine AJ (aft y1 (fun (c1:(List Int)×(List U64)) (v2:Unit)=>[(6,(.slice (some ⟨b1,0,none⟩) y0.length a1)),(7,(.slice r1 r0.length s1))]) (fun c1 v2 w'=>∃ O':Lab,Bm w O0 w' O'∧Rw 4 w' O' 3 (.slice (some ⟨b1,0,none⟩) y0.length a1) c1.1∧Rw 5 w' O' 182 (.slice r1 r0.length s1) c1.2∧Ob 2 w' O' (.pointer (some ⟨p0,0,none⟩)) x0)) ?_ ?_
 ·
  refine AM ?_
  replace hB:=(((hB.st S8).st w1).st t1).st u1
  replace g0:=(g0.st t1).st u1
  replace u2:=(u2.st t1).st u1
  replace a3:=a3.st u1
  refine By (σ:=(List Int)×(List U64)) (X:=Unit) (x0.fields.length) e3 rfl b3 (fun (c1:(List Int)×(List U64)) (v2:Unit)=>[(1,(.slice A3 x1.length c4)),(6,(.slice (some ⟨b1,0,none⟩) y0.length a1)),(7,(.slice r1 r0.length s1)),(34,(.slice y3 x0.fields.length z3))]) _ (fun c1 v2 w'=>∃ O':Lab,Bm w O0 w' O'∧Vb w' (Fr 0 w' O') (.slice A3 x1.length c4) x1∧Rw 4 w' O' 3 (.slice (some ⟨b1,0,none⟩) y0.length a1) c1.1∧Rw 5 w' O' 182 (.slice r1 r0.length s1) c1.2∧Vb w' (FrS [2] w' O') (.slice y3 x0.fields.length z3) x0.fields∧Ob 2 w' O' (.pointer (some ⟨p0,0,none⟩)) x0) _ () ⟨d5,hB,g0,u2,a3,h0,c0⟩ ⟨rfl,rfl,rfl,rfl,rfl,rfl,trivial⟩ (fun _ _=>⟨rfl,rfl⟩) (fun _ _=>⟨rfl,rfl,trivial⟩) (fun _ _ _ ⟨O',hB,g0,d0,e0,h0,c0⟩=>⟨O',hB,d0,e0,c0⟩) ⟨rfl,rfl,rfl⟩ ⟨rfl,rfl⟩ ?_
  rintro e5 m0 c1 v2 b7 f5 z1 ⟨g5,hB,g0,d0,e0,h0,c0⟩ a0 h1 f3
  have rk60:inI64 (e5:Int):=rngK z1 b3
  refine Al (Aj (Am rfl rfl ?_))
  obtain ⟨c7,d7,h5,g3,h3,i3,rfl,a4,b4,d4,e4⟩:=h0.elem' z1
  refine Bo (hA:=g3) (hj:=rfl) (hlt:=h3) rfl rfl rfl ?_
  refine Bk (hl:=rfl) (hc:=i3) rfl rfl ?_
  refine Ch 6 g5 rfl fun i5 e7 w2 d1 q0=>?_
  replace h0:=h0.stS d1 id (fun _ _=>id)
  refine An rfl rfl (Br q0 rfl rfl rfl (BN rfl) (allOne rfl) fun x2 e1 q0=>?_)
  replace q0:Lc 6 x2 w2 i5 177 [(.int .i64 m0.word),(.int .i64 m0.bit),(.int .i64 m0.width),(.int .i64 m0.size)]:=q0
  replace h0:=h0.stS e1 (by decide) (by decide)
  refine o_z ?_
  refine Al (Aj (Am rfl rfl (Am rfl rfl (Bk (hl:=rfl) (hc:=(q0.1).cellsAt) rfl rfl ?_))))
  refine Am rfl rfl ?_
  obtain ⟨f4,j5,a0⟩:=bs a0
  replace g0:=(g0.st d1).st e1
  refine AV (O:=w2) (A:=All x2) (R:=fun w' F v=>Vb w' F v f4) (JW (fun _ h=>h) (Vb.mono (F:=Fr 0 x2 w2) (Vb.ofAgg (cs:=[(.int .i64 m0.word),(.int .i64 m0.bit),(.int .i64 m0.width),(.int .i64 m0.size)]) (x:=m0) rfl ⟨rfl,a4,b4,d4,e4⟩) Fr.lt) (Vb.mono (F:=Fr 0 x2 w2) g0 Fr.lt) j5) rfl rfl fun k5 f7 i1 f0 j3=>?_
  obtain ⟨rfl,k3⟩:=j3.int
  replace h0:=h0.stS f0 id (fun _ _=>id)
  obtain ⟨l5,a2,a0⟩:=bs a0
  replace d0:=((d0.st d1).st e1).st f0
  obtain ⟨m5,n5,g4,f1,b2,h4,rfl,o5⟩:=d0.elem a2
  refine Bo (hA:=f1) (hj:=rfl) (hlt:=b2) rfl rfl rfl ?_
  refine Dh rfl d0 (a:=f4) (vInt k3) f1 rfl rfl (AD a2) fun j1 j0 d0=>?_
  replace h0:=h0.stS j0 (by decide) (by decide)
  refine o_z ?_
  refine Al (Al (Ct (·=j1) [(0,true),(1,true),(2,true),(3,true),(4,true),(5,true),(6,true)] (by kernel_rfl) rfl (by kernel_rfl) rfl ?_))
  refine AK rfl rfl rfl (AK rfl rfl rfl ?_)
  obtain ⟨p5,l3,a0⟩:=bs a0
  obtain ⟨q5,s5,i4,c2,d2,e2,rfl,t5⟩:=d0.elem l3
  refine BU (hA:=c2) (hj:=rfl) (hlt:=d2) rfl rfl rfl rfl ?_
  refine Cu (hc:=cat0 e2) rfl rfl rfl ?_
  refine AT rfl rfl rfl ?_
  replace q0:=(q0.st f0).st j0
  refine Cu (hc:=Blk.cell (i:=3) (q0.1) rfl) rfl rfl rfl ?_
  refine RC rfl rfl rfl rfl (fun k1=>?_) fun k1=>?_
  ·
   replace a0:=ip a0 k1
   refine h_z ?_
   refine Ah rfl (Al (Aj (Di rfl rfl ?_)))
   refine An rfl rfl (An rfl rfl (o_z ?_))
   refine AG ?_
   obtain rfl:=sm a0
   obtain rfl:=h1 _ rfl
   obtain rfl:=sm (CB hm)
   replace hB:=(((hB.st d1).st e1).st f0).st j0
   obtain ⟨O',hS',hz,hl⟩:=hE.leave (fun q=>if q=2 then i0 else 0) rfl hB
   replace c0:=(((c0.st d1).st e1).st f0).st j0
   exact ret2 rfl (Az rfl) (Az rfl) ⟨O',hS',_,_,(Ob.leave c0 hz (hl 2 (by decide) (by decide)) w0.2),rfl,(Vb.mono (Vb.nil _ _) hz),(vErr (by decide))⟩
  replace a0:=im a0 k1
  refine h_z ?_
  refine Ae rfl (AI (BG [] i1 ?_))
  refine Bb (fuel:=4) [] [(0,true),(1,true),(2,true),(3,true),(4,true),(5,true)] (by kernel_rfl) rfl ?_
  refine AK rfl rfl rfl (AT rfl rfl rfl (AS (hc:=fun w' ⟨O',hq⟩=>Blk.cell (i:=0) ((q0.st hq (by decide)).1) rfl) rfl rfl rfl ?_))
  obtain ⟨f2,m3,a0⟩:=bs a0
  obtain ⟨n3,o3⟩:=AO m3
  replace e0:=(((e0.st d1).st e1).st f0).st j0
  obtain ⟨u5,v5,j4,g2,h2,i2,j2,rfl⟩:=e0.elemF o3
  refine BU (hA:=g2) (hj:=(Int.toNat_of_nonneg n3).symm) (hlt:=i2) rfl rfl rfl rfl ?_
  refine AS (hc:=fun w' ⟨O',hq⟩=>cat0 (Bh (hq.agree (i:=5) (by decide)) h2 j2)) rfl rfl rfl ?_
  refine Fu (hl:=rfl) (hb:=fun w' ⟨O',hq⟩=>((q0.st hq (by decide)).1).cellsAt) rfl rfl rfl ?_
  refine AL ?_
  refine Bg (i:=6) (by kernel_rfl) rfl ?_
  obtain ⟨m1,p3,a0⟩:=bs a0
  refine AV (O:=i1) (A:=All j1) (R:=fun w' F v=>Vb w' F v m1) (GB (fun _ h=>h) (Vb.mono (F:=Fr 0 j1 i1) (Vb.ofAgg (cs:=[(.int .i64 m0.word),(.int .i64 m0.bit),(.int .i64 m0.width),(.int .i64 m0.size)]) (x:=m0) rfl ⟨rfl,a4,b4,d4,e4⟩) Fr.lt) p3) rfl rfl fun w5 x5 y5 k0 q3=>?_
  obtain rfl:=q3.u64
  have hZ:=k0.lst [] (fun _ h=>h.elim)
  replace h0:=h0.stS k0 id (fun _ _=>id)
  refine BE [] hZ (by kernel_rfl) ?_
  refine Bb (fuel:=1) [] [(7,true),(8,true)] (by kernel_rfl) rfl ?_
  refine RX (a:=f2) (b:=m1) rfl rfl rfl rfl ?_
  obtain ⟨z5,r3,a0⟩:=bs a0
  obtain ⟨s3,k2⟩:=AO r3
  replace e0:=e0.st k0
  obtain ⟨a6,b6,k4,g1,l4,l2,m4,rfl⟩:=e0.elemF k2
  refine BU (hA:=g1) (hj:=(Int.toNat_of_nonneg s3).symm) (hlt:=l2) rfl rfl rfl rfl ?_
  refine AL ?_
  refine Bg (i:=9) (by kernel_rfl) rfl ?_
  refine Dh rfl e0 (a:=(f2 &&& ~~~m1)) vU64 g1 rfl rfl (AD k2) fun c6 n0 e0=>?_
  replace h0:=h0.stS n0 (by decide) (by decide)
  refine DI (by kernel_rfl) ?_
  refine Ck (by kernel_rfl) ?_
  obtain rfl:=sm a0
  exact show Exists _ from ⟨_,(),rfl,⟨rfl,rfl,rfl,rfl,rfl,rfl,trivial⟩,_,(((((hB.st d1).st e1).st f0).st j0).st k0).st n0,(((g0.st f0).st j0).st k0).st n0,(d0.st k0).st n0,e0,h0,(((((c0.st d1).st e1).st f0).st j0).st k0).st n0⟩
 replace hB:=(((hB.st S8).st w1).st t1).st u1
 rintro d6 e6 ⟨n1,f6,rfl,m2,t3,hB,d0,e0,c0⟩
 replace hm:=AX hm
 refine AN _ m2 ?_
 refine Al (Al (Aj (Am rfl rfl (AP rfl rfl ?_))))
 have o1:r0.length≤9223372036854775807:=Nat.le_trans e0.len.2.1 e0.len.2.2
 have g6:inI64 (r0.length:Int):=rngNat o1
 refine Am rfl rfl (o_z ?_)
 obtain ⟨p1,n2,hm⟩:=bs hm
 refine AJ (aft p1 (fun (s0:Unit) (t0:Unit)=>[(6,(.slice (some ⟨b1,0,none⟩) y0.length a1))]) (fun s0 t0 w'=>∃ O':Lab,Bm w O0 w' O'∧Rw 4 w' O' 3 (.slice (some ⟨b1,0,none⟩) y0.length a1) n1.1∧Ob 2 w' O' (.pointer (some ⟨p0,0,none⟩)) x0)) ?_ ?_
 ·
  refine AM (By (σ:=Unit) (X:=Unit) (r0.length) n2 rfl o1 (fun (s0:Unit) (t0:Unit)=>[(6,(.slice (some ⟨b1,0,none⟩) y0.length a1)),(65,(.slice r1 r0.length s1))]) _ (fun s0 t0 w'=>∃ O':Lab,Bm w O0 w' O'∧Rw 4 w' O' 3 (.slice (some ⟨b1,0,none⟩) y0.length a1) n1.1∧Rw 5 w' O' 182 (.slice r1 r0.length s1) n1.2∧Ob 2 w' O' (.pointer (some ⟨p0,0,none⟩)) x0) _ () ⟨t3,hB,d0,e0,c0⟩ ⟨rfl,rfl,rfl,rfl,trivial⟩ (fun _ _=>⟨rfl,rfl⟩) (fun _ _=>⟨rfl,trivial⟩) (fun _ _ _ ⟨O',hB,d0,e0,c0⟩=>⟨O',hB,d0,c0⟩) ⟨rfl,rfl,rfl⟩ ⟨rfl,rfl⟩ ?_)
  rintro u3 h6 s0 t0 i6 n4 o2 ⟨j6,hB,d0,e0,c0⟩ b0 u0 y2
  have rk171:inI64 (u3:Int):=rngK o2 o1
  refine Al (Aj ?_)
  obtain ⟨k6,v3,b0⟩:=bs b0
  obtain ⟨m6,n6,o4,p2,q2,r2,rfl⟩:=e0.elem v3
  refine Bo (hA:=p2) (hj:=rfl) (hlt:=q2) rfl rfl rfl ?_
  refine AC (hc:=cat0 r2) rfl rfl ?_
  refine An rfl rfl (o_z ?_)
  refine Al (Aj (Am rfl rfl (Gh rfl rfl rfl (fun q1=>?_) fun q1=>?_)))
  ·
   replace b0:=ip b0 q1
   refine o_z ?_
   refine Ah rfl (Al (Aj (Di rfl rfl ?_)))
   refine An rfl rfl (An rfl rfl (o_z ?_))
   refine AG ?_
   obtain rfl:=sm b0
   obtain rfl:=u0 _ rfl
   obtain rfl:=sm (CB hm)
   obtain ⟨O',hS',hz,hl⟩:=hE.leave (fun q=>if q=2 then i0 else 0) rfl hB
   exact ret2 rfl (Az rfl) (Az rfl) ⟨O',hS',_,_,(Ob.leave c0 hz (hl 2 (by decide) (by decide)) w0.2),rfl,(Vb.mono (Vb.nil _ _) hz),(vErr (by decide))⟩
  replace b0:=im b0 q1
  refine o_z ?_
  refine Ae rfl (AI ?_)
  obtain rfl:=sm b0
  exact show Exists _ from ⟨_,(),rfl,⟨rfl,rfl,rfl,rfl,trivial⟩,_,hB,d0,e0,c0⟩
 rintro o6 p6 ⟨q6,r6,rfl,s2,s6,hB,d0,c0⟩
 replace hm:=AX hm
 refine AN _ s2 ?_
 refine Al (Aj (Am rfl rfl (An rfl rfl (An rfl rfl (o_z ?_)))))
 refine AG ?_
 obtain ⟨t6,t2,d0⟩:=d0.freeze
 obtain rfl:=sm hm
 replace hB:=hB.st t2
 obtain ⟨O',hS',hz,hl⟩:=hE.leave (fun q=>if q=2 then i0 else 0) rfl hB
 replace c0:=c0.st t2
 exact ret2 rfl (Az rfl) (Az rfl) ⟨O',hS',_,_,(Ob.leave c0 hz (hl 2 (by decide) (by decide)) w0.2),rfl,(Vb.mono d0 hz),(vErr (show inI64 0 from by decide))⟩
noncomputable def BT (x0:Pkr) (x1:List U64):Option Int :=
  bnd (rng (ρ:=Int) (fun (k13:Nat) (a14:U64) (s11:U64)=>bnd (shrU ((s11 ^^^ a14) * (13787848793156543929:U64)) 29) fun n31=>some (.next (((s11 ^^^ a14) * (13787848793156543929:U64)) ^^^ n31))) x1 0 ((BitVec.ofInt 64 (x1.length:Int)) + (11400714819323198485:U64))) fun res9=>fin res9 fun (s37:U64)=>bnd (shrU s37 2) fun n39=>some n39.toInt
theorem IY {w:World} {O:Lab} {p0 i0:Nat} {x0:Pkr} (b0:Ob i0 w O (.pointer (some ⟨p0,0,none⟩)) x0) {vx1:Value} {x1:List U64} (a0:Vb w (Fr 0 w O) vx1 x1) {r:Int} (hm:BT x0 x1=some r) :
    Fn Tryz.prog 108 [(.pointer (some ⟨p0,0,none⟩)),vx1] w fun v w'=>∃ O',St (eT i0) w O w' O'∧Ob i0 w' O' (.pointer (some ⟨p0,0,none⟩)) x0∧Vb w' (Fr 0 w' O') v r:=by
 obtain ⟨O0,hE,r0,s0⟩:=ent1 (w:=w) (O:=O) b0.2
 have b0':=Ob.leave b0 r0 s0 (j:=2) (by decide)
 have hB:Bm w O0 w O0:=Bm.refl
 replace a0:=a0.mono r0
 obtain ⟨A3,c4,rfl⟩:=a0.form
 refine AH Tryz.func108 rfl Tryz.ntmps108 rfl ?_
 unfold BT at hm
 refine Al (Aj (An rfl rfl (o_z ?_)))
 refine Al (Al (Aj (Am rfl rfl (EQ rfl rfl ?_))))
 refine o_z ?_
 refine Ae rfl (AI (Al (Aj (Am rfl rfl (AP rfl rfl ?_)))))
 have l6:x1.length≤9223372036854775807:=Nat.le_trans a0.len.2.1 a0.len.2.2
 have r5:inI64 (x1.length:Int):=rngNat l6
 refine RT rfl rfl ?_
 refine RQ (a:=(BitVec.ofInt 64 (x1.length:Int))) (b:=(11400714819323198485:U64)) rfl rfl rfl ?_
 refine An rfl rfl (o_z ?_)
 refine Al (Al (Aj (Am rfl rfl (AP rfl rfl ?_))))
 have l8:x1.length≤9223372036854775807:=Nat.le_trans a0.len.2.1 a0.len.2.2
 have r7:inI64 (x1.length:Int):=rngNat l8
 refine Am rfl rfl (o_z ?_)
 obtain ⟨h0,j0,hm⟩:=bs hm
 refine AJ (aft h0 (fun (c0:U64) (f0:Unit)=>[(5,(.int .u64 c0.toNat))]) (fun c0 f0 w'=>∃ O':Lab,Bm w O0 w' O'∧Ob 2 w' O' (.pointer (some ⟨p0,0,none⟩)) x0)) ?_ ?_
 ·
  refine AM (By (σ:=U64) (X:=Unit) (x1.length) j0 rfl l8 (fun (c0:U64) (f0:Unit)=>[(5,(.int .u64 c0.toNat)),(14,(.slice A3 x1.length c4))]) _ (fun c0 f0 w'=>∃ O':Lab,Bm w O0 w' O'∧Vb w' (Fr 0 w' O') (.slice A3 x1.length c4) x1∧Ob 2 w' O' (.pointer (some ⟨p0,0,none⟩)) x0) _ () ⟨O0,hB,a0,b0'⟩ ⟨rfl,rfl,rfl,rfl,trivial⟩ (fun _ _=>⟨rfl,rfl⟩) (fun _ _=>⟨rfl,trivial⟩) (fun _ _ _ ⟨O',hB,a0,b0'⟩=>⟨O',hB,b0'⟩) ⟨rfl,rfl,rfl⟩ ⟨rfl,rfl⟩ ?_)
  rintro t0 g0 c0 f0 c1 u0 e0 ⟨d1,hB,a0,b0'⟩ d0 k0 l0
  have rk13:inI64 (t0:Int):=rngK e0 l8
  refine Al (Aj ?_)
  obtain ⟨e1,f1,v0,m0,n0,o0,rfl⟩:=a0.elem' e0
  refine Bo (hA:=m0) (hj:=rfl) (hlt:=n0) rfl rfl rfl ?_
  refine AC (hc:=cat0 o0) rfl rfl ?_
  refine An rfl rfl (o_z ?_)
  refine Al (Aj (Am rfl rfl (Am rfl rfl (PJ (a:=c0) (b:=g0) rfl rfl rfl ?_))))
  refine An rfl rfl (o_z ?_)
  refine Al (Aj (Am rfl rfl (RR (a:=(c0 ^^^ g0)) (b:=(13787848793156543929:U64)) rfl rfl rfl ?_)))
  refine An rfl rfl (o_z ?_)
  refine Aj (Am rfl rfl (Am rfl rfl ?_))
  obtain ⟨w0,y0,d0⟩:=bs d0
  refine PK (a:=((c0 ^^^ g0) * (13787848793156543929:U64))) (he:=y0) rfl rfl rfl ?_
  refine PJ (a:=((c0 ^^^ g0) * (13787848793156543929:U64))) (b:=w0) rfl rfl rfl ?_
  refine An rfl rfl (o_z ?_)
  obtain rfl:=sm d0
  exact show Exists _ from ⟨_,(),rfl,⟨rfl,rfl,rfl,rfl,trivial⟩,_,hB,a0,b0'⟩
 rintro g1 h1 ⟨z0,i1,rfl,q0,j1,hB,b0'⟩
 replace hm:=AX hm
 refine AN _ q0 ?_
 refine Al (Aj (Am rfl rfl ?_))
 obtain ⟨a1,b1,hm⟩:=bs hm
 refine PK (a:=z0) (he:=b1) rfl rfl rfl ?_
 refine RU (a:=a1) rfl rfl ?_
 refine An rfl rfl (o_z ?_)
 refine AG ?_
 obtain rfl:=sm hm
 obtain ⟨O',hS',hz,hl⟩:=hE.leave (fun q=>if q=2 then i0 else 0) rfl hB
 exact ret1v rfl (Az rfl) ⟨O',hS',(Ob.leave b0' hz (hl 2 (by decide) (by decide)) b0.2),(vInt (toIntR _))⟩
noncomputable def BC (x0:List U64) (x1:List U64):Option Bool :=
  if (x0.length:Int)≠(x1.length:Int) then (some false) else (bnd (rng (ρ:=Bool) (fun (k18:Nat) (a19:U64) (s16:Unit)=>bnd (x1[k18]?) fun a36=>if (a19.toNat:Int)≠(a36.toNat:Int) then (some (.ret false)) else (some (.next ()))) x0 0 ()) fun res14=>fin res14 fun (s50:Unit)=>some true)
theorem FW {w:World} {A:Nat→Prop} (hA:∀ k,A k→k < w.heap.size) {vx0:Value} {x0:List U64} (b0:Vb w A vx0 x0) {vx1:Value} {x1:List U64} (c0:Vb w A vx1 x1) {r:Bool} (hm:BC x0 x1=some r) :
    Fn Tryz.prog 109 [vx0,vx1] w fun v w'=>Ext w w'∧Vb w' (upA A w w') v r:=by
 obtain ⟨O,hB,u0⟩:=enter hA
 replace b0:=b0.mono u0
 obtain ⟨A3,c4,rfl⟩:=b0.form
 replace c0:=c0.mono u0
 obtain ⟨A5,c6,rfl⟩:=c0.form
 refine AH Tryz.func109 rfl Tryz.ntmps109 rfl ?_
 unfold BC at hm
 refine Al (Aj (An rfl rfl (o_z ?_)))
 refine Al (Al (Aj (Am rfl rfl (AP rfl rfl ?_))))
 have l8:x0.length≤9223372036854775807:=Nat.le_trans b0.len.2.1 b0.len.2.2
 have r7:inI64 (x0.length:Int):=rngNat l8
 refine Am rfl rfl (AP rfl rfl ?_)
 have v0:x1.length≤9223372036854775807:=Nat.le_trans c0.len.2.1 c0.len.2.2
 have r9:inI64 (x1.length:Int):=rngNat v0
 refine Gh rfl rfl rfl (fun i0=>?_) fun i0=>?_
 ·
  replace hm:=ip hm i0
  refine o_z ?_
  refine Ah rfl (Al (Aj (An rfl rfl (o_z ?_))))
  refine AG ?_
  obtain rfl:=sm hm
  exact ret1v rfl (Az rfl) ⟨hB.ext,vBool⟩
 replace hm:=im hm i0
 refine o_z ?_
 refine Ae rfl (AI (Al (Al (Aj (Am rfl rfl (AP rfl rfl ?_))))))
 have j0:x0.length≤9223372036854775807:=Nat.le_trans b0.len.2.1 b0.len.2.2
 have d1:inI64 (x0.length:Int):=rngNat j0
 refine Am rfl rfl (o_z ?_)
 obtain ⟨e0,k0,hm⟩:=bs hm
 refine AJ (aft e0 (fun (g0:Unit) (h0:Unit)=>[]) (fun g0 h0 w'=>∃ O':Lab,Bs w A w' O')) ?_ ?_
 ·
  refine AM (By (σ:=Unit) (X:=Unit) (x0.length) k0 rfl j0 (fun (g0:Unit) (h0:Unit)=>[(0,(.slice A3 x0.length c4)),(1,(.slice A5 x1.length c6))]) _ (fun g0 h0 w'=>∃ O':Lab,Bs w A w' O'∧Vb w' (Fr 0 w' O') (.slice A3 x0.length c4) x0∧Vb w' (Fr 0 w' O') (.slice A5 x1.length c6) x1) _ () ⟨O,hB,b0,c0⟩ ⟨rfl,rfl,rfl,rfl,trivial⟩ (fun _ _=>⟨rfl,rfl⟩) (fun _ _=>trivial) (fun _ _ _ ⟨O',hB,b0,c0⟩=>⟨O',hB⟩) ⟨rfl,rfl,rfl⟩ ⟨rfl,rfl⟩ ?_)
  rintro w0 e1 g0 h0 y0 z0 f0 ⟨f1,hB,b0,c0⟩ a0 d0 l0
  have rk18:inI64 (w0:Int):=rngK f0 j0
  refine Al (Aj (Am rfl rfl (An rfl rfl (o_z ?_))))
  refine Al (Ct (·=y0) [(0,true),(1,true),(2,true),(3,true),(4,true),(5,true),(6,true),(7,true),(8,true)] (by kernel_rfl) rfl (by kernel_rfl) rfl ?_)
  refine AK rfl rfl rfl (AK rfl rfl rfl ?_)
  obtain ⟨g1,h1,a1,m0,n0,o0,rfl⟩:=b0.elem' f0
  refine BU (hA:=m0) (hj:=rfl) (hlt:=n0) rfl rfl rfl rfl ?_
  refine Cu (hc:=cat0 o0) rfl rfl rfl ?_
  refine AK rfl rfl rfl (AK rfl rfl rfl ?_)
  obtain ⟨i1,b1,a0⟩:=bs a0
  obtain ⟨j1,k1,c1,p0,q0,r0,rfl⟩:=c0.elem' b1
  refine BU (hA:=p0) (hj:=rfl) (hlt:=q0) rfl rfl rfl rfl ?_
  refine Cu (hc:=cat0 r0) rfl rfl rfl ?_
  refine RD rfl rfl rfl rfl (fun s0=>?_) fun s0=>?_
  ·
   replace a0:=ip a0 s0
   refine h_z ?_
   refine Ah rfl (Al (Aj (An rfl rfl (o_z ?_))))
   refine AG ?_
   obtain rfl:=sm a0
   obtain rfl:=d0 _ rfl
   obtain rfl:=sm (CB hm)
   exact ret1v rfl (Az rfl) ⟨hB.ext,vBool⟩
  replace a0:=im a0 s0
  refine h_z ?_
  refine Ae rfl (AI ?_)
  obtain rfl:=sm a0
  exact show Exists _ from ⟨_,(),rfl,⟨rfl,rfl,rfl,rfl,trivial⟩,_,hB,b0,c0⟩
 rintro l1 m1 ⟨n1,o1,rfl,t0,p1,hB⟩
 replace hm:=AX hm
 refine AN _ t0 ?_
 refine Al (Aj (An rfl rfl (o_z ?_)))
 refine AG ?_
 obtain rfl:=sm hm
 exact ret1v rfl (Az rfl) ⟨hB.ext,vBool⟩
end
section
open Go Go.RowKit
class TMap (P:Program) (t:TypeId) (k e:outParam TypeId):Prop where eq:P.underlying t=some (.map k e)
class MKey (K:Type) where
  dec:DecidableEq K
  enc:K→Value
  desc:TypeDesc
  key:∀ a,MapKept.IsKey desc (enc a)
  inj:∀ a b,enc a=enc b→a=b
class TKey (P:Program) (t:TypeId) (K:Type) [MKey K]:Prop where eq:P.underlying t=some (MKey.desc K)
instance:MKey Int where
  dec:=inferInstance
  enc a:=.int .i64 a
  desc:=.int .i64
  key _:=rfl
  inj _ _ h:=by injection h
section
variable {K V : Type} [MKey K]
instance keyDec:DecidableEq K:=MKey.dec
def mhas:List (K×V)→K→Bool
  | [],_=>false
  | p :: r,k=>if p.1=k then true else mhas r k
def mget (z:V):List (K×V)→K→V
  | [],_=>z
  | p :: r,k=>if p.1=k then p.2 else mget z r k
def mput:List (K×V)→K→V→List (K×V)
  | [],k,v=>[(k,v)]
  | p :: r,k,v=>if p.1=k then (k,v) :: r else p :: mput r k v
def midx:List (K×V)→K→Option Nat
  | [],_=>none
  | p :: r,k=>if p.1=k then some 0 else (midx r k).map (· + 1)
theorem FF (a:K):∀ (es:List MapEntry) (x:List (K×V)) (i:Nat),es.map (·.key)=x.map (fun p=>MKey.enc p.1) →
    (midx x a=none∧Instr.findNow (MKey.desc K) (MKey.enc a) es i=some none∧mhas x a=false∧(∀ z,mget z x a=z)∧∀ v,mput x a v=x ++ [(a,v)]) ∨
    ∃ j e p,midx x a=some j∧es[j]?=some e∧x[j]?=some p∧Instr.findNow (MKey.desc K) (MKey.enc a) es i=some (some (i + j,e.val))∧e.key=MKey.enc a∧mhas x a=true∧(∀ z,mget z x a=p.2)∧∀ v,mput x a v=x.set j (a,v)
  | [],[],_,_=>.inl ⟨rfl,rfl,rfl,fun _=>rfl,fun _=>rfl⟩
  | [],_ :: _,_,h=>by simp at h
  | _ :: _,[],_,h=>by simp at h
  | e :: es,p :: x,i,h=>by
    rw [List.map_cons,List.map_cons] at h
    injection h with h1 h2
    obtain ⟨r,hr,hiff⟩:=MapKept.sameNow_of_keys (MKey.key a) (MKey.key p.1)
    by_cases hp:p.1=a
    · have:r=true:=hiff.2 (by rw [hp])
      subst this
      refine .inr ⟨0,e,p,by simp [midx,hp],rfl,rfl,?_,by rw [h1,hp],by simp [mhas,hp],fun z=>by simp [mget,hp],fun v=>by simp [mput,hp]⟩
      simp [Instr.findNow,h1,hr]
    · have:r=false:=by
        cases r with
        | false=>rfl
        | true=>exact absurd (MKey.inj _ _ (hiff.1 rfl)).symm hp
      subst this
      rcases FF a es x (i + 1) h2 with ⟨g0,g1,g2,g3,g4⟩|⟨j,e',p',g0,g1,g2,g3,g4,g5,g6,g7⟩
      · exact .inl ⟨by simp [midx,hp,g0],by simp [Instr.findNow,h1,hr,g1],by simp [mhas,hp,g2],fun z=>by simp [mget,hp,g3],fun v=>by simp [mput,hp,g4]⟩
      · refine .inr ⟨j + 1,e',p',by simp [midx,hp,g0],by simpa using g1,by simpa using g2,?_,g4,by simp [mhas,hp,g5],fun z=>by simp [mget,hp,g6],fun v=>by simp [mput,hp,g7]⟩
        simp [Instr.findNow,h1,hr,g3];omega
end
def LkV (d:TypeDesc) (z:Value) (w:World) (r:Nat) (key v:Value) (b:Bool):Prop:=∃ es ck a,w.heap[r]?=some (.map es ck)∧Instr.findNow d key es.toList 0=some a∧v=(match a with|some p=>p.2|none=>z)∧b=a.isSome
theorem LkV.keep {d:TypeDesc} {z:Value} {w w':World} {r:Nat} {key v:Value} {b:Bool} (h:LkV d z w r key v b) (e:w'.heap[r]?=w.heap[r]?):LkV d z w' r key v b:=by
  obtain ⟨es,ck,a,h1,h2⟩:=h
  exact ⟨es,ck,a,e.trans h1,h2⟩
section
variable {P : Program} {l : Env} {w : World} {dst : Option Tmp} {ty : TypeId} {pos : String} {aft : Array Edge}
theorem PL {K:Type} [MKey K] {t k e:TypeId} [ht:TMap P t k e] [hk:TKey P k K] {z:Value} {size bytes:Nat} [TInfo P e z size bytes] {x y:Operand} {r:Nat} {a:K} {v:Value} {b:Bool} (hx:opv l x=some (.map (some r))) (hy:opv l y=some (MKey.enc a)) (hv:LkV (MKey.desc K) z w r (MKey.enc a) v b) :
    Ev P ⟨dst,.lookup t x y false,ty,pos,aft,none⟩ l w v:=fun _ _ d ha=>by
  obtain ⟨es,ck,q,h1,h2,h3,h4⟩:=hv
  have hb:(dr w d).heap[r]?=some (.map es ck):=h1
  subst h3
  cases q with
  | none=>simp [execOp,ha.eval hx,ha.eval hy,Instr.lookup,run_underlying ht.eq,MapKept.run_getObj_map hb,MapKept.run_checkKey hk.eq (MKey.key a),MapKept.run_findKey hk.eq h2,Result.andThen,HP (P:=P) (t:=e)]
  | some p=>simp [execOp,ha.eval hx,ha.eval hy,Instr.lookup,run_underlying ht.eq,MapKept.run_getObj_map hb,MapKept.run_checkKey hk.eq (MKey.key a),MapKept.run_findKey hk.eq h2,Result.andThen]
end
def putEs (es:List MapEntry) (ck:Nat) (key v:Value):Option Nat→List MapEntry
  | none=>es ++ [{ key:=key,val:=v,born:=ck }]
  | some j=>es.modify j fun e=>{ e with key:=key,val:=v }
section
variable {P : Program} {n : Nat} {ops : Array Oper} {Q : Post} {rest : List Oper} {l : Env} {w : World} {d : Tmp} {ty : TypeId} {pos : String} {aft : Array Edge}
theorem OZ {K V:Type} [MKey K] {t k e:TypeId} [ht:TMap P t k e] [hk:TKey P k K] {x y u:Operand} {r ck:Nat} {a:K} {v:Value} {es:List MapEntry} {xs:List (K×V)} (hb:w.heap[r]?=some (.map es.toArray ck)) (hks:es.map (·.key)=xs.map (fun p=>MKey.enc p.1)) (hx:opv l x=some (.map (some r))) (hy:opv l y=some (MKey.enc a)) (hu:opv l u=some v)
    (h:∀ w' ck',w'.os=w.os→w'.tape=w.tape→w'.output=w.output→w'.heap.size=w.heap.size→w'.heap[r]?=some (.map (putEs es ck (MKey.enc a) v (midx xs a)).toArray ck')→(∀ q,q≠r→w'.heap[q]?=w.heap[q]?)→owp P n ops Q rest l w'):owp P n ops Q (⟨none,.mapUpdate t x y u,ty,pos,aft,none⟩ :: rest) l w:=fun ac d ha=>by
  refine wpList_plain rfl fun K' hK=>?_
  have hbd:(dr w d).heap[r]?=some (.map es.toArray ck):=hb
  unfold Oper.wp
  rcases FF a es xs 0 hks with ⟨g0,g1,_⟩|⟨j,e',p,g0,g1,g2,g3,g4,_⟩
  · have hr:(execOp ac.eval ⟨none,.mapUpdate t x y u,ty,pos,aft,none⟩).run P (dr w d)=.ok .skip { (dr w d) with heap:=(dr w d).heap.setIfInBounds r (.map (es.toArray.push { key:=MKey.enc a,val:=v,born:=ck }) (ck + 1)) }:=by
      simp [execOp,ha.eval hx,ha.eval hy,ha.eval hu,Instr.mapUpdate,run_underlying ht.eq,MapKept.run_getObj_map hbd,MapKept.run_checkKey hk.eq (MKey.key a),MapKept.run_findKey hk.eq g1,MapKept.run_setObj_map _ hbd,Result.andThen]
    rw [hr]
    refine hK _ _ (h { w with heap:=w.heap.setIfInBounds r (.map (es.toArray.push { key:=MKey.enc a,val:=v,born:=ck }) (ck + 1)) } (ck + 1) rfl rfl rfl (by simp) ?_ (fun q hq=>(MapKept.heap_set hb).2 q hq) _ d ha)
    rw [g0]
    simpa [putEs] using (MapKept.heap_set hb).1
  · have hj:es.toArray[j]?=some e':=by simpa using g1
    have hj':es[j]?=some e':=g1
    rw [Nat.zero_add] at g3
    have hr:(execOp ac.eval ⟨none,.mapUpdate t x y u,ty,pos,aft,none⟩).run P (dr w d)=.ok .skip { (dr w d) with heap:=(dr w d).heap.setIfInBounds r (.map (es.toArray.modify j fun e=>{ e with key:=MKey.enc a,val:=v }) ck) }:=by
      simp [execOp,ha.eval hx,ha.eval hy,ha.eval hu,Instr.mapUpdate,run_underlying ht.eq,MapKept.run_getObj_map hbd,MapKept.run_checkKey hk.eq (MKey.key a),MapKept.run_findKey hk.eq g3,hj',g4,MapKept.run_keyThatStays (MKey.key a),MapKept.run_setObj_map _ hbd,Result.andThen]
    rw [hr]
    refine hK _ _ (h { w with heap:=w.heap.setIfInBounds r (.map (es.toArray.modify j fun e=>{ e with key:=MKey.enc a,val:=v }) ck) } ck rfl rfl rfl (by simp) ?_ (fun q hq=>(MapKept.heap_set hb).2 q hq) _ d ha)
    rw [g0]
    have:=(MapKept.heap_set (o':=.map (es.toArray.modify j fun e=>{ e with key:=MKey.enc a,val:=v }) ck) hb).1
    simpa [putEs] using this
theorem Og {t:TypeId} (hd:Nat.blt d n=true) (h:∀ w',Ext w w'→w'.heap.size=w.heap.size + 1→w'.heap[w.heap.size]?=some (.map #[] 0)→owp P n ops Q rest ((d,.map (some w.heap.size)) :: l) w'):owp P n ops Q (⟨some d,.makeMap t none,ty,pos,aft,none⟩ :: rest) l w :=
  HB (w':=w.alloc (.map #[] 0)) (fun a e ha=>.inl ⟨.map (some w.heap.size),e,by simp [execOp,Instr.makeMap];exact ⟨rfl,rfl⟩,ha.put hd _⟩)
    (h _ ((Below.refl _ _).alloc (Nat.le_refl _) _) (by simp) (by show (w.heap.push _)[_]?=_;simp))
end
theorem Nz {K V:Type} [MKey K] {es:List MapEntry} {xs:List (K×V)} (ck:Nat) (a:K) (v:Value) (y:V) (h:es.map (·.key)=xs.map (fun p=>MKey.enc p.1)):(putEs es ck (MKey.enc a) v (midx xs a)).map (·.key)=(mput xs a y).map (fun p=>MKey.enc p.1):=by
  rcases FF a es xs 0 h with ⟨g0,_,_,_,g4⟩|⟨j,e',p,g0,g1,g2,g3,g4,_,_,g7⟩
  · rw [g0,g4];simp [putEs,h]
  · rw [g0,g7]
    simp only [putEs,List.map_set,← h]
    apply List.ext_getElem?
    intro q
    rw [List.getElem?_map,List.getElem?_modify,List.getElem?_set]
    by_cases hq:j=q
    · subst hq
      have hlt:j < es.length:=AD g1
      simp [g1,hlt]
    · simp [hq]
class OwM (α:Type) [Ow α]:Prop where
  mptr:∀ {w:World} {F M:Nat→Prop} {v:Value} {x:α},Ow.R w F M v x→∃ r,v=.map (some r)
theorem Ob.mptr {α:Type} [Ow α] [OwM α] {i:Nat} {w:World} {O:Lab} {v:Value} {x:α} (h:Ob i w O v x):∃ r,v=.map (some r):=OwM.mptr h.1
structure MapR (e:TypeId) (K V:Type) where
  l:List (K×List V)
def RA {K V:Type} [Rp V] (w:World) (F M:Nat→Prop) (L:Lab) (e:TypeId) (es:List MapEntry) (xs:List (K×List V)) (skip:Option Nat):Prop:=∀ (j:Nat) (en:MapEntry) (p:K×List V),es[j]?=some en→xs[j]?=some p→skip≠some j→RwM w F (fun k=>M k∧L k=j + 1) e en.val p.2
instance {e:TypeId} {K V:Type} [MKey K] [Rp V]:Ow (MapR e K V) where
  R w F M v x:=∃ (r:Nat) (L:Lab) (es:List MapEntry) (ck:Nat),v=.map (some r)∧w.heap[r]?=some (.map es.toArray ck)∧M r∧L r=0∧es.map (·.key)=x.l.map (fun p=>MKey.enc p.1)∧RA w F M L e es x.l none
  agree:=by rintro w w' F M v x ⟨r,L,es,ck,rfl,hb,hM,hL,hk,hv⟩ a1 a2;exact ⟨r,L,es,ck,rfl,(a2 r hM).trans hb,hM,hL,hk,fun j en p h1 h2 h3=>(hv j en p h1 h2 h3).agree a1 fun k hk=>a2 k hk.1⟩
  mono:=by rintro w F M F' M' v x ⟨r,L,es,ck,rfl,hb,hM,hL,hk,hv⟩ a1 a2 a3;exact ⟨r,L,es,ck,rfl,hb,a2 r hM,hL,hk,fun j en p h1 h2 h3=>(hv j en p h1 h2 h3).mono a1 (fun k hk=>⟨a2 k hk.1,hk.2⟩) fun k hf hm=>a3 k hf hm.1⟩
instance {e:TypeId} {K V:Type} [MKey K] [Rp V]:OwM (MapR e K V):=⟨by rintro w F M v x ⟨r,L,es,ck,rfl,_⟩;exact ⟨r,rfl⟩⟩
def MapH {K V:Type} [MKey K] [Rp V] (i:Nat) (w:World) (O:Lab) (r:Nat) (e:TypeId) (x:MapR e K V) (a:K):Prop :=
  (∃ (L:Lab) (es:List MapEntry) (ck:Nat),w.heap[r]?=some (.map es.toArray ck)∧Fr i w O r∧es.map (·.key)=x.l.map (fun p=>MKey.enc p.1)∧RA w (Fr 0 w O) (Fr i w O) L e es x.l (midx x.l a))∧i≠0
section
variable {e : TypeId} {K V : Type} [MKey K] [Rp V] {i j : Nat} {T : Nat → Prop} {w w' : World} {O O' : Lab} {r : Nat} {x : MapR e K V} {a : K}
theorem MapH.st (h:MapH i w O r e x a) (hS:St T w O w' O') (h0:¬ T 0:=by decide) (hi:¬ T i:=by decide):MapH i w' O' r e x a:=by
  obtain ⟨⟨L,es,ck,hb,hM,hk,hr⟩,h1⟩:=h
  refine ⟨⟨L,es,ck,(hS.agree hi r hM).trans hb,hS.fr hi r hM,hk,fun q en p g1 g2 g3=>?_⟩,h1⟩
  exact ((hr q en p g1 g2 g3).agree (hS.agree h0) fun k hk=>hS.agree hi k hk.1).mono (hS.fr h0) (fun k hk=>⟨hS.fr hi k hk.1,hk.2⟩) fun k hf hm=>frNe0 h1 k hf hm.1
theorem MapR.at (h:Ob i w O (.map (some r)) x):Fr i w O r:=by
  obtain ⟨⟨r',L,es,ck,hv,hb,hM,_⟩,_⟩:=h
  injection hv with hv
  injection hv with hv
  subst hv
  exact hM
theorem MapR.get (h:Ob i w O (.map (some r)) x) (a:K):∃ A c,LkV (MKey.desc K) (.slice none 0 0) w r (MKey.enc a) (.slice A (mget ([]:List V) x.l a).length c) (mhas x.l a)∧Vb w (FrS [i] w O) (.slice A (mget ([]:List V) x.l a).length c) (mget ([]:List V) x.l a):=by
  obtain ⟨⟨r',L,es,ck,hv,hb,hM,hL,hk,hra⟩,hi⟩:=h
  injection hv with hv
  injection hv with hv
  subst hv
  rcases FF a es x.l 0 hk with ⟨g0,g1,g2,g3,g4⟩|⟨q,e',p,g0,g1,g2,g3,g4,g5,g6,g7⟩
  · rw [g3,g2]
    exact ⟨none,0,⟨_,ck,none,hb,by simpa using g1,rfl,rfl⟩,Vb.nil _ _⟩
  · rw [g6,g5]
    have h1:=hra q e' p g1 g2 (by simp)
    have h2:Rw i w O e e'.val p.2:=h1.rw (fun _ h=>h) (fun _ h=>h.1) hi
    obtain ⟨A,c,hA⟩:=h2.form
    refine ⟨A,c,⟨_,ck,some (0 + q,e'.val),hb,by simpa using g3,hA.symm,rfl⟩,?_⟩
    rw [← hA]
    exact h2.lend [i] (by simp)
theorem MapR.take (h:Ob i w O (.map (some r)) x) {v:Value} {b:Bool} (hl:LkV (MKey.desc K) (.slice none 0 0) w r (MKey.enc a) v b) (j:Nat) (hj:j≠0) (hij:j≠i):∃ O',St (eT i) w O w O'∧MapH i w O' r e x a∧Rw j w O' e v (mget ([]:List V) x.l a):=by
  obtain ⟨⟨r',L,es,ck,hv,hb,hM,hL,hk,hra⟩,hi⟩:=h
  injection hv with hv
  injection hv with hv
  subst hv
  obtain ⟨es',ck',q,h1,h2,h3,h4⟩:=hl
  rw [hb] at h1
  injection h1 with h1
  injection h1 with h1 h1'
  subst h1
  rw [List.toList_toArray] at h2
  rcases FF a es x.l 0 hk with ⟨g0,g1,g2,g3,g4⟩|⟨n,e',p,g0,g1,g2,g3,g4,g5,g6,g7⟩
  · rw [g1] at h2
    have:=sm h2
    subst this
    rw [g3,h3]
    exact ⟨O,St.refl _ _ _,⟨⟨L,es,ck,hb,hM,hk,fun q en p a1 a2 _=>hra q en p a1 a2 (by simp)⟩,hi⟩,Rw.nil j hj⟩
  · rw [g3] at h2
    have:=sm h2
    subst this
    rw [g6,h3]
    have hrow:=hra n e' p g1 g2 (by simp)
    refine ⟨fun k=>if O k=i∧L k=n + 1 then j else O k,⟨rfl,rfl,rfl,Nat.le_refl _,fun k _ hk=>⟨rfl,if_neg fun h=>hk h.1⟩⟩,⟨⟨L,es,ck,hb,⟨hM.1,?_⟩,hk,fun q en p' a1 a2 a3=>?_⟩,hi⟩,hrow.rw (fun k hk=>⟨hk.1,?_⟩) (fun k hk=>⟨hk.1.1,if_pos ⟨hk.1.2,hk.2⟩⟩) hj⟩
    · show (if _ then _ else _)=_
      rw [if_neg (by rw [hL];omega)];exact hM.2
    · rw [g0] at a3
      have hne:n≠q:=fun e=>a3 (by rw [e])
      refine (hra q en p' a1 a2 (by simp)).mono (fun k hk=>⟨hk.1,?_⟩) (fun k hk=>⟨⟨hk.1.1,?_⟩,hk.2⟩) (fun k hf hm=>frNe0 hi k hf hm.1)
      · show (if _ then _ else _)=_
        rw [if_neg (by rw [hk.2];exact fun h=>hi h.1.symm)];exact hk.2
      · show (if _ then _ else _)=_
        rw [if_neg (by rw [hk.2];omega)];exact hk.1.2
    · show (if _ then _ else _)=_
      rw [if_neg (by rw [hk.2];exact fun h=>hi h.1.symm)];exact hk.2
end
section
variable {P : Program} {n : Nat} {ops : Array Oper} {Q : Post} {rest : List Oper} {l : Env} {w : World} {d : Tmp} {ty : TypeId} {pos : String} {aft : Array Edge} {K V : Type} [MKey K] [Rp V] {i j : Nat} {O : Lab} {r : Nat}
theorem Qh {e':TypeId} {x:MapR e' K V} {t k e:TypeId} [TMap P t k e] [TKey P k K] {m y u:Operand} {a:K} {v:Value} {ys:List V} (hM:MapH i w O r e' x a) (hv:Rw j w O e' v ys) (hij:j≠i) (hx:opv l m=some (.map (some r))) (hy:opv l y=some (MKey.enc a)) (hu:opv l u=some v)
    (h:∀ w' O',St (fun q=>q=i∨q=j) w O w' O'→Ob i w' O' (.map (some r)) (⟨mput x.l a ys⟩:MapR e' K V)→owp P n ops Q rest l w'):owp P n ops Q (⟨none,.mapUpdate t m y u,ty,pos,aft,none⟩ :: rest) l w:=by
  obtain ⟨⟨L,es,ck,hb,hM',hk,hra⟩,hi⟩:=hM
  refine OZ hb hk hx hy hu fun w' ck' e1 e2 e3 e4 e5 e6=>?_
  have hlen:es.length=x.l.length:=by have:=congrArg List.length hk;simpa using this
  have hj0:j≠0:=hv.2.2
  have hrj:O r≠j:=by rw [hM'.2];exact Ne.symm hij
  let n0:Nat:=match midx x.l a with|some q=>q|none=>es.length
  have hS:St (fun q=>q=i∨q=j) w O w' (fun k=>if O k=j then i else O k):=⟨e1,e2,e3,by omega,fun q hq hT=>⟨e6 q fun e=>hT (by rw [e];exact .inl hM'.2),if_neg fun e=>hT (.inr e)⟩⟩
  have hF:∀ k,Fr 0 w O k→Fr 0 w' (fun k=>if O k=j then i else O k) k:=fun k hk=>⟨by rw [e4];exact hk.1,by show (if _ then _ else _)=_;rw [if_neg (by rw [hk.2];exact Ne.symm hj0)];exact hk.2⟩
  have hA0:Agree (Fr 0 w O) w w':=fun k hk=>e6 k fun e=>by rw [e] at hk;exact hi (hM'.2.symm.trans hk.2)
  have hdis:∀ m:Nat,∀ k,Fr 0 w' (fun k=>if O k=j then i else O k) k→¬ (Fr i w' (fun k=>if O k=j then i else O k) k∧(if O k=j then n0 + 1 else if k=r then 0 else L k)=m):=fun m k hf hm=>frNe0 hi k hf hm.1
  have hnew:RwM w' (Fr 0 w' (fun k=>if O k=j then i else O k)) (fun k=>Fr i w' (fun k=>if O k=j then i else O k) k∧(if O k=j then n0 + 1 else if k=r then 0 else L k)=n0 + 1) e' v ys:=by
    have h1:RwM w (Fr 0 w O) (Fr j w O) e' v ys:=hv.m (fun _ h=>h) (fun _ h=>h) (frNe0 hj0)
    have h2:=h1.agree hA0 (fun k hk=>e6 k fun e=>by rw [e] at hk;exact hrj hk.2)
    exact h2.mono hF (fun k hk=>⟨⟨by rw [e4];exact hk.1,if_pos hk.2⟩,if_pos hk.2⟩) (hdis _)
  have hkeep:∀ q en (p:K×List V),es[q]?=some en→x.l[q]?=some p→midx x.l a≠some q→RwM w' (Fr 0 w' (fun k=>if O k=j then i else O k)) (fun k=>Fr i w' (fun k=>if O k=j then i else O k) k∧(if O k=j then n0 + 1 else if k=r then 0 else L k)=q + 1) e' en.val p.2:=fun q en p g1 g2 g3=>by
    have h1:=hra q en p g1 g2 g3
    have hnr:∀ g,en.val.ownBlock=some g→g≠r:=fun g hg e=>by
      subst e
      have h2:=h1.1
      obtain ⟨cells,o1,o2,o3⟩:=h2
      rcases o1.2 with ⟨hv0,_⟩|⟨g',cap,cur,hv0,_,hh,_⟩
      · rw [hv0] at hg;simp [Value.ownBlock] at hg
      · rw [hv0] at hg
        have:g'=g:=by simpa [Value.ownBlock] using hg
        subst this
        rw [hb] at hh;cases hh
    have h2:RwM w (Fr 0 w O) (fun k=>(Fr i w O k∧L k=q + 1)∧k≠r) e' en.val p.2:=⟨h1.1,fun g hg=>⟨h1.2 g hg,hnr g hg⟩⟩
    have h3:=h2.agree hA0 (fun k hk=>e6 k hk.2)
    refine h3.mono hF (fun k hk=>?_) (hdis _)
    have hkj:O k≠j:=by rw [hk.1.1.2];exact Ne.symm hij
    exact ⟨⟨by rw [e4];exact hk.1.1.1,by show (if _ then _ else _)=_;rw [if_neg hkj];exact hk.1.1.2⟩,by rw [if_neg hkj,if_neg hk.2];exact hk.1.2⟩
  refine h w' _ hS ⟨⟨r,fun k=>if O k=j then n0 + 1 else if k=r then 0 else L k,_,ck',rfl,e5,⟨by rw [e4];exact hM'.1,by show (if _ then _ else _)=_;rw [if_neg hrj];exact hM'.2⟩,by show (if _ then _ else _)=_;rw [if_neg hrj,if_pos rfl],Nz ck a v ys hk,?_⟩,hi⟩
  intro q en p h1 h2 _
  rcases FF a es x.l 0 hk with ⟨g0,_,_,_,g4⟩|⟨m,e'',p',g0,g1,g2,g3,g4,_,_,g7⟩
  · have hn0:n0=es.length:=by show (match midx x.l a with|some q=>q|none=>es.length)=_;rw [g0]
    rw [g0] at h1
    rw [g4] at h2
    simp only [putEs] at h1
    by_cases hq:q < es.length
    · rw [List.getElem?_append_left hq] at h1
      rw [List.getElem?_append_left (by omega)] at h2
      exact hkeep q en p h1 h2 (by rw [g0];simp)
    · rw [List.getElem?_append_right (by omega)] at h1
      rw [List.getElem?_append_right (by omega)] at h2
      cases hz:q - es.length with
      | zero =>
        rw [hz] at h1
        rw [show q - x.l.length=0 from by omega] at h2
        simp at h1 h2
        subst h1;subst h2
        have hqe:q=n0:=by rw [hn0];omega
        rw [hqe]
        exact hnew
      | succ m=>rw [hz] at h1;simp at h1
  · have hn0:n0=m:=by show (match midx x.l a with|some q=>q|none=>es.length)=_;rw [g0]
    rw [g0] at h1
    rw [g7] at h2
    simp only [putEs] at h1
    rw [List.getElem?_modify] at h1
    rw [List.getElem?_set] at h2
    by_cases hq:m=q
    · subst hq
      have hlt:=AD g2
      rw [g1] at h1
      simp [hlt] at h1 h2
      subst h1;subst h2
      rw [← hn0]
      exact hnew
    · simp [hq] at h1 h2
      exact hkeep q en p h1 h2 (by rw [g0];simpa using hq)
theorem Pa {t:TypeId} (e:TypeId) (i:Nat) (hi:i≠0) (O:Lab) (hd:Nat.blt d n=true) (h:∀ g w' O',St nT w O w' O'→Ob i w' O' (.map (some g)) (⟨[]⟩:MapR e K V)→owp P n ops Q rest ((d,.map (some g)) :: l) w'):owp P n ops Q (⟨some d,.makeMap t none,ty,pos,aft,none⟩ :: rest) l w :=
  Og hd fun w' hE hs hb=>h _ w' _ (hE.st O fun _=>i) ⟨⟨w.heap.size,fun _=>0,[],0,rfl,hb,⟨by omega,Fe (Nat.le_refl _)⟩,rfl,rfl,fun j e p h1 _=>by simp at h1⟩,hi⟩
end
section
variable {P : Program} {n : Nat} {ops : Array Oper} {Q : Post} {rest : List Oper} {l : Env} {w : World} {d : Tmp} {ty : TypeId} {pos : String} {aft : Array Edge} {S : World → Prop} {rr : List (Nat × Bool)} {i' : Nat}
theorem Sh {K:Type} [MKey K] {t k e:TypeId} [TMap P t k e] [TKey P k K] {z:Value} {size bytes:Nat} [TInfo P e z size bytes] {x y:Operand} {r:Nat} {v:Value} {b:Bool} (a:K) (hv:LkV (MKey.desc K) z w r (MKey.enc a) v b) (hx:opv l x=some (.map (some r))) (hy:opv l y=some (MKey.enc a)) (hd:Nat.blt d n=true) (h:owp P n ops Q rest ((d,v) :: l) w):owp P n ops Q (⟨some d,.lookup t x y false,ty,pos,aft,none⟩ :: rest) l w:=AR (PL hx hy hv) hd h
theorem Sj {K:Type} [MKey K] {t k e:TypeId} [TMap P t k e] [TKey P k K] {z:Value} {size bytes:Nat} [TInfo P e z size bytes] {x y:Operand} {r:Nat} {v:Value} {b:Bool} (a:K) (hv:∀ w',S w'→LkV (MKey.desc K) z w' r (MKey.enc a) v b) (hi:ops[i']?=some ⟨some d,.lookup t x y false,ty,pos,aft,none⟩) (hx:opv l x=some (.map (some r))) (hy:opv l y=some (MKey.enc a)) (hd:Nat.blt d n=true) (h:hwp P n ops Q S rr ((d,v) :: l) w):hwp P n ops Q S ((i',true) :: rr) l w:=AA hi (Ba (fun w' hS=>PL hx hy (hv w' hS)) hd h)
end
end
section
open Go Go.RowKit
attribute [local irreducible] ewp owp hwp hwq hws Ev Evg Fn retPost loud loudS Res1
attribute [local irreducible] hwx loudX
instance:TMap Tryz.prog 134 3 22:=⟨Tryz.underlying134⟩
instance:TKey Tryz.prog 3 Int:=⟨Tryz.underlying3⟩
structure RLk where
  parent:Int
  op:Int
  cost:Int
structure REn where
  words:List U64
  link:RLk
instance:Rp REn where
  isAgg:=true
  size:=4
  R w F cs x:=∃ v0,cs=[v0,.int .i64 x.link.parent,.int .i64 x.link.op,.int .i64 x.link.cost]∧Vb w F v0 x.words∧inI64 x.link.parent∧inI64 x.link.op∧inI64 x.link.cost
  len:=by rintro w F cs x ⟨v0,rfl,h0,h1,h2,h3⟩;rfl
  one:=by rintro w F cs x ⟨v0,rfl,h0,h1,h2,h3⟩ u hu;simp at hu;rcases hu with rfl|rfl|rfl|rfl<;>first|rfl|exact Vb.one rfl (by assumption)
  agree:=by rintro w w' F cs x ⟨v0,rfl,h0,h1,h2,h3⟩ ha;exact ⟨v0,rfl,h0.agree ha,h1,h2,h3⟩
  mono:=by rintro w F G cs x ⟨v0,rfl,h0,h1,h2,h3⟩ ha;exact ⟨v0,rfl,h0.mono ha,h1,h2,h3⟩
structure Reg where
  packer:Pkr
  entries:List REn
  table:MapR 3 Int Int
instance:Ow Reg where
  R w F M v x:=∃ (g:Nat) (L:Lab) (c0 c1 c2:Value),v=.pointer (some ⟨g,0,none⟩)∧Blk w g 137 [c0,c1,c2]∧M g∧L g=0∧Ow.R w F (fun k=>M k∧L k=1) c0 x.packer∧RwM w F (fun k=>M k∧L k=2) 144 c1 x.entries∧Ow.R w F (fun k=>M k∧L k=3) c2 x.table
  agree:=by rintro w w' F M v x ⟨g,L,c0,c1,c2,rfl,hb,hM,hL,h0,h1,h2⟩ a1 a2;exact ⟨g,L,c0,c1,c2,rfl,hb.keep (a2 g hM),hM,hL,Ow.agree h0 a1 fun k hk=>a2 k hk.1,h1.agree a1 fun k hk=>a2 k hk.1,Ow.agree h2 a1 fun k hk=>a2 k hk.1⟩
  mono:=by rintro w F M F' M' v x ⟨g,L,c0,c1,c2,rfl,hb,hM,hL,h0,h1,h2⟩ a1 a2 a3;exact ⟨g,L,c0,c1,c2,rfl,hb,a2 g hM,hL,Ow.mono h0 a1 (fun k hk=>⟨a2 k hk.1,hk.2⟩) fun k hf hm=>a3 k hf hm.1,h1.mono a1 (fun k hk=>⟨a2 k hk.1,hk.2⟩) fun k hf hm=>a3 k hf hm.1,Ow.mono h2 a1 (fun k hk=>⟨a2 k hk.1,hk.2⟩) fun k hf hm=>a3 k hf hm.1⟩
instance:OwP Reg:=⟨by rintro w F M v x ⟨g,L,c0,c1,c2,rfl,_⟩;exact ⟨g,rfl⟩⟩
theorem Reg.opn {i:Nat} {w:World} {O:Lab} {p:Nat} {x:Reg} (h:Ob i w O (.pointer (some ⟨p,0,none⟩)) x) (l0 l1 l2 l3:Nat) (hl:l0≠0∧l1≠0∧l2≠0∧l3≠0):∃ (O':Lab) (c0 c1 c2:Value),St (eT i) w O w O'∧(∀ k,Fr i w O k→∃ q,q∈[l0,l1,l2,l3]∧Fr q w O' k)∧Lc l0 w O' p 137 [c0,c1,c2]∧Ob l1 w O' c0 x.packer∧Rw l2 w O' 144 c1 x.entries∧Ob l3 w O' c2 x.table:=by
  obtain ⟨⟨g,L,c0,c1,c2,hv,hb,hM,hL,h0,h1,h2⟩,hi⟩:=h
  obtain rfl:p=g:=by injection hv with hv;injection hv with hv;injection hv
  exact ⟨part O i L [l0,l1,l2,l3],c0,c1,c2,Js hi,HZ (by simp),⟨hb,(EL (j:=0) rfl p ⟨hM,hL⟩).2⟩,⟨Ow.mono h0 (CY hi) (EL (j:=1) rfl) (frNe0 hl.2.1),hl.2.1⟩,h1.rw (CY hi) (EL (j:=2) rfl) hl.2.2.1,⟨Ow.mono h2 (CY hi) (EL (j:=3) rfl) (frNe0 hl.2.2.2),hl.2.2.2⟩⟩
theorem Reg.shut {w:World} {O:Lab} {p:Nat} {x:Reg} {l0 l1 l2 l3:Nat} {c0 c1 c2:Value} (hd:¬ 0∈[l0,l1,l2,l3]∧[l0,l1,l2,l3].idxOf l0=0∧[l0,l1,l2,l3].idxOf l1=1∧[l0,l1,l2,l3].idxOf l2=2∧[l0,l1,l2,l3].idxOf l3=3) (hb:Lc l0 w O p 137 [c0,c1,c2]) (h0:Ob l1 w O c0 x.packer) (h1:Rw l2 w O 144 c1 x.entries) (h2:Ob l3 w O c2 x.table):∃ O',St (·∈[l0,l1,l2,l3]) w O w O'∧(∀ k,Fr 0 w O k→Fr 0 w O' k)∧(∀ q,q∈[l0,l1,l2,l3]→∀ k,Fr q w O k→Fr l0 w O' k)∧Ob l0 w O' (.pointer (some ⟨p,0,none⟩)) x:=by
  have hb1:l0≠0:=fun e=>hd.1 (by simp [e])
  have hg:=Em (i:=l0) hd.2.1 (by simp) p ⟨hb.1.lt,hb.2⟩
  exact ⟨whole O l0 [l0,l1,l2,l3],Ia,Ce hd.1,Hq,⟨p,fun k=>[l0,l1,l2,l3].idxOf (O k),c0,c1,c2,rfl,hb.1,hg.1,hg.2,Ow.mono h0.1 (Ce hd.1) (Em hd.2.2.1 (by simp)) (fun k a b=>frNe0 hb1 k a b.1),h1.m (Ce hd.1) (Em hd.2.2.2.1 (by simp)) (fun k a b=>frNe0 hb1 k a b.1),Ow.mono h2.1 (Ce hd.1) (Em hd.2.2.2.2 (by simp)) (fun k a b=>frNe0 hb1 k a b.1)⟩,hb1⟩
noncomputable def Da (x0:List Int):Option ((Option Reg)×Err) :=
  bnd (EE x0) fun q4=>if q4.2.n≠0 then (some (none,(⟨q4.2.n⟩:Err))) else (bnd q4.1 fun o22=>some ((some (⟨o22,([]:List REn),(⟨[]⟩:MapR 3 Int Int)⟩:Reg)),(⟨0⟩:Err)))
theorem KM {w:World} {O:Lab} {vx0:Value} {x0:List Int} (b0:Vb w (Fr 0 w O) vx0 x0) (j0:Nat) (hj0:j0≠0) {r:(Option Reg)×Err} (hm:Da x0=some r) :
    Fn Tryz.prog 43 [vx0] w fun v w'=>∃ O',St nT w O w' O'∧∃ v0 v1:Value,v=.tuple #[v0,v1]∧Obo j0 w' O' v0 r.1∧Vb w' (Fr 0 w' O') v1 r.2:=by
 obtain ⟨O0,hE,k0⟩:=ent0 (w:=w) (O:=O)
 have hB:Bm w O0 w O0:=Bm.refl
 replace b0:=b0.mono k0
 obtain ⟨A2,c3,rfl⟩:=b0.form
 refine AH Tryz.func43 rfl Tryz.ntmps43 rfl ?_
 unfold Da at hm
 refine Al (Aj (An rfl rfl (An rfl rfl (o_z ?_))))
 refine Al (Aj (Am rfl rfl ?_))
 obtain ⟨q4,e5,hm⟩:=bs hm
 refine BH (O:=O0) (Ny b0 2 (by decide) e5) rfl rfl fun b1 w6 O7 S8 h9=>?_
 obtain ⟨c1,d1,rfl,a0,m0⟩:=h9
 obtain ⟨rfl,n0⟩:=m0.err
 refine Am rfl rfl (AZ rfl rfl rfl (AZ rfl rfl rfl (An rfl rfl (An rfl rfl (o_z ?_)))))
 refine Al (Al (Aj (Am rfl rfl (Dy rfl rfl (fun c0=>?_) fun c0=>?_))))
 ·
  replace hm:=ip hm c0
  refine o_z ?_
  refine Ah rfl (Al (Aj (Am rfl rfl (An rfl rfl (An rfl rfl (o_z ?_))))))
  refine AG ?_
  obtain rfl:=sm hm
  replace hB:=hB.st S8
  obtain ⟨O',hS',hz,hl⟩:=hE.leave (fun _=>0) rfl hB
  exact ret2 rfl (Az rfl) (Az rfl) ⟨O',hS',_,_,rfl,rfl,(vErr n0)⟩
 replace hm:=im hm c0
 refine o_z ?_
 refine Ae rfl (AI (Al (Aj (Am rfl rfl (Pa (K:=Int) (V:=Int) 3 3 (by decide) O7 rfl fun o0 e1 p0 g0 d0=>?_)))))
 obtain ⟨q0,r0,hm⟩:=bs hm
 replace a0:=a0.st g0
 rw [r0] at a0
 obtain ⟨s0,rfl⟩:=Ob.ptr a0
 refine EC rfl rfl rfl ?_
 refine Dc 4 p0 rfl rfl fun t0 h0 i0 e0 f0=>?_
 replace f0:Lc 4 h0 i0 t0 137 [(.pointer (some ⟨s0,0,none⟩)),(.slice none 0 0),(.map (some o0))]:=f0
 refine An rfl rfl (An rfl rfl (o_z ?_))
 refine AG ?_
 have u0:Rw 5 h0 i0 144 (.slice none 0 0) ([]:List REn):=Rw.nil 5 (by decide)
 replace a0:=a0.st e0
 replace d0:=d0.st e0
 obtain ⟨f1,w0,y0,z0,a1⟩:=Reg.shut (x:=(⟨q0,([]:List REn),(⟨[]⟩:MapR 3 Int Int)⟩:Reg)) (l0:=4) (l1:=2) (l2:=5) (l3:=3) (by decide) f0 a0 u0 d0
 obtain rfl:=sm hm
 replace hB:=(((hB.st S8).st g0).st e0).st w0
 obtain ⟨O',hS',hz,hl⟩:=hE.leave (fun q=>if q=4 then j0 else 0) rfl hB
 exact ret2 rfl (Az rfl) (Az rfl) ⟨O',hS',_,_,rfl,(Ob.leave a1 hz (hl 4 (by decide) (by decide)) hj0),(vErr (show inI64 0 from by decide))⟩
noncomputable def Bq (x0:Reg) (x1:List Int):Option ((List U64)×Int×Int×Err) :=
  bnd (Bz x0.packer x1) fun q20=>if q20.2.n≠0 then (some (([]:List U64),0,(-1),(⟨2⟩:Err))) else (bnd (BT x0.packer q20.1) fun q41=>bnd (rng (ρ:=(List U64)×Int×Int×Err) (fun (k66:Nat) (a67:Int) (s64:Unit)=>bnd (atI x0.entries a67) fun a100=>bnd (BC a100.words q20.1) fun q118=>if q118=true then some (.ret (q20.1,q41,a67,(⟨0⟩:Err))) else some (.next ())) (mget ([]:List Int) x0.table.l q41) 0 ()) fun res62=>fin res62 fun (s139:Unit)=>some (q20.1,q41,(-1),(⟨0⟩:Err)))
theorem EU {w:World} {O:Lab} {p0 i0:Nat} {x0:Reg} (j0:Ob i0 w O (.pointer (some ⟨p0,0,none⟩)) x0) {vx1:Value} {x1:List Int} (u0:Vb w (Fr 0 w O) vx1 x1) {r:(List U64)×Int×Int×Err} (hm:Bq x0 x1=some r) :
    Fn Tryz.prog 83 [(.pointer (some ⟨p0,0,none⟩)),vx1] w fun v w'=>∃ O',St (eT i0) w O w' O'∧∃ v0 v1 v2 v3:Value,Ob i0 w' O' (.pointer (some ⟨p0,0,none⟩)) x0∧v=.tuple #[v0,v1,v2,v3]∧Vb w' (Fr 0 w' O') v0 r.1∧Vb w' (Fr 0 w' O') v1 r.2.1∧Vb w' (Fr 0 w' O') v2 r.2.2.1∧Vb w' (Fr 0 w' O') v3 r.2.2.2:=by
 obtain ⟨O0,hE,n2,x2⟩:=ent1 (w:=w) (O:=O) j0.2
 have j0':=Ob.leave j0 n2 x2 (j:=2) (by decide)
 have hB:Bm w O0 w O0:=Bm.refl
 replace u0:=u0.mono n2
 obtain ⟨A3,c4,rfl⟩:=u0.form
 refine AH Tryz.func83 rfl Tryz.ntmps83 rfl ?_
 unfold Bq at hm
 refine Al (Aj (An rfl rfl (An rfl rfl (An rfl rfl (An rfl rfl (o_z ?_))))))
 refine Al (Aj (Am rfl rfl (BW rfl rfl ?_)))
 obtain ⟨O5,v9,l4,m4,S6,n4,h7,o2,k0,g0⟩:=Reg.opn j0' 2 3 4 5 (by decide)
 obtain ⟨o4,rfl⟩:=o2.ptr
 obtain ⟨p4,q4,rfl⟩:=k0.form
 obtain ⟨r4,rfl⟩:=g0.mptr
 refine AE rfl rfl (AC (hc:=Blk.cell (i:=0) (h7.1) rfl) rfl rfl ?_)
 refine Am rfl rfl ?_
 obtain ⟨w0,y2,hm⟩:=bs hm
 replace u0:=u0.st S6
 refine BH (O:=O5) (IX o2 u0 y2) rfl rfl fun s4 t4 z2 f0 a3=>?_
 obtain ⟨u4,v4,p2,rfl,c0,b3⟩:=a3
 obtain ⟨k1,m1,rfl⟩:=c0.form
 obtain ⟨rfl,w4⟩:=b3.err
 refine Am rfl rfl (AZ rfl rfl rfl (AZ rfl rfl rfl (An rfl rfl (An rfl rfl (o_z ?_)))))
 refine Al (Al (Aj (Am rfl rfl (Dy rfl rfl (fun q1=>?_) fun q1=>?_))))
 ·
  replace hm:=ip hm q1
  refine o_z ?_
  refine Ah rfl (Al (Aj (Di rfl rfl ?_)))
  refine An rfl rfl (An rfl rfl (An rfl rfl (An rfl rfl (o_z ?_))))
  refine AG ?_
  replace h7:=h7.st f0
  replace k0:=k0.st f0
  replace g0:=g0.st f0
  obtain ⟨x4,c3,d3,e3,f3⟩:=Reg.shut (x:=x0) (l0:=2) (l1:=3) (l2:=4) (l3:=5) (by decide) h7 p2 k0 g0
  obtain rfl:=sm hm
  replace hB:=((hB.st S6).st f0).st c3
  obtain ⟨O',hS',hz,hl⟩:=hE.leave (fun q=>if q=2 then i0 else 0) rfl hB
  exact ret4 rfl (Az rfl) (Az rfl) (Az rfl) (Az rfl) ⟨O',hS',_,_,_,_,(Ob.leave f3 hz (hl 2 (by decide) (by decide)) j0.2),rfl,(Vb.mono (Vb.nil _ _) hz),(vInt (show inI64 (0) from by decide)),(vInt (show inI64 (-1) from by decide)),(vErr (by decide))⟩
 replace hm:=im hm q1
 refine o_z ?_
 refine Ae rfl (AI (Al (Aj (Am rfl rfl (BW rfl rfl (AE rfl rfl ?_))))))
 replace h7:=h7.st f0
 refine AC (hc:=Blk.cell (i:=0) (h7.1) rfl) rfl rfl ?_
 refine Am rfl rfl ?_
 obtain ⟨e0,g3,hm⟩:=bs hm
 refine BH (O:=z2) (IY p2 c0 g3) rfl rfl fun y4 z4 a5 m0 h3=>?_
 obtain ⟨i3,j3⟩:=h3
 obtain ⟨rfl,q2⟩:=j3.int
 refine An rfl rfl (o_z ?_)
 refine Al (Al (Aj (Am rfl rfl (BW rfl rfl (AE rfl rfl ?_)))))
 replace h7:=h7.st m0
 refine AC (hc:=Blk.cell (i:=2) (h7.1) rfl) rfl rfl ?_
 refine Am rfl rfl ?_
 replace g0:=(g0.st f0).st m0
 obtain ⟨r2,s2,r1,d0⟩:=MapR.get g0 e0
 refine Sh e0 r1 rfl rfl rfl ?_
 refine AP rfl rfl ?_
 have s1:(mget ([]:List Int) x0.table.l e0).length≤9223372036854775807:=Nat.le_trans d0.len.2.1 d0.len.2.2
 have b5:inI64 ((mget ([]:List Int) x0.table.l e0).length:Int):=rngNat s1
 refine Am rfl rfl (o_z ?_)
 replace k0:=(k0.st f0).st m0
 obtain ⟨k3,y0,t1,u1,n0⟩:=Reg.shut (x:=x0) (l0:=2) (l1:=3) (l2:=4) (l3:=5) (by decide) h7 i3 k0 g0
 replace d0:=d0.shutS y0 t1 u1 [2] (by decide)
 obtain ⟨z0,w1,hm⟩:=bs hm
 refine AJ (aft z0 (fun (n1:Unit) (o1:Unit)=>[(8,(.slice k1 w0.1.length m1)),(10,(.int .i64 e0))]) (fun n1 o1 w'=>∃ O':Lab,Bm w O0 w' O'∧Vb w' (Fr 0 w' O') (.slice k1 w0.1.length m1) w0.1∧Ob 2 w' O' (.pointer (some ⟨p0,0,none⟩)) x0)) ?_ ?_
 ·
  refine AM ?_
  replace hB:=(((hB.st S6).st f0).st m0).st y0
  replace c0:=(c0.st m0).st y0
  refine By (σ:=Unit) (X:=Unit) ((mget ([]:List Int) x0.table.l e0).length) w1 rfl s1 (fun (n1:Unit) (o1:Unit)=>[(0,(.pointer (some ⟨p0,0,none⟩))),(8,(.slice k1 w0.1.length m1)),(10,(.int .i64 e0)),(36,(.slice r2 (mget ([]:List Int) x0.table.l e0).length s2))]) _ (fun n1 o1 w'=>∃ O':Lab,Bm w O0 w' O'∧Ob 2 w' O' (.pointer (some ⟨p0,0,none⟩)) x0∧Vb w' (Fr 0 w' O') (.slice k1 w0.1.length m1) w0.1∧Vb w' (FrS [2] w' O') (.slice r2 (mget ([]:List Int) x0.table.l e0).length s2) (mget ([]:List Int) x0.table.l e0)) _ () ⟨k3,hB,n0,c0,d0⟩ ⟨rfl,rfl,rfl,rfl,rfl,rfl,trivial⟩ (fun _ _=>⟨rfl,rfl⟩) (fun _ _=>⟨rfl,rfl,trivial⟩) (fun _ _ _ ⟨O',hB,n0,c0,d0⟩=>⟨O',hB,c0,n0⟩) ⟨rfl,rfl,rfl⟩ ⟨rfl,rfl⟩ ?_
  rintro m3 c5 n1 o1 y1 n3 a1 ⟨d5,hB,n0,c0,d0⟩ b0 o0 z1
  have rk66:inI64 (m3:Int):=rngK a1 s1
  refine Al (Aj ?_)
  obtain ⟨e5,f5,o3,a2,b2,c2,rfl,p3⟩:=d0.elem' a1
  refine Bo (hA:=a2) (hj:=rfl) (hlt:=b2) rfl rfl rfl ?_
  refine AC (hc:=cat0 c2) rfl rfl ?_
  refine An rfl rfl (o_z ?_)
  refine Al (Aj (Am rfl rfl (BW rfl rfl ?_)))
  obtain ⟨d2,g5,h5,i5,p1,e2,q0,r0,h0,s0⟩:=Reg.opn n0 2 3 4 5 (by decide)
  obtain ⟨j5,rfl⟩:=r0.ptr
  obtain ⟨k5,l5,rfl⟩:=h0.form
  obtain ⟨m5,rfl⟩:=s0.mptr
  replace d0:=d0.opnS p1 (by decide) e2 [2,3,4,5] (by decide)
  refine AE rfl rfl (AC (hc:=Blk.cell (i:=1) (q0.1) rfl) rfl rfl ?_)
  refine Am rfl rfl ?_
  obtain ⟨q3,f2,b0⟩:=bs b0
  obtain ⟨g2,h2⟩:=AO f2
  obtain ⟨r3,s3,t2,b1,c1,d1,t3,rfl,e1,u3,w3,x3⟩:=h0.elem h2
  obtain ⟨y3,z3,rfl⟩:=e1.form
  refine Bo (hA:=b1) (hj:=(Int.toNat_of_nonneg g2).symm) (hlt:=c1) rfl rfl rfl ?_
  refine AE rfl rfl (AC (hc:=cat0 d1) rfl rfl ?_)
  refine Am rfl rfl ?_
  obtain ⟨f1,i2,b0⟩:=bs b0
  replace c0:=c0.st p1
  refine AV (O:=d2) (A:=All y1) (R:=fun w' F v=>Vb w' F v f1) (FW (fun _ h=>h) (Vb.mono (F:=Fr 0 y1 d2) e1 Fr.lt) (Vb.mono (F:=Fr 0 y1 d2) c0 Fr.lt) i2) rfl rfl fun a4 b4 d4 a0 j2=>?_
  obtain rfl:=j2.bool
  replace d0:=d0.stS a0 id (fun _ _=>id)
  cases f1
  case false =>
   replace b0:=iF b0
   refine o_z ?_
   refine Ae rfl (AI ?_)
   replace q0:=q0.st a0
   replace r0:=r0.st a0
   replace h0:=h0.st a0
   replace s0:=s0.st a0
   obtain ⟨e4,t0,g1,h1,k2⟩:=Reg.shut (x:=x0) (l0:=2) (l1:=3) (l2:=4) (l3:=5) (by decide) q0 r0 h0 s0
   replace d0:=d0.shutS t0 g1 h1 [2] (by decide)
   obtain rfl:=sm b0
   exact show Exists _ from ⟨_,(),rfl,⟨rfl,rfl,rfl,rfl,rfl,rfl,trivial⟩,_,((hB.st p1).st a0).st t0,k2,(c0.st a0).st t0,d0⟩
  replace b0:=iT b0
  refine o_z ?_
  refine Ah rfl (Al (Aj (Am rfl rfl (Am rfl rfl (Am rfl rfl (An rfl rfl (An rfl rfl (An rfl rfl (An rfl rfl (o_z ?_))))))))))
  refine AG ?_
  replace q0:=q0.st a0
  replace r0:=r0.st a0
  replace h0:=h0.st a0
  replace s0:=s0.st a0
  obtain ⟨f4,i1,u2,w2,m2⟩:=Reg.shut (x:=x0) (l0:=2) (l1:=3) (l2:=4) (l3:=5) (by decide) q0 r0 h0 s0
  obtain rfl:=sm b0
  obtain rfl:=o0 _ rfl
  obtain rfl:=sm (CB hm)
  replace hB:=((hB.st p1).st a0).st i1
  obtain ⟨O',hS',hz,hl⟩:=hE.leave (fun q=>if q=2 then i0 else 0) rfl hB
  replace c0:=(c0.st a0).st i1
  exact ret4 rfl (Az rfl) (Az rfl) (Az rfl) (Az rfl) ⟨O',hS',_,_,_,_,(Ob.leave m2 hz (hl 2 (by decide) (by decide)) j0.2),rfl,(Vb.mono c0 hz),(vInt q2),(vInt p3),(vErr (show inI64 0 from by decide))⟩
 replace hB:=(((hB.st S6).st f0).st m0).st y0
 replace c0:=(c0.st m0).st y0
 rintro g4 h4 ⟨i4,j4,rfl,j1,k4,hB,c0,n0⟩
 replace hm:=AX hm
 refine AN _ j1 ?_
 refine Al (Aj (Am rfl rfl (Am rfl rfl (An rfl rfl (An rfl rfl (An rfl rfl (An rfl rfl (o_z ?_))))))))
 refine AG ?_
 obtain rfl:=sm hm
 obtain ⟨O',hS',hz,hl⟩:=hE.leave (fun q=>if q=2 then i0 else 0) rfl hB
 exact ret4 rfl (Az rfl) (Az rfl) (Az rfl) (Az rfl) ⟨O',hS',_,_,_,_,(Ob.leave n0 hz (hl 2 (by decide) (by decide)) j0.2),rfl,(Vb.mono c0 hz),(vInt q2),(vInt (show inI64 (-1) from by decide)),(vErr (show inI64 0 from by decide))⟩
noncomputable def Bt (x0:Reg) (x1:List Int):Option (Int×Bool×Err×Reg) :=
  bnd (Bq x0 x1) fun q5=>if q5.2.2.2.n≠0 then (some (0,false,(⟨q5.2.2.2.n⟩:Err),x0)) else (if 0≤q5.2.2.1 then (some (q5.2.2.1,false,(⟨0⟩:Err),x0)) else (if 65536≤(x0.entries.length:Int) then (some (0,false,(⟨10⟩:Err),x0)) else (bnd (appI 48 x0.entries [(⟨q5.1,(⟨(-1),(-1),0⟩:RLk)⟩:REn)]) fun u53=>bnd (appI 8 (mget ([]:List Int) x0.table.l q5.2.1) ([(x0.entries.length:Int)]:List Int)) fun u82=>some ((x0.entries.length:Int),true,(⟨0⟩:Err),(⟨x0.packer,u53,(⟨mput x0.table.l q5.2.1 u82⟩:MapR 3 Int Int)⟩:Reg)))))
theorem Fi {w:World} {O:Lab} {p0 i0:Nat} {x0:Reg} (d0:Ob i0 w O (.pointer (some ⟨p0,0,none⟩)) x0) {vx1:Value} {x1:List Int} (k0:Vb w (Fr 0 w O) vx1 x1) {r:Int×Bool×Err×Reg} (hm:Bt x0 x1=some r) :
    Fn Tryz.prog 44 [(.pointer (some ⟨p0,0,none⟩)),vx1] w fun v w'=>∃ O',St (eT i0) w O w' O'∧∃ v0 v1 v2:Value,Ob i0 w' O' (.pointer (some ⟨p0,0,none⟩)) r.2.2.2∧v=.tuple #[v0,v1,v2]∧Vb w' (Fr 0 w' O') v0 r.1∧Vb w' (Fr 0 w' O') v1 r.2.1∧Vb w' (Fr 0 w' O') v2 r.2.2.1:=by
 obtain ⟨O0,hE,e1,m1⟩:=ent1 (w:=w) (O:=O) d0.2
 have d0':=Ob.leave d0 e1 m1 (j:=2) (by decide)
 have hB:Bm w O0 w O0:=Bm.refl
 replace k0:=k0.mono e1
 obtain ⟨A3,c4,rfl⟩:=k0.form
 refine AH Tryz.func44 rfl Tryz.ntmps44 rfl ?_
 unfold Bt at hm
 refine Al (Aj (An rfl rfl (An rfl rfl (An rfl rfl (o_z ?_)))))
 refine Al (Al (Aj (Am rfl rfl (EQ rfl rfl ?_))))
 refine o_z ?_
 refine Ae rfl (AI (Al (Aj (Am rfl rfl (Am rfl rfl ?_)))))
 obtain ⟨q5,e6,hm⟩:=bs hm
 refine BH (O:=O0) (EU d0' k0 e6) rfl rfl fun t2 w7 O8 S9 n1=>?_
 obtain ⟨u2,w2,x2,y2,s0,rfl,m0,o1,p1,q1⟩:=n1
 obtain ⟨r1,s1,rfl⟩:=m0.form
 obtain ⟨rfl,z2⟩:=o1.int
 obtain ⟨rfl,t1⟩:=p1.int
 obtain ⟨rfl,u1⟩:=q1.err
 refine Am rfl rfl (AZ rfl rfl rfl (AZ rfl rfl rfl (AZ rfl rfl rfl (AZ rfl rfl rfl (An rfl rfl (An rfl rfl (An rfl rfl (An rfl rfl (o_z ?_)))))))))
 refine Al (AM (Al (Aj (Am rfl rfl (Dy rfl rfl (fun t0=>?_) fun t0=>?_)))))
 ·
  replace hm:=ip hm t0
  refine An rfl rfl (o_z ?_)
  refine Ah rfl (Al (Aj (Am rfl rfl (An rfl rfl (An rfl rfl (An rfl rfl (o_z ?_)))))))
  refine AG ?_
  obtain rfl:=sm hm
  replace hB:=hB.st S9
  obtain ⟨O',hS',hz,hl⟩:=hE.leave (fun q=>if q=2 then i0 else 0) rfl hB
  exact ret3 rfl (Az rfl) (Az rfl) (Az rfl) ⟨O',hS',_,_,_,(Ob.leave s0 hz (hl 2 (by decide) (by decide)) d0.2),rfl,(vInt (show inI64 (0) from by decide)),vBool,(vErr u1)⟩
 replace hm:=im hm t0
 refine An rfl rfl (o_z ?_)
 refine Ae rfl (Al (Aj (Am rfl rfl (FM rfl rfl rfl (fun u0=>?_) fun u0=>?_))))
 ·
  replace hm:=ip hm u0
  refine An rfl rfl (o_z ?_)
  refine Ah rfl (Al (Aj (Am rfl rfl (An rfl rfl (An rfl rfl (An rfl rfl (o_z ?_)))))))
  refine AG ?_
  obtain rfl:=sm hm
  replace hB:=hB.st S9
  obtain ⟨O',hS',hz,hl⟩:=hE.leave (fun q=>if q=2 then i0 else 0) rfl hB
  exact ret3 rfl (Az rfl) (Az rfl) (Az rfl) ⟨O',hS',_,_,_,(Ob.leave s0 hz (hl 2 (by decide) (by decide)) d0.2),rfl,(vInt t1),vBool,(vErr (show inI64 0 from by decide))⟩
 replace hm:=im hm u0
 refine An rfl rfl (o_z ?_)
 refine Ae rfl (Al (Aj (Am rfl rfl (BW rfl rfl ?_))))
 obtain ⟨a3,b3,c3,d3,w0,w1,a0,j0,f0,b0⟩:=Reg.opn s0 2 3 4 5 (by decide)
 obtain ⟨y1,rfl⟩:=j0.ptr
 obtain ⟨e3,f3,rfl⟩:=f0.form
 obtain ⟨z1,rfl⟩:=b0.mptr
 refine AE rfl rfl (AC (hc:=Blk.cell (i:=1) (a0.1) rfl) rfl rfl ?_)
 refine AP rfl rfl ?_
 have a2:x0.entries.length≤9223372036854775807:=Nat.le_trans f0.len.2.1 f0.len.2.2
 have g3:inI64 (x0.entries.length:Int):=rngNat a2
 refine FM rfl rfl rfl (fun y0=>?_) fun y0=>?_
 ·
  replace hm:=ip hm y0
  refine An rfl rfl (o_z ?_)
  refine Ah rfl (Al (Aj (Di rfl rfl ?_)))
  refine An rfl rfl (An rfl rfl (An rfl rfl (o_z ?_)))
  refine AG ?_
  obtain ⟨h3,b2,c2,d2,e2⟩:=Reg.shut (x:=x0) (l0:=2) (l1:=3) (l2:=4) (l3:=5) (by decide) a0 j0 f0 b0
  obtain rfl:=sm hm
  replace hB:=((hB.st S9).st w0).st b2
  obtain ⟨O',hS',hz,hl⟩:=hE.leave (fun q=>if q=2 then i0 else 0) rfl hB
  exact ret3 rfl (Az rfl) (Az rfl) (Az rfl) ⟨O',hS',_,_,_,(Ob.leave e2 hz (hl 2 (by decide) (by decide)) d0.2),rfl,(vInt (show inI64 (0) from by decide)),vBool,(vErr (by decide))⟩
 replace hm:=im hm y0
 refine An rfl rfl (o_z ?_)
 refine Ae rfl (AI (Al (Aj (Am rfl rfl (BW rfl rfl (AE rfl rfl (AC (hc:=Blk.cell (i:=1) (a0.1) rfl) rfl rfl ?_)))))))
 refine AP rfl rfl ?_
 have f2:x0.entries.length≤9223372036854775807:=Nat.le_trans f0.len.2.1 f0.len.2.2
 have f1:inI64 (x0.entries.length:Int):=rngNat f2
 refine An rfl rfl (o_z ?_)
 refine Al (Aj (Am rfl rfl (Am rfl rfl (BW rfl rfl (AE rfl rfl (AC (hc:=Blk.cell (i:=1) (a0.1) rfl) rfl rfl ?_))))))
 refine Am rfl rfl (EC rfl rfl rfl ?_)
 refine EC rfl rfl rfl ?_
 obtain ⟨g1,z0,hm⟩:=bs hm
 obtain ⟨z0,g2,h2⟩:=Cc z0
 replace m0:=m0.st w0
 refine Ed rfl (a:=(⟨q5.1,(⟨(-1),(-1),0⟩:RLk)⟩:REn)) f0 (Vb.ofAgg (cs:=[(.slice r1 q5.1.length s1),(.int .i64 (-1)),(.int .i64 (-1)),(.int .i64 0)]) (x:=(⟨q5.1,(⟨(-1),(-1),0⟩:RLk)⟩:REn)) rfl ⟨_,rfl,m0,(show inI64 (-1) from by decide),(show inI64 (-1) from by decide),(show inI64 (0) from by decide)⟩) (fun _=>rfl) rfl (by decide) (by decide) g2 h2 ⟨rfl,rfl⟩ fun i3 i2 j2 j3 a1 n0 o0=>?_
 rw [← z0] at o0 ⊢
 refine BW rfl rfl (AE rfl rfl ?_)
 replace a0:=a0.st n0
 refine Br a0 rfl rfl rfl (BN rfl) (allOne rfl) fun k2 q0 a0=>?_
 replace a0:Lc 2 k2 a1 p0 137 [(.pointer (some ⟨y1,0,none⟩)),(.slice i2 g1.length j2),(.map (some z1))]:=a0
 refine o_z ?_
 refine Al (BG [(13,[5,7])] a1 ?_)
 refine Bb (fuel:=8) [] [(5,true),(6,true),(7,true),(8,true),(9,true),(10,true),(11,true)] (by kernel_rfl) rfl ?_
 refine AK rfl rfl rfl (Cm rfl rfl rfl (AT rfl rfl rfl (AS (hc:=fun w' ⟨O',hq⟩=>Blk.cell (i:=2) ((a0.st hq (by decide)).1) rfl) rfl rfl rfl ?_)))
 refine AK rfl rfl rfl ?_
 replace b0:=(b0.st n0).st q0
 obtain ⟨k3,m3,c0,h1⟩:=MapR.get b0 q5.2.1
 refine Sj q5.2.1 (fun w' ⟨O',hq⟩=>c0.keep (hq.agree (i:=5) (by decide) _ (MapR.at b0))) rfl rfl rfl rfl ?_
 refine AK rfl rfl rfl (AL ?_)
 refine Bb (fuel:=3) [5,7] [(0,true),(1,true),(2,true),(3,true),(4,true)] (by kernel_rfl) rfl ?_
 refine AK rfl rfl rfl (Cm rfl rfl rfl (AT rfl rfl rfl (AS (hc:=fun w' ⟨O',hq⟩=>Blk.cell (i:=2) ((a0.st hq (by decide)).1) rfl) rfl rfl rfl ?_)))
 refine AK rfl rfl rfl (AL ?_)
 refine Bg (i:=12) (by kernel_rfl) rfl ?_
 refine BX 6 (by decide) a1 (xs:=(([(x0.entries.length:Int)]:List Int):List Int)) rfl rfl rfl rfl ⟨(vInt f1),trivial⟩ (by decide) (by decide) rfl fun n3 o3 p3 e0 b1=>?_
 have hZ:=e0.lst [] (fun _ h=>h.elim)
 replace c0:=c0.keep (e0.agree (i:=5) id _ (MapR.at b0))
 replace h1:=h1.stS e0 id (fun _ _=>id)
 refine BE [(13,[5,7])] hZ (by kernel_rfl) ?_
 refine Bg (i:=13) (by kernel_rfl) rfl ?_
 replace b0:=b0.st e0
 obtain ⟨q3,g0,c1,m2⟩:=MapR.take b0 c0 7 (by decide) (by decide)
 have hZ:=g0.lst [5] (fun _ h=>by cases h;decide)
 obtain ⟨n2,d1,hm⟩:=bs hm
 obtain ⟨d1,o2,p2⟩:=Cc d1
 replace b1:=b1.st g0
 refine CX rfl m2 (b1.rd) rfl rfl (by decide) o2 p2 rfl fun r3 s3 t3 u3 h0 i1=>?_
 rw [← d1] at i1 ⊢
 replace hZ:=hZ.cmp h0 [5,7] (fun _ h=>by cases h;decide) rfl
 refine BE [] hZ (by kernel_rfl) ?_
 refine Bg (i:=14) (by kernel_rfl) rfl ?_
 replace c1:=c1.st h0
 refine Qh c1 i1 (by decide) rfl rfl rfl fun v3 w3 r0 q2=>?_
 refine DI (by kernel_rfl) ?_
 refine Ck (by kernel_rfl) ?_
 refine Al (Aj (Am rfl rfl (An rfl rfl (An rfl rfl (An rfl rfl (o_z ?_))))))
 refine AG ?_
 replace a0:=(((a0.st e0).st g0).st h0).st r0
 replace j0:=(((((j0.st n0).st q0).st e0).st g0).st h0).st r0
 replace o0:=((((o0.st q0).st e0).st g0).st h0).st r0
 obtain ⟨x3,r2,j1,k1,s2⟩:=Reg.shut (x:=(⟨x0.packer,g1,(⟨mput x0.table.l q5.2.1 n2⟩:MapR 3 Int Int)⟩:Reg)) (l0:=2) (l1:=3) (l2:=4) (l3:=5) (by decide) a0 j0 o0 q2
 obtain rfl:=sm hm
 replace hB:=((((((((hB.st S9).st w0).st n0).st q0).st e0).st g0).st h0).st r0).st r2
 obtain ⟨O',hS',hz,hl⟩:=hE.leave (fun q=>if q=2 then i0 else 0) rfl hB
 exact ret3 rfl (Az rfl) (Az rfl) (Az rfl) ⟨O',hS',_,_,_,(Ob.leave s2 hz (hl 2 (by decide) (by decide)) d0.2),rfl,(vInt f1),vBool,(vErr (show inI64 0 from by decide))⟩
noncomputable def Cd (x0:Reg) (x1:Int):Option Bool :=
  bnd (if 0≤x1 then (if x1 < (x0.entries.length:Int) then (some true) else (some false)) else (some false):Option Bool) fun y3=>some y3
theorem Hl {w:World} {O:Lab} {p0 i0:Nat} {x0:Reg} (b0:Ob i0 w O (.pointer (some ⟨p0,0,none⟩)) x0) {x1:Int} (rx1:inI64 x1) {r:Bool} (hm:Cd x0 x1=some r) :
    Fn Tryz.prog 85 [(.pointer (some ⟨p0,0,none⟩)),(.int .i64 x1)] w fun v w'=>∃ O',St (eT i0) w O w' O'∧Ob i0 w' O' (.pointer (some ⟨p0,0,none⟩)) x0∧Vb w' (Fr 0 w' O') v r:=by
 obtain ⟨O0,hE,j0,k0⟩:=ent1 (w:=w) (O:=O) b0.2
 have b0':=Ob.leave b0 j0 k0 (j:=2) (by decide)
 have hB:Bm w O0 w O0:=Bm.refl
 refine AH Tryz.func85 rfl Tryz.ntmps85 rfl ?_
 unfold Cd at hm
 refine Al (Aj (An rfl rfl (o_z ?_)))
 refine Al ?_
 obtain ⟨y3,a0,hm⟩:=bs hm
 refine AJ (fun l' w'=>∃ (x6:Unit) (O':Lab),subs l' [(4,(.bool y3))]∧Bm w O0 w' O'∧Ob 2 w' O' (.pointer (some ⟨p0,0,none⟩)) x0) ?_ ?_
 ·
  refine Aj (Am rfl rfl (FM rfl rfl rfl (fun c7=>?_) fun c7=>?_))
  ·
   replace a0:=ip a0 c7
   refine Am rfl rfl (Aw rfl rfl (Am rfl rfl (Aw rfl rfl (Am rfl rfl (Aw rfl rfl (BW rfl rfl (Aw rfl rfl ?_)))))))
   obtain ⟨O8,z0,a1,b1,S9,m0,d0,e0,c0,f0⟩:=Reg.opn b0' 2 3 4 5 (by decide)
   obtain ⟨c1,rfl⟩:=e0.ptr
   obtain ⟨d1,e1,rfl⟩:=c0.form
   obtain ⟨f1,rfl⟩:=f0.mptr
   refine AE rfl rfl (Aw rfl rfl (AC (hc:=Blk.cell (i:=1) (d0.1) rfl) rfl rfl ?_))
   refine Aw rfl rfl (AP rfl rfl ?_)
   have n0:x0.entries.length≤9223372036854775807:=Nat.le_trans c0.len.2.1 c0.len.2.2
   have g1:inI64 (x0.entries.length:Int):=rngNat n0
   refine Aw rfl rfl (Dx rfl rfl rfl (fun g0=>?_) fun g0=>?_)
   ·
    replace a0:=ip a0 g0
    refine AY rfl rfl rfl (An rfl rfl (o_z ?_))
    obtain ⟨h1,o0,q0,r0,s0⟩:=Reg.shut (x:=x0) (l0:=2) (l1:=3) (l2:=4) (l3:=5) (by decide) d0 e0 c0 f0
    obtain rfl:=sm a0
    exact ⟨(),_,⟨rfl,trivial⟩,(hB.st S9).st o0,s0⟩
   replace a0:=im a0 g0
   refine AY rfl rfl rfl (An rfl rfl (o_z ?_))
   obtain ⟨i1,t0,u0,v0,w0⟩:=Reg.shut (x:=x0) (l0:=2) (l1:=3) (l2:=4) (l3:=5) (by decide) d0 e0 c0 f0
   obtain rfl:=sm a0
   exact ⟨(),_,⟨rfl,trivial⟩,(hB.st S9).st t0,w0⟩
  replace a0:=im a0 c7
  refine Am rfl rfl (At rfl rfl rfl rfl (At rfl rfl rfl rfl (At rfl rfl rfl rfl (At rfl rfl rfl rfl (At rfl rfl rfl rfl (At rfl rfl rfl rfl (At rfl rfl rfl rfl (AQ rfl rfl rfl (An rfl rfl (o_z ?_))))))))))
  obtain rfl:=sm a0
  exact ⟨(),_,⟨rfl,trivial⟩,hB,b0'⟩
 rintro j1 k1 ⟨x6,m1,h0,hB,y0⟩
 refine AN _ h0 ?_
 refine AG ?_
 obtain rfl:=sm hm
 obtain ⟨O',hS',hz,hl⟩:=hE.leave (fun q=>if q=2 then i0 else 0) rfl hB
 exact ret1v rfl (Az rfl) ⟨O',hS',(Ob.leave y0 hz (hl 2 (by decide) (by decide)) b0.2),vBool⟩
noncomputable def BF (x0:Reg) (x1:Int):Option ((List Int)×Err) :=
  bnd (Cd x0 x1) fun q3=>if q3=true then bnd (atI x0.entries x1) fun a27=>bnd (Cv x0.packer a27.words) fun q45=>some (q45.1,(⟨q45.2.n⟩:Err)) else some (([]:List Int),(⟨1⟩:Err))
theorem GI {w:World} {O:Lab} {p0 i0:Nat} {x0:Reg} (a0:Ob i0 w O (.pointer (some ⟨p0,0,none⟩)) x0) {x1:Int} (rx1:inI64 x1) {r:(List Int)×Err} (hm:BF x0 x1=some r) :
    Fn Tryz.prog 47 [(.pointer (some ⟨p0,0,none⟩)),(.int .i64 x1)] w fun v w'=>∃ O',St (eT i0) w O w' O'∧∃ v0 v1:Value,Ob i0 w' O' (.pointer (some ⟨p0,0,none⟩)) x0∧v=.tuple #[v0,v1]∧Vb w' (Fr 0 w' O') v0 r.1∧Vb w' (Fr 0 w' O') v1 r.2:=by
 obtain ⟨O0,hE,s0,t0⟩:=ent1 (w:=w) (O:=O) a0.2
 have a0':=Ob.leave a0 s0 t0 (j:=2) (by decide)
 have hB:Bm w O0 w O0:=Bm.refl
 refine AH Tryz.func47 rfl Tryz.ntmps47 rfl ?_
 unfold BF at hm
 refine Al (Aj (An rfl rfl (An rfl rfl (o_z ?_))))
 refine Al (AM (Al (Aj (Am rfl rfl (EQ rfl rfl ?_)))))
 refine An rfl rfl (o_z ?_)
 refine Ae rfl (Al (Aj (Am rfl rfl (Am rfl rfl ?_))))
 obtain ⟨q3,e4,hm⟩:=bs hm
 refine BH (O:=O0) (Hl a0' rx1 e4) rfl rfl fun v9 w5 O6 S7 h8=>?_
 obtain ⟨m0,u0⟩:=h8
 obtain rfl:=u0.bool
 cases q3
 case false =>
  replace hm:=iF hm
  refine Cq rfl rfl (An rfl rfl (o_z ?_))
  refine Ah rfl (Al (Aj (Di rfl rfl ?_)))
  refine An rfl rfl (An rfl rfl (o_z ?_))
  refine AG ?_
  obtain rfl:=sm hm
  replace hB:=hB.st S7
  obtain ⟨O',hS',hz,hl⟩:=hE.leave (fun q=>if q=2 then i0 else 0) rfl hB
  exact ret2 rfl (Az rfl) (Az rfl) ⟨O',hS',_,_,(Ob.leave m0 hz (hl 2 (by decide) (by decide)) a0.2),rfl,(Vb.mono (Vb.nil _ _) hz),(vErr (by decide))⟩
 replace hm:=iT hm
 refine Cp rfl rfl (An rfl rfl (o_z ?_))
 refine Ae rfl (AI (Al ?_))
 obtain ⟨n0,m1,n1,o1,w0,y0,b0,o0,c0,e0⟩:=Reg.opn m0 2 3 4 5 (by decide)
 obtain ⟨p1,rfl⟩:=o0.ptr
 obtain ⟨q1,r1,rfl⟩:=c0.form
 obtain ⟨s1,rfl⟩:=e0.mptr
 refine BG [(12,[3])] n0 ?_
 refine Bb (fuel:=5) [] [(0,true),(1,true),(2,true),(3,true),(4,true),(5,true),(6,true),(7,true),(8,true),(9,true),(10,true),(11,true)] (by kernel_rfl) rfl ?_
 refine AK rfl rfl rfl (Cm rfl rfl rfl (AT rfl rfl rfl (AS (hc:=fun w' ⟨O',hq⟩=>Blk.cell (i:=0) ((b0.st hq (by decide)).1) rfl) rfl rfl rfl ?_)))
 refine AK rfl rfl rfl (Cm rfl rfl rfl (AT rfl rfl rfl (AS (hc:=fun w' ⟨O',hq⟩=>Blk.cell (i:=1) ((b0.st hq (by decide)).1) rfl) rfl rfl rfl ?_)))
 refine AK rfl rfl rfl ?_
 obtain ⟨t1,z0,hm⟩:=bs hm
 obtain ⟨a1,b1⟩:=AO z0
 obtain ⟨u1,w1,c1,g0,h0,j0,k0,y1,rfl,q0,z1,a2,b2⟩:=c0.elemF b1
 obtain ⟨c2,d2,rfl⟩:=q0.form
 refine BU (hA:=g0) (hj:=(Int.toNat_of_nonneg a1).symm) (hlt:=j0) rfl rfl rfl rfl ?_
 refine AT rfl rfl rfl (AS (hc:=fun w' ⟨O',hq⟩=>cat0 (Bh (hq.agree (i:=4) (by decide)) h0 k0)) rfl rfl rfl ?_)
 refine AL ?_
 refine Bg (i:=12) (by kernel_rfl) rfl ?_
 obtain ⟨e2,d1,hm⟩:=bs hm
 refine BH (O:=n0) (Ic o0 q0 d1) rfl rfl fun f2 g2 h2 d0 e1=>?_
 obtain ⟨i2,j2,f1,rfl,f0,g1⟩:=e1
 obtain ⟨k2,m2,rfl⟩:=f0.form
 obtain ⟨rfl,h1⟩:=g1.err
 have hZ:=d0.lst [3] (fun _ h=>by cases h;decide)
 refine BE [] hZ (by kernel_rfl) ?_
 refine Bb (fuel:=0) [] [(13,true),(14,true),(15,true),(16,true)] (by kernel_rfl) rfl ?_
 refine QH rfl rfl rfl rfl (QH rfl rfl rfl rfl (Ek rfl rfl rfl (Ek rfl rfl rfl (AL ?_))))
 refine Ck (by kernel_rfl) ?_
 refine AG ?_
 replace b0:=b0.st d0
 replace c0:=c0.st d0
 replace e0:=e0.st d0
 obtain ⟨n2,r0,i1,j1,k1⟩:=Reg.shut (x:=x0) (l0:=2) (l1:=3) (l2:=4) (l3:=5) (by decide) b0 f1 c0 e0
 obtain rfl:=sm hm
 replace hB:=(((hB.st S7).st w0).st d0).st r0
 obtain ⟨O',hS',hz,hl⟩:=hE.leave (fun q=>if q=2 then i0 else 0) rfl hB
 replace f0:=f0.st r0
 exact ret2 rfl (Az rfl) (Az rfl) ⟨O',hS',_,_,(Ob.leave k1 hz (hl 2 (by decide) (by decide)) a0.2),rfl,(Vb.mono f0 hz),(vErr h1)⟩
end
section
open Go Go.RowKit
attribute [local irreducible] ewp owp hwp hwq hws Ev Evg Fn retPost loud loudS Res1
attribute [local irreducible] hwx loudX
def Bj (xs:List Fct):Option (List Fct):=if xs.length * 16≤140737488355328∧xs.length≤9223372036854775807 then some xs else none
theorem BD {w:World} {A:Nat→Prop} (hA:∀ k,A k→k < w.heap.size) {v0:Value} {x0:List Fct} (h0:Vb w A v0 x0) {r:List Fct} (hm:Bj x0=some r) :
    Fn Tryz.prog 84 [v0] w fun v w'=>Ext w w'∧RowR w w' (upA A w w') 123 v r:=by
  obtain ⟨⟨hl,a0⟩,rfl⟩:=Fy hm
  obtain ⟨O,hB,b0⟩:=enter hA
  replace h0:=h0.mono b0
  obtain ⟨Ad,c,rfl⟩:=h0.form
  refine AH Tryz.func84 rfl Tryz.ntmps84 rfl ?_
  cases Ad with
  | none =>
    have hx:x0=[]:=by
      cases x0 with
      | nil=>rfl
      | cons x xs=>obtain ⟨_,_,_,h,_⟩:=h0.elem (k:=0) (x:=x) rfl;cases h
    subst hx
    ((repeat (first|refine Au ?_|refine Ah rfl ?_|refine Ae rfl ?_))<;>(refine An rfl rfl ?_<;>(refine o_z ?_))<;>(repeat (first|refine Au ?_|refine Ah rfl ?_|refine Ae rfl ?_))<;>(refine Am rfl rfl ?_<;>refine Hv rfl rfl ?_<;>(refine o_z ?_))<;>(repeat (first|refine Au ?_|refine Ah rfl ?_|refine Ae rfl ?_))<;>(refine An rfl rfl ?_<;>(refine o_z ?_))<;>(repeat (first|refine Au ?_|refine Ah rfl ?_|refine Ae rfl ?_)))
    exact ret1 rfl rfl ⟨Below.refl _ _,RowR.nil⟩
  | some ad =>
    ((repeat (first|refine Au ?_|refine Ah rfl ?_|refine Ae rfl ?_))<;>(refine An rfl rfl ?_<;>(refine o_z ?_))<;>(repeat (first|refine Au ?_|refine Ah rfl ?_|refine Ae rfl ?_))<;>(refine Am rfl rfl ?_<;>refine Hv rfl rfl ?_<;>(refine o_z ?_))<;>(repeat (first|refine Au ?_|refine Ah rfl ?_|refine Ae rfl ?_)))
    refine BX 2 (by decide) O (xs:=([]:List Fct)) rfl rfl rfl rfl trivial (by decide) (by decide) rfl fun g w1 O1 S1 h1=>?_
    replace hB:=hB.st S1 (fun h=>h) (fun h=>h)
    replace h0:=h0.st S1 (fun h=>h)
    (refine Am rfl rfl ?_)
    refine CX rfl h1 h0.rd rfl rfl (by decide) (by simpa using hl) (by simpa using a0) rfl fun A2 c2 w2 O2 S2 h2=>?_
    replace hB:=hB.st S2 (by decide) (by decide)
    rw [List.nil_append] at h2 ⊢
    (refine An rfl rfl ?_<;>(refine o_z ?_))
    repeat (first|refine Au ?_|refine Ah rfl ?_|refine Ae rfl ?_)
    exact ret1 rfl rfl ⟨hB.ext,h2.out hB (by decide)⟩
end
end Go.Proofs.YtkbmbcblgdgjlaaGreat

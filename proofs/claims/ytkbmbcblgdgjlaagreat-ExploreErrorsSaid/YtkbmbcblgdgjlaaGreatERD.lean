/- Own text: what the proof of exploreErrors_holds uses, part 4: rules, models and their proofs, plain laws. -/
import Derived.Test.YtkbmbcblgdgjlaaGreatERC
set_option linter.unusedVariables false
set_option linter.unusedSimpArgs false
namespace Go.Proofs.YtkbmbcblgdgjlaaGreat
open Go Go.RowKit
section
open Go Go.RowKit
structure Raw (a:Bool) (n:Nat) where
  cs:List Value
  len:cs.length=n
  one:∀ u∈cs,u.oneCell'=true
instance {a:Bool} {n:Nat}:Rp (Raw a n) where
  isAgg:=a
  size:=n
  R _ _ cs x:=cs=x.cs
  len:=by rintro _ _ cs x rfl;exact x.len
  one:=by rintro _ _ cs x rfl;exact x.one
  agree:=by rintro _ _ _ cs x rfl _;rfl
  mono:=by rintro _ _ _ cs x rfl _;rfl
class NestAt (α β:Type) [Rp α] [Rp β] where
  q:Nat
  get:α→List β
  put:α→List β→α
  get_put:∀ x y,get (put x y)=y
  put_put:∀ x y z,put (put x y) z=put x z
  split:∀ {w F cs x},Rp.R w F cs x→Rp.R w F (cs.set q (.slice none 0 0)) (put x [])∧∃ v,cs[q]?=some v∧Vb w F v (get x)
  join:∀ {w F cs x v},Rp.R w F (cs.set q (.slice none 0 0)) (put x [])→cs[q]?=some v→Vb w F v (get x)→Rp.R w F cs x
def Nest {α β:Type} [Rp α] [Rp β] [N:NestAt α β] {a:Bool} {n:Nat} (j:Nat) (w:World) (O:Lab) (e:TypeId) (rs:List (Raw a n)) (xs:List α) (skip:Option Nat):Prop :=
  (∃ L:Lab,rs.length=xs.length∧∀ (k:Nat) (r:Raw a n) (x:α),rs[k]?=some r→xs[k]?=some x →
    Rp.R w (Fr 0 w O) (r.cs.set N.q (.slice none 0 0)) (N.put x [])∧(skip≠some k→∃ v,r.cs[N.q]?=some v∧RwM w (Fr 0 w O) (fun b=>Fr j w O b∧L b=k) e v (N.get x)))∧j≠0
section
variable {α β : Type} [Rp α] [Rp β] [N : NestAt α β] {a : Bool} {n i j l : Nat} {T : Nat → Prop} {w w' : World} {O O' : Lab} {e : TypeId} {rs : List (Raw a n)} {xs : List α} {skip : Option Nat}
theorem Nest.st (h:Nest (β:=β) j w O e rs xs skip) (hS:St T w O w' O') (h0:¬ T 0:=by decide) (hj:¬ T j:=by decide):Nest (β:=β) j w' O' e rs xs skip:=by
  obtain ⟨⟨L,hl,hr⟩,h1⟩:=h
  refine ⟨⟨L,hl,fun k r x g1 g2=>⟨Rp.mono (Rp.agree (hr k r x g1 g2).1 (hS.agree h0)) (hS.fr h0),fun g3=>?_⟩⟩,h1⟩
  obtain ⟨v,hv,hm⟩:=(hr k r x g1 g2).2 g3
  exact ⟨v,hv,(hm.agree (hS.agree h0) fun b hb=>hS.agree hj b hb.1).mono (hS.fr h0) (fun b hb=>⟨hS.fr hj b hb.1,hb.2⟩) fun b hf hm=>frNe0 h1 b hf hm.1⟩
theorem Nest.take (h:Nest (β:=β) j w O e rs xs none) {k:Nat} {r:Raw a n} {x:α} (hr:rs[k]?=some r) (hx:xs[k]?=some x) (l:Nat) (hl:l≠0) (hlj:l≠j) :
    ∃ O' v,St (eT j) w O w O'∧r.cs[N.q]?=some v∧Nest (β:=β) j w O' e rs xs (some k)∧Rw l w O' e v (N.get x):=by
  obtain ⟨⟨L,hlen,hra⟩,hj⟩:=h
  obtain ⟨v,hv,hm⟩:=(hra k r x hr hx).2 (by simp)
  have hF:∀ b,Fr 0 w O b→Fr 0 w (fun b=>if O b=j∧L b=k then l else O b) b:=fun b hb=>⟨hb.1,by show (if _ then _ else _)=_;rw [if_neg (by rw [hb.2];exact fun h=>hj h.1.symm)];exact hb.2⟩
  refine ⟨fun b=>if O b=j∧L b=k then l else O b,v,⟨rfl,rfl,rfl,Nat.le_refl _,fun b _ hb=>⟨rfl,if_neg fun h=>hb h.1⟩⟩,hv,⟨⟨L,hlen,fun k' r' x' g1 g2=>⟨Rp.mono (hra k' r' x' g1 g2).1 hF,fun g3=>?_⟩⟩,hj⟩,hm.rw hF (fun b hb=>⟨hb.1.1,if_pos ⟨hb.1.2,hb.2⟩⟩) hl⟩
  obtain ⟨v',hv',hm'⟩:=(hra k' r' x' g1 g2).2 (by simp)
  refine ⟨v',hv',hm'.mono hF (fun b hb=>?_) fun b hf hm=>frNe0 hj b hf hm.1⟩
  have hne:¬ (O b=j∧L b=k):=fun h=>g3 (by rw [← h.2,hb.2])
  exact ⟨⟨hb.1.1,by show (if _ then _ else _)=_;rw [if_neg hne];exact hb.1.2⟩,hb.2⟩
theorem Nest.put {k:Nat} (h:Nest (β:=β) j w O e rs xs (some k)) {r r':Raw a n} {x:α} {v:Value} {ys:List β} (hr:rs[k]?=some r) (hx:xs[k]?=some x) (hr':r'.cs=r.cs.set N.q v) (hq:N.q < n) (hw:Rw l w O e v ys) (hlj:l≠j) :
    ∃ O',St (eT l) w O w O'∧Nest (β:=β) j w O' e (rs.set k r') (xs.set k (N.put x ys)) none:=by
  obtain ⟨⟨L,hlen,hra⟩,hj⟩:=h
  have hl0:l≠0:=hw.2.2
  have hF:∀ b,Fr 0 w O b→Fr 0 w (fun b=>if O b=l then j else O b) b:=fun b hb=>⟨hb.1,by show (if _ then _ else _)=_;rw [if_neg (by rw [hb.2];exact Ne.symm hl0)];exact hb.2⟩
  refine ⟨fun b=>if O b=l then j else O b,⟨rfl,rfl,rfl,Nat.le_refl _,fun b _ hb=>⟨rfl,if_neg hb⟩⟩,⟨fun b=>if O b=l then k else L b,by simp [hlen],fun k' r2 x2 g1 g2=>?_⟩,hj⟩
  by_cases hk:k'=k
  · subst hk
    rw [List.getElem?_set_self (AD hr)] at g1
    rw [List.getElem?_set_self (AD hx)] at g2
    have e1:r'=r2:=by simpa using g1
    have e2:N.put x ys=x2:=by simpa using g2
    subst e1 e2
    refine ⟨?_,fun _=>⟨v,?_,?_⟩⟩
    · rw [hr',List.set_set,N.put_put];exact Rp.mono (hra k' r x hr hx).1 hF
    · rw [hr',List.getElem?_set_self (by rw [r.len];exact hq)]
    · rw [N.get_put]
      have h1:RwM w (Fr 0 w O) (Fr l w O) e v ys:=hw.m (fun _ h=>h) (fun _ h=>h) (frNe0 hl0)
      exact h1.mono hF (fun b hb=>⟨⟨hb.1,if_pos hb.2⟩,if_pos hb.2⟩) fun b hf hm=>frNe0 hj b hf hm.1
  · rw [List.getElem?_set_ne (Ne.symm hk)] at g1 g2
    refine ⟨Rp.mono (hra k' r2 x2 g1 g2).1 hF,fun _=>?_⟩
    obtain ⟨v',hv',hm⟩:=(hra k' r2 x2 g1 g2).2 (fun h=>hk (Option.some.inj h).symm)
    refine ⟨v',hv',hm.mono hF (fun b hb=>?_) fun b hf hm=>frNe0 hj b hf hm.1⟩
    have hb':O b≠l:=by rw [hb.1.2];exact Ne.symm hlj
    exact ⟨⟨hb.1.1,by show (if _ then _ else _)=_;rw [if_neg hb'];exact hb.1.2⟩,by show (if _ then _ else _)=_;rw [if_neg hb'];exact hb.2⟩
theorem Chunks.conv {γ δ:Type} [Rp γ] [Rp δ] {F G:Nat→Prop}:∀ {rs:List γ} {xs:List δ} {cells:List Value},rs.length=xs.length→(∀ (k:Nat) r x cs,rs[k]?=some r→xs[k]?=some x→Rp.R w F cs r→Rp.R w G cs x)→Chunks w F cells rs→Chunks w G cells xs
  | [],[],_,_,_,h=>h
  | [],_ :: _,_,hl,_,_=>by simp at hl
  | _ :: _,[],_,hl,_,_=>by simp at hl
  | r :: rs,x :: xs,_,hl,hc,⟨cs,rest,he,hr,h⟩ =>
    ⟨cs,rest,he,hc 0 r x cs rfl rfl hr,Chunks.conv (by simpa using hl) (fun k r x cs g1 g2=>hc (k + 1) r x cs (by simpa using g1) (by simpa using g2)) h⟩
theorem Nest.lend {e':TypeId} {v:Value} (hR:Rw i w O e' v rs) (h:Nest (β:=β) j w O e rs xs none):Vb w (FrS [i,j] w O) v xs:=by
  obtain ⟨⟨L,hl,hra⟩,hj⟩:=h
  obtain ⟨A,c,cells,h1,h2,h3,h4,h5⟩:=hR.1.vb.slice
  refine .of_slice ⟨A,c,cells,by rw [h1,hl],by omega,h3,?_,fun hp=>?_⟩
  · refine h4.conv hl fun k r x cs g1 g2 g3=>?_
    have g3':cs=r.cs:=g3
    subst g3'
    obtain ⟨q1,q2⟩:=hra k r x g1 g2
    obtain ⟨v',hv',hm⟩:=q2 (by simp)
    refine N.join (Rp.mono q1 fun b hb=>⟨hb.1,.inl hb.2⟩) hv' (hm.1.vb.mono fun b hb=>?_)
    rcases hb with hb|hb
    · exact ⟨hb.1,.inl hb.2⟩
    · have:=(hm.2 b hb).1;exact ⟨this.1,.inr (by rw [this.2];simp)⟩
  · obtain ⟨b,o,h6,h7,h8⟩:=h5 (by omega)
    refine ⟨b,o,h6,?_,h8⟩
    rcases h7 with h7|h7
    · exact ⟨h7.1,.inl h7.2⟩
    · exact ⟨(hR.1.lt b h7).2,.inr (by rw [hR.2.1 b h7];simp)⟩
end
instance {β:Type} [Rp β]:NestAt (List β) β where
  q:=0
  get x:=x
  put _ y:=y
  get_put _ _:=rfl
  put_put _ _ _:=rfl
  split:=by
    intro w F cs x h
    have hl:=Rp.len h
    match cs,hl,h with
    | [v],_,h=>exact ⟨(Vb.nil w F).cells1,v,rfl,by unfold Vb;exact h⟩
  join:=by
    intro w F cs x v h hv hx
    have hl:=Rp.len h
    rw [List.length_set] at hl
    match cs,hl,hv with
    | [u],_,hv =>
      obtain rfl:u=v:=by simpa using hv
      exact hx.cells1
def NR {α:Type} (β:Type) [Rp α] [Rp β] [N:NestAt α β] (i:Nat) (w:World) (O:Lab) (e' e:TypeId) (v:Value) (xs:List α) (skip:Option Nat):Prop :=
  ∃ (rs:List (Raw (Rp.isAgg α) (Rp.size α))) (L:Lab),Own w 0 (Fr 0 w O) e' v rs∧(∀ g,v.ownBlock=some g→O g=i∧L g=0)∧i≠0∧rs.length=xs.length ∧
    ∀ (k:Nat) (r:Raw (Rp.isAgg α) (Rp.size α)) (x:α),rs[k]?=some r→xs[k]?=some x →
      Rp.R w (Fr 0 w O) (r.cs.set N.q (.slice none 0 0)) (N.put x [])∧(skip≠some k→∃ u,r.cs[N.q]?=some u∧RwM w (Fr 0 w O) (fun b=>Fr i w O b∧L b=k + 1) e u (N.get x))
theorem labBound (O:Lab):∀ n:Nat,∃ b,∀ k,k < n→O k≤b
  | 0=>⟨0,fun k h=>by omega⟩
  | n + 1=>by
    obtain ⟨b,hb⟩:=labBound O n
    refine ⟨max b (O n),fun k hk=>?_⟩
    rcases Nat.lt_or_ge k n with h|h
    · have:=hb k h;omega
    · have:k=n:=by omega
      subst this;omega
theorem labFresh (O:Lab) (n a b:Nat):∃ j,j≠0∧j≠a∧j≠b∧∀ k,k < n→O k≠j:=by
  obtain ⟨c,hc⟩:=labBound O n
  exact ⟨c + a + b + 1,by omega,by omega,by omega,fun k hk=>by have:=hc k hk;omega⟩
theorem St.via {T T1 T2 T3:Nat→Prop} {w w':World} {O O1 O2 O3:Lab} {j:Nat} (h1:St T1 w O w O1) (h2:St T2 w O1 w' O2) (h3:St T3 w' O2 w' O3) (hj:∀ k,k < w.heap.size→O k≠j) (a1:∀ q,T1 q→T q) (a2:∀ q,T2 q→T q∨q=j) (a3:∀ q,T3 q→T q∨q=j):St T w O w' O3 :=
  ⟨(h3.os.trans h2.os).trans h1.os,(h3.tape.trans h2.tape).trans h1.tape,(h3.output.trans h2.output).trans h1.output,Nat.le_trans h2.size h3.size,fun k hk hT=>by
    obtain ⟨e1,e2⟩:=h1.same k hk fun h=>hT (a1 _ h)
    obtain ⟨e3,e4⟩:=h2.same k hk (by rw [e2];exact fun h=>(a2 _ h).elim hT (hj k hk))
    obtain ⟨e5,e6⟩:=h3.same k (Nat.lt_of_lt_of_le hk h2.size) (by rw [e4,e2];exact fun h=>(a3 _ h).elim hT (hj k hk))
    exact ⟨(e5.trans e3).trans e1,(e6.trans e4).trans e2⟩⟩
section
variable {α β : Type} [Rp α] [Rp β] [N : NestAt α β] {i j l : Nat} {T : Nat → Prop} {w w' : World} {O O' : Lab} {e' e : TypeId} {v : Value} {xs : List α} {skip : Option Nat}
theorem NR.opn (h:NR β i w O e' e v xs skip) (j:Nat) (hj:j≠0) (hji:j≠i):∃ (rs:List (Raw (Rp.isAgg α) (Rp.size α))) (O1:Lab),St (eT i) w O w O1∧Rw i w O1 e' v rs∧Nest (β:=β) j w O1 e rs xs skip:=by
  obtain ⟨rs,L,h1,h2,h3,h4,h5⟩:=h
  have hF:∀ b,Fr 0 w O b→Fr 0 w (fun b=>if O b=i∧L b≠0 then j else O b) b:=fun b hb=>⟨hb.1,by show (if _ then _ else _)=_;rw [if_neg (by rw [hb.2];exact fun h=>h3 h.1.symm)];exact hb.2⟩
  refine ⟨rs,fun b=>if O b=i∧L b≠0 then j else O b,⟨rfl,rfl,rfl,Nat.le_refl _,fun b _ hb=>⟨rfl,if_neg fun h=>hb h.1⟩⟩,⟨h1.mono hF fun g hg hf=>?_,fun g hg=>?_,h3⟩,⟨fun b=>L b - 1,h4,fun k r x g1 g2=>⟨Rp.mono (h5 k r x g1 g2).1 hF,fun g3=>?_⟩⟩,hj⟩
  · have h8:(if O g=i∧L g≠0 then j else O g)=0:=hf.2
    rw [if_neg (fun h=>h.2 (h2 g hg).2),(h2 g hg).1] at h8
    exact h3 h8
  · show (if O g=i∧L g≠0 then j else O g)=i
    rw [if_neg (fun h=>h.2 (h2 g hg).2)];exact (h2 g hg).1
  · obtain ⟨u,hu,hm⟩:=(h5 k r x g1 g2).2 g3
    refine ⟨u,hu,hm.mono hF (fun b hb=>⟨⟨hb.1.1,?_⟩,?_⟩) fun b hf hm=>frNe0 hj b hf hm.1⟩
    · show (if O b=i∧L b≠0 then j else O b)=j
      rw [if_pos ⟨hb.1.2,by have:=hb.2;omega⟩]
    · show L b - 1=k
      have:=hb.2;omega
theorem NR.shut {rs:List (Raw (Rp.isAgg α) (Rp.size α))} (hR:Rw i w O e' v rs) (hN:Nest (β:=β) j w O e rs xs skip) (hji:j≠i):∃ O1,St (eT j) w O w O1∧NR β i w O1 e' e v xs skip:=by
  obtain ⟨⟨L,h4,h5⟩,hj⟩:=hN
  obtain ⟨h1,h2,h3⟩:=hR
  have hF:∀ b,Fr 0 w O b→Fr 0 w (fun b=>if O b=j then i else O b) b:=fun b hb=>⟨hb.1,by show (if _ then _ else _)=_;rw [if_neg (by rw [hb.2];exact Ne.symm hj)];exact hb.2⟩
  have hi:∀ g,v.ownBlock=some g→(if O g=j then i else O g)=i:=fun g hg=>by
    split
    · rfl
    · exact h2 g hg
  refine ⟨fun b=>if O b=j then i else O b,⟨rfl,rfl,rfl,Nat.le_refl _,fun b _ hb=>⟨rfl,if_neg hb⟩⟩,rs,fun b=>if O b=j then L b + 1 else 0,h1.mono hF fun g hg hf=>h3 (((hi g hg).symm.trans hf.2)),fun g hg=>⟨hi g hg,?_⟩,h3,h4,fun k r x g1 g2=>⟨Rp.mono (h5 k r x g1 g2).1 hF,fun g3=>?_⟩⟩
  · show (if O g=j then L g + 1 else 0)=0
    rw [if_neg (by rw [h2 g hg];exact Ne.symm hji)]
  · obtain ⟨u,hu,hm⟩:=(h5 k r x g1 g2).2 g3
    refine ⟨u,hu,hm.mono hF (fun b hb=>⟨⟨hb.1.1,if_pos hb.1.2⟩,?_⟩) fun b hf hm=>frNe0 h3 b hf hm.1⟩
    show (if O b=j then L b + 1 else 0)=k + 1
    rw [if_pos hb.1.2,hb.2]
theorem NR.st (h:NR β i w O e' e v xs skip) (hS:St T w O w' O') (h0:¬ T 0:=by decide) (hi:¬ T i:=by decide):NR β i w' O' e' e v xs skip:=by
  obtain ⟨rs,L,h1,h2,h3,h4,h5⟩:=h
  have hR:Rw i w' O' e' v rs:=Rw.st (O:=O) ⟨h1,fun g hg=>(h2 g hg).1,h3⟩ hS h0 hi
  refine ⟨rs,L,hR.1,fun g hg=>⟨hR.2.1 g hg,(h2 g hg).2⟩,h3,h4,fun k r x g1 g2=>⟨Rp.mono (Rp.agree (h5 k r x g1 g2).1 (hS.agree h0)) (hS.fr h0),fun g3=>?_⟩⟩
  obtain ⟨u,hu,hm⟩:=(h5 k r x g1 g2).2 g3
  exact ⟨u,hu,(hm.agree (hS.agree h0) fun b hb=>hS.agree hi b hb.1).mono (hS.fr h0) (fun b hb=>⟨hS.fr hi b hb.1,hb.2⟩) fun b hf hm=>frNe0 h3 b hf hm.1⟩
theorem NR.lend (h:NR β i w O e' e v xs none):Vb w (FrS [i] w O) v xs:=by
  obtain ⟨j,hj,hji,_,hf⟩:=labFresh O w.heap.size i 0
  obtain ⟨rs,O1,hS,hR,hN⟩:=h.opn j hj hji
  refine (Nest.lend hR hN).mono fun k hk=>⟨hk.1,?_⟩
  by_cases hi:O k=i
  · exact .inr (by rw [hi];simp)
  · have:=(hS.same k hk.1 hi).2
    rcases hk.2 with h0|h0
    · exact .inl (this.symm.trans h0)
    · rw [this] at h0
      rcases List.mem_cons.1 h0 with h0|h0
      · exact (hi h0).elim
      · exact (hf k hk.1 (by simpa using h0)).elim
theorem NR.freeze (h:NR β i w O e' e v xs none):∃ O',St (eT i) w O w O'∧Vb w (Fr 0 w O') v xs:=by
  refine ⟨fun k=>if O k=i then 0 else O k,⟨rfl,rfl,rfl,Nat.le_refl _,fun k _ hk=>⟨rfl,if_neg hk⟩⟩,h.lend.mono fun k hk=>⟨hk.1,?_⟩⟩
  show (if _ then _ else _)=_
  rcases hk.2 with h0|h0
  · split
    · rfl
    · exact h0
  · rw [if_pos (by simpa using h0)]
theorem NR.at {A:Option Addr} {m c:Nat} (h:NR β i w O e' e (.slice A m c) xs skip) {k:Nat} {x:α} (hx:xs[k]?=some x):∃ b o,A=some ⟨b,o,none⟩∧k < m:=by
  obtain ⟨rs,L,h1,h2,h3,h4,h5⟩:=h
  have hk:k < rs.length:=by rw [h4];exact AD hx
  obtain ⟨b,o,cs,h6,h7,_⟩:=Rw.elem (i:=i) (O:=O) ⟨h1,fun g hg=>(h2 g hg).1,h3⟩ (List.getElem?_eq_getElem hk)
  exact ⟨b,o,h6,h7⟩
theorem NR.peek {A:Option Addr} {m c b o:Nat} (h:NR β i w O e' e (.slice A m c) xs none) (hA:A=some ⟨b,o,none⟩) {k:Nat} {x:α} (hx:xs[k]?=some x) :
    ∃ (A':Option Addr) (c':Nat),w.cell? ⟨b,o + k * Rp.size α + N.q,none⟩=some (.slice A' (N.get x).length c')∧Vb w (FrS [i] w O) (.slice A' (N.get x).length c') (N.get x):=by
  obtain ⟨rs,L,h1,h2,h3,h4,h5⟩:=h
  have hk:k < rs.length:=by rw [h4];exact AD hx
  have hr:rs[k]?=some rs[k]:=List.getElem?_eq_getElem hk
  obtain ⟨b',o',cs,h6,h7,h8,h9⟩:=Rw.elem (i:=i) (O:=O) ⟨h1,fun g hg=>(h2 g hg).1,h3⟩ hr
  obtain ⟨rfl,rfl⟩:b=b'∧o=o':=by rw [hA] at h6;injection h6 with h6;injection h6 with h6 h7;exact ⟨h6,h7⟩
  have h9':cs=rs[k].cs:=h9
  subst h9'
  obtain ⟨u,hu,hm⟩:=(h5 k rs[k] x hr hx).2 (by simp)
  obtain ⟨A',c',_,rfl,_⟩:=hm.1.chunk
  refine ⟨A',c',EJ h8 _ _ hu,hm.1.vb.mono fun g hg=>?_⟩
  rcases hg with hg|hg
  · exact ⟨hg.1,.inl hg.2⟩
  · have:=(hm.2 g hg).1;exact ⟨this.1,.inr (by rw [this.2];simp)⟩
theorem NR.stay {A:Option Addr} {m c b o p:Nat} {u:Value} (h:NR β i w O e' e (.slice A m c) xs skip) (hA:A=some ⟨b,o,none⟩) (hS:St T w O w' O') (hi:¬ T i) (hc:w.cell? ⟨b,p,none⟩=some u):w'.cell? ⟨b,p,none⟩=some u:=by
  obtain ⟨rs,L,h1,h2,h3,h4,h5⟩:=h
  subst hA
  have:=hS.same b (h1.lt b rfl).2 (by rw [(h2 b rfl).1];exact hi)
  rw [← hc]
  unfold World.cell?
  rw [this.1]
theorem NR.take {A:Option Addr} {m c b o:Nat} (h:NR β i w O e' e (.slice A m c) xs none) (hA:A=some ⟨b,o,none⟩) {k:Nat} {x:α} (hx:xs[k]?=some x) (l:Nat) (hl:l≠0) (hli:l≠i) :
    ∃ (O':Lab) (A':Option Addr) (c':Nat),St (eT i) w O w O'∧w.cell? ⟨b,o + k * Rp.size α + N.q,none⟩=some (.slice A' (N.get x).length c')∧NR β i w O' e' e (.slice A m c) xs (some k)∧Rw l w O' e (.slice A' (N.get x).length c') (N.get x):=by
  obtain ⟨j,hj,hji,hjl,hf⟩:=labFresh O w.heap.size i l
  obtain ⟨rs,O1,hS,hR,hN⟩:=h.opn j hj hji
  have hlen:rs.length=xs.length:=by obtain ⟨⟨_,h,_⟩,_⟩:=hN;exact h
  have hk:k < rs.length:=by rw [hlen];exact AD hx
  have hr:rs[k]?=some rs[k]:=List.getElem?_eq_getElem hk
  obtain ⟨O2,u,hS2,hu,hN2,hw⟩:=hN.take hr hx l hl (Ne.symm hjl)
  obtain ⟨A',c',rfl⟩:=hw.form
  have hR2:=hR.st hS2 (fun h=>hj h.symm) (Ne.symm hji)
  obtain ⟨O3,hS3,h3⟩:=NR.shut hR2 hN2 hji
  obtain ⟨b',o',cs,h1,h2,h4,h5⟩:=hR.elem hr
  obtain ⟨rfl,rfl⟩:b=b'∧o=o':=by rw [hA] at h1;injection h1 with h1;injection h1 with h1 h2;exact ⟨h1,h2⟩
  have h5':cs=rs[k].cs:=h5
  subst h5'
  exact ⟨O3,A',c',St.via (j:=j) hS hS2 hS3 hf (fun _ h=>h) (fun _ h=>.inr h) (fun _ h=>.inr h),EJ h4 _ _ hu,h3,hw.st hS3 (fun h=>hj h.symm) (Ne.symm hjl)⟩
theorem NR.take' {A A':Option Addr} {m c b o n' c':Nat} (h:NR β i w O e' e (.slice A m c) xs none) (hA:A=some ⟨b,o,none⟩) {k:Nat} {x:α} (hx:xs[k]?=some x) (hc:w.cell? ⟨b,o + k * Rp.size α + N.q,none⟩=some (.slice A' n' c')) (l:Nat) (hl:l≠0) (hli:l≠i) :
    ∃ (O':Lab),St (eT i) w O w O'∧NR β i w O' e' e (.slice A m c) xs (some k)∧Rw l w O' e (.slice A' n' c') (N.get x):=by
  obtain ⟨O',A2,c2,h1,h2,h3,h4⟩:=h.take hA hx l hl hli
  rw [hc] at h2
  injection h2 with h2
  injection h2 with e1 e2 e3
  subst e1;subst e2;subst e3
  exact ⟨O',h1,h3,h4⟩
end
section
variable {P : Program} {n : Nat} {ops : Array Oper} {Q : Post} {rest : List Oper} {l : Env} {w : World} {d d1 d2 : Tmp} {ty ty2 : TypeId} {pos pos2 : String} {aft aft2 : Array Edge}
theorem HI {β:Type} [Rp β] (i:Nat) (hi:i≠0) (O:Lab) {t e' e:TypeId} [TSlice P t e'] {z:Value} {size bytes:Nat} [TInfo P e' z size bytes] {x y:Operand} {k k':IntKind} {m:Nat} {a:Int} (hsize:size=1) (hz:z=.slice none 0 0) (hx:opv l x=some (.int k a)) (hy:opv l y=some (.int k' a)) (ha:a=(m:Int))
    (hm:bytes * m≤281474976710656) (h63:m≤9223372036854775807) (hd:Nat.blt d n=true)
    (h:∀ g w' O',St nT w O w' O'→NR β i w' O' e' e (.slice (some ⟨g,0,none⟩) (List.replicate m ([]:List β)).length m) (List.replicate m ([]:List β)) none→owp P n ops Q rest ((d,.slice (some ⟨g,0,none⟩) (List.replicate m ([]:List β)).length m) :: l) w'):owp P n ops Q (⟨some d,.makeSlice t x y,ty,pos,aft,none⟩ :: rest) l w:=by
  subst hz
  obtain ⟨q,hq0,hqi,_,hf⟩:=labFresh O w.heap.size i 0
  let z0:Raw false 1:=⟨[.slice none 0 0],rfl,fun u hu=>by simp at hu;subst hu;rfl⟩
  have hz0:Vb w (Fr 0 w O) (.slice none 0 0) z0:=show Rp.R w (Fr 0 w O) [Value.slice none 0 0] z0 from rfl
  refine FO (α:=Raw false 1) i hi O (z0:=z0) hsize rfl rfl hx hy ha hz0 hm h63 hd fun g w' O' hS hR=>?_
  have hN:Nest (α:=List β) (β:=β) q w' O' e (List.replicate m z0) (List.replicate m ([]:List β)) none:=by
    refine ⟨⟨fun _=>0,by simp,fun j r x g1 g2=>?_⟩,hq0⟩
    obtain rfl:r=z0:=List.eq_of_mem_replicate (List.mem_of_getElem? g1)
    obtain rfl:x=[]:=List.eq_of_mem_replicate (List.mem_of_getElem? g2)
    refine ⟨(Vb.nil w' _).cells1,fun _=>⟨.slice none 0 0,rfl,Own.nil _ _ _ _,fun g hg=>by simp [Value.ownBlock] at hg⟩⟩
  obtain ⟨O2,hS2,h2⟩:=NR.shut (α:=List β) hR hN hqi
  have hle:(List.replicate m z0).length=(List.replicate m ([]:List β)).length:=by simp
  rw [hle] at h2 ⊢
  refine h g w' O2 ⟨hS2.os.trans hS.os,hS2.tape.trans hS.tape,hS2.output.trans hS.output,Nat.le_trans hS.size hS2.size,fun j hj hT=>?_⟩ h2
  obtain ⟨f1,e1⟩:=hS.same j hj hT
  obtain ⟨f2,e2⟩:=hS2.same j (Nat.lt_of_lt_of_le hj hS.size) (by rw [e1];exact hf j hj)
  exact ⟨f2.trans f1,e2.trans e1⟩
theorem Mm {α β:Type} [Rp α] [Rp β] [N:NestAt α β] {i j:Nat} {O:Lab} {t e' e:TypeId} {z:Value} {size bytes:Nat} [TInfo P t z size bytes] {x y:Operand} {b o k off m c:Nat} {A A':Option Addr} {m' c':Nat} {a:α} {ys:List β} {xs:List α} (hR:NR β i w O e' e (.slice A m c) xs (some k)) (hw:Rw j w O e (.slice A' m' c') ys) (hji:j≠i) (hA:A=some ⟨b,o,none⟩) (hk:xs[k]?=some a)
    (hx:opv l x=some (.pointer (some ⟨b,o + k * Rp.size α + off,none⟩))) (hy:opv l y=some (.slice A' m' c')) (hoff:off=N.q) (hsz:size=1) (hqn:N.q < Rp.size α)
    (h:∀ w' O',St (fun q=>q=i∨q=j) w O w' O'→NR β i w' O' e' e (.slice A m c) (xs.set k (N.put a ys)) none→owp P n ops Q rest l w'):owp P n ops Q (⟨none,.store t x y,ty,pos,aft,none⟩ :: rest) l w:=by
  subst hoff hsz
  obtain ⟨q,hq0,hqi,hqj,hf⟩:=labFresh O w.heap.size i j
  have hj0:j≠0:=hw.2.2
  have hi0:i≠0:=by obtain ⟨_,_,_,_,h,_⟩:=hR;exact h
  obtain ⟨rs,O1,hS,hRw,hN⟩:=hR.opn q hq0 hqi
  have hlen:rs.length=xs.length:=by obtain ⟨⟨_,h,_⟩,_⟩:=hN;exact h
  have hkr:k < rs.length:=by rw [hlen];exact AD hk
  have hr:rs[k]?=some rs[k]:=List.getElem?_eq_getElem hkr
  have hw1:=hw.st hS (fun h=>hi0 h.symm) hji
  let r':Raw (Rp.isAgg α) (Rp.size α):=⟨rs[k].cs.set N.q (.slice A' m' c'),by rw [List.length_set];exact rs[k].len,fun u hu=>by
    rcases List.mem_or_eq_of_mem_set hu with h|h
    · exact rs[k].one u h
    · subst h;rfl⟩
  obtain ⟨O2,hS2,hN2⟩:=hN.put (r':=r') hr hk rfl hqn hw1 (Ne.symm hqj)
  have hR2:=hRw.st hS2 (fun h=>hj0 h.symm) (Ne.symm hji)
  refine NS (a:=rs[k]) (a':=r') hR2 hA hr hx hy rfl (by show N.q + 1≤Rp.size α;omega) (fun v hv=>by simp [Value.cells] at hv;subst hv;rfl) (fun ce hc=>?_) fun w' hS3 hR3=>?_
  · have hc':ce=rs[k].cs:=hc
    subst hc';rfl
  have hN3:=hN2.st hS3 (fun h=>hi0 h.symm) hqi
  obtain ⟨O4,hS4,h4⟩:=NR.shut hR3 hN3 hqi
  refine h w' O4 ?_ h4
  have hS12:St (fun p=>p=i∨p=j) w O w O2:=⟨rfl,rfl,rfl,Nat.le_refl _,fun k hk hT=>by
    obtain ⟨_,e2⟩:=hS.same k hk fun h=>hT (.inl h)
    obtain ⟨_,e4⟩:=hS2.same k hk (by rw [e2];exact fun h=>hT (.inr h))
    exact ⟨rfl,e4.trans e2⟩⟩
  exact St.via (j:=q) hS12 hS3 hS4 hf (fun _ h=>h) (fun _ h=>.inl (.inl h)) (fun _ h=>.inr h)
end
end
section
open Go Go.RowKit
attribute [local irreducible] ewp owp hwp hwq hws Ev Evg Fn retPost loud loudS Res1
attribute [local irreducible] hwx loudX
structure Arc where
  src:Int
  dst:Int
  weight:Int
instance:Rp Arc where
  isAgg:=true
  size:=3
  R w F cs x:=cs=[.int .i64 x.src,.int .i64 x.dst,.int .i64 x.weight]∧inI64 x.src∧inI64 x.dst∧inI64 x.weight
  len:=by rintro w F cs x ⟨rfl,h0,h1,h2⟩;rfl
  one:=by rintro w F cs x ⟨rfl,h0,h1,h2⟩ u hu;simp at hu;rcases hu with rfl|rfl|rfl<;>first|rfl|exact Vb.one rfl (by assumption)
  agree:=by rintro w w' F cs x ⟨rfl,h0,h1,h2⟩ ha;exact ⟨rfl,h0,h1,h2⟩
  mono:=by rintro w F G cs x ⟨rfl,h0,h1,h2⟩ ha;exact ⟨rfl,h0,h1,h2⟩
structure Edj where
  src:Int
  label:Int
  dst:Int
instance:Rp Edj where
  isAgg:=true
  size:=3
  R w F cs x:=cs=[.int .i64 x.src,.int .i64 x.label,.int .i64 x.dst]∧inI64 x.src∧inI64 x.label∧inI64 x.dst
  len:=by rintro w F cs x ⟨rfl,h0,h1,h2⟩;rfl
  one:=by rintro w F cs x ⟨rfl,h0,h1,h2⟩ u hu;simp at hu;rcases hu with rfl|rfl|rfl<;>first|rfl|exact Vb.one rfl (by assumption)
  agree:=by rintro w w' F cs x ⟨rfl,h0,h1,h2⟩ ha;exact ⟨rfl,h0,h1,h2⟩
  mono:=by rintro w F G cs x ⟨rfl,h0,h1,h2⟩ ha;exact ⟨rfl,h0,h1,h2⟩
structure Spa where
  t:Tsk
  states:Reg
  edges:List Edj
  goals:List Bool
  costs:List Int
  distances:List Int
  steps:List Int
instance:Ow Spa where
  R w F M v x:=∃ (g:Nat) (L:Lab) (c0 c1 c2 c3 c4 c5 c6 c7 c8 c9:Value),v=.pointer (some ⟨g,0,none⟩)∧Blk w g 87 [c0,c1,c2,c3,c4,c5,c6,c7,c8,c9]∧M g∧L g=0∧Vb w F c0 x.t.vars∧Vb w F c1 x.t.init∧Vb w F c2 x.t.goal∧Vb w F c3 x.t.ops∧Ow.R w F (fun k=>M k∧L k=1) c4 x.states∧Vb w F c5 x.edges∧Vb w F c6 x.goals∧Vb w F c7 x.costs∧Vb w F c8 x.distances∧Vb w F c9 x.steps
  agree:=by rintro w w' F M v x ⟨g,L,c0,c1,c2,c3,c4,c5,c6,c7,c8,c9,rfl,hb,hM,hL,h0,h1,h2,h3,h4,h5,h6,h7,h8,h9⟩ a1 a2;exact ⟨g,L,c0,c1,c2,c3,c4,c5,c6,c7,c8,c9,rfl,hb.keep (a2 g hM),hM,hL,h0.agree a1,h1.agree a1,h2.agree a1,h3.agree a1,Ow.agree h4 a1 fun k hk=>a2 k hk.1,h5.agree a1,h6.agree a1,h7.agree a1,h8.agree a1,h9.agree a1⟩
  mono:=by rintro w F M F' M' v x ⟨g,L,c0,c1,c2,c3,c4,c5,c6,c7,c8,c9,rfl,hb,hM,hL,h0,h1,h2,h3,h4,h5,h6,h7,h8,h9⟩ a1 a2 a3;exact ⟨g,L,c0,c1,c2,c3,c4,c5,c6,c7,c8,c9,rfl,hb,a2 g hM,hL,h0.mono a1,h1.mono a1,h2.mono a1,h3.mono a1,Ow.mono h4 a1 (fun k hk=>⟨a2 k hk.1,hk.2⟩) fun k hf hm=>a3 k hf hm.1,h5.mono a1,h6.mono a1,h7.mono a1,h8.mono a1,h9.mono a1⟩
instance:OwP Spa:=⟨by rintro w F M v x ⟨g,L,c0,c1,c2,c3,c4,c5,c6,c7,c8,c9,rfl,_⟩;exact ⟨g,rfl⟩⟩
theorem Spa.opn {i:Nat} {w:World} {O:Lab} {p:Nat} {x:Spa} (h:Ob i w O (.pointer (some ⟨p,0,none⟩)) x) (l0 l1:Nat) (hl:l0≠0∧l1≠0):∃ (O':Lab) (c0 c1 c2 c3 c4 c5 c6 c7 c8 c9:Value),St (eT i) w O w O'∧(∀ k,Fr i w O k→∃ q,q∈[l0,l1]∧Fr q w O' k)∧Lc l0 w O' p 87 [c0,c1,c2,c3,c4,c5,c6,c7,c8,c9]∧Vb w (Fr 0 w O') c0 x.t.vars∧Vb w (Fr 0 w O') c1 x.t.init∧Vb w (Fr 0 w O') c2 x.t.goal∧Vb w (Fr 0 w O') c3 x.t.ops∧Ob l1 w O' c4 x.states∧Vb w (Fr 0 w O') c5 x.edges∧Vb w (Fr 0 w O') c6 x.goals∧Vb w (Fr 0 w O') c7 x.costs∧Vb w (Fr 0 w O') c8 x.distances∧Vb w (Fr 0 w O') c9 x.steps:=by
  obtain ⟨⟨g,L,c0,c1,c2,c3,c4,c5,c6,c7,c8,c9,hv,hb,hM,hL,h0,h1,h2,h3,h4,h5,h6,h7,h8,h9⟩,hi⟩:=h
  obtain rfl:p=g:=by injection hv with hv;injection hv with hv;injection hv
  exact ⟨part O i L [l0,l1],c0,c1,c2,c3,c4,c5,c6,c7,c8,c9,Js hi,HZ (by simp),⟨hb,(EL (j:=0) rfl p ⟨hM,hL⟩).2⟩,h0.mono (CY hi),h1.mono (CY hi),h2.mono (CY hi),h3.mono (CY hi),⟨Ow.mono h4 (CY hi) (EL (j:=1) rfl) (frNe0 hl.2),hl.2⟩,h5.mono (CY hi),h6.mono (CY hi),h7.mono (CY hi),h8.mono (CY hi),h9.mono (CY hi)⟩
theorem Spa.shut {w:World} {O:Lab} {p:Nat} {x:Spa} {l0 l1:Nat} {c0 c1 c2 c3 c4 c5 c6 c7 c8 c9:Value} (hd:¬ 0∈[l0,l1]∧[l0,l1].idxOf l0=0∧[l0,l1].idxOf l1=1) (hb:Lc l0 w O p 87 [c0,c1,c2,c3,c4,c5,c6,c7,c8,c9]) (h0:Vb w (Fr 0 w O) c0 x.t.vars) (h1:Vb w (Fr 0 w O) c1 x.t.init) (h2:Vb w (Fr 0 w O) c2 x.t.goal) (h3:Vb w (Fr 0 w O) c3 x.t.ops) (h4:Ob l1 w O c4 x.states) (h5:Vb w (Fr 0 w O) c5 x.edges) (h6:Vb w (Fr 0 w O) c6 x.goals) (h7:Vb w (Fr 0 w O) c7 x.costs) (h8:Vb w (Fr 0 w O) c8 x.distances) (h9:Vb w (Fr 0 w O) c9 x.steps):∃ O',St (·∈[l0,l1]) w O w O'∧(∀ k,Fr 0 w O k→Fr 0 w O' k)∧(∀ q,q∈[l0,l1]→∀ k,Fr q w O k→Fr l0 w O' k)∧Ob l0 w O' (.pointer (some ⟨p,0,none⟩)) x:=by
  have hb1:l0≠0:=fun e=>hd.1 (by simp [e])
  have hg:=Em (i:=l0) hd.2.1 (by simp) p ⟨hb.1.lt,hb.2⟩
  exact ⟨whole O l0 [l0,l1],Ia,Ce hd.1,Hq,⟨p,fun k=>[l0,l1].idxOf (O k),c0,c1,c2,c3,c4,c5,c6,c7,c8,c9,rfl,hb.1,hg.1,hg.2,h0.mono (Ce hd.1),h1.mono (Ce hd.1),h2.mono (Ce hd.1),h3.mono (Ce hd.1),Ow.mono h4.1 (Ce hd.1) (Em hd.2.2 (by simp)) (fun k a b=>frNe0 hb1 k a b.1),h5.mono (Ce hd.1),h6.mono (Ce hd.1),h7.mono (Ce hd.1),h8.mono (Ce hd.1),h9.mono (Ce hd.1)⟩,hb1⟩
def Ep (x y:Err):Option Bool:=if x.n=0∧y.n≠0 then some false else none
def DE (_:List (List Arc)) (_ _:List Int):Option (List Int×List Int):=none
theorem Jw {w:World} {A:Nat→Prop} (hA:∀ k,A k→k < w.heap.size) {vx0:Value} {x0:List (List Arc)} (a0:Vb w A vx0 x0) {vx1:Value} {x1:List Int} (b0:Vb w A vx1 x1) {vx2:Value} {x2:List Int} (c0:Vb w A vx2 x2) {r:List Int×List Int} (hm:DE x0 x1 x2=some r) :
    Fn Tryz.prog 96 [vx0,vx1,vx2] w fun v w'=>Ext w w'∧T2 w' (upA A w w') v r:=by cases hm
noncomputable def Bi (x0:Reg):Option Int :=
  some (x0.entries.length:Int)
theorem DX {w:World} {O:Lab} {p0 i0:Nat} {x0:Reg} (a0:Ob i0 w O (.pointer (some ⟨p0,0,none⟩)) x0) {r:Int} (hm:Bi x0=some r) :
    Fn Tryz.prog 46 [(.pointer (some ⟨p0,0,none⟩))] w fun v w'=>∃ O',St (eT i0) w O w' O'∧Ob i0 w' O' (.pointer (some ⟨p0,0,none⟩)) x0∧Vb w' (Fr 0 w' O') v r:=by
 obtain ⟨O0,hE,d0,e0⟩:=ent1 (w:=w) (O:=O) a0.2
 have a0':=Ob.leave a0 d0 e0 (j:=2) (by decide)
 have hB:Bm w O0 w O0:=Bm.refl
 refine AH Tryz.func46 rfl Tryz.ntmps46 rfl ?_
 unfold Bi at hm
 refine Al (Aj (An rfl rfl (o_z ?_)))
 refine Al (Al (Aj (Am rfl rfl (EQ rfl rfl ?_))))
 refine o_z ?_
 refine Ae rfl (AI (Al (Aj (Am rfl rfl (BW rfl rfl ?_)))))
 obtain ⟨O2,v6,v9,n0,S3,o0,h4,h7,b0,c0⟩:=Reg.opn a0' 2 3 4 5 (by decide)
 obtain ⟨p8,rfl⟩:=h7.ptr
 obtain ⟨q0,r0,rfl⟩:=b0.form
 obtain ⟨s0,rfl⟩:=c0.mptr
 refine AE rfl rfl (AC (hc:=Blk.cell (i:=1) (h4.1) rfl) rfl rfl ?_)
 refine AP rfl rfl ?_
 have f0:x0.entries.length≤9223372036854775807:=Nat.le_trans b0.len.2.1 b0.len.2.2
 have g0:inI64 (x0.entries.length:Int):=rngNat f0
 refine An rfl rfl (o_z ?_)
 refine AG ?_
 obtain ⟨t0,h0,j0,k0,m0⟩:=Reg.shut (x:=x0) (l0:=2) (l1:=3) (l2:=4) (l3:=5) (by decide) h4 h7 b0 c0
 obtain rfl:=sm hm
 replace hB:=(hB.st S3).st h0
 obtain ⟨O',hS',hz,hl⟩:=hE.leave (fun q=>if q=2 then i0 else 0) rfl hB
 exact ret1v rfl (Az rfl) ⟨O',hS',(Ob.leave m0 hz (hl 2 (by decide) (by decide)) a0.2),(vInt g0)⟩
noncomputable def CH (x0:Reg) (x1:List Int):Option (Int×Err) :=
  bnd (Bq x0 x1) fun q5=>if q5.2.2.2.n≠0 then (some (0,(⟨q5.2.2.2.n⟩:Err))) else (if q5.2.2.1 < 0 then (some (0,(⟨3⟩:Err))) else (some (q5.2.2.1,(⟨0⟩:Err))))
theorem GY {w:World} {O:Lab} {p0 i0:Nat} {x0:Reg} (a0:Ob i0 w O (.pointer (some ⟨p0,0,none⟩)) x0) {vx1:Value} {x1:List Int} (b0:Vb w (Fr 0 w O) vx1 x1) {r:Int×Err} (hm:CH x0 x1=some r) :
    Fn Tryz.prog 56 [(.pointer (some ⟨p0,0,none⟩)),vx1] w fun v w'=>∃ O',St (eT i0) w O w' O'∧∃ v0 v1:Value,Ob i0 w' O' (.pointer (some ⟨p0,0,none⟩)) x0∧v=.tuple #[v0,v1]∧Vb w' (Fr 0 w' O') v0 r.1∧Vb w' (Fr 0 w' O') v1 r.2:=by
 obtain ⟨O0,hE,f0,g0⟩:=ent1 (w:=w) (O:=O) a0.2
 have a0':=Ob.leave a0 f0 g0 (j:=2) (by decide)
 have hB:Bm w O0 w O0:=Bm.refl
 replace b0:=b0.mono f0
 obtain ⟨A3,c4,rfl⟩:=b0.form
 refine AH Tryz.func56 rfl Tryz.ntmps56 rfl ?_
 unfold CH at hm
 refine Al (Aj (An rfl rfl (An rfl rfl (o_z ?_))))
 refine Al (Al (Aj (Am rfl rfl (EQ rfl rfl ?_))))
 refine o_z ?_
 refine Ae rfl (AI (Al (Aj (Am rfl rfl (Am rfl rfl ?_)))))
 obtain ⟨q5,e6,hm⟩:=bs hm
 refine BH (O:=O0) (EU a0' b0 e6) rfl rfl fun q0 w7 O8 S9 h0=>?_
 obtain ⟨r0,s0,t0,u0,c0,rfl,j0,k0,l0,m0⟩:=h0
 obtain ⟨w0,y0,rfl⟩:=j0.form
 obtain ⟨rfl,z0⟩:=k0.int
 obtain ⟨rfl,n0⟩:=l0.int
 obtain ⟨rfl,o0⟩:=m0.err
 refine Am rfl rfl (AZ rfl rfl rfl (AZ rfl rfl rfl (AZ rfl rfl rfl (AZ rfl rfl rfl (An rfl rfl (An rfl rfl (An rfl rfl (An rfl rfl (o_z ?_)))))))))
 refine Al (AM (Al (Aj (Am rfl rfl (Dy rfl rfl (fun d0=>?_) fun d0=>?_)))))
 ·
  replace hm:=ip hm d0
  refine An rfl rfl (o_z ?_)
  refine Ah rfl (Al (Aj (Am rfl rfl (An rfl rfl (An rfl rfl (o_z ?_))))))
  refine AG ?_
  obtain rfl:=sm hm
  replace hB:=hB.st S9
  obtain ⟨O',hS',hz,hl⟩:=hE.leave (fun q=>if q=2 then i0 else 0) rfl hB
  exact ret2 rfl (Az rfl) (Az rfl) ⟨O',hS',_,_,(Ob.leave c0 hz (hl 2 (by decide) (by decide)) a0.2),rfl,(vInt (show inI64 (0) from by decide)),(vErr o0)⟩
 replace hm:=im hm d0
 refine An rfl rfl (o_z ?_)
 refine Ae rfl (Al (Aj (Am rfl rfl (Dx rfl rfl rfl (fun e0=>?_) fun e0=>?_))))
 ·
  replace hm:=ip hm e0
  refine An rfl rfl (o_z ?_)
  refine Ah rfl (Al (Aj (Di rfl rfl ?_)))
  refine An rfl rfl (An rfl rfl (o_z ?_))
  refine AG ?_
  obtain rfl:=sm hm
  replace hB:=hB.st S9
  obtain ⟨O',hS',hz,hl⟩:=hE.leave (fun q=>if q=2 then i0 else 0) rfl hB
  exact ret2 rfl (Az rfl) (Az rfl) ⟨O',hS',_,_,(Ob.leave c0 hz (hl 2 (by decide) (by decide)) a0.2),rfl,(vInt (show inI64 (0) from by decide)),(vErr (by decide))⟩
 replace hm:=im hm e0
 refine An rfl rfl (o_z ?_)
 refine Ae rfl (AI (Al (Aj (Am rfl rfl (An rfl rfl (An rfl rfl (o_z ?_)))))))
 refine AG ?_
 obtain rfl:=sm hm
 replace hB:=hB.st S9
 obtain ⟨O',hS',hz,hl⟩:=hE.leave (fun q=>if q=2 then i0 else 0) rfl hB
 exact ret2 rfl (Az rfl) (Az rfl) ⟨O',hS',_,_,(Ob.leave c0 hz (hl 2 (by decide) (by decide)) a0.2),rfl,(vInt n0),(vErr (show inI64 0 from by decide))⟩
noncomputable def CI (x0:Tsk):Option Tsk :=
  bnd (BK x0.vars) fun q29=>bnd (BK x0.init) fun q31=>bnd (Bj x0.goal) fun q33=>bnd (some (q29,q31,q33):Option ((List Int)×(List Int)×(List Fct))) fun y35=>bnd (rng (ρ:=Tsk) (fun (k156:Nat) (a157:Opr) (s154:(List Opr))=>bnd (Bj a157.pre) fun q195=>bnd (rng (ρ:=Ctl (List Opr) Tsk) (fun (k213:Nat) (a214:Eff) (s211:(List Eff))=>bnd (Bj a214.cond) fun q248=>bnd (appI 40 s211 [(⟨q248,a214.var,a214.val⟩:Eff)]) fun u262=>some (.next u262)) a157.effs 0 ([]:List Eff)) fun res209=>fin res209 fun (s278:(List Eff))=>bnd (appI 72 s154 [(⟨a157.name,a157.cost,q195,s278⟩:Opr)]) fun u286=>some (.next u286)) x0.ops 0 ([]:List Opr)) fun res152=>fin res152 fun (s304:(List Opr))=>some (⟨y35.1,y35.2.1,y35.2.2,s304⟩:Tsk)
theorem JX {w:World} {A:Nat→Prop} (hA:∀ k,A k→k < w.heap.size) {vx0:Value} {x0:Tsk} (n5:Vb w A vx0 x0) {r:Tsk} (hm:CI x0=some r) :
    Fn Tryz.prog 45 [vx0] w fun v w'=>Ext w w'∧Vb w' (upA A w w') v r:=by
 obtain ⟨O,hB,h8⟩:=enter hA
 replace n5:=n5.mono h8
 obtain ⟨gA,rfl,v3,v4,v5,v6,rfl,h7,u1,q1,t0⟩:=n5
 obtain ⟨A8,c9,rfl⟩:=h7.form
 obtain ⟨o5,p5,rfl⟩:=u1.form
 obtain ⟨q5,r5,rfl⟩:=q1.form
 obtain ⟨w2,x2,rfl⟩:=t0.form
 refine AH Tryz.func45 rfl Tryz.ntmps45 rfl ?_
 unfold CI at hm
 refine Al (Aj (Dc 2 O rfl rfl fun s5 i8 r7 j1 y1=>?_))
 replace y1:Lc 2 i8 r7 s5 26 [(.slice A8 x0.vars.length c9),(.slice o5 x0.init.length p5),(.slice q5 x0.goal.length r5),(.slice w2 x0.ops.length x2)]:=y1
 refine Ch 3 r7 rfl fun i2 iA t5 z0 n0=>?_
 refine o_z ?_
 refine Al ?_
 obtain ⟨d5,s7,hm⟩:=bs hm
 obtain ⟨e5,u5,hm⟩:=bs hm
 obtain ⟨f5,g5,hm⟩:=bs hm
 obtain ⟨b0,y2,hm⟩:=bs hm
 refine AJ (fun l' w'=>∃ (a0:Nat×(Option Addr×Nat)×(Option Addr×Nat)×(Option Addr×Nat)) (O':Lab),subs l' [(1,(.pointer (some ⟨s5,0,none⟩))),(2,(.pointer (some ⟨i2,0,none⟩))),(3,(.pointer (some ⟨a0.1,0,none⟩)))]∧Bs w A w' O'∧Lc 2 w' O' s5 26 [(.slice A8 x0.vars.length c9),(.slice o5 x0.init.length p5),(.slice q5 x0.goal.length r5),(.slice w2 x0.ops.length x2)]∧Vb w' (Fr 0 w' O') (.slice A8 x0.vars.length c9) x0.vars∧Vb w' (Fr 0 w' O') (.slice o5 x0.init.length p5) x0.init∧Vb w' (Fr 0 w' O') (.slice q5 x0.goal.length r5) x0.goal∧Vb w' (Fr 0 w' O') (.slice w2 x0.ops.length x2) x0.ops∧Lc 3 w' O' i2 26 [(.slice none 0 0),(.slice none 0 0),(.slice none 0 0),(.slice none 0 0)]∧Lc 7 w' O' a0.1 26 [(.slice a0.2.1.1 b0.1.length a0.2.1.2),(.slice a0.2.2.1.1 b0.2.1.length a0.2.2.1.2),(.slice a0.2.2.2.1 b0.2.2.length a0.2.2.2.2),(.slice none 0 0)]∧Rw 4 w' O' 3 (.slice a0.2.1.1 b0.1.length a0.2.1.2) b0.1∧Rw 5 w' O' 3 (.slice a0.2.2.1.1 b0.2.1.length a0.2.2.1.2) b0.2.1∧Rw 6 w' O' 123 (.slice a0.2.2.2.1 b0.2.2.length a0.2.2.2.2) b0.2.2) ?_ ?_
 ·
  refine BG [] t5 ?_
  refine Bb (fuel:=6) [] [(0,true),(1,true),(3,true),(4,true),(6,true),(7,true)] (by kernel_rfl) rfl ?_
  refine AT rfl rfl rfl ?_
  replace y1:=y1.st z0
  refine AS (hc:=fun w' ⟨O',hq⟩=>Blk.cell (i:=0) ((y1.st hq (by decide)).1) rfl) rfl rfl rfl ?_
  refine AT rfl rfl rfl (AS (hc:=fun w' ⟨O',hq⟩=>Blk.cell (i:=1) ((y1.st hq (by decide)).1) rfl) rfl rfl rfl ?_)
  refine AT rfl rfl rfl (AS (hc:=fun w' ⟨O',hq⟩=>Blk.cell (i:=2) ((y1.st hq (by decide)).1) rfl) rfl rfl rfl ?_)
  refine AL ?_
  refine Ku (i:=2) (j:=10) (by kernel_rfl) rfl rfl ?_ ?_
  ·
   replace h7:=(h7.st j1).st z0
   refine CR 4 (by decide) (O:=t5) (Cs Fr.lt h7 s7) rfl rfl fun r3 s3 jA t7 k1 w5=>?_
   have hZ:=k1.lst [] (fun _ h=>h.elim)
   refine BE [] hZ (by kernel_rfl) ?_
   refine Ku (i:=5) (j:=10) (by kernel_rfl) rfl rfl ?_ ?_
   ·
    replace u1:=((u1.st j1).st z0).st k1
    refine CR 5 (by decide) (O:=t7) (Cs Fr.lt u1 u5) rfl rfl fun h5 i5 kA u7 v1 v7=>?_
    have hZ:=v1.lst [] (fun _ h=>h.elim)
    refine BE [] hZ (by kernel_rfl) ?_
    refine Ku (i:=8) (j:=10) (by kernel_rfl) rfl rfl ?_ ?_
    ·
     replace q1:=(((q1.st j1).st z0).st k1).st v1
     refine CR 6 (by decide) (O:=u7) (BD Fr.lt q1 g5) rfl rfl fun w7 x7 lA j8 r2 k8=>?_
     have hZ:=r2.lst [] (fun _ h=>h.elim)
     refine BE [] hZ (by kernel_rfl) ?_
     refine Bb (fuel:=2) [] [(9,true)] (by kernel_rfl) rfl ?_
     refine GV rfl rfl rfl rfl ?_
     refine AL ?_
     refine Bg (i:=10) (by kernel_rfl) rfl ?_
     refine Ch 7 j8 rfl fun y7 mA l8 j2 t3=>?_
     have hZ:=j2.lst [] (fun _ h=>h.elim)
     refine BE [] hZ (by kernel_rfl) ?_
     refine Bg (i:=11) (by kernel_rfl) rfl ?_
     refine Br t3 rfl rfl rfl (BN rfl) (allOne rfl) fun m8 s2 t3=>?_
     replace t3:Lc 7 m8 l8 y7 26 [(.slice r3 d5.length s3),(.slice h5 e5.length i5),(.slice w7 f5.length x7),(.slice none 0 0)]:=t3
     refine DI (by kernel_rfl) ?_
     refine Ck (by kernel_rfl) ?_
     obtain rfl:=sm y2
     exact ⟨(y7,(r3,s3),(h5,i5),(w7,x7)),_,⟨rfl,rfl,rfl,trivial⟩,((((((hB.st j1).st z0).st k1).st v1).st r2).st j2).st s2,((((y1.st k1).st v1).st r2).st j2).st s2,((((h7.st k1).st v1).st r2).st j2).st s2,(((u1.st v1).st r2).st j2).st s2,((q1.st r2).st j2).st s2,((((((t0.st j1).st z0).st k1).st v1).st r2).st j2).st s2,((((n0.st k1).st v1).st r2).st j2).st s2,t3,(((w5.st v1).st r2).st j2).st s2,((v7.st r2).st j2).st s2,(k8.st j2).st s2⟩
    refine Ch 7 u7 rfl fun z7 nA n8 t2 i3=>?_
    have hZ:=t2.lst [] (fun _ h=>h.elim)
    refine BE [] hZ (by kernel_rfl) ?_
    refine Bg (i:=8) (by kernel_rfl) rfl ?_
    replace q1:=((((q1.st j1).st z0).st k1).st v1).st t2
    refine CR 6 (by decide) (O:=n8) (BD Fr.lt q1 g5) rfl rfl fun a8 b8 oA o8 k2 p8=>?_
    have hZ:=k2.lst [] (fun _ h=>h.elim)
    refine BE [] hZ (by kernel_rfl) ?_
    refine Bb (fuel:=1) [] [(9,true)] (by kernel_rfl) rfl ?_
    refine GV rfl rfl rfl rfl ?_
    refine AL ?_
    refine Bg (i:=11) (by kernel_rfl) rfl ?_
    replace i3:=i3.st k2
    refine Br i3 rfl rfl rfl (BN rfl) (allOne rfl) fun q8 u2 i3=>?_
    replace i3:Lc 7 q8 o8 z7 26 [(.slice r3 d5.length s3),(.slice h5 e5.length i5),(.slice a8 f5.length b8),(.slice none 0 0)]:=i3
    refine DI (by kernel_rfl) ?_
    refine Ck (by kernel_rfl) ?_
    obtain rfl:=sm y2
    exact ⟨(z7,(r3,s3),(h5,i5),(a8,b8)),_,⟨rfl,rfl,rfl,trivial⟩,((((((hB.st j1).st z0).st k1).st v1).st t2).st k2).st u2,((((y1.st k1).st v1).st t2).st k2).st u2,((((h7.st k1).st v1).st t2).st k2).st u2,(((u1.st v1).st t2).st k2).st u2,(q1.st k2).st u2,((((((t0.st j1).st z0).st k1).st v1).st t2).st k2).st u2,((((n0.st k1).st v1).st t2).st k2).st u2,i3,(((w5.st v1).st t2).st k2).st u2,((v7.st t2).st k2).st u2,p8.st u2⟩
   refine Ch 7 t7 rfl fun c8 pA r8 z2 j3=>?_
   have hZ:=z2.lst [] (fun _ h=>h.elim)
   refine BE [] hZ (by kernel_rfl) ?_
   refine Bg (i:=5) (by kernel_rfl) rfl ?_
   replace u1:=(((u1.st j1).st z0).st k1).st z2
   refine CR 5 (by decide) (O:=r8) (Cs Fr.lt u1 u5) rfl rfl fun u3 w3 qA s8 v2 x5=>?_
   have hZ:=v2.lst [] (fun _ h=>h.elim)
   refine BE [] hZ (by kernel_rfl) ?_
   refine Bg (i:=8) (by kernel_rfl) rfl ?_
   replace q1:=((((q1.st j1).st z0).st k1).st z2).st v2
   refine CR 6 (by decide) (O:=s8) (BD Fr.lt q1 g5) rfl rfl fun x3 y3 t8 y5 a1 z5=>?_
   have hZ:=a1.lst [] (fun _ h=>h.elim)
   refine BE [] hZ (by kernel_rfl) ?_
   refine Bb (fuel:=1) [] [(9,true)] (by kernel_rfl) rfl ?_
   refine GV rfl rfl rfl rfl ?_
   refine AL ?_
   refine Bg (i:=11) (by kernel_rfl) rfl ?_
   replace j3:=(j3.st v2).st a1
   refine Br j3 rfl rfl rfl (BN rfl) (allOne rfl) fun a6 l1 j3=>?_
   replace j3:Lc 7 a6 y5 c8 26 [(.slice r3 d5.length s3),(.slice u3 e5.length w3),(.slice x3 f5.length y3),(.slice none 0 0)]:=j3
   refine DI (by kernel_rfl) ?_
   refine Ck (by kernel_rfl) ?_
   obtain rfl:=sm y2
   exact ⟨(c8,(r3,s3),(u3,w3),(x3,y3)),_,⟨rfl,rfl,rfl,trivial⟩,((((((hB.st j1).st z0).st k1).st z2).st v2).st a1).st l1,((((y1.st k1).st z2).st v2).st a1).st l1,((((h7.st k1).st z2).st v2).st a1).st l1,((u1.st v2).st a1).st l1,(q1.st a1).st l1,((((((t0.st j1).st z0).st k1).st z2).st v2).st a1).st l1,((((n0.st k1).st z2).st v2).st a1).st l1,j3,(((w5.st z2).st v2).st a1).st l1,(x5.st a1).st l1,z5.st l1⟩
  refine Ch 7 t5 rfl fun z3 u8 b6 w1 z1=>?_
  have hZ:=w1.lst [] (fun _ h=>h.elim)
  refine BE [] hZ (by kernel_rfl) ?_
  refine Bg (i:=2) (by kernel_rfl) rfl ?_
  replace h7:=((h7.st j1).st z0).st w1
  refine CR 4 (by decide) (O:=b6) (Cs Fr.lt h7 s7) rfl rfl fun a4 b4 v8 c6 r1 d6=>?_
  have hZ:=r1.lst [] (fun _ h=>h.elim)
  refine BE [] hZ (by kernel_rfl) ?_
  refine Bg (i:=5) (by kernel_rfl) rfl ?_
  replace u1:=(((u1.st j1).st z0).st w1).st r1
  refine CR 5 (by decide) (O:=c6) (Cs Fr.lt u1 u5) rfl rfl fun c4 d4 w8 e6 m1 f6=>?_
  have hZ:=m1.lst [] (fun _ h=>h.elim)
  refine BE [] hZ (by kernel_rfl) ?_
  refine Bg (i:=8) (by kernel_rfl) rfl ?_
  replace q1:=((((q1.st j1).st z0).st w1).st r1).st m1
  refine CR 6 (by decide) (O:=e6) (BD Fr.lt q1 g5) rfl rfl fun e4 f4 x8 g6 b1 h6=>?_
  have hZ:=b1.lst [] (fun _ h=>h.elim)
  refine BE [] hZ (by kernel_rfl) ?_
  refine Bb (fuel:=1) [] [(9,true)] (by kernel_rfl) rfl ?_
  refine GV rfl rfl rfl rfl ?_
  refine AL ?_
  refine Bg (i:=11) (by kernel_rfl) rfl ?_
  replace z1:=((z1.st r1).st m1).st b1
  refine Br z1 rfl rfl rfl (BN rfl) (allOne rfl) fun i6 n1 z1=>?_
  replace z1:Lc 7 i6 g6 z3 26 [(.slice a4 d5.length b4),(.slice c4 e5.length d4),(.slice e4 f5.length f4),(.slice none 0 0)]:=z1
  refine DI (by kernel_rfl) ?_
  refine Ck (by kernel_rfl) ?_
  obtain rfl:=sm y2
  exact ⟨(z3,(a4,b4),(c4,d4),(e4,f4)),_,⟨rfl,rfl,rfl,trivial⟩,((((((hB.st j1).st z0).st w1).st r1).st m1).st b1).st n1,((((y1.st w1).st r1).st m1).st b1).st n1,(((h7.st r1).st m1).st b1).st n1,((u1.st m1).st b1).st n1,(q1.st b1).st n1,((((((t0.st j1).st z0).st w1).st r1).st m1).st b1).st n1,((((n0.st w1).st r1).st m1).st b1).st n1,z1,((d6.st m1).st b1).st n1,(f6.st b1).st n1,h6.st n1⟩
 replace hB:=(hB.st j1).st z0
 replace h7:=(h7.st j1).st z0
 replace u1:=(u1.st j1).st z0
 replace q1:=(q1.st j1).st z0
 replace t0:=(t0.st j1).st z0
 replace y1:=y1.st z0
 rintro y8 z8 ⟨a0,j6,g4,hB,y1,h7,u1,q1,t0,n0,s0,c1,d1,e1⟩
 refine AN _ g4 ?_
 refine Al (Al (Aj (AE rfl rfl (AC (hc:=Blk.cell (i:=3) (y1.1) rfl) rfl rfl ?_))))
 refine AP rfl rfl ?_
 have k3:x0.ops.length≤9223372036854775807:=Nat.le_trans t0.len.2.1 t0.len.2.2
 have a9:inI64 (x0.ops.length:Int):=rngNat k3
 refine Am rfl rfl (o_z ?_)
 obtain ⟨l3,h4,hm⟩:=bs hm
 refine AJ (aft l3 (fun (l0:(List Opr)) (f0:(Option Addr×Nat))=>[(2,(.pointer (some ⟨i2,0,none⟩))),(3,(.pointer (some ⟨a0.1,0,none⟩)))]) (fun l0 f0 w'=>∃ O':Lab,Bs w A w' O'∧Lc 3 w' O' i2 26 [(.slice none 0 0),(.slice none 0 0),(.slice none 0 0),(.slice none 0 0)]∧Lc 7 w' O' a0.1 26 [(.slice a0.2.1.1 b0.1.length a0.2.1.2),(.slice a0.2.2.1.1 b0.2.1.length a0.2.2.1.2),(.slice a0.2.2.2.1 b0.2.2.length a0.2.2.2.2),(.slice f0.1 l0.length f0.2)]∧Rw 4 w' O' 3 (.slice a0.2.1.1 b0.1.length a0.2.1.2) b0.1∧Rw 5 w' O' 3 (.slice a0.2.2.1.1 b0.2.1.length a0.2.2.1.2) b0.2.1∧Rw 6 w' O' 123 (.slice a0.2.2.2.1 b0.2.2.length a0.2.2.2.2) b0.2.2∧Rw 13 w' O' 61 (.slice f0.1 l0.length f0.2) l0)) ?_ ?_
 ·
  refine AM (By (σ:=(List Opr)) (X:=(Option Addr×Nat)) (x0.ops.length) h4 rfl k3 (fun (l0:(List Opr)) (f0:(Option Addr×Nat))=>[(2,(.pointer (some ⟨i2,0,none⟩))),(3,(.pointer (some ⟨a0.1,0,none⟩))),(20,(.slice w2 x0.ops.length x2))]) _ (fun l0 f0 w'=>∃ O':Lab,Bs w A w' O'∧Lc 3 w' O' i2 26 [(.slice none 0 0),(.slice none 0 0),(.slice none 0 0),(.slice none 0 0)]∧Lc 7 w' O' a0.1 26 [(.slice a0.2.1.1 b0.1.length a0.2.1.2),(.slice a0.2.2.1.1 b0.2.1.length a0.2.2.1.2),(.slice a0.2.2.2.1 b0.2.2.length a0.2.2.2.2),(.slice f0.1 l0.length f0.2)]∧Rw 4 w' O' 3 (.slice a0.2.1.1 b0.1.length a0.2.1.2) b0.1∧Rw 5 w' O' 3 (.slice a0.2.2.1.1 b0.2.1.length a0.2.2.1.2) b0.2.1∧Rw 6 w' O' 123 (.slice a0.2.2.2.1 b0.2.2.length a0.2.2.2.2) b0.2.2∧Rw 13 w' O' 61 (.slice f0.1 l0.length f0.2) l0∧Vb w' (Fr 0 w' O') (.slice w2 x0.ops.length x2) x0.ops) _ (none,0) ⟨j6,hB,n0,s0,c1,d1,e1,(Rw.nil 13 (by decide)),t0⟩ ⟨rfl,rfl,rfl,rfl,rfl,trivial⟩ (fun _ _=>⟨rfl,rfl⟩) (fun _ _=>⟨rfl,rfl,trivial⟩) (fun _ _ _ ⟨O',hB,n0,s0,c1,d1,e1,e0,t0⟩=>⟨O',hB,n0,s0,c1,d1,e1,e0⟩) ⟨rfl,rfl,rfl⟩ ⟨rfl,rfl⟩ ?_)
  rintro m3 c0 l0 f0 b9 d8 g3 ⟨k6,hB,n0,s0,c1,d1,e1,e0,t0⟩ m0 j5 k5
  have rk156:inI64 (m3:Int):=rngK g3 k3
  refine Al (Aj ?_)
  obtain ⟨d9,e9,e8,i4,j4,k4,f9,g9,rfl,a3,u0,l6,m6⟩:=t0.elem' g3
  obtain ⟨n6,o6,rfl⟩:=a3.form
  obtain ⟨a2,b2,rfl⟩:=u0.form
  refine Bo (hA:=i4) (hj:=rfl) (hlt:=j4) rfl rfl rfl ?_
  refine Bk (hl:=rfl) (hc:=k4) rfl rfl ?_
  refine Ch 8 k6 rfl fun c2 h9 l4 h0 d0=>?_
  refine Br d0 rfl rfl rfl (BN rfl) (allOne rfl) fun p6 i0 d0=>?_
  replace d0:Lc 8 p6 l4 c2 61 [(.string c0.name),(.int .i64 c0.cost),(.slice n6 c0.pre.length o6),(.slice a2 c0.effs.length b2)]:=d0
  refine o_z ?_
  refine Al (Aj (AE rfl rfl (AC (hc:=Blk.cell (i:=2) (d0.1) rfl) rfl rfl ?_)))
  obtain ⟨f1,q6,m0⟩:=bs m0
  replace a3:=(a3.st h0).st i0
  refine CR 9 (by decide) (O:=l4) (BD Fr.lt a3 q6) rfl rfl fun d2 e2 i9 m4 j0 k0=>?_
  refine AE rfl rfl ?_
  replace d0:=d0.st j0
  refine Br d0 rfl rfl rfl (BN rfl) (allOne rfl) fun r6 g0 d0=>?_
  replace d0:Lc 8 r6 m4 c2 61 [(.string c0.name),(.int .i64 c0.cost),(.slice d2 f1.length e2),(.slice a2 c0.effs.length b2)]:=d0
  refine o_z ?_
  refine Al (Aj (An rfl rfl (o_z ?_)))
  refine Al (Al (Aj (AE rfl rfl (AC (hc:=Blk.cell (i:=3) (d0.1) rfl) rfl rfl ?_))))
  refine AP rfl rfl ?_
  replace u0:=(((u0.st h0).st i0).st j0).st g0
  have n3:c0.effs.length≤9223372036854775807:=Nat.le_trans u0.len.2.1 u0.len.2.2
  have j9:inI64 (c0.effs.length:Int):=rngNat n3
  refine Am rfl rfl (o_z ?_)
  obtain ⟨o3,n4,m0⟩:=bs m0
  refine AJ (aft o3 (fun (o1:(List Eff)) (v0:(Option Addr×Nat))=>[(2,(.pointer (some ⟨i2,0,none⟩))),(3,(.pointer (some ⟨a0.1,0,none⟩))),(5,(.pointer (some ⟨c2,0,none⟩))),(6,(.slice v0.1 o1.length v0.2)),(20,(.slice w2 x0.ops.length x2)),(21,(.int .i64 (x0.ops.length:Int))),(22,(.int .i64 (m3:Int)))]) (fun o1 v0 w'=>∃ O':Lab,Bs w A w' O'∧Lc 3 w' O' i2 26 [(.slice none 0 0),(.slice none 0 0),(.slice none 0 0),(.slice none 0 0)]∧Lc 7 w' O' a0.1 26 [(.slice a0.2.1.1 b0.1.length a0.2.1.2),(.slice a0.2.2.1.1 b0.2.1.length a0.2.2.1.2),(.slice a0.2.2.2.1 b0.2.2.length a0.2.2.2.2),(.slice f0.1 l0.length f0.2)]∧Rw 4 w' O' 3 (.slice a0.2.1.1 b0.1.length a0.2.1.2) b0.1∧Rw 5 w' O' 3 (.slice a0.2.2.1.1 b0.2.1.length a0.2.2.1.2) b0.2.1∧Rw 6 w' O' 123 (.slice a0.2.2.2.1 b0.2.2.length a0.2.2.2.2) b0.2.2∧Rw 13 w' O' 61 (.slice f0.1 l0.length f0.2) l0∧Lc 8 w' O' c2 61 [(.string c0.name),(.int .i64 c0.cost),(.slice d2 f1.length e2),(.slice a2 c0.effs.length b2)]∧Rw 9 w' O' 123 (.slice d2 f1.length e2) f1∧Vb w' (Fr 0 w' O') (.slice a2 c0.effs.length b2) c0.effs∧Rw 12 w' O' 76 (.slice v0.1 o1.length v0.2) o1∧Vb w' (Fr 0 w' O') (.slice w2 x0.ops.length x2) x0.ops)) ?_ ?_
  ·
   refine AM ?_
   replace hB:=(((hB.st h0).st i0).st j0).st g0
   replace t0:=(((t0.st h0).st i0).st j0).st g0
   replace n0:=(((n0.st h0).st i0).st j0).st g0
   replace s0:=(((s0.st h0).st i0).st j0).st g0
   replace c1:=(((c1.st h0).st i0).st j0).st g0
   replace d1:=(((d1.st h0).st i0).st j0).st g0
   replace e1:=(((e1.st h0).st i0).st j0).st g0
   replace e0:=(((e0.st h0).st i0).st j0).st g0
   replace k0:=k0.st g0
   refine By (σ:=(List Eff)) (X:=(Option Addr×Nat)) (c0.effs.length) n4 rfl n3 (fun (o1:(List Eff)) (v0:(Option Addr×Nat))=>[(2,(.pointer (some ⟨i2,0,none⟩))),(3,(.pointer (some ⟨a0.1,0,none⟩))),(5,(.pointer (some ⟨c2,0,none⟩))),(6,(.slice v0.1 o1.length v0.2)),(20,(.slice w2 x0.ops.length x2)),(21,(.int .i64 (x0.ops.length:Int))),(22,(.int .i64 (m3:Int))),(31,(.slice a2 c0.effs.length b2))]) _ (fun o1 v0 w'=>∃ O':Lab,Bs w A w' O'∧Lc 3 w' O' i2 26 [(.slice none 0 0),(.slice none 0 0),(.slice none 0 0),(.slice none 0 0)]∧Lc 7 w' O' a0.1 26 [(.slice a0.2.1.1 b0.1.length a0.2.1.2),(.slice a0.2.2.1.1 b0.2.1.length a0.2.2.1.2),(.slice a0.2.2.2.1 b0.2.2.length a0.2.2.2.2),(.slice f0.1 l0.length f0.2)]∧Rw 4 w' O' 3 (.slice a0.2.1.1 b0.1.length a0.2.1.2) b0.1∧Rw 5 w' O' 3 (.slice a0.2.2.1.1 b0.2.1.length a0.2.2.1.2) b0.2.1∧Rw 6 w' O' 123 (.slice a0.2.2.2.1 b0.2.2.length a0.2.2.2.2) b0.2.2∧Rw 13 w' O' 61 (.slice f0.1 l0.length f0.2) l0∧Lc 8 w' O' c2 61 [(.string c0.name),(.int .i64 c0.cost),(.slice d2 f1.length e2),(.slice a2 c0.effs.length b2)]∧Rw 9 w' O' 123 (.slice d2 f1.length e2) f1∧Vb w' (Fr 0 w' O') (.slice a2 c0.effs.length b2) c0.effs∧Rw 12 w' O' 76 (.slice v0.1 o1.length v0.2) o1∧Vb w' (Fr 0 w' O') (.slice w2 x0.ops.length x2) x0.ops) _ (none,0) ⟨m4,hB,n0,s0,c1,d1,e1,e0,d0,k0,u0,(Rw.nil 12 (by decide)),t0⟩ ⟨rfl,rfl,rfl,rfl,rfl,rfl,rfl,rfl,rfl,rfl,trivial⟩ (fun _ _=>⟨rfl,rfl⟩) (fun _ _=>⟨rfl,rfl,rfl,rfl,rfl,rfl,rfl,trivial⟩) (fun _ _ _ ⟨O',hB,n0,s0,c1,d1,e1,e0,d0,k0,u0,g1,t0⟩=>⟨O',hB,n0,s0,c1,d1,e1,e0,d0,k0,u0,g1,t0⟩) ⟨rfl,rfl,rfl⟩ ⟨rfl,rfl⟩ ?_
   rintro s6 h1 o1 v0 k9 f8 h3 ⟨t6,hB,n0,s0,c1,d1,e1,e0,d0,k0,u0,g1,t0⟩ x1 l5 m5
   have rk213:inI64 (s6:Int):=rngK h3 n3
   refine Al (Aj ?_)
   obtain ⟨l9,m9,g8,o4,p4,q4,n9,rfl,b3,u6,w6⟩:=u0.elem' h3
   obtain ⟨x6,y6,rfl⟩:=b3.form
   refine Bo (hA:=o4) (hj:=rfl) (hlt:=p4) rfl rfl rfl ?_
   refine Bk (hl:=rfl) (hc:=q4) rfl rfl ?_
   refine Ch 10 t6 rfl fun r4 o9 s4 o0 w0=>?_
   refine Br w0 rfl rfl rfl (BN rfl) (allOne rfl) fun z6 p0 w0=>?_
   replace w0:Lc 10 z6 s4 r4 76 [(.slice x6 h1.cond.length y6),(.int .i64 h1.var),(.int .i64 h1.val)]:=w0
   refine o_z ?_
   refine Al (Aj (AE rfl rfl (AC (hc:=Blk.cell (i:=0) (w0.1) rfl) rfl rfl ?_)))
   obtain ⟨c3,a7,x1⟩:=bs x1
   replace b3:=(b3.st o0).st p0
   refine CR 11 (by decide) (O:=s4) (BD Fr.lt b3 a7) rfl rfl fun t4 u4 p9 b7 q0 l2=>?_
   refine AE rfl rfl ?_
   replace w0:=w0.st q0
   refine Br w0 rfl rfl rfl (BN rfl) (allOne rfl) fun c7 r0 w0=>?_
   replace w0:Lc 10 c7 b7 r4 76 [(.slice t4 c3.length u4),(.int .i64 h1.var),(.int .i64 h1.val)]:=w0
   refine o_z ?_
   refine Aj (Am rfl rfl (Bk (hl:=rfl) (hc:=(w0.1).cellsAt) rfl rfl ?_))
   replace l2:=l2.st r0
   obtain ⟨q9,y0,l2⟩:=l2.freeze
   obtain ⟨r9,p3,x1⟩:=bs x1
   obtain ⟨p3,d7,e7⟩:=Cc p3
   replace g1:=((((g1.st o0).st p0).st q0).st r0).st y0
   refine Ed rfl (a:=(⟨c3,h1.var,h1.val⟩:Eff)) g1 (Vb.ofAgg (cs:=[(.slice t4 c3.length u4),(.int .i64 h1.var),(.int .i64 h1.val)]) (x:=(⟨c3,h1.var,h1.val⟩:Eff)) rfl ⟨_,rfl,l2,u6,w6⟩) (fun _=>rfl) rfl (by decide) (by decide) d7 e7 ⟨rfl,rfl⟩ fun s9 f7 g7 t9 u9 i1 w4=>?_
   rw [← p3] at w4 ⊢
   refine An rfl rfl (o_z ?_)
   obtain rfl:=sm x1
   exact show Exists _ from ⟨_,(f7,g7),rfl,⟨rfl,rfl,rfl,rfl,rfl,rfl,rfl,rfl,rfl,rfl,trivial⟩,_,(((((hB.st o0).st p0).st q0).st r0).st y0).st i1,(((((n0.st o0).st p0).st q0).st r0).st y0).st i1,(((((s0.st o0).st p0).st q0).st r0).st y0).st i1,(((((c1.st o0).st p0).st q0).st r0).st y0).st i1,(((((d1.st o0).st p0).st q0).st r0).st y0).st i1,(((((e1.st o0).st p0).st q0).st r0).st y0).st i1,(((((e0.st o0).st p0).st q0).st r0).st y0).st i1,(((((d0.st o0).st p0).st q0).st r0).st y0).st i1,(((((k0.st o0).st p0).st q0).st r0).st y0).st i1,(((((u0.st o0).st p0).st q0).st r0).st y0).st i1,w4,(((((t0.st o0).st p0).st q0).st r0).st y0).st i1⟩
  replace hB:=(((hB.st h0).st i0).st j0).st g0
  replace t0:=(((t0.st h0).st i0).st j0).st g0
  replace n0:=(((n0.st h0).st i0).st j0).st g0
  replace s0:=(((s0.st h0).st i0).st j0).st g0
  replace c1:=(((c1.st h0).st i0).st j0).st g0
  replace d1:=(((d1.st h0).st i0).st j0).st g0
  replace e1:=(((e1.st h0).st i0).st j0).st g0
  replace e0:=(((e0.st h0).st i0).st j0).st g0
  replace k0:=k0.st g0
  rintro v9 w9 ⟨d3,e3,rfl,x4,i7,hB,n0,s0,c1,d1,e1,e0,d0,k0,u0,g1,t0⟩
  replace m0:=AX m0
  refine AN _ x4 ?_
  refine Al (Aj (Am rfl rfl (AE rfl rfl (Br d0 rfl rfl rfl (BN rfl) (allOne rfl) fun j7 p1 d0=>?_))))
  replace d0:Lc 8 j7 i7 c2 61 [(.string c0.name),(.int .i64 c0.cost),(.slice d2 f1.length e2),(.slice e3.1 d3.length e3.2)]:=d0
  refine o_z ?_
  refine Aj (AE rfl rfl ?_)
  replace s0:=s0.st p1
  refine AC (hc:=Blk.cell (i:=3) (s0.1) rfl) rfl rfl ?_
  refine Bk (hl:=rfl) (hc:=(d0.1).cellsAt) rfl rfl ?_
  replace k0:=k0.st p1
  obtain ⟨x9,s1,k0⟩:=k0.freeze
  replace g1:=(g1.st p1).st s1
  obtain ⟨y9,t1,g1⟩:=g1.freeze
  obtain ⟨k7,q3,m0⟩:=bs m0
  obtain ⟨q3,l7,m7⟩:=Cc q3
  replace e0:=((e0.st p1).st s1).st t1
  replace k0:=k0.st t1
  refine Ed rfl (a:=(⟨c0.name,c0.cost,f1,d3⟩:Opr)) e0 (Vb.ofAgg (cs:=[(.string c0.name),(.int .i64 c0.cost),(.slice d2 f1.length e2),(.slice e3.1 d3.length e3.2)]) (x:=(⟨c0.name,c0.cost,f1,d3⟩:Opr)) rfl ⟨_,_,rfl,k0,g1,l6,m6⟩) (fun _=>rfl) rfl (by decide) (by decide) l7 m7 ⟨rfl,rfl⟩ fun z9 y4 z4 aA n7 f2 a5=>?_
  rw [← q3] at a5 ⊢
  refine AE rfl rfl ?_
  replace s0:=((s0.st s1).st t1).st f2
  refine Br s0 rfl rfl rfl (BN rfl) (allOne rfl) fun o7 g2 s0=>?_
  replace s0:Lc 7 o7 n7 a0.1 26 [(.slice a0.2.1.1 b0.1.length a0.2.1.2),(.slice a0.2.2.1.1 b0.2.1.length a0.2.2.1.2),(.slice a0.2.2.2.1 b0.2.2.length a0.2.2.2.2),(.slice y4 k7.length z4)]:=s0
  refine o_z ?_
  obtain rfl:=sm m0
  exact show Exists _ from ⟨_,(y4,z4),rfl,⟨rfl,rfl,rfl,rfl,rfl,trivial⟩,_,((((hB.st p1).st s1).st t1).st f2).st g2,((((n0.st p1).st s1).st t1).st f2).st g2,s0,((((c1.st p1).st s1).st t1).st f2).st g2,((((d1.st p1).st s1).st t1).st f2).st g2,((((e1.st p1).st s1).st t1).st f2).st g2,a5.st g2,((((t0.st p1).st s1).st t1).st f2).st g2⟩
 rintro bA cA ⟨f3,h2,rfl,b5,p7,hB,n0,s0,c1,d1,e1,e0⟩
 replace hm:=AX hm
 refine AN _ b5 ?_
 refine Al (Aj (Bk (hl:=rfl) (hc:=(s0.1).cellsAt) rfl rfl ?_))
 refine Br n0 rfl rfl rfl (BN rfl) (allOne rfl) fun c5 m2 n0=>?_
 replace n0:Lc 3 c5 p7 i2 26 [(.slice a0.2.1.1 b0.1.length a0.2.1.2),(.slice a0.2.2.1.1 b0.2.1.length a0.2.2.1.2),(.slice a0.2.2.2.1 b0.2.2.length a0.2.2.2.2),(.slice h2.1 f3.length h2.2)]:=n0
 refine o_z ?_
 refine AG ?_
 replace c1:=c1.st m2
 obtain ⟨dA,n2,c1⟩:=c1.freeze
 replace d1:=(d1.st m2).st n2
 obtain ⟨eA,o2,d1⟩:=d1.freeze
 replace e1:=((e1.st m2).st n2).st o2
 obtain ⟨fA,p2,e1⟩:=e1.freeze
 replace e0:=(((e0.st m2).st n2).st o2).st p2
 obtain ⟨q7,q2,e0⟩:=e0.freeze
 obtain rfl:=sm hm
 replace hB:=((((hB.st m2).st n2).st o2).st p2).st q2
 replace n0:=(((n0.st n2).st o2).st p2).st q2
 replace c1:=((c1.st o2).st p2).st q2
 replace d1:=(d1.st p2).st q2
 replace e1:=e1.st q2
 exact ret1v rfl (GS (cs:=[(.slice a0.2.1.1 b0.1.length a0.2.1.2),(.slice a0.2.2.1.1 b0.2.1.length a0.2.2.1.2),(.slice a0.2.2.2.1 b0.2.2.length a0.2.2.2.2),(.slice h2.1 f3.length h2.2)]) rfl rfl n0.1.cellsAt) ⟨hB.ext,(Vb.mono (F:=Fr 0 c5 q7) (Vb.ofAgg (cs:=[(.slice a0.2.1.1 b0.1.length a0.2.1.2),(.slice a0.2.2.1.1 b0.2.1.length a0.2.2.1.2),(.slice a0.2.2.2.1 b0.2.2.length a0.2.2.2.2),(.slice h2.1 f3.length h2.2)]) (x:=(⟨b0.1,b0.2.1,b0.2.2,f3⟩:Tsk)) rfl ⟨_,_,_,_,rfl,c1,d1,e1,e0⟩) hB.out)⟩
noncomputable def BB (x0:List (List Arc)) (x1:List Int):Option ((List Int)×(List Int)) :=
  bnd (mkI 8 (0:Int) (x0.length:Int)) fun u7=>bnd (mkI 8 (0:Int) (x0.length:Int)) fun u9=>bnd (some (u7,u9):Option ((List Int)×(List Int))) fun y11=>bnd (rngN (ρ:=(List Int)×(List Int)) (fun (k77:Nat) (s75:(List Int)×(List Int))=>bnd (s75.1[k77]?) fun a104=>bnd (s75.2[k77]?) fun a116=>some (.next ((s75.1.set k77 1125899906842624),(s75.2.set k77 1125899906842624)))) y11.1.length (y11.1,y11.2)) fun res73=>fin res73 fun (s132:(List Int)×(List Int))=>bnd (DR) fun q134=>bnd q134 fun o144=>bnd (rng (ρ:=(List Int)×(List Int)) (fun (k151:Nat) (a152:Int) (s149:(List Int)×(List Int)×Que)=>bnd (atI s149.1 a152) fun a180=>bnd (atI s149.2.1 a152) fun a194=>bnd (BI s149.2.2 0 0 a152) fun q208=>some (.next ((s149.1.set (a152:Int).toNat 0),(s149.2.1.set (a152:Int).toNat 0),q208.2))) x1 0 (s132.1,s132.2,o144)) fun res147=>fin res147 fun (s222:(List Int)×(List Int)×Que)=>bnd (lop (ρ:=(List Int)×(List Int)) (fun (s226:(List Int)×(List Int)×Que)=>bnd (CG s226.2.2) fun q249=>if 0 < q249 then (bnd (Cr s226.2.2) fun q260=>if q260.2.2.2.1.n≠0 then (some (.brk (s226.1,s226.2.1,q260.2.2.2.2))) else (bnd (bnd (atI s226.1 q260.2.2.1) fun a285=>if q260.1≠a285 then (some true) else (bnd (atI s226.2.1 q260.2.2.1) fun a298=>if q260.2.1≠a298 then (some true) else (some false)):Option Bool) fun y281=>if y281=true then (some (.next (s226.1,s226.2.1,q260.2.2.2.2))) else (bnd (atI x0 q260.2.2.1) fun a316=>bnd (rng (ρ:=Ctl ((List Int)×(List Int)×Que) ((List Int)×(List Int))) (fun (k337:Nat) (a338:Arc) (s335:(List Int)×(List Int)×Que)=>bnd (chkI (q260.1 + a338.weight)) fun n375=>bnd (chkI (q260.2.1 + 1)) fun n378=>bnd (bnd (atI s335.1 a338.dst) fun a385=>if a385 < n375 then (some true) else (bnd (atI s335.1 a338.dst) fun a398=>if n375=a398 then (bnd (atI s335.2.1 a338.dst) fun a411=>if a411≤n378 then (some true) else (some false)) else (some false)):Option Bool) fun y381=>if y381=true then (some (.next (s335.1,s335.2.1,s335.2.2))) else (bnd (atI s335.1 a338.dst) fun a429=>bnd (atI s335.2.1 a338.dst) fun a443=>bnd (BI s335.2.2 n375 n378 a338.dst) fun q457=>if q457.1.n≠0 then (bnd (DE x0 (s335.1.set (a338.dst:Int).toNat n375) (s335.2.1.set (a338.dst:Int).toNat n378)) fun q472=>some (.ret (.ret (q472.1,q472.2)))) else (some (.next ((s335.1.set (a338.dst:Int).toNat n375),(s335.2.1.set (a338.dst:Int).toNat n378),q457.2))))) a316 0 (s226.1,s226.2.1,q260.2.2.2.2)) fun res333=>fin res333 fun (s491:(List Int)×(List Int)×Que)=>some (.next (s491.1,s491.2.1,s491.2.2))))) else (some (.brk (s226.1,s226.2.1,s226.2.2)))) (s222.1,s222.2.1,s222.2.2)) fun res224=>fin res224 fun (s497:(List Int)×(List Int)×Que)=>some (s497.1,s497.2.1)
theorem EV {w:World} {A:Nat→Prop} (hA:∀ k,A k→k < w.heap.size) {vx0:Value} {x0:List (List Arc)} (f0:Vb w A vx0 x0) {vx1:Value} {x1:List Int} (y0:Vb w A vx1 x1) {r:(List Int)×(List Int)} (hm:BB x0 x1=some r) :
    Fn Tryz.prog 60 [vx0,vx1] w fun v w'=>Ext w w'∧T2 w' (upA A w w') v r:=by
 obtain ⟨O,hB,z8⟩:=enter hA
 replace f0:=f0.mono z8
 obtain ⟨A3,c4,rfl⟩:=f0.form
 replace y0:=y0.mono z8
 obtain ⟨A5,c6,rfl⟩:=y0.form
 refine AH Tryz.func60 rfl Tryz.ntmps60 rfl ?_
 unfold BB at hm
 refine Al (Aj (An rfl rfl (An rfl rfl (o_z ?_))))
 refine Al ?_
 obtain ⟨u7,e8,hm⟩:=bs hm
 obtain ⟨u9,a9,hm⟩:=bs hm
 obtain ⟨j0,f3,hm⟩:=bs hm
 refine AJ (fun l' w'=>∃ (a0:(Option Addr×Nat)×(Option Addr×Nat)) (O':Lab),subs l' [(0,(.slice A3 x0.length c4)),(1,(.slice A5 x1.length c6)),(6,(.slice a0.1.1 j0.1.length a0.1.2)),(7,(.slice a0.2.1 j0.2.length a0.2.2))]∧Bs w A w' O'∧Vb w' (Fr 0 w' O') (.slice A3 x0.length c4) x0∧Vb w' (Fr 0 w' O') (.slice A5 x1.length c6) x1∧Rw 2 w' O' 3 (.slice a0.1.1 j0.1.length a0.1.2) j0.1∧Rw 3 w' O' 3 (.slice a0.2.1 j0.2.length a0.2.2) j0.2) ?_ ?_
 ·
  refine BG [] O ?_
  refine Bb (fuel:=4) [] [(0,true),(1,true),(3,true),(4,true)] (by kernel_rfl) rfl ?_
  refine AK rfl rfl rfl (JQ rfl rfl rfl ?_)
  have fA:x0.length≤9223372036854775807:=Nat.le_trans f0.len.2.1 f0.len.2.2
  have iG:inI64 (x0.length:Int):=rngNat fA
  refine AK rfl rfl rfl (JQ rfl rfl rfl ?_)
  have gA:x0.length≤9223372036854775807:=Nat.le_trans f0.len.2.1 f0.len.2.2
  have jG:inI64 (x0.length:Int):=rngNat gA
  refine AL ?_
  refine Ku (i:=2) (j:=5) (by kernel_rfl) rfl rfl ?_ ?_
  ·
   obtain ⟨iA,jA,kA,lA,mA⟩:=Dw e8
   refine FO 2 (by decide) O (z0:=(0:Int)) rfl rfl rfl rfl rfl jA (vInt (show inI64 0 from by decide)) kA lA rfl fun nA kG oA s5 b9=>?_
   rw [← mA] at b9 ⊢
   have hZ:=s5.lst [] (fun _ h=>h.elim)
   refine BE [] hZ (by kernel_rfl) ?_
   refine Bb (fuel:=2) [] [(6,true)] (by kernel_rfl) rfl ?_
   refine Ek rfl rfl rfl (AL ?_)
   refine Bg (i:=5) (by kernel_rfl) rfl ?_
   obtain ⟨pA,qA,rA,sA,tA⟩:=Dw a9
   refine FO 3 (by decide) oA (z0:=(0:Int)) rfl rfl rfl rfl rfl qA (vInt (show inI64 0 from by decide)) rA sA rfl fun uA lG mG g3 c9=>?_
   rw [← tA] at c9 ⊢
   have hZ:=g3.lst [] (fun _ h=>h.elim)
   refine BE [] hZ (by kernel_rfl) ?_
   refine Bb (fuel:=0) [] [(7,true)] (by kernel_rfl) rfl ?_
   refine Ek rfl rfl rfl (AL ?_)
   refine Ck (by kernel_rfl) ?_
   obtain rfl:=sm f3
   exact ⟨(((some ⟨nA,0,none⟩),iA),((some ⟨uA,0,none⟩),pA)),_,⟨rfl,rfl,rfl,rfl,trivial⟩,(hB.st s5).st g3,(f0.st s5).st g3,(y0.st s5).st g3,b9.st g3,c9⟩
  obtain ⟨vA,wA,xA,yA,zA⟩:=Dw a9
  refine FO 3 (by decide) O (z0:=(0:Int)) rfl rfl rfl rfl rfl wA (vInt (show inI64 0 from by decide)) xA yA rfl fun aB nG bB t5 d9=>?_
  rw [← zA] at d9 ⊢
  have hZ:=t5.lst [] (fun _ h=>h.elim)
  refine BE [] hZ (by kernel_rfl) ?_
  refine Bg (i:=2) (by kernel_rfl) rfl ?_
  obtain ⟨cB,dB,eB,fB,gB⟩:=Dw e8
  refine FO 2 (by decide) bB (z0:=(0:Int)) rfl rfl rfl rfl rfl dB (vInt (show inI64 0 from by decide)) eB fB rfl fun iB oG pG h3 e9=>?_
  rw [← gB] at e9 ⊢
  have hZ:=h3.lst [] (fun _ h=>h.elim)
  refine BE [] hZ (by kernel_rfl) ?_
  refine Bb (fuel:=0) [] [(6,true),(7,true)] (by kernel_rfl) rfl ?_
  refine Ek rfl rfl rfl (Ek rfl rfl rfl (AL ?_))
  refine Ck (by kernel_rfl) ?_
  obtain rfl:=sm f3
  exact ⟨(((some ⟨iB,0,none⟩),cB),((some ⟨aB,0,none⟩),vA)),_,⟨rfl,rfl,rfl,rfl,trivial⟩,(hB.st t5).st h3,(f0.st t5).st h3,(y0.st t5).st h3,e9,d9.st h3⟩
 rintro qG rG ⟨a0,jB,y5,hB,f0,y0,z5,kB⟩
 refine AN _ y5 ?_
 refine Al (Al (Aj (Am rfl rfl (AP rfl rfl ?_))))
 have a6:j0.1.length≤9223372036854775807:=Nat.le_trans z5.len.2.1 z5.len.2.2
 have sG:inI64 (j0.1.length:Int):=rngNat a6
 refine Am rfl rfl (o_z ?_)
 obtain ⟨i3,b6,hm⟩:=bs hm
 refine AJ (aft i3 (fun (d2:(List Int)×(List Int)) (u5:Unit)=>[(0,(.slice A3 x0.length c4)),(1,(.slice A5 x1.length c6)),(6,(.slice a0.1.1 j0.1.length a0.1.2)),(7,(.slice a0.2.1 j0.2.length a0.2.2))]) (fun d2 u5 w'=>∃ O':Lab,Bs w A w' O'∧Vb w' (Fr 0 w' O') (.slice A3 x0.length c4) x0∧Vb w' (Fr 0 w' O') (.slice A5 x1.length c6) x1∧Rw 2 w' O' 3 (.slice a0.1.1 j0.1.length a0.1.2) d2.1∧Rw 3 w' O' 3 (.slice a0.2.1 j0.2.length a0.2.2) d2.2)) ?_ ?_
 ·
  refine AM (HV (σ:=(List Int)×(List Int)) (X:=Unit) (j0.1.length) b6 a6 (fun (d2:(List Int)×(List Int)) (u5:Unit)=>[(0,(.slice A3 x0.length c4)),(1,(.slice A5 x1.length c6)),(6,(.slice a0.1.1 j0.1.length a0.1.2)),(7,(.slice a0.2.1 j0.2.length a0.2.2))]) _ (fun d2 u5 w'=>∃ O':Lab,Bs w A w' O'∧Vb w' (Fr 0 w' O') (.slice A3 x0.length c4) x0∧Vb w' (Fr 0 w' O') (.slice A5 x1.length c6) x1∧Rw 2 w' O' 3 (.slice a0.1.1 j0.1.length a0.1.2) d2.1∧Rw 3 w' O' 3 (.slice a0.2.1 j0.2.length a0.2.2) d2.2) _ () ⟨jB,hB,f0,y0,z5,kB⟩ ⟨rfl,rfl,rfl,rfl,rfl,rfl,trivial⟩ (fun _ _=>⟨rfl,rfl⟩) (fun _ _=>⟨rfl,rfl,rfl,rfl,trivial⟩) (fun _ _ _ ⟨O',hB,f0,y0,a1,u0⟩=>⟨O',hB,f0,y0,a1,u0⟩) ⟨rfl,rfl,rfl⟩ ⟨rfl,rfl⟩ ?_)
  rintro lB d2 u5 tG mB d6 ⟨uG,hB,f0,y0,a1,u0⟩ p1 e6 f6
  have rk77:inI64 (lB:Int):=rngKN d6 a6
  refine Al (Aj (Am rfl rfl (An rfl rfl (o_z ?_))))
  refine Aj (Am rfl rfl (Am rfl rfl (Am rfl rfl (Am rfl rfl ?_))))
  obtain ⟨nB,j3,p1⟩:=bs p1
  obtain ⟨oB,pB,f9,e2,k3,g9,rfl,qB⟩:=a1.elem j3
  refine Bo (hA:=e2) (hj:=rfl) (hlt:=k3) rfl rfl rfl ?_
  refine Dh rfl a1 (a:=1125899906842624) (vInt (show inI64 (1125899906842624) from by decide)) e2 rfl rfl (AD j3) fun rB t1 a1=>?_
  obtain ⟨sB,l3,p1⟩:=bs p1
  replace u0:=u0.st t1
  obtain ⟨tB,uB,h9,f2,m3,i9,rfl,vB⟩:=u0.elem l3
  refine Bo (hA:=f2) (hj:=rfl) (hlt:=m3) rfl rfl rfl ?_
  refine Dh rfl u0 (a:=1125899906842624) (vInt (show inI64 (1125899906842624) from by decide)) f2 rfl rfl (AD l3) fun wB u1 u0=>?_
  refine o_z ?_
  obtain rfl:=sm p1
  exact show Exists _ from ⟨_,(),rfl,⟨rfl,rfl,rfl,rfl,rfl,rfl,trivial⟩,_,(hB.st t1).st u1,(f0.st t1).st u1,(y0.st t1).st u1,a1.st u1,u0⟩
 rintro xB yB ⟨zB,aC,rfl,n3,g6,hB,f0,y0,a1,u0⟩
 replace hm:=AX hm
 refine AN _ n3 ?_
 refine Al (Aj ?_)
 obtain ⟨bC,h6,hm⟩:=bs hm
 refine BH (O:=g6) (Ml 4 (by decide) h6) rfl rfl fun cC dC i6 j1 m2=>?_
 refine An rfl rfl (o_z ?_)
 refine Al (Al (Aj (Am rfl rfl (AP rfl rfl ?_))))
 replace y0:=y0.st j1
 have n2:x1.length≤9223372036854775807:=Nat.le_trans y0.len.2.1 y0.len.2.2
 have eC:inI64 (x1.length:Int):=rngNat n2
 refine Am rfl rfl (o_z ?_)
 obtain ⟨fC,j6,hm⟩:=bs hm
 rw [j6] at m2
 obtain ⟨s0,rfl⟩:=Ob.ptr m2
 obtain ⟨o2,o3,hm⟩:=bs hm
 refine AJ (aft o2 (fun (b1:(List Int)×(List Int)×Que) (v1:Unit)=>[(0,(.slice A3 x0.length c4)),(6,(.slice a0.1.1 j0.1.length a0.1.2)),(7,(.slice a0.2.1 j0.2.length a0.2.2)),(9,(.pointer (some ⟨s0,0,none⟩)))]) (fun b1 v1 w'=>∃ O':Lab,Bs w A w' O'∧Vb w' (Fr 0 w' O') (.slice A3 x0.length c4) x0∧Rw 2 w' O' 3 (.slice a0.1.1 j0.1.length a0.1.2) b1.1∧Rw 3 w' O' 3 (.slice a0.2.1 j0.2.length a0.2.2) b1.2.1∧Ob 4 w' O' (.pointer (some ⟨s0,0,none⟩)) b1.2.2)) ?_ ?_
 ·
  refine AM ?_
  replace hB:=hB.st j1
  replace f0:=f0.st j1
  replace a1:=a1.st j1
  replace u0:=u0.st j1
  refine By (σ:=(List Int)×(List Int)×Que) (X:=Unit) (x1.length) o3 rfl n2 (fun (b1:(List Int)×(List Int)×Que) (v1:Unit)=>[(0,(.slice A3 x0.length c4)),(6,(.slice a0.1.1 j0.1.length a0.1.2)),(7,(.slice a0.2.1 j0.2.length a0.2.2)),(9,(.pointer (some ⟨s0,0,none⟩))),(39,(.slice A5 x1.length c6))]) _ (fun b1 v1 w'=>∃ O':Lab,Bs w A w' O'∧Vb w' (Fr 0 w' O') (.slice A3 x0.length c4) x0∧Rw 2 w' O' 3 (.slice a0.1.1 j0.1.length a0.1.2) b1.1∧Rw 3 w' O' 3 (.slice a0.2.1 j0.2.length a0.2.2) b1.2.1∧Ob 4 w' O' (.pointer (some ⟨s0,0,none⟩)) b1.2.2∧Vb w' (Fr 0 w' O') (.slice A5 x1.length c6) x1) _ () ⟨i6,hB,f0,a1,u0,m2,y0⟩ ⟨rfl,rfl,rfl,rfl,rfl,rfl,rfl,trivial⟩ (fun _ _=>⟨rfl,rfl⟩) (fun _ _=>⟨rfl,rfl,rfl,rfl,trivial⟩) (fun _ _ _ ⟨O',hB,f0,h1,c1,k1,y0⟩=>⟨O',hB,f0,h1,c1,k1⟩) ⟨rfl,rfl,rfl⟩ ⟨rfl,rfl⟩ ?_
  rintro k6 gC b1 v1 hC j9 g2 ⟨l6,hB,f0,h1,c1,k1,y0⟩ v0 v5 w5
  have rk151:inI64 (k6:Int):=rngK g2 n2
  refine Al (Aj ?_)
  obtain ⟨iC,jC,k9,p3,q3,r3,rfl,m6⟩:=y0.elem' g2
  refine Bo (hA:=p3) (hj:=rfl) (hlt:=q3) rfl rfl rfl ?_
  refine AC (hc:=cat0 r3) rfl rfl ?_
  refine An rfl rfl (o_z ?_)
  refine Al (Aj (Am rfl rfl (Am rfl rfl (Am rfl rfl (Am rfl rfl ?_)))))
  obtain ⟨kC,n6,v0⟩:=bs v0
  obtain ⟨o6,s3⟩:=AO n6
  obtain ⟨lC,mC,l9,h2,t3,m9,rfl,nC⟩:=h1.elem s3
  refine Bo (hA:=h2) (hj:=(Int.toNat_of_nonneg o6).symm) (hlt:=t3) rfl rfl rfl ?_
  refine Dh rfl h1 (a:=0) (vInt (show inI64 (0) from by decide)) h2 rfl rfl (AD s3) fun oC q1 h1=>?_
  obtain ⟨pC,p6,v0⟩:=bs v0
  obtain ⟨q6,u3⟩:=AO p6
  replace c1:=c1.st q1
  obtain ⟨qC,rC,n9,i2,v3,o9,rfl,sC⟩:=c1.elem u3
  refine Bo (hA:=i2) (hj:=(Int.toNat_of_nonneg q6).symm) (hlt:=v3) rfl rfl rfl ?_
  refine Dh rfl c1 (a:=0) (vInt (show inI64 (0) from by decide)) i2 rfl rfl (AD u3) fun tC r1 c1=>?_
  refine o_z ?_
  refine Aj (Am rfl rfl (Am rfl rfl ?_))
  obtain ⟨uC,r6,v0⟩:=bs v0
  replace k1:=(k1.st q1).st r1
  refine BH (O:=l6) (FY k1 (show inI64 (0) from by decide) (show inI64 (0) from by decide) m6 r6) rfl rfl fun vC wC xC s1 s6=>?_
  obtain ⟨t6,u6⟩:=s6
  obtain ⟨rfl,yC⟩:=u6.err
  refine o_z ?_
  obtain rfl:=sm v0
  exact show Exists _ from ⟨_,(),rfl,⟨rfl,rfl,rfl,rfl,rfl,rfl,rfl,trivial⟩,_,((hB.st q1).st r1).st s1,((f0.st q1).st r1).st s1,(h1.st r1).st s1,c1.st s1,t6,((y0.st q1).st r1).st s1⟩
 replace hB:=hB.st j1
 replace f0:=f0.st j1
 rintro zC aD ⟨bD,cD,rfl,w3,v6,hB,f0,h1,c1,k1⟩
 replace hm:=AX hm
 refine AN _ w3 ?_
 refine Al ?_
 obtain ⟨p2,x3,hm⟩:=bs hm
 refine AJ (aft p2 (fun (w0:(List Int)×(List Int)×Que) (w1:Unit)=>[(6,(.slice a0.1.1 j0.1.length a0.1.2)),(7,(.slice a0.2.1 j0.2.length a0.2.2))]) (fun w0 w1 w'=>∃ O':Lab,Bs w A w' O'∧Rw 2 w' O' 3 (.slice a0.1.1 j0.1.length a0.1.2) w0.1∧Rw 3 w' O' 3 (.slice a0.2.1 j0.2.length a0.2.2) w0.2.1)) ?_ ?_
 ·
  refine AM (Gc (σ:=(List Int)×(List Int)×Que) (X:=Unit) x3 (fun (w0:(List Int)×(List Int)×Que) (w1:Unit)=>[(0,(.slice A3 x0.length c4)),(6,(.slice a0.1.1 j0.1.length a0.1.2)),(7,(.slice a0.2.1 j0.2.length a0.2.2)),(9,(.pointer (some ⟨s0,0,none⟩)))]) _ (fun w0 w1 w'=>∃ O':Lab,Bs w A w' O'∧Vb w' (Fr 0 w' O') (.slice A3 x0.length c4) x0∧Rw 2 w' O' 3 (.slice a0.1.1 j0.1.length a0.1.2) w0.1∧Rw 3 w' O' 3 (.slice a0.2.1 j0.2.length a0.2.2) w0.2.1∧Ob 4 w' O' (.pointer (some ⟨s0,0,none⟩)) w0.2.2) _ () ⟨v6,hB,f0,h1,c1,k1⟩ ⟨rfl,rfl,rfl,rfl,trivial⟩ ?_)
  rintro w0 w1 dD p9 ⟨w6,hB,f0,l0,m0,x6⟩ b0 y1 l1
  refine Al (Al (Aj (Am rfl rfl ?_)))
  obtain ⟨eD,y6,b0⟩:=bs b0
  refine BH (O:=w6) (IV x6 y6) rfl rfl fun fD gD z6 n0 a7=>?_
  obtain ⟨b7,c7⟩:=a7
  obtain ⟨rfl,hD⟩:=c7.int
  refine BS rfl rfl rfl (fun q2=>?_) fun q2=>?_
  ·
   replace b0:=ip b0 q2
   refine o_z ?_
   refine Ah rfl (AI (AM (Al (Aj (Am rfl rfl ?_)))))
   obtain ⟨i1,d7,b0⟩:=bs b0
   refine BH (O:=z6) (IW b7 d7) rfl rfl fun iD jD kD q0 e7=>?_
   obtain ⟨lD,mD,nD,oD,n1,rfl,f7,g7,h7,i7⟩:=e7
   obtain ⟨rfl,pD⟩:=f7.int
   obtain ⟨rfl,qD⟩:=g7.int
   obtain ⟨rfl,rD⟩:=h7.int
   obtain ⟨rfl,sD⟩:=i7.err
   refine Am rfl rfl (AZ rfl rfl rfl (AZ rfl rfl rfl (AZ rfl rfl rfl (AZ rfl rfl rfl (An rfl rfl (An rfl rfl (An rfl rfl (An rfl rfl (o_z ?_)))))))))
   refine Al (Al (Aj (Am rfl rfl (Dy rfl rfl (fun r2=>?_) fun r2=>?_))))
   ·
    replace b0:=ip b0 r2
    refine o_z ?_
    refine Ah rfl (DN ?_)
    obtain rfl:=sm b0
    exact show Exists _ from ⟨_,(),l1 _ rfl,⟨rfl,rfl,trivial⟩,_,(hB.st n0).st q0,(l0.st n0).st q0,(m0.st n0).st q0⟩
   replace b0:=im b0 r2
   refine o_z ?_
   refine Ae rfl (AI (Al (Al ?_)))
   obtain ⟨j7,k0,b0⟩:=bs b0
   refine AJ (fun l' w'=>∃ (k7:Unit) (O':Lab),subs l' [(0,(.slice A3 x0.length c4)),(6,(.slice a0.1.1 j0.1.length a0.1.2)),(7,(.slice a0.2.1 j0.2.length a0.2.2)),(9,(.pointer (some ⟨s0,0,none⟩))),(12,(.int .i64 i1.1)),(13,(.int .i64 i1.2.1)),(14,(.int .i64 i1.2.2.1)),(80,(.bool j7))]∧Bs w A w' O'∧Vb w' (Fr 0 w' O') (.slice A3 x0.length c4) x0∧Rw 2 w' O' 3 (.slice a0.1.1 j0.1.length a0.1.2) w0.1∧Rw 3 w' O' 3 (.slice a0.2.1 j0.2.length a0.2.2) w0.2.1∧Ob 4 w' O' (.pointer (some ⟨s0,0,none⟩)) i1.2.2.2.2) ?_ ?_
   ·
    refine Aj (Am rfl rfl (Am rfl rfl (Am rfl rfl ?_)))
    obtain ⟨tD,l7,k0⟩:=bs k0
    obtain ⟨m7,n7⟩:=AO l7
    replace l0:=(l0.st n0).st q0
    obtain ⟨uD,vD,q9,y3,z3,a4,rfl,wD⟩:=l0.elem n7
    refine Bo (hA:=y3) (hj:=(Int.toNat_of_nonneg m7).symm) (hlt:=z3) rfl rfl rfl ?_
    refine AC (hc:=cat0 a4) rfl rfl ?_
    refine Gh rfl rfl rfl (fun s2=>?_) fun s2=>?_
    ·
     replace k0:=ip k0 s2
     refine Am rfl rfl (At rfl rfl rfl rfl (At rfl rfl rfl rfl (At rfl rfl rfl rfl (At rfl rfl rfl rfl (At rfl rfl rfl rfl (At rfl rfl rfl rfl (AY rfl rfl rfl (o_z ?_))))))))
     obtain rfl:=sm k0
     exact ⟨(),_,⟨rfl,rfl,rfl,rfl,rfl,rfl,rfl,rfl,trivial⟩,(hB.st n0).st q0,(f0.st n0).st q0,l0,(m0.st n0).st q0,n1⟩
    replace k0:=im k0 s2
    refine Am rfl rfl (Aw rfl rfl (Am rfl rfl (Aw rfl rfl (Am rfl rfl (Aw rfl rfl (Am rfl rfl (Aw rfl rfl ?_)))))))
    obtain ⟨xD,o7,k0⟩:=bs k0
    obtain ⟨p7,q7⟩:=AO o7
    replace m0:=(m0.st n0).st q0
    obtain ⟨yD,zD,r9,b4,d4,e4,rfl,aE⟩:=m0.elem q7
    refine Bo (hA:=b4) (hj:=(Int.toNat_of_nonneg p7).symm) (hlt:=d4) rfl rfl rfl ?_
    refine Aw rfl rfl (AC (hc:=cat0 e4) rfl rfl ?_)
    refine Aw rfl rfl (Gh rfl rfl rfl (fun t2=>?_) fun t2=>?_)
    ·
     replace k0:=ip k0 t2
     refine AQ rfl rfl rfl (o_z ?_)
     obtain rfl:=sm k0
     exact ⟨(),_,⟨rfl,rfl,rfl,rfl,rfl,rfl,rfl,rfl,trivial⟩,(hB.st n0).st q0,(f0.st n0).st q0,l0,m0,n1⟩
    replace k0:=im k0 t2
    refine AQ rfl rfl rfl (o_z ?_)
    obtain rfl:=sm k0
    exact ⟨(),_,⟨rfl,rfl,rfl,rfl,rfl,rfl,rfl,rfl,trivial⟩,(hB.st n0).st q0,(f0.st n0).st q0,l0,m0,n1⟩
   replace hB:=(hB.st n0).st q0
   replace f0:=(f0.st n0).st q0
   replace l0:=(l0.st n0).st q0
   replace m0:=(m0.st n0).st q0
   rintro bE cE ⟨k7,r7,f4,hB,f0,l0,m0,n1⟩
   refine AN _ f4 ?_
   refine CV rfl (fun u2=>?_) (fun u2=>?_)
   ·
    replace b0:=ip b0 u2
    refine DN ?_
    obtain rfl:=sm b0
    exact show Exists _ from ⟨_,(),rfl,⟨rfl,rfl,rfl,rfl,trivial⟩,_,hB,f0,l0,m0,n1⟩
   replace b0:=im' b0 u2
   refine AI (Al (Aj (Am rfl rfl (Am rfl rfl ?_))))
   obtain ⟨d1,s7,b0⟩:=bs b0
   obtain ⟨t7,v7⟩:=AO s7
   obtain ⟨dE,eE,s9,g4,h4,i4,fE,rfl,o0⟩:=f0.elem' v7
   replace o0:=Vb.of_slice o0
   obtain ⟨z1,a2,rfl⟩:=o0.form
   refine Bo (hA:=g4) (hj:=(Int.toNat_of_nonneg t7).symm) (hlt:=h4) rfl rfl rfl ?_
   refine AC (hc:=cat0 i4) rfl rfl ?_
   refine AP rfl rfl ?_
   have v2:d1.length≤9223372036854775807:=Nat.le_trans o0.len.2.1 o0.len.2.2
   have gE:inI64 (d1.length:Int):=rngNat v2
   refine Am rfl rfl (o_z ?_)
   obtain ⟨w2,j4,b0⟩:=bs b0
   refine AJ (aft w2 (fun (t0:(List Int)×(List Int)×Que) (b2:Unit)=>[(0,(.slice A3 x0.length c4)),(6,(.slice a0.1.1 j0.1.length a0.1.2)),(7,(.slice a0.2.1 j0.2.length a0.2.2)),(9,(.pointer (some ⟨s0,0,none⟩)))]) (fun t0 b2 w'=>∃ O':Lab,Bs w A w' O'∧Vb w' (Fr 0 w' O') (.slice A3 x0.length c4) x0∧Rw 2 w' O' 3 (.slice a0.1.1 j0.1.length a0.1.2) t0.1∧Rw 3 w' O' 3 (.slice a0.2.1 j0.2.length a0.2.2) t0.2.1∧Ob 4 w' O' (.pointer (some ⟨s0,0,none⟩)) t0.2.2)) ?_ ?_
   ·
    refine AM (By (σ:=(List Int)×(List Int)×Que) (X:=Unit) (d1.length) j4 rfl v2 (fun (t0:(List Int)×(List Int)×Que) (b2:Unit)=>[(0,(.slice A3 x0.length c4)),(6,(.slice a0.1.1 j0.1.length a0.1.2)),(7,(.slice a0.2.1 j0.2.length a0.2.2)),(9,(.pointer (some ⟨s0,0,none⟩))),(12,(.int .i64 i1.1)),(13,(.int .i64 i1.2.1)),(84,(.slice z1 d1.length a2))]) _ (fun t0 b2 w'=>∃ O':Lab,Bs w A w' O'∧Vb w' (Fr 0 w' O') (.slice A3 x0.length c4) x0∧Rw 2 w' O' 3 (.slice a0.1.1 j0.1.length a0.1.2) t0.1∧Rw 3 w' O' 3 (.slice a0.2.1 j0.2.length a0.2.2) t0.2.1∧Ob 4 w' O' (.pointer (some ⟨s0,0,none⟩)) t0.2.2∧Vb w' (Fr 0 w' O') (.slice z1 d1.length a2) d1) _ () ⟨r7,hB,f0,l0,m0,n1,o0⟩ ⟨rfl,rfl,rfl,rfl,rfl,rfl,rfl,rfl,rfl,trivial⟩ (fun _ _=>⟨rfl,rfl⟩) (fun _ _=>⟨rfl,rfl,rfl,rfl,trivial⟩) (fun _ _ _ ⟨O',hB,f0,e0,g0,r0,o0⟩=>⟨O',hB,f0,e0,g0,r0⟩) ⟨rfl,rfl,rfl⟩ ⟨rfl,rfl⟩ ?_)
    rintro k4 o1 t0 b2 hE t9 j2 ⟨w7,hB,f0,e0,g0,r0,o0⟩ c0 c2 x5
    have rk337:inI64 (k4:Int):=rngK j2 v2
    refine Al (Aj ?_)
    obtain ⟨iE,jE,v9,l4,m4,n4,rfl,kE,x7,lE⟩:=o0.elem' j2
    refine Bo (hA:=l4) (hj:=rfl) (hlt:=m4) rfl rfl rfl ?_
    refine Bk (hl:=rfl) (hc:=n4) rfl rfl ?_
    refine Ch 5 w7 rfl fun x2 mE y7 h0 p0=>?_
    refine Br p0 rfl rfl rfl (BN rfl) (allOne rfl) fun z7 i0 p0=>?_
    replace p0:Lc 5 z7 y7 x2 106 [(.int .i64 o1.src),(.int .i64 o1.dst),(.int .i64 o1.weight)]:=p0
    refine o_z ?_
    refine Al (Aj (Am rfl rfl (AE rfl rfl (AC (hc:=Blk.cell (i:=2) (p0.1) rfl) rfl rfl ?_))))
    obtain ⟨o4,p4,c0⟩:=bs c0
    have q4:=(Bw p4)
    refine Ee (he:=p4) rfl rfl rfl ?_
    refine Am rfl rfl ?_
    obtain ⟨r4,s4,c0⟩:=bs c0
    have t4:=(Bw s4)
    refine Ee (he:=s4) rfl rfl rfl ?_
    refine An rfl rfl (An rfl rfl (o_z ?_))
    refine Al (Al ?_)
    obtain ⟨a8,d0,c0⟩:=bs c0
    refine AJ (fun l' w'=>∃ (b8:Unit) (O':Lab),subs l' [(0,(.slice A3 x0.length c4)),(6,(.slice a0.1.1 j0.1.length a0.1.2)),(7,(.slice a0.2.1 j0.2.length a0.2.2)),(9,(.pointer (some ⟨s0,0,none⟩))),(12,(.int .i64 i1.1)),(13,(.int .i64 i1.2.1)),(17,(.pointer (some ⟨x2,0,none⟩))),(18,(.int .i64 o4)),(19,(.int .i64 r4)),(84,(.slice z1 d1.length a2)),(85,(.int .i64 (d1.length:Int))),(86,(.int .i64 (k4:Int))),(120,(.bool a8))]∧Bs w A w' O'∧Vb w' (Fr 0 w' O') (.slice A3 x0.length c4) x0∧Rw 2 w' O' 3 (.slice a0.1.1 j0.1.length a0.1.2) t0.1∧Rw 3 w' O' 3 (.slice a0.2.1 j0.2.length a0.2.2) t0.2.1∧Ob 4 w' O' (.pointer (some ⟨s0,0,none⟩)) t0.2.2∧Lc 5 w' O' x2 106 [(.int .i64 o1.src),(.int .i64 o1.dst),(.int .i64 o1.weight)]∧Vb w' (Fr 0 w' O') (.slice z1 d1.length a2) d1) ?_ ?_
    ·
     refine Aj (Am rfl rfl (Am rfl rfl (AE rfl rfl (AC (hc:=Blk.cell (i:=1) (p0.1) rfl) rfl rfl ?_))))
     obtain ⟨nE,c8,d0⟩:=bs d0
     obtain ⟨d8,f8⟩:=AO c8
     replace e0:=(e0.st h0).st i0
     obtain ⟨oE,pE,w9,u4,v4,w4,rfl,qE⟩:=e0.elem f8
     refine Bo (hA:=u4) (hj:=(Int.toNat_of_nonneg d8).symm) (hlt:=v4) rfl rfl rfl ?_
     refine AC (hc:=cat0 w4) rfl rfl ?_
     refine BS rfl rfl rfl (fun y2=>?_) fun y2=>?_
     ·
      replace d0:=ip d0 y2
      refine Am rfl rfl (At rfl rfl rfl rfl (At rfl rfl rfl rfl (At rfl rfl rfl rfl (At rfl rfl rfl rfl (At rfl rfl rfl rfl (At rfl rfl rfl rfl (At rfl rfl rfl rfl (At rfl rfl rfl rfl (At rfl rfl rfl rfl (At rfl rfl rfl rfl (At rfl rfl rfl rfl (At rfl rfl rfl rfl (At rfl rfl rfl rfl (At rfl rfl rfl rfl ?_))))))))))))))
      refine At rfl rfl rfl rfl (At rfl rfl rfl rfl (AY rfl rfl rfl (o_z ?_)))
      obtain rfl:=sm d0
      exact ⟨(),_,⟨rfl,rfl,rfl,rfl,rfl,rfl,rfl,rfl,rfl,rfl,rfl,rfl,rfl,trivial⟩,(hB.st h0).st i0,(f0.st h0).st i0,e0,(g0.st h0).st i0,(r0.st h0).st i0,p0,(o0.st h0).st i0⟩
     replace d0:=im d0 y2
     refine Am rfl rfl (Aw rfl rfl (Am rfl rfl (Aw rfl rfl (Am rfl rfl (Aw rfl rfl (AE rfl rfl (Aw rfl rfl (AC (hc:=Blk.cell (i:=1) (p0.1) rfl) rfl rfl ?_))))))))
     refine Aw rfl rfl ?_
     obtain ⟨rE,g8,d0⟩:=bs d0
     obtain ⟨h8,i8⟩:=AO g8
     obtain ⟨sE,tE,x9,x4,y4,z4,rfl,uE⟩:=e0.elem i8
     refine Bo (hA:=x4) (hj:=(Int.toNat_of_nonneg h8).symm) (hlt:=y4) rfl rfl rfl ?_
     refine Aw rfl rfl (AC (hc:=cat0 z4) rfl rfl ?_)
     refine Aw rfl rfl (GG rfl rfl rfl (fun z2=>?_) fun z2=>?_)
     ·
      replace d0:=ip d0 z2
      refine Aw rfl rfl (Am rfl rfl (Aw rfl rfl (Am rfl rfl (Aw rfl rfl (Am rfl rfl (Aw rfl rfl (AE rfl rfl (Aw rfl rfl (AC (hc:=Blk.cell (i:=1) (p0.1) rfl) rfl rfl ?_)))))))))
      refine Aw rfl rfl ?_
      obtain ⟨vE,j8,d0⟩:=bs d0
      obtain ⟨k8,l8⟩:=AO j8
      replace g0:=(g0.st h0).st i0
      obtain ⟨wE,xE,y9,a5,b5,c5,rfl,yE⟩:=g0.elem l8
      refine Bo (hA:=a5) (hj:=(Int.toNat_of_nonneg k8).symm) (hlt:=b5) rfl rfl rfl ?_
      refine Aw rfl rfl (AC (hc:=cat0 c5) rfl rfl ?_)
      refine Aw rfl rfl (FM rfl rfl rfl (fun a3=>?_) fun a3=>?_)
      ·
       replace d0:=ip d0 a3
       refine Aw rfl rfl (AY rfl rfl rfl (AQ rfl rfl rfl (o_z ?_)))
       obtain rfl:=sm d0
       exact ⟨(),_,⟨rfl,rfl,rfl,rfl,rfl,rfl,rfl,rfl,rfl,rfl,rfl,rfl,rfl,trivial⟩,(hB.st h0).st i0,(f0.st h0).st i0,e0,g0,(r0.st h0).st i0,p0,(o0.st h0).st i0⟩
      replace d0:=im d0 a3
      refine Aw rfl rfl (AY rfl rfl rfl (AQ rfl rfl rfl (o_z ?_)))
      obtain rfl:=sm d0
      exact ⟨(),_,⟨rfl,rfl,rfl,rfl,rfl,rfl,rfl,rfl,rfl,rfl,rfl,rfl,rfl,trivial⟩,(hB.st h0).st i0,(f0.st h0).st i0,e0,g0,(r0.st h0).st i0,p0,(o0.st h0).st i0⟩
     replace d0:=im d0 z2
     refine Aw rfl rfl (Am rfl rfl (At rfl rfl rfl rfl (At rfl rfl rfl rfl (At rfl rfl rfl rfl (At rfl rfl rfl rfl (At rfl rfl rfl rfl (At rfl rfl rfl rfl (At rfl rfl rfl rfl (Aw rfl rfl (AQ rfl rfl rfl (AQ rfl rfl rfl (o_z ?_))))))))))))
     obtain rfl:=sm d0
     exact ⟨(),_,⟨rfl,rfl,rfl,rfl,rfl,rfl,rfl,rfl,rfl,rfl,rfl,rfl,rfl,trivial⟩,(hB.st h0).st i0,(f0.st h0).st i0,e0,(g0.st h0).st i0,(r0.st h0).st i0,p0,(o0.st h0).st i0⟩
    replace f0:=(f0.st h0).st i0
    replace hB:=(hB.st h0).st i0
    replace o0:=(o0.st h0).st i0
    replace e0:=(e0.st h0).st i0
    replace g0:=(g0.st h0).st i0
    replace r0:=(r0.st h0).st i0
    rintro zE aF ⟨b8,d5,e5,hB,f0,e0,g0,r0,p0,o0⟩
    refine AN _ e5 ?_
    refine CV rfl (fun b3=>?_) (fun b3=>?_)
    ·
     replace c0:=ip c0 b3
     refine DN ?_
     obtain rfl:=sm c0
     exact show Exists _ from ⟨_,(),rfl,⟨rfl,rfl,rfl,rfl,rfl,rfl,rfl,rfl,rfl,trivial⟩,_,hB,f0,e0,g0,r0,o0⟩
    replace c0:=im' c0 b3
    refine AI (Al (BG [(9,[2])] d5 ?_))
    refine Bb (fuel:=7) [] [(0,true),(1,true),(2,true),(6,true),(8,true)] (by kernel_rfl) rfl ?_
    refine AK rfl rfl rfl (AT rfl rfl rfl (AS (hc:=fun w' ⟨O',hq⟩=>Blk.cell (i:=1) ((p0.st hq (by decide)).1) rfl) rfl rfl rfl ?_))
    refine AK rfl rfl rfl ?_
    obtain ⟨bF,m8,c0⟩:=bs c0
    obtain ⟨n8,f5⟩:=AO m8
    obtain ⟨cF,dF,z9,k2,aA,g5,bA,rfl,eF⟩:=e0.elemF f5
    refine BU (hA:=k2) (hj:=(Int.toNat_of_nonneg n8).symm) (hlt:=g5) rfl rfl rfl rfl ?_
    refine AL ?_
    refine Bb (fuel:=3) [2] [(3,true),(4,true),(5,true),(7,true)] (by kernel_rfl) rfl ?_
    refine AK rfl rfl rfl (AT rfl rfl rfl (AS (hc:=fun w' ⟨O',hq⟩=>Blk.cell (i:=1) ((p0.st hq (by decide)).1) rfl) rfl rfl rfl ?_))
    refine AK rfl rfl rfl (AL ?_)
    refine Bg (i:=9) (by kernel_rfl) rfl ?_
    refine Dh rfl e0 (a:=o4) (vInt q4) k2 rfl rfl (AD f5) fun fF e1 e0=>?_
    have hZ:=e1.lst [2] (fun _ h=>by cases h;decide)
    refine BE [] hZ (by kernel_rfl) ?_
    refine Bb (fuel:=1) [] [(10,true)] (by kernel_rfl) rfl ?_
    obtain ⟨gF,o8,c0⟩:=bs c0
    obtain ⟨p8,h5⟩:=AO o8
    replace g0:=g0.st e1
    obtain ⟨hF,iF,cA,l2,dA,i5,eA,rfl,jF⟩:=g0.elemF h5
    refine BU (hA:=l2) (hj:=(Int.toNat_of_nonneg p8).symm) (hlt:=i5) rfl rfl rfl rfl ?_
    refine AL ?_
    refine Bg (i:=11) (by kernel_rfl) rfl ?_
    refine Dh rfl g0 (a:=r4) (vInt t4) l2 rfl rfl (AD h5) fun kF f1 g0=>?_
    refine DI (by kernel_rfl) ?_
    refine Ck (by kernel_rfl) ?_
    refine Al (Aj (Am rfl rfl (Am rfl rfl (Am rfl rfl (AE rfl rfl ?_)))))
    replace p0:=(p0.st e1).st f1
    refine AC (hc:=Blk.cell (i:=1) (p0.1) rfl) rfl rfl ?_
    obtain ⟨lF,q8,c0⟩:=bs c0
    replace r0:=(r0.st e1).st f1
    refine BH (O:=d5) (FY r0 q4 t4 x7 q8) rfl rfl fun mF nF oF g1 r8=>?_
    obtain ⟨s8,t8⟩:=r8
    obtain ⟨rfl,pF⟩:=t8.err
    refine Dy rfl rfl (fun c3=>?_) fun c3=>?_
    ·
     replace c0:=ip c0 c3
     refine o_z ?_
     refine Ah rfl (Al (Aj (Am rfl rfl (Am rfl rfl (Am rfl rfl ?_)))))
     replace e0:=(e0.st f1).st g1
     obtain ⟨qF,d3,e0⟩:=e0.freeze
     replace g0:=(g0.st g1).st d3
     obtain ⟨u8,e3,g0⟩:=g0.freeze
     obtain ⟨v8,w8,c0⟩:=bs c0
     replace f0:=((((f0.st e1).st f1).st g1).st d3).st e3
     replace e0:=e0.st e3
     refine CK (O:=u8) (R:=fun w' F v=>T2 w' F v v8) (Jw Fr.lt f0 e0 g0 w8) rfl rfl fun rF j5 k5 x8 y8=>?_
     obtain ⟨sF,tF,rfl,l5,m5⟩:=y8
     obtain ⟨uF,vF,rfl⟩:=l5.form
     obtain ⟨wF,xF,rfl⟩:=m5.form
     refine AZ rfl rfl rfl (AZ rfl rfl rfl (An rfl rfl (An rfl rfl (o_z ?_))))
     refine AG ?_
     obtain rfl:=sm c0
     obtain rfl:=c2 _ rfl
     obtain rfl:=sm (CB b0)
     obtain rfl:=y1 _ rfl
     obtain rfl:=sm (CB hm)
     replace hB:=(((((hB.st e1).st f1).st g1).st d3).st e3).st x8
     exact ret2 rfl (Az rfl) (Az rfl) ⟨hB.ext,_,_,rfl,(Vb.mono (F:=Fr 0 j5 k5) l5 hB.out),(Vb.mono (F:=Fr 0 j5 k5) m5 hB.out)⟩
    replace c0:=im c0 c3
    refine o_z ?_
    refine Ae rfl (AI ?_)
    obtain rfl:=sm c0
    exact show Exists _ from ⟨_,(),rfl,⟨rfl,rfl,rfl,rfl,rfl,rfl,rfl,rfl,rfl,trivial⟩,_,((hB.st e1).st f1).st g1,((f0.st e1).st f1).st g1,(e0.st f1).st g1,g0.st g1,s8,((o0.st e1).st f1).st g1⟩
   rintro yF zF ⟨aG,bG,rfl,m1,cG,hB,f0,e0,g0,r0⟩
   replace b0:=AX b0
   obtain rfl:=sm b0
   exact show Exists _ from ⟨_,(),rfl,⟨(Bn m1 _ _ rfl),(Bn m1 _ _ rfl),(Bn m1 _ _ rfl),(Bn m1 _ _ rfl),trivial⟩,_,hB,f0,e0,g0,r0⟩
  replace b0:=im b0 q2
  refine o_z ?_
  refine Ae rfl (DN ?_)
  obtain rfl:=sm b0
  exact show Exists _ from ⟨_,(),l1 _ rfl,⟨rfl,rfl,trivial⟩,_,hB.st n0,l0.st n0,m0.st n0⟩
 rintro dG n5 ⟨eG,fG,rfl,o5,gG,hB,l0,m0⟩
 replace hm:=AX hm
 refine AN _ o5 ?_
 refine Al (Aj (Am rfl rfl (Am rfl rfl (An rfl rfl (An rfl rfl (o_z ?_))))))
 refine AG ?_
 obtain ⟨hG,p5,l0⟩:=l0.freeze
 replace m0:=m0.st p5
 obtain ⟨q5,r5,m0⟩:=m0.freeze
 obtain rfl:=sm hm
 replace hB:=(hB.st p5).st r5
 replace l0:=l0.st r5
 exact ret2 rfl (Az rfl) (Az rfl) ⟨hB.ext,_,_,rfl,(Vb.mono (F:=Fr 0 n5 q5) l0 hB.out),(Vb.mono (F:=Fr 0 n5 q5) m0 hB.out)⟩
noncomputable def BM (x0:Spa):Option Spa :=
  bnd (Bi x0.states) fun q45=>bnd (mkI 24 ([]:List Arc) q45) fun u55=>bnd (mkI 24 ([]:List Arc) q45) fun u57=>bnd (some (u55,u57):Option ((List (List Arc))×(List (List Arc)))) fun y59=>bnd (rng (ρ:=Spa) (fun (k179:Nat) (a180:Edj) (s177:(List (List Arc))×(List (List Arc)))=>bnd (atI x0.t.ops a180.label) fun a258=>bnd (atI s177.1 a180.src) fun a279=>bnd (appI 24 a279 [(⟨a180.src,a180.dst,a258.cost⟩:Arc)]) fun u304=>bnd (atI s177.1 a180.src) fun a315=>bnd (atI s177.2 a180.dst) fun a330=>bnd (appI 24 a330 [(⟨a180.dst,a180.src,a258.cost⟩:Arc)]) fun u355=>bnd (atI s177.2 a180.dst) fun a366=>some (.next ((s177.1.set (a180.src:Int).toNat u304),(s177.2.set (a180.dst:Int).toNat u355)))) x0.edges 0 (y59.1,y59.2)) fun res175=>fin res175 fun (s390:(List (List Arc))×(List (List Arc)))=>bnd (rng (ρ:=Spa) (fun (k446:Nat) (a447:Bool) (s444:(List Int))=>if a447=true then (bnd (appI 8 s444 [(k446:Int)]) fun u469=>some (.next u469)) else (some (.next s444))) x0.goals 0 ([]:List Int)) fun res442=>fin res442 fun (s485:(List Int))=>bnd (BB s390.1 ([0]:List Int)) fun q497=>bnd (BB s390.2 s485) fun q561=>some (⟨(⟨x0.t.vars,x0.t.init,x0.t.goal,x0.t.ops⟩:Tsk),x0.states,x0.edges,x0.goals,q497.1,q561.1,q561.2⟩:Spa)
theorem Hm {w:World} {O:Lab} {p0 i0:Nat} {x0:Spa} (k5:Ob i0 w O (.pointer (some ⟨p0,0,none⟩)) x0) {r:Spa} (hm:BM x0=some r) :
    Fn Tryz.prog 51 [(.pointer (some ⟨p0,0,none⟩))] w fun v w'=>∃ O',St (eT i0) w O w' O'∧Ob i0 w' O' (.pointer (some ⟨p0,0,none⟩)) r:=by
 obtain ⟨O0,hE,wB,xB⟩:=ent1 (w:=w) (O:=O) k5.2
 have k5':=Ob.leave k5 wB xB (j:=2) (by decide)
 have hB:Bm w O0 w O0:=Bm.refl
 refine AH Tryz.func51 rfl Tryz.ntmps51 rfl ?_
 unfold BM at hm
 refine Al (Aj (Am rfl rfl (BW rfl rfl ?_)))
 obtain ⟨O2,v6,sJ,tJ,uJ,vJ,wJ,xJ,yJ,zJ,aK,S3,bK,h4,h7,s3,t3,u3,xA,v3,w3,x3,y3,z3⟩:=Spa.opn k5' 2 3 (by decide)
 obtain ⟨A8,c9,rfl⟩:=h7.form
 obtain ⟨cK,dK,rfl⟩:=s3.form
 obtain ⟨eK,fK,rfl⟩:=t3.form
 obtain ⟨gK,hK,rfl⟩:=u3.form
 obtain ⟨iK,rfl⟩:=xA.ptr
 obtain ⟨jK,kK,rfl⟩:=v3.form
 obtain ⟨lK,mK,rfl⟩:=w3.form
 obtain ⟨nK,oK,rfl⟩:=x3.form
 obtain ⟨pK,qK,rfl⟩:=y3.form
 obtain ⟨rK,sK,rfl⟩:=z3.form
 refine AE rfl rfl (AC (hc:=Blk.cell (i:=4) (h4.1) rfl) rfl rfl ?_)
 obtain ⟨tK,yB,hm⟩:=bs hm
 refine BH (O:=O2) (DX xA yB) rfl rfl fun uK vK c8 z0 zB=>?_
 obtain ⟨j5,aC⟩:=zB
 obtain ⟨rfl,wK⟩:=aC.int
 refine An rfl rfl (o_z ?_)
 refine Al ?_
 obtain ⟨xK,yA,hm⟩:=bs hm
 obtain ⟨yK,zA,hm⟩:=bs hm
 obtain ⟨y0,l5,hm⟩:=bs hm
 refine AJ (fun l' w'=>∃ (d0:(Option Addr×Nat)×(Option Addr×Nat)) (O':Lab),subs l' [(0,(.pointer (some ⟨p0,0,none⟩))),(3,(.slice d0.1.1 y0.1.length d0.1.2)),(4,(.slice d0.2.1 y0.2.length d0.2.2))]∧Bm w O0 w' O'∧Ob 2 w' O' (.pointer (some ⟨p0,0,none⟩)) x0∧NR Arc 4 w' O' 104 106 (.slice d0.1.1 y0.1.length d0.1.2) y0.1 none∧NR Arc 5 w' O' 104 106 (.slice d0.2.1 y0.2.length d0.2.2) y0.2 none) ?_ ?_
 ·
  refine BG [] c8 ?_
  refine Bb (fuel:=4) [] [(0,true),(2,true)] (by kernel_rfl) rfl ?_
  refine AK rfl rfl rfl (AK rfl rfl rfl (AL ?_))
  refine Ku (i:=1) (j:=3) (by kernel_rfl) rfl rfl ?_ ?_
  ·
   obtain ⟨bC,cC,dC,eC,fC⟩:=Dw yA
   refine HI (β:=Arc) (e:=106) 4 (by decide) c8 rfl rfl rfl rfl cC dC eC rfl fun gC zK hC t1 aB=>?_
   rw [← fC] at aB ⊢
   have hZ:=t1.lst [] (fun _ h=>h.elim)
   refine BE [] hZ (by kernel_rfl) ?_
   refine Bb (fuel:=2) [] [(4,true)] (by kernel_rfl) rfl ?_
   refine Ek rfl rfl rfl (AL ?_)
   refine Bg (i:=3) (by kernel_rfl) rfl ?_
   obtain ⟨iC,jC,kC,lC,mC⟩:=Dw zA
   refine HI (β:=Arc) (e:=106) 5 (by decide) hC rfl rfl rfl rfl jC kC lC rfl fun nC aL bL q1 bB=>?_
   rw [← mC] at bB ⊢
   have hZ:=q1.lst [] (fun _ h=>h.elim)
   refine BE [] hZ (by kernel_rfl) ?_
   refine Bb (fuel:=0) [] [(5,true)] (by kernel_rfl) rfl ?_
   refine Ek rfl rfl rfl (AL ?_)
   refine Ck (by kernel_rfl) ?_
   replace h4:=((h4.st z0).st t1).st q1
   replace h7:=((h7.st z0).st t1).st q1
   replace s3:=((s3.st z0).st t1).st q1
   replace t3:=((t3.st z0).st t1).st q1
   replace u3:=((u3.st z0).st t1).st q1
   replace v3:=((v3.st z0).st t1).st q1
   replace w3:=((w3.st z0).st t1).st q1
   replace x3:=((x3.st z0).st t1).st q1
   replace y3:=((y3.st z0).st t1).st q1
   replace z3:=((z3.st z0).st t1).st q1
   replace j5:=(j5.st t1).st q1
   obtain ⟨cL,d8,oC,pC,qC⟩:=Spa.shut (x:=x0) (l0:=2) (l1:=3) (by decide) h4 h7 s3 t3 u3 j5 v3 w3 x3 y3 z3
   obtain rfl:=sm l5
   exact ⟨(((some ⟨gC,0,none⟩),bC),((some ⟨nC,0,none⟩),iC)),_,⟨rfl,rfl,rfl,trivial⟩,((((hB.st S3).st z0).st t1).st q1).st d8,qC,(aB.st q1).st d8,bB.st d8⟩
  obtain ⟨rC,sC,tC,uC,vC⟩:=Dw zA
  refine HI (β:=Arc) (e:=106) 5 (by decide) c8 rfl rfl rfl rfl sC tC uC rfl fun wC xC e8 u0 m5=>?_
  rw [← vC] at m5 ⊢
  have hZ:=u0.lst [] (fun _ h=>h.elim)
  refine BE [] hZ (by kernel_rfl) ?_
  refine Bg (i:=1) (by kernel_rfl) rfl ?_
  obtain ⟨f8,g8,h8,i8,j8⟩:=Dw yA
  refine HI (β:=Arc) (e:=106) 4 (by decide) e8 rfl rfl rfl rfl g8 h8 i8 rfl fun k8 yC zC r0 n5=>?_
  rw [← j8] at n5 ⊢
  have hZ:=r0.lst [] (fun _ h=>h.elim)
  refine BE [] hZ (by kernel_rfl) ?_
  refine Bb (fuel:=0) [] [(4,true),(5,true)] (by kernel_rfl) rfl ?_
  refine Ek rfl rfl rfl (Ek rfl rfl rfl (AL ?_))
  refine Ck (by kernel_rfl) ?_
  replace h4:=((h4.st z0).st u0).st r0
  replace h7:=((h7.st z0).st u0).st r0
  replace s3:=((s3.st z0).st u0).st r0
  replace t3:=((t3.st z0).st u0).st r0
  replace u3:=((u3.st z0).st u0).st r0
  replace v3:=((v3.st z0).st u0).st r0
  replace w3:=((w3.st z0).st u0).st r0
  replace x3:=((x3.st z0).st u0).st r0
  replace y3:=((y3.st z0).st u0).st r0
  replace z3:=((z3.st z0).st u0).st r0
  replace j5:=(j5.st u0).st r0
  obtain ⟨aD,a4,cB,dB,l8⟩:=Spa.shut (x:=x0) (l0:=2) (l1:=3) (by decide) h4 h7 s3 t3 u3 j5 v3 w3 x3 y3 z3
  obtain rfl:=sm l5
  exact ⟨(((some ⟨k8,0,none⟩),f8),((some ⟨wC,0,none⟩),rC)),_,⟨rfl,rfl,rfl,trivial⟩,((((hB.st S3).st z0).st u0).st r0).st a4,l8,n5.st a4,(m5.st r0).st a4⟩
 replace hB:=(hB.st S3).st z0
 rintro bD cD ⟨d0,dD,o5,hB,eD,m8,n8⟩
 refine AN _ o5 ?_
 refine Al (Al (Aj (Am rfl rfl (BW rfl rfl ?_))))
 obtain ⟨fD,gD,hD,iD,jD,kD,lD,mD,nD,oD,pD,i2,eB,p5,q5,r5,s5,t5,u5,a1,v5,w5,x5,y5⟩:=Spa.opn eD 2 3 (by decide)
 obtain ⟨qD,rD,rfl⟩:=q5.form
 obtain ⟨sD,tD,rfl⟩:=r5.form
 obtain ⟨uD,vD,rfl⟩:=s5.form
 obtain ⟨wD,xD,rfl⟩:=t5.form
 obtain ⟨yD,rfl⟩:=u5.ptr
 obtain ⟨z5,a6,rfl⟩:=a1.form
 obtain ⟨zD,aE,rfl⟩:=v5.form
 obtain ⟨bE,cE,rfl⟩:=w5.form
 obtain ⟨dE,eE,rfl⟩:=x5.form
 obtain ⟨fE,gE,rfl⟩:=y5.form
 refine AE rfl rfl (AC (hc:=Blk.cell (i:=5) (p5.1) rfl) rfl rfl ?_)
 refine AP rfl rfl ?_
 have b4:x0.edges.length≤9223372036854775807:=Nat.le_trans a1.len.2.1 a1.len.2.2
 have iE:inI64 (x0.edges.length:Int):=rngNat b4
 refine Am rfl rfl (o_z ?_)
 obtain ⟨o8,x1,fB,gB,m1⟩:=Spa.shut (x:=x0) (l0:=2) (l1:=3) (by decide) p5 q5 r5 s5 t5 u5 a1 v5 w5 x5 y5
 obtain ⟨c4,b6,hm⟩:=bs hm
 refine AJ (aft c4 (fun (g1:(List (List Arc))×(List (List Arc))) (j2:Unit)=>[(0,(.pointer (some ⟨p0,0,none⟩))),(3,(.slice d0.1.1 y0.1.length d0.1.2)),(4,(.slice d0.2.1 y0.2.length d0.2.2))]) (fun g1 j2 w'=>∃ O':Lab,Bm w O0 w' O'∧Ob 2 w' O' (.pointer (some ⟨p0,0,none⟩)) x0∧NR Arc 4 w' O' 104 106 (.slice d0.1.1 y0.1.length d0.1.2) g1.1 none∧NR Arc 5 w' O' 104 106 (.slice d0.2.1 y0.2.length d0.2.2) g1.2 none)) ?_ ?_
 ·
  refine AM ?_
  replace hB:=(hB.st i2).st x1
  replace m8:=(m8.st i2).st x1
  replace n8:=(n8.st i2).st x1
  replace a1:=a1.st x1
  refine By (σ:=(List (List Arc))×(List (List Arc))) (X:=Unit) (x0.edges.length) b6 rfl b4 (fun (g1:(List (List Arc))×(List (List Arc))) (j2:Unit)=>[(0,(.pointer (some ⟨p0,0,none⟩))),(3,(.slice d0.1.1 y0.1.length d0.1.2)),(4,(.slice d0.2.1 y0.2.length d0.2.2)),(23,(.slice z5 x0.edges.length a6))]) _ (fun g1 j2 w'=>∃ O':Lab,Bm w O0 w' O'∧Ob 2 w' O' (.pointer (some ⟨p0,0,none⟩)) x0∧NR Arc 4 w' O' 104 106 (.slice d0.1.1 y0.1.length d0.1.2) g1.1 none∧NR Arc 5 w' O' 104 106 (.slice d0.2.1 y0.2.length d0.2.2) g1.2 none∧Vb w' (Fr 0 w' O') (.slice z5 x0.edges.length a6) x0.edges) _ () ⟨o8,hB,m1,m8,n8,a1⟩ ⟨rfl,rfl,rfl,rfl,rfl,rfl,trivial⟩ (fun _ _=>⟨rfl,rfl⟩) (fun _ _=>⟨rfl,rfl,rfl,trivial⟩) (fun _ _ _ ⟨O',hB,m1,a0,b0,a1⟩=>⟨O',hB,m1,a0,b0⟩) ⟨rfl,rfl,rfl⟩ ⟨rfl,rfl⟩ ?_
  rintro p8 g0 g1 j2 jE iB o3 ⟨q8,hB,m1,a0,b0,a1⟩ c0 y7 z7
  have rk179:inI64 (p8:Int):=rngK o3 b4
  refine Al (Aj ?_)
  obtain ⟨kE,lE,jB,c6,d6,e6,rfl,f6,mE,g6⟩:=a1.elem' o3
  refine Bo (hA:=c6) (hj:=rfl) (hlt:=d6) rfl rfl rfl ?_
  refine Bk (hl:=rfl) (hc:=e6) rfl rfl ?_
  refine Ch 6 q8 rfl fun r8 nE s8 y1 h0=>?_
  refine Br h0 rfl rfl rfl (BN rfl) (allOne rfl) fun k2 z1 h0=>?_
  replace h0:Lc 6 k2 s8 r8 94 [(.int .i64 g0.src),(.int .i64 g0.label),(.int .i64 g0.dst)]:=h0
  refine o_z ?_
  refine Al (Ct (·=k2) [(0,true),(1,true),(2,true),(3,true),(4,true),(5,true),(6,true),(7,true),(8,true),(9,true),(10,true)] (by kernel_rfl) rfl (by kernel_rfl) rfl ?_)
  refine AK rfl rfl rfl (Cm rfl rfl rfl ?_)
  replace m1:=(m1.st y1).st z1
  obtain ⟨d4,oE,pE,qE,rE,sE,tE,uE,vE,wE,xE,a2,kB,l2,m2,n2,o2,b2,p2,q2,r2,s2,t2,u2⟩:=Spa.opn m1 2 3 (by decide)
  obtain ⟨yE,zE,rfl⟩:=m2.form
  obtain ⟨aF,bF,rfl⟩:=n2.form
  obtain ⟨cF,dF,rfl⟩:=o2.form
  obtain ⟨eF,fF,rfl⟩:=b2.form
  obtain ⟨gF,rfl⟩:=p2.ptr
  obtain ⟨hF,iF,rfl⟩:=q2.form
  obtain ⟨jF,kF,rfl⟩:=r2.form
  obtain ⟨lF,mF,rfl⟩:=s2.form
  obtain ⟨nF,oF,rfl⟩:=t2.form
  obtain ⟨pF,qF,rfl⟩:=u2.form
  refine AT rfl rfl rfl (AT rfl rfl rfl (Cu (hc:=Blk.cell (i:=3) (l2.1) rfl) rfl rfl rfl ?_))
  refine AT rfl rfl rfl ?_
  replace h0:=h0.st a2
  refine Cu (hc:=Blk.cell (i:=1) (h0.1) rfl) rfl rfl rfl ?_
  obtain ⟨u1,t8,c0⟩:=bs c0
  obtain ⟨u8,v8⟩:=AO t8
  obtain ⟨rF,sF,lB,h6,i6,j6,tF,uF,rfl,w8,x8,k6,vF⟩:=b2.elem' v8
  obtain ⟨wF,xF,rfl⟩:=w8.form
  obtain ⟨yF,zF,rfl⟩:=x8.form
  refine BU (hA:=h6) (hj:=(Int.toNat_of_nonneg u8).symm) (hlt:=i6) rfl rfl rfl rfl ?_
  refine AT rfl rfl rfl (Cu (hc:=cat1 j6) rfl rfl rfl ?_)
  refine Ek rfl rfl rfl (h_z ?_)
  refine Al (BG [(15,[4,13])] d4 ?_)
  refine Bb (fuel:=7) [] [(3,true),(4,true),(5,true),(6,true),(7,true),(8,true),(9,true),(10,true),(11,true),(12,true),(13,true)] (by kernel_rfl) rfl ?_
  refine AK rfl rfl rfl (AT rfl rfl rfl (AS (hc:=fun w' ⟨O',hq⟩=>Blk.cell (i:=0) ((h0.st hq (by decide)).1) rfl) rfl rfl rfl ?_))
  obtain ⟨v2,y8,c0⟩:=bs c0
  obtain ⟨z8,e4⟩:=AO y8
  replace a0:=((a0.st y1).st z1).st a2
  obtain ⟨aG,bG,n1,l6⟩:=a0.at e4
  refine BU (hA:=n1) (hj:=(Int.toNat_of_nonneg z8).symm) (hlt:=l6) rfl rfl rfl rfl ?_
  obtain ⟨m6,n6,r1,w2⟩:=NR.peek a0 n1 e4
  replace w2:Vb k2 (FrS [4] k2 d4) (.slice m6 v2.length n6) v2:=w2
  refine AS (hc:=fun w' ⟨O',hq⟩=>NR.stay a0 n1 hq (by decide) r1) rfl rfl rfl ?_
  refine AT rfl rfl rfl (AS (hc:=fun w' ⟨O',hq⟩=>Blk.cell (i:=0) ((h0.st hq (by decide)).1) rfl) rfl rfl rfl ?_)
  refine AT rfl rfl rfl (AS (hc:=fun w' ⟨O',hq⟩=>Blk.cell (i:=2) ((h0.st hq (by decide)).1) rfl) rfl rfl rfl ?_)
  refine AK rfl rfl rfl (GV rfl rfl rfl rfl ?_)
  refine AL ?_
  refine Bb (fuel:=4) [4,13] [(0,true),(1,true),(2,true)] (by kernel_rfl) rfl ?_
  refine AK rfl rfl rfl (AT rfl rfl rfl (AS (hc:=fun w' ⟨O',hq⟩=>Blk.cell (i:=0) ((h0.st hq (by decide)).1) rfl) rfl rfl rfl ?_))
  refine AL ?_
  refine Bg (i:=14) (by kernel_rfl) rfl ?_
  refine BX 7 (by decide) d4 (xs:=([(⟨g0.src,g0.dst,u1.cost⟩:Arc)]:List Arc)) rfl rfl rfl rfl ⟨(Vb.ofAgg (cs:=[(.int .i64 g0.src),(.int .i64 g0.dst),(.int .i64 u1.cost)]) (x:=(⟨g0.src,g0.dst,u1.cost⟩:Arc)) rfl ⟨rfl,f6,g6,k6⟩),trivial⟩ (by decide) (by decide) rfl fun cG a9 dG e0 f4=>?_
  have hZ:=e0.lst [] (fun _ h=>h.elim)
  replace r1:=NR.stay a0 n1 e0 id r1
  replace w2:=w2.stS e0 id (fun _ _=>id)
  refine BE [(15,[4,13])] hZ (by kernel_rfl) ?_
  refine Bg (i:=15) (by kernel_rfl) rfl ?_
  replace a0:=a0.st e0
  obtain ⟨b9,j0,a0,g4⟩:=NR.take' a0 n1 e4 r1 13 (by decide) (by decide)
  replace g4:Rw 13 a9 b9 106 (.slice m6 v2.length n6) v2:=g4
  have hZ:=j0.lst [4] (fun _ h=>by cases h;decide)
  obtain ⟨d9,i4,c0⟩:=bs c0
  obtain ⟨i4,e9,f9⟩:=Cc i4
  replace f4:=f4.st j0
  refine CX rfl g4 (f4.rd) rfl rfl (by decide) e9 f9 rfl fun eG fG gG hG k0 o6=>?_
  rw [← i4] at o6 ⊢
  replace hZ:=hZ.cmp k0 [4,13] (fun _ h=>by cases h;decide) rfl
  refine BE [] hZ (by kernel_rfl) ?_
  refine Bb (fuel:=1) [] [(16,true)] (by kernel_rfl) rfl ?_
  obtain ⟨g9,h9,c0⟩:=bs c0
  obtain ⟨i9,p6⟩:=AO h9
  replace a0:=a0.st k0
  obtain ⟨iG,jG,p3,q6⟩:=a0.at p6
  refine BU (hA:=p3) (hj:=(Int.toNat_of_nonneg i9).symm) (hlt:=q6) rfl rfl rfl rfl ?_
  refine AL ?_
  refine Bg (i:=17) (by kernel_rfl) rfl ?_
  refine Mm (a:=g9) (off:=0) a0 o6 (by decide) p3 p6 rfl rfl rfl rfl (by decide) fun j4 x2 o0 k4=>?_
  replace k4:NR Arc 4 j4 x2 104 106 (.slice d0.1.1 y0.1.length d0.1.2) (g1.1.set (g0.src:Int).toNat d9) none:=k4
  refine DI (by kernel_rfl) ?_
  refine Ck (by kernel_rfl) ?_
  refine BG [(15,[5,14])] x2 ?_
  refine Bb (fuel:=7) [] [(3,true),(4,true),(5,true),(6,true),(7,true),(8,true),(9,true),(10,true),(11,true),(12,true),(13,true)] (by kernel_rfl) rfl ?_
  refine AK rfl rfl rfl (AT rfl rfl rfl ?_)
  replace h0:=(((h0.st e0).st j0).st k0).st o0
  refine AS (hc:=fun w' ⟨O',hq⟩=>Blk.cell (i:=2) ((h0.st hq (by decide)).1) rfl) rfl rfl rfl ?_
  obtain ⟨y2,j9,c0⟩:=bs c0
  obtain ⟨k9,l4⟩:=AO j9
  replace b0:=((((((b0.st y1).st z1).st a2).st e0).st j0).st k0).st o0
  obtain ⟨kG,lG,o1,r6⟩:=b0.at l4
  refine BU (hA:=o1) (hj:=(Int.toNat_of_nonneg k9).symm) (hlt:=r6) rfl rfl rfl rfl ?_
  obtain ⟨s6,t6,s1,z2⟩:=NR.peek b0 o1 l4
  replace z2:Vb j4 (FrS [5] j4 x2) (.slice s6 y2.length t6) y2:=z2
  refine AS (hc:=fun w' ⟨O',hq⟩=>NR.stay b0 o1 hq (by decide) s1) rfl rfl rfl ?_
  refine AT rfl rfl rfl (AS (hc:=fun w' ⟨O',hq⟩=>Blk.cell (i:=2) ((h0.st hq (by decide)).1) rfl) rfl rfl rfl ?_)
  refine AT rfl rfl rfl (AS (hc:=fun w' ⟨O',hq⟩=>Blk.cell (i:=0) ((h0.st hq (by decide)).1) rfl) rfl rfl rfl ?_)
  refine AK rfl rfl rfl (GV rfl rfl rfl rfl ?_)
  refine AL ?_
  refine Bb (fuel:=4) [5,14] [(0,true),(1,true),(2,true)] (by kernel_rfl) rfl ?_
  refine AK rfl rfl rfl (AT rfl rfl rfl (AS (hc:=fun w' ⟨O',hq⟩=>Blk.cell (i:=2) ((h0.st hq (by decide)).1) rfl) rfl rfl rfl ?_))
  refine AL ?_
  refine Bg (i:=14) (by kernel_rfl) rfl ?_
  refine BX 9 (by decide) x2 (xs:=([(⟨g0.dst,g0.src,u1.cost⟩:Arc)]:List Arc)) rfl rfl rfl rfl ⟨(Vb.ofAgg (cs:=[(.int .i64 g0.dst),(.int .i64 g0.src),(.int .i64 u1.cost)]) (x:=(⟨g0.dst,g0.src,u1.cost⟩:Arc)) rfl ⟨rfl,g6,f6,k6⟩),trivial⟩ (by decide) (by decide) rfl fun mG l9 nG f0 m4=>?_
  have hZ:=f0.lst [] (fun _ h=>h.elim)
  replace s1:=NR.stay b0 o1 f0 id s1
  replace z2:=z2.stS f0 id (fun _ _=>id)
  refine BE [(15,[5,14])] hZ (by kernel_rfl) ?_
  refine Bg (i:=15) (by kernel_rfl) rfl ?_
  replace b0:=b0.st f0
  obtain ⟨m9,m0,b0,n4⟩:=NR.take' b0 o1 l4 s1 14 (by decide) (by decide)
  replace n4:Rw 14 l9 m9 106 (.slice s6 y2.length t6) y2:=n4
  have hZ:=m0.lst [5] (fun _ h=>by cases h;decide)
  obtain ⟨n9,o4,c0⟩:=bs c0
  obtain ⟨o4,o9,p9⟩:=Cc o4
  replace m4:=m4.st m0
  refine CX rfl n4 (m4.rd) rfl rfl (by decide) o9 p9 rfl fun oG pG qG rG n0 u6=>?_
  rw [← o4] at u6 ⊢
  replace hZ:=hZ.cmp n0 [5,14] (fun _ h=>by cases h;decide) rfl
  refine BE [] hZ (by kernel_rfl) ?_
  refine Bb (fuel:=1) [] [(16,true)] (by kernel_rfl) rfl ?_
  obtain ⟨q9,r9,c0⟩:=bs c0
  obtain ⟨s9,w6⟩:=AO r9
  replace b0:=b0.st n0
  obtain ⟨sG,tG,q3,x6⟩:=b0.at w6
  refine BU (hA:=q3) (hj:=(Int.toNat_of_nonneg s9).symm) (hlt:=x6) rfl rfl rfl rfl ?_
  refine AL ?_
  refine Bg (i:=17) (by kernel_rfl) rfl ?_
  refine Mm (a:=q9) (off:=0) b0 u6 (by decide) q3 w6 rfl rfl rfl rfl (by decide) fun t9 u9 s0 p4=>?_
  replace p4:NR Arc 5 t9 u9 104 106 (.slice d0.2.1 y0.2.length d0.2.2) (g1.2.set (g0.dst:Int).toNat n9) none:=p4
  refine DI (by kernel_rfl) ?_
  refine Ck (by kernel_rfl) ?_
  replace l2:=(((((((l2.st e0).st j0).st k0).st o0).st f0).st m0).st n0).st s0
  replace m2:=(((((((m2.st e0).st j0).st k0).st o0).st f0).st m0).st n0).st s0
  replace n2:=(((((((n2.st e0).st j0).st k0).st o0).st f0).st m0).st n0).st s0
  replace o2:=(((((((o2.st e0).st j0).st k0).st o0).st f0).st m0).st n0).st s0
  replace b2:=(((((((b2.st e0).st j0).st k0).st o0).st f0).st m0).st n0).st s0
  replace p2:=(((((((p2.st e0).st j0).st k0).st o0).st f0).st m0).st n0).st s0
  replace q2:=(((((((q2.st e0).st j0).st k0).st o0).st f0).st m0).st n0).st s0
  replace r2:=(((((((r2.st e0).st j0).st k0).st o0).st f0).st m0).st n0).st s0
  replace s2:=(((((((s2.st e0).st j0).st k0).st o0).st f0).st m0).st n0).st s0
  replace t2:=(((((((t2.st e0).st j0).st k0).st o0).st f0).st m0).st n0).st s0
  replace u2:=(((((((u2.st e0).st j0).st k0).st o0).st f0).st m0).st n0).st s0
  obtain ⟨uG,a3,mB,nB,v9⟩:=Spa.shut (x:=x0) (l0:=2) (l1:=3) (by decide) l2 m2 n2 o2 b2 p2 q2 r2 s2 t2 u2
  obtain rfl:=sm c0
  exact show Exists _ from ⟨_,(),rfl,⟨rfl,rfl,rfl,rfl,rfl,rfl,trivial⟩,_,(((((((((((hB.st y1).st z1).st a2).st e0).st j0).st k0).st o0).st f0).st m0).st n0).st s0).st a3,v9,((((k4.st f0).st m0).st n0).st s0).st a3,p4.st a3,(((((((((((a1.st y1).st z1).st a2).st e0).st j0).st k0).st o0).st f0).st m0).st n0).st s0).st a3⟩
 replace hB:=(hB.st i2).st x1
 rintro vG wG ⟨b3,xG,rfl,y6,yG,hB,m1,a0,b0⟩
 replace hm:=AX hm
 refine AN _ y6 ?_
 refine Al (Aj (An rfl rfl (o_z ?_)))
 refine Al (Al (Aj (Am rfl rfl (BW rfl rfl ?_))))
 obtain ⟨zG,aH,bH,cH,dH,eH,fH,gH,hH,iH,jH,v1,oB,z6,a7,b7,c7,d7,e7,f7,w0,g7,i7,j7⟩:=Spa.opn m1 2 3 (by decide)
 obtain ⟨kH,lH,rfl⟩:=a7.form
 obtain ⟨mH,nH,rfl⟩:=b7.form
 obtain ⟨oH,pH,rfl⟩:=c7.form
 obtain ⟨qH,rH,rfl⟩:=d7.form
 obtain ⟨sH,rfl⟩:=e7.ptr
 obtain ⟨tH,uH,rfl⟩:=f7.form
 obtain ⟨k7,l7,rfl⟩:=w0.form
 obtain ⟨vH,wH,rfl⟩:=g7.form
 obtain ⟨xH,yH,rfl⟩:=i7.form
 obtain ⟨zH,aI,rfl⟩:=j7.form
 refine AE rfl rfl (AC (hc:=Blk.cell (i:=6) (z6.1) rfl) rfl rfl ?_)
 refine AP rfl rfl ?_
 have q4:x0.goals.length≤9223372036854775807:=Nat.le_trans w0.len.2.1 w0.len.2.2
 have bI:inI64 (x0.goals.length:Int):=rngNat q4
 refine Am rfl rfl (o_z ?_)
 obtain ⟨w9,p1,pB,qB,h1⟩:=Spa.shut (x:=x0) (l0:=2) (l1:=3) (by decide) z6 a7 b7 c7 d7 e7 f7 w0 g7 i7 j7
 obtain ⟨r4,m7,hm⟩:=bs hm
 refine AJ (aft r4 (fun (i1:(List Int)) (t0:(Option Addr×Nat))=>[(0,(.pointer (some ⟨p0,0,none⟩))),(3,(.slice d0.1.1 y0.1.length d0.1.2)),(4,(.slice d0.2.1 y0.2.length d0.2.2)),(8,(.slice t0.1 i1.length t0.2))]) (fun i1 t0 w'=>∃ O':Lab,Bm w O0 w' O'∧Ob 2 w' O' (.pointer (some ⟨p0,0,none⟩)) x0∧NR Arc 4 w' O' 104 106 (.slice d0.1.1 y0.1.length d0.1.2) b3.1 none∧NR Arc 5 w' O' 104 106 (.slice d0.2.1 y0.2.length d0.2.2) b3.2 none∧Rw 15 w' O' 3 (.slice t0.1 i1.length t0.2) i1)) ?_ ?_
 ·
  refine AM ?_
  replace hB:=(hB.st v1).st p1
  replace a0:=(a0.st v1).st p1
  replace b0:=(b0.st v1).st p1
  replace w0:=w0.st p1
  refine By (σ:=(List Int)) (X:=(Option Addr×Nat)) (x0.goals.length) m7 rfl q4 (fun (i1:(List Int)) (t0:(Option Addr×Nat))=>[(0,(.pointer (some ⟨p0,0,none⟩))),(3,(.slice d0.1.1 y0.1.length d0.1.2)),(4,(.slice d0.2.1 y0.2.length d0.2.2)),(8,(.slice t0.1 i1.length t0.2)),(77,(.slice k7 x0.goals.length l7))]) _ (fun i1 t0 w'=>∃ O':Lab,Bm w O0 w' O'∧Ob 2 w' O' (.pointer (some ⟨p0,0,none⟩)) x0∧NR Arc 4 w' O' 104 106 (.slice d0.1.1 y0.1.length d0.1.2) b3.1 none∧NR Arc 5 w' O' 104 106 (.slice d0.2.1 y0.2.length d0.2.2) b3.2 none∧Rw 15 w' O' 3 (.slice t0.1 i1.length t0.2) i1∧Vb w' (Fr 0 w' O') (.slice k7 x0.goals.length l7) x0.goals) _ (none,0) ⟨w9,hB,h1,a0,b0,(Rw.nil 15 (by decide)),w0⟩ ⟨rfl,rfl,rfl,rfl,rfl,rfl,rfl,trivial⟩ (fun _ _=>⟨rfl,rfl⟩) (fun _ _=>⟨rfl,rfl,rfl,rfl,trivial⟩) (fun _ _ _ ⟨O',hB,h1,a0,b0,j1,w0⟩=>⟨O',hB,h1,a0,b0,j1⟩) ⟨rfl,rfl,rfl⟩ ⟨rfl,rfl⟩ ?_
  rintro n7 cI i1 t0 dI rB r3 ⟨eI,hB,h1,a0,b0,j1,w0⟩ v0 a8 b8
  have rk446:inI64 (n7:Int):=rngK r3 q4
  refine Al (Aj (Am rfl rfl ?_))
  obtain ⟨fI,gI,sB,o7,p7,q7,rfl⟩:=w0.elem' r3
  refine Bo (hA:=o7) (hj:=rfl) (hlt:=p7) rfl rfl rfl ?_
  refine AC (hc:=cat0 q7) rfl rfl ?_
  refine An rfl rfl (An rfl rfl (o_z ?_))
  refine Al (Aj (Am rfl rfl (o_z ?_)))
  refine CV rfl (fun s4=>?_) (fun s4=>?_)
  ·
   replace v0:=ip v0 s4
   refine Aj (Am rfl rfl (Am rfl rfl ?_))
   obtain ⟨hI,t4,v0⟩:=bs v0
   obtain ⟨t4,x9,y9⟩:=Cc t4
   refine Ed rfl (a:=(n7:Int)) j1 (vInt rk446) (fun _=>rfl) rfl (by decide) (by decide) x9 y9 ⟨rfl,rfl⟩ fun iI z9 aA jI kI c2 r7=>?_
   rw [← t4] at r7 ⊢
   refine An rfl rfl (o_z ?_)
   obtain rfl:=sm v0
   exact show Exists _ from ⟨_,(z9,aA),rfl,⟨rfl,rfl,rfl,rfl,rfl,rfl,rfl,trivial⟩,_,hB.st c2,h1.st c2,a0.st c2,b0.st c2,r7,w0.st c2⟩
  replace v0:=im' v0 s4
  refine AI ?_
  obtain rfl:=sm v0
  exact show Exists _ from ⟨_,(t0.1,t0.2),rfl,⟨rfl,rfl,rfl,rfl,rfl,rfl,rfl,trivial⟩,_,hB,h1,a0,b0,j1,w0⟩
 replace hB:=(hB.st v1).st p1
 replace a0:=(a0.st v1).st p1
 replace b0:=(b0.st v1).st p1
 rintro lI mI ⟨nI,oI,rfl,s7,bA,hB,h1,a0,b0,j1⟩
 replace hm:=AX hm
 refine AN _ s7 ?_
 refine Al (Aj (Am rfl rfl (Am rfl rfl (BX 16 (by decide) bA (xs:=(([0]:List Int):List Int)) rfl rfl rfl rfl ⟨(vInt (show inI64 (0) from by decide)),trivial⟩ (by decide) (by decide) rfl fun pI qI rI d2 e2=>?_))))
 replace a0:=a0.st d2
 obtain ⟨sI,f2,a0⟩:=a0.freeze
 replace e2:=e2.st f2
 obtain ⟨cA,g2,e2⟩:=e2.freeze
 obtain ⟨h2,dA,hm⟩:=bs hm
 replace a0:=a0.st g2
 refine CK (O:=cA) (R:=fun w' F v=>T2 w' F v h2) (EV Fr.lt a0 e2 dA) rfl rfl fun tI uI vI c3 eA=>?_
 obtain ⟨wI,xI,rfl,d3,fA⟩:=eA
 obtain ⟨u4,v4,rfl⟩:=d3.form
 obtain ⟨yI,zI,rfl⟩:=fA.form
 refine Am rfl rfl (AZ rfl rfl rfl (AZ rfl rfl rfl (BW rfl rfl ?_)))
 replace h1:=(((h1.st d2).st f2).st g2).st c3
 obtain ⟨gA,aJ,bJ,cJ,dJ,eJ,fJ,gJ,hJ,iJ,jJ,e3,tB,q0,f3,g3,h3,i3,j3,k3,l3,iA,jA,kA⟩:=Spa.opn h1 2 3 (by decide)
 obtain ⟨w4,x4,rfl⟩:=f3.form
 obtain ⟨y4,z4,rfl⟩:=g3.form
 obtain ⟨a5,b5,rfl⟩:=h3.form
 obtain ⟨c5,d5,rfl⟩:=i3.form
 obtain ⟨e5,rfl⟩:=j3.ptr
 obtain ⟨f5,g5,rfl⟩:=k3.form
 obtain ⟨h5,i5,rfl⟩:=l3.form
 obtain ⟨kJ,lJ,rfl⟩:=iA.form
 obtain ⟨lA,mA,rfl⟩:=jA.form
 obtain ⟨t7,u7,rfl⟩:=kA.form
 refine AE rfl rfl (Br q0 rfl rfl rfl (BN rfl) (allOne rfl) fun nA b1 q0=>?_)
 replace q0:Lc 2 nA gA p0 87 [(.slice w4 x0.t.vars.length x4),(.slice y4 x0.t.init.length z4),(.slice a5 x0.t.goal.length b5),(.slice c5 x0.t.ops.length d5),(.pointer (some ⟨e5,0,none⟩)),(.slice f5 x0.edges.length g5),(.slice h5 x0.goals.length i5),(.slice u4 h2.1.length v4),(.slice lA x0.distances.length mA),(.slice t7 x0.steps.length u7)]:=q0
 refine o_z ?_
 refine Aj (Am rfl rfl (Am rfl rfl (Am rfl rfl (Am rfl rfl ?_))))
 replace b0:=(((((b0.st d2).st f2).st g2).st c3).st e3).st b1
 obtain ⟨mJ,c1,b0⟩:=b0.freeze
 replace j1:=((((((j1.st d2).st f2).st g2).st c3).st e3).st b1).st c1
 obtain ⟨oA,d1,j1⟩:=j1.freeze
 obtain ⟨w1,pA,hm⟩:=bs hm
 replace b0:=b0.st d1
 refine CK (O:=oA) (R:=fun w' F v=>T2 w' F v w1) (EV Fr.lt b0 j1 pA) rfl rfl fun nJ oJ v7 k1 qA=>?_
 obtain ⟨pJ,qJ,rfl,m3,n3⟩:=qA
 obtain ⟨w7,x7,rfl⟩:=m3.form
 obtain ⟨rA,sA,rfl⟩:=n3.form
 refine Am rfl rfl (AZ rfl rfl rfl (AZ rfl rfl rfl (BW rfl rfl (AE rfl rfl ?_))))
 replace q0:=((q0.st c1).st d1).st k1
 refine Br q0 rfl rfl rfl (BN rfl) (allOne rfl) fun tA e1 q0=>?_
 replace q0:Lc 2 tA v7 p0 87 [(.slice w4 x0.t.vars.length x4),(.slice y4 x0.t.init.length z4),(.slice a5 x0.t.goal.length b5),(.slice c5 x0.t.ops.length d5),(.pointer (some ⟨e5,0,none⟩)),(.slice f5 x0.edges.length g5),(.slice h5 x0.goals.length i5),(.slice u4 h2.1.length v4),(.slice w7 w1.1.length x7),(.slice t7 x0.steps.length u7)]:=q0
 refine BW rfl rfl (AE rfl rfl (Br q0 rfl rfl rfl (BN rfl) (allOne rfl) fun uA f1 q0=>?_))
 replace q0:Lc 2 uA v7 p0 87 [(.slice w4 x0.t.vars.length x4),(.slice y4 x0.t.init.length z4),(.slice a5 x0.t.goal.length b5),(.slice c5 x0.t.ops.length d5),(.pointer (some ⟨e5,0,none⟩)),(.slice f5 x0.edges.length g5),(.slice h5 x0.goals.length i5),(.slice u4 h2.1.length v4),(.slice w7 w1.1.length x7),(.slice rA w1.2.length sA)]:=q0
 refine o_z ?_
 replace d3:=((((((d3.st e3).st b1).st c1).st d1).st k1).st e1).st f1
 replace f3:=(((((f3.st b1).st c1).st d1).st k1).st e1).st f1
 replace g3:=(((((g3.st b1).st c1).st d1).st k1).st e1).st f1
 replace h3:=(((((h3.st b1).st c1).st d1).st k1).st e1).st f1
 replace i3:=(((((i3.st b1).st c1).st d1).st k1).st e1).st f1
 replace j3:=(((((j3.st b1).st c1).st d1).st k1).st e1).st f1
 replace k3:=(((((k3.st b1).st c1).st d1).st k1).st e1).st f1
 replace l3:=(((((l3.st b1).st c1).st d1).st k1).st e1).st f1
 replace m3:=(m3.st e1).st f1
 replace n3:=(n3.st e1).st f1
 obtain ⟨rJ,vA,uB,vB,wA⟩:=Spa.shut (x:=(⟨(⟨x0.t.vars,x0.t.init,x0.t.goal,x0.t.ops⟩:Tsk),x0.states,x0.edges,x0.goals,h2.1,w1.1,w1.2⟩:Spa)) (l0:=2) (l1:=3) (by decide) q0 f3 g3 h3 i3 j3 k3 l3 d3 m3 n3
 obtain rfl:=sm hm
 replace hB:=(((((((((((hB.st d2).st f2).st g2).st c3).st e3).st b1).st c1).st d1).st k1).st e1).st f1).st vA
 obtain ⟨O',hS',hz,hl⟩:=hE.leave (fun q=>if q=2 then i0 else 0) rfl hB
 exact ret0n rfl  ⟨O',hS',(Ob.leave wA hz (hl 2 (by decide) (by decide)) k5.2)⟩
noncomputable def Du (x0:Spa):Option Int :=
  bnd (Bi x0.states) fun q45=>some q45
theorem ID {w:World} {O:Lab} {p0 i0:Nat} {x0:Spa} (b0:Ob i0 w O (.pointer (some ⟨p0,0,none⟩)) x0) {r:Int} (hm:Du x0=some r) :
    Fn Tryz.prog 21 [(.pointer (some ⟨p0,0,none⟩))] w fun v w'=>∃ O',St (eT i0) w O w' O'∧Ob i0 w' O' (.pointer (some ⟨p0,0,none⟩)) x0∧Vb w' (Fr 0 w' O') v r:=by
 obtain ⟨O0,hE,n0,o0⟩:=ent1 (w:=w) (O:=O) b0.2
 have b0':=Ob.leave b0 n0 o0 (j:=2) (by decide)
 have hB:Bm w O0 w O0:=Bm.refl
 refine AH Tryz.func21 rfl Tryz.ntmps21 rfl ?_
 unfold Du at hm
 refine Al (Aj (An rfl rfl (o_z ?_)))
 refine Al (Al (Aj (Am rfl rfl (EQ rfl rfl ?_))))
 refine o_z ?_
 refine Ae rfl (AI (Al (Aj (Am rfl rfl (BW rfl rfl ?_)))))
 obtain ⟨O2,v6,a1,b1,c1,d1,e1,f1,g1,h1,i1,S3,j1,h4,h7,c0,d0,e0,m0,f0,g0,h0,j0,k0⟩:=Spa.opn b0' 2 3 (by decide)
 obtain ⟨A8,c9,rfl⟩:=h7.form
 obtain ⟨k1,m1,rfl⟩:=c0.form
 obtain ⟨n1,o1,rfl⟩:=d0.form
 obtain ⟨p1,q1,rfl⟩:=e0.form
 obtain ⟨r1,rfl⟩:=m0.ptr
 obtain ⟨s1,t1,rfl⟩:=f0.form
 obtain ⟨u1,v1,rfl⟩:=g0.form
 obtain ⟨w1,x1,rfl⟩:=h0.form
 obtain ⟨y1,z1,rfl⟩:=j0.form
 obtain ⟨a2,b2,rfl⟩:=k0.form
 refine AE rfl rfl (AC (hc:=Blk.cell (i:=4) (h4.1) rfl) rfl rfl ?_)
 obtain ⟨c2,q0,hm⟩:=bs hm
 refine BH (O:=O2) (DX m0 q0) rfl rfl fun d2 e2 f2 a0 r0=>?_
 obtain ⟨s0,t0⟩:=r0
 obtain ⟨rfl,u0⟩:=t0.int
 refine An rfl rfl (o_z ?_)
 refine AG ?_
 replace h4:=h4.st a0
 replace h7:=h7.st a0
 replace c0:=c0.st a0
 replace d0:=d0.st a0
 replace e0:=e0.st a0
 replace f0:=f0.st a0
 replace g0:=g0.st a0
 replace h0:=h0.st a0
 replace j0:=j0.st a0
 replace k0:=k0.st a0
 obtain ⟨g2,v0,w0,y0,z0⟩:=Spa.shut (x:=x0) (l0:=2) (l1:=3) (by decide) h4 h7 c0 d0 e0 s0 f0 g0 h0 j0 k0
 obtain rfl:=sm hm
 replace hB:=((hB.st S3).st a0).st v0
 obtain ⟨O',hS',hz,hl⟩:=hE.leave (fun q=>if q=2 then i0 else 0) rfl hB
 exact ret1v rfl (Az rfl) ⟨O',hS',(Ob.leave z0 hz (hl 2 (by decide) (by decide)) b0.2),(vInt u0)⟩
noncomputable def Cg (x0:Spa) (x1:List Int):Option (Int×Err) :=
  bnd (CH x0.states x1) fun q48=>some (q48.1,(⟨q48.2.n⟩:Err))
theorem Id {w:World} {O:Lab} {p0 i0:Nat} {x0:Spa} (c0:Ob i0 w O (.pointer (some ⟨p0,0,none⟩)) x0) {vx1:Value} {x1:List Int} (b0:Vb w (Fr 0 w O) vx1 x1) {r:Int×Err} (hm:Cg x0 x1=some r) :
    Fn Tryz.prog 23 [(.pointer (some ⟨p0,0,none⟩)),vx1] w fun v w'=>∃ O',St (eT i0) w O w' O'∧∃ v0 v1:Value,Ob i0 w' O' (.pointer (some ⟨p0,0,none⟩)) x0∧v=.tuple #[v0,v1]∧Vb w' (Fr 0 w' O') v0 r.1∧Vb w' (Fr 0 w' O') v1 r.2:=by
 obtain ⟨O0,hE,o0,r0⟩:=ent1 (w:=w) (O:=O) c0.2
 have c0':=Ob.leave c0 o0 r0 (j:=2) (by decide)
 have hB:Bm w O0 w O0:=Bm.refl
 replace b0:=b0.mono o0
 obtain ⟨A3,c4,rfl⟩:=b0.form
 refine AH Tryz.func23 rfl Tryz.ntmps23 rfl ?_
 unfold Cg at hm
 refine Al (Aj (An rfl rfl (An rfl rfl (o_z ?_))))
 refine Al (Al (Aj (Am rfl rfl (EQ rfl rfl ?_))))
 refine o_z ?_
 refine Ae rfl (AI (Al (Aj (Am rfl rfl (BW rfl rfl ?_)))))
 obtain ⟨O5,v9,f1,g1,h1,i1,j1,k1,m1,n1,o1,S6,p1,h7,d0,e0,f0,g0,q0,h0,j0,k0,m0,n0⟩:=Spa.opn c0' 2 3 (by decide)
 obtain ⟨q1,r1,rfl⟩:=d0.form
 obtain ⟨s1,t1,rfl⟩:=e0.form
 obtain ⟨u1,w1,rfl⟩:=f0.form
 obtain ⟨y1,z1,rfl⟩:=g0.form
 obtain ⟨a2,rfl⟩:=q0.ptr
 obtain ⟨b2,c2,rfl⟩:=h0.form
 obtain ⟨d2,e2,rfl⟩:=j0.form
 obtain ⟨f2,g2,rfl⟩:=k0.form
 obtain ⟨h2,i2,rfl⟩:=m0.form
 obtain ⟨j2,k2,rfl⟩:=n0.form
 refine AE rfl rfl (AC (hc:=Blk.cell (i:=4) (h7.1) rfl) rfl rfl ?_)
 refine Am rfl rfl ?_
 obtain ⟨l2,s0,hm⟩:=bs hm
 replace b0:=b0.st S6
 refine BH (O:=O5) (GY q0 b0 s0) rfl rfl fun m2 n2 o2 a0 t0=>?_
 obtain ⟨p2,q2,u0,rfl,w0,y0⟩:=t0
 obtain ⟨rfl,z0⟩:=w0.int
 obtain ⟨rfl,a1⟩:=y0.err
 refine AZ rfl rfl rfl (AZ rfl rfl rfl (An rfl rfl (An rfl rfl (o_z ?_))))
 refine AG ?_
 replace h7:=h7.st a0
 replace d0:=d0.st a0
 replace e0:=e0.st a0
 replace f0:=f0.st a0
 replace g0:=g0.st a0
 replace h0:=h0.st a0
 replace j0:=j0.st a0
 replace k0:=k0.st a0
 replace m0:=m0.st a0
 replace n0:=n0.st a0
 obtain ⟨r2,b1,c1,d1,e1⟩:=Spa.shut (x:=x0) (l0:=2) (l1:=3) (by decide) h7 d0 e0 f0 g0 u0 h0 j0 k0 m0 n0
 obtain rfl:=sm hm
 replace hB:=((hB.st S6).st a0).st b1
 obtain ⟨O',hS',hz,hl⟩:=hE.leave (fun q=>if q=2 then i0 else 0) rfl hB
 exact ret2 rfl (Az rfl) (Az rfl) ⟨O',hS',_,_,(Ob.leave e1 hz (hl 2 (by decide) (by decide)) c0.2),rfl,(vInt z0),(vErr a1)⟩
end
section
open Go Go.RowKit
attribute [local irreducible] ewp owp hwp hwq hws Ev Evg Fn retPost loud loudS Res1
attribute [local irreducible] hwx loudX
noncomputable def DD (x0:Tsk):Option Int :=
  bnd (FP x0) fun q24=>if q24.n≠0 then (some 0) else (bnd (rng (ρ:=Int) (fun (k39:Nat) (a40:Int) (s37:Int)=>bnd (chkI (s37 * a40)) fun n60=>some (.next (min n60 65537))) x0.vars 0 1) fun res35=>fin res35 fun (s67:Int)=>some s67)
theorem Iw {w:World} {A:Nat→Prop} (hA:∀ k,A k→k < w.heap.size) {vx0:Value} {x0:Tsk} (m0:Vb w A vx0 x0) {r:Int} (hm:DD x0=some r) :
    Fn Tryz.prog 58 [vx0] w fun v w'=>Ext w w'∧Vb w' (upA A w w') v r:=by
 obtain ⟨O,hB,g1⟩:=enter hA
 replace m0:=m0.mono g1
 obtain ⟨q1,rfl,v3,v4,v5,v6,rfl,h7,h0,i0,j0⟩:=m0
 obtain ⟨A8,c9,rfl⟩:=h7.form
 obtain ⟨z0,a1,rfl⟩:=h0.form
 obtain ⟨b1,c1,rfl⟩:=i0.form
 obtain ⟨d1,e1,rfl⟩:=j0.form
 refine AH Tryz.func58 rfl Tryz.ntmps58 rfl ?_
 unfold DD at hm
 refine Al (Aj (Dc 2 O rfl rfl fun h1 n0 o0 b0 d0=>?_))
 replace d0:Lc 2 n0 o0 h1 26 [(.slice A8 x0.vars.length c9),(.slice z0 x0.init.length a1),(.slice b1 x0.goal.length c1),(.slice d1 x0.ops.length e1)]:=d0
 refine An rfl rfl (o_z ?_)
 refine Al (Al (Aj (Bk (hl:=rfl) (hc:=(d0.1).cellsAt) rfl rfl ?_)))
 obtain ⟨i1,j1,hm⟩:=bs hm
 replace h7:=h7.st b0
 replace h0:=h0.st b0
 replace i0:=i0.st b0
 replace j0:=j0.st b0
 refine AV (O:=o0) (A:=All n0) (R:=fun w' F v=>Vb w' F v i1) (IS (fun _ h=>h) (Vb.mono (F:=Fr 0 n0 o0) (Vb.ofAgg (cs:=[(.slice A8 x0.vars.length c9),(.slice z0 x0.init.length a1),(.slice b1 x0.goal.length c1),(.slice d1 x0.ops.length e1)]) (x:=x0) rfl ⟨_,_,_,_,rfl,h7,h0,i0,j0⟩) Fr.lt) j1) rfl rfl fun r1 s1 k1 e0 l1=>?_
 obtain ⟨rfl,t1⟩:=l1.err
 refine Dy rfl rfl (fun p0=>?_) fun p0=>?_
 ·
  replace hm:=ip hm p0
  refine o_z ?_
  refine Ah rfl (Al (Aj (An rfl rfl (o_z ?_))))
  refine AG ?_
  obtain rfl:=sm hm
  replace hB:=(hB.st b0).st e0
  exact ret1v rfl (Az rfl) ⟨hB.ext,(vInt (show inI64 (0) from by decide))⟩
 replace hm:=im hm p0
 refine o_z ?_
 refine Ae rfl (AI (Al (Aj (An rfl rfl (o_z ?_)))))
 refine Al (Al (Aj (AE rfl rfl ?_)))
 replace d0:=d0.st e0
 refine AC (hc:=Blk.cell (i:=0) (d0.1) rfl) rfl rfl ?_
 refine AP rfl rfl ?_
 replace h7:=h7.st e0
 have q0:x0.vars.length≤9223372036854775807:=Nat.le_trans h7.len.2.1 h7.len.2.2
 have u1:inI64 (x0.vars.length:Int):=rngNat q0
 refine Am rfl rfl (o_z ?_)
 obtain ⟨f0,r0,hm⟩:=bs hm
 refine AJ (aft f0 (fun (a0:Int) (k0:Unit)=>[(3,(.int .i64 a0))]) (fun a0 k0 w'=>∃ O':Lab,Bs w A w' O'∧inI64 a0)) ?_ ?_
 ·
  refine AM ?_
  replace hB:=(hB.st b0).st e0
  refine By (σ:=Int) (X:=Unit) (x0.vars.length) r0 rfl q0 (fun (a0:Int) (k0:Unit)=>[(3,(.int .i64 a0)),(10,(.slice A8 x0.vars.length c9))]) _ (fun a0 k0 w'=>∃ O':Lab,Bs w A w' O'∧Vb w' (Fr 0 w' O') (.slice A8 x0.vars.length c9) x0.vars∧inI64 a0) _ () ⟨k1,hB,h7,(show inI64 (1) from by decide)⟩ ⟨rfl,rfl,rfl,rfl,trivial⟩ (fun _ _=>⟨rfl,rfl⟩) (fun _ _=>⟨rfl,trivial⟩) (fun _ _ _ ⟨O',hB,h7,l0⟩=>⟨O',hB,l0⟩) ⟨rfl,rfl,rfl⟩ ⟨rfl,rfl⟩ ?_
  rintro m1 v1 a0 k0 w1 n1 g0 ⟨x1,hB,h7,l0⟩ c0 s0 t0
  have rk39:inI64 (m1:Int):=rngK g0 q0
  refine Al (Aj ?_)
  obtain ⟨y1,z1,o1,u0,v0,w0,rfl,a2⟩:=h7.elem' g0
  refine Bo (hA:=u0) (hj:=rfl) (hlt:=v0) rfl rfl rfl ?_
  refine AC (hc:=cat0 w0) rfl rfl ?_
  refine An rfl rfl (o_z ?_)
  refine Aj (Am rfl rfl (Am rfl rfl ?_))
  obtain ⟨b2,f1,c0⟩:=bs c0
  have p1:=(Bw f1)
  refine LI (he:=f1) rfl rfl rfl ?_
  refine LD rfl rfl rfl ?_
  refine An rfl rfl (o_z ?_)
  obtain rfl:=sm c0
  exact show Exists _ from ⟨_,(),rfl,⟨rfl,rfl,rfl,rfl,trivial⟩,_,hB,h7,(rngMin p1 (show inI64 (65537) from by decide))⟩
 replace hB:=(hB.st b0).st e0
 rintro c2 d2 ⟨e2,f2,rfl,y0,g2,hB,l0⟩
 replace hm:=AX hm
 refine AN _ y0 ?_
 refine Al (Aj (Am rfl rfl (An rfl rfl (o_z ?_))))
 refine AG ?_
 obtain rfl:=sm hm
 exact ret1v rfl (Az rfl) ⟨hB.ext,(vInt l0)⟩
noncomputable def Fh (x0:Tsk):Option (Int×Err) :=
  bnd (FP x0) fun q24=>if q24.n≠0 then (some (0,(⟨q24.n⟩:Err))) else (bnd (DD x0) fun q33=>if 65536 < q33 then (some (0,(⟨5⟩:Err))) else (some (q33,(⟨0⟩:Err))))
theorem HJ {w:World} {A:Nat→Prop} (hA:∀ k,A k→k < w.heap.size) {vx0:Value} {x0:Tsk} (g0:Vb w A vx0 x0) {r:Int×Err} (hm:Fh x0=some r) :
    Fn Tryz.prog 63 [vx0] w fun v w'=>Ext w w'∧T2 w' (upA A w w') v r:=by
 obtain ⟨O,hB,u0⟩:=enter hA
 replace g0:=g0.mono u0
 obtain ⟨f1,rfl,v3,v4,v5,v6,rfl,h7,b0,c0,d0⟩:=g0
 obtain ⟨A8,c9,rfl⟩:=h7.form
 obtain ⟨h0,i0,rfl⟩:=b0.form
 obtain ⟨j0,k0,rfl⟩:=c0.form
 obtain ⟨l0,m0,rfl⟩:=d0.form
 refine AH Tryz.func63 rfl Tryz.ntmps63 rfl ?_
 unfold Fh at hm
 refine Al (Aj (Dc 2 O rfl rfl fun v0 n0 o0 e0 f0=>?_))
 replace f0:Lc 2 n0 o0 v0 26 [(.slice A8 x0.vars.length c9),(.slice h0 x0.init.length i0),(.slice j0 x0.goal.length k0),(.slice l0 x0.ops.length m0)]:=f0
 refine An rfl rfl (An rfl rfl (o_z ?_))
 refine Al (Al (Aj (Bk (hl:=rfl) (hc:=(f0.1).cellsAt) rfl rfl ?_)))
 obtain ⟨w0,y0,hm⟩:=bs hm
 replace h7:=h7.st e0
 replace b0:=b0.st e0
 replace c0:=c0.st e0
 replace d0:=d0.st e0
 refine AV (O:=o0) (A:=All n0) (R:=fun w' F v=>Vb w' F v w0) (IS (fun _ h=>h) (Vb.mono (F:=Fr 0 n0 o0) (Vb.ofAgg (cs:=[(.slice A8 x0.vars.length c9),(.slice h0 x0.init.length i0),(.slice j0 x0.goal.length k0),(.slice l0 x0.ops.length m0)]) (x:=x0) rfl ⟨_,_,_,_,rfl,h7,b0,c0,d0⟩) Fr.lt) y0) rfl rfl fun g1 r0 s0 a0 z0=>?_
 obtain ⟨rfl,a1⟩:=z0.err
 refine An rfl rfl (o_z ?_)
 refine Al (Aj (Am rfl rfl (Dy rfl rfl (fun p0=>?_) fun p0=>?_)))
 ·
  replace hm:=ip hm p0
  refine o_z ?_
  refine Ah rfl (Al (Aj (Am rfl rfl (An rfl rfl (An rfl rfl (o_z ?_))))))
  refine AG ?_
  obtain rfl:=sm hm
  replace hB:=(hB.st e0).st a0
  exact ret2 rfl (Az rfl) (Az rfl) ⟨hB.ext,_,_,rfl,(vInt (show inI64 (0) from by decide)),(vErr a1)⟩
 replace hm:=im hm p0
 refine o_z ?_
 refine Ae rfl (AI (Al (Aj ?_)))
 replace f0:=f0.st a0
 refine Bk (hl:=rfl) (hc:=(f0.1).cellsAt) rfl rfl ?_
 obtain ⟨b1,c1,hm⟩:=bs hm
 replace h7:=h7.st a0
 replace b0:=b0.st a0
 replace c0:=c0.st a0
 replace d0:=d0.st a0
 refine AV (O:=s0) (A:=All r0) (R:=fun w' F v=>Vb w' F v b1) (Iw (fun _ h=>h) (Vb.mono (F:=Fr 0 r0 s0) (Vb.ofAgg (cs:=[(.slice A8 x0.vars.length c9),(.slice h0 x0.init.length i0),(.slice j0 x0.goal.length k0),(.slice l0 x0.ops.length m0)]) (x:=x0) rfl ⟨_,_,_,_,rfl,h7,b0,c0,d0⟩) Fr.lt) c1) rfl rfl fun h1 i1 j1 t0 d1=>?_
 obtain ⟨rfl,e1⟩:=d1.int
 refine An rfl rfl (o_z ?_)
 refine Al (Al (Aj (Am rfl rfl (BS rfl rfl rfl (fun q0=>?_) fun q0=>?_))))
 ·
  replace hm:=ip hm q0
  refine o_z ?_
  refine Ah rfl (Al (Aj (Di rfl rfl ?_)))
  refine An rfl rfl (An rfl rfl (o_z ?_))
  refine AG ?_
  obtain rfl:=sm hm
  replace hB:=((hB.st e0).st a0).st t0
  exact ret2 rfl (Az rfl) (Az rfl) ⟨hB.ext,_,_,rfl,(vInt (show inI64 (0) from by decide)),(vErr (by decide))⟩
 replace hm:=im hm q0
 refine o_z ?_
 refine Ae rfl (AI (Al (Aj (Am rfl rfl (An rfl rfl (An rfl rfl (o_z ?_)))))))
 refine AG ?_
 obtain rfl:=sm hm
 replace hB:=((hB.st e0).st a0).st t0
 exact ret2 rfl (Az rfl) (Az rfl) ⟨hB.ext,_,_,rfl,(vInt e1),(vErr (show inI64 0 from by decide))⟩
noncomputable def Fx (x0:Tsk) (x1:Int):Option ((List Int)×Err) :=
  bnd (Fh x0) fun q25=>if q25.2.n≠0 then (some (([]:List Int),(⟨q25.2.n⟩:Err))) else (bnd (if x1 < 0 then (some true) else (if q25.1≤x1 then (some true) else (some false)):Option Bool) fun y39=>if y39=true then (some (([]:List Int),(⟨1⟩:Err))) else (bnd (mkI 8 (0:Int) (x0.vars.length:Int)) fun u52=>bnd (chkI ((u52.length:Int) - 1)) fun n67=>bnd (lop (ρ:=(List Int)×Err) (fun (s72:Int×(List Int)×Int)=>if 0≤s72.2.2 then (bnd (atI x0.vars s72.2.2) fun a94=>bnd (remI s72.1 a94) fun n106=>bnd (atI s72.2.1 s72.2.2) fun a109=>bnd (atI x0.vars s72.2.2) fun a123=>bnd (quoI s72.1 a123) fun n135=>bnd (chkI (s72.2.2 - 1)) fun n138=>some (.next (n135,(s72.2.1.set (s72.2.2:Int).toNat n106),n138))) else (some (.brk (s72.1,s72.2.1,s72.2.2)))) (x1,u52,n67)) fun res70=>fin res70 fun (s145:Int×(List Int)×Int)=>some (s145.2.1,(⟨0⟩:Err))))
theorem Ly {w:World} {A:Nat→Prop} (hA:∀ k,A k→k < w.heap.size) {vx0:Value} {x0:Tsk} (r1:Vb w A vx0 x0) {x1:Int} (rx1:inI64 x1) {r:(List Int)×Err} (hm:Fx x0 x1=some r) :
    Fn Tryz.prog 59 [vx0,(.int .i64 x1)] w fun v w'=>Ext w w'∧T2 w' (upA A w w') v r:=by
 obtain ⟨O,hB,w2⟩:=enter hA
 replace r1:=r1.mono w2
 obtain ⟨l4,rfl,v4,v5,v6,v7,rfl,h8,e0,f0,g0⟩:=r1
 obtain ⟨A9,o0,rfl⟩:=h8.form
 obtain ⟨p0,q0,rfl⟩:=e0.form
 obtain ⟨r0,s0,rfl⟩:=f0.form
 obtain ⟨t0,u0,rfl⟩:=g0.form
 refine AH Tryz.func59 rfl Tryz.ntmps59 rfl ?_
 unfold Fx at hm
 refine Al (Aj (Dc 2 O rfl rfl fun w0 s1 t1 j0 d0=>?_))
 replace d0:Lc 2 s1 t1 w0 26 [(.slice A9 x0.vars.length o0),(.slice p0 x0.init.length q0),(.slice r0 x0.goal.length s0),(.slice t0 x0.ops.length u0)]:=d0
 refine An rfl rfl (An rfl rfl (o_z ?_))
 refine Al (Aj (Bk (hl:=rfl) (hc:=(d0.1).cellsAt) rfl rfl ?_))
 obtain ⟨x2,y2,hm⟩:=bs hm
 replace h8:=h8.st j0
 replace e0:=e0.st j0
 replace f0:=f0.st j0
 replace g0:=g0.st j0
 refine AV (O:=t1) (A:=All s1) (R:=fun w' F v=>T2 w' F v x2) (HJ (fun _ h=>h) (Vb.mono (F:=Fr 0 s1 t1) (Vb.ofAgg (cs:=[(.slice A9 x0.vars.length o0),(.slice p0 x0.init.length q0),(.slice r0 x0.goal.length s0),(.slice t0 x0.ops.length u0)]) (x:=x0) rfl ⟨_,_,_,_,rfl,h8,e0,f0,g0⟩) Fr.lt) y2) rfl rfl fun m4 z2 a3 b0 b3=>?_
 obtain ⟨n4,o4,rfl,c3,d3⟩:=b3
 obtain ⟨rfl,p4⟩:=c3.int
 obtain ⟨rfl,e3⟩:=d3.err
 refine Am rfl rfl (AZ rfl rfl rfl (AZ rfl rfl rfl (An rfl rfl (An rfl rfl (o_z ?_)))))
 refine Al (Al (Aj (Am rfl rfl (Dy rfl rfl (fun u1=>?_) fun u1=>?_))))
 ·
  replace hm:=ip hm u1
  refine o_z ?_
  refine Ah rfl (Al (Aj (Am rfl rfl (An rfl rfl (An rfl rfl (o_z ?_))))))
  refine AG ?_
  obtain rfl:=sm hm
  replace hB:=(hB.st j0).st b0
  exact ret2 rfl (Az rfl) (Az rfl) ⟨hB.ext,_,_,rfl,(Vb.mono (F:=Fr 0 z2 a3) (Vb.nil _ _) hB.out),(vErr e3)⟩
 replace hm:=im hm u1
 refine o_z ?_
 refine Ae rfl (AI (Al (Al ?_)))
 obtain ⟨f3,c0,hm⟩:=bs hm
 refine AJ (fun l' w'=>∃ (g3:Unit) (O':Lab),subs l' [(1,(.int .i64 x1)),(2,(.pointer (some ⟨w0,0,none⟩))),(24,(.bool f3))]∧Bs w A w' O'∧Lc 2 w' O' w0 26 [(.slice A9 x0.vars.length o0),(.slice p0 x0.init.length q0),(.slice r0 x0.goal.length s0),(.slice t0 x0.ops.length u0)]∧Vb w' (Fr 0 w' O') (.slice A9 x0.vars.length o0) x0.vars∧Vb w' (Fr 0 w' O') (.slice p0 x0.init.length q0) x0.init∧Vb w' (Fr 0 w' O') (.slice r0 x0.goal.length s0) x0.goal∧Vb w' (Fr 0 w' O') (.slice t0 x0.ops.length u0) x0.ops) ?_ ?_
 ·
  refine Aj (Am rfl rfl (Dx rfl rfl rfl (fun v1=>?_) fun v1=>?_))
  ·
   replace c0:=ip c0 v1
   refine Am rfl rfl (At rfl rfl rfl rfl (At rfl rfl rfl rfl (At rfl rfl rfl rfl (AY rfl rfl rfl (o_z ?_)))))
   obtain rfl:=sm c0
   exact ⟨(),_,⟨rfl,rfl,rfl,trivial⟩,(hB.st j0).st b0,d0.st b0,h8.st b0,e0.st b0,f0.st b0,g0.st b0⟩
  replace c0:=im c0 v1
  refine Am rfl rfl (Aw rfl rfl (Am rfl rfl (Aw rfl rfl (Am rfl rfl (Aw rfl rfl (FM rfl rfl rfl (fun w1=>?_) fun w1=>?_))))))
  ·
   replace c0:=ip c0 w1
   refine AQ rfl rfl rfl (o_z ?_)
   obtain rfl:=sm c0
   exact ⟨(),_,⟨rfl,rfl,rfl,trivial⟩,(hB.st j0).st b0,d0.st b0,h8.st b0,e0.st b0,f0.st b0,g0.st b0⟩
  replace c0:=im c0 w1
  refine AQ rfl rfl rfl (o_z ?_)
  obtain rfl:=sm c0
  exact ⟨(),_,⟨rfl,rfl,rfl,trivial⟩,(hB.st j0).st b0,d0.st b0,h8.st b0,e0.st b0,f0.st b0,g0.st b0⟩
 replace hB:=(hB.st j0).st b0
 replace h8:=h8.st b0
 replace e0:=e0.st b0
 replace f0:=f0.st b0
 replace g0:=g0.st b0
 replace d0:=d0.st b0
 rintro q4 h3 ⟨g3,p2,y1,hB,d0,h8,e0,f0,g0⟩
 refine AN _ y1 ?_
 refine CV rfl (fun z1=>?_) (fun z1=>?_)
 ·
  replace hm:=ip hm z1
  refine Al (Aj (Di rfl rfl ?_))
  refine An rfl rfl (An rfl rfl (o_z ?_))
  refine AG ?_
  obtain rfl:=sm hm
  exact ret2 rfl (Az rfl) (Az rfl) ⟨hB.ext,_,_,rfl,(Vb.mono (F:=Fr 0 h3 p2) (Vb.nil _ _) hB.out),(vErr (by decide))⟩
 replace hm:=im' hm z1
 refine AI (Al (Aj (AE rfl rfl (AC (hc:=Blk.cell (i:=0) (d0.1) rfl) rfl rfl ?_))))
 refine AP rfl rfl ?_
 have i3:x0.vars.length≤9223372036854775807:=Nat.le_trans h8.len.2.1 h8.len.2.2
 have r4:inI64 (x0.vars.length:Int):=rngNat i3
 obtain ⟨v0,j3,hm⟩:=bs hm
 obtain ⟨n1,k3,l3,m3,n3⟩:=Dw j3
 refine FO 3 (by decide) p2 (z0:=(0:Int)) rfl rfl rfl rfl rfl k3 (vInt (show inI64 0 from by decide)) l3 m3 rfl fun o1 s4 o3 m0 p1=>?_
 rw [← n3] at p1 ⊢
 refine An rfl rfl (o_z ?_)
 refine Al (Al (Aj (Am rfl rfl (AP rfl rfl ?_))))
 have p3:v0.length≤9223372036854775807:=Nat.le_trans p1.len.2.1 p1.len.2.2
 have t4:inI64 (v0.length:Int):=rngNat p3
 obtain ⟨u4,q2,hm⟩:=bs hm
 have q3:=(Bw q2)
 refine Kr (he:=q2) rfl rfl rfl ?_
 refine An rfl rfl (o_z ?_)
 obtain ⟨y0,a2,hm⟩:=bs hm
 refine AJ (aft y0 (fun (i0:Int×(List Int)×Int) (q1:Unit)=>[(8,(.slice (some ⟨o1,0,none⟩) v0.length n1))]) (fun i0 q1 w'=>∃ O':Lab,Bs w A w' O'∧Rw 3 w' O' 3 (.slice (some ⟨o1,0,none⟩) v0.length n1) i0.2.1∧inI64 i0.1∧inI64 i0.2.2)) ?_ ?_
 ·
  refine AM ?_
  replace hB:=hB.st m0
  replace h8:=h8.st m0
  replace e0:=e0.st m0
  replace f0:=f0.st m0
  replace g0:=g0.st m0
  replace d0:=d0.st m0
  refine Gc (σ:=Int×(List Int)×Int) (X:=Unit) a2 (fun (i0:Int×(List Int)×Int) (q1:Unit)=>[(1,(.int .i64 i0.1)),(2,(.pointer (some ⟨w0,0,none⟩))),(8,(.slice (some ⟨o1,0,none⟩) v0.length n1)),(9,(.int .i64 i0.2.2))]) _ (fun i0 q1 w'=>∃ O':Lab,Bs w A w' O'∧Lc 2 w' O' w0 26 [(.slice A9 x0.vars.length o0),(.slice p0 x0.init.length q0),(.slice r0 x0.goal.length s0),(.slice t0 x0.ops.length u0)]∧Vb w' (Fr 0 w' O') (.slice A9 x0.vars.length o0) x0.vars∧Vb w' (Fr 0 w' O') (.slice p0 x0.init.length q0) x0.init∧Vb w' (Fr 0 w' O') (.slice r0 x0.goal.length s0) x0.goal∧Vb w' (Fr 0 w' O') (.slice t0 x0.ops.length u0) x0.ops∧Rw 3 w' O' 3 (.slice (some ⟨o1,0,none⟩) v0.length n1) i0.2.1∧inI64 i0.1∧inI64 i0.2.2) _ () ⟨o3,hB,d0,h8,e0,f0,g0,p1,rx1,q3⟩ ⟨rfl,rfl,rfl,rfl,trivial⟩ ?_
  rintro i0 q1 w4 r3 ⟨x4,hB,d0,h8,e0,f0,g0,k0,a1,r2⟩ a0 b2 n0
  refine Al (Al (Aj (Am rfl rfl (FM rfl rfl rfl (fun c2=>?_) fun c2=>?_))))
  ·
   replace a0:=ip a0 c2
   refine o_z ?_
   refine Ah rfl (AI (Al (AM (Al (Aj (Am rfl rfl (Am rfl rfl (Am rfl rfl (AE rfl rfl (AC (hc:=Blk.cell (i:=0) (d0.1) rfl) rfl rfl ?_))))))))))
   refine Am rfl rfl ?_
   obtain ⟨y4,s3,a0⟩:=bs a0
   obtain ⟨t3,u3⟩:=AO s3
   obtain ⟨z4,a5,s2,b1,c1,d1,rfl,v3⟩:=h8.elem' u3
   refine Bo (hA:=b1) (hj:=(Int.toNat_of_nonneg t3).symm) (hlt:=c1) rfl rfl rfl ?_
   refine AC (hc:=cat0 d1) rfl rfl ?_
   obtain ⟨d2,e1,a0⟩:=bs a0
   have e2:=PQ e1 a1
   refine RH (he:=e1) rfl rfl rfl ?_
   obtain ⟨w3,f2,a0⟩:=bs a0
   obtain ⟨g2,f1⟩:=AO f2
   obtain ⟨x3,y3,t2,l0,g1,u2,rfl,z3⟩:=k0.elem f1
   refine Bo (hA:=l0) (hj:=(Int.toNat_of_nonneg g2).symm) (hlt:=g1) rfl rfl rfl ?_
   refine Dh rfl k0 (a:=d2) (vInt e2) l0 rfl rfl (AD f1) fun a4 h0 k0=>?_
   refine o_z ?_
   refine Aj (Am rfl rfl (AE rfl rfl ?_))
   replace d0:=d0.st h0
   refine AC (hc:=Blk.cell (i:=0) (d0.1) rfl) rfl rfl ?_
   refine Am rfl rfl ?_
   obtain ⟨b4,h2,a0⟩:=bs a0
   obtain ⟨i2,j2⟩:=AO h2
   replace h8:=h8.st h0
   obtain ⟨c4,d4,v2,h1,i1,j1,rfl,e4⟩:=h8.elem' j2
   refine Bo (hA:=h1) (hj:=(Int.toNat_of_nonneg i2).symm) (hlt:=i1) rfl rfl rfl ?_
   refine AC (hc:=cat0 j1) rfl rfl ?_
   obtain ⟨f4,k1,a0⟩:=bs a0
   have k2:=MU k1 a1
   refine PF (he:=k1) (hr:=a1) rfl rfl rfl ?_
   refine An rfl rfl (o_z ?_)
   refine Aj (Am rfl rfl ?_)
   obtain ⟨g4,l1,a0⟩:=bs a0
   have l2:=(Bw l1)
   refine Kr (he:=l1) rfl rfl rfl ?_
   refine An rfl rfl (o_z ?_)
   obtain rfl:=sm a0
   exact show Exists _ from ⟨_,(),rfl,⟨rfl,rfl,rfl,rfl,trivial⟩,_,hB.st h0,d0,h8,e0.st h0,f0.st h0,g0.st h0,k0,k2,l2⟩
  replace a0:=im a0 c2
  refine o_z ?_
  refine Ae rfl (DN ?_)
  obtain rfl:=sm a0
  exact show Exists _ from ⟨_,(),n0 _ rfl,⟨rfl,trivial⟩,_,hB,k0,a1,r2⟩
 replace hB:=hB.st m0
 rintro h4 m2 ⟨i4,j4,rfl,m1,k4,hB,k0,a1,r2⟩
 replace hm:=AX hm
 refine AN _ m1 ?_
 refine Al (Aj (Am rfl rfl (An rfl rfl (An rfl rfl (o_z ?_)))))
 refine AG ?_
 obtain ⟨n2,o2,k0⟩:=k0.freeze
 obtain rfl:=sm hm
 replace hB:=hB.st o2
 exact ret2 rfl (Az rfl) (Az rfl) ⟨hB.ext,_,_,rfl,(Vb.mono (F:=Fr 0 m2 n2) k0 hB.out),(vErr (show inI64 0 from by decide))⟩
noncomputable def Gn (x0:Tsk) (x1:List Int):Option (Int×Err) :=
  bnd (Fh x0) fun q27=>if q27.2.n≠0 then (some (0,(⟨q27.2.n⟩:Err))) else (bnd (Iu x0.vars x1) fun q41=>if q41=true then bnd (rng (ρ:=Int×Err) (fun (k54:Nat) (a55:Int) (s52:Int)=>bnd (x0.vars[k54]?) fun a75=>bnd (chkI (s52 * a75)) fun n85=>bnd (chkI (n85 + a55)) fun n88=>some (.next n88)) x1 0 0) fun res50=>fin res50 fun (s95:Int)=>some (s95,(⟨0⟩:Err)) else some (0,(⟨2⟩:Err)))
theorem MM {w:World} {A:Nat→Prop} (hA:∀ k,A k→k < w.heap.size) {vx0:Value} {x0:Tsk} (v0:Vb w A vx0 x0) {vx1:Value} {x1:List Int} (a0:Vb w A vx1 x1) {r:Int×Err} (hm:Gn x0 x1=some r) :
    Fn Tryz.prog 28 [vx0,vx1] w fun v w'=>Ext w w'∧T2 w' (upA A w w') v r:=by
 obtain ⟨O,hB,o1⟩:=enter hA
 replace v0:=v0.mono o1
 obtain ⟨k2,rfl,v4,v5,v6,v7,rfl,h8,d0,e0,f0⟩:=v0
 obtain ⟨A9,m0,rfl⟩:=h8.form
 obtain ⟨n0,o0,rfl⟩:=d0.form
 obtain ⟨p0,q0,rfl⟩:=e0.form
 obtain ⟨r0,s0,rfl⟩:=f0.form
 replace a0:=a0.mono o1
 obtain ⟨p1,q1,rfl⟩:=a0.form
 refine AH Tryz.func28 rfl Tryz.ntmps28 rfl ?_
 unfold Gn at hm
 refine Al (Aj (Dc 2 O rfl rfl fun w0 y0 z0 h0 c0=>?_))
 replace c0:Lc 2 y0 z0 w0 26 [(.slice A9 x0.vars.length m0),(.slice n0 x0.init.length o0),(.slice p0 x0.goal.length q0),(.slice r0 x0.ops.length s0)]:=c0
 refine An rfl rfl (An rfl rfl (o_z ?_))
 refine Al (Al (Aj (Bk (hl:=rfl) (hc:=(c0.1).cellsAt) rfl rfl ?_)))
 obtain ⟨u1,v1,hm⟩:=bs hm
 replace h8:=h8.st h0
 replace d0:=d0.st h0
 replace e0:=e0.st h0
 replace f0:=f0.st h0
 refine AV (O:=z0) (A:=All y0) (R:=fun w' F v=>T2 w' F v u1) (HJ (fun _ h=>h) (Vb.mono (F:=Fr 0 y0 z0) (Vb.ofAgg (cs:=[(.slice A9 x0.vars.length m0),(.slice n0 x0.init.length o0),(.slice p0 x0.goal.length q0),(.slice r0 x0.ops.length s0)]) (x:=x0) rfl ⟨_,_,_,_,rfl,h8,d0,e0,f0⟩) Fr.lt) v1) rfl rfl fun l2 a1 b1 g0 w1=>?_
 obtain ⟨m2,n2,rfl,y1,z1⟩:=w1
 obtain ⟨rfl,o2⟩:=y1.int
 obtain ⟨rfl,a2⟩:=z1.err
 refine Am rfl rfl (AZ rfl rfl rfl (AZ rfl rfl rfl (An rfl rfl (An rfl rfl (o_z ?_)))))
 refine Al (Aj (Am rfl rfl (Dy rfl rfl (fun c1=>?_) fun c1=>?_)))
 ·
  replace hm:=ip hm c1
  refine o_z ?_
  refine Ah rfl (Al (Aj (Am rfl rfl (An rfl rfl (An rfl rfl (o_z ?_))))))
  refine AG ?_
  obtain rfl:=sm hm
  replace hB:=(hB.st h0).st g0
  exact ret2 rfl (Az rfl) (Az rfl) ⟨hB.ext,_,_,rfl,(vInt (show inI64 (0) from by decide)),(vErr a2)⟩
 replace hm:=im hm c1
 refine o_z ?_
 refine Ae rfl (AI (Al (Al (Aj (AE rfl rfl ?_)))))
 replace c0:=c0.st g0
 refine AC (hc:=Blk.cell (i:=0) (c0.1) rfl) rfl rfl ?_
 refine Am rfl rfl ?_
 obtain ⟨r1,b2,hm⟩:=bs hm
 replace a0:=(a0.st h0).st g0
 replace h8:=h8.st g0
 refine AV (O:=b1) (A:=All a1) (R:=fun w' F v=>Vb w' F v r1) (Lv (fun _ h=>h) (Vb.mono (F:=Fr 0 a1 b1) h8 Fr.lt) (Vb.mono (F:=Fr 0 a1 b1) a0 Fr.lt) b2) rfl rfl fun p2 q2 c2 i0 d2=>?_
 obtain rfl:=d2.bool
 cases r1
 case false =>
  replace hm:=iF hm
  refine Cq rfl rfl (o_z ?_)
  refine Ah rfl (Al (Aj (Di rfl rfl ?_)))
  refine An rfl rfl (An rfl rfl (o_z ?_))
  refine AG ?_
  obtain rfl:=sm hm
  replace hB:=((hB.st h0).st g0).st i0
  exact ret2 rfl (Az rfl) (Az rfl) ⟨hB.ext,_,_,rfl,(vInt (show inI64 (0) from by decide)),(vErr (by decide))⟩
 replace hm:=iT hm
 refine Cp rfl rfl (o_z ?_)
 refine Ae rfl (AI (Al (Aj (An rfl rfl (o_z ?_)))))
 refine Al (Al (Aj (Am rfl rfl (AP rfl rfl ?_))))
 replace a0:=a0.st i0
 have d1:x1.length≤9223372036854775807:=Nat.le_trans a0.len.2.1 a0.len.2.2
 have r2:inI64 (x1.length:Int):=rngNat d1
 refine Am rfl rfl (o_z ?_)
 obtain ⟨k0,e1,hm⟩:=bs hm
 refine AJ (aft k0 (fun (j0:Int) (t0:Unit)=>[(8,(.int .i64 j0))]) (fun j0 t0 w'=>∃ O':Lab,Bs w A w' O'∧inI64 j0)) ?_ ?_
 ·
  refine AM ?_
  replace hB:=((hB.st h0).st g0).st i0
  replace h8:=h8.st i0
  replace d0:=(d0.st g0).st i0
  replace e0:=(e0.st g0).st i0
  replace f0:=(f0.st g0).st i0
  replace c0:=c0.st i0
  refine By (σ:=Int) (X:=Unit) (x1.length) e1 rfl d1 (fun (j0:Int) (t0:Unit)=>[(2,(.pointer (some ⟨w0,0,none⟩))),(8,(.int .i64 j0)),(25,(.slice p1 x1.length q1))]) _ (fun j0 t0 w'=>∃ O':Lab,Bs w A w' O'∧Lc 2 w' O' w0 26 [(.slice A9 x0.vars.length m0),(.slice n0 x0.init.length o0),(.slice p0 x0.goal.length q0),(.slice r0 x0.ops.length s0)]∧Vb w' (Fr 0 w' O') (.slice A9 x0.vars.length m0) x0.vars∧Vb w' (Fr 0 w' O') (.slice n0 x0.init.length o0) x0.init∧Vb w' (Fr 0 w' O') (.slice p0 x0.goal.length q0) x0.goal∧Vb w' (Fr 0 w' O') (.slice r0 x0.ops.length s0) x0.ops∧Vb w' (Fr 0 w' O') (.slice p1 x1.length q1) x1∧inI64 j0) _ () ⟨c2,hB,c0,h8,d0,e0,f0,a0,(show inI64 (0) from by decide)⟩ ⟨rfl,rfl,rfl,rfl,rfl,trivial⟩ (fun _ _=>⟨rfl,rfl⟩) (fun _ _=>⟨rfl,trivial⟩) (fun _ _ _ ⟨O',hB,c0,h8,d0,e0,f0,a0,u0⟩=>⟨O',hB,u0⟩) ⟨rfl,rfl,rfl⟩ ⟨rfl,rfl⟩ ?_
  rintro e2 s2 j0 t0 t2 f2 l0 ⟨u2,hB,c0,h8,d0,e0,f0,a0,u0⟩ b0 f1 g1
  have rk54:inI64 (e2:Int):=rngK l0 d1
  refine Al (Aj (Am rfl rfl ?_))
  obtain ⟨v2,w2,g2,h1,i1,j1,rfl,x2⟩:=a0.elem' l0
  refine Bo (hA:=h1) (hj:=rfl) (hlt:=i1) rfl rfl rfl ?_
  refine AC (hc:=cat0 j1) rfl rfl ?_
  refine An rfl rfl (An rfl rfl (o_z ?_))
  refine Aj (Am rfl rfl (AE rfl rfl (AC (hc:=Blk.cell (i:=0) (c0.1) rfl) rfl rfl ?_)))
  refine Am rfl rfl ?_
  obtain ⟨y2,h2,b0⟩:=bs b0
  obtain ⟨z2,a3,i2,k1,l1,m1,rfl,b3⟩:=h8.elem' h2
  refine Bo (hA:=k1) (hj:=rfl) (hlt:=l1) rfl rfl rfl ?_
  refine AC (hc:=cat0 m1) rfl rfl ?_
  obtain ⟨c3,s1,b0⟩:=bs b0
  have d3:=(Bw s1)
  refine LI (he:=s1) rfl rfl rfl ?_
  refine Am rfl rfl ?_
  obtain ⟨e3,t1,b0⟩:=bs b0
  have j2:=(Bw t1)
  refine Ee (he:=t1) rfl rfl rfl ?_
  refine An rfl rfl (o_z ?_)
  obtain rfl:=sm b0
  exact show Exists _ from ⟨_,(),rfl,⟨rfl,rfl,rfl,rfl,rfl,trivial⟩,_,hB,c0,h8,d0,e0,f0,a0,j2⟩
 replace hB:=((hB.st h0).st g0).st i0
 rintro f3 g3 ⟨h3,i3,rfl,n1,j3,hB,u0⟩
 replace hm:=AX hm
 refine AN _ n1 ?_
 refine Al (Aj (Am rfl rfl (An rfl rfl (An rfl rfl (o_z ?_)))))
 refine AG ?_
 obtain rfl:=sm hm
 exact ret2 rfl (Az rfl) (Az rfl) ⟨hB.ext,_,_,rfl,(vInt u0),(vErr (show inI64 0 from by decide))⟩
noncomputable def CP (x0:Tsk):Option ((List Int)×Err) :=
  bnd (CJ x0) fun q24=>if q24.2.n≠0 then (some (([]:List Int),(⟨q24.2.n⟩:Err))) else (bnd (DD x0) fun q39=>if 65536 < q39 then (some (([]:List Int),(⟨5⟩:Err))) else (bnd (mkI 24 ([]:List Arc) q39) fun u48=>bnd (natI q39) fun N74=>bnd (rngN (ρ:=(List Int)×Err) (fun (k65:Nat) (s63:(List (List Arc))×(List Int))=>bnd (Fx x0 (k65:Int)) fun q84=>if q84.2.n≠0 then (some (.ret (([]:List Int),(⟨q84.2.n⟩:Err)))) else (bnd (bnd (CF x0.goal q84.1) fun q105=>if q105=true then bnd (appI 8 s63.2 [(k65:Int)]) fun u112=>some u112 else some s63.2:Option (List Int)) fun y99=>bnd (Bd q24.1 q84.1) fun q128=>bnd (rng (ρ:=Ctl ((List (List Arc))×(List Int)) ((List Int)×Err)) (fun (k143:Nat) (a144:Suc) (s141:(List (List Arc)))=>bnd (Gn x0 a144.state) fun q177=>if q177.2.n≠0 then (some (.ret (.ret (([]:List Int),(⟨q177.2.n⟩:Err))))) else (bnd (atI s141 q177.1) fun a191=>bnd (atI x0.ops a144.op) fun a206=>bnd (appI 24 a191 [(⟨q177.1,(k65:Int),a206.cost⟩:Arc)]) fun u237=>bnd (atI s141 q177.1) fun a248=>some (.next (s141.set (q177.1:Int).toNat u237)))) q128 0 s63.1) fun res139=>fin res139 fun (s267:(List (List Arc)))=>some (.next (s267,y99)))) N74 (u48,([]:List Int))) fun res61=>fin res61 fun (s273:(List (List Arc))×(List Int))=>bnd (BB s273.1 s273.2) fun q279=>some (q279.1,(⟨0⟩:Err))))
theorem GC {w:World} {A:Nat→Prop} (hA:∀ k,A k→k < w.heap.size) {vx0:Value} {x0:Tsk} (e4:Vb w A vx0 x0) {r:(List Int)×Err} (hm:CP x0=some r) :
    Fn Tryz.prog 26 [vx0] w fun v w'=>Ext w w'∧T2 w' (upA A w w') v r:=by
 obtain ⟨O,hB,s6⟩:=enter hA
 replace e4:=e4.mono s6
 obtain ⟨y9,rfl,v3,v4,v5,v6,rfl,h7,i0,e0,f0⟩:=e4
 obtain ⟨A8,c9,rfl⟩:=h7.form
 obtain ⟨g1,h1,rfl⟩:=i0.form
 obtain ⟨i1,j1,rfl⟩:=e0.form
 obtain ⟨k1,l1,rfl⟩:=f0.form
 refine AH Tryz.func26 rfl Tryz.ntmps26 rfl ?_
 unfold CP at hm
 refine Al (Aj (Dc 2 O rfl rfl fun v1 t6 j6 h2 c0=>?_))
 replace c0:Lc 2 t6 j6 v1 26 [(.slice A8 x0.vars.length c9),(.slice g1 x0.init.length h1),(.slice i1 x0.goal.length j1),(.slice k1 x0.ops.length l1)]:=c0
 refine An rfl rfl (An rfl rfl (o_z ?_))
 refine Al (Aj (Bk (hl:=rfl) (hc:=(c0.1).cellsAt) rfl rfl ?_))
 obtain ⟨y2,u6,hm⟩:=bs hm
 replace h7:=h7.st h2
 replace i0:=i0.st h2
 replace e0:=e0.st h2
 replace f0:=f0.st h2
 refine CK (O:=j6) (R:=fun w' F v=>T2 w' F v y2) (Iv Fr.lt (Vb.ofAgg (cs:=[(.slice A8 x0.vars.length c9),(.slice g1 x0.init.length h1),(.slice i1 x0.goal.length j1),(.slice k1 x0.ops.length l1)]) (x:=x0) rfl ⟨_,_,_,_,rfl,h7,i0,e0,f0⟩) u6) rfl rfl fun z9 f4 g4 w1 w6=>?_
 obtain ⟨aA,bA,rfl,q0,x6⟩:=w6
 obtain ⟨i2,rfl,y6⟩:=q0.ptr
 obtain ⟨rfl,z6⟩:=x6.err
 refine Am rfl rfl (AZ rfl rfl rfl (AZ rfl rfl rfl (An rfl rfl (An rfl rfl (o_z ?_)))))
 refine Al (Al (Aj (Am rfl rfl (Dy rfl rfl (fun h4=>?_) fun h4=>?_))))
 ·
  replace hm:=ip hm h4
  refine o_z ?_
  refine Ah rfl (Al (Aj (Am rfl rfl (An rfl rfl (An rfl rfl (o_z ?_))))))
  refine AG ?_
  obtain rfl:=sm hm
  replace hB:=(hB.st h2).st w1
  exact ret2 rfl (Az rfl) (Az rfl) ⟨hB.ext,_,_,rfl,(Vb.mono (F:=Fr 0 f4 g4) (Vb.nil _ _) hB.out),(vErr z6)⟩
 replace hm:=im hm h4
 refine o_z ?_
 refine Ae rfl (AI (Al (Aj ?_)))
 replace c0:=c0.st w1
 refine Bk (hl:=rfl) (hc:=(c0.1).cellsAt) rfl rfl ?_
 obtain ⟨a7,b7,hm⟩:=bs hm
 replace h7:=h7.st w1
 replace i0:=i0.st w1
 replace e0:=e0.st w1
 replace f0:=f0.st w1
 refine AV (O:=g4) (A:=All f4) (R:=fun w' F v=>Vb w' F v a7) (Iw (fun _ h=>h) (Vb.mono (F:=Fr 0 f4 g4) (Vb.ofAgg (cs:=[(.slice A8 x0.vars.length c9),(.slice g1 x0.init.length h1),(.slice i1 x0.goal.length j1),(.slice k1 x0.ops.length l1)]) (x:=x0) rfl ⟨_,_,_,_,rfl,h7,i0,e0,f0⟩) Fr.lt) b7) rfl rfl fun cA c7 k6 x1 d7=>?_
 obtain ⟨rfl,l6⟩:=d7.int
 refine An rfl rfl (o_z ?_)
 refine Al (Al (Aj (Am rfl rfl (BS rfl rfl rfl (fun i4=>?_) fun i4=>?_))))
 ·
  replace hm:=ip hm i4
  refine o_z ?_
  refine Ah rfl (Al (Aj (Di rfl rfl ?_)))
  refine An rfl rfl (An rfl rfl (o_z ?_))
  refine AG ?_
  obtain rfl:=sm hm
  replace hB:=((hB.st h2).st w1).st x1
  exact ret2 rfl (Az rfl) (Az rfl) ⟨hB.ext,_,_,rfl,(Vb.mono (F:=Fr 0 c7 k6) (Vb.nil _ _) hB.out),(vErr (by decide))⟩
 replace hm:=im hm i4
 refine o_z ?_
 refine Ae rfl (AI (Al (Aj (Am rfl rfl ?_))))
 obtain ⟨o1,e7,hm⟩:=bs hm
 obtain ⟨p1,f7,g7,i7,j7⟩:=Dw e7
 refine HI (β:=Arc) (e:=106) 3 (by decide) k6 rfl rfl rfl rfl f7 g7 i7 rfl fun q1 dA k7 j2 m6=>?_
 rw [← j7] at m6 ⊢
 refine An rfl rfl (o_z ?_)
 refine Al (Aj (An rfl rfl (o_z ?_)))
 refine Al (Al (Aj (Am rfl rfl (Am rfl rfl (o_z ?_)))))
 obtain ⟨z3,r1,hm⟩:=bs hm
 replace r1:=Lh r1
 obtain ⟨z2,j4,hm⟩:=bs hm
 refine AJ (aft z2 (fun (m1:(List (List Arc))×(List Int)) (e1:(Option Addr×Nat))=>[(7,(.slice (some ⟨q1,0,none⟩) o1.length p1)),(8,(.slice e1.1 m1.2.length e1.2))]) (fun m1 e1 w'=>∃ O':Lab,Bs w A w' O'∧NR Arc 3 w' O' 104 106 (.slice (some ⟨q1,0,none⟩) o1.length p1) m1.1 none∧Rw 4 w' O' 3 (.slice e1.1 m1.2.length e1.2) m1.2)) ?_ ?_
 ·
  refine AM ?_
  replace hB:=(((hB.st h2).st w1).st x1).st j2
  replace h7:=(h7.st x1).st j2
  replace i0:=(i0.st x1).st j2
  replace e0:=(e0.st x1).st j2
  replace f0:=(f0.st x1).st j2
  replace c0:=(c0.st x1).st j2
  replace q0:=(q0.st x1).st j2
  refine HV (σ:=(List (List Arc))×(List Int)) (X:=(Option Addr×Nat)) z3 j4 (Jq r1 l6) (fun (m1:(List (List Arc))×(List Int)) (e1:(Option Addr×Nat))=>[(1,(.pointer (some ⟨v1,0,none⟩))),(4,(.pointer i2)),(7,(.slice (some ⟨q1,0,none⟩) o1.length p1)),(8,(.slice e1.1 m1.2.length e1.2))]) _ (fun m1 e1 w'=>∃ O':Lab,Bs w A w' O'∧Lc 2 w' O' v1 26 [(.slice A8 x0.vars.length c9),(.slice g1 x0.init.length h1),(.slice i1 x0.goal.length j1),(.slice k1 x0.ops.length l1)]∧Vb w' (Fr 0 w' O') (.slice A8 x0.vars.length c9) x0.vars∧Vb w' (Fr 0 w' O') (.slice g1 x0.init.length h1) x0.init∧Vb w' (Fr 0 w' O') (.slice i1 x0.goal.length j1) x0.goal∧Vb w' (Fr 0 w' O') (.slice k1 x0.ops.length l1) x0.ops∧Vb w' (Fr 0 w' O') (.pointer i2) y2.1∧NR Arc 3 w' O' 104 106 (.slice (some ⟨q1,0,none⟩) o1.length p1) m1.1 none∧Rw 4 w' O' 3 (.slice e1.1 m1.2.length e1.2) m1.2) _ (none,0) ⟨k7,hB,c0,h7,i0,e0,f0,q0,m6,(Rw.nil 4 (by decide))⟩ ⟨rfl,(congrArg (fun z=>some (Value.int .i64 z)) r1),rfl,rfl,rfl,rfl,trivial⟩ (fun _ _=>⟨rfl,rfl⟩) (fun _ _=>⟨rfl,rfl,trivial⟩) (fun _ _ _ ⟨O',hB,c0,h7,i0,e0,f0,q0,b1,n1⟩=>⟨O',hB,b1,n1⟩) ⟨rfl,rfl,rfl⟩ ⟨rfl,rfl⟩ ?_
  rintro u1 m1 e1 eA l7 k4 ⟨m7,hB,c0,h7,i0,e0,f0,q0,b1,n1⟩ g0 s1 l4
  have rk65:inI64 (u1:Int):=rngKN k4 (Jq r1 l6)
  refine Al (Aj (Am rfl rfl (An rfl rfl (o_z ?_))))
  refine Al (Aj (Bk (hl:=rfl) (hc:=(c0.1).cellsAt) rfl rfl ?_))
  refine Am rfl rfl ?_
  obtain ⟨a4,n7,g0⟩:=bs g0
  refine CK (O:=m7) (R:=fun w' F v=>T2 w' F v a4) (Ly Fr.lt (Vb.ofAgg (cs:=[(.slice A8 x0.vars.length c9),(.slice g1 x0.init.length h1),(.slice i1 x0.goal.length j1),(.slice k1 x0.ops.length l1)]) (x:=x0) rfl ⟨_,_,_,_,rfl,h7,i0,e0,f0⟩) rk65 n7) rfl rfl fun fA b4 c4 m0 o7=>?_
  obtain ⟨gA,iA,rfl,x2,p7⟩:=o7
  obtain ⟨n6,o6,rfl⟩:=x2.form
  obtain ⟨rfl,q7⟩:=p7.err
  refine Am rfl rfl (AZ rfl rfl rfl (AZ rfl rfl rfl (An rfl rfl (An rfl rfl (o_z ?_)))))
  refine Al (Al (Aj (Am rfl rfl (Dy rfl rfl (fun m4=>?_) fun m4=>?_))))
  ·
   replace g0:=ip g0 m4
   refine o_z ?_
   refine Ah rfl (Al (Aj (Am rfl rfl (An rfl rfl (An rfl rfl (o_z ?_))))))
   refine AG ?_
   obtain rfl:=sm g0
   obtain rfl:=s1 _ rfl
   obtain rfl:=sm (CB hm)
   replace hB:=hB.st m0
   exact ret2 rfl (Az rfl) (Az rfl) ⟨hB.ext,_,_,rfl,(Vb.mono (F:=Fr 0 b4 c4) (Vb.nil _ _) hB.out),(vErr q7)⟩
  replace g0:=im g0 m4
  refine o_z ?_
  refine Ae rfl (AI (Al ?_))
  obtain ⟨y1,j0,g0⟩:=bs g0
  refine AJ (fun l' w'=>∃ (k0:(Option Addr×Nat)) (O':Lab),subs l' [(1,(.pointer (some ⟨v1,0,none⟩))),(4,(.pointer i2)),(7,(.slice (some ⟨q1,0,none⟩) o1.length p1)),(8,(.slice k0.1 y1.length k0.2)),(9,(.int .i64 (u1:Int))),(10,(.slice n6 a4.1.length o6)),(33,(.int .i64 (z3:Int))),(34,(.int .i64 (u1:Int)))]∧Bs w A w' O'∧Lc 2 w' O' v1 26 [(.slice A8 x0.vars.length c9),(.slice g1 x0.init.length h1),(.slice i1 x0.goal.length j1),(.slice k1 x0.ops.length l1)]∧Vb w' (Fr 0 w' O') (.slice A8 x0.vars.length c9) x0.vars∧Vb w' (Fr 0 w' O') (.slice g1 x0.init.length h1) x0.init∧Vb w' (Fr 0 w' O') (.slice i1 x0.goal.length j1) x0.goal∧Vb w' (Fr 0 w' O') (.slice k1 x0.ops.length l1) x0.ops∧Vb w' (Fr 0 w' O') (.pointer i2) y2.1∧NR Arc 3 w' O' 104 106 (.slice (some ⟨q1,0,none⟩) o1.length p1) m1.1 none∧Rw 4 w' O' 3 (.slice k0.1 y1.length k0.2) y1∧Vb w' (Fr 0 w' O') (.slice n6 a4.1.length o6) a4.1) ?_ ?_
  ·
   refine Al (Aj (AE rfl rfl ?_))
   replace c0:=c0.st m0
   refine AC (hc:=Blk.cell (i:=2) (c0.1) rfl) rfl rfl ?_
   refine Am rfl rfl ?_
   obtain ⟨a3,n4,j0⟩:=bs j0
   replace e0:=e0.st m0
   refine AV (O:=c4) (A:=All b4) (R:=fun w' F v=>Vb w' F v a3) (GX (fun _ h=>h) (Vb.mono (F:=Fr 0 b4 c4) e0 Fr.lt) (Vb.mono (F:=Fr 0 b4 c4) x2 Fr.lt) n4) rfl rfl fun r7 s7 t7 b0 o4=>?_
   obtain rfl:=o4.bool
   cases a3
   case false =>
    replace j0:=iF j0
    refine o_z ?_
    refine Ae rfl (AI ?_)
    obtain rfl:=sm j0
    exact ⟨(e1.1,e1.2),_,⟨rfl,rfl,rfl,rfl,rfl,rfl,rfl,rfl,trivial⟩,(hB.st m0).st b0,c0.st b0,(h7.st m0).st b0,(i0.st m0).st b0,e0.st b0,(f0.st m0).st b0,(q0.st m0).st b0,(b1.st m0).st b0,(n1.st m0).st b0,x2.st b0⟩
   replace j0:=iT j0
   refine o_z ?_
   refine Ah rfl (Aj (Am rfl rfl (Am rfl rfl ?_)))
   obtain ⟨u7,m2,j0⟩:=bs j0
   obtain ⟨m2,p4,q4⟩:=Cc m2
   replace n1:=(n1.st m0).st b0
   refine Ed rfl (a:=(u1:Int)) n1 (vInt rk65) (fun _=>rfl) rfl (by decide) (by decide) p4 q4 ⟨rfl,rfl⟩ fun v7 r4 s4 w7 x7 v0 b3=>?_
   rw [← m2] at b3 ⊢
   refine An rfl rfl (o_z ?_)
   obtain rfl:=sm j0
   exact ⟨(r4,s4),_,⟨rfl,rfl,rfl,rfl,rfl,rfl,rfl,rfl,trivial⟩,((hB.st m0).st b0).st v0,(c0.st b0).st v0,((h7.st m0).st b0).st v0,((i0.st m0).st b0).st v0,(e0.st b0).st v0,((f0.st m0).st b0).st v0,((q0.st m0).st b0).st v0,((b1.st m0).st b0).st v0,b3,(x2.st b0).st v0⟩
  replace hB:=hB.st m0
  replace h7:=h7.st m0
  replace i0:=i0.st m0
  replace e0:=e0.st m0
  replace f0:=f0.st m0
  replace c0:=c0.st m0
  replace q0:=q0.st m0
  replace b1:=b1.st m0
  rintro y7 z7 ⟨k0,t4,c3,hB,c0,h7,i0,e0,f0,q0,b1,r0,x2⟩
  refine AN _ c3 ?_
  refine Al (Aj (Am rfl rfl (Am rfl rfl ?_)))
  obtain ⟨c1,u4,g0⟩:=bs g0
  refine CK (O:=t4) (R:=fun w' F v=>Vb w' F v c1) (Ef Fr.lt q0 x2 u4) rfl rfl fun a8 b8 w4 h0 y0=>?_
  obtain ⟨d3,e3,rfl⟩:=y0.form
  refine AP rfl rfl ?_
  have n2:c1.length≤9223372036854775807:=Nat.le_trans y0.len.2.1 y0.len.2.2
  have c8:inI64 (c1.length:Int):=rngNat n2
  refine Am rfl rfl (o_z ?_)
  obtain ⟨o2,f3,g0⟩:=bs g0
  refine AJ (aft o2 (fun (d1:(List (List Arc))) (z1:Unit)=>[(1,(.pointer (some ⟨v1,0,none⟩))),(4,(.pointer i2)),(7,(.slice (some ⟨q1,0,none⟩) o1.length p1)),(8,(.slice k0.1 y1.length k0.2)),(33,(.int .i64 (z3:Int))),(34,(.int .i64 (u1:Int)))]) (fun d1 z1 w'=>∃ O':Lab,Bs w A w' O'∧Lc 2 w' O' v1 26 [(.slice A8 x0.vars.length c9),(.slice g1 x0.init.length h1),(.slice i1 x0.goal.length j1),(.slice k1 x0.ops.length l1)]∧Vb w' (Fr 0 w' O') (.slice A8 x0.vars.length c9) x0.vars∧Vb w' (Fr 0 w' O') (.slice g1 x0.init.length h1) x0.init∧Vb w' (Fr 0 w' O') (.slice i1 x0.goal.length j1) x0.goal∧Vb w' (Fr 0 w' O') (.slice k1 x0.ops.length l1) x0.ops∧Vb w' (Fr 0 w' O') (.pointer i2) y2.1∧NR Arc 3 w' O' 104 106 (.slice (some ⟨q1,0,none⟩) o1.length p1) d1 none∧Rw 4 w' O' 3 (.slice k0.1 y1.length k0.2) y1)) ?_ ?_
  ·
   refine AM ?_
   replace hB:=hB.st h0
   replace h7:=h7.st h0
   replace i0:=i0.st h0
   replace e0:=e0.st h0
   replace f0:=f0.st h0
   replace c0:=c0.st h0
   replace q0:=q0.st h0
   replace b1:=b1.st h0
   replace r0:=r0.st h0
   refine By (σ:=(List (List Arc))) (X:=Unit) (c1.length) f3 rfl n2 (fun (d1:(List (List Arc))) (z1:Unit)=>[(1,(.pointer (some ⟨v1,0,none⟩))),(4,(.pointer i2)),(7,(.slice (some ⟨q1,0,none⟩) o1.length p1)),(8,(.slice k0.1 y1.length k0.2)),(9,(.int .i64 (u1:Int))),(33,(.int .i64 (z3:Int))),(34,(.int .i64 (u1:Int))),(56,(.slice d3 c1.length e3))]) _ (fun d1 z1 w'=>∃ O':Lab,Bs w A w' O'∧Lc 2 w' O' v1 26 [(.slice A8 x0.vars.length c9),(.slice g1 x0.init.length h1),(.slice i1 x0.goal.length j1),(.slice k1 x0.ops.length l1)]∧Vb w' (Fr 0 w' O') (.slice A8 x0.vars.length c9) x0.vars∧Vb w' (Fr 0 w' O') (.slice g1 x0.init.length h1) x0.init∧Vb w' (Fr 0 w' O') (.slice i1 x0.goal.length j1) x0.goal∧Vb w' (Fr 0 w' O') (.slice k1 x0.ops.length l1) x0.ops∧Vb w' (Fr 0 w' O') (.pointer i2) y2.1∧NR Arc 3 w' O' 104 106 (.slice (some ⟨q1,0,none⟩) o1.length p1) d1 none∧Rw 4 w' O' 3 (.slice k0.1 y1.length k0.2) y1∧Vb w' (Fr 0 w' O') (.slice d3 c1.length e3) c1) _ () ⟨w4,hB,c0,h7,i0,e0,f0,q0,b1,r0,y0⟩ ⟨rfl,rfl,rfl,rfl,rfl,rfl,rfl,rfl,rfl,rfl,trivial⟩ (fun _ _=>⟨rfl,rfl⟩) (fun _ _=>⟨rfl,rfl,rfl,rfl,rfl,rfl,trivial⟩) (fun _ _ _ ⟨O',hB,c0,h7,i0,e0,f0,q0,d0,r0,y0⟩=>⟨O',hB,c0,h7,i0,e0,f0,q0,d0,r0⟩) ⟨rfl,rfl,rfl⟩ ⟨rfl,rfl⟩ ?_
   rintro x4 g3 d1 z1 d8 p6 k2 ⟨y4,hB,c0,h7,i0,e0,f0,q0,d0,r0,y0⟩ a0 a2 d4
   have rk143:inI64 (x4:Int):=rngK k2 n2
   refine Al (Aj ?_)
   obtain ⟨e8,f8,q6,h3,i3,j3,g8,rfl,b2,h8⟩:=y0.elem' k2
   obtain ⟨z4,a5,rfl⟩:=b2.form
   refine Bo (hA:=h3) (hj:=rfl) (hlt:=i3) rfl rfl rfl ?_
   refine Bk (hl:=rfl) (hc:=j3) rfl rfl ?_
   refine Ch 5 y4 rfl fun b5 i8 c2 n0 z0=>?_
   refine Br z0 rfl rfl rfl (BN rfl) (allOne rfl) fun d2 o0 z0=>?_
   replace z0:Lc 5 d2 c2 b5 91 [(.int .i64 g3.op),(.slice z4 g3.state.length a5)]:=z0
   refine o_z ?_
   refine Al (Aj ?_)
   replace c0:=(c0.st n0).st o0
   refine Bk (hl:=rfl) (hc:=(c0.1).cellsAt) rfl rfl ?_
   refine AE rfl rfl (AC (hc:=Blk.cell (i:=1) (z0.1) rfl) rfl rfl ?_)
   obtain ⟨t1,c5,a0⟩:=bs a0
   replace h7:=(h7.st n0).st o0
   replace i0:=(i0.st n0).st o0
   replace e0:=(e0.st n0).st o0
   replace f0:=(f0.st n0).st o0
   replace b2:=(b2.st n0).st o0
   refine AV (O:=c2) (A:=All d2) (R:=fun w' F v=>T2 w' F v t1) (MM (fun _ h=>h) (Vb.mono (F:=Fr 0 d2 c2) (Vb.ofAgg (cs:=[(.slice A8 x0.vars.length c9),(.slice g1 x0.init.length h1),(.slice i1 x0.goal.length j1),(.slice k1 x0.ops.length l1)]) (x:=x0) rfl ⟨_,_,_,_,rfl,h7,i0,e0,f0⟩) Fr.lt) (Vb.mono (F:=Fr 0 d2 c2) b2 Fr.lt) c5) rfl rfl fun j8 p2 e2 p0 d5=>?_
   obtain ⟨k8,l8,rfl,e5,f5⟩:=d5
   obtain ⟨rfl,g5⟩:=e5.int
   obtain ⟨rfl,h5⟩:=f5.err
   refine Am rfl rfl (AZ rfl rfl rfl (AZ rfl rfl rfl (An rfl rfl (An rfl rfl (o_z ?_)))))
   refine Al (Al (Aj (Am rfl rfl (Dy rfl rfl (fun q2=>?_) fun q2=>?_))))
   ·
    replace a0:=ip a0 q2
    refine o_z ?_
    refine Ah rfl (Al (Aj (Am rfl rfl (An rfl rfl (An rfl rfl (o_z ?_))))))
    refine AG ?_
    obtain rfl:=sm a0
    obtain rfl:=a2 _ rfl
    obtain rfl:=sm (CB g0)
    obtain rfl:=s1 _ rfl
    obtain rfl:=sm (CB hm)
    replace hB:=((hB.st n0).st o0).st p0
    exact ret2 rfl (Az rfl) (Az rfl) ⟨hB.ext,_,_,rfl,(Vb.mono (F:=Fr 0 p2 e2) (Vb.nil _ _) hB.out),(vErr h5)⟩
   replace a0:=im a0 q2
   refine o_z ?_
   refine Ae rfl (AI (BG [(17,[3,14])] e2 ?_))
   refine Bb (fuel:=6) [] [(2,true),(3,true),(4,true),(5,true),(6,true),(7,true),(8,true),(9,true),(10,true),(11,true),(12,true),(13,true),(14,true),(15,true)] (by kernel_rfl) rfl ?_
   refine AK rfl rfl rfl (AK rfl rfl rfl ?_)
   obtain ⟨f2,i5,a0⟩:=bs a0
   obtain ⟨j5,r2⟩:=AO i5
   replace d0:=((d0.st n0).st o0).st p0
   obtain ⟨m8,n8,a1,k3⟩:=d0.at r2
   refine BU (hA:=a1) (hj:=(Int.toNat_of_nonneg j5).symm) (hlt:=k3) rfl rfl rfl rfl ?_
   obtain ⟨l3,m3,f1,g2⟩:=NR.peek d0 a1 r2
   replace g2:Vb p2 (FrS [3] p2 e2) (.slice l3 f2.length m3) f2:=g2
   refine AS (hc:=fun w' ⟨O',hq⟩=>NR.stay d0 a1 hq (by decide) f1) rfl rfl rfl ?_
   refine AK rfl rfl rfl (AK rfl rfl rfl (AT rfl rfl rfl ?_))
   replace c0:=c0.st p0
   refine AS (hc:=fun w' ⟨O',hq⟩=>Blk.cell (i:=3) ((c0.st hq (by decide)).1) rfl) rfl rfl rfl ?_
   refine AT rfl rfl rfl ?_
   replace z0:=z0.st p0
   refine AS (hc:=fun w' ⟨O',hq⟩=>Blk.cell (i:=0) ((z0.st hq (by decide)).1) rfl) rfl rfl rfl ?_
   obtain ⟨s2,k5,a0⟩:=bs a0
   obtain ⟨l5,m5⟩:=AO k5
   replace f0:=f0.st p0
   obtain ⟨o8,p8,r6,n3,o3,p3,q3,q8,r8,rfl,n5,o5,p5,s8⟩:=f0.elem m5
   obtain ⟨t8,u8,rfl⟩:=n5.form
   obtain ⟨v8,w8,rfl⟩:=o5.form
   refine BU (hA:=n3) (hj:=(Int.toNat_of_nonneg l5).symm) (hlt:=p3) rfl rfl rfl rfl ?_
   refine AT rfl rfl rfl (AS (hc:=fun w' ⟨O',hq⟩=>cat1 (Bh (hq.agree (i:=0) (by decide)) o3 q3)) rfl rfl rfl ?_)
   refine GV rfl rfl rfl rfl ?_
   refine AL ?_
   refine Bb (fuel:=4) [3,14] [(0,true),(1,true)] (by kernel_rfl) rfl ?_
   refine AK rfl rfl rfl (AK rfl rfl rfl (AL ?_))
   refine Bg (i:=16) (by kernel_rfl) rfl ?_
   refine BX 6 (by decide) e2 (xs:=([(⟨t1.1,(u1:Int),s2.cost⟩:Arc)]:List Arc)) rfl rfl rfl rfl ⟨(Vb.ofAgg (cs:=[(.int .i64 t1.1),(.int .i64 (u1:Int)),(.int .i64 s2.cost)]) (x:=(⟨t1.1,(u1:Int),s2.cost⟩:Arc)) rfl ⟨rfl,g5,rk65,p5⟩),trivial⟩ (by decide) (by decide) rfl fun x8 q5 y8 l0 t2=>?_
   have hZ:=l0.lst [] (fun _ h=>h.elim)
   replace f1:=NR.stay d0 a1 l0 id f1
   replace g2:=g2.stS l0 id (fun _ _=>id)
   refine BE [(17,[3,14])] hZ (by kernel_rfl) ?_
   refine Bg (i:=17) (by kernel_rfl) rfl ?_
   replace d0:=d0.st l0
   obtain ⟨r5,s0,d0,u2⟩:=NR.take' d0 a1 r2 f1 14 (by decide) (by decide)
   replace u2:Rw 14 q5 r5 106 (.slice l3 f2.length m3) f2:=u2
   have hZ:=s0.lst [3] (fun _ h=>by cases h;decide)
   obtain ⟨s5,v2,a0⟩:=bs a0
   obtain ⟨v2,t5,u5⟩:=Cc v2
   replace t2:=t2.st s0
   refine CX rfl u2 (t2.rd) rfl rfl (by decide) t5 u5 rfl fun z8 a9 b9 d9 t0 r3=>?_
   rw [← v2] at r3 ⊢
   replace hZ:=hZ.cmp t0 [3,14] (fun _ h=>by cases h;decide) rfl
   refine BE [] hZ (by kernel_rfl) ?_
   refine Bb (fuel:=1) [] [(18,true)] (by kernel_rfl) rfl ?_
   obtain ⟨w5,x5,a0⟩:=bs a0
   obtain ⟨y5,s3⟩:=AO x5
   replace d0:=d0.st t0
   obtain ⟨e9,f9,l2,t3⟩:=d0.at s3
   refine BU (hA:=l2) (hj:=(Int.toNat_of_nonneg y5).symm) (hlt:=t3) rfl rfl rfl rfl ?_
   refine AL ?_
   refine Bg (i:=19) (by kernel_rfl) rfl ?_
   refine Mm (a:=w5) (off:=0) d0 r3 (by decide) l2 s3 rfl rfl rfl rfl (by decide) fun z5 a6 w0 w2=>?_
   replace w2:NR Arc 3 z5 a6 104 106 (.slice (some ⟨q1,0,none⟩) o1.length p1) (d1.set (t1.1:Int).toNat s5) none:=w2
   refine DI (by kernel_rfl) ?_
   refine Ck (by kernel_rfl) ?_
   obtain rfl:=sm a0
   exact show Exists _ from ⟨_,(),rfl,⟨rfl,rfl,rfl,rfl,rfl,rfl,rfl,rfl,rfl,rfl,trivial⟩,_,((((((hB.st n0).st o0).st p0).st l0).st s0).st t0).st w0,(((c0.st l0).st s0).st t0).st w0,((((h7.st p0).st l0).st s0).st t0).st w0,((((i0.st p0).st l0).st s0).st t0).st w0,((((e0.st p0).st l0).st s0).st t0).st w0,(((f0.st l0).st s0).st t0).st w0,((((((q0.st n0).st o0).st p0).st l0).st s0).st t0).st w0,w2,((((((r0.st n0).st o0).st p0).st l0).st s0).st t0).st w0,((((((y0.st n0).st o0).st p0).st l0).st s0).st t0).st w0⟩
  replace hB:=hB.st h0
  replace h7:=h7.st h0
  replace i0:=i0.st h0
  replace e0:=e0.st h0
  replace f0:=f0.st h0
  replace c0:=c0.st h0
  replace q0:=q0.st h0
  replace r0:=r0.st h0
  rintro g9 h9 ⟨i9,j9,rfl,u0,k9,hB,c0,h7,i0,e0,f0,q0,d0,r0⟩
  replace g0:=AX g0
  obtain rfl:=sm g0
  exact show Exists _ from ⟨_,(k0.1,k0.2),rfl,⟨(Bn u0 _ _ rfl),(Bn u0 _ _ rfl),(Bn u0 _ _ rfl),(Bn u0 _ _ rfl),(Bn u0 _ _ rfl),(Bn u0 _ _ rfl),trivial⟩,_,hB,c0,h7,i0,e0,f0,q0,d0,r0⟩
 replace hB:=(((hB.st h2).st w1).st x1).st j2
 rintro l9 m9 ⟨n9,o9,rfl,u3,p9,hB,b1,n1⟩
 replace hm:=AX hm
 refine AN _ u3 ?_
 refine Al (Aj (Am rfl rfl (Am rfl rfl ?_)))
 obtain ⟨q9,w3,b1⟩:=b1.freeze
 replace n1:=n1.st w3
 obtain ⟨b6,x3,n1⟩:=n1.freeze
 obtain ⟨c6,d6,hm⟩:=bs hm
 replace b1:=b1.st x3
 refine CK (O:=b6) (R:=fun w' F v=>T2 w' F v c6) (EV Fr.lt b1 n1 d6) rfl rfl fun r9 e6 f6 g6 h6=>?_
 obtain ⟨s9,t9,rfl,y3,i6⟩:=h6
 obtain ⟨u9,v9,rfl⟩:=y3.form
 obtain ⟨w9,x9,rfl⟩:=i6.form
 refine Am rfl rfl (AZ rfl rfl rfl (AZ rfl rfl rfl (An rfl rfl (An rfl rfl (o_z ?_)))))
 refine Al (Aj (Am rfl rfl (An rfl rfl (An rfl rfl (o_z ?_)))))
 refine AG ?_
 obtain rfl:=sm hm
 replace hB:=((hB.st w3).st x3).st g6
 exact ret2 rfl (Az rfl) (Az rfl) ⟨hB.ext,_,_,rfl,(Vb.mono (F:=Fr 0 e6 f6) y3 hB.out),(vErr (show inI64 0 from by decide))⟩
end
section
open Go Go.RowKit
theorem IZ {P:Program} {t:TypeId} [h:TIface P t] (s:TypeId) (v:Value) (w:World):(Op.equal t .nilIface (.iface s v)).run P w=.ok false w:=by
  obtain ⟨ms,hm⟩:=h.eq
  have hd:∀ d:Nat,(Op.equalIn (d + 1) t .nilIface (.iface s v)).run P w=.ok false w:=fun d=>by
    simp [Op.equalIn,run_underlying hm]
  exact hd 9999
theorem Rl {P:Program} {l:Env} {w:World} {dst:Option Tmp} {ty:TypeId} {pos:String} {aft:Array Edge} {t u:TypeId} [TIface P t] {x y:Operand} {s:TypeId} {v:Value} (hx:opv l x=some .nilIface) (hy:opv l y=some (.iface s v)):Ev P ⟨dst,.binOp .eql t x y u,ty,pos,aft,none⟩ l w (.bool false):=fun _ a d ha=>by
  simp [execOp,ha.eval hx,ha.eval hy,eqGuard,binOp,IZ (P:=P) (t:=t)]
section
attribute [local irreducible] ewp owp hwp hwq hws Ev Evg Fn retPost loud loudS Res1
attribute [local irreducible] hwx loudX
theorem MN {w:World} {A:Nat→Prop} (hA:∀ k,A k→k < w.heap.size) {x0:Err} (rx0:inI64 x0.n) {x1:Err} (rx1:inI64 x1.n) {r:Bool} (hm:Ep x0 x1=some r) :
    Fn Tryz.prog 50 [(errV x0.n),(errV x1.n)] w fun v w'=>Ext w w'∧Vb w' (upA A w w') v r:=by
  obtain ⟨⟨e0,e1⟩,rfl⟩:=Fy hm
  obtain ⟨O,hB,a0⟩:=enter hA
  refine AH Tryz.func50 rfl Tryz.ntmps50 rfl ?_
  rw [e0,FE,Gd e1]
  refine Al (Aj (An rfl rfl (o_z ?_)))
  refine Al (Al (Aj (Am rfl rfl (OC rfl rfl ?_))))
  refine Am rfl rfl (At rfl rfl rfl rfl (At rfl rfl rfl rfl (AY rfl rfl rfl (o_z ?_))))
  refine Ah rfl (Al (Aj (Am rfl rfl (Am rfl rfl (AR (Rl rfl rfl) rfl (An rfl rfl (o_z ?_)))))))
  refine AG ?_
  exact ret1v rfl (Az rfl) ⟨hB.ext,vBool⟩
end
end
section
open Go Go.RowKit
attribute [local irreducible] ewp owp hwp hwq hws Ev Evg Fn retPost loud loudS Res1
attribute [local irreducible] hwx loudX
noncomputable def BQ (x0:Tsk) (x1:Int):Option ((Option Spa)×Err) :=
  bnd (CJ x0) fun q25=>if q25.2.n≠0 then (some (none,(⟨q25.2.n⟩:Err))) else (bnd (Da x0.vars) fun q40=>if q40.2.n≠0 then (some (none,(⟨q40.2.n⟩:Err))) else (if (max 0 (min x1 65536)) < 1 then (some (none,(⟨10⟩:Err))) else (bnd q40.1 fun o54=>bnd (Bt o54 x0.init) fun q57=>if q57.2.2.1.n≠0 then (some (none,(⟨q57.2.2.1.n⟩:Err))) else (bnd (CI x0) fun q74=>bnd (lop (ρ:=(Option Spa)×Err) (fun (s105:Int×(List Edj)×(List Bool)×Reg)=>bnd (Bi s105.2.2.2) fun q130=>if s105.1 < q130 then (bnd (BF s105.2.2.2 s105.1) fun q141=>if q141.2.n≠0 then (some (.ret (none,(⟨q141.2.n⟩:Err)))) else (bnd (bnd (CF x0.goal q141.1) fun q163=>if q163=true then bnd (appI 1 s105.2.2.1 [true]) fun u195=>some u195 else bnd (appI 1 s105.2.2.1 [false]) fun u176=>some u176:Option (List Bool)) fun y157=>bnd (Bd q25.1 q141.1) fun q212=>bnd (rng (ρ:=Ctl (Int×(List Edj)×(List Bool)×Reg) ((Option Spa)×Err)) (fun (k227:Nat) (a228:Suc) (s225:(List Edj)×Reg)=>bnd (Bt s225.2 a228.state) fun q263=>bnd (bnd (Ep (⟨q263.2.2.1.n⟩:Err) (⟨10⟩:Err)) fun q283=>if q283=true then some true else if q263.2.1=true then (if (max 0 (min x1 65536))≤q263.1 then (some true) else (some false)) else (some false):Option Bool) fun y279=>if y279=true then (some (.ret (.ret (none,(⟨10⟩:Err))))) else (if q263.2.2.1.n≠0 then (some (.ret (.ret (none,(⟨q263.2.2.1.n⟩:Err))))) else (bnd (appI 24 s225.1 [(⟨s105.1,a228.op,q263.1⟩:Edj)]) fun u304=>some (.next (u304,q263.2.2.2))))) q212 0 (s105.2.1,s105.2.2.2)) fun res223=>fin res223 fun (s321:(List Edj)×Reg)=>bnd (chkI (s105.1 + 1)) fun n323=>some (.next (n323,s321.1,y157,s321.2)))) else (some (.brk (s105.1,s105.2.1,s105.2.2.1,s105.2.2.2)))) (0,([]:List Edj),([]:List Bool),q57.2.2.2)) fun res103=>fin res103 fun (s330:Int×(List Edj)×(List Bool)×Reg)=>bnd (BM (⟨(⟨q74.vars,q74.init,q74.goal,q74.ops⟩:Tsk),s330.2.2.2,s330.2.1,s330.2.2.1,([]:List Int),([]:List Int),([]:List Int)⟩:Spa)) fun q341=>some ((some q341),(⟨0⟩:Err))))))
theorem Fk {w:World} {O:Lab} {vx0:Value} {x0:Tsk} (r5:Vb w (Fr 0 w O) vx0 x0) {x1:Int} (rx1:inI64 x1) (j0:Nat) (hj0:j0≠0) {r:(Option Spa)×Err} (hm:BQ x0 x1=some r) :
    Fn Tryz.prog 12 [vx0,(.int .i64 x1)] w fun v w'=>∃ O',St nT w O w' O'∧∃ v0 v1:Value,v=.tuple #[v0,v1]∧Obo j0 w' O' v0 r.1∧Vb w' (Fr 0 w' O') v1 r.2:=by
 obtain ⟨O0,hE,k8⟩:=ent0 (w:=w) (O:=O)
 have hB:Bm w O0 w O0:=Bm.refl
 replace r5:=r5.mono k8
 obtain ⟨qB,rfl,v4,v5,v6,v7,rfl,h8,u0,w0,h1⟩:=r5
 obtain ⟨A9,t2,rfl⟩:=h8.form
 obtain ⟨u2,v2,rfl⟩:=u0.form
 obtain ⟨w2,x2,rfl⟩:=w0.form
 obtain ⟨y2,z2,rfl⟩:=h1.form
 refine AH Tryz.func12 rfl Tryz.ntmps12 rfl ?_
 unfold BQ at hm
 refine Al (Aj (Dc 2 O0 rfl rfl fun d3 l8 d8 i3 s0=>?_))
 replace s0:Lc 2 l8 d8 d3 26 [(.slice A9 x0.vars.length t2),(.slice u2 x0.init.length v2),(.slice w2 x0.goal.length x2),(.slice y2 x0.ops.length z2)]:=s0
 refine An rfl rfl (An rfl rfl (o_z ?_))
 refine Al (Aj (Bk (hl:=rfl) (hc:=(s0.1).cellsAt) rfl rfl ?_))
 obtain ⟨j4,m8,hm⟩:=bs hm
 replace h8:=h8.st i3
 replace u0:=u0.st i3
 replace w0:=w0.st i3
 replace h1:=h1.st i3
 refine CK (O:=d8) (R:=fun w' F v=>T2 w' F v j4) (Iv Fr.lt (Vb.ofAgg (cs:=[(.slice A9 x0.vars.length t2),(.slice u2 x0.init.length v2),(.slice w2 x0.goal.length x2),(.slice y2 x0.ops.length z2)]) (x:=x0) rfl ⟨_,_,_,_,rfl,h8,u0,w0,h1⟩) m8) rfl rfl fun rB sB n8 e3 o8=>?_
 obtain ⟨tB,uB,rfl,t1,p8⟩:=o8
 obtain ⟨j3,rfl,q8⟩:=t1.ptr
 obtain ⟨rfl,r8⟩:=p8.err
 refine Am rfl rfl (AZ rfl rfl rfl (AZ rfl rfl rfl (An rfl rfl (An rfl rfl (o_z ?_)))))
 refine Al (Al (Aj (Am rfl rfl (Dy rfl rfl (fun s5=>?_) fun s5=>?_))))
 ·
  replace hm:=ip hm s5
  refine o_z ?_
  refine Ah rfl (Al (Aj (Am rfl rfl (An rfl rfl (An rfl rfl (o_z ?_))))))
  refine AG ?_
  obtain rfl:=sm hm
  replace hB:=(hB.st i3).st e3
  obtain ⟨O',hS',hz,hl⟩:=hE.leave (fun _=>0) rfl hB
  exact ret2 rfl (Az rfl) (Az rfl) ⟨O',hS',_,_,rfl,rfl,(vErr r8)⟩
 replace hm:=im hm s5
 refine o_z ?_
 refine Ae rfl (AI (Al (Aj (Am rfl rfl (LD rfl rfl rfl ?_)))))
 refine Nn rfl rfl rfl ?_
 refine An rfl rfl (o_z ?_)
 refine Al (Aj (AE rfl rfl ?_))
 replace s0:=s0.st e3
 refine AC (hc:=Blk.cell (i:=0) (s0.1) rfl) rfl rfl ?_
 obtain ⟨vB,s8,hm⟩:=bs hm
 replace h8:=h8.st e3
 refine BH (O:=n8) (KM h8 3 (by decide) s8) rfl rfl fun wB xB t8 f3 u8=>?_
 obtain ⟨yB,zB,rfl,t5,v8⟩:=u8
 obtain ⟨rfl,w8⟩:=v8.err
 refine Am rfl rfl (AZ rfl rfl rfl (AZ rfl rfl rfl (An rfl rfl (An rfl rfl (o_z ?_)))))
 refine Al (Al (Aj (Am rfl rfl (Dy rfl rfl (fun u5=>?_) fun u5=>?_))))
 ·
  replace hm:=ip hm u5
  refine o_z ?_
  refine Ah rfl (Al (Aj (Am rfl rfl (An rfl rfl (An rfl rfl (o_z ?_))))))
  refine AG ?_
  obtain rfl:=sm hm
  replace hB:=((hB.st i3).st e3).st f3
  obtain ⟨O',hS',hz,hl⟩:=hE.leave (fun _=>0) rfl hB
  exact ret2 rfl (Az rfl) (Az rfl) ⟨O',hS',_,_,rfl,rfl,(vErr w8)⟩
 replace hm:=im hm u5
 refine o_z ?_
 refine Ae rfl (AI (Al (Al (Aj (Am rfl rfl (Dx rfl rfl rfl (fun w5=>?_) fun w5=>?_))))))
 ·
  replace hm:=ip hm w5
  refine o_z ?_
  refine Ah rfl (Al (Aj (Di rfl rfl ?_)))
  refine An rfl rfl (An rfl rfl (o_z ?_))
  refine AG ?_
  obtain rfl:=sm hm
  replace hB:=((hB.st i3).st e3).st f3
  obtain ⟨O',hS',hz,hl⟩:=hE.leave (fun _=>0) rfl hB
  exact ret2 rfl (Az rfl) (Az rfl) ⟨O',hS',_,_,rfl,rfl,(vErr (by decide))⟩
 replace hm:=im hm w5
 refine o_z ?_
 refine Ae rfl (AI (Al (Al (Aj (Am rfl rfl (AE rfl rfl ?_))))))
 replace s0:=s0.st f3
 refine AC (hc:=Blk.cell (i:=1) (s0.1) rfl) rfl rfl ?_
 obtain ⟨aC,x8,hm⟩:=bs hm
 rw [x8] at t5
 obtain ⟨c2,rfl⟩:=Ob.ptr t5
 obtain ⟨bC,y8,hm⟩:=bs hm
 replace u0:=(u0.st e3).st f3
 refine BH (O:=t8) (Fi t5 u0 y8) rfl rfl fun cC dC z8 k3 a9=>?_
 obtain ⟨eC,fC,gC,x5,rfl,b9,c9,d9⟩:=a9
 obtain ⟨rfl,hC⟩:=b9.int
 obtain rfl:=c9.bool
 obtain ⟨rfl,e9⟩:=d9.err
 refine Am rfl rfl (AZ rfl rfl rfl (AZ rfl rfl rfl (AZ rfl rfl rfl (An rfl rfl (An rfl rfl (An rfl rfl (o_z ?_)))))))
 refine Al (Aj (Am rfl rfl (Dy rfl rfl (fun y5=>?_) fun y5=>?_)))
 ·
  replace hm:=ip hm y5
  refine o_z ?_
  refine Ah rfl (Al (Aj (Am rfl rfl (An rfl rfl (An rfl rfl (o_z ?_))))))
  refine AG ?_
  obtain rfl:=sm hm
  replace hB:=(((hB.st i3).st e3).st f3).st k3
  obtain ⟨O',hS',hz,hl⟩:=hE.leave (fun _=>0) rfl hB
  exact ret2 rfl (Az rfl) (Az rfl) ⟨O',hS',_,_,rfl,rfl,(vErr e9)⟩
 replace hm:=im hm y5
 refine o_z ?_
 refine Ae rfl (AI (Al (Aj ?_)))
 replace s0:=s0.st k3
 refine Bk (hl:=rfl) (hc:=(s0.1).cellsAt) rfl rfl ?_
 obtain ⟨g0,f9,hm⟩:=bs hm
 replace h8:=(h8.st f3).st k3
 replace u0:=u0.st k3
 replace w0:=((w0.st e3).st f3).st k3
 replace h1:=((h1.st e3).st f3).st k3
 refine CK (O:=z8) (R:=fun w' F v=>Vb w' F v g0) (JX Fr.lt (Vb.ofAgg (cs:=[(.slice A9 x0.vars.length t2),(.slice u2 x0.init.length v2),(.slice w2 x0.goal.length x2),(.slice y2 x0.ops.length z2)]) (x:=x0) rfl ⟨_,_,_,_,rfl,h8,u0,w0,h1⟩) f9) rfl rfl fun iC jC g9 l3 h9=>?_
 obtain ⟨i9,rfl,kC,lC,mC,nC,rfl,z0,a1,b1,c1⟩:=h9
 obtain ⟨h2,i2,rfl⟩:=z0.form
 obtain ⟨j2,k2,rfl⟩:=a1.form
 obtain ⟨l2,m2,rfl⟩:=b1.form
 obtain ⟨n2,o2,rfl⟩:=c1.form
 refine Am rfl rfl (EC rfl rfl rfl ?_)
 refine Dc 4 g9 rfl rfl fun p2 j9 k4 d1 e0=>?_
 replace e0:Lc 4 j9 k4 p2 87 [(.slice h2 g0.vars.length i2),(.slice j2 g0.init.length k2),(.slice l2 g0.goal.length m2),(.slice n2 g0.ops.length o2),(.pointer (some ⟨c2,0,none⟩)),(.slice none 0 0),(.slice none 0 0),(.slice none 0 0),(.slice none 0 0),(.slice none 0 0)]:=e0
 refine An rfl rfl (o_z ?_)
 refine Al (Al (Aj (An rfl rfl (o_z ?_))))
 obtain ⟨s3,l4,hm⟩:=bs hm
 refine AJ (aft s3 (fun (k0:Int×(List Edj)×(List Bool)×Reg) (m0:(Option Addr×Nat)×(Option Addr×Nat))=>[(12,(.pointer (some ⟨p2,0,none⟩)))]) (fun k0 m0 w'=>∃ O':Lab,Bm w O0 w' O'∧Lc 4 w' O' p2 87 [(.slice h2 g0.vars.length i2),(.slice j2 g0.init.length k2),(.slice l2 g0.goal.length m2),(.slice n2 g0.ops.length o2),(.pointer (some ⟨c2,0,none⟩)),(.slice m0.1.1 k0.2.1.length m0.1.2),(.slice m0.2.1 k0.2.2.1.length m0.2.2),(.slice none 0 0),(.slice none 0 0),(.slice none 0 0)]∧Vb w' (Fr 0 w' O') (.slice h2 g0.vars.length i2) g0.vars∧Vb w' (Fr 0 w' O') (.slice j2 g0.init.length k2) g0.init∧Vb w' (Fr 0 w' O') (.slice l2 g0.goal.length m2) g0.goal∧Vb w' (Fr 0 w' O') (.slice n2 g0.ops.length o2) g0.ops∧Ob 3 w' O' (.pointer (some ⟨c2,0,none⟩)) k0.2.2.2∧Rw 9 w' O' 94 (.slice m0.1.1 k0.2.1.length m0.1.2) k0.2.1∧Rw 6 w' O' 4 (.slice m0.2.1 k0.2.2.1.length m0.2.2) k0.2.2.1∧inI64 k0.1)) ?_ ?_
 ·
  refine AM ?_
  replace hB:=(((((hB.st i3).st e3).st f3).st k3).st l3).st d1
  replace h8:=(h8.st l3).st d1
  replace u0:=(u0.st l3).st d1
  replace w0:=(w0.st l3).st d1
  replace h1:=(h1.st l3).st d1
  replace s0:=(s0.st l3).st d1
  replace t1:=(((t1.st f3).st k3).st l3).st d1
  replace x5:=(x5.st l3).st d1
  replace z0:=z0.st d1
  replace a1:=a1.st d1
  replace b1:=b1.st d1
  replace c1:=c1.st d1
  refine Gc (σ:=Int×(List Edj)×(List Bool)×Reg) (X:=(Option Addr×Nat)×(Option Addr×Nat)) l4 (fun (k0:Int×(List Edj)×(List Bool)×Reg) (m0:(Option Addr×Nat)×(Option Addr×Nat))=>[(1,(.int .i64 (max 0 (min x1 65536)))),(2,(.pointer (some ⟨d3,0,none⟩))),(6,(.pointer j3)),(8,(.pointer (some ⟨c2,0,none⟩))),(12,(.pointer (some ⟨p2,0,none⟩))),(13,(.int .i64 k0.1))]) _ (fun k0 m0 w'=>∃ O':Lab,Bm w O0 w' O'∧Lc 2 w' O' d3 26 [(.slice A9 x0.vars.length t2),(.slice u2 x0.init.length v2),(.slice w2 x0.goal.length x2),(.slice y2 x0.ops.length z2)]∧Vb w' (Fr 0 w' O') (.slice A9 x0.vars.length t2) x0.vars∧Vb w' (Fr 0 w' O') (.slice u2 x0.init.length v2) x0.init∧Vb w' (Fr 0 w' O') (.slice w2 x0.goal.length x2) x0.goal∧Vb w' (Fr 0 w' O') (.slice y2 x0.ops.length z2) x0.ops∧Vb w' (Fr 0 w' O') (.pointer j3) j4.1∧Ob 3 w' O' (.pointer (some ⟨c2,0,none⟩)) k0.2.2.2∧Lc 4 w' O' p2 87 [(.slice h2 g0.vars.length i2),(.slice j2 g0.init.length k2),(.slice l2 g0.goal.length m2),(.slice n2 g0.ops.length o2),(.pointer (some ⟨c2,0,none⟩)),(.slice m0.1.1 k0.2.1.length m0.1.2),(.slice m0.2.1 k0.2.2.1.length m0.2.2),(.slice none 0 0),(.slice none 0 0),(.slice none 0 0)]∧Vb w' (Fr 0 w' O') (.slice h2 g0.vars.length i2) g0.vars∧Vb w' (Fr 0 w' O') (.slice j2 g0.init.length k2) g0.init∧Vb w' (Fr 0 w' O') (.slice l2 g0.goal.length m2) g0.goal∧Vb w' (Fr 0 w' O') (.slice n2 g0.ops.length o2) g0.ops∧Rw 9 w' O' 94 (.slice m0.1.1 k0.2.1.length m0.1.2) k0.2.1∧Rw 6 w' O' 4 (.slice m0.2.1 k0.2.2.1.length m0.2.2) k0.2.2.1∧inI64 k0.1) _ ((none,0),(none,0)) ⟨k4,hB,s0,h8,u0,w0,h1,t1,x5,e0,z0,a1,b1,c1,(Rw.nil 9 (by decide)),(Rw.nil 6 (by decide)),(show inI64 (0) from by decide)⟩ ⟨rfl,rfl,rfl,rfl,rfl,rfl,trivial⟩ ?_
  rintro k0 m0 k9 e8 ⟨z5,hB,s0,h8,u0,w0,h1,t1,g3,e0,z0,a1,b1,c1,n1,w1,m3⟩ h0 d2 n3
  refine Al (Al (Aj (Am rfl rfl (Am rfl rfl ?_))))
  obtain ⟨l9,a6,h0⟩:=bs h0
  refine BH (O:=z5) (DX g3 a6) rfl rfl fun m9 n9 b6 f0 c6=>?_
  obtain ⟨m4,d6⟩:=c6
  obtain ⟨rfl,o9⟩:=d6.int
  refine Dx rfl rfl rfl (fun t3=>?_) fun t3=>?_
  ·
   replace h0:=ip h0 t3
   refine o_z ?_
   refine Ah rfl (AI (Al (AM (Al (Aj (Am rfl rfl (Am rfl rfl ?_)))))))
   obtain ⟨u3,e6,h0⟩:=bs h0
   refine BH (O:=b6) (GI m4 m3 e6) rfl rfl fun p9 v3 o3 i0 f6=>?_
   obtain ⟨q9,r9,a3,rfl,b3,g6⟩:=f6
   obtain ⟨n4,o4,rfl⟩:=b3.form
   obtain ⟨rfl,h6⟩:=g6.err
   refine Am rfl rfl (AZ rfl rfl rfl (AZ rfl rfl rfl (An rfl rfl (An rfl rfl (o_z ?_)))))
   refine Al (Al (Aj (Am rfl rfl (Dy rfl rfl (fun w3=>?_) fun w3=>?_))))
   ·
    replace h0:=ip h0 w3
    refine o_z ?_
    refine Ah rfl (Al (Aj (Am rfl rfl (An rfl rfl (An rfl rfl (o_z ?_))))))
    refine AG ?_
    obtain rfl:=sm h0
    obtain rfl:=d2 _ rfl
    obtain rfl:=sm (CB hm)
    replace hB:=(hB.st f0).st i0
    obtain ⟨O',hS',hz,hl⟩:=hE.leave (fun _=>0) rfl hB
    exact ret2 rfl (Az rfl) (Az rfl) ⟨O',hS',_,_,rfl,rfl,(vErr h6)⟩
   replace h0:=im h0 w3
   refine o_z ?_
   refine Ae rfl (AI (Al ?_))
   obtain ⟨y1,t0,h0⟩:=bs h0
   refine AJ (fun l' w'=>∃ (r0:(Option Addr×Nat)) (O':Lab),subs l' [(1,(.int .i64 (max 0 (min x1 65536)))),(2,(.pointer (some ⟨d3,0,none⟩))),(6,(.pointer j3)),(8,(.pointer (some ⟨c2,0,none⟩))),(12,(.pointer (some ⟨p2,0,none⟩))),(13,(.int .i64 k0.1)),(14,(.slice n4 u3.1.length o4))]∧Bm w O0 w' O'∧Lc 2 w' O' d3 26 [(.slice A9 x0.vars.length t2),(.slice u2 x0.init.length v2),(.slice w2 x0.goal.length x2),(.slice y2 x0.ops.length z2)]∧Vb w' (Fr 0 w' O') (.slice A9 x0.vars.length t2) x0.vars∧Vb w' (Fr 0 w' O') (.slice u2 x0.init.length v2) x0.init∧Vb w' (Fr 0 w' O') (.slice w2 x0.goal.length x2) x0.goal∧Vb w' (Fr 0 w' O') (.slice y2 x0.ops.length z2) x0.ops∧Vb w' (Fr 0 w' O') (.pointer j3) j4.1∧Ob 3 w' O' (.pointer (some ⟨c2,0,none⟩)) k0.2.2.2∧Lc 4 w' O' p2 87 [(.slice h2 g0.vars.length i2),(.slice j2 g0.init.length k2),(.slice l2 g0.goal.length m2),(.slice n2 g0.ops.length o2),(.pointer (some ⟨c2,0,none⟩)),(.slice m0.1.1 k0.2.1.length m0.1.2),(.slice r0.1 y1.length r0.2),(.slice none 0 0),(.slice none 0 0),(.slice none 0 0)]∧Vb w' (Fr 0 w' O') (.slice h2 g0.vars.length i2) g0.vars∧Vb w' (Fr 0 w' O') (.slice j2 g0.init.length k2) g0.init∧Vb w' (Fr 0 w' O') (.slice l2 g0.goal.length m2) g0.goal∧Vb w' (Fr 0 w' O') (.slice n2 g0.ops.length o2) g0.ops∧Rw 9 w' O' 94 (.slice m0.1.1 k0.2.1.length m0.1.2) k0.2.1∧Rw 6 w' O' 4 (.slice r0.1 y1.length r0.2) y1∧Vb w' (Fr 0 w' O') (.slice n4 u3.1.length o4) u3.1) ?_ ?_
   ·
    refine BG [(10,[6])] o3 ?_
    refine Bb (fuel:=7) [] [(1,true),(2,true),(3,true),(4,true),(5,true),(6,true),(7,true)] (by kernel_rfl) rfl ?_
    refine AK rfl rfl rfl (Cm rfl rfl rfl (AT rfl rfl rfl ?_))
    replace e0:=(e0.st f0).st i0
    refine AS (hc:=fun w' ⟨O',hq⟩=>Blk.cell (i:=6) ((e0.st hq (by decide)).1) rfl) rfl rfl rfl ?_
    refine AT rfl rfl rfl ?_
    replace s0:=(s0.st f0).st i0
    refine AS (hc:=fun w' ⟨O',hq⟩=>Blk.cell (i:=2) ((s0.st hq (by decide)).1) rfl) rfl rfl rfl ?_
    refine AK rfl rfl rfl (AL ?_)
    refine Bb (fuel:=6) [6] [(0,true)] (by kernel_rfl) rfl ?_
    refine AK rfl rfl rfl (AL ?_)
    refine Bg (i:=8) (by kernel_rfl) rfl ?_
    obtain ⟨p4,i6,t0⟩:=bs t0
    replace w0:=(w0.st f0).st i0
    refine AV (O:=o3) (A:=All v3) (R:=fun w' F v=>Vb w' F v p4) (GX (fun _ h=>h) (Vb.mono (F:=Fr 0 v3 o3) w0 Fr.lt) (Vb.mono (F:=Fr 0 v3 o3) b3 Fr.lt) i6) rfl rfl fun s9 t9 q4 n0 j6=>?_
    obtain rfl:=j6.bool
    have hZ:=n0.lst [] (fun _ h=>h.elim)
    cases p4
    case false =>
     replace t0:=iF t0
     refine BE [(10,[6])] hZ (by kernel_rfl) ?_
     refine Bg (i:=9) (by kernel_rfl) rfl ?_
     refine BX 5 (by decide) q4 (xs:=([false]:List Bool)) rfl rfl rfl rfl ⟨vBool,trivial⟩ (by decide) (by decide) rfl fun u9 v9 w9 e1 k6=>?_
     have hZ:=e1.lst [] (fun _ h=>h.elim)
     refine BE [(10,[6])] hZ (by kernel_rfl) ?_
     refine Bg (i:=10) (by kernel_rfl) rfl ?_
     obtain ⟨l6,x3,t0⟩:=bs t0
     obtain ⟨x3,m6,n6⟩:=Cc x3
     replace w1:=(((w1.st f0).st i0).st n0).st e1
     refine CX rfl w1 (k6.rd) rfl rfl (by decide) m6 n6 rfl fun r4 s4 x9 o6 i1 t4=>?_
     rw [← x3] at t4 ⊢
     have hZ:=i1.lst [6] (fun _ h=>by cases h;decide)
     refine BE [] hZ (by kernel_rfl) ?_
     refine Bb (fuel:=1) [] [(11,true),(12,true)] (by kernel_rfl) rfl ?_
     refine Cm rfl rfl rfl (AT rfl rfl rfl (AL ?_))
     refine Bg (i:=13) (by kernel_rfl) rfl ?_
     replace e0:=((e0.st n0).st e1).st i1
     refine Br e0 rfl rfl rfl (BN rfl) (allOne rfl) fun p6 o1 e0=>?_
     replace e0:Lc 4 p6 o6 p2 87 [(.slice h2 g0.vars.length i2),(.slice j2 g0.init.length k2),(.slice l2 g0.goal.length m2),(.slice n2 g0.ops.length o2),(.pointer (some ⟨c2,0,none⟩)),(.slice m0.1.1 k0.2.1.length m0.1.2),(.slice r4 l6.length s4),(.slice none 0 0),(.slice none 0 0),(.slice none 0 0)]:=e0
     refine DI (by kernel_rfl) ?_
     refine Ck (by kernel_rfl) ?_
     obtain rfl:=sm t0
     exact ⟨(r4,s4),_,⟨rfl,rfl,rfl,rfl,rfl,rfl,rfl,trivial⟩,(((((hB.st f0).st i0).st n0).st e1).st i1).st o1,(((s0.st n0).st e1).st i1).st o1,(((((h8.st f0).st i0).st n0).st e1).st i1).st o1,(((((u0.st f0).st i0).st n0).st e1).st i1).st o1,(((w0.st n0).st e1).st i1).st o1,(((((h1.st f0).st i0).st n0).st e1).st i1).st o1,(((((t1.st f0).st i0).st n0).st e1).st i1).st o1,(((a3.st n0).st e1).st i1).st o1,e0,(((((z0.st f0).st i0).st n0).st e1).st i1).st o1,(((((a1.st f0).st i0).st n0).st e1).st i1).st o1,(((((b1.st f0).st i0).st n0).st e1).st i1).st o1,(((((c1.st f0).st i0).st n0).st e1).st i1).st o1,(((((n1.st f0).st i0).st n0).st e1).st i1).st o1,t4.st o1,(((b3.st n0).st e1).st i1).st o1⟩
    replace t0:=iT t0
    refine BE [(10,[6])] hZ (by kernel_rfl) ?_
    refine Bg (i:=9) (by kernel_rfl) rfl ?_
    refine BX 5 (by decide) q4 (xs:=([true]:List Bool)) rfl rfl rfl rfl ⟨vBool,trivial⟩ (by decide) (by decide) rfl fun y9 z9 aA f1 q6=>?_
    have hZ:=f1.lst [] (fun _ h=>h.elim)
    refine BE [(10,[6])] hZ (by kernel_rfl) ?_
    refine Bg (i:=10) (by kernel_rfl) rfl ?_
    obtain ⟨r6,y3,t0⟩:=bs t0
    obtain ⟨y3,s6,t6⟩:=Cc y3
    replace w1:=(((w1.st f0).st i0).st n0).st f1
    refine CX rfl w1 (q6.rd) rfl rfl (by decide) s6 t6 rfl fun u4 w4 bA u6 j1 x4=>?_
    rw [← y3] at x4 ⊢
    have hZ:=j1.lst [6] (fun _ h=>by cases h;decide)
    refine BE [] hZ (by kernel_rfl) ?_
    refine Bb (fuel:=1) [] [(11,true),(12,true)] (by kernel_rfl) rfl ?_
    refine Cm rfl rfl rfl (AT rfl rfl rfl (AL ?_))
    refine Bg (i:=13) (by kernel_rfl) rfl ?_
    replace e0:=((e0.st n0).st f1).st j1
    refine Br e0 rfl rfl rfl (BN rfl) (allOne rfl) fun w6 p1 e0=>?_
    replace e0:Lc 4 w6 u6 p2 87 [(.slice h2 g0.vars.length i2),(.slice j2 g0.init.length k2),(.slice l2 g0.goal.length m2),(.slice n2 g0.ops.length o2),(.pointer (some ⟨c2,0,none⟩)),(.slice m0.1.1 k0.2.1.length m0.1.2),(.slice u4 r6.length w4),(.slice none 0 0),(.slice none 0 0),(.slice none 0 0)]:=e0
    refine DI (by kernel_rfl) ?_
    refine Ck (by kernel_rfl) ?_
    obtain rfl:=sm t0
    exact ⟨(u4,w4),_,⟨rfl,rfl,rfl,rfl,rfl,rfl,rfl,trivial⟩,(((((hB.st f0).st i0).st n0).st f1).st j1).st p1,(((s0.st n0).st f1).st j1).st p1,(((((h8.st f0).st i0).st n0).st f1).st j1).st p1,(((((u0.st f0).st i0).st n0).st f1).st j1).st p1,(((w0.st n0).st f1).st j1).st p1,(((((h1.st f0).st i0).st n0).st f1).st j1).st p1,(((((t1.st f0).st i0).st n0).st f1).st j1).st p1,(((a3.st n0).st f1).st j1).st p1,e0,(((((z0.st f0).st i0).st n0).st f1).st j1).st p1,(((((a1.st f0).st i0).st n0).st f1).st j1).st p1,(((((b1.st f0).st i0).st n0).st f1).st j1).st p1,(((((c1.st f0).st i0).st n0).st f1).st j1).st p1,(((((n1.st f0).st i0).st n0).st f1).st j1).st p1,x4.st p1,(((b3.st n0).st f1).st j1).st p1⟩
   replace hB:=(hB.st f0).st i0
   replace h8:=(h8.st f0).st i0
   replace u0:=(u0.st f0).st i0
   replace w0:=(w0.st f0).st i0
   replace h1:=(h1.st f0).st i0
   replace s0:=(s0.st f0).st i0
   replace t1:=(t1.st f0).st i0
   replace z0:=(z0.st f0).st i0
   replace a1:=(a1.st f0).st i0
   replace b1:=(b1.st f0).st i0
   replace c1:=(c1.st f0).st i0
   replace e0:=(e0.st f0).st i0
   replace n1:=(n1.st f0).st i0
   rintro cA dA ⟨r0,x6,y4,hB,s0,h8,u0,w0,h1,t1,a3,e0,z0,a1,b1,c1,n1,y0,b3⟩
   refine AN _ y4 ?_
   refine Al (Aj (Am rfl rfl (Am rfl rfl ?_)))
   obtain ⟨a2,y6,h0⟩:=bs h0
   refine CK (O:=x6) (R:=fun w' F v=>Vb w' F v a2) (Ef Fr.lt t1 b3 y6) rfl rfl fun eA fA z6 o0 q1=>?_
   obtain ⟨p3,q3,rfl⟩:=q1.form
   refine AP rfl rfl ?_
   have z3:a2.length≤9223372036854775807:=Nat.le_trans q1.len.2.1 q1.len.2.2
   have gA:inI64 (a2.length:Int):=rngNat z3
   refine Am rfl rfl (o_z ?_)
   obtain ⟨a4,z4,h0⟩:=bs h0
   refine AJ (aft a4 (fun (r1:(List Edj)×Reg) (k1:(Option Addr×Nat))=>[(1,(.int .i64 (max 0 (min x1 65536)))),(2,(.pointer (some ⟨d3,0,none⟩))),(6,(.pointer j3)),(8,(.pointer (some ⟨c2,0,none⟩))),(12,(.pointer (some ⟨p2,0,none⟩))),(13,(.int .i64 k0.1))]) (fun r1 k1 w'=>∃ O':Lab,Bm w O0 w' O'∧Lc 2 w' O' d3 26 [(.slice A9 x0.vars.length t2),(.slice u2 x0.init.length v2),(.slice w2 x0.goal.length x2),(.slice y2 x0.ops.length z2)]∧Vb w' (Fr 0 w' O') (.slice A9 x0.vars.length t2) x0.vars∧Vb w' (Fr 0 w' O') (.slice u2 x0.init.length v2) x0.init∧Vb w' (Fr 0 w' O') (.slice w2 x0.goal.length x2) x0.goal∧Vb w' (Fr 0 w' O') (.slice y2 x0.ops.length z2) x0.ops∧Vb w' (Fr 0 w' O') (.pointer j3) j4.1∧Ob 3 w' O' (.pointer (some ⟨c2,0,none⟩)) r1.2∧Lc 4 w' O' p2 87 [(.slice h2 g0.vars.length i2),(.slice j2 g0.init.length k2),(.slice l2 g0.goal.length m2),(.slice n2 g0.ops.length o2),(.pointer (some ⟨c2,0,none⟩)),(.slice k1.1 r1.1.length k1.2),(.slice r0.1 y1.length r0.2),(.slice none 0 0),(.slice none 0 0),(.slice none 0 0)]∧Vb w' (Fr 0 w' O') (.slice h2 g0.vars.length i2) g0.vars∧Vb w' (Fr 0 w' O') (.slice j2 g0.init.length k2) g0.init∧Vb w' (Fr 0 w' O') (.slice l2 g0.goal.length m2) g0.goal∧Vb w' (Fr 0 w' O') (.slice n2 g0.ops.length o2) g0.ops∧Rw 9 w' O' 94 (.slice k1.1 r1.1.length k1.2) r1.1∧Rw 6 w' O' 4 (.slice r0.1 y1.length r0.2) y1)) ?_ ?_
   ·
    refine AM ?_
    replace hB:=hB.st o0
    replace h8:=h8.st o0
    replace u0:=u0.st o0
    replace w0:=w0.st o0
    replace h1:=h1.st o0
    replace s0:=s0.st o0
    replace t1:=t1.st o0
    replace z0:=z0.st o0
    replace a1:=a1.st o0
    replace b1:=b1.st o0
    replace c1:=c1.st o0
    replace e0:=e0.st o0
    replace n1:=n1.st o0
    replace a3:=a3.st o0
    replace y0:=y0.st o0
    refine By (σ:=(List Edj)×Reg) (X:=(Option Addr×Nat)) (a2.length) z4 rfl z3 (fun (r1:(List Edj)×Reg) (k1:(Option Addr×Nat))=>[(1,(.int .i64 (max 0 (min x1 65536)))),(2,(.pointer (some ⟨d3,0,none⟩))),(6,(.pointer j3)),(8,(.pointer (some ⟨c2,0,none⟩))),(12,(.pointer (some ⟨p2,0,none⟩))),(13,(.int .i64 k0.1)),(90,(.slice p3 a2.length q3))]) _ (fun r1 k1 w'=>∃ O':Lab,Bm w O0 w' O'∧Lc 2 w' O' d3 26 [(.slice A9 x0.vars.length t2),(.slice u2 x0.init.length v2),(.slice w2 x0.goal.length x2),(.slice y2 x0.ops.length z2)]∧Vb w' (Fr 0 w' O') (.slice A9 x0.vars.length t2) x0.vars∧Vb w' (Fr 0 w' O') (.slice u2 x0.init.length v2) x0.init∧Vb w' (Fr 0 w' O') (.slice w2 x0.goal.length x2) x0.goal∧Vb w' (Fr 0 w' O') (.slice y2 x0.ops.length z2) x0.ops∧Vb w' (Fr 0 w' O') (.pointer j3) j4.1∧Ob 3 w' O' (.pointer (some ⟨c2,0,none⟩)) r1.2∧Lc 4 w' O' p2 87 [(.slice h2 g0.vars.length i2),(.slice j2 g0.init.length k2),(.slice l2 g0.goal.length m2),(.slice n2 g0.ops.length o2),(.pointer (some ⟨c2,0,none⟩)),(.slice k1.1 r1.1.length k1.2),(.slice r0.1 y1.length r0.2),(.slice none 0 0),(.slice none 0 0),(.slice none 0 0)]∧Vb w' (Fr 0 w' O') (.slice h2 g0.vars.length i2) g0.vars∧Vb w' (Fr 0 w' O') (.slice j2 g0.init.length k2) g0.init∧Vb w' (Fr 0 w' O') (.slice l2 g0.goal.length m2) g0.goal∧Vb w' (Fr 0 w' O') (.slice n2 g0.ops.length o2) g0.ops∧Rw 9 w' O' 94 (.slice k1.1 r1.1.length k1.2) r1.1∧Rw 6 w' O' 4 (.slice r0.1 y1.length r0.2) y1∧Vb w' (Fr 0 w' O') (.slice p3 a2.length q3) a2) _ (m0.1.1,m0.1.2) ⟨z6,hB,s0,h8,u0,w0,h1,t1,a3,e0,z0,a1,b1,c1,n1,y0,q1⟩ ⟨rfl,rfl,rfl,rfl,rfl,rfl,rfl,rfl,rfl,trivial⟩ (fun _ _=>⟨rfl,rfl⟩) (fun _ _=>⟨rfl,rfl,rfl,rfl,rfl,rfl,trivial⟩) (fun _ _ _ ⟨O',hB,s0,h8,u0,w0,h1,t1,q2,e0,z0,a1,b1,c1,u1,y0,q1⟩=>⟨O',hB,s0,h8,u0,w0,h1,t1,q2,e0,z0,a1,b1,c1,u1,y0⟩) ⟨rfl,rfl,rfl⟩ ⟨rfl,rfl⟩ ?_
    rintro a5 e2 r1 k1 iA f8 r3 ⟨a7,hB,s0,h8,u0,w0,h1,t1,q2,e0,z0,a1,b1,c1,u1,y0,q1⟩ q0 s2 q5
    have rk227:inI64 (a5:Int):=rngK r3 z3
    refine Al (Aj ?_)
    obtain ⟨jA,kA,g8,b5,c5,d5,lA,rfl,b2,b7⟩:=q1.elem' r3
    obtain ⟨b4,c4,rfl⟩:=b2.form
    refine Bo (hA:=b5) (hj:=rfl) (hlt:=c5) rfl rfl rfl ?_
    refine Bk (hl:=rfl) (hc:=d5) rfl rfl ?_
    refine Ch 7 a7 rfl fun d4 mA e5 b0 z1=>?_
    refine Br z1 rfl rfl rfl (BN rfl) (allOne rfl) fun c7 c0 z1=>?_
    replace z1:Lc 7 c7 e5 d4 91 [(.int .i64 e2.op),(.slice b4 e2.state.length c4)]:=z1
    refine o_z ?_
    refine Al (Aj (Am rfl rfl (AE rfl rfl (AC (hc:=Blk.cell (i:=1) (z1.1) rfl) rfl rfl ?_))))
    obtain ⟨r2,d7,q0⟩:=bs q0
    replace q2:=(q2.st b0).st c0
    replace b2:=(b2.st b0).st c0
    refine BH (O:=e5) (Fi q2 b2 d7) rfl rfl fun nA e7 f7 a0 g7=>?_
    obtain ⟨oA,pA,qA,c3,rfl,h7,i7,j7⟩:=g7
    obtain ⟨rfl,k7⟩:=h7.int
    obtain rfl:=i7.bool
    obtain ⟨rfl,f5⟩:=j7.err
    refine Am rfl rfl (AZ rfl rfl rfl (AZ rfl rfl rfl (AZ rfl rfl rfl (An rfl rfl (An rfl rfl (An rfl rfl (o_z ?_)))))))
    refine Al (Al ?_)
    obtain ⟨l7,p0,q0⟩:=bs q0
    refine AJ (fun l' w'=>∃ (m7:Unit) (O':Lab),subs l' [(1,(.int .i64 (max 0 (min x1 65536)))),(2,(.pointer (some ⟨d3,0,none⟩))),(6,(.pointer j3)),(8,(.pointer (some ⟨c2,0,none⟩))),(12,(.pointer (some ⟨p2,0,none⟩))),(13,(.int .i64 k0.1)),(17,(.pointer (some ⟨d4,0,none⟩))),(18,(.int .i64 r2.1)),(20,(errV r2.2.2.1.n)),(90,(.slice p3 a2.length q3)),(91,(.int .i64 (a2.length:Int))),(92,(.int .i64 (a5:Int))),(114,(.bool l7))]∧Bm w O0 w' O'∧Lc 2 w' O' d3 26 [(.slice A9 x0.vars.length t2),(.slice u2 x0.init.length v2),(.slice w2 x0.goal.length x2),(.slice y2 x0.ops.length z2)]∧Vb w' (Fr 0 w' O') (.slice A9 x0.vars.length t2) x0.vars∧Vb w' (Fr 0 w' O') (.slice u2 x0.init.length v2) x0.init∧Vb w' (Fr 0 w' O') (.slice w2 x0.goal.length x2) x0.goal∧Vb w' (Fr 0 w' O') (.slice y2 x0.ops.length z2) x0.ops∧Vb w' (Fr 0 w' O') (.pointer j3) j4.1∧Ob 3 w' O' (.pointer (some ⟨c2,0,none⟩)) r2.2.2.2∧Lc 4 w' O' p2 87 [(.slice h2 g0.vars.length i2),(.slice j2 g0.init.length k2),(.slice l2 g0.goal.length m2),(.slice n2 g0.ops.length o2),(.pointer (some ⟨c2,0,none⟩)),(.slice k1.1 r1.1.length k1.2),(.slice r0.1 y1.length r0.2),(.slice none 0 0),(.slice none 0 0),(.slice none 0 0)]∧Vb w' (Fr 0 w' O') (.slice h2 g0.vars.length i2) g0.vars∧Vb w' (Fr 0 w' O') (.slice j2 g0.init.length k2) g0.init∧Vb w' (Fr 0 w' O') (.slice l2 g0.goal.length m2) g0.goal∧Vb w' (Fr 0 w' O') (.slice n2 g0.ops.length o2) g0.ops∧Rw 9 w' O' 94 (.slice k1.1 r1.1.length k1.2) r1.1∧Rw 6 w' O' 4 (.slice r0.1 y1.length r0.2) y1∧Lc 7 w' O' d4 91 [(.int .i64 e2.op),(.slice b4 e2.state.length c4)]∧Vb w' (Fr 0 w' O') (.slice b4 e2.state.length c4) e2.state∧Vb w' (Fr 0 w' O') (.slice p3 a2.length q3) a2) ?_ ?_
    ·
     refine Aj (Am rfl rfl (Di rfl rfl ?_))
     obtain ⟨g5,n7,p0⟩:=bs p0
     refine AV (O:=f7) (A:=All e7) (R:=fun w' F v=>Vb w' F v g5) (MN (fun _ h=>h) f5 (by decide) n7) rfl rfl fun rA sA tA d0 o7=>?_
     obtain rfl:=o7.bool
     cases g5
     case false =>
      replace p0:=iF p0
      refine Am rfl rfl (Aw rfl rfl (Am rfl rfl (Aw rfl rfl (Am rfl rfl ?_))))
      rcases Bool.eq_false_or_eq_true r2.2.1 with h3|h3
      ·
       try simp only [h3]
       replace p0:=ip p0 h3
       refine Aw rfl rfl (Am rfl rfl (Aw rfl rfl (Am rfl rfl (Aw rfl rfl (FM rfl rfl rfl (fun e4=>?_) fun e4=>?_)))))
       ·
        replace p0:=ip p0 e4
        refine Aw rfl rfl (AY rfl rfl rfl (AQ rfl rfl rfl (o_z ?_)))
        obtain rfl:=sm p0
        exact ⟨(),_,⟨rfl,rfl,rfl,rfl,rfl,rfl,rfl,rfl,rfl,rfl,rfl,rfl,rfl,trivial⟩,(((hB.st b0).st c0).st a0).st d0,(((s0.st b0).st c0).st a0).st d0,(((h8.st b0).st c0).st a0).st d0,(((u0.st b0).st c0).st a0).st d0,(((w0.st b0).st c0).st a0).st d0,(((h1.st b0).st c0).st a0).st d0,(((t1.st b0).st c0).st a0).st d0,c3.st d0,(((e0.st b0).st c0).st a0).st d0,(((z0.st b0).st c0).st a0).st d0,(((a1.st b0).st c0).st a0).st d0,(((b1.st b0).st c0).st a0).st d0,(((c1.st b0).st c0).st a0).st d0,(((u1.st b0).st c0).st a0).st d0,(((y0.st b0).st c0).st a0).st d0,(z1.st a0).st d0,(b2.st a0).st d0,(((q1.st b0).st c0).st a0).st d0⟩
       replace p0:=im p0 e4
       refine Aw rfl rfl (AY rfl rfl rfl (AQ rfl rfl rfl (o_z ?_)))
       obtain rfl:=sm p0
       exact ⟨(),_,⟨rfl,rfl,rfl,rfl,rfl,rfl,rfl,rfl,rfl,rfl,rfl,rfl,rfl,trivial⟩,(((hB.st b0).st c0).st a0).st d0,(((s0.st b0).st c0).st a0).st d0,(((h8.st b0).st c0).st a0).st d0,(((u0.st b0).st c0).st a0).st d0,(((w0.st b0).st c0).st a0).st d0,(((h1.st b0).st c0).st a0).st d0,(((t1.st b0).st c0).st a0).st d0,c3.st d0,(((e0.st b0).st c0).st a0).st d0,(((z0.st b0).st c0).st a0).st d0,(((a1.st b0).st c0).st a0).st d0,(((b1.st b0).st c0).st a0).st d0,(((c1.st b0).st c0).st a0).st d0,(((u1.st b0).st c0).st a0).st d0,(((y0.st b0).st c0).st a0).st d0,(z1.st a0).st d0,(b2.st a0).st d0,(((q1.st b0).st c0).st a0).st d0⟩
      try simp only [h3]
      replace p0:=im' p0 h3
      refine At rfl rfl rfl rfl (At rfl rfl rfl rfl (At rfl rfl rfl rfl (Aw rfl rfl (AQ rfl rfl rfl (AQ rfl rfl rfl (o_z ?_))))))
      obtain rfl:=sm p0
      exact ⟨(),_,⟨rfl,rfl,rfl,rfl,rfl,rfl,rfl,rfl,rfl,rfl,rfl,rfl,rfl,trivial⟩,(((hB.st b0).st c0).st a0).st d0,(((s0.st b0).st c0).st a0).st d0,(((h8.st b0).st c0).st a0).st d0,(((u0.st b0).st c0).st a0).st d0,(((w0.st b0).st c0).st a0).st d0,(((h1.st b0).st c0).st a0).st d0,(((t1.st b0).st c0).st a0).st d0,c3.st d0,(((e0.st b0).st c0).st a0).st d0,(((z0.st b0).st c0).st a0).st d0,(((a1.st b0).st c0).st a0).st d0,(((b1.st b0).st c0).st a0).st d0,(((c1.st b0).st c0).st a0).st d0,(((u1.st b0).st c0).st a0).st d0,(((y0.st b0).st c0).st a0).st d0,(z1.st a0).st d0,(b2.st a0).st d0,(((q1.st b0).st c0).st a0).st d0⟩
     replace p0:=iT p0
     refine Am rfl rfl (At rfl rfl rfl rfl (At rfl rfl rfl rfl (At rfl rfl rfl rfl (At rfl rfl rfl rfl (At rfl rfl rfl rfl (At rfl rfl rfl rfl (AY rfl rfl rfl (o_z ?_))))))))
     obtain rfl:=sm p0
     exact ⟨(),_,⟨rfl,rfl,rfl,rfl,rfl,rfl,rfl,rfl,rfl,rfl,rfl,rfl,rfl,trivial⟩,(((hB.st b0).st c0).st a0).st d0,(((s0.st b0).st c0).st a0).st d0,(((h8.st b0).st c0).st a0).st d0,(((u0.st b0).st c0).st a0).st d0,(((w0.st b0).st c0).st a0).st d0,(((h1.st b0).st c0).st a0).st d0,(((t1.st b0).st c0).st a0).st d0,c3.st d0,(((e0.st b0).st c0).st a0).st d0,(((z0.st b0).st c0).st a0).st d0,(((a1.st b0).st c0).st a0).st d0,(((b1.st b0).st c0).st a0).st d0,(((c1.st b0).st c0).st a0).st d0,(((u1.st b0).st c0).st a0).st d0,(((y0.st b0).st c0).st a0).st d0,(z1.st a0).st d0,(b2.st a0).st d0,(((q1.st b0).st c0).st a0).st d0⟩
    replace hB:=((hB.st b0).st c0).st a0
    replace h8:=((h8.st b0).st c0).st a0
    replace u0:=((u0.st b0).st c0).st a0
    replace w0:=((w0.st b0).st c0).st a0
    replace h1:=((h1.st b0).st c0).st a0
    replace s0:=((s0.st b0).st c0).st a0
    replace t1:=((t1.st b0).st c0).st a0
    replace z0:=((z0.st b0).st c0).st a0
    replace a1:=((a1.st b0).st c0).st a0
    replace b1:=((b1.st b0).st c0).st a0
    replace c1:=((c1.st b0).st c0).st a0
    replace e0:=((e0.st b0).st c0).st a0
    replace y0:=((y0.st b0).st c0).st a0
    replace q1:=((q1.st b0).st c0).st a0
    replace u1:=((u1.st b0).st c0).st a0
    replace b2:=b2.st a0
    replace z1:=z1.st a0
    rintro uA vA ⟨m7,h5,i5,hB,s0,h8,u0,w0,h1,t1,c3,e0,z0,a1,b1,c1,u1,y0,z1,b2,q1⟩
    refine AN _ i5 ?_
    refine CV rfl (fun f4=>?_) (fun f4=>?_)
    ·
     replace q0:=ip q0 f4
     refine Al (Aj (Di rfl rfl ?_))
     refine An rfl rfl (An rfl rfl (o_z ?_))
     refine AG ?_
     obtain rfl:=sm q0
     obtain rfl:=s2 _ rfl
     obtain rfl:=sm (CB h0)
     obtain rfl:=d2 _ rfl
     obtain rfl:=sm (CB hm)
     obtain ⟨O',hS',hz,hl⟩:=hE.leave (fun _=>0) rfl hB
     exact ret2 rfl (Az rfl) (Az rfl) ⟨O',hS',_,_,rfl,rfl,(vErr (by decide))⟩
    replace q0:=im' q0 f4
    refine AI (Al (Al (Aj (Am rfl rfl (Dy rfl rfl (fun g4=>?_) fun g4=>?_)))))
    ·
     replace q0:=ip q0 g4
     refine o_z ?_
     refine Ah rfl (Al (Aj (Am rfl rfl (An rfl rfl (An rfl rfl (o_z ?_))))))
     refine AG ?_
     obtain rfl:=sm q0
     obtain rfl:=s2 _ rfl
     obtain rfl:=sm (CB h0)
     obtain rfl:=d2 _ rfl
     obtain rfl:=sm (CB hm)
     obtain ⟨O',hS',hz,hl⟩:=hE.leave (fun _=>0) rfl hB
     exact ret2 rfl (Az rfl) (Az rfl) ⟨O',hS',_,_,rfl,rfl,(vErr f5)⟩
    replace q0:=im q0 g4
    refine o_z ?_
    refine Ae rfl (AI (BG [(11,[9])] h5 ?_))
    refine Bb (fuel:=6) [] [(1,true),(2,true),(3,true),(4,true),(5,true),(6,true),(7,true),(8,true),(9,true)] (by kernel_rfl) rfl ?_
    refine AK rfl rfl rfl (Cm rfl rfl rfl (AT rfl rfl rfl (AS (hc:=fun w' ⟨O',hq⟩=>Blk.cell (i:=5) ((e0.st hq (by decide)).1) rfl) rfl rfl rfl ?_)))
    refine AK rfl rfl rfl (AT rfl rfl rfl (AS (hc:=fun w' ⟨O',hq⟩=>Blk.cell (i:=0) ((z1.st hq (by decide)).1) rfl) rfl rfl rfl ?_))
    refine AK rfl rfl rfl (GV rfl rfl rfl rfl ?_)
    refine AL ?_
    refine Bb (fuel:=5) [9] [(0,true)] (by kernel_rfl) rfl ?_
    refine AK rfl rfl rfl (AL ?_)
    refine Bg (i:=10) (by kernel_rfl) rfl ?_
    refine BX 8 (by decide) h5 (xs:=([(⟨k0.1,e2.op,r2.1⟩:Edj)]:List Edj)) rfl rfl rfl rfl ⟨(Vb.ofAgg (cs:=[(.int .i64 k0.1),(.int .i64 e2.op),(.int .i64 r2.1)]) (x:=(⟨k0.1,e2.op,r2.1⟩:Edj)) rfl ⟨rfl,m3,b7,k7⟩),trivial⟩ (by decide) (by decide) rfl fun wA xA yA g1 p7=>?_
    have hZ:=g1.lst [] (fun _ h=>h.elim)
    refine BE [(11,[9])] hZ (by kernel_rfl) ?_
    refine Bg (i:=11) (by kernel_rfl) rfl ?_
    obtain ⟨q7,h4,q0⟩:=bs q0
    obtain ⟨h4,r7,s7⟩:=Cc h4
    replace u1:=u1.st g1
    refine CX rfl u1 (p7.rd) rfl rfl (by decide) r7 s7 rfl fun j5 k5 zA t7 m1 l5=>?_
    rw [← h4] at l5 ⊢
    have hZ:=m1.lst [9] (fun _ h=>by cases h;decide)
    refine BE [] hZ (by kernel_rfl) ?_
    refine Bb (fuel:=1) [] [(12,true),(13,true)] (by kernel_rfl) rfl ?_
    refine Cm rfl rfl rfl (AT rfl rfl rfl (AL ?_))
    refine Bg (i:=14) (by kernel_rfl) rfl ?_
    replace e0:=(e0.st g1).st m1
    refine Br e0 rfl rfl rfl (BN rfl) (allOne rfl) fun u7 s1 e0=>?_
    replace e0:Lc 4 u7 t7 p2 87 [(.slice h2 g0.vars.length i2),(.slice j2 g0.init.length k2),(.slice l2 g0.goal.length m2),(.slice n2 g0.ops.length o2),(.pointer (some ⟨c2,0,none⟩)),(.slice j5 q7.length k5),(.slice r0.1 y1.length r0.2),(.slice none 0 0),(.slice none 0 0),(.slice none 0 0)]:=e0
    refine DI (by kernel_rfl) ?_
    refine Ck (by kernel_rfl) ?_
    obtain rfl:=sm q0
    exact show Exists _ from ⟨_,(j5,k5),rfl,⟨rfl,rfl,rfl,rfl,rfl,rfl,rfl,rfl,rfl,trivial⟩,_,((hB.st g1).st m1).st s1,((s0.st g1).st m1).st s1,((h8.st g1).st m1).st s1,((u0.st g1).st m1).st s1,((w0.st g1).st m1).st s1,((h1.st g1).st m1).st s1,((t1.st g1).st m1).st s1,((c3.st g1).st m1).st s1,e0,((z0.st g1).st m1).st s1,((a1.st g1).st m1).st s1,((b1.st g1).st m1).st s1,((c1.st g1).st m1).st s1,l5.st s1,((y0.st g1).st m1).st s1,((q1.st g1).st m1).st s1⟩
   replace hB:=hB.st o0
   replace h8:=h8.st o0
   replace u0:=u0.st o0
   replace w0:=w0.st o0
   replace h1:=h1.st o0
   replace s0:=s0.st o0
   replace t1:=t1.st o0
   replace z0:=z0.st o0
   replace a1:=a1.st o0
   replace b1:=b1.st o0
   replace c1:=c1.st o0
   replace e0:=e0.st o0
   replace y0:=y0.st o0
   rintro aB bB ⟨cB,m5,rfl,n5,dB,hB,s0,h8,u0,w0,h1,t1,q2,e0,z0,a1,b1,c1,u1,y0⟩
   replace h0:=AX h0
   refine AN _ n5 ?_
   refine Aj (Am rfl rfl ?_)
   obtain ⟨eB,o5,h0⟩:=bs h0
   have w7:=(Bw o5)
   refine Ee (he:=o5) rfl rfl rfl ?_
   refine An rfl rfl (o_z ?_)
   obtain rfl:=sm h0
   exact show Exists _ from ⟨_,((m5.1,m5.2),(r0.1,r0.2)),rfl,⟨rfl,rfl,rfl,rfl,rfl,rfl,trivial⟩,_,hB,s0,h8,u0,w0,h1,t1,q2,e0,z0,a1,b1,c1,u1,y0,w7⟩
  replace h0:=im h0 t3
  refine o_z ?_
  refine Ae rfl (DN ?_)
  obtain rfl:=sm h0
  exact show Exists _ from ⟨_,((m0.1.1,m0.1.2),(m0.2.1,m0.2.2)),n3 _ rfl,⟨rfl,trivial⟩,_,hB.st f0,e0.st f0,z0.st f0,a1.st f0,b1.st f0,c1.st f0,m4,n1.st f0,w1.st f0,m3⟩
 replace hB:=(((((hB.st i3).st e3).st f3).st k3).st l3).st d1
 replace z0:=z0.st d1
 replace a1:=a1.st d1
 replace b1:=b1.st d1
 replace c1:=c1.st d1
 rintro fB gB ⟨i4,iB,rfl,p5,jB,hB,e0,z0,a1,b1,c1,g3,n1,w1,m3⟩
 replace hm:=AX hm
 refine AN _ p5 ?_
 refine Al (Aj (Am rfl rfl ?_))
 obtain ⟨kB,f2,n1⟩:=n1.freeze
 replace w1:=w1.st f2
 obtain ⟨lB,g2,w1⟩:=w1.freeze
 replace z0:=(z0.st f2).st g2
 replace a1:=(a1.st f2).st g2
 replace b1:=(b1.st f2).st g2
 replace c1:=(c1.st f2).st g2
 replace e0:=(e0.st f2).st g2
 replace n1:=n1.st g2
 replace g3:=(g3.st f2).st g2
 obtain ⟨x7,y7,i8,j8,z7⟩:=Spa.shut (x:=(⟨(⟨g0.vars,g0.init,g0.goal,g0.ops⟩:Tsk),i4.2.2.2,i4.2.1,i4.2.2.1,([]:List Int),([]:List Int),([]:List Int)⟩:Spa)) (l0:=4) (l1:=3) (by decide) e0 z0 a1 b1 c1 g3 n1 w1 (Vb.nil _ _) (Vb.nil _ _) (Vb.nil _ _)
 obtain ⟨mB,a8,hm⟩:=bs hm
 refine BH (O:=x7) (Hm z7 a8) rfl rfl fun nB oB pB b8 c8=>?_
 refine o_z ?_
 refine Al (Aj (Am rfl rfl (An rfl rfl (An rfl rfl (o_z ?_)))))
 refine AG ?_
 obtain rfl:=sm hm
 replace hB:=(((hB.st f2).st g2).st y7).st b8
 obtain ⟨O',hS',hz,hl⟩:=hE.leave (fun q=>if q=4 then j0 else 0) rfl hB
 exact ret2 rfl (Az rfl) (Az rfl) ⟨O',hS',_,_,rfl,(Ob.leave c8 hz (hl 4 (by decide) (by decide)) hj0),(vErr (show inI64 0 from by decide))⟩
end
section
open Go Go.RowKit
attribute [local irreducible] ewp owp hwp hwq hws Ev Evg Fn retPost loud loudS Res1
attribute [local irreducible] hwx loudX
noncomputable def Gp (x0:Int) (x1:Int) (x2:Int):Option Int :=
  some (max x1 (min x0 x2))
noncomputable def Ex (x0:List (List Int)) (x1:List Int):Option Int :=
  bnd (rng (ρ:=Int) (fun (k13:Nat) (a14:List Int) (s11:Unit)=>bnd (JF a14 x1) fun q35=>if q35=true then some (.ret (k13:Int)) else some (.next ())) x0 0 ()) fun res9=>fin res9 fun (s46:Unit)=>some (-1)
noncomputable def Gf (x0:Tsk) (x1:Int):Option ((List (List Int))×Bool) :=
  bnd (Gp x1 0 65536) fun q25=>bnd (appI 8 ([]:List Int) x0.init) fun u39=>bnd (lop (ρ:=(List (List Int))×Bool) (fun (s60:(List (List Int))×Int)=>bnd (if s60.2 < (s60.1.length:Int) then (if (s60.1.length:Int)≤q25 then (some true) else (some false)) else (some false):Option Bool) fun y79=>if y79=true then (bnd (rng (ρ:=Ctl ((List (List Int))×Int) ((List (List Int))×Bool)) (fun (k100:Nat) (a101:Opr) (s98:(List (List Int)))=>bnd (atI s98 s60.2) fun a115=>bnd (Cw x0 a115 (k100:Int)) fun q130=>bnd (if q130.2=true then (bnd (Ex s98 q130.1) fun q148=>if q148 < 0 then (some true) else (some false)) else (some false):Option Bool) fun y143=>if y143=true then (bnd (appI 24 s98 [q130.1]) fun u162=>some (.next u162)) else (some (.next s98))) x0.ops 0 s60.1) fun res96=>fin res96 fun (s178:(List (List Int)))=>bnd (chkI (s60.2 + 1)) fun n180=>some (.next (s178,n180))) else (some (.brk (s60.1,s60.2)))) ([u39],0)) fun res58=>fin res58 fun (s187:(List (List Int))×Int)=>bnd (if (s187.1.length:Int)≤q25 then (some true) else (some false):Option Bool) fun y189=>some (s187.1,y189)
end
section
open Go Go.RowKit
section
variable {P : Program} {l : Env} {w : World} {dst : Option Tmp} {ty : TypeId} {pos : String} {aft : Array Edge}
theorem Gr {t e u:TypeId} [TPtr P t e] {x:Operand} (hx:opv l x=some (.pointer none)):Ev P ⟨dst,.binOp .eql t x (.const (.pointer none)) u,ty,pos,aft,none⟩ l w (.bool true):=by
  have:=MX (P:=P) (w:=w) (dst:=dst) (ty:=ty) (pos:=pos) (aft:=aft) (t:=t) (u:=u) (p:=none) (b:=true) rfl hx
  simpa using this
variable {n : Nat} {ops : Array Oper} {Q : Post} {rest : List Oper} {d : Tmp} {S : World → Prop} {r : List (Nat × Bool)} {i : Nat}
theorem Pb {l:Env} {w:World} {dst:Option Tmp} {ty:TypeId} {pos:String} {aft:Array Edge} {x:Operand} {cs:Array Value} {v:Value} (hx:opv l x=some (.agg cs)) (hv:cs[0]?=some v):Ev Tryz.prog ⟨dst,.field 64 x 0,ty,pos,aft,none⟩ l w v:=fun _ a d ha=>by
  simp [execOp,ha.eval hx,Instr.field,run_underlying Tryz.underlying64,Go.part,IK (P:=Tryz.prog) (t:=3),asAgg,hv]
end
end
section
open Go Go.RowKit
attribute [local irreducible] ewp owp hwp hwq hws Ev Evg Fn retPost loud loudS Res1
noncomputable def Db (x0:Err) (x1:Int):Option Bool :=
  bnd (if x0.n≠0 then (bnd (Ff (⟨x0.n⟩:Err)) fun q8=>if q8=x1 then (some true) else (some false)) else (some false):Option Bool) fun y3=>some y3
theorem FG {w:World} {A:Nat→Prop} (hA:∀ k,A k→k < w.heap.size) {x0:Err} (rx0:inI64 x0.n) {x1:Int} (rx1:inI64 x1) {r:Bool} (hm:Db x0 x1=some r) :
    Fn Tryz.prog 20 [(errV x0.n),(.int .i64 x1)] w fun v w'=>Ext w w'∧Vb w' (upA A w w') v r:=by
 obtain ⟨O,hB,f0⟩:=enter hA
 refine AH Tryz.func20 rfl Tryz.ntmps20 rfl ?_
 unfold Db at hm
 refine Al (Aj (An rfl rfl (o_z ?_)))
 refine Al ?_
 obtain ⟨y3,a0,hm⟩:=bs hm
 refine AJ (fun l' w'=>∃ (x6:Unit) (O':Lab),subs l' [(4,(.bool y3))]∧Bs w A w' O') ?_ ?_
 ·
  refine Aj (Am rfl rfl (Dy rfl rfl (fun c7=>?_) fun c7=>?_))
  ·
   replace a0:=ip a0 c7
   refine Am rfl rfl (Aw rfl rfl (Am rfl rfl (Aw rfl rfl ?_)))
   obtain ⟨q8,e9,a0⟩:=bs a0
   refine AV (O:=O) (A:=All w) (R:=fun w' F v=>Vb w' F v q8) (Ib (fun _ h=>h) rx0 e9) rfl rfl fun g0 h0 i0 d0 e0=>?_
   obtain ⟨rfl,j0⟩:=e0.int
   refine Aw rfl rfl (Am rfl rfl (Aw rfl rfl (GG rfl rfl rfl (fun b0=>?_) fun b0=>?_)))
   ·
    replace a0:=ip a0 b0
    refine AY rfl rfl rfl (An rfl rfl (o_z ?_))
    obtain rfl:=sm a0
    exact ⟨(),_,⟨rfl,trivial⟩,hB.st d0⟩
   replace a0:=im a0 b0
   refine AY rfl rfl rfl (An rfl rfl (o_z ?_))
   obtain rfl:=sm a0
   exact ⟨(),_,⟨rfl,trivial⟩,hB.st d0⟩
  replace a0:=im a0 c7
  refine Am rfl rfl (At rfl rfl rfl rfl (At rfl rfl rfl rfl (At rfl rfl rfl rfl (At rfl rfl rfl rfl (AQ rfl rfl rfl (An rfl rfl (o_z ?_)))))))
  obtain rfl:=sm a0
  exact ⟨(),_,⟨rfl,trivial⟩,hB⟩
 rintro k0 l0 ⟨x6,m0,c0,hB⟩
 refine AN _ c0 ?_
 refine AG ?_
 obtain rfl:=sm hm
 exact ret1v rfl (Az rfl) ⟨hB.ext,vBool⟩
noncomputable def Dz (x0:List Int) (x1:Int):Option Int :=
  bnd (rng (ρ:=Int) (fun (k11:Nat) (a12:Int) (s9:Int)=>bnd (chkI (x1 + 1)) fun n32=>bnd (chkI (s9 * (min (max a12 0) n32))) fun n35=>if x1 < n35 then (bnd (chkI (x1 + 1)) fun n39=>some (.ret n39)) else (some (.next n35))) x0 0 1) fun res7=>fin res7 fun (s46:Int)=>some s46
theorem JH {w:World} {A:Nat→Prop} (hA:∀ k,A k→k < w.heap.size) {vx0:Value} {x0:List Int} (b0:Vb w A vx0 x0) {x1:Int} (rx1:inI64 x1) {r:Int} (hm:Dz x0 x1=some r) :
    Fn Tryz.prog 37 [vx0,(.int .i64 x1)] w fun v w'=>Ext w w'∧Vb w' (upA A w w') v r:=by
 obtain ⟨O,hB,q0⟩:=enter hA
 replace b0:=b0.mono q0
 obtain ⟨A3,c4,rfl⟩:=b0.form
 refine AH Tryz.func37 rfl Tryz.ntmps37 rfl ?_
 unfold Dz at hm
 refine Al (Aj (An rfl rfl (o_z ?_)))
 refine Al (Aj (An rfl rfl (o_z ?_)))
 refine Al (Al (Aj (Am rfl rfl (AP rfl rfl ?_))))
 have l6:x0.length≤9223372036854775807:=Nat.le_trans b0.len.2.1 b0.len.2.2
 have r5:inI64 (x0.length:Int):=rngNat l6
 refine Am rfl rfl (o_z ?_)
 obtain ⟨g0,r0,hm⟩:=bs hm
 refine AJ (aft g0 (fun (s9:Int) (e0:Unit)=>[(5,(.int .i64 s9))]) (fun s9 e0 w'=>∃ O':Lab,Bs w A w' O'∧inI64 s9)) ?_ ?_
 ·
  refine AM (By (σ:=Int) (X:=Unit) (x0.length) r0 rfl l6 (fun (s9:Int) (e0:Unit)=>[(1,(.int .i64 x1)),(5,(.int .i64 s9)),(8,(.slice A3 x0.length c4))]) _ (fun s9 e0 w'=>∃ O':Lab,Bs w A w' O'∧Vb w' (Fr 0 w' O') (.slice A3 x0.length c4) x0∧inI64 s9) _ () ⟨O,hB,b0,(show inI64 (1) from by decide)⟩ ⟨rfl,rfl,rfl,rfl,rfl,trivial⟩ (fun _ _=>⟨rfl,rfl⟩) (fun _ _=>⟨rfl,trivial⟩) (fun _ _ _ ⟨O',hB,b0,f0⟩=>⟨O',hB,f0⟩) ⟨rfl,rfl,rfl⟩ ⟨rfl,rfl⟩ ?_)
  rintro s0 y0 s9 e0 z0 t0 d0 ⟨a1,hB,b0,f0⟩ a0 c0 h0
  have rk11:inI64 (s0:Int):=rngK d0 l6
  refine Al (Aj ?_)
  obtain ⟨b1,c1,u0,i0,j0,k0,rfl,d1⟩:=b0.elem' d0
  refine Bo (hA:=i0) (hj:=rfl) (hlt:=j0) rfl rfl rfl ?_
  refine AC (hc:=cat0 k0) rfl rfl ?_
  refine An rfl rfl (o_z ?_)
  refine Al (Aj (Am rfl rfl (Am rfl rfl (Nn rfl rfl rfl ?_))))
  refine Am rfl rfl ?_
  obtain ⟨e1,n0,a0⟩:=bs a0
  have f1:=(Bw n0)
  refine Ee (he:=n0) rfl rfl rfl ?_
  refine LD rfl rfl rfl ?_
  obtain ⟨g1,o0,a0⟩:=bs a0
  have v0:=(Bw o0)
  refine LI (he:=o0) rfl rfl rfl ?_
  refine An rfl rfl (o_z ?_)
  refine Al (Aj (Am rfl rfl (Am rfl rfl (BS rfl rfl rfl (fun l0=>?_) fun l0=>?_))))
  ·
   replace a0:=ip a0 l0
   refine o_z ?_
   refine Ah rfl (Al (Aj (Am rfl rfl ?_)))
   obtain ⟨h1,p0,a0⟩:=bs a0
   have w0:=(Bw p0)
   refine Ee (he:=p0) rfl rfl rfl ?_
   refine An rfl rfl (o_z ?_)
   refine AG ?_
   obtain rfl:=sm a0
   obtain rfl:=c0 _ rfl
   obtain rfl:=sm (CB hm)
   exact ret1v rfl (Az rfl) ⟨hB.ext,(vInt w0)⟩
  replace a0:=im a0 l0
  refine o_z ?_
  refine Ae rfl (AI ?_)
  obtain rfl:=sm a0
  exact show Exists _ from ⟨_,(),rfl,⟨rfl,rfl,rfl,rfl,rfl,trivial⟩,_,hB,b0,v0⟩
 rintro i1 j1 ⟨k1,l1,rfl,m0,m1,hB,f0⟩
 replace hm:=AX hm
 refine AN _ m0 ?_
 refine Al (Aj (Am rfl rfl (An rfl rfl (o_z ?_))))
 refine AG ?_
 obtain rfl:=sm hm
 exact ret1v rfl (Az rfl) ⟨hB.ext,(vInt f0)⟩
noncomputable def Ey (x0:Tsk) (x1:List Int):Option (List Bool) :=
  bnd (Dz x0.vars 65536) fun q27=>bnd (mkI 1 (false:Bool) q27) fun u35=>bnd (Dg x0.vars x1) fun q48=>bnd (atI u35 q48) fun a56=>bnd (ET x0) fun q69=>bnd (lop (ρ:=(List Bool)) (fun (s80:(List Bool)×Bool)=>if s80.2=true then (bnd (rng (ρ:=Ctl ((List Bool)×Bool) (List Bool)) (fun (k104:Nat) (a105:Edg) (s102:(List Bool)×Bool)=>bnd (bnd (atI s102.1 a105.src) fun a140=>if a140=true then (bnd (atI s102.1 a105.dst) fun a152=>some (!a152)) else (some false):Option Bool) fun y136=>if y136=true then (bnd (atI s102.1 a105.dst) fun a168=>some (.next ((s102.1.set (a105.dst:Int).toNat true),true))) else (some (.next (s102.1,s102.2)))) q69 0 (s80.1,false)) fun res100=>fin res100 fun (s185:(List Bool)×Bool)=>some (.next (s185.1,s185.2))) else (some (.brk (s80.1,s80.2)))) ((u35.set (q48:Int).toNat true),true)) fun res78=>fin res78 fun (s191:(List Bool)×Bool)=>some s191.1
theorem KN {w:World} {A:Nat→Prop} (hA:∀ k,A k→k < w.heap.size) {vx0:Value} {x0:Tsk} (k2:Vb w A vx0 x0) {vx1:Value} {x1:List Int} (j1:Vb w A vx1 x1) {r:(List Bool)} (hm:Ey x0 x1=some r) :
    Fn Tryz.prog 39 [vx0,vx1] w fun v w'=>Ext w w'∧Vb w' (upA A w w') v r:=by
 obtain ⟨O,hB,m3⟩:=enter hA
 replace k2:=k2.mono m3
 obtain ⟨b6,rfl,v4,v5,v6,v7,rfl,h8,e2,f2,g2⟩:=k2
 obtain ⟨A9,n3,rfl⟩:=h8.form
 obtain ⟨o3,p3,rfl⟩:=e2.form
 obtain ⟨q3,r3,rfl⟩:=f2.form
 obtain ⟨s3,t3,rfl⟩:=g2.form
 replace j1:=j1.mono m3
 obtain ⟨c6,d6,rfl⟩:=j1.form
 refine AH Tryz.func39 rfl Tryz.ntmps39 rfl ?_
 unfold Ey at hm
 refine Al (Aj (Dc 2 O rfl rfl fun b4 l2 m2 c1 s0=>?_))
 replace s0:Lc 2 l2 m2 b4 26 [(.slice A9 x0.vars.length n3),(.slice o3 x0.init.length p3),(.slice q3 x0.goal.length r3),(.slice s3 x0.ops.length t3)]:=s0
 refine An rfl rfl (o_z ?_)
 refine Al (Aj (AE rfl rfl (AC (hc:=Blk.cell (i:=0) (s0.1) rfl) rfl rfl ?_)))
 obtain ⟨c4,d4,hm⟩:=bs hm
 replace h8:=h8.st c1
 refine AV (O:=m2) (A:=All l2) (R:=fun w' F v=>Vb w' F v c4) (JH (fun _ h=>h) (Vb.mono (F:=Fr 0 l2 m2) h8 Fr.lt) (show inI64 (65536) from by decide) d4) rfl rfl fun e6 f6 e4 v0 f4=>?_
 obtain ⟨rfl,g6⟩:=f4.int
 obtain ⟨n0,g4,hm⟩:=bs hm
 obtain ⟨o0,h4,i4,j4,k4⟩:=Dw g4
 refine FO 3 (by decide) e4 (z0:=(false:Bool)) rfl rfl rfl rfl rfl h4 vBool i4 j4 rfl fun p0 n2 o2 w0 t0=>?_
 rw [← k4] at t0 ⊢
 refine An rfl rfl (o_z ?_)
 refine Al (Aj (Am rfl rfl (AE rfl rfl ?_)))
 replace s0:=(s0.st v0).st w0
 refine AC (hc:=Blk.cell (i:=0) (s0.1) rfl) rfl rfl ?_
 refine Am rfl rfl ?_
 obtain ⟨l4,m4,hm⟩:=bs hm
 replace j1:=((j1.st c1).st v0).st w0
 replace h8:=(h8.st v0).st w0
 refine AV (O:=o2) (A:=All n2) (R:=fun w' F v=>Vb w' F v l4) (Hy (fun _ h=>h) (Vb.mono (F:=Fr 0 n2 o2) h8 Fr.lt) (Vb.mono (F:=Fr 0 n2 o2) j1 Fr.lt) m4) rfl rfl fun h6 i6 n4 y0 o4=>?_
 obtain ⟨rfl,j6⟩:=o4.int
 obtain ⟨k6,p4,hm⟩:=bs hm
 obtain ⟨q4,u3⟩:=AO p4
 replace t0:=t0.st y0
 obtain ⟨l6,m6,r4,l1,p2,s4,rfl⟩:=t0.elem u3
 refine Bo (hA:=l1) (hj:=(Int.toNat_of_nonneg q4).symm) (hlt:=p2) rfl rfl rfl ?_
 refine Dh rfl t0 (a:=true) vBool l1 rfl rfl (AD u3) fun n6 d1 t0=>?_
 refine o_z ?_
 refine Al (Aj ?_)
 replace s0:=(s0.st y0).st d1
 refine Bk (hl:=rfl) (hc:=(s0.1).cellsAt) rfl rfl ?_
 obtain ⟨g0,t4,hm⟩:=bs hm
 replace h8:=(h8.st y0).st d1
 replace e2:=((((e2.st c1).st v0).st w0).st y0).st d1
 replace f2:=((((f2.st c1).st v0).st w0).st y0).st d1
 replace g2:=((((g2.st c1).st v0).st w0).st y0).st d1
 refine CK (O:=n4) (R:=fun w' F v=>Vb w' F v g0) (Mh Fr.lt (Vb.ofAgg (cs:=[(.slice A9 x0.vars.length n3),(.slice o3 x0.init.length p3),(.slice q3 x0.goal.length r3),(.slice s3 x0.ops.length t3)]) (x:=x0) rfl ⟨_,_,_,_,rfl,h8,e2,f2,g2⟩) t4) rfl rfl fun o6 p6 u4 q2 h0=>?_
 obtain ⟨q0,r0,rfl⟩:=h0.form
 refine An rfl rfl (o_z ?_)
 refine Al (Al (Aj (An rfl rfl (o_z ?_))))
 obtain ⟨m1,r2,hm⟩:=bs hm
 refine AJ (aft m1 (fun (e1:(List Bool)×Bool) (h2:Unit)=>[(5,(.slice (some ⟨p0,0,none⟩) n0.length o0))]) (fun e1 h2 w'=>∃ O':Lab,Bs w A w' O'∧Rw 3 w' O' 4 (.slice (some ⟨p0,0,none⟩) n0.length o0) e1.1)) ?_ ?_
 ·
  refine AM ?_
  replace hB:=(((((hB.st c1).st v0).st w0).st y0).st d1).st q2
  replace t0:=t0.st q2
  refine Gc (σ:=(List Bool)×Bool) (X:=Unit) r2 (fun (e1:(List Bool)×Bool) (h2:Unit)=>[(5,(.slice (some ⟨p0,0,none⟩) n0.length o0)),(6,(.slice q0 g0.length r0)),(7,(.bool e1.2))]) _ (fun e1 h2 w'=>∃ O':Lab,Bs w A w' O'∧Rw 3 w' O' 4 (.slice (some ⟨p0,0,none⟩) n0.length o0) e1.1∧Vb w' (Fr 0 w' O') (.slice q0 g0.length r0) g0) _ () ⟨u4,hB,t0,h0⟩ ⟨rfl,rfl,rfl,trivial⟩ ?_
  rintro e1 h2 q6 w4 ⟨x4,hB,k1,h0⟩ d0 s2 f1
  refine Al (Al (Aj (Am rfl rfl (o_z ?_))))
  refine CV rfl (fun t2=>?_) (fun t2=>?_)
  ·
   replace d0:=ip d0 t2
   refine AI (AM (Al (Aj (An rfl rfl (o_z ?_)))))
   refine Al (Aj (Am rfl rfl (AP rfl rfl ?_)))
   have u2:g0.length≤9223372036854775807:=Nat.le_trans h0.len.2.1 h0.len.2.2
   have r6:inI64 (g0.length:Int):=rngNat u2
   refine Am rfl rfl (o_z ?_)
   obtain ⟨g1,n1,d0⟩:=bs d0
   refine AJ (aft g1 (fun (e0:(List Bool)×Bool) (u0:Unit)=>[(5,(.slice (some ⟨p0,0,none⟩) n0.length o0)),(6,(.slice q0 g0.length r0)),(7,(.bool e0.2))]) (fun e0 u0 w'=>∃ O':Lab,Bs w A w' O'∧Rw 3 w' O' 4 (.slice (some ⟨p0,0,none⟩) n0.length o0) e0.1∧Vb w' (Fr 0 w' O') (.slice q0 g0.length r0) g0)) ?_ ?_
   ·
    refine AM (By (σ:=(List Bool)×Bool) (X:=Unit) (g0.length) n1 rfl u2 (fun (e0:(List Bool)×Bool) (u0:Unit)=>[(5,(.slice (some ⟨p0,0,none⟩) n0.length o0)),(6,(.slice q0 g0.length r0)),(7,(.bool e0.2)),(23,(.slice q0 g0.length r0))]) _ (fun e0 u0 w'=>∃ O':Lab,Bs w A w' O'∧Rw 3 w' O' 4 (.slice (some ⟨p0,0,none⟩) n0.length o0) e0.1∧Vb w' (Fr 0 w' O') (.slice q0 g0.length r0) g0) _ () ⟨x4,hB,k1,h0⟩ ⟨rfl,rfl,rfl,rfl,rfl,rfl,trivial⟩ (fun _ _=>⟨rfl,rfl⟩) (fun _ _=>⟨rfl,rfl,rfl,trivial⟩) (fun _ _ _ ⟨O',hB,a0,h0⟩=>⟨O',hB,a0,h0⟩) ⟨rfl,rfl,rfl⟩ ⟨rfl,rfl⟩ ?_)
    rintro o1 k0 e0 u0 y4 v3 a1 ⟨v2,hB,a0,h0⟩ b0 i2 j2
    have rk104:inI64 (o1:Int):=rngK a1 u2
    refine Al (Aj ?_)
    obtain ⟨z4,a5,w3,p1,q1,r1,rfl,b5,c5,d5⟩:=h0.elem' a1
    refine Bo (hA:=p1) (hj:=rfl) (hlt:=q1) rfl rfl rfl ?_
    refine Bk (hl:=rfl) (hc:=r1) rfl rfl ?_
    refine Ch 4 v2 rfl fun h1 e5 w2 i0 f0=>?_
    refine Br f0 rfl rfl rfl (BN rfl) (allOne rfl) fun x2 j0 f0=>?_
    replace f0:Lc 4 x2 w2 h1 112 [(.int .i64 k0.src),(.int .i64 k0.op),(.int .i64 k0.dst)]:=f0
    refine o_z ?_
    refine Al ?_
    obtain ⟨y2,c0,b0⟩:=bs b0
    refine AJ (fun l' w'=>∃ (z2:Unit) (O':Lab),subs l' [(5,(.slice (some ⟨p0,0,none⟩) n0.length o0)),(6,(.slice q0 g0.length r0)),(7,(.bool e0.2)),(9,(.pointer (some ⟨h1,0,none⟩))),(23,(.slice q0 g0.length r0)),(24,(.int .i64 (g0.length:Int))),(25,(.int .i64 (o1:Int))),(41,(.bool y2))]∧Bs w A w' O'∧Rw 3 w' O' 4 (.slice (some ⟨p0,0,none⟩) n0.length o0) e0.1∧Vb w' (Fr 0 w' O') (.slice q0 g0.length r0) g0∧Lc 4 w' O' h1 112 [(.int .i64 k0.src),(.int .i64 k0.op),(.int .i64 k0.dst)]) ?_ ?_
    ·
     refine Aj (Am rfl rfl (AE rfl rfl (AC (hc:=Blk.cell (i:=0) (f0.1) rfl) rfl rfl ?_)))
     obtain ⟨a3,b3,c0⟩:=bs c0
     obtain ⟨c3,d3⟩:=AO b3
     replace a0:=(a0.st i0).st j0
     obtain ⟨f5,g5,x3,s1,t1,u1,rfl⟩:=a0.elem d3
     refine Bo (hA:=s1) (hj:=(Int.toNat_of_nonneg c3).symm) (hlt:=t1) rfl rfl rfl ?_
     refine AC (hc:=cat0 u1) rfl rfl ?_
     refine Am rfl rfl ?_
     rcases Bool.eq_false_or_eq_true a3 with l0|l0
     ·
      try rw [l0]
      replace c0:=ip c0 l0
      refine Aw rfl rfl (Am rfl rfl (Aw rfl rfl (AE rfl rfl (Aw rfl rfl (AC (hc:=Blk.cell (i:=2) (f0.1) rfl) rfl rfl ?_)))))
      refine Aw rfl rfl ?_
      obtain ⟨h5,e3,c0⟩:=bs c0
      obtain ⟨f3,g3⟩:=AO e3
      obtain ⟨i5,j5,y3,v1,w1,y1,rfl⟩:=a0.elem g3
      refine Bo (hA:=v1) (hj:=(Int.toNat_of_nonneg f3).symm) (hlt:=w1) rfl rfl rfl ?_
      refine Aw rfl rfl (AC (hc:=cat0 y1) rfl rfl ?_)
      refine Aw rfl rfl (Dv rfl rfl (AY rfl rfl rfl (o_z ?_)))
      obtain rfl:=sm c0
      exact ⟨(),_,⟨rfl,rfl,rfl,rfl,rfl,rfl,rfl,rfl,trivial⟩,(hB.st i0).st j0,a0,(h0.st i0).st j0,f0⟩
     try rw [l0]
     replace c0:=im' c0 l0
     refine At rfl rfl rfl rfl (At rfl rfl rfl rfl (At rfl rfl rfl rfl (At rfl rfl rfl rfl (At rfl rfl rfl rfl (At rfl rfl rfl rfl (AQ rfl rfl rfl (o_z ?_)))))))
     obtain rfl:=sm c0
     exact ⟨(),_,⟨rfl,rfl,rfl,rfl,rfl,rfl,rfl,rfl,trivial⟩,(hB.st i0).st j0,a0,(h0.st i0).st j0,f0⟩
    replace hB:=(hB.st i0).st j0
    replace h0:=(h0.st i0).st j0
    replace a0:=(a0.st i0).st j0
    rintro k5 l5 ⟨z2,m5,z1,hB,a0,h0,f0⟩
    refine AN _ z1 ?_
    refine CV rfl (fun i1=>?_) (fun i1=>?_)
    ·
     replace b0:=ip b0 i1
     refine Al (Aj (Am rfl rfl (AE rfl rfl (AC (hc:=Blk.cell (i:=2) (f0.1) rfl) rfl rfl ?_))))
     obtain ⟨n5,h3,b0⟩:=bs b0
     obtain ⟨i3,a2⟩:=AO h3
     obtain ⟨o5,p5,z3,b1,b2,a4,rfl⟩:=a0.elem a2
     refine Bo (hA:=b1) (hj:=(Int.toNat_of_nonneg i3).symm) (hlt:=b2) rfl rfl rfl ?_
     refine Dh rfl a0 (a:=true) vBool b1 rfl rfl (AD a2) fun q5 c2 a0=>?_
     refine o_z ?_
     refine Aj (An rfl rfl (o_z ?_))
     obtain rfl:=sm b0
     exact show Exists _ from ⟨_,(),rfl,⟨rfl,rfl,rfl,rfl,rfl,rfl,trivial⟩,_,hB.st c2,a0,h0.st c2⟩
    replace b0:=im' b0 i1
    refine AI ?_
    obtain rfl:=sm b0
    exact show Exists _ from ⟨_,(),rfl,⟨rfl,rfl,rfl,rfl,rfl,rfl,trivial⟩,_,hB,a0,h0⟩
   rintro r5 s5 ⟨t5,u5,rfl,m0,w5,hB,a0,h0⟩
   replace d0:=AX d0
   obtain rfl:=sm d0
   exact show Exists _ from ⟨_,(),rfl,⟨(Bn m0 _ _ rfl),(Bn m0 _ _ rfl),(Bn m0 _ _ rfl),trivial⟩,_,hB,a0,h0⟩
  replace d0:=im' d0 t2
  refine DN ?_
  obtain rfl:=sm d0
  exact show Exists _ from ⟨_,(),f1 _ rfl,⟨rfl,trivial⟩,_,hB,k1⟩
 replace hB:=(((((hB.st c1).st v0).st w0).st y0).st d1).st q2
 rintro x5 j3 ⟨y5,z5,rfl,d2,a6,hB,k1⟩
 replace hm:=AX hm
 refine AN _ d2 ?_
 refine Al (Aj (Am rfl rfl (An rfl rfl (o_z ?_))))
 refine AG ?_
 obtain ⟨k3,l3,k1⟩:=k1.freeze
 obtain rfl:=sm hm
 replace hB:=hB.st l3
 exact ret1v rfl (Az rfl) ⟨hB.ext,(Vb.mono (F:=Fr 0 j3 k3) k1 hB.out)⟩
end
section
open Go Go.RowKit
attribute [local irreducible] ewp owp hwp hwq hws Ev Evg Fn retPost loud loudS Res1
noncomputable def EH (x0:Tsk):Option Bool :=
  bnd (if 64 < (x0.vars.length:Int) then (some true) else (if 4096 < (x0.ops.length:Int) then (some true) else (if 64 < (x0.goal.length:Int) then (some true) else (some false))):Option Bool) fun y24=>bnd (rng (ρ:=Bool) (fun (k47:Nat) (a48:Opr) (s45:Bool)=>bnd (if s45=true then (some true) else (if 64 < (a48.pre.length:Int) then (some true) else (if 64 < (a48.effs.length:Int) then (some true) else (some false))):Option Bool) fun y82=>bnd (rng (ρ:=Ctl Bool Bool) (fun (k103:Nat) (a104:Eff) (s101:Bool)=>if s101=true then (some (.next true)) else (if 64 < (a104.cond.length:Int) then (some (.next true)) else (some (.next false)))) a48.effs 0 y82) fun res99=>fin res99 fun (s142:Bool)=>some (.next s142)) x0.ops 0 y24) fun res43=>fin res43 fun (s148:Bool)=>some s148
theorem Lz {w:World} {A:Nat→Prop} (hA:∀ k,A k→k < w.heap.size) {vx0:Value} {x0:Tsk} (t1:Vb w A vx0 x0) {r:Bool} (hm:EH x0=some r) :
    Fn Tryz.prog 74 [vx0] w fun v w'=>Ext w w'∧Vb w' (upA A w w') v r:=by
 obtain ⟨O,hB,b3⟩:=enter hA
 replace t1:=t1.mono b3
 obtain ⟨n4,rfl,v3,v4,v5,v6,rfl,h7,a1,o0,b0⟩:=t1
 obtain ⟨A8,c9,rfl⟩:=h7.form
 obtain ⟨u1,v1,rfl⟩:=a1.form
 obtain ⟨w1,x1,rfl⟩:=o0.form
 obtain ⟨r0,s0,rfl⟩:=b0.form
 refine AH Tryz.func74 rfl Tryz.ntmps74 rfl ?_
 unfold EH at hm
 refine Al (Aj (Dc 2 O rfl rfl fun y1 c3 d3 i0 t0=>?_))
 replace t0:Lc 2 c3 d3 y1 26 [(.slice A8 x0.vars.length c9),(.slice u1 x0.init.length v1),(.slice w1 x0.goal.length x1),(.slice r0 x0.ops.length s0)]:=t0
 refine An rfl rfl (o_z ?_)
 refine Al ?_
 obtain ⟨e3,c0,hm⟩:=bs hm
 refine AJ (fun l' w'=>∃ (f3:Unit) (O':Lab),subs l' [(1,(.pointer (some ⟨y1,0,none⟩))),(3,(.bool e3))]∧Bs w A w' O'∧Lc 2 w' O' y1 26 [(.slice A8 x0.vars.length c9),(.slice u1 x0.init.length v1),(.slice w1 x0.goal.length x1),(.slice r0 x0.ops.length s0)]∧Vb w' (Fr 0 w' O') (.slice A8 x0.vars.length c9) x0.vars∧Vb w' (Fr 0 w' O') (.slice u1 x0.init.length v1) x0.init∧Vb w' (Fr 0 w' O') (.slice w1 x0.goal.length x1) x0.goal∧Vb w' (Fr 0 w' O') (.slice r0 x0.ops.length s0) x0.ops) ?_ ?_
 ·
  refine Aj (AE rfl rfl (AC (hc:=Blk.cell (i:=0) (t0.1) rfl) rfl rfl ?_))
  refine AP rfl rfl ?_
  replace h7:=h7.st i0
  have g3:x0.vars.length≤9223372036854775807:=Nat.le_trans h7.len.2.1 h7.len.2.2
  have o4:inI64 (x0.vars.length:Int):=rngNat g3
  refine BS rfl rfl rfl (fun z1=>?_) fun z1=>?_
  ·
   replace c0:=ip c0 z1
   refine Am rfl rfl (At rfl rfl rfl rfl (At rfl rfl rfl rfl (At rfl rfl rfl rfl (At rfl rfl rfl rfl (AY rfl rfl rfl (Am rfl rfl (At rfl rfl rfl rfl (At rfl rfl rfl rfl (At rfl rfl rfl rfl (At rfl rfl rfl rfl (AY rfl rfl rfl (An rfl rfl (o_z ?_)))))))))))))
   obtain rfl:=sm c0
   exact ⟨(),_,⟨rfl,rfl,trivial⟩,hB.st i0,t0,h7,a1.st i0,o0.st i0,b0.st i0⟩
  replace c0:=im c0 z1
  refine Am rfl rfl (Aw rfl rfl (AE rfl rfl (Aw rfl rfl (AC (hc:=Blk.cell (i:=3) (t0.1) rfl) rfl rfl ?_))))
  refine Aw rfl rfl (AP rfl rfl ?_)
  replace b0:=b0.st i0
  have h3:x0.ops.length≤9223372036854775807:=Nat.le_trans b0.len.2.1 b0.len.2.2
  have p4:inI64 (x0.ops.length:Int):=rngNat h3
  refine Aw rfl rfl (BS rfl rfl rfl (fun a2=>?_) fun a2=>?_)
  ·
   replace c0:=ip c0 a2
   refine AQ rfl rfl rfl (Am rfl rfl (At rfl rfl rfl rfl (At rfl rfl rfl rfl (At rfl rfl rfl rfl (At rfl rfl rfl rfl (AY rfl rfl rfl (An rfl rfl (o_z ?_))))))))
   obtain rfl:=sm c0
   exact ⟨(),_,⟨rfl,rfl,trivial⟩,hB.st i0,t0,h7,a1.st i0,o0.st i0,b0⟩
  replace c0:=im c0 a2
  refine AQ rfl rfl rfl (Am rfl rfl (Aw rfl rfl (AE rfl rfl (Aw rfl rfl (AC (hc:=Blk.cell (i:=2) (t0.1) rfl) rfl rfl ?_)))))
  refine Aw rfl rfl (AP rfl rfl ?_)
  replace o0:=o0.st i0
  have i3:x0.goal.length≤9223372036854775807:=Nat.le_trans o0.len.2.1 o0.len.2.2
  have q4:inI64 (x0.goal.length:Int):=rngNat i3
  refine Aw rfl rfl (BS rfl rfl rfl (fun b2=>?_) fun b2=>?_)
  ·
   replace c0:=ip c0 b2
   refine AQ rfl rfl rfl (An rfl rfl (o_z ?_))
   obtain rfl:=sm c0
   exact ⟨(),_,⟨rfl,rfl,trivial⟩,hB.st i0,t0,h7,a1.st i0,o0,b0⟩
  replace c0:=im c0 b2
  refine AQ rfl rfl rfl (An rfl rfl (o_z ?_))
  obtain rfl:=sm c0
  exact ⟨(),_,⟨rfl,rfl,trivial⟩,hB.st i0,t0,h7,a1.st i0,o0,b0⟩
 replace hB:=hB.st i0
 replace h7:=h7.st i0
 replace a1:=a1.st i0
 replace o0:=o0.st i0
 replace b0:=b0.st i0
 rintro r4 s4 ⟨f3,j3,c2,hB,t0,h7,a1,o0,b0⟩
 refine AN _ c2 ?_
 refine Al (Al (Aj (AE rfl rfl (AC (hc:=Blk.cell (i:=3) (t0.1) rfl) rfl rfl ?_))))
 refine AP rfl rfl ?_
 have d2:x0.ops.length≤9223372036854775807:=Nat.le_trans b0.len.2.1 b0.len.2.2
 have t4:inI64 (x0.ops.length:Int):=rngNat d2
 refine Am rfl rfl (o_z ?_)
 obtain ⟨e1,e2,hm⟩:=bs hm
 refine AJ (aft e1 (fun (c1:Bool) (p1:Unit)=>[(3,(.bool c1))]) (fun c1 p1 w'=>∃ O':Lab,Bs w A w' O')) ?_ ?_
 ·
  refine AM (By (σ:=Bool) (X:=Unit) (x0.ops.length) e2 rfl d2 (fun (c1:Bool) (p1:Unit)=>[(3,(.bool c1)),(25,(.slice r0 x0.ops.length s0))]) _ (fun c1 p1 w'=>∃ O':Lab,Bs w A w' O'∧Vb w' (Fr 0 w' O') (.slice r0 x0.ops.length s0) x0.ops) _ () ⟨j3,hB,b0⟩ ⟨rfl,rfl,rfl,rfl,trivial⟩ (fun _ _=>⟨rfl,rfl⟩) (fun _ _=>⟨rfl,trivial⟩) (fun _ _ _ ⟨O',hB,b0⟩=>⟨O',hB⟩) ⟨rfl,rfl,rfl⟩ ⟨rfl,rfl⟩ ?_)
  rintro q1 e0 c1 p1 u4 k3 f1 ⟨l3,hB,b0⟩ l0 f2 g2
  have rk47:inI64 (q1:Int):=rngK f1 d2
  refine Al (Aj ?_)
  obtain ⟨w4,x4,m3,h2,i2,j2,y4,z4,rfl,p0,f0,a5,b5⟩:=b0.elem' f1
  obtain ⟨k2,l2,rfl⟩:=p0.form
  obtain ⟨g1,h1,rfl⟩:=f0.form
  refine Bo (hA:=h2) (hj:=rfl) (hlt:=i2) rfl rfl rfl ?_
  refine Bk (hl:=rfl) (hc:=j2) rfl rfl ?_
  refine Ch 3 l3 rfl fun m2 c5 n3 j0 q0=>?_
  refine Br q0 rfl rfl rfl (BN rfl) (allOne rfl) fun o3 k0 q0=>?_
  replace q0:Lc 3 o3 n3 m2 61 [(.string e0.name),(.int .i64 e0.cost),(.slice k2 e0.pre.length l2),(.slice g1 e0.effs.length h1)]:=q0
  refine o_z ?_
  refine Al ?_
  obtain ⟨p3,d0,l0⟩:=bs l0
  refine AJ (fun l' w'=>∃ (q3:Unit) (O':Lab),subs l' [(3,(.bool p3)),(5,(.pointer (some ⟨m2,0,none⟩))),(25,(.slice r0 x0.ops.length s0)),(26,(.int .i64 (x0.ops.length:Int))),(27,(.int .i64 (q1:Int)))]∧Bs w A w' O'∧Lc 3 w' O' m2 61 [(.string e0.name),(.int .i64 e0.cost),(.slice k2 e0.pre.length l2),(.slice g1 e0.effs.length h1)]∧Vb w' (Fr 0 w' O') (.slice k2 e0.pre.length l2) e0.pre∧Vb w' (Fr 0 w' O') (.slice g1 e0.effs.length h1) e0.effs∧Vb w' (Fr 0 w' O') (.slice r0 x0.ops.length s0) x0.ops) ?_ ?_
  ·
   refine Aj (Am rfl rfl (Am rfl rfl ?_))
   rcases Bool.eq_false_or_eq_true c1 with i1|i1
   ·
    try rw [i1]
    replace d0:=ip d0 i1
    refine At rfl rfl rfl rfl (At rfl rfl rfl rfl (At rfl rfl rfl rfl (At rfl rfl rfl rfl (AY rfl rfl rfl (Am rfl rfl (At rfl rfl rfl rfl (At rfl rfl rfl rfl (At rfl rfl rfl rfl (At rfl rfl rfl rfl (AY rfl rfl rfl (An rfl rfl (o_z ?_))))))))))))
    obtain rfl:=sm d0
    exact ⟨(),_,⟨rfl,rfl,rfl,rfl,rfl,trivial⟩,(hB.st j0).st k0,q0,(p0.st j0).st k0,(f0.st j0).st k0,(b0.st j0).st k0⟩
   try rw [i1]
   replace d0:=im' d0 i1
   refine Aw rfl rfl (AE rfl rfl (Aw rfl rfl (AC (hc:=Blk.cell (i:=2) (q0.1) rfl) rfl rfl ?_)))
   refine Aw rfl rfl (AP rfl rfl ?_)
   replace p0:=(p0.st j0).st k0
   have r3:e0.pre.length≤9223372036854775807:=Nat.le_trans p0.len.2.1 p0.len.2.2
   have d5:inI64 (e0.pre.length:Int):=rngNat r3
   refine Aw rfl rfl (BS rfl rfl rfl (fun n2=>?_) fun n2=>?_)
   ·
    replace d0:=ip d0 n2
    refine AQ rfl rfl rfl (Am rfl rfl (At rfl rfl rfl rfl (At rfl rfl rfl rfl (At rfl rfl rfl rfl (At rfl rfl rfl rfl (AY rfl rfl rfl (An rfl rfl (o_z ?_))))))))
    obtain rfl:=sm d0
    exact ⟨(),_,⟨rfl,rfl,rfl,rfl,rfl,trivial⟩,(hB.st j0).st k0,q0,p0,(f0.st j0).st k0,(b0.st j0).st k0⟩
   replace d0:=im d0 n2
   refine AQ rfl rfl rfl (Am rfl rfl (Aw rfl rfl (AE rfl rfl (Aw rfl rfl (AC (hc:=Blk.cell (i:=3) (q0.1) rfl) rfl rfl ?_)))))
   refine Aw rfl rfl (AP rfl rfl ?_)
   replace f0:=(f0.st j0).st k0
   have s3:e0.effs.length≤9223372036854775807:=Nat.le_trans f0.len.2.1 f0.len.2.2
   have e5:inI64 (e0.effs.length:Int):=rngNat s3
   refine Aw rfl rfl (BS rfl rfl rfl (fun o2=>?_) fun o2=>?_)
   ·
    replace d0:=ip d0 o2
    refine AQ rfl rfl rfl (An rfl rfl (o_z ?_))
    obtain rfl:=sm d0
    exact ⟨(),_,⟨rfl,rfl,rfl,rfl,rfl,trivial⟩,(hB.st j0).st k0,q0,p0,f0,(b0.st j0).st k0⟩
   replace d0:=im d0 o2
   refine AQ rfl rfl rfl (An rfl rfl (o_z ?_))
   obtain rfl:=sm d0
   exact ⟨(),_,⟨rfl,rfl,rfl,rfl,rfl,trivial⟩,(hB.st j0).st k0,q0,p0,f0,(b0.st j0).st k0⟩
  replace hB:=(hB.st j0).st k0
  replace b0:=(b0.st j0).st k0
  replace p0:=(p0.st j0).st k0
  replace f0:=(f0.st j0).st k0
  rintro f5 g5 ⟨q3,t3,p2,hB,q0,p0,f0,b0⟩
  refine AN _ p2 ?_
  refine Al (Aj (AE rfl rfl (AC (hc:=Blk.cell (i:=3) (q0.1) rfl) rfl rfl ?_)))
  refine AP rfl rfl ?_
  have q2:e0.effs.length≤9223372036854775807:=Nat.le_trans f0.len.2.1 f0.len.2.2
  have h5:inI64 (e0.effs.length:Int):=rngNat q2
  refine Am rfl rfl (o_z ?_)
  obtain ⟨j1,k1,l0⟩:=bs l0
  refine AJ (aft j1 (fun (m0:Bool) (z0:Unit)=>[(3,(.bool m0)),(25,(.slice r0 x0.ops.length s0)),(26,(.int .i64 (x0.ops.length:Int))),(27,(.int .i64 (q1:Int)))]) (fun m0 z0 w'=>∃ O':Lab,Bs w A w' O'∧Vb w' (Fr 0 w' O') (.slice r0 x0.ops.length s0) x0.ops)) ?_ ?_
  ·
   refine AM (By (σ:=Bool) (X:=Unit) (e0.effs.length) k1 rfl q2 (fun (m0:Bool) (z0:Unit)=>[(3,(.bool m0)),(25,(.slice r0 x0.ops.length s0)),(26,(.int .i64 (x0.ops.length:Int))),(27,(.int .i64 (q1:Int))),(45,(.slice g1 e0.effs.length h1))]) _ (fun m0 z0 w'=>∃ O':Lab,Bs w A w' O'∧Vb w' (Fr 0 w' O') (.slice r0 x0.ops.length s0) x0.ops∧Vb w' (Fr 0 w' O') (.slice g1 e0.effs.length h1) e0.effs) _ () ⟨t3,hB,b0,f0⟩ ⟨rfl,rfl,rfl,rfl,rfl,rfl,rfl,trivial⟩ (fun _ _=>⟨rfl,rfl⟩) (fun _ _=>⟨rfl,rfl,rfl,rfl,trivial⟩) (fun _ _ _ ⟨O',hB,b0,f0⟩=>⟨O',hB,b0⟩) ⟨rfl,rfl,rfl⟩ ⟨rfl,rfl⟩ ?_)
   rintro r2 u0 m0 z0 u3 z2 b1 ⟨s2,hB,b0,f0⟩ a0 r1 s1
   have rk103:inI64 (r2:Int):=rngK b1 q2
   refine Al (Aj ?_)
   obtain ⟨w3,x3,a3,l1,m1,n1,y3,rfl,v0,z3,a4⟩:=f0.elem' b1
   obtain ⟨t2,u2,rfl⟩:=v0.form
   refine Bo (hA:=l1) (hj:=rfl) (hlt:=m1) rfl rfl rfl ?_
   refine Bk (hl:=rfl) (hc:=n1) rfl rfl ?_
   refine Ch 4 s2 rfl fun v2 b4 w2 g0 w0=>?_
   refine Br w0 rfl rfl rfl (BN rfl) (allOne rfl) fun x2 h0 w0=>?_
   replace w0:Lc 4 x2 w2 v2 76 [(.slice t2 u0.cond.length u2),(.int .i64 u0.var),(.int .i64 u0.val)]:=w0
   refine o_z ?_
   refine Aj (Am rfl rfl (Am rfl rfl ?_))
   rcases Bool.eq_false_or_eq_true m0 with y0|y0
   ·
    try rw [y0]
    replace a0:=ip a0 y0
    refine At rfl rfl rfl rfl (At rfl rfl rfl rfl (At rfl rfl rfl rfl (At rfl rfl rfl rfl (AY rfl rfl rfl (An rfl rfl (o_z ?_))))))
    obtain rfl:=sm a0
    exact show Exists _ from ⟨_,(),rfl,⟨rfl,rfl,rfl,rfl,rfl,rfl,rfl,trivial⟩,_,(hB.st g0).st h0,(b0.st g0).st h0,(f0.st g0).st h0⟩
   try rw [y0]
   replace a0:=im' a0 y0
   refine Aw rfl rfl (AE rfl rfl (Aw rfl rfl (AC (hc:=Blk.cell (i:=0) (w0.1) rfl) rfl rfl ?_)))
   refine Aw rfl rfl (AP rfl rfl ?_)
   replace v0:=(v0.st g0).st h0
   have y2:u0.cond.length≤9223372036854775807:=Nat.le_trans v0.len.2.1 v0.len.2.2
   have c4:inI64 (u0.cond.length:Int):=rngNat y2
   refine Aw rfl rfl (BS rfl rfl rfl (fun d1=>?_) fun d1=>?_)
   ·
    replace a0:=ip a0 d1
    refine AQ rfl rfl rfl (An rfl rfl (o_z ?_))
    obtain rfl:=sm a0
    exact show Exists _ from ⟨_,(),rfl,⟨rfl,rfl,rfl,rfl,rfl,rfl,rfl,trivial⟩,_,(hB.st g0).st h0,(b0.st g0).st h0,(f0.st g0).st h0⟩
   replace a0:=im a0 d1
   refine AQ rfl rfl rfl (An rfl rfl (o_z ?_))
   obtain rfl:=sm a0
   exact show Exists _ from ⟨_,(),rfl,⟨rfl,rfl,rfl,rfl,rfl,rfl,rfl,trivial⟩,_,(hB.st g0).st h0,(b0.st g0).st h0,(f0.st g0).st h0⟩
  rintro d4 e4 ⟨f4,g4,rfl,n0,h4,hB,b0⟩
  replace l0:=AX l0
  obtain rfl:=sm l0
  exact show Exists _ from ⟨_,(),rfl,⟨(Bn n0 _ _ rfl),(Bn n0 _ _ rfl),(Bn n0 _ _ rfl),(Bn n0 _ _ rfl),trivial⟩,_,hB,b0⟩
 rintro i4 j4 ⟨k4,l4,rfl,o1,m4,hB⟩
 replace hm:=AX hm
 refine AN _ o1 ?_
 refine Al (Aj (Am rfl rfl (An rfl rfl (o_z ?_))))
 refine AG ?_
 obtain rfl:=sm hm
 exact ret1v rfl (Az rfl) ⟨hB.ext,vBool⟩
noncomputable def Eg (x0:Tsk):Option Bool :=
  bnd (rng (ρ:=Bool) (fun (k30:Nat) (a31:Int) (s28:Bool)=>if s28=true then (some (.next true)) else (if a31 < 1 then (some (.next true)) else (if 64 < a31 then (some (.next true)) else (some (.next false))))) x0.vars 0 false) fun res26=>fin res26 fun (s56:Bool)=>bnd (rng (ρ:=Bool) (fun (k64:Nat) (a65:Opr) (s62:Bool)=>if s62=true then (some (.next true)) else (if a65.cost < 0 then (some (.next true)) else (if 1048576 < a65.cost then (some (.next true)) else (some (.next false))))) x0.ops 0 s56) fun res60=>fin res60 fun (s106:Bool)=>some s106
theorem Kx {w:World} {A:Nat→Prop} (hA:∀ k,A k→k < w.heap.size) {vx0:Value} {x0:Tsk} (g1:Vb w A vx0 x0) {r:Bool} (hm:Eg x0=some r) :
    Fn Tryz.prog 75 [vx0] w fun v w'=>Ext w w'∧Vb w' (upA A w w') v r:=by
 obtain ⟨O,hB,z1⟩:=enter hA
 replace g1:=g1.mono z1
 obtain ⟨x2,rfl,v3,v4,v5,v6,rfl,h7,d0,e0,c0⟩:=g1
 obtain ⟨A8,c9,rfl⟩:=h7.form
 obtain ⟨q0,r0,rfl⟩:=d0.form
 obtain ⟨s0,t0,rfl⟩:=e0.form
 obtain ⟨j0,k0,rfl⟩:=c0.form
 refine AH Tryz.func75 rfl Tryz.ntmps75 rfl ?_
 unfold Eg at hm
 refine Al (Aj (Dc 2 O rfl rfl fun u0 a2 y1 g0 f0=>?_))
 replace f0:Lc 2 a2 y1 u0 26 [(.slice A8 x0.vars.length c9),(.slice q0 x0.init.length r0),(.slice s0 x0.goal.length t0),(.slice j0 x0.ops.length k0)]:=f0
 refine An rfl rfl (o_z ?_)
 refine Al (Aj (An rfl rfl (o_z ?_)))
 refine Al (Al (Aj (AE rfl rfl (AC (hc:=Blk.cell (i:=0) (f0.1) rfl) rfl rfl ?_))))
 refine AP rfl rfl ?_
 replace h7:=h7.st g0
 have h1:x0.vars.length≤9223372036854775807:=Nat.le_trans h7.len.2.1 h7.len.2.2
 have y2:inI64 (x0.vars.length:Int):=rngNat h1
 refine Am rfl rfl (o_z ?_)
 obtain ⟨v0,i1,hm⟩:=bs hm
 refine AJ (aft v0 (fun (l0:Bool) (d1:Unit)=>[(1,(.pointer (some ⟨u0,0,none⟩))),(3,(.bool l0))]) (fun l0 d1 w'=>∃ O':Lab,Bs w A w' O'∧Lc 2 w' O' u0 26 [(.slice A8 x0.vars.length c9),(.slice q0 x0.init.length r0),(.slice s0 x0.goal.length t0),(.slice j0 x0.ops.length k0)]∧Vb w' (Fr 0 w' O') (.slice A8 x0.vars.length c9) x0.vars∧Vb w' (Fr 0 w' O') (.slice q0 x0.init.length r0) x0.init∧Vb w' (Fr 0 w' O') (.slice s0 x0.goal.length t0) x0.goal∧Vb w' (Fr 0 w' O') (.slice j0 x0.ops.length k0) x0.ops)) ?_ ?_
 ·
  refine AM ?_
  replace hB:=hB.st g0
  replace d0:=d0.st g0
  replace e0:=e0.st g0
  replace c0:=c0.st g0
  refine By (σ:=Bool) (X:=Unit) (x0.vars.length) i1 rfl h1 (fun (l0:Bool) (d1:Unit)=>[(1,(.pointer (some ⟨u0,0,none⟩))),(3,(.bool l0)),(9,(.slice A8 x0.vars.length c9))]) _ (fun l0 d1 w'=>∃ O':Lab,Bs w A w' O'∧Lc 2 w' O' u0 26 [(.slice A8 x0.vars.length c9),(.slice q0 x0.init.length r0),(.slice s0 x0.goal.length t0),(.slice j0 x0.ops.length k0)]∧Vb w' (Fr 0 w' O') (.slice A8 x0.vars.length c9) x0.vars∧Vb w' (Fr 0 w' O') (.slice q0 x0.init.length r0) x0.init∧Vb w' (Fr 0 w' O') (.slice s0 x0.goal.length t0) x0.goal∧Vb w' (Fr 0 w' O') (.slice j0 x0.ops.length k0) x0.ops) _ () ⟨y1,hB,f0,h7,d0,e0,c0⟩ ⟨rfl,rfl,rfl,rfl,rfl,trivial⟩ (fun _ _=>⟨rfl,rfl⟩) (fun _ _=>⟨rfl,rfl,trivial⟩) (fun _ _ _ ⟨O',hB,f0,h7,d0,e0,c0⟩=>⟨O',hB,f0,h7,d0,e0,c0⟩) ⟨rfl,rfl,rfl⟩ ⟨rfl,rfl⟩ ?_
  rintro b2 z2 l0 d1 a3 c2 w0 ⟨b3,hB,f0,h7,d0,e0,c0⟩ a0 j1 k1
  have rk30:inI64 (b2:Int):=rngK w0 h1
  refine Al (Aj ?_)
  obtain ⟨c3,d3,d2,l1,m1,n1,rfl,e3⟩:=h7.elem' w0
  refine Bo (hA:=l1) (hj:=rfl) (hlt:=m1) rfl rfl rfl ?_
  refine AC (hc:=cat0 n1) rfl rfl ?_
  refine An rfl rfl (o_z ?_)
  refine Aj (Am rfl rfl (Am rfl rfl ?_))
  rcases Bool.eq_false_or_eq_true l0 with y0|y0
  ·
   try rw [y0]
   replace a0:=ip a0 y0
   refine At rfl rfl rfl rfl (At rfl rfl rfl rfl (AY rfl rfl rfl (Am rfl rfl (At rfl rfl rfl rfl (At rfl rfl rfl rfl (AY rfl rfl rfl (An rfl rfl (o_z ?_))))))))
   obtain rfl:=sm a0
   exact show Exists _ from ⟨_,(),rfl,⟨rfl,rfl,rfl,rfl,rfl,trivial⟩,_,hB,f0,h7,d0,e0,c0⟩
  try rw [y0]
  replace a0:=im' a0 y0
  refine Aw rfl rfl (Am rfl rfl (Aw rfl rfl (Dx rfl rfl rfl (fun o1=>?_) fun o1=>?_)))
  ·
   replace a0:=ip a0 o1
   refine AQ rfl rfl rfl (Am rfl rfl (At rfl rfl rfl rfl (At rfl rfl rfl rfl (AY rfl rfl rfl (An rfl rfl (o_z ?_))))))
   obtain rfl:=sm a0
   exact show Exists _ from ⟨_,(),rfl,⟨rfl,rfl,rfl,rfl,rfl,trivial⟩,_,hB,f0,h7,d0,e0,c0⟩
  replace a0:=im a0 o1
  refine AQ rfl rfl rfl (Am rfl rfl (Aw rfl rfl (Am rfl rfl (Aw rfl rfl (BS rfl rfl rfl (fun p1=>?_) fun p1=>?_)))))
  ·
   replace a0:=ip a0 p1
   refine AQ rfl rfl rfl (An rfl rfl (o_z ?_))
   obtain rfl:=sm a0
   exact show Exists _ from ⟨_,(),rfl,⟨rfl,rfl,rfl,rfl,rfl,trivial⟩,_,hB,f0,h7,d0,e0,c0⟩
  replace a0:=im a0 p1
  refine AQ rfl rfl rfl (An rfl rfl (o_z ?_))
  obtain rfl:=sm a0
  exact show Exists _ from ⟨_,(),rfl,⟨rfl,rfl,rfl,rfl,rfl,trivial⟩,_,hB,f0,h7,d0,e0,c0⟩
 replace hB:=hB.st g0
 replace d0:=d0.st g0
 replace e0:=e0.st g0
 replace c0:=c0.st g0
 rintro f3 g3 ⟨h3,i3,rfl,q1,e2,hB,f0,h7,d0,e0,c0⟩
 replace hm:=AX hm
 refine AN _ q1 ?_
 refine Al (Al (Aj (AE rfl rfl (AC (hc:=Blk.cell (i:=3) (f0.1) rfl) rfl rfl ?_))))
 refine AP rfl rfl ?_
 have r1:x0.ops.length≤9223372036854775807:=Nat.le_trans c0.len.2.1 c0.len.2.2
 have j3:inI64 (x0.ops.length:Int):=rngNat r1
 refine Am rfl rfl (o_z ?_)
 obtain ⟨z0,s1,hm⟩:=bs hm
 refine AJ (aft z0 (fun (m0:Bool) (e1:Unit)=>[(3,(.bool m0))]) (fun m0 e1 w'=>∃ O':Lab,Bs w A w' O')) ?_ ?_
 ·
  refine AM (By (σ:=Bool) (X:=Unit) (x0.ops.length) s1 rfl r1 (fun (m0:Bool) (e1:Unit)=>[(3,(.bool m0)),(26,(.slice j0 x0.ops.length k0))]) _ (fun m0 e1 w'=>∃ O':Lab,Bs w A w' O'∧Vb w' (Fr 0 w' O') (.slice j0 x0.ops.length k0) x0.ops) _ () ⟨e2,hB,c0⟩ ⟨rfl,rfl,rfl,rfl,trivial⟩ (fun _ _=>⟨rfl,rfl⟩) (fun _ _=>⟨rfl,trivial⟩) (fun _ _ _ ⟨O',hB,c0⟩=>⟨O',hB⟩) ⟨rfl,rfl,rfl⟩ ⟨rfl,rfl⟩ ?_)
  rintro f2 f1 m0 e1 k3 g2 a1 ⟨h2,hB,c0⟩ b0 t1 u1
  have rk64:inI64 (f2:Int):=rngK a1 r1
  refine Al (Aj ?_)
  obtain ⟨l3,m3,i2,v1,w1,x1,n3,o3,rfl,j2,k2,p3,q3⟩:=c0.elem' a1
  obtain ⟨l2,m2,rfl⟩:=j2.form
  obtain ⟨n2,o2,rfl⟩:=k2.form
  refine Bo (hA:=v1) (hj:=rfl) (hlt:=w1) rfl rfl rfl ?_
  refine Bk (hl:=rfl) (hc:=x1) rfl rfl ?_
  refine Ch 3 h2 rfl fun p2 r3 q2 h0 p0=>?_
  refine Br p0 rfl rfl rfl (BN rfl) (allOne rfl) fun r2 i0 p0=>?_
  replace p0:Lc 3 r2 q2 p2 61 [(.string f1.name),(.int .i64 f1.cost),(.slice l2 f1.pre.length m2),(.slice n2 f1.effs.length o2)]:=p0
  refine o_z ?_
  refine Aj (Am rfl rfl (Am rfl rfl ?_))
  rcases Bool.eq_false_or_eq_true m0 with b1|b1
  ·
   try rw [b1]
   replace b0:=ip b0 b1
   refine At rfl rfl rfl rfl (At rfl rfl rfl rfl (At rfl rfl rfl rfl (AY rfl rfl rfl (Am rfl rfl (At rfl rfl rfl rfl (At rfl rfl rfl rfl (At rfl rfl rfl rfl (AY rfl rfl rfl (An rfl rfl (o_z ?_))))))))))
   obtain rfl:=sm b0
   exact show Exists _ from ⟨_,(),rfl,⟨rfl,rfl,rfl,rfl,trivial⟩,_,(hB.st h0).st i0,(c0.st h0).st i0⟩
  try rw [b1]
  replace b0:=im' b0 b1
  refine Aw rfl rfl (AE rfl rfl (Aw rfl rfl (AC (hc:=Blk.cell (i:=1) (p0.1) rfl) rfl rfl ?_)))
  refine Aw rfl rfl (Dx rfl rfl rfl (fun n0=>?_) fun n0=>?_)
  ·
   replace b0:=ip b0 n0
   refine AQ rfl rfl rfl (Am rfl rfl (At rfl rfl rfl rfl (At rfl rfl rfl rfl (At rfl rfl rfl rfl (AY rfl rfl rfl (An rfl rfl (o_z ?_)))))))
   obtain rfl:=sm b0
   exact show Exists _ from ⟨_,(),rfl,⟨rfl,rfl,rfl,rfl,trivial⟩,_,(hB.st h0).st i0,(c0.st h0).st i0⟩
  replace b0:=im b0 n0
  refine AQ rfl rfl rfl (Am rfl rfl (Aw rfl rfl (AE rfl rfl (Aw rfl rfl (AC (hc:=Blk.cell (i:=1) (p0.1) rfl) rfl rfl ?_)))))
  refine Aw rfl rfl (BS rfl rfl rfl (fun o0=>?_) fun o0=>?_)
  ·
   replace b0:=ip b0 o0
   refine AQ rfl rfl rfl (An rfl rfl (o_z ?_))
   obtain rfl:=sm b0
   exact show Exists _ from ⟨_,(),rfl,⟨rfl,rfl,rfl,rfl,trivial⟩,_,(hB.st h0).st i0,(c0.st h0).st i0⟩
  replace b0:=im b0 o0
  refine AQ rfl rfl rfl (An rfl rfl (o_z ?_))
  obtain rfl:=sm b0
  exact show Exists _ from ⟨_,(),rfl,⟨rfl,rfl,rfl,rfl,trivial⟩,_,(hB.st h0).st i0,(c0.st h0).st i0⟩
 rintro s2 t2 ⟨u2,v2,rfl,c1,w2,hB⟩
 replace hm:=AX hm
 refine AN _ c1 ?_
 refine Al (Aj (Am rfl rfl (An rfl rfl (o_z ?_))))
 refine AG ?_
 obtain rfl:=sm hm
 exact ret1v rfl (Az rfl) ⟨hB.ext,vBool⟩
noncomputable def DF (x0:Tsk):Option Bool :=
  bnd (bnd (DQ x0.vars x0.init) fun q28=>if q28=true then bnd (Ea x0.vars x0.goal) fun q35=>if q35=true then some false else some true else some true:Option Bool) fun y24=>bnd (rng (ρ:=Bool) (fun (k52:Nat) (a53:Opr) (s50:Bool)=>bnd (if s50=true then (some true) else (bnd (Ea x0.vars a53.pre) fun q92=>if q92=true then some false else some true):Option Bool) fun y87=>bnd (rng (ρ:=Ctl Bool Bool) (fun (k109:Nat) (a110:Eff) (s107:Bool)=>if s107=true then (some (.next true)) else (bnd (Ea x0.vars a110.cond) fun q141=>if q141=true then bnd (Ea x0.vars [(⟨a110.var,a110.val⟩:Fct)]) fun q154=>if q154=true then some (.next false) else some (.next true) else some (.next true))) a53.effs 0 y87) fun res105=>fin res105 fun (s165:Bool)=>some (.next s165)) x0.ops 0 y24) fun res48=>fin res48 fun (s171:Bool)=>some s171
theorem Jx {w:World} {A:Nat→Prop} (hA:∀ k,A k→k < w.heap.size) {vx0:Value} {x0:Tsk} (p2:Vb w A vx0 x0) {r:Bool} (hm:DF x0=some r) :
    Fn Tryz.prog 76 [vx0] w fun v w'=>Ext w w'∧Vb w' (upA A w w') v r:=by
 obtain ⟨O,hB,x3⟩:=enter hA
 replace p2:=p2.mono x3
 obtain ⟨k5,rfl,v3,v4,v5,v6,rfl,h7,g0,h0,i0⟩:=p2
 obtain ⟨A8,c9,rfl⟩:=h7.form
 obtain ⟨c1,d1,rfl⟩:=g0.form
 obtain ⟨e1,f1,rfl⟩:=h0.form
 obtain ⟨u0,v0,rfl⟩:=i0.form
 refine AH Tryz.func76 rfl Tryz.ntmps76 rfl ?_
 unfold DF at hm
 refine Al (Aj (Dc 2 O rfl rfl fun g1 h2 i2 w0 d0=>?_))
 replace d0:Lc 2 h2 i2 g1 26 [(.slice A8 x0.vars.length c9),(.slice c1 x0.init.length d1),(.slice e1 x0.goal.length f1),(.slice u0 x0.ops.length v0)]:=d0
 refine An rfl rfl (o_z ?_)
 refine Al ?_
 obtain ⟨y3,f0,hm⟩:=bs hm
 refine AJ (fun l' w'=>∃ (z3:Unit) (O':Lab),subs l' [(1,(.pointer (some ⟨g1,0,none⟩))),(3,(.bool y3))]∧Bs w A w' O'∧Lc 2 w' O' g1 26 [(.slice A8 x0.vars.length c9),(.slice c1 x0.init.length d1),(.slice e1 x0.goal.length f1),(.slice u0 x0.ops.length v0)]∧Vb w' (Fr 0 w' O') (.slice A8 x0.vars.length c9) x0.vars∧Vb w' (Fr 0 w' O') (.slice c1 x0.init.length d1) x0.init∧Vb w' (Fr 0 w' O') (.slice e1 x0.goal.length f1) x0.goal∧Vb w' (Fr 0 w' O') (.slice u0 x0.ops.length v0) x0.ops) ?_ ?_
 ·
  refine Aj (AE rfl rfl (AC (hc:=Blk.cell (i:=0) (d0.1) rfl) rfl rfl ?_))
  refine AE rfl rfl (AC (hc:=Blk.cell (i:=1) (d0.1) rfl) rfl rfl ?_)
  obtain ⟨r3,a4,f0⟩:=bs f0
  replace h7:=h7.st w0
  replace g0:=g0.st w0
  refine AV (O:=i2) (A:=All h2) (R:=fun w' F v=>Vb w' F v r3) (IR (fun _ h=>h) (Vb.mono (F:=Fr 0 h2 i2) h7 Fr.lt) (Vb.mono (F:=Fr 0 h2 i2) g0 Fr.lt) a4) rfl rfl fun l5 q2 r2 y0 b4=>?_
  obtain rfl:=b4.bool
  cases r3
  case false =>
   replace f0:=iF f0
   refine Cq rfl rfl (Am rfl rfl (At rfl rfl rfl rfl (At rfl rfl rfl rfl (At rfl rfl rfl rfl (At rfl rfl rfl rfl (At rfl rfl rfl rfl (At rfl rfl rfl rfl (AY rfl rfl rfl (An rfl rfl (o_z ?_))))))))))
   obtain rfl:=sm f0
   exact ⟨(),_,⟨rfl,rfl,trivial⟩,(hB.st w0).st y0,d0.st y0,h7.st y0,g0.st y0,(h0.st w0).st y0,(i0.st w0).st y0⟩
  replace f0:=iT f0
  refine Cp rfl rfl (Am rfl rfl (Aw rfl rfl (AE rfl rfl (Aw rfl rfl ?_))))
  replace d0:=d0.st y0
  refine AC (hc:=Blk.cell (i:=0) (d0.1) rfl) rfl rfl ?_
  refine Aw rfl rfl (AE rfl rfl (Aw rfl rfl (AC (hc:=Blk.cell (i:=2) (d0.1) rfl) rfl rfl ?_)))
  refine Aw rfl rfl ?_
  obtain ⟨s3,c4,f0⟩:=bs f0
  replace h7:=h7.st y0
  replace h0:=(h0.st w0).st y0
  refine AV (O:=r2) (A:=All q2) (R:=fun w' F v=>Vb w' F v s3) (Fw (fun _ h=>h) (Vb.mono (F:=Fr 0 q2 r2) h7 Fr.lt) (Vb.mono (F:=Fr 0 q2 r2) h0 Fr.lt) c4) rfl rfl fun m5 n5 o5 b1 d4=>?_
  obtain rfl:=d4.bool
  cases s3
  case false =>
   replace f0:=iF f0
   refine Aw rfl rfl (Cq rfl rfl (AQ rfl rfl rfl (An rfl rfl (o_z ?_))))
   obtain rfl:=sm f0
   exact ⟨(),_,⟨rfl,rfl,trivial⟩,((hB.st w0).st y0).st b1,d0.st b1,h7.st b1,(g0.st y0).st b1,h0.st b1,((i0.st w0).st y0).st b1⟩
  replace f0:=iT f0
  refine Aw rfl rfl (Cp rfl rfl (AQ rfl rfl rfl (An rfl rfl (o_z ?_))))
  obtain rfl:=sm f0
  exact ⟨(),_,⟨rfl,rfl,trivial⟩,((hB.st w0).st y0).st b1,d0.st b1,h7.st b1,(g0.st y0).st b1,h0.st b1,((i0.st w0).st y0).st b1⟩
 replace hB:=hB.st w0
 replace h7:=h7.st w0
 replace g0:=g0.st w0
 replace h0:=h0.st w0
 replace i0:=i0.st w0
 rintro p5 q5 ⟨z3,e4,s2,hB,d0,h7,g0,h0,i0⟩
 refine AN _ s2 ?_
 refine Al (Al (Aj (AE rfl rfl (AC (hc:=Blk.cell (i:=3) (d0.1) rfl) rfl rfl ?_))))
 refine AP rfl rfl ?_
 have t2:x0.ops.length≤9223372036854775807:=Nat.le_trans i0.len.2.1 i0.len.2.2
 have r5:inI64 (x0.ops.length:Int):=rngNat t2
 refine Am rfl rfl (o_z ?_)
 obtain ⟨s1,u2,hm⟩:=bs hm
 refine AJ (aft s1 (fun (p1:Bool) (j2:Unit)=>[(3,(.bool p1))]) (fun p1 j2 w'=>∃ O':Lab,Bs w A w' O')) ?_ ?_
 ·
  refine AM (By (σ:=Bool) (X:=Unit) (x0.ops.length) u2 rfl t2 (fun (p1:Bool) (j2:Unit)=>[(1,(.pointer (some ⟨g1,0,none⟩))),(3,(.bool p1)),(23,(.slice u0 x0.ops.length v0))]) _ (fun p1 j2 w'=>∃ O':Lab,Bs w A w' O'∧Lc 2 w' O' g1 26 [(.slice A8 x0.vars.length c9),(.slice c1 x0.init.length d1),(.slice e1 x0.goal.length f1),(.slice u0 x0.ops.length v0)]∧Vb w' (Fr 0 w' O') (.slice A8 x0.vars.length c9) x0.vars∧Vb w' (Fr 0 w' O') (.slice c1 x0.init.length d1) x0.init∧Vb w' (Fr 0 w' O') (.slice e1 x0.goal.length f1) x0.goal∧Vb w' (Fr 0 w' O') (.slice u0 x0.ops.length v0) x0.ops) _ () ⟨e4,hB,d0,h7,g0,h0,i0⟩ ⟨rfl,rfl,rfl,rfl,rfl,trivial⟩ (fun _ _=>⟨rfl,rfl⟩) (fun _ _=>⟨rfl,trivial⟩) (fun _ _ _ ⟨O',hB,d0,h7,g0,h0,i0⟩=>⟨O',hB⟩) ⟨rfl,rfl,rfl⟩ ⟨rfl,rfl⟩ ?_)
  rintro k2 q0 p1 j2 s5 f4 t1 ⟨g4,hB,d0,h7,g0,h0,i0⟩ z0 v2 w2
  have rk52:inI64 (k2:Int):=rngK t1 t2
  refine Al (Aj ?_)
  obtain ⟨t5,u5,h4,x2,y2,z2,w5,x5,rfl,i1,s0,y5,z5⟩:=i0.elem' t1
  obtain ⟨a3,b3,rfl⟩:=i1.form
  obtain ⟨u1,v1,rfl⟩:=s0.form
  refine Bo (hA:=x2) (hj:=rfl) (hlt:=y2) rfl rfl rfl ?_
  refine Bk (hl:=rfl) (hc:=z2) rfl rfl ?_
  refine Ch 3 g4 rfl fun c3 a6 l2 j0 j1=>?_
  refine Br j1 rfl rfl rfl (BN rfl) (allOne rfl) fun m2 k0 j1=>?_
  replace j1:Lc 3 m2 l2 c3 61 [(.string q0.name),(.int .i64 q0.cost),(.slice a3 q0.pre.length b3),(.slice u1 q0.effs.length v1)]:=j1
  refine o_z ?_
  refine Al ?_
  obtain ⟨i4,m0,z0⟩:=bs z0
  refine AJ (fun l' w'=>∃ (j4:Unit) (O':Lab),subs l' [(1,(.pointer (some ⟨g1,0,none⟩))),(3,(.bool i4)),(5,(.pointer (some ⟨c3,0,none⟩))),(23,(.slice u0 x0.ops.length v0)),(24,(.int .i64 (x0.ops.length:Int))),(25,(.int .i64 (k2:Int)))]∧Bs w A w' O'∧Lc 2 w' O' g1 26 [(.slice A8 x0.vars.length c9),(.slice c1 x0.init.length d1),(.slice e1 x0.goal.length f1),(.slice u0 x0.ops.length v0)]∧Vb w' (Fr 0 w' O') (.slice A8 x0.vars.length c9) x0.vars∧Vb w' (Fr 0 w' O') (.slice c1 x0.init.length d1) x0.init∧Vb w' (Fr 0 w' O') (.slice e1 x0.goal.length f1) x0.goal∧Vb w' (Fr 0 w' O') (.slice u0 x0.ops.length v0) x0.ops∧Lc 3 w' O' c3 61 [(.string q0.name),(.int .i64 q0.cost),(.slice a3 q0.pre.length b3),(.slice u1 q0.effs.length v1)]∧Vb w' (Fr 0 w' O') (.slice a3 q0.pre.length b3) q0.pre∧Vb w' (Fr 0 w' O') (.slice u1 q0.effs.length v1) q0.effs) ?_ ?_
  ·
   refine Aj (Am rfl rfl (Am rfl rfl ?_))
   rcases Bool.eq_false_or_eq_true p1 with w1|w1
   ·
    try rw [w1]
    replace m0:=ip m0 w1
    refine At rfl rfl rfl rfl (At rfl rfl rfl rfl (At rfl rfl rfl rfl (At rfl rfl rfl rfl (At rfl rfl rfl rfl (At rfl rfl rfl rfl (AY rfl rfl rfl (An rfl rfl (o_z ?_))))))))
    obtain rfl:=sm m0
    exact ⟨(),_,⟨rfl,rfl,rfl,rfl,rfl,rfl,trivial⟩,(hB.st j0).st k0,(d0.st j0).st k0,(h7.st j0).st k0,(g0.st j0).st k0,(h0.st j0).st k0,(i0.st j0).st k0,j1,(i1.st j0).st k0,(s0.st j0).st k0⟩
   try rw [w1]
   replace m0:=im' m0 w1
   refine Aw rfl rfl (AE rfl rfl (Aw rfl rfl ?_))
   replace d0:=(d0.st j0).st k0
   refine AC (hc:=Blk.cell (i:=0) (d0.1) rfl) rfl rfl ?_
   refine Aw rfl rfl (AE rfl rfl (Aw rfl rfl (AC (hc:=Blk.cell (i:=2) (j1.1) rfl) rfl rfl ?_)))
   refine Aw rfl rfl ?_
   obtain ⟨t3,k4,m0⟩:=bs m0
   replace h7:=(h7.st j0).st k0
   replace i1:=(i1.st j0).st k0
   refine AV (O:=l2) (A:=All m2) (R:=fun w' F v=>Vb w' F v t3) (Fw (fun _ h=>h) (Vb.mono (F:=Fr 0 m2 l2) h7 Fr.lt) (Vb.mono (F:=Fr 0 m2 l2) i1 Fr.lt) k4) rfl rfl fun b6 c6 d6 r0 l4=>?_
   obtain rfl:=l4.bool
   cases t3
   case false =>
    replace m0:=iF m0
    refine Aw rfl rfl (Cq rfl rfl (AQ rfl rfl rfl (An rfl rfl (o_z ?_))))
    obtain rfl:=sm m0
    exact ⟨(),_,⟨rfl,rfl,rfl,rfl,rfl,rfl,trivial⟩,((hB.st j0).st k0).st r0,d0.st r0,h7.st r0,((g0.st j0).st k0).st r0,((h0.st j0).st k0).st r0,((i0.st j0).st k0).st r0,j1.st r0,i1.st r0,((s0.st j0).st k0).st r0⟩
   replace m0:=iT m0
   refine Aw rfl rfl (Cp rfl rfl (AQ rfl rfl rfl (An rfl rfl (o_z ?_))))
   obtain rfl:=sm m0
   exact ⟨(),_,⟨rfl,rfl,rfl,rfl,rfl,rfl,trivial⟩,((hB.st j0).st k0).st r0,d0.st r0,h7.st r0,((g0.st j0).st k0).st r0,((h0.st j0).st k0).st r0,((i0.st j0).st k0).st r0,j1.st r0,i1.st r0,((s0.st j0).st k0).st r0⟩
  replace hB:=(hB.st j0).st k0
  replace h7:=(h7.st j0).st k0
  replace g0:=(g0.st j0).st k0
  replace h0:=(h0.st j0).st k0
  replace i0:=(i0.st j0).st k0
  replace d0:=(d0.st j0).st k0
  replace i1:=(i1.st j0).st k0
  replace s0:=(s0.st j0).st k0
  rintro e6 m4 ⟨j4,d3,x1,hB,d0,h7,g0,h0,i0,j1,i1,s0⟩
  refine AN _ x1 ?_
  refine Al (Aj (AE rfl rfl (AC (hc:=Blk.cell (i:=3) (j1.1) rfl) rfl rfl ?_)))
  refine AP rfl rfl ?_
  have q1:q0.effs.length≤9223372036854775807:=Nat.le_trans s0.len.2.1 s0.len.2.2
  have n4:inI64 (q0.effs.length:Int):=rngNat q1
  refine Am rfl rfl (o_z ?_)
  obtain ⟨r1,y1,z0⟩:=bs z0
  refine AJ (aft r1 (fun (a1:Bool) (k1:Unit)=>[(1,(.pointer (some ⟨g1,0,none⟩))),(3,(.bool a1)),(23,(.slice u0 x0.ops.length v0)),(24,(.int .i64 (x0.ops.length:Int))),(25,(.int .i64 (k2:Int)))]) (fun a1 k1 w'=>∃ O':Lab,Bs w A w' O'∧Lc 2 w' O' g1 26 [(.slice A8 x0.vars.length c9),(.slice c1 x0.init.length d1),(.slice e1 x0.goal.length f1),(.slice u0 x0.ops.length v0)]∧Vb w' (Fr 0 w' O') (.slice A8 x0.vars.length c9) x0.vars∧Vb w' (Fr 0 w' O') (.slice c1 x0.init.length d1) x0.init∧Vb w' (Fr 0 w' O') (.slice e1 x0.goal.length f1) x0.goal∧Vb w' (Fr 0 w' O') (.slice u0 x0.ops.length v0) x0.ops)) ?_ ?_
  ·
   refine AM (By (σ:=Bool) (X:=Unit) (q0.effs.length) y1 rfl q1 (fun (a1:Bool) (k1:Unit)=>[(1,(.pointer (some ⟨g1,0,none⟩))),(3,(.bool a1)),(23,(.slice u0 x0.ops.length v0)),(24,(.int .i64 (x0.ops.length:Int))),(25,(.int .i64 (k2:Int))),(39,(.slice u1 q0.effs.length v1))]) _ (fun a1 k1 w'=>∃ O':Lab,Bs w A w' O'∧Lc 2 w' O' g1 26 [(.slice A8 x0.vars.length c9),(.slice c1 x0.init.length d1),(.slice e1 x0.goal.length f1),(.slice u0 x0.ops.length v0)]∧Vb w' (Fr 0 w' O') (.slice A8 x0.vars.length c9) x0.vars∧Vb w' (Fr 0 w' O') (.slice c1 x0.init.length d1) x0.init∧Vb w' (Fr 0 w' O') (.slice e1 x0.goal.length f1) x0.goal∧Vb w' (Fr 0 w' O') (.slice u0 x0.ops.length v0) x0.ops∧Vb w' (Fr 0 w' O') (.slice u1 q0.effs.length v1) q0.effs) _ () ⟨d3,hB,d0,h7,g0,h0,i0,s0⟩ ⟨rfl,rfl,rfl,rfl,rfl,rfl,rfl,rfl,trivial⟩ (fun _ _=>⟨rfl,rfl⟩) (fun _ _=>⟨rfl,rfl,rfl,rfl,rfl,trivial⟩) (fun _ _ _ ⟨O',hB,d0,h7,g0,h0,i0,s0⟩=>⟨O',hB,d0,h7,g0,h0,i0⟩) ⟨rfl,rfl,rfl⟩ ⟨rfl,rfl⟩ ?_)
   rintro e3 o0 a1 k1 o4 u3 o1 ⟨f3,hB,d0,h7,g0,h0,i0,s0⟩ a0 n2 o2
   have rk109:inI64 (e3:Int):=rngK o1 q1
   refine Al (Aj ?_)
   obtain ⟨p4,q4,w3,z1,a2,b2,r4,rfl,l1,g3,h3⟩:=s0.elem' o1
   obtain ⟨i3,j3,rfl⟩:=l1.form
   refine Bo (hA:=z1) (hj:=rfl) (hlt:=a2) rfl rfl rfl ?_
   refine Bk (hl:=rfl) (hc:=b2) rfl rfl ?_
   refine Ch 4 f3 rfl fun k3 s4 m1 b0 p0=>?_
   refine Br p0 rfl rfl rfl (BN rfl) (allOne rfl) fun n1 c0 p0=>?_
   replace p0:Lc 4 n1 m1 k3 76 [(.slice i3 o0.cond.length j3),(.int .i64 o0.var),(.int .i64 o0.val)]:=p0
   refine o_z ?_
   refine Aj (Am rfl rfl (Am rfl rfl ?_))
   rcases Bool.eq_false_or_eq_true a1 with h1|h1
   ·
    try rw [h1]
    replace a0:=ip a0 h1
    refine At rfl rfl rfl rfl (At rfl rfl rfl rfl (At rfl rfl rfl rfl (At rfl rfl rfl rfl (At rfl rfl rfl rfl (At rfl rfl rfl rfl (AY rfl rfl rfl (Am rfl rfl (At rfl rfl rfl rfl (At rfl rfl rfl rfl (At rfl rfl rfl rfl (At rfl rfl rfl rfl (At rfl rfl rfl rfl (At rfl rfl rfl rfl (At rfl rfl rfl rfl ?_))))))))))))))
    refine At rfl rfl rfl rfl (At rfl rfl rfl rfl (At rfl rfl rfl rfl (AY rfl rfl rfl (An rfl rfl (o_z ?_)))))
    obtain rfl:=sm a0
    exact show Exists _ from ⟨_,(),rfl,⟨rfl,rfl,rfl,rfl,rfl,rfl,rfl,rfl,trivial⟩,_,(hB.st b0).st c0,(d0.st b0).st c0,(h7.st b0).st c0,(g0.st b0).st c0,(h0.st b0).st c0,(i0.st b0).st c0,(s0.st b0).st c0⟩
   try rw [h1]
   replace a0:=im' a0 h1
   refine Aw rfl rfl (AE rfl rfl (Aw rfl rfl ?_))
   replace d0:=(d0.st b0).st c0
   refine AC (hc:=Blk.cell (i:=0) (d0.1) rfl) rfl rfl ?_
   refine Aw rfl rfl (AE rfl rfl (Aw rfl rfl (AC (hc:=Blk.cell (i:=0) (p0.1) rfl) rfl rfl ?_)))
   refine Aw rfl rfl ?_
   obtain ⟨c2,l3,a0⟩:=bs a0
   replace h7:=(h7.st b0).st c0
   replace l1:=(l1.st b0).st c0
   refine AV (O:=m1) (A:=All n1) (R:=fun w' F v=>Vb w' F v c2) (Fw (fun _ h=>h) (Vb.mono (F:=Fr 0 n1 m1) h7 Fr.lt) (Vb.mono (F:=Fr 0 n1 m1) l1 Fr.lt) l3) rfl rfl fun t4 u4 m3 e0 n3=>?_
   obtain rfl:=n3.bool
   cases c2
   case false =>
    replace a0:=iF a0
    refine Aw rfl rfl (Cq rfl rfl (AQ rfl rfl rfl (Am rfl rfl (At rfl rfl rfl rfl (At rfl rfl rfl rfl (At rfl rfl rfl rfl (At rfl rfl rfl rfl (At rfl rfl rfl rfl (At rfl rfl rfl rfl (At rfl rfl rfl rfl (At rfl rfl rfl rfl (At rfl rfl rfl rfl (At rfl rfl rfl rfl (AY rfl rfl rfl ?_))))))))))))))
    refine An rfl rfl (o_z ?_)
    obtain rfl:=sm a0
    exact show Exists _ from ⟨_,(),rfl,⟨rfl,rfl,rfl,rfl,rfl,rfl,rfl,rfl,trivial⟩,_,((hB.st b0).st c0).st e0,d0.st e0,h7.st e0,((g0.st b0).st c0).st e0,((h0.st b0).st c0).st e0,((i0.st b0).st c0).st e0,((s0.st b0).st c0).st e0⟩
   replace a0:=iT a0
   refine Aw rfl rfl (Cp rfl rfl (AQ rfl rfl rfl (Am rfl rfl (Aw rfl rfl (AE rfl rfl (Aw rfl rfl ?_))))))
   replace d0:=d0.st e0
   refine AC (hc:=Blk.cell (i:=0) (d0.1) rfl) rfl rfl ?_
   refine Aw rfl rfl (AE rfl rfl (Aw rfl rfl ?_))
   replace p0:=p0.st e0
   refine AC (hc:=Blk.cell (i:=1) (p0.1) rfl) rfl rfl ?_
   refine Aw rfl rfl (AE rfl rfl (Aw rfl rfl (AC (hc:=Blk.cell (i:=2) (p0.1) rfl) rfl rfl ?_)))
   refine Aw rfl rfl (EC rfl rfl rfl ?_)
   refine Aw rfl rfl (BX 5 (by decide) m3 (xs:=([(⟨o0.var,o0.val⟩:Fct)]:List Fct)) rfl rfl rfl rfl ⟨(Vb.ofAgg (cs:=[(.int .i64 o0.var),(.int .i64 o0.val)]) (x:=(⟨o0.var,o0.val⟩:Fct)) rfl ⟨rfl,g3,h3⟩),trivial⟩ (by decide) (by decide) rfl fun w4 d2 e2 n0 o3=>?_)
   refine Aw rfl rfl ?_
   obtain ⟨f2,p3,a0⟩:=bs a0
   replace h7:=(h7.st e0).st n0
   refine AV (O:=e2) (A:=All d2) (R:=fun w' F v=>Vb w' F v f2) (Fw (fun _ h=>h) (Vb.mono (F:=Fr 0 d2 e2) h7 Fr.lt) (o3).all p3) rfl rfl fun x4 y4 z4 l0 q3=>?_
   obtain rfl:=q3.bool
   cases f2
   case false =>
    replace a0:=iF a0
    refine Aw rfl rfl (Cq rfl rfl (AQ rfl rfl rfl (An rfl rfl (o_z ?_))))
    obtain rfl:=sm a0
    exact show Exists _ from ⟨_,(),rfl,⟨rfl,rfl,rfl,rfl,rfl,rfl,rfl,rfl,trivial⟩,_,((((hB.st b0).st c0).st e0).st n0).st l0,(d0.st n0).st l0,h7.st l0,((((g0.st b0).st c0).st e0).st n0).st l0,((((h0.st b0).st c0).st e0).st n0).st l0,((((i0.st b0).st c0).st e0).st n0).st l0,((((s0.st b0).st c0).st e0).st n0).st l0⟩
   replace a0:=iT a0
   refine Aw rfl rfl (Cp rfl rfl (AQ rfl rfl rfl (An rfl rfl (o_z ?_))))
   obtain rfl:=sm a0
   exact show Exists _ from ⟨_,(),rfl,⟨rfl,rfl,rfl,rfl,rfl,rfl,rfl,rfl,trivial⟩,_,((((hB.st b0).st c0).st e0).st n0).st l0,(d0.st n0).st l0,h7.st l0,((((g0.st b0).st c0).st e0).st n0).st l0,((((h0.st b0).st c0).st e0).st n0).st l0,((((i0.st b0).st c0).st e0).st n0).st l0,((((s0.st b0).st c0).st e0).st n0).st l0⟩
  rintro a5 b5 ⟨c5,d5,rfl,t0,e5,hB,d0,h7,g0,h0,i0⟩
  replace z0:=AX z0
  obtain rfl:=sm z0
  exact show Exists _ from ⟨_,(),rfl,⟨(Bn t0 _ _ rfl),(Bn t0 _ _ rfl),(Bn t0 _ _ rfl),(Bn t0 _ _ rfl),(Bn t0 _ _ rfl),trivial⟩,_,hB,d0,h7,g0,h0,i0⟩
 rintro f5 g5 ⟨h5,i5,rfl,g2,j5,hB⟩
 replace hm:=AX hm
 refine AN _ g2 ?_
 refine Al (Aj (Am rfl rfl (An rfl rfl (o_z ?_))))
 refine AG ?_
 obtain rfl:=sm hm
 exact ret1v rfl (Az rfl) ⟨hB.ext,vBool⟩
noncomputable def DS (x0:Tsk):Option Bool :=
  bnd (rng (ρ:=Bool) (fun (k30:Nat) (a31:Opr) (s28:Bool)=>bnd (if s28=true then (some true) else (if 256 < (a31.name.size:Int) then (some true) else (some false)):Option Bool) fun y65=>bnd (rngN (ρ:=Ctl Bool Bool) (fun (k81:Nat) (s79:Bool)=>if s79=true then (some (.next true)) else (bnd (bytI a31.name (k81:Int)) fun n93=>if n93 < 32 then (some (.next true)) else (bnd (bytI a31.name (k81:Int)) fun n97=>if 126 < n97 then (some (.next true)) else (some (.next false))))) a31.name.size y65) fun res77=>fin res77 fun (s105:Bool)=>some (.next s105)) x0.ops 0 false) fun res26=>fin res26 fun (s111:Bool)=>some s111
theorem JY {w:World} {A:Nat→Prop} (hA:∀ k,A k→k < w.heap.size) {vx0:Value} {x0:Tsk} (f1:Vb w A vx0 x0) {r:Bool} (hm:DS x0=some r) :
    Fn Tryz.prog 77 [vx0] w fun v w'=>Ext w w'∧Vb w' (upA A w w') v r:=by
 obtain ⟨O,hB,b2⟩:=enter hA
 replace f1:=f1.mono b2
 obtain ⟨e3,rfl,v3,v4,v5,v6,rfl,h7,c2,d2,b0⟩:=f1
 obtain ⟨A8,c9,rfl⟩:=h7.form
 obtain ⟨e2,f2,rfl⟩:=c2.form
 obtain ⟨g2,h2,rfl⟩:=d2.form
 obtain ⟨l0,m0,rfl⟩:=b0.form
 refine AH Tryz.func77 rfl Tryz.ntmps77 rfl ?_
 unfold DS at hm
 refine Al (Aj (Dc 2 O rfl rfl fun i2 j2 w1 g1 h1=>?_))
 replace h1:Lc 2 j2 w1 i2 26 [(.slice A8 x0.vars.length c9),(.slice e2 x0.init.length f2),(.slice g2 x0.goal.length h2),(.slice l0 x0.ops.length m0)]:=h1
 refine An rfl rfl (o_z ?_)
 refine Al (Aj (An rfl rfl (o_z ?_)))
 refine Al (Al (Aj (AE rfl rfl (AC (hc:=Blk.cell (i:=3) (h1.1) rfl) rfl rfl ?_))))
 refine AP rfl rfl ?_
 replace b0:=b0.st g1
 have i1:x0.ops.length≤9223372036854775807:=Nat.le_trans b0.len.2.1 b0.len.2.2
 have f3:inI64 (x0.ops.length:Int):=rngNat i1
 refine Am rfl rfl (o_z ?_)
 obtain ⟨q0,j1,hm⟩:=bs hm
 refine AJ (aft q0 (fun (n0:Bool) (c1:Unit)=>[(3,(.bool n0))]) (fun n0 c1 w'=>∃ O':Lab,Bs w A w' O')) ?_ ?_
 ·
  refine AM ?_
  replace hB:=hB.st g1
  refine By (σ:=Bool) (X:=Unit) (x0.ops.length) j1 rfl i1 (fun (n0:Bool) (c1:Unit)=>[(3,(.bool n0)),(8,(.slice l0 x0.ops.length m0))]) _ (fun n0 c1 w'=>∃ O':Lab,Bs w A w' O'∧Vb w' (Fr 0 w' O') (.slice l0 x0.ops.length m0) x0.ops) _ () ⟨w1,hB,b0⟩ ⟨rfl,rfl,rfl,rfl,trivial⟩ (fun _ _=>⟨rfl,rfl⟩) (fun _ _=>⟨rfl,trivial⟩) (fun _ _ _ ⟨O',hB,b0⟩=>⟨O',hB⟩) ⟨rfl,rfl,rfl⟩ ⟨rfl,rfl⟩ ?_
  rintro d1 c0 n0 c1 g3 k2 r0 ⟨l2,hB,b0⟩ h0 k1 l1
  have rk30:inI64 (d1:Int):=rngK r0 i1
  refine Al (Aj ?_)
  obtain ⟨h3,i3,m2,m1,n1,o1,j3,k3,rfl,i0,j0,l3,x1⟩:=b0.elem' r0
  obtain ⟨s0,t0,rfl⟩:=i0.form
  obtain ⟨u0,v0,rfl⟩:=j0.form
  refine Bo (hA:=m1) (hj:=rfl) (hlt:=n1) rfl rfl rfl ?_
  refine Bk (hl:=rfl) (hc:=o1) rfl rfl ?_
  refine Ch 3 l2 rfl fun w0 m3 n2 f0 e0=>?_
  refine Br e0 rfl rfl rfl (BN rfl) (allOne rfl) fun o2 g0 e0=>?_
  replace e0:Lc 3 o2 n2 w0 61 [(.string c0.name),(.int .i64 c0.cost),(.slice s0 c0.pre.length t0),(.slice u0 c0.effs.length v0)]:=e0
  refine o_z ?_
  refine Al ?_
  obtain ⟨p2,d0,h0⟩:=bs h0
  refine AJ (fun l' w'=>∃ (q2:Unit) (O':Lab),subs l' [(3,(.bool p2)),(5,(.pointer (some ⟨w0,0,none⟩))),(8,(.slice l0 x0.ops.length m0)),(9,(.int .i64 (x0.ops.length:Int))),(10,(.int .i64 (d1:Int)))]∧Bs w A w' O'∧Lc 3 w' O' w0 61 [(.string c0.name),(.int .i64 c0.cost),(.slice s0 c0.pre.length t0),(.slice u0 c0.effs.length v0)]∧Vb w' (Fr 0 w' O') (.slice s0 c0.pre.length t0) c0.pre∧Vb w' (Fr 0 w' O') (.slice u0 c0.effs.length v0) c0.effs∧Vb w' (Fr 0 w' O') (.slice l0 x0.ops.length m0) x0.ops) ?_ ?_
  ·
   refine Aj (Am rfl rfl (Am rfl rfl ?_))
   rcases Bool.eq_false_or_eq_true n0 with y0|y0
   ·
    try rw [y0]
    replace d0:=ip d0 y0
    refine At rfl rfl rfl rfl (At rfl rfl rfl rfl (At rfl rfl rfl rfl (At rfl rfl rfl rfl (AY rfl rfl rfl (An rfl rfl (o_z ?_))))))
    obtain rfl:=sm d0
    exact ⟨(),_,⟨rfl,rfl,rfl,rfl,rfl,trivial⟩,(hB.st f0).st g0,e0,(i0.st f0).st g0,(j0.st f0).st g0,(b0.st f0).st g0⟩
   try rw [y0]
   replace d0:=im' d0 y0
   refine Aw rfl rfl (AE rfl rfl (Aw rfl rfl (AC (hc:=Blk.cell (i:=0) (e0.1) rfl) rfl rfl ?_)))
   refine Aw rfl rfl (JO rfl rfl ?_)
   have n3:inI64 (c0.name.size:Int):=rngNat x1
   refine Aw rfl rfl (BS rfl rfl rfl (fun p1=>?_) fun p1=>?_)
   ·
    replace d0:=ip d0 p1
    refine AQ rfl rfl rfl (An rfl rfl (o_z ?_))
    obtain rfl:=sm d0
    exact ⟨(),_,⟨rfl,rfl,rfl,rfl,rfl,trivial⟩,(hB.st f0).st g0,e0,(i0.st f0).st g0,(j0.st f0).st g0,(b0.st f0).st g0⟩
   replace d0:=im d0 p1
   refine AQ rfl rfl rfl (An rfl rfl (o_z ?_))
   obtain rfl:=sm d0
   exact ⟨(),_,⟨rfl,rfl,rfl,rfl,rfl,trivial⟩,(hB.st f0).st g0,e0,(i0.st f0).st g0,(j0.st f0).st g0,(b0.st f0).st g0⟩
  replace hB:=(hB.st f0).st g0
  replace b0:=(b0.st f0).st g0
  replace i0:=(i0.st f0).st g0
  replace j0:=(j0.st f0).st g0
  rintro o3 p3 ⟨q2,r2,q1,hB,e0,i0,j0,b0⟩
  refine AN _ q1 ?_
  refine Al (Aj (AE rfl rfl (AC (hc:=Blk.cell (i:=0) (e0.1) rfl) rfl rfl ?_)))
  refine JO rfl rfl ?_
  have y1:inI64 (c0.name.size:Int):=rngNat x1
  refine Am rfl rfl (o_z ?_)
  obtain ⟨z0,r1,h0⟩:=bs h0
  refine AJ (aft z0 (fun (o0:Bool) (e1:Unit)=>[(3,(.bool o0)),(8,(.slice l0 x0.ops.length m0)),(9,(.int .i64 (x0.ops.length:Int))),(10,(.int .i64 (d1:Int)))]) (fun o0 e1 w'=>∃ O':Lab,Bs w A w' O'∧Vb w' (Fr 0 w' O') (.slice l0 x0.ops.length m0) x0.ops)) ?_ ?_
  ·
   refine AM (HV (σ:=Bool) (X:=Unit) (c0.name.size) r1 (rngNat' y1) (fun (o0:Bool) (e1:Unit)=>[(3,(.bool o0)),(5,(.pointer (some ⟨w0,0,none⟩))),(8,(.slice l0 x0.ops.length m0)),(9,(.int .i64 (x0.ops.length:Int))),(10,(.int .i64 (d1:Int)))]) _ (fun o0 e1 w'=>∃ O':Lab,Bs w A w' O'∧Lc 3 w' O' w0 61 [(.string c0.name),(.int .i64 c0.cost),(.slice s0 c0.pre.length t0),(.slice u0 c0.effs.length v0)]∧Vb w' (Fr 0 w' O') (.slice s0 c0.pre.length t0) c0.pre∧Vb w' (Fr 0 w' O') (.slice u0 c0.effs.length v0) c0.effs∧Vb w' (Fr 0 w' O') (.slice l0 x0.ops.length m0) x0.ops) _ () ⟨r2,hB,e0,i0,j0,b0⟩ ⟨rfl,rfl,rfl,rfl,rfl,rfl,rfl,trivial⟩ (fun _ _=>⟨rfl,rfl⟩) (fun _ _=>⟨rfl,rfl,rfl,rfl,trivial⟩) (fun _ _ _ ⟨O',hB,e0,i0,j0,b0⟩=>⟨O',hB,b0⟩) ⟨rfl,rfl,rfl⟩ ⟨rfl,rfl⟩ ?_)
   rintro s2 o0 e1 q3 t2 s1 ⟨r3,hB,e0,i0,j0,b0⟩ a0 t1 u1
   have rk81:inI64 (s2:Int):=rngKN s1 (rngNat' y1)
   refine Al (Aj (Am rfl rfl (An rfl rfl (o_z ?_))))
   refine Aj (Am rfl rfl (Am rfl rfl ?_))
   rcases Bool.eq_false_or_eq_true o0 with a1|a1
   ·
    try rw [a1]
    replace a0:=ip a0 a1
    refine At rfl rfl rfl rfl (At rfl rfl rfl rfl (At rfl rfl rfl rfl (At rfl rfl rfl rfl (At rfl rfl rfl rfl (AY rfl rfl rfl (Am rfl rfl (At rfl rfl rfl rfl (At rfl rfl rfl rfl (At rfl rfl rfl rfl (At rfl rfl rfl rfl (At rfl rfl rfl rfl (AY rfl rfl rfl (An rfl rfl (o_z ?_))))))))))))))
    obtain rfl:=sm a0
    exact show Exists _ from ⟨_,(),rfl,⟨rfl,rfl,rfl,rfl,rfl,rfl,rfl,trivial⟩,_,hB,e0,i0,j0,b0⟩
   try rw [a1]
   replace a0:=im' a0 a1
   refine Aw rfl rfl (AE rfl rfl (Aw rfl rfl (AC (hc:=Blk.cell (i:=0) (e0.1) rfl) rfl rfl ?_)))
   refine Aw rfl rfl (Am rfl rfl (Aw rfl rfl ?_))
   obtain ⟨s3,z1,a0⟩:=bs a0
   have t3:=LX z1
   refine PG (he:=z1) rfl rfl rfl ?_
   refine Aw rfl rfl (Dx rfl rfl rfl (fun v1=>?_) fun v1=>?_)
   ·
    replace a0:=ip a0 v1
    refine AQ rfl rfl rfl (Am rfl rfl (At rfl rfl rfl rfl (At rfl rfl rfl rfl (At rfl rfl rfl rfl (At rfl rfl rfl rfl (At rfl rfl rfl rfl (AY rfl rfl rfl (An rfl rfl (o_z ?_)))))))))
    obtain rfl:=sm a0
    exact show Exists _ from ⟨_,(),rfl,⟨rfl,rfl,rfl,rfl,rfl,rfl,rfl,trivial⟩,_,hB,e0,i0,j0,b0⟩
   replace a0:=im a0 v1
   refine AQ rfl rfl rfl (Am rfl rfl (Aw rfl rfl (AE rfl rfl (Aw rfl rfl (AC (hc:=Blk.cell (i:=0) (e0.1) rfl) rfl rfl ?_)))))
   refine Aw rfl rfl (Am rfl rfl (Aw rfl rfl ?_))
   obtain ⟨u3,a2,a0⟩:=bs a0
   have w3:=LX a2
   refine PG (he:=a2) rfl rfl rfl ?_
   refine Aw rfl rfl (BS rfl rfl rfl (fun p0=>?_) fun p0=>?_)
   ·
    replace a0:=ip a0 p0
    refine AQ rfl rfl rfl (An rfl rfl (o_z ?_))
    obtain rfl:=sm a0
    exact show Exists _ from ⟨_,(),rfl,⟨rfl,rfl,rfl,rfl,rfl,rfl,rfl,trivial⟩,_,hB,e0,i0,j0,b0⟩
   replace a0:=im a0 p0
   refine AQ rfl rfl rfl (An rfl rfl (o_z ?_))
   obtain rfl:=sm a0
   exact show Exists _ from ⟨_,(),rfl,⟨rfl,rfl,rfl,rfl,rfl,rfl,rfl,trivial⟩,_,hB,e0,i0,j0,b0⟩
  rintro u2 v2 ⟨w2,x2,rfl,k0,y2,hB,b0⟩
  replace h0:=AX h0
  obtain rfl:=sm h0
  exact show Exists _ from ⟨_,(),rfl,⟨(Bn k0 _ _ rfl),(Bn k0 _ _ rfl),(Bn k0 _ _ rfl),(Bn k0 _ _ rfl),trivial⟩,_,hB,b0⟩
 replace hB:=hB.st g1
 rintro z2 a3 ⟨b3,c3,rfl,b1,d3,hB⟩
 replace hm:=AX hm
 refine AN _ b1 ?_
 refine Al (Aj (Am rfl rfl (An rfl rfl (o_z ?_))))
 refine AG ?_
 obtain rfl:=sm hm
 exact ret1v rfl (Az rfl) ⟨hB.ext,vBool⟩
noncomputable def EI (x0:Tsk):Option Int :=
  bnd (EH x0) fun q24=>if q24=true then some 5 else bnd (Eg x0) fun q31=>if q31=true then some 1 else bnd (DF x0) fun q38=>if q38=true then some 2 else bnd (DS x0) fun q45=>if q45=true then some 8 else some 0
theorem LA {w:World} {A:Nat→Prop} (hA:∀ k,A k→k < w.heap.size) {vx0:Value} {x0:Tsk} (o0:Vb w A vx0 x0) {r:Int} (hm:EI x0=some r) :
    Fn Tryz.prog 35 [vx0] w fun v w'=>Ext w w'∧Vb w' (upA A w w') v r:=by
 obtain ⟨O,hB,d1⟩:=enter hA
 replace o0:=o0.mono d1
 obtain ⟨n1,rfl,v3,v4,v5,v6,rfl,h7,a0,b0,c0⟩:=o0
 obtain ⟨A8,c9,rfl⟩:=h7.form
 obtain ⟨i0,j0,rfl⟩:=a0.form
 obtain ⟨k0,l0,rfl⟩:=b0.form
 obtain ⟨m0,n0,rfl⟩:=c0.form
 refine AH Tryz.func35 rfl Tryz.ntmps35 rfl ?_
 unfold EI at hm
 refine Al (Aj (Dc 2 O rfl rfl fun e1 p0 q0 f0 d0=>?_))
 replace d0:Lc 2 p0 q0 e1 26 [(.slice A8 x0.vars.length c9),(.slice i0 x0.init.length j0),(.slice k0 x0.goal.length l0),(.slice m0 x0.ops.length n0)]:=d0
 refine An rfl rfl (o_z ?_)
 refine Al (AM (Al (Aj (Bk (hl:=rfl) (hc:=(d0.1).cellsAt) rfl rfl ?_))))
 obtain ⟨r0,f1,hm⟩:=bs hm
 replace h7:=h7.st f0
 replace a0:=a0.st f0
 replace b0:=b0.st f0
 replace c0:=c0.st f0
 refine AV (O:=q0) (A:=All p0) (R:=fun w' F v=>Vb w' F v r0) (Lz (fun _ h=>h) (Vb.mono (F:=Fr 0 p0 q0) (Vb.ofAgg (cs:=[(.slice A8 x0.vars.length c9),(.slice i0 x0.init.length j0),(.slice k0 x0.goal.length l0),(.slice m0 x0.ops.length n0)]) (x:=x0) rfl ⟨_,_,_,_,rfl,h7,a0,b0,c0⟩) Fr.lt) f1) rfl rfl fun o1 s0 t0 e0 g1=>?_
 obtain rfl:=g1.bool
 cases r0
 case false =>
  replace hm:=iF hm
  refine An rfl rfl (o_z ?_)
  refine Ae rfl (Al (Aj ?_))
  replace d0:=d0.st e0
  refine Bk (hl:=rfl) (hc:=(d0.1).cellsAt) rfl rfl ?_
  obtain ⟨u0,h1,hm⟩:=bs hm
  replace h7:=h7.st e0
  replace a0:=a0.st e0
  replace b0:=b0.st e0
  replace c0:=c0.st e0
  refine AV (O:=t0) (A:=All s0) (R:=fun w' F v=>Vb w' F v u0) (Kx (fun _ h=>h) (Vb.mono (F:=Fr 0 s0 t0) (Vb.ofAgg (cs:=[(.slice A8 x0.vars.length c9),(.slice i0 x0.init.length j0),(.slice k0 x0.goal.length l0),(.slice m0 x0.ops.length n0)]) (x:=x0) rfl ⟨_,_,_,_,rfl,h7,a0,b0,c0⟩) Fr.lt) h1) rfl rfl fun p1 v0 w0 g0 i1=>?_
  obtain rfl:=i1.bool
  cases u0
  case false =>
   replace hm:=iF hm
   refine An rfl rfl (o_z ?_)
   refine Ae rfl (Al (Aj ?_))
   replace d0:=d0.st g0
   refine Bk (hl:=rfl) (hc:=(d0.1).cellsAt) rfl rfl ?_
   obtain ⟨y0,j1,hm⟩:=bs hm
   replace h7:=h7.st g0
   replace a0:=a0.st g0
   replace b0:=b0.st g0
   replace c0:=c0.st g0
   refine AV (O:=w0) (A:=All v0) (R:=fun w' F v=>Vb w' F v y0) (Jx (fun _ h=>h) (Vb.mono (F:=Fr 0 v0 w0) (Vb.ofAgg (cs:=[(.slice A8 x0.vars.length c9),(.slice i0 x0.init.length j0),(.slice k0 x0.goal.length l0),(.slice m0 x0.ops.length n0)]) (x:=x0) rfl ⟨_,_,_,_,rfl,h7,a0,b0,c0⟩) Fr.lt) j1) rfl rfl fun q1 z0 a1 h0 k1=>?_
   obtain rfl:=k1.bool
   cases y0
   case false =>
    replace hm:=iF hm
    refine An rfl rfl (o_z ?_)
    refine Ae rfl (Al (Aj ?_))
    replace d0:=d0.st h0
    refine Bk (hl:=rfl) (hc:=(d0.1).cellsAt) rfl rfl ?_
    obtain ⟨b1,l1,hm⟩:=bs hm
    replace h7:=h7.st h0
    replace a0:=a0.st h0
    replace b0:=b0.st h0
    replace c0:=c0.st h0
    refine AV (O:=a1) (A:=All z0) (R:=fun w' F v=>Vb w' F v b1) (JY (fun _ h=>h) (Vb.mono (F:=Fr 0 z0 a1) (Vb.ofAgg (cs:=[(.slice A8 x0.vars.length c9),(.slice i0 x0.init.length j0),(.slice k0 x0.goal.length l0),(.slice m0 x0.ops.length n0)]) (x:=x0) rfl ⟨_,_,_,_,rfl,h7,a0,b0,c0⟩) Fr.lt) l1) rfl rfl fun r1 s1 t1 c1 m1=>?_
    obtain rfl:=m1.bool
    cases b1
    case false =>
     replace hm:=iF hm
     refine An rfl rfl (o_z ?_)
     refine Ae rfl (AI (Al (Aj (An rfl rfl (o_z ?_)))))
     refine AG ?_
     obtain rfl:=sm hm
     replace hB:=((((hB.st f0).st e0).st g0).st h0).st c1
     exact ret1v rfl (Az rfl) ⟨hB.ext,(vInt (show inI64 (0) from by decide))⟩
    replace hm:=iT hm
    refine An rfl rfl (o_z ?_)
    refine Ah rfl (Al (Aj (An rfl rfl (o_z ?_))))
    refine AG ?_
    obtain rfl:=sm hm
    replace hB:=((((hB.st f0).st e0).st g0).st h0).st c1
    exact ret1v rfl (Az rfl) ⟨hB.ext,(vInt (show inI64 (8) from by decide))⟩
   replace hm:=iT hm
   refine An rfl rfl (o_z ?_)
   refine Ah rfl (Al (Aj (An rfl rfl (o_z ?_))))
   refine AG ?_
   obtain rfl:=sm hm
   replace hB:=(((hB.st f0).st e0).st g0).st h0
   exact ret1v rfl (Az rfl) ⟨hB.ext,(vInt (show inI64 (2) from by decide))⟩
  replace hm:=iT hm
  refine An rfl rfl (o_z ?_)
  refine Ah rfl (Al (Aj (An rfl rfl (o_z ?_))))
  refine AG ?_
  obtain rfl:=sm hm
  replace hB:=((hB.st f0).st e0).st g0
  exact ret1v rfl (Az rfl) ⟨hB.ext,(vInt (show inI64 (1) from by decide))⟩
 replace hm:=iT hm
 refine An rfl rfl (o_z ?_)
 refine Ah rfl (Al (Aj (An rfl rfl (o_z ?_))))
 refine AG ?_
 obtain rfl:=sm hm
 replace hB:=(hB.st f0).st e0
 exact ret1v rfl (Az rfl) ⟨hB.ext,(vInt (show inI64 (5) from by decide))⟩
end
section
set_option linter.unusedVariables false
set_option linter.unusedSimpArgs false
open Go Go.RowKit
attribute [local irreducible] ewp owp hwp hwq hws Ev Evg Fn retPost loud loudS Res1
attribute [local irreducible] hwx loudX
noncomputable def CT  : Option Bool :=
  bnd (BQ (⟨([2]:List Int),([0]:List Int),([]:List Fct),[(⟨(⟨#[]⟩:ByteArray),0,([]:List Fct),[(⟨([]:List Fct),0,1⟩:Eff)]⟩:Opr)]⟩:Tsk) 5) fun q33=>bnd (if q33.2.n=0 then (if q33.1.isNone=false then (bnd q33.1 fun o53=>bnd (Du o53) fun q57=>if q57=2 then (some true) else (some false)) else (some false)) else (some false):Option Bool) fun y47=>some y47
theorem Ix {w:World} {A:Nat→Prop} (hA:∀ k,A k→k < w.heap.size)  {r:Bool} (hm:CT  = some r) :
    Fn Tryz.prog 11 [] w fun v w'=>Ext w w'∧Vb w' (upA A w w') v r:=by
 obtain ⟨O,hB,j1⟩:=enter hA
 refine AH Tryz.func11 rfl Tryz.ntmps11 rfl ?_
 unfold CT at hm
 refine Al (Aj (An rfl rfl (o_z ?_)))
 refine Al (Aj (BX 2 (by decide) O (xs:=(([2]:List Int):List Int)) rfl rfl rfl rfl ⟨(vInt (show inI64 (2) from by decide)),trivial⟩ (by decide) (by decide) rfl fun g1 w2 O3 S4 h5=>?_))
 refine BX 3 (by decide) O3 (xs:=(([0]:List Int):List Int)) rfl rfl rfl rfl ⟨(vInt (show inI64 (0) from by decide)),trivial⟩ (by decide) (by decide) rfl fun g7 w8 O9 i0 b0=>?_
 refine EC rfl rfl rfl ?_
 refine BX 4 (by decide) O9 (xs:=([(⟨([]:List Fct),0,1⟩:Eff)]:List Eff)) rfl rfl rfl rfl ⟨(Vb.ofAgg (cs:=[(.slice none 0 0),(.int .i64 0),(.int .i64 1)]) (x:=(⟨([]:List Fct),0,1⟩:Eff)) rfl ⟨_,rfl,(Vb.nil _ _),(show inI64 (0) from by decide),(show inI64 (1) from by decide)⟩),trivial⟩ (by decide) (by decide) rfl fun t0 k1 l1 c0 m0=>?_
 refine EC rfl rfl rfl ?_
 obtain ⟨u0,d0,m0⟩:=m0.freeze
 refine BX 5 (by decide) u0 (xs:=([(⟨(⟨#[]⟩:ByteArray),0,([]:List Fct),[(⟨([]:List Fct),0,1⟩:Eff)]⟩:Opr)]:List Opr)) rfl rfl rfl rfl ⟨(Vb.ofAgg (cs:=[(.string (⟨#[]⟩:ByteArray)),(.int .i64 0),(.slice none 0 0),(.slice (some ⟨t0,0,none⟩) [(⟨([]:List Fct),0,1⟩:Eff)].length 1)]) (x:=(⟨(⟨#[]⟩:ByteArray),0,([]:List Fct),[(⟨([]:List Fct),0,1⟩:Eff)]⟩:Opr)) rfl ⟨_,_,rfl,(Vb.nil _ _),m0,(show inI64 0 from by decide),(show (⟨#[]⟩:ByteArray).size≤9223372036854775807 from by decide)⟩),trivial⟩ (by decide) (by decide) rfl fun v0 m1 n1 e0 j0=>?_
 refine EC rfl rfl rfl ?_
 replace h5:=(((h5.st i0).st c0).st d0).st e0
 obtain ⟨o1,f0,h5⟩:=h5.freeze
 replace b0:=(((b0.st c0).st d0).st e0).st f0
 obtain ⟨p1,g0,b0⟩:=b0.freeze
 replace j0:=(j0.st f0).st g0
 obtain ⟨w0,h0,j0⟩:=j0.freeze
 obtain ⟨q1,x0,hm⟩:=bs hm
 replace h5:=(h5.st g0).st h0
 replace b0:=b0.st h0
 refine BH (O:=w0) (Fk (Vb.ofAgg (cs:=[(.slice (some ⟨g1,0,none⟩) ([2]:List Int).length 1),(.slice (some ⟨g7,0,none⟩) ([0]:List Int).length 1),(.slice none 0 0),(.slice (some ⟨v0,0,none⟩) [(⟨(⟨#[]⟩:ByteArray),0,([]:List Fct),[(⟨([]:List Fct),0,1⟩:Eff)]⟩:Opr)].length 1)]) (x:=(⟨([2]:List Int),([0]:List Int),([]:List Fct),[(⟨(⟨#[]⟩:ByteArray),0,([]:List Fct),[(⟨([]:List Fct),0,1⟩:Eff)]⟩:Opr)]⟩:Tsk)) rfl ⟨_,_,_,_,rfl,h5,b0,(Vb.nil _ _),j0⟩) (show inI64 (5) from by decide) 6 (by decide) x0) rfl rfl fun r1 s1 y0 k0 z0=>?_
 obtain ⟨t1,u1,rfl,l0,a1⟩:=z0
 obtain ⟨v1,rfl,n0⟩:=Obo.ptrq l0
 obtain ⟨rfl,w1⟩:=a1.err
 refine Am rfl rfl (AZ rfl rfl rfl (AZ rfl rfl rfl (An rfl rfl (An rfl rfl (o_z ?_)))))
 refine Al ?_
 obtain ⟨b1,a0,hm⟩:=bs hm
 refine AJ (fun l' w'=>∃ (c1:Unit) (O':Lab),subs l' [(0,(.bool b1))]∧Bs w A w' O') ?_ ?_
 ·
  refine Aj (Am rfl rfl (PH rfl rfl (fun o0=>?_) fun o0=>?_))
  ·
   replace a0:=ip a0 o0
   refine Am rfl rfl (Aw rfl rfl (Am rfl rfl (Aw rfl rfl (RL n0 rfl rfl (fun p0=>?_) fun p0=>?_))))
   ·
    replace a0:=ip a0 p0
    refine AY rfl rfl rfl (Am rfl rfl (Aw rfl rfl (Am rfl rfl (Aw rfl rfl ?_))))
    obtain ⟨x1,d1,a0⟩:=bs a0
    rw [d1] at l0
    obtain ⟨y1,e1⟩:=Ob.ptr l0
    obtain rfl:=MY e1
    obtain ⟨z1,f1,a0⟩:=bs a0
    refine BH (O:=y0) (ID l0 f1) rfl rfl fun a2 b2 c2 s0 h1=>?_
    obtain ⟨d2,i1⟩:=h1
    obtain ⟨rfl,e2⟩:=i1.int
    refine Aw rfl rfl (GG rfl rfl rfl (fun q0=>?_) fun q0=>?_)
    ·
     replace a0:=ip a0 q0
     refine AY rfl rfl rfl (An rfl rfl (o_z ?_))
     obtain rfl:=sm a0
     exact ⟨(),_,⟨rfl,trivial⟩,(((((((((hB.st S4).st i0).st c0).st d0).st e0).st f0).st g0).st h0).st k0).st s0⟩
    replace a0:=im a0 q0
    refine AY rfl rfl rfl (An rfl rfl (o_z ?_))
    obtain rfl:=sm a0
    exact ⟨(),_,⟨rfl,trivial⟩,(((((((((hB.st S4).st i0).st c0).st d0).st e0).st f0).st g0).st h0).st k0).st s0⟩
   replace a0:=im a0 p0
   refine AY rfl rfl rfl (Am rfl rfl (At rfl rfl rfl rfl (At rfl rfl rfl rfl (At rfl rfl rfl rfl (AQ rfl rfl rfl (An rfl rfl (o_z ?_)))))))
   obtain rfl:=sm a0
   exact ⟨(),_,⟨rfl,trivial⟩,((((((((hB.st S4).st i0).st c0).st d0).st e0).st f0).st g0).st h0).st k0⟩
  replace a0:=im a0 o0
  refine Am rfl rfl (At rfl rfl rfl rfl (At rfl rfl rfl rfl (AQ rfl rfl rfl (Am rfl rfl (At rfl rfl rfl rfl (At rfl rfl rfl rfl (At rfl rfl rfl rfl (AQ rfl rfl rfl (An rfl rfl (o_z ?_))))))))))
  obtain rfl:=sm a0
  exact ⟨(),_,⟨rfl,trivial⟩,((((((((hB.st S4).st i0).st c0).st d0).st e0).st f0).st g0).st h0).st k0⟩
 replace hB:=((((((((hB.st S4).st i0).st c0).st d0).st e0).st f0).st g0).st h0).st k0
 rintro f2 g2 ⟨c1,h2,r0,hB⟩
 refine AN _ r0 ?_
 refine AG ?_
 obtain rfl:=sm hm
 exact ret1v rfl (Az rfl) ⟨hB.ext,vBool⟩
end
end Go.Proofs.YtkbmbcblgdgjlaaGreat

/- Own text: what the proof of explorePerfect_holds uses, part 4: rules, models and their proofs, plain laws. -/
import Derived.Test.YtkbmbcblgdgjlaaGreatEFC
set_option linter.unusedVariables false
set_option linter.unusedSimpArgs false
namespace Go.Proofs.YtkbmbcblgdgjlaaGreat
open Go Go.RowKit
section
open Go Go.RowKit
structure Raw (a:Bool) (n:Nat) where
  cs:List Value
  len:cs.length=n
  one:∀ u∈cs,u.oneCell'=true
instance {a:Bool} {n:Nat}:Rp (Raw a n) where
  isAgg:=a
  size:=n
  R _ _ cs x:=cs=x.cs
  len:=by rintro _ _ cs x rfl;exact x.len
  one:=by rintro _ _ cs x rfl;exact x.one
  agree:=by rintro _ _ _ cs x rfl _;rfl
  mono:=by rintro _ _ _ cs x rfl _;rfl
class NestAt (α β:Type) [Rp α] [Rp β] where
  q:Nat
  get:α→List β
  put:α→List β→α
  get_put:∀ x y,get (put x y)=y
  put_put:∀ x y z,put (put x y) z=put x z
  split:∀ {w F cs x},Rp.R w F cs x→Rp.R w F (cs.set q (.slice none 0 0)) (put x [])∧∃ v,cs[q]?=some v∧Vb w F v (get x)
  join:∀ {w F cs x v},Rp.R w F (cs.set q (.slice none 0 0)) (put x [])→cs[q]?=some v→Vb w F v (get x)→Rp.R w F cs x
def Nest {α β:Type} [Rp α] [Rp β] [N:NestAt α β] {a:Bool} {n:Nat} (j:Nat) (w:World) (O:Lab) (e:TypeId) (rs:List (Raw a n)) (xs:List α) (skip:Option Nat):Prop :=
  (∃ L:Lab,rs.length=xs.length∧∀ (k:Nat) (r:Raw a n) (x:α),rs[k]?=some r→xs[k]?=some x →
    Rp.R w (Fr 0 w O) (r.cs.set N.q (.slice none 0 0)) (N.put x [])∧(skip≠some k→∃ v,r.cs[N.q]?=some v∧RwM w (Fr 0 w O) (fun b=>Fr j w O b∧L b=k) e v (N.get x)))∧j≠0
section
variable {α β : Type} [Rp α] [Rp β] [N : NestAt α β] {a : Bool} {n i j l : Nat} {T : Nat → Prop} {w w' : World} {O O' : Lab} {e : TypeId} {rs : List (Raw a n)} {xs : List α} {skip : Option Nat}
theorem Nest.st (h:Nest (β:=β) j w O e rs xs skip) (hS:St T w O w' O') (h0:¬ T 0:=by decide) (hj:¬ T j:=by decide):Nest (β:=β) j w' O' e rs xs skip:=by
  obtain ⟨⟨L,hl,hr⟩,h1⟩:=h
  refine ⟨⟨L,hl,fun k r x g1 g2=>⟨Rp.mono (Rp.agree (hr k r x g1 g2).1 (hS.agree h0)) (hS.fr h0),fun g3=>?_⟩⟩,h1⟩
  obtain ⟨v,hv,hm⟩:=(hr k r x g1 g2).2 g3
  exact ⟨v,hv,(hm.agree (hS.agree h0) fun b hb=>hS.agree hj b hb.1).mono (hS.fr h0) (fun b hb=>⟨hS.fr hj b hb.1,hb.2⟩) fun b hf hm=>frNe0 h1 b hf hm.1⟩
theorem Nest.take (h:Nest (β:=β) j w O e rs xs none) {k:Nat} {r:Raw a n} {x:α} (hr:rs[k]?=some r) (hx:xs[k]?=some x) (l:Nat) (hl:l≠0) (hlj:l≠j) :
    ∃ O' v,St (eT j) w O w O'∧r.cs[N.q]?=some v∧Nest (β:=β) j w O' e rs xs (some k)∧Rw l w O' e v (N.get x):=by
  obtain ⟨⟨L,hlen,hra⟩,hj⟩:=h
  obtain ⟨v,hv,hm⟩:=(hra k r x hr hx).2 (by simp)
  have hF:∀ b,Fr 0 w O b→Fr 0 w (fun b=>if O b=j∧L b=k then l else O b) b:=fun b hb=>⟨hb.1,by show (if _ then _ else _)=_;rw [if_neg (by rw [hb.2];exact fun h=>hj h.1.symm)];exact hb.2⟩
  refine ⟨fun b=>if O b=j∧L b=k then l else O b,v,⟨rfl,rfl,rfl,Nat.le_refl _,fun b _ hb=>⟨rfl,if_neg fun h=>hb h.1⟩⟩,hv,⟨⟨L,hlen,fun k' r' x' g1 g2=>⟨Rp.mono (hra k' r' x' g1 g2).1 hF,fun g3=>?_⟩⟩,hj⟩,hm.rw hF (fun b hb=>⟨hb.1.1,if_pos ⟨hb.1.2,hb.2⟩⟩) hl⟩
  obtain ⟨v',hv',hm'⟩:=(hra k' r' x' g1 g2).2 (by simp)
  refine ⟨v',hv',hm'.mono hF (fun b hb=>?_) fun b hf hm=>frNe0 hj b hf hm.1⟩
  have hne:¬ (O b=j∧L b=k):=fun h=>g3 (by rw [← h.2,hb.2])
  exact ⟨⟨hb.1.1,by show (if _ then _ else _)=_;rw [if_neg hne];exact hb.1.2⟩,hb.2⟩
theorem Nest.put {k:Nat} (h:Nest (β:=β) j w O e rs xs (some k)) {r r':Raw a n} {x:α} {v:Value} {ys:List β} (hr:rs[k]?=some r) (hx:xs[k]?=some x) (hr':r'.cs=r.cs.set N.q v) (hq:N.q < n) (hw:Rw l w O e v ys) (hlj:l≠j) :
    ∃ O',St (eT l) w O w O'∧Nest (β:=β) j w O' e (rs.set k r') (xs.set k (N.put x ys)) none:=by
  obtain ⟨⟨L,hlen,hra⟩,hj⟩:=h
  have hl0:l≠0:=hw.2.2
  have hF:∀ b,Fr 0 w O b→Fr 0 w (fun b=>if O b=l then j else O b) b:=fun b hb=>⟨hb.1,by show (if _ then _ else _)=_;rw [if_neg (by rw [hb.2];exact Ne.symm hl0)];exact hb.2⟩
  refine ⟨fun b=>if O b=l then j else O b,⟨rfl,rfl,rfl,Nat.le_refl _,fun b _ hb=>⟨rfl,if_neg hb⟩⟩,⟨fun b=>if O b=l then k else L b,by simp [hlen],fun k' r2 x2 g1 g2=>?_⟩,hj⟩
  by_cases hk:k'=k
  · subst hk
    rw [List.getElem?_set_self (AC hr)] at g1
    rw [List.getElem?_set_self (AC hx)] at g2
    have e1:r'=r2:=by simpa using g1
    have e2:N.put x ys=x2:=by simpa using g2
    subst e1 e2
    refine ⟨?_,fun _=>⟨v,?_,?_⟩⟩
    · rw [hr',List.set_set,N.put_put];exact Rp.mono (hra k' r x hr hx).1 hF
    · rw [hr',List.getElem?_set_self (by rw [r.len];exact hq)]
    · rw [N.get_put]
      have h1:RwM w (Fr 0 w O) (Fr l w O) e v ys:=hw.m (fun _ h=>h) (fun _ h=>h) (frNe0 hl0)
      exact h1.mono hF (fun b hb=>⟨⟨hb.1,if_pos hb.2⟩,if_pos hb.2⟩) fun b hf hm=>frNe0 hj b hf hm.1
  · rw [List.getElem?_set_ne (Ne.symm hk)] at g1 g2
    refine ⟨Rp.mono (hra k' r2 x2 g1 g2).1 hF,fun _=>?_⟩
    obtain ⟨v',hv',hm⟩:=(hra k' r2 x2 g1 g2).2 (fun h=>hk (Option.some.inj h).symm)
    refine ⟨v',hv',hm.mono hF (fun b hb=>?_) fun b hf hm=>frNe0 hj b hf hm.1⟩
    have hb':O b≠l:=by rw [hb.1.2];exact Ne.symm hlj
    exact ⟨⟨hb.1.1,by show (if _ then _ else _)=_;rw [if_neg hb'];exact hb.1.2⟩,by show (if _ then _ else _)=_;rw [if_neg hb'];exact hb.2⟩
theorem Chunks.conv {γ δ:Type} [Rp γ] [Rp δ] {F G:Nat→Prop}:∀ {rs:List γ} {xs:List δ} {cells:List Value},rs.length=xs.length→(∀ (k:Nat) r x cs,rs[k]?=some r→xs[k]?=some x→Rp.R w F cs r→Rp.R w G cs x)→Chunks w F cells rs→Chunks w G cells xs
  | [],[],_,_,_,h=>h
  | [],_ :: _,_,hl,_,_=>by simp at hl
  | _ :: _,[],_,hl,_,_=>by simp at hl
  | r :: rs,x :: xs,_,hl,hc,⟨cs,rest,he,hr,h⟩ =>
    ⟨cs,rest,he,hc 0 r x cs rfl rfl hr,Chunks.conv (by simpa using hl) (fun k r x cs g1 g2=>hc (k + 1) r x cs (by simpa using g1) (by simpa using g2)) h⟩
theorem Nest.lend {e':TypeId} {v:Value} (hR:Rw i w O e' v rs) (h:Nest (β:=β) j w O e rs xs none):Vb w (FrS [i,j] w O) v xs:=by
  obtain ⟨⟨L,hl,hra⟩,hj⟩:=h
  obtain ⟨A,c,cells,h1,h2,h3,h4,h5⟩:=hR.1.vb.slice
  refine .of_slice ⟨A,c,cells,by rw [h1,hl],by omega,h3,?_,fun hp=>?_⟩
  · refine h4.conv hl fun k r x cs g1 g2 g3=>?_
    have g3':cs=r.cs:=g3
    subst g3'
    obtain ⟨q1,q2⟩:=hra k r x g1 g2
    obtain ⟨v',hv',hm⟩:=q2 (by simp)
    refine N.join (Rp.mono q1 fun b hb=>⟨hb.1,.inl hb.2⟩) hv' (hm.1.vb.mono fun b hb=>?_)
    rcases hb with hb|hb
    · exact ⟨hb.1,.inl hb.2⟩
    · have:=(hm.2 b hb).1;exact ⟨this.1,.inr (by rw [this.2];simp)⟩
  · obtain ⟨b,o,h6,h7,h8⟩:=h5 (by omega)
    refine ⟨b,o,h6,?_,h8⟩
    rcases h7 with h7|h7
    · exact ⟨h7.1,.inl h7.2⟩
    · exact ⟨(hR.1.lt b h7).2,.inr (by rw [hR.2.1 b h7];simp)⟩
end
instance {β:Type} [Rp β]:NestAt (List β) β where
  q:=0
  get x:=x
  put _ y:=y
  get_put _ _:=rfl
  put_put _ _ _:=rfl
  split:=by
    intro w F cs x h
    have hl:=Rp.len h
    match cs,hl,h with
    | [v],_,h=>exact ⟨(Vb.nil w F).cells1,v,rfl,by unfold Vb;exact h⟩
  join:=by
    intro w F cs x v h hv hx
    have hl:=Rp.len h
    rw [List.length_set] at hl
    match cs,hl,hv with
    | [u],_,hv =>
      obtain rfl:u=v:=by simpa using hv
      exact hx.cells1
def NR {α:Type} (β:Type) [Rp α] [Rp β] [N:NestAt α β] (i:Nat) (w:World) (O:Lab) (e' e:TypeId) (v:Value) (xs:List α) (skip:Option Nat):Prop :=
  ∃ (rs:List (Raw (Rp.isAgg α) (Rp.size α))) (L:Lab),Own w 0 (Fr 0 w O) e' v rs∧(∀ g,v.ownBlock=some g→O g=i∧L g=0)∧i≠0∧rs.length=xs.length ∧
    ∀ (k:Nat) (r:Raw (Rp.isAgg α) (Rp.size α)) (x:α),rs[k]?=some r→xs[k]?=some x →
      Rp.R w (Fr 0 w O) (r.cs.set N.q (.slice none 0 0)) (N.put x [])∧(skip≠some k→∃ u,r.cs[N.q]?=some u∧RwM w (Fr 0 w O) (fun b=>Fr i w O b∧L b=k + 1) e u (N.get x))
theorem labBound (O:Lab):∀ n:Nat,∃ b,∀ k,k < n→O k≤b
  | 0=>⟨0,fun k h=>by omega⟩
  | n + 1=>by
    obtain ⟨b,hb⟩:=labBound O n
    refine ⟨max b (O n),fun k hk=>?_⟩
    rcases Nat.lt_or_ge k n with h|h
    · have:=hb k h;omega
    · have:k=n:=by omega
      subst this;omega
theorem labFresh (O:Lab) (n a b:Nat):∃ j,j≠0∧j≠a∧j≠b∧∀ k,k < n→O k≠j:=by
  obtain ⟨c,hc⟩:=labBound O n
  exact ⟨c + a + b + 1,by omega,by omega,by omega,fun k hk=>by have:=hc k hk;omega⟩
theorem St.via {T T1 T2 T3:Nat→Prop} {w w':World} {O O1 O2 O3:Lab} {j:Nat} (h1:St T1 w O w O1) (h2:St T2 w O1 w' O2) (h3:St T3 w' O2 w' O3) (hj:∀ k,k < w.heap.size→O k≠j) (a1:∀ q,T1 q→T q) (a2:∀ q,T2 q→T q∨q=j) (a3:∀ q,T3 q→T q∨q=j):St T w O w' O3 :=
  ⟨(h3.os.trans h2.os).trans h1.os,(h3.tape.trans h2.tape).trans h1.tape,(h3.output.trans h2.output).trans h1.output,Nat.le_trans h2.size h3.size,fun k hk hT=>by
    obtain ⟨e1,e2⟩:=h1.same k hk fun h=>hT (a1 _ h)
    obtain ⟨e3,e4⟩:=h2.same k hk (by rw [e2];exact fun h=>(a2 _ h).elim hT (hj k hk))
    obtain ⟨e5,e6⟩:=h3.same k (Nat.lt_of_lt_of_le hk h2.size) (by rw [e4,e2];exact fun h=>(a3 _ h).elim hT (hj k hk))
    exact ⟨(e5.trans e3).trans e1,(e6.trans e4).trans e2⟩⟩
section
variable {α β : Type} [Rp α] [Rp β] [N : NestAt α β] {i j l : Nat} {T : Nat → Prop} {w w' : World} {O O' : Lab} {e' e : TypeId} {v : Value} {xs : List α} {skip : Option Nat}
theorem NR.opn (h:NR β i w O e' e v xs skip) (j:Nat) (hj:j≠0) (hji:j≠i):∃ (rs:List (Raw (Rp.isAgg α) (Rp.size α))) (O1:Lab),St (eT i) w O w O1∧Rw i w O1 e' v rs∧Nest (β:=β) j w O1 e rs xs skip:=by
  obtain ⟨rs,L,h1,h2,h3,h4,h5⟩:=h
  have hF:∀ b,Fr 0 w O b→Fr 0 w (fun b=>if O b=i∧L b≠0 then j else O b) b:=fun b hb=>⟨hb.1,by show (if _ then _ else _)=_;rw [if_neg (by rw [hb.2];exact fun h=>h3 h.1.symm)];exact hb.2⟩
  refine ⟨rs,fun b=>if O b=i∧L b≠0 then j else O b,⟨rfl,rfl,rfl,Nat.le_refl _,fun b _ hb=>⟨rfl,if_neg fun h=>hb h.1⟩⟩,⟨h1.mono hF fun g hg hf=>?_,fun g hg=>?_,h3⟩,⟨fun b=>L b - 1,h4,fun k r x g1 g2=>⟨Rp.mono (h5 k r x g1 g2).1 hF,fun g3=>?_⟩⟩,hj⟩
  · have h8:(if O g=i∧L g≠0 then j else O g)=0:=hf.2
    rw [if_neg (fun h=>h.2 (h2 g hg).2),(h2 g hg).1] at h8
    exact h3 h8
  · show (if O g=i∧L g≠0 then j else O g)=i
    rw [if_neg (fun h=>h.2 (h2 g hg).2)];exact (h2 g hg).1
  · obtain ⟨u,hu,hm⟩:=(h5 k r x g1 g2).2 g3
    refine ⟨u,hu,hm.mono hF (fun b hb=>⟨⟨hb.1.1,?_⟩,?_⟩) fun b hf hm=>frNe0 hj b hf hm.1⟩
    · show (if O b=i∧L b≠0 then j else O b)=j
      rw [if_pos ⟨hb.1.2,by have:=hb.2;omega⟩]
    · show L b - 1=k
      have:=hb.2;omega
theorem NR.shut {rs:List (Raw (Rp.isAgg α) (Rp.size α))} (hR:Rw i w O e' v rs) (hN:Nest (β:=β) j w O e rs xs skip) (hji:j≠i):∃ O1,St (eT j) w O w O1∧NR β i w O1 e' e v xs skip:=by
  obtain ⟨⟨L,h4,h5⟩,hj⟩:=hN
  obtain ⟨h1,h2,h3⟩:=hR
  have hF:∀ b,Fr 0 w O b→Fr 0 w (fun b=>if O b=j then i else O b) b:=fun b hb=>⟨hb.1,by show (if _ then _ else _)=_;rw [if_neg (by rw [hb.2];exact Ne.symm hj)];exact hb.2⟩
  have hi:∀ g,v.ownBlock=some g→(if O g=j then i else O g)=i:=fun g hg=>by
    split
    · rfl
    · exact h2 g hg
  refine ⟨fun b=>if O b=j then i else O b,⟨rfl,rfl,rfl,Nat.le_refl _,fun b _ hb=>⟨rfl,if_neg hb⟩⟩,rs,fun b=>if O b=j then L b + 1 else 0,h1.mono hF fun g hg hf=>h3 (((hi g hg).symm.trans hf.2)),fun g hg=>⟨hi g hg,?_⟩,h3,h4,fun k r x g1 g2=>⟨Rp.mono (h5 k r x g1 g2).1 hF,fun g3=>?_⟩⟩
  · show (if O g=j then L g + 1 else 0)=0
    rw [if_neg (by rw [h2 g hg];exact Ne.symm hji)]
  · obtain ⟨u,hu,hm⟩:=(h5 k r x g1 g2).2 g3
    refine ⟨u,hu,hm.mono hF (fun b hb=>⟨⟨hb.1.1,if_pos hb.1.2⟩,?_⟩) fun b hf hm=>frNe0 h3 b hf hm.1⟩
    show (if O b=j then L b + 1 else 0)=k + 1
    rw [if_pos hb.1.2,hb.2]
theorem NR.st (h:NR β i w O e' e v xs skip) (hS:St T w O w' O') (h0:¬ T 0:=by decide) (hi:¬ T i:=by decide):NR β i w' O' e' e v xs skip:=by
  obtain ⟨rs,L,h1,h2,h3,h4,h5⟩:=h
  have hR:Rw i w' O' e' v rs:=Rw.st (O:=O) ⟨h1,fun g hg=>(h2 g hg).1,h3⟩ hS h0 hi
  refine ⟨rs,L,hR.1,fun g hg=>⟨hR.2.1 g hg,(h2 g hg).2⟩,h3,h4,fun k r x g1 g2=>⟨Rp.mono (Rp.agree (h5 k r x g1 g2).1 (hS.agree h0)) (hS.fr h0),fun g3=>?_⟩⟩
  obtain ⟨u,hu,hm⟩:=(h5 k r x g1 g2).2 g3
  exact ⟨u,hu,(hm.agree (hS.agree h0) fun b hb=>hS.agree hi b hb.1).mono (hS.fr h0) (fun b hb=>⟨hS.fr hi b hb.1,hb.2⟩) fun b hf hm=>frNe0 h3 b hf hm.1⟩
theorem NR.lend (h:NR β i w O e' e v xs none):Vb w (FrS [i] w O) v xs:=by
  obtain ⟨j,hj,hji,_,hf⟩:=labFresh O w.heap.size i 0
  obtain ⟨rs,O1,hS,hR,hN⟩:=h.opn j hj hji
  refine (Nest.lend hR hN).mono fun k hk=>⟨hk.1,?_⟩
  by_cases hi:O k=i
  · exact .inr (by rw [hi];simp)
  · have:=(hS.same k hk.1 hi).2
    rcases hk.2 with h0|h0
    · exact .inl (this.symm.trans h0)
    · rw [this] at h0
      rcases List.mem_cons.1 h0 with h0|h0
      · exact (hi h0).elim
      · exact (hf k hk.1 (by simpa using h0)).elim
theorem NR.freeze (h:NR β i w O e' e v xs none):∃ O',St (eT i) w O w O'∧Vb w (Fr 0 w O') v xs:=by
  refine ⟨fun k=>if O k=i then 0 else O k,⟨rfl,rfl,rfl,Nat.le_refl _,fun k _ hk=>⟨rfl,if_neg hk⟩⟩,h.lend.mono fun k hk=>⟨hk.1,?_⟩⟩
  show (if _ then _ else _)=_
  rcases hk.2 with h0|h0
  · split
    · rfl
    · exact h0
  · rw [if_pos (by simpa using h0)]
theorem NR.at {A:Option Addr} {m c:Nat} (h:NR β i w O e' e (.slice A m c) xs skip) {k:Nat} {x:α} (hx:xs[k]?=some x):∃ b o,A=some ⟨b,o,none⟩∧k < m:=by
  obtain ⟨rs,L,h1,h2,h3,h4,h5⟩:=h
  have hk:k < rs.length:=by rw [h4];exact AC hx
  obtain ⟨b,o,cs,h6,h7,_⟩:=Rw.elem (i:=i) (O:=O) ⟨h1,fun g hg=>(h2 g hg).1,h3⟩ (List.getElem?_eq_getElem hk)
  exact ⟨b,o,h6,h7⟩
theorem NR.peek {A:Option Addr} {m c b o:Nat} (h:NR β i w O e' e (.slice A m c) xs none) (hA:A=some ⟨b,o,none⟩) {k:Nat} {x:α} (hx:xs[k]?=some x) :
    ∃ (A':Option Addr) (c':Nat),w.cell? ⟨b,o + k * Rp.size α + N.q,none⟩=some (.slice A' (N.get x).length c')∧Vb w (FrS [i] w O) (.slice A' (N.get x).length c') (N.get x):=by
  obtain ⟨rs,L,h1,h2,h3,h4,h5⟩:=h
  have hk:k < rs.length:=by rw [h4];exact AC hx
  have hr:rs[k]?=some rs[k]:=List.getElem?_eq_getElem hk
  obtain ⟨b',o',cs,h6,h7,h8,h9⟩:=Rw.elem (i:=i) (O:=O) ⟨h1,fun g hg=>(h2 g hg).1,h3⟩ hr
  obtain ⟨rfl,rfl⟩:b=b'∧o=o':=by rw [hA] at h6;injection h6 with h6;injection h6 with h6 h7;exact ⟨h6,h7⟩
  have h9':cs=rs[k].cs:=h9
  subst h9'
  obtain ⟨u,hu,hm⟩:=(h5 k rs[k] x hr hx).2 (by simp)
  obtain ⟨A',c',_,rfl,_⟩:=hm.1.chunk
  refine ⟨A',c',Ex h8 _ _ hu,hm.1.vb.mono fun g hg=>?_⟩
  rcases hg with hg|hg
  · exact ⟨hg.1,.inl hg.2⟩
  · have:=(hm.2 g hg).1;exact ⟨this.1,.inr (by rw [this.2];simp)⟩
theorem NR.stay {A:Option Addr} {m c b o p:Nat} {u:Value} (h:NR β i w O e' e (.slice A m c) xs skip) (hA:A=some ⟨b,o,none⟩) (hS:St T w O w' O') (hi:¬ T i) (hc:w.cell? ⟨b,p,none⟩=some u):w'.cell? ⟨b,p,none⟩=some u:=by
  obtain ⟨rs,L,h1,h2,h3,h4,h5⟩:=h
  subst hA
  have:=hS.same b (h1.lt b rfl).2 (by rw [(h2 b rfl).1];exact hi)
  rw [← hc]
  unfold World.cell?
  rw [this.1]
theorem NR.take {A:Option Addr} {m c b o:Nat} (h:NR β i w O e' e (.slice A m c) xs none) (hA:A=some ⟨b,o,none⟩) {k:Nat} {x:α} (hx:xs[k]?=some x) (l:Nat) (hl:l≠0) (hli:l≠i) :
    ∃ (O':Lab) (A':Option Addr) (c':Nat),St (eT i) w O w O'∧w.cell? ⟨b,o + k * Rp.size α + N.q,none⟩=some (.slice A' (N.get x).length c')∧NR β i w O' e' e (.slice A m c) xs (some k)∧Rw l w O' e (.slice A' (N.get x).length c') (N.get x):=by
  obtain ⟨j,hj,hji,hjl,hf⟩:=labFresh O w.heap.size i l
  obtain ⟨rs,O1,hS,hR,hN⟩:=h.opn j hj hji
  have hlen:rs.length=xs.length:=by obtain ⟨⟨_,h,_⟩,_⟩:=hN;exact h
  have hk:k < rs.length:=by rw [hlen];exact AC hx
  have hr:rs[k]?=some rs[k]:=List.getElem?_eq_getElem hk
  obtain ⟨O2,u,hS2,hu,hN2,hw⟩:=hN.take hr hx l hl (Ne.symm hjl)
  obtain ⟨A',c',rfl⟩:=hw.form
  have hR2:=hR.st hS2 (fun h=>hj h.symm) (Ne.symm hji)
  obtain ⟨O3,hS3,h3⟩:=NR.shut hR2 hN2 hji
  obtain ⟨b',o',cs,h1,h2,h4,h5⟩:=hR.elem hr
  obtain ⟨rfl,rfl⟩:b=b'∧o=o':=by rw [hA] at h1;injection h1 with h1;injection h1 with h1 h2;exact ⟨h1,h2⟩
  have h5':cs=rs[k].cs:=h5
  subst h5'
  exact ⟨O3,A',c',St.via (j:=j) hS hS2 hS3 hf (fun _ h=>h) (fun _ h=>.inr h) (fun _ h=>.inr h),Ex h4 _ _ hu,h3,hw.st hS3 (fun h=>hj h.symm) (Ne.symm hjl)⟩
theorem NR.take' {A A':Option Addr} {m c b o n' c':Nat} (h:NR β i w O e' e (.slice A m c) xs none) (hA:A=some ⟨b,o,none⟩) {k:Nat} {x:α} (hx:xs[k]?=some x) (hc:w.cell? ⟨b,o + k * Rp.size α + N.q,none⟩=some (.slice A' n' c')) (l:Nat) (hl:l≠0) (hli:l≠i) :
    ∃ (O':Lab),St (eT i) w O w O'∧NR β i w O' e' e (.slice A m c) xs (some k)∧Rw l w O' e (.slice A' n' c') (N.get x):=by
  obtain ⟨O',A2,c2,h1,h2,h3,h4⟩:=h.take hA hx l hl hli
  rw [hc] at h2
  injection h2 with h2
  injection h2 with e1 e2 e3
  subst e1;subst e2;subst e3
  exact ⟨O',h1,h3,h4⟩
end
section
variable {P : Program} {n : Nat} {ops : Array Oper} {Q : Post} {rest : List Oper} {l : Env} {w : World} {d d1 d2 : Tmp} {ty ty2 : TypeId} {pos pos2 : String} {aft aft2 : Array Edge}
theorem Hl {β:Type} [Rp β] (i:Nat) (hi:i≠0) (O:Lab) {t e' e:TypeId} [TSlice P t e'] {z:Value} {size bytes:Nat} [TInfo P e' z size bytes] {x y:Operand} {k k':IntKind} {m:Nat} {a:Int} (hsize:size=1) (hz:z=.slice none 0 0) (hx:opv l x=some (.int k a)) (hy:opv l y=some (.int k' a)) (ha:a=(m:Int))
    (hm:bytes * m≤281474976710656) (h63:m≤9223372036854775807) (hd:Nat.blt d n=true)
    (h:∀ g w' O',St nT w O w' O'→NR β i w' O' e' e (.slice (some ⟨g,0,none⟩) (List.replicate m ([]:List β)).length m) (List.replicate m ([]:List β)) none→owp P n ops Q rest ((d,.slice (some ⟨g,0,none⟩) (List.replicate m ([]:List β)).length m) :: l) w'):owp P n ops Q (⟨some d,.makeSlice t x y,ty,pos,aft,none⟩ :: rest) l w:=by
  subst hz
  obtain ⟨q,hq0,hqi,_,hf⟩:=labFresh O w.heap.size i 0
  let z0:Raw false 1:=⟨[.slice none 0 0],rfl,fun u hu=>by simp at hu;subst hu;rfl⟩
  have hz0:Vb w (Fr 0 w O) (.slice none 0 0) z0:=show Rp.R w (Fr 0 w O) [Value.slice none 0 0] z0 from rfl
  refine Ft (α:=Raw false 1) i hi O (z0:=z0) hsize rfl rfl hx hy ha hz0 hm h63 hd fun g w' O' hS hR=>?_
  have hN:Nest (α:=List β) (β:=β) q w' O' e (List.replicate m z0) (List.replicate m ([]:List β)) none:=by
    refine ⟨⟨fun _=>0,by simp,fun j r x g1 g2=>?_⟩,hq0⟩
    obtain rfl:r=z0:=List.eq_of_mem_replicate (List.mem_of_getElem? g1)
    obtain rfl:x=[]:=List.eq_of_mem_replicate (List.mem_of_getElem? g2)
    refine ⟨(Vb.nil w' _).cells1,fun _=>⟨.slice none 0 0,rfl,Own.nil _ _ _ _,fun g hg=>by simp [Value.ownBlock] at hg⟩⟩
  obtain ⟨O2,hS2,h2⟩:=NR.shut (α:=List β) hR hN hqi
  have hle:(List.replicate m z0).length=(List.replicate m ([]:List β)).length:=by simp
  rw [hle] at h2 ⊢
  refine h g w' O2 ⟨hS2.os.trans hS.os,hS2.tape.trans hS.tape,hS2.output.trans hS.output,Nat.le_trans hS.size hS2.size,fun j hj hT=>?_⟩ h2
  obtain ⟨f1,e1⟩:=hS.same j hj hT
  obtain ⟨f2,e2⟩:=hS2.same j (Nat.lt_of_lt_of_le hj hS.size) (by rw [e1];exact hf j hj)
  exact ⟨f2.trans f1,e2.trans e1⟩
theorem Lz {α β:Type} [Rp α] [Rp β] [N:NestAt α β] {i j:Nat} {O:Lab} {t e' e:TypeId} {z:Value} {size bytes:Nat} [TInfo P t z size bytes] {x y:Operand} {b o k off m c:Nat} {A A':Option Addr} {m' c':Nat} {a:α} {ys:List β} {xs:List α} (hR:NR β i w O e' e (.slice A m c) xs (some k)) (hw:Rw j w O e (.slice A' m' c') ys) (hji:j≠i) (hA:A=some ⟨b,o,none⟩) (hk:xs[k]?=some a)
    (hx:opv l x=some (.pointer (some ⟨b,o + k * Rp.size α + off,none⟩))) (hy:opv l y=some (.slice A' m' c')) (hoff:off=N.q) (hsz:size=1) (hqn:N.q < Rp.size α)
    (h:∀ w' O',St (fun q=>q=i∨q=j) w O w' O'→NR β i w' O' e' e (.slice A m c) (xs.set k (N.put a ys)) none→owp P n ops Q rest l w'):owp P n ops Q (⟨none,.store t x y,ty,pos,aft,none⟩ :: rest) l w:=by
  subst hoff hsz
  obtain ⟨q,hq0,hqi,hqj,hf⟩:=labFresh O w.heap.size i j
  have hj0:j≠0:=hw.2.2
  have hi0:i≠0:=by obtain ⟨_,_,_,_,h,_⟩:=hR;exact h
  obtain ⟨rs,O1,hS,hRw,hN⟩:=hR.opn q hq0 hqi
  have hlen:rs.length=xs.length:=by obtain ⟨⟨_,h,_⟩,_⟩:=hN;exact h
  have hkr:k < rs.length:=by rw [hlen];exact AC hk
  have hr:rs[k]?=some rs[k]:=List.getElem?_eq_getElem hkr
  have hw1:=hw.st hS (fun h=>hi0 h.symm) hji
  let r':Raw (Rp.isAgg α) (Rp.size α):=⟨rs[k].cs.set N.q (.slice A' m' c'),by rw [List.length_set];exact rs[k].len,fun u hu=>by
    rcases List.mem_or_eq_of_mem_set hu with h|h
    · exact rs[k].one u h
    · subst h;rfl⟩
  obtain ⟨O2,hS2,hN2⟩:=hN.put (r':=r') hr hk rfl hqn hw1 (Ne.symm hqj)
  have hR2:=hRw.st hS2 (fun h=>hj0 h.symm) (Ne.symm hji)
  refine Nh (a:=rs[k]) (a':=r') hR2 hA hr hx hy rfl (by show N.q + 1≤Rp.size α;omega) (fun v hv=>by simp [Value.cells] at hv;subst hv;rfl) (fun ce hc=>?_) fun w' hS3 hR3=>?_
  · have hc':ce=rs[k].cs:=hc
    subst hc';rfl
  have hN3:=hN2.st hS3 (fun h=>hi0 h.symm) hqi
  obtain ⟨O4,hS4,h4⟩:=NR.shut hR3 hN3 hqi
  refine h w' O4 ?_ h4
  have hS12:St (fun p=>p=i∨p=j) w O w O2:=⟨rfl,rfl,rfl,Nat.le_refl _,fun k hk hT=>by
    obtain ⟨_,e2⟩:=hS.same k hk fun h=>hT (.inl h)
    obtain ⟨_,e4⟩:=hS2.same k hk (by rw [e2];exact fun h=>hT (.inr h))
    exact ⟨rfl,e4.trans e2⟩⟩
  exact St.via (j:=q) hS12 hS3 hS4 hf (fun _ h=>h) (fun _ h=>.inl (.inl h)) (fun _ h=>.inr h)
end
end
section
open Go Go.RowKit
attribute [local irreducible] ewp owp hwp hwq hws Ev Evg Fn retPost loud loudS Res1
attribute [local irreducible] hwx loudX
structure Arc where
  src:Int
  dst:Int
  weight:Int
instance:Rp Arc where
  isAgg:=true
  size:=3
  R w F cs x:=cs=[.int .i64 x.src,.int .i64 x.dst,.int .i64 x.weight]∧inI64 x.src∧inI64 x.dst∧inI64 x.weight
  len:=by rintro w F cs x ⟨rfl,h0,h1,h2⟩;rfl
  one:=by rintro w F cs x ⟨rfl,h0,h1,h2⟩ u hu;simp at hu;rcases hu with rfl|rfl|rfl<;>first|rfl|exact Vb.one rfl (by assumption)
  agree:=by rintro w w' F cs x ⟨rfl,h0,h1,h2⟩ ha;exact ⟨rfl,h0,h1,h2⟩
  mono:=by rintro w F G cs x ⟨rfl,h0,h1,h2⟩ ha;exact ⟨rfl,h0,h1,h2⟩
structure Edj where
  src:Int
  label:Int
  dst:Int
instance:Rp Edj where
  isAgg:=true
  size:=3
  R w F cs x:=cs=[.int .i64 x.src,.int .i64 x.label,.int .i64 x.dst]∧inI64 x.src∧inI64 x.label∧inI64 x.dst
  len:=by rintro w F cs x ⟨rfl,h0,h1,h2⟩;rfl
  one:=by rintro w F cs x ⟨rfl,h0,h1,h2⟩ u hu;simp at hu;rcases hu with rfl|rfl|rfl<;>first|rfl|exact Vb.one rfl (by assumption)
  agree:=by rintro w w' F cs x ⟨rfl,h0,h1,h2⟩ ha;exact ⟨rfl,h0,h1,h2⟩
  mono:=by rintro w F G cs x ⟨rfl,h0,h1,h2⟩ ha;exact ⟨rfl,h0,h1,h2⟩
structure Spa where
  t:Tsk
  states:Reg
  edges:List Edj
  goals:List Bool
  costs:List Int
  distances:List Int
  steps:List Int
instance:Ow Spa where
  R w F M v x:=∃ (g:Nat) (L:Lab) (c0 c1 c2 c3 c4 c5 c6 c7 c8 c9:Value),v=.pointer (some ⟨g,0,none⟩)∧Blk w g 87 [c0,c1,c2,c3,c4,c5,c6,c7,c8,c9]∧M g∧L g=0∧Vb w F c0 x.t.vars∧Vb w F c1 x.t.init∧Vb w F c2 x.t.goal∧Vb w F c3 x.t.ops∧Ow.R w F (fun k=>M k∧L k=1) c4 x.states∧Vb w F c5 x.edges∧Vb w F c6 x.goals∧Vb w F c7 x.costs∧Vb w F c8 x.distances∧Vb w F c9 x.steps
  agree:=by rintro w w' F M v x ⟨g,L,c0,c1,c2,c3,c4,c5,c6,c7,c8,c9,rfl,hb,hM,hL,h0,h1,h2,h3,h4,h5,h6,h7,h8,h9⟩ a1 a2;exact ⟨g,L,c0,c1,c2,c3,c4,c5,c6,c7,c8,c9,rfl,hb.keep (a2 g hM),hM,hL,h0.agree a1,h1.agree a1,h2.agree a1,h3.agree a1,Ow.agree h4 a1 fun k hk=>a2 k hk.1,h5.agree a1,h6.agree a1,h7.agree a1,h8.agree a1,h9.agree a1⟩
  mono:=by rintro w F M F' M' v x ⟨g,L,c0,c1,c2,c3,c4,c5,c6,c7,c8,c9,rfl,hb,hM,hL,h0,h1,h2,h3,h4,h5,h6,h7,h8,h9⟩ a1 a2 a3;exact ⟨g,L,c0,c1,c2,c3,c4,c5,c6,c7,c8,c9,rfl,hb,a2 g hM,hL,h0.mono a1,h1.mono a1,h2.mono a1,h3.mono a1,Ow.mono h4 a1 (fun k hk=>⟨a2 k hk.1,hk.2⟩) fun k hf hm=>a3 k hf hm.1,h5.mono a1,h6.mono a1,h7.mono a1,h8.mono a1,h9.mono a1⟩
instance:OwP Spa:=⟨by rintro w F M v x ⟨g,L,c0,c1,c2,c3,c4,c5,c6,c7,c8,c9,rfl,_⟩;exact ⟨g,rfl⟩⟩
theorem Spa.opn {i:Nat} {w:World} {O:Lab} {p:Nat} {x:Spa} (h:Ob i w O (.pointer (some ⟨p,0,none⟩)) x) (l0 l1:Nat) (hl:l0≠0∧l1≠0):∃ (O':Lab) (c0 c1 c2 c3 c4 c5 c6 c7 c8 c9:Value),St (eT i) w O w O'∧(∀ k,Fr i w O k→∃ q,q∈[l0,l1]∧Fr q w O' k)∧Lc l0 w O' p 87 [c0,c1,c2,c3,c4,c5,c6,c7,c8,c9]∧Vb w (Fr 0 w O') c0 x.t.vars∧Vb w (Fr 0 w O') c1 x.t.init∧Vb w (Fr 0 w O') c2 x.t.goal∧Vb w (Fr 0 w O') c3 x.t.ops∧Ob l1 w O' c4 x.states∧Vb w (Fr 0 w O') c5 x.edges∧Vb w (Fr 0 w O') c6 x.goals∧Vb w (Fr 0 w O') c7 x.costs∧Vb w (Fr 0 w O') c8 x.distances∧Vb w (Fr 0 w O') c9 x.steps:=by
  obtain ⟨⟨g,L,c0,c1,c2,c3,c4,c5,c6,c7,c8,c9,hv,hb,hM,hL,h0,h1,h2,h3,h4,h5,h6,h7,h8,h9⟩,hi⟩:=h
  obtain rfl:p=g:=by injection hv with hv;injection hv with hv;injection hv
  exact ⟨part O i L [l0,l1],c0,c1,c2,c3,c4,c5,c6,c7,c8,c9,IY hi,HD (by simp),⟨hb,(Ez (j:=0) rfl p ⟨hM,hL⟩).2⟩,h0.mono (CR hi),h1.mono (CR hi),h2.mono (CR hi),h3.mono (CR hi),⟨Ow.mono h4 (CR hi) (Ez (j:=1) rfl) (frNe0 hl.2),hl.2⟩,h5.mono (CR hi),h6.mono (CR hi),h7.mono (CR hi),h8.mono (CR hi),h9.mono (CR hi)⟩
theorem Spa.shut {w:World} {O:Lab} {p:Nat} {x:Spa} {l0 l1:Nat} {c0 c1 c2 c3 c4 c5 c6 c7 c8 c9:Value} (hd:¬ 0∈[l0,l1]∧[l0,l1].idxOf l0=0∧[l0,l1].idxOf l1=1) (hb:Lc l0 w O p 87 [c0,c1,c2,c3,c4,c5,c6,c7,c8,c9]) (h0:Vb w (Fr 0 w O) c0 x.t.vars) (h1:Vb w (Fr 0 w O) c1 x.t.init) (h2:Vb w (Fr 0 w O) c2 x.t.goal) (h3:Vb w (Fr 0 w O) c3 x.t.ops) (h4:Ob l1 w O c4 x.states) (h5:Vb w (Fr 0 w O) c5 x.edges) (h6:Vb w (Fr 0 w O) c6 x.goals) (h7:Vb w (Fr 0 w O) c7 x.costs) (h8:Vb w (Fr 0 w O) c8 x.distances) (h9:Vb w (Fr 0 w O) c9 x.steps):∃ O',St (·∈[l0,l1]) w O w O'∧(∀ k,Fr 0 w O k→Fr 0 w O' k)∧(∀ q,q∈[l0,l1]→∀ k,Fr q w O k→Fr l0 w O' k)∧Ob l0 w O' (.pointer (some ⟨p,0,none⟩)) x:=by
  have hb1:l0≠0:=fun e=>hd.1 (by simp [e])
  have hg:=Ed (i:=l0) hd.2.1 (by simp) p ⟨hb.1.lt,hb.2⟩
  exact ⟨whole O l0 [l0,l1],HE,Cg hd.1,GR,⟨p,fun k=>[l0,l1].idxOf (O k),c0,c1,c2,c3,c4,c5,c6,c7,c8,c9,rfl,hb.1,hg.1,hg.2,h0.mono (Cg hd.1),h1.mono (Cg hd.1),h2.mono (Cg hd.1),h3.mono (Cg hd.1),Ow.mono h4.1 (Cg hd.1) (Ed hd.2.2 (by simp)) (fun k a b=>frNe0 hb1 k a b.1),h5.mono (Cg hd.1),h6.mono (Cg hd.1),h7.mono (Cg hd.1),h8.mono (Cg hd.1),h9.mono (Cg hd.1)⟩,hb1⟩
def Ef (x y:Err):Option Bool:=if x.n=0∧y.n≠0 then some false else none
def Dr (_:List (List Arc)) (_ _:List Int):Option (List Int×List Int):=none
theorem Jb {w:World} {A:Nat→Prop} (hA:∀ k,A k→k < w.heap.size) {vx0:Value} {x0:List (List Arc)} (a0:Vb w A vx0 x0) {vx1:Value} {x1:List Int} (b0:Vb w A vx1 x1) {vx2:Value} {x2:List Int} (c0:Vb w A vx2 x2) {r:List Int×List Int} (hm:Dr x0 x1 x2=some r) :
    Fn Tryz.prog 96 [vx0,vx1,vx2] w fun v w'=>Ext w w'∧T2 w' (upA A w w') v r:=by cases hm
noncomputable def Bd (x0:Reg):Option Int :=
  some (x0.entries.length:Int)
theorem DO {w:World} {O:Lab} {p0 i0:Nat} {x0:Reg} (a0:Ob i0 w O (.pointer (some ⟨p0,0,none⟩)) x0) {r:Int} (hm:Bd x0=some r) :
    Fn Tryz.prog 46 [(.pointer (some ⟨p0,0,none⟩))] w fun v w'=>∃ O',St (eT i0) w O w' O'∧Ob i0 w' O' (.pointer (some ⟨p0,0,none⟩)) x0∧Vb w' (Fr 0 w' O') v r:=by
 obtain ⟨O0,hE,d0,e0⟩:=ent1 (w:=w) (O:=O) a0.2
 have a0':=Ob.leave a0 d0 e0 (j:=2) (by decide)
 have hB:Bm w O0 w O0:=Bm.refl
 refine AI Tryz.func46 rfl Tryz.ntmps46 rfl ?_
 unfold Bd at hm
 refine Al (Aj (At rfl rfl (o_z ?_)))
 refine Al (Al (Aj (Am rfl rfl (EH rfl rfl ?_))))
 refine o_z ?_
 refine Ae rfl (AH (Al (Aj (Am rfl rfl (BT rfl rfl ?_)))))
 obtain ⟨O2,v6,v9,n0,S3,o0,h4,h7,b0,c0⟩:=Reg.opn a0' 2 3 4 5 (by decide)
 obtain ⟨p8,rfl⟩:=h7.ptr
 obtain ⟨q0,r0,rfl⟩:=b0.form
 obtain ⟨s0,rfl⟩:=c0.mptr
 refine AF rfl rfl (AE (hc:=Blk.cell (i:=1) (h4.1) rfl) rfl rfl ?_)
 refine AO rfl rfl ?_
 have f0:x0.entries.length≤9223372036854775807:=Nat.le_trans b0.len.2.1 b0.len.2.2
 have g0:inI64 (x0.entries.length:Int):=rngNat f0
 refine At rfl rfl (o_z ?_)
 refine AJ ?_
 obtain ⟨t0,h0,j0,k0,m0⟩:=Reg.shut (x:=x0) (l0:=2) (l1:=3) (l2:=4) (l3:=5) (by decide) h4 h7 b0 c0
 obtain rfl:=sm hm
 replace hB:=(hB.st S3).st h0
 obtain ⟨O',hS',hz,hl⟩:=hE.leave (fun q=>if q=2 then i0 else 0) rfl hB
 exact ret1v rfl (AA rfl) ⟨O',hS',(Ob.leave m0 hz (hl 2 (by decide) (by decide)) a0.2),(vInt g0)⟩
noncomputable def CF (x0:Tsk):Option Tsk :=
  bnd (By x0.vars) fun q29=>bnd (By x0.init) fun q31=>bnd (Be x0.goal) fun q33=>bnd (some (q29,q31,q33):Option ((List Int)×(List Int)×(List Fct))) fun y35=>bnd (rng (ρ:=Tsk) (fun (k156:Nat) (a157:Opr) (s154:(List Opr))=>bnd (Be a157.pre) fun q195=>bnd (rng (ρ:=Ctl (List Opr) Tsk) (fun (k213:Nat) (a214:Eff) (s211:(List Eff))=>bnd (Be a214.cond) fun q248=>bnd (appI 40 s211 [(⟨q248,a214.var,a214.val⟩:Eff)]) fun u262=>some (.next u262)) a157.effs 0 ([]:List Eff)) fun res209=>fin res209 fun (s278:(List Eff))=>bnd (appI 72 s154 [(⟨a157.name,a157.cost,q195,s278⟩:Opr)]) fun u286=>some (.next u286)) x0.ops 0 ([]:List Opr)) fun res152=>fin res152 fun (s304:(List Opr))=>some (⟨y35.1,y35.2.1,y35.2.2,s304⟩:Tsk)
theorem JA {w:World} {A:Nat→Prop} (hA:∀ k,A k→k < w.heap.size) {vx0:Value} {x0:Tsk} (n5:Vb w A vx0 x0) {r:Tsk} (hm:CF x0=some r) :
    Fn Tryz.prog 45 [vx0] w fun v w'=>Ext w w'∧Vb w' (upA A w w') v r:=by
 obtain ⟨O,hB,h8⟩:=enter hA
 replace n5:=n5.mono h8
 obtain ⟨gA,rfl,v3,v4,v5,v6,rfl,h7,u1,q1,t0⟩:=n5
 obtain ⟨A8,c9,rfl⟩:=h7.form
 obtain ⟨o5,p5,rfl⟩:=u1.form
 obtain ⟨q5,r5,rfl⟩:=q1.form
 obtain ⟨w2,x2,rfl⟩:=t0.form
 refine AI Tryz.func45 rfl Tryz.ntmps45 rfl ?_
 unfold CF at hm
 refine Al (Aj (Dw 2 O rfl rfl fun s5 i8 r7 j1 y1=>?_))
 replace y1:Lc 2 i8 r7 s5 26 [(.slice A8 x0.vars.length c9),(.slice o5 x0.init.length p5),(.slice q5 x0.goal.length r5),(.slice w2 x0.ops.length x2)]:=y1
 refine CT 3 r7 rfl fun i2 iA t5 z0 n0=>?_
 refine o_z ?_
 refine Al ?_
 obtain ⟨d5,s7,hm⟩:=bs hm
 obtain ⟨e5,u5,hm⟩:=bs hm
 obtain ⟨f5,g5,hm⟩:=bs hm
 obtain ⟨b0,y2,hm⟩:=bs hm
 refine AM (fun l' w'=>∃ (a0:Nat×(Option Addr×Nat)×(Option Addr×Nat)×(Option Addr×Nat)) (O':Lab),subs l' [(1,(.pointer (some ⟨s5,0,none⟩))),(2,(.pointer (some ⟨i2,0,none⟩))),(3,(.pointer (some ⟨a0.1,0,none⟩)))]∧Bs w A w' O'∧Lc 2 w' O' s5 26 [(.slice A8 x0.vars.length c9),(.slice o5 x0.init.length p5),(.slice q5 x0.goal.length r5),(.slice w2 x0.ops.length x2)]∧Vb w' (Fr 0 w' O') (.slice A8 x0.vars.length c9) x0.vars∧Vb w' (Fr 0 w' O') (.slice o5 x0.init.length p5) x0.init∧Vb w' (Fr 0 w' O') (.slice q5 x0.goal.length r5) x0.goal∧Vb w' (Fr 0 w' O') (.slice w2 x0.ops.length x2) x0.ops∧Lc 3 w' O' i2 26 [(.slice none 0 0),(.slice none 0 0),(.slice none 0 0),(.slice none 0 0)]∧Lc 7 w' O' a0.1 26 [(.slice a0.2.1.1 b0.1.length a0.2.1.2),(.slice a0.2.2.1.1 b0.2.1.length a0.2.2.1.2),(.slice a0.2.2.2.1 b0.2.2.length a0.2.2.2.2),(.slice none 0 0)]∧Rw 4 w' O' 3 (.slice a0.2.1.1 b0.1.length a0.2.1.2) b0.1∧Rw 5 w' O' 3 (.slice a0.2.2.1.1 b0.2.1.length a0.2.2.1.2) b0.2.1∧Rw 6 w' O' 123 (.slice a0.2.2.2.1 b0.2.2.length a0.2.2.2.2) b0.2.2) ?_ ?_
 ·
  refine BD [] t5 ?_
  refine AW (fuel:=6) [] [(0,true),(1,true),(3,true),(4,true),(6,true),(7,true)] (by kernel_rfl) rfl ?_
  refine AR rfl rfl rfl ?_
  replace y1:=y1.st z0
  refine AS (hc:=fun w' ⟨O',hq⟩=>Blk.cell (i:=0) ((y1.st hq (by decide)).1) rfl) rfl rfl rfl ?_
  refine AR rfl rfl rfl (AS (hc:=fun w' ⟨O',hq⟩=>Blk.cell (i:=1) ((y1.st hq (by decide)).1) rfl) rfl rfl rfl ?_)
  refine AR rfl rfl rfl (AS (hc:=fun w' ⟨O',hq⟩=>Blk.cell (i:=2) ((y1.st hq (by decide)).1) rfl) rfl rfl rfl ?_)
  refine AK ?_
  refine JX (i:=2) (j:=10) (by kernel_rfl) rfl rfl ?_ ?_
  ·
   replace h7:=(h7.st j1).st z0
   refine CC 4 (by decide) (O:=t5) (Cb Fr.lt h7 s7) rfl rfl fun r3 s3 jA t7 k1 w5=>?_
   have hZ:=k1.lst [] (fun _ h=>h.elim)
   refine BA [] hZ (by kernel_rfl) ?_
   refine JX (i:=5) (j:=10) (by kernel_rfl) rfl rfl ?_ ?_
   ·
    replace u1:=((u1.st j1).st z0).st k1
    refine CC 5 (by decide) (O:=t7) (Cb Fr.lt u1 u5) rfl rfl fun h5 i5 kA u7 v1 v7=>?_
    have hZ:=v1.lst [] (fun _ h=>h.elim)
    refine BA [] hZ (by kernel_rfl) ?_
    refine JX (i:=8) (j:=10) (by kernel_rfl) rfl rfl ?_ ?_
    ·
     replace q1:=(((q1.st j1).st z0).st k1).st v1
     refine CC 6 (by decide) (O:=u7) (Bw Fr.lt q1 g5) rfl rfl fun w7 x7 lA j8 r2 k8=>?_
     have hZ:=r2.lst [] (fun _ h=>h.elim)
     refine BA [] hZ (by kernel_rfl) ?_
     refine AW (fuel:=2) [] [(9,true)] (by kernel_rfl) rfl ?_
     refine Gs rfl rfl rfl rfl ?_
     refine AK ?_
     refine AZ (i:=10) (by kernel_rfl) rfl ?_
     refine CT 7 j8 rfl fun y7 mA l8 j2 t3=>?_
     have hZ:=j2.lst [] (fun _ h=>h.elim)
     refine BA [] hZ (by kernel_rfl) ?_
     refine AZ (i:=11) (by kernel_rfl) rfl ?_
     refine Br t3 rfl rfl rfl (Cj rfl) (allOne rfl) fun m8 s2 t3=>?_
     replace t3:Lc 7 m8 l8 y7 26 [(.slice r3 d5.length s3),(.slice h5 e5.length i5),(.slice w7 f5.length x7),(.slice none 0 0)]:=t3
     refine Dm (by kernel_rfl) ?_
     refine Ck (by kernel_rfl) ?_
     obtain rfl:=sm y2
     exact ⟨(y7,(r3,s3),(h5,i5),(w7,x7)),_,⟨rfl,rfl,rfl,trivial⟩,((((((hB.st j1).st z0).st k1).st v1).st r2).st j2).st s2,((((y1.st k1).st v1).st r2).st j2).st s2,((((h7.st k1).st v1).st r2).st j2).st s2,(((u1.st v1).st r2).st j2).st s2,((q1.st r2).st j2).st s2,((((((t0.st j1).st z0).st k1).st v1).st r2).st j2).st s2,((((n0.st k1).st v1).st r2).st j2).st s2,t3,(((w5.st v1).st r2).st j2).st s2,((v7.st r2).st j2).st s2,(k8.st j2).st s2⟩
    refine CT 7 u7 rfl fun z7 nA n8 t2 i3=>?_
    have hZ:=t2.lst [] (fun _ h=>h.elim)
    refine BA [] hZ (by kernel_rfl) ?_
    refine AZ (i:=8) (by kernel_rfl) rfl ?_
    replace q1:=((((q1.st j1).st z0).st k1).st v1).st t2
    refine CC 6 (by decide) (O:=n8) (Bw Fr.lt q1 g5) rfl rfl fun a8 b8 oA o8 k2 p8=>?_
    have hZ:=k2.lst [] (fun _ h=>h.elim)
    refine BA [] hZ (by kernel_rfl) ?_
    refine AW (fuel:=1) [] [(9,true)] (by kernel_rfl) rfl ?_
    refine Gs rfl rfl rfl rfl ?_
    refine AK ?_
    refine AZ (i:=11) (by kernel_rfl) rfl ?_
    replace i3:=i3.st k2
    refine Br i3 rfl rfl rfl (Cj rfl) (allOne rfl) fun q8 u2 i3=>?_
    replace i3:Lc 7 q8 o8 z7 26 [(.slice r3 d5.length s3),(.slice h5 e5.length i5),(.slice a8 f5.length b8),(.slice none 0 0)]:=i3
    refine Dm (by kernel_rfl) ?_
    refine Ck (by kernel_rfl) ?_
    obtain rfl:=sm y2
    exact ⟨(z7,(r3,s3),(h5,i5),(a8,b8)),_,⟨rfl,rfl,rfl,trivial⟩,((((((hB.st j1).st z0).st k1).st v1).st t2).st k2).st u2,((((y1.st k1).st v1).st t2).st k2).st u2,((((h7.st k1).st v1).st t2).st k2).st u2,(((u1.st v1).st t2).st k2).st u2,(q1.st k2).st u2,((((((t0.st j1).st z0).st k1).st v1).st t2).st k2).st u2,((((n0.st k1).st v1).st t2).st k2).st u2,i3,(((w5.st v1).st t2).st k2).st u2,((v7.st t2).st k2).st u2,p8.st u2⟩
   refine CT 7 t7 rfl fun c8 pA r8 z2 j3=>?_
   have hZ:=z2.lst [] (fun _ h=>h.elim)
   refine BA [] hZ (by kernel_rfl) ?_
   refine AZ (i:=5) (by kernel_rfl) rfl ?_
   replace u1:=(((u1.st j1).st z0).st k1).st z2
   refine CC 5 (by decide) (O:=r8) (Cb Fr.lt u1 u5) rfl rfl fun u3 w3 qA s8 v2 x5=>?_
   have hZ:=v2.lst [] (fun _ h=>h.elim)
   refine BA [] hZ (by kernel_rfl) ?_
   refine AZ (i:=8) (by kernel_rfl) rfl ?_
   replace q1:=((((q1.st j1).st z0).st k1).st z2).st v2
   refine CC 6 (by decide) (O:=s8) (Bw Fr.lt q1 g5) rfl rfl fun x3 y3 t8 y5 a1 z5=>?_
   have hZ:=a1.lst [] (fun _ h=>h.elim)
   refine BA [] hZ (by kernel_rfl) ?_
   refine AW (fuel:=1) [] [(9,true)] (by kernel_rfl) rfl ?_
   refine Gs rfl rfl rfl rfl ?_
   refine AK ?_
   refine AZ (i:=11) (by kernel_rfl) rfl ?_
   replace j3:=(j3.st v2).st a1
   refine Br j3 rfl rfl rfl (Cj rfl) (allOne rfl) fun a6 l1 j3=>?_
   replace j3:Lc 7 a6 y5 c8 26 [(.slice r3 d5.length s3),(.slice u3 e5.length w3),(.slice x3 f5.length y3),(.slice none 0 0)]:=j3
   refine Dm (by kernel_rfl) ?_
   refine Ck (by kernel_rfl) ?_
   obtain rfl:=sm y2
   exact ⟨(c8,(r3,s3),(u3,w3),(x3,y3)),_,⟨rfl,rfl,rfl,trivial⟩,((((((hB.st j1).st z0).st k1).st z2).st v2).st a1).st l1,((((y1.st k1).st z2).st v2).st a1).st l1,((((h7.st k1).st z2).st v2).st a1).st l1,((u1.st v2).st a1).st l1,(q1.st a1).st l1,((((((t0.st j1).st z0).st k1).st z2).st v2).st a1).st l1,((((n0.st k1).st z2).st v2).st a1).st l1,j3,(((w5.st z2).st v2).st a1).st l1,(x5.st a1).st l1,z5.st l1⟩
  refine CT 7 t5 rfl fun z3 u8 b6 w1 z1=>?_
  have hZ:=w1.lst [] (fun _ h=>h.elim)
  refine BA [] hZ (by kernel_rfl) ?_
  refine AZ (i:=2) (by kernel_rfl) rfl ?_
  replace h7:=((h7.st j1).st z0).st w1
  refine CC 4 (by decide) (O:=b6) (Cb Fr.lt h7 s7) rfl rfl fun a4 b4 v8 c6 r1 d6=>?_
  have hZ:=r1.lst [] (fun _ h=>h.elim)
  refine BA [] hZ (by kernel_rfl) ?_
  refine AZ (i:=5) (by kernel_rfl) rfl ?_
  replace u1:=(((u1.st j1).st z0).st w1).st r1
  refine CC 5 (by decide) (O:=c6) (Cb Fr.lt u1 u5) rfl rfl fun c4 d4 w8 e6 m1 f6=>?_
  have hZ:=m1.lst [] (fun _ h=>h.elim)
  refine BA [] hZ (by kernel_rfl) ?_
  refine AZ (i:=8) (by kernel_rfl) rfl ?_
  replace q1:=((((q1.st j1).st z0).st w1).st r1).st m1
  refine CC 6 (by decide) (O:=e6) (Bw Fr.lt q1 g5) rfl rfl fun e4 f4 x8 g6 b1 h6=>?_
  have hZ:=b1.lst [] (fun _ h=>h.elim)
  refine BA [] hZ (by kernel_rfl) ?_
  refine AW (fuel:=1) [] [(9,true)] (by kernel_rfl) rfl ?_
  refine Gs rfl rfl rfl rfl ?_
  refine AK ?_
  refine AZ (i:=11) (by kernel_rfl) rfl ?_
  replace z1:=((z1.st r1).st m1).st b1
  refine Br z1 rfl rfl rfl (Cj rfl) (allOne rfl) fun i6 n1 z1=>?_
  replace z1:Lc 7 i6 g6 z3 26 [(.slice a4 d5.length b4),(.slice c4 e5.length d4),(.slice e4 f5.length f4),(.slice none 0 0)]:=z1
  refine Dm (by kernel_rfl) ?_
  refine Ck (by kernel_rfl) ?_
  obtain rfl:=sm y2
  exact ⟨(z3,(a4,b4),(c4,d4),(e4,f4)),_,⟨rfl,rfl,rfl,trivial⟩,((((((hB.st j1).st z0).st w1).st r1).st m1).st b1).st n1,((((y1.st w1).st r1).st m1).st b1).st n1,(((h7.st r1).st m1).st b1).st n1,((u1.st m1).st b1).st n1,(q1.st b1).st n1,((((((t0.st j1).st z0).st w1).st r1).st m1).st b1).st n1,((((n0.st w1).st r1).st m1).st b1).st n1,z1,((d6.st m1).st b1).st n1,(f6.st b1).st n1,h6.st n1⟩
 replace hB:=(hB.st j1).st z0
 replace h7:=(h7.st j1).st z0
 replace u1:=(u1.st j1).st z0
 replace q1:=(q1.st j1).st z0
 replace t0:=(t0.st j1).st z0
 replace y1:=y1.st z0
 rintro y8 z8 ⟨a0,j6,g4,hB,y1,h7,u1,q1,t0,n0,s0,c1,d1,e1⟩
 refine AP _ g4 ?_
 refine Al (Al (Aj (AF rfl rfl (AE (hc:=Blk.cell (i:=3) (y1.1) rfl) rfl rfl ?_))))
 refine AO rfl rfl ?_
 have k3:x0.ops.length≤9223372036854775807:=Nat.le_trans t0.len.2.1 t0.len.2.2
 have a9:inI64 (x0.ops.length:Int):=rngNat k3
 refine Am rfl rfl (o_z ?_)
 obtain ⟨l3,h4,hm⟩:=bs hm
 refine AM (aft l3 (fun (l0:(List Opr)) (f0:(Option Addr×Nat))=>[(2,(.pointer (some ⟨i2,0,none⟩))),(3,(.pointer (some ⟨a0.1,0,none⟩)))]) (fun l0 f0 w'=>∃ O':Lab,Bs w A w' O'∧Lc 3 w' O' i2 26 [(.slice none 0 0),(.slice none 0 0),(.slice none 0 0),(.slice none 0 0)]∧Lc 7 w' O' a0.1 26 [(.slice a0.2.1.1 b0.1.length a0.2.1.2),(.slice a0.2.2.1.1 b0.2.1.length a0.2.2.1.2),(.slice a0.2.2.2.1 b0.2.2.length a0.2.2.2.2),(.slice f0.1 l0.length f0.2)]∧Rw 4 w' O' 3 (.slice a0.2.1.1 b0.1.length a0.2.1.2) b0.1∧Rw 5 w' O' 3 (.slice a0.2.2.1.1 b0.2.1.length a0.2.2.1.2) b0.2.1∧Rw 6 w' O' 123 (.slice a0.2.2.2.1 b0.2.2.length a0.2.2.2.2) b0.2.2∧Rw 13 w' O' 61 (.slice f0.1 l0.length f0.2) l0)) ?_ ?_
 ·
  refine AN (BI (σ:=(List Opr)) (X:=(Option Addr×Nat)) (x0.ops.length) h4 rfl k3 (fun (l0:(List Opr)) (f0:(Option Addr×Nat))=>[(2,(.pointer (some ⟨i2,0,none⟩))),(3,(.pointer (some ⟨a0.1,0,none⟩))),(20,(.slice w2 x0.ops.length x2))]) _ (fun l0 f0 w'=>∃ O':Lab,Bs w A w' O'∧Lc 3 w' O' i2 26 [(.slice none 0 0),(.slice none 0 0),(.slice none 0 0),(.slice none 0 0)]∧Lc 7 w' O' a0.1 26 [(.slice a0.2.1.1 b0.1.length a0.2.1.2),(.slice a0.2.2.1.1 b0.2.1.length a0.2.2.1.2),(.slice a0.2.2.2.1 b0.2.2.length a0.2.2.2.2),(.slice f0.1 l0.length f0.2)]∧Rw 4 w' O' 3 (.slice a0.2.1.1 b0.1.length a0.2.1.2) b0.1∧Rw 5 w' O' 3 (.slice a0.2.2.1.1 b0.2.1.length a0.2.2.1.2) b0.2.1∧Rw 6 w' O' 123 (.slice a0.2.2.2.1 b0.2.2.length a0.2.2.2.2) b0.2.2∧Rw 13 w' O' 61 (.slice f0.1 l0.length f0.2) l0∧Vb w' (Fr 0 w' O') (.slice w2 x0.ops.length x2) x0.ops) _ (none,0) ⟨j6,hB,n0,s0,c1,d1,e1,(Rw.nil 13 (by decide)),t0⟩ ⟨rfl,rfl,rfl,rfl,rfl,trivial⟩ (fun _ _=>⟨rfl,rfl⟩) (fun _ _=>⟨rfl,rfl,trivial⟩) (fun _ _ _ ⟨O',hB,n0,s0,c1,d1,e1,e0,t0⟩=>⟨O',hB,n0,s0,c1,d1,e1,e0⟩) ⟨rfl,rfl,rfl⟩ ⟨rfl,rfl⟩ ?_)
  rintro m3 c0 l0 f0 b9 d8 g3 ⟨k6,hB,n0,s0,c1,d1,e1,e0,t0⟩ m0 j5 k5
  have rk156:inI64 (m3:Int):=rngK g3 k3
  refine Al (Aj ?_)
  obtain ⟨d9,e9,e8,i4,j4,k4,f9,g9,rfl,a3,u0,l6,m6⟩:=t0.elem' g3
  obtain ⟨n6,o6,rfl⟩:=a3.form
  obtain ⟨a2,b2,rfl⟩:=u0.form
  refine Bo (hA:=i4) (hj:=rfl) (hlt:=j4) rfl rfl rfl ?_
  refine Bn (hl:=rfl) (hc:=k4) rfl rfl ?_
  refine CT 8 k6 rfl fun c2 h9 l4 h0 d0=>?_
  refine Br d0 rfl rfl rfl (Cj rfl) (allOne rfl) fun p6 i0 d0=>?_
  replace d0:Lc 8 p6 l4 c2 61 [(.string c0.name),(.int .i64 c0.cost),(.slice n6 c0.pre.length o6),(.slice a2 c0.effs.length b2)]:=d0
  refine o_z ?_
  refine Al (Aj (AF rfl rfl (AE (hc:=Blk.cell (i:=2) (d0.1) rfl) rfl rfl ?_)))
  obtain ⟨f1,q6,m0⟩:=bs m0
  replace a3:=(a3.st h0).st i0
  refine CC 9 (by decide) (O:=l4) (Bw Fr.lt a3 q6) rfl rfl fun d2 e2 i9 m4 j0 k0=>?_
  refine AF rfl rfl ?_
  replace d0:=d0.st j0
  refine Br d0 rfl rfl rfl (Cj rfl) (allOne rfl) fun r6 g0 d0=>?_
  replace d0:Lc 8 r6 m4 c2 61 [(.string c0.name),(.int .i64 c0.cost),(.slice d2 f1.length e2),(.slice a2 c0.effs.length b2)]:=d0
  refine o_z ?_
  refine Al (Aj (At rfl rfl (o_z ?_)))
  refine Al (Al (Aj (AF rfl rfl (AE (hc:=Blk.cell (i:=3) (d0.1) rfl) rfl rfl ?_))))
  refine AO rfl rfl ?_
  replace u0:=(((u0.st h0).st i0).st j0).st g0
  have n3:c0.effs.length≤9223372036854775807:=Nat.le_trans u0.len.2.1 u0.len.2.2
  have j9:inI64 (c0.effs.length:Int):=rngNat n3
  refine Am rfl rfl (o_z ?_)
  obtain ⟨o3,n4,m0⟩:=bs m0
  refine AM (aft o3 (fun (o1:(List Eff)) (v0:(Option Addr×Nat))=>[(2,(.pointer (some ⟨i2,0,none⟩))),(3,(.pointer (some ⟨a0.1,0,none⟩))),(5,(.pointer (some ⟨c2,0,none⟩))),(6,(.slice v0.1 o1.length v0.2)),(20,(.slice w2 x0.ops.length x2)),(21,(.int .i64 (x0.ops.length:Int))),(22,(.int .i64 (m3:Int)))]) (fun o1 v0 w'=>∃ O':Lab,Bs w A w' O'∧Lc 3 w' O' i2 26 [(.slice none 0 0),(.slice none 0 0),(.slice none 0 0),(.slice none 0 0)]∧Lc 7 w' O' a0.1 26 [(.slice a0.2.1.1 b0.1.length a0.2.1.2),(.slice a0.2.2.1.1 b0.2.1.length a0.2.2.1.2),(.slice a0.2.2.2.1 b0.2.2.length a0.2.2.2.2),(.slice f0.1 l0.length f0.2)]∧Rw 4 w' O' 3 (.slice a0.2.1.1 b0.1.length a0.2.1.2) b0.1∧Rw 5 w' O' 3 (.slice a0.2.2.1.1 b0.2.1.length a0.2.2.1.2) b0.2.1∧Rw 6 w' O' 123 (.slice a0.2.2.2.1 b0.2.2.length a0.2.2.2.2) b0.2.2∧Rw 13 w' O' 61 (.slice f0.1 l0.length f0.2) l0∧Lc 8 w' O' c2 61 [(.string c0.name),(.int .i64 c0.cost),(.slice d2 f1.length e2),(.slice a2 c0.effs.length b2)]∧Rw 9 w' O' 123 (.slice d2 f1.length e2) f1∧Vb w' (Fr 0 w' O') (.slice a2 c0.effs.length b2) c0.effs∧Rw 12 w' O' 76 (.slice v0.1 o1.length v0.2) o1∧Vb w' (Fr 0 w' O') (.slice w2 x0.ops.length x2) x0.ops)) ?_ ?_
  ·
   refine AN ?_
   replace hB:=(((hB.st h0).st i0).st j0).st g0
   replace t0:=(((t0.st h0).st i0).st j0).st g0
   replace n0:=(((n0.st h0).st i0).st j0).st g0
   replace s0:=(((s0.st h0).st i0).st j0).st g0
   replace c1:=(((c1.st h0).st i0).st j0).st g0
   replace d1:=(((d1.st h0).st i0).st j0).st g0
   replace e1:=(((e1.st h0).st i0).st j0).st g0
   replace e0:=(((e0.st h0).st i0).st j0).st g0
   replace k0:=k0.st g0
   refine BI (σ:=(List Eff)) (X:=(Option Addr×Nat)) (c0.effs.length) n4 rfl n3 (fun (o1:(List Eff)) (v0:(Option Addr×Nat))=>[(2,(.pointer (some ⟨i2,0,none⟩))),(3,(.pointer (some ⟨a0.1,0,none⟩))),(5,(.pointer (some ⟨c2,0,none⟩))),(6,(.slice v0.1 o1.length v0.2)),(20,(.slice w2 x0.ops.length x2)),(21,(.int .i64 (x0.ops.length:Int))),(22,(.int .i64 (m3:Int))),(31,(.slice a2 c0.effs.length b2))]) _ (fun o1 v0 w'=>∃ O':Lab,Bs w A w' O'∧Lc 3 w' O' i2 26 [(.slice none 0 0),(.slice none 0 0),(.slice none 0 0),(.slice none 0 0)]∧Lc 7 w' O' a0.1 26 [(.slice a0.2.1.1 b0.1.length a0.2.1.2),(.slice a0.2.2.1.1 b0.2.1.length a0.2.2.1.2),(.slice a0.2.2.2.1 b0.2.2.length a0.2.2.2.2),(.slice f0.1 l0.length f0.2)]∧Rw 4 w' O' 3 (.slice a0.2.1.1 b0.1.length a0.2.1.2) b0.1∧Rw 5 w' O' 3 (.slice a0.2.2.1.1 b0.2.1.length a0.2.2.1.2) b0.2.1∧Rw 6 w' O' 123 (.slice a0.2.2.2.1 b0.2.2.length a0.2.2.2.2) b0.2.2∧Rw 13 w' O' 61 (.slice f0.1 l0.length f0.2) l0∧Lc 8 w' O' c2 61 [(.string c0.name),(.int .i64 c0.cost),(.slice d2 f1.length e2),(.slice a2 c0.effs.length b2)]∧Rw 9 w' O' 123 (.slice d2 f1.length e2) f1∧Vb w' (Fr 0 w' O') (.slice a2 c0.effs.length b2) c0.effs∧Rw 12 w' O' 76 (.slice v0.1 o1.length v0.2) o1∧Vb w' (Fr 0 w' O') (.slice w2 x0.ops.length x2) x0.ops) _ (none,0) ⟨m4,hB,n0,s0,c1,d1,e1,e0,d0,k0,u0,(Rw.nil 12 (by decide)),t0⟩ ⟨rfl,rfl,rfl,rfl,rfl,rfl,rfl,rfl,rfl,rfl,trivial⟩ (fun _ _=>⟨rfl,rfl⟩) (fun _ _=>⟨rfl,rfl,rfl,rfl,rfl,rfl,rfl,trivial⟩) (fun _ _ _ ⟨O',hB,n0,s0,c1,d1,e1,e0,d0,k0,u0,g1,t0⟩=>⟨O',hB,n0,s0,c1,d1,e1,e0,d0,k0,u0,g1,t0⟩) ⟨rfl,rfl,rfl⟩ ⟨rfl,rfl⟩ ?_
   rintro s6 h1 o1 v0 k9 f8 h3 ⟨t6,hB,n0,s0,c1,d1,e1,e0,d0,k0,u0,g1,t0⟩ x1 l5 m5
   have rk213:inI64 (s6:Int):=rngK h3 n3
   refine Al (Aj ?_)
   obtain ⟨l9,m9,g8,o4,p4,q4,n9,rfl,b3,u6,w6⟩:=u0.elem' h3
   obtain ⟨x6,y6,rfl⟩:=b3.form
   refine Bo (hA:=o4) (hj:=rfl) (hlt:=p4) rfl rfl rfl ?_
   refine Bn (hl:=rfl) (hc:=q4) rfl rfl ?_
   refine CT 10 t6 rfl fun r4 o9 s4 o0 w0=>?_
   refine Br w0 rfl rfl rfl (Cj rfl) (allOne rfl) fun z6 p0 w0=>?_
   replace w0:Lc 10 z6 s4 r4 76 [(.slice x6 h1.cond.length y6),(.int .i64 h1.var),(.int .i64 h1.val)]:=w0
   refine o_z ?_
   refine Al (Aj (AF rfl rfl (AE (hc:=Blk.cell (i:=0) (w0.1) rfl) rfl rfl ?_)))
   obtain ⟨c3,a7,x1⟩:=bs x1
   replace b3:=(b3.st o0).st p0
   refine CC 11 (by decide) (O:=s4) (Bw Fr.lt b3 a7) rfl rfl fun t4 u4 p9 b7 q0 l2=>?_
   refine AF rfl rfl ?_
   replace w0:=w0.st q0
   refine Br w0 rfl rfl rfl (Cj rfl) (allOne rfl) fun c7 r0 w0=>?_
   replace w0:Lc 10 c7 b7 r4 76 [(.slice t4 c3.length u4),(.int .i64 h1.var),(.int .i64 h1.val)]:=w0
   refine o_z ?_
   refine Aj (Am rfl rfl (Bn (hl:=rfl) (hc:=(w0.1).cellsAt) rfl rfl ?_))
   replace l2:=l2.st r0
   obtain ⟨q9,y0,l2⟩:=l2.freeze
   obtain ⟨r9,p3,x1⟩:=bs x1
   obtain ⟨p3,d7,e7⟩:=BY p3
   replace g1:=((((g1.st o0).st p0).st q0).st r0).st y0
   refine DV rfl (a:=(⟨c3,h1.var,h1.val⟩:Eff)) g1 (Vb.ofAgg (cs:=[(.slice t4 c3.length u4),(.int .i64 h1.var),(.int .i64 h1.val)]) (x:=(⟨c3,h1.var,h1.val⟩:Eff)) rfl ⟨_,rfl,l2,u6,w6⟩) (fun _=>rfl) rfl (by decide) (by decide) d7 e7 ⟨rfl,rfl⟩ fun s9 f7 g7 t9 u9 i1 w4=>?_
   rw [← p3] at w4 ⊢
   refine At rfl rfl (o_z ?_)
   obtain rfl:=sm x1
   exact show Exists _ from ⟨_,(f7,g7),rfl,⟨rfl,rfl,rfl,rfl,rfl,rfl,rfl,rfl,rfl,rfl,trivial⟩,_,(((((hB.st o0).st p0).st q0).st r0).st y0).st i1,(((((n0.st o0).st p0).st q0).st r0).st y0).st i1,(((((s0.st o0).st p0).st q0).st r0).st y0).st i1,(((((c1.st o0).st p0).st q0).st r0).st y0).st i1,(((((d1.st o0).st p0).st q0).st r0).st y0).st i1,(((((e1.st o0).st p0).st q0).st r0).st y0).st i1,(((((e0.st o0).st p0).st q0).st r0).st y0).st i1,(((((d0.st o0).st p0).st q0).st r0).st y0).st i1,(((((k0.st o0).st p0).st q0).st r0).st y0).st i1,(((((u0.st o0).st p0).st q0).st r0).st y0).st i1,w4,(((((t0.st o0).st p0).st q0).st r0).st y0).st i1⟩
  replace hB:=(((hB.st h0).st i0).st j0).st g0
  replace t0:=(((t0.st h0).st i0).st j0).st g0
  replace n0:=(((n0.st h0).st i0).st j0).st g0
  replace s0:=(((s0.st h0).st i0).st j0).st g0
  replace c1:=(((c1.st h0).st i0).st j0).st g0
  replace d1:=(((d1.st h0).st i0).st j0).st g0
  replace e1:=(((e1.st h0).st i0).st j0).st g0
  replace e0:=(((e0.st h0).st i0).st j0).st g0
  replace k0:=k0.st g0
  rintro v9 w9 ⟨d3,e3,rfl,x4,i7,hB,n0,s0,c1,d1,e1,e0,d0,k0,u0,g1,t0⟩
  replace m0:=Ba m0
  refine AP _ x4 ?_
  refine Al (Aj (Am rfl rfl (AF rfl rfl (Br d0 rfl rfl rfl (Cj rfl) (allOne rfl) fun j7 p1 d0=>?_))))
  replace d0:Lc 8 j7 i7 c2 61 [(.string c0.name),(.int .i64 c0.cost),(.slice d2 f1.length e2),(.slice e3.1 d3.length e3.2)]:=d0
  refine o_z ?_
  refine Aj (AF rfl rfl ?_)
  replace s0:=s0.st p1
  refine AE (hc:=Blk.cell (i:=3) (s0.1) rfl) rfl rfl ?_
  refine Bn (hl:=rfl) (hc:=(d0.1).cellsAt) rfl rfl ?_
  replace k0:=k0.st p1
  obtain ⟨x9,s1,k0⟩:=k0.freeze
  replace g1:=(g1.st p1).st s1
  obtain ⟨y9,t1,g1⟩:=g1.freeze
  obtain ⟨k7,q3,m0⟩:=bs m0
  obtain ⟨q3,l7,m7⟩:=BY q3
  replace e0:=((e0.st p1).st s1).st t1
  replace k0:=k0.st t1
  refine DV rfl (a:=(⟨c0.name,c0.cost,f1,d3⟩:Opr)) e0 (Vb.ofAgg (cs:=[(.string c0.name),(.int .i64 c0.cost),(.slice d2 f1.length e2),(.slice e3.1 d3.length e3.2)]) (x:=(⟨c0.name,c0.cost,f1,d3⟩:Opr)) rfl ⟨_,_,rfl,k0,g1,l6,m6⟩) (fun _=>rfl) rfl (by decide) (by decide) l7 m7 ⟨rfl,rfl⟩ fun z9 y4 z4 aA n7 f2 a5=>?_
  rw [← q3] at a5 ⊢
  refine AF rfl rfl ?_
  replace s0:=((s0.st s1).st t1).st f2
  refine Br s0 rfl rfl rfl (Cj rfl) (allOne rfl) fun o7 g2 s0=>?_
  replace s0:Lc 7 o7 n7 a0.1 26 [(.slice a0.2.1.1 b0.1.length a0.2.1.2),(.slice a0.2.2.1.1 b0.2.1.length a0.2.2.1.2),(.slice a0.2.2.2.1 b0.2.2.length a0.2.2.2.2),(.slice y4 k7.length z4)]:=s0
  refine o_z ?_
  obtain rfl:=sm m0
  exact show Exists _ from ⟨_,(y4,z4),rfl,⟨rfl,rfl,rfl,rfl,rfl,trivial⟩,_,((((hB.st p1).st s1).st t1).st f2).st g2,((((n0.st p1).st s1).st t1).st f2).st g2,s0,((((c1.st p1).st s1).st t1).st f2).st g2,((((d1.st p1).st s1).st t1).st f2).st g2,((((e1.st p1).st s1).st t1).st f2).st g2,a5.st g2,((((t0.st p1).st s1).st t1).st f2).st g2⟩
 rintro bA cA ⟨f3,h2,rfl,b5,p7,hB,n0,s0,c1,d1,e1,e0⟩
 replace hm:=Ba hm
 refine AP _ b5 ?_
 refine Al (Aj (Bn (hl:=rfl) (hc:=(s0.1).cellsAt) rfl rfl ?_))
 refine Br n0 rfl rfl rfl (Cj rfl) (allOne rfl) fun c5 m2 n0=>?_
 replace n0:Lc 3 c5 p7 i2 26 [(.slice a0.2.1.1 b0.1.length a0.2.1.2),(.slice a0.2.2.1.1 b0.2.1.length a0.2.2.1.2),(.slice a0.2.2.2.1 b0.2.2.length a0.2.2.2.2),(.slice h2.1 f3.length h2.2)]:=n0
 refine o_z ?_
 refine AJ ?_
 replace c1:=c1.st m2
 obtain ⟨dA,n2,c1⟩:=c1.freeze
 replace d1:=(d1.st m2).st n2
 obtain ⟨eA,o2,d1⟩:=d1.freeze
 replace e1:=((e1.st m2).st n2).st o2
 obtain ⟨fA,p2,e1⟩:=e1.freeze
 replace e0:=(((e0.st m2).st n2).st o2).st p2
 obtain ⟨q7,q2,e0⟩:=e0.freeze
 obtain rfl:=sm hm
 replace hB:=((((hB.st m2).st n2).st o2).st p2).st q2
 replace n0:=(((n0.st n2).st o2).st p2).st q2
 replace c1:=((c1.st o2).st p2).st q2
 replace d1:=(d1.st p2).st q2
 replace e1:=e1.st q2
 exact ret1v rfl (Hx (cs:=[(.slice a0.2.1.1 b0.1.length a0.2.1.2),(.slice a0.2.2.1.1 b0.2.1.length a0.2.2.1.2),(.slice a0.2.2.2.1 b0.2.2.length a0.2.2.2.2),(.slice h2.1 f3.length h2.2)]) rfl rfl n0.1.cellsAt) ⟨hB.ext,(Vb.mono (F:=Fr 0 c5 q7) (Vb.ofAgg (cs:=[(.slice a0.2.1.1 b0.1.length a0.2.1.2),(.slice a0.2.2.1.1 b0.2.1.length a0.2.2.1.2),(.slice a0.2.2.2.1 b0.2.2.length a0.2.2.2.2),(.slice h2.1 f3.length h2.2)]) (x:=(⟨b0.1,b0.2.1,b0.2.2,f3⟩:Tsk)) rfl ⟨_,_,_,_,rfl,c1,d1,e1,e0⟩) hB.out)⟩
noncomputable def Bu (x0:List (List Arc)) (x1:List Int):Option ((List Int)×(List Int)) :=
  bnd (mkI 8 (0:Int) (x0.length:Int)) fun u7=>bnd (mkI 8 (0:Int) (x0.length:Int)) fun u9=>bnd (some (u7,u9):Option ((List Int)×(List Int))) fun y11=>bnd (rngN (ρ:=(List Int)×(List Int)) (fun (k77:Nat) (s75:(List Int)×(List Int))=>bnd (s75.1[k77]?) fun a104=>bnd (s75.2[k77]?) fun a116=>some (.next ((s75.1.set k77 1125899906842624),(s75.2.set k77 1125899906842624)))) y11.1.length (y11.1,y11.2)) fun res73=>fin res73 fun (s132:(List Int)×(List Int))=>bnd (DJ) fun q134=>bnd q134 fun o144=>bnd (rng (ρ:=(List Int)×(List Int)) (fun (k151:Nat) (a152:Int) (s149:(List Int)×(List Int)×Que)=>bnd (atI s149.1 a152) fun a180=>bnd (atI s149.2.1 a152) fun a194=>bnd (BJ s149.2.2 0 0 a152) fun q208=>some (.next ((s149.1.set (a152:Int).toNat 0),(s149.2.1.set (a152:Int).toNat 0),q208.2))) x1 0 (s132.1,s132.2,o144)) fun res147=>fin res147 fun (s222:(List Int)×(List Int)×Que)=>bnd (lop (ρ:=(List Int)×(List Int)) (fun (s226:(List Int)×(List Int)×Que)=>bnd (CE s226.2.2) fun q249=>if 0 < q249 then (bnd (Cu s226.2.2) fun q260=>if q260.2.2.2.1.n≠0 then (some (.brk (s226.1,s226.2.1,q260.2.2.2.2))) else (bnd (bnd (atI s226.1 q260.2.2.1) fun a285=>if q260.1≠a285 then (some true) else (bnd (atI s226.2.1 q260.2.2.1) fun a298=>if q260.2.1≠a298 then (some true) else (some false)):Option Bool) fun y281=>if y281=true then (some (.next (s226.1,s226.2.1,q260.2.2.2.2))) else (bnd (atI x0 q260.2.2.1) fun a316=>bnd (rng (ρ:=Ctl ((List Int)×(List Int)×Que) ((List Int)×(List Int))) (fun (k337:Nat) (a338:Arc) (s335:(List Int)×(List Int)×Que)=>bnd (chkI (q260.1 + a338.weight)) fun n375=>bnd (chkI (q260.2.1 + 1)) fun n378=>bnd (bnd (atI s335.1 a338.dst) fun a385=>if a385 < n375 then (some true) else (bnd (atI s335.1 a338.dst) fun a398=>if n375=a398 then (bnd (atI s335.2.1 a338.dst) fun a411=>if a411≤n378 then (some true) else (some false)) else (some false)):Option Bool) fun y381=>if y381=true then (some (.next (s335.1,s335.2.1,s335.2.2))) else (bnd (atI s335.1 a338.dst) fun a429=>bnd (atI s335.2.1 a338.dst) fun a443=>bnd (BJ s335.2.2 n375 n378 a338.dst) fun q457=>if q457.1.n≠0 then (bnd (Dr x0 (s335.1.set (a338.dst:Int).toNat n375) (s335.2.1.set (a338.dst:Int).toNat n378)) fun q472=>some (.ret (.ret (q472.1,q472.2)))) else (some (.next ((s335.1.set (a338.dst:Int).toNat n375),(s335.2.1.set (a338.dst:Int).toNat n378),q457.2))))) a316 0 (s226.1,s226.2.1,q260.2.2.2.2)) fun res333=>fin res333 fun (s491:(List Int)×(List Int)×Que)=>some (.next (s491.1,s491.2.1,s491.2.2))))) else (some (.brk (s226.1,s226.2.1,s226.2.2)))) (s222.1,s222.2.1,s222.2.2)) fun res224=>fin res224 fun (s497:(List Int)×(List Int)×Que)=>some (s497.1,s497.2.1)
theorem EK {w:World} {A:Nat→Prop} (hA:∀ k,A k→k < w.heap.size) {vx0:Value} {x0:List (List Arc)} (f0:Vb w A vx0 x0) {vx1:Value} {x1:List Int} (y0:Vb w A vx1 x1) {r:(List Int)×(List Int)} (hm:Bu x0 x1=some r) :
    Fn Tryz.prog 60 [vx0,vx1] w fun v w'=>Ext w w'∧T2 w' (upA A w w') v r:=by
 obtain ⟨O,hB,z8⟩:=enter hA
 replace f0:=f0.mono z8
 obtain ⟨A3,c4,rfl⟩:=f0.form
 replace y0:=y0.mono z8
 obtain ⟨A5,c6,rfl⟩:=y0.form
 refine AI Tryz.func60 rfl Tryz.ntmps60 rfl ?_
 unfold Bu at hm
 refine Al (Aj (At rfl rfl (At rfl rfl (o_z ?_))))
 refine Al ?_
 obtain ⟨u7,e8,hm⟩:=bs hm
 obtain ⟨u9,a9,hm⟩:=bs hm
 obtain ⟨j0,f3,hm⟩:=bs hm
 refine AM (fun l' w'=>∃ (a0:(Option Addr×Nat)×(Option Addr×Nat)) (O':Lab),subs l' [(0,(.slice A3 x0.length c4)),(1,(.slice A5 x1.length c6)),(6,(.slice a0.1.1 j0.1.length a0.1.2)),(7,(.slice a0.2.1 j0.2.length a0.2.2))]∧Bs w A w' O'∧Vb w' (Fr 0 w' O') (.slice A3 x0.length c4) x0∧Vb w' (Fr 0 w' O') (.slice A5 x1.length c6) x1∧Rw 2 w' O' 3 (.slice a0.1.1 j0.1.length a0.1.2) j0.1∧Rw 3 w' O' 3 (.slice a0.2.1 j0.2.length a0.2.2) j0.2) ?_ ?_
 ·
  refine BD [] O ?_
  refine AW (fuel:=4) [] [(0,true),(1,true),(3,true),(4,true)] (by kernel_rfl) rfl ?_
  refine AG rfl rfl rfl (Ju rfl rfl rfl ?_)
  have fA:x0.length≤9223372036854775807:=Nat.le_trans f0.len.2.1 f0.len.2.2
  have iG:inI64 (x0.length:Int):=rngNat fA
  refine AG rfl rfl rfl (Ju rfl rfl rfl ?_)
  have gA:x0.length≤9223372036854775807:=Nat.le_trans f0.len.2.1 f0.len.2.2
  have jG:inI64 (x0.length:Int):=rngNat gA
  refine AK ?_
  refine JX (i:=2) (j:=5) (by kernel_rfl) rfl rfl ?_ ?_
  ·
   obtain ⟨iA,jA,kA,lA,mA⟩:=Dh e8
   refine Ft 2 (by decide) O (z0:=(0:Int)) rfl rfl rfl rfl rfl jA (vInt (show inI64 0 from by decide)) kA lA rfl fun nA kG oA s5 b9=>?_
   rw [← mA] at b9 ⊢
   have hZ:=s5.lst [] (fun _ h=>h.elim)
   refine BA [] hZ (by kernel_rfl) ?_
   refine AW (fuel:=2) [] [(6,true)] (by kernel_rfl) rfl ?_
   refine Eb rfl rfl rfl (AK ?_)
   refine AZ (i:=5) (by kernel_rfl) rfl ?_
   obtain ⟨pA,qA,rA,sA,tA⟩:=Dh a9
   refine Ft 3 (by decide) oA (z0:=(0:Int)) rfl rfl rfl rfl rfl qA (vInt (show inI64 0 from by decide)) rA sA rfl fun uA lG mG g3 c9=>?_
   rw [← tA] at c9 ⊢
   have hZ:=g3.lst [] (fun _ h=>h.elim)
   refine BA [] hZ (by kernel_rfl) ?_
   refine AW (fuel:=0) [] [(7,true)] (by kernel_rfl) rfl ?_
   refine Eb rfl rfl rfl (AK ?_)
   refine Ck (by kernel_rfl) ?_
   obtain rfl:=sm f3
   exact ⟨(((some ⟨nA,0,none⟩),iA),((some ⟨uA,0,none⟩),pA)),_,⟨rfl,rfl,rfl,rfl,trivial⟩,(hB.st s5).st g3,(f0.st s5).st g3,(y0.st s5).st g3,b9.st g3,c9⟩
  obtain ⟨vA,wA,xA,yA,zA⟩:=Dh a9
  refine Ft 3 (by decide) O (z0:=(0:Int)) rfl rfl rfl rfl rfl wA (vInt (show inI64 0 from by decide)) xA yA rfl fun aB nG bB t5 d9=>?_
  rw [← zA] at d9 ⊢
  have hZ:=t5.lst [] (fun _ h=>h.elim)
  refine BA [] hZ (by kernel_rfl) ?_
  refine AZ (i:=2) (by kernel_rfl) rfl ?_
  obtain ⟨cB,dB,eB,fB,gB⟩:=Dh e8
  refine Ft 2 (by decide) bB (z0:=(0:Int)) rfl rfl rfl rfl rfl dB (vInt (show inI64 0 from by decide)) eB fB rfl fun iB oG pG h3 e9=>?_
  rw [← gB] at e9 ⊢
  have hZ:=h3.lst [] (fun _ h=>h.elim)
  refine BA [] hZ (by kernel_rfl) ?_
  refine AW (fuel:=0) [] [(6,true),(7,true)] (by kernel_rfl) rfl ?_
  refine Eb rfl rfl rfl (Eb rfl rfl rfl (AK ?_))
  refine Ck (by kernel_rfl) ?_
  obtain rfl:=sm f3
  exact ⟨(((some ⟨iB,0,none⟩),cB),((some ⟨aB,0,none⟩),vA)),_,⟨rfl,rfl,rfl,rfl,trivial⟩,(hB.st t5).st h3,(f0.st t5).st h3,(y0.st t5).st h3,e9,d9.st h3⟩
 rintro qG rG ⟨a0,jB,y5,hB,f0,y0,z5,kB⟩
 refine AP _ y5 ?_
 refine Al (Al (Aj (Am rfl rfl (AO rfl rfl ?_))))
 have a6:j0.1.length≤9223372036854775807:=Nat.le_trans z5.len.2.1 z5.len.2.2
 have sG:inI64 (j0.1.length:Int):=rngNat a6
 refine Am rfl rfl (o_z ?_)
 obtain ⟨i3,b6,hm⟩:=bs hm
 refine AM (aft i3 (fun (d2:(List Int)×(List Int)) (u5:Unit)=>[(0,(.slice A3 x0.length c4)),(1,(.slice A5 x1.length c6)),(6,(.slice a0.1.1 j0.1.length a0.1.2)),(7,(.slice a0.2.1 j0.2.length a0.2.2))]) (fun d2 u5 w'=>∃ O':Lab,Bs w A w' O'∧Vb w' (Fr 0 w' O') (.slice A3 x0.length c4) x0∧Vb w' (Fr 0 w' O') (.slice A5 x1.length c6) x1∧Rw 2 w' O' 3 (.slice a0.1.1 j0.1.length a0.1.2) d2.1∧Rw 3 w' O' 3 (.slice a0.2.1 j0.2.length a0.2.2) d2.2)) ?_ ?_
 ·
  refine AN (Jw (σ:=(List Int)×(List Int)) (X:=Unit) (j0.1.length) b6 a6 (fun (d2:(List Int)×(List Int)) (u5:Unit)=>[(0,(.slice A3 x0.length c4)),(1,(.slice A5 x1.length c6)),(6,(.slice a0.1.1 j0.1.length a0.1.2)),(7,(.slice a0.2.1 j0.2.length a0.2.2))]) _ (fun d2 u5 w'=>∃ O':Lab,Bs w A w' O'∧Vb w' (Fr 0 w' O') (.slice A3 x0.length c4) x0∧Vb w' (Fr 0 w' O') (.slice A5 x1.length c6) x1∧Rw 2 w' O' 3 (.slice a0.1.1 j0.1.length a0.1.2) d2.1∧Rw 3 w' O' 3 (.slice a0.2.1 j0.2.length a0.2.2) d2.2) _ () ⟨jB,hB,f0,y0,z5,kB⟩ ⟨rfl,rfl,rfl,rfl,rfl,rfl,trivial⟩ (fun _ _=>⟨rfl,rfl⟩) (fun _ _=>⟨rfl,rfl,rfl,rfl,trivial⟩) (fun _ _ _ ⟨O',hB,f0,y0,a1,u0⟩=>⟨O',hB,f0,y0,a1,u0⟩) ⟨rfl,rfl,rfl⟩ ⟨rfl,rfl⟩ ?_)
  rintro lB d2 u5 tG mB d6 ⟨uG,hB,f0,y0,a1,u0⟩ p1 e6 f6
  have rk77:inI64 (lB:Int):=rngKN d6 a6
  refine Al (Aj (Am rfl rfl (At rfl rfl (o_z ?_))))
  refine Aj (Am rfl rfl (Am rfl rfl (Am rfl rfl (Am rfl rfl ?_))))
  obtain ⟨nB,j3,p1⟩:=bs p1
  obtain ⟨oB,pB,f9,e2,k3,g9,rfl,qB⟩:=a1.elem j3
  refine Bo (hA:=e2) (hj:=rfl) (hlt:=k3) rfl rfl rfl ?_
  refine CU rfl a1 (a:=1125899906842624) (vInt (show inI64 (1125899906842624) from by decide)) e2 rfl rfl (AC j3) fun rB t1 a1=>?_
  obtain ⟨sB,l3,p1⟩:=bs p1
  replace u0:=u0.st t1
  obtain ⟨tB,uB,h9,f2,m3,i9,rfl,vB⟩:=u0.elem l3
  refine Bo (hA:=f2) (hj:=rfl) (hlt:=m3) rfl rfl rfl ?_
  refine CU rfl u0 (a:=1125899906842624) (vInt (show inI64 (1125899906842624) from by decide)) f2 rfl rfl (AC l3) fun wB u1 u0=>?_
  refine o_z ?_
  obtain rfl:=sm p1
  exact show Exists _ from ⟨_,(),rfl,⟨rfl,rfl,rfl,rfl,rfl,rfl,trivial⟩,_,(hB.st t1).st u1,(f0.st t1).st u1,(y0.st t1).st u1,a1.st u1,u0⟩
 rintro xB yB ⟨zB,aC,rfl,n3,g6,hB,f0,y0,a1,u0⟩
 replace hm:=Ba hm
 refine AP _ n3 ?_
 refine Al (Aj ?_)
 obtain ⟨bC,h6,hm⟩:=bs hm
 refine BP (O:=g6) (Ly 4 (by decide) h6) rfl rfl fun cC dC i6 j1 m2=>?_
 refine At rfl rfl (o_z ?_)
 refine Al (Al (Aj (Am rfl rfl (AO rfl rfl ?_))))
 replace y0:=y0.st j1
 have n2:x1.length≤9223372036854775807:=Nat.le_trans y0.len.2.1 y0.len.2.2
 have eC:inI64 (x1.length:Int):=rngNat n2
 refine Am rfl rfl (o_z ?_)
 obtain ⟨fC,j6,hm⟩:=bs hm
 rw [j6] at m2
 obtain ⟨s0,rfl⟩:=Ob.ptr m2
 obtain ⟨o2,o3,hm⟩:=bs hm
 refine AM (aft o2 (fun (b1:(List Int)×(List Int)×Que) (v1:Unit)=>[(0,(.slice A3 x0.length c4)),(6,(.slice a0.1.1 j0.1.length a0.1.2)),(7,(.slice a0.2.1 j0.2.length a0.2.2)),(9,(.pointer (some ⟨s0,0,none⟩)))]) (fun b1 v1 w'=>∃ O':Lab,Bs w A w' O'∧Vb w' (Fr 0 w' O') (.slice A3 x0.length c4) x0∧Rw 2 w' O' 3 (.slice a0.1.1 j0.1.length a0.1.2) b1.1∧Rw 3 w' O' 3 (.slice a0.2.1 j0.2.length a0.2.2) b1.2.1∧Ob 4 w' O' (.pointer (some ⟨s0,0,none⟩)) b1.2.2)) ?_ ?_
 ·
  refine AN ?_
  replace hB:=hB.st j1
  replace f0:=f0.st j1
  replace a1:=a1.st j1
  replace u0:=u0.st j1
  refine BI (σ:=(List Int)×(List Int)×Que) (X:=Unit) (x1.length) o3 rfl n2 (fun (b1:(List Int)×(List Int)×Que) (v1:Unit)=>[(0,(.slice A3 x0.length c4)),(6,(.slice a0.1.1 j0.1.length a0.1.2)),(7,(.slice a0.2.1 j0.2.length a0.2.2)),(9,(.pointer (some ⟨s0,0,none⟩))),(39,(.slice A5 x1.length c6))]) _ (fun b1 v1 w'=>∃ O':Lab,Bs w A w' O'∧Vb w' (Fr 0 w' O') (.slice A3 x0.length c4) x0∧Rw 2 w' O' 3 (.slice a0.1.1 j0.1.length a0.1.2) b1.1∧Rw 3 w' O' 3 (.slice a0.2.1 j0.2.length a0.2.2) b1.2.1∧Ob 4 w' O' (.pointer (some ⟨s0,0,none⟩)) b1.2.2∧Vb w' (Fr 0 w' O') (.slice A5 x1.length c6) x1) _ () ⟨i6,hB,f0,a1,u0,m2,y0⟩ ⟨rfl,rfl,rfl,rfl,rfl,rfl,rfl,trivial⟩ (fun _ _=>⟨rfl,rfl⟩) (fun _ _=>⟨rfl,rfl,rfl,rfl,trivial⟩) (fun _ _ _ ⟨O',hB,f0,h1,c1,k1,y0⟩=>⟨O',hB,f0,h1,c1,k1⟩) ⟨rfl,rfl,rfl⟩ ⟨rfl,rfl⟩ ?_
  rintro k6 gC b1 v1 hC j9 g2 ⟨l6,hB,f0,h1,c1,k1,y0⟩ v0 v5 w5
  have rk151:inI64 (k6:Int):=rngK g2 n2
  refine Al (Aj ?_)
  obtain ⟨iC,jC,k9,p3,q3,r3,rfl,m6⟩:=y0.elem' g2
  refine Bo (hA:=p3) (hj:=rfl) (hlt:=q3) rfl rfl rfl ?_
  refine AE (hc:=cat0 r3) rfl rfl ?_
  refine At rfl rfl (o_z ?_)
  refine Al (Aj (Am rfl rfl (Am rfl rfl (Am rfl rfl (Am rfl rfl ?_)))))
  obtain ⟨kC,n6,v0⟩:=bs v0
  obtain ⟨o6,s3⟩:=AL n6
  obtain ⟨lC,mC,l9,h2,t3,m9,rfl,nC⟩:=h1.elem s3
  refine Bo (hA:=h2) (hj:=(Int.toNat_of_nonneg o6).symm) (hlt:=t3) rfl rfl rfl ?_
  refine CU rfl h1 (a:=0) (vInt (show inI64 (0) from by decide)) h2 rfl rfl (AC s3) fun oC q1 h1=>?_
  obtain ⟨pC,p6,v0⟩:=bs v0
  obtain ⟨q6,u3⟩:=AL p6
  replace c1:=c1.st q1
  obtain ⟨qC,rC,n9,i2,v3,o9,rfl,sC⟩:=c1.elem u3
  refine Bo (hA:=i2) (hj:=(Int.toNat_of_nonneg q6).symm) (hlt:=v3) rfl rfl rfl ?_
  refine CU rfl c1 (a:=0) (vInt (show inI64 (0) from by decide)) i2 rfl rfl (AC u3) fun tC r1 c1=>?_
  refine o_z ?_
  refine Aj (Am rfl rfl (Am rfl rfl ?_))
  obtain ⟨uC,r6,v0⟩:=bs v0
  replace k1:=(k1.st q1).st r1
  refine BP (O:=l6) (FC k1 (show inI64 (0) from by decide) (show inI64 (0) from by decide) m6 r6) rfl rfl fun vC wC xC s1 s6=>?_
  obtain ⟨t6,u6⟩:=s6
  obtain ⟨rfl,yC⟩:=u6.err
  refine o_z ?_
  obtain rfl:=sm v0
  exact show Exists _ from ⟨_,(),rfl,⟨rfl,rfl,rfl,rfl,rfl,rfl,rfl,trivial⟩,_,((hB.st q1).st r1).st s1,((f0.st q1).st r1).st s1,(h1.st r1).st s1,c1.st s1,t6,((y0.st q1).st r1).st s1⟩
 replace hB:=hB.st j1
 replace f0:=f0.st j1
 rintro zC aD ⟨bD,cD,rfl,w3,v6,hB,f0,h1,c1,k1⟩
 replace hm:=Ba hm
 refine AP _ w3 ?_
 refine Al ?_
 obtain ⟨p2,x3,hm⟩:=bs hm
 refine AM (aft p2 (fun (w0:(List Int)×(List Int)×Que) (w1:Unit)=>[(6,(.slice a0.1.1 j0.1.length a0.1.2)),(7,(.slice a0.2.1 j0.2.length a0.2.2))]) (fun w0 w1 w'=>∃ O':Lab,Bs w A w' O'∧Rw 2 w' O' 3 (.slice a0.1.1 j0.1.length a0.1.2) w0.1∧Rw 3 w' O' 3 (.slice a0.2.1 j0.2.length a0.2.2) w0.2.1)) ?_ ?_
 ·
  refine AN (FI (σ:=(List Int)×(List Int)×Que) (X:=Unit) x3 (fun (w0:(List Int)×(List Int)×Que) (w1:Unit)=>[(0,(.slice A3 x0.length c4)),(6,(.slice a0.1.1 j0.1.length a0.1.2)),(7,(.slice a0.2.1 j0.2.length a0.2.2)),(9,(.pointer (some ⟨s0,0,none⟩)))]) _ (fun w0 w1 w'=>∃ O':Lab,Bs w A w' O'∧Vb w' (Fr 0 w' O') (.slice A3 x0.length c4) x0∧Rw 2 w' O' 3 (.slice a0.1.1 j0.1.length a0.1.2) w0.1∧Rw 3 w' O' 3 (.slice a0.2.1 j0.2.length a0.2.2) w0.2.1∧Ob 4 w' O' (.pointer (some ⟨s0,0,none⟩)) w0.2.2) _ () ⟨v6,hB,f0,h1,c1,k1⟩ ⟨rfl,rfl,rfl,rfl,trivial⟩ ?_)
  rintro w0 w1 dD p9 ⟨w6,hB,f0,l0,m0,x6⟩ b0 y1 l1
  refine Al (Al (Aj (Am rfl rfl ?_)))
  obtain ⟨eD,y6,b0⟩:=bs b0
  refine BP (O:=w6) (Iy x6 y6) rfl rfl fun fD gD z6 n0 a7=>?_
  obtain ⟨b7,c7⟩:=a7
  obtain ⟨rfl,hD⟩:=c7.int
  refine CN rfl rfl rfl (fun q2=>?_) fun q2=>?_
  ·
   replace b0:=ip b0 q2
   refine o_z ?_
   refine Ah rfl (AH (AN (Al (Aj (Am rfl rfl ?_)))))
   obtain ⟨i1,d7,b0⟩:=bs b0
   refine BP (O:=z6) (Iz b7 d7) rfl rfl fun iD jD kD q0 e7=>?_
   obtain ⟨lD,mD,nD,oD,n1,rfl,f7,g7,h7,i7⟩:=e7
   obtain ⟨rfl,pD⟩:=f7.int
   obtain ⟨rfl,qD⟩:=g7.int
   obtain ⟨rfl,rD⟩:=h7.int
   obtain ⟨rfl,sD⟩:=i7.err
   refine Am rfl rfl (Bf rfl rfl rfl (Bf rfl rfl rfl (Bf rfl rfl rfl (Bf rfl rfl rfl (At rfl rfl (At rfl rfl (At rfl rfl (At rfl rfl (o_z ?_)))))))))
   refine Al (Al (Aj (Am rfl rfl (Di rfl rfl (fun r2=>?_) fun r2=>?_))))
   ·
    replace b0:=ip b0 r2
    refine o_z ?_
    refine Ah rfl (DD ?_)
    obtain rfl:=sm b0
    exact show Exists _ from ⟨_,(),l1 _ rfl,⟨rfl,rfl,trivial⟩,_,(hB.st n0).st q0,(l0.st n0).st q0,(m0.st n0).st q0⟩
   replace b0:=im b0 r2
   refine o_z ?_
   refine Ae rfl (AH (Al (Al ?_)))
   obtain ⟨j7,k0,b0⟩:=bs b0
   refine AM (fun l' w'=>∃ (k7:Unit) (O':Lab),subs l' [(0,(.slice A3 x0.length c4)),(6,(.slice a0.1.1 j0.1.length a0.1.2)),(7,(.slice a0.2.1 j0.2.length a0.2.2)),(9,(.pointer (some ⟨s0,0,none⟩))),(12,(.int .i64 i1.1)),(13,(.int .i64 i1.2.1)),(14,(.int .i64 i1.2.2.1)),(80,(.bool j7))]∧Bs w A w' O'∧Vb w' (Fr 0 w' O') (.slice A3 x0.length c4) x0∧Rw 2 w' O' 3 (.slice a0.1.1 j0.1.length a0.1.2) w0.1∧Rw 3 w' O' 3 (.slice a0.2.1 j0.2.length a0.2.2) w0.2.1∧Ob 4 w' O' (.pointer (some ⟨s0,0,none⟩)) i1.2.2.2.2) ?_ ?_
   ·
    refine Aj (Am rfl rfl (Am rfl rfl (Am rfl rfl ?_)))
    obtain ⟨tD,l7,k0⟩:=bs k0
    obtain ⟨m7,n7⟩:=AL l7
    replace l0:=(l0.st n0).st q0
    obtain ⟨uD,vD,q9,y3,z3,a4,rfl,wD⟩:=l0.elem n7
    refine Bo (hA:=y3) (hj:=(Int.toNat_of_nonneg m7).symm) (hlt:=z3) rfl rfl rfl ?_
    refine AE (hc:=cat0 a4) rfl rfl ?_
    refine GN rfl rfl rfl (fun s2=>?_) fun s2=>?_
    ·
     replace k0:=ip k0 s2
     refine Am rfl rfl (Az rfl rfl rfl rfl (Az rfl rfl rfl rfl (Az rfl rfl rfl rfl (Az rfl rfl rfl rfl (Az rfl rfl rfl rfl (Az rfl rfl rfl rfl (BV rfl rfl rfl (o_z ?_))))))))
     obtain rfl:=sm k0
     exact ⟨(),_,⟨rfl,rfl,rfl,rfl,rfl,rfl,rfl,rfl,trivial⟩,(hB.st n0).st q0,(f0.st n0).st q0,l0,(m0.st n0).st q0,n1⟩
    replace k0:=im k0 s2
    refine Am rfl rfl (Ay rfl rfl (Am rfl rfl (Ay rfl rfl (Am rfl rfl (Ay rfl rfl (Am rfl rfl (Ay rfl rfl ?_)))))))
    obtain ⟨xD,o7,k0⟩:=bs k0
    obtain ⟨p7,q7⟩:=AL o7
    replace m0:=(m0.st n0).st q0
    obtain ⟨yD,zD,r9,b4,d4,e4,rfl,aE⟩:=m0.elem q7
    refine Bo (hA:=b4) (hj:=(Int.toNat_of_nonneg p7).symm) (hlt:=d4) rfl rfl rfl ?_
    refine Ay rfl rfl (AE (hc:=cat0 e4) rfl rfl ?_)
    refine Ay rfl rfl (GN rfl rfl rfl (fun t2=>?_) fun t2=>?_)
    ·
     replace k0:=ip k0 t2
     refine Bz rfl rfl rfl (o_z ?_)
     obtain rfl:=sm k0
     exact ⟨(),_,⟨rfl,rfl,rfl,rfl,rfl,rfl,rfl,rfl,trivial⟩,(hB.st n0).st q0,(f0.st n0).st q0,l0,m0,n1⟩
    replace k0:=im k0 t2
    refine Bz rfl rfl rfl (o_z ?_)
    obtain rfl:=sm k0
    exact ⟨(),_,⟨rfl,rfl,rfl,rfl,rfl,rfl,rfl,rfl,trivial⟩,(hB.st n0).st q0,(f0.st n0).st q0,l0,m0,n1⟩
   replace hB:=(hB.st n0).st q0
   replace f0:=(f0.st n0).st q0
   replace l0:=(l0.st n0).st q0
   replace m0:=(m0.st n0).st q0
   rintro bE cE ⟨k7,r7,f4,hB,f0,l0,m0,n1⟩
   refine AP _ f4 ?_
   refine CO rfl (fun u2=>?_) (fun u2=>?_)
   ·
    replace b0:=ip b0 u2
    refine DD ?_
    obtain rfl:=sm b0
    exact show Exists _ from ⟨_,(),rfl,⟨rfl,rfl,rfl,rfl,trivial⟩,_,hB,f0,l0,m0,n1⟩
   replace b0:=im' b0 u2
   refine AH (Al (Aj (Am rfl rfl (Am rfl rfl ?_))))
   obtain ⟨d1,s7,b0⟩:=bs b0
   obtain ⟨t7,v7⟩:=AL s7
   obtain ⟨dE,eE,s9,g4,h4,i4,fE,rfl,o0⟩:=f0.elem' v7
   replace o0:=Vb.of_slice o0
   obtain ⟨z1,a2,rfl⟩:=o0.form
   refine Bo (hA:=g4) (hj:=(Int.toNat_of_nonneg t7).symm) (hlt:=h4) rfl rfl rfl ?_
   refine AE (hc:=cat0 i4) rfl rfl ?_
   refine AO rfl rfl ?_
   have v2:d1.length≤9223372036854775807:=Nat.le_trans o0.len.2.1 o0.len.2.2
   have gE:inI64 (d1.length:Int):=rngNat v2
   refine Am rfl rfl (o_z ?_)
   obtain ⟨w2,j4,b0⟩:=bs b0
   refine AM (aft w2 (fun (t0:(List Int)×(List Int)×Que) (b2:Unit)=>[(0,(.slice A3 x0.length c4)),(6,(.slice a0.1.1 j0.1.length a0.1.2)),(7,(.slice a0.2.1 j0.2.length a0.2.2)),(9,(.pointer (some ⟨s0,0,none⟩)))]) (fun t0 b2 w'=>∃ O':Lab,Bs w A w' O'∧Vb w' (Fr 0 w' O') (.slice A3 x0.length c4) x0∧Rw 2 w' O' 3 (.slice a0.1.1 j0.1.length a0.1.2) t0.1∧Rw 3 w' O' 3 (.slice a0.2.1 j0.2.length a0.2.2) t0.2.1∧Ob 4 w' O' (.pointer (some ⟨s0,0,none⟩)) t0.2.2)) ?_ ?_
   ·
    refine AN (BI (σ:=(List Int)×(List Int)×Que) (X:=Unit) (d1.length) j4 rfl v2 (fun (t0:(List Int)×(List Int)×Que) (b2:Unit)=>[(0,(.slice A3 x0.length c4)),(6,(.slice a0.1.1 j0.1.length a0.1.2)),(7,(.slice a0.2.1 j0.2.length a0.2.2)),(9,(.pointer (some ⟨s0,0,none⟩))),(12,(.int .i64 i1.1)),(13,(.int .i64 i1.2.1)),(84,(.slice z1 d1.length a2))]) _ (fun t0 b2 w'=>∃ O':Lab,Bs w A w' O'∧Vb w' (Fr 0 w' O') (.slice A3 x0.length c4) x0∧Rw 2 w' O' 3 (.slice a0.1.1 j0.1.length a0.1.2) t0.1∧Rw 3 w' O' 3 (.slice a0.2.1 j0.2.length a0.2.2) t0.2.1∧Ob 4 w' O' (.pointer (some ⟨s0,0,none⟩)) t0.2.2∧Vb w' (Fr 0 w' O') (.slice z1 d1.length a2) d1) _ () ⟨r7,hB,f0,l0,m0,n1,o0⟩ ⟨rfl,rfl,rfl,rfl,rfl,rfl,rfl,rfl,rfl,trivial⟩ (fun _ _=>⟨rfl,rfl⟩) (fun _ _=>⟨rfl,rfl,rfl,rfl,trivial⟩) (fun _ _ _ ⟨O',hB,f0,e0,g0,r0,o0⟩=>⟨O',hB,f0,e0,g0,r0⟩) ⟨rfl,rfl,rfl⟩ ⟨rfl,rfl⟩ ?_)
    rintro k4 o1 t0 b2 hE t9 j2 ⟨w7,hB,f0,e0,g0,r0,o0⟩ c0 c2 x5
    have rk337:inI64 (k4:Int):=rngK j2 v2
    refine Al (Aj ?_)
    obtain ⟨iE,jE,v9,l4,m4,n4,rfl,kE,x7,lE⟩:=o0.elem' j2
    refine Bo (hA:=l4) (hj:=rfl) (hlt:=m4) rfl rfl rfl ?_
    refine Bn (hl:=rfl) (hc:=n4) rfl rfl ?_
    refine CT 5 w7 rfl fun x2 mE y7 h0 p0=>?_
    refine Br p0 rfl rfl rfl (Cj rfl) (allOne rfl) fun z7 i0 p0=>?_
    replace p0:Lc 5 z7 y7 x2 106 [(.int .i64 o1.src),(.int .i64 o1.dst),(.int .i64 o1.weight)]:=p0
    refine o_z ?_
    refine Al (Aj (Am rfl rfl (AF rfl rfl (AE (hc:=Blk.cell (i:=2) (p0.1) rfl) rfl rfl ?_))))
    obtain ⟨o4,p4,c0⟩:=bs c0
    have q4:=(BC p4)
    refine Fu (he:=p4) rfl rfl rfl ?_
    refine Am rfl rfl ?_
    obtain ⟨r4,s4,c0⟩:=bs c0
    have t4:=(BC s4)
    refine Fu (he:=s4) rfl rfl rfl ?_
    refine At rfl rfl (At rfl rfl (o_z ?_))
    refine Al (Al ?_)
    obtain ⟨a8,d0,c0⟩:=bs c0
    refine AM (fun l' w'=>∃ (b8:Unit) (O':Lab),subs l' [(0,(.slice A3 x0.length c4)),(6,(.slice a0.1.1 j0.1.length a0.1.2)),(7,(.slice a0.2.1 j0.2.length a0.2.2)),(9,(.pointer (some ⟨s0,0,none⟩))),(12,(.int .i64 i1.1)),(13,(.int .i64 i1.2.1)),(17,(.pointer (some ⟨x2,0,none⟩))),(18,(.int .i64 o4)),(19,(.int .i64 r4)),(84,(.slice z1 d1.length a2)),(85,(.int .i64 (d1.length:Int))),(86,(.int .i64 (k4:Int))),(120,(.bool a8))]∧Bs w A w' O'∧Vb w' (Fr 0 w' O') (.slice A3 x0.length c4) x0∧Rw 2 w' O' 3 (.slice a0.1.1 j0.1.length a0.1.2) t0.1∧Rw 3 w' O' 3 (.slice a0.2.1 j0.2.length a0.2.2) t0.2.1∧Ob 4 w' O' (.pointer (some ⟨s0,0,none⟩)) t0.2.2∧Lc 5 w' O' x2 106 [(.int .i64 o1.src),(.int .i64 o1.dst),(.int .i64 o1.weight)]∧Vb w' (Fr 0 w' O') (.slice z1 d1.length a2) d1) ?_ ?_
    ·
     refine Aj (Am rfl rfl (Am rfl rfl (AF rfl rfl (AE (hc:=Blk.cell (i:=1) (p0.1) rfl) rfl rfl ?_))))
     obtain ⟨nE,c8,d0⟩:=bs d0
     obtain ⟨d8,f8⟩:=AL c8
     replace e0:=(e0.st h0).st i0
     obtain ⟨oE,pE,w9,u4,v4,w4,rfl,qE⟩:=e0.elem f8
     refine Bo (hA:=u4) (hj:=(Int.toNat_of_nonneg d8).symm) (hlt:=v4) rfl rfl rfl ?_
     refine AE (hc:=cat0 w4) rfl rfl ?_
     refine CN rfl rfl rfl (fun y2=>?_) fun y2=>?_
     ·
      replace d0:=ip d0 y2
      refine Am rfl rfl (Az rfl rfl rfl rfl (Az rfl rfl rfl rfl (Az rfl rfl rfl rfl (Az rfl rfl rfl rfl (Az rfl rfl rfl rfl (Az rfl rfl rfl rfl (Az rfl rfl rfl rfl (Az rfl rfl rfl rfl (Az rfl rfl rfl rfl (Az rfl rfl rfl rfl (Az rfl rfl rfl rfl (Az rfl rfl rfl rfl (Az rfl rfl rfl rfl (Az rfl rfl rfl rfl ?_))))))))))))))
      refine Az rfl rfl rfl rfl (Az rfl rfl rfl rfl (BV rfl rfl rfl (o_z ?_)))
      obtain rfl:=sm d0
      exact ⟨(),_,⟨rfl,rfl,rfl,rfl,rfl,rfl,rfl,rfl,rfl,rfl,rfl,rfl,rfl,trivial⟩,(hB.st h0).st i0,(f0.st h0).st i0,e0,(g0.st h0).st i0,(r0.st h0).st i0,p0,(o0.st h0).st i0⟩
     replace d0:=im d0 y2
     refine Am rfl rfl (Ay rfl rfl (Am rfl rfl (Ay rfl rfl (Am rfl rfl (Ay rfl rfl (AF rfl rfl (Ay rfl rfl (AE (hc:=Blk.cell (i:=1) (p0.1) rfl) rfl rfl ?_))))))))
     refine Ay rfl rfl ?_
     obtain ⟨rE,g8,d0⟩:=bs d0
     obtain ⟨h8,i8⟩:=AL g8
     obtain ⟨sE,tE,x9,x4,y4,z4,rfl,uE⟩:=e0.elem i8
     refine Bo (hA:=x4) (hj:=(Int.toNat_of_nonneg h8).symm) (hlt:=y4) rfl rfl rfl ?_
     refine Ay rfl rfl (AE (hc:=cat0 z4) rfl rfl ?_)
     refine Ay rfl rfl (KV rfl rfl rfl (fun z2=>?_) fun z2=>?_)
     ·
      replace d0:=ip d0 z2
      refine Ay rfl rfl (Am rfl rfl (Ay rfl rfl (Am rfl rfl (Ay rfl rfl (Am rfl rfl (Ay rfl rfl (AF rfl rfl (Ay rfl rfl (AE (hc:=Blk.cell (i:=1) (p0.1) rfl) rfl rfl ?_)))))))))
      refine Ay rfl rfl ?_
      obtain ⟨vE,j8,d0⟩:=bs d0
      obtain ⟨k8,l8⟩:=AL j8
      replace g0:=(g0.st h0).st i0
      obtain ⟨wE,xE,y9,a5,b5,c5,rfl,yE⟩:=g0.elem l8
      refine Bo (hA:=a5) (hj:=(Int.toNat_of_nonneg k8).symm) (hlt:=b5) rfl rfl rfl ?_
      refine Ay rfl rfl (AE (hc:=cat0 c5) rfl rfl ?_)
      refine Ay rfl rfl (Fp rfl rfl rfl (fun a3=>?_) fun a3=>?_)
      ·
       replace d0:=ip d0 a3
       refine Ay rfl rfl (BV rfl rfl rfl (Bz rfl rfl rfl (o_z ?_)))
       obtain rfl:=sm d0
       exact ⟨(),_,⟨rfl,rfl,rfl,rfl,rfl,rfl,rfl,rfl,rfl,rfl,rfl,rfl,rfl,trivial⟩,(hB.st h0).st i0,(f0.st h0).st i0,e0,g0,(r0.st h0).st i0,p0,(o0.st h0).st i0⟩
      replace d0:=im d0 a3
      refine Ay rfl rfl (BV rfl rfl rfl (Bz rfl rfl rfl (o_z ?_)))
      obtain rfl:=sm d0
      exact ⟨(),_,⟨rfl,rfl,rfl,rfl,rfl,rfl,rfl,rfl,rfl,rfl,rfl,rfl,rfl,trivial⟩,(hB.st h0).st i0,(f0.st h0).st i0,e0,g0,(r0.st h0).st i0,p0,(o0.st h0).st i0⟩
     replace d0:=im d0 z2
     refine Ay rfl rfl (Am rfl rfl (Az rfl rfl rfl rfl (Az rfl rfl rfl rfl (Az rfl rfl rfl rfl (Az rfl rfl rfl rfl (Az rfl rfl rfl rfl (Az rfl rfl rfl rfl (Az rfl rfl rfl rfl (Ay rfl rfl (Bz rfl rfl rfl (Bz rfl rfl rfl (o_z ?_))))))))))))
     obtain rfl:=sm d0
     exact ⟨(),_,⟨rfl,rfl,rfl,rfl,rfl,rfl,rfl,rfl,rfl,rfl,rfl,rfl,rfl,trivial⟩,(hB.st h0).st i0,(f0.st h0).st i0,e0,(g0.st h0).st i0,(r0.st h0).st i0,p0,(o0.st h0).st i0⟩
    replace f0:=(f0.st h0).st i0
    replace hB:=(hB.st h0).st i0
    replace o0:=(o0.st h0).st i0
    replace e0:=(e0.st h0).st i0
    replace g0:=(g0.st h0).st i0
    replace r0:=(r0.st h0).st i0
    rintro zE aF ⟨b8,d5,e5,hB,f0,e0,g0,r0,p0,o0⟩
    refine AP _ e5 ?_
    refine CO rfl (fun b3=>?_) (fun b3=>?_)
    ·
     replace c0:=ip c0 b3
     refine DD ?_
     obtain rfl:=sm c0
     exact show Exists _ from ⟨_,(),rfl,⟨rfl,rfl,rfl,rfl,rfl,rfl,rfl,rfl,rfl,trivial⟩,_,hB,f0,e0,g0,r0,o0⟩
    replace c0:=im' c0 b3
    refine AH (Al (BD [(9,[2])] d5 ?_))
    refine AW (fuel:=7) [] [(0,true),(1,true),(2,true),(6,true),(8,true)] (by kernel_rfl) rfl ?_
    refine AG rfl rfl rfl (AR rfl rfl rfl (AS (hc:=fun w' ⟨O',hq⟩=>Blk.cell (i:=1) ((p0.st hq (by decide)).1) rfl) rfl rfl rfl ?_))
    refine AG rfl rfl rfl ?_
    obtain ⟨bF,m8,c0⟩:=bs c0
    obtain ⟨n8,f5⟩:=AL m8
    obtain ⟨cF,dF,z9,k2,aA,g5,bA,rfl,eF⟩:=e0.elemF f5
    refine BN (hA:=k2) (hj:=(Int.toNat_of_nonneg n8).symm) (hlt:=g5) rfl rfl rfl rfl ?_
    refine AK ?_
    refine AW (fuel:=3) [2] [(3,true),(4,true),(5,true),(7,true)] (by kernel_rfl) rfl ?_
    refine AG rfl rfl rfl (AR rfl rfl rfl (AS (hc:=fun w' ⟨O',hq⟩=>Blk.cell (i:=1) ((p0.st hq (by decide)).1) rfl) rfl rfl rfl ?_))
    refine AG rfl rfl rfl (AK ?_)
    refine AZ (i:=9) (by kernel_rfl) rfl ?_
    refine CU rfl e0 (a:=o4) (vInt q4) k2 rfl rfl (AC f5) fun fF e1 e0=>?_
    have hZ:=e1.lst [2] (fun _ h=>by cases h;decide)
    refine BA [] hZ (by kernel_rfl) ?_
    refine AW (fuel:=1) [] [(10,true)] (by kernel_rfl) rfl ?_
    obtain ⟨gF,o8,c0⟩:=bs c0
    obtain ⟨p8,h5⟩:=AL o8
    replace g0:=g0.st e1
    obtain ⟨hF,iF,cA,l2,dA,i5,eA,rfl,jF⟩:=g0.elemF h5
    refine BN (hA:=l2) (hj:=(Int.toNat_of_nonneg p8).symm) (hlt:=i5) rfl rfl rfl rfl ?_
    refine AK ?_
    refine AZ (i:=11) (by kernel_rfl) rfl ?_
    refine CU rfl g0 (a:=r4) (vInt t4) l2 rfl rfl (AC h5) fun kF f1 g0=>?_
    refine Dm (by kernel_rfl) ?_
    refine Ck (by kernel_rfl) ?_
    refine Al (Aj (Am rfl rfl (Am rfl rfl (Am rfl rfl (AF rfl rfl ?_)))))
    replace p0:=(p0.st e1).st f1
    refine AE (hc:=Blk.cell (i:=1) (p0.1) rfl) rfl rfl ?_
    obtain ⟨lF,q8,c0⟩:=bs c0
    replace r0:=(r0.st e1).st f1
    refine BP (O:=d5) (FC r0 q4 t4 x7 q8) rfl rfl fun mF nF oF g1 r8=>?_
    obtain ⟨s8,t8⟩:=r8
    obtain ⟨rfl,pF⟩:=t8.err
    refine Di rfl rfl (fun c3=>?_) fun c3=>?_
    ·
     replace c0:=ip c0 c3
     refine o_z ?_
     refine Ah rfl (Al (Aj (Am rfl rfl (Am rfl rfl (Am rfl rfl ?_)))))
     replace e0:=(e0.st f1).st g1
     obtain ⟨qF,d3,e0⟩:=e0.freeze
     replace g0:=(g0.st g1).st d3
     obtain ⟨u8,e3,g0⟩:=g0.freeze
     obtain ⟨v8,w8,c0⟩:=bs c0
     replace f0:=((((f0.st e1).st f1).st g1).st d3).st e3
     replace e0:=e0.st e3
     refine Dq (O:=u8) (R:=fun w' F v=>T2 w' F v v8) (Jb Fr.lt f0 e0 g0 w8) rfl rfl fun rF j5 k5 x8 y8=>?_
     obtain ⟨sF,tF,rfl,l5,m5⟩:=y8
     obtain ⟨uF,vF,rfl⟩:=l5.form
     obtain ⟨wF,xF,rfl⟩:=m5.form
     refine Bf rfl rfl rfl (Bf rfl rfl rfl (At rfl rfl (At rfl rfl (o_z ?_))))
     refine AJ ?_
     obtain rfl:=sm c0
     obtain rfl:=c2 _ rfl
     obtain rfl:=sm (Cy b0)
     obtain rfl:=y1 _ rfl
     obtain rfl:=sm (Cy hm)
     replace hB:=(((((hB.st e1).st f1).st g1).st d3).st e3).st x8
     exact ret2 rfl (AA rfl) (AA rfl) ⟨hB.ext,_,_,rfl,(Vb.mono (F:=Fr 0 j5 k5) l5 hB.out),(Vb.mono (F:=Fr 0 j5 k5) m5 hB.out)⟩
    replace c0:=im c0 c3
    refine o_z ?_
    refine Ae rfl (AH ?_)
    obtain rfl:=sm c0
    exact show Exists _ from ⟨_,(),rfl,⟨rfl,rfl,rfl,rfl,rfl,rfl,rfl,rfl,rfl,trivial⟩,_,((hB.st e1).st f1).st g1,((f0.st e1).st f1).st g1,(e0.st f1).st g1,g0.st g1,s8,((o0.st e1).st f1).st g1⟩
   rintro yF zF ⟨aG,bG,rfl,m1,cG,hB,f0,e0,g0,r0⟩
   replace b0:=Ba b0
   obtain rfl:=sm b0
   exact show Exists _ from ⟨_,(),rfl,⟨(BB m1 _ _ rfl),(BB m1 _ _ rfl),(BB m1 _ _ rfl),(BB m1 _ _ rfl),trivial⟩,_,hB,f0,e0,g0,r0⟩
  replace b0:=im b0 q2
  refine o_z ?_
  refine Ae rfl (DD ?_)
  obtain rfl:=sm b0
  exact show Exists _ from ⟨_,(),l1 _ rfl,⟨rfl,rfl,trivial⟩,_,hB.st n0,l0.st n0,m0.st n0⟩
 rintro dG n5 ⟨eG,fG,rfl,o5,gG,hB,l0,m0⟩
 replace hm:=Ba hm
 refine AP _ o5 ?_
 refine Al (Aj (Am rfl rfl (Am rfl rfl (At rfl rfl (At rfl rfl (o_z ?_))))))
 refine AJ ?_
 obtain ⟨hG,p5,l0⟩:=l0.freeze
 replace m0:=m0.st p5
 obtain ⟨q5,r5,m0⟩:=m0.freeze
 obtain rfl:=sm hm
 replace hB:=(hB.st p5).st r5
 replace l0:=l0.st r5
 exact ret2 rfl (AA rfl) (AA rfl) ⟨hB.ext,_,_,rfl,(Vb.mono (F:=Fr 0 n5 q5) l0 hB.out),(Vb.mono (F:=Fr 0 n5 q5) m0 hB.out)⟩
noncomputable def BM (x0:Spa):Option Spa :=
  bnd (Bd x0.states) fun q45=>bnd (mkI 24 ([]:List Arc) q45) fun u55=>bnd (mkI 24 ([]:List Arc) q45) fun u57=>bnd (some (u55,u57):Option ((List (List Arc))×(List (List Arc)))) fun y59=>bnd (rng (ρ:=Spa) (fun (k179:Nat) (a180:Edj) (s177:(List (List Arc))×(List (List Arc)))=>bnd (atI x0.t.ops a180.label) fun a258=>bnd (atI s177.1 a180.src) fun a279=>bnd (appI 24 a279 [(⟨a180.src,a180.dst,a258.cost⟩:Arc)]) fun u304=>bnd (atI s177.1 a180.src) fun a315=>bnd (atI s177.2 a180.dst) fun a330=>bnd (appI 24 a330 [(⟨a180.dst,a180.src,a258.cost⟩:Arc)]) fun u355=>bnd (atI s177.2 a180.dst) fun a366=>some (.next ((s177.1.set (a180.src:Int).toNat u304),(s177.2.set (a180.dst:Int).toNat u355)))) x0.edges 0 (y59.1,y59.2)) fun res175=>fin res175 fun (s390:(List (List Arc))×(List (List Arc)))=>bnd (rng (ρ:=Spa) (fun (k446:Nat) (a447:Bool) (s444:(List Int))=>if a447=true then (bnd (appI 8 s444 [(k446:Int)]) fun u469=>some (.next u469)) else (some (.next s444))) x0.goals 0 ([]:List Int)) fun res442=>fin res442 fun (s485:(List Int))=>bnd (Bu s390.1 ([0]:List Int)) fun q497=>bnd (Bu s390.2 s485) fun q561=>some (⟨(⟨x0.t.vars,x0.t.init,x0.t.goal,x0.t.ops⟩:Tsk),x0.states,x0.edges,x0.goals,q497.1,q561.1,q561.2⟩:Spa)
theorem GL {w:World} {O:Lab} {p0 i0:Nat} {x0:Spa} (k5:Ob i0 w O (.pointer (some ⟨p0,0,none⟩)) x0) {r:Spa} (hm:BM x0=some r) :
    Fn Tryz.prog 51 [(.pointer (some ⟨p0,0,none⟩))] w fun v w'=>∃ O',St (eT i0) w O w' O'∧Ob i0 w' O' (.pointer (some ⟨p0,0,none⟩)) r:=by
 obtain ⟨O0,hE,wB,xB⟩:=ent1 (w:=w) (O:=O) k5.2
 have k5':=Ob.leave k5 wB xB (j:=2) (by decide)
 have hB:Bm w O0 w O0:=Bm.refl
 refine AI Tryz.func51 rfl Tryz.ntmps51 rfl ?_
 unfold BM at hm
 refine Al (Aj (Am rfl rfl (BT rfl rfl ?_)))
 obtain ⟨O2,v6,sJ,tJ,uJ,vJ,wJ,xJ,yJ,zJ,aK,S3,bK,h4,h7,s3,t3,u3,xA,v3,w3,x3,y3,z3⟩:=Spa.opn k5' 2 3 (by decide)
 obtain ⟨A8,c9,rfl⟩:=h7.form
 obtain ⟨cK,dK,rfl⟩:=s3.form
 obtain ⟨eK,fK,rfl⟩:=t3.form
 obtain ⟨gK,hK,rfl⟩:=u3.form
 obtain ⟨iK,rfl⟩:=xA.ptr
 obtain ⟨jK,kK,rfl⟩:=v3.form
 obtain ⟨lK,mK,rfl⟩:=w3.form
 obtain ⟨nK,oK,rfl⟩:=x3.form
 obtain ⟨pK,qK,rfl⟩:=y3.form
 obtain ⟨rK,sK,rfl⟩:=z3.form
 refine AF rfl rfl (AE (hc:=Blk.cell (i:=4) (h4.1) rfl) rfl rfl ?_)
 obtain ⟨tK,yB,hm⟩:=bs hm
 refine BP (O:=O2) (DO xA yB) rfl rfl fun uK vK c8 z0 zB=>?_
 obtain ⟨j5,aC⟩:=zB
 obtain ⟨rfl,wK⟩:=aC.int
 refine At rfl rfl (o_z ?_)
 refine Al ?_
 obtain ⟨xK,yA,hm⟩:=bs hm
 obtain ⟨yK,zA,hm⟩:=bs hm
 obtain ⟨y0,l5,hm⟩:=bs hm
 refine AM (fun l' w'=>∃ (d0:(Option Addr×Nat)×(Option Addr×Nat)) (O':Lab),subs l' [(0,(.pointer (some ⟨p0,0,none⟩))),(3,(.slice d0.1.1 y0.1.length d0.1.2)),(4,(.slice d0.2.1 y0.2.length d0.2.2))]∧Bm w O0 w' O'∧Ob 2 w' O' (.pointer (some ⟨p0,0,none⟩)) x0∧NR Arc 4 w' O' 104 106 (.slice d0.1.1 y0.1.length d0.1.2) y0.1 none∧NR Arc 5 w' O' 104 106 (.slice d0.2.1 y0.2.length d0.2.2) y0.2 none) ?_ ?_
 ·
  refine BD [] c8 ?_
  refine AW (fuel:=4) [] [(0,true),(2,true)] (by kernel_rfl) rfl ?_
  refine AG rfl rfl rfl (AG rfl rfl rfl (AK ?_))
  refine JX (i:=1) (j:=3) (by kernel_rfl) rfl rfl ?_ ?_
  ·
   obtain ⟨bC,cC,dC,eC,fC⟩:=Dh yA
   refine Hl (β:=Arc) (e:=106) 4 (by decide) c8 rfl rfl rfl rfl cC dC eC rfl fun gC zK hC t1 aB=>?_
   rw [← fC] at aB ⊢
   have hZ:=t1.lst [] (fun _ h=>h.elim)
   refine BA [] hZ (by kernel_rfl) ?_
   refine AW (fuel:=2) [] [(4,true)] (by kernel_rfl) rfl ?_
   refine Eb rfl rfl rfl (AK ?_)
   refine AZ (i:=3) (by kernel_rfl) rfl ?_
   obtain ⟨iC,jC,kC,lC,mC⟩:=Dh zA
   refine Hl (β:=Arc) (e:=106) 5 (by decide) hC rfl rfl rfl rfl jC kC lC rfl fun nC aL bL q1 bB=>?_
   rw [← mC] at bB ⊢
   have hZ:=q1.lst [] (fun _ h=>h.elim)
   refine BA [] hZ (by kernel_rfl) ?_
   refine AW (fuel:=0) [] [(5,true)] (by kernel_rfl) rfl ?_
   refine Eb rfl rfl rfl (AK ?_)
   refine Ck (by kernel_rfl) ?_
   replace h4:=((h4.st z0).st t1).st q1
   replace h7:=((h7.st z0).st t1).st q1
   replace s3:=((s3.st z0).st t1).st q1
   replace t3:=((t3.st z0).st t1).st q1
   replace u3:=((u3.st z0).st t1).st q1
   replace v3:=((v3.st z0).st t1).st q1
   replace w3:=((w3.st z0).st t1).st q1
   replace x3:=((x3.st z0).st t1).st q1
   replace y3:=((y3.st z0).st t1).st q1
   replace z3:=((z3.st z0).st t1).st q1
   replace j5:=(j5.st t1).st q1
   obtain ⟨cL,d8,oC,pC,qC⟩:=Spa.shut (x:=x0) (l0:=2) (l1:=3) (by decide) h4 h7 s3 t3 u3 j5 v3 w3 x3 y3 z3
   obtain rfl:=sm l5
   exact ⟨(((some ⟨gC,0,none⟩),bC),((some ⟨nC,0,none⟩),iC)),_,⟨rfl,rfl,rfl,trivial⟩,((((hB.st S3).st z0).st t1).st q1).st d8,qC,(aB.st q1).st d8,bB.st d8⟩
  obtain ⟨rC,sC,tC,uC,vC⟩:=Dh zA
  refine Hl (β:=Arc) (e:=106) 5 (by decide) c8 rfl rfl rfl rfl sC tC uC rfl fun wC xC e8 u0 m5=>?_
  rw [← vC] at m5 ⊢
  have hZ:=u0.lst [] (fun _ h=>h.elim)
  refine BA [] hZ (by kernel_rfl) ?_
  refine AZ (i:=1) (by kernel_rfl) rfl ?_
  obtain ⟨f8,g8,h8,i8,j8⟩:=Dh yA
  refine Hl (β:=Arc) (e:=106) 4 (by decide) e8 rfl rfl rfl rfl g8 h8 i8 rfl fun k8 yC zC r0 n5=>?_
  rw [← j8] at n5 ⊢
  have hZ:=r0.lst [] (fun _ h=>h.elim)
  refine BA [] hZ (by kernel_rfl) ?_
  refine AW (fuel:=0) [] [(4,true),(5,true)] (by kernel_rfl) rfl ?_
  refine Eb rfl rfl rfl (Eb rfl rfl rfl (AK ?_))
  refine Ck (by kernel_rfl) ?_
  replace h4:=((h4.st z0).st u0).st r0
  replace h7:=((h7.st z0).st u0).st r0
  replace s3:=((s3.st z0).st u0).st r0
  replace t3:=((t3.st z0).st u0).st r0
  replace u3:=((u3.st z0).st u0).st r0
  replace v3:=((v3.st z0).st u0).st r0
  replace w3:=((w3.st z0).st u0).st r0
  replace x3:=((x3.st z0).st u0).st r0
  replace y3:=((y3.st z0).st u0).st r0
  replace z3:=((z3.st z0).st u0).st r0
  replace j5:=(j5.st u0).st r0
  obtain ⟨aD,a4,cB,dB,l8⟩:=Spa.shut (x:=x0) (l0:=2) (l1:=3) (by decide) h4 h7 s3 t3 u3 j5 v3 w3 x3 y3 z3
  obtain rfl:=sm l5
  exact ⟨(((some ⟨k8,0,none⟩),f8),((some ⟨wC,0,none⟩),rC)),_,⟨rfl,rfl,rfl,trivial⟩,((((hB.st S3).st z0).st u0).st r0).st a4,l8,n5.st a4,(m5.st r0).st a4⟩
 replace hB:=(hB.st S3).st z0
 rintro bD cD ⟨d0,dD,o5,hB,eD,m8,n8⟩
 refine AP _ o5 ?_
 refine Al (Al (Aj (Am rfl rfl (BT rfl rfl ?_))))
 obtain ⟨fD,gD,hD,iD,jD,kD,lD,mD,nD,oD,pD,i2,eB,p5,q5,r5,s5,t5,u5,a1,v5,w5,x5,y5⟩:=Spa.opn eD 2 3 (by decide)
 obtain ⟨qD,rD,rfl⟩:=q5.form
 obtain ⟨sD,tD,rfl⟩:=r5.form
 obtain ⟨uD,vD,rfl⟩:=s5.form
 obtain ⟨wD,xD,rfl⟩:=t5.form
 obtain ⟨yD,rfl⟩:=u5.ptr
 obtain ⟨z5,a6,rfl⟩:=a1.form
 obtain ⟨zD,aE,rfl⟩:=v5.form
 obtain ⟨bE,cE,rfl⟩:=w5.form
 obtain ⟨dE,eE,rfl⟩:=x5.form
 obtain ⟨fE,gE,rfl⟩:=y5.form
 refine AF rfl rfl (AE (hc:=Blk.cell (i:=5) (p5.1) rfl) rfl rfl ?_)
 refine AO rfl rfl ?_
 have b4:x0.edges.length≤9223372036854775807:=Nat.le_trans a1.len.2.1 a1.len.2.2
 have iE:inI64 (x0.edges.length:Int):=rngNat b4
 refine Am rfl rfl (o_z ?_)
 obtain ⟨o8,x1,fB,gB,m1⟩:=Spa.shut (x:=x0) (l0:=2) (l1:=3) (by decide) p5 q5 r5 s5 t5 u5 a1 v5 w5 x5 y5
 obtain ⟨c4,b6,hm⟩:=bs hm
 refine AM (aft c4 (fun (g1:(List (List Arc))×(List (List Arc))) (j2:Unit)=>[(0,(.pointer (some ⟨p0,0,none⟩))),(3,(.slice d0.1.1 y0.1.length d0.1.2)),(4,(.slice d0.2.1 y0.2.length d0.2.2))]) (fun g1 j2 w'=>∃ O':Lab,Bm w O0 w' O'∧Ob 2 w' O' (.pointer (some ⟨p0,0,none⟩)) x0∧NR Arc 4 w' O' 104 106 (.slice d0.1.1 y0.1.length d0.1.2) g1.1 none∧NR Arc 5 w' O' 104 106 (.slice d0.2.1 y0.2.length d0.2.2) g1.2 none)) ?_ ?_
 ·
  refine AN ?_
  replace hB:=(hB.st i2).st x1
  replace m8:=(m8.st i2).st x1
  replace n8:=(n8.st i2).st x1
  replace a1:=a1.st x1
  refine BI (σ:=(List (List Arc))×(List (List Arc))) (X:=Unit) (x0.edges.length) b6 rfl b4 (fun (g1:(List (List Arc))×(List (List Arc))) (j2:Unit)=>[(0,(.pointer (some ⟨p0,0,none⟩))),(3,(.slice d0.1.1 y0.1.length d0.1.2)),(4,(.slice d0.2.1 y0.2.length d0.2.2)),(23,(.slice z5 x0.edges.length a6))]) _ (fun g1 j2 w'=>∃ O':Lab,Bm w O0 w' O'∧Ob 2 w' O' (.pointer (some ⟨p0,0,none⟩)) x0∧NR Arc 4 w' O' 104 106 (.slice d0.1.1 y0.1.length d0.1.2) g1.1 none∧NR Arc 5 w' O' 104 106 (.slice d0.2.1 y0.2.length d0.2.2) g1.2 none∧Vb w' (Fr 0 w' O') (.slice z5 x0.edges.length a6) x0.edges) _ () ⟨o8,hB,m1,m8,n8,a1⟩ ⟨rfl,rfl,rfl,rfl,rfl,rfl,trivial⟩ (fun _ _=>⟨rfl,rfl⟩) (fun _ _=>⟨rfl,rfl,rfl,trivial⟩) (fun _ _ _ ⟨O',hB,m1,a0,b0,a1⟩=>⟨O',hB,m1,a0,b0⟩) ⟨rfl,rfl,rfl⟩ ⟨rfl,rfl⟩ ?_
  rintro p8 g0 g1 j2 jE iB o3 ⟨q8,hB,m1,a0,b0,a1⟩ c0 y7 z7
  have rk179:inI64 (p8:Int):=rngK o3 b4
  refine Al (Aj ?_)
  obtain ⟨kE,lE,jB,c6,d6,e6,rfl,f6,mE,g6⟩:=a1.elem' o3
  refine Bo (hA:=c6) (hj:=rfl) (hlt:=d6) rfl rfl rfl ?_
  refine Bn (hl:=rfl) (hc:=e6) rfl rfl ?_
  refine CT 6 q8 rfl fun r8 nE s8 y1 h0=>?_
  refine Br h0 rfl rfl rfl (Cj rfl) (allOne rfl) fun k2 z1 h0=>?_
  replace h0:Lc 6 k2 s8 r8 94 [(.int .i64 g0.src),(.int .i64 g0.label),(.int .i64 g0.dst)]:=h0
  refine o_z ?_
  refine Al (BZ (·=k2) [(0,true),(1,true),(2,true),(3,true),(4,true),(5,true),(6,true),(7,true),(8,true),(9,true),(10,true)] (by kernel_rfl) rfl (by kernel_rfl) rfl ?_)
  refine AG rfl rfl rfl (Co rfl rfl rfl ?_)
  replace m1:=(m1.st y1).st z1
  obtain ⟨d4,oE,pE,qE,rE,sE,tE,uE,vE,wE,xE,a2,kB,l2,m2,n2,o2,b2,p2,q2,r2,s2,t2,u2⟩:=Spa.opn m1 2 3 (by decide)
  obtain ⟨yE,zE,rfl⟩:=m2.form
  obtain ⟨aF,bF,rfl⟩:=n2.form
  obtain ⟨cF,dF,rfl⟩:=o2.form
  obtain ⟨eF,fF,rfl⟩:=b2.form
  obtain ⟨gF,rfl⟩:=p2.ptr
  obtain ⟨hF,iF,rfl⟩:=q2.form
  obtain ⟨jF,kF,rfl⟩:=r2.form
  obtain ⟨lF,mF,rfl⟩:=s2.form
  obtain ⟨nF,oF,rfl⟩:=t2.form
  obtain ⟨pF,qF,rfl⟩:=u2.form
  refine AR rfl rfl rfl (AR rfl rfl rfl (Cf (hc:=Blk.cell (i:=3) (l2.1) rfl) rfl rfl rfl ?_))
  refine AR rfl rfl rfl ?_
  replace h0:=h0.st a2
  refine Cf (hc:=Blk.cell (i:=1) (h0.1) rfl) rfl rfl rfl ?_
  obtain ⟨u1,t8,c0⟩:=bs c0
  obtain ⟨u8,v8⟩:=AL t8
  obtain ⟨rF,sF,lB,h6,i6,j6,tF,uF,rfl,w8,x8,k6,vF⟩:=b2.elem' v8
  obtain ⟨wF,xF,rfl⟩:=w8.form
  obtain ⟨yF,zF,rfl⟩:=x8.form
  refine BN (hA:=h6) (hj:=(Int.toNat_of_nonneg u8).symm) (hlt:=i6) rfl rfl rfl rfl ?_
  refine AR rfl rfl rfl (Cf (hc:=cat1 j6) rfl rfl rfl ?_)
  refine Eb rfl rfl rfl (h_z ?_)
  refine Al (BD [(15,[4,13])] d4 ?_)
  refine AW (fuel:=7) [] [(3,true),(4,true),(5,true),(6,true),(7,true),(8,true),(9,true),(10,true),(11,true),(12,true),(13,true)] (by kernel_rfl) rfl ?_
  refine AG rfl rfl rfl (AR rfl rfl rfl (AS (hc:=fun w' ⟨O',hq⟩=>Blk.cell (i:=0) ((h0.st hq (by decide)).1) rfl) rfl rfl rfl ?_))
  obtain ⟨v2,y8,c0⟩:=bs c0
  obtain ⟨z8,e4⟩:=AL y8
  replace a0:=((a0.st y1).st z1).st a2
  obtain ⟨aG,bG,n1,l6⟩:=a0.at e4
  refine BN (hA:=n1) (hj:=(Int.toNat_of_nonneg z8).symm) (hlt:=l6) rfl rfl rfl rfl ?_
  obtain ⟨m6,n6,r1,w2⟩:=NR.peek a0 n1 e4
  replace w2:Vb k2 (FrS [4] k2 d4) (.slice m6 v2.length n6) v2:=w2
  refine AS (hc:=fun w' ⟨O',hq⟩=>NR.stay a0 n1 hq (by decide) r1) rfl rfl rfl ?_
  refine AR rfl rfl rfl (AS (hc:=fun w' ⟨O',hq⟩=>Blk.cell (i:=0) ((h0.st hq (by decide)).1) rfl) rfl rfl rfl ?_)
  refine AR rfl rfl rfl (AS (hc:=fun w' ⟨O',hq⟩=>Blk.cell (i:=2) ((h0.st hq (by decide)).1) rfl) rfl rfl rfl ?_)
  refine AG rfl rfl rfl (Gs rfl rfl rfl rfl ?_)
  refine AK ?_
  refine AW (fuel:=4) [4,13] [(0,true),(1,true),(2,true)] (by kernel_rfl) rfl ?_
  refine AG rfl rfl rfl (AR rfl rfl rfl (AS (hc:=fun w' ⟨O',hq⟩=>Blk.cell (i:=0) ((h0.st hq (by decide)).1) rfl) rfl rfl rfl ?_))
  refine AK ?_
  refine AZ (i:=14) (by kernel_rfl) rfl ?_
  refine Ca 7 (by decide) d4 (xs:=([(⟨g0.src,g0.dst,u1.cost⟩:Arc)]:List Arc)) rfl rfl rfl rfl ⟨(Vb.ofAgg (cs:=[(.int .i64 g0.src),(.int .i64 g0.dst),(.int .i64 u1.cost)]) (x:=(⟨g0.src,g0.dst,u1.cost⟩:Arc)) rfl ⟨rfl,f6,g6,k6⟩),trivial⟩ (by decide) (by decide) rfl fun cG a9 dG e0 f4=>?_
  have hZ:=e0.lst [] (fun _ h=>h.elim)
  replace r1:=NR.stay a0 n1 e0 id r1
  replace w2:=w2.stS e0 id (fun _ _=>id)
  refine BA [(15,[4,13])] hZ (by kernel_rfl) ?_
  refine AZ (i:=15) (by kernel_rfl) rfl ?_
  replace a0:=a0.st e0
  obtain ⟨b9,j0,a0,g4⟩:=NR.take' a0 n1 e4 r1 13 (by decide) (by decide)
  replace g4:Rw 13 a9 b9 106 (.slice m6 v2.length n6) v2:=g4
  have hZ:=j0.lst [4] (fun _ h=>by cases h;decide)
  obtain ⟨d9,i4,c0⟩:=bs c0
  obtain ⟨i4,e9,f9⟩:=BY i4
  replace f4:=f4.st j0
  refine CQ rfl g4 (f4.rd) rfl rfl (by decide) e9 f9 rfl fun eG fG gG hG k0 o6=>?_
  rw [← i4] at o6 ⊢
  replace hZ:=hZ.cmp k0 [4,13] (fun _ h=>by cases h;decide) rfl
  refine BA [] hZ (by kernel_rfl) ?_
  refine AW (fuel:=1) [] [(16,true)] (by kernel_rfl) rfl ?_
  obtain ⟨g9,h9,c0⟩:=bs c0
  obtain ⟨i9,p6⟩:=AL h9
  replace a0:=a0.st k0
  obtain ⟨iG,jG,p3,q6⟩:=a0.at p6
  refine BN (hA:=p3) (hj:=(Int.toNat_of_nonneg i9).symm) (hlt:=q6) rfl rfl rfl rfl ?_
  refine AK ?_
  refine AZ (i:=17) (by kernel_rfl) rfl ?_
  refine Lz (a:=g9) (off:=0) a0 o6 (by decide) p3 p6 rfl rfl rfl rfl (by decide) fun j4 x2 o0 k4=>?_
  replace k4:NR Arc 4 j4 x2 104 106 (.slice d0.1.1 y0.1.length d0.1.2) (g1.1.set (g0.src:Int).toNat d9) none:=k4
  refine Dm (by kernel_rfl) ?_
  refine Ck (by kernel_rfl) ?_
  refine BD [(15,[5,14])] x2 ?_
  refine AW (fuel:=7) [] [(3,true),(4,true),(5,true),(6,true),(7,true),(8,true),(9,true),(10,true),(11,true),(12,true),(13,true)] (by kernel_rfl) rfl ?_
  refine AG rfl rfl rfl (AR rfl rfl rfl ?_)
  replace h0:=(((h0.st e0).st j0).st k0).st o0
  refine AS (hc:=fun w' ⟨O',hq⟩=>Blk.cell (i:=2) ((h0.st hq (by decide)).1) rfl) rfl rfl rfl ?_
  obtain ⟨y2,j9,c0⟩:=bs c0
  obtain ⟨k9,l4⟩:=AL j9
  replace b0:=((((((b0.st y1).st z1).st a2).st e0).st j0).st k0).st o0
  obtain ⟨kG,lG,o1,r6⟩:=b0.at l4
  refine BN (hA:=o1) (hj:=(Int.toNat_of_nonneg k9).symm) (hlt:=r6) rfl rfl rfl rfl ?_
  obtain ⟨s6,t6,s1,z2⟩:=NR.peek b0 o1 l4
  replace z2:Vb j4 (FrS [5] j4 x2) (.slice s6 y2.length t6) y2:=z2
  refine AS (hc:=fun w' ⟨O',hq⟩=>NR.stay b0 o1 hq (by decide) s1) rfl rfl rfl ?_
  refine AR rfl rfl rfl (AS (hc:=fun w' ⟨O',hq⟩=>Blk.cell (i:=2) ((h0.st hq (by decide)).1) rfl) rfl rfl rfl ?_)
  refine AR rfl rfl rfl (AS (hc:=fun w' ⟨O',hq⟩=>Blk.cell (i:=0) ((h0.st hq (by decide)).1) rfl) rfl rfl rfl ?_)
  refine AG rfl rfl rfl (Gs rfl rfl rfl rfl ?_)
  refine AK ?_
  refine AW (fuel:=4) [5,14] [(0,true),(1,true),(2,true)] (by kernel_rfl) rfl ?_
  refine AG rfl rfl rfl (AR rfl rfl rfl (AS (hc:=fun w' ⟨O',hq⟩=>Blk.cell (i:=2) ((h0.st hq (by decide)).1) rfl) rfl rfl rfl ?_))
  refine AK ?_
  refine AZ (i:=14) (by kernel_rfl) rfl ?_
  refine Ca 9 (by decide) x2 (xs:=([(⟨g0.dst,g0.src,u1.cost⟩:Arc)]:List Arc)) rfl rfl rfl rfl ⟨(Vb.ofAgg (cs:=[(.int .i64 g0.dst),(.int .i64 g0.src),(.int .i64 u1.cost)]) (x:=(⟨g0.dst,g0.src,u1.cost⟩:Arc)) rfl ⟨rfl,g6,f6,k6⟩),trivial⟩ (by decide) (by decide) rfl fun mG l9 nG f0 m4=>?_
  have hZ:=f0.lst [] (fun _ h=>h.elim)
  replace s1:=NR.stay b0 o1 f0 id s1
  replace z2:=z2.stS f0 id (fun _ _=>id)
  refine BA [(15,[5,14])] hZ (by kernel_rfl) ?_
  refine AZ (i:=15) (by kernel_rfl) rfl ?_
  replace b0:=b0.st f0
  obtain ⟨m9,m0,b0,n4⟩:=NR.take' b0 o1 l4 s1 14 (by decide) (by decide)
  replace n4:Rw 14 l9 m9 106 (.slice s6 y2.length t6) y2:=n4
  have hZ:=m0.lst [5] (fun _ h=>by cases h;decide)
  obtain ⟨n9,o4,c0⟩:=bs c0
  obtain ⟨o4,o9,p9⟩:=BY o4
  replace m4:=m4.st m0
  refine CQ rfl n4 (m4.rd) rfl rfl (by decide) o9 p9 rfl fun oG pG qG rG n0 u6=>?_
  rw [← o4] at u6 ⊢
  replace hZ:=hZ.cmp n0 [5,14] (fun _ h=>by cases h;decide) rfl
  refine BA [] hZ (by kernel_rfl) ?_
  refine AW (fuel:=1) [] [(16,true)] (by kernel_rfl) rfl ?_
  obtain ⟨q9,r9,c0⟩:=bs c0
  obtain ⟨s9,w6⟩:=AL r9
  replace b0:=b0.st n0
  obtain ⟨sG,tG,q3,x6⟩:=b0.at w6
  refine BN (hA:=q3) (hj:=(Int.toNat_of_nonneg s9).symm) (hlt:=x6) rfl rfl rfl rfl ?_
  refine AK ?_
  refine AZ (i:=17) (by kernel_rfl) rfl ?_
  refine Lz (a:=q9) (off:=0) b0 u6 (by decide) q3 w6 rfl rfl rfl rfl (by decide) fun t9 u9 s0 p4=>?_
  replace p4:NR Arc 5 t9 u9 104 106 (.slice d0.2.1 y0.2.length d0.2.2) (g1.2.set (g0.dst:Int).toNat n9) none:=p4
  refine Dm (by kernel_rfl) ?_
  refine Ck (by kernel_rfl) ?_
  replace l2:=(((((((l2.st e0).st j0).st k0).st o0).st f0).st m0).st n0).st s0
  replace m2:=(((((((m2.st e0).st j0).st k0).st o0).st f0).st m0).st n0).st s0
  replace n2:=(((((((n2.st e0).st j0).st k0).st o0).st f0).st m0).st n0).st s0
  replace o2:=(((((((o2.st e0).st j0).st k0).st o0).st f0).st m0).st n0).st s0
  replace b2:=(((((((b2.st e0).st j0).st k0).st o0).st f0).st m0).st n0).st s0
  replace p2:=(((((((p2.st e0).st j0).st k0).st o0).st f0).st m0).st n0).st s0
  replace q2:=(((((((q2.st e0).st j0).st k0).st o0).st f0).st m0).st n0).st s0
  replace r2:=(((((((r2.st e0).st j0).st k0).st o0).st f0).st m0).st n0).st s0
  replace s2:=(((((((s2.st e0).st j0).st k0).st o0).st f0).st m0).st n0).st s0
  replace t2:=(((((((t2.st e0).st j0).st k0).st o0).st f0).st m0).st n0).st s0
  replace u2:=(((((((u2.st e0).st j0).st k0).st o0).st f0).st m0).st n0).st s0
  obtain ⟨uG,a3,mB,nB,v9⟩:=Spa.shut (x:=x0) (l0:=2) (l1:=3) (by decide) l2 m2 n2 o2 b2 p2 q2 r2 s2 t2 u2
  obtain rfl:=sm c0
  exact show Exists _ from ⟨_,(),rfl,⟨rfl,rfl,rfl,rfl,rfl,rfl,trivial⟩,_,(((((((((((hB.st y1).st z1).st a2).st e0).st j0).st k0).st o0).st f0).st m0).st n0).st s0).st a3,v9,((((k4.st f0).st m0).st n0).st s0).st a3,p4.st a3,(((((((((((a1.st y1).st z1).st a2).st e0).st j0).st k0).st o0).st f0).st m0).st n0).st s0).st a3⟩
 replace hB:=(hB.st i2).st x1
 rintro vG wG ⟨b3,xG,rfl,y6,yG,hB,m1,a0,b0⟩
 replace hm:=Ba hm
 refine AP _ y6 ?_
 refine Al (Aj (At rfl rfl (o_z ?_)))
 refine Al (Al (Aj (Am rfl rfl (BT rfl rfl ?_))))
 obtain ⟨zG,aH,bH,cH,dH,eH,fH,gH,hH,iH,jH,v1,oB,z6,a7,b7,c7,d7,e7,f7,w0,g7,i7,j7⟩:=Spa.opn m1 2 3 (by decide)
 obtain ⟨kH,lH,rfl⟩:=a7.form
 obtain ⟨mH,nH,rfl⟩:=b7.form
 obtain ⟨oH,pH,rfl⟩:=c7.form
 obtain ⟨qH,rH,rfl⟩:=d7.form
 obtain ⟨sH,rfl⟩:=e7.ptr
 obtain ⟨tH,uH,rfl⟩:=f7.form
 obtain ⟨k7,l7,rfl⟩:=w0.form
 obtain ⟨vH,wH,rfl⟩:=g7.form
 obtain ⟨xH,yH,rfl⟩:=i7.form
 obtain ⟨zH,aI,rfl⟩:=j7.form
 refine AF rfl rfl (AE (hc:=Blk.cell (i:=6) (z6.1) rfl) rfl rfl ?_)
 refine AO rfl rfl ?_
 have q4:x0.goals.length≤9223372036854775807:=Nat.le_trans w0.len.2.1 w0.len.2.2
 have bI:inI64 (x0.goals.length:Int):=rngNat q4
 refine Am rfl rfl (o_z ?_)
 obtain ⟨w9,p1,pB,qB,h1⟩:=Spa.shut (x:=x0) (l0:=2) (l1:=3) (by decide) z6 a7 b7 c7 d7 e7 f7 w0 g7 i7 j7
 obtain ⟨r4,m7,hm⟩:=bs hm
 refine AM (aft r4 (fun (i1:(List Int)) (t0:(Option Addr×Nat))=>[(0,(.pointer (some ⟨p0,0,none⟩))),(3,(.slice d0.1.1 y0.1.length d0.1.2)),(4,(.slice d0.2.1 y0.2.length d0.2.2)),(8,(.slice t0.1 i1.length t0.2))]) (fun i1 t0 w'=>∃ O':Lab,Bm w O0 w' O'∧Ob 2 w' O' (.pointer (some ⟨p0,0,none⟩)) x0∧NR Arc 4 w' O' 104 106 (.slice d0.1.1 y0.1.length d0.1.2) b3.1 none∧NR Arc 5 w' O' 104 106 (.slice d0.2.1 y0.2.length d0.2.2) b3.2 none∧Rw 15 w' O' 3 (.slice t0.1 i1.length t0.2) i1)) ?_ ?_
 ·
  refine AN ?_
  replace hB:=(hB.st v1).st p1
  replace a0:=(a0.st v1).st p1
  replace b0:=(b0.st v1).st p1
  replace w0:=w0.st p1
  refine BI (σ:=(List Int)) (X:=(Option Addr×Nat)) (x0.goals.length) m7 rfl q4 (fun (i1:(List Int)) (t0:(Option Addr×Nat))=>[(0,(.pointer (some ⟨p0,0,none⟩))),(3,(.slice d0.1.1 y0.1.length d0.1.2)),(4,(.slice d0.2.1 y0.2.length d0.2.2)),(8,(.slice t0.1 i1.length t0.2)),(77,(.slice k7 x0.goals.length l7))]) _ (fun i1 t0 w'=>∃ O':Lab,Bm w O0 w' O'∧Ob 2 w' O' (.pointer (some ⟨p0,0,none⟩)) x0∧NR Arc 4 w' O' 104 106 (.slice d0.1.1 y0.1.length d0.1.2) b3.1 none∧NR Arc 5 w' O' 104 106 (.slice d0.2.1 y0.2.length d0.2.2) b3.2 none∧Rw 15 w' O' 3 (.slice t0.1 i1.length t0.2) i1∧Vb w' (Fr 0 w' O') (.slice k7 x0.goals.length l7) x0.goals) _ (none,0) ⟨w9,hB,h1,a0,b0,(Rw.nil 15 (by decide)),w0⟩ ⟨rfl,rfl,rfl,rfl,rfl,rfl,rfl,trivial⟩ (fun _ _=>⟨rfl,rfl⟩) (fun _ _=>⟨rfl,rfl,rfl,rfl,trivial⟩) (fun _ _ _ ⟨O',hB,h1,a0,b0,j1,w0⟩=>⟨O',hB,h1,a0,b0,j1⟩) ⟨rfl,rfl,rfl⟩ ⟨rfl,rfl⟩ ?_
  rintro n7 cI i1 t0 dI rB r3 ⟨eI,hB,h1,a0,b0,j1,w0⟩ v0 a8 b8
  have rk446:inI64 (n7:Int):=rngK r3 q4
  refine Al (Aj (Am rfl rfl ?_))
  obtain ⟨fI,gI,sB,o7,p7,q7,rfl⟩:=w0.elem' r3
  refine Bo (hA:=o7) (hj:=rfl) (hlt:=p7) rfl rfl rfl ?_
  refine AE (hc:=cat0 q7) rfl rfl ?_
  refine At rfl rfl (At rfl rfl (o_z ?_))
  refine Al (Aj (Am rfl rfl (o_z ?_)))
  refine CO rfl (fun s4=>?_) (fun s4=>?_)
  ·
   replace v0:=ip v0 s4
   refine Aj (Am rfl rfl (Am rfl rfl ?_))
   obtain ⟨hI,t4,v0⟩:=bs v0
   obtain ⟨t4,x9,y9⟩:=BY t4
   refine DV rfl (a:=(n7:Int)) j1 (vInt rk446) (fun _=>rfl) rfl (by decide) (by decide) x9 y9 ⟨rfl,rfl⟩ fun iI z9 aA jI kI c2 r7=>?_
   rw [← t4] at r7 ⊢
   refine At rfl rfl (o_z ?_)
   obtain rfl:=sm v0
   exact show Exists _ from ⟨_,(z9,aA),rfl,⟨rfl,rfl,rfl,rfl,rfl,rfl,rfl,trivial⟩,_,hB.st c2,h1.st c2,a0.st c2,b0.st c2,r7,w0.st c2⟩
  replace v0:=im' v0 s4
  refine AH ?_
  obtain rfl:=sm v0
  exact show Exists _ from ⟨_,(t0.1,t0.2),rfl,⟨rfl,rfl,rfl,rfl,rfl,rfl,rfl,trivial⟩,_,hB,h1,a0,b0,j1,w0⟩
 replace hB:=(hB.st v1).st p1
 replace a0:=(a0.st v1).st p1
 replace b0:=(b0.st v1).st p1
 rintro lI mI ⟨nI,oI,rfl,s7,bA,hB,h1,a0,b0,j1⟩
 replace hm:=Ba hm
 refine AP _ s7 ?_
 refine Al (Aj (Am rfl rfl (Am rfl rfl (Ca 16 (by decide) bA (xs:=(([0]:List Int):List Int)) rfl rfl rfl rfl ⟨(vInt (show inI64 (0) from by decide)),trivial⟩ (by decide) (by decide) rfl fun pI qI rI d2 e2=>?_))))
 replace a0:=a0.st d2
 obtain ⟨sI,f2,a0⟩:=a0.freeze
 replace e2:=e2.st f2
 obtain ⟨cA,g2,e2⟩:=e2.freeze
 obtain ⟨h2,dA,hm⟩:=bs hm
 replace a0:=a0.st g2
 refine Dq (O:=cA) (R:=fun w' F v=>T2 w' F v h2) (EK Fr.lt a0 e2 dA) rfl rfl fun tI uI vI c3 eA=>?_
 obtain ⟨wI,xI,rfl,d3,fA⟩:=eA
 obtain ⟨u4,v4,rfl⟩:=d3.form
 obtain ⟨yI,zI,rfl⟩:=fA.form
 refine Am rfl rfl (Bf rfl rfl rfl (Bf rfl rfl rfl (BT rfl rfl ?_)))
 replace h1:=(((h1.st d2).st f2).st g2).st c3
 obtain ⟨gA,aJ,bJ,cJ,dJ,eJ,fJ,gJ,hJ,iJ,jJ,e3,tB,q0,f3,g3,h3,i3,j3,k3,l3,iA,jA,kA⟩:=Spa.opn h1 2 3 (by decide)
 obtain ⟨w4,x4,rfl⟩:=f3.form
 obtain ⟨y4,z4,rfl⟩:=g3.form
 obtain ⟨a5,b5,rfl⟩:=h3.form
 obtain ⟨c5,d5,rfl⟩:=i3.form
 obtain ⟨e5,rfl⟩:=j3.ptr
 obtain ⟨f5,g5,rfl⟩:=k3.form
 obtain ⟨h5,i5,rfl⟩:=l3.form
 obtain ⟨kJ,lJ,rfl⟩:=iA.form
 obtain ⟨lA,mA,rfl⟩:=jA.form
 obtain ⟨t7,u7,rfl⟩:=kA.form
 refine AF rfl rfl (Br q0 rfl rfl rfl (Cj rfl) (allOne rfl) fun nA b1 q0=>?_)
 replace q0:Lc 2 nA gA p0 87 [(.slice w4 x0.t.vars.length x4),(.slice y4 x0.t.init.length z4),(.slice a5 x0.t.goal.length b5),(.slice c5 x0.t.ops.length d5),(.pointer (some ⟨e5,0,none⟩)),(.slice f5 x0.edges.length g5),(.slice h5 x0.goals.length i5),(.slice u4 h2.1.length v4),(.slice lA x0.distances.length mA),(.slice t7 x0.steps.length u7)]:=q0
 refine o_z ?_
 refine Aj (Am rfl rfl (Am rfl rfl (Am rfl rfl (Am rfl rfl ?_))))
 replace b0:=(((((b0.st d2).st f2).st g2).st c3).st e3).st b1
 obtain ⟨mJ,c1,b0⟩:=b0.freeze
 replace j1:=((((((j1.st d2).st f2).st g2).st c3).st e3).st b1).st c1
 obtain ⟨oA,d1,j1⟩:=j1.freeze
 obtain ⟨w1,pA,hm⟩:=bs hm
 replace b0:=b0.st d1
 refine Dq (O:=oA) (R:=fun w' F v=>T2 w' F v w1) (EK Fr.lt b0 j1 pA) rfl rfl fun nJ oJ v7 k1 qA=>?_
 obtain ⟨pJ,qJ,rfl,m3,n3⟩:=qA
 obtain ⟨w7,x7,rfl⟩:=m3.form
 obtain ⟨rA,sA,rfl⟩:=n3.form
 refine Am rfl rfl (Bf rfl rfl rfl (Bf rfl rfl rfl (BT rfl rfl (AF rfl rfl ?_))))
 replace q0:=((q0.st c1).st d1).st k1
 refine Br q0 rfl rfl rfl (Cj rfl) (allOne rfl) fun tA e1 q0=>?_
 replace q0:Lc 2 tA v7 p0 87 [(.slice w4 x0.t.vars.length x4),(.slice y4 x0.t.init.length z4),(.slice a5 x0.t.goal.length b5),(.slice c5 x0.t.ops.length d5),(.pointer (some ⟨e5,0,none⟩)),(.slice f5 x0.edges.length g5),(.slice h5 x0.goals.length i5),(.slice u4 h2.1.length v4),(.slice w7 w1.1.length x7),(.slice t7 x0.steps.length u7)]:=q0
 refine BT rfl rfl (AF rfl rfl (Br q0 rfl rfl rfl (Cj rfl) (allOne rfl) fun uA f1 q0=>?_))
 replace q0:Lc 2 uA v7 p0 87 [(.slice w4 x0.t.vars.length x4),(.slice y4 x0.t.init.length z4),(.slice a5 x0.t.goal.length b5),(.slice c5 x0.t.ops.length d5),(.pointer (some ⟨e5,0,none⟩)),(.slice f5 x0.edges.length g5),(.slice h5 x0.goals.length i5),(.slice u4 h2.1.length v4),(.slice w7 w1.1.length x7),(.slice rA w1.2.length sA)]:=q0
 refine o_z ?_
 replace d3:=((((((d3.st e3).st b1).st c1).st d1).st k1).st e1).st f1
 replace f3:=(((((f3.st b1).st c1).st d1).st k1).st e1).st f1
 replace g3:=(((((g3.st b1).st c1).st d1).st k1).st e1).st f1
 replace h3:=(((((h3.st b1).st c1).st d1).st k1).st e1).st f1
 replace i3:=(((((i3.st b1).st c1).st d1).st k1).st e1).st f1
 replace j3:=(((((j3.st b1).st c1).st d1).st k1).st e1).st f1
 replace k3:=(((((k3.st b1).st c1).st d1).st k1).st e1).st f1
 replace l3:=(((((l3.st b1).st c1).st d1).st k1).st e1).st f1
 replace m3:=(m3.st e1).st f1
 replace n3:=(n3.st e1).st f1
 obtain ⟨rJ,vA,uB,vB,wA⟩:=Spa.shut (x:=(⟨(⟨x0.t.vars,x0.t.init,x0.t.goal,x0.t.ops⟩:Tsk),x0.states,x0.edges,x0.goals,h2.1,w1.1,w1.2⟩:Spa)) (l0:=2) (l1:=3) (by decide) q0 f3 g3 h3 i3 j3 k3 l3 d3 m3 n3
 obtain rfl:=sm hm
 replace hB:=(((((((((((hB.st d2).st f2).st g2).st c3).st e3).st b1).st c1).st d1).st k1).st e1).st f1).st vA
 obtain ⟨O',hS',hz,hl⟩:=hE.leave (fun q=>if q=2 then i0 else 0) rfl hB
 exact ret0n rfl  ⟨O',hS',(Ob.leave wA hz (hl 2 (by decide) (by decide)) k5.2)⟩
noncomputable def Dg (x0:Spa):Option Int :=
  bnd (Bd x0.states) fun q45=>some q45
theorem Ig {w:World} {O:Lab} {p0 i0:Nat} {x0:Spa} (b0:Ob i0 w O (.pointer (some ⟨p0,0,none⟩)) x0) {r:Int} (hm:Dg x0=some r) :
    Fn Tryz.prog 21 [(.pointer (some ⟨p0,0,none⟩))] w fun v w'=>∃ O',St (eT i0) w O w' O'∧Ob i0 w' O' (.pointer (some ⟨p0,0,none⟩)) x0∧Vb w' (Fr 0 w' O') v r:=by
 obtain ⟨O0,hE,n0,o0⟩:=ent1 (w:=w) (O:=O) b0.2
 have b0':=Ob.leave b0 n0 o0 (j:=2) (by decide)
 have hB:Bm w O0 w O0:=Bm.refl
 refine AI Tryz.func21 rfl Tryz.ntmps21 rfl ?_
 unfold Dg at hm
 refine Al (Aj (At rfl rfl (o_z ?_)))
 refine Al (Al (Aj (Am rfl rfl (EH rfl rfl ?_))))
 refine o_z ?_
 refine Ae rfl (AH (Al (Aj (Am rfl rfl (BT rfl rfl ?_)))))
 obtain ⟨O2,v6,a1,b1,c1,d1,e1,f1,g1,h1,i1,S3,j1,h4,h7,c0,d0,e0,m0,f0,g0,h0,j0,k0⟩:=Spa.opn b0' 2 3 (by decide)
 obtain ⟨A8,c9,rfl⟩:=h7.form
 obtain ⟨k1,m1,rfl⟩:=c0.form
 obtain ⟨n1,o1,rfl⟩:=d0.form
 obtain ⟨p1,q1,rfl⟩:=e0.form
 obtain ⟨r1,rfl⟩:=m0.ptr
 obtain ⟨s1,t1,rfl⟩:=f0.form
 obtain ⟨u1,v1,rfl⟩:=g0.form
 obtain ⟨w1,x1,rfl⟩:=h0.form
 obtain ⟨y1,z1,rfl⟩:=j0.form
 obtain ⟨a2,b2,rfl⟩:=k0.form
 refine AF rfl rfl (AE (hc:=Blk.cell (i:=4) (h4.1) rfl) rfl rfl ?_)
 obtain ⟨c2,q0,hm⟩:=bs hm
 refine BP (O:=O2) (DO m0 q0) rfl rfl fun d2 e2 f2 a0 r0=>?_
 obtain ⟨s0,t0⟩:=r0
 obtain ⟨rfl,u0⟩:=t0.int
 refine At rfl rfl (o_z ?_)
 refine AJ ?_
 replace h4:=h4.st a0
 replace h7:=h7.st a0
 replace c0:=c0.st a0
 replace d0:=d0.st a0
 replace e0:=e0.st a0
 replace f0:=f0.st a0
 replace g0:=g0.st a0
 replace h0:=h0.st a0
 replace j0:=j0.st a0
 replace k0:=k0.st a0
 obtain ⟨g2,v0,w0,y0,z0⟩:=Spa.shut (x:=x0) (l0:=2) (l1:=3) (by decide) h4 h7 c0 d0 e0 s0 f0 g0 h0 j0 k0
 obtain rfl:=sm hm
 replace hB:=((hB.st S3).st a0).st v0
 obtain ⟨O',hS',hz,hl⟩:=hE.leave (fun q=>if q=2 then i0 else 0) rfl hB
 exact ret1v rfl (AA rfl) ⟨O',hS',(Ob.leave z0 hz (hl 2 (by decide) (by decide)) b0.2),(vInt u0)⟩
noncomputable def CW (x0:Spa) (x1:Int):Option ((List Int)×Err) :=
  bnd (Bp x0.states x1) fun q46=>some (q46.1,(⟨q46.2.n⟩:Err))
theorem Hm {w:World} {O:Lab} {p0 i0:Nat} {x0:Spa} (b0:Ob i0 w O (.pointer (some ⟨p0,0,none⟩)) x0) {x1:Int} (rx1:inI64 x1) {r:(List Int)×Err} (hm:CW x0 x1=some r) :
    Fn Tryz.prog 22 [(.pointer (some ⟨p0,0,none⟩)),(.int .i64 x1)] w fun v w'=>∃ O',St (eT i0) w O w' O'∧∃ v0 v1:Value,Ob i0 w' O' (.pointer (some ⟨p0,0,none⟩)) x0∧v=.tuple #[v0,v1]∧Vb w' (Fr 0 w' O') v0 r.1∧Vb w' (Fr 0 w' O') v1 r.2:=by
 obtain ⟨O0,hE,q0,r0⟩:=ent1 (w:=w) (O:=O) b0.2
 have b0':=Ob.leave b0 q0 r0 (j:=2) (by decide)
 have hB:Bm w O0 w O0:=Bm.refl
 refine AI Tryz.func22 rfl Tryz.ntmps22 rfl ?_
 unfold CW at hm
 refine Al (Aj (At rfl rfl (At rfl rfl (o_z ?_))))
 refine Al (Al (Aj (Am rfl rfl (EH rfl rfl ?_))))
 refine o_z ?_
 refine Ae rfl (AH (Al (Aj (Am rfl rfl (BT rfl rfl ?_)))))
 obtain ⟨O3,v7,c1,d1,e1,f1,g1,h1,i1,j1,k1,S4,m1,h5,h8,c0,d0,e0,n0,f0,g0,h0,j0,k0⟩:=Spa.opn b0' 2 3 (by decide)
 obtain ⟨A9,n1,rfl⟩:=h8.form
 obtain ⟨o1,p1,rfl⟩:=c0.form
 obtain ⟨q1,r1,rfl⟩:=d0.form
 obtain ⟨s1,t1,rfl⟩:=e0.form
 obtain ⟨u1,rfl⟩:=n0.ptr
 obtain ⟨w1,y1,rfl⟩:=f0.form
 obtain ⟨z1,a2,rfl⟩:=g0.form
 obtain ⟨b2,c2,rfl⟩:=h0.form
 obtain ⟨d2,e2,rfl⟩:=j0.form
 obtain ⟨f2,g2,rfl⟩:=k0.form
 refine AF rfl rfl (AE (hc:=Blk.cell (i:=4) (h5.1) rfl) rfl rfl ?_)
 refine Am rfl rfl ?_
 obtain ⟨h2,s0,hm⟩:=bs hm
 refine BP (O:=O3) (EF n0 rx1 s0) rfl rfl fun i2 j2 k2 a0 t0=>?_
 obtain ⟨l2,m2,u0,rfl,m0,w0⟩:=t0
 obtain ⟨n2,o2,rfl⟩:=m0.form
 obtain ⟨rfl,y0⟩:=w0.err
 refine Bf rfl rfl rfl (Bf rfl rfl rfl (At rfl rfl (At rfl rfl (o_z ?_))))
 refine AJ ?_
 replace h5:=h5.st a0
 replace h8:=h8.st a0
 replace c0:=c0.st a0
 replace d0:=d0.st a0
 replace e0:=e0.st a0
 replace f0:=f0.st a0
 replace g0:=g0.st a0
 replace h0:=h0.st a0
 replace j0:=j0.st a0
 replace k0:=k0.st a0
 obtain ⟨p2,o0,z0,a1,b1⟩:=Spa.shut (x:=x0) (l0:=2) (l1:=3) (by decide) h5 h8 c0 d0 e0 u0 f0 g0 h0 j0 k0
 obtain rfl:=sm hm
 replace hB:=((hB.st S4).st a0).st o0
 obtain ⟨O',hS',hz,hl⟩:=hE.leave (fun q=>if q=2 then i0 else 0) rfl hB
 replace m0:=m0.st o0
 exact ret2 rfl (AA rfl) (AA rfl) ⟨O',hS',_,_,(Ob.leave b1 hz (hl 2 (by decide) (by decide)) b0.2),rfl,(Vb.mono m0 hz),(vErr y0)⟩
noncomputable def CB (x0:Spa):Option (List Int) :=
  bnd (By x0.distances) fun q45=>some q45
theorem Gg {w:World} {O:Lab} {p0 i0:Nat} {x0:Spa} (c0:Ob i0 w O (.pointer (some ⟨p0,0,none⟩)) x0) {r:(List Int)} (hm:CB x0=some r) :
    Fn Tryz.prog 19 [(.pointer (some ⟨p0,0,none⟩))] w fun v w'=>∃ O',St (eT i0) w O w' O'∧Ob i0 w' O' (.pointer (some ⟨p0,0,none⟩)) x0∧Vb w' (Fr 0 w' O') v r:=by
 obtain ⟨O0,hE,r0,s0⟩:=ent1 (w:=w) (O:=O) c0.2
 have c0':=Ob.leave c0 r0 s0 (j:=2) (by decide)
 have hB:Bm w O0 w O0:=Bm.refl
 refine AI Tryz.func19 rfl Tryz.ntmps19 rfl ?_
 unfold CB at hm
 refine Al (Aj (At rfl rfl (o_z ?_)))
 refine Al (Al (Aj (Am rfl rfl (EH rfl rfl ?_))))
 refine o_z ?_
 refine Ae rfl (AH (Al (Aj (Am rfl rfl (BT rfl rfl ?_)))))
 obtain ⟨O2,v6,y0,z0,a1,b1,c1,d1,e1,f1,g1,S3,h1,h4,h7,f0,g0,h0,j0,k0,m0,n0,d0,o0⟩:=Spa.opn c0' 2 3 (by decide)
 obtain ⟨A8,c9,rfl⟩:=h7.form
 obtain ⟨i1,j1,rfl⟩:=f0.form
 obtain ⟨k1,m1,rfl⟩:=g0.form
 obtain ⟨n1,o1,rfl⟩:=h0.form
 obtain ⟨p1,rfl⟩:=j0.ptr
 obtain ⟨q1,r1,rfl⟩:=k0.form
 obtain ⟨s1,t1,rfl⟩:=m0.form
 obtain ⟨u1,v1,rfl⟩:=n0.form
 obtain ⟨w1,x1,rfl⟩:=d0.form
 obtain ⟨y1,z1,rfl⟩:=o0.form
 refine AF rfl rfl (AE (hc:=Blk.cell (i:=8) (h4.1) rfl) rfl rfl ?_)
 obtain ⟨a2,t0,hm⟩:=bs hm
 refine CC 4 (by decide) (O:=O2) (Cb Fr.lt d0 t0) rfl rfl fun b2 c2 d2 e2 a0 e0=>?_
 refine At rfl rfl (o_z ?_)
 refine AJ ?_
 obtain ⟨f2,b0,e0⟩:=e0.freeze
 replace h4:=(h4.st a0).st b0
 replace h7:=(h7.st a0).st b0
 replace f0:=(f0.st a0).st b0
 replace g0:=(g0.st a0).st b0
 replace h0:=(h0.st a0).st b0
 replace j0:=(j0.st a0).st b0
 replace k0:=(k0.st a0).st b0
 replace m0:=(m0.st a0).st b0
 replace n0:=(n0.st a0).st b0
 replace d0:=(d0.st a0).st b0
 replace o0:=(o0.st a0).st b0
 obtain ⟨g2,q0,u0,v0,w0⟩:=Spa.shut (x:=x0) (l0:=2) (l1:=3) (by decide) h4 h7 f0 g0 h0 j0 k0 m0 n0 d0 o0
 obtain rfl:=sm hm
 replace hB:=(((hB.st S3).st a0).st b0).st q0
 obtain ⟨O',hS',hz,hl⟩:=hE.leave (fun q=>if q=2 then i0 else 0) rfl hB
 replace e0:=e0.st q0
 exact ret1v rfl (AA rfl) ⟨O',hS',(Ob.leave w0 hz (hl 2 (by decide) (by decide)) c0.2),(Vb.mono e0 hz)⟩
end
section
open Go Go.RowKit
attribute [local irreducible] ewp owp hwp hwq hws Ev Evg Fn retPost loud loudS Res1
attribute [local irreducible] hwx loudX
noncomputable def Do (x0:Tsk):Option Int :=
  bnd (EI x0) fun q24=>if q24.n≠0 then (some 0) else (bnd (rng (ρ:=Int) (fun (k39:Nat) (a40:Int) (s37:Int)=>bnd (chkI (s37 * a40)) fun n60=>some (.next (min n60 65537))) x0.vars 0 1) fun res35=>fin res35 fun (s67:Int)=>some s67)
theorem HZ {w:World} {A:Nat→Prop} (hA:∀ k,A k→k < w.heap.size) {vx0:Value} {x0:Tsk} (m0:Vb w A vx0 x0) {r:Int} (hm:Do x0=some r) :
    Fn Tryz.prog 58 [vx0] w fun v w'=>Ext w w'∧Vb w' (upA A w w') v r:=by
 obtain ⟨O,hB,g1⟩:=enter hA
 replace m0:=m0.mono g1
 obtain ⟨q1,rfl,v3,v4,v5,v6,rfl,h7,h0,i0,j0⟩:=m0
 obtain ⟨A8,c9,rfl⟩:=h7.form
 obtain ⟨z0,a1,rfl⟩:=h0.form
 obtain ⟨b1,c1,rfl⟩:=i0.form
 obtain ⟨d1,e1,rfl⟩:=j0.form
 refine AI Tryz.func58 rfl Tryz.ntmps58 rfl ?_
 unfold Do at hm
 refine Al (Aj (Dw 2 O rfl rfl fun h1 n0 o0 b0 d0=>?_))
 replace d0:Lc 2 n0 o0 h1 26 [(.slice A8 x0.vars.length c9),(.slice z0 x0.init.length a1),(.slice b1 x0.goal.length c1),(.slice d1 x0.ops.length e1)]:=d0
 refine At rfl rfl (o_z ?_)
 refine Al (Al (Aj (Bn (hl:=rfl) (hc:=(d0.1).cellsAt) rfl rfl ?_)))
 obtain ⟨i1,j1,hm⟩:=bs hm
 replace h7:=h7.st b0
 replace h0:=h0.st b0
 replace i0:=i0.st b0
 replace j0:=j0.st b0
 refine BO (O:=o0) (A:=All n0) (R:=fun w' F v=>Vb w' F v i1) (Iu (fun _ h=>h) (Vb.mono (F:=Fr 0 n0 o0) (Vb.ofAgg (cs:=[(.slice A8 x0.vars.length c9),(.slice z0 x0.init.length a1),(.slice b1 x0.goal.length c1),(.slice d1 x0.ops.length e1)]) (x:=x0) rfl ⟨_,_,_,_,rfl,h7,h0,i0,j0⟩) Fr.lt) j1) rfl rfl fun r1 s1 k1 e0 l1=>?_
 obtain ⟨rfl,t1⟩:=l1.err
 refine Di rfl rfl (fun p0=>?_) fun p0=>?_
 ·
  replace hm:=ip hm p0
  refine o_z ?_
  refine Ah rfl (Al (Aj (At rfl rfl (o_z ?_))))
  refine AJ ?_
  obtain rfl:=sm hm
  replace hB:=(hB.st b0).st e0
  exact ret1v rfl (AA rfl) ⟨hB.ext,(vInt (show inI64 (0) from by decide))⟩
 replace hm:=im hm p0
 refine o_z ?_
 refine Ae rfl (AH (Al (Aj (At rfl rfl (o_z ?_)))))
 refine Al (Al (Aj (AF rfl rfl ?_)))
 replace d0:=d0.st e0
 refine AE (hc:=Blk.cell (i:=0) (d0.1) rfl) rfl rfl ?_
 refine AO rfl rfl ?_
 replace h7:=h7.st e0
 have q0:x0.vars.length≤9223372036854775807:=Nat.le_trans h7.len.2.1 h7.len.2.2
 have u1:inI64 (x0.vars.length:Int):=rngNat q0
 refine Am rfl rfl (o_z ?_)
 obtain ⟨f0,r0,hm⟩:=bs hm
 refine AM (aft f0 (fun (a0:Int) (k0:Unit)=>[(3,(.int .i64 a0))]) (fun a0 k0 w'=>∃ O':Lab,Bs w A w' O'∧inI64 a0)) ?_ ?_
 ·
  refine AN ?_
  replace hB:=(hB.st b0).st e0
  refine BI (σ:=Int) (X:=Unit) (x0.vars.length) r0 rfl q0 (fun (a0:Int) (k0:Unit)=>[(3,(.int .i64 a0)),(10,(.slice A8 x0.vars.length c9))]) _ (fun a0 k0 w'=>∃ O':Lab,Bs w A w' O'∧Vb w' (Fr 0 w' O') (.slice A8 x0.vars.length c9) x0.vars∧inI64 a0) _ () ⟨k1,hB,h7,(show inI64 (1) from by decide)⟩ ⟨rfl,rfl,rfl,rfl,trivial⟩ (fun _ _=>⟨rfl,rfl⟩) (fun _ _=>⟨rfl,trivial⟩) (fun _ _ _ ⟨O',hB,h7,l0⟩=>⟨O',hB,l0⟩) ⟨rfl,rfl,rfl⟩ ⟨rfl,rfl⟩ ?_
  rintro m1 v1 a0 k0 w1 n1 g0 ⟨x1,hB,h7,l0⟩ c0 s0 t0
  have rk39:inI64 (m1:Int):=rngK g0 q0
  refine Al (Aj ?_)
  obtain ⟨y1,z1,o1,u0,v0,w0,rfl,a2⟩:=h7.elem' g0
  refine Bo (hA:=u0) (hj:=rfl) (hlt:=v0) rfl rfl rfl ?_
  refine AE (hc:=cat0 w0) rfl rfl ?_
  refine At rfl rfl (o_z ?_)
  refine Aj (Am rfl rfl (Am rfl rfl ?_))
  obtain ⟨b2,f1,c0⟩:=bs c0
  have p1:=(BC f1)
  refine MJ (he:=f1) rfl rfl rfl ?_
  refine MA rfl rfl rfl ?_
  refine At rfl rfl (o_z ?_)
  obtain rfl:=sm c0
  exact show Exists _ from ⟨_,(),rfl,⟨rfl,rfl,rfl,rfl,trivial⟩,_,hB,h7,(rngMin p1 (show inI64 (65537) from by decide))⟩
 replace hB:=(hB.st b0).st e0
 rintro c2 d2 ⟨e2,f2,rfl,y0,g2,hB,l0⟩
 replace hm:=Ba hm
 refine AP _ y0 ?_
 refine Al (Aj (Am rfl rfl (At rfl rfl (o_z ?_))))
 refine AJ ?_
 obtain rfl:=sm hm
 exact ret1v rfl (AA rfl) ⟨hB.ext,(vInt l0)⟩
noncomputable def DB (x0:Tsk):Option (Int×Err) :=
  bnd (EI x0) fun q24=>if q24.n≠0 then (some (0,(⟨q24.n⟩:Err))) else (bnd (Do x0) fun q33=>if 65536 < q33 then (some (0,(⟨5⟩:Err))) else (some (q33,(⟨0⟩:Err))))
theorem Hn {w:World} {A:Nat→Prop} (hA:∀ k,A k→k < w.heap.size) {vx0:Value} {x0:Tsk} (g0:Vb w A vx0 x0) {r:Int×Err} (hm:DB x0=some r) :
    Fn Tryz.prog 63 [vx0] w fun v w'=>Ext w w'∧T2 w' (upA A w w') v r:=by
 obtain ⟨O,hB,u0⟩:=enter hA
 replace g0:=g0.mono u0
 obtain ⟨f1,rfl,v3,v4,v5,v6,rfl,h7,b0,c0,d0⟩:=g0
 obtain ⟨A8,c9,rfl⟩:=h7.form
 obtain ⟨h0,i0,rfl⟩:=b0.form
 obtain ⟨j0,k0,rfl⟩:=c0.form
 obtain ⟨l0,m0,rfl⟩:=d0.form
 refine AI Tryz.func63 rfl Tryz.ntmps63 rfl ?_
 unfold DB at hm
 refine Al (Aj (Dw 2 O rfl rfl fun v0 n0 o0 e0 f0=>?_))
 replace f0:Lc 2 n0 o0 v0 26 [(.slice A8 x0.vars.length c9),(.slice h0 x0.init.length i0),(.slice j0 x0.goal.length k0),(.slice l0 x0.ops.length m0)]:=f0
 refine At rfl rfl (At rfl rfl (o_z ?_))
 refine Al (Al (Aj (Bn (hl:=rfl) (hc:=(f0.1).cellsAt) rfl rfl ?_)))
 obtain ⟨w0,y0,hm⟩:=bs hm
 replace h7:=h7.st e0
 replace b0:=b0.st e0
 replace c0:=c0.st e0
 replace d0:=d0.st e0
 refine BO (O:=o0) (A:=All n0) (R:=fun w' F v=>Vb w' F v w0) (Iu (fun _ h=>h) (Vb.mono (F:=Fr 0 n0 o0) (Vb.ofAgg (cs:=[(.slice A8 x0.vars.length c9),(.slice h0 x0.init.length i0),(.slice j0 x0.goal.length k0),(.slice l0 x0.ops.length m0)]) (x:=x0) rfl ⟨_,_,_,_,rfl,h7,b0,c0,d0⟩) Fr.lt) y0) rfl rfl fun g1 r0 s0 a0 z0=>?_
 obtain ⟨rfl,a1⟩:=z0.err
 refine At rfl rfl (o_z ?_)
 refine Al (Aj (Am rfl rfl (Di rfl rfl (fun p0=>?_) fun p0=>?_)))
 ·
  replace hm:=ip hm p0
  refine o_z ?_
  refine Ah rfl (Al (Aj (Am rfl rfl (At rfl rfl (At rfl rfl (o_z ?_))))))
  refine AJ ?_
  obtain rfl:=sm hm
  replace hB:=(hB.st e0).st a0
  exact ret2 rfl (AA rfl) (AA rfl) ⟨hB.ext,_,_,rfl,(vInt (show inI64 (0) from by decide)),(vErr a1)⟩
 replace hm:=im hm p0
 refine o_z ?_
 refine Ae rfl (AH (Al (Aj ?_)))
 replace f0:=f0.st a0
 refine Bn (hl:=rfl) (hc:=(f0.1).cellsAt) rfl rfl ?_
 obtain ⟨b1,c1,hm⟩:=bs hm
 replace h7:=h7.st a0
 replace b0:=b0.st a0
 replace c0:=c0.st a0
 replace d0:=d0.st a0
 refine BO (O:=s0) (A:=All r0) (R:=fun w' F v=>Vb w' F v b1) (HZ (fun _ h=>h) (Vb.mono (F:=Fr 0 r0 s0) (Vb.ofAgg (cs:=[(.slice A8 x0.vars.length c9),(.slice h0 x0.init.length i0),(.slice j0 x0.goal.length k0),(.slice l0 x0.ops.length m0)]) (x:=x0) rfl ⟨_,_,_,_,rfl,h7,b0,c0,d0⟩) Fr.lt) c1) rfl rfl fun h1 i1 j1 t0 d1=>?_
 obtain ⟨rfl,e1⟩:=d1.int
 refine At rfl rfl (o_z ?_)
 refine Al (Al (Aj (Am rfl rfl (CN rfl rfl rfl (fun q0=>?_) fun q0=>?_))))
 ·
  replace hm:=ip hm q0
  refine o_z ?_
  refine Ah rfl (Al (Aj (Dx rfl rfl ?_)))
  refine At rfl rfl (At rfl rfl (o_z ?_))
  refine AJ ?_
  obtain rfl:=sm hm
  replace hB:=((hB.st e0).st a0).st t0
  exact ret2 rfl (AA rfl) (AA rfl) ⟨hB.ext,_,_,rfl,(vInt (show inI64 (0) from by decide)),(vErr (by decide))⟩
 replace hm:=im hm q0
 refine o_z ?_
 refine Ae rfl (AH (Al (Aj (Am rfl rfl (At rfl rfl (At rfl rfl (o_z ?_)))))))
 refine AJ ?_
 obtain rfl:=sm hm
 replace hB:=((hB.st e0).st a0).st t0
 exact ret2 rfl (AA rfl) (AA rfl) ⟨hB.ext,_,_,rfl,(vInt e1),(vErr (show inI64 0 from by decide))⟩
noncomputable def DR (x0:Tsk) (x1:Int):Option ((List Int)×Err) :=
  bnd (DB x0) fun q25=>if q25.2.n≠0 then (some (([]:List Int),(⟨q25.2.n⟩:Err))) else (bnd (if x1 < 0 then (some true) else (if q25.1≤x1 then (some true) else (some false)):Option Bool) fun y39=>if y39=true then (some (([]:List Int),(⟨1⟩:Err))) else (bnd (mkI 8 (0:Int) (x0.vars.length:Int)) fun u52=>bnd (chkI ((u52.length:Int) - 1)) fun n67=>bnd (lop (ρ:=(List Int)×Err) (fun (s72:Int×(List Int)×Int)=>if 0≤s72.2.2 then (bnd (atI x0.vars s72.2.2) fun a94=>bnd (remI s72.1 a94) fun n106=>bnd (atI s72.2.1 s72.2.2) fun a109=>bnd (atI x0.vars s72.2.2) fun a123=>bnd (quoI s72.1 a123) fun n135=>bnd (chkI (s72.2.2 - 1)) fun n138=>some (.next (n135,(s72.2.1.set (s72.2.2:Int).toNat n106),n138))) else (some (.brk (s72.1,s72.2.1,s72.2.2)))) (x1,u52,n67)) fun res70=>fin res70 fun (s145:Int×(List Int)×Int)=>some (s145.2.1,(⟨0⟩:Err))))
theorem KR {w:World} {A:Nat→Prop} (hA:∀ k,A k→k < w.heap.size) {vx0:Value} {x0:Tsk} (r1:Vb w A vx0 x0) {x1:Int} (rx1:inI64 x1) {r:(List Int)×Err} (hm:DR x0 x1=some r) :
    Fn Tryz.prog 59 [vx0,(.int .i64 x1)] w fun v w'=>Ext w w'∧T2 w' (upA A w w') v r:=by
 obtain ⟨O,hB,w2⟩:=enter hA
 replace r1:=r1.mono w2
 obtain ⟨l4,rfl,v4,v5,v6,v7,rfl,h8,e0,f0,g0⟩:=r1
 obtain ⟨A9,o0,rfl⟩:=h8.form
 obtain ⟨p0,q0,rfl⟩:=e0.form
 obtain ⟨r0,s0,rfl⟩:=f0.form
 obtain ⟨t0,u0,rfl⟩:=g0.form
 refine AI Tryz.func59 rfl Tryz.ntmps59 rfl ?_
 unfold DR at hm
 refine Al (Aj (Dw 2 O rfl rfl fun w0 s1 t1 j0 d0=>?_))
 replace d0:Lc 2 s1 t1 w0 26 [(.slice A9 x0.vars.length o0),(.slice p0 x0.init.length q0),(.slice r0 x0.goal.length s0),(.slice t0 x0.ops.length u0)]:=d0
 refine At rfl rfl (At rfl rfl (o_z ?_))
 refine Al (Aj (Bn (hl:=rfl) (hc:=(d0.1).cellsAt) rfl rfl ?_))
 obtain ⟨x2,y2,hm⟩:=bs hm
 replace h8:=h8.st j0
 replace e0:=e0.st j0
 replace f0:=f0.st j0
 replace g0:=g0.st j0
 refine BO (O:=t1) (A:=All s1) (R:=fun w' F v=>T2 w' F v x2) (Hn (fun _ h=>h) (Vb.mono (F:=Fr 0 s1 t1) (Vb.ofAgg (cs:=[(.slice A9 x0.vars.length o0),(.slice p0 x0.init.length q0),(.slice r0 x0.goal.length s0),(.slice t0 x0.ops.length u0)]) (x:=x0) rfl ⟨_,_,_,_,rfl,h8,e0,f0,g0⟩) Fr.lt) y2) rfl rfl fun m4 z2 a3 b0 b3=>?_
 obtain ⟨n4,o4,rfl,c3,d3⟩:=b3
 obtain ⟨rfl,p4⟩:=c3.int
 obtain ⟨rfl,e3⟩:=d3.err
 refine Am rfl rfl (Bf rfl rfl rfl (Bf rfl rfl rfl (At rfl rfl (At rfl rfl (o_z ?_)))))
 refine Al (Al (Aj (Am rfl rfl (Di rfl rfl (fun u1=>?_) fun u1=>?_))))
 ·
  replace hm:=ip hm u1
  refine o_z ?_
  refine Ah rfl (Al (Aj (Am rfl rfl (At rfl rfl (At rfl rfl (o_z ?_))))))
  refine AJ ?_
  obtain rfl:=sm hm
  replace hB:=(hB.st j0).st b0
  exact ret2 rfl (AA rfl) (AA rfl) ⟨hB.ext,_,_,rfl,(Vb.mono (F:=Fr 0 z2 a3) (Vb.nil _ _) hB.out),(vErr e3)⟩
 replace hm:=im hm u1
 refine o_z ?_
 refine Ae rfl (AH (Al (Al ?_)))
 obtain ⟨f3,c0,hm⟩:=bs hm
 refine AM (fun l' w'=>∃ (g3:Unit) (O':Lab),subs l' [(1,(.int .i64 x1)),(2,(.pointer (some ⟨w0,0,none⟩))),(24,(.bool f3))]∧Bs w A w' O'∧Lc 2 w' O' w0 26 [(.slice A9 x0.vars.length o0),(.slice p0 x0.init.length q0),(.slice r0 x0.goal.length s0),(.slice t0 x0.ops.length u0)]∧Vb w' (Fr 0 w' O') (.slice A9 x0.vars.length o0) x0.vars∧Vb w' (Fr 0 w' O') (.slice p0 x0.init.length q0) x0.init∧Vb w' (Fr 0 w' O') (.slice r0 x0.goal.length s0) x0.goal∧Vb w' (Fr 0 w' O') (.slice t0 x0.ops.length u0) x0.ops) ?_ ?_
 ·
  refine Aj (Am rfl rfl (DU rfl rfl rfl (fun v1=>?_) fun v1=>?_))
  ·
   replace c0:=ip c0 v1
   refine Am rfl rfl (Az rfl rfl rfl rfl (Az rfl rfl rfl rfl (Az rfl rfl rfl rfl (BV rfl rfl rfl (o_z ?_)))))
   obtain rfl:=sm c0
   exact ⟨(),_,⟨rfl,rfl,rfl,trivial⟩,(hB.st j0).st b0,d0.st b0,h8.st b0,e0.st b0,f0.st b0,g0.st b0⟩
  replace c0:=im c0 v1
  refine Am rfl rfl (Ay rfl rfl (Am rfl rfl (Ay rfl rfl (Am rfl rfl (Ay rfl rfl (Fp rfl rfl rfl (fun w1=>?_) fun w1=>?_))))))
  ·
   replace c0:=ip c0 w1
   refine Bz rfl rfl rfl (o_z ?_)
   obtain rfl:=sm c0
   exact ⟨(),_,⟨rfl,rfl,rfl,trivial⟩,(hB.st j0).st b0,d0.st b0,h8.st b0,e0.st b0,f0.st b0,g0.st b0⟩
  replace c0:=im c0 w1
  refine Bz rfl rfl rfl (o_z ?_)
  obtain rfl:=sm c0
  exact ⟨(),_,⟨rfl,rfl,rfl,trivial⟩,(hB.st j0).st b0,d0.st b0,h8.st b0,e0.st b0,f0.st b0,g0.st b0⟩
 replace hB:=(hB.st j0).st b0
 replace h8:=h8.st b0
 replace e0:=e0.st b0
 replace f0:=f0.st b0
 replace g0:=g0.st b0
 replace d0:=d0.st b0
 rintro q4 h3 ⟨g3,p2,y1,hB,d0,h8,e0,f0,g0⟩
 refine AP _ y1 ?_
 refine CO rfl (fun z1=>?_) (fun z1=>?_)
 ·
  replace hm:=ip hm z1
  refine Al (Aj (Dx rfl rfl ?_))
  refine At rfl rfl (At rfl rfl (o_z ?_))
  refine AJ ?_
  obtain rfl:=sm hm
  exact ret2 rfl (AA rfl) (AA rfl) ⟨hB.ext,_,_,rfl,(Vb.mono (F:=Fr 0 h3 p2) (Vb.nil _ _) hB.out),(vErr (by decide))⟩
 replace hm:=im' hm z1
 refine AH (Al (Aj (AF rfl rfl (AE (hc:=Blk.cell (i:=0) (d0.1) rfl) rfl rfl ?_))))
 refine AO rfl rfl ?_
 have i3:x0.vars.length≤9223372036854775807:=Nat.le_trans h8.len.2.1 h8.len.2.2
 have r4:inI64 (x0.vars.length:Int):=rngNat i3
 obtain ⟨v0,j3,hm⟩:=bs hm
 obtain ⟨n1,k3,l3,m3,n3⟩:=Dh j3
 refine Ft 3 (by decide) p2 (z0:=(0:Int)) rfl rfl rfl rfl rfl k3 (vInt (show inI64 0 from by decide)) l3 m3 rfl fun o1 s4 o3 m0 p1=>?_
 rw [← n3] at p1 ⊢
 refine At rfl rfl (o_z ?_)
 refine Al (Al (Aj (Am rfl rfl (AO rfl rfl ?_))))
 have p3:v0.length≤9223372036854775807:=Nat.le_trans p1.len.2.1 p1.len.2.2
 have t4:inI64 (v0.length:Int):=rngNat p3
 obtain ⟨u4,q2,hm⟩:=bs hm
 have q3:=(BC q2)
 refine JU (he:=q2) rfl rfl rfl ?_
 refine At rfl rfl (o_z ?_)
 obtain ⟨y0,a2,hm⟩:=bs hm
 refine AM (aft y0 (fun (i0:Int×(List Int)×Int) (q1:Unit)=>[(8,(.slice (some ⟨o1,0,none⟩) v0.length n1))]) (fun i0 q1 w'=>∃ O':Lab,Bs w A w' O'∧Rw 3 w' O' 3 (.slice (some ⟨o1,0,none⟩) v0.length n1) i0.2.1∧inI64 i0.1∧inI64 i0.2.2)) ?_ ?_
 ·
  refine AN ?_
  replace hB:=hB.st m0
  replace h8:=h8.st m0
  replace e0:=e0.st m0
  replace f0:=f0.st m0
  replace g0:=g0.st m0
  replace d0:=d0.st m0
  refine FI (σ:=Int×(List Int)×Int) (X:=Unit) a2 (fun (i0:Int×(List Int)×Int) (q1:Unit)=>[(1,(.int .i64 i0.1)),(2,(.pointer (some ⟨w0,0,none⟩))),(8,(.slice (some ⟨o1,0,none⟩) v0.length n1)),(9,(.int .i64 i0.2.2))]) _ (fun i0 q1 w'=>∃ O':Lab,Bs w A w' O'∧Lc 2 w' O' w0 26 [(.slice A9 x0.vars.length o0),(.slice p0 x0.init.length q0),(.slice r0 x0.goal.length s0),(.slice t0 x0.ops.length u0)]∧Vb w' (Fr 0 w' O') (.slice A9 x0.vars.length o0) x0.vars∧Vb w' (Fr 0 w' O') (.slice p0 x0.init.length q0) x0.init∧Vb w' (Fr 0 w' O') (.slice r0 x0.goal.length s0) x0.goal∧Vb w' (Fr 0 w' O') (.slice t0 x0.ops.length u0) x0.ops∧Rw 3 w' O' 3 (.slice (some ⟨o1,0,none⟩) v0.length n1) i0.2.1∧inI64 i0.1∧inI64 i0.2.2) _ () ⟨o3,hB,d0,h8,e0,f0,g0,p1,rx1,q3⟩ ⟨rfl,rfl,rfl,rfl,trivial⟩ ?_
  rintro i0 q1 w4 r3 ⟨x4,hB,d0,h8,e0,f0,g0,k0,a1,r2⟩ a0 b2 n0
  refine Al (Al (Aj (Am rfl rfl (Fp rfl rfl rfl (fun c2=>?_) fun c2=>?_))))
  ·
   replace a0:=ip a0 c2
   refine o_z ?_
   refine Ah rfl (AH (Al (AN (Al (Aj (Am rfl rfl (Am rfl rfl (Am rfl rfl (AF rfl rfl (AE (hc:=Blk.cell (i:=0) (d0.1) rfl) rfl rfl ?_))))))))))
   refine Am rfl rfl ?_
   obtain ⟨y4,s3,a0⟩:=bs a0
   obtain ⟨t3,u3⟩:=AL s3
   obtain ⟨z4,a5,s2,b1,c1,d1,rfl,v3⟩:=h8.elem' u3
   refine Bo (hA:=b1) (hj:=(Int.toNat_of_nonneg t3).symm) (hlt:=c1) rfl rfl rfl ?_
   refine AE (hc:=cat0 d1) rfl rfl ?_
   obtain ⟨d2,e1,a0⟩:=bs a0
   have e2:=Ph e1 a1
   refine QR (he:=e1) rfl rfl rfl ?_
   obtain ⟨w3,f2,a0⟩:=bs a0
   obtain ⟨g2,f1⟩:=AL f2
   obtain ⟨x3,y3,t2,l0,g1,u2,rfl,z3⟩:=k0.elem f1
   refine Bo (hA:=l0) (hj:=(Int.toNat_of_nonneg g2).symm) (hlt:=g1) rfl rfl rfl ?_
   refine CU rfl k0 (a:=d2) (vInt e2) l0 rfl rfl (AC f1) fun a4 h0 k0=>?_
   refine o_z ?_
   refine Aj (Am rfl rfl (AF rfl rfl ?_))
   replace d0:=d0.st h0
   refine AE (hc:=Blk.cell (i:=0) (d0.1) rfl) rfl rfl ?_
   refine Am rfl rfl ?_
   obtain ⟨b4,h2,a0⟩:=bs a0
   obtain ⟨i2,j2⟩:=AL h2
   replace h8:=h8.st h0
   obtain ⟨c4,d4,v2,h1,i1,j1,rfl,e4⟩:=h8.elem' j2
   refine Bo (hA:=h1) (hj:=(Int.toNat_of_nonneg i2).symm) (hlt:=i1) rfl rfl rfl ?_
   refine AE (hc:=cat0 j1) rfl rfl ?_
   obtain ⟨f4,k1,a0⟩:=bs a0
   have k2:=Mi k1 a1
   refine OW (he:=k1) (hr:=a1) rfl rfl rfl ?_
   refine At rfl rfl (o_z ?_)
   refine Aj (Am rfl rfl ?_)
   obtain ⟨g4,l1,a0⟩:=bs a0
   have l2:=(BC l1)
   refine JU (he:=l1) rfl rfl rfl ?_
   refine At rfl rfl (o_z ?_)
   obtain rfl:=sm a0
   exact show Exists _ from ⟨_,(),rfl,⟨rfl,rfl,rfl,rfl,trivial⟩,_,hB.st h0,d0,h8,e0.st h0,f0.st h0,g0.st h0,k0,k2,l2⟩
  replace a0:=im a0 c2
  refine o_z ?_
  refine Ae rfl (DD ?_)
  obtain rfl:=sm a0
  exact show Exists _ from ⟨_,(),n0 _ rfl,⟨rfl,trivial⟩,_,hB,k0,a1,r2⟩
 replace hB:=hB.st m0
 rintro h4 m2 ⟨i4,j4,rfl,m1,k4,hB,k0,a1,r2⟩
 replace hm:=Ba hm
 refine AP _ m1 ?_
 refine Al (Aj (Am rfl rfl (At rfl rfl (At rfl rfl (o_z ?_)))))
 refine AJ ?_
 obtain ⟨n2,o2,k0⟩:=k0.freeze
 obtain rfl:=sm hm
 replace hB:=hB.st o2
 exact ret2 rfl (AA rfl) (AA rfl) ⟨hB.ext,_,_,rfl,(Vb.mono (F:=Fr 0 m2 n2) k0 hB.out),(vErr (show inI64 0 from by decide))⟩
noncomputable def Eg (x0:Tsk) (x1:List Int):Option (Int×Err) :=
  bnd (DB x0) fun q27=>if q27.2.n≠0 then (some (0,(⟨q27.2.n⟩:Err))) else (bnd (FY x0.vars x1) fun q41=>if q41=true then bnd (rng (ρ:=Int×Err) (fun (k54:Nat) (a55:Int) (s52:Int)=>bnd (x0.vars[k54]?) fun a75=>bnd (chkI (s52 * a75)) fun n85=>bnd (chkI (n85 + a55)) fun n88=>some (.next n88)) x1 0 0) fun res50=>fin res50 fun (s95:Int)=>some (s95,(⟨0⟩:Err)) else some (0,(⟨2⟩:Err)))
theorem Jk {w:World} {A:Nat→Prop} (hA:∀ k,A k→k < w.heap.size) {vx0:Value} {x0:Tsk} (v0:Vb w A vx0 x0) {vx1:Value} {x1:List Int} (a0:Vb w A vx1 x1) {r:Int×Err} (hm:Eg x0 x1=some r) :
    Fn Tryz.prog 28 [vx0,vx1] w fun v w'=>Ext w w'∧T2 w' (upA A w w') v r:=by
 obtain ⟨O,hB,o1⟩:=enter hA
 replace v0:=v0.mono o1
 obtain ⟨k2,rfl,v4,v5,v6,v7,rfl,h8,d0,e0,f0⟩:=v0
 obtain ⟨A9,m0,rfl⟩:=h8.form
 obtain ⟨n0,o0,rfl⟩:=d0.form
 obtain ⟨p0,q0,rfl⟩:=e0.form
 obtain ⟨r0,s0,rfl⟩:=f0.form
 replace a0:=a0.mono o1
 obtain ⟨p1,q1,rfl⟩:=a0.form
 refine AI Tryz.func28 rfl Tryz.ntmps28 rfl ?_
 unfold Eg at hm
 refine Al (Aj (Dw 2 O rfl rfl fun w0 y0 z0 h0 c0=>?_))
 replace c0:Lc 2 y0 z0 w0 26 [(.slice A9 x0.vars.length m0),(.slice n0 x0.init.length o0),(.slice p0 x0.goal.length q0),(.slice r0 x0.ops.length s0)]:=c0
 refine At rfl rfl (At rfl rfl (o_z ?_))
 refine Al (Al (Aj (Bn (hl:=rfl) (hc:=(c0.1).cellsAt) rfl rfl ?_)))
 obtain ⟨u1,v1,hm⟩:=bs hm
 replace h8:=h8.st h0
 replace d0:=d0.st h0
 replace e0:=e0.st h0
 replace f0:=f0.st h0
 refine BO (O:=z0) (A:=All y0) (R:=fun w' F v=>T2 w' F v u1) (Hn (fun _ h=>h) (Vb.mono (F:=Fr 0 y0 z0) (Vb.ofAgg (cs:=[(.slice A9 x0.vars.length m0),(.slice n0 x0.init.length o0),(.slice p0 x0.goal.length q0),(.slice r0 x0.ops.length s0)]) (x:=x0) rfl ⟨_,_,_,_,rfl,h8,d0,e0,f0⟩) Fr.lt) v1) rfl rfl fun l2 a1 b1 g0 w1=>?_
 obtain ⟨m2,n2,rfl,y1,z1⟩:=w1
 obtain ⟨rfl,o2⟩:=y1.int
 obtain ⟨rfl,a2⟩:=z1.err
 refine Am rfl rfl (Bf rfl rfl rfl (Bf rfl rfl rfl (At rfl rfl (At rfl rfl (o_z ?_)))))
 refine Al (Aj (Am rfl rfl (Di rfl rfl (fun c1=>?_) fun c1=>?_)))
 ·
  replace hm:=ip hm c1
  refine o_z ?_
  refine Ah rfl (Al (Aj (Am rfl rfl (At rfl rfl (At rfl rfl (o_z ?_))))))
  refine AJ ?_
  obtain rfl:=sm hm
  replace hB:=(hB.st h0).st g0
  exact ret2 rfl (AA rfl) (AA rfl) ⟨hB.ext,_,_,rfl,(vInt (show inI64 (0) from by decide)),(vErr a2)⟩
 replace hm:=im hm c1
 refine o_z ?_
 refine Ae rfl (AH (Al (Al (Aj (AF rfl rfl ?_)))))
 replace c0:=c0.st g0
 refine AE (hc:=Blk.cell (i:=0) (c0.1) rfl) rfl rfl ?_
 refine Am rfl rfl ?_
 obtain ⟨r1,b2,hm⟩:=bs hm
 replace a0:=(a0.st h0).st g0
 replace h8:=h8.st g0
 refine BO (O:=b1) (A:=All a1) (R:=fun w' F v=>Vb w' F v r1) (KQ (fun _ h=>h) (Vb.mono (F:=Fr 0 a1 b1) h8 Fr.lt) (Vb.mono (F:=Fr 0 a1 b1) a0 Fr.lt) b2) rfl rfl fun p2 q2 c2 i0 d2=>?_
 obtain rfl:=d2.bool
 cases r1
 case false =>
  replace hm:=iF hm
  refine CM rfl rfl (o_z ?_)
  refine Ah rfl (Al (Aj (Dx rfl rfl ?_)))
  refine At rfl rfl (At rfl rfl (o_z ?_))
  refine AJ ?_
  obtain rfl:=sm hm
  replace hB:=((hB.st h0).st g0).st i0
  exact ret2 rfl (AA rfl) (AA rfl) ⟨hB.ext,_,_,rfl,(vInt (show inI64 (0) from by decide)),(vErr (by decide))⟩
 replace hm:=iT hm
 refine CL rfl rfl (o_z ?_)
 refine Ae rfl (AH (Al (Aj (At rfl rfl (o_z ?_)))))
 refine Al (Al (Aj (Am rfl rfl (AO rfl rfl ?_))))
 replace a0:=a0.st i0
 have d1:x1.length≤9223372036854775807:=Nat.le_trans a0.len.2.1 a0.len.2.2
 have r2:inI64 (x1.length:Int):=rngNat d1
 refine Am rfl rfl (o_z ?_)
 obtain ⟨k0,e1,hm⟩:=bs hm
 refine AM (aft k0 (fun (j0:Int) (t0:Unit)=>[(8,(.int .i64 j0))]) (fun j0 t0 w'=>∃ O':Lab,Bs w A w' O'∧inI64 j0)) ?_ ?_
 ·
  refine AN ?_
  replace hB:=((hB.st h0).st g0).st i0
  replace h8:=h8.st i0
  replace d0:=(d0.st g0).st i0
  replace e0:=(e0.st g0).st i0
  replace f0:=(f0.st g0).st i0
  replace c0:=c0.st i0
  refine BI (σ:=Int) (X:=Unit) (x1.length) e1 rfl d1 (fun (j0:Int) (t0:Unit)=>[(2,(.pointer (some ⟨w0,0,none⟩))),(8,(.int .i64 j0)),(25,(.slice p1 x1.length q1))]) _ (fun j0 t0 w'=>∃ O':Lab,Bs w A w' O'∧Lc 2 w' O' w0 26 [(.slice A9 x0.vars.length m0),(.slice n0 x0.init.length o0),(.slice p0 x0.goal.length q0),(.slice r0 x0.ops.length s0)]∧Vb w' (Fr 0 w' O') (.slice A9 x0.vars.length m0) x0.vars∧Vb w' (Fr 0 w' O') (.slice n0 x0.init.length o0) x0.init∧Vb w' (Fr 0 w' O') (.slice p0 x0.goal.length q0) x0.goal∧Vb w' (Fr 0 w' O') (.slice r0 x0.ops.length s0) x0.ops∧Vb w' (Fr 0 w' O') (.slice p1 x1.length q1) x1∧inI64 j0) _ () ⟨c2,hB,c0,h8,d0,e0,f0,a0,(show inI64 (0) from by decide)⟩ ⟨rfl,rfl,rfl,rfl,rfl,trivial⟩ (fun _ _=>⟨rfl,rfl⟩) (fun _ _=>⟨rfl,trivial⟩) (fun _ _ _ ⟨O',hB,c0,h8,d0,e0,f0,a0,u0⟩=>⟨O',hB,u0⟩) ⟨rfl,rfl,rfl⟩ ⟨rfl,rfl⟩ ?_
  rintro e2 s2 j0 t0 t2 f2 l0 ⟨u2,hB,c0,h8,d0,e0,f0,a0,u0⟩ b0 f1 g1
  have rk54:inI64 (e2:Int):=rngK l0 d1
  refine Al (Aj (Am rfl rfl ?_))
  obtain ⟨v2,w2,g2,h1,i1,j1,rfl,x2⟩:=a0.elem' l0
  refine Bo (hA:=h1) (hj:=rfl) (hlt:=i1) rfl rfl rfl ?_
  refine AE (hc:=cat0 j1) rfl rfl ?_
  refine At rfl rfl (At rfl rfl (o_z ?_))
  refine Aj (Am rfl rfl (AF rfl rfl (AE (hc:=Blk.cell (i:=0) (c0.1) rfl) rfl rfl ?_)))
  refine Am rfl rfl ?_
  obtain ⟨y2,h2,b0⟩:=bs b0
  obtain ⟨z2,a3,i2,k1,l1,m1,rfl,b3⟩:=h8.elem' h2
  refine Bo (hA:=k1) (hj:=rfl) (hlt:=l1) rfl rfl rfl ?_
  refine AE (hc:=cat0 m1) rfl rfl ?_
  obtain ⟨c3,s1,b0⟩:=bs b0
  have d3:=(BC s1)
  refine MJ (he:=s1) rfl rfl rfl ?_
  refine Am rfl rfl ?_
  obtain ⟨e3,t1,b0⟩:=bs b0
  have j2:=(BC t1)
  refine Fu (he:=t1) rfl rfl rfl ?_
  refine At rfl rfl (o_z ?_)
  obtain rfl:=sm b0
  exact show Exists _ from ⟨_,(),rfl,⟨rfl,rfl,rfl,rfl,rfl,trivial⟩,_,hB,c0,h8,d0,e0,f0,a0,j2⟩
 replace hB:=((hB.st h0).st g0).st i0
 rintro f3 g3 ⟨h3,i3,rfl,n1,j3,hB,u0⟩
 replace hm:=Ba hm
 refine AP _ n1 ?_
 refine Al (Aj (Am rfl rfl (At rfl rfl (At rfl rfl (o_z ?_)))))
 refine AJ ?_
 obtain rfl:=sm hm
 exact ret2 rfl (AA rfl) (AA rfl) ⟨hB.ext,_,_,rfl,(vInt u0),(vErr (show inI64 0 from by decide))⟩
noncomputable def Ds (x0:Tsk):Option ((List Int)×Err) :=
  bnd (Db x0) fun q24=>if q24.2.n≠0 then (some (([]:List Int),(⟨q24.2.n⟩:Err))) else (bnd (Do x0) fun q39=>if 65536 < q39 then (some (([]:List Int),(⟨5⟩:Err))) else (bnd (mkI 24 ([]:List Arc) q39) fun u48=>bnd (natI q39) fun N74=>bnd (rngN (ρ:=(List Int)×Err) (fun (k65:Nat) (s63:(List (List Arc))×(List Int))=>bnd (DR x0 (k65:Int)) fun q84=>if q84.2.n≠0 then (some (.ret (([]:List Int),(⟨q84.2.n⟩:Err)))) else (bnd (bnd (Cq x0.goal q84.1) fun q105=>if q105=true then bnd (appI 8 s63.2 [(k65:Int)]) fun u112=>some u112 else some s63.2:Option (List Int)) fun y99=>bnd (AX q24.1 q84.1) fun q128=>bnd (rng (ρ:=Ctl ((List (List Arc))×(List Int)) ((List Int)×Err)) (fun (k143:Nat) (a144:Suc) (s141:(List (List Arc)))=>bnd (Eg x0 a144.state) fun q177=>if q177.2.n≠0 then (some (.ret (.ret (([]:List Int),(⟨q177.2.n⟩:Err))))) else (bnd (atI s141 q177.1) fun a191=>bnd (atI x0.ops a144.op) fun a206=>bnd (appI 24 a191 [(⟨q177.1,(k65:Int),a206.cost⟩:Arc)]) fun u237=>bnd (atI s141 q177.1) fun a248=>some (.next (s141.set (q177.1:Int).toNat u237)))) q128 0 s63.1) fun res139=>fin res139 fun (s267:(List (List Arc)))=>some (.next (s267,y99)))) N74 (u48,([]:List Int))) fun res61=>fin res61 fun (s273:(List (List Arc))×(List Int))=>bnd (Bu s273.1 s273.2) fun q279=>some (q279.1,(⟨0⟩:Err))))
theorem Jc {w:World} {A:Nat→Prop} (hA:∀ k,A k→k < w.heap.size) {vx0:Value} {x0:Tsk} (e4:Vb w A vx0 x0) {r:(List Int)×Err} (hm:Ds x0=some r) :
    Fn Tryz.prog 26 [vx0] w fun v w'=>Ext w w'∧T2 w' (upA A w w') v r:=by
 obtain ⟨O,hB,s6⟩:=enter hA
 replace e4:=e4.mono s6
 obtain ⟨y9,rfl,v3,v4,v5,v6,rfl,h7,i0,e0,f0⟩:=e4
 obtain ⟨A8,c9,rfl⟩:=h7.form
 obtain ⟨g1,h1,rfl⟩:=i0.form
 obtain ⟨i1,j1,rfl⟩:=e0.form
 obtain ⟨k1,l1,rfl⟩:=f0.form
 refine AI Tryz.func26 rfl Tryz.ntmps26 rfl ?_
 unfold Ds at hm
 refine Al (Aj (Dw 2 O rfl rfl fun v1 t6 j6 h2 c0=>?_))
 replace c0:Lc 2 t6 j6 v1 26 [(.slice A8 x0.vars.length c9),(.slice g1 x0.init.length h1),(.slice i1 x0.goal.length j1),(.slice k1 x0.ops.length l1)]:=c0
 refine At rfl rfl (At rfl rfl (o_z ?_))
 refine Al (Aj (Bn (hl:=rfl) (hc:=(c0.1).cellsAt) rfl rfl ?_))
 obtain ⟨y2,u6,hm⟩:=bs hm
 replace h7:=h7.st h2
 replace i0:=i0.st h2
 replace e0:=e0.st h2
 replace f0:=f0.st h2
 refine Dq (O:=j6) (R:=fun w' F v=>T2 w' F v y2) (HX Fr.lt (Vb.ofAgg (cs:=[(.slice A8 x0.vars.length c9),(.slice g1 x0.init.length h1),(.slice i1 x0.goal.length j1),(.slice k1 x0.ops.length l1)]) (x:=x0) rfl ⟨_,_,_,_,rfl,h7,i0,e0,f0⟩) u6) rfl rfl fun z9 f4 g4 w1 w6=>?_
 obtain ⟨aA,bA,rfl,q0,x6⟩:=w6
 obtain ⟨i2,rfl,y6⟩:=q0.ptr
 obtain ⟨rfl,z6⟩:=x6.err
 refine Am rfl rfl (Bf rfl rfl rfl (Bf rfl rfl rfl (At rfl rfl (At rfl rfl (o_z ?_)))))
 refine Al (Al (Aj (Am rfl rfl (Di rfl rfl (fun h4=>?_) fun h4=>?_))))
 ·
  replace hm:=ip hm h4
  refine o_z ?_
  refine Ah rfl (Al (Aj (Am rfl rfl (At rfl rfl (At rfl rfl (o_z ?_))))))
  refine AJ ?_
  obtain rfl:=sm hm
  replace hB:=(hB.st h2).st w1
  exact ret2 rfl (AA rfl) (AA rfl) ⟨hB.ext,_,_,rfl,(Vb.mono (F:=Fr 0 f4 g4) (Vb.nil _ _) hB.out),(vErr z6)⟩
 replace hm:=im hm h4
 refine o_z ?_
 refine Ae rfl (AH (Al (Aj ?_)))
 replace c0:=c0.st w1
 refine Bn (hl:=rfl) (hc:=(c0.1).cellsAt) rfl rfl ?_
 obtain ⟨a7,b7,hm⟩:=bs hm
 replace h7:=h7.st w1
 replace i0:=i0.st w1
 replace e0:=e0.st w1
 replace f0:=f0.st w1
 refine BO (O:=g4) (A:=All f4) (R:=fun w' F v=>Vb w' F v a7) (HZ (fun _ h=>h) (Vb.mono (F:=Fr 0 f4 g4) (Vb.ofAgg (cs:=[(.slice A8 x0.vars.length c9),(.slice g1 x0.init.length h1),(.slice i1 x0.goal.length j1),(.slice k1 x0.ops.length l1)]) (x:=x0) rfl ⟨_,_,_,_,rfl,h7,i0,e0,f0⟩) Fr.lt) b7) rfl rfl fun cA c7 k6 x1 d7=>?_
 obtain ⟨rfl,l6⟩:=d7.int
 refine At rfl rfl (o_z ?_)
 refine Al (Al (Aj (Am rfl rfl (CN rfl rfl rfl (fun i4=>?_) fun i4=>?_))))
 ·
  replace hm:=ip hm i4
  refine o_z ?_
  refine Ah rfl (Al (Aj (Dx rfl rfl ?_)))
  refine At rfl rfl (At rfl rfl (o_z ?_))
  refine AJ ?_
  obtain rfl:=sm hm
  replace hB:=((hB.st h2).st w1).st x1
  exact ret2 rfl (AA rfl) (AA rfl) ⟨hB.ext,_,_,rfl,(Vb.mono (F:=Fr 0 c7 k6) (Vb.nil _ _) hB.out),(vErr (by decide))⟩
 replace hm:=im hm i4
 refine o_z ?_
 refine Ae rfl (AH (Al (Aj (Am rfl rfl ?_))))
 obtain ⟨o1,e7,hm⟩:=bs hm
 obtain ⟨p1,f7,g7,i7,j7⟩:=Dh e7
 refine Hl (β:=Arc) (e:=106) 3 (by decide) k6 rfl rfl rfl rfl f7 g7 i7 rfl fun q1 dA k7 j2 m6=>?_
 rw [← j7] at m6 ⊢
 refine At rfl rfl (o_z ?_)
 refine Al (Aj (At rfl rfl (o_z ?_)))
 refine Al (Al (Aj (Am rfl rfl (Am rfl rfl (o_z ?_)))))
 obtain ⟨z3,r1,hm⟩:=bs hm
 replace r1:=KB r1
 obtain ⟨z2,j4,hm⟩:=bs hm
 refine AM (aft z2 (fun (m1:(List (List Arc))×(List Int)) (e1:(Option Addr×Nat))=>[(7,(.slice (some ⟨q1,0,none⟩) o1.length p1)),(8,(.slice e1.1 m1.2.length e1.2))]) (fun m1 e1 w'=>∃ O':Lab,Bs w A w' O'∧NR Arc 3 w' O' 104 106 (.slice (some ⟨q1,0,none⟩) o1.length p1) m1.1 none∧Rw 4 w' O' 3 (.slice e1.1 m1.2.length e1.2) m1.2)) ?_ ?_
 ·
  refine AN ?_
  replace hB:=(((hB.st h2).st w1).st x1).st j2
  replace h7:=(h7.st x1).st j2
  replace i0:=(i0.st x1).st j2
  replace e0:=(e0.st x1).st j2
  replace f0:=(f0.st x1).st j2
  replace c0:=(c0.st x1).st j2
  replace q0:=(q0.st x1).st j2
  refine Jw (σ:=(List (List Arc))×(List Int)) (X:=(Option Addr×Nat)) z3 j4 (IW r1 l6) (fun (m1:(List (List Arc))×(List Int)) (e1:(Option Addr×Nat))=>[(1,(.pointer (some ⟨v1,0,none⟩))),(4,(.pointer i2)),(7,(.slice (some ⟨q1,0,none⟩) o1.length p1)),(8,(.slice e1.1 m1.2.length e1.2))]) _ (fun m1 e1 w'=>∃ O':Lab,Bs w A w' O'∧Lc 2 w' O' v1 26 [(.slice A8 x0.vars.length c9),(.slice g1 x0.init.length h1),(.slice i1 x0.goal.length j1),(.slice k1 x0.ops.length l1)]∧Vb w' (Fr 0 w' O') (.slice A8 x0.vars.length c9) x0.vars∧Vb w' (Fr 0 w' O') (.slice g1 x0.init.length h1) x0.init∧Vb w' (Fr 0 w' O') (.slice i1 x0.goal.length j1) x0.goal∧Vb w' (Fr 0 w' O') (.slice k1 x0.ops.length l1) x0.ops∧Vb w' (Fr 0 w' O') (.pointer i2) y2.1∧NR Arc 3 w' O' 104 106 (.slice (some ⟨q1,0,none⟩) o1.length p1) m1.1 none∧Rw 4 w' O' 3 (.slice e1.1 m1.2.length e1.2) m1.2) _ (none,0) ⟨k7,hB,c0,h7,i0,e0,f0,q0,m6,(Rw.nil 4 (by decide))⟩ ⟨rfl,(congrArg (fun z=>some (Value.int .i64 z)) r1),rfl,rfl,rfl,rfl,trivial⟩ (fun _ _=>⟨rfl,rfl⟩) (fun _ _=>⟨rfl,rfl,trivial⟩) (fun _ _ _ ⟨O',hB,c0,h7,i0,e0,f0,q0,b1,n1⟩=>⟨O',hB,b1,n1⟩) ⟨rfl,rfl,rfl⟩ ⟨rfl,rfl⟩ ?_
  rintro u1 m1 e1 eA l7 k4 ⟨m7,hB,c0,h7,i0,e0,f0,q0,b1,n1⟩ g0 s1 l4
  have rk65:inI64 (u1:Int):=rngKN k4 (IW r1 l6)
  refine Al (Aj (Am rfl rfl (At rfl rfl (o_z ?_))))
  refine Al (Aj (Bn (hl:=rfl) (hc:=(c0.1).cellsAt) rfl rfl ?_))
  refine Am rfl rfl ?_
  obtain ⟨a4,n7,g0⟩:=bs g0
  refine Dq (O:=m7) (R:=fun w' F v=>T2 w' F v a4) (KR Fr.lt (Vb.ofAgg (cs:=[(.slice A8 x0.vars.length c9),(.slice g1 x0.init.length h1),(.slice i1 x0.goal.length j1),(.slice k1 x0.ops.length l1)]) (x:=x0) rfl ⟨_,_,_,_,rfl,h7,i0,e0,f0⟩) rk65 n7) rfl rfl fun fA b4 c4 m0 o7=>?_
  obtain ⟨gA,iA,rfl,x2,p7⟩:=o7
  obtain ⟨n6,o6,rfl⟩:=x2.form
  obtain ⟨rfl,q7⟩:=p7.err
  refine Am rfl rfl (Bf rfl rfl rfl (Bf rfl rfl rfl (At rfl rfl (At rfl rfl (o_z ?_)))))
  refine Al (Al (Aj (Am rfl rfl (Di rfl rfl (fun m4=>?_) fun m4=>?_))))
  ·
   replace g0:=ip g0 m4
   refine o_z ?_
   refine Ah rfl (Al (Aj (Am rfl rfl (At rfl rfl (At rfl rfl (o_z ?_))))))
   refine AJ ?_
   obtain rfl:=sm g0
   obtain rfl:=s1 _ rfl
   obtain rfl:=sm (Cy hm)
   replace hB:=hB.st m0
   exact ret2 rfl (AA rfl) (AA rfl) ⟨hB.ext,_,_,rfl,(Vb.mono (F:=Fr 0 b4 c4) (Vb.nil _ _) hB.out),(vErr q7)⟩
  replace g0:=im g0 m4
  refine o_z ?_
  refine Ae rfl (AH (Al ?_))
  obtain ⟨y1,j0,g0⟩:=bs g0
  refine AM (fun l' w'=>∃ (k0:(Option Addr×Nat)) (O':Lab),subs l' [(1,(.pointer (some ⟨v1,0,none⟩))),(4,(.pointer i2)),(7,(.slice (some ⟨q1,0,none⟩) o1.length p1)),(8,(.slice k0.1 y1.length k0.2)),(9,(.int .i64 (u1:Int))),(10,(.slice n6 a4.1.length o6)),(33,(.int .i64 (z3:Int))),(34,(.int .i64 (u1:Int)))]∧Bs w A w' O'∧Lc 2 w' O' v1 26 [(.slice A8 x0.vars.length c9),(.slice g1 x0.init.length h1),(.slice i1 x0.goal.length j1),(.slice k1 x0.ops.length l1)]∧Vb w' (Fr 0 w' O') (.slice A8 x0.vars.length c9) x0.vars∧Vb w' (Fr 0 w' O') (.slice g1 x0.init.length h1) x0.init∧Vb w' (Fr 0 w' O') (.slice i1 x0.goal.length j1) x0.goal∧Vb w' (Fr 0 w' O') (.slice k1 x0.ops.length l1) x0.ops∧Vb w' (Fr 0 w' O') (.pointer i2) y2.1∧NR Arc 3 w' O' 104 106 (.slice (some ⟨q1,0,none⟩) o1.length p1) m1.1 none∧Rw 4 w' O' 3 (.slice k0.1 y1.length k0.2) y1∧Vb w' (Fr 0 w' O') (.slice n6 a4.1.length o6) a4.1) ?_ ?_
  ·
   refine Al (Aj (AF rfl rfl ?_))
   replace c0:=c0.st m0
   refine AE (hc:=Blk.cell (i:=2) (c0.1) rfl) rfl rfl ?_
   refine Am rfl rfl ?_
   obtain ⟨a3,n4,j0⟩:=bs j0
   replace e0:=e0.st m0
   refine BO (O:=c4) (A:=All b4) (R:=fun w' F v=>Vb w' F v a3) (Gy (fun _ h=>h) (Vb.mono (F:=Fr 0 b4 c4) e0 Fr.lt) (Vb.mono (F:=Fr 0 b4 c4) x2 Fr.lt) n4) rfl rfl fun r7 s7 t7 b0 o4=>?_
   obtain rfl:=o4.bool
   cases a3
   case false =>
    replace j0:=iF j0
    refine o_z ?_
    refine Ae rfl (AH ?_)
    obtain rfl:=sm j0
    exact ⟨(e1.1,e1.2),_,⟨rfl,rfl,rfl,rfl,rfl,rfl,rfl,rfl,trivial⟩,(hB.st m0).st b0,c0.st b0,(h7.st m0).st b0,(i0.st m0).st b0,e0.st b0,(f0.st m0).st b0,(q0.st m0).st b0,(b1.st m0).st b0,(n1.st m0).st b0,x2.st b0⟩
   replace j0:=iT j0
   refine o_z ?_
   refine Ah rfl (Aj (Am rfl rfl (Am rfl rfl ?_)))
   obtain ⟨u7,m2,j0⟩:=bs j0
   obtain ⟨m2,p4,q4⟩:=BY m2
   replace n1:=(n1.st m0).st b0
   refine DV rfl (a:=(u1:Int)) n1 (vInt rk65) (fun _=>rfl) rfl (by decide) (by decide) p4 q4 ⟨rfl,rfl⟩ fun v7 r4 s4 w7 x7 v0 b3=>?_
   rw [← m2] at b3 ⊢
   refine At rfl rfl (o_z ?_)
   obtain rfl:=sm j0
   exact ⟨(r4,s4),_,⟨rfl,rfl,rfl,rfl,rfl,rfl,rfl,rfl,trivial⟩,((hB.st m0).st b0).st v0,(c0.st b0).st v0,((h7.st m0).st b0).st v0,((i0.st m0).st b0).st v0,(e0.st b0).st v0,((f0.st m0).st b0).st v0,((q0.st m0).st b0).st v0,((b1.st m0).st b0).st v0,b3,(x2.st b0).st v0⟩
  replace hB:=hB.st m0
  replace h7:=h7.st m0
  replace i0:=i0.st m0
  replace e0:=e0.st m0
  replace f0:=f0.st m0
  replace c0:=c0.st m0
  replace q0:=q0.st m0
  replace b1:=b1.st m0
  rintro y7 z7 ⟨k0,t4,c3,hB,c0,h7,i0,e0,f0,q0,b1,r0,x2⟩
  refine AP _ c3 ?_
  refine Al (Aj (Am rfl rfl (Am rfl rfl ?_)))
  obtain ⟨c1,u4,g0⟩:=bs g0
  refine Dq (O:=t4) (R:=fun w' F v=>Vb w' F v c1) (DW Fr.lt q0 x2 u4) rfl rfl fun a8 b8 w4 h0 y0=>?_
  obtain ⟨d3,e3,rfl⟩:=y0.form
  refine AO rfl rfl ?_
  have n2:c1.length≤9223372036854775807:=Nat.le_trans y0.len.2.1 y0.len.2.2
  have c8:inI64 (c1.length:Int):=rngNat n2
  refine Am rfl rfl (o_z ?_)
  obtain ⟨o2,f3,g0⟩:=bs g0
  refine AM (aft o2 (fun (d1:(List (List Arc))) (z1:Unit)=>[(1,(.pointer (some ⟨v1,0,none⟩))),(4,(.pointer i2)),(7,(.slice (some ⟨q1,0,none⟩) o1.length p1)),(8,(.slice k0.1 y1.length k0.2)),(33,(.int .i64 (z3:Int))),(34,(.int .i64 (u1:Int)))]) (fun d1 z1 w'=>∃ O':Lab,Bs w A w' O'∧Lc 2 w' O' v1 26 [(.slice A8 x0.vars.length c9),(.slice g1 x0.init.length h1),(.slice i1 x0.goal.length j1),(.slice k1 x0.ops.length l1)]∧Vb w' (Fr 0 w' O') (.slice A8 x0.vars.length c9) x0.vars∧Vb w' (Fr 0 w' O') (.slice g1 x0.init.length h1) x0.init∧Vb w' (Fr 0 w' O') (.slice i1 x0.goal.length j1) x0.goal∧Vb w' (Fr 0 w' O') (.slice k1 x0.ops.length l1) x0.ops∧Vb w' (Fr 0 w' O') (.pointer i2) y2.1∧NR Arc 3 w' O' 104 106 (.slice (some ⟨q1,0,none⟩) o1.length p1) d1 none∧Rw 4 w' O' 3 (.slice k0.1 y1.length k0.2) y1)) ?_ ?_
  ·
   refine AN ?_
   replace hB:=hB.st h0
   replace h7:=h7.st h0
   replace i0:=i0.st h0
   replace e0:=e0.st h0
   replace f0:=f0.st h0
   replace c0:=c0.st h0
   replace q0:=q0.st h0
   replace b1:=b1.st h0
   replace r0:=r0.st h0
   refine BI (σ:=(List (List Arc))) (X:=Unit) (c1.length) f3 rfl n2 (fun (d1:(List (List Arc))) (z1:Unit)=>[(1,(.pointer (some ⟨v1,0,none⟩))),(4,(.pointer i2)),(7,(.slice (some ⟨q1,0,none⟩) o1.length p1)),(8,(.slice k0.1 y1.length k0.2)),(9,(.int .i64 (u1:Int))),(33,(.int .i64 (z3:Int))),(34,(.int .i64 (u1:Int))),(56,(.slice d3 c1.length e3))]) _ (fun d1 z1 w'=>∃ O':Lab,Bs w A w' O'∧Lc 2 w' O' v1 26 [(.slice A8 x0.vars.length c9),(.slice g1 x0.init.length h1),(.slice i1 x0.goal.length j1),(.slice k1 x0.ops.length l1)]∧Vb w' (Fr 0 w' O') (.slice A8 x0.vars.length c9) x0.vars∧Vb w' (Fr 0 w' O') (.slice g1 x0.init.length h1) x0.init∧Vb w' (Fr 0 w' O') (.slice i1 x0.goal.length j1) x0.goal∧Vb w' (Fr 0 w' O') (.slice k1 x0.ops.length l1) x0.ops∧Vb w' (Fr 0 w' O') (.pointer i2) y2.1∧NR Arc 3 w' O' 104 106 (.slice (some ⟨q1,0,none⟩) o1.length p1) d1 none∧Rw 4 w' O' 3 (.slice k0.1 y1.length k0.2) y1∧Vb w' (Fr 0 w' O') (.slice d3 c1.length e3) c1) _ () ⟨w4,hB,c0,h7,i0,e0,f0,q0,b1,r0,y0⟩ ⟨rfl,rfl,rfl,rfl,rfl,rfl,rfl,rfl,rfl,rfl,trivial⟩ (fun _ _=>⟨rfl,rfl⟩) (fun _ _=>⟨rfl,rfl,rfl,rfl,rfl,rfl,trivial⟩) (fun _ _ _ ⟨O',hB,c0,h7,i0,e0,f0,q0,d0,r0,y0⟩=>⟨O',hB,c0,h7,i0,e0,f0,q0,d0,r0⟩) ⟨rfl,rfl,rfl⟩ ⟨rfl,rfl⟩ ?_
   rintro x4 g3 d1 z1 d8 p6 k2 ⟨y4,hB,c0,h7,i0,e0,f0,q0,d0,r0,y0⟩ a0 a2 d4
   have rk143:inI64 (x4:Int):=rngK k2 n2
   refine Al (Aj ?_)
   obtain ⟨e8,f8,q6,h3,i3,j3,g8,rfl,b2,h8⟩:=y0.elem' k2
   obtain ⟨z4,a5,rfl⟩:=b2.form
   refine Bo (hA:=h3) (hj:=rfl) (hlt:=i3) rfl rfl rfl ?_
   refine Bn (hl:=rfl) (hc:=j3) rfl rfl ?_
   refine CT 5 y4 rfl fun b5 i8 c2 n0 z0=>?_
   refine Br z0 rfl rfl rfl (Cj rfl) (allOne rfl) fun d2 o0 z0=>?_
   replace z0:Lc 5 d2 c2 b5 91 [(.int .i64 g3.op),(.slice z4 g3.state.length a5)]:=z0
   refine o_z ?_
   refine Al (Aj ?_)
   replace c0:=(c0.st n0).st o0
   refine Bn (hl:=rfl) (hc:=(c0.1).cellsAt) rfl rfl ?_
   refine AF rfl rfl (AE (hc:=Blk.cell (i:=1) (z0.1) rfl) rfl rfl ?_)
   obtain ⟨t1,c5,a0⟩:=bs a0
   replace h7:=(h7.st n0).st o0
   replace i0:=(i0.st n0).st o0
   replace e0:=(e0.st n0).st o0
   replace f0:=(f0.st n0).st o0
   replace b2:=(b2.st n0).st o0
   refine BO (O:=c2) (A:=All d2) (R:=fun w' F v=>T2 w' F v t1) (Jk (fun _ h=>h) (Vb.mono (F:=Fr 0 d2 c2) (Vb.ofAgg (cs:=[(.slice A8 x0.vars.length c9),(.slice g1 x0.init.length h1),(.slice i1 x0.goal.length j1),(.slice k1 x0.ops.length l1)]) (x:=x0) rfl ⟨_,_,_,_,rfl,h7,i0,e0,f0⟩) Fr.lt) (Vb.mono (F:=Fr 0 d2 c2) b2 Fr.lt) c5) rfl rfl fun j8 p2 e2 p0 d5=>?_
   obtain ⟨k8,l8,rfl,e5,f5⟩:=d5
   obtain ⟨rfl,g5⟩:=e5.int
   obtain ⟨rfl,h5⟩:=f5.err
   refine Am rfl rfl (Bf rfl rfl rfl (Bf rfl rfl rfl (At rfl rfl (At rfl rfl (o_z ?_)))))
   refine Al (Al (Aj (Am rfl rfl (Di rfl rfl (fun q2=>?_) fun q2=>?_))))
   ·
    replace a0:=ip a0 q2
    refine o_z ?_
    refine Ah rfl (Al (Aj (Am rfl rfl (At rfl rfl (At rfl rfl (o_z ?_))))))
    refine AJ ?_
    obtain rfl:=sm a0
    obtain rfl:=a2 _ rfl
    obtain rfl:=sm (Cy g0)
    obtain rfl:=s1 _ rfl
    obtain rfl:=sm (Cy hm)
    replace hB:=((hB.st n0).st o0).st p0
    exact ret2 rfl (AA rfl) (AA rfl) ⟨hB.ext,_,_,rfl,(Vb.mono (F:=Fr 0 p2 e2) (Vb.nil _ _) hB.out),(vErr h5)⟩
   replace a0:=im a0 q2
   refine o_z ?_
   refine Ae rfl (AH (BD [(17,[3,14])] e2 ?_))
   refine AW (fuel:=6) [] [(2,true),(3,true),(4,true),(5,true),(6,true),(7,true),(8,true),(9,true),(10,true),(11,true),(12,true),(13,true),(14,true),(15,true)] (by kernel_rfl) rfl ?_
   refine AG rfl rfl rfl (AG rfl rfl rfl ?_)
   obtain ⟨f2,i5,a0⟩:=bs a0
   obtain ⟨j5,r2⟩:=AL i5
   replace d0:=((d0.st n0).st o0).st p0
   obtain ⟨m8,n8,a1,k3⟩:=d0.at r2
   refine BN (hA:=a1) (hj:=(Int.toNat_of_nonneg j5).symm) (hlt:=k3) rfl rfl rfl rfl ?_
   obtain ⟨l3,m3,f1,g2⟩:=NR.peek d0 a1 r2
   replace g2:Vb p2 (FrS [3] p2 e2) (.slice l3 f2.length m3) f2:=g2
   refine AS (hc:=fun w' ⟨O',hq⟩=>NR.stay d0 a1 hq (by decide) f1) rfl rfl rfl ?_
   refine AG rfl rfl rfl (AG rfl rfl rfl (AR rfl rfl rfl ?_))
   replace c0:=c0.st p0
   refine AS (hc:=fun w' ⟨O',hq⟩=>Blk.cell (i:=3) ((c0.st hq (by decide)).1) rfl) rfl rfl rfl ?_
   refine AR rfl rfl rfl ?_
   replace z0:=z0.st p0
   refine AS (hc:=fun w' ⟨O',hq⟩=>Blk.cell (i:=0) ((z0.st hq (by decide)).1) rfl) rfl rfl rfl ?_
   obtain ⟨s2,k5,a0⟩:=bs a0
   obtain ⟨l5,m5⟩:=AL k5
   replace f0:=f0.st p0
   obtain ⟨o8,p8,r6,n3,o3,p3,q3,q8,r8,rfl,n5,o5,p5,s8⟩:=f0.elem m5
   obtain ⟨t8,u8,rfl⟩:=n5.form
   obtain ⟨v8,w8,rfl⟩:=o5.form
   refine BN (hA:=n3) (hj:=(Int.toNat_of_nonneg l5).symm) (hlt:=p3) rfl rfl rfl rfl ?_
   refine AR rfl rfl rfl (AS (hc:=fun w' ⟨O',hq⟩=>cat1 (Bc (hq.agree (i:=0) (by decide)) o3 q3)) rfl rfl rfl ?_)
   refine Gs rfl rfl rfl rfl ?_
   refine AK ?_
   refine AW (fuel:=4) [3,14] [(0,true),(1,true)] (by kernel_rfl) rfl ?_
   refine AG rfl rfl rfl (AG rfl rfl rfl (AK ?_))
   refine AZ (i:=16) (by kernel_rfl) rfl ?_
   refine Ca 6 (by decide) e2 (xs:=([(⟨t1.1,(u1:Int),s2.cost⟩:Arc)]:List Arc)) rfl rfl rfl rfl ⟨(Vb.ofAgg (cs:=[(.int .i64 t1.1),(.int .i64 (u1:Int)),(.int .i64 s2.cost)]) (x:=(⟨t1.1,(u1:Int),s2.cost⟩:Arc)) rfl ⟨rfl,g5,rk65,p5⟩),trivial⟩ (by decide) (by decide) rfl fun x8 q5 y8 l0 t2=>?_
   have hZ:=l0.lst [] (fun _ h=>h.elim)
   replace f1:=NR.stay d0 a1 l0 id f1
   replace g2:=g2.stS l0 id (fun _ _=>id)
   refine BA [(17,[3,14])] hZ (by kernel_rfl) ?_
   refine AZ (i:=17) (by kernel_rfl) rfl ?_
   replace d0:=d0.st l0
   obtain ⟨r5,s0,d0,u2⟩:=NR.take' d0 a1 r2 f1 14 (by decide) (by decide)
   replace u2:Rw 14 q5 r5 106 (.slice l3 f2.length m3) f2:=u2
   have hZ:=s0.lst [3] (fun _ h=>by cases h;decide)
   obtain ⟨s5,v2,a0⟩:=bs a0
   obtain ⟨v2,t5,u5⟩:=BY v2
   replace t2:=t2.st s0
   refine CQ rfl u2 (t2.rd) rfl rfl (by decide) t5 u5 rfl fun z8 a9 b9 d9 t0 r3=>?_
   rw [← v2] at r3 ⊢
   replace hZ:=hZ.cmp t0 [3,14] (fun _ h=>by cases h;decide) rfl
   refine BA [] hZ (by kernel_rfl) ?_
   refine AW (fuel:=1) [] [(18,true)] (by kernel_rfl) rfl ?_
   obtain ⟨w5,x5,a0⟩:=bs a0
   obtain ⟨y5,s3⟩:=AL x5
   replace d0:=d0.st t0
   obtain ⟨e9,f9,l2,t3⟩:=d0.at s3
   refine BN (hA:=l2) (hj:=(Int.toNat_of_nonneg y5).symm) (hlt:=t3) rfl rfl rfl rfl ?_
   refine AK ?_
   refine AZ (i:=19) (by kernel_rfl) rfl ?_
   refine Lz (a:=w5) (off:=0) d0 r3 (by decide) l2 s3 rfl rfl rfl rfl (by decide) fun z5 a6 w0 w2=>?_
   replace w2:NR Arc 3 z5 a6 104 106 (.slice (some ⟨q1,0,none⟩) o1.length p1) (d1.set (t1.1:Int).toNat s5) none:=w2
   refine Dm (by kernel_rfl) ?_
   refine Ck (by kernel_rfl) ?_
   obtain rfl:=sm a0
   exact show Exists _ from ⟨_,(),rfl,⟨rfl,rfl,rfl,rfl,rfl,rfl,rfl,rfl,rfl,rfl,trivial⟩,_,((((((hB.st n0).st o0).st p0).st l0).st s0).st t0).st w0,(((c0.st l0).st s0).st t0).st w0,((((h7.st p0).st l0).st s0).st t0).st w0,((((i0.st p0).st l0).st s0).st t0).st w0,((((e0.st p0).st l0).st s0).st t0).st w0,(((f0.st l0).st s0).st t0).st w0,((((((q0.st n0).st o0).st p0).st l0).st s0).st t0).st w0,w2,((((((r0.st n0).st o0).st p0).st l0).st s0).st t0).st w0,((((((y0.st n0).st o0).st p0).st l0).st s0).st t0).st w0⟩
  replace hB:=hB.st h0
  replace h7:=h7.st h0
  replace i0:=i0.st h0
  replace e0:=e0.st h0
  replace f0:=f0.st h0
  replace c0:=c0.st h0
  replace q0:=q0.st h0
  replace r0:=r0.st h0
  rintro g9 h9 ⟨i9,j9,rfl,u0,k9,hB,c0,h7,i0,e0,f0,q0,d0,r0⟩
  replace g0:=Ba g0
  obtain rfl:=sm g0
  exact show Exists _ from ⟨_,(k0.1,k0.2),rfl,⟨(BB u0 _ _ rfl),(BB u0 _ _ rfl),(BB u0 _ _ rfl),(BB u0 _ _ rfl),(BB u0 _ _ rfl),(BB u0 _ _ rfl),trivial⟩,_,hB,c0,h7,i0,e0,f0,q0,d0,r0⟩
 replace hB:=(((hB.st h2).st w1).st x1).st j2
 rintro l9 m9 ⟨n9,o9,rfl,u3,p9,hB,b1,n1⟩
 replace hm:=Ba hm
 refine AP _ u3 ?_
 refine Al (Aj (Am rfl rfl (Am rfl rfl ?_)))
 obtain ⟨q9,w3,b1⟩:=b1.freeze
 replace n1:=n1.st w3
 obtain ⟨b6,x3,n1⟩:=n1.freeze
 obtain ⟨c6,d6,hm⟩:=bs hm
 replace b1:=b1.st x3
 refine Dq (O:=b6) (R:=fun w' F v=>T2 w' F v c6) (EK Fr.lt b1 n1 d6) rfl rfl fun r9 e6 f6 g6 h6=>?_
 obtain ⟨s9,t9,rfl,y3,i6⟩:=h6
 obtain ⟨u9,v9,rfl⟩:=y3.form
 obtain ⟨w9,x9,rfl⟩:=i6.form
 refine Am rfl rfl (Bf rfl rfl rfl (Bf rfl rfl rfl (At rfl rfl (At rfl rfl (o_z ?_)))))
 refine Al (Aj (Am rfl rfl (At rfl rfl (At rfl rfl (o_z ?_)))))
 refine AJ ?_
 obtain rfl:=sm hm
 replace hB:=((hB.st w3).st x3).st g6
 exact ret2 rfl (AA rfl) (AA rfl) ⟨hB.ext,_,_,rfl,(Vb.mono (F:=Fr 0 e6 f6) y3 hB.out),(vErr (show inI64 0 from by decide))⟩
end
section
open Go Go.RowKit
theorem IC {P:Program} {t:TypeId} [h:TIface P t] (s:TypeId) (v:Value) (w:World):(Op.equal t .nilIface (.iface s v)).run P w=.ok false w:=by
  obtain ⟨ms,hm⟩:=h.eq
  have hd:∀ d:Nat,(Op.equalIn (d + 1) t .nilIface (.iface s v)).run P w=.ok false w:=fun d=>by
    simp [Op.equalIn,run_underlying hm]
  exact hd 9999
theorem Qw {P:Program} {l:Env} {w:World} {dst:Option Tmp} {ty:TypeId} {pos:String} {aft:Array Edge} {t u:TypeId} [TIface P t] {x y:Operand} {s:TypeId} {v:Value} (hx:opv l x=some .nilIface) (hy:opv l y=some (.iface s v)):Ev P ⟨dst,.binOp .eql t x y u,ty,pos,aft,none⟩ l w (.bool false):=fun _ a d ha=>by
  simp [execOp,ha.eval hx,ha.eval hy,eqGuard,binOp,IC (P:=P) (t:=t)]
section
attribute [local irreducible] ewp owp hwp hwq hws Ev Evg Fn retPost loud loudS Res1
attribute [local irreducible] hwx loudX
theorem Mc {w:World} {A:Nat→Prop} (hA:∀ k,A k→k < w.heap.size) {x0:Err} (rx0:inI64 x0.n) {x1:Err} (rx1:inI64 x1.n) {r:Bool} (hm:Ef x0 x1=some r) :
    Fn Tryz.prog 50 [(errV x0.n),(errV x1.n)] w fun v w'=>Ext w w'∧Vb w' (upA A w w') v r:=by
  obtain ⟨⟨e0,e1⟩,rfl⟩:=Fe hm
  obtain ⟨O,hB,a0⟩:=enter hA
  refine AI Tryz.func50 rfl Tryz.ntmps50 rfl ?_
  rw [e0,FV,Gw e1]
  refine Al (Aj (At rfl rfl (o_z ?_)))
  refine Al (Al (Aj (Am rfl rfl (Rq rfl rfl ?_))))
  refine Am rfl rfl (Az rfl rfl rfl rfl (Az rfl rfl rfl rfl (BV rfl rfl rfl (o_z ?_))))
  refine Ah rfl (Al (Aj (Am rfl rfl (Am rfl rfl (AV (Qw rfl rfl) rfl (At rfl rfl (o_z ?_)))))))
  refine AJ ?_
  exact ret1v rfl (AA rfl) ⟨hB.ext,vBool⟩
end
end
section
open Go Go.RowKit
attribute [local irreducible] ewp owp hwp hwq hws Ev Evg Fn retPost loud loudS Res1
attribute [local irreducible] hwx loudX
noncomputable def Cl (x0:Tsk) (x1:Int):Option ((Option Spa)×Err) :=
  bnd (Db x0) fun q25=>if q25.2.n≠0 then (some (none,(⟨q25.2.n⟩:Err))) else (bnd (CV x0.vars) fun q40=>if q40.2.n≠0 then (some (none,(⟨q40.2.n⟩:Err))) else (if (max 0 (min x1 65536)) < 1 then (some (none,(⟨10⟩:Err))) else (bnd q40.1 fun o54=>bnd (Bj o54 x0.init) fun q57=>if q57.2.2.1.n≠0 then (some (none,(⟨q57.2.2.1.n⟩:Err))) else (bnd (CF x0) fun q74=>bnd (lop (ρ:=(Option Spa)×Err) (fun (s105:Int×(List Edj)×(List Bool)×Reg)=>bnd (Bd s105.2.2.2) fun q130=>if s105.1 < q130 then (bnd (Bp s105.2.2.2 s105.1) fun q141=>if q141.2.n≠0 then (some (.ret (none,(⟨q141.2.n⟩:Err)))) else (bnd (bnd (Cq x0.goal q141.1) fun q163=>if q163=true then bnd (appI 1 s105.2.2.1 [true]) fun u195=>some u195 else bnd (appI 1 s105.2.2.1 [false]) fun u176=>some u176:Option (List Bool)) fun y157=>bnd (AX q25.1 q141.1) fun q212=>bnd (rng (ρ:=Ctl (Int×(List Edj)×(List Bool)×Reg) ((Option Spa)×Err)) (fun (k227:Nat) (a228:Suc) (s225:(List Edj)×Reg)=>bnd (Bj s225.2 a228.state) fun q263=>bnd (bnd (Ef (⟨q263.2.2.1.n⟩:Err) (⟨10⟩:Err)) fun q283=>if q283=true then some true else if q263.2.1=true then (if (max 0 (min x1 65536))≤q263.1 then (some true) else (some false)) else (some false):Option Bool) fun y279=>if y279=true then (some (.ret (.ret (none,(⟨10⟩:Err))))) else (if q263.2.2.1.n≠0 then (some (.ret (.ret (none,(⟨q263.2.2.1.n⟩:Err))))) else (bnd (appI 24 s225.1 [(⟨s105.1,a228.op,q263.1⟩:Edj)]) fun u304=>some (.next (u304,q263.2.2.2))))) q212 0 (s105.2.1,s105.2.2.2)) fun res223=>fin res223 fun (s321:(List Edj)×Reg)=>bnd (chkI (s105.1 + 1)) fun n323=>some (.next (n323,s321.1,y157,s321.2)))) else (some (.brk (s105.1,s105.2.1,s105.2.2.1,s105.2.2.2)))) (0,([]:List Edj),([]:List Bool),q57.2.2.2)) fun res103=>fin res103 fun (s330:Int×(List Edj)×(List Bool)×Reg)=>bnd (BM (⟨(⟨q74.vars,q74.init,q74.goal,q74.ops⟩:Tsk),s330.2.2.2,s330.2.1,s330.2.2.1,([]:List Int),([]:List Int),([]:List Int)⟩:Spa)) fun q341=>some ((some q341),(⟨0⟩:Err))))))
theorem Gb {w:World} {O:Lab} {vx0:Value} {x0:Tsk} (r5:Vb w (Fr 0 w O) vx0 x0) {x1:Int} (rx1:inI64 x1) (j0:Nat) (hj0:j0≠0) {r:(Option Spa)×Err} (hm:Cl x0 x1=some r) :
    Fn Tryz.prog 12 [vx0,(.int .i64 x1)] w fun v w'=>∃ O',St nT w O w' O'∧∃ v0 v1:Value,v=.tuple #[v0,v1]∧Obo j0 w' O' v0 r.1∧Vb w' (Fr 0 w' O') v1 r.2:=by
 obtain ⟨O0,hE,k8⟩:=ent0 (w:=w) (O:=O)
 have hB:Bm w O0 w O0:=Bm.refl
 replace r5:=r5.mono k8
 obtain ⟨qB,rfl,v4,v5,v6,v7,rfl,h8,u0,w0,h1⟩:=r5
 obtain ⟨A9,t2,rfl⟩:=h8.form
 obtain ⟨u2,v2,rfl⟩:=u0.form
 obtain ⟨w2,x2,rfl⟩:=w0.form
 obtain ⟨y2,z2,rfl⟩:=h1.form
 refine AI Tryz.func12 rfl Tryz.ntmps12 rfl ?_
 unfold Cl at hm
 refine Al (Aj (Dw 2 O0 rfl rfl fun d3 l8 d8 i3 s0=>?_))
 replace s0:Lc 2 l8 d8 d3 26 [(.slice A9 x0.vars.length t2),(.slice u2 x0.init.length v2),(.slice w2 x0.goal.length x2),(.slice y2 x0.ops.length z2)]:=s0
 refine At rfl rfl (At rfl rfl (o_z ?_))
 refine Al (Aj (Bn (hl:=rfl) (hc:=(s0.1).cellsAt) rfl rfl ?_))
 obtain ⟨j4,m8,hm⟩:=bs hm
 replace h8:=h8.st i3
 replace u0:=u0.st i3
 replace w0:=w0.st i3
 replace h1:=h1.st i3
 refine Dq (O:=d8) (R:=fun w' F v=>T2 w' F v j4) (HX Fr.lt (Vb.ofAgg (cs:=[(.slice A9 x0.vars.length t2),(.slice u2 x0.init.length v2),(.slice w2 x0.goal.length x2),(.slice y2 x0.ops.length z2)]) (x:=x0) rfl ⟨_,_,_,_,rfl,h8,u0,w0,h1⟩) m8) rfl rfl fun rB sB n8 e3 o8=>?_
 obtain ⟨tB,uB,rfl,t1,p8⟩:=o8
 obtain ⟨j3,rfl,q8⟩:=t1.ptr
 obtain ⟨rfl,r8⟩:=p8.err
 refine Am rfl rfl (Bf rfl rfl rfl (Bf rfl rfl rfl (At rfl rfl (At rfl rfl (o_z ?_)))))
 refine Al (Al (Aj (Am rfl rfl (Di rfl rfl (fun s5=>?_) fun s5=>?_))))
 ·
  replace hm:=ip hm s5
  refine o_z ?_
  refine Ah rfl (Al (Aj (Am rfl rfl (At rfl rfl (At rfl rfl (o_z ?_))))))
  refine AJ ?_
  obtain rfl:=sm hm
  replace hB:=(hB.st i3).st e3
  obtain ⟨O',hS',hz,hl⟩:=hE.leave (fun _=>0) rfl hB
  exact ret2 rfl (AA rfl) (AA rfl) ⟨O',hS',_,_,rfl,rfl,(vErr r8)⟩
 replace hm:=im hm s5
 refine o_z ?_
 refine Ae rfl (AH (Al (Aj (Am rfl rfl (MA rfl rfl rfl ?_)))))
 refine OK rfl rfl rfl ?_
 refine At rfl rfl (o_z ?_)
 refine Al (Aj (AF rfl rfl ?_))
 replace s0:=s0.st e3
 refine AE (hc:=Blk.cell (i:=0) (s0.1) rfl) rfl rfl ?_
 obtain ⟨vB,s8,hm⟩:=bs hm
 replace h8:=h8.st e3
 refine BP (O:=n8) (Ko h8 3 (by decide) s8) rfl rfl fun wB xB t8 f3 u8=>?_
 obtain ⟨yB,zB,rfl,t5,v8⟩:=u8
 obtain ⟨rfl,w8⟩:=v8.err
 refine Am rfl rfl (Bf rfl rfl rfl (Bf rfl rfl rfl (At rfl rfl (At rfl rfl (o_z ?_)))))
 refine Al (Al (Aj (Am rfl rfl (Di rfl rfl (fun u5=>?_) fun u5=>?_))))
 ·
  replace hm:=ip hm u5
  refine o_z ?_
  refine Ah rfl (Al (Aj (Am rfl rfl (At rfl rfl (At rfl rfl (o_z ?_))))))
  refine AJ ?_
  obtain rfl:=sm hm
  replace hB:=((hB.st i3).st e3).st f3
  obtain ⟨O',hS',hz,hl⟩:=hE.leave (fun _=>0) rfl hB
  exact ret2 rfl (AA rfl) (AA rfl) ⟨O',hS',_,_,rfl,rfl,(vErr w8)⟩
 replace hm:=im hm u5
 refine o_z ?_
 refine Ae rfl (AH (Al (Al (Aj (Am rfl rfl (DU rfl rfl rfl (fun w5=>?_) fun w5=>?_))))))
 ·
  replace hm:=ip hm w5
  refine o_z ?_
  refine Ah rfl (Al (Aj (Dx rfl rfl ?_)))
  refine At rfl rfl (At rfl rfl (o_z ?_))
  refine AJ ?_
  obtain rfl:=sm hm
  replace hB:=((hB.st i3).st e3).st f3
  obtain ⟨O',hS',hz,hl⟩:=hE.leave (fun _=>0) rfl hB
  exact ret2 rfl (AA rfl) (AA rfl) ⟨O',hS',_,_,rfl,rfl,(vErr (by decide))⟩
 replace hm:=im hm w5
 refine o_z ?_
 refine Ae rfl (AH (Al (Al (Aj (Am rfl rfl (AF rfl rfl ?_))))))
 replace s0:=s0.st f3
 refine AE (hc:=Blk.cell (i:=1) (s0.1) rfl) rfl rfl ?_
 obtain ⟨aC,x8,hm⟩:=bs hm
 rw [x8] at t5
 obtain ⟨c2,rfl⟩:=Ob.ptr t5
 obtain ⟨bC,y8,hm⟩:=bs hm
 replace u0:=(u0.st e3).st f3
 refine BP (O:=t8) (EV t5 u0 y8) rfl rfl fun cC dC z8 k3 a9=>?_
 obtain ⟨eC,fC,gC,x5,rfl,b9,c9,d9⟩:=a9
 obtain ⟨rfl,hC⟩:=b9.int
 obtain rfl:=c9.bool
 obtain ⟨rfl,e9⟩:=d9.err
 refine Am rfl rfl (Bf rfl rfl rfl (Bf rfl rfl rfl (Bf rfl rfl rfl (At rfl rfl (At rfl rfl (At rfl rfl (o_z ?_)))))))
 refine Al (Aj (Am rfl rfl (Di rfl rfl (fun y5=>?_) fun y5=>?_)))
 ·
  replace hm:=ip hm y5
  refine o_z ?_
  refine Ah rfl (Al (Aj (Am rfl rfl (At rfl rfl (At rfl rfl (o_z ?_))))))
  refine AJ ?_
  obtain rfl:=sm hm
  replace hB:=(((hB.st i3).st e3).st f3).st k3
  obtain ⟨O',hS',hz,hl⟩:=hE.leave (fun _=>0) rfl hB
  exact ret2 rfl (AA rfl) (AA rfl) ⟨O',hS',_,_,rfl,rfl,(vErr e9)⟩
 replace hm:=im hm y5
 refine o_z ?_
 refine Ae rfl (AH (Al (Aj ?_)))
 replace s0:=s0.st k3
 refine Bn (hl:=rfl) (hc:=(s0.1).cellsAt) rfl rfl ?_
 obtain ⟨g0,f9,hm⟩:=bs hm
 replace h8:=(h8.st f3).st k3
 replace u0:=u0.st k3
 replace w0:=((w0.st e3).st f3).st k3
 replace h1:=((h1.st e3).st f3).st k3
 refine Dq (O:=z8) (R:=fun w' F v=>Vb w' F v g0) (JA Fr.lt (Vb.ofAgg (cs:=[(.slice A9 x0.vars.length t2),(.slice u2 x0.init.length v2),(.slice w2 x0.goal.length x2),(.slice y2 x0.ops.length z2)]) (x:=x0) rfl ⟨_,_,_,_,rfl,h8,u0,w0,h1⟩) f9) rfl rfl fun iC jC g9 l3 h9=>?_
 obtain ⟨i9,rfl,kC,lC,mC,nC,rfl,z0,a1,b1,c1⟩:=h9
 obtain ⟨h2,i2,rfl⟩:=z0.form
 obtain ⟨j2,k2,rfl⟩:=a1.form
 obtain ⟨l2,m2,rfl⟩:=b1.form
 obtain ⟨n2,o2,rfl⟩:=c1.form
 refine Am rfl rfl (EG rfl rfl rfl ?_)
 refine Dw 4 g9 rfl rfl fun p2 j9 k4 d1 e0=>?_
 replace e0:Lc 4 j9 k4 p2 87 [(.slice h2 g0.vars.length i2),(.slice j2 g0.init.length k2),(.slice l2 g0.goal.length m2),(.slice n2 g0.ops.length o2),(.pointer (some ⟨c2,0,none⟩)),(.slice none 0 0),(.slice none 0 0),(.slice none 0 0),(.slice none 0 0),(.slice none 0 0)]:=e0
 refine At rfl rfl (o_z ?_)
 refine Al (Al (Aj (At rfl rfl (o_z ?_))))
 obtain ⟨s3,l4,hm⟩:=bs hm
 refine AM (aft s3 (fun (k0:Int×(List Edj)×(List Bool)×Reg) (m0:(Option Addr×Nat)×(Option Addr×Nat))=>[(12,(.pointer (some ⟨p2,0,none⟩)))]) (fun k0 m0 w'=>∃ O':Lab,Bm w O0 w' O'∧Lc 4 w' O' p2 87 [(.slice h2 g0.vars.length i2),(.slice j2 g0.init.length k2),(.slice l2 g0.goal.length m2),(.slice n2 g0.ops.length o2),(.pointer (some ⟨c2,0,none⟩)),(.slice m0.1.1 k0.2.1.length m0.1.2),(.slice m0.2.1 k0.2.2.1.length m0.2.2),(.slice none 0 0),(.slice none 0 0),(.slice none 0 0)]∧Vb w' (Fr 0 w' O') (.slice h2 g0.vars.length i2) g0.vars∧Vb w' (Fr 0 w' O') (.slice j2 g0.init.length k2) g0.init∧Vb w' (Fr 0 w' O') (.slice l2 g0.goal.length m2) g0.goal∧Vb w' (Fr 0 w' O') (.slice n2 g0.ops.length o2) g0.ops∧Ob 3 w' O' (.pointer (some ⟨c2,0,none⟩)) k0.2.2.2∧Rw 9 w' O' 94 (.slice m0.1.1 k0.2.1.length m0.1.2) k0.2.1∧Rw 6 w' O' 4 (.slice m0.2.1 k0.2.2.1.length m0.2.2) k0.2.2.1∧inI64 k0.1)) ?_ ?_
 ·
  refine AN ?_
  replace hB:=(((((hB.st i3).st e3).st f3).st k3).st l3).st d1
  replace h8:=(h8.st l3).st d1
  replace u0:=(u0.st l3).st d1
  replace w0:=(w0.st l3).st d1
  replace h1:=(h1.st l3).st d1
  replace s0:=(s0.st l3).st d1
  replace t1:=(((t1.st f3).st k3).st l3).st d1
  replace x5:=(x5.st l3).st d1
  replace z0:=z0.st d1
  replace a1:=a1.st d1
  replace b1:=b1.st d1
  replace c1:=c1.st d1
  refine FI (σ:=Int×(List Edj)×(List Bool)×Reg) (X:=(Option Addr×Nat)×(Option Addr×Nat)) l4 (fun (k0:Int×(List Edj)×(List Bool)×Reg) (m0:(Option Addr×Nat)×(Option Addr×Nat))=>[(1,(.int .i64 (max 0 (min x1 65536)))),(2,(.pointer (some ⟨d3,0,none⟩))),(6,(.pointer j3)),(8,(.pointer (some ⟨c2,0,none⟩))),(12,(.pointer (some ⟨p2,0,none⟩))),(13,(.int .i64 k0.1))]) _ (fun k0 m0 w'=>∃ O':Lab,Bm w O0 w' O'∧Lc 2 w' O' d3 26 [(.slice A9 x0.vars.length t2),(.slice u2 x0.init.length v2),(.slice w2 x0.goal.length x2),(.slice y2 x0.ops.length z2)]∧Vb w' (Fr 0 w' O') (.slice A9 x0.vars.length t2) x0.vars∧Vb w' (Fr 0 w' O') (.slice u2 x0.init.length v2) x0.init∧Vb w' (Fr 0 w' O') (.slice w2 x0.goal.length x2) x0.goal∧Vb w' (Fr 0 w' O') (.slice y2 x0.ops.length z2) x0.ops∧Vb w' (Fr 0 w' O') (.pointer j3) j4.1∧Ob 3 w' O' (.pointer (some ⟨c2,0,none⟩)) k0.2.2.2∧Lc 4 w' O' p2 87 [(.slice h2 g0.vars.length i2),(.slice j2 g0.init.length k2),(.slice l2 g0.goal.length m2),(.slice n2 g0.ops.length o2),(.pointer (some ⟨c2,0,none⟩)),(.slice m0.1.1 k0.2.1.length m0.1.2),(.slice m0.2.1 k0.2.2.1.length m0.2.2),(.slice none 0 0),(.slice none 0 0),(.slice none 0 0)]∧Vb w' (Fr 0 w' O') (.slice h2 g0.vars.length i2) g0.vars∧Vb w' (Fr 0 w' O') (.slice j2 g0.init.length k2) g0.init∧Vb w' (Fr 0 w' O') (.slice l2 g0.goal.length m2) g0.goal∧Vb w' (Fr 0 w' O') (.slice n2 g0.ops.length o2) g0.ops∧Rw 9 w' O' 94 (.slice m0.1.1 k0.2.1.length m0.1.2) k0.2.1∧Rw 6 w' O' 4 (.slice m0.2.1 k0.2.2.1.length m0.2.2) k0.2.2.1∧inI64 k0.1) _ ((none,0),(none,0)) ⟨k4,hB,s0,h8,u0,w0,h1,t1,x5,e0,z0,a1,b1,c1,(Rw.nil 9 (by decide)),(Rw.nil 6 (by decide)),(show inI64 (0) from by decide)⟩ ⟨rfl,rfl,rfl,rfl,rfl,rfl,trivial⟩ ?_
  rintro k0 m0 k9 e8 ⟨z5,hB,s0,h8,u0,w0,h1,t1,g3,e0,z0,a1,b1,c1,n1,w1,m3⟩ h0 d2 n3
  refine Al (Al (Aj (Am rfl rfl (Am rfl rfl ?_))))
  obtain ⟨l9,a6,h0⟩:=bs h0
  refine BP (O:=z5) (DO g3 a6) rfl rfl fun m9 n9 b6 f0 c6=>?_
  obtain ⟨m4,d6⟩:=c6
  obtain ⟨rfl,o9⟩:=d6.int
  refine DU rfl rfl rfl (fun t3=>?_) fun t3=>?_
  ·
   replace h0:=ip h0 t3
   refine o_z ?_
   refine Ah rfl (AH (Al (AN (Al (Aj (Am rfl rfl (Am rfl rfl ?_)))))))
   obtain ⟨u3,e6,h0⟩:=bs h0
   refine BP (O:=b6) (EF m4 m3 e6) rfl rfl fun p9 v3 o3 i0 f6=>?_
   obtain ⟨q9,r9,a3,rfl,b3,g6⟩:=f6
   obtain ⟨n4,o4,rfl⟩:=b3.form
   obtain ⟨rfl,h6⟩:=g6.err
   refine Am rfl rfl (Bf rfl rfl rfl (Bf rfl rfl rfl (At rfl rfl (At rfl rfl (o_z ?_)))))
   refine Al (Al (Aj (Am rfl rfl (Di rfl rfl (fun w3=>?_) fun w3=>?_))))
   ·
    replace h0:=ip h0 w3
    refine o_z ?_
    refine Ah rfl (Al (Aj (Am rfl rfl (At rfl rfl (At rfl rfl (o_z ?_))))))
    refine AJ ?_
    obtain rfl:=sm h0
    obtain rfl:=d2 _ rfl
    obtain rfl:=sm (Cy hm)
    replace hB:=(hB.st f0).st i0
    obtain ⟨O',hS',hz,hl⟩:=hE.leave (fun _=>0) rfl hB
    exact ret2 rfl (AA rfl) (AA rfl) ⟨O',hS',_,_,rfl,rfl,(vErr h6)⟩
   replace h0:=im h0 w3
   refine o_z ?_
   refine Ae rfl (AH (Al ?_))
   obtain ⟨y1,t0,h0⟩:=bs h0
   refine AM (fun l' w'=>∃ (r0:(Option Addr×Nat)) (O':Lab),subs l' [(1,(.int .i64 (max 0 (min x1 65536)))),(2,(.pointer (some ⟨d3,0,none⟩))),(6,(.pointer j3)),(8,(.pointer (some ⟨c2,0,none⟩))),(12,(.pointer (some ⟨p2,0,none⟩))),(13,(.int .i64 k0.1)),(14,(.slice n4 u3.1.length o4))]∧Bm w O0 w' O'∧Lc 2 w' O' d3 26 [(.slice A9 x0.vars.length t2),(.slice u2 x0.init.length v2),(.slice w2 x0.goal.length x2),(.slice y2 x0.ops.length z2)]∧Vb w' (Fr 0 w' O') (.slice A9 x0.vars.length t2) x0.vars∧Vb w' (Fr 0 w' O') (.slice u2 x0.init.length v2) x0.init∧Vb w' (Fr 0 w' O') (.slice w2 x0.goal.length x2) x0.goal∧Vb w' (Fr 0 w' O') (.slice y2 x0.ops.length z2) x0.ops∧Vb w' (Fr 0 w' O') (.pointer j3) j4.1∧Ob 3 w' O' (.pointer (some ⟨c2,0,none⟩)) k0.2.2.2∧Lc 4 w' O' p2 87 [(.slice h2 g0.vars.length i2),(.slice j2 g0.init.length k2),(.slice l2 g0.goal.length m2),(.slice n2 g0.ops.length o2),(.pointer (some ⟨c2,0,none⟩)),(.slice m0.1.1 k0.2.1.length m0.1.2),(.slice r0.1 y1.length r0.2),(.slice none 0 0),(.slice none 0 0),(.slice none 0 0)]∧Vb w' (Fr 0 w' O') (.slice h2 g0.vars.length i2) g0.vars∧Vb w' (Fr 0 w' O') (.slice j2 g0.init.length k2) g0.init∧Vb w' (Fr 0 w' O') (.slice l2 g0.goal.length m2) g0.goal∧Vb w' (Fr 0 w' O') (.slice n2 g0.ops.length o2) g0.ops∧Rw 9 w' O' 94 (.slice m0.1.1 k0.2.1.length m0.1.2) k0.2.1∧Rw 6 w' O' 4 (.slice r0.1 y1.length r0.2) y1∧Vb w' (Fr 0 w' O') (.slice n4 u3.1.length o4) u3.1) ?_ ?_
   ·
    refine BD [(10,[6])] o3 ?_
    refine AW (fuel:=7) [] [(1,true),(2,true),(3,true),(4,true),(5,true),(6,true),(7,true)] (by kernel_rfl) rfl ?_
    refine AG rfl rfl rfl (Co rfl rfl rfl (AR rfl rfl rfl ?_))
    replace e0:=(e0.st f0).st i0
    refine AS (hc:=fun w' ⟨O',hq⟩=>Blk.cell (i:=6) ((e0.st hq (by decide)).1) rfl) rfl rfl rfl ?_
    refine AR rfl rfl rfl ?_
    replace s0:=(s0.st f0).st i0
    refine AS (hc:=fun w' ⟨O',hq⟩=>Blk.cell (i:=2) ((s0.st hq (by decide)).1) rfl) rfl rfl rfl ?_
    refine AG rfl rfl rfl (AK ?_)
    refine AW (fuel:=6) [6] [(0,true)] (by kernel_rfl) rfl ?_
    refine AG rfl rfl rfl (AK ?_)
    refine AZ (i:=8) (by kernel_rfl) rfl ?_
    obtain ⟨p4,i6,t0⟩:=bs t0
    replace w0:=(w0.st f0).st i0
    refine BO (O:=o3) (A:=All v3) (R:=fun w' F v=>Vb w' F v p4) (Gy (fun _ h=>h) (Vb.mono (F:=Fr 0 v3 o3) w0 Fr.lt) (Vb.mono (F:=Fr 0 v3 o3) b3 Fr.lt) i6) rfl rfl fun s9 t9 q4 n0 j6=>?_
    obtain rfl:=j6.bool
    have hZ:=n0.lst [] (fun _ h=>h.elim)
    cases p4
    case false =>
     replace t0:=iF t0
     refine BA [(10,[6])] hZ (by kernel_rfl) ?_
     refine AZ (i:=9) (by kernel_rfl) rfl ?_
     refine Ca 5 (by decide) q4 (xs:=([false]:List Bool)) rfl rfl rfl rfl ⟨vBool,trivial⟩ (by decide) (by decide) rfl fun u9 v9 w9 e1 k6=>?_
     have hZ:=e1.lst [] (fun _ h=>h.elim)
     refine BA [(10,[6])] hZ (by kernel_rfl) ?_
     refine AZ (i:=10) (by kernel_rfl) rfl ?_
     obtain ⟨l6,x3,t0⟩:=bs t0
     obtain ⟨x3,m6,n6⟩:=BY x3
     replace w1:=(((w1.st f0).st i0).st n0).st e1
     refine CQ rfl w1 (k6.rd) rfl rfl (by decide) m6 n6 rfl fun r4 s4 x9 o6 i1 t4=>?_
     rw [← x3] at t4 ⊢
     have hZ:=i1.lst [6] (fun _ h=>by cases h;decide)
     refine BA [] hZ (by kernel_rfl) ?_
     refine AW (fuel:=1) [] [(11,true),(12,true)] (by kernel_rfl) rfl ?_
     refine Co rfl rfl rfl (AR rfl rfl rfl (AK ?_))
     refine AZ (i:=13) (by kernel_rfl) rfl ?_
     replace e0:=((e0.st n0).st e1).st i1
     refine Br e0 rfl rfl rfl (Cj rfl) (allOne rfl) fun p6 o1 e0=>?_
     replace e0:Lc 4 p6 o6 p2 87 [(.slice h2 g0.vars.length i2),(.slice j2 g0.init.length k2),(.slice l2 g0.goal.length m2),(.slice n2 g0.ops.length o2),(.pointer (some ⟨c2,0,none⟩)),(.slice m0.1.1 k0.2.1.length m0.1.2),(.slice r4 l6.length s4),(.slice none 0 0),(.slice none 0 0),(.slice none 0 0)]:=e0
     refine Dm (by kernel_rfl) ?_
     refine Ck (by kernel_rfl) ?_
     obtain rfl:=sm t0
     exact ⟨(r4,s4),_,⟨rfl,rfl,rfl,rfl,rfl,rfl,rfl,trivial⟩,(((((hB.st f0).st i0).st n0).st e1).st i1).st o1,(((s0.st n0).st e1).st i1).st o1,(((((h8.st f0).st i0).st n0).st e1).st i1).st o1,(((((u0.st f0).st i0).st n0).st e1).st i1).st o1,(((w0.st n0).st e1).st i1).st o1,(((((h1.st f0).st i0).st n0).st e1).st i1).st o1,(((((t1.st f0).st i0).st n0).st e1).st i1).st o1,(((a3.st n0).st e1).st i1).st o1,e0,(((((z0.st f0).st i0).st n0).st e1).st i1).st o1,(((((a1.st f0).st i0).st n0).st e1).st i1).st o1,(((((b1.st f0).st i0).st n0).st e1).st i1).st o1,(((((c1.st f0).st i0).st n0).st e1).st i1).st o1,(((((n1.st f0).st i0).st n0).st e1).st i1).st o1,t4.st o1,(((b3.st n0).st e1).st i1).st o1⟩
    replace t0:=iT t0
    refine BA [(10,[6])] hZ (by kernel_rfl) ?_
    refine AZ (i:=9) (by kernel_rfl) rfl ?_
    refine Ca 5 (by decide) q4 (xs:=([true]:List Bool)) rfl rfl rfl rfl ⟨vBool,trivial⟩ (by decide) (by decide) rfl fun y9 z9 aA f1 q6=>?_
    have hZ:=f1.lst [] (fun _ h=>h.elim)
    refine BA [(10,[6])] hZ (by kernel_rfl) ?_
    refine AZ (i:=10) (by kernel_rfl) rfl ?_
    obtain ⟨r6,y3,t0⟩:=bs t0
    obtain ⟨y3,s6,t6⟩:=BY y3
    replace w1:=(((w1.st f0).st i0).st n0).st f1
    refine CQ rfl w1 (q6.rd) rfl rfl (by decide) s6 t6 rfl fun u4 w4 bA u6 j1 x4=>?_
    rw [← y3] at x4 ⊢
    have hZ:=j1.lst [6] (fun _ h=>by cases h;decide)
    refine BA [] hZ (by kernel_rfl) ?_
    refine AW (fuel:=1) [] [(11,true),(12,true)] (by kernel_rfl) rfl ?_
    refine Co rfl rfl rfl (AR rfl rfl rfl (AK ?_))
    refine AZ (i:=13) (by kernel_rfl) rfl ?_
    replace e0:=((e0.st n0).st f1).st j1
    refine Br e0 rfl rfl rfl (Cj rfl) (allOne rfl) fun w6 p1 e0=>?_
    replace e0:Lc 4 w6 u6 p2 87 [(.slice h2 g0.vars.length i2),(.slice j2 g0.init.length k2),(.slice l2 g0.goal.length m2),(.slice n2 g0.ops.length o2),(.pointer (some ⟨c2,0,none⟩)),(.slice m0.1.1 k0.2.1.length m0.1.2),(.slice u4 r6.length w4),(.slice none 0 0),(.slice none 0 0),(.slice none 0 0)]:=e0
    refine Dm (by kernel_rfl) ?_
    refine Ck (by kernel_rfl) ?_
    obtain rfl:=sm t0
    exact ⟨(u4,w4),_,⟨rfl,rfl,rfl,rfl,rfl,rfl,rfl,trivial⟩,(((((hB.st f0).st i0).st n0).st f1).st j1).st p1,(((s0.st n0).st f1).st j1).st p1,(((((h8.st f0).st i0).st n0).st f1).st j1).st p1,(((((u0.st f0).st i0).st n0).st f1).st j1).st p1,(((w0.st n0).st f1).st j1).st p1,(((((h1.st f0).st i0).st n0).st f1).st j1).st p1,(((((t1.st f0).st i0).st n0).st f1).st j1).st p1,(((a3.st n0).st f1).st j1).st p1,e0,(((((z0.st f0).st i0).st n0).st f1).st j1).st p1,(((((a1.st f0).st i0).st n0).st f1).st j1).st p1,(((((b1.st f0).st i0).st n0).st f1).st j1).st p1,(((((c1.st f0).st i0).st n0).st f1).st j1).st p1,(((((n1.st f0).st i0).st n0).st f1).st j1).st p1,x4.st p1,(((b3.st n0).st f1).st j1).st p1⟩
   replace hB:=(hB.st f0).st i0
   replace h8:=(h8.st f0).st i0
   replace u0:=(u0.st f0).st i0
   replace w0:=(w0.st f0).st i0
   replace h1:=(h1.st f0).st i0
   replace s0:=(s0.st f0).st i0
   replace t1:=(t1.st f0).st i0
   replace z0:=(z0.st f0).st i0
   replace a1:=(a1.st f0).st i0
   replace b1:=(b1.st f0).st i0
   replace c1:=(c1.st f0).st i0
   replace e0:=(e0.st f0).st i0
   replace n1:=(n1.st f0).st i0
   rintro cA dA ⟨r0,x6,y4,hB,s0,h8,u0,w0,h1,t1,a3,e0,z0,a1,b1,c1,n1,y0,b3⟩
   refine AP _ y4 ?_
   refine Al (Aj (Am rfl rfl (Am rfl rfl ?_)))
   obtain ⟨a2,y6,h0⟩:=bs h0
   refine Dq (O:=x6) (R:=fun w' F v=>Vb w' F v a2) (DW Fr.lt t1 b3 y6) rfl rfl fun eA fA z6 o0 q1=>?_
   obtain ⟨p3,q3,rfl⟩:=q1.form
   refine AO rfl rfl ?_
   have z3:a2.length≤9223372036854775807:=Nat.le_trans q1.len.2.1 q1.len.2.2
   have gA:inI64 (a2.length:Int):=rngNat z3
   refine Am rfl rfl (o_z ?_)
   obtain ⟨a4,z4,h0⟩:=bs h0
   refine AM (aft a4 (fun (r1:(List Edj)×Reg) (k1:(Option Addr×Nat))=>[(1,(.int .i64 (max 0 (min x1 65536)))),(2,(.pointer (some ⟨d3,0,none⟩))),(6,(.pointer j3)),(8,(.pointer (some ⟨c2,0,none⟩))),(12,(.pointer (some ⟨p2,0,none⟩))),(13,(.int .i64 k0.1))]) (fun r1 k1 w'=>∃ O':Lab,Bm w O0 w' O'∧Lc 2 w' O' d3 26 [(.slice A9 x0.vars.length t2),(.slice u2 x0.init.length v2),(.slice w2 x0.goal.length x2),(.slice y2 x0.ops.length z2)]∧Vb w' (Fr 0 w' O') (.slice A9 x0.vars.length t2) x0.vars∧Vb w' (Fr 0 w' O') (.slice u2 x0.init.length v2) x0.init∧Vb w' (Fr 0 w' O') (.slice w2 x0.goal.length x2) x0.goal∧Vb w' (Fr 0 w' O') (.slice y2 x0.ops.length z2) x0.ops∧Vb w' (Fr 0 w' O') (.pointer j3) j4.1∧Ob 3 w' O' (.pointer (some ⟨c2,0,none⟩)) r1.2∧Lc 4 w' O' p2 87 [(.slice h2 g0.vars.length i2),(.slice j2 g0.init.length k2),(.slice l2 g0.goal.length m2),(.slice n2 g0.ops.length o2),(.pointer (some ⟨c2,0,none⟩)),(.slice k1.1 r1.1.length k1.2),(.slice r0.1 y1.length r0.2),(.slice none 0 0),(.slice none 0 0),(.slice none 0 0)]∧Vb w' (Fr 0 w' O') (.slice h2 g0.vars.length i2) g0.vars∧Vb w' (Fr 0 w' O') (.slice j2 g0.init.length k2) g0.init∧Vb w' (Fr 0 w' O') (.slice l2 g0.goal.length m2) g0.goal∧Vb w' (Fr 0 w' O') (.slice n2 g0.ops.length o2) g0.ops∧Rw 9 w' O' 94 (.slice k1.1 r1.1.length k1.2) r1.1∧Rw 6 w' O' 4 (.slice r0.1 y1.length r0.2) y1)) ?_ ?_
   ·
    refine AN ?_
    replace hB:=hB.st o0
    replace h8:=h8.st o0
    replace u0:=u0.st o0
    replace w0:=w0.st o0
    replace h1:=h1.st o0
    replace s0:=s0.st o0
    replace t1:=t1.st o0
    replace z0:=z0.st o0
    replace a1:=a1.st o0
    replace b1:=b1.st o0
    replace c1:=c1.st o0
    replace e0:=e0.st o0
    replace n1:=n1.st o0
    replace a3:=a3.st o0
    replace y0:=y0.st o0
    refine BI (σ:=(List Edj)×Reg) (X:=(Option Addr×Nat)) (a2.length) z4 rfl z3 (fun (r1:(List Edj)×Reg) (k1:(Option Addr×Nat))=>[(1,(.int .i64 (max 0 (min x1 65536)))),(2,(.pointer (some ⟨d3,0,none⟩))),(6,(.pointer j3)),(8,(.pointer (some ⟨c2,0,none⟩))),(12,(.pointer (some ⟨p2,0,none⟩))),(13,(.int .i64 k0.1)),(90,(.slice p3 a2.length q3))]) _ (fun r1 k1 w'=>∃ O':Lab,Bm w O0 w' O'∧Lc 2 w' O' d3 26 [(.slice A9 x0.vars.length t2),(.slice u2 x0.init.length v2),(.slice w2 x0.goal.length x2),(.slice y2 x0.ops.length z2)]∧Vb w' (Fr 0 w' O') (.slice A9 x0.vars.length t2) x0.vars∧Vb w' (Fr 0 w' O') (.slice u2 x0.init.length v2) x0.init∧Vb w' (Fr 0 w' O') (.slice w2 x0.goal.length x2) x0.goal∧Vb w' (Fr 0 w' O') (.slice y2 x0.ops.length z2) x0.ops∧Vb w' (Fr 0 w' O') (.pointer j3) j4.1∧Ob 3 w' O' (.pointer (some ⟨c2,0,none⟩)) r1.2∧Lc 4 w' O' p2 87 [(.slice h2 g0.vars.length i2),(.slice j2 g0.init.length k2),(.slice l2 g0.goal.length m2),(.slice n2 g0.ops.length o2),(.pointer (some ⟨c2,0,none⟩)),(.slice k1.1 r1.1.length k1.2),(.slice r0.1 y1.length r0.2),(.slice none 0 0),(.slice none 0 0),(.slice none 0 0)]∧Vb w' (Fr 0 w' O') (.slice h2 g0.vars.length i2) g0.vars∧Vb w' (Fr 0 w' O') (.slice j2 g0.init.length k2) g0.init∧Vb w' (Fr 0 w' O') (.slice l2 g0.goal.length m2) g0.goal∧Vb w' (Fr 0 w' O') (.slice n2 g0.ops.length o2) g0.ops∧Rw 9 w' O' 94 (.slice k1.1 r1.1.length k1.2) r1.1∧Rw 6 w' O' 4 (.slice r0.1 y1.length r0.2) y1∧Vb w' (Fr 0 w' O') (.slice p3 a2.length q3) a2) _ (m0.1.1,m0.1.2) ⟨z6,hB,s0,h8,u0,w0,h1,t1,a3,e0,z0,a1,b1,c1,n1,y0,q1⟩ ⟨rfl,rfl,rfl,rfl,rfl,rfl,rfl,rfl,rfl,trivial⟩ (fun _ _=>⟨rfl,rfl⟩) (fun _ _=>⟨rfl,rfl,rfl,rfl,rfl,rfl,trivial⟩) (fun _ _ _ ⟨O',hB,s0,h8,u0,w0,h1,t1,q2,e0,z0,a1,b1,c1,u1,y0,q1⟩=>⟨O',hB,s0,h8,u0,w0,h1,t1,q2,e0,z0,a1,b1,c1,u1,y0⟩) ⟨rfl,rfl,rfl⟩ ⟨rfl,rfl⟩ ?_
    rintro a5 e2 r1 k1 iA f8 r3 ⟨a7,hB,s0,h8,u0,w0,h1,t1,q2,e0,z0,a1,b1,c1,u1,y0,q1⟩ q0 s2 q5
    have rk227:inI64 (a5:Int):=rngK r3 z3
    refine Al (Aj ?_)
    obtain ⟨jA,kA,g8,b5,c5,d5,lA,rfl,b2,b7⟩:=q1.elem' r3
    obtain ⟨b4,c4,rfl⟩:=b2.form
    refine Bo (hA:=b5) (hj:=rfl) (hlt:=c5) rfl rfl rfl ?_
    refine Bn (hl:=rfl) (hc:=d5) rfl rfl ?_
    refine CT 7 a7 rfl fun d4 mA e5 b0 z1=>?_
    refine Br z1 rfl rfl rfl (Cj rfl) (allOne rfl) fun c7 c0 z1=>?_
    replace z1:Lc 7 c7 e5 d4 91 [(.int .i64 e2.op),(.slice b4 e2.state.length c4)]:=z1
    refine o_z ?_
    refine Al (Aj (Am rfl rfl (AF rfl rfl (AE (hc:=Blk.cell (i:=1) (z1.1) rfl) rfl rfl ?_))))
    obtain ⟨r2,d7,q0⟩:=bs q0
    replace q2:=(q2.st b0).st c0
    replace b2:=(b2.st b0).st c0
    refine BP (O:=e5) (EV q2 b2 d7) rfl rfl fun nA e7 f7 a0 g7=>?_
    obtain ⟨oA,pA,qA,c3,rfl,h7,i7,j7⟩:=g7
    obtain ⟨rfl,k7⟩:=h7.int
    obtain rfl:=i7.bool
    obtain ⟨rfl,f5⟩:=j7.err
    refine Am rfl rfl (Bf rfl rfl rfl (Bf rfl rfl rfl (Bf rfl rfl rfl (At rfl rfl (At rfl rfl (At rfl rfl (o_z ?_)))))))
    refine Al (Al ?_)
    obtain ⟨l7,p0,q0⟩:=bs q0
    refine AM (fun l' w'=>∃ (m7:Unit) (O':Lab),subs l' [(1,(.int .i64 (max 0 (min x1 65536)))),(2,(.pointer (some ⟨d3,0,none⟩))),(6,(.pointer j3)),(8,(.pointer (some ⟨c2,0,none⟩))),(12,(.pointer (some ⟨p2,0,none⟩))),(13,(.int .i64 k0.1)),(17,(.pointer (some ⟨d4,0,none⟩))),(18,(.int .i64 r2.1)),(20,(errV r2.2.2.1.n)),(90,(.slice p3 a2.length q3)),(91,(.int .i64 (a2.length:Int))),(92,(.int .i64 (a5:Int))),(114,(.bool l7))]∧Bm w O0 w' O'∧Lc 2 w' O' d3 26 [(.slice A9 x0.vars.length t2),(.slice u2 x0.init.length v2),(.slice w2 x0.goal.length x2),(.slice y2 x0.ops.length z2)]∧Vb w' (Fr 0 w' O') (.slice A9 x0.vars.length t2) x0.vars∧Vb w' (Fr 0 w' O') (.slice u2 x0.init.length v2) x0.init∧Vb w' (Fr 0 w' O') (.slice w2 x0.goal.length x2) x0.goal∧Vb w' (Fr 0 w' O') (.slice y2 x0.ops.length z2) x0.ops∧Vb w' (Fr 0 w' O') (.pointer j3) j4.1∧Ob 3 w' O' (.pointer (some ⟨c2,0,none⟩)) r2.2.2.2∧Lc 4 w' O' p2 87 [(.slice h2 g0.vars.length i2),(.slice j2 g0.init.length k2),(.slice l2 g0.goal.length m2),(.slice n2 g0.ops.length o2),(.pointer (some ⟨c2,0,none⟩)),(.slice k1.1 r1.1.length k1.2),(.slice r0.1 y1.length r0.2),(.slice none 0 0),(.slice none 0 0),(.slice none 0 0)]∧Vb w' (Fr 0 w' O') (.slice h2 g0.vars.length i2) g0.vars∧Vb w' (Fr 0 w' O') (.slice j2 g0.init.length k2) g0.init∧Vb w' (Fr 0 w' O') (.slice l2 g0.goal.length m2) g0.goal∧Vb w' (Fr 0 w' O') (.slice n2 g0.ops.length o2) g0.ops∧Rw 9 w' O' 94 (.slice k1.1 r1.1.length k1.2) r1.1∧Rw 6 w' O' 4 (.slice r0.1 y1.length r0.2) y1∧Lc 7 w' O' d4 91 [(.int .i64 e2.op),(.slice b4 e2.state.length c4)]∧Vb w' (Fr 0 w' O') (.slice b4 e2.state.length c4) e2.state∧Vb w' (Fr 0 w' O') (.slice p3 a2.length q3) a2) ?_ ?_
    ·
     refine Aj (Am rfl rfl (Dx rfl rfl ?_))
     obtain ⟨g5,n7,p0⟩:=bs p0
     refine BO (O:=f7) (A:=All e7) (R:=fun w' F v=>Vb w' F v g5) (Mc (fun _ h=>h) f5 (by decide) n7) rfl rfl fun rA sA tA d0 o7=>?_
     obtain rfl:=o7.bool
     cases g5
     case false =>
      replace p0:=iF p0
      refine Am rfl rfl (Ay rfl rfl (Am rfl rfl (Ay rfl rfl (Am rfl rfl ?_))))
      rcases Bool.eq_false_or_eq_true r2.2.1 with h3|h3
      ·
       try simp only [h3]
       replace p0:=ip p0 h3
       refine Ay rfl rfl (Am rfl rfl (Ay rfl rfl (Am rfl rfl (Ay rfl rfl (Fp rfl rfl rfl (fun e4=>?_) fun e4=>?_)))))
       ·
        replace p0:=ip p0 e4
        refine Ay rfl rfl (BV rfl rfl rfl (Bz rfl rfl rfl (o_z ?_)))
        obtain rfl:=sm p0
        exact ⟨(),_,⟨rfl,rfl,rfl,rfl,rfl,rfl,rfl,rfl,rfl,rfl,rfl,rfl,rfl,trivial⟩,(((hB.st b0).st c0).st a0).st d0,(((s0.st b0).st c0).st a0).st d0,(((h8.st b0).st c0).st a0).st d0,(((u0.st b0).st c0).st a0).st d0,(((w0.st b0).st c0).st a0).st d0,(((h1.st b0).st c0).st a0).st d0,(((t1.st b0).st c0).st a0).st d0,c3.st d0,(((e0.st b0).st c0).st a0).st d0,(((z0.st b0).st c0).st a0).st d0,(((a1.st b0).st c0).st a0).st d0,(((b1.st b0).st c0).st a0).st d0,(((c1.st b0).st c0).st a0).st d0,(((u1.st b0).st c0).st a0).st d0,(((y0.st b0).st c0).st a0).st d0,(z1.st a0).st d0,(b2.st a0).st d0,(((q1.st b0).st c0).st a0).st d0⟩
       replace p0:=im p0 e4
       refine Ay rfl rfl (BV rfl rfl rfl (Bz rfl rfl rfl (o_z ?_)))
       obtain rfl:=sm p0
       exact ⟨(),_,⟨rfl,rfl,rfl,rfl,rfl,rfl,rfl,rfl,rfl,rfl,rfl,rfl,rfl,trivial⟩,(((hB.st b0).st c0).st a0).st d0,(((s0.st b0).st c0).st a0).st d0,(((h8.st b0).st c0).st a0).st d0,(((u0.st b0).st c0).st a0).st d0,(((w0.st b0).st c0).st a0).st d0,(((h1.st b0).st c0).st a0).st d0,(((t1.st b0).st c0).st a0).st d0,c3.st d0,(((e0.st b0).st c0).st a0).st d0,(((z0.st b0).st c0).st a0).st d0,(((a1.st b0).st c0).st a0).st d0,(((b1.st b0).st c0).st a0).st d0,(((c1.st b0).st c0).st a0).st d0,(((u1.st b0).st c0).st a0).st d0,(((y0.st b0).st c0).st a0).st d0,(z1.st a0).st d0,(b2.st a0).st d0,(((q1.st b0).st c0).st a0).st d0⟩
      try simp only [h3]
      replace p0:=im' p0 h3
      refine Az rfl rfl rfl rfl (Az rfl rfl rfl rfl (Az rfl rfl rfl rfl (Ay rfl rfl (Bz rfl rfl rfl (Bz rfl rfl rfl (o_z ?_))))))
      obtain rfl:=sm p0
      exact ⟨(),_,⟨rfl,rfl,rfl,rfl,rfl,rfl,rfl,rfl,rfl,rfl,rfl,rfl,rfl,trivial⟩,(((hB.st b0).st c0).st a0).st d0,(((s0.st b0).st c0).st a0).st d0,(((h8.st b0).st c0).st a0).st d0,(((u0.st b0).st c0).st a0).st d0,(((w0.st b0).st c0).st a0).st d0,(((h1.st b0).st c0).st a0).st d0,(((t1.st b0).st c0).st a0).st d0,c3.st d0,(((e0.st b0).st c0).st a0).st d0,(((z0.st b0).st c0).st a0).st d0,(((a1.st b0).st c0).st a0).st d0,(((b1.st b0).st c0).st a0).st d0,(((c1.st b0).st c0).st a0).st d0,(((u1.st b0).st c0).st a0).st d0,(((y0.st b0).st c0).st a0).st d0,(z1.st a0).st d0,(b2.st a0).st d0,(((q1.st b0).st c0).st a0).st d0⟩
     replace p0:=iT p0
     refine Am rfl rfl (Az rfl rfl rfl rfl (Az rfl rfl rfl rfl (Az rfl rfl rfl rfl (Az rfl rfl rfl rfl (Az rfl rfl rfl rfl (Az rfl rfl rfl rfl (BV rfl rfl rfl (o_z ?_))))))))
     obtain rfl:=sm p0
     exact ⟨(),_,⟨rfl,rfl,rfl,rfl,rfl,rfl,rfl,rfl,rfl,rfl,rfl,rfl,rfl,trivial⟩,(((hB.st b0).st c0).st a0).st d0,(((s0.st b0).st c0).st a0).st d0,(((h8.st b0).st c0).st a0).st d0,(((u0.st b0).st c0).st a0).st d0,(((w0.st b0).st c0).st a0).st d0,(((h1.st b0).st c0).st a0).st d0,(((t1.st b0).st c0).st a0).st d0,c3.st d0,(((e0.st b0).st c0).st a0).st d0,(((z0.st b0).st c0).st a0).st d0,(((a1.st b0).st c0).st a0).st d0,(((b1.st b0).st c0).st a0).st d0,(((c1.st b0).st c0).st a0).st d0,(((u1.st b0).st c0).st a0).st d0,(((y0.st b0).st c0).st a0).st d0,(z1.st a0).st d0,(b2.st a0).st d0,(((q1.st b0).st c0).st a0).st d0⟩
    replace hB:=((hB.st b0).st c0).st a0
    replace h8:=((h8.st b0).st c0).st a0
    replace u0:=((u0.st b0).st c0).st a0
    replace w0:=((w0.st b0).st c0).st a0
    replace h1:=((h1.st b0).st c0).st a0
    replace s0:=((s0.st b0).st c0).st a0
    replace t1:=((t1.st b0).st c0).st a0
    replace z0:=((z0.st b0).st c0).st a0
    replace a1:=((a1.st b0).st c0).st a0
    replace b1:=((b1.st b0).st c0).st a0
    replace c1:=((c1.st b0).st c0).st a0
    replace e0:=((e0.st b0).st c0).st a0
    replace y0:=((y0.st b0).st c0).st a0
    replace q1:=((q1.st b0).st c0).st a0
    replace u1:=((u1.st b0).st c0).st a0
    replace b2:=b2.st a0
    replace z1:=z1.st a0
    rintro uA vA ⟨m7,h5,i5,hB,s0,h8,u0,w0,h1,t1,c3,e0,z0,a1,b1,c1,u1,y0,z1,b2,q1⟩
    refine AP _ i5 ?_
    refine CO rfl (fun f4=>?_) (fun f4=>?_)
    ·
     replace q0:=ip q0 f4
     refine Al (Aj (Dx rfl rfl ?_))
     refine At rfl rfl (At rfl rfl (o_z ?_))
     refine AJ ?_
     obtain rfl:=sm q0
     obtain rfl:=s2 _ rfl
     obtain rfl:=sm (Cy h0)
     obtain rfl:=d2 _ rfl
     obtain rfl:=sm (Cy hm)
     obtain ⟨O',hS',hz,hl⟩:=hE.leave (fun _=>0) rfl hB
     exact ret2 rfl (AA rfl) (AA rfl) ⟨O',hS',_,_,rfl,rfl,(vErr (by decide))⟩
    replace q0:=im' q0 f4
    refine AH (Al (Al (Aj (Am rfl rfl (Di rfl rfl (fun g4=>?_) fun g4=>?_)))))
    ·
     replace q0:=ip q0 g4
     refine o_z ?_
     refine Ah rfl (Al (Aj (Am rfl rfl (At rfl rfl (At rfl rfl (o_z ?_))))))
     refine AJ ?_
     obtain rfl:=sm q0
     obtain rfl:=s2 _ rfl
     obtain rfl:=sm (Cy h0)
     obtain rfl:=d2 _ rfl
     obtain rfl:=sm (Cy hm)
     obtain ⟨O',hS',hz,hl⟩:=hE.leave (fun _=>0) rfl hB
     exact ret2 rfl (AA rfl) (AA rfl) ⟨O',hS',_,_,rfl,rfl,(vErr f5)⟩
    replace q0:=im q0 g4
    refine o_z ?_
    refine Ae rfl (AH (BD [(11,[9])] h5 ?_))
    refine AW (fuel:=6) [] [(1,true),(2,true),(3,true),(4,true),(5,true),(6,true),(7,true),(8,true),(9,true)] (by kernel_rfl) rfl ?_
    refine AG rfl rfl rfl (Co rfl rfl rfl (AR rfl rfl rfl (AS (hc:=fun w' ⟨O',hq⟩=>Blk.cell (i:=5) ((e0.st hq (by decide)).1) rfl) rfl rfl rfl ?_)))
    refine AG rfl rfl rfl (AR rfl rfl rfl (AS (hc:=fun w' ⟨O',hq⟩=>Blk.cell (i:=0) ((z1.st hq (by decide)).1) rfl) rfl rfl rfl ?_))
    refine AG rfl rfl rfl (Gs rfl rfl rfl rfl ?_)
    refine AK ?_
    refine AW (fuel:=5) [9] [(0,true)] (by kernel_rfl) rfl ?_
    refine AG rfl rfl rfl (AK ?_)
    refine AZ (i:=10) (by kernel_rfl) rfl ?_
    refine Ca 8 (by decide) h5 (xs:=([(⟨k0.1,e2.op,r2.1⟩:Edj)]:List Edj)) rfl rfl rfl rfl ⟨(Vb.ofAgg (cs:=[(.int .i64 k0.1),(.int .i64 e2.op),(.int .i64 r2.1)]) (x:=(⟨k0.1,e2.op,r2.1⟩:Edj)) rfl ⟨rfl,m3,b7,k7⟩),trivial⟩ (by decide) (by decide) rfl fun wA xA yA g1 p7=>?_
    have hZ:=g1.lst [] (fun _ h=>h.elim)
    refine BA [(11,[9])] hZ (by kernel_rfl) ?_
    refine AZ (i:=11) (by kernel_rfl) rfl ?_
    obtain ⟨q7,h4,q0⟩:=bs q0
    obtain ⟨h4,r7,s7⟩:=BY h4
    replace u1:=u1.st g1
    refine CQ rfl u1 (p7.rd) rfl rfl (by decide) r7 s7 rfl fun j5 k5 zA t7 m1 l5=>?_
    rw [← h4] at l5 ⊢
    have hZ:=m1.lst [9] (fun _ h=>by cases h;decide)
    refine BA [] hZ (by kernel_rfl) ?_
    refine AW (fuel:=1) [] [(12,true),(13,true)] (by kernel_rfl) rfl ?_
    refine Co rfl rfl rfl (AR rfl rfl rfl (AK ?_))
    refine AZ (i:=14) (by kernel_rfl) rfl ?_
    replace e0:=(e0.st g1).st m1
    refine Br e0 rfl rfl rfl (Cj rfl) (allOne rfl) fun u7 s1 e0=>?_
    replace e0:Lc 4 u7 t7 p2 87 [(.slice h2 g0.vars.length i2),(.slice j2 g0.init.length k2),(.slice l2 g0.goal.length m2),(.slice n2 g0.ops.length o2),(.pointer (some ⟨c2,0,none⟩)),(.slice j5 q7.length k5),(.slice r0.1 y1.length r0.2),(.slice none 0 0),(.slice none 0 0),(.slice none 0 0)]:=e0
    refine Dm (by kernel_rfl) ?_
    refine Ck (by kernel_rfl) ?_
    obtain rfl:=sm q0
    exact show Exists _ from ⟨_,(j5,k5),rfl,⟨rfl,rfl,rfl,rfl,rfl,rfl,rfl,rfl,rfl,trivial⟩,_,((hB.st g1).st m1).st s1,((s0.st g1).st m1).st s1,((h8.st g1).st m1).st s1,((u0.st g1).st m1).st s1,((w0.st g1).st m1).st s1,((h1.st g1).st m1).st s1,((t1.st g1).st m1).st s1,((c3.st g1).st m1).st s1,e0,((z0.st g1).st m1).st s1,((a1.st g1).st m1).st s1,((b1.st g1).st m1).st s1,((c1.st g1).st m1).st s1,l5.st s1,((y0.st g1).st m1).st s1,((q1.st g1).st m1).st s1⟩
   replace hB:=hB.st o0
   replace h8:=h8.st o0
   replace u0:=u0.st o0
   replace w0:=w0.st o0
   replace h1:=h1.st o0
   replace s0:=s0.st o0
   replace t1:=t1.st o0
   replace z0:=z0.st o0
   replace a1:=a1.st o0
   replace b1:=b1.st o0
   replace c1:=c1.st o0
   replace e0:=e0.st o0
   replace y0:=y0.st o0
   rintro aB bB ⟨cB,m5,rfl,n5,dB,hB,s0,h8,u0,w0,h1,t1,q2,e0,z0,a1,b1,c1,u1,y0⟩
   replace h0:=Ba h0
   refine AP _ n5 ?_
   refine Aj (Am rfl rfl ?_)
   obtain ⟨eB,o5,h0⟩:=bs h0
   have w7:=(BC o5)
   refine Fu (he:=o5) rfl rfl rfl ?_
   refine At rfl rfl (o_z ?_)
   obtain rfl:=sm h0
   exact show Exists _ from ⟨_,((m5.1,m5.2),(r0.1,r0.2)),rfl,⟨rfl,rfl,rfl,rfl,rfl,rfl,trivial⟩,_,hB,s0,h8,u0,w0,h1,t1,q2,e0,z0,a1,b1,c1,u1,y0,w7⟩
  replace h0:=im h0 t3
  refine o_z ?_
  refine Ae rfl (DD ?_)
  obtain rfl:=sm h0
  exact show Exists _ from ⟨_,((m0.1.1,m0.1.2),(m0.2.1,m0.2.2)),n3 _ rfl,⟨rfl,trivial⟩,_,hB.st f0,e0.st f0,z0.st f0,a1.st f0,b1.st f0,c1.st f0,m4,n1.st f0,w1.st f0,m3⟩
 replace hB:=(((((hB.st i3).st e3).st f3).st k3).st l3).st d1
 replace z0:=z0.st d1
 replace a1:=a1.st d1
 replace b1:=b1.st d1
 replace c1:=c1.st d1
 rintro fB gB ⟨i4,iB,rfl,p5,jB,hB,e0,z0,a1,b1,c1,g3,n1,w1,m3⟩
 replace hm:=Ba hm
 refine AP _ p5 ?_
 refine Al (Aj (Am rfl rfl ?_))
 obtain ⟨kB,f2,n1⟩:=n1.freeze
 replace w1:=w1.st f2
 obtain ⟨lB,g2,w1⟩:=w1.freeze
 replace z0:=(z0.st f2).st g2
 replace a1:=(a1.st f2).st g2
 replace b1:=(b1.st f2).st g2
 replace c1:=(c1.st f2).st g2
 replace e0:=(e0.st f2).st g2
 replace n1:=n1.st g2
 replace g3:=(g3.st f2).st g2
 obtain ⟨x7,y7,i8,j8,z7⟩:=Spa.shut (x:=(⟨(⟨g0.vars,g0.init,g0.goal,g0.ops⟩:Tsk),i4.2.2.2,i4.2.1,i4.2.2.1,([]:List Int),([]:List Int),([]:List Int)⟩:Spa)) (l0:=4) (l1:=3) (by decide) e0 z0 a1 b1 c1 g3 n1 w1 (Vb.nil _ _) (Vb.nil _ _) (Vb.nil _ _)
 obtain ⟨mB,a8,hm⟩:=bs hm
 refine BP (O:=x7) (GL z7 a8) rfl rfl fun nB oB pB b8 c8=>?_
 refine o_z ?_
 refine Al (Aj (Am rfl rfl (At rfl rfl (At rfl rfl (o_z ?_)))))
 refine AJ ?_
 obtain rfl:=sm hm
 replace hB:=(((hB.st f2).st g2).st y7).st b8
 obtain ⟨O',hS',hz,hl⟩:=hE.leave (fun q=>if q=4 then j0 else 0) rfl hB
 exact ret2 rfl (AA rfl) (AA rfl) ⟨O',hS',_,_,rfl,(Ob.leave c8 hz (hl 4 (by decide) (by decide)) hj0),(vErr (show inI64 0 from by decide))⟩
end
section
open Go Go.RowKit
attribute [local irreducible] ewp owp hwp hwq hws Ev Evg Fn retPost loud loudS Res1
attribute [local irreducible] hwx loudX
noncomputable def FT (x0:Int) (x1:Int) (x2:Int):Option Int :=
  some (max x1 (min x0 x2))
noncomputable def Em (x0:List (List Int)) (x1:List Int):Option Int :=
  bnd (rng (ρ:=Int) (fun (k13:Nat) (a14:List Int) (s11:Unit)=>bnd (EA a14 x1) fun q35=>if q35=true then some (.ret (k13:Int)) else some (.next ())) x0 0 ()) fun res9=>fin res9 fun (s46:Unit)=>some (-1)
noncomputable def FL (x0:Tsk) (x1:Int):Option ((List (List Int))×Bool) :=
  bnd (FT x1 0 65536) fun q25=>bnd (appI 8 ([]:List Int) x0.init) fun u39=>bnd (lop (ρ:=(List (List Int))×Bool) (fun (s60:(List (List Int))×Int)=>bnd (if s60.2 < (s60.1.length:Int) then (if (s60.1.length:Int)≤q25 then (some true) else (some false)) else (some false):Option Bool) fun y79=>if y79=true then (bnd (rng (ρ:=Ctl ((List (List Int))×Int) ((List (List Int))×Bool)) (fun (k100:Nat) (a101:Opr) (s98:(List (List Int)))=>bnd (atI s98 s60.2) fun a115=>bnd (Cx x0 a115 (k100:Int)) fun q130=>bnd (if q130.2=true then (bnd (Em s98 q130.1) fun q148=>if q148 < 0 then (some true) else (some false)) else (some false):Option Bool) fun y143=>if y143=true then (bnd (appI 24 s98 [q130.1]) fun u162=>some (.next u162)) else (some (.next s98))) x0.ops 0 s60.1) fun res96=>fin res96 fun (s178:(List (List Int)))=>bnd (chkI (s60.2 + 1)) fun n180=>some (.next (s178,n180))) else (some (.brk (s60.1,s60.2)))) ([u39],0)) fun res58=>fin res58 fun (s187:(List (List Int))×Int)=>bnd (if (s187.1.length:Int)≤q25 then (some true) else (some false):Option Bool) fun y189=>some (s187.1,y189)
end
section
section
variable {α σ ρ β : Type}
theorem Pv {f:σ→Option (Ctl σ ρ)} (I:σ→Prop) (B:σ→Prop) (R:ρ→Prop) (μ:σ→Nat) (h:∀ s,I s→(∃ s',f s=some (.next s')∧I s'∧μ s' < μ s)∨(∃ s',f s=some (.brk s')∧B s')∨∃ r,f s=some (.ret r)∧R r) :
    ∀ s,I s→(∃ s',lop f s=some (.done s')∧B s')∨∃ r,lop f s=some (.ret r)∧R r:=by
  have key:∀ (n:Nat) s,I s→μ s < n→(∃ s',lop f s=some (.done s')∧B s')∨∃ r,lop f s=some (.ret r)∧R r:=by
    intro n
    induction n with
    | zero=>intro s _ hn;omega
    | succ n ih =>
      intro s hI hn
      rw [Gv]
      rcases h s hI with ⟨s',h1,h2,h3⟩|⟨s',h1,h2⟩|⟨r,h1,h2⟩
      · rw [h1];exact ih s' h2 (by omega)
      · rw [h1];exact .inl ⟨s',rfl,h2⟩
      · rw [h1];exact .inr ⟨r,rfl,h2⟩
  exact fun s hI=>key (μ s + 1) s hI (by omega)
theorem LA {f:σ→Option (Ctl σ ρ)} {s₀:σ} {k:Fin σ ρ→Option β} {P:β→Prop} (I:σ→Prop) (B:σ→Prop) (R:ρ→Prop) (μ:σ→Nat) (h0:I s₀)
    (h:∀ s,I s→(∃ s',f s=some (.next s')∧I s'∧μ s' < μ s)∨(∃ s',f s=some (.brk s')∧B s')∨∃ r,f s=some (.ret r)∧R r)
    (hb:∀ s,B s→∃ r,k (.done s)=some r∧P r) (hr:∀ q,R q→∃ r,k (.ret q)=some r∧P r):∃ r,bnd (lop f s₀) k=some r∧P r:=by
  rcases Pv I B R μ h s₀ h0 with ⟨s,h1,h2⟩|⟨q,h1,h2⟩
  · rw [h1,An];exact hb s h2
  · rw [h1,An];exact hr q h2
theorem Ho {f:Nat→α→σ→Option (Ctl σ ρ)} {xs:List α} {s₀:σ} {k:Fin σ ρ→Option β} {P:β→Prop} (I:Nat→σ→Prop) (R:ρ→Prop) (h0:I 0 s₀)
    (h:∀ i x s,xs[i]?=some x→I i s→(∃ s',f i x s=some (.next s')∧I (i + 1) s')∨∃ q,f i x s=some (.ret q)∧R q)
    (hb:∀ s,I xs.length s→∃ r,k (.done s)=some r∧P r) (hr:∀ q,R q→∃ r,k (.ret q)=some r∧P r):∃ r,bnd (rng f xs 0 s₀) k=some r∧P r:=by
  have key:∀ (ys:List α) (j:Nat) (s:σ),(∀ i,ys[i]?=xs[j + i]?)→j + ys.length=xs.length→I j s→∃ r,bnd (rng f ys j s) k=some r∧P r:=by
    intro ys
    induction ys with
    | nil=>intro j s _ hl hI;exact hb s (by simp at hl;rw [← hl];exact hI)
    | cons y ys ih =>
      intro j s hg hl hI
      have hy:xs[j]?=some y:=by have:=hg 0;simpa using this.symm
      simp only [rng]
      rcases h j y s hy hI with ⟨s',h1,h2⟩|⟨q,h1,h2⟩
      · rw [h1]
        exact ih (j + 1) s' (fun i=>by have:=hg (i + 1);rw [show j + 1 + i=j + (i + 1) from by omega,← this];simp) (by simp at hl;omega) h2
      · rw [h1,An];exact hr q h2
  exact key xs 0 s₀ (fun i=>by rw [Nat.zero_add]) (by omega) h0
theorem Mr {f:Nat→α→σ→Option (Ctl σ ρ)} {xs:List α} {s₀:σ} {k:Fin σ ρ→Option β} {r:Option β} (I:Nat→σ→Prop) (h0:I 0 s₀)
    (h:∀ i x s,xs[i]?=some x→I i s→∃ s',f i x s=some (.next s')∧I (i + 1) s') (hb:∀ s,I xs.length s→k (.done s)=r):bnd (rng f xs 0 s₀) k=r:=by
  obtain ⟨s,h1,h2⟩:=DA I h0 h
  rw [h1,An]
  exact hb s h2
end
end
section
open Go Go.RowKit
inductive Walk (t:Tsk):List Int→Int→Prop
  | goal {s:List Int}:holdsB t.goal s=true→Walk t s 0
  | step {s:List Int} {k:Nat} {o:Opr} {c:Int}:t.ops[k]?=some o→holdsB o.pre s=true→Walk t (succ o s) c→Walk t s (c + o.cost)
def Inf:Int:=1125899906842624
theorem Nu {σ ρ:Type} {f:σ→Option (Ctl σ ρ)} (I:σ→Prop) (B:σ→Prop) (μ:σ→Nat) (h:∀ s,I s→(∃ s',f s=some (.next s')∧I s'∧μ s' < μ s)∨(∃ s',f s=some (.brk s')∧B s')):∀ s,I s→∃ s',lop f s=some (.done s')∧B s':=by
  have key:∀ (n:Nat) s,I s→μ s < n→∃ s',itr f n s=some (.done s')∧B s':=by
    intro n
    induction n with
    | zero=>intro s _ h0;omega
    | succ n ih =>
      intro s hs hn
      rcases h s hs with ⟨s',h1,h2,h3⟩|⟨s',h1,h2⟩
      · obtain ⟨r,hr,hb⟩:=ih s' h2 (by omega)
        exact ⟨r,by simp only [itr,h1];exact hr,hb⟩
      · exact ⟨s',by simp only [itr,h1],h2⟩
  intro s hs
  obtain ⟨r,hr,hb⟩:=key (μ s + 1) s hs (by omega)
  exact ⟨r,Gu.2 ⟨_,hr⟩,hb⟩
def sumN:List Int→Nat
  | []=>0
  | x :: l=>x.toNat + sumN l
theorem LB:∀ (l:List Int) (i:Nat) (x y:Int),l[i]?=some x→0≤y→y < x→sumN (l.set i y) < sumN l
  | [],i,x,y,h,_,_=>by simp at h
  | a :: l,0,x,y,h,h1,h2=>by
    obtain rfl:a=x:=by simpa using h
    show y.toNat + sumN l < a.toNat + sumN l
    omega
  | a :: l,i + 1,x,y,h,h1,h2=>by
    have:=LB l i x y (by simpa using h) h1 h2
    show a.toNat + sumN (l.set i y) < a.toNat + sumN l
    omega
def DistI (t:Tsk) (d:List Int):Prop:=d.length=(statesL t.vars).length∧∀ (i:Nat) s,(statesL t.vars)[i]?=some s→∃ c,d[i]?=some c∧0≤c∧c≤Inf∧(c < Inf→Walk t s c)∧(holdsB t.goal s=true→c=0)
def DistP (t:Tsk) (d:List Int):Prop:=DistI t d∧∀ (i:Nat) s c C,(statesL t.vars)[i]?=some s→d[i]?=some c→Walk t s C→c≤C
theorem GB {α:Type} {l:List α} {k:Nat} {x y:α} (h:l[k]?=some x):y∈l.take (k + 1)↔y∈l.take k∨y=x:=by
  rw [List.take_add_one,h,List.mem_append];simp
theorem Pw      {t:Tsk} (h:Mid t):∃ d,DI t=some d∧DistP t d:=by
  have hlen:(statesL t.vars).length≤600:=by have:=h.states t.vars.length;rwa [List.take_length] at this
  unfold DI
  rw [Ix h,An,Gt (by omega) (by omega),An]
  obtain ⟨d0,h1,h2,h3⟩:=DA (ρ:=List Int) (f:=fun (k53:Nat) (a54:List Int) (s51:(List Int))=>bnd (s51[k53]?) fun _=>bnd (DG t.goal a54) fun q91=>if q91=true then bnd ((s51.set k53 1125899906842624)[k53]?) fun _=>some (.next ((s51.set k53 1125899906842624).set k53 0)) else some (.next (s51.set k53 1125899906842624))) (xs:=statesL t.vars) (s₀:=List.replicate (statesL t.vars).length 0)
    (fun n d=>d.length=(statesL t.vars).length∧∀ (i:Nat) s,i < n→(statesL t.vars)[i]?=some s→d[i]?=some (if holdsB t.goal s=true then 0 else Inf)) ⟨by simp,fun i s hi=>by omega⟩ (fun n s d hn hI=>by
      obtain ⟨i1,i2⟩:=hI
      have hlt:=AC hn
      obtain ⟨u,hu⟩:=AD (l:=d) (k:=n) (by omega)
      rw [hu,An,HF,An]
      by_cases hg:holdsB t.goal s=true
      · rw [if_pos hg,List.getElem?_set_self (by omega),An]
        refine ⟨_,rfl,by simpa using i1,fun i s' hi hs'=>?_⟩
        by_cases e:i=n
        · subst e
          obtain rfl:s'=s:=by rw [hn] at hs';exact (Option.some.inj hs').symm
          rw [List.getElem?_set_self (by simp;omega),if_pos hg]
        · rw [List.getElem?_set_ne (by omega),List.getElem?_set_ne (by omega)]
          exact i2 i s' (by omega) hs'
      · rw [if_neg hg]
        refine ⟨_,rfl,by simpa using i1,fun i s' hi hs'=>?_⟩
        by_cases e:i=n
        · subst e
          obtain rfl:s'=s:=by rw [hn] at hs';exact (Option.some.inj hs').symm
          rw [List.getElem?_set_self (by omega),if_neg hg];rfl
        · rw [List.getElem?_set_ne (by omega)]
          exact i2 i s' (by omega) hs')
  obtain ⟨es,he,hes⟩:=Om h
  rw [h1,An,Cr,he,An]
  have hd0:DistI t d0:=⟨h2,fun i s hi=>by
    refine ⟨_,h3 i s (AC hi) hi,?_⟩
    by_cases hg:holdsB t.goal s=true
    · rw [if_pos hg];exact ⟨by omega,by unfold Inf;omega,fun _=>.goal hg,fun _=>rfl⟩
    · rw [if_neg hg];exact ⟨by unfold Inf;omega,by omega,fun hh=>absurd hh (by omega),fun hh=>absurd hh hg⟩⟩
  -- one pass over the edges
  have pass : ∀ d,DistI t d→∃ (d':List Int) (b:Bool),rng (ρ:=Ctl ((List Int)×Bool) (List Int)) (fun (_:Nat) (a152:Edg) (s149:(List Int)×Bool)=>bnd (atI t.ops a152.op) fun a183=>bnd (bnd (atI s149.1 a152.dst) fun a208=>if a208 < 1125899906842624 then (bnd (atI s149.1 a152.dst) fun a221=>bnd (chkI (a221 + a183.cost)) fun n233=>bnd (atI s149.1 a152.src) fun a236=>if n233 < a236 then (some true) else (some false)) else (some false):Option Bool) fun y204=>if y204=true then (bnd (atI s149.1 a152.dst) fun a254=>bnd (chkI (a254 + a183.cost)) fun n266=>bnd (atI s149.1 a152.src) fun _=>some (.next ((s149.1.set (a152.src).toNat n266),true))) else (some (.next (s149.1,s149.2)))) es 0 (d,false)=some (.done (d',b))∧DistI t d'∧(b=true→sumN d' < sumN d)∧(b=false→d'=d∧∀ e∈es,∀ (i k j:Nat) o x y,e=⟨i,k,j⟩→t.ops[k]?=some o→d[i]?=some x→d[j]?=some y→y < Inf→x≤y + o.cost):=by
    intro d hd
    obtain ⟨⟨d',b⟩,g1,g2,g3,g4⟩:=DA (ρ:=Ctl ((List Int)×Bool) (List Int)) (f:=fun (_:Nat) (a152:Edg) (s149:(List Int)×Bool)=>bnd (atI t.ops a152.op) fun a183=>bnd (bnd (atI s149.1 a152.dst) fun a208=>if a208 < 1125899906842624 then (bnd (atI s149.1 a152.dst) fun a221=>bnd (chkI (a221 + a183.cost)) fun n233=>bnd (atI s149.1 a152.src) fun a236=>if n233 < a236 then (some true) else (some false)) else (some false):Option Bool) fun y204=>if y204=true then (bnd (atI s149.1 a152.dst) fun a254=>bnd (chkI (a254 + a183.cost)) fun n266=>bnd (atI s149.1 a152.src) fun _=>some (.next ((s149.1.set (a152.src).toNat n266),true))) else (some (.next (s149.1,s149.2)))) (xs:=es) (s₀:=(d,false))
      (fun m r=>DistI t r.1∧(r.2=true→sumN r.1 < sumN d)∧(r.2=false→r.1=d∧∀ e∈es.take m,∀ (i k j:Nat) o x y,e=⟨i,k,j⟩→t.ops[k]?=some o→d[i]?=some x→d[j]?=some y→y < Inf→x≤y + o.cost)) ⟨hd,fun hh=>by simp at hh,fun _=>⟨rfl,fun e he=>by simp at he⟩⟩ (fun m e r hm hI=>by
        obtain ⟨i1,i2,i3⟩:=hI
        obtain ⟨r1,r2⟩:=r
        simp only at i1 i2 i3
        obtain ⟨i,k,j,s,o,rfl,a1,a2,a3,a4⟩:=(hes e).1 (List.mem_of_getElem? hm)
        obtain ⟨x,x1,x2,x3,x4,x5⟩:=i1.2 i s a1
        obtain ⟨y,y1,y2,y3,y4,y5⟩:=i1.2 j _ a4
        have hco:=h.ok.2.2.2.2.2 k o a2
        have hc1:=hco.1
        have hc2:=hco.2.1
        simp only
        rw [BR,a2,An,BR,y1,An,BR,x1]
        have keep:∀ (hx:y < Inf→x≤y + o.cost),DistI t r1∧(r2=true→sumN r1 < sumN d)∧(r2=false→r1=d∧∀ e∈es.take (m + 1),∀ (i k j:Nat) o x y,e=⟨i,k,j⟩→t.ops[k]?=some o→d[i]?=some x→d[j]?=some y→y < Inf→x≤y + o.cost):=fun hx=>by
          refine ⟨i1,i2,fun hf=>⟨(i3 hf).1,fun e' he'=>?_⟩⟩
          obtain ⟨e1,e2⟩:=i3 hf
          rcases (GB hm).1 he' with hh|rfl
          · exact e2 e' hh
          · intro i' k' j' o' x' y' hE ho' hx' hy' hlt
            injection hE with h1 h2 h3
            obtain rfl:i=i':=by omega
            obtain rfl:k=k':=by omega
            obtain rfl:j=j':=by omega
            obtain rfl:o=o':=by rw [a2] at ho';exact Option.some.inj ho'
            rw [← e1,x1] at hx'
            rw [← e1,y1] at hy'
            obtain rfl:=Option.some.inj hx'
            obtain rfl:=Option.some.inj hy'
            exact hx hlt
        by_cases hy:y < 1125899906842624
        · rw [if_pos hy,An,Cd (by unfold inI64;unfold Inf at *;omega),An,An]
          by_cases hx:y + o.cost < x
          · rw [if_pos hx,An,DN,An,Cd (by unfold inI64;unfold Inf at *;omega),An,An]
            refine ⟨_,rfl,⟨by simpa using i1.1,fun i' s' hs'=>?_⟩,fun _=>?_,fun hh=>by simp at hh⟩
            · show ∃ c,(r1.set ((i:Int)).toNat (y + o.cost))[i']?=some c∧_
              rw [show ((i:Int)).toNat=i from by omega]
              by_cases e:i=i'
              · subst e
                obtain rfl:s=s':=by rw [a1] at hs';exact Option.some.inj hs'
                refine ⟨_,by rw [List.getElem?_set_self (AC x1)],by omega,by omega,fun _=>.step a2 a3 (y4 hy),fun hg=>?_⟩
                have:=x5 hg;omega
              · rw [List.getElem?_set_ne e];exact i1.2 i' s' hs'
            · show sumN (r1.set ((i:Int)).toNat (y + o.cost)) < _
              rw [show ((i:Int)).toNat=i from by omega]
              have hlt:=LB r1 i x (y + o.cost) x1 (by omega) hx
              cases hr:r2 with
              | true=>have:=i2 hr;omega
              | false=>rw [(i3 hr).1] at hlt;rwa [(i3 hr).1]
          · rw [if_neg hx,An,Dc]
            exact ⟨_,rfl,keep fun _=>by omega⟩
        · rw [if_neg hy,An,Dc]
          exact ⟨_,rfl,keep fun hh=>absurd hh hy⟩)
    refine ⟨d',b,g1,g2,g3,fun hb=>?_⟩
    obtain ⟨e1,e2⟩:=g4 hb
    rw [List.take_length] at e2
    exact ⟨e1,e2⟩
  obtain ⟨⟨d,b⟩,l1,l2,l3⟩:=Nu (ρ:=List Int) (f:=fun (s127:(List Int)×Bool)=>if s127.2=true then (bnd (rng (ρ:=Ctl ((List Int)×Bool) (List Int)) (fun (_:Nat) (a152:Edg) (s149:(List Int)×Bool)=>bnd (atI t.ops a152.op) fun a183=>bnd (bnd (atI s149.1 a152.dst) fun a208=>if a208 < 1125899906842624 then (bnd (atI s149.1 a152.dst) fun a221=>bnd (chkI (a221 + a183.cost)) fun n233=>bnd (atI s149.1 a152.src) fun a236=>if n233 < a236 then (some true) else (some false)) else (some false):Option Bool) fun y204=>if y204=true then (bnd (atI s149.1 a152.dst) fun a254=>bnd (chkI (a254 + a183.cost)) fun n266=>bnd (atI s149.1 a152.src) fun _=>some (.next ((s149.1.set (a152.src).toNat n266),true))) else (some (.next (s149.1,s149.2)))) es 0 (s127.1,false)) fun res147=>fin res147 fun (s287:(List Int)×Bool)=>some (.next (s287.1,s287.2))) else (some (.brk (s127.1,s127.2))))
    (fun r=>DistI t r.1∧(r.2=false→∀ e∈es,∀ (i k j:Nat) o x y,e=⟨i,k,j⟩→t.ops[k]?=some o→r.1[i]?=some x→r.1[j]?=some y→y < Inf→x≤y + o.cost)) (fun r=>DistI t r.1∧∀ e∈es,∀ (i k j:Nat) o x y,e=⟨i,k,j⟩→t.ops[k]?=some o→r.1[i]?=some x→r.1[j]?=some y→y < Inf→x≤y + o.cost) (fun r=>2 * sumN r.1 + if r.2=true then 1 else 0) (fun r hr=>by
      obtain ⟨r1,r2⟩:=r
      obtain ⟨i1,i2⟩:=hr
      cases r2 with
      | true =>
        obtain ⟨d',b,p1,p2,p3,p4⟩:=pass r1 i1
        refine .inl ⟨(d',b),?_,⟨p2,fun hb=>?_⟩,?_⟩
        · simp only [if_true]
          rw [p1,An,Cr]
        · obtain ⟨e1,e2⟩:=p4 hb
          show ∀ e∈es,_
          intro e he i k j o x y hE ho hx hy
          simp only at hx hy
          rw [e1] at hx hy
          exact e2 e he i k j o x y hE ho hx hy
        · cases b with
          | true=>have:=p3 rfl;simp;omega
          | false=>rw [(p4 rfl).1];simp
      | false=>exact .inr ⟨(r1,false),by simp,i1,i2 rfl⟩) (d0,true) ⟨hd0,fun hh=>by simp at hh⟩
  refine ⟨d,by rw [l1,An,Cr],l2,fun i s c C hi hc hw=>?_⟩
  induction hw generalizing i c with
  | goal hg =>
    obtain ⟨c',q1,_,_,_,q5⟩:=l2.2 i _ hi
    rw [hc] at q1
    obtain rfl:=Option.some.inj q1
    have:=q5 hg;omega
  | @step s k o C' ho hp hw ih =>
    have hs:StateOk t.vars s:=CG.1 (List.mem_of_getElem? hi)
    obtain ⟨j,_,hj⟩:=Kn h (Hk h.ok hs ho)
    obtain ⟨y,y1,y2,y3,y4,y5⟩:=l2.2 j _ hj
    have h5:=ih j y hj y1
    obtain ⟨x,x1,x2,x3,x4,x5⟩:=l2.2 i s hi
    rw [x1] at hc
    obtain rfl:=Option.some.inj hc
    have hco:=(h.ok.2.2.2.2.2 k o ho).1
    by_cases hy:y < Inf
    · have:=l3 ⟨i,k,j⟩ ((hes _).2 ⟨i,k,j,s,o,rfl,hi,ho,hp,hj⟩) i k j o x y rfl ho x1 y1 hy
      omega
    · omega
end
section
open Go Go.RowKit
theorem ID {α:Type} {l:List α} {m i:Nat} {x:α} (h:(l.take m)[i]?=some x):l[i]?=some x:=by
  by_cases hi:i < m
  · rwa [List.getElem?_take_of_lt hi] at h
  · rw [List.getElem?_take_eq_none (by omega)] at h;cases h
def bfr (x y:QEn):Prop:=x.key < y.key∨(x.key=y.key∧(x.tie < y.tie∨(x.tie=y.tie∧x.number < y.number)))
instance (x y:QEn):Decidable (bfr x y):=by unfold bfr;infer_instance
def nb (x y:QEn):Prop:=¬ bfr x y
theorem HI {x y z:QEn} (h1:nb x y) (h2:nb y z):nb x z:=by unfold nb bfr at *;omega
theorem KW {x y:QEn} (h:bfr x y):nb y x:=by unfold nb bfr at *;omega
theorem Ka (x:QEn):nb x x:=by unfold nb bfr;omega
def HeapOk (l:List QEn):Prop:=∀ (j:Nat) x y,0 < j→l[j]?=some x→l[(j - 1) / 2]?=some y→nb x y
def Over (l:List QEn) (i:Nat):Prop:=∀ (j:Nat) x y,0 < i→0 < j→(j - 1) / 2=i→l[j]?=some x→l[(i - 1) / 2]?=some y→nb x y
def UpI (l:List QEn) (i:Nat):Prop:=(∀ (j:Nat) x y,0 < j→j≠i→l[j]?=some x→l[(j - 1) / 2]?=some y→nb x y)∧Over l i
def DownI (l:List QEn) (i:Nat):Prop:=(∀ (j:Nat) x y,0 < j→(j - 1) / 2≠i→l[j]?=some x→l[(j - 1) / 2]?=some y→nb x y)∧Over l i
theorem Hp {l:List QEn} {i j:Nat} {a b:QEn} (hi:l[i]?=some a) (hj:l[j]?=some b) (hne:i≠j) (k:Nat):((l.set i b).set j a)[k]?=if k=j then some a else if k=i then some b else l[k]?:=by
  by_cases h1:k=j
  · subst h1;rw [if_pos rfl,List.getElem?_set_self (by simpa using AC hj)]
  · rw [if_neg h1,List.getElem?_set_ne (by omega)]
    by_cases h2:k=i
    · subst h2;rw [if_pos rfl,List.getElem?_set_self (AC hi)]
    · rw [if_neg h2,List.getElem?_set_ne (by omega)]
theorem LC {l:List QEn} {i j:Nat} {a b:QEn} (hi:l[i]?=some a) (hj:l[j]?=some b):((l.set i b).set j a).Perm l:=by
  have h1:=AC hi
  have h2:=AC hj
  have e1:l[i]=a:=by rw [List.getElem?_eq_getElem h1] at hi;exact Option.some.inj hi
  have e2:l[j]=b:=by rw [List.getElem?_eq_getElem h2] at hj;exact Option.some.inj hj
  rw [← e1,← e2]
  exact List.set_set_perm h1 h2
theorem UpI.step {l:List QEn} {i:Nat} {a b:QEn} (h:UpI l i) (h0:0 < i) (hi:l[i]?=some a) (hj:l[(i - 1) / 2]?=some b) (hb:bfr a b):UpI ((l.set i b).set ((i - 1) / 2) a) ((i - 1) / 2):=by
  have hne:i≠(i - 1) / 2:=by omega
  constructor
  · intro j x y hj0 hjp hx hy
    rw [Hp hi hj hne,if_neg hjp] at hx
    rw [Hp hi hj hne] at hy
    by_cases e1:j=i
    · subst e1
      rw [if_pos rfl] at hx hy
      obtain rfl:=Option.some.inj hx
      obtain rfl:=Option.some.inj hy
      exact KW hb
    · rw [if_neg e1] at hx
      by_cases e2:(j - 1) / 2=(i - 1) / 2
      · rw [if_pos e2] at hy
        obtain rfl:=Option.some.inj hy
        have:=h.1 j x b hj0 e1 hx (by rw [e2];exact hj)
        exact HI this (KW hb)
      · rw [if_neg e2] at hy
        by_cases e3:(j - 1) / 2=i
        · rw [if_pos e3] at hy
          obtain rfl:=Option.some.inj hy
          exact h.2 j x b h0 hj0 e3 hx hj
        · rw [if_neg e3] at hy
          exact h.1 j x y hj0 e1 hx hy
  · intro j x y hp0 hj0 hjp hx hy
    rw [Hp hi hj hne] at hx hy
    have n1:((i - 1) / 2 - 1) / 2≠(i - 1) / 2:=by omega
    have n2:((i - 1) / 2 - 1) / 2≠i:=by omega
    rw [if_neg n1,if_neg n2] at hy
    have hpp:=h.1 ((i - 1) / 2) b y hp0 (by omega) hj hy
    rw [if_neg (by omega)] at hx
    by_cases e1:j=i
    · subst e1
      rw [if_pos rfl] at hx
      obtain rfl:=Option.some.inj hx
      exact hpp
    · rw [if_neg e1] at hx
      exact HI (h.1 j x b hj0 e1 hx (by rw [hjp];exact hj)) hpp
theorem UpI.heap {l:List QEn} {i:Nat} (h:UpI l i) (hi:i=0∨∀ x y,l[i]?=some x→l[(i - 1) / 2]?=some y→nb x y):HeapOk l:=fun j x y hj hx hy=>by
  by_cases e:j=i
  · subst e
    rcases hi with h0|h1
    · omega
    · exact h1 x y hx hy
  · exact h.1 j x y hj e hx hy
theorem DownI.step {l:List QEn} {i c:Nat} {a b:QEn} (h:DownI l i) (hc:c=2 * i + 1∨c=2 * i + 2) (hi:l[i]?=some a) (hj:l[c]?=some b) (hb:bfr b a) (hs:∀ (j:Nat) x,0 < j→(j - 1) / 2=i→l[j]?=some x→nb x b):DownI ((l.set i b).set c a) c:=by
  have hne:i≠c:=by omega
  have hcp:(c - 1) / 2=i:=by omega
  constructor
  · intro j x y hj0 hjp hx hy
    rw [Hp hi hj hne] at hx hy
    rw [if_neg hjp] at hy
    by_cases e1:j=c
    · subst e1
      rw [if_pos rfl] at hx
      rw [if_pos hcp] at hy
      obtain rfl:=Option.some.inj hx
      obtain rfl:=Option.some.inj hy
      exact KW hb
    · rw [if_neg e1] at hx
      by_cases e2:j=i
      · subst e2
        rw [if_pos rfl] at hx
        rw [if_neg (by omega)] at hy
        obtain rfl:=Option.some.inj hx
        exact h.2 c _ y hj0 (by omega) hcp hj hy
      · rw [if_neg e2] at hx
        by_cases e3:(j - 1) / 2=i
        · rw [if_pos e3] at hy
          obtain rfl:=Option.some.inj hy
          exact hs j x hj0 e3 hx
        · rw [if_neg e3] at hy
          exact h.1 j x y hj0 e3 hx hy
  · intro j x y hc0 hj0 hjc hx hy
    rw [Hp hi hj hne] at hx hy
    rw [if_neg (by omega),if_neg (by omega)] at hx
    rw [if_neg (by omega),if_pos hcp] at hy
    obtain rfl:=Option.some.inj hy
    exact h.1 j x _ hj0 (by omega) hx (by rw [hjc];exact hj)
theorem DownI.heap {l:List QEn} {i:Nat} (h:DownI l i) (hi:∀ (j:Nat) x y,0 < j→(j - 1) / 2=i→l[j]?=some x→l[i]?=some y→nb x y):HeapOk l:=fun j x y hj hx hy=>by
  by_cases e:(j - 1) / 2=i
  · exact hi j x y hj e hx (by rw [← e];exact hy)
  · exact h.1 j x y hj e hx hy
theorem Nv {l:List QEn} (h:HeapOk l) {e:QEn} (he:l[0]?=some e):∀ x∈l,nb x e:=by
  have key:∀ (n j:Nat) x,j≤n→l[j]?=some x→nb x e:=by
    intro n
    induction n with
    | zero =>
      intro j x hj hx
      have hj0:j=0:=by omega
      rw [hj0,he] at hx
      rw [← Option.some.inj hx]
      exact Ka _
    | succ n ih =>
      intro j x hj hx
      by_cases h0:j=0
      · exact ih j x (by omega) hx
      · obtain ⟨y,hy⟩:=AD (l:=l) (k:=(j - 1) / 2) (by have:=AC hx;omega)
        exact HI (h j x y (by omega) hx hy) (ih ((j - 1) / 2) y (by omega) hy)
  intro x hx
  obtain ⟨j,hj⟩:=List.getElem?_of_mem hx
  exact key j j x (by omega) hj
end
section
set_option linter.unusedVariables false
open Go Go.RowKit
def lle (c k c' k':Int):Prop:=c < c'∨(c=c'∧k≤k')
instance (c k c' k':Int):Decidable (lle c k c' k'):=by unfold lle;infer_instance
theorem Nw {a b c d e f:Int} (h1:lle a b c d) (h2:lle c d e f):lle a b e f:=by unfold lle at *;omega
theorem Hq (a b:Int):lle a b a b:=by unfold lle;omega
def upd {α:Type} (f:Nat→α) (m:Nat) (x:α):Nat→α:=fun j=>if j=m then x else f j
theorem Bb {α:Type} (f:Nat→α) (m:Nat) (x:α):upd f m x m=x:=if_pos rfl
theorem AY {α:Type} {f:Nat→α} {m:Nat} {x:α} {j:Nat} (h:j≠m):upd f m x j=f j:=if_neg h
inductive Lx (S:Nat→Prop) (A:Nat→List (Nat×Int)):Nat→Int→Int→Prop
  | src {i:Nat}:S i→Lx S A i 0 0
  | step {i:Nat} {c k:Int} {j:Nat} {w:Int}:Lx S A i c k→(j,w)∈A i→Lx S A j (c + w) (k + 1)
theorem Lx.mono {S S':Nat→Prop} {A:Nat→List (Nat×Int)} (hS:∀ i,S i→S' i) {i:Nat} {c k:Int} (h:Lx S A i c k):Lx S' A i c k:=by
  induction h with
  | src h=>exact .src (hS _ h)
  | step _ hm ih=>exact .step ih hm
structure ArcsOk (n:Nat) (A:Nat→List (Nat×Int)):Prop where
  to:∀ i p,p∈A i→i < n∧p.1 < n
  wt:∀ i p,p∈A i→0≤p.2∧p.2≤1048576
def sumF (g:Nat→Nat):Nat→Nat
  | 0=>0
  | n + 1=>sumF g n + g n
theorem HJ {g g':Nat→Nat}:∀ {n:Nat},(∀ j,j < n→g' j=g j)→sumF g' n=sumF g n
  | 0,_=>rfl
  | n + 1,h=>by
    have h1:=HJ (n:=n) fun j hj=>h j (by omega)
    have h2:=h n (by omega)
    simp only [sumF];omega
theorem JB {g g':Nat→Nat} {i:Nat}:∀ {n:Nat},i < n→(∀ j,j≠i→g' j=g j)→sumF g' n + g i=sumF g n + g' i
  | 0,h,_=>by omega
  | n + 1,h,he=>by
    by_cases e:i=n
    · subst e
      have:=HJ (g:=g) (g':=g') (n:=i) fun j hj=>he j (by omega)
      simp only [sumF];omega
    · have h1:=JB (n:=n) (by omega) he
      have h2:=he n (by omega)
      simp only [sumF];omega
theorem LD {g:Nat→Nat} {m:Nat}:∀ {n:Nat},(∀ j,j < n→g j≤m)→sumF g n≤n * m
  | 0,_=>by simp [sumF]
  | n + 1,h=>by
    have h1:=LD (n:=n) fun j hj=>h j (by omega)
    have h2:=h n (by omega)
    simp only [sumF,Nat.succ_mul];omega
def nScan (f:Nat→Bool) (n:Nat):Nat:=sumF (fun i=>if f i=true then 1 else 0) n
def nRem (A:Nat→List (Nat×Int)) (f:Nat→Bool) (n:Nat):Nat:=sumF (fun i=>if f i=true then 0 else (A i).length) n
theorem LE (f:Nat→Bool) (n:Nat):nScan f n≤n:=by
  have:=LD (g:=fun i=>if f i=true then 1 else 0) (m:=1) (n:=n) fun j _=>by split<;>omega
  unfold nScan;omega
theorem Nx {f:Nat→Bool} {n i:Nat} (hi:i < n) (hf:f i=false):nScan (upd f i true) n=nScan f n + 1:=by
  have:=JB (g:=fun i=>if f i=true then 1 else 0) (g':=fun j=>if upd f i true j=true then 1 else 0) hi fun j hj=>by rw [AY hj]
  rw [Bb,if_pos rfl,hf,if_neg (by simp)] at this
  unfold nScan;omega
theorem Or {A:Nat→List (Nat×Int)} {f:Nat→Bool} {n i:Nat} (hi:i < n) (hf:f i=false):nRem A (upd f i true) n + (A i).length=nRem A f n:=by
  have:=JB (g:=fun i=>if f i=true then 0 else (A i).length) (g':=fun j=>if upd f i true j=true then 0 else (A j).length) hi fun j hj=>by rw [AY hj]
  rw [Bb,if_pos rfl,hf,if_neg (by simp)] at this
  unfold nRem;omega
structure DjI (n:Nat) (A:Nat→List (Nat×Int)) (S:Nat→Prop) (D:Nat→Nat×Int→Prop) (d k:Nat→Int) (f:Nat→Bool) (hp:List QEn):Prop where
  src:∀ i,S i→i < n∧d i=0∧k i=0
  real:∀ i,d i≠Inf→Lx S A i (d i) (k i)
  bnd:∀ i,d i≠Inf→i < n∧0≤d i∧d i≤(nScan f n:Int) * 1048576∧0≤k i∧k i≤(nScan f n:Int)
  inf:∀ i,d i=Inf→k i=Inf
  ent:∀ e∈hp,∃ i:Nat,e.item=(i:Int)∧i < n∧d i≠Inf∧lle (d i) (k i) e.key e.tie
  opn:∀ i,f i=false→d i≠Inf→∃ e∈hp,e.key=d i∧e.tie=k i∧e.item=(i:Int)
  low:∀ j,f j=true→∀ e∈hp,lle (d j) (k j) e.key e.tie
  fin:∀ j,f j=true→d j≠Inf
  old:∀ (j:Nat) e,f j=true→e∈hp→e.item=(j:Int)→e.key=d j→e.tie=k j→False
  uni:hp.Pairwise (fun a b=>¬(a.key=b.key∧a.tie=b.tie∧a.item=b.item))
  rel:∀ j p,f j=true→p∈A j→D j p→d p.1≠Inf∧lle (d p.1) (k p.1) (d j + p.2) (k j + 1)
structure LexP (n:Nat) (A:Nat→List (Nat×Int)) (S:Nat→Prop) (d k:Nat→Int):Prop where
  real:∀ i,d i≠Inf→Lx S A i (d i) (k i)
  low:∀ i c q,Lx S A i c q→d i≠Inf∧lle (d i) (k i) c q
theorem GC {hp hp':List QEn} (h:hp'.Perm hp) (hu:hp.Pairwise (fun a b=>¬(a.key=b.key∧a.tie=b.tie∧a.item=b.item))):hp'.Pairwise (fun a b=>¬(a.key=b.key∧a.tie=b.tie∧a.item=b.item)) :=
  (h.pairwise_iff fun {a b} hab hc=>hab ⟨hc.1.symm,hc.2.1.symm,hc.2.2.symm⟩).2 hu
section
variable {n : Nat} {A : Nat → List (Nat × Int)} {S : Nat → Prop} {D : Nat → Nat × Int → Prop} {d k : Nat → Int} {f : Nat → Bool} {hp hp' : List QEn} {e : QEn}
theorem Ot:DjI n A (fun _=>False) (fun _ _=>True) (fun _=>Inf) (fun _=>Inf) (fun _=>false) [] :=
  ⟨fun _ h=>h.elim,fun _ h=>(h rfl).elim,fun _ h=>(h rfl).elim,fun _ _=>rfl,fun _ h=>(by simp at h),fun _ _ h=>(h rfl).elim,fun _ h=>(by simp at h),fun _ h=>(by simp at h),fun _ _ h=>(by simp at h),List.Pairwise.nil,fun _ _ h=>(by simp at h)⟩
theorem DjI.source (h:DjI n A S D d k (fun _=>false) hp) {i:Nat} (hi:i < n) (hd:d i=Inf) (hh:hp'.Perm (e :: hp)) (e1:e.key=0) (e2:e.tie=0) (e3:e.item=(i:Int)):DjI n A (fun j=>S j∨j=i) D (upd d i 0) (upd k i 0) (fun _=>false) hp':=by
  have hI:Inf≠0:=by unfold Inf;omega
  refine ⟨?_,?_,?_,?_,?_,?_,fun _ h=>(by simp at h),fun _ h=>(by simp at h),fun _ _ h=>(by simp at h),GC hh (List.pairwise_cons.2 ⟨fun x hx hc=>?_,h.uni⟩),fun _ _ h=>(by simp at h)⟩
  · intro j hj
    by_cases e:j=i
    · subst e;exact ⟨hi,Bb ..,Bb ..⟩
    · rw [AY e,AY e];exact h.src j (hj.resolve_right e)
  · intro j hj
    by_cases e:j=i
    · subst e;rw [Bb,Bb];exact .src (.inr rfl)
    · rw [AY e] at hj;rw [AY e,AY e];exact (h.real j hj).mono fun _=>.inl
  · intro j hj
    by_cases e:j=i
    · subst e;rw [Bb,Bb];exact ⟨hi,by omega,by omega,by omega,by omega⟩
    · rw [AY e] at hj;rw [AY e,AY e];exact h.bnd j hj
  · intro j hj
    by_cases e:j=i
    · subst e;rw [Bb] at hj;exact (hI hj.symm).elim
    · rw [AY e] at hj;rw [AY e];exact h.inf j hj
  · intro x hx
    rcases List.mem_cons.1 (hh.mem_iff.1 hx) with rfl|hx
    · exact ⟨i,e3,hi,by rw [Bb];exact hI.symm,by rw [Bb,Bb,e1,e2];exact Hq _ _⟩
    · obtain ⟨j,a,b,c,g⟩:=h.ent x hx
      have e:j≠i:=fun e=>c (by rw [e];exact hd)
      exact ⟨j,a,b,by rw [AY e];exact c,by rw [AY e,AY e];exact g⟩
  · intro j _ hj
    by_cases e:j=i
    · subst e;exact ⟨_,hh.mem_iff.2 List.mem_cons_self,by rw [Bb];exact e1,by rw [Bb];exact e2,e3⟩
    · rw [AY e] at hj
      obtain ⟨x,m,r⟩:=h.opn j rfl hj
      exact ⟨x,hh.mem_iff.2 (List.mem_cons_of_mem _ m),by rw [AY e,AY e];exact r⟩
  · obtain ⟨j,a,_,c,_⟩:=h.ent x hx
    have:j=i:=by omega
    subst this
    exact c hd
theorem DjI.drop (h:DjI n A S D d k f hp) (hh:hp.Perm (e :: hp')) {i:Nat} (hi:e.item=(i:Int)) (hd:¬(e.key=d i∧e.tie=k i)):DjI n A S D d k f hp' :=
  { h with
    ent:=fun x hx=>h.ent x (hh.mem_iff.2 (List.mem_cons_of_mem _ hx))
    opn := fun j hj hc=>by
      obtain ⟨x,m,a,b,c⟩:=h.opn j hj hc
      rcases List.mem_cons.1 (hh.mem_iff.1 m) with rfl|m
      · have:j=i:=by omega
        subst this
        exact (hd ⟨a,b⟩).elim
      · exact ⟨x,m,a,b,c⟩
    low:=fun j hj x hx=>h.low j hj x (hh.mem_iff.2 (List.mem_cons_of_mem _ hx))
    old:=fun j x hj hx=>h.old j x hj (hh.mem_iff.2 (List.mem_cons_of_mem _ hx))
    uni:=(List.pairwise_cons.1 (GC hh.symm h.uni)).2 }
theorem DjI.mark (h:DjI n A S (fun _ _=>True) d k f hp) (hh:hp.Perm (e :: hp')) (hmin:∀ x∈hp,nb x e) {i:Nat} (hi:e.item=(i:Int)) (h1:e.key=d i) (h2:e.tie=k i) :
    f i=false∧i < n∧d i≠Inf∧nScan (upd f i true) n=nScan f n + 1∧nRem A (upd f i true) n + (A i).length=nRem A f n∧(∀ j,upd f i true j=true→lle (d j) (k j) (d i) (k i))∧DjI n A S (fun j _=>j≠i) d k (upd f i true) hp':=by
  have he:e∈hp:=hh.mem_iff.2 List.mem_cons_self
  have hsub:∀ x,x∈hp'→x∈hp:=fun x hx=>hh.mem_iff.2 (List.mem_cons_of_mem _ hx)
  obtain ⟨i',a,b,c,_⟩:=h.ent e he
  have e0:i'=i:=by omega
  subst e0
  have hf:f i'=false:=by
    cases hb:f i' with
    | false=>rfl
    | true=>exact (h.old i' e hb he hi h1 h2).elim
  have hn:=Nx b hf
  have hl:∀ x∈hp,lle (d i') (k i') x.key x.tie:=fun x hx=>by
    have:=hmin x hx
    rw [← h1,← h2]
    unfold nb bfr at this
    unfold lle
    omega
  have hu:∀ j,upd f i' true j=true→j=i'∨f j=true:=fun j hj=>by
    by_cases e:j=i'
    · exact .inl e
    · rw [AY e] at hj;exact .inr hj
  refine ⟨hf,b,c,hn,Or b hf,fun j hj=>?_,⟨h.src,h.real,fun j hj=>?_,h.inf,fun x hx=>h.ent x (hsub x hx),fun j hj hc=>?_,fun j hj x hx=>?_,fun j hj=>?_,fun j x hj hx e1 e2 e3=>?_,(List.pairwise_cons.1 (GC hh.symm h.uni)).2,fun j p hj hp hne=>?_⟩⟩
  · rcases hu j hj with rfl|hj
    · exact Hq _ _
    · have:=h.low j hj e he
      rwa [h1,h2] at this
  · have:=h.bnd j hj
    rw [hn]
    omega
  · have e:j≠i':=fun e=>by subst e;rw [Bb] at hj;cases hj
    rw [AY e] at hj
    obtain ⟨x,m,r1,r2,r3⟩:=h.opn j hj hc
    rcases List.mem_cons.1 (hh.mem_iff.1 m) with rfl|m
    · omega
    · exact ⟨x,m,r1,r2,r3⟩
  · rcases hu j hj with rfl|hj
    · exact hl x (hsub x hx)
    · exact h.low j hj x (hsub x hx)
  · rcases hu j hj with rfl|hj
    · exact c
    · exact h.fin j hj
  · rcases hu j hj with rfl|hj
    · exact (List.pairwise_cons.1 (GC hh.symm h.uni)).1 x hx ⟨by omega,by omega,by omega⟩
    · exact h.old j x hj (hsub x hx) e1 e2 e3
  · rcases hu j hj with rfl|hj
    · exact (hne rfl).elim
    · exact h.rel j p hj hp trivial
theorem DjI.keep (h:DjI n A S D d k f hp) {D':Nat→Nat×Int→Prop} {i:Nat} {p:Nat×Int} (hD:∀ j q,D' j q→D j q∨(j=i∧q=p)) (hm:d p.1≠Inf) (hl:lle (d p.1) (k p.1) (d i + p.2) (k i + 1)):DjI n A S D' d k f hp :=
  { h with
    rel:=fun j q hj hq hd=>by
      rcases hD j q hd with hd|⟨rfl,rfl⟩
      · exact h.rel j q hj hq hd
      · exact ⟨hm,hl⟩ }
theorem DjI.better (h:DjI n A S D d k f hp) (hA:ArcsOk n A) {D':Nat→Nat×Int→Prop} {i:Nat} {p:Nat×Int} (hD:∀ j q,D' j q→D j q∨(j=i∧q=p)) (hf:f i=true) (hcur:∀ j,f j=true→lle (d j) (k j) (d i) (k i)) (hb:d i + 1048576≤(nScan f n:Int) * 1048576) (hb2:k i + 1≤(nScan f n:Int)) (hp0:p∈A i)
    (hl:¬ lle (d p.1) (k p.1) (d i + p.2) (k i + 1)) (hh:hp'.Perm (e :: hp)) (e1:e.key=d i + p.2) (e2:e.tie=k i + 1) (e3:e.item=(p.1:Int)) (hx:d i + p.2≠Inf):p.1≠i∧DjI n A S D' (upd d p.1 (d i + p.2)) (upd k p.1 (k i + 1)) f hp':=by
  obtain ⟨m,w⟩:=p
  dsimp only at *
  have hw:=hA.wt i _ hp0
  have hmn:=(hA.to i _ hp0).2
  dsimp only at hw hmn
  have hdi:=h.fin i hf
  have hbi:=h.bnd i hdi
  have hmf:∀ j,f j=true→j≠m:=fun j hj e=>by
    subst e
    have:=hcur j hj
    unfold lle at this hl
    omega
  have hmi:=hmf i hf
  refine ⟨Ne.symm hmi,fun j hj=>?_,fun j hj=>?_,fun j hj=>?_,fun j hj=>?_,fun x hx'=>?_,fun j hj hc=>?_,fun j hj x hx'=>?_,fun j hj=>?_,fun j x hj hx' f1 f2 f3=>?_,GC hh (List.pairwise_cons.2 ⟨fun x hx' hc=>?_,h.uni⟩),fun j q hj hq hd=>?_⟩
  · obtain ⟨a,b,c⟩:=h.src j hj
    have e:j≠m:=fun e=>by subst e;unfold lle at hl;omega
    rw [AY e,AY e];exact ⟨a,b,c⟩
  · by_cases e:j=m
    · subst e;rw [Bb,Bb];exact .step (h.real i hdi) hp0
    · rw [AY e] at hj;rw [AY e,AY e];exact h.real j hj
  · by_cases e:j=m
    · subst e;rw [Bb,Bb];exact ⟨hmn,by omega,by omega,by omega,by omega⟩
    · rw [AY e] at hj;rw [AY e,AY e];exact h.bnd j hj
  · by_cases e:j=m
    · subst e;rw [Bb] at hj;exact (hx hj).elim
    · rw [AY e] at hj;rw [AY e];exact h.inf j hj
  · rcases List.mem_cons.1 (hh.mem_iff.1 hx') with rfl|hx'
    · exact ⟨m,e3,hmn,by rw [Bb];exact hx,by rw [Bb,Bb,e1,e2];exact Hq _ _⟩
    · obtain ⟨j,a,b,c,g⟩:=h.ent x hx'
      by_cases e:j=m
      · subst e
        exact ⟨j,a,b,by rw [Bb];exact hx,by rw [Bb,Bb];unfold lle at *;omega⟩
      · exact ⟨j,a,b,by rw [AY e];exact c,by rw [AY e,AY e];exact g⟩
  · by_cases e:j=m
    · subst e;exact ⟨_,hh.mem_iff.2 List.mem_cons_self,by rw [Bb];exact e1,by rw [Bb];exact e2,e3⟩
    · rw [AY e] at hc
      obtain ⟨x,m,r⟩:=h.opn j hj hc
      exact ⟨x,hh.mem_iff.2 (List.mem_cons_of_mem _ m),by rw [AY e,AY e];exact r⟩
  · rw [AY (hmf j hj),AY (hmf j hj)]
    rcases List.mem_cons.1 (hh.mem_iff.1 hx') with rfl|hx'
    · have:=hcur j hj
      rw [e1,e2]
      unfold lle at *
      omega
    · exact h.low j hj x hx'
  · rw [AY (hmf j hj)];exact h.fin j hj
  · have e:=hmf j hj
    rw [AY e] at f2 f3
    rcases List.mem_cons.1 (hh.mem_iff.1 hx') with rfl|hx'
    · omega
    · exact h.old j x hj hx' f1 f2 f3
  · obtain ⟨j,a,_,c,g⟩:=h.ent x hx'
    have:j=m:=by omega
    subst this
    obtain ⟨c1,c2,c3⟩:=hc
    rw [← c1,← c2,e1,e2] at g
    exact hl g
  · have e:=hmf j hj
    rw [AY e,AY e]
    rcases hD j q hd with hd|⟨rfl,rfl⟩
    · obtain ⟨r1,r2⟩:=h.rel j q hj hq hd
      by_cases e:q.1=m
      · rw [e] at r1 r2 ⊢
        rw [Bb,Bb]
        exact ⟨hx,by unfold lle at *;omega⟩
      · rw [AY e,AY e];exact ⟨r1,r2⟩
    · dsimp only
      rw [Bb,Bb];exact ⟨hx,Hq _ _⟩
theorem DjI.done (h:DjI n A S (fun _ _=>True) d k f []):LexP n A S d k:=by
  have hI:Inf≠0:=by unfold Inf;omega
  refine ⟨h.real,fun i c q hx=>?_⟩
  induction hx with
  | src hs=>obtain ⟨_,a,b⟩:=h.src _ hs;rw [a,b];exact ⟨hI.symm,Hq _ _⟩
  | @step i c q j w _ hm ih =>
    have hf:f i=true:=by
      cases hb:f i with
      | true=>rfl
      | false=>obtain ⟨x,m,_⟩:=h.opn i hb ih.1;simp at m
    obtain ⟨r1,r2⟩:=h.rel i _ hf hm trivial
    refine ⟨r1,Nw r2 ?_⟩
    have:=ih.2
    unfold lle at *
    omega
end
end
section
open Go Go.RowKit
theorem IE (x y:QEn):BU x y=some (decide (bfr x y)):=by
  unfold BU bfr
  by_cases h1:x.key=y.key
  · by_cases h2:x.tie=y.tie
    · by_cases h3:x.number < y.number<;>simp [h1,h2,h3,bnd]
    · by_cases h3:x.tie < y.tie<;>simp [h1,h2,h3,bnd]
  · by_cases h3:x.key < y.key<;>simp [h1,h3,bnd]
theorem Rm {q:Que} {i:Nat} (hi:i < q.heap.length) (hl:q.heap.length≤1000000) (h:UpI q.heap i):∃ r,CI q (i:Int)=some r∧HeapOk r.heap∧r.heap.Perm q.heap∧r.next=q.next:=by
  unfold CI
  refine LA (fun s=>∃ i:Nat,s.1=(i:Int)∧i < s.2.heap.length∧UpI s.2.heap i∧s.2.heap.Perm q.heap∧s.2.next=q.next) (fun s=>HeapOk s.2.heap∧s.2.heap.Perm q.heap∧s.2.next=q.next) (fun s=>HeapOk s.heap∧s.heap.Perm q.heap∧s.next=q.next) (fun s=>s.1.toNat) ⟨i,rfl,hi,h,List.Perm.refl _,rfl⟩ ?_ (fun s hs=>⟨_,rfl,hs⟩) (fun s hs=>⟨_,rfl,hs⟩)
  rintro ⟨c,s⟩ ⟨i,hc,hi,hu,hp,hn⟩
  dsimp only at hc hi hu hp hn ⊢
  subst hc
  have hlen:=hp.length_eq
  by_cases h0:0 < (i:Int)
  · rw [if_pos h0,Cd (by unfold inI64;omega),An]
    have hq:quoI ((i:Int) - 1) 2=some (((i - 1) / 2:Nat):Int):=by
      unfold quoI;rw [if_pos (by omega)];congr 1;omega
    obtain ⟨a,ha⟩:=AD (l:=s.heap) (k:=i) hi
    obtain ⟨b,hb⟩:=AD (l:=s.heap) (k:=(i - 1) / 2) (by omega)
    rw [hq,An,BR,ha,An,BR,hb,An,IE,An]
    by_cases hab:bfr a b
    · rw [decide_eq_true hab,DN,An,An,An,BR,Int.toNat_natCast,List.getElem?_set_ne (by omega),hb,An,Int.toNat_natCast]
      refine .inl ⟨_,rfl,⟨(i - 1) / 2,rfl,by simp;omega,hu.step (by omega) ha hb hab,(LC ha hb).trans hp,hn⟩,?_⟩
      dsimp only
      omega
    · rw [decide_eq_false hab,Dc]
      refine .inr (.inr ⟨_,rfl,hu.heap (.inr fun x y hx hy=>?_),hp,hn⟩)
      rw [ha] at hx
      rw [hb] at hy
      obtain rfl:=Option.some.inj hx
      obtain rfl:=Option.some.inj hy
      exact hab
  · rw [if_neg h0]
    exact .inr (.inl ⟨_,rfl,hu.heap (.inl (by omega)),hp,hn⟩)
theorem Ms {q:Que} (h:HeapOk q.heap) (hl:q.heap.length < 65536) (hn:0≤q.next∧q.next≤1000000000) (k t i:Int):∃ r,BJ q k t i=some r∧r.1=⟨0⟩∧HeapOk r.2.heap∧r.2.heap.Perm (⟨k,t,i,q.next⟩ :: q.heap)∧r.2.next=q.next + 1:=by
  unfold BJ
  rw [if_neg (by omega),Cp (by simp;omega) (by simp;omega),An,Cd (by unfold inI64;omega),An,Cd (by unfold inI64;simp;omega),An]
  have hlen:(((q.heap ++ [(⟨k,t,i,q.next⟩:QEn)]).length:Int) - 1)=((q.heap.length:Nat):Int):=by simp
  rw [hlen]
  obtain ⟨r,r1,r2,r3,r4⟩:=Rm (q:=⟨q.heap ++ [⟨k,t,i,q.next⟩],q.next + 1⟩) (i:=q.heap.length) (by simp) (by simp;omega) ⟨fun j x y hj hji hx hy=>by
    dsimp only at hx hy
    have hjl:j < q.heap.length:=by have:=AC hx;simp at this;omega
    rw [List.getElem?_append_left hjl] at hx
    rw [List.getElem?_append_left (by omega)] at hy
    exact h j x y hj hx hy,fun j x y h1 h2 h3 hx hy=>by
    dsimp only at hx
    have:=AC hx
    simp at this
    omega⟩
  rw [r1,An]
  exact ⟨_,rfl,rfl,r2,r3.trans (List.perm_append_comm (l₁:=q.heap) (l₂:=[_])),r4⟩
theorem Px {q:Que} (hl:q.heap.length≤1000000) (h:DownI q.heap 0):∃ r,CA q 0=some r∧HeapOk r.heap∧r.heap.Perm q.heap∧r.next=q.next:=by
  unfold CA
  refine LA (fun s=>∃ i:Nat,s.1=(i:Int)∧DownI s.2.heap i∧i≤s.2.heap.length∧s.2.heap.Perm q.heap∧s.2.next=q.next) (fun _=>False) (fun s=>HeapOk s.heap∧s.heap.Perm q.heap∧s.next=q.next) (fun s=>s.2.heap.length - s.1.toNat) ⟨0,rfl,h,by omega,List.Perm.refl _,rfl⟩ ?_ (fun s hs=>hs.elim) (fun s hs=>⟨_,rfl,hs⟩)
  rintro ⟨c,s⟩ ⟨i,hc,hd,hi,hp,hn⟩
  dsimp only at hc hd hi hp hn ⊢
  subst hc
  have hlen:=hp.length_eq
  rw [Cd (by unfold inI64;omega),An,Cd (by unfold inI64;omega),An]
  by_cases h1:(s.heap.length:Int)≤2 * (i:Int) + 1
  · rw [if_pos h1]
    refine .inr (.inr ⟨_,rfl,hd.heap fun j x y hj hji hx _=>?_,hp,hn⟩)
    have:=AC hx
    omega
  rw [if_neg h1]
  obtain ⟨a,ha⟩:=AD (l:=s.heap) (k:=i) (by omega)
  obtain ⟨b,hb⟩:=AD (l:=s.heap) (k:=2 * i + 1) (by omega)
  have cast1:2 * (i:Int) + 1=((2 * i + 1:Nat):Int):=by omega
  have cast2:2 * (i:Int) + 1 + 1=((2 * i + 2:Nat):Int):=by omega
  have rest:∀ (c:Nat) (d:QEn),(c=2 * i + 1∨c=2 * i + 2)→s.heap[c]?=some d→(∀ (j:Nat) x,0 < j→(j - 1) / 2=i→s.heap[j]?=some x→nb x d)→(∃ s',(bnd (atI s.heap (c:Int)) fun a138=>bnd (atI s.heap (i:Int)) fun a153=>bnd (BU a138 a153) fun q168=>if q168=true then bnd (atI s.heap (c:Int)) fun a180=>bnd (atI s.heap (i:Int)) fun a195=>bnd (atI s.heap (i:Int)) fun _=>bnd (atI (s.heap.set ((i:Int)).toNat a180) (c:Int)) fun _=>some (Ctl.next (ρ:=Que) ((c:Int),(⟨((s.heap.set ((i:Int)).toNat a180).set ((c:Int)).toNat a195),s.next⟩:Que))) else some (.ret s))=some (.next s')∧(∃ i:Nat,s'.1=(i:Int)∧DownI s'.2.heap i∧i≤s'.2.heap.length∧s'.2.heap.Perm q.heap∧s'.2.next=q.next)∧s'.2.heap.length - s'.1.toNat < s.heap.length - ((i:Int)).toNat)∨(∃ s',(bnd (atI s.heap (c:Int)) fun a138=>bnd (atI s.heap (i:Int)) fun a153=>bnd (BU a138 a153) fun q168=>if q168=true then bnd (atI s.heap (c:Int)) fun a180=>bnd (atI s.heap (i:Int)) fun a195=>bnd (atI s.heap (i:Int)) fun _=>bnd (atI (s.heap.set ((i:Int)).toNat a180) (c:Int)) fun _=>some (Ctl.next (ρ:=Que) ((c:Int),(⟨((s.heap.set ((i:Int)).toNat a180).set ((c:Int)).toNat a195),s.next⟩:Que))) else some (.ret s))=some (.brk s')∧False)∨∃ r,(bnd (atI s.heap (c:Int)) fun a138=>bnd (atI s.heap (i:Int)) fun a153=>bnd (BU a138 a153) fun q168=>if q168=true then bnd (atI s.heap (c:Int)) fun a180=>bnd (atI s.heap (i:Int)) fun a195=>bnd (atI s.heap (i:Int)) fun _=>bnd (atI (s.heap.set ((i:Int)).toNat a180) (c:Int)) fun _=>some (Ctl.next (ρ:=Que) ((c:Int),(⟨((s.heap.set ((i:Int)).toNat a180).set ((c:Int)).toNat a195),s.next⟩:Que))) else some (.ret s))=some (.ret r)∧HeapOk r.heap∧r.heap.Perm q.heap∧r.next=q.next:=by
    intro c d hc hd' hs
    have hcl:=AC hd'
    rw [BR,hd',An,BR,ha,An,IE,An]
    by_cases hda:bfr d a
    · rw [decide_eq_true hda,DN,An,An,An,BR,Int.toNat_natCast,List.getElem?_set_ne (by omega),hd',An,Int.toNat_natCast]
      refine .inl ⟨_,rfl,⟨c,rfl,hd.step hc ha hd' hda hs,by simp;omega,(LC ha hd').trans hp,hn⟩,?_⟩
      simp
      omega
    · rw [decide_eq_false hda,Dc]
      refine .inr (.inr ⟨_,rfl,hd.heap fun j x y hj hji hx hy=>?_,hp,hn⟩)
      rw [ha] at hy
      obtain rfl:=Option.some.inj hy
      exact HI (hs j x hj hji hx) hda
  rw [Cd (by unfold inI64;omega),An]
  by_cases h2:2 * (i:Int) + 1 + 1 < (s.heap.length:Int)
  · obtain ⟨d,hd'⟩:=AD (l:=s.heap) (k:=2 * i + 2) (by omega)
    rw [if_pos h2,An,cast2,cast1,BR,hd',An,BR,hb,An,IE,An]
    by_cases hdb:bfr d b
    · rw [decide_eq_true hdb,DN,An,DN,An,An]
      refine rest (2 * i + 2) d (.inr rfl) hd' fun j x hj hji hx=>?_
      have:j=2 * i + 1∨j=2 * i + 2:=by omega
      rcases this with rfl|rfl
      · rw [hb] at hx;obtain rfl:=Option.some.inj hx;exact KW hdb
      · rw [hd'] at hx;obtain rfl:=Option.some.inj hx;exact Ka _
    · rw [decide_eq_false hdb,Dc,An,Dc,An]
      refine rest (2 * i + 1) b (.inl rfl) hb fun j x hj hji hx=>?_
      have:j=2 * i + 1∨j=2 * i + 2:=by omega
      rcases this with rfl|rfl
      · rw [hb] at hx;obtain rfl:=Option.some.inj hx;exact Ka _
      · rw [hd'] at hx;obtain rfl:=Option.some.inj hx;exact hdb
  · rw [if_neg h2,An,Dc,An,cast1]
    refine rest (2 * i + 1) b (.inl rfl) hb fun j x hj hji hx=>?_
    have:j=2 * i + 1:=by have:=AC hx;omega
    subst this
    rw [hb] at hx;obtain rfl:=Option.some.inj hx;exact Ka _
theorem Qx {q:Que} (h:HeapOk q.heap) (h0:0 < q.heap.length) (hl:q.heap.length≤1000000):∃ r,Cu q=some r∧∃ (e:QEn) (q':Que),r=(e.key,e.tie,e.item,⟨0⟩,q')∧HeapOk q'.heap∧q.heap.Perm (e :: q'.heap)∧(∀ x∈q.heap,nb x e)∧q'.next=q.next:=by
  obtain ⟨e,he⟩:=AD (l:=q.heap) (k:=0) h0
  obtain ⟨z,hz⟩:=AD (l:=q.heap) (k:=q.heap.length - 1) (by omega)
  have at0:atI q.heap 0=some e:=by rw [show (0:Int)=((0:Nat):Int) from rfl,BR];exact he
  have cz:((q.heap.length:Int) - 1)=((q.heap.length - 1:Nat):Int):=by omega
  unfold Cu CK
  rw [if_neg (by omega),at0,An,An,if_neg (by simp),Cd (by unfold inI64;omega),An,cz,BR,hz,An,An]
  unfold cutI
  rw [if_pos (by simp),An]
  simp only [Int.toNat_zero,List.drop_zero,Int.toNat_natCast]
  have hperm:q.heap.Perm (e :: (q.heap.set 0 z).take (q.heap.length - 1)):=by
    cases hq:q.heap with
    | nil=>rw [hq] at h0;simp at h0
    | cons a tl =>
      rw [hq] at he hz
      simp at he
      subst he
      cases htl:tl.reverse with
      | nil =>
        have:tl=[]:=by simpa using htl
        subst this
        simp
      | cons w r =>
        have htl':tl=r.reverse ++ [w]:=by have:=congrArg List.reverse htl;simpa using this
        subst htl'
        simp at hz
        subst hz
        simp
  obtain ⟨r,r1,r2,r3,r4⟩:=Px (q:=⟨(q.heap.set 0 z).take (q.heap.length - 1),q.next⟩) (by simp;omega) ⟨fun j x y hj hjp hx hy=>by
    dsimp only at hx hy
    have hx':=ID hx
    have hy':=ID hy
    rw [List.getElem?_set_ne (by omega)] at hx' hy'
    exact h j x y hj hx' hy',fun j x y h1=>by omega⟩
  rw [r1,An]
  exact ⟨_,rfl,e,r,rfl,r2,hperm.trans (List.Perm.cons _ r3.symm),Nv h he,r4⟩
end
section
set_option linter.unusedVariables false
set_option linter.unusedSimpArgs false
open Go Go.RowKit
def gI (l:List Int) (i:Nat):Int:=(l[i]?).getD Inf
theorem LF {l:List Int} {i:Nat} (h:i < l.length):l[i]?=some (gI l i):=by unfold gI;rw [List.getElem?_eq_getElem h];rfl
theorem Pb {l:List Int} {i:Nat} {x:Int} (h:l[i]?=some x):gI l i=x:=by unfold gI;rw [h];rfl
theorem Fx {l:List Int} {m:Nat} {x:Int} (h:m < l.length):gI (l.set m x)=upd (gI l) m x:=by
  funext j
  unfold gI upd
  by_cases e:j=m
  · subst e;rw [if_pos rfl,List.getElem?_set_self h];rfl
  · rw [if_neg e,List.getElem?_set_ne (Ne.symm e)]
theorem HK {l:List Int} {i:Nat} (h:i < l.length):atI l (i:Int)=some (gI l i):=by rw [BR,LF h]
theorem Ny (n:Nat):gI (List.replicate n Inf)=fun _=>Inf:=by
  funext j
  unfold gI
  rw [List.getElem?_replicate]
  split<;>rfl
def arcA (rows:List (List Arc)) (i:Nat):List (Nat×Int):=((rows[i]?).getD []).map fun a=>(a.dst.toNat,a.weight)
abbrev LQ:=List Int×List Int×Que
noncomputable def shIn (x0:List (List Arc)) (c k:Int):Arc→LQ→Option (Ctl LQ (Ctl LQ (List Int×List Int))):=fun a s=>bnd (chkI (c + a.weight)) fun n1=>bnd (chkI (k + 1)) fun n2=>bnd (bnd (atI s.1 a.dst) fun a385=>if a385 < n1 then (some true) else (bnd (atI s.1 a.dst) fun a398=>if n1=a398 then (bnd (atI s.2.1 a.dst) fun a411=>if a411≤n2 then (some true) else (some false)) else (some false)):Option Bool) fun y381=>if y381=true then (some (.next (s.1,s.2.1,s.2.2))) else (bnd (atI s.1 a.dst) fun _=>bnd (atI s.2.1 a.dst) fun _=>bnd (BJ s.2.2 n1 n2 a.dst) fun q457=>if q457.1.n≠0 then (bnd (Dr x0 (s.1.set (a.dst:Int).toNat n1) (s.2.1.set (a.dst:Int).toNat n2)) fun q472=>some (.ret (.ret (q472.1,q472.2)))) else (some (.next ((s.1.set (a.dst:Int).toNat n1),(s.2.1.set (a.dst:Int).toNat n2),q457.2))))
noncomputable def shF (x0:List (List Arc)):LQ→Option (Ctl LQ (List Int×List Int)):=fun s226=>bnd (CE s226.2.2) fun q249=>if 0 < q249 then (bnd (Cu s226.2.2) fun q260=>if q260.2.2.2.1.n≠0 then (some (.brk (s226.1,s226.2.1,q260.2.2.2.2))) else (bnd (bnd (atI s226.1 q260.2.2.1) fun a285=>if q260.1≠a285 then (some true) else (bnd (atI s226.2.1 q260.2.2.1) fun a298=>if q260.2.1≠a298 then (some true) else (some false)):Option Bool) fun y281=>if y281=true then (some (.next (s226.1,s226.2.1,q260.2.2.2.2))) else (bnd (atI x0 q260.2.2.1) fun a316=>bnd (rng (ρ:=Ctl LQ ((List Int)×(List Int))) (fun (_:Nat) (a338:Arc) (s335:LQ)=>shIn x0 q260.1 q260.2.1 a338 s335) a316 0 (s226.1,s226.2.1,q260.2.2.2.2)) fun res333=>fin res333 fun (s491:LQ)=>some (.next (s491.1,s491.2.1,s491.2.2))))) else (some (.brk (s226.1,s226.2.1,s226.2.2)))
noncomputable def shE:Fin LQ (List Int×List Int)→Option (List Int×List Int):=fun res224=>fin res224 fun (s497:LQ)=>some (s497.1,s497.2.1)
noncomputable def shS:Int→LQ→Option (Ctl LQ (List Int×List Int)):=fun a152 s149=>bnd (atI s149.1 a152) fun _=>bnd (atI s149.2.1 a152) fun _=>bnd (BJ s149.2.2 0 0 a152) fun q208=>some (.next ((s149.1.set (a152:Int).toNat 0),(s149.2.1.set (a152:Int).toNat 0),q208.2))
theorem Qy (x0:List (List Arc)) (x1:List Int):Bu x0 x1=bnd (mkI 8 (0:Int) (x0.length:Int)) fun u7=>bnd (mkI 8 (0:Int) (x0.length:Int)) fun u9=>bnd (some (u7,u9):Option ((List Int)×(List Int))) fun y11=>bnd (rngN (ρ:=(List Int)×(List Int)) (fun (k77:Nat) (s75:(List Int)×(List Int))=>bnd (s75.1[k77]?) fun a104=>bnd (s75.2[k77]?) fun a116=>some (.next ((s75.1.set k77 1125899906842624),(s75.2.set k77 1125899906842624)))) y11.1.length (y11.1,y11.2)) fun res73=>fin res73 fun (s132:(List Int)×(List Int))=>bnd (DJ) fun q134=>bnd q134 fun o144=>bnd (rng (ρ:=(List Int)×(List Int)) (fun (_:Nat) (a152:Int) (s149:LQ)=>shS a152 s149) x1 0 (s132.1,s132.2,o144)) fun res147=>fin res147 fun (s222:LQ)=>bnd (lop (shF x0) (s222.1,s222.2.1,s222.2.2)) shE:=rfl
structure ShI (n:Nat) (A:Nat→List (Nat×Int)) (S:Nat→Prop) (D:Nat→Nat×Int→Prop) (f:Nat→Bool) (s:LQ):Prop where
  dj:DjI n A S D (gI s.1) (gI s.2.1) f s.2.2.heap
  l1:s.1.length=n
  l2:s.2.1.length=n
  hp:HeapOk s.2.2.heap
structure RowsOk (n:Nat) (rows:List (List Arc)):Prop where
  len:rows.length=n
  few:n≤600
  ok:∀ (i:Nat) r a,rows[i]?=some r→a∈r→0≤a.dst∧a.dst < (n:Int)∧0≤a.weight∧a.weight≤1048576
section
variable {n : Nat} {rows : List (List Arc)} {S : Nat → Prop} {D : Nat → Nat × Int → Prop} {f : Nat → Bool} {s : LQ}
theorem RowsOk.arcs (h:RowsOk n rows):ArcsOk n (arcA rows):=by
  have key:∀ i p,p∈arcA rows i→∃ r a,rows[i]?=some r∧a∈r∧p=(a.dst.toNat,a.weight):=fun i p hp=>by
    unfold arcA at hp
    cases hr:rows[i]? with
    | none=>rw [hr] at hp;simp at hp
    | some r =>
      rw [hr] at hp
      obtain ⟨a,ha,rfl⟩:=List.mem_map.1 hp
      exact ⟨r,a,rfl,ha,rfl⟩
  refine ⟨fun i p hp=>?_,fun i p hp=>?_⟩
  · obtain ⟨r,a,h1,h2,rfl⟩:=key i p hp
    have:=h.ok i r a h1 h2
    have hl:=AC h1
    rw [h.len] at hl
    exact ⟨hl,by dsimp only;omega⟩
  · obtain ⟨r,a,h1,h2,rfl⟩:=key i p hp
    have:=h.ok i r a h1 h2
    exact ⟨by dsimp only;omega,by dsimp only;omega⟩
theorem Qz (h:RowsOk n rows) {i:Nat} {row:List Arc} (hr:rows[i]?=some row) {m:Nat} {a:Arc} (ha:row[m]?=some a) (hI:ShI n (arcA rows) S (fun j p=>j≠i∨p∈(arcA rows i).take m) f s) {c k:Int} (hc:gI s.1 i=c) (hk:gI s.2.1 i=k) (hf:f i=true)
    (hcur:∀ j,f j=true→lle (gI s.1 j) (gI s.2.1 j) c k) (hb:c + 1048576≤(nScan f n:Int) * 1048576) (hb2:k + 1≤(nScan f n:Int)) (hl:s.2.2.heap.length < 65536) (hn:0≤s.2.2.next∧s.2.2.next≤1000000000) :
    ∃ s',shIn rows c k a s=some (.next s')∧ShI n (arcA rows) S (fun j p=>j≠i∨p∈(arcA rows i).take (m + 1)) f s'∧gI s'.1 i=c∧gI s'.2.1 i=k∧(∀ j,f j=true→lle (gI s'.1 j) (gI s'.2.1 j) c k)∧s'.2.2.heap.length≤s.2.2.heap.length + 1∧s.2.2.next≤s'.2.2.next∧s'.2.2.next≤s.2.2.next + 1:=by
  obtain ⟨dl,kl,q⟩:=s
  obtain ⟨hD,h1,h2,h3⟩:=hI
  dsimp only at *
  have hAm:(arcA rows i)[m]?=some (a.dst.toNat,a.weight):=by unfold arcA;rw [hr];simp [ha]
  have hmem:=List.mem_of_getElem? hAm
  have hok:=h.ok i row a hr (List.mem_of_getElem? ha)
  have hA:=h.arcs
  have hns:=LE f n
  have hfew:=h.few
  have hdi:=hD.fin i hf
  have hbi:=hD.bnd i hdi
  rw [hc,hk] at hbi
  obtain ⟨j,hj⟩:∃ j:Nat,a.dst=(j:Int):=⟨a.dst.toNat,by omega⟩
  have hjn:j < n:=by omega
  have hDD:∀ u v,(u≠i∨v∈(arcA rows i).take (m + 1))→(u≠i∨v∈(arcA rows i).take m)∨(u=i∧v=(j,a.weight)):=fun u v hv=>by
    rcases hv with hv|hv
    · exact .inl (.inl hv)
    · rcases (GB hAm).1 hv with hv|hv
      · exact .inl (.inr hv)
      · by_cases e:u=i
        · exact .inr ⟨e,by rw [hv,hj];rfl⟩
        · exact .inl (.inl e)
  have hmem':(j,a.weight)∈arcA rows i:=by rw [hj] at hmem;exact hmem
  unfold shIn
  dsimp only
  have hwc:c + a.weight < Inf:=by unfold Inf;omega
  have hr1:inI64 (c + a.weight):=by unfold inI64;unfold Inf at hwc;omega
  have hr2:inI64 (k + 1):=by unfold inI64;omega
  rw [Cd hr1,An,Cd hr2,An,hj,HK (by omega:j < dl.length),An,An,HK (by omega:j < kl.length),An]
  by_cases hle:lle (gI dl j) (gI kl j) (c + a.weight) (k + 1)
  · have e:(if gI dl j < c + a.weight then some true else if c + a.weight=gI dl j then if gI kl j≤k + 1 then some true else some false else some false)=some true:=by
      unfold lle at hle
      by_cases e1:gI dl j < c + a.weight
      · rw [if_pos e1]
      · rw [if_neg e1,if_pos (by omega),if_pos (by omega)]
    rw [e,An,DN]
    refine ⟨_,rfl,⟨?_,h1,h2,h3⟩,hc,hk,hcur,by dsimp only;omega,by dsimp only;omega,by dsimp only;omega⟩
    exact hD.keep hDD (by unfold lle at hle;dsimp only;omega) (by rw [hc,hk];exact hle)
  · have e:(if gI dl j < c + a.weight then some true else if c + a.weight=gI dl j then if gI kl j≤k + 1 then some true else some false else some false)=some false:=by
      unfold lle at hle
      rw [if_neg (by omega)]
      by_cases e1:c + a.weight=gI dl j
      · rw [if_pos e1,if_neg (by omega)]
      · rw [if_neg e1]
    obtain ⟨r,p1,p2,p3,p4,p5⟩:=Ms h3 hl hn (c + a.weight) (k + 1) (j:Int)
    rw [e,An,Dc,p1,An,An,An,p2,if_neg (by decide),Int.toNat_natCast]
    obtain ⟨b1,b2⟩:=hD.better hA (D':=fun u v=>u≠i∨v∈(arcA rows i).take (m + 1)) hDD hf (by rw [hc,hk];exact hcur) (by rw [hc];exact hb) (by rw [hk];exact hb2) hmem' (by rw [hc,hk];exact hle) p4 (by dsimp only;rw [hc]) (by dsimp only;rw [hk]) rfl (by rw [hc];omega)
    dsimp only at b1 b2
    rw [hc,hk,← Fx (by omega),← Fx (by omega)] at b2
    have hij:i≠j:=fun e=>b1 e.symm
    refine ⟨_,rfl,⟨b2,by simp [h1],by simp [h2],p3⟩,?_,?_,?_,?_,?_,?_⟩
    · dsimp only;rw [Fx (by omega),AY hij];exact hc
    · dsimp only;rw [Fx (by omega),AY hij];exact hk
    · intro u hu
      dsimp only
      have hcu:=hcur u hu
      rw [Fx (by omega),Fx (by omega)]
      have hne:u≠j:=fun e=>by subst e;unfold lle at hcu hle;omega
      rw [AY hne,AY hne];exact hcu
    · have:=p4.length_eq;simp at this;dsimp only;omega
    · dsimp only;omega
    · dsimp only;omega
theorem Kp (h:RowsOk n rows):∀ (N:Nat) (s:LQ) (f:Nat→Bool),ShI n (arcA rows) S (fun _ _=>True) f s→s.2.2.heap.length + nRem (arcA rows) f n≤60000→0≤s.2.2.next→s.2.2.next + nRem (arcA rows) f n≤60000→s.2.2.heap.length + nRem (arcA rows) f n < N →
    ∃ s',lop (shF rows) s=some (.done s')∧s'.1.length=n∧s'.2.1.length=n∧LexP n (arcA rows) S (gI s'.1) (gI s'.2.1)∧(∀ i,gI s'.1 i=Inf→gI s'.2.1 i=Inf)∧∀ i,gI s'.1 i≠Inf→i < n∧0≤gI s'.1 i∧gI s'.1 i≤600 * 1048576∧0≤gI s'.2.1 i∧gI s'.2.1 i≤600
  | 0,_,_,_,_,_,_,h0=>absurd h0 (by omega)
  | N + 1,(dl,kl,q),f,hI,hm,hn0,hn1,h0=>by
    obtain ⟨hD,h1,h2,h3⟩:=hI
    dsimp only at *
    rw [Gv]
    unfold shF
    have hlen:CE q=some (q.heap.length:Int):=rfl
    dsimp only
    rw [hlen,An]
    by_cases hz:q.heap.length=0
    · rw [if_neg (by omega)]
      have hnil:q.heap=[]:=List.length_eq_zero_iff.1 hz
      rw [hnil] at hD
      refine ⟨_,rfl,h1,h2,hD.done,hD.inf,fun i hi=>?_⟩
      have:=hD.bnd i hi
      have hns:=LE f n
      have:=h.few
      dsimp only at *
      omega
    · rw [if_pos (by omega)]
      obtain ⟨r,r1,e,q',rfl,q1,q2,q3,q4⟩:=Qx h3 (by omega) (by omega)
      rw [r1,An]
      dsimp only
      rw [if_neg (by decide)]
      obtain ⟨i,hi,hin,hdi,_⟩:=hD.ent e (q2.mem_iff.2 List.mem_cons_self)
      have hql:=q2.length_eq
      rw [List.length_cons] at hql
      rw [hi,HK (by omega),An,HK (by omega),An]
      by_cases hs:e.key=gI dl i∧e.tie=gI kl i
      · rw [if_neg (by simp [hs.1]),if_neg (by simp [hs.2]),An,Dc]
        obtain ⟨m1,m2,m3,m4,m5,m6,m7⟩:=hD.mark q2 q3 hi hs.1 hs.2
        obtain ⟨row,hrow⟩:=AD (l:=rows) (k:=i) (by rw [h.len];exact m2)
        rw [BR,hrow,An]
        have hAl:(arcA rows i).length=row.length:=by unfold arcA;rw [hrow];simp
        have hbi:=hD.bnd i m3
        obtain ⟨s',s1,s2,s3,s4,s5,s6,s7,s8⟩:=DA (ρ:=Ctl LQ (List Int×List Int)) (f:=fun (_:Nat) (a338:Arc) (s335:LQ)=>shIn rows e.key e.tie a338 s335) (xs:=row) (s₀:=(dl,kl,q'))
          (fun m s=>ShI n (arcA rows) S (fun j p=>j≠i∨p∈(arcA rows i).take m) (upd f i true) s∧gI s.1 i=e.key∧gI s.2.1 i=e.tie∧(∀ j,upd f i true j=true→lle (gI s.1 j) (gI s.2.1 j) e.key e.tie)∧s.2.2.heap.length≤q'.heap.length + m∧q'.next≤s.2.2.next∧s.2.2.next≤q'.next + m)
          ⟨⟨{ m7 with rel:=fun j p hj hp hd=>m7.rel j p hj hp (hd.resolve_right (by simp)) },h1,h2,q1⟩,hs.1.symm,hs.2.symm,fun j hj=>by rw [hs.1,hs.2];exact m6 j hj,by simp,by simp,by simp⟩
          (fun m a s hma hI=>by
            obtain ⟨i1,i2,i3,i4,i5,i6,i7⟩:=hI
            have hml:=AC hma
            obtain ⟨s',t1,t2,t3,t4,t5,t6,t7,t8⟩:=Qz h hrow hma i1 i2 i3 (Bb ..) i4 (by rw [m4,hs.1];omega) (by rw [m4,hs.2];omega) (by omega) ⟨by omega,by omega⟩
            exact ⟨s',t1,t2,t3,t4,t5,by omega,by omega,by omega⟩)
        rw [s1,An,Cr]
        dsimp only at s2 s6 s7 s8 ⊢
        refine Kp h N (s'.1,s'.2.1,s'.2.2) (upd f i true) ⟨{ s2.dj with rel:=fun j p hj hp _=>s2.dj.rel j p hj hp ?_ },s2.l1,s2.l2,s2.hp⟩ ?_ ?_ ?_ ?_
        · by_cases ej:j=i
          · subst ej;exact .inr (by rw [List.take_of_length_le (by omega)];exact hp)
          · exact .inl ej
        all_goals dsimp only;omega
      · have e2:(if e.key≠gI dl i then some true else if e.tie≠gI kl i then some true else some false)=some true:=by
          by_cases e1:e.key=gI dl i
          · rw [if_neg (by simp [e1]),if_pos (fun hh=>hs ⟨e1,hh⟩)]
          · rw [if_pos e1]
        rw [e2,An,DN]
        refine Kp h N (dl,kl,q') f ⟨hD.drop q2 hi hs,h1,h2,q1⟩ ?_ ?_ ?_ ?_
        all_goals dsimp only;omega
theorem Py {n:Nat} (hn:n≤1000000):rngN (ρ:=(List Int)×(List Int)) (fun (k77:Nat) (s75:(List Int)×(List Int))=>bnd (s75.1[k77]?) fun a104=>bnd (s75.2[k77]?) fun a116=>some (.next ((s75.1.set k77 1125899906842624),(s75.2.set k77 1125899906842624)))) n (List.replicate n (0:Int),List.replicate n (0:Int))=some (.done (List.replicate n Inf,List.replicate n Inf)):=by
  have key:∀ k,k < n→(List.replicate k Inf ++ List.replicate (n - k) 0)[k]?=some 0∧(List.replicate k Inf ++ List.replicate (n - k) 0).set k 1125899906842624=List.replicate (k + 1) Inf ++ List.replicate (n - (k + 1)) 0:=fun k hk=>by
    refine ⟨by rw [List.getElem?_append_right (by simp),List.getElem?_replicate,if_pos (by simp;omega)],?_⟩
    apply List.ext_getElem?
    intro j
    rcases Nat.lt_trichotomy j k with h|h|h
    · rw [List.getElem?_set_ne (by omega),List.getElem?_append_left (by simp;omega),List.getElem?_append_left (by simp;omega)]
      rw [List.getElem?_replicate,List.getElem?_replicate,if_pos (by omega),if_pos (by omega)]
    · subst h
      rw [List.getElem?_set_self (by simp;omega),List.getElem?_append_left (by simp)]
      simp [Inf]
    · rw [List.getElem?_set_ne (by omega),List.getElem?_append_right (by simp;omega),List.getElem?_append_right (by simp;omega)]
      simp only [List.length_replicate,List.getElem?_replicate]
      by_cases hj:j < n
      · rw [if_pos (by omega),if_pos (by omega)]
      · rw [if_neg (by omega),if_neg (by omega)]
  rw [KJ (fun k=>(List.replicate k Inf ++ List.replicate (n - k) 0,List.replicate k Inf ++ List.replicate (n - k) 0)) (by simp) (fun k hk=>?_)]
  · simp
  · obtain ⟨e1,e2⟩:=key k hk
    dsimp only
    rw [e1,An,An,e2]
theorem Hc (h:RowsOk n rows) (hT:nRem (arcA rows) (fun _=>false) n≤50000) {src:List Int} (hs:∀ x∈src,0≤x∧x < (n:Int)) (hsn:src.Nodup) (hsl:src.length≤1000) :
    ∃ d k,Bu rows src=some (d,k)∧d.length=n∧k.length=n∧LexP n (arcA rows) (fun i=>(i:Int)∈src) (gI d) (gI k)∧(∀ i,gI d i=Inf→gI k i=Inf)∧∀ i,gI d i≠Inf→i < n∧0≤gI d i∧gI d i≤600 * 1048576∧0≤gI k i∧gI k i≤600:=by
  have hfew:=h.few
  rw [Qy,h.len,Gt (by omega) (by omega),An,An,An]
  dsimp only
  rw [List.length_replicate,Py (by omega),An,Cr]
  obtain ⟨q0,hq0,hh0,hn0⟩:∃ q0:Que,DJ=some (some q0)∧q0.heap=[]∧q0.next=0:=⟨⟨[],0⟩,rfl,rfl,rfl⟩
  rw [hq0,An,An]
  obtain ⟨s1,e1,e2,e3,e4,e5⟩:=DA (ρ:=(List Int)×(List Int)) (f:=fun (_:Nat) (a152:Int) (s149:LQ)=>shS a152 s149) (xs:=src) (s₀:=((List.replicate n Inf,List.replicate n Inf).1,(List.replicate n Inf,List.replicate n Inf).2,q0))
    (fun m s=>ShI n (arcA rows) (fun j=>(j:Int)∈src.take m) (fun _ _=>True) (fun _=>false) s∧(∀ j:Nat,¬ (j:Int)∈src.take m→gI s.1 j=Inf)∧s.2.2.heap.length=m∧s.2.2.next=(m:Int))
    ⟨⟨by dsimp only;rw [Ny,hh0];simpa using Ot,by simp,by simp,by dsimp only;rw [hh0];intro j x y _ hx;simp at hx⟩,fun j _=>by dsimp only;rw [Ny],by dsimp only;rw [hh0];rfl,by dsimp only;rw [hn0];rfl⟩
    (fun m x s hx hI=>by
      obtain ⟨⟨hD,h1,h2,h3⟩,hinf,hl,hnx⟩:=hI
      obtain ⟨dl,kl,q⟩:=s
      dsimp only at *
      have hm:=AC hx
      obtain ⟨x0,x1⟩:=hs x (List.mem_of_getElem? hx)
      obtain ⟨j,rfl⟩:∃ j:Nat,x=(j:Int):=⟨x.toNat,by omega⟩
      have hnot:¬ (j:Int)∈src.take m:=fun hh=>by
        obtain ⟨i,hi⟩:=List.getElem?_of_mem hh
        have hi1:=AC hi
        rw [List.length_take] at hi1
        replace hi1:i < m:=by omega
        have hi2:=ID hi
        obtain ⟨b1,c1⟩:=List.getElem?_eq_some_iff.1 hi2
        obtain ⟨b2,c2⟩:=List.getElem?_eq_some_iff.1 hx
        have:=(List.pairwise_iff_getElem.1 hsn) i m b1 b2 hi1
        exact this (by rw [c1,c2])
      obtain ⟨r,p1,p2,p3,p4,p5⟩:=Ms (q:=q) h3 (by omega) (by omega) 0 0 (j:Int)
      unfold shS
      dsimp only
      rw [HK (by omega),An,HK (by omega),An,p1,An,Int.toNat_natCast]
      have hsrc:=hD.source (by omega) (hinf j hnot) p4 rfl rfl rfl
      rw [← Fx (by omega),← Fx (by omega)] at hsrc
      refine ⟨_,rfl,⟨?_,by simp [h1],by simp [h2],p3⟩,?_,?_,?_⟩
      · have e:(fun i:Nat=>(i:Int)∈src.take (m + 1))=fun i:Nat=>(i:Int)∈src.take m∨i=j:=by
          funext i
          rw [GB hx]
          apply propext
          constructor<;>rintro (a|a)
          · exact .inl a
          · exact .inr (by omega)
          · exact .inl a
          · exact .inr (by omega)
        rw [e];exact hsrc
      · intro i hi
        rw [GB hx] at hi
        dsimp only
        rw [Fx (by omega),AY (fun e=>hi (.inr (by omega)))]
        exact hinf i (fun hh=>hi (.inl hh))
      · have:=p4.length_eq;simp at this;dsimp only;omega
      · dsimp only;omega)
  rw [e1,An,Cr]
  rw [List.take_length] at e2
  obtain ⟨s2,g1,g2,g3,g4,g5,g6⟩:=Kp h (s1.2.2.heap.length + nRem (arcA rows) (fun _=>false) n + 1) (s1.1,s1.2.1,s1.2.2) (fun _=>false) e2 (by dsimp only;omega) (by dsimp only;omega) (by dsimp only;omega) (by dsimp only;omega)
  rw [g1,An]
  exact ⟨s2.1,s2.2.1,rfl,g2,g3,g4,g5,g6⟩
end
end
section
set_option linter.unusedVariables false
set_option linter.unusedSimpArgs false
open Go Go.RowKit
def costE (t:Tsk) (e:Edj):Int:=match t.ops[e.label.toNat]? with|some o=>o.cost|none=>0
structure EdgesOk (t:Tsk) (n:Nat) (es:List Edj):Prop where
  ok:∀ e∈es,0≤e.src∧e.src < (n:Int)∧0≤e.dst∧e.dst < (n:Int)∧0≤e.label∧e.label < (t.ops.length:Int)
  few:es.length≤48000
def fwdR (t:Tsk) (es:List Edj) (i:Nat):List Arc:=(es.filter fun e=>decide (e.src=(i:Int))).map fun e=>⟨e.src,e.dst,costE t e⟩
def bwdR (t:Tsk) (es:List Edj) (i:Nat):List Arc:=(es.filter fun e=>decide (e.dst=(i:Int))).map fun e=>⟨e.dst,e.src,costE t e⟩
def fwdA (t:Tsk) (es:List Edj) (i:Nat):List (Nat×Int):=(es.filter fun e=>decide (e.src=(i:Int))).map fun e=>(e.dst.toNat,costE t e)
def bwdA (t:Tsk) (es:List Edj) (i:Nat):List (Nat×Int):=(es.filter fun e=>decide (e.dst=(i:Int))).map fun e=>(e.src.toNat,costE t e)
theorem JC {t:Tsk} (hok:TaskOk t) {n:Nat} {es:List Edj} (h:EdgesOk t n es) {e:Edj} (he:e∈es):∃ o,atI t.ops e.label=some o∧costE t e=o.cost∧0≤costE t e∧costE t e≤1048576:=by
  obtain ⟨_,_,_,_,h1,h2⟩:=h.ok e he
  obtain ⟨j,hj⟩:∃ j:Nat,e.label=(j:Int):=⟨e.label.toNat,by omega⟩
  obtain ⟨o,ho⟩:=AD (l:=t.ops) (k:=j) (by omega)
  have hc:costE t e=o.cost:=by unfold costE;rw [hj,Int.toNat_natCast,ho]
  have:=hok.2.2.2.2.2 j o ho
  exact ⟨o,by rw [hj,BR,ho],hc,by rw [hc];exact this.1,by rw [hc];exact this.2.1⟩
theorem LG {t:Tsk} {es:List Edj} {i j:Nat} {w:Int}:(j,w)∈bwdA t es i↔∃ e∈es,e.dst=(i:Int)∧e.src.toNat=j∧costE t e=w:=by
  unfold bwdA
  rw [List.mem_map]
  constructor
  · rintro ⟨e,he,hp⟩
    obtain ⟨h1,h2⟩:=List.mem_filter.1 he
    injection hp with h3 h4
    exact ⟨e,h1,of_decide_eq_true h2,h3,h4⟩
  · rintro ⟨e,h1,h2,h3,h4⟩
    exact ⟨e,List.mem_filter.2 ⟨h1,decide_eq_true h2⟩,by rw [h3,h4]⟩
structure RowsAre (n:Nat) (rows:List (List Arc)) (g:Nat→List Arc):Prop where
  len:rows.length=n
  at_:∀ i,i < n→rows[i]?=some (g i)
theorem RowsAre.congr {n:Nat} {rows:List (List Arc)} {g g':Nat→List Arc} (h:RowsAre n rows g) (he:∀ i,i < n→g i=g' i):RowsAre n rows g':=⟨h.len,fun i hi=>by rw [h.at_ i hi,he i hi]⟩
theorem RowsAre.rep (n:Nat):RowsAre n (List.replicate n []) fun _=>[]:=⟨by simp,fun i hi=>by rw [List.getElem?_replicate,if_pos hi]⟩
theorem RowsAre.set {n:Nat} {rows:List (List Arc)} {g:Nat→List Arc} (h:RowsAre n rows g) {j:Nat} (hj:j < n) (r:List Arc):RowsAre n (rows.set j r) (upd g j r):=⟨by simp [h.len],fun i hi=>by
  by_cases e:i=j
  · subst e;rw [Bb,List.getElem?_set_self (by rw [h.len];exact hi)]
  · rw [AY e,List.getElem?_set_ne (Ne.symm e)];exact h.at_ i hi⟩
theorem RowsAre.nRem_le {n:Nat} {rows:List (List Arc)} {g:Nat→List Arc} (h:RowsAre n rows g) {f:Nat→Nat} (hf:∀ i,i < n→(g i).length=f i):nRem (arcA rows) (fun _=>false) n=sumF f n:=by
  unfold nRem
  refine HJ fun j hj=>?_
  rw [if_neg (by simp)]
  unfold arcA
  rw [h.at_ j hj]
  simp [hf j hj]
theorem Hd {α:Type} (key:α→Int) (n:Nat):∀ (l:List α),sumF (fun i=>(l.filter fun e=>decide (key e=(i:Int))).length) n≤l.length
  | []=>by
    have:∀ n,sumF (fun i=>(([]:List α).filter fun e=>decide (key e=(i:Int))).length) n=0:=fun n=>by
      induction n with
      | zero=>rfl
      | succ n ih=>simp [sumF] at ih ⊢;exact ih
    rw [this];exact Nat.zero_le _
  | e :: l=>by
    have h:=Hd key n l
    have key2:∀ m,sumF (fun i=>((e :: l).filter fun e=>decide (key e=(i:Int))).length) m≤sumF (fun i=>(l.filter fun e=>decide (key e=(i:Int))).length) m + if 0≤key e∧key e < (m:Int) then 1 else 0:=fun m=>by
      induction m with
      | zero=>simp [sumF]
      | succ m ih =>
        simp only [sumF]
        rw [List.filter_cons]
        by_cases hk:key e=(m:Int)
        · rw [if_pos (decide_eq_true hk),List.length_cons,if_pos (by omega)]
          rw [if_neg (by omega)] at ih
          omega
        · rw [if_neg (by simp [hk])]
          by_cases hl:0≤key e∧key e < (m:Int)
          · rw [if_pos (by omega)];rw [if_pos hl] at ih;omega
          · rw [if_neg (by omega)];rw [if_neg hl] at ih;omega
    have:=key2 n
    rw [List.length_cons]
    split at this<;>omega
theorem RowsAre.ok {t:Tsk} (hok:TaskOk t) {n:Nat} (hn:n≤600) {es:List Edj} (he:EdgesOk t n es) {rows:List (List Arc)}:(RowsAre n rows (fwdR t es)→RowsOk n rows∧nRem (arcA rows) (fun _=>false) n≤es.length∧∀ i,i < n→arcA rows i=fwdA t es i) ∧
    (RowsAre n rows (bwdR t es)→RowsOk n rows∧nRem (arcA rows) (fun _=>false) n≤es.length∧∀ i,i < n→arcA rows i=bwdA t es i):=by
  refine ⟨fun h=>⟨⟨h.len,hn,fun i r a hr ha=>?_⟩,?_,fun i hi=>?_⟩,fun h=>⟨⟨h.len,hn,fun i r a hr ha=>?_⟩,?_,fun i hi=>?_⟩⟩
  · have hi:=AC hr
    rw [h.len] at hi
    rw [h.at_ i hi] at hr
    obtain rfl:=Option.some.inj hr
    obtain ⟨e,hm,rfl⟩:=List.mem_map.1 ha
    have hmem:=(List.mem_filter.1 hm).1
    obtain ⟨_,_,_,c1,c2⟩:=JC hok he hmem
    have:=he.ok e hmem
    dsimp only;omega
  · rw [h.nRem_le (f:=fun i=>(es.filter fun e=>decide (e.src=(i:Int))).length) (fun i _=>by unfold fwdR;rw [List.length_map])]
    exact Hd (fun e:Edj=>e.src) n es
  · unfold arcA fwdA;rw [h.at_ i hi];unfold fwdR;simp
  · have hi:=AC hr
    rw [h.len] at hi
    rw [h.at_ i hi] at hr
    obtain rfl:=Option.some.inj hr
    obtain ⟨e,hm,rfl⟩:=List.mem_map.1 ha
    have hmem:=(List.mem_filter.1 hm).1
    obtain ⟨_,_,_,c1,c2⟩:=JC hok he hmem
    have:=he.ok e hmem
    dsimp only;omega
  · rw [h.nRem_le (f:=fun i=>(es.filter fun e=>decide (e.dst=(i:Int))).length) (fun i _=>by unfold bwdR;rw [List.length_map])]
    exact Hd (fun e:Edj=>e.dst) n es
  · unfold arcA bwdA;rw [h.at_ i hi];unfold bwdR;simp
theorem JD {t:Tsk} {n:Nat} {es:List Edj} (he:EdgesOk t n es) {i:Nat} (hi:¬ i < n):fwdA t es i=[]∧bwdA t es i=[]:=by
  unfold fwdA bwdA
  rw [List.filter_eq_nil_iff.2 fun e hm=>by have:=he.ok e hm;simp;omega,List.filter_eq_nil_iff.2 fun e hm=>by have:=he.ok e hm;simp;omega]
  exact ⟨rfl,rfl⟩
theorem JE {n:Nat} {rows:List (List Arc)} (h:rows.length=n) {i:Nat} (hi:¬ i < n):arcA rows i=[]:=by
  unfold arcA;rw [List.getElem?_eq_none (by omega)];rfl
def goalIx (gs:List Bool):List Int:=(((List.range gs.length).filter fun i=>(gs[i]?).getD false).map fun i:Nat=>(i:Int))
theorem MO {ρ:Type} {gs:List Bool} (hl:gs.length≤1000000):rng (ρ:=ρ) (fun (k446:Nat) (a447:Bool) (s444:(List Int))=>if a447=true then (bnd (appI 8 s444 [(k446:Int)]) fun u469=>some (.next u469)) else (some (.next s444))) gs 0 ([]:List Int)=some (.done (goalIx gs)):=by
  refine Es (fun m=>((List.range m).filter fun i=>(gs[i]?).getD false).map fun i:Nat=>(i:Int)) (by simp) fun m b hb=>?_
  have hm:=AC hb
  have hlen:(((List.range m).filter fun i=>(gs[i]?).getD false).map fun i:Nat=>(i:Int)).length≤m:=by
    rw [List.length_map]
    exact Nat.le_trans (List.length_filter_le _ _) (by simp)
  rw [List.range_succ,List.filter_append]
  cases b with
  | true =>
    rw [if_pos rfl,Cp (by simp at hlen ⊢;omega) (by simp at hlen ⊢;omega),An]
    simp [hb]
  | false=>rw [if_neg (by simp)];simp [hb]
theorem EU {gs:List Bool} {x:Int}:x∈goalIx gs↔∃ i:Nat,x=(i:Int)∧gs[i]?=some true:=by
  unfold goalIx
  rw [List.mem_map]
  constructor
  · rintro ⟨i,hi,rfl⟩
    obtain ⟨h1,h2⟩:=List.mem_filter.1 hi
    refine ⟨i,rfl,?_⟩
    cases hg:gs[i]? with
    | none=>rw [hg] at h2;simp at h2
    | some b=>rw [hg] at h2;simp at h2;rw [h2]
  · rintro ⟨i,rfl,hi⟩
    exact ⟨i,List.mem_filter.2 ⟨List.mem_range.2 (AC hi),by rw [hi];rfl⟩,rfl⟩
theorem IF (gs:List Bool):(goalIx gs).Nodup:=by
  unfold goalIx
  unfold List.Nodup
  rw [List.pairwise_map]
  exact ((List.nodup_range).sublist List.filter_sublist).imp fun h e=>h (by omega)
theorem Kb (gs:List Bool):(goalIx gs).length≤gs.length:=by
  unfold goalIx
  rw [List.length_map]
  exact Nat.le_trans (List.length_filter_le _ _) (by simp)
noncomputable def meaF (t:Tsk):Edj→(List (List Arc))×(List (List Arc))→Option (Ctl ((List (List Arc))×(List (List Arc))) Spa):=fun a180 s177=>bnd (atI t.ops a180.label) fun a258=>bnd (atI s177.1 a180.src) fun a279=>bnd (appI 24 a279 [(⟨a180.src,a180.dst,a258.cost⟩:Arc)]) fun u304=>bnd (atI s177.1 a180.src) fun a315=>bnd (atI s177.2 a180.dst) fun a330=>bnd (appI 24 a330 [(⟨a180.dst,a180.src,a258.cost⟩:Arc)]) fun u355=>bnd (atI s177.2 a180.dst) fun a366=>some (.next ((s177.1.set (a180.src:Int).toNat u304),(s177.2.set (a180.dst:Int).toNat u355)))
theorem Pz (x0:Spa):BM x0=bnd (Bd x0.states) fun q45=>bnd (mkI 24 ([]:List Arc) q45) fun u55=>bnd (mkI 24 ([]:List Arc) q45) fun u57=>bnd (some (u55,u57):Option ((List (List Arc))×(List (List Arc)))) fun y59=>bnd (rng (ρ:=Spa) (fun (_:Nat) (a180:Edj) (s177:(List (List Arc))×(List (List Arc)))=>meaF x0.t a180 s177) x0.edges 0 (y59.1,y59.2)) fun res175=>fin res175 fun (s390:(List (List Arc))×(List (List Arc)))=>bnd (rng (ρ:=Spa) (fun (k446:Nat) (a447:Bool) (s444:(List Int))=>if a447=true then (bnd (appI 8 s444 [(k446:Int)]) fun u469=>some (.next u469)) else (some (.next s444))) x0.goals 0 ([]:List Int)) fun res442=>fin res442 fun (s485:(List Int))=>bnd (Bu s390.1 ([0]:List Int)) fun q497=>bnd (Bu s390.2 s485) fun q561=>some (⟨(⟨x0.t.vars,x0.t.init,x0.t.goal,x0.t.ops⟩:Tsk),x0.states,x0.edges,x0.goals,q497.1,q561.1,q561.2⟩:Spa):=rfl
theorem Nz {t:Tsk} {es:List Edj} {m:Nat} {e:Edj} (he:es[m]?=some e) (i:Nat):fwdR t (es.take (m + 1)) i=fwdR t (es.take m) i ++ if e.src=(i:Int) then [⟨e.src,e.dst,costE t e⟩] else []:=by
  unfold fwdR
  rw [List.take_add_one,he,List.filter_append,List.map_append]
  by_cases h:e.src=(i:Int)
  · rw [if_pos h];simp [h]
  · rw [if_neg h];simp [h]
theorem NA {t:Tsk} {es:List Edj} {m:Nat} {e:Edj} (he:es[m]?=some e) (i:Nat):bwdR t (es.take (m + 1)) i=bwdR t (es.take m) i ++ if e.dst=(i:Int) then [⟨e.dst,e.src,costE t e⟩] else []:=by
  unfold bwdR
  rw [List.take_add_one,he,List.filter_append,List.map_append]
  by_cases h:e.dst=(i:Int)
  · rw [if_pos h];simp [h]
  · rw [if_neg h];simp [h]
theorem Ou (t:Tsk) (es:List Edj) (i:Nat):(fwdR t es i).length≤es.length:=by unfold fwdR;rw [List.length_map];exact List.length_filter_le _ _
theorem LH (t:Tsk) (es:List Edj) (i:Nat):(bwdR t es i).length≤es.length:=by unfold bwdR;rw [List.length_map];exact List.length_filter_le _ _
structure SpaOk (t:Tsk) (n:Nat) (es:List Edj) (gs:List Bool) (x:Spa):Prop where
  t_:x.t=t
  ed:x.edges=es
  go:x.goals=gs
  cl:x.costs.length=n
  dl:x.distances.length=n
  sl:x.steps.length=n
  cost:∃ k,LexP n (fwdA t es) (fun i=>i=0) (gI x.costs) k∧∀ i,gI x.costs i≠Inf→i < n∧0≤gI x.costs i∧gI x.costs i≤600 * 1048576
  dist:LexP n (bwdA t es) (fun i=>gs[i]?=some true) (gI x.distances) (gI x.steps)
  inf:∀ i,gI x.distances i=Inf→gI x.steps i=Inf
  bnd:∀ i,gI x.distances i≠Inf→i < n∧0≤gI x.distances i∧gI x.distances i≤600 * 1048576∧0≤gI x.steps i∧gI x.steps i≤600
theorem LexP.arcs {n:Nat} {A A':Nat→List (Nat×Int)} {S S':Nat→Prop} {d k:Nat→Int} (h:LexP n A S d k) (hA:A=A') (hS:S=S'):LexP n A' S' d k:=by subst hA;subst hS;exact h
theorem MP {t:Tsk} (hok:TaskOk t) {n:Nat} (hn:n≤600) (hn0:0 < n) {x:Spa} (ht:x.t=t) (hlen:x.states.entries.length=n) (he:EdgesOk t n x.edges) (hg:x.goals.length=n) :
    ∃ r,BM x=some r∧r.states=x.states∧SpaOk t n x.edges x.goals r:=by
  rw [Pz,show Bd x.states=some (x.states.entries.length:Int) from rfl,An,hlen,Gt (by omega) (by omega),An,An,An,ht]
  dsimp only
  obtain ⟨s,e1,e2,e3⟩:=DA (ρ:=Spa) (f:=fun (_:Nat) (a180:Edj) (s177:(List (List Arc))×(List (List Arc)))=>meaF t a180 s177) (xs:=x.edges) (s₀:=(List.replicate n [],List.replicate n []))
    (fun m s=>RowsAre n s.1 (fwdR t (x.edges.take m))∧RowsAre n s.2 (bwdR t (x.edges.take m))) ⟨(RowsAre.rep n).congr fun i _=>by simp [fwdR],(RowsAre.rep n).congr fun i _=>by simp [bwdR]⟩
    (fun m e s hm hI=>by
      obtain ⟨hF,hB⟩:=hI
      have hmem:=List.mem_of_getElem? hm
      obtain ⟨s1,s2,d1,d2,_,_⟩:=he.ok e hmem
      obtain ⟨o,o1,o2,_⟩:=JC hok he hmem
      obtain ⟨i,hi⟩:∃ i:Nat,e.src=(i:Int):=⟨e.src.toNat,by omega⟩
      obtain ⟨j,hj⟩:∃ j:Nat,e.dst=(j:Int):=⟨e.dst.toNat,by omega⟩
      have hml:=AC hm
      have hfew:=he.few
      have fl:=Ou t (x.edges.take m) i
      have bl:=LH t (x.edges.take m) j
      rw [List.length_take] at fl bl
      unfold meaF
      rw [o1,An,hi,hj,BR,hF.at_ i (by omega),An,Cp (by rw [List.length_singleton];omega) (by rw [List.length_singleton];omega),An,An,BR,hB.at_ j (by omega),An,Cp (by rw [List.length_singleton];omega) (by rw [List.length_singleton];omega),An,An,Int.toNat_natCast,Int.toNat_natCast]
      refine ⟨_,rfl,(hF.set (by omega) _).congr fun u _=>?_,(hB.set (by omega) _).congr fun u _=>?_⟩
      · rw [Nz hm]
        by_cases hu:u=i
        · subst hu;rw [Bb,if_pos hi,o2,hi,hj]
        · rw [AY hu,if_neg (by omega),List.append_nil]
      · rw [NA hm]
        by_cases hu:u=j
        · subst hu;rw [Bb,if_pos hj,o2,hi,hj]
        · rw [AY hu,if_neg (by omega),List.append_nil])
  rw [List.take_length] at e2 e3
  rw [e1,An,Cr,MO (by omega),An,Cr]
  obtain ⟨f1,f2,f3⟩:=(RowsAre.ok hok hn he).1 e2
  obtain ⟨b1,b2,b3⟩:=(RowsAre.ok hok hn he).2 e3
  have hfew:=he.few
  obtain ⟨c,k,c1,c2,_,c3,_,c4⟩:=Hc f1 (by omega) (src:=[0]) (fun x hx=>by simp at hx;omega) (by simp) (by simp)
  obtain ⟨d,l,d1,d2,d3,d4,d5,d6⟩:=Hc b1 (by omega) (src:=goalIx x.goals) (fun y hy=>by
    obtain ⟨i,rfl,hi⟩:=EU.1 hy
    have:=AC hi
    omega) (IF _) (by have:=Kb x.goals;omega)
  rw [c1,An,d1,An]
  have hfA:arcA s.1=fwdA t x.edges:=funext fun i=>by
    by_cases hi:i < n
    · exact f3 i hi
    · rw [JE e2.len hi,(JD he hi).1]
  have hbA:arcA s.2=bwdA t x.edges:=funext fun i=>by
    by_cases hi:i < n
    · exact b3 i hi
    · rw [JE e3.len hi,(JD he hi).2]
  refine ⟨_,rfl,rfl,rfl,rfl,rfl,c2,d2,d3,⟨gI k,c3.arcs hfA (funext fun i=>by simp),fun i hi=>?_⟩,d4.arcs hbA (funext fun i=>propext ⟨fun hh=>?_,fun hh=>EU.2 ⟨i,rfl,hh⟩⟩),d5,d6⟩
  · have:=c4 i hi;exact ⟨this.1,this.2.1,this.2.2.1⟩
  · obtain ⟨j,hj,hg⟩:=EU.1 hh
    obtain rfl:i=j:=by omega
    exact hg
end
end Go.Proofs.YtkbmbcblgdgjlaaGreat

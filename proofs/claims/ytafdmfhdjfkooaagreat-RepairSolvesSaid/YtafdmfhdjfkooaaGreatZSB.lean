/- Own text: what the proof of repairSolves_holds uses, part 2: rules, models and their proofs, plain laws. -/
import Derived.Test.YtafdmfhdjfkooaaGreatZSA
set_option linter.unusedVariables false
set_option linter.unusedSimpArgs false
namespace Go.Proofs.YtafdmfhdjfkooaaGreat
open Go Go.RowKit
section
open Go Go.RowKit
class TMap (P:Program) (t:TypeId) (k e:outParam TypeId):Prop where eq:P.underlying t=some (.map k e)
class MKey (K:Type) where
  dec:DecidableEq K
  enc:K→Value
  desc:TypeDesc
  key:∀ a,MapKept.IsKey desc (enc a)
  inj:∀ a b,enc a=enc b→a=b
class TKey (P:Program) (t:TypeId) (K:Type) [MKey K]:Prop where eq:P.underlying t=some (MKey.desc K)
instance:MKey Int where
  dec:=inferInstance
  enc a:=.int .i64 a
  desc:=.int .i64
  key _:=rfl
  inj _ _ h:=by injection h
section
variable {K V : Type} [MKey K]
instance keyDec:DecidableEq K:=MKey.dec
def mhas:List (K×V)→K→Bool
  | [],_=>false
  | p :: r,k=>if p.1=k then true else mhas r k
def mget (z:V):List (K×V)→K→V
  | [],_=>z
  | p :: r,k=>if p.1=k then p.2 else mget z r k
def mput:List (K×V)→K→V→List (K×V)
  | [],k,v=>[(k,v)]
  | p :: r,k,v=>if p.1=k then (k,v) :: r else p :: mput r k v
def midx:List (K×V)→K→Option Nat
  | [],_=>none
  | p :: r,k=>if p.1=k then some 0 else (midx r k).map (· + 1)
theorem Ga (a:K):∀ (es:List MapEntry) (x:List (K×V)) (i:Nat),es.map (·.key)=x.map (fun p=>MKey.enc p.1) →
    (midx x a=none∧Instr.findNow (MKey.desc K) (MKey.enc a) es i=some none∧mhas x a=false∧(∀ z,mget z x a=z)∧∀ v,mput x a v=x ++ [(a,v)]) ∨
    ∃ j e p,midx x a=some j∧es[j]?=some e∧x[j]?=some p∧Instr.findNow (MKey.desc K) (MKey.enc a) es i=some (some (i + j,e.val))∧e.key=MKey.enc a∧mhas x a=true∧(∀ z,mget z x a=p.2)∧∀ v,mput x a v=x.set j (a,v)
  | [],[],_,_=>.inl ⟨rfl,rfl,rfl,fun _=>rfl,fun _=>rfl⟩
  | [],_ :: _,_,h=>by simp at h
  | _ :: _,[],_,h=>by simp at h
  | e :: es,p :: x,i,h=>by
    rw [List.map_cons,List.map_cons] at h
    injection h with h1 h2
    obtain ⟨r,hr,hiff⟩:=MapKept.sameNow_of_keys (MKey.key a) (MKey.key p.1)
    by_cases hp:p.1=a
    · have:r=true:=hiff.2 (by rw [hp])
      subst this
      refine .inr ⟨0,e,p,by simp [midx,hp],rfl,rfl,?_,by rw [h1,hp],by simp [mhas,hp],fun z=>by simp [mget,hp],fun v=>by simp [mput,hp]⟩
      simp [Instr.findNow,h1,hr]
    · have:r=false:=by
        cases r with
        | false=>rfl
        | true=>exact absurd (MKey.inj _ _ (hiff.1 rfl)).symm hp
      subst this
      rcases Ga a es x (i + 1) h2 with ⟨g0,g1,g2,g3,g4⟩|⟨j,e',p',g0,g1,g2,g3,g4,g5,g6,g7⟩
      · exact .inl ⟨by simp [midx,hp,g0],by simp [Instr.findNow,h1,hr,g1],by simp [mhas,hp,g2],fun z=>by simp [mget,hp,g3],fun v=>by simp [mput,hp,g4]⟩
      · refine .inr ⟨j + 1,e',p',by simp [midx,hp,g0],by simpa using g1,by simpa using g2,?_,g4,by simp [mhas,hp,g5],fun z=>by simp [mget,hp,g6],fun v=>by simp [mput,hp,g7]⟩
        simp [Instr.findNow,h1,hr,g3];omega
end
def LkV (d:TypeDesc) (z:Value) (w:World) (r:Nat) (key v:Value) (b:Bool):Prop:=∃ es ck a,w.heap[r]?=some (.map es ck)∧Instr.findNow d key es.toList 0=some a∧v=(match a with|some p=>p.2|none=>z)∧b=a.isSome
theorem LkV.keep {d:TypeDesc} {z:Value} {w w':World} {r:Nat} {key v:Value} {b:Bool} (h:LkV d z w r key v b) (e:w'.heap[r]?=w.heap[r]?):LkV d z w' r key v b:=by
  obtain ⟨es,ck,a,h1,h2⟩:=h
  exact ⟨es,ck,a,e.trans h1,h2⟩
section
variable {P : Program} {l : Env} {w : World} {dst : Option Tmp} {ty : TypeId} {pos : String} {aft : Array Edge}
theorem QS {K:Type} [MKey K] {t k e:TypeId} [ht:TMap P t k e] [hk:TKey P k K] {z:Value} {size bytes:Nat} [TInfo P e z size bytes] {x y:Operand} {r:Nat} {a:K} {v:Value} {b:Bool} (hx:opv l x=some (.map (some r))) (hy:opv l y=some (MKey.enc a)) (hv:LkV (MKey.desc K) z w r (MKey.enc a) v b) :
    Ev P ⟨dst,.lookup t x y false,ty,pos,aft,none⟩ l w v:=fun _ _ d ha=>by
  obtain ⟨es,ck,q,h1,h2,h3,h4⟩:=hv
  have hb:(dr w d).heap[r]?=some (.map es ck):=h1
  subst h3
  cases q with
  | none=>simp [execOp,ha.eval hx,ha.eval hy,Instr.lookup,run_underlying ht.eq,MapKept.run_getObj_map hb,MapKept.run_checkKey hk.eq (MKey.key a),MapKept.run_findKey hk.eq h2,Result.andThen,Ir (P:=P) (t:=e)]
  | some p=>simp [execOp,ha.eval hx,ha.eval hy,Instr.lookup,run_underlying ht.eq,MapKept.run_getObj_map hb,MapKept.run_checkKey hk.eq (MKey.key a),MapKept.run_findKey hk.eq h2,Result.andThen]
end
def putEs (es:List MapEntry) (ck:Nat) (key v:Value):Option Nat→List MapEntry
  | none=>es ++ [{ key:=key,val:=v,born:=ck }]
  | some j=>es.modify j fun e=>{ e with key:=key,val:=v }
section
variable {P : Program} {n : Nat} {ops : Array Oper} {Q : Post} {rest : List Oper} {l : Env} {w : World} {d : Tmp} {ty : TypeId} {pos : String} {aft : Array Edge}
theorem Qc {K V:Type} [MKey K] {t k e:TypeId} [ht:TMap P t k e] [hk:TKey P k K] {x y u:Operand} {r ck:Nat} {a:K} {v:Value} {es:List MapEntry} {xs:List (K×V)} (hb:w.heap[r]?=some (.map es.toArray ck)) (hks:es.map (·.key)=xs.map (fun p=>MKey.enc p.1)) (hx:opv l x=some (.map (some r))) (hy:opv l y=some (MKey.enc a)) (hu:opv l u=some v)
    (h:∀ w' ck',w'.os=w.os→w'.tape=w.tape→w'.output=w.output→w'.heap.size=w.heap.size→w'.heap[r]?=some (.map (putEs es ck (MKey.enc a) v (midx xs a)).toArray ck')→(∀ q,q≠r→w'.heap[q]?=w.heap[q]?)→owp P n ops Q rest l w'):owp P n ops Q (⟨none,.mapUpdate t x y u,ty,pos,aft,none⟩ :: rest) l w:=fun ac d ha=>by
  refine wpList_plain rfl fun K' hK=>?_
  have hbd:(dr w d).heap[r]?=some (.map es.toArray ck):=hb
  unfold Oper.wp
  rcases Ga a es xs 0 hks with ⟨g0,g1,_⟩|⟨j,e',p,g0,g1,g2,g3,g4,_⟩
  · have hr:(execOp ac.eval ⟨none,.mapUpdate t x y u,ty,pos,aft,none⟩).run P (dr w d)=.ok .skip { (dr w d) with heap:=(dr w d).heap.setIfInBounds r (.map (es.toArray.push { key:=MKey.enc a,val:=v,born:=ck }) (ck + 1)) }:=by
      simp [execOp,ha.eval hx,ha.eval hy,ha.eval hu,Instr.mapUpdate,run_underlying ht.eq,MapKept.run_getObj_map hbd,MapKept.run_checkKey hk.eq (MKey.key a),MapKept.run_findKey hk.eq g1,MapKept.run_setObj_map _ hbd,Result.andThen]
    rw [hr]
    refine hK _ _ (h { w with heap:=w.heap.setIfInBounds r (.map (es.toArray.push { key:=MKey.enc a,val:=v,born:=ck }) (ck + 1)) } (ck + 1) rfl rfl rfl (by simp) ?_ (fun q hq=>(MapKept.heap_set hb).2 q hq) _ d ha)
    rw [g0]
    simpa [putEs] using (MapKept.heap_set hb).1
  · have hj:es.toArray[j]?=some e':=by simpa using g1
    have hj':es[j]?=some e':=g1
    rw [Nat.zero_add] at g3
    have hr:(execOp ac.eval ⟨none,.mapUpdate t x y u,ty,pos,aft,none⟩).run P (dr w d)=.ok .skip { (dr w d) with heap:=(dr w d).heap.setIfInBounds r (.map (es.toArray.modify j fun e=>{ e with key:=MKey.enc a,val:=v }) ck) }:=by
      simp [execOp,ha.eval hx,ha.eval hy,ha.eval hu,Instr.mapUpdate,run_underlying ht.eq,MapKept.run_getObj_map hbd,MapKept.run_checkKey hk.eq (MKey.key a),MapKept.run_findKey hk.eq g3,hj',g4,MapKept.run_keyThatStays (MKey.key a),MapKept.run_setObj_map _ hbd,Result.andThen]
    rw [hr]
    refine hK _ _ (h { w with heap:=w.heap.setIfInBounds r (.map (es.toArray.modify j fun e=>{ e with key:=MKey.enc a,val:=v }) ck) } ck rfl rfl rfl (by simp) ?_ (fun q hq=>(MapKept.heap_set hb).2 q hq) _ d ha)
    rw [g0]
    have:=(MapKept.heap_set (o':=.map (es.toArray.modify j fun e=>{ e with key:=MKey.enc a,val:=v }) ck) hb).1
    simpa [putEs] using this
theorem Ps {t:TypeId} (hd:Nat.blt d n=true) (h:∀ w',Ext w w'→w'.heap.size=w.heap.size + 1→w'.heap[w.heap.size]?=some (.map #[] 0)→owp P n ops Q rest ((d,.map (some w.heap.size)) :: l) w'):owp P n ops Q (⟨some d,.makeMap t none,ty,pos,aft,none⟩ :: rest) l w :=
  Ie (w':=w.alloc (.map #[] 0)) (fun a e ha=>.inl ⟨.map (some w.heap.size),e,by simp [execOp,Instr.makeMap];exact ⟨rfl,rfl⟩,ha.put hd _⟩)
    (h _ ((Below.refl _ _).alloc (Nat.le_refl _) _) (by simp) (by show (w.heap.push _)[_]?=_;simp))
end
theorem OH {K V:Type} [MKey K] {es:List MapEntry} {xs:List (K×V)} (ck:Nat) (a:K) (v:Value) (y:V) (h:es.map (·.key)=xs.map (fun p=>MKey.enc p.1)):(putEs es ck (MKey.enc a) v (midx xs a)).map (·.key)=(mput xs a y).map (fun p=>MKey.enc p.1):=by
  rcases Ga a es xs 0 h with ⟨g0,_,_,_,g4⟩|⟨j,e',p,g0,g1,g2,g3,g4,_,_,g7⟩
  · rw [g0,g4];simp [putEs,h]
  · rw [g0,g7]
    simp only [putEs,List.map_set,← h]
    apply List.ext_getElem?
    intro q
    rw [List.getElem?_map,List.getElem?_modify,List.getElem?_set]
    by_cases hq:j=q
    · subst hq
      have hlt:j < es.length:=AD g1
      simp [g1,hlt]
    · simp [hq]
class OwM (α:Type) [Ow α]:Prop where
  mptr:∀ {w:World} {F M:Nat→Prop} {v:Value} {x:α},Ow.R w F M v x→∃ r,v=.map (some r)
theorem Ob.mptr {α:Type} [Ow α] [OwM α] {i:Nat} {w:World} {O:Lab} {v:Value} {x:α} (h:Ob i w O v x):∃ r,v=.map (some r):=OwM.mptr h.1
structure MapR (e:TypeId) (K V:Type) where
  l:List (K×List V)
def RA {K V:Type} [Rp V] (w:World) (F M:Nat→Prop) (L:Lab) (e:TypeId) (es:List MapEntry) (xs:List (K×List V)) (skip:Option Nat):Prop:=∀ (j:Nat) (en:MapEntry) (p:K×List V),es[j]?=some en→xs[j]?=some p→skip≠some j→RwM w F (fun k=>M k∧L k=j + 1) e en.val p.2
instance {e:TypeId} {K V:Type} [MKey K] [Rp V]:Ow (MapR e K V) where
  R w F M v x:=∃ (r:Nat) (L:Lab) (es:List MapEntry) (ck:Nat),v=.map (some r)∧w.heap[r]?=some (.map es.toArray ck)∧M r∧L r=0∧es.map (·.key)=x.l.map (fun p=>MKey.enc p.1)∧RA w F M L e es x.l none
  agree:=by rintro w w' F M v x ⟨r,L,es,ck,rfl,hb,hM,hL,hk,hv⟩ a1 a2;exact ⟨r,L,es,ck,rfl,(a2 r hM).trans hb,hM,hL,hk,fun j en p h1 h2 h3=>(hv j en p h1 h2 h3).agree a1 fun k hk=>a2 k hk.1⟩
  mono:=by rintro w F M F' M' v x ⟨r,L,es,ck,rfl,hb,hM,hL,hk,hv⟩ a1 a2 a3;exact ⟨r,L,es,ck,rfl,hb,a2 r hM,hL,hk,fun j en p h1 h2 h3=>(hv j en p h1 h2 h3).mono a1 (fun k hk=>⟨a2 k hk.1,hk.2⟩) fun k hf hm=>a3 k hf hm.1⟩
instance {e:TypeId} {K V:Type} [MKey K] [Rp V]:OwM (MapR e K V):=⟨by rintro w F M v x ⟨r,L,es,ck,rfl,_⟩;exact ⟨r,rfl⟩⟩
def MapH {K V:Type} [MKey K] [Rp V] (i:Nat) (w:World) (O:Lab) (r:Nat) (e:TypeId) (x:MapR e K V) (a:K):Prop :=
  (∃ (L:Lab) (es:List MapEntry) (ck:Nat),w.heap[r]?=some (.map es.toArray ck)∧Fr i w O r∧es.map (·.key)=x.l.map (fun p=>MKey.enc p.1)∧RA w (Fr 0 w O) (Fr i w O) L e es x.l (midx x.l a))∧i≠0
section
variable {e : TypeId} {K V : Type} [MKey K] [Rp V] {i j : Nat} {T : Nat → Prop} {w w' : World} {O O' : Lab} {r : Nat} {x : MapR e K V} {a : K}
theorem MapH.st (h:MapH i w O r e x a) (hS:St T w O w' O') (h0:¬ T 0:=by decide) (hi:¬ T i:=by decide):MapH i w' O' r e x a:=by
  obtain ⟨⟨L,es,ck,hb,hM,hk,hr⟩,h1⟩:=h
  refine ⟨⟨L,es,ck,(hS.agree hi r hM).trans hb,hS.fr hi r hM,hk,fun q en p g1 g2 g3=>?_⟩,h1⟩
  exact ((hr q en p g1 g2 g3).agree (hS.agree h0) fun k hk=>hS.agree hi k hk.1).mono (hS.fr h0) (fun k hk=>⟨hS.fr hi k hk.1,hk.2⟩) fun k hf hm=>frNe0 h1 k hf hm.1
theorem MapR.at (h:Ob i w O (.map (some r)) x):Fr i w O r:=by
  obtain ⟨⟨r',L,es,ck,hv,hb,hM,_⟩,_⟩:=h
  injection hv with hv
  injection hv with hv
  subst hv
  exact hM
theorem MapR.get (h:Ob i w O (.map (some r)) x) (a:K):∃ A c,LkV (MKey.desc K) (.slice none 0 0) w r (MKey.enc a) (.slice A (mget ([]:List V) x.l a).length c) (mhas x.l a)∧Vb w (FrS [i] w O) (.slice A (mget ([]:List V) x.l a).length c) (mget ([]:List V) x.l a):=by
  obtain ⟨⟨r',L,es,ck,hv,hb,hM,hL,hk,hra⟩,hi⟩:=h
  injection hv with hv
  injection hv with hv
  subst hv
  rcases Ga a es x.l 0 hk with ⟨g0,g1,g2,g3,g4⟩|⟨q,e',p,g0,g1,g2,g3,g4,g5,g6,g7⟩
  · rw [g3,g2]
    exact ⟨none,0,⟨_,ck,none,hb,by simpa using g1,rfl,rfl⟩,Vb.nil _ _⟩
  · rw [g6,g5]
    have h1:=hra q e' p g1 g2 (by simp)
    have h2:Rw i w O e e'.val p.2:=h1.rw (fun _ h=>h) (fun _ h=>h.1) hi
    obtain ⟨A,c,hA⟩:=h2.form
    refine ⟨A,c,⟨_,ck,some (0 + q,e'.val),hb,by simpa using g3,hA.symm,rfl⟩,?_⟩
    rw [← hA]
    exact h2.lend [i] (by simp)
theorem MapR.take (h:Ob i w O (.map (some r)) x) {v:Value} {b:Bool} (hl:LkV (MKey.desc K) (.slice none 0 0) w r (MKey.enc a) v b) (j:Nat) (hj:j≠0) (hij:j≠i):∃ O',St (eT i) w O w O'∧MapH i w O' r e x a∧Rw j w O' e v (mget ([]:List V) x.l a):=by
  obtain ⟨⟨r',L,es,ck,hv,hb,hM,hL,hk,hra⟩,hi⟩:=h
  injection hv with hv
  injection hv with hv
  subst hv
  obtain ⟨es',ck',q,h1,h2,h3,h4⟩:=hl
  rw [hb] at h1
  injection h1 with h1
  injection h1 with h1 h1'
  subst h1
  rw [List.toList_toArray] at h2
  rcases Ga a es x.l 0 hk with ⟨g0,g1,g2,g3,g4⟩|⟨n,e',p,g0,g1,g2,g3,g4,g5,g6,g7⟩
  · rw [g1] at h2
    have:=sm h2
    subst this
    rw [g3,h3]
    exact ⟨O,St.refl _ _ _,⟨⟨L,es,ck,hb,hM,hk,fun q en p a1 a2 _=>hra q en p a1 a2 (by simp)⟩,hi⟩,Rw.nil j hj⟩
  · rw [g3] at h2
    have:=sm h2
    subst this
    rw [g6,h3]
    have hrow:=hra n e' p g1 g2 (by simp)
    refine ⟨fun k=>if O k=i∧L k=n + 1 then j else O k,⟨rfl,rfl,rfl,Nat.le_refl _,fun k _ hk=>⟨rfl,if_neg fun h=>hk h.1⟩⟩,⟨⟨L,es,ck,hb,⟨hM.1,?_⟩,hk,fun q en p' a1 a2 a3=>?_⟩,hi⟩,hrow.rw (fun k hk=>⟨hk.1,?_⟩) (fun k hk=>⟨hk.1.1,if_pos ⟨hk.1.2,hk.2⟩⟩) hj⟩
    · show (if _ then _ else _)=_
      rw [if_neg (by rw [hL];omega)];exact hM.2
    · rw [g0] at a3
      have hne:n≠q:=fun e=>a3 (by rw [e])
      refine (hra q en p' a1 a2 (by simp)).mono (fun k hk=>⟨hk.1,?_⟩) (fun k hk=>⟨⟨hk.1.1,?_⟩,hk.2⟩) (fun k hf hm=>frNe0 hi k hf hm.1)
      · show (if _ then _ else _)=_
        rw [if_neg (by rw [hk.2];exact fun h=>hi h.1.symm)];exact hk.2
      · show (if _ then _ else _)=_
        rw [if_neg (by rw [hk.2];omega)];exact hk.1.2
    · show (if _ then _ else _)=_
      rw [if_neg (by rw [hk.2];exact fun h=>hi h.1.symm)];exact hk.2
end
section
variable {P : Program} {n : Nat} {ops : Array Oper} {Q : Post} {rest : List Oper} {l : Env} {w : World} {d : Tmp} {ty : TypeId} {pos : String} {aft : Array Edge} {K V : Type} [MKey K] [Rp V] {i j : Nat} {O : Lab} {r : Nat}
theorem Rh {e':TypeId} {x:MapR e' K V} {t k e:TypeId} [TMap P t k e] [TKey P k K] {m y u:Operand} {a:K} {v:Value} {ys:List V} (hM:MapH i w O r e' x a) (hv:Rw j w O e' v ys) (hij:j≠i) (hx:opv l m=some (.map (some r))) (hy:opv l y=some (MKey.enc a)) (hu:opv l u=some v)
    (h:∀ w' O',St (fun q=>q=i∨q=j) w O w' O'→Ob i w' O' (.map (some r)) (⟨mput x.l a ys⟩:MapR e' K V)→owp P n ops Q rest l w'):owp P n ops Q (⟨none,.mapUpdate t m y u,ty,pos,aft,none⟩ :: rest) l w:=by
  obtain ⟨⟨L,es,ck,hb,hM',hk,hra⟩,hi⟩:=hM
  refine Qc hb hk hx hy hu fun w' ck' e1 e2 e3 e4 e5 e6=>?_
  have hlen:es.length=x.l.length:=by have:=congrArg List.length hk;simpa using this
  have hj0:j≠0:=hv.2.2
  have hrj:O r≠j:=by rw [hM'.2];exact Ne.symm hij
  let n0:Nat:=match midx x.l a with|some q=>q|none=>es.length
  have hS:St (fun q=>q=i∨q=j) w O w' (fun k=>if O k=j then i else O k):=⟨e1,e2,e3,by omega,fun q hq hT=>⟨e6 q fun e=>hT (by rw [e];exact .inl hM'.2),if_neg fun e=>hT (.inr e)⟩⟩
  have hF:∀ k,Fr 0 w O k→Fr 0 w' (fun k=>if O k=j then i else O k) k:=fun k hk=>⟨by rw [e4];exact hk.1,by show (if _ then _ else _)=_;rw [if_neg (by rw [hk.2];exact Ne.symm hj0)];exact hk.2⟩
  have hA0:Agree (Fr 0 w O) w w':=fun k hk=>e6 k fun e=>by rw [e] at hk;exact hi (hM'.2.symm.trans hk.2)
  have hdis:∀ m:Nat,∀ k,Fr 0 w' (fun k=>if O k=j then i else O k) k→¬ (Fr i w' (fun k=>if O k=j then i else O k) k∧(if O k=j then n0 + 1 else if k=r then 0 else L k)=m):=fun m k hf hm=>frNe0 hi k hf hm.1
  have hnew:RwM w' (Fr 0 w' (fun k=>if O k=j then i else O k)) (fun k=>Fr i w' (fun k=>if O k=j then i else O k) k∧(if O k=j then n0 + 1 else if k=r then 0 else L k)=n0 + 1) e' v ys:=by
    have h1:RwM w (Fr 0 w O) (Fr j w O) e' v ys:=hv.m (fun _ h=>h) (fun _ h=>h) (frNe0 hj0)
    have h2:=h1.agree hA0 (fun k hk=>e6 k fun e=>by rw [e] at hk;exact hrj hk.2)
    exact h2.mono hF (fun k hk=>⟨⟨by rw [e4];exact hk.1,if_pos hk.2⟩,if_pos hk.2⟩) (hdis _)
  have hkeep:∀ q en (p:K×List V),es[q]?=some en→x.l[q]?=some p→midx x.l a≠some q→RwM w' (Fr 0 w' (fun k=>if O k=j then i else O k)) (fun k=>Fr i w' (fun k=>if O k=j then i else O k) k∧(if O k=j then n0 + 1 else if k=r then 0 else L k)=q + 1) e' en.val p.2:=fun q en p g1 g2 g3=>by
    have h1:=hra q en p g1 g2 g3
    have hnr:∀ g,en.val.ownBlock=some g→g≠r:=fun g hg e=>by
      subst e
      have h2:=h1.1
      obtain ⟨cells,o1,o2,o3⟩:=h2
      rcases o1.2 with ⟨hv0,_⟩|⟨g',cap,cur,hv0,_,hh,_⟩
      · rw [hv0] at hg;simp [Value.ownBlock] at hg
      · rw [hv0] at hg
        have:g'=g:=by simpa [Value.ownBlock] using hg
        subst this
        rw [hb] at hh;cases hh
    have h2:RwM w (Fr 0 w O) (fun k=>(Fr i w O k∧L k=q + 1)∧k≠r) e' en.val p.2:=⟨h1.1,fun g hg=>⟨h1.2 g hg,hnr g hg⟩⟩
    have h3:=h2.agree hA0 (fun k hk=>e6 k hk.2)
    refine h3.mono hF (fun k hk=>?_) (hdis _)
    have hkj:O k≠j:=by rw [hk.1.1.2];exact Ne.symm hij
    exact ⟨⟨by rw [e4];exact hk.1.1.1,by show (if _ then _ else _)=_;rw [if_neg hkj];exact hk.1.1.2⟩,by rw [if_neg hkj,if_neg hk.2];exact hk.1.2⟩
  refine h w' _ hS ⟨⟨r,fun k=>if O k=j then n0 + 1 else if k=r then 0 else L k,_,ck',rfl,e5,⟨by rw [e4];exact hM'.1,by show (if _ then _ else _)=_;rw [if_neg hrj];exact hM'.2⟩,by show (if _ then _ else _)=_;rw [if_neg hrj,if_pos rfl],OH ck a v ys hk,?_⟩,hi⟩
  intro q en p h1 h2 _
  rcases Ga a es x.l 0 hk with ⟨g0,_,_,_,g4⟩|⟨m,e'',p',g0,g1,g2,g3,g4,_,_,g7⟩
  · have hn0:n0=es.length:=by show (match midx x.l a with|some q=>q|none=>es.length)=_;rw [g0]
    rw [g0] at h1
    rw [g4] at h2
    simp only [putEs] at h1
    by_cases hq:q < es.length
    · rw [List.getElem?_append_left hq] at h1
      rw [List.getElem?_append_left (by omega)] at h2
      exact hkeep q en p h1 h2 (by rw [g0];simp)
    · rw [List.getElem?_append_right (by omega)] at h1
      rw [List.getElem?_append_right (by omega)] at h2
      cases hz:q - es.length with
      | zero =>
        rw [hz] at h1
        rw [show q - x.l.length=0 from by omega] at h2
        simp at h1 h2
        subst h1;subst h2
        have hqe:q=n0:=by rw [hn0];omega
        rw [hqe]
        exact hnew
      | succ m=>rw [hz] at h1;simp at h1
  · have hn0:n0=m:=by show (match midx x.l a with|some q=>q|none=>es.length)=_;rw [g0]
    rw [g0] at h1
    rw [g7] at h2
    simp only [putEs] at h1
    rw [List.getElem?_modify] at h1
    rw [List.getElem?_set] at h2
    by_cases hq:m=q
    · subst hq
      have hlt:=AD g2
      rw [g1] at h1
      simp [hlt] at h1 h2
      subst h1;subst h2
      rw [← hn0]
      exact hnew
    · simp [hq] at h1 h2
      exact hkeep q en p h1 h2 (by rw [g0];simpa using hq)
theorem Qd {t:TypeId} (e:TypeId) (i:Nat) (hi:i≠0) (O:Lab) (hd:Nat.blt d n=true) (h:∀ g w' O',St nT w O w' O'→Ob i w' O' (.map (some g)) (⟨[]⟩:MapR e K V)→owp P n ops Q rest ((d,.map (some g)) :: l) w'):owp P n ops Q (⟨some d,.makeMap t none,ty,pos,aft,none⟩ :: rest) l w :=
  Ps hd fun w' hE hs hb=>h _ w' _ (hE.st O fun _=>i) ⟨⟨w.heap.size,fun _=>0,[],0,rfl,hb,⟨by omega,Er (Nat.le_refl _)⟩,rfl,rfl,fun j e p h1 _=>by simp at h1⟩,hi⟩
end
section
variable {P : Program} {n : Nat} {ops : Array Oper} {Q : Post} {rest : List Oper} {l : Env} {w : World} {d : Tmp} {ty : TypeId} {pos : String} {aft : Array Edge} {S : World → Prop} {rr : List (Nat × Bool)} {i' : Nat}
theorem Tx {K:Type} [MKey K] {t k e:TypeId} [TMap P t k e] [TKey P k K] {z:Value} {size bytes:Nat} [TInfo P e z size bytes] {x y:Operand} {r:Nat} {v:Value} {b:Bool} (a:K) (hv:LkV (MKey.desc K) z w r (MKey.enc a) v b) (hx:opv l x=some (.map (some r))) (hy:opv l y=some (MKey.enc a)) (hd:Nat.blt d n=true) (h:owp P n ops Q rest ((d,v) :: l) w):owp P n ops Q (⟨some d,.lookup t x y false,ty,pos,aft,none⟩ :: rest) l w:=Bg (QS hx hy hv) hd h
theorem Ty {K:Type} [MKey K] {t k e:TypeId} [TMap P t k e] [TKey P k K] {z:Value} {size bytes:Nat} [TInfo P e z size bytes] {x y:Operand} {r:Nat} {v:Value} {b:Bool} (a:K) (hv:∀ w',S w'→LkV (MKey.desc K) z w' r (MKey.enc a) v b) (hi:ops[i']?=some ⟨some d,.lookup t x y false,ty,pos,aft,none⟩) (hx:opv l x=some (.map (some r))) (hy:opv l y=some (MKey.enc a)) (hd:Nat.blt d n=true) (h:hwp P n ops Q S rr ((d,v) :: l) w):hwp P n ops Q S ((i',true) :: rr) l w:=AA hi (Bl (fun w' hS=>QS hx hy (hv w' hS)) hd h)
end
end
section
open Go Go.RowKit
theorem Pt (a b:ByteArray):(a.toList == b.toList)=decide (a=b):=by
  rw [ByteArray.toList_eq,ByteArray.toList_eq]
  by_cases h:a=b
  · subst h;simp
  · rw [decide_eq_false h]
    have:a.data.toList≠b.data.toList:=fun e=>h (by cases a;cases b;simp only [ByteArray.mk.injEq];exact Array.toList_inj.1 e)
    simpa using this
section
variable {P : Program} {l : Env} {w : World} {dst : Option Tmp} {ty : TypeId} {pos : String} {aft : Array Edge}
theorem QT {t u:TypeId} [h:TStr P t] {x y:Operand} {a b:ByteArray} (hx:opv l x=some (.string a)) (hy:opv l y=some (.string b)):Ev P ⟨dst,.binOp .eql t x y u,ty,pos,aft,none⟩ l w (.bool (decide (a=b))):=fun _ _ e ha=>by
  simp [execOp,ha.eval hx,ha.eval hy,eqGuard,binOp,Op.stringOp,Pt]
end
section
variable {P : Program} {n : Nat} {ops : Array Oper} {Q : Post} {rest : List Oper} {l : Env} {w : World} {d : Tmp} {ty : TypeId} {pos : String} {aft : Array Edge}
theorem OI {t u:TypeId} [TStr P t] {x y:Operand} {a b:ByteArray} (hx:opv l x=some (.string a)) (hy:opv l y=some (.string b)) (hd:Nat.blt d n=true) (ht:a=b→owp P n ops Q rest ((d,.bool true) :: l) w) (hf:¬ (a=b)→owp P n ops Q rest ((d,.bool false) :: l) w):owp P n ops Q (⟨some d,.binOp .eql t x y u,ty,pos,aft,none⟩ :: rest) l w:=Ew (QT hx hy) hd ht hf
variable {S : World → Prop} {r : List (Nat × Bool)} {i : Nat}
theorem SU {t u:TypeId} [TStr P t] {x y:Operand} {a b:ByteArray} (hi:ops[i]?=some ⟨some d,.binOp .eql t x y u,ty,pos,aft,none⟩) (hx:opv l x=some (.string a)) (hy:opv l y=some (.string b)) (hd:Nat.blt d n=true) (ht:a=b→hwp P n ops Q S r ((d,.bool true) :: l) w) (hf:¬ (a=b)→hwp P n ops Q S r ((d,.bool false) :: l) w):hwp P n ops Q S ((i,true) :: r) l w:=AA hi (Be (fun _ _=>QT hx hy) hd ht hf)
end
end
section
open Go Go.RowKit
def errV (n:Int):Value:=if n=0 then .nilIface else .iface 49 (.int .i64 n)
theorem GK:errV 0=.nilIface:=by unfold errV;rfl
theorem Hv {n:Int} (h:n≠0):errV n=.iface 49 (.int .i64 n):=by unfold errV;rw [if_neg h]
theorem Fq (n:Int):(errV n).oneCell'=true:=by unfold errV;split<;>rfl
structure Err where
  n:Int
instance:Rp Err where
  isAgg:=false
  size:=1
  R _ _ cs x:=cs=[errV x.n]∧inI64 x.n
  len:=by rintro w F cs x ⟨rfl,_⟩;rfl
  one:=by
    rintro w F cs x ⟨rfl,_⟩ u hu
    have:u=errV x.n:=by simpa using hu
    subst this;exact Fq _
  agree:=fun h _=>h
  mono:=fun h _=>h
theorem Vb.err {w:World} {F:Nat→Prop} {v:Value} {x:Err} (h:Vb w F v x):v=errV x.n∧inI64 x.n:=by
  obtain ⟨h1,h2⟩:=h
  exact ⟨by simpa using h1,h2⟩
theorem vErr {w:World} {F:Nat→Prop} {n:Int} (h:inI64 n):Vb w F (errV n) (⟨n⟩:Err):=⟨rfl,h⟩
theorem vErr0 {w:World} {F:Nat→Prop}:Vb w F .nilIface (⟨0⟩:Err):=⟨by rw [GK],by decide⟩
end
section
open Go Go.RowKit
section
variable {P : Program} {l : Env} {w : World} {dst : Option Tmp} {ty : TypeId} {pos : String} {aft : Array Edge}
theorem Iw {t u:TypeId} {x y:Operand} {a b c:Int} (hx:opv l x=some (.int .i64 a)) (hy:opv l y=some (.int .i64 b)) (he:chkI (a + b)=some c):Ev P ⟨dst,.binOp .add t x y u,ty,pos,aft,none⟩ l w (.int .i64 c):=by
  obtain ⟨rfl,h⟩:=HH he
  exact MA hx hy h
theorem Ld {t u:TypeId} {x y:Operand} {a b c:Int} (hx:opv l x=some (.int .i64 a)) (hy:opv l y=some (.int .i64 b)) (he:chkI (a - b)=some c):Ev P ⟨dst,.binOp .sub t x y u,ty,pos,aft,none⟩ l w (.int .i64 c):=by
  obtain ⟨rfl,h⟩:=HH he
  exact Pd hx hy h
theorem Lf {t u:TypeId} {x y:Operand} {a b c:Int} (hx:opv l x=some (.int .i64 a)) (hy:opv l y=some (.int .i64 b)) (he:chkI (a * b)=some c):Ev P ⟨dst,.binOp .mul t x y u,ty,pos,aft,none⟩ l w (.int .i64 c):=by
  obtain ⟨rfl,h⟩:=HH he
  exact Pe hx hy h
theorem Pu {t u:TypeId} {x y:Operand} {a b:Int} (hx:opv l x=some (.int .i64 a)) (hy:opv l y=some (.int .i64 b)):Ev P ⟨dst,.binOp .add t x y u,ty,pos,aft,none⟩ l w (.int .i64 (wr (a + b))):=fun _ _ d ha=>by
  simp [execOp,ha.eval hx,ha.eval hy,eqGuard,binOp,Op.intArith,wr]
theorem MO {t e:TypeId} [TSlice P t e] {z:Value} {size bytes:Nat} [TInfo P e z size bytes] {x i:Operand} {k:IntKind} {A:Option Addr} {b o m c j:Nat} {q:Int} (hx:opv l x=some (.slice A m c)) (hq:opv l i=some (.int k q)) (hA:A=some ⟨b,o,none⟩) (hj:q=(j:Int)) (hlt:j < m) :
    Ev P ⟨dst,.indexAddr t x i,ty,pos,aft,none⟩ l w (.pointer (some ⟨b,o + j * size,none⟩)):=by
  subst hA
  exact Gf hx hq hj hlt
theorem Sd {t:TypeId} [TStr P t] {x i:Operand} {k:IntKind} {s:ByteArray} {q c:Int} (hx:opv l x=some (.string s)) (hq:opv l i=some (.int k q)) (he:bytI s q=some c):Ev P ⟨dst,.index t x i,ty,pos,aft,none⟩ l w (.int .u8 c):=by
  obtain ⟨j,rfl,hlt,rfl⟩:=LT he
  exact MD hx hq hlt
theorem Se {t:TypeId} {f off:Nat} [TField P t f off] {x:Operand} {p:Option Addr} {b o:Nat} (hx:opv l x=some (.pointer p)) (hA:p=some ⟨b,o,none⟩):Ev P ⟨dst,.fieldAddr t x f,ty,pos,aft,none⟩ l w (.pointer (some ⟨b,o + off,none⟩)):=by
  subst hA
  exact Eb hx
theorem Sf {x:Operand} {p:Option Addr} {ad:Addr} (hx:opv l x=some (.pointer p)) (hA:p=some ad):Ev P ⟨dst,.nilCheck x,ty,pos,aft,none⟩ l w (.pointer p):=by
  subst hA
  exact Ks hx
theorem Sg {x:Operand} {n:Int} [TInt P 49 .i64] (hx:opv l x=some (.int .i64 n)) (hn:n≠0):Ev P ⟨dst,.makeInterface 49 x,ty,pos,aft,none⟩ l w (errV n):=by
  rw [Hv hn]
  exact KS hx
theorem Ri {t u:TypeId} [TIface P t] {x:Operand} {n:Int} (hx:opv l x=some (errV n)):Ev P ⟨dst,.binOp .eql t x (.const .nilIface) u,ty,pos,aft,none⟩ l w (.bool (decide (n=0))):=by
  by_cases h:n=0
  · subst h
    rw [GK] at hx
    exact LQ hx
  · rw [Hv h] at hx
    simpa [h] using KT (P:=P) (w:=w) (dst:=dst) (ty:=ty) (pos:=pos) (aft:=aft) (t:=t) (u:=u) hx
theorem Rj {t u:TypeId} [TIface P t] {x:Operand} {n:Int} (hx:opv l x=some (errV n)):Ev P ⟨dst,.binOp .neq t x (.const .nilIface) u,ty,pos,aft,none⟩ l w (.bool (decide (n≠0))):=by
  by_cases h:n=0
  · subst h
    rw [GK] at hx
    exact KU hx
  · rw [Hv h] at hx
    simpa [h] using Kl (P:=P) (w:=w) (dst:=dst) (ty:=ty) (pos:=pos) (aft:=aft) (t:=t) (u:=u) hx
end
section
variable {P : Program} {n : Nat} {ops : Array Oper} {Q : Post} {rest : List Oper} {l : Env} {w : World} {d : Tmp} {ty : TypeId} {pos : String} {aft : Array Edge}
theorem Dv {t u:TypeId} {x y:Operand} {a b c:Int} (hx:opv l x=some (.int .i64 a)) (hy:opv l y=some (.int .i64 b)) (hd:Nat.blt d n=true) (h:owp P n ops Q rest ((d,.int .i64 c) :: l) w) (he:chkI (a + b)=some c:=by assumption):owp P n ops Q (⟨some d,.binOp .add t x y u,ty,pos,aft,none⟩ :: rest) l w:=Bg (Iw hx hy he) hd h
theorem JZ {t u:TypeId} {x y:Operand} {a b c:Int} (hx:opv l x=some (.int .i64 a)) (hy:opv l y=some (.int .i64 b)) (hd:Nat.blt d n=true) (h:owp P n ops Q rest ((d,.int .i64 c) :: l) w) (he:chkI (a - b)=some c:=by assumption):owp P n ops Q (⟨some d,.binOp .sub t x y u,ty,pos,aft,none⟩ :: rest) l w:=Bg (Ld hx hy he) hd h
theorem OJ {t u:TypeId} {x y:Operand} {a b c:Int} (hx:opv l x=some (.int .i64 a)) (hy:opv l y=some (.int .i64 b)) (hd:Nat.blt d n=true) (h:owp P n ops Q rest ((d,.int .i64 c) :: l) w) (he:chkI (a * b)=some c:=by assumption):owp P n ops Q (⟨some d,.binOp .mul t x y u,ty,pos,aft,none⟩ :: rest) l w:=Bg (Lf hx hy he) hd h
theorem SV {t u:TypeId} {x y:Operand} {a b:Int} (hx:opv l x=some (.int .i64 a)) (hy:opv l y=some (.int .i64 b)) (hd:Nat.blt d n=true) (h:owp P n ops Q rest ((d,.int .i64 (wr (a + b))) :: l) w)  : owp P n ops Q (⟨some d,.binOp .add t x y u,ty,pos,aft,none⟩ :: rest) l w:=Bg (Pu hx hy) hd h
theorem Bi {t e:TypeId} [TSlice P t e] {z:Value} {size bytes:Nat} [TInfo P e z size bytes] {x i:Operand} {k:IntKind} {A:Option Addr} {b o m c j:Nat} {q:Int} (hx:opv l x=some (.slice A m c)) (hq:opv l i=some (.int k q)) (hd:Nat.blt d n=true) (h:owp P n ops Q rest ((d,.pointer (some ⟨b,o + j * size,none⟩)) :: l) w) (hA:A=some ⟨b,o,none⟩:=by assumption) (hj:q=(j:Int):=by rfl) (hlt:j < m:=by assumption):owp P n ops Q (⟨some d,.indexAddr t x i,ty,pos,aft,none⟩ :: rest) l w:=Bg (MO hx hq hA hj hlt) hd h
theorem QU {t:TypeId} [TStr P t] {x i:Operand} {k:IntKind} {s:ByteArray} {q c:Int} (hx:opv l x=some (.string s)) (hq:opv l i=some (.int k q)) (hd:Nat.blt d n=true) (h:owp P n ops Q rest ((d,.int .u8 c) :: l) w) (he:bytI s q=some c:=by assumption):owp P n ops Q (⟨some d,.index t x i,ty,pos,aft,none⟩ :: rest) l w:=Bg (Sd hx hq he) hd h
theorem SW {t:TypeId} {f off:Nat} [TField P t f off] {x:Operand} {p:Option Addr} {b o:Nat} (hx:opv l x=some (.pointer p)) (hd:Nat.blt d n=true) (h:owp P n ops Q rest ((d,.pointer (some ⟨b,o + off,none⟩)) :: l) w) (hA:p=some ⟨b,o,none⟩:=by assumption):owp P n ops Q (⟨some d,.fieldAddr t x f,ty,pos,aft,none⟩ :: rest) l w:=Bg (Se hx hA) hd h
theorem SX {x:Operand} {p:Option Addr} {ad:Addr} (hx:opv l x=some (.pointer p)) (hd:Nat.blt d n=true) (h:owp P n ops Q rest ((d,.pointer p) :: l) w) (hA:p=some ad:=by assumption):owp P n ops Q (⟨some d,.nilCheck x,ty,pos,aft,none⟩ :: rest) l w:=Bg (Sf hx hA) hd h
theorem Sh {t e:TypeId} [TSlice P t e] {z:Value} {size bytes:Nat} [TInfo P e z size bytes] {A A':Option Addr} {m c m' c':Nat} {q:Int} {k:IntKind} {x y:Operand} (hx:opv l x=some (.slice A m c)) (hy:opv l y=some (.int k q)) (hd:Nat.blt d n=true) (h:owp P n ops Q rest ((d,.slice A' m' c') :: l) w) (hc:CutB size A m c 0 q A' m' c':=by assumption):owp P n ops Q (⟨some d,.slice t x none (some y) none,ty,pos,aft,none⟩ :: rest) l w:=Bg (Rf hx hy hc) hd h
theorem EQ [TInt P 49 .i64] {x:Operand} {q:Int} (hx:opv l x=some (.int .i64 q)) (hd:Nat.blt d n=true) (h:owp P n ops Q rest ((d,errV q) :: l) w) (hn:q≠0:=by decide):owp P n ops Q (⟨some d,.makeInterface 49 x,ty,pos,aft,none⟩ :: rest) l w:=Bg (Sg hx hn) hd h
theorem OK {t u:TypeId} [TIface P t] {x:Operand} {k:Int} (hx:opv l x=some (errV k)) (hd:Nat.blt d n=true) (ht:k=0→owp P n ops Q rest ((d,.bool true) :: l) w) (hf:¬ (k=0)→owp P n ops Q rest ((d,.bool false) :: l) w):owp P n ops Q (⟨some d,.binOp .eql t x (.const .nilIface) u,ty,pos,aft,none⟩ :: rest) l w:=Ew (Ri hx) hd ht hf
theorem ER {t u:TypeId} [TIface P t] {x:Operand} {k:Int} (hx:opv l x=some (errV k)) (hd:Nat.blt d n=true) (ht:k≠0→owp P n ops Q rest ((d,.bool true) :: l) w) (hf:¬ (k≠0)→owp P n ops Q rest ((d,.bool false) :: l) w):owp P n ops Q (⟨some d,.binOp .neq t x (.const .nilIface) u,ty,pos,aft,none⟩ :: rest) l w:=Ew (Rj hx) hd ht hf
variable {S : World → Prop} {r : List (Nat × Bool)} {i : Nat}
theorem Ey {t u:TypeId} {x y:Operand} {a b c:Int} (hi:ops[i]?=some ⟨some d,.binOp .add t x y u,ty,pos,aft,none⟩) (hx:opv l x=some (.int .i64 a)) (hy:opv l y=some (.int .i64 b)) (hd:Nat.blt d n=true) (h:hwp P n ops Q S r ((d,.int .i64 c) :: l) w) (he:chkI (a + b)=some c:=by assumption):hwp P n ops Q S ((i,true) :: r) l w:=AA hi (Bl (fun _ _=>Iw hx hy he) hd h)
theorem SY {t u:TypeId} {x y:Operand} {a b c:Int} (hx:opv l x=some (.int .i64 a)) (hy:opv l y=some (.int .i64 b)) (hd:Nat.blt d n=true) (h:hwp P n ops Q S r ((d,.int .i64 c) :: l) w) (he:chkI (a + b)=some c:=by assumption):hwq P n ops Q S ⟨some d,.binOp .add t x y u,ty,pos,aft,none⟩ r l w:=Bl (fun _ _=>Iw hx hy he) hd h
theorem SZ {t u:TypeId} {x y:Operand} {a b c:Int} (hi:ops[i]?=some ⟨some d,.binOp .sub t x y u,ty,pos,aft,none⟩) (hx:opv l x=some (.int .i64 a)) (hy:opv l y=some (.int .i64 b)) (hd:Nat.blt d n=true) (h:hwp P n ops Q S r ((d,.int .i64 c) :: l) w) (he:chkI (a - b)=some c:=by assumption):hwp P n ops Q S ((i,true) :: r) l w:=AA hi (Bl (fun _ _=>Ld hx hy he) hd h)
theorem Ta {t u:TypeId} {x y:Operand} {a b c:Int} (hi:ops[i]?=some ⟨some d,.binOp .mul t x y u,ty,pos,aft,none⟩) (hx:opv l x=some (.int .i64 a)) (hy:opv l y=some (.int .i64 b)) (hd:Nat.blt d n=true) (h:hwp P n ops Q S r ((d,.int .i64 c) :: l) w) (he:chkI (a * b)=some c:=by assumption):hwp P n ops Q S ((i,true) :: r) l w:=AA hi (Bl (fun _ _=>Lf hx hy he) hd h)
theorem BP {t e:TypeId} [TSlice P t e] {z:Value} {size bytes:Nat} [TInfo P e z size bytes] {x i':Operand} {k:IntKind} {A:Option Addr} {b o m c j:Nat} {q:Int} (hi:ops[i]?=some ⟨some d,.indexAddr t x i',ty,pos,aft,none⟩) (hx:opv l x=some (.slice A m c)) (hq:opv l i'=some (.int k q)) (hd:Nat.blt d n=true) (h:hwp P n ops Q S r ((d,.pointer (some ⟨b,o + j * size,none⟩)) :: l) w) (hA:A=some ⟨b,o,none⟩:=by assumption) (hj:q=(j:Int):=by rfl) (hlt:j < m:=by assumption):hwp P n ops Q S ((i,true) :: r) l w:=AA hi (Bl (fun _ _=>MO hx hq hA hj hlt) hd h)
theorem Ix {t e:TypeId} [TSlice P t e] {z:Value} {size bytes:Nat} [TInfo P e z size bytes] {x i':Operand} {k:IntKind} {A:Option Addr} {b o m c j:Nat} {q:Int} (hx:opv l x=some (.slice A m c)) (hq:opv l i'=some (.int k q)) (hd:Nat.blt d n=true) (h:hwp P n ops Q S r ((d,.pointer (some ⟨b,o + j * size,none⟩)) :: l) w) (hA:A=some ⟨b,o,none⟩:=by assumption) (hj:q=(j:Int):=by rfl) (hlt:j < m:=by assumption):hwq P n ops Q S ⟨some d,.indexAddr t x i',ty,pos,aft,none⟩ r l w:=Bl (fun _ _=>MO hx hq hA hj hlt) hd h
end
end
section
open Go Go.RowKit
abbrev U64:=BitVec 64
instance:Rp U64 where
  isAgg:=false
  size:=1
  R _ _ cs x:=cs=[.int .u64 (x.toNat:Int)]
  len:=by rintro w F cs x rfl;rfl
  one:=by
    rintro w F cs x rfl u hu
    have:u=.int .u64 (x.toNat:Int):=by simpa using hu
    subst this;rfl
  agree:=fun h _=>h
  mono:=fun h _=>h
theorem Vb.u64 {w:World} {F:Nat→Prop} {v:Value} {x:U64} (h:Vb w F v x):v=.int .u64 (x.toNat:Int):=by
  have:[v]=[.int .u64 (x.toNat:Int)]:=h
  simpa using this
theorem vU64 {w:World} {F:Nat→Prop} {x:U64}:Vb w F (.int .u64 (x.toNat:Int)) x:=rfl
theorem wrapU (a:Int):IntKind.u64.wrap a=a % 18446744073709551616:=by simp [IntKind.wrap,IntKind.bits,IntKind.signed]
theorem wrapN (x:BitVec 64):IntKind.u64.wrap (x.toNat:Int)=(x.toNat:Int):=by
  rw [wrapU]
  have:=x.isLt
  omega
theorem ofIntU (x:U64):BitVec.ofInt 64 (x.toNat:Int)=x:=by simp
def shlU (a:U64) (q:Int):Option U64:=if 0≤q then some (a <<< q.toNat) else none
def shrU (a:U64) (q:Int):Option U64:=if 0≤q then some (a >>> q.toNat) else none
def shlI (a q:Int):Option Int:=if 0≤q then some (wr (a * 2 ^ (min q.toNat 64))) else none
theorem Qe {a q c:Int} (h:shlI a q=some c):inI64 c:=by
  unfold shlI at h
  split at h
  · rw [← sm h];exact Pp _
  · cases h
theorem toIntR (a:U64):inI64 a.toInt:=by
  have h1:=BitVec.toInt_lt (x:=a)
  have h2:=BitVec.le_toInt (x:=a)
  simp at h1 h2
  exact ⟨by omega,by omega⟩
section
variable {P : Program} {l : Env} {w : World} {dst : Option Tmp} {ty : TypeId} {pos : String} {aft : Array Edge}
theorem Sj {t u:TypeId} {x y:Operand} {a b:U64} (hx:opv l x=some (.int .u64 (a.toNat:Int))) (hy:opv l y=some (.int .u64 (b.toNat:Int))):Ev P ⟨dst,.binOp .and t x y u,ty,pos,aft,none⟩ l w (.int .u64 ((a &&& b).toNat:Int)):=fun _ _ d ha=>by
  have h:=wrapN (a &&& b)
  have h1:(BitVec.ofInt IntKind.u64.bits (a.toNat:Int))=a:=ofIntU a
  have h2:(BitVec.ofInt IntKind.u64.bits (b.toNat:Int))=b:=ofIntU b
  simp only [execOp,ha.eval hx,ha.eval hy,eqGuard,binOp,Op.intBits,h1,h2]
  simp
  exact h.trans (by simp)
theorem Sk {t u:TypeId} {x y:Operand} {a b:U64} (hx:opv l x=some (.int .u64 (a.toNat:Int))) (hy:opv l y=some (.int .u64 (b.toNat:Int))):Ev P ⟨dst,.binOp .or t x y u,ty,pos,aft,none⟩ l w (.int .u64 ((a ||| b).toNat:Int)):=fun _ _ d ha=>by
  have h:=wrapN (a ||| b)
  have h1:(BitVec.ofInt IntKind.u64.bits (a.toNat:Int))=a:=ofIntU a
  have h2:(BitVec.ofInt IntKind.u64.bits (b.toNat:Int))=b:=ofIntU b
  simp only [execOp,ha.eval hx,ha.eval hy,eqGuard,binOp,Op.intBits,h1,h2]
  simp
  exact h.trans (by simp)
theorem Sl {t u:TypeId} {x y:Operand} {a b:U64} (hx:opv l x=some (.int .u64 (a.toNat:Int))) (hy:opv l y=some (.int .u64 (b.toNat:Int))):Ev P ⟨dst,.binOp .xor t x y u,ty,pos,aft,none⟩ l w (.int .u64 ((a ^^^ b).toNat:Int)):=fun _ _ d ha=>by
  have h:=wrapN (a ^^^ b)
  have h1:(BitVec.ofInt IntKind.u64.bits (a.toNat:Int))=a:=ofIntU a
  have h2:(BitVec.ofInt IntKind.u64.bits (b.toNat:Int))=b:=ofIntU b
  simp only [execOp,ha.eval hx,ha.eval hy,eqGuard,binOp,Op.intBits,h1,h2]
  simp
  exact h.trans (by simp)
theorem Sm {t u:TypeId} {x y:Operand} {a b:U64} (hx:opv l x=some (.int .u64 (a.toNat:Int))) (hy:opv l y=some (.int .u64 (b.toNat:Int))):Ev P ⟨dst,.binOp .andNot t x y u,ty,pos,aft,none⟩ l w (.int .u64 ((a &&& ~~~b).toNat:Int)):=fun _ _ d ha=>by
  have h:=wrapN (a &&& ~~~b)
  have h1:(BitVec.ofInt IntKind.u64.bits (a.toNat:Int))=a:=ofIntU a
  have h2:(BitVec.ofInt IntKind.u64.bits (b.toNat:Int))=b:=ofIntU b
  simp only [execOp,ha.eval hx,ha.eval hy,eqGuard,binOp,Op.intBits,h1,h2]
  simp
  exact h.trans (by simp)
theorem Sn {t u:TypeId} {x y:Operand} {a b:U64} (hx:opv l x=some (.int .u64 (a.toNat:Int))) (hy:opv l y=some (.int .u64 (b.toNat:Int))):Ev P ⟨dst,.binOp .add t x y u,ty,pos,aft,none⟩ l w (.int .u64 ((a + b).toNat:Int)):=fun _ _ d ha=>by
  have h:IntKind.u64.wrap ((a.toNat:Int) + (b.toNat:Int))=((a + b).toNat:Int):=by
    rw [wrapU]
    have h1:=a.isLt
    have h2:=b.isLt
    rw [BitVec.toNat_add];omega
  simp [execOp,ha.eval hx,ha.eval hy,eqGuard,binOp,Op.intArith,h]
theorem So {t u:TypeId} {x y:Operand} {a b:U64} (hx:opv l x=some (.int .u64 (a.toNat:Int))) (hy:opv l y=some (.int .u64 (b.toNat:Int))):Ev P ⟨dst,.binOp .sub t x y u,ty,pos,aft,none⟩ l w (.int .u64 ((a - b).toNat:Int)):=fun _ _ d ha=>by
  have h:IntKind.u64.wrap ((a.toNat:Int) - (b.toNat:Int))=((a - b).toNat:Int):=by
    rw [wrapU]
    have h1:=a.isLt
    have h2:=b.isLt
    rw [BitVec.toNat_sub];omega
  simp [execOp,ha.eval hx,ha.eval hy,eqGuard,binOp,Op.intArith,h]
theorem Sp {t u:TypeId} {x y:Operand} {a b:U64} (hx:opv l x=some (.int .u64 (a.toNat:Int))) (hy:opv l y=some (.int .u64 (b.toNat:Int))):Ev P ⟨dst,.binOp .mul t x y u,ty,pos,aft,none⟩ l w (.int .u64 ((a * b).toNat:Int)):=fun _ _ d ha=>by
  have h:IntKind.u64.wrap ((a.toNat:Int) * (b.toNat:Int))=((a * b).toNat:Int):=by
    rw [wrapU]
    have h1:=a.isLt
    have h2:=b.isLt
    rw [BitVec.toNat_mul,Int.natCast_emod,Int.natCast_mul];rfl
  simp [execOp,ha.eval hx,ha.eval hy,eqGuard,binOp,Op.intArith,h]
theorem Sq {t u:TypeId} {x y:Operand} {a c:U64} {q:Int} {k:IntKind} (hx:opv l x=some (.int .u64 (a.toNat:Int))) (hy:opv l y=some (.int k q)) (he:shlU a q=some c):Ev P ⟨dst,.binOp .shl t x y u,ty,pos,aft,none⟩ l w (.int .u64 (c.toNat:Int)):=fun _ _ d ha=>by
  unfold shlU at he
  split at he
  · rename_i hq
    have hc:=sm he
    subst hc
    have h:IntKind.u64.wrap ((a.toNat:Int) * 2 ^ (min q.toNat IntKind.u64.bits))=((a <<< q.toNat).toNat:Int):=by
      rw [wrapU,BitVec.toNat_shiftLeft,Nat.shiftLeft_eq]
      show (a.toNat:Int) * 2 ^ (min q.toNat 64) % 18446744073709551616=((a.toNat * 2 ^ q.toNat % 18446744073709551616:Nat):Int)
      by_cases hk:q.toNat≤64
      · rw [Nat.min_eq_left hk,Int.natCast_emod,Int.natCast_mul,Int.natCast_pow];rfl
      · have hb:q.toNat=64 + (q.toNat - 64):=by omega
        rw [Nat.min_eq_right (by omega),hb,Nat.pow_add]
        have e1:a.toNat * (2 ^ 64 * 2 ^ (q.toNat - 64)) % 18446744073709551616=0:=by
          rw [← Nat.mul_assoc,Nat.mul_right_comm]
          exact Nat.mul_mod_left _ _
        have e2:(a.toNat:Int) * 2 ^ 64 % 18446744073709551616=0:=Int.mul_emod_left _ _
        rw [e1,e2];rfl
    have hn:¬ q < 0:=by omega
    simp [execOp,ha.eval hx,ha.eval hy,eqGuard,binOp,Op.shift,hn,h]
  · cases he
theorem Pv {t u:TypeId} {x y:Operand} {a c:U64} {q:Int} {k:IntKind} (hx:opv l x=some (.int .u64 (a.toNat:Int))) (hy:opv l y=some (.int k q)) (he:shrU a q=some c):Ev P ⟨dst,.binOp .shr t x y u,ty,pos,aft,none⟩ l w (.int .u64 (c.toNat:Int)):=fun _ _ d ha=>by
  unfold shrU at he
  split at he
  · rename_i hq
    have hc:=sm he
    subst hc
    have h:(a.toNat:Int).fdiv (2 ^ (min q.toNat IntKind.u64.bits))=((a >>> q.toNat).toNat:Int):=by
      rw [BitVec.toNat_ushiftRight,Nat.shiftRight_eq_div_pow]
      show (a.toNat:Int).fdiv (2 ^ (min q.toNat 64))=_
      have hl:=a.isLt
      rw [Int.fdiv_eq_ediv_of_nonneg _ (by exact_mod_cast Nat.zero_le (2 ^ (min q.toNat 64)))]
      by_cases hk:q.toNat≤64
      · rw [Nat.min_eq_left hk,Int.natCast_ediv,Int.natCast_pow];rfl
      · rw [Nat.min_eq_right (by omega)]
        have e1:a.toNat / 2 ^ q.toNat=0:=Nat.div_eq_of_lt (Nat.lt_of_lt_of_le hl (Nat.pow_le_pow_right (by decide) (by omega)))
        rw [e1]
        omega
    have hn:¬ q < 0:=by omega
    simp [execOp,ha.eval hx,ha.eval hy,eqGuard,binOp,Op.shift,hn,h]
  · cases he
theorem Sr {t u:TypeId} {x y:Operand} {a c q:Int} (hx:opv l x=some (.int .i64 a)) (hy:opv l y=some (.int .i64 q)) (he:shlI a q=some c):Ev P ⟨dst,.binOp .shl t x y u,ty,pos,aft,none⟩ l w (.int .i64 c):=fun _ _ d ha=>by
  unfold shlI at he
  split at he
  · rename_i hq
    have hc:=sm he
    subst hc
    have hn:¬ q < 0:=by omega
    simp [execOp,ha.eval hx,ha.eval hy,eqGuard,binOp,Op.shift,hn,wr,IntKind.bits]
  · cases he
theorem Pw {s t:TypeId} {k:IntKind} [hs:TInt P s k] [ht:TInt P t .u64] {x:Operand} {a:Int} (hx:opv l x=some (.int k a)):Ev P ⟨dst,.convert s t x,ty,pos,aft,none⟩ l w (.int .u64 ((BitVec.ofInt 64 a).toNat:Int)):=fun _ _ d ha=>by
  have h:IntKind.u64.wrap a=((BitVec.ofInt 64 a).toNat:Int):=by
    rw [wrapU,BitVec.toNat_ofInt]
    have:(0:Int)≤a % 18446744073709551616:=by omega
    simp
    omega
  simp [execOp,ha.eval hx,convert,run_underlying hs.eq,run_underlying ht.eq,Conv.intToInt,h]
theorem Px {s t:TypeId} [hs:TInt P s .u64] [ht:TInt P t .i64] {x:Operand} {a:U64} (hx:opv l x=some (.int .u64 (a.toNat:Int))):Ev P ⟨dst,.convert s t x,ty,pos,aft,none⟩ l w (.int .i64 a.toInt):=fun _ _ d ha=>by
  have h:IntKind.i64.wrap (a.toNat:Int)=a.toInt:=by
    rw [IntKind.wrap_i64,BitVec.toInt_eq_toNat_cond]
    have:=a.isLt
    split<;>omega
  simp [execOp,ha.eval hx,convert,run_underlying hs.eq,run_underlying ht.eq,Conv.intToInt,h]
end
section
variable {P : Program} {n : Nat} {ops : Array Oper} {Q : Post} {rest : List Oper} {l : Env} {w : World} {d : Tmp} {ty : TypeId} {pos : String} {aft : Array Edge}
theorem QV {t u:TypeId} {x y:Operand} {a b:U64} (hx:opv l x=some (.int .u64 (a.toNat:Int))) (hy:opv l y=some (.int .u64 (b.toNat:Int))) (hd:Nat.blt d n=true) (h:owp P n ops Q rest ((d,.int .u64 ((a ^^^ b).toNat:Int)) :: l) w)  : owp P n ops Q (⟨some d,.binOp .xor t x y u,ty,pos,aft,none⟩ :: rest) l w:=Bg (Sl hx hy) hd h
theorem Tb {t u:TypeId} {x y:Operand} {a b:U64} (hx:opv l x=some (.int .u64 (a.toNat:Int))) (hy:opv l y=some (.int .u64 (b.toNat:Int))) (hd:Nat.blt d n=true) (h:owp P n ops Q rest ((d,.int .u64 ((a + b).toNat:Int)) :: l) w)  : owp P n ops Q (⟨some d,.binOp .add t x y u,ty,pos,aft,none⟩ :: rest) l w:=Bg (Sn hx hy) hd h
theorem Tc {t u:TypeId} {x y:Operand} {a b:U64} (hx:opv l x=some (.int .u64 (a.toNat:Int))) (hy:opv l y=some (.int .u64 (b.toNat:Int))) (hd:Nat.blt d n=true) (h:owp P n ops Q rest ((d,.int .u64 ((a * b).toNat:Int)) :: l) w)  : owp P n ops Q (⟨some d,.binOp .mul t x y u,ty,pos,aft,none⟩ :: rest) l w:=Bg (Sp hx hy) hd h
theorem QW {t u:TypeId} {x y:Operand} {a c:U64} {q:Int} {k:IntKind} (hx:opv l x=some (.int .u64 (a.toNat:Int))) (hy:opv l y=some (.int k q)) (hd:Nat.blt d n=true) (h:owp P n ops Q rest ((d,.int .u64 (c.toNat:Int)) :: l) w) (he:shrU a q=some c:=by assumption):owp P n ops Q (⟨some d,.binOp .shr t x y u,ty,pos,aft,none⟩ :: rest) l w:=Bg (Pv hx hy he) hd h
theorem Td {t u:TypeId} {x y:Operand} {a c q:Int} (hx:opv l x=some (.int .i64 a)) (hy:opv l y=some (.int .i64 q)) (hd:Nat.blt d n=true) (h:owp P n ops Q rest ((d,.int .i64 c) :: l) w) (he:shlI a q=some c:=by assumption):owp P n ops Q (⟨some d,.binOp .shl t x y u,ty,pos,aft,none⟩ :: rest) l w:=Bg (Sr hx hy he) hd h
theorem Te {s t:TypeId} {k:IntKind} [TInt P s k] [TInt P t .u64] {x:Operand} {a:Int} (hx:opv l x=some (.int k a)) (hd:Nat.blt d n=true) (h:owp P n ops Q rest ((d,.int .u64 ((BitVec.ofInt 64 a).toNat:Int)) :: l) w)  : owp P n ops Q (⟨some d,.convert s t x,ty,pos,aft,none⟩ :: rest) l w:=Bg (Pw hx) hd h
theorem Tf {s t:TypeId} [TInt P s .u64] [TInt P t .i64] {x:Operand} {a:U64} (hx:opv l x=some (.int .u64 (a.toNat:Int))) (hd:Nat.blt d n=true) (h:owp P n ops Q rest ((d,.int .i64 a.toInt) :: l) w)  : owp P n ops Q (⟨some d,.convert s t x,ty,pos,aft,none⟩ :: rest) l w:=Bg (Px hx) hd h
variable {S : World → Prop} {r : List (Nat × Bool)} {i : Nat}
theorem Tg {t u:TypeId} {x y:Operand} {a b:U64} (hi:ops[i]?=some ⟨some d,.binOp .and t x y u,ty,pos,aft,none⟩) (hx:opv l x=some (.int .u64 (a.toNat:Int))) (hy:opv l y=some (.int .u64 (b.toNat:Int))) (hd:Nat.blt d n=true) (h:hwp P n ops Q S r ((d,.int .u64 ((a &&& b).toNat:Int)) :: l) w)  : hwp P n ops Q S ((i,true) :: r) l w:=AA hi (Bl (fun _ _=>Sj hx hy) hd h)
theorem Th {t u:TypeId} {x y:Operand} {a b:U64} (hi:ops[i]?=some ⟨some d,.binOp .or t x y u,ty,pos,aft,none⟩) (hx:opv l x=some (.int .u64 (a.toNat:Int))) (hy:opv l y=some (.int .u64 (b.toNat:Int))) (hd:Nat.blt d n=true) (h:hwp P n ops Q S r ((d,.int .u64 ((a ||| b).toNat:Int)) :: l) w)  : hwp P n ops Q S ((i,true) :: r) l w:=AA hi (Bl (fun _ _=>Sk hx hy) hd h)
theorem Ti {t u:TypeId} {x y:Operand} {a b:U64} (hi:ops[i]?=some ⟨some d,.binOp .andNot t x y u,ty,pos,aft,none⟩) (hx:opv l x=some (.int .u64 (a.toNat:Int))) (hy:opv l y=some (.int .u64 (b.toNat:Int))) (hd:Nat.blt d n=true) (h:hwp P n ops Q S r ((d,.int .u64 ((a &&& ~~~b).toNat:Int)) :: l) w)  : hwp P n ops Q S ((i,true) :: r) l w:=AA hi (Bl (fun _ _=>Sm hx hy) hd h)
theorem Tj {t u:TypeId} {x y:Operand} {a b:U64} (hi:ops[i]?=some ⟨some d,.binOp .sub t x y u,ty,pos,aft,none⟩) (hx:opv l x=some (.int .u64 (a.toNat:Int))) (hy:opv l y=some (.int .u64 (b.toNat:Int))) (hd:Nat.blt d n=true) (h:hwp P n ops Q S r ((d,.int .u64 ((a - b).toNat:Int)) :: l) w)  : hwp P n ops Q S ((i,true) :: r) l w:=AA hi (Bl (fun _ _=>So hx hy) hd h)
theorem OL {t u:TypeId} {x y:Operand} {a c:U64} {q:Int} {k:IntKind} (hi:ops[i]?=some ⟨some d,.binOp .shl t x y u,ty,pos,aft,none⟩) (hx:opv l x=some (.int .u64 (a.toNat:Int))) (hy:opv l y=some (.int k q)) (hd:Nat.blt d n=true) (h:hwp P n ops Q S r ((d,.int .u64 (c.toNat:Int)) :: l) w) (he:shlU a q=some c:=by assumption):hwp P n ops Q S ((i,true) :: r) l w:=AA hi (Bl (fun _ _=>Sq hx hy he) hd h)
theorem Tk {t u:TypeId} {x y:Operand} {a c:U64} {q:Int} {k:IntKind} (hi:ops[i]?=some ⟨some d,.binOp .shr t x y u,ty,pos,aft,none⟩) (hx:opv l x=some (.int .u64 (a.toNat:Int))) (hy:opv l y=some (.int k q)) (hd:Nat.blt d n=true) (h:hwp P n ops Q S r ((d,.int .u64 (c.toNat:Int)) :: l) w) (he:shrU a q=some c:=by assumption):hwp P n ops Q S ((i,true) :: r) l w:=AA hi (Bl (fun _ _=>Pv hx hy he) hd h)
theorem Tl {s t:TypeId} {k:IntKind} [TInt P s k] [TInt P t .u64] {x:Operand} {a:Int} (hi:ops[i]?=some ⟨some d,.convert s t x,ty,pos,aft,none⟩) (hx:opv l x=some (.int k a)) (hd:Nat.blt d n=true) (h:hwp P n ops Q S r ((d,.int .u64 ((BitVec.ofInt 64 a).toNat:Int)) :: l) w)  : hwp P n ops Q S ((i,true) :: r) l w:=AA hi (Bl (fun _ _=>Pw hx) hd h)
theorem Tm {s t:TypeId} [TInt P s .u64] [TInt P t .i64] {x:Operand} {a:U64} (hi:ops[i]?=some ⟨some d,.convert s t x,ty,pos,aft,none⟩) (hx:opv l x=some (.int .u64 (a.toNat:Int))) (hd:Nat.blt d n=true) (h:hwp P n ops Q S r ((d,.int .i64 a.toInt) :: l) w)  : hwp P n ops Q S ((i,true) :: r) l w:=AA hi (Bl (fun _ _=>Px hx) hd h)
end
end
section
open Go Go.RowKit
attribute [local irreducible] ewp owp hwp hwq hws Ev Evg Fn retPost loud loudS Res1
attribute [local irreducible] hwx loudX
def Bj (xs:List Fct):Option (List Fct):=if xs.length * 16≤140737488355328∧xs.length≤9223372036854775807 then some xs else none
theorem Cz {w:World} {A:Nat→Prop} (hA:∀ k,A k→k < w.heap.size) {v0:Value} {x0:List Fct} (h0:Vb w A v0 x0) {r:List Fct} (hm:Bj x0=some r) :
    Fn Tryz.prog 51 [v0] w fun v w'=>Ext w w'∧RowR w w' (upA A w w') 62 v r:=by
  obtain ⟨⟨hl,a0⟩,rfl⟩:=Fp hm
  obtain ⟨O,hB,b0⟩:=enter hA
  replace h0:=h0.mono b0
  obtain ⟨Ad,c,rfl⟩:=h0.form
  refine AH Tryz.func51 rfl Tryz.ntmps51 rfl ?_
  cases Ad with
  | none =>
    have hx:x0=[]:=by
      cases x0 with
      | nil=>rfl
      | cons x xs=>obtain ⟨_,_,_,h,_⟩:=h0.elem (k:=0) (x:=x) rfl;cases h
    subst hx
    ((repeat (first|refine Aw ?_|refine Ah rfl ?_|refine Ae rfl ?_))<;>(refine Au rfl rfl ?_<;>(refine o_z ?_))<;>(repeat (first|refine Aw ?_|refine Ah rfl ?_|refine Ae rfl ?_))<;>(refine Ar rfl rfl ?_<;>refine GS rfl rfl ?_<;>(refine o_z ?_))<;>(repeat (first|refine Aw ?_|refine Ah rfl ?_|refine Ae rfl ?_))<;>(refine Au rfl rfl ?_<;>(refine o_z ?_))<;>(repeat (first|refine Aw ?_|refine Ah rfl ?_|refine Ae rfl ?_)))
    exact ret1 rfl rfl ⟨Below.refl _ _,RowR.nil⟩
  | some ad =>
    ((repeat (first|refine Aw ?_|refine Ah rfl ?_|refine Ae rfl ?_))<;>(refine Au rfl rfl ?_<;>(refine o_z ?_))<;>(repeat (first|refine Aw ?_|refine Ah rfl ?_|refine Ae rfl ?_))<;>(refine Ar rfl rfl ?_<;>refine GS rfl rfl ?_<;>(refine o_z ?_))<;>(repeat (first|refine Aw ?_|refine Ah rfl ?_|refine Ae rfl ?_)))
    refine Bv 2 (by decide) O (xs:=([]:List Fct)) rfl rfl rfl rfl trivial (by decide) (by decide) rfl fun g w1 O1 S1 h1=>?_
    replace hB:=hB.st S1 (fun h=>h) (fun h=>h)
    replace h0:=h0.st S1 (fun h=>h)
    (refine Ar rfl rfl ?_)
    refine Bw rfl h1 h0.rd rfl rfl (by decide) (by simpa using hl) (by simpa using a0) rfl fun A2 c2 w2 O2 S2 h2=>?_
    replace hB:=hB.st S2 (by decide) (by decide)
    rw [List.nil_append] at h2 ⊢
    (refine Au rfl rfl ?_<;>(refine o_z ?_))
    repeat (first|refine Aw ?_|refine Ah rfl ?_|refine Ae rfl ?_)
    exact ret1 rfl rfl ⟨hB.ext,h2.out hB (by decide)⟩
def Bx (xs:List Eff):Option (List Eff):=if xs.length * 40≤140737488355328∧xs.length≤9223372036854775807 then some xs else none
theorem DF {w:World} {A:Nat→Prop} (hA:∀ k,A k→k < w.heap.size) {v0:Value} {x0:List Eff} (h0:Vb w A v0 x0) {r:List Eff} (hm:Bx x0=some r) :
    Fn Tryz.prog 52 [v0] w fun v w'=>Ext w w'∧RowR w w' (upA A w w') 64 v r:=by
  obtain ⟨⟨hl,a0⟩,rfl⟩:=Fp hm
  obtain ⟨O,hB,b0⟩:=enter hA
  replace h0:=h0.mono b0
  obtain ⟨Ad,c,rfl⟩:=h0.form
  refine AH Tryz.func52 rfl Tryz.ntmps52 rfl ?_
  cases Ad with
  | none =>
    have hx:x0=[]:=by
      cases x0 with
      | nil=>rfl
      | cons x xs=>obtain ⟨_,_,_,h,_⟩:=h0.elem (k:=0) (x:=x) rfl;cases h
    subst hx
    ((repeat (first|refine Aw ?_|refine Ah rfl ?_|refine Ae rfl ?_))<;>(refine Au rfl rfl ?_<;>(refine o_z ?_))<;>(repeat (first|refine Aw ?_|refine Ah rfl ?_|refine Ae rfl ?_))<;>(refine Ar rfl rfl ?_<;>refine GS rfl rfl ?_<;>(refine o_z ?_))<;>(repeat (first|refine Aw ?_|refine Ah rfl ?_|refine Ae rfl ?_))<;>(refine Au rfl rfl ?_<;>(refine o_z ?_))<;>(repeat (first|refine Aw ?_|refine Ah rfl ?_|refine Ae rfl ?_)))
    exact ret1 rfl rfl ⟨Below.refl _ _,RowR.nil⟩
  | some ad =>
    ((repeat (first|refine Aw ?_|refine Ah rfl ?_|refine Ae rfl ?_))<;>(refine Au rfl rfl ?_<;>(refine o_z ?_))<;>(repeat (first|refine Aw ?_|refine Ah rfl ?_|refine Ae rfl ?_))<;>(refine Ar rfl rfl ?_<;>refine GS rfl rfl ?_<;>(refine o_z ?_))<;>(repeat (first|refine Aw ?_|refine Ah rfl ?_|refine Ae rfl ?_)))
    refine Bv 2 (by decide) O (xs:=([]:List Eff)) rfl rfl rfl rfl trivial (by decide) (by decide) rfl fun g w1 O1 S1 h1=>?_
    replace hB:=hB.st S1 (fun h=>h) (fun h=>h)
    replace h0:=h0.st S1 (fun h=>h)
    (refine Ar rfl rfl ?_)
    refine Bw rfl h1 h0.rd rfl rfl (by decide) (by simpa using hl) (by simpa using a0) rfl fun A2 c2 w2 O2 S2 h2=>?_
    replace hB:=hB.st S2 (by decide) (by decide)
    rw [List.nil_append] at h2 ⊢
    (refine Au rfl rfl ?_<;>(refine o_z ?_))
    repeat (first|refine Aw ?_|refine Ah rfl ?_|refine Ae rfl ?_)
    exact ret1 rfl rfl ⟨hB.ext,h2.out hB (by decide)⟩
noncomputable def CJ (x0:List Eff):Option (List Eff) :=
  bnd (rngN (ρ:=(List Eff)) (fun (k8:Nat) (s6:(List Eff))=>bnd (s6[k8]?) fun a27=>bnd (Bj a27.cond) fun q42=>bnd (s6[k8]?) fun a52=>some (.next (s6.set k8 ({ a52 with cond:=q42 }:Eff)))) x0.length x0) fun res4=>fin res4 fun (s81:(List Eff))=>some s81
theorem Jd {w:World} {O:Lab} {A0:Option Addr} {m0 c0 i0:Nat} {x0:List Eff} (d0:Rw i0 w O 64 (.slice A0 m0 c0) x0) {r:(List Eff)} (hm:CJ x0=some r) :
    Fn Tryz.prog 54 [(.slice A0 m0 c0)] w fun v w'=>∃ O',St (eT i0) w O w' O'∧Rw i0 w' O' 64 (.slice A0 m0 c0) r∧v=.slice A0 m0 c0:=by
 obtain ⟨O0,hE,w0,y0⟩:=ent1 (w:=w) (O:=O) d0.2.2
 obtain rfl:m0=x0.length:=d0.len.1
 have d0':=Rw.leave d0 w0 y0 (j:=2) (by decide)
 have hB:Bm w O0 w O0:=Bm.refl
 refine AH Tryz.func54 rfl Tryz.ntmps54 rfl ?_
 unfold CJ at hm
 refine Al (Aj (Au rfl rfl (o_z ?_)))
 refine Al (Al (Aj (Ar rfl rfl (AP rfl rfl ?_))))
 have l3:x0.length≤9223372036854775807:=Nat.le_trans d0'.len.2.1 d0'.len.2.2
 have r2:inI64 (x0.length:Int):=rngNat l3
 refine Ar rfl rfl (o_z ?_)
 obtain ⟨f0,z0,hm⟩:=bs hm
 refine AL (aft f0 (fun (s6:(List Eff)) (x7:Unit)=>[(0,(.slice A0 x0.length c0))]) (fun s6 x7 w'=>∃ O':Lab,Bm w O0 w' O'∧Rw 2 w' O' 64 (.slice A0 x0.length c0) s6)) ?_ ?_
 ·
  refine AN (Gy (σ:=(List Eff)) (X:=Unit) (x0.length) z0 l3 (fun (s6:(List Eff)) (x7:Unit)=>[(0,(.slice A0 x0.length c0))]) _ (fun s6 x7 w'=>∃ O':Lab,Bm w O0 w' O'∧Rw 2 w' O' 64 (.slice A0 x0.length c0) s6) _ () ⟨O0,hB,d0'⟩ ⟨rfl,rfl,rfl,trivial⟩ (fun _ _=>⟨rfl,rfl⟩) (fun _ _=>⟨rfl,trivial⟩) (fun _ _ _ ⟨O',hB,b0⟩=>⟨O',hB,b0⟩) ⟨rfl,rfl,rfl⟩ ⟨rfl,rfl⟩ ?_)
  rintro k8 s6 x7 m1 a1 g0 ⟨b1,hB,b0⟩ a0 h0 j0
  have rk8:inI64 (k8:Int):=rngKN g0 l3
  refine Al (Aj (Ar rfl rfl (Au rfl rfl (o_z ?_))))
  refine Aj (Ar rfl rfl (Ar rfl rfl (Ar rfl rfl (Ar rfl rfl ?_))))
  obtain ⟨n1,c1,a0⟩:=bs a0
  obtain ⟨o1,p1,d1,k0,l0,n0,q1,rfl,r0,r1,s1⟩:=b0.elem c1
  obtain ⟨t1,u1,rfl⟩:=r0.form
  refine Bi (hA:=k0) (hj:=rfl) (hlt:=l0) rfl rfl rfl ?_
  refine AG rfl rfl (AE (hc:=cat0 n0) rfl rfl ?_)
  obtain ⟨e1,f1,a0⟩:=bs a0
  refine DG 3 (by decide) (O:=b1) (Cz Fr.lt r0 f1) rfl rfl fun v1 w1 x1 y1 s0 o0=>?_
  obtain ⟨t0,u0,a0⟩:=bs a0
  replace b0:=b0.st s0
  obtain ⟨z1,a2,g1,e0,p0,h1,b2,rfl,i1,c2,d2⟩:=b0.elem u0
  obtain ⟨e2,f2,rfl⟩:=i1.form
  refine Bi (hA:=e0) (hj:=rfl) (hlt:=p0) rfl rfl rfl ?_
  refine AG rfl rfl ?_
  obtain ⟨g2,v0,o0⟩:=o0.freeze
  replace b0:=b0.st v0
  refine Jr (a:=t0) (a':=({ t0 with cond:=e1 }:Eff)) (off:=0) b0 e0 u0 rfl rfl rfl (Nat.le_of_ble_eq_true rfl) (by first|exact allOne rfl|simp [Value.cells,Value.oneCell',Fq]) (by rintro ce ⟨h2,rfl,i2,j1,k1⟩;exact ⟨_,rfl,o0,j1,k1⟩) fun j2 l1 b0=>?_
  refine o_z ?_
  obtain rfl:=sm a0
  exact show Exists _ from ⟨_,(),rfl,⟨rfl,rfl,rfl,trivial⟩,_,((hB.st s0).st v0).st l1,b0⟩
 rintro k2 l2 ⟨m2,n2,rfl,q0,o2,hB,b0⟩
 replace hm:=AV hm
 refine AQ _ q0 ?_
 refine Al (Aj (Ar rfl rfl (Au rfl rfl (o_z ?_))))
 refine AK ?_
 obtain rfl:=sm hm
 obtain ⟨O',hS',hz,hl⟩:=hE.leave (fun q=>if q=2 then i0 else 0) rfl hB
 exact ret1v rfl (AB rfl) ⟨O',hS',(Rw.leave b0 hz (hl 2 (by decide) (by decide)) d0.2.2),rfl⟩
end
section
open Go Go.RowKit
structure Raw (a:Bool) (n:Nat) where
  cs:List Value
  len:cs.length=n
  one:∀ u∈cs,u.oneCell'=true
instance {a:Bool} {n:Nat}:Rp (Raw a n) where
  isAgg:=a
  size:=n
  R _ _ cs x:=cs=x.cs
  len:=by rintro _ _ cs x rfl;exact x.len
  one:=by rintro _ _ cs x rfl;exact x.one
  agree:=by rintro _ _ _ cs x rfl _;rfl
  mono:=by rintro _ _ _ cs x rfl _;rfl
class NestAt (α β:Type) [Rp α] [Rp β] where
  q:Nat
  get:α→List β
  put:α→List β→α
  get_put:∀ x y,get (put x y)=y
  put_put:∀ x y z,put (put x y) z=put x z
  split:∀ {w F cs x},Rp.R w F cs x→Rp.R w F (cs.set q (.slice none 0 0)) (put x [])∧∃ v,cs[q]?=some v∧Vb w F v (get x)
  join:∀ {w F cs x v},Rp.R w F (cs.set q (.slice none 0 0)) (put x [])→cs[q]?=some v→Vb w F v (get x)→Rp.R w F cs x
def Nest {α β:Type} [Rp α] [Rp β] [N:NestAt α β] {a:Bool} {n:Nat} (j:Nat) (w:World) (O:Lab) (e:TypeId) (rs:List (Raw a n)) (xs:List α) (skip:Option Nat):Prop :=
  (∃ L:Lab,rs.length=xs.length∧∀ (k:Nat) (r:Raw a n) (x:α),rs[k]?=some r→xs[k]?=some x →
    Rp.R w (Fr 0 w O) (r.cs.set N.q (.slice none 0 0)) (N.put x [])∧(skip≠some k→∃ v,r.cs[N.q]?=some v∧RwM w (Fr 0 w O) (fun b=>Fr j w O b∧L b=k) e v (N.get x)))∧j≠0
section
variable {α β : Type} [Rp α] [Rp β] [N : NestAt α β] {a : Bool} {n i j l : Nat} {T : Nat → Prop} {w w' : World} {O O' : Lab} {e : TypeId} {rs : List (Raw a n)} {xs : List α} {skip : Option Nat}
theorem Nest.st (h:Nest (β:=β) j w O e rs xs skip) (hS:St T w O w' O') (h0:¬ T 0:=by decide) (hj:¬ T j:=by decide):Nest (β:=β) j w' O' e rs xs skip:=by
  obtain ⟨⟨L,hl,hr⟩,h1⟩:=h
  refine ⟨⟨L,hl,fun k r x g1 g2=>⟨Rp.mono (Rp.agree (hr k r x g1 g2).1 (hS.agree h0)) (hS.fr h0),fun g3=>?_⟩⟩,h1⟩
  obtain ⟨v,hv,hm⟩:=(hr k r x g1 g2).2 g3
  exact ⟨v,hv,(hm.agree (hS.agree h0) fun b hb=>hS.agree hj b hb.1).mono (hS.fr h0) (fun b hb=>⟨hS.fr hj b hb.1,hb.2⟩) fun b hf hm=>frNe0 h1 b hf hm.1⟩
theorem Nest.nil (hj:j≠0):Nest (α:=α) (β:=β) (a:=a) (n:=n) j w O e [] [] none:=⟨⟨fun _=>0,rfl,fun k r x h=>by simp at h⟩,hj⟩
theorem Nest.snoc (h:Nest (β:=β) j w O e rs xs none) {r:Raw a n} {x:α} {v:Value} (hr:Rp.R w (Fr 0 w O) (r.cs.set N.q (.slice none 0 0)) (N.put x [])) (hv:r.cs[N.q]?=some v) (hw:Rw l w O e v (N.get x)) (hlj:l≠j) :
    ∃ O',St (eT l) w O w O'∧Nest (β:=β) j w O' e (rs ++ [r]) (xs ++ [x]) none:=by
  obtain ⟨⟨L,hl,hra⟩,hj⟩:=h
  have hl0:l≠0:=hw.2.2
  have hF:∀ k,Fr 0 w O k→Fr 0 w (fun k=>if O k=l then j else O k) k:=fun k hk=>⟨hk.1,by show (if _ then _ else _)=_;rw [if_neg (by rw [hk.2];exact Ne.symm hl0)];exact hk.2⟩
  refine ⟨fun k=>if O k=l then j else O k,⟨rfl,rfl,rfl,Nat.le_refl _,fun k _ hk=>⟨rfl,if_neg hk⟩⟩,⟨fun b=>if O b=l then rs.length else L b,by simp [hl],fun k r' x' g1 g2=>?_⟩,hj⟩
  rcases Nat.lt_or_ge k rs.length with hk|hk
  · rw [List.getElem?_append_left hk] at g1
    rw [List.getElem?_append_left (by omega)] at g2
    refine ⟨Rp.mono (hra k r' x' g1 g2).1 hF,fun _=>?_⟩
    obtain ⟨v',hv',hm⟩:=(hra k r' x' g1 g2).2 (by simp)
    refine ⟨v',hv',hm.mono hF (fun b hb=>?_) fun b hf hm=>frNe0 hj b hf hm.1⟩
    have hb':O b≠l:=by rw [hb.1.2];exact Ne.symm hlj
    exact ⟨⟨hb.1.1,by show (if _ then _ else _)=_;rw [if_neg hb'];exact hb.1.2⟩,by show (if _ then _ else _)=_;rw [if_neg hb'];exact hb.2⟩
  · have hk2:=AD g1
    rw [List.length_append,List.length_singleton] at hk2
    have:k=rs.length:=by omega
    subst this
    rw [List.getElem?_append_right (Nat.le_refl _),Nat.sub_self] at g1
    rw [hl,List.getElem?_append_right (Nat.le_refl _),Nat.sub_self] at g2
    have e1:r=r':=by simpa using g1
    have e2:x=x':=by simpa using g2
    subst e1 e2
    refine ⟨Rp.mono hr hF,fun _=>⟨v,hv,?_⟩⟩
    have h1:RwM w (Fr 0 w O) (Fr l w O) e v (N.get x):=hw.m (fun _ h=>h) (fun _ h=>h) (frNe0 hl0)
    exact h1.mono hF (fun b hb=>⟨⟨hb.1,if_pos hb.2⟩,if_pos hb.2⟩) fun b hf hm=>frNe0 hj b hf hm.1
theorem Nest.take (h:Nest (β:=β) j w O e rs xs none) {k:Nat} {r:Raw a n} {x:α} (hr:rs[k]?=some r) (hx:xs[k]?=some x) (l:Nat) (hl:l≠0) (hlj:l≠j) :
    ∃ O' v,St (eT j) w O w O'∧r.cs[N.q]?=some v∧Nest (β:=β) j w O' e rs xs (some k)∧Rw l w O' e v (N.get x):=by
  obtain ⟨⟨L,hlen,hra⟩,hj⟩:=h
  obtain ⟨v,hv,hm⟩:=(hra k r x hr hx).2 (by simp)
  have hF:∀ b,Fr 0 w O b→Fr 0 w (fun b=>if O b=j∧L b=k then l else O b) b:=fun b hb=>⟨hb.1,by show (if _ then _ else _)=_;rw [if_neg (by rw [hb.2];exact fun h=>hj h.1.symm)];exact hb.2⟩
  refine ⟨fun b=>if O b=j∧L b=k then l else O b,v,⟨rfl,rfl,rfl,Nat.le_refl _,fun b _ hb=>⟨rfl,if_neg fun h=>hb h.1⟩⟩,hv,⟨⟨L,hlen,fun k' r' x' g1 g2=>⟨Rp.mono (hra k' r' x' g1 g2).1 hF,fun g3=>?_⟩⟩,hj⟩,hm.rw hF (fun b hb=>⟨hb.1.1,if_pos ⟨hb.1.2,hb.2⟩⟩) hl⟩
  obtain ⟨v',hv',hm'⟩:=(hra k' r' x' g1 g2).2 (by simp)
  refine ⟨v',hv',hm'.mono hF (fun b hb=>?_) fun b hf hm=>frNe0 hj b hf hm.1⟩
  have hne:¬ (O b=j∧L b=k):=fun h=>g3 (by rw [← h.2,hb.2])
  exact ⟨⟨hb.1.1,by show (if _ then _ else _)=_;rw [if_neg hne];exact hb.1.2⟩,hb.2⟩
theorem Nest.put {k:Nat} (h:Nest (β:=β) j w O e rs xs (some k)) {r r':Raw a n} {x:α} {v:Value} {ys:List β} (hr:rs[k]?=some r) (hx:xs[k]?=some x) (hr':r'.cs=r.cs.set N.q v) (hq:N.q < n) (hw:Rw l w O e v ys) (hlj:l≠j) :
    ∃ O',St (eT l) w O w O'∧Nest (β:=β) j w O' e (rs.set k r') (xs.set k (N.put x ys)) none:=by
  obtain ⟨⟨L,hlen,hra⟩,hj⟩:=h
  have hl0:l≠0:=hw.2.2
  have hF:∀ b,Fr 0 w O b→Fr 0 w (fun b=>if O b=l then j else O b) b:=fun b hb=>⟨hb.1,by show (if _ then _ else _)=_;rw [if_neg (by rw [hb.2];exact Ne.symm hl0)];exact hb.2⟩
  refine ⟨fun b=>if O b=l then j else O b,⟨rfl,rfl,rfl,Nat.le_refl _,fun b _ hb=>⟨rfl,if_neg hb⟩⟩,⟨fun b=>if O b=l then k else L b,by simp [hlen],fun k' r2 x2 g1 g2=>?_⟩,hj⟩
  by_cases hk:k'=k
  · subst hk
    rw [List.getElem?_set_self (AD hr)] at g1
    rw [List.getElem?_set_self (AD hx)] at g2
    have e1:r'=r2:=by simpa using g1
    have e2:N.put x ys=x2:=by simpa using g2
    subst e1 e2
    refine ⟨?_,fun _=>⟨v,?_,?_⟩⟩
    · rw [hr',List.set_set,N.put_put];exact Rp.mono (hra k' r x hr hx).1 hF
    · rw [hr',List.getElem?_set_self (by rw [r.len];exact hq)]
    · rw [N.get_put]
      have h1:RwM w (Fr 0 w O) (Fr l w O) e v ys:=hw.m (fun _ h=>h) (fun _ h=>h) (frNe0 hl0)
      exact h1.mono hF (fun b hb=>⟨⟨hb.1,if_pos hb.2⟩,if_pos hb.2⟩) fun b hf hm=>frNe0 hj b hf hm.1
  · rw [List.getElem?_set_ne (Ne.symm hk)] at g1 g2
    refine ⟨Rp.mono (hra k' r2 x2 g1 g2).1 hF,fun _=>?_⟩
    obtain ⟨v',hv',hm⟩:=(hra k' r2 x2 g1 g2).2 (fun h=>hk (Option.some.inj h).symm)
    refine ⟨v',hv',hm.mono hF (fun b hb=>?_) fun b hf hm=>frNe0 hj b hf hm.1⟩
    have hb':O b≠l:=by rw [hb.1.2];exact Ne.symm hlj
    exact ⟨⟨hb.1.1,by show (if _ then _ else _)=_;rw [if_neg hb'];exact hb.1.2⟩,by show (if _ then _ else _)=_;rw [if_neg hb'];exact hb.2⟩
theorem Nest.app {rs':List (Raw a n)} {xs':List α} (h:Nest (β:=β) j w O e rs xs none) (h':Nest (β:=β) l w O e rs' xs' none) (hlj:l≠j) :
    ∃ O',St (eT l) w O w O'∧Nest (β:=β) j w O' e (rs ++ rs') (xs ++ xs') none:=by
  obtain ⟨⟨L,hl,hra⟩,hj⟩:=h
  obtain ⟨⟨L',hl',hra'⟩,hl0⟩:=h'
  have hF:∀ k,Fr 0 w O k→Fr 0 w (fun k=>if O k=l then j else O k) k:=fun k hk=>⟨hk.1,by show (if O k=l then j else O k)=0;rw [if_neg (by rw [hk.2];exact Ne.symm hl0)];exact hk.2⟩
  refine ⟨fun k=>if O k=l then j else O k,⟨rfl,rfl,rfl,Nat.le_refl _,fun k _ hk=>⟨rfl,if_neg hk⟩⟩,⟨fun b=>if O b=l then rs.length + L' b else L b,by simp [hl,hl'],fun k r' x' g1 g2=>?_⟩,hj⟩
  rcases Nat.lt_or_ge k rs.length with hk|hk
  · rw [List.getElem?_append_left hk] at g1
    rw [List.getElem?_append_left (by omega)] at g2
    refine ⟨Rp.mono (hra k r' x' g1 g2).1 hF,fun _=>?_⟩
    obtain ⟨v',hv',hm⟩:=(hra k r' x' g1 g2).2 (by simp)
    refine ⟨v',hv',hm.mono hF (fun b hb=>?_) fun b hf hm=>frNe0 hj b hf hm.1⟩
    have hb':O b≠l:=by rw [hb.1.2];exact Ne.symm hlj
    refine ⟨⟨hb.1.1,?_⟩,?_⟩
    · show (if O b=l then j else O b)=j
      rw [if_neg hb'];exact hb.1.2
    · show (if O b=l then rs.length + L' b else L b)=k
      rw [if_neg hb'];exact hb.2
  · rw [List.getElem?_append_right hk] at g1
    rw [List.getElem?_append_right (by omega)] at g2
    rw [← hl] at g2
    refine ⟨Rp.mono (hra' _ r' x' g1 g2).1 hF,fun _=>?_⟩
    obtain ⟨v',hv',hm⟩:=(hra' _ r' x' g1 g2).2 (by simp)
    refine ⟨v',hv',hm.mono hF (fun b hb=>⟨⟨hb.1.1,if_pos hb.1.2⟩,?_⟩) fun b hf hm=>frNe0 hj b hf hm.1⟩
    show (if O b=l then rs.length + L' b else L b)=k
    rw [if_pos hb.1.2,hb.2];omega
theorem Chunks.conv {γ δ:Type} [Rp γ] [Rp δ] {F G:Nat→Prop}:∀ {rs:List γ} {xs:List δ} {cells:List Value},rs.length=xs.length→(∀ (k:Nat) r x cs,rs[k]?=some r→xs[k]?=some x→Rp.R w F cs r→Rp.R w G cs x)→Chunks w F cells rs→Chunks w G cells xs
  | [],[],_,_,_,h=>h
  | [],_ :: _,_,hl,_,_=>by simp at hl
  | _ :: _,[],_,hl,_,_=>by simp at hl
  | r :: rs,x :: xs,_,hl,hc,⟨cs,rest,he,hr,h⟩ =>
    ⟨cs,rest,he,hc 0 r x cs rfl rfl hr,Chunks.conv (by simpa using hl) (fun k r x cs g1 g2=>hc (k + 1) r x cs (by simpa using g1) (by simpa using g2)) h⟩
theorem Nest.lend {e':TypeId} {v:Value} (hR:Rw i w O e' v rs) (h:Nest (β:=β) j w O e rs xs none):Vb w (FrS [i,j] w O) v xs:=by
  obtain ⟨⟨L,hl,hra⟩,hj⟩:=h
  obtain ⟨A,c,cells,h1,h2,h3,h4,h5⟩:=hR.1.vb.slice
  refine .of_slice ⟨A,c,cells,by rw [h1,hl],by omega,h3,?_,fun hp=>?_⟩
  · refine h4.conv hl fun k r x cs g1 g2 g3=>?_
    have g3':cs=r.cs:=g3
    subst g3'
    obtain ⟨q1,q2⟩:=hra k r x g1 g2
    obtain ⟨v',hv',hm⟩:=q2 (by simp)
    refine N.join (Rp.mono q1 fun b hb=>⟨hb.1,.inl hb.2⟩) hv' (hm.1.vb.mono fun b hb=>?_)
    rcases hb with hb|hb
    · exact ⟨hb.1,.inl hb.2⟩
    · have:=(hm.2 b hb).1;exact ⟨this.1,.inr (by rw [this.2];simp)⟩
  · obtain ⟨b,o,h6,h7,h8⟩:=h5 (by omega)
    refine ⟨b,o,h6,?_,h8⟩
    rcases h7 with h7|h7
    · exact ⟨h7.1,.inl h7.2⟩
    · exact ⟨(hR.1.lt b h7).2,.inr (by rw [hR.2.1 b h7];simp)⟩
end
instance:NestAt Opr Eff where
  q:=3
  get o:=o.effs
  put o y:={ o with effs:=y }
  get_put _ _:=rfl
  put_put _ _ _:=rfl
  split:=by rintro w F cs x ⟨p,q,rfl,h,k,h2⟩;exact ⟨⟨p,_,rfl,h,.nil _ _,h2⟩,q,rfl,k⟩
  join:=by
    rintro w F cs x v ⟨p,q,he,h,k,h2⟩ hv hx
    match cs,he,hv with
    | [a,b,c,d],he,hv =>
      simp only [List.set,List.cons.injEq,and_true] at he
      obtain ⟨rfl,rfl,rfl,-⟩:=he
      obtain rfl:d=v:=by simpa using hv
      exact ⟨_,_,rfl,h,hx,h2⟩
    | [],he,_=>simp at he
    | [_],he,_=>simp at he
    | [_,_],he,_=>simp at he
    | [_,_,_],he,_=>simp at he
    | _ :: _ :: _ :: _ :: _ :: _,he,_=>simp at he
def NR {α:Type} (β:Type) [Rp α] [Rp β] [N:NestAt α β] (i:Nat) (w:World) (O:Lab) (e' e:TypeId) (v:Value) (xs:List α) (skip:Option Nat):Prop :=
  ∃ (rs:List (Raw (Rp.isAgg α) (Rp.size α))) (L:Lab),Own w 0 (Fr 0 w O) e' v rs∧(∀ g,v.ownBlock=some g→O g=i∧L g=0)∧i≠0∧rs.length=xs.length ∧
    ∀ (k:Nat) (r:Raw (Rp.isAgg α) (Rp.size α)) (x:α),rs[k]?=some r→xs[k]?=some x →
      Rp.R w (Fr 0 w O) (r.cs.set N.q (.slice none 0 0)) (N.put x [])∧(skip≠some k→∃ u,r.cs[N.q]?=some u∧RwM w (Fr 0 w O) (fun b=>Fr i w O b∧L b=k + 1) e u (N.get x))
theorem labBound (O:Lab):∀ n:Nat,∃ b,∀ k,k < n→O k≤b
  | 0=>⟨0,fun k h=>by omega⟩
  | n + 1=>by
    obtain ⟨b,hb⟩:=labBound O n
    refine ⟨max b (O n),fun k hk=>?_⟩
    rcases Nat.lt_or_ge k n with h|h
    · have:=hb k h;omega
    · have:k=n:=by omega
      subst this;omega
theorem labFresh (O:Lab) (n a b:Nat):∃ j,j≠0∧j≠a∧j≠b∧∀ k,k < n→O k≠j:=by
  obtain ⟨c,hc⟩:=labBound O n
  exact ⟨c + a + b + 1,by omega,by omega,by omega,fun k hk=>by have:=hc k hk;omega⟩
theorem St.via {T T1 T2 T3:Nat→Prop} {w w':World} {O O1 O2 O3:Lab} {j:Nat} (h1:St T1 w O w O1) (h2:St T2 w O1 w' O2) (h3:St T3 w' O2 w' O3) (hj:∀ k,k < w.heap.size→O k≠j) (a1:∀ q,T1 q→T q) (a2:∀ q,T2 q→T q∨q=j) (a3:∀ q,T3 q→T q∨q=j):St T w O w' O3 :=
  ⟨(h3.os.trans h2.os).trans h1.os,(h3.tape.trans h2.tape).trans h1.tape,(h3.output.trans h2.output).trans h1.output,Nat.le_trans h2.size h3.size,fun k hk hT=>by
    obtain ⟨e1,e2⟩:=h1.same k hk fun h=>hT (a1 _ h)
    obtain ⟨e3,e4⟩:=h2.same k hk (by rw [e2];exact fun h=>(a2 _ h).elim hT (hj k hk))
    obtain ⟨e5,e6⟩:=h3.same k (Nat.lt_of_lt_of_le hk h2.size) (by rw [e4,e2];exact fun h=>(a3 _ h).elim hT (hj k hk))
    exact ⟨(e5.trans e3).trans e1,(e6.trans e4).trans e2⟩⟩
section
variable {α β : Type} [Rp α] [Rp β] [N : NestAt α β] {i j l : Nat} {T : Nat → Prop} {w w' : World} {O O' : Lab} {e' e : TypeId} {v : Value} {xs : List α} {skip : Option Nat}
theorem NR.opn (h:NR β i w O e' e v xs skip) (j:Nat) (hj:j≠0) (hji:j≠i):∃ (rs:List (Raw (Rp.isAgg α) (Rp.size α))) (O1:Lab),St (eT i) w O w O1∧Rw i w O1 e' v rs∧Nest (β:=β) j w O1 e rs xs skip:=by
  obtain ⟨rs,L,h1,h2,h3,h4,h5⟩:=h
  have hF:∀ b,Fr 0 w O b→Fr 0 w (fun b=>if O b=i∧L b≠0 then j else O b) b:=fun b hb=>⟨hb.1,by show (if _ then _ else _)=_;rw [if_neg (by rw [hb.2];exact fun h=>h3 h.1.symm)];exact hb.2⟩
  refine ⟨rs,fun b=>if O b=i∧L b≠0 then j else O b,⟨rfl,rfl,rfl,Nat.le_refl _,fun b _ hb=>⟨rfl,if_neg fun h=>hb h.1⟩⟩,⟨h1.mono hF fun g hg hf=>?_,fun g hg=>?_,h3⟩,⟨fun b=>L b - 1,h4,fun k r x g1 g2=>⟨Rp.mono (h5 k r x g1 g2).1 hF,fun g3=>?_⟩⟩,hj⟩
  · have h8:(if O g=i∧L g≠0 then j else O g)=0:=hf.2
    rw [if_neg (fun h=>h.2 (h2 g hg).2),(h2 g hg).1] at h8
    exact h3 h8
  · show (if O g=i∧L g≠0 then j else O g)=i
    rw [if_neg (fun h=>h.2 (h2 g hg).2)];exact (h2 g hg).1
  · obtain ⟨u,hu,hm⟩:=(h5 k r x g1 g2).2 g3
    refine ⟨u,hu,hm.mono hF (fun b hb=>⟨⟨hb.1.1,?_⟩,?_⟩) fun b hf hm=>frNe0 hj b hf hm.1⟩
    · show (if O b=i∧L b≠0 then j else O b)=j
      rw [if_pos ⟨hb.1.2,by have:=hb.2;omega⟩]
    · show L b - 1=k
      have:=hb.2;omega
theorem NR.shut {rs:List (Raw (Rp.isAgg α) (Rp.size α))} (hR:Rw i w O e' v rs) (hN:Nest (β:=β) j w O e rs xs skip) (hji:j≠i):∃ O1,St (eT j) w O w O1∧NR β i w O1 e' e v xs skip:=by
  obtain ⟨⟨L,h4,h5⟩,hj⟩:=hN
  obtain ⟨h1,h2,h3⟩:=hR
  have hF:∀ b,Fr 0 w O b→Fr 0 w (fun b=>if O b=j then i else O b) b:=fun b hb=>⟨hb.1,by show (if _ then _ else _)=_;rw [if_neg (by rw [hb.2];exact Ne.symm hj)];exact hb.2⟩
  have hi:∀ g,v.ownBlock=some g→(if O g=j then i else O g)=i:=fun g hg=>by
    split
    · rfl
    · exact h2 g hg
  refine ⟨fun b=>if O b=j then i else O b,⟨rfl,rfl,rfl,Nat.le_refl _,fun b _ hb=>⟨rfl,if_neg hb⟩⟩,rs,fun b=>if O b=j then L b + 1 else 0,h1.mono hF fun g hg hf=>h3 (((hi g hg).symm.trans hf.2)),fun g hg=>⟨hi g hg,?_⟩,h3,h4,fun k r x g1 g2=>⟨Rp.mono (h5 k r x g1 g2).1 hF,fun g3=>?_⟩⟩
  · show (if O g=j then L g + 1 else 0)=0
    rw [if_neg (by rw [h2 g hg];exact Ne.symm hji)]
  · obtain ⟨u,hu,hm⟩:=(h5 k r x g1 g2).2 g3
    refine ⟨u,hu,hm.mono hF (fun b hb=>⟨⟨hb.1.1,if_pos hb.1.2⟩,?_⟩) fun b hf hm=>frNe0 h3 b hf hm.1⟩
    show (if O b=j then L b + 1 else 0)=k + 1
    rw [if_pos hb.1.2,hb.2]
theorem NR.st (h:NR β i w O e' e v xs skip) (hS:St T w O w' O') (h0:¬ T 0:=by decide) (hi:¬ T i:=by decide):NR β i w' O' e' e v xs skip:=by
  obtain ⟨rs,L,h1,h2,h3,h4,h5⟩:=h
  have hR:Rw i w' O' e' v rs:=Rw.st (O:=O) ⟨h1,fun g hg=>(h2 g hg).1,h3⟩ hS h0 hi
  refine ⟨rs,L,hR.1,fun g hg=>⟨hR.2.1 g hg,(h2 g hg).2⟩,h3,h4,fun k r x g1 g2=>⟨Rp.mono (Rp.agree (h5 k r x g1 g2).1 (hS.agree h0)) (hS.fr h0),fun g3=>?_⟩⟩
  obtain ⟨u,hu,hm⟩:=(h5 k r x g1 g2).2 g3
  exact ⟨u,hu,(hm.agree (hS.agree h0) fun b hb=>hS.agree hi b hb.1).mono (hS.fr h0) (fun b hb=>⟨hS.fr hi b hb.1,hb.2⟩) fun b hf hm=>frNe0 h3 b hf hm.1⟩
theorem NR.nil (i:Nat) (hi:i≠0):NR (α:=α) β i w O e' e (.slice none 0 0) [] none :=
  ⟨[],fun _=>0,Own.nil _ _ _ _,fun g h=>by simp [Value.ownBlock] at h,hi,rfl,fun k r x h=>by simp at h⟩
theorem NR.len {A:Option Addr} {m c:Nat} (h:NR β i w O e' e (.slice A m c) xs skip):m=xs.length∧m≤c∧c≤9223372036854775807:=by
  obtain ⟨rs,L,h1,h2,h3,h4,h5⟩:=h
  have:=Rw.len (i:=i) (O:=O) ⟨h1,fun g hg=>(h2 g hg).1,h3⟩
  exact ⟨this.1.trans h4,this.2⟩
theorem NR.lend (h:NR β i w O e' e v xs none):Vb w (FrS [i] w O) v xs:=by
  obtain ⟨j,hj,hji,_,hf⟩:=labFresh O w.heap.size i 0
  obtain ⟨rs,O1,hS,hR,hN⟩:=h.opn j hj hji
  refine (Nest.lend hR hN).mono fun k hk=>⟨hk.1,?_⟩
  by_cases hi:O k=i
  · exact .inr (by rw [hi];simp)
  · have:=(hS.same k hk.1 hi).2
    rcases hk.2 with h0|h0
    · exact .inl (this.symm.trans h0)
    · rw [this] at h0
      rcases List.mem_cons.1 h0 with h0|h0
      · exact (hi h0).elim
      · exact (hf k hk.1 (by simpa using h0)).elim
theorem NR.freeze (h:NR β i w O e' e v xs none):∃ O',St (eT i) w O w O'∧Vb w (Fr 0 w O') v xs:=by
  refine ⟨fun k=>if O k=i then 0 else O k,⟨rfl,rfl,rfl,Nat.le_refl _,fun k _ hk=>⟨rfl,if_neg hk⟩⟩,h.lend.mono fun k hk=>⟨hk.1,?_⟩⟩
  show (if _ then _ else _)=_
  rcases hk.2 with h0|h0
  · split
    · rfl
    · exact h0
  · rw [if_pos (by simpa using h0)]
theorem NR.at {A:Option Addr} {m c:Nat} (h:NR β i w O e' e (.slice A m c) xs skip) {k:Nat} {x:α} (hx:xs[k]?=some x):∃ b o,A=some ⟨b,o,none⟩∧k < m:=by
  obtain ⟨rs,L,h1,h2,h3,h4,h5⟩:=h
  have hk:k < rs.length:=by rw [h4];exact AD hx
  obtain ⟨b,o,cs,h6,h7,_⟩:=Rw.elem (i:=i) (O:=O) ⟨h1,fun g hg=>(h2 g hg).1,h3⟩ (List.getElem?_eq_getElem hk)
  exact ⟨b,o,h6,h7⟩
theorem NR.peek {A:Option Addr} {m c b o:Nat} (h:NR β i w O e' e (.slice A m c) xs none) (hA:A=some ⟨b,o,none⟩) {k:Nat} {x:α} (hx:xs[k]?=some x) :
    ∃ (A':Option Addr) (c':Nat),w.cell? ⟨b,o + k * Rp.size α + N.q,none⟩=some (.slice A' (N.get x).length c')∧Vb w (FrS [i] w O) (.slice A' (N.get x).length c') (N.get x):=by
  obtain ⟨rs,L,h1,h2,h3,h4,h5⟩:=h
  have hk:k < rs.length:=by rw [h4];exact AD hx
  have hr:rs[k]?=some rs[k]:=List.getElem?_eq_getElem hk
  obtain ⟨b',o',cs,h6,h7,h8,h9⟩:=Rw.elem (i:=i) (O:=O) ⟨h1,fun g hg=>(h2 g hg).1,h3⟩ hr
  obtain ⟨rfl,rfl⟩:b=b'∧o=o':=by rw [hA] at h6;injection h6 with h6;injection h6 with h6 h7;exact ⟨h6,h7⟩
  have h9':cs=rs[k].cs:=h9
  subst h9'
  obtain ⟨u,hu,hm⟩:=(h5 k rs[k] x hr hx).2 (by simp)
  obtain ⟨A',c',_,rfl,_⟩:=hm.1.chunk
  refine ⟨A',c',EA h8 _ _ hu,hm.1.vb.mono fun g hg=>?_⟩
  rcases hg with hg|hg
  · exact ⟨hg.1,.inl hg.2⟩
  · have:=(hm.2 g hg).1;exact ⟨this.1,.inr (by rw [this.2];simp)⟩
theorem NR.stay {A:Option Addr} {m c b o p:Nat} {u:Value} (h:NR β i w O e' e (.slice A m c) xs skip) (hA:A=some ⟨b,o,none⟩) (hS:St T w O w' O') (hi:¬ T i) (hc:w.cell? ⟨b,p,none⟩=some u):w'.cell? ⟨b,p,none⟩=some u:=by
  obtain ⟨rs,L,h1,h2,h3,h4,h5⟩:=h
  subst hA
  have:=hS.same b (h1.lt b rfl).2 (by rw [(h2 b rfl).1];exact hi)
  rw [← hc]
  unfold World.cell?
  rw [this.1]
theorem NR.take {A:Option Addr} {m c b o:Nat} (h:NR β i w O e' e (.slice A m c) xs none) (hA:A=some ⟨b,o,none⟩) {k:Nat} {x:α} (hx:xs[k]?=some x) (l:Nat) (hl:l≠0) (hli:l≠i) :
    ∃ (O':Lab) (A':Option Addr) (c':Nat),St (eT i) w O w O'∧w.cell? ⟨b,o + k * Rp.size α + N.q,none⟩=some (.slice A' (N.get x).length c')∧NR β i w O' e' e (.slice A m c) xs (some k)∧Rw l w O' e (.slice A' (N.get x).length c') (N.get x):=by
  obtain ⟨j,hj,hji,hjl,hf⟩:=labFresh O w.heap.size i l
  obtain ⟨rs,O1,hS,hR,hN⟩:=h.opn j hj hji
  have hlen:rs.length=xs.length:=by obtain ⟨⟨_,h,_⟩,_⟩:=hN;exact h
  have hk:k < rs.length:=by rw [hlen];exact AD hx
  have hr:rs[k]?=some rs[k]:=List.getElem?_eq_getElem hk
  obtain ⟨O2,u,hS2,hu,hN2,hw⟩:=hN.take hr hx l hl (Ne.symm hjl)
  obtain ⟨A',c',rfl⟩:=hw.form
  have hR2:=hR.st hS2 (fun h=>hj h.symm) (Ne.symm hji)
  obtain ⟨O3,hS3,h3⟩:=NR.shut hR2 hN2 hji
  obtain ⟨b',o',cs,h1,h2,h4,h5⟩:=hR.elem hr
  obtain ⟨rfl,rfl⟩:b=b'∧o=o':=by rw [hA] at h1;injection h1 with h1;injection h1 with h1 h2;exact ⟨h1,h2⟩
  have h5':cs=rs[k].cs:=h5
  subst h5'
  exact ⟨O3,A',c',St.via (j:=j) hS hS2 hS3 hf (fun _ h=>h) (fun _ h=>.inr h) (fun _ h=>.inr h),EA h4 _ _ hu,h3,hw.st hS3 (fun h=>hj h.symm) (Ne.symm hjl)⟩
theorem NR.take' {A A':Option Addr} {m c b o n' c':Nat} (h:NR β i w O e' e (.slice A m c) xs none) (hA:A=some ⟨b,o,none⟩) {k:Nat} {x:α} (hx:xs[k]?=some x) (hc:w.cell? ⟨b,o + k * Rp.size α + N.q,none⟩=some (.slice A' n' c')) (l:Nat) (hl:l≠0) (hli:l≠i) :
    ∃ (O':Lab),St (eT i) w O w O'∧NR β i w O' e' e (.slice A m c) xs (some k)∧Rw l w O' e (.slice A' n' c') (N.get x):=by
  obtain ⟨O',A2,c2,h1,h2,h3,h4⟩:=h.take hA hx l hl hli
  rw [hc] at h2
  injection h2 with h2
  injection h2 with e1 e2 e3
  subst e1;subst e2;subst e3
  exact ⟨O',h1,h3,h4⟩
end
section
variable {P : Program} {n : Nat} {ops : Array Oper} {Q : Post} {rest : List Oper} {l : Env} {w : World} {d d1 d2 : Tmp} {ty ty2 : TypeId} {pos pos2 : String} {aft aft2 : Array Edge}
theorem Py {α β:Type} [Rp α] [Rp β] [N:NestAt α β] {i j:Nat} {O:Lab} {t e' e:TypeId} [TSlice P t e'] {z:Value} {size bytes:Nat} [TInfo P e' z size bytes] (hsize:size=Rp.size α) {x y:Operand} {v u u':Value} {xs:List α} {a:α} {cs:List Value} (hag:Rp.isAgg α=true) (hR:NR β i w O e' e v xs none)
    (hu:u=.agg cs.toArray) (hl:cs.length=size) (h1:∀ u∈cs,u.oneCell'=true) (hr:Rp.R w (Fr 0 w O) (cs.set N.q (.slice none 0 0)) (N.put a [])) (hq:cs[N.q]?=some u') (hw:Rw j w O e u' (N.get a)) (hji:j≠i)
    (hx:∀ g,opv ((d1,.slice (some ⟨g,0,none⟩) 1 1) :: l) x=some v) (hy:opv l y=some u)
    (hz0:0 < size) (hz1:size≤1000) (hb:(xs.length + [a].length) * bytes≤140737488355328) (h63:xs.length + [a].length≤9223372036854775807) (hd:Nat.blt d1 n=true∧Nat.blt d2 n=true)
    (h:∀ g A c w' O',St (fun q=>q=i∨q=j) w O w' O'→NR β i w' O' e' e (.slice A (xs ++ [a]).length c) (xs ++ [a]) none→owp P n ops Q rest ((d2,.slice A (xs ++ [a]).length c) :: (d1,.slice (some ⟨g,0,none⟩) 1 1) :: l) w') :
    owp P n ops Q (⟨some d1,.buildSlice t 1 #[(0,y)],ty,pos,aft,none⟩ :: ⟨some d2,.call { callee:=.builtin .append,args:=#[x,.tmp d1],argTypes:=#[t,t] },ty2,pos2,aft2,none⟩ :: rest) l w:=by
  subst hu
  obtain ⟨q,hq0,hqi,hqj,hf⟩:=labFresh O w.heap.size i j
  have hj0:j≠0:=hw.2.2
  have hi0:i≠0:=by obtain ⟨_,_,_,_,h,_⟩:=hR;exact h
  obtain ⟨rs,O1,hS,hRw,hN⟩:=hR.opn q hq0 hqi
  have hlen:rs.length=xs.length:=by obtain ⟨⟨_,h,_⟩,_⟩:=hN;exact h
  have hw1:=hw.st hS (fun h=>hi0 h.symm) hji
  have hr1:Rp.R w (Fr 0 w O1) (cs.set N.q (.slice none 0 0)) (N.put a []):=Rp.mono hr (hS.fr (fun h=>hi0 h.symm))
  obtain ⟨O2,hS2,hN2⟩:=Nest.snoc (r:=⟨cs,hl.trans hsize,h1⟩) hN hr1 hq hw1 (Ne.symm hqj)
  have hR2:=hRw.st hS2 (fun h=>hj0 h.symm) (Ne.symm hji)
  refine CP (α:=Raw (Rp.isAgg α) (Rp.size α)) (a:=⟨cs,hl.trans hsize,h1⟩) hsize hR2 (Vb.ofAgg hag rfl) hx hy hz0 hz1 (by rw [hlen];exact hb) (by rw [hlen];exact h63) hd fun g A c w' O3 hS3 hR3=>?_
  have hN3:=hN2.st hS3 (fun h=>hi0 h.symm) hqi
  obtain ⟨O4,hS4,h4⟩:=NR.shut hR3 hN3 hqi
  have hle:(rs ++ [(⟨cs,hl.trans hsize,h1⟩:Raw (Rp.isAgg α) (Rp.size α))]).length=(xs ++ [a]).length:=by simp [hlen]
  rw [hle] at h4 ⊢
  refine h g A c w' O4 ?_ h4
  have hS12:St (fun p=>p=i∨p=j) w O w O2:=⟨rfl,rfl,rfl,Nat.le_refl _,fun k hk hT=>by
    obtain ⟨_,e2⟩:=hS.same k hk fun h=>hT (.inl h)
    obtain ⟨_,e4⟩:=hS2.same k hk (by rw [e2];exact fun h=>hT (.inr h))
    exact ⟨rfl,e4.trans e2⟩⟩
  exact St.via (j:=q) hS12 hS3 hS4 hf (fun _ h=>h) (fun _ h=>.inl (.inl h)) (fun _ h=>.inr h)
theorem HK {α β:Type} [Rp α] [Rp β] [N:NestAt α β] (i:Nat) (hi0:i≠0) {j:Nat} {O:Lab} {t e' e:TypeId} [TSlice P t e'] {z:Value} {size bytes:Nat} [TInfo P e' z size bytes] (hsize:size=Rp.size α) {y:Operand} {u u':Value} {a:α} {cs:List Value} (hag:Rp.isAgg α=true)
    (hu:u=.agg cs.toArray) (hl:cs.length=size) (h1:∀ u∈cs,u.oneCell'=true) (hr:Rp.R w (Fr 0 w O) (cs.set N.q (.slice none 0 0)) (N.put a [])) (hq:cs[N.q]?=some u') (hw:Rw j w O e u' (N.get a)) (hji:j≠i)
    (hy:opv l y=some u) (hz1:size≤1000) (hd:Nat.blt d n=true)
    (h:∀ g w' O',St (eT j) w O w' O'→NR β i w' O' e' e (.slice (some ⟨g,0,none⟩) [a].length 1) [a] none→owp P n ops Q rest ((d,.slice (some ⟨g,0,none⟩) [a].length 1) :: l) w') :
    owp P n ops Q (⟨some d,.buildSlice t 1 #[(0,y)],ty,pos,aft,none⟩ :: rest) l w:=by
  subst hu
  obtain ⟨q,hq0,hqi,hqj,hf⟩:=labFresh O w.heap.size i j
  have hj0:j≠0:=hw.2.2
  obtain ⟨O2,hS2,hN2⟩:=Nest.snoc (n:=Rp.size α) (a:=Rp.isAgg α) (r:=⟨cs,hl.trans hsize,h1⟩) (Nest.nil (β:=β) (w:=w) (O:=O) (e:=e) hq0) hr hq hw (Ne.symm hqj)
  refine Bv (α:=Raw (Rp.isAgg α) (Rp.size α)) i hi0 O2 (ps:=[(0,y)]) (vs:=[.agg cs.toArray]) (xs:=[⟨cs,hl.trans hsize,h1⟩]) hsize rfl (by simp [opvs,hy]) rfl ⟨Vb.ofAgg hag rfl,trivial⟩ (by omega) (by omega) hd fun g w' O3 hS3 hR3=>?_
  have hN3:=hN2.st hS3 (fun h=>h) (fun h=>h)
  obtain ⟨O4,hS4,h4⟩:=NR.shut hR3 hN3 hqi
  exact h g w' O4 (St.via (j:=q) hS2 hS3 hS4 hf (fun _ h=>h) (fun _ h=>h.elim) (fun _ h=>.inr h)) h4
theorem labFresh3 (O:Lab) (n a b d:Nat):∃ j,j≠0∧j≠a∧j≠b∧j≠d∧∀ k,k < n→O k≠j:=by
  obtain ⟨c,hc⟩:=labBound O n
  exact ⟨c + a + b + d + 1,by omega,by omega,by omega,by omega,fun k hk=>by have:=hc k hk;omega⟩
theorem Gk {α β:Type} [Rp α] [Rp β] [N:NestAt α β] {i j:Nat} {O:Lab} {t e' e:TypeId} [TSlice P t e'] {z:Value} {size bytes:Nat} [TInfo P e' z size bytes] (hsize:size=Rp.size α) {x y:Operand} {v u:Value} {xs ys:List α} (hR:NR β i w O e' e v xs none) (hU:NR β j w O e' e u ys none) (hji:j≠i) (hx:opv l x=some v) (hy:opv l y=some u)
    (hz0:0 < size) (hb:(xs.length + ys.length) * bytes≤140737488355328) (h63:xs.length + ys.length≤9223372036854775807) (hd:Nat.blt d n=true)
    (h:∀ A c w' O',St (fun q=>q=i∨q=j) w O w' O'→NR β i w' O' e' e (.slice A (xs ++ ys).length c) (xs ++ ys) none→owp P n ops Q rest ((d,.slice A (xs ++ ys).length c) :: l) w') :
    owp P n ops Q (⟨some d,.call { callee:=.builtin .append,args:=#[x,y],argTypes:=#[t,t] },ty,pos,aft,none⟩ :: rest) l w:=by
  obtain ⟨q1,hq0,hqi,hqj,hf1⟩:=labFresh O w.heap.size i j
  obtain ⟨q2,hr0,hri,hrj,hrq,hf2⟩:=labFresh3 O w.heap.size i j q1
  have hi0:i≠0:=by obtain ⟨_,_,_,_,h,_⟩:=hR;exact h
  have hj0:j≠0:=by obtain ⟨_,_,_,_,h,_⟩:=hU;exact h
  obtain ⟨rs,O1,hS1,hRw,hN⟩:=hR.opn q1 hq0 hqi
  have hU1:=hU.st hS1 (fun h=>hi0 h.symm) hji
  obtain ⟨rs',O2,hS2,hUw,hM⟩:=hU1.opn q2 hr0 hrj
  have hRw2:=hRw.st hS2 (fun h=>hj0 h.symm) (Ne.symm hji)
  have hN2:=hN.st hS2 (fun h=>hj0 h.symm) hqj
  have hl1:rs.length=xs.length:=by obtain ⟨⟨_,h,_⟩,_⟩:=hN;exact h
  have hl2:rs'.length=ys.length:=by obtain ⟨⟨_,h,_⟩,_⟩:=hM;exact h
  obtain ⟨O3,hS3,hN3⟩:=Nest.app hN2 hM hrq
  have hRw3:=hRw2.st hS3 (fun h=>hr0 h.symm) (Ne.symm hri)
  have hUw3:=hUw.st hS3 (fun h=>hr0 h.symm) (Ne.symm hrj)
  refine Bw (α:=Raw (Rp.isAgg α) (Rp.size α)) hsize hRw3 hUw3.rd hx hy hz0 (by rw [hl1,hl2];exact hb) (by rw [hl1,hl2];exact h63) hd fun A c w' O4 hS4 hR4=>?_
  have hN4:=hN3.st hS4 (fun h=>hi0 h.symm) hqi
  obtain ⟨O5,hS5,h5⟩:=NR.shut hR4 hN4 hqi
  have hle:(rs ++ rs').length=(xs ++ ys).length:=by simp [hl1,hl2]
  rw [hle] at h5 ⊢
  refine h A c w' O5 ⟨(hS5.os.trans hS4.os),(hS5.tape.trans hS4.tape),(hS5.output.trans hS4.output),Nat.le_trans hS4.size hS5.size,fun k hk hT=>?_⟩ h5
  obtain ⟨_,e1⟩:=hS1.same k hk fun h=>hT (.inl h)
  obtain ⟨_,e2⟩:=hS2.same k hk (by rw [e1];exact fun h=>hT (.inr h))
  obtain ⟨_,e3⟩:=hS3.same k hk (by rw [e2,e1];exact hf2 k hk)
  obtain ⟨f4,e4⟩:=hS4.same k hk (by rw [e3,e2,e1];exact fun h=>hT (.inl h))
  obtain ⟨f5,e5⟩:=hS5.same k (Nat.lt_of_lt_of_le hk hS4.size) (by rw [e4,e3,e2,e1];exact hf1 k hk)
  exact ⟨f5.trans f4,by rw [e5,e4,e3,e2,e1]⟩
theorem Ss {α β:Type} [Rp α] [Rp β] [N:NestAt α β] {i j:Nat} {O:Lab} {t e' e:TypeId} {z:Value} {size bytes:Nat} [TInfo P t z size bytes] {x y:Operand} {b o k off m c:Nat} {A A':Option Addr} {m' c':Nat} {a:α} {ys:List β} {xs:List α} (hR:NR β i w O e' e (.slice A m c) xs (some k)) (hw:Rw j w O e (.slice A' m' c') ys) (hji:j≠i) (hA:A=some ⟨b,o,none⟩) (hk:xs[k]?=some a)
    (hx:opv l x=some (.pointer (some ⟨b,o + k * Rp.size α + off,none⟩))) (hy:opv l y=some (.slice A' m' c')) (hoff:off=N.q) (hsz:size=1) (hqn:N.q < Rp.size α)
    (h:∀ w' O',St (fun q=>q=i∨q=j) w O w' O'→NR β i w' O' e' e (.slice A m c) (xs.set k (N.put a ys)) none→owp P n ops Q rest l w'):owp P n ops Q (⟨none,.store t x y,ty,pos,aft,none⟩ :: rest) l w:=by
  subst hoff hsz
  obtain ⟨q,hq0,hqi,hqj,hf⟩:=labFresh O w.heap.size i j
  have hj0:j≠0:=hw.2.2
  have hi0:i≠0:=by obtain ⟨_,_,_,_,h,_⟩:=hR;exact h
  obtain ⟨rs,O1,hS,hRw,hN⟩:=hR.opn q hq0 hqi
  have hlen:rs.length=xs.length:=by obtain ⟨⟨_,h,_⟩,_⟩:=hN;exact h
  have hkr:k < rs.length:=by rw [hlen];exact AD hk
  have hr:rs[k]?=some rs[k]:=List.getElem?_eq_getElem hkr
  have hw1:=hw.st hS (fun h=>hi0 h.symm) hji
  let r':Raw (Rp.isAgg α) (Rp.size α):=⟨rs[k].cs.set N.q (.slice A' m' c'),by rw [List.length_set];exact rs[k].len,fun u hu=>by
    rcases List.mem_or_eq_of_mem_set hu with h|h
    · exact rs[k].one u h
    · subst h;rfl⟩
  obtain ⟨O2,hS2,hN2⟩:=hN.put (r':=r') hr hk rfl hqn hw1 (Ne.symm hqj)
  have hR2:=hRw.st hS2 (fun h=>hj0 h.symm) (Ne.symm hji)
  refine Jr (a:=rs[k]) (a':=r') hR2 hA hr hx hy rfl (by show N.q + 1≤Rp.size α;omega) (fun v hv=>by simp [Value.cells] at hv;subst hv;rfl) (fun ce hc=>?_) fun w' hS3 hR3=>?_
  · have hc':ce=rs[k].cs:=hc
    subst hc';rfl
  have hN3:=hN2.st hS3 (fun h=>hi0 h.symm) hqi
  obtain ⟨O4,hS4,h4⟩:=NR.shut hR3 hN3 hqi
  refine h w' O4 ?_ h4
  have hS12:St (fun p=>p=i∨p=j) w O w O2:=⟨rfl,rfl,rfl,Nat.le_refl _,fun k hk hT=>by
    obtain ⟨_,e2⟩:=hS.same k hk fun h=>hT (.inl h)
    obtain ⟨_,e4⟩:=hS2.same k hk (by rw [e2];exact fun h=>hT (.inr h))
    exact ⟨rfl,e4.trans e2⟩⟩
  exact St.via (j:=q) hS12 hS3 hS4 hf (fun _ h=>h) (fun _ h=>.inl (.inl h)) (fun _ h=>.inr h)
end
def OprS (w0 w:World) (F:Nat→Prop) (e:TypeId) (v:Value) (x:Opr):Prop :=
  ∃ (G:Nat→Prop) (p u:Value),(∀ k,G k→F k∧k < w.heap.size)∧v=.agg #[.string x.name,.int .i64 x.cost,p,u]∧Vb w G p x.pre∧inI64 x.cost∧x.name.size≤9223372036854775807∧Own w w0.heap.size G e u x.effs
theorem Rw.outO {α:Type} [Rp α] {i:Nat} {w w0:World} {O:Lab} {e:TypeId} {v:Value} {xs:List α} {A:Nat→Prop} (h:Rw i w O e v xs) (hB:Bs w0 A w O) (hi:i≠1):Own w w0.heap.size (Fr 0 w O) e v xs:=h.1.raise fun g hg=>by
  rcases Nat.lt_or_ge g w0.heap.size with hlt|hge
  · have:=h.2.1 g hg
    have:=h.2.2
    rcases hB.lab g hlt with ⟨_,e⟩|⟨_,e⟩<;>omega
  · exact hge
section
variable {P : Program} {n : Nat} {ops : Array Oper} {Q : Post} {rest : List Oper} {l : Env} {w : World} {d : Tmp} {ty : TypeId} {pos : String} {aft : Array Edge}
theorem Iy (i:Nat) (hi:i≠0) {f:FuncId} [Callable P f] {xs:List Operand} {vs:List Value} {ts:Array TypeId} {O:Lab} {e:TypeId} {x:Opr} (hc:Fn P f vs w fun v w'=>Ext w w'∧OprS w w' (upA (Fr 0 w O) w w') e v x) (hx:opvs l xs=some vs) (hd:Nat.blt d n=true)
    (h:∀ A1 c1 A2 c2 w' O',St nT w O w' O'→Vb w' (Fr 0 w' O') (.slice A1 x.pre.length c1) x.pre→inI64 x.cost→x.name.size≤9223372036854775807→Rw i w' O' e (.slice A2 x.effs.length c2) x.effs→owp P n ops Q rest ((d,.agg #[.string x.name,.int .i64 x.cost,.slice A1 x.pre.length c1,.slice A2 x.effs.length c2]) :: l) w'):owp P n ops Q (⟨some d,.call { callee:=.value (.func f),args:=xs.toArray,argTypes:=ts },ty,pos,aft,none⟩ :: rest) l w :=
  Bu hx hd hc fun v w' ⟨hE,G,p,u,hG,hv,hp,hco,hna,ho⟩=>by
    subst hv
    obtain ⟨A2,c2,_,rfl,_⟩:=ho.chunk
    obtain ⟨A1,c1,rfl⟩:=hp.form
    have hS:=hE.st O fun k=>if (Value.slice A2 x.effs.length c2).ownBlock=some k then i else 0
    have hG0:∀ k,G k→Fr 0 w' (upO O w.heap.size fun k=>if (Value.slice A2 x.effs.length c2).ownBlock=some k then i else 0) k:=fun k hk=>by
      obtain ⟨_,_,_,hno⟩:=ho
      refine ⟨(hG k hk).2,?_⟩
      rcases (hG k hk).1 with h1|h1
      · exact (FZ h1.1).trans h1.2
      · rw [Er h1.1,if_neg fun he=>hno k he hk]
    refine h A1 c1 A2 c2 w' _ hS (hp.mono hG0) hco hna ⟨(ho.lower (Nat.zero_le _)).mono hG0 (fun g hg hf=>?_),fun g hg=>?_,hi⟩
    · have h1:=(ho.lt g hg).1
      have h2:=hf.2
      rw [Er h1,if_pos hg] at h2
      exact hi h2
    · rw [Er (ho.lt g hg).1,if_pos hg]
end
end
section
open Go Go.RowKit
structure ZOp where
  idx:Nat
  dst:Nat
  lab:Nat
  F:Value→World→Lab→Prop
  st:∀ {v w O w' O'} {ls:List Nat},F v w O→St (·∈ls) w O w' O'→ls.contains 0=false→ls.contains lab=false→F v w' O'
def onlyN (K:Env→World→Prop):Post
  | .normal,l,w=>K l w
  | _,_,_=>False
def ZStep (P:Program) (n:Nat) (ops:Array Oper) (z:ZOp) (req:Env):Prop :=
  ∃ o,ops[z.idx]?=some o∧∀ l w O,subs l req→owp P n ops (onlyN fun l2 w2=>∃ v O2,St nT w O w2 O2∧l2=(z.dst,v) :: l∧z.F v w2 O2) [o] l w
def nodupB:List Nat→Bool
  | []=>true
  | a :: r=>!r.contains a && nodupB r
theorem Js:∀ {l:List Nat},nodupB l=true→l.Nodup
  | [],_=>List.nodup_nil
  | a :: r,h=>by
    simp only [nodupB,Bool.and_eq_true] at h
    exact List.nodup_cons.2 ⟨by simpa using h.1,Js h.2⟩
def allZ (p:ZOp→Prop):List ZOp→Prop
  | []=>True
  | z :: r=>p z∧allZ p r
theorem KA {p:ZOp→Prop}:∀ {zs:List ZOp} {z:ZOp},allZ p zs→z∈zs→p z
  | _ :: _,z,h,hm=>by
    rcases List.mem_cons.1 hm with rfl|hm
    · exact h.1
    · exact KA h.2 hm
  | [],_,_,hm=>by cases hm
theorem NY {p:ZOp→Prop}:∀ {zs:List ZOp},(∀ z∈zs,p z)→allZ p zs
  | [],_=>trivial
  | z :: _,h=>⟨h z List.mem_cons_self,NY fun z hz=>h z (List.mem_cons_of_mem _ hz)⟩
def cntz:List ZOp→Array Bool→Nat
  | [],_=>0
  | z :: r,b=>(if b.getD z.idx true=false then 1 else 0) + cntz r b
def envz:List ZOp→(Nat→Value)→Env→Env
  | [],_,l=>l
  | z :: r,u,l=>(z.dst,u z.dst) :: envz r u l
theorem NZ {u:Nat→Value} {l:Env}:∀ {zs:List ZOp} {z:ZOp},z∈zs→lk (envz zs u l) z.dst=some (u z.dst)
  | y :: r,z,hm=>by
    simp only [envz,lk]
    cases hb:Nat.beq y.dst z.dst with
    | true=>rw [Nat.eq_of_beq_eq_true hb]
    | false =>
      rcases List.mem_cons.1 hm with rfl|hm
      · rw [Nat.beq_refl] at hb;cases hb
      · exact NZ hm
  | [],_,hm=>by cases hm
theorem Iz {u:Nat→Value} {l:Env} {i:Nat}:∀ {zs:List ZOp},(∀ z∈zs,z.dst≠i)→lk (envz zs u l) i=lk l i
  | [],_=>rfl
  | y :: r,h=>by
    simp only [envz,lk]
    cases hb:Nat.beq y.dst i with
    | true=>exact absurd (Nat.eq_of_beq_eq_true hb) (h y List.mem_cons_self)
    | false=>exact Iz fun z hz=>h z (List.mem_cons_of_mem _ hz)
theorem LB {n:Nat} {a:Act} {l:Env} (h:Ok n a l):∀ zs:List ZOp,Ok n a (envz zs (fun d=>a.tmps.getD d undef) l)
  | []=>h
  | z :: r=>⟨h.size,h.defers,fun i v hv=>by
    simp only [envz,lk] at hv
    cases hb:Nat.beq z.dst i with
    | true =>
      rw [hb] at hv
      have:=Nat.eq_of_beq_eq_true hb
      subst this
      injection hv
    | false=>rw [hb] at hv;exact (LB h r).knows i v hv⟩
theorem Oa {l l2:Env}:∀ {req:Env},subs l req→(∀ i v,lk l i=some v→lk l2 i=some v)→subs l2 req
  | [],_,_=>trivial
  | (_,_) :: _,h,k=>⟨k _ _ h.1,Oa h.2 k⟩
theorem St.nt {w w':World} {O O':Lab} (h:St nT w O w' O'):St (·∈([]:List Nat)) w O w' O':=h.mono fun _ h=>h.elim
section
variable {P : Program} {n : Nat} {ops : Array Oper} {Q : Post} {acts : List (Nat × List Nat)} {w0 : World} {O0 O : Lab} {l : Env} {w : World}
theorem Oc      {K:Env→World→Prop} {i:Nat} {o:Oper} (hi:ops[i]?=some o) (h:owp P n ops (onlyN K) [o] l w) (a:Act) (e:Nat) (ha:Ok n a l) :
    wpOp P ops (lift n Q) i (fun a' w'=>∃ l' w₀ d',w'=dr w₀ d'∧Ok n a' l'∧K l' w₀) a (dr w e):=by
  have h1:=h a e ha
  unfold wpList at h1
  unfold wpOp
  simp only [hi]
  have conv:∀ a' w',lift n (onlyN K) .normal a' w'→∃ l' w₀ d',w'=dr w₀ d'∧Ok n a' l'∧K l' w₀:=by
    rintro a' w' ⟨_,l',w₀,d',rfl,ho,hK⟩
    exact ⟨l',w₀,d',rfl,ho,hK⟩
  have nope:∀ e' a' w',lift n (onlyN K) e' a' w'→e'=.normal:=by
    rintro e' a' w' ⟨hn,l',w₀,d',rfl,ho,hh⟩
    cases e'<;>first|rfl|exact hh.elim
  by_cases hw:Region.wanted o (yielded ops a.tmps)=true
  · rw [if_pos hw] at h1
    rw [if_pos hw]
    rcases h1 with h1|⟨h1,a0,w0,h2⟩
    · refine .inl ?_
      unfold Oper.wp at *
      generalize (execOp a.eval o).run P (dr w e)=res at *
      cases res with
      | ok nx w' =>
        cases nx<;>simp only [Oper.upon] at h1 ⊢ <;>
          first
            | exact conv _ _ h1
            | exact Calls.mono h1 (fun en w'' he=>by
                cases en with
                | returned v=>exact conv _ _ he
                | panicked c=>exact absurd (nope _ _ _ he) (by simp)
                | outgrown=>obtain ⟨a0,w0,hq⟩:=he;exact absurd (nope _ _ _ hq) (by simp))
            | exact Rows.mono h1 (fun _ _ he=>conv _ _ he)
            | exact h1.elim
      | halt x w'=>cases x<;>simp only [Oper.upon] at h1 ⊢<;>first|exact h1.elim|exact absurd (nope _ _ _ h1) (by simp)
    · exact absurd (nope _ _ _ h2) (by simp)
  · rw [if_neg hw] at h1
    rw [if_neg hw]
    exact conv _ _ h1
def hwz (P:Program) (n:Nat) (ops:Array Oper) (Q:Post) (acts:List (Nat×List Nat)) (zs:List ZOp) (fuel:Nat) (listed:Array Bool) (l:Env) (w:World) (O:Lab):Prop :=
  ∀ real:Array Bool,real.size=listed.size→(∀ i,(∀ z∈zs,z.idx≠i)→real[i]?=listed[i]?)→Closed ops real→∀ a d,Ok n a l→(∀ z∈zs,real.getD z.idx true=true→z.F (a.tmps.getD z.dst undef) w O) →
    wpAnyX P ops (lift n Q) (Sx acts w O) (fuel + cntz zs real) real a (dr w d)
theorem FB {a b:Array Bool} {i:Nat} {x:Bool} (h:a[i]?=b[i]?):a.getD i x=b.getD i x:=by rw [Array.getD_eq_getD_getElem?,Array.getD_eq_getD_getElem?,h]
theorem HV {i:Nat} {real:Array Bool}:∀ {zs:List ZOp},(∀ z∈zs,z.idx≠i)→cntz zs (real.setIfInBounds i true)=cntz zs real
  | [],_=>rfl
  | z :: r,h=>by
    simp only [cntz]
    rw [getD_set_ne true (Ne.symm (h z List.mem_cons_self)),HV fun z hz=>h z (List.mem_cons_of_mem _ hz)]
theorem MP {real:Array Bool} {z:ZOp} (hz:real.getD z.idx true=false):∀ {zs:List ZOp},(zs.map (·.idx)).Nodup→z∈zs→cntz zs (real.setIfInBounds z.idx true) + 1=cntz zs real
  | y :: r,hn,hm=>by
    simp only [List.map_cons,List.nodup_cons] at hn
    simp only [cntz]
    have hlt:z.idx < real.size:=by
      rcases Nat.lt_or_ge z.idx real.size with h|h
      · exact h
      · rw [Array.getD_eq_getD_getElem?,Array.getElem?_eq_none h] at hz;cases hz
    rcases List.mem_cons.1 hm with rfl|hm
    · have h1:(real.setIfInBounds z.idx true).getD z.idx true=true:=by rw [Array.getD_eq_getD_getElem?,Array.getElem?_setIfInBounds_self];simp [hlt]
      rw [HV fun y hy e=>hn.1 (by rw [← e];exact List.mem_map_of_mem hy),h1,hz,if_neg (by simp),if_pos rfl]
      omega
    · have hne:y.idx≠z.idx:=fun e=>hn.1 (by rw [e];exact List.mem_map_of_mem hm)
      rw [getD_set_ne true (Ne.symm hne)]
      have:=MP hz hn.2 hm
      omega
  | [],_,hm=>by cases hm
theorem Xbase {acts acts':List (Nat×List Nat)} {fuel:Nat} {listed:Array Bool} {a:Act} {wx:World} {ls:List Nat} {w2:World} {O2:Lab} (hZ:St (·∈ls) w O w2 O2) (hls:∀ q,q∈ls→q∈tcs acts listed) (hac:∀ p,p∈acts'→p∈acts)
    (h:wpAnyX P ops (lift n Q) (Sx acts' w2 O2) fuel listed a wx):wpAnyX P ops (lift n Q) (Sx acts w O) fuel listed a wx:=by
  refine HU (fun listed'=>∀ j,listed.getD j false=true→listed'.getD j false=true) (fun listed' k h j hj=>getD_set_true (h j hj)) ?_ _ _ _ _ (fun j hj=>hj) h
  rintro listed' v hp ⟨e,O'',hS⟩
  refine ⟨e,O'',((hZ.mono fun q hq=>?_).comp (hS.mono fun q hq=>?_) fun _ h=>h:St (·∈tcs acts listed') w O _ O'')⟩
  · have:=hls q hq
    unfold tcs at this ⊢
    rw [List.mem_flatMap] at this ⊢
    obtain ⟨p,h1,h3⟩:=this
    rw [List.mem_filter] at h1
    exact ⟨p,List.mem_filter.2 ⟨h1.1,hp _ h1.2⟩,h3⟩
  · unfold tcs at hq ⊢
    rw [List.mem_flatMap] at hq ⊢
    obtain ⟨p,h1,h3⟩:=hq
    rw [List.mem_filter] at h1
    exact ⟨p,List.mem_filter.2 ⟨hac _ h1.1,h1.2⟩,h3⟩
def zChk (ops:Array Oper) (acts:List (Nat×List Nat)) (zs:List ZOp) (listed:Array Bool) (l:Env) (m:Nat):Bool :=
  zs.all fun z=>listed.getD z.idx false && (lk l z.dst).isNone && !acts.any (·.1 == z.idx) && !(z.idx == m) && (ops[z.idx]?).any fun o=>o.after.all fun e=>!Region.binds .any e || (listed.getD e.on false && zs.all fun y=>!(y.idx == e.on))
def keepZ (ops:Array Oper) (m:Nat) (zs:List ZOp):List ZOp:=zs.filter fun z=>!bef ops m z.idx
theorem LW {ops:Array Oper} {m:Nat} {real:Array Bool}:∀ {zs:List ZOp},(∀ z∈zs,bef ops m z.idx=true→real.getD z.idx true=true)→cntz (keepZ ops m zs) real=cntz zs real
  | [],_=>rfl
  | z :: r,h=>by
    have ih:=LW (zs:=r) fun y hy=>h y (List.mem_cons_of_mem _ hy)
    unfold keepZ at ih ⊢
    rw [List.filter_cons]
    cases hb:bef ops m z.idx with
    | true =>
      simp only [Bool.not_true,Bool.false_eq_true,if_false,cntz]
      rw [h z List.mem_cons_self hb,ih];simp
    | false=>simp only [Bool.not_false,if_true,cntz];rw [ih]
def zNext (P:Program) (n:Nat) (ops:Array Oper) (Q:Post) (acts:List (Nat×List Nat)) (zs:List ZOp) (fuel:Nat) (listed:Array Bool) (m:Nat) (u:Nat→Value) (w:World) (O:Lab):Env→World→Prop:=fun l2 w2 =>
  ∃ (O2:Lab) (ls:List Nat) (acts':List (Nat×List Nat)) (l':Env),St (·∈ls) w O w2 O2∧(ls.contains 0=false∧((keepZ ops m zs).all fun z=>!ls.contains z.lab)=true∧(ls.all fun q=>(tcs acts (listed.setIfInBounds m true)).contains q)=true∧acts'.all (acts.contains ·)=true) ∧
    allZ (fun z=>lk l2 z.dst=some (u z.dst)) (keepZ ops m zs)∧subs l2 l'∧hwz P n ops Q acts' (keepZ ops m zs) fuel (listed.setIfInBounds m true) l' w2 O2
theorem Dr      {zs:List ZOp} {fuel m:Nat} {om:Oper} {listed:Array Bool} (hr:Region.ready .any ops listed=[m]) (hm:ops[m]?=some om) (hc:zChk ops acts zs listed l m=true) (hn:(nodupB (zs.map (·.idx)) && nodupB (zs.map (·.dst)))=true)
    (hz:allZ (fun z=>∃ req,ZStep P n ops z req∧subs l req) zs)
    (hs:∀ (u:Nat→Value) w' O',St nT w O w' O'→allZ (fun z=>bef ops m z.idx=true→z.F (u z.dst) w' O') zs→owp P n ops (onlyN (zNext P n ops Q acts zs fuel listed m u w' O')) [om] (envz zs u l) w') :
    hwz P n ops Q acts zs (fuel + 1) listed l w O:=by
  rw [Bool.and_eq_true] at hn
  have hn1:=Js hn.1
  have hn2:=Js hn.2
  have chk:∀ z∈zs,listed.getD z.idx false=true∧lk l z.dst=none∧acts.any (·.1 == z.idx)=false∧z.idx≠m∧∃ o,ops[z.idx]?=some o∧∀ e∈o.after,Region.binds .any e=true→listed.getD e.on false=true∧∀ y∈zs,y.idx≠e.on:=fun z hzm=>by
    have:=List.all_eq_true.1 hc z hzm
    simp only [Bool.and_eq_true] at this
    obtain ⟨⟨⟨⟨h1,h2⟩,h3⟩,h4⟩,h5⟩:=this
    refine ⟨h1,by simpa using h2,by simpa using h3,by simpa using h4,?_⟩
    cases ho:ops[z.idx]? with
    | none=>rw [ho] at h5;simp at h5
    | some o =>
      rw [ho] at h5
      simp only [Option.any_some] at h5
      refine ⟨o,rfl,fun e he hb=>?_⟩
      have h6:=Array.all_eq_true'.1 h5 e he
      rw [hb] at h6
      simp only [Bool.not_true,Bool.false_or,Bool.and_eq_true] at h6
      exact ⟨h6.1,fun y hy=>by have:=List.all_eq_true.1 h6.2 y hy;simpa using this⟩
  have hml:listed.getD m true=false:=by
    have:m∈Region.ready .any ops listed:=by rw [hr];simp
    exact (mem_ready.1 this).1
  have lkne:∀ i v,lk l i=some v→∀ z∈zs,z.dst≠i:=fun i v h z hzm e=>by
    have:=(chk z hzm).2.1
    rw [e,h] at this;cases this
  have lkne:∀ i v,lk l i=some v→∀ z∈zs,z.dst≠i:=fun i v h z hzm e=>by
    have:=(chk z hzm).2.1
    rw [e,h] at this;cases this
  have main : ∀ (k:Nat) (real:Array Bool) (w':World) (O':Lab) (a:Act) (d:Nat),cntz zs real=k→real.size=listed.size→(∀ i,(∀ z∈zs,z.idx≠i)→real[i]?=listed[i]?)→Closed ops real→Ok n a l→St nT w O w' O'→(∀ z∈zs,real.getD z.idx true=true→z.F (a.tmps.getD z.dst undef) w' O') →
      wpAnyX P ops (lift n Q) (Sx acts w O) (fuel + k + 1) real a (dr w' d):=by
    intro k
    induction k using Nat.strongRecOn with
    | ind k ih =>
    intro real w' O' a d hk hsz hag hcl ha hS hF
    have ltl:∀ i,listed.getD i false=true→i < real.size:=fun i h5=>by
      rw [hsz]
      rcases Nat.lt_or_ge i listed.size with h|h
      · exact h
      · rw [Array.getD_eq_getD_getElem?,Array.getElem?_eq_none h] at h5;cases h5
    have zready:∀ z∈zs,real.getD z.idx true=false→z.idx∈Region.ready .any ops real:=fun z hzm hb=>by
      obtain ⟨_,_,_,_,o,ho,hp⟩:=chk z hzm
      refine mem_ready.2 ⟨hb,o,ho,fun e he hbi=>?_⟩
      obtain ⟨h1,h2⟩:=hp e he hbi
      rw [FB (hag e.on h2)];exact h1
    refine ⟨fun h0=>?_,fun i hi=>?_⟩
    · exfalso
      by_cases hall:∀ z∈zs,real.getD z.idx true=true
      · have hmr:m∈Region.ready .any ops real:=by
          have h1:m∈Region.ready .any ops listed:=by rw [hr];simp
          obtain ⟨h2,oi,h3,h4⟩:=mem_ready.1 h1
          refine mem_ready.2 ⟨by rw [FB (hag m fun z hzm=>(chk z hzm).2.2.2.1)];exact h2,oi,h3,fun e he hb=>?_⟩
          have h5:=h4 e he hb
          by_cases hex:∃ z∈zs,z.idx=e.on
          · obtain ⟨z,hzm,hze⟩:=hex
            have h6:=hall z hzm
            rw [hze] at h6
            have:=ltl _ h5
            rw [Array.getD_eq_getD_getElem?,Array.getElem?_eq_getElem this] at h6 ⊢
            exact h6
          · rw [FB (hag e.on fun z hzm e'=>hex ⟨z,hzm,e'⟩)];exact h5
        rw [h0] at hmr;cases hmr
      · obtain ⟨z,hz1⟩:=Classical.not_forall.1 hall
        obtain ⟨hzm,hb⟩:=Classical.not_imp.1 hz1
        have:=zready z hzm (by simpa using hb)
        rw [h0] at this;cases this
    · by_cases hex:∃ z∈zs,z.idx=i
      · obtain ⟨z,hzm,rfl⟩:=hex
        have hb:=(mem_ready.1 hi).1
        have hcs:=MP hb hn1 hzm
        obtain ⟨req,⟨o,ho,hstep⟩,hreq⟩:=KA hz hzm
        have hreq':subs (envz zs (fun d=>a.tmps.getD d undef) l) req:=Oa hreq fun j v hj=>by rw [Iz (lkne j v hj)];exact hj
        refine wpOp_mono (fun a' w2 h=>?_) (Oc ho (hstep _ w' O' hreq') a d (LB ha zs))
        obtain ⟨l',w₀,d',rfl,hok,v,O2,hS2,rfl,hFz⟩:=h
        have hS3:St nT w O w₀ O2:=hS.comp hS2 fun _ h=>h
        refine ⟨fun _=>⟨w₀.drawn,O2,hS3.mono fun _ h=>h.elim⟩,?_⟩
        obtain ⟨k',rfl⟩:∃ k',k=k' + 1:=⟨k - 1,by omega⟩
        refine ih k' (by omega) (real.setIfInBounds z.idx true) w₀ O2 a' d' (by omega) (by simpa using hsz) (fun j hj=>?_) (hcl.set hi) ?_ hS3 fun y hy hyb=>?_
        · rw [Array.getElem?_setIfInBounds_ne (hj z hzm)];exact hag j hj
        · refine ⟨hok.size,hok.defers,fun j v' hj=>hok.knows j v' ?_⟩
          have hne:=lkne j v' hj
          simp only [lk]
          cases hbq:Nat.beq z.dst j with
          | true=>exact absurd (Nat.eq_of_beq_eq_true hbq) (hne z hzm)
          | false=>show lk _ j=_;rw [Iz hne];exact hj
        · by_cases hyz:y.dst=z.dst
          · obtain rfl:y=z:=by
              by_cases he:y=z
              · exact he
              · exfalso
                obtain ⟨i1,hi1,e1⟩:=List.getElem_of_mem hy
                obtain ⟨i2,hi2,e2⟩:=List.getElem_of_mem hzm
                have hne:i1≠i2:=fun e=>he (by subst e;rw [← e1,← e2])
                have:=List.pairwise_iff_getElem.1 (List.nodup_iff_pairwise_ne.1 hn2)
                rcases Nat.lt_or_ge i1 i2 with h|h
                · exact this i1 i2 (by simpa using hi1) (by simpa using hi2) h (by simp [e1,e2,hyz])
                · exact this i2 i1 (by simpa using hi2) (by simpa using hi1) (by omega) (by simp [e1,e2,hyz])
            have:a'.tmps.getD y.dst undef=v:=hok.knows y.dst v (by simp only [lk,Nat.beq_refl])
            rw [this];exact hFz
          · have hlk:lk ((z.dst,v) :: envz zs (fun d=>a.tmps.getD d undef) l) y.dst=some (a.tmps.getD y.dst undef):=by
              simp only [lk]
              cases hbq:Nat.beq z.dst y.dst with
              | true=>exact absurd (Nat.eq_of_beq_eq_true hbq).symm hyz
              | false=>exact NZ hy
            rw [hok.knows y.dst _ hlk]
            have hne:y.idx≠z.idx:=fun e=>by
              obtain ⟨i1,hi1,e1⟩:=List.getElem_of_mem hy
              obtain ⟨i2,hi2,e2⟩:=List.getElem_of_mem hzm
              have hne:i1≠i2:=fun e=>hyz (by subst e;rw [← e1,← e2])
              have:=List.pairwise_iff_getElem.1 (List.nodup_iff_pairwise_ne.1 hn1)
              rcases Nat.lt_or_ge i1 i2 with h|h
              · exact this i1 i2 (by simpa using hi1) (by simpa using hi2) h (by simp [e1,e2,e])
              · exact this i2 i1 (by simpa using hi2) (by simpa using hi1) (by omega) (by simp [e1,e2,e])
            rw [getD_set_ne true (Ne.symm hne)] at hyb
            exact y.st (hF y hy hyb) hS2.nt rfl rfl
      · have him:i=m:=by
          have:i∈Region.ready .any ops listed:=by
            obtain ⟨h2,oi,h3,h4⟩:=mem_ready.1 hi
            refine mem_ready.2 ⟨by rw [← FB (hag i fun z hzm e=>hex ⟨z,hzm,e⟩)];exact h2,oi,h3,fun e he hb=>?_⟩
            by_cases hez:∃ z∈zs,z.idx=e.on
            · obtain ⟨z,hzm,hze⟩:=hez
              rw [← hze];exact (chk z hzm).1
            · rw [← FB (hag e.on fun z hzm e'=>hez ⟨z,hzm,e'⟩)];exact h4 e he hb
          rw [hr] at this
          simpa using this
        subst him
        have hstep:=hs (fun d=>a.tmps.getD d undef) w' O' hS (NY fun z hzm hbef=>hF z hzm (by
          obtain ⟨_,oi,h3,h4⟩:=mem_ready.1 hi
          have h5:=Ep hcl ops.size i z.idx oi h3 h4 (HJ hbef)
          rcases Nat.lt_or_ge z.idx real.size with h|h
          · rw [Array.getD_eq_getD_getElem?,Array.getElem?_eq_getElem h] at h5 ⊢;exact h5
          · rw [Array.getD_eq_getD_getElem?,Array.getElem?_eq_none h];rfl))
        refine wpOp_mono (fun a' w2 h=>?_) (Oc hm hstep a d (LB ha zs))
        obtain ⟨l2,w₀,d',rfl,hok,O2,ls,acts',l',hS2,⟨hc0,hc1,hc2,hc3⟩,hlk,hsub,hnext⟩:=h
        have him':∀ z∈zs,z.idx≠i:=fun z hzm=>(chk z hzm).2.2.2.1
        have htc:∀ q,q∈tcs acts (listed.setIfInBounds i true)→q∈tcs acts (real.setIfInBounds i true):=fun q hq=>by
          unfold tcs at hq ⊢
          rw [List.mem_flatMap] at hq ⊢
          obtain ⟨p,h1,h3⟩:=hq
          rw [List.mem_filter] at h1
          refine ⟨p,List.mem_filter.2 ⟨h1.1,?_⟩,h3⟩
          have hpz:∀ z∈zs,z.idx≠p.1:=fun z hzm e=>by
            have:=(chk z hzm).2.2.1
            rw [List.any_eq_false] at this
            exact this p h1.1 (by simp [e])
          by_cases hpi:i=p.1
          · have h6:=h1.2
            rw [← hpi] at h6 ⊢
            rw [Array.getD_eq_getD_getElem?,Array.getElem?_setIfInBounds_self] at h6 ⊢
            rw [hsz];exact h6
          · rw [getD_set_ne false hpi,FB (hag p.1 hpz)]
            have h6:=h1.2
            rwa [getD_set_ne false hpi] at h6
        have hls:∀ q,q∈ls→q∈tcs acts (real.setIfInBounds i true):=fun q hq=>htc q (by simpa using List.all_eq_true.1 hc2 q hq)
        have hS3:St (·∈ls) w O w₀ O2:=St.comp (hS.mono fun _ h=>h.elim) hS2 fun _ h=>h
        refine ⟨fun _=>⟨w₀.drawn,O2,hS3.mono hls⟩,?_⟩
        have hks:∀ z,z∈keepZ ops i zs→z∈zs:=fun z hzm=>(List.mem_filter.1 hzm).1
        have hdone:∀ z∈zs,bef ops i z.idx=true→real.getD z.idx true=true∧real[z.idx]?=some true:=fun z hzm hbef=>by
          obtain ⟨_,oi,h3,h4⟩:=mem_ready.1 hi
          have h5:=Ep hcl ops.size i z.idx oi h3 h4 (HJ hbef)
          rw [Array.getD_eq_getD_getElem?] at h5
          cases hq:real[z.idx]? with
          | none=>rw [hq] at h5;cases h5
          | some b=>rw [hq] at h5;exact ⟨by rw [Array.getD_eq_getD_getElem?,hq];exact h5,congrArg some h5⟩
        have hnx:=hnext (real.setIfInBounds i true) (by simpa using hsz) (fun j hj=>?_) (hcl.set hi) a' d' (hok.sub hsub) fun z hzm hzb=>?_
        · rw [HV fun z hzm=>him' z (hks z hzm),LW fun z hzm hbef=>(hdone z hzm hbef).1,hk] at hnx
          exact Xbase hS3 hls (fun p hp=>by simpa using List.all_eq_true.1 hc3 p hp) hnx
        · by_cases hij:i=j
          · subst hij;rw [Array.getElem?_setIfInBounds_self,Array.getElem?_setIfInBounds_self,hsz]
          · rw [Array.getElem?_setIfInBounds_ne hij,Array.getElem?_setIfInBounds_ne hij]
            by_cases hez:∃ z∈zs,z.idx=j
            · obtain ⟨z,hzm,hze⟩:=hez
              have hbef:bef ops i z.idx=true:=by
                cases hb:bef ops i z.idx with
                | true=>rfl
                | false=>exact absurd hze (hj z (List.mem_filter.2 ⟨hzm,by simp [hb]⟩))
              have h8:=(chk z hzm).1
              rw [← hze,(hdone z hzm hbef).2]
              rw [Array.getD_eq_getD_getElem?] at h8
              cases hq:listed[z.idx]? with
              | none=>rw [hq] at h8;cases h8
              | some b=>rw [hq] at h8;exact (congrArg some h8).symm
            · exact hag j fun z hzm e=>hez ⟨z,hzm,e⟩
        · rw [hok.knows z.dst _ (KA hlk hzm)]
          rw [getD_set_ne true (Ne.symm (him' z (hks z hzm)))] at hzb
          exact z.st (hF z (hks z hzm) hzb) hS2 hc0 (by have:=List.all_eq_true.1 hc1 z hzm;simpa using this)
  intro real hsz hag hcl a d ha hF
  have:=main _ real w O a d rfl hsz hag hcl ha (St.refl _ _ _) hF
  rwa [show fuel + 1 + cntz zs real=fuel + cntz zs real + 1 from by omega]
theorem LC {zs:List ZOp} {fuel tot:Nat} {listed:Array Bool} (l':Env) (hs:subs l l') (ht:fuel + zs.length=tot) (hf:(zs.all fun z=>!listed.getD z.idx true)=true) (h:hwz P n ops Q acts zs fuel (zs.foldl (fun b z=>b.setIfInBounds z.idx true) listed) l' w O):hwx P n ops Q acts w O tot listed l w:=by
  intro hcl a d ha
  have hsz:∀ (zs:List ZOp) (b:Array Bool),(zs.foldl (fun b z=>b.setIfInBounds z.idx true) b).size=b.size:=fun zs=>by
    induction zs with
    | nil=>intro b;rfl
    | cons z r ih=>intro b;rw [List.foldl_cons,ih];simp
  have hge:∀ (zs:List ZOp) (b:Array Bool) (i:Nat),(∀ z∈zs,z.idx≠i)→(zs.foldl (fun b z=>b.setIfInBounds z.idx true) b)[i]?=b[i]?:=fun zs=>by
    induction zs with
    | nil=>intro b i _;rfl
    | cons z r ih =>
      intro b i hi
      rw [List.foldl_cons,ih _ i fun y hy=>hi y (List.mem_cons_of_mem _ hy),Array.getElem?_setIfInBounds_ne (hi z List.mem_cons_self)]
  have hcnt:∀ (zs:List ZOp),(∀ z∈zs,listed.getD z.idx true=false)→cntz zs listed=zs.length:=fun zs=>by
    induction zs with
    | nil=>intro _;rfl
    | cons z r ih =>
      intro h
      rw [cntz,if_pos (h z List.mem_cons_self),ih fun y hy=>h y (List.mem_cons_of_mem _ hy),List.length_cons];omega
  have hfa:∀ z∈zs,listed.getD z.idx true=false:=fun z hz=>by have:=List.all_eq_true.1 hf z hz;simpa using this
  have:=h listed (hsz zs listed).symm (fun i hi=>(hge zs listed i hi).symm) hcl a d (ha.sub hs) fun z hz hb=>by rw [hfa z hz] at hb;cases hb
  rwa [hcnt zs hfa,ht] at this
theorem Jt {fuel:Nat} {listed:Array Bool} (h:hwx P n ops Q acts w O fuel listed l w):hwz P n ops Q acts [] fuel listed l w O:=by
  intro real hsz hag hcl a d ha _
  have:real=listed:=Array.ext_getElem? fun i=>hag i fun z hz=>by cases hz
  subst this
  exact h hcl a d ha
theorem Ok.cons {n d:Nat} {a:Act} {l:Env} {v:Value} (h:Ok n a l) (hv:a.tmps.getD d undef=v):Ok n a ((d,v) :: l):=⟨h.size,h.defers,fun i u hu=>by
  simp only [lk] at hu
  cases hb:Nat.beq d i with
  | true =>
    rw [hb] at hu
    have:=Nat.eq_of_beq_eq_true hb
    subst this
    rw [hv];injection hu
  | false=>rw [hb] at hu;exact h.knows i u hu⟩
theorem Pz {z:ZOp} {zs:List ZOp} {fuel:Nat} {listed:Array Bool} (hm:(zs.all (fun y=>!(y.idx == z.idx)) && listed.getD z.idx false)=true) (h:∀ v,z.F v w O→hwz P n ops Q acts zs fuel listed ((z.dst,v) :: l) w O) (h2:hwz P n ops Q acts zs (fuel + 1) (listed.setIfInBounds z.idx false) l w O):hwz P n ops Q acts (z :: zs) fuel listed l w O:=by
  intro real hsz hag hcl a d ha hF
  rw [Bool.and_eq_true] at hm
  have hne:∀ y∈zs,y.idx≠z.idx:=fun y hy=>by have:=List.all_eq_true.1 hm.1 y hy;simpa using this
  have hlt:z.idx < listed.size:=by
    rcases Nat.lt_or_ge z.idx listed.size with h|h
    · exact h
    · have:=hm.2;rw [Array.getD_eq_getD_getElem?,Array.getElem?_eq_none h] at this;cases this
  have hl:listed[z.idx]?=some true:=by
    have:=hm.2
    rw [Array.getD_eq_getD_getElem?] at this
    rw [Array.getElem?_eq_getElem hlt] at this ⊢
    exact congrArg some this
  cases hb:real.getD z.idx true with
  | true =>
    have hr:real[z.idx]?=some true:=by
      rw [Array.getD_eq_getD_getElem?] at hb
      rw [Array.getElem?_eq_getElem (by omega)] at hb ⊢
      exact congrArg some hb
    have:=h _ (hF z List.mem_cons_self hb) real hsz (fun i hi=>by
      by_cases hiz:z.idx=i
      · subst hiz;rw [hr,hl]
      · exact hag i fun y hy=>by
          rcases List.mem_cons.1 hy with rfl|hy
          · exact hiz
          · exact hi y hy) hcl a d (ha.cons rfl) fun y hy=>hF y (List.mem_cons_of_mem _ hy)
    simpa [cntz,hb] using this
  | false =>
    have:=h2 real (by simpa using hsz) (fun i hi=>by
      by_cases hiz:z.idx=i
      · subst hiz
        rw [Array.getElem?_setIfInBounds_self,if_pos hlt]
        rw [Array.getD_eq_getD_getElem?] at hb
        rw [Array.getElem?_eq_getElem (by omega)] at hb ⊢
        exact congrArg some hb
      · rw [Array.getElem?_setIfInBounds_ne hiz]
        exact hag i fun y hy=>by
          rcases List.mem_cons.1 hy with rfl|hy
          · exact hiz
          · exact hi y hy) hcl a d ha fun y hy=>hF y (List.mem_cons_of_mem _ hy)
    simp only [cntz,hb,if_true]
    rwa [show fuel + (1 + cntz zs real)=fuel + 1 + cntz zs real from by omega]
theorem FE {zs zs':List ZOp} {fuel m:Nat} {listed:Array Bool} {u:Nat→Value} {l2:Env} {w2:World} {O2:Lab} {ls:List Nat} (acts':List (Nat×List Nat)) (l':Env) (hk:keepZ ops m zs=zs') (hZ:St (·∈ls) w O w2 O2) (hc:(!ls.contains 0 && (zs'.all fun z=>!ls.contains z.lab) && (ls.all fun q=>(tcs acts (listed.setIfInBounds m true)).contains q) && acts'.all (acts.contains ·))=true)
    (hl:allZ (fun z=>lk l2 z.dst=some (u z.dst)) zs') (hs:subs l2 l') (h:hwz P n ops Q acts' zs' fuel (listed.setIfInBounds m true) l' w2 O2):owp P n ops (onlyN (zNext P n ops Q acts zs fuel listed m u w O)) [] l2 w2:=by
  subst hk
  simp only [Bool.and_eq_true] at hc
  obtain ⟨⟨⟨h1,h2⟩,h3⟩,h4⟩:=hc
  exact Ff ⟨O2,ls,acts',l',hZ,⟨by simpa using h1,h2,h3,h4⟩,hl,hs,h⟩
theorem Ds {rest:List Oper} {Q:Post} (l':Env) (hs:subs l l') (h:owp P n ops Q rest l' w):owp P n ops Q rest l w:=fun a d ha=>h a d (ha.sub hs)
theorem MQ {l l2:Env} (hs:subs l2 l):∀ {xs:List Operand} {vs:List Value},opvs l xs=some vs→opvs l2 xs=some vs
  | [],_,h=>h
  | x :: r,vs,h=>by
    simp only [opvs] at h ⊢
    cases hv:opv l x with
    | none=>rw [hv] at h;cases h
    | some v =>
      rw [hv] at h
      have hv2:opv l2 x=some v:=by
        cases x with
        | tmp t=>exact Bn hs t v hv
        | const u=>exact hv
        | global g=>exact hv
        | func f=>exact hv
      rw [hv2]
      dsimp only at h ⊢
      cases hr:opvs l r with
      | none=>rw [hr] at h;cases h
      | some us=>rw [hr] at h;rw [MQ hs hr];exact h
end
abbrev zRow {α:Type} [Rp α] (i d R:Nat) (e:TypeId) (len:Nat) (xs:List α):ZOp where
  idx:=i
  dst:=d
  lab:=R
  F v w O:=∃ g,v=.slice (some ⟨g,0,none⟩) xs.length len∧Rw R w O e (.slice (some ⟨g,0,none⟩) xs.length len) xs
  st:=by
    rintro v w O w' O' ls ⟨g,rfl,h⟩ hS h0 hl
    exact ⟨g,rfl,h.st hS (by simpa using h0) (by simpa using hl)⟩
abbrev zVar (i d R:Nat) (t:TypeId) (cs:List Value):ZOp where
  idx:=i
  dst:=d
  lab:=R
  F v w O:=∃ g,v=.pointer (some ⟨g,0,none⟩)∧Lc R w O g t cs
  st:=by
    rintro v w O w' O' ls ⟨g,rfl,h⟩ hS _ hl
    exact ⟨g,rfl,h.st hS (by simpa using hl)⟩
section
variable {P : Program} {n : Nat} {ops : Array Oper} {Q : Post} {acts : List (Nat × List Nat)} {w0 : World} {O0 : Lab} {l : Env} {w : World} {fuel : Nat} {listed : Array Bool}
theorem DC {α:Type} [Rp α] {i d R:Nat} (hR:R≠0) {t e:TypeId} [TSlice P t e] {z:Value} {size bytes len:Nat} [TInfo P e z size bytes] {ps:List (Nat×Operand)} {vs:List Value} {xs:List α} {ty:TypeId} {pos:String} {aft:Array Edge} {req:Env} (hsize:size=Rp.size α) (ho:ops[i]?=some ⟨some d,.buildSlice t len ps.toArray,ty,pos,aft,none⟩) (hk:idxOk 0 ps=true) (hx:opvs req (ps.map (·.2))=some vs) (hlen:len=xs.length)
    (hv:∀ w O,Vall w (Fr 0 w O) vs xs) (hz:len * size≤16777216) (hm:len≤9223372036854775807) (hd:Nat.blt d n=true):ZStep P n ops (zRow i d R e len xs) req :=
  ⟨_,ho,fun _ w O hs=>Bv R hR O hsize hk (MQ hs hx) hlen (hv w O) hz hm hd fun g w' O' S h=>Ff ⟨_,O',S,rfl,g,rfl,h⟩⟩
theorem Od {i d R:Nat} {t:TypeId} {z:Value} {size bytes:Nat} [TInfo P t z size bytes] {ty:TypeId} {pos:String} {aft:Array Edge} {req:Env} {cs:List Value} (ho:ops[i]?=some ⟨some d,.alloc t,ty,pos,aft,none⟩) (hcs:z.cells.toList=cs) (hd:Nat.blt d n=true):ZStep P n ops (zVar i d R t cs) req:=by
  subst hcs
  exact ⟨_,ho,fun _ _ O _=>BD R O hd fun g w' O' S h=>Ff ⟨_,O',S,rfl,g,rfl,h⟩⟩
theorem ES {z:ZOp} (req:Env) (h1:ZStep P n ops z req) (h2:ZStep P n ops z req→hwx P n ops Q acts w0 O0 fuel listed l w):hwx P n ops Q acts w0 O0 fuel listed l w:=h2 h1
end
end
section
open Go Go.RowKit
attribute [local irreducible] ewp owp hwp hwq hws Ev Evg Fn retPost loud loudS Res1
def hasB (s:List Int) (x:Fct):Bool:=decide (0≤x.var) && decide (s[x.var.toNat]?=some x.val)
def holdsB (f:List Fct) (s:List Int):Bool:=f.all (hasB s)
theorem HL {f:List Fct} {s:List Int} {k:Nat} {x:Fct} (hx:f[k]?=some x) (h:hasB s x=false):holdsB f s=false:=by
  unfold holdsB
  rw [List.all_eq_false]
  exact ⟨x,List.mem_of_getElem? hx,by simp [h]⟩
theorem Ko {f:List Fct} {s:List Int} {k:Nat} {x:Fct} (hx:f[k]?=some x) (h:hasB s x=true) (hh:holdsB (f.take k) s=true):holdsB (f.take (k + 1)) s=true:=by
  unfold holdsB at *
  rw [List.take_add_one,hx,List.all_append,hh]
  simp [h]
theorem LD {s:List Int} {x:Fct} {j:Nat} {y:Int} (hj:x.var=(j:Int)) (hy:s[j]?=some y):hasB s x=decide (y=x.val):=by
  unfold hasB
  rw [hj];simp [hy]
theorem AF {α:Type} {l:List α} {k:Nat} (h:k < l.length):∃ x,l[k]?=some x:=⟨l[k],List.getElem?_eq_getElem h⟩
theorem BI {α:Type} {l:List α} {k:Nat} {x:α} (h:l[k]?=some x):k < l.length:=(List.getElem?_eq_some_iff.1 h).1
theorem baseHolds {w:World} {fv sv:Value} {f:List Fct} {s:List Int} (hf:V w fv f) (hs:V w sv s) :
    Fn Tryz.prog 37 [fv,sv] w fun v w'=>v=.bool (bof (holdsB f s=true))∧Ext w w':=by
  obtain ⟨Af,cf,rfl⟩:=hf.form
  obtain ⟨As,cs,rfl⟩:=hs.form
  have hfl:=hf.len
  refine AH Tryz.func37 rfl Tryz.ntmps37 rfl ?_
  ((repeat (first|refine Aw ?_|refine Ah rfl ?_|refine Ae rfl ?_))<;>(refine Au rfl rfl ?_<;>(refine o_z ?_))<;>(repeat (first|refine Aw ?_|refine Ah rfl ?_|refine Ae rfl ?_))<;>(refine Ar rfl rfl ?_<;>refine AP rfl rfl ?_<;>refine Ar rfl rfl ?_<;>(refine o_z ?_))<;>(repeat (first|refine Aw ?_|refine Ah rfl ?_|refine Ae rfl ?_)))
  refine Fg (fun k:Nat=>[(1,.slice As s.length cs),(7,.slice Af f.length cf),(8,.int .i64 (f.length:Int)),(9,.int .i64 (k:Int))])
    (fun k w'=>Ext w w'∧k≤f.length∧holdsB (f.take k) s=true) (fun k=>f.length - k) 0 ⟨Below.refl _ _,Nat.zero_le _,rfl⟩ ⟨rfl,rfl,rfl,rfl,trivial⟩ ?_
  rintro k w1 ⟨hE,hk,hh⟩
  by_cases hlt:k < f.length
  · obtain ⟨x,hx⟩:=AF hlt
    obtain ⟨b,o,ce,rfl,hb,_,hd1,rfl,hr1,hr2⟩:=(hf.ext hE).elem hx
    ((repeat (first|refine Aw ?_|refine Ah rfl ?_|refine Ae rfl ?_))<;>((first|refine Dj rfl rfl rfl ?_|refine Dk rfl rfl rfl ?_)<;>(refine o_z ?_))<;>(repeat (first|refine Aw ?_|refine Ah rfl ?_|refine Ae rfl ?_))<;>(refine Dg rfl rfl rfl ?_<;>refine Bk rfl rfl ?_)<;>(repeat (first|refine Aw ?_|refine Ah rfl ?_|refine Ae rfl ?_)))
    refine Cp rfl rfl rfl (by simp [Value.cells,Value.oneCell']) fun w3 hN=>?_
    have hb1:=hN.blk
    have hE3:Ext w w3:=hE.trans' hN.ext
    ((refine o_z ?_))
    repeat (first|refine Aw ?_|refine Ah rfl ?_|refine Ae rfl ?_)
    refine Cr (·=w3) [(0,true),(1,true),(2,true),(3,true),(4,true),(5,true),(6,true),(7,true),(8,true),(9,true),(10,true),(11,true),(12,true),(13,true),(14,true),(15,true),(16,true),(17,true),(18,true),(19,true)] (by kernel_rfl) rfl (by kernel_rfl) rfl ?_
    by_cases hv:0≤x.var∧x.var < s.length
    · obtain ⟨j,hj1⟩:=Int.eq_ofNat_of_zero_le hv.1
      obtain ⟨y,hy⟩:=AF (l:=s) (k:=j) (by omega)
      obtain ⟨b2,o2,ce2,rfl,_,_,hd2,rfl,_⟩:=(hs.ext hE3).elem hy
      have hq:=LD (s:=s) hj1 hy
      (refine Bc rfl rfl rfl ?_<;>refine Cm rfl rfl rfl ?_<;>(first|refine GD rfl rfl rfl rfl ?_|refine GE rfl rfl rfl rfl ?_|refine FA rfl rfl rfl rfl (fun _=>?_) fun _=>?_)<;>refine AJ rfl rfl rfl ?_<;>(refine AA rfl ?_;(first|(refine Az rfl rfl ?_;refine Cs rfl rfl ?_)|refine AC rfl rfl rfl rfl ?_))<;>(refine AA rfl ?_;(first|(refine Az rfl rfl ?_;refine Bq rfl rfl ?_)|refine AC rfl rfl rfl rfl ?_))<;>(refine AA rfl ?_;(first|(refine Az rfl rfl ?_;refine Cc rfl rfl ?_)|refine AC rfl rfl rfl rfl ?_))<;>(refine AA rfl ?_;(first|(refine Az rfl rfl ?_;refine It rfl rfl ?_)|refine AC rfl rfl rfl rfl ?_))<;>(refine AA rfl ?_;(first|(refine Az rfl rfl ?_;(first|refine BY (fun _ _=>Bf rfl rfl) rfl (by omega) ?_|refine BZ (fun _ _=>Bf rfl rfl) rfl (by omega) ?_|refine Be (fun _ _=>Bf rfl rfl) rfl (fun _=>?_) (fun _=>?_)))|refine AC rfl rfl rfl rfl ?_))<;>(first|refine CU rfl rfl rfl rfl ?_|refine CL rfl rfl rfl rfl ?_)<;>refine AJ rfl rfl rfl ?_<;>(refine AA rfl ?_;(first|(refine Az rfl rfl ?_;refine Cc rfl rfl ?_)|refine AC rfl rfl rfl rfl ?_))<;>(refine AA rfl ?_;(first|(refine Az rfl rfl ?_;refine Cs rfl rfl ?_)|refine AC rfl rfl rfl rfl ?_))<;>(refine AA rfl ?_;(first|(refine Az rfl rfl ?_;refine Bq rfl rfl ?_)|refine AC rfl rfl rfl rfl ?_))<;>(refine AA rfl ?_;(first|(refine Az rfl rfl ?_;refine Gj rfl rfl rfl ?_)|refine AC rfl rfl rfl rfl ?_))<;>(refine AA rfl ?_;(first|(refine Az rfl rfl ?_;refine Bq rfl rfl ?_)|refine AC rfl rfl rfl rfl ?_))<;>(refine AA rfl ?_;(first|(refine Az rfl rfl ?_;refine Cs rfl rfl ?_)|refine AC rfl rfl rfl rfl ?_))<;>(refine AA rfl ?_;(first|(refine Az rfl rfl ?_;refine Bq rfl rfl ?_)|refine AC rfl rfl rfl rfl ?_))<;>(refine AA rfl ?_;(first|(refine Az rfl rfl ?_;(first|refine BY (fun _ _=>Em rfl rfl) rfl (by omega) ?_|refine BZ (fun _ _=>Em rfl rfl) rfl (by omega) ?_|refine Be (fun _ _=>Em rfl rfl) rfl (fun _=>?_) (fun _=>?_)))|refine AC rfl rfl rfl rfl ?_))<;>(first|refine CU rfl rfl rfl rfl ?_|refine CL rfl rfl rfl rfl ?_)<;>(refine h_z ?_))<;>(repeat (first|refine Aw ?_|refine Ah rfl ?_|refine Ae rfl ?_))
      · ((repeat (first|refine Aw ?_|refine Ah rfl ?_|refine Ae rfl ?_))<;>(refine Au rfl rfl ?_<;>(refine o_z ?_))<;>(repeat (first|refine Aw ?_|refine Ah rfl ?_|refine Ae rfl ?_)))
        refine ret1 rfl rfl ⟨?_,hE3⟩
        rw [HL hx (by rw [hq];simpa using ‹_›),GZ]
      · ((first|refine Gx rfl rfl ?_|refine Gw rfl rfl rfl ?_)<;>refine Ar rfl rfl ?_<;>(refine o_z ?_))
        exact ⟨k + 1,⟨rfl,rfl,rfl,rfl,trivial⟩,⟨hE3,by omega,Ko hx (by rw [hq];simp;omega) hh⟩,by omega⟩
    · have hq:hasB s x=false:=by
        unfold hasB
        by_cases h0:0≤x.var
        · have:s.length≤x.var.toNat:=by omega
          simp [List.getElem?_eq_none this]
        · simp [h0]
      (refine Bc rfl rfl rfl ?_<;>refine Cm rfl rfl rfl ?_<;>(first|refine GD rfl rfl rfl rfl ?_|refine GE rfl rfl rfl rfl ?_|refine FA rfl rfl rfl rfl (fun _=>?_) fun _=>?_)<;>refine AJ rfl rfl rfl ?_<;>(refine AA rfl ?_;(first|(refine Az rfl rfl ?_;refine Cs rfl rfl ?_)|refine AC rfl rfl rfl rfl ?_))<;>(refine AA rfl ?_;(first|(refine Az rfl rfl ?_;refine Bq rfl rfl ?_)|refine AC rfl rfl rfl rfl ?_))<;>(refine AA rfl ?_;(first|(refine Az rfl rfl ?_;refine Cc rfl rfl ?_)|refine AC rfl rfl rfl rfl ?_))<;>(refine AA rfl ?_;(first|(refine Az rfl rfl ?_;refine It rfl rfl ?_)|refine AC rfl rfl rfl rfl ?_))<;>(refine AA rfl ?_;(first|(refine Az rfl rfl ?_;(first|refine BY (fun _ _=>Bf rfl rfl) rfl (by omega) ?_|refine BZ (fun _ _=>Bf rfl rfl) rfl (by omega) ?_|refine Be (fun _ _=>Bf rfl rfl) rfl (fun _=>?_) (fun _=>?_)))|refine AC rfl rfl rfl rfl ?_))<;>(first|refine CU rfl rfl rfl rfl ?_|refine CL rfl rfl rfl rfl ?_)<;>refine AJ rfl rfl rfl ?_<;>(refine AA rfl ?_;(first|(refine Az rfl rfl ?_;refine Cc rfl rfl ?_)|refine AC rfl rfl rfl rfl ?_))<;>(refine AA rfl ?_;(first|(refine Az rfl rfl ?_;refine Cs rfl rfl ?_)|refine AC rfl rfl rfl rfl ?_))<;>(refine AA rfl ?_;(first|(refine Az rfl rfl ?_;refine Bq rfl rfl ?_)|refine AC rfl rfl rfl rfl ?_))<;>(refine AA rfl ?_;(first|(refine Az rfl rfl ?_;refine Gj rfl rfl rfl ?_)|refine AC rfl rfl rfl rfl ?_))<;>(refine AA rfl ?_;(first|(refine Az rfl rfl ?_;refine Bq rfl rfl ?_)|refine AC rfl rfl rfl rfl ?_))<;>(refine AA rfl ?_;(first|(refine Az rfl rfl ?_;refine Cs rfl rfl ?_)|refine AC rfl rfl rfl rfl ?_))<;>(refine AA rfl ?_;(first|(refine Az rfl rfl ?_;refine Bq rfl rfl ?_)|refine AC rfl rfl rfl rfl ?_))<;>(refine AA rfl ?_;(first|(refine Az rfl rfl ?_;(first|refine BY (fun _ _=>Em rfl rfl) rfl (by omega) ?_|refine BZ (fun _ _=>Em rfl rfl) rfl (by omega) ?_|refine Be (fun _ _=>Em rfl rfl) rfl (fun _=>?_) (fun _=>?_)))|refine AC rfl rfl rfl rfl ?_))<;>(first|refine CU rfl rfl rfl rfl ?_|refine CL rfl rfl rfl rfl ?_)<;>(refine h_z ?_))<;>(repeat (first|refine Aw ?_|refine Ah rfl ?_|refine Ae rfl ?_))
      all_goals
        ((repeat (first|refine Aw ?_|refine Ah rfl ?_|refine Ae rfl ?_))<;>(refine Au rfl rfl ?_<;>(refine o_z ?_))<;>(repeat (first|refine Aw ?_|refine Ah rfl ?_|refine Ae rfl ?_)))
        refine ret1 rfl rfl ⟨?_,hE3⟩
        rw [HL hx hq,GZ]
  · ((repeat (first|refine Aw ?_|refine Ah rfl ?_|refine Ae rfl ?_))<;>((first|refine Dj rfl rfl rfl ?_|refine Dk rfl rfl rfl ?_)<;>(refine o_z ?_))<;>(repeat (first|refine Aw ?_|refine Ah rfl ?_|refine Ae rfl ?_))<;>(refine Au rfl rfl ?_<;>(refine o_z ?_))<;>(repeat (first|refine Aw ?_|refine Ah rfl ?_|refine Ae rfl ?_)))
    refine ret1 rfl rfl ⟨?_,hE⟩
    rw [List.take_of_length_le (by omega)] at hh
    rw [hh,GZ]
theorem taskHolds {w:World} {fv sv:Value} {f:List Fct} {s:List Int} (hf:V w fv f) (hs:V w sv s) :
    Fn Tryz.prog 43 [fv,sv] w fun v w'=>v=.bool (bof (holdsB f s=true))∧Ext w w':=by
  obtain ⟨Af,cf,rfl⟩:=hf.form
  obtain ⟨As,cs,rfl⟩:=hs.form
  have hfl:=hf.len
  refine AH Tryz.func43 rfl Tryz.ntmps43 rfl ?_
  ((repeat (first|refine Aw ?_|refine Ah rfl ?_|refine Ae rfl ?_))<;>(refine Au rfl rfl ?_<;>(refine o_z ?_))<;>(repeat (first|refine Aw ?_|refine Ah rfl ?_|refine Ae rfl ?_))<;>(refine Ar rfl rfl ?_<;>refine AP rfl rfl ?_<;>refine Ar rfl rfl ?_<;>(refine o_z ?_))<;>(repeat (first|refine Aw ?_|refine Ah rfl ?_|refine Ae rfl ?_)))
  refine Fg (fun k:Nat=>[(1,.slice As s.length cs),(7,.slice Af f.length cf),(8,.int .i64 (f.length:Int)),(9,.int .i64 (k:Int))])
    (fun k w'=>Ext w w'∧k≤f.length∧holdsB (f.take k) s=true) (fun k=>f.length - k) 0 ⟨Below.refl _ _,Nat.zero_le _,rfl⟩ ⟨rfl,rfl,rfl,rfl,trivial⟩ ?_
  rintro k w1 ⟨hE,hk,hh⟩
  by_cases hlt:k < f.length
  · obtain ⟨x,hx⟩:=AF hlt
    obtain ⟨b,o,ce,rfl,hb,_,hd1,rfl,hr1,hr2⟩:=(hf.ext hE).elem hx
    ((repeat (first|refine Aw ?_|refine Ah rfl ?_|refine Ae rfl ?_))<;>((first|refine Dj rfl rfl rfl ?_|refine Dk rfl rfl rfl ?_)<;>(refine o_z ?_))<;>(repeat (first|refine Aw ?_|refine Ah rfl ?_|refine Ae rfl ?_))<;>(refine Dg rfl rfl rfl ?_<;>refine Bk rfl rfl ?_)<;>(repeat (first|refine Aw ?_|refine Ah rfl ?_|refine Ae rfl ?_)))
    refine Cp rfl rfl rfl (by simp [Value.cells,Value.oneCell']) fun w3 hN=>?_
    have hb1:=hN.blk
    have hE3:Ext w w3:=hE.trans' hN.ext
    ((refine o_z ?_))
    repeat (first|refine Aw ?_|refine Ah rfl ?_|refine Ae rfl ?_)
    refine Cr (·=w3) [(0,true),(1,true),(2,true),(3,true),(4,true),(5,true),(6,true),(7,true),(8,true),(9,true),(10,true),(11,true),(12,true),(13,true),(14,true),(15,true),(16,true),(17,true),(18,true),(19,true)] (by kernel_rfl) rfl (by kernel_rfl) rfl ?_
    by_cases hv:0≤x.var∧x.var < s.length
    · obtain ⟨j,hj1⟩:=Int.eq_ofNat_of_zero_le hv.1
      obtain ⟨y,hy⟩:=AF (l:=s) (k:=j) (by omega)
      obtain ⟨b2,o2,ce2,rfl,_,_,hd2,rfl,_⟩:=(hs.ext hE3).elem hy
      have hq:=LD (s:=s) hj1 hy
      (refine Bc rfl rfl rfl ?_<;>refine Cm rfl rfl rfl ?_<;>(first|refine GD rfl rfl rfl rfl ?_|refine GE rfl rfl rfl rfl ?_|refine FA rfl rfl rfl rfl (fun _=>?_) fun _=>?_)<;>refine AJ rfl rfl rfl ?_<;>(refine AA rfl ?_;(first|(refine Az rfl rfl ?_;refine Cs rfl rfl ?_)|refine AC rfl rfl rfl rfl ?_))<;>(refine AA rfl ?_;(first|(refine Az rfl rfl ?_;refine Bq rfl rfl ?_)|refine AC rfl rfl rfl rfl ?_))<;>(refine AA rfl ?_;(first|(refine Az rfl rfl ?_;refine Cc rfl rfl ?_)|refine AC rfl rfl rfl rfl ?_))<;>(refine AA rfl ?_;(first|(refine Az rfl rfl ?_;refine It rfl rfl ?_)|refine AC rfl rfl rfl rfl ?_))<;>(refine AA rfl ?_;(first|(refine Az rfl rfl ?_;(first|refine BY (fun _ _=>Bf rfl rfl) rfl (by omega) ?_|refine BZ (fun _ _=>Bf rfl rfl) rfl (by omega) ?_|refine Be (fun _ _=>Bf rfl rfl) rfl (fun _=>?_) (fun _=>?_)))|refine AC rfl rfl rfl rfl ?_))<;>(first|refine CU rfl rfl rfl rfl ?_|refine CL rfl rfl rfl rfl ?_)<;>refine AJ rfl rfl rfl ?_<;>(refine AA rfl ?_;(first|(refine Az rfl rfl ?_;refine Cc rfl rfl ?_)|refine AC rfl rfl rfl rfl ?_))<;>(refine AA rfl ?_;(first|(refine Az rfl rfl ?_;refine Cs rfl rfl ?_)|refine AC rfl rfl rfl rfl ?_))<;>(refine AA rfl ?_;(first|(refine Az rfl rfl ?_;refine Bq rfl rfl ?_)|refine AC rfl rfl rfl rfl ?_))<;>(refine AA rfl ?_;(first|(refine Az rfl rfl ?_;refine Gj rfl rfl rfl ?_)|refine AC rfl rfl rfl rfl ?_))<;>(refine AA rfl ?_;(first|(refine Az rfl rfl ?_;refine Bq rfl rfl ?_)|refine AC rfl rfl rfl rfl ?_))<;>(refine AA rfl ?_;(first|(refine Az rfl rfl ?_;refine Cs rfl rfl ?_)|refine AC rfl rfl rfl rfl ?_))<;>(refine AA rfl ?_;(first|(refine Az rfl rfl ?_;refine Bq rfl rfl ?_)|refine AC rfl rfl rfl rfl ?_))<;>(refine AA rfl ?_;(first|(refine Az rfl rfl ?_;(first|refine BY (fun _ _=>Em rfl rfl) rfl (by omega) ?_|refine BZ (fun _ _=>Em rfl rfl) rfl (by omega) ?_|refine Be (fun _ _=>Em rfl rfl) rfl (fun _=>?_) (fun _=>?_)))|refine AC rfl rfl rfl rfl ?_))<;>(first|refine CU rfl rfl rfl rfl ?_|refine CL rfl rfl rfl rfl ?_)<;>(refine h_z ?_))<;>(repeat (first|refine Aw ?_|refine Ah rfl ?_|refine Ae rfl ?_))
      · ((repeat (first|refine Aw ?_|refine Ah rfl ?_|refine Ae rfl ?_))<;>(refine Au rfl rfl ?_<;>(refine o_z ?_))<;>(repeat (first|refine Aw ?_|refine Ah rfl ?_|refine Ae rfl ?_)))
        refine ret1 rfl rfl ⟨?_,hE3⟩
        rw [HL hx (by rw [hq];simpa using ‹_›),GZ]
      · ((first|refine Gx rfl rfl ?_|refine Gw rfl rfl rfl ?_)<;>refine Ar rfl rfl ?_<;>(refine o_z ?_))
        exact ⟨k + 1,⟨rfl,rfl,rfl,rfl,trivial⟩,⟨hE3,by omega,Ko hx (by rw [hq];simp;omega) hh⟩,by omega⟩
    · have hq:hasB s x=false:=by
        unfold hasB
        by_cases h0:0≤x.var
        · have:s.length≤x.var.toNat:=by omega
          simp [List.getElem?_eq_none this]
        · simp [h0]
      (refine Bc rfl rfl rfl ?_<;>refine Cm rfl rfl rfl ?_<;>(first|refine GD rfl rfl rfl rfl ?_|refine GE rfl rfl rfl rfl ?_|refine FA rfl rfl rfl rfl (fun _=>?_) fun _=>?_)<;>refine AJ rfl rfl rfl ?_<;>(refine AA rfl ?_;(first|(refine Az rfl rfl ?_;refine Cs rfl rfl ?_)|refine AC rfl rfl rfl rfl ?_))<;>(refine AA rfl ?_;(first|(refine Az rfl rfl ?_;refine Bq rfl rfl ?_)|refine AC rfl rfl rfl rfl ?_))<;>(refine AA rfl ?_;(first|(refine Az rfl rfl ?_;refine Cc rfl rfl ?_)|refine AC rfl rfl rfl rfl ?_))<;>(refine AA rfl ?_;(first|(refine Az rfl rfl ?_;refine It rfl rfl ?_)|refine AC rfl rfl rfl rfl ?_))<;>(refine AA rfl ?_;(first|(refine Az rfl rfl ?_;(first|refine BY (fun _ _=>Bf rfl rfl) rfl (by omega) ?_|refine BZ (fun _ _=>Bf rfl rfl) rfl (by omega) ?_|refine Be (fun _ _=>Bf rfl rfl) rfl (fun _=>?_) (fun _=>?_)))|refine AC rfl rfl rfl rfl ?_))<;>(first|refine CU rfl rfl rfl rfl ?_|refine CL rfl rfl rfl rfl ?_)<;>refine AJ rfl rfl rfl ?_<;>(refine AA rfl ?_;(first|(refine Az rfl rfl ?_;refine Cc rfl rfl ?_)|refine AC rfl rfl rfl rfl ?_))<;>(refine AA rfl ?_;(first|(refine Az rfl rfl ?_;refine Cs rfl rfl ?_)|refine AC rfl rfl rfl rfl ?_))<;>(refine AA rfl ?_;(first|(refine Az rfl rfl ?_;refine Bq rfl rfl ?_)|refine AC rfl rfl rfl rfl ?_))<;>(refine AA rfl ?_;(first|(refine Az rfl rfl ?_;refine Gj rfl rfl rfl ?_)|refine AC rfl rfl rfl rfl ?_))<;>(refine AA rfl ?_;(first|(refine Az rfl rfl ?_;refine Bq rfl rfl ?_)|refine AC rfl rfl rfl rfl ?_))<;>(refine AA rfl ?_;(first|(refine Az rfl rfl ?_;refine Cs rfl rfl ?_)|refine AC rfl rfl rfl rfl ?_))<;>(refine AA rfl ?_;(first|(refine Az rfl rfl ?_;refine Bq rfl rfl ?_)|refine AC rfl rfl rfl rfl ?_))<;>(refine AA rfl ?_;(first|(refine Az rfl rfl ?_;(first|refine BY (fun _ _=>Em rfl rfl) rfl (by omega) ?_|refine BZ (fun _ _=>Em rfl rfl) rfl (by omega) ?_|refine Be (fun _ _=>Em rfl rfl) rfl (fun _=>?_) (fun _=>?_)))|refine AC rfl rfl rfl rfl ?_))<;>(first|refine CU rfl rfl rfl rfl ?_|refine CL rfl rfl rfl rfl ?_)<;>(refine h_z ?_))<;>(repeat (first|refine Aw ?_|refine Ah rfl ?_|refine Ae rfl ?_))
      all_goals
        ((repeat (first|refine Aw ?_|refine Ah rfl ?_|refine Ae rfl ?_))<;>(refine Au rfl rfl ?_<;>(refine o_z ?_))<;>(repeat (first|refine Aw ?_|refine Ah rfl ?_|refine Ae rfl ?_)))
        refine ret1 rfl rfl ⟨?_,hE3⟩
        rw [HL hx hq,GZ]
  · ((repeat (first|refine Aw ?_|refine Ah rfl ?_|refine Ae rfl ?_))<;>((first|refine Dj rfl rfl rfl ?_|refine Dk rfl rfl rfl ?_)<;>(refine o_z ?_))<;>(repeat (first|refine Aw ?_|refine Ah rfl ?_|refine Ae rfl ?_))<;>(refine Au rfl rfl ?_<;>(refine o_z ?_))<;>(repeat (first|refine Aw ?_|refine Ah rfl ?_|refine Ae rfl ?_)))
    refine ret1 rfl rfl ⟨?_,hE⟩
    rw [List.take_of_length_le (by omega)] at hh
    rw [hh,GZ]
theorem baseInts {w:World} {av bv:Value} {a b:List Int} (ha:V w av a) (hb:V w bv b) :
    Fn Tryz.prog 26 [av,bv] w fun v w'=>v=.bool (bof (a=b))∧Ext w w':=by
  obtain ⟨A,ca,rfl⟩:=ha.form
  obtain ⟨B,cb,rfl⟩:=hb.form
  have hal:=ha.len
  refine AH Tryz.func26 rfl Tryz.ntmps26 rfl ?_
  by_cases hl:a.length=b.length
  · ((repeat (first|refine Aw ?_|refine Ah rfl ?_|refine Ae rfl ?_))<;>(refine Au rfl rfl ?_<;>(refine o_z ?_))<;>(repeat (first|refine Aw ?_|refine Ah rfl ?_|refine Ae rfl ?_))<;>(refine Ar rfl rfl ?_<;>refine AP rfl rfl ?_<;>refine Ar rfl rfl ?_<;>refine AP rfl rfl ?_<;>(first|refine JV rfl rfl rfl ?_|refine JW rfl rfl rfl ?_)<;>(refine o_z ?_))<;>(repeat (first|refine Aw ?_|refine Ah rfl ?_|refine Ae rfl ?_))<;>(refine Ar rfl rfl ?_<;>refine AP rfl rfl ?_<;>refine Ar rfl rfl ?_<;>(refine o_z ?_))<;>(repeat (first|refine Aw ?_|refine Ah rfl ?_|refine Ae rfl ?_)))
    refine Fg (fun k:Nat=>[(0,.slice A a.length ca),(1,.slice B b.length cb),(12,.int .i64 (a.length:Int)),(13,.int .i64 (k:Int))])
      (fun k w'=>w'=w∧k≤a.length∧a.take k=b.take k) (fun k=>a.length - k) 0 ⟨rfl,Nat.zero_le _,rfl⟩ ⟨rfl,rfl,rfl,rfl,trivial⟩ ?_
    rintro k _ ⟨rfl,hk,hh⟩
    by_cases hlt:k < a.length
    · obtain ⟨x,hx⟩:=AF hlt
      obtain ⟨y,hy⟩:=AF (l:=b) (k:=k) (by omega)
      obtain ⟨b1,o1,ce,rfl,_,_,hd1,rfl,_⟩:=ha.elem hx
      obtain ⟨b2,o2,ce,rfl,_,_,hd2,rfl,_⟩:=hb.elem hy
      ((repeat (first|refine Aw ?_|refine Ah rfl ?_|refine Ae rfl ?_))<;>((first|refine Dj rfl rfl rfl ?_|refine Dk rfl rfl rfl ?_)<;>(refine o_z ?_))<;>(repeat (first|refine Aw ?_|refine Ah rfl ?_|refine Ae rfl ?_))<;>(refine Ar rfl rfl ?_<;>refine Au rfl rfl ?_<;>(refine o_z ?_))<;>(repeat (first|refine Aw ?_|refine Ah rfl ?_|refine Ae rfl ?_)))
      refine Cr (·=_) [(0,true),(1,true),(2,true),(3,true),(4,true),(5,true),(6,true),(7,true),(8,true)] (by kernel_rfl) rfl (by kernel_rfl) rfl ?_
      (refine AJ rfl rfl rfl ?_<;>refine AJ rfl rfl rfl ?_<;>refine Jq rfl rfl rfl rfl ?_<;>refine Cm rfl rfl rfl ?_<;>refine AJ rfl rfl rfl ?_<;>refine AJ rfl rfl rfl ?_<;>refine Jq rfl rfl rfl rfl ?_<;>refine Cm rfl rfl rfl ?_<;>(first|refine SO rfl rfl rfl rfl ?_|refine SP rfl rfl rfl rfl ?_|refine QP rfl rfl rfl rfl (fun _=>?_) fun _=>?_)<;>(refine h_z ?_))<;>(repeat (first|refine Aw ?_|refine Ah rfl ?_|refine Ae rfl ?_))
      · ((repeat (first|refine Aw ?_|refine Ah rfl ?_|refine Ae rfl ?_))<;>(refine Au rfl rfl ?_<;>(refine o_z ?_))<;>(repeat (first|refine Aw ?_|refine Ah rfl ?_|refine Ae rfl ?_)))
        refine ret1 rfl rfl ⟨?_,Below.refl _ _⟩
        rw [Bd]
        rintro rfl
        exact absurd (Option.some.inj (hx.symm.trans hy)) (by assumption)
      · ((first|refine Gx rfl rfl ?_|refine Gw rfl rfl rfl ?_)<;>refine Ar rfl rfl ?_<;>(refine o_z ?_))
        exact ⟨k + 1,⟨rfl,rfl,rfl,rfl,trivial⟩,⟨rfl,by omega,by rw [List.take_add_one,List.take_add_one,hx,hy,hh,show x=y from by omega]⟩,by omega⟩
    · ((repeat (first|refine Aw ?_|refine Ah rfl ?_|refine Ae rfl ?_))<;>((first|refine Dj rfl rfl rfl ?_|refine Dk rfl rfl rfl ?_)<;>(refine o_z ?_))<;>(repeat (first|refine Aw ?_|refine Ah rfl ?_|refine Ae rfl ?_))<;>(refine Au rfl rfl ?_<;>(refine o_z ?_))<;>(repeat (first|refine Aw ?_|refine Ah rfl ?_|refine Ae rfl ?_)))
      refine ret1 rfl rfl ⟨?_,Below.refl _ _⟩
      rw [List.take_of_length_le (by omega),List.take_of_length_le (by omega)] at hh
      rw [Bo hh]
  · ((repeat (first|refine Aw ?_|refine Ah rfl ?_|refine Ae rfl ?_))<;>(refine Au rfl rfl ?_<;>(refine o_z ?_))<;>(repeat (first|refine Aw ?_|refine Ah rfl ?_|refine Ae rfl ?_))<;>(refine Ar rfl rfl ?_<;>refine AP rfl rfl ?_<;>refine Ar rfl rfl ?_<;>refine AP rfl rfl ?_<;>(first|refine JV rfl rfl rfl ?_|refine JW rfl rfl rfl ?_)<;>(refine o_z ?_))<;>(repeat (first|refine Aw ?_|refine Ah rfl ?_|refine Ae rfl ?_))<;>(refine Au rfl rfl ?_<;>(refine o_z ?_))<;>(repeat (first|refine Aw ?_|refine Ah rfl ?_|refine Ae rfl ?_)))
    refine ret1 rfl rfl ⟨?_,Below.refl _ _⟩
    rw [Bd (fun h=>hl (by rw [h]))]
def StateOk (vars s:List Int):Prop:=s.length=vars.length∧∀ (i:Nat) x y,s[i]?=some x→vars[i]?=some y→0≤x∧x < y
theorem baseState {w:World} {vv sv:Value} {vars s:List Int} (ha:V w vv vars) (hb:V w sv s) :
    Fn Tryz.prog 73 [vv,sv] w fun v w'=>v=.bool (bof (StateOk vars s))∧Ext w w':=by
  obtain ⟨A,ca,rfl⟩:=ha.form
  obtain ⟨B,cb,rfl⟩:=hb.form
  have hal:=hb.len
  refine AH Tryz.func73 rfl Tryz.ntmps73 rfl ?_
  by_cases hl:s.length=vars.length
  · ((repeat (first|refine Aw ?_|refine Ah rfl ?_|refine Ae rfl ?_))<;>(refine Au rfl rfl ?_<;>(refine o_z ?_))<;>(repeat (first|refine Aw ?_|refine Ah rfl ?_|refine Ae rfl ?_))<;>(refine Ar rfl rfl ?_<;>refine AP rfl rfl ?_<;>refine Ar rfl rfl ?_<;>refine AP rfl rfl ?_<;>(first|refine JV rfl rfl rfl ?_|refine JW rfl rfl rfl ?_)<;>(refine o_z ?_))<;>(repeat (first|refine Aw ?_|refine Ah rfl ?_|refine Ae rfl ?_))<;>(refine Ar rfl rfl ?_<;>refine AP rfl rfl ?_<;>refine Ar rfl rfl ?_<;>(refine o_z ?_))<;>(repeat (first|refine Aw ?_|refine Ah rfl ?_|refine Ae rfl ?_)))
    refine Fg (fun k:Nat=>[(0,.slice A vars.length ca),(1,.slice B s.length cb),(12,.int .i64 (s.length:Int)),(13,.int .i64 (k:Int))])
      (fun k w'=>w'=w∧k≤s.length∧∀ (i:Nat) x y,i < k→s[i]?=some x→vars[i]?=some y→0≤x∧x < y) (fun k=>s.length - k) 0 ⟨rfl,Nat.zero_le _,fun i _ _ h=>by omega⟩ ⟨rfl,rfl,rfl,rfl,trivial⟩ ?_
    rintro k _ ⟨rfl,hk,hh⟩
    by_cases hlt:k < s.length
    · obtain ⟨x,hx⟩:=AF hlt
      obtain ⟨y,hy⟩:=AF (l:=vars) (k:=k) (by omega)
      obtain ⟨b1,o1,ce,rfl,_,_,hd1,rfl,_⟩:=ha.elem hy
      obtain ⟨b2,o2,ce,rfl,_,_,hd2,rfl,_⟩:=hb.elem hx
      ((repeat (first|refine Aw ?_|refine Ah rfl ?_|refine Ae rfl ?_))<;>((first|refine Dj rfl rfl rfl ?_|refine Dk rfl rfl rfl ?_)<;>(refine o_z ?_))<;>(repeat (first|refine Aw ?_|refine Ah rfl ?_|refine Ae rfl ?_))<;>(refine Ar rfl rfl ?_<;>refine Au rfl rfl ?_<;>(refine o_z ?_))<;>(repeat (first|refine Aw ?_|refine Ah rfl ?_|refine Ae rfl ?_)))
      refine Cr (·=_) [(0,true),(1,true),(2,true),(3,true),(4,true),(5,true),(6,true),(7,true),(8,true),(9,true),(10,true),(11,true),(12,true),(13,true),(14,true),(15,true)] (by kernel_rfl) rfl (by kernel_rfl) rfl ?_
      (refine AJ rfl rfl rfl ?_<;>refine AJ rfl rfl rfl ?_<;>refine Jq rfl rfl rfl rfl ?_<;>refine Cm rfl rfl rfl ?_<;>(first|refine GD rfl rfl rfl rfl ?_|refine GE rfl rfl rfl rfl ?_|refine FA rfl rfl rfl rfl (fun _=>?_) fun _=>?_)<;>refine AJ rfl rfl rfl ?_<;>(refine AA rfl ?_;(first|(refine Az rfl rfl ?_;refine Cc rfl rfl ?_)|refine AC rfl rfl rfl rfl ?_))<;>(refine AA rfl ?_;(first|(refine Az rfl rfl ?_;refine Cc rfl rfl ?_)|refine AC rfl rfl rfl rfl ?_))<;>(refine AA rfl ?_;(first|(refine Az rfl rfl ?_;refine Gj rfl rfl rfl ?_)|refine AC rfl rfl rfl rfl ?_))<;>(refine AA rfl ?_;(first|(refine Az rfl rfl ?_;refine Bq rfl rfl ?_)|refine AC rfl rfl rfl rfl ?_))<;>(refine AA rfl ?_;(first|(refine Az rfl rfl ?_;refine Cc rfl rfl ?_)|refine AC rfl rfl rfl rfl ?_))<;>(refine AA rfl ?_;(first|(refine Az rfl rfl ?_;refine Cc rfl rfl ?_)|refine AC rfl rfl rfl rfl ?_))<;>(refine AA rfl ?_;(first|(refine Az rfl rfl ?_;refine Gj rfl rfl rfl ?_)|refine AC rfl rfl rfl rfl ?_))<;>(refine AA rfl ?_;(first|(refine Az rfl rfl ?_;refine Bq rfl rfl ?_)|refine AC rfl rfl rfl rfl ?_))<;>(refine AA rfl ?_;(first|(refine Az rfl rfl ?_;(first|refine BY (fun _ _=>Bf rfl rfl) rfl (by omega) ?_|refine BZ (fun _ _=>Bf rfl rfl) rfl (by omega) ?_|refine Be (fun _ _=>Bf rfl rfl) rfl (fun _=>?_) (fun _=>?_)))|refine AC rfl rfl rfl rfl ?_))<;>(first|refine CU rfl rfl rfl rfl ?_|refine CL rfl rfl rfl rfl ?_)<;>(refine h_z ?_))<;>(repeat (first|refine Aw ?_|refine Ah rfl ?_|refine Ae rfl ?_))
      case refine_2.refine_2 =>
        ((first|refine Gx rfl rfl ?_|refine Gw rfl rfl rfl ?_)<;>refine Ar rfl rfl ?_<;>(refine o_z ?_))
        refine ⟨k + 1,⟨rfl,rfl,rfl,rfl,trivial⟩,⟨rfl,by omega,fun i x' y' hi h1 h2=>?_⟩,by omega⟩
        by_cases he:i=k
        · subst he
          rw [hx] at h1;rw [hy] at h2
          injection h1 with h1;injection h2 with h2
          omega
        · exact hh i x' y' (by omega) h1 h2
      all_goals
        ((repeat (first|refine Aw ?_|refine Ah rfl ?_|refine Ae rfl ?_))<;>(refine Au rfl rfl ?_<;>(refine o_z ?_))<;>(repeat (first|refine Aw ?_|refine Ah rfl ?_|refine Ae rfl ?_)))
        refine ret1 rfl rfl ⟨?_,Below.refl _ _⟩
        rw [Bd (fun h=>by have:=h.2 k x y hx hy;omega)]
    · ((repeat (first|refine Aw ?_|refine Ah rfl ?_|refine Ae rfl ?_))<;>((first|refine Dj rfl rfl rfl ?_|refine Dk rfl rfl rfl ?_)<;>(refine o_z ?_))<;>(repeat (first|refine Aw ?_|refine Ah rfl ?_|refine Ae rfl ?_))<;>(refine Au rfl rfl ?_<;>(refine o_z ?_))<;>(repeat (first|refine Aw ?_|refine Ah rfl ?_|refine Ae rfl ?_)))
      refine ret1 rfl rfl ⟨?_,Below.refl _ _⟩
      rw [Bo ⟨hl,fun i x y h1 h2=>hh i x y (by have:=BI h1;omega) h1 h2⟩]
  · ((repeat (first|refine Aw ?_|refine Ah rfl ?_|refine Ae rfl ?_))<;>(refine Au rfl rfl ?_<;>(refine o_z ?_))<;>(repeat (first|refine Aw ?_|refine Ah rfl ?_|refine Ae rfl ?_))<;>(refine Ar rfl rfl ?_<;>refine AP rfl rfl ?_<;>refine Ar rfl rfl ?_<;>refine AP rfl rfl ?_<;>(first|refine JV rfl rfl rfl ?_|refine JW rfl rfl rfl ?_)<;>(refine o_z ?_))<;>(repeat (first|refine Aw ?_|refine Ah rfl ?_|refine Ae rfl ?_))<;>(refine Au rfl rfl ?_<;>(refine o_z ?_))<;>(repeat (first|refine Aw ?_|refine Ah rfl ?_|refine Ae rfl ?_)))
    refine ret1 rfl rfl ⟨?_,Below.refl _ _⟩
    rw [Bd (fun h=>hl h.1)]
end
section
open Go Go.RowKit
attribute [local irreducible] ewp owp hwp hwq hws Ev Evg Fn retPost loud loudS Res1
theorem taskProper {w:World} {vv sv:Value} {vars s:List Int} (ha:V w vv vars) (hb:V w sv s) :
    Fn Tryz.prog 68 [vv,sv] w fun v w'=>v=.bool (bof (StateOk vars s))∧Ext w w':=by
  obtain ⟨A,ca,rfl⟩:=ha.form
  obtain ⟨B,cb,rfl⟩:=hb.form
  have hal:=hb.len
  refine AH Tryz.func68 rfl Tryz.ntmps68 rfl ?_
  by_cases hl:s.length=vars.length
  · ((repeat (first|refine Aw ?_|refine Ah rfl ?_|refine Ae rfl ?_))<;>(refine Au rfl rfl ?_<;>(refine o_z ?_))<;>(repeat (first|refine Aw ?_|refine Ah rfl ?_|refine Ae rfl ?_))<;>(refine Ar rfl rfl ?_<;>refine AP rfl rfl ?_<;>refine Ar rfl rfl ?_<;>refine AP rfl rfl ?_<;>(first|refine JV rfl rfl rfl ?_|refine JW rfl rfl rfl ?_)<;>(refine o_z ?_))<;>(repeat (first|refine Aw ?_|refine Ah rfl ?_|refine Ae rfl ?_))<;>(refine Ar rfl rfl ?_<;>refine AP rfl rfl ?_<;>refine Ar rfl rfl ?_<;>(refine o_z ?_))<;>(repeat (first|refine Aw ?_|refine Ah rfl ?_|refine Ae rfl ?_)))
    refine Fg (fun k:Nat=>[(0,.slice A vars.length ca),(12,.slice B s.length cb),(13,.int .i64 (s.length:Int)),(14,.int .i64 (k:Int))])
      (fun k w'=>w'=w∧k≤s.length∧∀ (i:Nat) x y,i < k→s[i]?=some x→vars[i]?=some y→0≤x∧x < y) (fun k=>s.length - k) 0 ⟨rfl,Nat.zero_le _,fun i _ _ h=>by omega⟩ ⟨rfl,rfl,rfl,rfl,trivial⟩ ?_
    rintro k _ ⟨rfl,hk,hh⟩
    by_cases hlt:k < s.length
    · obtain ⟨x,hx⟩:=AF hlt
      obtain ⟨y,hy⟩:=AF (l:=vars) (k:=k) (by omega)
      obtain ⟨b1,o1,ce,rfl,_,_,hd1,rfl,_⟩:=ha.elem hy
      obtain ⟨b2,o2,ce,rfl,_,_,hd2,rfl,_⟩:=hb.elem hx
      ((repeat (first|refine Aw ?_|refine Ah rfl ?_|refine Ae rfl ?_))<;>((first|refine Dj rfl rfl rfl ?_|refine Dk rfl rfl rfl ?_)<;>(refine o_z ?_))<;>(repeat (first|refine Aw ?_|refine Ah rfl ?_|refine Ae rfl ?_))<;>(refine Ar rfl rfl ?_<;>refine Dg rfl rfl rfl ?_<;>refine AE rfl rfl ?_<;>refine Au rfl rfl ?_<;>refine Au rfl rfl ?_<;>(refine o_z ?_))<;>(repeat (first|refine Aw ?_|refine Ah rfl ?_|refine Ae rfl ?_))<;>(refine Ar rfl rfl ?_<;>(first|refine Dj rfl rfl rfl ?_|refine Dk rfl rfl rfl ?_|refine DM rfl rfl rfl (fun _=>?_) fun _=>?_)<;>refine Ar rfl rfl ?_<;>(first|(refine Ay rfl rfl ?_;refine Ar rfl rfl ?_)|refine At rfl rfl rfl rfl ?_)<;>(first|(refine Ay rfl rfl ?_;refine Ar rfl rfl ?_)|refine At rfl rfl rfl rfl ?_)<;>(first|(refine Ay rfl rfl ?_;refine Ar rfl rfl ?_)|refine At rfl rfl rfl rfl ?_)<;>(first|(refine Ay rfl rfl ?_;refine Dg rfl rfl rfl ?_)|refine At rfl rfl rfl rfl ?_)<;>(first|(refine Ay rfl rfl ?_;refine AE rfl rfl ?_)|refine At rfl rfl rfl rfl ?_)<;>(first|(refine Ay rfl rfl ?_;(first|refine KX rfl rfl rfl ?_|refine KY rfl rfl rfl ?_|refine Ha rfl rfl rfl (fun _=>?_) fun _=>?_))|refine At rfl rfl rfl rfl ?_)<;>(first|refine AX rfl rfl rfl ?_|refine AT rfl rfl rfl ?_)<;>(refine o_z ?_))<;>(repeat (first|refine Aw ?_|refine Ah rfl ?_|refine Ae rfl ?_)))
      case refine_2.refine_2 =>
        ((first|refine Gx rfl rfl ?_|refine Gw rfl rfl rfl ?_)<;>refine Ar rfl rfl ?_<;>(refine o_z ?_))
        refine ⟨k + 1,⟨rfl,rfl,rfl,rfl,trivial⟩,⟨rfl,by omega,fun i x' y' hi h1 h2=>?_⟩,by omega⟩
        by_cases he:i=k
        · subst he
          rw [hx] at h1;rw [hy] at h2
          injection h1 with h1;injection h2 with h2
          omega
        · exact hh i x' y' (by omega) h1 h2
      all_goals
        ((repeat (first|refine Aw ?_|refine Ah rfl ?_|refine Ae rfl ?_))<;>(refine Au rfl rfl ?_<;>(refine o_z ?_))<;>(repeat (first|refine Aw ?_|refine Ah rfl ?_|refine Ae rfl ?_)))
        refine ret1 rfl rfl ⟨?_,Below.refl _ _⟩
        rw [Bd (fun h=>by have:=h.2 k x y hx hy;omega)]
    · ((repeat (first|refine Aw ?_|refine Ah rfl ?_|refine Ae rfl ?_))<;>((first|refine Dj rfl rfl rfl ?_|refine Dk rfl rfl rfl ?_)<;>(refine o_z ?_))<;>(repeat (first|refine Aw ?_|refine Ah rfl ?_|refine Ae rfl ?_))<;>(refine Au rfl rfl ?_<;>(refine o_z ?_))<;>(repeat (first|refine Aw ?_|refine Ah rfl ?_|refine Ae rfl ?_)))
      refine ret1 rfl rfl ⟨?_,Below.refl _ _⟩
      rw [Bo ⟨hl,fun i x y h1 h2=>hh i x y (by have:=BI h1;omega) h1 h2⟩]
  · ((repeat (first|refine Aw ?_|refine Ah rfl ?_|refine Ae rfl ?_))<;>(refine Au rfl rfl ?_<;>(refine o_z ?_))<;>(repeat (first|refine Aw ?_|refine Ah rfl ?_|refine Ae rfl ?_))<;>(refine Ar rfl rfl ?_<;>refine AP rfl rfl ?_<;>refine Ar rfl rfl ?_<;>refine AP rfl rfl ?_<;>(first|refine JV rfl rfl rfl ?_|refine JW rfl rfl rfl ?_)<;>(refine o_z ?_))<;>(repeat (first|refine Aw ?_|refine Ah rfl ?_|refine Ae rfl ?_))<;>(refine Au rfl rfl ?_<;>(refine o_z ?_))<;>(repeat (first|refine Aw ?_|refine Ah rfl ?_|refine Ae rfl ?_)))
    refine ret1 rfl rfl ⟨?_,Below.refl _ _⟩
    rw [Bd (fun h=>hl h.1)]
def FactOk (vars:List Int) (x:Fct):Prop:=0≤x.var∧0≤x.val∧∃ y,vars[x.var.toNat]?=some y∧x.val < y
def FactsOk (vars:List Int) (f:List Fct):Prop:=(∀ (i:Nat) x,f[i]?=some x→FactOk vars x)∧∀ (i:Nat) x y,f[i]?=some x→f[i + 1]?=some y→x.var < y.var
def FactsTo (vars:List Int) (f:List Fct) (k:Nat):Prop:=(∀ (i:Nat) x,i < k→f[i]?=some x→FactOk vars x)∧∀ (i:Nat) x y,i + 1 < k→f[i]?=some x→f[i + 1]?=some y→x.var < y.var
theorem FactsTo.step {vars:List Int} {f:List Fct} {k:Nat} {x:Fct} (h:FactsTo vars f k) (hx:f[k]?=some x) (ho:FactOk vars x) (hp:∀ y,0 < k→f[k - 1]?=some y→y.var < x.var):FactsTo vars f (k + 1):=by
  refine ⟨fun i y hi hy=>?_,fun i y z hi hy hz=>?_⟩
  · by_cases he:i=k
    · subst he;rw [hx] at hy;injection hy with hy;exact hy ▸ ho
    · exact h.1 i y (by omega) hy
  · by_cases he:i + 1=k
    · rw [he,hx] at hz;injection hz with hz;subst hz
      exact hp y (by omega) (by rw [show k - 1=i from by omega];exact hy)
    · exact h.2 i y z (by omega) hy hz
theorem FactsTo.done {vars:List Int} {f:List Fct} {k:Nat} (h:FactsTo vars f k) (hk:f.length≤k):FactsOk vars f :=
  ⟨fun i x hx=>h.1 i x (by have:=BI hx;omega) hx,fun i x y hx hy=>h.2 i x y (by have:=BI hy;omega) hx hy⟩
theorem baseProper {w:World} {vv fv:Value} {vars:List Int} {f:List Fct} (hv:V w vv vars) (hf:V w fv f) :
    Fn Tryz.prog 74 [vv,fv] w fun v w'=>v=.bool (bof (FactsOk vars f))∧Ext w w':=by
  obtain ⟨A,ca,rfl⟩:=hv.form
  obtain ⟨B,cb,rfl⟩:=hf.form
  have hfl:=hf.len
  refine AH Tryz.func74 rfl Tryz.ntmps74 rfl ?_
  ((repeat (first|refine Aw ?_|refine Ah rfl ?_|refine Ae rfl ?_))<;>(refine Au rfl rfl ?_<;>(refine o_z ?_))<;>(repeat (first|refine Aw ?_|refine Ah rfl ?_|refine Ae rfl ?_))<;>(refine Ar rfl rfl ?_<;>refine AP rfl rfl ?_<;>refine Ar rfl rfl ?_<;>(refine o_z ?_))<;>(repeat (first|refine Aw ?_|refine Ah rfl ?_|refine Ae rfl ?_)))
  refine Fg (fun k:Nat=>[(0,.slice A vars.length ca),(1,.slice B f.length cb),(7,.slice B f.length cb),(8,.int .i64 (f.length:Int)),(9,.int .i64 (k:Int))])
    (fun k w'=>Ext w w'∧k≤f.length∧FactsTo vars f k) (fun k=>f.length - k) 0 ⟨Below.refl _ _,Nat.zero_le _,⟨fun i _ h=>by omega,fun i _ _ h=>by omega⟩⟩ ⟨rfl,rfl,rfl,rfl,rfl,trivial⟩ ?_
  rintro k w1 ⟨hE,hk,hh⟩
  by_cases hlt:k < f.length
  · obtain ⟨x,hx⟩:=AF hlt
    obtain ⟨b,o,ce,rfl,hb,_,hd1,rfl,hr1,hr2⟩:=(hf.ext hE).elem hx
    ((repeat (first|refine Aw ?_|refine Ah rfl ?_|refine Ae rfl ?_))<;>((first|refine Dj rfl rfl rfl ?_|refine Dk rfl rfl rfl ?_)<;>(refine o_z ?_))<;>(repeat (first|refine Aw ?_|refine Ah rfl ?_|refine Ae rfl ?_))<;>(refine Ar rfl rfl ?_<;>refine Dg rfl rfl rfl ?_<;>refine Bk rfl rfl ?_)<;>(repeat (first|refine Aw ?_|refine Ah rfl ?_|refine Ae rfl ?_)))
    refine Eu rfl fun w2 hN=>?_
    (refine Au rfl rfl ?_)
    refine Co rfl rfl hN.blk rfl (Nat.le_refl _) (by simp [Value.cells,Value.oneCell']) fun w3 hU=>?_
    replace hN:=hN.upd hU
    have hb1:=hN.blk
    have hE3:Ext w w3:=hE.trans' hN.ext
    ((refine o_z ?_))
    repeat (first|refine Aw ?_|refine Ah rfl ?_|refine Ae rfl ?_)
    refine Cr (·=w3) [(0,true),(1,true),(2,true),(3,true),(4,true),(5,true),(6,true),(7,true),(8,true),(9,true),(10,true),(11,true),(12,true),(13,true),(14,true),(15,true),(16,true),(17,true),(18,true),(19,true),(20,true),(21,true),(22,true),(23,true),(24,true),(25,true),(26,true),(27,true),(28,true),(29,true),(30,true),(31,true),(32,true),(33,true),(34,true),(35,true),(36,true),(37,true),(38,true),(39,true)] (by kernel_rfl) rfl (by kernel_rfl) rfl ?_
    by_cases hvr:0≤x.var∧x.var < vars.length
    · obtain ⟨j,hj1⟩:=Int.eq_ofNat_of_zero_le hvr.1
      obtain ⟨y,hy⟩:=AF (l:=vars) (k:=j) (by omega)
      obtain ⟨b2,o2,ce2,rfl,_,_,hd2,rfl,_⟩:=(hv.ext hE3).elem hy
      have hjy:vars[x.var.toNat]?=some y:=by rw [hj1];simpa using hy
      have hok:0≤x.val→x.val < y→FactOk vars x:=fun h1 h2=>⟨hvr.1,h1,y,hjy,h2⟩
      have hno:¬ (0≤x.val∧x.val < y)→¬ FactsOk vars f:=fun h1 h2=>h1 (by
        obtain ⟨_,h3,y',h4,h5⟩:=h2.1 k x hx
        rw [hjy] at h4;injection h4 with h4;subst h4;exact ⟨h3,h5⟩)
      by_cases h0:0 < k
      · obtain ⟨z,hz⟩:=AF (l:=f) (k:=k - 1) (by omega)
        obtain ⟨b3,o3,ce3,he3,_,_,hd3,rfl,_⟩:=(hf.ext hE3).elem hz
        injection he3 with he3
        injection he3 with he3 he4
        subst he3;subst he4
        have hj2:(k:Int) - 1=((k - 1:Nat):Int):=by omega
        have hno2:¬ z.var < x.var→¬ FactsOk vars f:=fun h1 h2=>h1 (h2.2 (k - 1) z x hz (by rw [show k - 1 + 1=k from by omega];exact hx))
        (refine Bc rfl rfl rfl ?_<;>refine Cm rfl rfl rfl ?_<;>(first|refine GD rfl rfl rfl rfl ?_|refine GE rfl rfl rfl rfl ?_|refine FA rfl rfl rfl rfl (fun _=>?_) fun _=>?_)<;>refine AJ rfl rfl rfl ?_<;>(refine AA rfl ?_;(first|(refine Az rfl rfl ?_;refine Cs rfl rfl ?_)|refine AC rfl rfl rfl rfl ?_))<;>(refine AA rfl ?_;(first|(refine Az rfl rfl ?_;refine Bq rfl rfl ?_)|refine AC rfl rfl rfl rfl ?_))<;>(refine AA rfl ?_;(first|(refine Az rfl rfl ?_;refine Cc rfl rfl ?_)|refine AC rfl rfl rfl rfl ?_))<;>(refine AA rfl ?_;(first|(refine Az rfl rfl ?_;refine It rfl rfl ?_)|refine AC rfl rfl rfl rfl ?_))<;>(refine AA rfl ?_;(first|(refine Az rfl rfl ?_;(first|refine BY (fun _ _=>Bf rfl rfl) rfl (by omega) ?_|refine BZ (fun _ _=>Bf rfl rfl) rfl (by omega) ?_|refine Be (fun _ _=>Bf rfl rfl) rfl (fun _=>?_) (fun _=>?_)))|refine AC rfl rfl rfl rfl ?_))<;>(first|refine CU rfl rfl rfl rfl ?_|refine CL rfl rfl rfl rfl ?_)<;>refine AJ rfl rfl rfl ?_<;>(refine AA rfl ?_;(first|(refine Az rfl rfl ?_;refine Cs rfl rfl ?_)|refine AC rfl rfl rfl rfl ?_))<;>(refine AA rfl ?_;(first|(refine Az rfl rfl ?_;refine Bq rfl rfl ?_)|refine AC rfl rfl rfl rfl ?_))<;>(refine AA rfl ?_;(first|(refine Az rfl rfl ?_;(first|refine BY (fun _ _=>CF rfl rfl) rfl (by omega) ?_|refine BZ (fun _ _=>CF rfl rfl) rfl (by omega) ?_|refine Be (fun _ _=>CF rfl rfl) rfl (fun _=>?_) (fun _=>?_)))|refine AC rfl rfl rfl rfl ?_))<;>(first|refine CU rfl rfl rfl rfl ?_|refine CL rfl rfl rfl rfl ?_)<;>refine AJ rfl rfl rfl ?_<;>(refine AA rfl ?_;(first|(refine Az rfl rfl ?_;refine Cs rfl rfl ?_)|refine AC rfl rfl rfl rfl ?_))<;>(refine AA rfl ?_;(first|(refine Az rfl rfl ?_;refine Bq rfl rfl ?_)|refine AC rfl rfl rfl rfl ?_))<;>(refine AA rfl ?_;(first|(refine Az rfl rfl ?_;refine Cc rfl rfl ?_)|refine AC rfl rfl rfl rfl ?_))<;>(refine AA rfl ?_;(first|(refine Az rfl rfl ?_;refine Cs rfl rfl ?_)|refine AC rfl rfl rfl rfl ?_))<;>(refine AA rfl ?_;(first|(refine Az rfl rfl ?_;refine Bq rfl rfl ?_)|refine AC rfl rfl rfl rfl ?_))<;>(refine AA rfl ?_;(first|(refine Az rfl rfl ?_;refine Gj rfl rfl rfl ?_)|refine AC rfl rfl rfl rfl ?_))<;>(refine AA rfl ?_;(first|(refine Az rfl rfl ?_;refine Bq rfl rfl ?_)|refine AC rfl rfl rfl rfl ?_))<;>(refine AA rfl ?_;(first|(refine Az rfl rfl ?_;(first|refine BY (fun _ _=>Bf rfl rfl) rfl (by omega) ?_|refine BZ (fun _ _=>Bf rfl rfl) rfl (by omega) ?_|refine Be (fun _ _=>Bf rfl rfl) rfl (fun _=>?_) (fun _=>?_)))|refine AC rfl rfl rfl rfl ?_))<;>(first|refine CU rfl rfl rfl rfl ?_|refine CL rfl rfl rfl rfl ?_)<;>refine AJ rfl rfl rfl ?_<;>(refine AA rfl ?_;(first|(refine Az rfl rfl ?_;refine Cc rfl rfl ?_)|refine AC rfl rfl rfl rfl ?_))<;>(refine AA rfl ?_;(first|(refine Az rfl rfl ?_;(first|refine BY (fun _ _=>Fa rfl rfl) rfl (by omega) ?_|refine BZ (fun _ _=>Fa rfl rfl) rfl (by omega) ?_|refine Be (fun _ _=>Fa rfl rfl) rfl (fun _=>?_) (fun _=>?_)))|refine AC rfl rfl rfl rfl ?_))<;>(refine AA rfl ?_;(first|(refine Az rfl rfl ?_;refine Cc rfl rfl ?_)|refine AC rfl rfl rfl rfl ?_))<;>(refine AA rfl ?_;(first|(refine Az rfl rfl ?_;refine Cc rfl rfl ?_)|refine AC rfl rfl rfl rfl ?_))<;>(refine AA rfl ?_;(first|(refine Az rfl rfl ?_;refine Cc rfl rfl ?_)|refine AC rfl rfl rfl rfl ?_))<;>(refine AA rfl ?_;(first|(refine Az rfl rfl ?_;refine Qb rfl rfl rfl ?_)|refine AC rfl rfl rfl rfl ?_))<;>(refine AA rfl ?_;(first|(refine Az rfl rfl ?_;refine Gj rfl rfl rfl ?_)|refine AC rfl rfl rfl rfl ?_))<;>(refine AA rfl ?_;(first|(refine Az rfl rfl ?_;refine Cs rfl rfl ?_)|refine AC rfl rfl rfl rfl ?_))<;>(refine AA rfl ?_;(first|(refine Az rfl rfl ?_;refine Bq rfl rfl ?_)|refine AC rfl rfl rfl rfl ?_))<;>(refine AA rfl ?_;(first|(refine Az rfl rfl ?_;refine Cs rfl rfl ?_)|refine AC rfl rfl rfl rfl ?_))<;>(refine AA rfl ?_;(first|(refine Az rfl rfl ?_;refine Bq rfl rfl ?_)|refine AC rfl rfl rfl rfl ?_))<;>(refine AA rfl ?_;(first|(refine Az rfl rfl ?_;(first|refine BY (fun _ _=>Bf rfl rfl) rfl (by omega) ?_|refine BZ (fun _ _=>Bf rfl rfl) rfl (by omega) ?_|refine Be (fun _ _=>Bf rfl rfl) rfl (fun _=>?_) (fun _=>?_)))|refine AC rfl rfl rfl rfl ?_))<;>(refine AA rfl ?_;(first|(refine Az rfl rfl ?_;(first|refine MJ rfl rfl rfl ?_|refine OG rfl rfl rfl ?_))|refine AC rfl rfl rfl rfl ?_))<;>(first|refine CU rfl rfl rfl rfl ?_|refine CL rfl rfl rfl rfl ?_)<;>(refine h_z ?_))<;>(repeat (first|refine Aw ?_|refine Ah rfl ?_|refine Ae rfl ?_))
        all_goals first
          | (((first|refine Gx rfl rfl ?_|refine Gw rfl rfl rfl ?_)<;>refine Ar rfl rfl ?_<;>(refine o_z ?_))
             exact ⟨k + 1,⟨rfl,rfl,rfl,rfl,rfl,trivial⟩,⟨hE3,by omega,hh.step hx (hok (by omega) (by omega)) (fun y' _ hy'=>by rw [hz] at hy';injection hy' with hy';subst hy';omega)⟩,by omega⟩)
          | (((repeat (first|refine Aw ?_|refine Ah rfl ?_|refine Ae rfl ?_))<;>(refine Au rfl rfl ?_<;>(refine o_z ?_))<;>(repeat (first|refine Aw ?_|refine Ah rfl ?_|refine Ae rfl ?_)))
             refine ret1 rfl rfl ⟨?_,hE3⟩
             first|rw [Bd (hno (by omega))]|rw [Bd (hno2 (by omega))])
      · (refine Bc rfl rfl rfl ?_<;>refine Cm rfl rfl rfl ?_<;>(first|refine GD rfl rfl rfl rfl ?_|refine GE rfl rfl rfl rfl ?_|refine FA rfl rfl rfl rfl (fun _=>?_) fun _=>?_)<;>refine AJ rfl rfl rfl ?_<;>(refine AA rfl ?_;(first|(refine Az rfl rfl ?_;refine Cs rfl rfl ?_)|refine AC rfl rfl rfl rfl ?_))<;>(refine AA rfl ?_;(first|(refine Az rfl rfl ?_;refine Bq rfl rfl ?_)|refine AC rfl rfl rfl rfl ?_))<;>(refine AA rfl ?_;(first|(refine Az rfl rfl ?_;refine Cc rfl rfl ?_)|refine AC rfl rfl rfl rfl ?_))<;>(refine AA rfl ?_;(first|(refine Az rfl rfl ?_;refine It rfl rfl ?_)|refine AC rfl rfl rfl rfl ?_))<;>(refine AA rfl ?_;(first|(refine Az rfl rfl ?_;(first|refine BY (fun _ _=>Bf rfl rfl) rfl (by omega) ?_|refine BZ (fun _ _=>Bf rfl rfl) rfl (by omega) ?_|refine Be (fun _ _=>Bf rfl rfl) rfl (fun _=>?_) (fun _=>?_)))|refine AC rfl rfl rfl rfl ?_))<;>(first|refine CU rfl rfl rfl rfl ?_|refine CL rfl rfl rfl rfl ?_)<;>refine AJ rfl rfl rfl ?_<;>(refine AA rfl ?_;(first|(refine Az rfl rfl ?_;refine Cs rfl rfl ?_)|refine AC rfl rfl rfl rfl ?_))<;>(refine AA rfl ?_;(first|(refine Az rfl rfl ?_;refine Bq rfl rfl ?_)|refine AC rfl rfl rfl rfl ?_))<;>(refine AA rfl ?_;(first|(refine Az rfl rfl ?_;(first|refine BY (fun _ _=>CF rfl rfl) rfl (by omega) ?_|refine BZ (fun _ _=>CF rfl rfl) rfl (by omega) ?_|refine Be (fun _ _=>CF rfl rfl) rfl (fun _=>?_) (fun _=>?_)))|refine AC rfl rfl rfl rfl ?_))<;>(first|refine CU rfl rfl rfl rfl ?_|refine CL rfl rfl rfl rfl ?_)<;>refine AJ rfl rfl rfl ?_<;>(refine AA rfl ?_;(first|(refine Az rfl rfl ?_;refine Cs rfl rfl ?_)|refine AC rfl rfl rfl rfl ?_))<;>(refine AA rfl ?_;(first|(refine Az rfl rfl ?_;refine Bq rfl rfl ?_)|refine AC rfl rfl rfl rfl ?_))<;>(refine AA rfl ?_;(first|(refine Az rfl rfl ?_;refine Cc rfl rfl ?_)|refine AC rfl rfl rfl rfl ?_))<;>(refine AA rfl ?_;(first|(refine Az rfl rfl ?_;refine Cs rfl rfl ?_)|refine AC rfl rfl rfl rfl ?_))<;>(refine AA rfl ?_;(first|(refine Az rfl rfl ?_;refine Bq rfl rfl ?_)|refine AC rfl rfl rfl rfl ?_))<;>(refine AA rfl ?_;(first|(refine Az rfl rfl ?_;refine Gj rfl rfl rfl ?_)|refine AC rfl rfl rfl rfl ?_))<;>(refine AA rfl ?_;(first|(refine Az rfl rfl ?_;refine Bq rfl rfl ?_)|refine AC rfl rfl rfl rfl ?_))<;>(refine AA rfl ?_;(first|(refine Az rfl rfl ?_;(first|refine BY (fun _ _=>Bf rfl rfl) rfl (by omega) ?_|refine BZ (fun _ _=>Bf rfl rfl) rfl (by omega) ?_|refine Be (fun _ _=>Bf rfl rfl) rfl (fun _=>?_) (fun _=>?_)))|refine AC rfl rfl rfl rfl ?_))<;>(first|refine CU rfl rfl rfl rfl ?_|refine CL rfl rfl rfl rfl ?_)<;>refine AJ rfl rfl rfl ?_<;>(refine AA rfl ?_;(first|(refine Az rfl rfl ?_;refine Cc rfl rfl ?_)|refine AC rfl rfl rfl rfl ?_))<;>(refine AA rfl ?_;(first|(refine Az rfl rfl ?_;(first|refine BY (fun _ _=>Fa rfl rfl) rfl (by omega) ?_|refine BZ (fun _ _=>Fa rfl rfl) rfl (by omega) ?_|refine Be (fun _ _=>Fa rfl rfl) rfl (fun _=>?_) (fun _=>?_)))|refine AC rfl rfl rfl rfl ?_))<;>(refine AA rfl ?_;(first|(refine Az rfl rfl ?_;refine Cc rfl rfl ?_)|refine AC rfl rfl rfl rfl ?_))<;>(refine AA rfl ?_;(first|(refine Az rfl rfl ?_;refine Cc rfl rfl ?_)|refine AC rfl rfl rfl rfl ?_))<;>(refine AA rfl ?_;(first|(refine Az rfl rfl ?_;refine Cc rfl rfl ?_)|refine AC rfl rfl rfl rfl ?_))<;>(refine AA rfl ?_;(first|(refine Az rfl rfl ?_;refine Qb rfl rfl rfl ?_)|refine AC rfl rfl rfl rfl ?_))<;>(refine AA rfl ?_;(first|(refine Az rfl rfl ?_;refine Gj rfl rfl rfl ?_)|refine AC rfl rfl rfl rfl ?_))<;>(refine AA rfl ?_;(first|(refine Az rfl rfl ?_;refine Cs rfl rfl ?_)|refine AC rfl rfl rfl rfl ?_))<;>(refine AA rfl ?_;(first|(refine Az rfl rfl ?_;refine Bq rfl rfl ?_)|refine AC rfl rfl rfl rfl ?_))<;>(refine AA rfl ?_;(first|(refine Az rfl rfl ?_;refine Cs rfl rfl ?_)|refine AC rfl rfl rfl rfl ?_))<;>(refine AA rfl ?_;(first|(refine Az rfl rfl ?_;refine Bq rfl rfl ?_)|refine AC rfl rfl rfl rfl ?_))<;>(refine AA rfl ?_;(first|(refine Az rfl rfl ?_;(first|refine BY (fun _ _=>Bf rfl rfl) rfl (by omega) ?_|refine BZ (fun _ _=>Bf rfl rfl) rfl (by omega) ?_|refine Be (fun _ _=>Bf rfl rfl) rfl (fun _=>?_) (fun _=>?_)))|refine AC rfl rfl rfl rfl ?_))<;>(refine AA rfl ?_;(first|(refine Az rfl rfl ?_;(first|refine MJ rfl rfl rfl ?_|refine OG rfl rfl rfl ?_))|refine AC rfl rfl rfl rfl ?_))<;>(first|refine CU rfl rfl rfl rfl ?_|refine CL rfl rfl rfl rfl ?_)<;>(refine h_z ?_))<;>(repeat (first|refine Aw ?_|refine Ah rfl ?_|refine Ae rfl ?_))
        all_goals first
          | (((first|refine Gx rfl rfl ?_|refine Gw rfl rfl rfl ?_)<;>refine Ar rfl rfl ?_<;>(refine o_z ?_))
             exact ⟨k + 1,⟨rfl,rfl,rfl,rfl,rfl,trivial⟩,⟨hE3,by omega,hh.step hx (hok (by omega) (by omega)) (fun y' _ hy'=>by omega)⟩,by omega⟩)
          | (((repeat (first|refine Aw ?_|refine Ah rfl ?_|refine Ae rfl ?_))<;>(refine Au rfl rfl ?_<;>(refine o_z ?_))<;>(repeat (first|refine Aw ?_|refine Ah rfl ?_|refine Ae rfl ?_)))
             refine ret1 rfl rfl ⟨?_,hE3⟩
             rw [Bd (hno (by omega))])
    · have hno:¬ FactsOk vars f:=fun h=>by
        obtain ⟨h1,h2,y,h3,_⟩:=h.1 k x hx
        have:=BI h3
        omega
      (refine Bc rfl rfl rfl ?_<;>refine Cm rfl rfl rfl ?_<;>(first|refine GD rfl rfl rfl rfl ?_|refine GE rfl rfl rfl rfl ?_|refine FA rfl rfl rfl rfl (fun _=>?_) fun _=>?_)<;>refine AJ rfl rfl rfl ?_<;>(refine AA rfl ?_;(first|(refine Az rfl rfl ?_;refine Cs rfl rfl ?_)|refine AC rfl rfl rfl rfl ?_))<;>(refine AA rfl ?_;(first|(refine Az rfl rfl ?_;refine Bq rfl rfl ?_)|refine AC rfl rfl rfl rfl ?_))<;>(refine AA rfl ?_;(first|(refine Az rfl rfl ?_;refine Cc rfl rfl ?_)|refine AC rfl rfl rfl rfl ?_))<;>(refine AA rfl ?_;(first|(refine Az rfl rfl ?_;refine It rfl rfl ?_)|refine AC rfl rfl rfl rfl ?_))<;>(refine AA rfl ?_;(first|(refine Az rfl rfl ?_;(first|refine BY (fun _ _=>Bf rfl rfl) rfl (by omega) ?_|refine BZ (fun _ _=>Bf rfl rfl) rfl (by omega) ?_|refine Be (fun _ _=>Bf rfl rfl) rfl (fun _=>?_) (fun _=>?_)))|refine AC rfl rfl rfl rfl ?_))<;>(first|refine CU rfl rfl rfl rfl ?_|refine CL rfl rfl rfl rfl ?_)<;>refine AJ rfl rfl rfl ?_<;>(refine AA rfl ?_;(first|(refine Az rfl rfl ?_;refine Cs rfl rfl ?_)|refine AC rfl rfl rfl rfl ?_))<;>(refine AA rfl ?_;(first|(refine Az rfl rfl ?_;refine Bq rfl rfl ?_)|refine AC rfl rfl rfl rfl ?_))<;>(refine AA rfl ?_;(first|(refine Az rfl rfl ?_;(first|refine BY (fun _ _=>CF rfl rfl) rfl (by omega) ?_|refine BZ (fun _ _=>CF rfl rfl) rfl (by omega) ?_|refine Be (fun _ _=>CF rfl rfl) rfl (fun _=>?_) (fun _=>?_)))|refine AC rfl rfl rfl rfl ?_))<;>(first|refine CU rfl rfl rfl rfl ?_|refine CL rfl rfl rfl rfl ?_)<;>refine AJ rfl rfl rfl ?_<;>(refine AA rfl ?_;(first|(refine Az rfl rfl ?_;refine Cs rfl rfl ?_)|refine AC rfl rfl rfl rfl ?_))<;>(refine AA rfl ?_;(first|(refine Az rfl rfl ?_;refine Bq rfl rfl ?_)|refine AC rfl rfl rfl rfl ?_))<;>(refine AA rfl ?_;(first|(refine Az rfl rfl ?_;refine Cc rfl rfl ?_)|refine AC rfl rfl rfl rfl ?_))<;>(refine AA rfl ?_;(first|(refine Az rfl rfl ?_;refine Cs rfl rfl ?_)|refine AC rfl rfl rfl rfl ?_))<;>(refine AA rfl ?_;(first|(refine Az rfl rfl ?_;refine Bq rfl rfl ?_)|refine AC rfl rfl rfl rfl ?_))<;>(refine AA rfl ?_;(first|(refine Az rfl rfl ?_;refine Gj rfl rfl rfl ?_)|refine AC rfl rfl rfl rfl ?_))<;>(refine AA rfl ?_;(first|(refine Az rfl rfl ?_;refine Bq rfl rfl ?_)|refine AC rfl rfl rfl rfl ?_))<;>(refine AA rfl ?_;(first|(refine Az rfl rfl ?_;(first|refine BY (fun _ _=>Bf rfl rfl) rfl (by omega) ?_|refine BZ (fun _ _=>Bf rfl rfl) rfl (by omega) ?_|refine Be (fun _ _=>Bf rfl rfl) rfl (fun _=>?_) (fun _=>?_)))|refine AC rfl rfl rfl rfl ?_))<;>(first|refine CU rfl rfl rfl rfl ?_|refine CL rfl rfl rfl rfl ?_)<;>refine AJ rfl rfl rfl ?_<;>(refine AA rfl ?_;(first|(refine Az rfl rfl ?_;refine Cc rfl rfl ?_)|refine AC rfl rfl rfl rfl ?_))<;>(refine AA rfl ?_;(first|(refine Az rfl rfl ?_;(first|refine BY (fun _ _=>Fa rfl rfl) rfl (by omega) ?_|refine BZ (fun _ _=>Fa rfl rfl) rfl (by omega) ?_|refine Be (fun _ _=>Fa rfl rfl) rfl (fun _=>?_) (fun _=>?_)))|refine AC rfl rfl rfl rfl ?_))<;>(refine AA rfl ?_;(first|(refine Az rfl rfl ?_;refine Cc rfl rfl ?_)|refine AC rfl rfl rfl rfl ?_))<;>(refine AA rfl ?_;(first|(refine Az rfl rfl ?_;refine Cc rfl rfl ?_)|refine AC rfl rfl rfl rfl ?_))<;>(refine AA rfl ?_;(first|(refine Az rfl rfl ?_;refine Cc rfl rfl ?_)|refine AC rfl rfl rfl rfl ?_))<;>(refine AA rfl ?_;(first|(refine Az rfl rfl ?_;refine Qb rfl rfl rfl ?_)|refine AC rfl rfl rfl rfl ?_))<;>(refine AA rfl ?_;(first|(refine Az rfl rfl ?_;refine Gj rfl rfl rfl ?_)|refine AC rfl rfl rfl rfl ?_))<;>(refine AA rfl ?_;(first|(refine Az rfl rfl ?_;refine Cs rfl rfl ?_)|refine AC rfl rfl rfl rfl ?_))<;>(refine AA rfl ?_;(first|(refine Az rfl rfl ?_;refine Bq rfl rfl ?_)|refine AC rfl rfl rfl rfl ?_))<;>(refine AA rfl ?_;(first|(refine Az rfl rfl ?_;refine Cs rfl rfl ?_)|refine AC rfl rfl rfl rfl ?_))<;>(refine AA rfl ?_;(first|(refine Az rfl rfl ?_;refine Bq rfl rfl ?_)|refine AC rfl rfl rfl rfl ?_))<;>(refine AA rfl ?_;(first|(refine Az rfl rfl ?_;(first|refine BY (fun _ _=>Bf rfl rfl) rfl (by omega) ?_|refine BZ (fun _ _=>Bf rfl rfl) rfl (by omega) ?_|refine Be (fun _ _=>Bf rfl rfl) rfl (fun _=>?_) (fun _=>?_)))|refine AC rfl rfl rfl rfl ?_))<;>(refine AA rfl ?_;(first|(refine Az rfl rfl ?_;(first|refine MJ rfl rfl rfl ?_|refine OG rfl rfl rfl ?_))|refine AC rfl rfl rfl rfl ?_))<;>(first|refine CU rfl rfl rfl rfl ?_|refine CL rfl rfl rfl rfl ?_)<;>(refine h_z ?_))<;>(repeat (first|refine Aw ?_|refine Ah rfl ?_|refine Ae rfl ?_))
      all_goals
        ((repeat (first|refine Aw ?_|refine Ah rfl ?_|refine Ae rfl ?_))<;>(refine Au rfl rfl ?_<;>(refine o_z ?_))<;>(repeat (first|refine Aw ?_|refine Ah rfl ?_|refine Ae rfl ?_)))
        refine ret1 rfl rfl ⟨?_,hE3⟩
        rw [Bd hno]
  · ((repeat (first|refine Aw ?_|refine Ah rfl ?_|refine Ae rfl ?_))<;>((first|refine Dj rfl rfl rfl ?_|refine Dk rfl rfl rfl ?_)<;>(refine o_z ?_))<;>(repeat (first|refine Aw ?_|refine Ah rfl ?_|refine Ae rfl ?_))<;>(refine Au rfl rfl ?_<;>(refine o_z ?_))<;>(repeat (first|refine Aw ?_|refine Ah rfl ?_|refine Ae rfl ?_)))
    refine ret1 rfl rfl ⟨?_,hE⟩
    rw [Bo (hh.done (by omega))]
theorem taskFacts {w:World} {vv fv:Value} {vars:List Int} {f:List Fct} (hv:V w vv vars) (hf:V w fv f) :
    Fn Tryz.prog 70 [vv,fv] w fun v w'=>v=.bool (bof (FactsOk vars f))∧Ext w w':=by
  obtain ⟨A,ca,rfl⟩:=hv.form
  obtain ⟨B,cb,rfl⟩:=hf.form
  have hfl:=hf.len
  refine AH Tryz.func70 rfl Tryz.ntmps70 rfl ?_
  ((repeat (first|refine Aw ?_|refine Ah rfl ?_|refine Ae rfl ?_))<;>(refine Au rfl rfl ?_<;>(refine o_z ?_))<;>(repeat (first|refine Aw ?_|refine Ah rfl ?_|refine Ae rfl ?_))<;>(refine Au rfl rfl ?_<;>(refine o_z ?_))<;>(repeat (first|refine Aw ?_|refine Ah rfl ?_|refine Ae rfl ?_))<;>(refine Ar rfl rfl ?_<;>refine AP rfl rfl ?_<;>refine Ar rfl rfl ?_<;>(refine o_z ?_))<;>(repeat (first|refine Aw ?_|refine Ah rfl ?_|refine Ae rfl ?_)))
  refine Fg (X:=Nat×Int) (fun k=>[(0,.slice A vars.length ca),(5,.int .i64 k.2),(8,.slice B f.length cb),(9,.int .i64 (f.length:Int)),(10,.int .i64 (k.1:Int))])
    (fun k w'=>Ext w w'∧k.1≤f.length∧FactsTo vars f k.1∧(k.1=0→k.2=-1)∧∀ y,0 < k.1→f[k.1 - 1]?=some y→y.var=k.2) (fun k=>f.length - k.1) (0,-1) ⟨Below.refl _ _,Nat.zero_le _,⟨fun i _ h=>by simp at h,fun i _ _ h=>by simp at h⟩,fun _=>rfl,fun y h=>by simp at h⟩ ⟨rfl,rfl,rfl,rfl,rfl,trivial⟩ ?_
  rintro ⟨k,m⟩ w1 ⟨hE,hk,hh,hm0,hm⟩
  dsimp only at hk hh hm0 hm ⊢
  by_cases hlt:k < f.length
  · obtain ⟨x,hx⟩:=AF hlt
    obtain ⟨b,o,ce,rfl,hb,_,hd1,rfl,hr1,hr2⟩:=(hf.ext hE).elem hx
    ((repeat (first|refine Aw ?_|refine Ah rfl ?_|refine Ae rfl ?_))<;>((first|refine Dj rfl rfl rfl ?_|refine Dk rfl rfl rfl ?_)<;>(refine o_z ?_))<;>(repeat (first|refine Aw ?_|refine Ah rfl ?_|refine Ae rfl ?_))<;>(refine Dg rfl rfl rfl ?_<;>refine Bk rfl rfl ?_)<;>(repeat (first|refine Aw ?_|refine Ah rfl ?_|refine Ae rfl ?_)))
    refine Cp rfl rfl rfl (by simp [Value.cells,Value.oneCell']) fun w3 hN=>?_
    have hb1:=hN.blk
    have hE3:Ext w w3:=hE.trans' hN.ext
    ((refine o_z ?_))
    repeat (first|refine Aw ?_|refine Ah rfl ?_|refine Ae rfl ?_)
    refine Cr (·=w3) [(0,true),(1,true),(2,true),(3,true),(4,true),(5,true),(6,true),(7,true),(8,true),(9,true),(10,true),(11,true),(12,true),(13,true),(14,true),(15,true),(16,true),(17,true),(18,true),(19,true),(20,true),(21,true),(22,true),(23,true),(24,true),(25,true)] (by kernel_rfl) rfl (by kernel_rfl) rfl ?_
    have hm1:0 < k→∃ z,f[k - 1]?=some z∧z.var=m:=fun h0=>by
      obtain ⟨z,hz⟩:=AF (l:=f) (k:=k - 1) (by omega)
      exact ⟨z,hz,hm z h0 hz⟩
    have hge:0 < k→0≤m:=fun h0=>by
      obtain ⟨z,hz,he⟩:=hm1 h0
      have:=(hh.1 (k - 1) z (by omega) hz).1
      omega
    have hge':-1≤m:=by
      by_cases h0:0 < k
      · have:=hge h0;omega
      · have:=hm0 (by omega);omega
    have hno0:¬ m < x.var→¬ FactsOk vars f:=fun h1 h2=>by
      by_cases h0:0 < k
      · obtain ⟨z,hz,he⟩:=hm1 h0
        have:=h2.2 (k - 1) z x hz (by rw [show k - 1 + 1=k from by omega];exact hx)
        omega
      · have:=hm0 (by omega)
        have:=(h2.1 k x hx).1
        omega
    by_cases hvr:0≤x.var∧x.var < vars.length
    · obtain ⟨j,hj1⟩:=Int.eq_ofNat_of_zero_le hvr.1
      obtain ⟨y,hy⟩:=AF (l:=vars) (k:=j) (by omega)
      obtain ⟨b2,o2,ce2,rfl,_,_,hd2,rfl,_⟩:=(hv.ext hE3).elem hy
      have hjy:vars[x.var.toNat]?=some y:=by rw [hj1];simpa using hy
      have hok:0≤x.val→x.val < y→FactOk vars x:=fun h1 h2=>⟨hvr.1,h1,y,hjy,h2⟩
      have hno:¬ (0≤x.val∧x.val < y)→¬ FactsOk vars f:=fun h1 h2=>h1 (by
        obtain ⟨_,h3,y',h4,h5⟩:=h2.1 k x hx
        rw [hjy] at h4;injection h4 with h4;subst h4;exact ⟨h3,h5⟩)
      (refine Bc rfl rfl rfl ?_<;>refine Cm rfl rfl rfl ?_<;>refine AJ rfl rfl rfl ?_<;>(first|refine QJ rfl rfl rfl rfl ?_|refine QK rfl rfl rfl rfl ?_|refine QL rfl rfl rfl rfl (fun _=>?_) fun _=>?_)<;>refine AJ rfl rfl rfl ?_<;>(refine AA rfl ?_;(first|(refine Az rfl rfl ?_;refine Cs rfl rfl ?_)|refine AC rfl rfl rfl rfl ?_))<;>(refine AA rfl ?_;(first|(refine Az rfl rfl ?_;refine Bq rfl rfl ?_)|refine AC rfl rfl rfl rfl ?_))<;>(refine AA rfl ?_;(first|(refine Az rfl rfl ?_;refine Cc rfl rfl ?_)|refine AC rfl rfl rfl rfl ?_))<;>(refine AA rfl ?_;(first|(refine Az rfl rfl ?_;refine It rfl rfl ?_)|refine AC rfl rfl rfl rfl ?_))<;>(refine AA rfl ?_;(first|(refine Az rfl rfl ?_;(first|refine BY (fun _ _=>Bf rfl rfl) rfl (by omega) ?_|refine BZ (fun _ _=>Bf rfl rfl) rfl (by omega) ?_|refine Be (fun _ _=>Bf rfl rfl) rfl (fun _=>?_) (fun _=>?_)))|refine AC rfl rfl rfl rfl ?_))<;>(first|refine CU rfl rfl rfl rfl ?_|refine CL rfl rfl rfl rfl ?_)<;>refine AJ rfl rfl rfl ?_<;>(refine AA rfl ?_;(first|(refine Az rfl rfl ?_;refine Cs rfl rfl ?_)|refine AC rfl rfl rfl rfl ?_))<;>(refine AA rfl ?_;(first|(refine Az rfl rfl ?_;refine Bq rfl rfl ?_)|refine AC rfl rfl rfl rfl ?_))<;>(refine AA rfl ?_;(first|(refine Az rfl rfl ?_;(first|refine BY (fun _ _=>CF rfl rfl) rfl (by omega) ?_|refine BZ (fun _ _=>CF rfl rfl) rfl (by omega) ?_|refine Be (fun _ _=>CF rfl rfl) rfl (fun _=>?_) (fun _=>?_)))|refine AC rfl rfl rfl rfl ?_))<;>(first|refine CU rfl rfl rfl rfl ?_|refine CL rfl rfl rfl rfl ?_)<;>refine AJ rfl rfl rfl ?_<;>(refine AA rfl ?_;(first|(refine Az rfl rfl ?_;refine Cs rfl rfl ?_)|refine AC rfl rfl rfl rfl ?_))<;>(refine AA rfl ?_;(first|(refine Az rfl rfl ?_;refine Bq rfl rfl ?_)|refine AC rfl rfl rfl rfl ?_))<;>(refine AA rfl ?_;(first|(refine Az rfl rfl ?_;refine Cc rfl rfl ?_)|refine AC rfl rfl rfl rfl ?_))<;>(refine AA rfl ?_;(first|(refine Az rfl rfl ?_;refine Cs rfl rfl ?_)|refine AC rfl rfl rfl rfl ?_))<;>(refine AA rfl ?_;(first|(refine Az rfl rfl ?_;refine Bq rfl rfl ?_)|refine AC rfl rfl rfl rfl ?_))<;>(refine AA rfl ?_;(first|(refine Az rfl rfl ?_;refine Gj rfl rfl rfl ?_)|refine AC rfl rfl rfl rfl ?_))<;>(refine AA rfl ?_;(first|(refine Az rfl rfl ?_;refine Bq rfl rfl ?_)|refine AC rfl rfl rfl rfl ?_))<;>(refine AA rfl ?_;(first|(refine Az rfl rfl ?_;(first|refine BY (fun _ _=>Bf rfl rfl) rfl (by omega) ?_|refine BZ (fun _ _=>Bf rfl rfl) rfl (by omega) ?_|refine Be (fun _ _=>Bf rfl rfl) rfl (fun _=>?_) (fun _=>?_)))|refine AC rfl rfl rfl rfl ?_))<;>(first|refine CU rfl rfl rfl rfl ?_|refine CL rfl rfl rfl rfl ?_)<;>(refine h_z ?_))<;>(repeat (first|refine Aw ?_|refine Ah rfl ?_|refine Ae rfl ?_))
      all_goals try (
        ((repeat (first|refine Aw ?_|refine Ah rfl ?_|refine Ae rfl ?_))<;>(refine Au rfl rfl ?_<;>(refine o_z ?_))<;>(repeat (first|refine Aw ?_|refine Ah rfl ?_|refine Ae rfl ?_)))
        refine ret1 rfl rfl ⟨?_,hE3⟩
        first|rw [Bd (hno (by omega))]|rw [Bd (hno0 (by omega))])
      ((repeat (first|refine Aw ?_|refine Ah rfl ?_|refine Ae rfl ?_))<;>(refine AG rfl rfl ?_<;>refine AE rfl rfl ?_<;>refine Au rfl rfl ?_<;>(refine o_z ?_))<;>(repeat (first|refine Aw ?_|refine Ah rfl ?_|refine Ae rfl ?_)))
      ((first|refine Gx rfl rfl ?_|refine Gw rfl rfl rfl ?_)<;>refine Ar rfl rfl ?_<;>(refine o_z ?_))
      refine ⟨(k + 1,x.var),⟨rfl,rfl,rfl,rfl,rfl,trivial⟩,⟨hE3,hlt,hh.step hx (hok (by omega) (by omega)) (fun y' h0 hy'=>by have:=hm y' h0 hy';omega),fun h=>absurd h (Nat.succ_ne_zero k),fun y' _ hy'=>?_⟩,Nat.sub_lt_sub_left hlt (Nat.lt_succ_self k)⟩
      rw [show k + 1 - 1=k from rfl,hx] at hy'
      exact congrArg Fct.var (Option.some.inj hy').symm
    · have hno:¬ FactsOk vars f:=fun h=>by
        obtain ⟨h1,h2,y,h3,_⟩:=h.1 k x hx
        have:=BI h3
        omega
      (refine Bc rfl rfl rfl ?_<;>refine Cm rfl rfl rfl ?_<;>refine AJ rfl rfl rfl ?_<;>(first|refine QJ rfl rfl rfl rfl ?_|refine QK rfl rfl rfl rfl ?_|refine QL rfl rfl rfl rfl (fun _=>?_) fun _=>?_)<;>refine AJ rfl rfl rfl ?_<;>(refine AA rfl ?_;(first|(refine Az rfl rfl ?_;refine Cs rfl rfl ?_)|refine AC rfl rfl rfl rfl ?_))<;>(refine AA rfl ?_;(first|(refine Az rfl rfl ?_;refine Bq rfl rfl ?_)|refine AC rfl rfl rfl rfl ?_))<;>(refine AA rfl ?_;(first|(refine Az rfl rfl ?_;refine Cc rfl rfl ?_)|refine AC rfl rfl rfl rfl ?_))<;>(refine AA rfl ?_;(first|(refine Az rfl rfl ?_;refine It rfl rfl ?_)|refine AC rfl rfl rfl rfl ?_))<;>(refine AA rfl ?_;(first|(refine Az rfl rfl ?_;(first|refine BY (fun _ _=>Bf rfl rfl) rfl (by omega) ?_|refine BZ (fun _ _=>Bf rfl rfl) rfl (by omega) ?_|refine Be (fun _ _=>Bf rfl rfl) rfl (fun _=>?_) (fun _=>?_)))|refine AC rfl rfl rfl rfl ?_))<;>(first|refine CU rfl rfl rfl rfl ?_|refine CL rfl rfl rfl rfl ?_)<;>refine AJ rfl rfl rfl ?_<;>(refine AA rfl ?_;(first|(refine Az rfl rfl ?_;refine Cs rfl rfl ?_)|refine AC rfl rfl rfl rfl ?_))<;>(refine AA rfl ?_;(first|(refine Az rfl rfl ?_;refine Bq rfl rfl ?_)|refine AC rfl rfl rfl rfl ?_))<;>(refine AA rfl ?_;(first|(refine Az rfl rfl ?_;(first|refine BY (fun _ _=>CF rfl rfl) rfl (by omega) ?_|refine BZ (fun _ _=>CF rfl rfl) rfl (by omega) ?_|refine Be (fun _ _=>CF rfl rfl) rfl (fun _=>?_) (fun _=>?_)))|refine AC rfl rfl rfl rfl ?_))<;>(first|refine CU rfl rfl rfl rfl ?_|refine CL rfl rfl rfl rfl ?_)<;>refine AJ rfl rfl rfl ?_<;>(refine AA rfl ?_;(first|(refine Az rfl rfl ?_;refine Cs rfl rfl ?_)|refine AC rfl rfl rfl rfl ?_))<;>(refine AA rfl ?_;(first|(refine Az rfl rfl ?_;refine Bq rfl rfl ?_)|refine AC rfl rfl rfl rfl ?_))<;>(refine AA rfl ?_;(first|(refine Az rfl rfl ?_;refine Cc rfl rfl ?_)|refine AC rfl rfl rfl rfl ?_))<;>(refine AA rfl ?_;(first|(refine Az rfl rfl ?_;refine Cs rfl rfl ?_)|refine AC rfl rfl rfl rfl ?_))<;>(refine AA rfl ?_;(first|(refine Az rfl rfl ?_;refine Bq rfl rfl ?_)|refine AC rfl rfl rfl rfl ?_))<;>(refine AA rfl ?_;(first|(refine Az rfl rfl ?_;refine Gj rfl rfl rfl ?_)|refine AC rfl rfl rfl rfl ?_))<;>(refine AA rfl ?_;(first|(refine Az rfl rfl ?_;refine Bq rfl rfl ?_)|refine AC rfl rfl rfl rfl ?_))<;>(refine AA rfl ?_;(first|(refine Az rfl rfl ?_;(first|refine BY (fun _ _=>Bf rfl rfl) rfl (by omega) ?_|refine BZ (fun _ _=>Bf rfl rfl) rfl (by omega) ?_|refine Be (fun _ _=>Bf rfl rfl) rfl (fun _=>?_) (fun _=>?_)))|refine AC rfl rfl rfl rfl ?_))<;>(first|refine CU rfl rfl rfl rfl ?_|refine CL rfl rfl rfl rfl ?_)<;>(refine h_z ?_))<;>(repeat (first|refine Aw ?_|refine Ah rfl ?_|refine Ae rfl ?_))
      all_goals
        ((repeat (first|refine Aw ?_|refine Ah rfl ?_|refine Ae rfl ?_))<;>(refine Au rfl rfl ?_<;>(refine o_z ?_))<;>(repeat (first|refine Aw ?_|refine Ah rfl ?_|refine Ae rfl ?_)))
        refine ret1 rfl rfl ⟨?_,hE3⟩
        rw [Bd hno]
  · ((repeat (first|refine Aw ?_|refine Ah rfl ?_|refine Ae rfl ?_))<;>((first|refine Dj rfl rfl rfl ?_|refine Dk rfl rfl rfl ?_)<;>(refine o_z ?_))<;>(repeat (first|refine Aw ?_|refine Ah rfl ?_|refine Ae rfl ?_))<;>(refine Au rfl rfl ?_<;>(refine o_z ?_))<;>(repeat (first|refine Aw ?_|refine Ah rfl ?_|refine Ae rfl ?_)))
    refine ret1 rfl rfl ⟨?_,hE⟩
    rw [Bo (hh.done (by omega))]
def NameOk (s:ByteArray):Prop:=s.size≤256∧∀ (i:Nat) (h:i < s.size),32≤(s[i]'h).toNat∧(s[i]'h).toNat≤126
theorem taskNamed {w:World} {s:ByteArray} (hs:s.size≤9223372036854775807) :
    Fn Tryz.prog 71 [.string s] w fun v w'=>v=.bool (bof (NameOk s))∧Ext w w':=by
  refine AH Tryz.func71 rfl Tryz.ntmps71 rfl ?_
  ((repeat (first|refine Aw ?_|refine Ah rfl ?_|refine Ae rfl ?_))<;>(refine Au rfl rfl ?_<;>(refine o_z ?_))<;>(repeat (first|refine Aw ?_|refine Ah rfl ?_|refine Ae rfl ?_))<;>(refine Ar rfl rfl ?_<;>refine Jo rfl rfl ?_<;>refine Ar rfl rfl ?_<;>(refine o_z ?_))<;>(repeat (first|refine Aw ?_|refine Ah rfl ?_|refine Ae rfl ?_)))
  refine Fg (fun k:Nat=>[(0,.string s),(5,.int .i64 (s.size:Int)),(6,.int .i64 (k:Int))])
    (fun k w'=>w'=w∧k≤s.size∧∀ (i:Nat) (h:i < s.size),i < k→32≤(s[i]'h).toNat∧(s[i]'h).toNat≤126) (fun k=>s.size - k) 0 ⟨rfl,Nat.zero_le _,fun i _ h=>by omega⟩ ⟨rfl,rfl,rfl,trivial⟩ ?_
  rintro k _ ⟨rfl,hk,hh⟩
  by_cases hlt:k < s.size
  · ((repeat (first|refine Aw ?_|refine Ah rfl ?_|refine Ae rfl ?_))<;>((first|refine Dj rfl rfl rfl ?_|refine Dk rfl rfl rfl ?_)<;>(refine o_z ?_))<;>(repeat (first|refine Aw ?_|refine Ah rfl ?_|refine Ae rfl ?_))<;>(refine Ar rfl rfl ?_<;>refine Au rfl rfl ?_<;>(refine o_z ?_))<;>(repeat (first|refine Aw ?_|refine Ah rfl ?_|refine Ae rfl ?_))<;>(refine Ar rfl rfl ?_<;>refine Ar rfl rfl ?_<;>refine OD rfl rfl rfl (by omega) ?_<;>(first|refine Dj rfl rfl rfl ?_|refine Dk rfl rfl rfl ?_|refine DM rfl rfl rfl (fun _=>?_) fun _=>?_)<;>refine Ar rfl rfl ?_<;>(first|(refine Ay rfl rfl ?_;refine Ar rfl rfl ?_)|refine At rfl rfl rfl rfl ?_)<;>(first|(refine Ay rfl rfl ?_;refine Ar rfl rfl ?_)|refine At rfl rfl rfl rfl ?_)<;>(first|(refine Ay rfl rfl ?_;refine OD rfl rfl rfl (by omega) ?_)|refine At rfl rfl rfl rfl ?_)<;>(first|(refine Ay rfl rfl ?_;(first|refine DS rfl rfl rfl ?_|refine DT rfl rfl rfl ?_|refine Ce rfl rfl rfl (fun _=>?_) fun _=>?_))|refine At rfl rfl rfl rfl ?_)<;>(first|refine AX rfl rfl rfl ?_|refine AT rfl rfl rfl ?_)<;>(refine o_z ?_))<;>(repeat (first|refine Aw ?_|refine Ah rfl ?_|refine Ae rfl ?_)))
    all_goals first
      | (((first|refine Gx rfl rfl ?_|refine Gw rfl rfl rfl ?_)<;>refine Ar rfl rfl ?_<;>(refine o_z ?_))
         refine ⟨k + 1,⟨rfl,rfl,rfl,trivial⟩,⟨rfl,by omega,fun i h hi=>?_⟩,by omega⟩
         by_cases he:i=k
         · subst he;omega
         · exact hh i h (by omega))
      | (((repeat (first|refine Aw ?_|refine Ah rfl ?_|refine Ae rfl ?_))<;>(refine Au rfl rfl ?_<;>(refine o_z ?_))<;>(repeat (first|refine Aw ?_|refine Ah rfl ?_|refine Ae rfl ?_)))
         refine ret1 rfl rfl ⟨?_,Below.refl _ _⟩
         rw [Bd (fun h=>by have:=h.2 k hlt;omega)])
  · by_cases h256:s.size≤256
    · ((repeat (first|refine Aw ?_|refine Ah rfl ?_|refine Ae rfl ?_))<;>((first|refine Dj rfl rfl rfl ?_|refine Dk rfl rfl rfl ?_)<;>(refine o_z ?_))<;>(repeat (first|refine Aw ?_|refine Ah rfl ?_|refine Ae rfl ?_))<;>(refine Ar rfl rfl ?_<;>refine Jo rfl rfl ?_<;>(first|refine Ms rfl rfl rfl ?_|refine Mt rfl rfl rfl ?_)<;>refine Au rfl rfl ?_<;>(refine o_z ?_))<;>(repeat (first|refine Aw ?_|refine Ah rfl ?_|refine Ae rfl ?_)))
      refine ret1 rfl rfl ⟨?_,Below.refl _ _⟩
      rw [Bo ⟨h256,fun i h=>hh i h (by omega)⟩]
    · ((repeat (first|refine Aw ?_|refine Ah rfl ?_|refine Ae rfl ?_))<;>((first|refine Dj rfl rfl rfl ?_|refine Dk rfl rfl rfl ?_)<;>(refine o_z ?_))<;>(repeat (first|refine Aw ?_|refine Ah rfl ?_|refine Ae rfl ?_))<;>(refine Ar rfl rfl ?_<;>refine Jo rfl rfl ?_<;>(first|refine Ms rfl rfl rfl ?_|refine Mt rfl rfl rfl ?_)<;>refine Au rfl rfl ?_<;>(refine o_z ?_))<;>(repeat (first|refine Aw ?_|refine Ah rfl ?_|refine Ae rfl ?_)))
      refine ret1 rfl rfl ⟨?_,Below.refl _ _⟩
      rw [Bd (fun h=>h256 h.1)]
end
section
open Go Go.RowKit
attribute [local irreducible] ewp owp hwp hwq hws Ev Evg Fn retPost loud loudS Res1
theorem Fi {vars:List Int} {x:Fct}:FactsOk vars [x]↔FactOk vars x:=by
  constructor
  · intro h;exact h.1 0 x rfl
  · intro h
    refine ⟨fun i y hy=>?_,fun i y z _ hz=>by simp at hz⟩
    cases i with
    | zero=>simp at hy;exact hy ▸ h
    | succ i=>simp at hy
def EffOk (vars:List Int) (e:Eff):Prop:=FactsOk vars e.cond∧FactOk vars ⟨e.var,e.val⟩
def OpOk (vars:List Int) (o:Opr):Prop:=0≤o.cost∧o.cost≤1048576∧o.effs.length≤64∧NameOk o.name∧FactsOk vars o.pre∧∀ (i:Nat) e,o.effs[i]?=some e→EffOk vars e
def TaskOk (t:Tsk):Prop:=t.vars.length≤64∧t.ops.length≤4096∧(∀ (i:Nat) n,t.vars[i]?=some n→1≤n∧n≤64)∧StateOk t.vars t.init∧FactsOk t.vars t.goal∧∀ (i:Nat) o,t.ops[i]?=some o→OpOk t.vars o
theorem CR {p:Nat→Prop} {k:Nat} (h:∀ i,i < k→p i) (hk:p k):∀ i,i < k + 1→p i:=fun i hi=>by
  by_cases he:i=k
  · subst he;exact hk
  · exact h i (by omega)
theorem baseOperator {w:World} {vv ov:Value} {vars:List Int} {o:Opr} (hv:V w vv vars) (ho:V w ov o) :
    Fn Tryz.prog 75 [vv,ov] w fun v w'=>v=.bool (bof (OpOk vars o))∧Ext w w':=by
  obtain ⟨Av,cv,rfl⟩:=hv.form
  obtain ⟨cs,rfl,p,q,rfl,hp,hq,hc,hn⟩:=ho
  obtain ⟨Ap,cp,rfl⟩:=hp.form
  obtain ⟨Aq,cq,rfl⟩:=hq.form
  have hql:=hq.len
  refine AH Tryz.func75 rfl Tryz.ntmps75 rfl ?_
  repeat (first|refine Aw ?_|refine Ah rfl ?_|refine Ae rfl ?_)
  refine DL rfl rfl fun w1 hN=>?_
  have hb1:=hN.blk
  have hE1:Ext w w1:=hN.ext
  (refine Au rfl rfl ?_<;>(refine o_z ?_))
  repeat (first|refine Aw ?_|refine Ah rfl ?_|refine Ae rfl ?_)
  (refine AG rfl rfl ?_<;>refine AE rfl rfl ?_<;>(first|refine Dj rfl rfl rfl ?_|refine Dk rfl rfl rfl ?_|refine DM rfl rfl rfl (fun _=>?_) fun _=>?_)<;>refine Ar rfl rfl ?_<;>(first|(refine Ay rfl rfl ?_;refine AG rfl rfl ?_)|refine At rfl rfl rfl rfl ?_)<;>(first|(refine Ay rfl rfl ?_;refine AE rfl rfl ?_)|refine At rfl rfl rfl rfl ?_)<;>(first|(refine Ay rfl rfl ?_;(first|refine DS rfl rfl rfl ?_|refine DT rfl rfl rfl ?_|refine Ce rfl rfl rfl (fun _=>?_) fun _=>?_))|refine At rfl rfl rfl rfl ?_)<;>(first|refine AX rfl rfl rfl ?_|refine AT rfl rfl rfl ?_)<;>refine Ar rfl rfl ?_<;>(first|(refine Ay rfl rfl ?_;refine AG rfl rfl ?_)|refine At rfl rfl rfl rfl ?_)<;>(first|(refine Ay rfl rfl ?_;refine AE rfl rfl ?_)|refine At rfl rfl rfl rfl ?_)<;>(first|(refine Ay rfl rfl ?_;refine AP rfl rfl ?_)|refine At rfl rfl rfl rfl ?_)<;>(first|(refine Ay rfl rfl ?_;(first|refine DS rfl rfl rfl ?_|refine DT rfl rfl rfl ?_|refine Ce rfl rfl rfl (fun _=>?_) fun _=>?_))|refine At rfl rfl rfl rfl ?_)<;>(first|refine AX rfl rfl rfl ?_|refine AT rfl rfl rfl ?_)<;>refine Ar rfl rfl ?_<;>(first|(refine Ay rfl rfl ?_;refine AG rfl rfl ?_)|refine At rfl rfl rfl rfl ?_)<;>(first|(refine Ay rfl rfl ?_;refine AE rfl rfl ?_)|refine At rfl rfl rfl rfl ?_)<;>(first|(refine Ay rfl rfl ?_;refine Jo rfl rfl ?_)|refine At rfl rfl rfl rfl ?_)<;>(first|(refine Ay rfl rfl ?_;(first|refine DS rfl rfl rfl ?_|refine DT rfl rfl rfl ?_|refine Ce rfl rfl rfl (fun _=>?_) fun _=>?_))|refine At rfl rfl rfl rfl ?_)<;>(first|refine AX rfl rfl rfl ?_|refine AT rfl rfl rfl ?_)<;>refine Ar rfl rfl ?_<;>(first|(refine Ay rfl rfl ?_;refine Ar rfl rfl ?_)|refine At rfl rfl rfl rfl ?_)<;>(first|(refine Ay rfl rfl ?_;refine AG rfl rfl ?_)|refine At rfl rfl rfl rfl ?_)<;>(first|(refine Ay rfl rfl ?_;refine AE rfl rfl ?_)|refine At rfl rfl rfl rfl ?_))
  all_goals try (
    refine At rfl rfl rfl rfl ?_
    ((first|(refine Ay rfl rfl ?_;(first|refine CB rfl rfl ?_|refine CC rfl rfl ?_|refine DB rfl rfl ?_))|refine At rfl rfl rfl rfl ?_)<;>(first|refine AX rfl rfl rfl ?_|refine AT rfl rfl rfl ?_)<;>(refine o_z ?_))
    repeat (first|refine Aw ?_|refine Ah rfl ?_|refine Ae rfl ?_)
    ((repeat (first|refine Aw ?_|refine Ah rfl ?_|refine Ae rfl ?_))<;>(refine Au rfl rfl ?_<;>(refine o_z ?_))<;>(repeat (first|refine Aw ?_|refine Ah rfl ?_|refine Ae rfl ?_)))
    refine ret1 rfl rfl ⟨?_,hE1⟩
    rw [Bd (fun h=>by obtain ⟨h1,h2,h3,⟨h4,_⟩,_⟩:=h;omega)])
  refine Ay rfl rfl ?_
  refine CZ rfl rfl (baseProper (hv.ext hE1) (hp.ext hE1)) ?_ ?_
  case refine_2 =>
    intro w2 hP hE2
    ((first|(refine Ay rfl rfl ?_;(first|refine CB rfl rfl ?_|refine CC rfl rfl ?_|refine DB rfl rfl ?_))|refine At rfl rfl rfl rfl ?_)<;>(first|refine AX rfl rfl rfl ?_|refine AT rfl rfl rfl ?_)<;>(refine o_z ?_))
    repeat (first|refine Aw ?_|refine Ah rfl ?_|refine Ae rfl ?_)
    ((repeat (first|refine Aw ?_|refine Ah rfl ?_|refine Ae rfl ?_))<;>(refine Au rfl rfl ?_<;>(refine o_z ?_))<;>(repeat (first|refine Aw ?_|refine Ah rfl ?_|refine Ae rfl ?_)))
    refine ret1 rfl rfl ⟨?_,hE1.trans' hE2⟩
    rw [Bd (fun h=>hP h.2.2.2.2.1)]
  intro w2 hpre hE2
  replace hb1:=hb1.ext hE2
  have hE2:Ext w w2:=hE1.trans' hE2
  ((first|(refine Ay rfl rfl ?_;(first|refine CB rfl rfl ?_|refine CC rfl rfl ?_|refine DB rfl rfl ?_))|refine At rfl rfl rfl rfl ?_)<;>(first|refine AX rfl rfl rfl ?_|refine AT rfl rfl rfl ?_)<;>(refine o_z ?_))
  repeat (first|refine Aw ?_|refine Ah rfl ?_|refine Ae rfl ?_)
  (refine AG rfl rfl ?_<;>refine AE rfl rfl ?_<;>refine Jo rfl rfl ?_<;>refine Ar rfl rfl ?_<;>(refine o_z ?_))
  repeat (first|refine Aw ?_|refine Ah rfl ?_|refine Ae rfl ?_)
  refine BR o.name.size hn (fun _:Unit=>[(0,.slice Av vars.length cv),(3,.pointer (some ⟨w.heap.size,0,none⟩))]) (fun k _ w'=>w'=w2∧∀ i,i < k→∀ h:i < o.name.size,32≤(o.name[i]'h).toNat∧(o.name[i]'h).toNat≤126) ()
    ⟨rfl,fun i hi=>by omega⟩ ⟨rfl,rfl,rfl,rfl,trivial⟩ (fun _=>⟨rfl,rfl⟩) ⟨rfl,rfl,rfl⟩ ⟨rfl,rfl⟩ ?_ ?_
  · rintro k _ _ hk ⟨rfl,hh⟩
    ((repeat (first|refine Aw ?_|refine Ah rfl ?_|refine Ae rfl ?_))<;>(refine Ar rfl rfl ?_<;>refine Au rfl rfl ?_<;>(refine o_z ?_))<;>(repeat (first|refine Aw ?_|refine Ah rfl ?_|refine Ae rfl ?_))<;>(refine AG rfl rfl ?_<;>refine AE rfl rfl ?_<;>refine Ar rfl rfl ?_<;>refine OD rfl rfl rfl (by omega) ?_<;>(first|refine Dj rfl rfl rfl ?_|refine Dk rfl rfl rfl ?_|refine DM rfl rfl rfl (fun _=>?_) fun _=>?_)<;>refine Ar rfl rfl ?_<;>(first|(refine Ay rfl rfl ?_;refine AG rfl rfl ?_)|refine At rfl rfl rfl rfl ?_)<;>(first|(refine Ay rfl rfl ?_;refine AE rfl rfl ?_)|refine At rfl rfl rfl rfl ?_)<;>(first|(refine Ay rfl rfl ?_;refine Ar rfl rfl ?_)|refine At rfl rfl rfl rfl ?_)<;>(first|(refine Ay rfl rfl ?_;refine OD rfl rfl rfl (by omega) ?_)|refine At rfl rfl rfl rfl ?_)<;>(first|(refine Ay rfl rfl ?_;(first|refine DS rfl rfl rfl ?_|refine DT rfl rfl rfl ?_|refine Ce rfl rfl rfl (fun _=>?_) fun _=>?_))|refine At rfl rfl rfl rfl ?_)<;>(first|refine AX rfl rfl rfl ?_|refine AT rfl rfl rfl ?_)<;>(refine o_z ?_))<;>(repeat (first|refine Aw ?_|refine Ah rfl ?_|refine Ae rfl ?_)))
    all_goals try (
      ((repeat (first|refine Aw ?_|refine Ah rfl ?_|refine Ae rfl ?_))<;>(refine Au rfl rfl ?_<;>(refine o_z ?_))<;>(repeat (first|refine Aw ?_|refine Ah rfl ?_|refine Ae rfl ?_)))
      refine ret1 rfl rfl ⟨?_,hE2⟩
      rw [Bd (fun h=>by have:=h.2.2.2.1.2 k hk;omega)])
    exact ⟨(),⟨rfl,rfl,rfl,rfl,trivial⟩,rfl,CR hh fun _=>by omega⟩
  rintro _ _ ⟨rfl,hname⟩
  have hnok:NameOk o.name:=⟨by omega,fun i h=>hname i h h⟩
  repeat (first|refine Aw ?_|refine Ah rfl ?_|refine Ae rfl ?_)
  ((repeat (first|refine Aw ?_|refine Ah rfl ?_|refine Ae rfl ?_))<;>(refine AG rfl rfl ?_<;>refine AE rfl rfl ?_<;>refine AP rfl rfl ?_<;>refine Ar rfl rfl ?_<;>(refine o_z ?_))<;>(repeat (first|refine Aw ?_|refine Ah rfl ?_|refine Ae rfl ?_)))
  refine BR o.effs.length (by omega) (fun _:Unit=>[(0,.slice Av vars.length cv),(3,.pointer (some ⟨w.heap.size,0,none⟩)),(55,.slice Aq o.effs.length cq)]) (fun k _ w'=>Ext w w'∧∀ i,i < k→∀ e,o.effs[i]?=some e→EffOk vars e) ()
    ⟨hE2,fun i hi=>by omega⟩ ⟨rfl,rfl,rfl,rfl,rfl,trivial⟩ (fun _=>⟨rfl,rfl⟩) ⟨rfl,rfl,rfl⟩ ⟨rfl,rfl⟩ ?_ ?_
  · rintro k _ w3 hk ⟨hE3,hh⟩
    obtain ⟨e,he⟩:=AF hk
    obtain ⟨b2,o2,ce,rfl,_,_,hd1,cv',rfl,hcond,hr1,hr2⟩:=(hq.ext hE3).elem he
    obtain ⟨Ac,cc,rfl⟩:=hcond.form
    ((repeat (first|refine Aw ?_|refine Ah rfl ?_|refine Ae rfl ?_))<;>(refine Dg rfl rfl rfl ?_<;>refine Bk rfl rfl ?_)<;>(repeat (first|refine Aw ?_|refine Ah rfl ?_|refine Ae rfl ?_)))
    refine Cp rfl rfl rfl (by simp [Value.cells,Value.oneCell']) fun w4 hN4=>?_
    have hb2:=hN4.blk
    have hE4:Ext w w4:=hE3.trans' hN4.ext
    ((refine o_z ?_))
    repeat (first|refine Aw ?_|refine Ah rfl ?_|refine Ae rfl ?_)
    (refine Ar rfl rfl ?_<;>refine AG rfl rfl ?_<;>refine AE rfl rfl ?_)
    refine CZ rfl rfl (baseProper (hv.ext hE4) (hcond.ext hN4.ext)) ?_ ?_
    case refine_2 =>
      intro w5 hP hE5
      ((first|refine CB rfl rfl ?_|refine CC rfl rfl ?_|refine DB rfl rfl ?_)<;>refine Ar rfl rfl ?_<;>(first|(refine Ay rfl rfl ?_;refine Ar rfl rfl ?_)|refine At rfl rfl rfl rfl ?_)<;>(first|(refine Ay rfl rfl ?_;refine AG rfl rfl ?_)|refine At rfl rfl rfl rfl ?_)<;>(first|(refine Ay rfl rfl ?_;refine AE rfl rfl ?_)|refine At rfl rfl rfl rfl ?_)<;>(first|(refine Ay rfl rfl ?_;refine AG rfl rfl ?_)|refine At rfl rfl rfl rfl ?_)<;>(first|(refine Ay rfl rfl ?_;refine AE rfl rfl ?_)|refine At rfl rfl rfl rfl ?_)<;>(first|(refine Ay rfl rfl ?_;refine Cw rfl rfl rfl ?_)|refine At rfl rfl rfl rfl ?_))
      refine At rfl rfl rfl rfl ?_
      refine At rfl rfl rfl rfl ?_
      ((first|(refine Ay rfl rfl ?_;(first|refine CB rfl rfl ?_|refine CC rfl rfl ?_|refine DB rfl rfl ?_))|refine At rfl rfl rfl rfl ?_)<;>(first|refine AX rfl rfl rfl ?_|refine AT rfl rfl rfl ?_)<;>(refine o_z ?_))
      repeat (first|refine Aw ?_|refine Ah rfl ?_|refine Ae rfl ?_)
      ((repeat (first|refine Aw ?_|refine Ah rfl ?_|refine Ae rfl ?_))<;>(refine Au rfl rfl ?_<;>(refine o_z ?_))<;>(repeat (first|refine Aw ?_|refine Ah rfl ?_|refine Ae rfl ?_)))
      refine ret1 rfl rfl ⟨?_,hE4.trans' hE5⟩
      rw [Bd (fun h=>hP (h.2.2.2.2.2 k e he).1)]
    intro w5 hcok hE5
    replace hb2:=hb2.ext hE5
    ((first|refine CB rfl rfl ?_|refine CC rfl rfl ?_|refine DB rfl rfl ?_)<;>refine Ar rfl rfl ?_<;>(first|(refine Ay rfl rfl ?_;refine Ar rfl rfl ?_)|refine At rfl rfl rfl rfl ?_)<;>(first|(refine Ay rfl rfl ?_;refine AG rfl rfl ?_)|refine At rfl rfl rfl rfl ?_)<;>(first|(refine Ay rfl rfl ?_;refine AE rfl rfl ?_)|refine At rfl rfl rfl rfl ?_)<;>(first|(refine Ay rfl rfl ?_;refine AG rfl rfl ?_)|refine At rfl rfl rfl rfl ?_)<;>(first|(refine Ay rfl rfl ?_;refine AE rfl rfl ?_)|refine At rfl rfl rfl rfl ?_)<;>(first|(refine Ay rfl rfl ?_;refine Cw rfl rfl rfl ?_)|refine At rfl rfl rfl rfl ?_))
    refine Ay rfl rfl ?_
    refine DX rfl rfl rfl (by simp [Value.cells];rfl) (by decide) rfl fun w6 hN6=>?_
    have hE6:Ext w w6:=hE4.trans' (hE5.trans' hN6.ext)
    refine Ay rfl rfl ?_
    have hone:V w6 (.slice (some ⟨w5.heap.size,0,none⟩) 1 1) [(⟨e.var,e.val⟩:Fct)] :=
      .of_slice ⟨_,1,[.int .i64 e.var,.int .i64 e.val],rfl,Nat.le_refl _,by omega,.single ⟨rfl,hr1,hr2⟩,fun _=>⟨_,_,rfl,hN6.blk.lt,hN6.blk.cellsAt⟩⟩
    refine CZ rfl rfl (baseProper (hv.ext hE6) hone) ?_ ?_
    case refine_2 =>
      intro w7 hP hE7
      ((first|(refine Ay rfl rfl ?_;(first|refine CB rfl rfl ?_|refine CC rfl rfl ?_|refine DB rfl rfl ?_))|refine At rfl rfl rfl rfl ?_)<;>(first|refine AX rfl rfl rfl ?_|refine AT rfl rfl rfl ?_)<;>(refine o_z ?_))
      repeat (first|refine Aw ?_|refine Ah rfl ?_|refine Ae rfl ?_)
      ((repeat (first|refine Aw ?_|refine Ah rfl ?_|refine Ae rfl ?_))<;>(refine Au rfl rfl ?_<;>(refine o_z ?_))<;>(repeat (first|refine Aw ?_|refine Ah rfl ?_|refine Ae rfl ?_)))
      refine ret1 rfl rfl ⟨?_,hE6.trans' hE7⟩
      rw [Bd (fun h=>hP (Fi.2 (h.2.2.2.2.2 k e he).2))]
    intro w7 hfok hE7
    ((first|(refine Ay rfl rfl ?_;(first|refine CB rfl rfl ?_|refine CC rfl rfl ?_|refine DB rfl rfl ?_))|refine At rfl rfl rfl rfl ?_)<;>(first|refine AX rfl rfl rfl ?_|refine AT rfl rfl rfl ?_)<;>(refine o_z ?_))
    repeat (first|refine Aw ?_|refine Ah rfl ?_|refine Ae rfl ?_)
    exact ⟨(),⟨rfl,rfl,rfl,rfl,rfl,trivial⟩,hE6.trans' hE7,CR hh fun e' he'=>by
      rw [he] at he';injection he' with he';subst he';exact ⟨hcok,Fi.1 hfok⟩⟩
  rintro _ w3 ⟨hE3,hh⟩
  repeat (first|refine Aw ?_|refine Ah rfl ?_|refine Ae rfl ?_)
  ((repeat (first|refine Aw ?_|refine Ah rfl ?_|refine Ae rfl ?_))<;>(refine Au rfl rfl ?_<;>(refine o_z ?_))<;>(repeat (first|refine Aw ?_|refine Ah rfl ?_|refine Ae rfl ?_)))
  refine ret1 rfl rfl ⟨?_,hE3⟩
  rw [Bo ⟨by omega,by omega,by omega,hnok,hpre,fun i e he=>hh i (BI he) e he⟩]
theorem baseGood {w:World} {tv:Value} {t:Tsk} (ht:V w tv t) :
    Fn Tryz.prog 49 [tv] w fun v w'=>v=.bool (bof (TaskOk t))∧Ext w w':=by
  obtain ⟨cs,rfl,a,b,c,d,rfl,hvars,hinit,hgoal,hops⟩:=ht
  obtain ⟨Av,cv,rfl⟩:=hvars.form
  obtain ⟨Ai,ci,rfl⟩:=hinit.form
  obtain ⟨Ag,cg,rfl⟩:=hgoal.form
  obtain ⟨Ao,co,rfl⟩:=hops.form
  have hvl:=hvars.len
  have hol:=hops.len
  refine AH Tryz.func49 rfl Tryz.ntmps49 rfl ?_
  repeat (first|refine Aw ?_|refine Ah rfl ?_|refine Ae rfl ?_)
  refine DL rfl rfl fun w1 hN=>?_
  have hb1:=hN.blk
  have hE1:Ext w w1:=hN.ext
  (refine Au rfl rfl ?_<;>(refine o_z ?_))
  repeat (first|refine Aw ?_|refine Ah rfl ?_|refine Ae rfl ?_)
  ((repeat (first|refine Aw ?_|refine Ah rfl ?_|refine Ae rfl ?_))<;>(refine AG rfl rfl ?_<;>refine AE rfl rfl ?_<;>refine AP rfl rfl ?_<;>(first|refine DS rfl rfl rfl ?_|refine DT rfl rfl rfl ?_|refine Ce rfl rfl rfl (fun _=>?_) fun _=>?_)<;>refine Ar rfl rfl ?_<;>(first|(refine Ay rfl rfl ?_;refine AG rfl rfl ?_)|refine At rfl rfl rfl rfl ?_)<;>(first|(refine Ay rfl rfl ?_;refine AE rfl rfl ?_)|refine At rfl rfl rfl rfl ?_)<;>(first|(refine Ay rfl rfl ?_;refine AP rfl rfl ?_)|refine At rfl rfl rfl rfl ?_)<;>(first|(refine Ay rfl rfl ?_;(first|refine DS rfl rfl rfl ?_|refine DT rfl rfl rfl ?_|refine Ce rfl rfl rfl (fun _=>?_) fun _=>?_))|refine At rfl rfl rfl rfl ?_)<;>(first|refine AX rfl rfl rfl ?_|refine AT rfl rfl rfl ?_)<;>(refine o_z ?_))<;>(repeat (first|refine Aw ?_|refine Ah rfl ?_|refine Ae rfl ?_)))
  all_goals try (
    ((repeat (first|refine Aw ?_|refine Ah rfl ?_|refine Ae rfl ?_))<;>(refine Au rfl rfl ?_<;>(refine o_z ?_))<;>(repeat (first|refine Aw ?_|refine Ah rfl ?_|refine Ae rfl ?_)))
    refine ret1 rfl rfl ⟨?_,hE1⟩
    rw [Bd (fun h=>by obtain ⟨h1,h2,_⟩:=h;omega)])
  (refine AG rfl rfl ?_<;>refine AE rfl rfl ?_<;>refine AP rfl rfl ?_<;>refine Ar rfl rfl ?_<;>(refine o_z ?_))
  repeat (first|refine Aw ?_|refine Ah rfl ?_|refine Ae rfl ?_)
  refine BR t.vars.length (by omega) (fun _:Unit=>[(1,.pointer (some ⟨w.heap.size,0,none⟩)),(18,.slice Av t.vars.length cv)]) (fun k _ w'=>w'=w1∧∀ i,i < k→∀ n,t.vars[i]?=some n→1≤n∧n≤64) ()
    ⟨rfl,fun i hi=>by omega⟩ ⟨rfl,rfl,rfl,rfl,trivial⟩ (fun _=>⟨rfl,rfl⟩) ⟨rfl,rfl,rfl⟩ ⟨rfl,rfl⟩ ?_ ?_
  · rintro k _ _ hk ⟨rfl,hh⟩
    obtain ⟨n,hn⟩:=AF hk
    obtain ⟨b2,o2,ce,rfl,_,_,hd1,rfl,_⟩:=(hvars.ext hE1).elem hn
    ((repeat (first|refine Aw ?_|refine Ah rfl ?_|refine Ae rfl ?_))<;>(refine Dg rfl rfl rfl ?_<;>refine AE rfl rfl ?_<;>refine Au rfl rfl ?_<;>(refine o_z ?_))<;>(repeat (first|refine Aw ?_|refine Ah rfl ?_|refine Ae rfl ?_))<;>(refine Ar rfl rfl ?_<;>(first|refine Dj rfl rfl rfl ?_|refine Dk rfl rfl rfl ?_|refine DM rfl rfl rfl (fun _=>?_) fun _=>?_)<;>refine Ar rfl rfl ?_<;>(first|(refine Ay rfl rfl ?_;refine Ar rfl rfl ?_)|refine At rfl rfl rfl rfl ?_)<;>(first|(refine Ay rfl rfl ?_;(first|refine DS rfl rfl rfl ?_|refine DT rfl rfl rfl ?_|refine Ce rfl rfl rfl (fun _=>?_) fun _=>?_))|refine At rfl rfl rfl rfl ?_)<;>(first|refine AX rfl rfl rfl ?_|refine AT rfl rfl rfl ?_)<;>(refine o_z ?_))<;>(repeat (first|refine Aw ?_|refine Ah rfl ?_|refine Ae rfl ?_)))
    all_goals try (
      ((repeat (first|refine Aw ?_|refine Ah rfl ?_|refine Ae rfl ?_))<;>(refine Au rfl rfl ?_<;>(refine o_z ?_))<;>(repeat (first|refine Aw ?_|refine Ah rfl ?_|refine Ae rfl ?_)))
      refine ret1 rfl rfl ⟨?_,hE1⟩
      rw [Bd (fun h=>by have:=h.2.2.1 k n hn;omega)])
    exact ⟨(),⟨rfl,rfl,rfl,rfl,trivial⟩,rfl,CR hh fun n' hn'=>by rw [hn] at hn';injection hn' with hn';omega⟩
  rintro _ _ ⟨rfl,hdom⟩
  repeat (first|refine Aw ?_|refine Ah rfl ?_|refine Ae rfl ?_)
  (refine AG rfl rfl ?_<;>refine AE rfl rfl ?_<;>refine AG rfl rfl ?_<;>refine AE rfl rfl ?_)
  refine CZ rfl rfl (baseState (hvars.ext hE1) (hinit.ext hE1)) ?_ ?_
  case refine_2 =>
    intro w2 hP hE2
    ((first|refine CB rfl rfl ?_|refine CC rfl rfl ?_|refine DB rfl rfl ?_)<;>refine Ar rfl rfl ?_<;>(first|(refine Ay rfl rfl ?_;refine AG rfl rfl ?_)|refine At rfl rfl rfl rfl ?_)<;>(first|(refine Ay rfl rfl ?_;refine AE rfl rfl ?_)|refine At rfl rfl rfl rfl ?_)<;>(first|(refine Ay rfl rfl ?_;refine AG rfl rfl ?_)|refine At rfl rfl rfl rfl ?_)<;>(first|(refine Ay rfl rfl ?_;refine AE rfl rfl ?_)|refine At rfl rfl rfl rfl ?_))
    refine At rfl rfl rfl rfl ?_
    ((first|(refine Ay rfl rfl ?_;(first|refine CB rfl rfl ?_|refine CC rfl rfl ?_|refine DB rfl rfl ?_))|refine At rfl rfl rfl rfl ?_)<;>(first|refine AX rfl rfl rfl ?_|refine AT rfl rfl rfl ?_)<;>(refine o_z ?_))
    repeat (first|refine Aw ?_|refine Ah rfl ?_|refine Ae rfl ?_)
    ((repeat (first|refine Aw ?_|refine Ah rfl ?_|refine Ae rfl ?_))<;>(refine Au rfl rfl ?_<;>(refine o_z ?_))<;>(repeat (first|refine Aw ?_|refine Ah rfl ?_|refine Ae rfl ?_)))
    refine ret1 rfl rfl ⟨?_,hE1.trans' hE2⟩
    rw [Bd (fun h=>hP h.2.2.2.1)]
  intro w2 hst hE2
  replace hb1:=hb1.ext hE2
  replace hE2:Ext w w2:=hE1.trans' hE2
  ((first|refine CB rfl rfl ?_|refine CC rfl rfl ?_|refine DB rfl rfl ?_)<;>refine Ar rfl rfl ?_<;>(first|(refine Ay rfl rfl ?_;refine AG rfl rfl ?_)|refine At rfl rfl rfl rfl ?_)<;>(first|(refine Ay rfl rfl ?_;refine AE rfl rfl ?_)|refine At rfl rfl rfl rfl ?_)<;>(first|(refine Ay rfl rfl ?_;refine AG rfl rfl ?_)|refine At rfl rfl rfl rfl ?_)<;>(first|(refine Ay rfl rfl ?_;refine AE rfl rfl ?_)|refine At rfl rfl rfl rfl ?_))
  refine Ay rfl rfl ?_
  refine CZ rfl rfl (baseProper (hvars.ext hE2) (hgoal.ext hE2)) ?_ ?_
  case refine_2 =>
    intro w3 hP hE3
    ((first|(refine Ay rfl rfl ?_;(first|refine CB rfl rfl ?_|refine CC rfl rfl ?_|refine DB rfl rfl ?_))|refine At rfl rfl rfl rfl ?_)<;>(first|refine AX rfl rfl rfl ?_|refine AT rfl rfl rfl ?_)<;>(refine o_z ?_))
    repeat (first|refine Aw ?_|refine Ah rfl ?_|refine Ae rfl ?_)
    ((repeat (first|refine Aw ?_|refine Ah rfl ?_|refine Ae rfl ?_))<;>(refine Au rfl rfl ?_<;>(refine o_z ?_))<;>(repeat (first|refine Aw ?_|refine Ah rfl ?_|refine Ae rfl ?_)))
    refine ret1 rfl rfl ⟨?_,hE2.trans' hE3⟩
    rw [Bd (fun h=>hP h.2.2.2.2.1)]
  intro w3 hgo hE3
  replace hb1:=hb1.ext hE3
  replace hE3:Ext w w3:=hE2.trans' hE3
  ((first|(refine Ay rfl rfl ?_;(first|refine CB rfl rfl ?_|refine CC rfl rfl ?_|refine DB rfl rfl ?_))|refine At rfl rfl rfl rfl ?_)<;>(first|refine AX rfl rfl rfl ?_|refine AT rfl rfl rfl ?_)<;>(refine o_z ?_))
  repeat (first|refine Aw ?_|refine Ah rfl ?_|refine Ae rfl ?_)
  ((repeat (first|refine Aw ?_|refine Ah rfl ?_|refine Ae rfl ?_))<;>(refine AG rfl rfl ?_<;>refine AE rfl rfl ?_<;>refine AP rfl rfl ?_<;>refine Ar rfl rfl ?_<;>(refine o_z ?_))<;>(repeat (first|refine Aw ?_|refine Ah rfl ?_|refine Ae rfl ?_)))
  refine BR t.ops.length (by omega) (fun _:Unit=>[(1,.pointer (some ⟨w.heap.size,0,none⟩)),(46,.slice Ao t.ops.length co)]) (fun k _ w'=>Ext w3 w'∧∀ i,i < k→∀ o,t.ops[i]?=some o→OpOk t.vars o) ()
    ⟨Below.refl _ _,fun i hi=>by omega⟩ ⟨rfl,rfl,rfl,rfl,trivial⟩ (fun _=>⟨rfl,rfl⟩) ⟨rfl,rfl,rfl⟩ ⟨rfl,rfl⟩ ?_ ?_
  · rintro k _ w4 hk ⟨hE4,hh⟩
    obtain ⟨o,ho⟩:=AF hk
    replace hb1:=hb1.ext hE4
    have hE34:=hE4
    replace hE4:Ext w w4:=hE3.trans' hE4
    obtain ⟨b2,o2,ce,rfl,_,_,hd1,hRo⟩:=(hops.ext hE4).elem ho
    obtain ⟨p,q,rfl,hp,hq,hc,hn⟩:=id hRo
    obtain ⟨Ap,cp,rfl⟩:=hp.form
    obtain ⟨Aq,cq,rfl⟩:=hq.form
    ((repeat (first|refine Aw ?_|refine Ah rfl ?_|refine Ae rfl ?_))<;>(refine Dg rfl rfl rfl ?_<;>refine Bk rfl rfl ?_)<;>(repeat (first|refine Aw ?_|refine Ah rfl ?_|refine Ae rfl ?_)))
    refine Cp rfl rfl rfl (by simp [Value.cells,Value.oneCell']) fun w5 hN5=>?_
    have hb2:=hN5.blk
    replace hb1:=hb1.ext hN5.ext
    have hE5:Ext w w5:=hE4.trans' hN5.ext
    ((refine o_z ?_))
    repeat (first|refine Aw ?_|refine Ah rfl ?_|refine Ae rfl ?_)
    (refine AG rfl rfl ?_<;>refine AE rfl rfl ?_<;>refine Bk rfl rfl ?_)
    have hVo:V w4 (.agg #[.string o.name,.int .i64 o.cost,.slice Ap o.pre.length cp,.slice Aq o.effs.length cq]) o:=⟨_,rfl,hRo⟩
    refine CZ rfl rfl (baseOperator (hvars.ext hE5) (hVo.ext hN5.ext)) ?_ ?_
    · intro w6 hP hE6
      ((first|refine CB rfl rfl ?_|refine CC rfl rfl ?_|refine DB rfl rfl ?_)<;>(refine o_z ?_))
      repeat (first|refine Aw ?_|refine Ah rfl ?_|refine Ae rfl ?_)
      refine ⟨(),⟨rfl,rfl,rfl,rfl,trivial⟩,?_,CR hh fun o' ho'=>by rw [ho] at ho';injection ho' with ho';exact ho' ▸ hP⟩
      exact hE34.trans' (hN5.ext.trans' hE6)
    · intro w6 hP hE6
      ((first|refine CB rfl rfl ?_|refine CC rfl rfl ?_|refine DB rfl rfl ?_)<;>(refine o_z ?_))
      repeat (first|refine Aw ?_|refine Ah rfl ?_|refine Ae rfl ?_)
      ((repeat (first|refine Aw ?_|refine Ah rfl ?_|refine Ae rfl ?_))<;>(refine Au rfl rfl ?_<;>(refine o_z ?_))<;>(repeat (first|refine Aw ?_|refine Ah rfl ?_|refine Ae rfl ?_)))
      refine ret1 rfl rfl ⟨?_,hE5.trans' hE6⟩
      rw [Bd (fun h=>hP (h.2.2.2.2.2 k o ho))]
  rintro _ w4 ⟨hE4,hh⟩
  repeat (first|refine Aw ?_|refine Ah rfl ?_|refine Ae rfl ?_)
  ((repeat (first|refine Aw ?_|refine Ah rfl ?_|refine Ae rfl ?_))<;>(refine Au rfl rfl ?_<;>(refine o_z ?_))<;>(repeat (first|refine Aw ?_|refine Ah rfl ?_|refine Ae rfl ?_)))
  refine ret1 rfl rfl ⟨?_,hE3.trans' hE4⟩
  rw [Bo ⟨by omega,by omega,fun i n hn=>hdom i (BI hn) n hn,hst,hgo,fun i o ho=>hh i (BI ho) o ho⟩]
def manyF (most:Int):List Int→Int→Int
  | [],n=>n
  | k :: r,n=>if most < n * min (max k 0) (most + 1) then most + 1 else manyF most r (n * min (max k 0) (most + 1))
theorem baseMany {w:World} {vv:Value} {vars:List Int} {most:Int} (hv:V w vv vars) (h1:1≤most) (h2:most≤1048576) :
    Fn Tryz.prog 29 [vv,.int .i64 most] w fun v w'=>v=.int .i64 (manyF most vars 1)∧Ext w w':=by
  obtain ⟨A,ca,rfl⟩:=hv.form
  have hvl:=hv.len
  refine AH Tryz.func29 rfl Tryz.ntmps29 rfl ?_
  ((repeat (first|refine Aw ?_|refine Ah rfl ?_|refine Ae rfl ?_))<;>(refine Au rfl rfl ?_<;>(refine o_z ?_))<;>(repeat (first|refine Aw ?_|refine Ah rfl ?_|refine Ae rfl ?_))<;>(refine Au rfl rfl ?_<;>(refine o_z ?_))<;>(repeat (first|refine Aw ?_|refine Ah rfl ?_|refine Ae rfl ?_))<;>(refine Ar rfl rfl ?_<;>refine AP rfl rfl ?_<;>refine Ar rfl rfl ?_<;>(refine o_z ?_))<;>(repeat (first|refine Aw ?_|refine Ah rfl ?_|refine Ae rfl ?_)))
  refine BR vars.length (by omega) (fun n:Int=>[(1,.int .i64 most),(5,.int .i64 n),(8,.slice A vars.length ca)]) (fun k n w'=>w'=w∧0≤n∧n≤most∧manyF most (vars.drop k) n=manyF most vars 1) 1
    ⟨rfl,by omega,h1,rfl⟩ ⟨rfl,rfl,rfl,rfl,rfl,trivial⟩ (fun _=>⟨rfl,rfl⟩) ⟨rfl,rfl,rfl⟩ ⟨rfl,rfl⟩ ?_ ?_
  · rintro k n _ hk ⟨rfl,hn0,hn1,hh⟩
    obtain ⟨x,hx⟩:=AF hk
    obtain ⟨b2,o2,ce,rfl,_,_,hd1,rfl,_⟩:=hv.elem hx
    have hd:vars.drop k=x :: vars.drop (k + 1):=by
      rw [List.drop_eq_getElem_cons hk];congr 1
      rw [List.getElem?_eq_getElem hk] at hx;exact Option.some.inj hx
    rw [hd] at hh
    simp only [manyF] at hh
    have hm0:0≤min (max x 0) (most + 1):=by omega
    have hm1:min (max x 0) (most + 1)≤most + 1:=by omega
    have hp0:0≤n * min (max x 0) (most + 1):=Int.mul_nonneg hn0 hm0
    have hp1:n * min (max x 0) (most + 1)≤1048576 * 1048577:=Int.le_trans (Int.mul_le_mul_of_nonneg_right (Int.le_trans hn1 h2) hm0) (Int.mul_le_mul_of_nonneg_left (by omega) (by omega))
    ((repeat (first|refine Aw ?_|refine Ah rfl ?_|refine Ae rfl ?_))<;>(refine Dg rfl rfl rfl ?_<;>refine AE rfl rfl ?_<;>refine Au rfl rfl ?_<;>(refine o_z ?_))<;>(repeat (first|refine Aw ?_|refine Ah rfl ?_|refine Ae rfl ?_))<;>(refine Ar rfl rfl ?_<;>refine Ar rfl rfl ?_<;>refine QI rfl rfl rfl ?_<;>refine Ar rfl rfl ?_<;>(first|refine Gx rfl rfl ?_|refine Gw rfl rfl rfl ?_)<;>refine QH rfl rfl rfl ?_<;>refine Tw rfl rfl rfl ?_<;>refine Au rfl rfl ?_<;>(refine o_z ?_))<;>(repeat (first|refine Aw ?_|refine Ah rfl ?_|refine Ae rfl ?_))<;>(refine Ar rfl rfl ?_<;>refine Ar rfl rfl ?_<;>(first|refine DS rfl rfl rfl ?_|refine DT rfl rfl rfl ?_|refine Ce rfl rfl rfl (fun _=>?_) fun _=>?_)<;>(refine o_z ?_))<;>(repeat (first|refine Aw ?_|refine Ah rfl ?_|refine Ae rfl ?_)))
    · ((repeat (first|refine Aw ?_|refine Ah rfl ?_|refine Ae rfl ?_))<;>(refine Ar rfl rfl ?_<;>(first|refine Gx rfl rfl ?_|refine Gw rfl rfl rfl ?_)<;>refine Au rfl rfl ?_<;>(refine o_z ?_))<;>(repeat (first|refine Aw ?_|refine Ah rfl ?_|refine Ae rfl ?_)))
      refine ret1 rfl rfl ⟨?_,Below.refl _ _⟩
      rw [if_pos (by assumption)] at hh
      rw [← hh]
    · rw [if_neg (by assumption)] at hh
      exact ⟨n * min (max x 0) (most + 1),⟨rfl,rfl,rfl,rfl,rfl,trivial⟩,rfl,hp0,by omega,hh⟩
  rintro n _ ⟨rfl,_,_,hh⟩
  repeat (first|refine Aw ?_|refine Ah rfl ?_|refine Ae rfl ?_)
  ((repeat (first|refine Aw ?_|refine Ah rfl ?_|refine Ae rfl ?_))<;>(refine Ar rfl rfl ?_<;>refine Au rfl rfl ?_<;>(refine o_z ?_))<;>(repeat (first|refine Aw ?_|refine Ah rfl ?_|refine Ae rfl ?_)))
  refine ret1 rfl rfl ⟨?_,Below.refl _ _⟩
  rw [← hh,List.drop_length];rfl
def SmallOk (t:Tsk):Prop:=t.vars.length≤12∧t.ops.length≤20∧(∀ (i:Nat) o,t.ops[i]?=some o→o.effs.length≤8)∧TaskOk t∧manyF 512 t.vars 1≤512
theorem baseSmall {w:World} {tv:Value} {t:Tsk} (ht:V w tv t) :
    Fn Tryz.prog 28 [tv] w fun v w'=>v=.bool (bof (SmallOk t))∧Ext w w':=by
  have ht0:=ht
  obtain ⟨cs,rfl,a,b,c,d,rfl,hvars,hinit,hgoal,hops⟩:=ht
  obtain ⟨Av,cv,rfl⟩:=hvars.form
  obtain ⟨Ai,ci,rfl⟩:=hinit.form
  obtain ⟨Ag,cg,rfl⟩:=hgoal.form
  obtain ⟨Ao,co,rfl⟩:=hops.form
  have hvl:=hvars.len
  have hol:=hops.len
  refine AH Tryz.func28 rfl Tryz.ntmps28 rfl ?_
  repeat (first|refine Aw ?_|refine Ah rfl ?_|refine Ae rfl ?_)
  refine DL rfl rfl fun w1 hN=>?_
  have hb1:=hN.blk
  have hE1:Ext w w1:=hN.ext
  (refine Au rfl rfl ?_<;>(refine o_z ?_))
  repeat (first|refine Aw ?_|refine Ah rfl ?_|refine Ae rfl ?_)
  ((repeat (first|refine Aw ?_|refine Ah rfl ?_|refine Ae rfl ?_))<;>(refine AG rfl rfl ?_<;>refine AE rfl rfl ?_<;>refine AP rfl rfl ?_<;>(first|refine DS rfl rfl rfl ?_|refine DT rfl rfl rfl ?_|refine Ce rfl rfl rfl (fun _=>?_) fun _=>?_)<;>refine Ar rfl rfl ?_<;>(first|(refine Ay rfl rfl ?_;refine AG rfl rfl ?_)|refine At rfl rfl rfl rfl ?_)<;>(first|(refine Ay rfl rfl ?_;refine AE rfl rfl ?_)|refine At rfl rfl rfl rfl ?_)<;>(first|(refine Ay rfl rfl ?_;refine AP rfl rfl ?_)|refine At rfl rfl rfl rfl ?_)<;>(first|(refine Ay rfl rfl ?_;(first|refine DS rfl rfl rfl ?_|refine DT rfl rfl rfl ?_|refine Ce rfl rfl rfl (fun _=>?_) fun _=>?_))|refine At rfl rfl rfl rfl ?_)<;>(first|refine AX rfl rfl rfl ?_|refine AT rfl rfl rfl ?_)<;>(refine o_z ?_))<;>(repeat (first|refine Aw ?_|refine Ah rfl ?_|refine Ae rfl ?_)))
  all_goals try (
    ((repeat (first|refine Aw ?_|refine Ah rfl ?_|refine Ae rfl ?_))<;>(refine Au rfl rfl ?_<;>(refine o_z ?_))<;>(repeat (first|refine Aw ?_|refine Ah rfl ?_|refine Ae rfl ?_)))
    refine ret1 rfl rfl ⟨?_,hE1⟩
    rw [Bd (fun h=>by obtain ⟨h1,h2,_⟩:=h;omega)])
  ((repeat (first|refine Aw ?_|refine Ah rfl ?_|refine Ae rfl ?_))<;>(refine AG rfl rfl ?_<;>refine AE rfl rfl ?_<;>refine AP rfl rfl ?_<;>refine Ar rfl rfl ?_<;>(refine o_z ?_))<;>(repeat (first|refine Aw ?_|refine Ah rfl ?_|refine Ae rfl ?_)))
  refine BR t.ops.length (by omega) (fun _:Unit=>[(1,.pointer (some ⟨w.heap.size,0,none⟩)),(16,.slice Ao t.ops.length co)]) (fun k _ w'=>Ext w1 w'∧∀ i,i < k→∀ o,t.ops[i]?=some o→o.effs.length≤8) ()
    ⟨Below.refl _ _,fun i hi=>by omega⟩ ⟨rfl,rfl,rfl,rfl,trivial⟩ (fun _=>⟨rfl,rfl⟩) ⟨rfl,rfl,rfl⟩ ⟨rfl,rfl⟩ ?_ ?_
  · rintro k _ w4 hk ⟨hE4,hh⟩
    obtain ⟨o,ho⟩:=AF hk
    obtain ⟨b2,o2,ce,rfl,_,_,hd1,p,q,rfl,hp,hq,hc,hn⟩:=(hops.ext (hE1.trans' hE4)).elem ho
    obtain ⟨Ap,cp,rfl⟩:=hp.form
    obtain ⟨Aq,cq,rfl⟩:=hq.form
    ((repeat (first|refine Aw ?_|refine Ah rfl ?_|refine Ae rfl ?_))<;>(refine Dg rfl rfl rfl ?_<;>refine Bk rfl rfl ?_)<;>(repeat (first|refine Aw ?_|refine Ah rfl ?_|refine Ae rfl ?_)))
    refine Cp rfl rfl rfl (by simp [Value.cells,Value.oneCell']) fun w5 hN5=>?_
    have hb2:=hN5.blk
    have hE5:Ext w1 w5:=hE4.trans' hN5.ext
    ((refine o_z ?_))
    repeat (first|refine Aw ?_|refine Ah rfl ?_|refine Ae rfl ?_)
    ((repeat (first|refine Aw ?_|refine Ah rfl ?_|refine Ae rfl ?_))<;>(refine AG rfl rfl ?_<;>refine AE rfl rfl ?_<;>refine AP rfl rfl ?_<;>(first|refine DS rfl rfl rfl ?_|refine DT rfl rfl rfl ?_|refine Ce rfl rfl rfl (fun _=>?_) fun _=>?_)<;>(refine o_z ?_))<;>(repeat (first|refine Aw ?_|refine Ah rfl ?_|refine Ae rfl ?_)))
    · ((repeat (first|refine Aw ?_|refine Ah rfl ?_|refine Ae rfl ?_))<;>(refine Au rfl rfl ?_<;>(refine o_z ?_))<;>(repeat (first|refine Aw ?_|refine Ah rfl ?_|refine Ae rfl ?_)))
      refine ret1 rfl rfl ⟨?_,hE1.trans' hE5⟩
      rw [Bd (fun h=>by have:=h.2.2.1 k o ho;omega)]
    · exact ⟨(),⟨rfl,rfl,rfl,rfl,trivial⟩,hE5,CR hh fun o' ho'=>by rw [ho] at ho';injection ho' with ho';subst ho';omega⟩
  rintro _ w4 ⟨hE4,hh⟩
  replace hb1:=hb1.ext hE4
  replace hE4:Ext w w4:=hE1.trans' hE4
  repeat (first|refine Aw ?_|refine Ah rfl ?_|refine Ae rfl ?_)
  (refine Bk rfl rfl ?_)
  refine CZ rfl rfl (baseGood (ht0.ext hE4)) ?_ ?_
  · intro w5 hgood hE5
    replace hb1:=hb1.ext hE5
    replace hE5:Ext w w5:=hE4.trans' hE5
    (refine Ar rfl rfl ?_<;>(first|(refine Ay rfl rfl ?_;refine AG rfl rfl ?_)|refine At rfl rfl rfl rfl ?_)<;>(first|(refine Ay rfl rfl ?_;refine AE rfl rfl ?_)|refine At rfl rfl rfl rfl ?_))
    refine Ay rfl rfl ?_
    refine Bu rfl rfl (baseMany (hvars.ext hE5) (by decide) (by decide)) ?_
    rintro _ w6 ⟨rfl,hE6⟩
    ((first|(refine Ay rfl rfl ?_;(first|refine Ms rfl rfl rfl ?_|refine Mt rfl rfl rfl ?_|refine KW rfl rfl rfl (fun _=>?_) fun _=>?_))|refine At rfl rfl rfl rfl ?_)<;>(first|refine AX rfl rfl rfl ?_|refine AT rfl rfl rfl ?_)<;>refine Au rfl rfl ?_<;>(refine o_z ?_))
    all_goals
      repeat (first|refine Aw ?_|refine Ah rfl ?_|refine Ae rfl ?_)
      refine ret1 rfl rfl ⟨?_,hE5.trans' hE6⟩
    · rw [Bo ⟨by omega,by omega,fun i o ho=>hh i (BI ho) o ho,hgood,by assumption⟩]
    · rw [Bd (fun h=>absurd h.2.2.2.2 (by assumption))]
  · intro w5 hgood hE5
    (refine Ar rfl rfl ?_<;>(first|(refine Ay rfl rfl ?_;refine AG rfl rfl ?_)|refine At rfl rfl rfl rfl ?_)<;>(first|(refine Ay rfl rfl ?_;refine AE rfl rfl ?_)|refine At rfl rfl rfl rfl ?_))
    refine At rfl rfl rfl rfl ?_
    ((first|(refine Ay rfl rfl ?_;(first|refine Ms rfl rfl rfl ?_|refine Mt rfl rfl rfl ?_|refine KW rfl rfl rfl (fun _=>?_) fun _=>?_))|refine At rfl rfl rfl rfl ?_)<;>(first|refine AX rfl rfl rfl ?_|refine AT rfl rfl rfl ?_)<;>refine Au rfl rfl ?_<;>(refine o_z ?_))
    repeat (first|refine Aw ?_|refine Ah rfl ?_|refine Ae rfl ?_)
    refine ret1 rfl rfl ⟨?_,hE4.trans' hE5⟩
    rw [Bd (fun h=>hgood h.2.2.2.1)]
end
section
open Go Go.RowKit
attribute [local irreducible] ewp owp hwp hwq hws Ev Evg Fn retPost loud loudS Res1
def opConds (o:Opr):List (List Fct):=o.pre :: o.effs.map (·.cond)
def conds (t:Tsk):List (List Fct):=t.goal :: t.ops.flatMap opConds
theorem LX {α β:Type} (f:α→List β) {l:List α} {k:Nat} {x:α} (h:l[k]?=some x):(l.take (k + 1)).flatMap f=(l.take k).flatMap f ++ f x:=by
  rw [List.take_add_one,h];simp
theorem Qf {α β:Type} (f:α→β) {l:List α} {k:Nat} {x:α} (h:l[k]?=some x):(l.take (k + 1)).map f=(l.take k).map f ++ [f x]:=by
  rw [List.take_add_one,h];simp
theorem Rk {t:Tsk} (h:∀ (i:Nat) o,t.ops[i]?=some o→o.effs.length≤64) (k:Nat):((t.ops.take k).flatMap opConds).length≤k * 65:=by
  induction k with
  | zero=>simp
  | succ k ih =>
    cases hx:t.ops[k]? with
    | none =>
      have hl:=List.getElem?_eq_none_iff.1 hx
      rw [List.take_of_length_le hl] at ih
      rw [List.take_of_length_le (by omega)]
      omega
    | some o =>
      rw [LX opConds hx,List.length_append]
      have:=h k o hx
      simp only [opConds,List.length_cons,List.length_map] at *
      omega
theorem taskConditions {w:World} {tv:Value} {t:Tsk} (ht:V w tv t) (hn:t.ops.length≤4096) (hm:∀ (i:Nat) o,t.ops[i]?=some o→o.effs.length≤64) :
    Fn Tryz.prog 69 [tv] w fun v w'=>V w' v (conds t)∧Ext w w':=by
  obtain ⟨cs,rfl,a,b,c,d,rfl,hvars,hinit,hgoal,hops⟩:=ht
  obtain ⟨Av,cv,rfl⟩:=hvars.form
  obtain ⟨Ai,ci,rfl⟩:=hinit.form
  obtain ⟨Ag,cg,rfl⟩:=hgoal.form
  obtain ⟨Ao,co,rfl⟩:=hops.form
  have hF:∀ {w'},Ext w w'→∀ k,All w k→k < w'.heap.size:=fun hE k hk=>Nat.lt_of_lt_of_le hk hE.size
  refine AH Tryz.func69 rfl Tryz.ntmps69 rfl ?_
  repeat (first|refine Aw ?_|refine Ah rfl ?_|refine Ae rfl ?_)
  refine DL rfl rfl fun w1 hN=>?_
  have hb1:=hN.blk
  have hE1:Ext w w1:=hN.ext
  (refine Au rfl rfl ?_<;>(refine o_z ?_))
  repeat (first|refine Aw ?_|refine Ah rfl ?_|refine Ae rfl ?_)
  (refine AG rfl rfl ?_<;>refine AE rfl rfl ?_)
  refine DX rfl rfl rfl (by simp [Value.cells]) (by decide) rfl fun w2 hN2=>?_
  replace hb1:=hb1.ext hN2.ext
  have hE2:Ext w w2:=hE1.trans' hN2.ext
  have hown:Own w2 w.heap.size (All w) 23 (.slice (some ⟨w1.heap.size,0,none⟩) 1 1) [t.goal] :=
    (Own.made hN2 (xs:=[t.goal]) (.single (Vb.agree hgoal (hE2.agree fun _ h=>h))) rfl (fun h=>by have:w1.heap.size < w.heap.size:=h;have:=hE1.size;omega) (by simp)).lower hE1.size
  (refine Au rfl rfl ?_<;>(refine o_z ?_))
  repeat (first|refine Aw ?_|refine Ah rfl ?_|refine Ae rfl ?_)
  ((repeat (first|refine Aw ?_|refine Ah rfl ?_|refine Ae rfl ?_))<;>(refine AG rfl rfl ?_<;>refine AE rfl rfl ?_<;>refine AP rfl rfl ?_<;>refine Ar rfl rfl ?_<;>(refine o_z ?_))<;>(repeat (first|refine Aw ?_|refine Ah rfl ?_|refine Ae rfl ?_)))
  refine BR t.ops.length (by omega) (fun v:Value=>[(1,.pointer (some ⟨w.heap.size,0,none⟩)),(3,v),(12,.slice Ao t.ops.length co)]) (fun k v w'=>Ext w w'∧Blk w' w.heap.size 26 [.slice Av t.vars.length cv,.slice Ai t.init.length ci,.slice Ag t.goal.length cg,.slice Ao t.ops.length co]∧Own w' w.heap.size (All w) 23 v (t.goal :: (t.ops.take k).flatMap opConds)) _
    ⟨hE2,hb1,hown⟩ ⟨rfl,rfl,rfl,rfl,rfl,trivial⟩ (fun _=>⟨rfl,rfl⟩) ⟨rfl,rfl,rfl⟩ ⟨rfl,rfl⟩ ?_ ?_
  · rintro k v w3 hk ⟨hE3,hb1,hown⟩
    have hlk:=Rk hm k
    obtain ⟨o,ho⟩:=AF hk
    obtain ⟨b2,o2,ce,rfl,_,_,hd1,p,q,rfl,hp,hq,hc,hnm⟩:=Vb.elem (Vb.agree hops (hE3.agree fun _ h=>h)) ho
    obtain ⟨Ap,cp,rfl⟩:=hp.form
    obtain ⟨Aq,cq,rfl⟩:=hq.form
    have hql:=hm k o ho
    ((repeat (first|refine Aw ?_|refine Ah rfl ?_|refine Ae rfl ?_))<;>(refine Dg rfl rfl rfl ?_<;>refine Bk rfl rfl ?_)<;>(repeat (first|refine Aw ?_|refine Ah rfl ?_|refine Ae rfl ?_)))
    refine Cp rfl rfl rfl (by simp [Value.cells,Value.oneCell']) fun w4 hN4=>?_
    have hb2:=hN4.blk
    replace hb1:=hb1.ext hN4.ext
    have hE4:Ext w w4:=hE3.trans' hN4.ext
    replace hown:=hown.ext hN4.ext (hF hE3)
    replace hp:=hp.agree (hN4.ext.agree (hF hE3))
    replace hq:=hq.agree (hN4.ext.agree (hF hE3))
    ((refine o_z ?_))
    repeat (first|refine Aw ?_|refine Ah rfl ?_|refine Ae rfl ?_)
    (refine Ar rfl rfl ?_<;>refine AG rfl rfl ?_<;>refine AE rfl rfl ?_)
    refine FJ rfl rfl rfl hown (hF hE4) hE4.size hp (by decide) (by decide) (by simp only [List.length_cons,List.length_append,List.length_map,List.length_take];omega) (by simp only [List.length_cons,List.length_append,List.length_map,List.length_take];omega) ⟨rfl,rfl⟩ fun v' w5 hown5 hK=>?_
    replace hb1:=hK.blk hb1 (hown.blk_ne hb1 (by decide))
    replace hb2:=hK.blk hb2 (hown.blk_ne hb2 (by decide))
    have hB5:Below w.heap.size w4 w5:=hown.fits (Nat.le_refl _) hE4.size hK
    have hE5:Ext w w5:=hE4.trans hB5
    replace hq:=hq.below hB5
    (refine Au rfl rfl ?_<;>(refine o_z ?_))
    repeat (first|refine Aw ?_|refine Ah rfl ?_|refine Ae rfl ?_)
    ((repeat (first|refine Aw ?_|refine Ah rfl ?_|refine Ae rfl ?_))<;>(refine AG rfl rfl ?_<;>refine AE rfl rfl ?_<;>refine AP rfl rfl ?_<;>refine Ar rfl rfl ?_<;>(refine o_z ?_))<;>(repeat (first|refine Aw ?_|refine Ah rfl ?_|refine Ae rfl ?_)))
    refine BR o.effs.length (by omega) (fun v:Value=>[(1,.pointer (some ⟨w.heap.size,0,none⟩)),(3,v),(12,.slice (some ⟨b2,o2,none⟩) t.ops.length co),(13,.int .i64 (t.ops.length:Int)),(14,.int .i64 (k:Int)),(24,.slice Aq o.effs.length cq)]) (fun j v w'=>Ext w w'∧Blk w' w.heap.size 26 [.slice Av t.vars.length cv,.slice Ai t.init.length ci,.slice Ag t.goal.length cg,.slice (some ⟨b2,o2,none⟩) t.ops.length co]∧Vb w' (All w) (.slice Aq o.effs.length cq) o.effs∧Own w' w.heap.size (All w) 23 v ((t.goal :: (t.ops.take k).flatMap opConds) ++ o.pre :: (o.effs.take j).map (·.cond))) _
      ⟨hE5,hb1,hq,by simpa using hown5⟩ ⟨rfl,rfl,rfl,rfl,rfl,rfl,rfl,rfl,trivial⟩ (fun _=>⟨rfl,rfl⟩) ⟨rfl,rfl,rfl⟩ ⟨rfl,rfl⟩ ?_ ?_
    · rintro j v6 w6 hj ⟨hE6,hb1,hq,hown⟩
      obtain ⟨e,he⟩:=AF hj
      obtain ⟨b3,o3,ce,rfl,_,_,hd1,cv',rfl,hcond,hr1,hr2⟩:=hq.elem he
      obtain ⟨Ac,cc,rfl⟩:=hcond.form
      ((repeat (first|refine Aw ?_|refine Ah rfl ?_|refine Ae rfl ?_))<;>(refine Dg rfl rfl rfl ?_<;>refine Bk rfl rfl ?_)<;>(repeat (first|refine Aw ?_|refine Ah rfl ?_|refine Ae rfl ?_)))
      refine Cp rfl rfl rfl (by simp [Value.cells,Value.oneCell']) fun w7 hN7=>?_
      have hb2:=hN7.blk
      replace hb1:=hb1.ext hN7.ext
      have hE7:Ext w w7:=hE6.trans' hN7.ext
      replace hown:=hown.ext hN7.ext (hF hE6)
      replace hcond:=hcond.agree (hN7.ext.agree (hF hE6))
      replace hq:=hq.agree (hN7.ext.agree (hF hE6))
      ((refine o_z ?_))
      repeat (first|refine Aw ?_|refine Ah rfl ?_|refine Ae rfl ?_)
      (refine Ar rfl rfl ?_<;>refine AG rfl rfl ?_<;>refine AE rfl rfl ?_)
      refine FJ rfl rfl rfl hown (hF hE7) hE7.size hcond (by decide) (by decide) (by simp only [List.length_cons,List.length_append,List.length_map,List.length_take];omega) (by simp only [List.length_cons,List.length_append,List.length_map,List.length_take];omega) ⟨rfl,rfl⟩ fun v' w8 hown8 hK=>?_
      have hB8:Below w.heap.size w7 w8:=hown.fits (Nat.le_refl _) hE7.size hK
      (refine Au rfl rfl ?_<;>(refine o_z ?_))
      exact ⟨v',⟨rfl,rfl,rfl,rfl,rfl,rfl,rfl,rfl,trivial⟩,hE7.trans hB8,hK.blk hb1 (hown.blk_ne hb1 (by decide)),hq.below hB8,by rw [Qf _ he];simpa using hown8⟩
    rintro v6 w6 ⟨hE6,hb1,hq,hown⟩
    repeat (first|refine Aw ?_|refine Ah rfl ?_|refine Ae rfl ?_)
    exact ⟨v6,⟨rfl,rfl,rfl,rfl,rfl,trivial⟩,hE6,hb1,by rw [LX opConds ho];simpa [opConds] using hown⟩
  rintro v w3 ⟨hE3,hb1,hown⟩
  repeat (first|refine Aw ?_|refine Ah rfl ?_|refine Ae rfl ?_)
  ((repeat (first|refine Aw ?_|refine Ah rfl ?_|refine Ae rfl ?_))<;>(refine Ar rfl rfl ?_<;>refine Au rfl rfl ?_<;>(refine o_z ?_))<;>(repeat (first|refine Aw ?_|refine Ah rfl ?_|refine Ae rfl ?_)))
  refine ret1 rfl rfl ⟨?_,hE3⟩
  rw [List.take_length] at hown
  exact hown.vb.mono fun k hk=>by
    rcases hk with hk|hk
    · exact hF hE3 k hk
    · exact (hown.lt k hk).2
theorem indexFuncFacts {w:World} {sv:Value} {xs:List (List Fct)} {g:FuncId} [Callable Tryz.prog g] {caps:List Value} {p:List Fct→Prop} (hs:V w sv xs)
    (hg:∀ v x w',x∈xs→Ext w w'→V w' v x→Fn Tryz.prog g ([v] ++ caps) w' fun r w''=>r=.bool (bof (p x))∧Ext w' w'') :
    Fn Tryz.prog 98 [sv,.func (.func g) #[] caps.toArray] w fun v w'=>((∃ k:Nat,v=.int .i64 (k:Int)∧∃ x∈xs,p x)∨(v=.int .i64 (-1)∧∀ x∈xs,¬ p x))∧Ext w w':=by
  obtain ⟨A,c,rfl⟩:=hs.form
  have hl:=hs.len
  refine AH Tryz.func98 rfl Tryz.ntmps98 rfl ?_
  ((repeat (first|refine Aw ?_|refine Ah rfl ?_|refine Ae rfl ?_))<;>(refine Au rfl rfl ?_<;>(refine o_z ?_))<;>(repeat (first|refine Aw ?_|refine Ah rfl ?_|refine Ae rfl ?_))<;>(refine Ar rfl rfl ?_<;>refine AP rfl rfl ?_<;>refine Ar rfl rfl ?_<;>(refine o_z ?_))<;>(repeat (first|refine Aw ?_|refine Ah rfl ?_|refine Ae rfl ?_)))
  refine BR xs.length (by omega) (fun _:Unit=>[(0,.slice A xs.length c),(1,.func (.func g) #[] caps.toArray)]) (fun k _ w'=>Ext w w'∧∀ i,i < k→∀ x,xs[i]?=some x→¬ p x) ()
    ⟨Below.refl _ _,fun i hi=>by omega⟩ ⟨rfl,rfl,rfl,rfl,trivial⟩ (fun _=>⟨rfl,rfl⟩) ⟨rfl,rfl,rfl⟩ ⟨rfl,rfl⟩ ?_ ?_
  · rintro k _ w1 hk ⟨hE,hh⟩
    obtain ⟨x,hx⟩:=AF hk
    obtain ⟨b,o,ce,rfl,_,_,hd1,hR⟩:=(hs.ext hE).elem hx
    obtain ⟨v,rfl⟩:=List.length_eq_one_iff.1 (Rp.len hR)
    ((repeat (first|refine Aw ?_|refine Ah rfl ?_|refine Ae rfl ?_))<;>(refine Ar rfl rfl ?_<;>refine Au rfl rfl ?_<;>(refine o_z ?_))<;>(repeat (first|refine Aw ?_|refine Ah rfl ?_|refine Ae rfl ?_))<;>(refine Ar rfl rfl ?_<;>refine Ar rfl rfl ?_<;>refine Ar rfl rfl ?_<;>refine Dg rfl rfl rfl ?_<;>refine AE rfl rfl ?_)<;>(repeat (first|refine Aw ?_|refine Ah rfl ?_|refine Ae rfl ?_)))
    refine LR rfl rfl rfl (hg v x w1 (List.mem_of_getElem? hx) hE hR) ?_
    rintro _ w2 ⟨rfl,hE2⟩
    by_cases hp:p x
    · rw [Bo hp]
      ((refine o_z ?_))
      repeat (first|refine Aw ?_|refine Ah rfl ?_|refine Ae rfl ?_)
      ((repeat (first|refine Aw ?_|refine Ah rfl ?_|refine Ae rfl ?_))<;>(refine Ar rfl rfl ?_<;>refine Au rfl rfl ?_<;>(refine o_z ?_))<;>(repeat (first|refine Aw ?_|refine Ah rfl ?_|refine Ae rfl ?_)))
      exact ret1 rfl rfl ⟨.inl ⟨k,rfl,x,List.mem_of_getElem? hx,hp⟩,hE.trans' hE2⟩
    · rw [Bd hp]
      ((refine o_z ?_))
      repeat (first|refine Aw ?_|refine Ah rfl ?_|refine Ae rfl ?_)
      exact ⟨(),⟨rfl,rfl,rfl,rfl,trivial⟩,hE.trans' hE2,CR hh fun x' hx'=>by rw [hx] at hx';injection hx' with hx';exact hx' ▸ hp⟩
  rintro _ w1 ⟨hE,hh⟩
  repeat (first|refine Aw ?_|refine Ah rfl ?_|refine Ae rfl ?_)
  ((repeat (first|refine Aw ?_|refine Ah rfl ?_|refine Ae rfl ?_))<;>(refine Au rfl rfl ?_<;>(refine o_z ?_))<;>(repeat (first|refine Aw ?_|refine Ah rfl ?_|refine Ae rfl ?_)))
  refine ret1 rfl rfl ⟨.inr ⟨rfl,fun x hx=>?_⟩,hE⟩
  obtain ⟨i,hi⟩:=List.getElem?_of_mem hx
  exact hh i (BI hi) x hi
theorem containsFuncFacts {w:World} {sv:Value} {xs:List (List Fct)} {g:FuncId} [Callable Tryz.prog g] {caps:List Value} {p:List Fct→Prop} (hs:V w sv xs)
    (hg:∀ v x w',x∈xs→Ext w w'→V w' v x→Fn Tryz.prog g ([v] ++ caps) w' fun r w''=>r=.bool (bof (p x))∧Ext w' w'') :
    Fn Tryz.prog 85 [sv,.func (.func g) #[] caps.toArray] w fun v w'=>v=.bool (bof (∃ x∈xs,p x))∧Ext w w':=by
  refine AH Tryz.func85 rfl Tryz.ntmps85 rfl ?_
  ((repeat (first|refine Aw ?_|refine Ah rfl ?_|refine Ae rfl ?_))<;>(refine Au rfl rfl ?_<;>(refine o_z ?_))<;>(repeat (first|refine Aw ?_|refine Ah rfl ?_|refine Ae rfl ?_))<;>(refine Ar rfl rfl ?_<;>refine Ar rfl rfl ?_)<;>(repeat (first|refine Aw ?_|refine Ah rfl ?_|refine Ae rfl ?_)))
  refine Bu rfl rfl (indexFuncFacts hs hg) ?_
  rintro v w1 ⟨h,hE⟩
  rcases h with ⟨k,rfl,h⟩|⟨rfl,h⟩
  · ((first|refine KX rfl rfl rfl ?_|refine KY rfl rfl rfl ?_)<;>refine Au rfl rfl ?_<;>(refine o_z ?_))
    repeat (first|refine Aw ?_|refine Ah rfl ?_|refine Ae rfl ?_)
    exact ret1 rfl rfl ⟨by rw [Bo h],hE⟩
  · ((first|refine KX rfl rfl rfl ?_|refine KY rfl rfl rfl ?_)<;>refine Au rfl rfl ?_<;>(refine o_z ?_))
    repeat (first|refine Aw ?_|refine Ah rfl ?_|refine Ae rfl ?_)
    exact ret1 rfl rfl ⟨by rw [Bd (fun ⟨x,hx,hp⟩=>h x hx hp)],hE⟩
theorem taskLarge1 {w:World} {v:Value} {f:List Fct} (hf:V w v f):Fn Tryz.prog 86 ([v] ++ []) w fun r w'=>r=.bool (bof (64 < f.length))∧Ext w w':=by
  obtain ⟨A,c,rfl⟩:=hf.form
  refine AH Tryz.func86 rfl Tryz.ntmps86 rfl ?_
  by_cases h:64 < f.length
  · ((repeat (first|refine Aw ?_|refine Ah rfl ?_|refine Ae rfl ?_))<;>(refine Au rfl rfl ?_<;>(refine o_z ?_))<;>(repeat (first|refine Aw ?_|refine Ah rfl ?_|refine Ae rfl ?_))<;>(refine Ar rfl rfl ?_<;>refine AP rfl rfl ?_<;>(first|refine DS rfl rfl rfl ?_|refine DT rfl rfl rfl ?_)<;>refine Au rfl rfl ?_<;>(refine o_z ?_))<;>(repeat (first|refine Aw ?_|refine Ah rfl ?_|refine Ae rfl ?_)))
    exact ret1 rfl rfl ⟨by rw [Bo h],Below.refl _ _⟩
  · ((repeat (first|refine Aw ?_|refine Ah rfl ?_|refine Ae rfl ?_))<;>(refine Au rfl rfl ?_<;>(refine o_z ?_))<;>(repeat (first|refine Aw ?_|refine Ah rfl ?_|refine Ae rfl ?_))<;>(refine Ar rfl rfl ?_<;>refine AP rfl rfl ?_<;>(first|refine DS rfl rfl rfl ?_|refine DT rfl rfl rfl ?_)<;>refine Au rfl rfl ?_<;>(refine o_z ?_))<;>(repeat (first|refine Aw ?_|refine Ah rfl ?_|refine Ae rfl ?_)))
    exact ret1 rfl rfl ⟨by rw [Bd h],Below.refl _ _⟩
def Large (t:Tsk):Prop:=64 < t.vars.length∨4096 < t.ops.length∨(∃ (i:Nat) (o:Opr),t.ops[i]?=some o∧64 < o.effs.length)∨∃ f∈conds t,64 < f.length
theorem taskLarge {w:World} {tv:Value} {t:Tsk} (ht:V w tv t):Fn Tryz.prog 67 [tv] w fun v w'=>v=.bool (bof (Large t))∧Ext w w':=by
  have ht0:=ht
  obtain ⟨cs,rfl,a,b,c,d,rfl,hvars,hinit,hgoal,hops⟩:=ht
  obtain ⟨Av,cv,rfl⟩:=hvars.form
  obtain ⟨Ai,ci,rfl⟩:=hinit.form
  obtain ⟨Ag,cg,rfl⟩:=hgoal.form
  obtain ⟨Ao,co,rfl⟩:=hops.form
  have hol:=hops.len
  refine AH Tryz.func67 rfl Tryz.ntmps67 rfl ?_
  repeat (first|refine Aw ?_|refine Ah rfl ?_|refine Ae rfl ?_)
  refine DL rfl rfl fun w1 hN=>?_
  have hb1:=hN.blk
  have hE1:Ext w w1:=hN.ext
  (refine Au rfl rfl ?_<;>(refine o_z ?_))
  repeat (first|refine Aw ?_|refine Ah rfl ?_|refine Ae rfl ?_)
  ((repeat (first|refine Aw ?_|refine Ah rfl ?_|refine Ae rfl ?_))<;>(refine AG rfl rfl ?_<;>refine AE rfl rfl ?_<;>refine AP rfl rfl ?_<;>(first|refine DS rfl rfl rfl ?_|refine DT rfl rfl rfl ?_|refine Ce rfl rfl rfl (fun _=>?_) fun _=>?_)<;>refine Ar rfl rfl ?_<;>(first|(refine Ay rfl rfl ?_;refine AG rfl rfl ?_)|refine At rfl rfl rfl rfl ?_)<;>(first|(refine Ay rfl rfl ?_;refine AE rfl rfl ?_)|refine At rfl rfl rfl rfl ?_)<;>(first|(refine Ay rfl rfl ?_;refine AP rfl rfl ?_)|refine At rfl rfl rfl rfl ?_)<;>(first|(refine Ay rfl rfl ?_;(first|refine DS rfl rfl rfl ?_|refine DT rfl rfl rfl ?_|refine Ce rfl rfl rfl (fun _=>?_) fun _=>?_))|refine At rfl rfl rfl rfl ?_)<;>(first|refine AX rfl rfl rfl ?_|refine AT rfl rfl rfl ?_)<;>(refine o_z ?_))<;>(repeat (first|refine Aw ?_|refine Ah rfl ?_|refine Ae rfl ?_)))
  all_goals try (
    ((repeat (first|refine Aw ?_|refine Ah rfl ?_|refine Ae rfl ?_))<;>(refine Au rfl rfl ?_<;>(refine o_z ?_))<;>(repeat (first|refine Aw ?_|refine Ah rfl ?_|refine Ae rfl ?_)))
    refine ret1 rfl rfl ⟨?_,hE1⟩
    rw [Bo (by first|exact .inl (by omega)|exact .inr (.inl (by omega)))])
  ((repeat (first|refine Aw ?_|refine Ah rfl ?_|refine Ae rfl ?_))<;>(refine AG rfl rfl ?_<;>refine AE rfl rfl ?_<;>refine AP rfl rfl ?_<;>refine Ar rfl rfl ?_<;>(refine o_z ?_))<;>(repeat (first|refine Aw ?_|refine Ah rfl ?_|refine Ae rfl ?_)))
  refine BR t.ops.length (by omega) (fun _:Unit=>[(1,.pointer (some ⟨w.heap.size,0,none⟩)),(16,.slice Ao t.ops.length co)]) (fun k _ w'=>Ext w1 w'∧∀ i,i < k→∀ o,t.ops[i]?=some o→o.effs.length≤64) ()
    ⟨Below.refl _ _,fun i hi=>by omega⟩ ⟨rfl,rfl,rfl,rfl,trivial⟩ (fun _=>⟨rfl,rfl⟩) ⟨rfl,rfl,rfl⟩ ⟨rfl,rfl⟩ ?_ ?_
  · rintro k _ w4 hk ⟨hE4,hh⟩
    obtain ⟨o,ho⟩:=AF hk
    obtain ⟨b2,o2,ce,rfl,_,_,hd1,p,q,rfl,hp,hq,hc,hn⟩:=(hops.ext (hE1.trans' hE4)).elem ho
    obtain ⟨Ap,cp,rfl⟩:=hp.form
    obtain ⟨Aq,cq,rfl⟩:=hq.form
    ((repeat (first|refine Aw ?_|refine Ah rfl ?_|refine Ae rfl ?_))<;>(refine Dg rfl rfl rfl ?_<;>refine Bk rfl rfl ?_)<;>(repeat (first|refine Aw ?_|refine Ah rfl ?_|refine Ae rfl ?_)))
    refine Cp rfl rfl rfl (by simp [Value.cells,Value.oneCell']) fun w5 hN5=>?_
    have hb2:=hN5.blk
    have hE5:Ext w1 w5:=hE4.trans' hN5.ext
    ((refine o_z ?_))
    repeat (first|refine Aw ?_|refine Ah rfl ?_|refine Ae rfl ?_)
    ((repeat (first|refine Aw ?_|refine Ah rfl ?_|refine Ae rfl ?_))<;>(refine AG rfl rfl ?_<;>refine AE rfl rfl ?_<;>refine AP rfl rfl ?_<;>(first|refine DS rfl rfl rfl ?_|refine DT rfl rfl rfl ?_|refine Ce rfl rfl rfl (fun _=>?_) fun _=>?_)<;>(refine o_z ?_))<;>(repeat (first|refine Aw ?_|refine Ah rfl ?_|refine Ae rfl ?_)))
    · ((repeat (first|refine Aw ?_|refine Ah rfl ?_|refine Ae rfl ?_))<;>(refine Au rfl rfl ?_<;>(refine o_z ?_))<;>(repeat (first|refine Aw ?_|refine Ah rfl ?_|refine Ae rfl ?_)))
      refine ret1 rfl rfl ⟨?_,hE1.trans' hE5⟩
      rw [Bo (.inr (.inr (.inl ⟨k,o,ho,by omega⟩)))]
    · exact ⟨(),⟨rfl,rfl,rfl,rfl,trivial⟩,hE5,CR hh fun o' ho'=>by rw [ho] at ho';injection ho' with ho';subst ho';omega⟩
  rintro _ w4 ⟨hE4,hh⟩
  replace hb1:=hb1.ext hE4
  replace hE4:Ext w w4:=hE1.trans' hE4
  have hm:∀ (i:Nat) o,t.ops[i]?=some o→o.effs.length≤64:=fun i o ho=>hh i (BI ho) o ho
  repeat (first|refine Aw ?_|refine Ah rfl ?_|refine Ae rfl ?_)
  (refine Bk rfl rfl ?_)
  refine Bu rfl rfl (taskConditions (ht0.ext hE4) (by omega) hm) ?_
  rintro v5 w5 ⟨hv5,hE5⟩
  refine Bu rfl rfl (containsFuncFacts (p:=fun f=>64 < f.length) (caps:=[]) hv5 (fun v x w' _ _ hx=>taskLarge1 hx)) ?_
  rintro v6 w6 ⟨rfl,hE6⟩
  (refine Au rfl rfl ?_<;>(refine o_z ?_))
  repeat (first|refine Aw ?_|refine Ah rfl ?_|refine Ae rfl ?_)
  refine ret1 rfl rfl ⟨?_,hE4.trans' (hE5.trans' hE6)⟩
  congr 1
  refine Gh ⟨fun h=>.inr (.inr (.inr h)),fun h=>?_⟩
  rcases h with h|h|⟨i,o,ho,h⟩|h
  · omega
  · omega
  · have:=hm i o ho;omega
  · exact h
end
section
open Go Go.RowKit
attribute [local irreducible] ewp owp hwp hwq hws Ev Evg Fn retPost loud loudS Res1
def VarsOk (t:Tsk):Prop:=∀ (i:Nat) n,t.vars[i]?=some n→1≤n∧n≤64
def CostsOk (t:Tsk):Prop:=∀ (i:Nat) o,t.ops[i]?=some o→0≤o.cost∧o.cost≤1048576
def CondsOk (t:Tsk):Prop:=∀ (i:Nat) f,(conds t)[i]?=some f→FactsOk t.vars f
def EffsOk (t:Tsk):Prop:=∀ (i:Nat) o,t.ops[i]?=some o→∀ (j:Nat) e,o.effs[j]?=some e→FactOk t.vars ⟨e.var,e.val⟩
def NamesOk (t:Tsk):Prop:=∀ (i:Nat) o,t.ops[i]?=some o→NameOk o.name
noncomputable def checkN (t:Tsk):Int :=
  if bof (Large t)=true then 5 else if bof (VarsOk t∧CostsOk t)=false then 1 else if bof (StateOk t.vars t.init∧CondsOk t∧EffsOk t)=false then 2 else if bof (NamesOk t)=false then 8 else 0
theorem taskCheck {w:World} {tv:Value} {t:Tsk} (ht:V w tv t):Fn Tryz.prog 40 [tv] w fun v w'=>v=errV (checkN t)∧Ext w w':=by
  have ht0:=ht
  obtain ⟨cs,rfl,a,b,c,d,rfl,hvars,hinit,hgoal,hops⟩:=ht
  obtain ⟨Av,cv,rfl⟩:=hvars.form
  obtain ⟨Ai,ci,rfl⟩:=hinit.form
  obtain ⟨Ag,cg,rfl⟩:=hgoal.form
  obtain ⟨Ao,co,rfl⟩:=hops.form
  have hvl:=hvars.len
  have hol:=hops.len
  refine AH Tryz.func40 rfl Tryz.ntmps40 rfl ?_
  repeat (first|refine Aw ?_|refine Ah rfl ?_|refine Ae rfl ?_)
  refine DL rfl rfl fun w1 hN=>?_
  have hb1:=hN.blk
  have hE1:Ext w w1:=hN.ext
  (refine Au rfl rfl ?_<;>(refine o_z ?_))
  repeat (first|refine Aw ?_|refine Ah rfl ?_|refine Ae rfl ?_)
  (refine Bk rfl rfl ?_)
  refine CZ rfl rfl (taskLarge (ht0.ext hE1)) ?_ ?_
  case refine_1 =>
    intro w2 hP hE2
    ((refine o_z ?_))
    repeat (first|refine Aw ?_|refine Ah rfl ?_|refine Ae rfl ?_)
    ((repeat (first|refine Aw ?_|refine Ah rfl ?_|refine Ae rfl ?_))<;>(refine Kw rfl rfl ?_<;>refine Au rfl rfl ?_<;>(refine o_z ?_))<;>(repeat (first|refine Aw ?_|refine Ah rfl ?_|refine Ae rfl ?_)))
    refine ret1 rfl rfl ⟨?_,hE1.trans' hE2⟩
    rw [checkN,Bo hP];rfl
  intro w2 hlarge hE2
  replace hb1:=hb1.ext hE2
  replace hE2:Ext w w2:=hE1.trans' hE2
  have hm:∀ (i:Nat) o,t.ops[i]?=some o→o.effs.length≤64:=fun i o ho=>Nat.le_of_not_lt fun h=>hlarge (.inr (.inr (.inl ⟨i,o,ho,h⟩)))
  have hn4:t.ops.length≤4096:=Nat.le_of_not_lt fun h=>hlarge (.inr (.inl h))
  have c1:checkN t=if bof (VarsOk t∧CostsOk t)=false then 1 else if bof (StateOk t.vars t.init∧CondsOk t∧EffsOk t)=false then 2 else if bof (NamesOk t)=false then 8 else 0:=by rw [checkN,Bd hlarge];rfl
  ((refine o_z ?_))
  repeat (first|refine Aw ?_|refine Ah rfl ?_|refine Ae rfl ?_)
  ((repeat (first|refine Aw ?_|refine Ah rfl ?_|refine Ae rfl ?_))<;>(refine AG rfl rfl ?_<;>refine AE rfl rfl ?_<;>refine AP rfl rfl ?_<;>refine Ar rfl rfl ?_<;>(refine o_z ?_))<;>(repeat (first|refine Aw ?_|refine Ah rfl ?_|refine Ae rfl ?_)))
  refine BR t.vars.length (by omega) (fun _:Unit=>[(1,.pointer (some ⟨w.heap.size,0,none⟩)),(19,.slice Av t.vars.length cv)]) (fun k _ w'=>w'=w2∧∀ i,i < k→∀ n,t.vars[i]?=some n→1≤n∧n≤64) ()
    ⟨rfl,fun i hi=>by omega⟩ ⟨rfl,rfl,rfl,rfl,trivial⟩ (fun _=>⟨rfl,rfl⟩) ⟨rfl,rfl,rfl⟩ ⟨rfl,rfl⟩ ?_ ?_
  · rintro k _ _ hk ⟨rfl,hh⟩
    obtain ⟨n,hn⟩:=AF hk
    obtain ⟨b2,o2,ce,rfl,_,_,hd1,rfl,_⟩:=(hvars.ext hE2).elem hn
    ((repeat (first|refine Aw ?_|refine Ah rfl ?_|refine Ae rfl ?_))<;>(refine Dg rfl rfl rfl ?_<;>refine AE rfl rfl ?_<;>refine Au rfl rfl ?_<;>(refine o_z ?_))<;>(repeat (first|refine Aw ?_|refine Ah rfl ?_|refine Ae rfl ?_))<;>(refine Ar rfl rfl ?_<;>(first|refine Dj rfl rfl rfl ?_|refine Dk rfl rfl rfl ?_|refine DM rfl rfl rfl (fun _=>?_) fun _=>?_)<;>refine Ar rfl rfl ?_<;>(first|(refine Ay rfl rfl ?_;refine Ar rfl rfl ?_)|refine At rfl rfl rfl rfl ?_)<;>(first|(refine Ay rfl rfl ?_;(first|refine DS rfl rfl rfl ?_|refine DT rfl rfl rfl ?_|refine Ce rfl rfl rfl (fun _=>?_) fun _=>?_))|refine At rfl rfl rfl rfl ?_)<;>(first|refine AX rfl rfl rfl ?_|refine AT rfl rfl rfl ?_)<;>(refine o_z ?_))<;>(repeat (first|refine Aw ?_|refine Ah rfl ?_|refine Ae rfl ?_)))
    all_goals try (
      ((repeat (first|refine Aw ?_|refine Ah rfl ?_|refine Ae rfl ?_))<;>(refine Kw rfl rfl ?_<;>refine Au rfl rfl ?_<;>(refine o_z ?_))<;>(repeat (first|refine Aw ?_|refine Ah rfl ?_|refine Ae rfl ?_)))
      refine ret1 rfl rfl ⟨?_,hE2⟩
      rw [c1,Bd (fun h=>by have:=h.1 k n hn;omega)];rfl)
    exact ⟨(),⟨rfl,rfl,rfl,rfl,trivial⟩,rfl,CR hh fun n' hn'=>by rw [hn] at hn';injection hn' with hn';omega⟩
  rintro _ _ ⟨rfl,hdom⟩
  replace hdom:VarsOk t:=fun i n hn=>hdom i (BI hn) n hn
  repeat (first|refine Aw ?_|refine Ah rfl ?_|refine Ae rfl ?_)
  ((repeat (first|refine Aw ?_|refine Ah rfl ?_|refine Ae rfl ?_))<;>(refine AG rfl rfl ?_<;>refine AE rfl rfl ?_<;>refine AP rfl rfl ?_<;>refine Ar rfl rfl ?_<;>(refine o_z ?_))<;>(repeat (first|refine Aw ?_|refine Ah rfl ?_|refine Ae rfl ?_)))
  refine BR t.ops.length (by omega) (fun _:Unit=>[(1,.pointer (some ⟨w.heap.size,0,none⟩)),(34,.slice Ao t.ops.length co)]) (fun k _ w'=>Ext w w'∧Blk w' w.heap.size 26 [.slice Av t.vars.length cv,.slice Ai t.init.length ci,.slice Ag t.goal.length cg,.slice Ao t.ops.length co]∧∀ i,i < k→∀ o,t.ops[i]?=some o→0≤o.cost∧o.cost≤1048576) ()
    ⟨hE2,hb1,fun i hi=>by omega⟩ ⟨rfl,rfl,rfl,rfl,trivial⟩ (fun _=>⟨rfl,rfl⟩) ⟨rfl,rfl,rfl⟩ ⟨rfl,rfl⟩ ?_ ?_
  · rintro k _ w4 hk ⟨hE4,hb1,hh⟩
    obtain ⟨o,ho⟩:=AF hk
    obtain ⟨b2,o2,ce,rfl,_,_,hd1,p,q,rfl,hp,hq,hc,hn⟩:=(hops.ext hE4).elem ho
    obtain ⟨Ap,cp,rfl⟩:=hp.form
    obtain ⟨Aq,cq,rfl⟩:=hq.form
    ((repeat (first|refine Aw ?_|refine Ah rfl ?_|refine Ae rfl ?_))<;>(refine Dg rfl rfl rfl ?_<;>refine Bk rfl rfl ?_)<;>(repeat (first|refine Aw ?_|refine Ah rfl ?_|refine Ae rfl ?_)))
    refine Cp rfl rfl rfl (by simp [Value.cells,Value.oneCell']) fun w5 hN5=>?_
    replace hb1:=hb1.ext hN5.ext
    have hb2:=hN5.blk
    have hE5:Ext w w5:=hE4.trans' hN5.ext
    ((refine o_z ?_))
    repeat (first|refine Aw ?_|refine Ah rfl ?_|refine Ae rfl ?_)
    ((repeat (first|refine Aw ?_|refine Ah rfl ?_|refine Ae rfl ?_))<;>(refine AG rfl rfl ?_<;>refine AE rfl rfl ?_<;>(first|refine Dj rfl rfl rfl ?_|refine Dk rfl rfl rfl ?_|refine DM rfl rfl rfl (fun _=>?_) fun _=>?_)<;>refine Ar rfl rfl ?_<;>(first|(refine Ay rfl rfl ?_;refine AG rfl rfl ?_)|refine At rfl rfl rfl rfl ?_)<;>(first|(refine Ay rfl rfl ?_;refine AE rfl rfl ?_)|refine At rfl rfl rfl rfl ?_)<;>(first|(refine Ay rfl rfl ?_;(first|refine DS rfl rfl rfl ?_|refine DT rfl rfl rfl ?_|refine Ce rfl rfl rfl (fun _=>?_) fun _=>?_))|refine At rfl rfl rfl rfl ?_)<;>(first|refine AX rfl rfl rfl ?_|refine AT rfl rfl rfl ?_)<;>(refine o_z ?_))<;>(repeat (first|refine Aw ?_|refine Ah rfl ?_|refine Ae rfl ?_)))
    all_goals try (
      ((repeat (first|refine Aw ?_|refine Ah rfl ?_|refine Ae rfl ?_))<;>(refine Kw rfl rfl ?_<;>refine Au rfl rfl ?_<;>(refine o_z ?_))<;>(repeat (first|refine Aw ?_|refine Ah rfl ?_|refine Ae rfl ?_)))
      refine ret1 rfl rfl ⟨?_,hE5⟩
      rw [c1,Bd (fun h=>by have:=h.2 k o ho;omega)];rfl)
    exact ⟨(),⟨rfl,rfl,rfl,rfl,trivial⟩,hE5,hb1,CR hh fun o' ho'=>by rw [ho] at ho';injection ho' with ho';subst ho';omega⟩
  rintro _ w3 ⟨hE3,hb1,hcost⟩
  replace hcost:CostsOk t:=fun i o ho=>hcost i (BI ho) o ho
  have c2:checkN t=if bof (StateOk t.vars t.init∧CondsOk t∧EffsOk t)=false then 2 else if bof (NamesOk t)=false then 8 else 0:=by rw [c1,Bo ⟨hdom,hcost⟩];rfl
  repeat (first|refine Aw ?_|refine Ah rfl ?_|refine Ae rfl ?_)
  (refine AG rfl rfl ?_<;>refine AE rfl rfl ?_<;>refine AG rfl rfl ?_<;>refine AE rfl rfl ?_)
  refine CZ rfl rfl (taskProper (hvars.ext hE3) (hinit.ext hE3)) ?_ ?_
  case refine_2 =>
    intro w4 hP hE4
    ((first|refine CB rfl rfl ?_|refine CC rfl rfl ?_|refine DB rfl rfl ?_)<;>(refine o_z ?_))
    repeat (first|refine Aw ?_|refine Ah rfl ?_|refine Ae rfl ?_)
    ((repeat (first|refine Aw ?_|refine Ah rfl ?_|refine Ae rfl ?_))<;>(refine Kw rfl rfl ?_<;>refine Au rfl rfl ?_<;>(refine o_z ?_))<;>(repeat (first|refine Aw ?_|refine Ah rfl ?_|refine Ae rfl ?_)))
    refine ret1 rfl rfl ⟨?_,hE3.trans' hE4⟩
    rw [c2,Bd (fun h=>hP h.1)];rfl
  intro w4 hst hE4
  replace hb1:=hb1.ext hE4
  replace hE4:Ext w w4:=hE3.trans' hE4
  ((first|refine CB rfl rfl ?_|refine CC rfl rfl ?_|refine DB rfl rfl ?_)<;>(refine o_z ?_))
  repeat (first|refine Aw ?_|refine Ah rfl ?_|refine Ae rfl ?_)
  (refine Bk rfl rfl ?_)
  refine Bu rfl rfl (taskConditions (ht0.ext hE4) hn4 hm) ?_
  rintro v5 w5 ⟨hv5,hE5⟩
  obtain ⟨Ac,cc,rfl⟩:=hv5.form
  have hcl:=hv5.len
  replace hb1:=hb1.ext hE5
  replace hE5:Ext w w5:=hE4.trans' hE5
  (refine AP rfl rfl ?_<;>refine Ar rfl rfl ?_<;>(refine o_z ?_))
  repeat (first|refine Aw ?_|refine Ah rfl ?_|refine Ae rfl ?_)
  refine BR (conds t).length (by omega) (fun _:Unit=>[(1,.pointer (some ⟨w.heap.size,0,none⟩)),(58,.slice Ac (conds t).length cc)]) (fun k _ w'=>Ext w5 w'∧∀ i,i < k→∀ f,(conds t)[i]?=some f→FactsOk t.vars f) ()
    ⟨Below.refl _ _,fun i hi=>by omega⟩ ⟨rfl,rfl,rfl,rfl,trivial⟩ (fun _=>⟨rfl,rfl⟩) ⟨rfl,rfl,rfl⟩ ⟨rfl,rfl⟩ ?_ ?_
  · rintro k _ w6 hk ⟨hE6,hh⟩
    obtain ⟨f,hf⟩:=AF hk
    have hb1:=hb1.ext hE6
    obtain ⟨b2,o2,ce,rfl,_,_,hd1,v,rfl,hR⟩:=(hv5.ext hE6).elem hf
    ((repeat (first|refine Aw ?_|refine Ah rfl ?_|refine Ae rfl ?_))<;>(refine Dg rfl rfl rfl ?_<;>refine AE rfl rfl ?_<;>refine Au rfl rfl ?_<;>(refine o_z ?_))<;>(repeat (first|refine Aw ?_|refine Ah rfl ?_|refine Ae rfl ?_))<;>(refine AG rfl rfl ?_<;>refine AE rfl rfl ?_<;>refine Ar rfl rfl ?_)<;>(repeat (first|refine Aw ?_|refine Ah rfl ?_|refine Ae rfl ?_)))
    refine CZ rfl rfl (taskFacts (hvars.ext (hE5.trans' hE6)) (Vb.of_slice hR)) ?_ ?_
    · intro w7 hP hE7
      ((first|refine CB rfl rfl ?_|refine CC rfl rfl ?_|refine DB rfl rfl ?_)<;>(refine o_z ?_))
      repeat (first|refine Aw ?_|refine Ah rfl ?_|refine Ae rfl ?_)
      exact ⟨(),⟨rfl,rfl,rfl,rfl,trivial⟩,hE6.trans' hE7,CR hh fun f' hf'=>by rw [hf] at hf';injection hf' with hf';exact hf' ▸ hP⟩
    · intro w7 hP hE7
      ((first|refine CB rfl rfl ?_|refine CC rfl rfl ?_|refine DB rfl rfl ?_)<;>(refine o_z ?_))
      repeat (first|refine Aw ?_|refine Ah rfl ?_|refine Ae rfl ?_)
      ((repeat (first|refine Aw ?_|refine Ah rfl ?_|refine Ae rfl ?_))<;>(refine Kw rfl rfl ?_<;>refine Au rfl rfl ?_<;>(refine o_z ?_))<;>(repeat (first|refine Aw ?_|refine Ah rfl ?_|refine Ae rfl ?_)))
      refine ret1 rfl rfl ⟨?_,hE5.trans' (hE6.trans' hE7)⟩
      rw [c2,Bd (fun h=>hP (h.2.1 k f hf))];rfl
  rintro _ w6 ⟨hE6,hcond⟩
  replace hcond:CondsOk t:=fun i f hf=>hcond i (BI hf) f hf
  replace hb1:=hb1.ext hE6
  replace hE6:Ext w w6:=hE5.trans' hE6
  repeat (first|refine Aw ?_|refine Ah rfl ?_|refine Ae rfl ?_)
  ((repeat (first|refine Aw ?_|refine Ah rfl ?_|refine Ae rfl ?_))<;>(refine AG rfl rfl ?_<;>refine AE rfl rfl ?_<;>refine AP rfl rfl ?_<;>refine Ar rfl rfl ?_<;>(refine o_z ?_))<;>(repeat (first|refine Aw ?_|refine Ah rfl ?_|refine Ae rfl ?_)))
  refine BR t.ops.length (by omega) (fun _:Unit=>[(1,.pointer (some ⟨w.heap.size,0,none⟩)),(72,.slice Ao t.ops.length co)]) (fun k _ w'=>Ext w6 w'∧∀ i,i < k→∀ o,t.ops[i]?=some o→∀ (j:Nat) e,o.effs[j]?=some e→FactOk t.vars ⟨e.var,e.val⟩) ()
    ⟨Below.refl _ _,fun i hi=>by omega⟩ ⟨rfl,rfl,rfl,rfl,trivial⟩ (fun _=>⟨rfl,rfl⟩) ⟨rfl,rfl,rfl⟩ ⟨rfl,rfl⟩ ?_ ?_
  · rintro k _ w7 hk ⟨hE7,hh⟩
    obtain ⟨o,ho⟩:=AF hk
    have hb1:=hb1.ext hE7
    obtain ⟨b2,o2,ce,rfl,_,_,hd1,p,q,rfl,hp,hq,hc,hn⟩:=(hops.ext (hE6.trans' hE7)).elem ho
    obtain ⟨Ap,cp,rfl⟩:=hp.form
    obtain ⟨Aq,cq,rfl⟩:=hq.form
    have hql:=hq.len
    ((repeat (first|refine Aw ?_|refine Ah rfl ?_|refine Ae rfl ?_))<;>(refine Dg rfl rfl rfl ?_<;>refine Bk rfl rfl ?_)<;>(repeat (first|refine Aw ?_|refine Ah rfl ?_|refine Ae rfl ?_)))
    refine Cp rfl rfl rfl (by simp [Value.cells,Value.oneCell']) fun w8 hN8=>?_
    replace hb1:=hb1.ext hN8.ext
    have hb2:=hN8.blk
    have hE8:Ext w6 w8:=hE7.trans' hN8.ext
    replace hq:=hq.ext hN8.ext
    ((refine o_z ?_))
    repeat (first|refine Aw ?_|refine Ah rfl ?_|refine Ae rfl ?_)
    ((repeat (first|refine Aw ?_|refine Ah rfl ?_|refine Ae rfl ?_))<;>(refine AG rfl rfl ?_<;>refine AE rfl rfl ?_<;>refine AP rfl rfl ?_<;>refine Ar rfl rfl ?_<;>(refine o_z ?_))<;>(repeat (first|refine Aw ?_|refine Ah rfl ?_|refine Ae rfl ?_)))
    refine BR o.effs.length (by omega) (fun _:Unit=>[(1,.pointer (some ⟨w.heap.size,0,none⟩)),(72,.slice (some ⟨b2,o2,none⟩) t.ops.length co),(73,.int .i64 (t.ops.length:Int)),(74,.int .i64 (k:Int)),(79,.slice Aq o.effs.length cq)]) (fun j _ w'=>Ext w8 w'∧∀ i,i < j→∀ e,o.effs[i]?=some e→FactOk t.vars ⟨e.var,e.val⟩) ()
      ⟨Below.refl _ _,fun i hi=>by omega⟩ ⟨rfl,rfl,rfl,rfl,rfl,rfl,rfl,trivial⟩ (fun _=>⟨rfl,rfl⟩) ⟨rfl,rfl,rfl⟩ ⟨rfl,rfl⟩ ?_ ?_
    · rintro j _ w9 hj ⟨hE9,hh9⟩
      obtain ⟨e,he⟩:=AF hj
      have hb1:=hb1.ext hE9
      obtain ⟨b3,o3,ce,rfl,_,_,hd1,cv',rfl,hcn,hr1,hr2⟩:=(hq.ext hE9).elem he
      obtain ⟨Acn,ccn,rfl⟩:=hcn.form
      ((repeat (first|refine Aw ?_|refine Ah rfl ?_|refine Ae rfl ?_))<;>(refine Dg rfl rfl rfl ?_<;>refine Bk rfl rfl ?_)<;>(repeat (first|refine Aw ?_|refine Ah rfl ?_|refine Ae rfl ?_)))
      refine Cp rfl rfl rfl (by simp [Value.cells,Value.oneCell']) fun w10 hN10=>?_
      have hb3:=hN10.blk
      replace hb1:=hb1.ext hN10.ext
      have hE10:Ext w w10:=hE6.trans' (hE8.trans' (hE9.trans' hN10.ext))
      ((refine o_z ?_))
      repeat (first|refine Aw ?_|refine Ah rfl ?_|refine Ae rfl ?_)
      (refine AG rfl rfl ?_<;>refine AE rfl rfl ?_<;>refine AG rfl rfl ?_<;>refine AE rfl rfl ?_<;>refine AG rfl rfl ?_<;>refine AE rfl rfl ?_<;>refine Cw rfl rfl rfl ?_)
      refine DX rfl rfl rfl (by simp [Value.cells];rfl) (by decide) rfl fun w11 hN11=>?_
      have hE11:Ext w w11:=hE10.trans' hN11.ext
      have hone:V w11 (.slice (some ⟨w10.heap.size,0,none⟩) 1 1) [(⟨e.var,e.val⟩:Fct)]:=Vb.made hN11 (.single ⟨rfl,hr1,hr2⟩) rfl hN11.blk.lt (by decide)
      refine CZ rfl rfl (taskFacts (hvars.ext hE11) hone) ?_ ?_
      · intro w12 hP hE12
        ((first|refine CB rfl rfl ?_|refine CC rfl rfl ?_|refine DB rfl rfl ?_)<;>(refine o_z ?_))
        repeat (first|refine Aw ?_|refine Ah rfl ?_|refine Ae rfl ?_)
        exact ⟨(),⟨rfl,rfl,rfl,rfl,rfl,rfl,rfl,trivial⟩,hE9.trans' (hN10.ext.trans' (hN11.ext.trans' hE12)),CR hh9 fun e' he'=>by rw [he] at he';injection he' with he';subst he';exact Fi.1 hP⟩
      · intro w12 hP hE12
        ((first|refine CB rfl rfl ?_|refine CC rfl rfl ?_|refine DB rfl rfl ?_)<;>(refine o_z ?_))
        repeat (first|refine Aw ?_|refine Ah rfl ?_|refine Ae rfl ?_)
        ((repeat (first|refine Aw ?_|refine Ah rfl ?_|refine Ae rfl ?_))<;>(refine Kw rfl rfl ?_<;>refine Au rfl rfl ?_<;>(refine o_z ?_))<;>(repeat (first|refine Aw ?_|refine Ah rfl ?_|refine Ae rfl ?_)))
        refine ret1 rfl rfl ⟨?_,hE11.trans' hE12⟩
        rw [c2,Bd (fun h=>hP (Fi.2 (h.2.2 k o ho j e he)))];rfl
    rintro _ w9 ⟨hE9,hh9⟩
    repeat (first|refine Aw ?_|refine Ah rfl ?_|refine Ae rfl ?_)
    exact ⟨(),⟨rfl,rfl,rfl,rfl,trivial⟩,hE8.trans' hE9,CR hh fun o' ho' j e he=>by rw [ho] at ho';injection ho' with ho';subst ho';exact hh9 j (BI he) e he⟩
  rintro _ w7 ⟨hE7,heff⟩
  replace heff:EffsOk t:=fun i o ho=>heff i (BI ho) o ho
  have c3:checkN t=if bof (NamesOk t)=false then 8 else 0:=by rw [c2,Bo ⟨hst,hcond,heff⟩];rfl
  replace hb1:=hb1.ext hE7
  replace hE7:Ext w w7:=hE6.trans' hE7
  repeat (first|refine Aw ?_|refine Ah rfl ?_|refine Ae rfl ?_)
  ((repeat (first|refine Aw ?_|refine Ah rfl ?_|refine Ae rfl ?_))<;>(refine AG rfl rfl ?_<;>refine AE rfl rfl ?_<;>refine AP rfl rfl ?_<;>refine Ar rfl rfl ?_<;>(refine o_z ?_))<;>(repeat (first|refine Aw ?_|refine Ah rfl ?_|refine Ae rfl ?_)))
  refine BR t.ops.length (by omega) (fun _:Unit=>[(1,.pointer (some ⟨w.heap.size,0,none⟩)),(99,.slice Ao t.ops.length co)]) (fun k _ w'=>Ext w w'∧∀ i,i < k→∀ o,t.ops[i]?=some o→NameOk o.name) ()
    ⟨hE7,fun i hi=>by omega⟩ ⟨rfl,rfl,rfl,rfl,trivial⟩ (fun _=>⟨rfl,rfl⟩) ⟨rfl,rfl,rfl⟩ ⟨rfl,rfl⟩ ?_ ?_
  · rintro k _ w8 hk ⟨hE8,hh⟩
    obtain ⟨o,ho⟩:=AF hk
    obtain ⟨b2,o2,ce,rfl,_,_,hd1,p,q,rfl,hp,hq,hc,hn⟩:=(hops.ext hE8).elem ho
    obtain ⟨Ap,cp,rfl⟩:=hp.form
    obtain ⟨Aq,cq,rfl⟩:=hq.form
    ((repeat (first|refine Aw ?_|refine Ah rfl ?_|refine Ae rfl ?_))<;>(refine Dg rfl rfl rfl ?_<;>refine Bk rfl rfl ?_)<;>(repeat (first|refine Aw ?_|refine Ah rfl ?_|refine Ae rfl ?_)))
    refine Cp rfl rfl rfl (by simp [Value.cells,Value.oneCell']) fun w9 hN9=>?_
    have hb2:=hN9.blk
    have hE9:Ext w w9:=hE8.trans' hN9.ext
    ((refine o_z ?_))
    repeat (first|refine Aw ?_|refine Ah rfl ?_|refine Ae rfl ?_)
    (refine AG rfl rfl ?_<;>refine AE rfl rfl ?_)
    refine CZ rfl rfl (taskNamed hn) ?_ ?_
    · intro w10 hP hE10
      ((first|refine CB rfl rfl ?_|refine CC rfl rfl ?_|refine DB rfl rfl ?_)<;>(refine o_z ?_))
      repeat (first|refine Aw ?_|refine Ah rfl ?_|refine Ae rfl ?_)
      exact ⟨(),⟨rfl,rfl,rfl,rfl,trivial⟩,hE9.trans' hE10,CR hh fun o' ho'=>by rw [ho] at ho';injection ho' with ho';exact ho' ▸ hP⟩
    · intro w10 hP hE10
      ((first|refine CB rfl rfl ?_|refine CC rfl rfl ?_|refine DB rfl rfl ?_)<;>(refine o_z ?_))
      repeat (first|refine Aw ?_|refine Ah rfl ?_|refine Ae rfl ?_)
      ((repeat (first|refine Aw ?_|refine Ah rfl ?_|refine Ae rfl ?_))<;>(refine Kw rfl rfl ?_<;>refine Au rfl rfl ?_<;>(refine o_z ?_))<;>(repeat (first|refine Aw ?_|refine Ah rfl ?_|refine Ae rfl ?_)))
      refine ret1 rfl rfl ⟨?_,hE9.trans' hE10⟩
      rw [c3,Bd (fun h=>hP (h k o ho))];rfl
  rintro _ w8 ⟨hE8,hnames⟩
  repeat (first|refine Aw ?_|refine Ah rfl ?_|refine Ae rfl ?_)
  ((repeat (first|refine Aw ?_|refine Ah rfl ?_|refine Ae rfl ?_))<;>(refine Au rfl rfl ?_<;>(refine o_z ?_))<;>(repeat (first|refine Aw ?_|refine Ah rfl ?_|refine Ae rfl ?_)))
  refine ret1 rfl rfl ⟨?_,hE8⟩
  rw [c3,Bo (show NamesOk t from fun i o ho=>hnames i (BI ho) o ho)];rfl
end
section
theorem Ka {p:Prop}:bof p=true↔p:=⟨fun h=>Classical.byContradiction fun hn=>(by rw [Bd hn] at h;exact Bool.noConfusion h),Bo⟩
theorem EM {p:Prop}:bof p=false↔¬ p:=by
  rw [← Bool.not_eq_true,Ka]
theorem IA {vars:List Int} {f:List Fct} (h:FactsOk vars f):∀ (j i:Nat) (x y:Fct),i < j→f[i]?=some x→f[j]?=some y→x.var < y.var
  | 0,i,_,_,hij,_,_=>by omega
  | j + 1,i,x,y,hij,hx,hy=>by
    by_cases he:i=j
    · subst he;exact h.2 i x y hx hy
    · obtain ⟨z,hz⟩:=AF (l:=f) (k:=j) (by have:=BI hy;omega)
      have h1:=IA h j i x z (by omega) hx hz
      have h2:=h.2 j z y hz hy
      omega
theorem Lg {vars:List Int} {f:List Fct} (h:FactsOk vars f):∀ (i:Nat) (x:Fct),f[i]?=some x→(i:Int)≤x.var
  | 0,x,hx=>(h.1 0 x hx).1
  | i + 1,x,hx=>by
    obtain ⟨z,hz⟩:=AF (l:=f) (k:=i) (by have:=BI hx;omega)
    have h1:=Lg h i z hz
    have h2:=h.2 i z x hz hx
    omega
theorem DY {vars:List Int} {f:List Fct} (h:FactsOk vars f):f.length≤vars.length:=by
  rcases Nat.eq_zero_or_pos f.length with h0|h0
  · omega
  · obtain ⟨x,hx⟩:=AF (l:=f) (k:=f.length - 1) (by omega)
    have h1:=Lg h _ x hx
    obtain ⟨h2,h3,y,hy,_⟩:=h.1 _ x hx
    have:=BI hy
    omega
theorem DH {t:Tsk} {f:List Fct}:f∈conds t↔f=t.goal∨∃ (i:Nat) (o:Opr),t.ops[i]?=some o∧(f=o.pre∨∃ (j:Nat) (e:Eff),o.effs[j]?=some e∧f=e.cond):=by
  unfold conds opConds
  rw [List.mem_cons,List.mem_flatMap]
  constructor
  · rintro (h|⟨o,ho,hf⟩)
    · exact .inl h
    · obtain ⟨i,hi⟩:=List.getElem?_of_mem ho
      refine .inr ⟨i,o,hi,?_⟩
      rcases List.mem_cons.1 hf with h|h
      · exact .inl h
      · obtain ⟨e,he,rfl⟩:=List.mem_map.1 h
        obtain ⟨j,hj⟩:=List.getElem?_of_mem he
        exact .inr ⟨j,e,hj,rfl⟩
  · rintro (h|⟨i,o,ho,h⟩)
    · exact .inl h
    · refine .inr ⟨o,List.mem_of_getElem? ho,?_⟩
      rcases h with rfl|⟨j,e,he,rfl⟩
      · exact List.mem_cons_self
      · exact List.mem_cons_of_mem _ (List.mem_map.2 ⟨e,List.mem_of_getElem? he,rfl⟩)
theorem CS {t:Tsk}:checkN t=0↔TaskOk t:=by
  unfold checkN
  constructor
  · intro h
    by_cases h1:Large t
    · rw [if_pos (Ka.2 h1)] at h;cases h
    rw [if_neg (fun hh=>h1 (Ka.1 hh))] at h
    by_cases h2:VarsOk t∧CostsOk t
    case neg=>rw [if_pos (EM.2 h2)] at h;cases h
    rw [if_neg (fun hh=>EM.1 hh h2)] at h
    by_cases h3:StateOk t.vars t.init∧CondsOk t∧EffsOk t
    case neg=>rw [if_pos (EM.2 h3)] at h;cases h
    rw [if_neg (fun hh=>EM.1 hh h3)] at h
    by_cases h4:NamesOk t
    case neg=>rw [if_pos (EM.2 h4)] at h;cases h
    have hc:∀ f∈conds t,FactsOk t.vars f:=fun f hf=>by
      obtain ⟨i,hi⟩:=List.getElem?_of_mem hf
      exact h3.2.1 i f hi
    have hl:t.vars.length≤64∧t.ops.length≤4096∧(∀ (i:Nat) (o:Opr),t.ops[i]?=some o→o.effs.length≤64):=by
      unfold Large at h1
      refine ⟨Nat.le_of_not_lt fun h=>h1 (.inl h),Nat.le_of_not_lt fun h=>h1 (.inr (.inl h)),fun i o ho=>Nat.le_of_not_lt fun h=>h1 (.inr (.inr (.inl ⟨i,o,ho,h⟩)))⟩
    exact ⟨hl.1,hl.2.1,h2.1,h3.1,hc _ (DH.2 (.inl rfl)),fun i o ho=>⟨(h2.2 i o ho).1,(h2.2 i o ho).2,hl.2.2 i o ho,h4 i o ho,hc _ (DH.2 (.inr ⟨i,o,ho,.inl rfl⟩)),fun j e he=>⟨hc _ (DH.2 (.inr ⟨i,o,ho,.inr ⟨j,e,he,rfl⟩⟩)),h3.2.2 i o ho j e he⟩⟩⟩
  · rintro ⟨h1,h2,h3,h4,h5,h6⟩
    have hc:∀ f∈conds t,FactsOk t.vars f:=fun f hf=>by
      rcases DH.1 hf with rfl|⟨i,o,ho,rfl|⟨j,e,he,rfl⟩⟩
      · exact h5
      · exact (h6 i o ho).2.2.2.2.1
      · exact ((h6 i o ho).2.2.2.2.2 j e he).1
    have hL:¬ Large t:=by
      rintro (h|h|⟨i,o,ho,h⟩|⟨f,hf,h⟩)
      · omega
      · omega
      · have:=(h6 i o ho).2.2.1;omega
      · have:=DY (hc f hf);omega
    have hV:VarsOk t∧CostsOk t:=⟨h3,fun i o ho=>⟨(h6 i o ho).1,(h6 i o ho).2.1⟩⟩
    have hS:StateOk t.vars t.init∧CondsOk t∧EffsOk t:=⟨h4,fun i f hf=>hc f (List.mem_of_getElem? hf),fun i o ho j e he=>((h6 i o ho).2.2.2.2.2 j e he).2⟩
    have hN:NamesOk t:=fun i o ho=>(h6 i o ho).2.2.2.1
    rw [if_neg (fun hh=>hL (Ka.1 hh)),if_neg (fun hh=>EM.1 hh hV),if_neg (fun hh=>EM.1 hh hS),if_neg (fun hh=>EM.1 hh hN)]
theorem TaskOk.vars {t:Tsk} (h:TaskOk t):VarsOk t:=h.2.2.1
end
section
open Go Go.RowKit
attribute [local irreducible] ewp owp hwp hwq hws Ev Evg Fn retPost loud loudS Res1
section
variable {w : World} {A : Nat → Prop} (hA : ∀ k, A k → k < w.heap.size) {v0 v1 : Value}
include hA
omit hA in
def DI (f:List Fct) (s:List Int):Option Bool:=some (holdsB f s)
theorem Gl {x0:List Fct} (h0:Vb w A v0 x0) {x1:List Int} (h1:Vb w A v1 x1) {r:Bool} (hm:DI x0 x1=some r):Fn Tryz.prog 37 [v0,v1] w fun v w'=>Ext w w'∧Vb w' (upA A w w') v r:=by
  obtain rfl:=sm hm
  refine (baseHolds (h0.mono hA) (h1.mono hA)).mono fun v w' h=>⟨h.2,?_⟩
  rw [h.1,GZ];exact vBool
omit hA in
def DJ (f:List Fct) (s:List Int):Option Bool:=some (holdsB f s)
theorem Ju {x0:List Fct} (h0:Vb w A v0 x0) {x1:List Int} (h1:Vb w A v1 x1) {r:Bool} (hm:DJ x0 x1=some r):Fn Tryz.prog 43 [v0,v1] w fun v w'=>Ext w w'∧Vb w' (upA A w w') v r:=by
  obtain rfl:=sm hm
  refine (taskHolds (h0.mono hA) (h1.mono hA)).mono fun v w' h=>⟨h.2,?_⟩
  rw [h.1,GZ];exact vBool
omit hA in
noncomputable def GF (x:List Int) (y:List Int):Option Bool:=some (bof (x=y))
theorem NB {x0:List Int} (h0:Vb w A v0 x0) {x1:List Int} (h1:Vb w A v1 x1) {r:Bool} (hm:GF x0 x1=some r):Fn Tryz.prog 26 [v0,v1] w fun v w'=>Ext w w'∧Vb w' (upA A w w') v r:=by
  obtain rfl:=sm hm
  refine (baseInts (h0.mono hA) (h1.mono hA)).mono fun v w' h=>⟨h.2,?_⟩
  rw [h.1];exact vBool
omit hA in
noncomputable def Hw (x:List Int) (y:List Int):Option Bool:=some (bof (StateOk x y))
theorem MR {x0:List Int} (h0:Vb w A v0 x0) {x1:List Int} (h1:Vb w A v1 x1) {r:Bool} (hm:Hw x0 x1=some r):Fn Tryz.prog 73 [v0,v1] w fun v w'=>Ext w w'∧Vb w' (upA A w w') v r:=by
  obtain rfl:=sm hm
  refine (baseState (h0.mono hA) (h1.mono hA)).mono fun v w' h=>⟨h.2,?_⟩
  rw [h.1];exact vBool
omit hA in
noncomputable def Es (x:List Int) (y:List Fct):Option Bool:=some (bof (FactsOk x y))
theorem FP {x0:List Int} (h0:Vb w A v0 x0) {x1:List Fct} (h1:Vb w A v1 x1) {r:Bool} (hm:Es x0 x1=some r):Fn Tryz.prog 74 [v0,v1] w fun v w'=>Ext w w'∧Vb w' (upA A w w') v r:=by
  obtain rfl:=sm hm
  refine (baseProper (h0.mono hA) (h1.mono hA)).mono fun v w' h=>⟨h.2,?_⟩
  rw [h.1];exact vBool
omit hA in
noncomputable def Hx (t:Tsk):Option Bool:=some (bof (SmallOk t))
theorem MS {x0:Tsk} (h0:Vb w A v0 x0) {r:Bool} (hm:Hx x0=some r):Fn Tryz.prog 28 [v0] w fun v w'=>Ext w w'∧Vb w' (upA A w w') v r:=by
  obtain rfl:=sm hm
  refine (baseSmall (h0.mono hA)).mono fun v w' h=>⟨h.2,?_⟩
  rw [h.1];exact vBool
end
noncomputable def Df (t:Tsk):Option Err:=some ⟨checkN t⟩
theorem Lh (t:Tsk):inI64 (checkN t):=by unfold checkN;(repeat' split)<;>decide
theorem Jv {w:World} {A:Nat→Prop} (hA:∀ k,A k→k < w.heap.size) {v0:Value} {x0:Tsk} (h0:Vb w A v0 x0) {r:Err} (hm:Df x0=some r):Fn Tryz.prog 40 [v0] w fun v w'=>Ext w w'∧Vb w' (upA A w w') v r:=by
  obtain rfl:=sm hm
  refine (taskCheck (h0.mono hA)).mono fun v w' h=>⟨h.2,?_⟩
  rw [h.1]
  exact vErr (Lh _)
def He (x:Err):Option Int:=some x.n
theorem OM {w:World} {A:Nat→Prop} (hA:∀ k,A k→k < w.heap.size) {x0:Err} (r0:inI64 x0.n) {r:Int} (hm:He x0=some r):Fn Tryz.prog 13 [errV x0.n] w fun v w'=>Ext w w'∧Vb w' (upA A w w') v r:=by
  obtain rfl:=sm hm
  refine AH Tryz.func13 rfl Tryz.ntmps13 rfl ?_
  by_cases h:x0.n=0
  · rw [h,GK]
    ((repeat (first|refine Aw ?_|refine Ah rfl ?_|refine Ae rfl ?_))<;>(refine Au rfl rfl ?_<;>(refine o_z ?_))<;>(repeat (first|refine Aw ?_|refine Ah rfl ?_|refine Ae rfl ?_))<;>(refine Ar rfl rfl ?_<;>(first|refine RQ rfl rfl ?_|refine RR rfl rfl ?_)<;>(refine o_z ?_))<;>(repeat (first|refine Aw ?_|refine Ah rfl ?_|refine Ae rfl ?_))<;>(refine Au rfl rfl ?_<;>(refine o_z ?_))<;>(repeat (first|refine Aw ?_|refine Ah rfl ?_|refine Ae rfl ?_)))
    exact ret1 rfl rfl ⟨Below.refl _ _,vInt (by decide)⟩
  · rw [Hv h]
    have h2:-9223372036854775808≤x0.n∧x0.n≤9223372036854775807:=r0
    ((repeat (first|refine Aw ?_|refine Ah rfl ?_|refine Ae rfl ?_))<;>(refine Au rfl rfl ?_<;>(refine o_z ?_))<;>(repeat (first|refine Aw ?_|refine Ah rfl ?_|refine Ae rfl ?_))<;>(refine Ar rfl rfl ?_<;>(first|refine RQ rfl rfl ?_|refine RR rfl rfl ?_)<;>(refine o_z ?_))<;>(repeat (first|refine Aw ?_|refine Ah rfl ?_|refine Ae rfl ?_))<;>(refine Ar rfl rfl ?_<;>refine Tv rfl rfl ?_<;>refine Ar rfl rfl ?_<;>refine BH rfl rfl rfl ?_<;>refine BH rfl rfl rfl ?_<;>refine Au rfl rfl ?_<;>refine Au rfl rfl ?_<;>(refine o_z ?_))<;>(repeat (first|refine Aw ?_|refine Ah rfl ?_|refine Ae rfl ?_))<;>(refine Ar rfl rfl ?_<;>(refine o_z ?_))<;>(repeat (first|refine Aw ?_|refine Ah rfl ?_|refine Ae rfl ?_))<;>(refine Ar rfl rfl ?_<;>refine Au rfl rfl ?_<;>(refine o_z ?_))<;>(repeat (first|refine Aw ?_|refine Ah rfl ?_|refine Ae rfl ?_)))
    exact ret1 rfl rfl ⟨Below.refl _ _,vInt r0⟩
def BT (xs:List Int):Option (List Int):=if xs.length * 8≤140737488355328∧xs.length≤9223372036854775807 then some xs else none
theorem En {w:World} {A:Nat→Prop} (hA:∀ k,A k→k < w.heap.size) {v0:Value} {x0:List Int} (h0:Vb w A v0 x0) {r:List Int} (hm:BT x0=some r) :
    Fn Tryz.prog 50 [v0] w fun v w'=>Ext w w'∧RowR w w' (upA A w w') 3 v r:=by
  obtain ⟨⟨hl,a0⟩,rfl⟩:=Fp hm
  obtain ⟨O,hB,b0⟩:=enter hA
  replace h0:=h0.mono b0
  obtain ⟨Ad,c,rfl⟩:=h0.form
  refine AH Tryz.func50 rfl Tryz.ntmps50 rfl ?_
  cases Ad with
  | none =>
    have hx:x0=[]:=by
      cases x0 with
      | nil=>rfl
      | cons x xs=>obtain ⟨_,_,_,h,_⟩:=h0.elem (k:=0) (x:=x) rfl;cases h
    subst hx
    ((repeat (first|refine Aw ?_|refine Ah rfl ?_|refine Ae rfl ?_))<;>(refine Au rfl rfl ?_<;>(refine o_z ?_))<;>(repeat (first|refine Aw ?_|refine Ah rfl ?_|refine Ae rfl ?_))<;>(refine Ar rfl rfl ?_<;>refine GS rfl rfl ?_<;>(refine o_z ?_))<;>(repeat (first|refine Aw ?_|refine Ah rfl ?_|refine Ae rfl ?_))<;>(refine Au rfl rfl ?_<;>(refine o_z ?_))<;>(repeat (first|refine Aw ?_|refine Ah rfl ?_|refine Ae rfl ?_)))
    exact ret1 rfl rfl ⟨Below.refl _ _,RowR.nil⟩
  | some ad =>
    ((repeat (first|refine Aw ?_|refine Ah rfl ?_|refine Ae rfl ?_))<;>(refine Au rfl rfl ?_<;>(refine o_z ?_))<;>(repeat (first|refine Aw ?_|refine Ah rfl ?_|refine Ae rfl ?_))<;>(refine Ar rfl rfl ?_<;>refine GS rfl rfl ?_<;>(refine o_z ?_))<;>(repeat (first|refine Aw ?_|refine Ah rfl ?_|refine Ae rfl ?_)))
    refine Bv 2 (by decide) O (xs:=([]:List Int)) rfl rfl rfl rfl trivial (by decide) (by decide) rfl fun g w1 O1 S1 h1=>?_
    replace hB:=hB.st S1 (fun h=>h) (fun h=>h)
    replace h0:=h0.st S1 (fun h=>h)
    (refine Ar rfl rfl ?_)
    refine Bw rfl h1 h0.rd rfl rfl (by decide) (by simpa using hl) (by simpa using a0) rfl fun A2 c2 w2 O2 S2 h2=>?_
    replace hB:=hB.st S2 (by decide) (by decide)
    rw [List.nil_append] at h2 ⊢
    (refine Au rfl rfl ?_<;>(refine o_z ?_))
    repeat (first|refine Aw ?_|refine Ah rfl ?_|refine Ae rfl ?_)
    exact ret1 rfl rfl ⟨hB.ext,h2.out hB (by decide)⟩
end
section
open Go Go.RowKit
attribute [local irreducible] ewp owp hwp hwq hws Ev Evg Fn retPost loud loudS Res1
structure Rsl where
  verdict:Int
  plan:List Int
  cost:Int
  expanded:Int
instance:Rp Rsl where
  isAgg:=true
  size:=4
  R w F cs x:=∃ v0,cs=[.int .i64 x.verdict,v0,.int .i64 x.cost,.int .i64 x.expanded]∧Vb w F v0 x.plan∧inI64 x.verdict∧inI64 x.cost∧inI64 x.expanded
  len:=by rintro w F cs x ⟨v0,rfl,h0,h1,h2,h3⟩;rfl
  one:=by rintro w F cs x ⟨v0,rfl,h0,h1,h2,h3⟩ u hu;simp at hu;rcases hu with rfl|rfl|rfl|rfl<;>first|rfl|exact Vb.one rfl (by assumption)
  agree:=by rintro w w' F cs x ⟨v0,rfl,h0,h1,h2,h3⟩ ha;exact ⟨v0,rfl,h0.agree ha,h1,h2,h3⟩
  mono:=by rintro w F G cs x ⟨v0,rfl,h0,h1,h2,h3⟩ ha;exact ⟨v0,rfl,h0.mono ha,h1,h2,h3⟩
end
end Go.Proofs.YtafdmfhdjfkooaaGreat

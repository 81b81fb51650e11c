/- Own text: what the proof of orbitSame_holds uses, part 3: rules, models and their proofs, plain laws. -/
import Derived.Test.YtecegaabajeolaaGreatOsaB
set_option linter.unusedVariables false
set_option linter.unusedSimpArgs false
namespace Go.Proofs.YtecegaabajeolaaGreat
open Go Go.RowKit
section
open Go Go.RowKit
class TCon (P:Program) (t:TypeId):Prop where eq:∃ d,P.underlying t=some d∧(match d with|.interface _=>false|_=>true)=true
instance {P:Program} {t e:TypeId} [h:TPtr P t e]:TCon P t:=⟨⟨_,h.eq,rfl⟩⟩
instance {P:Program} {t:TypeId} [h:TAgg P t]:TCon P t:=⟨by obtain ⟨d,h1,h2⟩:=h.eq;exact ⟨d,h1,by cases d<;>first|rfl|cases h2⟩⟩
class TMth (P:Program) (t:TypeId) (name:String) (f:outParam FuncId) (b:outParam Bool):Prop where
  eq:((P.info? t).bind fun i=>i.methods.find? (·.name == name)).map (fun m=>(m.path.toList,m.func))=some ([],some (f,b))
def Mth (P:Program) (t:TypeId) (v:Value) (name:String) (w:World) (f:FuncId) (r:Value):Prop:=∀ d,(method (P.types.size + Made.depth) t v name).run P (dr w d)=.ok (f,r) (dr w d)
section
variable {P : Program} {t e : TypeId} {name : String} {f : FuncId} {w : World}
theorem TMth.row {b:Bool} (h:TMth P t name f b):∃ i m,P.info? t=some i∧i.methods.find? (·.name == name)=some m∧m.path.toList=[]∧m.func=some (f,b):=by
  obtain ⟨m,h1,h2⟩:=Option.map_eq_some_iff.1 h.eq
  obtain ⟨i,h3,h4⟩:=Option.bind_eq_some_iff.1 h1
  injection h2 with h5 h6
  exact ⟨i,m,h3,h4,h5,h6⟩
theorem Mf {v:Value} [hm:TMth P t name f true] [hp:TPtr P t e]:Mth P t v name w f v:=fun d=>by
  obtain ⟨i,m,h1,h2,h3,h4⟩:=hm.row
  show (method ((P.types.size + 99) + 1) t v name).run P (dr w d)=_
  rw [method]
  simp [typeInfo,h1,h2,h3,h4,follow,receiverAt,run_underlying hp.eq,Place.get]
theorem LM (ts:Array TypeId) (a:Addr) (x y:String):(Builtin.ssaWrapNilChk_ ts t #[.pointer (some a),strVal x,strVal y]).run P w=.ok (.pointer (some a)) w:=rfl
theorem Ff {ad:Addr} {u:Value} [hm:TMth P t name f false] [hp:TPtr P t e] [TOne P e] (hc:w.cell? ad=some u):Mth P t (.pointer (some ad)) name w f u:=fun d=>by
  obtain ⟨i,m,h1,h2,h3,h4⟩:=hm.row
  have h5:m.path=#[]:=by cases hm':m.path;rw [hm'] at h3;simp at h3;rw [h3]
  have hl:(load ad).run P (dr w d)=.ok u (dr w d):=by simp [load,Sem.run,JK,hc]
  show (method ((P.types.size + 99) + 1) t _ name).run P (dr w d)=_
  rw [method]
  simp [typeInfo,h1,h2,h4,h5,follow,receiverAt,run_underlying hp.eq,Place.get,LM,asAddr,loadVar,Gf,JK,hc]
end
section
variable {P : Program} {n : Nat} {ops : Array Oper} {Q : Post} {rest : List Oper} {l : Env} {w : World} {d : Tmp} {ty : TypeId} {pos : String} {aft : Array Edge}
theorem Mg {f:FuncId} [hf:Callable P f] {y:Operand} {name:String} {t:TypeId} {v r:Value} {xs:List Operand} {vs:List Value} {ts:Array TypeId} {R:Value→World→Prop} (hm:Mth P t v name w f r) (hy:opv l y=some (.iface t v)) (hx:opvs l xs=some vs) (hd:Nat.blt d n=true) (hc:Fn P f (r :: vs) w R)
    (h:∀ v w',R v w'→owp P n ops Q rest ((d,v) :: l) w'):owp P n ops Q (⟨some d,.call { callee:=.invoke y name,args:=xs.toArray,argTypes:=ts },ty,pos,aft,none⟩ :: rest) l w :=
  GP fun a e ha K hK=>by
    obtain ⟨fn,h1,h2,h3⟩:=hf.eq
    have h2':¬ fn.body=none:=fun e=>by rw [e] at h2;simp at h2
    have h3' : ¬ fn.name = "runtime.NumGoroutine" := fun e => by rw [e] at h3; simp at h3
    unfold Oper.wp
    have:(execOp a.eval ⟨some d,.call { callee:=.invoke y name,args:=xs.toArray,argTypes:=ts },ty,pos,aft,none⟩).run P (dr w e)=.ok (.enter f (r :: vs).toArray) (dr w e):=by
      simp [execOp,resolve,ha.eval hy,invoke,callMethod,hm e,callFunc,h1,h2',h3',ha.evals hx]
    rw [this]
    exact (hc e).mono fun _ _ ⟨v,w₀,d',he,hw,hR⟩=>by subst he;subst hw;exact hK _ _ (h v w₀ hR _ _ (ha.put hd v))
theorem HP {T:Nat→Prop} {f:FuncId} [Callable P f] {y:Operand} {name:String} {t:TypeId} {v r:Value} {xs:List Operand} {vs:List Value} {ts:Array TypeId} {O:Lab} {R:Value→World→Lab→Prop}
    (hc:Fn P f (r :: vs) w fun v w'=>∃ O',St T w O w' O'∧R v w' O') (hm:Mth P t v name w f r) (hy:opv l y=some (.iface t v)) (hx:opvs l xs=some vs) (hd:Nat.blt d n=true)
    (h:∀ v w' O',St T w O w' O'→R v w' O'→owp P n ops Q rest ((d,v) :: l) w'):owp P n ops Q (⟨some d,.call { callee:=.invoke y name,args:=xs.toArray,argTypes:=ts },ty,pos,aft,none⟩ :: rest) l w :=
  Mg hm hy hx hd hc fun v w' ⟨O',hS,hR⟩=>h v w' O' hS hR
theorem HQ {f:FuncId} [Callable P f] {y:Operand} {name:String} {t:TypeId} {v r:Value} {xs:List Operand} {vs:List Value} {ts:Array TypeId} {O:Lab} {A:Nat→Prop} {R:World→(Nat→Prop)→Value→Prop} (hc:Fn P f (r :: vs) w fun v w'=>Ext w w'∧R w' (upA A w w') v) (hm:Mth P t v name w f r) (hy:opv l y=some (.iface t v)) (hx:opvs l xs=some vs) (hd:Nat.blt d n=true)
    (h:∀ v w' O',St nT w O w' O'→R w' (upA A w w') v→owp P n ops Q rest ((d,v) :: l) w'):owp P n ops Q (⟨some d,.call { callee:=.invoke y name,args:=xs.toArray,argTypes:=ts },ty,pos,aft,none⟩ :: rest) l w :=
  Mg hm hy hx hd hc fun v w' ⟨hE,hR⟩=>h v w' (upO O w.heap.size fun _=>0) (hE.st O _) hR
end
def quoT (a b:Int):Option Int:=if 0 < b then some (if 0≤a then a / b else -((-a) / b)) else none
theorem Mh {a b r:Int} (h:quoT a b=some r) (ha:inI64 a):inI64 r:=by
  unfold quoT at h
  split at h
  · rename_i hb
    rw [← sm h]
    unfold inI64 at *
    split
    · rename_i h0
      have:=Int.ediv_le_self b h0
      have:=Int.ediv_nonneg h0 (show 0≤b by omega)
      omega
    · have h0:0≤-a:=by omega
      have:=Int.ediv_le_self b h0
      have:=Int.ediv_nonneg h0 (show 0≤b by omega)
      omega
  · cases h
theorem Qw {P:Program} {l:Env} {w:World} {dst:Option Tmp} {ty:TypeId} {pos:String} {aft:Array Edge} {t u:TypeId} {x y:Operand} {a b c:Int} (hx:opv l x=some (.int .i64 a)) (hy:opv l y=some (.int .i64 b)) (he:quoT a b=some c) (hr:inI64 a):Ev P ⟨dst,.binOp .quo t x y u,ty,pos,aft,none⟩ l w (.int .i64 c):=fun _ _ d ha=>by
  have hc:=Mh he hr
  unfold quoT at he
  split at he
  · rename_i hb
    have hn:b≠0:=by omega
    have h1:a.tdiv b=c:=by
      rw [← sm he]
      split
      · rename_i h0;exact Int.tdiv_eq_ediv_of_nonneg h0
      · rw [← Int.tdiv_eq_ediv_of_nonneg (show 0≤-a by omega),Int.neg_tdiv,Int.neg_neg]
    simp [execOp,ha.eval hx,ha.eval hy,eqGuard,binOp,Op.intDiv,hn,h1,wrap_i64 hc.1 hc.2]
  · cases he
structure An (t:TypeId) (α:Type) where
  x:α
instance {t:TypeId} {α:Type} [Rp α]:Rp (An t α) where
  isAgg:=false
  size:=1
  R w F cs a:=∃ v,cs=[.iface t v]∧Vb w F v a.x
  len:=by rintro w F cs x ⟨v,rfl,_⟩;rfl
  one:=by
    rintro w F cs x ⟨v,rfl,_⟩ u hu
    have:u=.iface t v:=by simpa using hu
    subst this;rfl
  agree:=by rintro w w' F cs x ⟨v,rfl,h⟩ ha;exact ⟨v,rfl,h.agree ha⟩
  mono:=by rintro w F G cs x ⟨v,rfl,h⟩ ha;exact ⟨v,rfl,h.mono ha⟩
theorem Vb.any {w:World} {F:Nat→Prop} {v:Value} {t:TypeId} {α:Type} [Rp α] {x:An t α} (h:Vb w F v x):∃ u,v=.iface t u∧Vb w F u x.x:=by
  obtain ⟨u,hu,h'⟩:=h
  exact ⟨u,by simpa using hu,h'⟩
theorem vAny {w:World} {F:Nat→Prop} {v:Value} {t:TypeId} {α:Type} [Rp α] {x:α} (h:Vb w F v x):Vb w F (.iface t v) (⟨x⟩:An t α):=⟨v,rfl,h⟩
section
variable {P : Program} {l : Env} {w : World} {dst : Option Tmp} {ty : TypeId} {pos : String} {aft : Array Edge}
theorem Nk {t:TypeId} [hk:TCon P t] {x:Operand} {v:Value} (hx:opv l x=some v):Ev P ⟨dst,.makeInterface t x,ty,pos,aft,none⟩ l w (.iface t v):=fun _ a d ha=>by
  obtain ⟨q,h1,h2⟩:=hk.eq
  cases q<;>first|(cases h2;done)|simp [execOp,ha.eval hx,Instr.makeInterface,run_underlying h1]
theorem Qx {s t:TypeId} [hk:TCon P t] {x:Operand} {v:Value} (hx:opv l x=some (.iface t v)):Ev P ⟨dst,.typeAssert x s t true,ty,pos,aft,none⟩ l w (.tuple #[v,.bool true]):=fun _ a d ha=>by
  obtain ⟨q,h1,h2⟩:=hk.eq
  cases q<;>first|(cases h2;done)|simp [execOp,ha.eval hx,Instr.typeAssert,run_underlying h1]
end
section
variable {P : Program} {n : Nat} {ops : Array Oper} {Q : Post} {S : World → Prop} {rest : List Oper} {r : List (Nat × Bool)} {l : Env} {w : World} {d i : Nat} {ty : TypeId} {pos : String} {aft : Array Edge}
theorem QZ {t u:TypeId} {x y:Operand} {a b c:Int} (hx:opv l x=some (.int .i64 a)) (hy:opv l y=some (.int .i64 b)) (hd:Nat.blt d n=true) (h:owp P n ops Q rest ((d,.int .i64 c) :: l) w) (he:quoT a b=some c:=by assumption) (hr:inI64 a:=by assumption):owp P n ops Q (⟨some d,.binOp .quo t x y u,ty,pos,aft,none⟩ :: rest) l w:=Bz (Qw hx hy he hr) hd h
theorem OZ {t:TypeId} [TCon P t] {x:Operand} {v:Value} (hx:opv l x=some v) (hd:Nat.blt d n=true) (h:owp P n ops Q rest ((d,.iface t v) :: l) w):owp P n ops Q (⟨some d,.makeInterface t x,ty,pos,aft,none⟩ :: rest) l w:=Bz (Nk hx) hd h
theorem Pa {t:TypeId} [TCon P t] {x:Operand} {v:Value} (hi:ops[i]?=some ⟨some d,.makeInterface t x,ty,pos,aft,none⟩) (hx:opv l x=some v) (hd:Nat.blt d n=true) (h:hwp P n ops Q S r ((d,.iface t v) :: l) w):hwp P n ops Q S ((i,true) :: r) l w:=AA hi (BC (fun _ _=>Nk hx) hd h)
theorem Pb {s t:TypeId} [TCon P t] {x:Operand} {v:Value} (hx:opv l x=some (.iface t v)) (hd:Nat.blt d n=true) (h:owp P n ops Q rest ((d,.tuple #[v,.bool true]) :: l) w):owp P n ops Q (⟨some d,.typeAssert x s t true,ty,pos,aft,none⟩ :: rest) l w:=Bz (Qx hx) hd h
end
end
section
open Go Go.RowKit
structure Cx where
  ty:TypeId
  pre:List Value
  post:List Value
structure BxC (cx:Cx) (e:TypeId) (α:Type) where
  l:List α
def BxR.c (cx:Cx) {t e:TypeId} {α:Type} (x:BxR t e α):BxC cx e α:=⟨x.l⟩
instance {cx:Cx} {e:TypeId} {α:Type} [Rp α]:Ow (BxC cx e α) where
  R w F M v x:=∃ (g:Nat) (L:Lab) (c0:Value),v=.pointer (some ⟨g,cx.pre.length,none⟩)∧Blk w g cx.ty (cx.pre ++ c0 :: cx.post)∧M g∧L g=0∧RwM w F (fun k=>M k∧L k=1) e c0 x.l
  agree:=by rintro w w' F M v x ⟨g,L,c0,rfl,hb,hM,hL,h0⟩ a1 a2;exact ⟨g,L,c0,rfl,hb.keep (a2 g hM),hM,hL,h0.agree a1 fun k hk=>a2 k hk.1⟩
  mono:=by rintro w F M F' M' v x ⟨g,L,c0,rfl,hb,hM,hL,h0⟩ a1 a2 a3;exact ⟨g,L,c0,rfl,hb,a2 g hM,hL,h0.mono a1 (fun k hk=>⟨a2 k hk.1,hk.2⟩) fun k hf hm=>a3 k hf hm.1⟩
theorem BxC.opn {cx:Cx} {t e:TypeId} {α:Type} [Rp α] {i:Nat} {w:World} {O:Lab} {p:Nat} {x:BxR t e α} (h:Ob i w O (.pointer (some ⟨p,cx.pre.length,none⟩)) (BxR.c cx x)) (l0 l1:Nat) (hl:l0≠0∧l1≠0):∃ (O':Lab) (c0:Value),St (eT i) w O w O'∧(∀ k,Fr i w O k→∃ q,q∈[l0,l1]∧Fr q w O' k)∧Lc l0 w O' p cx.ty (cx.pre ++ c0 :: cx.post)∧Rw l1 w O' e c0 x.l:=by
  obtain ⟨⟨g,L,c0,hv,hb,hM,hL,h0⟩,hi⟩:=h
  obtain rfl:p=g:=by injection hv with hv;injection hv with hv;injection hv
  exact ⟨part O i L [l0,l1],c0,Mc hi,KZ (by simp),⟨hb,(Gc (j:=0) rfl p ⟨hM,hL⟩).2⟩,h0.rw (Ei hi) (Gc (j:=1) rfl) hl.2⟩
theorem BxC.shut {cx:Cx} {t e:TypeId} {α:Type} [Rp α] {w:World} {O:Lab} {p:Nat} {x:BxR t e α} {l0 l1:Nat} {c0:Value} (hd:¬ 0∈[l0,l1]∧[l0,l1].idxOf l0=0∧[l0,l1].idxOf l1=1) (hb:Lc l0 w O p cx.ty (cx.pre ++ c0 :: cx.post)) (h0:Rw l1 w O e c0 x.l):∃ O',St (·∈[l0,l1]) w O w O'∧(∀ k,Fr 0 w O k→Fr 0 w O' k)∧(∀ q,q∈[l0,l1]→∀ k,Fr q w O k→Fr l0 w O' k)∧Ob l0 w O' (.pointer (some ⟨p,cx.pre.length,none⟩)) (BxR.c cx x):=by
  have hb1:l0≠0:=fun e=>hd.1 (by simp [e])
  have hg:=Ft (i:=l0) hd.2.1 (by simp) p ⟨hb.1.lt,hb.2⟩
  exact ⟨whole O l0 [l0,l1],La,De hd.1,Ke,⟨p,fun k=>[l0,l1].idxOf (O k),c0,rfl,hb.1,hg.1,hg.2,h0.m (De hd.1) (Ft hd.2.2 (by simp)) (fun k a b=>frNe0 hb1 k a b.1)⟩,hb1⟩
theorem cxcell {cx:Cx} {w:World} {g:Nat} {c:Value} (h:Blk w g cx.ty (cx.pre ++ c :: cx.post)):w.cell? ⟨g,cx.pre.length,none⟩=some c:=h.cell (by simp)
theorem Mi {α:Type} (v c:α) (post:List α):∀ (pre:List α),(pre ++ c :: post).set pre.length v=pre ++ v :: post
  | []=>rfl
  | x :: pre=>by simp [Mi v c post pre]
section
variable {P : Program} {n : Nat} {ops : Array Oper} {Q : Post} {rest : List Oper} {l : Env} {w : World} {ty : TypeId} {pos : String} {aft : Array Edge}
theorem Li {i:Nat} {O:Lab} {cx:Cx} {t:TypeId} {z:Value} {bytes:Nat} [TInfo P t z 1 bytes] {x y:Operand} {g:Nat} {c v:Value} (hL:Lc i w O g cx.ty (cx.pre ++ c :: cx.post)) (hx:opv l x=some (.pointer (some ⟨g,cx.pre.length,none⟩))) (hy:opv l y=some v)
    (hsz:v.cells.toList=[v]) (h1:∀ u∈v.cells.toList,u.oneCell'=true)
    (h:∀ w',St (eT i) w O w' O→Lc i w' O g cx.ty (cx.pre ++ v :: cx.post)→owp P n ops Q rest l w'):owp P n ops Q (⟨none,.store t x y,ty,pos,aft,none⟩ :: rest) l w:=by
  refine AT hL hx hy (by rw [hsz];rfl) (by simp) h1 fun w' hS hL'=>h w' hS ?_
  rw [hsz] at hL'
  have e:setFrom (cx.pre ++ c :: cx.post) cx.pre.length [v]=cx.pre ++ v :: cx.post:=by
    show (cx.pre ++ c :: cx.post).set cx.pre.length v=_
    rw [Mi]
  rwa [e] at hL'
end
end
section
open Go Go.RowKit
class TMap (P:Program) (t:TypeId) (k e:outParam TypeId):Prop where eq:P.underlying t=some (.map k e)
class MKey (K:Type) where
  dec:DecidableEq K
  enc:K→Value
  desc:TypeDesc
  key:∀ a,MapKept.IsKey desc (enc a)
  inj:∀ a b,enc a=enc b→a=b
class TKey (P:Program) (t:TypeId) (K:Type) [MKey K]:Prop where eq:P.underlying t=some (MKey.desc K)
instance:MKey ByteArray where
  dec:=inferInstance
  enc a:=.string a
  desc:=.string
  key _:=trivial
  inj _ _ h:=by injection h
section
variable {K V : Type} [MKey K]
instance keyDec:DecidableEq K:=MKey.dec
def mhas:List (K×V)→K→Bool
  | [],_=>false
  | p :: r,k=>if p.1=k then true else mhas r k
def mget (z:V):List (K×V)→K→V
  | [],_=>z
  | p :: r,k=>if p.1=k then p.2 else mget z r k
def mput:List (K×V)→K→V→List (K×V)
  | [],k,v=>[(k,v)]
  | p :: r,k,v=>if p.1=k then (k,v) :: r else p :: mput r k v
def midx:List (K×V)→K→Option Nat
  | [],_=>none
  | p :: r,k=>if p.1=k then some 0 else (midx r k).map (· + 1)
theorem FF (a:K):∀ (es:List MapEntry) (x:List (K×V)) (i:Nat),es.map (·.key)=x.map (fun p=>MKey.enc p.1) →
    (midx x a=none∧Instr.findNow (MKey.desc K) (MKey.enc a) es i=some none∧mhas x a=false∧(∀ z,mget z x a=z)∧∀ v,mput x a v=x ++ [(a,v)]) ∨
    ∃ j e p,midx x a=some j∧es[j]?=some e∧x[j]?=some p∧Instr.findNow (MKey.desc K) (MKey.enc a) es i=some (some (i + j,e.val))∧e.key=MKey.enc a∧mhas x a=true∧(∀ z,mget z x a=p.2)∧∀ v,mput x a v=x.set j (a,v)
  | [],[],_,_=>.inl ⟨rfl,rfl,rfl,fun _=>rfl,fun _=>rfl⟩
  | [],_ :: _,_,h=>by simp at h
  | _ :: _,[],_,h=>by simp at h
  | e :: es,p :: x,i,h=>by
    rw [List.map_cons,List.map_cons] at h
    injection h with h1 h2
    obtain ⟨r,hr,hiff⟩:=MapKept.sameNow_of_keys (MKey.key a) (MKey.key p.1)
    by_cases hp:p.1=a
    · have:r=true:=hiff.2 (by rw [hp])
      subst this
      refine .inr ⟨0,e,p,by simp [midx,hp],rfl,rfl,?_,by rw [h1,hp],by simp [mhas,hp],fun z=>by simp [mget,hp],fun v=>by simp [mput,hp]⟩
      simp [Instr.findNow,h1,hr]
    · have:r=false:=by
        cases r with
        | false=>rfl
        | true=>exact absurd (MKey.inj _ _ (hiff.1 rfl)).symm hp
      subst this
      rcases FF a es x (i + 1) h2 with ⟨g0,g1,g2,g3,g4⟩|⟨j,e',p',g0,g1,g2,g3,g4,g5,g6,g7⟩
      · exact .inl ⟨by simp [midx,hp,g0],by simp [Instr.findNow,h1,hr,g1],by simp [mhas,hp,g2],fun z=>by simp [mget,hp,g3],fun v=>by simp [mput,hp,g4]⟩
      · refine .inr ⟨j + 1,e',p',by simp [midx,hp,g0],by simpa using g1,by simpa using g2,?_,g4,by simp [mhas,hp,g5],fun z=>by simp [mget,hp,g6],fun v=>by simp [mput,hp,g7]⟩
        simp [Instr.findNow,h1,hr,g3];omega
end
def LkV (d:TypeDesc) (z:Value) (w:World) (r:Nat) (key v:Value) (b:Bool):Prop:=∃ es ck a,w.heap[r]?=some (.map es ck)∧Instr.findNow d key es.toList 0=some a∧v=(match a with|some p=>p.2|none=>z)∧b=a.isSome
section
variable {P : Program} {l : Env} {w : World} {dst : Option Tmp} {ty : TypeId} {pos : String} {aft : Array Edge}
theorem Qy {K:Type} [MKey K] {t k e:TypeId} [ht:TMap P t k e] [hk:TKey P k K] {z:Value} {size bytes:Nat} [TInfo P e z size bytes] {x y:Operand} {r:Nat} {a:K} {v:Value} {b:Bool} (hx:opv l x=some (.map (some r))) (hy:opv l y=some (MKey.enc a)) (hv:LkV (MKey.desc K) z w r (MKey.enc a) v b) :
    Ev P ⟨dst,.lookup t x y true,ty,pos,aft,none⟩ l w (.tuple #[v,.bool b]):=fun _ _ d ha=>by
  obtain ⟨es,ck,q,h1,h2,h3,h4⟩:=hv
  have hb:(dr w d).heap[r]?=some (.map es ck):=h1
  subst h3;subst h4
  cases q with
  | none=>simp [execOp,ha.eval hx,ha.eval hy,Instr.lookup,run_underlying ht.eq,MapKept.run_getObj_map hb,MapKept.run_checkKey hk.eq (MKey.key a),MapKept.run_findKey hk.eq h2,Result.andThen,GY (P:=P) (t:=e)]
  | some p=>simp [execOp,ha.eval hx,ha.eval hy,Instr.lookup,run_underlying ht.eq,MapKept.run_getObj_map hb,MapKept.run_checkKey hk.eq (MKey.key a),MapKept.run_findKey hk.eq h2,Result.andThen]
end
def putEs (es:List MapEntry) (ck:Nat) (key v:Value):Option Nat→List MapEntry
  | none=>es ++ [{ key:=key,val:=v,born:=ck }]
  | some j=>es.modify j fun e=>{ e with key:=key,val:=v }
section
variable {P : Program} {n : Nat} {ops : Array Oper} {Q : Post} {rest : List Oper} {l : Env} {w : World} {d : Tmp} {ty : TypeId} {pos : String} {aft : Array Edge}
theorem NZ {K V:Type} [MKey K] {t k e:TypeId} [ht:TMap P t k e] [hk:TKey P k K] {x y u:Operand} {r ck:Nat} {a:K} {v:Value} {es:List MapEntry} {xs:List (K×V)} (hb:w.heap[r]?=some (.map es.toArray ck)) (hks:es.map (·.key)=xs.map (fun p=>MKey.enc p.1)) (hx:opv l x=some (.map (some r))) (hy:opv l y=some (MKey.enc a)) (hu:opv l u=some v)
    (h:∀ w' ck',w'.os=w.os→w'.tape=w.tape→w'.output=w.output→w'.heap.size=w.heap.size→w'.heap[r]?=some (.map (putEs es ck (MKey.enc a) v (midx xs a)).toArray ck')→(∀ q,q≠r→w'.heap[q]?=w.heap[q]?)→owp P n ops Q rest l w'):owp P n ops Q (⟨none,.mapUpdate t x y u,ty,pos,aft,none⟩ :: rest) l w:=fun ac d ha=>by
  refine wpList_plain rfl fun K' hK=>?_
  have hbd:(dr w d).heap[r]?=some (.map es.toArray ck):=hb
  unfold Oper.wp
  rcases FF a es xs 0 hks with ⟨g0,g1,_⟩|⟨j,e',p,g0,g1,g2,g3,g4,_⟩
  · have hr:(execOp ac.eval ⟨none,.mapUpdate t x y u,ty,pos,aft,none⟩).run P (dr w d)=.ok .skip { (dr w d) with heap:=(dr w d).heap.setIfInBounds r (.map (es.toArray.push { key:=MKey.enc a,val:=v,born:=ck }) (ck + 1)) }:=by
      simp [execOp,ha.eval hx,ha.eval hy,ha.eval hu,Instr.mapUpdate,run_underlying ht.eq,MapKept.run_getObj_map hbd,MapKept.run_checkKey hk.eq (MKey.key a),MapKept.run_findKey hk.eq g1,MapKept.run_setObj_map _ hbd,Result.andThen]
    rw [hr]
    refine hK _ _ (h { w with heap:=w.heap.setIfInBounds r (.map (es.toArray.push { key:=MKey.enc a,val:=v,born:=ck }) (ck + 1)) } (ck + 1) rfl rfl rfl (by simp) ?_ (fun q hq=>(MapKept.heap_set hb).2 q hq) _ d ha)
    rw [g0]
    simpa [putEs] using (MapKept.heap_set hb).1
  · have hj:es.toArray[j]?=some e':=by simpa using g1
    have hj':es[j]?=some e':=g1
    rw [Nat.zero_add] at g3
    have hr:(execOp ac.eval ⟨none,.mapUpdate t x y u,ty,pos,aft,none⟩).run P (dr w d)=.ok .skip { (dr w d) with heap:=(dr w d).heap.setIfInBounds r (.map (es.toArray.modify j fun e=>{ e with key:=MKey.enc a,val:=v }) ck) }:=by
      simp [execOp,ha.eval hx,ha.eval hy,ha.eval hu,Instr.mapUpdate,run_underlying ht.eq,MapKept.run_getObj_map hbd,MapKept.run_checkKey hk.eq (MKey.key a),MapKept.run_findKey hk.eq g3,hj',g4,MapKept.run_keyThatStays (MKey.key a),MapKept.run_setObj_map _ hbd,Result.andThen]
    rw [hr]
    refine hK _ _ (h { w with heap:=w.heap.setIfInBounds r (.map (es.toArray.modify j fun e=>{ e with key:=MKey.enc a,val:=v }) ck) } ck rfl rfl rfl (by simp) ?_ (fun q hq=>(MapKept.heap_set hb).2 q hq) _ d ha)
    rw [g0]
    have:=(MapKept.heap_set (o':=.map (es.toArray.modify j fun e=>{ e with key:=MKey.enc a,val:=v }) ck) hb).1
    simpa [putEs] using this
theorem Nl {t:TypeId} (hd:Nat.blt d n=true) (h:∀ w',Ext w w'→w'.heap.size=w.heap.size + 1→w'.heap[w.heap.size]?=some (.map #[] 0)→owp P n ops Q rest ((d,.map (some w.heap.size)) :: l) w'):owp P n ops Q (⟨some d,.makeMap t none,ty,pos,aft,none⟩ :: rest) l w :=
  GQ (w':=w.alloc (.map #[] 0)) (fun a e ha=>.inl ⟨.map (some w.heap.size),e,by simp [execOp,Instr.makeMap];exact ⟨rfl,rfl⟩,ha.put hd _⟩)
    (h _ ((Below.refl _ _).alloc (Nat.le_refl _) _) (by simp) (by show (w.heap.push _)[_]?=_;simp))
end
theorem MJ {K V:Type} [MKey K] {es:List MapEntry} {xs:List (K×V)} (ck:Nat) (a:K) (v:Value) (y:V) (h:es.map (·.key)=xs.map (fun p=>MKey.enc p.1)):(putEs es ck (MKey.enc a) v (midx xs a)).map (·.key)=(mput xs a y).map (fun p=>MKey.enc p.1):=by
  rcases FF a es xs 0 h with ⟨g0,_,_,_,g4⟩|⟨j,e',p,g0,g1,g2,g3,g4,_,_,g7⟩
  · rw [g0,g4];simp [putEs,h]
  · rw [g0,g7]
    simp only [putEs,List.map_set,← h]
    apply List.ext_getElem?
    intro q
    rw [List.getElem?_map,List.getElem?_modify,List.getElem?_set]
    by_cases hq:j=q
    · subst hq
      have hlt:j < es.length:=AF g1
      simp [g1,hlt]
    · simp [hq]
structure MapP (K V:Type) where
  l:List (K×V)
def VA {V:Type} [Rp V] (w:World) (F:Nat→Prop) (es:List MapEntry) {K:Type} (xs:List (K×V)):Prop:=∀ (j:Nat) (e:MapEntry) (p:K×V),es[j]?=some e→xs[j]?=some p→Vb w F e.val p.2
instance {K V:Type} [MKey K] [Rp V]:Ow (MapP K V) where
  R w F M v x:=∃ (r:Nat) (es:List MapEntry) (ck:Nat),v=.map (some r)∧w.heap[r]?=some (.map es.toArray ck)∧M r∧es.map (·.key)=x.l.map (fun p=>MKey.enc p.1)∧VA w F es x.l
  agree:=by rintro w w' F M v x ⟨r,es,ck,rfl,hb,hM,hk,hv⟩ a1 a2;exact ⟨r,es,ck,rfl,(a2 r hM).trans hb,hM,hk,fun j e p h1 h2=>(hv j e p h1 h2).agree a1⟩
  mono:=by rintro w F M F' M' v x ⟨r,es,ck,rfl,hb,hM,hk,hv⟩ a1 a2 a3;exact ⟨r,es,ck,rfl,hb,a2 r hM,hk,fun j e p h1 h2=>(hv j e p h1 h2).mono a1⟩
class OwM (α:Type) [Ow α]:Prop where
  mptr:∀ {w:World} {F M:Nat→Prop} {v:Value} {x:α},Ow.R w F M v x→∃ r,v=.map (some r)
theorem Ob.mptr {α:Type} [Ow α] [OwM α] {i:Nat} {w:World} {O:Lab} {v:Value} {x:α} (h:Ob i w O v x):∃ r,v=.map (some r):=OwM.mptr h.1
instance {K V:Type} [MKey K] [Rp V]:OwM (MapP K V):=⟨by rintro w F M v x ⟨r,es,ck,rfl,_⟩;exact ⟨r,rfl⟩⟩
theorem VA.put {K V:Type} [MKey K] [Rp V] {w:World} {F:Nat→Prop} {es:List MapEntry} {xs:List (K×V)} {ck:Nat} {a:K} {v:Value} {y:V} (hk:es.map (·.key)=xs.map (fun p=>MKey.enc p.1)) (h:VA w F es xs) (hv:Vb w F v y):VA w F (putEs es ck (MKey.enc a) v (midx xs a)) (mput xs a y):=by
  have hlen:es.length=xs.length:=by have:=congrArg List.length hk;simpa using this
  intro q e p h1 h2
  rcases FF a es xs 0 hk with ⟨g0,_,_,_,g4⟩|⟨j,e',p',g0,g1,g2,g3,g4,_,_,g7⟩
  · rw [g0] at h1
    rw [g4] at h2
    simp only [putEs] at h1
    by_cases hq:q < es.length
    · rw [List.getElem?_append_left hq] at h1
      rw [List.getElem?_append_left (by omega)] at h2
      exact h q e p h1 h2
    · rw [List.getElem?_append_right (by omega)] at h1
      rw [List.getElem?_append_right (by omega)] at h2
      cases hz:q - es.length with
      | zero =>
        rw [hz] at h1
        rw [show q - xs.length=0 from by omega] at h2
        simp at h1 h2
        subst h1;subst h2
        exact hv
      | succ m=>rw [hz] at h1;simp at h1
  · rw [g0] at h1
    rw [g7] at h2
    simp only [putEs] at h1
    rw [List.getElem?_modify] at h1
    rw [List.getElem?_set] at h2
    by_cases hq:j=q
    · subst hq
      have hlt:=AF g2
      rw [g1] at h1
      simp [hlt] at h1 h2
      subst h1;subst h2
      exact hv
    · simp [hq] at h1 h2
      exact h q e p h1 h2
section
variable {K V : Type} [MKey K] [Rp V] {i : Nat} {w : World} {O : Lab} {r : Nat} {x : MapP K V}
theorem MapP.get (h:Ob i w O (.map (some r)) x) (a:K) {z:Value} {z0:V} (hz:Vb w (Fr 0 w O) z z0):∃ v,LkV (MKey.desc K) z w r (MKey.enc a) v (mhas x.l a)∧Vb w (Fr 0 w O) v (mget z0 x.l a):=by
  obtain ⟨⟨r',es,ck,hv,hb,hM,hk,hva⟩,_⟩:=h
  injection hv with hv
  injection hv with hv
  subst hv
  rcases FF a es x.l 0 hk with ⟨g0,g1,g2,g3,g4⟩|⟨j,e',p,g0,g1,g2,g3,g4,g5,g6,g7⟩
  · exact ⟨z,⟨_,ck,none,hb,by simpa using g1,rfl,g2⟩,by rw [g3];exact hz⟩
  · exact ⟨e'.val,⟨_,ck,some (0 + j,e'.val),hb,by simpa using g3,rfl,g5⟩,by rw [g6];exact hva j e' p g1 g2⟩
end
section
variable {P : Program} {n : Nat} {ops : Array Oper} {Q : Post} {rest : List Oper} {l : Env} {w : World} {d : Tmp} {ty : TypeId} {pos : String} {aft : Array Edge} {K V : Type} [MKey K] {i : Nat} {O : Lab} {r : Nat}
theorem Qz [Rp V] {x:MapP K V} {t k e:TypeId} [TMap P t k e] [TKey P k K] {m y u:Operand} {a:K} {v:Value} {b:V} (hM:Ob i w O (.map (some r)) x) (hv:Vb w (Fr 0 w O) v b) (hx:opv l m=some (.map (some r))) (hy:opv l y=some (MKey.enc a)) (hu:opv l u=some v)
    (h:∀ w',St (eT i) w O w' O→Ob i w' O (.map (some r)) (⟨mput x.l a b⟩:MapP K V)→owp P n ops Q rest l w'):owp P n ops Q (⟨none,.mapUpdate t m y u,ty,pos,aft,none⟩ :: rest) l w:=by
  obtain ⟨⟨r',es,ck,hv',hb,hM',hk,hva⟩,hi⟩:=hM
  injection hv' with hv'
  injection hv' with hv'
  subst hv'
  refine NZ hb hk hx hy hu fun w' ck' e1 e2 e3 e4 e5 e6=>?_
  have hS:St (eT i) w O w' O:=⟨e1,e2,e3,by omega,fun q hq hT=>⟨e6 q fun e=>hT (by rw [e];exact hM'.2),rfl⟩⟩
  have h0:¬ (eT i) 0:=fun e=>hi e.symm
  refine h w' hS ⟨⟨r,_,ck',rfl,e5,⟨by rw [e4];exact hM'.1,hM'.2⟩,MJ ck a v b hk,?_⟩,hi⟩
  have:=hva.put (ck:=ck) hk hv (a:=a)
  exact fun j e p h1 h2=>((this j e p h1 h2).agree (hS.agree h0)).mono (hS.fr h0)
theorem Pp [Rp V] {t:TypeId} (i:Nat) (hi:i≠0) (O:Lab) (hd:Nat.blt d n=true) (h:∀ g w' O',St nT w O w' O'→Ob i w' O' (.map (some g)) (⟨[]⟩:MapP K V)→owp P n ops Q rest ((d,.map (some g)) :: l) w'):owp P n ops Q (⟨some d,.makeMap t none,ty,pos,aft,none⟩ :: rest) l w :=
  Nl hd fun w' hE hs hb=>h _ w' _ (hE.st O fun _=>i) ⟨⟨w.heap.size,[],0,rfl,hb,⟨by omega,EL (Nat.le_refl _)⟩,rfl,fun j e p h1 _=>by simp at h1⟩,hi⟩
end
section
variable {P : Program} {n : Nat} {ops : Array Oper} {Q : Post} {rest : List Oper} {l : Env} {w : World} {d : Tmp} {ty : TypeId} {pos : String} {aft : Array Edge} {S : World → Prop} {rr : List (Nat × Bool)} {i' : Nat}
theorem Ra {K:Type} [MKey K] {t k e:TypeId} [TMap P t k e] [TKey P k K] {z:Value} {size bytes:Nat} [TInfo P e z size bytes] {x y:Operand} {r:Nat} {v:Value} {b:Bool} (a:K) (hv:LkV (MKey.desc K) z w r (MKey.enc a) v b) (hx:opv l x=some (.map (some r))) (hy:opv l y=some (MKey.enc a)) (hd:Nat.blt d n=true) (h:owp P n ops Q rest ((d,.tuple #[v,.bool b]) :: l) w):owp P n ops Q (⟨some d,.lookup t x y true,ty,pos,aft,none⟩ :: rest) l w:=Bz (Qy hx hy hv) hd h
end
end
section
open Go Go.RowKit
attribute [local irreducible] ewp owp hwp hwq hws Ev Evg Fn retPost loud loudS Res1
attribute [local irreducible] hwx loudX
structure OEn where
  cost:Int
  number:Int
  node:Int
instance:Rp OEn where
  isAgg:=true
  size:=3
  R w F cs x:=cs=[.int .i64 x.cost,.int .i64 x.number,.int .i64 x.node]∧inI64 x.cost∧inI64 x.number∧inI64 x.node
  len:=by rintro w F cs x ⟨rfl,h0,h1,h2⟩;rfl
  one:=by rintro w F cs x ⟨rfl,h0,h1,h2⟩ u hu;simp at hu;rcases hu with rfl|rfl|rfl<;>first|rfl|exact Vb.one rfl (by assumption)
  agree:=by rintro w w' F cs x ⟨rfl,h0,h1,h2⟩ ha;exact ⟨rfl,h0,h1,h2⟩
  mono:=by rintro w F G cs x ⟨rfl,h0,h1,h2⟩ ha;exact ⟨rfl,h0,h1,h2⟩
instance : TMth Tryz.prog 76 "Len" 26 false := ⟨by kernel_rfl⟩
instance : TMth Tryz.prog 76 "Less" 155 false := ⟨by kernel_rfl⟩
instance : TMth Tryz.prog 76 "Pop" 157 true := ⟨by kernel_rfl⟩
instance : TMth Tryz.prog 76 "Push" 158 true := ⟨by kernel_rfl⟩
instance : TMth Tryz.prog 76 "Swap" 156 false := ⟨by kernel_rfl⟩
noncomputable def Ca (x0:List OEn):Option Int :=
  some (x0.length:Int)
theorem Fb {w:World} {A:Nat→Prop} (hA:∀ k,A k→k < w.heap.size) {vx0:Value} {x0:List OEn} (a0:Vb w A vx0 x0) {r:Int} (hm:Ca x0=some r) :
    Fn Tryz.prog 26 [vx0] w fun v w'=>Ext w w'∧Vb w' (upA A w w') v r:=by
 obtain ⟨O,hB,b0⟩:=enter hA
 replace a0:=a0.mono b0
 obtain ⟨A2,c3,rfl⟩:=a0.form
 refine AK Tryz.func26 rfl Tryz.ntmps26 rfl ?_
 unfold Ca at hm
 refine Al (Aj (Aw rfl rfl (o_z ?_)))
 refine Al (Aj (Ar rfl rfl (AY rfl rfl ?_)))
 have l5:x0.length≤9223372036854775807:=Nat.le_trans a0.len.2.1 a0.len.2.2
 have r4:inI64 (x0.length:Int):=rngNat l5
 refine Aw rfl rfl (o_z ?_)
 refine AH ?_
 obtain rfl:=sm hm
 exact ret1v rfl (AE rfl) ⟨hB.ext,(vInt r4)⟩
noncomputable def Cd (x0:List OEn) (x1:Int) (x2:Int):Option Bool :=
  bnd (atI x0 x1) fun a6=>bnd (atI x0 x2) fun a20=>if a6.cost≠a20.cost then (bnd (bnd (atI x0 x1) fun a39=>bnd (atI x0 x2) fun a53=>if a39.cost < a53.cost then (some true) else (some false):Option Bool) fun y35=>some y35) else (bnd (bnd (atI x0 x1) fun a76=>bnd (atI x0 x2) fun a90=>if a76.number < a90.number then (some true) else (some false):Option Bool) fun y72=>some y72)
theorem EP {w:World} {A:Nat→Prop} (hA:∀ k,A k→k < w.heap.size) {vx0:Value} {x0:List OEn} (c0:Vb w A vx0 x0) {x1:Int} (rx1:inI64 x1) {x2:Int} (rx2:inI64 x2) {r:Bool} (hm:Cd x0 x1 x2=some r) :
    Fn Tryz.prog 155 [vx0,(.int .i64 x1),(.int .i64 x2)] w fun v w'=>Ext w w'∧Vb w' (upA A w w') v r:=by
 obtain ⟨O,hB,b1⟩:=enter hA
 replace c0:=c0.mono b1
 obtain ⟨A4,c5,rfl⟩:=c0.form
 refine AK Tryz.func155 rfl Tryz.ntmps155 rfl ?_
 unfold Cd at hm
 refine Al (Aj (Aw rfl rfl (o_z ?_)))
 refine Al (Al (Cw (·=w) [(0,true),(1,true),(2,true),(3,true),(4,true),(5,true),(6,true),(7,true),(8,true),(9,true),(10,true)] (by kernel_rfl) rfl (by kernel_rfl) rfl ?_))
 refine AN rfl rfl rfl (AN rfl rfl rfl ?_)
 obtain ⟨a6,e7,hm⟩:=bs hm
 obtain ⟨p9,x8⟩:=AZ e7
 obtain ⟨i2,j2,c1,f0,g0,h0,rfl,k2,l2,m2⟩:=c0.elem' x8
 refine BH (hA:=f0) (hj:=(Int.toNat_of_nonneg p9).symm) (hlt:=g0) rfl rfl rfl rfl ?_
 refine Be rfl rfl rfl (CY (hc:=cat0 h0) rfl rfl rfl ?_)
 refine AN rfl rfl rfl (AN rfl rfl rfl ?_)
 obtain ⟨n2,d1,hm⟩:=bs hm
 obtain ⟨e1,f1⟩:=AZ d1
 obtain ⟨o2,p2,g1,i0,j0,k0,rfl,q2,r2,s2⟩:=c0.elem' f1
 refine BH (hA:=i0) (hj:=(Int.toNat_of_nonneg e1).symm) (hlt:=j0) rfl rfl rfl rfl ?_
 refine Be rfl rfl rfl (CY (hc:=cat0 k0) rfl rfl rfl ?_)
 refine Ik rfl rfl rfl rfl (fun l0=>?_) fun l0=>?_
 ·
  replace hm:=ip hm l0
  refine h_z ?_
  refine Ah rfl (Al ?_)
  obtain ⟨h1,a0,hm⟩:=bs hm
  refine AL (fun l' w'=>∃ (i1:Unit) (O':Lab),subs l' [(6,(.bool h1))]∧Bs w A w' O') ?_ ?_
  ·
   refine Cw (·=w) [(0,true),(1,true),(2,true),(3,true),(4,true),(5,true),(6,true),(7,true),(8,true),(9,true),(10,true),(11,true)] (by kernel_rfl) rfl (by kernel_rfl) rfl ?_
   refine AN rfl rfl rfl (AN rfl rfl rfl ?_)
   obtain ⟨t2,j1,a0⟩:=bs a0
   obtain ⟨k1,l1⟩:=AZ j1
   obtain ⟨u2,v2,m1,m0,n0,o0,rfl,w2,y2,z2⟩:=c0.elem' l1
   refine BH (hA:=m0) (hj:=(Int.toNat_of_nonneg k1).symm) (hlt:=n0) rfl rfl rfl rfl ?_
   refine Be rfl rfl rfl (CY (hc:=cat0 o0) rfl rfl rfl ?_)
   refine AN rfl rfl rfl (AN rfl rfl rfl ?_)
   obtain ⟨a3,n1,a0⟩:=bs a0
   obtain ⟨o1,p1⟩:=AZ n1
   obtain ⟨b3,c3,q1,p0,q0,r0,rfl,d3,e3,f3⟩:=c0.elem' p1
   refine BH (hA:=p0) (hj:=(Int.toNat_of_nonneg o1).symm) (hlt:=q0) rfl rfl rfl rfl ?_
   refine Be rfl rfl rfl (CY (hc:=cat0 r0) rfl rfl rfl ?_)
   refine Fz rfl rfl rfl rfl (fun s0=>?_) fun s0=>?_
   ·
    replace a0:=ip a0 s0
    refine Fa rfl rfl rfl (h_z ?_)
    obtain rfl:=sm a0
    exact ⟨(),_,⟨rfl,trivial⟩,hB⟩
   replace a0:=im a0 s0
   refine Fa rfl rfl rfl (h_z ?_)
   obtain rfl:=sm a0
   exact ⟨(),_,⟨rfl,trivial⟩,hB⟩
  rintro g3 h3 ⟨i1,i3,t0,hB⟩
  refine AQ _ t0 ?_
  refine AH ?_
  obtain rfl:=sm hm
  exact ret1v rfl (AE rfl) ⟨hB.ext,vBool⟩
 replace hm:=im hm l0
 refine h_z ?_
 refine Ae rfl (AO (Al ?_))
 obtain ⟨r1,b0,hm⟩:=bs hm
 refine AL (fun l' w'=>∃ (s1:Unit) (O':Lab),subs l' [(6,(.bool r1))]∧Bs w A w' O') ?_ ?_
 ·
  refine Cw (·=w) [(0,true),(1,true),(2,true),(3,true),(4,true),(5,true),(6,true),(7,true),(8,true),(9,true),(10,true),(11,true)] (by kernel_rfl) rfl (by kernel_rfl) rfl ?_
  refine AN rfl rfl rfl (AN rfl rfl rfl ?_)
  obtain ⟨j3,t1,b0⟩:=bs b0
  obtain ⟨u1,v1⟩:=AZ t1
  obtain ⟨k3,l3,w1,u0,v0,w0,rfl,m3,n3,o3⟩:=c0.elem' v1
  refine BH (hA:=u0) (hj:=(Int.toNat_of_nonneg u1).symm) (hlt:=v0) rfl rfl rfl rfl ?_
  refine Be rfl rfl rfl (CY (hc:=cat1 w0) rfl rfl rfl ?_)
  refine AN rfl rfl rfl (AN rfl rfl rfl ?_)
  obtain ⟨p3,y1,b0⟩:=bs b0
  obtain ⟨z1,a2⟩:=AZ y1
  obtain ⟨q3,r3,b2,y0,z0,a1,rfl,c2,d2,e2⟩:=c0.elem' a2
  refine BH (hA:=y0) (hj:=(Int.toNat_of_nonneg z1).symm) (hlt:=z0) rfl rfl rfl rfl ?_
  refine Be rfl rfl rfl (CY (hc:=cat1 a1) rfl rfl rfl ?_)
  refine Fz rfl rfl rfl rfl (fun d0=>?_) fun d0=>?_
  ·
   replace b0:=ip b0 d0
   refine Fa rfl rfl rfl (h_z ?_)
   obtain rfl:=sm b0
   exact ⟨(),_,⟨rfl,trivial⟩,hB⟩
  replace b0:=im b0 d0
  refine Fa rfl rfl rfl (h_z ?_)
  obtain rfl:=sm b0
  exact ⟨(),_,⟨rfl,trivial⟩,hB⟩
 rintro f2 g2 ⟨s1,h2,e0,hB⟩
 refine AQ _ e0 ?_
 refine AH ?_
 obtain rfl:=sm hm
 exact ret1v rfl (AE rfl) ⟨hB.ext,vBool⟩
noncomputable def BU (x0:List OEn) (x1:Int) (x2:Int):Option (List OEn) :=
  bnd (atI x0 x2) fun a4=>bnd (atI x0 x1) fun a18=>bnd (atI x0 x1) fun a32=>bnd (atI (x0.set (x1:Int).toNat a4) x2) fun a48=>some ((x0.set (x1:Int).toNat a4).set (x2:Int).toNat a18)
theorem EQ {w:World} {O:Lab} {A0:Option Addr} {m0 c0 i0:Nat} {x0:List OEn} (a0:Rw i0 w O 73 (.slice A0 m0 c0) x0) {x1:Int} (rx1:inI64 x1) {x2:Int} (rx2:inI64 x2) {r:(List OEn)} (hm:BU x0 x1 x2=some r) :
    Fn Tryz.prog 156 [(.slice A0 m0 c0),(.int .i64 x1),(.int .i64 x2)] w fun v w'=>∃ O',St (eT i0) w O w' O'∧Rw i0 w' O' 73 (.slice A0 m0 c0) r:=by
 obtain ⟨O0,hE,u0,v0⟩:=ent1 (w:=w) (O:=O) a0.2.2
 obtain rfl:m0=x0.length:=a0.len.1
 have a0':=Rw.leave a0 u0 v0 (j:=2) (by decide)
 have hB:Bm w O0 w O0:=Bm.refl
 refine AK Tryz.func156 rfl Tryz.ntmps156 rfl ?_
 unfold BU at hm
 refine BA [(13,[2])] O0 ?_
 refine AR (fuel:=5) [] [(0,true),(1,true),(4,true),(5,true),(6,true),(7,true),(8,true),(9,true),(10,true),(11,true),(12,true)] (by kernel_rfl) rfl ?_
 refine AN rfl rfl rfl (AN rfl rfl rfl (AN rfl rfl rfl (AN rfl rfl rfl ?_)))
 obtain ⟨a4,e5,hm⟩:=bs hm
 obtain ⟨p7,x6⟩:=AZ e5
 obtain ⟨b8,o9,w0,f0,g0,h0,j0,rfl,y0,z0,a1⟩:=a0'.elemF x6
 refine BH (hA:=f0) (hj:=(Int.toNat_of_nonneg p7).symm) (hlt:=h0) rfl rfl rfl rfl ?_
 refine CR (hl:=rfl) (hb:=fun w' ⟨O',hq⟩=>(AU (hq.agree (i:=2) (by decide)) g0 j0)) rfl rfl rfl ?_
 refine AN rfl rfl rfl (AN rfl rfl rfl ?_)
 obtain ⟨b0,b1,hm⟩:=bs hm
 obtain ⟨c1,d1⟩:=AZ b1
 obtain ⟨t1,u1,e1,k0,l0,n0,o0,rfl,f1,g1,h1⟩:=a0'.elemF d1
 refine BH (hA:=k0) (hj:=(Int.toNat_of_nonneg c1).symm) (hlt:=n0) rfl rfl rfl rfl ?_
 refine CR (hl:=rfl) (hb:=fun w' ⟨O',hq⟩=>(AU (hq.agree (i:=2) (by decide)) l0 o0)) rfl rfl rfl ?_
 obtain ⟨v1,i1,hm⟩:=bs hm
 obtain ⟨j1,r0⟩:=AZ i1
 obtain ⟨w1,y1,k1,d0,l1,p0,m1,rfl,z1,a2,b2⟩:=a0'.elemF r0
 refine BH (hA:=d0) (hj:=(Int.toNat_of_nonneg j1).symm) (hlt:=p0) rfl rfl rfl rfl ?_
 refine AB ?_
 refine AR (fuel:=3) [2] [(2,true),(3,true)] (by kernel_rfl) rfl ?_
 refine AN rfl rfl rfl (AN rfl rfl rfl (AB ?_))
 refine AP (i:=13) (by kernel_rfl) rfl ?_
 refine DW rfl a0' (a:=a4) (Vb.ofAgg (cs:=[(.int .i64 a4.cost),(.int .i64 a4.number),(.int .i64 a4.node)]) (x:=a4) rfl ⟨rfl,y0,z0,a1⟩) d0 rfl rfl (AF r0) fun c2 s0 a0'=>?_
 have hZ:=s0.lst [2] (fun _ h=>by cases h;decide)
 refine AV [] hZ (by kernel_rfl) ?_
 refine AR (fuel:=1) [] [(14,true)] (by kernel_rfl) rfl ?_
 obtain ⟨d2,n1,hm⟩:=bs hm
 obtain ⟨o1,t0⟩:=AZ n1
 obtain ⟨e2,f2,p1,e0,q1,q0,r1,rfl,g2,h2,i2⟩:=a0'.elemF t0
 refine BH (hA:=e0) (hj:=(Int.toNat_of_nonneg o1).symm) (hlt:=q0) rfl rfl rfl rfl ?_
 refine AB ?_
 refine AP (i:=15) (by kernel_rfl) rfl ?_
 refine DW rfl a0' (a:=b0) (Vb.ofAgg (cs:=[(.int .i64 b0.cost),(.int .i64 b0.number),(.int .i64 b0.node)]) (x:=b0) rfl ⟨rfl,f1,g1,h1⟩) e0 rfl rfl (AF t0) fun j2 s1 a0'=>?_
 refine Ch (by kernel_rfl) ?_
 refine Bo (by kernel_rfl) ?_
 obtain rfl:=sm hm
 replace hB:=(hB.st s0).st s1
 obtain ⟨O',hS',hz,hl⟩:=hE.leave (fun q=>if q=2 then i0 else 0) rfl hB
 exact ret0n rfl  ⟨O',hS',(Rw.leave a0' hz (hl 2 (by decide) (by decide)) a0.2.2)⟩
noncomputable def DQ (x0:BxR 67 73 OEn) (x1:An 73 OEn):Option (BxR 67 73 OEn) :=
  bnd (appI 24 x0.l [x1.x]) fun u31=>some (⟨u31⟩:BxR 67 73 OEn)
theorem Iw {w:World} {O:Lab} {cx:Cx} {p0 i0:Nat} {x0:BxR 67 73 OEn} (a0:Ob i0 w O (.pointer (some ⟨p0,cx.pre.length,none⟩)) (BxR.c cx x0)) {vx1:Value} {x1:An 73 OEn} (g0:Vb w (Fr 0 w O) vx1 x1) {r:(BxR 67 73 OEn)} (hm:DQ x0 x1=some r) :
    Fn Tryz.prog 158 [(.pointer (some ⟨p0,cx.pre.length,none⟩)),vx1] w fun v w'=>∃ O',St (eT i0) w O w' O'∧Ob i0 w' O' (.pointer (some ⟨p0,cx.pre.length,none⟩)) (BxR.c cx r):=by
 obtain ⟨O0,hE,k0,s0⟩:=ent1 (w:=w) (O:=O) a0.2
 have a0':=Ob.leave a0 k0 s0 (j:=2) (by decide)
 have hB:Bm w O0 w O0:=Bm.refl
 replace g0:=g0.mono k0
 obtain ⟨v3,rfl,h4⟩:=g0.any
 obtain ⟨f1,rfl,rfl,r6,r7,r8⟩:=h4
 refine AK Tryz.func158 rfl Tryz.ntmps158 rfl ?_
 unfold DQ at hm
 refine Al (Aj (Ar rfl rfl (Pb rfl rfl ?_)))
 refine Ar rfl rfl (CE rfl rfl rfl (CE rfl rfl rfl (Bf 3 O0 rfl fun g9 g1 t0 m0 b0=>?_)))
 refine AT b0 rfl rfl rfl (Bg rfl) (allOne rfl) fun u0 n0 b0=>?_
 replace b0:Lc 3 u0 t0 g9 73 [(.int .i64 x1.x.cost),(.int .i64 x1.x.number),(.int .i64 x1.x.node)]:=b0
 refine Aw rfl rfl (o_z ?_)
 refine Al (Aj (Ar rfl rfl (o_z ?_)))
 refine Ah rfl ?_
 replace a0':=(a0'.st m0).st n0
 obtain ⟨o0,h1,q0,v0,c0,d0⟩:=BxC.opn a0' 2 4 (by decide)
 obtain ⟨i1,j1,rfl⟩:=d0.form
 refine BA [(6,[4])] o0 ?_
 refine AR (fuel:=5) [] [(1,true),(2,true),(3,true),(4,true)] (by kernel_rfl) rfl ?_
 refine AN rfl rfl rfl (Dr rfl rfl rfl (AW (hc:=fun w' ⟨O',hq⟩=>cxcell ((c0.st hq (by decide)).1)) rfl rfl rfl ?_))
 replace b0:=b0.st q0
 refine CR (hl:=rfl) (hb:=fun w' ⟨O',hq⟩=>((b0.st hq (by decide)).1).cellsAt) rfl rfl rfl ?_
 refine AB ?_
 refine AR (fuel:=4) [4] [(0,true)] (by kernel_rfl) rfl ?_
 refine AN rfl rfl rfl (AB ?_)
 refine AP (i:=5) (by kernel_rfl) rfl ?_
 refine CB 5 (by decide) o0 (xs:=([x1.x]:List OEn)) rfl rfl rfl rfl ⟨(Vb.ofAgg (cs:=[(.int .i64 x1.x.cost),(.int .i64 x1.x.number),(.int .i64 x1.x.node)]) (x:=x1.x) rfl ⟨rfl,r6,r7,r8⟩),trivial⟩ (by decide) (by decide) rfl fun k1 m1 n1 e0 w0=>?_
 have hZ:=e0.lst [] (fun _ h=>h.elim)
 refine AV [(6,[4])] hZ (by kernel_rfl) ?_
 refine AP (i:=6) (by kernel_rfl) rfl ?_
 obtain ⟨y0,h0,hm⟩:=bs hm
 obtain ⟨h0,z0,a1⟩:=CC h0
 replace d0:=d0.st e0
 refine Eh rfl d0 (w0.rd) rfl rfl (by decide) z0 a1 rfl fun o1 p1 q1 r1 j0 f0=>?_
 rw [← h0] at f0 ⊢
 have hZ:=j0.lst [4] (fun _ h=>by cases h;decide)
 refine AV [] hZ (by kernel_rfl) ?_
 refine AR (fuel:=1) [] [(7,true)] (by kernel_rfl) rfl ?_
 refine Dr rfl rfl rfl (AB ?_)
 refine AP (i:=8) (by kernel_rfl) rfl ?_
 replace c0:=(c0.st e0).st j0
 refine Li c0 rfl rfl rfl (allOne rfl) fun s1 r0 c0=>?_
 refine Ch (by kernel_rfl) ?_
 refine Bo (by kernel_rfl) ?_
 replace f0:=f0.st r0
 obtain ⟨t1,b1,c1,d1,e1⟩:=BxC.shut (x:=(⟨y0⟩:BxR 67 73 OEn)) (l0:=2) (l1:=4) (by decide) c0 f0
 obtain rfl:=sm hm
 replace hB:=((((((hB.st m0).st n0).st q0).st e0).st j0).st r0).st b1
 obtain ⟨O',hS',hz,hl⟩:=hE.leave (fun q=>if q=2 then i0 else 0) rfl hB
 exact ret0n rfl  ⟨O',hS',(Ob.leave e1 hz (hl 2 (by decide) (by decide)) a0.2)⟩
noncomputable def Ej (x0:BxR 67 73 OEn):Option ((An 73 OEn)×(BxR 67 73 OEn)) :=
  bnd (chkI ((x0.l.length:Int) - 1)) fun n13=>bnd (atI x0.l n13) fun a16=>bnd (chkI ((x0.l.length:Int) - 1)) fun n39=>bnd (cutI x0.l 0 n39) fun u42=>some ((⟨a16⟩:An 73 OEn),(⟨u42⟩:BxR 67 73 OEn))
theorem IU {w:World} {O:Lab} {cx:Cx} {p0 i0:Nat} {x0:BxR 67 73 OEn} (c0:Ob i0 w O (.pointer (some ⟨p0,cx.pre.length,none⟩)) (BxR.c cx x0)) {r:(An 73 OEn)×(BxR 67 73 OEn)} (hm:Ej x0=some r) :
    Fn Tryz.prog 157 [(.pointer (some ⟨p0,cx.pre.length,none⟩))] w fun v w'=>∃ O',St (eT i0) w O w' O'∧Ob i0 w' O' (.pointer (some ⟨p0,cx.pre.length,none⟩)) (BxR.c cx r.2)∧Vb w' (Fr 0 w' O') v r.1:=by
 obtain ⟨O0,hE,o0,q0⟩:=ent1 (w:=w) (O:=O) c0.2
 have c0':=Ob.leave c0 o0 q0 (j:=2) (by decide)
 have hB:Bm w O0 w O0:=Bm.refl
 refine AK Tryz.func157 rfl Tryz.ntmps157 rfl ?_
 unfold Ej at hm
 refine Al (Aj (Aw rfl rfl (o_z ?_)))
 refine Al (Aj (Ar rfl rfl (Do rfl rfl ?_)))
 obtain ⟨O2,v6,S3,m1,h4,h7⟩:=BxC.opn c0' 2 3 (by decide)
 obtain ⟨A8,c9,rfl⟩:=h7.form
 refine AG (hc:=cxcell (h4.1)) rfl rfl ?_
 refine Aw rfl rfl (o_z ?_)
 refine Al (Aj (Ar rfl rfl (Ar rfl rfl (AY rfl rfl ?_))))
 have r0:x0.l.length≤9223372036854775807:=Nat.le_trans h7.len.2.1 h7.len.2.2
 have n1:inI64 (x0.l.length:Int):=rngNat r0
 obtain ⟨o1,m0,hm⟩:=bs hm
 have p1:=(CH m0)
 refine He (he:=m0) rfl rfl rfl ?_
 obtain ⟨a0,s0,hm⟩:=bs hm
 obtain ⟨t0,u0⟩:=AZ s0
 obtain ⟨q1,r1,v0,d0,e0,f0,rfl,w0,y0,z0⟩:=h7.elem u0
 refine BJ (hA:=d0) (hj:=(Int.toNat_of_nonneg t0).symm) (hlt:=e0) rfl rfl rfl ?_
 refine Bi (hl:=rfl) (hc:=f0) rfl rfl ?_
 refine Bf 4 O2 rfl fun a1 s1 b1 g0 b0=>?_
 refine AT b0 rfl rfl rfl (Bg rfl) (allOne rfl) fun c1 h0 b0=>?_
 replace b0:Lc 4 c1 b1 a1 73 [(.int .i64 a0.cost),(.int .i64 a0.number),(.int .i64 a0.node)]:=b0
 refine o_z ?_
 refine Al (Aj (Ar rfl rfl (Ar rfl rfl (Ar rfl rfl (AY rfl rfl ?_)))))
 replace h7:=(h7.st g0).st h0
 have d1:x0.l.length≤9223372036854775807:=Nat.le_trans h7.len.2.1 h7.len.2.2
 have t1:inI64 (x0.l.length:Int):=rngNat d1
 obtain ⟨u1,n0,hm⟩:=bs hm
 have v1:=(CH n0)
 refine He (he:=n0) rfl rfl rfl ?_
 obtain ⟨e1,f1,hm⟩:=bs hm
 obtain ⟨j0,g1⟩:=cutRw h7 f1
 refine Qs (hc:=g1) rfl rfl rfl ?_
 refine Do rfl rfl ?_
 replace h4:=(h4.st g0).st h0
 refine Li h4 rfl rfl rfl (allOne rfl) fun w1 k0 h4=>?_
 refine o_z ?_
 refine Al (Aj ?_)
 replace b0:=b0.st k0
 refine Bi (hl:=rfl) (hc:=(b0.1).cellsAt) rfl rfl ?_
 refine OZ rfl rfl ?_
 refine Aw rfl rfl (o_z ?_)
 refine AH ?_
 replace j0:=j0.st k0
 obtain ⟨x1,h1,i1,j1,k1⟩:=BxC.shut (x:=(⟨e1⟩:BxR 67 73 OEn)) (l0:=2) (l1:=3) (by decide) h4 j0
 obtain rfl:=sm hm
 replace hB:=((((hB.st S3).st g0).st h0).st k0).st h1
 obtain ⟨O',hS',hz,hl⟩:=hE.leave (fun q=>if q=2 then i0 else 0) rfl hB
 exact ret1v rfl (AE rfl) ⟨O',hS',(Ob.leave k1 hz (hl 2 (by decide) (by decide)) c0.2),(vAny (Vb.ofAgg (cs:=[(.int .i64 a0.cost),(.int .i64 a0.number),(.int .i64 a0.node)]) (x:=a0) rfl ⟨rfl,w0,y0,z0⟩))⟩
noncomputable def Db (x0:BxR 67 73 OEn) (x1:Int):Option (BxR 67 73 OEn) :=
  bnd (lop (ρ:=(BxR 67 73 OEn)) (fun (s5:Int×(BxR 67 73 OEn))=>bnd (chkI (s5.1 - 1)) fun n22=>bnd (quoT n22 2) fun n25=>bnd (if n25=s5.1 then (some true) else (bnd (Cd s5.2.l s5.1 n25) fun q42=>if q42=true then some false else some true):Option Bool) fun y28=>if y28=true then (some (.brk (s5.1,s5.2))) else (bnd (BU s5.2.l n25 s5.1) fun q73=>some (.next (n25,(⟨q73⟩:BxR 67 73 OEn))))) (x1,x0)) fun res3=>fin res3 fun (s90:Int×(BxR 67 73 OEn))=>some s90.2
theorem HC {w:World} {O:Lab} {cx:Cx} {p0 i0:Nat} {x0:BxR 67 73 OEn} (h0:Ob i0 w O (.pointer (some ⟨p0,cx.pre.length,none⟩)) (BxR.c cx x0)) {x1:Int} (rx1:inI64 x1) {r:(BxR 67 73 OEn)} (hm:Db x0 x1=some r) :
    Fn Tryz.prog 88 [(.iface 76 (.pointer (some ⟨p0,cx.pre.length,none⟩))),(.int .i64 x1)] w fun v w'=>∃ O',St (eT i0) w O w' O'∧Ob i0 w' O' (.pointer (some ⟨p0,cx.pre.length,none⟩)) (BxR.c cx r):=by
 obtain ⟨O0,hE,c1,d1⟩:=ent1 (w:=w) (O:=O) h0.2
 have h0':=Ob.leave h0 c1 d1 (j:=2) (by decide)
 have hB:Bm w O0 w O0:=Bm.refl
 refine AK Tryz.func88 rfl Tryz.ntmps88 rfl ?_
 unfold Db at hm
 obtain ⟨m0,e1,hm⟩:=bs hm
 refine AL (aft m0 (fun (s5:Int×(BxR 67 73 OEn)) (x6:Unit)=>[]) (fun s5 x6 w'=>∃ O':Lab,Bm w O0 w' O'∧Ob 2 w' O' (.pointer (some ⟨p0,cx.pre.length,none⟩)) (BxR.c cx s5.2)∧inI64 s5.1)) ?_ ?_
 ·
  refine Bb (Gb (σ:=Int×(BxR 67 73 OEn)) (X:=Unit) e1 (fun (s5:Int×(BxR 67 73 OEn)) (x6:Unit)=>[(0,(.iface 76 (.pointer (some ⟨p0,cx.pre.length,none⟩)))),(1,(.int .i64 s5.1))]) _ (fun s5 x6 w'=>∃ O':Lab,Bm w O0 w' O'∧Ob 2 w' O' (.pointer (some ⟨p0,cx.pre.length,none⟩)) (BxR.c cx s5.2)∧inI64 s5.1) _ () ⟨O0,hB,h0',rx1⟩ ⟨rfl,rfl,trivial⟩ ?_)
  rintro s5 x6 w9 f1 ⟨h2,hB,d0,j0⟩ a0 n0 e0
  refine Bb (Al (Aj (Ar rfl rfl ?_)))
  obtain ⟨i2,t0,a0⟩:=bs a0
  have u0:=(CH t0)
  refine He (he:=t0) rfl rfl rfl ?_
  obtain ⟨g1,v0,a0⟩:=bs a0
  have o0:=Mh v0 u0
  refine QZ (he:=v0) (hr:=u0) rfl rfl rfl ?_
  refine Aw rfl rfl (o_z ?_)
  refine Al (Al ?_)
  obtain ⟨h1,b0,a0⟩:=bs a0
  refine AL (fun l' w'=>∃ (i1:Unit) (O':Lab),subs l' [(0,(.iface 76 (.pointer (some ⟨p0,cx.pre.length,none⟩)))),(1,(.int .i64 s5.1)),(4,(.int .i64 g1)),(17,(.bool h1))]∧Bm w O0 w' O'∧Ob 2 w' O' (.pointer (some ⟨p0,cx.pre.length,none⟩)) (BxR.c cx s5.2)) ?_ ?_
  ·
   refine Aj (Ar rfl rfl (Ar rfl rfl (EJ rfl rfl rfl (fun q0=>?_) fun q0=>?_)))
   ·
    replace b0:=ip b0 q0
    refine Ar rfl rfl (Au rfl rfl rfl rfl (Au rfl rfl rfl rfl (Au rfl rfl rfl rfl (Au rfl rfl rfl rfl (Au rfl rfl rfl rfl (Bq rfl rfl rfl (o_z ?_)))))))
    obtain rfl:=sm b0
    exact ⟨(),_,⟨rfl,rfl,rfl,rfl,trivial⟩,hB,d0⟩
   replace b0:=im b0 q0
   refine Ar rfl rfl (Az rfl rfl (Ar rfl rfl (Az rfl rfl (Ar rfl rfl (Az rfl rfl (Ar rfl rfl (Az rfl rfl ?_)))))))
   obtain ⟨j1,j2,w0,k1,f0,c0⟩:=BxC.opn d0 2 3 (by decide)
   obtain ⟨k2,l2,rfl⟩:=c0.form
   obtain ⟨y0,m1,b0⟩:=bs b0
   refine HQ (O:=j1) (A:=All w9) (R:=fun w' F v=>Vb w' F v y0) (EP (fun _ h=>h) (c0).all j0 o0 m1) (Ff (cxcell f0.1)) rfl rfl rfl fun m2 n2 o2 g0 n1=>?_
   obtain rfl:=n1.bool
   cases y0
   case false =>
    replace b0:=iF b0
    refine Az rfl rfl (Cr rfl rfl (Br rfl rfl rfl (o_z ?_)))
    replace f0:=f0.st g0
    replace c0:=c0.st g0
    obtain ⟨p2,o1,p1,q1,r1⟩:=BxC.shut (x:=s5.2) (l0:=2) (l1:=3) (by decide) f0 c0
    obtain rfl:=sm b0
    exact ⟨(),_,⟨rfl,rfl,rfl,rfl,trivial⟩,((hB.st w0).st g0).st o1,r1⟩
   replace b0:=iT b0
   refine Az rfl rfl (Cq rfl rfl (Br rfl rfl rfl (o_z ?_)))
   replace f0:=f0.st g0
   replace c0:=c0.st g0
   obtain ⟨q2,s1,t1,u1,v1⟩:=BxC.shut (x:=s5.2) (l0:=2) (l1:=3) (by decide) f0 c0
   obtain rfl:=sm b0
   exact ⟨(),_,⟨rfl,rfl,rfl,rfl,trivial⟩,((hB.st w0).st g0).st s1,v1⟩
  rintro r2 s2 ⟨i1,t2,r0,hB,d0⟩
  refine AQ _ r0 ?_
  refine BW rfl (fun s0=>?_) (fun s0=>?_)
  ·
   replace a0:=ip a0 s0
   refine DM ?_
   obtain rfl:=sm a0
   exact show Exists _ from ⟨_,(),e0 _ rfl,trivial,_,hB,d0,j0⟩
  replace a0:=im' a0 s0
  refine AO (Al (Aj (Ar rfl rfl (Ar rfl rfl (Ar rfl rfl ?_)))))
  obtain ⟨w1,u2,y1,z1,k0,z0⟩:=BxC.opn d0 2 3 (by decide)
  obtain ⟨v2,w2,rfl⟩:=z0.form
  obtain ⟨a2,b2,a0⟩:=bs a0
  refine HP (O:=w1) (EQ z0 o0 j0 b2) (Ff (cxcell k0.1)) rfl rfl rfl fun x2 y2 z2 a1 b1=>?_
  refine o_z ?_
  refine Aj (Ar rfl rfl (Aw rfl rfl (o_z ?_)))
  replace k0:=k0.st a1
  obtain ⟨a3,c2,d2,e2,f2⟩:=BxC.shut (x:=(⟨a2⟩:BxR 67 73 OEn)) (l0:=2) (l1:=3) (by decide) (by have q:=k0;rw [← b1.len.1.symm] at q;exact q) b1.relen
  obtain rfl:=sm a0
  exact show Exists _ from ⟨_,(),rfl,⟨rfl,rfl,trivial⟩,_,((hB.st y1).st a1).st c2,f2,o0⟩
 rintro b3 c3 ⟨d3,e3,rfl,g2,f3,hB,d0,j0⟩
 replace hm:=Bl hm
 obtain rfl:=sm hm
 obtain ⟨O',hS',hz,hl⟩:=hE.leave (fun q=>if q=2 then i0 else 0) rfl hB
 exact ret0n rfl  ⟨O',hS',(Ob.leave d0 hz (hl 2 (by decide) (by decide)) h0.2)⟩
noncomputable def CP (x0:BxR 67 73 OEn) (x1:Int) (x2:Int):Option (Bool×(BxR 67 73 OEn)) :=
  bnd (lop (ρ:=Bool×(BxR 67 73 OEn)) (fun (s6:Int×(BxR 67 73 OEn))=>bnd (chkI (2 * s6.1)) fun n23=>bnd (chkI (n23 + 1)) fun n26=>bnd (if x2≤n26 then (some true) else (if n26 < 0 then (some true) else (some false)):Option Bool) fun y29=>if y29=true then (some (.brk (s6.1,s6.2))) else (bnd (bnd (chkI (n26 + 1)) fun n45=>bnd (if n45 < x2 then (bnd (Cd s6.2.l n45 n26) fun q62=>if q62=true then some true else some false) else (some false):Option Bool) fun y48=>if y48=true then (some n45) else (some n26):Option Int) fun y40=>bnd (Cd s6.2.l y40 s6.1) fun q97=>if q97=true then bnd (BU s6.2.l s6.1 y40) fun q109=>some (.next (y40,(⟨q109⟩:BxR 67 73 OEn))) else some (.brk (s6.1,s6.2)))) (x1,x0)) fun res4=>fin res4 fun (s126:Int×(BxR 67 73 OEn))=>bnd (if x1 < s126.1 then (some true) else (some false):Option Bool) fun y128=>some (y128,s126.2)
theorem GU {w:World} {O:Lab} {cx:Cx} {p0 i0:Nat} {x0:BxR 67 73 OEn} (r0:Ob i0 w O (.pointer (some ⟨p0,cx.pre.length,none⟩)) (BxR.c cx x0)) {x1:Int} (rx1:inI64 x1) {x2:Int} (rx2:inI64 x2) {r:Bool×(BxR 67 73 OEn)} (hm:CP x0 x1 x2=some r) :
    Fn Tryz.prog 60 [(.iface 76 (.pointer (some ⟨p0,cx.pre.length,none⟩))),(.int .i64 x1),(.int .i64 x2)] w fun v w'=>∃ O',St (eT i0) w O w' O'∧Ob i0 w' O' (.pointer (some ⟨p0,cx.pre.length,none⟩)) (BxR.c cx r.2)∧Vb w' (Fr 0 w' O') v r.1:=by
 obtain ⟨O0,hE,m2,n2⟩:=ent1 (w:=w) (O:=O) r0.2
 have r0':=Ob.leave r0 m2 n2 (j:=2) (by decide)
 have hB:Bm w O0 w O0:=Bm.refl
 refine AK Tryz.func60 rfl Tryz.ntmps60 rfl ?_
 unfold CP at hm
 refine Al (Aj (Aw rfl rfl (o_z ?_)))
 refine Al (Aj (Ar rfl rfl (Aw rfl rfl (o_z ?_))))
 refine Al ?_
 obtain ⟨z0,o2,hm⟩:=bs hm
 refine AL (aft z0 (fun (s6:Int×(BxR 67 73 OEn)) (x7:Unit)=>[(1,(.int .i64 x1)),(7,(.int .i64 s6.1))]) (fun s6 x7 w'=>∃ O':Lab,Bm w O0 w' O'∧Ob 2 w' O' (.pointer (some ⟨p0,cx.pre.length,none⟩)) (BxR.c cx s6.2)∧inI64 s6.1)) ?_ ?_
 ·
  refine Bb (Gb (σ:=Int×(BxR 67 73 OEn)) (X:=Unit) o2 (fun (s6:Int×(BxR 67 73 OEn)) (x7:Unit)=>[(0,(.iface 76 (.pointer (some ⟨p0,cx.pre.length,none⟩)))),(1,(.int .i64 x1)),(2,(.int .i64 x2)),(7,(.int .i64 s6.1))]) _ (fun s6 x7 w'=>∃ O':Lab,Bm w O0 w' O'∧Ob 2 w' O' (.pointer (some ⟨p0,cx.pre.length,none⟩)) (BxR.c cx s6.2)∧inI64 s6.1) _ () ⟨O0,hB,r0',rx1⟩ ⟨rfl,rfl,rfl,rfl,trivial⟩ ?_)
  rintro s6 x7 b4 p2 ⟨c4,hB,g0,s0⟩ a0 a1 h0
  refine Bb (Al (Aj (Ar rfl rfl ?_)))
  obtain ⟨d4,w1,a0⟩:=bs a0
  have e4:=(CH w1)
  refine QV (he:=w1) rfl rfl rfl ?_
  obtain ⟨y1,z1,a0⟩:=bs a0
  have a2:=(CH z1)
  refine Hd (he:=z1) rfl rfl rfl ?_
  refine Aw rfl rfl (o_z ?_)
  refine Al (Al ?_)
  obtain ⟨q2,c0,a0⟩:=bs a0
  refine AL (fun l' w'=>∃ (r2:Unit) (O':Lab),subs l' [(0,(.iface 76 (.pointer (some ⟨p0,cx.pre.length,none⟩)))),(1,(.int .i64 x1)),(2,(.int .i64 x2)),(7,(.int .i64 s6.1)),(8,(.int .i64 y1)),(21,(.bool q2))]∧Bm w O0 w' O'∧Ob 2 w' O' (.pointer (some ⟨p0,cx.pre.length,none⟩)) (BxR.c cx s6.2)) ?_ ?_
  ·
   refine Aj (Ar rfl rfl (Ar rfl rfl (FU rfl rfl rfl (fun b1=>?_) fun b1=>?_)))
   ·
    replace c0:=ip c0 b1
    refine Ar rfl rfl (Au rfl rfl rfl rfl (Au rfl rfl rfl rfl (Bq rfl rfl rfl (o_z ?_))))
    obtain rfl:=sm c0
    exact ⟨(),_,⟨rfl,rfl,rfl,rfl,rfl,rfl,trivial⟩,hB,g0⟩
   replace c0:=im c0 b1
   refine Ar rfl rfl (Az rfl rfl (Ar rfl rfl (Az rfl rfl (DI rfl rfl rfl (fun c1=>?_) fun c1=>?_))))
   ·
    replace c0:=ip c0 c1
    refine Br rfl rfl rfl (o_z ?_)
    obtain rfl:=sm c0
    exact ⟨(),_,⟨rfl,rfl,rfl,rfl,rfl,rfl,trivial⟩,hB,g0⟩
   replace c0:=im c0 c1
   refine Br rfl rfl rfl (o_z ?_)
   obtain rfl:=sm c0
   exact ⟨(),_,⟨rfl,rfl,rfl,rfl,rfl,rfl,trivial⟩,hB,g0⟩
  rintro f4 s2 ⟨r2,g4,d1,hB,g0⟩
  refine AQ _ d1 ?_
  refine BW rfl (fun e1=>?_) (fun e1=>?_)
  ·
   replace a0:=ip a0 e1
   refine DM ?_
   obtain rfl:=sm a0
   exact show Exists _ from ⟨_,(),h0 _ rfl,⟨rfl,rfl,trivial⟩,_,hB,g0,s0⟩
  replace a0:=im' a0 e1
  refine AO (Al (Aj (Ar rfl rfl (Aw rfl rfl (o_z ?_)))))
  refine Al ?_
  obtain ⟨b2,d0,a0⟩:=bs a0
  refine AL (fun l' w'=>∃ (t2:Unit) (O':Lab),subs l' [(0,(.iface 76 (.pointer (some ⟨p0,cx.pre.length,none⟩)))),(1,(.int .i64 x1)),(2,(.int .i64 x2)),(7,(.int .i64 s6.1)),(9,(.int .i64 b2))]∧Bm w O0 w' O'∧Ob 2 w' O' (.pointer (some ⟨p0,cx.pre.length,none⟩)) (BxR.c cx s6.2)∧inI64 b2) ?_ ?_
  ·
   refine Al (Aj (Ar rfl rfl ?_))
   obtain ⟨u2,c2,d0⟩:=bs d0
   have d2:=(CH c2)
   refine Hd (he:=c2) rfl rfl rfl ?_
   refine Aw rfl rfl (o_z ?_)
   refine Al ?_
   obtain ⟨v2,b0,d0⟩:=bs d0
   refine AL (fun l' w'=>∃ (w2:Unit) (O':Lab),subs l' [(0,(.iface 76 (.pointer (some ⟨p0,cx.pre.length,none⟩)))),(1,(.int .i64 x1)),(2,(.int .i64 x2)),(7,(.int .i64 s6.1)),(9,(.int .i64 y1)),(10,(.int .i64 u2)),(33,(.bool v2))]∧Bm w O0 w' O'∧Ob 2 w' O' (.pointer (some ⟨p0,cx.pre.length,none⟩)) (BxR.c cx s6.2)) ?_ ?_
   ·
    refine Aj (Ar rfl rfl (Ar rfl rfl (DI rfl rfl rfl (fun f1=>?_) fun f1=>?_)))
    ·
     replace b0:=ip b0 f1
     refine Ar rfl rfl (Az rfl rfl (Ar rfl rfl (Az rfl rfl (Ar rfl rfl (Az rfl rfl (Ar rfl rfl (Az rfl rfl ?_)))))))
     obtain ⟨y2,h4,e2,z2,n0,k0⟩:=BxC.opn g0 2 3 (by decide)
     obtain ⟨i4,j4,rfl⟩:=k0.form
     obtain ⟨f2,a3,b0⟩:=bs b0
     refine HQ (O:=y2) (A:=All s2) (R:=fun w' F v=>Vb w' F v f2) (EP (fun _ h=>h) (k0).all d2 a2 a3) (Ff (cxcell n0.1)) rfl rfl rfl fun k4 l4 m4 q0 y0=>?_
     obtain rfl:=y0.bool
     cases f2
     case false =>
      replace b0:=iF b0
      refine Bq rfl rfl rfl (o_z ?_)
      replace n0:=n0.st q0
      replace k0:=k0.st q0
      obtain ⟨n4,b3,c3,d3,e3⟩:=BxC.shut (x:=s6.2) (l0:=2) (l1:=3) (by decide) n0 k0
      obtain rfl:=sm b0
      exact ⟨(),_,⟨rfl,rfl,rfl,rfl,rfl,rfl,rfl,trivial⟩,((hB.st e2).st q0).st b3,e3⟩
     replace b0:=iT b0
     refine Bq rfl rfl rfl (o_z ?_)
     replace n0:=n0.st q0
     replace k0:=k0.st q0
     obtain ⟨o4,f3,g3,h3,i3⟩:=BxC.shut (x:=s6.2) (l0:=2) (l1:=3) (by decide) n0 k0
     obtain rfl:=sm b0
     exact ⟨(),_,⟨rfl,rfl,rfl,rfl,rfl,rfl,rfl,trivial⟩,((hB.st e2).st q0).st f3,i3⟩
    replace b0:=im b0 f1
    refine Ar rfl rfl (Au rfl rfl rfl rfl (Au rfl rfl rfl rfl (Au rfl rfl rfl rfl (Au rfl rfl rfl rfl (Br rfl rfl rfl (o_z ?_))))))
    obtain rfl:=sm b0
    exact ⟨(),_,⟨rfl,rfl,rfl,rfl,rfl,rfl,rfl,trivial⟩,hB,g0⟩
   rintro p4 q4 ⟨w2,r4,g1,hB,y0⟩
   refine AQ _ g1 ?_
   refine BW rfl (fun h1=>?_) (fun h1=>?_)
   ·
    replace d0:=ip d0 h1
    refine Aj (Ar rfl rfl (Aw rfl rfl (o_z ?_)))
    obtain rfl:=sm d0
    exact ⟨(),_,⟨rfl,rfl,rfl,rfl,rfl,trivial⟩,hB,y0,d2⟩
   replace d0:=im' d0 h1
   refine AO ?_
   obtain rfl:=sm d0
   exact ⟨(),_,⟨rfl,rfl,rfl,rfl,rfl,trivial⟩,hB,y0,a2⟩
  rintro s4 j3 ⟨t2,t4,i1,hB,k3,j1⟩
  refine AQ _ i1 ?_
  refine Al (Al (Aj (Ar rfl rfl (Ar rfl rfl (Ar rfl rfl ?_)))))
  obtain ⟨l3,u4,g2,m3,j0,m0⟩:=BxC.opn k3 2 3 (by decide)
  obtain ⟨v4,w4,rfl⟩:=m0.form
  obtain ⟨h2,n3,a0⟩:=bs a0
  refine HQ (O:=l3) (A:=All j3) (R:=fun w' F v=>Vb w' F v h2) (EP (fun _ h=>h) (m0).all j1 s0 n3) (Ff (cxcell j0.1)) rfl rfl rfl fun o3 x4 k1 f0 m1=>?_
  obtain rfl:=m1.bool
  cases h2
  case false =>
   replace a0:=iF a0
   refine Cr rfl rfl (o_z ?_)
   refine Ah rfl (DM ?_)
   replace j0:=j0.st f0
   replace m0:=m0.st f0
   obtain ⟨p3,n1,i2,j2,o1⟩:=BxC.shut (x:=s6.2) (l0:=2) (l1:=3) (by decide) j0 m0
   obtain rfl:=sm a0
   exact show Exists _ from ⟨_,(),h0 _ rfl,⟨rfl,rfl,trivial⟩,_,((hB.st g2).st f0).st n1,o1,s0⟩
  replace a0:=iT a0
  refine Cq rfl rfl (o_z ?_)
  refine Ae rfl (AO (Al (Aj (Ar rfl rfl (Ar rfl rfl (Ar rfl rfl ?_))))))
  obtain ⟨p1,q1,a0⟩:=bs a0
  replace j0:=j0.st f0
  replace m0:=m0.st f0
  refine HP (O:=k1) (EQ m0 s0 j1 q1) (Ff (cxcell j0.1)) rfl rfl rfl fun q3 r3 s3 t0 u0=>?_
  refine o_z ?_
  refine Aj (Ar rfl rfl (Aw rfl rfl (o_z ?_)))
  replace j0:=j0.st t0
  obtain ⟨t3,r1,k2,l2,s1⟩:=BxC.shut (x:=(⟨p1⟩:BxR 67 73 OEn)) (l0:=2) (l1:=3) (by decide) (by have q:=j0;rw [← u0.len.1.symm] at q;exact q) u0.relen
  obtain rfl:=sm a0
  exact show Exists _ from ⟨_,(),rfl,⟨rfl,rfl,rfl,rfl,trivial⟩,_,(((hB.st g2).st f0).st t0).st r1,s1,j1⟩
 rintro u3 v3 ⟨t1,w3,rfl,v0,x3,hB,g0,s0⟩
 replace hm:=Bl hm
 refine AQ _ v0 ?_
 refine Al ?_
 obtain ⟨u1,e0,hm⟩:=bs hm
 refine AL (fun l' w'=>∃ (v1:Unit) (O':Lab),subs l' [(6,(.bool u1))]∧Bm w O0 w' O'∧Ob 2 w' O' (.pointer (some ⟨p0,cx.pre.length,none⟩)) (BxR.c cx t1.2)) ?_ ?_
 ·
  refine Aj (Ar rfl rfl (Ar rfl rfl (CX rfl rfl rfl (fun o0=>?_) fun o0=>?_)))
  ·
   replace e0:=ip e0 o0
   refine Aw rfl rfl (o_z ?_)
   obtain rfl:=sm e0
   exact ⟨(),_,⟨rfl,trivial⟩,hB,g0⟩
  replace e0:=im e0 o0
  refine Aw rfl rfl (o_z ?_)
  obtain rfl:=sm e0
  exact ⟨(),_,⟨rfl,trivial⟩,hB,g0⟩
 rintro y3 z3 ⟨v1,a4,w0,hB,g0⟩
 refine AQ _ w0 ?_
 refine AH ?_
 obtain rfl:=sm hm
 obtain ⟨O',hS',hz,hl⟩:=hE.leave (fun q=>if q=2 then i0 else 0) rfl hB
 exact ret1v rfl (AE rfl) ⟨O',hS',(Ob.leave g0 hz (hl 2 (by decide) (by decide)) r0.2),vBool⟩
noncomputable def CA (x0:BxR 67 73 OEn) (x1:An 73 OEn):Option (BxR 67 73 OEn) :=
  bnd (DQ x0 (⟨x1.x⟩:An 73 OEn)) fun q9=>bnd (Ca q9.l) fun q26=>bnd (chkI (q26 - 1)) fun n34=>bnd (Db q9 n34) fun q42=>some q42
theorem GV {w:World} {O:Lab} {cx:Cx} {p0 i0:Nat} {x0:BxR 67 73 OEn} (a0:Ob i0 w O (.pointer (some ⟨p0,cx.pre.length,none⟩)) (BxR.c cx x0)) {vx1:Value} {x1:An 73 OEn} (d0:Vb w (Fr 0 w O) vx1 x1) {r:(BxR 67 73 OEn)} (hm:CA x0 x1=some r) :
    Fn Tryz.prog 59 [(.iface 76 (.pointer (some ⟨p0,cx.pre.length,none⟩))),vx1] w fun v w'=>∃ O',St (eT i0) w O w' O'∧Ob i0 w' O' (.pointer (some ⟨p0,cx.pre.length,none⟩)) (BxR.c cx r):=by
 obtain ⟨O0,hE,f0,h0⟩:=ent1 (w:=w) (O:=O) a0.2
 have a0':=Ob.leave a0 f0 h0 (j:=2) (by decide)
 have hB:Bm w O0 w O0:=Bm.refl
 replace d0:=d0.mono f0
 obtain ⟨v3,rfl,h4⟩:=d0.any
 obtain ⟨f1,rfl,rfl,r6,r7,r8⟩:=h4
 refine AK Tryz.func59 rfl Tryz.ntmps59 rfl ?_
 unfold CA at hm
 refine Al (Aj (Ar rfl rfl (Ar rfl rfl ?_)))
 obtain ⟨q9,j0,hm⟩:=bs hm
 refine HP (O:=O0) (Iw a0' (vAny (Vb.ofAgg (cs:=[(.int .i64 x1.x.cost),(.int .i64 x1.x.number),(.int .i64 x1.x.node)]) (x:=x1.x) rfl ⟨rfl,r6,r7,r8⟩)) j0) Mf rfl rfl rfl fun g1 k0 h1 m0 n0=>?_
 refine o_z ?_
 refine Aj (Ar rfl rfl (Ar rfl rfl ?_))
 obtain ⟨o0,i1,q0,r0,c0,b0⟩:=BxC.opn n0 2 3 (by decide)
 obtain ⟨j1,k1,rfl⟩:=b0.form
 obtain ⟨s0,t0,hm⟩:=bs hm
 refine HQ (O:=o0) (A:=All k0) (R:=fun w' F v=>Vb w' F v s0) (Fb (fun _ h=>h) (b0).all t0) (Ff (cxcell c0.1)) rfl rfl rfl fun m1 n1 o1 e0 u0=>?_
 obtain ⟨rfl,p1⟩:=u0.int
 obtain ⟨q1,g0,hm⟩:=bs hm
 have v0:=(CH g0)
 refine He (he:=g0) rfl rfl rfl ?_
 replace c0:=c0.st e0
 replace b0:=b0.st e0
 obtain ⟨w0,y0,z0,a1,b1⟩:=BxC.shut (x:=q9) (l0:=2) (l1:=3) (by decide) c0 b0
 obtain ⟨r1,c1,hm⟩:=bs hm
 refine Fe (O:=w0) (HC b1 v0 c1) rfl rfl fun s1 t1 u1 d1 e1=>?_
 refine o_z ?_
 obtain rfl:=sm hm
 replace hB:=((((hB.st m0).st q0).st e0).st y0).st d1
 obtain ⟨O',hS',hz,hl⟩:=hE.leave (fun q=>if q=2 then i0 else 0) rfl hB
 exact ret0n rfl  ⟨O',hS',(Ob.leave e1 hz (hl 2 (by decide) (by decide)) a0.2)⟩
noncomputable def CG (x0:BxR 67 73 OEn):Option ((An 73 OEn)×(BxR 67 73 OEn)) :=
  bnd (Ca x0.l) fun q11=>bnd (chkI (q11 - 1)) fun n19=>bnd (BU x0.l 0 n19) fun q22=>bnd (CP (⟨q22⟩:BxR 67 73 OEn) 0 n19) fun q35=>bnd (Ej q35.2) fun q44=>some ((⟨q44.1.x⟩:An 73 OEn),q44.2)
theorem Hf {w:World} {O:Lab} {cx:Cx} {p0 i0:Nat} {x0:BxR 67 73 OEn} (a0:Ob i0 w O (.pointer (some ⟨p0,cx.pre.length,none⟩)) (BxR.c cx x0)) {r:(An 73 OEn)×(BxR 67 73 OEn)} (hm:CG x0=some r) :
    Fn Tryz.prog 27 [(.iface 76 (.pointer (some ⟨p0,cx.pre.length,none⟩)))] w fun v w'=>∃ O',St (eT i0) w O w' O'∧Ob i0 w' O' (.pointer (some ⟨p0,cx.pre.length,none⟩)) (BxR.c cx r.2)∧Vb w' (Fr 0 w' O') v r.1:=by
 obtain ⟨O0,hE,h0,j0⟩:=ent1 (w:=w) (O:=O) a0.2
 have a0':=Ob.leave a0 h0 j0 (j:=2) (by decide)
 have hB:Bm w O0 w O0:=Bm.refl
 refine AK Tryz.func27 rfl Tryz.ntmps27 rfl ?_
 unfold CG at hm
 refine Al (Aj (Aw rfl rfl (o_z ?_)))
 refine Al (Aj (Ar rfl rfl ?_))
 obtain ⟨O2,v6,S3,p1,h4,h7⟩:=BxC.opn a0' 2 3 (by decide)
 obtain ⟨A8,c9,rfl⟩:=h7.form
 obtain ⟨k0,m0,hm⟩:=bs hm
 refine HQ (O:=O2) (A:=All w) (R:=fun w' F v=>Vb w' F v k0) (Fb (fun _ h=>h) (h7).all m0) (Ff (cxcell h4.1)) rfl rfl rfl fun q1 r1 n0 c0 o0=>?_
 obtain ⟨rfl,s1⟩:=o0.int
 obtain ⟨t1,d0,hm⟩:=bs hm
 have e0:=(CH d0)
 refine He (he:=d0) rfl rfl rfl ?_
 refine Aw rfl rfl (o_z ?_)
 refine Al (Aj (Ar rfl rfl (Ar rfl rfl ?_)))
 obtain ⟨q0,r0,hm⟩:=bs hm
 replace h4:=h4.st c0
 replace h7:=h7.st c0
 refine HP (O:=n0) (EQ h7 (show inI64 (0) from by decide) e0 r0) (Ff (cxcell h4.1)) rfl rfl rfl fun u1 v1 w1 f0 g0=>?_
 refine o_z ?_
 refine Al (Aj (Ar rfl rfl (Ar rfl rfl ?_)))
 replace h4:=h4.st f0
 obtain ⟨s0,t0,u0,v0,w0⟩:=BxC.shut (x:=(⟨q0⟩:BxR 67 73 OEn)) (l0:=2) (l1:=3) (by decide) (by have q:=h4;rw [← g0.len.1.symm] at q;exact q) g0.relen
 obtain ⟨x1,y0,hm⟩:=bs hm
 refine Fe (O:=s0) (GU w0 (show inI64 (0) from by decide) e0 y0) rfl rfl fun y1 z1 z0 a1 b1=>?_
 obtain ⟨c1,d1⟩:=b1
 obtain rfl:=d1.bool
 refine o_z ?_
 refine Al (Aj (Ar rfl rfl ?_))
 obtain ⟨b0,e1,hm⟩:=bs hm
 refine HP (O:=z0) (IU c1 e1) Mf rfl rfl rfl fun a2 b2 c2 f1 g1=>?_
 obtain ⟨h1,i1⟩:=g1
 obtain ⟨d2,rfl,j1⟩:=i1.any
 obtain ⟨k1,rfl,rfl,m1,n1,o1⟩:=j1
 refine Aw rfl rfl (o_z ?_)
 refine AH ?_
 obtain rfl:=sm hm
 replace hB:=(((((hB.st S3).st c0).st f0).st t0).st a1).st f1
 obtain ⟨O',hS',hz,hl⟩:=hE.leave (fun q=>if q=2 then i0 else 0) rfl hB
 exact ret1v rfl (AE rfl) ⟨O',hS',(Ob.leave h1 hz (hl 2 (by decide) (by decide)) a0.2),(vAny (Vb.ofAgg (cs:=[(.int .i64 b0.1.x.cost),(.int .i64 b0.1.x.number),(.int .i64 b0.1.x.node)]) (x:=b0.1.x) rfl ⟨rfl,m1,n1,o1⟩))⟩
end
section
open Go.Shelf
def Tryz.laysS_f96_ren:Go.Shelf.Ren:=⟨fun|6=>96|15=>105|14=>104|28=>116|29=>117|20=>108|21=>109|22=>110|23=>111|24=>112|25=>113|26=>114|27=>115|46=>127|47=>128|48=>129|49=>130|50=>131|57=>135|n=>n,fun|22=>23|24=>45|25=>159|3=>3|39=>166|0=>0|53=>176|55=>178|4=>4|46=>170|45=>169|50=>86|5=>5|9=>9|66=>184|70=>188|76=>192|77=>193|n=>n,fun|n=>n⟩
theorem Tryz.laysS_f96:Go.Proofs.SlLaysF0.n6 Tryz.prog Tryz.laysS_f96_ren:={
  mixed:=by kernel_rfl
  f6:=⟨Tryz.f96.name,by decide,Tryz.func96.trans (congrArg some (by kernel_rfl))⟩
  f14:=⟨Tryz.f104.name,by decide,Tryz.func104.trans (congrArg some (by kernel_rfl))⟩
  f15:=Tryz.func105.trans (congrArg some (by kernel_rfl))
  f20:=⟨Tryz.f108.name,by decide,Tryz.func108.trans (congrArg some (by kernel_rfl))⟩
  f21:=⟨Tryz.f109.name,by decide,Tryz.func109.trans (congrArg some (by kernel_rfl))⟩
  f22:=⟨Tryz.f110.name,by decide,Tryz.func110.trans (congrArg some (by kernel_rfl))⟩
  f23:=⟨Tryz.f111.name,by decide,Tryz.func111.trans (congrArg some (by kernel_rfl))⟩
  f24:=⟨Tryz.f112.name,by decide,Tryz.func112.trans (congrArg some (by kernel_rfl))⟩
  f25:=⟨Tryz.f113.name,by decide,Tryz.func113.trans (congrArg some (by kernel_rfl))⟩
  f26:=⟨Tryz.f114.name,by decide,Tryz.func114.trans (congrArg some (by kernel_rfl))⟩
  f27:=⟨Tryz.f115.name,by decide,Tryz.func115.trans (congrArg some (by kernel_rfl))⟩
  f28:=Tryz.func116.trans (congrArg some (by kernel_rfl))
  f29:=Tryz.func117.trans (congrArg some (by kernel_rfl))
  f46:=⟨Tryz.f127.name,by decide,Tryz.func127.trans (congrArg some (by kernel_rfl))⟩
  f47:=Tryz.func128.trans (congrArg some (by kernel_rfl))
  f48:=Tryz.func129.trans (congrArg some (by kernel_rfl))
  f49:=⟨Tryz.f130.name,by decide,Tryz.func130.trans (congrArg some (by kernel_rfl))⟩
  f50:=⟨Tryz.f131.name,by decide,Tryz.func131.trans (congrArg some (by kernel_rfl))⟩
  f57:=⟨Tryz.f135.name,by decide,Tryz.func135.trans (congrArg some (by kernel_rfl))⟩
  t0:=Tryz.underlying0
  a0:=Tryz.isAgg0
  z0:=Tryz.sizeOf0
  v0:=Tryz.zeroValue0
  t3:=Tryz.underlying3
  a3:=Tryz.isAgg3
  z3:=Tryz.sizeOf3
  v3:=Tryz.zeroValue3
  t4:=Tryz.underlying4
  a4:=Tryz.isAgg4
  z4:=Tryz.sizeOf4
  v4:=Tryz.zeroValue4
  t5:=Tryz.underlying5
  a5:=Tryz.isAgg5
  z5:=Tryz.sizeOf5
  v5:=Tryz.zeroValue5
  t9:=Tryz.underlying9
  a9:=Tryz.isAgg9
  z9:=Tryz.sizeOf9
  v9:=Tryz.zeroValue9
  t22:=Tryz.underlying23
  a22:=Tryz.isAgg23
  z22:=Tryz.sizeOf23
  v22:=Tryz.zeroValue23
  t25:=Tryz.underlying159
  a25:=Tryz.isAgg159
  z25:=Tryz.sizeOf159
  v25:=Tryz.zeroValue159
  t39:=Tryz.underlying166
  a39:=Tryz.isAgg166
  z39:=Tryz.sizeOf166
  v39:=Tryz.zeroValue166
  t45:=Tryz.underlying169
  a45:=Tryz.isAgg169
  z45:=Tryz.sizeOf169
  v45:=Tryz.zeroValue169
  t46:=Tryz.underlying170
  a46:=Tryz.isAgg170
  z46:=Tryz.sizeOf170
  v46:=Tryz.zeroValue170
  t50:=Tryz.underlying86
  a50:=Tryz.isAgg86
  z50:=Tryz.sizeOf86
  v50:=Tryz.zeroValue86
  t53:=Tryz.underlying176
  a53:=Tryz.isAgg176
  z53:=Tryz.sizeOf176
  v53:=Tryz.zeroValue176
  t55:=Tryz.underlying178
  a55:=Tryz.isAgg178
  z55:=Tryz.sizeOf178
  v55:=Tryz.zeroValue178
  t66:=Tryz.underlying184
  a66:=Tryz.isAgg184
  z66:=Tryz.sizeOf184
  v66:=Tryz.zeroValue184
  t70:=Tryz.underlying188
  a70:=Tryz.isAgg188
  z70:=Tryz.sizeOf188
  v70:=Tryz.zeroValue188
  t76:=Tryz.underlying192
  a76:=Tryz.isAgg192
  z76:=Tryz.sizeOf192
  v76:=Tryz.zeroValue192
  t77:=Tryz.underlying193
  a77:=Tryz.isAgg193
  z77:=Tryz.sizeOf193
  v77:=Tryz.zeroValue193 }
open Go.RowKit Go.Lib Go.Sort in
theorem Tryz.sortF_eq {α:Type} [Inhabited α] (k:Nat) (aE:∀ w,(isAgg 45).run Tryz.prog w=.ok true w) (zE:∀ w,(Go.sizeOf 45).run Tryz.prog w=.ok k w) (enc:α→List Value) (hk:∀ x,(enc x).length=k) (h1:∀ x,∀ v∈enc x,v.oneCell'=true) (cf:α→α→Int) (hO:SWO (ltOf cf)) (g:Nat) (cb:Array Value) (blk off cap:Nat) (d:Array α) (w:World) (eg:∀ args w,(callFunc g args).run Tryz.prog w=.ok (.enter g args) w) (hcmp:CmpLays Tryz.prog g cb enc k cf blk off d.size w) (hH:HoldsK enc k w blk off d) (hblk:blk < w.heap.size) (hsz:d.size < 4611686018427387904) :
    Calls Tryz.prog 96 #[.slice (some ⟨blk,off,none⟩) d.size cap,.func (.func g) #[] cb] w fun e w' =>
      e=.returned (.tuple #[])∧∃ n os,w'=sortWorldK enc k w blk off n (pdq (ltOf cf) d 0 d.size (Lib.bitLen d.size) true true) os:=AnyQ.slices_SortFunc_eq Tryz.laysS_f96 k aE zE enc hk h1 cf hO g cb blk off cap d w eg hcmp hH hblk hsz
open Go.RowKit Go.Lib Go.Sort in
theorem Tryz.sortF_none {α:Type} [Inhabited α] (p:Option Addr) (cap:Nat) (fv:Value) (w:World) :
    Calls Tryz.prog 96 #[.slice p 0 cap,fv] w fun e w'=>e=.returned (.tuple #[])∧w'=w:=AnyF.slices_SortFunc_none Tryz.laysS_f96 p cap fv w
end
section
open Go Go.RowKit Go.Lib Go.Sort
instance:Inhabited Fct:=⟨⟨0,0⟩⟩
def encF (x:Fct):List Value:=[.int .i64 x.var,.int .i64 x.val]
def cfF (x y:Fct):Int:=Lib.compareInt x.var y.var
theorem ltF (x y:Fct):ltOf cfF x y=decide (x.var < y.var):=by
  unfold ltOf cfF Lib.compareInt
  by_cases h:x.var < y.var
  · simp [h]
  · by_cases h2:y.var < x.var<;>simp [h,h2]
theorem swoF:SWO (ltOf cfF) where
  irrefl x:=by rw [ltF];simp
  trans x y z h1 h2:=by rw [ltF] at *;simp at *;omega
  ntrans x y z h1 h2:=by rw [ltF] at *;simp at *;omega
theorem compareI (a b:Int) (W:World):Calls Tryz.prog 98 #[.int .i64 a,.int .i64 b] W fun e w'=>e=.returned (.int .i64 (Lib.compareInt a b))∧w'=W:=by
  go_enter Tryz.func98,Tryz.ntmps98
  go_wp2
  · go_ret
    have h:a < b:=by assumption
    exact ⟨by simp [Lib.compareInt,h],rfl⟩
  · go_ret
    have h:b < a:=by assumption
    have h2:¬ a < b:=by omega
    exact ⟨by simp [Lib.compareInt,h,h2],rfl⟩
  · go_ret
    have h1:b≤a:=by assumption
    have h2:a≤b:=by assumption
    have h3:¬ a < b:=by omega
    have h4:¬ b < a:=by omega
    exact ⟨by simp [Lib.compareInt,h3,h4],rfl⟩
theorem closureF (x y:Fct) (W:World):Calls Tryz.prog 97 #[.agg #[.int .i64 x.var,.int .i64 x.val],.agg #[.int .i64 y.var,.int .i64 y.val]] W fun e w'=>e=.returned (.int .i64 (cfF x y))∧∃ q os',w'=grow (W.drewN q) os':=by
  have hcon:=fun W'=>compareI x.var y.var W'
  unfold cfF
  generalize Lib.compareInt x.var y.var=r at hcon ⊢
  go_enter Tryz.func97,Tryz.ntmps97
  go_wp2_with (go_at_call 98;refine (hcon _).mono ?_;rintro e w' ⟨rfl,rfl⟩)
  go_ret
  exact ⟨rfl,0,_,by rw [alloc_eq_grow,alloc_eq_grow,grow_grow];rfl⟩
theorem cmpLaysF (blk off size:Nat) (w:World):CmpLays Tryz.prog 97 #[] encF 2 cfF blk off size w:=fun _ _ _ _ x y=>closureF x y _
def Ba (xs:List Fct):List Fct:=(pdq (ltOf cfF) xs.toArray 0 xs.length (Lib.bitLen xs.length) true true).toList
theorem Mj (xs:List Fct):PermIn 0 xs.toArray.size xs.toArray (Ba xs).toArray∧SortedIn (ltOf cfF) 0 xs.toArray.size (Ba xs).toArray:=by
  have:=pdq_sorts (ltOf cfF) swoF xs.toArray 0 xs.toArray.size (Lib.bitLen xs.length) true true (Nat.zero_le _) (Nat.le_refl _) (Or.inl rfl)
  simpa [Ba] using this
theorem Dt (xs:List Fct):(Ba xs).Perm xs:=by
  obtain ⟨⟨hsz,_,hperm⟩,_⟩:=Mj xs
  have e1:(Ba xs).toArray.extract 0 xs.toArray.size=(Ba xs).toArray:=by rw [← hsz];exact Array.extract_size
  rw [e1,Array.extract_size] at hperm
  simpa using hperm
theorem Dl (xs:List Fct):(Ba xs).length=xs.length:=(Dt xs).length_eq
theorem LN (xs:List Fct):(Ba xs).Pairwise fun x y=>x.var≤y.var:=by
  obtain ⟨_,hs⟩:=Mj xs
  have hl:=Dl xs
  rw [List.pairwise_iff_getElem]
  intro i j hi hj hij
  have:=hs i j (Nat.zero_le _) hij (by simp;omega)
  rw [getElem!_pos _ j (by simpa using hj),getElem!_pos _ i (by simpa using hi),ltF] at this
  simpa using this
theorem flatF:∀ (xs:List Fct),(flatK encF 2 xs.toArray).toList=xs.flatMap encF:=fun xs=>by
  apply List.ext_getElem?
  intro t
  have key:∀ (l:List Fct) (t:Nat),(l.flatMap encF)[t]?=(l[t / 2]?).bind fun x=>(encF x)[t % 2]?:=by
    intro l
    induction l with
    | nil=>intro t;simp
    | cons x l ih =>
      intro t
      rw [List.flatMap_cons]
      match t with
      | 0=>rfl
      | 1=>rfl
      | t + 2 =>
        rw [List.getElem?_append_right (by simp [encF]),show t + 2 - (encF x).length=t from by simp [encF],ih]
        rw [show (t + 2) / 2=t / 2 + 1 from by omega,show (t + 2) % 2=t % 2 from by omega]
        simp
  rw [key]
  by_cases ht:t < xs.length * 2
  · have h1:t / 2 < xs.length:=by omega
    have hsz:t < (flatK encF 2 xs.toArray).size:=by simpa using ht
    rw [Array.getElem?_toList,Array.getElem?_eq_getElem hsz,List.getElem?_eq_getElem h1,Option.bind_some]
    have:=get_flatK encF 2 xs.toArray t (by simpa using ht)
    rw [getElem!_pos (flatK encF 2 xs.toArray) t hsz,getElem!_pos xs.toArray (t / 2) (by simpa using h1)] at this
    rw [this]
    have h2:t % 2 < (encF xs[t / 2]).length:=by simp [encF];omega
    rw [List.getElem?_eq_getElem h2,List.getElem_toArray,getElem!_pos (encF xs[t / 2]) (t % 2) h2]
  · have h1:(flatK encF 2 xs.toArray).size≤t:=by rw [size_flatK];simpa using (by omega:xs.length * 2≤t)
    have h2:xs[t / 2]?=none:=List.getElem?_eq_none (by omega)
    rw [Array.getElem?_toList,Array.getElem?_eq_none h1,h2]
    rfl
theorem Jz {w:World} {F:Nat→Prop}:∀ {xs:List Fct} {cells:List Value},Chunks w F cells xs→cells=xs.flatMap encF∧∀ x∈xs,inI64 x.var∧inI64 x.val
  | [],_,h=>⟨h,fun _ hx=>by simp at hx⟩
  | x :: xs,cells,⟨cs,rest,he,hr,hc⟩=>by
    obtain ⟨h1,h2⟩:=Jz hc
    obtain ⟨h3,h4⟩:=hr
    refine ⟨by rw [he,h3,h1];rfl,fun y hy=>?_⟩
    rcases List.mem_cons.1 hy with rfl|hy
    · exact h4
    · exact h2 y hy
theorem JA {w:World} {F:Nat→Prop}:∀ {xs:List Fct},(∀ x∈xs,inI64 x.var∧inI64 x.val)→Chunks w F (xs.flatMap encF) xs
  | [],_=>rfl
  | x :: xs,h=>⟨encF x,xs.flatMap encF,rfl,⟨rfl,h x (by simp)⟩,JA fun y hy=>h y (by simp [hy])⟩
theorem Ef (xs:List Fct):(xs.flatMap encF).length=xs.length * 2:=by rw [← flatF,Array.length_toList,size_flatK];simp
theorem Hg {i:Nat} {w:World} {O:Lab} {v:Value} {xs:List Fct} (hR:Rw i w O 45 v xs) (hl:xs.length < 4611686018427387904) :
    Fn Tryz.prog 96 [v,.func (.func 97) #[] #[]] w fun _ w'=>∃ O',St (eT i) w O w' O'∧Rw i w' O' 45 v (Ba xs):=by
  intro d
  rcases Nat.eq_zero_or_pos xs.length with h0|h0
  · have hx:xs=[]:=List.eq_nil_of_length_eq_zero h0
    subst hx
    obtain ⟨p,c,rfl⟩:=hR.form
    have hs:Ba []=[]:=List.eq_nil_of_length_eq_zero (Dl [])
    exact (Tryz.sortF_none (α:=Fct) p c _ (dr w d)).mono fun e w' ⟨he,hw⟩=>⟨_,w,d,he,hw,O,St.refl _ _ _,by rw [hs];exact hR⟩
  · obtain ⟨g,cap,cells,sp,rfl,hg,hFg,hb,hc,hlen,hnc,hcm,htot⟩:=hR.1.open h0
    obtain ⟨rfl,hin⟩:=Jz hc
    have hfl:=flatF xs
    have hH:HoldsK encF 2 (dr w d) g 0 xs.toArray:=fun j hj=>by
      have hj':j < xs.length * 2:=by simpa using hj
      refine ⟨?_,by rw [Nat.zero_add];exact hb.frozen j⟩
      rw [Nat.zero_add]
      refine hb.cell ?_
      rw [List.getElem?_append_left (by rw [Ef];exact hj'),← hfl,Array.getElem?_toList,Array.getElem?_eq_getElem hj,getElem!_pos _ j hj]
      rfl
    have aE:∀ w,(isAgg 45).run Tryz.prog w=.ok true w:=fun w=>FL w
    have zE:∀ w,(Go.sizeOf 45).run Tryz.prog w=.ok 2 w:=fun w=>DG w
    have eg:∀ args w,(callFunc 97 args).run Tryz.prog w=.ok (.enter 97 args) w:=enters_of Tryz.func97 (by kernel_rfl) rfl
    have hcall:=Tryz.sortF_eq 2 aE zE encF (fun _=>rfl) (fun x v hv=>by simp [encF] at hv;rcases hv with rfl|rfl<;>rfl) cfF swoF 97 #[] g 0 cap xs.toArray (dr w d) eg (cmpLaysF g 0 _ _) hH hb.lt (by simpa using hl)
    have e1:xs.toArray.size=xs.length:=by simp
    rw [e1] at hcall
    refine hcall.mono fun e w' ⟨he,n,os,hw⟩=>⟨_,w',w'.drawn,he,rfl,upO O w.heap.size (fun _=>0),?_,?_⟩
    · subst hw
      refine ⟨rfl,rfl,rfl,?_,fun k hk hne=>⟨?_,Et hk⟩⟩
      · show w.heap.size≤((w.heap.modify g _) ++ os).size
        simp
      · have hkg:g≠k:=fun e=>hne (by rw [← e];exact hR.2.1 g rfl)
        show ((w.heap.modify g _) ++ os)[k]?=_
        rw [Array.getElem?_append_left (by simpa using hk),Array.getElem?_modify,if_neg hkg]
    · have hpd:pdq (ltOf cfF) xs.toArray 0 xs.length (Lib.bitLen xs.length) true true=(Ba xs).toArray:=by simp [Ba]
      rw [hpd] at hw
      have hsl:=Dl xs
      have hf2:=flatF (Ba xs)
      have hblk:Blk w' g 45 ((Ba xs).flatMap encF ++ sp):=by
        subst hw
        unfold Blk at hb ⊢
        have hsz:g < w.heap.size:=Blk.lt hb
        show ((w.heap.modify g _) ++ os)[g]?=_
        rw [Array.getElem?_append_left (by simpa using hsz),Array.getElem?_modify,if_pos rfl,hb]
        simp only [Option.map_some,Go.Sort.onCells]
        congr 2
        apply Array.ext
        · simp only [Go.Sort.putCells,Array.size_mapIdx,List.size_toArray,List.length_append,Ef,hsl]
        · intro i h1 h2
          simp only [Go.Sort.putCells,Array.getElem_mapIdx,Nat.zero_add,Nat.sub_zero,Nat.zero_le,true_and]
          have e2:(flatK encF 2 (Ba xs).toArray).size=xs.length * 2:=by rw [size_flatK];simp [hsl]
          by_cases hi:i < xs.length * 2
          · rw [if_pos (by rw [e2];exact hi)]
            simp only [List.getElem_toArray]
            rw [List.getElem_append_left (by rw [Ef,hsl];exact hi)]
            rw [getElem!_pos _ _ (by rw [e2];exact hi)]
            have:=congrArg (·[i]?) hf2
            simp only [Array.getElem?_toList] at this
            rw [Array.getElem?_eq_getElem (by rw [e2];exact hi),List.getElem?_eq_getElem (by rw [Ef,hsl];exact hi)] at this
            exact Option.some.inj this
          · rw [if_neg (by rw [e2];exact hi)]
            simp only [List.getElem_toArray]
            rw [List.getElem_append_right (by rw [Ef];omega),List.getElem_append_right (by rw [Ef,hsl];omega)]
            simp only [Ef,hsl]
      have hS:∀ k,Fr 0 w O k→Fr 0 w' (upO O w.heap.size fun _=>0) k:=fun k hk=>⟨by subst hw;show k < ((w.heap.modify g _) ++ os).size;have:=hk.1;simp;omega,(Et hk.1).trans hk.2⟩
      have:=Own.close (w:=w') (base:=0) (F:=Fr 0 w O) (cap:=cap) (Nat.zero_le _) hFg hblk (JA (F:=Fr 0 w O) (w:=w') fun x hx=>hin x ((Dt xs).mem_iff.1 hx)) (by rw [hsl];exact hnc) hcm (by rw [List.length_append,Ef] at htot ⊢;rw [hsl];exact htot)
      rw [hsl] at this
      exact this.rw hS (fun g' hg'=>by
        have:g=g':=by simpa [Value.ownBlock] using hg'
        subst this
        exact (Et hb.lt).trans (hR.2.1 g rfl)) hR.2.2
end
section
open Go Go.RowKit
attribute [local irreducible] ewp owp hwp hwq hws Ev Evg Fn retPost loud loudS Res1
noncomputable def CI (x0:Swp) (x1:List Fct):Option (List Fct) :=
  bnd (rng (ρ:=(List Fct)) (fun (k29:Nat) (a30:Fct) (s27:(List Fct))=>bnd (atI x0.vars a30.var) fun a60=>bnd (atI x0.vals a30.var) fun a72=>bnd (atI a72 a30.val) fun a87=>bnd (appI 16 s27 [(⟨a60,a87⟩:Fct)]) fun u105=>some (.next u105)) x1 0 ([]:List Fct)) fun res25=>fin res25 fun (s120:(List Fct))=>bnd (if s120.length < 4611686018427387904 then some (Ba s120) else none) fun u127=>some u127
theorem DR {w:World} {A:Nat→Prop} (hA:∀ k,A k→k < w.heap.size) {vx0:Value} {x0:Swp} (v0:Vb w A vx0 x0) {vx1:Value} {x1:List Fct} (d0:Vb w A vx1 x1) {r:(List Fct)} (hm:CI x0 x1=some r) :
    Fn Tryz.prog 78 [vx0,vx1] w fun v w'=>Ext w w'∧Vb w' (upA A w w') v r:=by
 obtain ⟨O,hB,j2⟩:=enter hA
 replace v0:=v0.mono j2
 obtain ⟨w3,rfl,v4,v5,v6,rfl,h7,g0,j0⟩:=v0
 obtain ⟨A8,c9,rfl⟩:=h7.form
 obtain ⟨w0,y0,rfl⟩:=g0.form
 obtain ⟨z0,a1,rfl⟩:=j0.form
 replace d0:=d0.mono j2
 obtain ⟨k2,l2,rfl⟩:=d0.form
 refine AK Tryz.func78 rfl Tryz.ntmps78 rfl ?_
 unfold CI at hm
 refine Al (Aj (Cb 2 O rfl rfl fun b1 o2 m2 p0 h0=>?_))
 replace h0:Lc 2 o2 m2 b1 53 [(.slice A8 x0.vars.length c9),(.slice w0 x0.vals.length y0),(.slice z0 x0.ops.length a1)]:=h0
 refine Aw rfl rfl (o_z ?_)
 refine Al (Aj (Aw rfl rfl (o_z ?_)))
 refine Al (Al (Aj (Ar rfl rfl (AY rfl rfl ?_))))
 replace d0:=d0.st p0
 have c1:x1.length≤9223372036854775807:=Nat.le_trans d0.len.2.1 d0.len.2.2
 have x3:inI64 (x1.length:Int):=rngNat c1
 refine Ar rfl rfl (o_z ?_)
 obtain ⟨q0,d1,hm⟩:=bs hm
 refine AL (aft q0 (fun (i0:(List Fct)) (e0:(Option Addr×Nat))=>[(5,(.slice e0.1 i0.length e0.2))]) (fun i0 e0 w'=>∃ O':Lab,Bs w A w' O'∧Rw 5 w' O' 45 (.slice e0.1 i0.length e0.2) i0)) ?_ ?_
 ·
  refine Bb ?_
  replace hB:=hB.st p0
  replace h7:=h7.st p0
  replace g0:=g0.st p0
  replace j0:=j0.st p0
  refine BL (σ:=(List Fct)) (X:=(Option Addr×Nat)) (x1.length) d1 rfl c1 (fun (i0:(List Fct)) (e0:(Option Addr×Nat))=>[(2,(.pointer (some ⟨b1,0,none⟩))),(5,(.slice e0.1 i0.length e0.2)),(8,(.slice k2 x1.length l2))]) _ (fun i0 e0 w'=>∃ O':Lab,Bs w A w' O'∧Lc 2 w' O' b1 53 [(.slice A8 x0.vars.length c9),(.slice w0 x0.vals.length y0),(.slice z0 x0.ops.length a1)]∧Vb w' (Fr 0 w' O') (.slice A8 x0.vars.length c9) x0.vars∧Vb w' (Fr 0 w' O') (.slice w0 x0.vals.length y0) x0.vals∧Vb w' (Fr 0 w' O') (.slice z0 x0.ops.length a1) x0.ops∧Rw 5 w' O' 45 (.slice e0.1 i0.length e0.2) i0∧Vb w' (Fr 0 w' O') (.slice k2 x1.length l2) x1) _ (none,0) ⟨m2,hB,h0,h7,g0,j0,(Rw.nil 5 (by decide)),d0⟩ ⟨rfl,rfl,rfl,rfl,rfl,trivial⟩ (fun _ _=>⟨rfl,rfl⟩) (fun _ _=>⟨rfl,trivial⟩) (fun _ _ _ ⟨O',hB,h0,h7,g0,j0,f0,d0⟩=>⟨O',hB,f0⟩) ⟨rfl,rfl,rfl⟩ ⟨rfl,rfl⟩ ?_
  rintro p2 n2 i0 e0 y3 q2 r0 ⟨r2,hB,h0,h7,g0,j0,f0,d0⟩ a0 e1 f1
  have rk29:inI64 (p2:Int):=rngK r0 c1
  refine Al (Aj ?_)
  obtain ⟨z3,a4,s2,g1,h1,i1,rfl,b4,c4⟩:=d0.elem' r0
  refine BJ (hA:=g1) (hj:=rfl) (hlt:=h1) rfl rfl rfl ?_
  refine Bi (hl:=rfl) (hc:=i1) rfl rfl ?_
  refine Bf 3 r2 rfl fun t2 d4 j1 k0 l0=>?_
  refine AT l0 rfl rfl rfl (Bg rfl) (allOne rfl) fun u2 m0 l0=>?_
  replace l0:Lc 3 u2 j1 t2 45 [(.int .i64 n2.var),(.int .i64 n2.val)]:=l0
  refine o_z ?_
  refine BA [(19,[5])] j1 ?_
  refine AR (fuel:=3) [] [(0,true),(1,true),(2,true),(3,true),(4,true),(5,true),(6,true),(7,true),(8,true),(9,true),(10,true),(11,true),(12,true),(13,true),(14,true),(15,true),(16,true),(17,true)] (by kernel_rfl) rfl ?_
  refine AN rfl rfl rfl (Be rfl rfl rfl ?_)
  replace h0:=(h0.st k0).st m0
  refine AW (hc:=fun w' ⟨O',hq⟩=>Blk.cell (i:=0) ((h0.st hq (by decide)).1) rfl) rfl rfl rfl ?_
  refine Be rfl rfl rfl (AW (hc:=fun w' ⟨O',hq⟩=>Blk.cell (i:=0) ((l0.st hq (by decide)).1) rfl) rfl rfl rfl ?_)
  obtain ⟨k1,v2,a0⟩:=bs a0
  obtain ⟨w2,x2⟩:=AZ v2
  replace h7:=(h7.st k0).st m0
  obtain ⟨e4,f4,y2,l1,m1,n1,o1,rfl,z2⟩:=h7.elem x2
  refine BH (hA:=l1) (hj:=(Int.toNat_of_nonneg w2).symm) (hlt:=n1) rfl rfl rfl rfl ?_
  refine AW (hc:=fun w' ⟨O',hq⟩=>cat0 (AU (hq.agree (i:=0) (by decide)) m1 o1)) rfl rfl rfl ?_
  refine Be rfl rfl rfl (AW (hc:=fun w' ⟨O',hq⟩=>Blk.cell (i:=1) ((h0.st hq (by decide)).1) rfl) rfl rfl rfl ?_)
  refine Be rfl rfl rfl (AW (hc:=fun w' ⟨O',hq⟩=>Blk.cell (i:=0) ((l0.st hq (by decide)).1) rfl) rfl rfl rfl ?_)
  obtain ⟨g4,a3,a0⟩:=bs a0
  obtain ⟨b3,c3⟩:=AZ a3
  replace g0:=(g0.st k0).st m0
  obtain ⟨h4,i4,d3,p1,q1,r1,s1,j4,rfl,u0⟩:=g0.elem c3
  replace u0:=Vb.of_slice u0
  obtain ⟨k4,l4,rfl⟩:=u0.form
  refine BH (hA:=p1) (hj:=(Int.toNat_of_nonneg b3).symm) (hlt:=r1) rfl rfl rfl rfl ?_
  refine AW (hc:=fun w' ⟨O',hq⟩=>cat0 (AU (hq.agree (i:=0) (by decide)) q1 s1)) rfl rfl rfl ?_
  refine Be rfl rfl rfl (AW (hc:=fun w' ⟨O',hq⟩=>Blk.cell (i:=1) ((l0.st hq (by decide)).1) rfl) rfl rfl rfl ?_)
  obtain ⟨t1,e3,a0⟩:=bs a0
  obtain ⟨f3,g3⟩:=AZ e3
  obtain ⟨m4,n4,h3,u1,v1,w1,y1,rfl,i3⟩:=u0.elem g3
  refine BH (hA:=u1) (hj:=(Int.toNat_of_nonneg f3).symm) (hlt:=w1) rfl rfl rfl rfl ?_
  refine AW (hc:=fun w' ⟨O',hq⟩=>cat0 (AU (hq.agree (i:=0) (by decide)) v1 y1)) rfl rfl rfl ?_
  refine Dj rfl rfl rfl rfl ?_
  refine AB ?_
  refine AP (i:=18) (by kernel_rfl) rfl ?_
  refine CB 4 (by decide) j1 (xs:=([(⟨k1,t1⟩:Fct)]:List Fct)) rfl rfl rfl rfl ⟨(Vb.ofAgg (cs:=[(.int .i64 k1),(.int .i64 t1)]) (x:=(⟨k1,t1⟩:Fct)) rfl ⟨rfl,z2,i3⟩),trivial⟩ (by decide) (by decide) rfl fun o4 j3 k3 b0 z1=>?_
  have hZ:=b0.lst [] (fun _ h=>h.elim)
  refine AV [(19,[5])] hZ (by kernel_rfl) ?_
  refine AP (i:=19) (by kernel_rfl) rfl ?_
  obtain ⟨l3,n0,a0⟩:=bs a0
  obtain ⟨n0,a2,b2⟩:=CC n0
  replace f0:=((f0.st k0).st m0).st b0
  refine Eh rfl f0 (z1.rd) rfl rfl (by decide) a2 b2 rfl fun c2 d2 m3 n3 c0 s0=>?_
  rw [← n0] at s0 ⊢
  have hZ:=c0.lst [5] (fun _ h=>by cases h;decide)
  refine AV [] hZ (by kernel_rfl) ?_
  refine AR (fuel:=0) [] [(20,true)] (by kernel_rfl) rfl ?_
  refine Fa rfl rfl rfl (AB ?_)
  refine Bo (by kernel_rfl) ?_
  obtain rfl:=sm a0
  exact show Exists _ from ⟨_,(c2,d2),rfl,⟨rfl,rfl,rfl,rfl,rfl,trivial⟩,_,(((hB.st k0).st m0).st b0).st c0,(h0.st b0).st c0,(h7.st b0).st c0,(g0.st b0).st c0,(((j0.st k0).st m0).st b0).st c0,s0,(((d0.st k0).st m0).st b0).st c0⟩
 replace hB:=hB.st p0
 rintro o3 p3 ⟨q3,r3,rfl,t0,s3,hB,f0⟩
 replace hm:=Bl hm
 refine AQ _ t0 ?_
 refine Al (Aj (Ar rfl rfl ?_))
 obtain ⟨t3,o0,hm⟩:=bs hm
 obtain ⟨e2,o0⟩:=IN o0
 refine Nh (Hg f0 e2) rfl rfl fun u3 f2 v3 g2 f0=>?_
 rw [o0] at f0
 refine o_z ?_
 refine Al (Aj (Ar rfl rfl (Aw rfl rfl (o_z ?_))))
 refine AH ?_
 obtain ⟨h2,i2,f0⟩:=f0.freeze
 obtain rfl:=sm hm
 replace hB:=(hB.st g2).st i2
 exact ret1v rfl (AE rfl) ⟨hB.ext,(Vb.mono (F:=Fr 0 f2 h2) f0 hB.out)⟩
noncomputable def Dy (x0:Swp) (x1:Opr):Option Opr :=
  bnd (CI x0 x1.pre) fun q42=>bnd (some q42:Option (List Fct)) fun y44=>bnd (rng (ρ:=Opr) (fun (k88:Nat) (a89:Eff) (s86:(List Eff))=>bnd (atI x0.vars a89.var) fun a123=>bnd (atI x0.vals a89.var) fun a135=>bnd (atI a135 a89.val) fun a150=>bnd (CI x0 a89.cond) fun q162=>bnd (appI 40 s86 [(⟨q162,a123,a150⟩:Eff)]) fun u177=>some (.next u177)) x1.effs 0 ([]:List Eff)) fun res84=>fin res84 fun (s194:(List Eff))=>some (⟨(⟨#[]⟩:ByteArray),x1.cost,y44,s194⟩:Opr)
theorem IV {w:World} {A:Nat→Prop} (hA:∀ k,A k→k < w.heap.size) {vx0:Value} {x0:Swp} (b3:Vb w A vx0 x0) {vx1:Value} {x1:Opr} (c3:Vb w A vx1 x1) {r:Opr} (hm:Dy x0 x1=some r) :
    Fn Tryz.prog 80 [vx0,vx1] w fun v w'=>Ext w w'∧Vb w' (upA A w w') v r:=by
 obtain ⟨O,hB,o4⟩:=enter hA
 replace b3:=b3.mono o4
 obtain ⟨s6,rfl,v4,v5,v6,rfl,h7,j0,l0⟩:=b3
 obtain ⟨A8,c9,rfl⟩:=h7.form
 obtain ⟨l1,m1,rfl⟩:=j0.form
 obtain ⟨n1,o1,rfl⟩:=l0.form
 replace c3:=c3.mono o4
 obtain ⟨f5,rfl,t6,u6,rfl,v0,t0,g5,w6⟩:=c3
 obtain ⟨d3,e3,rfl⟩:=v0.form
 obtain ⟨y1,z1,rfl⟩:=t0.form
 refine AK Tryz.func80 rfl Tryz.ntmps80 rfl ?_
 unfold Dy at hm
 refine Al (Aj (Cb 2 O rfl rfl fun a2 h5 p4 o0 m0=>?_))
 replace m0:Lc 2 h5 p4 a2 53 [(.slice A8 x0.vars.length c9),(.slice l1 x0.vals.length m1),(.slice n1 x0.ops.length o1)]:=m0
 refine Cb 3 p4 rfl rfl fun f3 i5 q4 k0 w0=>?_
 replace w0:Lc 3 i5 q4 f3 50 [(.string x1.name),(.int .i64 x1.cost),(.slice d3 x1.pre.length e3),(.slice y1 x1.effs.length z1)]:=w0
 refine Bf 4 q4 rfl fun p1 x6 g3 h0 q0=>?_
 refine o_z ?_
 refine Al ?_
 obtain ⟨a3,r4,hm⟩:=bs hm
 obtain ⟨s0,b2,hm⟩:=bs hm
 refine AL (fun l' w'=>∃ (a0:Nat×(Option Addr×Nat)) (O':Lab),subs l' [(2,(.pointer (some ⟨a2,0,none⟩))),(3,(.pointer (some ⟨f3,0,none⟩))),(4,(.pointer (some ⟨p1,0,none⟩))),(5,(.pointer (some ⟨a0.1,0,none⟩)))]∧Bs w A w' O'∧Lc 2 w' O' a2 53 [(.slice A8 x0.vars.length c9),(.slice l1 x0.vals.length m1),(.slice n1 x0.ops.length o1)]∧Vb w' (Fr 0 w' O') (.slice A8 x0.vars.length c9) x0.vars∧Vb w' (Fr 0 w' O') (.slice l1 x0.vals.length m1) x0.vals∧Vb w' (Fr 0 w' O') (.slice n1 x0.ops.length o1) x0.ops∧Lc 3 w' O' f3 50 [(.string x1.name),(.int .i64 x1.cost),(.slice d3 x1.pre.length e3),(.slice y1 x1.effs.length z1)]∧Vb w' (Fr 0 w' O') (.slice d3 x1.pre.length e3) x1.pre∧Vb w' (Fr 0 w' O') (.slice y1 x1.effs.length z1) x1.effs∧Lc 4 w' O' p1 50 [(.string (⟨#[]⟩:ByteArray)),(.int .i64 0),(.slice none 0 0),(.slice none 0 0)]∧Lc 5 w' O' a0.1 50 [(.string (⟨#[]⟩:ByteArray)),(.int .i64 x1.cost),(.slice a0.2.1 s0.length a0.2.2),(.slice none 0 0)]∧Vb w' (Fr 0 w' O') (.slice a0.2.1 s0.length a0.2.2) s0) ?_ ?_
 ·
  refine BA [] g3 ?_
  refine AR (fuel:=4) [] [(0,true),(1,true),(2,true),(3,true),(4,true)] (by kernel_rfl) rfl ?_
  refine Be rfl rfl rfl ?_
  replace w0:=w0.st h0
  refine AW (hc:=fun w' ⟨O',hq⟩=>Blk.cell (i:=1) ((w0.st hq (by decide)).1) rfl) rfl rfl rfl ?_
  replace m0:=(m0.st k0).st h0
  refine CR (hl:=rfl) (hb:=fun w' ⟨O',hq⟩=>((m0.st hq (by decide)).1).cellsAt) rfl rfl rfl ?_
  refine Be rfl rfl rfl (AW (hc:=fun w' ⟨O',hq⟩=>Blk.cell (i:=2) ((w0.st hq (by decide)).1) rfl) rfl rfl rfl ?_)
  refine AB ?_
  refine EM (i:=5) (j:=7) (by kernel_rfl) rfl rfl ?_ ?_
  ·
   replace h7:=((h7.st o0).st k0).st h0
   replace j0:=((j0.st o0).st k0).st h0
   replace l0:=((l0.st o0).st k0).st h0
   replace v0:=((v0.st o0).st k0).st h0
   refine Bw (O:=g3) (R:=fun w' F v=>Vb w' F v a3) (DR Fr.lt (Vb.ofAgg (cs:=[(.slice A8 x0.vars.length c9),(.slice l1 x0.vals.length m1),(.slice n1 x0.ops.length o1)]) (x:=x0) rfl ⟨_,_,_,rfl,h7,j0,l0⟩) v0 r4) rfl rfl fun y6 z6 j5 b1 s4=>?_
   obtain ⟨t4,u4,rfl⟩:=s4.form
   have hZ:=b1.lst [] (fun _ h=>h.elim)
   refine AV [] hZ (by kernel_rfl) ?_
   refine AR (fuel:=2) [] [(6,true)] (by kernel_rfl) rfl ?_
   refine Dj rfl rfl rfl rfl ?_
   refine AB ?_
   refine AP (i:=7) (by kernel_rfl) rfl ?_
   refine Bf 5 j5 rfl fun w4 a7 k5 z0 c2=>?_
   have hZ:=z0.lst [] (fun _ h=>h.elim)
   refine AV [] hZ (by kernel_rfl) ?_
   refine AP (i:=8) (by kernel_rfl) rfl ?_
   refine AT c2 rfl rfl rfl (Bg rfl) (allOne rfl) fun l5 c1 c2=>?_
   replace c2:Lc 5 l5 k5 w4 50 [(.string (⟨#[]⟩:ByteArray)),(.int .i64 x1.cost),(.slice t4 a3.length u4),(.slice none 0 0)]:=c2
   refine Ch (by kernel_rfl) ?_
   refine Bo (by kernel_rfl) ?_
   obtain rfl:=sm b2
   exact ⟨(w4,(t4,u4)),_,⟨rfl,rfl,rfl,rfl,trivial⟩,(((((hB.st o0).st k0).st h0).st b1).st z0).st c1,((m0.st b1).st z0).st c1,((h7.st b1).st z0).st c1,((j0.st b1).st z0).st c1,((l0.st b1).st z0).st c1,((w0.st b1).st z0).st c1,((v0.st b1).st z0).st c1,(((((t0.st o0).st k0).st h0).st b1).st z0).st c1,((q0.st b1).st z0).st c1,c2,(s4.st z0).st c1⟩
  refine Bf 5 g3 rfl fun x4 b7 m5 d1 q1=>?_
  have hZ:=d1.lst [] (fun _ h=>h.elim)
  refine AV [] hZ (by kernel_rfl) ?_
  refine AP (i:=5) (by kernel_rfl) rfl ?_
  replace h7:=(((h7.st o0).st k0).st h0).st d1
  replace j0:=(((j0.st o0).st k0).st h0).st d1
  replace l0:=(((l0.st o0).st k0).st h0).st d1
  replace v0:=(((v0.st o0).st k0).st h0).st d1
  refine Bw (O:=m5) (R:=fun w' F v=>Vb w' F v a3) (DR Fr.lt (Vb.ofAgg (cs:=[(.slice A8 x0.vars.length c9),(.slice l1 x0.vals.length m1),(.slice n1 x0.ops.length o1)]) (x:=x0) rfl ⟨_,_,_,rfl,h7,j0,l0⟩) v0 r4) rfl rfl fun c7 d7 n5 a1 y4=>?_
  obtain ⟨z4,a5,rfl⟩:=y4.form
  have hZ:=a1.lst [] (fun _ h=>h.elim)
  refine AV [] hZ (by kernel_rfl) ?_
  refine AR (fuel:=1) [] [(6,true)] (by kernel_rfl) rfl ?_
  refine Dj rfl rfl rfl rfl ?_
  refine AB ?_
  refine AP (i:=8) (by kernel_rfl) rfl ?_
  replace q1:=q1.st a1
  refine AT q1 rfl rfl rfl (Bg rfl) (allOne rfl) fun o5 e1 q1=>?_
  replace q1:Lc 5 o5 n5 x4 50 [(.string (⟨#[]⟩:ByteArray)),(.int .i64 x1.cost),(.slice z4 a3.length a5),(.slice none 0 0)]:=q1
  refine Ch (by kernel_rfl) ?_
  refine Bo (by kernel_rfl) ?_
  obtain rfl:=sm b2
  exact ⟨(x4,(z4,a5)),_,⟨rfl,rfl,rfl,rfl,trivial⟩,(((((hB.st o0).st k0).st h0).st d1).st a1).st e1,((m0.st d1).st a1).st e1,(h7.st a1).st e1,(j0.st a1).st e1,(l0.st a1).st e1,((w0.st d1).st a1).st e1,(v0.st a1).st e1,(((((t0.st o0).st k0).st h0).st d1).st a1).st e1,((q0.st d1).st a1).st e1,q1,y4.st e1⟩
 replace hB:=((hB.st o0).st k0).st h0
 replace h7:=((h7.st o0).st k0).st h0
 replace j0:=((j0.st o0).st k0).st h0
 replace l0:=((l0.st o0).st k0).st h0
 replace v0:=((v0.st o0).st k0).st h0
 replace t0:=((t0.st o0).st k0).st h0
 replace m0:=(m0.st k0).st h0
 replace w0:=w0.st h0
 rintro e7 f7 ⟨a0,p5,h3,hB,m0,h7,j0,l0,w0,v0,t0,q0,r0,g1⟩
 refine AQ _ h3 ?_
 refine Al (Al (Aj (AJ rfl rfl (AG (hc:=Blk.cell (i:=3) (w0.1) rfl) rfl rfl ?_))))
 refine AY rfl rfl ?_
 have i3:x1.effs.length≤9223372036854775807:=Nat.le_trans t0.len.2.1 t0.len.2.2
 have g7:inI64 (x1.effs.length:Int):=rngNat i3
 refine Ar rfl rfl (o_z ?_)
 obtain ⟨d2,j3,hm⟩:=bs hm
 refine AL (aft d2 (fun (f1:(List Eff)) (y0:(Option Addr×Nat))=>[(4,(.pointer (some ⟨p1,0,none⟩))),(5,(.pointer (some ⟨a0.1,0,none⟩)))]) (fun f1 y0 w'=>∃ O':Lab,Bs w A w' O'∧Lc 4 w' O' p1 50 [(.string (⟨#[]⟩:ByteArray)),(.int .i64 0),(.slice none 0 0),(.slice none 0 0)]∧Lc 5 w' O' a0.1 50 [(.string (⟨#[]⟩:ByteArray)),(.int .i64 x1.cost),(.slice a0.2.1 s0.length a0.2.2),(.slice y0.1 f1.length y0.2)]∧Vb w' (Fr 0 w' O') (.slice a0.2.1 s0.length a0.2.2) s0∧Rw 8 w' O' 47 (.slice y0.1 f1.length y0.2) f1)) ?_ ?_
 ·
  refine Bb (BL (σ:=(List Eff)) (X:=(Option Addr×Nat)) (x1.effs.length) j3 rfl i3 (fun (f1:(List Eff)) (y0:(Option Addr×Nat))=>[(2,(.pointer (some ⟨a2,0,none⟩))),(4,(.pointer (some ⟨p1,0,none⟩))),(5,(.pointer (some ⟨a0.1,0,none⟩))),(16,(.slice y1 x1.effs.length z1))]) _ (fun f1 y0 w'=>∃ O':Lab,Bs w A w' O'∧Lc 2 w' O' a2 53 [(.slice A8 x0.vars.length c9),(.slice l1 x0.vals.length m1),(.slice n1 x0.ops.length o1)]∧Vb w' (Fr 0 w' O') (.slice A8 x0.vars.length c9) x0.vars∧Vb w' (Fr 0 w' O') (.slice l1 x0.vals.length m1) x0.vals∧Vb w' (Fr 0 w' O') (.slice n1 x0.ops.length o1) x0.ops∧Lc 4 w' O' p1 50 [(.string (⟨#[]⟩:ByteArray)),(.int .i64 0),(.slice none 0 0),(.slice none 0 0)]∧Lc 5 w' O' a0.1 50 [(.string (⟨#[]⟩:ByteArray)),(.int .i64 x1.cost),(.slice a0.2.1 s0.length a0.2.2),(.slice y0.1 f1.length y0.2)]∧Vb w' (Fr 0 w' O') (.slice a0.2.1 s0.length a0.2.2) s0∧Rw 8 w' O' 47 (.slice y0.1 f1.length y0.2) f1∧Vb w' (Fr 0 w' O') (.slice y1 x1.effs.length z1) x1.effs) _ (none,0) ⟨p5,hB,m0,h7,j0,l0,q0,r0,g1,(Rw.nil 8 (by decide)),t0⟩ ⟨rfl,rfl,rfl,rfl,rfl,rfl,trivial⟩ (fun _ _=>⟨rfl,rfl⟩) (fun _ _=>⟨rfl,rfl,trivial⟩) (fun _ _ _ ⟨O',hB,m0,h7,j0,l0,q0,r0,g1,b0,t0⟩=>⟨O',hB,q0,r0,g1,b0⟩) ⟨rfl,rfl,rfl⟩ ⟨rfl,rfl⟩ ?_)
  rintro q5 k3 f1 y0 i7 r5 e2 ⟨s5,hB,m0,h7,j0,l0,q0,r0,g1,b0,t0⟩ c0 l3 m3
  have rk88:inI64 (q5:Int):=rngK e2 i3
  refine Al (Aj ?_)
  obtain ⟨t5,u5,b5,f2,g2,h2,w5,rfl,h1,x5,y5⟩:=t0.elem' e2
  obtain ⟨n3,o3,rfl⟩:=h1.form
  refine BJ (hA:=f2) (hj:=rfl) (hlt:=g2) rfl rfl rfl ?_
  refine Bi (hl:=rfl) (hc:=h2) rfl rfl ?_
  refine Bf 6 s5 rfl fun p3 z5 r1 d0 p0=>?_
  refine AT p0 rfl rfl rfl (Bg rfl) (allOne rfl) fun q3 e0 p0=>?_
  replace p0:Lc 6 q3 r1 p3 47 [(.slice n3 k3.cond.length o3),(.int .i64 k3.var),(.int .i64 k3.val)]:=p0
  refine o_z ?_
  refine BA [(24,[8])] r1 ?_
  refine AR (fuel:=6) [] [(0,true),(1,true),(2,true),(3,true),(4,true),(6,true),(7,true),(8,true),(9,true),(10,true),(11,true),(12,true),(13,true),(14,true),(15,true),(16,true),(17,true),(18,true),(19,true),(20,true),(21,true)] (by kernel_rfl) rfl ?_
  refine Be rfl rfl rfl ?_
  replace r0:=(r0.st d0).st e0
  refine AW (hc:=fun w' ⟨O',hq⟩=>Blk.cell (i:=3) ((r0.st hq (by decide)).1) rfl) rfl rfl rfl ?_
  replace m0:=(m0.st d0).st e0
  refine CR (hl:=rfl) (hb:=fun w' ⟨O',hq⟩=>((m0.st hq (by decide)).1).cellsAt) rfl rfl rfl ?_
  refine Be rfl rfl rfl (AW (hc:=fun w' ⟨O',hq⟩=>Blk.cell (i:=0) ((p0.st hq (by decide)).1) rfl) rfl rfl rfl ?_)
  refine Be rfl rfl rfl (AW (hc:=fun w' ⟨O',hq⟩=>Blk.cell (i:=0) ((m0.st hq (by decide)).1) rfl) rfl rfl rfl ?_)
  refine Be rfl rfl rfl (AW (hc:=fun w' ⟨O',hq⟩=>Blk.cell (i:=1) ((p0.st hq (by decide)).1) rfl) rfl rfl rfl ?_)
  obtain ⟨s1,r3,c0⟩:=bs c0
  obtain ⟨s3,t3⟩:=AZ r3
  replace h7:=(h7.st d0).st e0
  obtain ⟨a6,b6,c5,i2,j2,k2,l2,rfl,u3⟩:=h7.elem t3
  refine BH (hA:=i2) (hj:=(Int.toNat_of_nonneg s3).symm) (hlt:=k2) rfl rfl rfl rfl ?_
  refine AW (hc:=fun w' ⟨O',hq⟩=>cat0 (AU (hq.agree (i:=0) (by decide)) j2 l2)) rfl rfl rfl ?_
  refine Be rfl rfl rfl (AW (hc:=fun w' ⟨O',hq⟩=>Blk.cell (i:=1) ((m0.st hq (by decide)).1) rfl) rfl rfl rfl ?_)
  refine Be rfl rfl rfl (AW (hc:=fun w' ⟨O',hq⟩=>Blk.cell (i:=1) ((p0.st hq (by decide)).1) rfl) rfl rfl rfl ?_)
  obtain ⟨c6,v3,c0⟩:=bs c0
  obtain ⟨w3,x3⟩:=AZ v3
  replace j0:=(j0.st d0).st e0
  obtain ⟨d6,e6,d5,m2,n2,o2,p2,f6,rfl,i1⟩:=j0.elem x3
  replace i1:=Vb.of_slice i1
  obtain ⟨g6,h6,rfl⟩:=i1.form
  refine BH (hA:=m2) (hj:=(Int.toNat_of_nonneg w3).symm) (hlt:=o2) rfl rfl rfl rfl ?_
  refine AW (hc:=fun w' ⟨O',hq⟩=>cat0 (AU (hq.agree (i:=0) (by decide)) n2 p2)) rfl rfl rfl ?_
  refine Be rfl rfl rfl (AW (hc:=fun w' ⟨O',hq⟩=>Blk.cell (i:=2) ((p0.st hq (by decide)).1) rfl) rfl rfl rfl ?_)
  obtain ⟨t1,y3,c0⟩:=bs c0
  obtain ⟨z3,a4⟩:=AZ y3
  obtain ⟨i6,j6,e5,q2,r2,s2,t2,rfl,b4⟩:=i1.elem a4
  refine BH (hA:=q2) (hj:=(Int.toNat_of_nonneg z3).symm) (hlt:=s2) rfl rfl rfl rfl ?_
  refine AW (hc:=fun w' ⟨O',hq⟩=>cat0 (AU (hq.agree (i:=0) (by decide)) r2 t2)) rfl rfl rfl ?_
  refine AB ?_
  refine AP (i:=5) (by kernel_rfl) rfl ?_
  obtain ⟨j1,c4,c0⟩:=bs c0
  replace l0:=(l0.st d0).st e0
  replace h1:=(h1.st d0).st e0
  refine Bw (O:=r1) (R:=fun w' F v=>Vb w' F v j1) (DR Fr.lt (Vb.ofAgg (cs:=[(.slice A8 x0.vars.length c9),(.slice l1 x0.vals.length m1),(.slice n1 x0.ops.length o1)]) (x:=x0) rfl ⟨_,_,_,rfl,h7,j0,l0⟩) h1 c4) rfl rfl fun k6 l6 d4 f0 u2=>?_
  obtain ⟨e4,f4,rfl⟩:=u2.form
  have hZ:=f0.lst [] (fun _ h=>h.elim)
  refine AV [(24,[8])] hZ (by kernel_rfl) ?_
  refine AR (fuel:=4) [] [(22,true)] (by kernel_rfl) rfl ?_
  refine Dj rfl rfl rfl rfl ?_
  refine AB ?_
  refine AP (i:=23) (by kernel_rfl) rfl ?_
  refine CB 7 (by decide) d4 (xs:=([(⟨j1,s1,t1⟩:Eff)]:List Eff)) rfl rfl rfl rfl ⟨(Vb.ofAgg (cs:=[(.slice e4 j1.length f4),(.int .i64 s1),(.int .i64 t1)]) (x:=(⟨j1,s1,t1⟩:Eff)) rfl ⟨_,rfl,u2,u3,b4⟩),trivial⟩ (by decide) (by decide) rfl fun m6 n6 o6 g0 g4=>?_
  have hZ:=g0.lst [] (fun _ h=>h.elim)
  refine AV [(24,[8])] hZ (by kernel_rfl) ?_
  refine AP (i:=24) (by kernel_rfl) rfl ?_
  obtain ⟨h4,u1,c0⟩:=bs c0
  obtain ⟨u1,i4,j4⟩:=CC u1
  replace b0:=(((b0.st d0).st e0).st f0).st g0
  refine Eh rfl b0 (g4.rd) rfl rfl (by decide) i4 j4 rfl fun v2 w2 p6 k4 i0 x2=>?_
  rw [← u1] at x2 ⊢
  have hZ:=i0.lst [8] (fun _ h=>by cases h;decide)
  refine AV [] hZ (by kernel_rfl) ?_
  refine AR (fuel:=1) [] [(25,true)] (by kernel_rfl) rfl ?_
  refine Be rfl rfl rfl (AB ?_)
  refine AP (i:=26) (by kernel_rfl) rfl ?_
  replace r0:=((r0.st f0).st g0).st i0
  refine AT r0 rfl rfl rfl (Bg rfl) (allOne rfl) fun l4 n0 r0=>?_
  replace r0:Lc 5 l4 k4 a0.1 50 [(.string (⟨#[]⟩:ByteArray)),(.int .i64 x1.cost),(.slice a0.2.1 s0.length a0.2.2),(.slice v2 h4.length w2)]:=r0
  refine Ch (by kernel_rfl) ?_
  refine Bo (by kernel_rfl) ?_
  obtain rfl:=sm c0
  exact show Exists _ from ⟨_,(v2,w2),rfl,⟨rfl,rfl,rfl,rfl,rfl,rfl,trivial⟩,_,(((((hB.st d0).st e0).st f0).st g0).st i0).st n0,(((m0.st f0).st g0).st i0).st n0,(((h7.st f0).st g0).st i0).st n0,(((j0.st f0).st g0).st i0).st n0,(((l0.st f0).st g0).st i0).st n0,(((((q0.st d0).st e0).st f0).st g0).st i0).st n0,r0,(((((g1.st d0).st e0).st f0).st g0).st i0).st n0,x2.st n0,(((((t0.st d0).st e0).st f0).st g0).st i0).st n0⟩
 rintro q6 r6 ⟨k1,u0,rfl,y2,m4,hB,q0,r0,g1,b0⟩
 replace hm:=Bl hm
 refine AQ _ y2 ?_
 refine Al (Aj (Bi (hl:=rfl) (hc:=(r0.1).cellsAt) rfl rfl ?_))
 refine AT q0 rfl rfl rfl (Bg rfl) (allOne rfl) fun z2 v1 q0=>?_
 replace q0:Lc 4 z2 m4 p1 50 [(.string (⟨#[]⟩:ByteArray)),(.int .i64 x1.cost),(.slice a0.2.1 s0.length a0.2.2),(.slice u0.1 k1.length u0.2)]:=q0
 refine o_z ?_
 refine AH ?_
 replace b0:=b0.st v1
 obtain ⟨n4,w1,b0⟩:=b0.freeze
 obtain rfl:=sm hm
 replace hB:=(hB.st v1).st w1
 replace q0:=q0.st w1
 replace g1:=(g1.st v1).st w1
 exact ret1v rfl (Ck (cs:=[(.string (⟨#[]⟩:ByteArray)),(.int .i64 x1.cost),(.slice a0.2.1 s0.length a0.2.2),(.slice u0.1 k1.length u0.2)]) rfl rfl q0.1.cellsAt) ⟨hB.ext,(Vb.mono (F:=Fr 0 z2 n4) (Vb.ofAgg (cs:=[(.string (⟨#[]⟩:ByteArray)),(.int .i64 x1.cost),(.slice a0.2.1 s0.length a0.2.2),(.slice u0.1 k1.length u0.2)]) (x:=(⟨(⟨#[]⟩:ByteArray),x1.cost,s0,k1⟩:Opr)) rfl ⟨_,_,rfl,g1,b0,g5,(show (⟨#[]⟩:ByteArray).size≤9223372036854775807 from by decide)⟩) hB.out)⟩
noncomputable def Dm (x0:Tsk) (x1:Swp):Option Bool :=
  bnd (bnd (Dw x0 x1) fun q47=>if q47=true then bnd (BZ x1.ops (x0.ops.length:Int)) fun q56=>if q56=true then bnd (CI x1 x0.goal) fun q63=>bnd (BF q63 x0.goal) fun q72=>if q72=true then some false else some true else some true else some true:Option Bool) fun y43=>if y43=true then (some false) else (bnd (rng (ρ:=Bool) (fun (k90:Nat) (a91:Opr) (s88:Unit)=>bnd (x1.ops[k90]?) fun a125=>bnd (atI x0.ops a125) fun a135=>bnd (Dy x1 a91) fun q156=>bnd (Dx q156 a135) fun q174=>if q174=true then some (.next ()) else some (.ret false)) x0.ops 0 ()) fun res86=>fin res86 fun (s185:Unit)=>some true)
theorem Hv {w:World} {A:Nat→Prop} (hA:∀ k,A k→k < w.heap.size) {vx0:Value} {x0:Tsk} (w2:Vb w A vx0 x0) {vx1:Value} {x1:Swp} (x2:Vb w A vx1 x1) {r:Bool} (hm:Dm x0 x1=some r) :
    Fn Tryz.prog 54 [vx0,vx1] w fun v w'=>Ext w w'∧Vb w' (upA A w w') v r:=by
 obtain ⟨O,hB,d4⟩:=enter hA
 replace w2:=w2.mono d4
 obtain ⟨i6,rfl,v4,v5,v6,v7,rfl,h8,t0,m0,h0⟩:=w2
 obtain ⟨A9,p1,rfl⟩:=h8.form
 obtain ⟨q1,r1,rfl⟩:=t0.form
 obtain ⟨s1,t1,rfl⟩:=m0.form
 obtain ⟨j1,k1,rfl⟩:=h0.form
 replace x2:=x2.mono d4
 obtain ⟨p4,rfl,j6,k6,l6,rfl,n0,o0,i0⟩:=x2
 obtain ⟨d1,e1,rfl⟩:=n0.form
 obtain ⟨f1,g1,rfl⟩:=o0.form
 obtain ⟨h1,i1,rfl⟩:=i0.form
 refine AK Tryz.func54 rfl Tryz.ntmps54 rfl ?_
 unfold Dm at hm
 refine Al (Aj (Cb 2 O rfl rfl fun u1 q4 e4 s0 e0=>?_))
 replace e0:Lc 2 q4 e4 u1 26 [(.slice A9 x0.vars.length p1),(.slice q1 x0.init.length r1),(.slice s1 x0.goal.length t1),(.slice j1 x0.ops.length k1)]:=e0
 refine Cb 3 e4 rfl rfl fun v1 t2 w1 p0 l0=>?_
 replace l0:Lc 3 t2 w1 v1 53 [(.slice d1 x1.vars.length e1),(.slice f1 x1.vals.length g1),(.slice h1 x1.ops.length i1)]:=l0
 refine Aw rfl rfl (o_z ?_)
 refine Al (Al ?_)
 obtain ⟨r4,a0,hm⟩:=bs hm
 refine AL (fun l' w'=>∃ (s4:Unit) (O':Lab),subs l' [(2,(.pointer (some ⟨u1,0,none⟩))),(3,(.pointer (some ⟨v1,0,none⟩))),(29,(.bool r4))]∧Bs w A w' O'∧Lc 2 w' O' u1 26 [(.slice A9 x0.vars.length p1),(.slice q1 x0.init.length r1),(.slice s1 x0.goal.length t1),(.slice j1 x0.ops.length k1)]∧Vb w' (Fr 0 w' O') (.slice A9 x0.vars.length p1) x0.vars∧Vb w' (Fr 0 w' O') (.slice q1 x0.init.length r1) x0.init∧Vb w' (Fr 0 w' O') (.slice s1 x0.goal.length t1) x0.goal∧Vb w' (Fr 0 w' O') (.slice j1 x0.ops.length k1) x0.ops∧Lc 3 w' O' v1 53 [(.slice d1 x1.vars.length e1),(.slice f1 x1.vals.length g1),(.slice h1 x1.ops.length i1)]∧Vb w' (Fr 0 w' O') (.slice d1 x1.vars.length e1) x1.vars∧Vb w' (Fr 0 w' O') (.slice f1 x1.vals.length g1) x1.vals∧Vb w' (Fr 0 w' O') (.slice h1 x1.ops.length i1) x1.ops) ?_ ?_
 ·
  refine BA [] w1 ?_
  refine AR (fuel:=21) [] [(0,true),(1,true)] (by kernel_rfl) rfl ?_
  replace e0:=e0.st p0
  refine CR (hl:=rfl) (hb:=fun w' ⟨O',hq⟩=>((e0.st hq (by decide)).1).cellsAt) rfl rfl rfl ?_
  refine CR (hl:=rfl) (hb:=fun w' ⟨O',hq⟩=>((l0.st hq (by decide)).1).cellsAt) rfl rfl rfl ?_
  refine AB ?_
  refine AP (i:=2) (by kernel_rfl) rfl ?_
  obtain ⟨f4,t4,a0⟩:=bs a0
  replace h8:=(h8.st s0).st p0
  replace t0:=(t0.st s0).st p0
  replace m0:=(m0.st s0).st p0
  replace h0:=(h0.st s0).st p0
  replace n0:=(n0.st s0).st p0
  replace o0:=(o0.st s0).st p0
  replace i0:=(i0.st s0).st p0
  refine Bn (O:=w1) (A:=All t2) (R:=fun w' F v=>Vb w' F v f4) (IR (fun _ h=>h) (Vb.mono (F:=Fr 0 t2 w1) (Vb.ofAgg (cs:=[(.slice A9 x0.vars.length p1),(.slice q1 x0.init.length r1),(.slice s1 x0.goal.length t1),(.slice j1 x0.ops.length k1)]) (x:=x0) rfl ⟨_,_,_,_,rfl,h8,t0,m0,h0⟩) Fr.lt) (Vb.mono (F:=Fr 0 t2 w1) (Vb.ofAgg (cs:=[(.slice d1 x1.vars.length e1),(.slice f1 x1.vals.length g1),(.slice h1 x1.ops.length i1)]) (x:=x1) rfl ⟨_,_,_,rfl,n0,o0,i0⟩) Fr.lt) t4) rfl rfl fun m6 g4 h4 b0 u4=>?_
  obtain rfl:=u4.bool
  have hZ:=b0.lst [] (fun _ h=>h.elim)
  cases f4
  case false =>
   replace a0:=iF a0
   refine AV [] hZ (by kernel_rfl) ?_
   refine AR (fuel:=13) [] [(3,true),(4,true),(5,true),(6,true),(7,true),(8,true),(9,true)] (by kernel_rfl) rfl ?_
   refine ME rfl rfl rfl (AN rfl rfl rfl (Bc rfl rfl rfl rfl rfl (Bc rfl rfl rfl rfl rfl (Bc rfl rfl rfl rfl rfl (Bc rfl rfl rfl rfl rfl (Bc rfl rfl rfl rfl rfl (AB ?_)))))))
   refine AP (i:=10) (by kernel_rfl) rfl ?_
   refine Au rfl rfl rfl rfl (AV [] ((St.refl nT _ _).lst [] (fun _ h=>h.elim)) (by kernel_rfl) ?_)
   refine AR (fuel:=4) [] [(11,true),(12,true),(13,true),(14,true),(15,true),(16,true),(18,true),(19,true)] (by kernel_rfl) rfl ?_
   refine Bc rfl rfl rfl rfl rfl (Cm rfl rfl rfl rfl (AN rfl rfl rfl (Bc rfl rfl rfl rfl rfl (Bc rfl rfl rfl rfl rfl (Bc rfl rfl rfl rfl rfl (Bc rfl rfl rfl rfl rfl (Bc rfl rfl rfl rfl rfl (AB ?_))))))))
   refine AP (i:=17) (by kernel_rfl) rfl ?_
   refine Au rfl rfl rfl rfl (AV [] ((St.refl nT _ _).lst [] (fun _ h=>h.elim)) (by kernel_rfl) ?_)
   refine AP (i:=20) (by kernel_rfl) rfl ?_
   refine Au rfl rfl rfl rfl (AV [] ((St.refl nT _ _).lst [] (fun _ h=>h.elim)) (by kernel_rfl) ?_)
   refine AR (fuel:=0) [] [(21,true),(22,true)] (by kernel_rfl) rfl ?_
   refine Bc rfl rfl rfl rfl rfl (Cm rfl rfl rfl rfl (AB ?_))
   refine Bo (by kernel_rfl) ?_
   obtain rfl:=sm a0
   exact ⟨(),_,⟨rfl,rfl,rfl,trivial⟩,((hB.st s0).st p0).st b0,e0.st b0,h8.st b0,t0.st b0,m0.st b0,h0.st b0,l0.st b0,n0.st b0,o0.st b0,i0.st b0⟩
  replace a0:=iT a0
  refine AV [] hZ (by kernel_rfl) ?_
  refine AR (fuel:=13) [] [(3,true),(4,true),(5,true),(6,true),(7,true),(8,true),(9,true)] (by kernel_rfl) rfl ?_
  refine KW rfl rfl rfl (AN rfl rfl rfl (AA rfl (Ay rfl rfl (BO rfl rfl (AA rfl (Ay rfl rfl ?_))))))
  replace l0:=l0.st b0
  refine Dh (hc:=fun w' ⟨O',hq⟩=>Blk.cell (i:=2) ((l0.st hq (by decide)).1) rfl) rfl rfl ?_
  refine AA rfl (Ay rfl rfl (BO rfl rfl (AA rfl (Ay rfl rfl ?_))))
  replace e0:=e0.st b0
  refine Dh (hc:=fun w' ⟨O',hq⟩=>Blk.cell (i:=3) ((e0.st hq (by decide)).1) rfl) rfl rfl ?_
  refine AA rfl (Ay rfl rfl (GH rfl rfl ?_))
  replace h0:=h0.st b0
  have w4:x0.ops.length≤9223372036854775807:=Nat.le_trans h0.len.2.1 h0.len.2.2
  have x4:inI64 (x0.ops.length:Int):=rngNat w4
  refine AB ?_
  refine AP (i:=10) (by kernel_rfl) rfl ?_
  refine Az rfl rfl ?_
  obtain ⟨i4,y4,a0⟩:=bs a0
  replace i0:=i0.st b0
  refine Bn (O:=h4) (A:=All g4) (R:=fun w' F v=>Vb w' F v i4) (DO (fun _ h=>h) (Vb.mono (F:=Fr 0 g4 h4) i0 Fr.lt) x4 y4) rfl rfl fun n6 o6 z4 j0 a5=>?_
  obtain rfl:=a5.bool
  have hZ:=j0.lst [] (fun _ h=>h.elim)
  cases i4
  case false =>
   replace a0:=iF a0
   refine AV [] hZ (by kernel_rfl) ?_
   refine AR (fuel:=4) [] [(11,true),(12,true),(13,true),(14,true),(15,true),(16,true),(18,true),(19,true)] (by kernel_rfl) rfl ?_
   refine AA rfl (Ay rfl rfl (Gl rfl rfl (BX rfl rfl rfl rfl (AN rfl rfl rfl (Bc rfl rfl rfl rfl rfl (Bc rfl rfl rfl rfl rfl (Bc rfl rfl rfl rfl rfl (Bc rfl rfl rfl rfl rfl (Bc rfl rfl rfl rfl rfl (AB ?_))))))))))
   refine AP (i:=17) (by kernel_rfl) rfl ?_
   refine Au rfl rfl rfl rfl (AV [] ((St.refl nT _ _).lst [] (fun _ h=>h.elim)) (by kernel_rfl) ?_)
   refine AP (i:=20) (by kernel_rfl) rfl ?_
   refine Au rfl rfl rfl rfl (AV [] ((St.refl nT _ _).lst [] (fun _ h=>h.elim)) (by kernel_rfl) ?_)
   refine AR (fuel:=0) [] [(21,true),(22,true)] (by kernel_rfl) rfl ?_
   refine Bc rfl rfl rfl rfl rfl (Cm rfl rfl rfl rfl (AB ?_))
   refine Bo (by kernel_rfl) ?_
   obtain rfl:=sm a0
   exact ⟨(),_,⟨rfl,rfl,rfl,trivial⟩,(((hB.st s0).st p0).st b0).st j0,e0.st j0,(h8.st b0).st j0,(t0.st b0).st j0,(m0.st b0).st j0,h0.st j0,l0.st j0,(n0.st b0).st j0,(o0.st b0).st j0,i0.st j0⟩
  replace a0:=iT a0
  refine AV [] hZ (by kernel_rfl) ?_
  refine AR (fuel:=4) [] [(11,true),(12,true),(13,true),(14,true),(15,true),(16,true),(18,true),(19,true)] (by kernel_rfl) rfl ?_
  refine AA rfl (Ay rfl rfl (Gk rfl rfl (BX rfl rfl rfl rfl (AN rfl rfl rfl (AA rfl (Ay rfl rfl ?_))))))
  replace l0:=l0.st j0
  refine Il (hl:=rfl) (hb:=fun w' ⟨O',hq⟩=>((l0.st hq (by decide)).1).cellsAt) rfl rfl ?_
  refine AA rfl (Ay rfl rfl (BO rfl rfl (AA rfl (Ay rfl rfl ?_))))
  replace e0:=e0.st j0
  refine Dh (hc:=fun w' ⟨O',hq⟩=>Blk.cell (i:=2) ((e0.st hq (by decide)).1) rfl) rfl rfl ?_
  refine AA rfl (Ay rfl rfl (BO rfl rfl (AA rfl (Ay rfl rfl (Dh (hc:=fun w' ⟨O',hq⟩=>Blk.cell (i:=2) ((e0.st hq (by decide)).1) rfl) rfl rfl ?_)))))
  refine AB ?_
  refine AP (i:=17) (by kernel_rfl) rfl ?_
  refine Az rfl rfl ?_
  obtain ⟨b5,c5,a0⟩:=bs a0
  replace m0:=(m0.st b0).st j0
  replace n0:=(n0.st b0).st j0
  replace o0:=(o0.st b0).st j0
  replace i0:=i0.st j0
  refine Bw (O:=z4) (R:=fun w' F v=>Vb w' F v b5) (DR Fr.lt (Vb.ofAgg (cs:=[(.slice d1 x1.vars.length e1),(.slice f1 x1.vals.length g1),(.slice h1 x1.ops.length i1)]) (x:=x1) rfl ⟨_,_,_,rfl,n0,o0,i0⟩) m0 c5) rfl rfl fun p6 y2 z2 r0 j4=>?_
  obtain ⟨q6,r6,rfl⟩:=j4.form
  have hZ:=r0.lst [] (fun _ h=>h.elim)
  refine AV [] hZ (by kernel_rfl) ?_
  refine AP (i:=20) (by kernel_rfl) rfl ?_
  refine Az rfl rfl ?_
  obtain ⟨k4,d5,a0⟩:=bs a0
  replace m0:=m0.st r0
  refine Bn (O:=z2) (A:=All y2) (R:=fun w' F v=>Vb w' F v k4) (CL (fun _ h=>h) (Vb.mono (F:=Fr 0 y2 z2) j4 Fr.lt) (Vb.mono (F:=Fr 0 y2 z2) m0 Fr.lt) d5) rfl rfl fun s6 t6 u6 q0 e5=>?_
  obtain rfl:=e5.bool
  have hZ:=q0.lst [] (fun _ h=>h.elim)
  cases k4
  case false =>
   replace a0:=iF a0
   refine AV [] hZ (by kernel_rfl) ?_
   refine AR (fuel:=0) [] [(21,true),(22,true)] (by kernel_rfl) rfl ?_
   refine AA rfl (Ay rfl rfl (Gl rfl rfl (BX rfl rfl rfl rfl (AB ?_))))
   refine Bo (by kernel_rfl) ?_
   obtain rfl:=sm a0
   exact ⟨(),_,⟨rfl,rfl,rfl,trivial⟩,(((((hB.st s0).st p0).st b0).st j0).st r0).st q0,(e0.st r0).st q0,(((h8.st b0).st j0).st r0).st q0,(((t0.st b0).st j0).st r0).st q0,m0.st q0,((h0.st j0).st r0).st q0,(l0.st r0).st q0,(n0.st r0).st q0,(o0.st r0).st q0,(i0.st r0).st q0⟩
  replace a0:=iT a0
  refine AV [] hZ (by kernel_rfl) ?_
  refine AR (fuel:=0) [] [(21,true),(22,true)] (by kernel_rfl) rfl ?_
  refine AA rfl (Ay rfl rfl (Gk rfl rfl (BX rfl rfl rfl rfl (AB ?_))))
  refine Bo (by kernel_rfl) ?_
  obtain rfl:=sm a0
  exact ⟨(),_,⟨rfl,rfl,rfl,trivial⟩,(((((hB.st s0).st p0).st b0).st j0).st r0).st q0,(e0.st r0).st q0,(((h8.st b0).st j0).st r0).st q0,(((t0.st b0).st j0).st r0).st q0,m0.st q0,((h0.st j0).st r0).st q0,(l0.st r0).st q0,(n0.st r0).st q0,(o0.st r0).st q0,(i0.st r0).st q0⟩
 replace hB:=(hB.st s0).st p0
 replace h8:=(h8.st s0).st p0
 replace t0:=(t0.st s0).st p0
 replace m0:=(m0.st s0).st p0
 replace h0:=(h0.st s0).st p0
 replace n0:=(n0.st s0).st p0
 replace o0:=(o0.st s0).st p0
 replace i0:=(i0.st s0).st p0
 replace e0:=e0.st p0
 rintro w6 x6 ⟨s4,f5,a3,hB,e0,h8,t0,m0,h0,l0,n0,o0,i0⟩
 refine AQ _ a3 ?_
 refine BW rfl (fun b3=>?_) (fun b3=>?_)
 ·
  replace hm:=ip hm b3
  refine Al (Aj (Aw rfl rfl (o_z ?_)))
  refine AH ?_
  obtain rfl:=sm hm
  exact ret1v rfl (AE rfl) ⟨hB.ext,vBool⟩
 replace hm:=im' hm b3
 refine AO (Al (Al (Aj (AJ rfl rfl (AG (hc:=Blk.cell (i:=3) (e0.1) rfl) rfl rfl ?_)))))
 refine AY rfl rfl ?_
 have c3:x0.ops.length≤9223372036854775807:=Nat.le_trans h0.len.2.1 h0.len.2.2
 have y6:inI64 (x0.ops.length:Int):=rngNat c3
 refine Ar rfl rfl (o_z ?_)
 obtain ⟨y1,d3,hm⟩:=bs hm
 refine AL (aft y1 (fun (u2:Unit) (v2:Unit)=>[]) (fun u2 v2 w'=>∃ O':Lab,Bs w A w' O')) ?_ ?_
 ·
  refine Bb (BL (σ:=Unit) (X:=Unit) (x0.ops.length) d3 rfl c3 (fun (u2:Unit) (v2:Unit)=>[(2,(.pointer (some ⟨u1,0,none⟩))),(3,(.pointer (some ⟨v1,0,none⟩))),(31,(.slice j1 x0.ops.length k1))]) _ (fun u2 v2 w'=>∃ O':Lab,Bs w A w' O'∧Lc 2 w' O' u1 26 [(.slice A9 x0.vars.length p1),(.slice q1 x0.init.length r1),(.slice s1 x0.goal.length t1),(.slice j1 x0.ops.length k1)]∧Vb w' (Fr 0 w' O') (.slice A9 x0.vars.length p1) x0.vars∧Vb w' (Fr 0 w' O') (.slice q1 x0.init.length r1) x0.init∧Vb w' (Fr 0 w' O') (.slice s1 x0.goal.length t1) x0.goal∧Vb w' (Fr 0 w' O') (.slice j1 x0.ops.length k1) x0.ops∧Lc 3 w' O' v1 53 [(.slice d1 x1.vars.length e1),(.slice f1 x1.vals.length g1),(.slice h1 x1.ops.length i1)]∧Vb w' (Fr 0 w' O') (.slice d1 x1.vars.length e1) x1.vars∧Vb w' (Fr 0 w' O') (.slice f1 x1.vals.length g1) x1.vals∧Vb w' (Fr 0 w' O') (.slice h1 x1.ops.length i1) x1.ops) _ () ⟨f5,hB,e0,h8,t0,m0,h0,l0,n0,o0,i0⟩ ⟨rfl,rfl,rfl,rfl,rfl,trivial⟩ (fun _ _=>⟨rfl,rfl⟩) (fun _ _=>trivial) (fun _ _ _ ⟨O',hB,e0,h8,t0,m0,h0,l0,n0,o0,i0⟩=>⟨O',hB⟩) ⟨rfl,rfl,rfl⟩ ⟨rfl,rfl⟩ ?_)
  rintro g5 y0 u2 v2 z6 h5 z1 ⟨i5,hB,e0,h8,t0,m0,h0,l0,n0,o0,i0⟩ c0 l1 e3
  have rk90:inI64 (g5:Int):=rngK z1 c3
  refine Al (Aj (Ar rfl rfl ?_))
  obtain ⟨j5,k5,l4,a2,b2,c2,l5,m5,rfl,z0,a1,f3,g3⟩:=h0.elem' z1
  obtain ⟨d2,e2,rfl⟩:=z0.form
  obtain ⟨f2,g2,rfl⟩:=a1.form
  refine BJ (hA:=a2) (hj:=rfl) (hlt:=b2) rfl rfl rfl ?_
  refine Bi (hl:=rfl) (hc:=c2) rfl rfl ?_
  refine Bf 4 i5 rfl fun h3 n5 m1 f0 v0=>?_
  refine Aw rfl rfl (AT v0 rfl rfl rfl (Bg rfl) (allOne rfl) fun i3 g0 v0=>?_)
  replace v0:Lc 4 i3 m1 h3 50 [(.string y0.name),(.int .i64 y0.cost),(.slice d2 y0.pre.length e2),(.slice f2 y0.effs.length g2)]:=v0
  refine o_z ?_
  refine Al (BA [] m1 ?_)
  refine AR (fuel:=3) [] [(0,true),(1,true),(3,true),(4,true),(5,true),(6,true),(7,true),(8,true),(9,true),(10,true),(11,true)] (by kernel_rfl) rfl ?_
  replace l0:=(l0.st f0).st g0
  refine CR (hl:=rfl) (hb:=fun w' ⟨O',hq⟩=>((l0.st hq (by decide)).1).cellsAt) rfl rfl rfl ?_
  refine CR (hl:=rfl) (hb:=fun w' ⟨O',hq⟩=>((v0.st hq (by decide)).1).cellsAt) rfl rfl rfl ?_
  refine Be rfl rfl rfl ?_
  replace e0:=(e0.st f0).st g0
  refine AW (hc:=fun w' ⟨O',hq⟩=>Blk.cell (i:=3) ((e0.st hq (by decide)).1) rfl) rfl rfl rfl ?_
  refine Be rfl rfl rfl (AW (hc:=fun w' ⟨O',hq⟩=>Blk.cell (i:=2) ((l0.st hq (by decide)).1) rfl) rfl rfl rfl ?_)
  refine AN rfl rfl rfl ?_
  obtain ⟨o5,j3,c0⟩:=bs c0
  replace i0:=(i0.st f0).st g0
  obtain ⟨p5,q5,m4,h2,i2,j2,k2,rfl,r5⟩:=i0.elem j3
  refine BH (hA:=h2) (hj:=rfl) (hlt:=j2) rfl rfl rfl rfl ?_
  refine AW (hc:=fun w' ⟨O',hq⟩=>cat0 (AU (hq.agree (i:=0) (by decide)) i2 k2)) rfl rfl rfl ?_
  obtain ⟨w0,k3,c0⟩:=bs c0
  obtain ⟨l3,m3⟩:=AZ k3
  replace h0:=(h0.st f0).st g0
  obtain ⟨s5,t5,n4,l2,m2,n2,o2,u5,w5,rfl,b1,c1,n3,o3⟩:=h0.elem m3
  obtain ⟨p3,q3,rfl⟩:=b1.form
  obtain ⟨r3,s3,rfl⟩:=c1.form
  refine BH (hA:=l2) (hj:=(Int.toNat_of_nonneg l3).symm) (hlt:=n2) rfl rfl rfl rfl ?_
  refine CR (hl:=rfl) (hb:=fun w' ⟨O',hq⟩=>(AU (hq.agree (i:=0) (by decide)) m2 o2)) rfl rfl rfl ?_
  refine AB ?_
  refine AP (i:=2) (by kernel_rfl) rfl ?_
  obtain ⟨u0,t3,c0⟩:=bs c0
  replace n0:=(n0.st f0).st g0
  replace o0:=(o0.st f0).st g0
  replace z0:=(z0.st f0).st g0
  replace a1:=(a1.st f0).st g0
  refine Bw (O:=m1) (R:=fun w' F v=>Vb w' F v u0) (IV Fr.lt (Vb.ofAgg (cs:=[(.slice d1 x1.vars.length e1),(.slice f1 x1.vals.length g1),(.slice h1 x1.ops.length i1)]) (x:=x1) rfl ⟨_,_,_,rfl,n0,o0,i0⟩) (Vb.ofAgg (cs:=[(.string y0.name),(.int .i64 y0.cost),(.slice d2 y0.pre.length e2),(.slice f2 y0.effs.length g2)]) (x:=y0) rfl ⟨_,_,rfl,z0,a1,f3,g3⟩) t3) rfl rfl fun x5 n1 o1 d0 u3=>?_
  obtain ⟨o4,rfl,y5,z5,rfl,p2,q2,v3,w3⟩:=u3
  obtain ⟨x3,y3,rfl⟩:=p2.form
  obtain ⟨z3,a4,rfl⟩:=q2.form
  have hZ:=d0.lst [] (fun _ h=>h.elim)
  refine AV [] hZ (by kernel_rfl) ?_
  refine AP (i:=12) (by kernel_rfl) rfl ?_
  obtain ⟨r2,b4,c0⟩:=bs c0
  replace b1:=b1.st d0
  replace c1:=c1.st d0
  refine Bn (O:=o1) (A:=All n1) (R:=fun w' F v=>Vb w' F v r2) (IT (fun _ h=>h) (Vb.mono (F:=Fr 0 n1 o1) (Vb.ofAgg (cs:=[(.string u0.name),(.int .i64 u0.cost),(.slice x3 u0.pre.length y3),(.slice z3 u0.effs.length a4)]) (x:=u0) rfl ⟨_,_,rfl,p2,q2,v3,w3⟩) Fr.lt) (Vb.mono (F:=Fr 0 n1 o1) (Vb.ofAgg (cs:=[(.string w0.name),(.int .i64 w0.cost),(.slice p3 w0.pre.length q3),(.slice r3 w0.effs.length s3)]) (x:=w0) rfl ⟨_,_,rfl,b1,c1,n3,o3⟩) Fr.lt) b4) rfl rfl fun a6 b6 c6 k0 c4=>?_
  obtain rfl:=c4.bool
  have hZ:=k0.lst [] (fun _ h=>h.elim)
  cases r2
  case false =>
   replace c0:=iF c0
   refine AV [] hZ (by kernel_rfl) ?_
   refine AR (fuel:=0) [] [(13,true)] (by kernel_rfl) rfl ?_
   refine ME rfl rfl rfl (AB ?_)
   refine Bo (by kernel_rfl) ?_
   refine Ah rfl (Al (Aj (Aw rfl rfl (o_z ?_))))
   refine AH ?_
   obtain rfl:=sm c0
   obtain rfl:=l1 _ rfl
   obtain rfl:=sm (BV hm)
   replace hB:=(((hB.st f0).st g0).st d0).st k0
   exact ret1v rfl (AE rfl) ⟨hB.ext,vBool⟩
  replace c0:=iT c0
  refine AV [] hZ (by kernel_rfl) ?_
  refine AR (fuel:=0) [] [(13,true)] (by kernel_rfl) rfl ?_
  refine KW rfl rfl rfl (AB ?_)
  refine Bo (by kernel_rfl) ?_
  refine Ae rfl (AO ?_)
  obtain rfl:=sm c0
  exact show Exists _ from ⟨_,(),rfl,⟨rfl,rfl,rfl,rfl,rfl,trivial⟩,_,(((hB.st f0).st g0).st d0).st k0,(e0.st d0).st k0,(((h8.st f0).st g0).st d0).st k0,(((t0.st f0).st g0).st d0).st k0,(((m0.st f0).st g0).st d0).st k0,(h0.st d0).st k0,(l0.st d0).st k0,(n0.st d0).st k0,(o0.st d0).st k0,(i0.st d0).st k0⟩
 rintro d6 e6 ⟨f6,g6,rfl,s2,h6,hB⟩
 replace hm:=Bl hm
 refine AQ _ s2 ?_
 refine Al (Aj (Aw rfl rfl (o_z ?_)))
 refine AH ?_
 obtain rfl:=sm hm
 exact ret1v rfl (AE rfl) ⟨hB.ext,vBool⟩
noncomputable def CD (x0:Tsk) (x1:Swp):Option Bool :=
  bnd (bnd (Cn x0) fun q47=>if q47.n=0 then (bnd (Dm x0 x1) fun q56=>if q56=true then some true else some false) else (some false):Option Bool) fun y43=>some y43
theorem IW {w:World} {A:Nat→Prop} (hA:∀ k,A k→k < w.heap.size) {vx0:Value} {x0:Tsk} (m0:Vb w A vx0 x0) {vx1:Value} {x1:Swp} (n0:Vb w A vx1 x1) {r:Bool} (hm:CD x0 x1=some r) :
    Fn Tryz.prog 23 [vx0,vx1] w fun v w'=>Ext w w'∧Vb w' (upA A w w') v r:=by
 obtain ⟨O,hB,c1⟩:=enter hA
 replace m0:=m0.mono c1
 obtain ⟨y1,rfl,v4,v5,v6,v7,rfl,h8,f0,g0,h0⟩:=m0
 obtain ⟨A9,o0,rfl⟩:=h8.form
 obtain ⟨p0,q0,rfl⟩:=f0.form
 obtain ⟨r0,s0,rfl⟩:=g0.form
 obtain ⟨t0,u0,rfl⟩:=h0.form
 replace n0:=n0.mono c1
 obtain ⟨m1,rfl,z1,a2,b2,rfl,j0,k0,l0⟩:=n0
 obtain ⟨d1,e1,rfl⟩:=j0.form
 obtain ⟨f1,g1,rfl⟩:=k0.form
 obtain ⟨h1,i1,rfl⟩:=l0.form
 refine AK Tryz.func23 rfl Tryz.ntmps23 rfl ?_
 unfold CD at hm
 refine Al (Aj (Cb 2 O rfl rfl fun n1 o1 j1 d0 e0=>?_))
 replace e0:Lc 2 o1 j1 n1 26 [(.slice A9 x0.vars.length o0),(.slice p0 x0.init.length q0),(.slice r0 x0.goal.length s0),(.slice t0 x0.ops.length u0)]:=e0
 refine Cb 3 j1 rfl rfl fun p1 v0 w0 b0 i0=>?_
 replace i0:Lc 3 v0 w0 p1 53 [(.slice d1 x1.vars.length e1),(.slice f1 x1.vals.length g1),(.slice h1 x1.ops.length i1)]:=i0
 refine Aw rfl rfl (o_z ?_)
 refine Al ?_
 obtain ⟨q1,a0,hm⟩:=bs hm
 refine AL (fun l' w'=>∃ (r1:Unit) (O':Lab),subs l' [(4,(.bool q1))]∧Bs w A w' O') ?_ ?_
 ·
  refine Aj ?_
  replace e0:=e0.st b0
  refine Bi (hl:=rfl) (hc:=(e0.1).cellsAt) rfl rfl ?_
  obtain ⟨s1,t1,a0⟩:=bs a0
  replace h8:=(h8.st d0).st b0
  replace f0:=(f0.st d0).st b0
  replace g0:=(g0.st d0).st b0
  replace h0:=(h0.st d0).st b0
  refine Bn (O:=w0) (A:=All v0) (R:=fun w' F v=>Vb w' F v s1) (Gq (fun _ h=>h) (Vb.mono (F:=Fr 0 v0 w0) (Vb.ofAgg (cs:=[(.slice A9 x0.vars.length o0),(.slice p0 x0.init.length q0),(.slice r0 x0.goal.length s0),(.slice t0 x0.ops.length u0)]) (x:=x0) rfl ⟨_,_,_,_,rfl,h8,f0,g0,h0⟩) Fr.lt) t1) rfl rfl fun c2 y0 z0 c0 u1=>?_
  obtain ⟨rfl,d2⟩:=u1.err
  refine MI rfl rfl (fun a1=>?_) fun a1=>?_
  ·
   replace a0:=ip a0 a1
   refine Ar rfl rfl (Az rfl rfl ?_)
   replace e0:=e0.st c0
   refine Bi (hl:=rfl) (hc:=(e0.1).cellsAt) rfl rfl ?_
   refine Az rfl rfl ?_
   replace i0:=i0.st c0
   refine Bi (hl:=rfl) (hc:=(i0.1).cellsAt) rfl rfl ?_
   refine Az rfl rfl ?_
   obtain ⟨k1,v1,a0⟩:=bs a0
   replace h8:=h8.st c0
   replace f0:=f0.st c0
   replace g0:=g0.st c0
   replace h0:=h0.st c0
   replace j0:=((j0.st d0).st b0).st c0
   replace k0:=((k0.st d0).st b0).st c0
   replace l0:=((l0.st d0).st b0).st c0
   refine Bn (O:=z0) (A:=All y0) (R:=fun w' F v=>Vb w' F v k1) (Hv (fun _ h=>h) (Vb.mono (F:=Fr 0 y0 z0) (Vb.ofAgg (cs:=[(.slice A9 x0.vars.length o0),(.slice p0 x0.init.length q0),(.slice r0 x0.goal.length s0),(.slice t0 x0.ops.length u0)]) (x:=x0) rfl ⟨_,_,_,_,rfl,h8,f0,g0,h0⟩) Fr.lt) (Vb.mono (F:=Fr 0 y0 z0) (Vb.ofAgg (cs:=[(.slice d1 x1.vars.length e1),(.slice f1 x1.vals.length g1),(.slice h1 x1.ops.length i1)]) (x:=x1) rfl ⟨_,_,_,rfl,j0,k0,l0⟩) Fr.lt) v1) rfl rfl fun e2 f2 g2 l1 w1=>?_
   obtain rfl:=w1.bool
   cases k1
   case false =>
    replace a0:=iF a0
    refine Bq rfl rfl rfl (Aw rfl rfl (o_z ?_))
    obtain rfl:=sm a0
    exact ⟨(),_,⟨rfl,trivial⟩,(((hB.st d0).st b0).st c0).st l1⟩
   replace a0:=iT a0
   refine Bq rfl rfl rfl (Aw rfl rfl (o_z ?_))
   obtain rfl:=sm a0
   exact ⟨(),_,⟨rfl,trivial⟩,(((hB.st d0).st b0).st c0).st l1⟩
  replace a0:=im a0 a1
  refine Ar rfl rfl (Au rfl rfl rfl rfl (Au rfl rfl rfl rfl (Au rfl rfl rfl rfl (Br rfl rfl rfl (Aw rfl rfl (o_z ?_))))))
  obtain rfl:=sm a0
  exact ⟨(),_,⟨rfl,trivial⟩,((hB.st d0).st b0).st c0⟩
 replace hB:=(hB.st d0).st b0
 rintro h2 i2 ⟨r1,j2,b1,hB⟩
 refine AQ _ b1 ?_
 refine AH ?_
 obtain rfl:=sm hm
 exact ret1v rfl (AE rfl) ⟨hB.ext,vBool⟩
noncomputable def Bk (x0:Tsk) (x1:List Swp):Option Err :=
  bnd (Cn x0) fun q27=>if q27.n≠0 then (some (⟨q27.n⟩:Err)) else (bnd (rng (ρ:=Err) (fun (k42:Nat) (a43:Swp) (s40:Unit)=>bnd (Dm x0 a43) fun q79=>if q79=true then some (.next ()) else some (.ret (⟨2⟩:Err))) x1 0 ()) fun res38=>fin res38 fun (s90:Unit)=>some (⟨0⟩:Err))
theorem DS {w:World} {A:Nat→Prop} (hA:∀ k,A k→k < w.heap.size) {vx0:Value} {x0:Tsk} (f1:Vb w A vx0 x0) {vx1:Value} {x1:List Swp} (e0:Vb w A vx1 x1) {r:Err} (hm:Bk x0 x1=some r) :
    Fn Tryz.prog 85 [vx0,vx1] w fun v w'=>Ext w w'∧Vb w' (upA A w w') v r:=by
 obtain ⟨O,hB,r1⟩:=enter hA
 replace f1:=f1.mono r1
 obtain ⟨o2,rfl,v4,v5,v6,v7,rfl,h8,b0,c0,d0⟩:=f1
 obtain ⟨A9,n0,rfl⟩:=h8.form
 obtain ⟨o0,p0,rfl⟩:=b0.form
 obtain ⟨q0,r0,rfl⟩:=c0.form
 obtain ⟨s0,t0,rfl⟩:=d0.form
 replace e0:=e0.mono r1
 obtain ⟨s1,t1,rfl⟩:=e0.form
 refine AK Tryz.func85 rfl Tryz.ntmps85 rfl ?_
 unfold Bk at hm
 refine Al (Aj (Cb 2 O rfl rfl fun g1 h1 i1 j0 f0=>?_))
 replace f0:Lc 2 h1 i1 g1 26 [(.slice A9 x0.vars.length n0),(.slice o0 x0.init.length p0),(.slice q0 x0.goal.length r0),(.slice s0 x0.ops.length t0)]:=f0
 refine Aw rfl rfl (o_z ?_)
 refine Al (Al (Aj (Bi (hl:=rfl) (hc:=(f0.1).cellsAt) rfl rfl ?_)))
 obtain ⟨c2,d2,hm⟩:=bs hm
 replace h8:=h8.st j0
 replace b0:=b0.st j0
 replace c0:=c0.st j0
 replace d0:=d0.st j0
 refine Bn (O:=i1) (A:=All h1) (R:=fun w' F v=>Vb w' F v c2) (Gq (fun _ h=>h) (Vb.mono (F:=Fr 0 h1 i1) (Vb.ofAgg (cs:=[(.slice A9 x0.vars.length n0),(.slice o0 x0.init.length p0),(.slice q0 x0.goal.length r0),(.slice s0 x0.ops.length t0)]) (x:=x0) rfl ⟨_,_,_,_,rfl,h8,b0,c0,d0⟩) Fr.lt) d2) rfl rfl fun p2 q2 e2 i0 f2=>?_
 obtain ⟨rfl,g2⟩:=f2.err
 refine Aw rfl rfl (o_z ?_)
 refine Al (Aj (Ar rfl rfl (DJ rfl rfl (fun j1=>?_) fun j1=>?_)))
 ·
  replace hm:=ip hm j1
  refine o_z ?_
  refine Ah rfl (Al (Aj (Ar rfl rfl (Aw rfl rfl (o_z ?_)))))
  refine AH ?_
  obtain rfl:=sm hm
  replace hB:=(hB.st j0).st i0
  exact ret1v rfl (AE rfl) ⟨hB.ext,(vErr g2)⟩
 replace hm:=im hm j1
 refine o_z ?_
 refine Ae rfl (AO (Al (Al (Aj (Ar rfl rfl (AY rfl rfl ?_))))))
 replace e0:=(e0.st j0).st i0
 have k1:x1.length≤9223372036854775807:=Nat.le_trans e0.len.2.1 e0.len.2.2
 have r2:inI64 (x1.length:Int):=rngNat k1
 refine Ar rfl rfl (o_z ?_)
 obtain ⟨u0,l1,hm⟩:=bs hm
 refine AL (aft u0 (fun (y0:Unit) (z0:Unit)=>[]) (fun y0 z0 w'=>∃ O':Lab,Bs w A w' O')) ?_ ?_
 ·
  refine Bb ?_
  replace hB:=(hB.st j0).st i0
  replace h8:=h8.st i0
  replace b0:=b0.st i0
  replace c0:=c0.st i0
  replace d0:=d0.st i0
  replace f0:=f0.st i0
  refine BL (σ:=Unit) (X:=Unit) (x1.length) l1 rfl k1 (fun (y0:Unit) (z0:Unit)=>[(2,(.pointer (some ⟨g1,0,none⟩))),(13,(.slice s1 x1.length t1))]) _ (fun y0 z0 w'=>∃ O':Lab,Bs w A w' O'∧Lc 2 w' O' g1 26 [(.slice A9 x0.vars.length n0),(.slice o0 x0.init.length p0),(.slice q0 x0.goal.length r0),(.slice s0 x0.ops.length t0)]∧Vb w' (Fr 0 w' O') (.slice A9 x0.vars.length n0) x0.vars∧Vb w' (Fr 0 w' O') (.slice o0 x0.init.length p0) x0.init∧Vb w' (Fr 0 w' O') (.slice q0 x0.goal.length r0) x0.goal∧Vb w' (Fr 0 w' O') (.slice s0 x0.ops.length t0) x0.ops∧Vb w' (Fr 0 w' O') (.slice s1 x1.length t1) x1) _ () ⟨e2,hB,f0,h8,b0,c0,d0,e0⟩ ⟨rfl,rfl,rfl,rfl,trivial⟩ (fun _ _=>⟨rfl,rfl⟩) (fun _ _=>trivial) (fun _ _ _ ⟨O',hB,f0,h8,b0,c0,d0,e0⟩=>⟨O',hB⟩) ⟨rfl,rfl,rfl⟩ ⟨rfl,rfl⟩ ?_
  rintro h2 l0 y0 z0 s2 i2 v0 ⟨j2,hB,f0,h8,b0,c0,d0,e0⟩ a0 m0 m1
  have rk42:inI64 (h2:Int):=rngK v0 k1
  refine Al (Aj ?_)
  obtain ⟨t2,u2,k2,n1,o1,p1,v2,w2,x2,rfl,a1,b1,c1⟩:=e0.elem' v0
  obtain ⟨u1,v1,rfl⟩:=a1.form
  obtain ⟨w1,y1,rfl⟩:=b1.form
  obtain ⟨z1,a2,rfl⟩:=c1.form
  refine BJ (hA:=n1) (hj:=rfl) (hlt:=o1) rfl rfl rfl ?_
  refine Bi (hl:=rfl) (hc:=p1) rfl rfl ?_
  refine Bf 3 j2 rfl fun l2 y2 d1 g0 w0=>?_
  refine AT w0 rfl rfl rfl (Bg rfl) (allOne rfl) fun e1 h0 w0=>?_
  replace w0:Lc 3 e1 d1 l2 53 [(.slice u1 l0.vars.length v1),(.slice w1 l0.vals.length y1),(.slice z1 l0.ops.length a2)]:=w0
  refine o_z ?_
  refine Al (Aj ?_)
  replace f0:=(f0.st g0).st h0
  refine Bi (hl:=rfl) (hc:=(f0.1).cellsAt) rfl rfl ?_
  refine Bi (hl:=rfl) (hc:=(w0.1).cellsAt) rfl rfl ?_
  obtain ⟨b2,m2,a0⟩:=bs a0
  replace h8:=(h8.st g0).st h0
  replace b0:=(b0.st g0).st h0
  replace c0:=(c0.st g0).st h0
  replace d0:=(d0.st g0).st h0
  replace a1:=(a1.st g0).st h0
  replace b1:=(b1.st g0).st h0
  replace c1:=(c1.st g0).st h0
  refine Bn (O:=d1) (A:=All e1) (R:=fun w' F v=>Vb w' F v b2) (Hv (fun _ h=>h) (Vb.mono (F:=Fr 0 e1 d1) (Vb.ofAgg (cs:=[(.slice A9 x0.vars.length n0),(.slice o0 x0.init.length p0),(.slice q0 x0.goal.length r0),(.slice s0 x0.ops.length t0)]) (x:=x0) rfl ⟨_,_,_,_,rfl,h8,b0,c0,d0⟩) Fr.lt) (Vb.mono (F:=Fr 0 e1 d1) (Vb.ofAgg (cs:=[(.slice u1 l0.vars.length v1),(.slice w1 l0.vals.length y1),(.slice z1 l0.ops.length a2)]) (x:=l0) rfl ⟨_,_,_,rfl,a1,b1,c1⟩) Fr.lt) m2) rfl rfl fun z2 a3 b3 k0 n2=>?_
  obtain rfl:=n2.bool
  cases b2
  case false =>
   replace a0:=iF a0
   refine Cr rfl rfl (o_z ?_)
   refine Ah rfl (Al (Aj (MH rfl rfl ?_)))
   refine Aw rfl rfl (o_z ?_)
   refine AH ?_
   obtain rfl:=sm a0
   obtain rfl:=m0 _ rfl
   obtain rfl:=sm (BV hm)
   replace hB:=((hB.st g0).st h0).st k0
   exact ret1v rfl (AE rfl) ⟨hB.ext,(vErr (by decide))⟩
  replace a0:=iT a0
  refine Cq rfl rfl (o_z ?_)
  refine Ae rfl (AO ?_)
  obtain rfl:=sm a0
  exact show Exists _ from ⟨_,(),rfl,⟨rfl,rfl,rfl,rfl,trivial⟩,_,((hB.st g0).st h0).st k0,f0.st k0,h8.st k0,b0.st k0,c0.st k0,d0.st k0,((e0.st g0).st h0).st k0⟩
 replace hB:=(hB.st j0).st i0
 rintro c3 d3 ⟨e3,f3,rfl,q1,g3,hB⟩
 replace hm:=Bl hm
 refine AQ _ q1 ?_
 refine Al (Aj (Aw rfl rfl (o_z ?_)))
 refine AH ?_
 obtain rfl:=sm hm
 exact ret1v rfl (AE rfl) ⟨hB.ext,(vErr (show inI64 0 from by decide))⟩
end
section
open Go Go.RowKit
attribute [local irreducible] ewp owp hwp hwq hws Ev Evg Fn retPost loud loudS Res1
def exts (n:Nat) (s:List Int):List (List Int):=(List.range n).map fun x:Nat=>s ++ [(x:Int)]
def grows (out:List (List Int)) (k:Int):List (List Int):=out.flatMap (exts k.toNat)
def statesL (vars:List Int):List (List Int):=vars.foldl grows [[]]
theorem Oa (n:Nat) (s:List Int):(exts n s).length=n:=by simp [exts]
theorem Ki (n:Nat):∀ l:List (List Int),(l.flatMap (exts n)).length=l.length * n
  | []=>by simp
  | s :: l=>by rw [List.flatMap_cons,List.length_append,Oa,Ki n l,List.length_cons,Nat.add_mul];omega
end
section
open Go Go.RowKit
def prodV:List Int→Nat→Nat
  | [],n=>n
  | k :: r,n=>prodV r (n * k.toNat)
theorem GB:∀ (vars:List Int) (out:List (List Int)),(vars.foldl grows out).length=prodV vars out.length
  | [],_=>rfl
  | k :: r,out=>by
    simp only [List.foldl_cons,prodV]
    rw [GB r,grows,Ki]
theorem LO (vars:List Int):(statesL vars).length=prodV vars 1:=GB vars [[]]
theorem Kj {most:Nat}:∀ (vars:List Int) (n:Nat),(∀ x∈vars,1≤x)→1≤n→manyF most vars (n:Int)≤most→∀ k,prodV (vars.take k) n≤most
  | [],n,_,_,h,k=>by simp only [List.take_nil,prodV];simp only [manyF] at h;omega
  | x :: r,n,hx,hn,h,k=>by
    have h1:1≤x:=hx x List.mem_cons_self
    simp only [manyF] at h
    have hmax:max x 0=x:=by omega
    rw [hmax] at h
    obtain ⟨m,rfl⟩:∃ m:Nat,x=(m:Int):=⟨x.toNat,by omega⟩
    by_cases hm:(m:Int)≤most
    · rw [show min (m:Int) (most + 1)=(m:Int) from by omega,← Int.natCast_mul] at h
      have hnm:n≤n * m:=Nat.le_mul_of_pos_right n (by omega)
      by_cases hc:(most:Int) < ((n * m:Nat):Int)
      · rw [if_pos hc] at h;omega
      · rw [if_neg hc] at h
        cases k with
        | zero=>simp only [List.take_zero,prodV];omega
        | succ k =>
          simp only [List.take_succ_cons,prodV,Int.toNat_natCast]
          exact Kj r (n * m) (fun y hy=>hx y (List.mem_cons_of_mem _ hy)) (by omega) h k
    · exfalso
      rw [show min (m:Int) (most + 1)=((most + 1:Nat):Int) from by omega,← Int.natCast_mul] at h
      have:most + 1≤n * (most + 1):=Nat.le_mul_of_pos_left _ hn
      rw [if_pos (by omega)] at h
      omega
theorem HR {y x:Int} {vs s:List Int}:StateOk (y :: vs) (x :: s)↔(0≤x∧x < y)∧StateOk vs s:=by
  constructor
  · intro h
    exact ⟨h.2 0 x y rfl rfl,by have:=h.1;simpa using this,fun i a b ha hb=>h.2 (i + 1) a b (by simpa using ha) (by simpa using hb)⟩
  · rintro ⟨h1,h2,h3⟩
    refine ⟨by simpa using h2,fun i a b ha hb=>?_⟩
    cases i with
    | zero=>simp at ha hb;subst ha;subst hb;exact h1
    | succ i=>exact h3 i a b (by simpa using ha) (by simpa using hb)
theorem LP:StateOk [] []:=⟨rfl,fun i a b ha=>by simp at ha⟩
theorem Lj {n:Nat} {s t:List Int}:t∈exts n s↔∃ x:Nat,x < n∧t=s ++ [(x:Int)]:=by
  unfold exts
  rw [List.mem_map]
  constructor
  · rintro ⟨x,hx,rfl⟩;exact ⟨x,List.mem_range.1 hx,rfl⟩
  · rintro ⟨x,hx,rfl⟩;exact ⟨x,List.mem_range.2 hx,rfl⟩
theorem GC:∀ (vars:List Int) (out:List (List Int)) (s:List Int),s∈vars.foldl grows out↔∃ s0∈out,∃ r,s=s0 ++ r∧StateOk vars r
  | [],out,s=>by
    constructor
    · intro h;exact ⟨s,h,[],by simp,LP⟩
    · rintro ⟨s0,h,r,rfl,hr⟩
      have:r=[]:=List.eq_nil_of_length_eq_zero hr.1
      subst this;simpa using h
  | k :: vs,out,s=>by
    simp only [List.foldl_cons]
    rw [GC vs (grows out k) s]
    constructor
    · rintro ⟨s1,h1,r,rfl,hr⟩
      obtain ⟨s0,h0,h2⟩:=List.mem_flatMap.1 h1
      obtain ⟨x,hx,rfl⟩:=Lj.1 h2
      exact ⟨s0,h0,(x:Int) :: r,by simp,HR.2 ⟨⟨by omega,by omega⟩,hr⟩⟩
    · rintro ⟨s0,h0,r,rfl,hr⟩
      cases r with
      | nil=>have:=hr.1;simp at this
      | cons x r =>
        obtain ⟨⟨h1,h2⟩,h3⟩:=HR.1 hr
        exact ⟨s0 ++ [x],List.mem_flatMap.2 ⟨s0,h0,Lj.2 ⟨x.toNat,by omega,by rw [show ((x.toNat:Nat):Int)=x from by omega]⟩⟩,r,by simp,h3⟩
theorem GI {vars s:List Int}:s∈statesL vars↔StateOk vars s:=by
  unfold statesL
  rw [GC]
  constructor
  · rintro ⟨s0,h0,r,rfl,hr⟩
    have:s0=[]:=by simpa using h0
    subst this;exact hr
  · intro h;exact ⟨[],by simp,s,rfl,h⟩
theorem SmallOk.ok {t:Tsk} (h:SmallOk t):TaskOk t:=h.2.2.2.1
theorem SmallOk.states {t:Tsk} (h:SmallOk t):∀ k,(statesL (t.vars.take k)).length≤512:=fun k=>by
  rw [LO]
  refine Kj (most:=512) t.vars 1 (fun x hx=>?_) (Nat.le_refl _) h.2.2.2.2 k
  obtain ⟨i,hi,rfl⟩:=List.getElem_of_mem hx
  exact (h.ok.vars i _ (List.getElem?_eq_getElem hi)).1
theorem SmallOk.many {t:Tsk} (h:SmallOk t):(statesL t.vars).length≤512:=by
  have:=h.states t.vars.length
  rwa [List.take_length] at this
end
section
open Go Go.RowKit
attribute [local irreducible] ewp owp hwp hwq hws Ev Evg Fn retPost loud loudS Res1
noncomputable def BR (x0:Tsk):Option (Swp×Err) :=
  bnd (Bk x0 ([]:List Swp)) fun q29=>if q29.n≠0 then (some ((⟨([]:List Int),([]:List (List Int)),([]:List Int)⟩:Swp),(⟨q29.n⟩:Err))) else (bnd (CS (x0.vars.length:Int)) fun q40=>bnd (CS (x0.ops.length:Int)) fun q42=>bnd (some (q40,q42):Option ((List Int)×(List Int))) fun y44=>bnd (rng (ρ:=Swp×Err) (fun (k121:Nat) (a122:Int) (s119:(List (List Int)))=>bnd (CS a122) fun q144=>bnd (appI 24 s119 [q144]) fun u159=>some (.next u159)) x0.vars 0 ([]:List (List Int))) fun res117=>fin res117 fun (s176:(List (List Int)))=>some ((⟨y44.1,s176,y44.2⟩:Swp),(⟨0⟩:Err)))
theorem HD {w:World} {A:Nat→Prop} (hA:∀ k,A k→k < w.heap.size) {vx0:Value} {x0:Tsk} (z2:Vb w A vx0 x0) {r:Swp×Err} (hm:BR x0=some r) :
    Fn Tryz.prog 62 [vx0] w fun v w'=>Ext w w'∧T2 w' (upA A w w') v r:=by
 obtain ⟨O,hB,o4⟩:=enter hA
 replace z2:=z2.mono o4
 obtain ⟨a6,rfl,v3,v4,v5,v6,rfl,h7,t0,u0,p0⟩:=z2
 obtain ⟨A8,c9,rfl⟩:=h7.form
 obtain ⟨p2,q2,rfl⟩:=t0.form
 obtain ⟨r2,s2,rfl⟩:=u0.form
 obtain ⟨t2,u2,rfl⟩:=p0.form
 refine AK Tryz.func62 rfl Tryz.ntmps62 rfl ?_
 unfold BR at hm
 refine Al (Aj (Cb 2 O rfl rfl fun a3 p4 u3 z0 m0=>?_))
 replace m0:Lc 2 p4 u3 a3 26 [(.slice A8 x0.vars.length c9),(.slice p2 x0.init.length q2),(.slice r2 x0.goal.length s2),(.slice t2 x0.ops.length u2)]:=m0
 refine Bf 3 u3 rfl fun k1 w3 x3 v0 c0=>?_
 refine Aw rfl rfl (o_z ?_)
 refine Al (Al (Aj ?_))
 replace m0:=m0.st v0
 refine Bi (hl:=rfl) (hc:=(m0.1).cellsAt) rfl rfl ?_
 obtain ⟨q4,r4,hm⟩:=bs hm
 replace h7:=(h7.st z0).st v0
 replace t0:=(t0.st z0).st v0
 replace u0:=(u0.st z0).st v0
 replace p0:=(p0.st z0).st v0
 refine Bn (O:=x3) (A:=All w3) (R:=fun w' F v=>Vb w' F v q4) (DS (fun _ h=>h) (Vb.mono (F:=Fr 0 w3 x3) (Vb.ofAgg (cs:=[(.slice A8 x0.vars.length c9),(.slice p2 x0.init.length q2),(.slice r2 x0.goal.length s2),(.slice t2 x0.ops.length u2)]) (x:=x0) rfl ⟨_,_,_,_,rfl,h7,t0,u0,p0⟩) Fr.lt) (Vb.nil _ _) r4) rfl rfl fun b6 c6 u1 e0 s4=>?_
 obtain ⟨rfl,t4⟩:=s4.err
 refine Aw rfl rfl (o_z ?_)
 refine Al (Aj (Ar rfl rfl (DJ rfl rfl (fun b3=>?_) fun b3=>?_)))
 ·
  replace hm:=ip hm b3
  refine o_z ?_
  refine Ah rfl (Al (Aj (Dd rfl rfl rfl ?_)))
  refine Ar rfl rfl ?_
  replace c0:=c0.st e0
  refine AT c0 rfl rfl rfl (Bg rfl) (allOne rfl) fun y3 u4 c0=>?_
  replace c0:Lc 3 y3 u1 k1 53 [(.slice none 0 0),(.slice none 0 0),(.slice none 0 0)]:=c0
  refine Aw rfl rfl (o_z ?_)
  refine AH ?_
  obtain rfl:=sm hm
  replace hB:=(((hB.st z0).st v0).st e0).st u4
  exact ret2 rfl (Ck (cs:=[(.slice none 0 0),(.slice none 0 0),(.slice none 0 0)]) rfl rfl c0.1.cellsAt) (AE rfl) ⟨hB.ext,_,_,rfl,(Vb.mono (F:=Fr 0 y3 u1) (Vb.ofAgg (cs:=[(.slice none 0 0),(.slice none 0 0),(.slice none 0 0)]) (x:=(⟨([]:List Int),([]:List (List Int)),([]:List Int)⟩:Swp)) rfl ⟨_,_,_,rfl,(Vb.nil _ _),(Vb.nil _ _),(Vb.nil _ _)⟩) hB.out),(vErr t4)⟩
 replace hm:=im hm b3
 refine o_z ?_
 refine Ae rfl (AO (Al ?_))
 obtain ⟨v1,z3,hm⟩:=bs hm
 obtain ⟨t1,c3,hm⟩:=bs hm
 obtain ⟨b0,n1,hm⟩:=bs hm
 refine AL (fun l' w'=>∃ (a0:Nat×(Option Addr×Nat)×(Option Addr×Nat)) (O':Lab),subs l' [(1,(.pointer (some ⟨a3,0,none⟩))),(2,(.pointer (some ⟨k1,0,none⟩))),(5,(.pointer (some ⟨a0.1,0,none⟩)))]∧Bs w A w' O'∧Lc 2 w' O' a3 26 [(.slice A8 x0.vars.length c9),(.slice p2 x0.init.length q2),(.slice r2 x0.goal.length s2),(.slice t2 x0.ops.length u2)]∧Vb w' (Fr 0 w' O') (.slice A8 x0.vars.length c9) x0.vars∧Vb w' (Fr 0 w' O') (.slice p2 x0.init.length q2) x0.init∧Vb w' (Fr 0 w' O') (.slice r2 x0.goal.length s2) x0.goal∧Vb w' (Fr 0 w' O') (.slice t2 x0.ops.length u2) x0.ops∧Lc 3 w' O' k1 53 [(.slice none 0 0),(.slice none 0 0),(.slice none 0 0)]∧Lc 4 w' O' a0.1 53 [(.slice a0.2.1.1 b0.1.length a0.2.1.2),(.slice none 0 0),(.slice a0.2.2.1 b0.2.length a0.2.2.2)]∧Vb w' (Fr 0 w' O') (.slice a0.2.1.1 b0.1.length a0.2.1.2) b0.1∧Vb w' (Fr 0 w' O') (.slice a0.2.2.1 b0.2.length a0.2.2.2) b0.2) ?_ ?_
 ·
  refine BA [] u1 ?_
  refine AR (fuel:=5) [] [(0,true),(1,true),(2,true),(4,true),(5,true),(6,true)] (by kernel_rfl) rfl ?_
  refine Be rfl rfl rfl ?_
  replace m0:=m0.st e0
  refine AW (hc:=fun w' ⟨O',hq⟩=>Blk.cell (i:=0) ((m0.st hq (by decide)).1) rfl) rfl rfl rfl ?_
  refine IM rfl rfl rfl ?_
  replace h7:=h7.st e0
  have w4:x0.vars.length≤9223372036854775807:=Nat.le_trans h7.len.2.1 h7.len.2.2
  have a4:inI64 (x0.vars.length:Int):=rngNat w4
  refine Be rfl rfl rfl (AW (hc:=fun w' ⟨O',hq⟩=>Blk.cell (i:=3) ((m0.st hq (by decide)).1) rfl) rfl rfl rfl ?_)
  refine IM rfl rfl rfl ?_
  replace p0:=p0.st e0
  have x4:x0.ops.length≤9223372036854775807:=Nat.le_trans p0.len.2.1 p0.len.2.2
  have d3:inI64 (x0.ops.length:Int):=rngNat x4
  refine AB ?_
  refine EM (i:=3) (j:=9) (by kernel_rfl) rfl rfl ?_ ?_
  ·
   refine Bw (O:=u1) (R:=fun w' F v=>Vb w' F v v1) (Di Fr.lt a4 z3) rfl rfl fun d6 e6 b4 n0 e3=>?_
   obtain ⟨v2,w2,rfl⟩:=e3.form
   have hZ:=n0.lst [] (fun _ h=>h.elim)
   refine AV [] hZ (by kernel_rfl) ?_
   refine EM (i:=7) (j:=9) (by kernel_rfl) rfl rfl ?_ ?_
   ·
    refine Bw (O:=b4) (R:=fun w' F v=>Vb w' F v t1) (Di Fr.lt d3 c3) rfl rfl fun f6 g6 y4 a1 c4=>?_
    obtain ⟨d4,e4,rfl⟩:=c4.form
    have hZ:=a1.lst [] (fun _ h=>h.elim)
    refine AV [] hZ (by kernel_rfl) ?_
    refine AR (fuel:=2) [] [(8,true)] (by kernel_rfl) rfl ?_
    refine Dj rfl rfl rfl rfl ?_
    refine AB ?_
    refine AP (i:=9) (by kernel_rfl) rfl ?_
    refine Bf 4 y4 rfl fun f4 h6 z4 w0 w1=>?_
    have hZ:=w0.lst [] (fun _ h=>h.elim)
    refine AV [] hZ (by kernel_rfl) ?_
    refine AP (i:=10) (by kernel_rfl) rfl ?_
    refine AT w1 rfl rfl rfl (Bg rfl) (allOne rfl) fun a5 b1 w1=>?_
    replace w1:Lc 4 a5 z4 f4 53 [(.slice v2 v1.length w2),(.slice none 0 0),(.slice d4 t1.length e4)]:=w1
    refine Ch (by kernel_rfl) ?_
    refine Bo (by kernel_rfl) ?_
    obtain rfl:=sm n1
    exact ⟨(f4,(v2,w2),(d4,e4)),_,⟨rfl,rfl,rfl,trivial⟩,((((((hB.st z0).st v0).st e0).st n0).st a1).st w0).st b1,(((m0.st n0).st a1).st w0).st b1,(((h7.st n0).st a1).st w0).st b1,((((t0.st e0).st n0).st a1).st w0).st b1,((((u0.st e0).st n0).st a1).st w0).st b1,(((p0.st n0).st a1).st w0).st b1,((((c0.st e0).st n0).st a1).st w0).st b1,w1,((e3.st a1).st w0).st b1,(c4.st w0).st b1⟩
   refine Bf 4 b4 rfl fun g4 i6 b5 c1 o1=>?_
   have hZ:=c1.lst [] (fun _ h=>h.elim)
   refine AV [] hZ (by kernel_rfl) ?_
   refine AP (i:=7) (by kernel_rfl) rfl ?_
   refine Bw (O:=b5) (R:=fun w' F v=>Vb w' F v t1) (Di Fr.lt d3 c3) rfl rfl fun j6 k6 c5 y0 h4=>?_
   obtain ⟨i4,j4,rfl⟩:=h4.form
   have hZ:=y0.lst [] (fun _ h=>h.elim)
   refine AV [] hZ (by kernel_rfl) ?_
   refine AR (fuel:=1) [] [(8,true)] (by kernel_rfl) rfl ?_
   refine Dj rfl rfl rfl rfl ?_
   refine AB ?_
   refine AP (i:=10) (by kernel_rfl) rfl ?_
   replace o1:=o1.st y0
   refine AT o1 rfl rfl rfl (Bg rfl) (allOne rfl) fun d5 d1 o1=>?_
   replace o1:Lc 4 d5 c5 g4 53 [(.slice v2 v1.length w2),(.slice none 0 0),(.slice i4 t1.length j4)]:=o1
   refine Ch (by kernel_rfl) ?_
   refine Bo (by kernel_rfl) ?_
   obtain rfl:=sm n1
   exact ⟨(g4,(v2,w2),(i4,j4)),_,⟨rfl,rfl,rfl,trivial⟩,((((((hB.st z0).st v0).st e0).st n0).st c1).st y0).st d1,(((m0.st n0).st c1).st y0).st d1,(((h7.st n0).st c1).st y0).st d1,((((t0.st e0).st n0).st c1).st y0).st d1,((((u0.st e0).st n0).st c1).st y0).st d1,(((p0.st n0).st c1).st y0).st d1,((((c0.st e0).st n0).st c1).st y0).st d1,o1,((e3.st c1).st y0).st d1,h4.st d1⟩
  refine Bf 4 u1 rfl fun k4 l6 e5 l1 p1=>?_
  have hZ:=l1.lst [] (fun _ h=>h.elim)
  refine AV [] hZ (by kernel_rfl) ?_
  refine AP (i:=3) (by kernel_rfl) rfl ?_
  refine Bw (O:=e5) (R:=fun w' F v=>Vb w' F v v1) (Di Fr.lt a4 z3) rfl rfl fun m6 n6 f5 e1 l4=>?_
  obtain ⟨x1,y1,rfl⟩:=l4.form
  have hZ:=e1.lst [] (fun _ h=>h.elim)
  refine AV [] hZ (by kernel_rfl) ?_
  refine AP (i:=7) (by kernel_rfl) rfl ?_
  refine Bw (O:=f5) (R:=fun w' F v=>Vb w' F v t1) (Di Fr.lt d3 c3) rfl rfl fun g5 h5 f3 g0 z1=>?_
  obtain ⟨a2,b2,rfl⟩:=z1.form
  have hZ:=g0.lst [] (fun _ h=>h.elim)
  refine AV [] hZ (by kernel_rfl) ?_
  refine AR (fuel:=1) [] [(8,true)] (by kernel_rfl) rfl ?_
  refine Dj rfl rfl rfl rfl ?_
  refine AB ?_
  refine AP (i:=10) (by kernel_rfl) rfl ?_
  replace p1:=(p1.st e1).st g0
  refine AT p1 rfl rfl rfl (Bg rfl) (allOne rfl) fun g3 i0 p1=>?_
  replace p1:Lc 4 g3 f3 k4 53 [(.slice x1 v1.length y1),(.slice none 0 0),(.slice a2 t1.length b2)]:=p1
  refine Ch (by kernel_rfl) ?_
  refine Bo (by kernel_rfl) ?_
  obtain rfl:=sm n1
  exact ⟨(k4,(x1,y1),(a2,b2)),_,⟨rfl,rfl,rfl,trivial⟩,((((((hB.st z0).st v0).st e0).st l1).st e1).st g0).st i0,(((m0.st l1).st e1).st g0).st i0,(((h7.st l1).st e1).st g0).st i0,((((t0.st e0).st l1).st e1).st g0).st i0,((((u0.st e0).st l1).st e1).st g0).st i0,(((p0.st l1).st e1).st g0).st i0,((((c0.st e0).st l1).st e1).st g0).st i0,p1,(l4.st g0).st i0,z1.st i0⟩
 replace hB:=((hB.st z0).st v0).st e0
 replace h7:=h7.st e0
 replace t0:=t0.st e0
 replace u0:=u0.st e0
 replace p0:=p0.st e0
 replace m0:=m0.st e0
 replace c0:=c0.st e0
 rintro i5 j5 ⟨a0,h3,c2,hB,m0,h7,t0,u0,p0,c0,q0,f1,g1⟩
 refine AQ _ c2 ?_
 refine Al (Al (Aj (AJ rfl rfl (AG (hc:=Blk.cell (i:=0) (m0.1) rfl) rfl rfl ?_))))
 refine AY rfl rfl ?_
 have q1:x0.vars.length≤9223372036854775807:=Nat.le_trans h7.len.2.1 h7.len.2.2
 have k5:inI64 (x0.vars.length:Int):=rngNat q1
 refine Ar rfl rfl (o_z ?_)
 obtain ⟨r1,d2,hm⟩:=bs hm
 refine AL (aft r1 (fun (h0:(List (List Int))) (d0:(Option Addr×Nat))=>[(2,(.pointer (some ⟨k1,0,none⟩))),(5,(.pointer (some ⟨a0.1,0,none⟩)))]) (fun h0 d0 w'=>∃ O':Lab,Bs w A w' O'∧Lc 3 w' O' k1 53 [(.slice none 0 0),(.slice none 0 0),(.slice none 0 0)]∧Lc 4 w' O' a0.1 53 [(.slice a0.2.1.1 b0.1.length a0.2.1.2),(.slice d0.1 h0.length d0.2),(.slice a0.2.2.1 b0.2.length a0.2.2.2)]∧Vb w' (Fr 0 w' O') (.slice a0.2.1.1 b0.1.length a0.2.1.2) b0.1∧Rw 6 w' O' 22 (.slice d0.1 h0.length d0.2) h0∧Vb w' (Fr 0 w' O') (.slice a0.2.2.1 b0.2.length a0.2.2.2) b0.2)) ?_ ?_
 ·
  refine Bb (BL (σ:=(List (List Int))) (X:=(Option Addr×Nat)) (x0.vars.length) d2 rfl q1 (fun (h0:(List (List Int))) (d0:(Option Addr×Nat))=>[(2,(.pointer (some ⟨k1,0,none⟩))),(5,(.pointer (some ⟨a0.1,0,none⟩))),(24,(.slice A8 x0.vars.length c9))]) _ (fun h0 d0 w'=>∃ O':Lab,Bs w A w' O'∧Lc 3 w' O' k1 53 [(.slice none 0 0),(.slice none 0 0),(.slice none 0 0)]∧Lc 4 w' O' a0.1 53 [(.slice a0.2.1.1 b0.1.length a0.2.1.2),(.slice d0.1 h0.length d0.2),(.slice a0.2.2.1 b0.2.length a0.2.2.2)]∧Vb w' (Fr 0 w' O') (.slice a0.2.1.1 b0.1.length a0.2.1.2) b0.1∧Rw 6 w' O' 22 (.slice d0.1 h0.length d0.2) h0∧Vb w' (Fr 0 w' O') (.slice a0.2.2.1 b0.2.length a0.2.2.2) b0.2∧Vb w' (Fr 0 w' O') (.slice A8 x0.vars.length c9) x0.vars) _ (none,0) ⟨h3,hB,c0,q0,f1,(Rw.nil 6 (by decide)),g1,h7⟩ ⟨rfl,rfl,rfl,rfl,rfl,trivial⟩ (fun _ _=>⟨rfl,rfl⟩) (fun _ _=>⟨rfl,rfl,trivial⟩) (fun _ _ _ ⟨O',hB,c0,q0,f1,f0,g1,h7⟩=>⟨O',hB,c0,q0,f1,f0,g1⟩) ⟨rfl,rfl,rfl⟩ ⟨rfl,rfl⟩ ?_)
  rintro i3 l5 h0 d0 m5 m4 m1 ⟨e2,hB,c0,q0,f1,f0,g1,h7⟩ j0 x2 y2
  have rk121:inI64 (i3:Int):=rngK m1 q1
  refine Al (Aj ?_)
  obtain ⟨n5,o5,n4,f2,g2,h2,rfl,j3⟩:=h7.elem' m1
  refine BJ (hA:=f2) (hj:=rfl) (hlt:=g2) rfl rfl rfl ?_
  refine AG (hc:=cat0 h2) rfl rfl ?_
  refine Aw rfl rfl (o_z ?_)
  refine BA [(5,[6])] e2 ?_
  refine AR (fuel:=5) [] [(0,true),(1,true),(2,true)] (by kernel_rfl) rfl ?_
  refine Be rfl rfl rfl (AW (hc:=fun w' ⟨O',hq⟩=>Blk.cell (i:=1) ((q0.st hq (by decide)).1) rfl) rfl rfl rfl ?_)
  refine AN rfl rfl rfl (AB ?_)
  refine AP (i:=3) (by kernel_rfl) rfl ?_
  obtain ⟨i2,k3,j0⟩:=bs j0
  refine Bw (O:=e2) (R:=fun w' F v=>Vb w' F v i2) (Di Fr.lt j3 k3) rfl rfl fun p5 q5 l3 k0 j2=>?_
  obtain ⟨r5,s5,rfl⟩:=j2.form
  have hZ:=k0.lst [] (fun _ h=>h.elim)
  refine AV [(5,[6])] hZ (by kernel_rfl) ?_
  refine AP (i:=4) (by kernel_rfl) rfl ?_
  refine CB 5 (by decide) l3 (xs:=([i2]:List (List Int))) rfl rfl rfl rfl ⟨j2,trivial⟩ (by decide) (by decide) rfl fun t5 u5 w5 l0 m3=>?_
  have hZ:=l0.lst [] (fun _ h=>h.elim)
  refine AV [(5,[6])] hZ (by kernel_rfl) ?_
  refine AP (i:=5) (by kernel_rfl) rfl ?_
  obtain ⟨n3,s1,j0⟩:=bs j0
  obtain ⟨s1,o3,p3⟩:=CC s1
  replace f0:=(f0.st k0).st l0
  refine Eh rfl f0 (m3.rd) rfl rfl (by decide) o3 p3 rfl fun k2 l2 x5 q3 o0 m2=>?_
  rw [← s1] at m2 ⊢
  have hZ:=o0.lst [6] (fun _ h=>by cases h;decide)
  refine AV [] hZ (by kernel_rfl) ?_
  refine AR (fuel:=1) [] [(6,true)] (by kernel_rfl) rfl ?_
  refine Be rfl rfl rfl (AB ?_)
  refine AP (i:=7) (by kernel_rfl) rfl ?_
  replace q0:=((q0.st k0).st l0).st o0
  refine AT q0 rfl rfl rfl (Bg rfl) (allOne rfl) fun r3 r0 q0=>?_
  replace q0:Lc 4 r3 q3 a0.1 53 [(.slice a0.2.1.1 b0.1.length a0.2.1.2),(.slice k2 n3.length l2),(.slice a0.2.2.1 b0.2.length a0.2.2.2)]:=q0
  refine Ch (by kernel_rfl) ?_
  refine Bo (by kernel_rfl) ?_
  obtain rfl:=sm j0
  exact show Exists _ from ⟨_,(k2,l2),rfl,⟨rfl,rfl,rfl,rfl,rfl,trivial⟩,_,(((hB.st k0).st l0).st o0).st r0,(((c0.st k0).st l0).st o0).st r0,q0,(((f1.st k0).st l0).st o0).st r0,m2.st r0,(((g1.st k0).st l0).st o0).st r0,(((h7.st k0).st l0).st o0).st r0⟩
 rintro y5 z5 ⟨h1,s0,rfl,n2,s3,hB,c0,q0,f1,f0,g1⟩
 replace hm:=Bl hm
 refine AQ _ n2 ?_
 refine Al (Aj (Bi (hl:=rfl) (hc:=(q0.1).cellsAt) rfl rfl ?_))
 refine AT c0 rfl rfl rfl (Bg rfl) (allOne rfl) fun o2 i1 c0=>?_
 replace c0:Lc 3 o2 s3 k1 53 [(.slice a0.2.1.1 b0.1.length a0.2.1.2),(.slice s0.1 h1.length s0.2),(.slice a0.2.2.1 b0.2.length a0.2.2.2)]:=c0
 refine Aw rfl rfl (o_z ?_)
 refine AH ?_
 replace f0:=f0.st i1
 obtain ⟨t3,j1,f0⟩:=f0.freeze
 obtain rfl:=sm hm
 replace hB:=(hB.st i1).st j1
 replace c0:=c0.st j1
 replace f1:=(f1.st i1).st j1
 replace g1:=(g1.st i1).st j1
 exact ret2 rfl (Ck (cs:=[(.slice a0.2.1.1 b0.1.length a0.2.1.2),(.slice s0.1 h1.length s0.2),(.slice a0.2.2.1 b0.2.length a0.2.2.2)]) rfl rfl c0.1.cellsAt) (AE rfl) ⟨hB.ext,_,_,rfl,(Vb.mono (F:=Fr 0 o2 t3) (Vb.ofAgg (cs:=[(.slice a0.2.1.1 b0.1.length a0.2.1.2),(.slice s0.1 h1.length s0.2),(.slice a0.2.2.1 b0.2.length a0.2.2.2)]) (x:=(⟨b0.1,h1,b0.2⟩:Swp)) rfl ⟨_,_,_,rfl,f1,f0,g1⟩) hB.out),(vErr (show inI64 0 from by decide))⟩
noncomputable def BE (x0:Tsk) (x1:Swp) (x2:Swp):Option (Swp×Err) :=
  bnd (Bk x0 [x1,x2]) fun q73=>if q73.n≠0 then (some ((⟨([]:List Int),([]:List (List Int)),([]:List Int)⟩:Swp),(⟨q73.n⟩:Err))) else (bnd (CO x1.vars x2.vars) fun q84=>bnd (CO x1.ops x2.ops) fun q86=>bnd (some (q84,q86):Option ((List Int)×(List Int))) fun y88=>bnd (rng (ρ:=Swp×Err) (fun (k161:Nat) (a162:List Int) (s159:(List (List Int)))=>bnd (x1.vars[k161]?) fun a187=>bnd (atI x2.vals a187) fun a197=>bnd (CO a162 a197) fun q212=>bnd (appI 24 s159 [q212]) fun u227=>some (.next u227)) x1.vals 0 ([]:List (List Int))) fun res157=>fin res157 fun (s244:(List (List Int)))=>some ((⟨y88.1,s244,y88.2⟩:Swp),(⟨0⟩:Err)))
theorem HS {w:World} {A:Nat→Prop} (hA:∀ k,A k→k < w.heap.size) {vx0:Value} {x0:Tsk} (o4:Vb w A vx0 x0) {vx1:Value} {x1:Swp} (p4:Vb w A vx1 x1) {vx2:Value} {x2:Swp} (q4:Vb w A vx2 x2) {r:Swp×Err} (hm:BE x0 x1 x2=some r) :
    Fn Tryz.prog 64 [vx0,vx1,vx2] w fun v w'=>Ext w w'∧T2 w' (upA A w w') v r:=by
 obtain ⟨O,hB,r4⟩:=enter hA
 replace o4:=o4.mono r4
 obtain ⟨u8,rfl,v5,v6,v7,v8,rfl,h9,j4,k4,l4⟩:=o4
 obtain ⟨w5,x5,rfl⟩:=h9.form
 obtain ⟨y5,z5,rfl⟩:=j4.form
 obtain ⟨a6,b6,rfl⟩:=k4.form
 obtain ⟨c6,d6,rfl⟩:=l4.form
 replace p4:=p4.mono r4
 obtain ⟨q6,rfl,w8,x8,y8,rfl,z0,g1,u0⟩:=p4
 obtain ⟨i2,j2,rfl⟩:=z0.form
 obtain ⟨c2,d2,rfl⟩:=g1.form
 obtain ⟨k2,l2,rfl⟩:=u0.form
 replace q4:=q4.mono r4
 obtain ⟨r6,rfl,z8,a9,b9,rfl,d1,j1,v0⟩:=q4
 obtain ⟨m2,n2,rfl⟩:=d1.form
 obtain ⟨o2,p2,rfl⟩:=j1.form
 obtain ⟨q2,r2,rfl⟩:=v0.form
 refine AK Tryz.func64 rfl Tryz.ntmps64 rfl ?_
 unfold BE at hm
 refine Al (Aj (Cb 2 O rfl rfl fun s6 t6 e6 k1 t2=>?_))
 replace t2:Lc 2 t6 e6 s6 26 [(.slice w5 x0.vars.length x5),(.slice y5 x0.init.length z5),(.slice a6 x0.goal.length b6),(.slice c6 x0.ops.length d6)]:=t2
 refine Cb 3 e6 rfl rfl fun u2 u6 f6 i1 a1=>?_
 replace a1:Lc 3 u6 f6 u2 53 [(.slice i2 x1.vars.length j2),(.slice c2 x1.vals.length d2),(.slice k2 x1.ops.length l2)]:=a1
 refine Cb 4 f6 rfl rfl fun v2 w6 g6 h1 e1=>?_
 replace e1:Lc 4 w6 g6 v2 53 [(.slice m2 x2.vars.length n2),(.slice o2 x2.vals.length p2),(.slice q2 x2.ops.length r2)]:=e1
 refine Bf 5 g6 rfl fun a2 c9 x6 f1 m0=>?_
 refine Aw rfl rfl (o_z ?_)
 refine Al (Al (Aj ?_))
 replace t2:=((t2.st i1).st h1).st f1
 refine Bi (hl:=rfl) (hc:=(t2.1).cellsAt) rfl rfl ?_
 replace a1:=(a1.st h1).st f1
 refine Bi (hl:=rfl) (hc:=(a1.1).cellsAt) rfl rfl ?_
 replace e1:=e1.st f1
 refine Bi (hl:=rfl) (hc:=(e1.1).cellsAt) rfl rfl ?_
 replace z0:=(((z0.st k1).st i1).st h1).st f1
 replace g1:=(((g1.st k1).st i1).st h1).st f1
 replace u0:=(((u0.st k1).st i1).st h1).st f1
 replace d1:=(((d1.st k1).st i1).st h1).st f1
 replace j1:=(((j1.st k1).st i1).st h1).st f1
 replace v0:=(((v0.st k1).st i1).st h1).st f1
 refine CB 6 (by decide) x6 (xs:=([x1,x2]:List Swp)) rfl rfl rfl rfl ⟨(Vb.ofAgg (cs:=[(.slice i2 x1.vars.length j2),(.slice c2 x1.vals.length d2),(.slice k2 x1.ops.length l2)]) (x:=x1) rfl ⟨_,_,_,rfl,z0,g1,u0⟩),(Vb.ofAgg (cs:=[(.slice m2 x2.vars.length n2),(.slice o2 x2.vals.length p2),(.slice q2 x2.ops.length r2)]) (x:=x2) rfl ⟨_,_,_,rfl,d1,j1,v0⟩),trivial⟩ (by decide) (by decide) rfl fun d9 h6 i6 b0 y6=>?_
 obtain ⟨z6,a7,hm⟩:=bs hm
 replace h9:=((((h9.st k1).st i1).st h1).st f1).st b0
 replace j4:=((((j4.st k1).st i1).st h1).st f1).st b0
 replace k4:=((((k4.st k1).st i1).st h1).st f1).st b0
 replace l4:=((((l4.st k1).st i1).st h1).st f1).st b0
 refine Bn (O:=i6) (A:=All h6) (R:=fun w' F v=>Vb w' F v z6) (DS (fun _ h=>h) (Vb.mono (F:=Fr 0 h6 i6) (Vb.ofAgg (cs:=[(.slice w5 x0.vars.length x5),(.slice y5 x0.init.length z5),(.slice a6 x0.goal.length b6),(.slice c6 x0.ops.length d6)]) (x:=x0) rfl ⟨_,_,_,_,rfl,h9,j4,k4,l4⟩) Fr.lt) (y6).all a7) rfl rfl fun e9 f9 w2 c0 b7=>?_
 obtain ⟨rfl,c7⟩:=b7.err
 refine Aw rfl rfl (o_z ?_)
 refine Al (Aj (Ar rfl rfl (DJ rfl rfl (fun s4=>?_) fun s4=>?_)))
 ·
  replace hm:=ip hm s4
  refine o_z ?_
  refine Ah rfl (Al (Aj (Dd rfl rfl rfl ?_)))
  refine Ar rfl rfl ?_
  replace m0:=(m0.st b0).st c0
  refine AT m0 rfl rfl rfl (Bg rfl) (allOne rfl) fun j6 d7 m0=>?_
  replace m0:Lc 5 j6 w2 a2 53 [(.slice none 0 0),(.slice none 0 0),(.slice none 0 0)]:=m0
  refine Aw rfl rfl (o_z ?_)
  refine AH ?_
  obtain rfl:=sm hm
  replace hB:=((((((hB.st k1).st i1).st h1).st f1).st b0).st c0).st d7
  exact ret2 rfl (Ck (cs:=[(.slice none 0 0),(.slice none 0 0),(.slice none 0 0)]) rfl rfl m0.1.cellsAt) (AE rfl) ⟨hB.ext,_,_,rfl,(Vb.mono (F:=Fr 0 j6 w2) (Vb.ofAgg (cs:=[(.slice none 0 0),(.slice none 0 0),(.slice none 0 0)]) (x:=(⟨([]:List Int),([]:List (List Int)),([]:List Int)⟩:Swp)) rfl ⟨_,_,_,rfl,(Vb.nil _ _),(Vb.nil _ _),(Vb.nil _ _)⟩) hB.out),(vErr c7)⟩
 replace hm:=im hm s4
 refine o_z ?_
 refine Ae rfl (AO (Al ?_))
 obtain ⟨y2,k6,hm⟩:=bs hm
 obtain ⟨s2,t4,hm⟩:=bs hm
 obtain ⟨h0,e2,hm⟩:=bs hm
 refine AL (fun l' w'=>∃ (a0:Nat×(Option Addr×Nat)×(Option Addr×Nat)) (O':Lab),subs l' [(4,(.pointer (some ⟨u2,0,none⟩))),(5,(.pointer (some ⟨v2,0,none⟩))),(6,(.pointer (some ⟨a2,0,none⟩))),(9,(.pointer (some ⟨a0.1,0,none⟩)))]∧Bs w A w' O'∧Lc 3 w' O' u2 53 [(.slice i2 x1.vars.length j2),(.slice c2 x1.vals.length d2),(.slice k2 x1.ops.length l2)]∧Vb w' (Fr 0 w' O') (.slice i2 x1.vars.length j2) x1.vars∧Vb w' (Fr 0 w' O') (.slice c2 x1.vals.length d2) x1.vals∧Vb w' (Fr 0 w' O') (.slice k2 x1.ops.length l2) x1.ops∧Lc 4 w' O' v2 53 [(.slice m2 x2.vars.length n2),(.slice o2 x2.vals.length p2),(.slice q2 x2.ops.length r2)]∧Vb w' (Fr 0 w' O') (.slice m2 x2.vars.length n2) x2.vars∧Vb w' (Fr 0 w' O') (.slice o2 x2.vals.length p2) x2.vals∧Vb w' (Fr 0 w' O') (.slice q2 x2.ops.length r2) x2.ops∧Lc 5 w' O' a2 53 [(.slice none 0 0),(.slice none 0 0),(.slice none 0 0)]∧Lc 7 w' O' a0.1 53 [(.slice a0.2.1.1 h0.1.length a0.2.1.2),(.slice none 0 0),(.slice a0.2.2.1 h0.2.length a0.2.2.2)]∧Vb w' (Fr 0 w' O') (.slice a0.2.1.1 h0.1.length a0.2.1.2) h0.1∧Vb w' (Fr 0 w' O') (.slice a0.2.2.1 h0.2.length a0.2.2.2) h0.2) ?_ ?_
 ·
  refine BA [] w2 ?_
  refine AR (fuel:=5) [] [(0,true),(1,true),(2,true),(3,true),(5,true),(6,true),(7,true),(8,true)] (by kernel_rfl) rfl ?_
  refine Be rfl rfl rfl ?_
  replace a1:=(a1.st b0).st c0
  refine AW (hc:=fun w' ⟨O',hq⟩=>Blk.cell (i:=0) ((a1.st hq (by decide)).1) rfl) rfl rfl rfl ?_
  refine Be rfl rfl rfl ?_
  replace e1:=(e1.st b0).st c0
  refine AW (hc:=fun w' ⟨O',hq⟩=>Blk.cell (i:=0) ((e1.st hq (by decide)).1) rfl) rfl rfl rfl ?_
  refine Be rfl rfl rfl (AW (hc:=fun w' ⟨O',hq⟩=>Blk.cell (i:=2) ((a1.st hq (by decide)).1) rfl) rfl rfl rfl ?_)
  refine Be rfl rfl rfl (AW (hc:=fun w' ⟨O',hq⟩=>Blk.cell (i:=2) ((e1.st hq (by decide)).1) rfl) rfl rfl rfl ?_)
  refine AB ?_
  refine EM (i:=4) (j:=11) (by kernel_rfl) rfl rfl ?_ ?_
  ·
   replace z0:=(z0.st b0).st c0
   replace d1:=(d1.st b0).st c0
   refine Bw (O:=w2) (R:=fun w' F v=>Vb w' F v y2) (Dc Fr.lt z0 d1 k6) rfl rfl fun g9 i9 l6 b1 u4=>?_
   obtain ⟨q1,r1,rfl⟩:=u4.form
   have hZ:=b1.lst [] (fun _ h=>h.elim)
   refine AV [] hZ (by kernel_rfl) ?_
   refine EM (i:=9) (j:=11) (by kernel_rfl) rfl rfl ?_ ?_
   ·
    replace u0:=((u0.st b0).st c0).st b1
    replace v0:=((v0.st b0).st c0).st b1
    refine Bw (O:=l6) (R:=fun w' F v=>Vb w' F v s2) (Dc Fr.lt u0 v0 t4) rfl rfl fun e7 f7 v4 n0 z2=>?_
    obtain ⟨a3,b3,rfl⟩:=z2.form
    have hZ:=n0.lst [] (fun _ h=>h.elim)
    refine AV [] hZ (by kernel_rfl) ?_
    refine AR (fuel:=2) [] [(10,true)] (by kernel_rfl) rfl ?_
    refine Dj rfl rfl rfl rfl ?_
    refine AB ?_
    refine AP (i:=11) (by kernel_rfl) rfl ?_
    refine Bf 7 v4 rfl fun c3 g7 w4 i0 p1=>?_
    have hZ:=i0.lst [] (fun _ h=>h.elim)
    refine AV [] hZ (by kernel_rfl) ?_
    refine AP (i:=12) (by kernel_rfl) rfl ?_
    refine AT p1 rfl rfl rfl (Bg rfl) (allOne rfl) fun x4 o0 p1=>?_
    replace p1:Lc 7 x4 w4 c3 53 [(.slice q1 y2.length r1),(.slice none 0 0),(.slice a3 s2.length b3)]:=p1
    refine Ch (by kernel_rfl) ?_
    refine Bo (by kernel_rfl) ?_
    obtain rfl:=sm e2
    exact ⟨(c3,(q1,r1),(a3,b3)),_,⟨rfl,rfl,rfl,rfl,trivial⟩,(((((((((hB.st k1).st i1).st h1).st f1).st b0).st c0).st b1).st n0).st i0).st o0,(((a1.st b1).st n0).st i0).st o0,(((z0.st b1).st n0).st i0).st o0,(((((g1.st b0).st c0).st b1).st n0).st i0).st o0,((u0.st n0).st i0).st o0,(((e1.st b1).st n0).st i0).st o0,(((d1.st b1).st n0).st i0).st o0,(((((j1.st b0).st c0).st b1).st n0).st i0).st o0,((v0.st n0).st i0).st o0,(((((m0.st b0).st c0).st b1).st n0).st i0).st o0,p1,((u4.st n0).st i0).st o0,(z2.st i0).st o0⟩
   refine Bf 7 l6 rfl fun d3 h7 y4 p0 l1=>?_
   have hZ:=p0.lst [] (fun _ h=>h.elim)
   refine AV [] hZ (by kernel_rfl) ?_
   refine AP (i:=9) (by kernel_rfl) rfl ?_
   replace u0:=(((u0.st b0).st c0).st b1).st p0
   replace v0:=(((v0.st b0).st c0).st b1).st p0
   refine Bw (O:=y4) (R:=fun w' F v=>Vb w' F v s2) (Dc Fr.lt u0 v0 t4) rfl rfl fun i7 j7 z4 j0 e3=>?_
   obtain ⟨f3,g3,rfl⟩:=e3.form
   have hZ:=j0.lst [] (fun _ h=>h.elim)
   refine AV [] hZ (by kernel_rfl) ?_
   refine AR (fuel:=1) [] [(10,true)] (by kernel_rfl) rfl ?_
   refine Dj rfl rfl rfl rfl ?_
   refine AB ?_
   refine AP (i:=12) (by kernel_rfl) rfl ?_
   replace l1:=l1.st j0
   refine AT l1 rfl rfl rfl (Bg rfl) (allOne rfl) fun a5 q0 l1=>?_
   replace l1:Lc 7 a5 z4 d3 53 [(.slice q1 y2.length r1),(.slice none 0 0),(.slice f3 s2.length g3)]:=l1
   refine Ch (by kernel_rfl) ?_
   refine Bo (by kernel_rfl) ?_
   obtain rfl:=sm e2
   exact ⟨(d3,(q1,r1),(f3,g3)),_,⟨rfl,rfl,rfl,rfl,trivial⟩,(((((((((hB.st k1).st i1).st h1).st f1).st b0).st c0).st b1).st p0).st j0).st q0,(((a1.st b1).st p0).st j0).st q0,(((z0.st b1).st p0).st j0).st q0,(((((g1.st b0).st c0).st b1).st p0).st j0).st q0,(u0.st j0).st q0,(((e1.st b1).st p0).st j0).st q0,(((d1.st b1).st p0).st j0).st q0,(((((j1.st b0).st c0).st b1).st p0).st j0).st q0,(v0.st j0).st q0,(((((m0.st b0).st c0).st b1).st p0).st j0).st q0,l1,((u4.st p0).st j0).st q0,e3.st q0⟩
  refine Bf 7 w2 rfl fun h3 k7 b5 w0 m1=>?_
  have hZ:=w0.lst [] (fun _ h=>h.elim)
  refine AV [] hZ (by kernel_rfl) ?_
  refine AP (i:=4) (by kernel_rfl) rfl ?_
  replace z0:=((z0.st b0).st c0).st w0
  replace d1:=((d1.st b0).st c0).st w0
  refine Bw (O:=b5) (R:=fun w' F v=>Vb w' F v y2) (Dc Fr.lt z0 d1 k6) rfl rfl fun l7 m7 c5 r0 i3=>?_
  obtain ⟨j3,k3,rfl⟩:=i3.form
  have hZ:=r0.lst [] (fun _ h=>h.elim)
  refine AV [] hZ (by kernel_rfl) ?_
  refine AP (i:=9) (by kernel_rfl) rfl ?_
  replace u0:=(((u0.st b0).st c0).st w0).st r0
  replace v0:=(((v0.st b0).st c0).st w0).st r0
  refine Bw (O:=c5) (R:=fun w' F v=>Vb w' F v s2) (Dc Fr.lt u0 v0 t4) rfl rfl fun n7 o7 d5 k0 l3=>?_
  obtain ⟨m3,n3,rfl⟩:=l3.form
  have hZ:=k0.lst [] (fun _ h=>h.elim)
  refine AV [] hZ (by kernel_rfl) ?_
  refine AR (fuel:=1) [] [(10,true)] (by kernel_rfl) rfl ?_
  refine Dj rfl rfl rfl rfl ?_
  refine AB ?_
  refine AP (i:=12) (by kernel_rfl) rfl ?_
  replace m1:=(m1.st r0).st k0
  refine AT m1 rfl rfl rfl (Bg rfl) (allOne rfl) fun e5 s0 m1=>?_
  replace m1:Lc 7 e5 d5 h3 53 [(.slice j3 y2.length k3),(.slice none 0 0),(.slice m3 s2.length n3)]:=m1
  refine Ch (by kernel_rfl) ?_
  refine Bo (by kernel_rfl) ?_
  obtain rfl:=sm e2
  exact ⟨(h3,(j3,k3),(m3,n3)),_,⟨rfl,rfl,rfl,rfl,trivial⟩,(((((((((hB.st k1).st i1).st h1).st f1).st b0).st c0).st w0).st r0).st k0).st s0,(((a1.st w0).st r0).st k0).st s0,((z0.st r0).st k0).st s0,(((((g1.st b0).st c0).st w0).st r0).st k0).st s0,(u0.st k0).st s0,(((e1.st w0).st r0).st k0).st s0,((d1.st r0).st k0).st s0,(((((j1.st b0).st c0).st w0).st r0).st k0).st s0,(v0.st k0).st s0,(((((m0.st b0).st c0).st w0).st r0).st k0).st s0,m1,(i3.st k0).st s0,l3.st s0⟩
 replace hB:=(((((hB.st k1).st i1).st h1).st f1).st b0).st c0
 replace z0:=(z0.st b0).st c0
 replace g1:=(g1.st b0).st c0
 replace u0:=(u0.st b0).st c0
 replace d1:=(d1.st b0).st c0
 replace j1:=(j1.st b0).st c0
 replace v0:=(v0.st b0).st c0
 replace a1:=(a1.st b0).st c0
 replace e1:=(e1.st b0).st c0
 replace m0:=(m0.st b0).st c0
 rintro p7 q7 ⟨a0,f5,o3,hB,a1,z0,g1,u0,e1,d1,j1,v0,m0,n1,s1,t1⟩
 refine AQ _ o3 ?_
 refine Al (Al (Aj (AJ rfl rfl (AG (hc:=Blk.cell (i:=1) (a1.1) rfl) rfl rfl ?_))))
 refine AY rfl rfl ?_
 have f2:x1.vals.length≤9223372036854775807:=Nat.le_trans g1.len.2.1 g1.len.2.2
 have r7:inI64 (x1.vals.length:Int):=rngNat f2
 refine Ar rfl rfl (o_z ?_)
 obtain ⟨g2,p3,hm⟩:=bs hm
 refine AL (aft g2 (fun (c1:(List (List Int))) (t0:(Option Addr×Nat))=>[(6,(.pointer (some ⟨a2,0,none⟩))),(9,(.pointer (some ⟨a0.1,0,none⟩)))]) (fun c1 t0 w'=>∃ O':Lab,Bs w A w' O'∧Lc 5 w' O' a2 53 [(.slice none 0 0),(.slice none 0 0),(.slice none 0 0)]∧Lc 7 w' O' a0.1 53 [(.slice a0.2.1.1 h0.1.length a0.2.1.2),(.slice t0.1 c1.length t0.2),(.slice a0.2.2.1 h0.2.length a0.2.2.2)]∧Vb w' (Fr 0 w' O') (.slice a0.2.1.1 h0.1.length a0.2.1.2) h0.1∧Rw 9 w' O' 22 (.slice t0.1 c1.length t0.2) c1∧Vb w' (Fr 0 w' O') (.slice a0.2.2.1 h0.2.length a0.2.2.2) h0.2)) ?_ ?_
 ·
  refine Bb (BL (σ:=(List (List Int))) (X:=(Option Addr×Nat)) (x1.vals.length) p3 rfl f2 (fun (c1:(List (List Int))) (t0:(Option Addr×Nat))=>[(4,(.pointer (some ⟨u2,0,none⟩))),(5,(.pointer (some ⟨v2,0,none⟩))),(6,(.pointer (some ⟨a2,0,none⟩))),(9,(.pointer (some ⟨a0.1,0,none⟩))),(33,(.slice c2 x1.vals.length d2))]) _ (fun c1 t0 w'=>∃ O':Lab,Bs w A w' O'∧Lc 3 w' O' u2 53 [(.slice i2 x1.vars.length j2),(.slice c2 x1.vals.length d2),(.slice k2 x1.ops.length l2)]∧Vb w' (Fr 0 w' O') (.slice i2 x1.vars.length j2) x1.vars∧Vb w' (Fr 0 w' O') (.slice c2 x1.vals.length d2) x1.vals∧Vb w' (Fr 0 w' O') (.slice k2 x1.ops.length l2) x1.ops∧Lc 4 w' O' v2 53 [(.slice m2 x2.vars.length n2),(.slice o2 x2.vals.length p2),(.slice q2 x2.ops.length r2)]∧Vb w' (Fr 0 w' O') (.slice m2 x2.vars.length n2) x2.vars∧Vb w' (Fr 0 w' O') (.slice o2 x2.vals.length p2) x2.vals∧Vb w' (Fr 0 w' O') (.slice q2 x2.ops.length r2) x2.ops∧Lc 5 w' O' a2 53 [(.slice none 0 0),(.slice none 0 0),(.slice none 0 0)]∧Lc 7 w' O' a0.1 53 [(.slice a0.2.1.1 h0.1.length a0.2.1.2),(.slice t0.1 c1.length t0.2),(.slice a0.2.2.1 h0.2.length a0.2.2.2)]∧Vb w' (Fr 0 w' O') (.slice a0.2.1.1 h0.1.length a0.2.1.2) h0.1∧Rw 9 w' O' 22 (.slice t0.1 c1.length t0.2) c1∧Vb w' (Fr 0 w' O') (.slice a0.2.2.1 h0.2.length a0.2.2.2) h0.2) _ (none,0) ⟨f5,hB,a1,z0,g1,u0,e1,d1,j1,v0,m0,n1,s1,(Rw.nil 9 (by decide)),t1⟩ ⟨rfl,rfl,rfl,rfl,rfl,rfl,rfl,trivial⟩ (fun _ _=>⟨rfl,rfl⟩) (fun _ _=>⟨rfl,rfl,trivial⟩) (fun _ _ _ ⟨O',hB,a1,z0,g1,u0,e1,d1,j1,v0,m0,n1,s1,y0,t1⟩=>⟨O',hB,m0,n1,s1,y0,t1⟩) ⟨rfl,rfl,rfl⟩ ⟨rfl,rfl⟩ ?_)
  rintro g5 s7 c1 t0 t7 m6 b2 ⟨q3,hB,a1,z0,g1,u0,e1,d1,j1,v0,m0,n1,s1,y0,t1⟩ f0 m4 n4
  have rk161:inI64 (g5:Int):=rngK b2 f2
  refine Al (Aj (Ar rfl rfl ?_))
  obtain ⟨u7,w7,n6,r3,s3,t3,x7,rfl,u1⟩:=g1.elem' b2
  replace u1:=Vb.of_slice u1
  obtain ⟨y7,z7,rfl⟩:=u1.form
  refine BJ (hA:=r3) (hj:=rfl) (hlt:=s3) rfl rfl rfl ?_
  refine AG (hc:=cat0 t3) rfl rfl ?_
  refine Aw rfl rfl (Aw rfl rfl (o_z ?_))
  refine BA [(14,[9])] q3 ?_
  refine AR (fuel:=5) [] [(0,true),(1,true),(2,true),(3,true),(4,true),(5,true),(6,true),(7,true),(8,true),(9,true),(10,true),(11,true)] (by kernel_rfl) rfl ?_
  refine Be rfl rfl rfl (AW (hc:=fun w' ⟨O',hq⟩=>Blk.cell (i:=1) ((n1.st hq (by decide)).1) rfl) rfl rfl rfl ?_)
  refine AN rfl rfl rfl (Be rfl rfl rfl (AW (hc:=fun w' ⟨O',hq⟩=>Blk.cell (i:=1) ((e1.st hq (by decide)).1) rfl) rfl rfl rfl ?_))
  refine Be rfl rfl rfl (AW (hc:=fun w' ⟨O',hq⟩=>Blk.cell (i:=0) ((a1.st hq (by decide)).1) rfl) rfl rfl rfl ?_)
  refine AN rfl rfl rfl ?_
  obtain ⟨a8,h5,f0⟩:=bs f0
  obtain ⟨b8,c8,o6,u3,v3,w3,x3,rfl,d8⟩:=z0.elem h5
  refine BH (hA:=u3) (hj:=rfl) (hlt:=w3) rfl rfl rfl rfl ?_
  refine AW (hc:=fun w' ⟨O',hq⟩=>cat0 (AU (hq.agree (i:=0) (by decide)) v3 x3)) rfl rfl rfl ?_
  obtain ⟨e8,i5,f0⟩:=bs f0
  obtain ⟨j5,k5⟩:=AZ i5
  obtain ⟨f8,g8,p6,y3,z3,a4,b4,h8,rfl,v1⟩:=j1.elem k5
  replace v1:=Vb.of_slice v1
  obtain ⟨i8,j8,rfl⟩:=v1.form
  refine BH (hA:=y3) (hj:=(Int.toNat_of_nonneg j5).symm) (hlt:=a4) rfl rfl rfl rfl ?_
  refine AW (hc:=fun w' ⟨O',hq⟩=>cat0 (AU (hq.agree (i:=0) (by decide)) z3 b4)) rfl rfl rfl ?_
  refine AB ?_
  refine AP (i:=12) (by kernel_rfl) rfl ?_
  obtain ⟨c4,l5,f0⟩:=bs f0
  refine Bw (O:=q3) (R:=fun w' F v=>Vb w' F v c4) (Dc Fr.lt u1 v1 l5) rfl rfl fun k8 l8 m5 d0 d4=>?_
  obtain ⟨m8,n8,rfl⟩:=d4.form
  have hZ:=d0.lst [] (fun _ h=>h.elim)
  refine AV [(14,[9])] hZ (by kernel_rfl) ?_
  refine AP (i:=13) (by kernel_rfl) rfl ?_
  refine CB 8 (by decide) m5 (xs:=([c4]:List (List Int))) rfl rfl rfl rfl ⟨d4,trivial⟩ (by decide) (by decide) rfl fun o8 p8 q8 e0 n5=>?_
  have hZ:=e0.lst [] (fun _ h=>h.elim)
  refine AV [(14,[9])] hZ (by kernel_rfl) ?_
  refine AP (i:=14) (by kernel_rfl) rfl ?_
  obtain ⟨o5,h2,f0⟩:=bs f0
  obtain ⟨h2,p5,q5⟩:=CC h2
  replace y0:=(y0.st d0).st e0
  refine Eh rfl y0 (n5.rd) rfl rfl (by decide) p5 q5 rfl fun e4 f4 r8 r5 g0 g4=>?_
  rw [← h2] at g4 ⊢
  have hZ:=g0.lst [9] (fun _ h=>by cases h;decide)
  refine AV [] hZ (by kernel_rfl) ?_
  refine AR (fuel:=1) [] [(15,true)] (by kernel_rfl) rfl ?_
  refine Be rfl rfl rfl (AB ?_)
  refine AP (i:=16) (by kernel_rfl) rfl ?_
  replace n1:=((n1.st d0).st e0).st g0
  refine AT n1 rfl rfl rfl (Bg rfl) (allOne rfl) fun s5 l0 n1=>?_
  replace n1:Lc 7 s5 r5 a0.1 53 [(.slice a0.2.1.1 h0.1.length a0.2.1.2),(.slice e4 o5.length f4),(.slice a0.2.2.1 h0.2.length a0.2.2.2)]:=n1
  refine Ch (by kernel_rfl) ?_
  refine Bo (by kernel_rfl) ?_
  obtain rfl:=sm f0
  exact show Exists _ from ⟨_,(e4,f4),rfl,⟨rfl,rfl,rfl,rfl,rfl,rfl,rfl,trivial⟩,_,(((hB.st d0).st e0).st g0).st l0,(((a1.st d0).st e0).st g0).st l0,(((z0.st d0).st e0).st g0).st l0,(((g1.st d0).st e0).st g0).st l0,(((u0.st d0).st e0).st g0).st l0,(((e1.st d0).st e0).st g0).st l0,(((d1.st d0).st e0).st g0).st l0,(((j1.st d0).st e0).st g0).st l0,(((v0.st d0).st e0).st g0).st l0,(((m0.st d0).st e0).st g0).st l0,n1,(((s1.st d0).st e0).st g0).st l0,g4.st l0,(((t1.st d0).st e0).st g0).st l0⟩
 rintro s8 t8 ⟨w1,o1,rfl,h4,t5,hB,m0,n1,s1,y0,t1⟩
 replace hm:=Bl hm
 refine AQ _ h4 ?_
 refine Al (Aj (Bi (hl:=rfl) (hc:=(n1.1).cellsAt) rfl rfl ?_))
 refine AT m0 rfl rfl rfl (Bg rfl) (allOne rfl) fun i4 y1 m0=>?_
 replace m0:Lc 5 i4 t5 a2 53 [(.slice a0.2.1.1 h0.1.length a0.2.1.2),(.slice o1.1 w1.length o1.2),(.slice a0.2.2.1 h0.2.length a0.2.2.2)]:=m0
 refine Aw rfl rfl (o_z ?_)
 refine AH ?_
 replace y0:=y0.st y1
 obtain ⟨u5,z1,y0⟩:=y0.freeze
 obtain rfl:=sm hm
 replace hB:=(hB.st y1).st z1
 replace m0:=m0.st z1
 replace s1:=(s1.st y1).st z1
 replace t1:=(t1.st y1).st z1
 exact ret2 rfl (Ck (cs:=[(.slice a0.2.1.1 h0.1.length a0.2.1.2),(.slice o1.1 w1.length o1.2),(.slice a0.2.2.1 h0.2.length a0.2.2.2)]) rfl rfl m0.1.cellsAt) (AE rfl) ⟨hB.ext,_,_,rfl,(Vb.mono (F:=Fr 0 i4 u5) (Vb.ofAgg (cs:=[(.slice a0.2.1.1 h0.1.length a0.2.1.2),(.slice o1.1 w1.length o1.2),(.slice a0.2.2.1 h0.2.length a0.2.2.2)]) (x:=(⟨h0.1,w1,h0.2⟩:Swp)) rfl ⟨_,_,_,rfl,s1,y0,t1⟩) hB.out),(vErr (show inI64 0 from by decide))⟩
noncomputable def BN (x0:Tsk) (x1:Swp):Option (Swp×Err) :=
  bnd (Bk x0 [x1]) fun q54=>if q54.n≠0 then (some ((⟨([]:List Int),([]:List (List Int)),([]:List Int)⟩:Swp),(⟨q54.n⟩:Err))) else (bnd (Cp x1.vars) fun q65=>bnd (Cp x1.ops) fun q67=>bnd (mkI 24 (([]:List Int):List Int) (x1.vals.length:Int)) fun u69=>bnd (some (q65,u69,q67):Option ((List Int)×(List (List Int))×(List Int))) fun y71=>bnd (rng (ρ:=Swp×Err) (fun (k372:Nat) (a373:List Int) (s370:(List (List Int)))=>bnd (x1.vars[k372]?) fun a398=>bnd (Cp a373) fun q408=>bnd (atI s370 a398) fun a417=>some (.next (s370.set (a398:Int).toNat q408))) x1.vals 0 y71.2.1) fun res368=>fin res368 fun (s438:(List (List Int)))=>some ((⟨y71.1,s438,y71.2.2⟩:Swp),(⟨0⟩:Err)))
theorem FG {w:World} {A:Nat→Prop} (hA:∀ k,A k→k < w.heap.size) {vx0:Value} {x0:Tsk} (k8:Vb w A vx0 x0) {vx1:Value} {x1:Swp} (l8:Vb w A vx1 x1) {r:Swp×Err} (hm:BN x0 x1=some r) :
    Fn Tryz.prog 63 [vx0,vx1] w fun v w'=>Ext w w'∧T2 w' (upA A w w') v r:=by
 obtain ⟨O,hB,tB⟩:=enter hA
 replace k8:=k8.mono tB
 obtain ⟨bG,rfl,v4,v5,v6,v7,rfl,h8,c8,d8,e8⟩:=k8
 obtain ⟨A9,uB,rfl⟩:=h8.form
 obtain ⟨vB,wB,rfl⟩:=c8.form
 obtain ⟨xB,yB,rfl⟩:=d8.form
 obtain ⟨zB,aC,rfl⟩:=e8.form
 replace l8:=l8.mono tB
 obtain ⟨oC,rfl,cG,dG,eG,rfl,f0,q0,b0⟩:=l8
 obtain ⟨j4,k4,rfl⟩:=f0.form
 obtain ⟨a4,b4,rfl⟩:=q0.form
 obtain ⟨l4,m4,rfl⟩:=b0.form
 refine AK Tryz.func63 rfl Tryz.ntmps63 rfl ?_
 unfold BN at hm
 refine Al (Aj (Cb 2 O rfl rfl fun pC qC bC b1 o4=>?_))
 replace o4:Lc 2 qC bC pC 26 [(.slice A9 x0.vars.length uB),(.slice vB x0.init.length wB),(.slice xB x0.goal.length yB),(.slice zB x0.ops.length aC)]:=o4
 refine Cb 3 bC rfl rfl fun p4 rC cC a1 l0=>?_
 replace l0:Lc 3 rC cC p4 53 [(.slice j4 x1.vars.length k4),(.slice a4 x1.vals.length b4),(.slice l4 x1.ops.length m4)]:=l0
 refine Bf 4 cC rfl fun w3 fG sC u0 k0=>?_
 refine Aw rfl rfl (o_z ?_)
 refine Al (Al (Aj ?_))
 replace o4:=(o4.st a1).st u0
 refine Bi (hl:=rfl) (hc:=(o4.1).cellsAt) rfl rfl ?_
 replace l0:=l0.st u0
 refine Bi (hl:=rfl) (hc:=(l0.1).cellsAt) rfl rfl ?_
 replace f0:=((f0.st b1).st a1).st u0
 replace q0:=((q0.st b1).st a1).st u0
 replace b0:=((b0.st b1).st a1).st u0
 refine CB 5 (by decide) sC (xs:=([x1]:List Swp)) rfl rfl rfl rfl ⟨(Vb.ofAgg (cs:=[(.slice j4 x1.vars.length k4),(.slice a4 x1.vals.length b4),(.slice l4 x1.ops.length m4)]) (x:=x1) rfl ⟨_,_,_,rfl,f0,q0,b0⟩),trivial⟩ (by decide) (by decide) rfl fun gG dC eC c0 tC=>?_
 obtain ⟨uC,vC,hm⟩:=bs hm
 replace h8:=(((h8.st b1).st a1).st u0).st c0
 replace c8:=(((c8.st b1).st a1).st u0).st c0
 replace d8:=(((d8.st b1).st a1).st u0).st c0
 replace e8:=(((e8.st b1).st a1).st u0).st c0
 refine Bn (O:=eC) (A:=All dC) (R:=fun w' F v=>Vb w' F v uC) (DS (fun _ h=>h) (Vb.mono (F:=Fr 0 dC eC) (Vb.ofAgg (cs:=[(.slice A9 x0.vars.length uB),(.slice vB x0.init.length wB),(.slice xB x0.goal.length yB),(.slice zB x0.ops.length aC)]) (x:=x0) rfl ⟨_,_,_,_,rfl,h8,c8,d8,e8⟩) Fr.lt) (tC).all vC) rfl rfl fun hG iG n4 d0 wC=>?_
 obtain ⟨rfl,xC⟩:=wC.err
 refine Aw rfl rfl (o_z ?_)
 refine Al (Aj (Ar rfl rfl (DJ rfl rfl (fun m8=>?_) fun m8=>?_)))
 ·
  replace hm:=ip hm m8
  refine o_z ?_
  refine Ah rfl (Al (Aj (Dd rfl rfl rfl ?_)))
  refine Ar rfl rfl ?_
  replace k0:=(k0.st c0).st d0
  refine AT k0 rfl rfl rfl (Bg rfl) (allOne rfl) fun fC yC k0=>?_
  replace k0:Lc 4 fC n4 w3 53 [(.slice none 0 0),(.slice none 0 0),(.slice none 0 0)]:=k0
  refine Aw rfl rfl (o_z ?_)
  refine AH ?_
  obtain rfl:=sm hm
  replace hB:=(((((hB.st b1).st a1).st u0).st c0).st d0).st yC
  exact ret2 rfl (Ck (cs:=[(.slice none 0 0),(.slice none 0 0),(.slice none 0 0)]) rfl rfl k0.1.cellsAt) (AE rfl) ⟨hB.ext,_,_,rfl,(Vb.mono (F:=Fr 0 fC n4) (Vb.ofAgg (cs:=[(.slice none 0 0),(.slice none 0 0),(.slice none 0 0)]) (x:=(⟨([]:List Int),([]:List (List Int)),([]:List Int)⟩:Swp)) rfl ⟨_,_,_,rfl,(Vb.nil _ _),(Vb.nil _ _),(Vb.nil _ _)⟩) hB.out),(vErr xC)⟩
 replace hm:=im hm m8
 refine o_z ?_
 refine Ae rfl (AO (Al ?_))
 obtain ⟨o2,q4,hm⟩:=bs hm
 obtain ⟨v0,d3,hm⟩:=bs hm
 obtain ⟨a3,h3,hm⟩:=bs hm
 obtain ⟨i0,t0,hm⟩:=bs hm
 refine AL (fun l' w'=>∃ (a0:Nat×(Option Addr×Nat)×(Option Addr×Nat)×(Option Addr×Nat)) (O':Lab),subs l' [(3,(.pointer (some ⟨p4,0,none⟩))),(4,(.pointer (some ⟨w3,0,none⟩))),(7,(.pointer (some ⟨a0.1,0,none⟩)))]∧Bs w A w' O'∧Lc 3 w' O' p4 53 [(.slice j4 x1.vars.length k4),(.slice a4 x1.vals.length b4),(.slice l4 x1.ops.length m4)]∧Vb w' (Fr 0 w' O') (.slice j4 x1.vars.length k4) x1.vars∧Vb w' (Fr 0 w' O') (.slice a4 x1.vals.length b4) x1.vals∧Vb w' (Fr 0 w' O') (.slice l4 x1.ops.length m4) x1.ops∧Lc 4 w' O' w3 53 [(.slice none 0 0),(.slice none 0 0),(.slice none 0 0)]∧Lc 7 w' O' a0.1 53 [(.slice a0.2.1.1 i0.1.length a0.2.1.2),(.slice a0.2.2.1.1 i0.2.1.length a0.2.2.1.2),(.slice a0.2.2.2.1 i0.2.2.length a0.2.2.2.2)]∧Vb w' (Fr 0 w' O') (.slice a0.2.1.1 i0.1.length a0.2.1.2) i0.1∧Rw 6 w' O' 22 (.slice a0.2.2.1.1 i0.2.1.length a0.2.2.1.2) i0.2.1∧Vb w' (Fr 0 w' O') (.slice a0.2.2.2.1 i0.2.2.length a0.2.2.2.2) i0.2.2) ?_ ?_
 ·
  refine BA [] n4 ?_
  refine AR (fuel:=6) [] [(0,true),(1,true),(3,true),(4,true),(6,true),(7,true),(8,true)] (by kernel_rfl) rfl ?_
  refine Be rfl rfl rfl ?_
  replace l0:=(l0.st c0).st d0
  refine AW (hc:=fun w' ⟨O',hq⟩=>Blk.cell (i:=0) ((l0.st hq (by decide)).1) rfl) rfl rfl rfl ?_
  refine Be rfl rfl rfl (AW (hc:=fun w' ⟨O',hq⟩=>Blk.cell (i:=2) ((l0.st hq (by decide)).1) rfl) rfl rfl rfl ?_)
  refine Be rfl rfl rfl (AW (hc:=fun w' ⟨O',hq⟩=>Blk.cell (i:=1) ((l0.st hq (by decide)).1) rfl) rfl rfl rfl ?_)
  refine IM rfl rfl rfl ?_
  replace q0:=(q0.st c0).st d0
  have zC:x1.vals.length≤9223372036854775807:=Nat.le_trans q0.len.2.1 q0.len.2.2
  have jG:inI64 (x1.vals.length:Int):=rngNat zC
  refine AB ?_
  refine Me (i:=2) (j:=9) (k:=11) (by kernel_rfl) rfl rfl rfl ?_ ?_ ?_
  ·
   replace f0:=(f0.st c0).st d0
   refine Bw (O:=n4) (R:=fun w' F v=>Vb w' F v o2) (BD Fr.lt f0 q4) rfl rfl fun kG lG n8 j0 c4=>?_
   obtain ⟨b3,c3,rfl⟩:=c4.form
   have hZ:=j0.lst [] (fun _ h=>h.elim)
   refine AV [] hZ (by kernel_rfl) ?_
   refine Me (i:=5) (j:=9) (k:=11) (by kernel_rfl) rfl rfl rfl ?_ ?_ ?_
   ·
    replace b0:=((b0.st c0).st d0).st j0
    refine Bw (O:=n8) (R:=fun w' F v=>Vb w' F v v0) (BD Fr.lt b0 d3) rfl rfl fun mG nG gC r2 o8=>?_
    obtain ⟨f8,g8,rfl⟩:=o8.form
    have hZ:=r2.lst [] (fun _ h=>h.elim)
    refine AV [] hZ (by kernel_rfl) ?_
    refine EM (i:=9) (j:=11) (by kernel_rfl) rfl rfl ?_ ?_
    ·
     obtain ⟨hC,aD,bD,cD,p8⟩:=CM h3
     refine Dv 6 (by decide) gC (z0:=(([]:List Int):List Int)) rfl rfl rfl rfl rfl aD (Vb.nil _ _) bD cD rfl fun r4 dD q8 o1 s4=>?_
     rw [← p8] at s4 ⊢
     have hZ:=o1.lst [] (fun _ h=>h.elim)
     refine AV [] hZ (by kernel_rfl) ?_
     refine AR (fuel:=2) [] [(10,true)] (by kernel_rfl) rfl ?_
     refine Dj rfl rfl rfl rfl ?_
     refine AB ?_
     refine AP (i:=11) (by kernel_rfl) rfl ?_
     refine Bf 7 q8 rfl fun t4 eD r8 c1 e3=>?_
     have hZ:=c1.lst [] (fun _ h=>h.elim)
     refine AV [] hZ (by kernel_rfl) ?_
     refine AP (i:=12) (by kernel_rfl) rfl ?_
     refine AT e3 rfl rfl rfl (Bg rfl) (allOne rfl) fun s8 p1 e3=>?_
     replace e3:Lc 7 s8 r8 t4 53 [(.slice b3 o2.length c3),(.slice (some ⟨r4,0,none⟩) a3.length hC),(.slice f8 v0.length g8)]:=e3
     refine Ch (by kernel_rfl) ?_
     refine Bo (by kernel_rfl) ?_
     obtain rfl:=sm t0
     exact ⟨(t4,(b3,c3),((some ⟨r4,0,none⟩),hC),(f8,g8)),_,⟨rfl,rfl,rfl,trivial⟩,(((((((((hB.st b1).st a1).st u0).st c0).st d0).st j0).st r2).st o1).st c1).st p1,((((l0.st j0).st r2).st o1).st c1).st p1,((((f0.st j0).st r2).st o1).st c1).st p1,((((q0.st j0).st r2).st o1).st c1).st p1,(((b0.st r2).st o1).st c1).st p1,((((((k0.st c0).st d0).st j0).st r2).st o1).st c1).st p1,e3,(((c4.st r2).st o1).st c1).st p1,(s4.st c1).st p1,((o8.st o1).st c1).st p1⟩
    refine Bf 7 gC rfl fun u4 fD t8 q1 s2=>?_
    have hZ:=q1.lst [] (fun _ h=>h.elim)
    refine AV [] hZ (by kernel_rfl) ?_
    refine AP (i:=9) (by kernel_rfl) rfl ?_
    obtain ⟨w4,u8,v8,w8,x8⟩:=CM h3
    refine Dv 6 (by decide) t8 (z0:=(([]:List Int):List Int)) rfl rfl rfl rfl rfl u8 (Vb.nil _ _) v8 w8 rfl fun x4 gD y8 d1 y4=>?_
    rw [← x8] at y4 ⊢
    have hZ:=d1.lst [] (fun _ h=>h.elim)
    refine AV [] hZ (by kernel_rfl) ?_
    refine AR (fuel:=1) [] [(10,true)] (by kernel_rfl) rfl ?_
    refine Dj rfl rfl rfl rfl ?_
    refine AB ?_
    refine AP (i:=12) (by kernel_rfl) rfl ?_
    replace s2:=s2.st d1
    refine AT s2 rfl rfl rfl (Bg rfl) (allOne rfl) fun z8 r1 s2=>?_
    replace s2:Lc 7 z8 y8 u4 53 [(.slice b3 o2.length c3),(.slice (some ⟨x4,0,none⟩) a3.length w4),(.slice f8 v0.length g8)]:=s2
    refine Ch (by kernel_rfl) ?_
    refine Bo (by kernel_rfl) ?_
    obtain rfl:=sm t0
    exact ⟨(u4,(b3,c3),((some ⟨x4,0,none⟩),w4),(f8,g8)),_,⟨rfl,rfl,rfl,trivial⟩,(((((((((hB.st b1).st a1).st u0).st c0).st d0).st j0).st r2).st q1).st d1).st r1,((((l0.st j0).st r2).st q1).st d1).st r1,((((f0.st j0).st r2).st q1).st d1).st r1,((((q0.st j0).st r2).st q1).st d1).st r1,(((b0.st r2).st q1).st d1).st r1,((((((k0.st c0).st d0).st j0).st r2).st q1).st d1).st r1,s2,(((c4.st r2).st q1).st d1).st r1,y4.st r1,((o8.st q1).st d1).st r1⟩
   ·
    obtain ⟨i3,a9,b9,c9,d9⟩:=CM h3
    refine Dv 6 (by decide) n8 (z0:=(([]:List Int):List Int)) rfl rfl rfl rfl rfl a9 (Vb.nil _ _) b9 c9 rfl fun j3 hD z4 m0 d4=>?_
    rw [← d9] at d4 ⊢
    have hZ:=m0.lst [] (fun _ h=>h.elim)
    refine AV [] hZ (by kernel_rfl) ?_
    refine EM (i:=5) (j:=11) (by kernel_rfl) rfl rfl ?_ ?_
    ·
     replace b0:=(((b0.st c0).st d0).st j0).st m0
     refine Bw (O:=z4) (R:=fun w' F v=>Vb w' F v v0) (BD Fr.lt b0 d3) rfl rfl fun iD jD e9 s1 a5=>?_
     obtain ⟨b5,c5,rfl⟩:=a5.form
     have hZ:=s1.lst [] (fun _ h=>h.elim)
     refine AV [] hZ (by kernel_rfl) ?_
     refine AR (fuel:=2) [] [(10,true)] (by kernel_rfl) rfl ?_
     refine Dj rfl rfl rfl rfl ?_
     refine AB ?_
     refine AP (i:=11) (by kernel_rfl) rfl ?_
     refine Bf 7 e9 rfl fun d5 kD f9 e1 f3=>?_
     have hZ:=e1.lst [] (fun _ h=>h.elim)
     refine AV [] hZ (by kernel_rfl) ?_
     refine AP (i:=12) (by kernel_rfl) rfl ?_
     refine AT f3 rfl rfl rfl (Bg rfl) (allOne rfl) fun g9 t1 f3=>?_
     replace f3:Lc 7 g9 f9 d5 53 [(.slice b3 o2.length c3),(.slice (some ⟨j3,0,none⟩) a3.length i3),(.slice b5 v0.length c5)]:=f3
     refine Ch (by kernel_rfl) ?_
     refine Bo (by kernel_rfl) ?_
     obtain rfl:=sm t0
     exact ⟨(d5,(b3,c3),((some ⟨j3,0,none⟩),i3),(b5,c5)),_,⟨rfl,rfl,rfl,trivial⟩,(((((((((hB.st b1).st a1).st u0).st c0).st d0).st j0).st m0).st s1).st e1).st t1,((((l0.st j0).st m0).st s1).st e1).st t1,((((f0.st j0).st m0).st s1).st e1).st t1,((((q0.st j0).st m0).st s1).st e1).st t1,((b0.st s1).st e1).st t1,((((((k0.st c0).st d0).st j0).st m0).st s1).st e1).st t1,f3,(((c4.st m0).st s1).st e1).st t1,((d4.st s1).st e1).st t1,(a5.st e1).st t1⟩
    refine Bf 7 z4 rfl fun e5 lD h9 u1 t2=>?_
    have hZ:=u1.lst [] (fun _ h=>h.elim)
    refine AV [] hZ (by kernel_rfl) ?_
    refine AP (i:=5) (by kernel_rfl) rfl ?_
    replace b0:=((((b0.st c0).st d0).st j0).st m0).st u1
    refine Bw (O:=h9) (R:=fun w' F v=>Vb w' F v v0) (BD Fr.lt b0 d3) rfl rfl fun mD nD i9 f1 f5=>?_
    obtain ⟨g5,h5,rfl⟩:=f5.form
    have hZ:=f1.lst [] (fun _ h=>h.elim)
    refine AV [] hZ (by kernel_rfl) ?_
    refine AR (fuel:=1) [] [(10,true)] (by kernel_rfl) rfl ?_
    refine Dj rfl rfl rfl rfl ?_
    refine AB ?_
    refine AP (i:=12) (by kernel_rfl) rfl ?_
    replace t2:=t2.st f1
    refine AT t2 rfl rfl rfl (Bg rfl) (allOne rfl) fun j9 v1 t2=>?_
    replace t2:Lc 7 j9 i9 e5 53 [(.slice b3 o2.length c3),(.slice (some ⟨j3,0,none⟩) a3.length i3),(.slice g5 v0.length h5)]:=t2
    refine Ch (by kernel_rfl) ?_
    refine Bo (by kernel_rfl) ?_
    obtain rfl:=sm t0
    exact ⟨(e5,(b3,c3),((some ⟨j3,0,none⟩),i3),(g5,h5)),_,⟨rfl,rfl,rfl,trivial⟩,(((((((((hB.st b1).st a1).st u0).st c0).st d0).st j0).st m0).st u1).st f1).st v1,((((l0.st j0).st m0).st u1).st f1).st v1,((((f0.st j0).st m0).st u1).st f1).st v1,((((q0.st j0).st m0).st u1).st f1).st v1,(b0.st f1).st v1,((((((k0.st c0).st d0).st j0).st m0).st u1).st f1).st v1,t2,(((c4.st m0).st u1).st f1).st v1,((d4.st u1).st f1).st v1,f5.st v1⟩
   refine Bf 7 n8 rfl fun k3 oD i5 n0 r0=>?_
   have hZ:=n0.lst [] (fun _ h=>h.elim)
   refine AV [] hZ (by kernel_rfl) ?_
   refine EM (i:=5) (j:=9) (by kernel_rfl) rfl rfl ?_ ?_
   ·
    replace b0:=(((b0.st c0).st d0).st j0).st n0
    refine Bw (O:=i5) (R:=fun w' F v=>Vb w' F v v0) (BD Fr.lt b0 d3) rfl rfl fun pD qD k9 w1 j5=>?_
    obtain ⟨k5,l5,rfl⟩:=j5.form
    have hZ:=w1.lst [] (fun _ h=>h.elim)
    refine AV [] hZ (by kernel_rfl) ?_
    refine AP (i:=9) (by kernel_rfl) rfl ?_
    obtain ⟨m5,l9,m9,n9,o9⟩:=CM h3
    refine Dv 6 (by decide) k9 (z0:=(([]:List Int):List Int)) rfl rfl rfl rfl rfl l9 (Vb.nil _ _) m9 n9 rfl fun n5 rD p9 g1 o5=>?_
    rw [← o9] at o5 ⊢
    have hZ:=g1.lst [] (fun _ h=>h.elim)
    refine AV [] hZ (by kernel_rfl) ?_
    refine AR (fuel:=1) [] [(10,true)] (by kernel_rfl) rfl ?_
    refine Dj rfl rfl rfl rfl ?_
    refine AB ?_
    refine AP (i:=12) (by kernel_rfl) rfl ?_
    replace r0:=(r0.st w1).st g1
    refine AT r0 rfl rfl rfl (Bg rfl) (allOne rfl) fun q9 y1 r0=>?_
    replace r0:Lc 7 q9 p9 k3 53 [(.slice b3 o2.length c3),(.slice (some ⟨n5,0,none⟩) a3.length m5),(.slice k5 v0.length l5)]:=r0
    refine Ch (by kernel_rfl) ?_
    refine Bo (by kernel_rfl) ?_
    obtain rfl:=sm t0
    exact ⟨(k3,(b3,c3),((some ⟨n5,0,none⟩),m5),(k5,l5)),_,⟨rfl,rfl,rfl,trivial⟩,(((((((((hB.st b1).st a1).st u0).st c0).st d0).st j0).st n0).st w1).st g1).st y1,((((l0.st j0).st n0).st w1).st g1).st y1,((((f0.st j0).st n0).st w1).st g1).st y1,((((q0.st j0).st n0).st w1).st g1).st y1,((b0.st w1).st g1).st y1,((((((k0.st c0).st d0).st j0).st n0).st w1).st g1).st y1,r0,(((c4.st n0).st w1).st g1).st y1,o5.st y1,(j5.st g1).st y1⟩
   obtain ⟨p5,r9,s9,t9,u9⟩:=CM h3
   refine Dv 6 (by decide) i5 (z0:=(([]:List Int):List Int)) rfl rfl rfl rfl rfl r9 (Vb.nil _ _) s9 t9 rfl fun q5 sD v9 z1 r5=>?_
   rw [← u9] at r5 ⊢
   have hZ:=z1.lst [] (fun _ h=>h.elim)
   refine AV [] hZ (by kernel_rfl) ?_
   refine AP (i:=5) (by kernel_rfl) rfl ?_
   replace b0:=((((b0.st c0).st d0).st j0).st n0).st z1
   refine Bw (O:=v9) (R:=fun w' F v=>Vb w' F v v0) (BD Fr.lt b0 d3) rfl rfl fun tD uD w9 h1 s5=>?_
   obtain ⟨t5,u5,rfl⟩:=s5.form
   have hZ:=h1.lst [] (fun _ h=>h.elim)
   refine AV [] hZ (by kernel_rfl) ?_
   refine AR (fuel:=1) [] [(10,true)] (by kernel_rfl) rfl ?_
   refine Dj rfl rfl rfl rfl ?_
   refine AB ?_
   refine AP (i:=12) (by kernel_rfl) rfl ?_
   replace r0:=(r0.st z1).st h1
   refine AT r0 rfl rfl rfl (Bg rfl) (allOne rfl) fun x9 a2 r0=>?_
   replace r0:Lc 7 x9 w9 k3 53 [(.slice b3 o2.length c3),(.slice (some ⟨q5,0,none⟩) a3.length p5),(.slice t5 v0.length u5)]:=r0
   refine Ch (by kernel_rfl) ?_
   refine Bo (by kernel_rfl) ?_
   obtain rfl:=sm t0
   exact ⟨(k3,(b3,c3),((some ⟨q5,0,none⟩),p5),(t5,u5)),_,⟨rfl,rfl,rfl,trivial⟩,(((((((((hB.st b1).st a1).st u0).st c0).st d0).st j0).st n0).st z1).st h1).st a2,((((l0.st j0).st n0).st z1).st h1).st a2,((((f0.st j0).st n0).st z1).st h1).st a2,((((q0.st j0).st n0).st z1).st h1).st a2,(b0.st h1).st a2,((((((k0.st c0).st d0).st j0).st n0).st z1).st h1).st a2,r0,(((c4.st n0).st z1).st h1).st a2,(r5.st h1).st a2,s5.st a2⟩
  ·
   obtain ⟨w2,y9,z9,aA,bA⟩:=CM h3
   refine Dv 6 (by decide) n4 (z0:=(([]:List Int):List Int)) rfl rfl rfl rfl rfl y9 (Vb.nil _ _) z9 aA rfl fun x2 vD w5 g0 l3=>?_
   rw [← bA] at l3 ⊢
   have hZ:=g0.lst [] (fun _ h=>h.elim)
   refine AV [] hZ (by kernel_rfl) ?_
   refine EM (i:=2) (j:=11) (by kernel_rfl) rfl rfl ?_ ?_
   ·
    replace f0:=((f0.st c0).st d0).st g0
    refine Bw (O:=w5) (R:=fun w' F v=>Vb w' F v o2) (BD Fr.lt f0 q4) rfl rfl fun wD xD x5 o0 e4=>?_
    obtain ⟨m3,n3,rfl⟩:=e4.form
    have hZ:=o0.lst [] (fun _ h=>h.elim)
    refine AV [] hZ (by kernel_rfl) ?_
    refine EM (i:=5) (j:=11) (by kernel_rfl) rfl rfl ?_ ?_
    ·
     replace b0:=(((b0.st c0).st d0).st g0).st o0
     refine Bw (O:=x5) (R:=fun w' F v=>Vb w' F v v0) (BD Fr.lt b0 d3) rfl rfl fun yD zD cA b2 y5=>?_
     obtain ⟨z5,a6,rfl⟩:=y5.form
     have hZ:=b2.lst [] (fun _ h=>h.elim)
     refine AV [] hZ (by kernel_rfl) ?_
     refine AR (fuel:=2) [] [(10,true)] (by kernel_rfl) rfl ?_
     refine Dj rfl rfl rfl rfl ?_
     refine AB ?_
     refine AP (i:=11) (by kernel_rfl) rfl ?_
     refine Bf 7 cA rfl fun b6 aE dA i1 g3=>?_
     have hZ:=i1.lst [] (fun _ h=>h.elim)
     refine AV [] hZ (by kernel_rfl) ?_
     refine AP (i:=12) (by kernel_rfl) rfl ?_
     refine AT g3 rfl rfl rfl (Bg rfl) (allOne rfl) fun eA c2 g3=>?_
     replace g3:Lc 7 eA dA b6 53 [(.slice m3 o2.length n3),(.slice (some ⟨x2,0,none⟩) a3.length w2),(.slice z5 v0.length a6)]:=g3
     refine Ch (by kernel_rfl) ?_
     refine Bo (by kernel_rfl) ?_
     obtain rfl:=sm t0
     exact ⟨(b6,(m3,n3),((some ⟨x2,0,none⟩),w2),(z5,a6)),_,⟨rfl,rfl,rfl,trivial⟩,(((((((((hB.st b1).st a1).st u0).st c0).st d0).st g0).st o0).st b2).st i1).st c2,((((l0.st g0).st o0).st b2).st i1).st c2,(((f0.st o0).st b2).st i1).st c2,((((q0.st g0).st o0).st b2).st i1).st c2,((b0.st b2).st i1).st c2,((((((k0.st c0).st d0).st g0).st o0).st b2).st i1).st c2,g3,((e4.st b2).st i1).st c2,(((l3.st o0).st b2).st i1).st c2,(y5.st i1).st c2⟩
    refine Bf 7 x5 rfl fun c6 bE fA d2 u2=>?_
    have hZ:=d2.lst [] (fun _ h=>h.elim)
    refine AV [] hZ (by kernel_rfl) ?_
    refine AP (i:=5) (by kernel_rfl) rfl ?_
    replace b0:=((((b0.st c0).st d0).st g0).st o0).st d2
    refine Bw (O:=fA) (R:=fun w' F v=>Vb w' F v v0) (BD Fr.lt b0 d3) rfl rfl fun cE dE gA j1 d6=>?_
    obtain ⟨e6,f6,rfl⟩:=d6.form
    have hZ:=j1.lst [] (fun _ h=>h.elim)
    refine AV [] hZ (by kernel_rfl) ?_
    refine AR (fuel:=1) [] [(10,true)] (by kernel_rfl) rfl ?_
    refine Dj rfl rfl rfl rfl ?_
    refine AB ?_
    refine AP (i:=12) (by kernel_rfl) rfl ?_
    replace u2:=u2.st j1
    refine AT u2 rfl rfl rfl (Bg rfl) (allOne rfl) fun iA e2 u2=>?_
    replace u2:Lc 7 iA gA c6 53 [(.slice m3 o2.length n3),(.slice (some ⟨x2,0,none⟩) a3.length w2),(.slice e6 v0.length f6)]:=u2
    refine Ch (by kernel_rfl) ?_
    refine Bo (by kernel_rfl) ?_
    obtain rfl:=sm t0
    exact ⟨(c6,(m3,n3),((some ⟨x2,0,none⟩),w2),(e6,f6)),_,⟨rfl,rfl,rfl,trivial⟩,(((((((((hB.st b1).st a1).st u0).st c0).st d0).st g0).st o0).st d2).st j1).st e2,((((l0.st g0).st o0).st d2).st j1).st e2,(((f0.st o0).st d2).st j1).st e2,((((q0.st g0).st o0).st d2).st j1).st e2,(b0.st j1).st e2,((((((k0.st c0).st d0).st g0).st o0).st d2).st j1).st e2,u2,((e4.st d2).st j1).st e2,(((l3.st o0).st d2).st j1).st e2,d6.st e2⟩
   refine Bf 7 w5 rfl fun g6 eE jA p2 v2=>?_
   have hZ:=p2.lst [] (fun _ h=>h.elim)
   refine AV [] hZ (by kernel_rfl) ?_
   refine AP (i:=2) (by kernel_rfl) rfl ?_
   replace f0:=(((f0.st c0).st d0).st g0).st p2
   refine Bw (O:=jA) (R:=fun w' F v=>Vb w' F v o2) (BD Fr.lt f0 q4) rfl rfl fun fE gE kA f2 h6=>?_
   obtain ⟨i6,j6,rfl⟩:=h6.form
   have hZ:=f2.lst [] (fun _ h=>h.elim)
   refine AV [] hZ (by kernel_rfl) ?_
   refine AP (i:=5) (by kernel_rfl) rfl ?_
   replace b0:=((((b0.st c0).st d0).st g0).st p2).st f2
   refine Bw (O:=kA) (R:=fun w' F v=>Vb w' F v v0) (BD Fr.lt b0 d3) rfl rfl fun hE iE lA k1 k6=>?_
   obtain ⟨l6,m6,rfl⟩:=k6.form
   have hZ:=k1.lst [] (fun _ h=>h.elim)
   refine AV [] hZ (by kernel_rfl) ?_
   refine AR (fuel:=1) [] [(10,true)] (by kernel_rfl) rfl ?_
   refine Dj rfl rfl rfl rfl ?_
   refine AB ?_
   refine AP (i:=12) (by kernel_rfl) rfl ?_
   replace v2:=(v2.st f2).st k1
   refine AT v2 rfl rfl rfl (Bg rfl) (allOne rfl) fun mA g2 v2=>?_
   replace v2:Lc 7 mA lA g6 53 [(.slice i6 o2.length j6),(.slice (some ⟨x2,0,none⟩) a3.length w2),(.slice l6 v0.length m6)]:=v2
   refine Ch (by kernel_rfl) ?_
   refine Bo (by kernel_rfl) ?_
   obtain rfl:=sm t0
   exact ⟨(g6,(i6,j6),((some ⟨x2,0,none⟩),w2),(l6,m6)),_,⟨rfl,rfl,rfl,trivial⟩,(((((((((hB.st b1).st a1).st u0).st c0).st d0).st g0).st p2).st f2).st k1).st g2,((((l0.st g0).st p2).st f2).st k1).st g2,((f0.st f2).st k1).st g2,((((q0.st g0).st p2).st f2).st k1).st g2,(b0.st k1).st g2,((((((k0.st c0).st d0).st g0).st p2).st f2).st k1).st g2,v2,(h6.st k1).st g2,(((l3.st p2).st f2).st k1).st g2,k6.st g2⟩
  refine Bf 7 n4 rfl fun y2 jE n6 h0 e0=>?_
  have hZ:=h0.lst [] (fun _ h=>h.elim)
  refine AV [] hZ (by kernel_rfl) ?_
  refine EM (i:=2) (j:=9) (by kernel_rfl) rfl rfl ?_ ?_
  ·
   replace f0:=((f0.st c0).st d0).st h0
   refine Bw (O:=n6) (R:=fun w' F v=>Vb w' F v o2) (BD Fr.lt f0 q4) rfl rfl fun kE lE o6 p0 f4=>?_
   obtain ⟨o3,p3,rfl⟩:=f4.form
   have hZ:=p0.lst [] (fun _ h=>h.elim)
   refine AV [] hZ (by kernel_rfl) ?_
   refine EM (i:=5) (j:=9) (by kernel_rfl) rfl rfl ?_ ?_
   ·
    replace b0:=(((b0.st c0).st d0).st h0).st p0
    refine Bw (O:=o6) (R:=fun w' F v=>Vb w' F v v0) (BD Fr.lt b0 d3) rfl rfl fun mE nE nA h2 p6=>?_
    obtain ⟨q6,r6,rfl⟩:=p6.form
    have hZ:=h2.lst [] (fun _ h=>h.elim)
    refine AV [] hZ (by kernel_rfl) ?_
    refine AP (i:=9) (by kernel_rfl) rfl ?_
    obtain ⟨s6,oA,pA,qA,rA⟩:=CM h3
    refine Dv 6 (by decide) nA (z0:=(([]:List Int):List Int)) rfl rfl rfl rfl rfl oA (Vb.nil _ _) pA qA rfl fun t6 oE sA l1 u6=>?_
    rw [← rA] at u6 ⊢
    have hZ:=l1.lst [] (fun _ h=>h.elim)
    refine AV [] hZ (by kernel_rfl) ?_
    refine AR (fuel:=1) [] [(10,true)] (by kernel_rfl) rfl ?_
    refine Dj rfl rfl rfl rfl ?_
    refine AB ?_
    refine AP (i:=12) (by kernel_rfl) rfl ?_
    replace e0:=((e0.st p0).st h2).st l1
    refine AT e0 rfl rfl rfl (Bg rfl) (allOne rfl) fun tA i2 e0=>?_
    replace e0:Lc 7 tA sA y2 53 [(.slice o3 o2.length p3),(.slice (some ⟨t6,0,none⟩) a3.length s6),(.slice q6 v0.length r6)]:=e0
    refine Ch (by kernel_rfl) ?_
    refine Bo (by kernel_rfl) ?_
    obtain rfl:=sm t0
    exact ⟨(y2,(o3,p3),((some ⟨t6,0,none⟩),s6),(q6,r6)),_,⟨rfl,rfl,rfl,trivial⟩,(((((((((hB.st b1).st a1).st u0).st c0).st d0).st h0).st p0).st h2).st l1).st i2,((((l0.st h0).st p0).st h2).st l1).st i2,(((f0.st p0).st h2).st l1).st i2,((((q0.st h0).st p0).st h2).st l1).st i2,((b0.st h2).st l1).st i2,((((((k0.st c0).st d0).st h0).st p0).st h2).st l1).st i2,e0,((f4.st h2).st l1).st i2,u6.st i2,(p6.st l1).st i2⟩
   obtain ⟨w6,uA,vA,wA,xA⟩:=CM h3
   refine Dv 6 (by decide) o6 (z0:=(([]:List Int):List Int)) rfl rfl rfl rfl rfl uA (Vb.nil _ _) vA wA rfl fun x6 pE yA j2 y6=>?_
   rw [← xA] at y6 ⊢
   have hZ:=j2.lst [] (fun _ h=>h.elim)
   refine AV [] hZ (by kernel_rfl) ?_
   refine AP (i:=5) (by kernel_rfl) rfl ?_
   replace b0:=((((b0.st c0).st d0).st h0).st p0).st j2
   refine Bw (O:=yA) (R:=fun w' F v=>Vb w' F v v0) (BD Fr.lt b0 d3) rfl rfl fun qE rE zA m1 z6=>?_
   obtain ⟨a7,b7,rfl⟩:=z6.form
   have hZ:=m1.lst [] (fun _ h=>h.elim)
   refine AV [] hZ (by kernel_rfl) ?_
   refine AR (fuel:=1) [] [(10,true)] (by kernel_rfl) rfl ?_
   refine Dj rfl rfl rfl rfl ?_
   refine AB ?_
   refine AP (i:=12) (by kernel_rfl) rfl ?_
   replace e0:=((e0.st p0).st j2).st m1
   refine AT e0 rfl rfl rfl (Bg rfl) (allOne rfl) fun aB k2 e0=>?_
   replace e0:Lc 7 aB zA y2 53 [(.slice o3 o2.length p3),(.slice (some ⟨x6,0,none⟩) a3.length w6),(.slice a7 v0.length b7)]:=e0
   refine Ch (by kernel_rfl) ?_
   refine Bo (by kernel_rfl) ?_
   obtain rfl:=sm t0
   exact ⟨(y2,(o3,p3),((some ⟨x6,0,none⟩),w6),(a7,b7)),_,⟨rfl,rfl,rfl,trivial⟩,(((((((((hB.st b1).st a1).st u0).st c0).st d0).st h0).st p0).st j2).st m1).st k2,((((l0.st h0).st p0).st j2).st m1).st k2,(((f0.st p0).st j2).st m1).st k2,((((q0.st h0).st p0).st j2).st m1).st k2,(b0.st m1).st k2,((((((k0.st c0).st d0).st h0).st p0).st j2).st m1).st k2,e0,((f4.st j2).st m1).st k2,(y6.st m1).st k2,z6.st k2⟩
  obtain ⟨c7,bB,cB,dB,eB⟩:=CM h3
  refine Dv 6 (by decide) n6 (z0:=(([]:List Int):List Int)) rfl rfl rfl rfl rfl bB (Vb.nil _ _) cB dB rfl fun d7 sE fB q2 e7=>?_
  rw [← eB] at e7 ⊢
  have hZ:=q2.lst [] (fun _ h=>h.elim)
  refine AV [] hZ (by kernel_rfl) ?_
  refine AP (i:=2) (by kernel_rfl) rfl ?_
  replace f0:=(((f0.st c0).st d0).st h0).st q2
  refine Bw (O:=fB) (R:=fun w' F v=>Vb w' F v o2) (BD Fr.lt f0 q4) rfl rfl fun tE uE gB l2 f7=>?_
  obtain ⟨g7,h7,rfl⟩:=f7.form
  have hZ:=l2.lst [] (fun _ h=>h.elim)
  refine AV [] hZ (by kernel_rfl) ?_
  refine AP (i:=5) (by kernel_rfl) rfl ?_
  replace b0:=((((b0.st c0).st d0).st h0).st q2).st l2
  refine Bw (O:=gB) (R:=fun w' F v=>Vb w' F v v0) (BD Fr.lt b0 d3) rfl rfl fun vE wE iB n1 i7=>?_
  obtain ⟨j7,k7,rfl⟩:=i7.form
  have hZ:=n1.lst [] (fun _ h=>h.elim)
  refine AV [] hZ (by kernel_rfl) ?_
  refine AR (fuel:=1) [] [(10,true)] (by kernel_rfl) rfl ?_
  refine Dj rfl rfl rfl rfl ?_
  refine AB ?_
  refine AP (i:=12) (by kernel_rfl) rfl ?_
  replace e0:=((e0.st q2).st l2).st n1
  refine AT e0 rfl rfl rfl (Bg rfl) (allOne rfl) fun jB m2 e0=>?_
  replace e0:Lc 7 jB iB y2 53 [(.slice g7 o2.length h7),(.slice (some ⟨d7,0,none⟩) a3.length c7),(.slice j7 v0.length k7)]:=e0
  refine Ch (by kernel_rfl) ?_
  refine Bo (by kernel_rfl) ?_
  obtain rfl:=sm t0
  exact ⟨(y2,(g7,h7),((some ⟨d7,0,none⟩),c7),(j7,k7)),_,⟨rfl,rfl,rfl,trivial⟩,(((((((((hB.st b1).st a1).st u0).st c0).st d0).st h0).st q2).st l2).st n1).st m2,((((l0.st h0).st q2).st l2).st n1).st m2,((f0.st l2).st n1).st m2,((((q0.st h0).st q2).st l2).st n1).st m2,(b0.st n1).st m2,((((((k0.st c0).st d0).st h0).st q2).st l2).st n1).st m2,e0,(f7.st n1).st m2,((e7.st l2).st n1).st m2,i7.st m2⟩
 replace hB:=((((hB.st b1).st a1).st u0).st c0).st d0
 replace f0:=(f0.st c0).st d0
 replace q0:=(q0.st c0).st d0
 replace b0:=(b0.st c0).st d0
 replace l0:=(l0.st c0).st d0
 replace k0:=(k0.st c0).st d0
 rintro xE yE ⟨a0,kB,l7,hB,l0,f0,q0,b0,k0,x3,q3,zE,r3⟩
 refine AQ _ l7 ?_
 refine Al (Al (Aj (AJ rfl rfl (AG (hc:=Blk.cell (i:=1) (l0.1) rfl) rfl rfl ?_))))
 refine AY rfl rfl ?_
 have g4:x1.vals.length≤9223372036854775807:=Nat.le_trans q0.len.2.1 q0.len.2.2
 have aF:inI64 (x1.vals.length:Int):=rngNat g4
 refine Ar rfl rfl (o_z ?_)
 obtain ⟨h4,m7,hm⟩:=bs hm
 refine AL (aft h4 (fun (z2:(List (List Int))) (s3:Unit)=>[(4,(.pointer (some ⟨w3,0,none⟩))),(7,(.pointer (some ⟨a0.1,0,none⟩)))]) (fun z2 s3 w'=>∃ O':Lab,Bs w A w' O'∧Lc 4 w' O' w3 53 [(.slice none 0 0),(.slice none 0 0),(.slice none 0 0)]∧Lc 7 w' O' a0.1 53 [(.slice a0.2.1.1 i0.1.length a0.2.1.2),(.slice a0.2.2.1.1 i0.2.1.length a0.2.2.1.2),(.slice a0.2.2.2.1 i0.2.2.length a0.2.2.2.2)]∧Vb w' (Fr 0 w' O') (.slice a0.2.1.1 i0.1.length a0.2.1.2) i0.1∧Rw 6 w' O' 22 (.slice a0.2.2.1.1 i0.2.1.length a0.2.2.1.2) z2∧Vb w' (Fr 0 w' O') (.slice a0.2.2.2.1 i0.2.2.length a0.2.2.2.2) i0.2.2)) ?_ ?_
 ·
  refine Bb (BL (σ:=(List (List Int))) (X:=Unit) (x1.vals.length) m7 rfl g4 (fun (z2:(List (List Int))) (s3:Unit)=>[(3,(.pointer (some ⟨p4,0,none⟩))),(4,(.pointer (some ⟨w3,0,none⟩))),(7,(.pointer (some ⟨a0.1,0,none⟩))),(30,(.slice a4 x1.vals.length b4))]) _ (fun z2 s3 w'=>∃ O':Lab,Bs w A w' O'∧Lc 3 w' O' p4 53 [(.slice j4 x1.vars.length k4),(.slice a4 x1.vals.length b4),(.slice l4 x1.ops.length m4)]∧Vb w' (Fr 0 w' O') (.slice j4 x1.vars.length k4) x1.vars∧Vb w' (Fr 0 w' O') (.slice a4 x1.vals.length b4) x1.vals∧Vb w' (Fr 0 w' O') (.slice l4 x1.ops.length m4) x1.ops∧Lc 4 w' O' w3 53 [(.slice none 0 0),(.slice none 0 0),(.slice none 0 0)]∧Lc 7 w' O' a0.1 53 [(.slice a0.2.1.1 i0.1.length a0.2.1.2),(.slice a0.2.2.1.1 i0.2.1.length a0.2.2.1.2),(.slice a0.2.2.2.1 i0.2.2.length a0.2.2.2.2)]∧Vb w' (Fr 0 w' O') (.slice a0.2.1.1 i0.1.length a0.2.1.2) i0.1∧Rw 6 w' O' 22 (.slice a0.2.2.1.1 i0.2.1.length a0.2.2.1.2) z2∧Vb w' (Fr 0 w' O') (.slice a0.2.2.2.1 i0.2.2.length a0.2.2.2.2) i0.2.2) _ () ⟨kB,hB,l0,f0,q0,b0,k0,x3,q3,zE,r3⟩ ⟨rfl,rfl,rfl,rfl,rfl,rfl,trivial⟩ (fun _ _=>⟨rfl,rfl⟩) (fun _ _=>⟨rfl,rfl,trivial⟩) (fun _ _ _ ⟨O',hB,l0,f0,q0,b0,k0,x3,q3,s0,r3⟩=>⟨O',hB,k0,x3,q3,s0,r3⟩) ⟨rfl,rfl,rfl⟩ ⟨rfl,rfl⟩ ?_)
  rintro lB bF z2 s3 cF iC y3 ⟨n7,hB,l0,f0,q0,b0,k0,x3,q3,s0,r3⟩ w0 i8 j8
  have rk372:inI64 (lB:Int):=rngK y3 g4
  refine Al (Aj (Ar rfl rfl ?_))
  obtain ⟨dF,eF,jC,o7,p7,q7,fF,rfl,t3⟩:=q0.elem' y3
  replace t3:=Vb.of_slice t3
  obtain ⟨gF,hF,rfl⟩:=t3.form
  refine BJ (hA:=o7) (hj:=rfl) (hlt:=p7) rfl rfl rfl ?_
  refine AG (hc:=cat0 q7) rfl rfl ?_
  refine Aw rfl rfl (Aw rfl rfl (o_z ?_))
  refine BA [] n7 ?_
  refine AR (fuel:=3) [] [(0,true),(1,true),(2,true),(3,true),(4,true),(5,true),(6,true),(7,true)] (by kernel_rfl) rfl ?_
  refine Be rfl rfl rfl (AW (hc:=fun w' ⟨O',hq⟩=>Blk.cell (i:=1) ((x3.st hq (by decide)).1) rfl) rfl rfl rfl ?_)
  refine Be rfl rfl rfl (AW (hc:=fun w' ⟨O',hq⟩=>Blk.cell (i:=0) ((l0.st hq (by decide)).1) rfl) rfl rfl rfl ?_)
  refine AN rfl rfl rfl ?_
  obtain ⟨iF,mB,w0⟩:=bs w0
  obtain ⟨jF,kF,kC,r7,s7,t7,u7,rfl,lF⟩:=f0.elem mB
  refine BH (hA:=r7) (hj:=rfl) (hlt:=t7) rfl rfl rfl rfl ?_
  refine AW (hc:=fun w' ⟨O',hq⟩=>cat0 (AU (hq.agree (i:=0) (by decide)) s7 u7)) rfl rfl rfl ?_
  refine AN rfl rfl rfl (AB ?_)
  refine AP (i:=8) (by kernel_rfl) rfl ?_
  obtain ⟨w7,nB,w0⟩:=bs w0
  refine Bw (O:=n7) (R:=fun w' F v=>Vb w' F v w7) (BD Fr.lt t3 nB) rfl rfl fun mF nF oF y0 x7=>?_
  obtain ⟨pF,qF,rfl⟩:=x7.form
  have hZ:=y0.lst [] (fun _ h=>h.elim)
  refine AV [] hZ (by kernel_rfl) ?_
  refine AR (fuel:=1) [] [(9,true)] (by kernel_rfl) rfl ?_
  obtain ⟨rF,oB,w0⟩:=bs w0
  obtain ⟨pB,y7⟩:=AZ oB
  replace s0:=s0.st y0
  obtain ⟨sF,tF,lC,z3,mC,z7,nC,uF,rfl,i4⟩:=s0.elemF y7
  replace i4:=Vb.of_slice i4
  obtain ⟨vF,wF,rfl⟩:=i4.form
  refine BH (hA:=z3) (hj:=(Int.toNat_of_nonneg pB).symm) (hlt:=z7) rfl rfl rfl rfl ?_
  refine AB ?_
  refine AP (i:=10) (by kernel_rfl) rfl ?_
  refine DW rfl s0 (a:=w7) x7 z3 rfl rfl (AF y7) fun xF n2 s0=>?_
  refine Ch (by kernel_rfl) ?_
  refine Bo (by kernel_rfl) ?_
  obtain rfl:=sm w0
  exact show Exists _ from ⟨_,(),rfl,⟨rfl,rfl,rfl,rfl,rfl,rfl,trivial⟩,_,(hB.st y0).st n2,(l0.st y0).st n2,(f0.st y0).st n2,(q0.st y0).st n2,(b0.st y0).st n2,(k0.st y0).st n2,(x3.st y0).st n2,(q3.st y0).st n2,s0,(r3.st y0).st n2⟩
 rintro yF zF ⟨qB,aG,rfl,a8,rB,hB,k0,x3,q3,s0,r3⟩
 replace hm:=Bl hm
 refine AQ _ a8 ?_
 refine Al (Aj (Bi (hl:=rfl) (hc:=(x3.1).cellsAt) rfl rfl ?_))
 refine AT k0 rfl rfl rfl (Bg rfl) (allOne rfl) fun b8 u3 k0=>?_
 replace k0:Lc 4 b8 rB w3 53 [(.slice a0.2.1.1 i0.1.length a0.2.1.2),(.slice a0.2.2.1.1 i0.2.1.length a0.2.2.1.2),(.slice a0.2.2.2.1 i0.2.2.length a0.2.2.2.2)]:=k0
 refine Aw rfl rfl (o_z ?_)
 refine AH ?_
 replace s0:=s0.st u3
 obtain ⟨sB,v3,s0⟩:=s0.freeze
 obtain rfl:=sm hm
 replace hB:=(hB.st u3).st v3
 replace k0:=k0.st v3
 replace q3:=(q3.st u3).st v3
 replace r3:=(r3.st u3).st v3
 exact ret2 rfl (Ck (cs:=[(.slice a0.2.1.1 i0.1.length a0.2.1.2),(.slice a0.2.2.1.1 i0.2.1.length a0.2.2.1.2),(.slice a0.2.2.2.1 i0.2.2.length a0.2.2.2.2)]) rfl rfl k0.1.cellsAt) (AE rfl) ⟨hB.ext,_,_,rfl,(Vb.mono (F:=Fr 0 b8 sB) (Vb.ofAgg (cs:=[(.slice a0.2.1.1 i0.1.length a0.2.1.2),(.slice a0.2.2.1.1 i0.2.1.length a0.2.2.1.2),(.slice a0.2.2.2.1 i0.2.2.length a0.2.2.2.2)]) (x:=(⟨i0.1,qB,i0.2.2⟩:Swp)) rfl ⟨_,_,_,rfl,q3,s0,r3⟩) hB.out),(vErr (show inI64 0 from by decide))⟩
end
section
open Go Go.RowKit
def bw (a:Int):Byt:=⟨a % 256,by omega,by omega⟩
theorem Pq (a:Int):IntKind.u8.wrap a=(bw a).n:=by
  unfold bw
  simp [IntKind.wrap,IntKind.bits,IntKind.signed]
def strB (xs:List Byt):ByteArray:=⟨(xs.map fun b=>UInt8.ofNat b.n.toNat).toArray⟩
theorem Nm (xs:List Byt):(strB xs).size=xs.length:=by simp [strB,ByteArray.size]
section
variable {P : Program} {l : Env} {w : World} {dst : Option Tmp} {ty : TypeId} {pos : String} {aft : Array Edge}
theorem Rb {s t:TypeId} {k:IntKind} [hs:TInt P s k] [ht:TInt P t .u8] {x:Operand} {a:Int} (hx:opv l x=some (.int k a)):Ev P ⟨dst,.convert s t x,ty,pos,aft,none⟩ l w (.int .u8 (bw a).n):=fun _ _ d ha=>by
  simp [execOp,ha.eval hx,convert,run_underlying hs.eq,run_underlying ht.eq,Conv.intToInt,Pq]
theorem JB {F:Nat→Prop}:∀ {xs:List Byt} {cells:List Value},Chunks w F cells xs→cells=xs.map fun b=>.int .u8 b.n
  | [],_,h=>h
  | x :: xs,_,⟨cs,rest,he,hr,hc⟩=>by
    have h1:cs=[.int .u8 x.n]:=hr
    rw [he,h1,JB hc];rfl
theorem Nn (xs:List Byt):∀ (d:Array UInt8),xs.foldl (fun s b=>s.push (UInt8.ofNat b.n.toNat)) (⟨d⟩:ByteArray)=⟨d ++ (xs.map fun b=>UInt8.ofNat b.n.toNat).toArray⟩:=by
  induction xs with
  | nil=>intro d;simp
  | cons x xs ih =>
    intro d
    rw [List.foldl_cons]
    have:=ih (d.push (UInt8.ofNat x.n.toNat))
    show List.foldl _ (⟨d.push (UInt8.ofNat x.n.toNat)⟩:ByteArray) xs=_
    rw [this]
    congr 1
    apply Array.toList_inj.1
    simp
theorem No (xs:List Byt):xs.foldl (fun s b=>s.push (UInt8.ofNat b.n.toNat)) ByteArray.empty=strB xs:=by
  have:=Nn xs #[]
  show List.foldl _ (⟨#[]⟩:ByteArray) xs=_
  rw [this]
  unfold strB
  congr 1
  apply Array.toList_inj.1
  simp
theorem Rc {s t e:TypeId} [hs:TSlice P s e] [he:TInt P e .u8] [ht:TStr P t] {x:Operand} {v:Value} {F:Nat→Prop} {xs:List Byt} (hx:opv l x=some v) (hv:Vb w F v xs):Ev P ⟨dst,.convert s t x,ty,pos,aft,none⟩ l w (.string (strB xs)):=fun _ _ d ha=>by
  obtain ⟨A,c,cells,rfl,h1,h2,h3,h4⟩:=hv.slice
  have hc:=JB h3
  subst hc
  cases A with
  | none =>
    have h0:xs=[]:=by
      by_cases h:0 < xs.length
      · obtain ⟨b,o,hb,_⟩:=h4 h;cases hb
      · exact List.eq_nil_of_length_eq_zero (by omega)
    subst h0
    simp [execOp,ha.eval hx,convert,run_underlying hs.eq,run_underlying he.eq,run_underlying ht.eq,Conv.bytesToString]
    rfl
  | some ad =>
    by_cases h:0 < xs.length
    · obtain ⟨b,o,hb,_,hcell⟩:=h4 h
      obtain rfl:=Option.some.inj hb
      have:=DP (P:=P) (dr w d) b o (xs.map fun b=>Value.int .u8 b.n) 0 #[] (fun j v hv=>by rw [Nat.zero_add];exact Es hcell j v hv)
      rw [List.length_map] at this
      simp [execOp,ha.eval hx,convert,run_underlying hs.eq,run_underlying he.eq,run_underlying ht.eq,Conv.bytesToString,loadCells,this,No]
    · have h0:xs=[]:=List.eq_nil_of_length_eq_zero (by omega)
      subst h0
      simp [execOp,ha.eval hx,convert,run_underlying hs.eq,run_underlying he.eq,run_underlying ht.eq,Conv.bytesToString,loadCells,loadCellsFrom]
      rfl
end
def strI (xs:List Byt):Option ByteArray:=if xs.length≤9223372036854775807 then some (strB xs) else none
theorem Kk {xs:List Byt} {c:ByteArray} (h:strI xs=some c):c=strB xs∧xs.length≤9223372036854775807:=by
  unfold strI at h
  split at h
  · exact ⟨(sm h).symm,by assumption⟩
  · cases h
theorem Pr {xs:List Byt} (h:xs.length≤9223372036854775807):strI xs=some (strB xs):=if_pos h
theorem Ps {xs:List Byt} {c:ByteArray} (h:strI xs=some c):c.size≤9223372036854775807:=by
  obtain ⟨rfl,h2⟩:=Kk h
  rw [Nm];exact h2
section
variable {P : Program} {n : Nat} {ops : Array Oper} {Q : Post} {rest : List Oper} {l : Env} {w : World} {d : Tmp} {ty : TypeId} {pos : String} {aft : Array Edge}
theorem Rk {s t:TypeId} {k:IntKind} [TInt P s k] [TInt P t .u8] {x:Operand} {a:Int} (hx:opv l x=some (.int k a)) (hd:Nat.blt d n=true) (h:owp P n ops Q rest ((d,.int .u8 (bw a).n) :: l) w):owp P n ops Q (⟨some d,.convert s t x,ty,pos,aft,none⟩ :: rest) l w:=Bz (Rb hx) hd h
theorem Rl {s t e:TypeId} [TSlice P s e] [TInt P e .u8] [TStr P t] {x:Operand} {v:Value} {F:Nat→Prop} {xs:List Byt} {c:ByteArray} (hx:opv l x=some v) (hv:Vb w F v xs) (he:strI xs=some c) (hd:Nat.blt d n=true) (h:owp P n ops Q rest ((d,.string c) :: l) w):owp P n ops Q (⟨some d,.convert s t x,ty,pos,aft,none⟩ :: rest) l w:=by
  obtain ⟨rfl,_⟩:=Kk he
  exact Bz (Rc hx hv) hd h
end
end
section
open Go Go.RowKit Go.Lib Go.Sort
def cfL:List Int→List Int→Int
  | [],[]=>0
  | [],_ :: _=>-1
  | _ :: _,[]=>1
  | x :: xs,y :: ys=>if Lib.compareInt x y≠0 then Lib.compareInt x y else cfL xs ys
theorem Fg {α:Type} {l:List α} {k:Nat} (h:k < l.length):∃ x,l[k]?=some x:=⟨l[k],List.getElem?_eq_getElem h⟩
theorem IX {α:Type} {l:List α} {k:Nat} (h:l.length≤k):l.drop k=[]:=List.drop_eq_nil_of_le h
theorem Lk {xs ys:List Int} {k:Nat} {x y:Int} (hx:xs[k]?=some x) (hy:ys[k]?=some y):cfL (xs.drop k) (ys.drop k)=if Lib.compareInt x y≠0 then Lib.compareInt x y else cfL (xs.drop (k + 1)) (ys.drop (k + 1)):=by
  have h1:xs.drop k=x :: xs.drop (k + 1):=by
    rw [List.drop_eq_getElem_cons (AF hx)]
    rw [List.getElem?_eq_getElem (AF hx)] at hx
    rw [Option.some.inj hx]
  have h2:ys.drop k=y :: ys.drop (k + 1):=by
    rw [List.drop_eq_getElem_cons (AF hy)]
    rw [List.getElem?_eq_getElem (AF hy)] at hy
    rw [Option.some.inj hy]
  rw [h1,h2]
  rfl
end
section
open Go Go.RowKit Go.Lib Go.Sort
theorem Ek (x y:Int):(x < y∧Lib.compareInt x y=-1)∨(x=y∧Lib.compareInt x y=0)∨(y < x∧Lib.compareInt x y=1):=by
  unfold Lib.compareInt
  by_cases h:x < y
  · simp [h]
  · by_cases h2:y < x
    · simp [h,h2]
    · right;left;simp [h,h2];omega
theorem Np:∀ {x y:List Int},cfL x y=0→x=y
  | [],[],_=>rfl
  | [],_ :: _,h=>by simp [cfL] at h
  | _ :: _,[],h=>by simp [cfL] at h
  | a :: x,b :: y,h=>by
    simp only [cfL] at h
    rcases Ek a b with ⟨_,h2⟩|⟨h1,h2⟩|⟨_,h2⟩
    · rw [h2] at h;simp at h
    · rw [h2] at h;simp at h;rw [h1,Np h]
    · rw [h2] at h;simp at h
theorem IY:∀ x:List Int,cfL x x=0
  | []=>rfl
  | a :: x=>by
    simp only [cfL]
    rcases Ek a a with ⟨h1,_⟩|⟨_,h2⟩|⟨h1,_⟩
    · omega
    · rw [h2];simp [IY x]
    · omega
theorem Mk:∀ x y:List Int,cfL y x=- cfL x y
  | [],[]=>rfl
  | [],_ :: _=>rfl
  | _ :: _,[]=>rfl
  | a :: x,b :: y=>by
    simp only [cfL]
    have ih:=Mk x y
    rcases Ek a b with ⟨h1,h2⟩|⟨h1,h2⟩|⟨h1,h2⟩<;>rcases Ek b a with ⟨g1,g2⟩|⟨g1,g2⟩|⟨g1,g2⟩<;>first|omega|(rw [h2,g2];simp [ih])
theorem HT:∀ {x y z:List Int},cfL x y≤0→cfL y z≤0→cfL x z≤0
  | [],_,[],_,_=>by simp [cfL]
  | [],_,_ :: _,_,_=>by simp [cfL]
  | _ :: _,[],_,h,_=>by simp [cfL] at h
  | _ :: _,_ :: _,[],_,h=>by simp [cfL] at h
  | a :: x,b :: y,c :: z,h1,h2=>by
    simp only [cfL] at h1 h2 ⊢
    have ih:=@HT x y z
    rcases Ek a b with ⟨p1,p2⟩|⟨p1,p2⟩|⟨p1,p2⟩<;>rcases Ek b c with ⟨q1,q2⟩|⟨q1,q2⟩|⟨q1,q2⟩<;>rcases Ek a c with ⟨r1,r2⟩|⟨r1,r2⟩|⟨r1,r2⟩<;>rw [p2] at h1<;>rw [q2] at h2<;>rw [r2]<;>simp at h1 h2 ⊢<;>first|omega|exact ih h1 h2
end
section
open Go Go.RowKit
attribute [local irreducible] ewp owp hwp hwq hws Ev Evg Fn retPost loud loudS Res1
attribute [local irreducible] hwx loudX
instance:TMap Tryz.prog 64 9 3:=⟨Tryz.underlying64⟩
instance:TKey Tryz.prog 9 ByteArray:=⟨Tryz.underlying9⟩
noncomputable def DK (x0:Int):Option Bool :=
  bnd (if x0≠x0 then (some true) else (some false):Option Bool) fun y2=>some y2
theorem GD {w:World} {A:Nat→Prop} (hA:∀ k,A k→k < w.heap.size) {x0:Int} (rx0:inI64 x0) {r:Bool} (hm:DK x0=some r) :
    Fn Tryz.prog 106 [(.int .i64 x0)] w fun v w'=>Ext w w'∧Vb w' (upA A w w') v r:=by
 obtain ⟨O,hB,c0⟩:=enter hA
 refine AK Tryz.func106 rfl Tryz.ntmps106 rfl ?_
 unfold DK at hm
 refine Al (Aj (Aw rfl rfl (o_z ?_)))
 refine Al ?_
 obtain ⟨y2,a0,hm⟩:=bs hm
 refine AL (fun l' w'=>∃ (x5:Unit) (O':Lab),subs l' [(2,(.bool y2))]∧Bs w A w' O') ?_ ?_
 ·
  refine Aj (Ar rfl rfl (Ar rfl rfl (EK rfl rfl rfl (fun c6=>?_) fun c6=>?_)))
  ·
   replace a0:=ip a0 c6
   refine Aw rfl rfl (o_z ?_)
   obtain rfl:=sm a0
   exact ⟨(),_,⟨rfl,trivial⟩,hB⟩
  replace a0:=im a0 c6
  refine Aw rfl rfl (o_z ?_)
  obtain rfl:=sm a0
  exact ⟨(),_,⟨rfl,trivial⟩,hB⟩
 rintro l7 w8 ⟨x5,O9,b0,hB⟩
 refine AQ _ b0 ?_
 refine AH ?_
 obtain rfl:=sm hm
 exact ret1v rfl (AE rfl) ⟨hB.ext,vBool⟩
noncomputable def Dn (x0:Int) (x1:Int):Option Int :=
  bnd (bnd (DK x0) fun q7=>if q7=true then some true else some false:Option Bool) fun y3=>bnd (bnd (DK x1) fun q22=>if q22=true then some true else some false:Option Bool) fun y18=>if y3=true then (if y18=true then (some 0) else (some (-1))) else (if y18=true then (some 1) else (if x0 < x1 then (some (-1)) else (if x1 < x0 then (some 1) else (some 0))))
theorem Ix {w:World} {A:Nat→Prop} (hA:∀ k,A k→k < w.heap.size) {x0:Int} (rx0:inI64 x0) {x1:Int} (rx1:inI64 x1) {r:Int} (hm:Dn x0 x1=some r) :
    Fn Tryz.prog 98 [(.int .i64 x0),(.int .i64 x1)] w fun v w'=>Ext w w'∧Vb w' (upA A w w') v r:=by
 obtain ⟨O,hB,t0⟩:=enter hA
 refine AK Tryz.func98 rfl Tryz.ntmps98 rfl ?_
 unfold Dn at hm
 refine Al (Aj (Aw rfl rfl (o_z ?_)))
 refine Al ?_
 obtain ⟨y3,b0,hm⟩:=bs hm
 refine AL (fun l' w'=>∃ (x6:Unit) (O':Lab),subs l' [(0,(.int .i64 x0)),(1,(.int .i64 x1)),(5,(.bool y3))]∧Bs w A w' O') ?_ ?_
 ·
  refine Aj (Ar rfl rfl ?_)
  obtain ⟨q7,e8,b0⟩:=bs b0
  refine Bn (O:=O) (A:=All w) (R:=fun w' F v=>Vb w' F v q7) (GD (fun _ h=>h) rx0 e8) rfl rfl fun u0 w9 v0 j0 m0=>?_
  obtain rfl:=m0.bool
  cases q7
  case false =>
   replace b0:=iF b0
   refine Aw rfl rfl (o_z ?_)
   obtain rfl:=sm b0
   exact ⟨(),_,⟨rfl,rfl,rfl,trivial⟩,hB.st j0⟩
  replace b0:=iT b0
  refine Aw rfl rfl (o_z ?_)
  obtain rfl:=sm b0
  exact ⟨(),_,⟨rfl,rfl,rfl,trivial⟩,hB.st j0⟩
 rintro w0 n0 ⟨x6,o0,c0,hB⟩
 refine AQ _ c0 ?_
 refine Al ?_
 obtain ⟨p0,a0,hm⟩:=bs hm
 refine AL (fun l' w'=>∃ (q0:Unit) (O':Lab),subs l' [(0,(.int .i64 x0)),(1,(.int .i64 x1)),(5,(.bool y3)),(6,(.bool p0))]∧Bs w A w' O') ?_ ?_
 ·
  refine Aj (Ar rfl rfl ?_)
  obtain ⟨k0,r0,a0⟩:=bs a0
  refine Bn (O:=o0) (A:=All n0) (R:=fun w' F v=>Vb w' F v k0) (GD (fun _ h=>h) rx1 r0) rfl rfl fun y0 z0 a1 l0 s0=>?_
  obtain rfl:=s0.bool
  cases k0
  case false =>
   replace a0:=iF a0
   refine Aw rfl rfl (o_z ?_)
   obtain rfl:=sm a0
   exact ⟨(),_,⟨rfl,rfl,rfl,rfl,trivial⟩,hB.st l0⟩
  replace a0:=iT a0
  refine Aw rfl rfl (o_z ?_)
  obtain rfl:=sm a0
  exact ⟨(),_,⟨rfl,rfl,rfl,rfl,trivial⟩,hB.st l0⟩
 rintro b1 c1 ⟨q0,d1,d0,hB⟩
 refine AQ _ d0 ?_
 refine Al (Al (Aj (Ar rfl rfl (o_z ?_))))
 refine BW rfl (fun e0=>?_) (fun e0=>?_)
 ·
  replace hm:=ip hm e0
  refine Al (Al (Aj (Ar rfl rfl (o_z ?_))))
  refine BW rfl (fun f0=>?_) (fun f0=>?_)
  ·
   replace hm:=ip hm f0
   refine Al (Aj (Aw rfl rfl (o_z ?_)))
   refine AH ?_
   obtain rfl:=sm hm
   exact ret1v rfl (AE rfl) ⟨hB.ext,(vInt (show inI64 (0) from by decide))⟩
  replace hm:=im' hm f0
  refine AO (Al (Aj (Aw rfl rfl (o_z ?_))))
  refine AH ?_
  obtain rfl:=sm hm
  exact ret1v rfl (AE rfl) ⟨hB.ext,(vInt (show inI64 (-1) from by decide))⟩
 replace hm:=im' hm e0
 refine AO (Al (Al (Aj (Ar rfl rfl (o_z ?_)))))
 refine BW rfl (fun g0=>?_) (fun g0=>?_)
 ·
  replace hm:=ip hm g0
  refine Al (Aj (Aw rfl rfl (o_z ?_)))
  refine AH ?_
  obtain rfl:=sm hm
  exact ret1v rfl (AE rfl) ⟨hB.ext,(vInt (show inI64 (1) from by decide))⟩
 replace hm:=im' hm g0
 refine AO (Al (Al (Aj (Ar rfl rfl (Ar rfl rfl (DI rfl rfl rfl (fun h0=>?_) fun h0=>?_))))))
 ·
  replace hm:=ip hm h0
  refine o_z ?_
  refine Ah rfl (Al (Aj (Aw rfl rfl (o_z ?_))))
  refine AH ?_
  obtain rfl:=sm hm
  exact ret1v rfl (AE rfl) ⟨hB.ext,(vInt (show inI64 (-1) from by decide))⟩
 replace hm:=im hm h0
 refine o_z ?_
 refine Ae rfl (AO (Al (Al (Aj (Ar rfl rfl (Ar rfl rfl (CX rfl rfl rfl (fun i0=>?_) fun i0=>?_)))))))
 ·
  replace hm:=ip hm i0
  refine o_z ?_
  refine Ah rfl (Al (Aj (Aw rfl rfl (o_z ?_))))
  refine AH ?_
  obtain rfl:=sm hm
  exact ret1v rfl (AE rfl) ⟨hB.ext,(vInt (show inI64 (1) from by decide))⟩
 replace hm:=im hm i0
 refine o_z ?_
 refine Ae rfl (AO (Al (Aj (Aw rfl rfl (o_z ?_)))))
 refine AH ?_
 obtain rfl:=sm hm
 exact ret1v rfl (AE rfl) ⟨hB.ext,(vInt (show inI64 (0) from by decide))⟩
noncomputable def BY (x0:List Int) (x1:List Int):Option Int :=
  bnd (rng (ρ:=Int) (fun (k13:Nat) (a14:Int) (s11:Unit)=>if (x1.length:Int)≤(k13:Int) then (some (.ret 1)) else (bnd (x1[k13]?) fun a35=>bnd (Dn a14 a35) fun q45=>if q45≠0 then (some (.ret q45)) else (some (.next ())))) x0 0 ()) fun res9=>fin res9 fun (s58:Unit)=>if (x0.length:Int) < (x1.length:Int) then (some (-1)) else (some 0)
theorem FX {w:World} {A:Nat→Prop} (hA:∀ k,A k→k < w.heap.size) {vx0:Value} {x0:List Int} (b0:Vb w A vx0 x0) {vx1:Value} {x1:List Int} (c0:Vb w A vx1 x1) {r:Int} (hm:BY x0 x1=some r) :
    Fn Tryz.prog 87 [vx0,vx1] w fun v w'=>Ext w w'∧Vb w' (upA A w w') v r:=by
 obtain ⟨O,hB,v0⟩:=enter hA
 replace b0:=b0.mono v0
 obtain ⟨A3,c4,rfl⟩:=b0.form
 replace c0:=c0.mono v0
 obtain ⟨A5,c6,rfl⟩:=c0.form
 refine AK Tryz.func87 rfl Tryz.ntmps87 rfl ?_
 unfold BY at hm
 refine Al (Aj (Aw rfl rfl (o_z ?_)))
 refine Al (Al (Aj (Ar rfl rfl (AY rfl rfl ?_))))
 have l8:x0.length≤9223372036854775807:=Nat.le_trans b0.len.2.1 b0.len.2.2
 have r7:inI64 (x0.length:Int):=rngNat l8
 refine Ar rfl rfl (o_z ?_)
 obtain ⟨i0,j0,hm⟩:=bs hm
 refine AL (aft i0 (fun (f0:Unit) (g0:Unit)=>[(0,(.slice A3 x0.length c4)),(1,(.slice A5 x1.length c6))]) (fun f0 g0 w'=>∃ O':Lab,Bs w A w' O'∧Vb w' (Fr 0 w' O') (.slice A3 x0.length c4) x0∧Vb w' (Fr 0 w' O') (.slice A5 x1.length c6) x1)) ?_ ?_
 ·
  refine Bb (BL (σ:=Unit) (X:=Unit) (x0.length) j0 rfl l8 (fun (f0:Unit) (g0:Unit)=>[(0,(.slice A3 x0.length c4)),(1,(.slice A5 x1.length c6)),(9,(.slice A3 x0.length c4))]) _ (fun f0 g0 w'=>∃ O':Lab,Bs w A w' O'∧Vb w' (Fr 0 w' O') (.slice A3 x0.length c4) x0∧Vb w' (Fr 0 w' O') (.slice A5 x1.length c6) x1) _ () ⟨O,hB,b0,c0⟩ ⟨rfl,rfl,rfl,rfl,rfl,trivial⟩ (fun _ _=>⟨rfl,rfl⟩) (fun _ _=>⟨rfl,rfl,trivial⟩) (fun _ _ _ ⟨O',hB,b0,c0⟩=>⟨O',hB,b0,c0⟩) ⟨rfl,rfl,rfl⟩ ⟨rfl,rfl⟩ ?_)
  rintro w0 n1 f0 g0 y0 z0 e0 ⟨a1,hB,b0,c0⟩ a0 d0 k0
  have rk13:inI64 (w0:Int):=rngK e0 l8
  refine Al (Aj (Ar rfl rfl ?_))
  obtain ⟨o1,p1,b1,l0,m0,n0,rfl,c1⟩:=b0.elem' e0
  refine BJ (hA:=l0) (hj:=rfl) (hlt:=m0) rfl rfl rfl ?_
  refine AG (hc:=cat0 n0) rfl rfl ?_
  refine Aw rfl rfl (Aw rfl rfl (o_z ?_))
  refine Al (Al (Aj (Ar rfl rfl (Ar rfl rfl (AY rfl rfl ?_)))))
  have d1:x1.length≤9223372036854775807:=Nat.le_trans c0.len.2.1 c0.len.2.2
  have q1:inI64 (x1.length:Int):=rngNat d1
  refine FU rfl rfl rfl (fun o0=>?_) fun o0=>?_
  ·
   replace a0:=ip a0 o0
   refine o_z ?_
   refine Ah rfl (Al (Aj (Aw rfl rfl (o_z ?_))))
   refine AH ?_
   obtain rfl:=sm a0
   obtain rfl:=d0 _ rfl
   obtain rfl:=sm (BV hm)
   exact ret1v rfl (AE rfl) ⟨hB.ext,(vInt (show inI64 (1) from by decide))⟩
  replace a0:=im a0 o0
  refine o_z ?_
  refine Ae rfl (AO (Al (Aj (Ar rfl rfl (Ar rfl rfl ?_)))))
  obtain ⟨r1,e1,a0⟩:=bs a0
  obtain ⟨s1,t1,f1,p0,q0,r0,rfl,g1⟩:=c0.elem' e1
  refine BJ (hA:=p0) (hj:=rfl) (hlt:=q0) rfl rfl rfl ?_
  refine AG (hc:=cat0 r0) rfl rfl ?_
  refine Aw rfl rfl (o_z ?_)
  refine Al (Aj (Ar rfl rfl (Ar rfl rfl ?_)))
  obtain ⟨h1,i1,a0⟩:=bs a0
  refine Bn (O:=a1) (A:=All y0) (R:=fun w' F v=>Vb w' F v h1) (Ix (fun _ h=>h) c1 g1 i1) rfl rfl fun u1 v1 w1 h0 j1=>?_
  obtain ⟨rfl,k1⟩:=j1.int
  refine Aw rfl rfl (o_z ?_)
  refine Al (Aj (Ar rfl rfl (EK rfl rfl rfl (fun s0=>?_) fun s0=>?_)))
  ·
   replace a0:=ip a0 s0
   refine o_z ?_
   refine Ah rfl (Al (Aj (Ar rfl rfl (Aw rfl rfl (o_z ?_)))))
   refine AH ?_
   obtain rfl:=sm a0
   obtain rfl:=d0 _ rfl
   obtain rfl:=sm (BV hm)
   replace hB:=hB.st h0
   exact ret1v rfl (AE rfl) ⟨hB.ext,(vInt k1)⟩
  replace a0:=im a0 s0
  refine o_z ?_
  refine Ae rfl (AO ?_)
  obtain rfl:=sm a0
  exact show Exists _ from ⟨_,(),rfl,⟨rfl,rfl,rfl,rfl,rfl,trivial⟩,_,hB.st h0,b0.st h0,c0.st h0⟩
 rintro y1 z1 ⟨a2,b2,rfl,t0,c2,hB,b0,c0⟩
 replace hm:=Bl hm
 refine AQ _ t0 ?_
 refine Al (Al (Aj (Ar rfl rfl (AY rfl rfl ?_))))
 have l1:x0.length≤9223372036854775807:=Nat.le_trans b0.len.2.1 b0.len.2.2
 have d2:inI64 (x0.length:Int):=rngNat l1
 refine Ar rfl rfl (AY rfl rfl ?_)
 have m1:x1.length≤9223372036854775807:=Nat.le_trans c0.len.2.1 c0.len.2.2
 have e2:inI64 (x1.length:Int):=rngNat m1
 refine DI rfl rfl rfl (fun u0=>?_) fun u0=>?_
 ·
  replace hm:=ip hm u0
  refine o_z ?_
  refine Ah rfl (Al (Aj (Aw rfl rfl (o_z ?_))))
  refine AH ?_
  obtain rfl:=sm hm
  exact ret1v rfl (AE rfl) ⟨hB.ext,(vInt (show inI64 (-1) from by decide))⟩
 replace hm:=im hm u0
 refine o_z ?_
 refine Ae rfl (AO (Al (Aj (Aw rfl rfl (o_z ?_)))))
 refine AH ?_
 obtain rfl:=sm hm
 exact ret1v rfl (AE rfl) ⟨hB.ext,(vInt (show inI64 (0) from by decide))⟩
noncomputable def Bx (x0:Tsk) (x1:List Swp) (x2:List Int):Option ((List Int)×(List Int)×Err) :=
  bnd (Bk x0 x1) fun q30=>if q30.n≠0 then (some (([]:List Int),([]:List Int),(⟨q30.n⟩:Err))) else (bnd (EZ x0.vars x2) fun q39=>if q39=true then bnd (Ct x2) fun q46=>bnd (lop (ρ:=(List Int)×(List Int)×Err) (fun (s58:(List Int)×(List Int)×Int)=>if s58.2.2 < (x1.length:Int) then (bnd (atI x1 s58.2.2) fun a84=>bnd (Cu a84 s58.1) fun q107=>bnd (BY q107 s58.1) fun q116=>if 0≤q116 then (bnd (chkI (s58.2.2 + 1)) fun n125=>some (.next (s58.1,s58.2.1,n125))) else (bnd (appI 8 s58.2.1 [s58.2.2]) fun u128=>some (.next (q107,u128,0)))) else (some (.brk (s58.1,s58.2.1,s58.2.2)))) (q46,([]:List Int),0)) fun res56=>fin res56 fun (s144:(List Int)×(List Int)×Int)=>some (s144.1,s144.2.1,(⟨0⟩:Err)) else some (([]:List Int),([]:List Int),(⟨2⟩:Err)))
theorem Hh {w:World} {A:Nat→Prop} (hA:∀ k,A k→k < w.heap.size) {vx0:Value} {x0:Tsk} (m1:Vb w A vx0 x0) {vx1:Value} {x1:List Swp} (e0:Vb w A vx1 x1) {vx2:Value} {x2:List Int} (i0:Vb w A vx2 x2) {r:(List Int)×(List Int)×Err} (hm:Bx x0 x1 x2=some r) :
    Fn Tryz.prog 57 [vx0,vx1,vx2] w fun v w'=>Ext w w'∧T3 w' (upA A w w') v r:=by
 obtain ⟨O,hB,n1⟩:=enter hA
 replace m1:=m1.mono n1
 obtain ⟨n4,rfl,v5,v6,v7,v8,rfl,h9,g1,h1,i1⟩:=m1
 obtain ⟨r2,s2,rfl⟩:=h9.form
 obtain ⟨t2,u2,rfl⟩:=g1.form
 obtain ⟨v2,w2,rfl⟩:=h1.form
 obtain ⟨y2,z2,rfl⟩:=i1.form
 replace e0:=e0.mono n1
 obtain ⟨a3,b3,rfl⟩:=e0.form
 replace i0:=i0.mono n1
 obtain ⟨o4,p4,rfl⟩:=i0.form
 refine AK Tryz.func57 rfl Tryz.ntmps57 rfl ?_
 unfold Bx at hm
 refine Al (Aj (Cb 2 O rfl rfl fun g3 j1 k1 g0 s0=>?_))
 replace s0:Lc 2 j1 k1 g3 26 [(.slice r2 x0.vars.length s2),(.slice t2 x0.init.length u2),(.slice v2 x0.goal.length w2),(.slice y2 x0.ops.length z2)]:=s0
 refine Aw rfl rfl (Aw rfl rfl (Aw rfl rfl (o_z ?_)))
 refine Al (Al (Aj (Bi (hl:=rfl) (hc:=(s0.1).cellsAt) rfl rfl ?_)))
 refine Ar rfl rfl ?_
 obtain ⟨h3,i3,hm⟩:=bs hm
 replace e0:=e0.st g0
 replace h9:=h9.st g0
 replace g1:=g1.st g0
 replace h1:=h1.st g0
 replace i1:=i1.st g0
 refine Bn (O:=k1) (A:=All j1) (R:=fun w' F v=>Vb w' F v h3) (DS (fun _ h=>h) (Vb.mono (F:=Fr 0 j1 k1) (Vb.ofAgg (cs:=[(.slice r2 x0.vars.length s2),(.slice t2 x0.init.length u2),(.slice v2 x0.goal.length w2),(.slice y2 x0.ops.length z2)]) (x:=x0) rfl ⟨_,_,_,_,rfl,h9,g1,h1,i1⟩) Fr.lt) (Vb.mono (F:=Fr 0 j1 k1) e0 Fr.lt) i3) rfl rfl fun q4 t0 u0 k0 j3=>?_
 obtain ⟨rfl,k3⟩:=j3.err
 refine Aw rfl rfl (o_z ?_)
 refine Al (Aj (Ar rfl rfl (DJ rfl rfl (fun o1=>?_) fun o1=>?_)))
 ·
  replace hm:=ip hm o1
  refine o_z ?_
  refine Ah rfl (Al (Aj (Ar rfl rfl (Aw rfl rfl (Aw rfl rfl (Aw rfl rfl (o_z ?_)))))))
  refine AH ?_
  obtain rfl:=sm hm
  replace hB:=(hB.st g0).st k0
  exact ret3 rfl (AE rfl) (AE rfl) (AE rfl) ⟨hB.ext,_,_,_,rfl,(Vb.mono (F:=Fr 0 t0 u0) (Vb.nil _ _) hB.out),(Vb.mono (F:=Fr 0 t0 u0) (Vb.nil _ _) hB.out),(vErr k3)⟩
 replace hm:=im hm o1
 refine o_z ?_
 refine Ae rfl (AO (Al (Al (Aj (AJ rfl rfl ?_)))))
 replace s0:=s0.st k0
 refine AG (hc:=Blk.cell (i:=0) (s0.1) rfl) rfl rfl ?_
 refine Ar rfl rfl ?_
 obtain ⟨c3,l3,hm⟩:=bs hm
 replace i0:=(i0.st g0).st k0
 replace h9:=h9.st k0
 refine Bn (O:=u0) (A:=All t0) (R:=fun w' F v=>Vb w' F v c3) (KB (fun _ h=>h) (Vb.mono (F:=Fr 0 t0 u0) h9 Fr.lt) (Vb.mono (F:=Fr 0 t0 u0) i0 Fr.lt) l3) rfl rfl fun r4 d3 p1 v0 m3=>?_
 obtain rfl:=m3.bool
 cases c3
 case false =>
  replace hm:=iF hm
  refine Cr rfl rfl (o_z ?_)
  refine Ah rfl (Al (Aj (MH rfl rfl ?_)))
  refine Aw rfl rfl (Aw rfl rfl (Aw rfl rfl (o_z ?_)))
  refine AH ?_
  obtain rfl:=sm hm
  replace hB:=((hB.st g0).st k0).st v0
  exact ret3 rfl (AE rfl) (AE rfl) (AE rfl) ⟨hB.ext,_,_,_,rfl,(Vb.mono (F:=Fr 0 d3 p1) (Vb.nil _ _) hB.out),(Vb.mono (F:=Fr 0 d3 p1) (Vb.nil _ _) hB.out),(vErr (by decide))⟩
 replace hm:=iT hm
 refine Cq rfl rfl (o_z ?_)
 refine Ae rfl (AO (Al (Aj (Ar rfl rfl ?_))))
 obtain ⟨s4,n3,hm⟩:=bs hm
 replace i0:=i0.st v0
 refine HM 3 (by decide) (O:=p1) (EO Fr.lt i0 n3) rfl rfl fun o3 p3 t4 u4 q1 r1=>?_
 refine Aw rfl rfl (o_z ?_)
 refine Al (Aj (Aw rfl rfl (o_z ?_)))
 refine Al (Al (Aj (Aw rfl rfl (o_z ?_))))
 obtain ⟨w0,s1,hm⟩:=bs hm
 refine AL (aft w0 (fun (c0:(List Int)×(List Int)×Int) (b0:(Option Addr×Nat)×(Option Addr×Nat))=>[(10,(.slice b0.1.1 c0.1.length b0.1.2)),(11,(.slice b0.2.1 c0.2.1.length b0.2.2))]) (fun c0 b0 w'=>∃ O':Lab,Bs w A w' O'∧Vb w' (Fr 0 w' O') (.slice b0.1.1 c0.1.length b0.1.2) c0.1∧Rw 4 w' O' 3 (.slice b0.2.1 c0.2.1.length b0.2.2) c0.2.1∧inI64 c0.2.2)) ?_ ?_
 ·
  refine Bb ?_
  obtain ⟨q3,e3,r1⟩:=r1.freeze
  replace hB:=((((hB.st g0).st k0).st v0).st q1).st e3
  replace e0:=(((e0.st k0).st v0).st q1).st e3
  refine Gb (σ:=(List Int)×(List Int)×Int) (X:=(Option Addr×Nat)×(Option Addr×Nat)) s1 (fun (c0:(List Int)×(List Int)×Int) (b0:(Option Addr×Nat)×(Option Addr×Nat))=>[(1,(.slice a3 x1.length b3)),(10,(.slice b0.1.1 c0.1.length b0.1.2)),(11,(.slice b0.2.1 c0.2.1.length b0.2.2)),(12,(.int .i64 c0.2.2))]) _ (fun c0 b0 w'=>∃ O':Lab,Bs w A w' O'∧Vb w' (Fr 0 w' O') (.slice a3 x1.length b3) x1∧Vb w' (Fr 0 w' O') (.slice b0.1.1 c0.1.length b0.1.2) c0.1∧Rw 4 w' O' 3 (.slice b0.2.1 c0.2.1.length b0.2.2) c0.2.1∧inI64 c0.2.2) _ ((o3,p3),(none,0)) ⟨q3,hB,e0,r1,(Rw.nil 4 (by decide)),(show inI64 (0) from by decide)⟩ ⟨rfl,rfl,rfl,rfl,trivial⟩ ?_
  rintro c0 b0 v4 r3 ⟨s3,hB,e0,h0,j0,t1⟩ a0 u1 l0
  refine Al (Al (Aj (Ar rfl rfl (Ar rfl rfl (AY rfl rfl ?_)))))
  have t3:x1.length≤9223372036854775807:=Nat.le_trans e0.len.2.1 e0.len.2.2
  have w4:inI64 (x1.length:Int):=rngNat t3
  refine DI rfl rfl rfl (fun v1=>?_) fun v1=>?_
  ·
   replace a0:=ip a0 v1
   refine o_z ?_
   refine Ah rfl (AO (Bb (Al (Aj (Ar rfl rfl (Ar rfl rfl ?_))))))
   obtain ⟨l1,u3,a0⟩:=bs a0
   obtain ⟨v3,w3⟩:=AZ u3
   obtain ⟨x4,y4,x3,w1,y1,z1,z4,a5,b5,rfl,f3,y0,z0⟩:=e0.elem' w3
   obtain ⟨y3,a2,rfl⟩:=f3.form
   obtain ⟨b2,c2,rfl⟩:=y0.form
   obtain ⟨d2,e2,rfl⟩:=z0.form
   refine BJ (hA:=w1) (hj:=(Int.toNat_of_nonneg v3).symm) (hlt:=y1) rfl rfl rfl ?_
   refine Bi (hl:=rfl) (hc:=z1) rfl rfl ?_
   refine Ar rfl rfl ?_
   obtain ⟨f2,g2,a0⟩:=bs a0
   refine Bw (O:=s3) (R:=fun w' F v=>Vb w' F v f2) (IS Fr.lt (Vb.ofAgg (cs:=[(.slice y3 l1.vars.length a2),(.slice b2 l1.vals.length c2),(.slice d2 l1.ops.length e2)]) (x:=l1) rfl ⟨_,_,_,rfl,f3,y0,z0⟩) h0 g2) rfl rfl fun z3 m0 n0 f0 o0=>?_
   obtain ⟨h2,i2,rfl⟩:=o0.form
   refine Aw rfl rfl (o_z ?_)
   refine Al (Al (Aj (Ar rfl rfl (Ar rfl rfl ?_))))
   obtain ⟨j2,k2,a0⟩:=bs a0
   replace h0:=h0.st f0
   refine Bn (O:=n0) (A:=All m0) (R:=fun w' F v=>Vb w' F v j2) (FX (fun _ h=>h) (Vb.mono (F:=Fr 0 m0 n0) o0 Fr.lt) (Vb.mono (F:=Fr 0 m0 n0) h0 Fr.lt) k2) rfl rfl fun a4 b4 c4 d0 l2=>?_
   obtain ⟨rfl,d4⟩:=l2.int
   refine FU rfl rfl rfl (fun p0=>?_) fun p0=>?_
   ·
    replace a0:=ip a0 p0
    refine o_z ?_
    refine Ah rfl (Al (Aj (Ar rfl rfl ?_)))
    obtain ⟨e4,a1,a0⟩:=bs a0
    have m2:=(CH a1)
    refine Hd (he:=a1) rfl rfl rfl ?_
    refine Aw rfl rfl (o_z ?_)
    refine DM ?_
    obtain rfl:=sm a0
    exact show Exists _ from ⟨_,((b0.1.1,b0.1.2),(b0.2.1,b0.2.2)),rfl,⟨rfl,rfl,rfl,rfl,trivial⟩,_,(hB.st f0).st d0,(e0.st f0).st d0,h0.st d0,(j0.st f0).st d0,m2⟩
   replace a0:=im a0 p0
   refine o_z ?_
   refine Ae rfl (AO (Aj (Ar rfl rfl (Ar rfl rfl (Ar rfl rfl ?_)))))
   obtain ⟨f4,q0,a0⟩:=bs a0
   obtain ⟨q0,n2,o2⟩:=CC q0
   replace j0:=(j0.st f0).st d0
   refine Ed rfl (a:=c0.2.2) j0 (vInt t1) (fun _=>rfl) rfl (by decide) (by decide) n2 o2 ⟨rfl,rfl⟩ fun g4 p2 q2 h4 i4 r0 b1=>?_
   rw [← q0] at b1 ⊢
   refine Aw rfl rfl (Aw rfl rfl (Aw rfl rfl (o_z ?_)))
   obtain rfl:=sm a0
   exact show Exists _ from ⟨_,((h2,i2),(p2,q2)),rfl,⟨rfl,rfl,rfl,rfl,trivial⟩,_,((hB.st f0).st d0).st r0,((e0.st f0).st d0).st r0,(o0.st d0).st r0,b1,(show inI64 (0) from by decide)⟩
  replace a0:=im a0 v1
  refine o_z ?_
  refine Ae rfl (DM ?_)
  obtain rfl:=sm a0
  exact show Exists _ from ⟨_,((b0.1.1,b0.1.2),(b0.2.1,b0.2.2)),l0 _ rfl,⟨rfl,rfl,trivial⟩,_,hB,h0,j0,t1⟩
 replace hB:=(((hB.st g0).st k0).st v0).st q1
 rintro j4 c1 ⟨k4,l4,rfl,d1,m4,hB,h0,j0,t1⟩
 replace hm:=Bl hm
 refine AQ _ d1 ?_
 refine Al (Aj (Ar rfl rfl (Ar rfl rfl (Aw rfl rfl (Aw rfl rfl (Aw rfl rfl (o_z ?_)))))))
 refine AH ?_
 obtain ⟨e1,f1,j0⟩:=j0.freeze
 obtain rfl:=sm hm
 replace hB:=hB.st f1
 replace h0:=h0.st f1
 exact ret3 rfl (AE rfl) (AE rfl) (AE rfl) ⟨hB.ext,_,_,_,rfl,(Vb.mono (F:=Fr 0 c1 e1) h0 hB.out),(Vb.mono (F:=Fr 0 c1 e1) j0 hB.out),(vErr (show inI64 0 from by decide))⟩
end
section
open Go Go.RowKit
attribute [local irreducible] ewp owp hwp hwq hws Ev Evg Fn retPost loud loudS Res1
attribute [local irreducible] hwx loudX
noncomputable def Eb (x0:List Int) (x1:List Int):Option Bool :=
  bnd (rng (ρ:=Bool) (fun (k13:Nat) (a14:Int) (s11:Unit)=>bnd (x1[k13]?) fun a32=>if a14≠a32 then (bnd (bnd (x1[k13]?) fun a55=>if a14 < a55 then (some true) else (some false):Option Bool) fun y43=>some (.ret y43)) else (some (.next ()))) x0 0 ()) fun res9=>fin res9 fun (s74:Unit)=>some false
noncomputable def ER (x0:List Swp) (x1:List Int):Option ((List Int)×(List Int)) :=
  bnd (lop (ρ:=(List Int)×(List Int)) (fun (s9:(List Int)×(List Int))=>bnd (rng (ρ:=Ctl ((List Int)×(List Int)) ((List Int)×(List Int))) (fun (k34:Nat) (a35:Swp) (s32:Int)=>bnd (if s32 < 0 then (bnd (DC a35 s9.1) fun q71=>bnd (Eb q71 s9.1) fun q80=>if q80=true then some true else some false) else (some false):Option Bool) fun y47=>if y47=true then (some (.next (k34:Int))) else (some (.next s32))) x0 0 (-1)) fun res30=>fin res30 fun (s96:Int)=>if s96 < 0 then (some (.ret (s9.1,s9.2))) else (bnd (atI x0 s96) fun a101=>bnd (DC a101 s9.1) fun q124=>bnd (appI 8 s9.2 [s96]) fun u133=>some (.next (q124,u133)))) (x1,([]:List Int))) fun res7=>fin res7 fun (_:(List Int)×(List Int))=>none
end
section
open Go Go.RowKit
def effsOn (s:List Int):List Eff→List Int→List Int
  | [],out=>out
  | e :: r,out=>effsOn s r (if holdsB e.cond s=true then out.set e.var.toNat e.val else out)
theorem Hw (s:List Int):∀ (a b:List Eff) (out:List Int),effsOn s (a ++ b) out=effsOn s b (effsOn s a out)
  | [],_,_=>rfl
  | e :: a,b,out=>by simp [effsOn,Hw s a b]
theorem Hx (s:List Int):∀ (a:List Eff) (out:List Int),(effsOn s a out).length=out.length
  | [],_=>rfl
  | e :: a,out=>by
    rw [effsOn,Hx s a]
    split<;>simp
theorem LQ (s:List Int) {l:List Eff} {k:Nat} {e:Eff} (h:l[k]?=some e) (out:List Int):effsOn s (l.take (k + 1)) out=if holdsB e.cond s=true then (effsOn s (l.take k) out).set e.var.toNat e.val else effsOn s (l.take k) out:=by
  rw [List.take_add_one,h,Hw];rfl
def EffsIn (s:List Int) (l:List Eff):Prop:=∀ (i:Nat) e,l[i]?=some e→0≤e.var∧e.var < s.length
def succ (o:Opr) (s:List Int):List Int:=effsOn s o.effs s
end
section
open Go Go.RowKit
attribute [local irreducible] ewp owp hwp hwq hws Ev Evg Fn retPost loud loudS Res1
theorem cloneInts {w:World} {sv:Value} {xs:List Int} (hs:V w sv xs) (hl:xs.length * 8≤140737488355328) :
    Fn Tryz.prog 66 [sv] w fun v w'=>Own w' w.heap.size (All w) 3 v xs∧Ext w w':=by
  obtain ⟨A,c,rfl⟩:=hs.form
  refine AK Tryz.func66 rfl Tryz.ntmps66 rfl ?_
  cases A with
  | none =>
    have hx:xs=[]:=by
      cases xs with
      | nil=>rfl
      | cons x xs=>obtain ⟨_,_,_,h,_⟩:=hs.elem (k:=0) (x:=x) rfl;cases h
    subst hx
    ((repeat (first|refine At ?_|refine Ah rfl ?_|refine Ae rfl ?_))<;>(refine Aw rfl rfl ?_<;>(refine o_z ?_))<;>(repeat (first|refine At ?_|refine Ah rfl ?_|refine Ae rfl ?_))<;>(refine Ar rfl rfl ?_<;>refine JP rfl rfl ?_<;>(refine o_z ?_))<;>(repeat (first|refine At ?_|refine Ah rfl ?_|refine Ae rfl ?_))<;>(refine Aw rfl rfl ?_<;>(refine o_z ?_))<;>(repeat (first|refine At ?_|refine Ah rfl ?_|refine Ae rfl ?_)))
    exact ret1 rfl rfl ⟨Own.nil _ _ _ _,Below.refl _ _⟩
  | some ad =>
    ((repeat (first|refine At ?_|refine Ah rfl ?_|refine Ae rfl ?_))<;>(refine Aw rfl rfl ?_<;>(refine o_z ?_))<;>(repeat (first|refine At ?_|refine Ah rfl ?_|refine Ae rfl ?_))<;>(refine Ar rfl rfl ?_<;>refine JP rfl rfl ?_<;>(refine o_z ?_))<;>(repeat (first|refine At ?_|refine Ah rfl ?_|refine Ae rfl ?_)))
    refine Ds rfl rfl rfl (by simp) (by decide) rfl fun w1 hN=>?_
    have hE:=hN.ext
    have hown:Own w1 w.heap.size (All w) 3 (.slice (some ⟨w.heap.size,0,none⟩) 0 0) ([]:List Int):=Own.made hN rfl rfl (Nat.lt_irrefl _) (by decide)
    (refine Ar rfl rfl ?_)
    refine GG rfl rfl rfl hown (fun k hk=>Nat.lt_of_lt_of_le hk hE.size) hE.size (Vb.agree hs (hE.agree fun _ h=>h)) (by decide) (by simpa using hl) (by simp;omega) rfl fun v' w2 ho hK=>?_
    (refine Aw rfl rfl ?_<;>(refine o_z ?_))
    repeat (first|refine At ?_|refine Ah rfl ?_|refine Ae rfl ?_)
    refine ret1 rfl rfl ⟨by simpa using ho,hE.trans (hown.fits (Nat.le_refl _) hE.size hK)⟩
theorem cloneFacts {w:World} {sv:Value} {xs:List Fct} (hs:V w sv xs) (hl:xs.length * 16≤140737488355328) :
    Fn Tryz.prog 81 [sv] w fun v w'=>Own w' w.heap.size (All w) 45 v xs∧Ext w w':=by
  obtain ⟨A,c,rfl⟩:=hs.form
  refine AK Tryz.func81 rfl Tryz.ntmps81 rfl ?_
  cases A with
  | none =>
    have hx:xs=[]:=by
      cases xs with
      | nil=>rfl
      | cons x xs=>obtain ⟨_,_,_,h,_⟩:=hs.elem (k:=0) (x:=x) rfl;cases h
    subst hx
    ((repeat (first|refine At ?_|refine Ah rfl ?_|refine Ae rfl ?_))<;>(refine Aw rfl rfl ?_<;>(refine o_z ?_))<;>(repeat (first|refine At ?_|refine Ah rfl ?_|refine Ae rfl ?_))<;>(refine Ar rfl rfl ?_<;>refine JP rfl rfl ?_<;>(refine o_z ?_))<;>(repeat (first|refine At ?_|refine Ah rfl ?_|refine Ae rfl ?_))<;>(refine Aw rfl rfl ?_<;>(refine o_z ?_))<;>(repeat (first|refine At ?_|refine Ah rfl ?_|refine Ae rfl ?_)))
    exact ret1 rfl rfl ⟨Own.nil _ _ _ _,Below.refl _ _⟩
  | some ad =>
    ((repeat (first|refine At ?_|refine Ah rfl ?_|refine Ae rfl ?_))<;>(refine Aw rfl rfl ?_<;>(refine o_z ?_))<;>(repeat (first|refine At ?_|refine Ah rfl ?_|refine Ae rfl ?_))<;>(refine Ar rfl rfl ?_<;>refine JP rfl rfl ?_<;>(refine o_z ?_))<;>(repeat (first|refine At ?_|refine Ah rfl ?_|refine Ae rfl ?_)))
    refine Ds rfl rfl rfl (by simp) (by decide) rfl fun w1 hN=>?_
    have hE:=hN.ext
    have hown:Own w1 w.heap.size (All w) 45 (.slice (some ⟨w.heap.size,0,none⟩) 0 0) ([]:List Fct):=Own.made hN rfl rfl (Nat.lt_irrefl _) (by decide)
    (refine Ar rfl rfl ?_)
    refine GG rfl rfl rfl hown (fun k hk=>Nat.lt_of_lt_of_le hk hE.size) hE.size (Vb.agree hs (hE.agree fun _ h=>h)) (by decide) (by simpa using hl) (by simp;omega) rfl fun v' w2 ho hK=>?_
    (refine Aw rfl rfl ?_<;>(refine o_z ?_))
    repeat (first|refine At ?_|refine Ah rfl ?_|refine Ae rfl ?_)
    refine ret1 rfl rfl ⟨by simpa using ho,hE.trans (hown.fits (Nat.le_refl _) hE.size hK)⟩
def applK (t:Tsk) (s:List Int) (k:Nat):List Int:=((List.range k).filter fun i=>match t.ops[i]? with|some o=>holdsB o.pre s|none=>false).map fun i:Nat=>(i:Int)
def appl (t:Tsk) (s:List Int):List Int:=applK t s t.ops.length
theorem Nq (t:Tsk) (s:List Int) (k:Nat):(applK t s k).length≤k:=by
  unfold applK
  rw [List.length_map]
  exact Nat.le_trans (List.length_filter_le _ _) (by simp)
end
section
open Go Go.RowKit
attribute [local irreducible] ewp owp hwp hwq hws Ev Evg Fn retPost loud loudS Res1
inductive Tr where
  | nil
  | leaf (ops:List Int)
  | node (nx many:Nat) (vals:Nat→Tr) (rest:Tr)
def TrR (w:World) (F:Nat→Prop):Tr→Value→Prop
  | .nil,p=>p=.pointer none
  | .leaf ops,p=>∃ g ov,p=.pointer (some ⟨g,0,none⟩)∧F g∧Blk w g 144 [ov,.bool true,.int .i64 0,.slice none 0 0,.pointer none]∧Vb w F ov ops
  | .node nx k vals rest,p=>∃ g A c rp,p=.pointer (some ⟨g,0,none⟩)∧F g∧Blk w g 144 [.slice none 0 0,.bool false,.int .i64 (nx:Int),.slice A k c,.pointer rp]∧TrR w F rest (.pointer rp) ∧
      ∀ i,i < k→∃ b o q,A=some ⟨b,o,none⟩∧F b∧w.cell? ⟨b,o + i,none⟩=some (.pointer q)∧TrR w F (vals i) (.pointer q)
theorem TrR.agree {w w':World} {F:Nat→Prop} (ha:Agree F w w'):∀ {T:Tr} {p:Value},TrR w F T p→TrR w' F T p
  | .nil,_,h=>h
  | .leaf ops,_,⟨g,ov,h1,h2,h3,h4⟩=>⟨g,ov,h1,h2,h3.keep (ha g h2),h4.agree ha⟩
  | .node nx k vals rest,_,⟨g,A,c,rp,h1,h2,h3,h4,h5⟩=>⟨g,A,c,rp,h1,h2,h3.keep (ha g h2),TrR.agree ha h4,fun i hi=>by
      obtain ⟨b,o,q,g1,g2,g3,g4⟩:=h5 i hi
      exact ⟨b,o,q,g1,g2,(ha.cell g2).trans g3,TrR.agree ha g4⟩⟩
theorem TrR.mono {w:World} {F G:Nat→Prop} (hk:∀ k,F k→G k):∀ {T:Tr} {p:Value},TrR w F T p→TrR w G T p
  | .nil,_,h=>h
  | .leaf ops,_,⟨g,ov,h1,h2,h3,h4⟩=>⟨g,ov,h1,hk _ h2,h3,h4.mono hk⟩
  | .node nx k vals rest,_,⟨g,A,c,rp,h1,h2,h3,h4,h5⟩=>⟨g,A,c,rp,h1,hk _ h2,h3,TrR.mono hk h4,fun i hi=>by
      obtain ⟨b,o,q,g1,g2,g3,g4⟩:=h5 i hi
      exact ⟨b,o,q,g1,hk _ g2,g3,TrR.mono hk g4⟩⟩
theorem TrR.form {w:World} {F:Nat→Prop}:∀ {T:Tr} {p:Value},TrR w F T p→∃ q,p=.pointer q
  | .nil,_,h=>⟨none,h⟩
  | .leaf _,_,⟨_,_,h,_⟩=>⟨_,h⟩
  | .node ..,_,⟨_,_,_,_,h,_⟩=>⟨_,h⟩
def atN (s:List Int) (i:Nat):Nat:=(s[i]?.getD 0).toNat
def coll (s:List Int):Tr→List Int
  | .nil=>[]
  | .leaf ops=>ops
  | .node nx _ vals rest=>coll s (vals (atN s nx)) ++ coll s rest
def look (s:List Int):Tr→List Bool→List Bool
  | .nil,l=>l
  | .leaf _,l=>l
  | .node nx _ vals rest,l=>look s rest (look s (vals (atN s nx)) (l.set nx true))
def Fits (s:List Int):Tr→Prop
  | .nil=>True
  | .leaf _=>True
  | .node nx k vals rest=>(∃ x:Nat,s[nx]?=some (x:Int)∧x < k)∧Fits s (vals (atN s nx))∧Fits s rest
theorem FB (s:List Int):∀ (T:Tr) (l:List Bool),(look s T l).length=l.length
  | .nil,_=>rfl
  | .leaf _,_=>rfl
  | .node nx k vals rest,l=>by rw [look,FB s rest,FB s (vals _)];simp
theorem Own.own_ne {α β:Type} [Rp α] [Rp β] {w:World} {b1 b2:Nat} {F G:Nat→Prop} {e1 e2:TypeId} {u v:Value} {xs:List α} {ys:List β} (h:Own w b1 F e1 u xs) (k:Own w b2 G e2 v ys) (hne:e1≠e2):∀ g,u.ownBlock=some g→v.ownBlock≠some g:=by
  intro g hg hv
  obtain ⟨c1,h1,_⟩:=h
  obtain ⟨c2,h2,_⟩:=k
  rcases h1.2 with ⟨rfl,_⟩|⟨g1,cap1,cur1,rfl,_,hh1,_⟩
  · simp [Value.ownBlock] at hg
  · rcases h2.2 with ⟨rfl,_⟩|⟨g2,cap2,cur2,rfl,_,hh2,_⟩
    · simp [Value.ownBlock] at hv
    · have e1':g1=g:=by simpa [Value.ownBlock] using hg
      have e2':g2=g:=by simpa [Value.ownBlock] using hv
      subst e1';subst e2'
      rw [hh1] at hh2
      injection hh2 with hh2
      injection hh2 with _ ht
      exact hne ht
theorem Own.kept {α:Type} [Rp α] {w w':World} {base:Nat} {F:Nat→Prop} {e:TypeId} {v u:Value} {xs:List α} (h:Own w base F e v xs) (hK:Kept w w' u) (hF:∀ k,F k→k < w.heap.size∧u.ownBlock≠some k) (hne:∀ g,v.ownBlock=some g→u.ownBlock≠some g):Own w' base F e v xs :=
  h.agree (fun k hk=>hK.block k (hF k hk).1 (hF k hk).2) fun g hg=>hK.block g (h.lt g hg).2 (hne g hg)
theorem collect (B:Nat) (s:List Int):∀ (T:Tr) (w:World) (p ov sv lv:Value) (out:List Int) (looked:List Bool),B≤w.heap.size→TrR w (· < B) T p→Vb w (· < B) sv s→Own w B (· < B) 3 ov out→Own w B (· < B) 4 lv looked →
    Fits s T→looked.length=s.length→out.length + (coll s T).length≤1000000 →
    Fn Tryz.prog 102 [p,ov,sv,lv] w fun v w'=>Own w' B (· < B) 3 v (out ++ coll s T)∧Own w' B (· < B) 4 lv (look s T looked)∧Below B w w':=by
  intro T
  induction T with
  | nil =>
    intro w p ov sv lv out looked hB hT hs ho hl _ _ hlen
    have hp:p=.pointer none:=hT
    subst hp
    refine AK Tryz.func102 rfl Tryz.ntmps102 rfl ?_
    ((repeat (first|refine At ?_|refine Ah rfl ?_|refine Ae rfl ?_))<;>(refine Aw rfl rfl ?_<;>(refine o_z ?_))<;>(repeat (first|refine At ?_|refine Ah rfl ?_|refine Ae rfl ?_))<;>(refine Ar rfl rfl ?_<;>refine KV rfl rfl ?_<;>(refine o_z ?_))<;>(repeat (first|refine At ?_|refine Ah rfl ?_|refine Ae rfl ?_))<;>(refine Ar rfl rfl ?_<;>refine Aw rfl rfl ?_<;>(refine o_z ?_))<;>(repeat (first|refine At ?_|refine Ah rfl ?_|refine Ae rfl ?_)))
    exact ret1 rfl rfl ⟨by simpa [coll] using ho,hl,Below.refl _ _⟩
  | leaf ops =>
    intro w p ov sv lv out looked hB hT hs ho hl _ _ hlen
    obtain ⟨g,opv',rfl,hg,hb1,hops⟩:=hT
    refine AK Tryz.func102 rfl Tryz.ntmps102 rfl ?_
    ((repeat (first|refine At ?_|refine Ah rfl ?_|refine Ae rfl ?_))<;>(refine Aw rfl rfl ?_<;>(refine o_z ?_))<;>(repeat (first|refine At ?_|refine Ah rfl ?_|refine Ae rfl ?_))<;>(refine Ar rfl rfl ?_<;>refine KV rfl rfl ?_<;>(refine o_z ?_))<;>(repeat (first|refine At ?_|refine Ah rfl ?_|refine Ae rfl ?_))<;>(refine Ar rfl rfl ?_<;>refine Do rfl rfl ?_<;>refine AJ rfl rfl ?_<;>refine AG rfl rfl ?_<;>(refine o_z ?_))<;>(repeat (first|refine At ?_|refine Ah rfl ?_|refine Ae rfl ?_))<;>(refine Ar rfl rfl ?_<;>refine Ar rfl rfl ?_<;>refine Do rfl rfl ?_<;>refine AJ rfl rfl ?_<;>refine AG rfl rfl ?_)<;>(repeat (first|refine At ?_|refine Ah rfl ?_|refine Ae rfl ?_)))
    simp only [coll] at hlen
    refine GG rfl rfl rfl ho (fun k hk=>Nat.lt_of_lt_of_le hk hB) hB hops (by decide) (by omega) (by omega) rfl fun v' w1 ho1 hK=>?_
    (refine Aw rfl rfl ?_<;>(refine o_z ?_))
    repeat (first|refine At ?_|refine Ah rfl ?_|refine Ae rfl ?_)
    refine ret1 rfl rfl ⟨ho1,?_,ho.fits (Nat.le_refl _) hB hK⟩
    exact hl.kept hK (fun k hk=>⟨Nat.lt_of_lt_of_le hk hB,fun he=>by have:=(ho.lt k he).1;have:k < B:=hk;omega⟩) (fun g hg=>hl.own_ne ho (by decide) g hg)
  | node nx k vals rest ih1 ih2 =>
    intro w p ov sv lv out looked hB hT hs ho hl hfit hll hlen
    obtain ⟨g,A,c,rp,rfl,hg,hb1,hrest,hvals⟩:=hT
    obtain ⟨⟨x,hx,hxk⟩,hfit1,hfit2⟩:=hfit
    obtain ⟨bv,ovv,q,rfl,hbv,hcv,hq⟩:=hvals x hxk
    obtain ⟨As,cs,rfl⟩:=hs.form
    obtain ⟨bs,os,ce,rfl,hbs,_,hds,rfl,_⟩:=hs.elem hx
    have hnx:=BG hx
    have hat:atN s nx=x:=by simp [atN,hx]
    obtain ⟨gl,capl,_,_,rfl,_⟩:=hl.open (by omega)
    refine AK Tryz.func102 rfl Tryz.ntmps102 rfl ?_
    have hll':nx < looked.length:=by omega
    ((repeat (first|refine At ?_|refine Ah rfl ?_|refine Ae rfl ?_))<;>(refine Aw rfl rfl ?_<;>(refine o_z ?_))<;>(repeat (first|refine At ?_|refine Ah rfl ?_|refine Ae rfl ?_))<;>(refine Ar rfl rfl ?_<;>refine KV rfl rfl ?_<;>(refine o_z ?_))<;>(repeat (first|refine At ?_|refine Ah rfl ?_|refine Ae rfl ?_))<;>(refine Ar rfl rfl ?_<;>refine Do rfl rfl ?_<;>refine AJ rfl rfl ?_<;>refine AG rfl rfl ?_<;>(refine o_z ?_))<;>(repeat (first|refine At ?_|refine Ah rfl ?_|refine Ae rfl ?_))<;>(refine Ar rfl rfl ?_<;>refine Ar rfl rfl ?_<;>refine Do rfl rfl ?_<;>refine AJ rfl rfl ?_<;>refine AG rfl rfl ?_<;>refine CQ rfl rfl rfl ?_)<;>(repeat (first|refine At ?_|refine Ah rfl ?_|refine Ae rfl ?_)))
    refine IA (i:=nx) (a:=true) rfl rfl rfl hl hll' (show Vb w (· < B) (.bool true) true from rfl) fun w1 hl1 hK1 hz1=>?_
    have hB1:Below B w w1:=hl.fits (Nat.le_refl _) hB hK1
    have ho1:Own w1 B (· < B) 3 ov out:=ho.kept hK1 (fun k hk=>⟨Nat.lt_of_lt_of_le hk hB,fun he=>by have:=(hl.lt k he).1;have:k < B:=hk;omega⟩) (fun g hg=>ho.own_ne hl (by decide) g hg)
    ((refine o_z ?_))
    repeat (first|refine At ?_|refine Ah rfl ?_|refine Ae rfl ?_)
    have hag:∀ w',Below B w1 w'→Agree (· < B) w w':=fun w' h k hk=>(hB1.trans h).block k hk
    replace hb1:∀ w',Below B w1 w'→Blk w' g 144 [.slice none 0 0,.bool false,.int .i64 (nx:Int),.slice (some ⟨bv,ovv,none⟩) k c,.pointer rp]:=fun w' h=>hb1.keep (hag w' h g hg)
    have hd1:∀ w',Below B w1 w'→cellsAt w' bs (os + nx * 1) [.int .i64 (x:Int)]:=fun w' h=>AU (hag w' h) hbs hds
    have hc1:∀ w',Below B w1 w'→w'.cell? ⟨bv,ovv + x * 1,none⟩=some (.pointer q):=fun w' h=>by rw [Nat.mul_one];exact ((hag w' h).cell hbv).trans hcv
    refine Cw (Below B w1) [(0,true),(1,true),(2,true),(3,true),(4,true),(5,true),(6,true),(7,true),(8,true),(9,true),(10,true),(11,true),(12,true),(13,true),(14,true),(15,true),(16,true),(17,true),(18,true),(19,true),(21,true),(22,true),(20,false),(23,false),(24,true)] (by kernel_rfl) rfl (by kernel_rfl) (Below.refl _ _) ?_
    (refine AN rfl rfl rfl ?_<;>refine Dr rfl rfl rfl ?_<;>refine Be rfl rfl rfl ?_<;>(first|refine Eg rfl rfl rfl ?_|refine AW rfl rfl rfl ?_)<;>refine AN rfl rfl rfl ?_<;>refine Dr rfl rfl rfl ?_<;>refine Be rfl rfl rfl ?_<;>(first|refine Eg rfl rfl rfl ?_|refine AW rfl rfl rfl ?_)<;>refine AN rfl rfl rfl ?_<;>refine AN rfl rfl rfl ?_<;>refine Dr rfl rfl rfl ?_<;>refine Be rfl rfl rfl ?_<;>(first|refine Eg rfl rfl rfl ?_|refine AW rfl rfl rfl ?_)<;>refine HL rfl rfl rfl rfl ?_<;>(first|refine Eg rfl rfl rfl ?_|refine AW rfl rfl rfl ?_)<;>refine HL rfl rfl rfl rfl ?_<;>(first|refine Eg rfl rfl rfl ?_|refine AW rfl rfl rfl ?_)<;>refine AN rfl rfl rfl ?_<;>refine AN rfl rfl rfl ?_<;>refine AN rfl rfl rfl ?_<;>refine AN rfl rfl rfl ?_<;>refine AN rfl rfl rfl ?_)
    refine BT rfl ?_
    simp only [coll,hat,List.length_append] at hlen
    refine By rfl rfl (ih1 x w1 (.pointer q) ov _ _ out (looked.set nx true) (Nat.le_trans hB hB1.size) (TrR.agree (hag w1 (Below.refl _ _)) hq) (hs.agree (hag w1 (Below.refl _ _))) ho1 hl1 (hat ▸ hfit1) (by simpa using hll) (by omega)) ?_
    rintro v2 w2 ⟨ho2,hl2,hB2⟩
    refine Cl hB2 ?_
    refine BT rfl ?_
    refine By rfl rfl (ih2 w2 (.pointer rp) v2 _ _ (out ++ coll s (vals x)) (look s (vals x) (looked.set nx true)) (Nat.le_trans hB (hB1.trans hB2).size) (TrR.agree (hag w2 hB2) hrest) (hs.agree (hag w2 hB2)) ho2 hl2 hfit2 (by rw [FB];simpa using hll) (by rw [List.length_append];omega)) ?_
    rintro v3 w3 ⟨ho3,hl3,hB3⟩
    refine Cl (hB2.trans hB3) ?_
    (refine Fa rfl rfl rfl ?_<;>(refine h_z ?_))
    repeat (first|refine At ?_|refine Ah rfl ?_|refine Ae rfl ?_)
    exact ret1 rfl rfl ⟨by simpa [coll,hat] using ho3,by simpa [look,hat] using hl3,hB1.trans (hB2.trans hB3)⟩
end
section
open Go.Shelf
def Tryz.lays189_ren:Go.Shelf.Ren:=⟨fun|189=>103|125=>105|257=>107|128=>116|129=>117|294=>118|295=>119|296=>120|297=>121|298=>122|299=>123|216=>124|300=>125|301=>126|328=>132|329=>128|330=>129|331=>133|332=>134|215=>106|343=>136|n=>n,fun|28=>22|3=>3|46=>166|0=>0|51=>176|53=>178|4=>4|183=>170|182=>169|131=>86|5=>5|9=>9|218=>184|222=>188|228=>192|229=>193|n=>n,fun|n=>n⟩
theorem Tryz.lays189:Go.Proofs.Lays.n189 Tryz.prog Tryz.lays189_ren:={
  mixed:=by kernel_rfl
  f125:=Tryz.func105.trans (congrArg some (by kernel_rfl))
  f128:=Tryz.func116.trans (congrArg some (by kernel_rfl))
  f129:=Tryz.func117.trans (congrArg some (by kernel_rfl))
  f189:=Tryz.func103.trans (congrArg some (by kernel_rfl))
  f215:=Tryz.func106.trans (congrArg some (by kernel_rfl))
  f216:=Tryz.func124.trans (congrArg some (by kernel_rfl))
  f257:=Tryz.func107.trans (congrArg some (by kernel_rfl))
  f294:=Tryz.func118.trans (congrArg some (by kernel_rfl))
  f295:=Tryz.func119.trans (congrArg some (by kernel_rfl))
  f296:=Tryz.func120.trans (congrArg some (by kernel_rfl))
  f297:=Tryz.func121.trans (congrArg some (by kernel_rfl))
  f298:=Tryz.func122.trans (congrArg some (by kernel_rfl))
  f299:=Tryz.func123.trans (congrArg some (by kernel_rfl))
  f300:=Tryz.func125.trans (congrArg some (by kernel_rfl))
  f301:=Tryz.func126.trans (congrArg some (by kernel_rfl))
  f328:=Tryz.func132.trans (congrArg some (by kernel_rfl))
  f329:=Tryz.func128.trans (congrArg some (by kernel_rfl))
  f330:=Tryz.func129.trans (congrArg some (by kernel_rfl))
  f331:=Tryz.func133.trans (congrArg some (by kernel_rfl))
  f332:=Tryz.func134.trans (congrArg some (by kernel_rfl))
  f343:=Tryz.func136.trans (congrArg some (by kernel_rfl))
  t0:=Tryz.underlying0
  a0:=Tryz.isAgg0
  z0:=Tryz.sizeOf0
  v0:=Tryz.zeroValue0
  t3:=Tryz.underlying3
  a3:=Tryz.isAgg3
  z3:=Tryz.sizeOf3
  v3:=Tryz.zeroValue3
  t4:=Tryz.underlying4
  a4:=Tryz.isAgg4
  z4:=Tryz.sizeOf4
  v4:=Tryz.zeroValue4
  t5:=Tryz.underlying5
  a5:=Tryz.isAgg5
  z5:=Tryz.sizeOf5
  v5:=Tryz.zeroValue5
  t9:=Tryz.underlying9
  a9:=Tryz.isAgg9
  z9:=Tryz.sizeOf9
  v9:=Tryz.zeroValue9
  t28:=Tryz.underlying22
  a28:=Tryz.isAgg22
  z28:=Tryz.sizeOf22
  v28:=Tryz.zeroValue22
  t46:=Tryz.underlying166
  a46:=Tryz.isAgg166
  z46:=Tryz.sizeOf166
  v46:=Tryz.zeroValue166
  t51:=Tryz.underlying176
  a51:=Tryz.isAgg176
  z51:=Tryz.sizeOf176
  v51:=Tryz.zeroValue176
  t53:=Tryz.underlying178
  a53:=Tryz.isAgg178
  z53:=Tryz.sizeOf178
  v53:=Tryz.zeroValue178
  t131:=Tryz.underlying86
  a131:=Tryz.isAgg86
  z131:=Tryz.sizeOf86
  v131:=Tryz.zeroValue86
  t182:=Tryz.underlying169
  a182:=Tryz.isAgg169
  z182:=Tryz.sizeOf169
  v182:=Tryz.zeroValue169
  t183:=Tryz.underlying170
  a183:=Tryz.isAgg170
  z183:=Tryz.sizeOf170
  v183:=Tryz.zeroValue170
  t218:=Tryz.underlying184
  a218:=Tryz.isAgg184
  z218:=Tryz.sizeOf184
  v218:=Tryz.zeroValue184
  t222:=Tryz.underlying188
  a222:=Tryz.isAgg188
  z222:=Tryz.sizeOf188
  v222:=Tryz.zeroValue188
  t228:=Tryz.underlying192
  a228:=Tryz.isAgg192
  z228:=Tryz.sizeOf192
  v228:=Tryz.zeroValue192
  t229:=Tryz.underlying193
  a229:=Tryz.isAgg193
  z229:=Tryz.sizeOf193
  v229:=Tryz.zeroValue193 }
open Go.Sort Go.RowKit in
theorem Tryz.slices_Sort_int (blk off cap:Nat) (zs:List Int) (w:World) (hH:Holds (Value.int .i64) w blk off zs.toArray) (hblk:blk < w.heap.size) (hsz:zs.length < 4611686018427387904) :
    Calls Tryz.prog 103 #[.slice (some ⟨blk,off,none⟩) zs.length cap] w fun e w' =>
      e=.returned (.tuple #[])∧∃ n os,w'=grow (putRow (Value.int .i64) (Sort.ahead w n) blk off (zs.mergeSort fun x y=>decide (x≤y)).toArray) os:=Any.slices_Sort_int Tryz.lays189 blk off cap zs w hH hblk hsz
open Go.RowKit Go.Sort in
theorem Tryz.slices_Sort_int_none (p:Option Addr) (cap:Nat) (w:World) :
    Calls Tryz.prog 103 #[.slice p 0 cap] w fun e w'=>e=.returned (.tuple #[])∧w'=w:=Any.slices_Sort_int_none Tryz.lays189 p cap w
end
section
open Go Go.RowKit
def sortL (xs:List Int):List Int:=xs.mergeSort fun x y=>decide (x≤y)
theorem Dz (xs:List Int):(sortL xs).length=xs.length:=List.length_mergeSort xs
theorem Hy {w:World} {F:Nat→Prop}:∀ {xs:List Int} {cells:List Value},Chunks w F cells xs→cells=xs.map (Value.int .i64)∧∀ x∈xs,inI64 x
  | [],_,h=>⟨h,fun _ hx=>by simp at hx⟩
  | x :: xs,cells,⟨cs,rest,he,hr,hc⟩=>by
    obtain ⟨h1,h2⟩:=Hy hc
    obtain ⟨h3,h4⟩:=hr
    refine ⟨by rw [he,h3,h1];rfl,fun y hy=>?_⟩
    rcases List.mem_cons.1 hy with rfl|hy
    · exact h4
    · exact h2 y hy
theorem Hz {w:World} {F:Nat→Prop}:∀ {xs:List Int},(∀ x∈xs,inI64 x)→Chunks w F (xs.map (Value.int .i64)) xs
  | [],_=>rfl
  | x :: xs,h=>⟨[.int .i64 x],xs.map (Value.int .i64),rfl,⟨rfl,h x (by simp)⟩,Hz fun y hy=>h y (by simp [hy])⟩
theorem sortInts {w:World} {base:Nat} {F:Nat→Prop} {v:Value} {xs:List Int} (h:Own w base F 3 v xs) (hl:xs.length≤1000000) :
    Fn Tryz.prog 103 [v] w fun r w'=>r=.tuple #[]∧Own w' base F 3 v (sortL xs)∧Kept w w' v:=by
  intro d
  rcases Nat.eq_zero_or_pos xs.length with h0|h0
  · have hx:xs=[]:=List.eq_nil_of_length_eq_zero h0
    subst hx
    have hv:∃ p c,v=.slice p 0 c:=by
      obtain ⟨cells,h1,_⟩:=h
      rcases h1.2 with ⟨rfl,_⟩|⟨g,cap,cur,rfl,_⟩
      · exact ⟨_,_,rfl⟩
      · exact ⟨_,_,rfl⟩
    obtain ⟨p,c,rfl⟩:=hv
    refine (Tryz.slices_Sort_int_none p c (dr w d)).mono fun e w' ⟨he,hw⟩=>⟨_,w,d,he,hw,rfl,by simpa [sortL] using h,⟨rfl,rfl,rfl,Nat.le_refl _,fun _ _ _=>rfl⟩⟩
  · obtain ⟨g,cap,cells,sp,rfl,hg,hFg,hb,hc,hlen,hnc,hcm,htot⟩:=h.open h0
    obtain ⟨rfl,hin⟩:=Hy hc
    have hH:Go.Sort.Holds (Value.int .i64) (dr w d) g 0 xs.toArray:=fun j hj=>by
      have hj':j < xs.length:=by simpa using hj
      refine ⟨?_,by rw [Nat.zero_add];exact hb.frozen j⟩
      rw [Nat.zero_add]
      refine hb.cell ?_
      rw [List.getElem?_append_left (by simpa using hj'),List.getElem?_map,List.getElem?_eq_getElem hj']
      simp [hj']
    refine (Tryz.slices_Sort_int g 0 cap xs (dr w d) hH hb.lt (by omega)).mono fun e w' ⟨he,n,os,hw⟩=>⟨_,w',w'.drawn,he,rfl,rfl,?_,?_⟩
    · have hblk:Blk w' g 3 ((sortL xs).map (Value.int .i64) ++ sp):=by
        subst hw
        unfold Blk at hb ⊢
        have hsz:g < w.heap.size:=Blk.lt hb
        show ((w.heap.modify g _) ++ os)[g]?=_
        rw [Array.getElem?_append_left (by simpa using hsz),Array.getElem?_modify,if_pos rfl,hb]
        simp only [Option.map_some,Go.Sort.onCells]
        congr 2
        apply Array.ext
        · simp [Go.Sort.putCells,Dz]
        · intro i h1 h2
          simp only [Go.Sort.putCells,Array.getElem_mapIdx,Nat.zero_add,Nat.sub_zero,Nat.zero_le,true_and]
          have e1:(List.mergeSort xs fun x y=>decide (x≤y)).length=xs.length:=List.length_mergeSort xs
          by_cases hi:i < xs.length
          · rw [if_pos (by simpa [e1] using hi)]
            simp only [List.getElem_toArray]
            rw [List.getElem_append_left (by simpa [Dz] using hi),List.getElem_map]
            congr 1
            rw [getElem!_pos _ _ (by simpa [e1] using hi)]
            simp [sortL]
          · rw [if_neg (by simpa [e1] using hi)]
            simp only [List.getElem_toArray]
            rw [List.getElem_append_right (by simp;omega),List.getElem_append_right (by simp [Dz];omega)]
            simp [Dz]
      have:=Own.close (w:=w') (base:=base) (cap:=cap) hg hFg hblk (Hz (F:=F) (w:=w') fun x hx=>hin x (by
        have:=(List.mergeSort_perm xs fun x y=>decide (x≤y)).mem_iff.1 hx
        exact this)) (by rw [Dz];exact hnc) hcm (by simpa [Dz] using htot)
      rwa [Dz] at this
    · subst hw
      refine ⟨rfl,rfl,rfl,?_,fun k hk hne=>?_⟩
      · show w.heap.size≤((w.heap.modify g _) ++ os).size
        simp
      · have hkg:g≠k:=fun e=>hne (by simp [Value.ownBlock,e])
        show ((w.heap.modify g _) ++ os)[k]?=_
        rw [Array.getElem?_append_left (by simpa using hk),Array.getElem?_modify,if_neg hkg]
end
section
open Go Go.RowKit
attribute [local irreducible] ewp owp hwp hwq hws Ev Evg Fn retPost loud loudS Res1
def GenR (w:World) (F:Nat→Prop) (gv:Value) (t:Tsk) (T:Tr):Prop :=
  ∃ gb a b c d r,gv=.pointer (some ⟨gb,0,none⟩)∧F gb∧Blk w gb 107 [a,b,c,d,r]∧Vb w F a t.vars∧Vb w F b t.init∧Vb w F c t.goal∧Vb w F d t.ops∧TrR w F T r
theorem Ll (z:Value) (n:Nat) (hz:z.cells=#[z]):(madeCells z.cells (n * 1)).toList=List.replicate n z:=by
  rw [hz,Nat.mul_one]
  apply List.ext_getElem
  · simp [madeCells]
  · intro i h1 h2
    simp [madeCells,Nat.mod_one]
theorem HU {w:World} {F:Nat→Prop}:∀ n,Chunks w F (List.replicate n (.bool false)) (List.replicate n false)
  | 0=>rfl
  | n + 1=>⟨[.bool false],List.replicate n (.bool false),rfl,rfl,HU n⟩
noncomputable def findL (t:Tsk) (T:Tr) (s:List Int):List Int:=if bof (StateOk t.vars s)=true then sortL (coll s T) else []
noncomputable def findN (t:Tsk) (T:Tr) (s:List Int):Nat:=if bof (StateOk t.vars s)=true then (look s T (List.replicate s.length false)).count true else 0
theorem MK {l:List Bool} {k:Nat} {b:Bool} (h:l[k]?=some b):(l.take (k + 1)).count true=(l.take k).count true + if b=true then 1 else 0:=by
  rw [List.take_add_one,h,List.count_append]
  cases b<;>simp
theorem genFind {w:World} {gv sv:Value} {t:Tsk} {T:Tr} {s:List Int} (hg:GenR w (All w) gv t T) (hs:V w sv s) (hfit:StateOk t.vars s→Fits s T) (hlen:(coll s T).length≤1000000) (hsl:s.length≤1000000) :
    Fn Tryz.prog 92 [gv,sv] w fun v w'=>Ext w w'∧∃ u,v=.tuple #[u,.int .i64 (findN t T s:Int)]∧Own w' w.heap.size (All w) 3 u (findL t T s):=by
  obtain ⟨gb,a,b,c,d,r,rfl,hgb,hb1,hvars,hinit,hgoal,hops,hT⟩:=hg
  obtain ⟨Av,cv,rfl⟩:=hvars.form
  obtain ⟨As,cs,rfl⟩:=hs.form
  obtain ⟨rp,rfl⟩:=hT.form
  refine AK Tryz.func92 rfl Tryz.ntmps92 rfl ?_
  ((repeat (first|refine At ?_|refine Ah rfl ?_|refine Ae rfl ?_))<;>(refine Aw rfl rfl ?_<;>refine Aw rfl rfl ?_<;>(refine o_z ?_))<;>(repeat (first|refine At ?_|refine Ah rfl ?_|refine Ae rfl ?_))<;>(refine Ar rfl rfl ?_<;>refine KV rfl rfl ?_<;>refine Ar rfl rfl ?_<;>(first|(refine Az rfl rfl ?_;refine Ar rfl rfl ?_)|refine Au rfl rfl rfl rfl ?_)<;>(first|(refine Az rfl rfl ?_;refine Do rfl rfl ?_)|refine Au rfl rfl rfl rfl ?_)<;>(first|(refine Az rfl rfl ?_;refine AJ rfl rfl ?_)|refine Au rfl rfl rfl rfl ?_)<;>(first|(refine Az rfl rfl ?_;refine AJ rfl rfl ?_)|refine Au rfl rfl rfl rfl ?_)<;>(first|(refine Az rfl rfl ?_;refine AG rfl rfl ?_)|refine Au rfl rfl rfl rfl ?_)<;>(first|(refine Az rfl rfl ?_;refine Ar rfl rfl ?_)|refine Au rfl rfl rfl rfl ?_))<;>(repeat (first|refine At ?_|refine Ah rfl ?_|refine Ae rfl ?_)))
  refine Az rfl rfl ?_
  refine CJ rfl rfl (taskProper hvars hs) ?_ ?_
  case refine_2 =>
    intro w1 hP hE1
    ((first|(refine Az rfl rfl ?_;(first|refine Cq rfl rfl ?_|refine Cr rfl rfl ?_|refine CU rfl rfl ?_))|refine Au rfl rfl rfl rfl ?_)<;>(first|refine Bq rfl rfl rfl ?_|refine Br rfl rfl rfl ?_)<;>(refine o_z ?_))
    repeat (first|refine At ?_|refine Ah rfl ?_|refine Ae rfl ?_)
    ((repeat (first|refine At ?_|refine Ah rfl ?_|refine Ae rfl ?_))<;>(refine Aw rfl rfl ?_<;>refine Aw rfl rfl ?_<;>(refine o_z ?_))<;>(repeat (first|refine At ?_|refine Ah rfl ?_|refine Ae rfl ?_)))
    refine ret2 rfl (AE rfl) (AE rfl) ⟨hE1,.slice none 0 0,?_,?_⟩
    · rw [findN,AM hP];rfl
    · rw [findL,AM hP];exact Own.nil _ _ _ _
  intro w1 hok hE1
  replace hb1:=hb1.ext hE1
  ((first|(refine Az rfl rfl ?_;(first|refine Cq rfl rfl ?_|refine Cr rfl rfl ?_|refine CU rfl rfl ?_))|refine Au rfl rfl rfl rfl ?_)<;>(first|refine Bq rfl rfl rfl ?_|refine Br rfl rfl rfl ?_)<;>(refine o_z ?_))
  repeat (first|refine At ?_|refine Ah rfl ?_|refine Ae rfl ?_)
  (refine Ar rfl rfl ?_<;>refine AY rfl rfl ?_)
  refine IJ rfl rfl (by omega) (by omega) rfl fun w2 hN2=>?_
  replace hb1:=hb1.ext hN2.ext
  have hE2:Ext w w2:=hE1.trans' hN2.ext
  have hl2:Own w2 w.heap.size (· < w.heap.size) 4 (.slice (some ⟨w1.heap.size,0,none⟩) s.length s.length) (List.replicate s.length false) :=
    (Own.made hN2 (by rw [Ll _ _ rfl];exact HU _) (by simp) (by have:=hE1.size;omega) (by omega)).lower hE1.size
  (refine Aw rfl rfl ?_<;>(refine o_z ?_))
  repeat (first|refine At ?_|refine Ah rfl ?_|refine Ae rfl ?_)
  (refine Ar rfl rfl ?_<;>refine Do rfl rfl ?_<;>refine AJ rfl rfl ?_<;>refine AG rfl rfl ?_<;>refine Ar rfl rfl ?_<;>refine Ar rfl rfl ?_)
  refine By rfl rfl (collect w.heap.size s T w2 (.pointer rp) (.slice none 0 0) _ _ [] _ hE2.size (TrR.agree (hE2.agree fun _ h=>h) hT) (Vb.agree hs (hE2.agree fun _ h=>h)) (Own.nil _ _ _ _) hl2 (hfit hok) (by simp) (by simpa using hlen)) ?_
  rintro v3 w3 ⟨ho3,hl3,hB3⟩
  have hE3:Ext w w3:=hE2.trans hB3
  rw [List.nil_append] at ho3
  (refine Aw rfl rfl ?_<;>(refine o_z ?_))
  repeat (first|refine At ?_|refine Ah rfl ?_|refine Ae rfl ?_)
  (refine Ar rfl rfl ?_)
  refine By rfl rfl (sortInts ho3 hlen) ?_
  rintro _ w4 ⟨rfl,ho4,hK4⟩
  have hE4:Ext w w4:=hE3.trans (ho3.fits (Nat.le_refl _) hE3.size hK4)
  have hl4:=hl3.kept hK4 (fun k hk=>⟨Nat.lt_of_lt_of_le hk hE3.size,fun he=>by have:=(ho3.lt k he).1;have:k < w.heap.size:=hk;omega⟩) (fun g hg=>hl3.own_ne ho3 (by decide) g hg)
  have hlv:Vb w4 _ (.slice (some ⟨w1.heap.size,0,none⟩) s.length s.length) (look s T (List.replicate s.length false)):=hl4.vb
  have hll:(look s T (List.replicate s.length false)).length=s.length:=by rw [FB];simp
  ((refine o_z ?_))
  repeat (first|refine At ?_|refine Ah rfl ?_|refine Ae rfl ?_)
  ((repeat (first|refine At ?_|refine Ah rfl ?_|refine Ae rfl ?_))<;>(refine Aw rfl rfl ?_<;>(refine o_z ?_))<;>(repeat (first|refine At ?_|refine Ah rfl ?_|refine Ae rfl ?_))<;>(refine Ar rfl rfl ?_<;>refine AY rfl rfl ?_<;>refine Ar rfl rfl ?_<;>(refine o_z ?_))<;>(repeat (first|refine At ?_|refine Ah rfl ?_|refine Ae rfl ?_)))
  refine BM s.length (by omega) (fun n:Nat=>[(7,v3),(8,.int .i64 (n:Int)),(35,.slice (some ⟨w1.heap.size,0,none⟩) s.length s.length)]) (fun k n w'=>w'=w4∧n=((look s T (List.replicate s.length false)).take k).count true) 0
    ⟨rfl,by simp⟩ ⟨rfl,rfl,rfl,rfl,rfl,trivial⟩ (fun _=>⟨rfl,rfl⟩) ⟨rfl,rfl,rfl⟩ ⟨rfl,rfl⟩ ?_ ?_
  · rintro k n _ hk ⟨rfl,hn⟩
    obtain ⟨x,hx⟩:=AD (l:=look s T (List.replicate s.length false)) (k:=k) (by omega)
    obtain ⟨b2,o2,ce,he,_,_,hd1,rfl⟩:=hlv.elem hx
    injection he with he
    injection he with he1 he2
    subst he1;subst he2
    have hnl:n≤k:=by
      rw [hn]
      exact Nat.le_trans List.count_le_length (by rw [List.length_take];omega)
    have hst:=MK hx
    cases x
    · ((repeat (first|refine At ?_|refine Ah rfl ?_|refine Ae rfl ?_))<;>(refine CQ rfl rfl rfl ?_<;>refine AG rfl rfl ?_<;>refine Aw rfl rfl ?_<;>(refine o_z ?_))<;>(repeat (first|refine At ?_|refine Ah rfl ?_|refine Ae rfl ?_))<;>(refine Ar rfl rfl ?_<;>(refine o_z ?_))<;>(repeat (first|refine At ?_|refine Ah rfl ?_|refine Ae rfl ?_)))
      exact ⟨n,⟨rfl,rfl,rfl,rfl,rfl,trivial⟩,rfl,by rw [hst,hn];simp⟩
    · ((repeat (first|refine At ?_|refine Ah rfl ?_|refine Ae rfl ?_))<;>(refine CQ rfl rfl rfl ?_<;>refine AG rfl rfl ?_<;>refine Aw rfl rfl ?_<;>(refine o_z ?_))<;>(repeat (first|refine At ?_|refine Ah rfl ?_|refine Ae rfl ?_))<;>(refine Ar rfl rfl ?_<;>(refine o_z ?_))<;>(repeat (first|refine At ?_|refine Ah rfl ?_|refine Ae rfl ?_))<;>(refine Ar rfl rfl ?_<;>(first|refine FO rfl rfl ?_|refine FN rfl rfl rfl ?_)<;>refine Aw rfl rfl ?_<;>(refine o_z ?_))<;>(repeat (first|refine At ?_|refine Ah rfl ?_|refine Ae rfl ?_)))
      exact ⟨n + 1,⟨rfl,rfl,rfl,rfl,rfl,trivial⟩,rfl,by rw [hst,hn];simp⟩
  rintro n _ ⟨rfl,hn⟩
  repeat (first|refine At ?_|refine Ah rfl ?_|refine Ae rfl ?_)
  ((repeat (first|refine At ?_|refine Ah rfl ?_|refine Ae rfl ?_))<;>(refine Ar rfl rfl ?_<;>refine Ar rfl rfl ?_<;>refine Aw rfl rfl ?_<;>refine Aw rfl rfl ?_<;>(refine o_z ?_))<;>(repeat (first|refine At ?_|refine Ah rfl ?_|refine Ae rfl ?_)))
  refine ret2 rfl (AE rfl) (AE rfl) ⟨hE4,v3,?_,?_⟩
  · rw [findN,Bd hok,if_pos rfl,hn,List.take_of_length_le (by omega)]
  · rw [findL,Bd hok,if_pos rfl]
    exact ho4
section
variable {w : World} {gv sv : Value} {t : Tsk} {T : Tr} {s : List Int}
theorem genApplicable (hg:GenR w (All w) gv t T) (hs:V w sv s) (hfit:StateOk t.vars s→Fits s T) (hlen:(coll s T).length≤1000000) (hsl:s.length≤1000000) :
    Fn Tryz.prog 65 [gv,sv] w fun v w'=>Ext w w'∧Own w' w.heap.size (All w) 3 v (findL t T s):=by
  refine AK Tryz.func65 rfl Tryz.ntmps65 rfl ?_
  ((repeat (first|refine At ?_|refine Ah rfl ?_|refine Ae rfl ?_))<;>(refine Aw rfl rfl ?_<;>(refine o_z ?_))<;>(repeat (first|refine At ?_|refine Ah rfl ?_|refine Ae rfl ?_))<;>(refine Ar rfl rfl ?_<;>refine Ar rfl rfl ?_)<;>(repeat (first|refine At ?_|refine Ah rfl ?_|refine Ae rfl ?_)))
  refine By rfl rfl (genFind hg hs hfit hlen hsl) ?_
  rintro _ w1 ⟨hE,u,rfl,ho⟩
  (refine Ar rfl rfl ?_<;>refine CE rfl rfl rfl ?_<;>refine CE rfl rfl rfl ?_<;>refine Aw rfl rfl ?_<;>refine Aw rfl rfl ?_<;>(refine o_z ?_))
  repeat (first|refine At ?_|refine Ah rfl ?_|refine Ae rfl ?_)
  ((repeat (first|refine At ?_|refine Ah rfl ?_|refine Ae rfl ?_))<;>(refine Ar rfl rfl ?_<;>refine Aw rfl rfl ?_<;>(refine o_z ?_))<;>(repeat (first|refine At ?_|refine Ah rfl ?_|refine Ae rfl ?_)))
  exact ret1 rfl rfl ⟨hE,ho⟩
theorem Own.form {α:Type} [Rp α] {w:World} {base:Nat} {F:Nat→Prop} {e:TypeId} {v:Value} {xs:List α} (h:Own w base F e v xs):∃ A c,v=.slice A xs.length c:=h.vb.form
end
structure Suc where
  op:Int
  state:List Int
instance:Rp Suc where
  isAgg:=true
  size:=2
  R w F cs x:=∃ v,cs=[.int .i64 x.op,v]∧Vb w F v x.state∧inI64 x.op
  len:=by rintro w F cs x ⟨v,rfl,_⟩;rfl
  one:=by rintro w F cs x ⟨v,rfl,h,_⟩ u hu;simp at hu;rcases hu with rfl|rfl<;>first|rfl|exact Vb.one rfl (by assumption)
  agree:=by rintro w w' F cs x ⟨v,rfl,h,h2⟩ ha;exact ⟨v,rfl,h.agree ha,h2⟩
  mono:=by rintro w F G cs x ⟨v,rfl,h,h2⟩ ha;exact ⟨v,rfl,h.mono ha,h2⟩
def sucOf (t:Tsk) (s:List Int) (op:Int):Suc:=⟨op,match t.ops[op.toNat]? with|some o=>succ o s|none=>s⟩
end
section
open Go Go.RowKit
attribute [local irreducible] ewp owp hwp hwq hws Ev Evg Fn retPost loud loudS Res1
def GenB (w:World) (F:Nat→Prop) (gv:Value) (t:Tsk):Prop :=
  ∃ gb a b c d rp,gv=.pointer (some ⟨gb,0,none⟩)∧F gb∧Blk w gb 107 [a,b,c,d,.pointer rp]∧Vb w F a t.vars∧Vb w F b t.init∧Vb w F c t.goal∧Vb w F d t.ops
theorem GenB.agree {w w':World} {F:Nat→Prop} {gv:Value} {t:Tsk} (h:GenB w F gv t) (ha:Agree F w w'):GenB w' F gv t:=by
  obtain ⟨gb,a,b,c,d,r,h1,h2,h3,h4,h5,h6,h7⟩:=h
  exact ⟨gb,a,b,c,d,r,h1,h2,h3.keep (ha gb h2),h4.agree ha,h5.agree ha,h6.agree ha,h7.agree ha⟩
theorem GenB.mono {w:World} {F G:Nat→Prop} {gv:Value} {t:Tsk} (h:GenB w F gv t) (ha:∀ k,F k→G k):GenB w G gv t:=by
  obtain ⟨gb,a,b,c,d,r,h1,h2,h3,h4,h5,h6,h7⟩:=h
  exact ⟨gb,a,b,c,d,r,h1,ha _ h2,h3,h4.mono ha,h5.mono ha,h6.mono ha,h7.mono ha⟩
theorem GenB.ext {w w':World} {gv:Value} {t:Tsk} (h:GenB w (All w) gv t) (hE:Ext w w'):GenB w' (All w') gv t:=(h.agree (hE.agree fun _ h=>h)).mono fun k hk=>Nat.lt_of_lt_of_le hk hE.size
def factOn (l:List Fct) (v:Int):Option Fct:=l.find? fun f=>decide (f.var=v)
def factV:Option Fct→Value
  | some f=>.tuple #[.agg #[.int .i64 f.var,.int .i64 f.val],.bool true]
  | none=>.tuple #[.agg #[.int .i64 0,.int .i64 0],.bool false]
theorem Kl {α:Type} (p:α→Bool):∀ {l:List α} {k:Nat} {x:α},l[k]?=some x→p x=true→(∀ i,i < k→∀ y,l[i]?=some y→p y=false)→l.find? p=some x
  | [],_,_,h,_,_=>by simp at h
  | y :: l,0,x,h,hp,_=>by
    have:y=x:=by simpa using h
    subst this;simp [hp]
  | y :: l,k + 1,x,h,hp,hn=>by
    have hy:=hn 0 (by omega) y rfl
    rw [List.find?_cons,hy]
    exact Kl p (k:=k) (by simpa using h) hp fun i hi z hz=>hn (i + 1) (by omega) z (by simpa using hz)
theorem Nr {α:Type} (p:α→Bool) {l:List α} (hn:∀ i,i < l.length→∀ y,l[i]?=some y→p y=false):l.find? p=none:=by
  rw [List.find?_eq_none]
  intro x hx
  obtain ⟨i,hi⟩:=List.getElem?_of_mem hx
  simp [hn i (BG hi) x hi]
theorem genFact {w:World} {gv:Value} {t:Tsk} {j:Nat} {o:Opr} {v:Int} (hg:GenB w (All w) gv t) (ho:t.ops[j]?=some o) :
    Fn Tryz.prog 84 [gv,.int .i64 (j:Int),.int .i64 v] w fun r w'=>r=factV (factOn o.pre v)∧Ext w w':=by
  obtain ⟨gb,a,b,c,d,rp,rfl,hgb,hb0,hvars,hinit,hgoal,hops⟩:=hg
  obtain ⟨Ao,co,rfl⟩:=hops.form
  obtain ⟨b2,o2,ce,rfl,hbl,hjl,hd0,p,q,rfl,hp,hq,hc,hnm⟩:=hops.elem ho
  obtain ⟨Ap,cp,rfl⟩:=hp.form
  have hpl:=hp.len
  refine AK Tryz.func84 rfl Tryz.ntmps84 rfl ?_
  repeat (first|refine At ?_|refine Ah rfl ?_|refine Ae rfl ?_)
  refine DH rfl fun w1 hN1=>?_
  have hres:=hN1.blk
  have hE1:Ext w w1:=hN1.ext
  have hb1:=hb0.ext hE1
  have hd1:=HG hd0 hbl hE1
  (refine Aw rfl rfl ?_<;>(refine o_z ?_))
  repeat (first|refine At ?_|refine Ah rfl ?_|refine Ae rfl ?_)
  ((repeat (first|refine At ?_|refine Ah rfl ?_|refine Ae rfl ?_))<;>(refine Ar rfl rfl ?_<;>refine Do rfl rfl ?_<;>refine AJ rfl rfl ?_<;>refine AJ rfl rfl ?_<;>refine AG rfl rfl ?_<;>refine Ar rfl rfl ?_<;>refine CQ rfl rfl rfl ?_<;>refine AJ rfl rfl ?_<;>refine AG rfl rfl ?_<;>refine AY rfl rfl ?_<;>refine Ar rfl rfl ?_<;>(refine o_z ?_))<;>(repeat (first|refine At ?_|refine Ah rfl ?_|refine Ae rfl ?_)))
  refine BM o.pre.length (by omega) (fun _:Unit=>[(2,.int .i64 v),(6,.pointer (some ⟨w.heap.size,0,none⟩)),(18,.slice Ap o.pre.length cp)]) (fun k _ w'=>Ext w1 w'∧∀ i,i < k→∀ f,o.pre[i]?=some f→decide (f.var=v)=false) ()
    ⟨Below.refl _ _,fun i hi=>by omega⟩ ⟨rfl,rfl,rfl,rfl,rfl,trivial⟩ (fun _=>⟨rfl,rfl⟩) ⟨rfl,rfl,rfl⟩ ⟨rfl,rfl⟩ ?_ ?_
  · rintro k _ w2 hk ⟨hE2,hh⟩
    obtain ⟨f,hf⟩:=AD hk
    obtain ⟨b3,o3,ce,rfl,_,_,hd1,rfl,hr1,hr2⟩:=(hp.ext (hE1.trans' hE2)).elem hf
    ((repeat (first|refine At ?_|refine Ah rfl ?_|refine Ae rfl ?_))<;>(refine CQ rfl rfl rfl ?_<;>refine Bi rfl rfl ?_)<;>(repeat (first|refine At ?_|refine Ah rfl ?_|refine Ae rfl ?_)))
    refine Cg rfl rfl rfl (by simp [Value.cells,Value.oneCell']) fun w3 hN3=>?_
    have hb2:=hN3.blk
    have hE3:Ext w1 w3:=hE2.trans' hN3.ext
    replace hres:=hres.ext hE3
    ((refine o_z ?_))
    repeat (first|refine At ?_|refine Ah rfl ?_|refine Ae rfl ?_)
    ((repeat (first|refine At ?_|refine Ah rfl ?_|refine Ae rfl ?_))<;>(refine AJ rfl rfl ?_<;>refine AG rfl rfl ?_<;>refine Ar rfl rfl ?_<;>(first|refine MC rfl rfl rfl ?_|refine MD rfl rfl rfl ?_|refine EJ rfl rfl rfl (fun _=>?_) fun _=>?_)<;>(refine o_z ?_))<;>(repeat (first|refine At ?_|refine Ah rfl ?_|refine Ae rfl ?_)))
    · (refine Bi rfl rfl ?_)
      refine Cc rfl rfl hres rfl (Nat.le_refl _) (by simp [Value.cells,Value.oneCell']) fun w4 hU=>?_
      (refine Aw rfl rfl ?_<;>(refine o_z ?_))
      repeat (first|refine At ?_|refine Ah rfl ?_|refine Ae rfl ?_)
      refine ret2 rfl (Ck rfl rfl hU.blk.cellsAt) (AE rfl) ⟨?_,hE1.trans ((hE3.mono hE1.size).trans (hU.below (Nat.le_refl _)))⟩
      rw [factOn,Kl _ hf (by simpa using ‹f.var=v›) hh]
      rfl
    · exact ⟨(),⟨rfl,rfl,rfl,rfl,rfl,trivial⟩,hE3,Cv hh fun f' hf'=>by rw [hf] at hf';injection hf' with hf';subst hf';simpa using ‹¬ f.var=v›⟩
  rintro _ w2 ⟨hE2,hh⟩
  replace hres:=hres.ext hE2
  repeat (first|refine At ?_|refine Ah rfl ?_|refine Ae rfl ?_)
  (refine Dd rfl rfl rfl ?_)
  refine Cc rfl rfl hres rfl (Nat.le_refl _) (by simp [Value.cells,Value.oneCell',setParts]) fun w4 hU=>?_
  (refine Aw rfl rfl ?_<;>(refine o_z ?_))
  repeat (first|refine At ?_|refine Ah rfl ?_|refine Ae rfl ?_)
  refine ret2 rfl (Ck rfl rfl hU.blk.cellsAt) (AE rfl) ⟨?_,hE1.trans ((hE2.mono hE1.size).trans (hU.below (Nat.le_refl _)))⟩
  rw [factOn,Nr _ hh]
  rfl
theorem genBuild1 {w:World} {gv:Value} {t:Tsk} {j:Nat} {o:Opr} {v:Int} {g1 g2:Nat} {r1 r2:TypeId} (hg:GenB w (All w) gv t) (ho:t.ops[j]?=some o) (h1:Blk w g1 r1 [gv]) (h2:Blk w g2 r2 [.int .i64 v]) :
    Fn Tryz.prog 83 ([.int .i64 (j:Int)] ++ [.pointer (some ⟨g1,0,none⟩),.pointer (some ⟨g2,0,none⟩)]) w fun r w'=>r=.bool (factOn o.pre v).isSome∧Ext w w':=by
  have hb1:=h1
  have hb2:=h2
  refine AK Tryz.func83 rfl Tryz.ntmps83 rfl ?_
  ((repeat (first|refine At ?_|refine Ah rfl ?_|refine Ae rfl ?_))<;>(refine Aw rfl rfl ?_<;>(refine o_z ?_))<;>(repeat (first|refine At ?_|refine Ah rfl ?_|refine Ae rfl ?_))<;>(refine AG rfl rfl ?_<;>refine Ar rfl rfl ?_<;>refine AG rfl rfl ?_)<;>(repeat (first|refine At ?_|refine Ah rfl ?_|refine Ae rfl ?_)))
  refine By rfl rfl (genFact hg ho) ?_
  rintro _ w1 ⟨rfl,hE1⟩
  cases hf:factOn o.pre v with
  | none =>
    simp only [factV]
    (refine Ar rfl rfl ?_<;>refine CE rfl rfl rfl ?_<;>refine CE rfl rfl rfl ?_)
    refine Cg rfl rfl rfl (by simp [Value.cells,Value.oneCell']) fun w2 hN2=>?_
    (refine Aw rfl rfl ?_<;>(refine o_z ?_))
    repeat (first|refine At ?_|refine Ah rfl ?_|refine Ae rfl ?_)
    ((repeat (first|refine At ?_|refine Ah rfl ?_|refine Ae rfl ?_))<;>(refine Ar rfl rfl ?_<;>refine Aw rfl rfl ?_<;>(refine o_z ?_))<;>(repeat (first|refine At ?_|refine Ah rfl ?_|refine Ae rfl ?_)))
    exact ret1 rfl rfl ⟨rfl,hE1.trans' hN2.ext⟩
  | some f =>
    simp only [factV]
    (refine Ar rfl rfl ?_<;>refine CE rfl rfl rfl ?_<;>refine CE rfl rfl rfl ?_)
    refine Cg rfl rfl rfl (by simp [Value.cells,Value.oneCell']) fun w2 hN2=>?_
    (refine Aw rfl rfl ?_<;>(refine o_z ?_))
    repeat (first|refine At ?_|refine Ah rfl ?_|refine Ae rfl ?_)
    ((repeat (first|refine At ?_|refine Ah rfl ?_|refine Ae rfl ?_))<;>(refine Ar rfl rfl ?_<;>refine Aw rfl rfl ?_<;>(refine o_z ?_))<;>(repeat (first|refine At ?_|refine Ah rfl ?_|refine Ae rfl ?_)))
    exact ret1 rfl rfl ⟨rfl,hE1.trans' hN2.ext⟩
end
section
open Go Go.RowKit
attribute [local irreducible] ewp owp hwp hwq hws Ev Evg Fn retPost loud loudS Res1
theorem indexFuncInts {w:World} {sv:Value} {xs:List (Int)} {g:FuncId} [Callable Tryz.prog g] {caps:List Value} {p:Int→Prop} (hs:V w sv xs)
    (hg:∀ v x w',x∈xs→Ext w w'→V w' v x→Fn Tryz.prog g ([v] ++ caps) w' fun r w''=>r=.bool (bof (p x))∧Ext w' w'') :
    Fn Tryz.prog 101 [sv,.func (.func g) #[] caps.toArray] w fun v w'=>((∃ k:Nat,v=.int .i64 (k:Int)∧∃ x∈xs,p x)∨(v=.int .i64 (-1)∧∀ x∈xs,¬ p x))∧Ext w w':=by
  obtain ⟨A,c,rfl⟩:=hs.form
  have hl:=hs.len
  refine AK Tryz.func101 rfl Tryz.ntmps101 rfl ?_
  ((repeat (first|refine At ?_|refine Ah rfl ?_|refine Ae rfl ?_))<;>(refine Aw rfl rfl ?_<;>(refine o_z ?_))<;>(repeat (first|refine At ?_|refine Ah rfl ?_|refine Ae rfl ?_))<;>(refine Ar rfl rfl ?_<;>refine AY rfl rfl ?_<;>refine Ar rfl rfl ?_<;>(refine o_z ?_))<;>(repeat (first|refine At ?_|refine Ah rfl ?_|refine Ae rfl ?_)))
  refine BM xs.length (by omega) (fun _:Unit=>[(0,.slice A xs.length c),(1,.func (.func g) #[] caps.toArray)]) (fun k _ w'=>Ext w w'∧∀ i,i < k→∀ x,xs[i]?=some x→¬ p x) ()
    ⟨Below.refl _ _,fun i hi=>by omega⟩ ⟨rfl,rfl,rfl,rfl,trivial⟩ (fun _=>⟨rfl,rfl⟩) ⟨rfl,rfl,rfl⟩ ⟨rfl,rfl⟩ ?_ ?_
  · rintro k _ w1 hk ⟨hE,hh⟩
    obtain ⟨x,hx⟩:=AD hk
    obtain ⟨b,o,ce,rfl,_,_,hd1,hR⟩:=(hs.ext hE).elem hx
    obtain ⟨v,rfl⟩:=List.length_eq_one_iff.1 (Rp.len hR)
    ((repeat (first|refine At ?_|refine Ah rfl ?_|refine Ae rfl ?_))<;>(refine Ar rfl rfl ?_<;>refine Aw rfl rfl ?_<;>(refine o_z ?_))<;>(repeat (first|refine At ?_|refine Ah rfl ?_|refine Ae rfl ?_))<;>(refine Ar rfl rfl ?_<;>refine Ar rfl rfl ?_<;>refine Ar rfl rfl ?_<;>refine CQ rfl rfl rfl ?_<;>refine AG rfl rfl ?_)<;>(repeat (first|refine At ?_|refine Ah rfl ?_|refine Ae rfl ?_)))
    refine HH rfl rfl rfl (hg v x w1 (List.mem_of_getElem? hx) hE hR) ?_
    rintro _ w2 ⟨rfl,hE2⟩
    by_cases hp:p x
    · rw [Bd hp]
      ((refine o_z ?_))
      repeat (first|refine At ?_|refine Ah rfl ?_|refine Ae rfl ?_)
      ((repeat (first|refine At ?_|refine Ah rfl ?_|refine Ae rfl ?_))<;>(refine Ar rfl rfl ?_<;>refine Aw rfl rfl ?_<;>(refine o_z ?_))<;>(repeat (first|refine At ?_|refine Ah rfl ?_|refine Ae rfl ?_)))
      exact ret1 rfl rfl ⟨.inl ⟨k,rfl,x,List.mem_of_getElem? hx,hp⟩,hE.trans' hE2⟩
    · rw [AM hp]
      ((refine o_z ?_))
      repeat (first|refine At ?_|refine Ah rfl ?_|refine Ae rfl ?_)
      exact ⟨(),⟨rfl,rfl,rfl,rfl,trivial⟩,hE.trans' hE2,Cv hh fun x' hx'=>by rw [hx] at hx';injection hx' with hx';exact hx' ▸ hp⟩
  rintro _ w1 ⟨hE,hh⟩
  repeat (first|refine At ?_|refine Ah rfl ?_|refine Ae rfl ?_)
  ((repeat (first|refine At ?_|refine Ah rfl ?_|refine Ae rfl ?_))<;>(refine Aw rfl rfl ?_<;>(refine o_z ?_))<;>(repeat (first|refine At ?_|refine Ah rfl ?_|refine Ae rfl ?_)))
  refine ret1 rfl rfl ⟨.inr ⟨rfl,fun x hx=>?_⟩,hE⟩
  obtain ⟨i,hi⟩:=List.getElem?_of_mem hx
  exact hh i (BG hi) x hi
theorem containsFuncInts {w:World} {sv:Value} {xs:List (Int)} {g:FuncId} [Callable Tryz.prog g] {caps:List Value} {p:Int→Prop} (hs:V w sv xs)
    (hg:∀ v x w',x∈xs→Ext w w'→V w' v x→Fn Tryz.prog g ([v] ++ caps) w' fun r w''=>r=.bool (bof (p x))∧Ext w' w'') :
    Fn Tryz.prog 82 [sv,.func (.func g) #[] caps.toArray] w fun v w'=>v=.bool (bof (∃ x∈xs,p x))∧Ext w w':=by
  refine AK Tryz.func82 rfl Tryz.ntmps82 rfl ?_
  ((repeat (first|refine At ?_|refine Ah rfl ?_|refine Ae rfl ?_))<;>(refine Aw rfl rfl ?_<;>(refine o_z ?_))<;>(repeat (first|refine At ?_|refine Ah rfl ?_|refine Ae rfl ?_))<;>(refine Ar rfl rfl ?_<;>refine Ar rfl rfl ?_)<;>(repeat (first|refine At ?_|refine Ah rfl ?_|refine Ae rfl ?_)))
  refine By rfl rfl (indexFuncInts hs hg) ?_
  rintro v w1 ⟨h,hE⟩
  rcases h with ⟨k,rfl,h⟩|⟨rfl,h⟩
  · ((first|refine Js rfl rfl rfl ?_|refine Jt rfl rfl rfl ?_)<;>refine Aw rfl rfl ?_<;>(refine o_z ?_))
    repeat (first|refine At ?_|refine Ah rfl ?_|refine Ae rfl ?_)
    exact ret1 rfl rfl ⟨by rw [Bd h],hE⟩
  · ((first|refine Js rfl rfl rfl ?_|refine Jt rfl rfl rfl ?_)<;>refine Aw rfl rfl ?_<;>(refine o_z ?_))
    repeat (first|refine At ?_|refine Ah rfl ?_|refine Ae rfl ?_)
    exact ret1 rfl rfl ⟨by rw [AM (fun ⟨x,hx,hp⟩=>h x hx hp)],hE⟩
end
end Go.Proofs.YtecegaabajeolaaGreat

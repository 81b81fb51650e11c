/- Own text: what the proof of orbitErrors_holds uses, part 3: rules, models and their proofs, plain laws. -/
import Derived.Test.YtecegaabajeolaaGreatOerB
set_option linter.unusedVariables false
set_option linter.unusedSimpArgs false
namespace Go.Proofs.YtecegaabajeolaaGreat
open Go Go.RowKit
section
open Go Go.RowKit
class TCon (P:Program) (t:TypeId):Prop where eq:∃ d,P.underlying t=some d∧(match d with|.interface _=>false|_=>true)=true
instance {P:Program} {t e:TypeId} [h:TPtr P t e]:TCon P t:=⟨⟨_,h.eq,rfl⟩⟩
instance {P:Program} {t:TypeId} [h:TAgg P t]:TCon P t:=⟨by obtain ⟨d,h1,h2⟩:=h.eq;exact ⟨d,h1,by cases d<;>first|rfl|cases h2⟩⟩
class TMth (P:Program) (t:TypeId) (name:String) (f:outParam FuncId) (b:outParam Bool):Prop where
  eq:((P.info? t).bind fun i=>i.methods.find? (·.name == name)).map (fun m=>(m.path.toList,m.func))=some ([],some (f,b))
def Mth (P:Program) (t:TypeId) (v:Value) (name:String) (w:World) (f:FuncId) (r:Value):Prop:=∀ d,(method (P.types.size + Made.depth) t v name).run P (dr w d)=.ok (f,r) (dr w d)
section
variable {P : Program} {t e : TypeId} {name : String} {f : FuncId} {w : World}
theorem TMth.row {b:Bool} (h:TMth P t name f b):∃ i m,P.info? t=some i∧i.methods.find? (·.name == name)=some m∧m.path.toList=[]∧m.func=some (f,b):=by
  obtain ⟨m,h1,h2⟩:=Option.map_eq_some_iff.1 h.eq
  obtain ⟨i,h3,h4⟩:=Option.bind_eq_some_iff.1 h1
  injection h2 with h5 h6
  exact ⟨i,m,h3,h4,h5,h6⟩
theorem Mk {v:Value} [hm:TMth P t name f true] [hp:TPtr P t e]:Mth P t v name w f v:=fun d=>by
  obtain ⟨i,m,h1,h2,h3,h4⟩:=hm.row
  show (method ((P.types.size + 99) + 1) t v name).run P (dr w d)=_
  rw [method]
  simp [typeInfo,h1,h2,h3,h4,follow,receiverAt,run_underlying hp.eq,Place.get]
theorem LR (ts:Array TypeId) (a:Addr) (x y:String):(Builtin.ssaWrapNilChk_ ts t #[.pointer (some a),strVal x,strVal y]).run P w=.ok (.pointer (some a)) w:=rfl
theorem Fk {ad:Addr} {u:Value} [hm:TMth P t name f false] [hp:TPtr P t e] [TOne P e] (hc:w.cell? ad=some u):Mth P t (.pointer (some ad)) name w f u:=fun d=>by
  obtain ⟨i,m,h1,h2,h3,h4⟩:=hm.row
  have h5:m.path=#[]:=by cases hm':m.path;rw [hm'] at h3;simp at h3;rw [h3]
  have hl:(load ad).run P (dr w d)=.ok u (dr w d):=by simp [load,Sem.run,JN,hc]
  show (method ((P.types.size + 99) + 1) t _ name).run P (dr w d)=_
  rw [method]
  simp [typeInfo,h1,h2,h4,h5,follow,receiverAt,run_underlying hp.eq,Place.get,LR,asAddr,loadVar,Gl,JN,hc]
end
section
variable {P : Program} {n : Nat} {ops : Array Oper} {Q : Post} {rest : List Oper} {l : Env} {w : World} {d : Tmp} {ty : TypeId} {pos : String} {aft : Array Edge}
theorem Ml {f:FuncId} [hf:Callable P f] {y:Operand} {name:String} {t:TypeId} {v r:Value} {xs:List Operand} {vs:List Value} {ts:Array TypeId} {R:Value→World→Prop} (hm:Mth P t v name w f r) (hy:opv l y=some (.iface t v)) (hx:opvs l xs=some vs) (hd:Nat.blt d n=true) (hc:Fn P f (r :: vs) w R)
    (h:∀ v w',R v w'→owp P n ops Q rest ((d,v) :: l) w'):owp P n ops Q (⟨some d,.call { callee:=.invoke y name,args:=xs.toArray,argTypes:=ts },ty,pos,aft,none⟩ :: rest) l w :=
  GU fun a e ha K hK=>by
    obtain ⟨fn,h1,h2,h3⟩:=hf.eq
    have h2':¬ fn.body=none:=fun e=>by rw [e] at h2;simp at h2
    have h3' : ¬ fn.name = "runtime.NumGoroutine" := fun e => by rw [e] at h3; simp at h3
    unfold Oper.wp
    have:(execOp a.eval ⟨some d,.call { callee:=.invoke y name,args:=xs.toArray,argTypes:=ts },ty,pos,aft,none⟩).run P (dr w e)=.ok (.enter f (r :: vs).toArray) (dr w e):=by
      simp [execOp,resolve,ha.eval hy,invoke,callMethod,hm e,callFunc,h1,h2',h3',ha.evals hx]
    rw [this]
    exact (hc e).mono fun _ _ ⟨v,w₀,d',he,hw,hR⟩=>by subst he;subst hw;exact hK _ _ (h v w₀ hR _ _ (ha.put hd v))
theorem HT {T:Nat→Prop} {f:FuncId} [Callable P f] {y:Operand} {name:String} {t:TypeId} {v r:Value} {xs:List Operand} {vs:List Value} {ts:Array TypeId} {O:Lab} {R:Value→World→Lab→Prop}
    (hc:Fn P f (r :: vs) w fun v w'=>∃ O',St T w O w' O'∧R v w' O') (hm:Mth P t v name w f r) (hy:opv l y=some (.iface t v)) (hx:opvs l xs=some vs) (hd:Nat.blt d n=true)
    (h:∀ v w' O',St T w O w' O'→R v w' O'→owp P n ops Q rest ((d,v) :: l) w'):owp P n ops Q (⟨some d,.call { callee:=.invoke y name,args:=xs.toArray,argTypes:=ts },ty,pos,aft,none⟩ :: rest) l w :=
  Ml hm hy hx hd hc fun v w' ⟨O',hS,hR⟩=>h v w' O' hS hR
theorem HU {f:FuncId} [Callable P f] {y:Operand} {name:String} {t:TypeId} {v r:Value} {xs:List Operand} {vs:List Value} {ts:Array TypeId} {O:Lab} {A:Nat→Prop} {R:World→(Nat→Prop)→Value→Prop} (hc:Fn P f (r :: vs) w fun v w'=>Ext w w'∧R w' (upA A w w') v) (hm:Mth P t v name w f r) (hy:opv l y=some (.iface t v)) (hx:opvs l xs=some vs) (hd:Nat.blt d n=true)
    (h:∀ v w' O',St nT w O w' O'→R w' (upA A w w') v→owp P n ops Q rest ((d,v) :: l) w'):owp P n ops Q (⟨some d,.call { callee:=.invoke y name,args:=xs.toArray,argTypes:=ts },ty,pos,aft,none⟩ :: rest) l w :=
  Ml hm hy hx hd hc fun v w' ⟨hE,hR⟩=>h v w' (upO O w.heap.size fun _=>0) (hE.st O _) hR
end
def quoT (a b:Int):Option Int:=if 0 < b then some (if 0≤a then a / b else -((-a) / b)) else none
theorem Mm {a b r:Int} (h:quoT a b=some r) (ha:inI64 a):inI64 r:=by
  unfold quoT at h
  split at h
  · rename_i hb
    rw [← sm h]
    unfold inI64 at *
    split
    · rename_i h0
      have:=Int.ediv_le_self b h0
      have:=Int.ediv_nonneg h0 (show 0≤b by omega)
      omega
    · have h0:0≤-a:=by omega
      have:=Int.ediv_le_self b h0
      have:=Int.ediv_nonneg h0 (show 0≤b by omega)
      omega
  · cases h
theorem Qw {P:Program} {l:Env} {w:World} {dst:Option Tmp} {ty:TypeId} {pos:String} {aft:Array Edge} {t u:TypeId} {x y:Operand} {a b c:Int} (hx:opv l x=some (.int .i64 a)) (hy:opv l y=some (.int .i64 b)) (he:quoT a b=some c) (hr:inI64 a):Ev P ⟨dst,.binOp .quo t x y u,ty,pos,aft,none⟩ l w (.int .i64 c):=fun _ _ d ha=>by
  have hc:=Mm he hr
  unfold quoT at he
  split at he
  · rename_i hb
    have hn:b≠0:=by omega
    have h1:a.tdiv b=c:=by
      rw [← sm he]
      split
      · rename_i h0;exact Int.tdiv_eq_ediv_of_nonneg h0
      · rw [← Int.tdiv_eq_ediv_of_nonneg (show 0≤-a by omega),Int.neg_tdiv,Int.neg_neg]
    simp [execOp,ha.eval hx,ha.eval hy,eqGuard,binOp,Op.intDiv,hn,h1,wrap_i64 hc.1 hc.2]
  · cases he
structure An (t:TypeId) (α:Type) where
  x:α
instance {t:TypeId} {α:Type} [Rp α]:Rp (An t α) where
  isAgg:=false
  size:=1
  R w F cs a:=∃ v,cs=[.iface t v]∧Vb w F v a.x
  len:=by rintro w F cs x ⟨v,rfl,_⟩;rfl
  one:=by
    rintro w F cs x ⟨v,rfl,_⟩ u hu
    have:u=.iface t v:=by simpa using hu
    subst this;rfl
  agree:=by rintro w w' F cs x ⟨v,rfl,h⟩ ha;exact ⟨v,rfl,h.agree ha⟩
  mono:=by rintro w F G cs x ⟨v,rfl,h⟩ ha;exact ⟨v,rfl,h.mono ha⟩
theorem Vb.any {w:World} {F:Nat→Prop} {v:Value} {t:TypeId} {α:Type} [Rp α] {x:An t α} (h:Vb w F v x):∃ u,v=.iface t u∧Vb w F u x.x:=by
  obtain ⟨u,hu,h'⟩:=h
  exact ⟨u,by simpa using hu,h'⟩
theorem vAny {w:World} {F:Nat→Prop} {v:Value} {t:TypeId} {α:Type} [Rp α] {x:α} (h:Vb w F v x):Vb w F (.iface t v) (⟨x⟩:An t α):=⟨v,rfl,h⟩
section
variable {P : Program} {l : Env} {w : World} {dst : Option Tmp} {ty : TypeId} {pos : String} {aft : Array Edge}
theorem Nn {t:TypeId} [hk:TCon P t] {x:Operand} {v:Value} (hx:opv l x=some v):Ev P ⟨dst,.makeInterface t x,ty,pos,aft,none⟩ l w (.iface t v):=fun _ a d ha=>by
  obtain ⟨q,h1,h2⟩:=hk.eq
  cases q<;>first|(cases h2;done)|simp [execOp,ha.eval hx,Instr.makeInterface,run_underlying h1]
theorem Qx {s t:TypeId} [hk:TCon P t] {x:Operand} {v:Value} (hx:opv l x=some (.iface t v)):Ev P ⟨dst,.typeAssert x s t true,ty,pos,aft,none⟩ l w (.tuple #[v,.bool true]):=fun _ a d ha=>by
  obtain ⟨q,h1,h2⟩:=hk.eq
  cases q<;>first|(cases h2;done)|simp [execOp,ha.eval hx,Instr.typeAssert,run_underlying h1]
end
section
variable {P : Program} {n : Nat} {ops : Array Oper} {Q : Post} {S : World → Prop} {rest : List Oper} {r : List (Nat × Bool)} {l : Env} {w : World} {d i : Nat} {ty : TypeId} {pos : String} {aft : Array Edge}
theorem QZ {t u:TypeId} {x y:Operand} {a b c:Int} (hx:opv l x=some (.int .i64 a)) (hy:opv l y=some (.int .i64 b)) (hd:Nat.blt d n=true) (h:owp P n ops Q rest ((d,.int .i64 c) :: l) w) (he:quoT a b=some c:=by assumption) (hr:inI64 a:=by assumption):owp P n ops Q (⟨some d,.binOp .quo t x y u,ty,pos,aft,none⟩ :: rest) l w:=Bv (Qw hx hy he hr) hd h
theorem Pa {t:TypeId} [TCon P t] {x:Operand} {v:Value} (hx:opv l x=some v) (hd:Nat.blt d n=true) (h:owp P n ops Q rest ((d,.iface t v) :: l) w):owp P n ops Q (⟨some d,.makeInterface t x,ty,pos,aft,none⟩ :: rest) l w:=Bv (Nn hx) hd h
theorem Pb {t:TypeId} [TCon P t] {x:Operand} {v:Value} (hi:ops[i]?=some ⟨some d,.makeInterface t x,ty,pos,aft,none⟩) (hx:opv l x=some v) (hd:Nat.blt d n=true) (h:hwp P n ops Q S r ((d,.iface t v) :: l) w):hwp P n ops Q S ((i,true) :: r) l w:=AA hi (BB (fun _ _=>Nn hx) hd h)
theorem Pc {s t:TypeId} [TCon P t] {x:Operand} {v:Value} (hx:opv l x=some (.iface t v)) (hd:Nat.blt d n=true) (h:owp P n ops Q rest ((d,.tuple #[v,.bool true]) :: l) w):owp P n ops Q (⟨some d,.typeAssert x s t true,ty,pos,aft,none⟩ :: rest) l w:=Bv (Qx hx) hd h
end
end
section
open Go Go.RowKit
structure Cx where
  ty:TypeId
  pre:List Value
  post:List Value
structure BxC (cx:Cx) (e:TypeId) (α:Type) where
  l:List α
def BxR.c (cx:Cx) {t e:TypeId} {α:Type} (x:BxR t e α):BxC cx e α:=⟨x.l⟩
instance {cx:Cx} {e:TypeId} {α:Type} [Rp α]:Ow (BxC cx e α) where
  R w F M v x:=∃ (g:Nat) (L:Lab) (c0:Value),v=.pointer (some ⟨g,cx.pre.length,none⟩)∧Blk w g cx.ty (cx.pre ++ c0 :: cx.post)∧M g∧L g=0∧RwM w F (fun k=>M k∧L k=1) e c0 x.l
  agree:=by rintro w w' F M v x ⟨g,L,c0,rfl,hb,hM,hL,h0⟩ a1 a2;exact ⟨g,L,c0,rfl,hb.keep (a2 g hM),hM,hL,h0.agree a1 fun k hk=>a2 k hk.1⟩
  mono:=by rintro w F M F' M' v x ⟨g,L,c0,rfl,hb,hM,hL,h0⟩ a1 a2 a3;exact ⟨g,L,c0,rfl,hb,a2 g hM,hL,h0.mono a1 (fun k hk=>⟨a2 k hk.1,hk.2⟩) fun k hf hm=>a3 k hf hm.1⟩
theorem BxC.opn {cx:Cx} {t e:TypeId} {α:Type} [Rp α] {i:Nat} {w:World} {O:Lab} {p:Nat} {x:BxR t e α} (h:Ob i w O (.pointer (some ⟨p,cx.pre.length,none⟩)) (BxR.c cx x)) (l0 l1:Nat) (hl:l0≠0∧l1≠0):∃ (O':Lab) (c0:Value),St (eT i) w O w O'∧(∀ k,Fr i w O k→∃ q,q∈[l0,l1]∧Fr q w O' k)∧Lc l0 w O' p cx.ty (cx.pre ++ c0 :: cx.post)∧Rw l1 w O' e c0 x.l:=by
  obtain ⟨⟨g,L,c0,hv,hb,hM,hL,h0⟩,hi⟩:=h
  obtain rfl:p=g:=by injection hv with hv;injection hv with hv;injection hv
  exact ⟨part O i L [l0,l1],c0,Mh hi,Lg (by simp),⟨hb,(Gi (j:=0) rfl p ⟨hM,hL⟩).2⟩,h0.rw (El hi) (Gi (j:=1) rfl) hl.2⟩
theorem BxC.shut {cx:Cx} {t e:TypeId} {α:Type} [Rp α] {w:World} {O:Lab} {p:Nat} {x:BxR t e α} {l0 l1:Nat} {c0:Value} (hd:¬ 0∈[l0,l1]∧[l0,l1].idxOf l0=0∧[l0,l1].idxOf l1=1) (hb:Lc l0 w O p cx.ty (cx.pre ++ c0 :: cx.post)) (h0:Rw l1 w O e c0 x.l):∃ O',St (·∈[l0,l1]) w O w O'∧(∀ k,Fr 0 w O k→Fr 0 w O' k)∧(∀ q,q∈[l0,l1]→∀ k,Fr q w O k→Fr l0 w O' k)∧Ob l0 w O' (.pointer (some ⟨p,cx.pre.length,none⟩)) (BxR.c cx x):=by
  have hb1:l0≠0:=fun e=>hd.1 (by simp [e])
  have hg:=Fz (i:=l0) hd.2.1 (by simp) p ⟨hb.1.lt,hb.2⟩
  exact ⟨whole O l0 [l0,l1],Lh,Df hd.1,Kh,⟨p,fun k=>[l0,l1].idxOf (O k),c0,rfl,hb.1,hg.1,hg.2,h0.m (Df hd.1) (Fz hd.2.2 (by simp)) (fun k a b=>frNe0 hb1 k a b.1)⟩,hb1⟩
theorem cxcell {cx:Cx} {w:World} {g:Nat} {c:Value} (h:Blk w g cx.ty (cx.pre ++ c :: cx.post)):w.cell? ⟨g,cx.pre.length,none⟩=some c:=h.cell (by simp)
theorem Mn {α:Type} (v c:α) (post:List α):∀ (pre:List α),(pre ++ c :: post).set pre.length v=pre ++ v :: post
  | []=>rfl
  | x :: pre=>by simp [Mn v c post pre]
section
variable {P : Program} {n : Nat} {ops : Array Oper} {Q : Post} {rest : List Oper} {l : Env} {w : World} {ty : TypeId} {pos : String} {aft : Array Edge}
theorem Lo {i:Nat} {O:Lab} {cx:Cx} {t:TypeId} {z:Value} {bytes:Nat} [TInfo P t z 1 bytes] {x y:Operand} {g:Nat} {c v:Value} (hL:Lc i w O g cx.ty (cx.pre ++ c :: cx.post)) (hx:opv l x=some (.pointer (some ⟨g,cx.pre.length,none⟩))) (hy:opv l y=some v)
    (hsz:v.cells.toList=[v]) (h1:∀ u∈v.cells.toList,u.oneCell'=true)
    (h:∀ w',St (eT i) w O w' O→Lc i w' O g cx.ty (cx.pre ++ v :: cx.post)→owp P n ops Q rest l w'):owp P n ops Q (⟨none,.store t x y,ty,pos,aft,none⟩ :: rest) l w:=by
  refine AT hL hx hy (by rw [hsz];rfl) (by simp) h1 fun w' hS hL'=>h w' hS ?_
  rw [hsz] at hL'
  have e:setFrom (cx.pre ++ c :: cx.post) cx.pre.length [v]=cx.pre ++ v :: cx.post:=by
    show (cx.pre ++ c :: cx.post).set cx.pre.length v=_
    rw [Mn]
  rwa [e] at hL'
end
end
section
open Go Go.RowKit
class TMap (P:Program) (t:TypeId) (k e:outParam TypeId):Prop where eq:P.underlying t=some (.map k e)
class MKey (K:Type) where
  dec:DecidableEq K
  enc:K→Value
  desc:TypeDesc
  key:∀ a,MapKept.IsKey desc (enc a)
  inj:∀ a b,enc a=enc b→a=b
class TKey (P:Program) (t:TypeId) (K:Type) [MKey K]:Prop where eq:P.underlying t=some (MKey.desc K)
instance:MKey ByteArray where
  dec:=inferInstance
  enc a:=.string a
  desc:=.string
  key _:=trivial
  inj _ _ h:=by injection h
section
variable {K V : Type} [MKey K]
instance keyDec:DecidableEq K:=MKey.dec
def mhas:List (K×V)→K→Bool
  | [],_=>false
  | p :: r,k=>if p.1=k then true else mhas r k
def mget (z:V):List (K×V)→K→V
  | [],_=>z
  | p :: r,k=>if p.1=k then p.2 else mget z r k
def mput:List (K×V)→K→V→List (K×V)
  | [],k,v=>[(k,v)]
  | p :: r,k,v=>if p.1=k then (k,v) :: r else p :: mput r k v
def midx:List (K×V)→K→Option Nat
  | [],_=>none
  | p :: r,k=>if p.1=k then some 0 else (midx r k).map (· + 1)
theorem FL (a:K):∀ (es:List MapEntry) (x:List (K×V)) (i:Nat),es.map (·.key)=x.map (fun p=>MKey.enc p.1) →
    (midx x a=none∧Instr.findNow (MKey.desc K) (MKey.enc a) es i=some none∧mhas x a=false∧(∀ z,mget z x a=z)∧∀ v,mput x a v=x ++ [(a,v)]) ∨
    ∃ j e p,midx x a=some j∧es[j]?=some e∧x[j]?=some p∧Instr.findNow (MKey.desc K) (MKey.enc a) es i=some (some (i + j,e.val))∧e.key=MKey.enc a∧mhas x a=true∧(∀ z,mget z x a=p.2)∧∀ v,mput x a v=x.set j (a,v)
  | [],[],_,_=>.inl ⟨rfl,rfl,rfl,fun _=>rfl,fun _=>rfl⟩
  | [],_ :: _,_,h=>by simp at h
  | _ :: _,[],_,h=>by simp at h
  | e :: es,p :: x,i,h=>by
    rw [List.map_cons,List.map_cons] at h
    injection h with h1 h2
    obtain ⟨r,hr,hiff⟩:=MapKept.sameNow_of_keys (MKey.key a) (MKey.key p.1)
    by_cases hp:p.1=a
    · have:r=true:=hiff.2 (by rw [hp])
      subst this
      refine .inr ⟨0,e,p,by simp [midx,hp],rfl,rfl,?_,by rw [h1,hp],by simp [mhas,hp],fun z=>by simp [mget,hp],fun v=>by simp [mput,hp]⟩
      simp [Instr.findNow,h1,hr]
    · have:r=false:=by
        cases r with
        | false=>rfl
        | true=>exact absurd (MKey.inj _ _ (hiff.1 rfl)).symm hp
      subst this
      rcases FL a es x (i + 1) h2 with ⟨g0,g1,g2,g3,g4⟩|⟨j,e',p',g0,g1,g2,g3,g4,g5,g6,g7⟩
      · exact .inl ⟨by simp [midx,hp,g0],by simp [Instr.findNow,h1,hr,g1],by simp [mhas,hp,g2],fun z=>by simp [mget,hp,g3],fun v=>by simp [mput,hp,g4]⟩
      · refine .inr ⟨j + 1,e',p',by simp [midx,hp,g0],by simpa using g1,by simpa using g2,?_,g4,by simp [mhas,hp,g5],fun z=>by simp [mget,hp,g6],fun v=>by simp [mput,hp,g7]⟩
        simp [Instr.findNow,h1,hr,g3];omega
end
def LkV (d:TypeDesc) (z:Value) (w:World) (r:Nat) (key v:Value) (b:Bool):Prop:=∃ es ck a,w.heap[r]?=some (.map es ck)∧Instr.findNow d key es.toList 0=some a∧v=(match a with|some p=>p.2|none=>z)∧b=a.isSome
section
variable {P : Program} {l : Env} {w : World} {dst : Option Tmp} {ty : TypeId} {pos : String} {aft : Array Edge}
theorem Qy {K:Type} [MKey K] {t k e:TypeId} [ht:TMap P t k e] [hk:TKey P k K] {z:Value} {size bytes:Nat} [TInfo P e z size bytes] {x y:Operand} {r:Nat} {a:K} {v:Value} {b:Bool} (hx:opv l x=some (.map (some r))) (hy:opv l y=some (MKey.enc a)) (hv:LkV (MKey.desc K) z w r (MKey.enc a) v b) :
    Ev P ⟨dst,.lookup t x y true,ty,pos,aft,none⟩ l w (.tuple #[v,.bool b]):=fun _ _ d ha=>by
  obtain ⟨es,ck,q,h1,h2,h3,h4⟩:=hv
  have hb:(dr w d).heap[r]?=some (.map es ck):=h1
  subst h3;subst h4
  cases q with
  | none=>simp [execOp,ha.eval hx,ha.eval hy,Instr.lookup,run_underlying ht.eq,MapKept.run_getObj_map hb,MapKept.run_checkKey hk.eq (MKey.key a),MapKept.run_findKey hk.eq h2,Result.andThen,He (P:=P) (t:=e)]
  | some p=>simp [execOp,ha.eval hx,ha.eval hy,Instr.lookup,run_underlying ht.eq,MapKept.run_getObj_map hb,MapKept.run_checkKey hk.eq (MKey.key a),MapKept.run_findKey hk.eq h2,Result.andThen]
end
def putEs (es:List MapEntry) (ck:Nat) (key v:Value):Option Nat→List MapEntry
  | none=>es ++ [{ key:=key,val:=v,born:=ck }]
  | some j=>es.modify j fun e=>{ e with key:=key,val:=v }
section
variable {P : Program} {n : Nat} {ops : Array Oper} {Q : Post} {rest : List Oper} {l : Env} {w : World} {d : Tmp} {ty : TypeId} {pos : String} {aft : Array Edge}
theorem Oa {K V:Type} [MKey K] {t k e:TypeId} [ht:TMap P t k e] [hk:TKey P k K] {x y u:Operand} {r ck:Nat} {a:K} {v:Value} {es:List MapEntry} {xs:List (K×V)} (hb:w.heap[r]?=some (.map es.toArray ck)) (hks:es.map (·.key)=xs.map (fun p=>MKey.enc p.1)) (hx:opv l x=some (.map (some r))) (hy:opv l y=some (MKey.enc a)) (hu:opv l u=some v)
    (h:∀ w' ck',w'.os=w.os→w'.tape=w.tape→w'.output=w.output→w'.heap.size=w.heap.size→w'.heap[r]?=some (.map (putEs es ck (MKey.enc a) v (midx xs a)).toArray ck')→(∀ q,q≠r→w'.heap[q]?=w.heap[q]?)→owp P n ops Q rest l w'):owp P n ops Q (⟨none,.mapUpdate t x y u,ty,pos,aft,none⟩ :: rest) l w:=fun ac d ha=>by
  refine wpList_plain rfl fun K' hK=>?_
  have hbd:(dr w d).heap[r]?=some (.map es.toArray ck):=hb
  unfold Oper.wp
  rcases FL a es xs 0 hks with ⟨g0,g1,_⟩|⟨j,e',p,g0,g1,g2,g3,g4,_⟩
  · have hr:(execOp ac.eval ⟨none,.mapUpdate t x y u,ty,pos,aft,none⟩).run P (dr w d)=.ok .skip { (dr w d) with heap:=(dr w d).heap.setIfInBounds r (.map (es.toArray.push { key:=MKey.enc a,val:=v,born:=ck }) (ck + 1)) }:=by
      simp [execOp,ha.eval hx,ha.eval hy,ha.eval hu,Instr.mapUpdate,run_underlying ht.eq,MapKept.run_getObj_map hbd,MapKept.run_checkKey hk.eq (MKey.key a),MapKept.run_findKey hk.eq g1,MapKept.run_setObj_map _ hbd,Result.andThen]
    rw [hr]
    refine hK _ _ (h { w with heap:=w.heap.setIfInBounds r (.map (es.toArray.push { key:=MKey.enc a,val:=v,born:=ck }) (ck + 1)) } (ck + 1) rfl rfl rfl (by simp) ?_ (fun q hq=>(MapKept.heap_set hb).2 q hq) _ d ha)
    rw [g0]
    simpa [putEs] using (MapKept.heap_set hb).1
  · have hj:es.toArray[j]?=some e':=by simpa using g1
    have hj':es[j]?=some e':=g1
    rw [Nat.zero_add] at g3
    have hr:(execOp ac.eval ⟨none,.mapUpdate t x y u,ty,pos,aft,none⟩).run P (dr w d)=.ok .skip { (dr w d) with heap:=(dr w d).heap.setIfInBounds r (.map (es.toArray.modify j fun e=>{ e with key:=MKey.enc a,val:=v }) ck) }:=by
      simp [execOp,ha.eval hx,ha.eval hy,ha.eval hu,Instr.mapUpdate,run_underlying ht.eq,MapKept.run_getObj_map hbd,MapKept.run_checkKey hk.eq (MKey.key a),MapKept.run_findKey hk.eq g3,hj',g4,MapKept.run_keyThatStays (MKey.key a),MapKept.run_setObj_map _ hbd,Result.andThen]
    rw [hr]
    refine hK _ _ (h { w with heap:=w.heap.setIfInBounds r (.map (es.toArray.modify j fun e=>{ e with key:=MKey.enc a,val:=v }) ck) } ck rfl rfl rfl (by simp) ?_ (fun q hq=>(MapKept.heap_set hb).2 q hq) _ d ha)
    rw [g0]
    have:=(MapKept.heap_set (o':=.map (es.toArray.modify j fun e=>{ e with key:=MKey.enc a,val:=v }) ck) hb).1
    simpa [putEs] using this
theorem No {t:TypeId} (hd:Nat.blt d n=true) (h:∀ w',Ext w w'→w'.heap.size=w.heap.size + 1→w'.heap[w.heap.size]?=some (.map #[] 0)→owp P n ops Q rest ((d,.map (some w.heap.size)) :: l) w'):owp P n ops Q (⟨some d,.makeMap t none,ty,pos,aft,none⟩ :: rest) l w :=
  GV (w':=w.alloc (.map #[] 0)) (fun a e ha=>.inl ⟨.map (some w.heap.size),e,by simp [execOp,Instr.makeMap];exact ⟨rfl,rfl⟩,ha.put hd _⟩)
    (h _ ((Below.refl _ _).alloc (Nat.le_refl _) _) (by simp) (by show (w.heap.push _)[_]?=_;simp))
end
theorem MK {K V:Type} [MKey K] {es:List MapEntry} {xs:List (K×V)} (ck:Nat) (a:K) (v:Value) (y:V) (h:es.map (·.key)=xs.map (fun p=>MKey.enc p.1)):(putEs es ck (MKey.enc a) v (midx xs a)).map (·.key)=(mput xs a y).map (fun p=>MKey.enc p.1):=by
  rcases FL a es xs 0 h with ⟨g0,_,_,_,g4⟩|⟨j,e',p,g0,g1,g2,g3,g4,_,_,g7⟩
  · rw [g0,g4];simp [putEs,h]
  · rw [g0,g7]
    simp only [putEs,List.map_set,← h]
    apply List.ext_getElem?
    intro q
    rw [List.getElem?_map,List.getElem?_modify,List.getElem?_set]
    by_cases hq:j=q
    · subst hq
      have hlt:j < es.length:=AG g1
      simp [g1,hlt]
    · simp [hq]
structure MapP (K V:Type) where
  l:List (K×V)
def VA {V:Type} [Rp V] (w:World) (F:Nat→Prop) (es:List MapEntry) {K:Type} (xs:List (K×V)):Prop:=∀ (j:Nat) (e:MapEntry) (p:K×V),es[j]?=some e→xs[j]?=some p→Vb w F e.val p.2
instance {K V:Type} [MKey K] [Rp V]:Ow (MapP K V) where
  R w F M v x:=∃ (r:Nat) (es:List MapEntry) (ck:Nat),v=.map (some r)∧w.heap[r]?=some (.map es.toArray ck)∧M r∧es.map (·.key)=x.l.map (fun p=>MKey.enc p.1)∧VA w F es x.l
  agree:=by rintro w w' F M v x ⟨r,es,ck,rfl,hb,hM,hk,hv⟩ a1 a2;exact ⟨r,es,ck,rfl,(a2 r hM).trans hb,hM,hk,fun j e p h1 h2=>(hv j e p h1 h2).agree a1⟩
  mono:=by rintro w F M F' M' v x ⟨r,es,ck,rfl,hb,hM,hk,hv⟩ a1 a2 a3;exact ⟨r,es,ck,rfl,hb,a2 r hM,hk,fun j e p h1 h2=>(hv j e p h1 h2).mono a1⟩
class OwM (α:Type) [Ow α]:Prop where
  mptr:∀ {w:World} {F M:Nat→Prop} {v:Value} {x:α},Ow.R w F M v x→∃ r,v=.map (some r)
theorem Ob.mptr {α:Type} [Ow α] [OwM α] {i:Nat} {w:World} {O:Lab} {v:Value} {x:α} (h:Ob i w O v x):∃ r,v=.map (some r):=OwM.mptr h.1
instance {K V:Type} [MKey K] [Rp V]:OwM (MapP K V):=⟨by rintro w F M v x ⟨r,es,ck,rfl,_⟩;exact ⟨r,rfl⟩⟩
theorem VA.put {K V:Type} [MKey K] [Rp V] {w:World} {F:Nat→Prop} {es:List MapEntry} {xs:List (K×V)} {ck:Nat} {a:K} {v:Value} {y:V} (hk:es.map (·.key)=xs.map (fun p=>MKey.enc p.1)) (h:VA w F es xs) (hv:Vb w F v y):VA w F (putEs es ck (MKey.enc a) v (midx xs a)) (mput xs a y):=by
  have hlen:es.length=xs.length:=by have:=congrArg List.length hk;simpa using this
  intro q e p h1 h2
  rcases FL a es xs 0 hk with ⟨g0,_,_,_,g4⟩|⟨j,e',p',g0,g1,g2,g3,g4,_,_,g7⟩
  · rw [g0] at h1
    rw [g4] at h2
    simp only [putEs] at h1
    by_cases hq:q < es.length
    · rw [List.getElem?_append_left hq] at h1
      rw [List.getElem?_append_left (by omega)] at h2
      exact h q e p h1 h2
    · rw [List.getElem?_append_right (by omega)] at h1
      rw [List.getElem?_append_right (by omega)] at h2
      cases hz:q - es.length with
      | zero =>
        rw [hz] at h1
        rw [show q - xs.length=0 from by omega] at h2
        simp at h1 h2
        subst h1;subst h2
        exact hv
      | succ m=>rw [hz] at h1;simp at h1
  · rw [g0] at h1
    rw [g7] at h2
    simp only [putEs] at h1
    rw [List.getElem?_modify] at h1
    rw [List.getElem?_set] at h2
    by_cases hq:j=q
    · subst hq
      have hlt:=AG g2
      rw [g1] at h1
      simp [hlt] at h1 h2
      subst h1;subst h2
      exact hv
    · simp [hq] at h1 h2
      exact h q e p h1 h2
section
variable {K V : Type} [MKey K] [Rp V] {i : Nat} {w : World} {O : Lab} {r : Nat} {x : MapP K V}
theorem MapP.get (h:Ob i w O (.map (some r)) x) (a:K) {z:Value} {z0:V} (hz:Vb w (Fr 0 w O) z z0):∃ v,LkV (MKey.desc K) z w r (MKey.enc a) v (mhas x.l a)∧Vb w (Fr 0 w O) v (mget z0 x.l a):=by
  obtain ⟨⟨r',es,ck,hv,hb,hM,hk,hva⟩,_⟩:=h
  injection hv with hv
  injection hv with hv
  subst hv
  rcases FL a es x.l 0 hk with ⟨g0,g1,g2,g3,g4⟩|⟨j,e',p,g0,g1,g2,g3,g4,g5,g6,g7⟩
  · exact ⟨z,⟨_,ck,none,hb,by simpa using g1,rfl,g2⟩,by rw [g3];exact hz⟩
  · exact ⟨e'.val,⟨_,ck,some (0 + j,e'.val),hb,by simpa using g3,rfl,g5⟩,by rw [g6];exact hva j e' p g1 g2⟩
end
section
variable {P : Program} {n : Nat} {ops : Array Oper} {Q : Post} {rest : List Oper} {l : Env} {w : World} {d : Tmp} {ty : TypeId} {pos : String} {aft : Array Edge} {K V : Type} [MKey K] {i : Nat} {O : Lab} {r : Nat}
theorem Qz [Rp V] {x:MapP K V} {t k e:TypeId} [TMap P t k e] [TKey P k K] {m y u:Operand} {a:K} {v:Value} {b:V} (hM:Ob i w O (.map (some r)) x) (hv:Vb w (Fr 0 w O) v b) (hx:opv l m=some (.map (some r))) (hy:opv l y=some (MKey.enc a)) (hu:opv l u=some v)
    (h:∀ w',St (eT i) w O w' O→Ob i w' O (.map (some r)) (⟨mput x.l a b⟩:MapP K V)→owp P n ops Q rest l w'):owp P n ops Q (⟨none,.mapUpdate t m y u,ty,pos,aft,none⟩ :: rest) l w:=by
  obtain ⟨⟨r',es,ck,hv',hb,hM',hk,hva⟩,hi⟩:=hM
  injection hv' with hv'
  injection hv' with hv'
  subst hv'
  refine Oa hb hk hx hy hu fun w' ck' e1 e2 e3 e4 e5 e6=>?_
  have hS:St (eT i) w O w' O:=⟨e1,e2,e3,by omega,fun q hq hT=>⟨e6 q fun e=>hT (by rw [e];exact hM'.2),rfl⟩⟩
  have h0:¬ (eT i) 0:=fun e=>hi e.symm
  refine h w' hS ⟨⟨r,_,ck',rfl,e5,⟨by rw [e4];exact hM'.1,hM'.2⟩,MK ck a v b hk,?_⟩,hi⟩
  have:=hva.put (ck:=ck) hk hv (a:=a)
  exact fun j e p h1 h2=>((this j e p h1 h2).agree (hS.agree h0)).mono (hS.fr h0)
theorem Pq [Rp V] {t:TypeId} (i:Nat) (hi:i≠0) (O:Lab) (hd:Nat.blt d n=true) (h:∀ g w' O',St nT w O w' O'→Ob i w' O' (.map (some g)) (⟨[]⟩:MapP K V)→owp P n ops Q rest ((d,.map (some g)) :: l) w'):owp P n ops Q (⟨some d,.makeMap t none,ty,pos,aft,none⟩ :: rest) l w :=
  No hd fun w' hE hs hb=>h _ w' _ (hE.st O fun _=>i) ⟨⟨w.heap.size,[],0,rfl,hb,⟨by omega,EQ (Nat.le_refl _)⟩,rfl,fun j e p h1 _=>by simp at h1⟩,hi⟩
end
section
variable {P : Program} {n : Nat} {ops : Array Oper} {Q : Post} {rest : List Oper} {l : Env} {w : World} {d : Tmp} {ty : TypeId} {pos : String} {aft : Array Edge} {S : World → Prop} {rr : List (Nat × Bool)} {i' : Nat}
theorem Ra {K:Type} [MKey K] {t k e:TypeId} [TMap P t k e] [TKey P k K] {z:Value} {size bytes:Nat} [TInfo P e z size bytes] {x y:Operand} {r:Nat} {v:Value} {b:Bool} (a:K) (hv:LkV (MKey.desc K) z w r (MKey.enc a) v b) (hx:opv l x=some (.map (some r))) (hy:opv l y=some (MKey.enc a)) (hd:Nat.blt d n=true) (h:owp P n ops Q rest ((d,.tuple #[v,.bool b]) :: l) w):owp P n ops Q (⟨some d,.lookup t x y true,ty,pos,aft,none⟩ :: rest) l w:=Bv (Qy hx hy hv) hd h
end
end
section
open Go Go.RowKit
attribute [local irreducible] ewp owp hwp hwq hws Ev Evg Fn retPost loud loudS Res1
attribute [local irreducible] hwx loudX
structure OEn where
  cost:Int
  number:Int
  node:Int
instance:Rp OEn where
  isAgg:=true
  size:=3
  R w F cs x:=cs=[.int .i64 x.cost,.int .i64 x.number,.int .i64 x.node]∧inI64 x.cost∧inI64 x.number∧inI64 x.node
  len:=by rintro w F cs x ⟨rfl,h0,h1,h2⟩;rfl
  one:=by rintro w F cs x ⟨rfl,h0,h1,h2⟩ u hu;simp at hu;rcases hu with rfl|rfl|rfl<;>first|rfl|exact Vb.one rfl (by assumption)
  agree:=by rintro w w' F cs x ⟨rfl,h0,h1,h2⟩ ha;exact ⟨rfl,h0,h1,h2⟩
  mono:=by rintro w F G cs x ⟨rfl,h0,h1,h2⟩ ha;exact ⟨rfl,h0,h1,h2⟩
instance : TMth Tryz.prog 76 "Len" 26 false := ⟨by kernel_rfl⟩
instance : TMth Tryz.prog 76 "Less" 155 false := ⟨by kernel_rfl⟩
instance : TMth Tryz.prog 76 "Pop" 157 true := ⟨by kernel_rfl⟩
instance : TMth Tryz.prog 76 "Push" 158 true := ⟨by kernel_rfl⟩
instance : TMth Tryz.prog 76 "Swap" 156 false := ⟨by kernel_rfl⟩
noncomputable def BW (x0:List OEn):Option Int :=
  some (x0.length:Int)
theorem Fg {w:World} {A:Nat→Prop} (hA:∀ k,A k→k < w.heap.size) {vx0:Value} {x0:List OEn} (a0:Vb w A vx0 x0) {r:Int} (hm:BW x0=some r) :
    Fn Tryz.prog 26 [vx0] w fun v w'=>Ext w w'∧Vb w' (upA A w w') v r:=by
 obtain ⟨O,hB,b0⟩:=enter hA
 replace a0:=a0.mono b0
 obtain ⟨A2,c3,rfl⟩:=a0.form
 refine AL Tryz.func26 rfl Tryz.ntmps26 rfl ?_
 unfold BW at hm
 refine Al (Aj (Aw rfl rfl (o_z ?_)))
 refine Al (Aj (Ar rfl rfl (AZ rfl rfl ?_)))
 have l5:x0.length≤9223372036854775807:=Nat.le_trans a0.len.2.1 a0.len.2.2
 have r4:inI64 (x0.length:Int):=rngNat l5
 refine Aw rfl rfl (o_z ?_)
 refine AH ?_
 obtain rfl:=sm hm
 exact ret1v rfl (AD rfl) ⟨hB.ext,(vInt r4)⟩
noncomputable def BY (x0:List OEn) (x1:Int) (x2:Int):Option Bool :=
  bnd (atI x0 x1) fun a6=>bnd (atI x0 x2) fun a20=>if a6.cost≠a20.cost then (bnd (bnd (atI x0 x1) fun a39=>bnd (atI x0 x2) fun a53=>if a39.cost < a53.cost then (some true) else (some false):Option Bool) fun y35=>some y35) else (bnd (bnd (atI x0 x1) fun a76=>bnd (atI x0 x2) fun a90=>if a76.number < a90.number then (some true) else (some false):Option Bool) fun y72=>some y72)
theorem ET {w:World} {A:Nat→Prop} (hA:∀ k,A k→k < w.heap.size) {vx0:Value} {x0:List OEn} (c0:Vb w A vx0 x0) {x1:Int} (rx1:inI64 x1) {x2:Int} (rx2:inI64 x2) {r:Bool} (hm:BY x0 x1 x2=some r) :
    Fn Tryz.prog 155 [vx0,(.int .i64 x1),(.int .i64 x2)] w fun v w'=>Ext w w'∧Vb w' (upA A w w') v r:=by
 obtain ⟨O,hB,b1⟩:=enter hA
 replace c0:=c0.mono b1
 obtain ⟨A4,c5,rfl⟩:=c0.form
 refine AL Tryz.func155 rfl Tryz.ntmps155 rfl ?_
 unfold BY at hm
 refine Al (Aj (Aw rfl rfl (o_z ?_)))
 refine Al (Al (Cv (·=w) [(0,true),(1,true),(2,true),(3,true),(4,true),(5,true),(6,true),(7,true),(8,true),(9,true),(10,true)] (by kernel_rfl) rfl (by kernel_rfl) rfl ?_))
 refine AP rfl rfl rfl (AP rfl rfl rfl ?_)
 obtain ⟨a6,e7,hm⟩:=bs hm
 obtain ⟨p9,x8⟩:=Bb e7
 obtain ⟨i2,j2,c1,f0,g0,h0,rfl,k2,l2,m2⟩:=c0.elem' x8
 refine BE (hA:=f0) (hj:=(Int.toNat_of_nonneg p9).symm) (hlt:=g0) rfl rfl rfl rfl ?_
 refine Be rfl rfl rfl (CY (hc:=cat0 h0) rfl rfl rfl ?_)
 refine AP rfl rfl rfl (AP rfl rfl rfl ?_)
 obtain ⟨n2,d1,hm⟩:=bs hm
 obtain ⟨e1,f1⟩:=Bb d1
 obtain ⟨o2,p2,g1,i0,j0,k0,rfl,q2,r2,s2⟩:=c0.elem' f1
 refine BE (hA:=i0) (hj:=(Int.toNat_of_nonneg e1).symm) (hlt:=j0) rfl rfl rfl rfl ?_
 refine Be rfl rfl rfl (CY (hc:=cat0 k0) rfl rfl rfl ?_)
 refine Ir rfl rfl rfl rfl (fun l0=>?_) fun l0=>?_
 ·
  replace hm:=ip hm l0
  refine h_z ?_
  refine Ah rfl (Al ?_)
  obtain ⟨h1,a0,hm⟩:=bs hm
  refine AJ (fun l' w'=>∃ (i1:Unit) (O':Lab),subs l' [(6,(.bool h1))]∧Bs w A w' O') ?_ ?_
  ·
   refine Cv (·=w) [(0,true),(1,true),(2,true),(3,true),(4,true),(5,true),(6,true),(7,true),(8,true),(9,true),(10,true),(11,true)] (by kernel_rfl) rfl (by kernel_rfl) rfl ?_
   refine AP rfl rfl rfl (AP rfl rfl rfl ?_)
   obtain ⟨t2,j1,a0⟩:=bs a0
   obtain ⟨k1,l1⟩:=Bb j1
   obtain ⟨u2,v2,m1,m0,n0,o0,rfl,w2,y2,z2⟩:=c0.elem' l1
   refine BE (hA:=m0) (hj:=(Int.toNat_of_nonneg k1).symm) (hlt:=n0) rfl rfl rfl rfl ?_
   refine Be rfl rfl rfl (CY (hc:=cat0 o0) rfl rfl rfl ?_)
   refine AP rfl rfl rfl (AP rfl rfl rfl ?_)
   obtain ⟨a3,n1,a0⟩:=bs a0
   obtain ⟨o1,p1⟩:=Bb n1
   obtain ⟨b3,c3,q1,p0,q0,r0,rfl,d3,e3,f3⟩:=c0.elem' p1
   refine BE (hA:=p0) (hj:=(Int.toNat_of_nonneg o1).symm) (hlt:=q0) rfl rfl rfl rfl ?_
   refine Be rfl rfl rfl (CY (hc:=cat0 r0) rfl rfl rfl ?_)
   refine FF rfl rfl rfl rfl (fun s0=>?_) fun s0=>?_
   ·
    replace a0:=ip a0 s0
    refine Ff rfl rfl rfl (h_z ?_)
    obtain rfl:=sm a0
    exact ⟨(),_,⟨rfl,trivial⟩,hB⟩
   replace a0:=im a0 s0
   refine Ff rfl rfl rfl (h_z ?_)
   obtain rfl:=sm a0
   exact ⟨(),_,⟨rfl,trivial⟩,hB⟩
  rintro g3 h3 ⟨i1,i3,t0,hB⟩
  refine AN _ t0 ?_
  refine AH ?_
  obtain rfl:=sm hm
  exact ret1v rfl (AD rfl) ⟨hB.ext,vBool⟩
 replace hm:=im hm l0
 refine h_z ?_
 refine Ae rfl (AO (Al ?_))
 obtain ⟨r1,b0,hm⟩:=bs hm
 refine AJ (fun l' w'=>∃ (s1:Unit) (O':Lab),subs l' [(6,(.bool r1))]∧Bs w A w' O') ?_ ?_
 ·
  refine Cv (·=w) [(0,true),(1,true),(2,true),(3,true),(4,true),(5,true),(6,true),(7,true),(8,true),(9,true),(10,true),(11,true)] (by kernel_rfl) rfl (by kernel_rfl) rfl ?_
  refine AP rfl rfl rfl (AP rfl rfl rfl ?_)
  obtain ⟨j3,t1,b0⟩:=bs b0
  obtain ⟨u1,v1⟩:=Bb t1
  obtain ⟨k3,l3,w1,u0,v0,w0,rfl,m3,n3,o3⟩:=c0.elem' v1
  refine BE (hA:=u0) (hj:=(Int.toNat_of_nonneg u1).symm) (hlt:=v0) rfl rfl rfl rfl ?_
  refine Be rfl rfl rfl (CY (hc:=cat1 w0) rfl rfl rfl ?_)
  refine AP rfl rfl rfl (AP rfl rfl rfl ?_)
  obtain ⟨p3,y1,b0⟩:=bs b0
  obtain ⟨z1,a2⟩:=Bb y1
  obtain ⟨q3,r3,b2,y0,z0,a1,rfl,c2,d2,e2⟩:=c0.elem' a2
  refine BE (hA:=y0) (hj:=(Int.toNat_of_nonneg z1).symm) (hlt:=z0) rfl rfl rfl rfl ?_
  refine Be rfl rfl rfl (CY (hc:=cat1 a1) rfl rfl rfl ?_)
  refine FF rfl rfl rfl rfl (fun d0=>?_) fun d0=>?_
  ·
   replace b0:=ip b0 d0
   refine Ff rfl rfl rfl (h_z ?_)
   obtain rfl:=sm b0
   exact ⟨(),_,⟨rfl,trivial⟩,hB⟩
  replace b0:=im b0 d0
  refine Ff rfl rfl rfl (h_z ?_)
  obtain rfl:=sm b0
  exact ⟨(),_,⟨rfl,trivial⟩,hB⟩
 rintro f2 g2 ⟨s1,h2,e0,hB⟩
 refine AN _ e0 ?_
 refine AH ?_
 obtain rfl:=sm hm
 exact ret1v rfl (AD rfl) ⟨hB.ext,vBool⟩
noncomputable def BN (x0:List OEn) (x1:Int) (x2:Int):Option (List OEn) :=
  bnd (atI x0 x2) fun a4=>bnd (atI x0 x1) fun a18=>bnd (atI x0 x1) fun a32=>bnd (atI (x0.set (x1:Int).toNat a4) x2) fun a48=>some ((x0.set (x1:Int).toNat a4).set (x2:Int).toNat a18)
theorem EU {w:World} {O:Lab} {A0:Option Addr} {m0 c0 i0:Nat} {x0:List OEn} (a0:Rw i0 w O 73 (.slice A0 m0 c0) x0) {x1:Int} (rx1:inI64 x1) {x2:Int} (rx2:inI64 x2) {r:(List OEn)} (hm:BN x0 x1 x2=some r) :
    Fn Tryz.prog 156 [(.slice A0 m0 c0),(.int .i64 x1),(.int .i64 x2)] w fun v w'=>∃ O',St (eT i0) w O w' O'∧Rw i0 w' O' 73 (.slice A0 m0 c0) r:=by
 obtain ⟨O0,hE,u0,v0⟩:=ent1 (w:=w) (O:=O) a0.2.2
 obtain rfl:m0=x0.length:=a0.len.1
 have a0':=Rw.leave a0 u0 v0 (j:=2) (by decide)
 have hB:Bm w O0 w O0:=Bm.refl
 refine AL Tryz.func156 rfl Tryz.ntmps156 rfl ?_
 unfold BN at hm
 refine Bz [(13,[2])] O0 ?_
 refine AR (fuel:=5) [] [(0,true),(1,true),(4,true),(5,true),(6,true),(7,true),(8,true),(9,true),(10,true),(11,true),(12,true)] (by kernel_rfl) rfl ?_
 refine AP rfl rfl rfl (AP rfl rfl rfl (AP rfl rfl rfl (AP rfl rfl rfl ?_)))
 obtain ⟨a4,e5,hm⟩:=bs hm
 obtain ⟨p7,x6⟩:=Bb e5
 obtain ⟨b8,o9,w0,f0,g0,h0,j0,rfl,y0,z0,a1⟩:=a0'.elemF x6
 refine BE (hA:=f0) (hj:=(Int.toNat_of_nonneg p7).symm) (hlt:=h0) rfl rfl rfl rfl ?_
 refine CQ (hl:=rfl) (hb:=fun w' ⟨O',hq⟩=>(AV (hq.agree (i:=2) (by decide)) g0 j0)) rfl rfl rfl ?_
 refine AP rfl rfl rfl (AP rfl rfl rfl ?_)
 obtain ⟨b0,b1,hm⟩:=bs hm
 obtain ⟨c1,d1⟩:=Bb b1
 obtain ⟨t1,u1,e1,k0,l0,n0,o0,rfl,f1,g1,h1⟩:=a0'.elemF d1
 refine BE (hA:=k0) (hj:=(Int.toNat_of_nonneg c1).symm) (hlt:=n0) rfl rfl rfl rfl ?_
 refine CQ (hl:=rfl) (hb:=fun w' ⟨O',hq⟩=>(AV (hq.agree (i:=2) (by decide)) l0 o0)) rfl rfl rfl ?_
 obtain ⟨v1,i1,hm⟩:=bs hm
 obtain ⟨j1,r0⟩:=Bb i1
 obtain ⟨w1,y1,k1,d0,l1,p0,m1,rfl,z1,a2,b2⟩:=a0'.elemF r0
 refine BE (hA:=d0) (hj:=(Int.toNat_of_nonneg j1).symm) (hlt:=p0) rfl rfl rfl rfl ?_
 refine AB ?_
 refine AR (fuel:=3) [2] [(2,true),(3,true)] (by kernel_rfl) rfl ?_
 refine AP rfl rfl rfl (AP rfl rfl rfl (AB ?_))
 refine AQ (i:=13) (by kernel_rfl) rfl ?_
 refine DY rfl a0' (a:=a4) (Vb.ofAgg (cs:=[(.int .i64 a4.cost),(.int .i64 a4.number),(.int .i64 a4.node)]) (x:=a4) rfl ⟨rfl,y0,z0,a1⟩) d0 rfl rfl (AG r0) fun c2 s0 a0'=>?_
 have hZ:=s0.lst [2] (fun _ h=>by cases h;decide)
 refine AW [] hZ (by kernel_rfl) ?_
 refine AR (fuel:=1) [] [(14,true)] (by kernel_rfl) rfl ?_
 obtain ⟨d2,n1,hm⟩:=bs hm
 obtain ⟨o1,t0⟩:=Bb n1
 obtain ⟨e2,f2,p1,e0,q1,q0,r1,rfl,g2,h2,i2⟩:=a0'.elemF t0
 refine BE (hA:=e0) (hj:=(Int.toNat_of_nonneg o1).symm) (hlt:=q0) rfl rfl rfl rfl ?_
 refine AB ?_
 refine AQ (i:=15) (by kernel_rfl) rfl ?_
 refine DY rfl a0' (a:=b0) (Vb.ofAgg (cs:=[(.int .i64 b0.cost),(.int .i64 b0.number),(.int .i64 b0.node)]) (x:=b0) rfl ⟨rfl,f1,g1,h1⟩) e0 rfl rfl (AG t0) fun j2 s1 a0'=>?_
 refine Cf (by kernel_rfl) ?_
 refine Bp (by kernel_rfl) ?_
 obtain rfl:=sm hm
 replace hB:=(hB.st s0).st s1
 obtain ⟨O',hS',hz,hl⟩:=hE.leave (fun q=>if q=2 then i0 else 0) rfl hB
 exact ret0n rfl  ⟨O',hS',(Rw.leave a0' hz (hl 2 (by decide) (by decide)) a0.2.2)⟩
noncomputable def DT (x0:BxR 67 73 OEn) (x1:An 73 OEn):Option (BxR 67 73 OEn) :=
  bnd (appI 24 x0.l [x1.x]) fun u31=>some (⟨u31⟩:BxR 67 73 OEn)
theorem IB {w:World} {O:Lab} {cx:Cx} {p0 i0:Nat} {x0:BxR 67 73 OEn} (a0:Ob i0 w O (.pointer (some ⟨p0,cx.pre.length,none⟩)) (BxR.c cx x0)) {vx1:Value} {x1:An 73 OEn} (g0:Vb w (Fr 0 w O) vx1 x1) {r:(BxR 67 73 OEn)} (hm:DT x0 x1=some r) :
    Fn Tryz.prog 158 [(.pointer (some ⟨p0,cx.pre.length,none⟩)),vx1] w fun v w'=>∃ O',St (eT i0) w O w' O'∧Ob i0 w' O' (.pointer (some ⟨p0,cx.pre.length,none⟩)) (BxR.c cx r):=by
 obtain ⟨O0,hE,k0,s0⟩:=ent1 (w:=w) (O:=O) a0.2
 have a0':=Ob.leave a0 k0 s0 (j:=2) (by decide)
 have hB:Bm w O0 w O0:=Bm.refl
 replace g0:=g0.mono k0
 obtain ⟨v3,rfl,h4⟩:=g0.any
 obtain ⟨f1,rfl,rfl,r6,r7,r8⟩:=h4
 refine AL Tryz.func158 rfl Tryz.ntmps158 rfl ?_
 unfold DT at hm
 refine Al (Aj (Ar rfl rfl (Pc rfl rfl ?_)))
 refine Ar rfl rfl (CJ rfl rfl rfl (CJ rfl rfl rfl (Bg 3 O0 rfl fun g9 g1 t0 m0 b0=>?_)))
 refine AT b0 rfl rfl rfl (Bj rfl) (allOne rfl) fun u0 n0 b0=>?_
 replace b0:Lc 3 u0 t0 g9 73 [(.int .i64 x1.x.cost),(.int .i64 x1.x.number),(.int .i64 x1.x.node)]:=b0
 refine Aw rfl rfl (o_z ?_)
 refine Al (Aj (Ar rfl rfl (o_z ?_)))
 refine Ah rfl ?_
 replace a0':=(a0'.st m0).st n0
 obtain ⟨o0,h1,q0,v0,c0,d0⟩:=BxC.opn a0' 2 4 (by decide)
 obtain ⟨i1,j1,rfl⟩:=d0.form
 refine Bz [(6,[4])] o0 ?_
 refine AR (fuel:=5) [] [(1,true),(2,true),(3,true),(4,true)] (by kernel_rfl) rfl ?_
 refine AP rfl rfl rfl (Ds rfl rfl rfl (AY (hc:=fun w' ⟨O',hq⟩=>cxcell ((c0.st hq (by decide)).1)) rfl rfl rfl ?_))
 replace b0:=b0.st q0
 refine CQ (hl:=rfl) (hb:=fun w' ⟨O',hq⟩=>((b0.st hq (by decide)).1).cellsAt) rfl rfl rfl ?_
 refine AB ?_
 refine AR (fuel:=4) [4] [(0,true)] (by kernel_rfl) rfl ?_
 refine AP rfl rfl rfl (AB ?_)
 refine AQ (i:=5) (by kernel_rfl) rfl ?_
 refine CB 5 (by decide) o0 (xs:=([x1.x]:List OEn)) rfl rfl rfl rfl ⟨(Vb.ofAgg (cs:=[(.int .i64 x1.x.cost),(.int .i64 x1.x.number),(.int .i64 x1.x.node)]) (x:=x1.x) rfl ⟨rfl,r6,r7,r8⟩),trivial⟩ (by decide) (by decide) rfl fun k1 m1 n1 e0 w0=>?_
 have hZ:=e0.lst [] (fun _ h=>h.elim)
 refine AW [(6,[4])] hZ (by kernel_rfl) ?_
 refine AQ (i:=6) (by kernel_rfl) rfl ?_
 obtain ⟨y0,h0,hm⟩:=bs hm
 obtain ⟨h0,z0,a1⟩:=CG h0
 replace d0:=d0.st e0
 refine EJ rfl d0 (w0.rd) rfl rfl (by decide) z0 a1 rfl fun o1 p1 q1 r1 j0 f0=>?_
 rw [← h0] at f0 ⊢
 have hZ:=j0.lst [4] (fun _ h=>by cases h;decide)
 refine AW [] hZ (by kernel_rfl) ?_
 refine AR (fuel:=1) [] [(7,true)] (by kernel_rfl) rfl ?_
 refine Ds rfl rfl rfl (AB ?_)
 refine AQ (i:=8) (by kernel_rfl) rfl ?_
 replace c0:=(c0.st e0).st j0
 refine Lo c0 rfl rfl rfl (allOne rfl) fun s1 r0 c0=>?_
 refine Cf (by kernel_rfl) ?_
 refine Bp (by kernel_rfl) ?_
 replace f0:=f0.st r0
 obtain ⟨t1,b1,c1,d1,e1⟩:=BxC.shut (x:=(⟨y0⟩:BxR 67 73 OEn)) (l0:=2) (l1:=4) (by decide) c0 f0
 obtain rfl:=sm hm
 replace hB:=((((((hB.st m0).st n0).st q0).st e0).st j0).st r0).st b1
 obtain ⟨O',hS',hz,hl⟩:=hE.leave (fun q=>if q=2 then i0 else 0) rfl hB
 exact ret0n rfl  ⟨O',hS',(Ob.leave e1 hz (hl 2 (by decide) (by decide)) a0.2)⟩
noncomputable def Em (x0:BxR 67 73 OEn):Option ((An 73 OEn)×(BxR 67 73 OEn)) :=
  bnd (chkI ((x0.l.length:Int) - 1)) fun n13=>bnd (atI x0.l n13) fun a16=>bnd (chkI ((x0.l.length:Int) - 1)) fun n39=>bnd (cutI x0.l 0 n39) fun u42=>some ((⟨a16⟩:An 73 OEn),(⟨u42⟩:BxR 67 73 OEn))
theorem IY {w:World} {O:Lab} {cx:Cx} {p0 i0:Nat} {x0:BxR 67 73 OEn} (c0:Ob i0 w O (.pointer (some ⟨p0,cx.pre.length,none⟩)) (BxR.c cx x0)) {r:(An 73 OEn)×(BxR 67 73 OEn)} (hm:Em x0=some r) :
    Fn Tryz.prog 157 [(.pointer (some ⟨p0,cx.pre.length,none⟩))] w fun v w'=>∃ O',St (eT i0) w O w' O'∧Ob i0 w' O' (.pointer (some ⟨p0,cx.pre.length,none⟩)) (BxR.c cx r.2)∧Vb w' (Fr 0 w' O') v r.1:=by
 obtain ⟨O0,hE,o0,q0⟩:=ent1 (w:=w) (O:=O) c0.2
 have c0':=Ob.leave c0 o0 q0 (j:=2) (by decide)
 have hB:Bm w O0 w O0:=Bm.refl
 refine AL Tryz.func157 rfl Tryz.ntmps157 rfl ?_
 unfold Em at hm
 refine Al (Aj (Aw rfl rfl (o_z ?_)))
 refine Al (Aj (Ar rfl rfl (Dr rfl rfl ?_)))
 obtain ⟨O2,v6,S3,m1,h4,h7⟩:=BxC.opn c0' 2 3 (by decide)
 obtain ⟨A8,c9,rfl⟩:=h7.form
 refine AF (hc:=cxcell (h4.1)) rfl rfl ?_
 refine Aw rfl rfl (o_z ?_)
 refine Al (Aj (Ar rfl rfl (Ar rfl rfl (AZ rfl rfl ?_))))
 have r0:x0.l.length≤9223372036854775807:=Nat.le_trans h7.len.2.1 h7.len.2.2
 have n1:inI64 (x0.l.length:Int):=rngNat r0
 obtain ⟨o1,m0,hm⟩:=bs hm
 have p1:=(CE m0)
 refine Hj (he:=m0) rfl rfl rfl ?_
 obtain ⟨a0,s0,hm⟩:=bs hm
 obtain ⟨t0,u0⟩:=Bb s0
 obtain ⟨q1,r1,v0,d0,e0,f0,rfl,w0,y0,z0⟩:=h7.elem u0
 refine BA (hA:=d0) (hj:=(Int.toNat_of_nonneg t0).symm) (hlt:=e0) rfl rfl rfl ?_
 refine Bl (hl:=rfl) (hc:=f0) rfl rfl ?_
 refine Bg 4 O2 rfl fun a1 s1 b1 g0 b0=>?_
 refine AT b0 rfl rfl rfl (Bj rfl) (allOne rfl) fun c1 h0 b0=>?_
 replace b0:Lc 4 c1 b1 a1 73 [(.int .i64 a0.cost),(.int .i64 a0.number),(.int .i64 a0.node)]:=b0
 refine o_z ?_
 refine Al (Aj (Ar rfl rfl (Ar rfl rfl (Ar rfl rfl (AZ rfl rfl ?_)))))
 replace h7:=(h7.st g0).st h0
 have d1:x0.l.length≤9223372036854775807:=Nat.le_trans h7.len.2.1 h7.len.2.2
 have t1:inI64 (x0.l.length:Int):=rngNat d1
 obtain ⟨u1,n0,hm⟩:=bs hm
 have v1:=(CE n0)
 refine Hj (he:=n0) rfl rfl rfl ?_
 obtain ⟨e1,f1,hm⟩:=bs hm
 obtain ⟨j0,g1⟩:=cutRw h7 f1
 refine Qs (hc:=g1) rfl rfl rfl ?_
 refine Dr rfl rfl ?_
 replace h4:=(h4.st g0).st h0
 refine Lo h4 rfl rfl rfl (allOne rfl) fun w1 k0 h4=>?_
 refine o_z ?_
 refine Al (Aj ?_)
 replace b0:=b0.st k0
 refine Bl (hl:=rfl) (hc:=(b0.1).cellsAt) rfl rfl ?_
 refine Pa rfl rfl ?_
 refine Aw rfl rfl (o_z ?_)
 refine AH ?_
 replace j0:=j0.st k0
 obtain ⟨x1,h1,i1,j1,k1⟩:=BxC.shut (x:=(⟨e1⟩:BxR 67 73 OEn)) (l0:=2) (l1:=3) (by decide) h4 j0
 obtain rfl:=sm hm
 replace hB:=((((hB.st S3).st g0).st h0).st k0).st h1
 obtain ⟨O',hS',hz,hl⟩:=hE.leave (fun q=>if q=2 then i0 else 0) rfl hB
 exact ret1v rfl (AD rfl) ⟨O',hS',(Ob.leave k1 hz (hl 2 (by decide) (by decide)) c0.2),(vAny (Vb.ofAgg (cs:=[(.int .i64 a0.cost),(.int .i64 a0.number),(.int .i64 a0.node)]) (x:=a0) rfl ⟨rfl,w0,y0,z0⟩))⟩
noncomputable def Db (x0:BxR 67 73 OEn) (x1:Int):Option (BxR 67 73 OEn) :=
  bnd (lop (ρ:=(BxR 67 73 OEn)) (fun (s5:Int×(BxR 67 73 OEn))=>bnd (chkI (s5.1 - 1)) fun n22=>bnd (quoT n22 2) fun n25=>bnd (if n25=s5.1 then (some true) else (bnd (BY s5.2.l s5.1 n25) fun q42=>if q42=true then some false else some true):Option Bool) fun y28=>if y28=true then (some (.brk (s5.1,s5.2))) else (bnd (BN s5.2.l n25 s5.1) fun q73=>some (.next (n25,(⟨q73⟩:BxR 67 73 OEn))))) (x1,x0)) fun res3=>fin res3 fun (s90:Int×(BxR 67 73 OEn))=>some s90.2
theorem HG {w:World} {O:Lab} {cx:Cx} {p0 i0:Nat} {x0:BxR 67 73 OEn} (h0:Ob i0 w O (.pointer (some ⟨p0,cx.pre.length,none⟩)) (BxR.c cx x0)) {x1:Int} (rx1:inI64 x1) {r:(BxR 67 73 OEn)} (hm:Db x0 x1=some r) :
    Fn Tryz.prog 88 [(.iface 76 (.pointer (some ⟨p0,cx.pre.length,none⟩))),(.int .i64 x1)] w fun v w'=>∃ O',St (eT i0) w O w' O'∧Ob i0 w' O' (.pointer (some ⟨p0,cx.pre.length,none⟩)) (BxR.c cx r):=by
 obtain ⟨O0,hE,c1,d1⟩:=ent1 (w:=w) (O:=O) h0.2
 have h0':=Ob.leave h0 c1 d1 (j:=2) (by decide)
 have hB:Bm w O0 w O0:=Bm.refl
 refine AL Tryz.func88 rfl Tryz.ntmps88 rfl ?_
 unfold Db at hm
 obtain ⟨m0,e1,hm⟩:=bs hm
 refine AJ (aft m0 (fun (s5:Int×(BxR 67 73 OEn)) (x6:Unit)=>[]) (fun s5 x6 w'=>∃ O':Lab,Bm w O0 w' O'∧Ob 2 w' O' (.pointer (some ⟨p0,cx.pre.length,none⟩)) (BxR.c cx s5.2)∧inI64 s5.1)) ?_ ?_
 ·
  refine AX (Gh (σ:=Int×(BxR 67 73 OEn)) (X:=Unit) e1 (fun (s5:Int×(BxR 67 73 OEn)) (x6:Unit)=>[(0,(.iface 76 (.pointer (some ⟨p0,cx.pre.length,none⟩)))),(1,(.int .i64 s5.1))]) _ (fun s5 x6 w'=>∃ O':Lab,Bm w O0 w' O'∧Ob 2 w' O' (.pointer (some ⟨p0,cx.pre.length,none⟩)) (BxR.c cx s5.2)∧inI64 s5.1) _ () ⟨O0,hB,h0',rx1⟩ ⟨rfl,rfl,trivial⟩ ?_)
  rintro s5 x6 w9 f1 ⟨h2,hB,d0,j0⟩ a0 n0 e0
  refine AX (Al (Aj (Ar rfl rfl ?_)))
  obtain ⟨i2,t0,a0⟩:=bs a0
  have u0:=(CE t0)
  refine Hj (he:=t0) rfl rfl rfl ?_
  obtain ⟨g1,v0,a0⟩:=bs a0
  have o0:=Mm v0 u0
  refine QZ (he:=v0) (hr:=u0) rfl rfl rfl ?_
  refine Aw rfl rfl (o_z ?_)
  refine Al (Al ?_)
  obtain ⟨h1,b0,a0⟩:=bs a0
  refine AJ (fun l' w'=>∃ (i1:Unit) (O':Lab),subs l' [(0,(.iface 76 (.pointer (some ⟨p0,cx.pre.length,none⟩)))),(1,(.int .i64 s5.1)),(4,(.int .i64 g1)),(17,(.bool h1))]∧Bm w O0 w' O'∧Ob 2 w' O' (.pointer (some ⟨p0,cx.pre.length,none⟩)) (BxR.c cx s5.2)) ?_ ?_
  ·
   refine Aj (Ar rfl rfl (Ar rfl rfl (DL rfl rfl rfl (fun q0=>?_) fun q0=>?_)))
   ·
    replace b0:=ip b0 q0
    refine Ar rfl rfl (At rfl rfl rfl rfl (At rfl rfl rfl rfl (At rfl rfl rfl rfl (At rfl rfl rfl rfl (At rfl rfl rfl rfl (Bk rfl rfl rfl (o_z ?_)))))))
    obtain rfl:=sm b0
    exact ⟨(),_,⟨rfl,rfl,rfl,rfl,trivial⟩,hB,d0⟩
   replace b0:=im b0 q0
   refine Ar rfl rfl (Au rfl rfl (Ar rfl rfl (Au rfl rfl (Ar rfl rfl (Au rfl rfl (Ar rfl rfl (Au rfl rfl ?_)))))))
   obtain ⟨j1,j2,w0,k1,f0,c0⟩:=BxC.opn d0 2 3 (by decide)
   obtain ⟨k2,l2,rfl⟩:=c0.form
   obtain ⟨y0,m1,b0⟩:=bs b0
   refine HU (O:=j1) (A:=All w9) (R:=fun w' F v=>Vb w' F v y0) (ET (fun _ h=>h) (c0).all j0 o0 m1) (Fk (cxcell f0.1)) rfl rfl rfl fun m2 n2 o2 g0 n1=>?_
   obtain rfl:=n1.bool
   cases y0
   case false =>
    replace b0:=iF b0
    refine Au rfl rfl (Ce rfl rfl (Bf rfl rfl rfl (o_z ?_)))
    replace f0:=f0.st g0
    replace c0:=c0.st g0
    obtain ⟨p2,o1,p1,q1,r1⟩:=BxC.shut (x:=s5.2) (l0:=2) (l1:=3) (by decide) f0 c0
    obtain rfl:=sm b0
    exact ⟨(),_,⟨rfl,rfl,rfl,rfl,trivial⟩,((hB.st w0).st g0).st o1,r1⟩
   replace b0:=iT b0
   refine Au rfl rfl (Cd rfl rfl (Bf rfl rfl rfl (o_z ?_)))
   replace f0:=f0.st g0
   replace c0:=c0.st g0
   obtain ⟨q2,s1,t1,u1,v1⟩:=BxC.shut (x:=s5.2) (l0:=2) (l1:=3) (by decide) f0 c0
   obtain rfl:=sm b0
   exact ⟨(),_,⟨rfl,rfl,rfl,rfl,trivial⟩,((hB.st w0).st g0).st s1,v1⟩
  rintro r2 s2 ⟨i1,t2,r0,hB,d0⟩
  refine AN _ r0 ?_
  refine BP rfl (fun s0=>?_) (fun s0=>?_)
  ·
   replace a0:=ip a0 s0
   refine DP ?_
   obtain rfl:=sm a0
   exact show Exists _ from ⟨_,(),e0 _ rfl,trivial,_,hB,d0,j0⟩
  replace a0:=im' a0 s0
  refine AO (Al (Aj (Ar rfl rfl (Ar rfl rfl (Ar rfl rfl ?_)))))
  obtain ⟨w1,u2,y1,z1,k0,z0⟩:=BxC.opn d0 2 3 (by decide)
  obtain ⟨v2,w2,rfl⟩:=z0.form
  obtain ⟨a2,b2,a0⟩:=bs a0
  refine HT (O:=w1) (EU z0 o0 j0 b2) (Fk (cxcell k0.1)) rfl rfl rfl fun x2 y2 z2 a1 b1=>?_
  refine o_z ?_
  refine Aj (Ar rfl rfl (Aw rfl rfl (o_z ?_)))
  replace k0:=k0.st a1
  obtain ⟨a3,c2,d2,e2,f2⟩:=BxC.shut (x:=(⟨a2⟩:BxR 67 73 OEn)) (l0:=2) (l1:=3) (by decide) (by have q:=k0;rw [← b1.len.1.symm] at q;exact q) b1.relen
  obtain rfl:=sm a0
  exact show Exists _ from ⟨_,(),rfl,⟨rfl,rfl,trivial⟩,_,((hB.st y1).st a1).st c2,f2,o0⟩
 rintro b3 c3 ⟨d3,e3,rfl,g2,f3,hB,d0,j0⟩
 replace hm:=Bh hm
 obtain rfl:=sm hm
 obtain ⟨O',hS',hz,hl⟩:=hE.leave (fun q=>if q=2 then i0 else 0) rfl hB
 exact ret0n rfl  ⟨O',hS',(Ob.leave d0 hz (hl 2 (by decide) (by decide)) h0.2)⟩
noncomputable def CP (x0:BxR 67 73 OEn) (x1:Int) (x2:Int):Option (Bool×(BxR 67 73 OEn)) :=
  bnd (lop (ρ:=Bool×(BxR 67 73 OEn)) (fun (s6:Int×(BxR 67 73 OEn))=>bnd (chkI (2 * s6.1)) fun n23=>bnd (chkI (n23 + 1)) fun n26=>bnd (if x2≤n26 then (some true) else (if n26 < 0 then (some true) else (some false)):Option Bool) fun y29=>if y29=true then (some (.brk (s6.1,s6.2))) else (bnd (bnd (chkI (n26 + 1)) fun n45=>bnd (if n45 < x2 then (bnd (BY s6.2.l n45 n26) fun q62=>if q62=true then some true else some false) else (some false):Option Bool) fun y48=>if y48=true then (some n45) else (some n26):Option Int) fun y40=>bnd (BY s6.2.l y40 s6.1) fun q97=>if q97=true then bnd (BN s6.2.l s6.1 y40) fun q109=>some (.next (y40,(⟨q109⟩:BxR 67 73 OEn))) else some (.brk (s6.1,s6.2)))) (x1,x0)) fun res4=>fin res4 fun (s126:Int×(BxR 67 73 OEn))=>bnd (if x1 < s126.1 then (some true) else (some false):Option Bool) fun y128=>some (y128,s126.2)
theorem GZ {w:World} {O:Lab} {cx:Cx} {p0 i0:Nat} {x0:BxR 67 73 OEn} (r0:Ob i0 w O (.pointer (some ⟨p0,cx.pre.length,none⟩)) (BxR.c cx x0)) {x1:Int} (rx1:inI64 x1) {x2:Int} (rx2:inI64 x2) {r:Bool×(BxR 67 73 OEn)} (hm:CP x0 x1 x2=some r) :
    Fn Tryz.prog 60 [(.iface 76 (.pointer (some ⟨p0,cx.pre.length,none⟩))),(.int .i64 x1),(.int .i64 x2)] w fun v w'=>∃ O',St (eT i0) w O w' O'∧Ob i0 w' O' (.pointer (some ⟨p0,cx.pre.length,none⟩)) (BxR.c cx r.2)∧Vb w' (Fr 0 w' O') v r.1:=by
 obtain ⟨O0,hE,m2,n2⟩:=ent1 (w:=w) (O:=O) r0.2
 have r0':=Ob.leave r0 m2 n2 (j:=2) (by decide)
 have hB:Bm w O0 w O0:=Bm.refl
 refine AL Tryz.func60 rfl Tryz.ntmps60 rfl ?_
 unfold CP at hm
 refine Al (Aj (Aw rfl rfl (o_z ?_)))
 refine Al (Aj (Ar rfl rfl (Aw rfl rfl (o_z ?_))))
 refine Al ?_
 obtain ⟨z0,o2,hm⟩:=bs hm
 refine AJ (aft z0 (fun (s6:Int×(BxR 67 73 OEn)) (x7:Unit)=>[(1,(.int .i64 x1)),(7,(.int .i64 s6.1))]) (fun s6 x7 w'=>∃ O':Lab,Bm w O0 w' O'∧Ob 2 w' O' (.pointer (some ⟨p0,cx.pre.length,none⟩)) (BxR.c cx s6.2)∧inI64 s6.1)) ?_ ?_
 ·
  refine AX (Gh (σ:=Int×(BxR 67 73 OEn)) (X:=Unit) o2 (fun (s6:Int×(BxR 67 73 OEn)) (x7:Unit)=>[(0,(.iface 76 (.pointer (some ⟨p0,cx.pre.length,none⟩)))),(1,(.int .i64 x1)),(2,(.int .i64 x2)),(7,(.int .i64 s6.1))]) _ (fun s6 x7 w'=>∃ O':Lab,Bm w O0 w' O'∧Ob 2 w' O' (.pointer (some ⟨p0,cx.pre.length,none⟩)) (BxR.c cx s6.2)∧inI64 s6.1) _ () ⟨O0,hB,r0',rx1⟩ ⟨rfl,rfl,rfl,rfl,trivial⟩ ?_)
  rintro s6 x7 b4 p2 ⟨c4,hB,g0,s0⟩ a0 a1 h0
  refine AX (Al (Aj (Ar rfl rfl ?_)))
  obtain ⟨d4,w1,a0⟩:=bs a0
  have e4:=(CE w1)
  refine QV (he:=w1) rfl rfl rfl ?_
  obtain ⟨y1,z1,a0⟩:=bs a0
  have a2:=(CE z1)
  refine Hi (he:=z1) rfl rfl rfl ?_
  refine Aw rfl rfl (o_z ?_)
  refine Al (Al ?_)
  obtain ⟨q2,c0,a0⟩:=bs a0
  refine AJ (fun l' w'=>∃ (r2:Unit) (O':Lab),subs l' [(0,(.iface 76 (.pointer (some ⟨p0,cx.pre.length,none⟩)))),(1,(.int .i64 x1)),(2,(.int .i64 x2)),(7,(.int .i64 s6.1)),(8,(.int .i64 y1)),(21,(.bool q2))]∧Bm w O0 w' O'∧Ob 2 w' O' (.pointer (some ⟨p0,cx.pre.length,none⟩)) (BxR.c cx s6.2)) ?_ ?_
  ·
   refine Aj (Ar rfl rfl (Ar rfl rfl (FZ rfl rfl rfl (fun b1=>?_) fun b1=>?_)))
   ·
    replace c0:=ip c0 b1
    refine Ar rfl rfl (At rfl rfl rfl rfl (At rfl rfl rfl rfl (Bk rfl rfl rfl (o_z ?_))))
    obtain rfl:=sm c0
    exact ⟨(),_,⟨rfl,rfl,rfl,rfl,rfl,rfl,trivial⟩,hB,g0⟩
   replace c0:=im c0 b1
   refine Ar rfl rfl (Au rfl rfl (Ar rfl rfl (Au rfl rfl (Dg rfl rfl rfl (fun c1=>?_) fun c1=>?_))))
   ·
    replace c0:=ip c0 c1
    refine Bf rfl rfl rfl (o_z ?_)
    obtain rfl:=sm c0
    exact ⟨(),_,⟨rfl,rfl,rfl,rfl,rfl,rfl,trivial⟩,hB,g0⟩
   replace c0:=im c0 c1
   refine Bf rfl rfl rfl (o_z ?_)
   obtain rfl:=sm c0
   exact ⟨(),_,⟨rfl,rfl,rfl,rfl,rfl,rfl,trivial⟩,hB,g0⟩
  rintro f4 s2 ⟨r2,g4,d1,hB,g0⟩
  refine AN _ d1 ?_
  refine BP rfl (fun e1=>?_) (fun e1=>?_)
  ·
   replace a0:=ip a0 e1
   refine DP ?_
   obtain rfl:=sm a0
   exact show Exists _ from ⟨_,(),h0 _ rfl,⟨rfl,rfl,trivial⟩,_,hB,g0,s0⟩
  replace a0:=im' a0 e1
  refine AO (Al (Aj (Ar rfl rfl (Aw rfl rfl (o_z ?_)))))
  refine Al ?_
  obtain ⟨b2,d0,a0⟩:=bs a0
  refine AJ (fun l' w'=>∃ (t2:Unit) (O':Lab),subs l' [(0,(.iface 76 (.pointer (some ⟨p0,cx.pre.length,none⟩)))),(1,(.int .i64 x1)),(2,(.int .i64 x2)),(7,(.int .i64 s6.1)),(9,(.int .i64 b2))]∧Bm w O0 w' O'∧Ob 2 w' O' (.pointer (some ⟨p0,cx.pre.length,none⟩)) (BxR.c cx s6.2)∧inI64 b2) ?_ ?_
  ·
   refine Al (Aj (Ar rfl rfl ?_))
   obtain ⟨u2,c2,d0⟩:=bs d0
   have d2:=(CE c2)
   refine Hi (he:=c2) rfl rfl rfl ?_
   refine Aw rfl rfl (o_z ?_)
   refine Al ?_
   obtain ⟨v2,b0,d0⟩:=bs d0
   refine AJ (fun l' w'=>∃ (w2:Unit) (O':Lab),subs l' [(0,(.iface 76 (.pointer (some ⟨p0,cx.pre.length,none⟩)))),(1,(.int .i64 x1)),(2,(.int .i64 x2)),(7,(.int .i64 s6.1)),(9,(.int .i64 y1)),(10,(.int .i64 u2)),(33,(.bool v2))]∧Bm w O0 w' O'∧Ob 2 w' O' (.pointer (some ⟨p0,cx.pre.length,none⟩)) (BxR.c cx s6.2)) ?_ ?_
   ·
    refine Aj (Ar rfl rfl (Ar rfl rfl (Dg rfl rfl rfl (fun f1=>?_) fun f1=>?_)))
    ·
     replace b0:=ip b0 f1
     refine Ar rfl rfl (Au rfl rfl (Ar rfl rfl (Au rfl rfl (Ar rfl rfl (Au rfl rfl (Ar rfl rfl (Au rfl rfl ?_)))))))
     obtain ⟨y2,h4,e2,z2,n0,k0⟩:=BxC.opn g0 2 3 (by decide)
     obtain ⟨i4,j4,rfl⟩:=k0.form
     obtain ⟨f2,a3,b0⟩:=bs b0
     refine HU (O:=y2) (A:=All s2) (R:=fun w' F v=>Vb w' F v f2) (ET (fun _ h=>h) (k0).all d2 a2 a3) (Fk (cxcell n0.1)) rfl rfl rfl fun k4 l4 m4 q0 y0=>?_
     obtain rfl:=y0.bool
     cases f2
     case false =>
      replace b0:=iF b0
      refine Bk rfl rfl rfl (o_z ?_)
      replace n0:=n0.st q0
      replace k0:=k0.st q0
      obtain ⟨n4,b3,c3,d3,e3⟩:=BxC.shut (x:=s6.2) (l0:=2) (l1:=3) (by decide) n0 k0
      obtain rfl:=sm b0
      exact ⟨(),_,⟨rfl,rfl,rfl,rfl,rfl,rfl,rfl,trivial⟩,((hB.st e2).st q0).st b3,e3⟩
     replace b0:=iT b0
     refine Bk rfl rfl rfl (o_z ?_)
     replace n0:=n0.st q0
     replace k0:=k0.st q0
     obtain ⟨o4,f3,g3,h3,i3⟩:=BxC.shut (x:=s6.2) (l0:=2) (l1:=3) (by decide) n0 k0
     obtain rfl:=sm b0
     exact ⟨(),_,⟨rfl,rfl,rfl,rfl,rfl,rfl,rfl,trivial⟩,((hB.st e2).st q0).st f3,i3⟩
    replace b0:=im b0 f1
    refine Ar rfl rfl (At rfl rfl rfl rfl (At rfl rfl rfl rfl (At rfl rfl rfl rfl (At rfl rfl rfl rfl (Bf rfl rfl rfl (o_z ?_))))))
    obtain rfl:=sm b0
    exact ⟨(),_,⟨rfl,rfl,rfl,rfl,rfl,rfl,rfl,trivial⟩,hB,g0⟩
   rintro p4 q4 ⟨w2,r4,g1,hB,y0⟩
   refine AN _ g1 ?_
   refine BP rfl (fun h1=>?_) (fun h1=>?_)
   ·
    replace d0:=ip d0 h1
    refine Aj (Ar rfl rfl (Aw rfl rfl (o_z ?_)))
    obtain rfl:=sm d0
    exact ⟨(),_,⟨rfl,rfl,rfl,rfl,rfl,trivial⟩,hB,y0,d2⟩
   replace d0:=im' d0 h1
   refine AO ?_
   obtain rfl:=sm d0
   exact ⟨(),_,⟨rfl,rfl,rfl,rfl,rfl,trivial⟩,hB,y0,a2⟩
  rintro s4 j3 ⟨t2,t4,i1,hB,k3,j1⟩
  refine AN _ i1 ?_
  refine Al (Al (Aj (Ar rfl rfl (Ar rfl rfl (Ar rfl rfl ?_)))))
  obtain ⟨l3,u4,g2,m3,j0,m0⟩:=BxC.opn k3 2 3 (by decide)
  obtain ⟨v4,w4,rfl⟩:=m0.form
  obtain ⟨h2,n3,a0⟩:=bs a0
  refine HU (O:=l3) (A:=All j3) (R:=fun w' F v=>Vb w' F v h2) (ET (fun _ h=>h) (m0).all j1 s0 n3) (Fk (cxcell j0.1)) rfl rfl rfl fun o3 x4 k1 f0 m1=>?_
  obtain rfl:=m1.bool
  cases h2
  case false =>
   replace a0:=iF a0
   refine Ce rfl rfl (o_z ?_)
   refine Ah rfl (DP ?_)
   replace j0:=j0.st f0
   replace m0:=m0.st f0
   obtain ⟨p3,n1,i2,j2,o1⟩:=BxC.shut (x:=s6.2) (l0:=2) (l1:=3) (by decide) j0 m0
   obtain rfl:=sm a0
   exact show Exists _ from ⟨_,(),h0 _ rfl,⟨rfl,rfl,trivial⟩,_,((hB.st g2).st f0).st n1,o1,s0⟩
  replace a0:=iT a0
  refine Cd rfl rfl (o_z ?_)
  refine Ae rfl (AO (Al (Aj (Ar rfl rfl (Ar rfl rfl (Ar rfl rfl ?_))))))
  obtain ⟨p1,q1,a0⟩:=bs a0
  replace j0:=j0.st f0
  replace m0:=m0.st f0
  refine HT (O:=k1) (EU m0 s0 j1 q1) (Fk (cxcell j0.1)) rfl rfl rfl fun q3 r3 s3 t0 u0=>?_
  refine o_z ?_
  refine Aj (Ar rfl rfl (Aw rfl rfl (o_z ?_)))
  replace j0:=j0.st t0
  obtain ⟨t3,r1,k2,l2,s1⟩:=BxC.shut (x:=(⟨p1⟩:BxR 67 73 OEn)) (l0:=2) (l1:=3) (by decide) (by have q:=j0;rw [← u0.len.1.symm] at q;exact q) u0.relen
  obtain rfl:=sm a0
  exact show Exists _ from ⟨_,(),rfl,⟨rfl,rfl,rfl,rfl,trivial⟩,_,(((hB.st g2).st f0).st t0).st r1,s1,j1⟩
 rintro u3 v3 ⟨t1,w3,rfl,v0,x3,hB,g0,s0⟩
 replace hm:=Bh hm
 refine AN _ v0 ?_
 refine Al ?_
 obtain ⟨u1,e0,hm⟩:=bs hm
 refine AJ (fun l' w'=>∃ (v1:Unit) (O':Lab),subs l' [(6,(.bool u1))]∧Bm w O0 w' O'∧Ob 2 w' O' (.pointer (some ⟨p0,cx.pre.length,none⟩)) (BxR.c cx t1.2)) ?_ ?_
 ·
  refine Aj (Ar rfl rfl (Ar rfl rfl (Cu rfl rfl rfl (fun o0=>?_) fun o0=>?_)))
  ·
   replace e0:=ip e0 o0
   refine Aw rfl rfl (o_z ?_)
   obtain rfl:=sm e0
   exact ⟨(),_,⟨rfl,trivial⟩,hB,g0⟩
  replace e0:=im e0 o0
  refine Aw rfl rfl (o_z ?_)
  obtain rfl:=sm e0
  exact ⟨(),_,⟨rfl,trivial⟩,hB,g0⟩
 rintro y3 z3 ⟨v1,a4,w0,hB,g0⟩
 refine AN _ w0 ?_
 refine AH ?_
 obtain rfl:=sm hm
 obtain ⟨O',hS',hz,hl⟩:=hE.leave (fun q=>if q=2 then i0 else 0) rfl hB
 exact ret1v rfl (AD rfl) ⟨O',hS',(Ob.leave g0 hz (hl 2 (by decide) (by decide)) r0.2),vBool⟩
noncomputable def Cz (x0:BxR 67 73 OEn) (x1:An 73 OEn):Option (BxR 67 73 OEn) :=
  bnd (DT x0 (⟨x1.x⟩:An 73 OEn)) fun q9=>bnd (BW q9.l) fun q26=>bnd (chkI (q26 - 1)) fun n34=>bnd (Db q9 n34) fun q42=>some q42
theorem Ha {w:World} {O:Lab} {cx:Cx} {p0 i0:Nat} {x0:BxR 67 73 OEn} (a0:Ob i0 w O (.pointer (some ⟨p0,cx.pre.length,none⟩)) (BxR.c cx x0)) {vx1:Value} {x1:An 73 OEn} (d0:Vb w (Fr 0 w O) vx1 x1) {r:(BxR 67 73 OEn)} (hm:Cz x0 x1=some r) :
    Fn Tryz.prog 59 [(.iface 76 (.pointer (some ⟨p0,cx.pre.length,none⟩))),vx1] w fun v w'=>∃ O',St (eT i0) w O w' O'∧Ob i0 w' O' (.pointer (some ⟨p0,cx.pre.length,none⟩)) (BxR.c cx r):=by
 obtain ⟨O0,hE,f0,h0⟩:=ent1 (w:=w) (O:=O) a0.2
 have a0':=Ob.leave a0 f0 h0 (j:=2) (by decide)
 have hB:Bm w O0 w O0:=Bm.refl
 replace d0:=d0.mono f0
 obtain ⟨v3,rfl,h4⟩:=d0.any
 obtain ⟨f1,rfl,rfl,r6,r7,r8⟩:=h4
 refine AL Tryz.func59 rfl Tryz.ntmps59 rfl ?_
 unfold Cz at hm
 refine Al (Aj (Ar rfl rfl (Ar rfl rfl ?_)))
 obtain ⟨q9,j0,hm⟩:=bs hm
 refine HT (O:=O0) (IB a0' (vAny (Vb.ofAgg (cs:=[(.int .i64 x1.x.cost),(.int .i64 x1.x.number),(.int .i64 x1.x.node)]) (x:=x1.x) rfl ⟨rfl,r6,r7,r8⟩)) j0) Mk rfl rfl rfl fun g1 k0 h1 m0 n0=>?_
 refine o_z ?_
 refine Aj (Ar rfl rfl (Ar rfl rfl ?_))
 obtain ⟨o0,i1,q0,r0,c0,b0⟩:=BxC.opn n0 2 3 (by decide)
 obtain ⟨j1,k1,rfl⟩:=b0.form
 obtain ⟨s0,t0,hm⟩:=bs hm
 refine HU (O:=o0) (A:=All k0) (R:=fun w' F v=>Vb w' F v s0) (Fg (fun _ h=>h) (b0).all t0) (Fk (cxcell c0.1)) rfl rfl rfl fun m1 n1 o1 e0 u0=>?_
 obtain ⟨rfl,p1⟩:=u0.int
 obtain ⟨q1,g0,hm⟩:=bs hm
 have v0:=(CE g0)
 refine Hj (he:=g0) rfl rfl rfl ?_
 replace c0:=c0.st e0
 replace b0:=b0.st e0
 obtain ⟨w0,y0,z0,a1,b1⟩:=BxC.shut (x:=q9) (l0:=2) (l1:=3) (by decide) c0 b0
 obtain ⟨r1,c1,hm⟩:=bs hm
 refine Fj (O:=w0) (HG b1 v0 c1) rfl rfl fun s1 t1 u1 d1 e1=>?_
 refine o_z ?_
 obtain rfl:=sm hm
 replace hB:=((((hB.st m0).st q0).st e0).st y0).st d1
 obtain ⟨O',hS',hz,hl⟩:=hE.leave (fun q=>if q=2 then i0 else 0) rfl hB
 exact ret0n rfl  ⟨O',hS',(Ob.leave e1 hz (hl 2 (by decide) (by decide)) a0.2)⟩
noncomputable def CD (x0:BxR 67 73 OEn):Option ((An 73 OEn)×(BxR 67 73 OEn)) :=
  bnd (BW x0.l) fun q11=>bnd (chkI (q11 - 1)) fun n19=>bnd (BN x0.l 0 n19) fun q22=>bnd (CP (⟨q22⟩:BxR 67 73 OEn) 0 n19) fun q35=>bnd (Em q35.2) fun q44=>some ((⟨q44.1.x⟩:An 73 OEn),q44.2)
theorem Hk {w:World} {O:Lab} {cx:Cx} {p0 i0:Nat} {x0:BxR 67 73 OEn} (a0:Ob i0 w O (.pointer (some ⟨p0,cx.pre.length,none⟩)) (BxR.c cx x0)) {r:(An 73 OEn)×(BxR 67 73 OEn)} (hm:CD x0=some r) :
    Fn Tryz.prog 27 [(.iface 76 (.pointer (some ⟨p0,cx.pre.length,none⟩)))] w fun v w'=>∃ O',St (eT i0) w O w' O'∧Ob i0 w' O' (.pointer (some ⟨p0,cx.pre.length,none⟩)) (BxR.c cx r.2)∧Vb w' (Fr 0 w' O') v r.1:=by
 obtain ⟨O0,hE,h0,j0⟩:=ent1 (w:=w) (O:=O) a0.2
 have a0':=Ob.leave a0 h0 j0 (j:=2) (by decide)
 have hB:Bm w O0 w O0:=Bm.refl
 refine AL Tryz.func27 rfl Tryz.ntmps27 rfl ?_
 unfold CD at hm
 refine Al (Aj (Aw rfl rfl (o_z ?_)))
 refine Al (Aj (Ar rfl rfl ?_))
 obtain ⟨O2,v6,S3,p1,h4,h7⟩:=BxC.opn a0' 2 3 (by decide)
 obtain ⟨A8,c9,rfl⟩:=h7.form
 obtain ⟨k0,m0,hm⟩:=bs hm
 refine HU (O:=O2) (A:=All w) (R:=fun w' F v=>Vb w' F v k0) (Fg (fun _ h=>h) (h7).all m0) (Fk (cxcell h4.1)) rfl rfl rfl fun q1 r1 n0 c0 o0=>?_
 obtain ⟨rfl,s1⟩:=o0.int
 obtain ⟨t1,d0,hm⟩:=bs hm
 have e0:=(CE d0)
 refine Hj (he:=d0) rfl rfl rfl ?_
 refine Aw rfl rfl (o_z ?_)
 refine Al (Aj (Ar rfl rfl (Ar rfl rfl ?_)))
 obtain ⟨q0,r0,hm⟩:=bs hm
 replace h4:=h4.st c0
 replace h7:=h7.st c0
 refine HT (O:=n0) (EU h7 (show inI64 (0) from by decide) e0 r0) (Fk (cxcell h4.1)) rfl rfl rfl fun u1 v1 w1 f0 g0=>?_
 refine o_z ?_
 refine Al (Aj (Ar rfl rfl (Ar rfl rfl ?_)))
 replace h4:=h4.st f0
 obtain ⟨s0,t0,u0,v0,w0⟩:=BxC.shut (x:=(⟨q0⟩:BxR 67 73 OEn)) (l0:=2) (l1:=3) (by decide) (by have q:=h4;rw [← g0.len.1.symm] at q;exact q) g0.relen
 obtain ⟨x1,y0,hm⟩:=bs hm
 refine Fj (O:=s0) (GZ w0 (show inI64 (0) from by decide) e0 y0) rfl rfl fun y1 z1 z0 a1 b1=>?_
 obtain ⟨c1,d1⟩:=b1
 obtain rfl:=d1.bool
 refine o_z ?_
 refine Al (Aj (Ar rfl rfl ?_))
 obtain ⟨b0,e1,hm⟩:=bs hm
 refine HT (O:=z0) (IY c1 e1) Mk rfl rfl rfl fun a2 b2 c2 f1 g1=>?_
 obtain ⟨h1,i1⟩:=g1
 obtain ⟨d2,rfl,j1⟩:=i1.any
 obtain ⟨k1,rfl,rfl,m1,n1,o1⟩:=j1
 refine Aw rfl rfl (o_z ?_)
 refine AH ?_
 obtain rfl:=sm hm
 replace hB:=(((((hB.st S3).st c0).st f0).st t0).st a1).st f1
 obtain ⟨O',hS',hz,hl⟩:=hE.leave (fun q=>if q=2 then i0 else 0) rfl hB
 exact ret1v rfl (AD rfl) ⟨O',hS',(Ob.leave h1 hz (hl 2 (by decide) (by decide)) a0.2),(vAny (Vb.ofAgg (cs:=[(.int .i64 b0.1.x.cost),(.int .i64 b0.1.x.number),(.int .i64 b0.1.x.node)]) (x:=b0.1.x) rfl ⟨rfl,m1,n1,o1⟩))⟩
end
section
open Go.Shelf
def Tryz.laysS_f96_ren:Go.Shelf.Ren:=⟨fun|6=>96|15=>105|14=>104|28=>116|29=>117|20=>108|21=>109|22=>110|23=>111|24=>112|25=>113|26=>114|27=>115|46=>127|47=>128|48=>129|49=>130|50=>131|57=>135|n=>n,fun|22=>23|24=>45|25=>159|3=>3|39=>166|0=>0|53=>176|55=>178|4=>4|46=>170|45=>169|50=>86|5=>5|9=>9|66=>184|70=>188|76=>192|77=>193|n=>n,fun|n=>n⟩
theorem Tryz.laysS_f96:Go.Proofs.SlLaysF0.n6 Tryz.prog Tryz.laysS_f96_ren:={
  mixed:=by kernel_rfl
  f6:=⟨Tryz.f96.name,by decide,Tryz.func96.trans (congrArg some (by kernel_rfl))⟩
  f14:=⟨Tryz.f104.name,by decide,Tryz.func104.trans (congrArg some (by kernel_rfl))⟩
  f15:=Tryz.func105.trans (congrArg some (by kernel_rfl))
  f20:=⟨Tryz.f108.name,by decide,Tryz.func108.trans (congrArg some (by kernel_rfl))⟩
  f21:=⟨Tryz.f109.name,by decide,Tryz.func109.trans (congrArg some (by kernel_rfl))⟩
  f22:=⟨Tryz.f110.name,by decide,Tryz.func110.trans (congrArg some (by kernel_rfl))⟩
  f23:=⟨Tryz.f111.name,by decide,Tryz.func111.trans (congrArg some (by kernel_rfl))⟩
  f24:=⟨Tryz.f112.name,by decide,Tryz.func112.trans (congrArg some (by kernel_rfl))⟩
  f25:=⟨Tryz.f113.name,by decide,Tryz.func113.trans (congrArg some (by kernel_rfl))⟩
  f26:=⟨Tryz.f114.name,by decide,Tryz.func114.trans (congrArg some (by kernel_rfl))⟩
  f27:=⟨Tryz.f115.name,by decide,Tryz.func115.trans (congrArg some (by kernel_rfl))⟩
  f28:=Tryz.func116.trans (congrArg some (by kernel_rfl))
  f29:=Tryz.func117.trans (congrArg some (by kernel_rfl))
  f46:=⟨Tryz.f127.name,by decide,Tryz.func127.trans (congrArg some (by kernel_rfl))⟩
  f47:=Tryz.func128.trans (congrArg some (by kernel_rfl))
  f48:=Tryz.func129.trans (congrArg some (by kernel_rfl))
  f49:=⟨Tryz.f130.name,by decide,Tryz.func130.trans (congrArg some (by kernel_rfl))⟩
  f50:=⟨Tryz.f131.name,by decide,Tryz.func131.trans (congrArg some (by kernel_rfl))⟩
  f57:=⟨Tryz.f135.name,by decide,Tryz.func135.trans (congrArg some (by kernel_rfl))⟩
  t0:=Tryz.underlying0
  a0:=Tryz.isAgg0
  z0:=Tryz.sizeOf0
  v0:=Tryz.zeroValue0
  t3:=Tryz.underlying3
  a3:=Tryz.isAgg3
  z3:=Tryz.sizeOf3
  v3:=Tryz.zeroValue3
  t4:=Tryz.underlying4
  a4:=Tryz.isAgg4
  z4:=Tryz.sizeOf4
  v4:=Tryz.zeroValue4
  t5:=Tryz.underlying5
  a5:=Tryz.isAgg5
  z5:=Tryz.sizeOf5
  v5:=Tryz.zeroValue5
  t9:=Tryz.underlying9
  a9:=Tryz.isAgg9
  z9:=Tryz.sizeOf9
  v9:=Tryz.zeroValue9
  t22:=Tryz.underlying23
  a22:=Tryz.isAgg23
  z22:=Tryz.sizeOf23
  v22:=Tryz.zeroValue23
  t25:=Tryz.underlying159
  a25:=Tryz.isAgg159
  z25:=Tryz.sizeOf159
  v25:=Tryz.zeroValue159
  t39:=Tryz.underlying166
  a39:=Tryz.isAgg166
  z39:=Tryz.sizeOf166
  v39:=Tryz.zeroValue166
  t45:=Tryz.underlying169
  a45:=Tryz.isAgg169
  z45:=Tryz.sizeOf169
  v45:=Tryz.zeroValue169
  t46:=Tryz.underlying170
  a46:=Tryz.isAgg170
  z46:=Tryz.sizeOf170
  v46:=Tryz.zeroValue170
  t50:=Tryz.underlying86
  a50:=Tryz.isAgg86
  z50:=Tryz.sizeOf86
  v50:=Tryz.zeroValue86
  t53:=Tryz.underlying176
  a53:=Tryz.isAgg176
  z53:=Tryz.sizeOf176
  v53:=Tryz.zeroValue176
  t55:=Tryz.underlying178
  a55:=Tryz.isAgg178
  z55:=Tryz.sizeOf178
  v55:=Tryz.zeroValue178
  t66:=Tryz.underlying184
  a66:=Tryz.isAgg184
  z66:=Tryz.sizeOf184
  v66:=Tryz.zeroValue184
  t70:=Tryz.underlying188
  a70:=Tryz.isAgg188
  z70:=Tryz.sizeOf188
  v70:=Tryz.zeroValue188
  t76:=Tryz.underlying192
  a76:=Tryz.isAgg192
  z76:=Tryz.sizeOf192
  v76:=Tryz.zeroValue192
  t77:=Tryz.underlying193
  a77:=Tryz.isAgg193
  z77:=Tryz.sizeOf193
  v77:=Tryz.zeroValue193 }
open Go.RowKit Go.Lib Go.Sort in
theorem Tryz.sortF_eq {α:Type} [Inhabited α] (k:Nat) (aE:∀ w,(isAgg 45).run Tryz.prog w=.ok true w) (zE:∀ w,(Go.sizeOf 45).run Tryz.prog w=.ok k w) (enc:α→List Value) (hk:∀ x,(enc x).length=k) (h1:∀ x,∀ v∈enc x,v.oneCell'=true) (cf:α→α→Int) (hO:SWO (ltOf cf)) (g:Nat) (cb:Array Value) (blk off cap:Nat) (d:Array α) (w:World) (eg:∀ args w,(callFunc g args).run Tryz.prog w=.ok (.enter g args) w) (hcmp:CmpLays Tryz.prog g cb enc k cf blk off d.size w) (hH:HoldsK enc k w blk off d) (hblk:blk < w.heap.size) (hsz:d.size < 4611686018427387904) :
    Calls Tryz.prog 96 #[.slice (some ⟨blk,off,none⟩) d.size cap,.func (.func g) #[] cb] w fun e w' =>
      e=.returned (.tuple #[])∧∃ n os,w'=sortWorldK enc k w blk off n (pdq (ltOf cf) d 0 d.size (Lib.bitLen d.size) true true) os:=AnyQ.slices_SortFunc_eq Tryz.laysS_f96 k aE zE enc hk h1 cf hO g cb blk off cap d w eg hcmp hH hblk hsz
open Go.RowKit Go.Lib Go.Sort in
theorem Tryz.sortF_none {α:Type} [Inhabited α] (p:Option Addr) (cap:Nat) (fv:Value) (w:World) :
    Calls Tryz.prog 96 #[.slice p 0 cap,fv] w fun e w'=>e=.returned (.tuple #[])∧w'=w:=AnyF.slices_SortFunc_none Tryz.laysS_f96 p cap fv w
end
section
open Go Go.RowKit Go.Lib Go.Sort
instance:Inhabited Fct:=⟨⟨0,0⟩⟩
def encF (x:Fct):List Value:=[.int .i64 x.var,.int .i64 x.val]
def cfF (x y:Fct):Int:=Lib.compareInt x.var y.var
theorem ltF (x y:Fct):ltOf cfF x y=decide (x.var < y.var):=by
  unfold ltOf cfF Lib.compareInt
  by_cases h:x.var < y.var
  · simp [h]
  · by_cases h2:y.var < x.var<;>simp [h,h2]
theorem swoF:SWO (ltOf cfF) where
  irrefl x:=by rw [ltF];simp
  trans x y z h1 h2:=by rw [ltF] at *;simp at *;omega
  ntrans x y z h1 h2:=by rw [ltF] at *;simp at *;omega
theorem compareI (a b:Int) (W:World):Calls Tryz.prog 98 #[.int .i64 a,.int .i64 b] W fun e w'=>e=.returned (.int .i64 (Lib.compareInt a b))∧w'=W:=by
  go_enter Tryz.func98,Tryz.ntmps98
  go_wp2
  · go_ret
    have h:a < b:=by assumption
    exact ⟨by simp [Lib.compareInt,h],rfl⟩
  · go_ret
    have h:b < a:=by assumption
    have h2:¬ a < b:=by omega
    exact ⟨by simp [Lib.compareInt,h,h2],rfl⟩
  · go_ret
    have h1:b≤a:=by assumption
    have h2:a≤b:=by assumption
    have h3:¬ a < b:=by omega
    have h4:¬ b < a:=by omega
    exact ⟨by simp [Lib.compareInt,h3,h4],rfl⟩
theorem closureF (x y:Fct) (W:World):Calls Tryz.prog 97 #[.agg #[.int .i64 x.var,.int .i64 x.val],.agg #[.int .i64 y.var,.int .i64 y.val]] W fun e w'=>e=.returned (.int .i64 (cfF x y))∧∃ q os',w'=grow (W.drewN q) os':=by
  have hcon:=fun W'=>compareI x.var y.var W'
  unfold cfF
  generalize Lib.compareInt x.var y.var=r at hcon ⊢
  go_enter Tryz.func97,Tryz.ntmps97
  go_wp2_with (go_at_call 98;refine (hcon _).mono ?_;rintro e w' ⟨rfl,rfl⟩)
  go_ret
  exact ⟨rfl,0,_,by rw [alloc_eq_grow,alloc_eq_grow,grow_grow];rfl⟩
theorem cmpLaysF (blk off size:Nat) (w:World):CmpLays Tryz.prog 97 #[] encF 2 cfF blk off size w:=fun _ _ _ _ x y=>closureF x y _
def Bc (xs:List Fct):List Fct:=(pdq (ltOf cfF) xs.toArray 0 xs.length (Lib.bitLen xs.length) true true).toList
theorem Mo (xs:List Fct):PermIn 0 xs.toArray.size xs.toArray (Bc xs).toArray∧SortedIn (ltOf cfF) 0 xs.toArray.size (Bc xs).toArray:=by
  have:=pdq_sorts (ltOf cfF) swoF xs.toArray 0 xs.toArray.size (Lib.bitLen xs.length) true true (Nat.zero_le _) (Nat.le_refl _) (Or.inl rfl)
  simpa [Bc] using this
theorem Du (xs:List Fct):(Bc xs).Perm xs:=by
  obtain ⟨⟨hsz,_,hperm⟩,_⟩:=Mo xs
  have e1:(Bc xs).toArray.extract 0 xs.toArray.size=(Bc xs).toArray:=by rw [← hsz];exact Array.extract_size
  rw [e1,Array.extract_size] at hperm
  simpa using hperm
theorem Dl (xs:List Fct):(Bc xs).length=xs.length:=(Du xs).length_eq
theorem LS (xs:List Fct):(Bc xs).Pairwise fun x y=>x.var≤y.var:=by
  obtain ⟨_,hs⟩:=Mo xs
  have hl:=Dl xs
  rw [List.pairwise_iff_getElem]
  intro i j hi hj hij
  have:=hs i j (Nat.zero_le _) hij (by simp;omega)
  rw [getElem!_pos _ j (by simpa using hj),getElem!_pos _ i (by simpa using hi),ltF] at this
  simpa using this
theorem flatF:∀ (xs:List Fct),(flatK encF 2 xs.toArray).toList=xs.flatMap encF:=fun xs=>by
  apply List.ext_getElem?
  intro t
  have key:∀ (l:List Fct) (t:Nat),(l.flatMap encF)[t]?=(l[t / 2]?).bind fun x=>(encF x)[t % 2]?:=by
    intro l
    induction l with
    | nil=>intro t;simp
    | cons x l ih =>
      intro t
      rw [List.flatMap_cons]
      match t with
      | 0=>rfl
      | 1=>rfl
      | t + 2 =>
        rw [List.getElem?_append_right (by simp [encF]),show t + 2 - (encF x).length=t from by simp [encF],ih]
        rw [show (t + 2) / 2=t / 2 + 1 from by omega,show (t + 2) % 2=t % 2 from by omega]
        simp
  rw [key]
  by_cases ht:t < xs.length * 2
  · have h1:t / 2 < xs.length:=by omega
    have hsz:t < (flatK encF 2 xs.toArray).size:=by simpa using ht
    rw [Array.getElem?_toList,Array.getElem?_eq_getElem hsz,List.getElem?_eq_getElem h1,Option.bind_some]
    have:=get_flatK encF 2 xs.toArray t (by simpa using ht)
    rw [getElem!_pos (flatK encF 2 xs.toArray) t hsz,getElem!_pos xs.toArray (t / 2) (by simpa using h1)] at this
    rw [this]
    have h2:t % 2 < (encF xs[t / 2]).length:=by simp [encF];omega
    rw [List.getElem?_eq_getElem h2,List.getElem_toArray,getElem!_pos (encF xs[t / 2]) (t % 2) h2]
  · have h1:(flatK encF 2 xs.toArray).size≤t:=by rw [size_flatK];simpa using (by omega:xs.length * 2≤t)
    have h2:xs[t / 2]?=none:=List.getElem?_eq_none (by omega)
    rw [Array.getElem?_toList,Array.getElem?_eq_none h1,h2]
    rfl
theorem JD {w:World} {F:Nat→Prop}:∀ {xs:List Fct} {cells:List Value},Chunks w F cells xs→cells=xs.flatMap encF∧∀ x∈xs,inI64 x.var∧inI64 x.val
  | [],_,h=>⟨h,fun _ hx=>by simp at hx⟩
  | x :: xs,cells,⟨cs,rest,he,hr,hc⟩=>by
    obtain ⟨h1,h2⟩:=JD hc
    obtain ⟨h3,h4⟩:=hr
    refine ⟨by rw [he,h3,h1];rfl,fun y hy=>?_⟩
    rcases List.mem_cons.1 hy with rfl|hy
    · exact h4
    · exact h2 y hy
theorem JE {w:World} {F:Nat→Prop}:∀ {xs:List Fct},(∀ x∈xs,inI64 x.var∧inI64 x.val)→Chunks w F (xs.flatMap encF) xs
  | [],_=>rfl
  | x :: xs,h=>⟨encF x,xs.flatMap encF,rfl,⟨rfl,h x (by simp)⟩,JE fun y hy=>h y (by simp [hy])⟩
theorem Eh (xs:List Fct):(xs.flatMap encF).length=xs.length * 2:=by rw [← flatF,Array.length_toList,size_flatK];simp
theorem Hl {i:Nat} {w:World} {O:Lab} {v:Value} {xs:List Fct} (hR:Rw i w O 45 v xs) (hl:xs.length < 4611686018427387904) :
    Fn Tryz.prog 96 [v,.func (.func 97) #[] #[]] w fun _ w'=>∃ O',St (eT i) w O w' O'∧Rw i w' O' 45 v (Bc xs):=by
  intro d
  rcases Nat.eq_zero_or_pos xs.length with h0|h0
  · have hx:xs=[]:=List.eq_nil_of_length_eq_zero h0
    subst hx
    obtain ⟨p,c,rfl⟩:=hR.form
    have hs:Bc []=[]:=List.eq_nil_of_length_eq_zero (Dl [])
    exact (Tryz.sortF_none (α:=Fct) p c _ (dr w d)).mono fun e w' ⟨he,hw⟩=>⟨_,w,d,he,hw,O,St.refl _ _ _,by rw [hs];exact hR⟩
  · obtain ⟨g,cap,cells,sp,rfl,hg,hFg,hb,hc,hlen,hnc,hcm,htot⟩:=hR.1.open h0
    obtain ⟨rfl,hin⟩:=JD hc
    have hfl:=flatF xs
    have hH:HoldsK encF 2 (dr w d) g 0 xs.toArray:=fun j hj=>by
      have hj':j < xs.length * 2:=by simpa using hj
      refine ⟨?_,by rw [Nat.zero_add];exact hb.frozen j⟩
      rw [Nat.zero_add]
      refine hb.cell ?_
      rw [List.getElem?_append_left (by rw [Eh];exact hj'),← hfl,Array.getElem?_toList,Array.getElem?_eq_getElem hj,getElem!_pos _ j hj]
      rfl
    have aE:∀ w,(isAgg 45).run Tryz.prog w=.ok true w:=fun w=>FS w
    have zE:∀ w,(Go.sizeOf 45).run Tryz.prog w=.ok 2 w:=fun w=>DJ w
    have eg:∀ args w,(callFunc 97 args).run Tryz.prog w=.ok (.enter 97 args) w:=enters_of Tryz.func97 (by kernel_rfl) rfl
    have hcall:=Tryz.sortF_eq 2 aE zE encF (fun _=>rfl) (fun x v hv=>by simp [encF] at hv;rcases hv with rfl|rfl<;>rfl) cfF swoF 97 #[] g 0 cap xs.toArray (dr w d) eg (cmpLaysF g 0 _ _) hH hb.lt (by simpa using hl)
    have e1:xs.toArray.size=xs.length:=by simp
    rw [e1] at hcall
    refine hcall.mono fun e w' ⟨he,n,os,hw⟩=>⟨_,w',w'.drawn,he,rfl,upO O w.heap.size (fun _=>0),?_,?_⟩
    · subst hw
      refine ⟨rfl,rfl,rfl,?_,fun k hk hne=>⟨?_,EC hk⟩⟩
      · show w.heap.size≤((w.heap.modify g _) ++ os).size
        simp
      · have hkg:g≠k:=fun e=>hne (by rw [← e];exact hR.2.1 g rfl)
        show ((w.heap.modify g _) ++ os)[k]?=_
        rw [Array.getElem?_append_left (by simpa using hk),Array.getElem?_modify,if_neg hkg]
    · have hpd:pdq (ltOf cfF) xs.toArray 0 xs.length (Lib.bitLen xs.length) true true=(Bc xs).toArray:=by simp [Bc]
      rw [hpd] at hw
      have hsl:=Dl xs
      have hf2:=flatF (Bc xs)
      have hblk:Blk w' g 45 ((Bc xs).flatMap encF ++ sp):=by
        subst hw
        unfold Blk at hb ⊢
        have hsz:g < w.heap.size:=Blk.lt hb
        show ((w.heap.modify g _) ++ os)[g]?=_
        rw [Array.getElem?_append_left (by simpa using hsz),Array.getElem?_modify,if_pos rfl,hb]
        simp only [Option.map_some,Go.Sort.onCells]
        congr 2
        apply Array.ext
        · simp only [Go.Sort.putCells,Array.size_mapIdx,List.size_toArray,List.length_append,Eh,hsl]
        · intro i h1 h2
          simp only [Go.Sort.putCells,Array.getElem_mapIdx,Nat.zero_add,Nat.sub_zero,Nat.zero_le,true_and]
          have e2:(flatK encF 2 (Bc xs).toArray).size=xs.length * 2:=by rw [size_flatK];simp [hsl]
          by_cases hi:i < xs.length * 2
          · rw [if_pos (by rw [e2];exact hi)]
            simp only [List.getElem_toArray]
            rw [List.getElem_append_left (by rw [Eh,hsl];exact hi)]
            rw [getElem!_pos _ _ (by rw [e2];exact hi)]
            have:=congrArg (·[i]?) hf2
            simp only [Array.getElem?_toList] at this
            rw [Array.getElem?_eq_getElem (by rw [e2];exact hi),List.getElem?_eq_getElem (by rw [Eh,hsl];exact hi)] at this
            exact Option.some.inj this
          · rw [if_neg (by rw [e2];exact hi)]
            simp only [List.getElem_toArray]
            rw [List.getElem_append_right (by rw [Eh];omega),List.getElem_append_right (by rw [Eh,hsl];omega)]
            simp only [Eh,hsl]
      have hS:∀ k,Fr 0 w O k→Fr 0 w' (upO O w.heap.size fun _=>0) k:=fun k hk=>⟨by subst hw;show k < ((w.heap.modify g _) ++ os).size;have:=hk.1;simp;omega,(EC hk.1).trans hk.2⟩
      have:=Own.close (w:=w') (base:=0) (F:=Fr 0 w O) (cap:=cap) (Nat.zero_le _) hFg hblk (JE (F:=Fr 0 w O) (w:=w') fun x hx=>hin x ((Du xs).mem_iff.1 hx)) (by rw [hsl];exact hnc) hcm (by rw [List.length_append,Eh] at htot ⊢;rw [hsl];exact htot)
      rw [hsl] at this
      exact this.rw hS (fun g' hg'=>by
        have:g=g':=by simpa [Value.ownBlock] using hg'
        subst this
        exact (EC hb.lt).trans (hR.2.1 g rfl)) hR.2.2
end
section
open Go Go.RowKit
attribute [local irreducible] ewp owp hwp hwq hws Ev Evg Fn retPost loud loudS Res1
noncomputable def CF (x0:Swp) (x1:List Fct):Option (List Fct) :=
  bnd (rng (ρ:=(List Fct)) (fun (k29:Nat) (a30:Fct) (s27:(List Fct))=>bnd (atI x0.vars a30.var) fun a60=>bnd (atI x0.vals a30.var) fun a72=>bnd (atI a72 a30.val) fun a87=>bnd (appI 16 s27 [(⟨a60,a87⟩:Fct)]) fun u105=>some (.next u105)) x1 0 ([]:List Fct)) fun res25=>fin res25 fun (s120:(List Fct))=>bnd (if s120.length < 4611686018427387904 then some (Bc s120) else none) fun u127=>some u127
theorem DU {w:World} {A:Nat→Prop} (hA:∀ k,A k→k < w.heap.size) {vx0:Value} {x0:Swp} (v0:Vb w A vx0 x0) {vx1:Value} {x1:List Fct} (d0:Vb w A vx1 x1) {r:(List Fct)} (hm:CF x0 x1=some r) :
    Fn Tryz.prog 78 [vx0,vx1] w fun v w'=>Ext w w'∧Vb w' (upA A w w') v r:=by
 obtain ⟨O,hB,j2⟩:=enter hA
 replace v0:=v0.mono j2
 obtain ⟨w3,rfl,v4,v5,v6,rfl,h7,g0,j0⟩:=v0
 obtain ⟨A8,c9,rfl⟩:=h7.form
 obtain ⟨w0,y0,rfl⟩:=g0.form
 obtain ⟨z0,a1,rfl⟩:=j0.form
 replace d0:=d0.mono j2
 obtain ⟨k2,l2,rfl⟩:=d0.form
 refine AL Tryz.func78 rfl Tryz.ntmps78 rfl ?_
 unfold CF at hm
 refine Al (Aj (BL 2 O rfl rfl fun b1 o2 m2 p0 h0=>?_))
 replace h0:Lc 2 o2 m2 b1 53 [(.slice A8 x0.vars.length c9),(.slice w0 x0.vals.length y0),(.slice z0 x0.ops.length a1)]:=h0
 refine Aw rfl rfl (o_z ?_)
 refine Al (Aj (Aw rfl rfl (o_z ?_)))
 refine Al (Al (Aj (Ar rfl rfl (AZ rfl rfl ?_))))
 replace d0:=d0.st p0
 have c1:x1.length≤9223372036854775807:=Nat.le_trans d0.len.2.1 d0.len.2.2
 have x3:inI64 (x1.length:Int):=rngNat c1
 refine Ar rfl rfl (o_z ?_)
 obtain ⟨q0,d1,hm⟩:=bs hm
 refine AJ (aft q0 (fun (i0:(List Fct)) (e0:(Option Addr×Nat))=>[(5,(.slice e0.1 i0.length e0.2))]) (fun i0 e0 w'=>∃ O':Lab,Bs w A w' O'∧Rw 5 w' O' 45 (.slice e0.1 i0.length e0.2) i0)) ?_ ?_
 ·
  refine AX ?_
  replace hB:=hB.st p0
  replace h7:=h7.st p0
  replace g0:=g0.st p0
  replace j0:=j0.st p0
  refine Bw (σ:=(List Fct)) (X:=(Option Addr×Nat)) (x1.length) d1 rfl c1 (fun (i0:(List Fct)) (e0:(Option Addr×Nat))=>[(2,(.pointer (some ⟨b1,0,none⟩))),(5,(.slice e0.1 i0.length e0.2)),(8,(.slice k2 x1.length l2))]) _ (fun i0 e0 w'=>∃ O':Lab,Bs w A w' O'∧Lc 2 w' O' b1 53 [(.slice A8 x0.vars.length c9),(.slice w0 x0.vals.length y0),(.slice z0 x0.ops.length a1)]∧Vb w' (Fr 0 w' O') (.slice A8 x0.vars.length c9) x0.vars∧Vb w' (Fr 0 w' O') (.slice w0 x0.vals.length y0) x0.vals∧Vb w' (Fr 0 w' O') (.slice z0 x0.ops.length a1) x0.ops∧Rw 5 w' O' 45 (.slice e0.1 i0.length e0.2) i0∧Vb w' (Fr 0 w' O') (.slice k2 x1.length l2) x1) _ (none,0) ⟨m2,hB,h0,h7,g0,j0,(Rw.nil 5 (by decide)),d0⟩ ⟨rfl,rfl,rfl,rfl,rfl,trivial⟩ (fun _ _=>⟨rfl,rfl⟩) (fun _ _=>⟨rfl,trivial⟩) (fun _ _ _ ⟨O',hB,h0,h7,g0,j0,f0,d0⟩=>⟨O',hB,f0⟩) ⟨rfl,rfl,rfl⟩ ⟨rfl,rfl⟩ ?_
  rintro p2 n2 i0 e0 y3 q2 r0 ⟨r2,hB,h0,h7,g0,j0,f0,d0⟩ a0 e1 f1
  have rk29:inI64 (p2:Int):=rngK r0 c1
  refine Al (Aj ?_)
  obtain ⟨z3,a4,s2,g1,h1,i1,rfl,b4,c4⟩:=d0.elem' r0
  refine BA (hA:=g1) (hj:=rfl) (hlt:=h1) rfl rfl rfl ?_
  refine Bl (hl:=rfl) (hc:=i1) rfl rfl ?_
  refine Bg 3 r2 rfl fun t2 d4 j1 k0 l0=>?_
  refine AT l0 rfl rfl rfl (Bj rfl) (allOne rfl) fun u2 m0 l0=>?_
  replace l0:Lc 3 u2 j1 t2 45 [(.int .i64 n2.var),(.int .i64 n2.val)]:=l0
  refine o_z ?_
  refine Bz [(19,[5])] j1 ?_
  refine AR (fuel:=3) [] [(0,true),(1,true),(2,true),(3,true),(4,true),(5,true),(6,true),(7,true),(8,true),(9,true),(10,true),(11,true),(12,true),(13,true),(14,true),(15,true),(16,true),(17,true)] (by kernel_rfl) rfl ?_
  refine AP rfl rfl rfl (Be rfl rfl rfl ?_)
  replace h0:=(h0.st k0).st m0
  refine AY (hc:=fun w' ⟨O',hq⟩=>Blk.cell (i:=0) ((h0.st hq (by decide)).1) rfl) rfl rfl rfl ?_
  refine Be rfl rfl rfl (AY (hc:=fun w' ⟨O',hq⟩=>Blk.cell (i:=0) ((l0.st hq (by decide)).1) rfl) rfl rfl rfl ?_)
  obtain ⟨k1,v2,a0⟩:=bs a0
  obtain ⟨w2,x2⟩:=Bb v2
  replace h7:=(h7.st k0).st m0
  obtain ⟨e4,f4,y2,l1,m1,n1,o1,rfl,z2⟩:=h7.elem x2
  refine BE (hA:=l1) (hj:=(Int.toNat_of_nonneg w2).symm) (hlt:=n1) rfl rfl rfl rfl ?_
  refine AY (hc:=fun w' ⟨O',hq⟩=>cat0 (AV (hq.agree (i:=0) (by decide)) m1 o1)) rfl rfl rfl ?_
  refine Be rfl rfl rfl (AY (hc:=fun w' ⟨O',hq⟩=>Blk.cell (i:=1) ((h0.st hq (by decide)).1) rfl) rfl rfl rfl ?_)
  refine Be rfl rfl rfl (AY (hc:=fun w' ⟨O',hq⟩=>Blk.cell (i:=0) ((l0.st hq (by decide)).1) rfl) rfl rfl rfl ?_)
  obtain ⟨g4,a3,a0⟩:=bs a0
  obtain ⟨b3,c3⟩:=Bb a3
  replace g0:=(g0.st k0).st m0
  obtain ⟨h4,i4,d3,p1,q1,r1,s1,j4,rfl,u0⟩:=g0.elem c3
  replace u0:=Vb.of_slice u0
  obtain ⟨k4,l4,rfl⟩:=u0.form
  refine BE (hA:=p1) (hj:=(Int.toNat_of_nonneg b3).symm) (hlt:=r1) rfl rfl rfl rfl ?_
  refine AY (hc:=fun w' ⟨O',hq⟩=>cat0 (AV (hq.agree (i:=0) (by decide)) q1 s1)) rfl rfl rfl ?_
  refine Be rfl rfl rfl (AY (hc:=fun w' ⟨O',hq⟩=>Blk.cell (i:=1) ((l0.st hq (by decide)).1) rfl) rfl rfl rfl ?_)
  obtain ⟨t1,e3,a0⟩:=bs a0
  obtain ⟨f3,g3⟩:=Bb e3
  obtain ⟨m4,n4,h3,u1,v1,w1,y1,rfl,i3⟩:=u0.elem g3
  refine BE (hA:=u1) (hj:=(Int.toNat_of_nonneg f3).symm) (hlt:=w1) rfl rfl rfl rfl ?_
  refine AY (hc:=fun w' ⟨O',hq⟩=>cat0 (AV (hq.agree (i:=0) (by decide)) v1 y1)) rfl rfl rfl ?_
  refine Dj rfl rfl rfl rfl ?_
  refine AB ?_
  refine AQ (i:=18) (by kernel_rfl) rfl ?_
  refine CB 4 (by decide) j1 (xs:=([(⟨k1,t1⟩:Fct)]:List Fct)) rfl rfl rfl rfl ⟨(Vb.ofAgg (cs:=[(.int .i64 k1),(.int .i64 t1)]) (x:=(⟨k1,t1⟩:Fct)) rfl ⟨rfl,z2,i3⟩),trivial⟩ (by decide) (by decide) rfl fun o4 j3 k3 b0 z1=>?_
  have hZ:=b0.lst [] (fun _ h=>h.elim)
  refine AW [(19,[5])] hZ (by kernel_rfl) ?_
  refine AQ (i:=19) (by kernel_rfl) rfl ?_
  obtain ⟨l3,n0,a0⟩:=bs a0
  obtain ⟨n0,a2,b2⟩:=CG n0
  replace f0:=((f0.st k0).st m0).st b0
  refine EJ rfl f0 (z1.rd) rfl rfl (by decide) a2 b2 rfl fun c2 d2 m3 n3 c0 s0=>?_
  rw [← n0] at s0 ⊢
  have hZ:=c0.lst [5] (fun _ h=>by cases h;decide)
  refine AW [] hZ (by kernel_rfl) ?_
  refine AR (fuel:=0) [] [(20,true)] (by kernel_rfl) rfl ?_
  refine Ff rfl rfl rfl (AB ?_)
  refine Bp (by kernel_rfl) ?_
  obtain rfl:=sm a0
  exact show Exists _ from ⟨_,(c2,d2),rfl,⟨rfl,rfl,rfl,rfl,rfl,trivial⟩,_,(((hB.st k0).st m0).st b0).st c0,(h0.st b0).st c0,(h7.st b0).st c0,(g0.st b0).st c0,(((j0.st k0).st m0).st b0).st c0,s0,(((d0.st k0).st m0).st b0).st c0⟩
 replace hB:=hB.st p0
 rintro o3 p3 ⟨q3,r3,rfl,t0,s3,hB,f0⟩
 replace hm:=Bh hm
 refine AN _ t0 ?_
 refine Al (Aj (Ar rfl rfl ?_))
 obtain ⟨t3,o0,hm⟩:=bs hm
 obtain ⟨e2,o0⟩:=IR o0
 refine Nk (Hl f0 e2) rfl rfl fun u3 f2 v3 g2 f0=>?_
 rw [o0] at f0
 refine o_z ?_
 refine Al (Aj (Ar rfl rfl (Aw rfl rfl (o_z ?_))))
 refine AH ?_
 obtain ⟨h2,i2,f0⟩:=f0.freeze
 obtain rfl:=sm hm
 replace hB:=(hB.st g2).st i2
 exact ret1v rfl (AD rfl) ⟨hB.ext,(Vb.mono (F:=Fr 0 f2 h2) f0 hB.out)⟩
noncomputable def DA (x0:Swp) (x1:Opr):Option Opr :=
  bnd (CF x0 x1.pre) fun q42=>bnd (some q42:Option (List Fct)) fun y44=>bnd (rng (ρ:=Opr) (fun (k88:Nat) (a89:Eff) (s86:(List Eff))=>bnd (atI x0.vars a89.var) fun a123=>bnd (atI x0.vals a89.var) fun a135=>bnd (atI a135 a89.val) fun a150=>bnd (CF x0 a89.cond) fun q162=>bnd (appI 40 s86 [(⟨q162,a123,a150⟩:Eff)]) fun u177=>some (.next u177)) x1.effs 0 ([]:List Eff)) fun res84=>fin res84 fun (s194:(List Eff))=>some (⟨(⟨#[]⟩:ByteArray),x1.cost,y44,s194⟩:Opr)
theorem IZ {w:World} {A:Nat→Prop} (hA:∀ k,A k→k < w.heap.size) {vx0:Value} {x0:Swp} (b3:Vb w A vx0 x0) {vx1:Value} {x1:Opr} (c3:Vb w A vx1 x1) {r:Opr} (hm:DA x0 x1=some r) :
    Fn Tryz.prog 80 [vx0,vx1] w fun v w'=>Ext w w'∧Vb w' (upA A w w') v r:=by
 obtain ⟨O,hB,o4⟩:=enter hA
 replace b3:=b3.mono o4
 obtain ⟨s6,rfl,v4,v5,v6,rfl,h7,j0,l0⟩:=b3
 obtain ⟨A8,c9,rfl⟩:=h7.form
 obtain ⟨l1,m1,rfl⟩:=j0.form
 obtain ⟨n1,o1,rfl⟩:=l0.form
 replace c3:=c3.mono o4
 obtain ⟨f5,rfl,t6,u6,rfl,v0,t0,g5,w6⟩:=c3
 obtain ⟨d3,e3,rfl⟩:=v0.form
 obtain ⟨y1,z1,rfl⟩:=t0.form
 refine AL Tryz.func80 rfl Tryz.ntmps80 rfl ?_
 unfold DA at hm
 refine Al (Aj (BL 2 O rfl rfl fun a2 h5 p4 o0 m0=>?_))
 replace m0:Lc 2 h5 p4 a2 53 [(.slice A8 x0.vars.length c9),(.slice l1 x0.vals.length m1),(.slice n1 x0.ops.length o1)]:=m0
 refine BL 3 p4 rfl rfl fun f3 i5 q4 k0 w0=>?_
 replace w0:Lc 3 i5 q4 f3 50 [(.string x1.name),(.int .i64 x1.cost),(.slice d3 x1.pre.length e3),(.slice y1 x1.effs.length z1)]:=w0
 refine Bg 4 q4 rfl fun p1 x6 g3 h0 q0=>?_
 refine o_z ?_
 refine Al ?_
 obtain ⟨a3,r4,hm⟩:=bs hm
 obtain ⟨s0,b2,hm⟩:=bs hm
 refine AJ (fun l' w'=>∃ (a0:Nat×(Option Addr×Nat)) (O':Lab),subs l' [(2,(.pointer (some ⟨a2,0,none⟩))),(3,(.pointer (some ⟨f3,0,none⟩))),(4,(.pointer (some ⟨p1,0,none⟩))),(5,(.pointer (some ⟨a0.1,0,none⟩)))]∧Bs w A w' O'∧Lc 2 w' O' a2 53 [(.slice A8 x0.vars.length c9),(.slice l1 x0.vals.length m1),(.slice n1 x0.ops.length o1)]∧Vb w' (Fr 0 w' O') (.slice A8 x0.vars.length c9) x0.vars∧Vb w' (Fr 0 w' O') (.slice l1 x0.vals.length m1) x0.vals∧Vb w' (Fr 0 w' O') (.slice n1 x0.ops.length o1) x0.ops∧Lc 3 w' O' f3 50 [(.string x1.name),(.int .i64 x1.cost),(.slice d3 x1.pre.length e3),(.slice y1 x1.effs.length z1)]∧Vb w' (Fr 0 w' O') (.slice d3 x1.pre.length e3) x1.pre∧Vb w' (Fr 0 w' O') (.slice y1 x1.effs.length z1) x1.effs∧Lc 4 w' O' p1 50 [(.string (⟨#[]⟩:ByteArray)),(.int .i64 0),(.slice none 0 0),(.slice none 0 0)]∧Lc 5 w' O' a0.1 50 [(.string (⟨#[]⟩:ByteArray)),(.int .i64 x1.cost),(.slice a0.2.1 s0.length a0.2.2),(.slice none 0 0)]∧Vb w' (Fr 0 w' O') (.slice a0.2.1 s0.length a0.2.2) s0) ?_ ?_
 ·
  refine Bz [] g3 ?_
  refine AR (fuel:=4) [] [(0,true),(1,true),(2,true),(3,true),(4,true)] (by kernel_rfl) rfl ?_
  refine Be rfl rfl rfl ?_
  replace w0:=w0.st h0
  refine AY (hc:=fun w' ⟨O',hq⟩=>Blk.cell (i:=1) ((w0.st hq (by decide)).1) rfl) rfl rfl rfl ?_
  replace m0:=(m0.st k0).st h0
  refine CQ (hl:=rfl) (hb:=fun w' ⟨O',hq⟩=>((m0.st hq (by decide)).1).cellsAt) rfl rfl rfl ?_
  refine Be rfl rfl rfl (AY (hc:=fun w' ⟨O',hq⟩=>Blk.cell (i:=2) ((w0.st hq (by decide)).1) rfl) rfl rfl rfl ?_)
  refine AB ?_
  refine ER (i:=5) (j:=7) (by kernel_rfl) rfl rfl ?_ ?_
  ·
   replace h7:=((h7.st o0).st k0).st h0
   replace j0:=((j0.st o0).st k0).st h0
   replace l0:=((l0.st o0).st k0).st h0
   replace v0:=((v0.st o0).st k0).st h0
   refine Bu (O:=g3) (R:=fun w' F v=>Vb w' F v a3) (DU Fr.lt (Vb.ofAgg (cs:=[(.slice A8 x0.vars.length c9),(.slice l1 x0.vals.length m1),(.slice n1 x0.ops.length o1)]) (x:=x0) rfl ⟨_,_,_,rfl,h7,j0,l0⟩) v0 r4) rfl rfl fun y6 z6 j5 b1 s4=>?_
   obtain ⟨t4,u4,rfl⟩:=s4.form
   have hZ:=b1.lst [] (fun _ h=>h.elim)
   refine AW [] hZ (by kernel_rfl) ?_
   refine AR (fuel:=2) [] [(6,true)] (by kernel_rfl) rfl ?_
   refine Dj rfl rfl rfl rfl ?_
   refine AB ?_
   refine AQ (i:=7) (by kernel_rfl) rfl ?_
   refine Bg 5 j5 rfl fun w4 a7 k5 z0 c2=>?_
   have hZ:=z0.lst [] (fun _ h=>h.elim)
   refine AW [] hZ (by kernel_rfl) ?_
   refine AQ (i:=8) (by kernel_rfl) rfl ?_
   refine AT c2 rfl rfl rfl (Bj rfl) (allOne rfl) fun l5 c1 c2=>?_
   replace c2:Lc 5 l5 k5 w4 50 [(.string (⟨#[]⟩:ByteArray)),(.int .i64 x1.cost),(.slice t4 a3.length u4),(.slice none 0 0)]:=c2
   refine Cf (by kernel_rfl) ?_
   refine Bp (by kernel_rfl) ?_
   obtain rfl:=sm b2
   exact ⟨(w4,(t4,u4)),_,⟨rfl,rfl,rfl,rfl,trivial⟩,(((((hB.st o0).st k0).st h0).st b1).st z0).st c1,((m0.st b1).st z0).st c1,((h7.st b1).st z0).st c1,((j0.st b1).st z0).st c1,((l0.st b1).st z0).st c1,((w0.st b1).st z0).st c1,((v0.st b1).st z0).st c1,(((((t0.st o0).st k0).st h0).st b1).st z0).st c1,((q0.st b1).st z0).st c1,c2,(s4.st z0).st c1⟩
  refine Bg 5 g3 rfl fun x4 b7 m5 d1 q1=>?_
  have hZ:=d1.lst [] (fun _ h=>h.elim)
  refine AW [] hZ (by kernel_rfl) ?_
  refine AQ (i:=5) (by kernel_rfl) rfl ?_
  replace h7:=(((h7.st o0).st k0).st h0).st d1
  replace j0:=(((j0.st o0).st k0).st h0).st d1
  replace l0:=(((l0.st o0).st k0).st h0).st d1
  replace v0:=(((v0.st o0).st k0).st h0).st d1
  refine Bu (O:=m5) (R:=fun w' F v=>Vb w' F v a3) (DU Fr.lt (Vb.ofAgg (cs:=[(.slice A8 x0.vars.length c9),(.slice l1 x0.vals.length m1),(.slice n1 x0.ops.length o1)]) (x:=x0) rfl ⟨_,_,_,rfl,h7,j0,l0⟩) v0 r4) rfl rfl fun c7 d7 n5 a1 y4=>?_
  obtain ⟨z4,a5,rfl⟩:=y4.form
  have hZ:=a1.lst [] (fun _ h=>h.elim)
  refine AW [] hZ (by kernel_rfl) ?_
  refine AR (fuel:=1) [] [(6,true)] (by kernel_rfl) rfl ?_
  refine Dj rfl rfl rfl rfl ?_
  refine AB ?_
  refine AQ (i:=8) (by kernel_rfl) rfl ?_
  replace q1:=q1.st a1
  refine AT q1 rfl rfl rfl (Bj rfl) (allOne rfl) fun o5 e1 q1=>?_
  replace q1:Lc 5 o5 n5 x4 50 [(.string (⟨#[]⟩:ByteArray)),(.int .i64 x1.cost),(.slice z4 a3.length a5),(.slice none 0 0)]:=q1
  refine Cf (by kernel_rfl) ?_
  refine Bp (by kernel_rfl) ?_
  obtain rfl:=sm b2
  exact ⟨(x4,(z4,a5)),_,⟨rfl,rfl,rfl,rfl,trivial⟩,(((((hB.st o0).st k0).st h0).st d1).st a1).st e1,((m0.st d1).st a1).st e1,(h7.st a1).st e1,(j0.st a1).st e1,(l0.st a1).st e1,((w0.st d1).st a1).st e1,(v0.st a1).st e1,(((((t0.st o0).st k0).st h0).st d1).st a1).st e1,((q0.st d1).st a1).st e1,q1,y4.st e1⟩
 replace hB:=((hB.st o0).st k0).st h0
 replace h7:=((h7.st o0).st k0).st h0
 replace j0:=((j0.st o0).st k0).st h0
 replace l0:=((l0.st o0).st k0).st h0
 replace v0:=((v0.st o0).st k0).st h0
 replace t0:=((t0.st o0).st k0).st h0
 replace m0:=(m0.st k0).st h0
 replace w0:=w0.st h0
 rintro e7 f7 ⟨a0,p5,h3,hB,m0,h7,j0,l0,w0,v0,t0,q0,r0,g1⟩
 refine AN _ h3 ?_
 refine Al (Al (Aj (AK rfl rfl (AF (hc:=Blk.cell (i:=3) (w0.1) rfl) rfl rfl ?_))))
 refine AZ rfl rfl ?_
 have i3:x1.effs.length≤9223372036854775807:=Nat.le_trans t0.len.2.1 t0.len.2.2
 have g7:inI64 (x1.effs.length:Int):=rngNat i3
 refine Ar rfl rfl (o_z ?_)
 obtain ⟨d2,j3,hm⟩:=bs hm
 refine AJ (aft d2 (fun (f1:(List Eff)) (y0:(Option Addr×Nat))=>[(4,(.pointer (some ⟨p1,0,none⟩))),(5,(.pointer (some ⟨a0.1,0,none⟩)))]) (fun f1 y0 w'=>∃ O':Lab,Bs w A w' O'∧Lc 4 w' O' p1 50 [(.string (⟨#[]⟩:ByteArray)),(.int .i64 0),(.slice none 0 0),(.slice none 0 0)]∧Lc 5 w' O' a0.1 50 [(.string (⟨#[]⟩:ByteArray)),(.int .i64 x1.cost),(.slice a0.2.1 s0.length a0.2.2),(.slice y0.1 f1.length y0.2)]∧Vb w' (Fr 0 w' O') (.slice a0.2.1 s0.length a0.2.2) s0∧Rw 8 w' O' 47 (.slice y0.1 f1.length y0.2) f1)) ?_ ?_
 ·
  refine AX (Bw (σ:=(List Eff)) (X:=(Option Addr×Nat)) (x1.effs.length) j3 rfl i3 (fun (f1:(List Eff)) (y0:(Option Addr×Nat))=>[(2,(.pointer (some ⟨a2,0,none⟩))),(4,(.pointer (some ⟨p1,0,none⟩))),(5,(.pointer (some ⟨a0.1,0,none⟩))),(16,(.slice y1 x1.effs.length z1))]) _ (fun f1 y0 w'=>∃ O':Lab,Bs w A w' O'∧Lc 2 w' O' a2 53 [(.slice A8 x0.vars.length c9),(.slice l1 x0.vals.length m1),(.slice n1 x0.ops.length o1)]∧Vb w' (Fr 0 w' O') (.slice A8 x0.vars.length c9) x0.vars∧Vb w' (Fr 0 w' O') (.slice l1 x0.vals.length m1) x0.vals∧Vb w' (Fr 0 w' O') (.slice n1 x0.ops.length o1) x0.ops∧Lc 4 w' O' p1 50 [(.string (⟨#[]⟩:ByteArray)),(.int .i64 0),(.slice none 0 0),(.slice none 0 0)]∧Lc 5 w' O' a0.1 50 [(.string (⟨#[]⟩:ByteArray)),(.int .i64 x1.cost),(.slice a0.2.1 s0.length a0.2.2),(.slice y0.1 f1.length y0.2)]∧Vb w' (Fr 0 w' O') (.slice a0.2.1 s0.length a0.2.2) s0∧Rw 8 w' O' 47 (.slice y0.1 f1.length y0.2) f1∧Vb w' (Fr 0 w' O') (.slice y1 x1.effs.length z1) x1.effs) _ (none,0) ⟨p5,hB,m0,h7,j0,l0,q0,r0,g1,(Rw.nil 8 (by decide)),t0⟩ ⟨rfl,rfl,rfl,rfl,rfl,rfl,trivial⟩ (fun _ _=>⟨rfl,rfl⟩) (fun _ _=>⟨rfl,rfl,trivial⟩) (fun _ _ _ ⟨O',hB,m0,h7,j0,l0,q0,r0,g1,b0,t0⟩=>⟨O',hB,q0,r0,g1,b0⟩) ⟨rfl,rfl,rfl⟩ ⟨rfl,rfl⟩ ?_)
  rintro q5 k3 f1 y0 i7 r5 e2 ⟨s5,hB,m0,h7,j0,l0,q0,r0,g1,b0,t0⟩ c0 l3 m3
  have rk88:inI64 (q5:Int):=rngK e2 i3
  refine Al (Aj ?_)
  obtain ⟨t5,u5,b5,f2,g2,h2,w5,rfl,h1,x5,y5⟩:=t0.elem' e2
  obtain ⟨n3,o3,rfl⟩:=h1.form
  refine BA (hA:=f2) (hj:=rfl) (hlt:=g2) rfl rfl rfl ?_
  refine Bl (hl:=rfl) (hc:=h2) rfl rfl ?_
  refine Bg 6 s5 rfl fun p3 z5 r1 d0 p0=>?_
  refine AT p0 rfl rfl rfl (Bj rfl) (allOne rfl) fun q3 e0 p0=>?_
  replace p0:Lc 6 q3 r1 p3 47 [(.slice n3 k3.cond.length o3),(.int .i64 k3.var),(.int .i64 k3.val)]:=p0
  refine o_z ?_
  refine Bz [(24,[8])] r1 ?_
  refine AR (fuel:=6) [] [(0,true),(1,true),(2,true),(3,true),(4,true),(6,true),(7,true),(8,true),(9,true),(10,true),(11,true),(12,true),(13,true),(14,true),(15,true),(16,true),(17,true),(18,true),(19,true),(20,true),(21,true)] (by kernel_rfl) rfl ?_
  refine Be rfl rfl rfl ?_
  replace r0:=(r0.st d0).st e0
  refine AY (hc:=fun w' ⟨O',hq⟩=>Blk.cell (i:=3) ((r0.st hq (by decide)).1) rfl) rfl rfl rfl ?_
  replace m0:=(m0.st d0).st e0
  refine CQ (hl:=rfl) (hb:=fun w' ⟨O',hq⟩=>((m0.st hq (by decide)).1).cellsAt) rfl rfl rfl ?_
  refine Be rfl rfl rfl (AY (hc:=fun w' ⟨O',hq⟩=>Blk.cell (i:=0) ((p0.st hq (by decide)).1) rfl) rfl rfl rfl ?_)
  refine Be rfl rfl rfl (AY (hc:=fun w' ⟨O',hq⟩=>Blk.cell (i:=0) ((m0.st hq (by decide)).1) rfl) rfl rfl rfl ?_)
  refine Be rfl rfl rfl (AY (hc:=fun w' ⟨O',hq⟩=>Blk.cell (i:=1) ((p0.st hq (by decide)).1) rfl) rfl rfl rfl ?_)
  obtain ⟨s1,r3,c0⟩:=bs c0
  obtain ⟨s3,t3⟩:=Bb r3
  replace h7:=(h7.st d0).st e0
  obtain ⟨a6,b6,c5,i2,j2,k2,l2,rfl,u3⟩:=h7.elem t3
  refine BE (hA:=i2) (hj:=(Int.toNat_of_nonneg s3).symm) (hlt:=k2) rfl rfl rfl rfl ?_
  refine AY (hc:=fun w' ⟨O',hq⟩=>cat0 (AV (hq.agree (i:=0) (by decide)) j2 l2)) rfl rfl rfl ?_
  refine Be rfl rfl rfl (AY (hc:=fun w' ⟨O',hq⟩=>Blk.cell (i:=1) ((m0.st hq (by decide)).1) rfl) rfl rfl rfl ?_)
  refine Be rfl rfl rfl (AY (hc:=fun w' ⟨O',hq⟩=>Blk.cell (i:=1) ((p0.st hq (by decide)).1) rfl) rfl rfl rfl ?_)
  obtain ⟨c6,v3,c0⟩:=bs c0
  obtain ⟨w3,x3⟩:=Bb v3
  replace j0:=(j0.st d0).st e0
  obtain ⟨d6,e6,d5,m2,n2,o2,p2,f6,rfl,i1⟩:=j0.elem x3
  replace i1:=Vb.of_slice i1
  obtain ⟨g6,h6,rfl⟩:=i1.form
  refine BE (hA:=m2) (hj:=(Int.toNat_of_nonneg w3).symm) (hlt:=o2) rfl rfl rfl rfl ?_
  refine AY (hc:=fun w' ⟨O',hq⟩=>cat0 (AV (hq.agree (i:=0) (by decide)) n2 p2)) rfl rfl rfl ?_
  refine Be rfl rfl rfl (AY (hc:=fun w' ⟨O',hq⟩=>Blk.cell (i:=2) ((p0.st hq (by decide)).1) rfl) rfl rfl rfl ?_)
  obtain ⟨t1,y3,c0⟩:=bs c0
  obtain ⟨z3,a4⟩:=Bb y3
  obtain ⟨i6,j6,e5,q2,r2,s2,t2,rfl,b4⟩:=i1.elem a4
  refine BE (hA:=q2) (hj:=(Int.toNat_of_nonneg z3).symm) (hlt:=s2) rfl rfl rfl rfl ?_
  refine AY (hc:=fun w' ⟨O',hq⟩=>cat0 (AV (hq.agree (i:=0) (by decide)) r2 t2)) rfl rfl rfl ?_
  refine AB ?_
  refine AQ (i:=5) (by kernel_rfl) rfl ?_
  obtain ⟨j1,c4,c0⟩:=bs c0
  replace l0:=(l0.st d0).st e0
  replace h1:=(h1.st d0).st e0
  refine Bu (O:=r1) (R:=fun w' F v=>Vb w' F v j1) (DU Fr.lt (Vb.ofAgg (cs:=[(.slice A8 x0.vars.length c9),(.slice l1 x0.vals.length m1),(.slice n1 x0.ops.length o1)]) (x:=x0) rfl ⟨_,_,_,rfl,h7,j0,l0⟩) h1 c4) rfl rfl fun k6 l6 d4 f0 u2=>?_
  obtain ⟨e4,f4,rfl⟩:=u2.form
  have hZ:=f0.lst [] (fun _ h=>h.elim)
  refine AW [(24,[8])] hZ (by kernel_rfl) ?_
  refine AR (fuel:=4) [] [(22,true)] (by kernel_rfl) rfl ?_
  refine Dj rfl rfl rfl rfl ?_
  refine AB ?_
  refine AQ (i:=23) (by kernel_rfl) rfl ?_
  refine CB 7 (by decide) d4 (xs:=([(⟨j1,s1,t1⟩:Eff)]:List Eff)) rfl rfl rfl rfl ⟨(Vb.ofAgg (cs:=[(.slice e4 j1.length f4),(.int .i64 s1),(.int .i64 t1)]) (x:=(⟨j1,s1,t1⟩:Eff)) rfl ⟨_,rfl,u2,u3,b4⟩),trivial⟩ (by decide) (by decide) rfl fun m6 n6 o6 g0 g4=>?_
  have hZ:=g0.lst [] (fun _ h=>h.elim)
  refine AW [(24,[8])] hZ (by kernel_rfl) ?_
  refine AQ (i:=24) (by kernel_rfl) rfl ?_
  obtain ⟨h4,u1,c0⟩:=bs c0
  obtain ⟨u1,i4,j4⟩:=CG u1
  replace b0:=(((b0.st d0).st e0).st f0).st g0
  refine EJ rfl b0 (g4.rd) rfl rfl (by decide) i4 j4 rfl fun v2 w2 p6 k4 i0 x2=>?_
  rw [← u1] at x2 ⊢
  have hZ:=i0.lst [8] (fun _ h=>by cases h;decide)
  refine AW [] hZ (by kernel_rfl) ?_
  refine AR (fuel:=1) [] [(25,true)] (by kernel_rfl) rfl ?_
  refine Be rfl rfl rfl (AB ?_)
  refine AQ (i:=26) (by kernel_rfl) rfl ?_
  replace r0:=((r0.st f0).st g0).st i0
  refine AT r0 rfl rfl rfl (Bj rfl) (allOne rfl) fun l4 n0 r0=>?_
  replace r0:Lc 5 l4 k4 a0.1 50 [(.string (⟨#[]⟩:ByteArray)),(.int .i64 x1.cost),(.slice a0.2.1 s0.length a0.2.2),(.slice v2 h4.length w2)]:=r0
  refine Cf (by kernel_rfl) ?_
  refine Bp (by kernel_rfl) ?_
  obtain rfl:=sm c0
  exact show Exists _ from ⟨_,(v2,w2),rfl,⟨rfl,rfl,rfl,rfl,rfl,rfl,trivial⟩,_,(((((hB.st d0).st e0).st f0).st g0).st i0).st n0,(((m0.st f0).st g0).st i0).st n0,(((h7.st f0).st g0).st i0).st n0,(((j0.st f0).st g0).st i0).st n0,(((l0.st f0).st g0).st i0).st n0,(((((q0.st d0).st e0).st f0).st g0).st i0).st n0,r0,(((((g1.st d0).st e0).st f0).st g0).st i0).st n0,x2.st n0,(((((t0.st d0).st e0).st f0).st g0).st i0).st n0⟩
 rintro q6 r6 ⟨k1,u0,rfl,y2,m4,hB,q0,r0,g1,b0⟩
 replace hm:=Bh hm
 refine AN _ y2 ?_
 refine Al (Aj (Bl (hl:=rfl) (hc:=(r0.1).cellsAt) rfl rfl ?_))
 refine AT q0 rfl rfl rfl (Bj rfl) (allOne rfl) fun z2 v1 q0=>?_
 replace q0:Lc 4 z2 m4 p1 50 [(.string (⟨#[]⟩:ByteArray)),(.int .i64 x1.cost),(.slice a0.2.1 s0.length a0.2.2),(.slice u0.1 k1.length u0.2)]:=q0
 refine o_z ?_
 refine AH ?_
 replace b0:=b0.st v1
 obtain ⟨n4,w1,b0⟩:=b0.freeze
 obtain rfl:=sm hm
 replace hB:=(hB.st v1).st w1
 replace q0:=q0.st w1
 replace g1:=(g1.st v1).st w1
 exact ret1v rfl (Cj (cs:=[(.string (⟨#[]⟩:ByteArray)),(.int .i64 x1.cost),(.slice a0.2.1 s0.length a0.2.2),(.slice u0.1 k1.length u0.2)]) rfl rfl q0.1.cellsAt) ⟨hB.ext,(Vb.mono (F:=Fr 0 z2 n4) (Vb.ofAgg (cs:=[(.string (⟨#[]⟩:ByteArray)),(.int .i64 x1.cost),(.slice a0.2.1 s0.length a0.2.2),(.slice u0.1 k1.length u0.2)]) (x:=(⟨(⟨#[]⟩:ByteArray),x1.cost,s0,k1⟩:Opr)) rfl ⟨_,_,rfl,g1,b0,g5,(show (⟨#[]⟩:ByteArray).size≤9223372036854775807 from by decide)⟩) hB.out)⟩
noncomputable def Dm (x0:Tsk) (x1:Swp):Option Bool :=
  bnd (bnd (Dy x0 x1) fun q47=>if q47=true then bnd (BT x1.ops (x0.ops.length:Int)) fun q56=>if q56=true then bnd (CF x1 x0.goal) fun q63=>bnd (BD q63 x0.goal) fun q72=>if q72=true then some false else some true else some true else some true:Option Bool) fun y43=>if y43=true then (some false) else (bnd (rng (ρ:=Bool) (fun (k90:Nat) (a91:Opr) (s88:Unit)=>bnd (x1.ops[k90]?) fun a125=>bnd (atI x0.ops a125) fun a135=>bnd (DA x1 a91) fun q156=>bnd (Dz q156 a135) fun q174=>if q174=true then some (.next ()) else some (.ret false)) x0.ops 0 ()) fun res86=>fin res86 fun (s185:Unit)=>some true)
theorem Hz {w:World} {A:Nat→Prop} (hA:∀ k,A k→k < w.heap.size) {vx0:Value} {x0:Tsk} (w2:Vb w A vx0 x0) {vx1:Value} {x1:Swp} (x2:Vb w A vx1 x1) {r:Bool} (hm:Dm x0 x1=some r) :
    Fn Tryz.prog 54 [vx0,vx1] w fun v w'=>Ext w w'∧Vb w' (upA A w w') v r:=by
 obtain ⟨O,hB,d4⟩:=enter hA
 replace w2:=w2.mono d4
 obtain ⟨i6,rfl,v4,v5,v6,v7,rfl,h8,t0,m0,h0⟩:=w2
 obtain ⟨A9,p1,rfl⟩:=h8.form
 obtain ⟨q1,r1,rfl⟩:=t0.form
 obtain ⟨s1,t1,rfl⟩:=m0.form
 obtain ⟨j1,k1,rfl⟩:=h0.form
 replace x2:=x2.mono d4
 obtain ⟨p4,rfl,j6,k6,l6,rfl,n0,o0,i0⟩:=x2
 obtain ⟨d1,e1,rfl⟩:=n0.form
 obtain ⟨f1,g1,rfl⟩:=o0.form
 obtain ⟨h1,i1,rfl⟩:=i0.form
 refine AL Tryz.func54 rfl Tryz.ntmps54 rfl ?_
 unfold Dm at hm
 refine Al (Aj (BL 2 O rfl rfl fun u1 q4 e4 s0 e0=>?_))
 replace e0:Lc 2 q4 e4 u1 26 [(.slice A9 x0.vars.length p1),(.slice q1 x0.init.length r1),(.slice s1 x0.goal.length t1),(.slice j1 x0.ops.length k1)]:=e0
 refine BL 3 e4 rfl rfl fun v1 t2 w1 p0 l0=>?_
 replace l0:Lc 3 t2 w1 v1 53 [(.slice d1 x1.vars.length e1),(.slice f1 x1.vals.length g1),(.slice h1 x1.ops.length i1)]:=l0
 refine Aw rfl rfl (o_z ?_)
 refine Al (Al ?_)
 obtain ⟨r4,a0,hm⟩:=bs hm
 refine AJ (fun l' w'=>∃ (s4:Unit) (O':Lab),subs l' [(2,(.pointer (some ⟨u1,0,none⟩))),(3,(.pointer (some ⟨v1,0,none⟩))),(29,(.bool r4))]∧Bs w A w' O'∧Lc 2 w' O' u1 26 [(.slice A9 x0.vars.length p1),(.slice q1 x0.init.length r1),(.slice s1 x0.goal.length t1),(.slice j1 x0.ops.length k1)]∧Vb w' (Fr 0 w' O') (.slice A9 x0.vars.length p1) x0.vars∧Vb w' (Fr 0 w' O') (.slice q1 x0.init.length r1) x0.init∧Vb w' (Fr 0 w' O') (.slice s1 x0.goal.length t1) x0.goal∧Vb w' (Fr 0 w' O') (.slice j1 x0.ops.length k1) x0.ops∧Lc 3 w' O' v1 53 [(.slice d1 x1.vars.length e1),(.slice f1 x1.vals.length g1),(.slice h1 x1.ops.length i1)]∧Vb w' (Fr 0 w' O') (.slice d1 x1.vars.length e1) x1.vars∧Vb w' (Fr 0 w' O') (.slice f1 x1.vals.length g1) x1.vals∧Vb w' (Fr 0 w' O') (.slice h1 x1.ops.length i1) x1.ops) ?_ ?_
 ·
  refine Bz [] w1 ?_
  refine AR (fuel:=21) [] [(0,true),(1,true)] (by kernel_rfl) rfl ?_
  replace e0:=e0.st p0
  refine CQ (hl:=rfl) (hb:=fun w' ⟨O',hq⟩=>((e0.st hq (by decide)).1).cellsAt) rfl rfl rfl ?_
  refine CQ (hl:=rfl) (hb:=fun w' ⟨O',hq⟩=>((l0.st hq (by decide)).1).cellsAt) rfl rfl rfl ?_
  refine AB ?_
  refine AQ (i:=2) (by kernel_rfl) rfl ?_
  obtain ⟨f4,t4,a0⟩:=bs a0
  replace h8:=(h8.st s0).st p0
  replace t0:=(t0.st s0).st p0
  replace m0:=(m0.st s0).st p0
  replace h0:=(h0.st s0).st p0
  replace n0:=(n0.st s0).st p0
  replace o0:=(o0.st s0).st p0
  replace i0:=(i0.st s0).st p0
  refine Bi (O:=w1) (A:=All t2) (R:=fun w' F v=>Vb w' F v f4) (IV (fun _ h=>h) (Vb.mono (F:=Fr 0 t2 w1) (Vb.ofAgg (cs:=[(.slice A9 x0.vars.length p1),(.slice q1 x0.init.length r1),(.slice s1 x0.goal.length t1),(.slice j1 x0.ops.length k1)]) (x:=x0) rfl ⟨_,_,_,_,rfl,h8,t0,m0,h0⟩) Fr.lt) (Vb.mono (F:=Fr 0 t2 w1) (Vb.ofAgg (cs:=[(.slice d1 x1.vars.length e1),(.slice f1 x1.vals.length g1),(.slice h1 x1.ops.length i1)]) (x:=x1) rfl ⟨_,_,_,rfl,n0,o0,i0⟩) Fr.lt) t4) rfl rfl fun m6 g4 h4 b0 u4=>?_
  obtain rfl:=u4.bool
  have hZ:=b0.lst [] (fun _ h=>h.elim)
  cases f4
  case false =>
   replace a0:=iF a0
   refine AW [] hZ (by kernel_rfl) ?_
   refine AR (fuel:=13) [] [(3,true),(4,true),(5,true),(6,true),(7,true),(8,true),(9,true)] (by kernel_rfl) rfl ?_
   refine MF rfl rfl rfl (AP rfl rfl rfl (Bd rfl rfl rfl rfl rfl (Bd rfl rfl rfl rfl rfl (Bd rfl rfl rfl rfl rfl (Bd rfl rfl rfl rfl rfl (Bd rfl rfl rfl rfl rfl (AB ?_)))))))
   refine AQ (i:=10) (by kernel_rfl) rfl ?_
   refine At rfl rfl rfl rfl (AW [] ((St.refl nT _ _).lst [] (fun _ h=>h.elim)) (by kernel_rfl) ?_)
   refine AR (fuel:=4) [] [(11,true),(12,true),(13,true),(14,true),(15,true),(16,true),(18,true),(19,true)] (by kernel_rfl) rfl ?_
   refine Bd rfl rfl rfl rfl rfl (Cl rfl rfl rfl rfl (AP rfl rfl rfl (Bd rfl rfl rfl rfl rfl (Bd rfl rfl rfl rfl rfl (Bd rfl rfl rfl rfl rfl (Bd rfl rfl rfl rfl rfl (Bd rfl rfl rfl rfl rfl (AB ?_))))))))
   refine AQ (i:=17) (by kernel_rfl) rfl ?_
   refine At rfl rfl rfl rfl (AW [] ((St.refl nT _ _).lst [] (fun _ h=>h.elim)) (by kernel_rfl) ?_)
   refine AQ (i:=20) (by kernel_rfl) rfl ?_
   refine At rfl rfl rfl rfl (AW [] ((St.refl nT _ _).lst [] (fun _ h=>h.elim)) (by kernel_rfl) ?_)
   refine AR (fuel:=0) [] [(21,true),(22,true)] (by kernel_rfl) rfl ?_
   refine Bd rfl rfl rfl rfl rfl (Cl rfl rfl rfl rfl (AB ?_))
   refine Bp (by kernel_rfl) ?_
   obtain rfl:=sm a0
   exact ⟨(),_,⟨rfl,rfl,rfl,trivial⟩,((hB.st s0).st p0).st b0,e0.st b0,h8.st b0,t0.st b0,m0.st b0,h0.st b0,l0.st b0,n0.st b0,o0.st b0,i0.st b0⟩
  replace a0:=iT a0
  refine AW [] hZ (by kernel_rfl) ?_
  refine AR (fuel:=13) [] [(3,true),(4,true),(5,true),(6,true),(7,true),(8,true),(9,true)] (by kernel_rfl) rfl ?_
  refine La rfl rfl rfl (AP rfl rfl rfl (AA rfl (Az rfl rfl (BI rfl rfl (AA rfl (Az rfl rfl ?_))))))
  replace l0:=l0.st b0
  refine Dh (hc:=fun w' ⟨O',hq⟩=>Blk.cell (i:=2) ((l0.st hq (by decide)).1) rfl) rfl rfl ?_
  refine AA rfl (Az rfl rfl (BI rfl rfl (AA rfl (Az rfl rfl ?_))))
  replace e0:=e0.st b0
  refine Dh (hc:=fun w' ⟨O',hq⟩=>Blk.cell (i:=3) ((e0.st hq (by decide)).1) rfl) rfl rfl ?_
  refine AA rfl (Az rfl rfl (GL rfl rfl ?_))
  replace h0:=h0.st b0
  have w4:x0.ops.length≤9223372036854775807:=Nat.le_trans h0.len.2.1 h0.len.2.2
  have x4:inI64 (x0.ops.length:Int):=rngNat w4
  refine AB ?_
  refine AQ (i:=10) (by kernel_rfl) rfl ?_
  refine Au rfl rfl ?_
  obtain ⟨i4,y4,a0⟩:=bs a0
  replace i0:=i0.st b0
  refine Bi (O:=h4) (A:=All g4) (R:=fun w' F v=>Vb w' F v i4) (DR (fun _ h=>h) (Vb.mono (F:=Fr 0 g4 h4) i0 Fr.lt) x4 y4) rfl rfl fun n6 o6 z4 j0 a5=>?_
  obtain rfl:=a5.bool
  have hZ:=j0.lst [] (fun _ h=>h.elim)
  cases i4
  case false =>
   replace a0:=iF a0
   refine AW [] hZ (by kernel_rfl) ?_
   refine AR (fuel:=4) [] [(11,true),(12,true),(13,true),(14,true),(15,true),(16,true),(18,true),(19,true)] (by kernel_rfl) rfl ?_
   refine AA rfl (Az rfl rfl (Gs rfl rfl (BR rfl rfl rfl rfl (AP rfl rfl rfl (Bd rfl rfl rfl rfl rfl (Bd rfl rfl rfl rfl rfl (Bd rfl rfl rfl rfl rfl (Bd rfl rfl rfl rfl rfl (Bd rfl rfl rfl rfl rfl (AB ?_))))))))))
   refine AQ (i:=17) (by kernel_rfl) rfl ?_
   refine At rfl rfl rfl rfl (AW [] ((St.refl nT _ _).lst [] (fun _ h=>h.elim)) (by kernel_rfl) ?_)
   refine AQ (i:=20) (by kernel_rfl) rfl ?_
   refine At rfl rfl rfl rfl (AW [] ((St.refl nT _ _).lst [] (fun _ h=>h.elim)) (by kernel_rfl) ?_)
   refine AR (fuel:=0) [] [(21,true),(22,true)] (by kernel_rfl) rfl ?_
   refine Bd rfl rfl rfl rfl rfl (Cl rfl rfl rfl rfl (AB ?_))
   refine Bp (by kernel_rfl) ?_
   obtain rfl:=sm a0
   exact ⟨(),_,⟨rfl,rfl,rfl,trivial⟩,(((hB.st s0).st p0).st b0).st j0,e0.st j0,(h8.st b0).st j0,(t0.st b0).st j0,(m0.st b0).st j0,h0.st j0,l0.st j0,(n0.st b0).st j0,(o0.st b0).st j0,i0.st j0⟩
  replace a0:=iT a0
  refine AW [] hZ (by kernel_rfl) ?_
  refine AR (fuel:=4) [] [(11,true),(12,true),(13,true),(14,true),(15,true),(16,true),(18,true),(19,true)] (by kernel_rfl) rfl ?_
  refine AA rfl (Az rfl rfl (Gr rfl rfl (BR rfl rfl rfl rfl (AP rfl rfl rfl (AA rfl (Az rfl rfl ?_))))))
  replace l0:=l0.st j0
  refine Is (hl:=rfl) (hb:=fun w' ⟨O',hq⟩=>((l0.st hq (by decide)).1).cellsAt) rfl rfl ?_
  refine AA rfl (Az rfl rfl (BI rfl rfl (AA rfl (Az rfl rfl ?_))))
  replace e0:=e0.st j0
  refine Dh (hc:=fun w' ⟨O',hq⟩=>Blk.cell (i:=2) ((e0.st hq (by decide)).1) rfl) rfl rfl ?_
  refine AA rfl (Az rfl rfl (BI rfl rfl (AA rfl (Az rfl rfl (Dh (hc:=fun w' ⟨O',hq⟩=>Blk.cell (i:=2) ((e0.st hq (by decide)).1) rfl) rfl rfl ?_)))))
  refine AB ?_
  refine AQ (i:=17) (by kernel_rfl) rfl ?_
  refine Au rfl rfl ?_
  obtain ⟨b5,c5,a0⟩:=bs a0
  replace m0:=(m0.st b0).st j0
  replace n0:=(n0.st b0).st j0
  replace o0:=(o0.st b0).st j0
  replace i0:=i0.st j0
  refine Bu (O:=z4) (R:=fun w' F v=>Vb w' F v b5) (DU Fr.lt (Vb.ofAgg (cs:=[(.slice d1 x1.vars.length e1),(.slice f1 x1.vals.length g1),(.slice h1 x1.ops.length i1)]) (x:=x1) rfl ⟨_,_,_,rfl,n0,o0,i0⟩) m0 c5) rfl rfl fun p6 y2 z2 r0 j4=>?_
  obtain ⟨q6,r6,rfl⟩:=j4.form
  have hZ:=r0.lst [] (fun _ h=>h.elim)
  refine AW [] hZ (by kernel_rfl) ?_
  refine AQ (i:=20) (by kernel_rfl) rfl ?_
  refine Au rfl rfl ?_
  obtain ⟨k4,d5,a0⟩:=bs a0
  replace m0:=m0.st r0
  refine Bi (O:=z2) (A:=All y2) (R:=fun w' F v=>Vb w' F v k4) (CK (fun _ h=>h) (Vb.mono (F:=Fr 0 y2 z2) j4 Fr.lt) (Vb.mono (F:=Fr 0 y2 z2) m0 Fr.lt) d5) rfl rfl fun s6 t6 u6 q0 e5=>?_
  obtain rfl:=e5.bool
  have hZ:=q0.lst [] (fun _ h=>h.elim)
  cases k4
  case false =>
   replace a0:=iF a0
   refine AW [] hZ (by kernel_rfl) ?_
   refine AR (fuel:=0) [] [(21,true),(22,true)] (by kernel_rfl) rfl ?_
   refine AA rfl (Az rfl rfl (Gs rfl rfl (BR rfl rfl rfl rfl (AB ?_))))
   refine Bp (by kernel_rfl) ?_
   obtain rfl:=sm a0
   exact ⟨(),_,⟨rfl,rfl,rfl,trivial⟩,(((((hB.st s0).st p0).st b0).st j0).st r0).st q0,(e0.st r0).st q0,(((h8.st b0).st j0).st r0).st q0,(((t0.st b0).st j0).st r0).st q0,m0.st q0,((h0.st j0).st r0).st q0,(l0.st r0).st q0,(n0.st r0).st q0,(o0.st r0).st q0,(i0.st r0).st q0⟩
  replace a0:=iT a0
  refine AW [] hZ (by kernel_rfl) ?_
  refine AR (fuel:=0) [] [(21,true),(22,true)] (by kernel_rfl) rfl ?_
  refine AA rfl (Az rfl rfl (Gr rfl rfl (BR rfl rfl rfl rfl (AB ?_))))
  refine Bp (by kernel_rfl) ?_
  obtain rfl:=sm a0
  exact ⟨(),_,⟨rfl,rfl,rfl,trivial⟩,(((((hB.st s0).st p0).st b0).st j0).st r0).st q0,(e0.st r0).st q0,(((h8.st b0).st j0).st r0).st q0,(((t0.st b0).st j0).st r0).st q0,m0.st q0,((h0.st j0).st r0).st q0,(l0.st r0).st q0,(n0.st r0).st q0,(o0.st r0).st q0,(i0.st r0).st q0⟩
 replace hB:=(hB.st s0).st p0
 replace h8:=(h8.st s0).st p0
 replace t0:=(t0.st s0).st p0
 replace m0:=(m0.st s0).st p0
 replace h0:=(h0.st s0).st p0
 replace n0:=(n0.st s0).st p0
 replace o0:=(o0.st s0).st p0
 replace i0:=(i0.st s0).st p0
 replace e0:=e0.st p0
 rintro w6 x6 ⟨s4,f5,a3,hB,e0,h8,t0,m0,h0,l0,n0,o0,i0⟩
 refine AN _ a3 ?_
 refine BP rfl (fun b3=>?_) (fun b3=>?_)
 ·
  replace hm:=ip hm b3
  refine Al (Aj (Aw rfl rfl (o_z ?_)))
  refine AH ?_
  obtain rfl:=sm hm
  exact ret1v rfl (AD rfl) ⟨hB.ext,vBool⟩
 replace hm:=im' hm b3
 refine AO (Al (Al (Aj (AK rfl rfl (AF (hc:=Blk.cell (i:=3) (e0.1) rfl) rfl rfl ?_)))))
 refine AZ rfl rfl ?_
 have c3:x0.ops.length≤9223372036854775807:=Nat.le_trans h0.len.2.1 h0.len.2.2
 have y6:inI64 (x0.ops.length:Int):=rngNat c3
 refine Ar rfl rfl (o_z ?_)
 obtain ⟨y1,d3,hm⟩:=bs hm
 refine AJ (aft y1 (fun (u2:Unit) (v2:Unit)=>[]) (fun u2 v2 w'=>∃ O':Lab,Bs w A w' O')) ?_ ?_
 ·
  refine AX (Bw (σ:=Unit) (X:=Unit) (x0.ops.length) d3 rfl c3 (fun (u2:Unit) (v2:Unit)=>[(2,(.pointer (some ⟨u1,0,none⟩))),(3,(.pointer (some ⟨v1,0,none⟩))),(31,(.slice j1 x0.ops.length k1))]) _ (fun u2 v2 w'=>∃ O':Lab,Bs w A w' O'∧Lc 2 w' O' u1 26 [(.slice A9 x0.vars.length p1),(.slice q1 x0.init.length r1),(.slice s1 x0.goal.length t1),(.slice j1 x0.ops.length k1)]∧Vb w' (Fr 0 w' O') (.slice A9 x0.vars.length p1) x0.vars∧Vb w' (Fr 0 w' O') (.slice q1 x0.init.length r1) x0.init∧Vb w' (Fr 0 w' O') (.slice s1 x0.goal.length t1) x0.goal∧Vb w' (Fr 0 w' O') (.slice j1 x0.ops.length k1) x0.ops∧Lc 3 w' O' v1 53 [(.slice d1 x1.vars.length e1),(.slice f1 x1.vals.length g1),(.slice h1 x1.ops.length i1)]∧Vb w' (Fr 0 w' O') (.slice d1 x1.vars.length e1) x1.vars∧Vb w' (Fr 0 w' O') (.slice f1 x1.vals.length g1) x1.vals∧Vb w' (Fr 0 w' O') (.slice h1 x1.ops.length i1) x1.ops) _ () ⟨f5,hB,e0,h8,t0,m0,h0,l0,n0,o0,i0⟩ ⟨rfl,rfl,rfl,rfl,rfl,trivial⟩ (fun _ _=>⟨rfl,rfl⟩) (fun _ _=>trivial) (fun _ _ _ ⟨O',hB,e0,h8,t0,m0,h0,l0,n0,o0,i0⟩=>⟨O',hB⟩) ⟨rfl,rfl,rfl⟩ ⟨rfl,rfl⟩ ?_)
  rintro g5 y0 u2 v2 z6 h5 z1 ⟨i5,hB,e0,h8,t0,m0,h0,l0,n0,o0,i0⟩ c0 l1 e3
  have rk90:inI64 (g5:Int):=rngK z1 c3
  refine Al (Aj (Ar rfl rfl ?_))
  obtain ⟨j5,k5,l4,a2,b2,c2,l5,m5,rfl,z0,a1,f3,g3⟩:=h0.elem' z1
  obtain ⟨d2,e2,rfl⟩:=z0.form
  obtain ⟨f2,g2,rfl⟩:=a1.form
  refine BA (hA:=a2) (hj:=rfl) (hlt:=b2) rfl rfl rfl ?_
  refine Bl (hl:=rfl) (hc:=c2) rfl rfl ?_
  refine Bg 4 i5 rfl fun h3 n5 m1 f0 v0=>?_
  refine Aw rfl rfl (AT v0 rfl rfl rfl (Bj rfl) (allOne rfl) fun i3 g0 v0=>?_)
  replace v0:Lc 4 i3 m1 h3 50 [(.string y0.name),(.int .i64 y0.cost),(.slice d2 y0.pre.length e2),(.slice f2 y0.effs.length g2)]:=v0
  refine o_z ?_
  refine Al (Bz [] m1 ?_)
  refine AR (fuel:=3) [] [(0,true),(1,true),(3,true),(4,true),(5,true),(6,true),(7,true),(8,true),(9,true),(10,true),(11,true)] (by kernel_rfl) rfl ?_
  replace l0:=(l0.st f0).st g0
  refine CQ (hl:=rfl) (hb:=fun w' ⟨O',hq⟩=>((l0.st hq (by decide)).1).cellsAt) rfl rfl rfl ?_
  refine CQ (hl:=rfl) (hb:=fun w' ⟨O',hq⟩=>((v0.st hq (by decide)).1).cellsAt) rfl rfl rfl ?_
  refine Be rfl rfl rfl ?_
  replace e0:=(e0.st f0).st g0
  refine AY (hc:=fun w' ⟨O',hq⟩=>Blk.cell (i:=3) ((e0.st hq (by decide)).1) rfl) rfl rfl rfl ?_
  refine Be rfl rfl rfl (AY (hc:=fun w' ⟨O',hq⟩=>Blk.cell (i:=2) ((l0.st hq (by decide)).1) rfl) rfl rfl rfl ?_)
  refine AP rfl rfl rfl ?_
  obtain ⟨o5,j3,c0⟩:=bs c0
  replace i0:=(i0.st f0).st g0
  obtain ⟨p5,q5,m4,h2,i2,j2,k2,rfl,r5⟩:=i0.elem j3
  refine BE (hA:=h2) (hj:=rfl) (hlt:=j2) rfl rfl rfl rfl ?_
  refine AY (hc:=fun w' ⟨O',hq⟩=>cat0 (AV (hq.agree (i:=0) (by decide)) i2 k2)) rfl rfl rfl ?_
  obtain ⟨w0,k3,c0⟩:=bs c0
  obtain ⟨l3,m3⟩:=Bb k3
  replace h0:=(h0.st f0).st g0
  obtain ⟨s5,t5,n4,l2,m2,n2,o2,u5,w5,rfl,b1,c1,n3,o3⟩:=h0.elem m3
  obtain ⟨p3,q3,rfl⟩:=b1.form
  obtain ⟨r3,s3,rfl⟩:=c1.form
  refine BE (hA:=l2) (hj:=(Int.toNat_of_nonneg l3).symm) (hlt:=n2) rfl rfl rfl rfl ?_
  refine CQ (hl:=rfl) (hb:=fun w' ⟨O',hq⟩=>(AV (hq.agree (i:=0) (by decide)) m2 o2)) rfl rfl rfl ?_
  refine AB ?_
  refine AQ (i:=2) (by kernel_rfl) rfl ?_
  obtain ⟨u0,t3,c0⟩:=bs c0
  replace n0:=(n0.st f0).st g0
  replace o0:=(o0.st f0).st g0
  replace z0:=(z0.st f0).st g0
  replace a1:=(a1.st f0).st g0
  refine Bu (O:=m1) (R:=fun w' F v=>Vb w' F v u0) (IZ Fr.lt (Vb.ofAgg (cs:=[(.slice d1 x1.vars.length e1),(.slice f1 x1.vals.length g1),(.slice h1 x1.ops.length i1)]) (x:=x1) rfl ⟨_,_,_,rfl,n0,o0,i0⟩) (Vb.ofAgg (cs:=[(.string y0.name),(.int .i64 y0.cost),(.slice d2 y0.pre.length e2),(.slice f2 y0.effs.length g2)]) (x:=y0) rfl ⟨_,_,rfl,z0,a1,f3,g3⟩) t3) rfl rfl fun x5 n1 o1 d0 u3=>?_
  obtain ⟨o4,rfl,y5,z5,rfl,p2,q2,v3,w3⟩:=u3
  obtain ⟨x3,y3,rfl⟩:=p2.form
  obtain ⟨z3,a4,rfl⟩:=q2.form
  have hZ:=d0.lst [] (fun _ h=>h.elim)
  refine AW [] hZ (by kernel_rfl) ?_
  refine AQ (i:=12) (by kernel_rfl) rfl ?_
  obtain ⟨r2,b4,c0⟩:=bs c0
  replace b1:=b1.st d0
  replace c1:=c1.st d0
  refine Bi (O:=o1) (A:=All n1) (R:=fun w' F v=>Vb w' F v r2) (IX (fun _ h=>h) (Vb.mono (F:=Fr 0 n1 o1) (Vb.ofAgg (cs:=[(.string u0.name),(.int .i64 u0.cost),(.slice x3 u0.pre.length y3),(.slice z3 u0.effs.length a4)]) (x:=u0) rfl ⟨_,_,rfl,p2,q2,v3,w3⟩) Fr.lt) (Vb.mono (F:=Fr 0 n1 o1) (Vb.ofAgg (cs:=[(.string w0.name),(.int .i64 w0.cost),(.slice p3 w0.pre.length q3),(.slice r3 w0.effs.length s3)]) (x:=w0) rfl ⟨_,_,rfl,b1,c1,n3,o3⟩) Fr.lt) b4) rfl rfl fun a6 b6 c6 k0 c4=>?_
  obtain rfl:=c4.bool
  have hZ:=k0.lst [] (fun _ h=>h.elim)
  cases r2
  case false =>
   replace c0:=iF c0
   refine AW [] hZ (by kernel_rfl) ?_
   refine AR (fuel:=0) [] [(13,true)] (by kernel_rfl) rfl ?_
   refine MF rfl rfl rfl (AB ?_)
   refine Bp (by kernel_rfl) ?_
   refine Ah rfl (Al (Aj (Aw rfl rfl (o_z ?_))))
   refine AH ?_
   obtain rfl:=sm c0
   obtain rfl:=l1 _ rfl
   obtain rfl:=sm (BO hm)
   replace hB:=(((hB.st f0).st g0).st d0).st k0
   exact ret1v rfl (AD rfl) ⟨hB.ext,vBool⟩
  replace c0:=iT c0
  refine AW [] hZ (by kernel_rfl) ?_
  refine AR (fuel:=0) [] [(13,true)] (by kernel_rfl) rfl ?_
  refine La rfl rfl rfl (AB ?_)
  refine Bp (by kernel_rfl) ?_
  refine Ae rfl (AO ?_)
  obtain rfl:=sm c0
  exact show Exists _ from ⟨_,(),rfl,⟨rfl,rfl,rfl,rfl,rfl,trivial⟩,_,(((hB.st f0).st g0).st d0).st k0,(e0.st d0).st k0,(((h8.st f0).st g0).st d0).st k0,(((t0.st f0).st g0).st d0).st k0,(((m0.st f0).st g0).st d0).st k0,(h0.st d0).st k0,(l0.st d0).st k0,(n0.st d0).st k0,(o0.st d0).st k0,(i0.st d0).st k0⟩
 rintro d6 e6 ⟨f6,g6,rfl,s2,h6,hB⟩
 replace hm:=Bh hm
 refine AN _ s2 ?_
 refine Al (Aj (Aw rfl rfl (o_z ?_)))
 refine AH ?_
 obtain rfl:=sm hm
 exact ret1v rfl (AD rfl) ⟨hB.ext,vBool⟩
noncomputable def Ct (x0:Tsk) (x1:Swp):Option Bool :=
  bnd (bnd (Cm x0) fun q47=>if q47.n=0 then (bnd (Dm x0 x1) fun q56=>if q56=true then some true else some false) else (some false):Option Bool) fun y43=>some y43
theorem Ja {w:World} {A:Nat→Prop} (hA:∀ k,A k→k < w.heap.size) {vx0:Value} {x0:Tsk} (m0:Vb w A vx0 x0) {vx1:Value} {x1:Swp} (n0:Vb w A vx1 x1) {r:Bool} (hm:Ct x0 x1=some r) :
    Fn Tryz.prog 23 [vx0,vx1] w fun v w'=>Ext w w'∧Vb w' (upA A w w') v r:=by
 obtain ⟨O,hB,c1⟩:=enter hA
 replace m0:=m0.mono c1
 obtain ⟨y1,rfl,v4,v5,v6,v7,rfl,h8,f0,g0,h0⟩:=m0
 obtain ⟨A9,o0,rfl⟩:=h8.form
 obtain ⟨p0,q0,rfl⟩:=f0.form
 obtain ⟨r0,s0,rfl⟩:=g0.form
 obtain ⟨t0,u0,rfl⟩:=h0.form
 replace n0:=n0.mono c1
 obtain ⟨m1,rfl,z1,a2,b2,rfl,j0,k0,l0⟩:=n0
 obtain ⟨d1,e1,rfl⟩:=j0.form
 obtain ⟨f1,g1,rfl⟩:=k0.form
 obtain ⟨h1,i1,rfl⟩:=l0.form
 refine AL Tryz.func23 rfl Tryz.ntmps23 rfl ?_
 unfold Ct at hm
 refine Al (Aj (BL 2 O rfl rfl fun n1 o1 j1 d0 e0=>?_))
 replace e0:Lc 2 o1 j1 n1 26 [(.slice A9 x0.vars.length o0),(.slice p0 x0.init.length q0),(.slice r0 x0.goal.length s0),(.slice t0 x0.ops.length u0)]:=e0
 refine BL 3 j1 rfl rfl fun p1 v0 w0 b0 i0=>?_
 replace i0:Lc 3 v0 w0 p1 53 [(.slice d1 x1.vars.length e1),(.slice f1 x1.vals.length g1),(.slice h1 x1.ops.length i1)]:=i0
 refine Aw rfl rfl (o_z ?_)
 refine Al ?_
 obtain ⟨q1,a0,hm⟩:=bs hm
 refine AJ (fun l' w'=>∃ (r1:Unit) (O':Lab),subs l' [(4,(.bool q1))]∧Bs w A w' O') ?_ ?_
 ·
  refine Aj ?_
  replace e0:=e0.st b0
  refine Bl (hl:=rfl) (hc:=(e0.1).cellsAt) rfl rfl ?_
  obtain ⟨s1,t1,a0⟩:=bs a0
  replace h8:=(h8.st d0).st b0
  replace f0:=(f0.st d0).st b0
  replace g0:=(g0.st d0).st b0
  replace h0:=(h0.st d0).st b0
  refine Bi (O:=w0) (A:=All v0) (R:=fun w' F v=>Vb w' F v s1) (Gw (fun _ h=>h) (Vb.mono (F:=Fr 0 v0 w0) (Vb.ofAgg (cs:=[(.slice A9 x0.vars.length o0),(.slice p0 x0.init.length q0),(.slice r0 x0.goal.length s0),(.slice t0 x0.ops.length u0)]) (x:=x0) rfl ⟨_,_,_,_,rfl,h8,f0,g0,h0⟩) Fr.lt) t1) rfl rfl fun c2 y0 z0 c0 u1=>?_
  obtain ⟨rfl,d2⟩:=u1.err
  refine OY rfl rfl (fun a1=>?_) fun a1=>?_
  ·
   replace a0:=ip a0 a1
   refine Ar rfl rfl (Au rfl rfl ?_)
   replace e0:=e0.st c0
   refine Bl (hl:=rfl) (hc:=(e0.1).cellsAt) rfl rfl ?_
   refine Au rfl rfl ?_
   replace i0:=i0.st c0
   refine Bl (hl:=rfl) (hc:=(i0.1).cellsAt) rfl rfl ?_
   refine Au rfl rfl ?_
   obtain ⟨k1,v1,a0⟩:=bs a0
   replace h8:=h8.st c0
   replace f0:=f0.st c0
   replace g0:=g0.st c0
   replace h0:=h0.st c0
   replace j0:=((j0.st d0).st b0).st c0
   replace k0:=((k0.st d0).st b0).st c0
   replace l0:=((l0.st d0).st b0).st c0
   refine Bi (O:=z0) (A:=All y0) (R:=fun w' F v=>Vb w' F v k1) (Hz (fun _ h=>h) (Vb.mono (F:=Fr 0 y0 z0) (Vb.ofAgg (cs:=[(.slice A9 x0.vars.length o0),(.slice p0 x0.init.length q0),(.slice r0 x0.goal.length s0),(.slice t0 x0.ops.length u0)]) (x:=x0) rfl ⟨_,_,_,_,rfl,h8,f0,g0,h0⟩) Fr.lt) (Vb.mono (F:=Fr 0 y0 z0) (Vb.ofAgg (cs:=[(.slice d1 x1.vars.length e1),(.slice f1 x1.vals.length g1),(.slice h1 x1.ops.length i1)]) (x:=x1) rfl ⟨_,_,_,rfl,j0,k0,l0⟩) Fr.lt) v1) rfl rfl fun e2 f2 g2 l1 w1=>?_
   obtain rfl:=w1.bool
   cases k1
   case false =>
    replace a0:=iF a0
    refine Bk rfl rfl rfl (Aw rfl rfl (o_z ?_))
    obtain rfl:=sm a0
    exact ⟨(),_,⟨rfl,trivial⟩,(((hB.st d0).st b0).st c0).st l1⟩
   replace a0:=iT a0
   refine Bk rfl rfl rfl (Aw rfl rfl (o_z ?_))
   obtain rfl:=sm a0
   exact ⟨(),_,⟨rfl,trivial⟩,(((hB.st d0).st b0).st c0).st l1⟩
  replace a0:=im a0 a1
  refine Ar rfl rfl (At rfl rfl rfl rfl (At rfl rfl rfl rfl (At rfl rfl rfl rfl (Bf rfl rfl rfl (Aw rfl rfl (o_z ?_))))))
  obtain rfl:=sm a0
  exact ⟨(),_,⟨rfl,trivial⟩,((hB.st d0).st b0).st c0⟩
 replace hB:=(hB.st d0).st b0
 rintro h2 i2 ⟨r1,j2,b1,hB⟩
 refine AN _ b1 ?_
 refine AH ?_
 obtain rfl:=sm hm
 exact ret1v rfl (AD rfl) ⟨hB.ext,vBool⟩
noncomputable def Bx (x0:Tsk) (x1:List Swp):Option Err :=
  bnd (Cm x0) fun q27=>if q27.n≠0 then (some (⟨q27.n⟩:Err)) else (bnd (rng (ρ:=Err) (fun (k42:Nat) (a43:Swp) (s40:Unit)=>bnd (Dm x0 a43) fun q79=>if q79=true then some (.next ()) else some (.ret (⟨2⟩:Err))) x1 0 ()) fun res38=>fin res38 fun (s90:Unit)=>some (⟨0⟩:Err))
theorem DV {w:World} {A:Nat→Prop} (hA:∀ k,A k→k < w.heap.size) {vx0:Value} {x0:Tsk} (f1:Vb w A vx0 x0) {vx1:Value} {x1:List Swp} (e0:Vb w A vx1 x1) {r:Err} (hm:Bx x0 x1=some r) :
    Fn Tryz.prog 85 [vx0,vx1] w fun v w'=>Ext w w'∧Vb w' (upA A w w') v r:=by
 obtain ⟨O,hB,r1⟩:=enter hA
 replace f1:=f1.mono r1
 obtain ⟨o2,rfl,v4,v5,v6,v7,rfl,h8,b0,c0,d0⟩:=f1
 obtain ⟨A9,n0,rfl⟩:=h8.form
 obtain ⟨o0,p0,rfl⟩:=b0.form
 obtain ⟨q0,r0,rfl⟩:=c0.form
 obtain ⟨s0,t0,rfl⟩:=d0.form
 replace e0:=e0.mono r1
 obtain ⟨s1,t1,rfl⟩:=e0.form
 refine AL Tryz.func85 rfl Tryz.ntmps85 rfl ?_
 unfold Bx at hm
 refine Al (Aj (BL 2 O rfl rfl fun g1 h1 i1 j0 f0=>?_))
 replace f0:Lc 2 h1 i1 g1 26 [(.slice A9 x0.vars.length n0),(.slice o0 x0.init.length p0),(.slice q0 x0.goal.length r0),(.slice s0 x0.ops.length t0)]:=f0
 refine Aw rfl rfl (o_z ?_)
 refine Al (Al (Aj (Bl (hl:=rfl) (hc:=(f0.1).cellsAt) rfl rfl ?_)))
 obtain ⟨c2,d2,hm⟩:=bs hm
 replace h8:=h8.st j0
 replace b0:=b0.st j0
 replace c0:=c0.st j0
 replace d0:=d0.st j0
 refine Bi (O:=i1) (A:=All h1) (R:=fun w' F v=>Vb w' F v c2) (Gw (fun _ h=>h) (Vb.mono (F:=Fr 0 h1 i1) (Vb.ofAgg (cs:=[(.slice A9 x0.vars.length n0),(.slice o0 x0.init.length p0),(.slice q0 x0.goal.length r0),(.slice s0 x0.ops.length t0)]) (x:=x0) rfl ⟨_,_,_,_,rfl,h8,b0,c0,d0⟩) Fr.lt) d2) rfl rfl fun p2 q2 e2 i0 f2=>?_
 obtain ⟨rfl,g2⟩:=f2.err
 refine Aw rfl rfl (o_z ?_)
 refine Al (Aj (Ar rfl rfl (EI rfl rfl (fun j1=>?_) fun j1=>?_)))
 ·
  replace hm:=ip hm j1
  refine o_z ?_
  refine Ah rfl (Al (Aj (Ar rfl rfl (Aw rfl rfl (o_z ?_)))))
  refine AH ?_
  obtain rfl:=sm hm
  replace hB:=(hB.st j0).st i0
  exact ret1v rfl (AD rfl) ⟨hB.ext,(vErr g2)⟩
 replace hm:=im hm j1
 refine o_z ?_
 refine Ae rfl (AO (Al (Al (Aj (Ar rfl rfl (AZ rfl rfl ?_))))))
 replace e0:=(e0.st j0).st i0
 have k1:x1.length≤9223372036854775807:=Nat.le_trans e0.len.2.1 e0.len.2.2
 have r2:inI64 (x1.length:Int):=rngNat k1
 refine Ar rfl rfl (o_z ?_)
 obtain ⟨u0,l1,hm⟩:=bs hm
 refine AJ (aft u0 (fun (y0:Unit) (z0:Unit)=>[]) (fun y0 z0 w'=>∃ O':Lab,Bs w A w' O')) ?_ ?_
 ·
  refine AX ?_
  replace hB:=(hB.st j0).st i0
  replace h8:=h8.st i0
  replace b0:=b0.st i0
  replace c0:=c0.st i0
  replace d0:=d0.st i0
  replace f0:=f0.st i0
  refine Bw (σ:=Unit) (X:=Unit) (x1.length) l1 rfl k1 (fun (y0:Unit) (z0:Unit)=>[(2,(.pointer (some ⟨g1,0,none⟩))),(13,(.slice s1 x1.length t1))]) _ (fun y0 z0 w'=>∃ O':Lab,Bs w A w' O'∧Lc 2 w' O' g1 26 [(.slice A9 x0.vars.length n0),(.slice o0 x0.init.length p0),(.slice q0 x0.goal.length r0),(.slice s0 x0.ops.length t0)]∧Vb w' (Fr 0 w' O') (.slice A9 x0.vars.length n0) x0.vars∧Vb w' (Fr 0 w' O') (.slice o0 x0.init.length p0) x0.init∧Vb w' (Fr 0 w' O') (.slice q0 x0.goal.length r0) x0.goal∧Vb w' (Fr 0 w' O') (.slice s0 x0.ops.length t0) x0.ops∧Vb w' (Fr 0 w' O') (.slice s1 x1.length t1) x1) _ () ⟨e2,hB,f0,h8,b0,c0,d0,e0⟩ ⟨rfl,rfl,rfl,rfl,trivial⟩ (fun _ _=>⟨rfl,rfl⟩) (fun _ _=>trivial) (fun _ _ _ ⟨O',hB,f0,h8,b0,c0,d0,e0⟩=>⟨O',hB⟩) ⟨rfl,rfl,rfl⟩ ⟨rfl,rfl⟩ ?_
  rintro h2 l0 y0 z0 s2 i2 v0 ⟨j2,hB,f0,h8,b0,c0,d0,e0⟩ a0 m0 m1
  have rk42:inI64 (h2:Int):=rngK v0 k1
  refine Al (Aj ?_)
  obtain ⟨t2,u2,k2,n1,o1,p1,v2,w2,x2,rfl,a1,b1,c1⟩:=e0.elem' v0
  obtain ⟨u1,v1,rfl⟩:=a1.form
  obtain ⟨w1,y1,rfl⟩:=b1.form
  obtain ⟨z1,a2,rfl⟩:=c1.form
  refine BA (hA:=n1) (hj:=rfl) (hlt:=o1) rfl rfl rfl ?_
  refine Bl (hl:=rfl) (hc:=p1) rfl rfl ?_
  refine Bg 3 j2 rfl fun l2 y2 d1 g0 w0=>?_
  refine AT w0 rfl rfl rfl (Bj rfl) (allOne rfl) fun e1 h0 w0=>?_
  replace w0:Lc 3 e1 d1 l2 53 [(.slice u1 l0.vars.length v1),(.slice w1 l0.vals.length y1),(.slice z1 l0.ops.length a2)]:=w0
  refine o_z ?_
  refine Al (Aj ?_)
  replace f0:=(f0.st g0).st h0
  refine Bl (hl:=rfl) (hc:=(f0.1).cellsAt) rfl rfl ?_
  refine Bl (hl:=rfl) (hc:=(w0.1).cellsAt) rfl rfl ?_
  obtain ⟨b2,m2,a0⟩:=bs a0
  replace h8:=(h8.st g0).st h0
  replace b0:=(b0.st g0).st h0
  replace c0:=(c0.st g0).st h0
  replace d0:=(d0.st g0).st h0
  replace a1:=(a1.st g0).st h0
  replace b1:=(b1.st g0).st h0
  replace c1:=(c1.st g0).st h0
  refine Bi (O:=d1) (A:=All e1) (R:=fun w' F v=>Vb w' F v b2) (Hz (fun _ h=>h) (Vb.mono (F:=Fr 0 e1 d1) (Vb.ofAgg (cs:=[(.slice A9 x0.vars.length n0),(.slice o0 x0.init.length p0),(.slice q0 x0.goal.length r0),(.slice s0 x0.ops.length t0)]) (x:=x0) rfl ⟨_,_,_,_,rfl,h8,b0,c0,d0⟩) Fr.lt) (Vb.mono (F:=Fr 0 e1 d1) (Vb.ofAgg (cs:=[(.slice u1 l0.vars.length v1),(.slice w1 l0.vals.length y1),(.slice z1 l0.ops.length a2)]) (x:=l0) rfl ⟨_,_,_,rfl,a1,b1,c1⟩) Fr.lt) m2) rfl rfl fun z2 a3 b3 k0 n2=>?_
  obtain rfl:=n2.bool
  cases b2
  case false =>
   replace a0:=iF a0
   refine Ce rfl rfl (o_z ?_)
   refine Ah rfl (Al (Aj (MI rfl rfl ?_)))
   refine Aw rfl rfl (o_z ?_)
   refine AH ?_
   obtain rfl:=sm a0
   obtain rfl:=m0 _ rfl
   obtain rfl:=sm (BO hm)
   replace hB:=((hB.st g0).st h0).st k0
   exact ret1v rfl (AD rfl) ⟨hB.ext,(vErr (by decide))⟩
  replace a0:=iT a0
  refine Cd rfl rfl (o_z ?_)
  refine Ae rfl (AO ?_)
  obtain rfl:=sm a0
  exact show Exists _ from ⟨_,(),rfl,⟨rfl,rfl,rfl,rfl,trivial⟩,_,((hB.st g0).st h0).st k0,f0.st k0,h8.st k0,b0.st k0,c0.st k0,d0.st k0,((e0.st g0).st h0).st k0⟩
 replace hB:=(hB.st j0).st i0
 rintro c3 d3 ⟨e3,f3,rfl,q1,g3,hB⟩
 replace hm:=Bh hm
 refine AN _ q1 ?_
 refine Al (Aj (Aw rfl rfl (o_z ?_)))
 refine AH ?_
 obtain rfl:=sm hm
 exact ret1v rfl (AD rfl) ⟨hB.ext,(vErr (show inI64 0 from by decide))⟩
end
section
open Go Go.RowKit
attribute [local irreducible] ewp owp hwp hwq hws Ev Evg Fn retPost loud loudS Res1
def exts (n:Nat) (s:List Int):List (List Int):=(List.range n).map fun x:Nat=>s ++ [(x:Int)]
def grows (out:List (List Int)) (k:Int):List (List Int):=out.flatMap (exts k.toNat)
def statesL (vars:List Int):List (List Int):=vars.foldl grows [[]]
theorem Oc (n:Nat) (s:List Int):(exts n s).length=n:=by simp [exts]
theorem Kl (n:Nat):∀ l:List (List Int),(l.flatMap (exts n)).length=l.length * n
  | []=>by simp
  | s :: l=>by rw [List.flatMap_cons,List.length_append,Oc,Kl n l,List.length_cons,Nat.add_mul];omega
end
section
open Go Go.RowKit
def prodV:List Int→Nat→Nat
  | [],n=>n
  | k :: r,n=>prodV r (n * k.toNat)
theorem GF:∀ (vars:List Int) (out:List (List Int)),(vars.foldl grows out).length=prodV vars out.length
  | [],_=>rfl
  | k :: r,out=>by
    simp only [List.foldl_cons,prodV]
    rw [GF r,grows,Kl]
theorem LT (vars:List Int):(statesL vars).length=prodV vars 1:=GF vars [[]]
theorem Km {most:Nat}:∀ (vars:List Int) (n:Nat),(∀ x∈vars,1≤x)→1≤n→manyF most vars (n:Int)≤most→∀ k,prodV (vars.take k) n≤most
  | [],n,_,_,h,k=>by simp only [List.take_nil,prodV];simp only [manyF] at h;omega
  | x :: r,n,hx,hn,h,k=>by
    have h1:1≤x:=hx x List.mem_cons_self
    simp only [manyF] at h
    have hmax:max x 0=x:=by omega
    rw [hmax] at h
    obtain ⟨m,rfl⟩:∃ m:Nat,x=(m:Int):=⟨x.toNat,by omega⟩
    by_cases hm:(m:Int)≤most
    · rw [show min (m:Int) (most + 1)=(m:Int) from by omega,← Int.natCast_mul] at h
      have hnm:n≤n * m:=Nat.le_mul_of_pos_right n (by omega)
      by_cases hc:(most:Int) < ((n * m:Nat):Int)
      · rw [if_pos hc] at h;omega
      · rw [if_neg hc] at h
        cases k with
        | zero=>simp only [List.take_zero,prodV];omega
        | succ k =>
          simp only [List.take_succ_cons,prodV,Int.toNat_natCast]
          exact Km r (n * m) (fun y hy=>hx y (List.mem_cons_of_mem _ hy)) (by omega) h k
    · exfalso
      rw [show min (m:Int) (most + 1)=((most + 1:Nat):Int) from by omega,← Int.natCast_mul] at h
      have:most + 1≤n * (most + 1):=Nat.le_mul_of_pos_left _ hn
      rw [if_pos (by omega)] at h
      omega
theorem HV {y x:Int} {vs s:List Int}:StateOk (y :: vs) (x :: s)↔(0≤x∧x < y)∧StateOk vs s:=by
  constructor
  · intro h
    exact ⟨h.2 0 x y rfl rfl,by have:=h.1;simpa using this,fun i a b ha hb=>h.2 (i + 1) a b (by simpa using ha) (by simpa using hb)⟩
  · rintro ⟨h1,h2,h3⟩
    refine ⟨by simpa using h2,fun i a b ha hb=>?_⟩
    cases i with
    | zero=>simp at ha hb;subst ha;subst hb;exact h1
    | succ i=>exact h3 i a b (by simpa using ha) (by simpa using hb)
theorem LU:StateOk [] []:=⟨rfl,fun i a b ha=>by simp at ha⟩
theorem Lp {n:Nat} {s t:List Int}:t∈exts n s↔∃ x:Nat,x < n∧t=s ++ [(x:Int)]:=by
  unfold exts
  rw [List.mem_map]
  constructor
  · rintro ⟨x,hx,rfl⟩;exact ⟨x,List.mem_range.1 hx,rfl⟩
  · rintro ⟨x,hx,rfl⟩;exact ⟨x,List.mem_range.2 hx,rfl⟩
theorem GG:∀ (vars:List Int) (out:List (List Int)) (s:List Int),s∈vars.foldl grows out↔∃ s0∈out,∃ r,s=s0 ++ r∧StateOk vars r
  | [],out,s=>by
    constructor
    · intro h;exact ⟨s,h,[],by simp,LU⟩
    · rintro ⟨s0,h,r,rfl,hr⟩
      have:r=[]:=List.eq_nil_of_length_eq_zero hr.1
      subst this;simpa using h
  | k :: vs,out,s=>by
    simp only [List.foldl_cons]
    rw [GG vs (grows out k) s]
    constructor
    · rintro ⟨s1,h1,r,rfl,hr⟩
      obtain ⟨s0,h0,h2⟩:=List.mem_flatMap.1 h1
      obtain ⟨x,hx,rfl⟩:=Lp.1 h2
      exact ⟨s0,h0,(x:Int) :: r,by simp,HV.2 ⟨⟨by omega,by omega⟩,hr⟩⟩
    · rintro ⟨s0,h0,r,rfl,hr⟩
      cases r with
      | nil=>have:=hr.1;simp at this
      | cons x r =>
        obtain ⟨⟨h1,h2⟩,h3⟩:=HV.1 hr
        exact ⟨s0 ++ [x],List.mem_flatMap.2 ⟨s0,h0,Lp.2 ⟨x.toNat,by omega,by rw [show ((x.toNat:Nat):Int)=x from by omega]⟩⟩,r,by simp,h3⟩
theorem GO {vars s:List Int}:s∈statesL vars↔StateOk vars s:=by
  unfold statesL
  rw [GG]
  constructor
  · rintro ⟨s0,h0,r,rfl,hr⟩
    have:s0=[]:=by simpa using h0
    subst this;exact hr
  · intro h;exact ⟨[],by simp,s,rfl,h⟩
theorem SmallOk.ok {t:Tsk} (h:SmallOk t):TaskOk t:=h.2.2.2.1
theorem SmallOk.states {t:Tsk} (h:SmallOk t):∀ k,(statesL (t.vars.take k)).length≤512:=fun k=>by
  rw [LT]
  refine Km (most:=512) t.vars 1 (fun x hx=>?_) (Nat.le_refl _) h.2.2.2.2 k
  obtain ⟨i,hi,rfl⟩:=List.getElem_of_mem hx
  exact (h.ok.vars i _ (List.getElem?_eq_getElem hi)).1
theorem SmallOk.many {t:Tsk} (h:SmallOk t):(statesL t.vars).length≤512:=by
  have:=h.states t.vars.length
  rwa [List.take_length] at this
end
section
open Go Go.RowKit
attribute [local irreducible] ewp owp hwp hwq hws Ev Evg Fn retPost loud loudS Res1
noncomputable def CI (x0:Tsk):Option (Swp×Err) :=
  bnd (Bx x0 ([]:List Swp)) fun q29=>if q29.n≠0 then (some ((⟨([]:List Int),([]:List (List Int)),([]:List Int)⟩:Swp),(⟨q29.n⟩:Err))) else (bnd (CR (x0.vars.length:Int)) fun q40=>bnd (CR (x0.ops.length:Int)) fun q42=>bnd (some (q40,q42):Option ((List Int)×(List Int))) fun y44=>bnd (rng (ρ:=Swp×Err) (fun (k121:Nat) (a122:Int) (s119:(List (List Int)))=>bnd (CR a122) fun q144=>bnd (appI 24 s119 [q144]) fun u159=>some (.next u159)) x0.vars 0 ([]:List (List Int))) fun res117=>fin res117 fun (s176:(List (List Int)))=>some ((⟨y44.1,s176,y44.2⟩:Swp),(⟨0⟩:Err)))
theorem HH {w:World} {A:Nat→Prop} (hA:∀ k,A k→k < w.heap.size) {vx0:Value} {x0:Tsk} (z2:Vb w A vx0 x0) {r:Swp×Err} (hm:CI x0=some r) :
    Fn Tryz.prog 62 [vx0] w fun v w'=>Ext w w'∧T2 w' (upA A w w') v r:=by
 obtain ⟨O,hB,o4⟩:=enter hA
 replace z2:=z2.mono o4
 obtain ⟨a6,rfl,v3,v4,v5,v6,rfl,h7,t0,u0,p0⟩:=z2
 obtain ⟨A8,c9,rfl⟩:=h7.form
 obtain ⟨p2,q2,rfl⟩:=t0.form
 obtain ⟨r2,s2,rfl⟩:=u0.form
 obtain ⟨t2,u2,rfl⟩:=p0.form
 refine AL Tryz.func62 rfl Tryz.ntmps62 rfl ?_
 unfold CI at hm
 refine Al (Aj (BL 2 O rfl rfl fun a3 p4 u3 z0 m0=>?_))
 replace m0:Lc 2 p4 u3 a3 26 [(.slice A8 x0.vars.length c9),(.slice p2 x0.init.length q2),(.slice r2 x0.goal.length s2),(.slice t2 x0.ops.length u2)]:=m0
 refine Bg 3 u3 rfl fun k1 w3 x3 v0 c0=>?_
 refine Aw rfl rfl (o_z ?_)
 refine Al (Al (Aj ?_))
 replace m0:=m0.st v0
 refine Bl (hl:=rfl) (hc:=(m0.1).cellsAt) rfl rfl ?_
 obtain ⟨q4,r4,hm⟩:=bs hm
 replace h7:=(h7.st z0).st v0
 replace t0:=(t0.st z0).st v0
 replace u0:=(u0.st z0).st v0
 replace p0:=(p0.st z0).st v0
 refine Bi (O:=x3) (A:=All w3) (R:=fun w' F v=>Vb w' F v q4) (DV (fun _ h=>h) (Vb.mono (F:=Fr 0 w3 x3) (Vb.ofAgg (cs:=[(.slice A8 x0.vars.length c9),(.slice p2 x0.init.length q2),(.slice r2 x0.goal.length s2),(.slice t2 x0.ops.length u2)]) (x:=x0) rfl ⟨_,_,_,_,rfl,h7,t0,u0,p0⟩) Fr.lt) (Vb.nil _ _) r4) rfl rfl fun b6 c6 u1 e0 s4=>?_
 obtain ⟨rfl,t4⟩:=s4.err
 refine Aw rfl rfl (o_z ?_)
 refine Al (Aj (Ar rfl rfl (EI rfl rfl (fun b3=>?_) fun b3=>?_)))
 ·
  replace hm:=ip hm b3
  refine o_z ?_
  refine Ah rfl (Al (Aj (Dc rfl rfl rfl ?_)))
  refine Ar rfl rfl ?_
  replace c0:=c0.st e0
  refine AT c0 rfl rfl rfl (Bj rfl) (allOne rfl) fun y3 u4 c0=>?_
  replace c0:Lc 3 y3 u1 k1 53 [(.slice none 0 0),(.slice none 0 0),(.slice none 0 0)]:=c0
  refine Aw rfl rfl (o_z ?_)
  refine AH ?_
  obtain rfl:=sm hm
  replace hB:=(((hB.st z0).st v0).st e0).st u4
  exact ret2 rfl (Cj (cs:=[(.slice none 0 0),(.slice none 0 0),(.slice none 0 0)]) rfl rfl c0.1.cellsAt) (AD rfl) ⟨hB.ext,_,_,rfl,(Vb.mono (F:=Fr 0 y3 u1) (Vb.ofAgg (cs:=[(.slice none 0 0),(.slice none 0 0),(.slice none 0 0)]) (x:=(⟨([]:List Int),([]:List (List Int)),([]:List Int)⟩:Swp)) rfl ⟨_,_,_,rfl,(Vb.nil _ _),(Vb.nil _ _),(Vb.nil _ _)⟩) hB.out),(vErr t4)⟩
 replace hm:=im hm b3
 refine o_z ?_
 refine Ae rfl (AO (Al ?_))
 obtain ⟨v1,z3,hm⟩:=bs hm
 obtain ⟨t1,c3,hm⟩:=bs hm
 obtain ⟨b0,n1,hm⟩:=bs hm
 refine AJ (fun l' w'=>∃ (a0:Nat×(Option Addr×Nat)×(Option Addr×Nat)) (O':Lab),subs l' [(1,(.pointer (some ⟨a3,0,none⟩))),(2,(.pointer (some ⟨k1,0,none⟩))),(5,(.pointer (some ⟨a0.1,0,none⟩)))]∧Bs w A w' O'∧Lc 2 w' O' a3 26 [(.slice A8 x0.vars.length c9),(.slice p2 x0.init.length q2),(.slice r2 x0.goal.length s2),(.slice t2 x0.ops.length u2)]∧Vb w' (Fr 0 w' O') (.slice A8 x0.vars.length c9) x0.vars∧Vb w' (Fr 0 w' O') (.slice p2 x0.init.length q2) x0.init∧Vb w' (Fr 0 w' O') (.slice r2 x0.goal.length s2) x0.goal∧Vb w' (Fr 0 w' O') (.slice t2 x0.ops.length u2) x0.ops∧Lc 3 w' O' k1 53 [(.slice none 0 0),(.slice none 0 0),(.slice none 0 0)]∧Lc 4 w' O' a0.1 53 [(.slice a0.2.1.1 b0.1.length a0.2.1.2),(.slice none 0 0),(.slice a0.2.2.1 b0.2.length a0.2.2.2)]∧Vb w' (Fr 0 w' O') (.slice a0.2.1.1 b0.1.length a0.2.1.2) b0.1∧Vb w' (Fr 0 w' O') (.slice a0.2.2.1 b0.2.length a0.2.2.2) b0.2) ?_ ?_
 ·
  refine Bz [] u1 ?_
  refine AR (fuel:=5) [] [(0,true),(1,true),(2,true),(4,true),(5,true),(6,true)] (by kernel_rfl) rfl ?_
  refine Be rfl rfl rfl ?_
  replace m0:=m0.st e0
  refine AY (hc:=fun w' ⟨O',hq⟩=>Blk.cell (i:=0) ((m0.st hq (by decide)).1) rfl) rfl rfl rfl ?_
  refine IQ rfl rfl rfl ?_
  replace h7:=h7.st e0
  have w4:x0.vars.length≤9223372036854775807:=Nat.le_trans h7.len.2.1 h7.len.2.2
  have a4:inI64 (x0.vars.length:Int):=rngNat w4
  refine Be rfl rfl rfl (AY (hc:=fun w' ⟨O',hq⟩=>Blk.cell (i:=3) ((m0.st hq (by decide)).1) rfl) rfl rfl rfl ?_)
  refine IQ rfl rfl rfl ?_
  replace p0:=p0.st e0
  have x4:x0.ops.length≤9223372036854775807:=Nat.le_trans p0.len.2.1 p0.len.2.2
  have d3:inI64 (x0.ops.length:Int):=rngNat x4
  refine AB ?_
  refine ER (i:=3) (j:=9) (by kernel_rfl) rfl rfl ?_ ?_
  ·
   refine Bu (O:=u1) (R:=fun w' F v=>Vb w' F v v1) (Di Fr.lt a4 z3) rfl rfl fun d6 e6 b4 n0 e3=>?_
   obtain ⟨v2,w2,rfl⟩:=e3.form
   have hZ:=n0.lst [] (fun _ h=>h.elim)
   refine AW [] hZ (by kernel_rfl) ?_
   refine ER (i:=7) (j:=9) (by kernel_rfl) rfl rfl ?_ ?_
   ·
    refine Bu (O:=b4) (R:=fun w' F v=>Vb w' F v t1) (Di Fr.lt d3 c3) rfl rfl fun f6 g6 y4 a1 c4=>?_
    obtain ⟨d4,e4,rfl⟩:=c4.form
    have hZ:=a1.lst [] (fun _ h=>h.elim)
    refine AW [] hZ (by kernel_rfl) ?_
    refine AR (fuel:=2) [] [(8,true)] (by kernel_rfl) rfl ?_
    refine Dj rfl rfl rfl rfl ?_
    refine AB ?_
    refine AQ (i:=9) (by kernel_rfl) rfl ?_
    refine Bg 4 y4 rfl fun f4 h6 z4 w0 w1=>?_
    have hZ:=w0.lst [] (fun _ h=>h.elim)
    refine AW [] hZ (by kernel_rfl) ?_
    refine AQ (i:=10) (by kernel_rfl) rfl ?_
    refine AT w1 rfl rfl rfl (Bj rfl) (allOne rfl) fun a5 b1 w1=>?_
    replace w1:Lc 4 a5 z4 f4 53 [(.slice v2 v1.length w2),(.slice none 0 0),(.slice d4 t1.length e4)]:=w1
    refine Cf (by kernel_rfl) ?_
    refine Bp (by kernel_rfl) ?_
    obtain rfl:=sm n1
    exact ⟨(f4,(v2,w2),(d4,e4)),_,⟨rfl,rfl,rfl,trivial⟩,((((((hB.st z0).st v0).st e0).st n0).st a1).st w0).st b1,(((m0.st n0).st a1).st w0).st b1,(((h7.st n0).st a1).st w0).st b1,((((t0.st e0).st n0).st a1).st w0).st b1,((((u0.st e0).st n0).st a1).st w0).st b1,(((p0.st n0).st a1).st w0).st b1,((((c0.st e0).st n0).st a1).st w0).st b1,w1,((e3.st a1).st w0).st b1,(c4.st w0).st b1⟩
   refine Bg 4 b4 rfl fun g4 i6 b5 c1 o1=>?_
   have hZ:=c1.lst [] (fun _ h=>h.elim)
   refine AW [] hZ (by kernel_rfl) ?_
   refine AQ (i:=7) (by kernel_rfl) rfl ?_
   refine Bu (O:=b5) (R:=fun w' F v=>Vb w' F v t1) (Di Fr.lt d3 c3) rfl rfl fun j6 k6 c5 y0 h4=>?_
   obtain ⟨i4,j4,rfl⟩:=h4.form
   have hZ:=y0.lst [] (fun _ h=>h.elim)
   refine AW [] hZ (by kernel_rfl) ?_
   refine AR (fuel:=1) [] [(8,true)] (by kernel_rfl) rfl ?_
   refine Dj rfl rfl rfl rfl ?_
   refine AB ?_
   refine AQ (i:=10) (by kernel_rfl) rfl ?_
   replace o1:=o1.st y0
   refine AT o1 rfl rfl rfl (Bj rfl) (allOne rfl) fun d5 d1 o1=>?_
   replace o1:Lc 4 d5 c5 g4 53 [(.slice v2 v1.length w2),(.slice none 0 0),(.slice i4 t1.length j4)]:=o1
   refine Cf (by kernel_rfl) ?_
   refine Bp (by kernel_rfl) ?_
   obtain rfl:=sm n1
   exact ⟨(g4,(v2,w2),(i4,j4)),_,⟨rfl,rfl,rfl,trivial⟩,((((((hB.st z0).st v0).st e0).st n0).st c1).st y0).st d1,(((m0.st n0).st c1).st y0).st d1,(((h7.st n0).st c1).st y0).st d1,((((t0.st e0).st n0).st c1).st y0).st d1,((((u0.st e0).st n0).st c1).st y0).st d1,(((p0.st n0).st c1).st y0).st d1,((((c0.st e0).st n0).st c1).st y0).st d1,o1,((e3.st c1).st y0).st d1,h4.st d1⟩
  refine Bg 4 u1 rfl fun k4 l6 e5 l1 p1=>?_
  have hZ:=l1.lst [] (fun _ h=>h.elim)
  refine AW [] hZ (by kernel_rfl) ?_
  refine AQ (i:=3) (by kernel_rfl) rfl ?_
  refine Bu (O:=e5) (R:=fun w' F v=>Vb w' F v v1) (Di Fr.lt a4 z3) rfl rfl fun m6 n6 f5 e1 l4=>?_
  obtain ⟨x1,y1,rfl⟩:=l4.form
  have hZ:=e1.lst [] (fun _ h=>h.elim)
  refine AW [] hZ (by kernel_rfl) ?_
  refine AQ (i:=7) (by kernel_rfl) rfl ?_
  refine Bu (O:=f5) (R:=fun w' F v=>Vb w' F v t1) (Di Fr.lt d3 c3) rfl rfl fun g5 h5 f3 g0 z1=>?_
  obtain ⟨a2,b2,rfl⟩:=z1.form
  have hZ:=g0.lst [] (fun _ h=>h.elim)
  refine AW [] hZ (by kernel_rfl) ?_
  refine AR (fuel:=1) [] [(8,true)] (by kernel_rfl) rfl ?_
  refine Dj rfl rfl rfl rfl ?_
  refine AB ?_
  refine AQ (i:=10) (by kernel_rfl) rfl ?_
  replace p1:=(p1.st e1).st g0
  refine AT p1 rfl rfl rfl (Bj rfl) (allOne rfl) fun g3 i0 p1=>?_
  replace p1:Lc 4 g3 f3 k4 53 [(.slice x1 v1.length y1),(.slice none 0 0),(.slice a2 t1.length b2)]:=p1
  refine Cf (by kernel_rfl) ?_
  refine Bp (by kernel_rfl) ?_
  obtain rfl:=sm n1
  exact ⟨(k4,(x1,y1),(a2,b2)),_,⟨rfl,rfl,rfl,trivial⟩,((((((hB.st z0).st v0).st e0).st l1).st e1).st g0).st i0,(((m0.st l1).st e1).st g0).st i0,(((h7.st l1).st e1).st g0).st i0,((((t0.st e0).st l1).st e1).st g0).st i0,((((u0.st e0).st l1).st e1).st g0).st i0,(((p0.st l1).st e1).st g0).st i0,((((c0.st e0).st l1).st e1).st g0).st i0,p1,(l4.st g0).st i0,z1.st i0⟩
 replace hB:=((hB.st z0).st v0).st e0
 replace h7:=h7.st e0
 replace t0:=t0.st e0
 replace u0:=u0.st e0
 replace p0:=p0.st e0
 replace m0:=m0.st e0
 replace c0:=c0.st e0
 rintro i5 j5 ⟨a0,h3,c2,hB,m0,h7,t0,u0,p0,c0,q0,f1,g1⟩
 refine AN _ c2 ?_
 refine Al (Al (Aj (AK rfl rfl (AF (hc:=Blk.cell (i:=0) (m0.1) rfl) rfl rfl ?_))))
 refine AZ rfl rfl ?_
 have q1:x0.vars.length≤9223372036854775807:=Nat.le_trans h7.len.2.1 h7.len.2.2
 have k5:inI64 (x0.vars.length:Int):=rngNat q1
 refine Ar rfl rfl (o_z ?_)
 obtain ⟨r1,d2,hm⟩:=bs hm
 refine AJ (aft r1 (fun (h0:(List (List Int))) (d0:(Option Addr×Nat))=>[(2,(.pointer (some ⟨k1,0,none⟩))),(5,(.pointer (some ⟨a0.1,0,none⟩)))]) (fun h0 d0 w'=>∃ O':Lab,Bs w A w' O'∧Lc 3 w' O' k1 53 [(.slice none 0 0),(.slice none 0 0),(.slice none 0 0)]∧Lc 4 w' O' a0.1 53 [(.slice a0.2.1.1 b0.1.length a0.2.1.2),(.slice d0.1 h0.length d0.2),(.slice a0.2.2.1 b0.2.length a0.2.2.2)]∧Vb w' (Fr 0 w' O') (.slice a0.2.1.1 b0.1.length a0.2.1.2) b0.1∧Rw 6 w' O' 22 (.slice d0.1 h0.length d0.2) h0∧Vb w' (Fr 0 w' O') (.slice a0.2.2.1 b0.2.length a0.2.2.2) b0.2)) ?_ ?_
 ·
  refine AX (Bw (σ:=(List (List Int))) (X:=(Option Addr×Nat)) (x0.vars.length) d2 rfl q1 (fun (h0:(List (List Int))) (d0:(Option Addr×Nat))=>[(2,(.pointer (some ⟨k1,0,none⟩))),(5,(.pointer (some ⟨a0.1,0,none⟩))),(24,(.slice A8 x0.vars.length c9))]) _ (fun h0 d0 w'=>∃ O':Lab,Bs w A w' O'∧Lc 3 w' O' k1 53 [(.slice none 0 0),(.slice none 0 0),(.slice none 0 0)]∧Lc 4 w' O' a0.1 53 [(.slice a0.2.1.1 b0.1.length a0.2.1.2),(.slice d0.1 h0.length d0.2),(.slice a0.2.2.1 b0.2.length a0.2.2.2)]∧Vb w' (Fr 0 w' O') (.slice a0.2.1.1 b0.1.length a0.2.1.2) b0.1∧Rw 6 w' O' 22 (.slice d0.1 h0.length d0.2) h0∧Vb w' (Fr 0 w' O') (.slice a0.2.2.1 b0.2.length a0.2.2.2) b0.2∧Vb w' (Fr 0 w' O') (.slice A8 x0.vars.length c9) x0.vars) _ (none,0) ⟨h3,hB,c0,q0,f1,(Rw.nil 6 (by decide)),g1,h7⟩ ⟨rfl,rfl,rfl,rfl,rfl,trivial⟩ (fun _ _=>⟨rfl,rfl⟩) (fun _ _=>⟨rfl,rfl,trivial⟩) (fun _ _ _ ⟨O',hB,c0,q0,f1,f0,g1,h7⟩=>⟨O',hB,c0,q0,f1,f0,g1⟩) ⟨rfl,rfl,rfl⟩ ⟨rfl,rfl⟩ ?_)
  rintro i3 l5 h0 d0 m5 m4 m1 ⟨e2,hB,c0,q0,f1,f0,g1,h7⟩ j0 x2 y2
  have rk121:inI64 (i3:Int):=rngK m1 q1
  refine Al (Aj ?_)
  obtain ⟨n5,o5,n4,f2,g2,h2,rfl,j3⟩:=h7.elem' m1
  refine BA (hA:=f2) (hj:=rfl) (hlt:=g2) rfl rfl rfl ?_
  refine AF (hc:=cat0 h2) rfl rfl ?_
  refine Aw rfl rfl (o_z ?_)
  refine Bz [(5,[6])] e2 ?_
  refine AR (fuel:=5) [] [(0,true),(1,true),(2,true)] (by kernel_rfl) rfl ?_
  refine Be rfl rfl rfl (AY (hc:=fun w' ⟨O',hq⟩=>Blk.cell (i:=1) ((q0.st hq (by decide)).1) rfl) rfl rfl rfl ?_)
  refine AP rfl rfl rfl (AB ?_)
  refine AQ (i:=3) (by kernel_rfl) rfl ?_
  obtain ⟨i2,k3,j0⟩:=bs j0
  refine Bu (O:=e2) (R:=fun w' F v=>Vb w' F v i2) (Di Fr.lt j3 k3) rfl rfl fun p5 q5 l3 k0 j2=>?_
  obtain ⟨r5,s5,rfl⟩:=j2.form
  have hZ:=k0.lst [] (fun _ h=>h.elim)
  refine AW [(5,[6])] hZ (by kernel_rfl) ?_
  refine AQ (i:=4) (by kernel_rfl) rfl ?_
  refine CB 5 (by decide) l3 (xs:=([i2]:List (List Int))) rfl rfl rfl rfl ⟨j2,trivial⟩ (by decide) (by decide) rfl fun t5 u5 w5 l0 m3=>?_
  have hZ:=l0.lst [] (fun _ h=>h.elim)
  refine AW [(5,[6])] hZ (by kernel_rfl) ?_
  refine AQ (i:=5) (by kernel_rfl) rfl ?_
  obtain ⟨n3,s1,j0⟩:=bs j0
  obtain ⟨s1,o3,p3⟩:=CG s1
  replace f0:=(f0.st k0).st l0
  refine EJ rfl f0 (m3.rd) rfl rfl (by decide) o3 p3 rfl fun k2 l2 x5 q3 o0 m2=>?_
  rw [← s1] at m2 ⊢
  have hZ:=o0.lst [6] (fun _ h=>by cases h;decide)
  refine AW [] hZ (by kernel_rfl) ?_
  refine AR (fuel:=1) [] [(6,true)] (by kernel_rfl) rfl ?_
  refine Be rfl rfl rfl (AB ?_)
  refine AQ (i:=7) (by kernel_rfl) rfl ?_
  replace q0:=((q0.st k0).st l0).st o0
  refine AT q0 rfl rfl rfl (Bj rfl) (allOne rfl) fun r3 r0 q0=>?_
  replace q0:Lc 4 r3 q3 a0.1 53 [(.slice a0.2.1.1 b0.1.length a0.2.1.2),(.slice k2 n3.length l2),(.slice a0.2.2.1 b0.2.length a0.2.2.2)]:=q0
  refine Cf (by kernel_rfl) ?_
  refine Bp (by kernel_rfl) ?_
  obtain rfl:=sm j0
  exact show Exists _ from ⟨_,(k2,l2),rfl,⟨rfl,rfl,rfl,rfl,rfl,trivial⟩,_,(((hB.st k0).st l0).st o0).st r0,(((c0.st k0).st l0).st o0).st r0,q0,(((f1.st k0).st l0).st o0).st r0,m2.st r0,(((g1.st k0).st l0).st o0).st r0,(((h7.st k0).st l0).st o0).st r0⟩
 rintro y5 z5 ⟨h1,s0,rfl,n2,s3,hB,c0,q0,f1,f0,g1⟩
 replace hm:=Bh hm
 refine AN _ n2 ?_
 refine Al (Aj (Bl (hl:=rfl) (hc:=(q0.1).cellsAt) rfl rfl ?_))
 refine AT c0 rfl rfl rfl (Bj rfl) (allOne rfl) fun o2 i1 c0=>?_
 replace c0:Lc 3 o2 s3 k1 53 [(.slice a0.2.1.1 b0.1.length a0.2.1.2),(.slice s0.1 h1.length s0.2),(.slice a0.2.2.1 b0.2.length a0.2.2.2)]:=c0
 refine Aw rfl rfl (o_z ?_)
 refine AH ?_
 replace f0:=f0.st i1
 obtain ⟨t3,j1,f0⟩:=f0.freeze
 obtain rfl:=sm hm
 replace hB:=(hB.st i1).st j1
 replace c0:=c0.st j1
 replace f1:=(f1.st i1).st j1
 replace g1:=(g1.st i1).st j1
 exact ret2 rfl (Cj (cs:=[(.slice a0.2.1.1 b0.1.length a0.2.1.2),(.slice s0.1 h1.length s0.2),(.slice a0.2.2.1 b0.2.length a0.2.2.2)]) rfl rfl c0.1.cellsAt) (AD rfl) ⟨hB.ext,_,_,rfl,(Vb.mono (F:=Fr 0 o2 t3) (Vb.ofAgg (cs:=[(.slice a0.2.1.1 b0.1.length a0.2.1.2),(.slice s0.1 h1.length s0.2),(.slice a0.2.2.1 b0.2.length a0.2.2.2)]) (x:=(⟨b0.1,h1,b0.2⟩:Swp)) rfl ⟨_,_,_,rfl,f1,f0,g1⟩) hB.out),(vErr (show inI64 0 from by decide))⟩
noncomputable def Cb (x0:Tsk) (x1:Swp) (x2:Swp):Option (Swp×Err) :=
  bnd (Bx x0 [x1,x2]) fun q73=>if q73.n≠0 then (some ((⟨([]:List Int),([]:List (List Int)),([]:List Int)⟩:Swp),(⟨q73.n⟩:Err))) else (bnd (CN x1.vars x2.vars) fun q84=>bnd (CN x1.ops x2.ops) fun q86=>bnd (some (q84,q86):Option ((List Int)×(List Int))) fun y88=>bnd (rng (ρ:=Swp×Err) (fun (k161:Nat) (a162:List Int) (s159:(List (List Int)))=>bnd (x1.vars[k161]?) fun a187=>bnd (atI x2.vals a187) fun a197=>bnd (CN a162 a197) fun q212=>bnd (appI 24 s159 [q212]) fun u227=>some (.next u227)) x1.vals 0 ([]:List (List Int))) fun res157=>fin res157 fun (s244:(List (List Int)))=>some ((⟨y88.1,s244,y88.2⟩:Swp),(⟨0⟩:Err)))
theorem HW {w:World} {A:Nat→Prop} (hA:∀ k,A k→k < w.heap.size) {vx0:Value} {x0:Tsk} (o4:Vb w A vx0 x0) {vx1:Value} {x1:Swp} (p4:Vb w A vx1 x1) {vx2:Value} {x2:Swp} (q4:Vb w A vx2 x2) {r:Swp×Err} (hm:Cb x0 x1 x2=some r) :
    Fn Tryz.prog 64 [vx0,vx1,vx2] w fun v w'=>Ext w w'∧T2 w' (upA A w w') v r:=by
 obtain ⟨O,hB,r4⟩:=enter hA
 replace o4:=o4.mono r4
 obtain ⟨u8,rfl,v5,v6,v7,v8,rfl,h9,j4,k4,l4⟩:=o4
 obtain ⟨w5,x5,rfl⟩:=h9.form
 obtain ⟨y5,z5,rfl⟩:=j4.form
 obtain ⟨a6,b6,rfl⟩:=k4.form
 obtain ⟨c6,d6,rfl⟩:=l4.form
 replace p4:=p4.mono r4
 obtain ⟨q6,rfl,w8,x8,y8,rfl,z0,g1,u0⟩:=p4
 obtain ⟨i2,j2,rfl⟩:=z0.form
 obtain ⟨c2,d2,rfl⟩:=g1.form
 obtain ⟨k2,l2,rfl⟩:=u0.form
 replace q4:=q4.mono r4
 obtain ⟨r6,rfl,z8,a9,b9,rfl,d1,j1,v0⟩:=q4
 obtain ⟨m2,n2,rfl⟩:=d1.form
 obtain ⟨o2,p2,rfl⟩:=j1.form
 obtain ⟨q2,r2,rfl⟩:=v0.form
 refine AL Tryz.func64 rfl Tryz.ntmps64 rfl ?_
 unfold Cb at hm
 refine Al (Aj (BL 2 O rfl rfl fun s6 t6 e6 k1 t2=>?_))
 replace t2:Lc 2 t6 e6 s6 26 [(.slice w5 x0.vars.length x5),(.slice y5 x0.init.length z5),(.slice a6 x0.goal.length b6),(.slice c6 x0.ops.length d6)]:=t2
 refine BL 3 e6 rfl rfl fun u2 u6 f6 i1 a1=>?_
 replace a1:Lc 3 u6 f6 u2 53 [(.slice i2 x1.vars.length j2),(.slice c2 x1.vals.length d2),(.slice k2 x1.ops.length l2)]:=a1
 refine BL 4 f6 rfl rfl fun v2 w6 g6 h1 e1=>?_
 replace e1:Lc 4 w6 g6 v2 53 [(.slice m2 x2.vars.length n2),(.slice o2 x2.vals.length p2),(.slice q2 x2.ops.length r2)]:=e1
 refine Bg 5 g6 rfl fun a2 c9 x6 f1 m0=>?_
 refine Aw rfl rfl (o_z ?_)
 refine Al (Al (Aj ?_))
 replace t2:=((t2.st i1).st h1).st f1
 refine Bl (hl:=rfl) (hc:=(t2.1).cellsAt) rfl rfl ?_
 replace a1:=(a1.st h1).st f1
 refine Bl (hl:=rfl) (hc:=(a1.1).cellsAt) rfl rfl ?_
 replace e1:=e1.st f1
 refine Bl (hl:=rfl) (hc:=(e1.1).cellsAt) rfl rfl ?_
 replace z0:=(((z0.st k1).st i1).st h1).st f1
 replace g1:=(((g1.st k1).st i1).st h1).st f1
 replace u0:=(((u0.st k1).st i1).st h1).st f1
 replace d1:=(((d1.st k1).st i1).st h1).st f1
 replace j1:=(((j1.st k1).st i1).st h1).st f1
 replace v0:=(((v0.st k1).st i1).st h1).st f1
 refine CB 6 (by decide) x6 (xs:=([x1,x2]:List Swp)) rfl rfl rfl rfl ⟨(Vb.ofAgg (cs:=[(.slice i2 x1.vars.length j2),(.slice c2 x1.vals.length d2),(.slice k2 x1.ops.length l2)]) (x:=x1) rfl ⟨_,_,_,rfl,z0,g1,u0⟩),(Vb.ofAgg (cs:=[(.slice m2 x2.vars.length n2),(.slice o2 x2.vals.length p2),(.slice q2 x2.ops.length r2)]) (x:=x2) rfl ⟨_,_,_,rfl,d1,j1,v0⟩),trivial⟩ (by decide) (by decide) rfl fun d9 h6 i6 b0 y6=>?_
 obtain ⟨z6,a7,hm⟩:=bs hm
 replace h9:=((((h9.st k1).st i1).st h1).st f1).st b0
 replace j4:=((((j4.st k1).st i1).st h1).st f1).st b0
 replace k4:=((((k4.st k1).st i1).st h1).st f1).st b0
 replace l4:=((((l4.st k1).st i1).st h1).st f1).st b0
 refine Bi (O:=i6) (A:=All h6) (R:=fun w' F v=>Vb w' F v z6) (DV (fun _ h=>h) (Vb.mono (F:=Fr 0 h6 i6) (Vb.ofAgg (cs:=[(.slice w5 x0.vars.length x5),(.slice y5 x0.init.length z5),(.slice a6 x0.goal.length b6),(.slice c6 x0.ops.length d6)]) (x:=x0) rfl ⟨_,_,_,_,rfl,h9,j4,k4,l4⟩) Fr.lt) (y6).all a7) rfl rfl fun e9 f9 w2 c0 b7=>?_
 obtain ⟨rfl,c7⟩:=b7.err
 refine Aw rfl rfl (o_z ?_)
 refine Al (Aj (Ar rfl rfl (EI rfl rfl (fun s4=>?_) fun s4=>?_)))
 ·
  replace hm:=ip hm s4
  refine o_z ?_
  refine Ah rfl (Al (Aj (Dc rfl rfl rfl ?_)))
  refine Ar rfl rfl ?_
  replace m0:=(m0.st b0).st c0
  refine AT m0 rfl rfl rfl (Bj rfl) (allOne rfl) fun j6 d7 m0=>?_
  replace m0:Lc 5 j6 w2 a2 53 [(.slice none 0 0),(.slice none 0 0),(.slice none 0 0)]:=m0
  refine Aw rfl rfl (o_z ?_)
  refine AH ?_
  obtain rfl:=sm hm
  replace hB:=((((((hB.st k1).st i1).st h1).st f1).st b0).st c0).st d7
  exact ret2 rfl (Cj (cs:=[(.slice none 0 0),(.slice none 0 0),(.slice none 0 0)]) rfl rfl m0.1.cellsAt) (AD rfl) ⟨hB.ext,_,_,rfl,(Vb.mono (F:=Fr 0 j6 w2) (Vb.ofAgg (cs:=[(.slice none 0 0),(.slice none 0 0),(.slice none 0 0)]) (x:=(⟨([]:List Int),([]:List (List Int)),([]:List Int)⟩:Swp)) rfl ⟨_,_,_,rfl,(Vb.nil _ _),(Vb.nil _ _),(Vb.nil _ _)⟩) hB.out),(vErr c7)⟩
 replace hm:=im hm s4
 refine o_z ?_
 refine Ae rfl (AO (Al ?_))
 obtain ⟨y2,k6,hm⟩:=bs hm
 obtain ⟨s2,t4,hm⟩:=bs hm
 obtain ⟨h0,e2,hm⟩:=bs hm
 refine AJ (fun l' w'=>∃ (a0:Nat×(Option Addr×Nat)×(Option Addr×Nat)) (O':Lab),subs l' [(4,(.pointer (some ⟨u2,0,none⟩))),(5,(.pointer (some ⟨v2,0,none⟩))),(6,(.pointer (some ⟨a2,0,none⟩))),(9,(.pointer (some ⟨a0.1,0,none⟩)))]∧Bs w A w' O'∧Lc 3 w' O' u2 53 [(.slice i2 x1.vars.length j2),(.slice c2 x1.vals.length d2),(.slice k2 x1.ops.length l2)]∧Vb w' (Fr 0 w' O') (.slice i2 x1.vars.length j2) x1.vars∧Vb w' (Fr 0 w' O') (.slice c2 x1.vals.length d2) x1.vals∧Vb w' (Fr 0 w' O') (.slice k2 x1.ops.length l2) x1.ops∧Lc 4 w' O' v2 53 [(.slice m2 x2.vars.length n2),(.slice o2 x2.vals.length p2),(.slice q2 x2.ops.length r2)]∧Vb w' (Fr 0 w' O') (.slice m2 x2.vars.length n2) x2.vars∧Vb w' (Fr 0 w' O') (.slice o2 x2.vals.length p2) x2.vals∧Vb w' (Fr 0 w' O') (.slice q2 x2.ops.length r2) x2.ops∧Lc 5 w' O' a2 53 [(.slice none 0 0),(.slice none 0 0),(.slice none 0 0)]∧Lc 7 w' O' a0.1 53 [(.slice a0.2.1.1 h0.1.length a0.2.1.2),(.slice none 0 0),(.slice a0.2.2.1 h0.2.length a0.2.2.2)]∧Vb w' (Fr 0 w' O') (.slice a0.2.1.1 h0.1.length a0.2.1.2) h0.1∧Vb w' (Fr 0 w' O') (.slice a0.2.2.1 h0.2.length a0.2.2.2) h0.2) ?_ ?_
 ·
  refine Bz [] w2 ?_
  refine AR (fuel:=5) [] [(0,true),(1,true),(2,true),(3,true),(5,true),(6,true),(7,true),(8,true)] (by kernel_rfl) rfl ?_
  refine Be rfl rfl rfl ?_
  replace a1:=(a1.st b0).st c0
  refine AY (hc:=fun w' ⟨O',hq⟩=>Blk.cell (i:=0) ((a1.st hq (by decide)).1) rfl) rfl rfl rfl ?_
  refine Be rfl rfl rfl ?_
  replace e1:=(e1.st b0).st c0
  refine AY (hc:=fun w' ⟨O',hq⟩=>Blk.cell (i:=0) ((e1.st hq (by decide)).1) rfl) rfl rfl rfl ?_
  refine Be rfl rfl rfl (AY (hc:=fun w' ⟨O',hq⟩=>Blk.cell (i:=2) ((a1.st hq (by decide)).1) rfl) rfl rfl rfl ?_)
  refine Be rfl rfl rfl (AY (hc:=fun w' ⟨O',hq⟩=>Blk.cell (i:=2) ((e1.st hq (by decide)).1) rfl) rfl rfl rfl ?_)
  refine AB ?_
  refine ER (i:=4) (j:=11) (by kernel_rfl) rfl rfl ?_ ?_
  ·
   replace z0:=(z0.st b0).st c0
   replace d1:=(d1.st b0).st c0
   refine Bu (O:=w2) (R:=fun w' F v=>Vb w' F v y2) (Dd Fr.lt z0 d1 k6) rfl rfl fun g9 i9 l6 b1 u4=>?_
   obtain ⟨q1,r1,rfl⟩:=u4.form
   have hZ:=b1.lst [] (fun _ h=>h.elim)
   refine AW [] hZ (by kernel_rfl) ?_
   refine ER (i:=9) (j:=11) (by kernel_rfl) rfl rfl ?_ ?_
   ·
    replace u0:=((u0.st b0).st c0).st b1
    replace v0:=((v0.st b0).st c0).st b1
    refine Bu (O:=l6) (R:=fun w' F v=>Vb w' F v s2) (Dd Fr.lt u0 v0 t4) rfl rfl fun e7 f7 v4 n0 z2=>?_
    obtain ⟨a3,b3,rfl⟩:=z2.form
    have hZ:=n0.lst [] (fun _ h=>h.elim)
    refine AW [] hZ (by kernel_rfl) ?_
    refine AR (fuel:=2) [] [(10,true)] (by kernel_rfl) rfl ?_
    refine Dj rfl rfl rfl rfl ?_
    refine AB ?_
    refine AQ (i:=11) (by kernel_rfl) rfl ?_
    refine Bg 7 v4 rfl fun c3 g7 w4 i0 p1=>?_
    have hZ:=i0.lst [] (fun _ h=>h.elim)
    refine AW [] hZ (by kernel_rfl) ?_
    refine AQ (i:=12) (by kernel_rfl) rfl ?_
    refine AT p1 rfl rfl rfl (Bj rfl) (allOne rfl) fun x4 o0 p1=>?_
    replace p1:Lc 7 x4 w4 c3 53 [(.slice q1 y2.length r1),(.slice none 0 0),(.slice a3 s2.length b3)]:=p1
    refine Cf (by kernel_rfl) ?_
    refine Bp (by kernel_rfl) ?_
    obtain rfl:=sm e2
    exact ⟨(c3,(q1,r1),(a3,b3)),_,⟨rfl,rfl,rfl,rfl,trivial⟩,(((((((((hB.st k1).st i1).st h1).st f1).st b0).st c0).st b1).st n0).st i0).st o0,(((a1.st b1).st n0).st i0).st o0,(((z0.st b1).st n0).st i0).st o0,(((((g1.st b0).st c0).st b1).st n0).st i0).st o0,((u0.st n0).st i0).st o0,(((e1.st b1).st n0).st i0).st o0,(((d1.st b1).st n0).st i0).st o0,(((((j1.st b0).st c0).st b1).st n0).st i0).st o0,((v0.st n0).st i0).st o0,(((((m0.st b0).st c0).st b1).st n0).st i0).st o0,p1,((u4.st n0).st i0).st o0,(z2.st i0).st o0⟩
   refine Bg 7 l6 rfl fun d3 h7 y4 p0 l1=>?_
   have hZ:=p0.lst [] (fun _ h=>h.elim)
   refine AW [] hZ (by kernel_rfl) ?_
   refine AQ (i:=9) (by kernel_rfl) rfl ?_
   replace u0:=(((u0.st b0).st c0).st b1).st p0
   replace v0:=(((v0.st b0).st c0).st b1).st p0
   refine Bu (O:=y4) (R:=fun w' F v=>Vb w' F v s2) (Dd Fr.lt u0 v0 t4) rfl rfl fun i7 j7 z4 j0 e3=>?_
   obtain ⟨f3,g3,rfl⟩:=e3.form
   have hZ:=j0.lst [] (fun _ h=>h.elim)
   refine AW [] hZ (by kernel_rfl) ?_
   refine AR (fuel:=1) [] [(10,true)] (by kernel_rfl) rfl ?_
   refine Dj rfl rfl rfl rfl ?_
   refine AB ?_
   refine AQ (i:=12) (by kernel_rfl) rfl ?_
   replace l1:=l1.st j0
   refine AT l1 rfl rfl rfl (Bj rfl) (allOne rfl) fun a5 q0 l1=>?_
   replace l1:Lc 7 a5 z4 d3 53 [(.slice q1 y2.length r1),(.slice none 0 0),(.slice f3 s2.length g3)]:=l1
   refine Cf (by kernel_rfl) ?_
   refine Bp (by kernel_rfl) ?_
   obtain rfl:=sm e2
   exact ⟨(d3,(q1,r1),(f3,g3)),_,⟨rfl,rfl,rfl,rfl,trivial⟩,(((((((((hB.st k1).st i1).st h1).st f1).st b0).st c0).st b1).st p0).st j0).st q0,(((a1.st b1).st p0).st j0).st q0,(((z0.st b1).st p0).st j0).st q0,(((((g1.st b0).st c0).st b1).st p0).st j0).st q0,(u0.st j0).st q0,(((e1.st b1).st p0).st j0).st q0,(((d1.st b1).st p0).st j0).st q0,(((((j1.st b0).st c0).st b1).st p0).st j0).st q0,(v0.st j0).st q0,(((((m0.st b0).st c0).st b1).st p0).st j0).st q0,l1,((u4.st p0).st j0).st q0,e3.st q0⟩
  refine Bg 7 w2 rfl fun h3 k7 b5 w0 m1=>?_
  have hZ:=w0.lst [] (fun _ h=>h.elim)
  refine AW [] hZ (by kernel_rfl) ?_
  refine AQ (i:=4) (by kernel_rfl) rfl ?_
  replace z0:=((z0.st b0).st c0).st w0
  replace d1:=((d1.st b0).st c0).st w0
  refine Bu (O:=b5) (R:=fun w' F v=>Vb w' F v y2) (Dd Fr.lt z0 d1 k6) rfl rfl fun l7 m7 c5 r0 i3=>?_
  obtain ⟨j3,k3,rfl⟩:=i3.form
  have hZ:=r0.lst [] (fun _ h=>h.elim)
  refine AW [] hZ (by kernel_rfl) ?_
  refine AQ (i:=9) (by kernel_rfl) rfl ?_
  replace u0:=(((u0.st b0).st c0).st w0).st r0
  replace v0:=(((v0.st b0).st c0).st w0).st r0
  refine Bu (O:=c5) (R:=fun w' F v=>Vb w' F v s2) (Dd Fr.lt u0 v0 t4) rfl rfl fun n7 o7 d5 k0 l3=>?_
  obtain ⟨m3,n3,rfl⟩:=l3.form
  have hZ:=k0.lst [] (fun _ h=>h.elim)
  refine AW [] hZ (by kernel_rfl) ?_
  refine AR (fuel:=1) [] [(10,true)] (by kernel_rfl) rfl ?_
  refine Dj rfl rfl rfl rfl ?_
  refine AB ?_
  refine AQ (i:=12) (by kernel_rfl) rfl ?_
  replace m1:=(m1.st r0).st k0
  refine AT m1 rfl rfl rfl (Bj rfl) (allOne rfl) fun e5 s0 m1=>?_
  replace m1:Lc 7 e5 d5 h3 53 [(.slice j3 y2.length k3),(.slice none 0 0),(.slice m3 s2.length n3)]:=m1
  refine Cf (by kernel_rfl) ?_
  refine Bp (by kernel_rfl) ?_
  obtain rfl:=sm e2
  exact ⟨(h3,(j3,k3),(m3,n3)),_,⟨rfl,rfl,rfl,rfl,trivial⟩,(((((((((hB.st k1).st i1).st h1).st f1).st b0).st c0).st w0).st r0).st k0).st s0,(((a1.st w0).st r0).st k0).st s0,((z0.st r0).st k0).st s0,(((((g1.st b0).st c0).st w0).st r0).st k0).st s0,(u0.st k0).st s0,(((e1.st w0).st r0).st k0).st s0,((d1.st r0).st k0).st s0,(((((j1.st b0).st c0).st w0).st r0).st k0).st s0,(v0.st k0).st s0,(((((m0.st b0).st c0).st w0).st r0).st k0).st s0,m1,(i3.st k0).st s0,l3.st s0⟩
 replace hB:=(((((hB.st k1).st i1).st h1).st f1).st b0).st c0
 replace z0:=(z0.st b0).st c0
 replace g1:=(g1.st b0).st c0
 replace u0:=(u0.st b0).st c0
 replace d1:=(d1.st b0).st c0
 replace j1:=(j1.st b0).st c0
 replace v0:=(v0.st b0).st c0
 replace a1:=(a1.st b0).st c0
 replace e1:=(e1.st b0).st c0
 replace m0:=(m0.st b0).st c0
 rintro p7 q7 ⟨a0,f5,o3,hB,a1,z0,g1,u0,e1,d1,j1,v0,m0,n1,s1,t1⟩
 refine AN _ o3 ?_
 refine Al (Al (Aj (AK rfl rfl (AF (hc:=Blk.cell (i:=1) (a1.1) rfl) rfl rfl ?_))))
 refine AZ rfl rfl ?_
 have f2:x1.vals.length≤9223372036854775807:=Nat.le_trans g1.len.2.1 g1.len.2.2
 have r7:inI64 (x1.vals.length:Int):=rngNat f2
 refine Ar rfl rfl (o_z ?_)
 obtain ⟨g2,p3,hm⟩:=bs hm
 refine AJ (aft g2 (fun (c1:(List (List Int))) (t0:(Option Addr×Nat))=>[(6,(.pointer (some ⟨a2,0,none⟩))),(9,(.pointer (some ⟨a0.1,0,none⟩)))]) (fun c1 t0 w'=>∃ O':Lab,Bs w A w' O'∧Lc 5 w' O' a2 53 [(.slice none 0 0),(.slice none 0 0),(.slice none 0 0)]∧Lc 7 w' O' a0.1 53 [(.slice a0.2.1.1 h0.1.length a0.2.1.2),(.slice t0.1 c1.length t0.2),(.slice a0.2.2.1 h0.2.length a0.2.2.2)]∧Vb w' (Fr 0 w' O') (.slice a0.2.1.1 h0.1.length a0.2.1.2) h0.1∧Rw 9 w' O' 22 (.slice t0.1 c1.length t0.2) c1∧Vb w' (Fr 0 w' O') (.slice a0.2.2.1 h0.2.length a0.2.2.2) h0.2)) ?_ ?_
 ·
  refine AX (Bw (σ:=(List (List Int))) (X:=(Option Addr×Nat)) (x1.vals.length) p3 rfl f2 (fun (c1:(List (List Int))) (t0:(Option Addr×Nat))=>[(4,(.pointer (some ⟨u2,0,none⟩))),(5,(.pointer (some ⟨v2,0,none⟩))),(6,(.pointer (some ⟨a2,0,none⟩))),(9,(.pointer (some ⟨a0.1,0,none⟩))),(33,(.slice c2 x1.vals.length d2))]) _ (fun c1 t0 w'=>∃ O':Lab,Bs w A w' O'∧Lc 3 w' O' u2 53 [(.slice i2 x1.vars.length j2),(.slice c2 x1.vals.length d2),(.slice k2 x1.ops.length l2)]∧Vb w' (Fr 0 w' O') (.slice i2 x1.vars.length j2) x1.vars∧Vb w' (Fr 0 w' O') (.slice c2 x1.vals.length d2) x1.vals∧Vb w' (Fr 0 w' O') (.slice k2 x1.ops.length l2) x1.ops∧Lc 4 w' O' v2 53 [(.slice m2 x2.vars.length n2),(.slice o2 x2.vals.length p2),(.slice q2 x2.ops.length r2)]∧Vb w' (Fr 0 w' O') (.slice m2 x2.vars.length n2) x2.vars∧Vb w' (Fr 0 w' O') (.slice o2 x2.vals.length p2) x2.vals∧Vb w' (Fr 0 w' O') (.slice q2 x2.ops.length r2) x2.ops∧Lc 5 w' O' a2 53 [(.slice none 0 0),(.slice none 0 0),(.slice none 0 0)]∧Lc 7 w' O' a0.1 53 [(.slice a0.2.1.1 h0.1.length a0.2.1.2),(.slice t0.1 c1.length t0.2),(.slice a0.2.2.1 h0.2.length a0.2.2.2)]∧Vb w' (Fr 0 w' O') (.slice a0.2.1.1 h0.1.length a0.2.1.2) h0.1∧Rw 9 w' O' 22 (.slice t0.1 c1.length t0.2) c1∧Vb w' (Fr 0 w' O') (.slice a0.2.2.1 h0.2.length a0.2.2.2) h0.2) _ (none,0) ⟨f5,hB,a1,z0,g1,u0,e1,d1,j1,v0,m0,n1,s1,(Rw.nil 9 (by decide)),t1⟩ ⟨rfl,rfl,rfl,rfl,rfl,rfl,rfl,trivial⟩ (fun _ _=>⟨rfl,rfl⟩) (fun _ _=>⟨rfl,rfl,trivial⟩) (fun _ _ _ ⟨O',hB,a1,z0,g1,u0,e1,d1,j1,v0,m0,n1,s1,y0,t1⟩=>⟨O',hB,m0,n1,s1,y0,t1⟩) ⟨rfl,rfl,rfl⟩ ⟨rfl,rfl⟩ ?_)
  rintro g5 s7 c1 t0 t7 m6 b2 ⟨q3,hB,a1,z0,g1,u0,e1,d1,j1,v0,m0,n1,s1,y0,t1⟩ f0 m4 n4
  have rk161:inI64 (g5:Int):=rngK b2 f2
  refine Al (Aj (Ar rfl rfl ?_))
  obtain ⟨u7,w7,n6,r3,s3,t3,x7,rfl,u1⟩:=g1.elem' b2
  replace u1:=Vb.of_slice u1
  obtain ⟨y7,z7,rfl⟩:=u1.form
  refine BA (hA:=r3) (hj:=rfl) (hlt:=s3) rfl rfl rfl ?_
  refine AF (hc:=cat0 t3) rfl rfl ?_
  refine Aw rfl rfl (Aw rfl rfl (o_z ?_))
  refine Bz [(14,[9])] q3 ?_
  refine AR (fuel:=5) [] [(0,true),(1,true),(2,true),(3,true),(4,true),(5,true),(6,true),(7,true),(8,true),(9,true),(10,true),(11,true)] (by kernel_rfl) rfl ?_
  refine Be rfl rfl rfl (AY (hc:=fun w' ⟨O',hq⟩=>Blk.cell (i:=1) ((n1.st hq (by decide)).1) rfl) rfl rfl rfl ?_)
  refine AP rfl rfl rfl (Be rfl rfl rfl (AY (hc:=fun w' ⟨O',hq⟩=>Blk.cell (i:=1) ((e1.st hq (by decide)).1) rfl) rfl rfl rfl ?_))
  refine Be rfl rfl rfl (AY (hc:=fun w' ⟨O',hq⟩=>Blk.cell (i:=0) ((a1.st hq (by decide)).1) rfl) rfl rfl rfl ?_)
  refine AP rfl rfl rfl ?_
  obtain ⟨a8,h5,f0⟩:=bs f0
  obtain ⟨b8,c8,o6,u3,v3,w3,x3,rfl,d8⟩:=z0.elem h5
  refine BE (hA:=u3) (hj:=rfl) (hlt:=w3) rfl rfl rfl rfl ?_
  refine AY (hc:=fun w' ⟨O',hq⟩=>cat0 (AV (hq.agree (i:=0) (by decide)) v3 x3)) rfl rfl rfl ?_
  obtain ⟨e8,i5,f0⟩:=bs f0
  obtain ⟨j5,k5⟩:=Bb i5
  obtain ⟨f8,g8,p6,y3,z3,a4,b4,h8,rfl,v1⟩:=j1.elem k5
  replace v1:=Vb.of_slice v1
  obtain ⟨i8,j8,rfl⟩:=v1.form
  refine BE (hA:=y3) (hj:=(Int.toNat_of_nonneg j5).symm) (hlt:=a4) rfl rfl rfl rfl ?_
  refine AY (hc:=fun w' ⟨O',hq⟩=>cat0 (AV (hq.agree (i:=0) (by decide)) z3 b4)) rfl rfl rfl ?_
  refine AB ?_
  refine AQ (i:=12) (by kernel_rfl) rfl ?_
  obtain ⟨c4,l5,f0⟩:=bs f0
  refine Bu (O:=q3) (R:=fun w' F v=>Vb w' F v c4) (Dd Fr.lt u1 v1 l5) rfl rfl fun k8 l8 m5 d0 d4=>?_
  obtain ⟨m8,n8,rfl⟩:=d4.form
  have hZ:=d0.lst [] (fun _ h=>h.elim)
  refine AW [(14,[9])] hZ (by kernel_rfl) ?_
  refine AQ (i:=13) (by kernel_rfl) rfl ?_
  refine CB 8 (by decide) m5 (xs:=([c4]:List (List Int))) rfl rfl rfl rfl ⟨d4,trivial⟩ (by decide) (by decide) rfl fun o8 p8 q8 e0 n5=>?_
  have hZ:=e0.lst [] (fun _ h=>h.elim)
  refine AW [(14,[9])] hZ (by kernel_rfl) ?_
  refine AQ (i:=14) (by kernel_rfl) rfl ?_
  obtain ⟨o5,h2,f0⟩:=bs f0
  obtain ⟨h2,p5,q5⟩:=CG h2
  replace y0:=(y0.st d0).st e0
  refine EJ rfl y0 (n5.rd) rfl rfl (by decide) p5 q5 rfl fun e4 f4 r8 r5 g0 g4=>?_
  rw [← h2] at g4 ⊢
  have hZ:=g0.lst [9] (fun _ h=>by cases h;decide)
  refine AW [] hZ (by kernel_rfl) ?_
  refine AR (fuel:=1) [] [(15,true)] (by kernel_rfl) rfl ?_
  refine Be rfl rfl rfl (AB ?_)
  refine AQ (i:=16) (by kernel_rfl) rfl ?_
  replace n1:=((n1.st d0).st e0).st g0
  refine AT n1 rfl rfl rfl (Bj rfl) (allOne rfl) fun s5 l0 n1=>?_
  replace n1:Lc 7 s5 r5 a0.1 53 [(.slice a0.2.1.1 h0.1.length a0.2.1.2),(.slice e4 o5.length f4),(.slice a0.2.2.1 h0.2.length a0.2.2.2)]:=n1
  refine Cf (by kernel_rfl) ?_
  refine Bp (by kernel_rfl) ?_
  obtain rfl:=sm f0
  exact show Exists _ from ⟨_,(e4,f4),rfl,⟨rfl,rfl,rfl,rfl,rfl,rfl,rfl,trivial⟩,_,(((hB.st d0).st e0).st g0).st l0,(((a1.st d0).st e0).st g0).st l0,(((z0.st d0).st e0).st g0).st l0,(((g1.st d0).st e0).st g0).st l0,(((u0.st d0).st e0).st g0).st l0,(((e1.st d0).st e0).st g0).st l0,(((d1.st d0).st e0).st g0).st l0,(((j1.st d0).st e0).st g0).st l0,(((v0.st d0).st e0).st g0).st l0,(((m0.st d0).st e0).st g0).st l0,n1,(((s1.st d0).st e0).st g0).st l0,g4.st l0,(((t1.st d0).st e0).st g0).st l0⟩
 rintro s8 t8 ⟨w1,o1,rfl,h4,t5,hB,m0,n1,s1,y0,t1⟩
 replace hm:=Bh hm
 refine AN _ h4 ?_
 refine Al (Aj (Bl (hl:=rfl) (hc:=(n1.1).cellsAt) rfl rfl ?_))
 refine AT m0 rfl rfl rfl (Bj rfl) (allOne rfl) fun i4 y1 m0=>?_
 replace m0:Lc 5 i4 t5 a2 53 [(.slice a0.2.1.1 h0.1.length a0.2.1.2),(.slice o1.1 w1.length o1.2),(.slice a0.2.2.1 h0.2.length a0.2.2.2)]:=m0
 refine Aw rfl rfl (o_z ?_)
 refine AH ?_
 replace y0:=y0.st y1
 obtain ⟨u5,z1,y0⟩:=y0.freeze
 obtain rfl:=sm hm
 replace hB:=(hB.st y1).st z1
 replace m0:=m0.st z1
 replace s1:=(s1.st y1).st z1
 replace t1:=(t1.st y1).st z1
 exact ret2 rfl (Cj (cs:=[(.slice a0.2.1.1 h0.1.length a0.2.1.2),(.slice o1.1 w1.length o1.2),(.slice a0.2.2.1 h0.2.length a0.2.2.2)]) rfl rfl m0.1.cellsAt) (AD rfl) ⟨hB.ext,_,_,rfl,(Vb.mono (F:=Fr 0 i4 u5) (Vb.ofAgg (cs:=[(.slice a0.2.1.1 h0.1.length a0.2.1.2),(.slice o1.1 w1.length o1.2),(.slice a0.2.2.1 h0.2.length a0.2.2.2)]) (x:=(⟨h0.1,w1,h0.2⟩:Swp)) rfl ⟨_,_,_,rfl,s1,y0,t1⟩) hB.out),(vErr (show inI64 0 from by decide))⟩
noncomputable def CC (x0:Tsk) (x1:Swp):Option (Swp×Err) :=
  bnd (Bx x0 [x1]) fun q54=>if q54.n≠0 then (some ((⟨([]:List Int),([]:List (List Int)),([]:List Int)⟩:Swp),(⟨q54.n⟩:Err))) else (bnd (Cp x1.vars) fun q65=>bnd (Cp x1.ops) fun q67=>bnd (mkI 24 (([]:List Int):List Int) (x1.vals.length:Int)) fun u69=>bnd (some (q65,u69,q67):Option ((List Int)×(List (List Int))×(List Int))) fun y71=>bnd (rng (ρ:=Swp×Err) (fun (k372:Nat) (a373:List Int) (s370:(List (List Int)))=>bnd (x1.vars[k372]?) fun a398=>bnd (Cp a373) fun q408=>bnd (atI s370 a398) fun a417=>some (.next (s370.set (a398:Int).toNat q408))) x1.vals 0 y71.2.1) fun res368=>fin res368 fun (s438:(List (List Int)))=>some ((⟨y71.1,s438,y71.2.2⟩:Swp),(⟨0⟩:Err)))
theorem FM {w:World} {A:Nat→Prop} (hA:∀ k,A k→k < w.heap.size) {vx0:Value} {x0:Tsk} (k8:Vb w A vx0 x0) {vx1:Value} {x1:Swp} (l8:Vb w A vx1 x1) {r:Swp×Err} (hm:CC x0 x1=some r) :
    Fn Tryz.prog 63 [vx0,vx1] w fun v w'=>Ext w w'∧T2 w' (upA A w w') v r:=by
 obtain ⟨O,hB,tB⟩:=enter hA
 replace k8:=k8.mono tB
 obtain ⟨bG,rfl,v4,v5,v6,v7,rfl,h8,c8,d8,e8⟩:=k8
 obtain ⟨A9,uB,rfl⟩:=h8.form
 obtain ⟨vB,wB,rfl⟩:=c8.form
 obtain ⟨xB,yB,rfl⟩:=d8.form
 obtain ⟨zB,aC,rfl⟩:=e8.form
 replace l8:=l8.mono tB
 obtain ⟨oC,rfl,cG,dG,eG,rfl,f0,q0,b0⟩:=l8
 obtain ⟨j4,k4,rfl⟩:=f0.form
 obtain ⟨a4,b4,rfl⟩:=q0.form
 obtain ⟨l4,m4,rfl⟩:=b0.form
 refine AL Tryz.func63 rfl Tryz.ntmps63 rfl ?_
 unfold CC at hm
 refine Al (Aj (BL 2 O rfl rfl fun pC qC bC b1 o4=>?_))
 replace o4:Lc 2 qC bC pC 26 [(.slice A9 x0.vars.length uB),(.slice vB x0.init.length wB),(.slice xB x0.goal.length yB),(.slice zB x0.ops.length aC)]:=o4
 refine BL 3 bC rfl rfl fun p4 rC cC a1 l0=>?_
 replace l0:Lc 3 rC cC p4 53 [(.slice j4 x1.vars.length k4),(.slice a4 x1.vals.length b4),(.slice l4 x1.ops.length m4)]:=l0
 refine Bg 4 cC rfl fun w3 fG sC u0 k0=>?_
 refine Aw rfl rfl (o_z ?_)
 refine Al (Al (Aj ?_))
 replace o4:=(o4.st a1).st u0
 refine Bl (hl:=rfl) (hc:=(o4.1).cellsAt) rfl rfl ?_
 replace l0:=l0.st u0
 refine Bl (hl:=rfl) (hc:=(l0.1).cellsAt) rfl rfl ?_
 replace f0:=((f0.st b1).st a1).st u0
 replace q0:=((q0.st b1).st a1).st u0
 replace b0:=((b0.st b1).st a1).st u0
 refine CB 5 (by decide) sC (xs:=([x1]:List Swp)) rfl rfl rfl rfl ⟨(Vb.ofAgg (cs:=[(.slice j4 x1.vars.length k4),(.slice a4 x1.vals.length b4),(.slice l4 x1.ops.length m4)]) (x:=x1) rfl ⟨_,_,_,rfl,f0,q0,b0⟩),trivial⟩ (by decide) (by decide) rfl fun gG dC eC c0 tC=>?_
 obtain ⟨uC,vC,hm⟩:=bs hm
 replace h8:=(((h8.st b1).st a1).st u0).st c0
 replace c8:=(((c8.st b1).st a1).st u0).st c0
 replace d8:=(((d8.st b1).st a1).st u0).st c0
 replace e8:=(((e8.st b1).st a1).st u0).st c0
 refine Bi (O:=eC) (A:=All dC) (R:=fun w' F v=>Vb w' F v uC) (DV (fun _ h=>h) (Vb.mono (F:=Fr 0 dC eC) (Vb.ofAgg (cs:=[(.slice A9 x0.vars.length uB),(.slice vB x0.init.length wB),(.slice xB x0.goal.length yB),(.slice zB x0.ops.length aC)]) (x:=x0) rfl ⟨_,_,_,_,rfl,h8,c8,d8,e8⟩) Fr.lt) (tC).all vC) rfl rfl fun hG iG n4 d0 wC=>?_
 obtain ⟨rfl,xC⟩:=wC.err
 refine Aw rfl rfl (o_z ?_)
 refine Al (Aj (Ar rfl rfl (EI rfl rfl (fun m8=>?_) fun m8=>?_)))
 ·
  replace hm:=ip hm m8
  refine o_z ?_
  refine Ah rfl (Al (Aj (Dc rfl rfl rfl ?_)))
  refine Ar rfl rfl ?_
  replace k0:=(k0.st c0).st d0
  refine AT k0 rfl rfl rfl (Bj rfl) (allOne rfl) fun fC yC k0=>?_
  replace k0:Lc 4 fC n4 w3 53 [(.slice none 0 0),(.slice none 0 0),(.slice none 0 0)]:=k0
  refine Aw rfl rfl (o_z ?_)
  refine AH ?_
  obtain rfl:=sm hm
  replace hB:=(((((hB.st b1).st a1).st u0).st c0).st d0).st yC
  exact ret2 rfl (Cj (cs:=[(.slice none 0 0),(.slice none 0 0),(.slice none 0 0)]) rfl rfl k0.1.cellsAt) (AD rfl) ⟨hB.ext,_,_,rfl,(Vb.mono (F:=Fr 0 fC n4) (Vb.ofAgg (cs:=[(.slice none 0 0),(.slice none 0 0),(.slice none 0 0)]) (x:=(⟨([]:List Int),([]:List (List Int)),([]:List Int)⟩:Swp)) rfl ⟨_,_,_,rfl,(Vb.nil _ _),(Vb.nil _ _),(Vb.nil _ _)⟩) hB.out),(vErr xC)⟩
 replace hm:=im hm m8
 refine o_z ?_
 refine Ae rfl (AO (Al ?_))
 obtain ⟨o2,q4,hm⟩:=bs hm
 obtain ⟨v0,d3,hm⟩:=bs hm
 obtain ⟨a3,h3,hm⟩:=bs hm
 obtain ⟨i0,t0,hm⟩:=bs hm
 refine AJ (fun l' w'=>∃ (a0:Nat×(Option Addr×Nat)×(Option Addr×Nat)×(Option Addr×Nat)) (O':Lab),subs l' [(3,(.pointer (some ⟨p4,0,none⟩))),(4,(.pointer (some ⟨w3,0,none⟩))),(7,(.pointer (some ⟨a0.1,0,none⟩)))]∧Bs w A w' O'∧Lc 3 w' O' p4 53 [(.slice j4 x1.vars.length k4),(.slice a4 x1.vals.length b4),(.slice l4 x1.ops.length m4)]∧Vb w' (Fr 0 w' O') (.slice j4 x1.vars.length k4) x1.vars∧Vb w' (Fr 0 w' O') (.slice a4 x1.vals.length b4) x1.vals∧Vb w' (Fr 0 w' O') (.slice l4 x1.ops.length m4) x1.ops∧Lc 4 w' O' w3 53 [(.slice none 0 0),(.slice none 0 0),(.slice none 0 0)]∧Lc 7 w' O' a0.1 53 [(.slice a0.2.1.1 i0.1.length a0.2.1.2),(.slice a0.2.2.1.1 i0.2.1.length a0.2.2.1.2),(.slice a0.2.2.2.1 i0.2.2.length a0.2.2.2.2)]∧Vb w' (Fr 0 w' O') (.slice a0.2.1.1 i0.1.length a0.2.1.2) i0.1∧Rw 6 w' O' 22 (.slice a0.2.2.1.1 i0.2.1.length a0.2.2.1.2) i0.2.1∧Vb w' (Fr 0 w' O') (.slice a0.2.2.2.1 i0.2.2.length a0.2.2.2.2) i0.2.2) ?_ ?_
 ·
  refine Bz [] n4 ?_
  refine AR (fuel:=6) [] [(0,true),(1,true),(3,true),(4,true),(6,true),(7,true),(8,true)] (by kernel_rfl) rfl ?_
  refine Be rfl rfl rfl ?_
  replace l0:=(l0.st c0).st d0
  refine AY (hc:=fun w' ⟨O',hq⟩=>Blk.cell (i:=0) ((l0.st hq (by decide)).1) rfl) rfl rfl rfl ?_
  refine Be rfl rfl rfl (AY (hc:=fun w' ⟨O',hq⟩=>Blk.cell (i:=2) ((l0.st hq (by decide)).1) rfl) rfl rfl rfl ?_)
  refine Be rfl rfl rfl (AY (hc:=fun w' ⟨O',hq⟩=>Blk.cell (i:=1) ((l0.st hq (by decide)).1) rfl) rfl rfl rfl ?_)
  refine IQ rfl rfl rfl ?_
  replace q0:=(q0.st c0).st d0
  have zC:x1.vals.length≤9223372036854775807:=Nat.le_trans q0.len.2.1 q0.len.2.2
  have jG:inI64 (x1.vals.length:Int):=rngNat zC
  refine AB ?_
  refine Mj (i:=2) (j:=9) (k:=11) (by kernel_rfl) rfl rfl rfl ?_ ?_ ?_
  ·
   replace f0:=(f0.st c0).st d0
   refine Bu (O:=n4) (R:=fun w' F v=>Vb w' F v o2) (BC Fr.lt f0 q4) rfl rfl fun kG lG n8 j0 c4=>?_
   obtain ⟨b3,c3,rfl⟩:=c4.form
   have hZ:=j0.lst [] (fun _ h=>h.elim)
   refine AW [] hZ (by kernel_rfl) ?_
   refine Mj (i:=5) (j:=9) (k:=11) (by kernel_rfl) rfl rfl rfl ?_ ?_ ?_
   ·
    replace b0:=((b0.st c0).st d0).st j0
    refine Bu (O:=n8) (R:=fun w' F v=>Vb w' F v v0) (BC Fr.lt b0 d3) rfl rfl fun mG nG gC r2 o8=>?_
    obtain ⟨f8,g8,rfl⟩:=o8.form
    have hZ:=r2.lst [] (fun _ h=>h.elim)
    refine AW [] hZ (by kernel_rfl) ?_
    refine ER (i:=9) (j:=11) (by kernel_rfl) rfl rfl ?_ ?_
    ·
     obtain ⟨hC,aD,bD,cD,p8⟩:=CL h3
     refine Dx 6 (by decide) gC (z0:=(([]:List Int):List Int)) rfl rfl rfl rfl rfl aD (Vb.nil _ _) bD cD rfl fun r4 dD q8 o1 s4=>?_
     rw [← p8] at s4 ⊢
     have hZ:=o1.lst [] (fun _ h=>h.elim)
     refine AW [] hZ (by kernel_rfl) ?_
     refine AR (fuel:=2) [] [(10,true)] (by kernel_rfl) rfl ?_
     refine Dj rfl rfl rfl rfl ?_
     refine AB ?_
     refine AQ (i:=11) (by kernel_rfl) rfl ?_
     refine Bg 7 q8 rfl fun t4 eD r8 c1 e3=>?_
     have hZ:=c1.lst [] (fun _ h=>h.elim)
     refine AW [] hZ (by kernel_rfl) ?_
     refine AQ (i:=12) (by kernel_rfl) rfl ?_
     refine AT e3 rfl rfl rfl (Bj rfl) (allOne rfl) fun s8 p1 e3=>?_
     replace e3:Lc 7 s8 r8 t4 53 [(.slice b3 o2.length c3),(.slice (some ⟨r4,0,none⟩) a3.length hC),(.slice f8 v0.length g8)]:=e3
     refine Cf (by kernel_rfl) ?_
     refine Bp (by kernel_rfl) ?_
     obtain rfl:=sm t0
     exact ⟨(t4,(b3,c3),((some ⟨r4,0,none⟩),hC),(f8,g8)),_,⟨rfl,rfl,rfl,trivial⟩,(((((((((hB.st b1).st a1).st u0).st c0).st d0).st j0).st r2).st o1).st c1).st p1,((((l0.st j0).st r2).st o1).st c1).st p1,((((f0.st j0).st r2).st o1).st c1).st p1,((((q0.st j0).st r2).st o1).st c1).st p1,(((b0.st r2).st o1).st c1).st p1,((((((k0.st c0).st d0).st j0).st r2).st o1).st c1).st p1,e3,(((c4.st r2).st o1).st c1).st p1,(s4.st c1).st p1,((o8.st o1).st c1).st p1⟩
    refine Bg 7 gC rfl fun u4 fD t8 q1 s2=>?_
    have hZ:=q1.lst [] (fun _ h=>h.elim)
    refine AW [] hZ (by kernel_rfl) ?_
    refine AQ (i:=9) (by kernel_rfl) rfl ?_
    obtain ⟨w4,u8,v8,w8,x8⟩:=CL h3
    refine Dx 6 (by decide) t8 (z0:=(([]:List Int):List Int)) rfl rfl rfl rfl rfl u8 (Vb.nil _ _) v8 w8 rfl fun x4 gD y8 d1 y4=>?_
    rw [← x8] at y4 ⊢
    have hZ:=d1.lst [] (fun _ h=>h.elim)
    refine AW [] hZ (by kernel_rfl) ?_
    refine AR (fuel:=1) [] [(10,true)] (by kernel_rfl) rfl ?_
    refine Dj rfl rfl rfl rfl ?_
    refine AB ?_
    refine AQ (i:=12) (by kernel_rfl) rfl ?_
    replace s2:=s2.st d1
    refine AT s2 rfl rfl rfl (Bj rfl) (allOne rfl) fun z8 r1 s2=>?_
    replace s2:Lc 7 z8 y8 u4 53 [(.slice b3 o2.length c3),(.slice (some ⟨x4,0,none⟩) a3.length w4),(.slice f8 v0.length g8)]:=s2
    refine Cf (by kernel_rfl) ?_
    refine Bp (by kernel_rfl) ?_
    obtain rfl:=sm t0
    exact ⟨(u4,(b3,c3),((some ⟨x4,0,none⟩),w4),(f8,g8)),_,⟨rfl,rfl,rfl,trivial⟩,(((((((((hB.st b1).st a1).st u0).st c0).st d0).st j0).st r2).st q1).st d1).st r1,((((l0.st j0).st r2).st q1).st d1).st r1,((((f0.st j0).st r2).st q1).st d1).st r1,((((q0.st j0).st r2).st q1).st d1).st r1,(((b0.st r2).st q1).st d1).st r1,((((((k0.st c0).st d0).st j0).st r2).st q1).st d1).st r1,s2,(((c4.st r2).st q1).st d1).st r1,y4.st r1,((o8.st q1).st d1).st r1⟩
   ·
    obtain ⟨i3,a9,b9,c9,d9⟩:=CL h3
    refine Dx 6 (by decide) n8 (z0:=(([]:List Int):List Int)) rfl rfl rfl rfl rfl a9 (Vb.nil _ _) b9 c9 rfl fun j3 hD z4 m0 d4=>?_
    rw [← d9] at d4 ⊢
    have hZ:=m0.lst [] (fun _ h=>h.elim)
    refine AW [] hZ (by kernel_rfl) ?_
    refine ER (i:=5) (j:=11) (by kernel_rfl) rfl rfl ?_ ?_
    ·
     replace b0:=(((b0.st c0).st d0).st j0).st m0
     refine Bu (O:=z4) (R:=fun w' F v=>Vb w' F v v0) (BC Fr.lt b0 d3) rfl rfl fun iD jD e9 s1 a5=>?_
     obtain ⟨b5,c5,rfl⟩:=a5.form
     have hZ:=s1.lst [] (fun _ h=>h.elim)
     refine AW [] hZ (by kernel_rfl) ?_
     refine AR (fuel:=2) [] [(10,true)] (by kernel_rfl) rfl ?_
     refine Dj rfl rfl rfl rfl ?_
     refine AB ?_
     refine AQ (i:=11) (by kernel_rfl) rfl ?_
     refine Bg 7 e9 rfl fun d5 kD f9 e1 f3=>?_
     have hZ:=e1.lst [] (fun _ h=>h.elim)
     refine AW [] hZ (by kernel_rfl) ?_
     refine AQ (i:=12) (by kernel_rfl) rfl ?_
     refine AT f3 rfl rfl rfl (Bj rfl) (allOne rfl) fun g9 t1 f3=>?_
     replace f3:Lc 7 g9 f9 d5 53 [(.slice b3 o2.length c3),(.slice (some ⟨j3,0,none⟩) a3.length i3),(.slice b5 v0.length c5)]:=f3
     refine Cf (by kernel_rfl) ?_
     refine Bp (by kernel_rfl) ?_
     obtain rfl:=sm t0
     exact ⟨(d5,(b3,c3),((some ⟨j3,0,none⟩),i3),(b5,c5)),_,⟨rfl,rfl,rfl,trivial⟩,(((((((((hB.st b1).st a1).st u0).st c0).st d0).st j0).st m0).st s1).st e1).st t1,((((l0.st j0).st m0).st s1).st e1).st t1,((((f0.st j0).st m0).st s1).st e1).st t1,((((q0.st j0).st m0).st s1).st e1).st t1,((b0.st s1).st e1).st t1,((((((k0.st c0).st d0).st j0).st m0).st s1).st e1).st t1,f3,(((c4.st m0).st s1).st e1).st t1,((d4.st s1).st e1).st t1,(a5.st e1).st t1⟩
    refine Bg 7 z4 rfl fun e5 lD h9 u1 t2=>?_
    have hZ:=u1.lst [] (fun _ h=>h.elim)
    refine AW [] hZ (by kernel_rfl) ?_
    refine AQ (i:=5) (by kernel_rfl) rfl ?_
    replace b0:=((((b0.st c0).st d0).st j0).st m0).st u1
    refine Bu (O:=h9) (R:=fun w' F v=>Vb w' F v v0) (BC Fr.lt b0 d3) rfl rfl fun mD nD i9 f1 f5=>?_
    obtain ⟨g5,h5,rfl⟩:=f5.form
    have hZ:=f1.lst [] (fun _ h=>h.elim)
    refine AW [] hZ (by kernel_rfl) ?_
    refine AR (fuel:=1) [] [(10,true)] (by kernel_rfl) rfl ?_
    refine Dj rfl rfl rfl rfl ?_
    refine AB ?_
    refine AQ (i:=12) (by kernel_rfl) rfl ?_
    replace t2:=t2.st f1
    refine AT t2 rfl rfl rfl (Bj rfl) (allOne rfl) fun j9 v1 t2=>?_
    replace t2:Lc 7 j9 i9 e5 53 [(.slice b3 o2.length c3),(.slice (some ⟨j3,0,none⟩) a3.length i3),(.slice g5 v0.length h5)]:=t2
    refine Cf (by kernel_rfl) ?_
    refine Bp (by kernel_rfl) ?_
    obtain rfl:=sm t0
    exact ⟨(e5,(b3,c3),((some ⟨j3,0,none⟩),i3),(g5,h5)),_,⟨rfl,rfl,rfl,trivial⟩,(((((((((hB.st b1).st a1).st u0).st c0).st d0).st j0).st m0).st u1).st f1).st v1,((((l0.st j0).st m0).st u1).st f1).st v1,((((f0.st j0).st m0).st u1).st f1).st v1,((((q0.st j0).st m0).st u1).st f1).st v1,(b0.st f1).st v1,((((((k0.st c0).st d0).st j0).st m0).st u1).st f1).st v1,t2,(((c4.st m0).st u1).st f1).st v1,((d4.st u1).st f1).st v1,f5.st v1⟩
   refine Bg 7 n8 rfl fun k3 oD i5 n0 r0=>?_
   have hZ:=n0.lst [] (fun _ h=>h.elim)
   refine AW [] hZ (by kernel_rfl) ?_
   refine ER (i:=5) (j:=9) (by kernel_rfl) rfl rfl ?_ ?_
   ·
    replace b0:=(((b0.st c0).st d0).st j0).st n0
    refine Bu (O:=i5) (R:=fun w' F v=>Vb w' F v v0) (BC Fr.lt b0 d3) rfl rfl fun pD qD k9 w1 j5=>?_
    obtain ⟨k5,l5,rfl⟩:=j5.form
    have hZ:=w1.lst [] (fun _ h=>h.elim)
    refine AW [] hZ (by kernel_rfl) ?_
    refine AQ (i:=9) (by kernel_rfl) rfl ?_
    obtain ⟨m5,l9,m9,n9,o9⟩:=CL h3
    refine Dx 6 (by decide) k9 (z0:=(([]:List Int):List Int)) rfl rfl rfl rfl rfl l9 (Vb.nil _ _) m9 n9 rfl fun n5 rD p9 g1 o5=>?_
    rw [← o9] at o5 ⊢
    have hZ:=g1.lst [] (fun _ h=>h.elim)
    refine AW [] hZ (by kernel_rfl) ?_
    refine AR (fuel:=1) [] [(10,true)] (by kernel_rfl) rfl ?_
    refine Dj rfl rfl rfl rfl ?_
    refine AB ?_
    refine AQ (i:=12) (by kernel_rfl) rfl ?_
    replace r0:=(r0.st w1).st g1
    refine AT r0 rfl rfl rfl (Bj rfl) (allOne rfl) fun q9 y1 r0=>?_
    replace r0:Lc 7 q9 p9 k3 53 [(.slice b3 o2.length c3),(.slice (some ⟨n5,0,none⟩) a3.length m5),(.slice k5 v0.length l5)]:=r0
    refine Cf (by kernel_rfl) ?_
    refine Bp (by kernel_rfl) ?_
    obtain rfl:=sm t0
    exact ⟨(k3,(b3,c3),((some ⟨n5,0,none⟩),m5),(k5,l5)),_,⟨rfl,rfl,rfl,trivial⟩,(((((((((hB.st b1).st a1).st u0).st c0).st d0).st j0).st n0).st w1).st g1).st y1,((((l0.st j0).st n0).st w1).st g1).st y1,((((f0.st j0).st n0).st w1).st g1).st y1,((((q0.st j0).st n0).st w1).st g1).st y1,((b0.st w1).st g1).st y1,((((((k0.st c0).st d0).st j0).st n0).st w1).st g1).st y1,r0,(((c4.st n0).st w1).st g1).st y1,o5.st y1,(j5.st g1).st y1⟩
   obtain ⟨p5,r9,s9,t9,u9⟩:=CL h3
   refine Dx 6 (by decide) i5 (z0:=(([]:List Int):List Int)) rfl rfl rfl rfl rfl r9 (Vb.nil _ _) s9 t9 rfl fun q5 sD v9 z1 r5=>?_
   rw [← u9] at r5 ⊢
   have hZ:=z1.lst [] (fun _ h=>h.elim)
   refine AW [] hZ (by kernel_rfl) ?_
   refine AQ (i:=5) (by kernel_rfl) rfl ?_
   replace b0:=((((b0.st c0).st d0).st j0).st n0).st z1
   refine Bu (O:=v9) (R:=fun w' F v=>Vb w' F v v0) (BC Fr.lt b0 d3) rfl rfl fun tD uD w9 h1 s5=>?_
   obtain ⟨t5,u5,rfl⟩:=s5.form
   have hZ:=h1.lst [] (fun _ h=>h.elim)
   refine AW [] hZ (by kernel_rfl) ?_
   refine AR (fuel:=1) [] [(10,true)] (by kernel_rfl) rfl ?_
   refine Dj rfl rfl rfl rfl ?_
   refine AB ?_
   refine AQ (i:=12) (by kernel_rfl) rfl ?_
   replace r0:=(r0.st z1).st h1
   refine AT r0 rfl rfl rfl (Bj rfl) (allOne rfl) fun x9 a2 r0=>?_
   replace r0:Lc 7 x9 w9 k3 53 [(.slice b3 o2.length c3),(.slice (some ⟨q5,0,none⟩) a3.length p5),(.slice t5 v0.length u5)]:=r0
   refine Cf (by kernel_rfl) ?_
   refine Bp (by kernel_rfl) ?_
   obtain rfl:=sm t0
   exact ⟨(k3,(b3,c3),((some ⟨q5,0,none⟩),p5),(t5,u5)),_,⟨rfl,rfl,rfl,trivial⟩,(((((((((hB.st b1).st a1).st u0).st c0).st d0).st j0).st n0).st z1).st h1).st a2,((((l0.st j0).st n0).st z1).st h1).st a2,((((f0.st j0).st n0).st z1).st h1).st a2,((((q0.st j0).st n0).st z1).st h1).st a2,(b0.st h1).st a2,((((((k0.st c0).st d0).st j0).st n0).st z1).st h1).st a2,r0,(((c4.st n0).st z1).st h1).st a2,(r5.st h1).st a2,s5.st a2⟩
  ·
   obtain ⟨w2,y9,z9,aA,bA⟩:=CL h3
   refine Dx 6 (by decide) n4 (z0:=(([]:List Int):List Int)) rfl rfl rfl rfl rfl y9 (Vb.nil _ _) z9 aA rfl fun x2 vD w5 g0 l3=>?_
   rw [← bA] at l3 ⊢
   have hZ:=g0.lst [] (fun _ h=>h.elim)
   refine AW [] hZ (by kernel_rfl) ?_
   refine ER (i:=2) (j:=11) (by kernel_rfl) rfl rfl ?_ ?_
   ·
    replace f0:=((f0.st c0).st d0).st g0
    refine Bu (O:=w5) (R:=fun w' F v=>Vb w' F v o2) (BC Fr.lt f0 q4) rfl rfl fun wD xD x5 o0 e4=>?_
    obtain ⟨m3,n3,rfl⟩:=e4.form
    have hZ:=o0.lst [] (fun _ h=>h.elim)
    refine AW [] hZ (by kernel_rfl) ?_
    refine ER (i:=5) (j:=11) (by kernel_rfl) rfl rfl ?_ ?_
    ·
     replace b0:=(((b0.st c0).st d0).st g0).st o0
     refine Bu (O:=x5) (R:=fun w' F v=>Vb w' F v v0) (BC Fr.lt b0 d3) rfl rfl fun yD zD cA b2 y5=>?_
     obtain ⟨z5,a6,rfl⟩:=y5.form
     have hZ:=b2.lst [] (fun _ h=>h.elim)
     refine AW [] hZ (by kernel_rfl) ?_
     refine AR (fuel:=2) [] [(10,true)] (by kernel_rfl) rfl ?_
     refine Dj rfl rfl rfl rfl ?_
     refine AB ?_
     refine AQ (i:=11) (by kernel_rfl) rfl ?_
     refine Bg 7 cA rfl fun b6 aE dA i1 g3=>?_
     have hZ:=i1.lst [] (fun _ h=>h.elim)
     refine AW [] hZ (by kernel_rfl) ?_
     refine AQ (i:=12) (by kernel_rfl) rfl ?_
     refine AT g3 rfl rfl rfl (Bj rfl) (allOne rfl) fun eA c2 g3=>?_
     replace g3:Lc 7 eA dA b6 53 [(.slice m3 o2.length n3),(.slice (some ⟨x2,0,none⟩) a3.length w2),(.slice z5 v0.length a6)]:=g3
     refine Cf (by kernel_rfl) ?_
     refine Bp (by kernel_rfl) ?_
     obtain rfl:=sm t0
     exact ⟨(b6,(m3,n3),((some ⟨x2,0,none⟩),w2),(z5,a6)),_,⟨rfl,rfl,rfl,trivial⟩,(((((((((hB.st b1).st a1).st u0).st c0).st d0).st g0).st o0).st b2).st i1).st c2,((((l0.st g0).st o0).st b2).st i1).st c2,(((f0.st o0).st b2).st i1).st c2,((((q0.st g0).st o0).st b2).st i1).st c2,((b0.st b2).st i1).st c2,((((((k0.st c0).st d0).st g0).st o0).st b2).st i1).st c2,g3,((e4.st b2).st i1).st c2,(((l3.st o0).st b2).st i1).st c2,(y5.st i1).st c2⟩
    refine Bg 7 x5 rfl fun c6 bE fA d2 u2=>?_
    have hZ:=d2.lst [] (fun _ h=>h.elim)
    refine AW [] hZ (by kernel_rfl) ?_
    refine AQ (i:=5) (by kernel_rfl) rfl ?_
    replace b0:=((((b0.st c0).st d0).st g0).st o0).st d2
    refine Bu (O:=fA) (R:=fun w' F v=>Vb w' F v v0) (BC Fr.lt b0 d3) rfl rfl fun cE dE gA j1 d6=>?_
    obtain ⟨e6,f6,rfl⟩:=d6.form
    have hZ:=j1.lst [] (fun _ h=>h.elim)
    refine AW [] hZ (by kernel_rfl) ?_
    refine AR (fuel:=1) [] [(10,true)] (by kernel_rfl) rfl ?_
    refine Dj rfl rfl rfl rfl ?_
    refine AB ?_
    refine AQ (i:=12) (by kernel_rfl) rfl ?_
    replace u2:=u2.st j1
    refine AT u2 rfl rfl rfl (Bj rfl) (allOne rfl) fun iA e2 u2=>?_
    replace u2:Lc 7 iA gA c6 53 [(.slice m3 o2.length n3),(.slice (some ⟨x2,0,none⟩) a3.length w2),(.slice e6 v0.length f6)]:=u2
    refine Cf (by kernel_rfl) ?_
    refine Bp (by kernel_rfl) ?_
    obtain rfl:=sm t0
    exact ⟨(c6,(m3,n3),((some ⟨x2,0,none⟩),w2),(e6,f6)),_,⟨rfl,rfl,rfl,trivial⟩,(((((((((hB.st b1).st a1).st u0).st c0).st d0).st g0).st o0).st d2).st j1).st e2,((((l0.st g0).st o0).st d2).st j1).st e2,(((f0.st o0).st d2).st j1).st e2,((((q0.st g0).st o0).st d2).st j1).st e2,(b0.st j1).st e2,((((((k0.st c0).st d0).st g0).st o0).st d2).st j1).st e2,u2,((e4.st d2).st j1).st e2,(((l3.st o0).st d2).st j1).st e2,d6.st e2⟩
   refine Bg 7 w5 rfl fun g6 eE jA p2 v2=>?_
   have hZ:=p2.lst [] (fun _ h=>h.elim)
   refine AW [] hZ (by kernel_rfl) ?_
   refine AQ (i:=2) (by kernel_rfl) rfl ?_
   replace f0:=(((f0.st c0).st d0).st g0).st p2
   refine Bu (O:=jA) (R:=fun w' F v=>Vb w' F v o2) (BC Fr.lt f0 q4) rfl rfl fun fE gE kA f2 h6=>?_
   obtain ⟨i6,j6,rfl⟩:=h6.form
   have hZ:=f2.lst [] (fun _ h=>h.elim)
   refine AW [] hZ (by kernel_rfl) ?_
   refine AQ (i:=5) (by kernel_rfl) rfl ?_
   replace b0:=((((b0.st c0).st d0).st g0).st p2).st f2
   refine Bu (O:=kA) (R:=fun w' F v=>Vb w' F v v0) (BC Fr.lt b0 d3) rfl rfl fun hE iE lA k1 k6=>?_
   obtain ⟨l6,m6,rfl⟩:=k6.form
   have hZ:=k1.lst [] (fun _ h=>h.elim)
   refine AW [] hZ (by kernel_rfl) ?_
   refine AR (fuel:=1) [] [(10,true)] (by kernel_rfl) rfl ?_
   refine Dj rfl rfl rfl rfl ?_
   refine AB ?_
   refine AQ (i:=12) (by kernel_rfl) rfl ?_
   replace v2:=(v2.st f2).st k1
   refine AT v2 rfl rfl rfl (Bj rfl) (allOne rfl) fun mA g2 v2=>?_
   replace v2:Lc 7 mA lA g6 53 [(.slice i6 o2.length j6),(.slice (some ⟨x2,0,none⟩) a3.length w2),(.slice l6 v0.length m6)]:=v2
   refine Cf (by kernel_rfl) ?_
   refine Bp (by kernel_rfl) ?_
   obtain rfl:=sm t0
   exact ⟨(g6,(i6,j6),((some ⟨x2,0,none⟩),w2),(l6,m6)),_,⟨rfl,rfl,rfl,trivial⟩,(((((((((hB.st b1).st a1).st u0).st c0).st d0).st g0).st p2).st f2).st k1).st g2,((((l0.st g0).st p2).st f2).st k1).st g2,((f0.st f2).st k1).st g2,((((q0.st g0).st p2).st f2).st k1).st g2,(b0.st k1).st g2,((((((k0.st c0).st d0).st g0).st p2).st f2).st k1).st g2,v2,(h6.st k1).st g2,(((l3.st p2).st f2).st k1).st g2,k6.st g2⟩
  refine Bg 7 n4 rfl fun y2 jE n6 h0 e0=>?_
  have hZ:=h0.lst [] (fun _ h=>h.elim)
  refine AW [] hZ (by kernel_rfl) ?_
  refine ER (i:=2) (j:=9) (by kernel_rfl) rfl rfl ?_ ?_
  ·
   replace f0:=((f0.st c0).st d0).st h0
   refine Bu (O:=n6) (R:=fun w' F v=>Vb w' F v o2) (BC Fr.lt f0 q4) rfl rfl fun kE lE o6 p0 f4=>?_
   obtain ⟨o3,p3,rfl⟩:=f4.form
   have hZ:=p0.lst [] (fun _ h=>h.elim)
   refine AW [] hZ (by kernel_rfl) ?_
   refine ER (i:=5) (j:=9) (by kernel_rfl) rfl rfl ?_ ?_
   ·
    replace b0:=(((b0.st c0).st d0).st h0).st p0
    refine Bu (O:=o6) (R:=fun w' F v=>Vb w' F v v0) (BC Fr.lt b0 d3) rfl rfl fun mE nE nA h2 p6=>?_
    obtain ⟨q6,r6,rfl⟩:=p6.form
    have hZ:=h2.lst [] (fun _ h=>h.elim)
    refine AW [] hZ (by kernel_rfl) ?_
    refine AQ (i:=9) (by kernel_rfl) rfl ?_
    obtain ⟨s6,oA,pA,qA,rA⟩:=CL h3
    refine Dx 6 (by decide) nA (z0:=(([]:List Int):List Int)) rfl rfl rfl rfl rfl oA (Vb.nil _ _) pA qA rfl fun t6 oE sA l1 u6=>?_
    rw [← rA] at u6 ⊢
    have hZ:=l1.lst [] (fun _ h=>h.elim)
    refine AW [] hZ (by kernel_rfl) ?_
    refine AR (fuel:=1) [] [(10,true)] (by kernel_rfl) rfl ?_
    refine Dj rfl rfl rfl rfl ?_
    refine AB ?_
    refine AQ (i:=12) (by kernel_rfl) rfl ?_
    replace e0:=((e0.st p0).st h2).st l1
    refine AT e0 rfl rfl rfl (Bj rfl) (allOne rfl) fun tA i2 e0=>?_
    replace e0:Lc 7 tA sA y2 53 [(.slice o3 o2.length p3),(.slice (some ⟨t6,0,none⟩) a3.length s6),(.slice q6 v0.length r6)]:=e0
    refine Cf (by kernel_rfl) ?_
    refine Bp (by kernel_rfl) ?_
    obtain rfl:=sm t0
    exact ⟨(y2,(o3,p3),((some ⟨t6,0,none⟩),s6),(q6,r6)),_,⟨rfl,rfl,rfl,trivial⟩,(((((((((hB.st b1).st a1).st u0).st c0).st d0).st h0).st p0).st h2).st l1).st i2,((((l0.st h0).st p0).st h2).st l1).st i2,(((f0.st p0).st h2).st l1).st i2,((((q0.st h0).st p0).st h2).st l1).st i2,((b0.st h2).st l1).st i2,((((((k0.st c0).st d0).st h0).st p0).st h2).st l1).st i2,e0,((f4.st h2).st l1).st i2,u6.st i2,(p6.st l1).st i2⟩
   obtain ⟨w6,uA,vA,wA,xA⟩:=CL h3
   refine Dx 6 (by decide) o6 (z0:=(([]:List Int):List Int)) rfl rfl rfl rfl rfl uA (Vb.nil _ _) vA wA rfl fun x6 pE yA j2 y6=>?_
   rw [← xA] at y6 ⊢
   have hZ:=j2.lst [] (fun _ h=>h.elim)
   refine AW [] hZ (by kernel_rfl) ?_
   refine AQ (i:=5) (by kernel_rfl) rfl ?_
   replace b0:=((((b0.st c0).st d0).st h0).st p0).st j2
   refine Bu (O:=yA) (R:=fun w' F v=>Vb w' F v v0) (BC Fr.lt b0 d3) rfl rfl fun qE rE zA m1 z6=>?_
   obtain ⟨a7,b7,rfl⟩:=z6.form
   have hZ:=m1.lst [] (fun _ h=>h.elim)
   refine AW [] hZ (by kernel_rfl) ?_
   refine AR (fuel:=1) [] [(10,true)] (by kernel_rfl) rfl ?_
   refine Dj rfl rfl rfl rfl ?_
   refine AB ?_
   refine AQ (i:=12) (by kernel_rfl) rfl ?_
   replace e0:=((e0.st p0).st j2).st m1
   refine AT e0 rfl rfl rfl (Bj rfl) (allOne rfl) fun aB k2 e0=>?_
   replace e0:Lc 7 aB zA y2 53 [(.slice o3 o2.length p3),(.slice (some ⟨x6,0,none⟩) a3.length w6),(.slice a7 v0.length b7)]:=e0
   refine Cf (by kernel_rfl) ?_
   refine Bp (by kernel_rfl) ?_
   obtain rfl:=sm t0
   exact ⟨(y2,(o3,p3),((some ⟨x6,0,none⟩),w6),(a7,b7)),_,⟨rfl,rfl,rfl,trivial⟩,(((((((((hB.st b1).st a1).st u0).st c0).st d0).st h0).st p0).st j2).st m1).st k2,((((l0.st h0).st p0).st j2).st m1).st k2,(((f0.st p0).st j2).st m1).st k2,((((q0.st h0).st p0).st j2).st m1).st k2,(b0.st m1).st k2,((((((k0.st c0).st d0).st h0).st p0).st j2).st m1).st k2,e0,((f4.st j2).st m1).st k2,(y6.st m1).st k2,z6.st k2⟩
  obtain ⟨c7,bB,cB,dB,eB⟩:=CL h3
  refine Dx 6 (by decide) n6 (z0:=(([]:List Int):List Int)) rfl rfl rfl rfl rfl bB (Vb.nil _ _) cB dB rfl fun d7 sE fB q2 e7=>?_
  rw [← eB] at e7 ⊢
  have hZ:=q2.lst [] (fun _ h=>h.elim)
  refine AW [] hZ (by kernel_rfl) ?_
  refine AQ (i:=2) (by kernel_rfl) rfl ?_
  replace f0:=(((f0.st c0).st d0).st h0).st q2
  refine Bu (O:=fB) (R:=fun w' F v=>Vb w' F v o2) (BC Fr.lt f0 q4) rfl rfl fun tE uE gB l2 f7=>?_
  obtain ⟨g7,h7,rfl⟩:=f7.form
  have hZ:=l2.lst [] (fun _ h=>h.elim)
  refine AW [] hZ (by kernel_rfl) ?_
  refine AQ (i:=5) (by kernel_rfl) rfl ?_
  replace b0:=((((b0.st c0).st d0).st h0).st q2).st l2
  refine Bu (O:=gB) (R:=fun w' F v=>Vb w' F v v0) (BC Fr.lt b0 d3) rfl rfl fun vE wE iB n1 i7=>?_
  obtain ⟨j7,k7,rfl⟩:=i7.form
  have hZ:=n1.lst [] (fun _ h=>h.elim)
  refine AW [] hZ (by kernel_rfl) ?_
  refine AR (fuel:=1) [] [(10,true)] (by kernel_rfl) rfl ?_
  refine Dj rfl rfl rfl rfl ?_
  refine AB ?_
  refine AQ (i:=12) (by kernel_rfl) rfl ?_
  replace e0:=((e0.st q2).st l2).st n1
  refine AT e0 rfl rfl rfl (Bj rfl) (allOne rfl) fun jB m2 e0=>?_
  replace e0:Lc 7 jB iB y2 53 [(.slice g7 o2.length h7),(.slice (some ⟨d7,0,none⟩) a3.length c7),(.slice j7 v0.length k7)]:=e0
  refine Cf (by kernel_rfl) ?_
  refine Bp (by kernel_rfl) ?_
  obtain rfl:=sm t0
  exact ⟨(y2,(g7,h7),((some ⟨d7,0,none⟩),c7),(j7,k7)),_,⟨rfl,rfl,rfl,trivial⟩,(((((((((hB.st b1).st a1).st u0).st c0).st d0).st h0).st q2).st l2).st n1).st m2,((((l0.st h0).st q2).st l2).st n1).st m2,((f0.st l2).st n1).st m2,((((q0.st h0).st q2).st l2).st n1).st m2,(b0.st n1).st m2,((((((k0.st c0).st d0).st h0).st q2).st l2).st n1).st m2,e0,(f7.st n1).st m2,((e7.st l2).st n1).st m2,i7.st m2⟩
 replace hB:=((((hB.st b1).st a1).st u0).st c0).st d0
 replace f0:=(f0.st c0).st d0
 replace q0:=(q0.st c0).st d0
 replace b0:=(b0.st c0).st d0
 replace l0:=(l0.st c0).st d0
 replace k0:=(k0.st c0).st d0
 rintro xE yE ⟨a0,kB,l7,hB,l0,f0,q0,b0,k0,x3,q3,zE,r3⟩
 refine AN _ l7 ?_
 refine Al (Al (Aj (AK rfl rfl (AF (hc:=Blk.cell (i:=1) (l0.1) rfl) rfl rfl ?_))))
 refine AZ rfl rfl ?_
 have g4:x1.vals.length≤9223372036854775807:=Nat.le_trans q0.len.2.1 q0.len.2.2
 have aF:inI64 (x1.vals.length:Int):=rngNat g4
 refine Ar rfl rfl (o_z ?_)
 obtain ⟨h4,m7,hm⟩:=bs hm
 refine AJ (aft h4 (fun (z2:(List (List Int))) (s3:Unit)=>[(4,(.pointer (some ⟨w3,0,none⟩))),(7,(.pointer (some ⟨a0.1,0,none⟩)))]) (fun z2 s3 w'=>∃ O':Lab,Bs w A w' O'∧Lc 4 w' O' w3 53 [(.slice none 0 0),(.slice none 0 0),(.slice none 0 0)]∧Lc 7 w' O' a0.1 53 [(.slice a0.2.1.1 i0.1.length a0.2.1.2),(.slice a0.2.2.1.1 i0.2.1.length a0.2.2.1.2),(.slice a0.2.2.2.1 i0.2.2.length a0.2.2.2.2)]∧Vb w' (Fr 0 w' O') (.slice a0.2.1.1 i0.1.length a0.2.1.2) i0.1∧Rw 6 w' O' 22 (.slice a0.2.2.1.1 i0.2.1.length a0.2.2.1.2) z2∧Vb w' (Fr 0 w' O') (.slice a0.2.2.2.1 i0.2.2.length a0.2.2.2.2) i0.2.2)) ?_ ?_
 ·
  refine AX (Bw (σ:=(List (List Int))) (X:=Unit) (x1.vals.length) m7 rfl g4 (fun (z2:(List (List Int))) (s3:Unit)=>[(3,(.pointer (some ⟨p4,0,none⟩))),(4,(.pointer (some ⟨w3,0,none⟩))),(7,(.pointer (some ⟨a0.1,0,none⟩))),(30,(.slice a4 x1.vals.length b4))]) _ (fun z2 s3 w'=>∃ O':Lab,Bs w A w' O'∧Lc 3 w' O' p4 53 [(.slice j4 x1.vars.length k4),(.slice a4 x1.vals.length b4),(.slice l4 x1.ops.length m4)]∧Vb w' (Fr 0 w' O') (.slice j4 x1.vars.length k4) x1.vars∧Vb w' (Fr 0 w' O') (.slice a4 x1.vals.length b4) x1.vals∧Vb w' (Fr 0 w' O') (.slice l4 x1.ops.length m4) x1.ops∧Lc 4 w' O' w3 53 [(.slice none 0 0),(.slice none 0 0),(.slice none 0 0)]∧Lc 7 w' O' a0.1 53 [(.slice a0.2.1.1 i0.1.length a0.2.1.2),(.slice a0.2.2.1.1 i0.2.1.length a0.2.2.1.2),(.slice a0.2.2.2.1 i0.2.2.length a0.2.2.2.2)]∧Vb w' (Fr 0 w' O') (.slice a0.2.1.1 i0.1.length a0.2.1.2) i0.1∧Rw 6 w' O' 22 (.slice a0.2.2.1.1 i0.2.1.length a0.2.2.1.2) z2∧Vb w' (Fr 0 w' O') (.slice a0.2.2.2.1 i0.2.2.length a0.2.2.2.2) i0.2.2) _ () ⟨kB,hB,l0,f0,q0,b0,k0,x3,q3,zE,r3⟩ ⟨rfl,rfl,rfl,rfl,rfl,rfl,trivial⟩ (fun _ _=>⟨rfl,rfl⟩) (fun _ _=>⟨rfl,rfl,trivial⟩) (fun _ _ _ ⟨O',hB,l0,f0,q0,b0,k0,x3,q3,s0,r3⟩=>⟨O',hB,k0,x3,q3,s0,r3⟩) ⟨rfl,rfl,rfl⟩ ⟨rfl,rfl⟩ ?_)
  rintro lB bF z2 s3 cF iC y3 ⟨n7,hB,l0,f0,q0,b0,k0,x3,q3,s0,r3⟩ w0 i8 j8
  have rk372:inI64 (lB:Int):=rngK y3 g4
  refine Al (Aj (Ar rfl rfl ?_))
  obtain ⟨dF,eF,jC,o7,p7,q7,fF,rfl,t3⟩:=q0.elem' y3
  replace t3:=Vb.of_slice t3
  obtain ⟨gF,hF,rfl⟩:=t3.form
  refine BA (hA:=o7) (hj:=rfl) (hlt:=p7) rfl rfl rfl ?_
  refine AF (hc:=cat0 q7) rfl rfl ?_
  refine Aw rfl rfl (Aw rfl rfl (o_z ?_))
  refine Bz [] n7 ?_
  refine AR (fuel:=3) [] [(0,true),(1,true),(2,true),(3,true),(4,true),(5,true),(6,true),(7,true)] (by kernel_rfl) rfl ?_
  refine Be rfl rfl rfl (AY (hc:=fun w' ⟨O',hq⟩=>Blk.cell (i:=1) ((x3.st hq (by decide)).1) rfl) rfl rfl rfl ?_)
  refine Be rfl rfl rfl (AY (hc:=fun w' ⟨O',hq⟩=>Blk.cell (i:=0) ((l0.st hq (by decide)).1) rfl) rfl rfl rfl ?_)
  refine AP rfl rfl rfl ?_
  obtain ⟨iF,mB,w0⟩:=bs w0
  obtain ⟨jF,kF,kC,r7,s7,t7,u7,rfl,lF⟩:=f0.elem mB
  refine BE (hA:=r7) (hj:=rfl) (hlt:=t7) rfl rfl rfl rfl ?_
  refine AY (hc:=fun w' ⟨O',hq⟩=>cat0 (AV (hq.agree (i:=0) (by decide)) s7 u7)) rfl rfl rfl ?_
  refine AP rfl rfl rfl (AB ?_)
  refine AQ (i:=8) (by kernel_rfl) rfl ?_
  obtain ⟨w7,nB,w0⟩:=bs w0
  refine Bu (O:=n7) (R:=fun w' F v=>Vb w' F v w7) (BC Fr.lt t3 nB) rfl rfl fun mF nF oF y0 x7=>?_
  obtain ⟨pF,qF,rfl⟩:=x7.form
  have hZ:=y0.lst [] (fun _ h=>h.elim)
  refine AW [] hZ (by kernel_rfl) ?_
  refine AR (fuel:=1) [] [(9,true)] (by kernel_rfl) rfl ?_
  obtain ⟨rF,oB,w0⟩:=bs w0
  obtain ⟨pB,y7⟩:=Bb oB
  replace s0:=s0.st y0
  obtain ⟨sF,tF,lC,z3,mC,z7,nC,uF,rfl,i4⟩:=s0.elemF y7
  replace i4:=Vb.of_slice i4
  obtain ⟨vF,wF,rfl⟩:=i4.form
  refine BE (hA:=z3) (hj:=(Int.toNat_of_nonneg pB).symm) (hlt:=z7) rfl rfl rfl rfl ?_
  refine AB ?_
  refine AQ (i:=10) (by kernel_rfl) rfl ?_
  refine DY rfl s0 (a:=w7) x7 z3 rfl rfl (AG y7) fun xF n2 s0=>?_
  refine Cf (by kernel_rfl) ?_
  refine Bp (by kernel_rfl) ?_
  obtain rfl:=sm w0
  exact show Exists _ from ⟨_,(),rfl,⟨rfl,rfl,rfl,rfl,rfl,rfl,trivial⟩,_,(hB.st y0).st n2,(l0.st y0).st n2,(f0.st y0).st n2,(q0.st y0).st n2,(b0.st y0).st n2,(k0.st y0).st n2,(x3.st y0).st n2,(q3.st y0).st n2,s0,(r3.st y0).st n2⟩
 rintro yF zF ⟨qB,aG,rfl,a8,rB,hB,k0,x3,q3,s0,r3⟩
 replace hm:=Bh hm
 refine AN _ a8 ?_
 refine Al (Aj (Bl (hl:=rfl) (hc:=(x3.1).cellsAt) rfl rfl ?_))
 refine AT k0 rfl rfl rfl (Bj rfl) (allOne rfl) fun b8 u3 k0=>?_
 replace k0:Lc 4 b8 rB w3 53 [(.slice a0.2.1.1 i0.1.length a0.2.1.2),(.slice a0.2.2.1.1 i0.2.1.length a0.2.2.1.2),(.slice a0.2.2.2.1 i0.2.2.length a0.2.2.2.2)]:=k0
 refine Aw rfl rfl (o_z ?_)
 refine AH ?_
 replace s0:=s0.st u3
 obtain ⟨sB,v3,s0⟩:=s0.freeze
 obtain rfl:=sm hm
 replace hB:=(hB.st u3).st v3
 replace k0:=k0.st v3
 replace q3:=(q3.st u3).st v3
 replace r3:=(r3.st u3).st v3
 exact ret2 rfl (Cj (cs:=[(.slice a0.2.1.1 i0.1.length a0.2.1.2),(.slice a0.2.2.1.1 i0.2.1.length a0.2.2.1.2),(.slice a0.2.2.2.1 i0.2.2.length a0.2.2.2.2)]) rfl rfl k0.1.cellsAt) (AD rfl) ⟨hB.ext,_,_,rfl,(Vb.mono (F:=Fr 0 b8 sB) (Vb.ofAgg (cs:=[(.slice a0.2.1.1 i0.1.length a0.2.1.2),(.slice a0.2.2.1.1 i0.2.1.length a0.2.2.1.2),(.slice a0.2.2.2.1 i0.2.2.length a0.2.2.2.2)]) (x:=(⟨i0.1,qB,i0.2.2⟩:Swp)) rfl ⟨_,_,_,rfl,q3,s0,r3⟩) hB.out),(vErr (show inI64 0 from by decide))⟩
end
section
open Go Go.RowKit
def bw (a:Int):Byt:=⟨a % 256,by omega,by omega⟩
theorem Pr (a:Int):IntKind.u8.wrap a=(bw a).n:=by
  unfold bw
  simp [IntKind.wrap,IntKind.bits,IntKind.signed]
def strB (xs:List Byt):ByteArray:=⟨(xs.map fun b=>UInt8.ofNat b.n.toNat).toArray⟩
theorem Np (xs:List Byt):(strB xs).size=xs.length:=by simp [strB,ByteArray.size]
section
variable {P : Program} {l : Env} {w : World} {dst : Option Tmp} {ty : TypeId} {pos : String} {aft : Array Edge}
theorem Rb {s t:TypeId} {k:IntKind} [hs:TInt P s k] [ht:TInt P t .u8] {x:Operand} {a:Int} (hx:opv l x=some (.int k a)):Ev P ⟨dst,.convert s t x,ty,pos,aft,none⟩ l w (.int .u8 (bw a).n):=fun _ _ d ha=>by
  simp [execOp,ha.eval hx,convert,run_underlying hs.eq,run_underlying ht.eq,Conv.intToInt,Pr]
theorem JF {F:Nat→Prop}:∀ {xs:List Byt} {cells:List Value},Chunks w F cells xs→cells=xs.map fun b=>.int .u8 b.n
  | [],_,h=>h
  | x :: xs,_,⟨cs,rest,he,hr,hc⟩=>by
    have h1:cs=[.int .u8 x.n]:=hr
    rw [he,h1,JF hc];rfl
theorem Nq (xs:List Byt):∀ (d:Array UInt8),xs.foldl (fun s b=>s.push (UInt8.ofNat b.n.toNat)) (⟨d⟩:ByteArray)=⟨d ++ (xs.map fun b=>UInt8.ofNat b.n.toNat).toArray⟩:=by
  induction xs with
  | nil=>intro d;simp
  | cons x xs ih =>
    intro d
    rw [List.foldl_cons]
    have:=ih (d.push (UInt8.ofNat x.n.toNat))
    show List.foldl _ (⟨d.push (UInt8.ofNat x.n.toNat)⟩:ByteArray) xs=_
    rw [this]
    congr 1
    apply Array.toList_inj.1
    simp
theorem Nr (xs:List Byt):xs.foldl (fun s b=>s.push (UInt8.ofNat b.n.toNat)) ByteArray.empty=strB xs:=by
  have:=Nq xs #[]
  show List.foldl _ (⟨#[]⟩:ByteArray) xs=_
  rw [this]
  unfold strB
  congr 1
  apply Array.toList_inj.1
  simp
theorem Rc {s t e:TypeId} [hs:TSlice P s e] [he:TInt P e .u8] [ht:TStr P t] {x:Operand} {v:Value} {F:Nat→Prop} {xs:List Byt} (hx:opv l x=some v) (hv:Vb w F v xs):Ev P ⟨dst,.convert s t x,ty,pos,aft,none⟩ l w (.string (strB xs)):=fun _ _ d ha=>by
  obtain ⟨A,c,cells,rfl,h1,h2,h3,h4⟩:=hv.slice
  have hc:=JF h3
  subst hc
  cases A with
  | none =>
    have h0:xs=[]:=by
      by_cases h:0 < xs.length
      · obtain ⟨b,o,hb,_⟩:=h4 h;cases hb
      · exact List.eq_nil_of_length_eq_zero (by omega)
    subst h0
    simp [execOp,ha.eval hx,convert,run_underlying hs.eq,run_underlying he.eq,run_underlying ht.eq,Conv.bytesToString]
    rfl
  | some ad =>
    by_cases h:0 < xs.length
    · obtain ⟨b,o,hb,_,hcell⟩:=h4 h
      obtain rfl:=Option.some.inj hb
      have:=DS (P:=P) (dr w d) b o (xs.map fun b=>Value.int .u8 b.n) 0 #[] (fun j v hv=>by rw [Nat.zero_add];exact EA hcell j v hv)
      rw [List.length_map] at this
      simp [execOp,ha.eval hx,convert,run_underlying hs.eq,run_underlying he.eq,run_underlying ht.eq,Conv.bytesToString,loadCells,this,Nr]
    · have h0:xs=[]:=List.eq_nil_of_length_eq_zero (by omega)
      subst h0
      simp [execOp,ha.eval hx,convert,run_underlying hs.eq,run_underlying he.eq,run_underlying ht.eq,Conv.bytesToString,loadCells,loadCellsFrom]
      rfl
end
def strI (xs:List Byt):Option ByteArray:=if xs.length≤9223372036854775807 then some (strB xs) else none
theorem Kn {xs:List Byt} {c:ByteArray} (h:strI xs=some c):c=strB xs∧xs.length≤9223372036854775807:=by
  unfold strI at h
  split at h
  · exact ⟨(sm h).symm,by assumption⟩
  · cases h
theorem Ps {xs:List Byt} (h:xs.length≤9223372036854775807):strI xs=some (strB xs):=if_pos h
theorem Pt {xs:List Byt} {c:ByteArray} (h:strI xs=some c):c.size≤9223372036854775807:=by
  obtain ⟨rfl,h2⟩:=Kn h
  rw [Np];exact h2
section
variable {P : Program} {n : Nat} {ops : Array Oper} {Q : Post} {rest : List Oper} {l : Env} {w : World} {d : Tmp} {ty : TypeId} {pos : String} {aft : Array Edge}
theorem Rj {s t:TypeId} {k:IntKind} [TInt P s k] [TInt P t .u8] {x:Operand} {a:Int} (hx:opv l x=some (.int k a)) (hd:Nat.blt d n=true) (h:owp P n ops Q rest ((d,.int .u8 (bw a).n) :: l) w):owp P n ops Q (⟨some d,.convert s t x,ty,pos,aft,none⟩ :: rest) l w:=Bv (Rb hx) hd h
theorem Rk {s t e:TypeId} [TSlice P s e] [TInt P e .u8] [TStr P t] {x:Operand} {v:Value} {F:Nat→Prop} {xs:List Byt} {c:ByteArray} (hx:opv l x=some v) (hv:Vb w F v xs) (he:strI xs=some c) (hd:Nat.blt d n=true) (h:owp P n ops Q rest ((d,.string c) :: l) w):owp P n ops Q (⟨some d,.convert s t x,ty,pos,aft,none⟩ :: rest) l w:=by
  obtain ⟨rfl,_⟩:=Kn he
  exact Bv (Rc hx hv) hd h
end
end
section
open Go Go.RowKit Go.Lib Go.Sort
def cfL:List Int→List Int→Int
  | [],[]=>0
  | [],_ :: _=>-1
  | _ :: _,[]=>1
  | x :: xs,y :: ys=>if Lib.compareInt x y≠0 then Lib.compareInt x y else cfL xs ys
theorem Fl {α:Type} {l:List α} {k:Nat} (h:k < l.length):∃ x,l[k]?=some x:=⟨l[k],List.getElem?_eq_getElem h⟩
theorem Jb {α:Type} {l:List α} {k:Nat} (h:l.length≤k):l.drop k=[]:=List.drop_eq_nil_of_le h
theorem Lq {xs ys:List Int} {k:Nat} {x y:Int} (hx:xs[k]?=some x) (hy:ys[k]?=some y):cfL (xs.drop k) (ys.drop k)=if Lib.compareInt x y≠0 then Lib.compareInt x y else cfL (xs.drop (k + 1)) (ys.drop (k + 1)):=by
  have h1:xs.drop k=x :: xs.drop (k + 1):=by
    rw [List.drop_eq_getElem_cons (AG hx)]
    rw [List.getElem?_eq_getElem (AG hx)] at hx
    rw [Option.some.inj hx]
  have h2:ys.drop k=y :: ys.drop (k + 1):=by
    rw [List.drop_eq_getElem_cons (AG hy)]
    rw [List.getElem?_eq_getElem (AG hy)] at hy
    rw [Option.some.inj hy]
  rw [h1,h2]
  rfl
end
section
open Go Go.RowKit Go.Lib Go.Sort
theorem En (x y:Int):(x < y∧Lib.compareInt x y=-1)∨(x=y∧Lib.compareInt x y=0)∨(y < x∧Lib.compareInt x y=1):=by
  unfold Lib.compareInt
  by_cases h:x < y
  · simp [h]
  · by_cases h2:y < x
    · simp [h,h2]
    · right;left;simp [h,h2];omega
theorem Ns:∀ {x y:List Int},cfL x y=0→x=y
  | [],[],_=>rfl
  | [],_ :: _,h=>by simp [cfL] at h
  | _ :: _,[],h=>by simp [cfL] at h
  | a :: x,b :: y,h=>by
    simp only [cfL] at h
    rcases En a b with ⟨_,h2⟩|⟨h1,h2⟩|⟨_,h2⟩
    · rw [h2] at h;simp at h
    · rw [h2] at h;simp at h;rw [h1,Ns h]
    · rw [h2] at h;simp at h
theorem Jc:∀ x:List Int,cfL x x=0
  | []=>rfl
  | a :: x=>by
    simp only [cfL]
    rcases En a a with ⟨h1,_⟩|⟨_,h2⟩|⟨h1,_⟩
    · omega
    · rw [h2];simp [Jc x]
    · omega
theorem Mp:∀ x y:List Int,cfL y x=- cfL x y
  | [],[]=>rfl
  | [],_ :: _=>rfl
  | _ :: _,[]=>rfl
  | a :: x,b :: y=>by
    simp only [cfL]
    have ih:=Mp x y
    rcases En a b with ⟨h1,h2⟩|⟨h1,h2⟩|⟨h1,h2⟩<;>rcases En b a with ⟨g1,g2⟩|⟨g1,g2⟩|⟨g1,g2⟩<;>first|omega|(rw [h2,g2];simp [ih])
theorem HX:∀ {x y z:List Int},cfL x y≤0→cfL y z≤0→cfL x z≤0
  | [],_,[],_,_=>by simp [cfL]
  | [],_,_ :: _,_,_=>by simp [cfL]
  | _ :: _,[],_,h,_=>by simp [cfL] at h
  | _ :: _,_ :: _,[],_,h=>by simp [cfL] at h
  | a :: x,b :: y,c :: z,h1,h2=>by
    simp only [cfL] at h1 h2 ⊢
    have ih:=@HX x y z
    rcases En a b with ⟨p1,p2⟩|⟨p1,p2⟩|⟨p1,p2⟩<;>rcases En b c with ⟨q1,q2⟩|⟨q1,q2⟩|⟨q1,q2⟩<;>rcases En a c with ⟨r1,r2⟩|⟨r1,r2⟩|⟨r1,r2⟩<;>rw [p2] at h1<;>rw [q2] at h2<;>rw [r2]<;>simp at h1 h2 ⊢<;>first|omega|exact ih h1 h2
end
section
open Go Go.RowKit
attribute [local irreducible] ewp owp hwp hwq hws Ev Evg Fn retPost loud loudS Res1
attribute [local irreducible] hwx loudX
instance:TMap Tryz.prog 64 9 3:=⟨Tryz.underlying64⟩
instance:TKey Tryz.prog 9 ByteArray:=⟨Tryz.underlying9⟩
noncomputable def DM (x0:Int):Option Bool :=
  bnd (if x0≠x0 then (some true) else (some false):Option Bool) fun y2=>some y2
theorem GH {w:World} {A:Nat→Prop} (hA:∀ k,A k→k < w.heap.size) {x0:Int} (rx0:inI64 x0) {r:Bool} (hm:DM x0=some r) :
    Fn Tryz.prog 106 [(.int .i64 x0)] w fun v w'=>Ext w w'∧Vb w' (upA A w w') v r:=by
 obtain ⟨O,hB,c0⟩:=enter hA
 refine AL Tryz.func106 rfl Tryz.ntmps106 rfl ?_
 unfold DM at hm
 refine Al (Aj (Aw rfl rfl (o_z ?_)))
 refine Al ?_
 obtain ⟨y2,a0,hm⟩:=bs hm
 refine AJ (fun l' w'=>∃ (x5:Unit) (O':Lab),subs l' [(2,(.bool y2))]∧Bs w A w' O') ?_ ?_
 ·
  refine Aj (Ar rfl rfl (Ar rfl rfl (Fq rfl rfl rfl (fun c6=>?_) fun c6=>?_)))
  ·
   replace a0:=ip a0 c6
   refine Aw rfl rfl (o_z ?_)
   obtain rfl:=sm a0
   exact ⟨(),_,⟨rfl,trivial⟩,hB⟩
  replace a0:=im a0 c6
  refine Aw rfl rfl (o_z ?_)
  obtain rfl:=sm a0
  exact ⟨(),_,⟨rfl,trivial⟩,hB⟩
 rintro l7 w8 ⟨x5,O9,b0,hB⟩
 refine AN _ b0 ?_
 refine AH ?_
 obtain rfl:=sm hm
 exact ret1v rfl (AD rfl) ⟨hB.ext,vBool⟩
noncomputable def Dp (x0:Int) (x1:Int):Option Int :=
  bnd (bnd (DM x0) fun q7=>if q7=true then some true else some false:Option Bool) fun y3=>bnd (bnd (DM x1) fun q22=>if q22=true then some true else some false:Option Bool) fun y18=>if y3=true then (if y18=true then (some 0) else (some (-1))) else (if y18=true then (some 1) else (if x0 < x1 then (some (-1)) else (if x1 < x0 then (some 1) else (some 0))))
theorem IC {w:World} {A:Nat→Prop} (hA:∀ k,A k→k < w.heap.size) {x0:Int} (rx0:inI64 x0) {x1:Int} (rx1:inI64 x1) {r:Int} (hm:Dp x0 x1=some r) :
    Fn Tryz.prog 98 [(.int .i64 x0),(.int .i64 x1)] w fun v w'=>Ext w w'∧Vb w' (upA A w w') v r:=by
 obtain ⟨O,hB,t0⟩:=enter hA
 refine AL Tryz.func98 rfl Tryz.ntmps98 rfl ?_
 unfold Dp at hm
 refine Al (Aj (Aw rfl rfl (o_z ?_)))
 refine Al ?_
 obtain ⟨y3,b0,hm⟩:=bs hm
 refine AJ (fun l' w'=>∃ (x6:Unit) (O':Lab),subs l' [(0,(.int .i64 x0)),(1,(.int .i64 x1)),(5,(.bool y3))]∧Bs w A w' O') ?_ ?_
 ·
  refine Aj (Ar rfl rfl ?_)
  obtain ⟨q7,e8,b0⟩:=bs b0
  refine Bi (O:=O) (A:=All w) (R:=fun w' F v=>Vb w' F v q7) (GH (fun _ h=>h) rx0 e8) rfl rfl fun u0 w9 v0 j0 m0=>?_
  obtain rfl:=m0.bool
  cases q7
  case false =>
   replace b0:=iF b0
   refine Aw rfl rfl (o_z ?_)
   obtain rfl:=sm b0
   exact ⟨(),_,⟨rfl,rfl,rfl,trivial⟩,hB.st j0⟩
  replace b0:=iT b0
  refine Aw rfl rfl (o_z ?_)
  obtain rfl:=sm b0
  exact ⟨(),_,⟨rfl,rfl,rfl,trivial⟩,hB.st j0⟩
 rintro w0 n0 ⟨x6,o0,c0,hB⟩
 refine AN _ c0 ?_
 refine Al ?_
 obtain ⟨p0,a0,hm⟩:=bs hm
 refine AJ (fun l' w'=>∃ (q0:Unit) (O':Lab),subs l' [(0,(.int .i64 x0)),(1,(.int .i64 x1)),(5,(.bool y3)),(6,(.bool p0))]∧Bs w A w' O') ?_ ?_
 ·
  refine Aj (Ar rfl rfl ?_)
  obtain ⟨k0,r0,a0⟩:=bs a0
  refine Bi (O:=o0) (A:=All n0) (R:=fun w' F v=>Vb w' F v k0) (GH (fun _ h=>h) rx1 r0) rfl rfl fun y0 z0 a1 l0 s0=>?_
  obtain rfl:=s0.bool
  cases k0
  case false =>
   replace a0:=iF a0
   refine Aw rfl rfl (o_z ?_)
   obtain rfl:=sm a0
   exact ⟨(),_,⟨rfl,rfl,rfl,rfl,trivial⟩,hB.st l0⟩
  replace a0:=iT a0
  refine Aw rfl rfl (o_z ?_)
  obtain rfl:=sm a0
  exact ⟨(),_,⟨rfl,rfl,rfl,rfl,trivial⟩,hB.st l0⟩
 rintro b1 c1 ⟨q0,d1,d0,hB⟩
 refine AN _ d0 ?_
 refine Al (Al (Aj (Ar rfl rfl (o_z ?_))))
 refine BP rfl (fun e0=>?_) (fun e0=>?_)
 ·
  replace hm:=ip hm e0
  refine Al (Al (Aj (Ar rfl rfl (o_z ?_))))
  refine BP rfl (fun f0=>?_) (fun f0=>?_)
  ·
   replace hm:=ip hm f0
   refine Al (Aj (Aw rfl rfl (o_z ?_)))
   refine AH ?_
   obtain rfl:=sm hm
   exact ret1v rfl (AD rfl) ⟨hB.ext,(vInt (show inI64 (0) from by decide))⟩
  replace hm:=im' hm f0
  refine AO (Al (Aj (Aw rfl rfl (o_z ?_))))
  refine AH ?_
  obtain rfl:=sm hm
  exact ret1v rfl (AD rfl) ⟨hB.ext,(vInt (show inI64 (-1) from by decide))⟩
 replace hm:=im' hm e0
 refine AO (Al (Al (Aj (Ar rfl rfl (o_z ?_)))))
 refine BP rfl (fun g0=>?_) (fun g0=>?_)
 ·
  replace hm:=ip hm g0
  refine Al (Aj (Aw rfl rfl (o_z ?_)))
  refine AH ?_
  obtain rfl:=sm hm
  exact ret1v rfl (AD rfl) ⟨hB.ext,(vInt (show inI64 (1) from by decide))⟩
 replace hm:=im' hm g0
 refine AO (Al (Al (Aj (Ar rfl rfl (Ar rfl rfl (Dg rfl rfl rfl (fun h0=>?_) fun h0=>?_))))))
 ·
  replace hm:=ip hm h0
  refine o_z ?_
  refine Ah rfl (Al (Aj (Aw rfl rfl (o_z ?_))))
  refine AH ?_
  obtain rfl:=sm hm
  exact ret1v rfl (AD rfl) ⟨hB.ext,(vInt (show inI64 (-1) from by decide))⟩
 replace hm:=im hm h0
 refine o_z ?_
 refine Ae rfl (AO (Al (Al (Aj (Ar rfl rfl (Ar rfl rfl (Cu rfl rfl rfl (fun i0=>?_) fun i0=>?_)))))))
 ·
  replace hm:=ip hm i0
  refine o_z ?_
  refine Ah rfl (Al (Aj (Aw rfl rfl (o_z ?_))))
  refine AH ?_
  obtain rfl:=sm hm
  exact ret1v rfl (AD rfl) ⟨hB.ext,(vInt (show inI64 (1) from by decide))⟩
 replace hm:=im hm i0
 refine o_z ?_
 refine Ae rfl (AO (Al (Aj (Aw rfl rfl (o_z ?_)))))
 refine AH ?_
 obtain rfl:=sm hm
 exact ret1v rfl (AD rfl) ⟨hB.ext,(vInt (show inI64 (0) from by decide))⟩
noncomputable def BS (x0:List Int) (x1:List Int):Option Int :=
  bnd (rng (ρ:=Int) (fun (k13:Nat) (a14:Int) (s11:Unit)=>if (x1.length:Int)≤(k13:Int) then (some (.ret 1)) else (bnd (x1[k13]?) fun a35=>bnd (Dp a14 a35) fun q45=>if q45≠0 then (some (.ret q45)) else (some (.next ())))) x0 0 ()) fun res9=>fin res9 fun (s58:Unit)=>if (x0.length:Int) < (x1.length:Int) then (some (-1)) else (some 0)
theorem Gd {w:World} {A:Nat→Prop} (hA:∀ k,A k→k < w.heap.size) {vx0:Value} {x0:List Int} (b0:Vb w A vx0 x0) {vx1:Value} {x1:List Int} (c0:Vb w A vx1 x1) {r:Int} (hm:BS x0 x1=some r) :
    Fn Tryz.prog 87 [vx0,vx1] w fun v w'=>Ext w w'∧Vb w' (upA A w w') v r:=by
 obtain ⟨O,hB,v0⟩:=enter hA
 replace b0:=b0.mono v0
 obtain ⟨A3,c4,rfl⟩:=b0.form
 replace c0:=c0.mono v0
 obtain ⟨A5,c6,rfl⟩:=c0.form
 refine AL Tryz.func87 rfl Tryz.ntmps87 rfl ?_
 unfold BS at hm
 refine Al (Aj (Aw rfl rfl (o_z ?_)))
 refine Al (Al (Aj (Ar rfl rfl (AZ rfl rfl ?_))))
 have l8:x0.length≤9223372036854775807:=Nat.le_trans b0.len.2.1 b0.len.2.2
 have r7:inI64 (x0.length:Int):=rngNat l8
 refine Ar rfl rfl (o_z ?_)
 obtain ⟨i0,j0,hm⟩:=bs hm
 refine AJ (aft i0 (fun (f0:Unit) (g0:Unit)=>[(0,(.slice A3 x0.length c4)),(1,(.slice A5 x1.length c6))]) (fun f0 g0 w'=>∃ O':Lab,Bs w A w' O'∧Vb w' (Fr 0 w' O') (.slice A3 x0.length c4) x0∧Vb w' (Fr 0 w' O') (.slice A5 x1.length c6) x1)) ?_ ?_
 ·
  refine AX (Bw (σ:=Unit) (X:=Unit) (x0.length) j0 rfl l8 (fun (f0:Unit) (g0:Unit)=>[(0,(.slice A3 x0.length c4)),(1,(.slice A5 x1.length c6)),(9,(.slice A3 x0.length c4))]) _ (fun f0 g0 w'=>∃ O':Lab,Bs w A w' O'∧Vb w' (Fr 0 w' O') (.slice A3 x0.length c4) x0∧Vb w' (Fr 0 w' O') (.slice A5 x1.length c6) x1) _ () ⟨O,hB,b0,c0⟩ ⟨rfl,rfl,rfl,rfl,rfl,trivial⟩ (fun _ _=>⟨rfl,rfl⟩) (fun _ _=>⟨rfl,rfl,trivial⟩) (fun _ _ _ ⟨O',hB,b0,c0⟩=>⟨O',hB,b0,c0⟩) ⟨rfl,rfl,rfl⟩ ⟨rfl,rfl⟩ ?_)
  rintro w0 n1 f0 g0 y0 z0 e0 ⟨a1,hB,b0,c0⟩ a0 d0 k0
  have rk13:inI64 (w0:Int):=rngK e0 l8
  refine Al (Aj (Ar rfl rfl ?_))
  obtain ⟨o1,p1,b1,l0,m0,n0,rfl,c1⟩:=b0.elem' e0
  refine BA (hA:=l0) (hj:=rfl) (hlt:=m0) rfl rfl rfl ?_
  refine AF (hc:=cat0 n0) rfl rfl ?_
  refine Aw rfl rfl (Aw rfl rfl (o_z ?_))
  refine Al (Al (Aj (Ar rfl rfl (Ar rfl rfl (AZ rfl rfl ?_)))))
  have d1:x1.length≤9223372036854775807:=Nat.le_trans c0.len.2.1 c0.len.2.2
  have q1:inI64 (x1.length:Int):=rngNat d1
  refine FZ rfl rfl rfl (fun o0=>?_) fun o0=>?_
  ·
   replace a0:=ip a0 o0
   refine o_z ?_
   refine Ah rfl (Al (Aj (Aw rfl rfl (o_z ?_))))
   refine AH ?_
   obtain rfl:=sm a0
   obtain rfl:=d0 _ rfl
   obtain rfl:=sm (BO hm)
   exact ret1v rfl (AD rfl) ⟨hB.ext,(vInt (show inI64 (1) from by decide))⟩
  replace a0:=im a0 o0
  refine o_z ?_
  refine Ae rfl (AO (Al (Aj (Ar rfl rfl (Ar rfl rfl ?_)))))
  obtain ⟨r1,e1,a0⟩:=bs a0
  obtain ⟨s1,t1,f1,p0,q0,r0,rfl,g1⟩:=c0.elem' e1
  refine BA (hA:=p0) (hj:=rfl) (hlt:=q0) rfl rfl rfl ?_
  refine AF (hc:=cat0 r0) rfl rfl ?_
  refine Aw rfl rfl (o_z ?_)
  refine Al (Aj (Ar rfl rfl (Ar rfl rfl ?_)))
  obtain ⟨h1,i1,a0⟩:=bs a0
  refine Bi (O:=a1) (A:=All y0) (R:=fun w' F v=>Vb w' F v h1) (IC (fun _ h=>h) c1 g1 i1) rfl rfl fun u1 v1 w1 h0 j1=>?_
  obtain ⟨rfl,k1⟩:=j1.int
  refine Aw rfl rfl (o_z ?_)
  refine Al (Aj (Ar rfl rfl (Fq rfl rfl rfl (fun s0=>?_) fun s0=>?_)))
  ·
   replace a0:=ip a0 s0
   refine o_z ?_
   refine Ah rfl (Al (Aj (Ar rfl rfl (Aw rfl rfl (o_z ?_)))))
   refine AH ?_
   obtain rfl:=sm a0
   obtain rfl:=d0 _ rfl
   obtain rfl:=sm (BO hm)
   replace hB:=hB.st h0
   exact ret1v rfl (AD rfl) ⟨hB.ext,(vInt k1)⟩
  replace a0:=im a0 s0
  refine o_z ?_
  refine Ae rfl (AO ?_)
  obtain rfl:=sm a0
  exact show Exists _ from ⟨_,(),rfl,⟨rfl,rfl,rfl,rfl,rfl,trivial⟩,_,hB.st h0,b0.st h0,c0.st h0⟩
 rintro y1 z1 ⟨a2,b2,rfl,t0,c2,hB,b0,c0⟩
 replace hm:=Bh hm
 refine AN _ t0 ?_
 refine Al (Al (Aj (Ar rfl rfl (AZ rfl rfl ?_))))
 have l1:x0.length≤9223372036854775807:=Nat.le_trans b0.len.2.1 b0.len.2.2
 have d2:inI64 (x0.length:Int):=rngNat l1
 refine Ar rfl rfl (AZ rfl rfl ?_)
 have m1:x1.length≤9223372036854775807:=Nat.le_trans c0.len.2.1 c0.len.2.2
 have e2:inI64 (x1.length:Int):=rngNat m1
 refine Dg rfl rfl rfl (fun u0=>?_) fun u0=>?_
 ·
  replace hm:=ip hm u0
  refine o_z ?_
  refine Ah rfl (Al (Aj (Aw rfl rfl (o_z ?_))))
  refine AH ?_
  obtain rfl:=sm hm
  exact ret1v rfl (AD rfl) ⟨hB.ext,(vInt (show inI64 (-1) from by decide))⟩
 replace hm:=im hm u0
 refine o_z ?_
 refine Ae rfl (AO (Al (Aj (Aw rfl rfl (o_z ?_)))))
 refine AH ?_
 obtain rfl:=sm hm
 exact ret1v rfl (AD rfl) ⟨hB.ext,(vInt (show inI64 (0) from by decide))⟩
noncomputable def Cc (x0:Tsk) (x1:List Swp) (x2:List Int):Option ((List Int)×(List Int)×Err) :=
  bnd (Bx x0 x1) fun q30=>if q30.n≠0 then (some (([]:List Int),([]:List Int),(⟨q30.n⟩:Err))) else (bnd (Fe x0.vars x2) fun q39=>if q39=true then bnd (Cr x2) fun q46=>bnd (lop (ρ:=(List Int)×(List Int)×Err) (fun (s58:(List Int)×(List Int)×Int)=>if s58.2.2 < (x1.length:Int) then (bnd (atI x1 s58.2.2) fun a84=>bnd (Cs a84 s58.1) fun q107=>bnd (BS q107 s58.1) fun q116=>if 0≤q116 then (bnd (chkI (s58.2.2 + 1)) fun n125=>some (.next (s58.1,s58.2.1,n125))) else (bnd (appI 8 s58.2.1 [s58.2.2]) fun u128=>some (.next (q107,u128,0)))) else (some (.brk (s58.1,s58.2.1,s58.2.2)))) (q46,([]:List Int),0)) fun res56=>fin res56 fun (s144:(List Int)×(List Int)×Int)=>some (s144.1,s144.2.1,(⟨0⟩:Err)) else some (([]:List Int),([]:List Int),(⟨2⟩:Err)))
theorem Hm {w:World} {A:Nat→Prop} (hA:∀ k,A k→k < w.heap.size) {vx0:Value} {x0:Tsk} (m1:Vb w A vx0 x0) {vx1:Value} {x1:List Swp} (e0:Vb w A vx1 x1) {vx2:Value} {x2:List Int} (i0:Vb w A vx2 x2) {r:(List Int)×(List Int)×Err} (hm:Cc x0 x1 x2=some r) :
    Fn Tryz.prog 57 [vx0,vx1,vx2] w fun v w'=>Ext w w'∧T3 w' (upA A w w') v r:=by
 obtain ⟨O,hB,n1⟩:=enter hA
 replace m1:=m1.mono n1
 obtain ⟨n4,rfl,v5,v6,v7,v8,rfl,h9,g1,h1,i1⟩:=m1
 obtain ⟨r2,s2,rfl⟩:=h9.form
 obtain ⟨t2,u2,rfl⟩:=g1.form
 obtain ⟨v2,w2,rfl⟩:=h1.form
 obtain ⟨y2,z2,rfl⟩:=i1.form
 replace e0:=e0.mono n1
 obtain ⟨a3,b3,rfl⟩:=e0.form
 replace i0:=i0.mono n1
 obtain ⟨o4,p4,rfl⟩:=i0.form
 refine AL Tryz.func57 rfl Tryz.ntmps57 rfl ?_
 unfold Cc at hm
 refine Al (Aj (BL 2 O rfl rfl fun g3 j1 k1 g0 s0=>?_))
 replace s0:Lc 2 j1 k1 g3 26 [(.slice r2 x0.vars.length s2),(.slice t2 x0.init.length u2),(.slice v2 x0.goal.length w2),(.slice y2 x0.ops.length z2)]:=s0
 refine Aw rfl rfl (Aw rfl rfl (Aw rfl rfl (o_z ?_)))
 refine Al (Al (Aj (Bl (hl:=rfl) (hc:=(s0.1).cellsAt) rfl rfl ?_)))
 refine Ar rfl rfl ?_
 obtain ⟨h3,i3,hm⟩:=bs hm
 replace e0:=e0.st g0
 replace h9:=h9.st g0
 replace g1:=g1.st g0
 replace h1:=h1.st g0
 replace i1:=i1.st g0
 refine Bi (O:=k1) (A:=All j1) (R:=fun w' F v=>Vb w' F v h3) (DV (fun _ h=>h) (Vb.mono (F:=Fr 0 j1 k1) (Vb.ofAgg (cs:=[(.slice r2 x0.vars.length s2),(.slice t2 x0.init.length u2),(.slice v2 x0.goal.length w2),(.slice y2 x0.ops.length z2)]) (x:=x0) rfl ⟨_,_,_,_,rfl,h9,g1,h1,i1⟩) Fr.lt) (Vb.mono (F:=Fr 0 j1 k1) e0 Fr.lt) i3) rfl rfl fun q4 t0 u0 k0 j3=>?_
 obtain ⟨rfl,k3⟩:=j3.err
 refine Aw rfl rfl (o_z ?_)
 refine Al (Aj (Ar rfl rfl (EI rfl rfl (fun o1=>?_) fun o1=>?_)))
 ·
  replace hm:=ip hm o1
  refine o_z ?_
  refine Ah rfl (Al (Aj (Ar rfl rfl (Aw rfl rfl (Aw rfl rfl (Aw rfl rfl (o_z ?_)))))))
  refine AH ?_
  obtain rfl:=sm hm
  replace hB:=(hB.st g0).st k0
  exact ret3 rfl (AD rfl) (AD rfl) (AD rfl) ⟨hB.ext,_,_,_,rfl,(Vb.mono (F:=Fr 0 t0 u0) (Vb.nil _ _) hB.out),(Vb.mono (F:=Fr 0 t0 u0) (Vb.nil _ _) hB.out),(vErr k3)⟩
 replace hm:=im hm o1
 refine o_z ?_
 refine Ae rfl (AO (Al (Al (Aj (AK rfl rfl ?_)))))
 replace s0:=s0.st k0
 refine AF (hc:=Blk.cell (i:=0) (s0.1) rfl) rfl rfl ?_
 refine Ar rfl rfl ?_
 obtain ⟨c3,l3,hm⟩:=bs hm
 replace i0:=(i0.st g0).st k0
 replace h9:=h9.st k0
 refine Bi (O:=u0) (A:=All t0) (R:=fun w' F v=>Vb w' F v c3) (KE (fun _ h=>h) (Vb.mono (F:=Fr 0 t0 u0) h9 Fr.lt) (Vb.mono (F:=Fr 0 t0 u0) i0 Fr.lt) l3) rfl rfl fun r4 d3 p1 v0 m3=>?_
 obtain rfl:=m3.bool
 cases c3
 case false =>
  replace hm:=iF hm
  refine Ce rfl rfl (o_z ?_)
  refine Ah rfl (Al (Aj (MI rfl rfl ?_)))
  refine Aw rfl rfl (Aw rfl rfl (Aw rfl rfl (o_z ?_)))
  refine AH ?_
  obtain rfl:=sm hm
  replace hB:=((hB.st g0).st k0).st v0
  exact ret3 rfl (AD rfl) (AD rfl) (AD rfl) ⟨hB.ext,_,_,_,rfl,(Vb.mono (F:=Fr 0 d3 p1) (Vb.nil _ _) hB.out),(Vb.mono (F:=Fr 0 d3 p1) (Vb.nil _ _) hB.out),(vErr (by decide))⟩
 replace hm:=iT hm
 refine Cd rfl rfl (o_z ?_)
 refine Ae rfl (AO (Al (Aj (Ar rfl rfl ?_))))
 obtain ⟨s4,n3,hm⟩:=bs hm
 replace i0:=i0.st v0
 refine HQ 3 (by decide) (O:=p1) (ES Fr.lt i0 n3) rfl rfl fun o3 p3 t4 u4 q1 r1=>?_
 refine Aw rfl rfl (o_z ?_)
 refine Al (Aj (Aw rfl rfl (o_z ?_)))
 refine Al (Al (Aj (Aw rfl rfl (o_z ?_))))
 obtain ⟨w0,s1,hm⟩:=bs hm
 refine AJ (aft w0 (fun (c0:(List Int)×(List Int)×Int) (b0:(Option Addr×Nat)×(Option Addr×Nat))=>[(10,(.slice b0.1.1 c0.1.length b0.1.2)),(11,(.slice b0.2.1 c0.2.1.length b0.2.2))]) (fun c0 b0 w'=>∃ O':Lab,Bs w A w' O'∧Vb w' (Fr 0 w' O') (.slice b0.1.1 c0.1.length b0.1.2) c0.1∧Rw 4 w' O' 3 (.slice b0.2.1 c0.2.1.length b0.2.2) c0.2.1∧inI64 c0.2.2)) ?_ ?_
 ·
  refine AX ?_
  obtain ⟨q3,e3,r1⟩:=r1.freeze
  replace hB:=((((hB.st g0).st k0).st v0).st q1).st e3
  replace e0:=(((e0.st k0).st v0).st q1).st e3
  refine Gh (σ:=(List Int)×(List Int)×Int) (X:=(Option Addr×Nat)×(Option Addr×Nat)) s1 (fun (c0:(List Int)×(List Int)×Int) (b0:(Option Addr×Nat)×(Option Addr×Nat))=>[(1,(.slice a3 x1.length b3)),(10,(.slice b0.1.1 c0.1.length b0.1.2)),(11,(.slice b0.2.1 c0.2.1.length b0.2.2)),(12,(.int .i64 c0.2.2))]) _ (fun c0 b0 w'=>∃ O':Lab,Bs w A w' O'∧Vb w' (Fr 0 w' O') (.slice a3 x1.length b3) x1∧Vb w' (Fr 0 w' O') (.slice b0.1.1 c0.1.length b0.1.2) c0.1∧Rw 4 w' O' 3 (.slice b0.2.1 c0.2.1.length b0.2.2) c0.2.1∧inI64 c0.2.2) _ ((o3,p3),(none,0)) ⟨q3,hB,e0,r1,(Rw.nil 4 (by decide)),(show inI64 (0) from by decide)⟩ ⟨rfl,rfl,rfl,rfl,trivial⟩ ?_
  rintro c0 b0 v4 r3 ⟨s3,hB,e0,h0,j0,t1⟩ a0 u1 l0
  refine Al (Al (Aj (Ar rfl rfl (Ar rfl rfl (AZ rfl rfl ?_)))))
  have t3:x1.length≤9223372036854775807:=Nat.le_trans e0.len.2.1 e0.len.2.2
  have w4:inI64 (x1.length:Int):=rngNat t3
  refine Dg rfl rfl rfl (fun v1=>?_) fun v1=>?_
  ·
   replace a0:=ip a0 v1
   refine o_z ?_
   refine Ah rfl (AO (AX (Al (Aj (Ar rfl rfl (Ar rfl rfl ?_))))))
   obtain ⟨l1,u3,a0⟩:=bs a0
   obtain ⟨v3,w3⟩:=Bb u3
   obtain ⟨x4,y4,x3,w1,y1,z1,z4,a5,b5,rfl,f3,y0,z0⟩:=e0.elem' w3
   obtain ⟨y3,a2,rfl⟩:=f3.form
   obtain ⟨b2,c2,rfl⟩:=y0.form
   obtain ⟨d2,e2,rfl⟩:=z0.form
   refine BA (hA:=w1) (hj:=(Int.toNat_of_nonneg v3).symm) (hlt:=y1) rfl rfl rfl ?_
   refine Bl (hl:=rfl) (hc:=z1) rfl rfl ?_
   refine Ar rfl rfl ?_
   obtain ⟨f2,g2,a0⟩:=bs a0
   refine Bu (O:=s3) (R:=fun w' F v=>Vb w' F v f2) (IW Fr.lt (Vb.ofAgg (cs:=[(.slice y3 l1.vars.length a2),(.slice b2 l1.vals.length c2),(.slice d2 l1.ops.length e2)]) (x:=l1) rfl ⟨_,_,_,rfl,f3,y0,z0⟩) h0 g2) rfl rfl fun z3 m0 n0 f0 o0=>?_
   obtain ⟨h2,i2,rfl⟩:=o0.form
   refine Aw rfl rfl (o_z ?_)
   refine Al (Al (Aj (Ar rfl rfl (Ar rfl rfl ?_))))
   obtain ⟨j2,k2,a0⟩:=bs a0
   replace h0:=h0.st f0
   refine Bi (O:=n0) (A:=All m0) (R:=fun w' F v=>Vb w' F v j2) (Gd (fun _ h=>h) (Vb.mono (F:=Fr 0 m0 n0) o0 Fr.lt) (Vb.mono (F:=Fr 0 m0 n0) h0 Fr.lt) k2) rfl rfl fun a4 b4 c4 d0 l2=>?_
   obtain ⟨rfl,d4⟩:=l2.int
   refine FZ rfl rfl rfl (fun p0=>?_) fun p0=>?_
   ·
    replace a0:=ip a0 p0
    refine o_z ?_
    refine Ah rfl (Al (Aj (Ar rfl rfl ?_)))
    obtain ⟨e4,a1,a0⟩:=bs a0
    have m2:=(CE a1)
    refine Hi (he:=a1) rfl rfl rfl ?_
    refine Aw rfl rfl (o_z ?_)
    refine DP ?_
    obtain rfl:=sm a0
    exact show Exists _ from ⟨_,((b0.1.1,b0.1.2),(b0.2.1,b0.2.2)),rfl,⟨rfl,rfl,rfl,rfl,trivial⟩,_,(hB.st f0).st d0,(e0.st f0).st d0,h0.st d0,(j0.st f0).st d0,m2⟩
   replace a0:=im a0 p0
   refine o_z ?_
   refine Ae rfl (AO (Aj (Ar rfl rfl (Ar rfl rfl (Ar rfl rfl ?_)))))
   obtain ⟨f4,q0,a0⟩:=bs a0
   obtain ⟨q0,n2,o2⟩:=CG q0
   replace j0:=(j0.st f0).st d0
   refine Ef rfl (a:=c0.2.2) j0 (vInt t1) (fun _=>rfl) rfl (by decide) (by decide) n2 o2 ⟨rfl,rfl⟩ fun g4 p2 q2 h4 i4 r0 b1=>?_
   rw [← q0] at b1 ⊢
   refine Aw rfl rfl (Aw rfl rfl (Aw rfl rfl (o_z ?_)))
   obtain rfl:=sm a0
   exact show Exists _ from ⟨_,((h2,i2),(p2,q2)),rfl,⟨rfl,rfl,rfl,rfl,trivial⟩,_,((hB.st f0).st d0).st r0,((e0.st f0).st d0).st r0,(o0.st d0).st r0,b1,(show inI64 (0) from by decide)⟩
  replace a0:=im a0 v1
  refine o_z ?_
  refine Ae rfl (DP ?_)
  obtain rfl:=sm a0
  exact show Exists _ from ⟨_,((b0.1.1,b0.1.2),(b0.2.1,b0.2.2)),l0 _ rfl,⟨rfl,rfl,trivial⟩,_,hB,h0,j0,t1⟩
 replace hB:=(((hB.st g0).st k0).st v0).st q1
 rintro j4 c1 ⟨k4,l4,rfl,d1,m4,hB,h0,j0,t1⟩
 replace hm:=Bh hm
 refine AN _ d1 ?_
 refine Al (Aj (Ar rfl rfl (Ar rfl rfl (Aw rfl rfl (Aw rfl rfl (Aw rfl rfl (o_z ?_)))))))
 refine AH ?_
 obtain ⟨e1,f1,j0⟩:=j0.freeze
 obtain rfl:=sm hm
 replace hB:=hB.st f1
 replace h0:=h0.st f1
 exact ret3 rfl (AD rfl) (AD rfl) (AD rfl) ⟨hB.ext,_,_,_,rfl,(Vb.mono (F:=Fr 0 c1 e1) h0 hB.out),(Vb.mono (F:=Fr 0 c1 e1) j0 hB.out),(vErr (show inI64 0 from by decide))⟩
end
section
open Go Go.RowKit
attribute [local irreducible] ewp owp hwp hwq hws Ev Evg Fn retPost loud loudS Res1
noncomputable def Ew (x0:Tsk):Option Bool :=
  bnd (if 64 < (x0.vars.length:Int) then (some true) else (if 4096 < (x0.ops.length:Int) then (some true) else (if 64 < (x0.goal.length:Int) then (some true) else (some false))):Option Bool) fun y24=>bnd (rng (ρ:=Bool) (fun (k47:Nat) (a48:Opr) (s45:Bool)=>bnd (if s45=true then (some true) else (if 64 < (a48.pre.length:Int) then (some true) else (if 64 < (a48.effs.length:Int) then (some true) else (some false))):Option Bool) fun y82=>bnd (rng (ρ:=Ctl Bool Bool) (fun (k103:Nat) (a104:Eff) (s101:Bool)=>if s101=true then (some (.next true)) else (if 64 < (a104.cond.length:Int) then (some (.next true)) else (some (.next false)))) a48.effs 0 y82) fun res99=>fin res99 fun (s142:Bool)=>some (.next s142)) x0.ops 0 y24) fun res43=>fin res43 fun (s148:Bool)=>some s148
theorem KI {w:World} {A:Nat→Prop} (hA:∀ k,A k→k < w.heap.size) {vx0:Value} {x0:Tsk} (t1:Vb w A vx0 x0) {r:Bool} (hm:Ew x0=some r) :
    Fn Tryz.prog 41 [vx0] w fun v w'=>Ext w w'∧Vb w' (upA A w w') v r:=by
 obtain ⟨O,hB,b3⟩:=enter hA
 replace t1:=t1.mono b3
 obtain ⟨n4,rfl,v3,v4,v5,v6,rfl,h7,a1,o0,b0⟩:=t1
 obtain ⟨A8,c9,rfl⟩:=h7.form
 obtain ⟨u1,v1,rfl⟩:=a1.form
 obtain ⟨w1,x1,rfl⟩:=o0.form
 obtain ⟨r0,s0,rfl⟩:=b0.form
 refine AL Tryz.func41 rfl Tryz.ntmps41 rfl ?_
 unfold Ew at hm
 refine Al (Aj (BL 2 O rfl rfl fun y1 c3 d3 i0 t0=>?_))
 replace t0:Lc 2 c3 d3 y1 26 [(.slice A8 x0.vars.length c9),(.slice u1 x0.init.length v1),(.slice w1 x0.goal.length x1),(.slice r0 x0.ops.length s0)]:=t0
 refine Aw rfl rfl (o_z ?_)
 refine Al ?_
 obtain ⟨e3,c0,hm⟩:=bs hm
 refine AJ (fun l' w'=>∃ (f3:Unit) (O':Lab),subs l' [(1,(.pointer (some ⟨y1,0,none⟩))),(3,(.bool e3))]∧Bs w A w' O'∧Lc 2 w' O' y1 26 [(.slice A8 x0.vars.length c9),(.slice u1 x0.init.length v1),(.slice w1 x0.goal.length x1),(.slice r0 x0.ops.length s0)]∧Vb w' (Fr 0 w' O') (.slice A8 x0.vars.length c9) x0.vars∧Vb w' (Fr 0 w' O') (.slice u1 x0.init.length v1) x0.init∧Vb w' (Fr 0 w' O') (.slice w1 x0.goal.length x1) x0.goal∧Vb w' (Fr 0 w' O') (.slice r0 x0.ops.length s0) x0.ops) ?_ ?_
 ·
  refine Aj (AK rfl rfl (AF (hc:=Blk.cell (i:=0) (t0.1) rfl) rfl rfl ?_))
  refine AZ rfl rfl ?_
  replace h7:=h7.st i0
  have g3:x0.vars.length≤9223372036854775807:=Nat.le_trans h7.len.2.1 h7.len.2.2
  have o4:inI64 (x0.vars.length:Int):=rngNat g3
  refine Cu rfl rfl rfl (fun z1=>?_) fun z1=>?_
  ·
   replace c0:=ip c0 z1
   refine Ar rfl rfl (At rfl rfl rfl rfl (At rfl rfl rfl rfl (At rfl rfl rfl rfl (At rfl rfl rfl rfl (Bk rfl rfl rfl (Ar rfl rfl (At rfl rfl rfl rfl (At rfl rfl rfl rfl (At rfl rfl rfl rfl (At rfl rfl rfl rfl (Bk rfl rfl rfl (Aw rfl rfl (o_z ?_)))))))))))))
   obtain rfl:=sm c0
   exact ⟨(),_,⟨rfl,rfl,trivial⟩,hB.st i0,t0,h7,a1.st i0,o0.st i0,b0.st i0⟩
  replace c0:=im c0 z1
  refine Ar rfl rfl (Au rfl rfl (AK rfl rfl (Au rfl rfl (AF (hc:=Blk.cell (i:=3) (t0.1) rfl) rfl rfl ?_))))
  refine Au rfl rfl (AZ rfl rfl ?_)
  replace b0:=b0.st i0
  have h3:x0.ops.length≤9223372036854775807:=Nat.le_trans b0.len.2.1 b0.len.2.2
  have p4:inI64 (x0.ops.length:Int):=rngNat h3
  refine Au rfl rfl (Cu rfl rfl rfl (fun a2=>?_) fun a2=>?_)
  ·
   replace c0:=ip c0 a2
   refine Bf rfl rfl rfl (Ar rfl rfl (At rfl rfl rfl rfl (At rfl rfl rfl rfl (At rfl rfl rfl rfl (At rfl rfl rfl rfl (Bk rfl rfl rfl (Aw rfl rfl (o_z ?_))))))))
   obtain rfl:=sm c0
   exact ⟨(),_,⟨rfl,rfl,trivial⟩,hB.st i0,t0,h7,a1.st i0,o0.st i0,b0⟩
  replace c0:=im c0 a2
  refine Bf rfl rfl rfl (Ar rfl rfl (Au rfl rfl (AK rfl rfl (Au rfl rfl (AF (hc:=Blk.cell (i:=2) (t0.1) rfl) rfl rfl ?_)))))
  refine Au rfl rfl (AZ rfl rfl ?_)
  replace o0:=o0.st i0
  have i3:x0.goal.length≤9223372036854775807:=Nat.le_trans o0.len.2.1 o0.len.2.2
  have q4:inI64 (x0.goal.length:Int):=rngNat i3
  refine Au rfl rfl (Cu rfl rfl rfl (fun b2=>?_) fun b2=>?_)
  ·
   replace c0:=ip c0 b2
   refine Bf rfl rfl rfl (Aw rfl rfl (o_z ?_))
   obtain rfl:=sm c0
   exact ⟨(),_,⟨rfl,rfl,trivial⟩,hB.st i0,t0,h7,a1.st i0,o0,b0⟩
  replace c0:=im c0 b2
  refine Bf rfl rfl rfl (Aw rfl rfl (o_z ?_))
  obtain rfl:=sm c0
  exact ⟨(),_,⟨rfl,rfl,trivial⟩,hB.st i0,t0,h7,a1.st i0,o0,b0⟩
 replace hB:=hB.st i0
 replace h7:=h7.st i0
 replace a1:=a1.st i0
 replace o0:=o0.st i0
 replace b0:=b0.st i0
 rintro r4 s4 ⟨f3,j3,c2,hB,t0,h7,a1,o0,b0⟩
 refine AN _ c2 ?_
 refine Al (Al (Aj (AK rfl rfl (AF (hc:=Blk.cell (i:=3) (t0.1) rfl) rfl rfl ?_))))
 refine AZ rfl rfl ?_
 have d2:x0.ops.length≤9223372036854775807:=Nat.le_trans b0.len.2.1 b0.len.2.2
 have t4:inI64 (x0.ops.length:Int):=rngNat d2
 refine Ar rfl rfl (o_z ?_)
 obtain ⟨e1,e2,hm⟩:=bs hm
 refine AJ (aft e1 (fun (c1:Bool) (p1:Unit)=>[(3,(.bool c1))]) (fun c1 p1 w'=>∃ O':Lab,Bs w A w' O')) ?_ ?_
 ·
  refine AX (Bw (σ:=Bool) (X:=Unit) (x0.ops.length) e2 rfl d2 (fun (c1:Bool) (p1:Unit)=>[(3,(.bool c1)),(25,(.slice r0 x0.ops.length s0))]) _ (fun c1 p1 w'=>∃ O':Lab,Bs w A w' O'∧Vb w' (Fr 0 w' O') (.slice r0 x0.ops.length s0) x0.ops) _ () ⟨j3,hB,b0⟩ ⟨rfl,rfl,rfl,rfl,trivial⟩ (fun _ _=>⟨rfl,rfl⟩) (fun _ _=>⟨rfl,trivial⟩) (fun _ _ _ ⟨O',hB,b0⟩=>⟨O',hB⟩) ⟨rfl,rfl,rfl⟩ ⟨rfl,rfl⟩ ?_)
  rintro q1 e0 c1 p1 u4 k3 f1 ⟨l3,hB,b0⟩ l0 f2 g2
  have rk47:inI64 (q1:Int):=rngK f1 d2
  refine Al (Aj ?_)
  obtain ⟨w4,x4,m3,h2,i2,j2,y4,z4,rfl,p0,f0,a5,b5⟩:=b0.elem' f1
  obtain ⟨k2,l2,rfl⟩:=p0.form
  obtain ⟨g1,h1,rfl⟩:=f0.form
  refine BA (hA:=h2) (hj:=rfl) (hlt:=i2) rfl rfl rfl ?_
  refine Bl (hl:=rfl) (hc:=j2) rfl rfl ?_
  refine Bg 3 l3 rfl fun m2 c5 n3 j0 q0=>?_
  refine AT q0 rfl rfl rfl (Bj rfl) (allOne rfl) fun o3 k0 q0=>?_
  replace q0:Lc 3 o3 n3 m2 50 [(.string e0.name),(.int .i64 e0.cost),(.slice k2 e0.pre.length l2),(.slice g1 e0.effs.length h1)]:=q0
  refine o_z ?_
  refine Al ?_
  obtain ⟨p3,d0,l0⟩:=bs l0
  refine AJ (fun l' w'=>∃ (q3:Unit) (O':Lab),subs l' [(3,(.bool p3)),(5,(.pointer (some ⟨m2,0,none⟩))),(25,(.slice r0 x0.ops.length s0)),(26,(.int .i64 (x0.ops.length:Int))),(27,(.int .i64 (q1:Int)))]∧Bs w A w' O'∧Lc 3 w' O' m2 50 [(.string e0.name),(.int .i64 e0.cost),(.slice k2 e0.pre.length l2),(.slice g1 e0.effs.length h1)]∧Vb w' (Fr 0 w' O') (.slice k2 e0.pre.length l2) e0.pre∧Vb w' (Fr 0 w' O') (.slice g1 e0.effs.length h1) e0.effs∧Vb w' (Fr 0 w' O') (.slice r0 x0.ops.length s0) x0.ops) ?_ ?_
  ·
   refine Aj (Ar rfl rfl (Ar rfl rfl ?_))
   rcases Bool.eq_false_or_eq_true c1 with i1|i1
   ·
    try rw [i1]
    replace d0:=ip d0 i1
    refine At rfl rfl rfl rfl (At rfl rfl rfl rfl (At rfl rfl rfl rfl (At rfl rfl rfl rfl (Bk rfl rfl rfl (Ar rfl rfl (At rfl rfl rfl rfl (At rfl rfl rfl rfl (At rfl rfl rfl rfl (At rfl rfl rfl rfl (Bk rfl rfl rfl (Aw rfl rfl (o_z ?_))))))))))))
    obtain rfl:=sm d0
    exact ⟨(),_,⟨rfl,rfl,rfl,rfl,rfl,trivial⟩,(hB.st j0).st k0,q0,(p0.st j0).st k0,(f0.st j0).st k0,(b0.st j0).st k0⟩
   try rw [i1]
   replace d0:=im' d0 i1
   refine Au rfl rfl (AK rfl rfl (Au rfl rfl (AF (hc:=Blk.cell (i:=2) (q0.1) rfl) rfl rfl ?_)))
   refine Au rfl rfl (AZ rfl rfl ?_)
   replace p0:=(p0.st j0).st k0
   have r3:e0.pre.length≤9223372036854775807:=Nat.le_trans p0.len.2.1 p0.len.2.2
   have d5:inI64 (e0.pre.length:Int):=rngNat r3
   refine Au rfl rfl (Cu rfl rfl rfl (fun n2=>?_) fun n2=>?_)
   ·
    replace d0:=ip d0 n2
    refine Bf rfl rfl rfl (Ar rfl rfl (At rfl rfl rfl rfl (At rfl rfl rfl rfl (At rfl rfl rfl rfl (At rfl rfl rfl rfl (Bk rfl rfl rfl (Aw rfl rfl (o_z ?_))))))))
    obtain rfl:=sm d0
    exact ⟨(),_,⟨rfl,rfl,rfl,rfl,rfl,trivial⟩,(hB.st j0).st k0,q0,p0,(f0.st j0).st k0,(b0.st j0).st k0⟩
   replace d0:=im d0 n2
   refine Bf rfl rfl rfl (Ar rfl rfl (Au rfl rfl (AK rfl rfl (Au rfl rfl (AF (hc:=Blk.cell (i:=3) (q0.1) rfl) rfl rfl ?_)))))
   refine Au rfl rfl (AZ rfl rfl ?_)
   replace f0:=(f0.st j0).st k0
   have s3:e0.effs.length≤9223372036854775807:=Nat.le_trans f0.len.2.1 f0.len.2.2
   have e5:inI64 (e0.effs.length:Int):=rngNat s3
   refine Au rfl rfl (Cu rfl rfl rfl (fun o2=>?_) fun o2=>?_)
   ·
    replace d0:=ip d0 o2
    refine Bf rfl rfl rfl (Aw rfl rfl (o_z ?_))
    obtain rfl:=sm d0
    exact ⟨(),_,⟨rfl,rfl,rfl,rfl,rfl,trivial⟩,(hB.st j0).st k0,q0,p0,f0,(b0.st j0).st k0⟩
   replace d0:=im d0 o2
   refine Bf rfl rfl rfl (Aw rfl rfl (o_z ?_))
   obtain rfl:=sm d0
   exact ⟨(),_,⟨rfl,rfl,rfl,rfl,rfl,trivial⟩,(hB.st j0).st k0,q0,p0,f0,(b0.st j0).st k0⟩
  replace hB:=(hB.st j0).st k0
  replace b0:=(b0.st j0).st k0
  replace p0:=(p0.st j0).st k0
  replace f0:=(f0.st j0).st k0
  rintro f5 g5 ⟨q3,t3,p2,hB,q0,p0,f0,b0⟩
  refine AN _ p2 ?_
  refine Al (Aj (AK rfl rfl (AF (hc:=Blk.cell (i:=3) (q0.1) rfl) rfl rfl ?_)))
  refine AZ rfl rfl ?_
  have q2:e0.effs.length≤9223372036854775807:=Nat.le_trans f0.len.2.1 f0.len.2.2
  have h5:inI64 (e0.effs.length:Int):=rngNat q2
  refine Ar rfl rfl (o_z ?_)
  obtain ⟨j1,k1,l0⟩:=bs l0
  refine AJ (aft j1 (fun (m0:Bool) (z0:Unit)=>[(3,(.bool m0)),(25,(.slice r0 x0.ops.length s0)),(26,(.int .i64 (x0.ops.length:Int))),(27,(.int .i64 (q1:Int)))]) (fun m0 z0 w'=>∃ O':Lab,Bs w A w' O'∧Vb w' (Fr 0 w' O') (.slice r0 x0.ops.length s0) x0.ops)) ?_ ?_
  ·
   refine AX (Bw (σ:=Bool) (X:=Unit) (e0.effs.length) k1 rfl q2 (fun (m0:Bool) (z0:Unit)=>[(3,(.bool m0)),(25,(.slice r0 x0.ops.length s0)),(26,(.int .i64 (x0.ops.length:Int))),(27,(.int .i64 (q1:Int))),(45,(.slice g1 e0.effs.length h1))]) _ (fun m0 z0 w'=>∃ O':Lab,Bs w A w' O'∧Vb w' (Fr 0 w' O') (.slice r0 x0.ops.length s0) x0.ops∧Vb w' (Fr 0 w' O') (.slice g1 e0.effs.length h1) e0.effs) _ () ⟨t3,hB,b0,f0⟩ ⟨rfl,rfl,rfl,rfl,rfl,rfl,rfl,trivial⟩ (fun _ _=>⟨rfl,rfl⟩) (fun _ _=>⟨rfl,rfl,rfl,rfl,trivial⟩) (fun _ _ _ ⟨O',hB,b0,f0⟩=>⟨O',hB,b0⟩) ⟨rfl,rfl,rfl⟩ ⟨rfl,rfl⟩ ?_)
   rintro r2 u0 m0 z0 u3 z2 b1 ⟨s2,hB,b0,f0⟩ a0 r1 s1
   have rk103:inI64 (r2:Int):=rngK b1 q2
   refine Al (Aj ?_)
   obtain ⟨w3,x3,a3,l1,m1,n1,y3,rfl,v0,z3,a4⟩:=f0.elem' b1
   obtain ⟨t2,u2,rfl⟩:=v0.form
   refine BA (hA:=l1) (hj:=rfl) (hlt:=m1) rfl rfl rfl ?_
   refine Bl (hl:=rfl) (hc:=n1) rfl rfl ?_
   refine Bg 4 s2 rfl fun v2 b4 w2 g0 w0=>?_
   refine AT w0 rfl rfl rfl (Bj rfl) (allOne rfl) fun x2 h0 w0=>?_
   replace w0:Lc 4 x2 w2 v2 47 [(.slice t2 u0.cond.length u2),(.int .i64 u0.var),(.int .i64 u0.val)]:=w0
   refine o_z ?_
   refine Aj (Ar rfl rfl (Ar rfl rfl ?_))
   rcases Bool.eq_false_or_eq_true m0 with y0|y0
   ·
    try rw [y0]
    replace a0:=ip a0 y0
    refine At rfl rfl rfl rfl (At rfl rfl rfl rfl (At rfl rfl rfl rfl (At rfl rfl rfl rfl (Bk rfl rfl rfl (Aw rfl rfl (o_z ?_))))))
    obtain rfl:=sm a0
    exact show Exists _ from ⟨_,(),rfl,⟨rfl,rfl,rfl,rfl,rfl,rfl,rfl,trivial⟩,_,(hB.st g0).st h0,(b0.st g0).st h0,(f0.st g0).st h0⟩
   try rw [y0]
   replace a0:=im' a0 y0
   refine Au rfl rfl (AK rfl rfl (Au rfl rfl (AF (hc:=Blk.cell (i:=0) (w0.1) rfl) rfl rfl ?_)))
   refine Au rfl rfl (AZ rfl rfl ?_)
   replace v0:=(v0.st g0).st h0
   have y2:u0.cond.length≤9223372036854775807:=Nat.le_trans v0.len.2.1 v0.len.2.2
   have c4:inI64 (u0.cond.length:Int):=rngNat y2
   refine Au rfl rfl (Cu rfl rfl rfl (fun d1=>?_) fun d1=>?_)
   ·
    replace a0:=ip a0 d1
    refine Bf rfl rfl rfl (Aw rfl rfl (o_z ?_))
    obtain rfl:=sm a0
    exact show Exists _ from ⟨_,(),rfl,⟨rfl,rfl,rfl,rfl,rfl,rfl,rfl,trivial⟩,_,(hB.st g0).st h0,(b0.st g0).st h0,(f0.st g0).st h0⟩
   replace a0:=im a0 d1
   refine Bf rfl rfl rfl (Aw rfl rfl (o_z ?_))
   obtain rfl:=sm a0
   exact show Exists _ from ⟨_,(),rfl,⟨rfl,rfl,rfl,rfl,rfl,rfl,rfl,trivial⟩,_,(hB.st g0).st h0,(b0.st g0).st h0,(f0.st g0).st h0⟩
  rintro d4 e4 ⟨f4,g4,rfl,n0,h4,hB,b0⟩
  replace l0:=Bh l0
  obtain rfl:=sm l0
  exact show Exists _ from ⟨_,(),rfl,⟨(BV n0 _ _ rfl),(BV n0 _ _ rfl),(BV n0 _ _ rfl),(BV n0 _ _ rfl),trivial⟩,_,hB,b0⟩
 rintro i4 j4 ⟨k4,l4,rfl,o1,m4,hB⟩
 replace hm:=Bh hm
 refine AN _ o1 ?_
 refine Al (Aj (Ar rfl rfl (Aw rfl rfl (o_z ?_))))
 refine AH ?_
 obtain rfl:=sm hm
 exact ret1v rfl (AD rfl) ⟨hB.ext,vBool⟩
noncomputable def DN (x0:Tsk):Option Bool :=
  bnd (rng (ρ:=Bool) (fun (k30:Nat) (a31:Int) (s28:Bool)=>if s28=true then (some (.next true)) else (if a31 < 1 then (some (.next true)) else (if 64 < a31 then (some (.next true)) else (some (.next false))))) x0.vars 0 false) fun res26=>fin res26 fun (s56:Bool)=>bnd (rng (ρ:=Bool) (fun (k64:Nat) (a65:Opr) (s62:Bool)=>if s62=true then (some (.next true)) else (if a65.cost < 0 then (some (.next true)) else (if 1048576 < a65.cost then (some (.next true)) else (some (.next false))))) x0.ops 0 s56) fun res60=>fin res60 fun (s106:Bool)=>some s106
theorem JG {w:World} {A:Nat→Prop} (hA:∀ k,A k→k < w.heap.size) {vx0:Value} {x0:Tsk} (g1:Vb w A vx0 x0) {r:Bool} (hm:DN x0=some r) :
    Fn Tryz.prog 42 [vx0] w fun v w'=>Ext w w'∧Vb w' (upA A w w') v r:=by
 obtain ⟨O,hB,z1⟩:=enter hA
 replace g1:=g1.mono z1
 obtain ⟨x2,rfl,v3,v4,v5,v6,rfl,h7,d0,e0,c0⟩:=g1
 obtain ⟨A8,c9,rfl⟩:=h7.form
 obtain ⟨q0,r0,rfl⟩:=d0.form
 obtain ⟨s0,t0,rfl⟩:=e0.form
 obtain ⟨j0,k0,rfl⟩:=c0.form
 refine AL Tryz.func42 rfl Tryz.ntmps42 rfl ?_
 unfold DN at hm
 refine Al (Aj (BL 2 O rfl rfl fun u0 a2 y1 g0 f0=>?_))
 replace f0:Lc 2 a2 y1 u0 26 [(.slice A8 x0.vars.length c9),(.slice q0 x0.init.length r0),(.slice s0 x0.goal.length t0),(.slice j0 x0.ops.length k0)]:=f0
 refine Aw rfl rfl (o_z ?_)
 refine Al (Aj (Aw rfl rfl (o_z ?_)))
 refine Al (Al (Aj (AK rfl rfl (AF (hc:=Blk.cell (i:=0) (f0.1) rfl) rfl rfl ?_))))
 refine AZ rfl rfl ?_
 replace h7:=h7.st g0
 have h1:x0.vars.length≤9223372036854775807:=Nat.le_trans h7.len.2.1 h7.len.2.2
 have y2:inI64 (x0.vars.length:Int):=rngNat h1
 refine Ar rfl rfl (o_z ?_)
 obtain ⟨v0,i1,hm⟩:=bs hm
 refine AJ (aft v0 (fun (l0:Bool) (d1:Unit)=>[(1,(.pointer (some ⟨u0,0,none⟩))),(3,(.bool l0))]) (fun l0 d1 w'=>∃ O':Lab,Bs w A w' O'∧Lc 2 w' O' u0 26 [(.slice A8 x0.vars.length c9),(.slice q0 x0.init.length r0),(.slice s0 x0.goal.length t0),(.slice j0 x0.ops.length k0)]∧Vb w' (Fr 0 w' O') (.slice A8 x0.vars.length c9) x0.vars∧Vb w' (Fr 0 w' O') (.slice q0 x0.init.length r0) x0.init∧Vb w' (Fr 0 w' O') (.slice s0 x0.goal.length t0) x0.goal∧Vb w' (Fr 0 w' O') (.slice j0 x0.ops.length k0) x0.ops)) ?_ ?_
 ·
  refine AX ?_
  replace hB:=hB.st g0
  replace d0:=d0.st g0
  replace e0:=e0.st g0
  replace c0:=c0.st g0
  refine Bw (σ:=Bool) (X:=Unit) (x0.vars.length) i1 rfl h1 (fun (l0:Bool) (d1:Unit)=>[(1,(.pointer (some ⟨u0,0,none⟩))),(3,(.bool l0)),(9,(.slice A8 x0.vars.length c9))]) _ (fun l0 d1 w'=>∃ O':Lab,Bs w A w' O'∧Lc 2 w' O' u0 26 [(.slice A8 x0.vars.length c9),(.slice q0 x0.init.length r0),(.slice s0 x0.goal.length t0),(.slice j0 x0.ops.length k0)]∧Vb w' (Fr 0 w' O') (.slice A8 x0.vars.length c9) x0.vars∧Vb w' (Fr 0 w' O') (.slice q0 x0.init.length r0) x0.init∧Vb w' (Fr 0 w' O') (.slice s0 x0.goal.length t0) x0.goal∧Vb w' (Fr 0 w' O') (.slice j0 x0.ops.length k0) x0.ops) _ () ⟨y1,hB,f0,h7,d0,e0,c0⟩ ⟨rfl,rfl,rfl,rfl,rfl,trivial⟩ (fun _ _=>⟨rfl,rfl⟩) (fun _ _=>⟨rfl,rfl,trivial⟩) (fun _ _ _ ⟨O',hB,f0,h7,d0,e0,c0⟩=>⟨O',hB,f0,h7,d0,e0,c0⟩) ⟨rfl,rfl,rfl⟩ ⟨rfl,rfl⟩ ?_
  rintro b2 z2 l0 d1 a3 c2 w0 ⟨b3,hB,f0,h7,d0,e0,c0⟩ a0 j1 k1
  have rk30:inI64 (b2:Int):=rngK w0 h1
  refine Al (Aj ?_)
  obtain ⟨c3,d3,d2,l1,m1,n1,rfl,e3⟩:=h7.elem' w0
  refine BA (hA:=l1) (hj:=rfl) (hlt:=m1) rfl rfl rfl ?_
  refine AF (hc:=cat0 n1) rfl rfl ?_
  refine Aw rfl rfl (o_z ?_)
  refine Aj (Ar rfl rfl (Ar rfl rfl ?_))
  rcases Bool.eq_false_or_eq_true l0 with y0|y0
  ·
   try rw [y0]
   replace a0:=ip a0 y0
   refine At rfl rfl rfl rfl (At rfl rfl rfl rfl (Bk rfl rfl rfl (Ar rfl rfl (At rfl rfl rfl rfl (At rfl rfl rfl rfl (Bk rfl rfl rfl (Aw rfl rfl (o_z ?_))))))))
   obtain rfl:=sm a0
   exact show Exists _ from ⟨_,(),rfl,⟨rfl,rfl,rfl,rfl,rfl,trivial⟩,_,hB,f0,h7,d0,e0,c0⟩
  try rw [y0]
  replace a0:=im' a0 y0
  refine Au rfl rfl (Ar rfl rfl (Au rfl rfl (Dg rfl rfl rfl (fun o1=>?_) fun o1=>?_)))
  ·
   replace a0:=ip a0 o1
   refine Bf rfl rfl rfl (Ar rfl rfl (At rfl rfl rfl rfl (At rfl rfl rfl rfl (Bk rfl rfl rfl (Aw rfl rfl (o_z ?_))))))
   obtain rfl:=sm a0
   exact show Exists _ from ⟨_,(),rfl,⟨rfl,rfl,rfl,rfl,rfl,trivial⟩,_,hB,f0,h7,d0,e0,c0⟩
  replace a0:=im a0 o1
  refine Bf rfl rfl rfl (Ar rfl rfl (Au rfl rfl (Ar rfl rfl (Au rfl rfl (Cu rfl rfl rfl (fun p1=>?_) fun p1=>?_)))))
  ·
   replace a0:=ip a0 p1
   refine Bf rfl rfl rfl (Aw rfl rfl (o_z ?_))
   obtain rfl:=sm a0
   exact show Exists _ from ⟨_,(),rfl,⟨rfl,rfl,rfl,rfl,rfl,trivial⟩,_,hB,f0,h7,d0,e0,c0⟩
  replace a0:=im a0 p1
  refine Bf rfl rfl rfl (Aw rfl rfl (o_z ?_))
  obtain rfl:=sm a0
  exact show Exists _ from ⟨_,(),rfl,⟨rfl,rfl,rfl,rfl,rfl,trivial⟩,_,hB,f0,h7,d0,e0,c0⟩
 replace hB:=hB.st g0
 replace d0:=d0.st g0
 replace e0:=e0.st g0
 replace c0:=c0.st g0
 rintro f3 g3 ⟨h3,i3,rfl,q1,e2,hB,f0,h7,d0,e0,c0⟩
 replace hm:=Bh hm
 refine AN _ q1 ?_
 refine Al (Al (Aj (AK rfl rfl (AF (hc:=Blk.cell (i:=3) (f0.1) rfl) rfl rfl ?_))))
 refine AZ rfl rfl ?_
 have r1:x0.ops.length≤9223372036854775807:=Nat.le_trans c0.len.2.1 c0.len.2.2
 have j3:inI64 (x0.ops.length:Int):=rngNat r1
 refine Ar rfl rfl (o_z ?_)
 obtain ⟨z0,s1,hm⟩:=bs hm
 refine AJ (aft z0 (fun (m0:Bool) (e1:Unit)=>[(3,(.bool m0))]) (fun m0 e1 w'=>∃ O':Lab,Bs w A w' O')) ?_ ?_
 ·
  refine AX (Bw (σ:=Bool) (X:=Unit) (x0.ops.length) s1 rfl r1 (fun (m0:Bool) (e1:Unit)=>[(3,(.bool m0)),(26,(.slice j0 x0.ops.length k0))]) _ (fun m0 e1 w'=>∃ O':Lab,Bs w A w' O'∧Vb w' (Fr 0 w' O') (.slice j0 x0.ops.length k0) x0.ops) _ () ⟨e2,hB,c0⟩ ⟨rfl,rfl,rfl,rfl,trivial⟩ (fun _ _=>⟨rfl,rfl⟩) (fun _ _=>⟨rfl,trivial⟩) (fun _ _ _ ⟨O',hB,c0⟩=>⟨O',hB⟩) ⟨rfl,rfl,rfl⟩ ⟨rfl,rfl⟩ ?_)
  rintro f2 f1 m0 e1 k3 g2 a1 ⟨h2,hB,c0⟩ b0 t1 u1
  have rk64:inI64 (f2:Int):=rngK a1 r1
  refine Al (Aj ?_)
  obtain ⟨l3,m3,i2,v1,w1,x1,n3,o3,rfl,j2,k2,p3,q3⟩:=c0.elem' a1
  obtain ⟨l2,m2,rfl⟩:=j2.form
  obtain ⟨n2,o2,rfl⟩:=k2.form
  refine BA (hA:=v1) (hj:=rfl) (hlt:=w1) rfl rfl rfl ?_
  refine Bl (hl:=rfl) (hc:=x1) rfl rfl ?_
  refine Bg 3 h2 rfl fun p2 r3 q2 h0 p0=>?_
  refine AT p0 rfl rfl rfl (Bj rfl) (allOne rfl) fun r2 i0 p0=>?_
  replace p0:Lc 3 r2 q2 p2 50 [(.string f1.name),(.int .i64 f1.cost),(.slice l2 f1.pre.length m2),(.slice n2 f1.effs.length o2)]:=p0
  refine o_z ?_
  refine Aj (Ar rfl rfl (Ar rfl rfl ?_))
  rcases Bool.eq_false_or_eq_true m0 with b1|b1
  ·
   try rw [b1]
   replace b0:=ip b0 b1
   refine At rfl rfl rfl rfl (At rfl rfl rfl rfl (At rfl rfl rfl rfl (Bk rfl rfl rfl (Ar rfl rfl (At rfl rfl rfl rfl (At rfl rfl rfl rfl (At rfl rfl rfl rfl (Bk rfl rfl rfl (Aw rfl rfl (o_z ?_))))))))))
   obtain rfl:=sm b0
   exact show Exists _ from ⟨_,(),rfl,⟨rfl,rfl,rfl,rfl,trivial⟩,_,(hB.st h0).st i0,(c0.st h0).st i0⟩
  try rw [b1]
  replace b0:=im' b0 b1
  refine Au rfl rfl (AK rfl rfl (Au rfl rfl (AF (hc:=Blk.cell (i:=1) (p0.1) rfl) rfl rfl ?_)))
  refine Au rfl rfl (Dg rfl rfl rfl (fun n0=>?_) fun n0=>?_)
  ·
   replace b0:=ip b0 n0
   refine Bf rfl rfl rfl (Ar rfl rfl (At rfl rfl rfl rfl (At rfl rfl rfl rfl (At rfl rfl rfl rfl (Bk rfl rfl rfl (Aw rfl rfl (o_z ?_)))))))
   obtain rfl:=sm b0
   exact show Exists _ from ⟨_,(),rfl,⟨rfl,rfl,rfl,rfl,trivial⟩,_,(hB.st h0).st i0,(c0.st h0).st i0⟩
  replace b0:=im b0 n0
  refine Bf rfl rfl rfl (Ar rfl rfl (Au rfl rfl (AK rfl rfl (Au rfl rfl (AF (hc:=Blk.cell (i:=1) (p0.1) rfl) rfl rfl ?_)))))
  refine Au rfl rfl (Cu rfl rfl rfl (fun o0=>?_) fun o0=>?_)
  ·
   replace b0:=ip b0 o0
   refine Bf rfl rfl rfl (Aw rfl rfl (o_z ?_))
   obtain rfl:=sm b0
   exact show Exists _ from ⟨_,(),rfl,⟨rfl,rfl,rfl,rfl,trivial⟩,_,(hB.st h0).st i0,(c0.st h0).st i0⟩
  replace b0:=im b0 o0
  refine Bf rfl rfl rfl (Aw rfl rfl (o_z ?_))
  obtain rfl:=sm b0
  exact show Exists _ from ⟨_,(),rfl,⟨rfl,rfl,rfl,rfl,trivial⟩,_,(hB.st h0).st i0,(c0.st h0).st i0⟩
 rintro s2 t2 ⟨u2,v2,rfl,c1,w2,hB⟩
 replace hm:=Bh hm
 refine AN _ c1 ?_
 refine Al (Aj (Ar rfl rfl (Aw rfl rfl (o_z ?_))))
 refine AH ?_
 obtain rfl:=sm hm
 exact ret1v rfl (AD rfl) ⟨hB.ext,vBool⟩
noncomputable def Dq (x0:Tsk):Option Bool :=
  bnd (bnd (Gv x0.vars x0.init) fun q28=>if q28=true then bnd (DE x0.vars x0.goal) fun q35=>if q35=true then some false else some true else some true:Option Bool) fun y24=>bnd (rng (ρ:=Bool) (fun (k52:Nat) (a53:Opr) (s50:Bool)=>bnd (if s50=true then (some true) else (bnd (DE x0.vars a53.pre) fun q92=>if q92=true then some false else some true):Option Bool) fun y87=>bnd (rng (ρ:=Ctl Bool Bool) (fun (k109:Nat) (a110:Eff) (s107:Bool)=>if s107=true then (some (.next true)) else (bnd (DE x0.vars a110.cond) fun q141=>if q141=true then bnd (DE x0.vars [(⟨a110.var,a110.val⟩:Fct)]) fun q154=>if q154=true then some (.next false) else some (.next true) else some (.next true))) a53.effs 0 y87) fun res105=>fin res105 fun (s165:Bool)=>some (.next s165)) x0.ops 0 y24) fun res48=>fin res48 fun (s171:Bool)=>some s171
theorem ID {w:World} {A:Nat→Prop} (hA:∀ k,A k→k < w.heap.size) {vx0:Value} {x0:Tsk} (p2:Vb w A vx0 x0) {r:Bool} (hm:Dq x0=some r) :
    Fn Tryz.prog 43 [vx0] w fun v w'=>Ext w w'∧Vb w' (upA A w w') v r:=by
 obtain ⟨O,hB,x3⟩:=enter hA
 replace p2:=p2.mono x3
 obtain ⟨k5,rfl,v3,v4,v5,v6,rfl,h7,g0,h0,i0⟩:=p2
 obtain ⟨A8,c9,rfl⟩:=h7.form
 obtain ⟨c1,d1,rfl⟩:=g0.form
 obtain ⟨e1,f1,rfl⟩:=h0.form
 obtain ⟨u0,v0,rfl⟩:=i0.form
 refine AL Tryz.func43 rfl Tryz.ntmps43 rfl ?_
 unfold Dq at hm
 refine Al (Aj (BL 2 O rfl rfl fun g1 h2 i2 w0 d0=>?_))
 replace d0:Lc 2 h2 i2 g1 26 [(.slice A8 x0.vars.length c9),(.slice c1 x0.init.length d1),(.slice e1 x0.goal.length f1),(.slice u0 x0.ops.length v0)]:=d0
 refine Aw rfl rfl (o_z ?_)
 refine Al ?_
 obtain ⟨y3,f0,hm⟩:=bs hm
 refine AJ (fun l' w'=>∃ (z3:Unit) (O':Lab),subs l' [(1,(.pointer (some ⟨g1,0,none⟩))),(3,(.bool y3))]∧Bs w A w' O'∧Lc 2 w' O' g1 26 [(.slice A8 x0.vars.length c9),(.slice c1 x0.init.length d1),(.slice e1 x0.goal.length f1),(.slice u0 x0.ops.length v0)]∧Vb w' (Fr 0 w' O') (.slice A8 x0.vars.length c9) x0.vars∧Vb w' (Fr 0 w' O') (.slice c1 x0.init.length d1) x0.init∧Vb w' (Fr 0 w' O') (.slice e1 x0.goal.length f1) x0.goal∧Vb w' (Fr 0 w' O') (.slice u0 x0.ops.length v0) x0.ops) ?_ ?_
 ·
  refine Aj (AK rfl rfl (AF (hc:=Blk.cell (i:=0) (d0.1) rfl) rfl rfl ?_))
  refine AK rfl rfl (AF (hc:=Blk.cell (i:=1) (d0.1) rfl) rfl rfl ?_)
  obtain ⟨r3,a4,f0⟩:=bs f0
  replace h7:=h7.st w0
  replace g0:=g0.st w0
  refine Bi (O:=i2) (A:=All h2) (R:=fun w' F v=>Vb w' F v r3) (Lk (fun _ h=>h) (Vb.mono (F:=Fr 0 h2 i2) h7 Fr.lt) (Vb.mono (F:=Fr 0 h2 i2) g0 Fr.lt) a4) rfl rfl fun l5 q2 r2 y0 b4=>?_
  obtain rfl:=b4.bool
  cases r3
  case false =>
   replace f0:=iF f0
   refine Ce rfl rfl (Ar rfl rfl (At rfl rfl rfl rfl (At rfl rfl rfl rfl (At rfl rfl rfl rfl (At rfl rfl rfl rfl (At rfl rfl rfl rfl (At rfl rfl rfl rfl (Bk rfl rfl rfl (Aw rfl rfl (o_z ?_))))))))))
   obtain rfl:=sm f0
   exact ⟨(),_,⟨rfl,rfl,trivial⟩,(hB.st w0).st y0,d0.st y0,h7.st y0,g0.st y0,(h0.st w0).st y0,(i0.st w0).st y0⟩
  replace f0:=iT f0
  refine Cd rfl rfl (Ar rfl rfl (Au rfl rfl (AK rfl rfl (Au rfl rfl ?_))))
  replace d0:=d0.st y0
  refine AF (hc:=Blk.cell (i:=0) (d0.1) rfl) rfl rfl ?_
  refine Au rfl rfl (AK rfl rfl (Au rfl rfl (AF (hc:=Blk.cell (i:=2) (d0.1) rfl) rfl rfl ?_)))
  refine Au rfl rfl ?_
  obtain ⟨s3,c4,f0⟩:=bs f0
  replace h7:=h7.st y0
  replace h0:=(h0.st w0).st y0
  refine Bi (O:=r2) (A:=All q2) (R:=fun w' F v=>Vb w' F v s3) (Fd (fun _ h=>h) (Vb.mono (F:=Fr 0 q2 r2) h7 Fr.lt) (Vb.mono (F:=Fr 0 q2 r2) h0 Fr.lt) c4) rfl rfl fun m5 n5 o5 b1 d4=>?_
  obtain rfl:=d4.bool
  cases s3
  case false =>
   replace f0:=iF f0
   refine Au rfl rfl (Ce rfl rfl (Bf rfl rfl rfl (Aw rfl rfl (o_z ?_))))
   obtain rfl:=sm f0
   exact ⟨(),_,⟨rfl,rfl,trivial⟩,((hB.st w0).st y0).st b1,d0.st b1,h7.st b1,(g0.st y0).st b1,h0.st b1,((i0.st w0).st y0).st b1⟩
  replace f0:=iT f0
  refine Au rfl rfl (Cd rfl rfl (Bf rfl rfl rfl (Aw rfl rfl (o_z ?_))))
  obtain rfl:=sm f0
  exact ⟨(),_,⟨rfl,rfl,trivial⟩,((hB.st w0).st y0).st b1,d0.st b1,h7.st b1,(g0.st y0).st b1,h0.st b1,((i0.st w0).st y0).st b1⟩
 replace hB:=hB.st w0
 replace h7:=h7.st w0
 replace g0:=g0.st w0
 replace h0:=h0.st w0
 replace i0:=i0.st w0
 rintro p5 q5 ⟨z3,e4,s2,hB,d0,h7,g0,h0,i0⟩
 refine AN _ s2 ?_
 refine Al (Al (Aj (AK rfl rfl (AF (hc:=Blk.cell (i:=3) (d0.1) rfl) rfl rfl ?_))))
 refine AZ rfl rfl ?_
 have t2:x0.ops.length≤9223372036854775807:=Nat.le_trans i0.len.2.1 i0.len.2.2
 have r5:inI64 (x0.ops.length:Int):=rngNat t2
 refine Ar rfl rfl (o_z ?_)
 obtain ⟨s1,u2,hm⟩:=bs hm
 refine AJ (aft s1 (fun (p1:Bool) (j2:Unit)=>[(3,(.bool p1))]) (fun p1 j2 w'=>∃ O':Lab,Bs w A w' O')) ?_ ?_
 ·
  refine AX (Bw (σ:=Bool) (X:=Unit) (x0.ops.length) u2 rfl t2 (fun (p1:Bool) (j2:Unit)=>[(1,(.pointer (some ⟨g1,0,none⟩))),(3,(.bool p1)),(23,(.slice u0 x0.ops.length v0))]) _ (fun p1 j2 w'=>∃ O':Lab,Bs w A w' O'∧Lc 2 w' O' g1 26 [(.slice A8 x0.vars.length c9),(.slice c1 x0.init.length d1),(.slice e1 x0.goal.length f1),(.slice u0 x0.ops.length v0)]∧Vb w' (Fr 0 w' O') (.slice A8 x0.vars.length c9) x0.vars∧Vb w' (Fr 0 w' O') (.slice c1 x0.init.length d1) x0.init∧Vb w' (Fr 0 w' O') (.slice e1 x0.goal.length f1) x0.goal∧Vb w' (Fr 0 w' O') (.slice u0 x0.ops.length v0) x0.ops) _ () ⟨e4,hB,d0,h7,g0,h0,i0⟩ ⟨rfl,rfl,rfl,rfl,rfl,trivial⟩ (fun _ _=>⟨rfl,rfl⟩) (fun _ _=>⟨rfl,trivial⟩) (fun _ _ _ ⟨O',hB,d0,h7,g0,h0,i0⟩=>⟨O',hB⟩) ⟨rfl,rfl,rfl⟩ ⟨rfl,rfl⟩ ?_)
  rintro k2 q0 p1 j2 s5 f4 t1 ⟨g4,hB,d0,h7,g0,h0,i0⟩ z0 v2 w2
  have rk52:inI64 (k2:Int):=rngK t1 t2
  refine Al (Aj ?_)
  obtain ⟨t5,u5,h4,x2,y2,z2,w5,x5,rfl,i1,s0,y5,z5⟩:=i0.elem' t1
  obtain ⟨a3,b3,rfl⟩:=i1.form
  obtain ⟨u1,v1,rfl⟩:=s0.form
  refine BA (hA:=x2) (hj:=rfl) (hlt:=y2) rfl rfl rfl ?_
  refine Bl (hl:=rfl) (hc:=z2) rfl rfl ?_
  refine Bg 3 g4 rfl fun c3 a6 l2 j0 j1=>?_
  refine AT j1 rfl rfl rfl (Bj rfl) (allOne rfl) fun m2 k0 j1=>?_
  replace j1:Lc 3 m2 l2 c3 50 [(.string q0.name),(.int .i64 q0.cost),(.slice a3 q0.pre.length b3),(.slice u1 q0.effs.length v1)]:=j1
  refine o_z ?_
  refine Al ?_
  obtain ⟨i4,m0,z0⟩:=bs z0
  refine AJ (fun l' w'=>∃ (j4:Unit) (O':Lab),subs l' [(1,(.pointer (some ⟨g1,0,none⟩))),(3,(.bool i4)),(5,(.pointer (some ⟨c3,0,none⟩))),(23,(.slice u0 x0.ops.length v0)),(24,(.int .i64 (x0.ops.length:Int))),(25,(.int .i64 (k2:Int)))]∧Bs w A w' O'∧Lc 2 w' O' g1 26 [(.slice A8 x0.vars.length c9),(.slice c1 x0.init.length d1),(.slice e1 x0.goal.length f1),(.slice u0 x0.ops.length v0)]∧Vb w' (Fr 0 w' O') (.slice A8 x0.vars.length c9) x0.vars∧Vb w' (Fr 0 w' O') (.slice c1 x0.init.length d1) x0.init∧Vb w' (Fr 0 w' O') (.slice e1 x0.goal.length f1) x0.goal∧Vb w' (Fr 0 w' O') (.slice u0 x0.ops.length v0) x0.ops∧Lc 3 w' O' c3 50 [(.string q0.name),(.int .i64 q0.cost),(.slice a3 q0.pre.length b3),(.slice u1 q0.effs.length v1)]∧Vb w' (Fr 0 w' O') (.slice a3 q0.pre.length b3) q0.pre∧Vb w' (Fr 0 w' O') (.slice u1 q0.effs.length v1) q0.effs) ?_ ?_
  ·
   refine Aj (Ar rfl rfl (Ar rfl rfl ?_))
   rcases Bool.eq_false_or_eq_true p1 with w1|w1
   ·
    try rw [w1]
    replace m0:=ip m0 w1
    refine At rfl rfl rfl rfl (At rfl rfl rfl rfl (At rfl rfl rfl rfl (At rfl rfl rfl rfl (At rfl rfl rfl rfl (At rfl rfl rfl rfl (Bk rfl rfl rfl (Aw rfl rfl (o_z ?_))))))))
    obtain rfl:=sm m0
    exact ⟨(),_,⟨rfl,rfl,rfl,rfl,rfl,rfl,trivial⟩,(hB.st j0).st k0,(d0.st j0).st k0,(h7.st j0).st k0,(g0.st j0).st k0,(h0.st j0).st k0,(i0.st j0).st k0,j1,(i1.st j0).st k0,(s0.st j0).st k0⟩
   try rw [w1]
   replace m0:=im' m0 w1
   refine Au rfl rfl (AK rfl rfl (Au rfl rfl ?_))
   replace d0:=(d0.st j0).st k0
   refine AF (hc:=Blk.cell (i:=0) (d0.1) rfl) rfl rfl ?_
   refine Au rfl rfl (AK rfl rfl (Au rfl rfl (AF (hc:=Blk.cell (i:=2) (j1.1) rfl) rfl rfl ?_)))
   refine Au rfl rfl ?_
   obtain ⟨t3,k4,m0⟩:=bs m0
   replace h7:=(h7.st j0).st k0
   replace i1:=(i1.st j0).st k0
   refine Bi (O:=l2) (A:=All m2) (R:=fun w' F v=>Vb w' F v t3) (Fd (fun _ h=>h) (Vb.mono (F:=Fr 0 m2 l2) h7 Fr.lt) (Vb.mono (F:=Fr 0 m2 l2) i1 Fr.lt) k4) rfl rfl fun b6 c6 d6 r0 l4=>?_
   obtain rfl:=l4.bool
   cases t3
   case false =>
    replace m0:=iF m0
    refine Au rfl rfl (Ce rfl rfl (Bf rfl rfl rfl (Aw rfl rfl (o_z ?_))))
    obtain rfl:=sm m0
    exact ⟨(),_,⟨rfl,rfl,rfl,rfl,rfl,rfl,trivial⟩,((hB.st j0).st k0).st r0,d0.st r0,h7.st r0,((g0.st j0).st k0).st r0,((h0.st j0).st k0).st r0,((i0.st j0).st k0).st r0,j1.st r0,i1.st r0,((s0.st j0).st k0).st r0⟩
   replace m0:=iT m0
   refine Au rfl rfl (Cd rfl rfl (Bf rfl rfl rfl (Aw rfl rfl (o_z ?_))))
   obtain rfl:=sm m0
   exact ⟨(),_,⟨rfl,rfl,rfl,rfl,rfl,rfl,trivial⟩,((hB.st j0).st k0).st r0,d0.st r0,h7.st r0,((g0.st j0).st k0).st r0,((h0.st j0).st k0).st r0,((i0.st j0).st k0).st r0,j1.st r0,i1.st r0,((s0.st j0).st k0).st r0⟩
  replace hB:=(hB.st j0).st k0
  replace h7:=(h7.st j0).st k0
  replace g0:=(g0.st j0).st k0
  replace h0:=(h0.st j0).st k0
  replace i0:=(i0.st j0).st k0
  replace d0:=(d0.st j0).st k0
  replace i1:=(i1.st j0).st k0
  replace s0:=(s0.st j0).st k0
  rintro e6 m4 ⟨j4,d3,x1,hB,d0,h7,g0,h0,i0,j1,i1,s0⟩
  refine AN _ x1 ?_
  refine Al (Aj (AK rfl rfl (AF (hc:=Blk.cell (i:=3) (j1.1) rfl) rfl rfl ?_)))
  refine AZ rfl rfl ?_
  have q1:q0.effs.length≤9223372036854775807:=Nat.le_trans s0.len.2.1 s0.len.2.2
  have n4:inI64 (q0.effs.length:Int):=rngNat q1
  refine Ar rfl rfl (o_z ?_)
  obtain ⟨r1,y1,z0⟩:=bs z0
  refine AJ (aft r1 (fun (a1:Bool) (k1:Unit)=>[(1,(.pointer (some ⟨g1,0,none⟩))),(3,(.bool a1)),(23,(.slice u0 x0.ops.length v0)),(24,(.int .i64 (x0.ops.length:Int))),(25,(.int .i64 (k2:Int)))]) (fun a1 k1 w'=>∃ O':Lab,Bs w A w' O'∧Lc 2 w' O' g1 26 [(.slice A8 x0.vars.length c9),(.slice c1 x0.init.length d1),(.slice e1 x0.goal.length f1),(.slice u0 x0.ops.length v0)]∧Vb w' (Fr 0 w' O') (.slice A8 x0.vars.length c9) x0.vars∧Vb w' (Fr 0 w' O') (.slice c1 x0.init.length d1) x0.init∧Vb w' (Fr 0 w' O') (.slice e1 x0.goal.length f1) x0.goal∧Vb w' (Fr 0 w' O') (.slice u0 x0.ops.length v0) x0.ops)) ?_ ?_
  ·
   refine AX (Bw (σ:=Bool) (X:=Unit) (q0.effs.length) y1 rfl q1 (fun (a1:Bool) (k1:Unit)=>[(1,(.pointer (some ⟨g1,0,none⟩))),(3,(.bool a1)),(23,(.slice u0 x0.ops.length v0)),(24,(.int .i64 (x0.ops.length:Int))),(25,(.int .i64 (k2:Int))),(39,(.slice u1 q0.effs.length v1))]) _ (fun a1 k1 w'=>∃ O':Lab,Bs w A w' O'∧Lc 2 w' O' g1 26 [(.slice A8 x0.vars.length c9),(.slice c1 x0.init.length d1),(.slice e1 x0.goal.length f1),(.slice u0 x0.ops.length v0)]∧Vb w' (Fr 0 w' O') (.slice A8 x0.vars.length c9) x0.vars∧Vb w' (Fr 0 w' O') (.slice c1 x0.init.length d1) x0.init∧Vb w' (Fr 0 w' O') (.slice e1 x0.goal.length f1) x0.goal∧Vb w' (Fr 0 w' O') (.slice u0 x0.ops.length v0) x0.ops∧Vb w' (Fr 0 w' O') (.slice u1 q0.effs.length v1) q0.effs) _ () ⟨d3,hB,d0,h7,g0,h0,i0,s0⟩ ⟨rfl,rfl,rfl,rfl,rfl,rfl,rfl,rfl,trivial⟩ (fun _ _=>⟨rfl,rfl⟩) (fun _ _=>⟨rfl,rfl,rfl,rfl,rfl,trivial⟩) (fun _ _ _ ⟨O',hB,d0,h7,g0,h0,i0,s0⟩=>⟨O',hB,d0,h7,g0,h0,i0⟩) ⟨rfl,rfl,rfl⟩ ⟨rfl,rfl⟩ ?_)
   rintro e3 o0 a1 k1 o4 u3 o1 ⟨f3,hB,d0,h7,g0,h0,i0,s0⟩ a0 n2 o2
   have rk109:inI64 (e3:Int):=rngK o1 q1
   refine Al (Aj ?_)
   obtain ⟨p4,q4,w3,z1,a2,b2,r4,rfl,l1,g3,h3⟩:=s0.elem' o1
   obtain ⟨i3,j3,rfl⟩:=l1.form
   refine BA (hA:=z1) (hj:=rfl) (hlt:=a2) rfl rfl rfl ?_
   refine Bl (hl:=rfl) (hc:=b2) rfl rfl ?_
   refine Bg 4 f3 rfl fun k3 s4 m1 b0 p0=>?_
   refine AT p0 rfl rfl rfl (Bj rfl) (allOne rfl) fun n1 c0 p0=>?_
   replace p0:Lc 4 n1 m1 k3 47 [(.slice i3 o0.cond.length j3),(.int .i64 o0.var),(.int .i64 o0.val)]:=p0
   refine o_z ?_
   refine Aj (Ar rfl rfl (Ar rfl rfl ?_))
   rcases Bool.eq_false_or_eq_true a1 with h1|h1
   ·
    try rw [h1]
    replace a0:=ip a0 h1
    refine At rfl rfl rfl rfl (At rfl rfl rfl rfl (At rfl rfl rfl rfl (At rfl rfl rfl rfl (At rfl rfl rfl rfl (At rfl rfl rfl rfl (Bk rfl rfl rfl (Ar rfl rfl (At rfl rfl rfl rfl (At rfl rfl rfl rfl (At rfl rfl rfl rfl (At rfl rfl rfl rfl (At rfl rfl rfl rfl (At rfl rfl rfl rfl (At rfl rfl rfl rfl ?_))))))))))))))
    refine At rfl rfl rfl rfl (At rfl rfl rfl rfl (At rfl rfl rfl rfl (Bk rfl rfl rfl (Aw rfl rfl (o_z ?_)))))
    obtain rfl:=sm a0
    exact show Exists _ from ⟨_,(),rfl,⟨rfl,rfl,rfl,rfl,rfl,rfl,rfl,rfl,trivial⟩,_,(hB.st b0).st c0,(d0.st b0).st c0,(h7.st b0).st c0,(g0.st b0).st c0,(h0.st b0).st c0,(i0.st b0).st c0,(s0.st b0).st c0⟩
   try rw [h1]
   replace a0:=im' a0 h1
   refine Au rfl rfl (AK rfl rfl (Au rfl rfl ?_))
   replace d0:=(d0.st b0).st c0
   refine AF (hc:=Blk.cell (i:=0) (d0.1) rfl) rfl rfl ?_
   refine Au rfl rfl (AK rfl rfl (Au rfl rfl (AF (hc:=Blk.cell (i:=0) (p0.1) rfl) rfl rfl ?_)))
   refine Au rfl rfl ?_
   obtain ⟨c2,l3,a0⟩:=bs a0
   replace h7:=(h7.st b0).st c0
   replace l1:=(l1.st b0).st c0
   refine Bi (O:=m1) (A:=All n1) (R:=fun w' F v=>Vb w' F v c2) (Fd (fun _ h=>h) (Vb.mono (F:=Fr 0 n1 m1) h7 Fr.lt) (Vb.mono (F:=Fr 0 n1 m1) l1 Fr.lt) l3) rfl rfl fun t4 u4 m3 e0 n3=>?_
   obtain rfl:=n3.bool
   cases c2
   case false =>
    replace a0:=iF a0
    refine Au rfl rfl (Ce rfl rfl (Bf rfl rfl rfl (Ar rfl rfl (At rfl rfl rfl rfl (At rfl rfl rfl rfl (At rfl rfl rfl rfl (At rfl rfl rfl rfl (At rfl rfl rfl rfl (At rfl rfl rfl rfl (At rfl rfl rfl rfl (At rfl rfl rfl rfl (At rfl rfl rfl rfl (At rfl rfl rfl rfl (Bk rfl rfl rfl ?_))))))))))))))
    refine Aw rfl rfl (o_z ?_)
    obtain rfl:=sm a0
    exact show Exists _ from ⟨_,(),rfl,⟨rfl,rfl,rfl,rfl,rfl,rfl,rfl,rfl,trivial⟩,_,((hB.st b0).st c0).st e0,d0.st e0,h7.st e0,((g0.st b0).st c0).st e0,((h0.st b0).st c0).st e0,((i0.st b0).st c0).st e0,((s0.st b0).st c0).st e0⟩
   replace a0:=iT a0
   refine Au rfl rfl (Cd rfl rfl (Bf rfl rfl rfl (Ar rfl rfl (Au rfl rfl (AK rfl rfl (Au rfl rfl ?_))))))
   replace d0:=d0.st e0
   refine AF (hc:=Blk.cell (i:=0) (d0.1) rfl) rfl rfl ?_
   refine Au rfl rfl (AK rfl rfl (Au rfl rfl ?_))
   replace p0:=p0.st e0
   refine AF (hc:=Blk.cell (i:=1) (p0.1) rfl) rfl rfl ?_
   refine Au rfl rfl (AK rfl rfl (Au rfl rfl (AF (hc:=Blk.cell (i:=2) (p0.1) rfl) rfl rfl ?_)))
   refine Au rfl rfl (Dc rfl rfl rfl ?_)
   refine Au rfl rfl (CB 5 (by decide) m3 (xs:=([(⟨o0.var,o0.val⟩:Fct)]:List Fct)) rfl rfl rfl rfl ⟨(Vb.ofAgg (cs:=[(.int .i64 o0.var),(.int .i64 o0.val)]) (x:=(⟨o0.var,o0.val⟩:Fct)) rfl ⟨rfl,g3,h3⟩),trivial⟩ (by decide) (by decide) rfl fun w4 d2 e2 n0 o3=>?_)
   refine Au rfl rfl ?_
   obtain ⟨f2,p3,a0⟩:=bs a0
   replace h7:=(h7.st e0).st n0
   refine Bi (O:=e2) (A:=All d2) (R:=fun w' F v=>Vb w' F v f2) (Fd (fun _ h=>h) (Vb.mono (F:=Fr 0 d2 e2) h7 Fr.lt) (o3).all p3) rfl rfl fun x4 y4 z4 l0 q3=>?_
   obtain rfl:=q3.bool
   cases f2
   case false =>
    replace a0:=iF a0
    refine Au rfl rfl (Ce rfl rfl (Bf rfl rfl rfl (Aw rfl rfl (o_z ?_))))
    obtain rfl:=sm a0
    exact show Exists _ from ⟨_,(),rfl,⟨rfl,rfl,rfl,rfl,rfl,rfl,rfl,rfl,trivial⟩,_,((((hB.st b0).st c0).st e0).st n0).st l0,(d0.st n0).st l0,h7.st l0,((((g0.st b0).st c0).st e0).st n0).st l0,((((h0.st b0).st c0).st e0).st n0).st l0,((((i0.st b0).st c0).st e0).st n0).st l0,((((s0.st b0).st c0).st e0).st n0).st l0⟩
   replace a0:=iT a0
   refine Au rfl rfl (Cd rfl rfl (Bf rfl rfl rfl (Aw rfl rfl (o_z ?_))))
   obtain rfl:=sm a0
   exact show Exists _ from ⟨_,(),rfl,⟨rfl,rfl,rfl,rfl,rfl,rfl,rfl,rfl,trivial⟩,_,((((hB.st b0).st c0).st e0).st n0).st l0,(d0.st n0).st l0,h7.st l0,((((g0.st b0).st c0).st e0).st n0).st l0,((((h0.st b0).st c0).st e0).st n0).st l0,((((i0.st b0).st c0).st e0).st n0).st l0,((((s0.st b0).st c0).st e0).st n0).st l0⟩
  rintro a5 b5 ⟨c5,d5,rfl,t0,e5,hB,d0,h7,g0,h0,i0⟩
  replace z0:=Bh z0
  obtain rfl:=sm z0
  exact show Exists _ from ⟨_,(),rfl,⟨(BV t0 _ _ rfl),(BV t0 _ _ rfl),(BV t0 _ _ rfl),(BV t0 _ _ rfl),(BV t0 _ _ rfl),trivial⟩,_,hB,d0,h7,g0,h0,i0⟩
 rintro f5 g5 ⟨h5,i5,rfl,g2,j5,hB⟩
 replace hm:=Bh hm
 refine AN _ g2 ?_
 refine Al (Aj (Ar rfl rfl (Aw rfl rfl (o_z ?_))))
 refine AH ?_
 obtain rfl:=sm hm
 exact ret1v rfl (AD rfl) ⟨hB.ext,vBool⟩
noncomputable def DB (x0:Tsk):Option Bool :=
  bnd (rng (ρ:=Bool) (fun (k30:Nat) (a31:Opr) (s28:Bool)=>bnd (if s28=true then (some true) else (if 256 < (a31.name.size:Int) then (some true) else (some false)):Option Bool) fun y65=>bnd (rngN (ρ:=Ctl Bool Bool) (fun (k81:Nat) (s79:Bool)=>if s79=true then (some (.next true)) else (bnd (bytI a31.name (k81:Int)) fun n93=>if n93 < 32 then (some (.next true)) else (bnd (bytI a31.name (k81:Int)) fun n97=>if 126 < n97 then (some (.next true)) else (some (.next false))))) a31.name.size y65) fun res77=>fin res77 fun (s105:Bool)=>some (.next s105)) x0.ops 0 false) fun res26=>fin res26 fun (s111:Bool)=>some s111
theorem Jd {w:World} {A:Nat→Prop} (hA:∀ k,A k→k < w.heap.size) {vx0:Value} {x0:Tsk} (f1:Vb w A vx0 x0) {r:Bool} (hm:DB x0=some r) :
    Fn Tryz.prog 44 [vx0] w fun v w'=>Ext w w'∧Vb w' (upA A w w') v r:=by
 obtain ⟨O,hB,b2⟩:=enter hA
 replace f1:=f1.mono b2
 obtain ⟨e3,rfl,v3,v4,v5,v6,rfl,h7,c2,d2,b0⟩:=f1
 obtain ⟨A8,c9,rfl⟩:=h7.form
 obtain ⟨e2,f2,rfl⟩:=c2.form
 obtain ⟨g2,h2,rfl⟩:=d2.form
 obtain ⟨l0,m0,rfl⟩:=b0.form
 refine AL Tryz.func44 rfl Tryz.ntmps44 rfl ?_
 unfold DB at hm
 refine Al (Aj (BL 2 O rfl rfl fun i2 j2 w1 g1 h1=>?_))
 replace h1:Lc 2 j2 w1 i2 26 [(.slice A8 x0.vars.length c9),(.slice e2 x0.init.length f2),(.slice g2 x0.goal.length h2),(.slice l0 x0.ops.length m0)]:=h1
 refine Aw rfl rfl (o_z ?_)
 refine Al (Aj (Aw rfl rfl (o_z ?_)))
 refine Al (Al (Aj (AK rfl rfl (AF (hc:=Blk.cell (i:=3) (h1.1) rfl) rfl rfl ?_))))
 refine AZ rfl rfl ?_
 replace b0:=b0.st g1
 have i1:x0.ops.length≤9223372036854775807:=Nat.le_trans b0.len.2.1 b0.len.2.2
 have f3:inI64 (x0.ops.length:Int):=rngNat i1
 refine Ar rfl rfl (o_z ?_)
 obtain ⟨q0,j1,hm⟩:=bs hm
 refine AJ (aft q0 (fun (n0:Bool) (c1:Unit)=>[(3,(.bool n0))]) (fun n0 c1 w'=>∃ O':Lab,Bs w A w' O')) ?_ ?_
 ·
  refine AX ?_
  replace hB:=hB.st g1
  refine Bw (σ:=Bool) (X:=Unit) (x0.ops.length) j1 rfl i1 (fun (n0:Bool) (c1:Unit)=>[(3,(.bool n0)),(8,(.slice l0 x0.ops.length m0))]) _ (fun n0 c1 w'=>∃ O':Lab,Bs w A w' O'∧Vb w' (Fr 0 w' O') (.slice l0 x0.ops.length m0) x0.ops) _ () ⟨w1,hB,b0⟩ ⟨rfl,rfl,rfl,rfl,trivial⟩ (fun _ _=>⟨rfl,rfl⟩) (fun _ _=>⟨rfl,trivial⟩) (fun _ _ _ ⟨O',hB,b0⟩=>⟨O',hB⟩) ⟨rfl,rfl,rfl⟩ ⟨rfl,rfl⟩ ?_
  rintro d1 c0 n0 c1 g3 k2 r0 ⟨l2,hB,b0⟩ h0 k1 l1
  have rk30:inI64 (d1:Int):=rngK r0 i1
  refine Al (Aj ?_)
  obtain ⟨h3,i3,m2,m1,n1,o1,j3,k3,rfl,i0,j0,l3,x1⟩:=b0.elem' r0
  obtain ⟨s0,t0,rfl⟩:=i0.form
  obtain ⟨u0,v0,rfl⟩:=j0.form
  refine BA (hA:=m1) (hj:=rfl) (hlt:=n1) rfl rfl rfl ?_
  refine Bl (hl:=rfl) (hc:=o1) rfl rfl ?_
  refine Bg 3 l2 rfl fun w0 m3 n2 f0 e0=>?_
  refine AT e0 rfl rfl rfl (Bj rfl) (allOne rfl) fun o2 g0 e0=>?_
  replace e0:Lc 3 o2 n2 w0 50 [(.string c0.name),(.int .i64 c0.cost),(.slice s0 c0.pre.length t0),(.slice u0 c0.effs.length v0)]:=e0
  refine o_z ?_
  refine Al ?_
  obtain ⟨p2,d0,h0⟩:=bs h0
  refine AJ (fun l' w'=>∃ (q2:Unit) (O':Lab),subs l' [(3,(.bool p2)),(5,(.pointer (some ⟨w0,0,none⟩))),(8,(.slice l0 x0.ops.length m0)),(9,(.int .i64 (x0.ops.length:Int))),(10,(.int .i64 (d1:Int)))]∧Bs w A w' O'∧Lc 3 w' O' w0 50 [(.string c0.name),(.int .i64 c0.cost),(.slice s0 c0.pre.length t0),(.slice u0 c0.effs.length v0)]∧Vb w' (Fr 0 w' O') (.slice s0 c0.pre.length t0) c0.pre∧Vb w' (Fr 0 w' O') (.slice u0 c0.effs.length v0) c0.effs∧Vb w' (Fr 0 w' O') (.slice l0 x0.ops.length m0) x0.ops) ?_ ?_
  ·
   refine Aj (Ar rfl rfl (Ar rfl rfl ?_))
   rcases Bool.eq_false_or_eq_true n0 with y0|y0
   ·
    try rw [y0]
    replace d0:=ip d0 y0
    refine At rfl rfl rfl rfl (At rfl rfl rfl rfl (At rfl rfl rfl rfl (At rfl rfl rfl rfl (Bk rfl rfl rfl (Aw rfl rfl (o_z ?_))))))
    obtain rfl:=sm d0
    exact ⟨(),_,⟨rfl,rfl,rfl,rfl,rfl,trivial⟩,(hB.st f0).st g0,e0,(i0.st f0).st g0,(j0.st f0).st g0,(b0.st f0).st g0⟩
   try rw [y0]
   replace d0:=im' d0 y0
   refine Au rfl rfl (AK rfl rfl (Au rfl rfl (AF (hc:=Blk.cell (i:=0) (e0.1) rfl) rfl rfl ?_)))
   refine Au rfl rfl (IO rfl rfl ?_)
   have n3:inI64 (c0.name.size:Int):=rngNat x1
   refine Au rfl rfl (Cu rfl rfl rfl (fun p1=>?_) fun p1=>?_)
   ·
    replace d0:=ip d0 p1
    refine Bf rfl rfl rfl (Aw rfl rfl (o_z ?_))
    obtain rfl:=sm d0
    exact ⟨(),_,⟨rfl,rfl,rfl,rfl,rfl,trivial⟩,(hB.st f0).st g0,e0,(i0.st f0).st g0,(j0.st f0).st g0,(b0.st f0).st g0⟩
   replace d0:=im d0 p1
   refine Bf rfl rfl rfl (Aw rfl rfl (o_z ?_))
   obtain rfl:=sm d0
   exact ⟨(),_,⟨rfl,rfl,rfl,rfl,rfl,trivial⟩,(hB.st f0).st g0,e0,(i0.st f0).st g0,(j0.st f0).st g0,(b0.st f0).st g0⟩
  replace hB:=(hB.st f0).st g0
  replace b0:=(b0.st f0).st g0
  replace i0:=(i0.st f0).st g0
  replace j0:=(j0.st f0).st g0
  rintro o3 p3 ⟨q2,r2,q1,hB,e0,i0,j0,b0⟩
  refine AN _ q1 ?_
  refine Al (Aj (AK rfl rfl (AF (hc:=Blk.cell (i:=0) (e0.1) rfl) rfl rfl ?_)))
  refine IO rfl rfl ?_
  have y1:inI64 (c0.name.size:Int):=rngNat x1
  refine Ar rfl rfl (o_z ?_)
  obtain ⟨z0,r1,h0⟩:=bs h0
  refine AJ (aft z0 (fun (o0:Bool) (e1:Unit)=>[(3,(.bool o0)),(8,(.slice l0 x0.ops.length m0)),(9,(.int .i64 (x0.ops.length:Int))),(10,(.int .i64 (d1:Int)))]) (fun o0 e1 w'=>∃ O':Lab,Bs w A w' O'∧Vb w' (Fr 0 w' O') (.slice l0 x0.ops.length m0) x0.ops)) ?_ ?_
  ·
   refine AX (IU (σ:=Bool) (X:=Unit) (c0.name.size) r1 (rngNat' y1) (fun (o0:Bool) (e1:Unit)=>[(3,(.bool o0)),(5,(.pointer (some ⟨w0,0,none⟩))),(8,(.slice l0 x0.ops.length m0)),(9,(.int .i64 (x0.ops.length:Int))),(10,(.int .i64 (d1:Int)))]) _ (fun o0 e1 w'=>∃ O':Lab,Bs w A w' O'∧Lc 3 w' O' w0 50 [(.string c0.name),(.int .i64 c0.cost),(.slice s0 c0.pre.length t0),(.slice u0 c0.effs.length v0)]∧Vb w' (Fr 0 w' O') (.slice s0 c0.pre.length t0) c0.pre∧Vb w' (Fr 0 w' O') (.slice u0 c0.effs.length v0) c0.effs∧Vb w' (Fr 0 w' O') (.slice l0 x0.ops.length m0) x0.ops) _ () ⟨r2,hB,e0,i0,j0,b0⟩ ⟨rfl,rfl,rfl,rfl,rfl,rfl,rfl,trivial⟩ (fun _ _=>⟨rfl,rfl⟩) (fun _ _=>⟨rfl,rfl,rfl,rfl,trivial⟩) (fun _ _ _ ⟨O',hB,e0,i0,j0,b0⟩=>⟨O',hB,b0⟩) ⟨rfl,rfl,rfl⟩ ⟨rfl,rfl⟩ ?_)
   rintro s2 o0 e1 q3 t2 s1 ⟨r3,hB,e0,i0,j0,b0⟩ a0 t1 u1
   have rk81:inI64 (s2:Int):=rngKN s1 (rngNat' y1)
   refine Al (Aj (Ar rfl rfl (Aw rfl rfl (o_z ?_))))
   refine Aj (Ar rfl rfl (Ar rfl rfl ?_))
   rcases Bool.eq_false_or_eq_true o0 with a1|a1
   ·
    try rw [a1]
    replace a0:=ip a0 a1
    refine At rfl rfl rfl rfl (At rfl rfl rfl rfl (At rfl rfl rfl rfl (At rfl rfl rfl rfl (At rfl rfl rfl rfl (Bk rfl rfl rfl (Ar rfl rfl (At rfl rfl rfl rfl (At rfl rfl rfl rfl (At rfl rfl rfl rfl (At rfl rfl rfl rfl (At rfl rfl rfl rfl (Bk rfl rfl rfl (Aw rfl rfl (o_z ?_))))))))))))))
    obtain rfl:=sm a0
    exact show Exists _ from ⟨_,(),rfl,⟨rfl,rfl,rfl,rfl,rfl,rfl,rfl,trivial⟩,_,hB,e0,i0,j0,b0⟩
   try rw [a1]
   replace a0:=im' a0 a1
   refine Au rfl rfl (AK rfl rfl (Au rfl rfl (AF (hc:=Blk.cell (i:=0) (e0.1) rfl) rfl rfl ?_)))
   refine Au rfl rfl (Ar rfl rfl (Au rfl rfl ?_))
   obtain ⟨s3,z1,a0⟩:=bs a0
   have t3:=Ld z1
   refine OX (he:=z1) rfl rfl rfl ?_
   refine Au rfl rfl (Dg rfl rfl rfl (fun v1=>?_) fun v1=>?_)
   ·
    replace a0:=ip a0 v1
    refine Bf rfl rfl rfl (Ar rfl rfl (At rfl rfl rfl rfl (At rfl rfl rfl rfl (At rfl rfl rfl rfl (At rfl rfl rfl rfl (At rfl rfl rfl rfl (Bk rfl rfl rfl (Aw rfl rfl (o_z ?_)))))))))
    obtain rfl:=sm a0
    exact show Exists _ from ⟨_,(),rfl,⟨rfl,rfl,rfl,rfl,rfl,rfl,rfl,trivial⟩,_,hB,e0,i0,j0,b0⟩
   replace a0:=im a0 v1
   refine Bf rfl rfl rfl (Ar rfl rfl (Au rfl rfl (AK rfl rfl (Au rfl rfl (AF (hc:=Blk.cell (i:=0) (e0.1) rfl) rfl rfl ?_)))))
   refine Au rfl rfl (Ar rfl rfl (Au rfl rfl ?_))
   obtain ⟨u3,a2,a0⟩:=bs a0
   have w3:=Ld a2
   refine OX (he:=a2) rfl rfl rfl ?_
   refine Au rfl rfl (Cu rfl rfl rfl (fun p0=>?_) fun p0=>?_)
   ·
    replace a0:=ip a0 p0
    refine Bf rfl rfl rfl (Aw rfl rfl (o_z ?_))
    obtain rfl:=sm a0
    exact show Exists _ from ⟨_,(),rfl,⟨rfl,rfl,rfl,rfl,rfl,rfl,rfl,trivial⟩,_,hB,e0,i0,j0,b0⟩
   replace a0:=im a0 p0
   refine Bf rfl rfl rfl (Aw rfl rfl (o_z ?_))
   obtain rfl:=sm a0
   exact show Exists _ from ⟨_,(),rfl,⟨rfl,rfl,rfl,rfl,rfl,rfl,rfl,trivial⟩,_,hB,e0,i0,j0,b0⟩
  rintro u2 v2 ⟨w2,x2,rfl,k0,y2,hB,b0⟩
  replace h0:=Bh h0
  obtain rfl:=sm h0
  exact show Exists _ from ⟨_,(),rfl,⟨(BV k0 _ _ rfl),(BV k0 _ _ rfl),(BV k0 _ _ rfl),(BV k0 _ _ rfl),trivial⟩,_,hB,b0⟩
 replace hB:=hB.st g1
 rintro z2 a3 ⟨b3,c3,rfl,b1,d3,hB⟩
 replace hm:=Bh hm
 refine AN _ b1 ?_
 refine Al (Aj (Ar rfl rfl (Aw rfl rfl (o_z ?_))))
 refine AH ?_
 obtain rfl:=sm hm
 exact ret1v rfl (AD rfl) ⟨hB.ext,vBool⟩
noncomputable def Ex (x0:Tsk):Option Int :=
  bnd (Ew x0) fun q24=>if q24=true then some 5 else bnd (DN x0) fun q31=>if q31=true then some 1 else bnd (Dq x0) fun q38=>if q38=true then some 2 else bnd (DB x0) fun q45=>if q45=true then some 8 else some 0
theorem KJ {w:World} {A:Nat→Prop} (hA:∀ k,A k→k < w.heap.size) {vx0:Value} {x0:Tsk} (o0:Vb w A vx0 x0) {r:Int} (hm:Ex x0=some r) :
    Fn Tryz.prog 19 [vx0] w fun v w'=>Ext w w'∧Vb w' (upA A w w') v r:=by
 obtain ⟨O,hB,d1⟩:=enter hA
 replace o0:=o0.mono d1
 obtain ⟨n1,rfl,v3,v4,v5,v6,rfl,h7,a0,b0,c0⟩:=o0
 obtain ⟨A8,c9,rfl⟩:=h7.form
 obtain ⟨i0,j0,rfl⟩:=a0.form
 obtain ⟨k0,l0,rfl⟩:=b0.form
 obtain ⟨m0,n0,rfl⟩:=c0.form
 refine AL Tryz.func19 rfl Tryz.ntmps19 rfl ?_
 unfold Ex at hm
 refine Al (Aj (BL 2 O rfl rfl fun e1 p0 q0 f0 d0=>?_))
 replace d0:Lc 2 p0 q0 e1 26 [(.slice A8 x0.vars.length c9),(.slice i0 x0.init.length j0),(.slice k0 x0.goal.length l0),(.slice m0 x0.ops.length n0)]:=d0
 refine Aw rfl rfl (o_z ?_)
 refine Al (AX (Al (Aj (Bl (hl:=rfl) (hc:=(d0.1).cellsAt) rfl rfl ?_))))
 obtain ⟨r0,f1,hm⟩:=bs hm
 replace h7:=h7.st f0
 replace a0:=a0.st f0
 replace b0:=b0.st f0
 replace c0:=c0.st f0
 refine Bi (O:=q0) (A:=All p0) (R:=fun w' F v=>Vb w' F v r0) (KI (fun _ h=>h) (Vb.mono (F:=Fr 0 p0 q0) (Vb.ofAgg (cs:=[(.slice A8 x0.vars.length c9),(.slice i0 x0.init.length j0),(.slice k0 x0.goal.length l0),(.slice m0 x0.ops.length n0)]) (x:=x0) rfl ⟨_,_,_,_,rfl,h7,a0,b0,c0⟩) Fr.lt) f1) rfl rfl fun o1 s0 t0 e0 g1=>?_
 obtain rfl:=g1.bool
 cases r0
 case false =>
  replace hm:=iF hm
  refine Aw rfl rfl (o_z ?_)
  refine Ae rfl (Al (Aj ?_))
  replace d0:=d0.st e0
  refine Bl (hl:=rfl) (hc:=(d0.1).cellsAt) rfl rfl ?_
  obtain ⟨u0,h1,hm⟩:=bs hm
  replace h7:=h7.st e0
  replace a0:=a0.st e0
  replace b0:=b0.st e0
  replace c0:=c0.st e0
  refine Bi (O:=t0) (A:=All s0) (R:=fun w' F v=>Vb w' F v u0) (JG (fun _ h=>h) (Vb.mono (F:=Fr 0 s0 t0) (Vb.ofAgg (cs:=[(.slice A8 x0.vars.length c9),(.slice i0 x0.init.length j0),(.slice k0 x0.goal.length l0),(.slice m0 x0.ops.length n0)]) (x:=x0) rfl ⟨_,_,_,_,rfl,h7,a0,b0,c0⟩) Fr.lt) h1) rfl rfl fun p1 v0 w0 g0 i1=>?_
  obtain rfl:=i1.bool
  cases u0
  case false =>
   replace hm:=iF hm
   refine Aw rfl rfl (o_z ?_)
   refine Ae rfl (Al (Aj ?_))
   replace d0:=d0.st g0
   refine Bl (hl:=rfl) (hc:=(d0.1).cellsAt) rfl rfl ?_
   obtain ⟨y0,j1,hm⟩:=bs hm
   replace h7:=h7.st g0
   replace a0:=a0.st g0
   replace b0:=b0.st g0
   replace c0:=c0.st g0
   refine Bi (O:=w0) (A:=All v0) (R:=fun w' F v=>Vb w' F v y0) (ID (fun _ h=>h) (Vb.mono (F:=Fr 0 v0 w0) (Vb.ofAgg (cs:=[(.slice A8 x0.vars.length c9),(.slice i0 x0.init.length j0),(.slice k0 x0.goal.length l0),(.slice m0 x0.ops.length n0)]) (x:=x0) rfl ⟨_,_,_,_,rfl,h7,a0,b0,c0⟩) Fr.lt) j1) rfl rfl fun q1 z0 a1 h0 k1=>?_
   obtain rfl:=k1.bool
   cases y0
   case false =>
    replace hm:=iF hm
    refine Aw rfl rfl (o_z ?_)
    refine Ae rfl (Al (Aj ?_))
    replace d0:=d0.st h0
    refine Bl (hl:=rfl) (hc:=(d0.1).cellsAt) rfl rfl ?_
    obtain ⟨b1,l1,hm⟩:=bs hm
    replace h7:=h7.st h0
    replace a0:=a0.st h0
    replace b0:=b0.st h0
    replace c0:=c0.st h0
    refine Bi (O:=a1) (A:=All z0) (R:=fun w' F v=>Vb w' F v b1) (Jd (fun _ h=>h) (Vb.mono (F:=Fr 0 z0 a1) (Vb.ofAgg (cs:=[(.slice A8 x0.vars.length c9),(.slice i0 x0.init.length j0),(.slice k0 x0.goal.length l0),(.slice m0 x0.ops.length n0)]) (x:=x0) rfl ⟨_,_,_,_,rfl,h7,a0,b0,c0⟩) Fr.lt) l1) rfl rfl fun r1 s1 t1 c1 m1=>?_
    obtain rfl:=m1.bool
    cases b1
    case false =>
     replace hm:=iF hm
     refine Aw rfl rfl (o_z ?_)
     refine Ae rfl (AO (Al (Aj (Aw rfl rfl (o_z ?_)))))
     refine AH ?_
     obtain rfl:=sm hm
     replace hB:=((((hB.st f0).st e0).st g0).st h0).st c1
     exact ret1v rfl (AD rfl) ⟨hB.ext,(vInt (show inI64 (0) from by decide))⟩
    replace hm:=iT hm
    refine Aw rfl rfl (o_z ?_)
    refine Ah rfl (Al (Aj (Aw rfl rfl (o_z ?_))))
    refine AH ?_
    obtain rfl:=sm hm
    replace hB:=((((hB.st f0).st e0).st g0).st h0).st c1
    exact ret1v rfl (AD rfl) ⟨hB.ext,(vInt (show inI64 (8) from by decide))⟩
   replace hm:=iT hm
   refine Aw rfl rfl (o_z ?_)
   refine Ah rfl (Al (Aj (Aw rfl rfl (o_z ?_))))
   refine AH ?_
   obtain rfl:=sm hm
   replace hB:=(((hB.st f0).st e0).st g0).st h0
   exact ret1v rfl (AD rfl) ⟨hB.ext,(vInt (show inI64 (2) from by decide))⟩
  replace hm:=iT hm
  refine Aw rfl rfl (o_z ?_)
  refine Ah rfl (Al (Aj (Aw rfl rfl (o_z ?_))))
  refine AH ?_
  obtain rfl:=sm hm
  replace hB:=((hB.st f0).st e0).st g0
  exact ret1v rfl (AD rfl) ⟨hB.ext,(vInt (show inI64 (1) from by decide))⟩
 replace hm:=iT hm
 refine Aw rfl rfl (o_z ?_)
 refine Ah rfl (Al (Aj (Aw rfl rfl (o_z ?_))))
 refine AH ?_
 obtain rfl:=sm hm
 replace hB:=(hB.st f0).st e0
 exact ret1v rfl (AD rfl) ⟨hB.ext,(vInt (show inI64 (5) from by decide))⟩
end
section
open Go Go.RowKit
attribute [local irreducible] ewp owp hwp hwq hws Ev Evg Fn retPost loud loudS Res1
attribute [local irreducible] hwx loudX
noncomputable def Ed (x0:List Int) (x1:List Int):Option Bool :=
  bnd (rng (ρ:=Bool) (fun (k13:Nat) (a14:Int) (s11:Unit)=>bnd (x1[k13]?) fun a32=>if a14≠a32 then (bnd (bnd (x1[k13]?) fun a55=>if a14 < a55 then (some true) else (some false):Option Bool) fun y43=>some (.ret y43)) else (some (.next ()))) x0 0 ()) fun res9=>fin res9 fun (s74:Unit)=>some false
noncomputable def EV (x0:List Swp) (x1:List Int):Option ((List Int)×(List Int)) :=
  bnd (lop (ρ:=(List Int)×(List Int)) (fun (s9:(List Int)×(List Int))=>bnd (rng (ρ:=Ctl ((List Int)×(List Int)) ((List Int)×(List Int))) (fun (k34:Nat) (a35:Swp) (s32:Int)=>bnd (if s32 < 0 then (bnd (DH a35 s9.1) fun q71=>bnd (Ed q71 s9.1) fun q80=>if q80=true then some true else some false) else (some false):Option Bool) fun y47=>if y47=true then (some (.next (k34:Int))) else (some (.next s32))) x0 0 (-1)) fun res30=>fin res30 fun (s96:Int)=>if s96 < 0 then (some (.ret (s9.1,s9.2))) else (bnd (atI x0 s96) fun a101=>bnd (DH a101 s9.1) fun q124=>bnd (appI 8 s9.2 [s96]) fun u133=>some (.next (q124,u133)))) (x1,([]:List Int))) fun res7=>fin res7 fun (_:(List Int)×(List Int))=>none
end
section
open Go Go.RowKit
def effsOn (s:List Int):List Eff→List Int→List Int
  | [],out=>out
  | e :: r,out=>effsOn s r (if holdsB e.cond s=true then out.set e.var.toNat e.val else out)
theorem HA (s:List Int):∀ (a b:List Eff) (out:List Int),effsOn s (a ++ b) out=effsOn s b (effsOn s a out)
  | [],_,_=>rfl
  | e :: a,b,out=>by simp [effsOn,HA s a b]
theorem HB (s:List Int):∀ (a:List Eff) (out:List Int),(effsOn s a out).length=out.length
  | [],_=>rfl
  | e :: a,out=>by
    rw [effsOn,HB s a]
    split<;>simp
theorem LV (s:List Int) {l:List Eff} {k:Nat} {e:Eff} (h:l[k]?=some e) (out:List Int):effsOn s (l.take (k + 1)) out=if holdsB e.cond s=true then (effsOn s (l.take k) out).set e.var.toNat e.val else effsOn s (l.take k) out:=by
  rw [List.take_add_one,h,HA];rfl
def EffsIn (s:List Int) (l:List Eff):Prop:=∀ (i:Nat) e,l[i]?=some e→0≤e.var∧e.var < s.length
def succ (o:Opr) (s:List Int):List Int:=effsOn s o.effs s
end
section
open Go Go.RowKit
attribute [local irreducible] ewp owp hwp hwq hws Ev Evg Fn retPost loud loudS Res1
theorem cloneInts {w:World} {sv:Value} {xs:List Int} (hs:V w sv xs) (hl:xs.length * 8≤140737488355328) :
    Fn Tryz.prog 66 [sv] w fun v w'=>Own w' w.heap.size (All w) 3 v xs∧Ext w w':=by
  obtain ⟨A,c,rfl⟩:=hs.form
  refine AL Tryz.func66 rfl Tryz.ntmps66 rfl ?_
  cases A with
  | none =>
    have hx:xs=[]:=by
      cases xs with
      | nil=>rfl
      | cons x xs=>obtain ⟨_,_,_,h,_⟩:=hs.elem (k:=0) (x:=x) rfl;cases h
    subst hx
    ((repeat (first|refine Ay ?_|refine Ah rfl ?_|refine Ae rfl ?_))<;>(refine Aw rfl rfl ?_<;>(refine o_z ?_))<;>(repeat (first|refine Ay ?_|refine Ah rfl ?_|refine Ae rfl ?_))<;>(refine Ar rfl rfl ?_<;>refine JR rfl rfl ?_<;>(refine o_z ?_))<;>(repeat (first|refine Ay ?_|refine Ah rfl ?_|refine Ae rfl ?_))<;>(refine Aw rfl rfl ?_<;>(refine o_z ?_))<;>(repeat (first|refine Ay ?_|refine Ah rfl ?_|refine Ae rfl ?_)))
    exact ret1 rfl rfl ⟨Own.nil _ _ _ _,Below.refl _ _⟩
  | some ad =>
    ((repeat (first|refine Ay ?_|refine Ah rfl ?_|refine Ae rfl ?_))<;>(refine Aw rfl rfl ?_<;>(refine o_z ?_))<;>(repeat (first|refine Ay ?_|refine Ah rfl ?_|refine Ae rfl ?_))<;>(refine Ar rfl rfl ?_<;>refine JR rfl rfl ?_<;>(refine o_z ?_))<;>(repeat (first|refine Ay ?_|refine Ah rfl ?_|refine Ae rfl ?_)))
    refine Dt rfl rfl rfl (by simp) (by decide) rfl fun w1 hN=>?_
    have hE:=hN.ext
    have hown:Own w1 w.heap.size (All w) 3 (.slice (some ⟨w.heap.size,0,none⟩) 0 0) ([]:List Int):=Own.made hN rfl rfl (Nat.lt_irrefl _) (by decide)
    (refine Ar rfl rfl ?_)
    refine GI rfl rfl rfl hown (fun k hk=>Nat.lt_of_lt_of_le hk hE.size) hE.size (Vb.agree hs (hE.agree fun _ h=>h)) (by decide) (by simpa using hl) (by simp;omega) rfl fun v' w2 ho hK=>?_
    (refine Aw rfl rfl ?_<;>(refine o_z ?_))
    repeat (first|refine Ay ?_|refine Ah rfl ?_|refine Ae rfl ?_)
    refine ret1 rfl rfl ⟨by simpa using ho,hE.trans (hown.fits (Nat.le_refl _) hE.size hK)⟩
theorem cloneFacts {w:World} {sv:Value} {xs:List Fct} (hs:V w sv xs) (hl:xs.length * 16≤140737488355328) :
    Fn Tryz.prog 81 [sv] w fun v w'=>Own w' w.heap.size (All w) 45 v xs∧Ext w w':=by
  obtain ⟨A,c,rfl⟩:=hs.form
  refine AL Tryz.func81 rfl Tryz.ntmps81 rfl ?_
  cases A with
  | none =>
    have hx:xs=[]:=by
      cases xs with
      | nil=>rfl
      | cons x xs=>obtain ⟨_,_,_,h,_⟩:=hs.elem (k:=0) (x:=x) rfl;cases h
    subst hx
    ((repeat (first|refine Ay ?_|refine Ah rfl ?_|refine Ae rfl ?_))<;>(refine Aw rfl rfl ?_<;>(refine o_z ?_))<;>(repeat (first|refine Ay ?_|refine Ah rfl ?_|refine Ae rfl ?_))<;>(refine Ar rfl rfl ?_<;>refine JR rfl rfl ?_<;>(refine o_z ?_))<;>(repeat (first|refine Ay ?_|refine Ah rfl ?_|refine Ae rfl ?_))<;>(refine Aw rfl rfl ?_<;>(refine o_z ?_))<;>(repeat (first|refine Ay ?_|refine Ah rfl ?_|refine Ae rfl ?_)))
    exact ret1 rfl rfl ⟨Own.nil _ _ _ _,Below.refl _ _⟩
  | some ad =>
    ((repeat (first|refine Ay ?_|refine Ah rfl ?_|refine Ae rfl ?_))<;>(refine Aw rfl rfl ?_<;>(refine o_z ?_))<;>(repeat (first|refine Ay ?_|refine Ah rfl ?_|refine Ae rfl ?_))<;>(refine Ar rfl rfl ?_<;>refine JR rfl rfl ?_<;>(refine o_z ?_))<;>(repeat (first|refine Ay ?_|refine Ah rfl ?_|refine Ae rfl ?_)))
    refine Dt rfl rfl rfl (by simp) (by decide) rfl fun w1 hN=>?_
    have hE:=hN.ext
    have hown:Own w1 w.heap.size (All w) 45 (.slice (some ⟨w.heap.size,0,none⟩) 0 0) ([]:List Fct):=Own.made hN rfl rfl (Nat.lt_irrefl _) (by decide)
    (refine Ar rfl rfl ?_)
    refine GI rfl rfl rfl hown (fun k hk=>Nat.lt_of_lt_of_le hk hE.size) hE.size (Vb.agree hs (hE.agree fun _ h=>h)) (by decide) (by simpa using hl) (by simp;omega) rfl fun v' w2 ho hK=>?_
    (refine Aw rfl rfl ?_<;>(refine o_z ?_))
    repeat (first|refine Ay ?_|refine Ah rfl ?_|refine Ae rfl ?_)
    refine ret1 rfl rfl ⟨by simpa using ho,hE.trans (hown.fits (Nat.le_refl _) hE.size hK)⟩
def applK (t:Tsk) (s:List Int) (k:Nat):List Int:=((List.range k).filter fun i=>match t.ops[i]? with|some o=>holdsB o.pre s|none=>false).map fun i:Nat=>(i:Int)
def appl (t:Tsk) (s:List Int):List Int:=applK t s t.ops.length
theorem Nt (t:Tsk) (s:List Int) (k:Nat):(applK t s k).length≤k:=by
  unfold applK
  rw [List.length_map]
  exact Nat.le_trans (List.length_filter_le _ _) (by simp)
end
end Go.Proofs.YtecegaabajeolaaGreat

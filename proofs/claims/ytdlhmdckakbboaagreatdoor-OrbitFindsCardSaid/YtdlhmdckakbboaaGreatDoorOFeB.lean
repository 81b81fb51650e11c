/- Own text: what the proof of orbitFinds_holds uses, part 2: rules, models and their proofs, plain laws. -/
import Derived.Test.YtdlhmdckakbboaaGreatDoorOFeA
set_option linter.unusedVariables false
set_option linter.unusedSimpArgs false
namespace Go.Proofs.YtdlhmdckakbboaaGreatDoor
open Go Go.RowKit Go.Proofs.Tryz
section
open Go Go.RowKit
class TCon (P:Program) (t:TypeId):Prop where eq:∃ d,P.underlying t=some d/\(match d with|.interface _=>false|_=>true)=true
instance {P:Program} {t e:TypeId} [a:TPtr P t e]:TCon P t:=⟨⟨_,a.eq,rfl⟩⟩
instance {P:Program} {t:TypeId} [b:TAgg P t]:TCon P t:=⟨by obtain ⟨d,h1,a⟩:=b.eq;exact ⟨d,h1,by cases d<;>first|rfl|cases a⟩⟩
class TMth (P:Program) (t:TypeId) (name:String) (f:outParam FuncId) (b:outParam Bool):Prop where
  eq:((P.info? t).bind λ i=>i.methods.find? (·.name == name)).map (λ m=>(m.path.toList,m.func))=some ([],some (f,b))
def Mth (P:Program) (t:TypeId) (v:Value) (name:String) (w:World) (f:FuncId) (r:Value):Prop:=∀ d,(method (P.types.size + Made.depth) t v name).run P (dr w d)=.ok (f,r) (dr w d)
section
variable {P : Program} {t e : TypeId} {name : String} {f : FuncId} {w : World}
theorem TMth.row {b:Bool} (d:TMth P t name f b):∃ i m,P.info? t=some i/\i.methods.find? (·.name == name)=some m/\m.path.toList=[]/\m.func=some (f,b):=by
  obtain ⟨m,h1,h2⟩:=D6.1 d.eq
  obtain ⟨i,h3,h4⟩:=Option.bind_eq_some_iff.1 h1
  injection h2 with a c
  exact ⟨i,m,h3,h4,a,c⟩
theorem RK {v:Value} [hm:TMth P t name f true] [a:TPtr P t e]:Mth P t v name w f v:=λ d=>by
  obtain ⟨i,m,h1,h2,h3,h4⟩:=hm.row
  show (method ((P.types.size + 99) + 1) t v name).run P (dr w d)=_
  rw [method]
  simp [typeInfo,h1,h2,h3,h4,follow,receiverAt,run_underlying a.eq,Place.get]
theorem Re (b:Array TypeId) (a:Addr) (x y:String):(Builtin.ssaWrapNilChk_ b t #[.pointer (some a),strVal x,strVal y]).run P w=.ok (.pointer (some a)) w:=rfl
theorem Ho {a:Addr} {u:Value} [hm:TMth P t name f false] [c:TPtr P t e] [TOne P e] (hc:w.cell? a=some u):Mth P t (.pointer (some a)) name w f u:=λ d=>by
  obtain ⟨i,m,h1,h2,h3,h4⟩:=hm.row
  have g:m.path=#[]:=by cases b:m.path;rw [b] at h3;simp at h3;rw [h3]
  have hl:(load a).run P (dr w d)=.ok u (dr w d):=by simp [load,Sem.run,LB,hc]
  show (method ((P.types.size + 99) + 1) t _ name).run P (dr w d)=_
  rw [method]
  simp [typeInfo,h1,h2,h4,g,follow,receiverAt,run_underlying c.eq,Place.get,Re,asAddr,loadVar,FV,LB,hc]
end
section
variable {P : Program} {n : Nat} {ops : Array Oper} {Q : Q8} {rest : List Oper} {l : Env} {w : World} {d : Tmp} {ty : TypeId} {pos : String} {aft : Array Edge}
theorem RL {f:FuncId} [hf:Callable P f] {y:Operand} {name:String} {t:TypeId} {v r:Value} {xs:List Operand} {vs:List Value} {h:Array TypeId} {R:Value->World->Prop} (hm:Mth P t v name w f r) (j:opv l y=some (.iface t v)) (k:R6 l xs=some vs) (hd:Nat.blt d n=true) (hc:Fn P f (r :: vs) w R)
    (o:∀ v w',R v w'->owp P n ops Q rest ((d,v) :: l) w'):owp P n ops Q (⟨some d,.call { callee:=.invoke y name,args:=xs.toArray,argTypes:=h },ty,pos,aft,none⟩ :: rest) l w :=
  JE λ a e b K m=>by
    obtain ⟨i,h1,h2,h3⟩:=hf.eq
    have c:¬ i.body=none:=λ e=>by rw [e] at h2;simp at h2
    have g : ¬ i.name = "runtime.NumGoroutine" := fun e => by rw [e] at h3; simp at h3
    unfold Oper.wp
    have:(execOp a.eval ⟨some d,.call { callee:=.invoke y name,args:=xs.toArray,argTypes:=h },ty,pos,aft,none⟩).run P (dr w e)=.ok (.enter f (r :: vs).toArray) (dr w e):=by
      simp [execOp,resolve,b.eval j,invoke,callMethod,hm e,callFunc,h1,c,g,b.evals k]
    rw [this]
    exact (hc e).mono λ _ _ ⟨v,w₀,d',he,hw,hR⟩=>by subst he;subst hw;exact m _ _ (o v w₀ hR _ _ (b.put hd v))
theorem KX {T:Nat->Prop} {f:FuncId} [Callable P f] {y:Operand} {name:String} {t:TypeId} {v r:Value} {xs:List Operand} {vs:List Value} {b:Array TypeId} {O:Lab} {R:Value->World->Lab->Prop}
    (hc:Fn P f (r :: vs) w λ v w'=>∃ a,St T w O w' a/\R v w' a) (hm:Mth P t v name w f r) (c:opv l y=some (.iface t v)) (e:R6 l xs=some vs) (hd:Nat.blt d n=true)
    (g:∀ v w' a,St T w O w' a->R v w' a->owp P n ops Q rest ((d,v) :: l) w'):owp P n ops Q (⟨some d,.call { callee:=.invoke y name,args:=xs.toArray,argTypes:=b },ty,pos,aft,none⟩ :: rest) l w :=
  RL hm c e hd hc λ v w' ⟨a,hS,hR⟩=>g v w' a hS hR
theorem KY {f:FuncId} [Callable P f] {y:Operand} {name:String} {t:TypeId} {v r:Value} {xs:List Operand} {vs:List Value} {a:Array TypeId} {O:Lab} {A:Nat->Prop} {R:World->(Nat->Prop)->Value->Prop} (hc:Fn P f (r :: vs) w λ v w'=>Ext w w'/\R w' (upA A w w') v) (hm:Mth P t v name w f r) (b:opv l y=some (.iface t v)) (c:R6 l xs=some vs) (hd:Nat.blt d n=true)
    (h:∀ v w' e,St nT w O w' e->R w' (upA A w w') v->owp P n ops Q rest ((d,v) :: l) w'):owp P n ops Q (⟨some d,.call { callee:=.invoke y name,args:=xs.toArray,argTypes:=a },ty,pos,aft,none⟩ :: rest) l w :=
  RL hm b c hd hc λ v w' ⟨g,hR⟩=>h v w' (upO O w.heap.size λ _=>0) (g.st O _) hR
end
def Z5 (a b:Int):Option Int:=if 0 < b then some (if 0<=a then a / b else -((-a) / b)) else none
theorem RM {a b r:Int} (e:Z5 a b=some r) (d:P9 a):P9 r:=by
  unfold Z5 at e
  split at e
  . rename_i hb
    rw [<- sm e]
    unfold P9 at *
    split
    . rename_i c
      have:=Int.ediv_le_self b c
      have:=Int.ediv_nonneg c (show 0<=b by omega)
      omega
    . have c:0<=-a:=by omega
      have:=Int.ediv_le_self b c
      have:=Int.ediv_nonneg c (show 0<=b by omega)
      omega
  . cases e
theorem Ye {P:Program} {l:Env} {w:World} {dst:Option Tmp} {ty:TypeId} {pos:String} {aft:Array Edge} {t u:TypeId} {x y:Operand} {a b c:Int} (f:opv l x=some (.int .i64 a)) (g:opv l y=some (.int .i64 b)) (he:Z5 a b=some c) (hr:P9 a):Ev P ⟨dst,.binOp .quo t x y u,ty,pos,aft,none⟩ l w (.int .i64 c):=λ _ _ d e=>by
  have hc:=RM he hr
  unfold Z5 at he
  split at he
  . rename_i hb
    have hn:b≠0:=by omega
    have h:a.tdiv b=c:=by
      rw [<- sm he]
      split
      . rename_i h0;exact Int.tdiv_eq_ediv_of_nonneg h0
      . rw [<- Int.tdiv_eq_ediv_of_nonneg (show 0<=-a by omega),Int.neg_tdiv,Int.neg_neg]
    simp [execOp,e.eval f,e.eval g,eqGuard,binOp,Op.intDiv,hn,h,wrap_i64 hc.1 hc.2]
  . cases he
structure An (t:TypeId) (α:Type) where
  x:α
instance {t:TypeId} {α:Type} [Rp α]:Rp (An t α) where
  isAgg:=false
  size:=1
  R w F cs a:=∃ v,cs=[.iface t v]/\Vb w F v a.x
  len:=by rintro w F cs x ⟨v,rfl,_⟩;rfl
  one:=by
    rintro w F cs x ⟨v,rfl,_⟩ u hu
    have:u=.iface t v:=by simpa using hu
    subst this;rfl
  agree:=by rintro w w' F cs x ⟨v,rfl,h⟩ ha;exact ⟨v,rfl,h.agree ha⟩
  mono:=by rintro w F G cs x ⟨v,rfl,h⟩ ha;exact ⟨v,rfl,h.mono ha⟩
theorem Vb.any {w:World} {F:Nat->Prop} {v:Value} {t:TypeId} {α:Type} [Rp α] {x:An t α} (a:Vb w F v x):∃ u,v=.iface t u/\Vb w F u x.x:=by
  obtain ⟨u,hu,h'⟩:=a
  exact ⟨u,by simpa using hu,h'⟩
theorem AaV {w:World} {F:Nat->Prop} {v:Value} {t:TypeId} {α:Type} [Rp α] {x:α} (a:Vb w F v x):Vb w F (.iface t v) (⟨x⟩:An t α):=⟨v,rfl,a⟩
section
variable {P : Program} {l : Env} {w : World} {dst : Option Tmp} {ty : TypeId} {pos : String} {aft : Array Edge}
theorem Tx {t:TypeId} [hk:TCon P t] {x:Operand} {v:Value} (b:opv l x=some v):Ev P ⟨dst,.makeInterface t x,ty,pos,aft,none⟩ l w (.iface t v):=λ _ a d c=>by
  obtain ⟨q,h1,e⟩:=hk.eq
  cases q<;>first|(cases e;done)|simp [execOp,c.eval b,Instr.makeInterface,run_underlying h1]
theorem Yf {s t:TypeId} [hk:TCon P t] {x:Operand} {v:Value} (b:opv l x=some (.iface t v)):Ev P ⟨dst,.typeAssert x s t true,ty,pos,aft,none⟩ l w (.tuple #[v,.bool true]):=λ _ a d c=>by
  obtain ⟨q,h1,e⟩:=hk.eq
  cases q<;>first|(cases e;done)|simp [execOp,c.eval b,Instr.typeAssert,run_underlying h1]
end
section
variable {P : Program} {n : Nat} {ops : Array Oper} {Q : Q8} {S : World → Prop} {rest : List Oper} {r : List (Nat × Bool)} {l : Env} {w : World} {d i : Nat} {ty : TypeId} {pos : String} {aft : Array Edge}
theorem YU {t u:TypeId} {x y:Operand} {a b c:Int} (e:opv l x=some (.int .i64 a)) (f:opv l y=some (.int .i64 b)) (hd:Nat.blt d n=true) (g:owp P n ops Q rest ((d,.int .i64 c) :: l) w) (he:Z5 a b=some c:=by assumption) (hr:P9 a:=by assumption):owp P n ops Q (⟨some d,.binOp .quo t x y u,ty,pos,aft,none⟩ :: rest) l w:=Bp (Ye e f he hr) hd g
theorem Wq {t:TypeId} [TCon P t] {x:Operand} {v:Value} (a:opv l x=some v) (hd:Nat.blt d n=true) (b:owp P n ops Q rest ((d,.iface t v) :: l) w):owp P n ops Q (⟨some d,.makeInterface t x,ty,pos,aft,none⟩ :: rest) l w:=Bp (Tx a) hd b
theorem Wr {t:TypeId} [TCon P t] {x:Operand} {v:Value} (hi:ops[i]?=some ⟨some d,.makeInterface t x,ty,pos,aft,none⟩) (a:opv l x=some v) (hd:Nat.blt d n=true) (b:hwp P n ops Q S r ((d,.iface t v) :: l) w):hwp P n ops Q S ((i,true) :: r) l w:=Az hi (Bh (λ _ _=>Tx a) hd b)
theorem Ws {s t:TypeId} [TCon P t] {x:Operand} {v:Value} (a:opv l x=some (.iface t v)) (hd:Nat.blt d n=true) (b:owp P n ops Q rest ((d,.tuple #[v,.bool true]) :: l) w):owp P n ops Q (⟨some d,.typeAssert x s t true,ty,pos,aft,none⟩ :: rest) l w:=Bp (Yf a) hd b
end
end
section
open Go Go.RowKit
def Hs {α:Type} [Rp α] (Γ:List Fa) (v:Value) (xs:List α) (i:Nat):Prop:=(In Γ (.V v xs)/\i=0)\/∃ e,In Γ (.R i e v xs)
section
variable {α : Type} [Rp α] {B : Bse} {Γ : List Fa} {w : World} {O : Lab} {i m c : Nat} {A : Option Addr} {xs : List α} {v : Value}
theorem Al.elem (d:Al B Γ w O) (f:Hs Γ (.slice A m c) xs i) {k:Nat} {x:α} (a:xs[k]?=some x) :
    ∃ b o cs,A=some ⟨b,o,none⟩/\Fr i w O b/\k < m/\cellsAt w b (o + k * Rp.size α) cs/\Rp.R w (Fr 0 w O) cs x:=by
  rcases f with ⟨f,rfl⟩|⟨e,f⟩
  . exact Vb.elem (d.at f) a
  . exact Rw.elemF (d.at f) a
theorem Al.len (a:Al B Γ w O) (b:Hs Γ (.slice A m c) xs i):m=xs.length/\m<=9223372036854775807:=by
  rcases b with ⟨b,rfl⟩|⟨e,b⟩
  . have b:=Vb.len (a.at b);exact ⟨b.1,Cv b⟩
  . have b:=Rw.len (a.at b);exact ⟨b.1,Cv b⟩
theorem Al.blk {g:Nat} {t:TypeId} {cs:List Value} (a:Al B Γ w O) (b:In Γ (.L i g t cs)):Blk w g t cs:=(show Lc i w O g t cs from a.at b).1
theorem Al.rd (a:Al B Γ w O) (b:Hs Γ v xs i):Rd w (Fr 0 w O) v xs:=by
  rcases b with ⟨b,rfl⟩|⟨e,b⟩
  . exact Vb.rd (a.at b)
  . exact Rw.rd (a.at b)
end
theorem In.go {Γ:List Fa} {f:Fa} (a:In Γ f:=by ((repeat (first|exact In.hd|refine In.tl ?_))<;>fail)):In Γ f:=a
theorem Hs.go {α:Type} [Rp α] {Γ:List Fa} {v:Value} {xs:List α} {i:Nat} (a:Hs Γ v xs i:=by first|exact Or.inl ⟨In.go,rfl⟩|exact Or.inr ⟨_,In.go⟩):Hs Γ v xs i:=a
theorem Al.x {B:Bse} {Γ:List Fa} {w:World} {O:Lab} {p:Prop} (a:Al B Γ w O:=by assumption) (b:In Γ (.X p):=by exact In.go):p:=a.at b
theorem zN {B:Bse} {Γ:List Fa} {w:World} {O:Lab} {α:Type} [Rp α] {i m c:Nat} {A:Option Addr} {xs:List α} (a:Al B Γ w O:=by assumption) (b:Hs Γ (.slice A m c) xs i:=by exact Hs.go):xs.length<=9223372036854775807:=by
  have b:=a.len b
  rw [<- b.1];exact b.2
theorem zH {B:Bse} {Γ:List Fa} {w:World} {O:Lab} {α:Type} [Rp α] {i e m c:Nat} {A:Option Addr} {xs:List α} (a:Al B Γ w O:=by assumption) (b:In Γ (.R i e (.slice A m c) xs):=by exact In.go):m<=9223372036854775807:=(a.len (Or.inr ⟨_,b⟩)).2
theorem zI {n:Int} (a:P9 n:=by first|assumption|decide|exact Byt.rng _|exact BE (by assumption)|exact rngNat zN|exact rngNat zH|exact Al.x|exact XT _|exact US (by assumption)|exact WC (by assumption) zI|exact WD (by assumption) zI|exact rngMin zI zI|exact rngMax zI zI|exact rngNat (by assumption)|(dsimp only;exact zI)):P9 n:=a
theorem zM {N:Nat} (a:N<=9223372036854775807:=by first|exact zN|exact zH|exact rngNat' zI|decide):N<=9223372036854775807:=a
theorem zS {s:ByteArray} (a:s.size<=9223372036854775807:=by first|assumption|decide|exact Al.x|(dsimp only;exact zS)):s.size<=9223372036854775807:=a
theorem zV {α:Type} [Rp α] {w:World} {O:Lab} {v:Value} {x:α} (a:Vb w (Fr 0 w O) v x:=by first
  | exact Al.at (f:=.V _ _) (by assumption) In.go
  | exact vInt zI
  | exact vBool
  | exact Vb.nil _ _
  | exact vErr zI
  | exact vErr0
  | exact vStr zS
  | exact vByte
  | (refine Vb.ofAgg rfl ?_;((repeat' (first|exact rfl|exact zI|exact zS|exact zV|refine ⟨_,?_⟩|refine ⟨?_,?_⟩))<;>fail))):Vb w (Fr 0 w O) v x:=a
theorem zA {α:Type} [Rp α] {B:Bse} {Γ:List Fa} {w:World} {O:Lab} {v:Value} {x:α} (a:Al B Γ w O:=by assumption) (b:Vb w (Fr 0 w O) v x:=by exact zV):Vb w (All w) v x:=b.mono Fr.lt
theorem zAr {α:Type} [Rp α] {B:Bse} {Γ:List Fa} {w:World} {O:Lab} {i:Nat} {e:TypeId} {v:Value} {x:List α} (a:Al B Γ w O:=by assumption) (b:In Γ (.R i e v x):=by exact In.go):Vb w (All w) v x:=Rw.all (a.at b)
theorem zVs {α:Type} [Rp α] {w:World} {O:Lab} {vs:List Value} {xs:List α} (a:Vall w (Fr 0 w O) vs xs:=by ((repeat (first|exact trivial|refine ⟨zV,?_⟩))<;>fail)):Vall w (Fr 0 w O) vs xs:=a
def lsO:List Value→Option (List Value)
  | []=>some []
  | v :: r=>match lsO r with
    | some r'=>some (v :: r')
    | none=>none
theorem PQ:∀ {l r:List Value},lsO l=some r->l=r
  | [],r,a=>L1 a
  | v :: l,r,a=>by
    unfold lsO at a
    cases hr:lsO l with
    | none=>rw [hr] at a;cases a
    | some r'=>rw [hr] at a;rw [PQ hr];exact L1 a
def clO (v:Value):Option (List Value):=lsO v.cells.toList
theorem Ty {v:Value} {cs:List Value} (a:clO v=some cs):v.cells.toList=cs:=PQ a
def stO (cs:List Value) (o:Nat) (vs:List Value):Option (List Value):=lsO (Q6 cs o vs)
theorem Yg {cs vs a:List Value} {o:Nat} (b:stO cs o vs=some a):Q6 cs o vs=a:=PQ b
def dj:List Nat→List Nat→Bool
  | [],_=>true
  | i :: a,ls=>match inK i ls with
    | true=>false
    | false=>dj a ls
theorem SF {ls:List Nat}:∀ {a:List Nat},dj a ls=true->∀ i∈a,¬ i∈ls
  | [],_,i,b=>by simp at b
  | j :: a,b,i,hi=>by
    unfold dj at b
    cases hk:inK j ls with
    | true=>rw [hk] at b;cases b
    | false =>
      rw [hk] at b
      rcases M8.1 hi with rfl|hi
      . exact NW hk
      . exact SF b i hi
def Sq (S:World->Prop) (w:World) (O:Lab) (ls:List Nat):Prop:=∀ w',S w'->∃ a,St (·∈ls) w O w' a
theorem Sq.eq {w:World} {O:Lab}:Sq (λ w'=>w'=w) w O []:=λ w' e=>by subst e;exact ⟨O,St.refl _ _ _⟩
theorem Sq.ss {w:World} {O:Lab} {ls:List Nat}:Sq (SS w O ls) w O ls:=λ _ a=>a
theorem Sq.go {S:World->Prop} {w:World} {O:Lab} {ls:List Nat} (a:Sq S w O ls:=by first|exact Sq.eq|exact Sq.ss):Sq S w O ls:=a
section
variable {S : World → Prop} {B : Bse} {Γ : List Fa} {w : World} {O : Lab} {ls : List Nat} {i g b o : Nat} {t : TypeId} {cs : List Value}
theorem Al.LS (c:Al B Γ w O) (hk:In Γ (.L i g t cs)) (a:Sq S w O ls) (hd:dj [i] ls=true):∀ w',S w'->Blk w' g t cs:=λ w' d=>by
  obtain ⟨b,hq⟩:=a w' d
  exact (Lc.st (c.at hk) hq (SF hd i H8)).1
theorem Al.CS (d:Al B Γ w O) (hk:In Γ (.C i b o cs)) (a:Sq S w O ls) (hd:dj [i] ls=true):∀ w',S w'->cellsAt w' b o cs:=λ w' e=>by
  obtain ⟨c,hq⟩:=a w' e
  have hc:Fr i w O b/\cellsAt w b o cs:=d.at hk
  exact Dq (hq.agree (SF hd i H8)) hc.1 hc.2
end
theorem RN {w:World} {b o k:Nat} {v:Value} {cs:List Value} (a:cellsAt w b o cs) (hc:cs[k]?=some v):w.cell? ⟨b,o + k,none⟩=some v:=Eg a k v hc
section
variable {P : Program} {n : Nat} {ops : Array Oper} {Q : Q8} {rest : List Oper} {l : Env} {w : World} {d : Tmp} {ty : TypeId} {pos : String} {aft : Array Edge} {B : Bse} {Γ : List Fa} {O : Lab}
theorem Fv (i:Nat) {α:Type} [Rp α] {e:TypeId} {v:Value} {xs:List α} {G:Prop} {c:List Fa} (d:∀ a,Al B c w a->G) (f:Al B Γ w O:=by assumption) (hk:In Γ (.R i e v xs):=by exact In.go) (b:Z2 i (.V v xs) Γ=some c:=by exact rfl) (hi:Nat.ble 2 i=true:=by exact rfl):G:=by
  obtain ⟨a,hS,hv⟩:=Rw.freeze (f.at hk)
  exact d a (Al.so (f':=.V v xs) hi hv f hS b)
theorem q_S (ls:List Nat) {G:Prop} (a:Al B (.S w O ls :: Γ) w O->G) (b:Al B Γ w O:=by assumption):G:=a ⟨St.refl _ _ _,b⟩
theorem Ck (i:Nat) {t:TypeId} {z:Value} {size bytes:Nat} [TInfo P t z size bytes] {cs:List Value} (f:∀ g w' a,Al B (.L i g t cs :: Γ) w' a->owp P n ops Q rest ((d,.pointer (some ⟨g,0,none⟩)) :: l) w') (b:clO z=some cs:=by exact rfl) (h:Al B Γ w O:=by assumption) (hd:Nat.blt d n=true:=by exact rfl) :
    owp P n ops Q (⟨some d,.alloc t,ty,pos,aft,none⟩ :: rest) l w:=BL i O (hd:=hd) λ g w' a c e=>f g w' a ⟨Ty b ▸ e,h.no c⟩
theorem Dt (i:Nat) {t:TypeId} {x:Operand} {v:Value} {cs:List Value} (h:∀ g w' a,Al B (.L i g t cs :: Γ) w' a->owp P n ops Q rest ((d,.pointer (some ⟨g,0,none⟩)) :: l) w') (c:opv l x=some v:=by exact rfl) (b:clO v=some cs:=by exact rfl) (j:Al B Γ w O:=by assumption) (hd:Nat.blt d n=true:=by exact rfl) :
    owp P n ops Q (⟨some d,.box t x,ty,pos,aft,none⟩ :: rest) l w:=Ft i O c (hd:=hd) λ g w' a e f=>h g w' a ⟨Ty b ▸ f,j.no e⟩
theorem BN {i:Nat} {t:TypeId} {z:Value} {size bytes:Nat} [TInfo P t z size bytes] {x y:Operand} {g o:Nat} {b:TypeId} {v:Value} {cs:List Value}
    {f:List Fa} {a:List Value} (q:∀ w',Al B f w' O->owp P n ops Q rest l w') (h:opv l x=some (.pointer (some ⟨g,o,none⟩)):=by exact rfl) (j:opv l y=some v:=by exact rfl) (r:Al B Γ w O:=by assumption) (hk:In Γ (.L i g b cs):=by exact In.go) (c:stO cs o v.cells.toList=some a:=by exact rfl) (d:Z2 i (.L i g b a) Γ=some f:=by exact rfl)
    (hi:Nat.ble 2 i=true:=by exact rfl) (e:v.cells.toList.length=size:=by exact rfl) (hl:o + size<=cs.length:=by exact (Bf)) (k:∀ u∈v.cells.toList,u.oneCell'=true:=by first|exact allOne|simp [Value.cells,Value.oneCell',Mv]) :
    owp P n ops Q (⟨none,.store t x y,ty,pos,aft,none⟩ :: rest) l w:=AT (r.at hk) h j e hl k λ w' m p=>q w' (Al.so (f':=.L i g b a) hi (Yg c ▸ p) r m d)
theorem CF {i:Nat} {t:TypeId} [TOne P t] {x:Operand} {g k:Nat} {a:TypeId} {v:Value} {cs:List Value} (c:owp P n ops Q rest ((d,v) :: l) w) (b:opv l x=some (.pointer (some ⟨g,k,none⟩)):=by exact rfl) (e:Al B Γ w O:=by assumption) (hk:In Γ (.L i g a cs):=by exact In.go) (hc:cs[k]?=some v:=by exact rfl) (hd:Nat.blt d n=true:=by exact rfl) :
    owp P n ops Q (⟨some d,.load t x,ty,pos,aft,none⟩ :: rest) l w:=Bp (Dy b (Blk.cell ((e.at hk).1) hc)) hd c
theorem EY {i:Nat} {t:TypeId} [TAgg P t] {z:Value} {size bytes:Nat} [TInfo P t z size bytes] {x:Operand} {g:Nat} {a:TypeId} {cs:List Value} (c:owp P n ops Q rest ((d,.agg cs.toArray) :: l) w) (b:opv l x=some (.pointer (some ⟨g,0,none⟩)):=by exact rfl) (e:Al B Γ w O:=by assumption) (hk:In Γ (.L i g a cs):=by exact In.go) (hl:cs.length=size:=by exact rfl) (hd:Nat.blt d n=true:=by exact rfl) :
    owp P n ops Q (⟨some d,.load t x,ty,pos,aft,none⟩ :: rest) l w:=Bp (FB b hl (Blk.cellsAt ((e.at hk).1))) hd c
theorem SG {i:Nat} {t:TypeId} [TOne P t] {x:Operand} {b o k:Nat} {v:Value} {cs:List Value} (c:owp P n ops Q rest ((d,v) :: l) w) (a:opv l x=some (.pointer (some ⟨b,o + k,none⟩)):=by exact rfl) (e:Al B Γ w O:=by assumption) (hk:In Γ (.C i b o cs):=by exact In.go) (hc:cs[k]?=some v:=by exact rfl) (hd:Nat.blt d n=true:=by exact rfl) :
    owp P n ops Q (⟨some d,.load t x,ty,pos,aft,none⟩ :: rest) l w:=Bp (Dy a (RN (Al.at (f:=.C _ _ _ _) e hk |>.2) hc)) hd c
theorem EZ {i:Nat} {t:TypeId} [TOne P t] {x:Operand} {b o:Nat} {v:Value} {cs:List Value} (c:owp P n ops Q rest ((d,v) :: l) w) (a:opv l x=some (.pointer (some ⟨b,o,none⟩)):=by exact rfl) (e:Al B Γ w O:=by assumption) (hk:In Γ (.C i b o (v :: cs)):=by exact In.go) (hd:Nat.blt d n=true:=by exact rfl) :
    owp P n ops Q (⟨some d,.load t x,ty,pos,aft,none⟩ :: rest) l w:=Bp (Dy a (Al.at (f:=.C _ _ _ _) e hk |>.2).1) hd c
theorem Jh {i:Nat} {t:TypeId} [TAgg P t] {z:Value} {size bytes:Nat} [TInfo P t z size bytes] {x:Operand} {b o:Nat} {cs:List Value} (c:owp P n ops Q rest ((d,.agg cs.toArray) :: l) w) (a:opv l x=some (.pointer (some ⟨b,o,none⟩)):=by exact rfl) (e:Al B Γ w O:=by assumption) (hk:In Γ (.C i b o cs):=by exact In.go) (hl:cs.length=size:=by exact rfl) (hd:Nat.blt d n=true:=by exact rfl) :
    owp P n ops Q (⟨some d,.load t x,ty,pos,aft,none⟩ :: rest) l w:=Bp (FB a hl (Al.at (f:=.C _ _ _ _) e hk |>.2)) hd c
variable {S : World → Prop} {r : List (Nat × Bool)} {q : Nat} {ls : List Nat}
theorem Ke {i:Nat} {t:TypeId} [TOne P t] {x:Operand} {g k:Nat} {a:TypeId} {v:Value} {cs:List Value} (f:hwp P n ops Q S r ((d,v) :: l) w) (b:opv l x=some (.pointer (some ⟨g,k,none⟩)):=by exact rfl) (h:Al B Γ w O:=by assumption) (hk:In Γ (.L i g a cs):=by exact In.go) (hc:cs[k]?=some v:=by exact rfl) (c:Sq S w O ls:=by exact Sq.go) (hj:dj [i] ls=true:=by exact rfl) (hd:Nat.blt d n=true:=by exact rfl) :
    hwq P n ops Q S ⟨some d,.load t x,ty,pos,aft,none⟩ r l w:=Bh (λ _ e=>Dy b (Blk.cell (h.LS hk c hj _ e) hc)) hd f
theorem Cp {i:Nat} {t:TypeId} [TOne P t] {x:Operand} {g k:Nat} {a:TypeId} {v:Value} {cs:List Value} (hi:ops[q]?=some ⟨some d,.load t x,ty,pos,aft,none⟩) (f:hwp P n ops Q S r ((d,v) :: l) w) (b:opv l x=some (.pointer (some ⟨g,k,none⟩)):=by exact rfl) (h:Al B Γ w O:=by assumption) (hk:In Γ (.L i g a cs):=by exact In.go) (hc:cs[k]?=some v:=by exact rfl) (c:Sq S w O ls:=by exact Sq.go) (hj:dj [i] ls=true:=by exact rfl) (hd:Nat.blt d n=true:=by exact rfl) :
    hwp P n ops Q S ((q,true) :: r) l w:=Az hi (Bh (λ _ e=>Dy b (Blk.cell (h.LS hk c hj _ e) hc)) hd f)
theorem YV {i:Nat} {t:TypeId} [TAgg P t] {z:Value} {size bytes:Nat} [TInfo P t z size bytes] {x:Operand} {g:Nat} {a:TypeId} {cs:List Value} (f:hwp P n ops Q S r ((d,.agg cs.toArray) :: l) w) (b:opv l x=some (.pointer (some ⟨g,0,none⟩)):=by exact rfl) (h:Al B Γ w O:=by assumption) (hk:In Γ (.L i g a cs):=by exact In.go) (hl:cs.length=size:=by exact rfl) (c:Sq S w O ls:=by exact Sq.go) (hj:dj [i] ls=true:=by exact rfl) (hd:Nat.blt d n=true:=by exact rfl) :
    hwq P n ops Q S ⟨some d,.load t x,ty,pos,aft,none⟩ r l w:=Bh (λ _ e=>FB b hl (Blk.cellsAt (h.LS hk c hj _ e))) hd f
theorem Kf {i:Nat} {t:TypeId} [TAgg P t] {z:Value} {size bytes:Nat} [TInfo P t z size bytes] {x:Operand} {g:Nat} {a:TypeId} {cs:List Value} (hi:ops[q]?=some ⟨some d,.load t x,ty,pos,aft,none⟩) (f:hwp P n ops Q S r ((d,.agg cs.toArray) :: l) w) (b:opv l x=some (.pointer (some ⟨g,0,none⟩)):=by exact rfl) (h:Al B Γ w O:=by assumption) (hk:In Γ (.L i g a cs):=by exact In.go) (hl:cs.length=size:=by exact rfl) (c:Sq S w O ls:=by exact Sq.go) (hj:dj [i] ls=true:=by exact rfl) (hd:Nat.blt d n=true:=by exact rfl) :
    hwp P n ops Q S ((q,true) :: r) l w:=Az hi (Bh (λ _ e=>FB b hl (Blk.cellsAt (h.LS hk c hj _ e))) hd f)
theorem LL {i:Nat} {t:TypeId} [TOne P t] {x:Operand} {b o k:Nat} {v:Value} {cs:List Value} (hi:ops[q]?=some ⟨some d,.load t x,ty,pos,aft,none⟩) (f:hwp P n ops Q S r ((d,v) :: l) w) (a:opv l x=some (.pointer (some ⟨b,o + k,none⟩)):=by exact rfl) (g:Al B Γ w O:=by assumption) (hk:In Γ (.C i b o cs):=by exact In.go) (hc:cs[k]?=some v:=by exact rfl) (c:Sq S w O ls:=by exact Sq.go) (hj:dj [i] ls=true:=by exact rfl) (hd:Nat.blt d n=true:=by exact rfl) :
    hwp P n ops Q S ((q,true) :: r) l w:=Az hi (Bh (λ _ e=>Dy a (RN (g.CS hk c hj _ e) hc)) hd f)
theorem PR {i:Nat} {t:TypeId} [TOne P t] {x:Operand} {b o:Nat} {v:Value} {cs:List Value} (f:hwp P n ops Q S r ((d,v) :: l) w) (a:opv l x=some (.pointer (some ⟨b,o,none⟩)):=by exact rfl) (g:Al B Γ w O:=by assumption) (hk:In Γ (.C i b o (v :: cs)):=by exact In.go) (c:Sq S w O ls:=by exact Sq.go) (hj:dj [i] ls=true:=by exact rfl) (hd:Nat.blt d n=true:=by exact rfl) :
    hwq P n ops Q S ⟨some d,.load t x,ty,pos,aft,none⟩ r l w:=Bh (λ _ e=>Dy a (g.CS hk c hj _ e).1) hd f
theorem EE {i:Nat} {t:TypeId} [TOne P t] {x:Operand} {b o:Nat} {v:Value} {cs:List Value} (hi:ops[q]?=some ⟨some d,.load t x,ty,pos,aft,none⟩) (f:hwp P n ops Q S r ((d,v) :: l) w) (a:opv l x=some (.pointer (some ⟨b,o,none⟩)):=by exact rfl) (g:Al B Γ w O:=by assumption) (hk:In Γ (.C i b o (v :: cs)):=by exact In.go) (c:Sq S w O ls:=by exact Sq.go) (hj:dj [i] ls=true:=by exact rfl) (hd:Nat.blt d n=true:=by exact rfl) :
    hwp P n ops Q S ((q,true) :: r) l w:=Az hi (Bh (λ _ e=>Dy a (g.CS hk c hj _ e).1) hd f)
theorem PS {i:Nat} {t:TypeId} [TAgg P t] {z:Value} {size bytes:Nat} [TInfo P t z size bytes] {x:Operand} {b o:Nat} {cs:List Value} (hi:ops[q]?=some ⟨some d,.load t x,ty,pos,aft,none⟩) (f:hwp P n ops Q S r ((d,.agg cs.toArray) :: l) w) (a:opv l x=some (.pointer (some ⟨b,o,none⟩)):=by exact rfl) (g:Al B Γ w O:=by assumption) (hk:In Γ (.C i b o cs):=by exact In.go) (hl:cs.length=size:=by exact rfl) (c:Sq S w O ls:=by exact Sq.go) (hj:dj [i] ls=true:=by exact rfl) (hd:Nat.blt d n=true:=by exact rfl) :
    hwp P n ops Q S ((q,true) :: r) l w:=Az hi (Bh (λ _ e=>FB a hl (g.CS hk c hj _ e)) hd f)
theorem Ep {α:Type} [Rp α] {K:Bse->List Fa->World->Lab->Nat->Nat->Nat->α->Prop->Prop} [f:Ec α K] {t e:TypeId} [TSlice P t e] {z:Value} {size bytes:Nat} [TInfo P e z size bytes] {x y:Operand} {k:IntKind} {A:Option Addr} {i m c j:Nat} {a:α} {xs:List α} 
    (p:∀ b o,A=some ⟨b,o,none⟩->K B Γ w O i b (o + j * size) a (owp P n ops Q rest ((d,.pointer (some ⟨b,o + j * size,none⟩)) :: l) w)) (g:opv l x=some (.slice A m c):=by exact rfl) (h:opv l y=some (.int k (j:Int)):=by exact rfl) (q:Al B Γ w O:=by assumption) (hs:Hs Γ (.slice A m c) xs i:=by exact Hs.go) (hk:xs[j]?=some a:=by assumption) (hz:size=Rp.size α:=by exact rfl) (hd:Nat.blt d n=true:=by exact rfl) :
    owp P n ops Q (⟨some d,.indexAddr t x y,ty,pos,aft,none⟩ :: rest) l w:=by
  subst hz
  obtain ⟨b,o,cs,hA,hF,hlt,hc,hR⟩:=q.elem hs hk
  exact Bp (Hw g h hA rfl hlt) hd (f.ec q hF hc hR (p b o hA))
theorem YW {α:Type} [Rp α] {K:Bse->List Fa->World->Lab->Nat->Nat->Nat->α->Prop->Prop} [f:Ec α K] {t e:TypeId} [TSlice P t e] {z:Value} {size bytes:Nat} [TInfo P e z size bytes] {x y:Operand} {k:IntKind} {A:Option Addr} {i m c j:Nat} {a:α} {xs:List α} 
    (p:∀ b o,A=some ⟨b,o,none⟩->K B Γ w O i b (o + j * size) a (hwp P n ops Q S r ((d,.pointer (some ⟨b,o + j * size,none⟩)) :: l) w)) (g:opv l x=some (.slice A m c):=by exact rfl) (h:opv l y=some (.int k (j:Int)):=by exact rfl) (q:Al B Γ w O:=by assumption) (hs:Hs Γ (.slice A m c) xs i:=by exact Hs.go) (hk:xs[j]?=some a:=by assumption) (hz:size=Rp.size α:=by exact rfl) (hd:Nat.blt d n=true:=by exact rfl) :
    hwq P n ops Q S ⟨some d,.indexAddr t x y,ty,pos,aft,none⟩ r l w:=by
  subst hz
  obtain ⟨b,o,cs,hA,hF,hlt,hc,hR⟩:=q.elem hs hk
  exact Bh (λ _ _=>Hw g h hA rfl hlt) hd (f.ec q hF hc hR (p b o hA))
theorem HU {α:Type} [Rp α] {K:Bse->List Fa->World->Lab->Nat->Nat->Nat->α->Prop->Prop} [f:Ec α K] {t e:TypeId} [TSlice P t e] {z:Value} {size bytes:Nat} [TInfo P e z size bytes] {x y:Operand} {k:IntKind} {A:Option Addr} {i m c j:Nat} {a:α} {xs:List α} (hi:ops[q]?=some ⟨some d,.indexAddr t x y,ty,pos,aft,none⟩) 
    (p:∀ b o,A=some ⟨b,o,none⟩->K B Γ w O i b (o + j * size) a (hwp P n ops Q S r ((d,.pointer (some ⟨b,o + j * size,none⟩)) :: l) w)) (g:opv l x=some (.slice A m c):=by exact rfl) (h:opv l y=some (.int k (j:Int)):=by exact rfl) (s:Al B Γ w O:=by assumption) (hs:Hs Γ (.slice A m c) xs i:=by exact Hs.go) (hk:xs[j]?=some a:=by assumption) (hz:size=Rp.size α:=by exact rfl) (hd:Nat.blt d n=true:=by exact rfl) :
    hwp P n ops Q S ((q,true) :: r) l w:=by
  subst hz
  obtain ⟨b,o,cs,hA,hF,hlt,hc,hR⟩:=s.elem hs hk
  exact Az hi (Bh (λ _ _=>Hw g h hA rfl hlt) hd (f.ec s hF hc hR (p b o hA)))
theorem Jw {α:Type} [Rp α] {K:Bse->List Fa->World->Lab->Nat->Nat->Nat->α->Prop->Prop} [f:Ec α K] {t e:TypeId} [TSlice P t e] {z:Value} {size bytes:Nat} [TInfo P e z size bytes] {x y:Operand} {k:IntKind} {A:Option Addr} {i m c:Nat} {s:Int} {a:α} {xs:List α} 
    (j:∀ b o,A=some ⟨b,o,none⟩->s=(s.toNat:Int)->xs[s.toNat]?=some a->K B Γ w O i b (o + s.toNat * size) a (owp P n ops Q rest ((d,.pointer (some ⟨b,o + s.toNat * size,none⟩)) :: l) w)) (g:opv l x=some (.slice A m c):=by exact rfl) (h:opv l y=some (.int k s):=by exact rfl) (p:Al B Γ w O:=by assumption) (hs:Hs Γ (.slice A m c) xs i:=by exact Hs.go) (hk:atI xs s=some a:=by assumption) (hz:size=Rp.size α:=by exact rfl) (hd:Nat.blt d n=true:=by exact rfl) :
    owp P n ops Q (⟨some d,.indexAddr t x y,ty,pos,aft,none⟩ :: rest) l w:=by
  subst hz
  obtain ⟨hj,hk2⟩:=Br hk
  obtain ⟨b,o,cs,hA,hF,hlt,hc,hR⟩:=p.elem hs hk2
  exact Bp (Hw g h hA hj hlt) hd (f.ec p hF hc hR (j b o hA hj hk2))
theorem Wt {α:Type} [Rp α] {K:Bse->List Fa->World->Lab->Nat->Nat->Nat->α->Prop->Prop} [f:Ec α K] {t e:TypeId} [TSlice P t e] {z:Value} {size bytes:Nat} [TInfo P e z size bytes] {x y:Operand} {k:IntKind} {A:Option Addr} {i m c:Nat} {s:Int} {a:α} {xs:List α} 
    (j:∀ b o,A=some ⟨b,o,none⟩->s=(s.toNat:Int)->xs[s.toNat]?=some a->K B Γ w O i b (o + s.toNat * size) a (hwp P n ops Q S r ((d,.pointer (some ⟨b,o + s.toNat * size,none⟩)) :: l) w)) (g:opv l x=some (.slice A m c):=by exact rfl) (h:opv l y=some (.int k s):=by exact rfl) (p:Al B Γ w O:=by assumption) (hs:Hs Γ (.slice A m c) xs i:=by exact Hs.go) (hk:atI xs s=some a:=by assumption) (hz:size=Rp.size α:=by exact rfl) (hd:Nat.blt d n=true:=by exact rfl) :
    hwq P n ops Q S ⟨some d,.indexAddr t x y,ty,pos,aft,none⟩ r l w:=by
  subst hz
  obtain ⟨hj,hk2⟩:=Br hk
  obtain ⟨b,o,cs,hA,hF,hlt,hc,hR⟩:=p.elem hs hk2
  exact Bh (λ _ _=>Hw g h hA hj hlt) hd (f.ec p hF hc hR (j b o hA hj hk2))
theorem Fb {α:Type} [Rp α] {K:Bse->List Fa->World->Lab->Nat->Nat->Nat->α->Prop->Prop} [f:Ec α K] {t e:TypeId} [TSlice P t e] {z:Value} {size bytes:Nat} [TInfo P e z size bytes] {x y:Operand} {k:IntKind} {A:Option Addr} {i m c:Nat} {s:Int} {a:α} {xs:List α} (hi:ops[q]?=some ⟨some d,.indexAddr t x y,ty,pos,aft,none⟩) 
    (j:∀ b o,A=some ⟨b,o,none⟩->s=(s.toNat:Int)->xs[s.toNat]?=some a->K B Γ w O i b (o + s.toNat * size) a (hwp P n ops Q S r ((d,.pointer (some ⟨b,o + s.toNat * size,none⟩)) :: l) w)) (g:opv l x=some (.slice A m c):=by exact rfl) (h:opv l y=some (.int k s):=by exact rfl) (p:Al B Γ w O:=by assumption) (hs:Hs Γ (.slice A m c) xs i:=by exact Hs.go) (hk:atI xs s=some a:=by assumption) (hz:size=Rp.size α:=by exact rfl) (hd:Nat.blt d n=true:=by exact rfl) :
    hwp P n ops Q S ((q,true) :: r) l w:=by
  subst hz
  obtain ⟨hj,hk2⟩:=Br hk
  obtain ⟨b,o,cs,hA,hF,hlt,hc,hR⟩:=p.elem hs hk2
  exact Az hi (Bh (λ _ _=>Hw g h hA hj hlt) hd (f.ec p hF hc hR (j b o hA hj hk2)))
theorem GU {α:Type} [Rp α] {i:Nat} {t e:TypeId} {z:Value} {size bytes:Nat} [TInfo P t z size bytes] {x y:Operand} {b o k m c:Nat} {A:Option Addr} {u:Value} {a a':α} {xs:List α}
    {f:List Fa} (q:∀ w',Al B f w' O->owp P n ops Q rest l w') (g:opv l x=some (.pointer (some ⟨b,o + k * size,none⟩)):=by exact rfl) (h:opv l y=some u:=by exact rfl) (r:Al B Γ w O:=by assumption) (hA:A=some ⟨b,o,none⟩:=by assumption) (hs:In Γ (.R i e (.slice A m c) xs):=by exact In.go) (hk:xs[k]?=some a':=by assumption) (hu:Vb w (Fr 0 w O) u a:=by exact zV) (d:Z2 i (.R i e (.slice A m c) (xs.set k a)) Γ=some f:=by exact rfl) (hz:size=Rp.size α:=by exact rfl) (hi:Nat.ble 2 i=true:=by exact rfl) :
    owp P n ops Q (⟨none,.store t x y,ty,pos,aft,none⟩ :: rest) l w:=Fi hz (r.at hs) hu hA g h (AD hk) λ w' j p=>q w' (Al.so (f':=.R i e _ _) hi p r j d)
theorem Fj {α:Type} [Rp α] (i:Nat) {t e:TypeId} [TSlice P t e] {z:Value} {size bytes:Nat} [TInfo P e z size bytes] {x y:Operand} {k h:IntKind} {a:Int} {z0:α} {c:List α} (hm:mkI bytes z0 a=some c)
    (s:∀ g m w' f,Al B (.R i e (.slice (some ⟨g,0,none⟩) c.length m) c :: Γ) w' f->owp P n ops Q rest ((d,.slice (some ⟨g,0,none⟩) c.length m) :: l) w')
    (j:opv l x=some (.int k a):=by exact rfl) (o:opv l y=some (.int h a):=by exact rfl) (u:Al B Γ w O:=by assumption) (hz0:Vb w (Fr 0 w O) z z0:=by exact zV) (hz1:z.cells=#[z]:=by exact rfl) (b:size=Rp.size α:=by exact rfl) (p:Rp.size α=1:=by exact rfl) (hi:Nat.ble 2 i=true:=by exact rfl) (hd:Nat.blt d n=true:=by exact rfl) :
    owp P n ops Q (⟨some d,.makeSlice t x y,ty,pos,aft,none⟩ :: rest) l w:=by
  obtain ⟨m,rfl,e2,e3,rfl⟩:=EN hm
  exact Gp i (hi:=(λ e=>(JI hi).1 e.symm)) O (z0:=z0) b p hz1 j o rfl hz0 e2 e3 (hd:=hd) λ g w' f q r=>s g m w' f ⟨r,u.no q⟩
theorem Gx {α:Type} [Rp α] (i:Nat) (xs:List α) {t e:TypeId} [TSlice P t e] {z:Value} {size bytes a:Nat} [TInfo P e z size bytes] {ps:List (Nat×Operand)} {vs:List Value}
    (m:∀ g w' f,Al B (.R i e (.slice (some ⟨g,0,none⟩) xs.length a) xs :: Γ) w' f->owp P n ops Q rest ((d,.slice (some ⟨g,0,none⟩) xs.length a) :: l) w') (h:R6 l (ps.map (·.2))=some vs:=by exact rfl) (c:a=xs.length:=by exact rfl) (o:Al B Γ w O:=by assumption) (hv:Vall w (Fr 0 w O) vs xs:=by exact zVs) (b:size=Rp.size α:=by exact rfl) (hk:Aad 0 ps=true:=by exact rfl) (hz:a * size<=16777216:=by decide) (hm:a<=9223372036854775807:=by decide) (hi:Nat.ble 2 i=true:=by exact rfl) (hd:Nat.blt d n=true:=by exact rfl) :
    owp P n ops Q (⟨some d,.buildSlice t a ps.toArray,ty,pos,aft,none⟩ :: rest) l w:=DW i (hi:=(λ e=>(JI hi).1 e.symm)) O b (hk:=hk) h c hv (hz:=hz) (hm:=hm) hd λ g w' f j k=>m g w' f ⟨k,o.no j⟩
theorem Yh {α:Type} [Rp α] {w:World} {F:Nat->Prop}:Rd w F (.slice none 0 0) ([]:List α):=Vb.rd (Vb.nil _ _)
theorem NY {α:Type} [Rp α] {i:Nat} {t e:TypeId} [TSlice P t e] {z:Value} {size bytes:Nat} [TInfo P e z size bytes] {x y:Operand} {v u:Value} {xs ys b:List α} (he:R8 bytes xs ys=some b)
    {h:Option Addr->Nat->List Fa} (p:∀ A c w' f,Al B (h A c) w' f->owp P n ops Q rest ((d,.slice A b.length c) :: l) w') (j:opv l x=some v:=by exact rfl) (k:opv l y=some u:=by exact rfl) (q:Al B Γ w O:=by assumption) (hs:In Γ (.R i e v xs):=by exact In.go) (g:∀ A c,Z2 i (.R i e (.slice A b.length c) b) Γ=some (h A c):=by exact λ _ _=>rfl) (hu:Rd w (Fr 0 w O) u ys:=by first|exact Al.rd (by assumption) Hs.go|exact Yh) (a:size=Rp.size α:=by exact rfl) (hz0:0 < size:=by decide) (hi:Nat.ble 2 i=true:=by exact rfl) (hd:Nat.blt d n=true:=by exact rfl) :
    owp P n ops Q (⟨some d,.call { callee:=.builtin .append,args:=#[x,y],argTypes:=#[t,t] },ty,pos,aft,none⟩ :: rest) l w:=by
  obtain ⟨rfl,e2,e3⟩:=Bt he
  exact EL a (q.at hs) hu j k (hz0:=hz0) e2 e3 hd λ A c w' f m o=>p A c w' f (Al.so (f':=.R i e _ _) hi o q m (g A c))
theorem PT {α:Type} [Rp α] {d k:Tmp} {m:TypeId} {f:String} {h:Array Edge} {i:Nat} {t e:TypeId} [TSlice P t e] {z:Value} {size bytes:Nat} [TInfo P e z size bytes] {x y:Operand} {v u:Value} {a:α} {xs j:List α} (he:R8 bytes xs [a]=some j)
    {q:Option Addr->Nat->List Fa} (E:∀ g A c w' o,Al B (q A c) w' o->owp P n ops Q rest ((k,.slice A j.length c) :: (d,.slice (some ⟨g,0,none⟩) 1 1) :: l) w') (r:∀ g,opv ((d,.slice (some ⟨g,0,none⟩) 1 1) :: l) x=some v:=by exact λ _=>rfl) (s:opv l y=some u:=by exact rfl) (F:Al B Γ w O:=by assumption) (hs:In Γ (.R i e v xs):=by exact In.go) (p:∀ A c,Z2 i (.R i e (.slice A j.length c) j) Γ=some (q A c):=by exact λ _ _=>rfl) (hu:Vb w (Fr 0 w O) u a:=by exact zV) (b:size=Rp.size α:=by exact rfl) (hz0:0 < size:=by decide) (hz1:size<=1000:=by decide) (hi:Nat.ble 2 i=true:=by exact rfl) (hd:Nat.blt d n=true/\Nat.blt k n=true:=by exact ⟨rfl,rfl⟩) :
    owp P n ops Q (⟨some d,.buildSlice t 1 #[(0,y)],ty,pos,aft,none⟩ :: ⟨some k,.call { callee:=.builtin .append,args:=#[x,.tmp d],argTypes:=#[t,t] },m,f,h,none⟩ :: rest) l w:=by
  obtain ⟨rfl,e2,e3⟩:=Bt he
  exact FE b (F.at hs) hu r s (hz0:=hz0) (hz1:=hz1) e2 e3 hd λ g A c w' o C D=>E g A c w' o (Al.so (f':=.R i e _ _) hi D F C (p A c))
class Sc (α:Type) [Rp α]:Prop where
  sc:∀ {w:World} {F G:Nat->Prop} {v:Value} {x:α},Vb w F v x->Vb w G v x
instance:Sc Bool:=⟨λ a=>a⟩
instance:Sc Int:=⟨λ a=>a⟩
instance:Sc Err:=⟨λ a=>a⟩
theorem Dn {α:Type} [Rp α] {K:Bse->List Fa->World->Lab->α->(Value->Prop)->Prop} [b:El α K] {f:FuncId} [Callable P f] {xs:List Operand} {vs:List Value} {c:Array TypeId} {r:α} (e:R6 l xs=some vs) (hc:Fn P f vs w λ v w'=>Ext w w'/\Vb w' (upA (Fr 0 w O) w w') v r)
    (i:∀ w' a,K B Γ w' a r (λ u=>owp P n ops Q rest ((d,u) :: l) w')) (j:Al B Γ w O:=by assumption) (hd:Nat.blt d n=true:=by exact rfl) :
    owp P n ops Q (⟨some d,.call { callee:=.value (.func f),args:=xs.toArray,argTypes:=c },ty,pos,aft,none⟩ :: rest) l w:=Gw (R:=λ w' F v=>Vb w' F v r) hc e hd λ v w' a g h=>b.el (G:=λ u=>owp P n ops Q rest ((d,u) :: l) w') (j.no g) h (i w' a)
theorem DO {α:Type} [Rp α] [Sc α] {K:Bse->List Fa->World->Lab->α->(Value->Prop)->Prop} [b:El α K] {f:FuncId} [Callable P f] {xs:List Operand} {vs:List Value} {c:Array TypeId} {A:Nat->Prop} {r:α} (e:R6 l xs=some vs) (hc:Fn P f vs w λ v w'=>Ext w w'/\Vb w' (upA A w w') v r)
    (i:∀ w' a,K B Γ w' a r (λ u=>owp P n ops Q rest ((d,u) :: l) w')) (j:Al B Γ w O:=by assumption) (hd:Nat.blt d n=true:=by exact rfl) :
    owp P n ops Q (⟨some d,.call { callee:=.value (.func f),args:=xs.toArray,argTypes:=c },ty,pos,aft,none⟩ :: rest) l w:=LH (A:=A) (R:=λ w' F v=>Vb w' F v r) hc e hd λ v w' a g h=>b.el (G:=λ u=>owp P n ops Q rest ((d,u) :: l) w') (j.no g) (Sc.sc h) (i w' a)
theorem Zq {α:Type} [Rp α] [Sc α] {K:Bse->List Fa->World->Lab->α->(Value->Prop)->Prop} [b:El α K] {f:FuncId} [Callable P f] {xs:List Operand} {vs:List Value} {c:Array TypeId} {y:Operand} {A:Nat->Prop} {r:α} (e:opv l y=some (.func (.func f) #[] #[])) (g:R6 l xs=some vs) (hc:Fn P f vs w λ v w'=>Ext w w'/\Vb w' (upA A w w') v r)
    (j:∀ w' a,K B Γ w' a r (λ u=>owp P n ops Q rest ((d,u) :: l) w')) (k:Al B Γ w O:=by assumption) (hd:Nat.blt d n=true:=by exact rfl) :
    owp P n ops Q (⟨some d,.call { callee:=.value y,args:=xs.toArray,argTypes:=c },ty,pos,aft,none⟩ :: rest) l w:=PM (A:=A) (R:=λ w' F v=>Vb w' F v r) hc e g hd λ v w' a h i=>b.el (G:=λ u=>owp P n ops Q rest ((d,u) :: l) w') (k.no h) (Sc.sc i) (j w' a)
theorem UU {α β:Type} [Rp α] [Rp β]  {f:FuncId} [Callable P f] {xs:List Operand} {vs:List Value} {e:Array TypeId}  {r:α×β} (g:R6 l xs=some vs) (hc:Fn P f vs w λ v w'=>Ext w w'/\T2 w' (upA (Fr 0 w O) w w') v r)
    (j:∀ w' a (b c:Value),Al B Γ w' a->Vb w' (Fr 0 w' a) b r.1->Vb w' (Fr 0 w' a) c r.2->owp P n ops Q rest ((d,.tuple #[b,c]) :: l) w') (k:Al B Γ w O:=by assumption) (hd:Nat.blt d n=true:=by exact rfl) :
    owp P n ops Q (⟨some d,.call { callee:=.value (.func f),args:=xs.toArray,argTypes:=e },ty,pos,aft,none⟩ :: rest) l w:=Gw (R:=λ w' F v=>T2 w' F v r) hc g hd λ v w' a h i=>by
  obtain ⟨b,c,rfl,h0,h1⟩:=i
  exact j w' a b c (k.no h) h0 h1
theorem YX {α β:Type} [Rp α] [Rp β] [Sc α] [Sc β] {f:FuncId} [Callable P f] {xs:List Operand} {vs:List Value} {e:Array TypeId} {A:Nat->Prop} {r:α×β} (g:R6 l xs=some vs) (hc:Fn P f vs w λ v w'=>Ext w w'/\T2 w' (upA A w w') v r)
    (j:∀ w' a (b c:Value),Al B Γ w' a->Vb w' (Fr 0 w' a) b r.1->Vb w' (Fr 0 w' a) c r.2->owp P n ops Q rest ((d,.tuple #[b,c]) :: l) w') (k:Al B Γ w O:=by assumption) (hd:Nat.blt d n=true:=by exact rfl) :
    owp P n ops Q (⟨some d,.call { callee:=.value (.func f),args:=xs.toArray,argTypes:=e },ty,pos,aft,none⟩ :: rest) l w:=LH (A:=A) (R:=λ w' F v=>T2 w' F v r) hc g hd λ v w' a h i=>by
  obtain ⟨b,c,rfl,h0,h1⟩:=i
  exact j w' a b c (k.no h) (Sc.sc h0) (Sc.sc h1)
theorem KZ {α:Type} [Rp α] {K:Bse->List Fa->World->Lab->α->(Value->Prop)->Prop} [a:El α K] {x:α} {v:Value} {G:Value->Prop} (hv:Vb w (Fr 0 w O) v x) (b:K B Γ w O x G) (c:Al B Γ w O:=by assumption):G v:=a.el c hv b
theorem Zr {α:Type} [Rp α] (i:Nat) {f:FuncId} [Callable P f] {xs:List Operand} {vs:List Value} {b:Array TypeId} {e:TypeId} {r:List α} (g:R6 l xs=some vs) (hc:Fn P f vs w λ v w'=>Ext w w'/\RowR w w' (upA (Fr 0 w O) w w') e v r)
    (k:∀ A c w' a,Al B (.R i e (.slice A r.length c) r :: Γ) w' a->owp P n ops Q rest ((d,.slice A r.length c) :: l) w') (m:Al B Γ w O:=by assumption) (hi:Nat.ble 2 i=true:=by exact rfl) (hd:Nat.blt d n=true:=by exact rfl) :
    owp P n ops Q (⟨some d,.call { callee:=.value (.func f),args:=xs.toArray,argTypes:=b },ty,pos,aft,none⟩ :: rest) l w:=FF i (hi:=(λ e=>(JI hi).1 e.symm)) hc g hd λ A c w' a h j=>k A c w' a ⟨j,m.no h⟩
end
def pkO:List Nat→Env→Option Env
  | [],_=>some []
  | i :: K,l=>match lk l i with
    | none=>none
    | some v=>match pkO K l with
      | some E=>some ((i,v) :: E)
      | none=>none
def lkv (l:Env) (i:Nat):Value:=match lk l i with
  | some v=>v
  | none=>undef
def Ab2 (i:Nat):List Fa→Option Fa
  | []=>none
  | f :: Γ=>match Nat.beq f.own i with
    | true=>some f
    | false=>Ab2 i Γ
def Aag:List Nat→List Fa→Option (List Fa)
  | [],_=>some []
  | i :: T,Γ=>match Ab2 i Γ with
    | none=>none
    | some f=>match Aag T Γ with
      | some r=>some (f :: r)
      | none=>none
def AbY:List Nat→Fa→Bool
  | [],_=>true
  | i :: T,f=>match inK i f.lab with
    | true=>false
    | false=>match f.may i with
      | true=>AbY T f
      | false=>false
def Aae (T:List Nat):List Fa→Option (List Fa)
  | []=>some []
  | f :: Γ=>match Aae T Γ with
    | none=>none
    | some a=>match AbY T f with
      | true=>some (f :: a)
      | false=>some a
def fo:List Fa→Nat→Fa
  | [],_=>.T
  | f :: r,i=>match Nat.beq f.own i with
    | true=>f
    | false=>fo r i
def Fa.cl:Fa->List Value
  | .L _ _ _ cs=>cs
  | _=>[]
def Fa.bk:Fa->Nat
  | .L _ g _ _=>g
  | _=>0
def Fa.rv:Fa->Value
  | @Fa.R _ _ _ _ v _=>v
  | _=>undef
def Fa.re:Fa->TypeId
  | @Fa.R _ _ _ e _ _=>e
  | _=>0
def Ab1:List (Nat×Value)->List Value->List Value
  | [],cs=>cs
  | (i,v) :: r,cs=>Ab1 r (cs.set i v)
abbrev sv (x:Option Addr×Nat) {α:Type} (s:List α):Value:=.slice x.1 s.length x.2
abbrev pv (g:Nat):Value:=.pointer (some ⟨g,0,none⟩)
abbrev uR (f:Fa) (i:Nat) {α:Type} [Rp α] (s:List α):Fa:=.R i f.re f.rv s
abbrev uL (f:Fa) (i:Nat) (t:TypeId) (r:List (Nat×Value)):Fa:=.L i f.bk t (Ab1 r f.cl)
abbrev fV (x:Option Addr×Nat) {α:Type} [Rp α] (s:List α):Fa:=.V (sv x s) s
abbrev fR (i:Nat) (e:TypeId) (x:Option Addr×Nat) {α:Type} [Rp α] (s:List α):Fa:=.R i e (sv x s) s
abbrev fI (n:Int):Fa:=.X (P9 n)
theorem Sb.go {Γ a:List Fa} (b:Sb Γ a:=by ((repeat (first|exact Sb.nil|refine Sb.t ?_|refine Sb.x zI ?_|refine Sb.x zS ?_|refine Sb.v ?_|refine Sb.n rfl ?_|refine Sb.cons In.go ?_))<;>fail)):Sb Γ a:=b
theorem sb {l a:Env} (b:Q2 l a:=by ((repeat (first|exact trivial|refine ⟨rfl,?_⟩|refine ⟨BC (by assumption) _ _ rfl,?_⟩))<;>fail)):Q2 l a:=b
section
variable {P : Program} {m : Nat} {Q : Q8} {l : Env} {w : World} {B : Bse} {Γ : List Fa} {O : Lab} {σ X κ : Type} {r : κ}
theorem BY {n:Nat} {c:Code} {a:Env} (b:ewp P n c Q a w) (hs:Q2 l a:=by assumption):ewp P n c Q l w:=Bg _ hs b
theorem DT {t i n inc:Tmp} {b b' r1 r2:Nat} {ty1 ty2 ty3 y1 y2 y3 y4:TypeId} {p1 p2 p3:String} {a1 a2 a3:Array Edge} {body:Code} {α:Type} [Rp α] {f:Nat→α→σ→Option (Ctl σ κ)} {xs:List α} {s₀:σ} {g:σ→Option κ} (hm:bnd (rng f xs 0 s₀) (λ res=>fin res g)=some r)
    (K VK T OL:List Nat) (Ch:(Nat->Value)->(Nat->Fa)->σ->X->Env->Env) (U:(Nat->Value)->(Nat->Fa)->σ->X->List Fa->List Fa) {E0 E1:Env} {Δ Δ1:List Fa} (x₀:X)
    (hb:∀ k a s x w' O' c,f k a s=some c->xs[k]?=some a->P9 (k:Int)->(∀ r',c=.ret r'->r'=r)->Al B (U (lkv E1) (fo Δ1) s x Δ) w' O' ->
      ewp P m body (S0 b' (thn (λ l' w''=>∃ s' x',c=.next s'/\Q2 l' (rgE i n xs.length k (Ch (lkv E1) (fo Δ1) s' x' E0))/\∃ O'',Al B (U (lkv E1) (fo Δ1) s' x' Δ) w'' O'') (S0 b (thn (λ _ _=>False) Q)))) ((t,.bool true) :: rgE i n xs.length k (Ch (lkv E1) (fo Δ1) s x E0)) w')
    (hk:∀ s x l' w' O',g s=some r->Q2 l' (Ch (lkv E1) (fo Δ1) s x E0)->Al B (U (lkv E1) (fo Δ1) s x Δ) w' O'->Q .normal l' w')
    (H:Al B Γ w O:=by assumption) (hE:pkO K l=some E0:=by exact rfl) (hV:pkO VK l=some E1:=by exact rfl) (hD:Aae T Γ=some Δ:=by exact rfl) (hO:Aag OL Γ=some Δ1:=by exact rfl) (hN:xs.length<=9223372036854775807:=by exact zM) (hs:Q2 l (rgE i n xs.length 0 (Ch (lkv E1) (fo Δ1) s₀ x₀ E0)):=by exact sb) (h0:Sb Γ (U (lkv E1) (fo Δ1) s₀ x₀ Δ):=by exact Sb.go) (hy:∀ s x,kys [t,i,n,inc] (Ch (lkv E1) (fo Δ1) s x E0)=true:=by exact λ _ _=>rfl) (ht:Nat.blt t m=true/\Nat.blt i m=true/\Nat.blt inc m=true:=by exact ⟨rfl,rfl,rfl⟩) (hne:Nat.beq i n=false/\Nat.beq inc n=false:=by exact ⟨rfl,rfl⟩) :
    ewp P m (.block b (.loop (.seq (.region r1 #[⟨some t,.binOp .lss ty1 (.tmp i) (.tmp n) ty2,y1,p1,a1,none⟩] false) (.seq (.cond (.tmp t) .skip (.exit b)) (.seq (.block b' body)
      (.region r2 #[⟨some inc,.binOp .add ty3 (.tmp i) (.const (.int .i64 1)) y4,y2,p2,a2,none⟩,⟨some i,.move (.tmp inc),y3,p3,a3,none⟩] false)))))) Q l w:=by
  obtain ⟨res,hL,hm⟩:=bs hm
  refine EB xs.length hL rfl hN (λ s x=>Ch (lkv E1) (fo Δ1) s x E0) (λ s x w'=>∃ O',Al B (U (lkv E1) (fo Δ1) s x Δ) w' O') x₀ ⟨O,H.sub h0⟩ hs hy ?_ ?_ ht hne
  . rintro k a s x w' c ha ⟨O',hA⟩ hf hr -
    refine Gv ?_ (hb k a s x w' O' c hf ha (U9 ha hN) (λ r' e=>?_) hA)
    . intro e l' w' hq
      cases e with
      | normal=>exact hq
      | exit j =>
        simp only [S0,thn] at hq ⊢
        cases h1:Nat.beq j b' with
        | true=>rw [h1] at hq;exact hq
        | false =>
          rw [h1] at hq
          simp only at hq ⊢
          cases h2:Nat.beq j b with
          | true=>rw [h2] at hq;exact hq.elim
          | false=>rw [h2] at hq;exact hq
      | panic c=>exact hq
      | outgrown=>exact hq
      | goto j=>exact hq
      | ret=>exact hq
    . have:=hr r' e
      subst this
      exact L1 (Eb hm)
  . rintro l' w' ⟨s,x,rfl,h1,O',h2⟩
    exact hk s x l' w' O' hm h1 h2
theorem Tz {t i n inc:Tmp} {b b' r1 r2:Nat} {ty1 ty2 ty3 y1 y2 y3 y4:TypeId} {p1 p2 p3:String} {a1 a2 a3:Array Edge} {body:Code} {f:Nat→σ→Option (Ctl σ κ)} {N₀:Nat} {s₀:σ} {g:σ→Option κ} (hm:bnd (ZA f N₀ s₀) (λ res=>fin res g)=some r)
    (K VK T OL:List Nat) (Ch:(Nat->Value)->(Nat->Fa)->σ->X->Env->Env) (U:(Nat->Value)->(Nat->Fa)->σ->X->List Fa->List Fa) {E0 E1:Env} {Δ Δ1:List Fa} (x₀:X)
    (hb:∀ k s x w' O' c,f k s=some c->k < N₀->P9 (k:Int)->(∀ r',c=.ret r'->r'=r)->Al B (U (lkv E1) (fo Δ1) s x Δ) w' O' ->
      ewp P m body (S0 b' (thn (λ l' w''=>∃ s' x',c=.next s'/\Q2 l' (rgE i n N₀ k (Ch (lkv E1) (fo Δ1) s' x' E0))/\∃ O'',Al B (U (lkv E1) (fo Δ1) s' x' Δ) w'' O'') (S0 b (thn (λ _ _=>False) Q)))) ((t,.bool true) :: rgE i n N₀ k (Ch (lkv E1) (fo Δ1) s x E0)) w')
    (hk:∀ s x l' w' O',g s=some r->Q2 l' (Ch (lkv E1) (fo Δ1) s x E0)->Al B (U (lkv E1) (fo Δ1) s x Δ) w' O'->Q .normal l' w')
    (H:Al B Γ w O:=by assumption) (hE:pkO K l=some E0:=by exact rfl) (hV:pkO VK l=some E1:=by exact rfl) (hD:Aae T Γ=some Δ:=by exact rfl) (hO:Aag OL Γ=some Δ1:=by exact rfl) (hN:N₀<=9223372036854775807:=by exact zM) (hs:Q2 l (rgE i n N₀ 0 (Ch (lkv E1) (fo Δ1) s₀ x₀ E0)):=by exact sb) (h0:Sb Γ (U (lkv E1) (fo Δ1) s₀ x₀ Δ):=by exact Sb.go) (hy:∀ s x,kys [t,i,n,inc] (Ch (lkv E1) (fo Δ1) s x E0)=true:=by exact λ _ _=>rfl) (ht:Nat.blt t m=true/\Nat.blt i m=true/\Nat.blt inc m=true:=by exact ⟨rfl,rfl,rfl⟩) (hne:Nat.beq i n=false/\Nat.beq inc n=false:=by exact ⟨rfl,rfl⟩) :
    ewp P m (.block b (.loop (.seq (.region r1 #[⟨some t,.binOp .lss ty1 (.tmp i) (.tmp n) ty2,y1,p1,a1,none⟩] false) (.seq (.cond (.tmp t) .skip (.exit b)) (.seq (.block b' body)
      (.region r2 #[⟨some inc,.binOp .add ty3 (.tmp i) (.const (.int .i64 1)) y4,y2,p2,a2,none⟩,⟨some i,.move (.tmp inc),y3,p3,a3,none⟩] false)))))) Q l w:=by
  obtain ⟨res,hL,hm⟩:=bs hm
  refine PN N₀ hL hN (λ s x=>Ch (lkv E1) (fo Δ1) s x E0) (λ s x w'=>∃ O',Al B (U (lkv E1) (fo Δ1) s x Δ) w' O') x₀ ⟨O,H.sub h0⟩ hs hy ?_ ?_ ht hne
  . rintro k s x w' c ha ⟨O',hA⟩ hf hr -
    refine Gv ?_ (hb k s x w' O' c hf ha (AaW ha hN) (λ r' e=>?_) hA)
    . intro e l' w' hq
      cases e with
      | normal=>exact hq
      | exit j =>
        simp only [S0,thn] at hq ⊢
        cases h1:Nat.beq j b' with
        | true=>rw [h1] at hq;exact hq
        | false =>
          rw [h1] at hq
          simp only at hq ⊢
          cases h2:Nat.beq j b with
          | true=>rw [h2] at hq;exact hq.elim
          | false=>rw [h2] at hq;exact hq
      | panic c=>exact hq
      | outgrown=>exact hq
      | goto j=>exact hq
      | ret=>exact hq
    . have:=hr r' e
      subst this
      exact L1 (Eb hm)
  . rintro l' w' ⟨s,x,rfl,h1,O',h2⟩
    exact hk s x l' w' O' hm h1 h2
theorem Yi {t i n inc:Tmp} {b b' r1 r2:Nat} {ty1 ty2 ty3 y1 y2 y3 y4:TypeId} {p1 p2 p3:String} {a1 a2 a3:Array Edge} {body:Code} {zi:Int} {f:Nat->Nat->σ->Option (Ctl σ κ)} {s₀:σ} {g:Nat->σ->Option κ} (hm:bnd (Aab zi) (λ N=>bnd (ZA (f N) N s₀) (λ res=>fin res (g N)))=some r)
    (K VK T OL:List Nat) (Ch:(Nat->Value)->(Nat->Fa)->σ->X->Env->Env) (U:(Nat->Value)->(Nat->Fa)->σ->X->List Fa->List Fa) {E0 E1:Env} {Δ Δ1:List Fa} (x₀:X)
    (hb:∀ N₀ k s x w' O' c,f N₀ k s=some c->zi=(N₀:Int)->k < N₀->P9 (k:Int)->(∀ r',c=.ret r'->r'=r)->Al B (U (lkv E1) (fo Δ1) s x Δ) w' O' ->
      ewp P m body (S0 b' (thn (λ l' w''=>∃ s' x',c=.next s'/\Q2 l' (rgE i n N₀ k (Ch (lkv E1) (fo Δ1) s' x' E0))/\∃ O'',Al B (U (lkv E1) (fo Δ1) s' x' Δ) w'' O'') (S0 b (thn (λ _ _=>False) Q)))) ((t,.bool true) :: rgE i n N₀ k (Ch (lkv E1) (fo Δ1) s x E0)) w')
    (hk:∀ N₀ s x l' w' O',g N₀ s=some r->Q2 l' (Ch (lkv E1) (fo Δ1) s x E0)->Al B (U (lkv E1) (fo Δ1) s x Δ) w' O'->Q .normal l' w')
    (H:Al B Γ w O:=by assumption) (hE:pkO K l=some E0:=by exact rfl) (hV:pkO VK l=some E1:=by exact rfl) (hD:Aae T Γ=some Δ:=by exact rfl) (hO:Aag OL Γ=some Δ1:=by exact rfl) (hz:P9 zi:=by exact zI) (hs:Q2 l ((i,.int .i64 ((0:Nat):Int)) :: (n,.int .i64 zi) :: (Ch (lkv E1) (fo Δ1) s₀ x₀ E0)):=by exact sb) (h0:Sb Γ (U (lkv E1) (fo Δ1) s₀ x₀ Δ):=by exact Sb.go) (hy:∀ s x,kys [t,i,n,inc] (Ch (lkv E1) (fo Δ1) s x E0)=true:=by exact λ _ _=>rfl) (ht:Nat.blt t m=true/\Nat.blt i m=true/\Nat.blt inc m=true:=by exact ⟨rfl,rfl,rfl⟩) (hne:Nat.beq i n=false/\Nat.beq inc n=false:=by exact ⟨rfl,rfl⟩) :
    ewp P m (.block b (.loop (.seq (.region r1 #[⟨some t,.binOp .lss ty1 (.tmp i) (.tmp n) ty2,y1,p1,a1,none⟩] false) (.seq (.cond (.tmp t) .skip (.exit b)) (.seq (.block b' body)
      (.region r2 #[⟨some inc,.binOp .add ty3 (.tmp i) (.const (.int .i64 1)) y4,y2,p2,a2,none⟩,⟨some i,.move (.tmp inc),y3,p3,a3,none⟩] false)))))) Q l w:=by
  obtain ⟨N,hN,hm⟩:=bs hm
  replace hN:=KW hN
  subst hN
  exact Tz hm K VK T OL Ch U x₀ (λ k s x w' O' c h1=>hb N k s x w' O' c h1 rfl) (λ s x l' w' O'=>hk N s x l' w' O') H hE hV hD hO (rngNat' hz) hs h0 hy ht hne
theorem SH {c:Code} {f:σ→Option (Ctl σ κ)} {s₀:σ} {b:Nat} {g:σ→Option κ} (hm:bnd (lop f s₀) (λ q=>fin q g)=some r) (K F T G:List Nat) (A:(Nat→Value)→(Nat→Fa)→σ→X→Env→Env) (S:(Nat→Value)→(Nat→Fa)→σ→X→List Fa→List Fa) {z d:Env} {p a:List Fa} (H:List Nat) (E:(Nat→Value)→(Nat→Fa)→σ→X→Env→Env) {C:Env} (h:X)
    (hb:∀ s x w' i y,f s=some y->(∀ r',y=.ret r'->r'=r)->Al B (S (lkv d) (fo a) s x p) w' i ->
      ewp P m c (thn (λ n t=>∃ o u,y=.next o/\Q2 n (A (lkv d) (fo a) o u z)/\∃ v,Al B (S (lkv d) (fo a) o u p) t v) (S0 b (thn (λ n t=>∃ o u,y=.brk o/\Q2 n (E (lkv d) (fo a) o u C)/\∃ v,Al B (S (lkv d) (fo a) o u p) t v) Q))) (A (lkv d) (fo a) s x z) w')
    (hk:∀ s x n w' i,g s=some r->Q2 n (E (lkv d) (fo a) s x C)->Al B (S (lkv d) (fo a) s x p) w' i->Q .normal n w')
    (U:Al B Γ w O:=by assumption) (L:pkO K l=some z:=by exact rfl) (M:pkO F l=some d:=by exact rfl) (N:Aae T Γ=some p:=by exact rfl) (R:Aag G Γ=some a:=by exact rfl) (I:pkO H l=some C:=by exact rfl) (hs:Q2 l (A (lkv d) (fo a) s₀ h z):=by exact sb) (J:Sb Γ (S (lkv d) (fo a) s₀ h p):=by exact Sb.go):ewp P m (.block b (.loop c)) Q l w:=by
  obtain ⟨q,hL,hm⟩:=bs hm
  refine Bi (aft q (λ s x=>E (lkv d) (fo a) s x C) (λ s x w'=>∃ i,Al B (S (lkv d) (fo a) s x p) w' i)) (Bx ?_) ?_
  . refine Ex hL (λ s x=>A (lkv d) (fo a) s x z) _ (λ s x w'=>∃ i,Al B (S (lkv d) (fo a) s x p) w' i) _ h ⟨O,U.sub J⟩ hs ?_
    rintro s x w' y ⟨i,hA⟩ hf hr hbk
    refine Gv ?_ (hb s x w' i y hf (λ r' e=>?_) hA)
    . intro e n w' k
      cases e with
      | normal=>exact k
      | exit j =>
        simp only [S0,thn] at k ⊢
        cases D:Nat.beq j b with
        | true =>
          rw [D] at k
          obtain ⟨o,u,h3,h4,h5⟩:=k
          exact ⟨o,u,hbk _ h3,h4,h5⟩
        | false=>rw [D] at k;exact k
      | panic c=>exact k
      | outgrown=>exact k
      | goto j=>exact k
      | ret=>exact k
    . have:=hr r' e
      subst this
      exact L1 (Eb hm)
  . rintro n w' ⟨s,x,rfl,h1,i,D⟩
    exact hk s x n w' i hm h1 D
theorem DE {c:Code} {y:Option σ} {g:σ->Option κ} (hm:bnd y g=some r) (K j T k:List Nat) (i:(Nat->Value)->(Nat->Fa)->σ->X->Env->Env) (v:(Nat->Value)->(Nat->Fa)->σ->X->List Fa->List Fa) {f d:Env} {h a:List Fa}
    (n:∀ s,y=some s->ewp P m c (thn (λ b w'=>∃ x,Q2 b (i (lkv d) (fo a) s x f)/\∃ e,Al B (v (lkv d) (fo a) s x h) w' e) Q) l w)
    (o:∀ s x b w' e,g s=some r->Q2 b (i (lkv d) (fo a) s x f)->Al B (v (lkv d) (fo a) s x h) w' e->Q .normal b w') (z:Al B Γ w O:=by assumption) (p:pkO K l=some f:=by exact rfl) (q:pkO j l=some d:=by exact rfl) (t:Aae T Γ=some h:=by exact rfl) (u:Aag k Γ=some a:=by exact rfl):ewp P m c Q l w:=by
  obtain ⟨s,h3,h4⟩:=bs hm
  refine Bi _ (n s h3) ?_
  rintro b w' ⟨x,h5,e,h6⟩
  exact o s x b w' e h4 h5 h6
theorem DF {E:σ->X->Env} {F:σ->X->List Fa} {a:σ} {c:Ctl σ κ} (b:X) (hc:some (Ctl.next a)=some c) {d:Env} (hs:Q2 d (E a b):=by exact sb) (f:Al B Γ w O:=by assumption) (hb:Sb Γ (F a b):=by exact Sb.go) :
    ∃ a b,c=.next a/\Q2 d (E a b)/\∃ e,Al B (F a b) w e:=⟨a,b,(L1 hc).symm,hs,O,f.sub hb⟩
theorem UV {E:σ->X->Env} {F:σ->X->List Fa} {a:σ} {c:Ctl σ κ} (b:X) (hc:some (Ctl.brk a)=some c) {d:Env} (hs:Q2 d (E a b):=by exact sb) (f:Al B Γ w O:=by assumption) (hb:Sb Γ (F a b):=by exact Sb.go) :
    ∃ a b,c=.brk a/\Q2 d (E a b)/\∃ e,Al B (F a b) w e:=⟨a,b,(L1 hc).symm,hs,O,f.sub hb⟩
theorem BA {E:X->Env} {F:X->List Fa} (a:X) {b:Env} (hs:Q2 b (E a):=by exact sb) (d:Al B Γ w O:=by assumption) (hb:Sb Γ (F a):=by exact Sb.go) :
    ∃ a,Q2 b (E a)/\∃ c,Al B (F a) w c:=⟨a,hs,O,d.sub hb⟩
end
theorem zL {l:Env} {i:Nat} {v:Value} (a:lk l i=some v:=by first|exact rfl|exact BC (by assumption) _ _ rfl):lk l i=some v:=a
theorem zRa {P:Program} {l:Env} {w:World} {B:Bse} {Γ:List Fa} {O:Lab} {b:Tmp} {t a:TypeId} [TAgg P t] {z:Value} {size bytes:Nat} [TInfo P t z size bytes] {i g:Nat} {cs:List Value} (c:lk l b=some (.pointer (some ⟨g,0,none⟩)):=by exact zL) (d:Al B Γ w O:=by assumption) (hk:In Γ (.L i g a cs):=by exact In.go) (hl:cs.length=size:=by exact rfl):Q9 P l w (.cell b t) (.agg cs.toArray):=Dc c hl (d.blk hk).cellsAt
theorem zRo {P:Program} {l:Env} {w:World} {B:Bse} {Γ:List Fa} {O:Lab} {b:Tmp} {t a:TypeId} [TOne P t] {i g:Nat} {v:Value} {cs:List Value} (c:lk l b=some (.pointer (some ⟨g,0,none⟩)):=by exact zL) (d:Al B Γ w O:=by assumption) (hk:In Γ (.L i g a (v :: cs)):=by exact In.go):Q9 P l w (.cell b t) v:=Tm c (Blk.cell (i:=0) (d.blk hk) rfl)
theorem zR {P:Program} {l:Env} {w:World} {q:ResultVar} {v:Value} (a:Q9 P l w q v:=by first
  | exact Bc zL
  | exact zRo
  | exact zRa):Q9 P l w q v:=a
section
variable {P : Program} {l : Env} {w w0 : World} {A : Nat → Prop} {Γ : List Fa} {O : Lab} {fn : Func}
theorem Cl {α:Type} [Rp α] {b:ResultVar} {c:Value} {a:α} (d:fn.results=#[b]:=by exact rfl) (e:Q9 P l w b c:=by exact zR) (g:Al (bS w0 A) Γ w O:=by assumption) (f:Vb w (Fr 0 w O) c a:=by exact zV):Q4 P fn (λ v w'=>Ext w0 w'/\Vb w' (upA A w0 w') v a) .ret l w :=
  T8 d e ⟨g.base.ext,f.mono g.base.out⟩
theorem Jx {α β:Type} [Rp α] [Rp β] {b c:ResultVar} {d e:Value} {a:α×β} (f:fn.results=#[b,c]:=by exact rfl) (g:Q9 P l w b d:=by exact zR) (h:Q9 P l w c e:=by exact zR) (k:Al (bS w0 A) Γ w O:=by assumption) (i:Vb w (Fr 0 w O) d a.1:=by exact zV) (j:Vb w (Fr 0 w O) e a.2:=by exact zV):Q4 P fn (λ v w'=>Ext w0 w'/\T2 w' (upA A w0 w') v a) .ret l w :=
  T4 f g h ⟨k.base.ext,_,_,rfl,i.mono k.base.out,j.mono k.base.out⟩
theorem UW {α β b:Type} [Rp α] [Rp β] [Rp b] {c d e:ResultVar} {f g h:Value} {a:α×β×b} (i:fn.results=#[c,d,e]:=by exact rfl) (j:Q9 P l w c f:=by exact zR) (k:Q9 P l w d g:=by exact zR) (m:Q9 P l w e h:=by exact zR) (q:Al (bS w0 A) Γ w O:=by assumption) (n:Vb w (Fr 0 w O) f a.1:=by exact zV) (o:Vb w (Fr 0 w O) g a.2.1:=by exact zV) (p:Vb w (Fr 0 w O) h a.2.2:=by exact zV):Q4 P fn (λ v w'=>Ext w0 w'/\T3 w' (upA A w0 w') v a) .ret l w :=
  Aca i j k m ⟨q.base.ext,_,_,_,rfl,n.mono q.base.out,o.mono q.base.out,p.mono q.base.out⟩
end
theorem CW {w:World} {A:Nat->Prop} (hA:∀ k,A k->k < w.heap.size):∃ O,Al (bS w A) [] w O/\∀ k,A k->Fr 0 w O k:=by
  obtain ⟨O,hB,hz⟩:=enter hA
  exact ⟨O,hB,hz⟩
theorem Cj {α:Type} [Rp α] {K:Bse->List Fa->World->Lab->α->(Value->Prop)->Prop} [a:El α K] {B:Bse} {Γ:List Fa} {A:Nat->Prop} {w:World} {O:Lab} {x:α} {v:Value} (hv:Vb w A v x) {G:Value->Prop} (b:K B Γ w O x G) (c:Al B Γ w O:=by assumption) (hz:∀ k,A k->Fr 0 w O k:=by assumption):G v:=a.el c (hv.mono hz) b
section
variable {P : Program} {n : Nat} {ops : Array Oper} {Q : Q8} {l : Env} {w w0 : World} {B : Bse} {Γ : List Fa} {O O0 : Lab}
theorem Hj [Mixed P] {id:Nat} {b:List Oper} (a:List (Nat×List Nat)) (c:hwx P n b.toArray Q a w O b.toArray.size (Array.replicate b.toArray.size false) l w) (d:Al B Γ w O:=by assumption):ewp P n (.region id b.toArray true) Q l w:=Bl a O c
theorem NZ [Mixed P] {id:Nat} {d:List Oper} (a:List (Nat×Bool)) (e:hwp P n d.toArray Q (·=w) a l w) (hs:Region.noSelect d.toArray=true:=by kernel_rfl) (b:a.length=d.toArray.size:=by exact rfl) (c:ordOk d.toArray (Array.replicate d.toArray.size false) a=true:=by kernel_rfl):ewp P n (.region id d.toArray true) Q l w:=Dd (·=w) a (hs:=hs) b (hc:=c) rfl e
theorem Bv {c:List (Nat×List Nat)} {fuel i:Nat} {a:Array Bool} {ls:List Nat} (b:List (Nat×List Nat)) (d:hwx P n ops Q b w O fuel (a.setIfInBounds i true) l w) (e:Al B Γ w O:=by assumption) (hk:In Γ (.S w0 O0 ls):=by exact In.go) (hs:(ls.all ((tcs c (a.setIfInBounds i true)).contains ·) && b.all (c.contains ·))=true:=by kernel_rfl):owp P n ops (U0 P n ops Q c w0 O0 i fuel a) [] l w:=AV b (e.at hk) (hs:=hs) d
end
end
section
open Go Go.RowKit
instance:Ec Fct λ B a w O i b o x G=>P9 x.var->P9 x.val->Al B (.C i b o [(.int .i64 x.var),(.int .i64 x.val)] :: .V (.agg #[(.int .i64 x.var),(.int .i64 x.val)]) x :: a) w O->G:=⟨λ {_ _ _ _ _ _ _ x _ _} d c hc e k=>by
  have hv:=Vb.ofAgg (x:=x) rfl e
  obtain ⟨rfl,r1,r2⟩:=e
  exact k r1 r2 ⟨⟨c,hc⟩,hv,d⟩⟩
instance:El Eff λ B d w O x G=>∀ (a:Option Addr) (b:Nat),P9 x.var->P9 x.val->Al B (.V (.slice a x.cond.length b) x.cond :: .V (.agg #[(.slice a x.cond.length b),(.int .i64 x.var),(.int .i64 x.val)]) x :: d) w O->G (.agg #[(.slice a x.cond.length b),(.int .i64 x.var),(.int .i64 x.val)]):=⟨λ e f k=>by
  have c:=f
  unfold Vb at c
  obtain ⟨cs,rfl,v1,rfl,h2,r5,r6⟩:=c
  obtain ⟨a,b,rfl⟩:=h2.form
  exact k a b r5 r6 ⟨h2,f,e⟩⟩
instance:Ec Eff λ B d w O i b o x G=>∀ (a:Option Addr) (c:Nat),P9 x.var->P9 x.val->Al B (.C i b o [(.slice a x.cond.length c),(.int .i64 x.var),(.int .i64 x.val)] :: .V (.slice a x.cond.length c) x.cond :: .V (.agg #[(.slice a x.cond.length c),(.int .i64 x.var),(.int .i64 x.val)]) x :: d) w O->G:=⟨λ {_ _ _ _ _ _ _ x _ _} g e hc h k=>by
  have hv:=Vb.ofAgg (x:=x) rfl h
  obtain ⟨f,rfl,h2,r5,r6⟩:=h
  obtain ⟨a,c,rfl⟩:=h2.form
  exact k a c r5 r6 ⟨⟨e,hc⟩,h2,hv,g⟩⟩
instance:El Opr λ B f w O x G=>∀ (a:Option Addr) (b:Nat) (c:Option Addr) (d:Nat),x.name.size<=9223372036854775807->P9 x.cost->Al B (.V (.slice a x.pre.length b) x.pre :: .V (.slice c x.effs.length d) x.effs :: .V (.agg #[(.string x.name),(.int .i64 x.cost),(.slice a x.pre.length b),(.slice c x.effs.length d)]) x :: f) w O->G (.agg #[(.string x.name),(.int .i64 x.cost),(.slice a x.pre.length b),(.slice c x.effs.length d)]):=⟨λ g h k=>by
  have e:=h
  unfold Vb at e
  obtain ⟨cs,rfl,v1,v2,rfl,h3,h6,r9,z10⟩:=e
  obtain ⟨a,b,rfl⟩:=h3.form
  obtain ⟨c,d,rfl⟩:=h6.form
  exact k a b c d z10 r9 ⟨h3,h6,h,g⟩⟩
instance:Ec Opr λ B f w O i b o x G=>∀ (a:Option Addr) (c:Nat) (d:Option Addr) (e:Nat),x.name.size<=9223372036854775807->P9 x.cost->Al B (.C i b o [(.string x.name),(.int .i64 x.cost),(.slice a x.pre.length c),(.slice d x.effs.length e)] :: .V (.slice a x.pre.length c) x.pre :: .V (.slice d x.effs.length e) x.effs :: .V (.agg #[(.string x.name),(.int .i64 x.cost),(.slice a x.pre.length c),(.slice d x.effs.length e)]) x :: f) w O->G:=⟨λ {_ _ _ _ _ _ _ x _ _} j g hc l k=>by
  have hv:=Vb.ofAgg (x:=x) rfl l
  obtain ⟨h,v2,rfl,h3,h6,r9,z10⟩:=l
  obtain ⟨a,c,rfl⟩:=h3.form
  obtain ⟨d,e,rfl⟩:=h6.form
  exact k a c d e z10 r9 ⟨⟨g,hc⟩,h3,h6,hv,j⟩⟩
instance:El Tsk λ B j w O x G=>∀ (f:Option Addr) (g:Nat) (h:Option Addr) (a:Nat) (b:Option Addr) (c:Nat) (d:Option Addr) (e:Nat),Al B (.V (.slice f x.vars.length g) x.vars :: .V (.slice h x.init.length a) x.init :: .V (.slice b x.goal.length c) x.goal :: .V (.slice d x.ops.length e) x.ops :: .V (.agg #[(.slice f x.vars.length g),(.slice h x.init.length a),(.slice b x.goal.length c),(.slice d x.ops.length e)]) x :: j) w O->G (.agg #[(.slice f x.vars.length g),(.slice h x.init.length a),(.slice b x.goal.length c),(.slice d x.ops.length e)]):=⟨λ l m k=>by
  have i:=m
  unfold Vb at i
  obtain ⟨cs,rfl,v1,v2,v3,v4,rfl,h5,h8,h11,h14⟩:=i
  obtain ⟨f,g,rfl⟩:=h5.form
  obtain ⟨h,a,rfl⟩:=h8.form
  obtain ⟨b,c,rfl⟩:=h11.form
  obtain ⟨d,e,rfl⟩:=h14.form
  exact k f g h a b c d e ⟨h5,h8,h11,h14,m,l⟩⟩
end
section
open Go Go.RowKit
attribute [local irreducible] ewp owp hwp hwq hws Ev Evg Fn Q4 R7 R2 Q9
noncomputable def EJ (a:Int):Option Bool :=
  bnd (if a≠a then (some true) else (some false):Option Bool) λ b=>some b
section
attribute [local irreducible] Vb Lc Rw Ob
theorem Ji {w:World} {A:Nat->Prop} (hA:∀ k,A k->k < w.heap.size) {b:Int} (e:P9 b) {r:Bool} (hm:EJ b=some r) :
    Fn prog 98 [(.int .i64 b)] w λ v w'=>Ext w w'/\Vb w' (upA A w w') v r:=by
 obtain ⟨_,_,_⟩:=CW hA
 refine AK func98 rfl ntmps98 ?_
 unfold EJ at hm
 refine Am (Ah (Au rfl (o_z (Am (DE (X:=Unit) hm [] [] [] [] (λ _ _ c _ t=>(2,.bool c) :: t) (λ _ _ _ _ t=>t) ?_ ?_)))))
 ·
  intro c a
  refine Ah (At rfl (At rfl (JZ rfl rfl (λ d=>?_) λ d=>?_)))
  ·
   replace a:=ip a d
   refine Au rfl (o_z ?_)
   obtain rfl:=sm a
   exact BA ()
  replace a:=im a d
  refine Au rfl (o_z ?_)
  obtain rfl:=sm a
  exact BA ()
 intro c _ _ _ _ hm;intros
 refine BY ?_
 refine AM ?_
 obtain rfl:=sm hm
 exact Cl
end
noncomputable def CM (b:Int) (c:Int):Option Int :=
  bnd (bnd (EJ b) λ e=>if e=true then some true else some false:Option Bool) λ f=>bnd (bnd (EJ c) λ d=>if d=true then some true else some false:Option Bool) λ a=>if f=true then (if a=true then (some 0) else (some (-1))) else (if a=true then (some 1) else (if b < c then (some (-1)) else (if c < b then (some 1) else (some 0))))
section
attribute [local irreducible] Vb Lc Rw Ob
theorem FT {w:World} {A:Nat->Prop} (hA:∀ k,A k->k < w.heap.size) {c:Int} (l:P9 c) {d:Int} (m:P9 d) {r:Int} (hm:CM c d=some r) :
    Fn prog 73 [(.int .i64 c),(.int .i64 d)] w λ v w'=>Ext w w'/\Vb w' (upA A w w') v r:=by
 obtain ⟨_,_,_⟩:=CW hA
 refine AK func73 rfl ntmps73 ?_
 unfold CM at hm
 refine Am (Ah (Au rfl (o_z (Am (DE (X:=Unit) hm [0,1] [] [] [] (λ _ _ e _ t=>(5,.bool e) :: t) (λ _ _ _ _ t=>t) ?_ ?_)))))
 ·
  intro e a
  refine Ah (At rfl ?_)
  obtain ⟨n,e9,a⟩:=bs a
  refine DO rfl (Ji (λ _ p=>p) zI e9) ?_;intros
  cases n
  case false =>
   replace a:=iF a
   refine Au rfl (o_z ?_)
   obtain rfl:=sm a
   exact BA ()
  replace a:=iT a
  refine Au rfl (o_z ?_)
  obtain rfl:=sm a
  exact BA ()
 intro e _ _ _ _ hm;intros
 refine BY ?_
 refine Am (DE (X:=Unit) hm [0,1,5] [] [] [] (λ _ _ c0 _ t=>(6,.bool c0) :: t) (λ _ _ _ _ t=>t) ?_ ?_)
 ·
  intro c0 b
  refine Ah (At rfl ?_)
  obtain ⟨o,j0,b⟩:=bs b
  refine DO rfl (Ji (λ _ p=>p) zI j0) ?_;intros
  cases o
  case false =>
   replace b:=iF b
   refine Au rfl (o_z ?_)
   obtain rfl:=sm b
   exact BA ()
  replace b:=iT b
  refine Au rfl (o_z ?_)
  obtain rfl:=sm b
  exact BA ()
 intro c0 _ _ _ _ hm;intros
 refine BY ?_
 refine Am (Am (Ah (At rfl (o_z (BP rfl (λ f=>?_) (λ f=>?_))))))
 ·
  replace hm:=ip hm f
  refine Am (Am (Ah (At rfl (o_z (BP rfl (λ g=>?_) (λ g=>?_))))))
  ·
   replace hm:=ip hm g
   refine Am (Ah (Au rfl (o_z (AM ?_))))
   obtain rfl:=sm hm
   exact Cl
  replace hm:=im' hm g
  refine AN (Am (Ah (Au rfl (o_z (AM ?_)))))
  obtain rfl:=sm hm
  exact Cl
 replace hm:=im' hm f
 refine AN (Am (Am (Ah (At rfl (o_z (BP rfl (λ h=>?_) (λ h=>?_)))))))
 ·
  replace hm:=ip hm h
  refine Am (Ah (Au rfl (o_z (AM ?_))))
  obtain rfl:=sm hm
  exact Cl
 replace hm:=im' hm h
 refine AN (Am (Am (Ah (At rfl (At rfl (Eq rfl rfl (λ i=>?_) λ i=>?_))))))
 ·
  replace hm:=ip hm i
  refine o_z (Aj rfl (Am (Ah (Au rfl (o_z (AM ?_))))))
  obtain rfl:=sm hm
  exact Cl
 replace hm:=im hm i
 refine o_z (Ae rfl (AN (Am (Am (Ah (At rfl (At rfl (Er rfl rfl (λ j=>?_) λ j=>?_))))))))
 ·
  replace hm:=ip hm j
  refine o_z (Aj rfl (Am (Ah (Au rfl (o_z (AM ?_))))))
  obtain rfl:=sm hm
  exact Cl
 replace hm:=im hm j
 refine o_z (Ae rfl (AN (Am (Ah (Au rfl (o_z (AM ?_)))))))
 obtain rfl:=sm hm
 exact Cl
end
end
section
open Go Go.RowKit
class TMap (P:Program) (t:TypeId) (k e:outParam TypeId):Prop where eq:P.underlying t=some (.map k e)
class MKey (K:Type) where
  dec:DecidableEq K
  enc:K->Value
  desc:TypeDesc
  key:∀ a,MapKept.IsKey desc (enc a)
  inj:∀ a b,enc a=enc b->a=b
class TKey (P:Program) (t:TypeId) (K:Type) [MKey K]:Prop where eq:P.underlying t=some (MKey.desc K)
instance:MKey ByteArray where
  dec:=inferInstance
  enc a:=.string a
  desc:=.string
  key _:=trivial
  inj _ _ h:=by injection h
section
variable {K V : Type} [MKey K]
instance keyDec:DecidableEq K:=MKey.dec
def mhas:List (K×V)->K->Bool
  | [],_=>false
  | p :: r,k=>if p.1=k then true else mhas r k
def mget (z:V):List (K×V)->K->V
  | [],_=>z
  | p :: r,k=>if p.1=k then p.2 else mget z r k
def R3:List (K×V)->K->V->List (K×V)
  | [],k,v=>[(k,v)]
  | p :: r,k,v=>if p.1=k then (k,v) :: r else p :: R3 r k v
def V4:List (K×V)->K->Option Nat
  | [],_=>none
  | p :: r,k=>if p.1=k then some 0 else (V4 r k).map (· + 1)
theorem FG (a:K):∀ (c:List MapEntry) (x:List (K×V)) (i:Nat),c.map (·.key)=x.map (λ p=>MKey.enc p.1) →
    (V4 x a=none/\Instr.findNow (MKey.desc K) (MKey.enc a) c i=some none/\mhas x a=false/\(∀ z,mget z x a=z)/\∀ v,R3 x a v=x ++ [(a,v)]) \/
    ∃ j e p,V4 x a=some j/\c[j]?=some e/\x[j]?=some p/\Instr.findNow (MKey.desc K) (MKey.enc a) c i=some (some (i + j,e.val))/\e.key=MKey.enc a/\mhas x a=true/\(∀ z,mget z x a=p.2)/\∀ v,R3 x a v=x.set j (a,v)
  | [],[],_,_=>.inl ⟨rfl,rfl,rfl,λ _=>rfl,λ _=>rfl⟩
  | [],_ :: _,_,h=>by simp at h
  | _ :: _,[],_,h=>by simp at h
  | e :: c,p :: x,i,h=>by
    rw [M7,M7] at h
    injection h with d g
    obtain ⟨r,hr,hiff⟩:=MapKept.sameNow_of_keys (MKey.key a) (MKey.key p.1)
    by_cases b:p.1=a
    . have:r=true:=hiff.2 (by rw [b])
      subst this
      refine .inr ⟨0,e,p,by simp [V4,b],rfl,rfl,?_,by rw [d,b],by simp [mhas,b],λ z=>by simp [mget,b],λ v=>by simp [R3,b]⟩
      simp [Instr.findNow,d,hr]
    . have:r=false:=by
        cases r with
        | false=>rfl
        | true=>exact absurd (MKey.inj _ _ (hiff.1 rfl)).symm b
      subst this
      rcases FG a c x (i + 1) g with ⟨f,g1,g2,g3,g4⟩|⟨j,e',p',f,g1,g2,g3,g4,g5,g6,g7⟩
      . exact .inl ⟨by simp [V4,b,f],by simp [Instr.findNow,d,hr,g1],by simp [mhas,b,g2],λ z=>by simp [mget,b,g3],λ v=>by simp [R3,b,g4]⟩
      . refine .inr ⟨j + 1,e',p',by simp [V4,b,f],by simpa using g1,by simpa using g2,?_,g4,by simp [mhas,b,g5],λ z=>by simp [mget,b,g6],λ v=>by simp [R3,b,g7]⟩
        simp [Instr.findNow,d,hr,g3];omega
end
def LkV (d:TypeDesc) (z:Value) (w:World) (r:Nat) (c v:Value) (b:Bool):Prop:=∃ e ck a,w.heap[r]?=some (.map e ck)/\Instr.findNow d c e.toList 0=some a/\v=(match a with|some p=>p.2|none=>z)/\b=a.isSome
theorem LkV.keep {d:TypeDesc} {z:Value} {w w':World} {r:Nat} {c v:Value} {b:Bool} (g:LkV d z w r c v b) (e:w'.heap[r]?=w.heap[r]?):LkV d z w' r c v b:=by
  obtain ⟨f,ck,a,h1,h2⟩:=g
  exact ⟨f,ck,a,e.trans h1,h2⟩
section
variable {P : Program} {l : Env} {w : World} {dst : Option Tmp} {ty : TypeId} {pos : String} {aft : Array Edge}
theorem Wu {K:Type} [MKey K] {t k e:TypeId} [f:TMap P t k e] [hk:TKey P k K] {z:Value} {size bytes:Nat} [TInfo P e z size bytes] {x y:Operand} {r:Nat} {a:K} {v:Value} {b:Bool} (g:opv l x=some (.map (some r))) (h:opv l y=some (MKey.enc a)) (hv:LkV (MKey.desc K) z w r (MKey.enc a) v b) :
    Ev P ⟨dst,.lookup t x y false,ty,pos,aft,none⟩ l w v:=λ _ _ d c=>by
  obtain ⟨i,ck,q,h1,h2,h3,h4⟩:=hv
  have hb:(dr w d).heap[r]?=some (.map i ck):=h1
  subst h3
  cases q with
  | none=>simp [execOp,c.eval g,c.eval h,Instr.lookup,run_underlying f.eq,D7 hb,G0 hk.eq (MKey.key a),G8 hk.eq h2,Result.andThen,Hh (P:=P) (t:=e)]
  | some p=>simp [execOp,c.eval g,c.eval h,Instr.lookup,run_underlying f.eq,D7 hb,G0 hk.eq (MKey.key a),G8 hk.eq h2,Result.andThen]
theorem Yj {K:Type} [MKey K] {t k e:TypeId} [f:TMap P t k e] [hk:TKey P k K] {z:Value} {size bytes:Nat} [TInfo P e z size bytes] {x y:Operand} {r:Nat} {a:K} {v:Value} {b:Bool} (g:opv l x=some (.map (some r))) (h:opv l y=some (MKey.enc a)) (hv:LkV (MKey.desc K) z w r (MKey.enc a) v b) :
    Ev P ⟨dst,.lookup t x y true,ty,pos,aft,none⟩ l w (.tuple #[v,.bool b]):=λ _ _ d c=>by
  obtain ⟨i,ck,q,h1,h2,h3,h4⟩:=hv
  have hb:(dr w d).heap[r]?=some (.map i ck):=h1
  subst h3;subst h4
  cases q with
  | none=>simp [execOp,c.eval g,c.eval h,Instr.lookup,run_underlying f.eq,D7 hb,G0 hk.eq (MKey.key a),G8 hk.eq h2,Result.andThen,Hh (P:=P) (t:=e)]
  | some p=>simp [execOp,c.eval g,c.eval h,Instr.lookup,run_underlying f.eq,D7 hb,G0 hk.eq (MKey.key a),G8 hk.eq h2,Result.andThen]
end
def X8 (a:List MapEntry) (ck:Nat) (key v:Value):Option Nat->List MapEntry
  | none=>a ++ [{ key:=key,val:=v,born:=ck }]
  | some j=>a.modify j λ e=>{ e with key:=key,val:=v }
section
variable {P : Program} {n : Nat} {ops : Array Oper} {Q : Q8} {rest : List Oper} {l : Env} {w : World} {d : Tmp} {ty : TypeId} {pos : String} {aft : Array Edge}
theorem PU {K V:Type} [MKey K] {t k e:TypeId} [s:TMap P t k e] [hk:TKey P k K] {x y u:Operand} {r ck:Nat} {a:K} {v:Value} {b:List MapEntry} {xs:List (K×V)} (hb:w.heap[r]?=some (.map b.toArray ck)) (i:b.map (·.key)=xs.map (λ p=>MKey.enc p.1)) (z:opv l x=some (.map (some r))) (A:opv l y=some (MKey.enc a)) (hu:opv l u=some v)
    (E:∀ w' g,(ck<=g/\(V4 xs a=none->ck < g))->w'.os=w.os->w'.tape=w.tape->w'.output=w.output->w'.heap.size=w.heap.size->w'.heap[r]?=some (.map (X8 b ck (MKey.enc a) v (V4 xs a)).toArray g)->(∀ q,q≠r->w'.heap[q]?=w.heap[q]?)->owp P n ops Q rest l w'):owp P n ops Q (⟨none,.mapUpdate t x y u,ty,pos,aft,none⟩ :: rest) l w:=λ B d f=>by
  refine wpList_plain rfl λ D C=>?_
  have c:(dr w d).heap[r]?=some (.map b.toArray ck):=hb
  unfold Oper.wp
  rcases FG a b xs 0 i with ⟨h,g1,_⟩|⟨j,e',p,h,g1,g2,g3,g4,_⟩
  . have hr:(execOp B.eval ⟨none,.mapUpdate t x y u,ty,pos,aft,none⟩).run P (dr w d)=.ok .skip { (dr w d) with heap:=(dr w d).heap.setIfInBounds r (.map (b.toArray.push { key:=MKey.enc a,val:=v,born:=ck }) (ck + 1)) }:=by
      simp [execOp,f.eval z,f.eval A,f.eval hu,Instr.mapUpdate,run_underlying s.eq,D7 c,G0 hk.eq (MKey.key a),G8 hk.eq g1,D8 _ c,Result.andThen]
    rw [hr]
    refine C _ _ (E { w with heap:=w.heap.setIfInBounds r (.map (b.toArray.push { key:=MKey.enc a,val:=v,born:=ck }) (ck + 1)) } (ck + 1) ⟨by omega,λ _=>by omega⟩ rfl rfl rfl (by simp) ?_ (λ q m=>(K3 hb).2 q m) _ d f)
    rw [h]
    simpa [X8] using (K3 hb).1
  . have hj:b.toArray[j]?=some e':=by simpa using g1
    have o:b[j]?=some e':=g1
    rw [N4] at g3
    have hr:(execOp B.eval ⟨none,.mapUpdate t x y u,ty,pos,aft,none⟩).run P (dr w d)=.ok .skip { (dr w d) with heap:=(dr w d).heap.setIfInBounds r (.map (b.toArray.modify j λ e=>{ e with key:=MKey.enc a,val:=v }) ck) }:=by
      simp [execOp,f.eval z,f.eval A,f.eval hu,Instr.mapUpdate,run_underlying s.eq,D7 c,G0 hk.eq (MKey.key a),G8 hk.eq g3,o,g4,MapKept.run_keyThatStays (MKey.key a),D8 _ c,Result.andThen]
    rw [hr]
    refine C _ _ (E { w with heap:=w.heap.setIfInBounds r (.map (b.toArray.modify j λ e=>{ e with key:=MKey.enc a,val:=v }) ck) } ck ⟨P1 _,λ e=>by rw [h] at e;cases e⟩ rfl rfl rfl (by simp) ?_ (λ q m=>(K3 hb).2 q m) _ d f)
    rw [h]
    have:=(K3 (o':=.map (b.toArray.modify j λ e=>{ e with key:=MKey.enc a,val:=v }) ck) hb).1
    simpa [X8] using this
theorem La {t:TypeId} (hd:Nat.blt d n=true) (c:∀ w',Ext w w'->w'.heap.size=w.heap.size + 1->w'.heap[w.heap.size]?=some (.map #[] 0)->owp P n ops Q rest ((d,.map (some w.heap.size)) :: l) w'):owp P n ops Q (⟨some d,.makeMap t none,ty,pos,aft,none⟩ :: rest) l w :=
  GE (w':=w.alloc (.map #[] 0)) (λ a e b=>.inl ⟨.map (some w.heap.size),e,by simp [execOp,Instr.makeMap];exact ⟨rfl,rfl⟩,b.put hd _⟩)
    (c _ ((P7 _ _).alloc (P1 _) _) (by simp) (by show (w.heap.push _)[_]?=_;simp))
end
theorem Nk {K V:Type} [MKey K] {b:List MapEntry} {xs:List (K×V)} (ck:Nat) (a:K) (v:Value) (y:V) (e:b.map (·.key)=xs.map (λ p=>MKey.enc p.1)):(X8 b ck (MKey.enc a) v (V4 xs a)).map (·.key)=(R3 xs a y).map (λ p=>MKey.enc p.1):=by
  rcases FG a b xs 0 e with ⟨c,_,_,_,g4⟩|⟨j,e',p,c,g1,g2,g3,g4,_,_,g7⟩
  . rw [c,g4];simp [X8,e]
  . rw [c,g7]
    simp only [X8,N7,<- e]
    apply I3
    intro q
    rw [I4,G1,I5]
    by_cases d:j=q
    . subst d
      have hlt:j < b.length:=AD g1
      simp [g1,hlt]
    . simp [d]
structure MapP (K V:Type) where
  l:List (K×V)
def VA {V:Type} [Rp V] (w:World) (F:Nat->Prop) (a:List MapEntry) {K:Type} (xs:List (K×V)):Prop:=∀ (j:Nat) (e:MapEntry) (p:K×V),a[j]?=some e->xs[j]?=some p->Vb w F e.val p.2
instance {K V:Type} [MKey K] [Rp V]:Ow (MapP K V) where
  R w F M v x:=∃ (r:Nat) (a:List MapEntry) (ck:Nat),v=.map (some r)/\w.heap[r]?=some (.map a.toArray ck)/\M r/\a.map (·.key)=x.l.map (λ p=>MKey.enc p.1)/\VA w F a x.l
  agree:=by rintro w w' F M v x ⟨r,a,ck,rfl,hb,hM,hk,hv⟩ a1 a2;exact ⟨r,a,ck,rfl,(a2 r hM).trans hb,hM,hk,λ j e p b c=>(hv j e p b c).agree a1⟩
  mono:=by rintro w F M d f v x ⟨r,a,ck,rfl,hb,hM,hk,hv⟩ a1 a2 a3;exact ⟨r,a,ck,rfl,hb,a2 r hM,hk,λ j e p b c=>(hv j e p b c).mono a1⟩
class OwM (α:Type) [Ow α]:Prop where
  mptr:∀ {w:World} {F M:Nat->Prop} {v:Value} {x:α},Ow.R w F M v x->∃ r,v=.map (some r)
theorem Ob.mptr {α:Type} [Ow α] [OwM α] {i:Nat} {w:World} {O:Lab} {v:Value} {x:α} (a:Ob i w O v x):∃ r,v=.map (some r):=OwM.mptr a.1
instance {K V:Type} [MKey K] [Rp V]:OwM (MapP K V):=⟨by rintro w F M v x ⟨r,es,ck,rfl,_⟩;exact ⟨r,rfl⟩⟩
theorem VA.put {K V:Type} [MKey K] [Rp V] {w:World} {F:Nat→Prop} {d:List MapEntry} {xs:List (K×V)} {ck:Nat} {a:K} {v:Value} {y:V} (hk:d.map (·.key)=xs.map (λ p=>MKey.enc p.1)) (i:VA w F d xs) (hv:Vb w F v y):VA w F (X8 d ck (MKey.enc a) v (V4 xs a)) (R3 xs a y):=by
  have h:d.length=xs.length:=by have:=congrArg List.length hk;simpa using this
  intro q e p b c
  rcases FG a d xs 0 hk with ⟨g,_,_,_,g4⟩|⟨j,e',p',g,g1,g2,g3,g4,_,_,g7⟩
  . rw [g] at b
    rw [g4] at c
    simp only [X8] at b
    by_cases f:q < d.length
    . rw [B8 f] at b
      rw [B8 (by omega)] at c
      exact i q e p b c
    . rw [B4 (by omega)] at b
      rw [B4 (by omega)] at c
      cases hz:q - d.length with
      | zero =>
        rw [hz] at b
        rw [show q - xs.length=0 from by omega] at c
        simp at b c
        subst b;subst c
        exact hv
      | succ m=>rw [hz] at b;simp at b
  . rw [g] at b
    rw [g7] at c
    simp only [X8] at b
    rw [G1] at b
    rw [I5] at c
    by_cases f:j=q
    . subst f
      have hlt:=AD g2
      rw [g1] at b
      simp [hlt] at b c
      subst b;subst c
      exact hv
    . simp [f] at b c
      exact i q e p b c
section
variable {K V : Type} [MKey K] [Rp V] {i : Nat} {w : World} {O : Lab} {r : Nat} {x : MapP K V}
theorem MapP.get (d:Ob i w O (.map (some r)) x) (a:K) {z:Value} {z0:V} (hz:Vb w (Fr 0 w O) z z0):∃ v,LkV (MKey.desc K) z w r (MKey.enc a) v (mhas x.l a)/\Vb w (Fr 0 w O) v (mget z0 x.l a):=by
  obtain ⟨⟨r',b,ck,hv,hb,hM,hk,hva⟩,_⟩:=d
  injection hv with hv
  injection hv with hv
  subst hv
  rcases FG a b x.l 0 hk with ⟨c,g1,g2,g3,g4⟩|⟨j,e',p,c,g1,g2,g3,g4,g5,g6,g7⟩
  . exact ⟨z,⟨_,ck,none,hb,by simpa using g1,rfl,g2⟩,by rw [g3];exact hz⟩
  . exact ⟨e'.val,⟨_,ck,some (0 + j,e'.val),hb,by simpa using g3,rfl,g5⟩,by rw [g6];exact hva j e' p g1 g2⟩
end
section
variable {P : Program} {n : Nat} {ops : Array Oper} {Q : Q8} {rest : List Oper} {l : Env} {w : World} {d : Tmp} {ty : TypeId} {pos : String} {aft : Array Edge} {K V : Type} [MKey K] {i : Nat} {O : Lab} {r : Nat}
theorem Yk [Rp V] {x:MapP K V} {t k e:TypeId} [TMap P t k e] [TKey P k K] {m y u:Operand} {a:K} {v:Value} {b:V} (h:Ob i w O (.map (some r)) x) (hv:Vb w (Fr 0 w O) v b) (o:opv l m=some (.map (some r))) (s:opv l y=some (MKey.enc a)) (hu:opv l u=some v)
    (J:∀ w',St (eT i) w O w' O->Ob i w' O (.map (some r)) (⟨R3 x.l a b⟩:MapP K V)->owp P n ops Q rest l w'):owp P n ops Q (⟨none,.mapUpdate t m y u,ty,pos,aft,none⟩ :: rest) l w:=by
  obtain ⟨⟨r',es,ck,c,hb,hM',hk,hva⟩,hi⟩:=h
  injection c with c
  injection c with c
  subst c
  refine PU hb hk o s hu λ w' d _ z A B C D E=>?_
  have f:St (eT i) w O w' O:=⟨z,A,B,by omega,λ q I F=>⟨E q λ e=>F (by rw [e];exact hM'.2),rfl⟩⟩
  have g:¬ (eT i) 0:=λ e=>hi e.symm
  refine J w' f ⟨⟨r,_,d,rfl,D,⟨by rw [C];exact hM'.1,hM'.2⟩,Nk ck a v b hk,?_⟩,hi⟩
  have:=hva.put (ck:=ck) hk hv (a:=a)
  exact λ j e p G H=>((this j e p G H).agree (f.agree g)).mono (f.fr g)
theorem WH [Rp V] {t:TypeId} (i:Nat) (hi:i≠0) (O:Lab) (hd:Nat.blt d n=true) (f:∀ g w' a,St nT w O w' a->Ob i w' a (.map (some g)) (⟨[]⟩:MapP K V)->owp P n ops Q rest ((d,.map (some g)) :: l) w'):owp P n ops Q (⟨some d,.makeMap t none,ty,pos,aft,none⟩ :: rest) l w :=
  La hd λ w' b hs hb=>f _ w' _ (b.st O λ _=>i) ⟨⟨w.heap.size,[],0,rfl,hb,⟨by omega,Ff (P1 _)⟩,rfl,λ j e p c _=>by simp at c⟩,hi⟩
end
section
variable {P : Program} {n : Nat} {ops : Array Oper} {Q : Q8} {rest : List Oper} {l : Env} {w : World} {d : Tmp} {ty : TypeId} {pos : String} {aft : Array Edge} {S : World → Prop} {rr : List (Nat × Bool)} {i' : Nat}
theorem Zt {K:Type} [MKey K] {t k e:TypeId} [TMap P t k e] [TKey P k K] {z:Value} {size bytes:Nat} [TInfo P e z size bytes] {x y:Operand} {r:Nat} {v:Value} {b:Bool} (a:K) (hv:LkV (MKey.desc K) z w r (MKey.enc a) v b) (c:opv l x=some (.map (some r))) (f:opv l y=some (MKey.enc a)) (hd:Nat.blt d n=true) (g:owp P n ops Q rest ((d,v) :: l) w):owp P n ops Q (⟨some d,.lookup t x y false,ty,pos,aft,none⟩ :: rest) l w:=Bp (Wu c f hv) hd g
theorem YY {K:Type} [MKey K] {t k e:TypeId} [TMap P t k e] [TKey P k K] {z:Value} {size bytes:Nat} [TInfo P e z size bytes] {x y:Operand} {r:Nat} {v:Value} {b:Bool} (a:K) (hv:LkV (MKey.desc K) z w r (MKey.enc a) v b) (c:opv l x=some (.map (some r))) (f:opv l y=some (MKey.enc a)) (hd:Nat.blt d n=true) (g:owp P n ops Q rest ((d,.tuple #[v,.bool b]) :: l) w):owp P n ops Q (⟨some d,.lookup t x y true,ty,pos,aft,none⟩ :: rest) l w:=Bp (Yj c f hv) hd g
theorem Yl {K:Type} [MKey K] {t k e:TypeId} [TMap P t k e] [TKey P k K] {z:Value} {size bytes:Nat} [TInfo P e z size bytes] {x y:Operand} {r:Nat} {v:Value} {b:Bool} (a:K) (hv:∀ w',S w'->LkV (MKey.desc K) z w' r (MKey.enc a) v b) (hi:ops[i']?=some ⟨some d,.lookup t x y false,ty,pos,aft,none⟩) (c:opv l x=some (.map (some r))) (f:opv l y=some (MKey.enc a)) (hd:Nat.blt d n=true) (h:hwp P n ops Q S rr ((d,v) :: l) w):hwp P n ops Q S ((i',true) :: rr) l w:=Az hi (Bh (λ w' g=>Wu c f (hv w' g)) hd h)
end
end
section
open Go Go.RowKit
structure Raw (a:Bool) (n:Nat) where
  cs:List Value
  len:cs.length=n
  one:∀ u∈cs,u.oneCell'=true
instance {a:Bool} {n:Nat}:Rp (Raw a n) where
  isAgg:=a
  size:=n
  R _ _ cs x:=cs=x.cs
  len:=by rintro _ _ cs x rfl;exact x.len
  one:=by rintro _ _ cs x rfl;exact x.one
  agree:=by rintro _ _ _ cs x rfl _;rfl
  mono:=by rintro _ _ _ cs x rfl _;rfl
class NestAt (α β:Type) [Rp α] [Rp β] where
  q:Nat
  get:α->List β
  put:α->List β->α
  get_put:∀ x y,get (put x y)=y
  put_put:∀ x y z,put (put x y) z=put x z
  split:∀ {w F cs x},Rp.R w F cs x->Rp.R w F (cs.set q (.slice none 0 0)) (put x [])/\∃ v,cs[q]?=some v/\Vb w F v (get x)
  join:∀ {w F cs x v},Rp.R w F (cs.set q (.slice none 0 0)) (put x [])->cs[q]?=some v->Vb w F v (get x)->Rp.R w F cs x
def Nest {α β:Type} [Rp α] [Rp β] [N:NestAt α β] {a:Bool} {n:Nat} (j:Nat) (w:World) (O:Lab) (e:TypeId) (rs:List (Raw a n)) (xs:List α) (skip:Option Nat):Prop :=
  (∃ c:Lab,rs.length=xs.length/\∀ (k:Nat) (r:Raw a n) (x:α),rs[k]?=some r->xs[k]?=some x ->
    Rp.R w (Fr 0 w O) (r.cs.set N.q (.slice none 0 0)) (N.put x [])/\(skip≠some k->∃ v,r.cs[N.q]?=some v/\RwM w (Fr 0 w O) (λ b=>Fr j w O b/\c b=k) e v (N.get x)))/\j≠0
section
variable {α β : Type} [Rp α] [Rp β] [N : NestAt α β] {a : Bool} {n i j l : Nat} {T : Nat → Prop} {w w' : World} {O O' : Lab} {e : TypeId} {rs : List (Raw a n)} {xs : List α} {skip : Option Nat}
theorem Nest.st (h:Nest (β:=β) j w O e rs xs skip) (a:St T w O w' O') (c:¬ T 0:=by decide) (hj:¬ T j:=by decide):Nest (β:=β) j w' O' e rs xs skip:=by
  obtain ⟨⟨i,hl,hr⟩,h1⟩:=h
  refine ⟨⟨i,hl,λ k r x d f=>⟨Rp.mono (Rp.agree (hr k r x d f).1 (a.agree c)) (a.fr c),λ g=>?_⟩⟩,h1⟩
  obtain ⟨v,hv,hm⟩:=(hr k r x d f).2 g
  exact ⟨v,hv,(hm.agree (a.agree c) λ b hb=>a.agree hj b hb.1).mono (a.fr c) (λ b hb=>⟨a.fr hj b hb.1,hb.2⟩) λ b hf hm=>S4 h1 b hf hm.1⟩
theorem Nest.nil (hj:j≠0):Nest (α:=α) (β:=β) (a:=a) (n:=n) j w O e [] [] none:=⟨⟨λ _=>0,rfl,λ k r x b=>by simp at b⟩,hj⟩
theorem Nest.snoc (A:Nest (β:=β) j w O e rs xs none) {r:Raw a n} {x:α} {v:Value} (hr:Rp.R w (Fr 0 w O) (r.cs.set N.q (.slice none 0 0)) (N.put x [])) (hv:r.cs[N.q]?=some v) (s:Rw l w O e v (N.get x)) (i:l≠j) :
    ∃ O',St (eT l) w O w O'/\Nest (β:=β) j w O' e (rs ++ [r]) (xs ++ [x]) none:=by
  obtain ⟨⟨B,hl,hra⟩,hj⟩:=A
  have d:l≠0:=s.2.2
  have h:∀ k,Fr 0 w O k->Fr 0 w (λ k=>if O k=l then j else O k) k:=λ k hk=>⟨hk.1,by show (if _ then _ else _)=_;rw [if_neg (by rw [hk.2];exact P8 d)];exact hk.2⟩
  refine ⟨λ k=>if O k=l then j else O k,⟨rfl,rfl,rfl,P1 _,λ k _ hk=>⟨rfl,if_neg hk⟩⟩,⟨λ b=>if O b=l then rs.length else B b,by simp [hl],λ k r' o c f=>?_⟩,hj⟩
  rcases N2 k rs.length with hk|hk
  . rw [B8 hk] at c
    rw [B8 (by omega)] at f
    refine ⟨Rp.mono (hra k r' o c f).1 h,λ _=>?_⟩
    obtain ⟨t,hv',hm⟩:=(hra k r' o c f).2 (by simp)
    refine ⟨t,hv',hm.mono h (λ b hb=>?_) λ b hf hm=>S4 hj b hf hm.1⟩
    have g:O b≠l:=by rw [hb.1.2];exact P8 i
    exact ⟨⟨hb.1.1,by show (if _ then _ else _)=_;rw [if_neg g];exact hb.1.2⟩,by show (if _ then _ else _)=_;rw [if_neg g];exact hb.2⟩
  . have p:=AD c
    rw [H2,F2] at p
    have:k=rs.length:=by omega
    subst this
    rw [B4 (P1 _),Nat.sub_self] at c
    rw [hl,B4 (P1 _),Nat.sub_self] at f
    have u:r=r':=by simpa using c
    have y:x=o:=by simpa using f
    subst u y
    refine ⟨Rp.mono hr h,λ _=>⟨v,hv,?_⟩⟩
    have z:RwM w (Fr 0 w O) (Fr l w O) e v (N.get x):=s.m (λ _ A=>A) (λ _ A=>A) (S4 d)
    exact z.mono h (λ b hb=>⟨⟨hb.1,if_pos hb.2⟩,if_pos hb.2⟩) λ b hf hm=>S4 hj b hf hm.1
theorem Nest.take (t:Nest (β:=β) j w O e rs xs none) {k:Nat} {r:Raw a n} {x:α} (hr:rs[k]?=some r) (m:xs[k]?=some x) (l:Nat) (hl:l≠0) (o:l≠j) :
    ∃ O' v,St (eT j) w O w O'/\r.cs[N.q]?=some v/\Nest (β:=β) j w O' e rs xs (some k)/\Rw l w O' e v (N.get x):=by
  obtain ⟨⟨u,hlen,hra⟩,hj⟩:=t
  obtain ⟨v,hv,hm⟩:=(hra k r x hr m).2 (by simp)
  have c:∀ b,Fr 0 w O b->Fr 0 w (λ b=>if O b=j/\u b=k then l else O b) b:=λ b hb=>⟨hb.1,by show (if _ then _ else _)=_;rw [if_neg (by rw [hb.2];exact λ t=>hj t.1.symm)];exact hb.2⟩
  refine ⟨λ b=>if O b=j/\u b=k then l else O b,v,⟨rfl,rfl,rfl,P1 _,λ b _ hb=>⟨rfl,if_neg λ t=>hb t.1⟩⟩,hv,⟨⟨u,hlen,λ f r' g h i=>⟨Rp.mono (hra f r' g h i).1 c,λ p=>?_⟩⟩,hj⟩,hm.rw c (λ b hb=>⟨hb.1.1,if_pos ⟨hb.1.2,hb.2⟩⟩) hl⟩
  obtain ⟨s,hv',hm'⟩:=(hra f r' g h i).2 (by simp)
  refine ⟨s,hv',hm'.mono c (λ b hb=>?_) λ b hf hm=>S4 hj b hf hm.1⟩
  have d:¬ (O b=j/\u b=k):=λ t=>p (by rw [<- t.2,hb.2])
  exact ⟨⟨hb.1.1,by show (if _ then _ else _)=_;rw [if_neg d];exact hb.1.2⟩,hb.2⟩
theorem Nest.put {k:Nat} (E:Nest (β:=β) j w O e rs xs (some k)) {r r':Raw a n} {x:α} {v:Value} {ys:List β} (hr:rs[k]?=some r) (u:xs[k]?=some x) (c:r'.cs=r.cs.set N.q v) (z:N.q < n) (y:Rw l w O e v ys) (p:l≠j) :
    ∃ O',St (eT l) w O w O'/\Nest (β:=β) j w O' e (rs.set k r') (xs.set k (N.put x ys)) none:=by
  obtain ⟨⟨F,hlen,hra⟩,hj⟩:=E
  have d:l≠0:=y.2.2
  have i:∀ b,Fr 0 w O b->Fr 0 w (λ b=>if O b=l then j else O b) b:=λ b hb=>⟨hb.1,by show (if _ then _ else _)=_;rw [if_neg (by rw [hb.2];exact P8 d)];exact hb.2⟩
  refine ⟨λ b=>if O b=l then j else O b,⟨rfl,rfl,rfl,P1 _,λ b _ hb=>⟨rfl,if_neg hb⟩⟩,⟨λ b=>if O b=l then k else F b,by simp [hlen],λ o s t f g=>?_⟩,hj⟩
  by_cases hk:o=k
  . subst hk
    rw [D9 (AD hr)] at f
    rw [D9 (AD u)] at g
    have A:r'=s:=by simpa using f
    have B:N.put x ys=t:=by simpa using g
    subst A B
    refine ⟨?_,λ _=>⟨v,?_,?_⟩⟩
    . rw [c,List.set_set,N.put_put];exact Rp.mono (hra o r x hr u).1 i
    . rw [c,D9 (by rw [r.len];exact z)]
    . rw [N.get_put]
      have C:RwM w (Fr 0 w O) (Fr l w O) e v ys:=y.m (λ _ E=>E) (λ _ E=>E) (S4 d)
      exact C.mono i (λ b hb=>⟨⟨hb.1,if_pos hb.2⟩,if_pos hb.2⟩) λ b hf hm=>S4 hj b hf hm.1
  . rw [G2 (P8 hk)] at f g
    refine ⟨Rp.mono (hra o s t f g).1 i,λ _=>?_⟩
    obtain ⟨D,hv',hm⟩:=(hra o s t f g).2 (λ E=>hk (L1 E).symm)
    refine ⟨D,hv',hm.mono i (λ b hb=>?_) λ b hf hm=>S4 hj b hf hm.1⟩
    have h:O b≠l:=by rw [hb.1.2];exact P8 p
    exact ⟨⟨hb.1.1,by show (if _ then _ else _)=_;rw [if_neg h];exact hb.1.2⟩,by show (if _ then _ else _)=_;rw [if_neg h];exact hb.2⟩
theorem Nest.app {f:List (Raw a n)} {g:List α} (s:Nest (β:=β) j w O e rs xs none) (r:Nest (β:=β) l w O e f g none) (o:l≠j) :
    ∃ O',St (eT l) w O w O'/\Nest (β:=β) j w O' e (rs ++ f) (xs ++ g) none:=by
  obtain ⟨⟨t,hl,hra⟩,hj⟩:=s
  obtain ⟨⟨p,hl',hra'⟩,hl0⟩:=r
  have i:∀ k,Fr 0 w O k->Fr 0 w (λ k=>if O k=l then j else O k) k:=λ k hk=>⟨hk.1,by show (if O k=l then j else O k)=0;rw [if_neg (by rw [hk.2];exact P8 hl0)];exact hk.2⟩
  refine ⟨λ k=>if O k=l then j else O k,⟨rfl,rfl,rfl,P1 _,λ k _ hk=>⟨rfl,if_neg hk⟩⟩,⟨λ b=>if O b=l then rs.length + p b else t b,by simp [hl,hl'],λ k r' m d c=>?_⟩,hj⟩
  rcases N2 k rs.length with hk|hk
  . rw [B8 hk] at d
    rw [B8 (by omega)] at c
    refine ⟨Rp.mono (hra k r' m d c).1 i,λ _=>?_⟩
    obtain ⟨q,hv',hm⟩:=(hra k r' m d c).2 (by simp)
    refine ⟨q,hv',hm.mono i (λ b hb=>?_) λ b hf hm=>S4 hj b hf hm.1⟩
    have h:O b≠l:=by rw [hb.1.2];exact P8 o
    refine ⟨⟨hb.1.1,?_⟩,?_⟩
    . show (if O b=l then j else O b)=j
      rw [if_neg h];exact hb.1.2
    . show (if O b=l then rs.length + p b else t b)=k
      rw [if_neg h];exact hb.2
  . rw [B4 hk] at d
    rw [B4 (by omega)] at c
    rw [<- hl] at c
    refine ⟨Rp.mono (hra' _ r' m d c).1 i,λ _=>?_⟩
    obtain ⟨q,hv',hm⟩:=(hra' _ r' m d c).2 (by simp)
    refine ⟨q,hv',hm.mono i (λ b hb=>⟨⟨hb.1.1,if_pos hb.1.2⟩,?_⟩) λ b hf hm=>S4 hj b hf hm.1⟩
    show (if O b=l then rs.length + p b else t b)=k
    rw [if_pos hb.1.2,hb.2];omega
theorem Chunks.conv {a b:Type} [Rp a] [Rp b] {F G:Nat->Prop}:∀ {rs:List a} {xs:List b} {cells:List Value},rs.length=xs.length->(∀ (k:Nat) r x cs,rs[k]?=some r->xs[k]?=some x->Rp.R w F cs r->Rp.R w G cs x)->Chunks w F cells rs->Chunks w G cells xs
  | [],[],_,_,_,h=>h
  | [],_ :: _,_,hl,_,_=>by simp at hl
  | _ :: _,[],_,hl,_,_=>by simp at hl
  | r :: rs,x :: xs,_,hl,hc,⟨cs,rest,he,hr,h⟩ =>
    ⟨cs,rest,he,hc 0 r x cs rfl rfl hr,Chunks.conv (by simpa using hl) (λ k r x cs c d=>hc (k + 1) r x cs (by simpa using c) (by simpa using d)) h⟩
theorem Nest.lend {e':TypeId} {v:Value} (a:Rw i w O e' v rs) (p:Nest (β:=β) j w O e rs xs none):Vb w (FrS [i,j] w O) v xs:=by
  obtain ⟨⟨q,hl,hra⟩,hj⟩:=p
  obtain ⟨A,c,cells,h1,h2,h3,h4,h5⟩:=a.1.vb.slice
  refine .of_slice ⟨A,c,cells,by rw [h1,hl],by omega,h3,?_,λ m=>?_⟩
  . refine h4.conv hl λ k r x cs f g h=>?_
    have d:cs=r.cs:=h
    subst d
    obtain ⟨l,q2⟩:=hra k r x f g
    obtain ⟨n,hv',hm⟩:=q2 (by simp)
    refine N.join (Rp.mono l λ b hb=>⟨hb.1,.inl hb.2⟩) hv' (hm.1.vb.mono λ b hb=>?_)
    rcases hb with hb|hb
    . exact ⟨hb.1,.inl hb.2⟩
    . have:=(hm.2 b hb).1;exact ⟨this.1,.inr (by rw [this.2];simp)⟩
  . obtain ⟨b,o,h6,h7,h8⟩:=h5 (by omega)
    refine ⟨b,o,h6,?_,h8⟩
    rcases h7 with h7|h7
    . exact ⟨h7.1,.inl h7.2⟩
    . exact ⟨(a.1.lt b h7).2,.inr (by rw [a.2.1 b h7];simp)⟩
end
instance {β:Type} [Rp β]:NestAt (List β) β where
  q:=0
  get x:=x
  put _ y:=y
  get_put _ _:=rfl
  put_put _ _ _:=rfl
  split:=by
    intro w F cs x b
    have hl:=Rp.len b
    match cs,hl,b with
    | [v],_,b=>exact ⟨(Vb.nil w F).cells1,v,rfl,by unfold Vb;exact b⟩
  join:=by
    intro w F cs x v b hv a
    have hl:=Rp.len b
    rw [L5] at hl
    match cs,hl,hv with
    | [u],_,hv =>
      obtain rfl:u=v:=by simpa using hv
      exact a.cells1
def NR {α:Type} (β:Type) [Rp α] [Rp β] [N:NestAt α β] (i:Nat) (w:World) (O:Lab) (e' e:TypeId) (v:Value) (xs:List α) (skip:Option Nat):Prop :=
  ∃ (rs:List (Raw (Rp.isAgg α) (Rp.size α))) (a:Lab),Own w 0 (Fr 0 w O) e' v rs/\(∀ g,v.ownBlock=some g->O g=i/\a g=0)/\i≠0/\rs.length=xs.length /\
    ∀ (k:Nat) (r:Raw (Rp.isAgg α) (Rp.size α)) (x:α),rs[k]?=some r->xs[k]?=some x ->
      Rp.R w (Fr 0 w O) (r.cs.set N.q (.slice none 0 0)) (N.put x [])/\(skip≠some k->∃ u,r.cs[N.q]?=some u/\RwM w (Fr 0 w O) (λ b=>Fr i w O b/\a b=k + 1) e u (N.get x))
theorem Aam (O:Lab):∀ n:Nat,∃ b,∀ k,k < n->O k<=b
  | 0=>⟨0,λ k h=>by omega⟩
  | n + 1=>by
    obtain ⟨b,hb⟩:=Aam O n
    refine ⟨max b (O n),λ k hk=>?_⟩
    rcases N2 k n with h|h
    . have:=hb k h;omega
    . have:k=n:=by omega
      subst this;omega
theorem ZN (O:Lab) (n a b:Nat):∃ j,j≠0/\j≠a/\j≠b/\∀ k,k < n->O k≠j:=by
  obtain ⟨c,hc⟩:=Aam O n
  exact ⟨c + a + b + 1,by omega,by omega,by omega,λ k hk=>by have:=hc k hk;omega⟩
theorem St.via {T e T2 T3:Nat->Prop} {w w':World} {O f g h:Lab} {j:Nat} (c:St e w O w f) (a:St T2 w f w' g) (b:St T3 w' g w' h) (hj:∀ k,k < w.heap.size->O k≠j) (i:∀ q,e q->T q) (l:∀ q,T2 q->T q\/q=j) (m:∀ q,T3 q->T q\/q=j):St T w O w' h :=
  ⟨(b.os.trans a.os).trans c.os,(b.tape.trans a.tape).trans c.tape,(b.output.trans a.output).trans c.output,N6 a.size b.size,λ k hk d=>by
    obtain ⟨n,e2⟩:=c.same k hk λ r=>d (i _ r)
    obtain ⟨o,e4⟩:=a.same k hk (by rw [e2];exact λ r=>(l _ r).elim d (hj k hk))
    obtain ⟨p,e6⟩:=b.same k (H3 hk a.size) (by rw [e4,e2];exact λ r=>(m _ r).elim d (hj k hk))
    exact ⟨(p.trans o).trans n,(e6.trans e4).trans e2⟩⟩
section
variable {α β : Type} [Rp α] [Rp β] [N : NestAt α β] {i j l : Nat} {T : Nat → Prop} {w w' : World} {O O' : Lab} {e' e : TypeId} {v : Value} {xs : List α} {skip : Option Nat}
theorem NR.opn (o:NR β i w O e' e v xs skip) (j:Nat) (hj:j≠0) (m:j≠i):∃ (rs:List (Raw (Rp.isAgg α) (Rp.size α))) (c:Lab),St (eT i) w O w c/\Rw i w c e' v rs/\Nest (β:=β) j w c e rs xs skip:=by
  obtain ⟨rs,L,h1,h2,h3,h4,h5⟩:=o
  have d:∀ b,Fr 0 w O b->Fr 0 w (λ b=>if O b=i/\L b≠0 then j else O b) b:=λ b hb=>⟨hb.1,by show (if _ then _ else _)=_;rw [if_neg (by rw [hb.2];exact λ o=>h3 o.1.symm)];exact hb.2⟩
  refine ⟨rs,λ b=>if O b=i/\L b≠0 then j else O b,⟨rfl,rfl,rfl,P1 _,λ b _ hb=>⟨rfl,if_neg λ o=>hb o.1⟩⟩,⟨h1.mono d λ g a hf=>?_,λ g a=>?_,h3⟩,⟨λ b=>L b - 1,h4,λ k r x f h=>⟨Rp.mono (h5 k r x f h).1 d,λ n=>?_⟩⟩,hj⟩
  . have l:(if O g=i/\L g≠0 then j else O g)=0:=hf.2
    rw [if_neg (λ o=>o.2 (h2 g a).2),(h2 g a).1] at l
    exact h3 l
  . show (if O g=i/\L g≠0 then j else O g)=i
    rw [if_neg (λ o=>o.2 (h2 g a).2)];exact (h2 g a).1
  . obtain ⟨u,hu,hm⟩:=(h5 k r x f h).2 n
    refine ⟨u,hu,hm.mono d (λ b hb=>⟨⟨hb.1.1,?_⟩,?_⟩) λ b hf hm=>S4 hj b hf hm.1⟩
    . show (if O b=i/\L b≠0 then j else O b)=j
      rw [if_pos ⟨hb.1.2,by have:=hb.2;omega⟩]
    . show L b - 1=k
      have:=hb.2;omega
theorem NR.shut {rs:List (Raw (Rp.isAgg α) (Rp.size α))} (m:Rw i w O e' v rs) (n:Nest (β:=β) j w O e rs xs skip) (c:j≠i):∃ f,St (eT j) w O w f/\NR β i w f e' e v xs skip:=by
  obtain ⟨⟨q,h4,h5⟩,hj⟩:=n
  obtain ⟨o,h2,h3⟩:=m
  have d:∀ b,Fr 0 w O b->Fr 0 w (λ b=>if O b=j then i else O b) b:=λ b hb=>⟨hb.1,by show (if _ then _ else _)=_;rw [if_neg (by rw [hb.2];exact P8 hj)];exact hb.2⟩
  have hi:∀ g,v.ownBlock=some g->(if O g=j then i else O g)=i:=λ g a=>by
    split
    . rfl
    . exact h2 g a
  refine ⟨λ b=>if O b=j then i else O b,⟨rfl,rfl,rfl,P1 _,λ b _ hb=>⟨rfl,if_neg hb⟩⟩,rs,λ b=>if O b=j then q b + 1 else 0,o.mono d λ g a hf=>h3 (((hi g a).symm.trans hf.2)),λ g a=>⟨hi g a,?_⟩,h3,h4,λ k r x h l=>⟨Rp.mono (h5 k r x h l).1 d,λ p=>?_⟩⟩
  . show (if O g=j then q g + 1 else 0)=0
    rw [if_neg (by rw [h2 g a];exact P8 c)]
  . obtain ⟨u,hu,hm⟩:=(h5 k r x h l).2 p
    refine ⟨u,hu,hm.mono d (λ b hb=>⟨⟨hb.1.1,if_pos hb.1.2⟩,?_⟩) λ b hf hm=>S4 h3 b hf hm.1⟩
    show (if O b=j then q b + 1 else 0)=k + 1
    rw [if_pos hb.1.2,hb.2]
theorem NR.st (m:NR β i w O e' e v xs skip) (a:St T w O w' O') (c:¬ T 0:=by decide) (hi:¬ T i:=by decide):NR β i w' O' e' e v xs skip:=by
  obtain ⟨rs,L,h1,h2,h3,h4,h5⟩:=m
  have f:Rw i w' O' e' v rs:=Rw.st (O:=O) ⟨h1,λ g d=>(h2 g d).1,h3⟩ a c hi
  refine ⟨rs,L,f.1,λ g d=>⟨f.2.1 g d,(h2 g d).2⟩,h3,h4,λ k r x h j=>⟨Rp.mono (Rp.agree (h5 k r x h j).1 (a.agree c)) (a.fr c),λ l=>?_⟩⟩
  obtain ⟨u,hu,hm⟩:=(h5 k r x h j).2 l
  exact ⟨u,hu,(hm.agree (a.agree c) λ b hb=>a.agree hi b hb.1).mono (a.fr c) (λ b hb=>⟨a.fr hi b hb.1,hb.2⟩) λ b hf hm=>S4 h3 b hf hm.1⟩
theorem NR.nil (i:Nat) (hi:i≠0):NR (α:=α) β i w O e' e (.slice none 0 0) [] none :=
  ⟨[],λ _=>0,Own.nil _ _ _ _,λ g a=>by simp [Value.ownBlock] at a,hi,rfl,λ k r x a=>by simp at a⟩
theorem NR.len {A:Option Addr} {m c:Nat} (b:NR β i w O e' e (.slice A m c) xs skip):m=xs.length/\m<=c/\c<=9223372036854775807:=by
  obtain ⟨rs,L,h1,h2,h3,h4,h5⟩:=b
  have:=Rw.len (i:=i) (O:=O) ⟨h1,λ g a=>(h2 g a).1,h3⟩
  exact ⟨this.1.trans h4,this.2⟩
theorem NR.relen {A:Option Addr} {m c:Nat} (a:NR β i w O e' e (.slice A m c) xs skip):NR β i w O e' e (.slice A xs.length c) xs skip:=by
  have:=a.len.1
  subst this
  exact a
theorem NR.form (b:NR β i w O e' e v xs skip):∃ A c,v=.slice A xs.length c:=by
  obtain ⟨rs,L,h1,h2,h3,h4,h5⟩:=b
  obtain ⟨A,c,b⟩:=Rw.form (i:=i) (O:=O) (xs:=rs) ⟨h1,λ g a=>(h2 g a).1,h3⟩
  exact ⟨A,c,by rw [b,h4]⟩
theorem NR.lend (a:NR β i w O e' e v xs none):Vb w (FrS [i] w O) v xs:=by
  obtain ⟨j,hj,hji,_,hf⟩:=ZN O w.heap.size i 0
  obtain ⟨rs,O1,hS,hR,hN⟩:=a.opn j hj hji
  refine (Nest.lend hR hN).mono λ k hk=>⟨hk.1,?_⟩
  by_cases hi:O k=i
  . exact .inr (by rw [hi];simp)
  . have:=(hS.same k hk.1 hi).2
    rcases hk.2 with h0|h0
    . exact .inl (this.symm.trans h0)
    . rw [this] at h0
      rcases M8.1 h0 with h0|h0
      . exact (hi h0).elim
      . exact (hf k hk.1 (by simpa using h0)).elim
theorem NR.at {A:Option Addr} {m c:Nat} (f:NR β i w O e' e (.slice A m c) xs skip) {k:Nat} {x:α} (a:xs[k]?=some x):∃ b o,A=some ⟨b,o,none⟩/\k < m:=by
  obtain ⟨rs,L,h1,h2,h3,h4,h5⟩:=f
  have hk:k < rs.length:=by rw [h4];exact AD a
  obtain ⟨b,o,cs,h6,h7,_⟩:=Rw.elem (i:=i) (O:=O) ⟨h1,λ g d=>(h2 g d).1,h3⟩ (C4 hk)
  exact ⟨b,o,h6,h7⟩
theorem NR.peek {A:Option Addr} {m c b o:Nat} (p:NR β i w O e' e (.slice A m c) xs none) (hA:A=some ⟨b,o,none⟩) {k:Nat} {x:α} (j:xs[k]?=some x) :
    ∃ (d:Option Addr) (f:Nat),w.cell? ⟨b,o + k * Rp.size α + N.q,none⟩=some (.slice d (N.get x).length f)/\Vb w (FrS [i] w O) (.slice d (N.get x).length f) (N.get x):=by
  obtain ⟨rs,L,h1,h2,h3,h4,h5⟩:=p
  have hk:k < rs.length:=by rw [h4];exact AD j
  have hr:rs[k]?=some rs[k]:=C4 hk
  obtain ⟨n,o',cs,a,l,h8,h9⟩:=Rw.elem (i:=i) (O:=O) ⟨h1,λ g hg=>(h2 g hg).1,h3⟩ hr
  obtain ⟨rfl,rfl⟩:b=n/\o=o':=by rw [hA] at a;injection a with a;injection a with a l;exact ⟨a,l⟩
  have h:cs=rs[k].cs:=h9
  subst h
  obtain ⟨u,hu,hm⟩:=(h5 k rs[k] x hr j).2 (by simp)
  obtain ⟨d,f,_,rfl,_⟩:=hm.1.chunk
  refine ⟨d,f,Eg h8 _ _ hu,hm.1.vb.mono λ g hg=>?_⟩
  rcases hg with hg|hg
  . exact ⟨hg.1,.inl hg.2⟩
  . have:=(hm.2 g hg).1;exact ⟨this.1,.inr (by rw [this.2];simp)⟩
theorem NR.stay {A:Option Addr} {m c b o p:Nat} {u:Value} (d:NR β i w O e' e (.slice A m c) xs skip) (hA:A=some ⟨b,o,none⟩) (a:St T w O w' O') (hi:¬ T i) (hc:w.cell? ⟨b,p,none⟩=some u):w'.cell? ⟨b,p,none⟩=some u:=by
  obtain ⟨rs,L,h1,h2,h3,h4,h5⟩:=d
  subst hA
  have:=a.same b (h1.lt b rfl).2 (by rw [(h2 b rfl).1];exact hi)
  rw [<- hc]
  unfold World.cell?
  rw [this.1]
end
section
variable {P : Program} {n : Nat} {ops : Array Oper} {Q : Q8} {rest : List Oper} {l : Env} {w : World} {d d1 d2 : Tmp} {ty ty2 : TypeId} {pos pos2 : String} {aft aft2 : Array Edge}
theorem Aba (O:Lab) (n a b d:Nat):∃ j,j≠0/\j≠a/\j≠b/\j≠d/\∀ k,k < n->O k≠j:=by
  obtain ⟨c,hc⟩:=Aam O n
  exact ⟨c + a + b + d + 1,by omega,by omega,by omega,by omega,λ k hk=>by have:=hc k hk;omega⟩
theorem Cb {α β:Type} [Rp α] [Rp β] [N:NestAt α β] {i j:Nat} {O:Lab} {t e' e:TypeId} [TSlice P t e'] {z:Value} {size bytes:Nat} [TInfo P e' z size bytes] (b:size=Rp.size α) {x y:Operand} {v u:Value} {xs ys:List α} (J:NR β i w O e' e v xs none) (K:NR β j w O e' e u ys none)  (M:opv l x=some v) (R:opv l y=some u)
     (hb:(xs.length + ys.length) * bytes<=140737488355328) (C:xs.length + ys.length<=9223372036854775807) 
    (Y:∀ A c w' O',St (λ q=>q=i\/q=j) w O w' O'->NR β i w' O' e' e (.slice A (xs ++ ys).length c) (xs ++ ys) none->owp P n ops Q rest ((d,.slice A (xs ++ ys).length c) :: l) w') (h:j≠i:=by decide) (hz0:0 < size:=by decide) (hd:Nat.blt d n=true:=by exact rfl) :
    owp P n ops Q (⟨some d,.call { callee:=.builtin .append,args:=#[x,y],argTypes:=#[t,t] },ty,pos,aft,none⟩ :: rest) l w:=by
  obtain ⟨L,hq0,hqi,hqj,hf1⟩:=ZN O w.heap.size i j
  obtain ⟨S,hr0,hri,hrj,hrq,hf2⟩:=Aba O w.heap.size i j L
  have m:i≠0:=by obtain ⟨_,_,_,_,Y,_⟩:=J;exact Y
  have o:j≠0:=by obtain ⟨_,_,_,_,Y,_⟩:=K;exact Y
  obtain ⟨rs,O1,hS1,hRw,hN⟩:=J.opn L hq0 hqi
  have D:=K.st hS1 (λ Y=>m Y.symm) h
  obtain ⟨p,O2,hS2,hUw,hM⟩:=D.opn S hr0 hrj
  have r:=hRw.st hS2 (λ Y=>o Y.symm) (P8 h)
  have E:=hN.st hS2 (λ Y=>o Y.symm) hqj
  have f:rs.length=xs.length:=by obtain ⟨⟨_,Y,_⟩,_⟩:=hN;exact Y
  have g:p.length=ys.length:=by obtain ⟨⟨_,Y,_⟩,_⟩:=hM;exact Y
  obtain ⟨W,hS3,hN3⟩:=Nest.app E hM hrq
  have s:=r.st hS3 (λ Y=>hr0 Y.symm) (P8 hri)
  have B:=hUw.st hS3 (λ Y=>hr0 Y.symm) (P8 hrj)
  refine EL (α:=Raw (Rp.isAgg α) (Rp.size α)) b s B.rd M R (hz0:=hz0) (by rw [f,g];exact hb) (by rw [f,g];exact C) hd λ A c w' X a F=>?_
  have G:=hN3.st a (λ Y=>m Y.symm) hqi
  obtain ⟨T,hS5,h5⟩:=NR.shut F G hqi
  have H:(rs ++ p).length=(xs ++ ys).length:=by simp [f,g]
  rw [H] at h5 ⊢
  refine Y A c w' T ⟨(hS5.os.trans a.os),(hS5.tape.trans a.tape),(hS5.output.trans a.output),N6 a.size hS5.size,λ k hk I=>?_⟩ h5
  obtain ⟨_,e1⟩:=hS1.same k hk λ Y=>I (.inl Y)
  obtain ⟨_,e2⟩:=hS2.same k hk (by rw [e1];exact λ Y=>I (.inr Y))
  obtain ⟨_,e3⟩:=hS3.same k hk (by rw [e2,e1];exact hf2 k hk)
  obtain ⟨U,e4⟩:=a.same k hk (by rw [e3,e2,e1];exact λ Y=>I (.inl Y))
  obtain ⟨V,e5⟩:=hS5.same k (H3 hk a.size) (by rw [e4,e3,e2,e1];exact hf1 k hk)
  exact ⟨V.trans U,by rw [e5,e4,e3,e2,e1]⟩
end
end
section
open Go Go.RowKit
def NRm {α:Type} (β:Type) [Rp α] [Rp β] [N:NestAt α β] (w:World) (F M:Nat→Prop) (e' e:TypeId) (v:Value) (xs:List α):Prop :=
  ∃ (a:List (Raw (Rp.isAgg α) (Rp.size α))) (c:Lab),RwM w F (λ b=>M b/\c b=0) e' v a/\a.length=xs.length /\
    ∀ (k:Nat) (r:Raw (Rp.isAgg α) (Rp.size α)) (x:α),a[k]?=some r->xs[k]?=some x->Rp.R w F (r.cs.set N.q (.slice none 0 0)) (N.put x [])/\∃ u,r.cs[N.q]?=some u/\RwM w F (λ b=>M b/\c b=k + 1) e u (N.get x)
section
variable {α β : Type} [Rp α] [Rp β] [N : NestAt α β] {i : Nat} {w w' : World} {O : Lab} {e' e : TypeId} {v : Value} {xs : List α} {F M F' M' : Nat → Prop}
theorem NRm.agree (j:NRm β w F M e' e v xs) (d:Agree F w w') (f:Agree M w w'):NRm β w' F M e' e v xs:=by
  obtain ⟨g,L,a,b,c⟩:=j
  refine ⟨g,L,a.agree d λ k hk=>f k hk.1,b,λ k r x h i=>?_⟩
  obtain ⟨q,u,hu,hm⟩:=c k r x h i
  exact ⟨Rp.agree q d,u,hu,hm.agree d λ k hk=>f k hk.1⟩
theorem NRm.mono (l:NRm β w F M e' e v xs) (d:∀ k,F k->F' k) (f:∀ k,M k->M' k) (g:∀ k,F' k->¬ M' k):NRm β w F' M' e' e v xs:=by
  obtain ⟨h,L,a,b,c⟩:=l
  refine ⟨h,L,a.mono d (λ k hk=>⟨f k hk.1,hk.2⟩) (λ k hf hm=>g k hf hm.1),b,λ k r x i j=>?_⟩
  obtain ⟨q,u,hu,hm⟩:=c k r x i j
  exact ⟨Rp.mono q d,u,hu,hm.mono d (λ k hk=>⟨f k hk.1,hk.2⟩) λ k hf hm=>g k hf hm.1⟩
theorem NRm.nr (n:NRm β w F M e' e v xs) (j:∀ k,F k->Fr 0 w O k) (l:∀ k,M k->Fr i w O k) (hi:i≠0):NR β i w O e' e v xs none:=by
  obtain ⟨m,L,a,b,c⟩:=n.mono j l (S4 hi)
  exact ⟨m,L,a.1,λ g d=>⟨(a.2 g d).1.2,(a.2 g d).2⟩,hi,b,λ k r x f h=>⟨(c k r x f h).1,λ _=>(c k r x f h).2⟩⟩
theorem NR.m (s:NR β i w O e' e v xs none) (l:∀ k,Fr 0 w O k->F k) (n:∀ k,Fr i w O k->M k) (o:∀ k,F k->¬ M k):NRm β w F M e' e v xs:=by
  obtain ⟨p,L,a,b,hi,c,d⟩:=s
  have q:NRm β w (Fr 0 w O) (Fr i w O) e' e v xs:=⟨p,L,⟨a,λ g f=>⟨⟨(a.lt g f).2,(b g f).1⟩,(b g f).2⟩⟩,c,λ k r x h j=>⟨(d k r x h j).1,(d k r x h j).2 (by simp)⟩⟩
  exact q.mono l n o
end
end
section
open Go Go.RowKit
section
variable {P : Program} {n : Nat} {ops : Array Oper} {Q : Q8} {rest : List Oper} {l : Env} {w : World} {d : Tmp} {ty : TypeId} {pos : String} {aft : Array Edge}
theorem JJ {α β:Type} [Rp α] [Rp β] [N:NestAt α β] {i:Nat} {O:Lab} {t e' e:TypeId} {z:Value} {size bytes:Nat} [TInfo P t z size bytes] {x y:Operand} {b o b1 o1 k k1 off m c c1:Nat} {A A1:Option Addr} {u:Value} {a:α} {f f':β} {xs:List α} (hR:NR β i w O e' e (.slice A m c) xs none) (hA:A=some ⟨b,o,none⟩) (hk:xs[k]?=some a)
    (hcell:w.cell? ⟨b,o + k * Rp.size α + N.q,none⟩=some (.slice A1 (N.get a).length c1)) (hA1:A1=some ⟨b1,o1,none⟩) (hk1:(N.get a)[k1]?=some f)
    (hx:opv l x=some (.pointer (some ⟨b1,o1 + k1 * Rp.size β + off,none⟩))) (hy:opv l y=some u) (hsz:u.cells.toList.length=size) (hoff:off + size<=Rp.size β) (h1:∀ v∈u.cells.toList,v.oneCell'=true) 
    (hnew:∀ w' O' ce,Rp.R w' (Fr 0 w' O') ce f->Rp.R w' (Fr 0 w' O') (Q6 ce off u.cells.toList) f')
    (h:∀ w' O',St (eT i) w O w' O'->NR β i w' O' e' e (.slice A m c) (xs.set k (N.put a ((N.get a).set k1 f'))) none->owp P n ops Q rest l w') (hqn:N.q < Rp.size α:=by decide):owp P n ops Q (⟨none,.store t x y,ty,pos,aft,none⟩ :: rest) l w:=by
  obtain ⟨q1,hq0,hqi,_,hf1⟩:=ZN O w.heap.size i 0
  obtain ⟨q2,hr0,hri,hrq,hf2⟩:=ZN O w.heap.size i q1
  have hi0:i≠0:=by obtain ⟨_,_,_,_,h,_⟩:=hR;exact h
  obtain ⟨rs,O1,hS1,hRw,hN⟩:=hR.opn q1 hq0 hqi
  have hlen:rs.length=xs.length:=by obtain ⟨⟨_,h,_⟩,_⟩:=hN;exact h
  have hkr:k < rs.length:=by rw [hlen];exact AD hk
  have hr:rs[k]?=some rs[k]:=C4 hkr
  obtain ⟨b',o',cs,h6,h7,h8,h9⟩:=Rw.elem hRw hr
  obtain ⟨rfl,rfl⟩:b=b'/\o=o':=by rw [hA] at h6;injection h6 with h6;injection h6 with h6 h7;exact ⟨h6,h7⟩
  have e9:cs=rs[k].cs:=h9
  subst e9
  obtain ⟨O2,v,hS2,hv,hN2,hI⟩:=hN.take hr hk q2 hr0 hrq
  obtain rfl:v=.slice A1 (N.get a).length c1:=by
    have:=Eg h8 N.q v hv
    exact L1 (this.symm.trans hcell)
  have hR2:=hRw.st hS2 (P8 hq0) (P8 hqi)
  refine Ox (α:=β) hI hA1 hk1 hx hy hsz hoff h1 (hnew w O2) λ w' hS3 hI3=>?_
  have hR3:=hR2.st hS3 (P8 hr0) (P8 hri)
  have hN3:=hN2.st hS3 (P8 hr0) (P8 hrq)
  have hsame:rs[k].cs=rs[k].cs.set N.q (.slice A1 (N.get a).length c1):=by
    refine I3 λ p=>?_
    rw [I5]
    split
    . rename_i hp
      subst hp
      split
      . exact hv
      . rename_i hlt
        rw [rs[k].len] at hlt
        exact absurd hqn hlt
    . rfl
  obtain ⟨O4,hS4,hN4⟩:=hN3.put (r':=rs[k]) hr hk hsame hqn hI3 hrq
  have hset:rs.set k rs[k]=rs:=by
    refine I3 λ p=>?_
    rw [I5]
    split
    . rename_i hp
      subst hp
      exact hr.symm
    . rfl
  rw [hset] at hN4
  have hR4:=hR3.st hS4 (P8 hr0) (P8 hri)
  obtain ⟨O5,hS5,h5⟩:=NR.shut hR4 hN4 hqi
  refine h w' O5 ⟨hS5.os.trans (hS4.os.trans hS3.os),hS5.tape.trans (hS4.tape.trans hS3.tape),hS5.output.trans (hS4.output.trans hS3.output),N6 hS3.size hS5.size,λ g hg hT=>?_⟩ h5
  have n1:O g≠q1:=hf1 g hg
  have n2:O g≠q2:=hf2 g hg
  obtain ⟨_,a1⟩:=hS1.same g hg hT
  obtain ⟨_,a2⟩:=hS2.same g hg (by rw [a1];exact n1)
  obtain ⟨f3,a3⟩:=hS3.same g hg (by rw [a2,a1];exact n2)
  have hg':g < w'.heap.size:=H3 hg hS3.size
  obtain ⟨_,a4⟩:=hS4.same g hg' (by rw [a3,a2,a1];exact n2)
  obtain ⟨_,a5⟩:=hS5.same g hg' (by rw [a4,a3,a2,a1];exact n1)
  exact ⟨f3,by rw [a5,a4,a3,a2,a1]⟩
end
end
section
open Go Go.RowKit
def bw (a:Int):Byt:=⟨a % 256,by omega,by omega⟩
theorem WI (a:Int):IntKind.u8.wrap a=(bw a).n:=by
  unfold bw
  simp [IntKind.wrap,IntKind.bits,IntKind.signed]
def ZV (xs:List Byt):ByteArray:=⟨(xs.map λ b=>UInt8.ofNat b.n.toNat).toArray⟩
theorem TA (xs:List Byt):(ZV xs).size=xs.length:=by simp [ZV,ByteArray.size]
section
variable {P : Program} {l : Env} {w : World} {dst : Option Tmp} {ty : TypeId} {pos : String} {aft : Array Edge}
theorem YZ {s t:TypeId} {k:IntKind} [hs:TInt P s k] [b:TInt P t .u8] {x:Operand} {a:Int} (c:opv l x=some (.int k a)):Ev P ⟨dst,.convert s t x,ty,pos,aft,none⟩ l w (.int .u8 (bw a).n):=λ _ _ d e=>by
  simp [execOp,e.eval c,convert,run_underlying hs.eq,run_underlying b.eq,Conv.intToInt,WI]
theorem Nl {F:Nat->Prop}:∀ {xs:List Byt} {cells:List Value},Chunks w F cells xs->cells=xs.map λ b=>.int .u8 b.n
  | [],_,h=>h
  | x :: xs,_,⟨cs,rest,he,hr,hc⟩=>by
    have a:cs=[.int .u8 x.n]:=hr
    rw [he,a,Nl hc];rfl
theorem TB (xs:List Byt):∀ (d:Array UInt8),xs.foldl (λ s b=>s.push (UInt8.ofNat b.n.toNat)) (⟨d⟩:ByteArray)=⟨d ++ (xs.map λ b=>UInt8.ofNat b.n.toNat).toArray⟩:=by
  induction xs with
  | nil=>intro d;simp
  | cons x xs a =>
    intro d
    rw [L0]
    have:=a (d.push (UInt8.ofNat x.n.toNat))
    show List.foldl _ (⟨d.push (UInt8.ofNat x.n.toNat)⟩:ByteArray) xs=_
    rw [this]
    congr 1
    apply J6.1
    simp
theorem TC (xs:List Byt):xs.foldl (λ s b=>s.push (UInt8.ofNat b.n.toNat)) ByteArray.empty=ZV xs:=by
  have:=TB xs #[]
  show List.foldl _ (⟨#[]⟩:ByteArray) xs=_
  rw [this]
  unfold ZV
  congr 1
  apply J6.1
  simp
theorem Za {s t e:TypeId} [hs:TSlice P s e] [he:TInt P e .u8] [a:TStr P t] {x:Operand} {v:Value} {F:Nat->Prop} {xs:List Byt} (f:opv l x=some v) (hv:Vb w F v xs):Ev P ⟨dst,.convert s t x,ty,pos,aft,none⟩ l w (.string (ZV xs)):=λ _ _ d g=>by
  obtain ⟨A,c,cells,rfl,h1,h2,h3,h4⟩:=hv.slice
  have hc:=Nl h3
  subst hc
  cases A with
  | none =>
    have h:xs=[]:=by
      by_cases k:0 < xs.length
      . obtain ⟨b,o,hb,_⟩:=h4 k;cases hb
      . exact B0 (by omega)
    subst h
    simp [execOp,g.eval f,convert,run_underlying hs.eq,run_underlying he.eq,run_underlying a.eq,Conv.bytesToString]
    rfl
  | some i =>
    by_cases k:0 < xs.length
    . obtain ⟨b,o,hb,_,hcell⟩:=h4 k
      obtain rfl:=L1 hb
      have:=FR (P:=P) (dr w d) b o (xs.map λ b=>Value.int .u8 b.n) 0 #[] (λ j v hv=>by rw [N4];exact Eg hcell j v hv)
      rw [L7] at this
      simp [execOp,g.eval f,convert,run_underlying hs.eq,run_underlying he.eq,run_underlying a.eq,Conv.bytesToString,loadCells,this,TC]
    . have h:xs=[]:=B0 (by omega)
      subst h
      simp [execOp,g.eval f,convert,run_underlying hs.eq,run_underlying he.eq,run_underlying a.eq,Conv.bytesToString,loadCells,loadCellsFrom]
      rfl
end
def Aax (xs:List Byt):Option ByteArray:=if xs.length<=9223372036854775807 then some (ZV xs) else none
theorem OB {xs:List Byt} {c:ByteArray} (a:Aax xs=some c):c=ZV xs/\xs.length<=9223372036854775807:=by
  unfold Aax at a
  split at a
  . exact ⟨(sm a).symm,by assumption⟩
  . cases a
theorem WJ {xs:List Byt} (a:xs.length<=9223372036854775807):Aax xs=some (ZV xs):=if_pos a
theorem WK {xs:List Byt} {c:ByteArray} (a:Aax xs=some c):c.size<=9223372036854775807:=by
  obtain ⟨rfl,h2⟩:=OB a
  rw [TA];exact h2
section
variable {P : Program} {n : Nat} {ops : Array Oper} {Q : Q8} {rest : List Oper} {l : Env} {w : World} {d : Tmp} {ty : TypeId} {pos : String} {aft : Array Edge}
theorem Zu {s t:TypeId} {k:IntKind} [TInt P s k] [TInt P t .u8] {x:Operand} {a:Int} (b:opv l x=some (.int k a)) (hd:Nat.blt d n=true) (c:owp P n ops Q rest ((d,.int .u8 (bw a).n) :: l) w):owp P n ops Q (⟨some d,.convert s t x,ty,pos,aft,none⟩ :: rest) l w:=Bp (YZ b) hd c
theorem Zv {s t e:TypeId} [TSlice P s e] [TInt P e .u8] [TStr P t] {x:Operand} {v:Value} {F:Nat->Prop} {xs:List Byt} {c:ByteArray} (a:opv l x=some v) (hv:Vb w F v xs) (he:Aax xs=some c) (hd:Nat.blt d n=true) (b:owp P n ops Q rest ((d,.string c) :: l) w):owp P n ops Q (⟨some d,.convert s t x,ty,pos,aft,none⟩ :: rest) l w:=by
  obtain ⟨rfl,_⟩:=OB he
  exact Bp (Za a hv) hd b
theorem Zb {t:TypeId} {m y u:Operand} (c:owp P n ops Q (⟨none,.mapUpdate t m y u,ty,pos,aft,none⟩ :: rest) l w):owp P n ops Q (⟨none,.insert t m y u,ty,pos,aft,none⟩ :: rest) l w:=λ a d b=>c a d b
end
end
section
open Go Go.RowKit
theorem TD (a b:ByteArray):(a.toList == b.toList)=decide (a=b):=by
  rw [ByteArray.toList_eq,ByteArray.toList_eq]
  by_cases c:a=b
  . subst c;simp
  . rw [decide_eq_false c]
    have:a.data.toList≠b.data.toList:=λ e=>c (by cases a;cases b;simp only [ByteArray.mk.injEq];exact J6.1 e)
    simpa using this
section
variable {P : Program} {l : Env} {w : World} {dst : Option Tmp} {ty : TypeId} {pos : String} {aft : Array Edge}
theorem Zc {t u:TypeId} [g:TStr P t] {x y:Operand} {a b:ByteArray} (d:opv l x=some (.string a)) (f:opv l y=some (.string b)):Ev P ⟨dst,.binOp .neq t x y u,ty,pos,aft,none⟩ l w (.bool (decide (a≠b))):=λ _ _ e c=>by
  simp [execOp,c.eval d,c.eval f,eqGuard,binOp,Op.stringOp,TD]
end
end
section
open Go Go.RowKit
def R9 (a b:ByteArray):Option ByteArray:=if a.size + b.size<=9223372036854775807 then some (a ++ b) else none
theorem LM {a b r:ByteArray} (d:R9 a b=some r):r.size<=9223372036854775807:=by
  obtain ⟨c,rfl⟩:=EM d
  rw [F3];exact c
section
variable {P : Program} {l : Env} {w : World} {dst : Option Tmp} {ty : TypeId} {pos : String} {aft : Array Edge}
theorem TE {t u:TypeId} {x y:Operand} {a b c:ByteArray} (he:R9 a b=some c) (f:opv l x=some (.string a)) (g:opv l y=some (.string b)):Ev P ⟨dst,.binOp .add t x y u,ty,pos,aft,none⟩ l w (.string c):=λ _ _ e d=>by
  obtain ⟨h,rfl⟩:=EM he
  simp [execOp,d.eval f,d.eval g,eqGuard,binOp,Op.stringOp]
  omega
end
section
variable {P : Program} {n : Nat} {ops : Array Oper} {Q : Q8} {rest : List Oper} {l : Env} {w : World} {d : Tmp} {ty : TypeId} {pos : String} {aft : Array Edge}
theorem Zd {t u:TypeId} {x y:Operand} {a b c:ByteArray} (he:R9 a b=some c) (e:opv l x=some (.string a)) (f:opv l y=some (.string b)) (hd:Nat.blt d n=true) (g:owp P n ops Q rest ((d,.string c) :: l) w):owp P n ops Q (⟨some d,.binOp .add t x y u,ty,pos,aft,none⟩ :: rest) l w:=Bp (TE he e f) hd g
variable {S : World → Prop} {r : List (Nat × Bool)} {i : Nat}
theorem HV {t u:TypeId} {x y:Operand} {a b c:ByteArray} (he:R9 a b=some c) (hi:ops[i]?=some ⟨some d,.binOp .add t x y u,ty,pos,aft,none⟩) (e:opv l x=some (.string a)) (f:opv l y=some (.string b))  (g:hwp P n ops Q S r ((d,.string c) :: l) w) (hd:Nat.blt d n=true:=by exact rfl):hwp P n ops Q S ((i,true) :: r) l w:=Az hi (Bh (λ _ _=>TE he e f) hd g)
end
end
section
open Go Go.RowKit
section
variable {α : Type} [Rp α] {w w' : World} {O : Lab} {ls ls' : List Nat} {v : Value} {x : α}
theorem Vb.subS (a:Vb w (FrS ls w O) v x) (hl:∀ q∈ls,q∈ls'):Vb w (FrS ls' w O) v x:=a.mono λ _ hk=>⟨hk.1,hk.2.imp_right (hl _)⟩
theorem Vb.all0 (a:Vb w (All w) v x):Vb w (Fr 0 w (λ _=>0)) v x:=a.mono λ _ hk=>⟨hk,rfl⟩
theorem WL (a:Ext w w'):upA (FrS ls w O) w w'=FrS ls w' (upO O w.heap.size λ _=>0):=by
  funext k
  apply propext
  constructor
  . rintro (h|h)
    . exact ⟨H3 h.1 a.size,by rw [Fw h.1];exact h.2⟩
    . exact ⟨h.2,.inl (Ff h.1)⟩
  . intro h
    rcases N2 k w.heap.size with hlt|hge
    . exact .inl ⟨hlt,by have:=h.2;rwa [Fw hlt] at this⟩
    . exact .inr ⟨hge,h.1⟩
theorem Aat {F G:Nat->Prop}:∀ {xs:List Int} {cells:List Value},Chunks w F cells xs->Chunks w G cells xs
  | [],_,h=>h
  | _ :: _,_,⟨cs,rest,he,hr,hc⟩=>⟨cs,rest,he,hr,Aat hc⟩
theorem RowR.ints {F A:Nat->Prop} {e:TypeId} {xs:List Int} (a:RowR w w' F e v xs):RowR w w' (upA A w w') e v xs:=by
  obtain ⟨G,_,cells,q1,q2,q3⟩:=a
  exact ⟨λ _=>False,λ _ a=>a.elim,cells,q1,Aat q2,λ _ _ a=>a⟩
end
section
variable {P : Program} {n : Nat} {ops : Array Oper} {Q : Q8} {rest : List Oper} {l : Env} {w : World} {d : Tmp} {ty : TypeId} {pos : String} {aft : Array Edge}
theorem Oa {f:FuncId} [Callable P f] {xs:List Operand} {vs:List Value} {c:Array TypeId} {O:Lab} {ls:List Nat} {R:World->(Nat->Prop)->Value->Prop} (hc:Fn P f vs w λ v w'=>Ext w w'/\R w' (upA (FrS ls w O) w w') v) (e:R6 l xs=some vs) (hd:Nat.blt d n=true)
    (g:∀ v w' a,St nT w O w' a->R w' (FrS ls w' a) v->owp P n ops Q rest ((d,v) :: l) w'):owp P n ops Q (⟨some d,.call { callee:=.value (.func f),args:=xs.toArray,argTypes:=c },ty,pos,aft,none⟩ :: rest) l w :=
  BD e (hd:=hd) hc λ v w' ⟨b,hR⟩=>g v w' (upO O w.heap.size λ _=>0) (b.st O _) (by rwa [WL b] at hR)
theorem Cw {β:Type} [Rp β] (i:Nat)  {j:Nat} {O:Lab} {t k e:TypeId} [TSlice P t k] {z:Value} {size bytes:Nat} [TInfo P k z size bytes] (b:size=1) {y:Operand} {u:Value} {ys:List β} (m:Rw j w O e u ys) 
    (F:opv l y=some u) 
    (K:∀ g w' E,St (eT j) w O w' E->NR β i w' E k e (.slice (some ⟨g,0,none⟩) [ys].length 1) [ys] none->owp P n ops Q rest ((d,.slice (some ⟨g,0,none⟩) [ys].length 1) :: l) w') (o:i≠0:=by decide) (G:j≠i:=by decide) (hd:Nat.blt d n=true:=by decide) :
    owp P n ops Q (⟨some d,.buildSlice t 1 #[(0,y)],ty,pos,aft,none⟩ :: rest) l w:=by
  obtain ⟨q,hq0,hqi,hqj,hf⟩:=ZN O w.heap.size i j
  have H:j≠0:=m.2.2
  let f:Raw false 1:=⟨[u],rfl,λ v hv=>by
    have:v=u:=by simpa using hv
    obtain ⟨A,c,hu⟩:=m.form
    rw [this,hu];rfl⟩
  have p:Rp.R w (Fr 0 w O) (f.cs.set (NestAt.q (List β) β) (.slice none 0 0)) (NestAt.put (β:=β) ys []):=(Vb.nil w _).cells1
  obtain ⟨s,hS2,hN2⟩:=Nest.snoc (α:=List β) (r:=f) (x:=ys) (Nest.nil (α:=List β) (β:=β) (a:=false) (n:=1) (w:=w) (O:=O) (e:=e) hq0) p rfl m (P8 hqj)
  have B:Vb w (Fr 0 w s) u f:=show Rp.R w (Fr 0 w s) [u] f from rfl
  refine DW (α:=Raw false 1) i (hi:=o) s (ps:=[(0,y)]) (vs:=[u]) (xs:=[f]) b (by simp [R6,F]) rfl ⟨B,trivial⟩ (hz:=(by omega)) (hm:=(by omega)) hd λ g w' J h C=>?_
  have D:=hN2.st h (λ K=>K) (λ K=>K)
  obtain ⟨I,hS4,h4⟩:=NR.shut (α:=List β) C D hqi
  exact K g w' I (St.via (j:=q) hS2 h hS4 hf (λ _ K=>K) (λ _ K=>K.elim) (λ _ K=>.inr K)) h4
end
end
section
open Go Go.RowKit
attribute [local irreducible] ewp owp hwp hwq hws Ev Evg Fn Q4 R7 R2 Q9
def hasB (s:List Int) (x:Fct):Bool:=decide (0<=x.var) && decide (s[x.var.toNat]?=some x.val)
def holdsB (f:List Fct) (s:List Int):Bool:=f.all (hasB s)
theorem Jj {f:List Fct} {s:List Int} {k:Nat} {x:Fct} (a:f[k]?=some x) (b:hasB s x=false):holdsB f s=false:=by
  unfold holdsB
  rw [List.all_eq_false]
  exact ⟨x,F9 a,by simp [b]⟩
theorem Mg {f:List Fct} {s:List Int} {k:Nat} {x:Fct} (a:f[k]?=some x) (c:hasB s x=true) (b:holdsB (f.take k) s=true):holdsB (f.take (k + 1)) s=true:=by
  unfold holdsB at *
  rw [I6,a,List.all_append,b]
  simp [c]
theorem Oc {s:List Int} {x:Fct} {j:Nat} {y:Int} (hj:x.var=(j:Int)) (a:s[j]?=some y):hasB s x=decide (y=x.val):=by
  unfold hasB
  rw [hj];simp [a]
theorem AG {α:Type} {l:List α} {k:Nat} (a:k < l.length):∃ x,l[k]?=some x:=⟨l[k],C4 a⟩
theorem BV {α:Type} {l:List α} {k:Nat} {x:α} (a:l[k]?=some x):k < l.length:=(B6.1 a).1
structure Wr0 (H:Prop):Prop where o:H
theorem ab {G H:Prop} (g:H) (h:Wr0 H->G:=by intro x;(repeat (first|refine Ay ?_|refine Aj rfl ?_|refine Ae rfl ?_));exact x.o):G:=h ⟨g⟩
theorem aj {G H:Prop} (g:H) (h:Wr0 H->G:=by intro x;refine Au rfl ?_;refine o_z ?_;refine ab ?_;exact x.o):G:=h ⟨g⟩
theorem ae {G H:Prop} (g:H) (h:Wr0 H->G:=by intro x;refine ab ?_;refine aj ?_;exact x.o):G:=h ⟨g⟩
theorem bb {G H:Prop} (g:H) (h:Wr0 H->G:=by intro x;refine ae ?_;refine At rfl ?_;exact x.o):G:=h ⟨g⟩
theorem au {G H:Prop} (g:H) (h:Wr0 H->G:=by intro x;refine AU rfl ?_;refine At rfl ?_;refine o_z ?_;refine ab ?_;exact x.o):G:=h ⟨g⟩
theorem aX {G H:Prop} (g:H) (h:Wr0 H->G:=by intro x;refine bb ?_;refine au ?_;exact x.o):G:=h ⟨g⟩
theorem aw {G H:Prop} (g:H) (h:Wr0 H->G:=by intro x;refine ab ?_;(first|refine Ee rfl rfl ?_|refine Ef rfl rfl ?_);refine o_z ?_;refine ab ?_;exact x.o):G:=h ⟨g⟩
theorem bo {G H:Prop} (g:H) (h:Wr0 H->G:=by intro x;refine DV rfl rfl ?_;refine BH rfl ?_;refine ab ?_;exact x.o):G:=h ⟨g⟩
theorem ar {G H:Prop} (g:H) (h:Wr0 H->G:=by intro x;refine AL rfl rfl ?_;refine CY rfl rfl ?_;exact x.o):G:=h ⟨g⟩
theorem aT {G H:Prop} (g:H) (h:Wr0 H->G:=by intro x;(refine Az rfl ?_;(first|(refine Aw rfl rfl ?_;refine BM rfl ?_)|refine AE rfl rfl ?_));(refine Az rfl ?_;(first|(refine Aw rfl rfl ?_;refine Bu rfl ?_)|refine AE rfl rfl ?_));exact x.o):G:=h ⟨g⟩
theorem al {G H:Prop} (g:H) (h:Wr0 H->G:=by intro x;(refine Az rfl ?_;(first|(refine Aw rfl rfl ?_;refine Ce rfl ?_)|refine AE rfl rfl ?_));exact x.o):G:=h ⟨g⟩
theorem az {G H:Prop} (g:H) (h:Wr0 H->G:=by intro x;refine AJ rfl rfl ?_;refine aT ?_;refine al ?_;(refine Az rfl ?_;(first|(refine Aw rfl rfl ?_;refine Ju rfl ?_)|refine AE rfl rfl ?_));exact x.o):G:=h ⟨g⟩
theorem bx {G H:Prop} (g:H) (h:Wr0 H->G:=by intro x;(first|refine CL rfl rfl rfl ?_|refine CE rfl rfl rfl ?_);exact x.o):G:=h ⟨g⟩
theorem bj {G H:Prop} (g:H) (h:Wr0 H->G:=by intro x;refine bx ?_;refine AJ rfl rfl ?_;exact x.o):G:=h ⟨g⟩
theorem bR {G H:Prop} (g:H) (h:Wr0 H->G:=by intro x;(refine Az rfl ?_;(first|(refine Aw rfl rfl ?_;refine Hv rfl rfl ?_)|refine AE rfl rfl ?_));(refine Az rfl ?_;(first|(refine Aw rfl rfl ?_;refine Bu rfl ?_)|refine AE rfl rfl ?_));exact x.o):G:=h ⟨g⟩
theorem bf {G H:Prop} (g:H) (h:Wr0 H->G:=by intro x;refine al ?_;refine aT ?_;refine bR ?_;exact x.o):G:=h ⟨g⟩
theorem bp {G H:Prop} (g:H) (h:Wr0 H->G:=by intro x;refine bj ?_;refine bf ?_;refine aT ?_;exact x.o):G:=h ⟨g⟩
theorem aY {G H:Prop} (g:H) (h:Wr0 H->G:=by intro x;refine bx ?_;refine h_z ?_;exact x.o):G:=h ⟨g⟩
theorem aR {G H:Prop} (g:H) (h:Wr0 H->G:=by intro x;(first|refine HH rfl ?_|refine HG rfl rfl ?_);refine At rfl ?_;refine o_z ?_;exact x.o):G:=h ⟨g⟩
theorem aZ {G H:Prop} (g:H) (h:Wr0 H->G:=by intro x;refine aw ?_;refine aj ?_;exact x.o):G:=h ⟨g⟩
theorem Aa6 {w:World} {e sv:Value} {f:List Fct} {s:List Int} (hf:V w e f) (hs:V w sv s) :
    Fn prog 59 [e,sv] w λ v w'=>v=.bool (bof (holdsB f s=true))/\Ext w w':=by
  obtain ⟨i,cf,rfl⟩:=hf.form
  obtain ⟨m,cs,rfl⟩:=hs.form
  have n:=hf.len
  refine AK func59 rfl ntmps59 ?_
  refine aX ?_
  refine Gs (λ k:Nat=>[(1,.slice m s.length cs),(7,.slice i f.length cf),(8,.int .i64 (f.length:Int)),(9,.int .i64 (k:Int))])
    (λ k w'=>Ext w w'/\k<=f.length/\holdsB (f.take k) s=true) (λ k=>f.length - k) 0 ⟨P7 _ _,P4 _,rfl⟩ ⟨rfl,rfl,rfl,rfl,trivial⟩ ?_
  rintro k r ⟨d,hk,hh⟩
  by_cases hlt:k < f.length
  . obtain ⟨x,hx⟩:=AG hlt
    obtain ⟨b,o,ce,rfl,hb,_,hd1,rfl,hr1,hr2⟩:=(hf.ext d).elem hx
    refine aw ?_<;>refine bo ?_
    refine CJ rfl rfl (by simp [Value.cells,Value.oneCell']) λ g h=>?_
    have p:=h.blk
    have a:Ext w g:=d.trans' h.ext
    refine o_z ?_
    refine ab ?_
    refine Dd (·=g) [(0,true),(1,true),(2,true),(3,true),(4,true),(5,true),(6,true),(7,true),(8,true),(9,true),(10,true),(11,true),(12,true),(13,true),(14,true),(15,true),(16,true),(17,true),(18,true),(19,true)] rfl rfl ?_
    by_cases hv:0<=x.var/\x.var < s.length
    . obtain ⟨j,hj1⟩:=D0 hv.1
      obtain ⟨y,hy⟩:=AG (l:=s) (k:=j) (by omega)
      obtain ⟨t,o2,ce2,rfl,_,_,hd2,rfl,_⟩:=(hs.ext a).elem hy
      have c:=Oc (s:=s) hj1 hy
      (refine ar ?_<;>(first|refine HS rfl rfl rfl ?_|refine HT rfl rfl rfl ?_|refine GJ rfl rfl rfl (λ _=>?_) λ _=>?_)<;>refine az ?_<;>(refine Az rfl ?_;(first|(refine Aw rfl rfl ?_;(first|refine Cm (λ _ _=>Bw rfl rfl) (by omega) ?_|refine Cn (λ _ _=>Bw rfl rfl) (by omega) ?_|refine Bj (λ _ _=>Bw rfl rfl) (λ _=>?_) (λ _=>?_)))|refine AE rfl rfl ?_))<;>refine bp ?_<;>(refine Az rfl ?_;(first|(refine Aw rfl rfl ?_;(first|refine Cm (λ _ _=>Fs rfl rfl) (by omega) ?_|refine Cn (λ _ _=>Fs rfl rfl) (by omega) ?_|refine Bj (λ _ _=>Fs rfl rfl) (λ _=>?_) (λ _=>?_)))|refine AE rfl rfl ?_))<;>refine aY ?_)<;>refine ab ?_
      . refine ae ?_
        refine Q5 rfl rfl ⟨?_,a⟩
        rw [Jj hx (by rw [c];simpa using ‹_›),Iu]
      . refine aR ?_
        exact ⟨k + 1,⟨rfl,rfl,rfl,rfl,trivial⟩,⟨a,by omega,Mg hx (by rw [c];simp;omega) hh⟩,by omega⟩
    . have c:hasB s x=false:=by
        unfold hasB
        by_cases q:0<=x.var
        . have:s.length<=x.var.toNat:=by omega
          simp [E6 this]
        . simp [q]
      (refine ar ?_<;>(first|refine HS rfl rfl rfl ?_|refine HT rfl rfl rfl ?_|refine GJ rfl rfl rfl (λ _=>?_) λ _=>?_)<;>refine az ?_<;>(refine Az rfl ?_;(first|(refine Aw rfl rfl ?_;(first|refine Cm (λ _ _=>Bw rfl rfl) (by omega) ?_|refine Cn (λ _ _=>Bw rfl rfl) (by omega) ?_|refine Bj (λ _ _=>Bw rfl rfl) (λ _=>?_) (λ _=>?_)))|refine AE rfl rfl ?_))<;>refine bp ?_<;>(refine Az rfl ?_;(first|(refine Aw rfl rfl ?_;(first|refine Cm (λ _ _=>Fs rfl rfl) (by omega) ?_|refine Cn (λ _ _=>Fs rfl rfl) (by omega) ?_|refine Bj (λ _ _=>Fs rfl rfl) (λ _=>?_) (λ _=>?_)))|refine AE rfl rfl ?_))<;>refine aY ?_)<;>refine ab ?_
      all_goals
        refine ae ?_
        refine Q5 rfl rfl ⟨?_,a⟩
        rw [Jj hx c,Iu]
  . refine aZ ?_
    refine Q5 rfl rfl ⟨?_,d⟩
    rw [D4 (by omega)] at hh
    rw [hh,Iu]
theorem Abb {w:World} {e sv:Value} {f:List Fct} {s:List Int} (hf:V w e f) (hs:V w sv s) :
    Fn prog 23 [e,sv] w λ v w'=>v=.bool (bof (holdsB f s=true))/\Ext w w':=by
  obtain ⟨i,cf,rfl⟩:=hf.form
  obtain ⟨m,cs,rfl⟩:=hs.form
  have n:=hf.len
  refine AK func23 rfl ntmps23 ?_
  refine aX ?_
  refine Gs (λ k:Nat=>[(1,.slice m s.length cs),(7,.slice i f.length cf),(8,.int .i64 (f.length:Int)),(9,.int .i64 (k:Int))])
    (λ k w'=>Ext w w'/\k<=f.length/\holdsB (f.take k) s=true) (λ k=>f.length - k) 0 ⟨P7 _ _,P4 _,rfl⟩ ⟨rfl,rfl,rfl,rfl,trivial⟩ ?_
  rintro k r ⟨d,hk,hh⟩
  by_cases hlt:k < f.length
  . obtain ⟨x,hx⟩:=AG hlt
    obtain ⟨b,o,ce,rfl,hb,_,hd1,rfl,hr1,hr2⟩:=(hf.ext d).elem hx
    refine aw ?_<;>refine bo ?_
    refine CJ rfl rfl (by simp [Value.cells,Value.oneCell']) λ g h=>?_
    have p:=h.blk
    have a:Ext w g:=d.trans' h.ext
    refine o_z ?_
    refine ab ?_
    refine Dd (·=g) [(0,true),(1,true),(2,true),(3,true),(4,true),(5,true),(6,true),(7,true),(8,true),(9,true),(10,true),(11,true),(12,true),(13,true),(14,true),(15,true),(16,true),(17,true),(18,true),(19,true)] rfl rfl ?_
    by_cases hv:0<=x.var/\x.var < s.length
    . obtain ⟨j,hj1⟩:=D0 hv.1
      obtain ⟨y,hy⟩:=AG (l:=s) (k:=j) (by omega)
      obtain ⟨t,o2,ce2,rfl,_,_,hd2,rfl,_⟩:=(hs.ext a).elem hy
      have c:=Oc (s:=s) hj1 hy
      (refine ar ?_<;>(first|refine HS rfl rfl rfl ?_|refine HT rfl rfl rfl ?_|refine GJ rfl rfl rfl (λ _=>?_) λ _=>?_)<;>refine az ?_<;>(refine Az rfl ?_;(first|(refine Aw rfl rfl ?_;(first|refine Cm (λ _ _=>Bw rfl rfl) (by omega) ?_|refine Cn (λ _ _=>Bw rfl rfl) (by omega) ?_|refine Bj (λ _ _=>Bw rfl rfl) (λ _=>?_) (λ _=>?_)))|refine AE rfl rfl ?_))<;>refine bp ?_<;>(refine Az rfl ?_;(first|(refine Aw rfl rfl ?_;(first|refine Cm (λ _ _=>Fs rfl rfl) (by omega) ?_|refine Cn (λ _ _=>Fs rfl rfl) (by omega) ?_|refine Bj (λ _ _=>Fs rfl rfl) (λ _=>?_) (λ _=>?_)))|refine AE rfl rfl ?_))<;>refine aY ?_)<;>refine ab ?_
      . refine ae ?_
        refine Q5 rfl rfl ⟨?_,a⟩
        rw [Jj hx (by rw [c];simpa using ‹_›),Iu]
      . refine aR ?_
        exact ⟨k + 1,⟨rfl,rfl,rfl,rfl,trivial⟩,⟨a,by omega,Mg hx (by rw [c];simp;omega) hh⟩,by omega⟩
    . have c:hasB s x=false:=by
        unfold hasB
        by_cases q:0<=x.var
        . have:s.length<=x.var.toNat:=by omega
          simp [E6 this]
        . simp [q]
      (refine ar ?_<;>(first|refine HS rfl rfl rfl ?_|refine HT rfl rfl rfl ?_|refine GJ rfl rfl rfl (λ _=>?_) λ _=>?_)<;>refine az ?_<;>(refine Az rfl ?_;(first|(refine Aw rfl rfl ?_;(first|refine Cm (λ _ _=>Bw rfl rfl) (by omega) ?_|refine Cn (λ _ _=>Bw rfl rfl) (by omega) ?_|refine Bj (λ _ _=>Bw rfl rfl) (λ _=>?_) (λ _=>?_)))|refine AE rfl rfl ?_))<;>refine bp ?_<;>(refine Az rfl ?_;(first|(refine Aw rfl rfl ?_;(first|refine Cm (λ _ _=>Fs rfl rfl) (by omega) ?_|refine Cn (λ _ _=>Fs rfl rfl) (by omega) ?_|refine Bj (λ _ _=>Fs rfl rfl) (λ _=>?_) (λ _=>?_)))|refine AE rfl rfl ?_))<;>refine aY ?_)<;>refine ab ?_
      all_goals
        refine ae ?_
        refine Q5 rfl rfl ⟨?_,a⟩
        rw [Jj hx c,Iu]
  . refine aZ ?_
    refine Q5 rfl rfl ⟨?_,d⟩
    rw [D4 (by omega)] at hh
    rw [hh,Iu]
theorem bd {G H:Prop} (g:H) (h:Wr0 H->G:=by intro x;refine ae ?_;refine At rfl ?_;refine AU rfl ?_;refine At rfl ?_;refine AU rfl ?_;(first|refine LF rfl rfl rfl ?_|refine LG rfl rfl rfl ?_);exact x.o):G:=h ⟨g⟩
theorem ak {G H:Prop} (g:H) (h:Wr0 H->G:=by intro x;refine ab ?_;refine At rfl ?_;exact x.o):G:=h ⟨g⟩
theorem be {G H:Prop} (g:H) (h:Wr0 H->G:=by intro x;refine o_z ?_;refine ak ?_;exact x.o):G:=h ⟨g⟩
theorem ad {G H:Prop} (g:H) (h:Wr0 H->G:=by intro x;refine At rfl ?_;exact x.o):G:=h ⟨g⟩
theorem ai {G H:Prop} (g:H) (h:Wr0 H->G:=by intro x;refine AJ rfl rfl ?_;exact x.o):G:=h ⟨g⟩
theorem bz {G H:Prop} (g:H) (h:Wr0 H->G:=by intro x;refine ai ?_;refine ai ?_;refine KV rfl rfl rfl ?_;refine CY rfl rfl ?_;exact x.o):G:=h ⟨g⟩
theorem Abk {w:World} {d e:Value} {a b:List Int} (c:V w d a) (hb:V w e b) :
    Fn prog 13 [d,e] w λ v w'=>v=.bool (bof (a=b))/\Ext w w':=by
  obtain ⟨A,ca,rfl⟩:=c.form
  obtain ⟨B,cb,rfl⟩:=hb.form
  have f:=c.len
  refine AK func13 rfl ntmps13 ?_
  by_cases hl:a.length=b.length
  . refine bd ?_<;>refine be ?_<;>refine au ?_
    refine Gs (λ k:Nat=>[(0,.slice A a.length ca),(1,.slice B b.length cb),(12,.int .i64 (a.length:Int)),(13,.int .i64 (k:Int))])
      (λ k w'=>w'=w/\k<=a.length/\a.take k=b.take k) (λ k=>a.length - k) 0 ⟨rfl,P4 _,rfl⟩ ⟨rfl,rfl,rfl,rfl,trivial⟩ ?_
    rintro k _ ⟨rfl,hk,hh⟩
    by_cases hlt:k < a.length
    . obtain ⟨x,hx⟩:=AG hlt
      obtain ⟨y,hy⟩:=AG (l:=b) (k:=k) (by omega)
      obtain ⟨g,o1,ce,rfl,_,_,hd1,rfl,_⟩:=c.elem hx
      obtain ⟨h,o2,ce,rfl,_,_,hd2,rfl,_⟩:=hb.elem hy
      refine aw ?_<;>refine ad ?_<;>refine aj ?_
      refine Dd (·=_) [(0,true),(1,true),(2,true),(3,true),(4,true),(5,true),(6,true),(7,true),(8,true)] rfl rfl ?_
      (refine bz ?_<;>refine bz ?_<;>(first|refine YJ rfl rfl rfl rfl ?_|refine YK rfl rfl rfl rfl ?_|refine SC rfl rfl rfl rfl (λ _=>?_) λ _=>?_)<;>refine h_z ?_)<;>refine ab ?_
      . refine ae ?_
        refine Q5 rfl rfl ⟨?_,P7 _ _⟩
        rw [AY]
        rintro rfl
        exact absurd (L1 (hx.symm.trans hy)) (by assumption)
      . refine aR ?_
        exact ⟨k + 1,⟨rfl,rfl,rfl,rfl,trivial⟩,⟨rfl,by omega,by rw [I6,I6,hx,hy,hh,show x=y from by omega]⟩,by omega⟩
    . refine aZ ?_
      refine Q5 rfl rfl ⟨?_,P7 _ _⟩
      rw [D4 (by omega),D4 (by omega)] at hh
      rw [Bk hh]
  . refine bd ?_<;>refine o_z ?_<;>refine ae ?_
    refine Q5 rfl rfl ⟨?_,P7 _ _⟩
    rw [AY (λ i=>hl (by rw [i]))]
def StateOk (vars s:List Int):Prop:=s.length=vars.length/\∀ (i:Nat) x y,s[i]?=some x->vars[i]?=some y->0<=x/\x < y
theorem Abf {w:World} {c sv:Value} {vars s:List Int} (d:V w c vars) (hb:V w sv s) :
    Fn prog 29 [c,sv] w λ v w'=>v=.bool (bof (StateOk vars s))/\Ext w w':=by
  obtain ⟨A,ca,rfl⟩:=d.form
  obtain ⟨B,cb,rfl⟩:=hb.form
  have e:=hb.len
  refine AK func29 rfl ntmps29 ?_
  by_cases hl:s.length=vars.length
  . refine bd ?_<;>refine be ?_<;>refine au ?_
    refine Gs (λ k:Nat=>[(0,.slice A vars.length ca),(1,.slice B s.length cb),(12,.int .i64 (s.length:Int)),(13,.int .i64 (k:Int))])
      (λ k w'=>w'=w/\k<=s.length/\∀ (i:Nat) x y,i < k->s[i]?=some x->vars[i]?=some y->0<=x/\x < y) (λ k=>s.length - k) 0 ⟨rfl,P4 _,λ i _ _ m=>by omega⟩ ⟨rfl,rfl,rfl,rfl,trivial⟩ ?_
    rintro k _ ⟨rfl,hk,hh⟩
    by_cases hlt:k < s.length
    . obtain ⟨x,hx⟩:=AG hlt
      obtain ⟨y,hy⟩:=AG (l:=vars) (k:=k) (by omega)
      obtain ⟨h,o1,ce,rfl,_,_,hd1,rfl,_⟩:=d.elem hy
      obtain ⟨j,o2,ce,rfl,_,_,hd2,rfl,_⟩:=hb.elem hx
      refine aw ?_<;>refine ad ?_<;>refine aj ?_
      refine Dd (·=_) [(0,true),(1,true),(2,true),(3,true),(4,true),(5,true),(6,true),(7,true),(8,true),(9,true),(10,true),(11,true),(12,true),(13,true),(14,true),(15,true)] rfl rfl ?_
      (refine bz ?_<;>(first|refine HS rfl rfl rfl ?_|refine HT rfl rfl rfl ?_|refine GJ rfl rfl rfl (λ _=>?_) λ _=>?_)<;>refine ai ?_<;>refine al ?_<;>refine al ?_<;>refine bR ?_<;>refine al ?_<;>refine al ?_<;>refine bR ?_<;>(refine Az rfl ?_;(first|(refine Aw rfl rfl ?_;(first|refine Cm (λ _ _=>Bw rfl rfl) (by omega) ?_|refine Cn (λ _ _=>Bw rfl rfl) (by omega) ?_|refine Bj (λ _ _=>Bw rfl rfl) (λ _=>?_) (λ _=>?_)))|refine AE rfl rfl ?_))<;>refine aY ?_)<;>refine ab ?_
      case refine_2.refine_2 =>
        refine aR ?_
        refine ⟨k + 1,⟨rfl,rfl,rfl,rfl,trivial⟩,⟨rfl,by omega,λ i f g hi a b=>?_⟩,by omega⟩
        by_cases he:i=k
        . subst he
          rw [hx] at a;rw [hy] at b
          injection a with a;injection b with b
          omega
        . exact hh i f g (by omega) a b
      all_goals
        refine ae ?_
        refine Q5 rfl rfl ⟨?_,P7 _ _⟩
        rw [AY (λ m=>by have:=m.2 k x y hx hy;omega)]
    . refine aZ ?_
      refine Q5 rfl rfl ⟨?_,P7 _ _⟩
      rw [Bk ⟨hl,λ i x y a b=>hh i x y (by have:=BV a;omega) a b⟩]
  . refine bd ?_<;>refine o_z ?_<;>refine ae ?_
    refine Q5 rfl rfl ⟨?_,P7 _ _⟩
    rw [AY (λ m=>hl m.1)]
end
section
open Go Go.RowKit
attribute [local irreducible] ewp owp hwp hwq hws Ev Evg Fn Q4 R7 R2 Q9
theorem aS {G H:Prop} (g:H) (h:Wr0 H->G:=by intro x;refine Au rfl ?_;refine aj ?_;exact x.o):G:=h ⟨g⟩
theorem ah {G H:Prop} (g:H) (h:Wr0 H->G:=by intro x;(first|refine BJ rfl rfl ?_|refine BK rfl rfl ?_);refine o_z ?_;exact x.o):G:=h ⟨g⟩
theorem Z3 {w:World} {c sv:Value} {vars s:List Int} (d:V w c vars) (hb:V w sv s) :
    Fn prog 42 [c,sv] w λ v w'=>v=.bool (bof (StateOk vars s))/\Ext w w':=by
  obtain ⟨A,ca,rfl⟩:=d.form
  obtain ⟨B,cb,rfl⟩:=hb.form
  have e:=hb.len
  refine AK func42 rfl ntmps42 ?_
  by_cases hl:s.length=vars.length
  . refine bd ?_<;>refine be ?_<;>refine au ?_
    refine Gs (λ k:Nat=>[(0,.slice A vars.length ca),(12,.slice B s.length cb),(13,.int .i64 (s.length:Int)),(14,.int .i64 (k:Int))])
      (λ k w'=>w'=w/\k<=s.length/\∀ (i:Nat) x y,i < k->s[i]?=some x->vars[i]?=some y->0<=x/\x < y) (λ k=>s.length - k) 0 ⟨rfl,P4 _,λ i _ _ m=>by omega⟩ ⟨rfl,rfl,rfl,rfl,trivial⟩ ?_
    rintro k _ ⟨rfl,hk,hh⟩
    by_cases hlt:k < s.length
    . obtain ⟨x,hx⟩:=AG hlt
      obtain ⟨y,hy⟩:=AG (l:=vars) (k:=k) (by omega)
      obtain ⟨h,o1,ce,rfl,_,_,hd1,rfl,_⟩:=d.elem hy
      obtain ⟨j,o2,ce,rfl,_,_,hd2,rfl,_⟩:=hb.elem hx
      (refine aw ?_<;>refine ad ?_<;>refine DV rfl rfl ?_<;>refine AQ rfl ?_<;>refine aS ?_<;>(refine ad ?_<;>(first|refine Ee rfl rfl ?_|refine Ef rfl rfl ?_|refine Eq rfl rfl (λ _=>?_) λ _=>?_)<;>refine ad ?_<;>(first|(refine AB rfl rfl ?_;refine At rfl ?_)|refine AA rfl rfl ?_)<;>(first|(refine AB rfl rfl ?_;refine At rfl ?_)|refine AA rfl rfl ?_)<;>(first|(refine AB rfl rfl ?_;refine At rfl ?_)|refine AA rfl rfl ?_)<;>(first|(refine AB rfl rfl ?_;refine DV rfl rfl ?_)|refine AA rfl rfl ?_)<;>(first|(refine AB rfl rfl ?_;refine AQ rfl ?_)|refine AA rfl rfl ?_)<;>(first|(refine AB rfl rfl ?_;(first|refine Nd rfl rfl rfl ?_|refine Nf rfl rfl rfl ?_|refine GH rfl rfl (λ _=>?_) λ _=>?_))|refine AA rfl rfl ?_)<;>refine ah ?_)<;>refine ab ?_)
      case refine_2.refine_2 =>
        refine aR ?_
        refine ⟨k + 1,⟨rfl,rfl,rfl,rfl,trivial⟩,⟨rfl,by omega,λ i f g hi a b=>?_⟩,by omega⟩
        by_cases he:i=k
        . subst he
          rw [hx] at a;rw [hy] at b
          injection a with a;injection b with b
          omega
        . exact hh i f g (by omega) a b
      all_goals
        refine ae ?_
        refine Q5 rfl rfl ⟨?_,P7 _ _⟩
        rw [AY (λ m=>by have:=m.2 k x y hx hy;omega)]
    . refine aZ ?_
      refine Q5 rfl rfl ⟨?_,P7 _ _⟩
      rw [Bk ⟨hl,λ i x y a b=>hh i x y (by have:=BV a;omega) a b⟩]
  . refine bd ?_<;>refine o_z ?_<;>refine ae ?_
    refine Q5 rfl rfl ⟨?_,P7 _ _⟩
    rw [AY (λ m=>hl m.1)]
def R1 (vars:List Int) (x:Fct):Prop:=0<=x.var/\0<=x.val/\∃ y,vars[x.var.toNat]?=some y/\x.val < y
def Q7 (vars:List Int) (f:List Fct):Prop:=(∀ (i:Nat) x,f[i]?=some x->R1 vars x)/\∀ (i:Nat) x y,f[i]?=some x->f[i + 1]?=some y->x.var < y.var
def FactsTo (vars:List Int) (f:List Fct) (k:Nat):Prop:=(∀ (i:Nat) x,i < k->f[i]?=some x->R1 vars x)/\∀ (i:Nat) x y,i + 1 < k->f[i]?=some x->f[i + 1]?=some y->x.var < y.var
theorem FactsTo.step {vars:List Int} {f:List Fct} {k:Nat} {x:Fct} (e:FactsTo vars f k) (b:f[k]?=some x) (c:R1 vars x) (d:∀ y,0 < k->f[k - 1]?=some y->y.var < x.var):FactsTo vars f (k + 1):=by
  refine ⟨λ i y hi a=>?_,λ i y z hi a hz=>?_⟩
  . by_cases he:i=k
    . subst he;rw [b] at a;injection a with a;exact a ▸ c
    . exact e.1 i y (by omega) a
  . by_cases he:i + 1=k
    . rw [he,b] at hz;injection hz with hz;subst hz
      exact d y (by omega) (by rw [show k - 1=i from by omega];exact a)
    . exact e.2 i y z (by omega) a hz
theorem FactsTo.done {vars:List Int} {f:List Fct} {k:Nat} (c:FactsTo vars f k) (hk:f.length<=k):Q7 vars f :=
  ⟨λ i x a=>c.1 i x (by have:=BV a;omega) a,λ i x y a b=>c.2 i x y (by have:=BV b;omega) a b⟩
theorem ax {G H:Prop} (g:H) (h:Wr0 H->G:=by intro x;refine bj ?_;refine aT ?_;exact x.o):G:=h ⟨g⟩
theorem bT {G H:Prop} (g:H) (h:Wr0 H->G:=by intro x;refine al ?_;refine al ?_;refine al ?_;(refine Az rfl ?_;(first|(refine Aw rfl rfl ?_;refine UP rfl rfl rfl ?_)|refine AE rfl rfl ?_));(refine Az rfl ?_;(first|(refine Aw rfl rfl ?_;refine Hv rfl rfl ?_)|refine AE rfl rfl ?_));refine aT ?_;exact x.o):G:=h ⟨g⟩
theorem bU {G H:Prop} (g:H) (h:Wr0 H->G:=by intro x;(refine Az rfl ?_;(first|(refine Aw rfl rfl ?_;(first|refine UM rfl rfl rfl ?_|refine UN rfl rfl rfl ?_))|refine AE rfl rfl ?_));refine bx ?_;refine h_z ?_;exact x.o):G:=h ⟨g⟩
theorem ZD {w:World} {C D:Value} {vars:List Int} {f:List Fct} (hv:V w C vars) (hf:V w D f) :
    Fn prog 30 [C,D] w λ v w'=>v=.bool (bof (Q7 vars f))/\Ext w w':=by
  obtain ⟨A,ca,rfl⟩:=hv.form
  obtain ⟨B,cb,rfl⟩:=hf.form
  have G:=hf.len
  refine AK func30 rfl ntmps30 ?_
  refine aX ?_
  refine Gs (λ k:Nat=>[(0,.slice A vars.length ca),(1,.slice B f.length cb),(7,.slice B f.length cb),(8,.int .i64 (f.length:Int)),(9,.int .i64 (k:Int))])
    (λ k w'=>Ext w w'/\k<=f.length/\FactsTo vars f k) (λ k=>f.length - k) 0 ⟨P7 _ _,P4 _,⟨λ i _ P=>by omega,λ i _ _ P=>by omega⟩⟩ ⟨rfl,rfl,rfl,rfl,rfl,trivial⟩ ?_
  rintro k K ⟨t,hk,hh⟩
  by_cases hlt:k < f.length
  . obtain ⟨x,hx⟩:=AG hlt
    obtain ⟨b,o,ce,rfl,hb,_,hd1,rfl,hr1,hr2⟩:=(hf.ext t).elem hx
    refine aw ?_<;>refine ad ?_<;>refine bo ?_
    refine FC rfl λ L m=>?_
    refine Au rfl ?_
    refine CI rfl rfl m.blk rfl (P1 _) (by simp [Value.cells,Value.oneCell']) λ E H=>?_
    replace m:=m.upd H
    have I:=m.blk
    have a:Ext w E:=t.trans' m.ext
    refine o_z ?_
    refine ab ?_
    refine Dd (·=E) [(0,true),(1,true),(2,true),(3,true),(4,true),(5,true),(6,true),(7,true),(8,true),(9,true),(10,true),(11,true),(12,true),(13,true),(14,true),(15,true),(16,true),(17,true),(18,true),(19,true),(20,true),(21,true),(22,true),(23,true),(24,true),(25,true),(26,true),(27,true),(28,true),(29,true),(30,true),(31,true),(32,true),(33,true),(34,true),(35,true),(36,true),(37,true),(38,true),(39,true)] rfl rfl ?_
    by_cases n:0<=x.var/\x.var < vars.length
    . obtain ⟨j,hj1⟩:=D0 n.1
      obtain ⟨y,hy⟩:=AG (l:=vars) (k:=j) (by omega)
      obtain ⟨M,o2,ce2,rfl,_,_,hd2,rfl,_⟩:=(hv.ext a).elem hy
      have p:vars[x.var.toNat]?=some y:=by rw [hj1];simpa using hy
      have q:0<=x.val->x.val < y->R1 vars x:=λ g h=>⟨n.1,g,y,p,h⟩
      have e:¬ (0<=x.val/\x.val < y)->¬ Q7 vars f:=λ g h=>g (by
        obtain ⟨_,h3,F,s,h5⟩:=h.1 k x hx
        rw [p] at s;injection s with s;subst s;exact ⟨h3,h5⟩)
      by_cases N:0 < k
      . obtain ⟨z,hz⟩:=AG (l:=f) (k:=k - 1) (by omega)
        obtain ⟨O,o3,ce3,c,_,_,hd3,rfl,_⟩:=(hf.ext a).elem hz
        injection c with c
        injection c with c u
        subst c;subst u
        have J:(k:Int) - 1=((k - 1:Nat):Int):=by omega
        have r:¬ z.var < x.var->¬ Q7 vars f:=λ g h=>g (h.2 (k - 1) z x hz (by rw [show k - 1 + 1=k from by omega];exact hx))
        (refine ar ?_<;>(first|refine HS rfl rfl rfl ?_|refine HT rfl rfl rfl ?_|refine GJ rfl rfl rfl (λ _=>?_) λ _=>?_)<;>refine az ?_<;>(refine Az rfl ?_;(first|(refine Aw rfl rfl ?_;(first|refine Cm (λ _ _=>Bw rfl rfl) (by omega) ?_|refine Cn (λ _ _=>Bw rfl rfl) (by omega) ?_|refine Bj (λ _ _=>Bw rfl rfl) (λ _=>?_) (λ _=>?_)))|refine AE rfl rfl ?_))<;>refine ax ?_<;>(refine Az rfl ?_;(first|(refine Aw rfl rfl ?_;(first|refine Cm (λ _ _=>Di rfl rfl) (by omega) ?_|refine Cn (λ _ _=>Di rfl rfl) (by omega) ?_|refine Bj (λ _ _=>Di rfl rfl) (λ _=>?_) (λ _=>?_)))|refine AE rfl rfl ?_))<;>refine ax ?_<;>refine bf ?_<;>(refine Az rfl ?_;(first|(refine Aw rfl rfl ?_;(first|refine Cm (λ _ _=>Bw rfl rfl) (by omega) ?_|refine Cn (λ _ _=>Bw rfl rfl) (by omega) ?_|refine Bj (λ _ _=>Bw rfl rfl) (λ _=>?_) (λ _=>?_)))|refine AE rfl rfl ?_))<;>refine bj ?_<;>refine al ?_<;>(refine Az rfl ?_;(first|(refine Aw rfl rfl ?_;(first|refine Cm (λ _ _=>FW rfl rfl) (by omega) ?_|refine Cn (λ _ _=>FW rfl rfl) (by omega) ?_|refine Bj (λ _ _=>FW rfl rfl) (λ _=>?_) (λ _=>?_)))|refine AE rfl rfl ?_))<;>refine bT ?_<;>refine aT ?_<;>(refine Az rfl ?_;(first|(refine Aw rfl rfl ?_;(first|refine Cm (λ _ _=>Bw rfl rfl) (by omega) ?_|refine Cn (λ _ _=>Bw rfl rfl) (by omega) ?_|refine Bj (λ _ _=>Bw rfl rfl) (λ _=>?_) (λ _=>?_)))|refine AE rfl rfl ?_))<;>refine bU ?_)<;>refine ab ?_
        all_goals first
          | (refine aR ?_
             exact ⟨k + 1,⟨rfl,rfl,rfl,rfl,rfl,trivial⟩,⟨a,by omega,hh.step hx (q (by omega) (by omega)) (λ F _ d=>by rw [hz] at d;injection d with d;subst d;omega)⟩,by omega⟩)
          | (refine ae ?_
             refine Q5 rfl rfl ⟨?_,a⟩
             first|rw [AY (e (by omega))]|rw [AY (r (by omega))])
      . (refine ar ?_<;>(first|refine HS rfl rfl rfl ?_|refine HT rfl rfl rfl ?_|refine GJ rfl rfl rfl (λ _=>?_) λ _=>?_)<;>refine az ?_<;>(refine Az rfl ?_;(first|(refine Aw rfl rfl ?_;(first|refine Cm (λ _ _=>Bw rfl rfl) (by omega) ?_|refine Cn (λ _ _=>Bw rfl rfl) (by omega) ?_|refine Bj (λ _ _=>Bw rfl rfl) (λ _=>?_) (λ _=>?_)))|refine AE rfl rfl ?_))<;>refine ax ?_<;>(refine Az rfl ?_;(first|(refine Aw rfl rfl ?_;(first|refine Cm (λ _ _=>Di rfl rfl) (by omega) ?_|refine Cn (λ _ _=>Di rfl rfl) (by omega) ?_|refine Bj (λ _ _=>Di rfl rfl) (λ _=>?_) (λ _=>?_)))|refine AE rfl rfl ?_))<;>refine ax ?_<;>refine bf ?_<;>(refine Az rfl ?_;(first|(refine Aw rfl rfl ?_;(first|refine Cm (λ _ _=>Bw rfl rfl) (by omega) ?_|refine Cn (λ _ _=>Bw rfl rfl) (by omega) ?_|refine Bj (λ _ _=>Bw rfl rfl) (λ _=>?_) (λ _=>?_)))|refine AE rfl rfl ?_))<;>refine bj ?_<;>refine al ?_<;>(refine Az rfl ?_;(first|(refine Aw rfl rfl ?_;(first|refine Cm (λ _ _=>FW rfl rfl) (by omega) ?_|refine Cn (λ _ _=>FW rfl rfl) (by omega) ?_|refine Bj (λ _ _=>FW rfl rfl) (λ _=>?_) (λ _=>?_)))|refine AE rfl rfl ?_))<;>refine bT ?_<;>refine aT ?_<;>(refine Az rfl ?_;(first|(refine Aw rfl rfl ?_;(first|refine Cm (λ _ _=>Bw rfl rfl) (by omega) ?_|refine Cn (λ _ _=>Bw rfl rfl) (by omega) ?_|refine Bj (λ _ _=>Bw rfl rfl) (λ _=>?_) (λ _=>?_)))|refine AE rfl rfl ?_))<;>refine bU ?_)<;>refine ab ?_
        all_goals first
          | (refine aR ?_
             exact ⟨k + 1,⟨rfl,rfl,rfl,rfl,rfl,trivial⟩,⟨a,by omega,hh.step hx (q (by omega) (by omega)) (λ F _ d=>by omega)⟩,by omega⟩)
          | (refine ae ?_
             refine Q5 rfl rfl ⟨?_,a⟩
             rw [AY (e (by omega))])
    . have e:¬ Q7 vars f:=λ P=>by
        obtain ⟨g,h,y,h3,_⟩:=P.1 k x hx
        have:=BV h3
        omega
      (refine ar ?_<;>(first|refine HS rfl rfl rfl ?_|refine HT rfl rfl rfl ?_|refine GJ rfl rfl rfl (λ _=>?_) λ _=>?_)<;>refine az ?_<;>(refine Az rfl ?_;(first|(refine Aw rfl rfl ?_;(first|refine Cm (λ _ _=>Bw rfl rfl) (by omega) ?_|refine Cn (λ _ _=>Bw rfl rfl) (by omega) ?_|refine Bj (λ _ _=>Bw rfl rfl) (λ _=>?_) (λ _=>?_)))|refine AE rfl rfl ?_))<;>refine ax ?_<;>(refine Az rfl ?_;(first|(refine Aw rfl rfl ?_;(first|refine Cm (λ _ _=>Di rfl rfl) (by omega) ?_|refine Cn (λ _ _=>Di rfl rfl) (by omega) ?_|refine Bj (λ _ _=>Di rfl rfl) (λ _=>?_) (λ _=>?_)))|refine AE rfl rfl ?_))<;>refine ax ?_<;>refine bf ?_<;>(refine Az rfl ?_;(first|(refine Aw rfl rfl ?_;(first|refine Cm (λ _ _=>Bw rfl rfl) (by omega) ?_|refine Cn (λ _ _=>Bw rfl rfl) (by omega) ?_|refine Bj (λ _ _=>Bw rfl rfl) (λ _=>?_) (λ _=>?_)))|refine AE rfl rfl ?_))<;>refine bj ?_<;>refine al ?_<;>(refine Az rfl ?_;(first|(refine Aw rfl rfl ?_;(first|refine Cm (λ _ _=>FW rfl rfl) (by omega) ?_|refine Cn (λ _ _=>FW rfl rfl) (by omega) ?_|refine Bj (λ _ _=>FW rfl rfl) (λ _=>?_) (λ _=>?_)))|refine AE rfl rfl ?_))<;>refine bT ?_<;>refine aT ?_<;>(refine Az rfl ?_;(first|(refine Aw rfl rfl ?_;(first|refine Cm (λ _ _=>Bw rfl rfl) (by omega) ?_|refine Cn (λ _ _=>Bw rfl rfl) (by omega) ?_|refine Bj (λ _ _=>Bw rfl rfl) (λ _=>?_) (λ _=>?_)))|refine AE rfl rfl ?_))<;>refine bU ?_)<;>refine ab ?_
      all_goals
        refine ae ?_
        refine Q5 rfl rfl ⟨?_,a⟩
        rw [AY e]
  . refine aZ ?_
    refine Q5 rfl rfl ⟨?_,t⟩
    rw [Bk (hh.done (by omega))]
theorem ag {G H:Prop} (g:H) (h:Wr0 H->G:=by intro x;refine AO rfl ?_;refine AQ rfl ?_;exact x.o):G:=h ⟨g⟩
theorem AaE {w:World} {D E:Value} {vars:List Int} {f:List Fct} (hv:V w D vars) (hf:V w E f) :
    Fn prog 44 [D,E] w λ v w'=>v=.bool (bof (Q7 vars f))/\Ext w w':=by
  obtain ⟨A,ca,rfl⟩:=hv.form
  obtain ⟨B,cb,rfl⟩:=hf.form
  have I:=hf.len
  refine AK func44 rfl ntmps44 ?_
  refine ae ?_<;>refine aj ?_<;>refine ad ?_<;>refine au ?_
  refine Gs (X:=Nat×Int) (λ k=>[(0,.slice A vars.length ca),(5,.int .i64 k.2),(8,.slice B f.length cb),(9,.int .i64 (f.length:Int)),(10,.int .i64 (k.1:Int))])
    (λ k w'=>Ext w w'/\k.1<=f.length/\FactsTo vars f k.1/\(k.1=0->k.2=-1)/\∀ y,0 < k.1->f[k.1 - 1]?=some y->y.var=k.2) (λ k=>f.length - k.1) (0,-1) ⟨P7 _ _,P4 _,⟨λ i _ L=>by simp at L,λ i _ _ L=>by simp at L⟩,λ _=>rfl,λ y L=>by simp at L⟩ ⟨rfl,rfl,rfl,rfl,rfl,trivial⟩ ?_
  rintro ⟨k,m⟩ w1 ⟨hE,hk,hh,hm0,hm⟩
  dsimp only at hk hh hm0 hm ⊢
  by_cases hlt:k < f.length
  . obtain ⟨x,hx⟩:=AG hlt
    obtain ⟨b,o,ce,rfl,hb,_,hd1,rfl,hr1,hr2⟩:=(hf.ext hE).elem hx
    refine aw ?_<;>refine bo ?_
    refine CJ rfl rfl (by simp [Value.cells,Value.oneCell']) λ F G=>?_
    have J:=G.blk
    have a:Ext w F:=hE.trans' G.ext
    refine o_z ?_
    refine ab ?_
    refine Dd (·=F) [(0,true),(1,true),(2,true),(3,true),(4,true),(5,true),(6,true),(7,true),(8,true),(9,true),(10,true),(11,true),(12,true),(13,true),(14,true),(15,true),(16,true),(17,true),(18,true),(19,true),(20,true),(21,true),(22,true),(23,true),(24,true),(25,true)] rfl rfl ?_
    have h:0 < k->∃ z,f[k - 1]?=some z/\z.var=m:=λ c=>by
      obtain ⟨z,hz⟩:=AG (l:=f) (k:=k - 1) (by omega)
      exact ⟨z,hz,hm z c hz⟩
    have t:0 < k->0<=m:=λ c=>by
      obtain ⟨z,hz,he⟩:=h c
      have:=(hh.1 (k - 1) z (by omega) hz).1
      omega
    have H:-1<=m:=by
      by_cases c:0 < k
      . have:=t c;omega
      . have:=hm0 (by omega);omega
    have n:¬ m < x.var->¬ Q7 vars f:=λ p e=>by
      by_cases c:0 < k
      . obtain ⟨z,hz,he⟩:=h c
        have:=e.2 (k - 1) z x hz (by rw [show k - 1 + 1=k from by omega];exact hx)
        omega
      . have:=hm0 (by omega)
        have:=(e.1 k x hx).1
        omega
    by_cases q:0<=x.var/\x.var < vars.length
    . obtain ⟨j,hj1⟩:=D0 q.1
      obtain ⟨y,hy⟩:=AG (l:=vars) (k:=j) (by omega)
      obtain ⟨K,o2,ce2,rfl,_,_,hd2,rfl,_⟩:=(hv.ext a).elem hy
      have r:vars[x.var.toNat]?=some y:=by rw [hj1];simpa using hy
      have u:0<=x.val->x.val < y->R1 vars x:=λ p e=>⟨q.1,p,y,r,e⟩
      have g:¬ (0<=x.val/\x.val < y)->¬ Q7 vars f:=λ p e=>p (by
        obtain ⟨_,h3,C,s,h5⟩:=e.1 k x hx
        rw [r] at s;injection s with s;subst s;exact ⟨h3,h5⟩)
      (refine ar ?_<;>refine ai ?_<;>(first|refine Wg rfl rfl rfl rfl ?_|refine Wh rfl rfl rfl rfl ?_|refine Wi rfl rfl rfl rfl (λ _=>?_) λ _=>?_)<;>refine az ?_<;>(refine Az rfl ?_;(first|(refine Aw rfl rfl ?_;(first|refine Cm (λ _ _=>Bw rfl rfl) (by omega) ?_|refine Cn (λ _ _=>Bw rfl rfl) (by omega) ?_|refine Bj (λ _ _=>Bw rfl rfl) (λ _=>?_) (λ _=>?_)))|refine AE rfl rfl ?_))<;>refine ax ?_<;>(refine Az rfl ?_;(first|(refine Aw rfl rfl ?_;(first|refine Cm (λ _ _=>Di rfl rfl) (by omega) ?_|refine Cn (λ _ _=>Di rfl rfl) (by omega) ?_|refine Bj (λ _ _=>Di rfl rfl) (λ _=>?_) (λ _=>?_)))|refine AE rfl rfl ?_))<;>refine ax ?_<;>refine bf ?_<;>(refine Az rfl ?_;(first|(refine Aw rfl rfl ?_;(first|refine Cm (λ _ _=>Bw rfl rfl) (by omega) ?_|refine Cn (λ _ _=>Bw rfl rfl) (by omega) ?_|refine Bj (λ _ _=>Bw rfl rfl) (λ _=>?_) (λ _=>?_)))|refine AE rfl rfl ?_))<;>refine aY ?_)<;>refine ab ?_
      all_goals try (
        refine ae ?_
        refine Q5 rfl rfl ⟨?_,a⟩
        first|rw [AY (g (by omega))]|rw [AY (n (by omega))])
      refine ab ?_<;>refine ag ?_<;>refine aj ?_
      refine aR ?_
      refine ⟨(k + 1,x.var),⟨rfl,rfl,rfl,rfl,rfl,trivial⟩,⟨a,hlt,hh.step hx (u (by omega) (by omega)) (λ C c d=>by have:=hm C c d;omega),λ L=>absurd L (Nat.succ_ne_zero k),λ C _ d=>?_⟩,Nat.sub_lt_sub_left hlt (J9 k)⟩
      rw [show k + 1 - 1=k from rfl,hx] at d
      exact congrArg Fct.var (L1 d).symm
    . have g:¬ Q7 vars f:=λ L=>by
        obtain ⟨p,e,y,h3,_⟩:=L.1 k x hx
        have:=BV h3
        omega
      (refine ar ?_<;>refine ai ?_<;>(first|refine Wg rfl rfl rfl rfl ?_|refine Wh rfl rfl rfl rfl ?_|refine Wi rfl rfl rfl rfl (λ _=>?_) λ _=>?_)<;>refine az ?_<;>(refine Az rfl ?_;(first|(refine Aw rfl rfl ?_;(first|refine Cm (λ _ _=>Bw rfl rfl) (by omega) ?_|refine Cn (λ _ _=>Bw rfl rfl) (by omega) ?_|refine Bj (λ _ _=>Bw rfl rfl) (λ _=>?_) (λ _=>?_)))|refine AE rfl rfl ?_))<;>refine ax ?_<;>(refine Az rfl ?_;(first|(refine Aw rfl rfl ?_;(first|refine Cm (λ _ _=>Di rfl rfl) (by omega) ?_|refine Cn (λ _ _=>Di rfl rfl) (by omega) ?_|refine Bj (λ _ _=>Di rfl rfl) (λ _=>?_) (λ _=>?_)))|refine AE rfl rfl ?_))<;>refine ax ?_<;>refine bf ?_<;>(refine Az rfl ?_;(first|(refine Aw rfl rfl ?_;(first|refine Cm (λ _ _=>Bw rfl rfl) (by omega) ?_|refine Cn (λ _ _=>Bw rfl rfl) (by omega) ?_|refine Bj (λ _ _=>Bw rfl rfl) (λ _=>?_) (λ _=>?_)))|refine AE rfl rfl ?_))<;>refine aY ?_)<;>refine ab ?_
      all_goals
        refine ae ?_
        refine Q5 rfl rfl ⟨?_,a⟩
        rw [AY g]
  . refine aZ ?_
    refine Q5 rfl rfl ⟨?_,hE⟩
    rw [Bk (hh.done (by omega))]
def ZX (s:ByteArray):Prop:=s.size<=256/\∀ (i:Nat) (h:i < s.size),32<=(s[i]'h).toNat/\(s[i]'h).toNat<=126
theorem aU {G H:Prop} (g:H) (h:Wr0 H->G:=by intro x;refine ad ?_;refine ad ?_;exact x.o):G:=h ⟨g⟩
theorem bW {G H:Prop} (g:H) (h:Wr0 H->G:=by intro x;refine aw ?_;refine ad ?_;refine PJ rfl rfl ?_;(first|refine Pu rfl rfl rfl ?_|refine Pv rfl rfl rfl ?_);refine aj ?_;exact x.o):G:=h ⟨g⟩
theorem Aa7 {w:World} {s:ByteArray} (hs:s.size<=9223372036854775807) :
    Fn prog 45 [.string s] w λ v w'=>v=.bool (bof (ZX s))/\Ext w w':=by
  refine AK func45 rfl ntmps45 ?_
  refine bb ?_<;>refine PJ rfl rfl ?_<;>refine ad ?_<;>refine o_z ?_<;>refine ab ?_
  refine Gs (λ k:Nat=>[(0,.string s),(5,.int .i64 (s.size:Int)),(6,.int .i64 (k:Int))])
    (λ k w'=>w'=w/\k<=s.size/\∀ (i:Nat) (h:i < s.size),i < k->32<=(s[i]'h).toNat/\(s[i]'h).toNat<=126) (λ k=>s.size - k) 0 ⟨rfl,P4 _,λ i _ h=>by omega⟩ ⟨rfl,rfl,rfl,trivial⟩ ?_
  rintro k _ ⟨rfl,hk,hh⟩
  by_cases hlt:k < s.size
  . (refine aw ?_<;>refine ad ?_<;>refine aj ?_<;>(refine aU ?_<;>refine Sw rfl rfl rfl (by omega) ?_<;>(first|refine Ee rfl rfl ?_|refine Ef rfl rfl ?_|refine Eq rfl rfl (λ _=>?_) λ _=>?_)<;>refine ad ?_<;>(first|(refine AB rfl rfl ?_;refine At rfl ?_)|refine AA rfl rfl ?_)<;>(first|(refine AB rfl rfl ?_;refine At rfl ?_)|refine AA rfl rfl ?_)<;>(first|(refine AB rfl rfl ?_;refine Sw rfl rfl rfl (by omega) ?_)|refine AA rfl rfl ?_)<;>(first|(refine AB rfl rfl ?_;(first|refine EW rfl rfl ?_|refine EX rfl rfl ?_|refine Er rfl rfl (λ _=>?_) λ _=>?_))|refine AA rfl rfl ?_)<;>refine ah ?_)<;>refine ab ?_)
    all_goals first
      | (refine aR ?_
         refine ⟨k + 1,⟨rfl,rfl,rfl,trivial⟩,⟨rfl,by omega,λ i h hi=>?_⟩,by omega⟩
         by_cases he:i=k
         . subst he;omega
         . exact hh i h (by omega))
      | (refine ae ?_
         refine Q5 rfl rfl ⟨?_,P7 _ _⟩
         rw [AY (λ h=>by have:=h.2 k hlt;omega)])
  . by_cases a:s.size<=256
    . refine bW ?_
      refine Q5 rfl rfl ⟨?_,P7 _ _⟩
      rw [Bk ⟨a,λ i h=>hh i h (by omega)⟩]
    . refine bW ?_
      refine Q5 rfl rfl ⟨?_,P7 _ _⟩
      rw [AY (λ h=>a h.1)]
end
section
open Go Go.RowKit
attribute [local irreducible] ewp owp hwp hwq hws Ev Evg Fn Q4 R7 R2 Q9
theorem HW {vars:List Int} {x:Fct}:Q7 vars [x]↔R1 vars x:=by
  constructor
  . intro b;exact b.1 0 x rfl
  . intro b
    refine ⟨λ i y a=>?_,λ i y z _ hz=>by simp at hz⟩
    cases i with
    | zero=>simp at a;exact a ▸ b
    | succ i=>simp at a
def Y4 (vars:List Int) (e:Eff):Prop:=Q7 vars e.cond/\R1 vars ⟨e.var,e.val⟩
def Aan (vars:List Int) (o:Opr):Prop:=0<=o.cost/\o.cost<=1048576/\o.effs.length<=64/\ZX o.name/\Q7 vars o.pre/\∀ (i:Nat) e,o.effs[i]?=some e->Y4 vars e
def TaskOk (t:Tsk):Prop:=t.vars.length<=64/\t.ops.length<=4096/\(∀ (i:Nat) n,t.vars[i]?=some n->1<=n/\n<=64)/\StateOk t.vars t.init/\Q7 t.vars t.goal/\∀ (i:Nat) o,t.ops[i]?=some o->Aan t.vars o
theorem Dx {p:Nat->Prop} {k:Nat} (a:∀ i,i < k->p i) (hk:p k):∀ i,i < k + 1->p i:=λ i hi=>by
  by_cases he:i=k
  . subst he;exact hk
  . exact a i (by omega)
theorem af {G H:Prop} (g:H) (h:Wr0 H->G:=by intro x;refine Au rfl ?_;refine o_z ?_;exact x.o):G:=h ⟨g⟩
theorem bl {G H:Prop} (g:H) (h:Wr0 H->G:=by intro x;(first|refine BJ rfl rfl ?_|refine BK rfl rfl ?_);exact x.o):G:=h ⟨g⟩
theorem am {G H:Prop} (g:H) (h:Wr0 H->G:=by intro x;refine ak ?_;refine aj ?_;exact x.o):G:=h ⟨g⟩
theorem ap {G H:Prop} (g:H) (h:Wr0 H->G:=by intro x;refine ab ?_;refine ag ?_;refine au ?_;exact x.o):G:=h ⟨g⟩
theorem ao {G H:Prop} (g:H) (h:Wr0 H->G:=by intro x;refine ab ?_;refine DV rfl rfl ?_;refine BH rfl ?_;refine ab ?_;exact x.o):G:=h ⟨g⟩
theorem bn {G H:Prop} (g:H) (h:Wr0 H->G:=by intro x;(first|refine DA rfl ?_|refine DB rfl ?_|refine Eh rfl ?_);exact x.o):G:=h ⟨g⟩
theorem AaM {w:World} {C D:Value} {vars:List Int} {o:Opr} (hv:V w C vars) (I:V w D o) :
    Fn prog 31 [C,D] w λ v w'=>v=.bool (bof (Aan vars o))/\Ext w w':=by
  obtain ⟨E,cv,rfl⟩:=hv.form
  obtain ⟨cs,rfl,p,q,rfl,hp,hq,hc,hn⟩:=I
  obtain ⟨P,cp,rfl⟩:=hp.form
  obtain ⟨J,cq,rfl⟩:=hq.form
  have K:=hq.len
  refine AK func31 rfl ntmps31 ?_
  refine ab ?_
  refine EI rfl λ L F=>?_
  have r:=F.blk
  have b:Ext w L:=F.ext
  refine af ?_
  refine ab ?_
  (refine ag ?_<;>(first|refine Ee rfl rfl ?_|refine Ef rfl rfl ?_|refine Eq rfl rfl (λ _=>?_) λ _=>?_)<;>refine ad ?_<;>(first|(refine AB rfl rfl ?_;refine AO rfl ?_)|refine AA rfl rfl ?_)<;>(first|(refine AB rfl rfl ?_;refine AQ rfl ?_)|refine AA rfl rfl ?_)<;>(first|(refine AB rfl rfl ?_;(first|refine EW rfl rfl ?_|refine EX rfl rfl ?_|refine Er rfl rfl (λ _=>?_) λ _=>?_))|refine AA rfl rfl ?_)<;>refine bl ?_<;>refine ad ?_<;>(first|(refine AB rfl rfl ?_;refine AO rfl ?_)|refine AA rfl rfl ?_)<;>(first|(refine AB rfl rfl ?_;refine AQ rfl ?_)|refine AA rfl rfl ?_)<;>(first|(refine AB rfl rfl ?_;refine AU rfl ?_)|refine AA rfl rfl ?_)<;>(first|(refine AB rfl rfl ?_;(first|refine EW rfl rfl ?_|refine EX rfl rfl ?_|refine Er rfl rfl (λ _=>?_) λ _=>?_))|refine AA rfl rfl ?_)<;>refine bl ?_<;>refine ad ?_<;>(first|(refine AB rfl rfl ?_;refine AO rfl ?_)|refine AA rfl rfl ?_)<;>(first|(refine AB rfl rfl ?_;refine AQ rfl ?_)|refine AA rfl rfl ?_)<;>(first|(refine AB rfl rfl ?_;refine PJ rfl rfl ?_)|refine AA rfl rfl ?_)<;>(first|(refine AB rfl rfl ?_;(first|refine EW rfl rfl ?_|refine EX rfl rfl ?_|refine Er rfl rfl (λ _=>?_) λ _=>?_))|refine AA rfl rfl ?_)<;>refine bl ?_<;>refine ad ?_<;>(first|(refine AB rfl rfl ?_;refine At rfl ?_)|refine AA rfl rfl ?_)<;>(first|(refine AB rfl rfl ?_;refine AO rfl ?_)|refine AA rfl rfl ?_)<;>(first|(refine AB rfl rfl ?_;refine AQ rfl ?_)|refine AA rfl rfl ?_))
  all_goals try (
    refine AA rfl rfl ?_
    ((first|(refine AB rfl rfl ?_;(first|refine DA rfl ?_|refine DB rfl ?_|refine Eh rfl ?_))|refine AA rfl rfl ?_)<;>refine ah ?_)
    refine ab ?_
    refine ae ?_
    refine Q5 rfl rfl ⟨?_,b⟩
    rw [AY (λ h=>by obtain ⟨Q,h2,h3,⟨h4,_⟩,_⟩:=h;omega)])
  refine AB rfl rfl ?_
  refine DP rfl (ZD (hv.ext b) (hp.ext b)) ?_ ?_
  case refine_2 =>
    intro B s a
    ((first|(refine AB rfl rfl ?_;(first|refine DA rfl ?_|refine DB rfl ?_|refine Eh rfl ?_))|refine AA rfl rfl ?_)<;>refine ah ?_)
    refine ab ?_
    refine ae ?_
    refine Q5 rfl rfl ⟨?_,b.trans' a⟩
    rw [AY (λ h=>s h.2.2.2.2.1)]
  intro B t a
  replace r:=r.ext a
  have a:Ext w B:=b.trans' a
  ((first|(refine AB rfl rfl ?_;(first|refine DA rfl ?_|refine DB rfl ?_|refine Eh rfl ?_))|refine AA rfl rfl ?_)<;>refine ah ?_)
  refine ab ?_
  refine ag ?_<;>refine PJ rfl rfl ?_<;>refine ad ?_<;>refine o_z ?_
  refine ab ?_
  refine Cf o.name.size hn (λ _:Unit=>[(0,.slice E vars.length cv),(3,.pointer (some ⟨w.heap.size,0,none⟩))]) (λ k _ w'=>w'=B/\∀ i,i < k->∀ h:i < o.name.size,32<=(o.name[i]'h).toNat/\(o.name[i]'h).toNat<=126) ()
    ⟨rfl,λ i hi=>by omega⟩ ⟨rfl,rfl,rfl,rfl,trivial⟩ (λ _=>⟨rfl,rfl⟩) ⟨rfl,rfl,rfl⟩ ⟨rfl,rfl⟩ ?_ ?_
  . rintro k _ _ hk ⟨rfl,hh⟩
    (refine am ?_<;>(refine ag ?_<;>refine ad ?_<;>refine Sw rfl rfl rfl (by omega) ?_<;>(first|refine Ee rfl rfl ?_|refine Ef rfl rfl ?_|refine Eq rfl rfl (λ _=>?_) λ _=>?_)<;>refine ad ?_<;>(first|(refine AB rfl rfl ?_;refine AO rfl ?_)|refine AA rfl rfl ?_)<;>(first|(refine AB rfl rfl ?_;refine AQ rfl ?_)|refine AA rfl rfl ?_)<;>(first|(refine AB rfl rfl ?_;refine At rfl ?_)|refine AA rfl rfl ?_)<;>(first|(refine AB rfl rfl ?_;refine Sw rfl rfl rfl (by omega) ?_)|refine AA rfl rfl ?_)<;>(first|(refine AB rfl rfl ?_;(first|refine EW rfl rfl ?_|refine EX rfl rfl ?_|refine Er rfl rfl (λ _=>?_) λ _=>?_))|refine AA rfl rfl ?_)<;>refine ah ?_)<;>refine ab ?_)
    all_goals try (
      refine ae ?_
      refine Q5 rfl rfl ⟨?_,a⟩
      rw [AY (λ h=>by have:=h.2.2.2.1.2 k hk;omega)])
    exact ⟨(),⟨rfl,rfl,rfl,rfl,trivial⟩,rfl,Dx hh λ _=>by omega⟩
  rintro _ _ ⟨rfl,hname⟩
  have u:ZX o.name:=⟨by omega,λ i h=>hname i h h⟩
  refine ab ?_
  refine ap ?_
  refine Cf o.effs.length (by omega) (λ _:Unit=>[(0,.slice E vars.length cv),(3,.pointer (some ⟨w.heap.size,0,none⟩)),(55,.slice J o.effs.length cq)]) (λ k _ w'=>Ext w w'/\∀ i,i < k->∀ e,o.effs[i]?=some e->Y4 vars e) ()
    ⟨a,λ i hi=>by omega⟩ ⟨rfl,rfl,rfl,rfl,rfl,trivial⟩ (λ _=>⟨rfl,rfl⟩) ⟨rfl,rfl,rfl⟩ ⟨rfl,rfl⟩ ?_ ?_
  . rintro k _ M hk ⟨c,hh⟩
    obtain ⟨e,he⟩:=AG hk
    obtain ⟨R,o2,ce,rfl,_,_,hd1,cv',rfl,hcond,hr1,hr2⟩:=(hq.ext c).elem he
    obtain ⟨S,cc,rfl⟩:=hcond.form
    refine ao ?_
    refine CJ rfl rfl (by simp [Value.cells,Value.oneCell']) λ N g=>?_
    have x:=g.blk
    have j:Ext w N:=c.trans' g.ext
    refine o_z ?_
    refine ab ?_
    refine ad ?_<;>refine ag ?_
    refine DP rfl (ZD (hv.ext j) (hcond.ext g.ext)) ?_ ?_
    case refine_2 =>
      intro G s d
      (refine bn ?_<;>refine ad ?_<;>(first|(refine AB rfl rfl ?_;refine At rfl ?_)|refine AA rfl rfl ?_)<;>(first|(refine AB rfl rfl ?_;refine AO rfl ?_)|refine AA rfl rfl ?_)<;>(first|(refine AB rfl rfl ?_;refine AQ rfl ?_)|refine AA rfl rfl ?_)<;>(first|(refine AB rfl rfl ?_;refine AO rfl ?_)|refine AA rfl rfl ?_)<;>(first|(refine AB rfl rfl ?_;refine AQ rfl ?_)|refine AA rfl rfl ?_)<;>(first|(refine AB rfl rfl ?_;refine DU rfl rfl ?_)|refine AA rfl rfl ?_))
      refine AA rfl rfl ?_
      refine AA rfl rfl ?_
      ((first|(refine AB rfl rfl ?_;(first|refine DA rfl ?_|refine DB rfl ?_|refine Eh rfl ?_))|refine AA rfl rfl ?_)<;>refine ah ?_)
      refine ab ?_
      refine ae ?_
      refine Q5 rfl rfl ⟨?_,j.trans' d⟩
      rw [AY (λ h=>s (h.2.2.2.2.2 k e he).1)]
    intro G y d
    replace x:=x.ext d
    (refine bn ?_<;>refine ad ?_<;>(first|(refine AB rfl rfl ?_;refine At rfl ?_)|refine AA rfl rfl ?_)<;>(first|(refine AB rfl rfl ?_;refine AO rfl ?_)|refine AA rfl rfl ?_)<;>(first|(refine AB rfl rfl ?_;refine AQ rfl ?_)|refine AA rfl rfl ?_)<;>(first|(refine AB rfl rfl ?_;refine AO rfl ?_)|refine AA rfl rfl ?_)<;>(first|(refine AB rfl rfl ?_;refine AQ rfl ?_)|refine AA rfl rfl ?_)<;>(first|(refine AB rfl rfl ?_;refine DU rfl rfl ?_)|refine AA rfl rfl ?_))
    refine AB rfl rfl ?_
    refine Fc rfl rfl (by simp [Value.cells];rfl) rfl λ H l=>?_
    have m:Ext w H:=j.trans' (d.trans' l.ext)
    refine AB rfl rfl ?_
    have z:V H (.slice (some ⟨G.heap.size,0,none⟩) 1 1) [(⟨e.var,e.val⟩:Fct)] :=
      .of_slice ⟨_,1,[.int .i64 e.var,.int .i64 e.val],rfl,P1 _,by omega,.single ⟨rfl,hr1,hr2⟩,λ _=>⟨_,_,rfl,l.blk.lt,l.blk.cellsAt⟩⟩
    refine DP rfl (ZD (hv.ext m) z) ?_ ?_
    case refine_2 =>
      intro O s n
      ((first|(refine AB rfl rfl ?_;(first|refine DA rfl ?_|refine DB rfl ?_|refine Eh rfl ?_))|refine AA rfl rfl ?_)<;>refine ah ?_)
      refine ab ?_
      refine ae ?_
      refine Q5 rfl rfl ⟨?_,m.trans' n⟩
      rw [AY (λ h=>s (HW.2 (h.2.2.2.2.2 k e he).2))]
    intro O A n
    ((first|(refine AB rfl rfl ?_;(first|refine DA rfl ?_|refine DB rfl ?_|refine Eh rfl ?_))|refine AA rfl rfl ?_)<;>refine ah ?_)
    refine ab ?_
    exact ⟨(),⟨rfl,rfl,rfl,rfl,rfl,trivial⟩,m.trans' n,Dx hh λ T f=>by
      rw [he] at f;injection f with f;subst f;exact ⟨y,HW.1 A⟩⟩
  rintro _ M ⟨c,hh⟩
  refine ab ?_
  refine ae ?_
  refine Q5 rfl rfl ⟨?_,c⟩
  rw [Bk ⟨by omega,by omega,by omega,u,t,λ i e he=>hh i (BV he) e he⟩]
theorem bg {G H:Prop} (g:H) (h:Wr0 H->G:=by intro x;refine ag ?_;refine AU rfl ?_;exact x.o):G:=h ⟨g⟩
theorem aV {G H:Prop} (g:H) (h:Wr0 H->G:=by intro x;refine ab ?_;refine DV rfl rfl ?_;refine AQ rfl ?_;refine aj ?_;exact x.o):G:=h ⟨g⟩
theorem ay {G H:Prop} (g:H) (h:Wr0 H->G:=by intro x;refine bn ?_;refine o_z ?_;exact x.o):G:=h ⟨g⟩
theorem Abl {w:World} {F:Value} {t:Tsk} (J:V w F t) :
    Fn prog 11 [F] w λ v w'=>v=.bool (bof (TaskOk t))/\Ext w w':=by
  obtain ⟨cs,rfl,a,b,c,d,rfl,hvars,hinit,hgoal,hops⟩:=J
  obtain ⟨K,cv,rfl⟩:=hvars.form
  obtain ⟨U,ci,rfl⟩:=hinit.form
  obtain ⟨W,cg,rfl⟩:=hgoal.form
  obtain ⟨L,co,rfl⟩:=hops.form
  have M:=hvars.len
  have N:=hops.len
  refine AK func11 rfl ntmps11 ?_
  refine ab ?_
  refine EI rfl λ G H=>?_
  have f:=H.blk
  have h:Ext w G:=H.ext
  refine af ?_
  refine ab ?_
  (refine ab ?_<;>(refine bg ?_<;>(first|refine EW rfl rfl ?_|refine EX rfl rfl ?_|refine Er rfl rfl (λ _=>?_) λ _=>?_)<;>refine ad ?_<;>(first|(refine AB rfl rfl ?_;refine AO rfl ?_)|refine AA rfl rfl ?_)<;>(first|(refine AB rfl rfl ?_;refine AQ rfl ?_)|refine AA rfl rfl ?_)<;>(first|(refine AB rfl rfl ?_;refine AU rfl ?_)|refine AA rfl rfl ?_)<;>(first|(refine AB rfl rfl ?_;(first|refine EW rfl rfl ?_|refine EX rfl rfl ?_|refine Er rfl rfl (λ _=>?_) λ _=>?_))|refine AA rfl rfl ?_)<;>refine ah ?_)<;>refine ab ?_)
  all_goals try (
    refine ae ?_
    refine Q5 rfl rfl ⟨?_,h⟩
    rw [AY (λ Z=>by obtain ⟨X,h2,_⟩:=Z;omega)])
  refine bg ?_<;>refine ad ?_<;>refine o_z ?_
  refine ab ?_
  refine Cf t.vars.length (by omega) (λ _:Unit=>[(1,.pointer (some ⟨w.heap.size,0,none⟩)),(18,.slice K t.vars.length cv)]) (λ k _ w'=>w'=G/\∀ i,i < k->∀ n,t.vars[i]?=some n->1<=n/\n<=64) ()
    ⟨rfl,λ i hi=>by omega⟩ ⟨rfl,rfl,rfl,rfl,trivial⟩ (λ _=>⟨rfl,rfl⟩) ⟨rfl,rfl,rfl⟩ ⟨rfl,rfl⟩ ?_ ?_
  . rintro k _ _ hk ⟨rfl,hh⟩
    obtain ⟨n,hn⟩:=AG hk
    obtain ⟨O,o2,ce,rfl,_,_,hd1,rfl,_⟩:=(hvars.ext h).elem hn
    (refine aV ?_<;>(refine ad ?_<;>(first|refine Ee rfl rfl ?_|refine Ef rfl rfl ?_|refine Eq rfl rfl (λ _=>?_) λ _=>?_)<;>refine ad ?_<;>(first|(refine AB rfl rfl ?_;refine At rfl ?_)|refine AA rfl rfl ?_)<;>(first|(refine AB rfl rfl ?_;(first|refine EW rfl rfl ?_|refine EX rfl rfl ?_|refine Er rfl rfl (λ _=>?_) λ _=>?_))|refine AA rfl rfl ?_)<;>refine ah ?_)<;>refine ab ?_)
    all_goals try (
      refine ae ?_
      refine Q5 rfl rfl ⟨?_,h⟩
      rw [AY (λ Z=>by have:=Z.2.2.1 k n hn;omega)])
    exact ⟨(),⟨rfl,rfl,rfl,rfl,trivial⟩,rfl,Dx hh λ Y r=>by rw [hn] at r;injection r with r;omega⟩
  rintro _ _ ⟨rfl,hdom⟩
  refine ab ?_
  refine ag ?_<;>refine ag ?_
  refine DP rfl (Abf (hvars.ext h) (hinit.ext h)) ?_ ?_
  case refine_2 =>
    intro I s e
    (refine bn ?_<;>refine ad ?_<;>(first|(refine AB rfl rfl ?_;refine AO rfl ?_)|refine AA rfl rfl ?_)<;>(first|(refine AB rfl rfl ?_;refine AQ rfl ?_)|refine AA rfl rfl ?_)<;>(first|(refine AB rfl rfl ?_;refine AO rfl ?_)|refine AA rfl rfl ?_)<;>(first|(refine AB rfl rfl ?_;refine AQ rfl ?_)|refine AA rfl rfl ?_))
    refine AA rfl rfl ?_
    ((first|(refine AB rfl rfl ?_;(first|refine DA rfl ?_|refine DB rfl ?_|refine Eh rfl ?_))|refine AA rfl rfl ?_)<;>refine ah ?_)
    refine ab ?_
    refine ae ?_
    refine Q5 rfl rfl ⟨?_,h.trans' e⟩
    rw [AY (λ Z=>s Z.2.2.2.1)]
  intro I A e
  replace f:=f.ext e
  replace e:Ext w I:=h.trans' e
  (refine bn ?_<;>refine ad ?_<;>(first|(refine AB rfl rfl ?_;refine AO rfl ?_)|refine AA rfl rfl ?_)<;>(first|(refine AB rfl rfl ?_;refine AQ rfl ?_)|refine AA rfl rfl ?_)<;>(first|(refine AB rfl rfl ?_;refine AO rfl ?_)|refine AA rfl rfl ?_)<;>(first|(refine AB rfl rfl ?_;refine AQ rfl ?_)|refine AA rfl rfl ?_))
  refine AB rfl rfl ?_
  refine DP rfl (ZD (hvars.ext e) (hgoal.ext e)) ?_ ?_
  case refine_2 =>
    intro B s j
    ((first|(refine AB rfl rfl ?_;(first|refine DA rfl ?_|refine DB rfl ?_|refine Eh rfl ?_))|refine AA rfl rfl ?_)<;>refine ah ?_)
    refine ab ?_
    refine ae ?_
    refine Q5 rfl rfl ⟨?_,e.trans' j⟩
    rw [AY (λ Z=>s Z.2.2.2.2.1)]
  intro B C j
  replace f:=f.ext j
  replace j:Ext w B:=e.trans' j
  ((first|(refine AB rfl rfl ?_;(first|refine DA rfl ?_|refine DB rfl ?_|refine Eh rfl ?_))|refine AA rfl rfl ?_)<;>refine ah ?_)
  refine ab ?_
  refine ap ?_
  refine Cf t.ops.length (by omega) (λ _:Unit=>[(1,.pointer (some ⟨w.heap.size,0,none⟩)),(46,.slice L t.ops.length co)]) (λ k _ w'=>Ext B w'/\∀ i,i < k->∀ o,t.ops[i]?=some o->Aan t.vars o) ()
    ⟨P7 _ _,λ i hi=>by omega⟩ ⟨rfl,rfl,rfl,rfl,trivial⟩ (λ _=>⟨rfl,rfl⟩) ⟨rfl,rfl,rfl⟩ ⟨rfl,rfl⟩ ?_ ?_
  . rintro k _ D hk ⟨g,hh⟩
    obtain ⟨o,x⟩:=AG hk
    replace f:=f.ext g
    have y:=g
    replace g:Ext w D:=j.trans' g
    obtain ⟨O,o2,ce,rfl,_,_,hd1,hRo⟩:=(hops.ext g).elem x
    obtain ⟨p,q,rfl,hp,hq,hc,hn⟩:=id hRo
    obtain ⟨P,cp,rfl⟩:=hp.form
    obtain ⟨Q,cq,rfl⟩:=hq.form
    refine ao ?_
    refine CJ rfl rfl (by simp [Value.cells,Value.oneCell']) λ R l=>?_
    have S:=l.blk
    replace f:=f.ext l.ext
    have z:Ext w R:=g.trans' l.ext
    refine o_z ?_
    refine ab ?_
    refine ag ?_<;>refine BH rfl ?_
    have E:V D (.agg #[.string o.name,.int .i64 o.cost,.slice P o.pre.length cp,.slice Q o.effs.length cq]) o:=⟨_,rfl,hRo⟩
    refine DP rfl (AaM (hvars.ext z) (E.ext l.ext)) ?_ ?_
    . intro T s u
      refine ay ?_
      refine ab ?_
      refine ⟨(),⟨rfl,rfl,rfl,rfl,trivial⟩,?_,Dx hh λ o' m=>by rw [x] at m;injection m with m;exact m ▸ s⟩
      exact y.trans' (l.ext.trans' u)
    . intro T s u
      refine ay ?_
      refine ab ?_
      refine ae ?_
      refine Q5 rfl rfl ⟨?_,z.trans' u⟩
      rw [AY (λ Z=>s (Z.2.2.2.2.2 k o x))]
  rintro _ D ⟨g,hh⟩
  refine ab ?_
  refine ae ?_
  refine Q5 rfl rfl ⟨?_,j.trans' g⟩
  rw [Bk ⟨by omega,by omega,λ i n hn=>hdom i (BV hn) n hn,A,C,λ i o x=>hh i (BV x) o x⟩]
def ZG (most:Int):List Int->Int->Int
  | [],n=>n
  | k :: r,n=>if most < n * min (max k 0) (most + 1) then most + 1 else ZG most r (n * min (max k 0) (most + 1))
theorem bq {G H:Prop} (g:H) (h:Wr0 H->G:=by intro x;(first|refine HH rfl ?_|refine HG rfl rfl ?_);exact x.o):G:=h ⟨g⟩
theorem Abq {w:World} {c:Value} {vars:List Int} {most:Int} (hv:V w c vars) (d:1<=most) (e:most<=1048576) :
    Fn prog 12 [c,.int .i64 most] w λ v w'=>v=.int .i64 (ZG most vars 1)/\Ext w w':=by
  obtain ⟨A,ca,rfl⟩:=hv.form
  have f:=hv.len
  refine AK func12 rfl ntmps12 ?_
  refine ae ?_<;>refine aj ?_<;>refine ad ?_<;>refine au ?_
  refine Cf vars.length (by omega) (λ n:Int=>[(1,.int .i64 most),(5,.int .i64 n),(8,.slice A vars.length ca)]) (λ k n w'=>w'=w/\0<=n/\n<=most/\ZG most (vars.drop k) n=ZG most vars 1) 1
    ⟨rfl,by omega,d,rfl⟩ ⟨rfl,rfl,rfl,rfl,rfl,trivial⟩ (λ _=>⟨rfl,rfl⟩) ⟨rfl,rfl,rfl⟩ ⟨rfl,rfl⟩ ?_ ?_
  . rintro k n _ hk ⟨rfl,hn0,hn1,hh⟩
    obtain ⟨x,hx⟩:=AG hk
    obtain ⟨i,o2,ce,rfl,_,_,hd1,rfl,_⟩:=hv.elem hx
    have hd:vars.drop k=x :: vars.drop (k + 1):=by
      rw [B7 hk];congr 1
      rw [C4 hk] at hx;exact L1 hx
    rw [hd] at hh
    simp only [ZG] at hh
    have a:0<=min (max x 0) (most + 1):=by omega
    have g:min (max x 0) (most + 1)<=most + 1:=by omega
    have b:0<=n * min (max x 0) (most + 1):=Int.mul_nonneg hn0 a
    have h:n * min (max x 0) (most + 1)<=1048576 * 1048577:=Int.le_trans (Int.mul_le_mul_of_nonneg_right (Int.le_trans hn1 e) a) (Int.mul_le_mul_of_nonneg_left (by omega) (by omega))
    (refine aV ?_<;>refine aU ?_<;>refine We rfl rfl rfl ?_<;>refine ad ?_<;>refine bq ?_<;>refine Sv rfl rfl rfl ?_<;>refine Zp rfl rfl rfl ?_<;>refine aj ?_<;>(refine aU ?_<;>(first|refine EW rfl rfl ?_|refine EX rfl rfl ?_|refine Er rfl rfl (λ _=>?_) λ _=>?_)<;>refine o_z ?_)<;>refine ab ?_)
    . refine ak ?_<;>refine bq ?_<;>refine aj ?_
      refine Q5 rfl rfl ⟨?_,P7 _ _⟩
      rw [if_pos (by assumption)] at hh
      rw [<- hh]
    . rw [if_neg (by assumption)] at hh
      exact ⟨n * min (max x 0) (most + 1),⟨rfl,rfl,rfl,rfl,rfl,trivial⟩,rfl,b,by omega,hh⟩
  rintro n _ ⟨rfl,_,_,hh⟩
  refine ab ?_
  refine am ?_
  refine Q5 rfl rfl ⟨?_,P7 _ _⟩
  rw [<- hh,List.drop_length];rfl
def SmallOk (t:Tsk):Prop:=t.vars.length<=12/\t.ops.length<=20/\(∀ (i:Nat) o,t.ops[i]?=some o->o.effs.length<=8)/\TaskOk t/\ZG 512 t.vars 1<=512
theorem Aa8 {w:World} {x:Value} {t:Tsk} (y:V w x t) :
    Fn prog 4 [x] w λ v w'=>v=.bool (bof (SmallOk t))/\Ext w w':=by
  have s:=y
  obtain ⟨cs,rfl,a,b,c,d,rfl,hvars,hinit,hgoal,hops⟩:=y
  obtain ⟨F,cv,rfl⟩:=hvars.form
  obtain ⟨G,ci,rfl⟩:=hinit.form
  obtain ⟨H,cg,rfl⟩:=hgoal.form
  obtain ⟨B,co,rfl⟩:=hops.form
  have C:=hvars.len
  have D:=hops.len
  refine AK func4 rfl ntmps4 ?_
  refine ab ?_
  refine EI rfl λ u z=>?_
  have h:=z.blk
  have j:Ext w u:=z.ext
  refine af ?_
  refine ab ?_
  (refine ab ?_<;>(refine bg ?_<;>(first|refine EW rfl rfl ?_|refine EX rfl rfl ?_|refine Er rfl rfl (λ _=>?_) λ _=>?_)<;>refine ad ?_<;>(first|(refine AB rfl rfl ?_;refine AO rfl ?_)|refine AA rfl rfl ?_)<;>(first|(refine AB rfl rfl ?_;refine AQ rfl ?_)|refine AA rfl rfl ?_)<;>(first|(refine AB rfl rfl ?_;refine AU rfl ?_)|refine AA rfl rfl ?_)<;>(first|(refine AB rfl rfl ?_;(first|refine EW rfl rfl ?_|refine EX rfl rfl ?_|refine Er rfl rfl (λ _=>?_) λ _=>?_))|refine AA rfl rfl ?_)<;>refine ah ?_)<;>refine ab ?_)
  all_goals try (
    refine ae ?_
    refine Q5 rfl rfl ⟨?_,j⟩
    rw [AY (λ N=>by obtain ⟨I,h2,_⟩:=N;omega)])
  refine ap ?_
  refine Cf t.ops.length (by omega) (λ _:Unit=>[(1,.pointer (some ⟨w.heap.size,0,none⟩)),(16,.slice B t.ops.length co)]) (λ k _ w'=>Ext u w'/\∀ i,i < k->∀ o,t.ops[i]?=some o->o.effs.length<=8) ()
    ⟨P7 _ _,λ i hi=>by omega⟩ ⟨rfl,rfl,rfl,rfl,trivial⟩ (λ _=>⟨rfl,rfl⟩) ⟨rfl,rfl,rfl⟩ ⟨rfl,rfl⟩ ?_ ?_
  . rintro k _ A hk ⟨f,hh⟩
    obtain ⟨o,m⟩:=AG hk
    obtain ⟨J,o2,ce,rfl,_,_,hd1,p,q,rfl,hp,hq,hc,hn⟩:=(hops.ext (j.trans' f)).elem m
    obtain ⟨K,cp,rfl⟩:=hp.form
    obtain ⟨L,cq,rfl⟩:=hq.form
    refine ao ?_
    refine CJ rfl rfl (by simp [Value.cells,Value.oneCell']) λ r n=>?_
    have E:=n.blk
    have e:Ext u r:=f.trans' n.ext
    refine o_z ?_
    refine ab ?_
    (refine ab ?_<;>(refine bg ?_<;>(first|refine EW rfl rfl ?_|refine EX rfl rfl ?_|refine Er rfl rfl (λ _=>?_) λ _=>?_)<;>refine o_z ?_)<;>refine ab ?_)
    . refine ae ?_
      refine Q5 rfl rfl ⟨?_,j.trans' e⟩
      rw [AY (λ N=>by have:=N.2.2.1 k o m;omega)]
    . exact ⟨(),⟨rfl,rfl,rfl,rfl,trivial⟩,e,Dx hh λ o' l=>by rw [m] at l;injection l with l;subst l;omega⟩
  rintro _ A ⟨f,hh⟩
  replace h:=h.ext f
  replace f:Ext w A:=j.trans' f
  refine ab ?_
  refine BH rfl ?_
  refine DP rfl (Abl (s.ext f)) ?_ ?_
  . intro r g e
    replace h:=h.ext e
    replace e:Ext w r:=f.trans' e
    (refine ad ?_<;>(first|(refine AB rfl rfl ?_;refine AO rfl ?_)|refine AA rfl rfl ?_)<;>(first|(refine AB rfl rfl ?_;refine AQ rfl ?_)|refine AA rfl rfl ?_))
    refine AB rfl rfl ?_
    refine BD rfl (Abq (hvars.ext e) (by decide) (by decide)) ?_
    rintro _ M ⟨rfl,hE6⟩
    ((first|(refine AB rfl rfl ?_;(first|refine Pu rfl rfl rfl ?_|refine Pv rfl rfl rfl ?_|refine JY rfl rfl (λ _=>?_) λ _=>?_))|refine AA rfl rfl ?_)<;>refine bl ?_<;>refine af ?_)
    all_goals
      refine ab ?_
      refine Q5 rfl rfl ⟨?_,e.trans' hE6⟩
    . rw [Bk ⟨by omega,by omega,λ i o m=>hh i (BV m) o m,g,by assumption⟩]
    . rw [AY (λ N=>absurd N.2.2.2.2 (by assumption))]
  . intro r g e
    (refine ad ?_<;>(first|(refine AB rfl rfl ?_;refine AO rfl ?_)|refine AA rfl rfl ?_)<;>(first|(refine AB rfl rfl ?_;refine AQ rfl ?_)|refine AA rfl rfl ?_))
    refine AA rfl rfl ?_
    ((first|(refine AB rfl rfl ?_;(first|refine Pu rfl rfl rfl ?_|refine Pv rfl rfl rfl ?_|refine JY rfl rfl (λ _=>?_) λ _=>?_))|refine AA rfl rfl ?_)<;>refine bl ?_<;>refine af ?_)
    refine ab ?_
    refine Q5 rfl rfl ⟨?_,f.trans' e⟩
    rw [AY (λ N=>g N.2.2.2.1)]
end
section
open Go Go.RowKit
attribute [local irreducible] ewp owp hwp hwq hws Ev Evg Fn Q4 R7 R2 Q9
def W7 (o:Opr):List (List Fct):=o.pre :: o.effs.map (·.cond)
def conds (t:Tsk):List (List Fct):=t.goal :: t.ops.flatMap W7
theorem OC {α β:Type} (f:α->List β) {l:List α} {k:Nat} {x:α} (a:l[k]?=some x):(l.take (k + 1)).flatMap f=(l.take k).flatMap f ++ f x:=by
  rw [I6,a];simp
theorem UX {α β:Type} (f:α->β) {l:List α} {k:Nat} {x:α} (a:l[k]?=some x):(l.take (k + 1)).map f=(l.take k).map f ++ [f x]:=by
  rw [I6,a];simp
theorem WM {t:Tsk} (c:∀ (i:Nat) o,t.ops[i]?=some o->o.effs.length<=64) (k:Nat):((t.ops.take k).flatMap W7).length<=k * 65:=by
  induction k with
  | zero=>simp
  | succ k b =>
    cases a:t.ops[k]? with
    | none =>
      have hl:=List.getElem?_eq_none_iff.1 a
      rw [D4 hl] at b
      rw [D4 (by omega)]
      omega
    | some o =>
      rw [OC W7 a,H2]
      have:=c k o a
      simp only [W7,J5,L7] at *
      omega
theorem Zz {w:World} {tv:Value} {t:Tsk} (ht:V w tv t) (hn:t.ops.length<=4096) (hm:∀ (i:Nat) o,t.ops[i]?=some o->o.effs.length<=64) :
    Fn prog 43 [tv] w λ v w'=>V w' v (conds t)/\Ext w w':=by
  obtain ⟨cs,rfl,a,b,c,d,rfl,hvars,hinit,hgoal,hops⟩:=ht
  obtain ⟨Av,cv,rfl⟩:=hvars.form
  obtain ⟨Ai,ci,rfl⟩:=hinit.form
  obtain ⟨Ag,cg,rfl⟩:=hgoal.form
  obtain ⟨Ao,co,rfl⟩:=hops.form
  have hF:∀ {w'},Ext w w'->∀ k,All w k->k < w'.heap.size:=λ hE k hk=>H3 hk hE.size
  refine AK func43 rfl ntmps43 ?_
  refine ab ?_
  refine EI rfl λ w1 hN=>?_
  have hb1:=hN.blk
  have hE1:Ext w w1:=hN.ext
  refine af ?_
  refine ab ?_
  refine ag ?_
  refine Fc rfl rfl (by simp [Value.cells]) rfl λ w2 hN2=>?_
  replace hb1:=hb1.ext hN2.ext
  have hE2:Ext w w2:=hE1.trans' hN2.ext
  have hown:Own w2 w.heap.size (All w) 23 (.slice (some ⟨w1.heap.size,0,none⟩) 1 1) [t.goal] :=
    (Own.made hN2 (xs:=[t.goal]) (.single (Vb.agree hgoal (hE2.agree λ _ h=>h))) rfl (λ h=>by have:w1.heap.size < w.heap.size:=h;have:=hE1.size;omega) (by simp)).lower hE1.size
  refine af ?_
  refine ab ?_
  refine ap ?_
  refine Cf t.ops.length (by omega) (λ v:Value=>[(1,.pointer (some ⟨w.heap.size,0,none⟩)),(3,v),(12,.slice Ao t.ops.length co)]) (λ k v w'=>Ext w w'/\Blk w' w.heap.size 26 [.slice Av t.vars.length cv,.slice Ai t.init.length ci,.slice Ag t.goal.length cg,.slice Ao t.ops.length co]/\Own w' w.heap.size (All w) 23 v (t.goal :: (t.ops.take k).flatMap W7)) _
    ⟨hE2,hb1,hown⟩ ⟨rfl,rfl,rfl,rfl,rfl,trivial⟩ (λ _=>⟨rfl,rfl⟩) ⟨rfl,rfl,rfl⟩ ⟨rfl,rfl⟩ ?_ ?_
  . rintro k v w3 hk ⟨hE3,hb1,hown⟩
    have hlk:=WM hm k
    obtain ⟨o,ho⟩:=AG hk
    obtain ⟨b2,o2,ce,rfl,_,_,hd1,p,q,rfl,hp,hq,hc,hnm⟩:=Vb.elem (Vb.agree hops (hE3.agree λ _ h=>h)) ho
    obtain ⟨Ap,cp,rfl⟩:=hp.form
    obtain ⟨Aq,cq,rfl⟩:=hq.form
    have hql:=hm k o ho
    refine ao ?_
    refine CJ rfl rfl (by simp [Value.cells,Value.oneCell']) λ w4 hN4=>?_
    have hb2:=hN4.blk
    replace hb1:=hb1.ext hN4.ext
    have hE4:Ext w w4:=hE3.trans' hN4.ext
    replace hown:=hown.ext hN4.ext (hF hE3)
    replace hp:=hp.agree (hN4.ext.agree (hF hE3))
    replace hq:=hq.agree (hN4.ext.agree (hF hE3))
    refine o_z ?_
    refine ab ?_
    refine ad ?_<;>refine ag ?_
    refine GT rfl rfl rfl hown (hF hE4) hE4.size hp (by simp only [J5,H2,L7,K0];omega) (by simp only [J5,H2,L7,K0];omega) ⟨rfl,rfl⟩ λ v' w5 hown5 hK=>?_
    replace hb1:=hK.blk hb1 (hown.blk_ne hb1 (by decide))
    replace hb2:=hK.blk hb2 (hown.blk_ne hb2 (by decide))
    have hB5:Below w.heap.size w4 w5:=hown.fits (P1 _) hE4.size hK
    have hE5:Ext w w5:=hE4.trans hB5
    replace hq:=hq.below hB5
    refine af ?_
    refine ab ?_
    refine ap ?_
    refine Cf o.effs.length (by omega) (λ v:Value=>[(1,.pointer (some ⟨w.heap.size,0,none⟩)),(3,v),(12,.slice (some ⟨b2,o2,none⟩) t.ops.length co),(13,.int .i64 (t.ops.length:Int)),(14,.int .i64 (k:Int)),(24,.slice Aq o.effs.length cq)]) (λ j v w'=>Ext w w'/\Blk w' w.heap.size 26 [.slice Av t.vars.length cv,.slice Ai t.init.length ci,.slice Ag t.goal.length cg,.slice (some ⟨b2,o2,none⟩) t.ops.length co]/\Vb w' (All w) (.slice Aq o.effs.length cq) o.effs/\Own w' w.heap.size (All w) 23 v ((t.goal :: (t.ops.take k).flatMap W7) ++ o.pre :: (o.effs.take j).map (·.cond))) _
      ⟨hE5,hb1,hq,by simpa using hown5⟩ ⟨rfl,rfl,rfl,rfl,rfl,rfl,rfl,rfl,trivial⟩ (λ _=>⟨rfl,rfl⟩) ⟨rfl,rfl,rfl⟩ ⟨rfl,rfl⟩ ?_ ?_
    . rintro j v6 w6 hj ⟨hE6,hb1,hq,hown⟩
      obtain ⟨e,he⟩:=AG hj
      obtain ⟨b3,o3,ce,rfl,_,_,hd1,cv',rfl,hcond,hr1,hr2⟩:=hq.elem he
      obtain ⟨Ac,cc,rfl⟩:=hcond.form
      refine ao ?_
      refine CJ rfl rfl (by simp [Value.cells,Value.oneCell']) λ w7 hN7=>?_
      have hb2:=hN7.blk
      replace hb1:=hb1.ext hN7.ext
      have hE7:Ext w w7:=hE6.trans' hN7.ext
      replace hown:=hown.ext hN7.ext (hF hE6)
      replace hcond:=hcond.agree (hN7.ext.agree (hF hE6))
      replace hq:=hq.agree (hN7.ext.agree (hF hE6))
      refine o_z ?_
      refine ab ?_
      refine ad ?_<;>refine ag ?_
      refine GT rfl rfl rfl hown (hF hE7) hE7.size hcond (by simp only [J5,H2,L7,K0];omega) (by simp only [J5,H2,L7,K0];omega) ⟨rfl,rfl⟩ λ v' w8 hown8 hK=>?_
      have hB8:Below w.heap.size w7 w8:=hown.fits (P1 _) hE7.size hK
      refine af ?_
      exact ⟨v',⟨rfl,rfl,rfl,rfl,rfl,rfl,rfl,rfl,trivial⟩,hE7.trans hB8,hK.blk hb1 (hown.blk_ne hb1 (by decide)),hq.below hB8,by rw [UX _ he];simpa using hown8⟩
    rintro v6 w6 ⟨hE6,hb1,hq,hown⟩
    refine ab ?_
    exact ⟨v6,⟨rfl,rfl,rfl,rfl,rfl,trivial⟩,hE6,hb1,by rw [OC W7 ho];simpa [W7] using hown⟩
  rintro v w3 ⟨hE3,hb1,hown⟩
  refine ab ?_
  refine am ?_
  refine Q5 rfl rfl ⟨?_,hE3⟩
  rw [K4] at hown
  exact hown.vb.mono λ k hk=>by
    rcases hk with hk|hk
    . exact hF hE3 k hk
    . exact (hown.lt k hk).2
theorem bX {G H:Prop} (g:H) (h:Wr0 H->G:=by intro x;refine am ?_;refine aU ?_;refine ad ?_;refine DV rfl rfl ?_;refine AQ rfl ?_;refine ab ?_;exact x.o):G:=h ⟨g⟩
theorem AaA {w:World} {sv:Value} {xs:List (List Fct)} {g:FuncId} [Callable prog g] {caps:List Value} {p:List Fct->Prop} (hs:V w sv xs)
    (l:∀ v x w',x∈xs->Ext w w'->V w' v x->Fn prog g ([v] ++ caps) w' λ r h=>r=.bool (bof (p x))/\Ext w' h) :
    Fn prog 104 [sv,.func (.func g) #[] caps.toArray] w λ v w'=>((∃ k:Nat,v=.int .i64 (k:Int)/\∃ x∈xs,p x)\/(v=.int .i64 (-1)/\∀ x∈xs,¬ p x))/\Ext w w':=by
  obtain ⟨A,c,rfl⟩:=hs.form
  have hl:=hs.len
  refine AK func104 rfl ntmps104 ?_
  refine aX ?_
  refine Cf xs.length (by omega) (λ _:Unit=>[(0,.slice A xs.length c),(1,.func (.func g) #[] caps.toArray)]) (λ k _ w'=>Ext w w'/\∀ i,i < k->∀ x,xs[i]?=some x->¬ p x) ()
    ⟨P7 _ _,λ i hi=>by omega⟩ ⟨rfl,rfl,rfl,rfl,trivial⟩ (λ _=>⟨rfl,rfl⟩) ⟨rfl,rfl,rfl⟩ ⟨rfl,rfl⟩ ?_ ?_
  . rintro k _ j hk ⟨d,hh⟩
    obtain ⟨x,e⟩:=AG hk
    obtain ⟨b,o,ce,rfl,_,_,hd1,hR⟩:=(hs.ext d).elem e
    obtain ⟨v,rfl⟩:=List.length_eq_one_iff.1 (Rp.len hR)
    refine bX ?_
    refine Jc rfl rfl rfl (l v x j (F9 e) d hR) ?_
    rintro _ m ⟨rfl,hE2⟩
    by_cases f:p x
    . rw [Bk f]
      refine o_z ?_
      refine ab ?_
      refine am ?_
      exact Q5 rfl rfl ⟨.inl ⟨k,rfl,x,F9 e,f⟩,d.trans' hE2⟩
    . rw [AY f]
      refine o_z ?_
      refine ab ?_
      exact ⟨(),⟨rfl,rfl,rfl,rfl,trivial⟩,d.trans' hE2,Dx hh λ n a=>by rw [e] at a;injection a with a;exact a ▸ f⟩
  rintro _ j ⟨d,hh⟩
  refine ab ?_
  refine ae ?_
  refine Q5 rfl rfl ⟨.inr ⟨rfl,λ x e=>?_⟩,d⟩
  obtain ⟨i,hi⟩:=G3 e
  exact hh i (BV hi) x hi
theorem br {G H:Prop} (g:H) (h:Wr0 H->G:=by intro x;refine bb ?_;refine ad ?_;refine ab ?_;exact x.o):G:=h ⟨g⟩
theorem bt {G H:Prop} (g:H) (h:Wr0 H->G:=by intro x;(first|refine Nd rfl rfl rfl ?_|refine Nf rfl rfl rfl ?_);refine af ?_;exact x.o):G:=h ⟨g⟩
theorem Aai {w:World} {sv:Value} {xs:List (List Fct)} {g:FuncId} [Callable prog g] {caps:List Value} {p:List Fct->Prop} (hs:V w sv xs)
    (b:∀ v x w',x∈xs->Ext w w'->V w' v x->Fn prog g ([v] ++ caps) w' λ r a=>r=.bool (bof (p x))/\Ext w' a) :
    Fn prog 78 [sv,.func (.func g) #[] caps.toArray] w λ v w'=>v=.bool (bof (∃ x∈xs,p x))/\Ext w w':=by
  refine AK func78 rfl ntmps78 ?_
  refine br ?_
  refine BD rfl (AaA hs b) ?_
  rintro v c ⟨d,hE⟩
  rcases d with ⟨k,rfl,d⟩|⟨rfl,d⟩
  . refine bt ?_
    refine ab ?_
    exact Q5 rfl rfl ⟨by rw [Bk d],hE⟩
  . refine bt ?_
    refine ab ?_
    exact Q5 rfl rfl ⟨by rw [AY (λ ⟨x,hx,hp⟩=>d x hx hp)],hE⟩
theorem bY {G H:Prop} (g:H) (h:Wr0 H->G:=by intro x;refine bb ?_;refine AU rfl ?_;(first|refine EW rfl rfl ?_|refine EX rfl rfl ?_);refine aj ?_;exact x.o):G:=h ⟨g⟩
theorem AaZ {w:World} {v:Value} {f:List Fct} (hf:V w v f):Fn prog 79 ([v] ++ []) w λ r w'=>r=.bool (bof (64 < f.length))/\Ext w w':=by
  obtain ⟨A,c,rfl⟩:=hf.form
  refine AK func79 rfl ntmps79 ?_
  by_cases a:64 < f.length
  . refine bY ?_
    exact Q5 rfl rfl ⟨by rw [Bk a],P7 _ _⟩
  . refine bY ?_
    exact Q5 rfl rfl ⟨by rw [AY a],P7 _ _⟩
def Aaq (t:Tsk):Prop:=64 < t.vars.length\/4096 < t.ops.length\/(∃ (i:Nat) (o:Opr),t.ops[i]?=some o/\64 < o.effs.length)\/∃ f∈conds t,64 < f.length
theorem Abe {w:World} {z:Value} {t:Tsk} (A:V w z t):Fn prog 41 [z] w λ v w'=>v=.bool (bof (Aaq t))/\Ext w w':=by
  have s:=A
  obtain ⟨cs,rfl,a,b,c,d,rfl,hvars,hinit,hgoal,hops⟩:=A
  obtain ⟨I,cv,rfl⟩:=hvars.form
  obtain ⟨J,ci,rfl⟩:=hinit.form
  obtain ⟨K,cg,rfl⟩:=hgoal.form
  obtain ⟨E,co,rfl⟩:=hops.form
  have F:=hops.len
  refine AK func41 rfl ntmps41 ?_
  refine ab ?_
  refine EI rfl λ u B=>?_
  have n:=B.blk
  have g:Ext w u:=B.ext
  refine af ?_
  refine ab ?_
  (refine ab ?_<;>(refine bg ?_<;>(first|refine EW rfl rfl ?_|refine EX rfl rfl ?_|refine Er rfl rfl (λ _=>?_) λ _=>?_)<;>refine ad ?_<;>(first|(refine AB rfl rfl ?_;refine AO rfl ?_)|refine AA rfl rfl ?_)<;>(first|(refine AB rfl rfl ?_;refine AQ rfl ?_)|refine AA rfl rfl ?_)<;>(first|(refine AB rfl rfl ?_;refine AU rfl ?_)|refine AA rfl rfl ?_)<;>(first|(refine AB rfl rfl ?_;(first|refine EW rfl rfl ?_|refine EX rfl rfl ?_|refine Er rfl rfl (λ _=>?_) λ _=>?_))|refine AA rfl rfl ?_)<;>refine ah ?_)<;>refine ab ?_)
  all_goals try (
    refine ae ?_
    refine Q5 rfl rfl ⟨?_,g⟩
    rw [Bk (by first|exact .inl (by omega)|exact .inr (.inl (by omega)))])
  refine ap ?_
  refine Cf t.ops.length (by omega) (λ _:Unit=>[(1,.pointer (some ⟨w.heap.size,0,none⟩)),(16,.slice E t.ops.length co)]) (λ k _ w'=>Ext u w'/\∀ i,i < k->∀ o,t.ops[i]?=some o->o.effs.length<=64) ()
    ⟨P7 _ _,λ i hi=>by omega⟩ ⟨rfl,rfl,rfl,rfl,trivial⟩ (λ _=>⟨rfl,rfl⟩) ⟨rfl,rfl,rfl⟩ ⟨rfl,rfl⟩ ?_ ?_
  . rintro k _ C hk ⟨e,hh⟩
    obtain ⟨o,m⟩:=AG hk
    obtain ⟨L,o2,ce,rfl,_,_,hd1,p,q,rfl,hp,hq,hc,hn⟩:=(hops.ext (g.trans' e)).elem m
    obtain ⟨M,cp,rfl⟩:=hp.form
    obtain ⟨N,cq,rfl⟩:=hq.form
    refine ao ?_
    refine CJ rfl rfl (by simp [Value.cells,Value.oneCell']) λ D r=>?_
    have G:=r.blk
    have j:Ext u D:=e.trans' r.ext
    refine o_z ?_
    refine ab ?_
    (refine ab ?_<;>(refine bg ?_<;>(first|refine EW rfl rfl ?_|refine EX rfl rfl ?_|refine Er rfl rfl (λ _=>?_) λ _=>?_)<;>refine o_z ?_)<;>refine ab ?_)
    . refine ae ?_
      refine Q5 rfl rfl ⟨?_,g.trans' j⟩
      rw [Bk (.inr (.inr (.inl ⟨k,o,m,by omega⟩)))]
    . exact ⟨(),⟨rfl,rfl,rfl,rfl,trivial⟩,j,Dx hh λ o' l=>by rw [m] at l;injection l with l;subst l;omega⟩
  rintro _ C ⟨e,hh⟩
  replace n:=n.ext e
  replace e:Ext w C:=g.trans' e
  have hm:∀ (i:Nat) o,t.ops[i]?=some o->o.effs.length<=64:=λ i o m=>hh i (BV m) o m
  refine ab ?_
  refine BH rfl ?_
  refine BD rfl (Zz (s.ext e) (by omega) hm) ?_
  rintro O D ⟨y,j⟩
  refine BD rfl (Aai (p:=λ f=>64 < f.length) (caps:=[]) y (λ v x w' _ _ H=>AaZ H)) ?_
  rintro P Q ⟨rfl,hE6⟩
  refine af ?_
  refine ab ?_
  refine Q5 rfl rfl ⟨?_,e.trans' (j.trans' hE6)⟩
  congr 1
  refine Nb ⟨λ h=>.inr (.inr (.inr h)),λ h=>?_⟩
  rcases h with h|h|⟨i,o,m,h⟩|h
  . omega
  . omega
  . have:=hm i o m;omega
  . exact h
end
section
open Go Go.RowKit
attribute [local irreducible] ewp owp hwp hwq hws Ev Evg Fn Q4 R7 R2 Q9
def ZM (t:Tsk):Prop:=∀ (i:Nat) n,t.vars[i]?=some n->1<=n/\n<=64
def Z1 (t:Tsk):Prop:=∀ (i:Nat) o,t.ops[i]?=some o->0<=o.cost/\o.cost<=1048576
def ZJ (t:Tsk):Prop:=∀ (i:Nat) f,(conds t)[i]?=some f->Q7 t.vars f
def Zy (t:Tsk):Prop:=∀ (i:Nat) o,t.ops[i]?=some o->∀ (j:Nat) e,o.effs[j]?=some e->R1 t.vars ⟨e.var,e.val⟩
def Y3 (t:Tsk):Prop:=∀ (i:Nat) o,t.ops[i]?=some o->ZX o.name
noncomputable def V3 (t:Tsk):Int :=
  if bof (Aaq t)=true then 5 else if bof (ZM t/\Z1 t)=false then 1 else if bof (StateOk t.vars t.init/\ZJ t/\Zy t)=false then 2 else if bof (Y3 t)=false then 8 else 0
theorem bc {G H:Prop} (g:H) (h:Wr0 H->G:=by intro x;refine ab ?_;refine Mp rfl ?_;refine aj ?_;exact x.o):G:=h ⟨g⟩
theorem AaC {w:World} {tv:Value} {t:Tsk} (ht:V w tv t):Fn prog 17 [tv] w λ v w'=>v=V6 (V3 t)∧Ext w w':=by
  have ht0:=ht
  obtain ⟨cs,rfl,a,b,c,d,rfl,hvars,hinit,hgoal,hops⟩:=ht
  obtain ⟨Av,cv,rfl⟩:=hvars.form
  obtain ⟨Ai,ci,rfl⟩:=hinit.form
  obtain ⟨Ag,cg,rfl⟩:=hgoal.form
  obtain ⟨Ao,co,rfl⟩:=hops.form
  have hvl:=hvars.len
  have hol:=hops.len
  refine AK func17 rfl ntmps17 ?_
  refine ab ?_
  refine EI rfl λ w1 hN=>?_
  have hb1:=hN.blk
  have hE1:Ext w w1:=hN.ext
  refine af ?_
  refine ab ?_
  refine BH rfl ?_
  refine DP rfl (Abe (ht0.ext hE1)) ?_ ?_
  case refine_1 =>
    intro w2 hP hE2
    refine o_z ?_
    refine ab ?_
    refine bc ?_
    refine Q5 rfl rfl ⟨?_,hE1.trans' hE2⟩
    rw [V3,Bk hP];rfl
  intro w2 hlarge hE2
  replace hb1:=hb1.ext hE2
  replace hE2:Ext w w2:=hE1.trans' hE2
  have hm:∀ (i:Nat) o,t.ops[i]?=some o->o.effs.length<=64:=λ i o ho=>K5 λ h=>hlarge (.inr (.inr (.inl ⟨i,o,ho,h⟩)))
  have hn4:t.ops.length<=4096:=K5 λ h=>hlarge (.inr (.inl h))
  have c1:V3 t=if bof (ZM t/\Z1 t)=false then 1 else if bof (StateOk t.vars t.init/\ZJ t/\Zy t)=false then 2 else if bof (Y3 t)=false then 8 else 0:=by rw [V3,AY hlarge];rfl
  refine o_z ?_
  refine ab ?_
  refine ap ?_
  refine Cf t.vars.length (by omega) (λ _:Unit=>[(1,.pointer (some ⟨w.heap.size,0,none⟩)),(19,.slice Av t.vars.length cv)]) (λ k _ w'=>w'=w2/\∀ i,i < k->∀ n,t.vars[i]?=some n->1<=n/\n<=64) ()
    ⟨rfl,λ i hi=>by omega⟩ ⟨rfl,rfl,rfl,rfl,trivial⟩ (λ _=>⟨rfl,rfl⟩) ⟨rfl,rfl,rfl⟩ ⟨rfl,rfl⟩ ?_ ?_
  . rintro k _ _ hk ⟨rfl,hh⟩
    obtain ⟨n,hn⟩:=AG hk
    obtain ⟨b2,o2,ce,rfl,_,_,hd1,rfl,_⟩:=(hvars.ext hE2).elem hn
    (refine aV ?_<;>(refine ad ?_<;>(first|refine Ee rfl rfl ?_|refine Ef rfl rfl ?_|refine Eq rfl rfl (λ _=>?_) λ _=>?_)<;>refine ad ?_<;>(first|(refine AB rfl rfl ?_;refine At rfl ?_)|refine AA rfl rfl ?_)<;>(first|(refine AB rfl rfl ?_;(first|refine EW rfl rfl ?_|refine EX rfl rfl ?_|refine Er rfl rfl (λ _=>?_) λ _=>?_))|refine AA rfl rfl ?_)<;>refine ah ?_)<;>refine ab ?_)
    all_goals try (
      refine bc ?_
      refine Q5 rfl rfl ⟨?_,hE2⟩
      rw [c1,AY (λ h=>by have:=h.1 k n hn;omega)];rfl)
    exact ⟨(),⟨rfl,rfl,rfl,rfl,trivial⟩,rfl,Dx hh λ n' hn'=>by rw [hn] at hn';injection hn' with hn';omega⟩
  rintro _ _ ⟨rfl,hdom⟩
  replace hdom:ZM t:=λ i n hn=>hdom i (BV hn) n hn
  refine ab ?_
  refine ap ?_
  refine Cf t.ops.length (by omega) (λ _:Unit=>[(1,.pointer (some ⟨w.heap.size,0,none⟩)),(34,.slice Ao t.ops.length co)]) (λ k _ w'=>Ext w w'/\Blk w' w.heap.size 26 [.slice Av t.vars.length cv,.slice Ai t.init.length ci,.slice Ag t.goal.length cg,.slice Ao t.ops.length co]/\∀ i,i < k->∀ o,t.ops[i]?=some o->0<=o.cost/\o.cost<=1048576) ()
    ⟨hE2,hb1,λ i hi=>by omega⟩ ⟨rfl,rfl,rfl,rfl,trivial⟩ (λ _=>⟨rfl,rfl⟩) ⟨rfl,rfl,rfl⟩ ⟨rfl,rfl⟩ ?_ ?_
  . rintro k _ w4 hk ⟨hE4,hb1,hh⟩
    obtain ⟨o,ho⟩:=AG hk
    obtain ⟨b2,o2,ce,rfl,_,_,hd1,p,q,rfl,hp,hq,hc,hn⟩:=(hops.ext hE4).elem ho
    obtain ⟨Ap,cp,rfl⟩:=hp.form
    obtain ⟨Aq,cq,rfl⟩:=hq.form
    refine ao ?_
    refine CJ rfl rfl (by simp [Value.cells,Value.oneCell']) λ w5 hN5=>?_
    replace hb1:=hb1.ext hN5.ext
    have hb2:=hN5.blk
    have hE5:Ext w w5:=hE4.trans' hN5.ext
    refine o_z ?_
    refine ab ?_
    (refine ab ?_<;>(refine ag ?_<;>(first|refine Ee rfl rfl ?_|refine Ef rfl rfl ?_|refine Eq rfl rfl (λ _=>?_) λ _=>?_)<;>refine ad ?_<;>(first|(refine AB rfl rfl ?_;refine AO rfl ?_)|refine AA rfl rfl ?_)<;>(first|(refine AB rfl rfl ?_;refine AQ rfl ?_)|refine AA rfl rfl ?_)<;>(first|(refine AB rfl rfl ?_;(first|refine EW rfl rfl ?_|refine EX rfl rfl ?_|refine Er rfl rfl (λ _=>?_) λ _=>?_))|refine AA rfl rfl ?_)<;>refine ah ?_)<;>refine ab ?_)
    all_goals try (
      refine bc ?_
      refine Q5 rfl rfl ⟨?_,hE5⟩
      rw [c1,AY (λ h=>by have:=h.2 k o ho;omega)];rfl)
    exact ⟨(),⟨rfl,rfl,rfl,rfl,trivial⟩,hE5,hb1,Dx hh λ o' ho'=>by rw [ho] at ho';injection ho' with ho';subst ho';omega⟩
  rintro _ w3 ⟨hE3,hb1,hcost⟩
  replace hcost:Z1 t:=λ i o ho=>hcost i (BV ho) o ho
  have c2:V3 t=if bof (StateOk t.vars t.init/\ZJ t/\Zy t)=false then 2 else if bof (Y3 t)=false then 8 else 0:=by rw [c1,Bk ⟨hdom,hcost⟩];rfl
  refine ab ?_
  refine ag ?_<;>refine ag ?_
  refine DP rfl (Z3 (hvars.ext hE3) (hinit.ext hE3)) ?_ ?_
  case refine_2 =>
    intro w4 hP hE4
    refine ay ?_
    refine ab ?_
    refine bc ?_
    refine Q5 rfl rfl ⟨?_,hE3.trans' hE4⟩
    rw [c2,AY (λ h=>hP h.1)];rfl
  intro w4 hst hE4
  replace hb1:=hb1.ext hE4
  replace hE4:Ext w w4:=hE3.trans' hE4
  refine ay ?_
  refine ab ?_
  refine BH rfl ?_
  refine BD rfl (Zz (ht0.ext hE4) hn4 hm) ?_
  rintro v5 w5 ⟨hv5,hE5⟩
  obtain ⟨Ac,cc,rfl⟩:=hv5.form
  have hcl:=hv5.len
  replace hb1:=hb1.ext hE5
  replace hE5:Ext w w5:=hE4.trans' hE5
  refine AU rfl ?_<;>refine ad ?_<;>refine o_z ?_
  refine ab ?_
  refine Cf (conds t).length (by omega) (λ _:Unit=>[(1,.pointer (some ⟨w.heap.size,0,none⟩)),(58,.slice Ac (conds t).length cc)]) (λ k _ w'=>Ext w5 w'/\∀ i,i < k->∀ f,(conds t)[i]?=some f->Q7 t.vars f) ()
    ⟨P7 _ _,λ i hi=>by omega⟩ ⟨rfl,rfl,rfl,rfl,trivial⟩ (λ _=>⟨rfl,rfl⟩) ⟨rfl,rfl,rfl⟩ ⟨rfl,rfl⟩ ?_ ?_
  . rintro k _ w6 hk ⟨hE6,hh⟩
    obtain ⟨f,hf⟩:=AG hk
    have hb1:=hb1.ext hE6
    obtain ⟨b2,o2,ce,rfl,_,_,hd1,v,rfl,hR⟩:=(hv5.ext hE6).elem hf
    refine aV ?_<;>refine ag ?_<;>refine ad ?_<;>refine ab ?_
    refine DP rfl (AaE (hvars.ext (hE5.trans' hE6)) (Vb.of_slice hR)) ?_ ?_
    . intro w7 hP hE7
      refine ay ?_
      refine ab ?_
      exact ⟨(),⟨rfl,rfl,rfl,rfl,trivial⟩,hE6.trans' hE7,Dx hh λ f' hf'=>by rw [hf] at hf';injection hf' with hf';exact hf' ▸ hP⟩
    . intro w7 hP hE7
      refine ay ?_
      refine ab ?_
      refine bc ?_
      refine Q5 rfl rfl ⟨?_,hE5.trans' (hE6.trans' hE7)⟩
      rw [c2,AY (λ h=>hP (h.2.1 k f hf))];rfl
  rintro _ w6 ⟨hE6,hcond⟩
  replace hcond:ZJ t:=λ i f hf=>hcond i (BV hf) f hf
  replace hb1:=hb1.ext hE6
  replace hE6:Ext w w6:=hE5.trans' hE6
  refine ab ?_
  refine ap ?_
  refine Cf t.ops.length (by omega) (λ _:Unit=>[(1,.pointer (some ⟨w.heap.size,0,none⟩)),(72,.slice Ao t.ops.length co)]) (λ k _ w'=>Ext w6 w'/\∀ i,i < k->∀ o,t.ops[i]?=some o->∀ (j:Nat) e,o.effs[j]?=some e->R1 t.vars ⟨e.var,e.val⟩) ()
    ⟨P7 _ _,λ i hi=>by omega⟩ ⟨rfl,rfl,rfl,rfl,trivial⟩ (λ _=>⟨rfl,rfl⟩) ⟨rfl,rfl,rfl⟩ ⟨rfl,rfl⟩ ?_ ?_
  . rintro k _ w7 hk ⟨hE7,hh⟩
    obtain ⟨o,ho⟩:=AG hk
    have hb1:=hb1.ext hE7
    obtain ⟨b2,o2,ce,rfl,_,_,hd1,p,q,rfl,hp,hq,hc,hn⟩:=(hops.ext (hE6.trans' hE7)).elem ho
    obtain ⟨Ap,cp,rfl⟩:=hp.form
    obtain ⟨Aq,cq,rfl⟩:=hq.form
    have hql:=hq.len
    refine ao ?_
    refine CJ rfl rfl (by simp [Value.cells,Value.oneCell']) λ w8 hN8=>?_
    replace hb1:=hb1.ext hN8.ext
    have hb2:=hN8.blk
    have hE8:Ext w6 w8:=hE7.trans' hN8.ext
    replace hq:=hq.ext hN8.ext
    refine o_z ?_
    refine ab ?_
    refine ap ?_
    refine Cf o.effs.length (by omega) (λ _:Unit=>[(1,.pointer (some ⟨w.heap.size,0,none⟩)),(72,.slice (some ⟨b2,o2,none⟩) t.ops.length co),(73,.int .i64 (t.ops.length:Int)),(74,.int .i64 (k:Int)),(79,.slice Aq o.effs.length cq)]) (λ j _ w'=>Ext w8 w'/\∀ i,i < j->∀ e,o.effs[i]?=some e->R1 t.vars ⟨e.var,e.val⟩) ()
      ⟨P7 _ _,λ i hi=>by omega⟩ ⟨rfl,rfl,rfl,rfl,rfl,rfl,rfl,trivial⟩ (λ _=>⟨rfl,rfl⟩) ⟨rfl,rfl,rfl⟩ ⟨rfl,rfl⟩ ?_ ?_
    . rintro j _ w9 hj ⟨hE9,hh9⟩
      obtain ⟨e,he⟩:=AG hj
      have hb1:=hb1.ext hE9
      obtain ⟨b3,o3,ce,rfl,_,_,hd1,cv',rfl,hcn,hr1,hr2⟩:=(hq.ext hE9).elem he
      obtain ⟨Acn,ccn,rfl⟩:=hcn.form
      refine ao ?_
      refine CJ rfl rfl (by simp [Value.cells,Value.oneCell']) λ w10 hN10=>?_
      have hb3:=hN10.blk
      replace hb1:=hb1.ext hN10.ext
      have hE10:Ext w w10:=hE6.trans' (hE8.trans' (hE9.trans' hN10.ext))
      refine o_z ?_
      refine ab ?_
      refine ag ?_<;>refine ag ?_<;>refine ag ?_<;>refine DU rfl rfl ?_
      refine Fc rfl rfl (by simp [Value.cells];rfl) rfl λ w11 hN11=>?_
      have hE11:Ext w w11:=hE10.trans' hN11.ext
      have hone:V w11 (.slice (some ⟨w10.heap.size,0,none⟩) 1 1) [(⟨e.var,e.val⟩:Fct)]:=Vb.made hN11 (.single ⟨rfl,hr1,hr2⟩) rfl hN11.blk.lt (by decide)
      refine DP rfl (AaE (hvars.ext hE11) hone) ?_ ?_
      . intro w12 hP hE12
        refine ay ?_
        refine ab ?_
        exact ⟨(),⟨rfl,rfl,rfl,rfl,rfl,rfl,rfl,trivial⟩,hE9.trans' (hN10.ext.trans' (hN11.ext.trans' hE12)),Dx hh9 λ e' he'=>by rw [he] at he';injection he' with he';subst he';exact HW.1 hP⟩
      . intro w12 hP hE12
        refine ay ?_
        refine ab ?_
        refine bc ?_
        refine Q5 rfl rfl ⟨?_,hE11.trans' hE12⟩
        rw [c2,AY (λ h=>hP (HW.2 (h.2.2 k o ho j e he)))];rfl
    rintro _ w9 ⟨hE9,hh9⟩
    refine ab ?_
    exact ⟨(),⟨rfl,rfl,rfl,rfl,trivial⟩,hE8.trans' hE9,Dx hh λ o' ho' j e he=>by rw [ho] at ho';injection ho' with ho';subst ho';exact hh9 j (BV he) e he⟩
  rintro _ w7 ⟨hE7,heff⟩
  replace heff:Zy t:=λ i o ho=>heff i (BV ho) o ho
  have c3:V3 t=if bof (Y3 t)=false then 8 else 0:=by rw [c2,Bk ⟨hst,hcond,heff⟩];rfl
  replace hb1:=hb1.ext hE7
  replace hE7:Ext w w7:=hE6.trans' hE7
  refine ab ?_
  refine ap ?_
  refine Cf t.ops.length (by omega) (λ _:Unit=>[(1,.pointer (some ⟨w.heap.size,0,none⟩)),(99,.slice Ao t.ops.length co)]) (λ k _ w'=>Ext w w'/\∀ i,i < k->∀ o,t.ops[i]?=some o->ZX o.name) ()
    ⟨hE7,λ i hi=>by omega⟩ ⟨rfl,rfl,rfl,rfl,trivial⟩ (λ _=>⟨rfl,rfl⟩) ⟨rfl,rfl,rfl⟩ ⟨rfl,rfl⟩ ?_ ?_
  . rintro k _ w8 hk ⟨hE8,hh⟩
    obtain ⟨o,ho⟩:=AG hk
    obtain ⟨b2,o2,ce,rfl,_,_,hd1,p,q,rfl,hp,hq,hc,hn⟩:=(hops.ext hE8).elem ho
    obtain ⟨Ap,cp,rfl⟩:=hp.form
    obtain ⟨Aq,cq,rfl⟩:=hq.form
    refine ao ?_
    refine CJ rfl rfl (by simp [Value.cells,Value.oneCell']) λ w9 hN9=>?_
    have hb2:=hN9.blk
    have hE9:Ext w w9:=hE8.trans' hN9.ext
    refine o_z ?_
    refine ab ?_
    refine ag ?_
    refine DP rfl (Aa7 hn) ?_ ?_
    . intro w10 hP hE10
      refine ay ?_
      refine ab ?_
      exact ⟨(),⟨rfl,rfl,rfl,rfl,trivial⟩,hE9.trans' hE10,Dx hh λ o' ho'=>by rw [ho] at ho';injection ho' with ho';exact ho' ▸ hP⟩
    . intro w10 hP hE10
      refine ay ?_
      refine ab ?_
      refine bc ?_
      refine Q5 rfl rfl ⟨?_,hE9.trans' hE10⟩
      rw [c3,AY (λ h=>hP (h k o ho))];rfl
  rintro _ w8 ⟨hE8,hnames⟩
  refine ab ?_
  refine ae ?_
  refine Q5 rfl rfl ⟨?_,hE8⟩
  rw [c3,Bk (show Y3 t from λ i o ho=>hnames i (BV ho) o ho)];rfl
end
section
theorem LN {p:Prop}:bof p=true↔p:=⟨λ a=>B9 λ hn=>(by rw [AY hn] at a;exact Bool.noConfusion a),Bk⟩
theorem Gi {p:Prop}:bof p=false↔¬ p:=by
  rw [<- Bool.not_eq_true,LN]
theorem Iw {vars:List Int} {f:List Fct} (c:Q7 vars f):∀ (j i:Nat) (x y:Fct),i < j->f[i]?=some x->f[j]?=some y->x.var < y.var
  | 0,i,_,_,hij,_,_=>by omega
  | j + 1,i,x,y,hij,hx,hy=>by
    by_cases he:i=j
    . subst he;exact c.2 i x y hx hy
    . obtain ⟨z,hz⟩:=AG (l:=f) (k:=j) (by have:=BV hy;omega)
      have a:=Iw c j i x z (by omega) hx hz
      have b:=c.2 j z y hz hy
      omega
theorem Nm {vars:List Int} {f:List Fct} (c:Q7 vars f):∀ (i:Nat) (x:Fct),f[i]?=some x->(i:Int)<=x.var
  | 0,x,hx=>(c.1 0 x hx).1
  | i + 1,x,hx=>by
    obtain ⟨z,hz⟩:=AG (l:=f) (k:=i) (by have:=BV hx;omega)
    have a:=Nm c i z hz
    have b:=c.2 i z x hz hx
    omega
theorem GV {vars:List Int} {f:List Fct} (c:Q7 vars f):f.length<=vars.length:=by
  rcases H5 f.length with h0|h0
  . omega
  . obtain ⟨x,hx⟩:=AG (l:=f) (k:=f.length - 1) (by omega)
    have a:=Nm c _ x hx
    obtain ⟨b,h3,y,hy,_⟩:=c.1 _ x hx
    have:=BV hy
    omega
theorem Jk {t:Tsk} {f:List Fct}:f∈conds t↔f=t.goal∨∃ (i:Nat) (o:Opr),t.ops[i]?=some o∧(f=o.pre∨∃ (j:Nat) (e:Eff),o.effs[j]?=some e∧f=e.cond):=by
  unfold conds W7
  rw [M8,K2]
  constructor
  . rintro (h|⟨o,ho,hf⟩)
    . exact .inl h
    . obtain ⟨i,hi⟩:=G3 ho
      refine .inr ⟨i,o,hi,?_⟩
      rcases M8.1 hf with h|h
      . exact .inl h
      . obtain ⟨e,he,rfl⟩:=N8.1 h
        obtain ⟨j,hj⟩:=G3 he
        exact .inr ⟨j,e,hj,rfl⟩
  . rintro (h|⟨i,o,ho,h⟩)
    . exact .inl h
    . refine .inr ⟨o,F9 ho,?_⟩
      rcases h with rfl|⟨j,e,he,rfl⟩
      . exact H8
      . exact F8 _ (N8.2 ⟨e,F9 he,rfl⟩)
theorem EO {t:Tsk}:V3 t=0↔TaskOk t:=by
  unfold V3
  constructor
  . intro h
    by_cases c:Aaq t
    . rw [if_pos (LN.2 c)] at h;cases h
    rw [if_neg (λ b=>c (LN.1 b))] at h
    by_cases g:ZM t/\Z1 t
    case neg=>rw [if_pos (Gi.2 g)] at h;cases h
    rw [if_neg (λ b=>Gi.1 b g)] at h
    by_cases d:StateOk t.vars t.init/\ZJ t/\Zy t
    case neg=>rw [if_pos (Gi.2 d)] at h;cases h
    rw [if_neg (λ b=>Gi.1 b d)] at h
    by_cases k:Y3 t
    case neg=>rw [if_pos (Gi.2 k)] at h;cases h
    have hc:∀ f∈conds t,Q7 t.vars f:=λ f hf=>by
      obtain ⟨i,hi⟩:=G3 hf
      exact d.2.1 i f hi
    have hl:t.vars.length<=64/\t.ops.length<=4096/\(∀ (i:Nat) (o:Opr),t.ops[i]?=some o->o.effs.length<=64):=by
      unfold Aaq at c
      refine ⟨K5 λ h=>c (.inl h),K5 λ h=>c (.inr (.inl h)),λ i o a=>K5 λ h=>c (.inr (.inr (.inl ⟨i,o,a,h⟩)))⟩
    exact ⟨hl.1,hl.2.1,g.1,d.1,hc _ (Jk.2 (.inl rfl)),λ i o a=>⟨(g.2 i o a).1,(g.2 i o a).2,hl.2.2 i o a,k i o a,hc _ (Jk.2 (.inr ⟨i,o,a,.inl rfl⟩)),λ j e he=>⟨hc _ (Jk.2 (.inr ⟨i,o,a,.inr ⟨j,e,he,rfl⟩⟩)),d.2.2 i o a j e he⟩⟩⟩
  . rintro ⟨c,g,d,k,h5,h6⟩
    have hc:∀ f∈conds t,Q7 t.vars f:=λ f hf=>by
      rcases Jk.1 hf with rfl|⟨i,o,a,rfl|⟨j,e,he,rfl⟩⟩
      . exact h5
      . exact (h6 i o a).2.2.2.2.1
      . exact ((h6 i o a).2.2.2.2.2 j e he).1
    have l:¬ Aaq t:=by
      rintro (h|h|⟨i,o,a,h⟩|⟨f,hf,h⟩)
      . omega
      . omega
      . have:=(h6 i o a).2.2.1;omega
      . have:=GV (hc f hf);omega
    have m:ZM t/\Z1 t:=⟨d,λ i o a=>⟨(h6 i o a).1,(h6 i o a).2.1⟩⟩
    have n:StateOk t.vars t.init/\ZJ t/\Zy t:=⟨k,λ i f hf=>hc f (F9 hf),λ i o a j e he=>((h6 i o a).2.2.2.2.2 j e he).2⟩
    have p:Y3 t:=λ i o a=>(h6 i o a).2.2.2.1
    rw [if_neg (λ b=>l (LN.1 b)),if_neg (λ b=>Gi.1 b m),if_neg (λ b=>Gi.1 b n),if_neg (λ b=>Gi.1 b p)]
theorem TaskOk.vars {t:Tsk} (a:TaskOk t):ZM t:=a.2.2.1
end
section
open Go Go.RowKit
attribute [local irreducible] ewp owp hwp hwq hws Ev Evg Fn Q4 R7 R2 Q9
section
variable {w : World} {A : Nat → Prop} (hA : ∀ k, A k → k < w.heap.size) {v0 v1 : Value}
include hA
omit hA in
def EF (f:List Fct) (s:List Int):Option Bool:=some (holdsB f s)
theorem Hy {a:List Fct} (c:Vb w A v0 a) {b:List Int} (d:Vb w A v1 b) {r:Bool} (hm:EF a b=some r):Fn prog 59 [v0,v1] w λ v w'=>Ext w w'/\Vb w' (upA A w w') v r:=by
  obtain rfl:=sm hm
  refine (Aa6 (c.mono hA) (d.mono hA)).mono λ v w' e=>⟨e.2,?_⟩
  rw [e.1,Iu];exact vBool
omit hA in
def Gb (f:List Fct) (s:List Int):Option Bool:=some (holdsB f s)
theorem Lb {a:List Fct} (c:Vb w A v0 a) {b:List Int} (d:Vb w A v1 b) {r:Bool} (hm:Gb a b=some r):Fn prog 23 [v0,v1] w λ v w'=>Ext w w'/\Vb w' (upA A w w') v r:=by
  obtain rfl:=sm hm
  refine (Abb (c.mono hA) (d.mono hA)).mono λ v w' e=>⟨e.2,?_⟩
  rw [e.1,Iu];exact vBool
omit hA in
noncomputable def Jy (x:List Int) (y:List Int):Option Bool:=some (bof (x=y))
theorem Rf {a:List Int} (c:Vb w A v0 a) {b:List Int} (d:Vb w A v1 b) {r:Bool} (hm:Jy a b=some r):Fn prog 13 [v0,v1] w λ v w'=>Ext w w'/\Vb w' (upA A w w') v r:=by
  obtain rfl:=sm hm
  refine (Abk (c.mono hA) (d.mono hA)).mono λ v w' e=>⟨e.2,?_⟩
  rw [e.1];exact vBool
omit hA in
noncomputable def Hg (x:List Int) (y:List Int):Option Bool:=some (bof (StateOk x y))
theorem Pq {a:List Int} (c:Vb w A v0 a) {b:List Int} (d:Vb w A v1 b) {r:Bool} (hm:Hg a b=some r):Fn prog 42 [v0,v1] w λ v w'=>Ext w w'/\Vb w' (upA A w w') v r:=by
  obtain rfl:=sm hm
  refine (Z3 (c.mono hA) (d.mono hA)).mono λ v w' e=>⟨e.2,?_⟩
  rw [e.1];exact vBool
omit hA in
noncomputable def IQ (t:Tsk):Option Bool:=some (bof (SmallOk t))
theorem PV {a:Tsk} (b:Vb w A v0 a) {r:Bool} (hm:IQ a=some r):Fn prog 4 [v0] w λ v w'=>Ext w w'/\Vb w' (upA A w w') v r:=by
  obtain rfl:=sm hm
  refine (Aa8 (b.mono hA)).mono λ v w' c=>⟨c.2,?_⟩
  rw [c.1];exact vBool
end
noncomputable def Dr (t:Tsk):Option Err:=some ⟨V3 t⟩
theorem Nn (t:Tsk):P9 (V3 t):=by unfold V3;(repeat' split)<;>decide
theorem IR {w:World} {A:Nat->Prop} (hA:∀ k,A k->k < w.heap.size) {v0:Value} {a:Tsk} (b:Vb w A v0 a) {r:Err} (hm:Dr a=some r):Fn prog 17 [v0] w λ v w'=>Ext w w'/\Vb w' (upA A w w') v r:=by
  obtain rfl:=sm hm
  refine (AaC (b.mono hA)).mono λ v w' c=>⟨c.2,?_⟩
  rw [c.1]
  exact vErr (Nn _)
def BW (xs:List Int):Option (List Int):=if xs.length * 8<=140737488355328/\xs.length<=9223372036854775807 then some xs else none
theorem aW {G H:Prop} (g:H) (h:Wr0 H->G:=by intro x;refine bb ?_;refine KU rfl ?_;refine o_z ?_;exact x.o):G:=h ⟨g⟩
theorem Es {w:World} {A:Nat->Prop} (hA:∀ k,A k->k < w.heap.size) {v0:Value} {b:List Int} (a:Vb w A v0 b) {r:List Int} (hm:BW b=some r) :
    Fn prog 57 [v0] w λ v w'=>Ext w w'/\RowR w w' (upA A w w') 3 v r:=by
  obtain ⟨⟨hl,a0⟩,rfl⟩:=EM hm
  obtain ⟨O,hB,b0⟩:=enter hA
  replace a:=a.mono b0
  obtain ⟨f,c,rfl⟩:=a.form
  refine AK func57 rfl ntmps57 ?_
  cases f with
  | none =>
    have h:b=[]:=by
      cases b with
      | nil=>rfl
      | cons x xs=>obtain ⟨_,_,_,t,_⟩:=a.elem (k:=0) (x:=x) rfl;cases t
    subst h
    refine aW ?_<;>refine ae ?_
    exact Q5 rfl rfl ⟨P7 _ _,RowR.nil⟩
  | some l =>
    refine aW ?_<;>refine ab ?_
    refine DW 2 O (xs:=([]:List Int)) rfl rfl rfl trivial rfl λ g m n d i=>?_
    replace hB:=hB.st d (λ t=>t) (λ t=>t)
    replace a:=a.st d (λ t=>t)
    refine ad ?_
    refine EL rfl i a.rd rfl rfl (by simpa using hl) (by simpa using a0) rfl λ o p q s j e=>?_
    replace hB:=hB.st j (by decide) (by decide)
    rw [L3] at e ⊢
    refine af ?_
    refine ab ?_
    exact Q5 rfl rfl ⟨hB.ext,e.out hB (by decide)⟩
end
section
open Go Go.RowKit
attribute [local irreducible] ewp owp hwp hwq hws Ev Evg Fn Q4 R7 R2 Q9
structure Swp where
  vars:List Int
  vals:List (List Int)
  ops:List Int
instance:Rp Swp where
  isAgg:=true
  size:=3
  R w F cs x:=∃ a b c,cs=[a,b,c]/\Vb w F a x.vars/\Vb w F b x.vals/\Vb w F c x.ops
  len:=by rintro w F cs x ⟨a,b,c,rfl,h0,h1,h2⟩;rfl
  one:=by rintro w F cs x ⟨a,b,c,rfl,h0,h1,h2⟩ u hu;simp at hu;rcases hu with rfl|rfl|rfl<;>first|rfl|exact Vb.one rfl (by assumption)
  agree:=by rintro w w' F cs x ⟨a,b,c,rfl,h0,h1,h2⟩ ha;exact ⟨a,b,c,rfl,h0.agree ha,h1.agree ha,h2.agree ha⟩
  mono:=by rintro w F G cs x ⟨a,b,c,rfl,h0,h1,h2⟩ ha;exact ⟨a,b,c,rfl,h0.mono ha,h1.mono ha,h2.mono ha⟩
instance:El Swp λ B h w O x G=>∀ (c:Option Addr) (d:Nat) (e:Option Addr) (f:Nat) (a:Option Addr) (b:Nat),Al B (.V (.slice c x.vars.length d) x.vars :: .V (.slice e x.vals.length f) x.vals :: .V (.slice a x.ops.length b) x.ops :: .V (.agg #[(.slice c x.vars.length d),(.slice e x.vals.length f),(.slice a x.ops.length b)]) x :: h) w O->G (.agg #[(.slice c x.vars.length d),(.slice e x.vals.length f),(.slice a x.ops.length b)]):=⟨λ i j k=>by
  have g:=j
  unfold Vb at g
  obtain ⟨cs,rfl,v1,v2,v3,rfl,h4,h7,h10⟩:=g
  obtain ⟨c,d,rfl⟩:=h4.form
  obtain ⟨e,f,rfl⟩:=h7.form
  obtain ⟨a,b,rfl⟩:=h10.form
  exact k c d e f a b ⟨h4,h7,h10,j,i⟩⟩
instance:Ec Swp λ B h w O i b o x G=>∀ (d:Option Addr) (e:Nat) (f:Option Addr) (g:Nat) (a:Option Addr) (c:Nat),Al B (.C i b o [(.slice d x.vars.length e),(.slice f x.vals.length g),(.slice a x.ops.length c)] :: .V (.slice d x.vars.length e) x.vars :: .V (.slice f x.vals.length g) x.vals :: .V (.slice a x.ops.length c) x.ops :: .V (.agg #[(.slice d x.vars.length e),(.slice f x.vals.length g),(.slice a x.ops.length c)]) x :: h) w O->G:=⟨λ {_ _ _ _ _ _ _ x _ _} m j hc n k=>by
  have hv:=Vb.ofAgg (x:=x) rfl n
  obtain ⟨l,v2,v3,rfl,h4,h7,h10⟩:=n
  obtain ⟨d,e,rfl⟩:=h4.form
  obtain ⟨f,g,rfl⟩:=h7.form
  obtain ⟨a,c,rfl⟩:=h10.form
  exact k d e f g a c ⟨⟨j,hc⟩,h4,h7,h10,hv,m⟩⟩
noncomputable def BI (e:List Fct) (f:List Fct):Option Bool :=
  if (e.length:Int)≠(f.length:Int) then (some false) else (bnd (rng (ρ:=Bool) (λ (d:Nat) (b:Fct) (g:Unit)=>bnd (f[d]?) λ c=>if ¬ (b.var=c.var/\b.val=c.val) then (some (.ret false)) else (some (.next ()))) e 0 ()) λ a=>fin a λ (h:Unit)=>some true)
section
attribute [local irreducible] Vb Lc Rw Ob
theorem Dg {w:World} {A:Nat->Prop} (hA:∀ k,A k->k < w.heap.size) {b:Value} {e:List Fct} (g:Vb w A b e) {c:Value} {f:List Fct} (h:Vb w A c f) {r:Bool} (hm:BI e f=some r) :
    Fn prog 64 [b,c] w λ v w'=>Ext w w'/\Vb w' (upA A w w') v r:=by
 obtain ⟨_,_,_⟩:=CW hA
 apply Cj g;intros
 apply Cj h;intros
 refine AK func64 rfl ntmps64 ?_
 unfold BI at hm
 refine Am (Ah (Au rfl (o_z (Am (Am (Ah (At rfl (AU rfl (At rfl (AU rfl (JZ rfl rfl (λ d=>?_) λ d=>?_)))))))))))
 ·
  replace hm:=ip hm d
  refine o_z (Aj rfl (Am (Ah (Au rfl (o_z (AM ?_))))))
  obtain rfl:=sm hm
  exact Cl
 replace hm:=im hm d
 refine o_z (Ae rfl (AN (Am (Am (Ah (At rfl (AU rfl (At rfl (o_z (DT (X:=Unit) hm [0,1] [] [] [] (λ _ _ _ _ t=>t) (λ _ _ _ _ t=>t) () ?_ ?_))))))))))
 ·
  intro j l m _ _ _ _ a n _ i;intros
  refine Am (Ah (At rfl (Au rfl (o_z (Am (NZ (AX (CR 0 9)) ?_))))))
  refine AJ rfl rfl (AJ rfl rfl (HU rfl ?_));intros
  refine PS rfl (AJ rfl rfl (AJ rfl rfl ?_))
  obtain ⟨o,k0,a⟩:=bs a
  refine HU rfl ?_;intros
  refine PS rfl (YP rfl rfl rfl rfl (λ c0=>?_) λ c0=>?_)
  ·
   replace a:=ip a c0
   refine h_z (Aj rfl (Am (Ah (Au rfl (o_z (AM ?_))))))
   obtain rfl:=sm a
   obtain rfl:=i _ rfl
   exact Cl
  replace a:=im a c0
  refine h_z (Ae rfl (AN ?_))
  exact DF () a
 intro l0 _ _ _ _ hm;intros
 refine BY ?_
 refine Am (Ah (Au rfl (o_z (AM ?_))))
 obtain rfl:=sm hm
 exact Cl
end
noncomputable def CB (g:List Int) (d:Int):Option Bool :=
  if (g.length:Int)≠d then (some false) else (bnd (mkI 1 (false:Bool) d) λ h=>bnd (rng (ρ:=Bool) (λ (i:Nat) (a:Int) (b:(List Bool))=>bnd (if a < 0 then (some true) else (if d<=a then (some true) else (bnd (atI b a) λ e=>some e)):Option Bool) λ f=>if f=true then (some (.ret false)) else (bnd (atI b a) λ j=>some (.next (b.set (a:Int).toNat true)))) g 0 h) λ c=>fin c λ (k:(List Bool))=>some true)
section
attribute [local irreducible] Vb Lc Rw Ob
theorem FP {w:World} {A:Nat->Prop} (hA:∀ k,A k->k < w.heap.size) {c:Value} {j:List Int} (m:Vb w A c j) {d:Int} (n:P9 d) {r:Bool} (hm:CB j d=some r) :
    Fn prog 63 [c,(.int .i64 d)] w λ v w'=>Ext w w'/\Vb w' (upA A w w') v r:=by
 obtain ⟨_,_,_⟩:=CW hA
 apply Cj m;intros
 refine AK func63 rfl ntmps63 ?_
 unfold CB at hm
 refine Am (Ah (Au rfl (o_z (Am (Am (Ah (At rfl (AU rfl (At rfl (JZ rfl rfl (λ e=>?_) λ e=>?_))))))))))
 ·
  replace hm:=ip hm e
  refine o_z (Aj rfl (Am (Ah (Au rfl (o_z (AM ?_))))))
  obtain rfl:=sm hm
  exact Cl
 replace hm:=im hm e
 refine o_z (Ae rfl (AN (Am (Ah (At rfl ?_)))))
 obtain ⟨p,e8,hm⟩:=bs hm
 refine Fj 2 e8 ?_;intros
 refine Au rfl (o_z (Am (Am (Ah (At rfl (AU rfl (At rfl (o_z (DT (X:=Unit) hm [1,5,14] [] [2] [2] (λ _ _ _ _ t=>t) (λ _ o l _ t=>uR (o 2) 2 l :: t) () ?_ ?_)))))))))
 ·
  intro q l0 l _ _ _ _ b s _ c0;intros
  refine Am (Ah (Ep ?_));intros
  refine EZ (Au rfl (o_z (Am (Am ?_))))
  refine DE (X:=Unit) b [1,5,7,14,15,16] [] [] [] (λ _ _ f _ t=>(32,.bool f) :: t) (λ _ _ _ _ t=>t) ?_ ?_
  ·
   intro f a
   refine Ah (At rfl (Eq rfl rfl (λ g=>?_) λ g=>?_))
   ·
    replace a:=ip a g
    refine At rfl (AA rfl rfl (AA rfl rfl (AA rfl rfl (BJ rfl rfl (At rfl (AA rfl rfl (AA rfl rfl (AA rfl rfl (AA rfl rfl (BJ rfl rfl (o_z ?_)))))))))))
    obtain rfl:=sm a
    exact BA ()
   replace a:=im a g
   refine At rfl (AB rfl rfl (At rfl (AB rfl rfl (At rfl (AB rfl rfl (GH rfl rfl (λ h=>?_) λ h=>?_))))))
   ·
    replace a:=ip a h
    refine BK rfl rfl (At rfl (AA rfl rfl (AA rfl rfl (AA rfl rfl (AA rfl rfl (BJ rfl rfl (o_z ?_)))))))
    obtain rfl:=sm a
    exact BA ()
   replace a:=im a h
   refine BK rfl rfl (At rfl (AB rfl rfl (At rfl (AB rfl rfl (At rfl (AB rfl rfl ?_))))))
   obtain ⟨u,n0,a⟩:=bs a
   refine Jw ?_;intros
   refine AB rfl rfl (EZ (BK rfl rfl (o_z ?_)))
   obtain rfl:=sm a
   exact BA ()
  intro f _ _ _ _ b;intros
  refine BY ?_
  refine BP rfl (λ i=>?_) (λ i=>?_)
  ·
   replace b:=ip b i
   refine Am (Ah (Au rfl (o_z (AM ?_))))
   obtain rfl:=sm b
   obtain rfl:=c0 _ rfl
   exact Cl
  replace b:=im' b i
  refine AN (Ah (At rfl (At rfl ?_)))
  obtain ⟨x,p0,b⟩:=bs b
  refine Jw ?_;intros
  refine GU ?_;intros
  refine o_z ?_
  exact DF () b
 intro y _ _ _ _ hm;intros
 refine BY ?_
 refine Am (Ah (Au rfl (o_z (AM ?_))))
 obtain rfl:=sm hm
 exact Cl
end
noncomputable def Fk (d:Tsk) (e:Swp):Option Bool :=
  bnd (bnd (CB e.vars (d.vars.length:Int)) λ f=>if f=true then if (e.vals.length:Int)≠(d.vars.length:Int) then (some true) else (some false) else some true:Option Bool) λ g=>if g=true then (some false) else (bnd (rng (ρ:=Bool) (λ (b:Nat) (c:Int) (m:Unit)=>bnd (bnd (e.vars[b]?) λ h=>bnd (atI d.vars h) λ i=>if i≠c then (some true) else (bnd (e.vals[b]?) λ j=>bnd (CB j c) λ k=>if k=true then some false else some true):Option Bool) λ l=>if l=true then (some (.ret false)) else (some (.next ()))) d.vars 0 ()) λ a=>fin a λ (n:Unit)=>some true)
section
attribute [local irreducible] Vb Lc Rw Ob
theorem Mw {w:World} {A:Nat->Prop} (hA:∀ k,A k->k < w.heap.size) {c:Value} {m:Tsk} (o:Vb w A c m) {d:Value} {n:Swp} (l0:Vb w A d n) {r:Bool} (hm:Fk m n=some r) :
    Fn prog 62 [c,d] w λ v w'=>Ext w w'/\Vb w' (upA A w w') v r:=by
 obtain ⟨_,_,_⟩:=CW hA
 apply Cj o;intros
 apply Cj l0;intros
 refine AK func62 rfl ntmps62 ?_
 unfold Fk at hm
 refine Am (Ah (Dt 2 ?_));intros
 refine Dt 3 ?_;intros
 refine Au rfl (o_z (Am (Am (DE (X:=Unit) hm [2,3] [] [] [] (λ _ _ e _ t=>(22,.bool e) :: t) (λ _ _ _ _ t=>t) ?_ ?_))))
 ·
  intro e b
  refine Ah (AO rfl (CF (AO rfl ?_)))
  refine CF (AU rfl ?_)
  obtain ⟨p,n0,b⟩:=bs b
  refine DO rfl (FP (λ _ E=>E) zA zI n0) ?_;intros
  cases p
  case false =>
   replace b:=iF b
   refine DB rfl (At rfl (AA rfl rfl (AA rfl rfl (AA rfl rfl (AA rfl rfl (AA rfl rfl (AA rfl rfl (AA rfl rfl (BJ rfl rfl (o_z ?_))))))))))
   obtain rfl:=sm b
   exact BA ()
  replace b:=iT b
  refine DA rfl (At rfl (AB rfl rfl (AO rfl (AB rfl rfl (CF (AB rfl rfl (AU rfl (AB rfl rfl (AO rfl (AB rfl rfl ?_))))))))))
  refine CF (AB rfl rfl (AU rfl (AB rfl rfl (JZ rfl rfl (λ f=>?_) λ f=>?_))))
  ·
   replace b:=ip b f
   refine BK rfl rfl (o_z ?_)
   obtain rfl:=sm b
   exact BA ()
  replace b:=im b f
  refine BK rfl rfl (o_z ?_)
  obtain rfl:=sm b
  exact BA ()
 intro e _ _ _ _ hm;intros
 refine BY ?_
 refine BP rfl (λ g=>?_) (λ g=>?_)
 ·
  replace hm:=ip hm g
  refine Am (Ah (Au rfl (o_z (AM ?_))))
  obtain rfl:=sm hm
  exact Cl
 replace hm:=im' hm g
 refine AN (Am (Am (Ah (AO rfl (CF (AU rfl (At rfl (o_z ?_))))))))
 refine DT (X:=Unit) hm [2,3,24] [] [] [] (λ _ _ _ _ t=>t) (λ _ _ _ _ t=>t) () ?_ ?_
 ·
  intro u x y _ _ _ _ c0 z _ q;intros
  refine Am (Ah (At rfl (Ep ?_)));intros
  refine EZ (Au rfl (Au rfl (o_z (Am ?_))))
  refine DE (X:=Unit) c0 [2,3,24,25,26] [] [] [] (λ _ _ h _ t=>(51,.bool h) :: t) (λ _ _ _ _ t=>t) ?_ ?_
  ·
   intro h a
   refine Hj [] ?_
   refine AH (fuel:=3) [] (AX (CR 0 18)) rfl (AL rfl rfl (Cp rfl (AL rfl rfl ?_)))
   refine Cp rfl (AJ rfl rfl ?_)
   obtain ⟨B,v0,a⟩:=bs a
   refine HU rfl ?_;intros
   refine EE rfl ?_
   obtain ⟨C,y0,a⟩:=bs a
   refine Fb rfl ?_;intros
   refine EE rfl (AJ rfl rfl (SC rfl rfl rfl rfl (λ j=>?_) λ j=>?_))
   ·
    replace a:=ip a j
    refine AJ rfl rfl (AW rfl rfl rfl (AW rfl rfl rfl (AW rfl rfl rfl (AW rfl rfl rfl (AW rfl rfl rfl (AW rfl rfl rfl (AC (AF (i:=18) rfl (q_S [] ?_)))))))));intros
    refine AA rfl rfl (Bv [] ?_)
    refine AH (fuel:=0) [] (AX [19,20]) rfl (AW rfl rfl rfl (CL rfl rfl rfl (AC (Ba ?_))))
    obtain rfl:=sm a
    exact BA ()
   replace a:=im a j
   refine AJ rfl rfl (Az rfl (Aw rfl rfl (BM rfl (Az rfl (Aw rfl rfl (Ke (Az rfl (Aw rfl rfl (Ce rfl (Az rfl (Aw rfl rfl ?_)))))))))))
   obtain ⟨z0,a1,a⟩:=bs a
   refine YW ?_;intros
   refine Az rfl (Aw rfl rfl (PR (Az rfl (Aw rfl rfl (Ce rfl (AC (AF (i:=18) rfl ?_)))))))
   refine q_S [] ?_;intros
   refine AB rfl rfl ?_
   obtain ⟨s,q0,a⟩:=bs a
   refine DO rfl (FP (λ _ E=>E) zA zI q0) ?_;intros
   cases s
   case false =>
    replace a:=iF a
    refine Bv [] ?_
    refine AH (fuel:=0) [] (AX [19,20]) rfl (Az rfl (Aw rfl rfl (Mr rfl (CE rfl rfl rfl (AC (Ba ?_))))))
    obtain rfl:=sm a
    exact BA ()
   replace a:=iT a
   refine Bv [] ?_
   refine AH (fuel:=0) [] (AX [19,20]) rfl (Az rfl (Aw rfl rfl (Mq rfl (CE rfl rfl rfl (AC (Ba ?_))))))
   obtain rfl:=sm a
   exact BA ()
  intro h _ _ _ _ c0;intros
  refine BY ?_
  refine BP rfl (λ l=>?_) (λ l=>?_)
  ·
   replace c0:=ip c0 l
   refine Am (Ah (Au rfl (o_z (AM ?_))))
   obtain rfl:=sm c0
   obtain rfl:=q _ rfl
   exact Cl
  replace c0:=im' c0 l
  refine AN ?_
  exact DF () c0
 intro D _ _ _ _ hm;intros
 refine BY ?_
 refine Am (Ah (Au rfl (o_z (AM ?_))))
 obtain rfl:=sm hm
 exact Cl
end
noncomputable def DG (j:Swp) (k:List Int):Option (List Int) :=
  bnd (mkI 8 (0:Int) (k.length:Int)) λ e=>bnd (rng (ρ:=(List Int)) (λ (b:Nat) (f:Int) (c:(List Int))=>bnd (j.vars[b]?) λ d=>bnd (j.vals[b]?) λ g=>bnd (atI g f) λ h=>bnd (atI c d) λ l=>some (.next (c.set (d:Int).toNat h))) k 0 e) λ a=>fin a λ (i:(List Int))=>some i
section
attribute [local irreducible] Vb Lc Rw Ob
theorem Mx {w:World} {A:Nat->Prop} (hA:∀ k,A k->k < w.heap.size) {b:Value} {d:Swp} (f:Vb w A b d) {c:Value} {e:List Int} (g:Vb w A c e) {r:(List Int)} (hm:DG d e=some r) :
    Fn prog 84 [b,c] w λ v w'=>Ext w w'/\Vb w' (upA A w w') v r:=by
 obtain ⟨_,_,_⟩:=CW hA
 apply Cj f;intros
 apply Cj g;intros
 refine AK func84 rfl ntmps84 ?_
 unfold DG at hm
 refine Am (Ah (Dt 2 ?_));intros
 refine Au rfl (o_z (Am (Ah (At rfl (AU rfl ?_)))))
 obtain ⟨h,f0,hm⟩:=bs hm
 refine Fj 3 f0 ?_;intros
 refine Au rfl (o_z (Am (Am (Ah (At rfl (AU rfl (At rfl (o_z (DT (X:=Unit) hm [2,5,11] [] [3] [3] (λ _ _ _ _ t=>t) (λ _ o c0 _ t=>uR (o 3) 3 c0 :: t) () ?_ ?_)))))))))
 ·
  intro j l c0 _ _ _ _ a m _ n;intros
  refine Am (Ah (At rfl (Ep ?_)));intros
  refine EZ (Au rfl (Au rfl (o_z ?_)))
  refine Hj [] ?_
  refine AH (fuel:=1) [] (AX (CR 0 15)) rfl (AJ rfl rfl (AL rfl rfl (Cp rfl (AJ rfl rfl ?_))))
  obtain ⟨p,l0,a⟩:=bs a
  refine HU rfl ?_;intros
  refine EE rfl (AL rfl rfl ?_)
  refine Cp rfl (AJ rfl rfl ?_)
  obtain ⟨q,n0,a⟩:=bs a
  refine HU rfl ?_;intros
  refine EE rfl (AJ rfl rfl ?_)
  obtain ⟨s,p0,a⟩:=bs a
  refine Fb rfl ?_;intros
  refine EE rfl ?_
  obtain ⟨u,r0,a⟩:=bs a
  refine Fb rfl ?_;intros
  refine AC (AF (i:=15) rfl (GU ?_));intros
  refine Bz (Ba ?_)
  exact DF () a
 intro x _ _ _ _ hm;intros
 refine BY ?_
 refine Am (Ah (At rfl (Au rfl (o_z (AM (Fv 3 ?_))))));intros
 obtain rfl:=sm hm
 exact Cl
end
noncomputable def Et (a:Eff) (b:Eff):Option Bool :=
  bnd (if a.var=b.var then (if a.val=b.val then (bnd (BI a.cond b.cond) λ c=>if c=true then some true else some false) else (some false)) else (some false):Option Bool) λ d=>some d
section
attribute [local irreducible] Vb Lc Rw Ob
theorem KM {w:World} {A:Nat->Prop} (hA:∀ k,A k->k < w.heap.size) {b:Value} {f:Eff} (h:Vb w A b f) {c:Value} {g:Eff} (i:Vb w A c g) {r:Bool} (hm:Et f g=some r) :
    Fn prog 94 [b,c] w λ v w'=>Ext w w'/\Vb w' (upA A w w') v r:=by
 obtain ⟨_,_,_⟩:=CW hA
 apply Cj h;intros
 apply Cj i;intros
 refine AK func94 rfl ntmps94 ?_
 unfold Et at hm
 refine Am (Ah (Dt 2 ?_));intros
 refine Dt 3 ?_;intros
 refine Au rfl (o_z (Am (DE (X:=Unit) hm [] [] [] [] (λ _ _ d _ t=>(4,.bool d) :: t) (λ _ _ _ _ t=>t) ?_ ?_)))
 ·
  intro d a
  refine Ah (AO rfl (CF (AO rfl ?_)))
  refine CF (FD rfl rfl (λ c0=>?_) λ c0=>?_)
  ·
   replace a:=ip a c0
   refine At rfl (AB rfl rfl (AO rfl (AB rfl rfl (CF (AB rfl rfl (AO rfl (AB rfl rfl ?_)))))))
   refine CF (AB rfl rfl (FD rfl rfl (λ e=>?_) λ e=>?_))
   ·
    replace a:=ip a e
    refine BJ rfl rfl (At rfl (AB rfl rfl (AO rfl (AB rfl rfl (CF (AB rfl rfl (AO rfl (AB rfl rfl ?_))))))))
    refine CF (AB rfl rfl ?_)
    obtain ⟨j,h0,a⟩:=bs a
    refine DO rfl (Dg (λ _ l=>l) zA zA h0) ?_;intros
    cases j
    case false =>
     replace a:=iF a
     refine BJ rfl rfl (Au rfl (o_z ?_))
     obtain rfl:=sm a
     exact BA ()
    replace a:=iT a
    refine BJ rfl rfl (Au rfl (o_z ?_))
    obtain rfl:=sm a
    exact BA ()
   replace a:=im a e
   refine BJ rfl rfl (At rfl (AA rfl rfl (AA rfl rfl (AA rfl rfl (AA rfl rfl (AA rfl rfl (BK rfl rfl (Au rfl (o_z ?_)))))))))
   obtain rfl:=sm a
   exact BA ()
  replace a:=im a c0
  refine At rfl (AA rfl rfl (AA rfl rfl (AA rfl rfl (AA rfl rfl (AA rfl rfl (BK rfl rfl (At rfl (AA rfl rfl (AA rfl rfl (AA rfl rfl (AA rfl rfl (AA rfl rfl (BK rfl rfl (Au rfl ?_))))))))))))))
  refine o_z ?_
  obtain rfl:=sm a
  exact BA ()
 intro d _ _ _ _ hm;intros
 refine BY ?_
 refine AM ?_
 obtain rfl:=sm hm
 exact Cl
end
noncomputable def Bb (f:List Eff) (g:List Eff):Option Bool :=
  if (f.length:Int)≠(g.length:Int) then (some false) else (bnd (rng (ρ:=Bool) (λ (b:Nat) (c:Eff) (h:Unit)=>bnd (g[b]?) λ d=>bnd (Et c d) λ e=>if e=true then some (.next ()) else some (.ret false)) f 0 ()) λ a=>fin a λ (i:Unit)=>some true)
section
attribute [local irreducible] Vb Lc Rw Ob
theorem Df {w:World} {A:Nat->Prop} (hA:∀ k,A k->k < w.heap.size) {b:Value} {d:List Eff} (f:Vb w A b d) {c:Value} {e:List Eff} (g:Vb w A c e) {r:Bool} (hm:Bb d e=some r) :
    Fn prog 93 [b,c,(.func (.func 94) #[] #[])] w λ v w'=>Ext w w'/\Vb w' (upA A w w') v r:=by
 obtain ⟨_,_,_⟩:=CW hA
 apply Cj f;intros
 apply Cj g;intros
 refine AK func93 rfl ntmps93 ?_
 unfold Bb at hm
 refine Am (Ah (Au rfl (o_z (Am (Am (Ah (At rfl (AU rfl (At rfl (AU rfl (JZ rfl rfl (λ c0=>?_) λ c0=>?_)))))))))))
 ·
  replace hm:=ip hm c0
  refine o_z (Aj rfl (Am (Ah (Au rfl (o_z (AM ?_))))))
  obtain rfl:=sm hm
  exact Cl
 replace hm:=im hm c0
 refine o_z (Ae rfl (AN (Am (Am (Ah (At rfl (AU rfl (At rfl (o_z (DT (X:=Unit) hm [1,2,15] [] [2,3] [] (λ _ _ _ _ t=>t) (λ _ _ _ _ t=>t) () ?_ ?_))))))))))
 ·
  intro j l m _ _ _ _ a n _ h;intros
  refine Am (Ah (At rfl (Ep ?_)));intros
  refine Jh ?_
  refine Ck 2 ?_;intros
  refine Au rfl (BN ?_);intros
  refine o_z (Am (Ah (At rfl (At rfl ?_))))
  obtain ⟨l0,m0,a⟩:=bs a
  refine Ep ?_;intros
  refine Jh ?_
  refine Ck 3 ?_;intros
  refine BN ?_;intros
  refine o_z (Am (Ah (At rfl (EY ?_))))
  refine EY ?_
  obtain ⟨i,h0,a⟩:=bs a
  refine Zq rfl rfl (KM (λ _ o=>o) zA zA h0) ?_;intros
  cases i
  case false =>
   replace a:=iF a
   refine DB rfl (o_z (Aj rfl (Am (Ah (Au rfl (o_z (AM ?_)))))))
   obtain rfl:=sm a
   obtain rfl:=h _ rfl
   exact Cl
  replace a:=iT a
  refine DA rfl (o_z (Ae rfl (AN ?_)))
  exact DF () a
 intro n0 _ _ _ _ hm;intros
 refine BY ?_
 refine Am (Ah (Au rfl (o_z (AM ?_))))
 obtain rfl:=sm hm
 exact Cl
end
noncomputable def Do (a:Opr) (b:Opr):Option Bool :=
  bnd (if a.cost=b.cost then (bnd (BI a.pre b.pre) λ c=>if c=true then bnd (Bb a.effs b.effs) λ d=>if d=true then some true else some false else some false) else (some false):Option Bool) λ e=>some e
section
attribute [local irreducible] Vb Lc Rw Ob
theorem IS {w:World} {A:Nat->Prop} (hA:∀ k,A k->k < w.heap.size) {b:Value} {e:Opr} (g:Vb w A b e) {c:Value} {f:Opr} (h:Vb w A c f) {r:Bool} (hm:Do e f=some r) :
    Fn prog 66 [b,c] w λ v w'=>Ext w w'/\Vb w' (upA A w w') v r:=by
 obtain ⟨_,_,_⟩:=CW hA
 apply Cj g;intros
 apply Cj h;intros
 refine AK func66 rfl ntmps66 ?_
 unfold Do at hm
 refine Am (Ah (Dt 2 ?_));intros
 refine Dt 3 ?_;intros
 refine Au rfl (o_z (Am (DE (X:=Unit) hm [] [] [] [] (λ _ _ d _ t=>(4,.bool d) :: t) (λ _ _ _ _ t=>t) ?_ ?_)))
 ·
  intro d a
  refine Ah (AO rfl (CF (AO rfl ?_)))
  refine CF (FD rfl rfl (λ c0=>?_) λ c0=>?_)
  ·
   replace a:=ip a c0
   refine At rfl (AB rfl rfl (AO rfl (AB rfl rfl (CF (AB rfl rfl (AO rfl (AB rfl rfl ?_)))))))
   refine CF (AB rfl rfl ?_)
   obtain ⟨i,g0,a⟩:=bs a
   refine DO rfl (Dg (λ _ l=>l) zA zA g0) ?_;intros
   cases i
   case false =>
    replace a:=iF a
    refine BJ rfl rfl (At rfl (AA rfl rfl (AA rfl rfl (AA rfl rfl (AA rfl rfl (AA rfl rfl (BK rfl rfl (Au rfl (o_z ?_)))))))))
    obtain rfl:=sm a
    exact BA ()
   replace a:=iT a
   refine BJ rfl rfl (At rfl (AB rfl rfl (AO rfl (AB rfl rfl (CF (AB rfl rfl (AO rfl (AB rfl rfl ?_))))))))
   refine CF (AB rfl rfl ?_)
   obtain ⟨j,i0,a⟩:=bs a
   refine DO rfl (Df (λ _ l=>l) zA zA i0) ?_;intros
   cases j
   case false =>
    replace a:=iF a
    refine BJ rfl rfl (Au rfl (o_z ?_))
    obtain rfl:=sm a
    exact BA ()
   replace a:=iT a
   refine BJ rfl rfl (Au rfl (o_z ?_))
   obtain rfl:=sm a
   exact BA ()
  replace a:=im a c0
  refine At rfl (AA rfl rfl (AA rfl rfl (AA rfl rfl (AA rfl rfl (AA rfl rfl (BK rfl rfl (At rfl (AA rfl rfl (AA rfl rfl (AA rfl rfl (AA rfl rfl (AA rfl rfl (BK rfl rfl (Au rfl ?_))))))))))))))
  refine o_z ?_
  obtain rfl:=sm a
  exact BA ()
 intro d _ _ _ _ hm;intros
 refine BY ?_
 refine AM ?_
 obtain rfl:=sm hm
 exact Cl
end
noncomputable def Ej (f:Int):Option (List Int) :=
  bnd (mkI 8 (0:Int) f) λ e=>bnd (ZA (ρ:=(List Int)) (λ (a:Nat) (c:(List Int))=>bnd (c[a]?) λ g=>some (.next (c.set a (a:Int)))) e.length e) λ b=>fin b λ (d:(List Int))=>some d
section
attribute [local irreducible] Vb Lc Rw Ob
theorem EK {w:World} {A:Nat->Prop} (hA:∀ k,A k->k < w.heap.size) {a:Int} (c:P9 a) {r:(List Int)} (hm:Ej a=some r) :
    Fn prog 87 [(.int .i64 a)] w λ v w'=>Ext w w'/\Vb w' (upA A w w') v r:=by
 obtain ⟨_,_,_⟩:=CW hA
 refine AK func87 rfl ntmps87 ?_
 unfold Ej at hm
 refine Am (Ah (Au rfl (o_z (Am (Ah (At rfl ?_))))))
 obtain ⟨d,e3,hm⟩:=bs hm
 refine Fj 2 e3 ?_;intros
 refine Au rfl (o_z (Am (Am (Ah (At rfl (AU rfl (At rfl (o_z (Tz (X:=Unit) hm [3] [] [2] [2] (λ _ _ _ _ t=>t) (λ _ o c0 _ t=>uR (o 2) 2 c0 :: t) () ?_ ?_)))))))))
 ·
  intro e c0 _ _ _ _ b _ _ f;intros
  refine Am (Ah (At rfl (Au rfl (o_z (Ah (At rfl (At rfl (At rfl ?_))))))))
  obtain ⟨g,f0,b⟩:=bs b
  refine Ep ?_;intros
  refine GU ?_;intros
  refine o_z ?_
  exact DF () b
 intro h _ _ _ _ hm;intros
 refine BY ?_
 refine Am (Ah (At rfl (Au rfl (o_z (AM (Fv 2 ?_))))));intros
 obtain rfl:=sm hm
 exact Cl
end
noncomputable def DX (g:List Int) (h:List Int):Option (List Int) :=
  bnd (mkI 8 (0:Int) (g.length:Int)) λ i=>bnd (rng (ρ:=(List Int)) (λ (b:Nat) (d:Int) (c:(List Int))=>bnd (atI h d) λ e=>bnd (c[b]?) λ j=>some (.next (c.set b e))) g 0 i) λ a=>fin a λ (f:(List Int))=>some f
section
attribute [local irreducible] Vb Lc Rw Ob
theorem Ey {w:World} {A:Nat->Prop} (hA:∀ k,A k->k < w.heap.size) {a:Value} {d:List Int} (f:Vb w A a d) {b:Value} {e:List Int} (g:Vb w A b e) {r:(List Int)} (hm:DX d e=some r) :
    Fn prog 89 [a,b] w λ v w'=>Ext w w'/\Vb w' (upA A w w') v r:=by
 obtain ⟨_,_,_⟩:=CW hA
 apply Cj f;intros
 apply Cj g;intros
 refine AK func89 rfl ntmps89 ?_
 unfold DX at hm
 refine Am (Ah (Au rfl (o_z (Am (Ah (At rfl (AU rfl ?_)))))))
 obtain ⟨h,f0,hm⟩:=bs hm
 refine Fj 2 f0 ?_;intros
 refine Au rfl (o_z (Am (Am (Ah (At rfl (AU rfl (At rfl (o_z (DT (X:=Unit) hm [1,5,11] [] [2] [2] (λ _ _ _ _ t=>t) (λ _ o c0 _ t=>uR (o 2) 2 c0 :: t) () ?_ ?_)))))))))
 ·
  intro i j c0 _ _ _ _ c l _ m;intros
  refine Am (Ah (At rfl (Ep ?_)));intros
  refine EZ (Au rfl (Au rfl (o_z (Ah (At rfl (At rfl (At rfl (At rfl ?_))))))))
  obtain ⟨n,k0,c⟩:=bs c
  refine Jw ?_;intros
  refine EZ ?_
  obtain ⟨l0,m0,c⟩:=bs c
  refine Ep ?_;intros
  refine GU ?_;intros
  refine o_z ?_
  exact DF () c
 intro n0 _ _ _ _ hm;intros
 refine BY ?_
 refine Am (Ah (At rfl (Au rfl (o_z (AM (Fv 2 ?_))))));intros
 obtain rfl:=sm hm
 exact Cl
end
noncomputable def Dh (f:List Int):Option (List Int) :=
  bnd (mkI 8 (0:Int) (f.length:Int)) λ g=>bnd (rng (ρ:=(List Int)) (λ (d:Nat) (b:Int) (c:(List Int))=>bnd (atI c b) λ h=>some (.next (c.set (b:Int).toNat (d:Int)))) f 0 g) λ a=>fin a λ (e:(List Int))=>some e
section
attribute [local irreducible] Vb Lc Rw Ob
theorem BR {w:World} {A:Nat->Prop} (hA:∀ k,A k->k < w.heap.size) {a:Value} {c:List Int} (d:Vb w A a c) {r:(List Int)} (hm:Dh c=some r) :
    Fn prog 88 [a] w λ v w'=>Ext w w'/\Vb w' (upA A w w') v r:=by
 obtain ⟨_,_,_⟩:=CW hA
 apply Cj d;intros
 refine AK func88 rfl ntmps88 ?_
 unfold Dh at hm
 refine Am (Ah (Au rfl (o_z (Am (Ah (At rfl (AU rfl ?_)))))))
 obtain ⟨e,e6,hm⟩:=bs hm
 refine Fj 2 e6 ?_;intros
 refine Au rfl (o_z (Am (Am (Ah (At rfl (AU rfl (At rfl (o_z (DT (X:=Unit) hm [3,9] [] [2] [2] (λ _ _ _ _ t=>t) (λ _ o c0 _ t=>uR (o 2) 2 c0 :: t) () ?_ ?_)))))))))
 ·
  intro f g c0 _ _ _ _ b h _ i;intros
  refine Am (Ah (At rfl (Ep ?_)));intros
  refine EZ (Au rfl (Au rfl (o_z (Ah (At rfl (At rfl (At rfl ?_)))))))
  obtain ⟨j,i0,b⟩:=bs b
  refine Jw ?_;intros
  refine GU ?_;intros
  refine o_z ?_
  exact DF () b
 intro l _ _ _ _ hm;intros
 refine BY ?_
 refine Am (Ah (At rfl (Au rfl (o_z (AM (Fv 2 ?_))))));intros
 obtain rfl:=sm hm
 exact Cl
end
end
section
open Go Go.RowKit
attribute [local irreducible] ewp owp hwp hwq hws Ev Evg Fn Q4 R7 R2 Q9
structure Fnd where
  t:Tsk
  list:List Fct
  signs:List (List ByteArray)
  x:Swp
  taken:List (List Bool)
  vars:List Bool
  steps:Int
  most:Int
  full:Bool
instance:Ow Fnd where
  R w F M v x:=∃ (g:Nat) (o:Lab) (c0 b c d e f h i j l a:Value),v=.pointer (some ⟨g,0,none⟩)/\Blk w g 59 [c0,b,c,d,e,f,h,i,j,l,a,.int .i64 x.steps,.int .i64 x.most,.bool x.full]/\M g/\o g=0/\Vb w F c0 x.t.vars/\Vb w F b x.t.init/\Vb w F c x.t.goal/\Vb w F d x.t.ops/\Vb w F e x.list/\NRm ByteArray w F (λ k=>M k/\o k=1) 96 9 f x.signs/\RwM w F (λ k=>M k/\o k=2) 3 h x.x.vars/\NRm Int w F (λ k=>M k/\o k=3) 22 3 i x.x.vals/\Vb w F j x.x.ops/\NRm Bool w F (λ k=>M k/\o k=4) 57 4 l x.taken/\RwM w F (λ k=>M k/\o k=5) 4 a x.vars/\P9 x.steps/\P9 x.most
  agree:=by rintro w w' F M v x ⟨g,o,c0,b,c,d,e,f,h,i,j,l,a,rfl,hb,hM,hL,h0,h1,h2,h3,h4,h5,h6,h7,h8,h9,h10,h11,h12⟩ a1 a2;exact ⟨g,o,c0,b,c,d,e,f,h,i,j,l,a,rfl,hb.keep (a2 g hM),hM,hL,h0.agree a1,h1.agree a1,h2.agree a1,h3.agree a1,h4.agree a1,h5.agree a1 λ k hk=>a2 k hk.1,h6.agree a1 λ k hk=>a2 k hk.1,h7.agree a1 λ k hk=>a2 k hk.1,h8.agree a1,h9.agree a1 λ k hk=>a2 k hk.1,h10.agree a1 λ k hk=>a2 k hk.1,h11,h12⟩
  mono:=by rintro w F M m n v x ⟨g,o,c0,b,c,d,e,f,h,i,j,l,a,rfl,hb,hM,hL,h0,h1,h2,h3,h4,h5,h6,h7,h8,h9,h10,h11,h12⟩ a1 a2 a3;exact ⟨g,o,c0,b,c,d,e,f,h,i,j,l,a,rfl,hb,a2 g hM,hL,h0.mono a1,h1.mono a1,h2.mono a1,h3.mono a1,h4.mono a1,h5.mono a1 (λ k hk=>⟨a2 k hk.1,hk.2⟩) λ k hf hm=>a3 k hf hm.1,h6.mono a1 (λ k hk=>⟨a2 k hk.1,hk.2⟩) λ k hf hm=>a3 k hf hm.1,h7.mono a1 (λ k hk=>⟨a2 k hk.1,hk.2⟩) λ k hf hm=>a3 k hf hm.1,h8.mono a1,h9.mono a1 (λ k hk=>⟨a2 k hk.1,hk.2⟩) λ k hf hm=>a3 k hf hm.1,h10.mono a1 (λ k hk=>⟨a2 k hk.1,hk.2⟩) λ k hf hm=>a3 k hf hm.1,h11,h12⟩
instance:OwP Fnd:=⟨by rintro w F M v x ⟨g,L,c0,c1,c2,c3,c4,c5,c6,c7,c8,c9,c10,rfl,_⟩;exact ⟨g,rfl⟩⟩
theorem Fnd.kp {T:Nat->Prop} {i:Nat} {w w':World} {O a:Lab} {p q:Nat} {x:Fnd} {u:Value} (c:Ob i w O (.pointer (some ⟨p,0,none⟩)) x) (b:St T w O w' a) (hi:¬ T i) (hc:w.cell? ⟨p,q,none⟩=some u):w'.cell? ⟨p,q,none⟩=some u:=by
  obtain ⟨⟨g,L,c0,c1,c2,c3,c4,c5,c6,c7,c8,c9,c10,hv,hb,hM,_⟩,_⟩:=c
  obtain rfl:p=g:=by injection hv with hv;injection hv with hv;injection hv
  have e:=(b.same p hM.1 (by rw [hM.2];exact hi)).1
  rw [<- hc];unfold World.cell?;rw [e]
theorem Fnd.kq {ls:List Nat} {i:Nat} {w:World} {O:Lab} {p q:Nat} {x:Fnd} {u:Value} (a:Ob i w O (.pointer (some ⟨p,0,none⟩)) x) (hc:w.cell? ⟨p,q,none⟩=some u) (hi:¬ i∈ls:=by decide):∀ w',SS w O ls w'->w'.cell? ⟨p,q,none⟩=some u:=λ _ ⟨_,hq⟩=>Fnd.kp a hq hi hc
theorem Fnd.pk_list {i:Nat} {w:World} {O:Lab} {p:Nat} {x:Fnd} (a:Ob i w O (.pointer (some ⟨p,0,none⟩)) x):∃ A c,w.cell? ⟨p,4,none⟩=some (.slice A x.list.length c)/\Vb w (Fr 0 w O) (.slice A x.list.length c) x.list:=by
  obtain ⟨⟨g,L,c0,c1,c2,c3,c4,c5,c6,c7,c8,c9,c10,hv,hb,hM,hL,h0,h1,h2,h3,h4,h5,h6,h7,h8,h9,h10,h11,h12⟩,_⟩:=a
  obtain rfl:p=g:=by injection hv with hv;injection hv with hv;injection hv
  obtain ⟨A,c,e⟩:=h4.form
  exact ⟨A,c,by rw [<- e];exact hb.cell (i:=4) rfl,by rw [<- e];exact h4⟩
theorem Fnd.opn {i:Nat} {w:World} {O:Lab} {p:Nat} {x:Fnd} (y:Ob i w O (.pointer (some ⟨p,0,none⟩)) x) (l0 l1 c d e f:Nat) (hl:l0≠0/\l1≠0/\c≠0/\d≠0/\e≠0/\f≠0):∃ (a:Lab) (c0 h l m n o r s u v b:Value),St (eT i) w O w a/\(∀ k,Fr i w O k->∃ q,q∈[l0,l1,c,d,e,f]/\Fr q w a k)/\Lc l0 w a p 59 [c0,h,l,m,n,o,r,s,u,v,b,.int .i64 x.steps,.int .i64 x.most,.bool x.full]/\Vb w (Fr 0 w a) c0 x.t.vars/\Vb w (Fr 0 w a) h x.t.init/\Vb w (Fr 0 w a) l x.t.goal/\Vb w (Fr 0 w a) m x.t.ops/\Vb w (Fr 0 w a) n x.list/\NR ByteArray l1 w a 96 9 o x.signs none/\Rw c w a 3 r x.x.vars/\NR Int d w a 22 3 s x.x.vals none/\Vb w (Fr 0 w a) u x.x.ops/\NR Bool e w a 57 4 v x.taken none/\Rw f w a 4 b x.vars/\P9 x.steps/\P9 x.most:=by
  obtain ⟨⟨g,L,c0,h,l,m,n,o,r,s,u,v,b,hv,hb,hM,hL,h0,h1,h2,h3,h4,h5,h6,h7,h8,h9,h10,h11,h12⟩,hi⟩:=y
  obtain rfl:p=g:=by injection hv with hv;injection hv with hv;injection hv
  exact ⟨part O i L [l0,l1,c,d,e,f],c0,h,l,m,n,o,r,s,u,v,b,JH hi,IO (by simp),⟨hb,(Em (j:=0) rfl p ⟨hM,hL⟩).2⟩,h0.mono (CQ hi),h1.mono (CQ hi),h2.mono (CQ hi),h3.mono (CQ hi),h4.mono (CQ hi),h5.nr (CQ hi) (Em (j:=1) rfl) hl.2.1,h6.rw (CQ hi) (Em (j:=2) rfl) hl.2.2.1,h7.nr (CQ hi) (Em (j:=3) rfl) hl.2.2.2.1,h8.mono (CQ hi),h9.nr (CQ hi) (Em (j:=4) rfl) hl.2.2.2.2.1,h10.rw (CQ hi) (Em (j:=5) rfl) hl.2.2.2.2.2,h11,h12⟩
theorem Fnd.shut {w:World} {O:Lab} {p:Nat} {x:Fnd} {l0 l1 c d f g:Nat} {c0 n o r s u v y z A j:Value} (hd:¬ 0∈[l0,l1,c,d,f,g]/\[l0,l1,c,d,f,g].idxOf l0=0/\[l0,l1,c,d,f,g].idxOf l1=1/\[l0,l1,c,d,f,g].idxOf c=2/\[l0,l1,c,d,f,g].idxOf d=3/\[l0,l1,c,d,f,g].idxOf f=4/\[l0,l1,c,d,f,g].idxOf g=5) (hb:Lc l0 w O p 59 [c0,n,o,r,s,u,v,y,z,A,j,.int .i64 x.steps,.int .i64 x.most,.bool x.full]) (F:Vb w (Fr 0 w O) c0 x.t.vars) (G:Vb w (Fr 0 w O) n x.t.init) (H:Vb w (Fr 0 w O) o x.t.goal) (I:Vb w (Fr 0 w O) r x.t.ops) (J:Vb w (Fr 0 w O) s x.list) (K:NR ByteArray l1 w O 96 9 u x.signs none) (L:Rw c w O 3 v x.x.vars) (M:NR Int d w O 22 3 y x.x.vals none) (N:Vb w (Fr 0 w O) z x.x.ops) (P:NR Bool f w O 57 4 A x.taken none) (B:Rw g w O 4 j x.vars) (C:P9 x.steps) (D:P9 x.most):∃ l,St (·∈[l0,l1,c,d,f,g]) w O w l/\(∀ k,Fr 0 w O k->Fr 0 w l k)/\(∀ q,q∈[l0,l1,c,d,f,g]->∀ k,Fr q w O k->Fr l0 w l k)/\Ob l0 w l (.pointer (some ⟨p,0,none⟩)) x:=by
  have h:l0≠0:=λ e=>hd.1 (by simp [e])
  have E:=DN (i:=l0) hd.2.1 (by simp) p ⟨hb.1.lt,hb.2⟩
  exact ⟨X2 O l0 [l0,l1,c,d,f,g],IP,BX hd.1,Id,⟨p,λ k=>[l0,l1,c,d,f,g].idxOf (O k),c0,n,o,r,s,u,v,y,z,A,j,rfl,hb.1,E.1,E.2,F.mono (BX hd.1),G.mono (BX hd.1),H.mono (BX hd.1),I.mono (BX hd.1),J.mono (BX hd.1),K.m (BX hd.1) (DN hd.2.2.1 (by simp)) (λ k a b=>S4 h k a b.1),L.m (BX hd.1) (DN hd.2.2.2.1 (by simp)) (λ k a b=>S4 h k a b.1),M.m (BX hd.1) (DN hd.2.2.2.2.1 (by simp)) (λ k a b=>S4 h k a b.1),N.mono (BX hd.1),P.m (BX hd.1) (DN hd.2.2.2.2.2.1 (by simp)) (λ k a b=>S4 h k a b.1),B.m (BX hd.1) (DN hd.2.2.2.2.2.2 (by simp)) (λ k a b=>S4 h k a b.1),C,D⟩,h⟩
noncomputable def CG (a:Fnd) (d:Fct) (b:Fct):Option (Bool×Fnd) :=
  bnd (atI a.x.vals d.var) λ e=>bnd (atI e d.val) λ j=>bnd (atI a.taken b.var) λ c=>bnd (atI c b.val) λ g=>bnd (atI a.x.vars d.var) λ f=>if 0<=f then (some (false,(⟨(⟨a.t.vars,a.t.init,a.t.goal,a.t.ops⟩:Tsk),a.list,a.signs,(⟨a.x.vars,(a.x.vals.set (d.var:Int).toNat (e.set (d.val:Int).toNat b.val)),a.x.ops⟩:Swp),(a.taken.set (b.var:Int).toNat (c.set (b.val:Int).toNat true)),a.vars,a.steps,a.most,a.full⟩:Fnd))) else (bnd (atI a.x.vars d.var) λ h=>bnd (atI a.vars b.var) λ i=>some (true,(⟨(⟨a.t.vars,a.t.init,a.t.goal,a.t.ops⟩:Tsk),a.list,a.signs,(⟨(a.x.vars.set (d.var:Int).toNat b.var),(a.x.vals.set (d.var:Int).toNat (e.set (d.val:Int).toNat b.val)),a.x.ops⟩:Swp),(a.taken.set (b.var:Int).toNat (c.set (b.val:Int).toNat true)),(a.vars.set (b.var:Int).toNat true),a.steps,a.most,a.full⟩:Fnd)))
theorem Gy {w:World} {O:Lab} {p0 i0:Nat} {x0:Fnd} (s0:Ob i0 w O (.pointer (some ⟨p0,0,none⟩)) x0) {vx1:Value} {x1:Fct} (f2:Vb w (Fr 0 w O) vx1 x1) {vx2:Value} {x2:Fct} (g2:Vb w (Fr 0 w O) vx2 x2) {r:Bool×Fnd} (hm:CG x0 x1 x2=some r) :
    Fn prog 36 [(.pointer (some ⟨p0,0,none⟩)),vx1,vx2] w λ v w'=>∃ O',St (eT i0) w O w' O'/\Ob i0 w' O' (.pointer (some ⟨p0,0,none⟩)) r.2/\Vb w' (Fr 0 w' O') v r.1:=by
 obtain ⟨O0,hE,h2,a4⟩:=V0 (w:=w) (O:=O) s0.2
 have s0':=Ob.leave s0 h2 a4 (j:=2) (by decide)
 have hB:Bm w O0 w O0:=Bm.refl
 replace f2:=f2.mono h2
 obtain ⟨k5,rfl,rfl,r5,r6⟩:=id f2
 replace g2:=g2.mono h2
 obtain ⟨l5,rfl,rfl,r8,r9⟩:=id g2
 refine AK func36 rfl ntmps36 ?_
 unfold CG at hm
 refine Am (Ah (Ft 3 O0 rfl λ m5 n5 b4 i2 t0=>?_))
 refine Ft 4 b4 rfl λ o5 g3 p5 d2 n0=>?_
 refine Au rfl (o_z (Am ?_))
 replace s0':=(s0'.st i2).st d2
 obtain ⟨h3,q5,s5,t5,u5,v5,w5,x5,y5,z5,a6,b6,e2,c4,j0,a1,b1,c1,d1,e1,f1,o0,n1,g1,h1,q0,i3,j3⟩:=Fnd.opn s0' 2 5 6 7 8 9 (by decide)
 obtain ⟨c6,d6,rfl⟩:=a1.form
 obtain ⟨e6,f6,rfl⟩:=b1.form
 obtain ⟨g6,h6,rfl⟩:=c1.form
 obtain ⟨i6,j6,rfl⟩:=d1.form
 obtain ⟨k6,l6,rfl⟩:=e1.form
 obtain ⟨m6,n6,rfl⟩:=f1.form
 obtain ⟨o6,p6,rfl⟩:=o0.form
 obtain ⟨d4,e4,rfl⟩:=n1.form
 obtain ⟨q6,s6,rfl⟩:=g1.form
 obtain ⟨f4,g4,rfl⟩:=h1.form
 obtain ⟨t6,u6,rfl⟩:=q0.form
 refine Bl [] h3 ?_
 refine AH (fuel:=1) [] (AX (CR 0 14)) rfl (AJ rfl rfl (BG rfl rfl (AL rfl rfl (AL rfl rfl (AZ (hc:=Bn j0 7 rfl) rfl rfl (AL rfl rfl ?_))))))
 replace t0:=(t0.st d2).st e2
 refine AZ (hc:=Bn t0 0 rfl) rfl rfl ?_
 obtain ⟨u0,h4,hm⟩:=bs hm
 obtain ⟨i4,j2⟩:=Br h4
 obtain ⟨v6,w6,r0,k2⟩:=n1.at j2
 refine BT (hA:=r0) (hj:=i4) (hlt:=k2) rfl rfl rfl ?_
 obtain ⟨j4,k4,o1,l2⟩:=NR.peek n1 r0 j2
 replace l2:Vb g3 (FrS [7] g3 h3) (.slice j4 u0.length k4) u0:=l2
 refine AZ (hc:=λ w' ⟨O',hq⟩=>NR.stay n1 r0 hq (by decide) o1) rfl rfl ?_
 refine AL rfl rfl (AZ (hc:=Bn t0 1 rfl) rfl rfl (AL rfl rfl ?_))
 replace n0:=n0.st e2
 refine AZ (hc:=Bn n0 1 rfl) rfl rfl ?_
 obtain ⟨l4,m4,hm⟩:=bs hm
 obtain ⟨n4,k3⟩:=Br m4
 obtain ⟨x6,y6,o4,p1,l3,m2,p4,rfl,q4⟩:=l2.elem k3
 refine BT (hA:=p1) (hj:=n4) (hlt:=m2) rfl rfl rfl (AC (AF (i:=14) rfl ?_))
 refine JJ (off:=0) (a:=u0) (f:=l4) (f':=x2.val) n1 r0 j2 o1 p1 k3 rfl rfl rfl (E9 rfl) (allOne) (by rintro w' O' ce ⟨rfl,_⟩;exact ⟨rfl,r9⟩) λ i1 j1 d0 e0=>?_
 replace e0:NR Int 7 i1 j1 22 3 (.slice d4 x0.x.vals.length e4) (x0.x.vals.set (x1.var:Int).toNat (u0.set (x1.val:Int).toNat x2.val)) none:=e0
 refine Bz (Ba (Am ?_))
 refine Bl [] j1 ?_
 refine AH (fuel:=1) [] (AX (CR 0 11)) rfl (AJ rfl rfl (BG rfl rfl (AL rfl rfl ?_)))
 replace j0:=j0.st d0
 refine AZ (hc:=Bn j0 9 rfl) rfl rfl (AL rfl rfl ?_)
 replace n0:=n0.st d0
 refine AZ (hc:=Bn n0 0 rfl) rfl rfl ?_
 obtain ⟨f0,n2,hm⟩:=bs hm
 obtain ⟨o2,k1⟩:=Br n2
 replace h1:=h1.st d0
 obtain ⟨r4,s4,h0,q1⟩:=h1.at k1
 refine BT (hA:=h0) (hj:=o2) (hlt:=q1) rfl rfl rfl ?_
 obtain ⟨p2,q2,v0,l1⟩:=NR.peek h1 h0 k1
 replace l1:Vb i1 (FrS [8] i1 j1) (.slice p2 f0.length q2) f0:=l1
 refine AZ (hc:=λ w' ⟨O',hq⟩=>NR.stay h1 h0 hq (by decide) v0) rfl rfl ?_
 refine AL rfl rfl (AZ (hc:=Bn n0 1 rfl) rfl rfl ?_)
 obtain ⟨r2,s2,hm⟩:=bs hm
 obtain ⟨t2,r1⟩:=Br s2
 obtain ⟨t4,u4,m3,w0,n3,s1,o3,rfl⟩:=l1.elem r1
 refine BT (hA:=w0) (hj:=t2) (hlt:=s1) rfl rfl rfl (AC (AF (i:=11) rfl ?_))
 refine JJ (off:=0) (a:=f0) (f:=r2) (f':=true) h1 h0 k1 v0 w0 r1 rfl rfl rfl (E9 rfl) (allOne) (by rintro w' O' ce rfl;exact rfl) λ t1 u1 b0 k0=>?_
 replace k0:NR Bool 8 t1 u1 57 4 (.slice f4 x0.taken.length g4) (x0.taken.set (x2.var:Int).toNat (f0.set (x2.val:Int).toNat true)) none:=k0
 refine Bz (Ba (Am (Am ?_)))
 refine Dd (·=t1) [(0,true),(1,true),(2,true),(3,true),(4,true),(5,true),(6,true),(7,true),(8,true),(9,true)] rfl rfl ?_
 refine AJ rfl rfl (BG rfl rfl (AL rfl rfl (AL rfl rfl ?_)))
 replace j0:=j0.st b0
 refine CY (hc:=Blk.cell (i:=6) (j0.1) rfl) rfl rfl (AL rfl rfl ?_)
 replace t0:=(t0.st d0).st b0
 refine CY (hc:=Blk.cell (i:=0) (t0.1) rfl) rfl rfl ?_
 obtain ⟨v4,u2,hm⟩:=bs hm
 obtain ⟨v2,w2⟩:=Br u2
 replace o0:=(o0.st d0).st b0
 obtain ⟨w4,x4,p3,v1,w1,y1,rfl,y4⟩:=o0.elem w2
 refine BT (hA:=v1) (hj:=v2) (hlt:=w1) rfl rfl rfl (CY (hc:=cat0 y1) rfl rfl (Wj rfl rfl rfl rfl (λ m1=>?_) λ m1=>?_))
 ·
  replace hm:=ip hm m1
  refine h_z (Aj rfl (Am (Ah (Au rfl (o_z (AM ?_))))))
  have a0:=d0.an b0
  replace a1:=a1.st a0
  replace b1:=b1.st a0
  replace c1:=c1.st a0
  replace d1:=d1.st a0
  replace e1:=e1.st a0
  replace f1:=f1.st a0
  replace g1:=g1.st a0
  replace q0:=q0.st a0
  replace e0:=e0.st b0
  obtain ⟨z4,y2,q3,r3,z2⟩:=Fnd.shut (x:=(⟨(⟨x0.t.vars,x0.t.init,x0.t.goal,x0.t.ops⟩:Tsk),x0.list,x0.signs,(⟨x0.x.vars,(x0.x.vals.set (x1.var:Int).toNat (u0.set (x1.val:Int).toNat x2.val)),x0.x.ops⟩:Swp),(x0.taken.set (x2.var:Int).toNat (f0.set (x2.val:Int).toNat true)),x0.vars,x0.steps,x0.most,x0.full⟩:Fnd)) (l0:=2) (by decide) (by have q:=j0;rw [<- ((by simp:(x0.x.vals.set (x1.var:Int).toNat (u0.set (x1.val:Int).toNat x2.val)).length=x0.x.vals.length).trans rfl),<- ((by simp:(x0.taken.set (x2.var:Int).toNat (f0.set (x2.val:Int).toNat true)).length=x0.taken.length).trans rfl)] at q;exact q) a1 b1 c1 d1 e1 f1 o0 e0.relen g1 k0.relen q0 i3 j3
  obtain rfl:=sm hm
  replace hB:=(((((hB.st i2).st d2).st e2).st d0).st b0).st y2
  obtain ⟨O',hS',hz,hl⟩:=hE.leave (λ q=>if q=2 then i0 else 0) rfl hB
  exact T8 rfl (Bc rfl) ⟨O',hS',(Ob.leave z2 hz (hl 2 (by decide) (by decide)) s0.2),vBool⟩
 replace hm:=im hm m1
 refine h_z (Ae rfl (AN (Am ?_)))
 refine Bl [(16,[6])] u1 ?_
 refine AH (fuel:=5) [] (AX [0,1,2,3,4,5,6,7,8,9,10,13,14,15]) rfl (AJ rfl rfl (BG rfl rfl (AL rfl rfl (AL rfl rfl (AZ (hc:=Bn j0 6 rfl) rfl rfl (AL rfl rfl (AZ (hc:=Bn t0 0 rfl) rfl rfl (AJ rfl rfl (BG rfl rfl (AL rfl rfl (AZ (hc:=Bn j0 10 rfl) rfl rfl (AL rfl rfl ?_))))))))))))
 replace n0:=n0.st b0
 refine AZ (hc:=Bn n0 0 rfl) rfl rfl ?_
 obtain ⟨a5,a3,hm⟩:=bs hm
 obtain ⟨b3,z1⟩:=Br a3
 obtain ⟨b5,c5,s3,y0,t3,a2,u3,rfl,d5⟩:=o0.elemF z1
 refine BT (hA:=y0) (hj:=b3) (hlt:=a2) rfl rfl rfl (AC ?_)
 refine AH (fuel:=3) [6] (AX [11,12]) rfl (AL rfl rfl (AZ (hc:=Bn n0 0 rfl) rfl rfl (AC (AF (i:=16) rfl ?_))))
 refine Fi rfl o0 (a:=x2.var) (vInt r8) y0 rfl rfl (AD z1) λ e5 g0 o0=>?_
 have hZ:=g0.lst [6] (λ _ h=>by cases h;decide)
 refine AV [] hZ ?_
 refine AH (fuel:=1) [] [(17,true)] rfl ?_
 obtain ⟨f5,c3,hm⟩:=bs hm
 obtain ⟨d3,b2⟩:=Br c3
 replace q0:=((q0.st d0).st b0).st g0
 obtain ⟨g5,h5,v3,z0,w3,c2,x3,rfl⟩:=q0.elemF b2
 refine BT (hA:=z0) (hj:=d3) (hlt:=c2) rfl rfl rfl (AC (AF (i:=18) rfl ?_))
 refine Fi rfl q0 (a:=true) vBool z0 rfl rfl (AD b2) λ i5 m0 q0=>?_
 refine Bz (Ba (Am (Ah (Au rfl (o_z (AM ?_))))))
 have c0:=((d0.an b0).an g0).an m0
 replace j0:=(j0.st g0).st m0
 replace a1:=a1.st c0
 replace b1:=b1.st c0
 replace c1:=c1.st c0
 replace d1:=d1.st c0
 replace e1:=e1.st c0
 replace f1:=f1.st c0
 replace o0:=o0.st m0
 replace g1:=g1.st c0
 replace e0:=((e0.st b0).st g0).st m0
 replace k0:=(k0.st g0).st m0
 obtain ⟨j5,e3,y3,z3,f3⟩:=Fnd.shut (x:=(⟨(⟨x0.t.vars,x0.t.init,x0.t.goal,x0.t.ops⟩:Tsk),x0.list,x0.signs,(⟨(x0.x.vars.set (x1.var:Int).toNat x2.var),(x0.x.vals.set (x1.var:Int).toNat (u0.set (x1.val:Int).toNat x2.val)),x0.x.ops⟩:Swp),(x0.taken.set (x2.var:Int).toNat (f0.set (x2.val:Int).toNat true)),(x0.vars.set (x2.var:Int).toNat true),x0.steps,x0.most,x0.full⟩:Fnd)) (l0:=2) (by decide) (by have q:=j0;rw [<- ((by simp:(x0.x.vars.set (x1.var:Int).toNat x2.var).length=x0.x.vars.length).trans rfl),<- ((by simp:(x0.x.vals.set (x1.var:Int).toNat (u0.set (x1.val:Int).toNat x2.val)).length=x0.x.vals.length).trans rfl),<- ((by simp:(x0.taken.set (x2.var:Int).toNat (f0.set (x2.val:Int).toNat true)).length=x0.taken.length).trans rfl),<- ((by simp:(x0.vars.set (x2.var:Int).toNat true).length=x0.vars.length).trans rfl)] at q;exact q) a1 b1 c1 d1 e1 f1 o0.relen e0.relen g1 k0.relen q0.relen i3 j3
 obtain rfl:=sm hm
 replace hB:=(((((((hB.st i2).st d2).st e2).st d0).st b0).st g0).st m0).st e3
 obtain ⟨O',hS',hz,hl⟩:=hE.leave (λ q=>if q=2 then i0 else 0) rfl hB
 exact T8 rfl (Bc rfl) ⟨O',hS',(Ob.leave f3 hz (hl 2 (by decide) (by decide)) s0.2),vBool⟩
noncomputable def BU (a:Fnd) (c:Fct) (d:Fct) (i:Bool):Option Fnd :=
  bnd (atI a.x.vals c.var) λ e=>bnd (atI e c.val) λ j=>bnd (atI a.taken d.var) λ b=>bnd (atI b d.val) λ f=>if i=true then (bnd (atI a.x.vars c.var) λ g=>bnd (atI a.vars d.var) λ h=>some (⟨(⟨a.t.vars,a.t.init,a.t.goal,a.t.ops⟩:Tsk),a.list,a.signs,(⟨(a.x.vars.set (c.var:Int).toNat (-1)),(a.x.vals.set (c.var:Int).toNat (e.set (c.val:Int).toNat (-1))),a.x.ops⟩:Swp),(a.taken.set (d.var:Int).toNat (b.set (d.val:Int).toNat false)),(a.vars.set (d.var:Int).toNat false),a.steps,a.most,a.full⟩:Fnd)) else (some (⟨(⟨a.t.vars,a.t.init,a.t.goal,a.t.ops⟩:Tsk),a.list,a.signs,(⟨a.x.vars,(a.x.vals.set (c.var:Int).toNat (e.set (c.val:Int).toNat (-1))),a.x.ops⟩:Swp),(a.taken.set (d.var:Int).toNat (b.set (d.val:Int).toNat false)),a.vars,a.steps,a.most,a.full⟩:Fnd))
theorem FQ {w:World} {O:Lab} {p0 i0:Nat} {x0:Fnd} (r0:Ob i0 w O (.pointer (some ⟨p0,0,none⟩)) x0) {vx1:Value} {x1:Fct} (b2:Vb w (Fr 0 w O) vx1 x1) {vx2:Value} {x2:Fct} (c2:Vb w (Fr 0 w O) vx2 x2) {x3:Bool} {r:Fnd} (hm:BU x0 x1 x2 x3=some r) :
    Fn prog 40 [(.pointer (some ⟨p0,0,none⟩)),vx1,vx2,(.bool x3)] w λ v w'=>∃ O',St (eT i0) w O w' O'/\Ob i0 w' O' (.pointer (some ⟨p0,0,none⟩)) r:=by
 obtain ⟨O0,hE,d2,u3⟩:=V0 (w:=w) (O:=O) r0.2
 have r0':=Ob.leave r0 d2 u3 (j:=2) (by decide)
 have hB:Bm w O0 w O0:=Bm.refl
 replace b2:=b2.mono d2
 obtain ⟨a5,rfl,rfl,r6,r7⟩:=id b2
 replace c2:=c2.mono d2
 obtain ⟨b5,rfl,rfl,r9,c5⟩:=id c2
 refine AK func40 rfl ntmps40 ?_
 unfold BU at hm
 refine Am (Ah (Ft 3 O0 rfl λ d5 e5 v3 e2 y0=>?_))
 refine Ft 4 v3 rfl λ f5 a3 g5 z1 z0=>?_
 refine o_z (Am ?_)
 replace r0':=(r0'.st e2).st z1
 obtain ⟨b3,h5,i5,j5,k5,l5,m5,n5,o5,p5,q5,r5,a2,w3,h0,a1,b1,c1,d1,e1,f1,n0,n1,g1,h1,o0,c3,d3⟩:=Fnd.opn r0' 2 5 6 7 8 9 (by decide)
 obtain ⟨s5,t5,rfl⟩:=a1.form
 obtain ⟨u5,v5,rfl⟩:=b1.form
 obtain ⟨w5,x5,rfl⟩:=c1.form
 obtain ⟨y5,z5,rfl⟩:=d1.form
 obtain ⟨a6,b6,rfl⟩:=e1.form
 obtain ⟨c6,d6,rfl⟩:=f1.form
 obtain ⟨e6,f6,rfl⟩:=n0.form
 obtain ⟨y3,z3,rfl⟩:=n1.form
 obtain ⟨g6,h6,rfl⟩:=g1.form
 obtain ⟨a4,b4,rfl⟩:=h1.form
 obtain ⟨i6,j6,rfl⟩:=o0.form
 refine Bl [] b3 ?_
 refine AH (fuel:=1) [] (AX (CR 0 12)) rfl (AJ rfl rfl (BG rfl rfl (AL rfl rfl (AL rfl rfl (AZ (hc:=Bn h0 7 rfl) rfl rfl (AL rfl rfl ?_))))))
 replace y0:=(y0.st z1).st a2
 refine AZ (hc:=Bn y0 0 rfl) rfl rfl ?_
 obtain ⟨s0,c4,hm⟩:=bs hm
 obtain ⟨d4,f2⟩:=Br c4
 obtain ⟨k6,l6,q0,g2⟩:=n1.at f2
 refine BT (hA:=q0) (hj:=d4) (hlt:=g2) rfl rfl rfl ?_
 obtain ⟨e4,f4,o1,h2⟩:=NR.peek n1 q0 f2
 replace h2:Vb a3 (FrS [7] a3 b3) (.slice e4 s0.length f4) s0:=h2
 refine AZ (hc:=λ w' ⟨O',hq⟩=>NR.stay n1 q0 hq (by decide) o1) rfl rfl ?_
 refine AL rfl rfl (AZ (hc:=Bn y0 1 rfl) rfl rfl ?_)
 obtain ⟨g4,h4,hm⟩:=bs hm
 obtain ⟨i4,e3⟩:=Br h4
 obtain ⟨m6,n6,j4,p1,f3,i2,g3,rfl,k4⟩:=h2.elem e3
 refine BT (hA:=p1) (hj:=i4) (hlt:=i2) rfl rfl rfl (AC (AF (i:=12) rfl ?_))
 refine JJ (off:=0) (a:=s0) (f:=g4) (f':=(-1)) n1 q0 f2 o1 p1 e3 rfl rfl rfl (E9 rfl) (allOne) (by rintro w' O' ce ⟨rfl,_⟩;exact ⟨rfl,(R0 (-1))⟩) λ i1 j1 d0 e0=>?_
 replace e0:NR Int 7 i1 j1 22 3 (.slice y3 x0.x.vals.length z3) (x0.x.vals.set (x1.var:Int).toNat (s0.set (x1.val:Int).toNat (-1))) none:=e0
 refine Bz (Ba (Am ?_))
 refine Bl [] j1 ?_
 refine AH (fuel:=1) [] (AX (CR 0 11)) rfl (AJ rfl rfl (BG rfl rfl (AL rfl rfl ?_)))
 replace h0:=h0.st d0
 refine AZ (hc:=Bn h0 9 rfl) rfl rfl (AL rfl rfl ?_)
 replace z0:=(z0.st a2).st d0
 refine AZ (hc:=Bn z0 0 rfl) rfl rfl ?_
 obtain ⟨f0,j2,hm⟩:=bs hm
 obtain ⟨k2,k1⟩:=Br j2
 replace h1:=h1.st d0
 obtain ⟨l4,m4,j0,q1⟩:=h1.at k1
 refine BT (hA:=j0) (hj:=k2) (hlt:=q1) rfl rfl rfl ?_
 obtain ⟨l2,m2,t0,l1⟩:=NR.peek h1 j0 k1
 replace l1:Vb i1 (FrS [8] i1 j1) (.slice l2 f0.length m2) f0:=l1
 refine AZ (hc:=λ w' ⟨O',hq⟩=>NR.stay h1 j0 hq (by decide) t0) rfl rfl ?_
 refine AL rfl rfl (AZ (hc:=Bn z0 1 rfl) rfl rfl ?_)
 obtain ⟨n2,o2,hm⟩:=bs hm
 obtain ⟨p2,r1⟩:=Br o2
 obtain ⟨n4,o4,h3,u0,i3,s1,j3,rfl⟩:=l1.elem r1
 refine BT (hA:=u0) (hj:=p2) (hlt:=s1) rfl rfl rfl (AC (AF (i:=11) rfl ?_))
 refine JJ (off:=0) (a:=f0) (f:=n2) (f':=false) h1 j0 k1 t0 u0 r1 rfl rfl rfl (E9 rfl) (allOne) (by rintro w' O' ce rfl;exact rfl) λ q2 t1 b0 k0=>?_
 replace k0:NR Bool 8 q2 t1 57 4 (.slice a4 x0.taken.length b4) (x0.taken.set (x2.var:Int).toNat (f0.set (x2.val:Int).toNat false)) none:=k0
 refine Bz (Ba (Am (Ah (At rfl (o_z (BP rfl (λ m1=>?_) (λ m1=>?_)))))))
 ·
  replace hm:=ip hm m1
  refine Bl [(14,[6])] t1 ?_
  refine AH (fuel:=5) [] (AX [0,1,2,3,4,5,6,7,8,9,10,13]) rfl (AJ rfl rfl (BG rfl rfl (AL rfl rfl (AL rfl rfl ?_))))
  replace h0:=h0.st b0
  refine AZ (hc:=Bn h0 6 rfl) rfl rfl (AL rfl rfl ?_)
  replace y0:=(y0.st d0).st b0
  refine AZ (hc:=Bn y0 0 rfl) rfl rfl (AJ rfl rfl (BG rfl rfl (AL rfl rfl (AZ (hc:=Bn h0 10 rfl) rfl rfl ?_))))
  obtain ⟨p4,r2,hm⟩:=bs hm
  obtain ⟨s2,u1⟩:=Br r2
  replace n0:=(n0.st d0).st b0
  obtain ⟨q4,r4,k3,v0,l3,v1,m3,rfl,s4⟩:=n0.elemF u1
  refine BT (hA:=v0) (hj:=s2) (hlt:=v1) rfl rfl rfl (AC ?_)
  refine AH (fuel:=3) [6] (AX [11,12]) rfl (AL rfl rfl ?_)
  replace z0:=z0.st b0
  refine AZ (hc:=Bn z0 0 rfl) rfl rfl (AC (AF (i:=14) rfl ?_))
  refine Fi rfl n0 (a:=(-1)) (vInt (R0 (-1))) v0 rfl rfl (AD u1) λ t4 g0 n0=>?_
  have hZ:=g0.lst [6] (λ _ h=>by cases h;decide)
  refine AV [] hZ ?_
  refine AH (fuel:=1) [] [(15,true)] rfl ?_
  obtain ⟨u4,t2,hm⟩:=bs hm
  obtain ⟨u2,w1⟩:=Br t2
  replace o0:=((o0.st d0).st b0).st g0
  obtain ⟨v4,w4,n3,w0,o3,y1,p3,rfl⟩:=o0.elemF w1
  refine BT (hA:=w0) (hj:=u2) (hlt:=y1) rfl rfl rfl (AC (AF (i:=16) rfl ?_))
  refine Fi rfl o0 (a:=false) vBool w0 rfl rfl (AD w1) λ x4 m0 o0=>?_
  refine Bz (Ba ?_)
  have c0:=((d0.an b0).an g0).an m0
  replace h0:=(h0.st g0).st m0
  replace a1:=a1.st c0
  replace b1:=b1.st c0
  replace c1:=c1.st c0
  replace d1:=d1.st c0
  replace e1:=e1.st c0
  replace f1:=f1.st c0
  replace n0:=n0.st m0
  replace g1:=g1.st c0
  replace e0:=((e0.st b0).st g0).st m0
  replace k0:=(k0.st g0).st m0
  obtain ⟨y4,v2,q3,r3,w2⟩:=Fnd.shut (x:=(⟨(⟨x0.t.vars,x0.t.init,x0.t.goal,x0.t.ops⟩:Tsk),x0.list,x0.signs,(⟨(x0.x.vars.set (x1.var:Int).toNat (-1)),(x0.x.vals.set (x1.var:Int).toNat (s0.set (x1.val:Int).toNat (-1))),x0.x.ops⟩:Swp),(x0.taken.set (x2.var:Int).toNat (f0.set (x2.val:Int).toNat false)),(x0.vars.set (x2.var:Int).toNat false),x0.steps,x0.most,x0.full⟩:Fnd)) (l0:=2) (by decide) (by have q:=h0;rw [<- ((by simp:(x0.x.vars.set (x1.var:Int).toNat (-1)).length=x0.x.vars.length).trans rfl),<- ((by simp:(x0.x.vals.set (x1.var:Int).toNat (s0.set (x1.val:Int).toNat (-1))).length=x0.x.vals.length).trans rfl),<- ((by simp:(x0.taken.set (x2.var:Int).toNat (f0.set (x2.val:Int).toNat false)).length=x0.taken.length).trans rfl),<- ((by simp:(x0.vars.set (x2.var:Int).toNat false).length=x0.vars.length).trans rfl)] at q;exact q) a1 b1 c1 d1 e1 f1 n0.relen e0.relen g1 k0.relen o0.relen c3 d3
  obtain rfl:=sm hm
  replace hB:=(((((((hB.st e2).st z1).st a2).st d0).st b0).st g0).st m0).st v2
  obtain ⟨O',hS',hz,hl⟩:=hE.leave (λ q=>if q=2 then i0 else 0) rfl hB
  exact W3 rfl  ⟨O',hS',(Ob.leave w2 hz (hl 2 (by decide) (by decide)) r0.2)⟩
 replace hm:=im' hm m1
 refine AN ?_
 have a0:=d0.an b0
 replace h0:=h0.st b0
 replace a1:=a1.st a0
 replace b1:=b1.st a0
 replace c1:=c1.st a0
 replace d1:=d1.st a0
 replace e1:=e1.st a0
 replace f1:=f1.st a0
 replace n0:=n0.st a0
 replace g1:=g1.st a0
 replace o0:=o0.st a0
 replace e0:=e0.st b0
 obtain ⟨z4,y2,s3,t3,z2⟩:=Fnd.shut (x:=(⟨(⟨x0.t.vars,x0.t.init,x0.t.goal,x0.t.ops⟩:Tsk),x0.list,x0.signs,(⟨x0.x.vars,(x0.x.vals.set (x1.var:Int).toNat (s0.set (x1.val:Int).toNat (-1))),x0.x.ops⟩:Swp),(x0.taken.set (x2.var:Int).toNat (f0.set (x2.val:Int).toNat false)),x0.vars,x0.steps,x0.most,x0.full⟩:Fnd)) (l0:=2) (by decide) (by have q:=h0;rw [<- ((by simp:(x0.x.vals.set (x1.var:Int).toNat (s0.set (x1.val:Int).toNat (-1))).length=x0.x.vals.length).trans rfl),<- ((by simp:(x0.taken.set (x2.var:Int).toNat (f0.set (x2.val:Int).toNat false)).length=x0.taken.length).trans rfl)] at q;exact q) a1 b1 c1 d1 e1 f1 n0 e0.relen g1 k0.relen o0 c3 d3
 obtain rfl:=sm hm
 replace hB:=(((((hB.st e2).st z1).st a2).st d0).st b0).st y2
 obtain ⟨O',hS',hz,hl⟩:=hE.leave (λ q=>if q=2 then i0 else 0) rfl hB
 exact W3 rfl  ⟨O',hS',(Ob.leave z2 hz (hl 2 (by decide) (by decide)) r0.2)⟩
noncomputable def Ca (a:Fnd) (c:Fct) (g:ByteArray):Option Fnd :=
  bnd (atI a.signs c.var) λ b=>bnd (atI b c.val) λ d=>bnd (R9 g (⟨#[59]⟩:ByteArray)) λ e=>bnd (R9 d e) λ f=>bnd (atI b c.val) λ h=>some (⟨(⟨a.t.vars,a.t.init,a.t.goal,a.t.ops⟩:Tsk),a.list,(a.signs.set (c.var:Int).toNat (b.set (c.val:Int).toNat f)),(⟨a.x.vars,a.x.vals,a.x.ops⟩:Swp),a.taken,a.vars,a.steps,a.most,a.full⟩:Fnd)
theorem GW {w:World} {O:Lab} {o l:Nat} {b:Fnd} (p:Ob l w O (.pointer (some ⟨o,0,none⟩)) b) {k:Value} {d:Fct} (s:Vb w (Fr 0 w O) k d) {u:ByteArray} (E:u.size<=9223372036854775807) {r:Fnd} (hm:Ca b d u=some r) :
    Fn prog 34 [(.pointer (some ⟨o,0,none⟩)),k,(.string u)] w λ v w'=>∃ e,St (eT l) w O w' e/\Ob l w' e (.pointer (some ⟨o,0,none⟩)) r:=by
 obtain ⟨y,hE,o1,z1⟩:=V0 (w:=w) (O:=O) p.2
 have g:=Ob.leave p o1 z1 (j:=2) (by decide)
 have z:Bm w y w y:=Bm.refl
 replace s:=s.mono o1
 obtain ⟨M,rfl,rfl,r5,r6⟩:=id s
 refine AK func34 rfl ntmps34 ?_
 unfold Ca at hm
 refine Am (Ah (Ft 3 y rfl λ N B P C m=>?_))
 refine o_z ?_
 replace g:=g.st C
 obtain ⟨D,v2,w2,y2,z2,a3,b3,c3,d3,e3,f3,g3,r1,a2,n0,o0,q0,r0,s0,t0,g0,u0,v0,w0,y0,z0,b2,c2⟩:=Fnd.opn g 2 4 5 6 7 8 (by decide)
 obtain ⟨Q,i3,rfl⟩:=o0.form
 obtain ⟨R,k3,rfl⟩:=q0.form
 obtain ⟨S,m3,rfl⟩:=r0.form
 obtain ⟨T,o3,rfl⟩:=s0.form
 obtain ⟨U,q3,rfl⟩:=t0.form
 obtain ⟨F,e2,rfl⟩:=g0.form
 obtain ⟨V,s3,rfl⟩:=u0.form
 obtain ⟨W,u3,rfl⟩:=v0.form
 obtain ⟨X,w3,rfl⟩:=w0.form
 obtain ⟨Y,y3,rfl⟩:=y0.form
 obtain ⟨Z,a4,rfl⟩:=z0.form
 refine Bl [] D ?_
 refine AH (fuel:=1) [] (AX (CR 0 16)) rfl (AJ rfl rfl (BG rfl rfl (AL rfl rfl (AZ (hc:=Bn n0 5 rfl) rfl rfl (AL rfl rfl ?_)))))
 replace m:=m.st r1
 refine AZ (hc:=Bn m 0 rfl) rfl rfl ?_
 obtain ⟨h,f2,hm⟩:=bs hm
 obtain ⟨G,d1⟩:=Br f2
 obtain ⟨b4,c4,b0,e1⟩:=g0.at d1
 refine BT (hA:=b0) (hj:=G) (hlt:=e1) rfl rfl rfl ?_
 obtain ⟨H,i2,h0,a1⟩:=NR.peek g0 b0 d1
 replace a1:Vb B (FrS [4] B D) (.slice H h.length i2) h:=a1
 refine AZ (hc:=λ w' ⟨e,hq⟩=>NR.stay g0 b0 hq (by decide) h0) rfl rfl ?_
 refine AL rfl rfl (AZ (hc:=Bn m 1 rfl) rfl rfl ?_)
 obtain ⟨d4,j2,hm⟩:=bs hm
 obtain ⟨I,l2⟩:=Br j2
 obtain ⟨e4,f4,m2,f1,g1,h1,i1,rfl,g4⟩:=a1.elem l2
 refine BT (hA:=f1) (hj:=I) (hlt:=h1) rfl rfl rfl (AZ (hc:=λ w' ⟨e,hq⟩=>cat0 (Dq (hq.agreeS (by decide) (by decide)) g1 i1)) rfl rfl ?_)
 refine ai ?_
 obtain ⟨h4,n2,hm⟩:=bs hm
 refine HV (he:=n2) rfl rfl rfl ?_
 obtain ⟨n,s1,hm⟩:=bs hm
 refine HV (he:=s1) rfl rfl rfl ?_
 obtain ⟨J,p2,hm⟩:=bs hm
 obtain ⟨K,j0⟩:=Br p2
 obtain ⟨q2,r2,t1,c0,u1,k0,v1,rfl,s2⟩:=a1.elem j0
 refine BT (hA:=c0) (hj:=K) (hlt:=k0) rfl rfl rfl (AC (AF (i:=16) rfl ?_))
 refine JJ (off:=0) (a:=h) (f:=J) (f':=n) g0 b0 d1 h0 c0 j0 rfl rfl rfl (E9 rfl) (allOne) (by rintro w' e ce ⟨rfl,_⟩;exact ⟨rfl,(LM s1)⟩) λ L l1 c A=>?_
 replace A:NR ByteArray 4 L l1 96 9 (.slice F b.signs.length e2) (b.signs.set (d.var:Int).toNat (h.set (d.val:Int).toNat n)) none:=A
 refine Bz (Ba ?_)
 replace n0:=n0.st c
 replace o0:=o0.st c
 replace q0:=q0.st c
 replace r0:=r0.st c
 replace s0:=s0.st c
 replace t0:=t0.st c
 replace u0:=u0.st c
 replace v0:=v0.st c
 replace w0:=w0.st c
 replace y0:=y0.st c
 replace z0:=z0.st c
 obtain ⟨t2,m1,w1,y1,n1⟩:=Fnd.shut (x:=(⟨(⟨b.t.vars,b.t.init,b.t.goal,b.t.ops⟩:Tsk),b.list,(b.signs.set (d.var:Int).toNat (h.set (d.val:Int).toNat n)),(⟨b.x.vars,b.x.vals,b.x.ops⟩:Swp),b.taken,b.vars,b.steps,b.most,b.full⟩:Fnd)) (l0:=2) (by decide) (by have q:=n0;rw [<- ((by simp:(b.signs.set (d.var:Int).toNat (h.set (d.val:Int).toNat n)).length=b.signs.length).trans rfl)] at q;exact q) o0 q0 r0 s0 t0 A.relen u0 v0 w0 y0 z0 b2 c2
 obtain rfl:=sm hm
 replace z:=(((z.st C).st r1).st c).st m1
 obtain ⟨e,hS',hz,hl⟩:=hE.leave (λ q=>if q=2 then l else 0) rfl z
 exact W3 rfl  ⟨e,hS',(Ob.leave n1 hz (hl 2 (by decide) (by decide)) p.2)⟩
noncomputable def CC (b:Fnd) (m:Fct) (c:Fct):Option Bool :=
  bnd (bnd (atI b.taken c.var) λ n=>bnd (atI n c.val) λ o=>if o=true then (some true) else (bnd (atI b.signs m.var) λ d=>bnd (atI d m.val) λ e=>bnd (atI b.signs c.var) λ f=>bnd (atI f c.val) λ g=>if e≠g then (some true) else (some false)):Option Bool) λ p=>if p=true then (some false) else (bnd (atI b.x.vars m.var) λ a=>if 0<=a then (bnd (if a=c.var then (some true) else (some false):Option Bool) λ h=>some h) else (bnd (bnd (atI b.vars c.var) λ i=>if (!i)=true then (bnd (atI b.t.vars m.var) λ j=>bnd (atI b.t.vars c.var) λ k=>if j=k then (some true) else (some false)) else (some false):Option Bool) λ l=>some l))
theorem GX {w:World} {O:Lab} {g l:Nat} {d:Fnd} (n:Ob l w O (.pointer (some ⟨g,0,none⟩)) d) {o:Value} {u:Fct} (z:Vb w (Fr 0 w O) o u) {p:Value} {y:Fct} (A:Vb w (Fr 0 w O) p y) {r:Bool} (hm:CC d u y=some r) :
    Fn prog 37 [(.pointer (some ⟨g,0,none⟩)),o,p] w λ v w'=>∃ a,St (eT l) w O w' a/\Ob l w' a (.pointer (some ⟨g,0,none⟩)) d/\Vb w' (Fr 0 w' a) v r:=by
 obtain ⟨m,hE,q3,v6⟩:=V0 (w:=w) (O:=O) n.2
 have h:=Ob.leave n q3 v6 (j:=2) (by decide)
 have b:Bm w m w m:=Bm.refl
 replace z:=z.mono q3
 obtain ⟨jA,rfl,rfl,r5,r6⟩:=id z
 replace A:=A.mono q3
 obtain ⟨kA,rfl,rfl,r8,r9⟩:=id A
 refine AK func37 rfl ntmps37 ?_
 unfold CC at hm
 refine Am (Ah (Ft 3 m rfl λ H lA N s e=>?_))
 refine Ft 4 N rfl λ I k mA f c=>?_
 refine Au rfl (o_z (Am (Am ?_)))
 obtain ⟨P,b0,hm⟩:=bs hm
 refine Bi (λ t w'=>∃ (Q:Unit) (a:Lab),Q2 t [(0,(.pointer (some ⟨g,0,none⟩))),(4,(.pointer (some ⟨H,0,none⟩))),(5,(.pointer (some ⟨I,0,none⟩))),(46,(.bool P))]/\Bm w m w' a/\Ob 2 w' a (.pointer (some ⟨g,0,none⟩)) d/\Lc 3 w' a H 45 [(.int .i64 u.var),(.int .i64 u.val)]/\Lc 4 w' a I 45 [(.int .i64 y.var),(.int .i64 y.val)]) ?_ ?_
 ·
  refine Dd (·=k) [(0,true),(1,true),(2,true),(3,true),(4,true),(5,true),(6,true),(7,true),(8,true),(9,true),(10,true),(11,true),(12,true),(13,true),(14,true),(15,true),(16,true),(17,true),(18,true),(19,true),(20,true),(21,true),(22,true),(23,true),(24,true),(25,true),(26,true),(27,true),(28,true),(29,true),(30,true),(31,true),(32,true),(33,true),(34,true),(35,true),(36,true),(37,true),(38,true)] rfl rfl ?_
  refine AJ rfl rfl (BG rfl rfl ?_)
  replace h:=(h.st s).st f
  obtain ⟨B,nA,oA,pA,qA,rA,sA,tA,uA,vA,wA,xA,q1,z6,r1,f3,g3,h3,i3,j3,c1,k3,l3,m3,s1,n3,s3,t3⟩:=Fnd.opn h 2 5 6 7 8 9 (by decide)
  obtain ⟨yA,zA,rfl⟩:=f3.form
  obtain ⟨aB,bB,rfl⟩:=g3.form
  obtain ⟨cB,dB,rfl⟩:=h3.form
  obtain ⟨eB,fB,rfl⟩:=i3.form
  obtain ⟨gB,iB,rfl⟩:=j3.form
  obtain ⟨jB,kB,rfl⟩:=c1.form
  obtain ⟨lB,mB,rfl⟩:=k3.form
  obtain ⟨nB,oB,rfl⟩:=l3.form
  obtain ⟨pB,qB,rfl⟩:=m3.form
  obtain ⟨rB,sB,rfl⟩:=s1.form
  obtain ⟨tB,uB,rfl⟩:=n3.form
  refine AL rfl rfl (CY (hc:=Blk.cell (i:=9) (r1.1) rfl) rfl rfl (AL rfl rfl ?_))
  replace c:=c.st q1
  refine CY (hc:=Blk.cell (i:=0) (c.1) rfl) rfl rfl ?_
  obtain ⟨J,a7,b0⟩:=bs b0
  obtain ⟨R,v5⟩:=Br a7
  obtain ⟨vB,wB,u1,u3⟩:=s1.at v5
  refine BT (hA:=u1) (hj:=R) (hlt:=u3) rfl rfl rfl ?_
  obtain ⟨S,d7,v3,w3⟩:=NR.peek s1 u1 v5
  replace w3:Vb k (FrS [8] k B) (.slice S J.length d7) J:=w3
  refine CY (hc:=v3) rfl rfl (AL rfl rfl (CY (hc:=Blk.cell (i:=1) (c.1) rfl) rfl rfl ?_))
  obtain ⟨T,f7,b0⟩:=bs b0
  obtain ⟨U,h7⟩:=Br f7
  obtain ⟨xB,yB,w5,v1,w1,y1,rfl⟩:=w3.elem' h7
  refine BT (hA:=v1) (hj:=U) (hlt:=w1) rfl rfl rfl (CY (hc:=cat0 y1) rfl rfl (AJ rfl rfl ?_))
  rcases C8 T with v0|v0
  ·
   try rw [v0]
   replace b0:=ip b0 v0
   refine AW rfl rfl rfl (AW rfl rfl rfl (AW rfl rfl rfl (AW rfl rfl rfl (AW rfl rfl rfl (AW rfl rfl rfl (AW rfl rfl rfl (AW rfl rfl rfl (AW rfl rfl rfl (AW rfl rfl rfl (AW rfl rfl rfl (AW rfl rfl rfl (AW rfl rfl rfl (AW rfl rfl rfl (AW rfl rfl rfl ?_))))))))))))))
   refine AW rfl rfl rfl (AW rfl rfl rfl (AW rfl rfl rfl (AW rfl rfl rfl (AW rfl rfl rfl (AW rfl rfl rfl (AW rfl rfl rfl (AW rfl rfl rfl (AW rfl rfl rfl (AW rfl rfl rfl (CL rfl rfl rfl (h_z ?_)))))))))))
   obtain ⟨i7,g1,x5,y5,x3⟩:=Fnd.shut (x:=d) (l0:=2) (by decide) r1 f3 g3 h3 i3 j3 c1 k3 l3 m3 s1 n3 s3 t3
   obtain rfl:=sm b0
   exact ⟨(),_,⟨rfl,rfl,rfl,rfl,trivial⟩,(((b.st s).st f).st q1).st g1,x3,((e.st f).st q1).st g1,c.st g1⟩
  try rw [v0]
  replace b0:=im' b0 v0
  refine Az rfl (Aw rfl rfl (Ce rfl (Az rfl (Aw rfl rfl (Jt rfl (Az rfl (Aw rfl rfl (BM rfl (Az rfl (Aw rfl rfl (Bu (hc:=Blk.cell (i:=5) (r1.1) rfl) rfl (Az rfl (Aw rfl rfl (BM rfl ?_))))))))))))))
  refine Az rfl (Aw rfl rfl ?_)
  replace e:=(e.st f).st q1
  refine Bu (hc:=Blk.cell (i:=0) (e.1) rfl) rfl (Az rfl (Aw rfl rfl ?_))
  obtain ⟨K,y3,b0⟩:=bs b0
  obtain ⟨V,a2⟩:=Br y3
  obtain ⟨j7,k7,d1,b2⟩:=c1.at a2
  refine Hx (hA:=d1) (hj:=V) (hlt:=b2) rfl rfl (Az rfl (Aw rfl rfl ?_))
  obtain ⟨W,b4,c2,h1⟩:=NR.peek c1 d1 a2
  replace h1:Vb k (FrS [5] k B) (.slice W K.length b4) K:=h1
  refine Bu (hc:=c2) rfl (Az rfl (Aw rfl rfl (BM rfl (Az rfl (Aw rfl rfl (Bu (hc:=Blk.cell (i:=1) (e.1) rfl) rfl (Az rfl (Aw rfl rfl ?_))))))))
  obtain ⟨l7,c4,b0⟩:=bs b0
  obtain ⟨X,e4⟩:=Br c4
  obtain ⟨m7,n7,z5,d2,e2,f2,rfl,o7⟩:=h1.elem' e4
  refine Hx (hA:=d2) (hj:=X) (hlt:=e2) rfl rfl (Az rfl (Aw rfl rfl (Bu (hc:=cat0 f2) rfl (Az rfl (Aw rfl rfl (Ce rfl (Az rfl (Aw rfl rfl (Jt rfl (Az rfl (Aw rfl rfl (BM rfl (Az rfl (Aw rfl rfl ?_))))))))))))))
  refine Bu (hc:=Blk.cell (i:=5) (r1.1) rfl) rfl (Az rfl (Aw rfl rfl (BM rfl (Az rfl (Aw rfl rfl (Bu (hc:=Blk.cell (i:=0) (c.1) rfl) rfl (Az rfl (Aw rfl rfl ?_))))))))
  obtain ⟨L,f4,b0⟩:=bs b0
  obtain ⟨Y,h2⟩:=Br f4
  obtain ⟨p7,q7,e1,i2⟩:=c1.at h2
  refine Hx (hA:=e1) (hj:=Y) (hlt:=i2) rfl rfl (Az rfl (Aw rfl rfl ?_))
  obtain ⟨Z,i4,j2,i1⟩:=NR.peek c1 e1 h2
  replace i1:Vb k (FrS [5] k B) (.slice Z L.length i4) L:=i1
  refine Bu (hc:=j2) rfl (Az rfl (Aw rfl rfl (BM rfl (Az rfl (Aw rfl rfl (Bu (hc:=Blk.cell (i:=1) (c.1) rfl) rfl (Az rfl (Aw rfl rfl ?_))))))))
  obtain ⟨r7,j4,b0⟩:=bs b0
  obtain ⟨k4,l4⟩:=Br j4
  obtain ⟨s7,t7,a6,k2,l2,m2,rfl,u7⟩:=i1.elem' l4
  refine Hx (hA:=k2) (hj:=k4) (hlt:=l2) rfl rfl (Az rfl (Aw rfl rfl (Bu (hc:=cat0 m2) rfl (Az rfl (Aw rfl rfl (Bj (λ _ _=>Zc rfl rfl) (λ C=>?_) (λ C=>?_)))))))
  ·
   replace b0:=ip b0 C
   refine CE rfl rfl rfl (h_z ?_)
   obtain ⟨v7,k1,b6,c6,m4⟩:=Fnd.shut (x:=d) (l0:=2) (by decide) r1 f3 g3 h3 i3 j3 c1 k3 l3 m3 s1 n3 s3 t3
   obtain rfl:=sm b0
   exact ⟨(),_,⟨rfl,rfl,rfl,rfl,trivial⟩,(((b.st s).st f).st q1).st k1,m4,e.st k1,c.st k1⟩
  replace b0:=im b0 C
  refine CE rfl rfl rfl (h_z ?_)
  obtain ⟨w7,l1,d6,e6,n4⟩:=Fnd.shut (x:=d) (l0:=2) (by decide) r1 f3 g3 h3 i3 j3 c1 k3 l3 m3 s1 n3 s3 t3
  obtain rfl:=sm b0
  exact ⟨(),_,⟨rfl,rfl,rfl,rfl,trivial⟩,(((b.st s).st f).st q1).st l1,n4,e.st l1,c.st l1⟩
 replace b:=(b.st s).st f
 replace e:=e.st f
 rintro x7 M ⟨Q,y7,o2,b,p2,e,c⟩
 refine Bg _ o2 ?_
 refine BP rfl (λ D=>?_) (λ D=>?_)
 ·
  replace hm:=ip hm D
  refine Am (Ah (Au rfl (o_z (AM ?_))))
  obtain rfl:=sm hm
  obtain ⟨a,hS',hz,hl⟩:=hE.leave (λ q=>if q=2 then l else 0) rfl b
  exact T8 rfl (Bc rfl) ⟨a,hS',(Ob.leave p2 hz (hl 2 (by decide) (by decide)) n.2),vBool⟩
 replace hm:=im' hm D
 refine AN (Am (Am (Dd (·=M) [(0,true),(1,true),(2,true),(3,true),(4,true),(5,true),(6,true),(7,true),(8,true),(9,true)] rfl rfl ?_)))
 refine AJ rfl rfl (BG rfl rfl ?_)
 obtain ⟨z7,a8,b8,c8,d8,e8,f8,g8,h8,i8,j8,k8,c0,f6,e0,g0,m0,n0,o0,q0,r0,h0,s0,t0,u0,j0,w0,y0⟩:=Fnd.opn p2 2 5 6 7 8 9 (by decide)
 obtain ⟨l8,m8,rfl⟩:=g0.form
 obtain ⟨n8,o8,rfl⟩:=m0.form
 obtain ⟨p8,q8,rfl⟩:=n0.form
 obtain ⟨s8,t8,rfl⟩:=o0.form
 obtain ⟨u8,v8,rfl⟩:=q0.form
 obtain ⟨w8,x8,rfl⟩:=r0.form
 obtain ⟨y8,z8,rfl⟩:=h0.form
 obtain ⟨a9,b9,rfl⟩:=s0.form
 obtain ⟨c9,d9,rfl⟩:=t0.form
 obtain ⟨e9,f9,rfl⟩:=u0.form
 obtain ⟨g9,h9,rfl⟩:=j0.form
 refine AL rfl rfl (AL rfl rfl (CY (hc:=Blk.cell (i:=6) (e0.1) rfl) rfl rfl (AL rfl rfl ?_)))
 replace e:=e.st c0
 refine CY (hc:=Blk.cell (i:=0) (e.1) rfl) rfl rfl ?_
 obtain ⟨i9,o4,hm⟩:=bs hm
 obtain ⟨p4,q4⟩:=Br o4
 obtain ⟨j9,k9,g6,q2,r2,s2,rfl,l9⟩:=h0.elem q4
 refine BT (hA:=q2) (hj:=p4) (hlt:=r2) rfl rfl rfl (CY (hc:=cat0 s2) rfl rfl (Ei rfl rfl (h_z (Am (Ah (At rfl (GH rfl rfl (λ E=>?_) λ E=>?_)))))))
 ·
  replace hm:=ip hm E
  refine o_z (Aj rfl (Am ?_))
  obtain ⟨r4,d0,hm⟩:=bs hm
  refine Bi (λ t w'=>∃ (s4:Unit) (a:Lab),Q2 t [(6,(.bool r4))]/\Bm w m w' a/\Ob 2 w' a (.pointer (some ⟨g,0,none⟩)) d) ?_ ?_
  ·
   refine Ah (At rfl (AO rfl ?_))
   replace c:=c.st c0
   refine AQ (hc:=Blk.cell (i:=0) (c.1) rfl) rfl (FD rfl rfl (λ F=>?_) λ F=>?_)
   ·
    replace d0:=ip d0 F
    refine Au rfl (o_z ?_)
    obtain ⟨m9,t4,h6,i6,u4⟩:=Fnd.shut (x:=d) (l0:=2) (by decide) e0 g0 m0 n0 o0 q0 r0 h0 s0 t0 u0 j0 w0 y0
    obtain rfl:=sm d0
    exact ⟨(),_,⟨rfl,trivial⟩,(b.st c0).st t4,u4⟩
   replace d0:=im d0 F
   refine Au rfl (o_z ?_)
   obtain ⟨n9,v4,j6,k6,w4⟩:=Fnd.shut (x:=d) (l0:=2) (by decide) e0 g0 m0 n0 o0 q0 r0 h0 s0 t0 u0 j0 w0 y0
   obtain rfl:=sm d0
   exact ⟨(),_,⟨rfl,trivial⟩,(b.st c0).st v4,w4⟩
  replace b:=b.st c0
  rintro o9 p9 ⟨s4,q9,t2,b,x4⟩
  refine Bg _ t2 ?_
  refine AM ?_
  obtain rfl:=sm hm
  obtain ⟨a,hS',hz,hl⟩:=hE.leave (λ q=>if q=2 then l else 0) rfl b
  exact T8 rfl (Bc rfl) ⟨a,hS',(Ob.leave x4 hz (hl 2 (by decide) (by decide)) n.2),vBool⟩
 replace hm:=im hm E
 refine o_z (Ae rfl (AN (Am ?_)))
 obtain ⟨y4,a0,hm⟩:=bs hm
 refine Bi (λ t w'=>∃ (z4:Unit) (a:Lab),Q2 t [(6,(.bool y4))]/\Bm w m w' a/\Ob 2 w' a (.pointer (some ⟨g,0,none⟩)) d) ?_ ?_
 ·
  refine Dd (·=M) [(0,true),(1,true),(2,true),(3,true),(4,true),(5,true),(6,true),(7,true),(8,true),(9,true),(10,true),(11,true),(12,true),(13,true),(14,true),(15,true),(16,true),(17,true),(18,true),(19,true),(20,true),(21,true),(22,true),(23,true),(24,true),(25,true),(26,true),(27,true),(28,true),(29,true),(30,true)] rfl rfl ?_
  refine AJ rfl rfl (BG rfl rfl (AL rfl rfl (CY (hc:=Blk.cell (i:=10) (e0.1) rfl) rfl rfl (AL rfl rfl ?_))))
  replace c:=c.st c0
  refine CY (hc:=Blk.cell (i:=0) (c.1) rfl) rfl rfl ?_
  obtain ⟨a5,b5,a0⟩:=bs a0
  obtain ⟨c5,d5⟩:=Br b5
  obtain ⟨s9,t9,l6,u2,v2,w2,rfl⟩:=j0.elem d5
  refine BT (hA:=u2) (hj:=c5) (hlt:=v2) rfl rfl rfl (CY (hc:=cat0 w2) rfl rfl (XO rfl rfl rfl (AJ rfl rfl ?_)))
  rcases C8 (!a5) with z0|z0
  ·
   try rw [z0]
   replace a0:=ip a0 z0
   refine Az rfl (Aw rfl rfl (Ce rfl (Az rfl (Aw rfl rfl (Jt rfl (Az rfl (Aw rfl rfl (BM rfl (Az rfl (Aw rfl rfl (BM rfl (Az rfl (Aw rfl rfl (Bu (hc:=Blk.cell (i:=0) (e0.1) rfl) rfl ?_))))))))))))))
   refine Az rfl (Aw rfl rfl (BM rfl (Az rfl (Aw rfl rfl (Bu (hc:=Blk.cell (i:=0) (e.1) rfl) rfl (Az rfl (Aw rfl rfl ?_)))))))
   obtain ⟨u9,e5,a0⟩:=bs a0
   obtain ⟨f5,g5⟩:=Br e5
   obtain ⟨v9,w9,m6,y2,z2,a3,rfl,x9⟩:=g0.elem' g5
   refine Hx (hA:=y2) (hj:=f5) (hlt:=z2) rfl rfl (Az rfl (Aw rfl rfl (Bu (hc:=cat0 a3) rfl (Az rfl (Aw rfl rfl (Ce rfl (Az rfl (Aw rfl rfl (Jt rfl (Az rfl (Aw rfl rfl (BM rfl (Az rfl (Aw rfl rfl ?_))))))))))))))
   refine BM rfl (Az rfl (Aw rfl rfl (Bu (hc:=Blk.cell (i:=0) (e0.1) rfl) rfl (Az rfl (Aw rfl rfl (BM rfl (Az rfl (Aw rfl rfl (Bu (hc:=Blk.cell (i:=0) (c.1) rfl) rfl (Az rfl (Aw rfl rfl ?_)))))))))))
   obtain ⟨y9,h5,a0⟩:=bs a0
   obtain ⟨i5,j5⟩:=Br h5
   obtain ⟨z9,aA,n6,b3,c3,d3,rfl,bA⟩:=g0.elem' j5
   refine Hx (hA:=b3) (hj:=i5) (hlt:=c3) rfl rfl (Az rfl (Aw rfl rfl (Bu (hc:=cat0 d3) rfl (Az rfl (Aw rfl rfl (Bj (λ _ _=>IG rfl rfl) (λ G=>?_) (λ G=>?_)))))))
   ·
    replace a0:=ip a0 G
    refine CL rfl rfl rfl (Ei rfl rfl (h_z ?_))
    obtain ⟨cA,k5,o6,p6,l5⟩:=Fnd.shut (x:=d) (l0:=2) (by decide) e0 g0 m0 n0 o0 q0 r0 h0 s0 t0 u0 j0 w0 y0
    obtain rfl:=sm a0
    exact ⟨(),_,⟨rfl,trivial⟩,(b.st c0).st k5,l5⟩
   replace a0:=im a0 G
   refine CL rfl rfl rfl (Ei rfl rfl (h_z ?_))
   obtain ⟨dA,m5,q6,s6,n5⟩:=Fnd.shut (x:=d) (l0:=2) (by decide) e0 g0 m0 n0 o0 q0 r0 h0 s0 t0 u0 j0 w0 y0
   obtain rfl:=sm a0
   exact ⟨(),_,⟨rfl,trivial⟩,(b.st c0).st m5,n5⟩
  try rw [z0]
  replace a0:=im' a0 z0
  refine AW rfl rfl rfl (AW rfl rfl rfl (AW rfl rfl rfl (AW rfl rfl rfl (AW rfl rfl rfl (AW rfl rfl rfl (AW rfl rfl rfl (AW rfl rfl rfl (AW rfl rfl rfl (AW rfl rfl rfl (AW rfl rfl rfl (AW rfl rfl rfl (AW rfl rfl rfl (AW rfl rfl rfl (AW rfl rfl rfl ?_))))))))))))))
  refine AW rfl rfl rfl (AW rfl rfl rfl (AW rfl rfl rfl (AW rfl rfl rfl (CE rfl rfl rfl (Ei rfl rfl (h_z ?_))))))
  obtain ⟨eA,o5,t6,u6,p5⟩:=Fnd.shut (x:=d) (l0:=2) (by decide) e0 g0 m0 n0 o0 q0 r0 h0 s0 t0 u0 j0 w0 y0
  obtain rfl:=sm a0
  exact ⟨(),_,⟨rfl,trivial⟩,(b.st c0).st o5,p5⟩
 replace b:=b.st c0
 rintro fA gA ⟨z4,iA,e3,b,q5⟩
 refine Bg _ e3 ?_
 refine AM ?_
 obtain rfl:=sm hm
 obtain ⟨a,hS',hz,hl⟩:=hE.leave (λ q=>if q=2 then l else 0) rfl b
 exact T8 rfl (Bc rfl) ⟨a,hS',(Ob.leave q5 hz (hl 2 (by decide) (by decide)) n.2),vBool⟩
end
section
open Go.Shelf
def Pr:Go.Shelf.Ren:=⟨fun|6=>91|15=>101|14=>108|28=>121|29=>122|20=>124|21=>125|22=>126|23=>127|24=>128|25=>129|26=>130|27=>131|46=>152|47=>138|48=>139|49=>153|50=>154|57=>164|n=>n,fun|22=>23|24=>45|25=>174|3=>3|39=>140|0=>0|53=>177|55=>180|4=>4|46=>197|45=>196|50=>90|5=>5|9=>9|66=>215|70=>219|76=>232|77=>233|n=>n,fun|n=>n⟩
theorem OD:Go.Proofs.SlLaysF0.n6 prog Pr:={
  mixed:=by kernel_rfl
  f6:=⟨f91.name,by decide,func91.trans (congrArg some (by kernel_rfl))⟩
  f14:=⟨f108.name,by decide,func108.trans (congrArg some (by kernel_rfl))⟩
  f15:=func101.trans (congrArg some (by kernel_rfl))
  f20:=⟨f124.name,by decide,func124.trans (congrArg some (by kernel_rfl))⟩
  f21:=⟨f125.name,by decide,func125.trans (congrArg some (by kernel_rfl))⟩
  f22:=⟨f126.name,by decide,func126.trans (congrArg some (by kernel_rfl))⟩
  f23:=⟨f127.name,by decide,func127.trans (congrArg some (by kernel_rfl))⟩
  f24:=⟨f128.name,by decide,func128.trans (congrArg some (by kernel_rfl))⟩
  f25:=⟨f129.name,by decide,func129.trans (congrArg some (by kernel_rfl))⟩
  f26:=⟨f130.name,by decide,func130.trans (congrArg some (by kernel_rfl))⟩
  f27:=⟨f131.name,by decide,func131.trans (congrArg some (by kernel_rfl))⟩
  f28:=func121.trans (congrArg some (by kernel_rfl))
  f29:=func122.trans (congrArg some (by kernel_rfl))
  f46:=⟨f152.name,by decide,func152.trans (congrArg some (by kernel_rfl))⟩
  f47:=func138.trans (congrArg some (by kernel_rfl))
  f48:=func139.trans (congrArg some (by kernel_rfl))
  f49:=⟨f153.name,by decide,func153.trans (congrArg some (by kernel_rfl))⟩
  f50:=⟨f154.name,by decide,func154.trans (congrArg some (by kernel_rfl))⟩
  f57:=⟨f164.name,by decide,func164.trans (congrArg some (by kernel_rfl))⟩
  t0:=underlying0
  a0:=isAgg0
  z0:=sizeOf0
  v0:=zeroValue0
  t3:=underlying3
  a3:=isAgg3
  z3:=sizeOf3
  v3:=zeroValue3
  t4:=underlying4
  a4:=isAgg4
  z4:=sizeOf4
  v4:=zeroValue4
  t5:=underlying5
  a5:=isAgg5
  z5:=sizeOf5
  v5:=zeroValue5
  t9:=underlying9
  a9:=isAgg9
  z9:=sizeOf9
  v9:=zeroValue9
  t22:=underlying23
  a22:=isAgg23
  z22:=sizeOf23
  v22:=zeroValue23
  t25:=underlying174
  a25:=isAgg174
  z25:=sizeOf174
  v25:=zeroValue174
  t39:=underlying140
  a39:=isAgg140
  z39:=sizeOf140
  v39:=zeroValue140
  t45:=underlying196
  a45:=isAgg196
  z45:=sizeOf196
  v45:=zeroValue196
  t46:=underlying197
  a46:=isAgg197
  z46:=sizeOf197
  v46:=zeroValue197
  t50:=underlying90
  a50:=isAgg90
  z50:=sizeOf90
  v50:=zeroValue90
  t53:=underlying177
  a53:=isAgg177
  z53:=sizeOf177
  v53:=zeroValue177
  t55:=underlying180
  a55:=isAgg180
  z55:=sizeOf180
  v55:=zeroValue180
  t66:=underlying215
  a66:=isAgg215
  z66:=sizeOf215
  v66:=zeroValue215
  t70:=underlying219
  a70:=isAgg219
  z70:=sizeOf219
  v70:=zeroValue219
  t76:=underlying232
  a76:=isAgg232
  z76:=sizeOf232
  v76:=zeroValue232
  t77:=underlying233
  a77:=isAgg233
  z77:=sizeOf233
  v77:=zeroValue233 }
open Go.RowKit Go.Lib Go.Sort in
theorem UY {α:Type} [Inhabited α] (k:Nat) (l:∀ w,(isAgg 45).run prog w=.ok true w) (m:∀ w,(Go.sizeOf 45).run prog w=.ok k w) (enc:α->List Value) (hk:∀ x,(enc x).length=k) (o:∀ x,∀ v∈enc x,v.oneCell'=true) (h:α->α->Int) (p:SWO (ltOf h)) (g:Nat) (i:Array Value) (a off cap:Nat) (d:Array α) (w:World) (q:∀ b w,(callFunc g b).run prog w=.ok (.enter g b) w) (c:CmpLays prog g i enc k h a off d.size w) (r:HoldsK enc k w a off d) (f:a < w.heap.size) (j:d.size < 4611686018427387904) :
    Calls prog 91 #[.slice (some ⟨a,off,none⟩) d.size cap,.func (.func g) #[] i] w λ e w' =>
      e=.returned (.tuple #[])/\∃ n os,w'=sortWorldK enc k w a off n (pdq (ltOf h) d 0 d.size (Lib.bitLen d.size) true true) os:=AnyQ.slices_SortFunc_eq OD k l m enc hk o h p g i a off cap d w q c r f j
open Go.RowKit Go.Lib Go.Sort in
theorem SI {α:Type} [Inhabited α] (p:Option Addr) (cap:Nat) (a:Value) (w:World) :
    Calls prog 91 #[.slice p 0 cap,a] w λ e w'=>e=.returned (.tuple #[])/\w'=w:=AnyF.slices_SortFunc_none OD p cap a w
end
end Go.Proofs.YtdlhmdckakbboaaGreatDoor

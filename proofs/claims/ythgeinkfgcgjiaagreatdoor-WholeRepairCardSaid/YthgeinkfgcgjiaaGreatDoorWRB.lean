/- Own text: what the proof of wholeRepair_holds uses, part 2: rules, models and their proofs, plain laws. -/
import Derived.Test.YthgeinkfgcgjiaaGreatDoorWRA
set_option linter.unusedVariables false
set_option linter.unusedSimpArgs false
namespace Go.Proofs.YthgeinkfgcgjiaaGreatDoor
open Go Go.RowKit Go.Proofs.Tryz
section
open Go Go.RowKit
section
variable {P:Program}{l:Env}{w:World}{dst:Option Tmp}{ty:TypeId}{pos:String}{aft:Array Edge}
theorem NX{t u:TypeId}{x y:Operand}{a b c:Int}(d:opv l x=some (.int .i64 a))(e:opv l y=some (.int .i64 b))(he:W5 (a+b)=some c):Ev P ⟨dst,.binOp .add t x y u,ty,pos,aft,none⟩ l w (.int .i64 c):=by
  obtain⟨rfl,h⟩:=Kg he;exact JA d e h
theorem Ld{t u:TypeId}{x y:Operand}{a b c:Int}(d:opv l x=some (.int .i64 a))(e:opv l y=some (.int .i64 b))(he:W5 (a-b)=some c):Ev P ⟨dst,.binOp .sub t x y u,ty,pos,aft,none⟩ l w (.int .i64 c):=by
  obtain⟨rfl,h⟩:=Kg he;exact LG d e h
theorem SV{t u:TypeId}{x y:Operand}{a b c:Int}(d:opv l x=some (.int .i64 a))(e:opv l y=some (.int .i64 b))(he:W5 (a*b)=some c):Ev P ⟨dst,.binOp .mul t x y u,ty,pos,aft,none⟩ l w (.int .i64 c):=by
  obtain⟨rfl,h⟩:=Kg he;exact Tw d e h
theorem Hx{t e:TypeId}[TSlice P t e]{z:Value}{size bytes:Nat}[TInfo P e z size bytes]{x i:Operand}{k:IntKind}{A:Option Addr}{b o m c j:Nat}{q:Int}(a:opv l x=some (.slice A m c))(d:opv l i=some (.int k q))(hA:A=some ⟨b,o,none⟩)(hj:q=(j:Int))(hlt:j<m) :
    Ev P ⟨dst,.indexAddr t x i,ty,pos,aft,none⟩ l w (.pointer (some ⟨b,o+j*size,none⟩)):=by
  subst hA;exact HV a d hj hlt
theorem Xr{t:TypeId}{f off:Nat}[TField P t f off]{x:Operand}{p:Option Addr}{b o:Nat}(a:opv l x=some (.pointer p))(hA:p=some ⟨b,o,none⟩):Ev P ⟨dst,.fieldAddr t x f,ty,pos,aft,none⟩ l w (.pointer (some ⟨b,o+off,none⟩)):=by
  subst hA;exact Dd a
theorem Xs{x:Operand}{p:Option Addr}{a:Addr}(b:opv l x=some (.pointer p))(hA:p=some a):Ev P ⟨dst,.nilCheck x,ty,pos,aft,none⟩ l w (.pointer p):=by
  subst hA;exact Na b
theorem Xt{x:Operand}{n:Int}[TInt P 49 .i64](a:opv l x=some (.int .i64 n))(hn:n≠0):Ev P ⟨dst,.makeInterface 49 x,ty,pos,aft,none⟩ l w (ZI n):=by
  rw[JJ hn];exact NK a
theorem KR(a b c d:Int)(w:World):(Op.equal 61 (.agg #[.int .i64 a,.int .i64 b]) (.agg #[.int .i64 c,.int .i64 d])).run prog w=.ok (decide (a=c/\b=d)) w:=by
  have e:∀(n:Nat)(x y:Int)(w:World),(Op.equalIn (n+1) 3 (.int .i64 x) (.int .i64 y)).run prog w=.ok (x==y) w:=λn x y w=>(by simp[Op.equalIn,run_underlying underlying3]);have hs:prog.stoodInHeld 61=false:=(by kernel_rfl);have hd:∀n:Nat,(Op.equalIn (n+2) 61 (.agg #[.int .i64 a,.int .i64 b]) (.agg #[.int .i64 c,.int .i64 d])).run prog w=.ok (decide (a=c/\b=d)) w:=λn=>by
    rw[Op.equalIn];simp[run_underlying underlying61,hs,Go.part,HU (P:=prog) (t:=3),e];by_cases f:a=c<;>by_cases g:b=d<;>simp[f,g]
  exact hd 9998
theorem Yl{u:TypeId}{x y:Operand}{a b c d:Int}(g:opv l x=some (.agg #[.int .i64 a,.int .i64 b]))(h:opv l y=some (.agg #[.int .i64 c,.int .i64 d])):Ev prog ⟨dst,.binOp .eql 61 x y u,ty,pos,aft,none⟩ l w (.bool (decide (a=c/\b=d))):=λ_ _ e f=>by
  simp[execOp,f.eval g,f.eval h,eqGuard,binOp,KR]
theorem Ym{u:TypeId}{x y:Operand}{a b c d:Int}(g:opv l x=some (.agg #[.int .i64 a,.int .i64 b]))(h:opv l y=some (.agg #[.int .i64 c,.int .i64 d])):Ev prog ⟨dst,.binOp .neq 61 x y u,ty,pos,aft,none⟩ l w (.bool (decide (¬(a=c/\b=d)))):=λ_ _ e f=>by
  simp[execOp,f.eval g,f.eval h,eqGuard,binOp,KR]
theorem Sg{t u:TypeId}[TIface P t]{x:Operand}{n:Int}(a:opv l x=some (ZI n)):Ev P ⟨dst,.binOp .eql t x (.const .nilIface) u,ty,pos,aft,none⟩ l w (.bool (decide (n=0))):=by
  by_cases b:n=0
  . subst b;rw[IO]at a;exact Pk a
  . rw[JJ b]at a;simpa[b]using NL (P:=P) (w:=w) (dst:=dst) (ty:=ty) (pos:=pos) (aft:=aft) (t:=t) (u:=u) a
theorem Wq{t u:TypeId}[TIface P t]{x:Operand}{n:Int}(a:opv l x=some (ZI n)):Ev P ⟨dst,.binOp .neq t x (.const .nilIface) u,ty,pos,aft,none⟩ l w (.bool (decide (n≠0))):=by
  by_cases b:n=0
  . subst b;rw[IO]at a;exact NM a
  . rw[JJ b]at a;simpa[b]using MP (P:=P) (w:=w) (dst:=dst) (ty:=ty) (pos:=pos) (aft:=aft) (t:=t) (u:=u) a
theorem Wr{t e u:TypeId}[TPtr P t e]{x:Operand}{p:Option Addr}{b:Bool}(a:p.isNone=b)(c:opv l x=some (.pointer p)):Ev P ⟨dst,.binOp .eql t x (.const (.pointer none)) u,ty,pos,aft,none⟩ l w (.bool (decide (b=true))):=by
  subst a;have:=Pj (P:=P) (w:=w) (dst:=dst) (ty:=ty) (pos:=pos) (aft:=aft) (t:=t) (u:=u) c;cases hb:p.isNone<;>simpa[hb]using this
end
section
variable {P:Program}{n:Nat}{ops:Array Oper}{Q:X0}{rest:List Oper}{l:Env}{w:World}{d:Tmp}{ty:TypeId}{pos:String}{aft:Array Edge}
theorem DM{t u:TypeId}{x y:Operand}{a b c:Int}(e:opv l x=some (.int .i64 a))(f:opv l y=some (.int .i64 b))  (g:owp P n ops Q rest ((d,.int .i64 c)::l) w) (he:W5 (a+b)=some c:=by assumption) (hd:Nat.blt d n=true:=by exact rfl):owp P n ops Q (⟨some d,.binOp .add t x y u,ty,pos,aft,none⟩::rest) l w:=AT (NX e f he) hd g
theorem Hi{t u:TypeId}{x y:Operand}{a b c:Int}(e:opv l x=some (.int .i64 a))(f:opv l y=some (.int .i64 b))  (g:owp P n ops Q rest ((d,.int .i64 c)::l) w) (he:W5 (a-b)=some c:=by assumption) (hd:Nat.blt d n=true:=by exact rfl):owp P n ops Q (⟨some d,.binOp .sub t x y u,ty,pos,aft,none⟩::rest) l w:=AT (Ld e f he) hd g
theorem Mv{t u:TypeId}{x y:Operand}{a b c:Int}(e:opv l x=some (.int .i64 a))(f:opv l y=some (.int .i64 b))(hd:Nat.blt d n=true)(g:owp P n ops Q rest ((d,.int .i64 c)::l) w)(he:W5 (a*b)=some c:=by assumption):owp P n ops Q (⟨some d,.binOp .mul t x y u,ty,pos,aft,none⟩::rest) l w:=AT (SV e f he) hd g
theorem BA{t e:TypeId}[TSlice P t e]{z:Value}{size bytes:Nat}[TInfo P e z size bytes]{x i:Operand}{k:IntKind}{A:Option Addr}{b o m c j:Nat}{q:Int}(a:opv l x=some (.slice A m c))(f:opv l i=some (.int k q))  (g:owp P n ops Q rest ((d,.pointer (some ⟨b,o+j*size,none⟩))::l) w) (hA:A=some ⟨b,o,none⟩:=by assumption) (hj:q=(j:Int):=by rfl) (hlt:j<m:=by assumption) (hd:Nat.blt d n=true:=by exact rfl):owp P n ops Q (⟨some d,.indexAddr t x i,ty,pos,aft,none⟩::rest) l w:=AT (Hx a f hA hj hlt) hd g
theorem Yn{t:TypeId}{f off:Nat}[TField P t f off]{x:Operand}{p:Option Addr}{b o:Nat}(a:opv l x=some (.pointer p))(hd:Nat.blt d n=true)(c:owp P n ops Q rest ((d,.pointer (some ⟨b,o+off,none⟩))::l) w)(hA:p=some ⟨b,o,none⟩:=by assumption):owp P n ops Q (⟨some d,.fieldAddr t x f,ty,pos,aft,none⟩::rest) l w:=AT (Xr a hA) hd c
theorem Yo{x:Operand}{p:Option Addr}{a:Addr}(b:opv l x=some (.pointer p))(hd:Nat.blt d n=true)(c:owp P n ops Q rest ((d,.pointer p)::l) w)(hA:p=some a:=by assumption):owp P n ops Q (⟨some d,.nilCheck x,ty,pos,aft,none⟩::rest) l w:=AT (Xs b hA) hd c
theorem TJ{t e:TypeId}[TSlice P t e]{z:Value}{size bytes:Nat}[TInfo P e z size bytes]{A a:Option Addr}{m c b f:Nat}{q:Int}{k:IntKind}{x y:Operand}(g:opv l x=some (.slice A m c))(h:opv l y=some (.int k q))(hd:Nat.blt d n=true)(i:owp P n ops Q rest ((d,.slice a b f)::l) w)(hc:AaX size A m c q (m:Int) a b f:=by assumption):owp P n ops Q (⟨some d,.slice t x (some y) none none,ty,pos,aft,none⟩::rest) l w:=AT (Wn g h hc) hd i
theorem TK{t e:TypeId}[TSlice P t e]{z:Value}{size bytes:Nat}[TInfo P e z size bytes]{A a:Option Addr}{m c b f:Nat}{q:Int}{k:IntKind}{x y:Operand}(g:opv l x=some (.slice A m c))(h:opv l y=some (.int k q))(hd:Nat.blt d n=true)(i:owp P n ops Q rest ((d,.slice a b f)::l) w)(hc:AaX size A m c 0 q a b f:=by assumption):owp P n ops Q (⟨some d,.slice t x none (some y) none,ty,pos,aft,none⟩::rest) l w:=AT (Wo g h hc) hd i
theorem Da[TInt P 49 .i64]{x:Operand}{q:Int}(a:opv l x=some (.int .i64 q))  (b:owp P n ops Q rest ((d,ZI q)::l) w) (hn:q≠0:=by decide) (hd:Nat.blt d n=true:=by exact rfl):owp P n ops Q (⟨some d,.makeInterface 49 x,ty,pos,aft,none⟩::rest) l w:=AT (Xt a hn) hd b
theorem NY{t u:TypeId}[TIface P t]{x:Operand}{k:Int}(a:opv l x=some (ZI k))(hd:Nat.blt d n=true)(b:k=0->owp P n ops Q rest ((d,.bool true)::l) w)(hf:¬(k=0)->owp P n ops Q rest ((d,.bool false)::l) w):owp P n ops Q (⟨some d,.binOp .eql t x (.const .nilIface) u,ty,pos,aft,none⟩::rest) l w:=FR (Sg a) hd b hf
theorem Cy{t u:TypeId}[TIface P t]{x:Operand}{k:Int}(a:opv l x=some (ZI k))  (b:k≠0->owp P n ops Q rest ((d,.bool true)::l) w) (hf:¬(k≠0)->owp P n ops Q rest ((d,.bool false)::l) w) (hd:Nat.blt d n=true:=by exact rfl):owp P n ops Q (⟨some d,.binOp .neq t x (.const .nilIface) u,ty,pos,aft,none⟩::rest) l w:=FR (Wq a) hd b hf
theorem VZ{t e u:TypeId}[TPtr P t e]{x:Operand}{p:Option Addr}{b:Bool}(a:p.isNone=b)(c:opv l x=some (.pointer p))(hd:Nat.blt d n=true)(f:b=true->owp P n ops Q rest ((d,.bool true)::l) w)(hf:¬(b=true)->owp P n ops Q rest ((d,.bool false)::l) w):owp P n ops Q (⟨some d,.binOp .eql t x (.const (.pointer none)) u,ty,pos,aft,none⟩::rest) l w:=FR (Wr a c) hd f hf
variable {S:World → Prop}{r:List (Nat × Bool)}{i:Nat}
theorem Yp{u:TypeId}{x y:Operand}{a b c e:Int}(hi:ops[i]?=some ⟨some d,.binOp .eql 61 x y u,ty,pos,aft,none⟩)(f:opv l x=some (.agg #[.int .i64 a,.int .i64 b]))(g:opv l y=some (.agg #[.int .i64 c,.int .i64 e]))(hd:Nat.blt d n=true)(h:a=c/\b=e->hwp prog n ops Q S r ((d,.bool true)::l) w)(hf:¬(a=c/\b=e)->hwp prog n ops Q S r ((d,.bool false)::l) w):hwp prog n ops Q S ((i,true)::r) l w:=AB hi (AY (λ_ _=>Yl f g) (hn:=hd) h hf)
theorem Yq{u:TypeId}{x y:Operand}{a b c e:Int}(hi:ops[i]?=some ⟨some d,.binOp .neq 61 x y u,ty,pos,aft,none⟩)(f:opv l x=some (.agg #[.int .i64 a,.int .i64 b]))(g:opv l y=some (.agg #[.int .i64 c,.int .i64 e]))(hd:Nat.blt d n=true)(h:¬(a=c/\b=e)->hwp prog n ops Q S r ((d,.bool true)::l) w)(hf:¬(¬(a=c/\b=e))->hwp prog n ops Q S r ((d,.bool false)::l) w):hwp prog n ops Q S ((i,true)::r) l w:=AB hi (AY (λ_ _=>Ym f g) (hn:=hd) h hf)
theorem Jh{t u:TypeId}{x y:Operand}{a b c:Int}(hi:ops[i]?=some ⟨some d,.binOp .add t x y u,ty,pos,aft,none⟩)(e:opv l x=some (.int .i64 a))(f:opv l y=some (.int .i64 b))  (g:hwp P n ops Q S r ((d,.int .i64 c)::l) w) (he:W5 (a+b)=some c:=by assumption) (hd:Nat.blt d n=true:=by exact rfl):hwp P n ops Q S ((i,true)::r) l w:=AB hi (Bv (λ_ _=>NX e f he) hd g)
theorem Yr{t u:TypeId}{x y:Operand}{a b c:Int}(hi:ops[i]?=some ⟨some d,.binOp .sub t x y u,ty,pos,aft,none⟩)(e:opv l x=some (.int .i64 a))(f:opv l y=some (.int .i64 b))(hd:Nat.blt d n=true)(g:hwp P n ops Q S r ((d,.int .i64 c)::l) w)(he:W5 (a-b)=some c:=by assumption):hwp P n ops Q S ((i,true)::r) l w:=AB hi (Bv (λ_ _=>Ld e f he) hd g)
theorem Wa{t u:TypeId}{x y:Operand}{a b c:Int}(e:opv l x=some (.int .i64 a))(f:opv l y=some (.int .i64 b))(hd:Nat.blt d n=true)(g:hwp P n ops Q S r ((d,.int .i64 c)::l) w)(he:W5 (a-b)=some c:=by assumption):hwq P n ops Q S ⟨some d,.binOp .sub t x y u,ty,pos,aft,none⟩ r l w:=Bv (λ_ _=>Ld e f he) hd g
theorem CX{t e:TypeId}[TSlice P t e]{z:Value}{size bytes:Nat}[TInfo P e z size bytes]{x a:Operand}{k:IntKind}{A:Option Addr}{b o m c j:Nat}{q:Int}(hi:ops[i]?=some ⟨some d,.indexAddr t x a,ty,pos,aft,none⟩)(f:opv l x=some (.slice A m c))(g:opv l a=some (.int k q))  (h:hwp P n ops Q S r ((d,.pointer (some ⟨b,o+j*size,none⟩))::l) w) (hA:A=some ⟨b,o,none⟩:=by assumption) (hj:q=(j:Int):=by rfl) (hlt:j<m:=by assumption) (hd:Nat.blt d n=true:=by exact rfl):hwp P n ops Q S ((i,true)::r) l w:=AB hi (Bv (λ_ _=>Hx f g hA hj hlt) hd h)
theorem Ys{t e:TypeId}[TSlice P t e]{z:Value}{size bytes:Nat}[TInfo P e z size bytes]{x a:Operand}{k:IntKind}{A:Option Addr}{b o m c j:Nat}{q:Int}(f:opv l x=some (.slice A m c))(g:opv l a=some (.int k q))(hd:Nat.blt d n=true)(h:hwp P n ops Q S r ((d,.pointer (some ⟨b,o+j*size,none⟩))::l) w)(hA:A=some ⟨b,o,none⟩:=by assumption)(hj:q=(j:Int):=by rfl)(hlt:j<m:=by assumption):hwq P n ops Q S ⟨some d,.indexAddr t x a,ty,pos,aft,none⟩ r l w:=Bv (λ_ _=>Hx f g hA hj hlt) hd h
end
end
section
open Go Go.RowKit
abbrev U64:=BitVec 64
instance:Rp U64 where
  isAgg:=false
  size:=1
  R _ _ cs x:=cs=[.int .u64 (x.toNat:Int)]
  len:=by rintro w F cs x rfl;rfl
  one:=by
    rintro w F cs x rfl u hu;have:u=.int .u64 (x.toNat:Int):=(by simpa using hu);subst this;rfl
  agree:=λa _=>a
  mono:=λa _=>a
theorem Vb.u64{w:World}{F:Nat->Prop}{v:Value}{x:U64}(a:Vb w F v x):v=.int .u64 (x.toNat:Int):=by
  have:[v]=[.int .u64 (x.toNat:Int)]:=a;simpa using this
theorem vU64{w:World}{F:Nat->Prop}{x:U64}:Vb w F (.int .u64 (x.toNat:Int)) x:=rfl
theorem AaD(a:Int):IntKind.u64.wrap a=a%18446744073709551616:=by simp[IntKind.wrap,IntKind.bits,IntKind.signed]
theorem Abf(x:BitVec 64):IntKind.u64.wrap (x.toNat:Int)=(x.toNat:Int):=by
  rw[AaD];have:=x.isLt;omega
theorem Zq(x:U64):BitVec.ofInt 64 (x.toNat:Int)=x:=by simp
def Aay(a:U64)(q:Int):Option U64:=if 0<=q then some (a<<<q.toNat)else none
def Z4(a:U64)(q:Int):Option U64:=if 0<=q then some (a>>>q.toNat)else none
def AaI(a q:Int):Option Int:=if 0<=q then some (wr (a*2 ^ (min q.toNat 64)))else none
theorem Qu{a q c:Int}(b:AaI a q=some c):W1 c:=by
  unfold AaI at b;split at b
  . rw[<- sm b];exact TD _
  . cases b
theorem Abm(a:U64):W1 a.toInt:=by
  have b:=BitVec.toInt_lt (x:=a);have c:=BitVec.le_toInt (x:=a);simp at b c;exact⟨by omega,by omega⟩
section
variable {P:Program}{l:Env}{w:World}{dst:Option Tmp}{ty:TypeId}{pos:String}{aft:Array Edge}
theorem Xu{t u:TypeId}{x y:Operand}{a b:U64}(e:opv l x=some (.int .u64 (a.toNat:Int)))(f:opv l y=some (.int .u64 (b.toNat:Int))):Ev P ⟨dst,.binOp .and t x y u,ty,pos,aft,none⟩ l w (.int .u64 ((a&&&b).toNat:Int)):=λ_ _ d c=>by
  have i:=Abf (a&&&b);have g:(BitVec.ofInt IntKind.u64.bits (a.toNat:Int))=a:=Zq a;have h:(BitVec.ofInt IntKind.u64.bits (b.toNat:Int))=b:=Zq b;simp only[execOp,c.eval e,c.eval f,eqGuard,binOp,Op.intBits,g,h];simp;exact i.trans (by simp)
theorem Xv{t u:TypeId}{x y:Operand}{a b:U64}(e:opv l x=some (.int .u64 (a.toNat:Int)))(f:opv l y=some (.int .u64 (b.toNat:Int))):Ev P ⟨dst,.binOp .or t x y u,ty,pos,aft,none⟩ l w (.int .u64 ((a|||b).toNat:Int)):=λ_ _ d c=>by
  have i:=Abf (a|||b);have g:(BitVec.ofInt IntKind.u64.bits (a.toNat:Int))=a:=Zq a;have h:(BitVec.ofInt IntKind.u64.bits (b.toNat:Int))=b:=Zq b;simp only[execOp,c.eval e,c.eval f,eqGuard,binOp,Op.intBits,g,h];simp;exact i.trans (by simp)
theorem Xw{t u:TypeId}{x y:Operand}{a b:U64}(e:opv l x=some (.int .u64 (a.toNat:Int)))(f:opv l y=some (.int .u64 (b.toNat:Int))):Ev P ⟨dst,.binOp .xor t x y u,ty,pos,aft,none⟩ l w (.int .u64 ((a ^^^ b).toNat:Int)):=λ_ _ d c=>by
  have i:=Abf (a ^^^ b);have g:(BitVec.ofInt IntKind.u64.bits (a.toNat:Int))=a:=Zq a;have h:(BitVec.ofInt IntKind.u64.bits (b.toNat:Int))=b:=Zq b;simp only[execOp,c.eval e,c.eval f,eqGuard,binOp,Op.intBits,g,h];simp;exact i.trans (by simp)
theorem Xx{t u:TypeId}{x y:Operand}{a b:U64}(e:opv l x=some (.int .u64 (a.toNat:Int)))(f:opv l y=some (.int .u64 (b.toNat:Int))):Ev P ⟨dst,.binOp .andNot t x y u,ty,pos,aft,none⟩ l w (.int .u64 ((a &&& ~~~b).toNat:Int)):=λ_ _ d c=>by
  have i:=Abf (a &&& ~~~b);have g:(BitVec.ofInt IntKind.u64.bits (a.toNat:Int))=a:=Zq a;have h:(BitVec.ofInt IntKind.u64.bits (b.toNat:Int))=b:=Zq b;simp only[execOp,c.eval e,c.eval f,eqGuard,binOp,Op.intBits,g,h];simp;exact i.trans (by simp)
theorem Xy{t u:TypeId}{x y:Operand}{a b:U64}(e:opv l x=some (.int .u64 (a.toNat:Int)))(f:opv l y=some (.int .u64 (b.toNat:Int))):Ev P ⟨dst,.binOp .add t x y u,ty,pos,aft,none⟩ l w (.int .u64 ((a+b).toNat:Int)):=λ_ _ d c=>by
  have i:IntKind.u64.wrap ((a.toNat:Int)+(b.toNat:Int))=((a+b).toNat:Int):=by
    rw[AaD];have g:=a.isLt;have h:=b.isLt;rw[BitVec.toNat_add];omega
  simp[execOp,c.eval e,c.eval f,eqGuard,binOp,Op.intArith,i]
theorem Xz{t u:TypeId}{x y:Operand}{a b:U64}(e:opv l x=some (.int .u64 (a.toNat:Int)))(f:opv l y=some (.int .u64 (b.toNat:Int))):Ev P ⟨dst,.binOp .sub t x y u,ty,pos,aft,none⟩ l w (.int .u64 ((a-b).toNat:Int)):=λ_ _ d c=>by
  have i:IntKind.u64.wrap ((a.toNat:Int)-(b.toNat:Int))=((a-b).toNat:Int):=by
    rw[AaD];have g:=a.isLt;have h:=b.isLt;rw[BitVec.toNat_sub];omega
  simp[execOp,c.eval e,c.eval f,eqGuard,binOp,Op.intArith,i]
theorem XA{t u:TypeId}{x y:Operand}{a b:U64}(e:opv l x=some (.int .u64 (a.toNat:Int)))(f:opv l y=some (.int .u64 (b.toNat:Int))):Ev P ⟨dst,.binOp .mul t x y u,ty,pos,aft,none⟩ l w (.int .u64 ((a*b).toNat:Int)):=λ_ _ d c=>by
  have i:IntKind.u64.wrap ((a.toNat:Int)*(b.toNat:Int))=((a*b).toNat:Int):=by
    rw[AaD];have g:=a.isLt;have h:=b.isLt;rw[BitVec.toNat_mul,Int.natCast_emod,Q0];rfl
  simp[execOp,c.eval e,c.eval f,eqGuard,binOp,Op.intArith,i]
theorem XB{t u:TypeId}{x y:Operand}{a c:U64}{q:Int}{k:IntKind}(e:opv l x=some (.int .u64 (a.toNat:Int)))(f:opv l y=some (.int k q))(he:Aay a q=some c):Ev P ⟨dst,.binOp .shl t x y u,ty,pos,aft,none⟩ l w (.int .u64 (c.toNat:Int)):=λ_ _ d b=>by
  unfold Aay at he;split at he
  . rename_i hq;have hc:=sm he;subst hc;have i:IntKind.u64.wrap ((a.toNat:Int)*2 ^ (min q.toNat IntKind.u64.bits))=((a<<<q.toNat).toNat:Int):=by
      rw[AaD,BitVec.toNat_shiftLeft,Nat.shiftLeft_eq];show(a.toNat:Int)*2 ^ (min q.toNat 64)%18446744073709551616=((a.toNat*2 ^ q.toNat%18446744073709551616:Nat):Int);by_cases hk:q.toNat<=64
      . rw[Q8 hk,Int.natCast_emod,Q0,Int.natCast_pow];rfl
      . have hb:q.toNat=64+(q.toNat-64):=(by omega);rw[P3 (by omega),hb,Nat.pow_add];have g:a.toNat*(2 ^ 64*2 ^ (q.toNat-64))%18446744073709551616=0:=by
          rw[<- Nat.mul_assoc,Nat.mul_right_comm];exact Nat.mul_mod_left _ _
        have h:(a.toNat:Int)*2 ^ 64%18446744073709551616=0:=Int.mul_emod_left _ _;rw[g,h];rfl
    have hn:¬q<0:=(by omega);simp[execOp,b.eval e,b.eval f,eqGuard,binOp,Op.shift,hn,i]
  . cases he
theorem TL{t u:TypeId}{x y:Operand}{a c:U64}{q:Int}{k:IntKind}(e:opv l x=some (.int .u64 (a.toNat:Int)))(f:opv l y=some (.int k q))(he:Z4 a q=some c):Ev P ⟨dst,.binOp .shr t x y u,ty,pos,aft,none⟩ l w (.int .u64 (c.toNat:Int)):=λ_ _ d b=>by
  unfold Z4 at he;split at he
  . rename_i hq;have hc:=sm he;subst hc;have h:(a.toNat:Int).fdiv (2 ^ (min q.toNat IntKind.u64.bits))=((a>>>q.toNat).toNat:Int):=by
      rw[BitVec.toNat_ushiftRight,Nat.shiftRight_eq_div_pow];show(a.toNat:Int).fdiv (2 ^ (min q.toNat 64))=_;have hl:=a.isLt;rw[Int.fdiv_eq_ediv_of_nonneg _ (by exact_mod_cast V5 (2 ^ (min q.toNat 64)))];by_cases hk:q.toNat<=64
      . rw[Q8 hk,Int.natCast_ediv,Int.natCast_pow];rfl
      . rw[P3 (by omega)];have g:a.toNat/2 ^ q.toNat=0:=Nat.div_eq_of_lt (K1 hl (Nat.pow_le_pow_right (by decide) (by omega)));rw[g];omega
    have hn:¬q<0:=(by omega);simp[execOp,b.eval e,b.eval f,eqGuard,binOp,Op.shift,hn,h]
  . cases he
theorem XD{t u:TypeId}{x y:Operand}{a c q:Int}(e:opv l x=some (.int .i64 a))(f:opv l y=some (.int .i64 q))(he:AaI a q=some c):Ev P ⟨dst,.binOp .shl t x y u,ty,pos,aft,none⟩ l w (.int .i64 c):=λ_ _ d b=>by
  unfold AaI at he;split at he
  . rename_i hq;have hc:=sm he;subst hc;have hn:¬q<0:=(by omega);simp[execOp,b.eval e,b.eval f,eqGuard,binOp,Op.shift,hn,wr,IntKind.bits]
  . cases he
theorem TM{s t:TypeId}{k:IntKind}[hs:TInt P s k][b:TInt P t .u64]{x:Operand}{a:Int}(c:opv l x=some (.int k a)):Ev P ⟨dst,.convert s t x,ty,pos,aft,none⟩ l w (.int .u64 ((BitVec.ofInt 64 a).toNat:Int)):=λ_ _ d e=>by
  have f:IntKind.u64.wrap a=((BitVec.ofInt 64 a).toNat:Int):=by
    rw[AaD,BitVec.toNat_ofInt];have:(0:Int)<=a%18446744073709551616:=(by omega);simp;omega
  simp[execOp,e.eval c,convert,run_underlying hs.eq,run_underlying b.eq,Conv.intToInt,f]
theorem TN{s t:TypeId}[hs:TInt P s .u64][b:TInt P t .i64]{x:Operand}{a:U64}(c:opv l x=some (.int .u64 (a.toNat:Int))):Ev P ⟨dst,.convert s t x,ty,pos,aft,none⟩ l w (.int .i64 a.toInt):=λ_ _ d e=>by
  have f:IntKind.i64.wrap (a.toNat:Int)=a.toInt:=by
    rw[IntKind.wrap_i64,BitVec.toInt_eq_toNat_cond];have:=a.isLt;split<;>omega
  simp[execOp,e.eval c,convert,run_underlying hs.eq,run_underlying b.eq,Conv.intToInt,f]
end
section
variable {P:Program}{n:Nat}{ops:Array Oper}{Q:X0}{rest:List Oper}{l:Env}{w:World}{d:Tmp}{ty:TypeId}{pos:String}{aft:Array Edge}
theorem Wb{t u:TypeId}{x y:Operand}{a b:U64}(c:opv l x=some (.int .u64 (a.toNat:Int)))(e:opv l y=some (.int .u64 (b.toNat:Int)))(hd:Nat.blt d n=true)(f:owp P n ops Q rest ((d,.int .u64 ((a ^^^ b).toNat:Int))::l) w)  : owp P n ops Q (⟨some d,.binOp .xor t x y u,ty,pos,aft,none⟩::rest) l w:=AT (Xw c e) hd f
theorem Yt{t u:TypeId}{x y:Operand}{a b:U64}(c:opv l x=some (.int .u64 (a.toNat:Int)))(e:opv l y=some (.int .u64 (b.toNat:Int)))(hd:Nat.blt d n=true)(f:owp P n ops Q rest ((d,.int .u64 ((a+b).toNat:Int))::l) w)  : owp P n ops Q (⟨some d,.binOp .add t x y u,ty,pos,aft,none⟩::rest) l w:=AT (Xy c e) hd f
theorem Yu{t u:TypeId}{x y:Operand}{a b:U64}(c:opv l x=some (.int .u64 (a.toNat:Int)))(e:opv l y=some (.int .u64 (b.toNat:Int)))(hd:Nat.blt d n=true)(f:owp P n ops Q rest ((d,.int .u64 ((a*b).toNat:Int))::l) w)  : owp P n ops Q (⟨some d,.binOp .mul t x y u,ty,pos,aft,none⟩::rest) l w:=AT (XA c e) hd f
theorem SW{t u:TypeId}{x y:Operand}{a c:U64}{q:Int}{k:IntKind}(b:opv l x=some (.int .u64 (a.toNat:Int)))(e:opv l y=some (.int k q))(hd:Nat.blt d n=true)(f:owp P n ops Q rest ((d,.int .u64 (c.toNat:Int))::l) w)(he:Z4 a q=some c:=by assumption):owp P n ops Q (⟨some d,.binOp .shr t x y u,ty,pos,aft,none⟩::rest) l w:=AT (TL b e he) hd f
theorem Yv{t u:TypeId}{x y:Operand}{a c q:Int}(b:opv l x=some (.int .i64 a))(e:opv l y=some (.int .i64 q))(hd:Nat.blt d n=true)(f:owp P n ops Q rest ((d,.int .i64 c)::l) w)(he:AaI a q=some c:=by assumption):owp P n ops Q (⟨some d,.binOp .shl t x y u,ty,pos,aft,none⟩::rest) l w:=AT (XD b e he) hd f
theorem Wc{s t:TypeId}{k:IntKind}[TInt P s k][TInt P t .u64]{x:Operand}{a:Int}(b:opv l x=some (.int k a))(hd:Nat.blt d n=true)(c:owp P n ops Q rest ((d,.int .u64 ((BitVec.ofInt 64 a).toNat:Int))::l) w)  : owp P n ops Q (⟨some d,.convert s t x,ty,pos,aft,none⟩::rest) l w:=AT (TM b) hd c
theorem Wd{s t:TypeId}[TInt P s .u64][TInt P t .i64]{x:Operand}{a:U64}(b:opv l x=some (.int .u64 (a.toNat:Int)))(hd:Nat.blt d n=true)(c:owp P n ops Q rest ((d,.int .i64 a.toInt)::l) w)  : owp P n ops Q (⟨some d,.convert s t x,ty,pos,aft,none⟩::rest) l w:=AT (TN b) hd c
variable {S:World → Prop}{r:List (Nat × Bool)}{i:Nat}
theorem Yw{t u:TypeId}{x y:Operand}{a b:U64}(hi:ops[i]?=some ⟨some d,.binOp .and t x y u,ty,pos,aft,none⟩)(c:opv l x=some (.int .u64 (a.toNat:Int)))(e:opv l y=some (.int .u64 (b.toNat:Int)))(hd:Nat.blt d n=true)(f:hwp P n ops Q S r ((d,.int .u64 ((a&&&b).toNat:Int))::l) w)  : hwp P n ops Q S ((i,true)::r) l w:=AB hi (Bv (λ_ _=>Xu c e) hd f)
theorem Yx{t u:TypeId}{x y:Operand}{a b:U64}(hi:ops[i]?=some ⟨some d,.binOp .or t x y u,ty,pos,aft,none⟩)(c:opv l x=some (.int .u64 (a.toNat:Int)))(e:opv l y=some (.int .u64 (b.toNat:Int)))(hd:Nat.blt d n=true)(f:hwp P n ops Q S r ((d,.int .u64 ((a|||b).toNat:Int))::l) w)  : hwp P n ops Q S ((i,true)::r) l w:=AB hi (Bv (λ_ _=>Xv c e) hd f)
theorem Yy{t u:TypeId}{x y:Operand}{a b:U64}(hi:ops[i]?=some ⟨some d,.binOp .andNot t x y u,ty,pos,aft,none⟩)(c:opv l x=some (.int .u64 (a.toNat:Int)))(e:opv l y=some (.int .u64 (b.toNat:Int)))(hd:Nat.blt d n=true)(f:hwp P n ops Q S r ((d,.int .u64 ((a &&& ~~~b).toNat:Int))::l) w)  : hwp P n ops Q S ((i,true)::r) l w:=AB hi (Bv (λ_ _=>Xx c e) hd f)
theorem Yz{t u:TypeId}{x y:Operand}{a b:U64}(hi:ops[i]?=some ⟨some d,.binOp .sub t x y u,ty,pos,aft,none⟩)(c:opv l x=some (.int .u64 (a.toNat:Int)))(e:opv l y=some (.int .u64 (b.toNat:Int)))(hd:Nat.blt d n=true)(f:hwp P n ops Q S r ((d,.int .u64 ((a-b).toNat:Int))::l) w)  : hwp P n ops Q S ((i,true)::r) l w:=AB hi (Bv (λ_ _=>Xz c e) hd f)
theorem SX{t u:TypeId}{x y:Operand}{a c:U64}{q:Int}{k:IntKind}(hi:ops[i]?=some ⟨some d,.binOp .shl t x y u,ty,pos,aft,none⟩)(b:opv l x=some (.int .u64 (a.toNat:Int)))(e:opv l y=some (.int k q))(hd:Nat.blt d n=true)(f:hwp P n ops Q S r ((d,.int .u64 (c.toNat:Int))::l) w)(he:Aay a q=some c:=by assumption):hwp P n ops Q S ((i,true)::r) l w:=AB hi (Bv (λ_ _=>XB b e he) hd f)
theorem YA{t u:TypeId}{x y:Operand}{a c:U64}{q:Int}{k:IntKind}(hi:ops[i]?=some ⟨some d,.binOp .shr t x y u,ty,pos,aft,none⟩)(b:opv l x=some (.int .u64 (a.toNat:Int)))(e:opv l y=some (.int k q))(hd:Nat.blt d n=true)(f:hwp P n ops Q S r ((d,.int .u64 (c.toNat:Int))::l) w)(he:Z4 a q=some c:=by assumption):hwp P n ops Q S ((i,true)::r) l w:=AB hi (Bv (λ_ _=>TL b e he) hd f)
theorem YB{s t:TypeId}{k:IntKind}[TInt P s k][TInt P t .u64]{x:Operand}{a:Int}(hi:ops[i]?=some ⟨some d,.convert s t x,ty,pos,aft,none⟩)(b:opv l x=some (.int k a))(hd:Nat.blt d n=true)(c:hwp P n ops Q S r ((d,.int .u64 ((BitVec.ofInt 64 a).toNat:Int))::l) w)  : hwp P n ops Q S ((i,true)::r) l w:=AB hi (Bv (λ_ _=>TM b) hd c)
theorem YC{s t:TypeId}[TInt P s .u64][TInt P t .i64]{x:Operand}{a:U64}(hi:ops[i]?=some ⟨some d,.convert s t x,ty,pos,aft,none⟩)(b:opv l x=some (.int .u64 (a.toNat:Int)))(hd:Nat.blt d n=true)(c:hwp P n ops Q S r ((d,.int .i64 a.toInt)::l) w)  : hwp P n ops Q S ((i,true)::r) l w:=AB hi (Bv (λ_ _=>TN b) hd c)
end
end
section
open Go Go.RowKit
class TCon(P:Program)(t:TypeId):Prop where eq:∃d,P.underlying t=some d/\(match d with|.interface _=>false|_=>true)=true
instance{P:Program}{t e:TypeId}[a:TPtr P t e]:TCon P t:=⟨⟨_,a.eq,rfl⟩⟩
instance{P:Program}{t:TypeId}[b:TAgg P t]:TCon P t:=⟨by obtain⟨d,h1,a⟩:=b.eq;exact⟨d,h1,by cases d<;>first|rfl|cases a⟩⟩
class TMth(P:Program)(t:TypeId)(name:String)(f:outParam FuncId)(b:outParam Bool):Prop where
  eq:((P.info? t).bind λi=>i.methods.find? (·.name==name)).map (λm=>(m.path.toList,m.func))=some ([],some (f,b))
def Mth(P:Program)(t:TypeId)(v:Value)(name:String)(w:World)(f:FuncId)(r:Value):Prop:=∀d,(method (P.types.size+Made.depth) t v name).run P (dr w d)=.ok (f,r) (dr w d)
section
variable {P:Program}{t e:TypeId}{name:String}{f:FuncId}{w:World}
theorem TMth.row{b:Bool}(d:TMth P t name f b):∃i m,P.info? t=some i/\i.methods.find? (·.name==name)=some m/\m.path.toList=[]/\m.func=some (f,b):=by
  obtain⟨m,h1,h2⟩:=E7.1 d.eq;obtain⟨i,h3,h4⟩:=Option.bind_eq_some_iff.1 h1;injection h2 with a c;exact⟨i,m,h3,h4,a,c⟩
theorem Mw{v:Value}[hm:TMth P t name f true][a:TPtr P t e]:Mth P t v name w f v:=λd=>by
  obtain⟨i,m,h1,h2,h3,h4⟩:=hm.row;show(method ((P.types.size+99)+1) t v name).run P (dr w d)=_;rw[method];simp[typeInfo,h1,h2,h3,h4,follow,receiverAt,run_underlying a.eq,Place.get]
theorem RF(b:Array TypeId)(a:Addr)(x y:String):(Builtin.ssaWrapNilChk_ b t #[.pointer (some a),strVal x,strVal y]).run P w=.ok (.pointer (some a)) w:=rfl
theorem EQ{a:Addr}{u:Value}[hm:TMth P t name f false][c:TPtr P t e][TOne P e](hc:w.cell? a=some u):Mth P t (.pointer (some a)) name w f u:=λd=>by
  obtain⟨i,m,h1,h2,h3,h4⟩:=hm.row;have g:m.path=#[]:=(by cases b:m.path;rw[b]at h3;simp at h3;rw[h3]);have hl:(load a).run P (dr w d)=.ok u (dr w d):=(by simp[load,Sem.run,KM,hc]);show(method ((P.types.size+99)+1) t _ name).run P (dr w d)=_;rw[method];simp[typeInfo,h1,h2,h4,g,follow,receiverAt,run_underlying c.eq,Place.get,RF,asAddr,loadVar,HU,KM,hc]
end
section
variable {P:Program}{n:Nat}{ops:Array Oper}{Q:X0}{rest:List Oper}{l:Env}{w:World}{d:Tmp}{ty:TypeId}{pos:String}{aft:Array Edge}
theorem Sh{f:FuncId}[hf:Callable P f]{y:Operand}{name:String}{t:TypeId}{v r:Value}{xs:List Operand}{vs:List Value}{h:Array TypeId}{R:Value->World->Prop}(hm:Mth P t v name w f r)(j:opv l y=some (.iface t v))(k:X5 l xs=some vs)(hd:Nat.blt d n=true)(hc:Fn P f (r::vs) w R)
    (o:∀v w',R v w'->owp P n ops Q rest ((d,v)::l) w'):owp P n ops Q (⟨some d,.call { callee:=.invoke y name,args:=xs.toArray,argTypes:=h },ty,pos,aft,none⟩::rest) l w :=
  Il λa e b K m=>by
    obtain⟨i,h1,h2,h3⟩:=hf.eq;have c:¬i.body=none:=λe=>(by rw[e]at h2;simp at h2);have g : ¬i.name = "runtime.NumGoroutine" := fun e=>by rw[e]at h3; simp at h3
    unfold Oper.wp;have:(execOp a.eval ⟨some d,.call { callee:=.invoke y name,args:=xs.toArray,argTypes:=h },ty,pos,aft,none⟩).run P (dr w e)=.ok (.enter f (r::vs).toArray) (dr w e):=by
      simp[execOp,resolve,b.eval j,invoke,callMethod,hm e,callFunc,h1,c,g,b.evals k]
    rw[this];exact(hc e).mono λ_ _ ⟨v,w₀,d',he,hw,hR⟩=>by subst he;subst hw;exact m _ _ (o v w₀ hR _ _ (b.put hd v))
theorem Hy{g:Nat->Prop}{f:FuncId}[Callable P f]{y:Operand}{name:String}{t:TypeId}{v r:Value}{xs:List Operand}{vs:List Value}{b:Array TypeId}{O:Lab}{R:Value->World->Lab->Prop}
    (hc:Fn P f (r::vs) w λv w'=>∃a,St g w O w' a/\R v w' a) (hm:Mth P t v name w f r) (c:opv l y=some (.iface t v)) (e:X5 l xs=some vs)
    (h:∀v w' a,St g w O w' a->R v w' a->owp P n ops Q rest ((d,v)::l) w') (hd:Nat.blt d n=true:=by exact rfl):owp P n ops Q (⟨some d,.call { callee:=.invoke y name,args:=xs.toArray,argTypes:=b },ty,pos,aft,none⟩::rest) l w :=
  Sh hm c e hd hc λv w' ⟨a,hS,hR⟩=>h v w' a hS hR
theorem Hz{f:FuncId}[Callable P f]{y:Operand}{name:String}{t:TypeId}{v r:Value}{xs:List Operand}{vs:List Value}{a:Array TypeId}{O:Lab}{A:Nat->Prop}{R:World->(Nat->Prop)->Value->Prop}(hc:Fn P f (r::vs) w λv w'=>Ext w w'/\R w' (upA A w w') v)(hm:Mth P t v name w f r)(b:opv l y=some (.iface t v))(c:X5 l xs=some vs)
    (h:∀v w' e,St nT w O w' e->R w' (upA A w w') v->owp P n ops Q rest ((d,v)::l) w') (hd:Nat.blt d n=true:=by exact rfl):owp P n ops Q (⟨some d,.call { callee:=.invoke y name,args:=xs.toArray,argTypes:=a },ty,pos,aft,none⟩::rest) l w :=
  Sh hm b c hd hc λv w' ⟨g,hR⟩=>h v w' (upO O w.heap.size λ_=>0) (g.st O _) hR
end
def Zn(a b:Int):Option Int:=if 0<b then some (if 0<=a then a/b else -((-a)/b))else none
theorem OR{a b r:Int}(e:Zn a b=some r)(d:W1 a):W1 r:=by
  unfold Zn at e;split at e
  . rename_i hb;rw[<- sm e];unfold W1 at *
    split
    . rename_i c;have:=Int.ediv_le_self b c;have:=Int.ediv_nonneg c (show 0<=b by omega);omega
    . have c:0<=-a:=(by omega);have:=Int.ediv_le_self b c;have:=Int.ediv_nonneg c (show 0<=b by omega);omega
  . cases e
theorem XE{P:Program}{l:Env}{w:World}{dst:Option Tmp}{ty:TypeId}{pos:String}{aft:Array Edge}{t u:TypeId}{x y:Operand}{a b c:Int}(f:opv l x=some (.int .i64 a))(g:opv l y=some (.int .i64 b))(he:Zn a b=some c)(hr:W1 a):Ev P ⟨dst,.binOp .quo t x y u,ty,pos,aft,none⟩ l w (.int .i64 c):=λ_ _ d e=>by
  have hc:=OR he hr;unfold Zn at he;split at he
  . rename_i hb;have hn:b≠0:=(by omega);have h:a.tdiv b=c:=by
      rw[<- sm he];split
      . rename_i h0;exact Int.tdiv_eq_ediv_of_nonneg h0
      . rw[<- Int.tdiv_eq_ediv_of_nonneg (show 0<=-a by omega),Int.neg_tdiv,Int.neg_neg]
    simp[execOp,e.eval f,e.eval g,eqGuard,binOp,Op.intDiv,hn,h,wrap_i64 hc.1 hc.2]
  . cases he
structure An(t:TypeId)(α:Type) where
  x:α
instance{t:TypeId}{α:Type}[Rp α]:Rp (An t α) where
  isAgg:=false
  size:=1
  R w F cs a:=∃v,cs=[.iface t v]/\Vb w F v a.x
  len:=by rintro w F cs x ⟨v,rfl,_⟩;rfl
  one:=by
    rintro w F cs x ⟨v,rfl,_⟩ u hu;have:u=.iface t v:=(by simpa using hu);subst this;rfl
  agree:=by rintro w w' F cs x ⟨v,rfl,h⟩ ha;exact⟨v,rfl,h.agree ha⟩
  mono:=by rintro w F G cs x ⟨v,rfl,h⟩ ha;exact⟨v,rfl,h.mono ha⟩
theorem Vb.any{w:World}{F:Nat->Prop}{v:Value}{t:TypeId}{α:Type}[Rp α]{x:An t α}(a:Vb w F v x):∃u,v=.iface t u/\Vb w F u x.x:=by
  obtain⟨u,hu,h'⟩:=a;exact⟨u,by simpa using hu,h'⟩
theorem Aaw{w:World}{F:Nat->Prop}{v:Value}{t:TypeId}{α:Type}[Rp α]{x:α}(a:Vb w F v x):Vb w F (.iface t v) (⟨x⟩:An t α):=⟨v,rfl,a⟩
section
variable {P:Program}{l:Env}{w:World}{dst:Option Tmp}{ty:TypeId}{pos:String}{aft:Array Edge}
theorem XF{t:TypeId}[hk:TCon P t]{x:Operand}{v:Value}(b:opv l x=some v):Ev P ⟨dst,.makeInterface t x,ty,pos,aft,none⟩ l w (.iface t v):=λ_ a d c=>by
  obtain⟨q,h1,e⟩:=hk.eq;cases q<;>first|(cases e;done)|simp[execOp,c.eval b,Instr.makeInterface,run_underlying h1]
theorem XG{s t:TypeId}[hk:TCon P t]{x:Operand}{v:Value}(b:opv l x=some (.iface t v)):Ev P ⟨dst,.typeAssert x s t true,ty,pos,aft,none⟩ l w (.tuple #[v,.bool true]):=λ_ a d c=>by
  obtain⟨q,h1,e⟩:=hk.eq;cases q<;>first|(cases e;done)|simp[execOp,c.eval b,Instr.typeAssert,run_underlying h1]
end
section
variable {P:Program}{n:Nat}{ops:Array Oper}{Q:X0}{S:World → Prop}{rest:List Oper}{r:List (Nat × Bool)}{l:Env}{w:World}{d i:Nat}{ty:TypeId}{pos:String}{aft:Array Edge}
theorem We{t u:TypeId}{x y:Operand}{a b c:Int}(e:opv l x=some (.int .i64 a))(f:opv l y=some (.int .i64 b))(hd:Nat.blt d n=true)(g:owp P n ops Q rest ((d,.int .i64 c)::l) w)(he:Zn a b=some c:=by assumption)(hr:W1 a:=by assumption):owp P n ops Q (⟨some d,.binOp .quo t x y u,ty,pos,aft,none⟩::rest) l w:=AT (XE e f he hr) hd g
theorem Ki{t:TypeId}[TCon P t]{x:Operand}{v:Value}(a:opv l x=some v)  (b:owp P n ops Q rest ((d,.iface t v)::l) w) (hd:Nat.blt d n=true:=by exact rfl):owp P n ops Q (⟨some d,.makeInterface t x,ty,pos,aft,none⟩::rest) l w:=AT (XF a) hd b
theorem Qg{s t:TypeId}[TCon P t]{x:Operand}{v:Value}(a:opv l x=some (.iface t v))(hd:Nat.blt d n=true)(b:owp P n ops Q rest ((d,.tuple #[v,.bool true])::l) w):owp P n ops Q (⟨some d,.typeAssert x s t true,ty,pos,aft,none⟩::rest) l w:=AT (XG a) hd b
end
end
section
open Go Go.RowKit
def Hs{α:Type}[Rp α](Γ:List Fa)(v:Value)(xs:List α)(i:Nat):Prop:=(In Γ (.V v xs)/\i=0)\/∃e,In Γ (.R i e v xs)
section
variable {α:Type}[Rp α]{B:Bse}{Γ:List Fa}{w:World}{O:Lab}{i m c:Nat}{A:Option Addr}{xs:List α}{v:Value}
theorem Al.elem(d:Al B Γ w O)(f:Hs Γ (.slice A m c) xs i){k:Nat}{x:α}(a:xs[k]?=some x) :
    ∃b o cs,A=some ⟨b,o,none⟩/\Fr i w O b/\k<m/\cellsAt w b (o+k*Rp.size α) cs/\Rp.R w (Fr 0 w O) cs x:=by
  rcases f with⟨f,rfl⟩|⟨e,f⟩
  . exact Vb.elem (d.at f) a
  . exact Rw.elemF (d.at f) a
theorem Al.len(a:Al B Γ w O)(b:Hs Γ (.slice A m c) xs i):m=xs.length/\m<=9223372036854775807:=by
  rcases b with⟨b,rfl⟩|⟨e,b⟩
  . have b:=Vb.len (a.at b);exact⟨b.1,Bj b⟩
  . have b:=Rw.len (a.at b);exact⟨b.1,Bj b⟩
theorem Al.blk{g:Nat}{t:TypeId}{cs:List Value}(a:Al B Γ w O)(b:In Γ (.L i g t cs)):Blk w g t cs:=(show Lc i w O g t cs from a.at b).1
theorem Al.rd(a:Al B Γ w O)(b:Hs Γ v xs i):Rd w (Fr 0 w O) v xs:=by
  rcases b with⟨b,rfl⟩|⟨e,b⟩
  . exact Vb.rd (a.at b)
  . exact Rw.rd (a.at b)
end
theorem In.go{Γ:List Fa}{f:Fa}(a:In Γ f:=by((repeat (first|exact In.hd|refine In.tl ?_))<;>fail)):In Γ f:=a
theorem Hs.go{α:Type}[Rp α]{Γ:List Fa}{v:Value}{xs:List α}{i:Nat}(a:Hs Γ v xs i:=by first|exact Or.inl ⟨In.go,rfl⟩|exact Or.inr ⟨_,In.go⟩):Hs Γ v xs i:=a
theorem Al.x{B:Bse}{Γ:List Fa}{w:World}{O:Lab}{p:Prop}(a:Al B Γ w O:=by assumption)(b:In Γ (.X p):=by exact In.go):p:=a.at b
theorem zN{B:Bse}{Γ:List Fa}{w:World}{O:Lab}{α:Type}[Rp α]{i m c:Nat}{A:Option Addr}{xs:List α}(a:Al B Γ w O:=by assumption)(b:Hs Γ (.slice A m c) xs i:=by exact Hs.go):xs.length<=9223372036854775807:=by
  have b:=a.len b;rw[<- b.1];exact b.2
theorem zH{B:Bse}{Γ:List Fa}{w:World}{O:Lab}{α:Type}[Rp α]{i e m c:Nat}{A:Option Addr}{xs:List α}(a:Al B Γ w O:=by assumption)(b:In Γ (.R i e (.slice A m c) xs):=by exact In.go):m<=9223372036854775807:=(a.len (Or.inr ⟨_,b⟩)).2
theorem zI{n:Int}(c:W1 n:=by first|assumption|decide|exact Byt.rng _|exact Bh (by assumption)|exact rngNat zN|exact rngNat zH|exact Al.x|exact TD _|exact UQ (by assumption)|exact Wk (by assumption) zI|exact Wl (by assumption) zI|exact rngMin zI zI|exact rngMax zI zI|exact rngNat (by assumption)|exact Qu (by assumption)|exact a zI (by assumption)|exact b _ _|(dsimp only;exact zI)):W1 n:=c
theorem zM{N:Nat}(a:N<=9223372036854775807:=by first|exact zN|exact zH|exact rngNat' zI|decide):N<=9223372036854775807:=a
theorem zS{s:ByteArray}(a:s.size<=9223372036854775807:=by first|assumption|decide|exact Al.x|exact catI_sz (by assumption)|(dsimp only;exact zS)):s.size<=9223372036854775807:=a
theorem zV{α:Type}[Rp α]{w:World}{O:Lab}{v:Value}{x:α}(a:Vb w (Fr 0 w O) v x:=by first
  |exact Al.at (f:=.V _ _) (by assumption) In.go
  |exact vInt zI
  |exact vBool
  |exact Vb.nil _ _
  |exact vErr zI
  |exact vErr0
  |exact vStr zS
  |exact vByte
  |(refine Vb.ofAgg rfl ?_;((repeat' (first|exact rfl|exact zI|exact zS|exact zV|refine⟨_,?_⟩|refine⟨?_,?_⟩))<;>fail))):Vb w (Fr 0 w O) v x:=a
theorem zA{α:Type}[Rp α]{B:Bse}{Γ:List Fa}{w:World}{O:Lab}{v:Value}{x:α}(a:Al B Γ w O:=by assumption)(b:Vb w (Fr 0 w O) v x:=by exact zV):Vb w (All w) v x:=b.mono Fr.lt
theorem zAr{α:Type}[Rp α]{B:Bse}{Γ:List Fa}{w:World}{O:Lab}{i:Nat}{e:TypeId}{v:Value}{x:List α}(a:Al B Γ w O:=by assumption)(b:In Γ (.R i e v x):=by exact In.go):Vb w (All w) v x:=Rw.all (a.at b)
theorem zVs{α:Type}[Rp α]{w:World}{O:Lab}{vs:List Value}{xs:List α}(a:Vall w (Fr 0 w O) vs xs:=by((repeat (first|exact trivial|refine⟨zV,?_⟩))<;>fail)):Vall w (Fr 0 w O) vs xs:=a
def lsO:List Value→Option (List Value)
  |[]=>some []
  |v::r=>match lsO r with
    |some r'=>some (v::r')
    |none=>none
theorem Qv:∀{l r:List Value},lsO l=some r->l=r
  |[],r,a=>Q1 a
  |v::l,r,a=>by
    unfold lsO at a;cases hr:lsO l with
    |none=>rw[hr]at a;cases a
    |some r'=>rw[hr]at a;rw[Qv hr];exact Q1 a
def clO(v:Value):Option (List Value):=lsO v.cells.toList
theorem TO{v:Value}{cs:List Value}(a:clO v=some cs):v.cells.toList=cs:=Qv a
def stO(cs:List Value)(o:Nat)(vs:List Value):Option (List Value):=lsO (W9 cs o vs)
theorem XH{cs vs a:List Value}{o:Nat}(b:stO cs o vs=some a):W9 cs o vs=a:=Qv b
def dj:List Nat→List Nat→Bool
  |[],_=>true
  |i::a,ls=>match inK i ls with
    |true=>false
    |false=>dj a ls
theorem SY{ls:List Nat}:∀{a:List Nat},dj a ls=true->∀i∈a,¬i∈ls
  |[],_,i,b=>by simp at b
  |j  :: a,b,i,hi=>by
    unfold dj at b;cases hk:inK j ls with
    |true=>rw[hk]at b;cases b
    |false =>
      rw[hk]at b;rcases S0.1 hi with rfl|hi
      . exact OQ hk
      . exact SY b i hi
def Sq(S:World->Prop)(w:World)(O:Lab)(ls:List Nat):Prop:=∀w',S w'->∃a,St (·∈ls) w O w' a
theorem Sq.eq{w:World}{O:Lab}:Sq (λw'=>w'=w) w O []:=λw' e=>by subst e;exact⟨O,St.refl _ _ _⟩
theorem Sq.ss{w:World}{O:Lab}{ls:List Nat}:Sq (SS w O ls) w O ls:=λ_ a=>a
theorem Sq.go{S:World->Prop}{w:World}{O:Lab}{ls:List Nat}(a:Sq S w O ls:=by first|exact Sq.eq|exact Sq.ss):Sq S w O ls:=a
section
variable {S:World → Prop}{B:Bse}{Γ:List Fa}{w:World}{O:Lab}{ls:List Nat}{i g b o:Nat}{t:TypeId}{cs:List Value}
theorem Al.LS(c:Al B Γ w O)(hk:In Γ (.L i g t cs))(a:Sq S w O ls)(hd:dj [i] ls=true):∀w',S w'->Blk w' g t cs:=λw' d=>by
  obtain⟨b,hq⟩:=a w' d;exact(Lc.st (c.at hk) hq (SY hd i K6)).1
theorem Al.CS(d:Al B Γ w O)(hk:In Γ (.C i b o cs))(a:Sq S w O ls)(hd:dj [i] ls=true):∀w',S w'->cellsAt w' b o cs:=λw' e=>by
  obtain⟨c,hq⟩:=a w' e;have hc:Fr i w O b/\cellsAt w b o cs:=d.at hk;exact DD (hq.agree (SY hd i K6)) hc.1 hc.2
end
theorem OS{w:World}{b o k:Nat}{v:Value}{cs:List Value}(a:cellsAt w b o cs)(hc:cs[k]?=some v):w.cell? ⟨b,o+k,none⟩=some v:=DY a k v hc
section
variable {P:Program}{n:Nat}{ops:Array Oper}{Q:X0}{rest:List Oper}{l:Env}{w:World}{d:Tmp}{ty:TypeId}{pos:String}{aft:Array Edge}{B:Bse}{Γ:List Fa}{O:Lab}
theorem GP(i:Nat){α:Type}[Rp α]{e:TypeId}{v:Value}{xs:List α}{G:Prop}{c:List Fa}(d:∀a,Al B c w a->G)(f:Al B Γ w O:=by assumption)(hk:In Γ (.R i e v xs):=by exact In.go)(b:Aas i (.V v xs) Γ=some c:=by exact rfl)(hi:Nat.ble 2 i=true:=by exact rfl):G:=by
  obtain⟨a,hS,hv⟩:=Rw.freeze (f.at hk);exact d a (Al.so (f':=.V v xs) hi hv f hS b)
theorem q_S(ls:List Nat){G:Prop}(a:Al B (.S w O ls::Γ) w O->G)(b:Al B Γ w O:=by assumption):G:=a ⟨St.refl _ _ _,b⟩
theorem Cv(i:Nat){t:TypeId}{z:Value}{size bytes:Nat}[TInfo P t z size bytes]{cs:List Value}(f:∀g w' a,Al B (.L i g t cs::Γ) w' a->owp P n ops Q rest ((d,.pointer (some ⟨g,0,none⟩))::l) w')(b:clO z=some cs:=by exact rfl)(h:Al B Γ w O:=by assumption)(hd:Nat.blt d n=true:=by exact rfl) :
    owp P n ops Q (⟨some d,.alloc t,ty,pos,aft,none⟩::rest) l w:=BL i O (hd:=hd) λg w' a c e=>f g w' a ⟨TO b▸e,h.no c⟩
theorem Gx(i:Nat){t:TypeId}{x:Operand}{v:Value}{cs:List Value}(h:∀g w' a,Al B (.L i g t cs::Γ) w' a->owp P n ops Q rest ((d,.pointer (some ⟨g,0,none⟩))::l) w')(c:opv l x=some v:=by exact rfl)(b:clO v=some cs:=by exact rfl)(j:Al B Γ w O:=by assumption)(hd:Nat.blt d n=true:=by exact rfl) :
    owp P n ops Q (⟨some d,.box t x,ty,pos,aft,none⟩::rest) l w:=Ea i O c (hd:=hd) λg w' a e f=>h g w' a ⟨TO b▸f,j.no e⟩
theorem BW{i:Nat}{t:TypeId}{z:Value}{size bytes:Nat}[TInfo P t z size bytes]{x y:Operand}{g o:Nat}{b:TypeId}{v:Value}{cs:List Value}
    {f:List Fa} {a:List Value} (q:∀w',Al B f w' O->owp P n ops Q rest l w') (h:opv l x=some (.pointer (some ⟨g,o,none⟩)):=by exact rfl) (j:opv l y=some v:=by exact rfl) (r:Al B Γ w O:=by assumption) (hk:In Γ (.L i g b cs):=by exact In.go) (c:stO cs o v.cells.toList=some a:=by exact rfl) (d:Aas i (.L i g b a) Γ=some f:=by exact rfl)
    (hi:Nat.ble 2 i=true:=by exact rfl) (e:v.cells.toList.length=size:=by exact rfl) (hl:o+size<=cs.length:=by exact(Bg)) (k:∀u∈v.cells.toList,u.oneCell'=true:=by first|exact allOne|simp[Value.cells,Value.oneCell',GO]) :
    owp P n ops Q (⟨none,.store t x y,ty,pos,aft,none⟩::rest) l w:=AR (r.at hk) h j e hl k λw' m p=>q w' (Al.so (f':=.L i g b a) hi (XH c▸p) r m d)
theorem BN{i:Nat}{t:TypeId}[TOne P t]{x:Operand}{g k:Nat}{a:TypeId}{v:Value}{cs:List Value}(c:owp P n ops Q rest ((d,v)::l) w)(b:opv l x=some (.pointer (some ⟨g,k,none⟩)):=by exact rfl)(e:Al B Γ w O:=by assumption)(hk:In Γ (.L i g a cs):=by exact In.go)(hc:cs[k]?=some v:=by exact rfl)(hd:Nat.blt d n=true:=by exact rfl) :
    owp P n ops Q (⟨some d,.load t x,ty,pos,aft,none⟩::rest) l w:=AT (CJ b (Blk.cell ((e.at hk).1) hc)) hd c
theorem Ep{i:Nat}{t:TypeId}[TAgg P t]{z:Value}{size bytes:Nat}[TInfo P t z size bytes]{x:Operand}{g:Nat}{a:TypeId}{cs:List Value}(c:owp P n ops Q rest ((d,.agg cs.toArray)::l) w)(b:opv l x=some (.pointer (some ⟨g,0,none⟩)):=by exact rfl)(e:Al B Γ w O:=by assumption)(hk:In Γ (.L i g a cs):=by exact In.go)(hl:cs.length=size:=by exact rfl)(hd:Nat.blt d n=true:=by exact rfl) :
    owp P n ops Q (⟨some d,.load t x,ty,pos,aft,none⟩::rest) l w:=AT (Fp b hl (Blk.cellsAt ((e.at hk).1))) hd c
theorem OT{i:Nat}{t:TypeId}[TOne P t]{x:Operand}{b o k:Nat}{v:Value}{cs:List Value}(c:owp P n ops Q rest ((d,v)::l) w)(a:opv l x=some (.pointer (some ⟨b,o+k,none⟩)):=by exact rfl)(e:Al B Γ w O:=by assumption)(hk:In Γ (.C i b o cs):=by exact In.go)(hc:cs[k]?=some v:=by exact rfl)(hd:Nat.blt d n=true:=by exact rfl) :
    owp P n ops Q (⟨some d,.load t x,ty,pos,aft,none⟩::rest) l w:=AT (CJ a (OS (Al.at (f:=.C _ _ _ _) e hk |>.2) hc)) hd c
theorem Le{i:Nat}{t:TypeId}[TOne P t]{x:Operand}{b o:Nat}{v:Value}{cs:List Value}(c:owp P n ops Q rest ((d,v)::l) w)(a:opv l x=some (.pointer (some ⟨b,o,none⟩)):=by exact rfl)(e:Al B Γ w O:=by assumption)(hk:In Γ (.C i b o (v::cs)):=by exact In.go)(hd:Nat.blt d n=true:=by exact rfl) :
    owp P n ops Q (⟨some d,.load t x,ty,pos,aft,none⟩::rest) l w:=AT (CJ a (Al.at (f:=.C _ _ _ _) e hk |>.2).1) hd c
theorem Gp{i:Nat}{t:TypeId}[TAgg P t]{z:Value}{size bytes:Nat}[TInfo P t z size bytes]{x:Operand}{b o:Nat}{cs:List Value}(c:owp P n ops Q rest ((d,.agg cs.toArray)::l) w)(a:opv l x=some (.pointer (some ⟨b,o,none⟩)):=by exact rfl)(e:Al B Γ w O:=by assumption)(hk:In Γ (.C i b o cs):=by exact In.go)(hl:cs.length=size:=by exact rfl)(hd:Nat.blt d n=true:=by exact rfl) :
    owp P n ops Q (⟨some d,.load t x,ty,pos,aft,none⟩::rest) l w:=AT (Fp a hl (Al.at (f:=.C _ _ _ _) e hk |>.2)) hd c
variable {S:World → Prop}{r:List (Nat × Bool)}{q:Nat}{ls:List Nat}
theorem Mx{i:Nat}{t:TypeId}[TOne P t]{x:Operand}{g k:Nat}{a:TypeId}{v:Value}{cs:List Value}(f:hwp P n ops Q S r ((d,v)::l) w)(b:opv l x=some (.pointer (some ⟨g,k,none⟩)):=by exact rfl)(h:Al B Γ w O:=by assumption)(hk:In Γ (.L i g a cs):=by exact In.go)(hc:cs[k]?=some v:=by exact rfl)(c:Sq S w O ls:=by exact Sq.go)(hj:dj [i] ls=true:=by exact rfl)(hd:Nat.blt d n=true:=by exact rfl) :
    hwq P n ops Q S ⟨some d,.load t x,ty,pos,aft,none⟩ r l w:=Bv (λ_ e=>CJ b (Blk.cell (h.LS hk c hj _ e) hc)) hd f
theorem Ji{i:Nat}{t:TypeId}[TOne P t]{x:Operand}{g k:Nat}{a:TypeId}{v:Value}{cs:List Value}(hi:ops[q]?=some ⟨some d,.load t x,ty,pos,aft,none⟩)(f:hwp P n ops Q S r ((d,v)::l) w)(b:opv l x=some (.pointer (some ⟨g,k,none⟩)):=by exact rfl)(h:Al B Γ w O:=by assumption)(hk:In Γ (.L i g a cs):=by exact In.go)(hc:cs[k]?=some v:=by exact rfl)(c:Sq S w O ls:=by exact Sq.go)(hj:dj [i] ls=true:=by exact rfl)(hd:Nat.blt d n=true:=by exact rfl) :
    hwp P n ops Q S ((q,true)::r) l w:=AB hi (Bv (λ_ e=>CJ b (Blk.cell (h.LS hk c hj _ e) hc)) hd f)
theorem YD{i:Nat}{t:TypeId}[TAgg P t]{z:Value}{size bytes:Nat}[TInfo P t z size bytes]{x:Operand}{g:Nat}{a:TypeId}{cs:List Value}(hi:ops[q]?=some ⟨some d,.load t x,ty,pos,aft,none⟩)(f:hwp P n ops Q S r ((d,.agg cs.toArray)::l) w)(b:opv l x=some (.pointer (some ⟨g,0,none⟩)):=by exact rfl)(h:Al B Γ w O:=by assumption)(hk:In Γ (.L i g a cs):=by exact In.go)(hl:cs.length=size:=by exact rfl)(c:Sq S w O ls:=by exact Sq.go)(hj:dj [i] ls=true:=by exact rfl)(hd:Nat.blt d n=true:=by exact rfl) :
    hwp P n ops Q S ((q,true)::r) l w:=AB hi (Bv (λ_ e=>Fp b hl (Blk.cellsAt (h.LS hk c hj _ e))) hd f)
theorem IG{i:Nat}{t:TypeId}[TOne P t]{x:Operand}{b o k:Nat}{v:Value}{cs:List Value}(f:hwp P n ops Q S r ((d,v)::l) w)(a:opv l x=some (.pointer (some ⟨b,o+k,none⟩)):=by exact rfl)(g:Al B Γ w O:=by assumption)(hk:In Γ (.C i b o cs):=by exact In.go)(hc:cs[k]?=some v:=by exact rfl)(c:Sq S w O ls:=by exact Sq.go)(hj:dj [i] ls=true:=by exact rfl)(hd:Nat.blt d n=true:=by exact rfl) :
    hwq P n ops Q S ⟨some d,.load t x,ty,pos,aft,none⟩ r l w:=Bv (λ_ e=>CJ a (OS (g.CS hk c hj _ e) hc)) hd f
theorem NZ{i:Nat}{t:TypeId}[TOne P t]{x:Operand}{b o k:Nat}{v:Value}{cs:List Value}(hi:ops[q]?=some ⟨some d,.load t x,ty,pos,aft,none⟩)(f:hwp P n ops Q S r ((d,v)::l) w)(a:opv l x=some (.pointer (some ⟨b,o+k,none⟩)):=by exact rfl)(g:Al B Γ w O:=by assumption)(hk:In Γ (.C i b o cs):=by exact In.go)(hc:cs[k]?=some v:=by exact rfl)(c:Sq S w O ls:=by exact Sq.go)(hj:dj [i] ls=true:=by exact rfl)(hd:Nat.blt d n=true:=by exact rfl) :
    hwp P n ops Q S ((q,true)::r) l w:=AB hi (Bv (λ_ e=>CJ a (OS (g.CS hk c hj _ e) hc)) hd f)
theorem FW{α:Type}[Rp α]{K:Bse->List Fa->World->Lab->Nat->Nat->Nat->α->Prop->Prop}[f:Ec α K]{t e:TypeId}[TSlice P t e]{z:Value}{size bytes:Nat}[TInfo P e z size bytes]{x y:Operand}{k:IntKind}{A:Option Addr}{i m c j:Nat}{a:α}{xs:List α}
    (p:∀b o,A=some ⟨b,o,none⟩->K B Γ w O i b (o+j*size) a (owp P n ops Q rest ((d,.pointer (some ⟨b,o+j*size,none⟩))::l) w)) (g:opv l x=some (.slice A m c):=by exact rfl) (h:opv l y=some (.int k (j:Int)):=by exact rfl) (q:Al B Γ w O:=by assumption) (hs:Hs Γ (.slice A m c) xs i:=by exact Hs.go) (hk:xs[j]?=some a:=by assumption) (hz:size=Rp.size α:=by exact rfl) (hd:Nat.blt d n=true:=by exact rfl) :
    owp P n ops Q (⟨some d,.indexAddr t x y,ty,pos,aft,none⟩::rest) l w:=by
  subst hz;obtain⟨b,o,cs,hA,hF,hlt,hc,hR⟩:=q.elem hs hk;exact AT (Hx g h hA rfl hlt) hd (f.ec q hF hc hR (p b o hA))
theorem KA{α:Type}[Rp α]{K:Bse->List Fa->World->Lab->Nat->Nat->Nat->α->Prop->Prop}[f:Ec α K]{t e:TypeId}[TSlice P t e]{z:Value}{size bytes:Nat}[TInfo P e z size bytes]{x y:Operand}{k:IntKind}{A:Option Addr}{i m c:Nat}{s:Int}{a:α}{xs:List α}
    (j:∀b o,A=some ⟨b,o,none⟩->s=(s.toNat:Int)->xs[s.toNat]?=some a->K B Γ w O i b (o+s.toNat*size) a (owp P n ops Q rest ((d,.pointer (some ⟨b,o+s.toNat*size,none⟩))::l) w)) (g:opv l x=some (.slice A m c):=by exact rfl) (h:opv l y=some (.int k s):=by exact rfl) (p:Al B Γ w O:=by assumption) (hs:Hs Γ (.slice A m c) xs i:=by exact Hs.go) (hk:atI xs s=some a:=by assumption) (hz:size=Rp.size α:=by exact rfl) (hd:Nat.blt d n=true:=by exact rfl) :
    owp P n ops Q (⟨some d,.indexAddr t x y,ty,pos,aft,none⟩::rest) l w:=by
  subst hz;obtain⟨hj,hk2⟩:=Cn hk;obtain⟨b,o,cs,hA,hF,hlt,hc,hR⟩:=p.elem hs hk2;exact AT (Hx g h hA hj hlt) hd (f.ec p hF hc hR (j b o hA hj hk2))
theorem IH{α:Type}[Rp α]{K:Bse->List Fa->World->Lab->Nat->Nat->Nat->α->Prop->Prop}[f:Ec α K]{t e:TypeId}[TSlice P t e]{z:Value}{size bytes:Nat}[TInfo P e z size bytes]{x y:Operand}{k:IntKind}{A:Option Addr}{i m c:Nat}{s:Int}{a:α}{xs:List α}
    (j:∀b o,A=some ⟨b,o,none⟩->s=(s.toNat:Int)->xs[s.toNat]?=some a->K B Γ w O i b (o+s.toNat*size) a (hwp P n ops Q S r ((d,.pointer (some ⟨b,o+s.toNat*size,none⟩))::l) w)) (g:opv l x=some (.slice A m c):=by exact rfl) (h:opv l y=some (.int k s):=by exact rfl) (p:Al B Γ w O:=by assumption) (hs:Hs Γ (.slice A m c) xs i:=by exact Hs.go) (hk:atI xs s=some a:=by assumption) (hz:size=Rp.size α:=by exact rfl) (hd:Nat.blt d n=true:=by exact rfl) :
    hwq P n ops Q S ⟨some d,.indexAddr t x y,ty,pos,aft,none⟩ r l w:=by
  subst hz;obtain⟨hj,hk2⟩:=Cn hk;obtain⟨b,o,cs,hA,hF,hlt,hc,hR⟩:=p.elem hs hk2;exact Bv (λ_ _=>Hx g h hA hj hlt) hd (f.ec p hF hc hR (j b o hA hj hk2))
theorem Oa{α:Type}[Rp α]{K:Bse->List Fa->World->Lab->Nat->Nat->Nat->α->Prop->Prop}[f:Ec α K]{t e:TypeId}[TSlice P t e]{z:Value}{size bytes:Nat}[TInfo P e z size bytes]{x y:Operand}{k:IntKind}{A:Option Addr}{i m c:Nat}{s:Int}{a:α}{xs:List α}(hi:ops[q]?=some ⟨some d,.indexAddr t x y,ty,pos,aft,none⟩)
    (j:∀b o,A=some ⟨b,o,none⟩->s=(s.toNat:Int)->xs[s.toNat]?=some a->K B Γ w O i b (o+s.toNat*size) a (hwp P n ops Q S r ((d,.pointer (some ⟨b,o+s.toNat*size,none⟩))::l) w)) (g:opv l x=some (.slice A m c):=by exact rfl) (h:opv l y=some (.int k s):=by exact rfl) (p:Al B Γ w O:=by assumption) (hs:Hs Γ (.slice A m c) xs i:=by exact Hs.go) (hk:atI xs s=some a:=by assumption) (hz:size=Rp.size α:=by exact rfl) (hd:Nat.blt d n=true:=by exact rfl) :
    hwp P n ops Q S ((q,true)::r) l w:=by
  subst hz;obtain⟨hj,hk2⟩:=Cn hk;obtain⟨b,o,cs,hA,hF,hlt,hc,hR⟩:=p.elem hs hk2;exact AB hi (Bv (λ_ _=>Hx g h hA hj hlt) hd (f.ec p hF hc hR (j b o hA hj hk2)))
theorem Qw{α:Type}[Rp α]{i:Nat}{t e:TypeId}{z:Value}{size bytes:Nat}[TInfo P t z size bytes]{x y:Operand}{b o k m c:Nat}{A:Option Addr}{u:Value}{a a':α}{xs:List α}
    {f:List Fa} (q:∀w',Al B f w' O->owp P n ops Q rest l w') (g:opv l x=some (.pointer (some ⟨b,o+k*size,none⟩)):=by exact rfl) (h:opv l y=some u:=by exact rfl) (r:Al B Γ w O:=by assumption) (hA:A=some ⟨b,o,none⟩:=by assumption) (hs:In Γ (.R i e (.slice A m c) xs):=by exact In.go) (hk:xs[k]?=some a':=by assumption) (hu:Vb w (Fr 0 w O) u a:=by exact zV) (d:Aas i (.R i e (.slice A m c) (xs.set k a)) Γ=some f:=by exact rfl) (hz:size=Rp.size α:=by exact rfl) (hi:Nat.ble 2 i=true:=by exact rfl) :
    owp P n ops Q (⟨none,.store t x y,ty,pos,aft,none⟩::rest) l w:=Fe hz (r.at hs) hu hA g h (AF hk) λw' j p=>q w' (Al.so (f':=.R i e _ _) hi p r j d)
theorem XI{α:Type}[Rp α](i:Nat){t e:TypeId}[TSlice P t e]{z:Value}{size bytes:Nat}[TInfo P e z size bytes]{x y:Operand}{k h:IntKind}{a:Int}{z0:α}{c:List α}(hm:mkI bytes z0 a=some c)
    (s:∀g m w' f,Al B (.R i e (.slice (some ⟨g,0,none⟩) c.length m) c::Γ) w' f->owp P n ops Q rest ((d,.slice (some ⟨g,0,none⟩) c.length m)::l) w')
    (j:opv l x=some (.int k a):=by exact rfl) (o:opv l y=some (.int h a):=by exact rfl) (u:Al B Γ w O:=by assumption) (hz0:Vb w (Fr 0 w O) z z0:=by exact zV) (hz1:z.cells=#[z]:=by exact rfl) (b:size=Rp.size α:=by exact rfl) (p:Rp.size α=1:=by exact rfl) (hi:Nat.ble 2 i=true:=by exact rfl) (hd:Nat.blt d n=true:=by exact rfl) :
    owp P n ops Q (⟨some d,.makeSlice t x y,ty,pos,aft,none⟩::rest) l w:=by
  obtain⟨m,rfl,e2,e3,rfl⟩:=JG hm;exact LL i (hi:=(λe=>(KQ hi).1 e.symm)) O (z0:=z0) b p hz1 j o rfl hz0 e2 e3 hd λg w' f q r=>s g m w' f ⟨r,u.no q⟩
theorem GC{α:Type}[Rp α](i:Nat)(xs:List α){t e:TypeId}[TSlice P t e]{z:Value}{size bytes a:Nat}[TInfo P e z size bytes]{ps:List (Nat×Operand)}{vs:List Value}
    (o:∀g w' f,Al B (.R i e (.slice (some ⟨g,0,none⟩) xs.length a) xs::Γ) w' f->owp P n ops Q rest ((d,.slice (some ⟨g,0,none⟩) xs.length a)::l) w') (h:X5 l (ps.map (·.2))=some vs:=by exact rfl) (c:a=xs.length:=by exact rfl) (p:Al B Γ w O:=by assumption) (j:Vall w (Fr 0 w O) vs xs:=by exact zVs) (b:size=Rp.size α:=by exact rfl) (hk:Aac 0 ps=true:=by exact rfl) (hz:a*size<=16777216:=by decide) (hm:a<=9223372036854775807:=by decide) (hi:Nat.ble 2 i=true:=by exact rfl) (hd:Nat.blt d n=true:=by exact rfl) :
    owp P n ops Q (⟨some d,.buildSlice t a ps.toArray,ty,pos,aft,none⟩::rest) l w:=CW i (hi:=(λe=>(KQ hi).1 e.symm)) O b (hk:=hk) h c j (hz:=hz) (hm:=hm) (hd:=hd) λg w' f k m=>o g w' f ⟨m,p.no k⟩
theorem XJ{α:Type}[Rp α]{w:World}{F:Nat->Prop}:Rd w F (.slice none 0 0) ([]:List α):=Vb.rd (Vb.nil _ _)
theorem LP{α:Type}[Rp α]{i:Nat}{t e:TypeId}[TSlice P t e]{z:Value}{size bytes:Nat}[TInfo P e z size bytes]{x y:Operand}{v u:Value}{xs ys b:List α}(he:X6 bytes xs ys=some b)
    {h:Option Addr->Nat->List Fa} (p:∀A c w' f,Al B (h A c) w' f->owp P n ops Q rest ((d,.slice A b.length c)::l) w') (j:opv l x=some v:=by exact rfl) (k:opv l y=some u:=by exact rfl) (q:Al B Γ w O:=by assumption) (hs:In Γ (.R i e v xs):=by exact In.go) (g:∀A c,Aas i (.R i e (.slice A b.length c) b) Γ=some (h A c):=by exact λ_ _=>rfl) (hu:Rd w (Fr 0 w O) u ys:=by first|exact Al.rd (by assumption) Hs.go|exact XJ) (a:size=Rp.size α:=by exact rfl) (hz0:0<size:=by decide) (hi:Nat.ble 2 i=true:=by exact rfl) (hd:Nat.blt d n=true:=by exact rfl) :
    owp P n ops Q (⟨some d,.call { callee:=.builtin .append,args:=#[x,y],argTypes:=#[t,t] },ty,pos,aft,none⟩::rest) l w:=by
  obtain⟨rfl,e2,e3⟩:=Bw he;exact DH a (q.at hs) hu j k (hz0:=hz0) e2 e3 (hd:=hd) λA c w' f m o=>p A c w' f (Al.so (f':=.R i e _ _) hi o q m (g A c))
theorem YR{α:Type}[Rp α]{d k:Tmp}{m:TypeId}{f:String}{h:Array Edge}{i:Nat}{t e:TypeId}[TSlice P t e]{z:Value}{size bytes:Nat}[TInfo P e z size bytes]{x y:Operand}{v u:Value}{a:α}{xs j:List α}(he:X6 bytes xs [a]=some j)
    {q:Option Addr->Nat->List Fa} (E:∀g A c w' o,Al B (q A c) w' o->owp P n ops Q rest ((k,.slice A j.length c)::(d,.slice (some ⟨g,0,none⟩) 1 1)::l) w') (r:∀g,opv ((d,.slice (some ⟨g,0,none⟩) 1 1)::l) x=some v:=by exact λ_=>rfl) (s:opv l y=some u:=by exact rfl) (F:Al B Γ w O:=by assumption) (hs:In Γ (.R i e v xs):=by exact In.go) (p:∀A c,Aas i (.R i e (.slice A j.length c) j) Γ=some (q A c):=by exact λ_ _=>rfl) (hu:Vb w (Fr 0 w O) u a:=by exact zV) (b:size=Rp.size α:=by exact rfl) (hz0:0<size:=by decide) (hz1:size<=1000:=by decide) (hi:Nat.ble 2 i=true:=by exact rfl) (hd:Nat.blt d n=true/\Nat.blt k n=true:=by exact⟨rfl,rfl⟩) :
    owp P n ops Q (⟨some d,.buildSlice t 1 #[(0,y)],ty,pos,aft,none⟩::⟨some k,.call { callee:=.builtin .append,args:=#[x,.tmp d],argTypes:=#[t,t] },m,f,h,none⟩::rest) l w:=by
  obtain⟨rfl,e2,e3⟩:=Bw he;exact Dl b (F.at hs) hu r s (hz0:=hz0) (hz1:=hz1) e2 e3 hd λg A c w' o C D=>E g A c w' o (Al.so (f':=.R i e _ _) hi D F C (p A c))
class Sc(α:Type)[Rp α]:Prop where
  sc:∀{w:World}{F G:Nat->Prop}{v:Value}{x:α},Vb w F v x->Vb w G v x
instance:Sc Bool:=⟨λa=>a⟩
instance:Sc Int:=⟨λa=>a⟩
instance:Sc Err:=⟨λa=>a⟩
instance:Sc ByteArray:=⟨λa=>a⟩
theorem DE{α:Type}[Rp α][Sc α]{K:Bse->List Fa->World->Lab->α->(Value->Prop)->Prop}[b:El α K]{f:FuncId}[Callable P f]{xs:List Operand}{vs:List Value}{c:Array TypeId}{A:Nat->Prop}{r:α}(e:X5 l xs=some vs)(hc:Fn P f vs w λv w'=>Ext w w'/\Vb w' (upA A w w') v r)
    (i:∀w' a,K B Γ w' a r (λu=>owp P n ops Q rest ((d,u)::l) w')) (j:Al B Γ w O:=by assumption) (hd:Nat.blt d n=true:=by exact rfl) :
    owp P n ops Q (⟨some d,.call { callee:=.value (.func f),args:=xs.toArray,argTypes:=c },ty,pos,aft,none⟩::rest) l w:=Ip (A:=A) (R:=λw' F v=>Vb w' F v r) hc e hd λv w' a g h=>b.el (G:=λu=>owp P n ops Q rest ((d,u)::l) w') (j.no g) (Sc.sc h) (i w' a)
theorem YS{α:Type}[Rp α][Sc α]{K:Bse->List Fa->World->Lab->α->(Value->Prop)->Prop}[b:El α K]{f:FuncId}[Callable P f]{xs:List Operand}{vs:List Value}{c:Array TypeId}{y:Operand}{A:Nat->Prop}{r:α}(e:opv l y=some (.func (.func f) #[] #[]))(g:X5 l xs=some vs)(hc:Fn P f vs w λv w'=>Ext w w'/\Vb w' (upA A w w') v r)
    (j:∀w' a,K B Γ w' a r (λu=>owp P n ops Q rest ((d,u)::l) w')) (k:Al B Γ w O:=by assumption) (hd:Nat.blt d n=true:=by exact rfl) :
    owp P n ops Q (⟨some d,.call { callee:=.value y,args:=xs.toArray,argTypes:=c },ty,pos,aft,none⟩::rest) l w:=Nl (A:=A) (R:=λw' F v=>Vb w' F v r) hc e g hd λv w' a h i=>b.el (G:=λu=>owp P n ops Q rest ((d,u)::l) w') (k.no h) (Sc.sc i) (j w' a)
theorem KB{α β:Type}[Rp α][Rp β]  {f:FuncId} [Callable P f] {xs:List Operand} {vs:List Value} {e:Array TypeId}  {r:α×β} (g:X5 l xs=some vs) (hc:Fn P f vs w λv w'=>Ext w w'/\T2 w' (upA (Fr 0 w O) w w') v r)
    (j:∀w' a(b c:Value),Al B Γ w' a->Vb w' (Fr 0 w' a) b r.1->Vb w' (Fr 0 w' a) c r.2->owp P n ops Q rest ((d,.tuple #[b,c])::l) w') (k:Al B Γ w O:=by assumption) (hd:Nat.blt d n=true:=by exact rfl) :
    owp P n ops Q (⟨some d,.call { callee:=.value (.func f),args:=xs.toArray,argTypes:=e },ty,pos,aft,none⟩::rest) l w:=Ey (R:=λw' F v=>T2 w' F v r) hc g (hd:=hd) λv w' a h i=>by
  obtain⟨b,c,rfl,h0,h1⟩:=i;exact j w' a b c (k.no h) h0 h1
theorem SZ{α β:Type}[Rp α][Rp β][Sc α][Sc β]{f:FuncId}[Callable P f]{xs:List Operand}{vs:List Value}{e:Array TypeId}{A:Nat->Prop}{r:α×β}(g:X5 l xs=some vs)(hc:Fn P f vs w λv w'=>Ext w w'/\T2 w' (upA A w w') v r)
    (j:∀w' a(b c:Value),Al B Γ w' a->Vb w' (Fr 0 w' a) b r.1->Vb w' (Fr 0 w' a) c r.2->owp P n ops Q rest ((d,.tuple #[b,c])::l) w') (k:Al B Γ w O:=by assumption) (hd:Nat.blt d n=true:=by exact rfl) :
    owp P n ops Q (⟨some d,.call { callee:=.value (.func f),args:=xs.toArray,argTypes:=e },ty,pos,aft,none⟩::rest) l w:=Ip (A:=A) (R:=λw' F v=>T2 w' F v r) hc g hd λv w' a h i=>by
  obtain⟨b,c,rfl,h0,h1⟩:=i;exact j w' a b c (k.no h) (Sc.sc h0) (Sc.sc h1)
theorem Qx{α β g:Type}[Rp α][Rp β][Rp g]  {f:FuncId} [Callable P f] {xs:List Operand} {vs:List Value} {h:Array TypeId}  {r:α×β×g} (i:X5 l xs=some vs) (hc:Fn P f vs w λv w'=>Ext w w'/\T3 w' (upA (Fr 0 w O) w w') v r)
    (m:∀w' a(b c e:Value),Al B Γ w' a->Vb w' (Fr 0 w' a) b r.1->Vb w' (Fr 0 w' a) c r.2.1->Vb w' (Fr 0 w' a) e r.2.2->owp P n ops Q rest ((d,.tuple #[b,c,e])::l) w') (o:Al B Γ w O:=by assumption) (hd:Nat.blt d n=true:=by exact rfl) :
    owp P n ops Q (⟨some d,.call { callee:=.value (.func f),args:=xs.toArray,argTypes:=h },ty,pos,aft,none⟩::rest) l w:=Ey (R:=λw' F v=>T3 w' F v r) hc i (hd:=hd) λv w' a j k=>by
  obtain⟨b,c,e,rfl,h0,h1,h2⟩:=k;exact m w' a b c e (o.no j) h0 h1 h2
theorem YE{α β g:Type}[Rp α][Rp β][Rp g][Sc α][Sc β][Sc g]{f:FuncId}[Callable P f]{xs:List Operand}{vs:List Value}{h:Array TypeId}{A:Nat->Prop}{r:α×β×g}(i:X5 l xs=some vs)(hc:Fn P f vs w λv w'=>Ext w w'/\T3 w' (upA A w w') v r)
    (m:∀w' a(b c e:Value),Al B Γ w' a->Vb w' (Fr 0 w' a) b r.1->Vb w' (Fr 0 w' a) c r.2.1->Vb w' (Fr 0 w' a) e r.2.2->owp P n ops Q rest ((d,.tuple #[b,c,e])::l) w') (o:Al B Γ w O:=by assumption) (hd:Nat.blt d n=true:=by exact rfl) :
    owp P n ops Q (⟨some d,.call { callee:=.value (.func f),args:=xs.toArray,argTypes:=h },ty,pos,aft,none⟩::rest) l w:=Ip (A:=A) (R:=λw' F v=>T3 w' F v r) hc i hd λv w' a j k=>by
  obtain⟨b,c,e,rfl,h0,h1,h2⟩:=k;exact m w' a b c e (o.no j) (Sc.sc h0) (Sc.sc h1) (Sc.sc h2)
theorem Dw{α:Type}[Rp α]{K:Bse->List Fa->World->Lab->α->(Value->Prop)->Prop}[a:El α K]{x:α}{v:Value}{G:Value->Prop}(b:Vb w (Fr 0 w O) v x)(c:K B Γ w O x G)(d:Al B Γ w O:=by assumption):G v:=a.el d b c
theorem UU{α:Type}[Rp α](i:Nat){f:FuncId}[Callable P f]{xs:List Operand}{vs:List Value}{b:Array TypeId}{e:TypeId}{r:List α}(g:X5 l xs=some vs)(hc:Fn P f vs w λv w'=>Ext w w'/\RowR w w' (upA (Fr 0 w O) w w') e v r)
    (k:∀A c w' a,Al B (.R i e (.slice A r.length c) r::Γ) w' a->owp P n ops Q rest ((d,.slice A r.length c)::l) w') (m:Al B Γ w O:=by assumption) (hi:Nat.ble 2 i=true:=by exact rfl) (hd:Nat.blt d n=true:=by exact rfl) :
    owp P n ops Q (⟨some d,.call { callee:=.value (.func f),args:=xs.toArray,argTypes:=b },ty,pos,aft,none⟩::rest) l w:=DF i (hi:=(λe=>(KQ hi).1 e.symm)) hc g (hd:=hd) λA c w' a h j=>k A c w' a ⟨j,m.no h⟩
end
def pkO:List Nat→Env→Option Env
  |[],_=>some []
  |i  :: K,l=>match lk l i with
    |none=>none
    |some v=>match pkO K l with
      |some E=>some ((i,v)::E)
      |none=>none
def lkv(l:Env)(i:Nat):Value:=match lk l i with
  |some v=>v
  |none=>undef
def AcD(i:Nat):List Fa→Option Fa
  |[]=>none
  |f::Γ=>match Nat.beq f.own i with
    |true=>some f
    |false=>AcD i Γ
def AaF:List Nat→List Fa→Option (List Fa)
  |[],_=>some []
  |i  :: T,Γ=>match AcD i Γ with
    |none=>none
    |some f=>match AaF T Γ with
      |some r=>some (f::r)
      |none=>none
def AcE:List Nat→Fa→Bool
  |[],_=>true
  |i  :: T,f=>match inK i f.lab with
    |true=>false
    |false=>match f.may i with
      |true=>AcE T f
      |false=>false
def AaE(b:List Nat):List Fa→Option (List Fa)
  |[]=>some []
  |f  :: Γ=>match AaE b Γ with
    |none=>none
    |some a=>match AcE b f with
      |true=>some (f::a)
      |false=>some a
def fo:List Fa→Nat→Fa
  |[],_=>.T
  |f::r,i=>match Nat.beq f.own i with
    |true=>f
    |false=>fo r i
def Fa.rv:Fa->Value
  |@Fa.R _ _ _ _ v _=>v
  |_=>undef
def Fa.re:Fa->TypeId
  |@Fa.R _ _ _ e _ _=>e
  |_=>0
abbrev sv(x:Option Addr×Nat){α:Type}(s:List α):Value:=.slice x.1 s.length x.2
abbrev pv(g:Nat):Value:=.pointer (some ⟨g,0,none⟩)
abbrev uR(f:Fa)(i:Nat){α:Type}[Rp α](s:List α):Fa:=.R i f.re f.rv s
abbrev fV(x:Option Addr×Nat){α:Type}[Rp α](s:List α):Fa:=.V (sv x s) s
abbrev fR(i:Nat)(e:TypeId)(x:Option Addr×Nat){α:Type}[Rp α](s:List α):Fa:=.R i e (sv x s) s
abbrev fI(n:Int):Fa:=.X (W1 n)
theorem Sb.go{Γ a:List Fa}(b:Sb Γ a:=by((repeat (first|exact Sb.nil|refine Sb.t ?_|refine Sb.x zI ?_|refine Sb.x zS ?_|refine Sb.v ?_|refine Sb.n rfl ?_|refine Sb.cons In.go ?_))<;>fail)):Sb Γ a:=b
theorem sb{l a:Env}(b:W4 l a:=by((repeat (first|exact trivial|refine⟨rfl,?_⟩|refine⟨Bn (by assumption) _ _ rfl,?_⟩))<;>fail)):W4 l a:=b
section
variable {P:Program}{m:Nat}{Q:X0}{l:Env}{w:World}{B:Bse}{Γ:List Fa}{O:Lab}{σ X κ:Type}{r:κ}
theorem BP{n:Nat}{c:Code}{a:Env}(b:ewp P n c Q a w)(hs:W4 l a:=by assumption):ewp P n c Q l w:=AQ _ hs b
theorem Fq{t i n inc:Tmp}{b b' r1 r2:Nat}{ty1 ty2 ty3 y1 y2 y3 y4:TypeId}{p1 p2 p3:String}{a1 a2 a3:Array Edge}{body:Code}{α:Type}[Rp α]{f:Nat→α→σ→Option (Ctl σ κ)}{xs:List α}{s₀:σ}{g:σ→Option κ}(hm:bnd (rng f xs 0 s₀) (λres=>fin res g)=some r)
    (K VK T OL:List Nat) (Ch:(Nat->Value)->(Nat->Fa)->σ->X->Env->Env) (U:(Nat->Value)->(Nat->Fa)->σ->X->List Fa->List Fa) {E0 E1:Env} {Δ Δ1:List Fa} (x₀:X)
    (hb:∀k a s x w' O' c,f k a s=some c->xs[k]?=some a->W1 (k:Int)->(∀r',c=.ret r'->r'=r)->Al B (U (lkv E1) (fo Δ1) s x Δ) w' O' ->
      ewp P m body (X9 b' (thn (λl' w''=>∃s' x',c=.next s'/\W4 l' (rgE i n xs.length k (Ch (lkv E1) (fo Δ1) s' x' E0))/\∃O'',Al B (U (lkv E1) (fo Δ1) s' x' Δ) w'' O'') (X9 b (thn (λ_ _=>False) Q)))) ((t,.bool true)::rgE i n xs.length k (Ch (lkv E1) (fo Δ1) s x E0)) w')
    (hk:∀s x l' w' O',g s=some r->W4 l' (Ch (lkv E1) (fo Δ1) s x E0)->Al B (U (lkv E1) (fo Δ1) s x Δ) w' O'->Q .normal l' w')
    (H:Al B Γ w O:=by assumption) (hE:pkO K l=some E0:=by exact rfl) (hV:pkO VK l=some E1:=by exact rfl) (hD:AaE T Γ=some Δ:=by exact rfl) (hO:AaF OL Γ=some Δ1:=by exact rfl) (hN:xs.length<=9223372036854775807:=by exact zM) (hs:W4 l (rgE i n xs.length 0 (Ch (lkv E1) (fo Δ1) s₀ x₀ E0)):=by exact sb) (h0:Sb Γ (U (lkv E1) (fo Δ1) s₀ x₀ Δ):=by exact Sb.go) (hy:∀s x,kys [t,i,n,inc] (Ch (lkv E1) (fo Δ1) s x E0)=true:=by exact λ_ _=>rfl) (ht:Nat.blt t m=true/\Nat.blt i m=true/\Nat.blt inc m=true:=by exact⟨rfl,rfl,rfl⟩) (hne:Nat.beq i n=false/\Nat.beq inc n=false:=by exact⟨rfl,rfl⟩) :
    ewp P m (.block b (.loop (.seq (.region r1 #[⟨some t,.binOp .lss ty1 (.tmp i) (.tmp n) ty2,y1,p1,a1,none⟩] false) (.seq (.cond (.tmp t) .skip (.exit b)) (.seq (.block b' body)
      (.region r2 #[⟨some inc,.binOp .add ty3 (.tmp i) (.const (.int .i64 1)) y4,y2,p2,a2,none⟩,⟨some i,.move (.tmp inc),y3,p3,a3,none⟩] false)))))) Q l w:=by
  obtain⟨res,hL,hm⟩:=bs hm;refine Dg xs.length hL rfl hN (λs x=>Ch (lkv E1) (fo Δ1) s x E0) (λs x w'=>∃O',Al B (U (lkv E1) (fo Δ1) s x Δ) w' O') x₀ ⟨O,H.sub h0⟩ hs hy ?_ ?_ ht hne
  . rintro k a s x w' c ha ⟨O',hA⟩ hf hr -
    refine HG ?_ (hb k a s x w' O' c hf ha (YV ha hN) (λr' e=>?_) hA)
    . intro e l' w' hq;cases e with
      |normal=>exact hq
      |exit j =>
        simp only[X9,thn]at hq ⊢;cases h1:Nat.beq j b' with
        |true=>rw[h1]at hq;exact hq
        |false =>
          rw[h1]at hq;simp only at hq ⊢;cases h2:Nat.beq j b with
          |true=>rw[h2]at hq;exact hq.elim
          |false=>rw[h2]at hq;exact hq
      |panic c=>exact hq
      |outgrown=>exact hq
      |goto j=>exact hq
      |ret=>exact hq
    . have:=hr r' e;subst this;exact Q1 (Bp hm)
  . rintro l' w' ⟨s,x,rfl,h1,O',h2⟩;exact hk s x l' w' O' hm h1 h2
theorem XK{t i n inc:Tmp}{b b' r1 r2:Nat}{ty1 ty2 ty3 y1 y2 y3 y4:TypeId}{p1 p2 p3:String}{a1 a2 a3:Array Edge}{body:Code}{f:Nat→σ→Option (Ctl σ κ)}{N₀:Nat}{s₀:σ}{g:σ→Option κ}(hm:bnd (Zb f N₀ s₀) (λres=>fin res g)=some r)
    (K VK T OL:List Nat) (Ch:(Nat->Value)->(Nat->Fa)->σ->X->Env->Env) (U:(Nat->Value)->(Nat->Fa)->σ->X->List Fa->List Fa) {E0 E1:Env} {Δ Δ1:List Fa} (x₀:X)
    (hb:∀k s x w' O' c,f k s=some c->k<N₀->W1 (k:Int)->(∀r',c=.ret r'->r'=r)->Al B (U (lkv E1) (fo Δ1) s x Δ) w' O' ->
      ewp P m body (X9 b' (thn (λl' w''=>∃s' x',c=.next s'/\W4 l' (rgE i n N₀ k (Ch (lkv E1) (fo Δ1) s' x' E0))/\∃O'',Al B (U (lkv E1) (fo Δ1) s' x' Δ) w'' O'') (X9 b (thn (λ_ _=>False) Q)))) ((t,.bool true)::rgE i n N₀ k (Ch (lkv E1) (fo Δ1) s x E0)) w')
    (hk:∀s x l' w' O',g s=some r->W4 l' (Ch (lkv E1) (fo Δ1) s x E0)->Al B (U (lkv E1) (fo Δ1) s x Δ) w' O'->Q .normal l' w')
    (H:Al B Γ w O:=by assumption) (hE:pkO K l=some E0:=by exact rfl) (hV:pkO VK l=some E1:=by exact rfl) (hD:AaE T Γ=some Δ:=by exact rfl) (hO:AaF OL Γ=some Δ1:=by exact rfl) (hN:N₀<=9223372036854775807:=by exact zM) (hs:W4 l (rgE i n N₀ 0 (Ch (lkv E1) (fo Δ1) s₀ x₀ E0)):=by exact sb) (h0:Sb Γ (U (lkv E1) (fo Δ1) s₀ x₀ Δ):=by exact Sb.go) (hy:∀s x,kys [t,i,n,inc] (Ch (lkv E1) (fo Δ1) s x E0)=true:=by exact λ_ _=>rfl) (ht:Nat.blt t m=true/\Nat.blt i m=true/\Nat.blt inc m=true:=by exact⟨rfl,rfl,rfl⟩) (hne:Nat.beq i n=false/\Nat.beq inc n=false:=by exact⟨rfl,rfl⟩) :
    ewp P m (.block b (.loop (.seq (.region r1 #[⟨some t,.binOp .lss ty1 (.tmp i) (.tmp n) ty2,y1,p1,a1,none⟩] false) (.seq (.cond (.tmp t) .skip (.exit b)) (.seq (.block b' body)
      (.region r2 #[⟨some inc,.binOp .add ty3 (.tmp i) (.const (.int .i64 1)) y4,y2,p2,a2,none⟩,⟨some i,.move (.tmp inc),y3,p3,a3,none⟩] false)))))) Q l w:=by
  obtain⟨res,hL,hm⟩:=bs hm;refine LO N₀ hL hN (λs x=>Ch (lkv E1) (fo Δ1) s x E0) (λs x w'=>∃O',Al B (U (lkv E1) (fo Δ1) s x Δ) w' O') x₀ ⟨O,H.sub h0⟩ hs hy ?_ ?_ ht hne
  . rintro k s x w' c ha ⟨O',hA⟩ hf hr -
    refine HG ?_ (hb k s x w' O' c hf ha (AaQ ha hN) (λr' e=>?_) hA)
    . intro e l' w' hq;cases e with
      |normal=>exact hq
      |exit j =>
        simp only[X9,thn]at hq ⊢;cases h1:Nat.beq j b' with
        |true=>rw[h1]at hq;exact hq
        |false =>
          rw[h1]at hq;simp only at hq ⊢;cases h2:Nat.beq j b with
          |true=>rw[h2]at hq;exact hq.elim
          |false=>rw[h2]at hq;exact hq
      |panic c=>exact hq
      |outgrown=>exact hq
      |goto j=>exact hq
      |ret=>exact hq
    . have:=hr r' e;subst this;exact Q1 (Bp hm)
  . rintro l' w' ⟨s,x,rfl,h1,O',h2⟩;exact hk s x l' w' O' hm h1 h2
theorem XL{t i n inc:Tmp}{b b' r1 r2:Nat}{ty1 ty2 ty3 y1 y2 y3 y4:TypeId}{p1 p2 p3:String}{a1 a2 a3:Array Edge}{body:Code}{zi:Int}{f:Nat->Nat->σ->Option (Ctl σ κ)}{s₀:σ}{g:Nat->σ->Option κ}(hm:bnd (Aa0 zi) (λN=>bnd (Zb (f N) N s₀) (λres=>fin res (g N)))=some r)
    (K VK T OL:List Nat) (Ch:(Nat->Value)->(Nat->Fa)->σ->X->Env->Env) (U:(Nat->Value)->(Nat->Fa)->σ->X->List Fa->List Fa) {E0 E1:Env} {Δ Δ1:List Fa} (x₀:X)
    (hb:∀N₀ k s x w' O' c,f N₀ k s=some c->zi=(N₀:Int)->k<N₀->W1 (k:Int)->(∀r',c=.ret r'->r'=r)->Al B (U (lkv E1) (fo Δ1) s x Δ) w' O' ->
      ewp P m body (X9 b' (thn (λl' w''=>∃s' x',c=.next s'/\W4 l' (rgE i n N₀ k (Ch (lkv E1) (fo Δ1) s' x' E0))/\∃O'',Al B (U (lkv E1) (fo Δ1) s' x' Δ) w'' O'') (X9 b (thn (λ_ _=>False) Q)))) ((t,.bool true)::rgE i n N₀ k (Ch (lkv E1) (fo Δ1) s x E0)) w')
    (hk:∀N₀ s x l' w' O',g N₀ s=some r->W4 l' (Ch (lkv E1) (fo Δ1) s x E0)->Al B (U (lkv E1) (fo Δ1) s x Δ) w' O'->Q .normal l' w')
    (H:Al B Γ w O:=by assumption) (hE:pkO K l=some E0:=by exact rfl) (hV:pkO VK l=some E1:=by exact rfl) (hD:AaE T Γ=some Δ:=by exact rfl) (hO:AaF OL Γ=some Δ1:=by exact rfl) (hz:W1 zi:=by exact zI) (hs:W4 l ((i,.int .i64 ((0:Nat):Int))::(n,.int .i64 zi)::(Ch (lkv E1) (fo Δ1) s₀ x₀ E0)):=by exact sb) (h0:Sb Γ (U (lkv E1) (fo Δ1) s₀ x₀ Δ):=by exact Sb.go) (hy:∀s x,kys [t,i,n,inc] (Ch (lkv E1) (fo Δ1) s x E0)=true:=by exact λ_ _=>rfl) (ht:Nat.blt t m=true/\Nat.blt i m=true/\Nat.blt inc m=true:=by exact⟨rfl,rfl,rfl⟩) (hne:Nat.beq i n=false/\Nat.beq inc n=false:=by exact⟨rfl,rfl⟩) :
    ewp P m (.block b (.loop (.seq (.region r1 #[⟨some t,.binOp .lss ty1 (.tmp i) (.tmp n) ty2,y1,p1,a1,none⟩] false) (.seq (.cond (.tmp t) .skip (.exit b)) (.seq (.block b' body)
      (.region r2 #[⟨some inc,.binOp .add ty3 (.tmp i) (.const (.int .i64 1)) y4,y2,p2,a2,none⟩,⟨some i,.move (.tmp inc),y3,p3,a3,none⟩] false)))))) Q l w:=by
  obtain⟨N,hN,hm⟩:=bs hm;replace hN:=TG hN;subst hN;exact XK hm K VK T OL Ch U x₀ (λk s x w' O' c h1=>hb N k s x w' O' c h1 rfl) (λs x l' w' O'=>hk N s x l' w' O') H hE hV hD hO (rngNat' hz) hs h0 hy ht hne
theorem Dp{c:Code}{y:Option σ}{g:σ->Option κ}(hm:bnd y g=some r)(K j v k:List Nat)(i:(Nat->Value)->(Nat->Fa)->σ->X->Env->Env)(z:(Nat->Value)->(Nat->Fa)->σ->X->List Fa->List Fa){f d:Env}{h a:List Fa}
    (n:∀s,y=some s->ewp P m c (thn (λb w'=>∃x,W4 b (i (lkv d) (fo a) s x f)/\∃e,Al B (z (lkv d) (fo a) s x h) w' e) Q) l w)
    (o:∀s x b w' e,g s=some r->W4 b (i (lkv d) (fo a) s x f)->Al B (z (lkv d) (fo a) s x h) w' e->Q .normal b w') (A:Al B Γ w O:=by assumption) (p:pkO K l=some f:=by exact rfl) (q:pkO j l=some d:=by exact rfl) (t:AaE v Γ=some h:=by exact rfl) (u:AaF k Γ=some a:=by exact rfl):ewp P m c Q l w:=by
  obtain⟨s,h3,h4⟩:=bs hm;refine Bc _ (n s h3) ?_;rintro b w' ⟨x,h5,e,h6⟩;exact o s x b w' e h4 h5 h6
theorem Ws{c:Code}{y:Option (Fin σ κ)}{g:σ->Option κ}(hm:bnd y (λv=>fin v g)=some r)(K k A n:List Nat)(j:(Nat->Value)->(Nat->Fa)->σ->X->Env->Env)(C:(Nat->Value)->(Nat->Fa)->σ->X->List Fa->List Fa){h d:Env}{i a:List Fa}
    (o:∀v,y=some v->(∀r',v=.ret r'->r'=r)->ewp P m c (thn (λb w'=>∃s x,v=.done s/\W4 b (j (lkv d) (fo a) s x h)/\∃f,Al B (C (lkv d) (fo a) s x i) w' f) Q) l w)
    (p:∀s x b w' f,g s=some r->W4 b (j (lkv d) (fo a) s x h)->Al B (C (lkv d) (fo a) s x i) w' f->Q .normal b w') (D:Al B Γ w O:=by assumption) (q:pkO K l=some h:=by exact rfl) (t:pkO k l=some d:=by exact rfl) (u:AaE A Γ=some i:=by exact rfl) (z:AaF n Γ=some a:=by exact rfl):ewp P m c Q l w:=by
  obtain⟨v,h3,h4⟩:=bs hm;refine Bc _ (o v h3 λr' e=>by subst e;exact Q1 (Bp h4)) ?_;rintro b w' ⟨s,x,rfl,h5,f,h6⟩;exact p s x b w' f h4 h5 h6
theorem EI{E:σ->X->Env}{F:σ->X->List Fa}{a:σ}{c:Ctl σ κ}(b:X)(hc:some (Ctl.next a)=some c){d:Env}(hs:W4 d (E a b):=by exact sb)(f:Al B Γ w O:=by assumption)(hb:Sb Γ (F a b):=by exact Sb.go) :
    ∃a b,c=.next a/\W4 d (E a b)/\∃e,Al B (F a b) w e:=⟨a,b,(Q1 hc).symm,hs,O,f.sub hb⟩
theorem XM{E:σ->X->Env}{F:σ->X->List Fa}{a:σ}{c:Fin σ κ}(b:X)(hc:some (Fin.done a)=some c){d:Env}(hs:W4 d (E a b):=by exact sb)(f:Al B Γ w O:=by assumption)(hb:Sb Γ (F a b):=by exact Sb.go) :
    ∃a b,c=.done a/\W4 d (E a b)/\∃e,Al B (F a b) w e:=⟨a,b,(Q1 hc).symm,hs,O,f.sub hb⟩
theorem Bb{E:X->Env}{F:X->List Fa}(a:X){b:Env}(hs:W4 b (E a):=by exact sb)(d:Al B Γ w O:=by assumption)(hb:Sb Γ (F a):=by exact Sb.go) :
    ∃a,W4 b (E a)/\∃c,Al B (F a) w c:=⟨a,hs,O,d.sub hb⟩
end
theorem zL{l:Env}{i:Nat}{v:Value}(a:lk l i=some v:=by first|exact rfl|exact Bn (by assumption) _ _ rfl):lk l i=some v:=a
theorem zRa{P:Program}{l:Env}{w:World}{B:Bse}{Γ:List Fa}{O:Lab}{b:Tmp}{t a:TypeId}[TAgg P t]{z:Value}{size bytes:Nat}[TInfo P t z size bytes]{i g:Nat}{cs:List Value}(c:lk l b=some (.pointer (some ⟨g,0,none⟩)):=by exact zL)(d:Al B Γ w O:=by assumption)(hk:In Γ (.L i g a cs):=by exact In.go)(hl:cs.length=size:=by exact rfl):X1 P l w (.cell b t) (.agg cs.toArray):=CC c hl (d.blk hk).cellsAt
theorem zRo{P:Program}{l:Env}{w:World}{B:Bse}{Γ:List Fa}{O:Lab}{b:Tmp}{t a:TypeId}[TOne P t]{i g:Nat}{v:Value}{cs:List Value}(c:lk l b=some (.pointer (some ⟨g,0,none⟩)):=by exact zL)(d:Al B Γ w O:=by assumption)(hk:In Γ (.L i g a (v::cs)):=by exact In.go):X1 P l w (.cell b t) v:=Tz c (Blk.cell (i:=0) (d.blk hk) rfl)
theorem zR{P:Program}{l:Env}{w:World}{q:ResultVar}{v:Value}(a:X1 P l w q v:=by first
  |exact AC zL
  |exact zRo
  |exact zRa):X1 P l w q v:=a
section
variable {P:Program}{l:Env}{w w0:World}{A:Nat → Prop}{Γ:List Fa}{O:Lab}{fn:Func}
theorem Ca{α:Type}[Rp α]{b:ResultVar}{c:Value}{a:α}(d:fn.results=#[b]:=by exact rfl)(e:X1 P l w b c:=by exact zR)(g:Al (bS w0 A) Γ w O:=by assumption)(f:Vb w (Fr 0 w O) c a:=by exact zV):W6 P fn (λv w'=>Ext w0 w'/\Vb w' (upA A w0 w') v a) .ret l w :=
  X2 d e ⟨g.base.ext,f.mono g.base.out⟩
theorem Ge{α β:Type}[Rp α][Rp β]{b c:ResultVar}{d e:Value}{a:α×β}(f:fn.results=#[b,c]:=by exact rfl)(g:X1 P l w b d:=by exact zR)(h:X1 P l w c e:=by exact zR)(k:Al (bS w0 A) Γ w O:=by assumption)(i:Vb w (Fr 0 w O) d a.1:=by exact zV)(j:Vb w (Fr 0 w O) e a.2:=by exact zV):W6 P fn (λv w'=>Ext w0 w'/\T2 w' (upA A w0 w') v a) .ret l w :=
  X3 f g h ⟨k.base.ext,_,_,rfl,i.mono k.base.out,j.mono k.base.out⟩
theorem Ta{α β b:Type}[Rp α][Rp β][Rp b]{c d e:ResultVar}{f g h:Value}{a:α×β×b}(i:fn.results=#[c,d,e]:=by exact rfl)(j:X1 P l w c f:=by exact zR)(k:X1 P l w d g:=by exact zR)(m:X1 P l w e h:=by exact zR)(q:Al (bS w0 A) Γ w O:=by assumption)(n:Vb w (Fr 0 w O) f a.1:=by exact zV)(o:Vb w (Fr 0 w O) g a.2.1:=by exact zV)(p:Vb w (Fr 0 w O) h a.2.2:=by exact zV):W6 P fn (λv w'=>Ext w0 w'/\T3 w' (upA A w0 w') v a) .ret l w :=
  ZG i j k m ⟨q.base.ext,_,_,_,rfl,n.mono q.base.out,o.mono q.base.out,p.mono q.base.out⟩
end
theorem Db{w:World}{A:Nat->Prop}(hA:∀k,A k->k<w.heap.size):∃O,Al (bS w A) [] w O/\∀k,A k->Fr 0 w O k:=by
  obtain⟨O,hB,hz⟩:=enter hA;exact⟨O,hB,hz⟩
theorem CZ{α:Type}[Rp α]{K:Bse->List Fa->World->Lab->α->(Value->Prop)->Prop}[a:El α K]{B:Bse}{Γ:List Fa}{A:Nat->Prop}{w:World}{O:Lab}{x:α}{v:Value}(b:Vb w A v x){G:Value->Prop}(c:K B Γ w O x G)(d:Al B Γ w O:=by assumption)(hz:∀k,A k->Fr 0 w O k:=by assumption):G v:=a.el d (b.mono hz) c
section
variable {P:Program}{n:Nat}{ops:Array Oper}{Q:X0}{l:Env}{w w0:World}{B:Bse}{Γ:List Fa}{O O0:Lab}
theorem Tb[Mixed P]{id:Nat}{L:List Oper}(a:List (Nat×List Nat))(b:hwx P n L.toArray Q a w O L.toArray.size (Array.replicate L.toArray.size false) l w)(c:Al B Γ w O:=by assumption):ewp P n (.region id L.toArray true) Q l w:=Ck a O b
theorem Qy[Mixed P]{id:Nat}{L:List Oper}(a:List (Nat×Bool))(d:hwp P n L.toArray Q (·=w) a l w)(hs:Region.noSelect L.toArray=true:=by kernel_rfl)(b:a.length=L.toArray.size:=by exact rfl)(c:ordOk L.toArray (Array.replicate L.toArray.size false) a=true:=by kernel_rfl):ewp P n (.region id L.toArray true) Q l w:=Ct (·=w) a (hs:=hs) b (hc:=c) rfl d
theorem GZ{c:List (Nat×List Nat)}{fuel i:Nat}{a:Array Bool}{ls:List Nat}(b:List (Nat×List Nat))(d:hwx P n ops Q b w O fuel (a.setIfInBounds i true) l w)(e:Al B Γ w O:=by assumption)(hk:In Γ (.S w0 O0 ls):=by exact In.go)(hs:(ls.all ((tcs c (a.setIfInBounds i true)).contains ·)&&b.all (c.contains ·))=true:=by kernel_rfl):owp P n ops (YW P n ops Q c w0 O0 i fuel a) [] l w:=CT b (e.at hk) (hs:=hs) d
end
end
section
open Go Go.RowKit
instance:El Fct λc b w O x G=>W1 x.var->W1 x.val->Al c (.V (.agg #[(.int .i64 x.var),(.int .i64 x.val)]) x::b) w O->G (.agg #[(.int .i64 x.var),(.int .i64 x.val)]):=⟨λd e k=>by
  have a:=e;unfold Vb at a;obtain⟨cs,rfl,rfl,r1,r2⟩:=a;exact k r1 r2 ⟨e,d⟩⟩
instance:Ec Fct λe a w O i b o x G=>W1 x.var->W1 x.val->Al e (.C i b o [(.int .i64 x.var),(.int .i64 x.val)] :: .V (.agg #[(.int .i64 x.var),(.int .i64 x.val)]) x::a) w O->G:=⟨λ{_ _ _ _ _ _ _ x _ _} f c hc g k=>by
  have d:=Vb.ofAgg (x:=x) rfl g;obtain⟨rfl,r1,r2⟩:=g;exact k r1 r2 ⟨⟨c,hc⟩,d,f⟩⟩
instance:El Eff λe d w O x G=>∀(a:Option Addr)(b:Nat),W1 x.var->W1 x.val->Al e (.V (.slice a x.cond.length b) x.cond :: .V (.agg #[(.slice a x.cond.length b),(.int .i64 x.var),(.int .i64 x.val)]) x::d) w O->G (.agg #[(.slice a x.cond.length b),(.int .i64 x.var),(.int .i64 x.val)]):=⟨λf g k=>by
  have c:=g;unfold Vb at c;obtain⟨cs,rfl,v1,rfl,h2,r5,r6⟩:=c;obtain⟨a,b,rfl⟩:=h2.form;exact k a b r5 r6 ⟨h2,g,f⟩⟩
instance:Ec Eff λh d w O i b o x G=>∀(a:Option Addr)(c:Nat),W1 x.var->W1 x.val->Al h (.C i b o [(.slice a x.cond.length c),(.int .i64 x.var),(.int .i64 x.val)] :: .V (.slice a x.cond.length c) x.cond :: .V (.agg #[(.slice a x.cond.length c),(.int .i64 x.var),(.int .i64 x.val)]) x::d) w O->G:=⟨λ{_ _ _ _ _ _ _ x _ _} j e hc l k=>by
  have f:=Vb.ofAgg (x:=x) rfl l;obtain⟨g,rfl,h2,r5,r6⟩:=l;obtain⟨a,c,rfl⟩:=h2.form;exact k a c r5 r6 ⟨⟨e,hc⟩,h2,f,j⟩⟩
instance:Ec Opr λl f w O i b o x G=>∀(a:Option Addr)(c:Nat)(d:Option Addr)(e:Nat),x.name.size<=9223372036854775807->W1 x.cost->Al l (.C i b o [(.string x.name),(.int .i64 x.cost),(.slice a x.pre.length c),(.slice d x.effs.length e)] :: .V (.slice a x.pre.length c) x.pre :: .V (.slice d x.effs.length e) x.effs :: .V (.agg #[(.string x.name),(.int .i64 x.cost),(.slice a x.pre.length c),(.slice d x.effs.length e)]) x::f) w O->G:=⟨λ{_ _ _ _ _ _ _ x _ _} m g hc n k=>by
  have h:=Vb.ofAgg (x:=x) rfl n;obtain⟨j,v2,rfl,h3,h6,r9,z10⟩:=n;obtain⟨a,c,rfl⟩:=h3.form;obtain⟨d,e,rfl⟩:=h6.form;exact k a c d e z10 r9 ⟨⟨g,hc⟩,h3,h6,h,m⟩⟩
instance:El Tsk λl j w O x G=>∀(f:Option Addr)(g:Nat)(h:Option Addr)(a:Nat)(b:Option Addr)(c:Nat)(d:Option Addr)(e:Nat),Al l (.V (.slice f x.vars.length g) x.vars :: .V (.slice h x.init.length a) x.init :: .V (.slice b x.goal.length c) x.goal :: .V (.slice d x.ops.length e) x.ops :: .V (.agg #[(.slice f x.vars.length g),(.slice h x.init.length a),(.slice b x.goal.length c),(.slice d x.ops.length e)]) x::j) w O->G (.agg #[(.slice f x.vars.length g),(.slice h x.init.length a),(.slice b x.goal.length c),(.slice d x.ops.length e)]):=⟨λm n k=>by
  have i:=n;unfold Vb at i;obtain⟨cs,rfl,v1,v2,v3,v4,rfl,h5,h8,h11,h14⟩:=i;obtain⟨f,g,rfl⟩:=h5.form;obtain⟨h,a,rfl⟩:=h8.form;obtain⟨b,c,rfl⟩:=h11.form;obtain⟨d,e,rfl⟩:=h14.form;exact k f g h a b c d e ⟨h5,h8,h11,h14,n,m⟩⟩
end
section
open Go Go.RowKit
def Aad(n:Nat)(Q:X0)(e:Exit)(a:Act)(w:World):Prop:=Aa4 e/\∃l,Ok n a l/\Q e l w
def ZN(P:Program)(n:Nat)(c:Code)(Q:X0)(l:Env)(w:World):Prop:=∀a,Ok n a l->c.wp P (Aad n Q) a w
def ZE(P:Program)(n:Nat)(ops:Array Oper)(Q:X0)(rest:List Oper)(l:Env)(w:World):Prop:=∀a,Ok n a l->wpList P ops (Aad n Q) rest a w
section
variable {P:Program}{n:Nat}{Q:X0}{l:Env}{w:World}
theorem BX{x y:Code}(d:ZN P n x (thn (ZN P n y Q) Q) l w):ZN P n (.seq x y) Q l w:=λa b =>
  wp_seq (T7 (λe a w hl=>by
    obtain⟨hn,l',ho,hq⟩:=hl;cases e with
    |normal=>exact hq a ho
    |panic c=>exact hn.elim
    |outgrown=>exact hn.elim
    |exit i=>exact⟨trivial,l',ho,hq⟩
    |goto i=>exact⟨trivial,l',ho,hq⟩
    |ret=>exact⟨trivial,l',ho,hq⟩) (d a b))
theorem Is(b:Q .normal l w):ZN P n .skip Q l w:=λ_ a=>wp_skip ⟨trivial,l,a,b⟩
theorem Qz{i:Nat}(b:Q (.exit i) l w):ZN P n (.exit i) Q l w:=λ_ a=>wp_exit ⟨trivial,l,a,b⟩
theorem Hj(b:Q .ret l w):ZN P n .ret Q l w:=λ_ a=>wp_ret ⟨trivial,l,a,b⟩
theorem It{c:Operand}{x y:Code}(hc:opv l c=some (.bool true))(d:ZN P n x Q l w):ZN P n (.cond c x y) Q l w:=λa b=>wp_cond_true (b.eval hc) (d a b)
theorem HP{c:Operand}{x y:Code}(hc:opv l c=some (.bool false))(d:ZN P n y Q l w):ZN P n (.cond c x y) Q l w:=λa b=>wp_cond_false (b.eval hc) (d a b)
theorem Kj{id:Nat}{c:Code}(f:ZN P n c (X9 id Q) l w):ZN P n (.block id c) Q l w:=λa b =>
  wp_block (T7 (λe a w hl=>by
    obtain⟨hn,l',ho,hq⟩:=hl;cases e with
    |exit i =>
      simp only[Exit.inBlock];simp only[X9]at hq;by_cases hi:i=id
      . subst hi;have hb:Nat.beq i i=true:=T8 i;rw[hb]at hq;rw[if_pos rfl];exact⟨trivial,l',ho,hq⟩
      . have hb:Nat.beq i id=false:=by
          cases d:Nat.beq i id
          . rfl
          . exact absurd (F1 d) hi
        rw[hb]at hq;rw[if_neg hi];exact⟨trivial,l',ho,hq⟩
    |panic c=>exact hn.elim
    |outgrown=>exact hn.elim
    |normal=>exact⟨trivial,l',ho,hq⟩
    |goto i=>exact⟨trivial,l',ho,hq⟩
    |ret=>exact⟨trivial,l',ho,hq⟩) (f a b))
theorem BI{id:Nat}{L:List Oper}(c:ZE P n L.toArray Q L l w):ZN P n (.region id L.toArray false) Q l w:=λa b=>wp_region_lit (c a b)
theorem UV{c:Code}(E:Nat→Env)(I:Nat→Prop)(N d:Nat)(hs:W4 l (E d))(o:I d)
    (f:∀k,I k->k<=N/\ZN P n c (thn (λp w'=>w'=w/\W4 p (E (k+1))/\I (k+1)) Q) (E k) w):ZN P n (.loop c) Q l w:=by
  intro a D;have r:∀a' w',(∃k,w'=w/\Ok n a' (E k)/\I k)->∃m,(∃k,w'=w/\Ok n a' (E k)/\I k/\N-k=m)/\∀k,Ok n a' (E k)->I k->m<=N-k:=by
    intro a' w' ⟨k,v,B,h3⟩;have:∀(q k:Nat),N-k<=q->Ok n a' (E k)->I k->∃m,(∃k,w'=w/\Ok n a' (E k)/\I k/\N-k=m)/\∀k,Ok n a' (E k)->I k->m<=N-k:=by
      intro q
      induction q with
      |zero=>intro k j s t;exact⟨N-k,⟨k,v,s,t,rfl⟩,λ_ _ _=>by omega⟩
      |succ q F =>
        intro k j s t;by_cases C:∃g,Ok n a' (E g)/\I g/\N-g<=q
        . obtain⟨g,x,y,g3⟩:=C;exact F g g3 x y
        . refine⟨N-k,⟨k,v,s,t,rfl⟩,λg x y=>?_⟩;rcases T9 (N-g) (N-k)with h|h
          . exact absurd ⟨g,x,y,by omega⟩ C
          . exact h
    exact this _ k (V2 _) B h3
  refine wp_loop (λa' w'=>∃k,w'=w/\Ok n a' (E k)/\I k) (λa' w'=>Classical.epsilon λm=>(∃k,w'=w/\Ok n a' (E k)/\I k/\N-k=m)/\∀k,Ok n a' (E k)->I k->m<=N-k) ⟨d,rfl,D.sub hs,o⟩ ?_;intro a' w' u;obtain⟨⟨k,rfl,s,t,hk⟩,_⟩:=E4 (r a' w' u);obtain⟨G,hr⟩:=f k t;refine T7 (λe z A hl=>?_) (hr a' s);obtain⟨hn,p,ho',j⟩:=hl;cases e with
  |normal =>
    obtain⟨rfl,hs₂,hI₂⟩:=j;have b:=ho'.sub hs₂;refine⟨⟨k+1,rfl,b,hI₂⟩,?_⟩;obtain⟨_,hmin⟩:=E4 (r z A ⟨k+1,rfl,b,hI₂⟩);have v:=hmin (k+1) b hI₂;have B:=(f (k+1) hI₂).1;exact J8 v (J9 (by omega) hk)
  |panic c=>exact hn.elim
  |outgrown=>exact hn.elim
  |exit i=>exact⟨trivial,p,ho',j⟩
  |goto i=>exact⟨trivial,p,ho',j⟩
  |ret=>exact⟨trivial,p,ho',j⟩
variable {ops:Array Oper}{rest:List Oper}{d:Tmp}{ty:TypeId}{pos:String}{aft:Array Edge}
theorem Eb{K:Env->World->Prop}[b:NilQ Q K](hk:K l w):ZE P n ops Q [] l w:=λ_ a=>wpList_nil ⟨trivial,l,a,b.of l w hk⟩
theorem Bu{b:Op}{v:Value}(he:Ev P ⟨some d,b,ty,pos,aft,none⟩ l w v)  (f:ZE P n ops Q rest ((d,v)::l) w) (hd:Nat.blt d n=true:=by exact rfl):ZE P n ops Q (⟨some d,b,ty,pos,aft,none⟩::rest) l w :=
  λa c=>wpList_plain rfl λK e=>by
    unfold Oper.wp;have:=he n a w.drawn c;rw[Ik]at this;rw[this];exact e _ _ (f _ (c.put hd v))
theorem Iu{f:FuncId}[hf:Callable P f]{xs:List Operand}{vs:List Value}{h:Array TypeId}{v:Value}(k:X5 l xs=some vs)(hd:Nat.blt d n=true)(hc:Calls P f vs.toArray w λe w'=>e=.returned v/\w'=w)
    (o:ZE P n ops Q rest ((d,v)::l) w):ZE P n ops Q (⟨some d,.call { callee:=.value (.func f),args:=xs.toArray,argTypes:=h },ty,pos,aft,none⟩::rest) l w :=
  fun a i=>wpList_plain rfl λK m=>by
    obtain⟨j,h1,h2,h3⟩:=hf.eq;have b:¬j.body=none:=λe=>(by rw[e]at h2;simp at h2);have c : ¬j.name = "runtime.NumGoroutine" := fun e=>by rw[e]at h3; simp at h3
    unfold Oper.wp;have g:a.eval (.func f)=.func (.func f) #[] #[]:=rfl;have:(execOp a.eval ⟨some d,.call { callee:=.value (.func f),args:=xs.toArray,argTypes:=h },ty,pos,aft,none⟩).run P w=.ok (.enter f vs.toArray) w:=by
      simp[execOp,resolve,g,Deferred.ofValue,invoke,callFunc,h1,b,c,i.evals k]
    rw[this];exact hc.mono λ_ _ ⟨he,hw⟩=>by subst he;subst hw;exact m _ _ (o _ (i.put hd v))
end
theorem TP{P:Program}{f:FuncId}{b:Func}{c:Code}{vs:List Value}{w:World}{v:Value}{n:Nat}(hf:P.funcs[f]?=some b)(hb:b.body=some c)(hn:b.ntmps=n)(hl:Nat.ble vs.length n=true)
    (m:ZN P n c (W6 P b λu w'=>u=v/\w'=w) (ent 0 vs) w):Calls P f vs.toArray w λe w'=>e=.returned v/\w'=w:=by
  have j:vs.length<=n:=(by simpa using hl);refine calls_of_wp hf hb (T7 (λe a w' k=>?_) (m _ (?_:Ok n { tmps:=vs.toArray++Array.replicate (b.ntmps-vs.toArray.size) undef,defers:=[] } (ent 0 vs))))
  . obtain⟨h,l,ho,q⟩:=k;cases e with
    |normal=>obtain⟨g,hr,d,hw⟩:=q;subst d hw;have:=hr n a w'.drawn ho;rw[Ik]at this;exact⟨ho.defers,g,this,rfl,rfl⟩
    |ret=>obtain⟨g,hr,d,hw⟩:=q;subst d hw;have:=hr n a w'.drawn ho;rw[Ik]at this;exact⟨ho.defers,g,this,rfl,rfl⟩
    |panic c=>exact h.elim
    |outgrown=>exact h.elim
    |exit i=>exact q.elim
    |goto i=>exact q.elim
  . refine⟨by simp[hn];omega,rfl,λi v d=>?_⟩;obtain⟨_,h2⟩:=NN vs 0 i v d;simp only[U7]at h2;have hi:i<vs.length:=(C3.1 h2).1;simp only[B7];rw[B8 (by simpa using hi)];simp[h2]
end
section
open Go Go.RowKit
section
variable {P:Program}{n:Nat}{Q:X0}{ops:Array Oper}{rest:List Oper}{l:Env}{w:World}{d:Tmp}{ty:TypeId}{pos:String}{aft:Array Edge}{S:World → Prop}
theorem HQ(b:Q .normal l w):ZE P n ops Q [] l w:=λ_ a=>wpList_nil ⟨trivial,l,a,b⟩
theorem OU{b:Op}{v:Value}{w':World}(he:∀a,Ok n a l->(execOp a.eval ⟨some d,b,ty,pos,aft,none⟩).run P w=.ok (.value v) w')(hd:Nat.blt d n=true)(f:ZE P n ops Q rest ((d,v)::l) w'):ZE P n ops Q (⟨some d,b,ty,pos,aft,none⟩::rest) l w :=
  λa c=>wpList_plain rfl λK e=>by
    unfold Oper.wp;rw[he a c];exact e _ _ (f _ (c.put hd v))
theorem My{t:TypeId}{x:Operand}{v:Value}(b:opv l x=some v)(hd:Nat.blt d n=true)(e:ZE P n ops Q rest ((d,.pointer (some ⟨w.heap.size,0,none⟩))::l) (w.alloc (.cells v.cells t))):ZE P n ops Q (⟨some d,.box t x,ty,pos,aft,none⟩::rest) l w :=
  OU (λa c=>by simp[execOp,Instr.box,c.eval b,newVar,Gj]) hd e
theorem Oc{t e:TypeId}[hs:TSlice P t e]{z:Value}{size bytes b:Nat}[TInfo P e z size bytes]{ps:List (Nat×Operand)}{vs:List Value}(hk:Aac 0 ps=true)(o:X5 l (ps.map (·.2))=some vs)(f:vs.length=b)(q:∀v∈vs,v.cells.toList.length=size)  (hd:Nat.blt d n=true)
    (u:ZE P n ops Q rest ((d,.slice (some ⟨w.heap.size,0,none⟩) b b)::l) (w.alloc (.cells (vs.flatMap λv=>v.cells.toList).toArray e))) (hz:b*size<=16777216:=by decide):ZE P n ops Q (⟨some d,.buildSlice t b ps.toArray,ty,pos,aft,none⟩::rest) l w :=
  OU (λa r=>by
    have g:(ps.map λp=>(p.1,a.eval p.2))=Zw 0 vs:=by
      rw[Nc ps 0 hk,Nd,r.evals o]
    have j:∀v∈vs,v.cells.size=size:=λv hm=>(by simpa using q v hm);have k:¬16777216<b*size:=(by omega);have hf:∀c:Array Value,c.size=b*size->Instr.fill (λi=>some (i*size,size)) c (Zw 0 vs)=some (vs.flatMap λv=>v.cells.toList).toArray:=λc h=>by
      obtain⟨s,ho1,ho2⟩:=Nf (size:=size) vs 0 c [] c.toList (by simp) (by simp) (by simp[h,f]) j;rw[ho1];congr 1;apply N0.1;rw[ho2];simp
    simp only[execOp,Instr.buildSlice];by_cases m:b*size=0
    . simp[run_underlying hs.eq,DZ (P:=P) (t:=e),m];rw[g,hf _ (by simp[m])];simp[Gj]
    . simp[run_underlying hs.eq,DZ (P:=P) (t:=e),HH (P:=P) (t:=e),m,k];rw[g,hf _ (by simp)];simp[Gj]) hd u
def Aa5(P:Program)(n:Nat)(ops:Array Oper)(Q:X0)(S:World->Prop)(b:List (Nat×Bool))(l:Env)(w:World):Prop:=∀a,Ok n a l->Z8 P ops (Aad n Q) S b a w
theorem Sj(b:Q .normal l w):Aa5 P n ops Q S [] l w:=λ_ a=>⟨trivial,l,a,b⟩
theorem Gc{i:Nat}{b:Op}{r:List (Nat×Bool)}{v:Value}(hi:ops[i]?=some ⟨some d,b,ty,pos,aft,none⟩)(he:∀w',S w'->Ev P ⟨some d,b,ty,pos,aft,none⟩ l w' v)  (f:Aa5 P n ops Q S r ((d,v)::l) w) (hn:Nat.blt d n=true:=by exact rfl):Aa5 P n ops Q S ((i,true)::r) l w:=λa c =>
  ⟨_,v,hi,.inl ⟨by simp[Region.wanted],λw' e=>by have:=he w' e n a w'.drawn c;rwa[Ik]at this⟩,f _ (c.put hn v)⟩
def Abx(P:Program)(n:Nat)(ops:Array Oper)(Q:X0)(S:World->Prop)(r:List (Nat×Bool)):X0
  |.normal,l,w=>(r≠[]->S w)/\Aa5 P n ops Q S r l w
  |_,_,_=>False
theorem Hc{i:Nat}{o:Oper}{r:List (Nat×Bool)}(hi:ops[i]?=some o)(s:ZE P n ops (Abx P n ops Q S r) [o] l w):Aa5 P n ops Q S ((i,false)::r) l w:=λa j=>by
  have b:=s a j;show wpOp P ops (Aad n Q) i _ a w;unfold wpList at b;unfold wpOp;simp only[hi];have conv:∀a' w',Aad n (Abx P n ops Q S r) .normal a' w'->(r≠[]->S w')/\Z8 P ops (Aad n Q) S r a' w':=by
    rintro a' w' ⟨_,l',ho,hS,g⟩;exact⟨hS,g a' ho⟩
  have d:∀e a' w',Aad n (Abx P n ops Q S r) e a' w'->e=.normal:=by
    rintro e a' w' ⟨hn,l',ho,g⟩;cases e<;>first|rfl|exact g.elim
  by_cases f:Region.wanted o (yielded ops a.tmps)=true
  . rw[if_pos f]at b;rw[if_pos f];rcases b with b|⟨b,k,w0,h2⟩
    . refine .inl ?_;unfold Oper.wp at *
      generalize (execOp a.eval o).run P w=h at *
      cases h with
      |ok m w'  =>
        cases m<;>simp only[Oper.upon]at b ⊢ <;>
          first
            |exact conv _ _ b
            |exact V9 b (λp q he=>by
                cases p with
                |returned v=>exact conv _ _ he
                |panicked c=>exact absurd (d _ _ _ he) (by simp)
                |outgrown=>obtain⟨k,w0,hq⟩:=he;exact absurd (d _ _ _ hq) (by simp))
            |exact Rows.mono b (λ_ _ he=>conv _ _ he)
            |exact b.elim
      |halt x w'=>cases x<;>simp only[Oper.upon]at b ⊢<;>first|exact b.elim|exact absurd (d _ _ _ b) (by simp)
    . exact absurd (d _ _ _ h2) (by simp)
  . rw[if_neg f]at b;rw[if_neg f];exact conv _ _ b
theorem QA[hm:Mixed P]{id:Nat}{L:List Oper}(S:World->Prop)(b:List (Nat×Bool))  (hl:b.length=L.toArray.size)  (d:S (dr w (w.drawn+1)))
    (h:Aa5 P n L.toArray Q S b l (dr w (w.drawn+1))) (hs:Region.noSelect L.toArray=true:=by kernel_rfl) (hc:ordOk L.toArray (Array.replicate L.toArray.size false) b=true:=by kernel_rfl):ZN P n (.region id L.toArray true) Q l w:=λa e =>
  wp_region_any hm.eq (by
    have:=GV (P:=P) hs (Q:=Aad n Q) (S:=S) (λc a w f=>f.1) b (Array.replicate L.toArray.size false) a (dr w (w.drawn+1)) (λm g hm=>by
      simp only[B7,D7]at hm;split at hm<;>simp at hm) hc (λ_=>d) (h a e)
    rw[hl]at this;exact Je _ _ _ _ this)
end
theorem Jj{P:Program}{f:FuncId}{b:Func}{c:Code}{vs:List Value}{w:World}{R:Value->World->Prop}{n:Nat}(hf:P.funcs[f]?=some b)(hb:b.body=some c)(hn:b.ntmps=n)(hl:Nat.ble vs.length n=true)
    (m:ZN P n c (W6 P b R) (ent 0 vs) w):Calls P f vs.toArray w λe w'=>∃v,e=.returned v/\R v w':=by
  have j:vs.length<=n:=(by simpa using hl);refine calls_of_wp hf hb (T7 (λe a w' k=>?_) (m _ (?_:Ok n { tmps:=vs.toArray++Array.replicate (b.ntmps-vs.toArray.size) undef,defers:=[] } (ent 0 vs))))
  . obtain⟨h,l,ho,q⟩:=k;cases e with
    |normal=>obtain⟨d,hr,g⟩:=q;have:=hr n a w'.drawn ho;rw[Ik]at this;exact⟨ho.defers,d,this,d,rfl,g⟩
    |ret=>obtain⟨d,hr,g⟩:=q;have:=hr n a w'.drawn ho;rw[Ik]at this;exact⟨ho.defers,d,this,d,rfl,g⟩
    |panic c=>exact h.elim
    |outgrown=>exact h.elim
    |exit i=>exact q.elim
    |goto i=>exact q.elim
  . refine⟨by simp[hn];omega,rfl,λi v g=>?_⟩;obtain⟨_,h2⟩:=NN vs 0 i v g;simp only[U7]at h2;have hi:i<vs.length:=(C3.1 h2).1;simp only[B7];rw[B8 (by simpa using hi)];simp[h2]
end
section
open Go.Shelf
def OV:Go.Shelf.Ren:=⟨fun|6=>154|15=>90|14=>173|28=>126|29=>127|20=>182|21=>183|22=>184|23=>185|24=>186|25=>187|26=>188|27=>189|46=>192|47=>142|48=>143|49=>193|50=>194|57=>196|n=>n,fun|22=>23|24=>61|25=>191|3=>3|39=>187|0=>0|53=>230|55=>203|4=>4|46=>224|45=>223|50=>40|5=>5|9=>9|66=>251|70=>254|76=>264|77=>265|n=>n,fun|n=>n⟩
theorem Od:Go.Proofs.SlLaysF0.n6 prog OV:={
  mixed:=by kernel_rfl
  f6:=⟨f154.name,by decide,func154.trans (congrArg some (by kernel_rfl))⟩
  f14:=⟨f173.name,by decide,func173.trans (congrArg some (by kernel_rfl))⟩
  f15:=func90.trans (congrArg some (by kernel_rfl))
  f20:=⟨f182.name,by decide,func182.trans (congrArg some (by kernel_rfl))⟩
  f21:=⟨f183.name,by decide,func183.trans (congrArg some (by kernel_rfl))⟩
  f22:=⟨f184.name,by decide,func184.trans (congrArg some (by kernel_rfl))⟩
  f23:=⟨f185.name,by decide,func185.trans (congrArg some (by kernel_rfl))⟩
  f24:=⟨f186.name,by decide,func186.trans (congrArg some (by kernel_rfl))⟩
  f25:=⟨f187.name,by decide,func187.trans (congrArg some (by kernel_rfl))⟩
  f26:=⟨f188.name,by decide,func188.trans (congrArg some (by kernel_rfl))⟩
  f27:=⟨f189.name,by decide,func189.trans (congrArg some (by kernel_rfl))⟩
  f28:=func126.trans (congrArg some (by kernel_rfl))
  f29:=func127.trans (congrArg some (by kernel_rfl))
  f46:=⟨f192.name,by decide,func192.trans (congrArg some (by kernel_rfl))⟩
  f47:=func142.trans (congrArg some (by kernel_rfl))
  f48:=func143.trans (congrArg some (by kernel_rfl))
  f49:=⟨f193.name,by decide,func193.trans (congrArg some (by kernel_rfl))⟩
  f50:=⟨f194.name,by decide,func194.trans (congrArg some (by kernel_rfl))⟩
  f57:=⟨f196.name,by decide,func196.trans (congrArg some (by kernel_rfl))⟩
  t0:=underlying0
  a0:=isAgg0
  z0:=sizeOf0
  v0:=zeroValue0
  t3:=underlying3
  a3:=isAgg3
  z3:=sizeOf3
  v3:=zeroValue3
  t4:=underlying4
  a4:=isAgg4
  z4:=sizeOf4
  v4:=zeroValue4
  t5:=underlying5
  a5:=isAgg5
  z5:=sizeOf5
  v5:=zeroValue5
  t9:=underlying9
  a9:=isAgg9
  z9:=sizeOf9
  v9:=zeroValue9
  t22:=underlying23
  a22:=isAgg23
  z22:=sizeOf23
  v22:=zeroValue23
  t25:=underlying191
  a25:=isAgg191
  z25:=sizeOf191
  v25:=zeroValue191
  t39:=underlying187
  a39:=isAgg187
  z39:=sizeOf187
  v39:=zeroValue187
  t45:=underlying223
  a45:=isAgg223
  z45:=sizeOf223
  v45:=zeroValue223
  t46:=underlying224
  a46:=isAgg224
  z46:=sizeOf224
  v46:=zeroValue224
  t50:=underlying40
  a50:=isAgg40
  z50:=sizeOf40
  v50:=zeroValue40
  t53:=underlying230
  a53:=isAgg230
  z53:=sizeOf230
  v53:=zeroValue230
  t55:=underlying203
  a55:=isAgg203
  z55:=sizeOf203
  v55:=zeroValue203
  t66:=underlying251
  a66:=isAgg251
  z66:=sizeOf251
  v66:=zeroValue251
  t70:=underlying254
  a70:=isAgg254
  z70:=sizeOf254
  v70:=zeroValue254
  t76:=underlying264
  a76:=isAgg264
  z76:=sizeOf264
  v76:=zeroValue264
  t77:=underlying265
  a77:=isAgg265
  z77:=sizeOf265
  v77:=zeroValue265 }
open Go.RowKit Go.Lib Go.Sort in
theorem UW{α:Type}[Inhabited α](k:Nat)(j:∀w,(isAgg 61).run prog w=.ok true w)(l:∀w,(Go.sizeOf 61).run prog w=.ok k w)(enc:α->List Value)(hk:∀x,(enc x).length=k)(m:∀x,∀v∈enc x,v.oneCell'=true)(f:α->α->Int)(o:SWO (ltOf f))(g:Nat)(h:Array Value)(a off cap:Nat)(r:Array α)(w:World)(p:∀b w,(callFunc g b).run prog w=.ok (.enter g b) w)(c:CmpLays prog g h enc k f a off r.size w)(q:HoldsK enc k w a off r)(d:a<w.heap.size)(i:r.size<4611686018427387904) :
    Calls prog 154 #[.slice (some ⟨a,off,none⟩) r.size cap,.func (.func g) #[] h] w λe w' =>
      e=.returned (.tuple #[])/\∃n os,w'=sortWorldK enc k w a off n (pdq (ltOf f) r 0 r.size (Lib.bitLen r.size) true true) os:=AnyQ.slices_SortFunc_eq Od k j l enc hk m f o g h a off cap r w p c q d i
open Go.RowKit Go.Lib Go.Sort in
theorem Tc{α:Type}[Inhabited α](p:Option Addr)(cap:Nat)(a:Value)(w:World) :
    Calls prog 154 #[.slice p 0 cap,a] w λe w'=>e=.returned (.tuple #[])/\w'=w:=AnyF.slices_SortFunc_none Od p cap a w
end
section
open Go Go.RowKit Go.Lib Go.Sort
instance:Inhabited Fct:=⟨⟨0,0⟩⟩
theorem Aat(a b:Int)(h:World):Calls prog 94 #[.int .i64 a,.int .i64 b] h λe w'=>e=.returned (.int .i64 (Lib.compareInt a b))/\w'=h:=by
  go_enter func94,ntmps94
  go_wp2
  . go_ret
    have i:a<b:=(by assumption);exact⟨by simp[Lib.compareInt,i],rfl⟩
  . go_ret
    have i:b<a:=(by assumption);have c:¬a<b:=(by omega);exact⟨by simp[Lib.compareInt,i,c],rfl⟩
  . go_ret
    have g:b<=a:=(by assumption);have c:a<=b:=(by assumption);have d:¬a<b:=(by omega);have f:¬b<a:=(by omega);exact⟨by simp[Lib.compareInt,d,f],rfl⟩
def orL:List Int->Int
  |[]=>0
  |x::xs=>if x≠0 then x else orL xs
theorem UX{xs:List Int}{k:Nat}{x:Int}(a:xs[k]?=some x):orL (xs.drop k)=if x≠0 then x else orL (xs.drop (k+1)):=by
  have:xs.drop k=x::xs.drop (k+1):=by
    rw[C5 (AF a)];rw[D1 (AF a)]at a;rw[Q1 a]
  rw[this];rfl
theorem QB{i:World}{F:Nat->Prop}{v:Value}{xs:List Int}(b:Vb i F v xs):Calls prog 93 [v].toArray i λe w'=>e=.returned (.int .i64 (orL xs))/\w'=i:=by
  obtain⟨d,c1,rfl⟩:=b.form;have f:xs.length<=9223372036854775807:=U8 b.len.2.1 b.len.2.2;refine TP func93 rfl ntmps93 rfl ?_;refine BX (BI (Bu (Dj rfl) (Eb ?_)));refine BX (BI (Bu (Dj rfl) (Eb ?_)));refine BX (BX (BI (Bu (Di rfl) (Bu (IM rfl) (Bu (Di rfl) (Eb ?_))))));refine Kj (UV (λk=>[(3,.int .i64 0),(6,.slice d xs.length c1),(7,.int .i64 (xs.length:Int)),(8,.int .i64 (k:Int))]) (λk=>k<=xs.length/\orL xs=orL (xs.drop k)) xs.length 0 A1 ⟨V5 _,rfl⟩ λk hk=>⟨hk.1,?_⟩);obtain⟨g,k3⟩:=hk;refine BX (BI (Bu (Do rfl rfl) (Eb ?_)));refine BX ?_;by_cases hlt:(k:Int)<(xs.length:Int)
  . rw[decide_eq_true hlt];refine It rfl (Is ?_);obtain⟨x,hx⟩:∃x,xs[k]?=some x:=⟨xs[k],D1 (by omega)⟩;obtain⟨h,o1,ce1,hA1,hl1,hd1,rfl,r1⟩:=b.elem' hx;have a:=UX hx;refine BX (Kj ?_);refine BX (BI (Bu (Hx rfl rfl hA1 rfl hl1) (Bu (CJ rfl (cat0 hd1)) (Bu (Dj rfl) (Eb ?_)))));refine BX (BI (Bu (Di rfl) (Bu (Di rfl) (Bu (Gb rfl rfl) (Eb ?_)))));by_cases hc:x≠0
    . rw[decide_eq_true hc];rw[if_pos hc]at a;refine It rfl (BX (BI (Bu (Di rfl) (Bu (Dj rfl) (Eb ?_)))));refine Hj ?_;exact⟨_,Z5 rfl (AC rfl),by rw[k3,a],rfl⟩
    . rw[decide_eq_false hc];rw[if_neg hc]at a;refine HP rfl (Is ?_);refine BI (Bu (JA rfl rfl (by omega)) (Bu (Di rfl) (Eb ?_)));exact⟨rfl,A1,by omega,by rw[k3,a]⟩
  . rw[decide_eq_false hlt];refine HP rfl (Qz ?_);refine BX (BI (Bu (Di rfl) (Bu (Dj rfl) (Eb ?_))));have c:k=xs.length:=(by omega);refine Hj ?_;exact⟨_,Z5 rfl (AC rfl),by rw[k3,c,N9];rfl,rfl⟩
def encM(x:Fct):List Value:=[.int .i64 x.var,.int .i64 x.val]
def cfM(x y:Fct):Int:=orL [Lib.compareInt x.var y.var,Lib.compareInt x.val y.val]
theorem Mz(a b:Int):W1 (Lib.compareInt a b):=by unfold Lib.compareInt W1;split<;>(try split)<;>omega
theorem AbO(x y:Fct)(t:World):Calls prog 155 #[.agg #[.int .i64 x.var,.int .i64 x.val],.agg #[.int .i64 y.var,.int .i64 y.val]] t λe w'=>e=.returned (.int .i64 (cfM x y))/\∃q c,w'=grow (t.drewN q) c:=by
  have g:=Jj (P:=prog) (f:=155) (vs:=[.agg #[.int .i64 x.var,.int .i64 x.val],.agg #[.int .i64 y.var,.int .i64 y.val]]) (w:=t) (R:=λv w'=>v=.int .i64 (cfM x y)/\∃q c,w'=grow (t.drewN q) c) func155 rfl ntmps155 rfl ?_
  . exact g.mono λe w' ⟨v,he,l,hg⟩=>⟨by rw[he,l],hg⟩
  refine BX (BI (My rfl rfl (My rfl rfl (Bu (Dj rfl) (Eb ?_)))));have a:Blk ((t.alloc (.cells (encM x).toArray 61)).alloc (.cells (encM y).toArray 61)) t.heap.size 61 (encM x) :=
    (New.mk' t _ (encM x)).blk.keep ((New.mk' _ _ (encM y)).ext.block _ (New.mk' t _ (encM x)).blk.lt)
  have b:Blk ((t.alloc (.cells (encM x).toArray 61)).alloc (.cells (encM y).toArray 61)) (t.alloc (.cells (encM x).toArray 61)).heap.size 61 (encM y):=(New.mk' _ _ (encM y)).blk;generalize p:(t.alloc (.cells (encM x).toArray 61)).alloc (.cells (encM y).toArray 61)=W2 at a b;have m:(t.alloc (.cells (Value.agg #[.int .i64 x.var,.int .i64 x.val]).cells 61)).alloc (.cells (Value.agg #[.int .i64 y.var,.int .i64 y.val]).cells 61)=W2:=p;rw[m];generalize r:t.heap.size=b1 at a;generalize n:(t.alloc (.cells (encM x).toArray 61)).heap.size=b2 at b;have h:(t.alloc (.cells (Value.agg #[.int .i64 x.var,.int .i64 x.val]).cells 61)).heap.size=b2:=n;rw[h];refine BX (QA (λw'=>Blk w' b1 61 (encM x)/\Blk w' b2 61 (encM y)) [(0,true),(1,true),(2,true),(3,true),(5,true),(6,true),(7,true),(8,true),(4,false),(9,false),(10,false),(11,false),(12,true)] rfl ⟨a,b⟩ ?_);refine Gc rfl (λ_ _=>Dd rfl) ?_;refine Gc rfl (λ_ d=>CJ rfl (d.1.cell (i:=0) rfl)) ?_;refine Gc rfl (λ_ _=>Dd rfl) ?_;refine Gc rfl (λ_ d=>CJ rfl (d.2.cell (i:=0) rfl)) ?_;refine Gc rfl (λ_ _=>Dd rfl) ?_;refine Gc rfl (λ_ d=>CJ rfl (d.1.cell (i:=1) rfl)) ?_;refine Gc rfl (λ_ _=>Dd rfl) ?_;refine Gc rfl (λ_ d=>CJ rfl (d.2.cell (i:=1) rfl)) ?_;refine Hc rfl (Iu rfl rfl (Aat x.var y.var _) (HQ ⟨λ_=>⟨a,b⟩,?_⟩));refine Hc rfl (Iu rfl rfl (Aat x.val y.val _) (HQ ⟨λ_=>⟨a,b⟩,?_⟩));have o:=New.mk' (dr W2 (W2.drawn+1)) 3 [.int .i64 (Lib.compareInt x.var y.var),.int .i64 (Lib.compareInt x.val y.val)];have j:=a.keep (o.ext.block b1 a.lt);have k:=b.keep (o.ext.block b2 b.lt);have s:Vb ((dr W2 (W2.drawn+1)).alloc (.cells [.int .i64 (Lib.compareInt x.var y.var),.int .i64 (Lib.compareInt x.val y.val)].toArray 3)) (λ_=>True) (.slice (some ⟨(dr W2 (W2.drawn+1)).heap.size,0,none⟩) 2 2) [Lib.compareInt x.var y.var,Lib.compareInt x.val y.val] :=
    Vb.made o ⟨[_],_,rfl,⟨rfl,Mz _ _⟩,[_],_,rfl,⟨rfl,Mz _ _⟩,rfl⟩ rfl trivial (by decide)
  refine Hc rfl (Oc rfl rfl rfl (λv l=>by simp at l;rcases l with rfl|rfl<;>rfl) rfl (HQ ⟨λ_=>⟨j,k⟩,?_⟩));refine Hc rfl (Iu rfl rfl (QB s) (HQ ⟨λ_=>⟨j,k⟩,?_⟩));refine Gc rfl (λ_ _=>Dj rfl) ?_;refine Sj ?_;refine Hj ?_;refine⟨_,Z5 rfl (AC rfl),rfl,1,#[.cells (encM x).toArray 61,.cells (encM y).toArray 61,.cells [.int .i64 (Lib.compareInt x.var y.var),.int .i64 (Lib.compareInt x.val y.val)].toArray 3],?_⟩;subst p;have hd:∀os u,dr (grow t os) u=grow (dr t u) os:=λ_ _=>rfl;rw[alloc_eq_grow,alloc_eq_grow,alloc_eq_grow,grow_grow,hd,grow_grow];rfl
end
section
open Go Go.RowKit Go.Lib Go.Sort
def ZW(x y:Fct):Prop:=x.var<y.var\/(x.var=y.var/\x.val<y.val)
instance(x y:Fct):Decidable (ZW x y):=by unfold ZW;infer_instance
theorem cmp3(a b:Int):(a<b/\Lib.compareInt a b=-1)\/(a=b/\Lib.compareInt a b=0)\/(b<a/\Lib.compareInt a b=1):=by
  unfold Lib.compareInt;by_cases d:a<b
  . simp[d]
  . by_cases c:b<a
    . simp[d,c]
    . right;left;simp[d,c];omega
theorem XN(a b:Int):orL [a,b]<0↔a<0\/(a=0/\b<0):=by
  simp only[orL];by_cases c:a=0
  . rw[if_neg (by simp[c])];by_cases d:b=0
    . rw[if_neg (by simp[d])];omega
    . rw[if_pos d];omega
  . rw[if_pos c];omega
theorem ltM(x y:Fct):ltOf cfM x y=decide (ZW x y):=by
  unfold ltOf cfM;rw[Bool.eq_iff_iff];simp only[decide_eq_true_eq];rw[XN];unfold ZW;have a:=cmp3 x.var y.var;have b:=cmp3 x.val y.val;omega
theorem Acy:SWO (ltOf cfM) where
  irrefl x:=by rw[ltM];simp[ZW]
  trans x y z h1 h2:=by rw[ltM]at *;simp only[decide_eq_true_eq]at *;unfold ZW at *;omega
  ntrans x y z h1 h2:=by rw[ltM]at *;simp only[decide_eq_false_iff_not]at *;unfold ZW at *;omega
theorem AbS(a off size:Nat)(w:World):CmpLays prog 155 #[] encM 2 cfM a off size w:=λ_ _ _ _ x y=>AbO x y _
def Bf(xs:List Fct):List Fct:=(pdq (ltOf cfM) xs.toArray 0 xs.length (Lib.bitLen xs.length) true true).toList
theorem Wt(xs:List Fct):PermIn 0 xs.toArray.size xs.toArray (Bf xs).toArray/\SortedIn (ltOf cfM) 0 xs.toArray.size (Bf xs).toArray:=by
  have:=pdq_sorts (ltOf cfM) Acy xs.toArray 0 xs.toArray.size (Lib.bitLen xs.length) true true (V5 _) (V2 _) (Or.inl rfl);simpa[Bf]using this
theorem LQ(xs:List Fct):(Bf xs).Perm xs:=by
  obtain⟨⟨a,_,hperm⟩,_⟩:=Wt xs;have b:(Bf xs).toArray.extract 0 xs.toArray.size=(Bf xs).toArray:=(by rw[<- a];exact K7);rw[b,K7]at hperm;simpa using hperm
theorem EZ(xs:List Fct):(Bf xs).length=xs.length:=(LQ xs).length_eq
theorem Aby:∀(xs:List Fct),(flatK encM 2 xs.toArray).toList=xs.flatMap encM:=λxs=>by
  apply M0;intro t;have d:∀(l:List Fct)(t:Nat),(l.flatMap encM)[t]?=(l[t/2]?).bind λx=>(encM x)[t%2]?:=by
    intro l
    induction l with
    |nil=>intro t;simp
    |cons x l f =>
      intro t;rw[M1]
      match t with
      |0=>rfl
      |1=>rfl
      |t+2 =>
        rw[C0 (by simp[encM]),show t+2-(encM x).length=t from by simp[encM],f];rw[show(t+2)/2=t/2+1 from by omega,show(t+2)%2=t%2 from by omega];simp
  rw[d];by_cases e:t<xs.length*2
  . have b:t/2<xs.length:=(by omega);have a:t<(flatK encM 2 xs.toArray).size:=(by simpa using e);rw[F8,C7 a,D1 b,Option.bind_some];have:=get_flatK encM 2 xs.toArray t (by simpa using e);rw[getElem!_pos (flatK encM 2 xs.toArray) t a,getElem!_pos xs.toArray (t/2) (by simpa using b)]at this;rw[this];have c:t%2<(encM xs[t/2]).length:=(by simp[encM];omega);rw[D1 c,H2,getElem!_pos (encM xs[t/2]) (t%2) c]
  . have b:(flatK encM 2 xs.toArray).size<=t:=(by rw[size_flatK];simpa using(by omega:xs.length*2<=t));have c:xs[t/2]?=none:=F2 (by omega);rw[F8,E6 b,c];rfl
theorem Lf{w:World}{F:Nat->Prop}:∀{xs:List Fct}{cells:List Value},Chunks w F cells xs->cells=xs.flatMap encM/\∀x∈xs,W1 x.var/\W1 x.val
  |[],_,h=>⟨h,λ_ a=>by simp at a⟩
  |x::xs,cells,⟨cs,rest,he,hr,hc⟩=>by
    obtain⟨b,h2⟩:=Lf hc;obtain⟨c,h4⟩:=hr;refine⟨by rw[he,c,b];rfl,λy hy=>?_⟩;rcases S0.1 hy with rfl|hy
    . exact h4
    . exact h2 y hy
theorem Lg{w:World}{F:Nat->Prop}:∀{xs:List Fct},(∀x∈xs,W1 x.var/\W1 x.val)->Chunks w F (xs.flatMap encM) xs
  |[],_=>rfl
  |x::xs,h=>⟨encM x,xs.flatMap encM,rfl,⟨rfl,h x (by simp)⟩,Lg λy a=>h y (by simp[a])⟩
theorem DS(xs:List Fct):(xs.flatMap encM).length=xs.length*2:=by rw[<- Aby,I2,size_flatK];simp
theorem MI{i:Nat}{w:World}{O:Lab}{v:Value}{xs:List Fct}(f:Rw i w O 61 v xs)(hl:xs.length<4611686018427387904) :
    Fn prog 154 [v,.func (.func 155) #[] #[]] w λ_ w'=>∃A,St (eT i) w O w' A/\Rw i w' A 61 v (Bf xs):=by
  intro M;rcases K4 xs.length with h0|h0
  . have m:xs=[]:=B2 h0;subst m;obtain⟨p,c,rfl⟩:=f.form;have hs:Bf []=[]:=B2 (EZ []);exact(Tc (α:=Fct) p c _ (dr w M)).mono λe w' ⟨he,hw⟩=>⟨_,w,M,he,hw,O,St.refl _ _ _,by rw[hs];exact f⟩
  . obtain⟨g,cap,cells,sp,rfl,hg,hFg,hb,hc,hlen,hnc,hcm,htot⟩:=f.1.open h0;obtain⟨rfl,hin⟩:=Lf hc;have o:=Aby xs;have C:HoldsK encM 2 (dr w M) g 0 xs.toArray:=λj hj=>by
      have q:j<xs.length*2:=(by simpa using hj);refine⟨?_,by rw[U4];exact hb.frozen j⟩;rw[U4];refine hb.cell ?_;rw[C4 (by rw[DS];exact q),<- o,F8,C7 hj,getElem!_pos _ j hj];rfl
    have D:∀w,(isAgg 61).run prog w=.ok true w:=λw=>IS w;have E:∀w,(Go.sizeOf 61).run prog w=.ok 2 w:=λw=>DZ w;have G:∀d w,(callFunc 155 d).run prog w=.ok (.enter 155 d) w:=enters_of func155 (by kernel_rfl) rfl;have b:=UW 2 D E encM (λ_=>rfl) (λx v B=>by simp[encM]at B;rcases B with rfl|rfl<;>rfl) cfM Acy 155 #[] g 0 cap xs.toArray (dr w M) G (AbS g 0 _ _) C hb.lt (by simpa using hl);have H:xs.toArray.size=xs.length:=(by simp);rw[H]at b;refine b.mono λe w' ⟨he,n,os,hw⟩=>⟨_,w',w'.drawn,he,rfl,upO O w.heap.size (λ_=>0),?_,?_⟩
    . subst hw;refine⟨rfl,rfl,rfl,?_,λk hk r=>⟨?_,Ex hk⟩⟩
      . show w.heap.size<=((w.heap.modify g _)++os).size;simp
      . have s:g≠k:=λe=>r (by rw[<- e];exact f.2.1 g rfl);show((w.heap.modify g _)++os)[k]?=_;rw[B8 (by simpa using hk),F3,if_neg s]
    . have t:pdq (ltOf cfM) xs.toArray 0 xs.length (Lib.bitLen xs.length) true true=(Bf xs).toArray:=(by simp[Bf]);rw[t]at hw;have a:=EZ xs;have u:=Aby (Bf xs);have h:Blk w' g 61 ((Bf xs).flatMap encM++sp):=by
        subst hw;unfold Blk at hb ⊢;have y:g<w.heap.size:=Blk.lt hb;show((w.heap.modify g _)++os)[g]?=_;rw[B8 (by simpa using y),F3,if_pos rfl,hb];simp only[R0,Go.Sort.onCells];congr 2;apply Array.ext
        . simp only[Go.Sort.putCells,Array.size_mapIdx,List.size_toArray,K0,DS,a]
        . intro i K L;simp only[Go.Sort.putCells,H3,U4,U7,V5,true_and];have l:(flatK encM 2 (Bf xs).toArray).size=xs.length*2:=(by rw[size_flatK];simp[a]);by_cases hi:i<xs.length*2
          . rw[if_pos (by rw[l];exact hi)];simp only[H2];rw[D8 (by rw[DS,a];exact hi)];rw[getElem!_pos _ _ (by rw[l];exact hi)];have:=congrArg (·[i]?) u;simp only[F8]at this;rw[C7 (by rw[l];exact hi),D1 (by rw[DS,a];exact hi)]at this;exact Q1 this
          . rw[if_neg (by rw[l];exact hi)];simp only[H2];rw[C8 (by rw[DS];omega),C8 (by rw[DS,a];omega)];simp only[DS,a]
      have I:∀k,Fr 0 w O k->Fr 0 w' (upO O w.heap.size λ_=>0) k:=λk hk=>⟨by subst hw;show k<((w.heap.modify g _)++os).size;have:=hk.1;simp;omega,(Ex hk.1).trans hk.2⟩;have:=Own.close (w:=w') (base:=0) (F:=Fr 0 w O) (cap:=cap) (V5 _) hFg h (Lg (F:=Fr 0 w O) (w:=w') λx m=>hin x ((LQ xs).mem_iff.1 m)) (by rw[a];exact hnc) hcm (by rw[K0,DS]at htot ⊢;rw[a];exact htot);rw[a]at this;exact this.rw I (λJ z=>by
        have:g=J:=(by simpa[Value.ownBlock]using z);subst this;exact(Ex hb.lt).trans (f.2.1 g rfl)) f.2.2
theorem MS{α:Type}{R:α→α→Prop}:∀{a b:List α},a.Perm b→a.Pairwise R→b.Pairwise R→(∀x y,R x y→R y x→x=y)→a=b
  |[],b,h,_,_,_=>(List.nil_perm.1 h).symm
  |x::a,[],h,_,_,_=>by simp at h
  |x  :: a,y::b,h,ha,hb,hR=>by
    obtain⟨c,ha2⟩:=K8.1 ha;obtain⟨d,hb2⟩:=K8.1 hb;have hx:x∈y::b:=h.mem_iff.1 K6;have hy:y∈x::a:=h.mem_iff.2 K6;have e:x=y:=by
      rcases S0.1 hx with rfl|hx
      . rfl
      . rcases S0.1 hy with rfl|hy
        . rfl
        . exact hR x y (c y hy) (d x hx)
    subst e;rw[MS ((List.perm_cons x).1 h) ha2 hb2 hR]
end
section
open Go Go.RowKit
attribute [local irreducible] ewp owp hwp hwq hws Ev Evg Fn W6 X7 X4 X1
def hasB(s:List Int)(x:Fct):Bool:=decide (0<=x.var)&&decide (s[x.var.toNat]?=some x.val)
def holdsB(f:List Fct)(s:List Int):Bool:=f.all (hasB s)
theorem Kk{f:List Fct}{s:List Int}{k:Nat}{x:Fct}(a:f[k]?=some x)(b:hasB s x=false):holdsB f s=false:=by
  unfold holdsB;rw[List.all_eq_false];exact⟨x,H1 a,by simp[b]⟩
theorem MT{f:List Fct}{s:List Int}{k:Nat}{x:Fct}(a:f[k]?=some x)(c:hasB s x=true)(b:holdsB (f.take k) s=true):holdsB (f.take (k+1)) s=true:=by
  unfold holdsB at *
  rw[M2,a,List.all_append,b];simp[c]
theorem OW{s:List Int}{x:Fct}{j:Nat}{y:Int}(hj:x.var=(j:Int))(a:s[j]?=some y):hasB s x=decide (y=x.val):=by
  unfold hasB;rw[hj];simp[a]
theorem AK{α:Type}{l:List α}{k:Nat}(a:k<l.length):∃x,l[k]?=some x:=⟨l[k],D1 a⟩
theorem BT{α:Type}{l:List α}{k:Nat}{x:α}(a:l[k]?=some x):k<l.length:=(C3.1 a).1
structure Wr0(H:Prop):Prop where o:H
theorem ab{G H:Prop}(g:H)(h:Wr0 H->G:=by intro x;(repeat (first|refine Aw ?_|refine Am rfl ?_|refine Ah rfl ?_));exact x.o):G:=h ⟨g⟩
theorem aq{G H:Prop}(g:H)(h:Wr0 H->G:=by intro x;refine Au rfl ?_;refine o_z ?_;refine ab ?_;exact x.o):G:=h ⟨g⟩
theorem ad{G H:Prop}(g:H)(h:Wr0 H->G:=by intro x;refine ab ?_;refine aq ?_;exact x.o):G:=h ⟨g⟩
theorem ax{G H:Prop}(g:H)(h:Wr0 H->G:=by intro x;refine ad ?_;refine Ar rfl ?_;exact x.o):G:=h ⟨g⟩
theorem az{G H:Prop}(g:H)(h:Wr0 H->G:=by intro x;refine AO rfl ?_;refine Ar rfl ?_;refine o_z ?_;refine ab ?_;exact x.o):G:=h ⟨g⟩
theorem aY{G H:Prop}(g:H)(h:Wr0 H->G:=by intro x;refine ax ?_;refine az ?_;exact x.o):G:=h ⟨g⟩
theorem ao{G H:Prop}(g:H)(h:Wr0 H->G:=by intro x;refine ab ?_;(first|refine EX rfl rfl ?_|refine EY rfl rfl ?_);refine o_z ?_;exact x.o):G:=h ⟨g⟩
theorem ak{G H:Prop}(g:H)(h:Wr0 H->G:=by intro x;refine ab ?_;refine Eu rfl rfl ?_;refine BE rfl ?_;refine ab ?_;exact x.o):G:=h ⟨g⟩
theorem ay{G H:Prop}(g:H)(h:Wr0 H->G:=by intro x;refine Be rfl rfl ?_;refine Du rfl rfl ?_;exact x.o):G:=h ⟨g⟩
theorem aU{G H:Prop}(g:H)(h:Wr0 H->G:=by intro x;(refine AB rfl ?_;(first|(refine AA rfl rfl ?_;refine Cu rfl ?_)|refine AH rfl rfl ?_));(refine AB rfl ?_;(first|(refine AA rfl rfl ?_;refine BS rfl ?_)|refine AH rfl rfl ?_));exact x.o):G:=h ⟨g⟩
theorem ap{G H:Prop}(g:H)(h:Wr0 H->G:=by intro x;(refine AB rfl ?_;(first|(refine AA rfl rfl ?_;refine BK rfl ?_)|refine AH rfl rfl ?_));exact x.o):G:=h ⟨g⟩
theorem aR{G H:Prop}(g:H)(h:Wr0 H->G:=by intro x;refine AM rfl rfl ?_;refine aU ?_;refine ap ?_;(refine AB rfl ?_;(first|(refine AA rfl rfl ?_;refine La rfl ?_)|refine AH rfl rfl ?_));exact x.o):G:=h ⟨g⟩
theorem bq{G H:Prop}(g:H)(h:Wr0 H->G:=by intro x;(first|refine Dn rfl rfl rfl ?_|refine CG rfl rfl rfl ?_);exact x.o):G:=h ⟨g⟩
theorem bg{G H:Prop}(g:H)(h:Wr0 H->G:=by intro x;refine bq ?_;refine AM rfl rfl ?_;exact x.o):G:=h ⟨g⟩
theorem br{G H:Prop}(g:H)(h:Wr0 H->G:=by intro x;(refine AB rfl ?_;(first|(refine AA rfl rfl ?_;refine HY rfl rfl ?_)|refine AH rfl rfl ?_));(refine AB rfl ?_;(first|(refine AA rfl rfl ?_;refine BS rfl ?_)|refine AH rfl rfl ?_));exact x.o):G:=h ⟨g⟩
theorem be{G H:Prop}(g:H)(h:Wr0 H->G:=by intro x;refine ap ?_;refine aU ?_;refine br ?_;exact x.o):G:=h ⟨g⟩
theorem bk{G H:Prop}(g:H)(h:Wr0 H->G:=by intro x;refine bg ?_;refine be ?_;refine aU ?_;exact x.o):G:=h ⟨g⟩
theorem aZ{G H:Prop}(g:H)(h:Wr0 H->G:=by intro x;refine bq ?_;refine h_z ?_;exact x.o):G:=h ⟨g⟩
theorem aT{G H:Prop}(g:H)(h:Wr0 H->G:=by intro x;(first|refine GY rfl ?_|refine Hu rfl rfl ?_);refine Ar rfl ?_;refine o_z ?_;exact x.o):G:=h ⟨g⟩
theorem AbD{w:World}{e sv:Value}{f:List Fct}{s:List Int}(hf:V w e f)(hs:V w sv s) :
    Fn prog 21 [e,sv] w λv w'=>v=.bool (bof (holdsB f s=true))/\Ext w w':=by
  obtain⟨i,cf,rfl⟩:=hf.form;obtain⟨m,cs,rfl⟩:=hs.form;have n:=hf.len;refine AG func21 rfl ntmps21 ?_;refine aY ?_;refine FS (λk:Nat=>[(1,.slice m s.length cs),(7,.slice i f.length cf),(8,.int .i64 (f.length:Int)),(9,.int .i64 (k:Int))])
    (λk w'=>Ext w w'/\k<=f.length/\holdsB (f.take k) s=true) (λk=>f.length-k) 0 ⟨V8 _ _,V5 _,rfl⟩ A1 ?_
  rintro k t ⟨d,hk,hh⟩;by_cases hlt:k<f.length
  . obtain⟨x,hx⟩:=AK hlt;obtain⟨b,o,ce,rfl,hb,_,hd1,rfl,hr1,hr2⟩:=(hf.ext d).elem hx;refine ao ?_<;>refine ak ?_;refine Dk rfl rfl (by simp[Value.cells,Value.oneCell']) λg h=>?_;have p:=h.blk;have a:Ext w g:=d.trans' h.ext;refine o_z ?_;refine ab ?_;refine Ct (·=g) [(0,true),(1,true),(2,true),(3,true),(4,true),(5,true),(6,true),(7,true),(8,true),(9,true),(10,true),(11,true),(12,true),(13,true),(14,true),(15,true),(16,true),(17,true),(18,true),(19,true)] rfl rfl ?_;by_cases q:0<=x.var/\x.var<s.length
    . obtain⟨j,hj1⟩:=E3 q.1;obtain⟨y,hy⟩:=AK (l:=s) (k:=j) (by omega);obtain⟨u,o2,ce2,rfl,_,_,hd2,rfl,_⟩:=(hs.ext a).elem hy;have c:=OW (s:=s) hj1 hy
      (refine ay ?_<;>(first|refine IE rfl rfl rfl ?_|refine IF rfl rfl rfl ?_|refine GN rfl rfl rfl (λ_=>?_) λ_=>?_)<;>refine aR ?_<;>(refine AB rfl ?_;(first|(refine AA rfl rfl ?_;(first|refine CP (λ_ _=>Bi rfl rfl) (by omega) ?_|refine CR (λ_ _=>Bi rfl rfl) (by omega) ?_|refine AY (λ_ _=>Bi rfl rfl) (λ_=>?_) (λ_=>?_)))|refine AH rfl rfl ?_))<;>refine bk ?_<;>(refine AB rfl ?_;(first|(refine AA rfl rfl ?_;(first|refine CP (λ_ _=>Gb rfl rfl) (by omega) ?_|refine CR (λ_ _=>Gb rfl rfl) (by omega) ?_|refine AY (λ_ _=>Gb rfl rfl) (λ_=>?_) (λ_=>?_)))|refine AH rfl rfl ?_))<;>refine aZ ?_)<;>refine ab ?_
      . refine ad ?_;refine W8 rfl rfl ⟨?_,a⟩;rw[Kk hx (by rw[c];simpa using ‹_›),Jf]
      . refine aT ?_;exact⟨k+1,A1,⟨a,by omega,MT hx (by rw[c];simp;omega) hh⟩,by omega⟩
    . have c:hasB s x=false:=by
        unfold hasB;by_cases r:0<=x.var
        . have:s.length<=x.var.toNat:=(by omega);simp[F2 this]
        . simp[r]
      (refine ay ?_<;>(first|refine IE rfl rfl rfl ?_|refine IF rfl rfl rfl ?_|refine GN rfl rfl rfl (λ_=>?_) λ_=>?_)<;>refine aR ?_<;>(refine AB rfl ?_;(first|(refine AA rfl rfl ?_;(first|refine CP (λ_ _=>Bi rfl rfl) (by omega) ?_|refine CR (λ_ _=>Bi rfl rfl) (by omega) ?_|refine AY (λ_ _=>Bi rfl rfl) (λ_=>?_) (λ_=>?_)))|refine AH rfl rfl ?_))<;>refine bk ?_<;>(refine AB rfl ?_;(first|(refine AA rfl rfl ?_;(first|refine CP (λ_ _=>Gb rfl rfl) (by omega) ?_|refine CR (λ_ _=>Gb rfl rfl) (by omega) ?_|refine AY (λ_ _=>Gb rfl rfl) (λ_=>?_) (λ_=>?_)))|refine AH rfl rfl ?_))<;>refine aZ ?_)<;>refine ab ?_
      all_goals
        refine ad ?_;refine W8 rfl rfl ⟨?_,a⟩;rw[Kk hx c,Jf]
  . refine ao ?_<;>refine ad ?_;refine W8 rfl rfl ⟨?_,d⟩;rw[E5 (by omega)]at hh;rw[hh,Jf]
theorem AbI{w:World}{e sv:Value}{f:List Fct}{s:List Int}(hf:V w e f)(hs:V w sv s) :
    Fn prog 28 [e,sv] w λv w'=>v=.bool (bof (holdsB f s=true))/\Ext w w':=by
  obtain⟨i,cf,rfl⟩:=hf.form;obtain⟨m,cs,rfl⟩:=hs.form;have n:=hf.len;refine AG func28 rfl ntmps28 ?_;refine aY ?_;refine FS (λk:Nat=>[(1,.slice m s.length cs),(7,.slice i f.length cf),(8,.int .i64 (f.length:Int)),(9,.int .i64 (k:Int))])
    (λk w'=>Ext w w'/\k<=f.length/\holdsB (f.take k) s=true) (λk=>f.length-k) 0 ⟨V8 _ _,V5 _,rfl⟩ A1 ?_
  rintro k t ⟨d,hk,hh⟩;by_cases hlt:k<f.length
  . obtain⟨x,hx⟩:=AK hlt;obtain⟨b,o,ce,rfl,hb,_,hd1,rfl,hr1,hr2⟩:=(hf.ext d).elem hx;refine ao ?_<;>refine ak ?_;refine Dk rfl rfl (by simp[Value.cells,Value.oneCell']) λg h=>?_;have p:=h.blk;have a:Ext w g:=d.trans' h.ext;refine o_z ?_;refine ab ?_;refine Ct (·=g) [(0,true),(1,true),(2,true),(3,true),(4,true),(5,true),(6,true),(7,true),(8,true),(9,true),(10,true),(11,true),(12,true),(13,true),(14,true),(15,true),(16,true),(17,true),(18,true),(19,true)] rfl rfl ?_;by_cases q:0<=x.var/\x.var<s.length
    . obtain⟨j,hj1⟩:=E3 q.1;obtain⟨y,hy⟩:=AK (l:=s) (k:=j) (by omega);obtain⟨u,o2,ce2,rfl,_,_,hd2,rfl,_⟩:=(hs.ext a).elem hy;have c:=OW (s:=s) hj1 hy
      (refine ay ?_<;>(first|refine IE rfl rfl rfl ?_|refine IF rfl rfl rfl ?_|refine GN rfl rfl rfl (λ_=>?_) λ_=>?_)<;>refine aR ?_<;>(refine AB rfl ?_;(first|(refine AA rfl rfl ?_;(first|refine CP (λ_ _=>Bi rfl rfl) (by omega) ?_|refine CR (λ_ _=>Bi rfl rfl) (by omega) ?_|refine AY (λ_ _=>Bi rfl rfl) (λ_=>?_) (λ_=>?_)))|refine AH rfl rfl ?_))<;>refine bk ?_<;>(refine AB rfl ?_;(first|(refine AA rfl rfl ?_;(first|refine CP (λ_ _=>Gb rfl rfl) (by omega) ?_|refine CR (λ_ _=>Gb rfl rfl) (by omega) ?_|refine AY (λ_ _=>Gb rfl rfl) (λ_=>?_) (λ_=>?_)))|refine AH rfl rfl ?_))<;>refine aZ ?_)<;>refine ab ?_
      . refine ad ?_;refine W8 rfl rfl ⟨?_,a⟩;rw[Kk hx (by rw[c];simpa using ‹_›),Jf]
      . refine aT ?_;exact⟨k+1,A1,⟨a,by omega,MT hx (by rw[c];simp;omega) hh⟩,by omega⟩
    . have c:hasB s x=false:=by
        unfold hasB;by_cases r:0<=x.var
        . have:s.length<=x.var.toNat:=(by omega);simp[F2 this]
        . simp[r]
      (refine ay ?_<;>(first|refine IE rfl rfl rfl ?_|refine IF rfl rfl rfl ?_|refine GN rfl rfl rfl (λ_=>?_) λ_=>?_)<;>refine aR ?_<;>(refine AB rfl ?_;(first|(refine AA rfl rfl ?_;(first|refine CP (λ_ _=>Bi rfl rfl) (by omega) ?_|refine CR (λ_ _=>Bi rfl rfl) (by omega) ?_|refine AY (λ_ _=>Bi rfl rfl) (λ_=>?_) (λ_=>?_)))|refine AH rfl rfl ?_))<;>refine bk ?_<;>(refine AB rfl ?_;(first|(refine AA rfl rfl ?_;(first|refine CP (λ_ _=>Gb rfl rfl) (by omega) ?_|refine CR (λ_ _=>Gb rfl rfl) (by omega) ?_|refine AY (λ_ _=>Gb rfl rfl) (λ_=>?_) (λ_=>?_)))|refine AH rfl rfl ?_))<;>refine aZ ?_)<;>refine ab ?_
      all_goals
        refine ad ?_;refine W8 rfl rfl ⟨?_,a⟩;rw[Kk hx c,Jf]
  . refine ao ?_<;>refine ad ?_;refine W8 rfl rfl ⟨?_,d⟩;rw[E5 (by omega)]at hh;rw[hh,Jf]
def StateOk(vars s:List Int):Prop:=s.length=vars.length/\∀(i:Nat) x y,s[i]?=some x->vars[i]?=some y->0<=x/\x<y
theorem bl{G H:Prop}(g:H)(h:Wr0 H->G:=by intro x;refine ax ?_;refine AO rfl ?_;refine Ar rfl ?_;refine AO rfl ?_;(first|refine Qd rfl rfl rfl ?_|refine Qe rfl rfl rfl ?_);refine o_z ?_;exact x.o):G:=h ⟨g⟩
theorem ah{G H:Prop}(g:H)(h:Wr0 H->G:=by intro x;refine ab ?_;refine Ar rfl ?_;exact x.o):G:=h ⟨g⟩
theorem al{G H:Prop}(g:H)(h:Wr0 H->G:=by intro x;refine ah ?_;refine aq ?_;exact x.o):G:=h ⟨g⟩
theorem aj{G H:Prop}(g:H)(h:Wr0 H->G:=by intro x;refine AM rfl rfl ?_;exact x.o):G:=h ⟨g⟩
theorem AbG{w:World}{c sv:Value}{vars s:List Int}(d:V w c vars)(hb:V w sv s) :
    Fn prog 74 [c,sv] w λv w'=>v=.bool (bof (StateOk vars s))/\Ext w w':=by
  obtain⟨A,ca,rfl⟩:=d.form;obtain⟨m,cb,rfl⟩:=hb.form;have e:=hb.len;refine AG func74 rfl ntmps74 ?_;by_cases hl:s.length=vars.length
  . refine bl ?_<;>refine ah ?_<;>refine az ?_;refine FS (λk:Nat=>[(0,.slice A vars.length ca),(1,.slice m s.length cb),(12,.int .i64 (s.length:Int)),(13,.int .i64 (k:Int))])
      (λk w'=>w'=w/\k<=s.length/\∀(i:Nat) x y,i<k->s[i]?=some x->vars[i]?=some y->0<=x/\x<y) (λk=>s.length-k) 0 ⟨rfl,V5 _,λi _ _ n=>by omega⟩ A1 ?_
    rintro k _ ⟨rfl,hk,hh⟩;by_cases hlt:k<s.length
    . obtain⟨x,hx⟩:=AK hlt;obtain⟨y,hy⟩:=AK (l:=vars) (k:=k) (by omega);obtain⟨h,o1,ce,rfl,_,_,hd1,rfl,_⟩:=d.elem hy;obtain⟨j,o2,ce,rfl,_,_,hd2,rfl,_⟩:=hb.elem hx;refine ao ?_<;>refine al ?_;refine Ct (·=_) [(0,true),(1,true),(2,true),(3,true),(4,true),(5,true),(6,true),(7,true),(8,true),(9,true),(10,true),(11,true),(12,true),(13,true),(14,true),(15,true)] rfl rfl ?_
      (refine aj ?_<;>refine aj ?_<;>refine OM rfl rfl rfl rfl ?_<;>refine Du rfl rfl ?_<;>(first|refine IE rfl rfl rfl ?_|refine IF rfl rfl rfl ?_|refine GN rfl rfl rfl (λ_=>?_) λ_=>?_)<;>refine aj ?_<;>refine ap ?_<;>refine ap ?_<;>refine br ?_<;>refine ap ?_<;>refine ap ?_<;>refine br ?_<;>(refine AB rfl ?_;(first|(refine AA rfl rfl ?_;(first|refine CP (λ_ _=>Bi rfl rfl) (by omega) ?_|refine CR (λ_ _=>Bi rfl rfl) (by omega) ?_|refine AY (λ_ _=>Bi rfl rfl) (λ_=>?_) (λ_=>?_)))|refine AH rfl rfl ?_))<;>refine aZ ?_)<;>refine ab ?_
      case refine_2.refine_2 =>
        refine aT ?_;refine⟨k+1,A1,⟨rfl,by omega,λi f g hi a b=>?_⟩,by omega⟩;by_cases he:i=k
        . subst he;rw[hx]at a;rw[hy]at b;injection a with a;injection b with b;omega
        . exact hh i f g (by omega) a b
      all_goals
        refine ad ?_;refine W8 rfl rfl ⟨?_,V8 _ _⟩;rw[BU (λn=>by have:=n.2 k x y hx hy;omega)]
    . refine ao ?_<;>refine ad ?_;refine W8 rfl rfl ⟨?_,V8 _ _⟩;rw[Dq ⟨hl,λi x y a b=>hh i x y (by have:=BT a;omega) a b⟩]
  . refine bl ?_<;>refine ad ?_;refine W8 rfl rfl ⟨?_,V8 _ _⟩;rw[BU (λn=>hl n.1)]
end
section
open Go Go.RowKit
attribute [local irreducible] ewp owp hwp hwq hws Ev Evg Fn W6 X7 X4 X1
theorem aS{G H:Prop}(g:H)(h:Wr0 H->G:=by intro x;refine Au rfl ?_;refine aq ?_;exact x.o):G:=h ⟨g⟩
theorem ac{G H:Prop}(g:H)(h:Wr0 H->G:=by intro x;refine Ar rfl ?_;exact x.o):G:=h ⟨g⟩
theorem ai{G H:Prop}(g:H)(h:Wr0 H->G:=by intro x;(first|refine AV rfl rfl ?_|refine AS rfl rfl ?_);refine o_z ?_;exact x.o):G:=h ⟨g⟩
theorem Aap{w:World}{c sv:Value}{vars s:List Int}(d:V w c vars)(hb:V w sv s) :
    Fn prog 50 [c,sv] w λv w'=>v=.bool (bof (StateOk vars s))/\Ext w w':=by
  obtain⟨A,ca,rfl⟩:=d.form;obtain⟨m,cb,rfl⟩:=hb.form;have e:=hb.len;refine AG func50 rfl ntmps50 ?_;by_cases hl:s.length=vars.length
  . refine bl ?_<;>refine ah ?_<;>refine az ?_;refine FS (λk:Nat=>[(0,.slice A vars.length ca),(12,.slice m s.length cb),(13,.int .i64 (s.length:Int)),(14,.int .i64 (k:Int))])
      (λk w'=>w'=w/\k<=s.length/\∀(i:Nat) x y,i<k->s[i]?=some x->vars[i]?=some y->0<=x/\x<y) (λk=>s.length-k) 0 ⟨rfl,V5 _,λi _ _ n=>by omega⟩ A1 ?_
    rintro k _ ⟨rfl,hk,hh⟩;by_cases hlt:k<s.length
    . obtain⟨x,hx⟩:=AK hlt;obtain⟨y,hy⟩:=AK (l:=vars) (k:=k) (by omega);obtain⟨h,o1,ce,rfl,_,_,hd1,rfl,_⟩:=d.elem hy;obtain⟨j,o2,ce,rfl,_,_,hd2,rfl,_⟩:=hb.elem hx
      (refine ao ?_<;>refine ah ?_<;>refine Eu rfl rfl ?_<;>refine AL rfl ?_<;>refine aS ?_<;>(refine ac ?_<;>(first|refine EX rfl rfl ?_|refine EY rfl rfl ?_|refine Cp rfl rfl (λ_=>?_) λ_=>?_)<;>refine ac ?_<;>(first|(refine Az rfl rfl ?_;refine Ar rfl ?_)|refine Ay rfl rfl ?_)<;>(first|(refine Az rfl rfl ?_;refine Ar rfl ?_)|refine Ay rfl rfl ?_)<;>(first|(refine Az rfl rfl ?_;refine Ar rfl ?_)|refine Ay rfl rfl ?_)<;>(first|(refine Az rfl rfl ?_;refine Eu rfl rfl ?_)|refine Ay rfl rfl ?_)<;>(first|(refine Az rfl rfl ?_;refine AL rfl ?_)|refine Ay rfl rfl ?_)<;>(first|(refine Az rfl rfl ?_;(first|refine NS rfl rfl rfl ?_|refine NT rfl rfl rfl ?_|refine Es rfl rfl (λ_=>?_) λ_=>?_))|refine Ay rfl rfl ?_)<;>refine ai ?_)<;>refine ab ?_)
      case refine_2.refine_2 =>
        refine aT ?_;refine⟨k+1,A1,⟨rfl,by omega,λi f g hi a b=>?_⟩,by omega⟩;by_cases he:i=k
        . subst he;rw[hx]at a;rw[hy]at b;injection a with a;injection b with b;omega
        . exact hh i f g (by omega) a b
      all_goals
        refine ad ?_;refine W8 rfl rfl ⟨?_,V8 _ _⟩;rw[BU (λn=>by have:=n.2 k x y hx hy;omega)]
    . refine ao ?_<;>refine ad ?_;refine W8 rfl rfl ⟨?_,V8 _ _⟩;rw[Dq ⟨hl,λi x y a b=>hh i x y (by have:=BT a;omega) a b⟩]
  . refine bl ?_<;>refine ad ?_;refine W8 rfl rfl ⟨?_,V8 _ _⟩;rw[BU (λn=>hl n.1)]
def Y8(vars:List Int)(x:Fct):Prop:=0<=x.var/\0<=x.val/\∃y,vars[x.var.toNat]?=some y/\x.val<y
def FactsOk(vars:List Int)(f:List Fct):Prop:=(∀(i:Nat) x,f[i]?=some x->Y8 vars x)/\∀(i:Nat) x y,f[i]?=some x->f[i+1]?=some y->x.var<y.var
def FactsTo(vars:List Int)(f:List Fct)(k:Nat):Prop:=(∀(i:Nat) x,i<k->f[i]?=some x->Y8 vars x)/\∀(i:Nat) x y,i+1<k->f[i]?=some x->f[i+1]?=some y->x.var<y.var
theorem FactsTo.step{vars:List Int}{f:List Fct}{k:Nat}{x:Fct}(e:FactsTo vars f k)(b:f[k]?=some x)(c:Y8 vars x)(d:∀y,0<k->f[k-1]?=some y->y.var<x.var):FactsTo vars f (k+1):=by
  refine⟨λi y hi a=>?_,λi y z hi a hz=>?_⟩
  . by_cases he:i=k
    . subst he;rw[b]at a;injection a with a;exact a▸c
    . exact e.1 i y (by omega) a
  . by_cases he:i+1=k
    . rw[he,b]at hz;injection hz with hz;subst hz;exact d y (by omega) (by rw[show k-1=i from by omega];exact a)
    . exact e.2 i y z (by omega) a hz
theorem FactsTo.done{vars:List Int}{f:List Fct}{k:Nat}(c:FactsTo vars f k)(hk:f.length<=k):FactsOk vars f :=
  ⟨λi x a=>c.1 i x (by have:=BT a;omega) a,λi x y a b=>c.2 i x y (by have:=BT b;omega) a b⟩
theorem aP{G H:Prop}(g:H)(h:Wr0 H->G:=by intro x;refine bg ?_;refine aU ?_;exact x.o):G:=h ⟨g⟩
theorem bt{G H:Prop}(g:H)(h:Wr0 H->G:=by intro x;refine ap ?_;refine ap ?_;refine ap ?_;(refine AB rfl ?_;(first|(refine AA rfl rfl ?_;refine UN rfl rfl rfl ?_)|refine AH rfl rfl ?_));(refine AB rfl ?_;(first|(refine AA rfl rfl ?_;refine HY rfl rfl ?_)|refine AH rfl rfl ?_));refine aU ?_;exact x.o):G:=h ⟨g⟩
theorem bu{G H:Prop}(g:H)(h:Wr0 H->G:=by intro x;(refine AB rfl ?_;(first|(refine AA rfl rfl ?_;(first|refine JF rfl rfl ?_|refine Nk rfl rfl ?_))|refine AH rfl rfl ?_));refine bq ?_;refine h_z ?_;exact x.o):G:=h ⟨g⟩
theorem Zy{w:World}{B C:Value}{vars:List Int}{f:List Fct}(D:V w B vars)(hf:V w C f) :
    Fn prog 75 [B,C] w λv w'=>v=.bool (bof (FactsOk vars f))/\Ext w w':=by
  obtain⟨A,ca,rfl⟩:=D.form;obtain⟨P,cb,rfl⟩:=hf.form;have G:=hf.len;refine AG func75 rfl ntmps75 ?_;refine aY ?_;refine FS (λk:Nat=>[(0,.slice A vars.length ca),(1,.slice P f.length cb),(7,.slice P f.length cb),(8,.int .i64 (f.length:Int)),(9,.int .i64 (k:Int))])
    (λk w'=>Ext w w'/\k<=f.length/\FactsTo vars f k) (λk=>f.length-k) 0 ⟨V8 _ _,V5 _,⟨λi _ Q=>by omega,λi _ _ Q=>by omega⟩⟩ Ad ?_
  rintro k K ⟨t,hk,hh⟩;by_cases hlt:k<f.length
  . obtain⟨x,hx⟩:=AK hlt;obtain⟨b,o,ce,rfl,hb,_,hd1,rfl,hr1,hr2⟩:=(hf.ext t).elem hx;refine ao ?_<;>refine ah ?_<;>refine Eu rfl rfl ?_<;>refine BE rfl ?_<;>refine ab ?_;refine Gk rfl λL m=>?_;refine Au rfl ?_;refine CL rfl rfl m.blk rfl (V2 _) (by simp[Value.cells,Value.oneCell']) λE H=>?_;replace m:=m.upd H;have I:=m.blk;have a:Ext w E:=t.trans' m.ext;refine o_z ?_;refine ab ?_;refine Ct (·=E) [(0,true),(1,true),(2,true),(3,true),(4,true),(5,true),(6,true),(7,true),(8,true),(9,true),(10,true),(11,true),(12,true),(13,true),(14,true),(15,true),(16,true),(17,true),(18,true),(19,true),(20,true),(21,true),(22,true),(23,true),(24,true),(25,true),(26,true),(27,true),(28,true),(29,true),(30,true),(31,true),(32,true),(33,true),(34,true),(35,true),(36,true),(37,true),(38,true),(39,true)] rfl rfl ?_;by_cases n:0<=x.var/\x.var<vars.length
    . obtain ⟨j,hj1⟩:=E3 n.1;obtain⟨y,hy⟩:=AK (l:=vars) (k:=j) (by omega);obtain⟨M,o2,ce2,rfl,_,_,hd2,rfl,_⟩:=(D.ext a).elem hy;have p:vars[x.var.toNat]?=some y:=(by rw[hj1];simpa using hy);have q:0<=x.val->x.val<y->Y8 vars x:=λg h=>⟨n.1,g,y,p,h⟩;have e:¬(0<=x.val/\x.val<y)->¬FactsOk vars f:=λg h=>g (by
        obtain⟨_,h3,F,s,h5⟩:=h.1 k x hx;rw[p]at s;injection s with s;subst s;exact⟨h3,h5⟩)
      by_cases N:0<k
      . obtain⟨z,hz⟩:=AK (l:=f) (k:=k-1) (by omega);obtain⟨O,o3,ce3,c,_,_,hd3,rfl,_⟩:=(hf.ext a).elem hz;injection c with c;injection c with c u;subst c;subst u;have J:(k:Int)-1=((k-1:Nat):Int):=(by omega);have r:¬z.var<x.var->¬FactsOk vars f:=λg h=>g (h.2 (k-1) z x hz (by rw[show k-1+1=k from by omega];exact hx))
        (refine ay ?_<;>(first|refine IE rfl rfl rfl ?_|refine IF rfl rfl rfl ?_|refine GN rfl rfl rfl (λ_=>?_) λ_=>?_)<;>refine aR ?_<;>(refine AB rfl ?_;(first|(refine AA rfl rfl ?_;(first|refine CP (λ_ _=>Bi rfl rfl) (by omega) ?_|refine CR (λ_ _=>Bi rfl rfl) (by omega) ?_|refine AY (λ_ _=>Bi rfl rfl) (λ_=>?_) (λ_=>?_)))|refine AH rfl rfl ?_))<;>refine aP ?_<;>(refine AB rfl ?_;(first|(refine AA rfl rfl ?_;(first|refine CP (λ_ _=>Do rfl rfl) (by omega) ?_|refine CR (λ_ _=>Do rfl rfl) (by omega) ?_|refine AY (λ_ _=>Do rfl rfl) (λ_=>?_) (λ_=>?_)))|refine AH rfl rfl ?_))<;>refine aP ?_<;>refine be ?_<;>(refine AB rfl ?_;(first|(refine AA rfl rfl ?_;(first|refine CP (λ_ _=>Bi rfl rfl) (by omega) ?_|refine CR (λ_ _=>Bi rfl rfl) (by omega) ?_|refine AY (λ_ _=>Bi rfl rfl) (λ_=>?_) (λ_=>?_)))|refine AH rfl rfl ?_))<;>refine bg ?_<;>refine ap ?_<;>(refine AB rfl ?_;(first|(refine AA rfl rfl ?_;(first|refine CP (λ_ _=>Gi rfl rfl) (by omega) ?_|refine CR (λ_ _=>Gi rfl rfl) (by omega) ?_|refine AY (λ_ _=>Gi rfl rfl) (λ_=>?_) (λ_=>?_)))|refine AH rfl rfl ?_))<;>refine bt ?_<;>refine aU ?_<;>(refine AB rfl ?_;(first|(refine AA rfl rfl ?_;(first|refine CP (λ_ _=>Bi rfl rfl) (by omega) ?_|refine CR (λ_ _=>Bi rfl rfl) (by omega) ?_|refine AY (λ_ _=>Bi rfl rfl) (λ_=>?_) (λ_=>?_)))|refine AH rfl rfl ?_))<;>refine bu ?_)<;>refine ab ?_
        all_goals first
          | (refine aT ?_
             exact⟨k+1,Ad,⟨a,by omega,hh.step hx (q (by omega) (by omega)) (λF _ d=>by rw[hz]at d;injection d with d;subst d;omega)⟩,by omega⟩)
          | (refine ad ?_
             refine W8 rfl rfl ⟨?_,a⟩;first|rw[BU (e (by omega))]|rw[BU (r (by omega))])
      . (refine ay ?_<;>(first|refine IE rfl rfl rfl ?_|refine IF rfl rfl rfl ?_|refine GN rfl rfl rfl (λ_=>?_) λ_=>?_)<;>refine aR ?_<;>(refine AB rfl ?_;(first|(refine AA rfl rfl ?_;(first|refine CP (λ_ _=>Bi rfl rfl) (by omega) ?_|refine CR (λ_ _=>Bi rfl rfl) (by omega) ?_|refine AY (λ_ _=>Bi rfl rfl) (λ_=>?_) (λ_=>?_)))|refine AH rfl rfl ?_))<;>refine aP ?_<;>(refine AB rfl ?_;(first|(refine AA rfl rfl ?_;(first|refine CP (λ_ _=>Do rfl rfl) (by omega) ?_|refine CR (λ_ _=>Do rfl rfl) (by omega) ?_|refine AY (λ_ _=>Do rfl rfl) (λ_=>?_) (λ_=>?_)))|refine AH rfl rfl ?_))<;>refine aP ?_<;>refine be ?_<;>(refine AB rfl ?_;(first|(refine AA rfl rfl ?_;(first|refine CP (λ_ _=>Bi rfl rfl) (by omega) ?_|refine CR (λ_ _=>Bi rfl rfl) (by omega) ?_|refine AY (λ_ _=>Bi rfl rfl) (λ_=>?_) (λ_=>?_)))|refine AH rfl rfl ?_))<;>refine bg ?_<;>refine ap ?_<;>(refine AB rfl ?_;(first|(refine AA rfl rfl ?_;(first|refine CP (λ_ _=>Gi rfl rfl) (by omega) ?_|refine CR (λ_ _=>Gi rfl rfl) (by omega) ?_|refine AY (λ_ _=>Gi rfl rfl) (λ_=>?_) (λ_=>?_)))|refine AH rfl rfl ?_))<;>refine bt ?_<;>refine aU ?_<;>(refine AB rfl ?_;(first|(refine AA rfl rfl ?_;(first|refine CP (λ_ _=>Bi rfl rfl) (by omega) ?_|refine CR (λ_ _=>Bi rfl rfl) (by omega) ?_|refine AY (λ_ _=>Bi rfl rfl) (λ_=>?_) (λ_=>?_)))|refine AH rfl rfl ?_))<;>refine bu ?_)<;>refine ab ?_
        all_goals first
          | (refine aT ?_
             exact⟨k+1,Ad,⟨a,by omega,hh.step hx (q (by omega) (by omega)) (λF _ d=>by omega)⟩,by omega⟩)
          | (refine ad ?_
             refine W8 rfl rfl ⟨?_,a⟩;rw[BU (e (by omega))])
    . have e:¬FactsOk vars f:=λQ=>by
        obtain⟨g,h,y,h3,_⟩:=Q.1 k x hx;have:=BT h3;omega
      (refine ay ?_<;>(first|refine IE rfl rfl rfl ?_|refine IF rfl rfl rfl ?_|refine GN rfl rfl rfl (λ_=>?_) λ_=>?_)<;>refine aR ?_<;>(refine AB rfl ?_;(first|(refine AA rfl rfl ?_;(first|refine CP (λ_ _=>Bi rfl rfl) (by omega) ?_|refine CR (λ_ _=>Bi rfl rfl) (by omega) ?_|refine AY (λ_ _=>Bi rfl rfl) (λ_=>?_) (λ_=>?_)))|refine AH rfl rfl ?_))<;>refine aP ?_<;>(refine AB rfl ?_;(first|(refine AA rfl rfl ?_;(first|refine CP (λ_ _=>Do rfl rfl) (by omega) ?_|refine CR (λ_ _=>Do rfl rfl) (by omega) ?_|refine AY (λ_ _=>Do rfl rfl) (λ_=>?_) (λ_=>?_)))|refine AH rfl rfl ?_))<;>refine aP ?_<;>refine be ?_<;>(refine AB rfl ?_;(first|(refine AA rfl rfl ?_;(first|refine CP (λ_ _=>Bi rfl rfl) (by omega) ?_|refine CR (λ_ _=>Bi rfl rfl) (by omega) ?_|refine AY (λ_ _=>Bi rfl rfl) (λ_=>?_) (λ_=>?_)))|refine AH rfl rfl ?_))<;>refine bg ?_<;>refine ap ?_<;>(refine AB rfl ?_;(first|(refine AA rfl rfl ?_;(first|refine CP (λ_ _=>Gi rfl rfl) (by omega) ?_|refine CR (λ_ _=>Gi rfl rfl) (by omega) ?_|refine AY (λ_ _=>Gi rfl rfl) (λ_=>?_) (λ_=>?_)))|refine AH rfl rfl ?_))<;>refine bt ?_<;>refine aU ?_<;>(refine AB rfl ?_;(first|(refine AA rfl rfl ?_;(first|refine CP (λ_ _=>Bi rfl rfl) (by omega) ?_|refine CR (λ_ _=>Bi rfl rfl) (by omega) ?_|refine AY (λ_ _=>Bi rfl rfl) (λ_=>?_) (λ_=>?_)))|refine AH rfl rfl ?_))<;>refine bu ?_)<;>refine ab ?_
      all_goals
        refine ad ?_;refine W8 rfl rfl ⟨?_,a⟩;rw[BU e]
  . refine ao ?_<;>refine ad ?_;refine W8 rfl rfl ⟨?_,t⟩;rw[Dq (hh.done (by omega))]
theorem af{G H:Prop}(g:H)(h:Wr0 H->G:=by intro x;refine AJ rfl ?_;refine AL rfl ?_;exact x.o):G:=h ⟨g⟩
theorem AaA{w:World}{C D:Value}{vars:List Int}{f:List Fct}(E:V w C vars)(hf:V w D f) :
    Fn prog 52 [C,D] w λv w'=>v=.bool (bof (FactsOk vars f))/\Ext w w':=by
  obtain⟨A,ca,rfl⟩:=E.form;obtain⟨L,cb,rfl⟩:=hf.form;have I:=hf.len;refine AG func52 rfl ntmps52 ?_;refine ad ?_<;>refine aq ?_<;>refine ac ?_<;>refine az ?_;refine FS (X:=Nat×Int) (λk=>[(0,.slice A vars.length ca),(5,.int .i64 k.2),(8,.slice L f.length cb),(9,.int .i64 (f.length:Int)),(10,.int .i64 (k.1:Int))])
    (λk w'=>Ext w w'/\k.1<=f.length/\FactsTo vars f k.1/\(k.1=0->k.2=-1)/\∀y,0<k.1->f[k.1-1]?=some y->y.var=k.2) (λk=>f.length-k.1) (0,-1) ⟨V8 _ _,V5 _,⟨λi _ M=>by simp at M,λi _ _ M=>by simp at M⟩,λ_=>rfl,λy M=>by simp at M⟩ Ad ?_
  rintro⟨k,m⟩ w1 ⟨hE,hk,hh,hm0,hm⟩;dsimp only at hk hh hm0 hm ⊢;by_cases hlt:k<f.length
  . obtain⟨x,hx⟩:=AK hlt;obtain⟨b,o,ce,rfl,hb,_,hd1,rfl,hr1,hr2⟩:=(hf.ext hE).elem hx;refine ao ?_<;>refine ak ?_;refine Dk rfl rfl (by simp[Value.cells,Value.oneCell']) λF G=>?_;have J:=G.blk;have a:Ext w F:=hE.trans' G.ext;refine o_z ?_;refine ab ?_;refine Ct (·=F) [(0,true),(1,true),(2,true),(3,true),(4,true),(5,true),(6,true),(7,true),(8,true),(9,true),(10,true),(11,true),(12,true),(13,true),(14,true),(15,true),(16,true),(17,true),(18,true),(19,true),(20,true),(21,true),(22,true),(23,true),(24,true),(25,true)] rfl rfl ?_;have h:0<k->∃z,f[k-1]?=some z/\z.var=m:=λc=>by
      obtain⟨z,hz⟩:=AK (l:=f) (k:=k-1) (by omega);exact⟨z,hz,hm z c hz⟩
    have t:0<k->0<=m:=λc=>by
      obtain⟨z,hz,he⟩:=h c;have:=(hh.1 (k-1) z (by omega) hz).1;omega
    have H:-1<=m:=by
      by_cases c:0<k
      . have:=t c;omega
      . have:=hm0 (by omega);omega
    have n:¬m<x.var->¬FactsOk vars f:=λp e=>by
      by_cases c:0<k
      . obtain⟨z,hz,he⟩:=h c;have:=e.2 (k-1) z x hz (by rw[show k-1+1=k from by omega];exact hx);omega
      . have:=hm0 (by omega);have:=(e.1 k x hx).1;omega
    by_cases q:0<=x.var/\x.var<vars.length
    . obtain⟨j,hj1⟩:=E3 q.1;obtain⟨y,hy⟩:=AK (l:=vars) (k:=j) (by omega);obtain⟨K,o2,ce2,rfl,_,_,hd2,rfl,_⟩:=(E.ext a).elem hy;have r:vars[x.var.toNat]?=some y:=(by rw[hj1];simpa using hy);have u:0<=x.val->x.val<y->Y8 vars x:=λp e=>⟨q.1,p,y,r,e⟩;have g:¬(0<=x.val/\x.val<y)->¬FactsOk vars f:=λp e=>p (by
        obtain⟨_,h3,B,s,h5⟩:=e.1 k x hx;rw[r]at s;injection s with s;subst s;exact⟨h3,h5⟩)
      (refine ay ?_<;>refine aj ?_<;>(first|refine VQ rfl rfl rfl rfl ?_|refine VR rfl rfl rfl rfl ?_|refine VS rfl rfl rfl rfl (λ_=>?_) λ_=>?_)<;>refine aR ?_<;>(refine AB rfl ?_;(first|(refine AA rfl rfl ?_;(first|refine CP (λ_ _=>Bi rfl rfl) (by omega) ?_|refine CR (λ_ _=>Bi rfl rfl) (by omega) ?_|refine AY (λ_ _=>Bi rfl rfl) (λ_=>?_) (λ_=>?_)))|refine AH rfl rfl ?_))<;>refine aP ?_<;>(refine AB rfl ?_;(first|(refine AA rfl rfl ?_;(first|refine CP (λ_ _=>Do rfl rfl) (by omega) ?_|refine CR (λ_ _=>Do rfl rfl) (by omega) ?_|refine AY (λ_ _=>Do rfl rfl) (λ_=>?_) (λ_=>?_)))|refine AH rfl rfl ?_))<;>refine aP ?_<;>refine be ?_<;>(refine AB rfl ?_;(first|(refine AA rfl rfl ?_;(first|refine CP (λ_ _=>Bi rfl rfl) (by omega) ?_|refine CR (λ_ _=>Bi rfl rfl) (by omega) ?_|refine AY (λ_ _=>Bi rfl rfl) (λ_=>?_) (λ_=>?_)))|refine AH rfl rfl ?_))<;>refine aZ ?_)<;>refine ab ?_
      all_goals try (
        refine ad ?_;refine W8 rfl rfl ⟨?_,a⟩;first|rw[BU (g (by omega))]|rw[BU (n (by omega))])
      refine ab ?_<;>refine af ?_<;>refine aq ?_;refine aT ?_;refine⟨(k+1,x.var),Ad,⟨a,hlt,hh.step hx (u (by omega) (by omega)) (λB c d=>by have:=hm B c d;omega),λM=>absurd M (Nat.succ_ne_zero k),λB _ d=>?_⟩,Nat.sub_lt_sub_left hlt (P1 k)⟩;rw[show k+1-1=k from rfl,hx]at d;exact congrArg Fct.var (Q1 d).symm
    . have g:¬FactsOk vars f:=λM=>by
        obtain⟨p,e,y,h3,_⟩:=M.1 k x hx;have:=BT h3;omega
      (refine ay ?_<;>refine aj ?_<;>(first|refine VQ rfl rfl rfl rfl ?_|refine VR rfl rfl rfl rfl ?_|refine VS rfl rfl rfl rfl (λ_=>?_) λ_=>?_)<;>refine aR ?_<;>(refine AB rfl ?_;(first|(refine AA rfl rfl ?_;(first|refine CP (λ_ _=>Bi rfl rfl) (by omega) ?_|refine CR (λ_ _=>Bi rfl rfl) (by omega) ?_|refine AY (λ_ _=>Bi rfl rfl) (λ_=>?_) (λ_=>?_)))|refine AH rfl rfl ?_))<;>refine aP ?_<;>(refine AB rfl ?_;(first|(refine AA rfl rfl ?_;(first|refine CP (λ_ _=>Do rfl rfl) (by omega) ?_|refine CR (λ_ _=>Do rfl rfl) (by omega) ?_|refine AY (λ_ _=>Do rfl rfl) (λ_=>?_) (λ_=>?_)))|refine AH rfl rfl ?_))<;>refine aP ?_<;>refine be ?_<;>(refine AB rfl ?_;(first|(refine AA rfl rfl ?_;(first|refine CP (λ_ _=>Bi rfl rfl) (by omega) ?_|refine CR (λ_ _=>Bi rfl rfl) (by omega) ?_|refine AY (λ_ _=>Bi rfl rfl) (λ_=>?_) (λ_=>?_)))|refine AH rfl rfl ?_))<;>refine aZ ?_)<;>refine ab ?_
      all_goals
        refine ad ?_;refine W8 rfl rfl ⟨?_,a⟩;rw[BU g]
  . refine ao ?_<;>refine ad ?_;refine W8 rfl rfl ⟨?_,hE⟩;rw[Dq (hh.done (by omega))]
def Aaj(s:ByteArray):Prop:=s.size<=256/\∀(i:Nat)(h:i<s.size),32<=(s[i]'h).toNat/\(s[i]'h).toNat<=126
theorem bb{G H:Prop}(g:H)(h:Wr0 H->G:=by intro x;refine ac ?_;refine o_z ?_;exact x.o):G:=h ⟨g⟩
theorem aV{G H:Prop}(g:H)(h:Wr0 H->G:=by intro x;refine ac ?_;refine ac ?_;exact x.o):G:=h ⟨g⟩
theorem bz{G H:Prop}(g:H)(h:Wr0 H->G:=by intro x;refine ao ?_;refine ah ?_;refine OJ rfl rfl ?_;(first|refine Qb rfl rfl rfl ?_|refine Qc rfl rfl rfl ?_);refine aq ?_;exact x.o):G:=h ⟨g⟩
theorem AbC{w:World}{s:ByteArray}(hs:s.size<=9223372036854775807) :
    Fn prog 53 [.string s] w λv w'=>v=.bool (bof (Aaj s))/\Ext w w':=by
  refine AG func53 rfl ntmps53 ?_;refine ax ?_<;>refine OJ rfl rfl ?_<;>refine bb ?_<;>refine ab ?_;refine FS (λk:Nat=>[(0,.string s),(5,.int .i64 (s.size:Int)),(6,.int .i64 (k:Int))])
    (λk w'=>w'=w/\k<=s.size/\∀(i:Nat)(h:i<s.size),i<k->32<=(s[i]'h).toNat/\(s[i]'h).toNat<=126) (λk=>s.size-k) 0 ⟨rfl,V5 _,λi _ h=>by omega⟩ B5 ?_
  rintro k _ ⟨rfl,hk,hh⟩;by_cases hlt:k<s.size
  . (refine ao ?_<;>refine al ?_<;>(refine aV ?_<;>refine SN rfl rfl rfl (by omega) ?_<;>(first|refine EX rfl rfl ?_|refine EY rfl rfl ?_|refine Cp rfl rfl (λ_=>?_) λ_=>?_)<;>refine ac ?_<;>(first|(refine Az rfl rfl ?_;refine Ar rfl ?_)|refine Ay rfl rfl ?_)<;>(first|(refine Az rfl rfl ?_;refine Ar rfl ?_)|refine Ay rfl rfl ?_)<;>(first|(refine Az rfl rfl ?_;refine SN rfl rfl rfl (by omega) ?_)|refine Ay rfl rfl ?_)<;>(first|(refine Az rfl rfl ?_;(first|refine FL rfl rfl ?_|refine FM rfl rfl ?_|refine Cq rfl rfl (λ_=>?_) λ_=>?_))|refine Ay rfl rfl ?_)<;>refine ai ?_)<;>refine ab ?_)
    all_goals first
      | (refine aT ?_
         refine⟨k+1,B5,⟨rfl,by omega,λi h hi=>?_⟩,by omega⟩;by_cases he:i=k
         . subst he;omega
         . exact hh i h (by omega))
      | (refine ad ?_
         refine W8 rfl rfl ⟨?_,V8 _ _⟩;rw[BU (λh=>by have:=h.2 k hlt;omega)])
  . by_cases a:s.size<=256
    . refine bz ?_;refine W8 rfl rfl ⟨?_,V8 _ _⟩;rw[Dq ⟨a,λi h=>hh i h (by omega)⟩]
    . refine bz ?_;refine W8 rfl rfl ⟨?_,V8 _ _⟩;rw[BU (λh=>a h.1)]
end
section
open Go Go.RowKit
attribute [local irreducible] ewp owp hwp hwq hws Ev Evg Fn W6 X7 X4 X1
theorem GW{vars:List Int}{x:Fct}:FactsOk vars [x]↔Y8 vars x:=by
  constructor
  . intro b;exact b.1 0 x rfl
  . intro b;refine⟨λi y a=>?_,λi y z _ hz=>by simp at hz⟩;cases i with
    |zero=>simp at a;exact a▸b
    |succ i=>simp at a
def Zg(vars:List Int)(e:Eff):Prop:=FactsOk vars e.cond/\Y8 vars ⟨e.var,e.val⟩
def OpOk(vars:List Int)(o:Opr):Prop:=0<=o.cost/\o.cost<=1048576/\o.effs.length<=64/\Aaj o.name/\FactsOk vars o.pre/\∀(i:Nat) e,o.effs[i]?=some e->Zg vars e
def TaskOk(t:Tsk):Prop:=t.vars.length<=64/\t.ops.length<=4096/\(∀(i:Nat) n,t.vars[i]?=some n->1<=n/\n<=64)/\StateOk t.vars t.init/\FactsOk t.vars t.goal/\∀(i:Nat) o,t.ops[i]?=some o->OpOk t.vars o
theorem DT{p:Nat->Prop}{k:Nat}(a:∀i,i<k->p i)(hk:p k):∀i,i<k+1->p i:=λi hi=>by
  by_cases he:i=k
  . subst he;exact hk
  . exact a i (by omega)
theorem ae{G H:Prop}(g:H)(h:Wr0 H->G:=by intro x;refine Au rfl ?_;refine o_z ?_;exact x.o):G:=h ⟨g⟩
theorem bh{G H:Prop}(g:H)(h:Wr0 H->G:=by intro x;(first|refine AV rfl rfl ?_|refine AS rfl rfl ?_);exact x.o):G:=h ⟨g⟩
theorem au{G H:Prop}(g:H)(h:Wr0 H->G:=by intro x;refine ab ?_;refine af ?_;refine az ?_;exact x.o):G:=h ⟨g⟩
theorem bi{G H:Prop}(g:H)(h:Wr0 H->G:=by intro x;(first|refine Cw rfl ?_|refine Cx rfl ?_|refine Em rfl ?_);exact x.o):G:=h ⟨g⟩
theorem Abo{w:World}{D E:Value}{vars:List Int}{o:Opr}(B:V w D vars)(J:V w E o) :
    Fn prog 76 [D,E] w λv w'=>v=.bool (bof (OpOk vars o))/\Ext w w':=by
  obtain⟨F,cv,rfl⟩:=B.form;obtain⟨cs,rfl,p,q,rfl,hp,hq,hc,hn⟩:=J;obtain⟨Q,cp,rfl⟩:=hp.form;obtain⟨K,cq,rfl⟩:=hq.form;have L:=hq.len;refine AG func76 rfl ntmps76 ?_;refine ab ?_;refine FC rfl λM G=>?_;have r:=G.blk;have b:Ext w M:=G.ext;refine ae ?_;refine ab ?_
  (refine af ?_<;>(first|refine EX rfl rfl ?_|refine EY rfl rfl ?_|refine Cp rfl rfl (λ_=>?_) λ_=>?_)<;>refine ac ?_<;>(first|(refine Az rfl rfl ?_;refine AJ rfl ?_)|refine Ay rfl rfl ?_)<;>(first|(refine Az rfl rfl ?_;refine AL rfl ?_)|refine Ay rfl rfl ?_)<;>(first|(refine Az rfl rfl ?_;(first|refine FL rfl rfl ?_|refine FM rfl rfl ?_|refine Cq rfl rfl (λ_=>?_) λ_=>?_))|refine Ay rfl rfl ?_)<;>refine bh ?_<;>refine ac ?_<;>(first|(refine Az rfl rfl ?_;refine AJ rfl ?_)|refine Ay rfl rfl ?_)<;>(first|(refine Az rfl rfl ?_;refine AL rfl ?_)|refine Ay rfl rfl ?_)<;>(first|(refine Az rfl rfl ?_;refine AO rfl ?_)|refine Ay rfl rfl ?_)<;>(first|(refine Az rfl rfl ?_;(first|refine FL rfl rfl ?_|refine FM rfl rfl ?_|refine Cq rfl rfl (λ_=>?_) λ_=>?_))|refine Ay rfl rfl ?_)<;>refine bh ?_<;>refine ac ?_<;>(first|(refine Az rfl rfl ?_;refine AJ rfl ?_)|refine Ay rfl rfl ?_)<;>(first|(refine Az rfl rfl ?_;refine AL rfl ?_)|refine Ay rfl rfl ?_)<;>(first|(refine Az rfl rfl ?_;refine OJ rfl rfl ?_)|refine Ay rfl rfl ?_)<;>(first|(refine Az rfl rfl ?_;(first|refine FL rfl rfl ?_|refine FM rfl rfl ?_|refine Cq rfl rfl (λ_=>?_) λ_=>?_))|refine Ay rfl rfl ?_)<;>refine bh ?_<;>refine ac ?_<;>(first|(refine Az rfl rfl ?_;refine Ar rfl ?_)|refine Ay rfl rfl ?_)<;>(first|(refine Az rfl rfl ?_;refine AJ rfl ?_)|refine Ay rfl rfl ?_)<;>(first|(refine Az rfl rfl ?_;refine AL rfl ?_)|refine Ay rfl rfl ?_))
  all_goals try (
    refine Ay rfl rfl ?_
    ((first|(refine Az rfl rfl ?_;(first|refine Cw rfl ?_|refine Cx rfl ?_|refine Em rfl ?_))|refine Ay rfl rfl ?_)<;>refine ai ?_)
    refine ab ?_;refine ad ?_;refine W8 rfl rfl ⟨?_,b⟩;rw[BU (λh=>by obtain⟨R,h2,h3,⟨h4,_⟩,_⟩:=h;omega)])
  refine Az rfl rfl ?_;refine Ej rfl (Zy (B.ext b) (hp.ext b)) ?_ ?_
  case refine_2 =>
    intro C s a
    ((first|(refine Az rfl rfl ?_;(first|refine Cw rfl ?_|refine Cx rfl ?_|refine Em rfl ?_))|refine Ay rfl rfl ?_)<;>refine ai ?_)
    refine ab ?_;refine ad ?_;refine W8 rfl rfl ⟨?_,b.trans' a⟩;rw[BU (λh=>s h.2.2.2.2.1)]
  intro C t a;replace r:=r.ext a;have a:Ext w C:=b.trans' a
  ((first|(refine Az rfl rfl ?_;(first|refine Cw rfl ?_|refine Cx rfl ?_|refine Em rfl ?_))|refine Ay rfl rfl ?_)<;>refine ai ?_)
  refine ab ?_;refine af ?_<;>refine OJ rfl rfl ?_<;>refine bb ?_;refine ab ?_;refine Cj o.name.size hn (λ_:Unit=>[(0,.slice F vars.length cv),(3,.pointer (some ⟨w.heap.size,0,none⟩))]) (λk _ w'=>w'=C/\∀i,i<k->∀h:i<o.name.size,32<=(o.name[i]'h).toNat/\(o.name[i]'h).toNat<=126) ()
    ⟨rfl,λi hi=>by omega⟩ A1 (λ_=>⟨rfl,rfl⟩) ⟨rfl,rfl,rfl⟩ ⟨rfl,rfl⟩ ?_ ?_
  . rintro k _ _ hk ⟨rfl,hh⟩
    (refine al ?_<;>(refine af ?_<;>refine ac ?_<;>refine SN rfl rfl rfl (by omega) ?_<;>(first|refine EX rfl rfl ?_|refine EY rfl rfl ?_|refine Cp rfl rfl (λ_=>?_) λ_=>?_)<;>refine ac ?_<;>(first|(refine Az rfl rfl ?_;refine AJ rfl ?_)|refine Ay rfl rfl ?_)<;>(first|(refine Az rfl rfl ?_;refine AL rfl ?_)|refine Ay rfl rfl ?_)<;>(first|(refine Az rfl rfl ?_;refine Ar rfl ?_)|refine Ay rfl rfl ?_)<;>(first|(refine Az rfl rfl ?_;refine SN rfl rfl rfl (by omega) ?_)|refine Ay rfl rfl ?_)<;>(first|(refine Az rfl rfl ?_;(first|refine FL rfl rfl ?_|refine FM rfl rfl ?_|refine Cq rfl rfl (λ_=>?_) λ_=>?_))|refine Ay rfl rfl ?_)<;>refine ai ?_)<;>refine ab ?_)
    all_goals try (
      refine ad ?_;refine W8 rfl rfl ⟨?_,a⟩;rw[BU (λh=>by have:=h.2.2.2.1.2 k hk;omega)])
    exact⟨(),A1,rfl,DT hh λ_=>by omega⟩
  rintro _ _ ⟨rfl,hname⟩;have u:Aaj o.name:=⟨by omega,λi h=>hname i h h⟩;refine ab ?_;refine au ?_;refine Cj o.effs.length (by omega) (λ_:Unit=>[(0,.slice F vars.length cv),(3,.pointer (some ⟨w.heap.size,0,none⟩)),(55,.slice K o.effs.length cq)]) (λk _ w'=>Ext w w'/\∀i,i<k->∀e,o.effs[i]?=some e->Zg vars e) ()
    ⟨a,λi hi=>by omega⟩ Ad (λ_=>⟨rfl,rfl⟩) ⟨rfl,rfl,rfl⟩ ⟨rfl,rfl⟩ ?_ ?_
  . rintro k _ N hk ⟨c,hh⟩;obtain⟨e,he⟩:=AK hk;obtain⟨S,o2,ce,rfl,_,_,hd1,cv',rfl,hcond,hr1,hr2⟩:=(hq.ext c).elem he;obtain⟨T,cc,rfl⟩:=hcond.form;refine ak ?_;refine Dk rfl rfl (by simp[Value.cells,Value.oneCell']) λO g=>?_;have x:=g.blk;have j:Ext w O:=c.trans' g.ext;refine o_z ?_;refine ab ?_;refine ac ?_<;>refine af ?_;refine Ej rfl (Zy (B.ext j) (hcond.ext g.ext)) ?_ ?_
    case refine_2 =>
      intro H s d
      (refine bi ?_<;>refine ac ?_<;>(first|(refine Az rfl rfl ?_;refine Ar rfl ?_)|refine Ay rfl rfl ?_)<;>(first|(refine Az rfl rfl ?_;refine AJ rfl ?_)|refine Ay rfl rfl ?_)<;>(first|(refine Az rfl rfl ?_;refine AL rfl ?_)|refine Ay rfl rfl ?_)<;>(first|(refine Az rfl rfl ?_;refine AJ rfl ?_)|refine Ay rfl rfl ?_)<;>(first|(refine Az rfl rfl ?_;refine AL rfl ?_)|refine Ay rfl rfl ?_)<;>(first|(refine Az rfl rfl ?_;refine CK rfl rfl ?_)|refine Ay rfl rfl ?_))
      refine Ay rfl rfl ?_;refine Ay rfl rfl ?_
      ((first|(refine Az rfl rfl ?_;(first|refine Cw rfl ?_|refine Cx rfl ?_|refine Em rfl ?_))|refine Ay rfl rfl ?_)<;>refine ai ?_)
      refine ab ?_;refine ad ?_;refine W8 rfl rfl ⟨?_,j.trans' d⟩;rw[BU (λh=>s (h.2.2.2.2.2 k e he).1)]
    intro H y d;replace x:=x.ext d
    (refine bi ?_<;>refine ac ?_<;>(first|(refine Az rfl rfl ?_;refine Ar rfl ?_)|refine Ay rfl rfl ?_)<;>(first|(refine Az rfl rfl ?_;refine AJ rfl ?_)|refine Ay rfl rfl ?_)<;>(first|(refine Az rfl rfl ?_;refine AL rfl ?_)|refine Ay rfl rfl ?_)<;>(first|(refine Az rfl rfl ?_;refine AJ rfl ?_)|refine Ay rfl rfl ?_)<;>(first|(refine Az rfl rfl ?_;refine AL rfl ?_)|refine Ay rfl rfl ?_)<;>(first|(refine Az rfl rfl ?_;refine CK rfl rfl ?_)|refine Ay rfl rfl ?_))
    refine Az rfl rfl ?_;refine FQ rfl rfl (by simp[Value.cells];rfl) rfl λI l=>?_;have m:Ext w I:=j.trans' (d.trans' l.ext);refine Az rfl rfl ?_;have z:V I (.slice (some ⟨H.heap.size,0,none⟩) 1 1) [(⟨e.var,e.val⟩:Fct)] :=
      .of_slice ⟨_,1,[.int .i64 e.var,.int .i64 e.val],rfl,V2 _,by omega,.single ⟨rfl,hr1,hr2⟩,λ_=>⟨_,_,rfl,l.blk.lt,l.blk.cellsAt⟩⟩
    refine Ej rfl (Zy (B.ext m) z) ?_ ?_
    case refine_2 =>
      intro P s n
      ((first|(refine Az rfl rfl ?_;(first|refine Cw rfl ?_|refine Cx rfl ?_|refine Em rfl ?_))|refine Ay rfl rfl ?_)<;>refine ai ?_)
      refine ab ?_;refine ad ?_;refine W8 rfl rfl ⟨?_,m.trans' n⟩;rw[BU (λh=>s (GW.2 (h.2.2.2.2.2 k e he).2))]
    intro P A n
    ((first|(refine Az rfl rfl ?_;(first|refine Cw rfl ?_|refine Cx rfl ?_|refine Em rfl ?_))|refine Ay rfl rfl ?_)<;>refine ai ?_)
    refine ab ?_;exact⟨(),Ad,m.trans' n,DT hh λU f=>by
      rw[he]at f;injection f with f;subst f;exact⟨y,GW.1 A⟩⟩
  rintro _ N ⟨c,hh⟩;refine ab ?_;refine ad ?_;refine W8 rfl rfl ⟨?_,c⟩;rw[Dq ⟨by omega,by omega,by omega,u,t,λi e he=>hh i (BT he) e he⟩]
theorem bf{G H:Prop}(g:H)(h:Wr0 H->G:=by intro x;refine af ?_;refine AO rfl ?_;exact x.o):G:=h ⟨g⟩
theorem aW{G H:Prop}(g:H)(h:Wr0 H->G:=by intro x;refine ab ?_;refine Eu rfl rfl ?_;refine AL rfl ?_;refine aq ?_;exact x.o):G:=h ⟨g⟩
theorem aQ{G H:Prop}(g:H)(h:Wr0 H->G:=by intro x;refine bi ?_;refine o_z ?_;exact x.o):G:=h ⟨g⟩
theorem Ab9{w:World}{F:Value}{t:Tsk}(J:V w F t) :
    Fn prog 43 [F] w λv w'=>v=.bool (bof (TaskOk t))/\Ext w w':=by
  obtain⟨cs,rfl,a,b,c,d,rfl,hvars,hinit,hgoal,hops⟩:=J;obtain⟨K,cv,rfl⟩:=hvars.form;obtain⟨U,ci,rfl⟩:=hinit.form;obtain⟨W,cg,rfl⟩:=hgoal.form;obtain⟨L,co,rfl⟩:=hops.form;have M:=hvars.len;have N:=hops.len;refine AG func43 rfl ntmps43 ?_;refine ab ?_;refine FC rfl λG H=>?_;have f:=H.blk;have h:Ext w G:=H.ext;refine ae ?_;refine ab ?_
  (refine ab ?_<;>(refine bf ?_<;>(first|refine FL rfl rfl ?_|refine FM rfl rfl ?_|refine Cq rfl rfl (λ_=>?_) λ_=>?_)<;>refine ac ?_<;>(first|(refine Az rfl rfl ?_;refine AJ rfl ?_)|refine Ay rfl rfl ?_)<;>(first|(refine Az rfl rfl ?_;refine AL rfl ?_)|refine Ay rfl rfl ?_)<;>(first|(refine Az rfl rfl ?_;refine AO rfl ?_)|refine Ay rfl rfl ?_)<;>(first|(refine Az rfl rfl ?_;(first|refine FL rfl rfl ?_|refine FM rfl rfl ?_|refine Cq rfl rfl (λ_=>?_) λ_=>?_))|refine Ay rfl rfl ?_)<;>refine ai ?_)<;>refine ab ?_)
  all_goals try (
    refine ad ?_;refine W8 rfl rfl ⟨?_,h⟩;rw[BU (λZ=>by obtain⟨X,h2,_⟩:=Z;omega)])
  refine bf ?_<;>refine bb ?_;refine ab ?_;refine Cj t.vars.length (by omega) (λ_:Unit=>[(1,.pointer (some ⟨w.heap.size,0,none⟩)),(18,.slice K t.vars.length cv)]) (λk _ w'=>w'=G/\∀i,i<k->∀n,t.vars[i]?=some n->1<=n/\n<=64) ()
    ⟨rfl,λi hi=>by omega⟩ A1 (λ_=>⟨rfl,rfl⟩) ⟨rfl,rfl,rfl⟩ ⟨rfl,rfl⟩ ?_ ?_
  . rintro k _ _ hk ⟨rfl,hh⟩;obtain⟨n,hn⟩:=AK hk;obtain⟨O,o2,ce,rfl,_,_,hd1,rfl,_⟩:=(hvars.ext h).elem hn
    (refine aW ?_<;>(refine ac ?_<;>(first|refine EX rfl rfl ?_|refine EY rfl rfl ?_|refine Cp rfl rfl (λ_=>?_) λ_=>?_)<;>refine ac ?_<;>(first|(refine Az rfl rfl ?_;refine Ar rfl ?_)|refine Ay rfl rfl ?_)<;>(first|(refine Az rfl rfl ?_;(first|refine FL rfl rfl ?_|refine FM rfl rfl ?_|refine Cq rfl rfl (λ_=>?_) λ_=>?_))|refine Ay rfl rfl ?_)<;>refine ai ?_)<;>refine ab ?_)
    all_goals try (
      refine ad ?_;refine W8 rfl rfl ⟨?_,h⟩;rw[BU (λZ=>by have:=Z.2.2.1 k n hn;omega)])
    exact⟨(),A1,rfl,DT hh λY r=>by rw[hn]at r;injection r with r;omega⟩
  rintro _ _ ⟨rfl,hdom⟩;refine ab ?_;refine af ?_<;>refine af ?_;refine Ej rfl (AbG (hvars.ext h) (hinit.ext h)) ?_ ?_
  case refine_2 =>
    intro I s e
    (refine bi ?_<;>refine ac ?_<;>(first|(refine Az rfl rfl ?_;refine AJ rfl ?_)|refine Ay rfl rfl ?_)<;>(first|(refine Az rfl rfl ?_;refine AL rfl ?_)|refine Ay rfl rfl ?_)<;>(first|(refine Az rfl rfl ?_;refine AJ rfl ?_)|refine Ay rfl rfl ?_)<;>(first|(refine Az rfl rfl ?_;refine AL rfl ?_)|refine Ay rfl rfl ?_))
    refine Ay rfl rfl ?_
    ((first|(refine Az rfl rfl ?_;(first|refine Cw rfl ?_|refine Cx rfl ?_|refine Em rfl ?_))|refine Ay rfl rfl ?_)<;>refine ai ?_)
    refine ab ?_;refine ad ?_;refine W8 rfl rfl ⟨?_,h.trans' e⟩;rw[BU (λZ=>s Z.2.2.2.1)]
  intro I A e;replace f:=f.ext e;replace e:Ext w I:=h.trans' e
  (refine bi ?_<;>refine ac ?_<;>(first|(refine Az rfl rfl ?_;refine AJ rfl ?_)|refine Ay rfl rfl ?_)<;>(first|(refine Az rfl rfl ?_;refine AL rfl ?_)|refine Ay rfl rfl ?_)<;>(first|(refine Az rfl rfl ?_;refine AJ rfl ?_)|refine Ay rfl rfl ?_)<;>(first|(refine Az rfl rfl ?_;refine AL rfl ?_)|refine Ay rfl rfl ?_))
  refine Az rfl rfl ?_;refine Ej rfl (Zy (hvars.ext e) (hgoal.ext e)) ?_ ?_
  case refine_2 =>
    intro B s j
    ((first|(refine Az rfl rfl ?_;(first|refine Cw rfl ?_|refine Cx rfl ?_|refine Em rfl ?_))|refine Ay rfl rfl ?_)<;>refine ai ?_)
    refine ab ?_;refine ad ?_;refine W8 rfl rfl ⟨?_,e.trans' j⟩;rw[BU (λZ=>s Z.2.2.2.2.1)]
  intro B C j;replace f:=f.ext j;replace j:Ext w B:=e.trans' j
  ((first|(refine Az rfl rfl ?_;(first|refine Cw rfl ?_|refine Cx rfl ?_|refine Em rfl ?_))|refine Ay rfl rfl ?_)<;>refine ai ?_)
  refine ab ?_;refine au ?_;refine Cj t.ops.length (by omega) (λ_:Unit=>[(1,.pointer (some ⟨w.heap.size,0,none⟩)),(46,.slice L t.ops.length co)]) (λk _ w'=>Ext B w'/\∀i,i<k->∀o,t.ops[i]?=some o->OpOk t.vars o) ()
    ⟨V8 _ _,λi hi=>by omega⟩ A1 (λ_=>⟨rfl,rfl⟩) ⟨rfl,rfl,rfl⟩ ⟨rfl,rfl⟩ ?_ ?_
  . rintro k _ D hk ⟨g,hh⟩;obtain⟨o,x⟩:=AK hk;replace f:=f.ext g;have y:=g;replace g:Ext w D:=j.trans' g;obtain⟨O,o2,ce,rfl,_,_,hd1,hRo⟩:=(hops.ext g).elem x;obtain⟨p,q,rfl,hp,hq,hc,hn⟩:=id hRo;obtain⟨P,cp,rfl⟩:=hp.form;obtain⟨Q,cq,rfl⟩:=hq.form;refine ak ?_;refine Dk rfl rfl (by simp[Value.cells,Value.oneCell']) λR l=>?_;have S:=l.blk;replace f:=f.ext l.ext;have z:Ext w R:=g.trans' l.ext;refine o_z ?_;refine ab ?_;refine af ?_<;>refine BE rfl ?_;have E:V D (.agg #[.string o.name,.int .i64 o.cost,.slice P o.pre.length cp,.slice Q o.effs.length cq]) o:=⟨_,rfl,hRo⟩;refine Ej rfl (Abo (hvars.ext z) (E.ext l.ext)) ?_ ?_
    . intro T s u;refine aQ ?_;refine ab ?_;refine⟨(),A1,?_,DT hh λo' m=>by rw[x]at m;injection m with m;exact m▸s⟩;exact y.trans' (l.ext.trans' u)
    . intro T s u;refine aQ ?_;refine ab ?_;refine ad ?_;refine W8 rfl rfl ⟨?_,z.trans' u⟩;rw[BU (λZ=>s (Z.2.2.2.2.2 k o x))]
  rintro _ D ⟨g,hh⟩;refine ab ?_;refine ad ?_;refine W8 rfl rfl ⟨?_,j.trans' g⟩;rw[Dq ⟨by omega,by omega,λi n hn=>hdom i (BT hn) n hn,A,C,λi o x=>hh i (BT x) o x⟩]
def Z1(most:Int):List Int->Int->Int
  |[],n=>n
  |k::r,n=>if most<n*min (max k 0) (most+1)then most+1 else Z1 most r (n*min (max k 0) (most+1))
theorem bm{G H:Prop}(g:H)(h:Wr0 H->G:=by intro x;(first|refine GY rfl ?_|refine Hu rfl rfl ?_);exact x.o):G:=h ⟨g⟩
theorem Ab2{w:World}{d:Value}{vars:List Int}{most:Int}(b:V w d vars)(e:1<=most)(f:most<=1048576) :
    Fn prog 5 [d,.int .i64 most] w λv w'=>v=.int .i64 (Z1 most vars 1)/\Ext w w':=by
  obtain⟨A,ca,rfl⟩:=b.form;have g:=b.len;refine AG func5 rfl ntmps5 ?_;refine ad ?_<;>refine aq ?_<;>refine ac ?_<;>refine az ?_;refine Cj vars.length (by omega) (λn:Int=>[(1,.int .i64 most),(5,.int .i64 n),(8,.slice A vars.length ca)]) (λk n w'=>w'=w/\0<=n/\n<=most/\Z1 most (vars.drop k) n=Z1 most vars 1) 1
    ⟨rfl,by omega,e,rfl⟩ Ad (λ_=>⟨rfl,rfl⟩) ⟨rfl,rfl,rfl⟩ ⟨rfl,rfl⟩ ?_ ?_
  . rintro k n _ hk ⟨rfl,hn0,hn1,hh⟩;obtain⟨x,hx⟩:=AK hk;obtain⟨j,o2,ce,rfl,_,_,hd1,rfl,_⟩:=b.elem hx;have hd:vars.drop k=x::vars.drop (k+1):=by
      rw[C5 hk];congr 1;rw[D1 hk]at hx;exact Q1 hx
    rw[hd]at hh;simp only[Z1]at hh;have a:0<=min (max x 0) (most+1):=(by omega);have h:min (max x 0) (most+1)<=most+1:=(by omega);have c:0<=n*min (max x 0) (most+1):=R6 hn0 a;have i:n*min (max x 0) (most+1)<=1048576*1048577:=Int.le_trans (Int.mul_le_mul_of_nonneg_right (Int.le_trans hn1 f) a) (B4 (by omega) (by omega))
    (refine aW ?_<;>refine aV ?_<;>refine Qa rfl rfl rfl ?_<;>refine ac ?_<;>refine bm ?_<;>refine PZ rfl rfl rfl ?_<;>refine YQ rfl rfl rfl ?_<;>refine aq ?_<;>(refine aV ?_<;>(first|refine FL rfl rfl ?_|refine FM rfl rfl ?_|refine Cq rfl rfl (λ_=>?_) λ_=>?_)<;>refine o_z ?_)<;>refine ab ?_)
    . refine ah ?_<;>refine bm ?_<;>refine aq ?_;refine W8 rfl rfl ⟨?_,V8 _ _⟩;rw[if_pos (by assumption)]at hh;rw[<- hh]
    . rw[if_neg (by assumption)]at hh;exact⟨n*min (max x 0) (most+1),Ad,rfl,c,by omega,hh⟩
  rintro n _ ⟨rfl,_,_,hh⟩;refine ab ?_;refine al ?_;refine W8 rfl rfl ⟨?_,V8 _ _⟩;rw[<- hh,N9];rfl
def SmallOk(t:Tsk):Prop:=t.vars.length<=12/\t.ops.length<=20/\(∀(i:Nat) o,t.ops[i]?=some o->o.effs.length<=8)/\TaskOk t/\Z1 512 t.vars 1<=512
theorem AbJ{w:World}{x:Value}{t:Tsk}(y:V w x t) :
    Fn prog 16 [x] w λv w'=>v=.bool (bof (SmallOk t))/\Ext w w':=by
  have s:=y;obtain⟨cs,rfl,a,b,c,d,rfl,hvars,hinit,hgoal,hops⟩:=y;obtain⟨F,cv,rfl⟩:=hvars.form;obtain⟨G,ci,rfl⟩:=hinit.form;obtain⟨H,cg,rfl⟩:=hgoal.form;obtain⟨B,co,rfl⟩:=hops.form;have C:=hvars.len;have D:=hops.len;refine AG func16 rfl ntmps16 ?_;refine ab ?_;refine FC rfl λu z=>?_;have h:=z.blk;have j:Ext w u:=z.ext;refine ae ?_;refine ab ?_
  (refine ab ?_<;>(refine bf ?_<;>(first|refine FL rfl rfl ?_|refine FM rfl rfl ?_|refine Cq rfl rfl (λ_=>?_) λ_=>?_)<;>refine ac ?_<;>(first|(refine Az rfl rfl ?_;refine AJ rfl ?_)|refine Ay rfl rfl ?_)<;>(first|(refine Az rfl rfl ?_;refine AL rfl ?_)|refine Ay rfl rfl ?_)<;>(first|(refine Az rfl rfl ?_;refine AO rfl ?_)|refine Ay rfl rfl ?_)<;>(first|(refine Az rfl rfl ?_;(first|refine FL rfl rfl ?_|refine FM rfl rfl ?_|refine Cq rfl rfl (λ_=>?_) λ_=>?_))|refine Ay rfl rfl ?_)<;>refine ai ?_)<;>refine ab ?_)
  all_goals try (
    refine ad ?_;refine W8 rfl rfl ⟨?_,j⟩;rw[BU (λN=>by obtain⟨I,h2,_⟩:=N;omega)])
  refine au ?_;refine Cj t.ops.length (by omega) (λ_:Unit=>[(1,.pointer (some ⟨w.heap.size,0,none⟩)),(16,.slice B t.ops.length co)]) (λk _ w'=>Ext u w'/\∀i,i<k->∀o,t.ops[i]?=some o->o.effs.length<=8) ()
    ⟨V8 _ _,λi hi=>by omega⟩ A1 (λ_=>⟨rfl,rfl⟩) ⟨rfl,rfl,rfl⟩ ⟨rfl,rfl⟩ ?_ ?_
  . rintro k _ A hk ⟨f,hh⟩;obtain⟨o,m⟩:=AK hk;obtain⟨J,o2,ce,rfl,_,_,hd1,p,q,rfl,hp,hq,hc,hn⟩:=(hops.ext (j.trans' f)).elem m;obtain⟨K,cp,rfl⟩:=hp.form;obtain⟨L,cq,rfl⟩:=hq.form;refine ak ?_;refine Dk rfl rfl (by simp[Value.cells,Value.oneCell']) λr n=>?_;have E:=n.blk;have e:Ext u r:=f.trans' n.ext;refine o_z ?_;refine ab ?_
    (refine ab ?_<;>(refine bf ?_<;>(first|refine FL rfl rfl ?_|refine FM rfl rfl ?_|refine Cq rfl rfl (λ_=>?_) λ_=>?_)<;>refine o_z ?_)<;>refine ab ?_)
    . refine ad ?_;refine W8 rfl rfl ⟨?_,j.trans' e⟩;rw[BU (λN=>by have:=N.2.2.1 k o m;omega)]
    . exact⟨(),A1,e,DT hh λo' l=>by rw[m]at l;injection l with l;subst l;omega⟩
  rintro _ A ⟨f,hh⟩;replace h:=h.ext f;replace f:Ext w A:=j.trans' f;refine ab ?_;refine BE rfl ?_;refine Ej rfl (Ab9 (s.ext f)) ?_ ?_
  . intro r g e;replace h:=h.ext e;replace e:Ext w r:=f.trans' e
    (refine ac ?_<;>(first|(refine Az rfl rfl ?_;refine AJ rfl ?_)|refine Ay rfl rfl ?_)<;>(first|(refine Az rfl rfl ?_;refine AL rfl ?_)|refine Ay rfl rfl ?_))
    refine Az rfl rfl ?_;refine By rfl (Ab2 (hvars.ext e) (by decide) (by decide)) ?_;rintro _ M ⟨rfl,hE6⟩
    ((first|(refine Az rfl rfl ?_;(first|refine Qb rfl rfl rfl ?_|refine Qc rfl rfl rfl ?_|refine Mt rfl rfl rfl (λ_=>?_) λ_=>?_))|refine Ay rfl rfl ?_)<;>refine bh ?_<;>refine ae ?_)
    all_goals
      refine ab ?_;refine W8 rfl rfl ⟨?_,e.trans' hE6⟩
    . rw[Dq ⟨by omega,by omega,λi o m=>hh i (BT m) o m,g,by assumption⟩]
    . rw[BU (λN=>absurd N.2.2.2.2 (by assumption))]
  . intro r g e
    (refine ac ?_<;>(first|(refine Az rfl rfl ?_;refine AJ rfl ?_)|refine Ay rfl rfl ?_)<;>(first|(refine Az rfl rfl ?_;refine AL rfl ?_)|refine Ay rfl rfl ?_))
    refine Ay rfl rfl ?_
    ((first|(refine Az rfl rfl ?_;(first|refine Qb rfl rfl rfl ?_|refine Qc rfl rfl rfl ?_|refine Mt rfl rfl rfl (λ_=>?_) λ_=>?_))|refine Ay rfl rfl ?_)<;>refine bh ?_<;>refine ae ?_)
    refine ab ?_;refine W8 rfl rfl ⟨?_,f.trans' e⟩;rw[BU (λN=>g N.2.2.2.1)]
end
section
open Go Go.RowKit
attribute [local irreducible] ewp owp hwp hwq hws Ev Evg Fn W6 X7 X4 X1
def ZT(o:Opr):List (List Fct):=o.pre::o.effs.map (·.cond)
def conds(t:Tsk):List (List Fct):=t.goal::t.ops.flatMap ZT
theorem Pu{α β:Type}(f:α->List β){l:List α}{k:Nat}{x:α}(a:l[k]?=some x):(l.take (k+1)).flatMap f=(l.take k).flatMap f++f x:=by
  rw[M2,a];simp
theorem UY{α β:Type}(f:α->β){l:List α}{k:Nat}{x:α}(a:l[k]?=some x):(l.take (k+1)).map f=(l.take k).map f++[f x]:=by
  rw[M2,a];simp
theorem Wu{t:Tsk}(c:∀(i:Nat) o,t.ops[i]?=some o->o.effs.length<=64)(k:Nat):((t.ops.take k).flatMap ZT).length<=k*65:=by
  induction k with
  |zero=>simp
  |succ k b =>
    cases a:t.ops[k]? with
    |none =>
      have hl:=C9.1 a;rw[E5 hl]at b;rw[E5 (by omega)];omega
    |some o =>
      rw[Pu ZT a,K0];have:=c k o a;simp only[ZT,M8,R1]at *
      omega
theorem Aam{w:World}{tv:Value}{t:Tsk}(ht:V w tv t)(hn:t.ops.length<=4096)(hm:∀(i:Nat) o,t.ops[i]?=some o->o.effs.length<=64) :
    Fn prog 51 [tv] w λv w'=>V w' v (conds t)/\Ext w w':=by
  obtain⟨cs,rfl,a,b,c,d,rfl,hvars,hinit,hgoal,hops⟩:=ht;obtain⟨Av,cv,rfl⟩:=hvars.form;obtain⟨Ai,ci,rfl⟩:=hinit.form;obtain⟨Ag,cg,rfl⟩:=hgoal.form;obtain⟨Ao,co,rfl⟩:=hops.form;have hF:∀{w'},Ext w w'->∀k,All w k->k<w'.heap.size:=λhE k hk=>K1 hk hE.size;refine AG func51 rfl ntmps51 ?_;refine ab ?_;refine FC rfl λw1 hN=>?_;have hb1:=hN.blk;have hE1:Ext w w1:=hN.ext;refine ae ?_;refine ab ?_;refine af ?_;refine FQ rfl rfl (by simp[Value.cells]) rfl λw2 hN2=>?_;replace hb1:=hb1.ext hN2.ext;have hE2:Ext w w2:=hE1.trans' hN2.ext;have hown:Own w2 w.heap.size (All w) 23 (.slice (some ⟨w1.heap.size,0,none⟩) 1 1) [t.goal] :=
    (Own.made hN2 (xs:=[t.goal]) (.single (Vb.agree hgoal (hE2.agree λ_ h=>h))) rfl (λh=>by have:w1.heap.size<w.heap.size:=h;have:=hE1.size;omega) (by simp)).lower hE1.size
  refine ae ?_;refine ab ?_;refine au ?_;refine Cj t.ops.length (by omega) (λv:Value=>[(1,.pointer (some ⟨w.heap.size,0,none⟩)),(3,v),(12,.slice Ao t.ops.length co)]) (λk v w'=>Ext w w'/\Blk w' w.heap.size 26 [.slice Av t.vars.length cv,.slice Ai t.init.length ci,.slice Ag t.goal.length cg,.slice Ao t.ops.length co]/\Own w' w.heap.size (All w) 23 v (t.goal::(t.ops.take k).flatMap ZT)) _
    ⟨hE2,hb1,hown⟩ Ad (λ_=>⟨rfl,rfl⟩) ⟨rfl,rfl,rfl⟩ ⟨rfl,rfl⟩ ?_ ?_
  . rintro k v w3 hk ⟨hE3,hb1,hown⟩;have hlk:=Wu hm k;obtain⟨o,ho⟩:=AK hk;obtain⟨b2,o2,ce,rfl,_,_,hd1,p,q,rfl,hp,hq,hc,hnm⟩:=Vb.elem (Vb.agree hops (hE3.agree λ_ h=>h)) ho;obtain⟨Ap,cp,rfl⟩:=hp.form;obtain⟨Aq,cq,rfl⟩:=hq.form;have hql:=hm k o ho;refine ak ?_;refine Dk rfl rfl (by simp[Value.cells,Value.oneCell']) λw4 hN4=>?_;have hb2:=hN4.blk;replace hb1:=hb1.ext hN4.ext;have hE4:Ext w w4:=hE3.trans' hN4.ext;replace hown:=hown.ext hN4.ext (hF hE3);replace hp:=hp.agree (hN4.ext.agree (hF hE3));replace hq:=hq.agree (hN4.ext.agree (hF hE3));refine o_z ?_;refine ab ?_;refine ac ?_<;>refine af ?_;refine Hw rfl rfl rfl hown (hF hE4) hE4.size hp (by simp only[M8,K0,R1,N8];omega) (by simp only[M8,K0,R1,N8];omega) ⟨rfl,rfl⟩ λv' w5 hown5 hK=>?_;replace hb1:=hK.blk hb1 (hown.blk_ne hb1 (by decide));replace hb2:=hK.blk hb2 (hown.blk_ne hb2 (by decide));have hB5:Below w.heap.size w4 w5:=hown.fits (V2 _) hE4.size hK;have hE5:Ext w w5:=hE4.trans hB5;replace hq:=hq.below hB5;refine ae ?_;refine ab ?_;refine au ?_;refine Cj o.effs.length (by omega) (λv:Value=>[(1,.pointer (some ⟨w.heap.size,0,none⟩)),(3,v),(12,.slice (some ⟨b2,o2,none⟩) t.ops.length co),(13,.int .i64 (t.ops.length:Int)),(14,.int .i64 (k:Int)),(24,.slice Aq o.effs.length cq)]) (λj v w'=>Ext w w'/\Blk w' w.heap.size 26 [.slice Av t.vars.length cv,.slice Ai t.init.length ci,.slice Ag t.goal.length cg,.slice (some ⟨b2,o2,none⟩) t.ops.length co]/\Vb w' (All w) (.slice Aq o.effs.length cq) o.effs/\Own w' w.heap.size (All w) 23 v ((t.goal::(t.ops.take k).flatMap ZT)++o.pre::(o.effs.take j).map (·.cond))) _
      ⟨hE5,hb1,hq,by simpa using hown5⟩ D3 (λ_=>⟨rfl,rfl⟩) ⟨rfl,rfl,rfl⟩ ⟨rfl,rfl⟩ ?_ ?_
    . rintro j v6 w6 hj ⟨hE6,hb1,hq,hown⟩;obtain⟨e,he⟩:=AK hj;obtain⟨b3,o3,ce,rfl,_,_,hd1,cv',rfl,hcond,hr1,hr2⟩:=hq.elem he;obtain⟨Ac,cc,rfl⟩:=hcond.form;refine ak ?_;refine Dk rfl rfl (by simp[Value.cells,Value.oneCell']) λw7 hN7=>?_;have hb2:=hN7.blk;replace hb1:=hb1.ext hN7.ext;have hE7:Ext w w7:=hE6.trans' hN7.ext;replace hown:=hown.ext hN7.ext (hF hE6);replace hcond:=hcond.agree (hN7.ext.agree (hF hE6));replace hq:=hq.agree (hN7.ext.agree (hF hE6));refine o_z ?_;refine ab ?_;refine ac ?_<;>refine af ?_;refine Hw rfl rfl rfl hown (hF hE7) hE7.size hcond (by simp only[M8,K0,R1,N8];omega) (by simp only[M8,K0,R1,N8];omega) ⟨rfl,rfl⟩ λv' w8 hown8 hK=>?_;have hB8:Below w.heap.size w7 w8:=hown.fits (V2 _) hE7.size hK;refine ae ?_;exact⟨v',D3,hE7.trans hB8,hK.blk hb1 (hown.blk_ne hb1 (by decide)),hq.below hB8,by rw[UY _ he];simpa using hown8⟩
    rintro v6 w6 ⟨hE6,hb1,hq,hown⟩;refine ab ?_;exact⟨v6,Ad,hE6,hb1,by rw[Pu ZT ho];simpa[ZT]using hown⟩
  rintro v w3 ⟨hE3,hb1,hown⟩;refine ab ?_;refine al ?_;refine W8 rfl rfl ⟨?_,hE3⟩;rw[P4]at hown;exact hown.vb.mono λk hk=>by
    rcases hk with hk|hk
    . exact hF hE3 k hk
    . exact(hown.lt k hk).2
theorem bP{G H:Prop}(g:H)(h:Wr0 H->G:=by intro x;refine al ?_;refine aV ?_;refine ac ?_;refine Eu rfl rfl ?_;refine AL rfl ?_;refine ab ?_;exact x.o):G:=h ⟨g⟩
theorem Aa1{w:World}{sv:Value}{xs:List (List Fct)}{g:FuncId}[Callable prog g]{caps:List Value}{p:List Fct->Prop}(hs:V w sv xs)
    (l:∀v x w',x∈xs->Ext w w'->V w' v x->Fn prog g ([v]++caps) w' λr h=>r=.bool (bof (p x))/\Ext w' h) :
    Fn prog 111 [sv,.func (.func g) #[] caps.toArray] w λv w'=>((∃k:Nat,v=.int .i64 (k:Int)/\∃x∈xs,p x)\/(v=.int .i64 (-1)/\∀x∈xs,¬p x))/\Ext w w':=by
  obtain⟨A,c,rfl⟩:=hs.form;have hl:=hs.len;refine AG func111 rfl ntmps111 ?_;refine aY ?_;refine Cj xs.length (by omega) (λ_:Unit=>[(0,.slice A xs.length c),(1,.func (.func g) #[] caps.toArray)]) (λk _ w'=>Ext w w'/\∀i,i<k->∀x,xs[i]?=some x->¬p x) ()
    ⟨V8 _ _,λi hi=>by omega⟩ A1 (λ_=>⟨rfl,rfl⟩) ⟨rfl,rfl,rfl⟩ ⟨rfl,rfl⟩ ?_ ?_
  . rintro k _ j hk ⟨d,hh⟩;obtain⟨x,e⟩:=AK hk;obtain⟨b,o,ce,rfl,_,_,hd1,hR⟩:=(hs.ext d).elem e;obtain⟨v,rfl⟩:=List.length_eq_one_iff.1 (Rp.len hR);refine bP ?_;refine Kf rfl rfl rfl (l v x j (H1 e) d hR) ?_;rintro _ m ⟨rfl,hE2⟩;by_cases f:p x
    . rw[Dq f];refine o_z ?_;refine ab ?_;refine al ?_;exact W8 rfl rfl ⟨.inl ⟨k,rfl,x,H1 e,f⟩,d.trans' hE2⟩
    . rw[BU f];refine o_z ?_;refine ab ?_;exact⟨(),A1,d.trans' hE2,DT hh λn a=>by rw[e]at a;injection a with a;exact a▸f⟩
  rintro _ j ⟨d,hh⟩;refine ab ?_;refine ad ?_;refine W8 rfl rfl ⟨.inr ⟨rfl,λx e=>?_⟩,d⟩;obtain⟨i,hi⟩:=H4 e;exact hh i (BT hi) x hi
theorem bn{G H:Prop}(g:H)(h:Wr0 H->G:=by intro x;refine ax ?_;refine ac ?_;refine ab ?_;exact x.o):G:=h ⟨g⟩
theorem bo{G H:Prop}(g:H)(h:Wr0 H->G:=by intro x;(first|refine NS rfl rfl rfl ?_|refine NT rfl rfl rfl ?_);refine ae ?_;exact x.o):G:=h ⟨g⟩
theorem AaH{w:World}{sv:Value}{xs:List (List Fct)}{g:FuncId}[Callable prog g]{caps:List Value}{p:List Fct->Prop}(hs:V w sv xs)
    (b:∀v x w',x∈xs->Ext w w'->V w' v x->Fn prog g ([v]++caps) w' λr a=>r=.bool (bof (p x))/\Ext w' a) :
    Fn prog 82 [sv,.func (.func g) #[] caps.toArray] w λv w'=>v=.bool (bof (∃x∈xs,p x))/\Ext w w':=by
  refine AG func82 rfl ntmps82 ?_;refine bn ?_;refine By rfl (Aa1 hs b) ?_;rintro v c ⟨d,hE⟩;rcases d with⟨k,rfl,d⟩|⟨rfl,d⟩
  . refine bo ?_;refine ab ?_;exact W8 rfl rfl ⟨by rw[Dq d],hE⟩
  . refine bo ?_;refine ab ?_;exact W8 rfl rfl ⟨by rw[BU (λ⟨x,hx,hp⟩=>d x hx hp)],hE⟩
theorem bQ{G H:Prop}(g:H)(h:Wr0 H->G:=by intro x;refine ax ?_;refine AO rfl ?_;(first|refine FL rfl rfl ?_|refine FM rfl rfl ?_);refine aq ?_;exact x.o):G:=h ⟨g⟩
theorem Abv{w:World}{v:Value}{f:List Fct}(hf:V w v f):Fn prog 83 ([v]++[]) w λr w'=>r=.bool (bof (64<f.length))/\Ext w w':=by
  obtain⟨A,c,rfl⟩:=hf.form;refine AG func83 rfl ntmps83 ?_;by_cases a:64<f.length
  . refine bQ ?_;exact W8 rfl rfl ⟨by rw[Dq a],V8 _ _⟩
  . refine bQ ?_;exact W8 rfl rfl ⟨by rw[BU a],V8 _ _⟩
def AaW(t:Tsk):Prop:=64<t.vars.length\/4096<t.ops.length\/(∃(i:Nat) (o:Opr),t.ops[i]?=some o/\64<o.effs.length)\/∃f∈conds t,64<f.length
theorem AbH{w:World}{z:Value}{t:Tsk}(A:V w z t):Fn prog 49 [z] w λv w'=>v=.bool (bof (AaW t))/\Ext w w':=by
  have s:=A;obtain⟨cs,rfl,a,b,c,d,rfl,hvars,hinit,hgoal,hops⟩:=A;obtain⟨I,cv,rfl⟩:=hvars.form;obtain⟨J,ci,rfl⟩:=hinit.form;obtain⟨K,cg,rfl⟩:=hgoal.form;obtain⟨E,co,rfl⟩:=hops.form;have F:=hops.len;refine AG func49 rfl ntmps49 ?_;refine ab ?_;refine FC rfl λu B=>?_;have n:=B.blk;have g:Ext w u:=B.ext;refine ae ?_;refine ab ?_
  (refine ab ?_<;>(refine bf ?_<;>(first|refine FL rfl rfl ?_|refine FM rfl rfl ?_|refine Cq rfl rfl (λ_=>?_) λ_=>?_)<;>refine ac ?_<;>(first|(refine Az rfl rfl ?_;refine AJ rfl ?_)|refine Ay rfl rfl ?_)<;>(first|(refine Az rfl rfl ?_;refine AL rfl ?_)|refine Ay rfl rfl ?_)<;>(first|(refine Az rfl rfl ?_;refine AO rfl ?_)|refine Ay rfl rfl ?_)<;>(first|(refine Az rfl rfl ?_;(first|refine FL rfl rfl ?_|refine FM rfl rfl ?_|refine Cq rfl rfl (λ_=>?_) λ_=>?_))|refine Ay rfl rfl ?_)<;>refine ai ?_)<;>refine ab ?_)
  all_goals try (
    refine ad ?_;refine W8 rfl rfl ⟨?_,g⟩;rw[Dq (by first|exact .inl (by omega)|exact .inr (.inl (by omega)))])
  refine au ?_;refine Cj t.ops.length (by omega) (λ_:Unit=>[(1,.pointer (some ⟨w.heap.size,0,none⟩)),(16,.slice E t.ops.length co)]) (λk _ w'=>Ext u w'/\∀i,i<k->∀o,t.ops[i]?=some o->o.effs.length<=64) ()
    ⟨V8 _ _,λi hi=>by omega⟩ A1 (λ_=>⟨rfl,rfl⟩) ⟨rfl,rfl,rfl⟩ ⟨rfl,rfl⟩ ?_ ?_
  . rintro k _ C hk ⟨e,hh⟩;obtain⟨o,m⟩:=AK hk;obtain⟨L,o2,ce,rfl,_,_,hd1,p,q,rfl,hp,hq,hc,hn⟩:=(hops.ext (g.trans' e)).elem m;obtain⟨M,cp,rfl⟩:=hp.form;obtain⟨N,cq,rfl⟩:=hq.form;refine ak ?_;refine Dk rfl rfl (by simp[Value.cells,Value.oneCell']) λD r=>?_;have G:=r.blk;have j:Ext u D:=e.trans' r.ext;refine o_z ?_;refine ab ?_
    (refine ab ?_<;>(refine bf ?_<;>(first|refine FL rfl rfl ?_|refine FM rfl rfl ?_|refine Cq rfl rfl (λ_=>?_) λ_=>?_)<;>refine o_z ?_)<;>refine ab ?_)
    . refine ad ?_;refine W8 rfl rfl ⟨?_,g.trans' j⟩;rw[Dq (.inr (.inr (.inl ⟨k,o,m,by omega⟩)))]
    . exact⟨(),A1,j,DT hh λo' l=>by rw[m]at l;injection l with l;subst l;omega⟩
  rintro _ C ⟨e,hh⟩;replace n:=n.ext e;replace e:Ext w C:=g.trans' e;have hm:∀(i:Nat) o,t.ops[i]?=some o->o.effs.length<=64:=λi o m=>hh i (BT m) o m;refine ab ?_;refine BE rfl ?_;refine By rfl (Aam (s.ext e) (by omega) hm) ?_;rintro O D ⟨y,j⟩;refine By rfl (AaH (p:=λf=>64<f.length) (caps:=[]) y (λv x w' _ _ H=>Abv H)) ?_;rintro P Q ⟨rfl,hE6⟩;refine ae ?_;refine ab ?_;refine W8 rfl rfl ⟨?_,e.trans' (j.trans' hE6)⟩;congr 1;refine Xd ⟨λh=>.inr (.inr (.inr h)),λh=>?_⟩;rcases h with h|h|⟨i,o,m,h⟩|h
  . omega
  . omega
  . have:=hm i o m;omega
  . exact h
end
section
open Go Go.RowKit
attribute [local irreducible] ewp owp hwp hwq hws Ev Evg Fn W6 X7 X4 X1
def Z3(t:Tsk):Prop:=∀(i:Nat) n,t.vars[i]?=some n->1<=n/\n<=64
def Aah(t:Tsk):Prop:=∀(i:Nat) o,t.ops[i]?=some o->0<=o.cost/\o.cost<=1048576
def Z2(t:Tsk):Prop:=∀(i:Nat) f,(conds t)[i]?=some f->FactsOk t.vars f
def Aak(t:Tsk):Prop:=∀(i:Nat) o,t.ops[i]?=some o->∀(j:Nat) e,o.effs[j]?=some e->Y8 t.vars ⟨e.var,e.val⟩
def Zo(t:Tsk):Prop:=∀(i:Nat) o,t.ops[i]?=some o->Aaj o.name
noncomputable def Y0(t:Tsk):Int :=
  if bof (AaW t)=true then 5 else if bof (Z3 t/\Aah t)=false then 1 else if bof (StateOk t.vars t.init/\Z2 t/\Aak t)=false then 2 else if bof (Zo t)=false then 8 else 0
theorem bc{G H:Prop}(g:H)(h:Wr0 H->G:=by intro x;refine ab ?_;refine Ni rfl ?_;refine aq ?_;exact x.o):G:=h ⟨g⟩
theorem am{G H:Prop}(g:H)(h:Wr0 H->G:=by intro x;refine CK rfl rfl ?_;exact x.o):G:=h ⟨g⟩
theorem Aa6{w:World}{tv:Value}{t:Tsk}(ht:V w tv t):Fn prog 22 [tv] w λv w'=>v=ZI (Y0 t)∧Ext w w':=by
  have ht0:=ht;obtain⟨cs,rfl,a,b,c,d,rfl,hvars,hinit,hgoal,hops⟩:=ht;obtain⟨Av,cv,rfl⟩:=hvars.form;obtain⟨Ai,ci,rfl⟩:=hinit.form;obtain⟨Ag,cg,rfl⟩:=hgoal.form;obtain⟨Ao,co,rfl⟩:=hops.form;have hvl:=hvars.len;have hol:=hops.len;refine AG func22 rfl ntmps22 ?_;refine ab ?_;refine FC rfl λw1 hN=>?_;have hb1:=hN.blk;have hE1:Ext w w1:=hN.ext;refine ae ?_;refine ab ?_;refine BE rfl ?_;refine Ej rfl (AbH (ht0.ext hE1)) ?_ ?_
  case refine_1 =>
    intro w2 hP hE2;refine o_z ?_;refine ab ?_;refine bc ?_;refine W8 rfl rfl ⟨?_,hE1.trans' hE2⟩;rw[Y0,Dq hP];rfl
  intro w2 hlarge hE2;replace hb1:=hb1.ext hE2;replace hE2:Ext w w2:=hE1.trans' hE2;have hm:∀(i:Nat) o,t.ops[i]?=some o->o.effs.length<=64:=λi o ho=>P5 λh=>hlarge (.inr (.inr (.inl ⟨i,o,ho,h⟩)));have hn4:t.ops.length<=4096:=P5 λh=>hlarge (.inr (.inl h));have c1:Y0 t=if bof (Z3 t/\Aah t)=false then 1 else if bof (StateOk t.vars t.init/\Z2 t/\Aak t)=false then 2 else if bof (Zo t)=false then 8 else 0:=(by rw[Y0,BU hlarge];rfl);refine o_z ?_;refine ab ?_;refine au ?_;refine Cj t.vars.length (by omega) (λ_:Unit=>[(1,.pointer (some ⟨w.heap.size,0,none⟩)),(19,.slice Av t.vars.length cv)]) (λk _ w'=>w'=w2/\∀i,i<k->∀n,t.vars[i]?=some n->1<=n/\n<=64) ()
    ⟨rfl,λi hi=>by omega⟩ A1 (λ_=>⟨rfl,rfl⟩) ⟨rfl,rfl,rfl⟩ ⟨rfl,rfl⟩ ?_ ?_
  . rintro k _ _ hk ⟨rfl,hh⟩;obtain⟨n,hn⟩:=AK hk;obtain⟨b2,o2,ce,rfl,_,_,hd1,rfl,_⟩:=(hvars.ext hE2).elem hn
    (refine aW ?_<;>(refine ac ?_<;>(first|refine EX rfl rfl ?_|refine EY rfl rfl ?_|refine Cp rfl rfl (λ_=>?_) λ_=>?_)<;>refine ac ?_<;>(first|(refine Az rfl rfl ?_;refine Ar rfl ?_)|refine Ay rfl rfl ?_)<;>(first|(refine Az rfl rfl ?_;(first|refine FL rfl rfl ?_|refine FM rfl rfl ?_|refine Cq rfl rfl (λ_=>?_) λ_=>?_))|refine Ay rfl rfl ?_)<;>refine ai ?_)<;>refine ab ?_)
    all_goals try (
      refine bc ?_;refine W8 rfl rfl ⟨?_,hE2⟩;rw[c1,BU (λh=>by have:=h.1 k n hn;omega)];rfl)
    exact⟨(),A1,rfl,DT hh λn' hn'=>by rw[hn]at hn';injection hn' with hn';omega⟩
  rintro _ _ ⟨rfl,hdom⟩;replace hdom:Z3 t:=λi n hn=>hdom i (BT hn) n hn;refine ab ?_;refine au ?_;refine Cj t.ops.length (by omega) (λ_:Unit=>[(1,.pointer (some ⟨w.heap.size,0,none⟩)),(34,.slice Ao t.ops.length co)]) (λk _ w'=>Ext w w'/\Blk w' w.heap.size 26 [.slice Av t.vars.length cv,.slice Ai t.init.length ci,.slice Ag t.goal.length cg,.slice Ao t.ops.length co]/\∀i,i<k->∀o,t.ops[i]?=some o->0<=o.cost/\o.cost<=1048576) ()
    ⟨hE2,hb1,λi hi=>by omega⟩ A1 (λ_=>⟨rfl,rfl⟩) ⟨rfl,rfl,rfl⟩ ⟨rfl,rfl⟩ ?_ ?_
  . rintro k _ w4 hk ⟨hE4,hb1,hh⟩;obtain⟨o,ho⟩:=AK hk;obtain⟨b2,o2,ce,rfl,_,_,hd1,p,q,rfl,hp,hq,hc,hn⟩:=(hops.ext hE4).elem ho;obtain⟨Ap,cp,rfl⟩:=hp.form;obtain⟨Aq,cq,rfl⟩:=hq.form;refine ak ?_;refine Dk rfl rfl (by simp[Value.cells,Value.oneCell']) λw5 hN5=>?_;replace hb1:=hb1.ext hN5.ext;have hb2:=hN5.blk;have hE5:Ext w w5:=hE4.trans' hN5.ext;refine o_z ?_;refine ab ?_
    (refine ab ?_<;>(refine af ?_<;>(first|refine EX rfl rfl ?_|refine EY rfl rfl ?_|refine Cp rfl rfl (λ_=>?_) λ_=>?_)<;>refine ac ?_<;>(first|(refine Az rfl rfl ?_;refine AJ rfl ?_)|refine Ay rfl rfl ?_)<;>(first|(refine Az rfl rfl ?_;refine AL rfl ?_)|refine Ay rfl rfl ?_)<;>(first|(refine Az rfl rfl ?_;(first|refine FL rfl rfl ?_|refine FM rfl rfl ?_|refine Cq rfl rfl (λ_=>?_) λ_=>?_))|refine Ay rfl rfl ?_)<;>refine ai ?_)<;>refine ab ?_)
    all_goals try (
      refine bc ?_;refine W8 rfl rfl ⟨?_,hE5⟩;rw[c1,BU (λh=>by have:=h.2 k o ho;omega)];rfl)
    exact⟨(),A1,hE5,hb1,DT hh λo' ho'=>by rw[ho]at ho';injection ho' with ho';subst ho';omega⟩
  rintro _ w3 ⟨hE3,hb1,hcost⟩;replace hcost:Aah t:=λi o ho=>hcost i (BT ho) o ho;have c2:Y0 t=if bof (StateOk t.vars t.init/\Z2 t/\Aak t)=false then 2 else if bof (Zo t)=false then 8 else 0:=(by rw[c1,Dq ⟨hdom,hcost⟩];rfl);refine ab ?_;refine af ?_<;>refine af ?_;refine Ej rfl (Aap (hvars.ext hE3) (hinit.ext hE3)) ?_ ?_
  case refine_2 =>
    intro w4 hP hE4;refine aQ ?_;refine ab ?_;refine bc ?_;refine W8 rfl rfl ⟨?_,hE3.trans' hE4⟩;rw[c2,BU (λh=>hP h.1)];rfl
  intro w4 hst hE4;replace hb1:=hb1.ext hE4;replace hE4:Ext w w4:=hE3.trans' hE4;refine aQ ?_;refine ab ?_;refine BE rfl ?_;refine By rfl (Aam (ht0.ext hE4) hn4 hm) ?_;rintro v5 w5 ⟨hv5,hE5⟩;obtain⟨Ac,cc,rfl⟩:=hv5.form;have hcl:=hv5.len;replace hb1:=hb1.ext hE5;replace hE5:Ext w w5:=hE4.trans' hE5;refine AO rfl ?_<;>refine bb ?_;refine ab ?_;refine Cj (conds t).length (by omega) (λ_:Unit=>[(1,.pointer (some ⟨w.heap.size,0,none⟩)),(58,.slice Ac (conds t).length cc)]) (λk _ w'=>Ext w5 w'/\∀i,i<k->∀f,(conds t)[i]?=some f->FactsOk t.vars f) ()
    ⟨V8 _ _,λi hi=>by omega⟩ A1 (λ_=>⟨rfl,rfl⟩) ⟨rfl,rfl,rfl⟩ ⟨rfl,rfl⟩ ?_ ?_
  . rintro k _ w6 hk ⟨hE6,hh⟩;obtain⟨f,hf⟩:=AK hk;have hb1:=hb1.ext hE6;obtain⟨b2,o2,ce,rfl,_,_,hd1,v,rfl,hR⟩:=(hv5.ext hE6).elem hf;refine aW ?_<;>refine af ?_<;>refine ac ?_<;>refine ab ?_;refine Ej rfl (AaA (hvars.ext (hE5.trans' hE6)) (Vb.of_slice hR)) ?_ ?_
    . intro w7 hP hE7;refine aQ ?_;refine ab ?_;exact⟨(),A1,hE6.trans' hE7,DT hh λf' hf'=>by rw[hf]at hf';injection hf' with hf';exact hf'▸hP⟩
    . intro w7 hP hE7;refine aQ ?_;refine ab ?_;refine bc ?_;refine W8 rfl rfl ⟨?_,hE5.trans' (hE6.trans' hE7)⟩;rw[c2,BU (λh=>hP (h.2.1 k f hf))];rfl
  rintro _ w6 ⟨hE6,hcond⟩;replace hcond:Z2 t:=λi f hf=>hcond i (BT hf) f hf;replace hb1:=hb1.ext hE6;replace hE6:Ext w w6:=hE5.trans' hE6;refine ab ?_;refine au ?_;refine Cj t.ops.length (by omega) (λ_:Unit=>[(1,.pointer (some ⟨w.heap.size,0,none⟩)),(72,.slice Ao t.ops.length co)]) (λk _ w'=>Ext w6 w'/\∀i,i<k->∀o,t.ops[i]?=some o->∀(j:Nat) e,o.effs[j]?=some e->Y8 t.vars ⟨e.var,e.val⟩) ()
    ⟨V8 _ _,λi hi=>by omega⟩ A1 (λ_=>⟨rfl,rfl⟩) ⟨rfl,rfl,rfl⟩ ⟨rfl,rfl⟩ ?_ ?_
  . rintro k _ w7 hk ⟨hE7,hh⟩;obtain⟨o,ho⟩:=AK hk;have hb1:=hb1.ext hE7;obtain⟨b2,o2,ce,rfl,_,_,hd1,p,q,rfl,hp,hq,hc,hn⟩:=(hops.ext (hE6.trans' hE7)).elem ho;obtain⟨Ap,cp,rfl⟩:=hp.form;obtain⟨Aq,cq,rfl⟩:=hq.form;have hql:=hq.len;refine ak ?_;refine Dk rfl rfl (by simp[Value.cells,Value.oneCell']) λw8 hN8=>?_;replace hb1:=hb1.ext hN8.ext;have hb2:=hN8.blk;have hE8:Ext w6 w8:=hE7.trans' hN8.ext;replace hq:=hq.ext hN8.ext;refine o_z ?_;refine ab ?_;refine au ?_;refine Cj o.effs.length (by omega) (λ_:Unit=>[(1,.pointer (some ⟨w.heap.size,0,none⟩)),(72,.slice (some ⟨b2,o2,none⟩) t.ops.length co),(73,.int .i64 (t.ops.length:Int)),(74,.int .i64 (k:Int)),(79,.slice Aq o.effs.length cq)]) (λj _ w'=>Ext w8 w'/\∀i,i<j->∀e,o.effs[i]?=some e->Y8 t.vars ⟨e.var,e.val⟩) ()
      ⟨V8 _ _,λi hi=>by omega⟩ D2 (λ_=>⟨rfl,rfl⟩) ⟨rfl,rfl,rfl⟩ ⟨rfl,rfl⟩ ?_ ?_
    . rintro j _ w9 hj ⟨hE9,hh9⟩;obtain⟨e,he⟩:=AK hj;have hb1:=hb1.ext hE9;obtain⟨b3,o3,ce,rfl,_,_,hd1,cv',rfl,hcn,hr1,hr2⟩:=(hq.ext hE9).elem he;obtain⟨Acn,ccn,rfl⟩:=hcn.form;refine ak ?_;refine Dk rfl rfl (by simp[Value.cells,Value.oneCell']) λw10 hN10=>?_;have hb3:=hN10.blk;replace hb1:=hb1.ext hN10.ext;have hE10:Ext w w10:=hE6.trans' (hE8.trans' (hE9.trans' hN10.ext));refine o_z ?_;refine ab ?_;refine af ?_<;>refine af ?_<;>refine af ?_<;>refine am ?_;refine FQ rfl rfl (by simp[Value.cells];rfl) rfl λw11 hN11=>?_;have hE11:Ext w w11:=hE10.trans' hN11.ext;have hone:V w11 (.slice (some ⟨w10.heap.size,0,none⟩) 1 1) [(⟨e.var,e.val⟩:Fct)]:=Vb.made hN11 (.single ⟨rfl,hr1,hr2⟩) rfl hN11.blk.lt (by decide);refine Ej rfl (AaA (hvars.ext hE11) hone) ?_ ?_
      . intro w12 hP hE12;refine aQ ?_;refine ab ?_;exact⟨(),D2,hE9.trans' (hN10.ext.trans' (hN11.ext.trans' hE12)),DT hh9 λe' he'=>by rw[he]at he';injection he' with he';subst he';exact GW.1 hP⟩
      . intro w12 hP hE12;refine aQ ?_;refine ab ?_;refine bc ?_;refine W8 rfl rfl ⟨?_,hE11.trans' hE12⟩;rw[c2,BU (λh=>hP (GW.2 (h.2.2 k o ho j e he)))];rfl
    rintro _ w9 ⟨hE9,hh9⟩;refine ab ?_;exact⟨(),A1,hE8.trans' hE9,DT hh λo' ho' j e he=>by rw[ho]at ho';injection ho' with ho';subst ho';exact hh9 j (BT he) e he⟩
  rintro _ w7 ⟨hE7,heff⟩;replace heff:Aak t:=λi o ho=>heff i (BT ho) o ho;have c3:Y0 t=if bof (Zo t)=false then 8 else 0:=(by rw[c2,Dq ⟨hst,hcond,heff⟩];rfl);replace hb1:=hb1.ext hE7;replace hE7:Ext w w7:=hE6.trans' hE7;refine ab ?_;refine au ?_;refine Cj t.ops.length (by omega) (λ_:Unit=>[(1,.pointer (some ⟨w.heap.size,0,none⟩)),(99,.slice Ao t.ops.length co)]) (λk _ w'=>Ext w w'/\∀i,i<k->∀o,t.ops[i]?=some o->Aaj o.name) ()
    ⟨hE7,λi hi=>by omega⟩ A1 (λ_=>⟨rfl,rfl⟩) ⟨rfl,rfl,rfl⟩ ⟨rfl,rfl⟩ ?_ ?_
  . rintro k _ w8 hk ⟨hE8,hh⟩;obtain⟨o,ho⟩:=AK hk;obtain⟨b2,o2,ce,rfl,_,_,hd1,p,q,rfl,hp,hq,hc,hn⟩:=(hops.ext hE8).elem ho;obtain⟨Ap,cp,rfl⟩:=hp.form;obtain⟨Aq,cq,rfl⟩:=hq.form;refine ak ?_;refine Dk rfl rfl (by simp[Value.cells,Value.oneCell']) λw9 hN9=>?_;have hb2:=hN9.blk;have hE9:Ext w w9:=hE8.trans' hN9.ext;refine o_z ?_;refine ab ?_;refine af ?_;refine Ej rfl (AbC hn) ?_ ?_
    . intro w10 hP hE10;refine aQ ?_;refine ab ?_;exact⟨(),A1,hE9.trans' hE10,DT hh λo' ho'=>by rw[ho]at ho';injection ho' with ho';exact ho'▸hP⟩
    . intro w10 hP hE10;refine aQ ?_;refine ab ?_;refine bc ?_;refine W8 rfl rfl ⟨?_,hE9.trans' hE10⟩;rw[c3,BU (λh=>hP (h k o ho))];rfl
  rintro _ w8 ⟨hE8,hnames⟩;refine ab ?_;refine ad ?_;refine W8 rfl rfl ⟨?_,hE8⟩;rw[c3,Dq (show Zo t from λi o ho=>hnames i (BT ho) o ho)];rfl
end
section
theorem MA{p:Prop}:bof p=true↔p:=⟨λa=>C6 λhn=>(by rw[BU hn]at a;exact Bool.noConfusion a),Dq⟩
theorem GH{p:Prop}:bof p=false↔¬p:=by
  rw[<- Bool.not_eq_true,MA]
theorem Jk{vars:List Int}{f:List Fct}(c:FactsOk vars f):∀(j i:Nat)(x y:Fct),i<j->f[i]?=some x->f[j]?=some y->x.var<y.var
  |0,i,_,_,hij,_,_=>by omega
  |j+1,i,x,y,hij,hx,hy=>by
    by_cases he:i=j
    . subst he;exact c.2 i x y hx hy
    . obtain⟨z,hz⟩:=AK (l:=f) (k:=j) (by have:=BT hy;omega);have a:=Jk c j i x z (by omega) hx hz;have b:=c.2 j z y hz hy;omega
theorem Oe{vars:List Int}{f:List Fct}(c:FactsOk vars f):∀(i:Nat)(x:Fct),f[i]?=some x->(i:Int)<=x.var
  |0,x,hx=>(c.1 0 x hx).1
  |i+1,x,hx=>by
    obtain⟨z,hz⟩:=AK (l:=f) (k:=i) (by have:=BT hx;omega);have a:=Oe c i z hz;have b:=c.2 i z x hz hx;omega
theorem Fs{vars:List Int}{f:List Fct}(c:FactsOk vars f):f.length<=vars.length:=by
  rcases K4 f.length with h0|h0
  . omega
  . obtain⟨x,hx⟩:=AK (l:=f) (k:=f.length-1) (by omega);have a:=Oe c _ x hx;obtain⟨b,h3,y,hy,_⟩:=c.1 _ x hx;have:=BT hy;omega
theorem Kl{t:Tsk}{f:List Fct}:f∈conds t↔f=t.goal∨∃(i:Nat) (o:Opr),t.ops[i]?=some o∧(f=o.pre∨∃(j:Nat) (e:Eff),o.effs[j]?=some e∧f=e.cond):=by
  unfold conds ZT;rw[S0,P2];constructor
  . rintro(h|⟨o,ho,hf⟩)
    . exact .inl h
    . obtain⟨i,hi⟩:=H4 ho;refine .inr ⟨i,o,hi,?_⟩;rcases S0.1 hf with h|h
      . exact .inl h
      . obtain⟨e,he,rfl⟩:=U9.1 h;obtain⟨j,hj⟩:=H4 he;exact .inr ⟨j,e,hj,rfl⟩
  . rintro(h|⟨i,o,ho,h⟩)
    . exact .inl h
    . refine .inr ⟨o,H1 ho,?_⟩;rcases h with rfl|⟨j,e,he,rfl⟩
      . exact K6
      . exact H0 _ (U9.2 ⟨e,H1 he,rfl⟩)
theorem Ei{t:Tsk}:Y0 t=0↔TaskOk t:=by
  unfold Y0;constructor
  . intro h;by_cases c:AaW t
    . rw[if_pos (MA.2 c)]at h;cases h
    rw[if_neg (λb=>c (MA.1 b))]at h;by_cases g:Z3 t/\Aah t
    case neg=>rw[if_pos (GH.2 g)]at h;cases h
    rw[if_neg (λb=>GH.1 b g)]at h;by_cases d:StateOk t.vars t.init/\Z2 t/\Aak t
    case neg=>rw[if_pos (GH.2 d)]at h;cases h
    rw[if_neg (λb=>GH.1 b d)]at h;by_cases k:Zo t
    case neg=>rw[if_pos (GH.2 k)]at h;cases h
    have hc:∀f∈conds t,FactsOk t.vars f:=λf hf=>by
      obtain⟨i,hi⟩:=H4 hf;exact d.2.1 i f hi
    have hl:t.vars.length<=64/\t.ops.length<=4096/\(∀(i:Nat)(o:Opr),t.ops[i]?=some o->o.effs.length<=64):=by
      unfold AaW at c;refine⟨P5 λh=>c (.inl h),P5 λh=>c (.inr (.inl h)),λi o a=>P5 λh=>c (.inr (.inr (.inl ⟨i,o,a,h⟩)))⟩
    exact⟨hl.1,hl.2.1,g.1,d.1,hc _ (Kl.2 (.inl rfl)),λi o a=>⟨(g.2 i o a).1,(g.2 i o a).2,hl.2.2 i o a,k i o a,hc _ (Kl.2 (.inr ⟨i,o,a,.inl rfl⟩)),λj e he=>⟨hc _ (Kl.2 (.inr ⟨i,o,a,.inr ⟨j,e,he,rfl⟩⟩)),d.2.2 i o a j e he⟩⟩⟩
  . rintro⟨c,g,d,k,h5,h6⟩;have hc:∀f∈conds t,FactsOk t.vars f:=λf hf=>by
      rcases Kl.1 hf with rfl|⟨i,o,a,rfl|⟨j,e,he,rfl⟩⟩
      . exact h5
      . exact(h6 i o a).2.2.2.2.1
      . exact((h6 i o a).2.2.2.2.2 j e he).1
    have l:¬AaW t:=by
      rintro(h|h|⟨i,o,a,h⟩|⟨f,hf,h⟩)
      . omega
      . omega
      . have:=(h6 i o a).2.2.1;omega
      . have:=Fs (hc f hf);omega
    have m:Z3 t/\Aah t:=⟨d,λi o a=>⟨(h6 i o a).1,(h6 i o a).2.1⟩⟩;have n:StateOk t.vars t.init/\Z2 t/\Aak t:=⟨k,λi f hf=>hc f (H1 hf),λi o a j e he=>((h6 i o a).2.2.2.2.2 j e he).2⟩;have p:Zo t:=λi o a=>(h6 i o a).2.2.2.1;rw[if_neg (λb=>l (MA.1 b)),if_neg (λb=>GH.1 b m),if_neg (λb=>GH.1 b n),if_neg (λb=>GH.1 b p)]
theorem TaskOk.vars{t:Tsk}(a:TaskOk t):Z3 t:=a.2.2.1
end
section
open Go Go.RowKit
attribute [local irreducible] ewp owp hwp hwq hws Ev Evg Fn W6 X7 X4 X1
section
variable {w:World}{A:Nat → Prop}(hA:∀ k, A k → k < w.heap.size){v0 v1:Value}
include hA
omit hA in
def GD(f:List Fct)(s:List Int):Option Bool:=some (holdsB f s)
theorem JK{a:List Fct}(c:Vb w A v0 a){b:List Int}(d:Vb w A v1 b){r:Bool}(hm:GD a b=some r):Fn prog 21 [v0,v1] w λv w'=>Ext w w'/\Vb w' (upA A w w') v r:=by
  obtain rfl:=sm hm;refine(AbD (c.mono hA) (d.mono hA)).mono λv w' e=>⟨e.2,?_⟩;rw[e.1,Jf];exact vBool
omit hA in
def DJ(f:List Fct)(s:List Int):Option Bool:=some (holdsB f s)
theorem FX{a:List Fct}(c:Vb w A v0 a){b:List Int}(d:Vb w A v1 b){r:Bool}(hm:DJ a b=some r):Fn prog 28 [v0,v1] w λv w'=>Ext w w'/\Vb w' (upA A w w') v r:=by
  obtain rfl:=sm hm;refine(AbI (c.mono hA) (d.mono hA)).mono λv w' e=>⟨e.2,?_⟩;rw[e.1,Jf];exact vBool
omit hA in
noncomputable def IX(x:List Int)(y:List Int):Option Bool:=some (bof (StateOk x y))
theorem PV{a:List Int}(c:Vb w A v0 a){b:List Int}(d:Vb w A v1 b){r:Bool}(hm:IX a b=some r):Fn prog 50 [v0,v1] w λv w'=>Ext w w'/\Vb w' (upA A w w') v r:=by
  obtain rfl:=sm hm;refine(Aap (c.mono hA) (d.mono hA)).mono λv w' e=>⟨e.2,?_⟩;rw[e.1];exact vBool
omit hA in
noncomputable def EJ(x:List Int)(y:List Fct):Option Bool:=some (bof (FactsOk x y))
theorem HZ{a:List Int}(c:Vb w A v0 a){b:List Fct}(d:Vb w A v1 b){r:Bool}(hm:EJ a b=some r):Fn prog 52 [v0,v1] w λv w'=>Ext w w'/\Vb w' (upA A w w') v r:=by
  obtain rfl:=sm hm;refine(AaA (c.mono hA) (d.mono hA)).mono λv w' e=>⟨e.2,?_⟩;rw[e.1];exact vBool
omit hA in
noncomputable def JL(t:Tsk):Option Bool:=some (bof (SmallOk t))
theorem QC{a:Tsk}(b:Vb w A v0 a){r:Bool}(hm:JL a=some r):Fn prog 16 [v0] w λv w'=>Ext w w'/\Vb w' (upA A w w') v r:=by
  obtain rfl:=sm hm;refine(AbJ (b.mono hA)).mono λv w' c=>⟨c.2,?_⟩;rw[c.1];exact vBool
end
noncomputable def CE(t:Tsk):Option Err:=some ⟨Y0 t⟩
theorem Of(t:Tsk):W1 (Y0 t):=by unfold Y0;(repeat' split)<;>decide
theorem FY{w:World}{A:Nat->Prop}(hA:∀k,A k->k<w.heap.size){v0:Value}{a:Tsk}(b:Vb w A v0 a){r:Err}(hm:CE a=some r):Fn prog 22 [v0] w λv w'=>Ext w w'/\Vb w' (upA A w w') v r:=by
  obtain rfl:=sm hm;refine(Aa6 (b.mono hA)).mono λv w' c=>⟨c.2,?_⟩;rw[c.1];exact vErr (Of _)
def Hk(x:Err):Option Int:=some x.n
theorem bd{G H:Prop}(g:H)(h:Wr0 H->G:=by intro x;refine ac ?_;refine AZ rfl rfl ?_;refine AZ rfl rfl ?_;exact x.o):G:=h ⟨g⟩
theorem Lh{w:World}{A:Nat->Prop}(hA:∀k,A k->k<w.heap.size){a:Err}(b:W1 a.n){r:Int}(hm:Hk a=some r):Fn prog 9 [ZI a.n] w λv w'=>Ext w w'/\Vb w' (upA A w w') v r:=by
  obtain rfl:=sm hm;refine AG func9 rfl ntmps9 ?_;by_cases d:a.n=0
  . rw[d,IO];refine ax ?_<;>(first|refine Xe rfl rfl ?_|refine Xf rfl rfl ?_)<;>refine o_z ?_<;>refine ad ?_;exact W8 rfl rfl ⟨V8 _ _,vInt (by decide)⟩
  . rw[JJ d];have c:-9223372036854775808<=a.n/\a.n<=9223372036854775807:=b;refine ax ?_<;>(first|refine Xe rfl rfl ?_|refine Xf rfl rfl ?_)<;>refine o_z ?_<;>refine ah ?_<;>refine YN rfl rfl ?_<;>refine bd ?_<;>refine aS ?_<;>refine bb ?_<;>refine al ?_;exact W8 rfl rfl ⟨V8 _ _,vInt b⟩
def CM(xs:List Int):Option (List Int):=if xs.length*8<=140737488355328/\xs.length<=9223372036854775807 then some xs else none
theorem aw{G H:Prop}(g:H)(h:Wr0 H->G:=by intro x;refine ax ?_;refine IV rfl ?_;refine o_z ?_;exact x.o):G:=h ⟨g⟩
theorem Fb{w:World}{A:Nat->Prop}(hA:∀k,A k->k<w.heap.size){v0:Value}{b:List Int}(a:Vb w A v0 b){r:List Int}(hm:CM b=some r) :
    Fn prog 45 [v0] w λv w'=>Ext w w'/\RowR w w' (upA A w w') 3 v r:=by
  obtain⟨⟨hl,a0⟩,rfl⟩:=FV hm;obtain⟨O,hB,b0⟩:=enter hA;replace a:=a.mono b0;obtain⟨f,c,rfl⟩:=a.form;refine AG func45 rfl ntmps45 ?_;cases f with
  |none =>
    have h:b=[]:=by
      cases b with
      |nil=>rfl
      |cons x xs=>obtain⟨_,_,_,t,_⟩:=a.elem (k:=0) (x:=x) rfl;cases t
    subst h;refine aw ?_<;>refine ad ?_;exact W8 rfl rfl ⟨V8 _ _,RowR.nil⟩
  |some l =>
    refine aw ?_<;>refine ab ?_;refine CW 2 O (xs:=([]:List Int)) rfl rfl rfl trivial λg m n d i=>?_;replace hB:=hB.st d (λt=>t) (λt=>t);replace a:=a.st d (λt=>t);refine ac ?_;refine DH rfl i a.rd rfl rfl (by simpa using hl) (by simpa using a0) λo p q s j e=>?_;replace hB:=hB.st j (by decide) (by decide);rw[Q4]at e ⊢;refine ae ?_;refine ab ?_;exact W8 rfl rfl ⟨hB.ext,e.out hB (by decide)⟩
end
section
open Go Go.RowKit
attribute [local irreducible] ewp owp hwp hwq hws Ev Evg Fn W6 X7 X4 X1
attribute [local irreducible] hwx YW
def EV(xs:List U64):Option (List U64):=if xs.length*8<=140737488355328/\xs.length<=9223372036854775807 then some xs else none
theorem Ih{w:World}{A:Nat->Prop}(hA:∀k,A k->k<w.heap.size){d:Value}{b:List U64}(a:Vb w A d b){r:List U64}(hm:EV b=some r) :
    Fn prog 100 [d] w λv w'=>Ext w w'/\RowR w w' (upA A w w') 203 v r:=by
  obtain⟨⟨hl,a0⟩,rfl⟩:=FV hm;obtain⟨O,hB,b0⟩:=enter hA;replace a:=a.mono b0;obtain⟨h,c,rfl⟩:=a.form;refine AG func100 rfl ntmps100 ?_;cases h with
  |none =>
    have i:b=[]:=by
      cases b with
      |nil=>rfl
      |cons x xs=>obtain⟨_,_,_,u,_⟩:=a.elem (k:=0) (x:=x) rfl;cases u
    subst i;refine aw ?_<;>refine ad ?_;exact W8 rfl rfl ⟨V8 _ _,RowR.nil⟩
  |some m =>
    refine aw ?_<;>refine ab ?_;refine CW 2 O (xs:=([]:List U64)) rfl rfl rfl trivial λg n o e j=>?_;replace hB:=hB.st e (λu=>u) (λu=>u);replace a:=a.st e (λu=>u);refine ac ?_;refine DH rfl j a.rd rfl rfl (by simpa using hl) (by simpa using a0) λp q s t l f=>?_;replace hB:=hB.st l (by decide) (by decide);rw[Q4]at f ⊢;refine ae ?_;refine ab ?_;exact W8 rfl rfl ⟨hB.ext,f.out hB (by decide)⟩
structure PFd where
  word:Int
  bit:Int
  width:Int
  size:Int
instance:Rp PFd where
  isAgg:=true
  size:=4
  R w F cs x:=cs=[.int .i64 x.word,.int .i64 x.bit,.int .i64 x.width,.int .i64 x.size]/\W1 x.word/\W1 x.bit/\W1 x.width/\W1 x.size
  len:=by rintro w F cs x ⟨rfl,h0,h1,h2,h3⟩;rfl
  one:=by rintro w F cs x ⟨rfl,h0,h1,h2,h3⟩ u hu;simp at hu;rcases hu with rfl|rfl|rfl|rfl<;>first|rfl|exact Vb.one rfl (by assumption)
  agree:=by rintro w w' F cs x ⟨rfl,h0,h1,h2,h3⟩ ha;exact⟨rfl,h0,h1,h2,h3⟩
  mono:=by rintro w F G cs x ⟨rfl,h0,h1,h2,h3⟩ ha;exact⟨rfl,h0,h1,h2,h3⟩
structure Pkr where
  fields:List PFd
  words:Int
instance:Ow Pkr where
  R w F d v x:=∃(g:Nat) (L:Lab) (a:Value),v=.pointer (some ⟨g,0,none⟩)/\Blk w g 201 [a,.int .i64 x.words]/\d g/\L g=0/\RwM w F (λk=>d k/\L k=1) 205 a x.fields/\W1 x.words
  agree:=by rintro w w' F d v x ⟨g,L,a,rfl,hb,hM,hL,h0,h1⟩ a1 a2;exact⟨g,L,a,rfl,hb.keep (a2 g hM),hM,hL,h0.agree a1 λk hk=>a2 k hk.1,h1⟩
  mono:=by rintro w F d b c v x ⟨g,L,a,rfl,hb,hM,hL,h0,h1⟩ a1 a2 a3;exact⟨g,L,a,rfl,hb,a2 g hM,hL,h0.mono a1 (λk hk=>⟨a2 k hk.1,hk.2⟩) λk hf hm=>a3 k hf hm.1,h1⟩
instance:OwP Pkr:=⟨by rintro w F a v x ⟨g,L,c0,rfl,_⟩;exact⟨g,rfl⟩⟩
theorem Pkr.opn{i:Nat}{w:World}{O:Lab}{p:Nat}{x:Pkr}(e:Ob i w O (.pointer (some ⟨p,0,none⟩)) x)(l0 b:Nat)(hl:l0≠0/\b≠0):∃(c:Lab) (d:Value),St (eT i) w O w c/\(∀k,Fr i w O k->∃q,q∈[l0,b]/\Fr q w c k)/\Lc l0 w c p 201 [d,.int .i64 x.words]/\Rw b w c 205 d x.fields/\W1 x.words:=by
  obtain⟨⟨g,L,d,a,hb,hM,hL,h0,h1⟩,hi⟩:=e;obtain rfl:p=g:=(by injection a with a;injection a with a;injection a);exact⟨part O i L [l0,b],d,Js hi,Iq (by simp),⟨hb,(Gg (j:=0) rfl p ⟨hM,hL⟩).2⟩,h0.rw (DR hi) (Gg (j:=1) rfl) hl.2,h1⟩
theorem Pkr.shut{w:World}{O:Lab}{p:Nat}{x:Pkr}{l0 c:Nat}{g:Value}(hd:¬0∈[l0,c]/\[l0,c].idxOf l0=0/\[l0,c].idxOf c=1)(hb:Lc l0 w O p 201 [g,.int .i64 x.words])(j:Rw c w O 205 g x.fields)(l:W1 x.words):∃f,St (·∈[l0,c]) w O w f/\(∀k,Fr 0 w O k->Fr 0 w f k)/\(∀q,q∈[l0,c]->∀k,Fr q w O k->Fr l0 w f k)/\Ob l0 w f (.pointer (some ⟨p,0,none⟩)) x:=by
  have d:l0≠0:=λe=>hd.1 (by simp[e]);have h:=FG (i:=l0) hd.2.1 (by simp) p ⟨hb.1.lt,hb.2⟩;exact⟨ZS O l0 [l0,c],Ir,CD hd.1,HO,⟨p,λk=>[l0,c].idxOf (O k),g,rfl,hb.1,h.1,h.2,j.m (CD hd.1) (FG hd.2.2 (by simp)) (λk a b=>YY d k a b.1),l⟩,d⟩
noncomputable def Ia(q:List Int):Option ((Option Pkr)×Err) :=
  if 64<(q.length:Int)then(some (none,(⟨5⟩:Err)))else(bnd (rng (ρ:=(Option Pkr)×Err) (λ(r:Nat)(c:Int)(a:Int×Pkr)=>bnd (if c<1 then(some true)else(if 64<c then(some true)else(some false)):Option Bool) λm=>if m=true then(some (.ret (none,(⟨1⟩:Err))))else(bnd (lop (ρ:=Ctl (Int×Pkr) ((Option Pkr)×Err)) (λ(d:Int)=>bnd (AaI 1 d) λn=>if n<c then(bnd (W5 (d+1)) λo=>some (.next o))else(some (.brk d))) 0) λe=>fin e λ(f:Int)=>bnd (bnd (W5 (a.1+f)) λp=>if 64<p then(bnd (W5 (a.2.words+1)) λh=>some (0,(⟨a.2.fields,h⟩:Pkr)))else(some (a.1,a.2)):Option (Int×Pkr)) λb=>bnd (W5 (b.2.words-1)) λi=>bnd (X6 32 b.2.fields [(⟨i,b.1,f,c⟩:PFd)]) λj=>bnd (W5 (b.1+f)) λk=>some (.next (k,(⟨j,b.2.words⟩:Pkr))))) q 0 (0,(⟨([]:List PFd),1⟩:Pkr))) λg=>fin g λ(l:Int×Pkr)=>some ((some l.2),(⟨0⟩:Err)))
theorem Td{w:World}{O:Lab}{vx0:Value}{x0:List Int}(y0:Vb w (Fr 0 w O) vx0 x0)(j0:Nat)(hj0:j0≠0){r:(Option Pkr)×Err}(hm:Ia x0=some r) :
    Fn prog 99 [vx0] w λv w'=>∃O',St nT w O w' O'/\∃v0 v1:Value,v=.tuple #[v0,v1]/\Obo j0 w' O' v0 r.1/\Vb w' (Fr 0 w' O') v1 r.2:=by
 obtain⟨O0,hE,f3⟩:=Ab0 (w:=w) (O:=O);have hB:Bm w O0 w O0:=Bm.refl;replace y0:=y0.mono f3;obtain⟨A2,c3,rfl⟩:=y0.form;refine AG func99 rfl ntmps99 ?_;unfold Ia at hm;refine Aj (Ae (Au rfl (Au rfl (o_z (Aj (Aj (Ae (Ar rfl (AO rfl ?_)))))))));have l5:=Bj y0.len;have r4:=rngNat l5;refine Cq rfl rfl (λc6=>?_) λc6=>?_
 ·replace hm:=ip hm c6;refine o_z (Am rfl (Aj (Ae (Da rfl (Au rfl (Au rfl (o_z (AD ?_))))))));obtain rfl:=sm hm;obtain⟨O',hS',hz,hl⟩:=hE.leave (λ_=>0) rfl hB;exact X3 rfl (AC rfl) (AC rfl) ⟨O',hS',_,_,rfl,rfl,(vErr (by decide))⟩
 replace hm:=im hm c6;refine o_z (Ah rfl (AE (Aj (Ae (CK rfl rfl ?_)))));refine Ea 2 O0 rfl λg7 w8 O9 g3 h3=>?_;refine Au rfl (o_z (Aj (Ae (Au rfl (o_z (Aj (Aj (Ae (Ar rfl (AO rfl ?_))))))))));have m1:=Bj y0.len;have b5:=rngNat m1;refine Ar rfl (o_z ?_);have i3:Rw 3 w8 O9 205 (.slice none 0 0) ([]:List PFd):=Rw.nil 3 (by decide);obtain⟨j3,k3,l3,m3,n3⟩:=Pkr.shut (x:=(⟨([]:List PFd),1⟩:Pkr)) (l0:=2) (by decide) h3 i3 (W3 1);obtain⟨s2,n1,hm⟩:=bs hm;replace hB:=(hB.st g3).st k3;refine Dg (X:=Unit) (x0.length) n1 rfl m1 (λg0 t2=>[(4,(.pointer (some ⟨g7,0,none⟩))),(5,(.int .i64 g0.1)),(15,(.slice A2 x0.length c3))]) (λg0 t2 w'=>∃O':Lab,Bm w O0 w' O'/\Ob 2 w' O' (.pointer (some ⟨g7,0,none⟩)) g0.2/\W1 g0.1) () ⟨j3,hB,n3,(W3 0)⟩ Ad (λ_ _=>rfl) ?_ ?_
 ·rintro j1 p0 g0 t2 c5 o3 z0 ⟨d5,hB,f0,u2⟩ a0 q0 o1;have rk25:=YV z0 m1;refine Aj (Ae ?_);obtain⟨e5,f5,p3,p1,q1,r1,rfl,q3⟩:=(y0.z hB).elem' z0;refine BA (hA:=p1) (hj:=rfl) (hlt:=q1) rfl rfl (AL (hc:=cat0 r1) rfl (Au rfl (o_z (Aj (Aj ?_)))));obtain⟨r3,b0,a0⟩:=bs a0;refine Bc (λl' w'=>∃(s3:Unit) (O':Lab),W4 l' [(4,(.pointer (some ⟨g7,0,none⟩))),(5,(.int .i64 g0.1)),(7,(.int .i64 p0)),(15,(.slice A2 x0.length c3)),(16,(.int .i64 (x0.length:Int))),(17,(.int .i64 (j1:Int))),(26,(.bool r3))]/\Bm w O0 w' O'/\Ob 2 w' O' (.pointer (some ⟨g7,0,none⟩)) g0.2) ?_ ?_
  ·refine Ae (Ar rfl (Cp rfl rfl (λs1=>?_) λs1=>?_))
   ·replace b0:=ip b0 s1;refine Ar rfl (Ay rfl rfl (Ay rfl rfl (AV rfl rfl (o_z ?_))));obtain rfl:=sm b0;exact⟨(),_,D2,hB,f0⟩
   replace b0:=im b0 s1;refine Ar rfl (Az rfl rfl (Ar rfl (Az rfl rfl (Cq rfl rfl (λt1=>?_) λt1=>?_))))
   ·replace b0:=ip b0 t1;refine AS rfl rfl (o_z ?_);obtain rfl:=sm b0;exact⟨(),_,D2,hB,f0⟩
   replace b0:=im b0 t1;refine AS rfl rfl (o_z ?_);obtain rfl:=sm b0;exact⟨(),_,D2,hB,f0⟩
  rintro g5 h5 ⟨s3,t3,u1,hB,f0⟩;refine AQ _ u1 ?_;refine Bx rfl (λw1=>?_) (λw1=>?_)
  ·replace a0:=ip a0 w1;refine Aj (Ae (Da rfl (Au rfl (Au rfl (o_z (AD ?_))))));obtain rfl:=sm a0;obtain rfl:=q0 _ rfl;obtain rfl:=sm (Bp hm);obtain⟨O',hS',hz,hl⟩:=hE.leave (λ_=>0) rfl hB;exact X3 rfl (AC rfl) (AC rfl) ⟨O',hS',_,_,rfl,rfl,(vErr (by decide))⟩
  replace a0:=im' a0 w1;refine AE (Aj (Ae (Au rfl (o_z (Aj ?_)))));obtain⟨a1,x1,a0⟩:=bs a0;refine Bc (aft a1 (λ(o0:Int)(k1:Unit)=>[(4,(.pointer (some ⟨g7,0,none⟩))),(5,(.int .i64 g0.1)),(7,(.int .i64 p0)),(8,(.int .i64 o0)),(15,(.slice A2 x0.length c3)),(16,(.int .i64 (x0.length:Int))),(17,(.int .i64 (j1:Int)))]) (λo0 k1 w'=>∃O':Lab,Bm w O0 w' O'/\Ob 2 w' O' (.pointer (some ⟨g7,0,none⟩)) g0.2/\W1 o0)) ?_ ?_
  ·refine BC (GB (σ:=Int) (X:=Unit) x1 (λ(o0:Int)(k1:Unit)=>[(4,(.pointer (some ⟨g7,0,none⟩))),(5,(.int .i64 g0.1)),(7,(.int .i64 p0)),(8,(.int .i64 o0)),(15,(.slice A2 x0.length c3)),(16,(.int .i64 (x0.length:Int))),(17,(.int .i64 (j1:Int)))]) _ (λo0 k1 w'=>∃O':Lab,Bm w O0 w' O'/\Ob 2 w' O' (.pointer (some ⟨g7,0,none⟩)) g0.2/\W1 o0) _ () ⟨t3,hB,f0,(W3 0)⟩ D2 ?_);rintro o0 k1 i5 u3 ⟨j5,hB,f0,y1⟩ c0 z1 r0;refine Aj (Aj (Ae (Ar rfl ?_)));obtain⟨k5,v2,c0⟩:=bs c0;have m5:=Qu v2;refine Yv (he:=v2) rfl rfl rfl (Ar rfl (Cp rfl rfl (λa2=>?_) λa2=>?_))
   ·replace c0:=ip c0 a2;refine o_z (Am rfl (AE (BC (Ae (Ar rfl ?_)))));obtain⟨n5,w2,c0⟩:=bs c0;have v3:=(Bh w2);refine DM (he:=w2) rfl rfl (Au rfl (o_z ?_));obtain rfl:=sm c0;exact show Exists _ from⟨_,(),rfl,D2,_,hB,f0,v3⟩
   replace c0:=im c0 a2;refine o_z (Ah rfl (Cl ?_));obtain rfl:=sm c0;exact show Exists _ from⟨_,(),r0 _ rfl,D2,_,hB,f0,y1⟩
  rintro o5 p5 ⟨l1,q5,rfl,b2,r5,hB,f0,y1⟩;replace a0:=AW a0;refine AQ _ b2 ?_;refine Aj ?_;obtain⟨s0,d0,a0⟩:=bs a0;refine Bc (λl' w'=>∃(w3:Unit) (O':Lab),W4 l' [(4,(.pointer (some ⟨g7,0,none⟩))),(5,(.int .i64 s0.1)),(7,(.int .i64 p0)),(8,(.int .i64 l1)),(15,(.slice A2 x0.length c3)),(16,(.int .i64 (x0.length:Int))),(17,(.int .i64 (j1:Int)))]/\Bm w O0 w' O'/\Ob 2 w' O' (.pointer (some ⟨g7,0,none⟩)) s0.2/\W1 s0.1) ?_ ?_
  ·refine Aj (Ae (Ar rfl (Ar rfl ?_)));obtain⟨s5,x2,d0⟩:=bs d0;have t5:=(Bh x2);refine DM (he:=x2) rfl rfl (Cq rfl rfl (λc2=>?_) λc2=>?_)
   ·replace d0:=ip d0 c2;refine o_z (Am rfl (Aj (Ae (Ar rfl (Cm rfl ?_)))));obtain⟨u5,x3,d2,y2,h0,i0,y3⟩:=Pkr.opn f0 2 4 (by decide);obtain⟨z3,a4,rfl⟩:=i0.form;refine AJ rfl (AL (hc:=Blk.cell (i:=1) (h0.1) rfl) rfl ?_);obtain⟨e2,b1,d0⟩:=bs d0;have f2:=(Bh b1);refine DM (he:=b1) rfl rfl (Cm rfl (AJ rfl ?_));refine AR h0 rfl rfl rfl (Bg) (allOne) λb4 c1 h0=>?_;refine o_z (Ae (Au rfl (o_z ?_)));replace i0:=i0.st c1;obtain⟨c4,g2,z2,a3,h2⟩:=Pkr.shut (x:=(⟨g0.2.fields,e2⟩:Pkr)) (l0:=2) (by decide) h0 i0 f2;obtain rfl:=sm d0;exact⟨(),_,D2,((hB.st d2).st c1).st g2,h2,(W3 0)⟩
   replace d0:=im d0 c2;refine o_z (Ah rfl (AE ?_));obtain rfl:=sm d0;exact⟨(),_,D2,hB,f0,u2⟩
  rintro d4 e4 ⟨w3,f4,d1,hB,g4,h4⟩;refine AQ _ d1 ?_;refine Aj ?_;obtain⟨e1,i4,i2,b3,e0,k0,j2⟩:=Pkr.opn g4 2 4 (by decide);obtain⟨j4,k4,rfl⟩:=k0.form;refine Ck [(15,[4])] e1 ?_;refine Bl (fuel:=6) [] (Ci (FH 1 13)) rfl (AM rfl rfl (En rfl rfl (Be rfl rfl (Bz (hc:=CH e0 0 rfl) rfl rfl (AM rfl rfl (En rfl rfl (Be rfl rfl (Bz (hc:=CH e0 1 rfl) rfl rfl ?_))))))));obtain⟨t0,f1,a0⟩:=bs a0;have k2:=(Bh f1);refine Yr (he:=f1) rfl rfl rfl rfl (AM rfl rfl (AM rfl rfl (AM rfl rfl (Nj rfl rfl rfl ?_))));refine AP ?_;refine Bl (fuel:=5) [4] [(0,true)] rfl (AM rfl rfl (AP (Bo (i:=14) rfl ?_)));refine CW 5 e1 (xs:=([(⟨t0,s0.1,l1,p0⟩:PFd)]:List PFd)) rfl rfl rfl ⟨(Vb.ofAgg (cs:=[(.int .i64 t0),(.int .i64 s0.1),(.int .i64 l1),(.int .i64 p0)]) (x:=(⟨t0,s0.1,l1,p0⟩:PFd)) rfl ⟨rfl,k2,h4,y1,q3⟩),trivial⟩ λl4 m4 n4 m0 l2=>?_;have hZ:=lZ m0;refine CT [(15,[4])] hZ (Bo (i:=15) rfl ?_);obtain⟨m2,u0,a0⟩:=bs a0;obtain⟨u0,n2,o2⟩:=Bw u0;replace k0:=k0.st m0;refine DH rfl k0 (l2.rd) rfl rfl n2 o2 λo4 p4 q4 s4 w0 n0=>?_;rw[<- u0]at n0 ⊢;have hZ:=w0.lst [4] (λ_ h=>by cases h;decide);refine CT [] hZ ?_;refine Bl (fuel:=1) [] (Ci [16,17]) rfl (En rfl rfl (Be rfl rfl (AP (Bo (i:=18) rfl ?_))));replace e0:=(e0.st m0).st w0;refine AR e0 rfl rfl rfl (Bg) (allOne) λt4 g1 e0=>?_;refine Gn (Dv (Ae (Ar rfl (Ar rfl ?_))));obtain⟨u4,h1,a0⟩:=bs a0;have p2:=(Bh h1);refine DM (he:=h1) rfl rfl (Au rfl (o_z ?_));replace n0:=n0.st g1;obtain⟨v4,q2,d3,e3,r2⟩:=Pkr.shut (x:=(⟨m2,s0.2.words⟩:Pkr)) (l0:=2) (by decide) e0 n0 j2;obtain rfl:=sm a0;exact show Exists _ from⟨_,(),rfl,Ad,_,((((hB.st i2).st m0).st w0).st g1).st q2,r2,p2⟩
 rintro w4 x4 ⟨y4,z4,rfl,i1,a5,hB,f0,u2⟩;replace hm:=AW hm;refine AQ _ i1 ?_;refine Aj (Ae (Ar rfl (Au rfl (Au rfl (o_z (AD ?_))))));obtain rfl:=sm hm;obtain⟨O',hS',hz,hl⟩:=hE.leave (λq=>if q=2 then j0 else 0) rfl hB;exact X3 rfl (AC rfl) (AC rfl) ⟨O',hS',_,_,rfl,(Ob.leave f0 hz (hl 2 (by decide) (by decide)) hj0),(vErr (W3 0))⟩
noncomputable def ER(c:PFd):Option U64 :=
  bnd (Aay (1:U64) c.width) λa=>bnd (Aay (a-(1:U64)) c.bit) λb=>some b
theorem IZ{w:World}{A:Nat->Prop}(hA:∀k,A k->k<w.heap.size){c:Value}{d:PFd}(g:Vb w A c d){r:U64}(hm:ER d=some r) :
    Fn prog 102 [c] w λv w'=>Ext w w'/\Vb w' (upA A w w') v r:=by
 obtain⟨O,hB,g0⟩:=enter hA;obtain⟨l,rfl,rfl,r3,r4,r5,r6⟩:=id g;refine AG func102 rfl ntmps102 ?_;unfold ER at hm;refine Aj (Ae (Ea 2 O rfl λm h n j e=>?_));refine Au rfl (o_z (Aj ?_));refine Ct (·=h) [(0,true),(1,true),(2,true),(3,true),(4,true),(5,true),(6,true),(7,true)] rfl rfl ?_;refine Be rfl rfl (Du (hc:=Blk.cell (i:=2) (e.1) rfl) rfl rfl ?_);obtain⟨f,e0,hm⟩:=bs hm;refine SX (a:=(1:U64)) (he:=e0) rfl rfl rfl rfl (Yz (a:=f) (b:=(1:U64)) rfl rfl rfl rfl (Be rfl rfl (Du (hc:=Blk.cell (i:=1) (e.1) rfl) rfl rfl ?_)));obtain⟨o,f0,hm⟩:=bs hm;refine SX (a:=(f-(1:U64))) (he:=f0) rfl rfl rfl rfl (CY rfl rfl (h_z (AD ?_)));obtain rfl:=sm hm;replace hB:=hB.st j;exact X2 rfl (AC rfl) ⟨hB.ext,vU64⟩
noncomputable def FZ(a:PFd)(e:List U64):Option Int :=
  bnd (atI e a.word) λb=>bnd (ER a) λc=>bnd (Z4 (b&&&c) a.bit) λd=>some d.toInt
theorem Np{w:World}{A:Nat->Prop}(hA:∀k,A k->k<w.heap.size){c:Value}{g:PFd}(h:Vb w A c g){d:Value}{j:List U64}(l:Vb w A d j){r:Int}(hm:FZ g j=some r) :
    Fn prog 101 [c,d] w λv w'=>Ext w w'/\Vb w' (upA A w w') v r:=by
 obtain⟨O,hB,v0⟩:=enter hA;obtain⟨x,rfl,rfl,r4,r5,r6,r7⟩:=id h;obtain⟨y,c9,rfl⟩:=l.form;refine AG func101 rfl ntmps101 ?_;unfold FZ at hm;refine Aj (Ae (Ea 2 O rfl λz l0 e p f=>?_));refine Au rfl (o_z (Aj ?_));refine Ck [] e ?_;refine Bl (fuel:=5) [] (Ci [0,1,2,3,4,5,8,9]) rfl (AM rfl rfl (Be rfl rfl (Bz (hc:=CH f 0 rfl) rfl rfl ?_)));obtain⟨m,n0,hm⟩:=bs hm;obtain⟨q,p0⟩:=Cn n0;replace hB:=hB.st p;obtain⟨z0,a1,q0,c0,d0,e0,f0,rfl⟩:=(l.zs hA hB).elem p0;refine CX (hA:=c0) (hj:=q) (hlt:=e0) rfl rfl rfl (Bz (hc:=JI d0 f0) rfl rfl (ID (hl:=rfl) (hb:=Qs f) rfl rfl (Be rfl rfl (Bz (hc:=CH f 1 rfl) rfl rfl (AP (Bo (i:=6) rfl ?_))))));obtain⟨n,r0,hm⟩:=bs hm;refine BO (O:=e) (IZ (λ_ E=>E) (Vb.mono (F:=Fr 0 l0 e) (h.zs hA hB) Fr.lt) r0) rfl λB C D o s=>?_;obtain rfl:=s.u64;have t:=lZ o;refine CT [] t ?_;refine Bl (fuel:=0) [] (Ci [7,10,11,12]) rfl (Yw (a:=m) (b:=n) rfl rfl rfl rfl ?_);obtain⟨u,u0,hm⟩:=bs hm;refine YA (a:=(m&&&n)) (he:=u0) rfl rfl rfl rfl (YC (a:=u) rfl rfl rfl (CY rfl rfl (AP (Dv (AD ?_)))));obtain rfl:=sm hm;replace hB:=hB.st o;exact X2 rfl (AC rfl) ⟨hB.ext,(vInt (Abm _))⟩
noncomputable def Dx(i:Pkr)(h:List Int):Option ((List U64)×Err) :=
  if(h.length:Int)≠(i.fields.length:Int)then(some (([]:List U64),(⟨2⟩:Err)))else(bnd (mkI 8 ((0:U64):U64) i.words) λj=>bnd (rng (ρ:=(List U64)×Err) (λ(b:Nat)(a:PFd)(c:(List U64))=>bnd (bnd (h[b]?) λk=>if k<0 then(some true)else(bnd (h[b]?) λl=>if a.size<=l then(some true)else(some false)):Option Bool) λm=>if m=true then(some (.ret (([]:List U64),(⟨2⟩:Err))))else(bnd (atI c a.word) λe=>bnd (h[b]?) λf=>bnd (Aay (BitVec.ofInt 64 f) a.bit) λn135=>bnd (atI c a.word) λn=>some (.next (c.set (a.word:Int).toNat (e|||n135))))) i.fields 0 j) λd=>fin d λ(g:(List U64))=>some (g,(⟨0⟩:Err)))
theorem LR{w:World}{O:Lab}{o n:Nat}{e:Pkr}(p:Ob n w O (.pointer (some ⟨o,0,none⟩)) e){s:Value}{t:List Int}(m:Vb w (Fr 0 w O) s t){r:(List U64)×Err}(hm:Dx e t=some r) :
    Fn prog 105 [(.pointer (some ⟨o,0,none⟩)),s] w λv w'=>∃d,St (eT n) w O w' d/\∃N P:Value,Ob n w' d (.pointer (some ⟨o,0,none⟩)) e/\v=.tuple #[N,P]/\Vb w' (Fr 0 w' d) N r.1/\Vb w' (Fr 0 w' d) P r.2:=by
 obtain⟨u,hE,x2,j3⟩:=Y3 (w:=w) (O:=O) p.2;have G:=Ob.leave p x2 j3 (j:=2) (by decide);have c:Bm w u w u:=Bm.refl;replace m:=m.mono x2;obtain⟨Q,c4,rfl⟩:=m.form;refine AG func105 rfl ntmps105 ?_;unfold Dx at hm;refine Aj (Ae (Au rfl (Au rfl (o_z (Aj (Aj (Ae (Ar rfl (IU rfl (o_z (Ah rfl (AE (Aj (Aj ?_))))))))))))));refine Ae (Ar rfl (AO rfl ?_));have l6:=Bj m.len;have r5:=rngNat l6;refine Ar rfl (Cm rfl ?_);obtain⟨O7,a5,S8,k3,h9,j0,y2⟩:=Pkr.opn G 2 3 (by decide);obtain⟨y,q1,rfl⟩:=j0.form;refine AJ rfl (AL (hc:=Blk.cell (i:=0) (h9.1) rfl) rfl (AO rfl ?_));have l3:=Bj j0.len;have b5:=rngNat l3;refine Gm rfl rfl (λH=>?_) λH=>?_
 ·replace hm:=ip hm H;refine o_z (Am rfl (Aj (Ae (Da rfl (Au rfl (Au rfl (o_z (AD ?_))))))));obtain⟨c5,m3,n3,o3,p3⟩:=Pkr.shut (x:=e) (l0:=2) (by decide) h9 j0 y2;obtain rfl:=sm hm;replace c:=(c.st S8).st m3;obtain⟨d,hS',hz,hl⟩:=hE.leave (λq=>if q=2 then n else 0) rfl c;exact X3 rfl (AC rfl) (AC rfl) ⟨d,hS',_,_,(Ob.leave p3 hz (hl 2 (by decide) (by decide)) p.2),rfl,(Vb.mono (Vb.nil _ _) hz),(vErr (by decide))⟩
 replace hm:=im hm H;refine o_z (Ah rfl (AE (Aj (Ae (Ar rfl (Cm rfl (AJ rfl (AL (hc:=Blk.cell (i:=1) (h9.1) rfl) rfl ?_))))))));obtain⟨A,q3,hm⟩:=bs hm;obtain⟨B,r3,s3,t3,u3⟩:=JG q3;refine LL 4 O7 (z0:=((0:U64):U64)) rfl rfl rfl rfl rfl r3 vU64 s3 t3 rfl λC d5 e5 I D=>?_;rw[<- u3]at D ⊢;refine Au rfl (o_z (Aj (Aj (Ae (Ar rfl (Cm rfl (AJ rfl ?_)))))));replace h9:=h9.st I;refine AL (hc:=Blk.cell (i:=0) (h9.1) rfl) rfl (AO rfl ?_);replace j0:=j0.st I;have J:=Bj j0.len;have f5:=rngNat J;refine Ar rfl (o_z ?_);obtain⟨v3,c2,d2,e2,e0⟩:=Pkr.shut (x:=e) (l0:=2) (by decide) h9 j0 y2;have f:=(j0.lend [3] (by decide)).shutS c2 d2 e2 [2] (by decide);obtain⟨z2,f2,hm⟩:=bs hm;replace c:=((c.st S8).st I).st c2;replace D:=D.st c2;refine Dg (X:=Unit) (e.fields.length) f2 rfl J (λE R=>[(1,(.slice Q t.length c4)),(6,(.slice (some ⟨C,0,none⟩) A.length B)),(29,(.slice y e.fields.length q1))]) (λE R w'=>∃d:Lab,Bm w u w' d/\Rw 4 w' d 203 (.slice (some ⟨C,0,none⟩) A.length B) E/\Vb w' (FrS [2] w' d) (.slice y e.fields.length q1) e.fields/\Ob 2 w' d (.pointer (some ⟨o,0,none⟩)) e) () ⟨v3,c,D,f,e0⟩ Ad (λ_ _=>rfl) ?_ ?_
 ·rintro S F E R g5 w3 T ⟨x3,c,g,f,e0⟩ a0 o0 g2;have U:=YV T J;refine Aj (Ae (Ar rfl ?_));obtain⟨h5,i5,y3,h2,i2,j2,rfl,j5,k5,l5,m5⟩:=f.elem' T;refine BA (hA:=h2) (hj:=rfl) (hlt:=i2) rfl rfl (BE (hl:=rfl) (hc:=j2) rfl ?_);refine BL 5 x3 λV n5 o5 h l=>?_;replace f:=f.stS h id (λ_ _=>id);refine Au rfl (AR l rfl rfl rfl (Bg) (allOne) λz3 k l=>?_);replace f:=f.stS k (by decide) (by decide);refine o_z (Aj (Aj ?_));obtain⟨a4,b0,a0⟩:=bs a0;refine Bc (λl' w'=>∃(b4:Unit) (d:Lab),W4 l' [(1,(.slice Q t.length c4)),(6,(.slice (some ⟨C,0,none⟩) A.length B)),(7,(.int .i64 (S:Int))),(8,(.pointer (some ⟨V,0,none⟩))),(29,(.slice y e.fields.length q1)),(30,(.int .i64 (e.fields.length:Int))),(31,(.int .i64 (S:Int))),(49,(.bool a4))]/\Bm w u w' d/\Rw 4 w' d 203 (.slice (some ⟨C,0,none⟩) A.length B) E/\Lc 5 w' d V 205 [(.int .i64 F.word),(.int .i64 F.bit),(.int .i64 F.width),(.int .i64 F.size)]/\Vb w' (FrS [2] w' d) (.slice y e.fields.length q1) e.fields/\Ob 2 w' d (.pointer (some ⟨o,0,none⟩)) e) ?_ ?_
  ·refine Ct (·=z3) [(0,true),(1,true),(2,true),(3,true),(4,true),(5,true),(6,true),(7,true),(8,true),(9,true),(10,true),(11,true),(12,true),(13,true)] rfl rfl ?_;refine AM rfl rfl (AM rfl rfl ?_);obtain⟨p5,d4,b0⟩:=bs b0;replace c:=(c.st h).st k;obtain⟨q5,s5,e4,k2,l2,m2,rfl,t5⟩:=(m.z c).elem' d4;refine CX (hA:=k2) (hj:=rfl) (hlt:=l2) rfl rfl rfl (Du (hc:=cat0 m2) rfl rfl (GN rfl rfl rfl (λn2=>?_) λn2=>?_))
   ·replace b0:=ip b0 n2;refine AM rfl rfl (AN rfl rfl rfl (AN rfl rfl rfl (AN rfl rfl rfl (AN rfl rfl rfl (AN rfl rfl rfl (AN rfl rfl rfl (AN rfl rfl rfl (Dn rfl rfl rfl (h_z ?_)))))))));obtain rfl:=sm b0;exact⟨(),_,D3,c,(g.st h).st k,l,f,(e0.st h).st k⟩
   replace b0:=im b0 n2;refine AM rfl rfl (AB rfl (AA rfl rfl (BK rfl (AB rfl (AA rfl rfl (BK rfl (AB rfl (AA rfl rfl ?_))))))));obtain⟨u5,f4,b0⟩:=bs b0;obtain⟨g4,h4,d3,u0,w0,y0,rfl,i4⟩:=(m.z c).elem' f4;refine Ys (hA:=u0) (hj:=rfl) (hlt:=w0) rfl rfl rfl (AB rfl (AA rfl rfl (BS (hc:=cat0 y0) rfl (AB rfl (AA rfl rfl (Cu rfl (AB rfl (AA rfl rfl (BS (hc:=Blk.cell (i:=3) (l.1) rfl) rfl (AB rfl (AA rfl rfl (AY (λ_ _=>Bi rfl rfl) (λK=>?_) (λK=>?_)))))))))))))
   ·replace b0:=ip b0 K;refine CG rfl rfl rfl (h_z ?_);obtain rfl:=sm b0;exact⟨(),_,D3,c,(g.st h).st k,l,f,(e0.st h).st k⟩
   replace b0:=im b0 K;refine CG rfl rfl rfl (h_z ?_);obtain rfl:=sm b0;exact⟨(),_,D3,c,(g.st h).st k,l,f,(e0.st h).st k⟩
  replace c:=(c.st h).st k;replace e0:=(e0.st h).st k;replace g:=(g.st h).st k;rintro j4 k4 ⟨b4,o2,a1,c,g,l,f,e0⟩;refine AQ _ a1 ?_;refine Bx rfl (λL=>?_) (λL=>?_)
  ·replace a0:=ip a0 L;refine Aj (Ae (Da rfl (Au rfl (Au rfl (o_z (AD ?_))))));obtain rfl:=sm a0;obtain rfl:=o0 _ rfl;obtain rfl:=sm (Bp hm);obtain⟨d,hS',hz,hl⟩:=hE.leave (λq=>if q=2 then n else 0) rfl c;exact X3 rfl (AC rfl) (AC rfl) ⟨d,hS',_,_,(Ob.leave e0 hz (hl 2 (by decide) (by decide)) p.2),rfl,(Vb.mono (Vb.nil _ _) hz),(vErr (by decide))⟩
  replace a0:=im' a0 L;refine AE (Ck [] o2 ?_);refine Bl (fuel:=1) [] (Ci (FH 0 15)) rfl (AM rfl rfl (Be rfl rfl (Bz (hc:=CH l 0 rfl) rfl rfl ?_)));obtain⟨W,p2,a0⟩:=bs a0;obtain⟨q2,r2⟩:=Cn p2;obtain⟨l4,m4,e3,c1,d1,e1,f1,rfl⟩:=g.elemF r2;refine CX (hA:=c1) (hj:=q2) (hlt:=e1) rfl rfl rfl (Bz (hc:=JI d1 f1) rfl rfl (AM rfl rfl (AM rfl rfl ?_)));obtain⟨s2,t2,a0⟩:=bs a0;obtain⟨n4,o4,f3,g1,h1,i1,j1,rfl,p4⟩:=(m.z c).elem t2;refine CX (hA:=g1) (hj:=rfl) (hlt:=i1) rfl rfl rfl (Bz (hc:=JI h1 j1) rfl rfl (YB rfl rfl rfl (Be rfl rfl (Bz (hc:=CH l 1 rfl) rfl rfl ?_))));obtain⟨k1,u2,a0⟩:=bs a0;refine SX (a:=(BitVec.ofInt 64 s2)) (he:=u2) rfl rfl rfl rfl (Yx (a:=W) (b:=k1) rfl rfl rfl rfl ?_);obtain⟨q4,v2,a0⟩:=bs a0;obtain⟨w2,Y⟩:=Cn v2;obtain⟨r4,s4,g3,Z,h3,m1,i3,rfl⟩:=g.elemF Y;refine CX (hA:=Z) (hj:=w2) (hlt:=m1) rfl rfl rfl (AP (Bo (i:=15) rfl ?_));refine Fe rfl g (a:=(W|||k1)) vU64 Z rfl rfl (AF Y) λt4 M g=>?_;replace f:=f.stS M (by decide) (by decide);refine Gn (Dv ?_);obtain rfl:=sm a0;exact show Exists _ from⟨_,(),rfl,Ad,_,c.st M,g,f,e0.st M⟩
 rintro u4 v4 ⟨w4,x4,rfl,n1,y4,c,g,f,e0⟩;replace hm:=AW hm;refine AQ _ n1 ?_;refine Aj (Ae (Ar rfl (Au rfl (Au rfl (o_z (AD ?_))))));obtain⟨z4,o1,g⟩:=g.freeze;obtain rfl:=sm hm;replace c:=c.st o1;obtain⟨d,hS',hz,hl⟩:=hE.leave (λq=>if q=2 then n else 0) rfl c;replace e0:=e0.st o1;exact X3 rfl (AC rfl) (AC rfl) ⟨d,hS',_,_,(Ob.leave e0 hz (hl 2 (by decide) (by decide)) p.2),rfl,(Vb.mono g hz),(vErr (W3 0))⟩
noncomputable def EK(n:Pkr)(o:List U64):Option ((List Int)×Err) :=
  if(o.length:Int)≠n.words then(some (([]:List Int),(⟨2⟩:Err)))else(bnd (mkI 8 (0:Int) (n.fields.length:Int)) λp=>bnd (EV o) λg=>bnd (rng (ρ:=(List Int)×Err) (λ(c:Nat)(a:PFd)(b:(List Int)×(List U64))=>bnd (FZ a o) λh=>bnd (b.1[c]?) λq=>bnd ((b.1.set c h)[c]?) λi=>if a.size<=i then(some (.ret (([]:List Int),(⟨2⟩:Err))))else(bnd (atI b.2 a.word) λj=>bnd (ER a) λk=>bnd (atI b.2 a.word) λr=>some (.next ((b.1.set c h),(b.2.set (a.word:Int).toNat (j &&& ~~~k)))))) n.fields 0 (p,g)) λf=>fin f λ(e:(List Int)×(List U64))=>bnd (rng (ρ:=(List Int)×Err) (λ(l:Nat)(s:U64)(t:Unit)=>bnd (e.2[l]?) λm=>if(m.toNat:Int)≠((0:U64).toNat:Int)then(some (.ret (([]:List Int),(⟨2⟩:Err))))else(some (.next ()))) g 0 ()) λd=>fin d λ(u:Unit)=>some (e.1,(⟨0⟩:Err)))
theorem Li{w:World}{O:Lab}{p0 i0:Nat}{x0:Pkr}(o0:Ob i0 w O (.pointer (some ⟨p0,0,none⟩)) x0){vx1:Value}{x1:List U64}(c1:Vb w (Fr 0 w O) vx1 x1){r:(List Int)×Err}(hm:EK x0 x1=some r) :
    Fn prog 70 [(.pointer (some ⟨p0,0,none⟩)),vx1] w λv w'=>∃O',St (eT i0) w O w' O'/\∃v0 v1:Value,Ob i0 w' O' (.pointer (some ⟨p0,0,none⟩)) x0/\v=.tuple #[v0,v1]/\Vb w' (Fr 0 w' O') v0 r.1/\Vb w' (Fr 0 w' O') v1 r.2:=by
 obtain⟨O0,hE,r3,m4⟩:=Y3 (w:=w) (O:=O) o0.2;have o0':=Ob.leave o0 r3 m4 (j:=2) (by decide);have hB:Bm w O0 w O0:=Bm.refl;replace c1:=c1.mono r3;obtain⟨A3,c4,rfl⟩:=c1.form;refine AG func70 rfl ntmps70 ?_;unfold EK at hm;refine Aj (Ae (Au rfl (Au rfl (o_z (Aj (Aj (Ae (Ar rfl (IU rfl (o_z (Ah rfl (AE (Aj (Aj ?_))))))))))))));refine Ae (Ar rfl (AO rfl ?_));have l6:=Bj c1.len;have r5:=rngNat l6;refine Ar rfl (Cm rfl ?_);obtain⟨O7,r6,S8,n4,h9,q0,s3⟩:=Pkr.opn o0' 2 3 (by decide);obtain⟨t3,u3,rfl⟩:=q0.form;refine AJ rfl (AL (hc:=Blk.cell (i:=1) (h9.1) rfl) rfl (Gm rfl rfl (λs2=>?_) λs2=>?_))
 ·replace hm:=ip hm s2;refine o_z (Am rfl (Aj (Ae (Da rfl (Au rfl (Au rfl (o_z (AD ?_))))))));obtain⟨s6,o4,p4,q4,r4⟩:=Pkr.shut (x:=x0) (l0:=2) (by decide) h9 q0 s3;obtain rfl:=sm hm;replace hB:=(hB.st S8).st o4;obtain⟨O',hS',hz,hl⟩:=hE.leave (λq=>if q=2 then i0 else 0) rfl hB;exact X3 rfl (AC rfl) (AC rfl) ⟨O',hS',_,_,(Ob.leave r4 hz (hl 2 (by decide) (by decide)) o0.2),rfl,(Vb.mono (Vb.nil _ _) hz),(vErr (by decide))⟩
 replace hm:=im hm s2;refine o_z (Ah rfl (AE (Aj (Ae (Ar rfl (Cm rfl (AJ rfl (AL (hc:=Blk.cell (i:=0) (h9.1) rfl) rfl (AO rfl ?_)))))))));have s4:=Bj q0.len;have t6:=rngNat s4;obtain⟨i2,t4,hm⟩:=bs hm;obtain⟨j2,u4,v4,w4,x4⟩:=JG t4;refine LL 4 O7 (z0:=(0:Int)) rfl rfl rfl rfl rfl u4 (vInt (W3 0)) v4 w4 rfl λk2 u6 y4 t2 l2=>?_;rw[<- x4]at l2 ⊢;refine Au rfl (o_z (Aj (Ae (Ar rfl ?_))));obtain⟨f1,z4,hm⟩:=bs hm;replace hB:=(hB.st S8).st t2;refine DF 5 (O:=y4) (Ih Fr.lt (c1.z hB) z4) rfl λm2 n2 v6 w6 o2 u2=>?_;refine Au rfl (o_z (Aj (Aj (Ae (Ar rfl (Cm rfl (AJ rfl ?_)))))));replace h9:=(h9.st t2).st o2;refine AL (hc:=Blk.cell (i:=0) (h9.1) rfl) rfl (AO rfl ?_);replace q0:=(q0.st t2).st o2;have v2:=Bj q0.len;have x6:=rngNat v2;refine Ar rfl (o_z ?_);obtain⟨a5,p2,w2,x2,f0⟩:=Pkr.shut (x:=x0) (l0:=2) (by decide) h9 q0 s3;have c0:=(q0.lend [3] (by decide)).shutS p2 w2 x2 [2] (by decide);obtain⟨v3,y2,hm⟩:=bs hm;replace hB:=(hB.st o2).st p2;replace l2:=(l2.st o2).st p2;replace u2:=u2.st p2;refine Dg (X:=Unit) (x0.fields.length) y2 rfl v2 (λq2 w3=>[(1,(.slice A3 x1.length c4)),(6,(.slice (some ⟨k2,0,none⟩) i2.length j2)),(7,(.slice m2 f1.length n2)),(34,(.slice t3 x0.fields.length u3))]) (λq2 w3 w'=>∃O':Lab,Bm w O0 w' O'/\Rw 4 w' O' 3 (.slice (some ⟨k2,0,none⟩) i2.length j2) q2.1/\Rw 5 w' O' 203 (.slice m2 f1.length n2) q2.2/\Vb w' (FrS [2] w' O') (.slice t3 x0.fields.length u3) x0.fields/\Ob 2 w' O' (.pointer (some ⟨p0,0,none⟩)) x0) () ⟨a5,hB,l2,u2,c0,f0⟩ Af (λ_ _=>rfl) ?_ ?_
 ·rintro y6 k0 q2 w3 z6 b5 g1 ⟨c5,hB,g0,e0,c0,f0⟩ a0 u0 z2;have rk60:=YV g1 v2;refine Aj (Ae (Ar rfl ?_));obtain⟨a7,b7,d5,a3,b3,c3,rfl,x3,y3,z3,a4⟩:=c0.elem' g1;refine BA (hA:=a3) (hj:=rfl) (hlt:=b3) rfl rfl (BE (hl:=rfl) (hc:=c3) rfl ?_);refine BL 6 c5 λc7 d7 d3 d1 r0=>?_;replace c0:=c0.stS d1 id (λ_ _=>id);refine Au rfl (AR r0 rfl rfl rfl (Bg) (allOne) λb4 e1 r0=>?_);replace c0:=c0.stS e1 (by decide) (by decide);refine o_z (Aj (Ae (Ar rfl (Ar rfl (BE (hl:=rfl) (hc:=(r0.1).cellsAt) rfl (Ar rfl ?_))))));obtain⟨e5,f5,a0⟩:=bs a0;replace hB:=(hB.st d1).st e1;refine BO (O:=d3) (Np (λ_ h=>h) (Vb.mono (F:=Fr 0 b4 d3) (Vb.ofAgg (cs:=[(.int .i64 k0.word),(.int .i64 k0.bit),(.int .i64 k0.width),(.int .i64 k0.size)]) (x:=k0) rfl ⟨rfl,x3,y3,z3,a4⟩) Fr.lt) (Vb.mono (F:=Fr 0 b4 d3) (c1.z hB) Fr.lt) f5) rfl λg5 e7 w0 d0 e3=>?_;obtain⟨rfl,f3⟩:=e3.int;replace c0:=c0.stS d0 id (λ_ _=>id);obtain⟨h5,h1,a0⟩:=bs a0;replace g0:=((g0.st d1).st e1).st d0;obtain⟨i5,j5,d4,s0,i1,e4,rfl,k5⟩:=g0.elem h1;refine BA (hA:=s0) (hj:=rfl) (hlt:=i1) rfl rfl ?_;refine Fe rfl g0 (a:=e5) (vInt f3) s0 rfl rfl (AF h1) λj1 h0 g0=>?_;replace c0:=c0.stS h0 (by decide) (by decide);refine o_z (Aj (Aj ?_));refine Ct (·=j1) [(0,true),(1,true),(2,true),(3,true),(4,true),(5,true),(6,true)] rfl rfl ?_;refine AM rfl rfl (AM rfl rfl ?_);obtain⟨l5,g3,a0⟩:=bs a0;obtain⟨m5,n5,f4,k1,l1,m1,rfl,o5⟩:=g0.elem g3;refine CX (hA:=k1) (hj:=rfl) (hlt:=l1) rfl rfl rfl (Du (hc:=cat0 m1) rfl rfl (Be rfl rfl ?_));replace r0:=(r0.st d0).st h0;refine Du (hc:=Blk.cell (i:=3) (r0.1) rfl) rfl rfl (VT rfl rfl rfl rfl (λy0=>?_) λy0=>?_)
  ·replace a0:=ip a0 y0;refine h_z (Am rfl (Aj (Ae (Da rfl (Au rfl (Au rfl (o_z (AD ?_))))))));obtain rfl:=sm a0;obtain rfl:=u0 _ rfl;obtain rfl:=sm (Bp hm);replace hB:=(hB.st d0).st h0;obtain⟨O',hS',hz,hl⟩:=hE.leave (λq=>if q=2 then i0 else 0) rfl hB;replace f0:=(((f0.st d1).st e1).st d0).st h0;exact X3 rfl (AC rfl) (AC rfl) ⟨O',hS',_,_,(Ob.leave f0 hz (hl 2 (by decide) (by decide)) o0.2),rfl,(Vb.mono (Vb.nil _ _) hz),(vErr (by decide))⟩
  replace a0:=im a0 y0;refine h_z (Ah rfl (AE ?_));refine Ck [] w0 ?_;refine Bl (fuel:=4) [] (Ci (FH 0 6)) rfl (AM rfl rfl (Be rfl rfl (Bz (hc:=CH r0 0 rfl) rfl rfl ?_)));obtain⟨n1,h3,a0⟩:=bs a0;obtain⟨i3,j3⟩:=Cn h3;replace e0:=(((e0.st d1).st e1).st d0).st h0;obtain⟨p5,q5,g4,o1,p1,q1,r1,rfl⟩:=e0.elemF j3;refine CX (hA:=o1) (hj:=i3) (hlt:=q1) rfl rfl rfl (Bz (hc:=JI p1 r1) rfl rfl (ID (hl:=rfl) (hb:=Qs r0) rfl rfl (AP (Bo (i:=6) rfl ?_))));obtain⟨s1,k3,a0⟩:=bs a0;refine BO (O:=w0) (IZ (λ_ h=>h) (Vb.mono (F:=Fr 0 j1 w0) (Vb.ofAgg (cs:=[(.int .i64 k0.word),(.int .i64 k0.bit),(.int .i64 k0.width),(.int .i64 k0.size)]) (x:=k0) rfl ⟨rfl,x3,y3,z3,a4⟩) Fr.lt) k3) rfl λs5 t5 u5 j0 l3=>?_;obtain rfl:=l3.u64;have hZ:=lZ j0;replace c0:=c0.stS j0 id (λ_ _=>id);refine CT [] hZ ?_;refine Bl (fuel:=1) [] (Ci [7,8]) rfl (Yy (a:=n1) (b:=s1) rfl rfl rfl rfl ?_);obtain⟨v5,m3,a0⟩:=bs a0;obtain⟨n3,t1⟩:=Cn m3;replace e0:=e0.st j0;obtain⟨w5,x5,h4,t0,i4,u1,j4,rfl⟩:=e0.elemF t1;refine CX (hA:=t0) (hj:=n3) (hlt:=u1) rfl rfl rfl (AP (Bo (i:=9) rfl ?_));refine Fe rfl e0 (a:=(n1 &&& ~~~s1)) vU64 t0 rfl rfl (AF t1) λy5 m0 e0=>?_;replace c0:=c0.stS m0 (by decide) (by decide);refine Gn (Dv ?_);obtain rfl:=sm a0;exact show Exists _ from⟨_,(),rfl,Af,_,(((hB.st d0).st h0).st j0).st m0,(g0.st j0).st m0,e0,c0,(((((f0.st d1).st e1).st d0).st h0).st j0).st m0⟩
 rintro z5 a6 ⟨w1,b6,rfl,y1,o3,hB,g0,e0,c0,f0⟩;replace hm:=AW hm;refine AQ _ y1 ?_;refine Aj (Aj (Ae (Ar rfl (AO rfl ?_))));have a1:=Bj e0.len;have c6:=rngNat a1;refine Ar rfl (o_z ?_);obtain⟨p3,z1,hm⟩:=bs hm;refine Dg (X:=Unit) (f1.length) z1 rfl a1 (λa2 b2=>[(6,(.slice (some ⟨k2,0,none⟩) i2.length j2)),(65,(.slice m2 f1.length n2))]) (λa2 b2 w'=>∃O':Lab,Bm w O0 w' O'/\Rw 4 w' O' 3 (.slice (some ⟨k2,0,none⟩) i2.length j2) w1.1/\Rw 5 w' O' 203 (.slice m2 f1.length n2) w1.2/\Ob 2 w' O' (.pointer (some ⟨p0,0,none⟩)) x0) () ⟨o3,hB,g0,e0,f0⟩ A1 (λ_ _=>rfl) ?_ ?_
 ·rintro d6 e6 a2 b2 f6 k4 c2 ⟨g6,hB,g0,e0,f0⟩ b0 n0 r2;have rk171:=YV c2 a1;refine Aj (Ae ?_);obtain⟨h6,q3,b0⟩:=bs b0;obtain⟨i6,j6,l4,d2,e2,f2,rfl⟩:=e0.elem q3;refine BA (hA:=d2) (hj:=rfl) (hlt:=e2) rfl rfl (AL (hc:=cat0 f2) rfl (Au rfl (o_z (Aj (Ae (Ar rfl (Gm rfl rfl (λb1=>?_) λb1=>?_)))))))
  ·replace b0:=ip b0 b1;refine o_z (Am rfl (Aj (Ae (Da rfl (Au rfl (Au rfl (o_z (AD ?_))))))));obtain rfl:=sm b0;obtain rfl:=n0 _ rfl;obtain rfl:=sm (Bp hm);obtain⟨O',hS',hz,hl⟩:=hE.leave (λq=>if q=2 then i0 else 0) rfl hB;exact X3 rfl (AC rfl) (AC rfl) ⟨O',hS',_,_,(Ob.leave f0 hz (hl 2 (by decide) (by decide)) o0.2),rfl,(Vb.mono (Vb.nil _ _) hz),(vErr (by decide))⟩
  replace b0:=im b0 b1;refine o_z (Ah rfl (AE ?_));obtain rfl:=sm b0;exact show Exists _ from⟨_,(),rfl,A1,_,hB,g0,e0,f0⟩
 rintro k6 m6 ⟨n6,o6,rfl,g2,p6,hB,g0,e0,f0⟩;replace hm:=AW hm;refine AQ _ g2 ?_;refine Aj (Ae (Ar rfl (Au rfl (Au rfl (o_z (AD ?_))))));obtain⟨q6,h2,g0⟩:=g0.freeze;obtain rfl:=sm hm;replace hB:=hB.st h2;obtain⟨O',hS',hz,hl⟩:=hE.leave (λq=>if q=2 then i0 else 0) rfl hB;replace f0:=f0.st h2;exact X3 rfl (AC rfl) (AC rfl) ⟨O',hS',_,_,(Ob.leave f0 hz (hl 2 (by decide) (by decide)) o0.2),rfl,(Vb.mono g0 hz),(vErr (W3 0))⟩
noncomputable def DG(i:Pkr)(g:List U64):Option Int :=
  bnd (rng (ρ:=Int) (λ(h:Nat)(a:U64)(b:U64)=>bnd (Z4 ((b ^^^ a)*(13787848793156543929:U64)) 29) λd=>some (.next (((b ^^^ a)*(13787848793156543929:U64)) ^^^ d))) g 0 ((BitVec.ofInt 64 (g.length:Int))+(11400714819323198485:U64))) λc=>fin c λ(e:U64)=>bnd (Z4 e 2) λf=>some f.toInt
theorem LT{w:World}{O:Lab}{k l:Nat}{m:Pkr}(p:Ob l w O (.pointer (some ⟨k,0,none⟩)) m){h:Value}{i:List U64}(f:Vb w (Fr 0 w O) h i){r:Int}(hm:DG m i=some r) :
    Fn prog 106 [(.pointer (some ⟨k,0,none⟩)),h] w λv w'=>∃d,St (eT l) w O w' d/\Ob l w' d (.pointer (some ⟨k,0,none⟩)) m/\Vb w' (Fr 0 w' d) v r:=by
 obtain⟨n,hE,o0,r0⟩:=Y3 (w:=w) (O:=O) p.2;have c:=Ob.leave p o0 r0 (j:=2) (by decide);have g:Bm w n w n:=Bm.refl;replace f:=f.mono o0;obtain⟨y,c4,rfl⟩:=f.form;refine AG func106 rfl ntmps106 ?_;unfold DG at hm;refine Aj (Ae (Au rfl (o_z (Aj (Aj (Ae (Ar rfl (IU rfl (o_z (Ah rfl (AE (Aj (Ae (Ar rfl ?_))))))))))))));refine AO rfl ?_;have A:=Bj f.len;have D:=rngNat A;refine Wc rfl rfl (Yt (a:=(BitVec.ofInt 64 (i.length:Int))) (b:=(11400714819323198485:U64)) rfl rfl rfl (Au rfl (o_z (Aj (Aj (Ae (Ar rfl (AO rfl ?_))))))));have s:=Bj f.len;have E:=rngNat s;refine Ar rfl (o_z ?_);obtain⟨F,g0,hm⟩:=bs hm;refine Dg (X:=Unit) (i.length) g0 rfl s (λe t=>[(5,(.int .u64 e.toNat)),(14,(.slice y i.length c4))]) (λe t w'=>∃d:Lab,Bm w n w' d/\Ob 2 w' d (.pointer (some ⟨k,0,none⟩)) m) () ⟨n,g,c⟩ A1 (λ_ _=>rfl) ?_ ?_
 ·rintro G o e t H I u ⟨J,g,c⟩ c0 h0 j0;have x:=YV u s;refine Aj (Ae ?_);obtain⟨K,f1,u0,k0,l0,m0,rfl⟩:=(f.z g).elem' u;refine BA (hA:=k0) (hj:=rfl) (hlt:=l0) rfl rfl (AL (hc:=cat0 m0) rfl (Au rfl (o_z (Aj (Ae (Ar rfl (Ar rfl (Wb (a:=e) (b:=o) rfl rfl rfl (Au rfl (o_z (Aj (Ae (Ar rfl (Yu (a:=(e ^^^ o)) (b:=(13787848793156543929:U64)) rfl rfl rfl ?_))))))))))))));refine Au rfl (o_z (Ae (Ar rfl (Ar rfl ?_))));obtain⟨B,w0,c0⟩:=bs c0;refine SW (a:=((e ^^^ o)*(13787848793156543929:U64))) (he:=w0) rfl rfl rfl (Wb (a:=((e ^^^ o)*(13787848793156543929:U64))) (b:=B) rfl rfl rfl (Au rfl (o_z ?_)));obtain rfl:=sm c0;exact show Exists _ from⟨_,(),rfl,A1,_,g,c⟩
 rintro L M ⟨C,i1,rfl,n0,j1,g,c⟩;replace hm:=AW hm;refine AQ _ n0 ?_;refine Aj (Ae (Ar rfl ?_));obtain⟨z0,a1,hm⟩:=bs hm;refine SW (a:=C) (he:=a1) rfl rfl rfl (Wd (a:=z0) rfl rfl (Au rfl (o_z (AD ?_))));obtain rfl:=sm hm;obtain⟨d,hS',hz,hl⟩:=hE.leave (λq=>if q=2 then l else 0) rfl g;exact X2 rfl (AC rfl) ⟨d,hS',(Ob.leave c hz (hl 2 (by decide) (by decide)) p.2),(vInt (Abm _))⟩
noncomputable def DC(e:List U64)(f:List U64):Option Bool :=
  if(e.length:Int)≠(f.length:Int)then(some false)else(bnd (rng (ρ:=Bool) (λ(b:Nat)(c:U64)(g:Unit)=>bnd (f[b]?) λd=>if(c.toNat:Int)≠(d.toNat:Int)then(some (.ret false))else(some (.next ()))) e 0 ()) λa=>fin a λ(h:Unit)=>some true)
theorem Ii{w:World}{A:Nat->Prop}(hA:∀k,A k->k<w.heap.size){a:Value}{c:List U64}(d:Vb w A a c){b:Value}{e:List U64}(f:Vb w A b e){r:Bool}(hm:DC c e=some r) :
    Fn prog 107 [a,b] w λv w'=>Ext w w'/\Vb w' (upA A w w') v r:=by
 obtain⟨O,hB,b1⟩:=enter hA;obtain⟨o,c4,rfl⟩:=d.form;obtain⟨p,c6,rfl⟩:=f.form;refine AG func107 rfl ntmps107 ?_;unfold DC at hm;refine Aj (Ae (Au rfl (o_z (Aj (Aj (Ae (Ar rfl (AO rfl ?_))))))));have q:=Bj d.len;have x:=rngNat q;refine Ar rfl (AO rfl ?_);have s:=Bj f.len;have y:=rngNat s;refine Gm rfl rfl (λg=>?_) λg=>?_
 ·replace hm:=ip hm g;refine o_z (Am rfl (Aj (Ae (Au rfl (o_z (AD ?_))))));obtain rfl:=sm hm;exact X2 rfl (AC rfl) ⟨hB.ext,vBool⟩
 replace hm:=im hm g;refine o_z (Ah rfl (AE (Aj (Aj (Ae (Ar rfl (AO rfl ?_)))))));have h:=Bj d.len;have z:=rngNat h;refine Ar rfl (o_z ?_);obtain⟨B,h0,hm⟩:=bs hm;refine Dg (X:=Unit) (c.length) h0 rfl h (λj l=>[(0,(.slice o c.length c4)),(1,(.slice p e.length c6))]) (λj l w'=>∃t:Lab,Bs w A w' t) () ⟨O,hB⟩ A1 (λ_ _=>rfl) ?_ ?_
 ·rintro C D j l u E m ⟨F,hB⟩ a0 b0 i0;have n:=YV m h;refine Aj (Ae (Ar rfl (Au rfl (o_z (Aj ?_)))));refine Ct (·=u) [(0,true),(1,true),(2,true),(3,true),(4,true),(5,true),(6,true),(7,true),(8,true)] rfl rfl ?_;refine AM rfl rfl (AM rfl rfl ?_);obtain⟨G,h1,y0,j0,k0,l0,rfl⟩:=(d.zs hA hB).elem' m;refine CX (hA:=j0) (hj:=rfl) (hlt:=k0) rfl rfl rfl (Du (hc:=cat0 l0) rfl rfl (AM rfl rfl (AM rfl rfl ?_)));obtain⟨H,z0,a0⟩:=bs a0;obtain⟨I,k1,a1,m0,n0,o0,rfl⟩:=(f.zs hA hB).elem' z0;refine CX (hA:=m0) (hj:=rfl) (hlt:=n0) rfl rfl rfl (Du (hc:=cat0 o0) rfl rfl (SR rfl rfl rfl rfl (λi=>?_) λi=>?_))
  ·replace a0:=ip a0 i;refine h_z (Am rfl (Aj (Ae (Au rfl (o_z (AD ?_))))));obtain rfl:=sm a0;obtain rfl:=b0 _ rfl;obtain rfl:=sm (Bp hm);exact X2 rfl (AC rfl) ⟨hB.ext,vBool⟩
  replace a0:=im a0 i;refine h_z (Ah rfl (AE ?_));obtain rfl:=sm a0;exact show Exists _ from⟨_,(),rfl,A1,_,hB⟩
 rintro J K ⟨L,o1,rfl,q0,p1,hB⟩;replace hm:=AW hm;refine AQ _ q0 ?_;refine Aj (Ae (Au rfl (o_z (AD ?_))));obtain rfl:=sm hm;exact X2 rfl (AC rfl) ⟨hB.ext,vBool⟩
end
section
open Go Go.RowKit
class TMap(P:Program)(t:TypeId)(k e:outParam TypeId):Prop where eq:P.underlying t=some (.map k e)
class MKey(K:Type) where
  dec:DecidableEq K
  enc:K->Value
  desc:TypeDesc
  key:∀a,MapKept.IsKey desc (enc a)
  inj:∀a b,enc a=enc b->a=b
class TKey(P:Program)(t:TypeId)(K:Type)[MKey K]:Prop where eq:P.underlying t=some (MKey.desc K)
instance:MKey Int where
  dec:=inferInstance
  enc a:=.int .i64 a
  desc:=.int .i64
  key _:=rfl
  inj _ _ h:=by injection h
section
variable {K V:Type}[MKey K]
instance keyDec:DecidableEq K:=MKey.dec
def AaL:List (K×V)->K->Bool
  |[],_=>false
  |p::r,k=>if p.1=k then true else AaL r k
def Y2(z:V):List (K×V)->K->V
  |[],_=>z
  |p::r,k=>if p.1=k then p.2 else Y2 z r k
def ZZ:List (K×V)->K->V->List (K×V)
  |[],k,v=>[(k,v)]
  |p::r,k,v=>if p.1=k then(k,v)::r else p::ZZ r k v
def ZU:List (K×V)->K->Option Nat
  |[],_=>none
  |p::r,k=>if p.1=k then some 0 else(ZU r k).map (· + 1)
theorem GI(a:K):∀(c:List MapEntry)(x:List (K×V))(i:Nat),c.map (·.key)=x.map (λp=>MKey.enc p.1) →
    (ZU x a=none/\Instr.findNow (MKey.desc K) (MKey.enc a) c i=some none/\AaL x a=false/\(∀z,Y2 z x a=z)/\∀v,ZZ x a v=x++[(a,v)]) \/
    ∃j e p,ZU x a=some j/\c[j]?=some e/\x[j]?=some p/\Instr.findNow (MKey.desc K) (MKey.enc a) c i=some (some (i+j,e.val))/\e.key=MKey.enc a/\AaL x a=true/\(∀z,Y2 z x a=p.2)/\∀v,ZZ x a v=x.set j (a,v)
  |[],[],_,_=>.inl ⟨rfl,rfl,rfl,λ_=>rfl,λ_=>rfl⟩
  |[],_::_,_,h=>by simp at h
  |_::_,[],_,h=>by simp at h
  |e  :: c,p::x,i,h=>by
    rw[R9,R9]at h;injection h with d g;obtain⟨r,hr,hiff⟩:=MapKept.sameNow_of_keys (MKey.key a) (MKey.key p.1);by_cases b:p.1=a
    . have:r=true:=hiff.2 (by rw[b]);subst this;refine .inr ⟨0,e,p,by simp[ZU,b],rfl,rfl,?_,by rw[d,b],by simp[AaL,b],λz=>by simp[Y2,b],λv=>by simp[ZZ,b]⟩;simp[Instr.findNow,d,hr]
    . have:r=false:=by
        cases r with
        |false=>rfl
        |true=>exact absurd (MKey.inj _ _ (hiff.1 rfl)).symm b
      subst this;rcases GI a c x (i+1) g with⟨f,g1,g2,g3,g4⟩|⟨j,e',p',f,g1,g2,g3,g4,g5,g6,g7⟩
      . exact .inl ⟨by simp[ZU,b,f],by simp[Instr.findNow,d,hr,g1],by simp[AaL,b,g2],λz=>by simp[Y2,b,g3],λv=>by simp[ZZ,b,g4]⟩
      . refine .inr ⟨j+1,e',p',by simp[ZU,b,f],by simpa using g1,by simpa using g2,?_,g4,by simp[AaL,b,g5],λz=>by simp[Y2,b,g6],λv=>by simp[ZZ,b,g7]⟩;simp[Instr.findNow,d,hr,g3];omega
end
def LkV(d:TypeDesc)(z:Value)(w:World)(r:Nat)(c v:Value)(b:Bool):Prop:=∃e f a,w.heap[r]?=some (.map e f)/\Instr.findNow d c e.toList 0=some a/\v=(match a with|some p=>p.2|none=>z)/\b=a.isSome
theorem LkV.keep{d:TypeDesc}{z:Value}{w w':World}{r:Nat}{c v:Value}{b:Bool}(g:LkV d z w r c v b)(e:w'.heap[r]?=w.heap[r]?):LkV d z w' r c v b:=by
  obtain⟨f,ck,a,h1,h2⟩:=g;exact⟨f,ck,a,e.trans h1,h2⟩
section
variable {P:Program}{l:Env}{w:World}{dst:Option Tmp}{ty:TypeId}{pos:String}{aft:Array Edge}
theorem Wf{K:Type}[MKey K]{t k e:TypeId}[f:TMap P t k e][hk:TKey P k K]{z:Value}{size bytes:Nat}[TInfo P e z size bytes]{x y:Operand}{r:Nat}{a:K}{v:Value}{b:Bool}(g:opv l x=some (.map (some r)))(h:opv l y=some (MKey.enc a))(i:LkV (MKey.desc K) z w r (MKey.enc a) v b) :
    Ev P ⟨dst,.lookup t x y false,ty,pos,aft,none⟩ l w v:=λ_ _ d c=>by
  obtain⟨j,ck,q,h1,h2,h3,h4⟩:=i;have hb:(dr w d).heap[r]?=some (.map j ck):=h1;subst h3;cases q with
  |none=>simp[execOp,c.eval g,c.eval h,Instr.lookup,run_underlying f.eq,E8 hb,H5 hk.eq (MKey.key a),I3 hk.eq h2,Result.andThen,HH (P:=P) (t:=e)]
  |some p=>simp[execOp,c.eval g,c.eval h,Instr.lookup,run_underlying f.eq,E8 hb,H5 hk.eq (MKey.key a),I3 hk.eq h2,Result.andThen]
end
def ZR(a:List MapEntry)(b:Nat)(key v:Value):Option Nat->List MapEntry
  |none=>a++[{ key:=key,val:=v,born:=b }]
  |some j=>a.modify j λe=>{ e with key:=key,val:=v }
section
variable {P:Program}{n:Nat}{ops:Array Oper}{Q:X0}{rest:List Oper}{l:Env}{w:World}{d:Tmp}{ty:TypeId}{pos:String}{aft:Array Edge}
theorem UZ{K V:Type}[MKey K]{t k e:TypeId}[z:TMap P t k e][hk:TKey P k K]{x y u:Operand}{r b:Nat}{a:K}{v:Value}{c:List MapEntry}{xs:List (K×V)}(hb:w.heap[r]?=some (.map c.toArray b))(m:c.map (·.key)=xs.map (λp=>MKey.enc p.1))(A:opv l x=some (.map (some r)))(B:opv l y=some (MKey.enc a))(hu:opv l u=some v)
    (F:∀w' h,(b<=h/\(ZU xs a=none->b<h))->w'.os=w.os->w'.tape=w.tape->w'.output=w.output->w'.heap.size=w.heap.size->w'.heap[r]?=some (.map (ZR c b (MKey.enc a) v (ZU xs a)).toArray h)->(∀q,q≠r->w'.heap[q]?=w.heap[q]?)->owp P n ops Q rest l w'):owp P n ops Q (⟨none,.mapUpdate t x y u,ty,pos,aft,none⟩::rest) l w:=λC d g=>by
  refine wpList_plain rfl λE D=>?_;have f:(dr w d).heap[r]?=some (.map c.toArray b):=hb;unfold Oper.wp;rcases GI a c xs 0 m with⟨i,g1,_⟩|⟨j,e',p,i,g1,g2,g3,g4,_⟩
  . have hr:(execOp C.eval ⟨none,.mapUpdate t x y u,ty,pos,aft,none⟩).run P (dr w d)=.ok .skip { (dr w d)with heap:=(dr w d).heap.setIfInBounds r (.map (c.toArray.push { key:=MKey.enc a,val:=v,born:=b }) (b+1)) }:=by
      simp[execOp,g.eval A,g.eval B,g.eval hu,Instr.mapUpdate,run_underlying z.eq,E8 f,H5 hk.eq (MKey.key a),I3 hk.eq g1,MapKept.run_setObj_map _ f,Result.andThen]
    rw[hr];refine D _ _ (F { w with heap:=w.heap.setIfInBounds r (.map (c.toArray.push { key:=MKey.enc a,val:=v,born:=b }) (b+1)) } (b+1) ⟨by omega,λ_=>by omega⟩ rfl rfl rfl (by simp) ?_ (λq o=>(P6 hb).2 q o) _ d g);rw[i];simpa[ZR]using(P6 hb).1
  . have hj:c.toArray[j]?=some e':=(by simpa using g1);have s:c[j]?=some e':=g1;rw[U4]at g3;have hr:(execOp C.eval ⟨none,.mapUpdate t x y u,ty,pos,aft,none⟩).run P (dr w d)=.ok .skip { (dr w d)with heap:=(dr w d).heap.setIfInBounds r (.map (c.toArray.modify j λe=>{ e with key:=MKey.enc a,val:=v }) b) }:=by
      simp[execOp,g.eval A,g.eval B,g.eval hu,Instr.mapUpdate,run_underlying z.eq,E8 f,H5 hk.eq (MKey.key a),I3 hk.eq g3,s,g4,MapKept.run_keyThatStays (MKey.key a),MapKept.run_setObj_map _ f,Result.andThen]
    rw[hr];refine D _ _ (F { w with heap:=w.heap.setIfInBounds r (.map (c.toArray.modify j λe=>{ e with key:=MKey.enc a,val:=v }) b) } b ⟨V2 _,λe=>by rw[i]at e;cases e⟩ rfl rfl rfl (by simp) ?_ (λq o=>(P6 hb).2 q o) _ d g);rw[i];have:=(P6 (o':=.map (c.toArray.modify j λe=>{ e with key:=MKey.enc a,val:=v }) b) hb).1;simpa[ZR]using this
theorem TQ{t:TypeId}(hd:Nat.blt d n=true)(c:∀w',Ext w w'->w'.heap.size=w.heap.size+1->w'.heap[w.heap.size]?=some (.map #[] 0)->owp P n ops Q rest ((d,.map (some w.heap.size))::l) w'):owp P n ops Q (⟨some d,.makeMap t none,ty,pos,aft,none⟩::rest) l w :=
  HL (w':=w.alloc (.map #[] 0)) (λa e b=>.inl ⟨.map (some w.heap.size),e,by simp[execOp,Instr.makeMap];exact⟨rfl,rfl⟩,b.put hd _⟩)
    (c _ ((V8 _ _).alloc (V2 _) _) (by simp) (by show(w.heap.push _)[_]?=_;simp))
end
theorem Te{K V:Type}[MKey K]{b:List MapEntry}{xs:List (K×V)}(e:Nat)(a:K)(v:Value)(y:V)(f:b.map (·.key)=xs.map (λp=>MKey.enc p.1)):(ZR b e (MKey.enc a) v (ZU xs a)).map (·.key)=(ZZ xs a y).map (λp=>MKey.enc p.1):=by
  rcases GI a b xs 0 f with⟨c,_,_,_,g4⟩|⟨j,e',p,c,g1,g2,g3,g4,_,_,g7⟩
  . rw[c,g4];simp[ZR,f]
  . rw[c,g7];simp only[ZR,V0,<- f];apply M0;intro q;rw[M3,H6,M4];by_cases d:j=q
    . subst d;have hlt:j<b.length:=AF g1;simp[g1,hlt]
    . simp[d]
class OwM(α:Type)[Ow α]:Prop where
  mptr:∀{w:World}{F M:Nat->Prop}{v:Value}{x:α},Ow.R w F M v x->∃r,v=.map (some r)
theorem Ob.mptr{α:Type}[Ow α][OwM α]{i:Nat}{w:World}{O:Lab}{v:Value}{x:α}(a:Ob i w O v x):∃r,v=.map (some r):=OwM.mptr a.1
structure KeyB{K V:Type}[MKey K](es:List MapEntry)(ck:Nat)(xs:List (K×V)):Prop where
  keys:es.map (·.key)=xs.map (λp=>MKey.enc p.1)
  nodup:(es.map (·.born)).Nodup
  old:∀e∈es,e.born<ck
theorem KeyB.put{K V:Type}[MKey K]{f:List MapEntry}{g b:Nat}{xs:List (K×V)}(k:KeyB f g xs)(a:K)(v:Value)(y:V)(hc:g≤b∧(ZU xs a=none→g<b)):KeyB (ZR f g (MKey.enc a) v (ZU xs a)) b (ZZ xs a y):=by
  refine⟨Te g a v y k.keys,?_,?_⟩
  . rcases GI a f xs 0 k.keys with⟨d,_,_,_,g4⟩|⟨j,e',p,d,g1,g2,g3,g4,_,_,g7⟩
    . rw[d];simp only[ZR,R2,R9,List.map_nil];rw[M5];refine⟨k.nodup,by simp,λx h z hz e=>?_⟩;simp at hz;obtain⟨i,he0,rfl⟩:=U9.1 h;have:=k.old i he0;omega
    . rw[d];simp only[ZR];have:(f.modify j λe=>{ e with key:=MKey.enc a,val:=v }).map (·.born)=f.map (·.born):=by
        apply M0;intro q;rw[M3,M3,H6];by_cases c:j=q
        . subst c;simp[g1]
        . simp[c]
      rw[this];exact k.nodup
  . intro e he;rcases GI a f xs 0 k.keys with⟨d,_,_,_,g4⟩|⟨j,e',p,d,g1,g2,g3,g4,_,_,g7⟩
    . rw[d]at he;simp only[ZR,P8,K9]at he;rcases he with he|rfl
      . have:=k.old e he;omega
      . exact hc.2 d
    . rw[d]at he;simp only[ZR]at he;obtain⟨q,c⟩:=H4 he;rw[H6]at c;by_cases hj:j=q
      . subst hj;rw[g1]at c;simp at c;subst c;have:=k.old e' (H1 g1);show e'.born<b;omega
      . simp[hj]at c;have:=k.old e (H1 c);omega
structure MapR(e:TypeId)(K V:Type) where
  l:List (K×List V)
def RA{K V:Type}[Rp V](w:World)(F c:Nat->Prop)(L:Lab)(e:TypeId)(b:List MapEntry)(xs:List (K×List V))(skip:Option Nat):Prop:=∀(j:Nat)(a:MapEntry)(p:K×List V),b[j]?=some a->xs[j]?=some p->skip≠some j->RwM w F (λk=>c k/\L k=j+1) e a.val p.2
instance{e:TypeId}{K V:Type}[MKey K][Rp V]:Ow (MapR e K V) where
  R w F m v x:=∃(r:Nat) (L:Lab) (a:List MapEntry) (b:Nat),v=.map (some r)/\w.heap[r]?=some (.map a.toArray b)/\m r/\L r=0/\KeyB a b x.l/\RA w F m L e a x.l none
  agree:=by rintro w w' F m v x ⟨r,L,a,b,rfl,hb,hM,hL,hk,hv⟩ a1 a2;exact⟨r,L,a,b,rfl,(a2 r hM).trans hb,hM,hL,hk,λj c p d f g=>(hv j c p d f g).agree a1 λk hk=>a2 k hk.1⟩
  mono:=by rintro w F m h i v x ⟨r,L,a,b,rfl,hb,hM,hL,hk,hv⟩ a1 a2 a3;exact⟨r,L,a,b,rfl,hb,a2 r hM,hL,hk,λj c p d f g=>(hv j c p d f g).mono a1 (λk hk=>⟨a2 k hk.1,hk.2⟩) λk hf hm=>a3 k hf hm.1⟩
instance{e:TypeId}{K V:Type}[MKey K][Rp V]:OwM (MapR e K V):=⟨by rintro w F a v x ⟨r,L,es,ck,rfl,_⟩;exact⟨r,rfl⟩⟩
def MapH{K V:Type}[MKey K][Rp V](i:Nat)(w:World)(O:Lab)(r:Nat)(e:TypeId)(x:MapR e K V)(a:K):Prop :=
  (∃(L:Lab) (b:List MapEntry) (c:Nat),w.heap[r]?=some (.map b.toArray c)/\Fr i w O r/\KeyB b c x.l/\RA w (Fr 0 w O) (Fr i w O) L e b x.l (ZU x.l a))/\i≠0
section
variable {e:TypeId}{K V:Type}[MKey K][Rp V]{i j:Nat}{T:Nat → Prop}{w w':World}{O O':Lab}{r:Nat}{x:MapR e K V}{a:K}
theorem MapH.st(j:MapH i w O r e x a)(b:St T w O w' O')(c:¬T 0:=by decide)(hi:¬T i:=by decide):MapH i w' O' r e x a:=by
  obtain⟨⟨L,es,ck,hb,hM,hk,hr⟩,h1⟩:=j;refine⟨⟨L,es,ck,(b.agree hi r hM).trans hb,b.fr hi r hM,hk,λq d p f g h=>?_⟩,h1⟩;exact((hr q d p f g h).agree (b.agree c) λk hk=>b.agree hi k hk.1).mono (b.fr c) (λk hk=>⟨b.fr hi k hk.1,hk.2⟩) λk hf hm=>YY h1 k hf hm.1
theorem MapR.at(b:Ob i w O (.map (some r)) x):Fr i w O r:=by
  obtain⟨⟨r',L,es,ck,a,hb,hM,_⟩,_⟩:=b;injection a with a;injection a with a;subst a;exact hM
theorem MapR.get(j:Ob i w O (.map (some r)) x)(a:K):∃A c,LkV (MKey.desc K) (.slice none 0 0) w r (MKey.enc a) (.slice A (Y2 ([]:List V) x.l a).length c) (AaL x.l a)/\Vb w (FrS [i] w O) (.slice A (Y2 ([]:List V) x.l a).length c) (Y2 ([]:List V) x.l a):=by
  obtain⟨⟨r',L,f,ck,b,hb,hM,hL,hk,hra⟩,hi⟩:=j;injection b with b;injection b with b;subst b;rcases GI a f x.l 0 hk.keys with⟨g,g1,g2,g3,g4⟩|⟨q,e',p,g,g1,g2,g3,g4,g5,g6,g7⟩
  . rw[g3,g2];exact⟨none,0,⟨_,ck,none,hb,by simpa using g1,rfl,rfl⟩,Vb.nil _ _⟩
  . rw[g6,g5];have h:=hra q e' p g1 g2 (by simp);have d:Rw i w O e e'.val p.2:=h.rw (λ_ j=>j) (λ_ j=>j.1) hi;obtain⟨A,c,hA⟩:=d.form;refine⟨A,c,⟨_,ck,some (0+q,e'.val),hb,by simpa using g3,hA.symm,rfl⟩,?_⟩;rw[<- hA];exact d.lend [i] (by simp)
theorem MapR.take(C:Ob i w O (.map (some r)) x){v:Value}{b:Bool}(hl:LkV (MKey.desc K) (.slice none 0 0) w r (MKey.enc a) v b)(j:Nat)(hj:j≠0)(u:j≠i):∃O',St (eT i) w O w O'∧MapH i w O' r e x a∧Rw j w O' e v (Y2 ([]:List V) x.l a):=by
  obtain⟨⟨r',L,g,ck,d,hb,hM,hL,hk,hra⟩,hi⟩:=C;injection d with d;injection d with d;subst d;obtain⟨y,ck',q,c,h2,h3,h4⟩:=hl;rw[hb]at c;injection c with c;injection c with c z;subst c;rw[List.toList_toArray]at h2;rcases GI a g x.l 0 hk.keys with⟨s,g1,g2,g3,g4⟩|⟨n,e',p,s,g1,g2,g3,g4,g5,g6,g7⟩
  . rw[g1]at h2;have:=sm h2;subst this;rw[g3,h3];exact⟨O,St.refl _ _ _,⟨⟨L,g,ck,hb,hM,hk,λq h p m o _=>hra q h p m o (by simp)⟩,hi⟩,Rw.nil j hj⟩
  . rw[g3]at h2;have:=sm h2;subst this;rw[g6,h3];have f:=hra n e' p g1 g2 (by simp);refine⟨λk=>if O k=i/\L k=n+1 then j else O k,⟨rfl,rfl,rfl,V2 _,λk _ hk=>⟨rfl,if_neg λC=>hk C.1⟩⟩,⟨⟨L,g,ck,hb,⟨hM.1,?_⟩,hk,λq h A m o t=>?_⟩,hi⟩,f.rw (λk hk=>⟨hk.1,?_⟩) (λk hk=>⟨hk.1.1,if_pos ⟨hk.1.2,hk.2⟩⟩) hj⟩
    . show(if _ then _ else _)=_;rw[if_neg (by rw[hL];omega)];exact hM.2
    . rw[s]at t;have B:n≠q:=λe=>t (by rw[e]);refine(hra q h A m o (by simp)).mono (λk hk=>⟨hk.1,?_⟩) (λk hk=>⟨⟨hk.1.1,?_⟩,hk.2⟩) (λk hf hm=>YY hi k hf hm.1)
      . show(if _ then _ else _)=_;rw[if_neg (by rw[hk.2];exact λC=>hi C.1.symm)];exact hk.2
      . show(if _ then _ else _)=_;rw[if_neg (by rw[hk.2];omega)];exact hk.1.2
    . show(if _ then _ else _)=_;rw[if_neg (by rw[hk.2];exact λC=>hi C.1.symm)];exact hk.2
end
section
variable {P:Program}{n:Nat}{ops:Array Oper}{Q:X0}{rest:List Oper}{l:Env}{w:World}{d:Tmp}{ty:TypeId}{pos:String}{aft:Array Edge}{K V:Type}[MKey K][Rp V]{i j:Nat}{O:Lab}{r:Nat}
theorem Wv{e':TypeId}{x:MapR e' K V}{t k e:TypeId}[TMap P t k e][TKey P k K]{m y u:Operand}{a:K}{v:Value}{ys:List V}(hM:MapH i w O r e' x a)(hv:Rw j w O e' v ys)(hij:j≠i)(hx:opv l m=some (.map (some r)))(hy:opv l y=some (MKey.enc a))(hu:opv l u=some v)
    (h:∀w' O',St (λq=>q=i\/q=j) w O w' O'->Ob i w' O' (.map (some r)) (⟨ZZ x.l a ys⟩:MapR e' K V)->owp P n ops Q rest l w'):owp P n ops Q (⟨none,.mapUpdate t m y u,ty,pos,aft,none⟩::rest) l w:=by
  obtain⟨⟨L,es,ck,hb,hM',hk,hra⟩,hi⟩:=hM;refine UZ hb hk.keys hx hy hu λw' ck' hck e1 e2 e3 e4 e5 e6=>?_;have hlen:es.length=x.l.length:=(by have:=congrArg List.length hk.keys;simpa using this);have hj0:j≠0:=hv.2.2;have hrj:O r≠j:=by rw[hM'.2];exact W0 hij
  let n0:Nat:=match ZU x.l a with|some q=>q|none=>es.length
  have hS:St (λq=>q=i\/q=j) w O w' (λk=>if O k=j then i else O k):=⟨e1,e2,e3,by omega,λq hq hT=>⟨e6 q λe=>hT (by rw[e];exact .inl hM'.2),if_neg λe=>hT (.inr e)⟩⟩;have hF:∀k,Fr 0 w O k->Fr 0 w' (λk=>if O k=j then i else O k) k:=λk hk=>⟨by rw[e4];exact hk.1,by show(if _ then _ else _)=_;rw[if_neg (by rw[hk.2];exact W0 hj0)];exact hk.2⟩;have hA0:Agree (Fr 0 w O) w w':=λk hk=>e6 k λe=>(by rw[e]at hk;exact hi (hM'.2.symm.trans hk.2));have hdis:∀m:Nat,∀k,Fr 0 w' (λk=>if O k=j then i else O k) k->¬(Fr i w' (λk=>if O k=j then i else O k) k/\(if O k=j then n0+1 else if k=r then 0 else L k)=m):=λm k hf hm=>YY hi k hf hm.1;have hnew:RwM w' (Fr 0 w' (λk=>if O k=j then i else O k)) (λk=>Fr i w' (λk=>if O k=j then i else O k) k/\(if O k=j then n0+1 else if k=r then 0 else L k)=n0+1) e' v ys:=by
    have h1:RwM w (Fr 0 w O) (Fr j w O) e' v ys:=hv.m (λ_ h=>h) (λ_ h=>h) (YY hj0);have h2:=h1.agree hA0 (λk hk=>e6 k λe=>by rw[e]at hk;exact hrj hk.2);exact h2.mono hF (λk hk=>⟨⟨by rw[e4];exact hk.1,if_pos hk.2⟩,if_pos hk.2⟩) (hdis _)
  have hkeep:∀q en(p:K×List V),es[q]?=some en->x.l[q]?=some p->ZU x.l a≠some q->RwM w' (Fr 0 w' (λk=>if O k=j then i else O k)) (λk=>Fr i w' (λk=>if O k=j then i else O k) k/\(if O k=j then n0+1 else if k=r then 0 else L k)=q+1) e' en.val p.2:=λq en p g1 g2 g3=>by
    have h1:=hra q en p g1 g2 g3;have hnr:∀g,en.val.ownBlock=some g->g≠r:=λg hg e=>by
      subst e;have h2:=h1.1;obtain⟨cells,o1,o2,o3⟩:=h2;rcases o1.2 with⟨hv0,_⟩|⟨g',cap,cur,hv0,_,hh,_⟩
      . rw[hv0]at hg;simp[Value.ownBlock]at hg
      . rw[hv0]at hg;have:g'=g:=(by simpa[Value.ownBlock]using hg);subst this;rw[hb]at hh;cases hh
    have h2:RwM w (Fr 0 w O) (λk=>(Fr i w O k/\L k=q+1)/\k≠r) e' en.val p.2:=⟨h1.1,λg hg=>⟨h1.2 g hg,hnr g hg⟩⟩;have h3:=h2.agree hA0 (λk hk=>e6 k hk.2);refine h3.mono hF (λk hk=>?_) (hdis _);have hkj:O k≠j:=(by rw[hk.1.1.2];exact W0 hij);exact⟨⟨by rw[e4];exact hk.1.1.1,by show(if _ then _ else _)=_;rw[if_neg hkj];exact hk.1.1.2⟩,by rw[if_neg hkj,if_neg hk.2];exact hk.1.2⟩
  refine h w' _ hS ⟨⟨r,λk=>if O k=j then n0+1 else if k=r then 0 else L k,_,ck',rfl,e5,⟨by rw[e4];exact hM'.1,by show(if _ then _ else _)=_;rw[if_neg hrj];exact hM'.2⟩,by show(if _ then _ else _)=_;rw[if_neg hrj,if_pos rfl],hk.put a v ys hck,?_⟩,hi⟩;intro q en p h1 h2 _;rcases GI a es x.l 0 hk.keys with⟨g0,_,_,_,g4⟩|⟨m,e'',p',g0,g1,g2,g3,g4,_,_,g7⟩
  . have hn0:n0=es.length:=(by show(match ZU x.l a with|some q=>q|none=>es.length)=_;rw[g0]);rw[g0]at h1;rw[g4]at h2;simp only[ZR]at h1;by_cases hq:q<es.length
    . rw[C4 hq]at h1;rw[C4 (by omega)]at h2;exact hkeep q en p h1 h2 (by rw[g0];simp)
    . rw[C0 (by omega)]at h1;rw[C0 (by omega)]at h2;cases hz:q-es.length with
      |zero =>
        rw[hz]at h1;rw[show q-x.l.length=0 from by omega]at h2;simp at h1 h2;subst h1;subst h2;have hqe:q=n0:=(by rw[hn0];omega);rw[hqe];exact hnew
      |succ m=>rw[hz]at h1;simp at h1
  . have hn0:n0=m:=(by show(match ZU x.l a with|some q=>q|none=>es.length)=_;rw[g0]);rw[g0]at h1;rw[g7]at h2;simp only[ZR]at h1;rw[H6]at h1;rw[M4]at h2;by_cases hq:m=q
    . subst hq;have hlt:=AF g2;rw[g1]at h1;simp[hlt]at h1 h2;subst h1;subst h2;rw[<- hn0];exact hnew
    . simp[hq]at h1 h2;exact hkeep q en p h1 h2 (by rw[g0];simpa using hq)
theorem Va{t:TypeId}(e:TypeId)(i:Nat)(hi:i≠0)(O:Lab)(hd:Nat.blt d n=true)(c:∀g w' O',St nT w O w' O'->Ob i w' O' (.map (some g)) (⟨[]⟩:MapR e K V)->owp P n ops Q rest ((d,.map (some g))::l) w'):owp P n ops Q (⟨some d,.makeMap t none,ty,pos,aft,none⟩::rest) l w :=
  TQ hd λw' a hs hb=>c _ w' _ (a.st O λ_=>i) ⟨⟨w.heap.size,λ_=>0,[],0,rfl,hb,⟨by omega,Fh (V2 _)⟩,rfl,⟨rfl,by simp,by simp⟩,λj e p b _=>by simp at b⟩,hi⟩
end
section
variable {P:Program}{n:Nat}{ops:Array Oper}{Q:X0}{rest:List Oper}{l:Env}{w:World}{d:Tmp}{ty:TypeId}{pos:String}{aft:Array Edge}{S:World → Prop}{rr:List (Nat × Bool)}{i':Nat}
theorem YT{K:Type}[MKey K]{t k e:TypeId}[TMap P t k e][TKey P k K]{z:Value}{size bytes:Nat}[TInfo P e z size bytes]{x y:Operand}{r:Nat}{v:Value}{b:Bool}(a:K)(c:LkV (MKey.desc K) z w r (MKey.enc a) v b)(f:opv l x=some (.map (some r)))(g:opv l y=some (MKey.enc a))(hd:Nat.blt d n=true)(h:owp P n ops Q rest ((d,v)::l) w):owp P n ops Q (⟨some d,.lookup t x y false,ty,pos,aft,none⟩::rest) l w:=AT (Wf f g c) hd h
theorem YU{K:Type}[MKey K]{t k e:TypeId}[TMap P t k e][TKey P k K]{z:Value}{size bytes:Nat}[TInfo P e z size bytes]{x y:Operand}{r:Nat}{v:Value}{b:Bool}(a:K)(c:∀w',S w'->LkV (MKey.desc K) z w' r (MKey.enc a) v b)(hi:ops[i']?=some ⟨some d,.lookup t x y false,ty,pos,aft,none⟩)(f:opv l x=some (.map (some r)))(g:opv l y=some (MKey.enc a))(hd:Nat.blt d n=true)(i:hwp P n ops Q S rr ((d,v)::l) w):hwp P n ops Q S ((i',true)::rr) l w:=AB hi (Bv (λw' h=>Wf f g (c w' h)) hd i)
end
end
end Go.Proofs.YthgeinkfgcgjiaaGreatDoor

/- Own text: what the proof of wholeSymmetry_holds uses, part 2: rules, models and their proofs, plain laws. -/
import Derived.Test.YtonclmjaphieiaaGreatWSzA
set_option linter.unusedVariables false
set_option linter.unusedSimpArgs false
namespace Go.Proofs.YtonclmjaphieiaaGreat
open Go Go.RowKit Go.Proofs.Tryz
section
open Go Go.RowKit
section
variable {P:Program}{l:Env}{w:World}{dst:Option Tmp}{ty:TypeId}{pos:String}{aft:Array Edge}
theorem Md{t u:TypeId}{x y:Operand}{a b c:Int}(d:opv l x=some (.int .i64 a))(e:opv l y=some (.int .i64 b))(he:X7 (a+b)=some c):Ev P ⟨dst,.binOp .add t x y u,ty,pos,aft,none⟩ l w (.int .i64 c):=by
  obtain⟨rfl,h⟩:=Ld he;exact LF d e h
theorem Me{t u:TypeId}{x y:Operand}{a b c:Int}(d:opv l x=some (.int .i64 a))(e:opv l y=some (.int .i64 b))(he:X7 (a-b)=some c):Ev P ⟨dst,.binOp .sub t x y u,ty,pos,aft,none⟩ l w (.int .i64 c):=by
  obtain⟨rfl,h⟩:=Ld he;exact KB d e h
theorem Pn{t u:TypeId}{x y:Operand}{a b c:Int}(d:opv l x=some (.int .i64 a))(e:opv l y=some (.int .i64 b))(he:X7 (a*b)=some c):Ev P ⟨dst,.binOp .mul t x y u,ty,pos,aft,none⟩ l w (.int .i64 c):=by
  obtain⟨rfl,h⟩:=Ld he;exact Ua d e h
theorem HA{t e:TypeId}[TSlice P t e]{z:Value}{size bytes:Nat}[TInfo P e z size bytes]{x i:Operand}{k:IntKind}{A:Option Addr}{b o m c j:Nat}{q:Int}(a:opv l x=some (.slice A m c))(d:opv l i=some (.int k q))(hA:A=some ⟨b,o,none⟩)(hj:q=(j:Int))(hlt:j<m) :
    Ev P ⟨dst,.indexAddr t x i,ty,pos,aft,none⟩ l w (.pointer (some ⟨b,o+j*size,none⟩)):=by
  subst hA;exact Jb a d hj hlt
theorem XC{t:TypeId}{f off:Nat}[TField P t f off]{x:Operand}{p:Option Addr}{b o:Nat}(a:opv l x=some (.pointer p))(hA:p=some ⟨b,o,none⟩):Ev P ⟨dst,.fieldAddr t x f,ty,pos,aft,none⟩ l w (.pointer (some ⟨b,o+off,none⟩)):=by
  subst hA;exact De a
theorem XD{x:Operand}{p:Option Addr}{a:Addr}(b:opv l x=some (.pointer p))(hA:p=some a):Ev P ⟨dst,.nilCheck x,ty,pos,aft,none⟩ l w (.pointer p):=by
  subst hA;exact LZ b
theorem XE{x:Operand}{n:Int}[TInt P 59 .i64](a:opv l x=some (.int .i64 n))(hn:n≠0):Ev P ⟨dst,.makeInterface 59 x,ty,pos,aft,none⟩ l w (ZH n):=by
  rw[KI hn];exact OY a
theorem LJ(a b c d:Int)(w:World):(Op.equal 67 (.agg #[.int .i64 a,.int .i64 b]) (.agg #[.int .i64 c,.int .i64 d])).run prog w=.ok (decide (a=c/\b=d)) w:=by
  have e:∀(n:Nat)(x y:Int)(w:World),(Op.equalIn (n+1) 3 (.int .i64 x) (.int .i64 y)).run prog w=.ok (x==y) w:=λn x y w=>(by simp[Op.equalIn,run_underlying underlying3]);have hs:prog.stoodInHeld 67=false:=(by kernel_rfl);have hd:∀n:Nat,(Op.equalIn (n+2) 67 (.agg #[.int .i64 a,.int .i64 b]) (.agg #[.int .i64 c,.int .i64 d])).run prog w=.ok (decide (a=c/\b=d)) w:=λn=>by
    rw[Op.equalIn];simp[run_underlying underlying67,hs,Go.part,Ja (P:=prog) (t:=3),e];by_cases f:a=c<;>by_cases g:b=d<;>simp[f,g]
  exact hd 9998
theorem Yt{u:TypeId}{x y:Operand}{a b c d:Int}(g:opv l x=some (.agg #[.int .i64 a,.int .i64 b]))(h:opv l y=some (.agg #[.int .i64 c,.int .i64 d])):Ev prog ⟨dst,.binOp .eql 67 x y u,ty,pos,aft,none⟩ l w (.bool (decide (a=c/\b=d))):=λ_ _ e f=>by
  simp[execOp,f.eval g,f.eval h,eqGuard,binOp,LJ]
theorem Yu{u:TypeId}{x y:Operand}{a b c d:Int}(g:opv l x=some (.agg #[.int .i64 a,.int .i64 b]))(h:opv l y=some (.agg #[.int .i64 c,.int .i64 d])):Ev prog ⟨dst,.binOp .neq 67 x y u,ty,pos,aft,none⟩ l w (.bool (decide (¬(a=c/\b=d)))):=λ_ _ e f=>by
  simp[execOp,f.eval g,f.eval h,eqGuard,binOp,LJ]
theorem Ti{t u:TypeId}[TIface P t]{x:Operand}{n:Int}(a:opv l x=some (ZH n)):Ev P ⟨dst,.binOp .eql t x (.const .nilIface) u,ty,pos,aft,none⟩ l w (.bool (decide (n=0))):=by
  by_cases h:n=0
  . subst h;rw[JU]at a;exact Qr a
  . rw[KI h]at a;simpa[h]using OZ (P:=P) (w:=w) (dst:=dst) (ty:=ty) (pos:=pos) (aft:=aft) (t:=t) (u:=u) a
theorem Tj{t u:TypeId}[TIface P t]{x:Operand}{n:Int}(a:opv l x=some (ZH n)):Ev P ⟨dst,.binOp .neq t x (.const .nilIface) u,ty,pos,aft,none⟩ l w (.bool (decide (n≠0))):=by
  by_cases h:n=0
  . subst h;rw[JU]at a;exact Pa a
  . rw[KI h]at a;simpa[h]using NW (P:=P) (w:=w) (dst:=dst) (ty:=ty) (pos:=pos) (aft:=aft) (t:=t) (u:=u) a
end
section
variable {P:Program}{n:Nat}{ops:Array Oper}{Q:YX}{rest:List Oper}{l:Env}{w:World}{d:Tmp}{ty:TypeId}{pos:String}{aft:Array Edge}
theorem Fw{t u:TypeId}{x y:Operand}{a b c:Int}(e:opv l x=some (.int .i64 a))(f:opv l y=some (.int .i64 b))  (h:owp P n ops Q rest ((d,.int .i64 c)::l) w) (he:X7 (a+b)=some c:=by assumption) (hd:Nat.blt d n=true:=by exact rfl):owp P n ops Q (⟨some d,.binOp .add t x y u,ty,pos,aft,none⟩::rest) l w:=AX (Md e f he) hd h
theorem Gb{t u:TypeId}{x y:Operand}{a b c:Int}(e:opv l x=some (.int .i64 a))(f:opv l y=some (.int .i64 b))  (h:owp P n ops Q rest ((d,.int .i64 c)::l) w) (he:X7 (a-b)=some c:=by assumption) (hd:Nat.blt d n=true:=by exact rfl):owp P n ops Q (⟨some d,.binOp .sub t x y u,ty,pos,aft,none⟩::rest) l w:=AX (Me e f he) hd h
theorem TL{t u:TypeId}{x y:Operand}{a b c:Int}(e:opv l x=some (.int .i64 a))(f:opv l y=some (.int .i64 b))(hd:Nat.blt d n=true)(h:owp P n ops Q rest ((d,.int .i64 c)::l) w)(he:X7 (a*b)=some c:=by assumption):owp P n ops Q (⟨some d,.binOp .mul t x y u,ty,pos,aft,none⟩::rest) l w:=AX (Pn e f he) hd h
theorem Bn{t e:TypeId}[TSlice P t e]{z:Value}{size bytes:Nat}[TInfo P e z size bytes]{x i:Operand}{k:IntKind}{A:Option Addr}{b o m c j:Nat}{q:Int}(a:opv l x=some (.slice A m c))(f:opv l i=some (.int k q))  (h:owp P n ops Q rest ((d,.pointer (some ⟨b,o+j*size,none⟩))::l) w) (hA:A=some ⟨b,o,none⟩:=by assumption) (hj:q=(j:Int):=by rfl) (hlt:j<m:=by assumption) (hd:Nat.blt d n=true:=by exact rfl):owp P n ops Q (⟨some d,.indexAddr t x i,ty,pos,aft,none⟩::rest) l w:=AX (HA a f hA hj hlt) hd h
theorem Yv{t:TypeId}{f off:Nat}[TField P t f off]{x:Operand}{p:Option Addr}{b o:Nat}(a:opv l x=some (.pointer p))(hd:Nat.blt d n=true)(h:owp P n ops Q rest ((d,.pointer (some ⟨b,o+off,none⟩))::l) w)(hA:p=some ⟨b,o,none⟩:=by assumption):owp P n ops Q (⟨some d,.fieldAddr t x f,ty,pos,aft,none⟩::rest) l w:=AX (XC a hA) hd h
theorem Yw{x:Operand}{p:Option Addr}{a:Addr}(b:opv l x=some (.pointer p))(hd:Nat.blt d n=true)(h:owp P n ops Q rest ((d,.pointer p)::l) w)(hA:p=some a:=by assumption):owp P n ops Q (⟨some d,.nilCheck x,ty,pos,aft,none⟩::rest) l w:=AX (XD b hA) hd h
theorem Ur{t e:TypeId}[TSlice P t e]{z:Value}{size bytes:Nat}[TInfo P e z size bytes]{A a:Option Addr}{m c b f:Nat}{q:Int}{k:IntKind}{x y:Operand}(g:opv l x=some (.slice A m c))(i:opv l y=some (.int k q))(hd:Nat.blt d n=true)(h:owp P n ops Q rest ((d,.slice a b f)::l) w)(hc:Aav size A m c q (m:Int) a b f:=by assumption):owp P n ops Q (⟨some d,.slice t x (some y) none none,ty,pos,aft,none⟩::rest) l w:=AX (Td g i hc) hd h
theorem Rv{t e:TypeId}[TSlice P t e]{z:Value}{size bytes:Nat}[TInfo P e z size bytes]{A a:Option Addr}{m c b f:Nat}{q:Int}{k:IntKind}{x y:Operand}(g:opv l x=some (.slice A m c))(i:opv l y=some (.int k q))(hd:Nat.blt d n=true)(h:owp P n ops Q rest ((d,.slice a b f)::l) w)(hc:Aav size A m c 0 q a b f:=by assumption):owp P n ops Q (⟨some d,.slice t x none (some y) none,ty,pos,aft,none⟩::rest) l w:=AX (Te g i hc) hd h
theorem EE[TInt P 59 .i64]{x:Operand}{q:Int}(a:opv l x=some (.int .i64 q))  (h:owp P n ops Q rest ((d,ZH q)::l) w) (hn:q≠0:=by decide) (hd:Nat.blt d n=true:=by exact rfl):owp P n ops Q (⟨some d,.makeInterface 59 x,ty,pos,aft,none⟩::rest) l w:=AX (XE a hn) hd h
theorem Rf{t u:TypeId}[TIface P t]{x:Operand}{k:Int}(a:opv l x=some (ZH k))(hd:Nat.blt d n=true)(b:k=0->owp P n ops Q rest ((d,.bool true)::l) w)(hf:¬(k=0)->owp P n ops Q rest ((d,.bool false)::l) w):owp P n ops Q (⟨some d,.binOp .eql t x (.const .nilIface) u,ty,pos,aft,none⟩::rest) l w:=Hn (Ti a) hd b hf
theorem CU{t u:TypeId}[TIface P t]{x:Operand}{k:Int}(a:opv l x=some (ZH k))  (b:k≠0->owp P n ops Q rest ((d,.bool true)::l) w) (hf:¬(k≠0)->owp P n ops Q rest ((d,.bool false)::l) w) (hd:Nat.blt d n=true:=by exact rfl):owp P n ops Q (⟨some d,.binOp .neq t x (.const .nilIface) u,ty,pos,aft,none⟩::rest) l w:=Hn (Tj a) hd b hf
variable {S:World → Prop}{r:List (Nat × Bool)}{i:Nat}
theorem Yx{u:TypeId}{x y:Operand}{a b c e:Int}(hi:ops[i]?=some ⟨some d,.binOp .eql 67 x y u,ty,pos,aft,none⟩)(f:opv l x=some (.agg #[.int .i64 a,.int .i64 b]))(g:opv l y=some (.agg #[.int .i64 c,.int .i64 e]))(hd:Nat.blt d n=true)(h:a=c/\b=e->hwp prog n ops Q S r ((d,.bool true)::l) w)(hf:¬(a=c/\b=e)->hwp prog n ops Q S r ((d,.bool false)::l) w):hwp prog n ops Q S ((i,true)::r) l w:=Au hi (AQ (λ_ _=>Yt f g) (hn:=hd) h hf)
theorem WA{u:TypeId}{x y:Operand}{a b c e:Int}(hi:ops[i]?=some ⟨some d,.binOp .neq 67 x y u,ty,pos,aft,none⟩)(f:opv l x=some (.agg #[.int .i64 a,.int .i64 b]))(g:opv l y=some (.agg #[.int .i64 c,.int .i64 e]))(hd:Nat.blt d n=true)(h:¬(a=c/\b=e)->hwp prog n ops Q S r ((d,.bool true)::l) w)(hf:¬(¬(a=c/\b=e))->hwp prog n ops Q S r ((d,.bool false)::l) w):hwp prog n ops Q S ((i,true)::r) l w:=Au hi (AQ (λ_ _=>Yu f g) (hn:=hd) h hf)
theorem Km{t u:TypeId}{x y:Operand}{a b c:Int}(hi:ops[i]?=some ⟨some d,.binOp .add t x y u,ty,pos,aft,none⟩)(e:opv l x=some (.int .i64 a))(f:opv l y=some (.int .i64 b))  (h:hwp P n ops Q S r ((d,.int .i64 c)::l) w) (he:X7 (a+b)=some c:=by assumption) (hd:Nat.blt d n=true:=by exact rfl):hwp P n ops Q S ((i,true)::r) l w:=Au hi (Bu (λ_ _=>Md e f he) hd h)
theorem WB{t u:TypeId}{x y:Operand}{a b c:Int}(e:opv l x=some (.int .i64 a))(f:opv l y=some (.int .i64 b))(hd:Nat.blt d n=true)(h:hwp P n ops Q S r ((d,.int .i64 c)::l) w)(he:X7 (a+b)=some c:=by assumption):hwq P n ops Q S ⟨some d,.binOp .add t x y u,ty,pos,aft,none⟩ r l w:=Bu (λ_ _=>Md e f he) hd h
theorem Yy{t u:TypeId}{x y:Operand}{a b c:Int}(hi:ops[i]?=some ⟨some d,.binOp .sub t x y u,ty,pos,aft,none⟩)(e:opv l x=some (.int .i64 a))(f:opv l y=some (.int .i64 b))(hd:Nat.blt d n=true)(h:hwp P n ops Q S r ((d,.int .i64 c)::l) w)(he:X7 (a-b)=some c:=by assumption):hwp P n ops Q S ((i,true)::r) l w:=Au hi (Bu (λ_ _=>Me e f he) hd h)
theorem TM{t u:TypeId}{x y:Operand}{a b c:Int}(e:opv l x=some (.int .i64 a))(f:opv l y=some (.int .i64 b))(hd:Nat.blt d n=true)(h:hwp P n ops Q S r ((d,.int .i64 c)::l) w)(he:X7 (a-b)=some c:=by assumption):hwq P n ops Q S ⟨some d,.binOp .sub t x y u,ty,pos,aft,none⟩ r l w:=Bu (λ_ _=>Me e f he) hd h
theorem Yz{t u:TypeId}{x y:Operand}{a b c:Int}(hi:ops[i]?=some ⟨some d,.binOp .mul t x y u,ty,pos,aft,none⟩)(e:opv l x=some (.int .i64 a))(f:opv l y=some (.int .i64 b))(hd:Nat.blt d n=true)(h:hwp P n ops Q S r ((d,.int .i64 c)::l) w)(he:X7 (a*b)=some c:=by assumption):hwp P n ops Q S ((i,true)::r) l w:=Au hi (Bu (λ_ _=>Pn e f he) hd h)
theorem CB{t e:TypeId}[TSlice P t e]{z:Value}{size bytes:Nat}[TInfo P e z size bytes]{x a:Operand}{k:IntKind}{A:Option Addr}{b o m c j:Nat}{q:Int}(hi:ops[i]?=some ⟨some d,.indexAddr t x a,ty,pos,aft,none⟩)(f:opv l x=some (.slice A m c))(g:opv l a=some (.int k q))  (h:hwp P n ops Q S r ((d,.pointer (some ⟨b,o+j*size,none⟩))::l) w) (hA:A=some ⟨b,o,none⟩:=by assumption) (hj:q=(j:Int):=by rfl) (hlt:j<m:=by assumption) (hd:Nat.blt d n=true:=by exact rfl):hwp P n ops Q S ((i,true)::r) l w:=Au hi (Bu (λ_ _=>HA f g hA hj hlt) hd h)
theorem Nt{t e:TypeId}[TSlice P t e]{z:Value}{size bytes:Nat}[TInfo P e z size bytes]{x a:Operand}{k:IntKind}{A:Option Addr}{b o m c j:Nat}{q:Int}(f:opv l x=some (.slice A m c))(g:opv l a=some (.int k q))(hd:Nat.blt d n=true)(h:hwp P n ops Q S r ((d,.pointer (some ⟨b,o+j*size,none⟩))::l) w)(hA:A=some ⟨b,o,none⟩:=by assumption)(hj:q=(j:Int):=by rfl)(hlt:j<m:=by assumption):hwq P n ops Q S ⟨some d,.indexAddr t x a,ty,pos,aft,none⟩ r l w:=Bu (λ_ _=>HA f g hA hj hlt) hd h
theorem XF{t e:TypeId}[TSlice P t e]{z:Value}{size bytes:Nat}[TInfo P e z size bytes]{A a:Option Addr}{m c b f:Nat}{q:Int}{k:IntKind}{x y:Operand}(hi:ops[i]?=some ⟨some d,.slice t x (some y) none none,ty,pos,aft,none⟩)(g:opv l x=some (.slice A m c))(j:opv l y=some (.int k q))(hd:Nat.blt d n=true)(h:hwp P n ops Q S r ((d,.slice a b f)::l) w)(hc:Aav size A m c q (m:Int) a b f:=by assumption):hwp P n ops Q S ((i,true)::r) l w:=Au hi (Bu (λ_ _=>Td g j hc) hd h)
theorem XG{t e:TypeId}[TSlice P t e]{z:Value}{size bytes:Nat}[TInfo P e z size bytes]{A a:Option Addr}{m c b f:Nat}{q:Int}{k:IntKind}{x y:Operand}(hi:ops[i]?=some ⟨some d,.slice t x none (some y) none,ty,pos,aft,none⟩)(g:opv l x=some (.slice A m c))(j:opv l y=some (.int k q))(hd:Nat.blt d n=true)(h:hwp P n ops Q S r ((d,.slice a b f)::l) w)(hc:Aav size A m c 0 q a b f:=by assumption):hwp P n ops Q S ((i,true)::r) l w:=Au hi (Bu (λ_ _=>Te g j hc) hd h)
end
end
section
open Go Go.RowKit
abbrev U64:=BitVec 64
theorem AcC(a:Int):IntKind.u64.wrap a=a%18446744073709551616:=by simp[IntKind.wrap,IntKind.bits,IntKind.signed]
def AaP(a:U64)(q:Int):Option U64:=if 0<=q then some (a>>>q.toNat)else none
def Ab8(a q:Int):Option Int:=if 0<=q then some (wr (a*2 ^ (min q.toNat 64)))else none
theorem Vu{a q c:Int}(h:Ab8 a q=some c):X2 c:=by
  unfold Ab8 at h;split at h
  . rw[<- sm h];exact Uk _
  . cases h
theorem Acb(a:U64):X2 a.toInt:=by
  have b:=BitVec.toInt_lt (x:=a);have c:=BitVec.le_toInt (x:=a);simp at b c;exact⟨by omega,by omega⟩
section
variable {P:Program}{l:Env}{w:World}{dst:Option Tmp}{ty:TypeId}{pos:String}{aft:Array Edge}
theorem XH{t u:TypeId}{x y:Operand}{a c:U64}{q:Int}{k:IntKind}(e:opv l x=some (.int .u64 (a.toNat:Int)))(f:opv l y=some (.int k q))(he:AaP a q=some c):Ev P ⟨dst,.binOp .shr t x y u,ty,pos,aft,none⟩ l w (.int .u64 (c.toNat:Int)):=λ_ _ d b=>by
  unfold AaP at he;split at he
  . rename_i hq;have hc:=sm he;subst hc;have h:(a.toNat:Int).fdiv (2 ^ (min q.toNat IntKind.u64.bits))=((a>>>q.toNat).toNat:Int):=by
      rw[BitVec.toNat_ushiftRight,Nat.shiftRight_eq_div_pow];show(a.toNat:Int).fdiv (2 ^ (min q.toNat 64))=_;have hl:=a.isLt;rw[Int.fdiv_eq_ediv_of_nonneg _ (by exact_mod_cast W6 (2 ^ (min q.toNat 64)))];by_cases hk:q.toNat<=64
      . rw[R7 hk,Int.natCast_ediv,Int.natCast_pow];rfl
      . rw[Nat.min_eq_right (by omega)];have g:a.toNat/2 ^ q.toNat=0:=Nat.div_eq_of_lt (K5 hl (Nat.pow_le_pow_right (by decide) (by omega)));rw[g];omega
    have hn:¬q<0:=(by omega);simp[execOp,b.eval e,b.eval f,eqGuard,binOp,Op.shift,hn,h]
  . cases he
theorem XI{s t:TypeId}{k:IntKind}[hs:TInt P s k][b:TInt P t .u64]{x:Operand}{a:Int}(c:opv l x=some (.int k a)):Ev P ⟨dst,.convert s t x,ty,pos,aft,none⟩ l w (.int .u64 ((BitVec.ofInt 64 a).toNat:Int)):=λ_ _ d e=>by
  have h:IntKind.u64.wrap a=((BitVec.ofInt 64 a).toNat:Int):=by
    rw[AcC,BitVec.toNat_ofInt];have:(0:Int)<=a%18446744073709551616:=(by omega);simp;omega
  simp[execOp,e.eval c,convert,run_underlying hs.eq,run_underlying b.eq,Conv.intToInt,h]
theorem XJ{s t:TypeId}[hs:TInt P s .u64][b:TInt P t .i64]{x:Operand}{a:U64}(c:opv l x=some (.int .u64 (a.toNat:Int))):Ev P ⟨dst,.convert s t x,ty,pos,aft,none⟩ l w (.int .i64 a.toInt):=λ_ _ d e=>by
  have h:IntKind.i64.wrap (a.toNat:Int)=a.toInt:=by
    rw[IntKind.wrap_i64,BitVec.toInt_eq_toNat_cond];have:=a.isLt;split<;>omega
  simp[execOp,e.eval c,convert,run_underlying hs.eq,run_underlying b.eq,Conv.intToInt,h]
end
section
variable {P:Program}{n:Nat}{ops:Array Oper}{Q:YX}{rest:List Oper}{l:Env}{w:World}{d:Tmp}{ty:TypeId}{pos:String}{aft:Array Edge}
theorem YA{t u:TypeId}{x y:Operand}{a c:U64}{q:Int}{k:IntKind}(b:opv l x=some (.int .u64 (a.toNat:Int)))(e:opv l y=some (.int k q))(hd:Nat.blt d n=true)(h:owp P n ops Q rest ((d,.int .u64 (c.toNat:Int))::l) w)(he:AaP a q=some c:=by assumption):owp P n ops Q (⟨some d,.binOp .shr t x y u,ty,pos,aft,none⟩::rest) l w:=AX (XH b e he) hd h
theorem YB{s t:TypeId}{k:IntKind}[TInt P s k][TInt P t .u64]{x:Operand}{a:Int}(b:opv l x=some (.int k a))(hd:Nat.blt d n=true)(h:owp P n ops Q rest ((d,.int .u64 ((BitVec.ofInt 64 a).toNat:Int))::l) w)  : owp P n ops Q (⟨some d,.convert s t x,ty,pos,aft,none⟩::rest) l w:=AX (XI b) hd h
theorem YC{s t:TypeId}[TInt P s .u64][TInt P t .i64]{x:Operand}{a:U64}(b:opv l x=some (.int .u64 (a.toNat:Int)))(hd:Nat.blt d n=true)(h:owp P n ops Q rest ((d,.int .i64 a.toInt)::l) w)  : owp P n ops Q (⟨some d,.convert s t x,ty,pos,aft,none⟩::rest) l w:=AX (XJ b) hd h
variable {S:World → Prop}{r:List (Nat × Bool)}{i:Nat}
end
end
section
open Go Go.RowKit
class TCon(P:Program)(t:TypeId):Prop where eq:∃d,P.underlying t=some d/\(match d with|.interface _=>false|_=>true)=true
instance{P:Program}{t e:TypeId}[h:TPtr P t e]:TCon P t:=⟨⟨_,h.eq,rfl⟩⟩
instance{P:Program}{t:TypeId}[h:TAgg P t]:TCon P t:=⟨by obtain⟨d,h1,a⟩:=h.eq;exact⟨d,h1,by cases d<;>first|rfl|cases a⟩⟩
class TMth(P:Program)(t:TypeId)(name:String)(f:outParam FuncId)(b:outParam Bool):Prop where
  eq:((P.info? t).bind λi=>i.methods.find? (·.name==name)).map (λm=>(m.path.toList,m.func))=some ([],some (f,b))
def Mth(P:Program)(t:TypeId)(v:Value)(name:String)(w:World)(f:FuncId)(r:Value):Prop:=∀d,(method (P.types.size+Made.depth) t v name).run P (dr w d)=.ok (f,r) (dr w d)
section
variable {P:Program}{t e:TypeId}{name:String}{f:FuncId}{w:World}
theorem TMth.row{b:Bool}(h:TMth P t name f b):∃i m,P.info? t=some i/\i.methods.find? (·.name==name)=some m/\m.path.toList=[]/\m.func=some (f,b):=by
  obtain⟨m,h1,h2⟩:=F0.1 h.eq;obtain⟨i,h3,h4⟩:=Option.bind_eq_some_iff.1 h1;injection h2 with a c;exact⟨i,m,h3,h4,a,c⟩
theorem Ky{v:Value}[hm:TMth P t name f true][a:TPtr P t e]:Mth P t v name w f v:=λd=>by
  obtain⟨i,m,h1,h2,h3,h4⟩:=hm.row;show(method ((P.types.size+99)+1) t v name).run P (dr w d)=_;rw[method];simp[typeInfo,h1,h2,h3,h4,follow,receiverAt,run_underlying a.eq,Place.get]
theorem SE(b:Array TypeId)(a:Addr)(x y:String):(Builtin.ssaWrapNilChk_ b t #[.pointer (some a),strVal x,strVal y]).run P w=.ok (.pointer (some a)) w:=rfl
theorem FF{a:Addr}{u:Value}[hm:TMth P t name f false][c:TPtr P t e][TOne P e](hc:w.cell? a=some u):Mth P t (.pointer (some a)) name w f u:=λd=>by
  obtain⟨i,m,h1,h2,h3,h4⟩:=hm.row;have g:m.path=#[]:=(by cases b:m.path;rw[b]at h3;simp at h3;rw[h3]);have hl:(load a).run P (dr w d)=.ok u (dr w d):=(by simp[load,Sem.run,LD,hc]);show(method ((P.types.size+99)+1) t _ name).run P (dr w d)=_;rw[method];simp[typeInfo,h1,h2,h4,g,follow,receiverAt,run_underlying c.eq,Place.get,SE,asAddr,loadVar,Ja,LD,hc]
end
section
variable {P:Program}{n:Nat}{ops:Array Oper}{Q:YX}{rest:List Oper}{l:Env}{w:World}{d:Tmp}{ty:TypeId}{pos:String}{aft:Array Edge}
theorem Tk{f:FuncId}[hf:Callable P f]{y:Operand}{name:String}{t:TypeId}{v r:Value}{xs:List Operand}{vs:List Value}{i:Array TypeId}{R:Value->World->Prop}(hm:Mth P t v name w f r)(k:opv l y=some (.iface t v))(m:Y3 l xs=some vs)(hd:Nat.blt d n=true)(hc:Fn P f (r::vs) w R)
    (h:∀v w',R v w'->owp P n ops Q rest ((d,v)::l) w'):owp P n ops Q (⟨some d,.call { callee:=.invoke y name,args:=xs.toArray,argTypes:=i },ty,pos,aft,none⟩::rest) l w :=
  Kw λa e b K o=>by
    obtain⟨j,h1,h2,h3⟩:=hf.eq;have c:¬j.body=none:=λe=>(by rw[e]at h2;simp at h2);have g : ¬j.name = "runtime.NumGoroutine" := fun e=>by rw[e]at h3; simp at h3
    unfold Oper.wp;have:(execOp a.eval ⟨some d,.call { callee:=.invoke y name,args:=xs.toArray,argTypes:=i },ty,pos,aft,none⟩).run P (dr w e)=.ok (.enter f (r::vs).toArray) (dr w e):=by
      simp[execOp,resolve,b.eval k,invoke,callMethod,hm e,callFunc,h1,c,g,b.evals m]
    rw[this];exact(hc e).mono λ_ _ ⟨v,w₀,d',he,hw,hR⟩=>by subst he;subst hw;exact o _ _ (h v w₀ hR _ _ (b.put hd v))
theorem HV{g:Nat->Prop}{f:FuncId}[Callable P f]{y:Operand}{name:String}{t:TypeId}{v r:Value}{xs:List Operand}{vs:List Value}{b:Array TypeId}{O:Lab}{R:Value->World->Lab->Prop}
    (hc:Fn P f (r::vs) w λv w'=>∃a,St g w O w' a/\R v w' a) (hm:Mth P t v name w f r) (c:opv l y=some (.iface t v)) (e:Y3 l xs=some vs)
    (h:∀v w' a,St g w O w' a->R v w' a->owp P n ops Q rest ((d,v)::l) w') (hd:Nat.blt d n=true:=by exact rfl):owp P n ops Q (⟨some d,.call { callee:=.invoke y name,args:=xs.toArray,argTypes:=b },ty,pos,aft,none⟩::rest) l w :=
  Tk hm c e hd hc λv w' ⟨a,hS,hR⟩=>h v w' a hS hR
theorem Iy{f:FuncId}[Callable P f]{y:Operand}{name:String}{t:TypeId}{v r:Value}{xs:List Operand}{vs:List Value}{a:Array TypeId}{O:Lab}{A:Nat->Prop}{R:World->(Nat->Prop)->Value->Prop}(hc:Fn P f (r::vs) w λv w'=>Ext w w'/\R w' (upA A w w') v)(hm:Mth P t v name w f r)(b:opv l y=some (.iface t v))(c:Y3 l xs=some vs)
    (h:∀v w' e,St nT w O w' e->R w' (upA A w w') v->owp P n ops Q rest ((d,v)::l) w') (hd:Nat.blt d n=true:=by exact rfl):owp P n ops Q (⟨some d,.call { callee:=.invoke y name,args:=xs.toArray,argTypes:=a },ty,pos,aft,none⟩::rest) l w :=
  Tk hm b c hd hc λv w' ⟨g,hR⟩=>h v w' (upO O w.heap.size λ_=>0) (g.st O _) hR
end
def Aaf(a b:Int):Option Int:=if 0<b then some (if 0<=a then a/b else -((-a)/b))else none
theorem PY{a b r:Int}(h:Aaf a b=some r)(d:X2 a):X2 r:=by
  unfold Aaf at h;split at h
  . rename_i hb;rw[<- sm h];unfold X2 at *
    split
    . rename_i c;have:=Int.ediv_le_self b c;have:=Int.ediv_nonneg c (show 0<=b by omega);omega
    . have c:0<=-a:=(by omega);have:=Int.ediv_le_self b c;have:=Int.ediv_nonneg c (show 0<=b by omega);omega
  . cases h
theorem XK{P:Program}{l:Env}{w:World}{dst:Option Tmp}{ty:TypeId}{pos:String}{aft:Array Edge}{t u:TypeId}{x y:Operand}{a b c:Int}(f:opv l x=some (.int .i64 a))(g:opv l y=some (.int .i64 b))(he:Aaf a b=some c)(hr:X2 a):Ev P ⟨dst,.binOp .quo t x y u,ty,pos,aft,none⟩ l w (.int .i64 c):=λ_ _ d e=>by
  have hc:=PY he hr;unfold Aaf at he;split at he
  . rename_i hb;have hn:b≠0:=(by omega);have h:a.tdiv b=c:=by
      rw[<- sm he];split
      . rename_i h0;exact Int.tdiv_eq_ediv_of_nonneg h0
      . rw[<- Int.tdiv_eq_ediv_of_nonneg (show 0<=-a by omega),Int.neg_tdiv,Int.neg_neg]
    simp[execOp,e.eval f,e.eval g,eqGuard,binOp,Op.intDiv,hn,h,wrap_i64 hc.1 hc.2]
  . cases he
structure An(t:TypeId)(α:Type) where
  x:α
instance{t:TypeId}{α:Type}[Rp α]:Rp (An t α) where
  isAgg:=false
  size:=1
  R w F cs a:=∃v,cs=[.iface t v]/\Vb w F v a.x
  len:=by rintro w F cs x ⟨v,rfl,_⟩;rfl
  one:=by
    rintro w F cs x ⟨v,rfl,_⟩ u hu;have:u=.iface t v:=(by simpa using hu);subst this;rfl
  agree:=by rintro w w' F cs x ⟨v,rfl,h⟩ ha;exact⟨v,rfl,h.agree ha⟩
  mono:=by rintro w F G cs x ⟨v,rfl,h⟩ ha;exact⟨v,rfl,h.mono ha⟩
theorem Vb.any{w:World}{F:Nat->Prop}{v:Value}{t:TypeId}{α:Type}[Rp α]{x:An t α}(h:Vb w F v x):∃u,v=.iface t u/\Vb w F u x.x:=by
  obtain⟨u,hu,h'⟩:=h;exact⟨u,by simpa using hu,h'⟩
theorem Zt{w:World}{F:Nat->Prop}{v:Value}{t:TypeId}{α:Type}[Rp α]{x:α}(h:Vb w F v x):Vb w F (.iface t v) (⟨x⟩:An t α):=⟨v,rfl,h⟩
section
variable {P:Program}{l:Env}{w:World}{dst:Option Tmp}{ty:TypeId}{pos:String}{aft:Array Edge}
theorem Us{t:TypeId}[hk:TCon P t]{x:Operand}{v:Value}(b:opv l x=some v):Ev P ⟨dst,.makeInterface t x,ty,pos,aft,none⟩ l w (.iface t v):=λ_ a d c=>by
  obtain⟨q,h1,e⟩:=hk.eq;cases q<;>first|(cases e;done)|simp[execOp,c.eval b,Instr.makeInterface,run_underlying h1]
theorem XL{s t:TypeId}[hk:TCon P t]{x:Operand}{v:Value}(b:opv l x=some (.iface t v)):Ev P ⟨dst,.typeAssert x s t true,ty,pos,aft,none⟩ l w (.tuple #[v,.bool true]):=λ_ a d c=>by
  obtain⟨q,h1,e⟩:=hk.eq;cases q<;>first|(cases e;done)|simp[execOp,c.eval b,Instr.typeAssert,run_underlying h1]
end
section
variable {P:Program}{n:Nat}{ops:Array Oper}{Q:YX}{S:World → Prop}{rest:List Oper}{r:List (Nat × Bool)}{l:Env}{w:World}{d i:Nat}{ty:TypeId}{pos:String}{aft:Array Edge}
theorem WC{t u:TypeId}{x y:Operand}{a b c:Int}(e:opv l x=some (.int .i64 a))(f:opv l y=some (.int .i64 b))(hd:Nat.blt d n=true)(h:owp P n ops Q rest ((d,.int .i64 c)::l) w)(he:Aaf a b=some c:=by assumption)(hr:X2 a:=by assumption):owp P n ops Q (⟨some d,.binOp .quo t x y u,ty,pos,aft,none⟩::rest) l w:=AX (XK e f he hr) hd h
theorem JM{t:TypeId}[TCon P t]{x:Operand}{v:Value}(a:opv l x=some v)  (h:owp P n ops Q rest ((d,.iface t v)::l) w) (hd:Nat.blt d n=true:=by exact rfl):owp P n ops Q (⟨some d,.makeInterface t x,ty,pos,aft,none⟩::rest) l w:=AX (Us a) hd h
theorem WD{t:TypeId}[TCon P t]{x:Operand}{v:Value}(hi:ops[i]?=some ⟨some d,.makeInterface t x,ty,pos,aft,none⟩)(a:opv l x=some v)(hd:Nat.blt d n=true)(h:hwp P n ops Q S r ((d,.iface t v)::l) w):hwp P n ops Q S ((i,true)::r) l w:=Au hi (Bu (λ_ _=>Us a) hd h)
theorem Nu{s t:TypeId}[TCon P t]{x:Operand}{v:Value}(a:opv l x=some (.iface t v))(hd:Nat.blt d n=true)(h:owp P n ops Q rest ((d,.tuple #[v,.bool true])::l) w):owp P n ops Q (⟨some d,.typeAssert x s t true,ty,pos,aft,none⟩::rest) l w:=AX (XL a) hd h
end
end
section
open Go Go.RowKit
def Hs{α:Type}[Rp α](Γ:List Fa)(v:Value)(xs:List α)(i:Nat):Prop:=(In Γ (.V v xs)/\i=0)\/∃e,In Γ (.R i e v xs)
section
variable {α:Type}[Rp α]{B:Bse}{Γ:List Fa}{w:World}{O:Lab}{i m c:Nat}{A:Option Addr}{xs:List α}{v:Value}
theorem Al.elem(d:Al B Γ w O)(h:Hs Γ (.slice A m c) xs i){k:Nat}{x:α}(a:xs[k]?=some x) :
    ∃b o cs,A=some ⟨b,o,none⟩/\Fr i w O b/\k<m/\cellsAt w b (o+k*Rp.size α) cs/\Rp.R w (Fr 0 w O) cs x:=by
  rcases h with⟨h,rfl⟩|⟨e,h⟩
  . exact Vb.elem (d.at h) a
  . exact Rw.elemF (d.at h) a
theorem Al.len(a:Al B Γ w O)(h:Hs Γ (.slice A m c) xs i):m=xs.length/\m<=9223372036854775807:=by
  rcases h with⟨h,rfl⟩|⟨e,h⟩
  . have h:=Vb.len (a.at h);exact⟨h.1,Bo h⟩
  . have h:=Rw.len (a.at h);exact⟨h.1,Bo h⟩
theorem Al.blk{g:Nat}{t:TypeId}{cs:List Value}(a:Al B Γ w O)(h:In Γ (.L i g t cs)):Blk w g t cs:=(show Lc i w O g t cs from a.at h).1
theorem Al.rd(a:Al B Γ w O)(h:Hs Γ v xs i):Rd w (Fr 0 w O) v xs:=by
  rcases h with⟨h,rfl⟩|⟨e,h⟩
  . exact Vb.rd (a.at h)
  . exact Rw.rd (a.at h)
end
theorem In.go{Γ:List Fa}{f:Fa}(h:In Γ f:=by((repeat (first|exact In.hd|refine In.tl ?_))<;>fail)):In Γ f:=h
theorem Hs.go{α:Type}[Rp α]{Γ:List Fa}{v:Value}{xs:List α}{i:Nat}(h:Hs Γ v xs i:=by first|exact Or.inl ⟨In.go,rfl⟩|exact Or.inr ⟨_,In.go⟩):Hs Γ v xs i:=h
theorem Al.x{B:Bse}{Γ:List Fa}{w:World}{O:Lab}{p:Prop}(a:Al B Γ w O:=by assumption)(h:In Γ (.X p):=by exact In.go):p:=a.at h
theorem zN{B:Bse}{Γ:List Fa}{w:World}{O:Lab}{α:Type}[Rp α]{i m c:Nat}{A:Option Addr}{xs:List α}(a:Al B Γ w O:=by assumption)(h:Hs Γ (.slice A m c) xs i:=by exact Hs.go):xs.length<=9223372036854775807:=by
  have h:=a.len h;rw[<- h.1];exact h.2
theorem zH{B:Bse}{Γ:List Fa}{w:World}{O:Lab}{α:Type}[Rp α]{i e m c:Nat}{A:Option Addr}{xs:List α}(a:Al B Γ w O:=by assumption)(h:In Γ (.R i e (.slice A m c) xs):=by exact In.go):m<=9223372036854775807:=(a.len (Or.inr ⟨_,h⟩)).2
theorem zI{n:Int}(h:X2 n:=by first|assumption|decide|exact Byt.rng _|exact Bx (by assumption)|exact rngNat zN|exact rngNat zH|exact Al.x|exact Uk _|exact Vs (by assumption)|exact WH (by assumption) zI|exact WI (by assumption) zI|exact rngMin zI zI|exact rngMax zI zI|exact rngNat (by assumption)|exact Vu (by assumption)|exact a zI (by assumption)|exact b _ _|(dsimp only;exact zI)):X2 n:=h
theorem zM{N:Nat}(h:N<=9223372036854775807:=by first|exact zN|exact zH|exact rngNat' zI|decide):N<=9223372036854775807:=h
theorem zS{s:ByteArray}(h:s.size<=9223372036854775807:=by first|assumption|decide|exact Al.x|exact catI_sz (by assumption)|(dsimp only;exact zS)):s.size<=9223372036854775807:=h
theorem zV{α:Type}[Rp α]{w:World}{O:Lab}{v:Value}{x:α}(h:Vb w (Fr 0 w O) v x:=by first
  |exact Al.at (f:=.V _ _) (by assumption) In.go
  |exact vInt zI
  |exact vBool
  |exact Vb.nil _ _
  |exact vErr zI
  |exact vErr0
  |exact vStr zS
  |exact vByte
  |(refine Vb.ofAgg rfl ?_;((repeat' (first|exact rfl|exact zI|exact zS|exact zV|refine⟨_,?_⟩|refine⟨?_,?_⟩))<;>fail))):Vb w (Fr 0 w O) v x:=h
theorem zA{α:Type}[Rp α]{B:Bse}{Γ:List Fa}{w:World}{O:Lab}{v:Value}{x:α}(a:Al B Γ w O:=by assumption)(h:Vb w (Fr 0 w O) v x:=by exact zV):Vb w (All w) v x:=h.mono Fr.lt
theorem zAr{α:Type}[Rp α]{B:Bse}{Γ:List Fa}{w:World}{O:Lab}{i:Nat}{e:TypeId}{v:Value}{x:List α}(a:Al B Γ w O:=by assumption)(h:In Γ (.R i e v x):=by exact In.go):Vb w (All w) v x:=Rw.all (a.at h)
theorem zVs{α:Type}[Rp α]{w:World}{O:Lab}{vs:List Value}{xs:List α}(h:Vall w (Fr 0 w O) vs xs:=by((repeat (first|exact trivial|refine⟨zV,?_⟩))<;>fail)):Vall w (Fr 0 w O) vs xs:=h
def lsO:List Value→Option (List Value)
  |[]=>some []
  |v::r=>match lsO r with
    |some r'=>some (v::r')
    |none=>none
theorem Rx:∀{l r:List Value},lsO l=some r->l=r
  |[],r,h=>R1 h
  |v::l,r,h=>by
    unfold lsO at h;cases hr:lsO l with
    |none=>rw[hr]at h;cases h
    |some r'=>rw[hr]at h;rw[Rx hr];exact R1 h
def clO(v:Value):Option (List Value):=lsO v.cells.toList
theorem Ut{v:Value}{cs:List Value}(h:clO v=some cs):v.cells.toList=cs:=Rx h
def stO(cs:List Value)(o:Nat)(vs:List Value):Option (List Value):=lsO (X8 cs o vs)
theorem XM{cs vs cs':List Value}{o:Nat}(h:stO cs o vs=some cs'):X8 cs o vs=cs':=Rx h
def dj:List Nat→List Nat→Bool
  |[],_=>true
  |i::a,ls=>match inK i ls with
    |true=>false
    |false=>dj a ls
theorem TN{ls:List Nat}:∀{a:List Nat},dj a ls=true->∀i∈a,¬i∈ls
  |[],_,i,h=>by simp at h
  |j  :: a,h,i,hi=>by
    unfold dj at h;cases hk:inK j ls with
    |true=>rw[hk]at h;cases h
    |false =>
      rw[hk]at h;rcases T8.1 hi with rfl|hi
      . exact Ns hk
      . exact TN h i hi
def Sq(S:World->Prop)(w:World)(O:Lab)(ls:List Nat):Prop:=∀w',S w'->∃a,St (·∈ls) w O w' a
theorem Sq.eq{w:World}{O:Lab}:Sq (λw'=>w'=w) w O []:=λw' e=>by subst e;exact⟨O,St.refl _ _ _⟩
theorem Sq.ss{w:World}{O:Lab}{ls:List Nat}:Sq (SS w O ls) w O ls:=λ_ h=>h
theorem Sq.go{S:World->Prop}{w:World}{O:Lab}{ls:List Nat}(h:Sq S w O ls:=by first|exact Sq.eq|exact Sq.ss):Sq S w O ls:=h
section
variable {S:World → Prop}{B:Bse}{Γ:List Fa}{w:World}{O:Lab}{ls:List Nat}{i g b o:Nat}{t:TypeId}{cs:List Value}
theorem Al.LS(c:Al B Γ w O)(hk:In Γ (.L i g t cs))(a:Sq S w O ls)(hd:dj [i] ls=true):∀w',S w'->Blk w' g t cs:=λw' h=>by
  obtain⟨b,hq⟩:=a w' h;exact(Lc.st (c.at hk) hq (TN hd i L0)).1
theorem Al.CS(d:Al B Γ w O)(hk:In Γ (.C i b o cs))(a:Sq S w O ls)(hd:dj [i] ls=true):∀w',S w'->cellsAt w' b o cs:=λw' h=>by
  obtain⟨c,hq⟩:=a w' h;have hc:Fr i w O b/\cellsAt w b o cs:=d.at hk;exact Ct (hq.agree (TN hd i L0)) hc.1 hc.2
end
theorem PZ{w:World}{b o k:Nat}{v:Value}{cs:List Value}(h:cellsAt w b o cs)(hc:cs[k]?=some v):w.cell? ⟨b,o+k,none⟩=some v:=DG h k v hc
section
variable {P:Program}{n:Nat}{ops:Array Oper}{Q:YX}{rest:List Oper}{l:Env}{w:World}{d:Tmp}{ty:TypeId}{pos:String}{aft:Array Edge}{B:Bse}{Γ:List Fa}{O:Lab}
theorem FG(i:Nat){α:Type}[Rp α]{e:TypeId}{v:Value}{xs:List α}{G:Prop}{c:List Fa}(h:∀a,Al B c w a->G)(d:Al B Γ w O:=by assumption)(hk:In Γ (.R i e v xs):=by exact In.go)(b:Aag i (.V v xs) Γ=some c:=by exact rfl)(hi:Nat.ble 2 i=true:=by exact rfl):G:=by
  obtain⟨a,hS,hv⟩:=Rw.freeze (d.at hk);exact h a (Al.so (f':=.V v xs) hi hv d hS b)
theorem q_S(ls:List Nat){G:Prop}(h:Al B (.S w O ls::Γ) w O->G)(a:Al B Γ w O:=by assumption):G:=h ⟨St.refl _ _ _,a⟩
theorem BC(i:Nat){t:TypeId}{z:Value}{size bytes:Nat}[TInfo P t z size bytes]{cs:List Value}(h:∀g w' a,Al B (.L i g t cs::Γ) w' a->owp P n ops Q rest ((d,.pointer (some ⟨g,0,none⟩))::l) w')(b:clO z=some cs:=by exact rfl)(f:Al B Γ w O:=by assumption)(hd:Nat.blt d n=true:=by exact rfl) :
    owp P n ops Q (⟨some d,.alloc t,ty,pos,aft,none⟩::rest) l w:=BF i O (hd:=hd) λg w' a c e=>h g w' a ⟨Ut b▸e,f.no c⟩
theorem Dx(i:Nat){t:TypeId}{x:Operand}{v:Value}{cs:List Value}(h:∀g w' a,Al B (.L i g t cs::Γ) w' a->owp P n ops Q rest ((d,.pointer (some ⟨g,0,none⟩))::l) w')(c:opv l x=some v:=by exact rfl)(b:clO v=some cs:=by exact rfl)(j:Al B Γ w O:=by assumption)(hd:Nat.blt d n=true:=by exact rfl) :
    owp P n ops Q (⟨some d,.box t x,ty,pos,aft,none⟩::rest) l w:=EB i O c (hd:=hd) λg w' a e f=>h g w' a ⟨Ut b▸f,j.no e⟩
theorem Bj{i:Nat}{t:TypeId}{z:Value}{size bytes:Nat}[TInfo P t z size bytes]{x y:Operand}{g o:Nat}{a:TypeId}{v:Value}{cs:List Value}
    {e:List Fa} {cs':List Value} (h:∀w',Al B e w' O->owp P n ops Q rest l w') (f:opv l x=some (.pointer (some ⟨g,o,none⟩)):=by exact rfl) (j:opv l y=some v:=by exact rfl) (q:Al B Γ w O:=by assumption) (hk:In Γ (.L i g a cs):=by exact In.go) (b:stO cs o v.cells.toList=some cs':=by exact rfl) (c:Aag i (.L i g a cs') Γ=some e:=by exact rfl)
    (hi:Nat.ble 2 i=true:=by exact rfl) (d:v.cells.toList.length=size:=by exact rfl) (hl:o+size<=cs.length:=by exact(Bi)) (k:∀u∈v.cells.toList,u.oneCell'=true:=by first|exact allOne|simp[Value.cells,Value.oneCell',OB]) :
    owp P n ops Q (⟨none,.store t x y,ty,pos,aft,none⟩::rest) l w:=AO (q.at hk) f j d hl k λw' m p=>h w' (Al.so (f':=.L i g a cs') hi (XM b▸p) q m c)
theorem Bt{i:Nat}{t:TypeId}[TOne P t]{x:Operand}{g k:Nat}{a:TypeId}{v:Value}{cs:List Value}(h:owp P n ops Q rest ((d,v)::l) w)(b:opv l x=some (.pointer (some ⟨g,k,none⟩)):=by exact rfl)(c:Al B Γ w O:=by assumption)(hk:In Γ (.L i g a cs):=by exact In.go)(hc:cs[k]?=some v:=by exact rfl)(hd:Nat.blt d n=true:=by exact rfl) :
    owp P n ops Q (⟨some d,.load t x,ty,pos,aft,none⟩::rest) l w:=AX (Cv b (Blk.cell ((c.at hk).1) hc)) hd h
theorem Eh{i:Nat}{t:TypeId}[TAgg P t]{z:Value}{size bytes:Nat}[TInfo P t z size bytes]{x:Operand}{g:Nat}{a:TypeId}{cs:List Value}(h:owp P n ops Q rest ((d,.agg cs.toArray)::l) w)(b:opv l x=some (.pointer (some ⟨g,0,none⟩)):=by exact rfl)(c:Al B Γ w O:=by assumption)(hk:In Γ (.L i g a cs):=by exact In.go)(hl:cs.length=size:=by exact rfl)(hd:Nat.blt d n=true:=by exact rfl) :
    owp P n ops Q (⟨some d,.load t x,ty,pos,aft,none⟩::rest) l w:=AX (EL b hl (Blk.cellsAt ((c.at hk).1))) hd h
theorem Je{i:Nat}{t:TypeId}[TOne P t]{x:Operand}{b o k:Nat}{v:Value}{cs:List Value}(h:owp P n ops Q rest ((d,v)::l) w)(a:opv l x=some (.pointer (some ⟨b,o+k,none⟩)):=by exact rfl)(c:Al B Γ w O:=by assumption)(hk:In Γ (.C i b o cs):=by exact In.go)(hc:cs[k]?=some v:=by exact rfl)(hd:Nat.blt d n=true:=by exact rfl) :
    owp P n ops Q (⟨some d,.load t x,ty,pos,aft,none⟩::rest) l w:=AX (Cv a (PZ (Al.at (f:=.C _ _ _ _) c hk |>.2) hc)) hd h
theorem Dk{i:Nat}{t:TypeId}[TOne P t]{x:Operand}{b o:Nat}{v:Value}{cs:List Value}(h:owp P n ops Q rest ((d,v)::l) w)(a:opv l x=some (.pointer (some ⟨b,o,none⟩)):=by exact rfl)(c:Al B Γ w O:=by assumption)(hk:In Γ (.C i b o (v::cs)):=by exact In.go)(hd:Nat.blt d n=true:=by exact rfl) :
    owp P n ops Q (⟨some d,.load t x,ty,pos,aft,none⟩::rest) l w:=AX (Cv a (Al.at (f:=.C _ _ _ _) c hk |>.2).1) hd h
theorem DP{i:Nat}{t:TypeId}[TAgg P t]{z:Value}{size bytes:Nat}[TInfo P t z size bytes]{x:Operand}{b o:Nat}{cs:List Value}(h:owp P n ops Q rest ((d,.agg cs.toArray)::l) w)(a:opv l x=some (.pointer (some ⟨b,o,none⟩)):=by exact rfl)(c:Al B Γ w O:=by assumption)(hk:In Γ (.C i b o cs):=by exact In.go)(hl:cs.length=size:=by exact rfl)(hd:Nat.blt d n=true:=by exact rfl) :
    owp P n ops Q (⟨some d,.load t x,ty,pos,aft,none⟩::rest) l w:=AX (EL a hl (Al.at (f:=.C _ _ _ _) c hk |>.2)) hd h
variable {S:World → Prop}{r:List (Nat × Bool)}{q:Nat}{ls:List Nat}
theorem Hy{i:Nat}{t:TypeId}[TOne P t]{x:Operand}{g k:Nat}{a:TypeId}{v:Value}{cs:List Value}(h:hwp P n ops Q S r ((d,v)::l) w)(b:opv l x=some (.pointer (some ⟨g,k,none⟩)):=by exact rfl)(f:Al B Γ w O:=by assumption)(hk:In Γ (.L i g a cs):=by exact In.go)(hc:cs[k]?=some v:=by exact rfl)(c:Sq S w O ls:=by exact Sq.go)(hj:dj [i] ls=true:=by exact rfl)(hd:Nat.blt d n=true:=by exact rfl) :
    hwq P n ops Q S ⟨some d,.load t x,ty,pos,aft,none⟩ r l w:=Bu (λ_ e=>Cv b (Blk.cell (f.LS hk c hj _ e) hc)) hd h
theorem CH{i:Nat}{t:TypeId}[TOne P t]{x:Operand}{g k:Nat}{a:TypeId}{v:Value}{cs:List Value}(hi:ops[q]?=some ⟨some d,.load t x,ty,pos,aft,none⟩)(h:hwp P n ops Q S r ((d,v)::l) w)(b:opv l x=some (.pointer (some ⟨g,k,none⟩)):=by exact rfl)(f:Al B Γ w O:=by assumption)(hk:In Γ (.L i g a cs):=by exact In.go)(hc:cs[k]?=some v:=by exact rfl)(c:Sq S w O ls:=by exact Sq.go)(hj:dj [i] ls=true:=by exact rfl)(hd:Nat.blt d n=true:=by exact rfl) :
    hwp P n ops Q S ((q,true)::r) l w:=Au hi (Bu (λ_ e=>Cv b (Blk.cell (f.LS hk c hj _ e) hc)) hd h)
theorem YD{i:Nat}{t:TypeId}[TAgg P t]{z:Value}{size bytes:Nat}[TInfo P t z size bytes]{x:Operand}{g:Nat}{a:TypeId}{cs:List Value}(h:hwp P n ops Q S r ((d,.agg cs.toArray)::l) w)(b:opv l x=some (.pointer (some ⟨g,0,none⟩)):=by exact rfl)(f:Al B Γ w O:=by assumption)(hk:In Γ (.L i g a cs):=by exact In.go)(hl:cs.length=size:=by exact rfl)(c:Sq S w O ls:=by exact Sq.go)(hj:dj [i] ls=true:=by exact rfl)(hd:Nat.blt d n=true:=by exact rfl) :
    hwq P n ops Q S ⟨some d,.load t x,ty,pos,aft,none⟩ r l w:=Bu (λ_ e=>EL b hl (Blk.cellsAt (f.LS hk c hj _ e))) hd h
theorem Nv{i:Nat}{t:TypeId}[TAgg P t]{z:Value}{size bytes:Nat}[TInfo P t z size bytes]{x:Operand}{g:Nat}{a:TypeId}{cs:List Value}(hi:ops[q]?=some ⟨some d,.load t x,ty,pos,aft,none⟩)(h:hwp P n ops Q S r ((d,.agg cs.toArray)::l) w)(b:opv l x=some (.pointer (some ⟨g,0,none⟩)):=by exact rfl)(f:Al B Γ w O:=by assumption)(hk:In Γ (.L i g a cs):=by exact In.go)(hl:cs.length=size:=by exact rfl)(c:Sq S w O ls:=by exact Sq.go)(hj:dj [i] ls=true:=by exact rfl)(hd:Nat.blt d n=true:=by exact rfl) :
    hwp P n ops Q S ((q,true)::r) l w:=Au hi (Bu (λ_ e=>EL b hl (Blk.cellsAt (f.LS hk c hj _ e))) hd h)
theorem Nw{i:Nat}{t:TypeId}[TOne P t]{x:Operand}{b o k:Nat}{v:Value}{cs:List Value}(h:hwp P n ops Q S r ((d,v)::l) w)(a:opv l x=some (.pointer (some ⟨b,o+k,none⟩)):=by exact rfl)(f:Al B Γ w O:=by assumption)(hk:In Γ (.C i b o cs):=by exact In.go)(hc:cs[k]?=some v:=by exact rfl)(c:Sq S w O ls:=by exact Sq.go)(hj:dj [i] ls=true:=by exact rfl)(hd:Nat.blt d n=true:=by exact rfl) :
    hwq P n ops Q S ⟨some d,.load t x,ty,pos,aft,none⟩ r l w:=Bu (λ_ e=>Cv a (PZ (f.CS hk c hj _ e) hc)) hd h
theorem Jf{i:Nat}{t:TypeId}[TOne P t]{x:Operand}{b o k:Nat}{v:Value}{cs:List Value}(hi:ops[q]?=some ⟨some d,.load t x,ty,pos,aft,none⟩)(h:hwp P n ops Q S r ((d,v)::l) w)(a:opv l x=some (.pointer (some ⟨b,o+k,none⟩)):=by exact rfl)(f:Al B Γ w O:=by assumption)(hk:In Γ (.C i b o cs):=by exact In.go)(hc:cs[k]?=some v:=by exact rfl)(c:Sq S w O ls:=by exact Sq.go)(hj:dj [i] ls=true:=by exact rfl)(hd:Nat.blt d n=true:=by exact rfl) :
    hwp P n ops Q S ((q,true)::r) l w:=Au hi (Bu (λ_ e=>Cv a (PZ (f.CS hk c hj _ e) hc)) hd h)
theorem Jg{i:Nat}{t:TypeId}[TOne P t]{x:Operand}{b o:Nat}{v:Value}{cs:List Value}(h:hwp P n ops Q S r ((d,v)::l) w)(a:opv l x=some (.pointer (some ⟨b,o,none⟩)):=by exact rfl)(f:Al B Γ w O:=by assumption)(hk:In Γ (.C i b o (v::cs)):=by exact In.go)(c:Sq S w O ls:=by exact Sq.go)(hj:dj [i] ls=true:=by exact rfl)(hd:Nat.blt d n=true:=by exact rfl) :
    hwq P n ops Q S ⟨some d,.load t x,ty,pos,aft,none⟩ r l w:=Bu (λ_ e=>Cv a (f.CS hk c hj _ e).1) hd h
theorem Fz{i:Nat}{t:TypeId}[TOne P t]{x:Operand}{b o:Nat}{v:Value}{cs:List Value}(hi:ops[q]?=some ⟨some d,.load t x,ty,pos,aft,none⟩)(h:hwp P n ops Q S r ((d,v)::l) w)(a:opv l x=some (.pointer (some ⟨b,o,none⟩)):=by exact rfl)(f:Al B Γ w O:=by assumption)(hk:In Γ (.C i b o (v::cs)):=by exact In.go)(c:Sq S w O ls:=by exact Sq.go)(hj:dj [i] ls=true:=by exact rfl)(hd:Nat.blt d n=true:=by exact rfl) :
    hwp P n ops Q S ((q,true)::r) l w:=Au hi (Bu (λ_ e=>Cv a (f.CS hk c hj _ e).1) hd h)
theorem Ry{i:Nat}{t:TypeId}[TAgg P t]{z:Value}{size bytes:Nat}[TInfo P t z size bytes]{x:Operand}{b o:Nat}{cs:List Value}(hi:ops[q]?=some ⟨some d,.load t x,ty,pos,aft,none⟩)(h:hwp P n ops Q S r ((d,.agg cs.toArray)::l) w)(a:opv l x=some (.pointer (some ⟨b,o,none⟩)):=by exact rfl)(f:Al B Γ w O:=by assumption)(hk:In Γ (.C i b o cs):=by exact In.go)(hl:cs.length=size:=by exact rfl)(c:Sq S w O ls:=by exact Sq.go)(hj:dj [i] ls=true:=by exact rfl)(hd:Nat.blt d n=true:=by exact rfl) :
    hwp P n ops Q S ((q,true)::r) l w:=Au hi (Bu (λ_ e=>EL a hl (f.CS hk c hj _ e)) hd h)
theorem CE{α:Type}[Rp α]{K:Bse->List Fa->World->Lab->Nat->Nat->Nat->α->Prop->Prop}[f:Ec α K]{t e:TypeId}[TSlice P t e]{z:Value}{size bytes:Nat}[TInfo P e z size bytes]{x y:Operand}{k:IntKind}{A:Option Addr}{i m c j:Nat}{a:α}{xs:List α}
    (h:∀b o,A=some ⟨b,o,none⟩->K B Γ w O i b (o+j*size) a (owp P n ops Q rest ((d,.pointer (some ⟨b,o+j*size,none⟩))::l) w)) (g:opv l x=some (.slice A m c):=by exact rfl) (p:opv l y=some (.int k (j:Int)):=by exact rfl) (q:Al B Γ w O:=by assumption) (hs:Hs Γ (.slice A m c) xs i:=by exact Hs.go) (hk:xs[j]?=some a:=by assumption) (hz:size=Rp.size α:=by exact rfl) (hd:Nat.blt d n=true:=by exact rfl) :
    owp P n ops Q (⟨some d,.indexAddr t x y,ty,pos,aft,none⟩::rest) l w:=by
  subst hz;obtain⟨b,o,cs,hA,hF,hlt,hc,hR⟩:=q.elem hs hk;exact AX (HA g p hA rfl hlt) hd (f.ec q hF hc hR (h b o hA))
theorem YE{α:Type}[Rp α]{K:Bse->List Fa->World->Lab->Nat->Nat->Nat->α->Prop->Prop}[f:Ec α K]{t e:TypeId}[TSlice P t e]{z:Value}{size bytes:Nat}[TInfo P e z size bytes]{x y:Operand}{k:IntKind}{A:Option Addr}{i m c j:Nat}{a:α}{xs:List α}
    (h:∀b o,A=some ⟨b,o,none⟩->K B Γ w O i b (o+j*size) a (hwp P n ops Q S r ((d,.pointer (some ⟨b,o+j*size,none⟩))::l) w)) (g:opv l x=some (.slice A m c):=by exact rfl) (p:opv l y=some (.int k (j:Int)):=by exact rfl) (q:Al B Γ w O:=by assumption) (hs:Hs Γ (.slice A m c) xs i:=by exact Hs.go) (hk:xs[j]?=some a:=by assumption) (hz:size=Rp.size α:=by exact rfl) (hd:Nat.blt d n=true:=by exact rfl) :
    hwq P n ops Q S ⟨some d,.indexAddr t x y,ty,pos,aft,none⟩ r l w:=by
  subst hz;obtain⟨b,o,cs,hA,hF,hlt,hc,hR⟩:=q.elem hs hk;exact Bu (λ_ _=>HA g p hA rfl hlt) hd (f.ec q hF hc hR (h b o hA))
theorem Kn{α:Type}[Rp α]{K:Bse->List Fa->World->Lab->Nat->Nat->Nat->α->Prop->Prop}[f:Ec α K]{t e:TypeId}[TSlice P t e]{z:Value}{size bytes:Nat}[TInfo P e z size bytes]{x y:Operand}{k:IntKind}{A:Option Addr}{i m c j:Nat}{a:α}{xs:List α}(hi:ops[q]?=some ⟨some d,.indexAddr t x y,ty,pos,aft,none⟩)
    (h:∀b o,A=some ⟨b,o,none⟩->K B Γ w O i b (o+j*size) a (hwp P n ops Q S r ((d,.pointer (some ⟨b,o+j*size,none⟩))::l) w)) (g:opv l x=some (.slice A m c):=by exact rfl) (p:opv l y=some (.int k (j:Int)):=by exact rfl) (s:Al B Γ w O:=by assumption) (hs:Hs Γ (.slice A m c) xs i:=by exact Hs.go) (hk:xs[j]?=some a:=by assumption) (hz:size=Rp.size α:=by exact rfl) (hd:Nat.blt d n=true:=by exact rfl) :
    hwp P n ops Q S ((q,true)::r) l w:=by
  subst hz;obtain⟨b,o,cs,hA,hF,hlt,hc,hR⟩:=s.elem hs hk;exact Au hi (Bu (λ_ _=>HA g p hA rfl hlt) hd (f.ec s hF hc hR (h b o hA)))
theorem FT{α:Type}[Rp α]{K:Bse->List Fa->World->Lab->Nat->Nat->Nat->α->Prop->Prop}[f:Ec α K]{t e:TypeId}[TSlice P t e]{z:Value}{size bytes:Nat}[TInfo P e z size bytes]{x y:Operand}{k:IntKind}{A:Option Addr}{i m c:Nat}{s:Int}{a:α}{xs:List α}
    (h:∀b o,A=some ⟨b,o,none⟩->s=(s.toNat:Int)->xs[s.toNat]?=some a->K B Γ w O i b (o+s.toNat*size) a (owp P n ops Q rest ((d,.pointer (some ⟨b,o+s.toNat*size,none⟩))::l) w)) (g:opv l x=some (.slice A m c):=by exact rfl) (j:opv l y=some (.int k s):=by exact rfl) (p:Al B Γ w O:=by assumption) (hs:Hs Γ (.slice A m c) xs i:=by exact Hs.go) (hk:atI xs s=some a:=by assumption) (hz:size=Rp.size α:=by exact rfl) (hd:Nat.blt d n=true:=by exact rfl) :
    owp P n ops Q (⟨some d,.indexAddr t x y,ty,pos,aft,none⟩::rest) l w:=by
  subst hz;obtain⟨hj,hk2⟩:=BJ hk;obtain⟨b,o,cs,hA,hF,hlt,hc,hR⟩:=p.elem hs hk2;exact AX (HA g j hA hj hlt) hd (f.ec p hF hc hR (h b o hA hj hk2))
theorem HN{α:Type}[Rp α]{K:Bse->List Fa->World->Lab->Nat->Nat->Nat->α->Prop->Prop}[f:Ec α K]{t e:TypeId}[TSlice P t e]{z:Value}{size bytes:Nat}[TInfo P e z size bytes]{x y:Operand}{k:IntKind}{A:Option Addr}{i m c:Nat}{s:Int}{a:α}{xs:List α}
    (h:∀b o,A=some ⟨b,o,none⟩->s=(s.toNat:Int)->xs[s.toNat]?=some a->K B Γ w O i b (o+s.toNat*size) a (hwp P n ops Q S r ((d,.pointer (some ⟨b,o+s.toNat*size,none⟩))::l) w)) (g:opv l x=some (.slice A m c):=by exact rfl) (j:opv l y=some (.int k s):=by exact rfl) (p:Al B Γ w O:=by assumption) (hs:Hs Γ (.slice A m c) xs i:=by exact Hs.go) (hk:atI xs s=some a:=by assumption) (hz:size=Rp.size α:=by exact rfl) (hd:Nat.blt d n=true:=by exact rfl) :
    hwq P n ops Q S ⟨some d,.indexAddr t x y,ty,pos,aft,none⟩ r l w:=by
  subst hz;obtain⟨hj,hk2⟩:=BJ hk;obtain⟨b,o,cs,hA,hF,hlt,hc,hR⟩:=p.elem hs hk2;exact Bu (λ_ _=>HA g j hA hj hlt) hd (f.ec p hF hc hR (h b o hA hj hk2))
theorem Ei{α:Type}[Rp α]{K:Bse->List Fa->World->Lab->Nat->Nat->Nat->α->Prop->Prop}[f:Ec α K]{t e:TypeId}[TSlice P t e]{z:Value}{size bytes:Nat}[TInfo P e z size bytes]{x y:Operand}{k:IntKind}{A:Option Addr}{i m c:Nat}{s:Int}{a:α}{xs:List α}(hi:ops[q]?=some ⟨some d,.indexAddr t x y,ty,pos,aft,none⟩)
    (h:∀b o,A=some ⟨b,o,none⟩->s=(s.toNat:Int)->xs[s.toNat]?=some a->K B Γ w O i b (o+s.toNat*size) a (hwp P n ops Q S r ((d,.pointer (some ⟨b,o+s.toNat*size,none⟩))::l) w)) (g:opv l x=some (.slice A m c):=by exact rfl) (j:opv l y=some (.int k s):=by exact rfl) (p:Al B Γ w O:=by assumption) (hs:Hs Γ (.slice A m c) xs i:=by exact Hs.go) (hk:atI xs s=some a:=by assumption) (hz:size=Rp.size α:=by exact rfl) (hd:Nat.blt d n=true:=by exact rfl) :
    hwp P n ops Q S ((q,true)::r) l w:=by
  subst hz;obtain⟨hj,hk2⟩:=BJ hk;obtain⟨b,o,cs,hA,hF,hlt,hc,hR⟩:=p.elem hs hk2;exact Au hi (Bu (λ_ _=>HA g j hA hj hlt) hd (f.ec p hF hc hR (h b o hA hj hk2)))
theorem FA{α:Type}[Rp α]{i:Nat}{t e:TypeId}{z:Value}{size bytes:Nat}[TInfo P t z size bytes]{x y:Operand}{b o k m c:Nat}{A:Option Addr}{u:Value}{a a':α}{xs:List α}
    {f:List Fa} (h:∀w',Al B f w' O->owp P n ops Q rest l w') (g:opv l x=some (.pointer (some ⟨b,o+k*size,none⟩)):=by exact rfl) (j:opv l y=some u:=by exact rfl) (r:Al B Γ w O:=by assumption) (hA:A=some ⟨b,o,none⟩:=by assumption) (hs:In Γ (.R i e (.slice A m c) xs):=by exact In.go) (hk:xs[k]?=some a':=by assumption) (hu:Vb w (Fr 0 w O) u a:=by exact zV) (d:Aag i (.R i e (.slice A m c) (xs.set k a)) Γ=some f:=by exact rfl) (hz:size=Rp.size α:=by exact rfl) (hi:Nat.ble 2 i=true:=by exact rfl) :
    owp P n ops Q (⟨none,.store t x y,ty,pos,aft,none⟩::rest) l w:=FS hz (r.at hs) hu hA g j (Az hk) λw' p q=>h w' (Al.so (f':=.R i e _ _) hi q r p d)
theorem FB{α:Type}[Rp α](i:Nat){t e:TypeId}[TSlice P t e]{z:Value}{size bytes:Nat}[TInfo P e z size bytes]{x y:Operand}{k j:IntKind}{a:Int}{z0:α}{c:List α}(hm:mkI bytes z0 a=some c)
    (h:∀g m w' f,Al B (.R i e (.slice (some ⟨g,0,none⟩) c.length m) c::Γ) w' f->owp P n ops Q rest ((d,.slice (some ⟨g,0,none⟩) c.length m)::l) w')
    (o:opv l x=some (.int k a):=by exact rfl) (p:opv l y=some (.int j a):=by exact rfl) (u:Al B Γ w O:=by assumption) (hz0:Vb w (Fr 0 w O) z z0:=by exact zV) (hz1:z.cells=#[z]:=by exact rfl) (b:size=Rp.size α:=by exact rfl) (q:Rp.size α=1:=by exact rfl) (hi:Nat.ble 2 i=true:=by exact rfl) (hd:Nat.blt d n=true:=by exact rfl) :
    owp P n ops Q (⟨some d,.makeSlice t x y,ty,pos,aft,none⟩::rest) l w:=by
  obtain⟨m,rfl,e2,e3,rfl⟩:=Jw hm;exact LG i (hi:=(λe=>(Ix hi).1 e.symm)) O (z0:=z0) b q hz1 o p rfl hz0 e2 e3 hd λg w' f r s=>h g m w' f ⟨s,u.no r⟩
theorem HK{α:Type}[Rp α](i:Nat)(xs:List α){t e:TypeId}[TSlice P t e]{z:Value}{size bytes a:Nat}[TInfo P e z size bytes]{ps:List (Nat×Operand)}{vs:List Value}
    (h:∀g w' f,Al B (.R i e (.slice (some ⟨g,0,none⟩) xs.length a) xs::Γ) w' f->owp P n ops Q rest ((d,.slice (some ⟨g,0,none⟩) xs.length a)::l) w') (j:Y3 l (ps.map (·.2))=some vs:=by exact rfl) (c:a=xs.length:=by exact rfl) (o:Al B Γ w O:=by assumption) (hv:Vall w (Fr 0 w O) vs xs:=by exact zVs) (b:size=Rp.size α:=by exact rfl) (hk:Aar 0 ps=true:=by exact rfl) (hz:a*size<=16777216:=by decide) (hm:a<=9223372036854775807:=by decide) (hi:Nat.ble 2 i=true:=by exact rfl) (hd:Nat.blt d n=true:=by exact rfl) :
    owp P n ops Q (⟨some d,.buildSlice t a ps.toArray,ty,pos,aft,none⟩::rest) l w:=CC i (hi:=(λe=>(Ix hi).1 e.symm)) O b (hk:=hk) j c hv (hz:=hz) (hm:=hm) (hd:=hd) λg w' f k m=>h g w' f ⟨m,o.no k⟩
theorem XN{α:Type}[Rp α]{w:World}{F:Nat->Prop}:Rd w F (.slice none 0 0) ([]:List α):=Vb.rd (Vb.nil _ _)
theorem OC{α:Type}[Rp α]{i:Nat}{t e:TypeId}[TSlice P t e]{z:Value}{size bytes:Nat}[TInfo P e z size bytes]{x y:Operand}{v u:Value}{xs ys b:List α}(he:Y0 bytes xs ys=some b)
    {j:Option Addr->Nat->List Fa} (h:∀A c w' f,Al B (j A c) w' f->owp P n ops Q rest ((d,.slice A b.length c)::l) w') (k:opv l x=some v:=by exact rfl) (m:opv l y=some u:=by exact rfl) (q:Al B Γ w O:=by assumption) (hs:In Γ (.R i e v xs):=by exact In.go) (g:∀A c,Aag i (.R i e (.slice A b.length c) b) Γ=some (j A c):=by exact λ_ _=>rfl) (hu:Rd w (Fr 0 w O) u ys:=by first|exact Al.rd (by assumption) Hs.go|exact XN) (a:size=Rp.size α:=by exact rfl) (hz0:0<size:=by decide) (hi:Nat.ble 2 i=true:=by exact rfl) (hd:Nat.blt d n=true:=by exact rfl) :
    owp P n ops Q (⟨some d,.call { callee:=.builtin .append,args:=#[x,y],argTypes:=#[t,t] },ty,pos,aft,none⟩::rest) l w:=by
  obtain⟨rfl,e2,e3⟩:=BH he;exact CD a (q.at hs) hu k m (hz0:=hz0) e2 e3 (hd:=hd) λA c w' f o p=>h A c w' f (Al.so (f':=.R i e _ _) hi p q o (g A c))
theorem Qc{α:Type}[Rp α]{d m:Tmp}{o:TypeId}{f:String}{j:Array Edge}{i:Nat}{t e:TypeId}[TSlice P t e]{z:Value}{size bytes:Nat}[TInfo P e z size bytes]{x y:Operand}{v u:Value}{a:α}{xs k:List α}(he:Y0 bytes xs [a]=some k)
    {r:Option Addr->Nat->List Fa} (h:∀g A c w' p,Al B (r A c) w' p->owp P n ops Q rest ((m,.slice A k.length c)::(d,.slice (some ⟨g,0,none⟩) 1 1)::l) w') (s:∀g,opv ((d,.slice (some ⟨g,0,none⟩) 1 1)::l) x=some v:=by exact λ_=>rfl) (C:opv l y=some u:=by exact rfl) (F:Al B Γ w O:=by assumption) (hs:In Γ (.R i e v xs):=by exact In.go) (q:∀A c,Aag i (.R i e (.slice A k.length c) k) Γ=some (r A c):=by exact λ_ _=>rfl) (hu:Vb w (Fr 0 w O) u a:=by exact zV) (b:size=Rp.size α:=by exact rfl) (hz0:0<size:=by decide) (hz1:size<=1000:=by decide) (hi:Nat.ble 2 i=true:=by exact rfl) (hd:Nat.blt d n=true/\Nat.blt m n=true:=by exact⟨rfl,rfl⟩) :
    owp P n ops Q (⟨some d,.buildSlice t 1 #[(0,y)],ty,pos,aft,none⟩::⟨some m,.call { callee:=.builtin .append,args:=#[x,.tmp d],argTypes:=#[t,t] },o,f,j,none⟩::rest) l w:=by
  obtain⟨rfl,e2,e3⟩:=BH he;exact EC b (F.at hs) hu s C (hz0:=hz0) (hz1:=hz1) e2 e3 hd λg A c w' p D E=>h g A c w' p (Al.so (f':=.R i e _ _) hi E F D (q A c))
class Sc(α:Type)[Rp α]:Prop where
  sc:∀{w:World}{F G:Nat->Prop}{v:Value}{x:α},Vb w F v x->Vb w G v x
instance:Sc Bool:=⟨λh=>h⟩
instance:Sc Int:=⟨λh=>h⟩
instance:Sc Err:=⟨λh=>h⟩
theorem Ew{α:Type}[Rp α]{K:Bse->List Fa->World->Lab->α->(Value->Prop)->Prop}[b:El α K]{f:FuncId}[Callable P f]{xs:List Operand}{vs:List Value}{c:Array TypeId}{r:α}(e:Y3 l xs=some vs)(hc:Fn P f vs w λv w'=>Ext w w'/\Vb w' (upA (Fr 0 w O) w w') v r)
    (h:∀w' a,K B Γ w' a r (λu=>owp P n ops Q rest ((d,u)::l) w')) (j:Al B Γ w O:=by assumption) (hd:Nat.blt d n=true:=by exact rfl) :
    owp P n ops Q (⟨some d,.call { callee:=.value (.func f),args:=xs.toArray,argTypes:=c },ty,pos,aft,none⟩::rest) l w:=EH (R:=λw' F v=>Vb w' F v r) hc e (hd:=hd) λv w' a g i=>b.el (G:=λu=>owp P n ops Q rest ((d,u)::l) w') (j.no g) i (h w' a)
theorem CJ{α:Type}[Rp α][Sc α]{K:Bse->List Fa->World->Lab->α->(Value->Prop)->Prop}[b:El α K]{f:FuncId}[Callable P f]{xs:List Operand}{vs:List Value}{c:Array TypeId}{A:Nat->Prop}{r:α}(e:Y3 l xs=some vs)(hc:Fn P f vs w λv w'=>Ext w w'/\Vb w' (upA A w w') v r)
    (h:∀w' a,K B Γ w' a r (λu=>owp P n ops Q rest ((d,u)::l) w')) (j:Al B Γ w O:=by assumption) (hd:Nat.blt d n=true:=by exact rfl) :
    owp P n ops Q (⟨some d,.call { callee:=.value (.func f),args:=xs.toArray,argTypes:=c },ty,pos,aft,none⟩::rest) l w:=LI (A:=A) (R:=λw' F v=>Vb w' F v r) hc e hd λv w' a g i=>b.el (G:=λu=>owp P n ops Q rest ((d,u)::l) w') (j.no g) (Sc.sc i) (h w' a)
theorem XO{α:Type}[Rp α][Sc α]{K:Bse->List Fa->World->Lab->α->(Value->Prop)->Prop}[b:El α K]{f:FuncId}[Callable P f]{xs:List Operand}{vs:List Value}{c:Array TypeId}{y:Operand}{A:Nat->Prop}{r:α}(e:opv l y=some (.func (.func f) #[] #[]))(g:Y3 l xs=some vs)(hc:Fn P f vs w λv w'=>Ext w w'/\Vb w' (upA A w w') v r)
    (h:∀w' a,K B Γ w' a r (λu=>owp P n ops Q rest ((d,u)::l) w')) (k:Al B Γ w O:=by assumption) (hd:Nat.blt d n=true:=by exact rfl) :
    owp P n ops Q (⟨some d,.call { callee:=.value y,args:=xs.toArray,argTypes:=c },ty,pos,aft,none⟩::rest) l w:=Ov (A:=A) (R:=λw' F v=>Vb w' F v r) hc e g hd λv w' a i j=>b.el (G:=λu=>owp P n ops Q rest ((d,u)::l) w') (k.no i) (Sc.sc j) (h w' a)
theorem OD{α β:Type}[Rp α][Rp β]  {f:FuncId} [Callable P f] {xs:List Operand} {vs:List Value} {e:Array TypeId}  {r:α×β} (g:Y3 l xs=some vs) (hc:Fn P f vs w λv w'=>Ext w w'/\T2 w' (upA (Fr 0 w O) w w') v r)
    (h:∀w' a(b c:Value),Al B Γ w' a->Vb w' (Fr 0 w' a) b r.1->Vb w' (Fr 0 w' a) c r.2->owp P n ops Q rest ((d,.tuple #[b,c])::l) w') (k:Al B Γ w O:=by assumption) (hd:Nat.blt d n=true:=by exact rfl) :
    owp P n ops Q (⟨some d,.call { callee:=.value (.func f),args:=xs.toArray,argTypes:=e },ty,pos,aft,none⟩::rest) l w:=EH (R:=λw' F v=>T2 w' F v r) hc g (hd:=hd) λv w' a i j=>by
  obtain⟨b,c,rfl,h0,h1⟩:=j;exact h w' a b c (k.no i) h0 h1
theorem YF{α β g:Type}[Rp α][Rp β][Rp g][Sc α][Sc β][Sc g]{f:FuncId}[Callable P f]{xs:List Operand}{vs:List Value}{i:Array TypeId}{A:Nat->Prop}{r:α×β×g}(j:Y3 l xs=some vs)(hc:Fn P f vs w λv w'=>Ext w w'/\T3 w' (upA A w w') v r)
    (h:∀w' a(b c e:Value),Al B Γ w' a->Vb w' (Fr 0 w' a) b r.1->Vb w' (Fr 0 w' a) c r.2.1->Vb w' (Fr 0 w' a) e r.2.2->owp P n ops Q rest ((d,.tuple #[b,c,e])::l) w') (o:Al B Γ w O:=by assumption) (hd:Nat.blt d n=true:=by exact rfl) :
    owp P n ops Q (⟨some d,.call { callee:=.value (.func f),args:=xs.toArray,argTypes:=i },ty,pos,aft,none⟩::rest) l w:=LI (A:=A) (R:=λw' F v=>T3 w' F v r) hc j hd λv w' a k m=>by
  obtain⟨b,c,e,rfl,h0,h1,h2⟩:=m;exact h w' a b c e (o.no k) (Sc.sc h0) (Sc.sc h1) (Sc.sc h2)
theorem HW{α:Type}[Rp α]{K:Bse->List Fa->World->Lab->α->(Value->Prop)->Prop}[a:El α K]{x:α}{v:Value}{G:Value->Prop}(hv:Vb w (Fr 0 w O) v x)(h:K B Γ w O x G)(b:Al B Γ w O:=by assumption):G v:=a.el b hv h
theorem Qd{α:Type}[Rp α](i:Nat){f:FuncId}[Callable P f]{xs:List Operand}{vs:List Value}{b:Array TypeId}{e:TypeId}{r:List α}(g:Y3 l xs=some vs)(hc:Fn P f vs w λv w'=>Ext w w'/\RowR w w' (upA (Fr 0 w O) w w') e v r)
    (h:∀A c w' a,Al B (.R i e (.slice A r.length c) r::Γ) w' a->owp P n ops Q rest ((d,.slice A r.length c)::l) w') (m:Al B Γ w O:=by assumption) (hi:Nat.ble 2 i=true:=by exact rfl) (hd:Nat.blt d n=true:=by exact rfl) :
    owp P n ops Q (⟨some d,.call { callee:=.value (.func f),args:=xs.toArray,argTypes:=b },ty,pos,aft,none⟩::rest) l w:=ED i (hi:=(λe=>(Ix hi).1 e.symm)) hc g (hd:=hd) λA c w' a j k=>h A c w' a ⟨k,m.no j⟩
end
def pkO:List Nat→Env→Option Env
  |[],_=>some []
  |i  :: K,l=>match lk l i with
    |none=>none
    |some v=>match pkO K l with
      |some a=>some ((i,v)::a)
      |none=>none
def lkv(l:Env)(i:Nat):Value:=match lk l i with
  |some v=>v
  |none=>undef
def Acd(i:Nat):List Fa→Option Fa
  |[]=>none
  |f::Γ=>match Nat.beq f.own i with
    |true=>some f
    |false=>Acd i Γ
def AaD:List Nat→List Fa→Option (List Fa)
  |[],_=>some []
  |i  :: T,Γ=>match Acd i Γ with
    |none=>none
    |some f=>match AaD T Γ with
      |some r=>some (f::r)
      |none=>none
def Acz:List Nat→Fa→Bool
  |[],_=>true
  |i  :: T,f=>match inK i f.lab with
    |true=>false
    |false=>match f.may i with
      |true=>Acz T f
      |false=>false
def AaC(b:List Nat):List Fa→Option (List Fa)
  |[]=>some []
  |f  :: Γ=>match AaC b Γ with
    |none=>none
    |some a=>match Acz b f with
      |true=>some (f::a)
      |false=>some a
def fo:List Fa→Nat→Fa
  |[],_=>.T
  |f::r,i=>match Nat.beq f.own i with
    |true=>f
    |false=>fo r i
def Fa.cl:Fa->List Value
  |.L _ _ _ cs=>cs
  |_=>[]
def Fa.bk:Fa->Nat
  |.L _ g _ _=>g
  |_=>0
def Fa.rv:Fa->Value
  |@Fa.R _ _ _ _ v _=>v
  |_=>undef
def Fa.re:Fa->TypeId
  |@Fa.R _ _ _ e _ _=>e
  |_=>0
def Ab9:List (Nat×Value)->List Value->List Value
  |[],cs=>cs
  |(i,v)::r,cs=>Ab9 r (cs.set i v)
abbrev sv(x:Option Addr×Nat){α:Type}(s:List α):Value:=.slice x.1 s.length x.2
abbrev pv(g:Nat):Value:=.pointer (some ⟨g,0,none⟩)
abbrev uR(f:Fa)(i:Nat){α:Type}[Rp α](s:List α):Fa:=.R i f.re f.rv s
abbrev uL(f:Fa)(i:Nat)(t:TypeId)(r:List (Nat×Value)):Fa:=.L i f.bk t (Ab9 r f.cl)
abbrev fV(x:Option Addr×Nat){α:Type}[Rp α](s:List α):Fa:=.V (sv x s) s
abbrev fR(i:Nat)(e:TypeId)(x:Option Addr×Nat){α:Type}[Rp α](s:List α):Fa:=.R i e (sv x s) s
abbrev fI(n:Int):Fa:=.X (X2 n)
theorem Sb.go{Γ a:List Fa}(h:Sb Γ a:=by((repeat (first|exact Sb.nil|refine Sb.t ?_|refine Sb.x zI ?_|refine Sb.x zS ?_|refine Sb.v ?_|refine Sb.n rfl ?_|refine Sb.cons In.go ?_))<;>fail)):Sb Γ a:=h
theorem sb{l a:Env}(h:X5 l a:=by((repeat (first|exact trivial|refine⟨rfl,?_⟩|refine⟨AR (by assumption) _ _ rfl,?_⟩))<;>fail)):X5 l a:=h
section
variable {P:Program}{m:Nat}{Q:YX}{l:Env}{w:World}{B:Bse}{Γ:List Fa}{O:Lab}{σ X κ:Type}{r:κ}
theorem Ba{n:Nat}{c:Code}{a:Env}(h:ewp P n c Q a w)(hs:X5 l a:=by assumption):ewp P n c Q l w:=AM _ hs h
theorem Cl{t i n inc:Tmp}{b b' r1 r2:Nat}{ty1 ty2 ty3 y1 y2 y3 y4:TypeId}{p1 p2 p3:String}{a1 a2 a3:Array Edge}{body:Code}{α:Type}[Rp α]{f:Nat→α→σ→Option (Ctl σ κ)}{xs:List α}{s₀:σ}{g:σ→Option κ}(hm:bnd (rng f xs 0 s₀) (λres=>fin res g)=some r)
    (K VK T OL:List Nat) (Ch:(Nat->Value)->(Nat->Fa)->σ->X->Env->Env) (U:(Nat->Value)->(Nat->Fa)->σ->X->List Fa->List Fa) {E0 E1:Env} {Δ Δ1:List Fa} (x₀:X)
    (hb:∀k a s x w' O' c,f k a s=some c->xs[k]?=some a->X2 (k:Int)->(∀r',c=.ret r'->r'=r)->Al B (U (lkv E1) (fo Δ1) s x Δ) w' O' ->
      ewp P m body (Y4 b' (thn (λl' w''=>∃s' x',c=.next s'/\X5 l' (rgE i n xs.length k (Ch (lkv E1) (fo Δ1) s' x' E0))/\∃O'',Al B (U (lkv E1) (fo Δ1) s' x' Δ) w'' O'') (Y4 b (thn (λ_ _=>False) Q)))) ((t,.bool true)::rgE i n xs.length k (Ch (lkv E1) (fo Δ1) s x E0)) w')
    (hk:∀s x l' w' O',g s=some r->X5 l' (Ch (lkv E1) (fo Δ1) s x E0)->Al B (U (lkv E1) (fo Δ1) s x Δ) w' O'->Q .normal l' w')
    (H:Al B Γ w O:=by assumption) (hE:pkO K l=some E0:=by exact rfl) (hV:pkO VK l=some E1:=by exact rfl) (hD:AaC T Γ=some Δ:=by exact rfl) (hO:AaD OL Γ=some Δ1:=by exact rfl) (hN:xs.length<=9223372036854775807:=by exact zM) (hs:X5 l (rgE i n xs.length 0 (Ch (lkv E1) (fo Δ1) s₀ x₀ E0)):=by exact sb) (h0:Sb Γ (U (lkv E1) (fo Δ1) s₀ x₀ Δ):=by exact Sb.go) (hy:∀s x,kys [t,i,n,inc] (Ch (lkv E1) (fo Δ1) s x E0)=true:=by exact λ_ _=>rfl) (ht:Nat.blt t m=true/\Nat.blt i m=true/\Nat.blt inc m=true:=by exact⟨rfl,rfl,rfl⟩) (hne:Nat.beq i n=false/\Nat.beq inc n=false:=by exact⟨rfl,rfl⟩) :
    ewp P m (.block b (.loop (.seq (.region r1 #[⟨some t,.binOp .lss ty1 (.tmp i) (.tmp n) ty2,y1,p1,a1,none⟩] false) (.seq (.cond (.tmp t) .skip (.exit b)) (.seq (.block b' body)
      (.region r2 #[⟨some inc,.binOp .add ty3 (.tmp i) (.const (.int .i64 1)) y4,y2,p2,a2,none⟩,⟨some i,.move (.tmp inc),y3,p3,a3,none⟩] false)))))) Q l w:=by
  obtain⟨res,hL,hm⟩:=bs hm;refine Cp xs.length hL rfl hN (λs x=>Ch (lkv E1) (fo Δ1) s x E0) (λs x w'=>∃O',Al B (U (lkv E1) (fo Δ1) s x Δ) w' O') x₀ ⟨O,H.sub h0⟩ hs hy ?_ ?_ ht hne
  . rintro k a s x w' c ha ⟨O',hA⟩ hf hr -
    refine HQ ?_ (hb k a s x w' O' c hf ha (Y2 ha hN) (λr' e=>?_) hA)
    . intro e l' w' hq;cases e with
      |normal=>exact hq
      |exit j =>
        simp only[Y4,thn]at hq ⊢;cases h1:Nat.beq j b' with
        |true=>rw[h1]at hq;exact hq
        |false =>
          rw[h1]at hq;simp only at hq ⊢;cases h2:Nat.beq j b with
          |true=>rw[h2]at hq;exact hq.elim
          |false=>rw[h2]at hq;exact hq
      |panic c=>exact hq
      |outgrown=>exact hq
      |goto j=>exact hq
      |ret=>exact hq
    . have:=hr r' e;subst this;exact R1 (Ca hm)
  . rintro l' w' ⟨s,x,rfl,h1,O',h2⟩;exact hk s x l' w' O' hm h1 h2
theorem Rz{t i n inc:Tmp}{b b' r1 r2:Nat}{ty1 ty2 ty3 y1 y2 y3 y4:TypeId}{p1 p2 p3:String}{a1 a2 a3:Array Edge}{body:Code}{f:Nat→σ→Option (Ctl σ κ)}{N₀:Nat}{s₀:σ}{g:σ→Option κ}(hm:bnd (Zk f N₀ s₀) (λres=>fin res g)=some r)
    (K VK T OL:List Nat) (Ch:(Nat->Value)->(Nat->Fa)->σ->X->Env->Env) (U:(Nat->Value)->(Nat->Fa)->σ->X->List Fa->List Fa) {E0 E1:Env} {Δ Δ1:List Fa} (x₀:X)
    (hb:∀k s x w' O' c,f k s=some c->k<N₀->X2 (k:Int)->(∀r',c=.ret r'->r'=r)->Al B (U (lkv E1) (fo Δ1) s x Δ) w' O' ->
      ewp P m body (Y4 b' (thn (λl' w''=>∃s' x',c=.next s'/\X5 l' (rgE i n N₀ k (Ch (lkv E1) (fo Δ1) s' x' E0))/\∃O'',Al B (U (lkv E1) (fo Δ1) s' x' Δ) w'' O'') (Y4 b (thn (λ_ _=>False) Q)))) ((t,.bool true)::rgE i n N₀ k (Ch (lkv E1) (fo Δ1) s x E0)) w')
    (hk:∀s x l' w' O',g s=some r->X5 l' (Ch (lkv E1) (fo Δ1) s x E0)->Al B (U (lkv E1) (fo Δ1) s x Δ) w' O'->Q .normal l' w')
    (H:Al B Γ w O:=by assumption) (hE:pkO K l=some E0:=by exact rfl) (hV:pkO VK l=some E1:=by exact rfl) (hD:AaC T Γ=some Δ:=by exact rfl) (hO:AaD OL Γ=some Δ1:=by exact rfl) (hN:N₀<=9223372036854775807:=by exact zM) (hs:X5 l (rgE i n N₀ 0 (Ch (lkv E1) (fo Δ1) s₀ x₀ E0)):=by exact sb) (h0:Sb Γ (U (lkv E1) (fo Δ1) s₀ x₀ Δ):=by exact Sb.go) (hy:∀s x,kys [t,i,n,inc] (Ch (lkv E1) (fo Δ1) s x E0)=true:=by exact λ_ _=>rfl) (ht:Nat.blt t m=true/\Nat.blt i m=true/\Nat.blt inc m=true:=by exact⟨rfl,rfl,rfl⟩) (hne:Nat.beq i n=false/\Nat.beq inc n=false:=by exact⟨rfl,rfl⟩) :
    ewp P m (.block b (.loop (.seq (.region r1 #[⟨some t,.binOp .lss ty1 (.tmp i) (.tmp n) ty2,y1,p1,a1,none⟩] false) (.seq (.cond (.tmp t) .skip (.exit b)) (.seq (.block b' body)
      (.region r2 #[⟨some inc,.binOp .add ty3 (.tmp i) (.const (.int .i64 1)) y4,y2,p2,a2,none⟩,⟨some i,.move (.tmp inc),y3,p3,a3,none⟩] false)))))) Q l w:=by
  obtain⟨res,hL,hm⟩:=bs hm;refine Rs N₀ hL hN (λs x=>Ch (lkv E1) (fo Δ1) s x E0) (λs x w'=>∃O',Al B (U (lkv E1) (fo Δ1) s x Δ) w' O') x₀ ⟨O,H.sub h0⟩ hs hy ?_ ?_ ht hne
  . rintro k s x w' c ha ⟨O',hA⟩ hf hr -
    refine HQ ?_ (hb k s x w' O' c hf ha (Abk ha hN) (λr' e=>?_) hA)
    . intro e l' w' hq;cases e with
      |normal=>exact hq
      |exit j =>
        simp only[Y4,thn]at hq ⊢;cases h1:Nat.beq j b' with
        |true=>rw[h1]at hq;exact hq
        |false =>
          rw[h1]at hq;simp only at hq ⊢;cases h2:Nat.beq j b with
          |true=>rw[h2]at hq;exact hq.elim
          |false=>rw[h2]at hq;exact hq
      |panic c=>exact hq
      |outgrown=>exact hq
      |goto j=>exact hq
      |ret=>exact hq
    . have:=hr r' e;subst this;exact R1 (Ca hm)
  . rintro l' w' ⟨s,x,rfl,h1,O',h2⟩;exact hk s x l' w' O' hm h1 h2
theorem Uu{t i n inc:Tmp}{b b' r1 r2:Nat}{ty1 ty2 ty3 y1 y2 y3 y4:TypeId}{p1 p2 p3:String}{a1 a2 a3:Array Edge}{body:Code}{zi:Int}{f:Nat->Nat->σ->Option (Ctl σ κ)}{s₀:σ}{g:Nat->σ->Option κ}(hm:bnd (AaG zi) (λN=>bnd (Zk (f N) N s₀) (λres=>fin res (g N)))=some r)
    (K VK T OL:List Nat) (Ch:(Nat->Value)->(Nat->Fa)->σ->X->Env->Env) (U:(Nat->Value)->(Nat->Fa)->σ->X->List Fa->List Fa) {E0 E1:Env} {Δ Δ1:List Fa} (x₀:X)
    (hb:∀N₀ k s x w' O' c,f N₀ k s=some c->zi=(N₀:Int)->k<N₀->X2 (k:Int)->(∀r',c=.ret r'->r'=r)->Al B (U (lkv E1) (fo Δ1) s x Δ) w' O' ->
      ewp P m body (Y4 b' (thn (λl' w''=>∃s' x',c=.next s'/\X5 l' (rgE i n N₀ k (Ch (lkv E1) (fo Δ1) s' x' E0))/\∃O'',Al B (U (lkv E1) (fo Δ1) s' x' Δ) w'' O'') (Y4 b (thn (λ_ _=>False) Q)))) ((t,.bool true)::rgE i n N₀ k (Ch (lkv E1) (fo Δ1) s x E0)) w')
    (hk:∀N₀ s x l' w' O',g N₀ s=some r->X5 l' (Ch (lkv E1) (fo Δ1) s x E0)->Al B (U (lkv E1) (fo Δ1) s x Δ) w' O'->Q .normal l' w')
    (H:Al B Γ w O:=by assumption) (hE:pkO K l=some E0:=by exact rfl) (hV:pkO VK l=some E1:=by exact rfl) (hD:AaC T Γ=some Δ:=by exact rfl) (hO:AaD OL Γ=some Δ1:=by exact rfl) (hz:X2 zi:=by exact zI) (hs:X5 l ((i,.int .i64 ((0:Nat):Int))::(n,.int .i64 zi)::(Ch (lkv E1) (fo Δ1) s₀ x₀ E0)):=by exact sb) (h0:Sb Γ (U (lkv E1) (fo Δ1) s₀ x₀ Δ):=by exact Sb.go) (hy:∀s x,kys [t,i,n,inc] (Ch (lkv E1) (fo Δ1) s x E0)=true:=by exact λ_ _=>rfl) (ht:Nat.blt t m=true/\Nat.blt i m=true/\Nat.blt inc m=true:=by exact⟨rfl,rfl,rfl⟩) (hne:Nat.beq i n=false/\Nat.beq inc n=false:=by exact⟨rfl,rfl⟩) :
    ewp P m (.block b (.loop (.seq (.region r1 #[⟨some t,.binOp .lss ty1 (.tmp i) (.tmp n) ty2,y1,p1,a1,none⟩] false) (.seq (.cond (.tmp t) .skip (.exit b)) (.seq (.block b' body)
      (.region r2 #[⟨some inc,.binOp .add ty3 (.tmp i) (.const (.int .i64 1)) y4,y2,p2,a2,none⟩,⟨some i,.move (.tmp inc),y3,p3,a3,none⟩] false)))))) Q l w:=by
  obtain⟨N,hN,hm⟩:=bs hm;replace hN:=Uo hN;subst hN;exact Rz hm K VK T OL Ch U x₀ (λk s x w' O' c h1=>hb N k s x w' O' c h1 rfl) (λs x l' w' O'=>hk N s x l' w' O') H hE hV hD hO (rngNat' hz) hs h0 hy ht hne
theorem Nx{c:Code}{f:σ→Option (Ctl σ κ)}{s₀:σ}{b:Nat}{g:σ→Option κ}(hm:bnd (lop f s₀) (λq=>fin q g)=some r)(K F S G:List Nat)(A:(Nat→Value)→(Nat→Fa)→σ→X→Env→Env)(T:(Nat→Value)→(Nat→Fa)→σ→X→List Fa→List Fa){z d:Env}{p a:List Fa}(H:List Nat)(E:(Nat→Value)→(Nat→Fa)→σ→X→Env→Env){C:Env}(h:X)
    (hb:∀s x w' i y,f s=some y->(∀r',y=.ret r'->r'=r)->Al B (T (lkv d) (fo a) s x p) w' i ->
      ewp P m c (thn (λn t=>∃o u,y=.next o/\X5 n (A (lkv d) (fo a) o u z)/\∃v,Al B (T (lkv d) (fo a) o u p) t v) (Y4 b (thn (λn t=>∃o u,y=.brk o/\X5 n (E (lkv d) (fo a) o u C)/\∃v,Al B (T (lkv d) (fo a) o u p) t v) Q))) (A (lkv d) (fo a) s x z) w')
    (hk:∀s x n w' i,g s=some r->X5 n (E (lkv d) (fo a) s x C)->Al B (T (lkv d) (fo a) s x p) w' i->Q .normal n w')
    (U:Al B Γ w O:=by assumption) (L:pkO K l=some z:=by exact rfl) (M:pkO F l=some d:=by exact rfl) (N:AaC S Γ=some p:=by exact rfl) (R:AaD G Γ=some a:=by exact rfl) (I:pkO H l=some C:=by exact rfl) (hs:X5 l (A (lkv d) (fo a) s₀ h z):=by exact sb) (J:Sb Γ (T (lkv d) (fo a) s₀ h p):=by exact Sb.go):ewp P m (.block b (.loop c)) Q l w:=by
  obtain⟨q,hL,hm⟩:=bs hm;refine AZ (aft q (λs x=>E (lkv d) (fo a) s x C) (λs x w'=>∃i,Al B (T (lkv d) (fo a) s x p) w' i)) (BK ?_) ?_
  . refine Gy hL (λs x=>A (lkv d) (fo a) s x z) _ (λs x w'=>∃i,Al B (T (lkv d) (fo a) s x p) w' i) _ h ⟨O,U.sub J⟩ hs ?_;rintro s x w' y ⟨i,hA⟩ hf hr hbk;refine HQ ?_ (hb s x w' i y hf (λr' e=>?_) hA)
    . intro e n w' k;cases e with
      |normal=>exact k
      |exit j =>
        simp only[Y4,thn]at k ⊢;cases D:Nat.beq j b with
        |true =>
          rw[D]at k;obtain⟨o,u,h3,h4,h5⟩:=k;exact⟨o,u,hbk _ h3,h4,h5⟩
        |false=>rw[D]at k;exact k
      |panic c=>exact k
      |outgrown=>exact k
      |goto j=>exact k
      |ret=>exact k
    . have:=hr r' e;subst this;exact R1 (Ca hm)
  . rintro n w' ⟨s,x,rfl,h1,i,D⟩;exact hk s x n w' i hm h1 D
theorem Cu{c:Code}{y:Option σ}{g:σ->Option κ}(hm:bnd y g=some r)(K j v k:List Nat)(i:(Nat->Value)->(Nat->Fa)->σ->X->Env->Env)(z:(Nat->Value)->(Nat->Fa)->σ->X->List Fa->List Fa){f d:Env}{h a:List Fa}
    (n:∀s,y=some s->ewp P m c (thn (λb w'=>∃x,X5 b (i (lkv d) (fo a) s x f)/\∃e,Al B (z (lkv d) (fo a) s x h) w' e) Q) l w)
    (o:∀s x b w' e,g s=some r->X5 b (i (lkv d) (fo a) s x f)->Al B (z (lkv d) (fo a) s x h) w' e->Q .normal b w') (A:Al B Γ w O:=by assumption) (p:pkO K l=some f:=by exact rfl) (q:pkO j l=some d:=by exact rfl) (t:AaC v Γ=some h:=by exact rfl) (u:AaD k Γ=some a:=by exact rfl):ewp P m c Q l w:=by
  obtain⟨s,h3,h4⟩:=bs hm;refine AZ _ (n s h3) ?_;rintro b w' ⟨x,h5,e,h6⟩;exact o s x b w' e h4 h5 h6
theorem BX{f:σ->X->Env}{F:σ->X->List Fa}{a:σ}{c:Ctl σ κ}(b:X)(hc:some (Ctl.next a)=some c){d:Env}(hs:X5 d (f a b):=by exact sb)(g:Al B Γ w O:=by assumption)(hb:Sb Γ (F a b):=by exact Sb.go) :
    ∃a b,c=.next a/\X5 d (f a b)/\∃e,Al B (F a b) w e:=⟨a,b,(R1 hc).symm,hs,O,g.sub hb⟩
theorem RA{f:σ->X->Env}{F:σ->X->List Fa}{a:σ}{c:Ctl σ κ}(b:X)(hc:some (Ctl.brk a)=some c){d:Env}(hs:X5 d (f a b):=by exact sb)(g:Al B Γ w O:=by assumption)(hb:Sb Γ (F a b):=by exact Sb.go) :
    ∃a b,c=.brk a/\X5 d (f a b)/\∃e,Al B (F a b) w e:=⟨a,b,(R1 hc).symm,hs,O,g.sub hb⟩
theorem AP{d:X->Env}{F:X->List Fa}(a:X){b:Env}(hs:X5 b (d a):=by exact sb)(e:Al B Γ w O:=by assumption)(hb:Sb Γ (F a):=by exact Sb.go) :
    ∃a,X5 b (d a)/\∃c,Al B (F a) w c:=⟨a,hs,O,e.sub hb⟩
end
theorem zL{l:Env}{i:Nat}{v:Value}(h:lk l i=some v:=by first|exact rfl|exact AR (by assumption) _ _ rfl):lk l i=some v:=h
theorem zRa{P:Program}{l:Env}{w:World}{B:Bse}{Γ:List Fa}{O:Lab}{b:Tmp}{t a:TypeId}[TAgg P t]{z:Value}{size bytes:Nat}[TInfo P t z size bytes]{i g:Nat}{cs:List Value}(h:lk l b=some (.pointer (some ⟨g,0,none⟩)):=by exact zL)(c:Al B Γ w O:=by assumption)(hk:In Γ (.L i g a cs):=by exact In.go)(hl:cs.length=size:=by exact rfl):YY P l w (.cell b t) (.agg cs.toArray):=Ge h hl (c.blk hk).cellsAt
theorem zRo{P:Program}{l:Env}{w:World}{B:Bse}{Γ:List Fa}{O:Lab}{b:Tmp}{t a:TypeId}[TOne P t]{i g:Nat}{v:Value}{cs:List Value}(h:lk l b=some (.pointer (some ⟨g,0,none⟩)):=by exact zL)(c:Al B Γ w O:=by assumption)(hk:In Γ (.L i g a (v::cs)):=by exact In.go):YY P l w (.cell b t) v:=Ug h (Blk.cell (i:=0) (c.blk hk) rfl)
theorem zR{P:Program}{l:Env}{w:World}{q:ResultVar}{v:Value}(h:YY P l w q v:=by first
  |exact AD zL
  |exact zRo
  |exact zRa):YY P l w q v:=h
section
variable {P:Program}{l:Env}{w w0:World}{A:Nat → Prop}{Γ:List Fa}{O:Lab}{fn:Func}
theorem By{α:Type}[Rp α]{b:ResultVar}{c:Value}{a:α}(d:fn.results=#[b]:=by exact rfl)(e:YY P l w b c:=by exact zR)(g:Al (bS w0 A) Γ w O:=by assumption)(f:Vb w (Fr 0 w O) c a:=by exact zV):X6 P fn (λv w'=>Ext w0 w'/\Vb w' (upA A w0 w') v a) .ret l w :=
  YW d e ⟨g.base.ext,f.mono g.base.out⟩
theorem Hj{α β:Type}[Rp α][Rp β]{b c:ResultVar}{d e:Value}{a:α×β}(f:fn.results=#[b,c]:=by exact rfl)(g:YY P l w b d:=by exact zR)(h:YY P l w c e:=by exact zR)(k:Al (bS w0 A) Γ w O:=by assumption)(i:Vb w (Fr 0 w O) d a.1:=by exact zV)(j:Vb w (Fr 0 w O) e a.2:=by exact zV):X6 P fn (λv w'=>Ext w0 w'/\T2 w' (upA A w0 w') v a) .ret l w :=
  Y7 f g h ⟨k.base.ext,_,_,rfl,i.mono k.base.out,j.mono k.base.out⟩
theorem YP{α β b:Type}[Rp α][Rp β][Rp b]{c d e:ResultVar}{f g h:Value}{a:α×β×b}(i:fn.results=#[c,d,e]:=by exact rfl)(j:YY P l w c f:=by exact zR)(k:YY P l w d g:=by exact zR)(m:YY P l w e h:=by exact zR)(q:Al (bS w0 A) Γ w O:=by assumption)(n:Vb w (Fr 0 w O) f a.1:=by exact zV)(o:Vb w (Fr 0 w O) g a.2.1:=by exact zV)(p:Vb w (Fr 0 w O) h a.2.2:=by exact zV):X6 P fn (λv w'=>Ext w0 w'/\T3 w' (upA A w0 w') v a) .ret l w :=
  Z6 i j k m ⟨q.base.ext,_,_,_,rfl,n.mono q.base.out,o.mono q.base.out,p.mono q.base.out⟩
theorem Vv{α:Type}[Rp α]{q:ResultVar}{v:Value}{e:TypeId}{i:Nat}{xs:List α}(a:fn.results=#[q]:=by exact rfl)(b:YY P l w q v:=by exact zR)(c:Al (bS w0 A) Γ w O:=by assumption)(hs:In Γ (.R i e v xs):=by exact In.go)(hi:Nat.ble 2 i=true:=by exact rfl):X6 P fn (λv w'=>Ext w0 w'/\RowR w0 w' (upA A w0 w') e v xs) .ret l w :=
  YW a b ⟨c.base.ext,Rw.out (c.at hs) c.base λe=>(Ix hi).2 e.symm⟩
end
theorem BS{w:World}{A:Nat->Prop}(hA:∀k,A k->k<w.heap.size):∃O,Al (bS w A) [] w O/\∀k,A k->Fr 0 w O k:=by
  obtain⟨O,hB,hz⟩:=enter hA;exact⟨O,hB,hz⟩
theorem Br{α:Type}[Rp α]{K:Bse->List Fa->World->Lab->α->(Value->Prop)->Prop}[a:El α K]{B:Bse}{Γ:List Fa}{A:Nat->Prop}{w:World}{O:Lab}{x:α}{v:Value}(hv:Vb w A v x){G:Value->Prop}(h:K B Γ w O x G)(b:Al B Γ w O:=by assumption)(hz:∀k,A k->Fr 0 w O k:=by assumption):G v:=a.el b (hv.mono hz) h
section
variable {P:Program}{n:Nat}{ops:Array Oper}{Q:YX}{l:Env}{w w0:World}{B:Bse}{Γ:List Fa}{O O0:Lab}
theorem HL[Mixed P]{id:Nat}{b:List Oper}(a:List (Nat×List Nat))(h:hwx P n b.toArray Q a w O b.toArray.size (Array.replicate b.toArray.size false) l w)(c:Al B Γ w O:=by assumption):ewp P n (.region id b.toArray true) Q l w:=BR a O h
theorem Jz[Mixed P]{id:Nat}{d:List Oper}(a:List (Nat×Bool))(h:hwp P n d.toArray Q (·=w) a l w)(hs:Region.noSelect d.toArray=true:=by kernel_rfl)(b:a.length=d.toArray.size:=by exact rfl)(c:ordOk d.toArray (Array.replicate d.toArray.size false) a=true:=by kernel_rfl):ewp P n (.region id d.toArray true) Q l w:=Df (·=w) a (hs:=hs) b (hc:=c) rfl h
theorem BM{c:List (Nat×List Nat)}{fuel i:Nat}{a:Array Bool}{ls:List Nat}(b:List (Nat×List Nat))(d:hwx P n ops Q b w O fuel (a.setIfInBounds i true) l w)(e:Al B Γ w O:=by assumption)(hk:In Γ (.S w0 O0 ls):=by exact In.go)(hs:(ls.all ((tcs c (a.setIfInBounds i true)).contains ·)&&b.all (c.contains ·))=true:=by kernel_rfl):owp P n ops (Y6 P n ops Q c w0 O0 i fuel a) [] l w:=BE b (e.at hk) (hs:=hs) d
end
end
section
open Go Go.RowKit
instance:El Fct λc b w O x G=>X2 x.var->X2 x.val->Al c (.V (.agg #[(.int .i64 x.var),(.int .i64 x.val)]) x::b) w O->G (.agg #[(.int .i64 x.var),(.int .i64 x.val)]):=⟨λd h k=>by
  have a:=h;unfold Vb at a;obtain⟨cs,rfl,rfl,r1,r2⟩:=a;exact k r1 r2 ⟨h,d⟩⟩
instance:Ec Fct λd a w O i b o x G=>X2 x.var->X2 x.val->Al d (.C i b o [(.int .i64 x.var),(.int .i64 x.val)] :: .V (.agg #[(.int .i64 x.var),(.int .i64 x.val)]) x::a) w O->G:=⟨λ{_ _ _ _ _ _ _ x _ _} e c hc h k=>by
  have hv:=Vb.ofAgg (x:=x) rfl h;obtain⟨rfl,r1,r2⟩:=h;exact k r1 r2 ⟨⟨c,hc⟩,hv,e⟩⟩
instance:El Eff λe d w O x G=>∀(a:Option Addr)(b:Nat),X2 x.var->X2 x.val->Al e (.V (.slice a x.cond.length b) x.cond :: .V (.agg #[(.slice a x.cond.length b),(.int .i64 x.var),(.int .i64 x.val)]) x::d) w O->G (.agg #[(.slice a x.cond.length b),(.int .i64 x.var),(.int .i64 x.val)]):=⟨λf h k=>by
  have c:=h;unfold Vb at c;obtain⟨cs,rfl,v1,rfl,h2,r5,r6⟩:=c;obtain⟨a,b,rfl⟩:=h2.form;exact k a b r5 r6 ⟨h2,h,f⟩⟩
instance:Ec Eff λg d w O i b o x G=>∀(a:Option Addr)(c:Nat),X2 x.var->X2 x.val->Al g (.C i b o [(.slice a x.cond.length c),(.int .i64 x.var),(.int .i64 x.val)] :: .V (.slice a x.cond.length c) x.cond :: .V (.agg #[(.slice a x.cond.length c),(.int .i64 x.var),(.int .i64 x.val)]) x::d) w O->G:=⟨λ{_ _ _ _ _ _ _ x _ _} j e hc h k=>by
  have hv:=Vb.ofAgg (x:=x) rfl h;obtain⟨f,rfl,h2,r5,r6⟩:=h;obtain⟨a,c,rfl⟩:=h2.form;exact k a c r5 r6 ⟨⟨e,hc⟩,h2,hv,j⟩⟩
instance:El Opr λg f w O x G=>∀(a:Option Addr)(b:Nat)(c:Option Addr)(d:Nat),x.name.size<=9223372036854775807->X2 x.cost->Al g (.V (.slice a x.pre.length b) x.pre :: .V (.slice c x.effs.length d) x.effs :: .V (.agg #[(.string x.name),(.int .i64 x.cost),(.slice a x.pre.length b),(.slice c x.effs.length d)]) x::f) w O->G (.agg #[(.string x.name),(.int .i64 x.cost),(.slice a x.pre.length b),(.slice c x.effs.length d)]):=⟨λi h k=>by
  have e:=h;unfold Vb at e;obtain⟨cs,rfl,v1,v2,rfl,h3,h6,r9,z10⟩:=e;obtain⟨a,b,rfl⟩:=h3.form;obtain⟨c,d,rfl⟩:=h6.form;exact k a b c d z10 r9 ⟨h3,h6,h,i⟩⟩
instance:Ec Opr λl f w O i b o x G=>∀(a:Option Addr)(c:Nat)(d:Option Addr)(e:Nat),x.name.size<=9223372036854775807->X2 x.cost->Al l (.C i b o [(.string x.name),(.int .i64 x.cost),(.slice a x.pre.length c),(.slice d x.effs.length e)] :: .V (.slice a x.pre.length c) x.pre :: .V (.slice d x.effs.length e) x.effs :: .V (.agg #[(.string x.name),(.int .i64 x.cost),(.slice a x.pre.length c),(.slice d x.effs.length e)]) x::f) w O->G:=⟨λ{_ _ _ _ _ _ _ x _ _} m g hc h k=>by
  have hv:=Vb.ofAgg (x:=x) rfl h;obtain⟨j,v2,rfl,h3,h6,r9,z10⟩:=h;obtain⟨a,c,rfl⟩:=h3.form;obtain⟨d,e,rfl⟩:=h6.form;exact k a c d e z10 r9 ⟨⟨g,hc⟩,h3,h6,hv,m⟩⟩
instance:El Tsk λm l w O x G=>∀(f:Option Addr)(g:Nat)(i:Option Addr)(a:Nat)(b:Option Addr)(c:Nat)(d:Option Addr)(e:Nat),Al m (.V (.slice f x.vars.length g) x.vars :: .V (.slice i x.init.length a) x.init :: .V (.slice b x.goal.length c) x.goal :: .V (.slice d x.ops.length e) x.ops :: .V (.agg #[(.slice f x.vars.length g),(.slice i x.init.length a),(.slice b x.goal.length c),(.slice d x.ops.length e)]) x::l) w O->G (.agg #[(.slice f x.vars.length g),(.slice i x.init.length a),(.slice b x.goal.length c),(.slice d x.ops.length e)]):=⟨λn h k=>by
  have j:=h;unfold Vb at j;obtain⟨cs,rfl,v1,v2,v3,v4,rfl,h5,h8,h11,h14⟩:=j;obtain⟨f,g,rfl⟩:=h5.form;obtain⟨i,a,rfl⟩:=h8.form;obtain⟨b,c,rfl⟩:=h11.form;obtain⟨d,e,rfl⟩:=h14.form;exact k f g i a b c d e ⟨h5,h8,h11,h14,h,n⟩⟩
end
section
open Go Go.RowKit
attribute [local irreducible] ewp owp hwp hwq hws Ev Evg Fn X6 Y1 YZ YY
def hasB(s:List Int)(x:Fct):Bool:=decide (0<=x.var)&&decide (s[x.var.toNat]?=some x.val)
def YV(f:List Fct)(s:List Int):Bool:=f.all (hasB s)
theorem Le{f:List Fct}{s:List Int}{k:Nat}{x:Fct}(a:f[k]?=some x)(h:hasB s x=false):YV f s=false:=by
  unfold YV;rw[List.all_eq_false];exact⟨x,H2 a,by simp[h]⟩
theorem Oa{f:List Fct}{s:List Int}{k:Nat}{x:Fct}(a:f[k]?=some x)(h:hasB s x=true)(b:YV (f.take k) s=true):YV (f.take (k+1)) s=true:=by
  unfold YV at *
  rw[M4,a,List.all_append,b];simp[h]
theorem Qe{s:List Int}{x:Fct}{j:Nat}{y:Int}(hj:x.var=(j:Int))(a:s[j]?=some y):hasB s x=decide (y=x.val):=by
  unfold hasB;rw[hj];simp[a]
theorem AG{α:Type}{l:List α}{k:Nat}(h:k<l.length):∃x,l[k]?=some x:=⟨l[k],C9 h⟩
theorem Cf{α:Type}{l:List α}{k:Nat}{x:α}(h:l[k]?=some x):k<l.length:=(C1.1 h).1
structure Wr0(H:Prop):Prop where o:H
theorem ab{G H:Prop}(g:H)(h:Wr0 H->G:=by intro x;(repeat (first|refine Ar ?_|refine Aj rfl ?_|refine Ae rfl ?_));exact x.o):G:=h ⟨g⟩
theorem ar{G H:Prop}(g:H)(h:Wr0 H->G:=by intro x;refine Ay rfl ?_;refine o_z ?_;refine ab ?_;exact x.o):G:=h ⟨g⟩
theorem ad{G H:Prop}(g:H)(h:Wr0 H->G:=by intro x;refine ab ?_;refine ar ?_;exact x.o):G:=h ⟨g⟩
theorem ak{G H:Prop}(g:H)(h:Wr0 H->G:=by intro x;refine ad ?_;refine Aw rfl ?_;exact x.o):G:=h ⟨g⟩
theorem ao{G H:Prop}(g:H)(h:Wr0 H->G:=by intro x;refine AT rfl ?_;refine Aw rfl ?_;refine o_z ?_;refine ab ?_;exact x.o):G:=h ⟨g⟩
theorem ap{G H:Prop}(g:H)(h:Wr0 H->G:=by intro x;refine ab ?_;(first|refine Fu rfl rfl ?_|refine Fv rfl rfl ?_);refine o_z ?_;exact x.o):G:=h ⟨g⟩
theorem al{G H:Prop}(g:H)(h:Wr0 H->G:=by intro x;refine ab ?_;refine Ff rfl rfl ?_;refine Bv rfl ?_;refine ab ?_;exact x.o):G:=h ⟨g⟩
theorem aw{G H:Prop}(g:H)(h:Wr0 H->G:=by intro x;refine AL rfl rfl ?_;refine Dw rfl rfl ?_;exact x.o):G:=h ⟨g⟩
theorem bc{G H:Prop}(g:H)(h:Wr0 H->G:=by intro x;(refine Au rfl ?_;(first|(refine At rfl rfl ?_;refine Cy rfl ?_)|refine AE rfl rfl ?_));(refine Au rfl ?_;(first|(refine At rfl rfl ?_;refine BV rfl ?_)|refine AE rfl rfl ?_));exact x.o):G:=h ⟨g⟩
theorem aq{G H:Prop}(g:H)(h:Wr0 H->G:=by intro x;(refine Au rfl ?_;(first|(refine At rfl rfl ?_;refine Cm rfl ?_)|refine AE rfl rfl ?_));exact x.o):G:=h ⟨g⟩
theorem az{G H:Prop}(g:H)(h:Wr0 H->G:=by intro x;refine AI rfl rfl ?_;refine bc ?_;refine aq ?_;(refine Au rfl ?_;(first|(refine At rfl rfl ?_;refine Ln rfl ?_)|refine AE rfl rfl ?_));exact x.o):G:=h ⟨g⟩
theorem bz{G H:Prop}(g:H)(h:Wr0 H->G:=by intro x;(first|refine Dr rfl rfl rfl ?_|refine Dy rfl rfl rfl ?_);exact x.o):G:=h ⟨g⟩
theorem bm{G H:Prop}(g:H)(h:Wr0 H->G:=by intro x;refine bz ?_;refine AI rfl rfl ?_;exact x.o):G:=h ⟨g⟩
theorem bZ{G H:Prop}(g:H)(h:Wr0 H->G:=by intro x;(refine Au rfl ?_;(first|(refine At rfl rfl ?_;refine Jc rfl rfl ?_)|refine AE rfl rfl ?_));(refine Au rfl ?_;(first|(refine At rfl rfl ?_;refine BV rfl ?_)|refine AE rfl rfl ?_));exact x.o):G:=h ⟨g⟩
theorem bi{G H:Prop}(g:H)(h:Wr0 H->G:=by intro x;refine aq ?_;refine bc ?_;refine bZ ?_;exact x.o):G:=h ⟨g⟩
theorem bq{G H:Prop}(g:H)(h:Wr0 H->G:=by intro x;refine bm ?_;refine bi ?_;refine bc ?_;exact x.o):G:=h ⟨g⟩
theorem be{G H:Prop}(g:H)(h:Wr0 H->G:=by intro x;refine bz ?_;refine h_z ?_;exact x.o):G:=h ⟨g⟩
theorem bb{G H:Prop}(g:H)(h:Wr0 H->G:=by intro x;(first|refine Hh rfl ?_|refine Iq rfl rfl ?_);refine Aw rfl ?_;refine o_z ?_;exact x.o):G:=h ⟨g⟩
theorem Abw{w:World}{e sv:Value}{f:List Fct}{s:List Int}(hf:V w e f)(hs:V w sv s) :
    Fn prog 33 [e,sv] w λv w'=>v=.bool (bof (YV f s=true))/\Ext w w':=by
  obtain⟨i,cf,rfl⟩:=hf.form;obtain⟨m,cs,rfl⟩:=hs.form;have n:=hf.len;refine AC func33 rfl ntmps33 ?_;refine ak ?_<;>refine ao ?_;refine Gx (λk:Nat=>[(1,.slice m s.length cs),(7,.slice i f.length cf),(8,.int .i64 (f.length:Int)),(9,.int .i64 (k:Int))])
    (λk w'=>Ext w w'/\k<=f.length/\YV (f.take k) s=true) (λk=>f.length-k) 0 ⟨W8 _ _,W6 _,rfl⟩ A5 ?_
  rintro k r ⟨d,hk,hh⟩;by_cases hlt:k<f.length
  . obtain⟨x,hx⟩:=AG hlt;obtain⟨b,o,ce,rfl,hb,_,hd1,rfl,hr1,hr2⟩:=(hf.ext d).elem hx;refine ap ?_<;>refine al ?_;refine Dp rfl rfl (by simp[Value.cells,Value.oneCell']) λg h=>?_;have p:=h.blk;have a:Ext w g:=d.trans' h.ext;refine o_z ?_;refine ab ?_;refine Df (·=g) [(0,true),(1,true),(2,true),(3,true),(4,true),(5,true),(6,true),(7,true),(8,true),(9,true),(10,true),(11,true),(12,true),(13,true),(14,true),(15,true),(16,true),(17,true),(18,true),(19,true)] rfl rfl ?_;by_cases hv:0<=x.var/\x.var<s.length
    . obtain⟨j,hj1⟩:=E3 hv.1;obtain⟨y,hy⟩:=AG (l:=s) (k:=j) (by omega);obtain⟨t,o2,ce2,rfl,_,_,hd2,rfl,_⟩:=(hs.ext a).elem hy;have c:=Qe (s:=s) hj1 hy
      (refine aw ?_<;>(first|refine JK rfl rfl rfl ?_|refine JL rfl rfl rfl ?_|refine Gq rfl rfl rfl (λ_=>?_) λ_=>?_)<;>refine az ?_<;>(refine Au rfl ?_;(first|(refine At rfl rfl ?_;(first|refine CP (λ_ _=>Bq rfl rfl) (by omega) ?_|refine CR (λ_ _=>Bq rfl rfl) (by omega) ?_|refine AQ (λ_ _=>Bq rfl rfl) (λ_=>?_) (λ_=>?_)))|refine AE rfl rfl ?_))<;>refine bq ?_<;>(refine Au rfl ?_;(first|(refine At rfl rfl ?_;(first|refine CP (λ_ _=>Ga rfl rfl) (by omega) ?_|refine CR (λ_ _=>Ga rfl rfl) (by omega) ?_|refine AQ (λ_ _=>Ga rfl rfl) (λ_=>?_) (λ_=>?_)))|refine AE rfl rfl ?_))<;>refine be ?_)<;>refine ab ?_
      . refine ad ?_;refine YT rfl rfl ⟨?_,a⟩;rw[Le hx (by rw[c];simpa using ‹_›),Kl]
      . refine bb ?_;exact⟨k+1,A5,⟨a,by omega,Oa hx (by rw[c];simp;omega) hh⟩,by omega⟩
    . have c:hasB s x=false:=by
        unfold hasB;by_cases q:0<=x.var
        . have:s.length<=x.var.toNat:=(by omega);simp[F5 this]
        . simp[q]
      (refine aw ?_<;>(first|refine JK rfl rfl rfl ?_|refine JL rfl rfl rfl ?_|refine Gq rfl rfl rfl (λ_=>?_) λ_=>?_)<;>refine az ?_<;>(refine Au rfl ?_;(first|(refine At rfl rfl ?_;(first|refine CP (λ_ _=>Bq rfl rfl) (by omega) ?_|refine CR (λ_ _=>Bq rfl rfl) (by omega) ?_|refine AQ (λ_ _=>Bq rfl rfl) (λ_=>?_) (λ_=>?_)))|refine AE rfl rfl ?_))<;>refine bq ?_<;>(refine Au rfl ?_;(first|(refine At rfl rfl ?_;(first|refine CP (λ_ _=>Ga rfl rfl) (by omega) ?_|refine CR (λ_ _=>Ga rfl rfl) (by omega) ?_|refine AQ (λ_ _=>Ga rfl rfl) (λ_=>?_) (λ_=>?_)))|refine AE rfl rfl ?_))<;>refine be ?_)<;>refine ab ?_
      all_goals
        refine ad ?_;refine YT rfl rfl ⟨?_,a⟩;rw[Le hx c,Kl]
  . refine ap ?_<;>refine ad ?_;refine YT rfl rfl ⟨?_,d⟩;rw[E8 (by omega)]at hh;rw[hh,Kl]
theorem Abs{w:World}{e sv:Value}{f:List Fct}{s:List Int}(hf:V w e f)(hs:V w sv s) :
    Fn prog 44 [e,sv] w λv w'=>v=.bool (bof (YV f s=true))/\Ext w w':=by
  obtain⟨i,cf,rfl⟩:=hf.form;obtain⟨m,cs,rfl⟩:=hs.form;have n:=hf.len;refine AC func44 rfl ntmps44 ?_;refine ak ?_<;>refine ao ?_;refine Gx (λk:Nat=>[(1,.slice m s.length cs),(7,.slice i f.length cf),(8,.int .i64 (f.length:Int)),(9,.int .i64 (k:Int))])
    (λk w'=>Ext w w'/\k<=f.length/\YV (f.take k) s=true) (λk=>f.length-k) 0 ⟨W8 _ _,W6 _,rfl⟩ A5 ?_
  rintro k r ⟨d,hk,hh⟩;by_cases hlt:k<f.length
  . obtain⟨x,hx⟩:=AG hlt;obtain⟨b,o,ce,rfl,hb,_,hd1,rfl,hr1,hr2⟩:=(hf.ext d).elem hx;refine ap ?_<;>refine al ?_;refine Dp rfl rfl (by simp[Value.cells,Value.oneCell']) λg h=>?_;have p:=h.blk;have a:Ext w g:=d.trans' h.ext;refine o_z ?_;refine ab ?_;refine Df (·=g) [(0,true),(1,true),(2,true),(3,true),(4,true),(5,true),(6,true),(7,true),(8,true),(9,true),(10,true),(11,true),(12,true),(13,true),(14,true),(15,true),(16,true),(17,true),(18,true),(19,true)] rfl rfl ?_;by_cases hv:0<=x.var/\x.var<s.length
    . obtain⟨j,hj1⟩:=E3 hv.1;obtain⟨y,hy⟩:=AG (l:=s) (k:=j) (by omega);obtain⟨t,o2,ce2,rfl,_,_,hd2,rfl,_⟩:=(hs.ext a).elem hy;have c:=Qe (s:=s) hj1 hy
      (refine aw ?_<;>(first|refine JK rfl rfl rfl ?_|refine JL rfl rfl rfl ?_|refine Gq rfl rfl rfl (λ_=>?_) λ_=>?_)<;>refine az ?_<;>(refine Au rfl ?_;(first|(refine At rfl rfl ?_;(first|refine CP (λ_ _=>Bq rfl rfl) (by omega) ?_|refine CR (λ_ _=>Bq rfl rfl) (by omega) ?_|refine AQ (λ_ _=>Bq rfl rfl) (λ_=>?_) (λ_=>?_)))|refine AE rfl rfl ?_))<;>refine bq ?_<;>(refine Au rfl ?_;(first|(refine At rfl rfl ?_;(first|refine CP (λ_ _=>Ga rfl rfl) (by omega) ?_|refine CR (λ_ _=>Ga rfl rfl) (by omega) ?_|refine AQ (λ_ _=>Ga rfl rfl) (λ_=>?_) (λ_=>?_)))|refine AE rfl rfl ?_))<;>refine be ?_)<;>refine ab ?_
      . refine ad ?_;refine YT rfl rfl ⟨?_,a⟩;rw[Le hx (by rw[c];simpa using ‹_›),Kl]
      . refine bb ?_;exact⟨k+1,A5,⟨a,by omega,Oa hx (by rw[c];simp;omega) hh⟩,by omega⟩
    . have c:hasB s x=false:=by
        unfold hasB;by_cases q:0<=x.var
        . have:s.length<=x.var.toNat:=(by omega);simp[F5 this]
        . simp[q]
      (refine aw ?_<;>(first|refine JK rfl rfl rfl ?_|refine JL rfl rfl rfl ?_|refine Gq rfl rfl rfl (λ_=>?_) λ_=>?_)<;>refine az ?_<;>(refine Au rfl ?_;(first|(refine At rfl rfl ?_;(first|refine CP (λ_ _=>Bq rfl rfl) (by omega) ?_|refine CR (λ_ _=>Bq rfl rfl) (by omega) ?_|refine AQ (λ_ _=>Bq rfl rfl) (λ_=>?_) (λ_=>?_)))|refine AE rfl rfl ?_))<;>refine bq ?_<;>(refine Au rfl ?_;(first|(refine At rfl rfl ?_;(first|refine CP (λ_ _=>Ga rfl rfl) (by omega) ?_|refine CR (λ_ _=>Ga rfl rfl) (by omega) ?_|refine AQ (λ_ _=>Ga rfl rfl) (λ_=>?_) (λ_=>?_)))|refine AE rfl rfl ?_))<;>refine be ?_)<;>refine ab ?_
      all_goals
        refine ad ?_;refine YT rfl rfl ⟨?_,a⟩;rw[Le hx c,Kl]
  . refine ap ?_<;>refine ad ?_;refine YT rfl rfl ⟨?_,d⟩;rw[E8 (by omega)]at hh;rw[hh,Kl]
def StateOk(vars s:List Int):Prop:=s.length=vars.length/\∀(i:Nat) x y,s[i]?=some x->vars[i]?=some y->0<=x/\x<y
theorem br{G H:Prop}(g:H)(h:Wr0 H->G:=by intro x;refine ak ?_;refine AT rfl ?_;refine Aw rfl ?_;refine AT rfl ?_;(first|refine Ra rfl rfl rfl ?_|refine Rb rfl rfl rfl ?_);refine o_z ?_;exact x.o):G:=h ⟨g⟩
theorem ah{G H:Prop}(g:H)(h:Wr0 H->G:=by intro x;refine ab ?_;refine Aw rfl ?_;exact x.o):G:=h ⟨g⟩
theorem am{G H:Prop}(g:H)(h:Wr0 H->G:=by intro x;refine ah ?_;refine ar ?_;exact x.o):G:=h ⟨g⟩
theorem Abv{w:World}{c sv:Value}{vars s:List Int}(d:V w c vars)(hb:V w sv s) :
    Fn prog 87 [c,sv] w λv w'=>v=.bool (bof (StateOk vars s))/\Ext w w':=by
  obtain⟨A,ca,rfl⟩:=d.form;obtain⟨n,cb,rfl⟩:=hb.form;have e:=hb.len;refine AC func87 rfl ntmps87 ?_;by_cases hl:s.length=vars.length
  . refine br ?_<;>refine ah ?_<;>refine ao ?_;refine Gx (λk:Nat=>[(0,.slice A vars.length ca),(1,.slice n s.length cb),(12,.int .i64 (s.length:Int)),(13,.int .i64 (k:Int))])
      (λk w'=>w'=w/\k<=s.length/\∀(i:Nat) x y,i<k->s[i]?=some x->vars[i]?=some y->0<=x/\x<y) (λk=>s.length-k) 0 ⟨rfl,W6 _,λi _ _ h=>by omega⟩ A5 ?_
    rintro k _ ⟨rfl,hk,hh⟩;by_cases hlt:k<s.length
    . obtain⟨x,hx⟩:=AG hlt;obtain⟨y,hy⟩:=AG (l:=vars) (k:=k) (by omega);obtain⟨j,o1,ce,rfl,_,_,hd1,rfl,_⟩:=d.elem hy;obtain⟨m,o2,ce,rfl,_,_,hd2,rfl,_⟩:=hb.elem hx;refine ap ?_<;>refine am ?_;refine Df (·=_) [(0,true),(1,true),(2,true),(3,true),(4,true),(5,true),(6,true),(7,true),(8,true),(9,true),(10,true),(11,true),(12,true),(13,true),(14,true),(15,true)] rfl rfl ?_
      (refine AI rfl rfl ?_<;>refine AI rfl rfl ?_<;>refine Vn rfl rfl rfl rfl ?_<;>refine Dw rfl rfl ?_<;>(first|refine JK rfl rfl rfl ?_|refine JL rfl rfl rfl ?_|refine Gq rfl rfl rfl (λ_=>?_) λ_=>?_)<;>refine AI rfl rfl ?_<;>refine aq ?_<;>refine aq ?_<;>refine bZ ?_<;>refine aq ?_<;>refine aq ?_<;>refine bZ ?_<;>(refine Au rfl ?_;(first|(refine At rfl rfl ?_;(first|refine CP (λ_ _=>Bq rfl rfl) (by omega) ?_|refine CR (λ_ _=>Bq rfl rfl) (by omega) ?_|refine AQ (λ_ _=>Bq rfl rfl) (λ_=>?_) (λ_=>?_)))|refine AE rfl rfl ?_))<;>refine be ?_)<;>refine ab ?_
      case refine_2.refine_2 =>
        refine bb ?_;refine⟨k+1,A5,⟨rfl,by omega,λi f g hi a b=>?_⟩,by omega⟩;by_cases he:i=k
        . subst he;rw[hx]at a;rw[hy]at b;injection a with a;injection b with b;omega
        . exact hh i f g (by omega) a b
      all_goals
        refine ad ?_;refine YT rfl rfl ⟨?_,W8 _ _⟩;rw[Bb (λh=>by have:=h.2 k x y hx hy;omega)]
    . refine ap ?_<;>refine ad ?_;refine YT rfl rfl ⟨?_,W8 _ _⟩;rw[BI ⟨hl,λi x y a b=>hh i x y (by have:=Cf a;omega) a b⟩]
  . refine br ?_<;>refine ad ?_;refine YT rfl rfl ⟨?_,W8 _ _⟩;rw[Bb (λh=>hl h.1)]
end
section
open Go Go.RowKit
attribute [local irreducible] ewp owp hwp hwq hws Ev Evg Fn X6 Y1 YZ YY
theorem aZ{G H:Prop}(g:H)(h:Wr0 H->G:=by intro x;refine Ay rfl ?_;refine ar ?_;exact x.o):G:=h ⟨g⟩
theorem ac{G H:Prop}(g:H)(h:Wr0 H->G:=by intro x;refine Aw rfl ?_;exact x.o):G:=h ⟨g⟩
theorem ai{G H:Prop}(g:H)(h:Wr0 H->G:=by intro x;(first|refine DU rfl rfl ?_|refine EP rfl rfl ?_);refine o_z ?_;exact x.o):G:=h ⟨g⟩
theorem Aas{w:World}{c sv:Value}{vars s:List Int}(d:V w c vars)(hb:V w sv s) :
    Fn prog 36 [c,sv] w λv w'=>v=.bool (bof (StateOk vars s))/\Ext w w':=by
  obtain⟨A,ca,rfl⟩:=d.form;obtain⟨n,cb,rfl⟩:=hb.form;have e:=hb.len;refine AC func36 rfl ntmps36 ?_;by_cases hl:s.length=vars.length
  . refine br ?_<;>refine ah ?_<;>refine ao ?_;refine Gx (λk:Nat=>[(0,.slice A vars.length ca),(12,.slice n s.length cb),(13,.int .i64 (s.length:Int)),(14,.int .i64 (k:Int))])
      (λk w'=>w'=w/\k<=s.length/\∀(i:Nat) x y,i<k->s[i]?=some x->vars[i]?=some y->0<=x/\x<y) (λk=>s.length-k) 0 ⟨rfl,W6 _,λi _ _ h=>by omega⟩ A5 ?_
    rintro k _ ⟨rfl,hk,hh⟩;by_cases hlt:k<s.length
    . obtain⟨x,hx⟩:=AG hlt;obtain⟨y,hy⟩:=AG (l:=vars) (k:=k) (by omega);obtain⟨j,o1,ce,rfl,_,_,hd1,rfl,_⟩:=d.elem hy;obtain⟨m,o2,ce,rfl,_,_,hd2,rfl,_⟩:=hb.elem hx
      (refine ap ?_<;>refine ah ?_<;>refine Ff rfl rfl ?_<;>refine AF rfl ?_<;>refine aZ ?_<;>(refine ac ?_<;>(first|refine Fu rfl rfl ?_|refine Fv rfl rfl ?_|refine CL rfl rfl (λ_=>?_) λ_=>?_)<;>refine ac ?_<;>(first|(refine AA rfl rfl ?_;refine Aw rfl ?_)|refine AK rfl rfl ?_)<;>(first|(refine AA rfl rfl ?_;refine Aw rfl ?_)|refine AK rfl rfl ?_)<;>(first|(refine AA rfl rfl ?_;refine Aw rfl ?_)|refine AK rfl rfl ?_)<;>(first|(refine AA rfl rfl ?_;refine Ff rfl rfl ?_)|refine AK rfl rfl ?_)<;>(first|(refine AA rfl rfl ?_;refine AF rfl ?_)|refine AK rfl rfl ?_)<;>(first|(refine AA rfl rfl ?_;(first|refine Pg rfl rfl rfl ?_|refine Ph rfl rfl rfl ?_|refine EM rfl rfl (λ_=>?_) λ_=>?_))|refine AK rfl rfl ?_)<;>refine ai ?_)<;>refine ab ?_)
      case refine_2.refine_2 =>
        refine bb ?_;refine⟨k+1,A5,⟨rfl,by omega,λi f g hi a b=>?_⟩,by omega⟩;by_cases he:i=k
        . subst he;rw[hx]at a;rw[hy]at b;injection a with a;injection b with b;omega
        . exact hh i f g (by omega) a b
      all_goals
        refine ad ?_;refine YT rfl rfl ⟨?_,W8 _ _⟩;rw[Bb (λh=>by have:=h.2 k x y hx hy;omega)]
    . refine ap ?_<;>refine ad ?_;refine YT rfl rfl ⟨?_,W8 _ _⟩;rw[BI ⟨hl,λi x y a b=>hh i x y (by have:=Cf a;omega) a b⟩]
  . refine br ?_<;>refine ad ?_;refine YT rfl rfl ⟨?_,W8 _ _⟩;rw[Bb (λh=>hl h.1)]
def YU(vars:List Int)(x:Fct):Prop:=0<=x.var/\0<=x.val/\∃y,vars[x.var.toNat]?=some y/\x.val<y
def FactsOk(vars:List Int)(f:List Fct):Prop:=(∀(i:Nat) x,f[i]?=some x->YU vars x)/\∀(i:Nat) x y,f[i]?=some x->f[i+1]?=some y->x.var<y.var
def FactsTo(vars:List Int)(f:List Fct)(k:Nat):Prop:=(∀(i:Nat) x,i<k->f[i]?=some x->YU vars x)/\∀(i:Nat) x y,i+1<k->f[i]?=some x->f[i+1]?=some y->x.var<y.var
theorem FactsTo.step{vars:List Int}{f:List Fct}{k:Nat}{x:Fct}(h:FactsTo vars f k)(b:f[k]?=some x)(c:YU vars x)(d:∀y,0<k->f[k-1]?=some y->y.var<x.var):FactsTo vars f (k+1):=by
  refine⟨λi y hi a=>?_,λi y z hi a hz=>?_⟩
  . by_cases he:i=k
    . subst he;rw[b]at a;injection a with a;exact a▸c
    . exact h.1 i y (by omega) a
  . by_cases he:i+1=k
    . rw[he,b]at hz;injection hz with hz;subst hz;exact d y (by omega) (by rw[show k-1=i from by omega];exact a)
    . exact h.2 i y z (by omega) a hz
theorem FactsTo.done{vars:List Int}{f:List Fct}{k:Nat}(h:FactsTo vars f k)(hk:f.length<=k):FactsOk vars f :=
  ⟨λi x a=>h.1 i x (by have:=Cf a;omega) a,λi x y a b=>h.2 i x y (by have:=Cf b;omega) a b⟩
theorem ax{G H:Prop}(g:H)(h:Wr0 H->G:=by intro x;refine bm ?_;refine bc ?_;exact x.o):G:=h ⟨g⟩
theorem cd{G H:Prop}(g:H)(h:Wr0 H->G:=by intro x;refine aq ?_;refine aq ?_;refine aq ?_;(refine Au rfl ?_;(first|(refine At rfl rfl ?_;refine Vp rfl rfl rfl ?_)|refine AE rfl rfl ?_));(refine Au rfl ?_;(first|(refine At rfl rfl ?_;refine Jc rfl rfl ?_)|refine AE rfl rfl ?_));refine bc ?_;exact x.o):G:=h ⟨g⟩
theorem ch{G H:Prop}(g:H)(h:Wr0 H->G:=by intro x;(refine Au rfl ?_;(first|(refine At rfl rfl ?_;(first|refine TJ rfl rfl rfl ?_|refine Rq rfl rfl rfl ?_))|refine AE rfl rfl ?_));refine bz ?_;refine h_z ?_;exact x.o):G:=h ⟨g⟩
theorem Zx{w:World}{C D:Value}{vars:List Int}{f:List Fct}(hv:V w C vars)(hf:V w D f) :
    Fn prog 88 [C,D] w λv w'=>v=.bool (bof (FactsOk vars f))/\Ext w w':=by
  obtain⟨A,ca,rfl⟩:=hv.form;obtain⟨P,cb,rfl⟩:=hf.form;have G:=hf.len;refine AC func88 rfl ntmps88 ?_;refine ak ?_<;>refine ao ?_;refine Gx (λk:Nat=>[(0,.slice A vars.length ca),(1,.slice P f.length cb),(7,.slice P f.length cb),(8,.int .i64 (f.length:Int)),(9,.int .i64 (k:Int))])
    (λk w'=>Ext w w'/\k<=f.length/\FactsTo vars f k) (λk=>f.length-k) 0 ⟨W8 _ _,W6 _,⟨λi _ h=>by omega,λi _ _ h=>by omega⟩⟩ A7 ?_
  rintro k K ⟨u,hk,hh⟩;by_cases hlt:k<f.length
  . obtain⟨x,hx⟩:=AG hlt;obtain⟨b,o,ce,rfl,hb,_,hd1,rfl,hr1,hr2⟩:=(hf.ext u).elem hx;refine ap ?_<;>refine ah ?_<;>refine Ff rfl rfl ?_<;>refine Bv rfl ?_<;>refine ab ?_;refine GO rfl λL n=>?_;refine Ay rfl ?_;refine Do rfl rfl n.blk rfl (W3 _) (by simp[Value.cells,Value.oneCell']) λE H=>?_;replace n:=n.upd H;have I:=n.blk;have a:Ext w E:=u.trans' n.ext;refine o_z ?_;refine ab ?_;refine Df (·=E) [(0,true),(1,true),(2,true),(3,true),(4,true),(5,true),(6,true),(7,true),(8,true),(9,true),(10,true),(11,true),(12,true),(13,true),(14,true),(15,true),(16,true),(17,true),(18,true),(19,true),(20,true),(21,true),(22,true),(23,true),(24,true),(25,true),(26,true),(27,true),(28,true),(29,true),(30,true),(31,true),(32,true),(33,true),(34,true),(35,true),(36,true),(37,true),(38,true),(39,true)] rfl rfl ?_;by_cases p:0<=x.var/\x.var<vars.length
    . obtain ⟨j,hj1⟩:=E3 p.1;obtain⟨y,hy⟩:=AG (l:=vars) (k:=j) (by omega);obtain⟨M,o2,ce2,rfl,_,_,hd2,rfl,_⟩:=(hv.ext a).elem hy;have q:vars[x.var.toNat]?=some y:=(by rw[hj1];simpa using hy);have r:0<=x.val->x.val<y->YU vars x:=λg m=>⟨p.1,g,y,q,m⟩;have e:¬(0<=x.val/\x.val<y)->¬FactsOk vars f:=λg m=>g (by
        obtain⟨_,h3,F,t,h5⟩:=m.1 k x hx;rw[q]at t;injection t with t;subst t;exact⟨h3,h5⟩)
      by_cases N:0<k
      . obtain⟨z,hz⟩:=AG (l:=f) (k:=k-1) (by omega);obtain⟨O,o3,ce3,c,_,_,hd3,rfl,_⟩:=(hf.ext a).elem hz;injection c with c;injection c with c B;subst c;subst B;have J:(k:Int)-1=((k-1:Nat):Int):=(by omega);have s:¬z.var<x.var->¬FactsOk vars f:=λg m=>g (m.2 (k-1) z x hz (by rw[show k-1+1=k from by omega];exact hx))
        (refine aw ?_<;>(first|refine JK rfl rfl rfl ?_|refine JL rfl rfl rfl ?_|refine Gq rfl rfl rfl (λ_=>?_) λ_=>?_)<;>refine az ?_<;>(refine Au rfl ?_;(first|(refine At rfl rfl ?_;(first|refine CP (λ_ _=>Bq rfl rfl) (by omega) ?_|refine CR (λ_ _=>Bq rfl rfl) (by omega) ?_|refine AQ (λ_ _=>Bq rfl rfl) (λ_=>?_) (λ_=>?_)))|refine AE rfl rfl ?_))<;>refine ax ?_<;>(refine Au rfl ?_;(first|(refine At rfl rfl ?_;(first|refine CP (λ_ _=>CO rfl rfl) (by omega) ?_|refine CR (λ_ _=>CO rfl rfl) (by omega) ?_|refine AQ (λ_ _=>CO rfl rfl) (λ_=>?_) (λ_=>?_)))|refine AE rfl rfl ?_))<;>refine ax ?_<;>refine bi ?_<;>(refine Au rfl ?_;(first|(refine At rfl rfl ?_;(first|refine CP (λ_ _=>Bq rfl rfl) (by omega) ?_|refine CR (λ_ _=>Bq rfl rfl) (by omega) ?_|refine AQ (λ_ _=>Bq rfl rfl) (λ_=>?_) (λ_=>?_)))|refine AE rfl rfl ?_))<;>refine bm ?_<;>refine aq ?_<;>(refine Au rfl ?_;(first|(refine At rfl rfl ?_;(first|refine CP (λ_ _=>Fy rfl rfl) (by omega) ?_|refine CR (λ_ _=>Fy rfl rfl) (by omega) ?_|refine AQ (λ_ _=>Fy rfl rfl) (λ_=>?_) (λ_=>?_)))|refine AE rfl rfl ?_))<;>refine cd ?_<;>refine bc ?_<;>(refine Au rfl ?_;(first|(refine At rfl rfl ?_;(first|refine CP (λ_ _=>Bq rfl rfl) (by omega) ?_|refine CR (λ_ _=>Bq rfl rfl) (by omega) ?_|refine AQ (λ_ _=>Bq rfl rfl) (λ_=>?_) (λ_=>?_)))|refine AE rfl rfl ?_))<;>refine ch ?_)<;>refine ab ?_
        all_goals first
          | (refine bb ?_
             exact⟨k+1,A7,⟨a,by omega,hh.step hx (r (by omega) (by omega)) (λF _ d=>by rw[hz]at d;injection d with d;subst d;omega)⟩,by omega⟩)
          | (refine ad ?_
             refine YT rfl rfl ⟨?_,a⟩;first|rw[Bb (e (by omega))]|rw[Bb (s (by omega))])
      . (refine aw ?_<;>(first|refine JK rfl rfl rfl ?_|refine JL rfl rfl rfl ?_|refine Gq rfl rfl rfl (λ_=>?_) λ_=>?_)<;>refine az ?_<;>(refine Au rfl ?_;(first|(refine At rfl rfl ?_;(first|refine CP (λ_ _=>Bq rfl rfl) (by omega) ?_|refine CR (λ_ _=>Bq rfl rfl) (by omega) ?_|refine AQ (λ_ _=>Bq rfl rfl) (λ_=>?_) (λ_=>?_)))|refine AE rfl rfl ?_))<;>refine ax ?_<;>(refine Au rfl ?_;(first|(refine At rfl rfl ?_;(first|refine CP (λ_ _=>CO rfl rfl) (by omega) ?_|refine CR (λ_ _=>CO rfl rfl) (by omega) ?_|refine AQ (λ_ _=>CO rfl rfl) (λ_=>?_) (λ_=>?_)))|refine AE rfl rfl ?_))<;>refine ax ?_<;>refine bi ?_<;>(refine Au rfl ?_;(first|(refine At rfl rfl ?_;(first|refine CP (λ_ _=>Bq rfl rfl) (by omega) ?_|refine CR (λ_ _=>Bq rfl rfl) (by omega) ?_|refine AQ (λ_ _=>Bq rfl rfl) (λ_=>?_) (λ_=>?_)))|refine AE rfl rfl ?_))<;>refine bm ?_<;>refine aq ?_<;>(refine Au rfl ?_;(first|(refine At rfl rfl ?_;(first|refine CP (λ_ _=>Fy rfl rfl) (by omega) ?_|refine CR (λ_ _=>Fy rfl rfl) (by omega) ?_|refine AQ (λ_ _=>Fy rfl rfl) (λ_=>?_) (λ_=>?_)))|refine AE rfl rfl ?_))<;>refine cd ?_<;>refine bc ?_<;>(refine Au rfl ?_;(first|(refine At rfl rfl ?_;(first|refine CP (λ_ _=>Bq rfl rfl) (by omega) ?_|refine CR (λ_ _=>Bq rfl rfl) (by omega) ?_|refine AQ (λ_ _=>Bq rfl rfl) (λ_=>?_) (λ_=>?_)))|refine AE rfl rfl ?_))<;>refine ch ?_)<;>refine ab ?_
        all_goals first
          | (refine bb ?_
             exact⟨k+1,A7,⟨a,by omega,hh.step hx (r (by omega) (by omega)) (λF _ d=>by omega)⟩,by omega⟩)
          | (refine ad ?_
             refine YT rfl rfl ⟨?_,a⟩;rw[Bb (e (by omega))])
    . have e:¬FactsOk vars f:=λh=>by
        obtain⟨g,m,y,h3,_⟩:=h.1 k x hx;have:=Cf h3;omega
      (refine aw ?_<;>(first|refine JK rfl rfl rfl ?_|refine JL rfl rfl rfl ?_|refine Gq rfl rfl rfl (λ_=>?_) λ_=>?_)<;>refine az ?_<;>(refine Au rfl ?_;(first|(refine At rfl rfl ?_;(first|refine CP (λ_ _=>Bq rfl rfl) (by omega) ?_|refine CR (λ_ _=>Bq rfl rfl) (by omega) ?_|refine AQ (λ_ _=>Bq rfl rfl) (λ_=>?_) (λ_=>?_)))|refine AE rfl rfl ?_))<;>refine ax ?_<;>(refine Au rfl ?_;(first|(refine At rfl rfl ?_;(first|refine CP (λ_ _=>CO rfl rfl) (by omega) ?_|refine CR (λ_ _=>CO rfl rfl) (by omega) ?_|refine AQ (λ_ _=>CO rfl rfl) (λ_=>?_) (λ_=>?_)))|refine AE rfl rfl ?_))<;>refine ax ?_<;>refine bi ?_<;>(refine Au rfl ?_;(first|(refine At rfl rfl ?_;(first|refine CP (λ_ _=>Bq rfl rfl) (by omega) ?_|refine CR (λ_ _=>Bq rfl rfl) (by omega) ?_|refine AQ (λ_ _=>Bq rfl rfl) (λ_=>?_) (λ_=>?_)))|refine AE rfl rfl ?_))<;>refine bm ?_<;>refine aq ?_<;>(refine Au rfl ?_;(first|(refine At rfl rfl ?_;(first|refine CP (λ_ _=>Fy rfl rfl) (by omega) ?_|refine CR (λ_ _=>Fy rfl rfl) (by omega) ?_|refine AQ (λ_ _=>Fy rfl rfl) (λ_=>?_) (λ_=>?_)))|refine AE rfl rfl ?_))<;>refine cd ?_<;>refine bc ?_<;>(refine Au rfl ?_;(first|(refine At rfl rfl ?_;(first|refine CP (λ_ _=>Bq rfl rfl) (by omega) ?_|refine CR (λ_ _=>Bq rfl rfl) (by omega) ?_|refine AQ (λ_ _=>Bq rfl rfl) (λ_=>?_) (λ_=>?_)))|refine AE rfl rfl ?_))<;>refine ch ?_)<;>refine ab ?_
      all_goals
        refine ad ?_;refine YT rfl rfl ⟨?_,a⟩;rw[Bb e]
  . refine ap ?_<;>refine ad ?_;refine YT rfl rfl ⟨?_,u⟩;rw[BI (hh.done (by omega))]
theorem af{G H:Prop}(g:H)(h:Wr0 H->G:=by intro x;refine AN rfl ?_;refine AF rfl ?_;exact x.o):G:=h ⟨g⟩
theorem AaA{w:World}{D E:Value}{vars:List Int}{f:List Fct}(hv:V w D vars)(hf:V w E f) :
    Fn prog 58 [D,E] w λv w'=>v=.bool (bof (FactsOk vars f))/\Ext w w':=by
  obtain⟨A,ca,rfl⟩:=hv.form;obtain⟨L,cb,rfl⟩:=hf.form;have I:=hf.len;refine AC func58 rfl ntmps58 ?_;refine ad ?_<;>refine ar ?_<;>refine ac ?_<;>refine ao ?_;refine Gx (X:=Nat×Int) (λk=>[(0,.slice A vars.length ca),(5,.int .i64 k.2),(8,.slice L f.length cb),(9,.int .i64 (f.length:Int)),(10,.int .i64 (k.1:Int))])
    (λk w'=>Ext w w'/\k.1<=f.length/\FactsTo vars f k.1/\(k.1=0->k.2=-1)/\∀y,0<k.1->f[k.1-1]?=some y->y.var=k.2) (λk=>f.length-k.1) (0,-1) ⟨W8 _ _,W6 _,⟨λi _ h=>by simp at h,λi _ _ h=>by simp at h⟩,λ_=>rfl,λy h=>by simp at h⟩ A7 ?_
  rintro⟨k,m⟩ w1 ⟨hE,hk,hh,hm0,hm⟩;dsimp only at hk hh hm0 hm ⊢;by_cases hlt:k<f.length
  . obtain⟨x,hx⟩:=AG hlt;obtain⟨b,o,ce,rfl,hb,_,hd1,rfl,hr1,hr2⟩:=(hf.ext hE).elem hx;refine ap ?_<;>refine al ?_;refine Dp rfl rfl (by simp[Value.cells,Value.oneCell']) λF G=>?_;have J:=G.blk;have a:Ext w F:=hE.trans' G.ext;refine o_z ?_;refine ab ?_;refine Df (·=F) [(0,true),(1,true),(2,true),(3,true),(4,true),(5,true),(6,true),(7,true),(8,true),(9,true),(10,true),(11,true),(12,true),(13,true),(14,true),(15,true),(16,true),(17,true),(18,true),(19,true),(20,true),(21,true),(22,true),(23,true),(24,true),(25,true)] rfl rfl ?_;have n:0<k->∃z,f[k-1]?=some z/\z.var=m:=λc=>by
      obtain⟨z,hz⟩:=AG (l:=f) (k:=k-1) (by omega);exact⟨z,hz,hm z c hz⟩
    have u:0<k->0<=m:=λc=>by
      obtain⟨z,hz,he⟩:=n c;have:=(hh.1 (k-1) z (by omega) hz).1;omega
    have H:-1<=m:=by
      by_cases c:0<k
      . have:=u c;omega
      . have:=hm0 (by omega);omega
    have p:¬m<x.var->¬FactsOk vars f:=λq e=>by
      by_cases c:0<k
      . obtain⟨z,hz,he⟩:=n c;have:=e.2 (k-1) z x hz (by rw[show k-1+1=k from by omega];exact hx);omega
      . have:=hm0 (by omega);have:=(e.1 k x hx).1;omega
    by_cases r:0<=x.var/\x.var<vars.length
    . obtain⟨j,hj1⟩:=E3 r.1;obtain⟨y,hy⟩:=AG (l:=vars) (k:=j) (by omega);obtain⟨K,o2,ce2,rfl,_,_,hd2,rfl,_⟩:=(hv.ext a).elem hy;have s:vars[x.var.toNat]?=some y:=(by rw[hj1];simpa using hy);have B:0<=x.val->x.val<y->YU vars x:=λq e=>⟨r.1,q,y,s,e⟩;have g:¬(0<=x.val/\x.val<y)->¬FactsOk vars f:=λq e=>q (by
        obtain⟨_,h3,C,t,h5⟩:=e.1 k x hx;rw[s]at t;injection t with t;subst t;exact⟨h3,h5⟩)
      (refine aw ?_<;>refine AI rfl rfl ?_<;>(first|refine Wu rfl rfl rfl rfl ?_|refine Wv rfl rfl rfl rfl ?_|refine Ww rfl rfl rfl rfl (λ_=>?_) λ_=>?_)<;>refine az ?_<;>(refine Au rfl ?_;(first|(refine At rfl rfl ?_;(first|refine CP (λ_ _=>Bq rfl rfl) (by omega) ?_|refine CR (λ_ _=>Bq rfl rfl) (by omega) ?_|refine AQ (λ_ _=>Bq rfl rfl) (λ_=>?_) (λ_=>?_)))|refine AE rfl rfl ?_))<;>refine ax ?_<;>(refine Au rfl ?_;(first|(refine At rfl rfl ?_;(first|refine CP (λ_ _=>CO rfl rfl) (by omega) ?_|refine CR (λ_ _=>CO rfl rfl) (by omega) ?_|refine AQ (λ_ _=>CO rfl rfl) (λ_=>?_) (λ_=>?_)))|refine AE rfl rfl ?_))<;>refine ax ?_<;>refine bi ?_<;>(refine Au rfl ?_;(first|(refine At rfl rfl ?_;(first|refine CP (λ_ _=>Bq rfl rfl) (by omega) ?_|refine CR (λ_ _=>Bq rfl rfl) (by omega) ?_|refine AQ (λ_ _=>Bq rfl rfl) (λ_=>?_) (λ_=>?_)))|refine AE rfl rfl ?_))<;>refine be ?_)<;>refine ab ?_
      all_goals try (
        refine ad ?_;refine YT rfl rfl ⟨?_,a⟩;first|rw[Bb (g (by omega))]|rw[Bb (p (by omega))])
      refine ab ?_<;>refine af ?_<;>refine ar ?_;refine bb ?_;refine⟨(k+1,x.var),A7,⟨a,hlt,hh.step hx (B (by omega) (by omega)) (λC c d=>by have:=hm C c d;omega),λh=>absurd h (Nat.succ_ne_zero k),λC _ d=>?_⟩,Nat.sub_lt_sub_left hlt (Q1 k)⟩;rw[show k+1-1=k from rfl,hx]at d;exact congrArg Fct.var (R1 d).symm
    . have g:¬FactsOk vars f:=λh=>by
        obtain⟨q,e,y,h3,_⟩:=h.1 k x hx;have:=Cf h3;omega
      (refine aw ?_<;>refine AI rfl rfl ?_<;>(first|refine Wu rfl rfl rfl rfl ?_|refine Wv rfl rfl rfl rfl ?_|refine Ww rfl rfl rfl rfl (λ_=>?_) λ_=>?_)<;>refine az ?_<;>(refine Au rfl ?_;(first|(refine At rfl rfl ?_;(first|refine CP (λ_ _=>Bq rfl rfl) (by omega) ?_|refine CR (λ_ _=>Bq rfl rfl) (by omega) ?_|refine AQ (λ_ _=>Bq rfl rfl) (λ_=>?_) (λ_=>?_)))|refine AE rfl rfl ?_))<;>refine ax ?_<;>(refine Au rfl ?_;(first|(refine At rfl rfl ?_;(first|refine CP (λ_ _=>CO rfl rfl) (by omega) ?_|refine CR (λ_ _=>CO rfl rfl) (by omega) ?_|refine AQ (λ_ _=>CO rfl rfl) (λ_=>?_) (λ_=>?_)))|refine AE rfl rfl ?_))<;>refine ax ?_<;>refine bi ?_<;>(refine Au rfl ?_;(first|(refine At rfl rfl ?_;(first|refine CP (λ_ _=>Bq rfl rfl) (by omega) ?_|refine CR (λ_ _=>Bq rfl rfl) (by omega) ?_|refine AQ (λ_ _=>Bq rfl rfl) (λ_=>?_) (λ_=>?_)))|refine AE rfl rfl ?_))<;>refine be ?_)<;>refine ab ?_
      all_goals
        refine ad ?_;refine YT rfl rfl ⟨?_,a⟩;rw[Bb g]
  . refine ap ?_<;>refine ad ?_;refine YT rfl rfl ⟨?_,hE⟩;rw[BI (hh.done (by omega))]
def Aal(s:ByteArray):Prop:=s.size<=256/\∀(i:Nat)(h:i<s.size),32<=(s[i]'h).toNat/\(s[i]'h).toNat<=126
theorem bf{G H:Prop}(g:H)(h:Wr0 H->G:=by intro x;refine ac ?_;refine o_z ?_;exact x.o):G:=h ⟨g⟩
theorem bg{G H:Prop}(g:H)(h:Wr0 H->G:=by intro x;refine ac ?_;refine ac ?_;exact x.o):G:=h ⟨g⟩
theorem cn{G H:Prop}(g:H)(h:Wr0 H->G:=by intro x;refine ap ?_;refine ah ?_;refine Rn rfl rfl ?_;(first|refine QY rfl rfl rfl ?_|refine QZ rfl rfl rfl ?_);refine ar ?_;exact x.o):G:=h ⟨g⟩
theorem Aby{w:World}{s:ByteArray}(hs:s.size<=9223372036854775807) :
    Fn prog 59 [.string s] w λv w'=>v=.bool (bof (Aal s))/\Ext w w':=by
  refine AC func59 rfl ntmps59 ?_;refine ak ?_<;>refine Rn rfl rfl ?_<;>refine bf ?_<;>refine ab ?_;refine Gx (λk:Nat=>[(0,.string s),(5,.int .i64 (s.size:Int)),(6,.int .i64 (k:Int))])
    (λk w'=>w'=w/\k<=s.size/\∀(i:Nat)(h:i<s.size),i<k->32<=(s[i]'h).toNat/\(s[i]'h).toNat<=126) (λk=>s.size-k) 0 ⟨rfl,W6 _,λi _ h=>by omega⟩ Af ?_
  rintro k _ ⟨rfl,hk,hh⟩;by_cases hlt:k<s.size
  . (refine ap ?_<;>refine am ?_<;>(refine bg ?_<;>refine TG rfl rfl rfl (by omega) ?_<;>(first|refine Fu rfl rfl ?_|refine Fv rfl rfl ?_|refine CL rfl rfl (λ_=>?_) λ_=>?_)<;>refine ac ?_<;>(first|(refine AA rfl rfl ?_;refine Aw rfl ?_)|refine AK rfl rfl ?_)<;>(first|(refine AA rfl rfl ?_;refine Aw rfl ?_)|refine AK rfl rfl ?_)<;>(first|(refine AA rfl rfl ?_;refine TG rfl rfl rfl (by omega) ?_)|refine AK rfl rfl ?_)<;>(first|(refine AA rfl rfl ?_;(first|refine Gm rfl rfl ?_|refine Gn rfl rfl ?_|refine Dc rfl rfl (λ_=>?_) λ_=>?_))|refine AK rfl rfl ?_)<;>refine ai ?_)<;>refine ab ?_)
    all_goals first
      | (refine bb ?_
         refine⟨k+1,Af,⟨rfl,by omega,λi h hi=>?_⟩,by omega⟩;by_cases he:i=k
         . subst he;omega
         . exact hh i h (by omega))
      | (refine ad ?_
         refine YT rfl rfl ⟨?_,W8 _ _⟩;rw[Bb (λh=>by have:=h.2 k hlt;omega)])
  . by_cases a:s.size<=256
    . refine cn ?_;refine YT rfl rfl ⟨?_,W8 _ _⟩;rw[BI ⟨a,λi h=>hh i h (by omega)⟩]
    . refine cn ?_;refine YT rfl rfl ⟨?_,W8 _ _⟩;rw[Bb (λh=>a h.1)]
end
section
open Go Go.RowKit
attribute [local irreducible] ewp owp hwp hwq hws Ev Evg Fn X6 Y1 YZ YY
theorem HD{vars:List Int}{x:Fct}:FactsOk vars [x]↔YU vars x:=by
  constructor
  . intro h;exact h.1 0 x rfl
  . intro h;refine⟨λi y a=>?_,λi y z _ hz=>by simp at hz⟩;cases i with
    |zero=>simp at a;exact a▸h
    |succ i=>simp at a
def ZT(vars:List Int)(e:Eff):Prop:=FactsOk vars e.cond/\YU vars ⟨e.var,e.val⟩
def Aau(vars:List Int)(o:Opr):Prop:=0<=o.cost/\o.cost<=1048576/\o.effs.length<=64/\Aal o.name/\FactsOk vars o.pre/\∀(i:Nat) e,o.effs[i]?=some e->ZT vars e
def TaskOk(t:Tsk):Prop:=t.vars.length<=64/\t.ops.length<=4096/\(∀(i:Nat) n,t.vars[i]?=some n->1<=n/\n<=64)/\StateOk t.vars t.init/\FactsOk t.vars t.goal/\∀(i:Nat) o,t.ops[i]?=some o->Aau t.vars o
theorem DJ{p:Nat->Prop}{k:Nat}(h:∀i,i<k->p i)(hk:p k):∀i,i<k+1->p i:=λi hi=>by
  by_cases he:i=k
  . subst he;exact hk
  . exact h i (by omega)
theorem ae{G H:Prop}(g:H)(h:Wr0 H->G:=by intro x;refine Ay rfl ?_;refine o_z ?_;exact x.o):G:=h ⟨g⟩
theorem bn{G H:Prop}(g:H)(h:Wr0 H->G:=by intro x;(first|refine DU rfl rfl ?_|refine EP rfl rfl ?_);exact x.o):G:=h ⟨g⟩
theorem au{G H:Prop}(g:H)(h:Wr0 H->G:=by intro x;refine ab ?_;refine af ?_;refine ao ?_;exact x.o):G:=h ⟨g⟩
theorem bo{G H:Prop}(g:H)(h:Wr0 H->G:=by intro x;(first|refine Fq rfl ?_|refine Fe rfl ?_|refine DY rfl ?_);exact x.o):G:=h ⟨g⟩
theorem Aba{w:World}{C ov:Value}{vars:List Int}{o:Opr}(hv:V w C vars)(H:V w ov o) :
    Fn prog 89 [C,ov] w λv w'=>v=.bool (bof (Aau vars o))/\Ext w w':=by
  obtain⟨D,cv,rfl⟩:=hv.form;obtain⟨cs,rfl,p,q,rfl,hp,hq,hc,hn⟩:=H;obtain⟨O,cp,rfl⟩:=hp.form;obtain⟨I,cq,rfl⟩:=hq.form;have J:=hq.len;refine AC func89 rfl ntmps89 ?_;refine ab ?_;refine Gw rfl λK E=>?_;have r:=E.blk;have b:Ext w K:=E.ext;refine ae ?_;refine ab ?_
  (refine af ?_<;>(first|refine Fu rfl rfl ?_|refine Fv rfl rfl ?_|refine CL rfl rfl (λ_=>?_) λ_=>?_)<;>refine ac ?_<;>(first|(refine AA rfl rfl ?_;refine AN rfl ?_)|refine AK rfl rfl ?_)<;>(first|(refine AA rfl rfl ?_;refine AF rfl ?_)|refine AK rfl rfl ?_)<;>(first|(refine AA rfl rfl ?_;(first|refine Gm rfl rfl ?_|refine Gn rfl rfl ?_|refine Dc rfl rfl (λ_=>?_) λ_=>?_))|refine AK rfl rfl ?_)<;>refine bn ?_<;>refine ac ?_<;>(first|(refine AA rfl rfl ?_;refine AN rfl ?_)|refine AK rfl rfl ?_)<;>(first|(refine AA rfl rfl ?_;refine AF rfl ?_)|refine AK rfl rfl ?_)<;>(first|(refine AA rfl rfl ?_;refine AT rfl ?_)|refine AK rfl rfl ?_)<;>(first|(refine AA rfl rfl ?_;(first|refine Gm rfl rfl ?_|refine Gn rfl rfl ?_|refine Dc rfl rfl (λ_=>?_) λ_=>?_))|refine AK rfl rfl ?_)<;>refine bn ?_<;>refine ac ?_<;>(first|(refine AA rfl rfl ?_;refine AN rfl ?_)|refine AK rfl rfl ?_)<;>(first|(refine AA rfl rfl ?_;refine AF rfl ?_)|refine AK rfl rfl ?_)<;>(first|(refine AA rfl rfl ?_;refine Rn rfl rfl ?_)|refine AK rfl rfl ?_)<;>(first|(refine AA rfl rfl ?_;(first|refine Gm rfl rfl ?_|refine Gn rfl rfl ?_|refine Dc rfl rfl (λ_=>?_) λ_=>?_))|refine AK rfl rfl ?_)<;>refine bn ?_<;>refine ac ?_<;>(first|(refine AA rfl rfl ?_;refine Aw rfl ?_)|refine AK rfl rfl ?_)<;>(first|(refine AA rfl rfl ?_;refine AN rfl ?_)|refine AK rfl rfl ?_)<;>(first|(refine AA rfl rfl ?_;refine AF rfl ?_)|refine AK rfl rfl ?_))
  all_goals try (
    refine AK rfl rfl ?_
    ((first|(refine AA rfl rfl ?_;(first|refine Fq rfl ?_|refine Fe rfl ?_|refine DY rfl ?_))|refine AK rfl rfl ?_)<;>refine ai ?_)
    refine ab ?_;refine ad ?_;refine YT rfl rfl ⟨?_,b⟩;rw[Bb (λh=>by obtain⟨P,h2,h3,⟨h4,_⟩,_⟩:=h;omega)])
  refine AA rfl rfl ?_;refine Ez rfl (Zx (hv.ext b) (hp.ext b)) ?_ ?_
  case refine_2 =>
    intro B s a
    ((first|(refine AA rfl rfl ?_;(first|refine Fq rfl ?_|refine Fe rfl ?_|refine DY rfl ?_))|refine AK rfl rfl ?_)<;>refine ai ?_)
    refine ab ?_;refine ad ?_;refine YT rfl rfl ⟨?_,b.trans' a⟩;rw[Bb (λh=>s h.2.2.2.2.1)]
  intro B t a;replace r:=r.ext a;have a:Ext w B:=b.trans' a
  ((first|(refine AA rfl rfl ?_;(first|refine Fq rfl ?_|refine Fe rfl ?_|refine DY rfl ?_))|refine AK rfl rfl ?_)<;>refine ai ?_)
  refine ab ?_;refine af ?_<;>refine Rn rfl rfl ?_<;>refine bf ?_;refine ab ?_;refine CI o.name.size hn (λ_:Unit=>[(0,.slice D vars.length cv),(3,.pointer (some ⟨w.heap.size,0,none⟩))]) (λk _ w'=>w'=B/\∀i,i<k->∀h:i<o.name.size,32<=(o.name[i]'h).toNat/\(o.name[i]'h).toNat<=126) ()
    ⟨rfl,λi hi=>by omega⟩ A5 (λ_=>⟨rfl,rfl⟩) ⟨rfl,rfl,rfl⟩ ⟨rfl,rfl⟩ ?_ ?_
  . rintro k _ _ hk ⟨rfl,hh⟩
    (refine am ?_<;>(refine af ?_<;>refine ac ?_<;>refine TG rfl rfl rfl (by omega) ?_<;>(first|refine Fu rfl rfl ?_|refine Fv rfl rfl ?_|refine CL rfl rfl (λ_=>?_) λ_=>?_)<;>refine ac ?_<;>(first|(refine AA rfl rfl ?_;refine AN rfl ?_)|refine AK rfl rfl ?_)<;>(first|(refine AA rfl rfl ?_;refine AF rfl ?_)|refine AK rfl rfl ?_)<;>(first|(refine AA rfl rfl ?_;refine Aw rfl ?_)|refine AK rfl rfl ?_)<;>(first|(refine AA rfl rfl ?_;refine TG rfl rfl rfl (by omega) ?_)|refine AK rfl rfl ?_)<;>(first|(refine AA rfl rfl ?_;(first|refine Gm rfl rfl ?_|refine Gn rfl rfl ?_|refine Dc rfl rfl (λ_=>?_) λ_=>?_))|refine AK rfl rfl ?_)<;>refine ai ?_)<;>refine ab ?_)
    all_goals try (
      refine ad ?_;refine YT rfl rfl ⟨?_,a⟩;rw[Bb (λh=>by have:=h.2.2.2.1.2 k hk;omega)])
    exact⟨(),A5,rfl,DJ hh λ_=>by omega⟩
  rintro _ _ ⟨rfl,hname⟩;have u:Aal o.name:=⟨by omega,λi h=>hname i h h⟩;refine ab ?_;refine au ?_;refine CI o.effs.length (by omega) (λ_:Unit=>[(0,.slice D vars.length cv),(3,.pointer (some ⟨w.heap.size,0,none⟩)),(55,.slice I o.effs.length cq)]) (λk _ w'=>Ext w w'/\∀i,i<k->∀e,o.effs[i]?=some e->ZT vars e) ()
    ⟨a,λi hi=>by omega⟩ A7 (λ_=>⟨rfl,rfl⟩) ⟨rfl,rfl,rfl⟩ ⟨rfl,rfl⟩ ?_ ?_
  . rintro k _ L hk ⟨c,hh⟩;obtain⟨e,he⟩:=AG hk;obtain⟨Q,o2,ce,rfl,_,_,hd1,cv',rfl,hcond,hr1,hr2⟩:=(hq.ext c).elem he;obtain⟨R,cc,rfl⟩:=hcond.form;refine al ?_;refine Dp rfl rfl (by simp[Value.cells,Value.oneCell']) λM g=>?_;have x:=g.blk;have j:Ext w M:=c.trans' g.ext;refine o_z ?_;refine ab ?_;refine ac ?_<;>refine af ?_;refine Ez rfl (Zx (hv.ext j) (hcond.ext g.ext)) ?_ ?_
    case refine_2 =>
      intro F s d
      (refine bo ?_<;>refine ac ?_<;>(first|(refine AA rfl rfl ?_;refine Aw rfl ?_)|refine AK rfl rfl ?_)<;>(first|(refine AA rfl rfl ?_;refine AN rfl ?_)|refine AK rfl rfl ?_)<;>(first|(refine AA rfl rfl ?_;refine AF rfl ?_)|refine AK rfl rfl ?_)<;>(first|(refine AA rfl rfl ?_;refine AN rfl ?_)|refine AK rfl rfl ?_)<;>(first|(refine AA rfl rfl ?_;refine AF rfl ?_)|refine AK rfl rfl ?_)<;>(first|(refine AA rfl rfl ?_;refine ES rfl rfl ?_)|refine AK rfl rfl ?_))
      refine AK rfl rfl ?_;refine AK rfl rfl ?_
      ((first|(refine AA rfl rfl ?_;(first|refine Fq rfl ?_|refine Fe rfl ?_|refine DY rfl ?_))|refine AK rfl rfl ?_)<;>refine ai ?_)
      refine ab ?_;refine ad ?_;refine YT rfl rfl ⟨?_,j.trans' d⟩;rw[Bb (λh=>s (h.2.2.2.2.2 k e he).1)]
    intro F y d;replace x:=x.ext d
    (refine bo ?_<;>refine ac ?_<;>(first|(refine AA rfl rfl ?_;refine Aw rfl ?_)|refine AK rfl rfl ?_)<;>(first|(refine AA rfl rfl ?_;refine AN rfl ?_)|refine AK rfl rfl ?_)<;>(first|(refine AA rfl rfl ?_;refine AF rfl ?_)|refine AK rfl rfl ?_)<;>(first|(refine AA rfl rfl ?_;refine AN rfl ?_)|refine AK rfl rfl ?_)<;>(first|(refine AA rfl rfl ?_;refine AF rfl ?_)|refine AK rfl rfl ?_)<;>(first|(refine AA rfl rfl ?_;refine ES rfl rfl ?_)|refine AK rfl rfl ?_))
    refine AA rfl rfl ?_;refine HS rfl rfl rfl (by simp[Value.cells];rfl) rfl λG l=>?_;have m:Ext w G:=j.trans' (d.trans' l.ext);refine AA rfl rfl ?_;have z:V G (.slice (some ⟨F.heap.size,0,none⟩) 1 1) [(⟨e.var,e.val⟩:Fct)] :=
      .of_slice ⟨_,1,[.int .i64 e.var,.int .i64 e.val],rfl,W3 _,by omega,.single ⟨rfl,hr1,hr2⟩,λ_=>⟨_,_,rfl,l.blk.lt,l.blk.cellsAt⟩⟩
    refine Ez rfl (Zx (hv.ext m) z) ?_ ?_
    case refine_2 =>
      intro N s n
      ((first|(refine AA rfl rfl ?_;(first|refine Fq rfl ?_|refine Fe rfl ?_|refine DY rfl ?_))|refine AK rfl rfl ?_)<;>refine ai ?_)
      refine ab ?_;refine ad ?_;refine YT rfl rfl ⟨?_,m.trans' n⟩;rw[Bb (λh=>s (HD.2 (h.2.2.2.2.2 k e he).2))]
    intro N A n
    ((first|(refine AA rfl rfl ?_;(first|refine Fq rfl ?_|refine Fe rfl ?_|refine DY rfl ?_))|refine AK rfl rfl ?_)<;>refine ai ?_)
    refine ab ?_;exact⟨(),A7,m.trans' n,DJ hh λS f=>by
      rw[he]at f;injection f with f;subst f;exact⟨y,HD.1 A⟩⟩
  rintro _ L ⟨c,hh⟩;refine ab ?_;refine ad ?_;refine YT rfl rfl ⟨?_,c⟩;rw[BI ⟨by omega,by omega,by omega,u,t,λi e he=>hh i (Cf he) e he⟩]
theorem bj{G H:Prop}(g:H)(h:Wr0 H->G:=by intro x;refine af ?_;refine AT rfl ?_;exact x.o):G:=h ⟨g⟩
theorem bl{G H:Prop}(g:H)(h:Wr0 H->G:=by intro x;refine ab ?_;refine Ff rfl rfl ?_;refine AF rfl ?_;refine ar ?_;exact x.o):G:=h ⟨g⟩
theorem ay{G H:Prop}(g:H)(h:Wr0 H->G:=by intro x;refine bo ?_;refine o_z ?_;exact x.o):G:=h ⟨g⟩
theorem AbJ{w:World}{G:Value}{t:Tsk}(K:V w G t) :
    Fn prog 49 [G] w λv w'=>v=.bool (bof (TaskOk t))/\Ext w w':=by
  obtain⟨cs,rfl,a,b,c,d,rfl,hvars,hinit,hgoal,hops⟩:=K;obtain⟨L,cv,rfl⟩:=hvars.form;obtain⟨W,ci,rfl⟩:=hinit.form;obtain⟨X,cg,rfl⟩:=hgoal.form;obtain⟨M,co,rfl⟩:=hops.form;have N:=hvars.len;have O:=hops.len;refine AC func49 rfl ntmps49 ?_;refine ab ?_;refine Gw rfl λH I=>?_;have f:=I.blk;have j:Ext w H:=I.ext;refine ae ?_;refine ab ?_
  (refine ab ?_<;>(refine bj ?_<;>(first|refine Gm rfl rfl ?_|refine Gn rfl rfl ?_|refine Dc rfl rfl (λ_=>?_) λ_=>?_)<;>refine ac ?_<;>(first|(refine AA rfl rfl ?_;refine AN rfl ?_)|refine AK rfl rfl ?_)<;>(first|(refine AA rfl rfl ?_;refine AF rfl ?_)|refine AK rfl rfl ?_)<;>(first|(refine AA rfl rfl ?_;refine AT rfl ?_)|refine AK rfl rfl ?_)<;>(first|(refine AA rfl rfl ?_;(first|refine Gm rfl rfl ?_|refine Gn rfl rfl ?_|refine Dc rfl rfl (λ_=>?_) λ_=>?_))|refine AK rfl rfl ?_)<;>refine ai ?_)<;>refine ab ?_)
  all_goals try (
    refine ad ?_;refine YT rfl rfl ⟨?_,j⟩;rw[Bb (λh=>by obtain⟨Y,h2,_⟩:=h;omega)])
  refine bj ?_<;>refine bf ?_;refine ab ?_;refine CI t.vars.length (by omega) (λ_:Unit=>[(1,.pointer (some ⟨w.heap.size,0,none⟩)),(18,.slice L t.vars.length cv)]) (λk _ w'=>w'=H/\∀i,i<k->∀n,t.vars[i]?=some n->1<=n/\n<=64) ()
    ⟨rfl,λi hi=>by omega⟩ A5 (λ_=>⟨rfl,rfl⟩) ⟨rfl,rfl,rfl⟩ ⟨rfl,rfl⟩ ?_ ?_
  . rintro k _ _ hk ⟨rfl,hh⟩;obtain⟨n,hn⟩:=AG hk;obtain⟨P,o2,ce,rfl,_,_,hd1,rfl,_⟩:=(hvars.ext j).elem hn
    (refine bl ?_<;>(refine ac ?_<;>(first|refine Fu rfl rfl ?_|refine Fv rfl rfl ?_|refine CL rfl rfl (λ_=>?_) λ_=>?_)<;>refine ac ?_<;>(first|(refine AA rfl rfl ?_;refine Aw rfl ?_)|refine AK rfl rfl ?_)<;>(first|(refine AA rfl rfl ?_;(first|refine Gm rfl rfl ?_|refine Gn rfl rfl ?_|refine Dc rfl rfl (λ_=>?_) λ_=>?_))|refine AK rfl rfl ?_)<;>refine ai ?_)<;>refine ab ?_)
    all_goals try (
      refine ad ?_;refine YT rfl rfl ⟨?_,j⟩;rw[Bb (λh=>by have:=h.2.2.1 k n hn;omega)])
    exact⟨(),A5,rfl,DJ hh λZ s=>by rw[hn]at s;injection s with s;omega⟩
  rintro _ _ ⟨rfl,hdom⟩;refine ab ?_;refine af ?_<;>refine af ?_;refine Ez rfl (Abv (hvars.ext j) (hinit.ext j)) ?_ ?_
  case refine_2 =>
    intro J u e
    (refine bo ?_<;>refine ac ?_<;>(first|(refine AA rfl rfl ?_;refine AN rfl ?_)|refine AK rfl rfl ?_)<;>(first|(refine AA rfl rfl ?_;refine AF rfl ?_)|refine AK rfl rfl ?_)<;>(first|(refine AA rfl rfl ?_;refine AN rfl ?_)|refine AK rfl rfl ?_)<;>(first|(refine AA rfl rfl ?_;refine AF rfl ?_)|refine AK rfl rfl ?_))
    refine AK rfl rfl ?_
    ((first|(refine AA rfl rfl ?_;(first|refine Fq rfl ?_|refine Fe rfl ?_|refine DY rfl ?_))|refine AK rfl rfl ?_)<;>refine ai ?_)
    refine ab ?_;refine ad ?_;refine YT rfl rfl ⟨?_,j.trans' e⟩;rw[Bb (λh=>u h.2.2.2.1)]
  intro J B e;replace f:=f.ext e;replace e:Ext w J:=j.trans' e
  (refine bo ?_<;>refine ac ?_<;>(first|(refine AA rfl rfl ?_;refine AN rfl ?_)|refine AK rfl rfl ?_)<;>(first|(refine AA rfl rfl ?_;refine AF rfl ?_)|refine AK rfl rfl ?_)<;>(first|(refine AA rfl rfl ?_;refine AN rfl ?_)|refine AK rfl rfl ?_)<;>(first|(refine AA rfl rfl ?_;refine AF rfl ?_)|refine AK rfl rfl ?_))
  refine AA rfl rfl ?_;refine Ez rfl (Zx (hvars.ext e) (hgoal.ext e)) ?_ ?_
  case refine_2 =>
    intro C u l
    ((first|(refine AA rfl rfl ?_;(first|refine Fq rfl ?_|refine Fe rfl ?_|refine DY rfl ?_))|refine AK rfl rfl ?_)<;>refine ai ?_)
    refine ab ?_;refine ad ?_;refine YT rfl rfl ⟨?_,e.trans' l⟩;rw[Bb (λh=>u h.2.2.2.2.1)]
  intro C D l;replace f:=f.ext l;replace l:Ext w C:=e.trans' l
  ((first|(refine AA rfl rfl ?_;(first|refine Fq rfl ?_|refine Fe rfl ?_|refine DY rfl ?_))|refine AK rfl rfl ?_)<;>refine ai ?_)
  refine ab ?_;refine au ?_;refine CI t.ops.length (by omega) (λ_:Unit=>[(1,.pointer (some ⟨w.heap.size,0,none⟩)),(46,.slice M t.ops.length co)]) (λk _ w'=>Ext C w'/\∀i,i<k->∀o,t.ops[i]?=some o->Aau t.vars o) ()
    ⟨W8 _ _,λi hi=>by omega⟩ A5 (λ_=>⟨rfl,rfl⟩) ⟨rfl,rfl,rfl⟩ ⟨rfl,rfl⟩ ?_ ?_
  . rintro k _ E hk ⟨g,hh⟩;obtain⟨o,y⟩:=AG hk;replace f:=f.ext g;have z:=g;replace g:Ext w E:=l.trans' g;obtain⟨P,o2,ce,rfl,_,_,hd1,hRo⟩:=(hops.ext g).elem y;obtain⟨p,q,rfl,hp,hq,hc,hn⟩:=id hRo;obtain⟨Q,cp,rfl⟩:=hp.form;obtain⟨R,cq,rfl⟩:=hq.form;refine al ?_;refine Dp rfl rfl (by simp[Value.cells,Value.oneCell']) λS m=>?_;have T:=m.blk;replace f:=f.ext m.ext;have A:Ext w S:=g.trans' m.ext;refine o_z ?_;refine ab ?_;refine af ?_<;>refine Bv rfl ?_;have F:V E (.agg #[.string o.name,.int .i64 o.cost,.slice Q o.pre.length cp,.slice R o.effs.length cq]) o:=⟨_,rfl,hRo⟩;refine Ez rfl (Aba (hvars.ext A) (F.ext m.ext)) ?_ ?_
    . intro U u x;refine ay ?_;refine ab ?_;refine⟨(),A5,?_,DJ hh λo' r=>by rw[y]at r;injection r with r;exact r▸u⟩;exact z.trans' (m.ext.trans' x)
    . intro U u x;refine ay ?_;refine ab ?_;refine ad ?_;refine YT rfl rfl ⟨?_,A.trans' x⟩;rw[Bb (λh=>u (h.2.2.2.2.2 k o y))]
  rintro _ E ⟨g,hh⟩;refine ab ?_;refine ad ?_;refine YT rfl rfl ⟨?_,l.trans' g⟩;rw[BI ⟨by omega,by omega,λi n hn=>hdom i (Cf hn) n hn,B,D,λi o y=>hh i (Cf y) o y⟩]
def Zw(most:Int):List Int->Int->Int
  |[],n=>n
  |k::r,n=>if most<n*min (max k 0) (most+1)then most+1 else Zw most r (n*min (max k 0) (most+1))
theorem bt{G H:Prop}(g:H)(h:Wr0 H->G:=by intro x;(first|refine Hh rfl ?_|refine Iq rfl rfl ?_);exact x.o):G:=h ⟨g⟩
theorem AbR{w:World}{c:Value}{vars:List Int}{most:Int}(hv:V w c vars)(d:1<=most)(e:most<=1048576) :
    Fn prog 5 [c,.int .i64 most] w λv w'=>v=.int .i64 (Zw most vars 1)/\Ext w w':=by
  obtain⟨A,ca,rfl⟩:=hv.form;have f:=hv.len;refine AC func5 rfl ntmps5 ?_;refine ad ?_<;>refine ar ?_<;>refine ac ?_<;>refine ao ?_;refine CI vars.length (by omega) (λn:Int=>[(1,.int .i64 most),(5,.int .i64 n),(8,.slice A vars.length ca)]) (λk n w'=>w'=w/\0<=n/\n<=most/\Zw most (vars.drop k) n=Zw most vars 1) 1
    ⟨rfl,by omega,d,rfl⟩ A7 (λ_=>⟨rfl,rfl⟩) ⟨rfl,rfl,rfl⟩ ⟨rfl,rfl⟩ ?_ ?_
  . rintro k n _ hk ⟨rfl,hn0,hn1,hh⟩;obtain⟨x,hx⟩:=AG hk;obtain⟨i,o2,ce,rfl,_,_,hd1,rfl,_⟩:=hv.elem hx;have hd:vars.drop k=x::vars.drop (k+1):=by
      rw[C3 hk];congr 1;rw[C9 hk]at hx;exact R1 hx
    rw[hd]at hh;simp only[Zw]at hh;have a:0<=min (max x 0) (most+1):=(by omega);have g:min (max x 0) (most+1)<=most+1:=(by omega);have b:0<=n*min (max x 0) (most+1):=Int.mul_nonneg hn0 a;have h:n*min (max x 0) (most+1)<=1048576*1048577:=V7 (Int.mul_le_mul_of_nonneg_right (V7 hn1 e) a) (Int.mul_le_mul_of_nonneg_left (by omega) (by omega))
    (refine bl ?_<;>refine bg ?_<;>refine Np rfl rfl rfl ?_<;>refine ac ?_<;>refine bt ?_<;>refine Pe rfl rfl rfl ?_<;>refine YO rfl rfl rfl ?_<;>refine ar ?_<;>(refine bg ?_<;>(first|refine Gm rfl rfl ?_|refine Gn rfl rfl ?_|refine Dc rfl rfl (λ_=>?_) λ_=>?_)<;>refine o_z ?_)<;>refine ab ?_)
    . refine ah ?_<;>refine bt ?_<;>refine ar ?_;refine YT rfl rfl ⟨?_,W8 _ _⟩;rw[if_pos (by assumption)]at hh;rw[<- hh]
    . rw[if_neg (by assumption)]at hh;exact⟨n*min (max x 0) (most+1),A7,rfl,b,by omega,hh⟩
  rintro n _ ⟨rfl,_,_,hh⟩;refine ab ?_;refine am ?_;refine YT rfl rfl ⟨?_,W8 _ _⟩;rw[<- hh,Q0];rfl
def SmallOk(t:Tsk):Prop:=t.vars.length<=12/\t.ops.length<=20/\(∀(i:Nat) o,t.ops[i]?=some o->o.effs.length<=8)/\TaskOk t/\Zw 512 t.vars 1<=512
theorem Abu{w:World}{y:Value}{t:Tsk}(z:V w y t) :
    Fn prog 21 [y] w λv w'=>v=.bool (bof (SmallOk t))/\Ext w w':=by
  have u:=z;obtain⟨cs,rfl,a,b,c,d,rfl,hvars,hinit,hgoal,hops⟩:=z;obtain⟨G,cv,rfl⟩:=hvars.form;obtain⟨H,ci,rfl⟩:=hinit.form;obtain⟨I,cg,rfl⟩:=hgoal.form;obtain⟨C,co,rfl⟩:=hops.form;have D:=hvars.len;have E:=hops.len;refine AC func21 rfl ntmps21 ?_;refine ab ?_;refine Gw rfl λx A=>?_;have j:=A.blk;have l:Ext w x:=A.ext;refine ae ?_;refine ab ?_
  (refine ab ?_<;>(refine bj ?_<;>(first|refine Gm rfl rfl ?_|refine Gn rfl rfl ?_|refine Dc rfl rfl (λ_=>?_) λ_=>?_)<;>refine ac ?_<;>(first|(refine AA rfl rfl ?_;refine AN rfl ?_)|refine AK rfl rfl ?_)<;>(first|(refine AA rfl rfl ?_;refine AF rfl ?_)|refine AK rfl rfl ?_)<;>(first|(refine AA rfl rfl ?_;refine AT rfl ?_)|refine AK rfl rfl ?_)<;>(first|(refine AA rfl rfl ?_;(first|refine Gm rfl rfl ?_|refine Gn rfl rfl ?_|refine Dc rfl rfl (λ_=>?_) λ_=>?_))|refine AK rfl rfl ?_)<;>refine ai ?_)<;>refine ab ?_)
  all_goals try (
    refine ad ?_;refine YT rfl rfl ⟨?_,l⟩;rw[Bb (λh=>by obtain⟨J,h2,_⟩:=h;omega)])
  refine au ?_;refine CI t.ops.length (by omega) (λ_:Unit=>[(1,.pointer (some ⟨w.heap.size,0,none⟩)),(16,.slice C t.ops.length co)]) (λk _ w'=>Ext x w'/\∀i,i<k->∀o,t.ops[i]?=some o->o.effs.length<=8) ()
    ⟨W8 _ _,λi hi=>by omega⟩ A5 (λ_=>⟨rfl,rfl⟩) ⟨rfl,rfl,rfl⟩ ⟨rfl,rfl⟩ ?_ ?_
  . rintro k _ B hk ⟨f,hh⟩;obtain⟨o,n⟩:=AG hk;obtain⟨K,o2,ce,rfl,_,_,hd1,p,q,rfl,hp,hq,hc,hn⟩:=(hops.ext (l.trans' f)).elem n;obtain⟨L,cp,rfl⟩:=hp.form;obtain⟨M,cq,rfl⟩:=hq.form;refine al ?_;refine Dp rfl rfl (by simp[Value.cells,Value.oneCell']) λs r=>?_;have F:=r.blk;have e:Ext x s:=f.trans' r.ext;refine o_z ?_;refine ab ?_
    (refine ab ?_<;>(refine bj ?_<;>(first|refine Gm rfl rfl ?_|refine Gn rfl rfl ?_|refine Dc rfl rfl (λ_=>?_) λ_=>?_)<;>refine o_z ?_)<;>refine ab ?_)
    . refine ad ?_;refine YT rfl rfl ⟨?_,l.trans' e⟩;rw[Bb (λh=>by have:=h.2.2.1 k o n;omega)]
    . exact⟨(),A5,e,DJ hh λo' m=>by rw[n]at m;injection m with m;subst m;omega⟩
  rintro _ B ⟨f,hh⟩;replace j:=j.ext f;replace f:Ext w B:=l.trans' f;refine ab ?_;refine Bv rfl ?_;refine Ez rfl (AbJ (u.ext f)) ?_ ?_
  . intro s g e;replace j:=j.ext e;replace e:Ext w s:=f.trans' e
    (refine ac ?_<;>(first|(refine AA rfl rfl ?_;refine AN rfl ?_)|refine AK rfl rfl ?_)<;>(first|(refine AA rfl rfl ?_;refine AF rfl ?_)|refine AK rfl rfl ?_))
    refine AA rfl rfl ?_;refine Cb rfl (AbR (hvars.ext e) (by decide) (by decide)) ?_;rintro _ N ⟨rfl,hE6⟩
    ((first|(refine AA rfl rfl ?_;(first|refine QY rfl rfl rfl ?_|refine QZ rfl rfl rfl ?_|refine Pf rfl rfl rfl (λ_=>?_) λ_=>?_))|refine AK rfl rfl ?_)<;>refine bn ?_<;>refine ae ?_)
    all_goals
      refine ab ?_;refine YT rfl rfl ⟨?_,e.trans' hE6⟩
    . rw[BI ⟨by omega,by omega,λi o n=>hh i (Cf n) o n,g,by assumption⟩]
    . rw[Bb (λh=>absurd h.2.2.2.2 (by assumption))]
  . intro s g e
    (refine ac ?_<;>(first|(refine AA rfl rfl ?_;refine AN rfl ?_)|refine AK rfl rfl ?_)<;>(first|(refine AA rfl rfl ?_;refine AF rfl ?_)|refine AK rfl rfl ?_))
    refine AK rfl rfl ?_
    ((first|(refine AA rfl rfl ?_;(first|refine QY rfl rfl rfl ?_|refine QZ rfl rfl rfl ?_|refine Pf rfl rfl rfl (λ_=>?_) λ_=>?_))|refine AK rfl rfl ?_)<;>refine bn ?_<;>refine ae ?_)
    refine ab ?_;refine YT rfl rfl ⟨?_,f.trans' e⟩;rw[Bb (λh=>g h.2.2.2.1)]
end
section
open Go Go.RowKit
attribute [local irreducible] ewp owp hwp hwq hws Ev Evg Fn X6 Y1 YZ YY
def ZX(o:Opr):List (List Fct):=o.pre::o.effs.map (·.cond)
def conds(t:Tsk):List (List Fct):=t.goal::t.ops.flatMap ZX
theorem QA{α β:Type}(f:α->List β){l:List α}{k:Nat}{x:α}(h:l[k]?=some x):(l.take (k+1)).flatMap f=(l.take k).flatMap f++f x:=by
  rw[M4,h];simp
theorem Vw{α β:Type}(f:α->β){l:List α}{k:Nat}{x:α}(h:l[k]?=some x):(l.take (k+1)).map f=(l.take k).map f++[f x]:=by
  rw[M4,h];simp
theorem WK{t:Tsk}(h:∀(i:Nat) o,t.ops[i]?=some o->o.effs.length<=64)(k:Nat):((t.ops.take k).flatMap ZX).length<=k*65:=by
  induction k with
  |zero=>simp
  |succ k b =>
    cases a:t.ops[k]? with
    |none =>
      have hl:=List.getElem?_eq_none_iff.1 a;rw[E8 hl]at b;rw[E8 (by omega)];omega
    |some o =>
      rw[QA ZX a,K4];have:=h k o a;simp only[ZX,P3,R9]at *
      omega
theorem Aap{w:World}{J:Value}{t:Tsk}(Y:V w J t)(hn:t.ops.length<=4096)(hm:∀(i:Nat) o,t.ops[i]?=some o->o.effs.length<=64) :
    Fn prog 57 [J] w λv w'=>V w' v (conds t)/\Ext w w':=by
  obtain⟨cs,rfl,a,b,c,d,rfl,hvars,hinit,hgoal,hops⟩:=Y;obtain⟨K,cv,rfl⟩:=hvars.form;obtain⟨L,ci,rfl⟩:=hinit.form;obtain⟨M,cg,rfl⟩:=hgoal.form;obtain⟨N,co,rfl⟩:=hops.form;have s:∀{w'},Ext w w'->∀k,All w k->k<w'.heap.size:=λZ k hk=>K5 hk Z.size;refine AC func57 rfl ntmps57 ?_;refine ab ?_;refine Gw rfl λH O=>?_;have g:=O.blk;have z:Ext w H:=O.ext;refine ae ?_;refine ab ?_;refine af ?_;refine HS rfl rfl rfl (by simp[Value.cells]) rfl λP A=>?_;replace g:=g.ext A.ext;have E:Ext w P:=z.trans' A.ext;have f:Own P w.heap.size (All w) 23 (.slice (some ⟨H.heap.size,0,none⟩) 1 1) [t.goal] :=
    (Own.made A (xs:=[t.goal]) (.single (Vb.agree hgoal (E.agree λ_ h=>h))) rfl (λh=>by have:H.heap.size<w.heap.size:=h;have:=z.size;omega) (by simp)).lower z.size
  refine ae ?_;refine ab ?_;refine au ?_;refine CI t.ops.length (by omega) (λv:Value=>[(1,.pointer (some ⟨w.heap.size,0,none⟩)),(3,v),(12,.slice N t.ops.length co)]) (λk v w'=>Ext w w'/\Blk w' w.heap.size 26 [.slice K t.vars.length cv,.slice L t.init.length ci,.slice M t.goal.length cg,.slice N t.ops.length co]/\Own w' w.heap.size (All w) 23 v (t.goal::(t.ops.take k).flatMap ZX)) _
    ⟨E,g,f⟩ A7 (λ_=>⟨rfl,rfl⟩) ⟨rfl,rfl,rfl⟩ ⟨rfl,rfl⟩ ?_ ?_
  . rintro k v w3 hk ⟨l,g,f⟩;have a0:=WK hm k;obtain⟨o,ho⟩:=AG hk;obtain⟨Q,o2,ce,rfl,_,_,hd1,p,q,rfl,hp,hq,hc,hnm⟩:=Vb.elem (Vb.agree hops (l.agree λ_ h=>h)) ho;obtain⟨Ap,cp,rfl⟩:=hp.form;obtain⟨R,cq,rfl⟩:=hq.form;have b0:=hm k o ho;refine al ?_;refine Dp rfl rfl (by simp[Value.cells,Value.oneCell']) λS m=>?_;have u:=m.blk;replace g:=g.ext m.ext;have x:Ext w S:=l.trans' m.ext;replace f:=f.ext m.ext (s l);replace hp:=hp.agree (m.ext.agree (s l));replace hq:=hq.agree (m.ext.agree (s l));refine o_z ?_;refine ab ?_;refine ac ?_<;>refine af ?_;refine Iw rfl rfl rfl f (s x) x.size hp (by simp only[P3,K4,R9,P9];omega) (by simp only[P3,K4,R9,P9];omega) ⟨rfl,rfl⟩ λT U B D=>?_;replace g:=D.blk g (f.blk_ne g (by decide));replace u:=D.blk u (f.blk_ne u (by decide));have F:Below w.heap.size S U:=f.fits (W3 _) x.size D;have I:Ext w U:=x.trans F;replace hq:=hq.below F;refine ae ?_;refine ab ?_;refine au ?_;refine CI o.effs.length (by omega) (λv:Value=>[(1,.pointer (some ⟨w.heap.size,0,none⟩)),(3,v),(12,.slice (some ⟨Q,o2,none⟩) t.ops.length co),(13,.int .i64 (t.ops.length:Int)),(14,.int .i64 (k:Int)),(24,.slice R o.effs.length cq)]) (λj v w'=>Ext w w'/\Blk w' w.heap.size 26 [.slice K t.vars.length cv,.slice L t.init.length ci,.slice M t.goal.length cg,.slice (some ⟨Q,o2,none⟩) t.ops.length co]/\Vb w' (All w) (.slice R o.effs.length cq) o.effs/\Own w' w.heap.size (All w) 23 v ((t.goal::(t.ops.take k).flatMap ZX)++o.pre::(o.effs.take j).map (·.cond))) _
      ⟨I,g,hq,by simpa using B⟩ Ax (λ_=>⟨rfl,rfl⟩) ⟨rfl,rfl,rfl⟩ ⟨rfl,rfl⟩ ?_ ?_
    . rintro j W w6 hj ⟨n,g,hq,f⟩;obtain⟨e,he⟩:=AG hj;obtain⟨b3,o3,ce,rfl,_,_,hd1,cv',rfl,hcond,hr1,hr2⟩:=hq.elem he;obtain⟨Ac,cc,rfl⟩:=hcond.form;refine al ?_;refine Dp rfl rfl (by simp[Value.cells,Value.oneCell']) λX r=>?_;have u:=r.blk;replace g:=g.ext r.ext;have y:Ext w X:=n.trans' r.ext;replace f:=f.ext r.ext (s n);replace hcond:=hcond.agree (r.ext.agree (s n));replace hq:=hq.agree (r.ext.agree (s n));refine o_z ?_;refine ab ?_;refine ac ?_<;>refine af ?_;refine Iw rfl rfl rfl f (s y) y.size hcond (by simp only[P3,K4,R9,P9];omega) (by simp only[P3,K4,R9,P9];omega) ⟨rfl,rfl⟩ λT w8 C D=>?_;have G:Below w.heap.size X w8:=f.fits (W3 _) y.size D;refine ae ?_;exact⟨T,Ax,y.trans G,D.blk g (f.blk_ne g (by decide)),hq.below G,by rw[Vw _ he];simpa using C⟩
    rintro W w6 ⟨n,g,hq,f⟩;refine ab ?_;exact⟨W,A7,n,g,by rw[QA ZX ho];simpa[ZX]using f⟩
  rintro v w3 ⟨l,g,f⟩;refine ab ?_;refine am ?_;refine YT rfl rfl ⟨?_,l⟩;rw[Q3]at f;exact f.vb.mono λk hk=>by
    rcases hk with hk|hk
    . exact s l k hk
    . exact(f.lt k hk).2
theorem cr{G H:Prop}(g:H)(h:Wr0 H->G:=by intro x;refine am ?_;refine bg ?_;refine ac ?_;refine Ff rfl rfl ?_;refine AF rfl ?_;refine ab ?_;exact x.o):G:=h ⟨g⟩
theorem AaR{w:World}{sv:Value}{xs:List (List Fct)}{g:FuncId}[Callable prog g]{caps:List Value}{p:List Fct->Prop}(hs:V w sv xs)
    (l:∀v x w',x∈xs->Ext w w'->V w' v x->Fn prog g ([v]++caps) w' λr h=>r=.bool (bof (p x))/\Ext w' h) :
    Fn prog 138 [sv,.func (.func g) #[] caps.toArray] w λv w'=>((∃k:Nat,v=.int .i64 (k:Int)/\∃x∈xs,p x)\/(v=.int .i64 (-1)/\∀x∈xs,¬p x))/\Ext w w':=by
  obtain⟨A,c,rfl⟩:=hs.form;have hl:=hs.len;refine AC func138 rfl ntmps138 ?_;refine ak ?_<;>refine ao ?_;refine CI xs.length (by omega) (λ_:Unit=>[(0,.slice A xs.length c),(1,.func (.func g) #[] caps.toArray)]) (λk _ w'=>Ext w w'/\∀i,i<k->∀x,xs[i]?=some x->¬p x) ()
    ⟨W8 _ _,λi hi=>by omega⟩ A5 (λ_=>⟨rfl,rfl⟩) ⟨rfl,rfl,rfl⟩ ⟨rfl,rfl⟩ ?_ ?_
  . rintro k _ j hk ⟨d,hh⟩;obtain⟨x,e⟩:=AG hk;obtain⟨b,o,ce,rfl,_,_,hd1,hR⟩:=(hs.ext d).elem e;obtain⟨v,rfl⟩:=List.length_eq_one_iff.1 (Rp.len hR);refine cr ?_;refine JT rfl rfl rfl (l v x j (H2 e) d hR) ?_;rintro _ m ⟨rfl,hE2⟩;by_cases f:p x
    . rw[BI f];refine o_z ?_;refine ab ?_;refine am ?_;exact YT rfl rfl ⟨.inl ⟨k,rfl,x,H2 e,f⟩,d.trans' hE2⟩
    . rw[Bb f];refine o_z ?_;refine ab ?_;exact⟨(),A5,d.trans' hE2,DJ hh λn a=>by rw[e]at a;injection a with a;exact a▸f⟩
  rintro _ j ⟨d,hh⟩;refine ab ?_;refine ad ?_;refine YT rfl rfl ⟨.inr ⟨rfl,λx e=>?_⟩,d⟩;obtain⟨i,hi⟩:=H3 e;exact hh i (Cf hi) x hi
theorem bu{G H:Prop}(g:H)(h:Wr0 H->G:=by intro x;refine ak ?_;refine ac ?_;refine ab ?_;exact x.o):G:=h ⟨g⟩
theorem bx{G H:Prop}(g:H)(h:Wr0 H->G:=by intro x;(first|refine Pg rfl rfl rfl ?_|refine Ph rfl rfl rfl ?_);refine ae ?_;exact x.o):G:=h ⟨g⟩
theorem AaE{w:World}{sv:Value}{xs:List (List Fct)}{g:FuncId}[Callable prog g]{caps:List Value}{p:List Fct->Prop}(hs:V w sv xs)
    (b:∀v x w',x∈xs->Ext w w'->V w' v x->Fn prog g ([v]++caps) w' λr a=>r=.bool (bof (p x))/\Ext w' a) :
    Fn prog 98 [sv,.func (.func g) #[] caps.toArray] w λv w'=>v=.bool (bof (∃x∈xs,p x))/\Ext w w':=by
  refine AC func98 rfl ntmps98 ?_;refine bu ?_;refine Cb rfl (AaR hs b) ?_;rintro v c ⟨h,hE⟩;rcases h with⟨k,rfl,h⟩|⟨rfl,h⟩
  . refine bx ?_;refine ab ?_;exact YT rfl rfl ⟨by rw[BI h],hE⟩
  . refine bx ?_;refine ab ?_;exact YT rfl rfl ⟨by rw[Bb (λ⟨x,hx,hp⟩=>h x hx hp)],hE⟩
theorem ct{G H:Prop}(g:H)(h:Wr0 H->G:=by intro x;refine ak ?_;refine AT rfl ?_;(first|refine Gm rfl rfl ?_|refine Gn rfl rfl ?_);refine ar ?_;exact x.o):G:=h ⟨g⟩
theorem Abp{w:World}{v:Value}{f:List Fct}(hf:V w v f):Fn prog 99 ([v]++[]) w λr w'=>r=.bool (bof (64<f.length))/\Ext w w':=by
  obtain⟨A,c,rfl⟩:=hf.form;refine AC func99 rfl ntmps99 ?_;by_cases h:64<f.length
  . refine ct ?_;exact YT rfl rfl ⟨by rw[BI h],W8 _ _⟩
  . refine ct ?_;exact YT rfl rfl ⟨by rw[Bb h],W8 _ _⟩
def AaM(t:Tsk):Prop:=64<t.vars.length\/4096<t.ops.length\/(∃(i:Nat) (o:Opr),t.ops[i]?=some o/\64<o.effs.length)\/∃f∈conds t,64<f.length
theorem Abq{w:World}{z:Value}{t:Tsk}(A:V w z t):Fn prog 56 [z] w λv w'=>v=.bool (bof (AaM t))/\Ext w w':=by
  have s:=A;obtain⟨cs,rfl,a,b,c,d,rfl,hvars,hinit,hgoal,hops⟩:=A;obtain⟨I,cv,rfl⟩:=hvars.form;obtain⟨J,ci,rfl⟩:=hinit.form;obtain⟨K,cg,rfl⟩:=hgoal.form;obtain⟨E,co,rfl⟩:=hops.form;have F:=hops.len;refine AC func56 rfl ntmps56 ?_;refine ab ?_;refine Gw rfl λu B=>?_;have n:=B.blk;have g:Ext w u:=B.ext;refine ae ?_;refine ab ?_
  (refine ab ?_<;>(refine bj ?_<;>(first|refine Gm rfl rfl ?_|refine Gn rfl rfl ?_|refine Dc rfl rfl (λ_=>?_) λ_=>?_)<;>refine ac ?_<;>(first|(refine AA rfl rfl ?_;refine AN rfl ?_)|refine AK rfl rfl ?_)<;>(first|(refine AA rfl rfl ?_;refine AF rfl ?_)|refine AK rfl rfl ?_)<;>(first|(refine AA rfl rfl ?_;refine AT rfl ?_)|refine AK rfl rfl ?_)<;>(first|(refine AA rfl rfl ?_;(first|refine Gm rfl rfl ?_|refine Gn rfl rfl ?_|refine Dc rfl rfl (λ_=>?_) λ_=>?_))|refine AK rfl rfl ?_)<;>refine ai ?_)<;>refine ab ?_)
  all_goals try (
    refine ad ?_;refine YT rfl rfl ⟨?_,g⟩;rw[BI (by first|exact .inl (by omega)|exact .inr (.inl (by omega)))])
  refine au ?_;refine CI t.ops.length (by omega) (λ_:Unit=>[(1,.pointer (some ⟨w.heap.size,0,none⟩)),(16,.slice E t.ops.length co)]) (λk _ w'=>Ext u w'/\∀i,i<k->∀o,t.ops[i]?=some o->o.effs.length<=64) ()
    ⟨W8 _ _,λi hi=>by omega⟩ A5 (λ_=>⟨rfl,rfl⟩) ⟨rfl,rfl,rfl⟩ ⟨rfl,rfl⟩ ?_ ?_
  . rintro k _ C hk ⟨e,hh⟩;obtain⟨o,m⟩:=AG hk;obtain⟨L,o2,ce,rfl,_,_,hd1,p,q,rfl,hp,hq,hc,hn⟩:=(hops.ext (g.trans' e)).elem m;obtain⟨M,cp,rfl⟩:=hp.form;obtain⟨N,cq,rfl⟩:=hq.form;refine al ?_;refine Dp rfl rfl (by simp[Value.cells,Value.oneCell']) λD r=>?_;have G:=r.blk;have j:Ext u D:=e.trans' r.ext;refine o_z ?_;refine ab ?_
    (refine ab ?_<;>(refine bj ?_<;>(first|refine Gm rfl rfl ?_|refine Gn rfl rfl ?_|refine Dc rfl rfl (λ_=>?_) λ_=>?_)<;>refine o_z ?_)<;>refine ab ?_)
    . refine ad ?_;refine YT rfl rfl ⟨?_,g.trans' j⟩;rw[BI (.inr (.inr (.inl ⟨k,o,m,by omega⟩)))]
    . exact⟨(),A5,j,DJ hh λo' l=>by rw[m]at l;injection l with l;subst l;omega⟩
  rintro _ C ⟨e,hh⟩;replace n:=n.ext e;replace e:Ext w C:=g.trans' e;have hm:∀(i:Nat) o,t.ops[i]?=some o->o.effs.length<=64:=λi o m=>hh i (Cf m) o m;refine ab ?_;refine Bv rfl ?_;refine Cb rfl (Aap (s.ext e) (by omega) hm) ?_;rintro O D ⟨y,j⟩;refine Cb rfl (AaE (p:=λf=>64<f.length) (caps:=[]) y (λv x w' _ _ H=>Abp H)) ?_;rintro P Q ⟨rfl,hE6⟩;refine ae ?_;refine ab ?_;refine YT rfl rfl ⟨?_,e.trans' (j.trans' hE6)⟩;congr 1;refine Rm ⟨λh=>.inr (.inr (.inr h)),λh=>?_⟩;rcases h with h|h|⟨i,o,m,h⟩|h
  . omega
  . omega
  . have:=hm i o m;omega
  . exact h
end
section
open Go Go.RowKit
attribute [local irreducible] ewp owp hwp hwq hws Ev Evg Fn X6 Y1 YZ YY
def Z5(t:Tsk):Prop:=∀(i:Nat) n,t.vars[i]?=some n->1<=n/\n<=64
def Aan(t:Tsk):Prop:=∀(i:Nat) o,t.ops[i]?=some o->0<=o.cost/\o.cost<=1048576
def Z0(t:Tsk):Prop:=∀(i:Nat) f,(conds t)[i]?=some f->FactsOk t.vars f
def Aaq(t:Tsk):Prop:=∀(i:Nat) o,t.ops[i]?=some o->∀(j:Nat) e,o.effs[j]?=some e->YU t.vars ⟨e.var,e.val⟩
def Zn(t:Tsk):Prop:=∀(i:Nat) o,t.ops[i]?=some o->Aal o.name
noncomputable def ZK(t:Tsk):Int :=
  if bof (AaM t)=true then 5 else if bof (Z5 t/\Aan t)=false then 1 else if bof (StateOk t.vars t.init/\Z0 t/\Aaq t)=false then 2 else if bof (Zn t)=false then 8 else 0
theorem bh{G H:Prop}(g:H)(h:Wr0 H->G:=by intro x;refine ab ?_;refine Ot rfl ?_;refine ar ?_;exact x.o):G:=h ⟨g⟩
theorem aj{G H:Prop}(g:H)(h:Wr0 H->G:=by intro x;refine ES rfl rfl ?_;exact x.o):G:=h ⟨g⟩
theorem AaS{w:World}{tv:Value}{t:Tsk}(ht:V w tv t):Fn prog 24 [tv] w λv w'=>v=ZH (ZK t)∧Ext w w':=by
  have R:=ht;obtain⟨cs,rfl,a,b,c,d,rfl,hvars,hinit,hgoal,hops⟩:=ht;obtain⟨Av,cv,rfl⟩:=hvars.form;obtain⟨Ai,ci,rfl⟩:=hinit.form;obtain⟨Ag,cg,rfl⟩:=hgoal.form;obtain⟨Y,co,rfl⟩:=hops.form;have d0:=hvars.len;have e0:=hops.len;refine AC func24 rfl ntmps24 ?_;refine ab ?_;refine Gw rfl λw1 hN=>?_;have g:=hN.blk;have N:Ext w w1:=hN.ext;refine ae ?_;refine ab ?_;refine Bv rfl ?_;refine Ez rfl (Abq (R.ext N)) ?_ ?_
  case refine_1 =>
    intro w2 C A;refine o_z ?_;refine ab ?_;refine bh ?_;refine YT rfl rfl ⟨?_,N.trans' A⟩;rw[ZK,BI C];rfl
  intro w2 x A;replace g:=g.ext A;replace A:Ext w w2:=N.trans' A;have hm:∀(i:Nat) o,t.ops[i]?=some o->o.effs.length<=64:=λi o s=>Q4 λh=>x (.inr (.inr (.inl ⟨i,o,s,h⟩)));have a0:t.ops.length<=4096:=Q4 λh=>x (.inr (.inl h));have c1:ZK t=if bof (Z5 t/\Aan t)=false then 1 else if bof (StateOk t.vars t.init/\Z0 t/\Aaq t)=false then 2 else if bof (Zn t)=false then 8 else 0:=(by rw[ZK,Bb x];rfl);refine o_z ?_;refine ab ?_;refine au ?_;refine CI t.vars.length (by omega) (λ_:Unit=>[(1,.pointer (some ⟨w.heap.size,0,none⟩)),(19,.slice Av t.vars.length cv)]) (λk _ w'=>w'=w2/\∀i,i<k->∀n,t.vars[i]?=some n->1<=n/\n<=64) ()
    ⟨rfl,λi hi=>by omega⟩ A5 (λ_=>⟨rfl,rfl⟩) ⟨rfl,rfl,rfl⟩ ⟨rfl,rfl⟩ ?_ ?_
  . rintro k _ _ hk ⟨rfl,hh⟩;obtain⟨n,hn⟩:=AG hk;obtain⟨S,o2,ce,rfl,_,_,hd1,rfl,_⟩:=(hvars.ext A).elem hn
    (refine bl ?_<;>(refine ac ?_<;>(first|refine Fu rfl rfl ?_|refine Fv rfl rfl ?_|refine CL rfl rfl (λ_=>?_) λ_=>?_)<;>refine ac ?_<;>(first|(refine AA rfl rfl ?_;refine Aw rfl ?_)|refine AK rfl rfl ?_)<;>(first|(refine AA rfl rfl ?_;(first|refine Gm rfl rfl ?_|refine Gn rfl rfl ?_|refine Dc rfl rfl (λ_=>?_) λ_=>?_))|refine AK rfl rfl ?_)<;>refine ai ?_)<;>refine ab ?_)
    all_goals try (
      refine bh ?_;refine YT rfl rfl ⟨?_,A⟩;rw[c1,Bb (λh=>by have:=h.1 k n hn;omega)];rfl)
    exact⟨(),A5,rfl,DJ hh λn' O=>by rw[hn]at O;injection O with O;omega⟩
  rintro _ _ ⟨rfl,hdom⟩;replace hdom:Z5 t:=λi n hn=>hdom i (Cf hn) n hn;refine ab ?_;refine au ?_;refine CI t.ops.length (by omega) (λ_:Unit=>[(1,.pointer (some ⟨w.heap.size,0,none⟩)),(34,.slice Y t.ops.length co)]) (λk _ w'=>Ext w w'/\Blk w' w.heap.size 26 [.slice Av t.vars.length cv,.slice Ai t.init.length ci,.slice Ag t.goal.length cg,.slice Y t.ops.length co]/\∀i,i<k->∀o,t.ops[i]?=some o->0<=o.cost/\o.cost<=1048576) ()
    ⟨A,g,λi hi=>by omega⟩ A5 (λ_=>⟨rfl,rfl⟩) ⟨rfl,rfl,rfl⟩ ⟨rfl,rfl⟩ ?_ ?_
  . rintro k _ w4 hk ⟨u,g,hh⟩;obtain⟨o,s⟩:=AG hk;obtain⟨S,o2,ce,rfl,_,_,hd1,p,q,rfl,hp,hq,hc,hn⟩:=(hops.ext u).elem s;obtain⟨Ap,cp,rfl⟩:=hp.form;obtain⟨Aq,cq,rfl⟩:=hq.form;refine al ?_;refine Dp rfl rfl (by simp[Value.cells,Value.oneCell']) λZ P=>?_;replace g:=g.ext P.ext;have T:=P.blk;have y:Ext w Z:=u.trans' P.ext;refine o_z ?_;refine ab ?_
    (refine ab ?_<;>(refine af ?_<;>(first|refine Fu rfl rfl ?_|refine Fv rfl rfl ?_|refine CL rfl rfl (λ_=>?_) λ_=>?_)<;>refine ac ?_<;>(first|(refine AA rfl rfl ?_;refine AN rfl ?_)|refine AK rfl rfl ?_)<;>(first|(refine AA rfl rfl ?_;refine AF rfl ?_)|refine AK rfl rfl ?_)<;>(first|(refine AA rfl rfl ?_;(first|refine Gm rfl rfl ?_|refine Gn rfl rfl ?_|refine Dc rfl rfl (λ_=>?_) λ_=>?_))|refine AK rfl rfl ?_)<;>refine ai ?_)<;>refine ab ?_)
    all_goals try (
      refine bh ?_;refine YT rfl rfl ⟨?_,y⟩;rw[c1,Bb (λh=>by have:=h.2 k o s;omega)];rfl)
    exact⟨(),A5,y,g,DJ hh λo' l=>by rw[s]at l;injection l with l;subst l;omega⟩
  rintro _ w3 ⟨H,g,hcost⟩;replace hcost:Aan t:=λi o s=>hcost i (Cf s) o s;have c2:ZK t=if bof (StateOk t.vars t.init/\Z0 t/\Aaq t)=false then 2 else if bof (Zn t)=false then 8 else 0:=(by rw[c1,BI ⟨hdom,hcost⟩];rfl);refine ab ?_;refine af ?_<;>refine af ?_;refine Ez rfl (Aas (hvars.ext H) (hinit.ext H)) ?_ ?_
  case refine_2 =>
    intro w4 C u;refine ay ?_;refine ab ?_;refine bh ?_;refine YT rfl rfl ⟨?_,H.trans' u⟩;rw[c2,Bb (λh=>C h.1)];rfl
  intro w4 b0 u;replace g:=g.ext u;replace u:Ext w w4:=H.trans' u;refine ay ?_;refine ab ?_;refine Bv rfl ?_;refine Cb rfl (Aap (R.ext u) a0 hm) ?_;rintro v5 Z ⟨Q,y⟩;obtain⟨Ac,cc,rfl⟩:=Q.form;have f0:=Q.len;replace g:=g.ext y;replace y:Ext w Z:=u.trans' y;refine AT rfl ?_<;>refine bf ?_;refine ab ?_;refine CI (conds t).length (by omega) (λ_:Unit=>[(1,.pointer (some ⟨w.heap.size,0,none⟩)),(58,.slice Ac (conds t).length cc)]) (λk _ w'=>Ext Z w'/\∀i,i<k->∀f,(conds t)[i]?=some f->FactsOk t.vars f) ()
    ⟨W8 _ _,λi hi=>by omega⟩ A5 (λ_=>⟨rfl,rfl⟩) ⟨rfl,rfl,rfl⟩ ⟨rfl,rfl⟩ ?_ ?_
  . rintro k _ w6 hk ⟨m,hh⟩;obtain⟨f,hf⟩:=AG hk;have g:=g.ext m;obtain⟨S,o2,ce,rfl,_,_,hd1,v,rfl,hR⟩:=(Q.ext m).elem hf;refine bl ?_<;>refine af ?_<;>refine ac ?_<;>refine ab ?_;refine Ez rfl (AaA (hvars.ext (y.trans' m)) (Vb.of_slice hR)) ?_ ?_
    . intro w7 C r;refine ay ?_;refine ab ?_;exact⟨(),A5,m.trans' r,DJ hh λf' I=>by rw[hf]at I;injection I with I;exact I▸C⟩
    . intro w7 C r;refine ay ?_;refine ab ?_;refine bh ?_;refine YT rfl rfl ⟨?_,y.trans' (m.trans' r)⟩;rw[c2,Bb (λh=>C (h.2.1 k f hf))];rfl
  rintro _ w6 ⟨m,hcond⟩;replace hcond:Z0 t:=λi f hf=>hcond i (Cf hf) f hf;replace g:=g.ext m;replace m:Ext w w6:=y.trans' m;refine ab ?_;refine au ?_;refine CI t.ops.length (by omega) (λ_:Unit=>[(1,.pointer (some ⟨w.heap.size,0,none⟩)),(72,.slice Y t.ops.length co)]) (λk _ w'=>Ext w6 w'/\∀i,i<k->∀o,t.ops[i]?=some o->∀(j:Nat) e,o.effs[j]?=some e->YU t.vars ⟨e.var,e.val⟩) ()
    ⟨W8 _ _,λi hi=>by omega⟩ A5 (λ_=>⟨rfl,rfl⟩) ⟨rfl,rfl,rfl⟩ ⟨rfl,rfl⟩ ?_ ?_
  . rintro k _ w7 hk ⟨r,hh⟩;obtain⟨o,s⟩:=AG hk;have g:=g.ext r;obtain⟨S,o2,ce,rfl,_,_,hd1,p,q,rfl,hp,hq,hc,hn⟩:=(hops.ext (m.trans' r)).elem s;obtain⟨Ap,cp,rfl⟩:=hp.form;obtain⟨Aq,cq,rfl⟩:=hq.form;have g0:=hq.len;refine al ?_;refine Dp rfl rfl (by simp[Value.cells,Value.oneCell']) λw8 J=>?_;replace g:=g.ext J.ext;have T:=J.blk;have D:Ext w6 w8:=r.trans' J.ext;replace hq:=hq.ext J.ext;refine o_z ?_;refine ab ?_;refine au ?_;refine CI o.effs.length (by omega) (λ_:Unit=>[(1,.pointer (some ⟨w.heap.size,0,none⟩)),(72,.slice (some ⟨S,o2,none⟩) t.ops.length co),(73,.int .i64 (t.ops.length:Int)),(74,.int .i64 (k:Int)),(79,.slice Aq o.effs.length cq)]) (λj _ w'=>Ext w8 w'/\∀i,i<j->∀e,o.effs[i]?=some e->YU t.vars ⟨e.var,e.val⟩) ()
      ⟨W8 _ _,λi hi=>by omega⟩ B3 (λ_=>⟨rfl,rfl⟩) ⟨rfl,rfl,rfl⟩ ⟨rfl,rfl⟩ ?_ ?_
    . rintro j _ w9 hj ⟨z,hh9⟩;obtain⟨e,he⟩:=AG hj;have g:=g.ext z;obtain⟨b3,o3,ce,rfl,_,_,hd1,cv',rfl,hcn,hr1,hr2⟩:=(hq.ext z).elem he;obtain⟨h0,ccn,rfl⟩:=hcn.form;refine al ?_;refine Dp rfl rfl (by simp[Value.cells,Value.oneCell']) λK E=>?_;have i0:=E.blk;replace g:=g.ext E.ext;have B:Ext w K:=m.trans' (D.trans' (z.trans' E.ext));refine o_z ?_;refine ab ?_;refine af ?_<;>refine af ?_<;>refine af ?_<;>refine aj ?_;refine HS rfl rfl rfl (by simp[Value.cells];rfl) rfl λU F=>?_;have M:Ext w U:=B.trans' F.ext;have W:V U (.slice (some ⟨K.heap.size,0,none⟩) 1 1) [(⟨e.var,e.val⟩:Fct)]:=Vb.made F (.single ⟨rfl,hr1,hr2⟩) rfl F.blk.lt (by decide);refine Ez rfl (AaA (hvars.ext M) W) ?_ ?_
      . intro c0 C G;refine ay ?_;refine ab ?_;exact⟨(),B3,z.trans' (E.ext.trans' (F.ext.trans' G)),DJ hh9 λe' L=>by rw[he]at L;injection L with L;subst L;exact HD.1 C⟩
      . intro c0 C G;refine ay ?_;refine ab ?_;refine bh ?_;refine YT rfl rfl ⟨?_,M.trans' G⟩;rw[c2,Bb (λh=>C (HD.2 (h.2.2 k o s j e he)))];rfl
    rintro _ w9 ⟨z,hh9⟩;refine ab ?_;exact⟨(),A5,D.trans' z,DJ hh λo' l j e he=>by rw[s]at l;injection l with l;subst l;exact hh9 j (Cf he) e he⟩
  rintro _ w7 ⟨r,heff⟩;replace heff:Aaq t:=λi o s=>heff i (Cf s) o s;have c3:ZK t=if bof (Zn t)=false then 8 else 0:=(by rw[c2,BI ⟨b0,hcond,heff⟩];rfl);replace g:=g.ext r;replace r:Ext w w7:=m.trans' r;refine ab ?_;refine au ?_;refine CI t.ops.length (by omega) (λ_:Unit=>[(1,.pointer (some ⟨w.heap.size,0,none⟩)),(99,.slice Y t.ops.length co)]) (λk _ w'=>Ext w w'/\∀i,i<k->∀o,t.ops[i]?=some o->Aal o.name) ()
    ⟨r,λi hi=>by omega⟩ A5 (λ_=>⟨rfl,rfl⟩) ⟨rfl,rfl,rfl⟩ ⟨rfl,rfl⟩ ?_ ?_
  . rintro k _ w8 hk ⟨D,hh⟩;obtain⟨o,s⟩:=AG hk;obtain⟨S,o2,ce,rfl,_,_,hd1,p,q,rfl,hp,hq,hc,hn⟩:=(hops.ext D).elem s;obtain⟨Ap,cp,rfl⟩:=hp.form;obtain⟨Aq,cq,rfl⟩:=hq.form;refine al ?_;refine Dp rfl rfl (by simp[Value.cells,Value.oneCell']) λw9 X=>?_;have T:=X.blk;have z:Ext w w9:=D.trans' X.ext;refine o_z ?_;refine ab ?_;refine af ?_;refine Ez rfl (Aby hn) ?_ ?_
    . intro K C B;refine ay ?_;refine ab ?_;exact⟨(),A5,z.trans' B,DJ hh λo' l=>by rw[s]at l;injection l with l;exact l▸C⟩
    . intro K C B;refine ay ?_;refine ab ?_;refine bh ?_;refine YT rfl rfl ⟨?_,z.trans' B⟩;rw[c3,Bb (λh=>C (h k o s))];rfl
  rintro _ w8 ⟨D,hnames⟩;refine ab ?_;refine ad ?_;refine YT rfl rfl ⟨?_,D⟩;rw[c3,BI (show Zn t from λi o s=>hnames i (Cf s) o s)];rfl
end
section
theorem Ny{p:Prop}:bof p=true↔p:=⟨λh=>C4 λhn=>(by rw[Bb hn]at h;exact Bool.noConfusion h),BI⟩
theorem Ho{p:Prop}:bof p=false↔¬p:=by
  rw[<- Bool.not_eq_true,Ny]
theorem Ii{vars:List Int}{f:List Fct}(h:FactsOk vars f):∀(j i:Nat)(x y:Fct),i<j->f[i]?=some x->f[j]?=some y->x.var<y.var
  |0,i,_,_,hij,_,_=>by omega
  |j+1,i,x,y,hij,hx,hy=>by
    by_cases he:i=j
    . subst he;exact h.2 i x y hx hy
    . obtain⟨z,hz⟩:=AG (l:=f) (k:=j) (by have:=Cf hy;omega);have a:=Ii h j i x z (by omega) hx hz;have b:=h.2 j z y hz hy;omega
theorem Po{vars:List Int}{f:List Fct}(h:FactsOk vars f):∀(i:Nat)(x:Fct),f[i]?=some x->(i:Int)<=x.var
  |0,x,hx=>(h.1 0 x hx).1
  |i+1,x,hx=>by
    obtain⟨z,hz⟩:=AG (l:=f) (k:=i) (by have:=Cf hx;omega);have a:=Po h i z hz;have b:=h.2 i z x hz hx;omega
theorem GV{vars:List Int}{f:List Fct}(h:FactsOk vars f):f.length<=vars.length:=by
  rcases K8 f.length with h0|h0
  . omega
  . obtain⟨x,hx⟩:=AG (l:=f) (k:=f.length-1) (by omega);have a:=Po h _ x hx;obtain⟨b,h3,y,hy,_⟩:=h.1 _ x hx;have:=Cf hy;omega
theorem Lf{t:Tsk}{f:List Fct}:f∈conds t↔f=t.goal∨∃(i:Nat) (o:Opr),t.ops[i]?=some o∧(f=o.pre∨∃(j:Nat) (e:Eff),o.effs[j]?=some e∧f=e.cond):=by
  unfold conds ZX;rw[T8,Q2];constructor
  . rintro(h|⟨o,ho,hf⟩)
    . exact .inl h
    . obtain⟨i,hi⟩:=H3 ho;refine .inr ⟨i,o,hi,?_⟩;rcases T8.1 hf with h|h
      . exact .inl h
      . obtain⟨e,he,rfl⟩:=V8.1 h;obtain⟨j,hj⟩:=H3 he;exact .inr ⟨j,e,hj,rfl⟩
  . rintro(h|⟨i,o,ho,h⟩)
    . exact .inl h
    . refine .inr ⟨o,H2 ho,?_⟩;rcases h with rfl|⟨j,e,he,rfl⟩
      . exact L0
      . exact H1 _ (V8.2 ⟨e,H2 he,rfl⟩)
theorem FH{t:Tsk}:ZK t=0↔TaskOk t:=by
  unfold ZK;constructor
  . intro h;by_cases c:AaM t
    . rw[if_pos (Ny.2 c)]at h;cases h
    rw[if_neg (λb=>c (Ny.1 b))]at h;by_cases g:Z5 t/\Aan t
    case neg=>rw[if_pos (Ho.2 g)]at h;cases h
    rw[if_neg (λb=>Ho.1 b g)]at h;by_cases d:StateOk t.vars t.init/\Z0 t/\Aaq t
    case neg=>rw[if_pos (Ho.2 d)]at h;cases h
    rw[if_neg (λb=>Ho.1 b d)]at h;by_cases k:Zn t
    case neg=>rw[if_pos (Ho.2 k)]at h;cases h
    have hc:∀f∈conds t,FactsOk t.vars f:=λf hf=>by
      obtain⟨i,hi⟩:=H3 hf;exact d.2.1 i f hi
    have hl:t.vars.length<=64/\t.ops.length<=4096/\(∀(i:Nat)(o:Opr),t.ops[i]?=some o->o.effs.length<=64):=by
      unfold AaM at c;refine⟨Q4 λh=>c (.inl h),Q4 λh=>c (.inr (.inl h)),λi o a=>Q4 λh=>c (.inr (.inr (.inl ⟨i,o,a,h⟩)))⟩
    exact⟨hl.1,hl.2.1,g.1,d.1,hc _ (Lf.2 (.inl rfl)),λi o a=>⟨(g.2 i o a).1,(g.2 i o a).2,hl.2.2 i o a,k i o a,hc _ (Lf.2 (.inr ⟨i,o,a,.inl rfl⟩)),λj e he=>⟨hc _ (Lf.2 (.inr ⟨i,o,a,.inr ⟨j,e,he,rfl⟩⟩)),d.2.2 i o a j e he⟩⟩⟩
  . rintro⟨c,g,d,k,h5,h6⟩;have hc:∀f∈conds t,FactsOk t.vars f:=λf hf=>by
      rcases Lf.1 hf with rfl|⟨i,o,a,rfl|⟨j,e,he,rfl⟩⟩
      . exact h5
      . exact(h6 i o a).2.2.2.2.1
      . exact((h6 i o a).2.2.2.2.2 j e he).1
    have l:¬AaM t:=by
      rintro(h|h|⟨i,o,a,h⟩|⟨f,hf,h⟩)
      . omega
      . omega
      . have:=(h6 i o a).2.2.1;omega
      . have:=GV (hc f hf);omega
    have m:Z5 t/\Aan t:=⟨d,λi o a=>⟨(h6 i o a).1,(h6 i o a).2.1⟩⟩;have n:StateOk t.vars t.init/\Z0 t/\Aaq t:=⟨k,λi f hf=>hc f (H2 hf),λi o a j e he=>((h6 i o a).2.2.2.2.2 j e he).2⟩;have p:Zn t:=λi o a=>(h6 i o a).2.2.2.1;rw[if_neg (λb=>l (Ny.1 b)),if_neg (λb=>Ho.1 b m),if_neg (λb=>Ho.1 b n),if_neg (λb=>Ho.1 b p)]
theorem TaskOk.vars{t:Tsk}(h:TaskOk t):Z5 t:=h.2.2.1
end
section
open Go Go.RowKit
attribute [local irreducible] ewp owp hwp hwq hws Ev Evg Fn X6 Y1 YZ YY
section
variable {w:World}{A:Nat → Prop}(hA:∀ k, A k → k < w.heap.size){v0 v1:Value}
include hA
omit hA in
def GA(f:List Fct)(s:List Int):Option Bool:=some (YV f s)
theorem KJ{a:List Fct}(c:Vb w A v0 a){b:List Int}(d:Vb w A v1 b){r:Bool}(hm:GA a b=some r):Fn prog 33 [v0,v1] w λv w'=>Ext w w'/\Vb w' (upA A w w') v r:=by
  obtain rfl:=sm hm;refine(Abw (c.mono hA) (d.mono hA)).mono λv w' h=>⟨h.2,?_⟩;rw[h.1,Kl];exact vBool
omit hA in
def GB(f:List Fct)(s:List Int):Option Bool:=some (YV f s)
theorem Jh{a:List Fct}(c:Vb w A v0 a){b:List Int}(d:Vb w A v1 b){r:Bool}(hm:GB a b=some r):Fn prog 44 [v0,v1] w λv w'=>Ext w w'/\Vb w' (upA A w w') v r:=by
  obtain rfl:=sm hm;refine(Abs (c.mono hA) (d.mono hA)).mono λv w' h=>⟨h.2,?_⟩;rw[h.1,Kl];exact vBool
omit hA in
noncomputable def EN(x:List Int)(y:List Int):Option Bool:=some (bof (StateOk x y))
theorem II{a:List Int}(c:Vb w A v0 a){b:List Int}(d:Vb w A v1 b){r:Bool}(hm:EN a b=some r):Fn prog 36 [v0,v1] w λv w'=>Ext w w'/\Vb w' (upA A w w') v r:=by
  obtain rfl:=sm hm;refine(Aas (c.mono hA) (d.mono hA)).mono λv w' h=>⟨h.2,?_⟩;rw[h.1];exact vBool
omit hA in
noncomputable def Fg(x:List Int)(y:List Fct):Option Bool:=some (bof (FactsOk x y))
theorem Ji{a:List Int}(c:Vb w A v0 a){b:List Fct}(d:Vb w A v1 b){r:Bool}(hm:Fg a b=some r):Fn prog 58 [v0,v1] w λv w'=>Ext w w'/\Vb w' (upA A w w') v r:=by
  obtain rfl:=sm hm;refine(AaA (c.mono hA) (d.mono hA)).mono λv w' h=>⟨h.2,?_⟩;rw[h.1];exact vBool
omit hA in
noncomputable def KK(t:Tsk):Option Bool:=some (bof (SmallOk t))
theorem RB{a:Tsk}(b:Vb w A v0 a){r:Bool}(hm:KK a=some r):Fn prog 21 [v0] w λv w'=>Ext w w'/\Vb w' (upA A w w') v r:=by
  obtain rfl:=sm hm;refine(Abu (b.mono hA)).mono λv w' h=>⟨h.2,?_⟩;rw[h.1];exact vBool
end
noncomputable def Cz(t:Tsk):Option Err:=some ⟨ZK t⟩
theorem Pp(t:Tsk):X2 (ZK t):=by unfold ZK;(repeat' split)<;>decide
theorem FU{w:World}{A:Nat->Prop}(hA:∀k,A k->k<w.heap.size){v0:Value}{a:Tsk}(b:Vb w A v0 a){r:Err}(hm:Cz a=some r):Fn prog 24 [v0] w λv w'=>Ext w w'/\Vb w' (upA A w w') v r:=by
  obtain rfl:=sm hm;refine(AaS (b.mono hA)).mono λv w' h=>⟨h.2,?_⟩;rw[h.1];exact vErr (Pp _)
def Pq(x:Err):Option Int:=some x.n
theorem bp{G H:Prop}(g:H)(h:Wr0 H->G:=by intro x;refine ac ?_;refine ER rfl rfl ?_;refine ER rfl rfl ?_;exact x.o):G:=h ⟨g⟩
theorem TO{w:World}{A:Nat->Prop}(hA:∀k,A k->k<w.heap.size){a:Err}(b:X2 a.n){r:Int}(hm:Pq a=some r):Fn prog 48 [ZH a.n] w λv w'=>Ext w w'/\Vb w' (upA A w w') v r:=by
  obtain rfl:=sm hm;refine AC func48 rfl ntmps48 ?_;by_cases h:a.n=0
  . rw[h,JU];refine ak ?_<;>(first|refine Xo rfl rfl ?_|refine Xp rfl rfl ?_)<;>refine o_z ?_<;>refine ad ?_;exact YT rfl rfl ⟨W8 _ _,vInt (by decide)⟩
  . rw[KI h];have c:-9223372036854775808<=a.n/\a.n<=9223372036854775807:=b;refine ak ?_<;>(first|refine Xo rfl rfl ?_|refine Xp rfl rfl ?_)<;>refine o_z ?_<;>refine ah ?_<;>refine YL rfl rfl ?_<;>refine bp ?_<;>refine aZ ?_<;>refine bf ?_<;>refine am ?_;exact YT rfl rfl ⟨W8 _ _,vInt b⟩
def Cw(xs:List Int):Option (List Int):=if xs.length*8<=140737488355328/\xs.length<=9223372036854775807 then some xs else none
theorem bd{G H:Prop}(g:H)(h:Wr0 H->G:=by intro x;refine ak ?_;refine MQ rfl ?_;refine o_z ?_;exact x.o):G:=h ⟨g⟩
theorem Ep{w:World}{A:Nat->Prop}(hA:∀k,A k->k<w.heap.size){v0:Value}{b:List Int}(a:Vb w A v0 b){r:List Int}(hm:Cw b=some r) :
    Fn prog 26 [v0] w λv w'=>Ext w w'/\RowR w w' (upA A w w') 3 v r:=by
  obtain⟨⟨hl,a0⟩,rfl⟩:=Hw hm;obtain⟨O,hB,b0⟩:=enter hA;replace a:=a.mono b0;obtain⟨f,c,rfl⟩:=a.form;refine AC func26 rfl ntmps26 ?_;cases f with
  |none =>
    have i:b=[]:=by
      cases b with
      |nil=>rfl
      |cons x xs=>obtain⟨_,_,_,h,_⟩:=a.elem (k:=0) (x:=x) rfl;cases h
    subst i;refine bd ?_<;>refine ad ?_;exact YT rfl rfl ⟨W8 _ _,RowR.nil⟩
  |some m =>
    refine bd ?_<;>refine ab ?_;refine CC 2 O (xs:=([]:List Int)) rfl rfl rfl trivial λg n o d j=>?_;replace hB:=hB.st d (λh=>h) (λh=>h);replace a:=a.st d (λh=>h);refine ac ?_;refine CD rfl j a.rd rfl rfl (by simpa using hl) (by simpa using a0) λp q s t l e=>?_;replace hB:=hB.st l (by decide) (by decide);rw[R3]at e ⊢;refine ae ?_;refine ab ?_;exact YT rfl rfl ⟨hB.ext,e.out hB (by decide)⟩
end
section
open Go Go.RowKit
attribute [local irreducible] ewp owp hwp hwq hws Ev Evg Fn X6 Y1 YZ YY
structure Swp where
  vars:List Int
  vals:List (List Int)
  ops:List Int
instance:Rp Swp where
  isAgg:=true
  size:=3
  R w F cs x:=∃a b c,cs=[a,b,c]/\Vb w F a x.vars/\Vb w F b x.vals/\Vb w F c x.ops
  len:=by rintro w F cs x ⟨a,b,c,rfl,h0,h1,h2⟩;rfl
  one:=by rintro w F cs x ⟨a,b,c,rfl,h0,h1,h2⟩ u hu;simp at hu;rcases hu with rfl|rfl|rfl<;>first|rfl|exact Vb.one rfl (by assumption)
  agree:=by rintro w w' F cs x ⟨a,b,c,rfl,h0,h1,h2⟩ ha;exact⟨a,b,c,rfl,h0.agree ha,h1.agree ha,h2.agree ha⟩
  mono:=by rintro w F G cs x ⟨a,b,c,rfl,h0,h1,h2⟩ ha;exact⟨a,b,c,rfl,h0.mono ha,h1.mono ha,h2.mono ha⟩
instance:El Swp λj i w O x G=>∀(c:Option Addr)(d:Nat)(e:Option Addr)(f:Nat)(a:Option Addr)(b:Nat),Al j (.V (.slice c x.vars.length d) x.vars :: .V (.slice e x.vals.length f) x.vals :: .V (.slice a x.ops.length b) x.ops :: .V (.agg #[(.slice c x.vars.length d),(.slice e x.vals.length f),(.slice a x.ops.length b)]) x::i) w O->G (.agg #[(.slice c x.vars.length d),(.slice e x.vals.length f),(.slice a x.ops.length b)]):=⟨λl h k=>by
  have g:=h;unfold Vb at g;obtain⟨cs,rfl,v1,v2,v3,rfl,h4,h7,h10⟩:=g;obtain⟨c,d,rfl⟩:=h4.form;obtain⟨e,f,rfl⟩:=h7.form;obtain⟨a,b,rfl⟩:=h10.form;exact k c d e f a b ⟨h4,h7,h10,h,l⟩⟩
instance:Ec Swp λn j w O i b o x G=>∀(d:Option Addr)(e:Nat)(f:Option Addr)(g:Nat)(a:Option Addr)(c:Nat),Al n (.C i b o [(.slice d x.vars.length e),(.slice f x.vals.length g),(.slice a x.ops.length c)] :: .V (.slice d x.vars.length e) x.vars :: .V (.slice f x.vals.length g) x.vals :: .V (.slice a x.ops.length c) x.ops :: .V (.agg #[(.slice d x.vars.length e),(.slice f x.vals.length g),(.slice a x.ops.length c)]) x::j) w O->G:=⟨λ{_ _ _ _ _ _ _ x _ _} p l hc h k=>by
  have hv:=Vb.ofAgg (x:=x) rfl h;obtain⟨m,v2,v3,rfl,h4,h7,h10⟩:=h;obtain⟨d,e,rfl⟩:=h4.form;obtain⟨f,g,rfl⟩:=h7.form;obtain⟨a,c,rfl⟩:=h10.form;exact k d e f g a c ⟨⟨l,hc⟩,h4,h7,h10,hv,p⟩⟩
noncomputable def Cd(e:List Fct)(f:List Fct):Option Bool :=
  if(e.length:Int)≠(f.length:Int)then(some false)else(bnd (rng (ρ:=Bool) (λ(d:Nat)(b:Fct)(g:Unit)=>bnd (f[d]?) λc=>if¬(b.var=c.var/\b.val=c.val)then(some (.ret false))else(some (.next ()))) e 0 ()) λa=>fin a λ(h:Unit)=>some true)
section
attribute [local irreducible] Vb Lc Rw Ob
theorem EI{w:World}{A:Nat->Prop}(hA:∀k,A k->k<w.heap.size){b:Value}{e:List Fct}(g:Vb w A b e){c:Value}{f:List Fct}(h:Vb w A c f){r:Bool}(hm:Cd e f=some r) :
    Fn prog 62 [b,c] w λv w'=>Ext w w'/\Vb w' (upA A w w') v r:=by
 obtain⟨_,_,_⟩:=BS hA;apply Br g;intros;apply Br h;intros;refine AC func62 rfl ntmps62 ?_;unfold Cd at hm;refine zz ?_;refine HM rfl rfl (λd=>?_) λd=>?_
 ·replace hm:=ip hm d;refine zz ?_;obtain rfl:=sm hm;exact By
 replace hm:=im hm d;refine zz ?_;refine Cl (X:=Unit) hm [0,1] [] [] [] (λ_ _ _ _ t=>t) (λ_ _ _ _ t=>t) () ?_ ?_
 ·intro j l m _ _ _ _ a n _ i;intros;refine zz ?_;refine Jz (Bc (Db 0 9)) ?_;refine zz ?_;refine Kn rfl ?_;intros;refine Ry rfl (AI rfl rfl (AI rfl rfl ?_));obtain⟨o,k0,a⟩:=bs a;refine Kn rfl ?_;intros;refine Ry rfl (WA rfl rfl rfl rfl (λc0=>?_) λc0=>?_)
  ·replace a:=ip a c0;refine zz ?_;obtain rfl:=sm a;obtain rfl:=i _ rfl;exact By
  replace a:=im a c0;refine zz ?_;exact BX () a
 intro l0 _ _ _ _ hm;intros;refine Ba ?_;refine zz ?_;obtain rfl:=sm hm;exact By
end
noncomputable def CY(g:List Int)(d:Int):Option Bool :=
  if(g.length:Int)≠d then(some false)else(bnd (mkI 1 (false:Bool) d) λh=>bnd (rng (ρ:=Bool) (λ(i:Nat)(a:Int)(b:(List Bool))=>bnd (if a<0 then(some true)else(if d<=a then(some true)else(bnd (atI b a) λe=>some e)):Option Bool) λf=>if f=true then(some (.ret false))else(bnd (atI b a) λj=>some (.next (b.set (a:Int).toNat true)))) g 0 h) λc=>fin c λ(k:(List Bool))=>some true)
section
attribute [local irreducible] Vb Lc Rw Ob
theorem GW{w:World}{A:Nat->Prop}(hA:∀k,A k->k<w.heap.size){c:Value}{j:List Int}(m:Vb w A c j){d:Int}(n:X2 d){r:Bool}(hm:CY j d=some r) :
    Fn prog 61 [c,(.int .i64 d)] w λv w'=>Ext w w'/\Vb w' (upA A w w') v r:=by
 obtain⟨_,_,_⟩:=BS hA;apply Br m;intros;refine AC func61 rfl ntmps61 ?_;unfold CY at hm;refine zz ?_;refine HM rfl rfl (λe=>?_) λe=>?_
 ·replace hm:=ip hm e;refine zz ?_;obtain rfl:=sm hm;exact By
 replace hm:=im hm e;refine zz ?_;obtain⟨p,e8,hm⟩:=bs hm;refine FB 2 e8 ?_;intros;refine zz ?_;refine Cl (X:=Unit) hm [1,5,14] [] [2] [2] (λ_ _ _ _ t=>t) (λ_ o l _ t=>uR (o 2) 2 l::t) () ?_ ?_
 ·intro q l0 l _ _ _ _ b s _ c0;intros;refine Ak (Am (CE ?_));intros;refine Dk (Ay rfl (o_z (Ak (Ak ?_))));refine Cu (X:=Unit) b [1,5,7,14,15,16] [] [] [] (λ_ _ f _ t=>(32,.bool f)::t) (λ_ _ _ _ t=>t) ?_ ?_
  ·intro f a;refine zz ?_;refine CL rfl rfl (λg=>?_) λg=>?_
   ·replace a:=ip a g;refine zz ?_;obtain rfl:=sm a;exact AP ()
   replace a:=im a g;refine zz ?_;refine EM rfl rfl (λh=>?_) λh=>?_
   ·replace a:=ip a h;refine zz ?_;obtain rfl:=sm a;exact AP ()
   replace a:=im a h;refine zz ?_;obtain⟨u,n0,a⟩:=bs a;refine FT ?_;intros;refine AA rfl rfl (Dk (EP rfl rfl (o_z ?_)));obtain rfl:=sm a;exact AP ()
  intro f _ _ _ _ b;intros;refine Ba ?_;refine Bg rfl (λi=>?_) (λi=>?_)
  ·replace b:=ip b i;refine zz ?_;obtain rfl:=sm b;obtain rfl:=c0 _ rfl;exact By
  replace b:=im' b i;refine zz ?_;obtain⟨x,p0,b⟩:=bs b;refine FT ?_;intros;refine FA ?_;intros;refine o_z ?_;exact BX () b
 intro y _ _ _ _ hm;intros;refine Ba ?_;refine zz ?_;obtain rfl:=sm hm;exact By
end
noncomputable def GC(d:Tsk)(e:Swp):Option Bool :=
  bnd (bnd (CY e.vars (d.vars.length:Int)) λf=>if f=true then if(e.vals.length:Int)≠(d.vars.length:Int)then(some true)else(some false)else some true:Option Bool) λg=>if g=true then(some false)else(bnd (rng (ρ:=Bool) (λ(b:Nat)(c:Int)(m:Unit)=>bnd (bnd (e.vars[b]?) λh=>bnd (atI d.vars h) λi=>if i≠c then(some true)else(bnd (e.vals[b]?) λj=>bnd (CY j c) λk=>if k=true then some false else some true):Option Bool) λl=>if l=true then(some (.ret false))else(some (.next ()))) d.vars 0 ()) λa=>fin a λ(n:Unit)=>some true)
section
attribute [local irreducible] Vb Lc Rw Ob
theorem OE{w:World}{A:Nat->Prop}(hA:∀k,A k->k<w.heap.size){c:Value}{n:Tsk}(p:Vb w A c n){d:Value}{o:Swp}(l0:Vb w A d o){r:Bool}(hm:GC n o=some r) :
    Fn prog 60 [c,d] w λv w'=>Ext w w'/\Vb w' (upA A w w') v r:=by
 obtain⟨_,_,_⟩:=BS hA;apply Br p;intros;apply Br l0;intros;refine AC func60 rfl ntmps60 ?_;unfold GC at hm;refine Ak (Am (Dx 2 ?_));intros;refine Dx 3 ?_;intros;refine Ay rfl (o_z (Ak (Ak (Cu (X:=Unit) hm [2,3] [] [] [] (λ_ _ e _ t=>(22,.bool e)::t) (λ_ _ _ _ t=>t) ?_ ?_))))
 ·intro e b;refine zz ?_;refine Bt (AN rfl ?_);refine Bt (AT rfl ?_);obtain⟨q,n0,b⟩:=bs b;refine CJ rfl (GW (λ_ h=>h) zA zI n0) ?_;intros;cases q
  case false =>
   replace b:=iF b;refine zz ?_;obtain rfl:=sm b;exact AP ()
  replace b:=iT b;refine zz ?_;refine Bt (AA rfl rfl (AT rfl (AA rfl rfl (AN rfl (AA rfl rfl ?_)))));refine Bt (AA rfl rfl (AT rfl (AA rfl rfl (HM rfl rfl (λf=>?_) λf=>?_))))
  ·replace b:=ip b f;refine zz ?_;obtain rfl:=sm b;exact AP ()
  replace b:=im b f;refine zz ?_;obtain rfl:=sm b;exact AP ()
 intro e _ _ _ _ hm;intros;refine Ba ?_;refine Bg rfl (λg=>?_) (λg=>?_)
 ·replace hm:=ip hm g;refine zz ?_;obtain rfl:=sm hm;exact By
 replace hm:=im' hm g;refine zz ?_;refine Bt (AT rfl (Aw rfl (o_z ?_)));refine Cl (X:=Unit) hm [2,3,24] [] [] [] (λ_ _ _ _ t=>t) (λ_ _ _ _ t=>t) () ?_ ?_
 ·intro x y z _ _ _ _ c0 B _ s;intros;refine zz ?_;refine CE ?_;intros;refine Dk (Ay rfl (Ay rfl (o_z (Ak ?_))));refine Cu (X:=Unit) c0 [2,3,24,25,26] [] [] [] (λ_ _ j _ t=>(51,.bool j)::t) (λ_ _ _ _ t=>t) ?_ ?_
  ·intro j a;refine HL [] ?_;refine AJ (fuel:=3) [] (Bc (Db 0 18)) rfl (AL rfl rfl (CH rfl (AL rfl rfl ?_)));refine CH rfl (AI rfl rfl ?_);obtain⟨C,v0,a⟩:=bs a;refine Kn rfl ?_;intros;refine Fz rfl ?_;obtain⟨D,y0,a⟩:=bs a;refine Ei rfl ?_;intros;refine Fz rfl (AI rfl rfl (Pj rfl rfl rfl rfl (λl=>?_) λl=>?_))
   ·replace a:=ip a l;refine zz ?_;refine AH (i:=18) rfl (q_S [] ?_);intros;refine AK rfl rfl (BM [] ?_);refine AJ (fuel:=0) [] (Bc [19,20]) rfl (Ci rfl rfl rfl (Dr rfl rfl rfl (AB (Bh ?_))));obtain rfl:=sm a;exact AP ()
   replace a:=im a l;refine zz ?_;refine Hy (Au rfl (At rfl rfl (Cm rfl (Au rfl (At rfl rfl ?_)))));obtain⟨z0,a1,a⟩:=bs a;refine YE ?_;intros;refine zz ?_;refine Jg (Au rfl (At rfl rfl (Cm rfl (AB (AH (i:=18) rfl ?_)))));refine q_S [] ?_;intros;refine AA rfl rfl ?_;obtain⟨u,q0,a⟩:=bs a;refine CJ rfl (GW (λ_ h=>h) zA zI q0) ?_;intros;cases u
   case false =>
    replace a:=iF a;refine BM [] ?_;refine AJ (fuel:=0) [] (Bc [19,20]) rfl (Au rfl (At rfl rfl (PT rfl rfl (Dy rfl rfl rfl (AB (Bh ?_))))));obtain rfl:=sm a;exact AP ()
   replace a:=iT a;refine BM [] ?_;refine AJ (fuel:=0) [] (Bc [19,20]) rfl (Au rfl (At rfl rfl (PS rfl rfl (Dy rfl rfl rfl (AB (Bh ?_))))));obtain rfl:=sm a;exact AP ()
  intro j _ _ _ _ c0;intros;refine Ba ?_;refine Bg rfl (λm=>?_) (λm=>?_)
  ·replace c0:=ip c0 m;refine zz ?_;obtain rfl:=sm c0;obtain rfl:=s _ rfl;exact By
  replace c0:=im' c0 m;refine Bf ?_;exact BX () c0
 intro E _ _ _ _ hm;intros;refine Ba ?_;refine zz ?_;obtain rfl:=sm hm;exact By
end
noncomputable def FI(j:Swp)(k:List Int):Option (List Int) :=
  bnd (mkI 8 (0:Int) (k.length:Int)) λe=>bnd (rng (ρ:=(List Int)) (λ(b:Nat)(f:Int)(c:(List Int))=>bnd (j.vars[b]?) λd=>bnd (j.vals[b]?) λg=>bnd (atI g f) λh=>bnd (atI c d) λl=>some (.next (c.set (d:Int).toNat h))) k 0 e) λa=>fin a λ(i:(List Int))=>some i
section
attribute [local irreducible] Vb Lc Rw Ob
theorem OF{w:World}{A:Nat->Prop}(hA:∀k,A k->k<w.heap.size){b:Value}{d:Swp}(f:Vb w A b d){c:Value}{e:List Int}(g:Vb w A c e){r:(List Int)}(hm:FI d e=some r) :
    Fn prog 37 [b,c] w λv w'=>Ext w w'/\Vb w' (upA A w w') v r:=by
 obtain⟨_,_,_⟩:=BS hA;apply Br f;intros;apply Br g;intros;refine AC func37 rfl ntmps37 ?_;unfold FI at hm;refine Ak (Am (Dx 2 ?_));intros;refine zz ?_;obtain⟨h,f0,hm⟩:=bs hm;refine FB 3 f0 ?_;intros;refine zz ?_;refine Cl (X:=Unit) hm [2,5,11] [] [3] [3] (λ_ _ _ _ t=>t) (λ_ o c0 _ t=>uR (o 3) 3 c0::t) () ?_ ?_
 ·intro j l c0 _ _ _ _ a m _ n;intros;refine zz ?_;refine CE ?_;intros;refine Dk (Ay rfl (Ay rfl (o_z ?_)));refine HL [] ?_;refine AJ (fuel:=1) [] (Bc (Db 0 15)) rfl (AI rfl rfl (AL rfl rfl (CH rfl (AI rfl rfl ?_))));obtain⟨p,l0,a⟩:=bs a;refine Kn rfl ?_;intros;refine Fz rfl (AL rfl rfl ?_);refine CH rfl (AI rfl rfl ?_);obtain⟨q,n0,a⟩:=bs a;refine Kn rfl ?_;intros;refine Fz rfl (AI rfl rfl ?_);obtain⟨s,p0,a⟩:=bs a;refine Ei rfl ?_;intros;refine Fz rfl ?_;obtain⟨u,r0,a⟩:=bs a;refine Ei rfl ?_;intros;refine AB (AH (i:=15) rfl (FA ?_));intros;refine Cs (Bh ?_);exact BX () a
 intro x _ _ _ _ hm;intros;refine Ba ?_;refine zz ?_;refine FG 3 ?_;intros;obtain rfl:=sm hm;exact By
end
noncomputable def FC(a:Eff)(b:Eff):Option Bool :=
  bnd (if a.var=b.var then(if a.val=b.val then(bnd (Cd a.cond b.cond) λc=>if c=true then some true else some false)else(some false))else(some false):Option Bool) λd=>some d
section
attribute [local irreducible] Vb Lc Rw Ob
theorem MI{w:World}{A:Nat->Prop}(hA:∀k,A k->k<w.heap.size){b:Value}{f:Eff}(i:Vb w A b f){c:Value}{g:Eff}(j:Vb w A c g){r:Bool}(hm:FC f g=some r) :
    Fn prog 104 [b,c] w λv w'=>Ext w w'/\Vb w' (upA A w w') v r:=by
 obtain⟨_,_,_⟩:=BS hA;apply Br i;intros;apply Br j;intros;refine AC func104 rfl ntmps104 ?_;unfold FC at hm;refine Ak (Am (Dx 2 ?_));intros;refine Dx 3 ?_;intros;refine Ay rfl (o_z (Ak (Cu (X:=Unit) hm [] [] [] [] (λ_ _ d _ t=>(4,.bool d)::t) (λ_ _ _ _ t=>t) ?_ ?_)))
 ·intro d a;refine zz ?_;refine Bt (AN rfl ?_);refine Bt (EA rfl rfl (λc0=>?_) λc0=>?_)
  ·replace a:=ip a c0;refine zz ?_;refine Bt (AA rfl rfl (AN rfl (AA rfl rfl ?_)));refine Bt (AA rfl rfl (EA rfl rfl (λe=>?_) λe=>?_))
   ·replace a:=ip a e;refine zz ?_;refine Bt (AA rfl rfl (AN rfl (AA rfl rfl ?_)));refine Bt (AA rfl rfl ?_);obtain⟨l,h0,a⟩:=bs a;refine CJ rfl (EI (λ_ h=>h) zA zA h0) ?_;intros;cases l
    case false =>
     replace a:=iF a;refine zz ?_;obtain rfl:=sm a;exact AP ()
    replace a:=iT a;refine zz ?_;obtain rfl:=sm a;exact AP ()
   replace a:=im a e;refine zz ?_;obtain rfl:=sm a;exact AP ()
  replace a:=im a c0;refine zz ?_;obtain rfl:=sm a;exact AP ()
 intro d _ _ _ _ hm;intros;refine Ba ?_;refine AV ?_;obtain rfl:=sm hm;exact By
end
noncomputable def AU(f:List Eff)(g:List Eff):Option Bool :=
  if(f.length:Int)≠(g.length:Int)then(some false)else(bnd (rng (ρ:=Bool) (λ(b:Nat)(c:Eff)(h:Unit)=>bnd (g[b]?) λd=>bnd (FC c d) λe=>if e=true then some (.next ())else some (.ret false)) f 0 ()) λa=>fin a λ(i:Unit)=>some true)
section
attribute [local irreducible] Vb Lc Rw Ob
theorem Dv{w:World}{A:Nat->Prop}(hA:∀k,A k->k<w.heap.size){b:Value}{d:List Eff}(f:Vb w A b d){c:Value}{e:List Eff}(g:Vb w A c e){r:Bool}(hm:AU d e=some r) :
    Fn prog 103 [b,c,(.func (.func 104) #[] #[])] w λv w'=>Ext w w'/\Vb w' (upA A w w') v r:=by
 obtain⟨_,_,_⟩:=BS hA;apply Br f;intros;apply Br g;intros;refine AC func103 rfl ntmps103 ?_;unfold AU at hm;refine zz ?_;refine HM rfl rfl (λc0=>?_) λc0=>?_
 ·replace hm:=ip hm c0;refine zz ?_;obtain rfl:=sm hm;exact By
 replace hm:=im hm c0;refine zz ?_;refine Cl (X:=Unit) hm [1,2,15] [] [2,3] [] (λ_ _ _ _ t=>t) (λ_ _ _ _ t=>t) () ?_ ?_
 ·intro l m n _ _ _ _ a o _ i;intros;refine zz ?_;refine CE ?_;intros;refine DP ?_;refine BC 2 ?_;intros;refine Ay rfl (Bj ?_);intros;refine zz ?_;obtain⟨l0,m0,a⟩:=bs a;refine CE ?_;intros;refine DP ?_;refine BC 3 ?_;intros;refine Bj ?_;intros;refine zz ?_;refine Eh ?_;refine Eh ?_;obtain⟨j,h0,a⟩:=bs a;refine XO rfl rfl (MI (λ_ h=>h) zA zA h0) ?_;intros;cases j
  case false =>
   replace a:=iF a;refine zz ?_;obtain rfl:=sm a;obtain rfl:=i _ rfl;exact By
  replace a:=iT a;refine zz ?_;exact BX () a
 intro p _ _ _ _ hm;intros;refine Ba ?_;refine zz ?_;obtain rfl:=sm hm;exact By
end
noncomputable def GD(a:Opr)(b:Opr):Option Bool :=
  bnd (if a.cost=b.cost then(bnd (Cd a.pre b.pre) λc=>if c=true then bnd (AU a.effs b.effs) λd=>if d=true then some true else some false else some false)else(some false):Option Bool) λe=>some e
section
attribute [local irreducible] Vb Lc Rw Ob
theorem OG{w:World}{A:Nat->Prop}(hA:∀k,A k->k<w.heap.size){b:Value}{e:Opr}(g:Vb w A b e){c:Value}{f:Opr}(i:Vb w A c f){r:Bool}(hm:GD e f=some r) :
    Fn prog 64 [b,c] w λv w'=>Ext w w'/\Vb w' (upA A w w') v r:=by
 obtain⟨_,_,_⟩:=BS hA;apply Br g;intros;apply Br i;intros;refine AC func64 rfl ntmps64 ?_;unfold GD at hm;refine Ak (Am (Dx 2 ?_));intros;refine Dx 3 ?_;intros;refine Ay rfl (o_z (Ak (Cu (X:=Unit) hm [] [] [] [] (λ_ _ d _ t=>(4,.bool d)::t) (λ_ _ _ _ t=>t) ?_ ?_)))
 ·intro d a;refine zz ?_;refine Bt (AN rfl ?_);refine Bt (EA rfl rfl (λc0=>?_) λc0=>?_)
  ·replace a:=ip a c0;refine zz ?_;refine Bt (AA rfl rfl (AN rfl (AA rfl rfl ?_)));refine Bt (AA rfl rfl ?_);obtain⟨j,g0,a⟩:=bs a;refine CJ rfl (EI (λ_ h=>h) zA zA g0) ?_;intros;cases j
   case false =>
    replace a:=iF a;refine zz ?_;obtain rfl:=sm a;exact AP ()
   replace a:=iT a;refine zz ?_;refine Bt (AA rfl rfl (AN rfl (AA rfl rfl ?_)));refine Bt (AA rfl rfl ?_);obtain⟨l,i0,a⟩:=bs a;refine CJ rfl (Dv (λ_ h=>h) zA zA i0) ?_;intros;cases l
   case false =>
    replace a:=iF a;refine zz ?_;obtain rfl:=sm a;exact AP ()
   replace a:=iT a;refine zz ?_;obtain rfl:=sm a;exact AP ()
  replace a:=im a c0;refine zz ?_;obtain rfl:=sm a;exact AP ()
 intro d _ _ _ _ hm;intros;refine Ba ?_;refine AV ?_;obtain rfl:=sm hm;exact By
end
noncomputable def GP(f:Int):Option (List Int) :=
  bnd (mkI 8 (0:Int) f) λe=>bnd (Zk (ρ:=(List Int)) (λ(a:Nat)(c:(List Int))=>bnd (c[a]?) λg=>some (.next (c.set a (a:Int)))) e.length e) λb=>fin b λ(d:(List Int))=>some d
section
attribute [local irreducible] Vb Lc Rw Ob
theorem Gc{w:World}{A:Nat->Prop}(hA:∀k,A k->k<w.heap.size){a:Int}(c:X2 a){r:(List Int)}(hm:GP a=some r) :
    Fn prog 50 [(.int .i64 a)] w λv w'=>Ext w w'/\Vb w' (upA A w w') v r:=by
 obtain⟨_,_,_⟩:=BS hA;refine AC func50 rfl ntmps50 ?_;unfold GP at hm;refine zz ?_;obtain⟨d,e3,hm⟩:=bs hm;refine FB 2 e3 ?_;intros;refine zz ?_;refine Rz (X:=Unit) hm [3] [] [2] [2] (λ_ _ _ _ t=>t) (λ_ o c0 _ t=>uR (o 2) 2 c0::t) () ?_ ?_
 ·intro e c0 _ _ _ _ b _ _ f;intros;refine zz ?_;obtain⟨g,f0,b⟩:=bs b;refine CE ?_;intros;refine FA ?_;intros;refine o_z ?_;exact BX () b
 intro h _ _ _ _ hm;intros;refine Ba ?_;refine zz ?_;refine FG 2 ?_;intros;obtain rfl:=sm hm;exact By
end
section
attribute [local irreducible] Vb Lc Rw Ob
end
noncomputable def DQ(f:List Int):Option (List Int) :=
  bnd (mkI 8 (0:Int) (f.length:Int)) λg=>bnd (rng (ρ:=(List Int)) (λ(d:Nat)(b:Int)(c:(List Int))=>bnd (atI c b) λh=>some (.next (c.set (b:Int).toNat (d:Int)))) f 0 g) λa=>fin a λ(e:(List Int))=>some e
section
attribute [local irreducible] Vb Lc Rw Ob
theorem Cc{w:World}{A:Nat->Prop}(hA:∀k,A k->k<w.heap.size){a:Value}{c:List Int}(d:Vb w A a c){r:(List Int)}(hm:DQ c=some r) :
    Fn prog 135 [a] w λv w'=>Ext w w'/\Vb w' (upA A w w') v r:=by
 obtain⟨_,_,_⟩:=BS hA;apply Br d;intros;refine AC func135 rfl ntmps135 ?_;unfold DQ at hm;refine zz ?_;obtain⟨e,e6,hm⟩:=bs hm;refine FB 2 e6 ?_;intros;refine zz ?_;refine Cl (X:=Unit) hm [3,9] [] [2] [2] (λ_ _ _ _ t=>t) (λ_ o c0 _ t=>uR (o 2) 2 c0::t) () ?_ ?_
 ·intro f g c0 _ _ _ _ b h _ i;intros;refine zz ?_;refine CE ?_;intros;refine Dk (Ay rfl (Ay rfl (o_z (Am (Aw rfl (Aw rfl (Aw rfl ?_)))))));obtain⟨j,i0,b⟩:=bs b;refine FT ?_;intros;refine FA ?_;intros;refine o_z ?_;exact BX () b
 intro l _ _ _ _ hm;intros;refine Ba ?_;refine zz ?_;refine FG 2 ?_;intros;obtain rfl:=sm hm;exact By
end
noncomputable def Lg(a:Err)(b:Int):Option Bool :=
  bnd (if a.n≠0 then(bnd (Pq (⟨a.n⟩:Err)) λc=>if c=b then(some true)else(some false))else(some false):Option Bool) λd=>some d
section
attribute [local irreducible] Vb Lc Rw Ob
theorem Uv{w:World}{A:Nat->Prop}(hA:∀k,A k->k<w.heap.size){b:Err}(g:X2 b.n){c:Int}(i:X2 c){r:Bool}(hm:Lg b c=some r) :
    Fn prog 20 [(ZH b.n),(.int .i64 c)] w λv w'=>Ext w w'/\Vb w' (upA A w w') v r:=by
 obtain⟨_,_,_⟩:=BS hA;refine AC func20 rfl ntmps20 ?_;unfold Lg at hm;refine Ak (Am (Ay rfl (o_z (Ak (Cu (X:=Unit) hm [] [] [] [] (λ_ _ d _ t=>(4,.bool d)::t) (λ_ _ _ _ t=>t) ?_ ?_)))))
 ·intro d a;refine zz ?_;refine CU rfl (λe=>?_) λe=>?_
  ·replace a:=ip a e;refine zz ?_;obtain⟨j,c0,a⟩:=bs a;refine CJ rfl (TO (λ_ h=>h) zI c0) ?_;intros;refine zz ?_;refine EA rfl rfl (λf=>?_) λf=>?_
   ·replace a:=ip a f;refine zz ?_;obtain rfl:=sm a;exact AP ()
   replace a:=im a f;refine zz ?_;obtain rfl:=sm a;exact AP ()
  replace a:=im a e;refine zz ?_;obtain rfl:=sm a;exact AP ()
 intro d _ _ _ _ hm;intros;refine Ba ?_;refine AV ?_;obtain rfl:=sm hm;exact By
end
end
section
open Go Go.RowKit Go.ChangeShapes Go.WideShapes Go.Deep
instance:Reads prog 27 (List (List Int)):=Zh underlying27 Rr
instance:Reads prog 29 Swp:=⟨λ{g enc w n cs x} h=>by
  obtain⟨hl,m,hf⟩:=Zi underlying29 h;obtain⟨a,v1,v2,rfl⟩:=Acr (hl.trans (by kernel_rfl:prog.cellsOf 29=3));obtain⟨b,g0⟩:=hf 0 22 0 1 rfl (by kernel_rfl);replace g0:DataW.trod enc prog w 0 (λ_=>true) true m 22 [a]=some b:=g0;obtain⟨c,g1⟩:=hf 1 27 1 1 rfl (by kernel_rfl);replace g1:DataW.trod enc prog w 0 (λ_=>true) true m 27 [v1]=some c:=g1;obtain⟨d,g2⟩:=hf 2 22 2 1 rfl (by kernel_rfl);replace g2:DataW.trod enc prog w 0 (λ_=>true) true m 22 [v2]=some d:=g2;obtain⟨z0,q0⟩:=(inferInstance:Reads prog 22 (List Int)).of g0;obtain⟨e,q1⟩:=(inferInstance:Reads prog 27 (List (List Int))).of g1;obtain⟨f,q2⟩:=(inferInstance:Reads prog 22 (List Int)).of g2;exact⟨⟨z0,e,f⟩,a,v1,v2,rfl,q0,q1,q2⟩⟩
end
section
open Go Go.RowKit
def Aad(n:Nat)(Q:YX)(e:Exit)(a:Act)(w:World):Prop:=AaO e/\∃l,Ok n a l/\Q e l w
def ZL(P:Program)(n:Nat)(c:Code)(Q:YX)(l:Env)(w:World):Prop:=∀a,Ok n a l->c.wp P (Aad n Q) a w
def ZI(P:Program)(n:Nat)(ops:Array Oper)(Q:YX)(rest:List Oper)(l:Env)(w:World):Prop:=∀a,Ok n a l->wpList P ops (Aad n Q) rest a w
section
variable {P:Program}{n:Nat}{Q:YX}{l:Env}{w:World}
theorem Ck{x y:Code}(h:ZL P n x (thn (ZL P n y Q) Q) l w):ZL P n (.seq x y) Q l w:=λa b =>
  wp_seq (U6 (λe a w hl=>by
    obtain⟨hn,l',ho,hq⟩:=hl;cases e with
    |normal=>exact hq a ho
    |panic c=>exact hn.elim
    |outgrown=>exact hn.elim
    |exit i=>exact⟨trivial,l',ho,hq⟩
    |goto i=>exact⟨trivial,l',ho,hq⟩
    |ret=>exact⟨trivial,l',ho,hq⟩) (h a b))
theorem JA(h:Q .normal l w):ZL P n .skip Q l w:=λ_ a=>wp_skip ⟨trivial,l,a,h⟩
theorem RC{i:Nat}(h:Q (.exit i) l w):ZL P n (.exit i) Q l w:=λ_ a=>wp_exit ⟨trivial,l,a,h⟩
theorem Ij(h:Q .ret l w):ZL P n .ret Q l w:=λ_ a=>wp_ret ⟨trivial,l,a,h⟩
theorem JB{c:Operand}{x y:Code}(hc:opv l c=some (.bool true))(h:ZL P n x Q l w):ZL P n (.cond c x y) Q l w:=λa b=>wp_cond_true (b.eval hc) (h a b)
theorem IU{c:Operand}{x y:Code}(hc:opv l c=some (.bool false))(h:ZL P n y Q l w):ZL P n (.cond c x y) Q l w:=λa b=>wp_cond_false (b.eval hc) (h a b)
theorem Lh{id:Nat}{c:Code}(h:ZL P n c (Y4 id Q) l w):ZL P n (.block id c) Q l w:=λa b =>
  wp_block (U6 (λe a w hl=>by
    obtain⟨hn,l',ho,hq⟩:=hl;cases e with
    |exit i =>
      simp only[Exit.inBlock];simp only[Y4]at hq;by_cases hi:i=id
      . subst hi;have hb:Nat.beq i i=true:=U7 i;rw[hb]at hq;rw[if_pos rfl];exact⟨trivial,l',ho,hq⟩
      . have hb:Nat.beq i id=false:=by
          cases d:Nat.beq i id
          . rfl
          . exact absurd (F4 d) hi
        rw[hb]at hq;rw[if_neg hi];exact⟨trivial,l',ho,hq⟩
    |panic c=>exact hn.elim
    |outgrown=>exact hn.elim
    |normal=>exact⟨trivial,l',ho,hq⟩
    |goto i=>exact⟨trivial,l',ho,hq⟩
    |ret=>exact⟨trivial,l',ho,hq⟩) (h a b))
theorem BY{id:Nat}{c:List Oper}(h:ZI P n c.toArray Q c l w):ZL P n (.region id c.toArray false) Q l w:=λa b=>wp_region_lit (h a b)
theorem Vx{c:Code}(G:Nat→Env)(I:Nat→Prop)(N d:Nat)(hs:X5 l (G d))(o:I d)
    (f:∀k,I k->k<=N/\ZL P n c (thn (λp w'=>w'=w/\X5 p (G (k+1))/\I (k+1)) Q) (G k) w):ZL P n (.loop c) Q l w:=by
  intro a D;have r:∀a' w',(∃k,w'=w/\Ok n a' (G k)/\I k)->∃m,(∃k,w'=w/\Ok n a' (G k)/\I k/\N-k=m)/\∀k,Ok n a' (G k)->I k->m<=N-k:=by
    intro a' w' ⟨k,v,B,h3⟩;have:∀(q k:Nat),N-k<=q->Ok n a' (G k)->I k->∃m,(∃k,w'=w/\Ok n a' (G k)/\I k/\N-k=m)/\∀k,Ok n a' (G k)->I k->m<=N-k:=by
      intro q
      induction q with
      |zero=>intro k j s t;exact⟨N-k,⟨k,v,s,t,rfl⟩,λ_ _ _=>by omega⟩
      |succ q E =>
        intro k j s t;by_cases C:∃g,Ok n a' (G g)/\I g/\N-g<=q
        . obtain⟨g,x,y,g3⟩:=C;exact E g g3 x y
        . refine⟨N-k,⟨k,v,s,t,rfl⟩,λg x y=>?_⟩;rcases U8 (N-g) (N-k)with h|h
          . exact absurd ⟨g,x,y,by omega⟩ C
          . exact h
    exact this _ k (W3 _) B h3
  refine wp_loop (λa' w'=>∃k,w'=w/\Ok n a' (G k)/\I k) (λa' w'=>Classical.epsilon λm=>(∃k,w'=w/\Ok n a' (G k)/\I k/\N-k=m)/\∀k,Ok n a' (G k)->I k->m<=N-k) ⟨d,rfl,D.sub hs,o⟩ ?_;intro a' w' u;obtain⟨⟨k,rfl,s,t,hk⟩,_⟩:=E7 (r a' w' u);obtain⟨F,hr⟩:=f k t;refine U6 (λe z A hl=>?_) (hr a' s);obtain⟨hn,p,ho',j⟩:=hl;cases e with
  |normal =>
    obtain⟨rfl,hs₂,hI₂⟩:=j;have b:=ho'.sub hs₂;refine⟨⟨k+1,rfl,b,hI₂⟩,?_⟩;obtain⟨_,hmin⟩:=E7 (r z A ⟨k+1,rfl,b,hI₂⟩);have v:=hmin (k+1) b hI₂;have B:=(f (k+1) hI₂).1;exact K2 v (K3 (by omega) hk)
  |panic c=>exact hn.elim
  |outgrown=>exact hn.elim
  |exit i=>exact⟨trivial,p,ho',j⟩
  |goto i=>exact⟨trivial,p,ho',j⟩
  |ret=>exact⟨trivial,p,ho',j⟩
variable {ops:Array Oper}{rest:List Oper}{d:Tmp}{ty:TypeId}{pos:String}{aft:Array Edge}
theorem Ej{K:Env->World->Prop}[h:NilQ Q K](hk:K l w):ZI P n ops Q [] l w:=λ_ a=>wpList_nil ⟨trivial,l,a,h.of l w hk⟩
theorem BB{b:Op}{v:Value}(he:Ev P ⟨some d,b,ty,pos,aft,none⟩ l w v)  (h:ZI P n ops Q rest ((d,v)::l) w) (hd:Nat.blt d n=true:=by exact rfl):ZI P n ops Q (⟨some d,b,ty,pos,aft,none⟩::rest) l w :=
  λa c=>wpList_plain rfl λK e=>by
    unfold Oper.wp;have:=he n a w.drawn c;rw[Jr]at this;rw[this];exact e _ _ (h _ (c.put hd v))
theorem JC{f:FuncId}[hf:Callable P f]{xs:List Operand}{vs:List Value}{i:Array TypeId}{v:Value}(m:Y3 l xs=some vs)(hd:Nat.blt d n=true)(hc:Calls P f vs.toArray w λe w'=>e=.returned v/\w'=w)
    (h:ZI P n ops Q rest ((d,v)::l) w):ZI P n ops Q (⟨some d,.call { callee:=.value (.func f),args:=xs.toArray,argTypes:=i },ty,pos,aft,none⟩::rest) l w :=
  fun a j=>wpList_plain rfl λK o=>by
    obtain⟨k,h1,h2,h3⟩:=hf.eq;have b:¬k.body=none:=λe=>(by rw[e]at h2;simp at h2);have c : ¬k.name = "runtime.NumGoroutine" := fun e=>by rw[e]at h3; simp at h3
    unfold Oper.wp;have g:a.eval (.func f)=.func (.func f) #[] #[]:=rfl;have:(execOp a.eval ⟨some d,.call { callee:=.value (.func f),args:=xs.toArray,argTypes:=i },ty,pos,aft,none⟩).run P w=.ok (.enter f vs.toArray) w:=by
      simp[execOp,resolve,g,Deferred.ofValue,invoke,callFunc,h1,b,c,j.evals m]
    rw[this];exact hc.mono λ_ _ ⟨he,hw⟩=>by subst he;subst hw;exact o _ _ (h _ (j.put hd v))
end
theorem Uw{P:Program}{f:FuncId}{b:Func}{c:Code}{vs:List Value}{w:World}{v:Value}{n:Nat}(hf:P.funcs[f]?=some b)(hb:b.body=some c)(hn:b.ntmps=n)(hl:Nat.ble vs.length n=true)
    (h:ZL P n c (X6 P b λu w'=>u=v/\w'=w) (ent 0 vs) w):Calls P f vs.toArray w λe w'=>e=.returned v/\w'=w:=by
  have j:vs.length<=n:=(by simpa using hl);refine calls_of_wp hf hb (U6 (λe a w' k=>?_) (h _ (?_:Ok n { tmps:=vs.toArray++Array.replicate (b.ntmps-vs.toArray.size) undef,defers:=[] } (ent 0 vs))))
  . obtain⟨g,l,ho,q⟩:=k;cases e with
    |normal=>obtain⟨d,hr,hv,hw⟩:=q;subst hv hw;have:=hr n a w'.drawn ho;rw[Jr]at this;exact⟨ho.defers,d,this,rfl,rfl⟩
    |ret=>obtain⟨d,hr,hv,hw⟩:=q;subst hv hw;have:=hr n a w'.drawn ho;rw[Jr]at this;exact⟨ho.defers,d,this,rfl,rfl⟩
    |panic c=>exact g.elim
    |outgrown=>exact g.elim
    |exit i=>exact q.elim
    |goto i=>exact q.elim
  . refine⟨by simp[hn];omega,rfl,λi v hv=>?_⟩;obtain⟨_,h2⟩:=Pb vs 0 i v hv;simp only[V5]at h2;have hi:i<vs.length:=(C1.1 h2).1;simp only[B4];rw[B6 (by simpa using hi)];simp[h2]
end
section
open Go Go.RowKit
section
variable {P:Program}{n:Nat}{Q:YX}{ops:Array Oper}{rest:List Oper}{l:Env}{w:World}{d:Tmp}{ty:TypeId}{pos:String}{aft:Array Edge}{S:World → Prop}
theorem IV(h:Q .normal l w):ZI P n ops Q [] l w:=λ_ a=>wpList_nil ⟨trivial,l,a,h⟩
theorem Qf{b:Op}{v:Value}{w':World}(he:∀a,Ok n a l->(execOp a.eval ⟨some d,b,ty,pos,aft,none⟩).run P w=.ok (.value v) w')(hd:Nat.blt d n=true)(h:ZI P n ops Q rest ((d,v)::l) w'):ZI P n ops Q (⟨some d,b,ty,pos,aft,none⟩::rest) l w :=
  λa c=>wpList_plain rfl λK e=>by
    unfold Oper.wp;rw[he a c];exact e _ _ (h _ (c.put hd v))
theorem Nz{t:TypeId}{x:Operand}{v:Value}(b:opv l x=some v)(hd:Nat.blt d n=true)(h:ZI P n ops Q rest ((d,.pointer (some ⟨w.heap.size,0,none⟩))::l) (w.alloc (.cells v.cells t))):ZI P n ops Q (⟨some d,.box t x,ty,pos,aft,none⟩::rest) l w :=
  Qf (λa c=>by simp[execOp,Instr.box,c.eval b,newVar,GN]) hd h
theorem Pr{t e:TypeId}[hs:TSlice P t e]{z:Value}{size bytes b:Nat}[TInfo P e z size bytes]{ps:List (Nat×Operand)}{vs:List Value}(hk:Aar 0 ps=true)(q:Y3 l (ps.map (·.2))=some vs)(f:vs.length=b)(hv:∀v∈vs,v.cells.toList.length=size)  (hd:Nat.blt d n=true)
    (h:ZI P n ops Q rest ((d,.slice (some ⟨w.heap.size,0,none⟩) b b)::l) (w.alloc (.cells (vs.flatMap λv=>v.cells.toList).toArray e))) (hz:b*size<=16777216:=by decide):ZI P n ops Q (⟨some d,.buildSlice t b ps.toArray,ty,pos,aft,none⟩::rest) l w :=
  Qf (λa r=>by
    have g:(ps.map λp=>(p.1,a.eval p.2))=Zu 0 vs:=by
      rw[Om ps 0 hk,On,r.evals q]
    have k:∀v∈vs,v.cells.size=size:=λv hm=>(by simpa using hv v hm);have m:¬16777216<b*size:=(by omega);have hf:∀c:Array Value,c.size=b*size->Instr.fill (λi=>some (i*size,size)) c (Zu 0 vs)=some (vs.flatMap λv=>v.cells.toList).toArray:=λc j=>by
      obtain⟨s,ho1,ho2⟩:=Oo (size:=size) vs 0 c [] c.toList (by simp) (by simp) (by simp[j,f]) k;rw[ho1];congr 1;apply P5.1;rw[ho2];simp
    simp only[execOp,Instr.buildSlice];by_cases o:b*size=0
    . simp[run_underlying hs.eq,DO (P:=P) (t:=e),o];rw[g,hf _ (by simp[o])];simp[GN]
    . simp[run_underlying hs.eq,DO (P:=P) (t:=e),HR (P:=P) (t:=e),o,m];rw[g,hf _ (by simp)];simp[GN]) hd h
def AaQ(P:Program)(n:Nat)(ops:Array Oper)(Q:YX)(S:World->Prop)(b:List (Nat×Bool))(l:Env)(w:World):Prop:=∀a,Ok n a l->Z9 P ops (Aad n Q) S b a w
theorem Tl(h:Q .normal l w):AaQ P n ops Q S [] l w:=λ_ a=>⟨trivial,l,a,h⟩
theorem GL{i:Nat}{b:Op}{r:List (Nat×Bool)}{v:Value}(hi:ops[i]?=some ⟨some d,b,ty,pos,aft,none⟩)(he:∀w',S w'->Ev P ⟨some d,b,ty,pos,aft,none⟩ l w' v)  (h:AaQ P n ops Q S r ((d,v)::l) w) (hn:Nat.blt d n=true:=by exact rfl):AaQ P n ops Q S ((i,true)::r) l w:=λa c =>
  ⟨_,v,hi,.inl ⟨by simp[Region.wanted],λw' e=>by have:=he w' e n a w'.drawn c;rwa[Jr]at this⟩,h _ (c.put hn v)⟩
def Abm(P:Program)(n:Nat)(ops:Array Oper)(Q:YX)(S:World->Prop)(r:List (Nat×Bool)):YX
  |.normal,l,w=>(r≠[]->S w)/\AaQ P n ops Q S r l w
  |_,_,_=>False
theorem HX{i:Nat}{o:Oper}{r:List (Nat×Bool)}(hi:ops[i]?=some o)(h:ZI P n ops (Abm P n ops Q S r) [o] l w):AaQ P n ops Q S ((i,false)::r) l w:=λa k=>by
  have b:=h a k;show wpOp P ops (Aad n Q) i _ a w;unfold wpList at b;unfold wpOp;simp only[hi];have conv:∀a' w',Aad n (Abm P n ops Q S r) .normal a' w'->(r≠[]->S w')/\Z9 P ops (Aad n Q) S r a' w':=by
    rintro a' w' ⟨_,l',ho,hS,g⟩;exact⟨hS,g a' ho⟩
  have d:∀e a' w',Aad n (Abm P n ops Q S r) e a' w'->e=.normal:=by
    rintro e a' w' ⟨hn,l',ho,g⟩;cases e<;>first|rfl|exact g.elim
  by_cases f:Region.wanted o (yielded ops a.tmps)=true
  . rw[if_pos f]at b;rw[if_pos f];rcases b with b|⟨b,m,w0,h2⟩
    . refine .inl ?_;unfold Oper.wp at *
      generalize (execOp a.eval o).run P w=j at *
      cases j with
      |ok p w'  =>
        cases p<;>simp only[Oper.upon]at b ⊢ <;>
          first
            |exact conv _ _ b
            |exact Calls.mono b (λq s he=>by
                cases q with
                |returned v=>exact conv _ _ he
                |panicked c=>exact absurd (d _ _ _ he) (by simp)
                |outgrown=>obtain⟨m,w0,hq⟩:=he;exact absurd (d _ _ _ hq) (by simp))
            |exact Rows.mono b (λ_ _ he=>conv _ _ he)
            |exact b.elim
      |halt x w'=>cases x<;>simp only[Oper.upon]at b ⊢<;>first|exact b.elim|exact absurd (d _ _ _ b) (by simp)
    . exact absurd (d _ _ _ h2) (by simp)
  . rw[if_neg f]at b;rw[if_neg f];exact conv _ _ b
theorem RD[hm:Mixed P]{id:Nat}{i:List Oper}(S:World->Prop)(b:List (Nat×Bool))  (hl:b.length=i.toArray.size)  (d:S (dr w (w.drawn+1)))
    (h:AaQ P n i.toArray Q S b l (dr w (w.drawn+1))) (hs:Region.noSelect i.toArray=true:=by kernel_rfl) (hc:ordOk i.toArray (Array.replicate i.toArray.size false) b=true:=by kernel_rfl):ZL P n (.region id i.toArray true) Q l w:=λa e =>
  wp_region_any hm.eq (by
    have:=HC (P:=P) hs (Q:=Aad n Q) (S:=S) (λc a w f=>f.1) b (Array.replicate i.toArray.size false) a (dr w (w.drawn+1)) (λm g hm=>by
      simp only[B4,D1]at hm;split at hm<;>simp at hm) hc (λ_=>d) (h a e)
    rw[hl]at this;exact Kk _ _ _ _ this)
end
theorem Kp{P:Program}{f:FuncId}{b:Func}{c:Code}{vs:List Value}{w:World}{R:Value->World->Prop}{n:Nat}(hf:P.funcs[f]?=some b)(hb:b.body=some c)(hn:b.ntmps=n)(hl:Nat.ble vs.length n=true)
    (h:ZL P n c (X6 P b R) (ent 0 vs) w):Calls P f vs.toArray w λe w'=>∃v,e=.returned v/\R v w':=by
  have j:vs.length<=n:=(by simpa using hl);refine calls_of_wp hf hb (U6 (λe a w' k=>?_) (h _ (?_:Ok n { tmps:=vs.toArray++Array.replicate (b.ntmps-vs.toArray.size) undef,defers:=[] } (ent 0 vs))))
  . obtain⟨g,l,ho,q⟩:=k;cases e with
    |normal=>obtain⟨d,hr,hv⟩:=q;have:=hr n a w'.drawn ho;rw[Jr]at this;exact⟨ho.defers,d,this,d,rfl,hv⟩
    |ret=>obtain⟨d,hr,hv⟩:=q;have:=hr n a w'.drawn ho;rw[Jr]at this;exact⟨ho.defers,d,this,d,rfl,hv⟩
    |panic c=>exact g.elim
    |outgrown=>exact g.elim
    |exit i=>exact q.elim
    |goto i=>exact q.elim
  . refine⟨by simp[hn];omega,rfl,λi v hv=>?_⟩;obtain⟨_,h2⟩:=Pb vs 0 i v hv;simp only[V5]at h2;have hi:i<vs.length:=(C1.1 h2).1;simp only[B4];rw[B6 (by simpa using hi)];simp[h2]
end
section
open Go.Shelf
def Qg:Go.Shelf.Ren:=⟨fun|6=>100|15=>68|14=>139|28=>115|29=>116|20=>165|21=>166|22=>167|23=>168|24=>169|25=>170|26=>171|27=>172|46=>182|47=>142|48=>143|49=>183|50=>184|57=>190|n=>n,fun|22=>23|24=>67|25=>204|3=>3|39=>155|0=>0|53=>216|55=>218|4=>4|46=>209|45=>208|50=>197|5=>5|9=>9|66=>245|70=>249|76=>273|77=>274|n=>n,fun|n=>n⟩
theorem Pt:Go.Proofs.SlLaysF0.n6 prog Qg:={
  mixed:=by kernel_rfl
  f6:=⟨f100.name,by decide,func100.trans (congrArg some (by kernel_rfl))⟩
  f14:=⟨f139.name,by decide,func139.trans (congrArg some (by kernel_rfl))⟩
  f15:=func68.trans (congrArg some (by kernel_rfl))
  f20:=⟨f165.name,by decide,func165.trans (congrArg some (by kernel_rfl))⟩
  f21:=⟨f166.name,by decide,func166.trans (congrArg some (by kernel_rfl))⟩
  f22:=⟨f167.name,by decide,func167.trans (congrArg some (by kernel_rfl))⟩
  f23:=⟨f168.name,by decide,func168.trans (congrArg some (by kernel_rfl))⟩
  f24:=⟨f169.name,by decide,func169.trans (congrArg some (by kernel_rfl))⟩
  f25:=⟨f170.name,by decide,func170.trans (congrArg some (by kernel_rfl))⟩
  f26:=⟨f171.name,by decide,func171.trans (congrArg some (by kernel_rfl))⟩
  f27:=⟨f172.name,by decide,func172.trans (congrArg some (by kernel_rfl))⟩
  f28:=func115.trans (congrArg some (by kernel_rfl))
  f29:=func116.trans (congrArg some (by kernel_rfl))
  f46:=⟨f182.name,by decide,func182.trans (congrArg some (by kernel_rfl))⟩
  f47:=func142.trans (congrArg some (by kernel_rfl))
  f48:=func143.trans (congrArg some (by kernel_rfl))
  f49:=⟨f183.name,by decide,func183.trans (congrArg some (by kernel_rfl))⟩
  f50:=⟨f184.name,by decide,func184.trans (congrArg some (by kernel_rfl))⟩
  f57:=⟨f190.name,by decide,func190.trans (congrArg some (by kernel_rfl))⟩
  t0:=underlying0
  a0:=isAgg0
  z0:=sizeOf0
  v0:=zeroValue0
  t3:=underlying3
  a3:=isAgg3
  z3:=sizeOf3
  v3:=zeroValue3
  t4:=underlying4
  a4:=isAgg4
  z4:=sizeOf4
  v4:=zeroValue4
  t5:=underlying5
  a5:=isAgg5
  z5:=sizeOf5
  v5:=zeroValue5
  t9:=underlying9
  a9:=isAgg9
  z9:=sizeOf9
  v9:=zeroValue9
  t22:=underlying23
  a22:=isAgg23
  z22:=sizeOf23
  v22:=zeroValue23
  t25:=underlying204
  a25:=isAgg204
  z25:=sizeOf204
  v25:=zeroValue204
  t39:=underlying155
  a39:=isAgg155
  z39:=sizeOf155
  v39:=zeroValue155
  t45:=underlying208
  a45:=isAgg208
  z45:=sizeOf208
  v45:=zeroValue208
  t46:=underlying209
  a46:=isAgg209
  z46:=sizeOf209
  v46:=zeroValue209
  t50:=underlying197
  a50:=isAgg197
  z50:=sizeOf197
  v50:=zeroValue197
  t53:=underlying216
  a53:=isAgg216
  z53:=sizeOf216
  v53:=zeroValue216
  t55:=underlying218
  a55:=isAgg218
  z55:=sizeOf218
  v55:=zeroValue218
  t66:=underlying245
  a66:=isAgg245
  z66:=sizeOf245
  v66:=zeroValue245
  t70:=underlying249
  a70:=isAgg249
  z70:=sizeOf249
  v70:=zeroValue249
  t76:=underlying273
  a76:=isAgg273
  z76:=sizeOf273
  v76:=zeroValue273
  t77:=underlying274
  a77:=isAgg274
  z77:=sizeOf274
  v77:=zeroValue274 }
open Go.RowKit Go.Lib Go.Sort in
theorem RE{α:Type}[Inhabited α](k:Nat)(l:∀w,(isAgg 67).run prog w=.ok true w)(m:∀w,(Go.sizeOf 67).run prog w=.ok k w)(enc:α->List Value)(hk:∀x,(enc x).length=k)(o:∀x,∀v∈enc x,v.oneCell'=true)(h:α->α->Int)(p:SWO (ltOf h))(g:Nat)(i:Array Value)(a off cap:Nat)(d:Array α)(w:World)(q:∀b w,(callFunc g b).run prog w=.ok (.enter g b) w)(c:CmpLays prog g i enc k h a off d.size w)(r:HoldsK enc k w a off d)(f:a<w.heap.size)(j:d.size<4611686018427387904) :
    Calls prog 100 #[.slice (some ⟨a,off,none⟩) d.size cap,.func (.func g) #[] i] w λe w' =>
      e=.returned (.tuple #[])/\∃n s,w'=sortWorldK enc k w a off n (pdq (ltOf h) d 0 d.size (Lib.bitLen d.size) true true) s:=AnyQ.slices_SortFunc_eq Pt k l m enc hk o h p g i a off cap d w q c r f j
open Go.RowKit Go.Lib Go.Sort in
theorem Pu{α:Type}[Inhabited α](p:Option Addr)(cap:Nat)(a:Value)(w:World) :
    Calls prog 100 #[.slice p 0 cap,a] w λe w'=>e=.returned (.tuple #[])/\w'=w:=AnyF.slices_SortFunc_none Pt p cap a w
end
section
open Go Go.RowKit Go.Lib Go.Sort
instance:Inhabited Fct:=⟨⟨0,0⟩⟩
def ZF(x:Fct):List Value:=[.int .i64 x.var,.int .i64 x.val]
def cfF(x y:Fct):Int:=Lib.compareInt x.var y.var
theorem ltF(x y:Fct):ltOf cfF x y=decide (x.var<y.var):=by
  unfold ltOf cfF Lib.compareInt;by_cases h:x.var<y.var
  . simp[h]
  . by_cases a:y.var<x.var<;>simp[h,a]
theorem Acx:SWO (ltOf cfF) where
  irrefl x:=by rw[ltF];simp
  trans x y z h1 h2:=by rw[ltF]at *;simp at *;omega
  ntrans x y z h1 h2:=by rw[ltF]at *;simp at *;omega
theorem Z4(a b:Int)(i:World):Calls prog 102 #[.int .i64 a,.int .i64 b] i λe w'=>e=.returned (.int .i64 (Lib.compareInt a b))/\w'=i:=by
  go_enter func102,ntmps102
  go_wp2
  . go_ret
    have h:a<b:=(by assumption);exact⟨by simp[Lib.compareInt,h],rfl⟩
  . go_ret
    have h:b<a:=(by assumption);have c:¬a<b:=(by omega);exact⟨by simp[Lib.compareInt,h,c],rfl⟩
  . go_ret
    have g:b<=a:=(by assumption);have c:a<=b:=(by assumption);have d:¬a<b:=(by omega);have f:¬b<a:=(by omega);exact⟨by simp[Lib.compareInt,d,f],rfl⟩
theorem AbP(x y:Fct)(c:World):Calls prog 101 #[.agg #[.int .i64 x.var,.int .i64 x.val],.agg #[.int .i64 y.var,.int .i64 y.val]] c λe w'=>e=.returned (.int .i64 (cfF x y))/\∃q b,w'=grow (c.drewN q) b:=by
  have a:=λW'=>Z4 x.var y.var W';unfold cfF;generalize Lib.compareInt x.var y.var=r at a ⊢
  go_enter func101,ntmps101
  go_wp2_with (go_at_call 102;refine(a _).mono ?_;rintro e w' ⟨rfl,rfl⟩)
  go_ret
  exact⟨rfl,0,_,by rw[alloc_eq_grow,alloc_eq_grow,grow_grow];rfl⟩
theorem AbD(a off size:Nat)(w:World):CmpLays prog 101 #[] ZF 2 cfF a off size w:=λ_ _ _ _ x y=>AbP x y _
def Bd(xs:List Fct):List Fct:=(pdq (ltOf cfF) xs.toArray 0 xs.length (Lib.bitLen xs.length) true true).toList
theorem Tm(xs:List Fct):PermIn 0 xs.toArray.size xs.toArray (Bd xs).toArray/\SortedIn (ltOf cfF) 0 xs.toArray.size (Bd xs).toArray:=by
  have:=pdq_sorts (ltOf cfF) Acx xs.toArray 0 xs.toArray.size (Lib.bitLen xs.length) true true (W6 _) (W3 _) (Or.inl rfl);simpa[Bd]using this
theorem EW(xs:List Fct):(Bd xs).Perm xs:=by
  obtain⟨⟨a,_,hperm⟩,_⟩:=Tm xs;have b:(Bd xs).toArray.extract 0 xs.toArray.size=(Bd xs).toArray:=(by rw[<- a];exact L4);rw[b,L4]at hperm;simpa using hperm
theorem Gg(xs:List Fct):(Bd xs).length=xs.length:=(EW xs).length_eq
theorem SF(xs:List Fct):(Bd xs).Pairwise λx y=>x.var<=y.var:=by
  obtain⟨_,hs⟩:=Tm xs;have hl:=Gg xs;rw[C5];intro i j hi hj a;have:=hs i j (W6 _) a (by simp;omega);rw[getElem!_pos _ j (by simpa using hj),getElem!_pos _ i (by simpa using hi),ltF]at this;simpa using this
theorem Abh:∀(xs:List Fct),(flatK ZF 2 xs.toArray).toList=xs.flatMap ZF:=λxs=>by
  apply M5;intro t;have d:∀(l:List Fct)(t:Nat),(l.flatMap ZF)[t]?=(l[t/2]?).bind λx=>(ZF x)[t%2]?:=by
    intro l
    induction l with
    |nil=>intro t;simp
    |cons x l f =>
      intro t;rw[M6]
      match t with
      |0=>rfl
      |1=>rfl
      |t+2 =>
        rw[B8 (by simp[ZF]),show t+2-(ZF x).length=t from by simp[ZF],f];rw[show(t+2)/2=t/2+1 from by omega,show(t+2)%2=t%2 from by omega];simp
  rw[d];by_cases e:t<xs.length*2
  . have b:t/2<xs.length:=(by omega);have a:t<(flatK ZF 2 xs.toArray).size:=(by simpa using e);rw[G0,C6 a,C9 b,P2];have:=get_flatK ZF 2 xs.toArray t (by simpa using e);rw[getElem!_pos (flatK ZF 2 xs.toArray) t a,getElem!_pos xs.toArray (t/2) (by simpa using b)]at this;rw[this];have c:t%2<(ZF xs[t/2]).length:=(by simp[ZF];omega);rw[C9 c,H4,getElem!_pos (ZF xs[t/2]) (t%2) c]
  . have b:(flatK ZF 2 xs.toArray).size<=t:=(by rw[size_flatK];simpa using(by omega:xs.length*2<=t));have c:xs[t/2]?=none:=F5 (by omega);rw[G0,E9 b,c];rfl
theorem Pv{w:World}{F:Nat->Prop}:∀{xs:List Fct}{cells:List Value},Chunks w F cells xs->cells=xs.flatMap ZF/\∀x∈xs,X2 x.var/\X2 x.val
  |[],_,h=>⟨h,λ_ a=>by simp at a⟩
  |x::xs,cells,⟨cs,rest,he,hr,hc⟩=>by
    obtain⟨b,h2⟩:=Pv hc;obtain⟨c,h4⟩:=hr;refine⟨by rw[he,c,b];rfl,λy hy=>?_⟩;rcases T8.1 hy with rfl|hy
    . exact h4
    . exact h2 y hy
theorem Pw{w:World}{F:Nat->Prop}:∀{xs:List Fct},(∀x∈xs,X2 x.var/\X2 x.val)->Chunks w F (xs.flatMap ZF) xs
  |[],_=>rfl
  |x::xs,h=>⟨ZF x,xs.flatMap ZF,rfl,⟨rfl,h x (by simp)⟩,Pw λy a=>h y (by simp[a])⟩
theorem Hp(xs:List Fct):(xs.flatMap ZF).length=xs.length*2:=by rw[<- Abh,I8,size_flatK];simp
theorem Mf{i:Nat}{w:World}{O:Lab}{v:Value}{xs:List Fct}(h:Rw i w O 67 v xs)(hl:xs.length<4611686018427387904) :
    Fn prog 100 [v,.func (.func 101) #[] #[]] w λ_ w'=>∃B,St (eT i) w O w' B/\Rw i w' B 67 v (Bd xs):=by
  intro d;rcases K8 xs.length with h0|h0
  . have o:xs=[]:=B1 h0;subst o;obtain⟨p,c,rfl⟩:=h.form;have hs:Bd []=[]:=B1 (Gg []);exact(Pu (α:=Fct) p c _ (dr w d)).mono λe w' ⟨he,hw⟩=>⟨_,w,d,he,hw,O,St.refl _ _ _,by rw[hs];exact h⟩
  . obtain⟨g,cap,cells,sp,rfl,hg,hFg,hb,hc,hlen,hnc,hcm,htot⟩:=h.1.open h0;obtain⟨rfl,hin⟩:=Pv hc;have q:=Abh xs;have C:HoldsK ZF 2 (dr w d) g 0 xs.toArray:=λj hj=>by
      have r:j<xs.length*2:=(by simpa using hj);refine⟨?_,by rw[V0];exact hb.frozen j⟩;rw[V0];refine hb.cell ?_;rw[C2 (by rw[Hp];exact r),<- q,G0,C6 hj,getElem!_pos _ j hj];rfl
    have D:∀w,(isAgg 67).run prog w=.ok true w:=λw=>IG w;have E:∀w,(Go.sizeOf 67).run prog w=.ok 2 w:=λw=>DO w;have G:∀f w,(callFunc 101 f).run prog w=.ok (.enter 101 f) w:=enters_of func101 (by kernel_rfl) rfl;have b:=RE 2 D E ZF (λ_=>rfl) (λx v hv=>by simp[ZF]at hv;rcases hv with rfl|rfl<;>rfl) cfF Acx 101 #[] g 0 cap xs.toArray (dr w d) G (AbD g 0 _ _) C hb.lt (by simpa using hl);have H:xs.toArray.size=xs.length:=(by simp);rw[H]at b;refine b.mono λe w' ⟨he,n,os,hw⟩=>⟨_,w',w'.drawn,he,rfl,upO O w.heap.size (λ_=>0),?_,?_⟩
    . subst hw;refine⟨rfl,rfl,rfl,?_,λk hk s=>⟨?_,Fm hk⟩⟩
      . show w.heap.size<=((w.heap.modify g _)++os).size;simp
      . have t:g≠k:=λe=>s (by rw[<- e];exact h.2.1 g rfl);show((w.heap.modify g _)++os)[k]?=_;rw[B6 (by simpa using hk),F6,if_neg t]
    . have u:pdq (ltOf cfF) xs.toArray 0 xs.length (Lib.bitLen xs.length) true true=(Bd xs).toArray:=(by simp[Bd]);rw[u]at hw;have a:=Gg xs;have y:=Abh (Bd xs);have l:Blk w' g 67 ((Bd xs).flatMap ZF++sp):=by
        subst hw;unfold Blk at hb ⊢;have z:g<w.heap.size:=Blk.lt hb;show((w.heap.modify g _)++os)[g]?=_;rw[B6 (by simpa using z),F6,if_pos rfl,hb];simp only[S0,Go.Sort.onCells];congr 2;apply Array.ext
        . simp only[Go.Sort.putCells,M7,M8,K4,Hp,a]
        . intro i K L;simp only[Go.Sort.putCells,H5,V0,V5,W6,true_and];have m:(flatK ZF 2 (Bd xs).toArray).size=xs.length*2:=(by rw[size_flatK];simp[a]);by_cases hi:i<xs.length*2
          . rw[if_pos (by rw[m];exact hi)];simp only[H4];rw[D6 (by rw[Hp,a];exact hi)];rw[getElem!_pos _ _ (by rw[m];exact hi)];have:=congrArg (·[i]?) y;simp only[G0]at this;rw[C6 (by rw[m];exact hi),C9 (by rw[Hp,a];exact hi)]at this;exact R1 this
          . rw[if_neg (by rw[m];exact hi)];simp only[H4];rw[C7 (by rw[Hp];omega),C7 (by rw[Hp,a];omega)];simp only[Hp,a]
      have I:∀k,Fr 0 w O k->Fr 0 w' (upO O w.heap.size λ_=>0) k:=λk hk=>⟨by subst hw;show k<((w.heap.modify g _)++os).size;have:=hk.1;simp;omega,(Fm hk.1).trans hk.2⟩;have:=Own.close (w:=w') (base:=0) (F:=Fr 0 w O) (cap:=cap) (W6 _) hFg l (Pw (F:=Fr 0 w O) (w:=w') λx o=>hin x ((EW xs).mem_iff.1 o)) (by rw[a];exact hnc) hcm (by rw[K4,Hp]at htot ⊢;rw[a];exact htot);rw[a]at this;exact this.rw I (λJ A=>by
        have:g=J:=(by simpa[Value.ownBlock]using A);subst this;exact(Fm hb.lt).trans (h.2.1 g rfl)) h.2.2
end
section
open Go Go.RowKit Go.Lib Go.Sort
def orL:List Int->Int
  |[]=>0
  |x::xs=>if x≠0 then x else orL xs
theorem Vy{xs:List Int}{k:Nat}{x:Int}(h:xs[k]?=some x):orL (xs.drop k)=if x≠0 then x else orL (xs.drop (k+1)):=by
  have:xs.drop k=x::xs.drop (k+1):=by
    rw[C3 (Az h)];rw[C9 (Az h)]at h;rw[R1 h]
  rw[this];rfl
theorem RF{h:World}{F:Nat->Prop}{v:Value}{xs:List Int}(b:Vb h F v xs):Calls prog 127 [v].toArray h λe w'=>e=.returned (.int .i64 (orL xs))/\w'=h:=by
  obtain⟨d,c1,rfl⟩:=b.form;have l1:xs.length<=9223372036854775807:=V6 b.len.2.1 b.len.2.2;refine Uw func127 rfl ntmps127 rfl ?_;refine Ck (BY (BB (Di rfl) (Ej ?_)));refine Ck (BY (BB (Di rfl) (Ej ?_)));refine Ck (Ck (BY (BB (Dh rfl) (BB (JR rfl) (BB (Dh rfl) (Ej ?_))))));refine Lh (Vx (λk=>[(3,.int .i64 0),(6,.slice d xs.length c1),(7,.int .i64 (xs.length:Int)),(8,.int .i64 (k:Int))]) (λk=>k<=xs.length/\orL xs=orL (xs.drop k)) xs.length 0 A5 ⟨W6 _,rfl⟩ λk hk=>⟨hk.1,?_⟩);obtain⟨f,k3⟩:=hk;refine Ck (BY (BB (CO rfl rfl) (Ej ?_)));refine Ck ?_;by_cases hlt:(k:Int)<(xs.length:Int)
  . rw[decide_eq_true hlt];refine JB rfl (JA ?_);obtain⟨x,hx⟩:∃x,xs[k]?=some x:=⟨xs[k],C9 (by omega)⟩;obtain⟨g,o1,ce1,hA1,hl1,hd1,rfl,r1⟩:=b.elem' hx;have a:=Vy hx;refine Ck (Lh ?_);refine Ck (BY (BB (HA rfl rfl hA1 rfl hl1) (BB (Cv rfl (cat0 hd1)) (BB (Di rfl) (Ej ?_)))));refine Ck (BY (BB (Dh rfl) (BB (Dh rfl) (BB (Ga rfl rfl) (Ej ?_)))));by_cases hc:x≠0
    . rw[decide_eq_true hc];rw[if_pos hc]at a;refine JB rfl (Ck (BY (BB (Dh rfl) (BB (Di rfl) (Ej ?_)))));refine Ij ?_;exact⟨_,Z1 rfl (AD rfl),by rw[k3,a],rfl⟩
    . rw[decide_eq_false hc];rw[if_neg hc]at a;refine IU rfl (JA ?_);refine BY (BB (LF rfl rfl (by omega)) (BB (Dh rfl) (Ej ?_)));exact⟨rfl,A5,by omega,by rw[k3,a]⟩
  . rw[decide_eq_false hlt];refine IU rfl (RC ?_);refine Ck (BY (BB (Dh rfl) (BB (Di rfl) (Ej ?_))));have c:k=xs.length:=(by omega);refine Ij ?_;exact⟨_,Z1 rfl (AD rfl),by rw[k3,c,Q0];rfl,rfl⟩
def encM(x:Fct):List Value:=[.int .i64 x.var,.int .i64 x.val]
def cfM(x y:Fct):Int:=orL [Lib.compareInt x.var y.var,Lib.compareInt x.val y.val]
theorem NA(a b:Int):X2 (Lib.compareInt a b):=by unfold Lib.compareInt X2;split<;>(try split)<;>omega
theorem AbA(x y:Fct)(u:World):Calls prog 185 #[.agg #[.int .i64 x.var,.int .i64 x.val],.agg #[.int .i64 y.var,.int .i64 y.val]] u λe w'=>e=.returned (.int .i64 (cfM x y))/\∃q c,w'=grow (u.drewN q) c:=by
  have h:=Kp (P:=prog) (f:=185) (vs:=[.agg #[.int .i64 x.var,.int .i64 x.val],.agg #[.int .i64 y.var,.int .i64 y.val]]) (w:=u) (R:=λv w'=>v=.int .i64 (cfM x y)/\∃q c,w'=grow (u.drewN q) c) func185 rfl ntmps185 rfl ?_
  . exact h.mono λe w' ⟨v,he,hv,hg⟩=>⟨by rw[he,hv],hg⟩
  refine Ck (BY (Nz rfl rfl (Nz rfl rfl (BB (Di rfl) (Ej ?_)))));have a:Blk ((u.alloc (.cells (encM x).toArray 67)).alloc (.cells (encM y).toArray 67)) u.heap.size 67 (encM x) :=
    (New.mk' u _ (encM x)).blk.keep ((New.mk' _ _ (encM y)).ext.block _ (New.mk' u _ (encM x)).blk.lt)
  have b:Blk ((u.alloc (.cells (encM x).toArray 67)).alloc (.cells (encM y).toArray 67)) (u.alloc (.cells (encM x).toArray 67)).heap.size 67 (encM y):=(New.mk' _ _ (encM y)).blk;generalize p:(u.alloc (.cells (encM x).toArray 67)).alloc (.cells (encM y).toArray 67)=W2 at a b;have m:(u.alloc (.cells (Value.agg #[.int .i64 x.var,.int .i64 x.val]).cells 67)).alloc (.cells (Value.agg #[.int .i64 y.var,.int .i64 y.val]).cells 67)=W2:=p;rw[m];generalize s:u.heap.size=b1 at a;generalize n:(u.alloc (.cells (encM x).toArray 67)).heap.size=b2 at b;have j:(u.alloc (.cells (Value.agg #[.int .i64 x.var,.int .i64 x.val]).cells 67)).heap.size=b2:=n;rw[j];refine Ck (RD (λw'=>Blk w' b1 67 (encM x)/\Blk w' b2 67 (encM y)) [(0,true),(1,true),(2,true),(3,true),(5,true),(6,true),(7,true),(8,true),(4,false),(9,false),(10,false),(11,false),(12,true)] rfl ⟨a,b⟩ ?_);refine GL rfl (λ_ _=>De rfl) ?_;refine GL rfl (λ_ g=>Cv rfl (g.1.cell (i:=0) rfl)) ?_;refine GL rfl (λ_ _=>De rfl) ?_;refine GL rfl (λ_ g=>Cv rfl (g.2.cell (i:=0) rfl)) ?_;refine GL rfl (λ_ _=>De rfl) ?_;refine GL rfl (λ_ g=>Cv rfl (g.1.cell (i:=1) rfl)) ?_;refine GL rfl (λ_ _=>De rfl) ?_;refine GL rfl (λ_ g=>Cv rfl (g.2.cell (i:=1) rfl)) ?_;refine HX rfl (JC rfl rfl (Z4 x.var y.var _) (IV ⟨λ_=>⟨a,b⟩,?_⟩));refine HX rfl (JC rfl rfl (Z4 x.val y.val _) (IV ⟨λ_=>⟨a,b⟩,?_⟩));have o:=New.mk' (dr W2 (W2.drawn+1)) 3 [.int .i64 (Lib.compareInt x.var y.var),.int .i64 (Lib.compareInt x.val y.val)];have k:=a.keep (o.ext.block b1 a.lt);have l:=b.keep (o.ext.block b2 b.lt);have t:Vb ((dr W2 (W2.drawn+1)).alloc (.cells [.int .i64 (Lib.compareInt x.var y.var),.int .i64 (Lib.compareInt x.val y.val)].toArray 3)) (λ_=>True) (.slice (some ⟨(dr W2 (W2.drawn+1)).heap.size,0,none⟩) 2 2) [Lib.compareInt x.var y.var,Lib.compareInt x.val y.val] :=
    Vb.made o ⟨[_],_,rfl,⟨rfl,NA _ _⟩,[_],_,rfl,⟨rfl,NA _ _⟩,rfl⟩ rfl trivial (by decide)
  refine HX rfl (Pr rfl rfl rfl (λv hv=>by simp at hv;rcases hv with rfl|rfl<;>rfl) rfl (IV ⟨λ_=>⟨k,l⟩,?_⟩));refine HX rfl (JC rfl rfl (RF t) (IV ⟨λ_=>⟨k,l⟩,?_⟩));refine GL rfl (λ_ _=>Di rfl) ?_;refine Tl ?_;refine Ij ?_;refine⟨_,Z1 rfl (AD rfl),rfl,1,#[.cells (encM x).toArray 67,.cells (encM y).toArray 67,.cells [.int .i64 (Lib.compareInt x.var y.var),.int .i64 (Lib.compareInt x.val y.val)].toArray 3],?_⟩;subst p;have hd:∀r d,dr (grow u r) d=grow (dr u d) r:=λ_ _=>rfl;rw[alloc_eq_grow,alloc_eq_grow,alloc_eq_grow,grow_grow,hd,grow_grow];rfl
end
section
open Go Go.RowKit Go.Lib Go.Sort
def ZP(x y:Fct):Prop:=x.var<y.var\/(x.var=y.var/\x.val<y.val)
instance(x y:Fct):Decidable (ZP x y):=by unfold ZP;infer_instance
theorem cmp3(a b:Int):(a<b/\Lib.compareInt a b=-1)\/(a=b/\Lib.compareInt a b=0)\/(b<a/\Lib.compareInt a b=1):=by
  unfold Lib.compareInt;by_cases h:a<b
  . simp[h]
  . by_cases c:b<a
    . simp[h,c]
    . right;left;simp[h,c];omega
theorem XP(a b:Int):orL [a,b]<0↔a<0\/(a=0/\b<0):=by
  simp only[orL];by_cases c:a=0
  . rw[if_neg (by simp[c])];by_cases d:b=0
    . rw[if_neg (by simp[d])];omega
    . rw[if_pos d];omega
  . rw[if_pos c];omega
theorem ltM(x y:Fct):ltOf cfM x y=decide (ZP x y):=by
  unfold ltOf cfM;rw[S5];simp only[decide_eq_true_eq];rw[XP];unfold ZP;have a:=cmp3 x.var y.var;have b:=cmp3 x.val y.val;omega
theorem Acf:SWO (ltOf cfM) where
  irrefl x:=by rw[ltM];simp[ZP]
  trans x y z h1 h2:=by rw[ltM]at *;simp only[decide_eq_true_eq]at *;unfold ZP at *;omega
  ntrans x y z h1 h2:=by rw[ltM]at *;simp only[decide_eq_false_iff_not]at *;unfold ZP at *;omega
theorem AbG(a off size:Nat)(w:World):CmpLays prog 185 #[] encM 2 cfM a off size w:=λ_ _ _ _ x y=>AbA x y _
def AW(xs:List Fct):List Fct:=(pdq (ltOf cfM) xs.toArray 0 xs.length (Lib.bitLen xs.length) true true).toList
theorem Tn(xs:List Fct):PermIn 0 xs.toArray.size xs.toArray (AW xs).toArray/\SortedIn (ltOf cfM) 0 xs.toArray.size (AW xs).toArray:=by
  have:=pdq_sorts (ltOf cfM) Acf xs.toArray 0 xs.toArray.size (Lib.bitLen xs.length) true true (W6 _) (W3 _) (Or.inl rfl);simpa[AW]using this
theorem JV(xs:List Fct):(AW xs).Perm xs:=by
  obtain⟨⟨a,_,hperm⟩,_⟩:=Tn xs;have b:(AW xs).toArray.extract 0 xs.toArray.size=(AW xs).toArray:=(by rw[<- a];exact L4);rw[b,L4]at hperm;simpa using hperm
theorem Eq(xs:List Fct):(AW xs).length=xs.length:=(JV xs).length_eq
theorem SG(xs:List Fct):(AW xs).Pairwise λx y=>¬ZP y x:=by
  obtain⟨_,hs⟩:=Tn xs;have hl:=Eq xs;rw[C5];intro i j hi hj a;have:=hs i j (W6 _) a (by simp;omega);rw[getElem!_pos _ j (by simpa using hj),getElem!_pos _ i (by simpa using hi),ltM]at this;simpa using this
theorem Abd:∀(xs:List Fct),(flatK encM 2 xs.toArray).toList=xs.flatMap encM:=λxs=>by
  apply M5;intro t;have d:∀(l:List Fct)(t:Nat),(l.flatMap encM)[t]?=(l[t/2]?).bind λx=>(encM x)[t%2]?:=by
    intro l
    induction l with
    |nil=>intro t;simp
    |cons x l f =>
      intro t;rw[M6]
      match t with
      |0=>rfl
      |1=>rfl
      |t+2 =>
        rw[B8 (by simp[encM]),show t+2-(encM x).length=t from by simp[encM],f];rw[show(t+2)/2=t/2+1 from by omega,show(t+2)%2=t%2 from by omega];simp
  rw[d];by_cases e:t<xs.length*2
  . have b:t/2<xs.length:=(by omega);have a:t<(flatK encM 2 xs.toArray).size:=(by simpa using e);rw[G0,C6 a,C9 b,P2];have:=get_flatK encM 2 xs.toArray t (by simpa using e);rw[getElem!_pos (flatK encM 2 xs.toArray) t a,getElem!_pos xs.toArray (t/2) (by simpa using b)]at this;rw[this];have c:t%2<(encM xs[t/2]).length:=(by simp[encM];omega);rw[C9 c,H4,getElem!_pos (encM xs[t/2]) (t%2) c]
  . have b:(flatK encM 2 xs.toArray).size<=t:=(by rw[size_flatK];simpa using(by omega:xs.length*2<=t));have c:xs[t/2]?=none:=F5 (by omega);rw[G0,E9 b,c];rfl
theorem Mg{w:World}{F:Nat->Prop}:∀{xs:List Fct}{cells:List Value},Chunks w F cells xs->cells=xs.flatMap encM/\∀x∈xs,X2 x.var/\X2 x.val
  |[],_,h=>⟨h,λ_ a=>by simp at a⟩
  |x::xs,cells,⟨cs,rest,he,hr,hc⟩=>by
    obtain⟨b,h2⟩:=Mg hc;obtain⟨c,h4⟩:=hr;refine⟨by rw[he,c,b];rfl,λy hy=>?_⟩;rcases T8.1 hy with rfl|hy
    . exact h4
    . exact h2 y hy
theorem Mh{w:World}{F:Nat->Prop}:∀{xs:List Fct},(∀x∈xs,X2 x.var/\X2 x.val)->Chunks w F (xs.flatMap encM) xs
  |[],_=>rfl
  |x::xs,h=>⟨encM x,xs.flatMap encM,rfl,⟨rfl,h x (by simp)⟩,Mh λy a=>h y (by simp[a])⟩
theorem DZ(xs:List Fct):(xs.flatMap encM).length=xs.length*2:=by rw[<- Abd,I8,size_flatK];simp
theorem NL{i:Nat}{w:World}{O:Lab}{v:Value}{xs:List Fct}(h:Rw i w O 67 v xs)(hl:xs.length<4611686018427387904) :
    Fn prog 100 [v,.func (.func 185) #[] #[]] w λ_ w'=>∃B,St (eT i) w O w' B/\Rw i w' B 67 v (AW xs):=by
  intro d;rcases K8 xs.length with h0|h0
  . have o:xs=[]:=B1 h0;subst o;obtain⟨p,c,rfl⟩:=h.form;have hs:AW []=[]:=B1 (Eq []);exact(Pu (α:=Fct) p c _ (dr w d)).mono λe w' ⟨he,hw⟩=>⟨_,w,d,he,hw,O,St.refl _ _ _,by rw[hs];exact h⟩
  . obtain⟨g,cap,cells,sp,rfl,hg,hFg,hb,hc,hlen,hnc,hcm,htot⟩:=h.1.open h0;obtain⟨rfl,hin⟩:=Mg hc;have q:=Abd xs;have C:HoldsK encM 2 (dr w d) g 0 xs.toArray:=λj hj=>by
      have r:j<xs.length*2:=(by simpa using hj);refine⟨?_,by rw[V0];exact hb.frozen j⟩;rw[V0];refine hb.cell ?_;rw[C2 (by rw[DZ];exact r),<- q,G0,C6 hj,getElem!_pos _ j hj];rfl
    have D:∀w,(isAgg 67).run prog w=.ok true w:=λw=>IG w;have E:∀w,(Go.sizeOf 67).run prog w=.ok 2 w:=λw=>DO w;have G:∀f w,(callFunc 185 f).run prog w=.ok (.enter 185 f) w:=enters_of func185 (by kernel_rfl) rfl;have b:=RE 2 D E encM (λ_=>rfl) (λx v hv=>by simp[encM]at hv;rcases hv with rfl|rfl<;>rfl) cfM Acf 185 #[] g 0 cap xs.toArray (dr w d) G (AbG g 0 _ _) C hb.lt (by simpa using hl);have H:xs.toArray.size=xs.length:=(by simp);rw[H]at b;refine b.mono λe w' ⟨he,n,os,hw⟩=>⟨_,w',w'.drawn,he,rfl,upO O w.heap.size (λ_=>0),?_,?_⟩
    . subst hw;refine⟨rfl,rfl,rfl,?_,λk hk s=>⟨?_,Fm hk⟩⟩
      . show w.heap.size<=((w.heap.modify g _)++os).size;simp
      . have t:g≠k:=λe=>s (by rw[<- e];exact h.2.1 g rfl);show((w.heap.modify g _)++os)[k]?=_;rw[B6 (by simpa using hk),F6,if_neg t]
    . have u:pdq (ltOf cfM) xs.toArray 0 xs.length (Lib.bitLen xs.length) true true=(AW xs).toArray:=(by simp[AW]);rw[u]at hw;have a:=Eq xs;have y:=Abd (AW xs);have l:Blk w' g 67 ((AW xs).flatMap encM++sp):=by
        subst hw;unfold Blk at hb ⊢;have z:g<w.heap.size:=Blk.lt hb;show((w.heap.modify g _)++os)[g]?=_;rw[B6 (by simpa using z),F6,if_pos rfl,hb];simp only[S0,Go.Sort.onCells];congr 2;apply Array.ext
        . simp only[Go.Sort.putCells,M7,M8,K4,DZ,a]
        . intro i K L;simp only[Go.Sort.putCells,H5,V0,V5,W6,true_and];have m:(flatK encM 2 (AW xs).toArray).size=xs.length*2:=(by rw[size_flatK];simp[a]);by_cases hi:i<xs.length*2
          . rw[if_pos (by rw[m];exact hi)];simp only[H4];rw[D6 (by rw[DZ,a];exact hi)];rw[getElem!_pos _ _ (by rw[m];exact hi)];have:=congrArg (·[i]?) y;simp only[G0]at this;rw[C6 (by rw[m];exact hi),C9 (by rw[DZ,a];exact hi)]at this;exact R1 this
          . rw[if_neg (by rw[m];exact hi)];simp only[H4];rw[C7 (by rw[DZ];omega),C7 (by rw[DZ,a];omega)];simp only[DZ,a]
      have I:∀k,Fr 0 w O k->Fr 0 w' (upO O w.heap.size λ_=>0) k:=λk hk=>⟨by subst hw;show k<((w.heap.modify g _)++os).size;have:=hk.1;simp;omega,(Fm hk.1).trans hk.2⟩;have:=Own.close (w:=w') (base:=0) (F:=Fr 0 w O) (cap:=cap) (W6 _) hFg l (Mh (F:=Fr 0 w O) (w:=w') λx o=>hin x ((JV xs).mem_iff.1 o)) (by rw[a];exact hnc) hcm (by rw[K4,DZ]at htot ⊢;rw[a];exact htot);rw[a]at this;exact this.rw I (λJ A=>by
        have:g=J:=(by simpa[Value.ownBlock]using A);subst this;exact(Fm hb.lt).trans (h.2.1 g rfl)) h.2.2
theorem Oc{α:Type}{R:α→α→Prop}:∀{a b:List α},a.Perm b→a.Pairwise R→b.Pairwise R→(∀x y,R x y→R y x→x=y)→a=b
  |[],b,h,_,_,_=>(List.nil_perm.1 h).symm
  |x::a,[],h,_,_,_=>by simp at h
  |x  :: a,y::b,h,ha,hb,hR=>by
    obtain⟨c,ha2⟩:=L5.1 ha;obtain⟨d,hb2⟩:=L5.1 hb;have hx:x∈y::b:=h.mem_iff.1 L0;have hy:y∈x::a:=h.mem_iff.2 L0;have e:x=y:=by
      rcases T8.1 hx with rfl|hx
      . rfl
      . rcases T8.1 hy with rfl|hy
        . rfl
        . exact hR x y (c y hy) (d x hx)
    subst e;rw[Oc ((List.perm_cons x).1 h) ha2 hb2 hR]
end
section
open Go Go.RowKit
attribute [local irreducible] ewp owp hwp hwq hws Ev Evg Fn X6 Y1 YZ YY
noncomputable def GQ(a:Int):Option Bool :=
  bnd (if a≠a then(some true)else(some false):Option Bool) λb=>some b
section
attribute [local irreducible] Vb Lc Rw Ob
theorem Li{w:World}{A:Nat->Prop}(hA:∀k,A k->k<w.heap.size){b:Int}(e:X2 b){r:Bool}(hm:GQ b=some r) :
    Fn prog 140 [(.int .i64 b)] w λv w'=>Ext w w'/\Vb w' (upA A w w') v r:=by
 obtain⟨_,_,_⟩:=BS hA;refine AC func140 rfl ntmps140 ?_;unfold GQ at hm;refine Ak (Am (Ay rfl (o_z (Ak (Cu (X:=Unit) hm [] [] [] [] (λ_ _ c _ t=>(2,.bool c)::t) (λ_ _ _ _ t=>t) ?_ ?_)))))
 ·intro c a;refine zz ?_;refine HM rfl rfl (λd=>?_) λd=>?_
  ·replace a:=ip a d;refine zz ?_;obtain rfl:=sm a;exact AP ()
  replace a:=im a d;refine zz ?_;obtain rfl:=sm a;exact AP ()
 intro c _ _ _ _ hm;intros;refine Ba ?_;refine AV ?_;obtain rfl:=sm hm;exact By
end
noncomputable def Fo(b:Int)(c:Int):Option Int :=
  bnd (bnd (GQ b) λe=>if e=true then some true else some false:Option Bool) λf=>bnd (bnd (GQ c) λd=>if d=true then some true else some false:Option Bool) λa=>if f=true then(if a=true then(some 0)else(some (-1)))else(if a=true then(some 1)else(if b<c then(some (-1))else(if c<b then(some 1)else(some 0))))
section
attribute [local irreducible] Vb Lc Rw Ob
theorem Kg{w:World}{A:Nat->Prop}(hA:∀k,A k->k<w.heap.size){c:Int}(m:X2 c){d:Int}(n:X2 d){r:Int}(hm:Fo c d=some r) :
    Fn prog 102 [(.int .i64 c),(.int .i64 d)] w λv w'=>Ext w w'/\Vb w' (upA A w w') v r:=by
 obtain⟨_,_,_⟩:=BS hA;refine AC func102 rfl ntmps102 ?_;unfold Fo at hm;refine Ak (Am (Ay rfl (o_z (Ak (Cu (X:=Unit) hm [0,1] [] [] [] (λ_ _ e _ t=>(5,.bool e)::t) (λ_ _ _ _ t=>t) ?_ ?_)))))
 ·intro e a;refine zz ?_;obtain⟨o,e9,a⟩:=bs a;refine CJ rfl (Li (λ_ h=>h) zI e9) ?_;intros;cases o
  case false =>
   replace a:=iF a;refine zz ?_;obtain rfl:=sm a;exact AP ()
  replace a:=iT a;refine zz ?_;obtain rfl:=sm a;exact AP ()
 intro e _ _ _ _ hm;intros;refine Ba ?_;refine Ak (Cu (X:=Unit) hm [0,1,5] [] [] [] (λ_ _ c0 _ t=>(6,.bool c0)::t) (λ_ _ _ _ t=>t) ?_ ?_)
 ·intro c0 b;refine zz ?_;obtain⟨p,j0,b⟩:=bs b;refine CJ rfl (Li (λ_ h=>h) zI j0) ?_;intros;cases p
  case false =>
   replace b:=iF b;refine zz ?_;obtain rfl:=sm b;exact AP ()
  replace b:=iT b;refine zz ?_;obtain rfl:=sm b;exact AP ()
 intro c0 _ _ _ _ hm;intros;refine Ba ?_;refine zz ?_;refine Bg rfl (λf=>?_) (λf=>?_)
 ·replace hm:=ip hm f;refine zz ?_;refine Bg rfl (λg=>?_) (λg=>?_)
  ·replace hm:=ip hm g;refine zz ?_;obtain rfl:=sm hm;exact By
  replace hm:=im' hm g;refine zz ?_;obtain rfl:=sm hm;exact By
 replace hm:=im' hm f;refine zz ?_;refine Bg rfl (λi=>?_) (λi=>?_)
 ·replace hm:=ip hm i;refine zz ?_;obtain rfl:=sm hm;exact By
 replace hm:=im' hm i;refine zz ?_;refine CL rfl rfl (λj=>?_) λj=>?_
 ·replace hm:=ip hm j;refine zz ?_;obtain rfl:=sm hm;exact By
 replace hm:=im hm j;refine zz ?_;refine Dc rfl rfl (λl=>?_) λl=>?_
 ·replace hm:=ip hm l;refine zz ?_;obtain rfl:=sm hm;exact By
 replace hm:=im hm l;refine zz ?_;obtain rfl:=sm hm;exact By
end
end
section
open Go Go.RowKit
class TMap(P:Program)(t:TypeId)(k e:outParam TypeId):Prop where eq:P.underlying t=some (.map k e)
class MKey(K:Type) where
  dec:DecidableEq K
  enc:K->Value
  desc:TypeDesc
  key:∀a,MapKept.IsKey desc (enc a)
  inj:∀a b,enc a=enc b->a=b
class TKey(P:Program)(t:TypeId)(K:Type)[MKey K]:Prop where eq:P.underlying t=some (MKey.desc K)
instance:MKey Int where
  dec:=inferInstance
  enc a:=.int .i64 a
  desc:=.int .i64
  key _:=rfl
  inj _ _ h:=by injection h
instance:MKey ByteArray where
  dec:=inferInstance
  enc a:=.string a
  desc:=.string
  key _:=trivial
  inj _ _ h:=by injection h
section
variable {K V:Type}[MKey K]
instance keyDec:DecidableEq K:=MKey.dec
def mhas:List (K×V)->K->Bool
  |[],_=>false
  |p::r,k=>if p.1=k then true else mhas r k
def Aat(z:V):List (K×V)->K->V
  |[],_=>z
  |p::r,k=>if p.1=k then p.2 else Aat z r k
def Z7:List (K×V)->K->V->List (K×V)
  |[],k,v=>[(k,v)]
  |p::r,k,v=>if p.1=k then(k,v)::r else p::Z7 r k v
def Aah:List (K×V)->K->Option Nat
  |[],_=>none
  |p::r,k=>if p.1=k then some 0 else(Aah r k).map (· + 1)
theorem JW(a:K):∀(c:List MapEntry)(x:List (K×V))(i:Nat),c.map (·.key)=x.map (λp=>MKey.enc p.1) →
    (Aah x a=none/\Instr.findNow (MKey.desc K) (MKey.enc a) c i=some none/\mhas x a=false/\(∀z,Aat z x a=z)/\∀v,Z7 x a v=x++[(a,v)]) \/
    ∃j e p,Aah x a=some j/\c[j]?=some e/\x[j]?=some p/\Instr.findNow (MKey.desc K) (MKey.enc a) c i=some (some (i+j,e.val))/\e.key=MKey.enc a/\mhas x a=true/\(∀z,Aat z x a=p.2)/\∀v,Z7 x a v=x.set j (a,v)
  |[],[],_,_=>.inl ⟨rfl,rfl,rfl,λ_=>rfl,λ_=>rfl⟩
  |[],_::_,_,h=>by simp at h
  |_::_,[],_,h=>by simp at h
  |e  :: c,p::x,i,h=>by
    rw[T7,T7]at h;injection h with d g;obtain⟨r,hr,hiff⟩:=MapKept.sameNow_of_keys (MKey.key a) (MKey.key p.1);by_cases b:p.1=a
    . have:r=true:=hiff.2 (by rw[b]);subst this;refine .inr ⟨0,e,p,by simp[Aah,b],rfl,rfl,?_,by rw[d,b],by simp[mhas,b],λz=>by simp[Aat,b],λv=>by simp[Z7,b]⟩;simp[Instr.findNow,d,hr]
    . have:r=false:=by
        cases r with
        |false=>rfl
        |true=>exact absurd (MKey.inj _ _ (hiff.1 rfl)).symm b
      subst this;rcases JW a c x (i+1) g with⟨f,g1,g2,g3,g4⟩|⟨j,e',p',f,g1,g2,g3,g4,g5,g6,g7⟩
      . exact .inl ⟨by simp[Aah,b,f],by simp[Instr.findNow,d,hr,g1],by simp[mhas,b,g2],λz=>by simp[Aat,b,g3],λv=>by simp[Z7,b,g4]⟩
      . refine .inr ⟨j+1,e',p',by simp[Aah,b,f],by simpa using g1,by simpa using g2,?_,g4,by simp[mhas,b,g5],λz=>by simp[Aat,b,g6],λv=>by simp[Z7,b,g7]⟩;simp[Instr.findNow,d,hr,g3];omega
end
def LkV(d:TypeDesc)(z:Value)(w:World)(r:Nat)(c v:Value)(b:Bool):Prop:=∃e ck a,w.heap[r]?=some (.map e ck)/\Instr.findNow d c e.toList 0=some a/\v=(match a with|some p=>p.2|none=>z)/\b=a.isSome
section
variable {P:Program}{l:Env}{w:World}{dst:Option Tmp}{ty:TypeId}{pos:String}{aft:Array Edge}
theorem XQ{K:Type}[MKey K]{t k e:TypeId}[f:TMap P t k e][hk:TKey P k K]{z:Value}{size bytes:Nat}[TInfo P e z size bytes]{x y:Operand}{r:Nat}{a:K}{v:Value}{b:Bool}(g:opv l x=some (.map (some r)))(h:opv l y=some (MKey.enc a))(hv:LkV (MKey.desc K) z w r (MKey.enc a) v b) :
    Ev P ⟨dst,.lookup t x y true,ty,pos,aft,none⟩ l w (.tuple #[v,.bool b]):=λ_ _ d c=>by
  obtain⟨i,ck,q,h1,h2,h3,h4⟩:=hv;have hb:(dr w d).heap[r]?=some (.map i ck):=h1;subst h3;subst h4;cases q with
  |none=>simp[execOp,c.eval g,c.eval h,Instr.lookup,run_underlying f.eq,F1 hb,H6 hk.eq (MKey.key a),I9 hk.eq h2,Result.andThen,HR (P:=P) (t:=e)]
  |some p=>simp[execOp,c.eval g,c.eval h,Instr.lookup,run_underlying f.eq,F1 hb,H6 hk.eq (MKey.key a),I9 hk.eq h2,Result.andThen]
end
def Zv(a:List MapEntry)(ck:Nat)(key v:Value):Option Nat->List MapEntry
  |none=>a++[{ key:=key,val:=v,born:=ck }]
  |some j=>a.modify j λe=>{ e with key:=key,val:=v }
section
variable {P:Program}{n:Nat}{ops:Array Oper}{Q:YX}{rest:List Oper}{l:Env}{w:World}{d:Tmp}{ty:TypeId}{pos:String}{aft:Array Edge}
theorem Vz{K V:Type}[MKey K]{t k e:TypeId}[z:TMap P t k e][hk:TKey P k K]{x y u:Operand}{r ck:Nat}{a:K}{v:Value}{b:List MapEntry}{xs:List (K×V)}(hb:w.heap[r]?=some (.map b.toArray ck))(m:b.map (·.key)=xs.map (λp=>MKey.enc p.1))(A:opv l x=some (.map (some r)))(B:opv l y=some (MKey.enc a))(hu:opv l u=some v)
    (h:∀w' g,(ck<=g/\(Aah xs a=none->ck<g))->w'.os=w.os->w'.tape=w.tape->w'.output=w.output->w'.heap.size=w.heap.size->w'.heap[r]?=some (.map (Zv b ck (MKey.enc a) v (Aah xs a)).toArray g)->(∀q,q≠r->w'.heap[q]?=w.heap[q]?)->owp P n ops Q rest l w'):owp P n ops Q (⟨none,.mapUpdate t x y u,ty,pos,aft,none⟩::rest) l w:=λC d f=>by
  refine wpList_plain rfl λE D=>?_;have c:(dr w d).heap[r]?=some (.map b.toArray ck):=hb;unfold Oper.wp;rcases JW a b xs 0 m with⟨i,g1,_⟩|⟨j,e',p,i,g1,g2,g3,g4,_⟩
  . have hr:(execOp C.eval ⟨none,.mapUpdate t x y u,ty,pos,aft,none⟩).run P (dr w d)=.ok .skip { (dr w d)with heap:=(dr w d).heap.setIfInBounds r (.map (b.toArray.push { key:=MKey.enc a,val:=v,born:=ck }) (ck+1)) }:=by
      simp[execOp,f.eval A,f.eval B,f.eval hu,Instr.mapUpdate,run_underlying z.eq,F1 c,H6 hk.eq (MKey.key a),I9 hk.eq g1,MapKept.run_setObj_map _ c,Result.andThen]
    rw[hr];refine D _ _ (h { w with heap:=w.heap.setIfInBounds r (.map (b.toArray.push { key:=MKey.enc a,val:=v,born:=ck }) (ck+1)) } (ck+1) ⟨by omega,λ_=>by omega⟩ rfl rfl rfl (by simp) ?_ (λq o=>(Q5 hb).2 q o) _ d f);rw[i];simpa[Zv]using(Q5 hb).1
  . have hj:b.toArray[j]?=some e':=(by simpa using g1);have s:b[j]?=some e':=g1;rw[V0]at g3;have hr:(execOp C.eval ⟨none,.mapUpdate t x y u,ty,pos,aft,none⟩).run P (dr w d)=.ok .skip { (dr w d)with heap:=(dr w d).heap.setIfInBounds r (.map (b.toArray.modify j λe=>{ e with key:=MKey.enc a,val:=v }) ck) }:=by
      simp[execOp,f.eval A,f.eval B,f.eval hu,Instr.mapUpdate,run_underlying z.eq,F1 c,H6 hk.eq (MKey.key a),I9 hk.eq g3,s,g4,MapKept.run_keyThatStays (MKey.key a),MapKept.run_setObj_map _ c,Result.andThen]
    rw[hr];refine D _ _ (h { w with heap:=w.heap.setIfInBounds r (.map (b.toArray.modify j λe=>{ e with key:=MKey.enc a,val:=v }) ck) } ck ⟨W3 _,λe=>by rw[i]at e;cases e⟩ rfl rfl rfl (by simp) ?_ (λq o=>(Q5 hb).2 q o) _ d f);rw[i];have:=(Q5 (o':=.map (b.toArray.modify j λe=>{ e with key:=MKey.enc a,val:=v }) ck) hb).1;simpa[Zv]using this
theorem Ux{t:TypeId}(hd:Nat.blt d n=true)(h:∀w',Ext w w'->w'.heap.size=w.heap.size+1->w'.heap[w.heap.size]?=some (.map #[] 0)->owp P n ops Q rest ((d,.map (some w.heap.size))::l) w'):owp P n ops Q (⟨some d,.makeMap t none,ty,pos,aft,none⟩::rest) l w :=
  Jt (w':=w.alloc (.map #[] 0)) (λa e b=>.inl ⟨.map (some w.heap.size),e,by simp[execOp,Instr.makeMap];exact⟨rfl,rfl⟩,b.put hd _⟩)
    (h _ ((W8 _ _).alloc (W3 _) _) (by simp) (by show(w.heap.push _)[_]?=_;simp))
end
theorem TP{K V:Type}[MKey K]{b:List MapEntry}{xs:List (K×V)}(ck:Nat)(a:K)(v:Value)(y:V)(h:b.map (·.key)=xs.map (λp=>MKey.enc p.1)):(Zv b ck (MKey.enc a) v (Aah xs a)).map (·.key)=(Z7 xs a y).map (λp=>MKey.enc p.1):=by
  rcases JW a b xs 0 h with⟨c,_,_,_,g4⟩|⟨j,e',p,c,g1,g2,g3,g4,_,_,g7⟩
  . rw[c,g4];simp[Zv,h]
  . rw[c,g7];simp only[Zv,List.map_set,<- h];apply M5;intro q;rw[M9,List.getElem?_modify,N0];by_cases d:j=q
    . subst d;have hlt:j<b.length:=Az g1;simp[g1,hlt]
    . simp[d]
structure MapP(K V:Type) where
  l:List (K×V)
def VA{V:Type}[Rp V](w:World)(F:Nat->Prop)(a:List MapEntry){K:Type}(xs:List (K×V)):Prop:=∀(j:Nat)(e:MapEntry)(p:K×V),a[j]?=some e->xs[j]?=some p->Vb w F e.val p.2
instance{K V:Type}[MKey K][Rp V]:Ow (MapP K V) where
  R w F g v x:=∃(r:Nat) (a:List MapEntry) (ck:Nat),v=.map (some r)/\w.heap[r]?=some (.map a.toArray ck)/\g r/\a.map (·.key)=x.l.map (λp=>MKey.enc p.1)/\VA w F a x.l
  agree:=by rintro w w' F g v x ⟨r,a,ck,rfl,hb,hM,hk,hv⟩ a1 a2;exact⟨r,a,ck,rfl,(a2 r hM).trans hb,hM,hk,λj e p b c=>(hv j e p b c).agree a1⟩
  mono:=by rintro w F g d f v x ⟨r,a,ck,rfl,hb,hM,hk,hv⟩ a1 a2 a3;exact⟨r,a,ck,rfl,hb,a2 r hM,hk,λj e p b c=>(hv j e p b c).mono a1⟩
class OwM(α:Type)[Ow α]:Prop where
  mptr:∀{w:World}{F M:Nat->Prop}{v:Value}{x:α},Ow.R w F M v x->∃r,v=.map (some r)
theorem Ob.mptr{α:Type}[Ow α][OwM α]{i:Nat}{w:World}{O:Lab}{v:Value}{x:α}(h:Ob i w O v x):∃r,v=.map (some r):=OwM.mptr h.1
instance{K V:Type}[MKey K][Rp V]:OwM (MapP K V):=⟨by rintro w F a v x ⟨r,es,ck,rfl,_⟩;exact⟨r,rfl⟩⟩
theorem VA.put{K V:Type}[MKey K][Rp V]{w:World}{F:Nat→Prop}{d:List MapEntry}{xs:List (K×V)}{ck:Nat}{a:K}{v:Value}{y:V}(hk:d.map (·.key)=xs.map (λp=>MKey.enc p.1))(h:VA w F d xs)(hv:Vb w F v y):VA w F (Zv d ck (MKey.enc a) v (Aah xs a)) (Z7 xs a y):=by
  have i:d.length=xs.length:=(by have:=congrArg List.length hk;simpa using this);intro q e p b c;rcases JW a d xs 0 hk with⟨g,_,_,_,g4⟩|⟨j,e',p',g,g1,g2,g3,g4,_,_,g7⟩
  . rw[g]at b;rw[g4]at c;simp only[Zv]at b;by_cases f:q<d.length
    . rw[C2 f]at b;rw[C2 (by omega)]at c;exact h q e p b c
    . rw[B8 (by omega)]at b;rw[B8 (by omega)]at c;cases hz:q-d.length with
      |zero =>
        rw[hz]at b;rw[show q-xs.length=0 from by omega]at c;simp at b c;subst b;subst c;exact hv
      |succ m=>rw[hz]at b;simp at b
  . rw[g]at b;rw[g7]at c;simp only[Zv]at b;rw[List.getElem?_modify]at b;rw[N0]at c;by_cases f:j=q
    . subst f;have hlt:=Az g2;rw[g1]at b;simp[hlt]at b c;subst b;subst c;exact hv
    . simp[f]at b c;exact h q e p b c
section
variable {K V:Type}[MKey K][Rp V]{i:Nat}{w:World}{O:Lab}{r:Nat}{x:MapP K V}
theorem MapP.get(h:Ob i w O (.map (some r)) x)(a:K){z:Value}{z0:V}(hz:Vb w (Fr 0 w O) z z0):∃v,LkV (MKey.desc K) z w r (MKey.enc a) v (mhas x.l a)/\Vb w (Fr 0 w O) v (Aat z0 x.l a):=by
  obtain⟨⟨r',b,ck,hv,hb,hM,hk,hva⟩,_⟩:=h;injection hv with hv;injection hv with hv;subst hv;rcases JW a b x.l 0 hk with⟨c,g1,g2,g3,g4⟩|⟨j,e',p,c,g1,g2,g3,g4,g5,g6,g7⟩
  . exact⟨z,⟨_,ck,none,hb,by simpa using g1,rfl,g2⟩,by rw[g3];exact hz⟩
  . exact⟨e'.val,⟨_,ck,some (0+j,e'.val),hb,by simpa using g3,rfl,g5⟩,by rw[g6];exact hva j e' p g1 g2⟩
end
section
variable {P:Program}{n:Nat}{ops:Array Oper}{Q:YX}{rest:List Oper}{l:Env}{w:World}{d:Tmp}{ty:TypeId}{pos:String}{aft:Array Edge}{K V:Type}[MKey K]{i:Nat}{O:Lab}{r:Nat}
theorem XR[Rp V]{x:MapP K V}{t k e:TypeId}[TMap P t k e][TKey P k K]{m y u:Operand}{a:K}{v:Value}{b:V}(o:Ob i w O (.map (some r)) x)(hv:Vb w (Fr 0 w O) v b)(s:opv l m=some (.map (some r)))(z:opv l y=some (MKey.enc a))(hu:opv l u=some v)
    (h:∀w',St (eT i) w O w' O->Ob i w' O (.map (some r)) (⟨Z7 x.l a b⟩:MapP K V)->owp P n ops Q rest l w'):owp P n ops Q (⟨none,.mapUpdate t m y u,ty,pos,aft,none⟩::rest) l w:=by
  obtain⟨⟨r',es,ck,c,hb,hM',hk,hva⟩,hi⟩:=o;injection c with c;injection c with c;subst c;refine Vz hb hk s z hu λw' d _ A B C D E F=>?_;have f:St (eT i) w O w' O:=⟨A,B,C,by omega,λq J G=>⟨F q λe=>G (by rw[e];exact hM'.2),rfl⟩⟩;have g:¬(eT i) 0:=λe=>hi e.symm;refine h w' f ⟨⟨r,_,d,rfl,E,⟨by rw[D];exact hM'.1,hM'.2⟩,TP ck a v b hk,?_⟩,hi⟩;have:=hva.put (ck:=ck) hk hv (a:=a);exact λj e p H I=>((this j e p H I).agree (f.agree g)).mono (f.fr g)
theorem WL[Rp V]{t:TypeId}(i:Nat)(hi:i≠0)(O:Lab)(hd:Nat.blt d n=true)(h:∀g w' a,St nT w O w' a->Ob i w' a (.map (some g)) (⟨[]⟩:MapP K V)->owp P n ops Q rest ((d,.map (some g))::l) w'):owp P n ops Q (⟨some d,.makeMap t none,ty,pos,aft,none⟩::rest) l w :=
  Ux hd λw' b hs hb=>h _ w' _ (b.st O λ_=>i) ⟨⟨w.heap.size,[],0,rfl,hb,⟨by omega,Hi (W3 _)⟩,rfl,λj e p c _=>by simp at c⟩,hi⟩
end
section
variable {P:Program}{n:Nat}{ops:Array Oper}{Q:YX}{rest:List Oper}{l:Env}{w:World}{d:Tmp}{ty:TypeId}{pos:String}{aft:Array Edge}{S:World → Prop}{rr:List (Nat × Bool)}{i':Nat}
theorem YG{K:Type}[MKey K]{t k e:TypeId}[TMap P t k e][TKey P k K]{z:Value}{size bytes:Nat}[TInfo P e z size bytes]{x y:Operand}{r:Nat}{v:Value}{b:Bool}(a:K)(hv:LkV (MKey.desc K) z w r (MKey.enc a) v b)(c:opv l x=some (.map (some r)))(f:opv l y=some (MKey.enc a))(hd:Nat.blt d n=true)(h:owp P n ops Q rest ((d,.tuple #[v,.bool b])::l) w):owp P n ops Q (⟨some d,.lookup t x y true,ty,pos,aft,none⟩::rest) l w:=AX (XQ c f hv) hd h
end
end
section
open Go Go.RowKit
attribute [local irreducible] ewp owp hwp hwq hws Ev Evg Fn X6 Y1 YZ YY
attribute [local irreducible] hwx Y6
instance:TMap prog 128 9 3:=⟨underlying128⟩
instance:TKey prog 9 ByteArray:=⟨underlying9⟩
instance:TMap prog 158 3 4:=⟨underlying158⟩
instance:TKey prog 3 Int:=⟨underlying3⟩
noncomputable def Dn(h:List Int):Option (List Int) :=
  bnd (X7 ((h.length:Int)-1)) λi=>bnd (lop (ρ:=(List Int)) (λ(a:(List Int)×Int×Int)=>if a.2.1<a.2.2 then(bnd (atI a.1 a.2.2) λb=>bnd (atI a.1 a.2.1) λd=>bnd (atI a.1 a.2.1) λj=>bnd (atI (a.1.set (a.2.1:Int).toNat b) a.2.2) λk=>bnd (X7 (a.2.1+1)) λe=>bnd (X7 (a.2.2-1)) λf=>some (.next (((a.1.set (a.2.1:Int).toNat b).set (a.2.2:Int).toNat d),e,f)))else(some (.brk (a.1,a.2.1,a.2.2)))) (h,0,i)) λc=>fin c λ(g:(List Int)×Int×Int)=>some g.1
theorem Kq{w:World}{O:Lab}{e:Option Addr}{m c0 n:Nat}{f:List Int}(o:Rw n w O 3 (.slice e m c0) f){r:(List Int)}(hm:Dn f=some r) :
    Fn prog 94 [(.slice e m c0)] w λv w'=>∃d,St (eT n) w O w' d/\Rw n w' d 3 (.slice e m c0) r:=by
 obtain⟨k,hE,f1,g1⟩:=ZB (w:=w) (O:=O) o.2.2;obtain rfl:m=f.length:=o.len.1;have l:=Rw.leave o f1 g1 (j:=2) (by decide);have g:Bm w k w k:=Bm.refl;refine AC func94 rfl ntmps94 ?_;unfold Dn at hm;refine zz ?_;have t:=Bo l.len;have J:=rngNat t;obtain⟨K,e5,hm⟩:=bs hm;have u:=(Bx e5);refine Gb (he:=e5) rfl rfl (Ay rfl (Ay rfl (o_z ?_)));obtain⟨x,h1,hm⟩:=bs hm;refine AZ (aft x (λ(b:(List Int)×Int×Int)(p:Unit)=>[(0,(.slice e f.length c0))]) (λb p w'=>∃d:Lab,Bm w k w' d/\Rw 2 w' d 3 (.slice e f.length c0) b.1/\X2 b.2.1/\X2 b.2.2)) ?_ ?_
 ·refine BK (Gy (σ:=(List Int)×Int×Int) (X:=Unit) h1 (λ(b:(List Int)×Int×Int)(p:Unit)=>[(0,(.slice e f.length c0)),(2,(.int .i64 b.2.1)),(3,(.int .i64 b.2.2))]) _ (λb p w'=>∃d:Lab,Bm w k w' d/\Rw 2 w' d 3 (.slice e f.length c0) b.1/\X2 b.2.1/\X2 b.2.2) _ () ⟨k,g,l,(X9 0),u⟩ Af ?_);rintro b p L M ⟨y,g,c,y0,z0⟩ a0 k0 e0;refine zz ?_;refine CL rfl rfl (λl0=>?_) λl0=>?_
  ·replace a0:=ip a0 l0;refine zz ?_;refine BK ?_;refine BR [(13,[2])] y ?_;refine AJ (fuel:=5) [] (Bc [0,1,4,5,6,7,8,9,10,11,12]) rfl (AI rfl rfl (AI rfl rfl (AI rfl rfl (AI rfl rfl ?_))));obtain⟨z,l1,a0⟩:=bs a0;obtain⟨A,n1⟩:=BJ l1;obtain⟨N,m2,o1,n0,o0,p0,q0,rfl,p1⟩:=c.elemF n1;refine CB (hA:=n0) (hj:=A) (hlt:=p0) rfl rfl rfl (Bl (hc:=Kd o0 q0) rfl rfl (AI rfl rfl (AI rfl rfl ?_)));obtain⟨B,r1,a0⟩:=bs a0;obtain⟨C,t1⟩:=BJ r1;obtain⟨P,o2,u1,r0,s0,t0,u0,rfl,v1⟩:=c.elemF t1;refine CB (hA:=r0) (hj:=C) (hlt:=t0) rfl rfl rfl (Bl (hc:=Kd s0 u0) rfl rfl ?_);obtain⟨Q,w1,a0⟩:=bs a0;obtain⟨D,a1⟩:=BJ w1;obtain⟨R,s2,y1,f0,z1,v0,a2,rfl,t2⟩:=c.elemF a1;refine CB (hA:=f0) (hj:=D) (hlt:=v0) rfl rfl rfl (AB ?_);refine AJ (fuel:=3) [2] (Bc [2,3]) rfl (AI rfl rfl (AI rfl rfl (AB (AH (i:=13) rfl ?_))));refine FS rfl c (a:=z) (vInt p1) f0 rfl rfl (Az a1) λS s c=>?_;have E:=s.lst [2] (λ_ h=>by cases h;decide);refine BE [] E ?_;refine AJ (fuel:=1) [] [(14,true)] rfl ?_;obtain⟨T,b2,a0⟩:=bs a0;obtain⟨F,c1⟩:=BJ b2;obtain⟨U,x2,d2,g0,e2,w0,f2,rfl,y2⟩:=c.elemF c1;refine CB (hA:=g0) (hj:=F) (hlt:=w0) rfl rfl rfl (AB (AH (i:=15) rfl ?_));refine FS rfl c (a:=B) (vInt v1) g0 rfl rfl (Az c1) λV G c=>?_;refine Cs (Bh (Am (Aw rfl ?_)));obtain⟨W,d1,a0⟩:=bs a0;have H:=(Bx d1);refine Fw (he:=d1) rfl rfl (Aw rfl ?_);obtain⟨Y,e1,a0⟩:=bs a0;have I:=(Bx e1);refine Gb (he:=e1) rfl rfl (Ay rfl (Ay rfl (o_z ?_)));obtain rfl:=sm a0;exact show Exists _ from⟨_,(),rfl,Af,_,(g.st s).st G,c,H,I⟩
  replace a0:=im a0 l0;refine o_z (Ae rfl (Cn ?_));obtain rfl:=sm a0;exact show Exists _ from⟨_,(),e0 _ rfl,Ad,_,g,c,y0,z0⟩
 rintro Z d3 ⟨e3,f3,rfl,j2,g3,g,c,y0,z0⟩;replace hm:=AS hm;obtain rfl:=sm hm;obtain⟨d,hS',hz,hl⟩:=hE.leave (λq=>if q=2 then n else 0) rfl g;exact ZN rfl  ⟨d,hS',(Rw.leave c hz (hl 2 (by decide) (by decide)) o.2.2)⟩
end
section
open Go Go.RowKit
def bw(a:Int):Byt:=⟨a%256,by omega,by omega⟩
theorem WM(a:Int):IntKind.u8.wrap a=(bw a).n:=by
  unfold bw;simp[IntKind.wrap,IntKind.bits,IntKind.signed]
def Aax(xs:List Byt):ByteArray:=⟨(xs.map λb=>UInt8.ofNat b.n.toNat).toArray⟩
theorem Uy(xs:List Byt):(Aax xs).size=xs.length:=by simp[Aax,ByteArray.size]
section
variable {P:Program}{l:Env}{w:World}{dst:Option Tmp}{ty:TypeId}{pos:String}{aft:Array Edge}
theorem YH{s t:TypeId}{k:IntKind}[hs:TInt P s k][b:TInt P t .u8]{x:Operand}{a:Int}(c:opv l x=some (.int k a)):Ev P ⟨dst,.convert s t x,ty,pos,aft,none⟩ l w (.int .u8 (bw a).n):=λ_ _ d e=>by
  simp[execOp,e.eval c,convert,run_underlying hs.eq,run_underlying b.eq,Conv.intToInt,WM]
theorem Px{F:Nat->Prop}:∀{xs:List Byt}{cells:List Value},Chunks w F cells xs->cells=xs.map λb=>.int .u8 b.n
  |[],_,h=>h
  |x::xs,_,⟨cs,rest,he,hr,hc⟩=>by
    have a:cs=[.int .u8 x.n]:=hr;rw[he,a,Px hc];rfl
theorem Uz(xs:List Byt):∀(d:Array UInt8),xs.foldl (λs b=>s.push (UInt8.ofNat b.n.toNat)) (⟨d⟩:ByteArray)=⟨d++(xs.map λb=>UInt8.ofNat b.n.toNat).toArray⟩:=by
  induction xs with
  |nil=>intro d;simp
  |cons x xs a =>
    intro d;rw[Q9];have:=a (d.push (UInt8.ofNat x.n.toNat));show List.foldl _ (⟨d.push (UInt8.ofNat x.n.toNat)⟩:ByteArray) xs=_;rw[this];congr 1;apply P5.1;simp
theorem UA(xs:List Byt):xs.foldl (λs b=>s.push (UInt8.ofNat b.n.toNat)) ByteArray.empty=Aax xs:=by
  have:=Uz xs #[];show List.foldl _ (⟨#[]⟩:ByteArray) xs=_;rw[this];unfold Aax;congr 1;apply P5.1;simp
theorem YI{s t e:TypeId}[hs:TSlice P s e][he:TInt P e .u8][a:TStr P t]{x:Operand}{v:Value}{F:Nat->Prop}{xs:List Byt}(f:opv l x=some v)(hv:Vb w F v xs):Ev P ⟨dst,.convert s t x,ty,pos,aft,none⟩ l w (.string (Aax xs)):=λ_ _ d g=>by
  obtain⟨A,c,cells,rfl,h1,h2,h3,h4⟩:=hv.slice;have hc:=Px h3;subst hc;cases A with
  |none =>
    have i:xs=[]:=by
      by_cases h:0<xs.length
      . obtain⟨b,o,hb,_⟩:=h4 h;cases hb
      . exact B1 (by omega)
    subst i;simp[execOp,g.eval f,convert,run_underlying hs.eq,run_underlying he.eq,run_underlying a.eq,Conv.bytesToString];rfl
  |some k =>
    by_cases h:0<xs.length
    . obtain⟨b,o,hb,_,hcell⟩:=h4 h;obtain rfl:=R1 hb;have:=Ha (P:=P) (dr w d) b o (xs.map λb=>Value.int .u8 b.n) 0 #[] (λj v hv=>by rw[V0];exact DG hcell j v hv);rw[R9]at this;simp[execOp,g.eval f,convert,run_underlying hs.eq,run_underlying he.eq,run_underlying a.eq,Conv.bytesToString,loadCells,this,UA]
    . have i:xs=[]:=B1 (by omega);subst i;simp[execOp,g.eval f,convert,run_underlying hs.eq,run_underlying he.eq,run_underlying a.eq,Conv.bytesToString,loadCells,loadCellsFrom];rfl
end
def Aa8(xs:List Byt):Option ByteArray:=if xs.length<=9223372036854775807 then some (Aax xs)else none
theorem QB{xs:List Byt}{c:ByteArray}(h:Aa8 xs=some c):c=Aax xs/\xs.length<=9223372036854775807:=by
  unfold Aa8 at h;split at h
  . exact⟨(sm h).symm,by assumption⟩
  . cases h
theorem WN{xs:List Byt}{c:ByteArray}(h:Aa8 xs=some c):c.size<=9223372036854775807:=by
  obtain⟨rfl,h2⟩:=QB h;rw[Uy];exact h2
section
variable {P:Program}{n:Nat}{ops:Array Oper}{Q:YX}{rest:List Oper}{l:Env}{w:World}{d:Tmp}{ty:TypeId}{pos:String}{aft:Array Edge}
theorem YQ{s t:TypeId}{k:IntKind}[TInt P s k][TInt P t .u8]{x:Operand}{a:Int}(b:opv l x=some (.int k a))(hd:Nat.blt d n=true)(h:owp P n ops Q rest ((d,.int .u8 (bw a).n)::l) w):owp P n ops Q (⟨some d,.convert s t x,ty,pos,aft,none⟩::rest) l w:=AX (YH b) hd h
theorem YR{s t e:TypeId}[TSlice P s e][TInt P e .u8][TStr P t]{x:Operand}{v:Value}{F:Nat->Prop}{xs:List Byt}{c:ByteArray}(a:opv l x=some v)(hv:Vb w F v xs)(he:Aa8 xs=some c)(hd:Nat.blt d n=true)(h:owp P n ops Q rest ((d,.string c)::l) w):owp P n ops Q (⟨some d,.convert s t x,ty,pos,aft,none⟩::rest) l w:=by
  obtain⟨rfl,_⟩:=QB he;exact AX (YI a hv) hd h
end
end
section
open Go Go.RowKit
attribute [local irreducible] ewp owp hwp hwq hws Ev Evg Fn X6 Y1 YZ YY
attribute [local irreducible] hwx Y6
def BN(xs:List Fct):Option (List Fct):=if xs.length*16<=140737488355328/\xs.length<=9223372036854775807 then some xs else none
theorem Ce{w:World}{A:Nat->Prop}(hA:∀k,A k->k<w.heap.size){d:Value}{b:List Fct}(a:Vb w A d b){r:List Fct}(hm:BN b=some r) :
    Fn prog 27 [d] w λv w'=>Ext w w'/\RowR w w' (upA A w w') 67 v r:=by
  obtain⟨⟨hl,a0⟩,rfl⟩:=Hw hm;obtain⟨O,hB,b0⟩:=enter hA;replace a:=a.mono b0;obtain⟨i,c,rfl⟩:=a.form;refine AC func27 rfl ntmps27 ?_;cases i with
  |none =>
    have j:b=[]:=by
      cases b with
      |nil=>rfl
      |cons x xs=>obtain⟨_,_,_,h,_⟩:=a.elem (k:=0) (x:=x) rfl;cases h
    subst j;refine bd ?_<;>refine ad ?_;exact YT rfl rfl ⟨W8 _ _,RowR.nil⟩
  |some n =>
    refine bd ?_<;>refine ab ?_;refine CC 2 O (xs:=([]:List Fct)) rfl rfl rfl trivial λg o p e l=>?_;replace hB:=hB.st e (λh=>h) (λh=>h);replace a:=a.st e (λh=>h);refine ac ?_;refine CD rfl l a.rd rfl rfl (by simpa using hl) (by simpa using a0) λq s t u m f=>?_;replace hB:=hB.st m (by decide) (by decide);rw[R3]at f ⊢;refine ae ?_;refine ab ?_;exact YT rfl rfl ⟨hB.ext,f.out hB (by decide)⟩
end
section
open Go Go.RowKit
structure Raw(a:Bool)(n:Nat) where
  cs:List Value
  len:cs.length=n
  one:∀u∈cs,u.oneCell'=true
instance{a:Bool}{n:Nat}:Rp (Raw a n) where
  isAgg:=a
  size:=n
  R _ _ cs x:=cs=x.cs
  len:=by rintro _ _ cs x rfl;exact x.len
  one:=by rintro _ _ cs x rfl;exact x.one
  agree:=by rintro _ _ _ cs x rfl _;rfl
  mono:=by rintro _ _ _ cs x rfl _;rfl
class NestAt(α β:Type)[Rp α][Rp β] where
  q:Nat
  get:α->List β
  put:α->List β->α
  get_put:∀x y,get (put x y)=y
  put_put:∀x y z,put (put x y) z=put x z
  split:∀{w F cs x},Rp.R w F cs x->Rp.R w F (cs.set q (.slice none 0 0)) (put x [])/\∃v,cs[q]?=some v/\Vb w F v (get x)
  join:∀{w F cs x v},Rp.R w F (cs.set q (.slice none 0 0)) (put x [])->cs[q]?=some v->Vb w F v (get x)->Rp.R w F cs x
def Nest{α β:Type}[Rp α][Rp β][N:NestAt α β]{a:Bool}{n:Nat}(j:Nat)(w:World)(O:Lab)(e:TypeId)(rs:List (Raw a n))(xs:List α)(skip:Option Nat):Prop :=
  (∃c:Lab,rs.length=xs.length/\∀(k:Nat)(r:Raw a n)(x:α),rs[k]?=some r->xs[k]?=some x ->
    Rp.R w (Fr 0 w O) (r.cs.set N.q (.slice none 0 0)) (N.put x [])/\(skip≠some k->∃v,r.cs[N.q]?=some v/\RwM w (Fr 0 w O) (λb=>Fr j w O b/\c b=k) e v (N.get x)))/\j≠0
section
variable {α β:Type}[Rp α][Rp β][N:NestAt α β]{a:Bool}{n i j l:Nat}{T:Nat → Prop}{w w':World}{O O':Lab}{e:TypeId}{rs:List (Raw a n)}{xs:List α}{skip:Option Nat}
theorem Nest.st(h:Nest (β:=β) j w O e rs xs skip)(a:St T w O w' O')(c:¬T 0:=by decide)(hj:¬T j:=by decide):Nest (β:=β) j w' O' e rs xs skip:=by
  obtain⟨⟨i,hl,hr⟩,h1⟩:=h;refine⟨⟨i,hl,λk r x d f=>⟨Rp.mono (Rp.agree (hr k r x d f).1 (a.agree c)) (a.fr c),λg=>?_⟩⟩,h1⟩;obtain⟨v,hv,hm⟩:=(hr k r x d f).2 g;exact⟨v,hv,(hm.agree (a.agree c) λb hb=>a.agree hj b hb.1).mono (a.fr c) (λb hb=>⟨a.fr hj b hb.1,hb.2⟩) λb hf hm=>Y9 h1 b hf hm.1⟩
theorem Nest.take(h:Nest (β:=β) j w O e rs xs none){k:Nat}{r:Raw a n}{x:α}(hr:rs[k]?=some r)(o:xs[k]?=some x)(l:Nat)(hl:l≠0)(p:l≠j) :
    ∃O' v,St (eT j) w O w O'/\r.cs[N.q]?=some v/\Nest (β:=β) j w O' e rs xs (some k)/\Rw l w O' e v (N.get x):=by
  obtain⟨⟨u,hlen,hra⟩,hj⟩:=h;obtain⟨v,hv,hm⟩:=(hra k r x hr o).2 (by simp);have c:∀b,Fr 0 w O b->Fr 0 w (λb=>if O b=j/\u b=k then l else O b) b:=λb hb=>⟨hb.1,by show(if _ then _ else _)=_;rw[if_neg (by rw[hb.2];exact λh=>hj h.1.symm)];exact hb.2⟩;refine⟨λb=>if O b=j/\u b=k then l else O b,v,⟨rfl,rfl,rfl,W3 _,λb _ hb=>⟨rfl,if_neg λh=>hb h.1⟩⟩,hv,⟨⟨u,hlen,λf r' g i m=>⟨Rp.mono (hra f r' g i m).1 c,λs=>?_⟩⟩,hj⟩,hm.rw c (λb hb=>⟨hb.1.1,if_pos ⟨hb.1.2,hb.2⟩⟩) hl⟩;obtain⟨t,hv',hm'⟩:=(hra f r' g i m).2 (by simp);refine⟨t,hv',hm'.mono c (λb hb=>?_) λb hf hm=>Y9 hj b hf hm.1⟩;have d:¬(O b=j/\u b=k):=λh=>s (by rw[<- h.2,hb.2]);exact⟨⟨hb.1.1,by show(if _ then _ else _)=_;rw[if_neg d];exact hb.1.2⟩,hb.2⟩
theorem Nest.put{k:Nat}(h:Nest (β:=β) j w O e rs xs (some k)){r r':Raw a n}{x:α}{v:Value}{ys:List β}(hr:rs[k]?=some r)(y:xs[k]?=some x)(c:r'.cs=r.cs.set N.q v)(A:N.q<n)(z:Rw l w O e v ys)(s:l≠j) :
    ∃O',St (eT l) w O w O'/\Nest (β:=β) j w O' e (rs.set k r') (xs.set k (N.put x ys)) none:=by
  obtain⟨⟨F,hlen,hra⟩,hj⟩:=h;have d:l≠0:=z.2.2;have o:∀b,Fr 0 w O b->Fr 0 w (λb=>if O b=l then j else O b) b:=λb hb=>⟨hb.1,by show(if _ then _ else _)=_;rw[if_neg (by rw[hb.2];exact X0 d)];exact hb.2⟩;refine⟨λb=>if O b=l then j else O b,⟨rfl,rfl,rfl,W3 _,λb _ hb=>⟨rfl,if_neg hb⟩⟩,⟨λb=>if O b=l then k else F b,by simp[hlen],λp t u f g=>?_⟩,hj⟩;by_cases hk:p=k
  . subst hk;rw[F2 (Az hr)]at f;rw[F2 (Az y)]at g;have B:r'=t:=(by simpa using f);have C:N.put x ys=u:=(by simpa using g);subst B C;refine⟨?_,λ_=>⟨v,?_,?_⟩⟩
    . rw[c,List.set_set,N.put_put];exact Rp.mono (hra p r x hr y).1 o
    . rw[c,F2 (by rw[r.len];exact A)]
    . rw[N.get_put];have D:RwM w (Fr 0 w O) (Fr l w O) e v ys:=z.m (λ_ h=>h) (λ_ h=>h) (Y9 d);exact D.mono o (λb hb=>⟨⟨hb.1,if_pos hb.2⟩,if_pos hb.2⟩) λb hf hm=>Y9 hj b hf hm.1
  . rw[H7 (X0 hk)]at f g;refine⟨Rp.mono (hra p t u f g).1 o,λ_=>?_⟩;obtain⟨E,hv',hm⟩:=(hra p t u f g).2 (λh=>hk (R1 h).symm);refine⟨E,hv',hm.mono o (λb hb=>?_) λb hf hm=>Y9 hj b hf hm.1⟩;have i:O b≠l:=(by rw[hb.1.2];exact X0 s);exact⟨⟨hb.1.1,by show(if _ then _ else _)=_;rw[if_neg i];exact hb.1.2⟩,by show(if _ then _ else _)=_;rw[if_neg i];exact hb.2⟩
end
instance{β:Type}[Rp β]:NestAt (List β) β where
  q:=0
  get x:=x
  put _ y:=y
  get_put _ _:=rfl
  put_put _ _ _:=rfl
  split:=by
    intro w F cs x h;have hl:=Rp.len h
    match cs,hl,h with
    |[v],_,h=>exact⟨(Vb.nil w F).cells1,v,rfl,by unfold Vb;exact h⟩
  join:=by
    intro w F cs x v h hv a;have hl:=Rp.len h;rw[R6]at hl
    match cs,hl,hv with
    |[u],_,hv =>
      obtain rfl:u=v:=(by simpa using hv);exact a.cells1
def NR{α:Type}(β:Type)[Rp α][Rp β][N:NestAt α β](i:Nat)(w:World)(O:Lab)(e' e:TypeId)(v:Value)(xs:List α)(skip:Option Nat):Prop :=
  ∃(rs:List (Raw (Rp.isAgg α) (Rp.size α))) (a:Lab),Own w 0 (Fr 0 w O) e' v rs/\(∀g,v.ownBlock=some g->O g=i/\a g=0)/\i≠0/\rs.length=xs.length /\
    ∀(k:Nat)(r:Raw (Rp.isAgg α) (Rp.size α))(x:α),rs[k]?=some r->xs[k]?=some x ->
      Rp.R w (Fr 0 w O) (r.cs.set N.q (.slice none 0 0)) (N.put x [])/\(skip≠some k->∃u,r.cs[N.q]?=some u/\RwM w (Fr 0 w O) (λb=>Fr i w O b/\a b=k+1) e u (N.get x))
theorem Aa1(O:Lab):∀n:Nat,∃b,∀k,k<n->O k<=b
  |0=>⟨0,λk h=>by omega⟩
  |n+1=>by
    obtain⟨b,hb⟩:=Aa1 O n;refine⟨max b (O n),λk hk=>?_⟩;rcases U8 k n with h|h
    . have:=hb k h;omega
    . have:k=n:=(by omega);subst this;omega
theorem AaF(O:Lab)(n a b:Nat):∃j,j≠0/\j≠a/\j≠b/\∀k,k<n->O k≠j:=by
  obtain⟨c,hc⟩:=Aa1 O n;exact⟨c+a+b+1,by omega,by omega,by omega,λk hk=>by have:=hc k hk;omega⟩
theorem St.via{T e T2 T3:Nat->Prop}{w w':World}{O f g i:Lab}{j:Nat}(c:St e w O w f)(a:St T2 w f w' g)(b:St T3 w' g w' i)(hj:∀k,k<w.heap.size->O k≠j)(l:∀q,e q->T q)(m:∀q,T2 q->T q\/q=j)(n:∀q,T3 q->T q\/q=j):St T w O w' i :=
  ⟨(b.os.trans a.os).trans c.os,(b.tape.trans a.tape).trans c.tape,(b.output.trans a.output).trans c.output,V6 a.size b.size,λk hk d=>by
    obtain⟨o,e2⟩:=c.same k hk λh=>d (l _ h);obtain⟨p,e4⟩:=a.same k hk (by rw[e2];exact λh=>(m _ h).elim d (hj k hk));obtain⟨r,e6⟩:=b.same k (K5 hk a.size) (by rw[e4,e2];exact λh=>(n _ h).elim d (hj k hk));exact⟨(r.trans p).trans o,(e6.trans e4).trans e2⟩⟩
section
variable {α β:Type}[Rp α][Rp β][N:NestAt α β]{i j l:Nat}{T:Nat → Prop}{w w':World}{O O':Lab}{e' e:TypeId}{v:Value}{xs:List α}{skip:Option Nat}
theorem NR.opn(h:NR β i w O e' e v xs skip)(j:Nat)(hj:j≠0)(n:j≠i):∃(rs:List (Raw (Rp.isAgg α) (Rp.size α))) (c:Lab),St (eT i) w O w c/\Rw i w c e' v rs/\Nest (β:=β) j w c e rs xs skip:=by
  obtain⟨rs,L,h1,h2,h3,h4,h5⟩:=h;have d:∀b,Fr 0 w O b->Fr 0 w (λb=>if O b=i/\L b≠0 then j else O b) b:=λb hb=>⟨hb.1,by show(if _ then _ else _)=_;rw[if_neg (by rw[hb.2];exact λh=>h3 h.1.symm)];exact hb.2⟩;refine⟨rs,λb=>if O b=i/\L b≠0 then j else O b,⟨rfl,rfl,rfl,W3 _,λb _ hb=>⟨rfl,if_neg λh=>hb h.1⟩⟩,⟨h1.mono d λg a hf=>?_,λg a=>?_,h3⟩,⟨λb=>L b-1,h4,λk r x f l=>⟨Rp.mono (h5 k r x f l).1 d,λo=>?_⟩⟩,hj⟩
  . have m:(if O g=i/\L g≠0 then j else O g)=0:=hf.2;rw[if_neg (λh=>h.2 (h2 g a).2),(h2 g a).1]at m;exact h3 m
  . show(if O g=i/\L g≠0 then j else O g)=i;rw[if_neg (λh=>h.2 (h2 g a).2)];exact(h2 g a).1
  . obtain⟨u,hu,hm⟩:=(h5 k r x f l).2 o;refine⟨u,hu,hm.mono d (λb hb=>⟨⟨hb.1.1,?_⟩,?_⟩) λb hf hm=>Y9 hj b hf hm.1⟩
    . show(if O b=i/\L b≠0 then j else O b)=j;rw[if_pos ⟨hb.1.2,by have:=hb.2;omega⟩]
    . show L b-1=k;have:=hb.2;omega
theorem NR.shut{rs:List (Raw (Rp.isAgg α) (Rp.size α))}(m:Rw i w O e' v rs)(n:Nest (β:=β) j w O e rs xs skip)(c:j≠i):∃f,St (eT j) w O w f/\NR β i w f e' e v xs skip:=by
  obtain⟨⟨q,h4,h5⟩,hj⟩:=n;obtain⟨o,h2,h3⟩:=m;have d:∀b,Fr 0 w O b->Fr 0 w (λb=>if O b=j then i else O b) b:=λb hb=>⟨hb.1,by show(if _ then _ else _)=_;rw[if_neg (by rw[hb.2];exact X0 hj)];exact hb.2⟩;have hi:∀g,v.ownBlock=some g->(if O g=j then i else O g)=i:=λg a=>by
    split
    . rfl
    . exact h2 g a
  refine⟨λb=>if O b=j then i else O b,⟨rfl,rfl,rfl,W3 _,λb _ hb=>⟨rfl,if_neg hb⟩⟩,rs,λb=>if O b=j then q b+1 else 0,o.mono d λg a hf=>h3 (((hi g a).symm.trans hf.2)),λg a=>⟨hi g a,?_⟩,h3,h4,λk r x h l=>⟨Rp.mono (h5 k r x h l).1 d,λp=>?_⟩⟩
  . show(if O g=j then q g+1 else 0)=0;rw[if_neg (by rw[h2 g a];exact X0 c)]
  . obtain⟨u,hu,hm⟩:=(h5 k r x h l).2 p;refine⟨u,hu,hm.mono d (λb hb=>⟨⟨hb.1.1,if_pos hb.1.2⟩,?_⟩) λb hf hm=>Y9 h3 b hf hm.1⟩;show(if O b=j then q b+1 else 0)=k+1;rw[if_pos hb.1.2,hb.2]
theorem NR.st(h:NR β i w O e' e v xs skip)(a:St T w O w' O')(c:¬T 0:=by decide)(hi:¬T i:=by decide):NR β i w' O' e' e v xs skip:=by
  obtain⟨rs,L,h1,h2,h3,h4,h5⟩:=h;have f:Rw i w' O' e' v rs:=Rw.st (O:=O) ⟨h1,λg d=>(h2 g d).1,h3⟩ a c hi;refine⟨rs,L,f.1,λg d=>⟨f.2.1 g d,(h2 g d).2⟩,h3,h4,λk r x j l=>⟨Rp.mono (Rp.agree (h5 k r x j l).1 (a.agree c)) (a.fr c),λm=>?_⟩⟩;obtain⟨u,hu,hm⟩:=(h5 k r x j l).2 m;exact⟨u,hu,(hm.agree (a.agree c) λb hb=>a.agree hi b hb.1).mono (a.fr c) (λb hb=>⟨a.fr hi b hb.1,hb.2⟩) λb hf hm=>Y9 h3 b hf hm.1⟩
theorem NR.nil(i:Nat)(hi:i≠0):NR (α:=α) β i w O e' e (.slice none 0 0) [] none :=
  ⟨[],λ_=>0,Own.nil _ _ _ _,λg h=>by simp[Value.ownBlock]at h,hi,rfl,λk r x h=>by simp at h⟩
theorem NR.len{A:Option Addr}{m c:Nat}(h:NR β i w O e' e (.slice A m c) xs skip):m=xs.length/\m<=c/\c<=9223372036854775807:=by
  obtain⟨rs,L,h1,h2,h3,h4,h5⟩:=h;have:=Rw.len (i:=i) (O:=O) ⟨h1,λg a=>(h2 g a).1,h3⟩;exact⟨this.1.trans h4,this.2⟩
theorem NR.relen{A:Option Addr}{m c:Nat}(h:NR β i w O e' e (.slice A m c) xs skip):NR β i w O e' e (.slice A xs.length c) xs skip:=by
  have:=h.len.1;subst this;exact h
theorem NR.form(h:NR β i w O e' e v xs skip):∃A c,v=.slice A xs.length c:=by
  obtain⟨rs,L,h1,h2,h3,h4,h5⟩:=h;obtain⟨A,c,h⟩:=Rw.form (i:=i) (O:=O) (xs:=rs) ⟨h1,λg a=>(h2 g a).1,h3⟩;exact⟨A,c,by rw[h,h4]⟩
theorem NR.at{A:Option Addr}{m c:Nat}(h:NR β i w O e' e (.slice A m c) xs skip){k:Nat}{x:α}(a:xs[k]?=some x):∃b o,A=some ⟨b,o,none⟩/\k<m:=by
  obtain⟨rs,L,h1,h2,h3,h4,h5⟩:=h;have hk:k<rs.length:=(by rw[h4];exact Az a);obtain⟨b,o,cs,h6,h7,_⟩:=Rw.elem (i:=i) (O:=O) ⟨h1,λg d=>(h2 g d).1,h3⟩ (C9 hk);exact⟨b,o,h6,h7⟩
theorem NR.peek{A:Option Addr}{m c b o:Nat}(h:NR β i w O e' e (.slice A m c) xs none)(hA:A=some ⟨b,o,none⟩){k:Nat}{x:α}(l:xs[k]?=some x) :
    ∃(d:Option Addr) (f:Nat),w.cell? ⟨b,o+k*Rp.size α+N.q,none⟩=some (.slice d (N.get x).length f)/\Vb w (FrS [i] w O) (.slice d (N.get x).length f) (N.get x):=by
  obtain⟨rs,L,h1,h2,h3,h4,h5⟩:=h;have hk:k<rs.length:=(by rw[h4];exact Az l);have hr:rs[k]?=some rs[k]:=C9 hk;obtain⟨p,o',cs,a,n,h8,h9⟩:=Rw.elem (i:=i) (O:=O) ⟨h1,λg hg=>(h2 g hg).1,h3⟩ hr;obtain⟨rfl,rfl⟩:b=p/\o=o':=(by rw[hA]at a;injection a with a;injection a with a n;exact⟨a,n⟩);have j:cs=rs[k].cs:=h9;subst j;obtain⟨u,hu,hm⟩:=(h5 k rs[k] x hr l).2 (by simp);obtain⟨d,f,_,rfl,_⟩:=hm.1.chunk;refine⟨d,f,DG h8 _ _ hu,hm.1.vb.mono λg hg=>?_⟩;rcases hg with hg|hg
  . exact⟨hg.1,.inl hg.2⟩
  . have:=(hm.2 g hg).1;exact⟨this.1,.inr (by rw[this.2];simp)⟩
theorem NR.stay{A:Option Addr}{m c b o p:Nat}{u:Value}(h:NR β i w O e' e (.slice A m c) xs skip)(hA:A=some ⟨b,o,none⟩)(a:St T w O w' O')(hi:¬T i)(hc:w.cell? ⟨b,p,none⟩=some u):w'.cell? ⟨b,p,none⟩=some u:=by
  obtain⟨rs,L,h1,h2,h3,h4,h5⟩:=h;subst hA;have:=a.same b (h1.lt b rfl).2 (by rw[(h2 b rfl).1];exact hi);rw[<- hc];unfold World.cell?
  rw[this.1]
theorem NR.take{A:Option Addr}{m c b o:Nat}(h:NR β i w O e' e (.slice A m c) xs none)(hA:A=some ⟨b,o,none⟩){k:Nat}{x:α}(r:xs[k]?=some x)(l:Nat)(hl:l≠0)(t:l≠i) :
    ∃(O':Lab) (f:Option Addr) (g:Nat),St (eT i) w O w O'/\w.cell? ⟨b,o+k*Rp.size α+N.q,none⟩=some (.slice f (N.get x).length g)/\NR β i w O' e' e (.slice A m c) xs (some k)/\Rw l w O' e (.slice f (N.get x).length g) (N.get x):=by
  obtain⟨j,hj,hji,hjl,hf⟩:=AaF O w.heap.size i l;obtain⟨rs,O1,hS,hR,hN⟩:=h.opn j hj hji;have d:rs.length=xs.length:=(by obtain⟨⟨_,h,_⟩,_⟩:=hN;exact h);have hk:k<rs.length:=(by rw[d];exact Az r);have hr:rs[k]?=some rs[k]:=C9 hk;obtain⟨z,u,hS2,hu,hN2,hw⟩:=hN.take hr r l hl (X0 hjl);obtain⟨f,g,rfl⟩:=hw.form;have n:=hR.st hS2 (λh=>hj h.symm) (X0 hji);obtain⟨v,hS3,h3⟩:=NR.shut n hN2 hji;obtain⟨y,o',cs,a,s,h4,h5⟩:=hR.elem hr;obtain⟨rfl,rfl⟩:b=y/\o=o':=(by rw[hA]at a;injection a with a;injection a with a s;exact⟨a,s⟩);have p:cs=rs[k].cs:=h5;subst p;exact⟨v,f,g,St.via (j:=j) hS hS2 hS3 hf (λ_ h=>h) (λ_ h=>.inr h) (λ_ h=>.inr h),DG h4 _ _ hu,h3,hw.st hS3 (λh=>hj h.symm) (X0 hjl)⟩
theorem NR.take'{A f:Option Addr}{m c b o g j:Nat}(h:NR β i w O e' e (.slice A m c) xs none)(hA:A=some ⟨b,o,none⟩){k:Nat}{x:α}(n:xs[k]?=some x)(hc:w.cell? ⟨b,o+k*Rp.size α+N.q,none⟩=some (.slice f g j))(l:Nat)(hl:l≠0)(d:l≠i) :
    ∃(O':Lab),St (eT i) w O w O'/\NR β i w O' e' e (.slice A m c) xs (some k)/\Rw l w O' e (.slice f g j) (N.get x):=by
  obtain⟨O',A2,c2,h1,a,h3,h4⟩:=h.take hA n l hl d;rw[hc]at a;injection a with a;injection a with p r s;subst p;subst r;subst s;exact⟨O',h1,h3,h4⟩
end
section
variable {P:Program}{n:Nat}{ops:Array Oper}{Q:YX}{rest:List Oper}{l:Env}{w:World}{d d1 d2:Tmp}{ty ty2:TypeId}{pos pos2:String}{aft aft2:Array Edge}
theorem WO{β:Type}[Rp β](i:Nat)(hi:i≠0)(O:Lab){t e' e:TypeId}[TSlice P t e']{z:Value}{size bytes:Nat}[TInfo P e' z size bytes]{x y:Operand}{k p:IntKind}{m:Nat}{a:Int}(b:size=1)(hz:z=.slice none 0 0)(s:opv l x=some (.int k a))(v:opv l y=some (.int p a))(A:a=(m:Int))
    (hm:bytes*m<=281474976710656) (f:m<=9223372036854775807) (hd:Nat.blt d n=true)
    (h:∀g w' O',St nT w O w' O'->NR β i w' O' e' e (.slice (some ⟨g,0,none⟩) (List.replicate m ([]:List β)).length m) (List.replicate m ([]:List β)) none->owp P n ops Q rest ((d,.slice (some ⟨g,0,none⟩) (List.replicate m ([]:List β)).length m)::l) w'):owp P n ops Q (⟨some d,.makeSlice t x y,ty,pos,aft,none⟩::rest) l w:=by
  subst hz;obtain⟨q,hq0,hqi,_,hf⟩:=AaF O w.heap.size i 0
  let z0:Raw false 1:=⟨[.slice none 0 0],rfl,λu hu=>by simp at hu;subst hu;rfl⟩
  have hz0:Vb w (Fr 0 w O) (.slice none 0 0) z0:=show Rp.R w (Fr 0 w O) [Value.slice none 0 0] z0 from rfl;refine LG (α:=Raw false 1) i (hi:=hi) O (z0:=z0) b rfl rfl s v A hz0 hm f hd λg w' O' c B=>?_;have C:Nest (α:=List β) (β:=β) q w' O' e (List.replicate m z0) (List.replicate m ([]:List β)) none:=by
    refine⟨⟨λ_=>0,by simp,λj r x D E=>?_⟩,hq0⟩;obtain rfl:r=z0:=List.eq_of_mem_replicate (H2 D);obtain rfl:x=[]:=List.eq_of_mem_replicate (H2 E);refine⟨(Vb.nil w' _).cells1,λ_=>⟨.slice none 0 0,rfl,Own.nil _ _ _ _,λg F=>by simp[Value.ownBlock]at F⟩⟩
  obtain⟨G,hS2,h2⟩:=NR.shut (α:=List β) B C hqi;have o:(List.replicate m z0).length=(List.replicate m ([]:List β)).length:=(by simp);rw[o]at h2 ⊢;refine h g w' G ⟨hS2.os.trans c.os,hS2.tape.trans c.tape,hS2.output.trans c.output,V6 c.size hS2.size,λj hj H=>?_⟩ h2;obtain⟨I,e1⟩:=c.same j hj H;obtain⟨J,e2⟩:=hS2.same j (K5 hj c.size) (by rw[e1];exact hf j hj);exact⟨J.trans I,e2.trans e1⟩
theorem XS{α β:Type}[Rp α][Rp β][N:NestAt α β]{i j:Nat}{O:Lab}{t e' e:TypeId}{z:Value}{size bytes:Nat}[TInfo P t z size bytes]{x y:Operand}{b o k off m c:Nat}{A C:Option Addr}{D E:Nat}{a:α}{ys:List β}{xs:List α}(S:NR β i w O e' e (.slice A m c) xs (some k))(T:Rw j w O e (.slice C D E) ys)(d:j≠i)(hA:A=some ⟨b,o,none⟩)(hk:xs[k]?=some a)
    (V:opv l x=some (.pointer (some ⟨b,o+k*Rp.size α+off,none⟩))) (W:opv l y=some (.slice C D E)) (f:off=N.q) (F:size=1) (G:N.q<Rp.size α)
    (h:∀w' O',St (λq=>q=i\/q=j) w O w' O'->NR β i w' O' e' e (.slice A m c) (xs.set k (N.put a ys)) none->owp P n ops Q rest l w'):owp P n ops Q (⟨none,.store t x y,ty,pos,aft,none⟩::rest) l w:=by
  subst f F;obtain⟨q,hq0,hqi,hqj,hf⟩:=AaF O w.heap.size i j;have H:j≠0:=T.2.2;have g:i≠0:=(by obtain⟨_,_,_,_,h,_⟩:=S;exact h);obtain⟨rs,O1,hS,hRw,hN⟩:=S.opn q hq0 hqi;have r:rs.length=xs.length:=(by obtain⟨⟨_,h,_⟩,_⟩:=hN;exact h);have I:k<rs.length:=(by rw[r];exact Az hk);have hr:rs[k]?=some rs[k]:=C9 I;have J:=T.st hS (λh=>g h.symm) d
  let r':Raw (Rp.isAgg α) (Rp.size α):=⟨rs[k].cs.set N.q (.slice C D E),by rw[R6];exact rs[k].len,λu hu=>by
    rcases C8 hu with h|h
    . exact rs[k].one u h
    . subst h;rfl⟩
  obtain⟨X,hS2,hN2⟩:=hN.put (r':=r') hr hk rfl G J (X0 hqj);have K:=hRw.st hS2 (λh=>H h.symm) (X0 d);refine Qv (a:=rs[k]) (a':=r') K hA hr V W rfl (by show N.q+1<=Rp.size α;omega) (λv hv=>by simp[Value.cells]at hv;subst hv;rfl) (λY hc=>?_) λw' s L=>?_
  . have M:Y=rs[k].cs:=hc;subst M;rfl
  have R:=hN2.st s (λh=>g h.symm) hqi;obtain⟨Z,hS4,h4⟩:=NR.shut L R hqi;refine h w' Z ?_ h4;have B:St (λp=>p=i\/p=j) w O w X:=⟨rfl,rfl,rfl,W3 _,λk hk U=>by
    obtain⟨_,e2⟩:=hS.same k hk λh=>U (.inl h);obtain⟨_,e4⟩:=hS2.same k hk (by rw[e2];exact λh=>U (.inr h));exact⟨rfl,e4.trans e2⟩⟩
  exact St.via (j:=q) B s hS4 hf (λ_ h=>h) (λ_ h=>.inl (.inl h)) (λ_ h=>.inr h)
end
end
section
open Go Go.RowKit
attribute [local irreducible] ewp owp hwp hwq hws Ev Evg Fn X6 Y1 YZ YY
structure Rsl where
  verdict:Int
  plan:List Int
  cost:Int
  expanded:Int
instance:Rp Rsl where
  isAgg:=true
  size:=4
  R w F cs x:=∃a,cs=[.int .i64 x.verdict,a,.int .i64 x.cost,.int .i64 x.expanded]/\Vb w F a x.plan/\X2 x.verdict/\X2 x.cost/\X2 x.expanded
  len:=by rintro w F cs x ⟨a,rfl,h0,h1,h2,h3⟩;rfl
  one:=by rintro w F cs x ⟨a,rfl,h0,h1,h2,h3⟩ u hu;simp at hu;rcases hu with rfl|rfl|rfl|rfl<;>first|rfl|exact Vb.one rfl (by assumption)
  agree:=by rintro w w' F cs x ⟨a,rfl,h0,h1,h2,h3⟩ ha;exact⟨a,rfl,h0.agree ha,h1,h2,h3⟩
  mono:=by rintro w F G cs x ⟨a,rfl,h0,h1,h2,h3⟩ ha;exact⟨a,rfl,h0.mono ha,h1,h2,h3⟩
instance:El Rsl λe d w O x G=>∀(a:Option Addr)(b:Nat),X2 x.verdict->X2 x.cost->X2 x.expanded->Al e (.V (.slice a x.plan.length b) x.plan :: .V (.agg #[(.int .i64 x.verdict),(.slice a x.plan.length b),(.int .i64 x.cost),(.int .i64 x.expanded)]) x::d) w O->G (.agg #[(.int .i64 x.verdict),(.slice a x.plan.length b),(.int .i64 x.cost),(.int .i64 x.expanded)]):=⟨λf h k=>by
  have c:=h;unfold Vb at c;obtain⟨cs,rfl,v1,rfl,h2,r5,r6,r7⟩:=c;obtain⟨a,b,rfl⟩:=h2.form;exact k a b r5 r6 r7 ⟨h2,h,f⟩⟩
end
end Go.Proofs.YtonclmjaphieiaaGreat

/- Own text: what the proof of breadthLimits_holds uses, part 2: rules, models and their proofs, plain laws. -/
import Derived.Test.YthomfnkaicjmbaaPLimA
set_option linter.unusedVariables false
set_option linter.unusedSimpArgs false
namespace Go.Proofs.Ythomfnkaicjmbaa
open Go Go.RowKit
section
open Go Go.RowKit
abbrev U64:=BitVec 64
instance:Rp U64 where
  isAgg:=false
  size:=1
  R _ _ cs x:=cs=[.int .u64 (x.toNat:Int)]
  len:=by rintro w F cs x rfl;rfl
  one:=by
    rintro w F cs x rfl u hu
    have:u=.int .u64 (x.toNat:Int):=by simpa using hu
    subst this;rfl
  agree:=fun h _=>h
  mono:=fun h _=>h
theorem Vb.u64 {w:World} {F:Nat→Prop} {v:Value} {x:U64} (h:Vb w F v x):v=.int .u64 (x.toNat:Int):=by
  have:[v]=[.int .u64 (x.toNat:Int)]:=h
  simpa using this
theorem vU64 {w:World} {F:Nat→Prop} {x:U64}:Vb w F (.int .u64 (x.toNat:Int)) x:=rfl
theorem wrapU (a:Int):IntKind.u64.wrap a=a % 18446744073709551616:=by simp [IntKind.wrap,IntKind.bits,IntKind.signed]
theorem wrapN (x:BitVec 64):IntKind.u64.wrap (x.toNat:Int)=(x.toNat:Int):=by
  rw [wrapU]
  have:=x.isLt
  omega
theorem ofIntU (x:U64):BitVec.ofInt 64 (x.toNat:Int)=x:=by simp
def shlU (a:U64) (q:Int):Option U64:=if 0≤q then some (a <<< q.toNat) else none
def shrU (a:U64) (q:Int):Option U64:=if 0≤q then some (a >>> q.toNat) else none
def shlI (a q:Int):Option Int:=if 0≤q then some (wr (a * 2 ^ (min q.toNat 64))) else none
theorem LH {a q c:Int} (h:shlI a q=some c):inI64 c:=by
  unfold shlI at h
  split at h
  · rw [← sm h];exact MM _
  · cases h
theorem toIntR (a:U64):inI64 a.toInt:=by
  have h1:=BitVec.toInt_lt (x:=a)
  have h2:=BitVec.le_toInt (x:=a)
  simp at h1 h2
  exact ⟨by omega,by omega⟩
section
variable {P : Program} {l : Env} {w : World} {dst : Option Tmp} {ty : TypeId} {pos : String} {aft : Array Edge}
theorem MT {t u:TypeId} {x y:Operand} {a b:U64} (hx:opv l x=some (.int .u64 (a.toNat:Int))) (hy:opv l y=some (.int .u64 (b.toNat:Int))):Ev P ⟨dst,.binOp .and t x y u,ty,pos,aft,none⟩ l w (.int .u64 ((a &&& b).toNat:Int)):=fun _ _ d ha=>by
  have h:=wrapN (a &&& b)
  have h1:(BitVec.ofInt IntKind.u64.bits (a.toNat:Int))=a:=ofIntU a
  have h2:(BitVec.ofInt IntKind.u64.bits (b.toNat:Int))=b:=ofIntU b
  simp only [execOp,ha.eval hx,ha.eval hy,eqGuard,binOp,Op.intBits,h1,h2]
  simp
  exact h.trans (by simp)
theorem MU {t u:TypeId} {x y:Operand} {a b:U64} (hx:opv l x=some (.int .u64 (a.toNat:Int))) (hy:opv l y=some (.int .u64 (b.toNat:Int))):Ev P ⟨dst,.binOp .or t x y u,ty,pos,aft,none⟩ l w (.int .u64 ((a ||| b).toNat:Int)):=fun _ _ d ha=>by
  have h:=wrapN (a ||| b)
  have h1:(BitVec.ofInt IntKind.u64.bits (a.toNat:Int))=a:=ofIntU a
  have h2:(BitVec.ofInt IntKind.u64.bits (b.toNat:Int))=b:=ofIntU b
  simp only [execOp,ha.eval hx,ha.eval hy,eqGuard,binOp,Op.intBits,h1,h2]
  simp
  exact h.trans (by simp)
theorem MV {t u:TypeId} {x y:Operand} {a b:U64} (hx:opv l x=some (.int .u64 (a.toNat:Int))) (hy:opv l y=some (.int .u64 (b.toNat:Int))):Ev P ⟨dst,.binOp .xor t x y u,ty,pos,aft,none⟩ l w (.int .u64 ((a ^^^ b).toNat:Int)):=fun _ _ d ha=>by
  have h:=wrapN (a ^^^ b)
  have h1:(BitVec.ofInt IntKind.u64.bits (a.toNat:Int))=a:=ofIntU a
  have h2:(BitVec.ofInt IntKind.u64.bits (b.toNat:Int))=b:=ofIntU b
  simp only [execOp,ha.eval hx,ha.eval hy,eqGuard,binOp,Op.intBits,h1,h2]
  simp
  exact h.trans (by simp)
theorem MW {t u:TypeId} {x y:Operand} {a b:U64} (hx:opv l x=some (.int .u64 (a.toNat:Int))) (hy:opv l y=some (.int .u64 (b.toNat:Int))):Ev P ⟨dst,.binOp .andNot t x y u,ty,pos,aft,none⟩ l w (.int .u64 ((a &&& ~~~b).toNat:Int)):=fun _ _ d ha=>by
  have h:=wrapN (a &&& ~~~b)
  have h1:(BitVec.ofInt IntKind.u64.bits (a.toNat:Int))=a:=ofIntU a
  have h2:(BitVec.ofInt IntKind.u64.bits (b.toNat:Int))=b:=ofIntU b
  simp only [execOp,ha.eval hx,ha.eval hy,eqGuard,binOp,Op.intBits,h1,h2]
  simp
  exact h.trans (by simp)
theorem MX {t u:TypeId} {x y:Operand} {a b:U64} (hx:opv l x=some (.int .u64 (a.toNat:Int))) (hy:opv l y=some (.int .u64 (b.toNat:Int))):Ev P ⟨dst,.binOp .add t x y u,ty,pos,aft,none⟩ l w (.int .u64 ((a + b).toNat:Int)):=fun _ _ d ha=>by
  have h:IntKind.u64.wrap ((a.toNat:Int) + (b.toNat:Int))=((a + b).toNat:Int):=by
    rw [wrapU]
    have h1:=a.isLt
    have h2:=b.isLt
    rw [BitVec.toNat_add];omega
  simp [execOp,ha.eval hx,ha.eval hy,eqGuard,binOp,Op.intArith,h]
theorem MY {t u:TypeId} {x y:Operand} {a b:U64} (hx:opv l x=some (.int .u64 (a.toNat:Int))) (hy:opv l y=some (.int .u64 (b.toNat:Int))):Ev P ⟨dst,.binOp .sub t x y u,ty,pos,aft,none⟩ l w (.int .u64 ((a - b).toNat:Int)):=fun _ _ d ha=>by
  have h:IntKind.u64.wrap ((a.toNat:Int) - (b.toNat:Int))=((a - b).toNat:Int):=by
    rw [wrapU]
    have h1:=a.isLt
    have h2:=b.isLt
    rw [BitVec.toNat_sub];omega
  simp [execOp,ha.eval hx,ha.eval hy,eqGuard,binOp,Op.intArith,h]
theorem MZ {t u:TypeId} {x y:Operand} {a b:U64} (hx:opv l x=some (.int .u64 (a.toNat:Int))) (hy:opv l y=some (.int .u64 (b.toNat:Int))):Ev P ⟨dst,.binOp .mul t x y u,ty,pos,aft,none⟩ l w (.int .u64 ((a * b).toNat:Int)):=fun _ _ d ha=>by
  have h:IntKind.u64.wrap ((a.toNat:Int) * (b.toNat:Int))=((a * b).toNat:Int):=by
    rw [wrapU]
    have h1:=a.isLt
    have h2:=b.isLt
    rw [BitVec.toNat_mul,Int.natCast_emod,Int.natCast_mul];rfl
  simp [execOp,ha.eval hx,ha.eval hy,eqGuard,binOp,Op.intArith,h]
theorem Na {t u:TypeId} {x y:Operand} {a c:U64} {q:Int} {k:IntKind} (hx:opv l x=some (.int .u64 (a.toNat:Int))) (hy:opv l y=some (.int k q)) (he:shlU a q=some c):Ev P ⟨dst,.binOp .shl t x y u,ty,pos,aft,none⟩ l w (.int .u64 (c.toNat:Int)):=fun _ _ d ha=>by
  unfold shlU at he
  split at he
  · rename_i hq
    have hc:=sm he
    subst hc
    have h:IntKind.u64.wrap ((a.toNat:Int) * 2 ^ (min q.toNat IntKind.u64.bits))=((a <<< q.toNat).toNat:Int):=by
      rw [wrapU,BitVec.toNat_shiftLeft,Nat.shiftLeft_eq]
      show (a.toNat:Int) * 2 ^ (min q.toNat 64) % 18446744073709551616=((a.toNat * 2 ^ q.toNat % 18446744073709551616:Nat):Int)
      by_cases hk:q.toNat≤64
      · rw [Nat.min_eq_left hk,Int.natCast_emod,Int.natCast_mul,Int.natCast_pow];rfl
      · have hb:q.toNat=64 + (q.toNat - 64):=by omega
        rw [Nat.min_eq_right (by omega),hb,Nat.pow_add]
        have e1:a.toNat * (2 ^ 64 * 2 ^ (q.toNat - 64)) % 18446744073709551616=0:=by
          rw [← Nat.mul_assoc,Nat.mul_right_comm]
          exact Nat.mul_mod_left _ _
        have e2:(a.toNat:Int) * 2 ^ 64 % 18446744073709551616=0:=Int.mul_emod_left _ _
        rw [e1,e2];rfl
    have hn:¬ q < 0:=by omega
    simp [execOp,ha.eval hx,ha.eval hy,eqGuard,binOp,Op.shift,hn,h]
  · cases he
theorem Lh {t u:TypeId} {x y:Operand} {a c:U64} {q:Int} {k:IntKind} (hx:opv l x=some (.int .u64 (a.toNat:Int))) (hy:opv l y=some (.int k q)) (he:shrU a q=some c):Ev P ⟨dst,.binOp .shr t x y u,ty,pos,aft,none⟩ l w (.int .u64 (c.toNat:Int)):=fun _ _ d ha=>by
  unfold shrU at he
  split at he
  · rename_i hq
    have hc:=sm he
    subst hc
    have h:(a.toNat:Int).fdiv (2 ^ (min q.toNat IntKind.u64.bits))=((a >>> q.toNat).toNat:Int):=by
      rw [BitVec.toNat_ushiftRight,Nat.shiftRight_eq_div_pow]
      show (a.toNat:Int).fdiv (2 ^ (min q.toNat 64))=_
      have hl:=a.isLt
      rw [Int.fdiv_eq_ediv_of_nonneg _ (by exact_mod_cast Nat.zero_le (2 ^ (min q.toNat 64)))]
      by_cases hk:q.toNat≤64
      · rw [Nat.min_eq_left hk,Int.natCast_ediv,Int.natCast_pow];rfl
      · rw [Nat.min_eq_right (by omega)]
        have e1:a.toNat / 2 ^ q.toNat=0:=Nat.div_eq_of_lt (Nat.lt_of_lt_of_le hl (Nat.pow_le_pow_right (by decide) (by omega)))
        rw [e1]
        omega
    have hn:¬ q < 0:=by omega
    simp [execOp,ha.eval hx,ha.eval hy,eqGuard,binOp,Op.shift,hn,h]
  · cases he
theorem Nb {t u:TypeId} {x y:Operand} {a c q:Int} (hx:opv l x=some (.int .i64 a)) (hy:opv l y=some (.int .i64 q)) (he:shlI a q=some c):Ev P ⟨dst,.binOp .shl t x y u,ty,pos,aft,none⟩ l w (.int .i64 c):=fun _ _ d ha=>by
  unfold shlI at he
  split at he
  · rename_i hq
    have hc:=sm he
    subst hc
    have hn:¬ q < 0:=by omega
    simp [execOp,ha.eval hx,ha.eval hy,eqGuard,binOp,Op.shift,hn,wr,IntKind.bits]
  · cases he
theorem Li {s t:TypeId} {k:IntKind} [hs:TInt P s k] [ht:TInt P t .u64] {x:Operand} {a:Int} (hx:opv l x=some (.int k a)):Ev P ⟨dst,.convert s t x,ty,pos,aft,none⟩ l w (.int .u64 ((BitVec.ofInt 64 a).toNat:Int)):=fun _ _ d ha=>by
  have h:IntKind.u64.wrap a=((BitVec.ofInt 64 a).toNat:Int):=by
    rw [wrapU,BitVec.toNat_ofInt]
    have:(0:Int)≤a % 18446744073709551616:=by omega
    simp
    omega
  simp [execOp,ha.eval hx,convert,run_underlying hs.eq,run_underlying ht.eq,Conv.intToInt,h]
theorem Lj {s t:TypeId} [hs:TInt P s .u64] [ht:TInt P t .i64] {x:Operand} {a:U64} (hx:opv l x=some (.int .u64 (a.toNat:Int))):Ev P ⟨dst,.convert s t x,ty,pos,aft,none⟩ l w (.int .i64 a.toInt):=fun _ _ d ha=>by
  have h:IntKind.i64.wrap (a.toNat:Int)=a.toInt:=by
    rw [IntKind.wrap_i64,BitVec.toInt_eq_toNat_cond]
    have:=a.isLt
    split<;>omega
  simp [execOp,ha.eval hx,convert,run_underlying hs.eq,run_underlying ht.eq,Conv.intToInt,h]
end
section
variable {P : Program} {n : Nat} {ops : Array Oper} {Q : Post} {rest : List Oper} {l : Env} {w : World} {d : Tmp} {ty : TypeId} {pos : String} {aft : Array Edge}
theorem o_uxo {t u:TypeId} {x y:Operand} {a b:U64} (hx:opv l x=some (.int .u64 (a.toNat:Int))) (hy:opv l y=some (.int .u64 (b.toNat:Int))) (hd:Nat.blt d n=true) (h:owp P n ops Q rest ((d,.int .u64 ((a ^^^ b).toNat:Int)) :: l) w)  : owp P n ops Q (⟨some d,.binOp .xor t x y u,ty,pos,aft,none⟩ :: rest) l w:=AT (MV hx hy) hd h
theorem o_uad {t u:TypeId} {x y:Operand} {a b:U64} (hx:opv l x=some (.int .u64 (a.toNat:Int))) (hy:opv l y=some (.int .u64 (b.toNat:Int))) (hd:Nat.blt d n=true) (h:owp P n ops Q rest ((d,.int .u64 ((a + b).toNat:Int)) :: l) w)  : owp P n ops Q (⟨some d,.binOp .add t x y u,ty,pos,aft,none⟩ :: rest) l w:=AT (MX hx hy) hd h
theorem o_uml {t u:TypeId} {x y:Operand} {a b:U64} (hx:opv l x=some (.int .u64 (a.toNat:Int))) (hy:opv l y=some (.int .u64 (b.toNat:Int))) (hd:Nat.blt d n=true) (h:owp P n ops Q rest ((d,.int .u64 ((a * b).toNat:Int)) :: l) w)  : owp P n ops Q (⟨some d,.binOp .mul t x y u,ty,pos,aft,none⟩ :: rest) l w:=AT (MZ hx hy) hd h
theorem o_usr {t u:TypeId} {x y:Operand} {a c:U64} {q:Int} {k:IntKind} (hx:opv l x=some (.int .u64 (a.toNat:Int))) (hy:opv l y=some (.int k q)) (hd:Nat.blt d n=true) (h:owp P n ops Q rest ((d,.int .u64 (c.toNat:Int)) :: l) w) (he:shrU a q=some c:=by assumption):owp P n ops Q (⟨some d,.binOp .shr t x y u,ty,pos,aft,none⟩ :: rest) l w:=AT (Lh hx hy he) hd h
theorem o_ish {t u:TypeId} {x y:Operand} {a c q:Int} (hx:opv l x=some (.int .i64 a)) (hy:opv l y=some (.int .i64 q)) (hd:Nat.blt d n=true) (h:owp P n ops Q rest ((d,.int .i64 c) :: l) w) (he:shlI a q=some c:=by assumption):owp P n ops Q (⟨some d,.binOp .shl t x y u,ty,pos,aft,none⟩ :: rest) l w:=AT (Nb hx hy he) hd h
theorem o_cvU {s t:TypeId} {k:IntKind} [TInt P s k] [TInt P t .u64] {x:Operand} {a:Int} (hx:opv l x=some (.int k a)) (hd:Nat.blt d n=true) (h:owp P n ops Q rest ((d,.int .u64 ((BitVec.ofInt 64 a).toNat:Int)) :: l) w)  : owp P n ops Q (⟨some d,.convert s t x,ty,pos,aft,none⟩ :: rest) l w:=AT (Li hx) hd h
theorem o_cvI {s t:TypeId} [TInt P s .u64] [TInt P t .i64] {x:Operand} {a:U64} (hx:opv l x=some (.int .u64 (a.toNat:Int))) (hd:Nat.blt d n=true) (h:owp P n ops Q rest ((d,.int .i64 a.toInt) :: l) w)  : owp P n ops Q (⟨some d,.convert s t x,ty,pos,aft,none⟩ :: rest) l w:=AT (Lj hx) hd h
variable {S : World → Prop} {r : List (Nat × Bool)} {i : Nat}
theorem h_uan {t u:TypeId} {x y:Operand} {a b:U64} (hi:ops[i]?=some ⟨some d,.binOp .and t x y u,ty,pos,aft,none⟩) (hx:opv l x=some (.int .u64 (a.toNat:Int))) (hy:opv l y=some (.int .u64 (b.toNat:Int))) (hd:Nat.blt d n=true) (h:hwp P n ops Q S r ((d,.int .u64 ((a &&& b).toNat:Int)) :: l) w)  : hwp P n ops Q S ((i,true) :: r) l w:=hwp_o hi (AU (fun _ _=>MT hx hy) hd h)
theorem h_uor {t u:TypeId} {x y:Operand} {a b:U64} (hi:ops[i]?=some ⟨some d,.binOp .or t x y u,ty,pos,aft,none⟩) (hx:opv l x=some (.int .u64 (a.toNat:Int))) (hy:opv l y=some (.int .u64 (b.toNat:Int))) (hd:Nat.blt d n=true) (h:hwp P n ops Q S r ((d,.int .u64 ((a ||| b).toNat:Int)) :: l) w)  : hwp P n ops Q S ((i,true) :: r) l w:=hwp_o hi (AU (fun _ _=>MU hx hy) hd h)
theorem h_uns {t u:TypeId} {x y:Operand} {a b:U64} (hi:ops[i]?=some ⟨some d,.binOp .andNot t x y u,ty,pos,aft,none⟩) (hx:opv l x=some (.int .u64 (a.toNat:Int))) (hy:opv l y=some (.int .u64 (b.toNat:Int))) (hd:Nat.blt d n=true) (h:hwp P n ops Q S r ((d,.int .u64 ((a &&& ~~~b).toNat:Int)) :: l) w)  : hwp P n ops Q S ((i,true) :: r) l w:=hwp_o hi (AU (fun _ _=>MW hx hy) hd h)
theorem h_usb {t u:TypeId} {x y:Operand} {a b:U64} (hi:ops[i]?=some ⟨some d,.binOp .sub t x y u,ty,pos,aft,none⟩) (hx:opv l x=some (.int .u64 (a.toNat:Int))) (hy:opv l y=some (.int .u64 (b.toNat:Int))) (hd:Nat.blt d n=true) (h:hwp P n ops Q S r ((d,.int .u64 ((a - b).toNat:Int)) :: l) w)  : hwp P n ops Q S ((i,true) :: r) l w:=hwp_o hi (AU (fun _ _=>MY hx hy) hd h)
theorem h_ush {t u:TypeId} {x y:Operand} {a c:U64} {q:Int} {k:IntKind} (hi:ops[i]?=some ⟨some d,.binOp .shl t x y u,ty,pos,aft,none⟩) (hx:opv l x=some (.int .u64 (a.toNat:Int))) (hy:opv l y=some (.int k q)) (hd:Nat.blt d n=true) (h:hwp P n ops Q S r ((d,.int .u64 (c.toNat:Int)) :: l) w) (he:shlU a q=some c:=by assumption):hwp P n ops Q S ((i,true) :: r) l w:=hwp_o hi (AU (fun _ _=>Na hx hy he) hd h)
theorem h_usr {t u:TypeId} {x y:Operand} {a c:U64} {q:Int} {k:IntKind} (hi:ops[i]?=some ⟨some d,.binOp .shr t x y u,ty,pos,aft,none⟩) (hx:opv l x=some (.int .u64 (a.toNat:Int))) (hy:opv l y=some (.int k q)) (hd:Nat.blt d n=true) (h:hwp P n ops Q S r ((d,.int .u64 (c.toNat:Int)) :: l) w) (he:shrU a q=some c:=by assumption):hwp P n ops Q S ((i,true) :: r) l w:=hwp_o hi (AU (fun _ _=>Lh hx hy he) hd h)
theorem h_cvU {s t:TypeId} {k:IntKind} [TInt P s k] [TInt P t .u64] {x:Operand} {a:Int} (hi:ops[i]?=some ⟨some d,.convert s t x,ty,pos,aft,none⟩) (hx:opv l x=some (.int k a)) (hd:Nat.blt d n=true) (h:hwp P n ops Q S r ((d,.int .u64 ((BitVec.ofInt 64 a).toNat:Int)) :: l) w)  : hwp P n ops Q S ((i,true) :: r) l w:=hwp_o hi (AU (fun _ _=>Li hx) hd h)
theorem h_cvI {s t:TypeId} [TInt P s .u64] [TInt P t .i64] {x:Operand} {a:U64} (hi:ops[i]?=some ⟨some d,.convert s t x,ty,pos,aft,none⟩) (hx:opv l x=some (.int .u64 (a.toNat:Int))) (hd:Nat.blt d n=true) (h:hwp P n ops Q S r ((d,.int .i64 a.toInt) :: l) w)  : hwp P n ops Q S ((i,true) :: r) l w:=hwp_o hi (AU (fun _ _=>Lj hx) hd h)
end
end
section
open Go Go.RowKit
class TCon (P:Program) (t:TypeId):Prop where eq:∃ d,P.underlying t=some d∧(match d with|.interface _=>false|_=>true)=true
instance {P:Program} {t e:TypeId} [h:TPtr P t e]:TCon P t:=⟨⟨_,h.eq,rfl⟩⟩
instance {P:Program} {t:TypeId} [h:TAgg P t]:TCon P t:=⟨by obtain ⟨d,h1,h2⟩:=h.eq;exact ⟨d,h1,by cases d<;>first|rfl|cases h2⟩⟩
class TMth (P:Program) (t:TypeId) (name:String) (f:outParam FuncId) (b:outParam Bool):Prop where
  eq:((P.info? t).bind fun i=>i.methods.find? (·.name == name)).map (fun m=>(m.path.toList,m.func))=some ([],some (f,b))
def Mth (P:Program) (t:TypeId) (v:Value) (name:String) (w:World) (f:FuncId) (r:Value):Prop:=∀ d,(method (P.types.size + Made.depth) t v name).run P (dr w d)=.ok (f,r) (dr w d)
section
variable {P : Program} {t e : TypeId} {name : String} {f : FuncId} {w : World}
theorem TMth.row {b:Bool} (h:TMth P t name f b):∃ i m,P.info? t=some i∧i.methods.find? (·.name == name)=some m∧m.path.toList=[]∧m.func=some (f,b):=by
  obtain ⟨m,h1,h2⟩:=Option.map_eq_some_iff.1 h.eq
  obtain ⟨i,h3,h4⟩:=Option.bind_eq_some_iff.1 h1
  injection h2 with h5 h6
  exact ⟨i,m,h3,h4,h5,h6⟩
theorem Ko {v:Value} [hm:TMth P t name f true] [hp:TPtr P t e]:Mth P t v name w f v:=fun d=>by
  obtain ⟨i,m,h1,h2,h3,h4⟩:=hm.row
  show (method ((P.types.size + 99) + 1) t v name).run P (dr w d)=_
  rw [method]
  simp [typeInfo,h1,h2,h3,h4,follow,receiverAt,run_underlying hp.eq,Place.get]
theorem JU (ts:Array TypeId) (a:Addr) (x y:String):(Builtin.ssaWrapNilChk_ ts t #[.pointer (some a),strVal x,strVal y]).run P w=.ok (.pointer (some a)) w:=rfl
theorem EA {ad:Addr} {u:Value} [hm:TMth P t name f false] [hp:TPtr P t e] [TOne P e] (hc:w.cell? ad=some u):Mth P t (.pointer (some ad)) name w f u:=fun d=>by
  obtain ⟨i,m,h1,h2,h3,h4⟩:=hm.row
  have h5:m.path=#[]:=by cases hm':m.path;rw [hm'] at h3;simp at h3;rw [h3]
  have hl:(load ad).run P (dr w d)=.ok u (dr w d):=by simp [load,Sem.run,IG,hc]
  show (method ((P.types.size + 99) + 1) t _ name).run P (dr w d)=_
  rw [method]
  simp [typeInfo,h1,h2,h4,h5,follow,receiverAt,run_underlying hp.eq,Place.get,JU,asAddr,loadVar,Hi,IG,hc]
end
section
variable {P : Program} {n : Nat} {ops : Array Oper} {Q : Post} {rest : List Oper} {l : Env} {w : World} {d : Tmp} {ty : TypeId} {pos : String} {aft : Array Edge}
theorem Kp {f:FuncId} [hf:Callable P f] {y:Operand} {name:String} {t:TypeId} {v r:Value} {xs:List Operand} {vs:List Value} {ts:Array TypeId} {R:Value→World→Prop} (hm:Mth P t v name w f r) (hy:opv l y=some (.iface t v)) (hx:opvs l xs=some vs) (hd:Nat.blt d n=true) (hc:Fn P f (r :: vs) w R)
    (h:∀ v w',R v w'→owp P n ops Q rest ((d,v) :: l) w'):owp P n ops Q (⟨some d,.call { callee:=.invoke y name,args:=xs.toArray,argTypes:=ts },ty,pos,aft,none⟩ :: rest) l w :=
  Gf fun a e ha K hK=>by
    obtain ⟨fn,h1,h2,h3⟩:=hf.eq
    have h2':¬ fn.body=none:=fun e=>by rw [e] at h2;simp at h2
    have h3' : ¬ fn.name = "runtime.NumGoroutine" := fun e => by rw [e] at h3; simp at h3
    unfold Oper.wp
    have:(execOp a.eval ⟨some d,.call { callee:=.invoke y name,args:=xs.toArray,argTypes:=ts },ty,pos,aft,none⟩).run P (dr w e)=.ok (.enter f (r :: vs).toArray) (dr w e):=by
      simp [execOp,resolve,ha.eval hy,invoke,callMethod,hm e,callFunc,h1,h2',h3',ha.evals hx]
    rw [this]
    exact (hc e).mono fun _ _ ⟨v,w₀,d',he,hw,hR⟩=>by subst he;subst hw;exact hK _ _ (h v w₀ hR _ _ (ha.put hd v))
theorem Hm {T:Nat→Prop} {f:FuncId} [Callable P f] {y:Operand} {name:String} {t:TypeId} {v r:Value} {xs:List Operand} {vs:List Value} {ts:Array TypeId} {O:Lab} {R:Value→World→Lab→Prop}
    (hc:Fn P f (r :: vs) w fun v w'=>∃ O',St T w O w' O'∧R v w' O') (hm:Mth P t v name w f r) (hy:opv l y=some (.iface t v)) (hx:opvs l xs=some vs) (hd:Nat.blt d n=true)
    (h:∀ v w' O',St T w O w' O'→R v w' O'→owp P n ops Q rest ((d,v) :: l) w'):owp P n ops Q (⟨some d,.call { callee:=.invoke y name,args:=xs.toArray,argTypes:=ts },ty,pos,aft,none⟩ :: rest) l w :=
  Kp hm hy hx hd hc fun v w' ⟨O',hS,hR⟩=>h v w' O' hS hR
theorem Hn {f:FuncId} [Callable P f] {y:Operand} {name:String} {t:TypeId} {v r:Value} {xs:List Operand} {vs:List Value} {ts:Array TypeId} {O:Lab} {A:Nat→Prop} {R:World→(Nat→Prop)→Value→Prop} (hc:Fn P f (r :: vs) w fun v w'=>Ext w w'∧R w' (upA A w w') v) (hm:Mth P t v name w f r) (hy:opv l y=some (.iface t v)) (hx:opvs l xs=some vs) (hd:Nat.blt d n=true)
    (h:∀ v w' O',St nT w O w' O'→R w' (upA A w w') v→owp P n ops Q rest ((d,v) :: l) w'):owp P n ops Q (⟨some d,.call { callee:=.invoke y name,args:=xs.toArray,argTypes:=ts },ty,pos,aft,none⟩ :: rest) l w :=
  Kp hm hy hx hd hc fun v w' ⟨hE,hR⟩=>h v w' (upO O w.heap.size fun _=>0) (hE.st O _) hR
end
def quoT (a b:Int):Option Int:=if 0 < b then some (if 0≤a then a / b else -((-a) / b)) else none
theorem Kq {a b r:Int} (h:quoT a b=some r) (ha:inI64 a):inI64 r:=by
  unfold quoT at h
  split at h
  · rename_i hb
    rw [← sm h]
    unfold inI64 at *
    split
    · rename_i h0
      have:=Int.ediv_le_self b h0
      have:=Int.ediv_nonneg h0 (show 0≤b by omega)
      omega
    · have h0:0≤-a:=by omega
      have:=Int.ediv_le_self b h0
      have:=Int.ediv_nonneg h0 (show 0≤b by omega)
      omega
  · cases h
theorem Nc {P:Program} {l:Env} {w:World} {dst:Option Tmp} {ty:TypeId} {pos:String} {aft:Array Edge} {t u:TypeId} {x y:Operand} {a b c:Int} (hx:opv l x=some (.int .i64 a)) (hy:opv l y=some (.int .i64 b)) (he:quoT a b=some c) (hr:inI64 a):Ev P ⟨dst,.binOp .quo t x y u,ty,pos,aft,none⟩ l w (.int .i64 c):=fun _ _ d ha=>by
  have hc:=Kq he hr
  unfold quoT at he
  split at he
  · rename_i hb
    have hn:b≠0:=by omega
    have h1:a.tdiv b=c:=by
      rw [← sm he]
      split
      · rename_i h0;exact Int.tdiv_eq_ediv_of_nonneg h0
      · rw [← Int.tdiv_eq_ediv_of_nonneg (show 0≤-a by omega),Int.neg_tdiv,Int.neg_neg]
    simp [execOp,ha.eval hx,ha.eval hy,eqGuard,binOp,Op.intDiv,hn,h1,wrap_i64 hc.1 hc.2]
  · cases he
structure An (t:TypeId) (α:Type) where
  x:α
instance {t:TypeId} {α:Type} [Rp α]:Rp (An t α) where
  isAgg:=false
  size:=1
  R w F cs a:=∃ v,cs=[.iface t v]∧Vb w F v a.x
  len:=by rintro w F cs x ⟨v,rfl,_⟩;rfl
  one:=by
    rintro w F cs x ⟨v,rfl,_⟩ u hu
    have:u=.iface t v:=by simpa using hu
    subst this;rfl
  agree:=by rintro w w' F cs x ⟨v,rfl,h⟩ ha;exact ⟨v,rfl,h.agree ha⟩
  mono:=by rintro w F G cs x ⟨v,rfl,h⟩ ha;exact ⟨v,rfl,h.mono ha⟩
theorem Vb.any {w:World} {F:Nat→Prop} {v:Value} {t:TypeId} {α:Type} [Rp α] {x:An t α} (h:Vb w F v x):∃ u,v=.iface t u∧Vb w F u x.x:=by
  obtain ⟨u,hu,h'⟩:=h
  exact ⟨u,by simpa using hu,h'⟩
theorem vAny {w:World} {F:Nat→Prop} {v:Value} {t:TypeId} {α:Type} [Rp α] {x:α} (h:Vb w F v x):Vb w F (.iface t v) (⟨x⟩:An t α):=⟨v,rfl,h⟩
section
variable {P : Program} {l : Env} {w : World} {dst : Option Tmp} {ty : TypeId} {pos : String} {aft : Array Edge}
theorem Nd {t:TypeId} [hk:TCon P t] {x:Operand} {v:Value} (hx:opv l x=some v):Ev P ⟨dst,.makeInterface t x,ty,pos,aft,none⟩ l w (.iface t v):=fun _ a d ha=>by
  obtain ⟨q,h1,h2⟩:=hk.eq
  cases q<;>first|(cases h2;done)|simp [execOp,ha.eval hx,Instr.makeInterface,run_underlying h1]
theorem Nf {s t:TypeId} [hk:TCon P t] {x:Operand} {v:Value} (hx:opv l x=some (.iface t v)):Ev P ⟨dst,.typeAssert x s t true,ty,pos,aft,none⟩ l w (.tuple #[v,.bool true]):=fun _ a d ha=>by
  obtain ⟨q,h1,h2⟩:=hk.eq
  cases q<;>first|(cases h2;done)|simp [execOp,ha.eval hx,Instr.typeAssert,run_underlying h1]
end
section
variable {P : Program} {n : Nat} {ops : Array Oper} {Q : Post} {S : World → Prop} {rest : List Oper} {r : List (Nat × Bool)} {l : Env} {w : World} {d i : Nat} {ty : TypeId} {pos : String} {aft : Array Edge}
theorem o_qtE {t u:TypeId} {x y:Operand} {a b c:Int} (hx:opv l x=some (.int .i64 a)) (hy:opv l y=some (.int .i64 b)) (hd:Nat.blt d n=true) (h:owp P n ops Q rest ((d,.int .i64 c) :: l) w) (he:quoT a b=some c:=by assumption) (hr:inI64 a:=by assumption):owp P n ops Q (⟨some d,.binOp .quo t x y u,ty,pos,aft,none⟩ :: rest) l w:=AT (Nc hx hy he hr) hd h
theorem o_miA {t:TypeId} [TCon P t] {x:Operand} {v:Value} (hx:opv l x=some v) (hd:Nat.blt d n=true) (h:owp P n ops Q rest ((d,.iface t v) :: l) w):owp P n ops Q (⟨some d,.makeInterface t x,ty,pos,aft,none⟩ :: rest) l w:=AT (Nd hx) hd h
theorem o_taA {s t:TypeId} [TCon P t] {x:Operand} {v:Value} (hx:opv l x=some (.iface t v)) (hd:Nat.blt d n=true) (h:owp P n ops Q rest ((d,.tuple #[v,.bool true]) :: l) w):owp P n ops Q (⟨some d,.typeAssert x s t true,ty,pos,aft,none⟩ :: rest) l w:=AT (Nf hx) hd h
end
end
section
open Go Go.RowKit
attribute [local irreducible] ewp owp hwp hwq hws Ev Evg Fn retPost loud loudS Res1
def hasB (s:List Int) (x:Fct):Bool:=decide (0≤x.var) && decide (s[x.var.toNat]?=some x.val)
def holdsB (f:List Fct) (s:List Int):Bool:=f.all (hasB s)
theorem FP {f:List Fct} {s:List Int} {k:Nat} {x:Fct} (hx:f[k]?=some x) (h:hasB s x=false):holdsB f s=false:=by
  unfold holdsB
  rw [List.all_eq_false]
  exact ⟨x,List.mem_of_getElem? hx,by simp [h]⟩
theorem HR {f:List Fct} {s:List Int} {k:Nat} {x:Fct} (hx:f[k]?=some x) (h:hasB s x=true) (hh:holdsB (f.take k) s=true):holdsB (f.take (k + 1)) s=true:=by
  unfold holdsB at *
  rw [List.take_add_one,hx,List.all_append,hh]
  simp [h]
theorem IL {s:List Int} {x:Fct} {j:Nat} {y:Int} (hj:x.var=(j:Int)) (hy:s[j]?=some y):hasB s x=decide (y=x.val):=by
  unfold hasB
  rw [hj];simp [hy]
theorem AH {α:Type} {l:List α} {k:Nat} (h:k < l.length):∃ x,l[k]?=some x:=⟨l[k],List.getElem?_eq_getElem h⟩
theorem Bf {α:Type} {l:List α} {k:Nat} {x:α} (h:l[k]?=some x):k < l.length:=(List.getElem?_eq_some_iff.1 h).1
theorem baseHolds {w:World} {fv sv:Value} {f:List Fct} {s:List Int} (hf:V w fv f) (hs:V w sv s) :
    Fn Try.prog 43 [fv,sv] w fun v w'=>v=.bool (bof (holdsB f s=true))∧Ext w w':=by
  obtain ⟨Af,cf,rfl⟩:=hf.form
  obtain ⟨As,cs,rfl⟩:=hs.form
  have hfl:=hf.len
  refine AL Try.func43 rfl Try.ntmps43 rfl ?_
  ((repeat (first|refine Ah ?_|refine Al ?_|refine Ae ?_|refine Am ?_|refine At ?_|refine Au ?_|refine Ar rfl ?_|refine Aj rfl ?_))<;>(refine o_as rfl rfl ?_<;>(first|refine Ay ?_|refine Az ?_|refine Aw ?_|refine AA ?_))<;>(repeat (first|refine Ah ?_|refine Al ?_|refine Ae ?_|refine Am ?_|refine At ?_|refine Au ?_|refine Ar rfl ?_|refine Aj rfl ?_))<;>(refine o_mv rfl rfl ?_<;>refine o_ln rfl rfl ?_<;>refine o_mv rfl rfl ?_<;>(first|refine Ay ?_|refine Az ?_|refine Aw ?_|refine AA ?_))<;>(repeat (first|refine Ah ?_|refine Al ?_|refine Ae ?_|refine Am ?_|refine At ?_|refine Au ?_|refine Ar rfl ?_|refine Aj rfl ?_)))
  refine Ds (fun k:Nat=>[(1,.slice As s.length cs),(7,.slice Af f.length cf),(8,.int .i64 (f.length:Int)),(9,.int .i64 (k:Int))])
    (fun k w'=>Ext w w'∧k≤f.length∧holdsB (f.take k) s=true) (fun k=>f.length - k) 0 ⟨Below.refl _ _,Nat.zero_le _,rfl⟩ ⟨rfl,rfl,rfl,rfl,trivial⟩ ?_
  rintro k w1 ⟨hE,hk,hh⟩
  by_cases hlt:k < f.length
  · obtain ⟨x,hx⟩:=AH hlt
    obtain ⟨b,o,ce,rfl,hb,_,hd1,rfl,hr1,hr2⟩:=(hf.ext hE).elem hx
    ((repeat (first|refine Ah ?_|refine Al ?_|refine Ae ?_|refine Am ?_|refine At ?_|refine Au ?_|refine Ar rfl ?_|refine Aj rfl ?_))<;>((first|refine o_ltT rfl rfl rfl ?_|refine o_ltF rfl rfl rfl ?_)<;>(first|refine Ay ?_|refine Az ?_|refine Aw ?_|refine AA ?_))<;>(repeat (first|refine Ah ?_|refine Al ?_|refine Ae ?_|refine Am ?_|refine At ?_|refine Au ?_|refine Ar rfl ?_|refine Aj rfl ?_))<;>(refine o_ia rfl rfl rfl ?_<;>refine o_la rfl rfl ?_)<;>(repeat (first|refine Ah ?_|refine Al ?_|refine Ae ?_|refine Am ?_|refine At ?_|refine Au ?_|refine Ar rfl ?_|refine Aj rfl ?_)))
    refine BE rfl rfl rfl (by simp [Value.cells,Value.oneCell']) fun w3 hN=>?_
    have hb1:=hN.blk
    have hE3:Ext w w3:=hE.trans' hN.ext
    ((first|refine Ay ?_|refine Az ?_|refine Aw ?_|refine AA ?_))
    repeat (first|refine Ah ?_|refine Al ?_|refine Ae ?_|refine Am ?_|refine At ?_|refine Au ?_|refine Ar rfl ?_|refine Aj rfl ?_)
    refine BJ (·=w3) [(0,true),(1,true),(2,true),(3,true),(4,true),(5,true),(6,true),(7,true),(8,true),(9,true),(10,true),(11,true),(12,true),(13,true),(14,true),(15,true),(16,true),(17,true),(18,true),(19,true)] (by kernel_rfl) rfl (by kernel_rfl) rfl ?_
    by_cases hv:0≤x.var∧x.var < s.length
    · obtain ⟨j,hj1⟩:=Int.eq_ofNat_of_zero_le hv.1
      obtain ⟨y,hy⟩:=AH (l:=s) (k:=j) (by omega)
      obtain ⟨b2,o2,ce2,rfl,_,_,hd2,rfl,_⟩:=(hs.ext hE3).elem hy
      have hq:=IL (s:=s) hj1 hy
      (refine h_fa rfl rfl rfl ?_<;>refine h_ldA rfl rfl rfl ?_<;>(first|refine h_ltT rfl rfl rfl rfl ?_|refine h_ltF rfl rfl rfl rfl ?_|refine h_ltS rfl rfl rfl rfl (fun _=>?_) fun _=>?_)<;>refine h_mv rfl rfl rfl ?_<;>(refine hwp_o rfl ?_;(first|(refine AC rfl rfl ?_;refine g_fa rfl rfl ?_)|refine AF rfl rfl rfl rfl ?_))<;>(refine hwp_o rfl ?_;(first|(refine AC rfl rfl ?_;refine g_ldA rfl rfl ?_)|refine AF rfl rfl rfl rfl ?_))<;>(refine hwp_o rfl ?_;(first|(refine AC rfl rfl ?_;refine g_mv rfl rfl ?_)|refine AF rfl rfl rfl rfl ?_))<;>(refine hwp_o rfl ?_;(first|(refine AC rfl rfl ?_;refine g_ln rfl rfl ?_)|refine AF rfl rfl rfl rfl ?_))<;>(refine hwp_o rfl ?_;(first|(refine AC rfl rfl ?_;(first|refine Bw (fun _ _=>AR rfl rfl) rfl (by omega) ?_|refine Bx (fun _ _=>AR rfl rfl) rfl (by omega) ?_|refine AP (fun _ _=>AR rfl rfl) rfl (fun _=>?_) (fun _=>?_)))|refine AF rfl rfl rfl rfl ?_))<;>(first|refine h_pt rfl rfl rfl rfl ?_|refine h_pf rfl rfl rfl rfl ?_)<;>refine h_mv rfl rfl rfl ?_<;>(refine hwp_o rfl ?_;(first|(refine AC rfl rfl ?_;refine g_mv rfl rfl ?_)|refine AF rfl rfl rfl rfl ?_))<;>(refine hwp_o rfl ?_;(first|(refine AC rfl rfl ?_;refine g_fa rfl rfl ?_)|refine AF rfl rfl rfl rfl ?_))<;>(refine hwp_o rfl ?_;(first|(refine AC rfl rfl ?_;refine g_ldA rfl rfl ?_)|refine AF rfl rfl rfl rfl ?_))<;>(refine hwp_o rfl ?_;(first|(refine AC rfl rfl ?_;refine g_ia rfl rfl rfl ?_)|refine AF rfl rfl rfl rfl ?_))<;>(refine hwp_o rfl ?_;(first|(refine AC rfl rfl ?_;refine g_ldA rfl rfl ?_)|refine AF rfl rfl rfl rfl ?_))<;>(refine hwp_o rfl ?_;(first|(refine AC rfl rfl ?_;refine g_fa rfl rfl ?_)|refine AF rfl rfl rfl rfl ?_))<;>(refine hwp_o rfl ?_;(first|(refine AC rfl rfl ?_;refine g_ldA rfl rfl ?_)|refine AF rfl rfl rfl rfl ?_))<;>(refine hwp_o rfl ?_;(first|(refine AC rfl rfl ?_;(first|refine Bw (fun _ _=>ev_ne rfl rfl) rfl (by omega) ?_|refine Bx (fun _ _=>ev_ne rfl rfl) rfl (by omega) ?_|refine AP (fun _ _=>ev_ne rfl rfl) rfl (fun _=>?_) (fun _=>?_)))|refine AF rfl rfl rfl rfl ?_))<;>(first|refine h_pt rfl rfl rfl rfl ?_|refine h_pf rfl rfl rfl rfl ?_)<;>(first|refine AK ?_|refine BS ?_|refine BU ?_))<;>(repeat (first|refine Ah ?_|refine Al ?_|refine Ae ?_|refine Am ?_|refine At ?_|refine Au ?_|refine Ar rfl ?_|refine Aj rfl ?_))
      · ((repeat (first|refine Ah ?_|refine Al ?_|refine Ae ?_|refine Am ?_|refine At ?_|refine Au ?_|refine Ar rfl ?_|refine Aj rfl ?_))<;>(refine o_as rfl rfl ?_<;>(first|refine Ay ?_|refine Az ?_|refine Aw ?_|refine AA ?_))<;>(repeat (first|refine Ah ?_|refine Al ?_|refine Ae ?_|refine Am ?_|refine At ?_|refine Au ?_|refine Ar rfl ?_|refine Aj rfl ?_)))
        refine ret1 rfl rfl ⟨?_,hE3⟩
        rw [FP hx (by rw [hq];simpa using ‹_›),bof_b]
      · ((first|refine o_ic rfl rfl ?_|refine o_ad rfl rfl rfl ?_)<;>refine o_mv rfl rfl ?_<;>(first|refine Ay ?_|refine Az ?_|refine Aw ?_|refine AA ?_))
        exact ⟨k + 1,⟨rfl,rfl,rfl,rfl,trivial⟩,⟨hE3,by omega,HR hx (by rw [hq];simp;omega) hh⟩,by omega⟩
    · have hq:hasB s x=false:=by
        unfold hasB
        by_cases h0:0≤x.var
        · have:s.length≤x.var.toNat:=by omega
          simp [List.getElem?_eq_none this]
        · simp [h0]
      (refine h_fa rfl rfl rfl ?_<;>refine h_ldA rfl rfl rfl ?_<;>(first|refine h_ltT rfl rfl rfl rfl ?_|refine h_ltF rfl rfl rfl rfl ?_|refine h_ltS rfl rfl rfl rfl (fun _=>?_) fun _=>?_)<;>refine h_mv rfl rfl rfl ?_<;>(refine hwp_o rfl ?_;(first|(refine AC rfl rfl ?_;refine g_fa rfl rfl ?_)|refine AF rfl rfl rfl rfl ?_))<;>(refine hwp_o rfl ?_;(first|(refine AC rfl rfl ?_;refine g_ldA rfl rfl ?_)|refine AF rfl rfl rfl rfl ?_))<;>(refine hwp_o rfl ?_;(first|(refine AC rfl rfl ?_;refine g_mv rfl rfl ?_)|refine AF rfl rfl rfl rfl ?_))<;>(refine hwp_o rfl ?_;(first|(refine AC rfl rfl ?_;refine g_ln rfl rfl ?_)|refine AF rfl rfl rfl rfl ?_))<;>(refine hwp_o rfl ?_;(first|(refine AC rfl rfl ?_;(first|refine Bw (fun _ _=>AR rfl rfl) rfl (by omega) ?_|refine Bx (fun _ _=>AR rfl rfl) rfl (by omega) ?_|refine AP (fun _ _=>AR rfl rfl) rfl (fun _=>?_) (fun _=>?_)))|refine AF rfl rfl rfl rfl ?_))<;>(first|refine h_pt rfl rfl rfl rfl ?_|refine h_pf rfl rfl rfl rfl ?_)<;>refine h_mv rfl rfl rfl ?_<;>(refine hwp_o rfl ?_;(first|(refine AC rfl rfl ?_;refine g_mv rfl rfl ?_)|refine AF rfl rfl rfl rfl ?_))<;>(refine hwp_o rfl ?_;(first|(refine AC rfl rfl ?_;refine g_fa rfl rfl ?_)|refine AF rfl rfl rfl rfl ?_))<;>(refine hwp_o rfl ?_;(first|(refine AC rfl rfl ?_;refine g_ldA rfl rfl ?_)|refine AF rfl rfl rfl rfl ?_))<;>(refine hwp_o rfl ?_;(first|(refine AC rfl rfl ?_;refine g_ia rfl rfl rfl ?_)|refine AF rfl rfl rfl rfl ?_))<;>(refine hwp_o rfl ?_;(first|(refine AC rfl rfl ?_;refine g_ldA rfl rfl ?_)|refine AF rfl rfl rfl rfl ?_))<;>(refine hwp_o rfl ?_;(first|(refine AC rfl rfl ?_;refine g_fa rfl rfl ?_)|refine AF rfl rfl rfl rfl ?_))<;>(refine hwp_o rfl ?_;(first|(refine AC rfl rfl ?_;refine g_ldA rfl rfl ?_)|refine AF rfl rfl rfl rfl ?_))<;>(refine hwp_o rfl ?_;(first|(refine AC rfl rfl ?_;(first|refine Bw (fun _ _=>ev_ne rfl rfl) rfl (by omega) ?_|refine Bx (fun _ _=>ev_ne rfl rfl) rfl (by omega) ?_|refine AP (fun _ _=>ev_ne rfl rfl) rfl (fun _=>?_) (fun _=>?_)))|refine AF rfl rfl rfl rfl ?_))<;>(first|refine h_pt rfl rfl rfl rfl ?_|refine h_pf rfl rfl rfl rfl ?_)<;>(first|refine AK ?_|refine BS ?_|refine BU ?_))<;>(repeat (first|refine Ah ?_|refine Al ?_|refine Ae ?_|refine Am ?_|refine At ?_|refine Au ?_|refine Ar rfl ?_|refine Aj rfl ?_))
      all_goals
        ((repeat (first|refine Ah ?_|refine Al ?_|refine Ae ?_|refine Am ?_|refine At ?_|refine Au ?_|refine Ar rfl ?_|refine Aj rfl ?_))<;>(refine o_as rfl rfl ?_<;>(first|refine Ay ?_|refine Az ?_|refine Aw ?_|refine AA ?_))<;>(repeat (first|refine Ah ?_|refine Al ?_|refine Ae ?_|refine Am ?_|refine At ?_|refine Au ?_|refine Ar rfl ?_|refine Aj rfl ?_)))
        refine ret1 rfl rfl ⟨?_,hE3⟩
        rw [FP hx hq,bof_b]
  · ((repeat (first|refine Ah ?_|refine Al ?_|refine Ae ?_|refine Am ?_|refine At ?_|refine Au ?_|refine Ar rfl ?_|refine Aj rfl ?_))<;>((first|refine o_ltT rfl rfl rfl ?_|refine o_ltF rfl rfl rfl ?_)<;>(first|refine Ay ?_|refine Az ?_|refine Aw ?_|refine AA ?_))<;>(repeat (first|refine Ah ?_|refine Al ?_|refine Ae ?_|refine Am ?_|refine At ?_|refine Au ?_|refine Ar rfl ?_|refine Aj rfl ?_))<;>(refine o_as rfl rfl ?_<;>(first|refine Ay ?_|refine Az ?_|refine Aw ?_|refine AA ?_))<;>(repeat (first|refine Ah ?_|refine Al ?_|refine Ae ?_|refine Am ?_|refine At ?_|refine Au ?_|refine Ar rfl ?_|refine Aj rfl ?_)))
    refine ret1 rfl rfl ⟨?_,hE⟩
    rw [List.take_of_length_le (by omega)] at hh
    rw [hh,bof_b]
theorem taskHolds {w:World} {fv sv:Value} {f:List Fct} {s:List Int} (hf:V w fv f) (hs:V w sv s) :
    Fn Try.prog 37 [fv,sv] w fun v w'=>v=.bool (bof (holdsB f s=true))∧Ext w w':=by
  obtain ⟨Af,cf,rfl⟩:=hf.form
  obtain ⟨As,cs,rfl⟩:=hs.form
  have hfl:=hf.len
  refine AL Try.func37 rfl Try.ntmps37 rfl ?_
  ((repeat (first|refine Ah ?_|refine Al ?_|refine Ae ?_|refine Am ?_|refine At ?_|refine Au ?_|refine Ar rfl ?_|refine Aj rfl ?_))<;>(refine o_as rfl rfl ?_<;>(first|refine Ay ?_|refine Az ?_|refine Aw ?_|refine AA ?_))<;>(repeat (first|refine Ah ?_|refine Al ?_|refine Ae ?_|refine Am ?_|refine At ?_|refine Au ?_|refine Ar rfl ?_|refine Aj rfl ?_))<;>(refine o_mv rfl rfl ?_<;>refine o_ln rfl rfl ?_<;>refine o_mv rfl rfl ?_<;>(first|refine Ay ?_|refine Az ?_|refine Aw ?_|refine AA ?_))<;>(repeat (first|refine Ah ?_|refine Al ?_|refine Ae ?_|refine Am ?_|refine At ?_|refine Au ?_|refine Ar rfl ?_|refine Aj rfl ?_)))
  refine Ds (fun k:Nat=>[(1,.slice As s.length cs),(7,.slice Af f.length cf),(8,.int .i64 (f.length:Int)),(9,.int .i64 (k:Int))])
    (fun k w'=>Ext w w'∧k≤f.length∧holdsB (f.take k) s=true) (fun k=>f.length - k) 0 ⟨Below.refl _ _,Nat.zero_le _,rfl⟩ ⟨rfl,rfl,rfl,rfl,trivial⟩ ?_
  rintro k w1 ⟨hE,hk,hh⟩
  by_cases hlt:k < f.length
  · obtain ⟨x,hx⟩:=AH hlt
    obtain ⟨b,o,ce,rfl,hb,_,hd1,rfl,hr1,hr2⟩:=(hf.ext hE).elem hx
    ((repeat (first|refine Ah ?_|refine Al ?_|refine Ae ?_|refine Am ?_|refine At ?_|refine Au ?_|refine Ar rfl ?_|refine Aj rfl ?_))<;>((first|refine o_ltT rfl rfl rfl ?_|refine o_ltF rfl rfl rfl ?_)<;>(first|refine Ay ?_|refine Az ?_|refine Aw ?_|refine AA ?_))<;>(repeat (first|refine Ah ?_|refine Al ?_|refine Ae ?_|refine Am ?_|refine At ?_|refine Au ?_|refine Ar rfl ?_|refine Aj rfl ?_))<;>(refine o_ia rfl rfl rfl ?_<;>refine o_la rfl rfl ?_)<;>(repeat (first|refine Ah ?_|refine Al ?_|refine Ae ?_|refine Am ?_|refine At ?_|refine Au ?_|refine Ar rfl ?_|refine Aj rfl ?_)))
    refine BE rfl rfl rfl (by simp [Value.cells,Value.oneCell']) fun w3 hN=>?_
    have hb1:=hN.blk
    have hE3:Ext w w3:=hE.trans' hN.ext
    ((first|refine Ay ?_|refine Az ?_|refine Aw ?_|refine AA ?_))
    repeat (first|refine Ah ?_|refine Al ?_|refine Ae ?_|refine Am ?_|refine At ?_|refine Au ?_|refine Ar rfl ?_|refine Aj rfl ?_)
    refine BJ (·=w3) [(0,true),(1,true),(2,true),(3,true),(4,true),(5,true),(6,true),(7,true),(8,true),(9,true),(10,true),(11,true),(12,true),(13,true),(14,true),(15,true),(16,true),(17,true),(18,true),(19,true)] (by kernel_rfl) rfl (by kernel_rfl) rfl ?_
    by_cases hv:0≤x.var∧x.var < s.length
    · obtain ⟨j,hj1⟩:=Int.eq_ofNat_of_zero_le hv.1
      obtain ⟨y,hy⟩:=AH (l:=s) (k:=j) (by omega)
      obtain ⟨b2,o2,ce2,rfl,_,_,hd2,rfl,_⟩:=(hs.ext hE3).elem hy
      have hq:=IL (s:=s) hj1 hy
      (refine h_fa rfl rfl rfl ?_<;>refine h_ldA rfl rfl rfl ?_<;>(first|refine h_ltT rfl rfl rfl rfl ?_|refine h_ltF rfl rfl rfl rfl ?_|refine h_ltS rfl rfl rfl rfl (fun _=>?_) fun _=>?_)<;>refine h_mv rfl rfl rfl ?_<;>(refine hwp_o rfl ?_;(first|(refine AC rfl rfl ?_;refine g_fa rfl rfl ?_)|refine AF rfl rfl rfl rfl ?_))<;>(refine hwp_o rfl ?_;(first|(refine AC rfl rfl ?_;refine g_ldA rfl rfl ?_)|refine AF rfl rfl rfl rfl ?_))<;>(refine hwp_o rfl ?_;(first|(refine AC rfl rfl ?_;refine g_mv rfl rfl ?_)|refine AF rfl rfl rfl rfl ?_))<;>(refine hwp_o rfl ?_;(first|(refine AC rfl rfl ?_;refine g_ln rfl rfl ?_)|refine AF rfl rfl rfl rfl ?_))<;>(refine hwp_o rfl ?_;(first|(refine AC rfl rfl ?_;(first|refine Bw (fun _ _=>AR rfl rfl) rfl (by omega) ?_|refine Bx (fun _ _=>AR rfl rfl) rfl (by omega) ?_|refine AP (fun _ _=>AR rfl rfl) rfl (fun _=>?_) (fun _=>?_)))|refine AF rfl rfl rfl rfl ?_))<;>(first|refine h_pt rfl rfl rfl rfl ?_|refine h_pf rfl rfl rfl rfl ?_)<;>refine h_mv rfl rfl rfl ?_<;>(refine hwp_o rfl ?_;(first|(refine AC rfl rfl ?_;refine g_mv rfl rfl ?_)|refine AF rfl rfl rfl rfl ?_))<;>(refine hwp_o rfl ?_;(first|(refine AC rfl rfl ?_;refine g_fa rfl rfl ?_)|refine AF rfl rfl rfl rfl ?_))<;>(refine hwp_o rfl ?_;(first|(refine AC rfl rfl ?_;refine g_ldA rfl rfl ?_)|refine AF rfl rfl rfl rfl ?_))<;>(refine hwp_o rfl ?_;(first|(refine AC rfl rfl ?_;refine g_ia rfl rfl rfl ?_)|refine AF rfl rfl rfl rfl ?_))<;>(refine hwp_o rfl ?_;(first|(refine AC rfl rfl ?_;refine g_ldA rfl rfl ?_)|refine AF rfl rfl rfl rfl ?_))<;>(refine hwp_o rfl ?_;(first|(refine AC rfl rfl ?_;refine g_fa rfl rfl ?_)|refine AF rfl rfl rfl rfl ?_))<;>(refine hwp_o rfl ?_;(first|(refine AC rfl rfl ?_;refine g_ldA rfl rfl ?_)|refine AF rfl rfl rfl rfl ?_))<;>(refine hwp_o rfl ?_;(first|(refine AC rfl rfl ?_;(first|refine Bw (fun _ _=>ev_ne rfl rfl) rfl (by omega) ?_|refine Bx (fun _ _=>ev_ne rfl rfl) rfl (by omega) ?_|refine AP (fun _ _=>ev_ne rfl rfl) rfl (fun _=>?_) (fun _=>?_)))|refine AF rfl rfl rfl rfl ?_))<;>(first|refine h_pt rfl rfl rfl rfl ?_|refine h_pf rfl rfl rfl rfl ?_)<;>(first|refine AK ?_|refine BS ?_|refine BU ?_))<;>(repeat (first|refine Ah ?_|refine Al ?_|refine Ae ?_|refine Am ?_|refine At ?_|refine Au ?_|refine Ar rfl ?_|refine Aj rfl ?_))
      · ((repeat (first|refine Ah ?_|refine Al ?_|refine Ae ?_|refine Am ?_|refine At ?_|refine Au ?_|refine Ar rfl ?_|refine Aj rfl ?_))<;>(refine o_as rfl rfl ?_<;>(first|refine Ay ?_|refine Az ?_|refine Aw ?_|refine AA ?_))<;>(repeat (first|refine Ah ?_|refine Al ?_|refine Ae ?_|refine Am ?_|refine At ?_|refine Au ?_|refine Ar rfl ?_|refine Aj rfl ?_)))
        refine ret1 rfl rfl ⟨?_,hE3⟩
        rw [FP hx (by rw [hq];simpa using ‹_›),bof_b]
      · ((first|refine o_ic rfl rfl ?_|refine o_ad rfl rfl rfl ?_)<;>refine o_mv rfl rfl ?_<;>(first|refine Ay ?_|refine Az ?_|refine Aw ?_|refine AA ?_))
        exact ⟨k + 1,⟨rfl,rfl,rfl,rfl,trivial⟩,⟨hE3,by omega,HR hx (by rw [hq];simp;omega) hh⟩,by omega⟩
    · have hq:hasB s x=false:=by
        unfold hasB
        by_cases h0:0≤x.var
        · have:s.length≤x.var.toNat:=by omega
          simp [List.getElem?_eq_none this]
        · simp [h0]
      (refine h_fa rfl rfl rfl ?_<;>refine h_ldA rfl rfl rfl ?_<;>(first|refine h_ltT rfl rfl rfl rfl ?_|refine h_ltF rfl rfl rfl rfl ?_|refine h_ltS rfl rfl rfl rfl (fun _=>?_) fun _=>?_)<;>refine h_mv rfl rfl rfl ?_<;>(refine hwp_o rfl ?_;(first|(refine AC rfl rfl ?_;refine g_fa rfl rfl ?_)|refine AF rfl rfl rfl rfl ?_))<;>(refine hwp_o rfl ?_;(first|(refine AC rfl rfl ?_;refine g_ldA rfl rfl ?_)|refine AF rfl rfl rfl rfl ?_))<;>(refine hwp_o rfl ?_;(first|(refine AC rfl rfl ?_;refine g_mv rfl rfl ?_)|refine AF rfl rfl rfl rfl ?_))<;>(refine hwp_o rfl ?_;(first|(refine AC rfl rfl ?_;refine g_ln rfl rfl ?_)|refine AF rfl rfl rfl rfl ?_))<;>(refine hwp_o rfl ?_;(first|(refine AC rfl rfl ?_;(first|refine Bw (fun _ _=>AR rfl rfl) rfl (by omega) ?_|refine Bx (fun _ _=>AR rfl rfl) rfl (by omega) ?_|refine AP (fun _ _=>AR rfl rfl) rfl (fun _=>?_) (fun _=>?_)))|refine AF rfl rfl rfl rfl ?_))<;>(first|refine h_pt rfl rfl rfl rfl ?_|refine h_pf rfl rfl rfl rfl ?_)<;>refine h_mv rfl rfl rfl ?_<;>(refine hwp_o rfl ?_;(first|(refine AC rfl rfl ?_;refine g_mv rfl rfl ?_)|refine AF rfl rfl rfl rfl ?_))<;>(refine hwp_o rfl ?_;(first|(refine AC rfl rfl ?_;refine g_fa rfl rfl ?_)|refine AF rfl rfl rfl rfl ?_))<;>(refine hwp_o rfl ?_;(first|(refine AC rfl rfl ?_;refine g_ldA rfl rfl ?_)|refine AF rfl rfl rfl rfl ?_))<;>(refine hwp_o rfl ?_;(first|(refine AC rfl rfl ?_;refine g_ia rfl rfl rfl ?_)|refine AF rfl rfl rfl rfl ?_))<;>(refine hwp_o rfl ?_;(first|(refine AC rfl rfl ?_;refine g_ldA rfl rfl ?_)|refine AF rfl rfl rfl rfl ?_))<;>(refine hwp_o rfl ?_;(first|(refine AC rfl rfl ?_;refine g_fa rfl rfl ?_)|refine AF rfl rfl rfl rfl ?_))<;>(refine hwp_o rfl ?_;(first|(refine AC rfl rfl ?_;refine g_ldA rfl rfl ?_)|refine AF rfl rfl rfl rfl ?_))<;>(refine hwp_o rfl ?_;(first|(refine AC rfl rfl ?_;(first|refine Bw (fun _ _=>ev_ne rfl rfl) rfl (by omega) ?_|refine Bx (fun _ _=>ev_ne rfl rfl) rfl (by omega) ?_|refine AP (fun _ _=>ev_ne rfl rfl) rfl (fun _=>?_) (fun _=>?_)))|refine AF rfl rfl rfl rfl ?_))<;>(first|refine h_pt rfl rfl rfl rfl ?_|refine h_pf rfl rfl rfl rfl ?_)<;>(first|refine AK ?_|refine BS ?_|refine BU ?_))<;>(repeat (first|refine Ah ?_|refine Al ?_|refine Ae ?_|refine Am ?_|refine At ?_|refine Au ?_|refine Ar rfl ?_|refine Aj rfl ?_))
      all_goals
        ((repeat (first|refine Ah ?_|refine Al ?_|refine Ae ?_|refine Am ?_|refine At ?_|refine Au ?_|refine Ar rfl ?_|refine Aj rfl ?_))<;>(refine o_as rfl rfl ?_<;>(first|refine Ay ?_|refine Az ?_|refine Aw ?_|refine AA ?_))<;>(repeat (first|refine Ah ?_|refine Al ?_|refine Ae ?_|refine Am ?_|refine At ?_|refine Au ?_|refine Ar rfl ?_|refine Aj rfl ?_)))
        refine ret1 rfl rfl ⟨?_,hE3⟩
        rw [FP hx hq,bof_b]
  · ((repeat (first|refine Ah ?_|refine Al ?_|refine Ae ?_|refine Am ?_|refine At ?_|refine Au ?_|refine Ar rfl ?_|refine Aj rfl ?_))<;>((first|refine o_ltT rfl rfl rfl ?_|refine o_ltF rfl rfl rfl ?_)<;>(first|refine Ay ?_|refine Az ?_|refine Aw ?_|refine AA ?_))<;>(repeat (first|refine Ah ?_|refine Al ?_|refine Ae ?_|refine Am ?_|refine At ?_|refine Au ?_|refine Ar rfl ?_|refine Aj rfl ?_))<;>(refine o_as rfl rfl ?_<;>(first|refine Ay ?_|refine Az ?_|refine Aw ?_|refine AA ?_))<;>(repeat (first|refine Ah ?_|refine Al ?_|refine Ae ?_|refine Am ?_|refine At ?_|refine Au ?_|refine Ar rfl ?_|refine Aj rfl ?_)))
    refine ret1 rfl rfl ⟨?_,hE⟩
    rw [List.take_of_length_le (by omega)] at hh
    rw [hh,bof_b]
theorem baseInts {w:World} {av bv:Value} {a b:List Int} (ha:V w av a) (hb:V w bv b) :
    Fn Try.prog 33 [av,bv] w fun v w'=>v=.bool (bof (a=b))∧Ext w w':=by
  obtain ⟨A,ca,rfl⟩:=ha.form
  obtain ⟨B,cb,rfl⟩:=hb.form
  have hal:=ha.len
  refine AL Try.func33 rfl Try.ntmps33 rfl ?_
  by_cases hl:a.length=b.length
  · ((repeat (first|refine Ah ?_|refine Al ?_|refine Ae ?_|refine Am ?_|refine At ?_|refine Au ?_|refine Ar rfl ?_|refine Aj rfl ?_))<;>(refine o_as rfl rfl ?_<;>(first|refine Ay ?_|refine Az ?_|refine Aw ?_|refine AA ?_))<;>(repeat (first|refine Ah ?_|refine Al ?_|refine Ae ?_|refine Am ?_|refine At ?_|refine Au ?_|refine Ar rfl ?_|refine Aj rfl ?_))<;>(refine o_mv rfl rfl ?_<;>refine o_ln rfl rfl ?_<;>refine o_mv rfl rfl ?_<;>refine o_ln rfl rfl ?_<;>(first|refine o_neT rfl rfl rfl ?_|refine o_neF rfl rfl rfl ?_)<;>(first|refine Ay ?_|refine Az ?_|refine Aw ?_|refine AA ?_))<;>(repeat (first|refine Ah ?_|refine Al ?_|refine Ae ?_|refine Am ?_|refine At ?_|refine Au ?_|refine Ar rfl ?_|refine Aj rfl ?_))<;>(refine o_mv rfl rfl ?_<;>refine o_ln rfl rfl ?_<;>refine o_mv rfl rfl ?_<;>(first|refine Ay ?_|refine Az ?_|refine Aw ?_|refine AA ?_))<;>(repeat (first|refine Ah ?_|refine Al ?_|refine Ae ?_|refine Am ?_|refine At ?_|refine Au ?_|refine Ar rfl ?_|refine Aj rfl ?_)))
    refine Ds (fun k:Nat=>[(0,.slice A a.length ca),(1,.slice B b.length cb),(12,.int .i64 (a.length:Int)),(13,.int .i64 (k:Int))])
      (fun k w'=>w'=w∧k≤a.length∧a.take k=b.take k) (fun k=>a.length - k) 0 ⟨rfl,Nat.zero_le _,rfl⟩ ⟨rfl,rfl,rfl,rfl,trivial⟩ ?_
    rintro k _ ⟨rfl,hk,hh⟩
    by_cases hlt:k < a.length
    · obtain ⟨x,hx⟩:=AH hlt
      obtain ⟨y,hy⟩:=AH (l:=b) (k:=k) (by omega)
      obtain ⟨b1,o1,ce,rfl,_,_,hd1,rfl,_⟩:=ha.elem hx
      obtain ⟨b2,o2,ce,rfl,_,_,hd2,rfl,_⟩:=hb.elem hy
      ((repeat (first|refine Ah ?_|refine Al ?_|refine Ae ?_|refine Am ?_|refine At ?_|refine Au ?_|refine Ar rfl ?_|refine Aj rfl ?_))<;>((first|refine o_ltT rfl rfl rfl ?_|refine o_ltF rfl rfl rfl ?_)<;>(first|refine Ay ?_|refine Az ?_|refine Aw ?_|refine AA ?_))<;>(repeat (first|refine Ah ?_|refine Al ?_|refine Ae ?_|refine Am ?_|refine At ?_|refine Au ?_|refine Ar rfl ?_|refine Aj rfl ?_))<;>(refine o_mv rfl rfl ?_<;>refine o_as rfl rfl ?_<;>(first|refine Ay ?_|refine Az ?_|refine Aw ?_|refine AA ?_))<;>(repeat (first|refine Ah ?_|refine Al ?_|refine Ae ?_|refine Am ?_|refine At ?_|refine Au ?_|refine Ar rfl ?_|refine Aj rfl ?_)))
      refine BJ (·=_) [(0,true),(1,true),(2,true),(3,true),(4,true),(5,true),(6,true),(7,true),(8,true)] (by kernel_rfl) rfl (by kernel_rfl) rfl ?_
      (refine h_mv rfl rfl rfl ?_<;>refine h_mv rfl rfl rfl ?_<;>refine h_ia rfl rfl rfl rfl ?_<;>refine h_ldA rfl rfl rfl ?_<;>refine h_mv rfl rfl rfl ?_<;>refine h_mv rfl rfl rfl ?_<;>refine h_ia rfl rfl rfl rfl ?_<;>refine h_ldA rfl rfl rfl ?_<;>(first|refine h_neT rfl rfl rfl rfl ?_|refine h_neF rfl rfl rfl rfl ?_|refine h_neS rfl rfl rfl rfl (fun _=>?_) fun _=>?_)<;>(first|refine AK ?_|refine BS ?_|refine BU ?_))<;>(repeat (first|refine Ah ?_|refine Al ?_|refine Ae ?_|refine Am ?_|refine At ?_|refine Au ?_|refine Ar rfl ?_|refine Aj rfl ?_))
      · ((repeat (first|refine Ah ?_|refine Al ?_|refine Ae ?_|refine Am ?_|refine At ?_|refine Au ?_|refine Ar rfl ?_|refine Aj rfl ?_))<;>(refine o_as rfl rfl ?_<;>(first|refine Ay ?_|refine Az ?_|refine Aw ?_|refine AA ?_))<;>(repeat (first|refine Ah ?_|refine Al ?_|refine Ae ?_|refine Am ?_|refine At ?_|refine Au ?_|refine Ar rfl ?_|refine Aj rfl ?_)))
        refine ret1 rfl rfl ⟨?_,Below.refl _ _⟩
        rw [bof_f]
        rintro rfl
        exact absurd (Option.some.inj (hx.symm.trans hy)) (by assumption)
      · ((first|refine o_ic rfl rfl ?_|refine o_ad rfl rfl rfl ?_)<;>refine o_mv rfl rfl ?_<;>(first|refine Ay ?_|refine Az ?_|refine Aw ?_|refine AA ?_))
        exact ⟨k + 1,⟨rfl,rfl,rfl,rfl,trivial⟩,⟨rfl,by omega,by rw [List.take_add_one,List.take_add_one,hx,hy,hh,show x=y from by omega]⟩,by omega⟩
    · ((repeat (first|refine Ah ?_|refine Al ?_|refine Ae ?_|refine Am ?_|refine At ?_|refine Au ?_|refine Ar rfl ?_|refine Aj rfl ?_))<;>((first|refine o_ltT rfl rfl rfl ?_|refine o_ltF rfl rfl rfl ?_)<;>(first|refine Ay ?_|refine Az ?_|refine Aw ?_|refine AA ?_))<;>(repeat (first|refine Ah ?_|refine Al ?_|refine Ae ?_|refine Am ?_|refine At ?_|refine Au ?_|refine Ar rfl ?_|refine Aj rfl ?_))<;>(refine o_as rfl rfl ?_<;>(first|refine Ay ?_|refine Az ?_|refine Aw ?_|refine AA ?_))<;>(repeat (first|refine Ah ?_|refine Al ?_|refine Ae ?_|refine Am ?_|refine At ?_|refine Au ?_|refine Ar rfl ?_|refine Aj rfl ?_)))
      refine ret1 rfl rfl ⟨?_,Below.refl _ _⟩
      rw [List.take_of_length_le (by omega),List.take_of_length_le (by omega)] at hh
      rw [bof_t hh]
  · ((repeat (first|refine Ah ?_|refine Al ?_|refine Ae ?_|refine Am ?_|refine At ?_|refine Au ?_|refine Ar rfl ?_|refine Aj rfl ?_))<;>(refine o_as rfl rfl ?_<;>(first|refine Ay ?_|refine Az ?_|refine Aw ?_|refine AA ?_))<;>(repeat (first|refine Ah ?_|refine Al ?_|refine Ae ?_|refine Am ?_|refine At ?_|refine Au ?_|refine Ar rfl ?_|refine Aj rfl ?_))<;>(refine o_mv rfl rfl ?_<;>refine o_ln rfl rfl ?_<;>refine o_mv rfl rfl ?_<;>refine o_ln rfl rfl ?_<;>(first|refine o_neT rfl rfl rfl ?_|refine o_neF rfl rfl rfl ?_)<;>(first|refine Ay ?_|refine Az ?_|refine Aw ?_|refine AA ?_))<;>(repeat (first|refine Ah ?_|refine Al ?_|refine Ae ?_|refine Am ?_|refine At ?_|refine Au ?_|refine Ar rfl ?_|refine Aj rfl ?_))<;>(refine o_as rfl rfl ?_<;>(first|refine Ay ?_|refine Az ?_|refine Aw ?_|refine AA ?_))<;>(repeat (first|refine Ah ?_|refine Al ?_|refine Ae ?_|refine Am ?_|refine At ?_|refine Au ?_|refine Ar rfl ?_|refine Aj rfl ?_)))
    refine ret1 rfl rfl ⟨?_,Below.refl _ _⟩
    rw [bof_f (fun h=>hl (by rw [h]))]
def StateOk (vars s:List Int):Prop:=s.length=vars.length∧∀ (i:Nat) x y,s[i]?=some x→vars[i]?=some y→0≤x∧x < y
theorem baseState {w:World} {vv sv:Value} {vars s:List Int} (ha:V w vv vars) (hb:V w sv s) :
    Fn Try.prog 50 [vv,sv] w fun v w'=>v=.bool (bof (StateOk vars s))∧Ext w w':=by
  obtain ⟨A,ca,rfl⟩:=ha.form
  obtain ⟨B,cb,rfl⟩:=hb.form
  have hal:=hb.len
  refine AL Try.func50 rfl Try.ntmps50 rfl ?_
  by_cases hl:s.length=vars.length
  · ((repeat (first|refine Ah ?_|refine Al ?_|refine Ae ?_|refine Am ?_|refine At ?_|refine Au ?_|refine Ar rfl ?_|refine Aj rfl ?_))<;>(refine o_as rfl rfl ?_<;>(first|refine Ay ?_|refine Az ?_|refine Aw ?_|refine AA ?_))<;>(repeat (first|refine Ah ?_|refine Al ?_|refine Ae ?_|refine Am ?_|refine At ?_|refine Au ?_|refine Ar rfl ?_|refine Aj rfl ?_))<;>(refine o_mv rfl rfl ?_<;>refine o_ln rfl rfl ?_<;>refine o_mv rfl rfl ?_<;>refine o_ln rfl rfl ?_<;>(first|refine o_neT rfl rfl rfl ?_|refine o_neF rfl rfl rfl ?_)<;>(first|refine Ay ?_|refine Az ?_|refine Aw ?_|refine AA ?_))<;>(repeat (first|refine Ah ?_|refine Al ?_|refine Ae ?_|refine Am ?_|refine At ?_|refine Au ?_|refine Ar rfl ?_|refine Aj rfl ?_))<;>(refine o_mv rfl rfl ?_<;>refine o_ln rfl rfl ?_<;>refine o_mv rfl rfl ?_<;>(first|refine Ay ?_|refine Az ?_|refine Aw ?_|refine AA ?_))<;>(repeat (first|refine Ah ?_|refine Al ?_|refine Ae ?_|refine Am ?_|refine At ?_|refine Au ?_|refine Ar rfl ?_|refine Aj rfl ?_)))
    refine Ds (fun k:Nat=>[(0,.slice A vars.length ca),(1,.slice B s.length cb),(12,.int .i64 (s.length:Int)),(13,.int .i64 (k:Int))])
      (fun k w'=>w'=w∧k≤s.length∧∀ (i:Nat) x y,i < k→s[i]?=some x→vars[i]?=some y→0≤x∧x < y) (fun k=>s.length - k) 0 ⟨rfl,Nat.zero_le _,fun i _ _ h=>by omega⟩ ⟨rfl,rfl,rfl,rfl,trivial⟩ ?_
    rintro k _ ⟨rfl,hk,hh⟩
    by_cases hlt:k < s.length
    · obtain ⟨x,hx⟩:=AH hlt
      obtain ⟨y,hy⟩:=AH (l:=vars) (k:=k) (by omega)
      obtain ⟨b1,o1,ce,rfl,_,_,hd1,rfl,_⟩:=ha.elem hy
      obtain ⟨b2,o2,ce,rfl,_,_,hd2,rfl,_⟩:=hb.elem hx
      ((repeat (first|refine Ah ?_|refine Al ?_|refine Ae ?_|refine Am ?_|refine At ?_|refine Au ?_|refine Ar rfl ?_|refine Aj rfl ?_))<;>((first|refine o_ltT rfl rfl rfl ?_|refine o_ltF rfl rfl rfl ?_)<;>(first|refine Ay ?_|refine Az ?_|refine Aw ?_|refine AA ?_))<;>(repeat (first|refine Ah ?_|refine Al ?_|refine Ae ?_|refine Am ?_|refine At ?_|refine Au ?_|refine Ar rfl ?_|refine Aj rfl ?_))<;>(refine o_mv rfl rfl ?_<;>refine o_as rfl rfl ?_<;>(first|refine Ay ?_|refine Az ?_|refine Aw ?_|refine AA ?_))<;>(repeat (first|refine Ah ?_|refine Al ?_|refine Ae ?_|refine Am ?_|refine At ?_|refine Au ?_|refine Ar rfl ?_|refine Aj rfl ?_)))
      refine BJ (·=_) [(0,true),(1,true),(2,true),(3,true),(4,true),(5,true),(6,true),(7,true),(8,true),(9,true),(10,true),(11,true),(12,true),(13,true),(14,true),(15,true)] (by kernel_rfl) rfl (by kernel_rfl) rfl ?_
      (refine h_mv rfl rfl rfl ?_<;>refine h_mv rfl rfl rfl ?_<;>refine h_ia rfl rfl rfl rfl ?_<;>refine h_ldA rfl rfl rfl ?_<;>(first|refine h_ltT rfl rfl rfl rfl ?_|refine h_ltF rfl rfl rfl rfl ?_|refine h_ltS rfl rfl rfl rfl (fun _=>?_) fun _=>?_)<;>refine h_mv rfl rfl rfl ?_<;>(refine hwp_o rfl ?_;(first|(refine AC rfl rfl ?_;refine g_mv rfl rfl ?_)|refine AF rfl rfl rfl rfl ?_))<;>(refine hwp_o rfl ?_;(first|(refine AC rfl rfl ?_;refine g_mv rfl rfl ?_)|refine AF rfl rfl rfl rfl ?_))<;>(refine hwp_o rfl ?_;(first|(refine AC rfl rfl ?_;refine g_ia rfl rfl rfl ?_)|refine AF rfl rfl rfl rfl ?_))<;>(refine hwp_o rfl ?_;(first|(refine AC rfl rfl ?_;refine g_ldA rfl rfl ?_)|refine AF rfl rfl rfl rfl ?_))<;>(refine hwp_o rfl ?_;(first|(refine AC rfl rfl ?_;refine g_mv rfl rfl ?_)|refine AF rfl rfl rfl rfl ?_))<;>(refine hwp_o rfl ?_;(first|(refine AC rfl rfl ?_;refine g_mv rfl rfl ?_)|refine AF rfl rfl rfl rfl ?_))<;>(refine hwp_o rfl ?_;(first|(refine AC rfl rfl ?_;refine g_ia rfl rfl rfl ?_)|refine AF rfl rfl rfl rfl ?_))<;>(refine hwp_o rfl ?_;(first|(refine AC rfl rfl ?_;refine g_ldA rfl rfl ?_)|refine AF rfl rfl rfl rfl ?_))<;>(refine hwp_o rfl ?_;(first|(refine AC rfl rfl ?_;(first|refine Bw (fun _ _=>AR rfl rfl) rfl (by omega) ?_|refine Bx (fun _ _=>AR rfl rfl) rfl (by omega) ?_|refine AP (fun _ _=>AR rfl rfl) rfl (fun _=>?_) (fun _=>?_)))|refine AF rfl rfl rfl rfl ?_))<;>(first|refine h_pt rfl rfl rfl rfl ?_|refine h_pf rfl rfl rfl rfl ?_)<;>(first|refine AK ?_|refine BS ?_|refine BU ?_))<;>(repeat (first|refine Ah ?_|refine Al ?_|refine Ae ?_|refine Am ?_|refine At ?_|refine Au ?_|refine Ar rfl ?_|refine Aj rfl ?_))
      case refine_2.refine_2 =>
        ((first|refine o_ic rfl rfl ?_|refine o_ad rfl rfl rfl ?_)<;>refine o_mv rfl rfl ?_<;>(first|refine Ay ?_|refine Az ?_|refine Aw ?_|refine AA ?_))
        refine ⟨k + 1,⟨rfl,rfl,rfl,rfl,trivial⟩,⟨rfl,by omega,fun i x' y' hi h1 h2=>?_⟩,by omega⟩
        by_cases he:i=k
        · subst he
          rw [hx] at h1;rw [hy] at h2
          injection h1 with h1;injection h2 with h2
          omega
        · exact hh i x' y' (by omega) h1 h2
      all_goals
        ((repeat (first|refine Ah ?_|refine Al ?_|refine Ae ?_|refine Am ?_|refine At ?_|refine Au ?_|refine Ar rfl ?_|refine Aj rfl ?_))<;>(refine o_as rfl rfl ?_<;>(first|refine Ay ?_|refine Az ?_|refine Aw ?_|refine AA ?_))<;>(repeat (first|refine Ah ?_|refine Al ?_|refine Ae ?_|refine Am ?_|refine At ?_|refine Au ?_|refine Ar rfl ?_|refine Aj rfl ?_)))
        refine ret1 rfl rfl ⟨?_,Below.refl _ _⟩
        rw [bof_f (fun h=>by have:=h.2 k x y hx hy;omega)]
    · ((repeat (first|refine Ah ?_|refine Al ?_|refine Ae ?_|refine Am ?_|refine At ?_|refine Au ?_|refine Ar rfl ?_|refine Aj rfl ?_))<;>((first|refine o_ltT rfl rfl rfl ?_|refine o_ltF rfl rfl rfl ?_)<;>(first|refine Ay ?_|refine Az ?_|refine Aw ?_|refine AA ?_))<;>(repeat (first|refine Ah ?_|refine Al ?_|refine Ae ?_|refine Am ?_|refine At ?_|refine Au ?_|refine Ar rfl ?_|refine Aj rfl ?_))<;>(refine o_as rfl rfl ?_<;>(first|refine Ay ?_|refine Az ?_|refine Aw ?_|refine AA ?_))<;>(repeat (first|refine Ah ?_|refine Al ?_|refine Ae ?_|refine Am ?_|refine At ?_|refine Au ?_|refine Ar rfl ?_|refine Aj rfl ?_)))
      refine ret1 rfl rfl ⟨?_,Below.refl _ _⟩
      rw [bof_t ⟨hl,fun i x y h1 h2=>hh i x y (by have:=Bf h1;omega) h1 h2⟩]
  · ((repeat (first|refine Ah ?_|refine Al ?_|refine Ae ?_|refine Am ?_|refine At ?_|refine Au ?_|refine Ar rfl ?_|refine Aj rfl ?_))<;>(refine o_as rfl rfl ?_<;>(first|refine Ay ?_|refine Az ?_|refine Aw ?_|refine AA ?_))<;>(repeat (first|refine Ah ?_|refine Al ?_|refine Ae ?_|refine Am ?_|refine At ?_|refine Au ?_|refine Ar rfl ?_|refine Aj rfl ?_))<;>(refine o_mv rfl rfl ?_<;>refine o_ln rfl rfl ?_<;>refine o_mv rfl rfl ?_<;>refine o_ln rfl rfl ?_<;>(first|refine o_neT rfl rfl rfl ?_|refine o_neF rfl rfl rfl ?_)<;>(first|refine Ay ?_|refine Az ?_|refine Aw ?_|refine AA ?_))<;>(repeat (first|refine Ah ?_|refine Al ?_|refine Ae ?_|refine Am ?_|refine At ?_|refine Au ?_|refine Ar rfl ?_|refine Aj rfl ?_))<;>(refine o_as rfl rfl ?_<;>(first|refine Ay ?_|refine Az ?_|refine Aw ?_|refine AA ?_))<;>(repeat (first|refine Ah ?_|refine Al ?_|refine Ae ?_|refine Am ?_|refine At ?_|refine Au ?_|refine Ar rfl ?_|refine Aj rfl ?_)))
    refine ret1 rfl rfl ⟨?_,Below.refl _ _⟩
    rw [bof_f (fun h=>hl h.1)]
end
section
open Go Go.RowKit
attribute [local irreducible] ewp owp hwp hwq hws Ev Evg Fn retPost loud loudS Res1
theorem taskProper {w:World} {vv sv:Value} {vars s:List Int} (ha:V w vv vars) (hb:V w sv s) :
    Fn Try.prog 54 [vv,sv] w fun v w'=>v=.bool (bof (StateOk vars s))∧Ext w w':=by
  obtain ⟨A,ca,rfl⟩:=ha.form
  obtain ⟨B,cb,rfl⟩:=hb.form
  have hal:=hb.len
  refine AL Try.func54 rfl Try.ntmps54 rfl ?_
  by_cases hl:s.length=vars.length
  · ((repeat (first|refine Ah ?_|refine Al ?_|refine Ae ?_|refine Am ?_|refine At ?_|refine Au ?_|refine Ar rfl ?_|refine Aj rfl ?_))<;>(refine o_as rfl rfl ?_<;>(first|refine Ay ?_|refine Az ?_|refine Aw ?_|refine AA ?_))<;>(repeat (first|refine Ah ?_|refine Al ?_|refine Ae ?_|refine Am ?_|refine At ?_|refine Au ?_|refine Ar rfl ?_|refine Aj rfl ?_))<;>(refine o_mv rfl rfl ?_<;>refine o_ln rfl rfl ?_<;>refine o_mv rfl rfl ?_<;>refine o_ln rfl rfl ?_<;>(first|refine o_neT rfl rfl rfl ?_|refine o_neF rfl rfl rfl ?_)<;>(first|refine Ay ?_|refine Az ?_|refine Aw ?_|refine AA ?_))<;>(repeat (first|refine Ah ?_|refine Al ?_|refine Ae ?_|refine Am ?_|refine At ?_|refine Au ?_|refine Ar rfl ?_|refine Aj rfl ?_))<;>(refine o_mv rfl rfl ?_<;>refine o_ln rfl rfl ?_<;>refine o_mv rfl rfl ?_<;>(first|refine Ay ?_|refine Az ?_|refine Aw ?_|refine AA ?_))<;>(repeat (first|refine Ah ?_|refine Al ?_|refine Ae ?_|refine Am ?_|refine At ?_|refine Au ?_|refine Ar rfl ?_|refine Aj rfl ?_)))
    refine Ds (fun k:Nat=>[(0,.slice A vars.length ca),(12,.slice B s.length cb),(13,.int .i64 (s.length:Int)),(14,.int .i64 (k:Int))])
      (fun k w'=>w'=w∧k≤s.length∧∀ (i:Nat) x y,i < k→s[i]?=some x→vars[i]?=some y→0≤x∧x < y) (fun k=>s.length - k) 0 ⟨rfl,Nat.zero_le _,fun i _ _ h=>by omega⟩ ⟨rfl,rfl,rfl,rfl,trivial⟩ ?_
    rintro k _ ⟨rfl,hk,hh⟩
    by_cases hlt:k < s.length
    · obtain ⟨x,hx⟩:=AH hlt
      obtain ⟨y,hy⟩:=AH (l:=vars) (k:=k) (by omega)
      obtain ⟨b1,o1,ce,rfl,_,_,hd1,rfl,_⟩:=ha.elem hy
      obtain ⟨b2,o2,ce,rfl,_,_,hd2,rfl,_⟩:=hb.elem hx
      ((repeat (first|refine Ah ?_|refine Al ?_|refine Ae ?_|refine Am ?_|refine At ?_|refine Au ?_|refine Ar rfl ?_|refine Aj rfl ?_))<;>((first|refine o_ltT rfl rfl rfl ?_|refine o_ltF rfl rfl rfl ?_)<;>(first|refine Ay ?_|refine Az ?_|refine Aw ?_|refine AA ?_))<;>(repeat (first|refine Ah ?_|refine Al ?_|refine Ae ?_|refine Am ?_|refine At ?_|refine Au ?_|refine Ar rfl ?_|refine Aj rfl ?_))<;>(refine o_mv rfl rfl ?_<;>refine o_ia rfl rfl rfl ?_<;>refine o_ld rfl rfl ?_<;>refine o_as rfl rfl ?_<;>refine o_as rfl rfl ?_<;>(first|refine Ay ?_|refine Az ?_|refine Aw ?_|refine AA ?_))<;>(repeat (first|refine Ah ?_|refine Al ?_|refine Ae ?_|refine Am ?_|refine At ?_|refine Au ?_|refine Ar rfl ?_|refine Aj rfl ?_))<;>(refine o_mv rfl rfl ?_<;>(first|refine o_ltT rfl rfl rfl ?_|refine o_ltF rfl rfl rfl ?_|refine o_ltS rfl rfl rfl (fun _=>?_) fun _=>?_)<;>refine o_mv rfl rfl ?_<;>(first|(refine AE rfl rfl ?_;refine o_mv rfl rfl ?_)|refine AD rfl rfl rfl rfl ?_)<;>(first|(refine AE rfl rfl ?_;refine o_mv rfl rfl ?_)|refine AD rfl rfl rfl rfl ?_)<;>(first|(refine AE rfl rfl ?_;refine o_mv rfl rfl ?_)|refine AD rfl rfl rfl rfl ?_)<;>(first|(refine AE rfl rfl ?_;refine o_ia rfl rfl rfl ?_)|refine AD rfl rfl rfl rfl ?_)<;>(first|(refine AE rfl rfl ?_;refine o_ld rfl rfl ?_)|refine AD rfl rfl rfl rfl ?_)<;>(first|(refine AE rfl rfl ?_;(first|refine o_geT rfl rfl rfl ?_|refine o_geF rfl rfl rfl ?_|refine o_geS rfl rfl rfl (fun _=>?_) fun _=>?_))|refine AD rfl rfl rfl rfl ?_)<;>(first|refine o_pt rfl rfl rfl ?_|refine o_pf rfl rfl rfl ?_)<;>(first|refine Ay ?_|refine Az ?_|refine Aw ?_|refine AA ?_))<;>(repeat (first|refine Ah ?_|refine Al ?_|refine Ae ?_|refine Am ?_|refine At ?_|refine Au ?_|refine Ar rfl ?_|refine Aj rfl ?_)))
      case refine_2.refine_2 =>
        ((first|refine o_ic rfl rfl ?_|refine o_ad rfl rfl rfl ?_)<;>refine o_mv rfl rfl ?_<;>(first|refine Ay ?_|refine Az ?_|refine Aw ?_|refine AA ?_))
        refine ⟨k + 1,⟨rfl,rfl,rfl,rfl,trivial⟩,⟨rfl,by omega,fun i x' y' hi h1 h2=>?_⟩,by omega⟩
        by_cases he:i=k
        · subst he
          rw [hx] at h1;rw [hy] at h2
          injection h1 with h1;injection h2 with h2
          omega
        · exact hh i x' y' (by omega) h1 h2
      all_goals
        ((repeat (first|refine Ah ?_|refine Al ?_|refine Ae ?_|refine Am ?_|refine At ?_|refine Au ?_|refine Ar rfl ?_|refine Aj rfl ?_))<;>(refine o_as rfl rfl ?_<;>(first|refine Ay ?_|refine Az ?_|refine Aw ?_|refine AA ?_))<;>(repeat (first|refine Ah ?_|refine Al ?_|refine Ae ?_|refine Am ?_|refine At ?_|refine Au ?_|refine Ar rfl ?_|refine Aj rfl ?_)))
        refine ret1 rfl rfl ⟨?_,Below.refl _ _⟩
        rw [bof_f (fun h=>by have:=h.2 k x y hx hy;omega)]
    · ((repeat (first|refine Ah ?_|refine Al ?_|refine Ae ?_|refine Am ?_|refine At ?_|refine Au ?_|refine Ar rfl ?_|refine Aj rfl ?_))<;>((first|refine o_ltT rfl rfl rfl ?_|refine o_ltF rfl rfl rfl ?_)<;>(first|refine Ay ?_|refine Az ?_|refine Aw ?_|refine AA ?_))<;>(repeat (first|refine Ah ?_|refine Al ?_|refine Ae ?_|refine Am ?_|refine At ?_|refine Au ?_|refine Ar rfl ?_|refine Aj rfl ?_))<;>(refine o_as rfl rfl ?_<;>(first|refine Ay ?_|refine Az ?_|refine Aw ?_|refine AA ?_))<;>(repeat (first|refine Ah ?_|refine Al ?_|refine Ae ?_|refine Am ?_|refine At ?_|refine Au ?_|refine Ar rfl ?_|refine Aj rfl ?_)))
      refine ret1 rfl rfl ⟨?_,Below.refl _ _⟩
      rw [bof_t ⟨hl,fun i x y h1 h2=>hh i x y (by have:=Bf h1;omega) h1 h2⟩]
  · ((repeat (first|refine Ah ?_|refine Al ?_|refine Ae ?_|refine Am ?_|refine At ?_|refine Au ?_|refine Ar rfl ?_|refine Aj rfl ?_))<;>(refine o_as rfl rfl ?_<;>(first|refine Ay ?_|refine Az ?_|refine Aw ?_|refine AA ?_))<;>(repeat (first|refine Ah ?_|refine Al ?_|refine Ae ?_|refine Am ?_|refine At ?_|refine Au ?_|refine Ar rfl ?_|refine Aj rfl ?_))<;>(refine o_mv rfl rfl ?_<;>refine o_ln rfl rfl ?_<;>refine o_mv rfl rfl ?_<;>refine o_ln rfl rfl ?_<;>(first|refine o_neT rfl rfl rfl ?_|refine o_neF rfl rfl rfl ?_)<;>(first|refine Ay ?_|refine Az ?_|refine Aw ?_|refine AA ?_))<;>(repeat (first|refine Ah ?_|refine Al ?_|refine Ae ?_|refine Am ?_|refine At ?_|refine Au ?_|refine Ar rfl ?_|refine Aj rfl ?_))<;>(refine o_as rfl rfl ?_<;>(first|refine Ay ?_|refine Az ?_|refine Aw ?_|refine AA ?_))<;>(repeat (first|refine Ah ?_|refine Al ?_|refine Ae ?_|refine Am ?_|refine At ?_|refine Au ?_|refine Ar rfl ?_|refine Aj rfl ?_)))
    refine ret1 rfl rfl ⟨?_,Below.refl _ _⟩
    rw [bof_f (fun h=>hl h.1)]
def FactOk (vars:List Int) (x:Fct):Prop:=0≤x.var∧0≤x.val∧∃ y,vars[x.var.toNat]?=some y∧x.val < y
def FactsOk (vars:List Int) (f:List Fct):Prop:=(∀ (i:Nat) x,f[i]?=some x→FactOk vars x)∧∀ (i:Nat) x y,f[i]?=some x→f[i + 1]?=some y→x.var < y.var
def FactsTo (vars:List Int) (f:List Fct) (k:Nat):Prop:=(∀ (i:Nat) x,i < k→f[i]?=some x→FactOk vars x)∧∀ (i:Nat) x y,i + 1 < k→f[i]?=some x→f[i + 1]?=some y→x.var < y.var
theorem FactsTo.step {vars:List Int} {f:List Fct} {k:Nat} {x:Fct} (h:FactsTo vars f k) (hx:f[k]?=some x) (ho:FactOk vars x) (hp:∀ y,0 < k→f[k - 1]?=some y→y.var < x.var):FactsTo vars f (k + 1):=by
  refine ⟨fun i y hi hy=>?_,fun i y z hi hy hz=>?_⟩
  · by_cases he:i=k
    · subst he;rw [hx] at hy;injection hy with hy;exact hy ▸ ho
    · exact h.1 i y (by omega) hy
  · by_cases he:i + 1=k
    · rw [he,hx] at hz;injection hz with hz;subst hz
      exact hp y (by omega) (by rw [show k - 1=i from by omega];exact hy)
    · exact h.2 i y z (by omega) hy hz
theorem FactsTo.done {vars:List Int} {f:List Fct} {k:Nat} (h:FactsTo vars f k) (hk:f.length≤k):FactsOk vars f :=
  ⟨fun i x hx=>h.1 i x (by have:=Bf hx;omega) hx,fun i x y hx hy=>h.2 i x y (by have:=Bf hy;omega) hx hy⟩
theorem baseProper {w:World} {vv fv:Value} {vars:List Int} {f:List Fct} (hv:V w vv vars) (hf:V w fv f) :
    Fn Try.prog 51 [vv,fv] w fun v w'=>v=.bool (bof (FactsOk vars f))∧Ext w w':=by
  obtain ⟨A,ca,rfl⟩:=hv.form
  obtain ⟨B,cb,rfl⟩:=hf.form
  have hfl:=hf.len
  refine AL Try.func51 rfl Try.ntmps51 rfl ?_
  ((repeat (first|refine Ah ?_|refine Al ?_|refine Ae ?_|refine Am ?_|refine At ?_|refine Au ?_|refine Ar rfl ?_|refine Aj rfl ?_))<;>(refine o_as rfl rfl ?_<;>(first|refine Ay ?_|refine Az ?_|refine Aw ?_|refine AA ?_))<;>(repeat (first|refine Ah ?_|refine Al ?_|refine Ae ?_|refine Am ?_|refine At ?_|refine Au ?_|refine Ar rfl ?_|refine Aj rfl ?_))<;>(refine o_mv rfl rfl ?_<;>refine o_ln rfl rfl ?_<;>refine o_mv rfl rfl ?_<;>(first|refine Ay ?_|refine Az ?_|refine Aw ?_|refine AA ?_))<;>(repeat (first|refine Ah ?_|refine Al ?_|refine Ae ?_|refine Am ?_|refine At ?_|refine Au ?_|refine Ar rfl ?_|refine Aj rfl ?_)))
  refine Ds (fun k:Nat=>[(0,.slice A vars.length ca),(1,.slice B f.length cb),(7,.slice B f.length cb),(8,.int .i64 (f.length:Int)),(9,.int .i64 (k:Int))])
    (fun k w'=>Ext w w'∧k≤f.length∧FactsTo vars f k) (fun k=>f.length - k) 0 ⟨Below.refl _ _,Nat.zero_le _,⟨fun i _ h=>by omega,fun i _ _ h=>by omega⟩⟩ ⟨rfl,rfl,rfl,rfl,rfl,trivial⟩ ?_
  rintro k w1 ⟨hE,hk,hh⟩
  by_cases hlt:k < f.length
  · obtain ⟨x,hx⟩:=AH hlt
    obtain ⟨b,o,ce,rfl,hb,_,hd1,rfl,hr1,hr2⟩:=(hf.ext hE).elem hx
    ((repeat (first|refine Ah ?_|refine Al ?_|refine Ae ?_|refine Am ?_|refine At ?_|refine Au ?_|refine Ar rfl ?_|refine Aj rfl ?_))<;>((first|refine o_ltT rfl rfl rfl ?_|refine o_ltF rfl rfl rfl ?_)<;>(first|refine Ay ?_|refine Az ?_|refine Aw ?_|refine AA ?_))<;>(repeat (first|refine Ah ?_|refine Al ?_|refine Ae ?_|refine Am ?_|refine At ?_|refine Au ?_|refine Ar rfl ?_|refine Aj rfl ?_))<;>(refine o_mv rfl rfl ?_<;>refine o_ia rfl rfl rfl ?_<;>refine o_la rfl rfl ?_)<;>(repeat (first|refine Ah ?_|refine Al ?_|refine Ae ?_|refine Am ?_|refine At ?_|refine Au ?_|refine Ar rfl ?_|refine Aj rfl ?_)))
    refine Di rfl fun w2 hN=>?_
    (refine o_as rfl rfl ?_)
    refine BD rfl rfl hN.blk rfl (Nat.le_refl _) (by simp [Value.cells,Value.oneCell']) fun w3 hU=>?_
    replace hN:=hN.upd hU
    have hb1:=hN.blk
    have hE3:Ext w w3:=hE.trans' hN.ext
    ((first|refine Ay ?_|refine Az ?_|refine Aw ?_|refine AA ?_))
    repeat (first|refine Ah ?_|refine Al ?_|refine Ae ?_|refine Am ?_|refine At ?_|refine Au ?_|refine Ar rfl ?_|refine Aj rfl ?_)
    refine BJ (·=w3) [(0,true),(1,true),(2,true),(3,true),(4,true),(5,true),(6,true),(7,true),(8,true),(9,true),(10,true),(11,true),(12,true),(13,true),(14,true),(15,true),(16,true),(17,true),(18,true),(19,true),(20,true),(21,true),(22,true),(23,true),(24,true),(25,true),(26,true),(27,true),(28,true),(29,true),(30,true),(31,true),(32,true),(33,true),(34,true),(35,true),(36,true),(37,true),(38,true),(39,true)] (by kernel_rfl) rfl (by kernel_rfl) rfl ?_
    by_cases hvr:0≤x.var∧x.var < vars.length
    · obtain ⟨j,hj1⟩:=Int.eq_ofNat_of_zero_le hvr.1
      obtain ⟨y,hy⟩:=AH (l:=vars) (k:=j) (by omega)
      obtain ⟨b2,o2,ce2,rfl,_,_,hd2,rfl,_⟩:=(hv.ext hE3).elem hy
      have hjy:vars[x.var.toNat]?=some y:=by rw [hj1];simpa using hy
      have hok:0≤x.val→x.val < y→FactOk vars x:=fun h1 h2=>⟨hvr.1,h1,y,hjy,h2⟩
      have hno:¬ (0≤x.val∧x.val < y)→¬ FactsOk vars f:=fun h1 h2=>h1 (by
        obtain ⟨_,h3,y',h4,h5⟩:=h2.1 k x hx
        rw [hjy] at h4;injection h4 with h4;subst h4;exact ⟨h3,h5⟩)
      by_cases h0:0 < k
      · obtain ⟨z,hz⟩:=AH (l:=f) (k:=k - 1) (by omega)
        obtain ⟨b3,o3,ce3,he3,_,_,hd3,rfl,_⟩:=(hf.ext hE3).elem hz
        injection he3 with he3
        injection he3 with he3 he4
        subst he3;subst he4
        have hj2:(k:Int) - 1=((k - 1:Nat):Int):=by omega
        have hno2:¬ z.var < x.var→¬ FactsOk vars f:=fun h1 h2=>h1 (h2.2 (k - 1) z x hz (by rw [show k - 1 + 1=k from by omega];exact hx))
        (refine h_fa rfl rfl rfl ?_<;>refine h_ldA rfl rfl rfl ?_<;>(first|refine h_ltT rfl rfl rfl rfl ?_|refine h_ltF rfl rfl rfl rfl ?_|refine h_ltS rfl rfl rfl rfl (fun _=>?_) fun _=>?_)<;>refine h_mv rfl rfl rfl ?_<;>(refine hwp_o rfl ?_;(first|(refine AC rfl rfl ?_;refine g_fa rfl rfl ?_)|refine AF rfl rfl rfl rfl ?_))<;>(refine hwp_o rfl ?_;(first|(refine AC rfl rfl ?_;refine g_ldA rfl rfl ?_)|refine AF rfl rfl rfl rfl ?_))<;>(refine hwp_o rfl ?_;(first|(refine AC rfl rfl ?_;refine g_mv rfl rfl ?_)|refine AF rfl rfl rfl rfl ?_))<;>(refine hwp_o rfl ?_;(first|(refine AC rfl rfl ?_;refine g_ln rfl rfl ?_)|refine AF rfl rfl rfl rfl ?_))<;>(refine hwp_o rfl ?_;(first|(refine AC rfl rfl ?_;(first|refine Bw (fun _ _=>AR rfl rfl) rfl (by omega) ?_|refine Bx (fun _ _=>AR rfl rfl) rfl (by omega) ?_|refine AP (fun _ _=>AR rfl rfl) rfl (fun _=>?_) (fun _=>?_)))|refine AF rfl rfl rfl rfl ?_))<;>(first|refine h_pt rfl rfl rfl rfl ?_|refine h_pf rfl rfl rfl rfl ?_)<;>refine h_mv rfl rfl rfl ?_<;>(refine hwp_o rfl ?_;(first|(refine AC rfl rfl ?_;refine g_fa rfl rfl ?_)|refine AF rfl rfl rfl rfl ?_))<;>(refine hwp_o rfl ?_;(first|(refine AC rfl rfl ?_;refine g_ldA rfl rfl ?_)|refine AF rfl rfl rfl rfl ?_))<;>(refine hwp_o rfl ?_;(first|(refine AC rfl rfl ?_;(first|refine Bw (fun _ _=>BV rfl rfl) rfl (by omega) ?_|refine Bx (fun _ _=>BV rfl rfl) rfl (by omega) ?_|refine AP (fun _ _=>BV rfl rfl) rfl (fun _=>?_) (fun _=>?_)))|refine AF rfl rfl rfl rfl ?_))<;>(first|refine h_pt rfl rfl rfl rfl ?_|refine h_pf rfl rfl rfl rfl ?_)<;>refine h_mv rfl rfl rfl ?_<;>(refine hwp_o rfl ?_;(first|(refine AC rfl rfl ?_;refine g_fa rfl rfl ?_)|refine AF rfl rfl rfl rfl ?_))<;>(refine hwp_o rfl ?_;(first|(refine AC rfl rfl ?_;refine g_ldA rfl rfl ?_)|refine AF rfl rfl rfl rfl ?_))<;>(refine hwp_o rfl ?_;(first|(refine AC rfl rfl ?_;refine g_mv rfl rfl ?_)|refine AF rfl rfl rfl rfl ?_))<;>(refine hwp_o rfl ?_;(first|(refine AC rfl rfl ?_;refine g_fa rfl rfl ?_)|refine AF rfl rfl rfl rfl ?_))<;>(refine hwp_o rfl ?_;(first|(refine AC rfl rfl ?_;refine g_ldA rfl rfl ?_)|refine AF rfl rfl rfl rfl ?_))<;>(refine hwp_o rfl ?_;(first|(refine AC rfl rfl ?_;refine g_ia rfl rfl rfl ?_)|refine AF rfl rfl rfl rfl ?_))<;>(refine hwp_o rfl ?_;(first|(refine AC rfl rfl ?_;refine g_ldA rfl rfl ?_)|refine AF rfl rfl rfl rfl ?_))<;>(refine hwp_o rfl ?_;(first|(refine AC rfl rfl ?_;(first|refine Bw (fun _ _=>AR rfl rfl) rfl (by omega) ?_|refine Bx (fun _ _=>AR rfl rfl) rfl (by omega) ?_|refine AP (fun _ _=>AR rfl rfl) rfl (fun _=>?_) (fun _=>?_)))|refine AF rfl rfl rfl rfl ?_))<;>(first|refine h_pt rfl rfl rfl rfl ?_|refine h_pf rfl rfl rfl rfl ?_)<;>refine h_mv rfl rfl rfl ?_<;>(refine hwp_o rfl ?_;(first|(refine AC rfl rfl ?_;refine g_mv rfl rfl ?_)|refine AF rfl rfl rfl rfl ?_))<;>(refine hwp_o rfl ?_;(first|(refine AC rfl rfl ?_;(first|refine Bw (fun _ _=>DH rfl rfl) rfl (by omega) ?_|refine Bx (fun _ _=>DH rfl rfl) rfl (by omega) ?_|refine AP (fun _ _=>DH rfl rfl) rfl (fun _=>?_) (fun _=>?_)))|refine AF rfl rfl rfl rfl ?_))<;>(refine hwp_o rfl ?_;(first|(refine AC rfl rfl ?_;refine g_mv rfl rfl ?_)|refine AF rfl rfl rfl rfl ?_))<;>(refine hwp_o rfl ?_;(first|(refine AC rfl rfl ?_;refine g_mv rfl rfl ?_)|refine AF rfl rfl rfl rfl ?_))<;>(refine hwp_o rfl ?_;(first|(refine AC rfl rfl ?_;refine g_mv rfl rfl ?_)|refine AF rfl rfl rfl rfl ?_))<;>(refine hwp_o rfl ?_;(first|(refine AC rfl rfl ?_;refine g_sb rfl rfl rfl ?_)|refine AF rfl rfl rfl rfl ?_))<;>(refine hwp_o rfl ?_;(first|(refine AC rfl rfl ?_;refine g_ia rfl rfl rfl ?_)|refine AF rfl rfl rfl rfl ?_))<;>(refine hwp_o rfl ?_;(first|(refine AC rfl rfl ?_;refine g_fa rfl rfl ?_)|refine AF rfl rfl rfl rfl ?_))<;>(refine hwp_o rfl ?_;(first|(refine AC rfl rfl ?_;refine g_ldA rfl rfl ?_)|refine AF rfl rfl rfl rfl ?_))<;>(refine hwp_o rfl ?_;(first|(refine AC rfl rfl ?_;refine g_fa rfl rfl ?_)|refine AF rfl rfl rfl rfl ?_))<;>(refine hwp_o rfl ?_;(first|(refine AC rfl rfl ?_;refine g_ldA rfl rfl ?_)|refine AF rfl rfl rfl rfl ?_))<;>(refine hwp_o rfl ?_;(first|(refine AC rfl rfl ?_;(first|refine Bw (fun _ _=>AR rfl rfl) rfl (by omega) ?_|refine Bx (fun _ _=>AR rfl rfl) rfl (by omega) ?_|refine AP (fun _ _=>AR rfl rfl) rfl (fun _=>?_) (fun _=>?_)))|refine AF rfl rfl rfl rfl ?_))<;>(refine hwp_o rfl ?_;(first|(refine AC rfl rfl ?_;(first|refine g_pt rfl rfl rfl ?_|refine g_pf rfl rfl rfl ?_))|refine AF rfl rfl rfl rfl ?_))<;>(first|refine h_pt rfl rfl rfl rfl ?_|refine h_pf rfl rfl rfl rfl ?_)<;>(first|refine AK ?_|refine BS ?_|refine BU ?_))<;>(repeat (first|refine Ah ?_|refine Al ?_|refine Ae ?_|refine Am ?_|refine At ?_|refine Au ?_|refine Ar rfl ?_|refine Aj rfl ?_))
        all_goals first
          | (((first|refine o_ic rfl rfl ?_|refine o_ad rfl rfl rfl ?_)<;>refine o_mv rfl rfl ?_<;>(first|refine Ay ?_|refine Az ?_|refine Aw ?_|refine AA ?_))
             exact ⟨k + 1,⟨rfl,rfl,rfl,rfl,rfl,trivial⟩,⟨hE3,by omega,hh.step hx (hok (by omega) (by omega)) (fun y' _ hy'=>by rw [hz] at hy';injection hy' with hy';subst hy';omega)⟩,by omega⟩)
          | (((repeat (first|refine Ah ?_|refine Al ?_|refine Ae ?_|refine Am ?_|refine At ?_|refine Au ?_|refine Ar rfl ?_|refine Aj rfl ?_))<;>(refine o_as rfl rfl ?_<;>(first|refine Ay ?_|refine Az ?_|refine Aw ?_|refine AA ?_))<;>(repeat (first|refine Ah ?_|refine Al ?_|refine Ae ?_|refine Am ?_|refine At ?_|refine Au ?_|refine Ar rfl ?_|refine Aj rfl ?_)))
             refine ret1 rfl rfl ⟨?_,hE3⟩
             first|rw [bof_f (hno (by omega))]|rw [bof_f (hno2 (by omega))])
      · (refine h_fa rfl rfl rfl ?_<;>refine h_ldA rfl rfl rfl ?_<;>(first|refine h_ltT rfl rfl rfl rfl ?_|refine h_ltF rfl rfl rfl rfl ?_|refine h_ltS rfl rfl rfl rfl (fun _=>?_) fun _=>?_)<;>refine h_mv rfl rfl rfl ?_<;>(refine hwp_o rfl ?_;(first|(refine AC rfl rfl ?_;refine g_fa rfl rfl ?_)|refine AF rfl rfl rfl rfl ?_))<;>(refine hwp_o rfl ?_;(first|(refine AC rfl rfl ?_;refine g_ldA rfl rfl ?_)|refine AF rfl rfl rfl rfl ?_))<;>(refine hwp_o rfl ?_;(first|(refine AC rfl rfl ?_;refine g_mv rfl rfl ?_)|refine AF rfl rfl rfl rfl ?_))<;>(refine hwp_o rfl ?_;(first|(refine AC rfl rfl ?_;refine g_ln rfl rfl ?_)|refine AF rfl rfl rfl rfl ?_))<;>(refine hwp_o rfl ?_;(first|(refine AC rfl rfl ?_;(first|refine Bw (fun _ _=>AR rfl rfl) rfl (by omega) ?_|refine Bx (fun _ _=>AR rfl rfl) rfl (by omega) ?_|refine AP (fun _ _=>AR rfl rfl) rfl (fun _=>?_) (fun _=>?_)))|refine AF rfl rfl rfl rfl ?_))<;>(first|refine h_pt rfl rfl rfl rfl ?_|refine h_pf rfl rfl rfl rfl ?_)<;>refine h_mv rfl rfl rfl ?_<;>(refine hwp_o rfl ?_;(first|(refine AC rfl rfl ?_;refine g_fa rfl rfl ?_)|refine AF rfl rfl rfl rfl ?_))<;>(refine hwp_o rfl ?_;(first|(refine AC rfl rfl ?_;refine g_ldA rfl rfl ?_)|refine AF rfl rfl rfl rfl ?_))<;>(refine hwp_o rfl ?_;(first|(refine AC rfl rfl ?_;(first|refine Bw (fun _ _=>BV rfl rfl) rfl (by omega) ?_|refine Bx (fun _ _=>BV rfl rfl) rfl (by omega) ?_|refine AP (fun _ _=>BV rfl rfl) rfl (fun _=>?_) (fun _=>?_)))|refine AF rfl rfl rfl rfl ?_))<;>(first|refine h_pt rfl rfl rfl rfl ?_|refine h_pf rfl rfl rfl rfl ?_)<;>refine h_mv rfl rfl rfl ?_<;>(refine hwp_o rfl ?_;(first|(refine AC rfl rfl ?_;refine g_fa rfl rfl ?_)|refine AF rfl rfl rfl rfl ?_))<;>(refine hwp_o rfl ?_;(first|(refine AC rfl rfl ?_;refine g_ldA rfl rfl ?_)|refine AF rfl rfl rfl rfl ?_))<;>(refine hwp_o rfl ?_;(first|(refine AC rfl rfl ?_;refine g_mv rfl rfl ?_)|refine AF rfl rfl rfl rfl ?_))<;>(refine hwp_o rfl ?_;(first|(refine AC rfl rfl ?_;refine g_fa rfl rfl ?_)|refine AF rfl rfl rfl rfl ?_))<;>(refine hwp_o rfl ?_;(first|(refine AC rfl rfl ?_;refine g_ldA rfl rfl ?_)|refine AF rfl rfl rfl rfl ?_))<;>(refine hwp_o rfl ?_;(first|(refine AC rfl rfl ?_;refine g_ia rfl rfl rfl ?_)|refine AF rfl rfl rfl rfl ?_))<;>(refine hwp_o rfl ?_;(first|(refine AC rfl rfl ?_;refine g_ldA rfl rfl ?_)|refine AF rfl rfl rfl rfl ?_))<;>(refine hwp_o rfl ?_;(first|(refine AC rfl rfl ?_;(first|refine Bw (fun _ _=>AR rfl rfl) rfl (by omega) ?_|refine Bx (fun _ _=>AR rfl rfl) rfl (by omega) ?_|refine AP (fun _ _=>AR rfl rfl) rfl (fun _=>?_) (fun _=>?_)))|refine AF rfl rfl rfl rfl ?_))<;>(first|refine h_pt rfl rfl rfl rfl ?_|refine h_pf rfl rfl rfl rfl ?_)<;>refine h_mv rfl rfl rfl ?_<;>(refine hwp_o rfl ?_;(first|(refine AC rfl rfl ?_;refine g_mv rfl rfl ?_)|refine AF rfl rfl rfl rfl ?_))<;>(refine hwp_o rfl ?_;(first|(refine AC rfl rfl ?_;(first|refine Bw (fun _ _=>DH rfl rfl) rfl (by omega) ?_|refine Bx (fun _ _=>DH rfl rfl) rfl (by omega) ?_|refine AP (fun _ _=>DH rfl rfl) rfl (fun _=>?_) (fun _=>?_)))|refine AF rfl rfl rfl rfl ?_))<;>(refine hwp_o rfl ?_;(first|(refine AC rfl rfl ?_;refine g_mv rfl rfl ?_)|refine AF rfl rfl rfl rfl ?_))<;>(refine hwp_o rfl ?_;(first|(refine AC rfl rfl ?_;refine g_mv rfl rfl ?_)|refine AF rfl rfl rfl rfl ?_))<;>(refine hwp_o rfl ?_;(first|(refine AC rfl rfl ?_;refine g_mv rfl rfl ?_)|refine AF rfl rfl rfl rfl ?_))<;>(refine hwp_o rfl ?_;(first|(refine AC rfl rfl ?_;refine g_sb rfl rfl rfl ?_)|refine AF rfl rfl rfl rfl ?_))<;>(refine hwp_o rfl ?_;(first|(refine AC rfl rfl ?_;refine g_ia rfl rfl rfl ?_)|refine AF rfl rfl rfl rfl ?_))<;>(refine hwp_o rfl ?_;(first|(refine AC rfl rfl ?_;refine g_fa rfl rfl ?_)|refine AF rfl rfl rfl rfl ?_))<;>(refine hwp_o rfl ?_;(first|(refine AC rfl rfl ?_;refine g_ldA rfl rfl ?_)|refine AF rfl rfl rfl rfl ?_))<;>(refine hwp_o rfl ?_;(first|(refine AC rfl rfl ?_;refine g_fa rfl rfl ?_)|refine AF rfl rfl rfl rfl ?_))<;>(refine hwp_o rfl ?_;(first|(refine AC rfl rfl ?_;refine g_ldA rfl rfl ?_)|refine AF rfl rfl rfl rfl ?_))<;>(refine hwp_o rfl ?_;(first|(refine AC rfl rfl ?_;(first|refine Bw (fun _ _=>AR rfl rfl) rfl (by omega) ?_|refine Bx (fun _ _=>AR rfl rfl) rfl (by omega) ?_|refine AP (fun _ _=>AR rfl rfl) rfl (fun _=>?_) (fun _=>?_)))|refine AF rfl rfl rfl rfl ?_))<;>(refine hwp_o rfl ?_;(first|(refine AC rfl rfl ?_;(first|refine g_pt rfl rfl rfl ?_|refine g_pf rfl rfl rfl ?_))|refine AF rfl rfl rfl rfl ?_))<;>(first|refine h_pt rfl rfl rfl rfl ?_|refine h_pf rfl rfl rfl rfl ?_)<;>(first|refine AK ?_|refine BS ?_|refine BU ?_))<;>(repeat (first|refine Ah ?_|refine Al ?_|refine Ae ?_|refine Am ?_|refine At ?_|refine Au ?_|refine Ar rfl ?_|refine Aj rfl ?_))
        all_goals first
          | (((first|refine o_ic rfl rfl ?_|refine o_ad rfl rfl rfl ?_)<;>refine o_mv rfl rfl ?_<;>(first|refine Ay ?_|refine Az ?_|refine Aw ?_|refine AA ?_))
             exact ⟨k + 1,⟨rfl,rfl,rfl,rfl,rfl,trivial⟩,⟨hE3,by omega,hh.step hx (hok (by omega) (by omega)) (fun y' _ hy'=>by omega)⟩,by omega⟩)
          | (((repeat (first|refine Ah ?_|refine Al ?_|refine Ae ?_|refine Am ?_|refine At ?_|refine Au ?_|refine Ar rfl ?_|refine Aj rfl ?_))<;>(refine o_as rfl rfl ?_<;>(first|refine Ay ?_|refine Az ?_|refine Aw ?_|refine AA ?_))<;>(repeat (first|refine Ah ?_|refine Al ?_|refine Ae ?_|refine Am ?_|refine At ?_|refine Au ?_|refine Ar rfl ?_|refine Aj rfl ?_)))
             refine ret1 rfl rfl ⟨?_,hE3⟩
             rw [bof_f (hno (by omega))])
    · have hno:¬ FactsOk vars f:=fun h=>by
        obtain ⟨h1,h2,y,h3,_⟩:=h.1 k x hx
        have:=Bf h3
        omega
      (refine h_fa rfl rfl rfl ?_<;>refine h_ldA rfl rfl rfl ?_<;>(first|refine h_ltT rfl rfl rfl rfl ?_|refine h_ltF rfl rfl rfl rfl ?_|refine h_ltS rfl rfl rfl rfl (fun _=>?_) fun _=>?_)<;>refine h_mv rfl rfl rfl ?_<;>(refine hwp_o rfl ?_;(first|(refine AC rfl rfl ?_;refine g_fa rfl rfl ?_)|refine AF rfl rfl rfl rfl ?_))<;>(refine hwp_o rfl ?_;(first|(refine AC rfl rfl ?_;refine g_ldA rfl rfl ?_)|refine AF rfl rfl rfl rfl ?_))<;>(refine hwp_o rfl ?_;(first|(refine AC rfl rfl ?_;refine g_mv rfl rfl ?_)|refine AF rfl rfl rfl rfl ?_))<;>(refine hwp_o rfl ?_;(first|(refine AC rfl rfl ?_;refine g_ln rfl rfl ?_)|refine AF rfl rfl rfl rfl ?_))<;>(refine hwp_o rfl ?_;(first|(refine AC rfl rfl ?_;(first|refine Bw (fun _ _=>AR rfl rfl) rfl (by omega) ?_|refine Bx (fun _ _=>AR rfl rfl) rfl (by omega) ?_|refine AP (fun _ _=>AR rfl rfl) rfl (fun _=>?_) (fun _=>?_)))|refine AF rfl rfl rfl rfl ?_))<;>(first|refine h_pt rfl rfl rfl rfl ?_|refine h_pf rfl rfl rfl rfl ?_)<;>refine h_mv rfl rfl rfl ?_<;>(refine hwp_o rfl ?_;(first|(refine AC rfl rfl ?_;refine g_fa rfl rfl ?_)|refine AF rfl rfl rfl rfl ?_))<;>(refine hwp_o rfl ?_;(first|(refine AC rfl rfl ?_;refine g_ldA rfl rfl ?_)|refine AF rfl rfl rfl rfl ?_))<;>(refine hwp_o rfl ?_;(first|(refine AC rfl rfl ?_;(first|refine Bw (fun _ _=>BV rfl rfl) rfl (by omega) ?_|refine Bx (fun _ _=>BV rfl rfl) rfl (by omega) ?_|refine AP (fun _ _=>BV rfl rfl) rfl (fun _=>?_) (fun _=>?_)))|refine AF rfl rfl rfl rfl ?_))<;>(first|refine h_pt rfl rfl rfl rfl ?_|refine h_pf rfl rfl rfl rfl ?_)<;>refine h_mv rfl rfl rfl ?_<;>(refine hwp_o rfl ?_;(first|(refine AC rfl rfl ?_;refine g_fa rfl rfl ?_)|refine AF rfl rfl rfl rfl ?_))<;>(refine hwp_o rfl ?_;(first|(refine AC rfl rfl ?_;refine g_ldA rfl rfl ?_)|refine AF rfl rfl rfl rfl ?_))<;>(refine hwp_o rfl ?_;(first|(refine AC rfl rfl ?_;refine g_mv rfl rfl ?_)|refine AF rfl rfl rfl rfl ?_))<;>(refine hwp_o rfl ?_;(first|(refine AC rfl rfl ?_;refine g_fa rfl rfl ?_)|refine AF rfl rfl rfl rfl ?_))<;>(refine hwp_o rfl ?_;(first|(refine AC rfl rfl ?_;refine g_ldA rfl rfl ?_)|refine AF rfl rfl rfl rfl ?_))<;>(refine hwp_o rfl ?_;(first|(refine AC rfl rfl ?_;refine g_ia rfl rfl rfl ?_)|refine AF rfl rfl rfl rfl ?_))<;>(refine hwp_o rfl ?_;(first|(refine AC rfl rfl ?_;refine g_ldA rfl rfl ?_)|refine AF rfl rfl rfl rfl ?_))<;>(refine hwp_o rfl ?_;(first|(refine AC rfl rfl ?_;(first|refine Bw (fun _ _=>AR rfl rfl) rfl (by omega) ?_|refine Bx (fun _ _=>AR rfl rfl) rfl (by omega) ?_|refine AP (fun _ _=>AR rfl rfl) rfl (fun _=>?_) (fun _=>?_)))|refine AF rfl rfl rfl rfl ?_))<;>(first|refine h_pt rfl rfl rfl rfl ?_|refine h_pf rfl rfl rfl rfl ?_)<;>refine h_mv rfl rfl rfl ?_<;>(refine hwp_o rfl ?_;(first|(refine AC rfl rfl ?_;refine g_mv rfl rfl ?_)|refine AF rfl rfl rfl rfl ?_))<;>(refine hwp_o rfl ?_;(first|(refine AC rfl rfl ?_;(first|refine Bw (fun _ _=>DH rfl rfl) rfl (by omega) ?_|refine Bx (fun _ _=>DH rfl rfl) rfl (by omega) ?_|refine AP (fun _ _=>DH rfl rfl) rfl (fun _=>?_) (fun _=>?_)))|refine AF rfl rfl rfl rfl ?_))<;>(refine hwp_o rfl ?_;(first|(refine AC rfl rfl ?_;refine g_mv rfl rfl ?_)|refine AF rfl rfl rfl rfl ?_))<;>(refine hwp_o rfl ?_;(first|(refine AC rfl rfl ?_;refine g_mv rfl rfl ?_)|refine AF rfl rfl rfl rfl ?_))<;>(refine hwp_o rfl ?_;(first|(refine AC rfl rfl ?_;refine g_mv rfl rfl ?_)|refine AF rfl rfl rfl rfl ?_))<;>(refine hwp_o rfl ?_;(first|(refine AC rfl rfl ?_;refine g_sb rfl rfl rfl ?_)|refine AF rfl rfl rfl rfl ?_))<;>(refine hwp_o rfl ?_;(first|(refine AC rfl rfl ?_;refine g_ia rfl rfl rfl ?_)|refine AF rfl rfl rfl rfl ?_))<;>(refine hwp_o rfl ?_;(first|(refine AC rfl rfl ?_;refine g_fa rfl rfl ?_)|refine AF rfl rfl rfl rfl ?_))<;>(refine hwp_o rfl ?_;(first|(refine AC rfl rfl ?_;refine g_ldA rfl rfl ?_)|refine AF rfl rfl rfl rfl ?_))<;>(refine hwp_o rfl ?_;(first|(refine AC rfl rfl ?_;refine g_fa rfl rfl ?_)|refine AF rfl rfl rfl rfl ?_))<;>(refine hwp_o rfl ?_;(first|(refine AC rfl rfl ?_;refine g_ldA rfl rfl ?_)|refine AF rfl rfl rfl rfl ?_))<;>(refine hwp_o rfl ?_;(first|(refine AC rfl rfl ?_;(first|refine Bw (fun _ _=>AR rfl rfl) rfl (by omega) ?_|refine Bx (fun _ _=>AR rfl rfl) rfl (by omega) ?_|refine AP (fun _ _=>AR rfl rfl) rfl (fun _=>?_) (fun _=>?_)))|refine AF rfl rfl rfl rfl ?_))<;>(refine hwp_o rfl ?_;(first|(refine AC rfl rfl ?_;(first|refine g_pt rfl rfl rfl ?_|refine g_pf rfl rfl rfl ?_))|refine AF rfl rfl rfl rfl ?_))<;>(first|refine h_pt rfl rfl rfl rfl ?_|refine h_pf rfl rfl rfl rfl ?_)<;>(first|refine AK ?_|refine BS ?_|refine BU ?_))<;>(repeat (first|refine Ah ?_|refine Al ?_|refine Ae ?_|refine Am ?_|refine At ?_|refine Au ?_|refine Ar rfl ?_|refine Aj rfl ?_))
      all_goals
        ((repeat (first|refine Ah ?_|refine Al ?_|refine Ae ?_|refine Am ?_|refine At ?_|refine Au ?_|refine Ar rfl ?_|refine Aj rfl ?_))<;>(refine o_as rfl rfl ?_<;>(first|refine Ay ?_|refine Az ?_|refine Aw ?_|refine AA ?_))<;>(repeat (first|refine Ah ?_|refine Al ?_|refine Ae ?_|refine Am ?_|refine At ?_|refine Au ?_|refine Ar rfl ?_|refine Aj rfl ?_)))
        refine ret1 rfl rfl ⟨?_,hE3⟩
        rw [bof_f hno]
  · ((repeat (first|refine Ah ?_|refine Al ?_|refine Ae ?_|refine Am ?_|refine At ?_|refine Au ?_|refine Ar rfl ?_|refine Aj rfl ?_))<;>((first|refine o_ltT rfl rfl rfl ?_|refine o_ltF rfl rfl rfl ?_)<;>(first|refine Ay ?_|refine Az ?_|refine Aw ?_|refine AA ?_))<;>(repeat (first|refine Ah ?_|refine Al ?_|refine Ae ?_|refine Am ?_|refine At ?_|refine Au ?_|refine Ar rfl ?_|refine Aj rfl ?_))<;>(refine o_as rfl rfl ?_<;>(first|refine Ay ?_|refine Az ?_|refine Aw ?_|refine AA ?_))<;>(repeat (first|refine Ah ?_|refine Al ?_|refine Ae ?_|refine Am ?_|refine At ?_|refine Au ?_|refine Ar rfl ?_|refine Aj rfl ?_)))
    refine ret1 rfl rfl ⟨?_,hE⟩
    rw [bof_t (hh.done (by omega))]
theorem taskFacts {w:World} {vv fv:Value} {vars:List Int} {f:List Fct} (hv:V w vv vars) (hf:V w fv f) :
    Fn Try.prog 56 [vv,fv] w fun v w'=>v=.bool (bof (FactsOk vars f))∧Ext w w':=by
  obtain ⟨A,ca,rfl⟩:=hv.form
  obtain ⟨B,cb,rfl⟩:=hf.form
  have hfl:=hf.len
  refine AL Try.func56 rfl Try.ntmps56 rfl ?_
  ((repeat (first|refine Ah ?_|refine Al ?_|refine Ae ?_|refine Am ?_|refine At ?_|refine Au ?_|refine Ar rfl ?_|refine Aj rfl ?_))<;>(refine o_as rfl rfl ?_<;>(first|refine Ay ?_|refine Az ?_|refine Aw ?_|refine AA ?_))<;>(repeat (first|refine Ah ?_|refine Al ?_|refine Ae ?_|refine Am ?_|refine At ?_|refine Au ?_|refine Ar rfl ?_|refine Aj rfl ?_))<;>(refine o_as rfl rfl ?_<;>(first|refine Ay ?_|refine Az ?_|refine Aw ?_|refine AA ?_))<;>(repeat (first|refine Ah ?_|refine Al ?_|refine Ae ?_|refine Am ?_|refine At ?_|refine Au ?_|refine Ar rfl ?_|refine Aj rfl ?_))<;>(refine o_mv rfl rfl ?_<;>refine o_ln rfl rfl ?_<;>refine o_mv rfl rfl ?_<;>(first|refine Ay ?_|refine Az ?_|refine Aw ?_|refine AA ?_))<;>(repeat (first|refine Ah ?_|refine Al ?_|refine Ae ?_|refine Am ?_|refine At ?_|refine Au ?_|refine Ar rfl ?_|refine Aj rfl ?_)))
  refine Ds (X:=Nat×Int) (fun k=>[(0,.slice A vars.length ca),(5,.int .i64 k.2),(8,.slice B f.length cb),(9,.int .i64 (f.length:Int)),(10,.int .i64 (k.1:Int))])
    (fun k w'=>Ext w w'∧k.1≤f.length∧FactsTo vars f k.1∧(k.1=0→k.2=-1)∧∀ y,0 < k.1→f[k.1 - 1]?=some y→y.var=k.2) (fun k=>f.length - k.1) (0,-1) ⟨Below.refl _ _,Nat.zero_le _,⟨fun i _ h=>by simp at h,fun i _ _ h=>by simp at h⟩,fun _=>rfl,fun y h=>by simp at h⟩ ⟨rfl,rfl,rfl,rfl,rfl,trivial⟩ ?_
  rintro ⟨k,m⟩ w1 ⟨hE,hk,hh,hm0,hm⟩
  dsimp only at hk hh hm0 hm ⊢
  by_cases hlt:k < f.length
  · obtain ⟨x,hx⟩:=AH hlt
    obtain ⟨b,o,ce,rfl,hb,_,hd1,rfl,hr1,hr2⟩:=(hf.ext hE).elem hx
    ((repeat (first|refine Ah ?_|refine Al ?_|refine Ae ?_|refine Am ?_|refine At ?_|refine Au ?_|refine Ar rfl ?_|refine Aj rfl ?_))<;>((first|refine o_ltT rfl rfl rfl ?_|refine o_ltF rfl rfl rfl ?_)<;>(first|refine Ay ?_|refine Az ?_|refine Aw ?_|refine AA ?_))<;>(repeat (first|refine Ah ?_|refine Al ?_|refine Ae ?_|refine Am ?_|refine At ?_|refine Au ?_|refine Ar rfl ?_|refine Aj rfl ?_))<;>(refine o_ia rfl rfl rfl ?_<;>refine o_la rfl rfl ?_)<;>(repeat (first|refine Ah ?_|refine Al ?_|refine Ae ?_|refine Am ?_|refine At ?_|refine Au ?_|refine Ar rfl ?_|refine Aj rfl ?_)))
    refine BE rfl rfl rfl (by simp [Value.cells,Value.oneCell']) fun w3 hN=>?_
    have hb1:=hN.blk
    have hE3:Ext w w3:=hE.trans' hN.ext
    ((first|refine Ay ?_|refine Az ?_|refine Aw ?_|refine AA ?_))
    repeat (first|refine Ah ?_|refine Al ?_|refine Ae ?_|refine Am ?_|refine At ?_|refine Au ?_|refine Ar rfl ?_|refine Aj rfl ?_)
    refine BJ (·=w3) [(0,true),(1,true),(2,true),(3,true),(4,true),(5,true),(6,true),(7,true),(8,true),(9,true),(10,true),(11,true),(12,true),(13,true),(14,true),(15,true),(16,true),(17,true),(18,true),(19,true),(20,true),(21,true),(22,true),(23,true),(24,true),(25,true)] (by kernel_rfl) rfl (by kernel_rfl) rfl ?_
    have hm1:0 < k→∃ z,f[k - 1]?=some z∧z.var=m:=fun h0=>by
      obtain ⟨z,hz⟩:=AH (l:=f) (k:=k - 1) (by omega)
      exact ⟨z,hz,hm z h0 hz⟩
    have hge:0 < k→0≤m:=fun h0=>by
      obtain ⟨z,hz,he⟩:=hm1 h0
      have:=(hh.1 (k - 1) z (by omega) hz).1
      omega
    have hge':-1≤m:=by
      by_cases h0:0 < k
      · have:=hge h0;omega
      · have:=hm0 (by omega);omega
    have hno0:¬ m < x.var→¬ FactsOk vars f:=fun h1 h2=>by
      by_cases h0:0 < k
      · obtain ⟨z,hz,he⟩:=hm1 h0
        have:=h2.2 (k - 1) z x hz (by rw [show k - 1 + 1=k from by omega];exact hx)
        omega
      · have:=hm0 (by omega)
        have:=(h2.1 k x hx).1
        omega
    by_cases hvr:0≤x.var∧x.var < vars.length
    · obtain ⟨j,hj1⟩:=Int.eq_ofNat_of_zero_le hvr.1
      obtain ⟨y,hy⟩:=AH (l:=vars) (k:=j) (by omega)
      obtain ⟨b2,o2,ce2,rfl,_,_,hd2,rfl,_⟩:=(hv.ext hE3).elem hy
      have hjy:vars[x.var.toNat]?=some y:=by rw [hj1];simpa using hy
      have hok:0≤x.val→x.val < y→FactOk vars x:=fun h1 h2=>⟨hvr.1,h1,y,hjy,h2⟩
      have hno:¬ (0≤x.val∧x.val < y)→¬ FactsOk vars f:=fun h1 h2=>h1 (by
        obtain ⟨_,h3,y',h4,h5⟩:=h2.1 k x hx
        rw [hjy] at h4;injection h4 with h4;subst h4;exact ⟨h3,h5⟩)
      (refine h_fa rfl rfl rfl ?_<;>refine h_ldA rfl rfl rfl ?_<;>refine h_mv rfl rfl rfl ?_<;>(first|refine h_leT rfl rfl rfl rfl ?_|refine h_leF rfl rfl rfl rfl ?_|refine h_leS rfl rfl rfl rfl (fun _=>?_) fun _=>?_)<;>refine h_mv rfl rfl rfl ?_<;>(refine hwp_o rfl ?_;(first|(refine AC rfl rfl ?_;refine g_fa rfl rfl ?_)|refine AF rfl rfl rfl rfl ?_))<;>(refine hwp_o rfl ?_;(first|(refine AC rfl rfl ?_;refine g_ldA rfl rfl ?_)|refine AF rfl rfl rfl rfl ?_))<;>(refine hwp_o rfl ?_;(first|(refine AC rfl rfl ?_;refine g_mv rfl rfl ?_)|refine AF rfl rfl rfl rfl ?_))<;>(refine hwp_o rfl ?_;(first|(refine AC rfl rfl ?_;refine g_ln rfl rfl ?_)|refine AF rfl rfl rfl rfl ?_))<;>(refine hwp_o rfl ?_;(first|(refine AC rfl rfl ?_;(first|refine Bw (fun _ _=>AR rfl rfl) rfl (by omega) ?_|refine Bx (fun _ _=>AR rfl rfl) rfl (by omega) ?_|refine AP (fun _ _=>AR rfl rfl) rfl (fun _=>?_) (fun _=>?_)))|refine AF rfl rfl rfl rfl ?_))<;>(first|refine h_pt rfl rfl rfl rfl ?_|refine h_pf rfl rfl rfl rfl ?_)<;>refine h_mv rfl rfl rfl ?_<;>(refine hwp_o rfl ?_;(first|(refine AC rfl rfl ?_;refine g_fa rfl rfl ?_)|refine AF rfl rfl rfl rfl ?_))<;>(refine hwp_o rfl ?_;(first|(refine AC rfl rfl ?_;refine g_ldA rfl rfl ?_)|refine AF rfl rfl rfl rfl ?_))<;>(refine hwp_o rfl ?_;(first|(refine AC rfl rfl ?_;(first|refine Bw (fun _ _=>BV rfl rfl) rfl (by omega) ?_|refine Bx (fun _ _=>BV rfl rfl) rfl (by omega) ?_|refine AP (fun _ _=>BV rfl rfl) rfl (fun _=>?_) (fun _=>?_)))|refine AF rfl rfl rfl rfl ?_))<;>(first|refine h_pt rfl rfl rfl rfl ?_|refine h_pf rfl rfl rfl rfl ?_)<;>refine h_mv rfl rfl rfl ?_<;>(refine hwp_o rfl ?_;(first|(refine AC rfl rfl ?_;refine g_fa rfl rfl ?_)|refine AF rfl rfl rfl rfl ?_))<;>(refine hwp_o rfl ?_;(first|(refine AC rfl rfl ?_;refine g_ldA rfl rfl ?_)|refine AF rfl rfl rfl rfl ?_))<;>(refine hwp_o rfl ?_;(first|(refine AC rfl rfl ?_;refine g_mv rfl rfl ?_)|refine AF rfl rfl rfl rfl ?_))<;>(refine hwp_o rfl ?_;(first|(refine AC rfl rfl ?_;refine g_fa rfl rfl ?_)|refine AF rfl rfl rfl rfl ?_))<;>(refine hwp_o rfl ?_;(first|(refine AC rfl rfl ?_;refine g_ldA rfl rfl ?_)|refine AF rfl rfl rfl rfl ?_))<;>(refine hwp_o rfl ?_;(first|(refine AC rfl rfl ?_;refine g_ia rfl rfl rfl ?_)|refine AF rfl rfl rfl rfl ?_))<;>(refine hwp_o rfl ?_;(first|(refine AC rfl rfl ?_;refine g_ldA rfl rfl ?_)|refine AF rfl rfl rfl rfl ?_))<;>(refine hwp_o rfl ?_;(first|(refine AC rfl rfl ?_;(first|refine Bw (fun _ _=>AR rfl rfl) rfl (by omega) ?_|refine Bx (fun _ _=>AR rfl rfl) rfl (by omega) ?_|refine AP (fun _ _=>AR rfl rfl) rfl (fun _=>?_) (fun _=>?_)))|refine AF rfl rfl rfl rfl ?_))<;>(first|refine h_pt rfl rfl rfl rfl ?_|refine h_pf rfl rfl rfl rfl ?_)<;>(first|refine AK ?_|refine BS ?_|refine BU ?_))<;>(repeat (first|refine Ah ?_|refine Al ?_|refine Ae ?_|refine Am ?_|refine At ?_|refine Au ?_|refine Ar rfl ?_|refine Aj rfl ?_))
      all_goals try (
        ((repeat (first|refine Ah ?_|refine Al ?_|refine Ae ?_|refine Am ?_|refine At ?_|refine Au ?_|refine Ar rfl ?_|refine Aj rfl ?_))<;>(refine o_as rfl rfl ?_<;>(first|refine Ay ?_|refine Az ?_|refine Aw ?_|refine AA ?_))<;>(repeat (first|refine Ah ?_|refine Al ?_|refine Ae ?_|refine Am ?_|refine At ?_|refine Au ?_|refine Ar rfl ?_|refine Aj rfl ?_)))
        refine ret1 rfl rfl ⟨?_,hE3⟩
        first|rw [bof_f (hno (by omega))]|rw [bof_f (hno0 (by omega))])
      ((repeat (first|refine Ah ?_|refine Al ?_|refine Ae ?_|refine Am ?_|refine At ?_|refine Au ?_|refine Ar rfl ?_|refine Aj rfl ?_))<;>(refine o_fa rfl rfl ?_<;>refine o_ld rfl rfl ?_<;>refine o_as rfl rfl ?_<;>(first|refine Ay ?_|refine Az ?_|refine Aw ?_|refine AA ?_))<;>(repeat (first|refine Ah ?_|refine Al ?_|refine Ae ?_|refine Am ?_|refine At ?_|refine Au ?_|refine Ar rfl ?_|refine Aj rfl ?_)))
      ((first|refine o_ic rfl rfl ?_|refine o_ad rfl rfl rfl ?_)<;>refine o_mv rfl rfl ?_<;>(first|refine Ay ?_|refine Az ?_|refine Aw ?_|refine AA ?_))
      refine ⟨(k + 1,x.var),⟨rfl,rfl,rfl,rfl,rfl,trivial⟩,⟨hE3,hlt,hh.step hx (hok (by omega) (by omega)) (fun y' h0 hy'=>by have:=hm y' h0 hy';omega),fun h=>absurd h (Nat.succ_ne_zero k),fun y' _ hy'=>?_⟩,Nat.sub_lt_sub_left hlt (Nat.lt_succ_self k)⟩
      rw [show k + 1 - 1=k from rfl,hx] at hy'
      exact congrArg Fct.var (Option.some.inj hy').symm
    · have hno:¬ FactsOk vars f:=fun h=>by
        obtain ⟨h1,h2,y,h3,_⟩:=h.1 k x hx
        have:=Bf h3
        omega
      (refine h_fa rfl rfl rfl ?_<;>refine h_ldA rfl rfl rfl ?_<;>refine h_mv rfl rfl rfl ?_<;>(first|refine h_leT rfl rfl rfl rfl ?_|refine h_leF rfl rfl rfl rfl ?_|refine h_leS rfl rfl rfl rfl (fun _=>?_) fun _=>?_)<;>refine h_mv rfl rfl rfl ?_<;>(refine hwp_o rfl ?_;(first|(refine AC rfl rfl ?_;refine g_fa rfl rfl ?_)|refine AF rfl rfl rfl rfl ?_))<;>(refine hwp_o rfl ?_;(first|(refine AC rfl rfl ?_;refine g_ldA rfl rfl ?_)|refine AF rfl rfl rfl rfl ?_))<;>(refine hwp_o rfl ?_;(first|(refine AC rfl rfl ?_;refine g_mv rfl rfl ?_)|refine AF rfl rfl rfl rfl ?_))<;>(refine hwp_o rfl ?_;(first|(refine AC rfl rfl ?_;refine g_ln rfl rfl ?_)|refine AF rfl rfl rfl rfl ?_))<;>(refine hwp_o rfl ?_;(first|(refine AC rfl rfl ?_;(first|refine Bw (fun _ _=>AR rfl rfl) rfl (by omega) ?_|refine Bx (fun _ _=>AR rfl rfl) rfl (by omega) ?_|refine AP (fun _ _=>AR rfl rfl) rfl (fun _=>?_) (fun _=>?_)))|refine AF rfl rfl rfl rfl ?_))<;>(first|refine h_pt rfl rfl rfl rfl ?_|refine h_pf rfl rfl rfl rfl ?_)<;>refine h_mv rfl rfl rfl ?_<;>(refine hwp_o rfl ?_;(first|(refine AC rfl rfl ?_;refine g_fa rfl rfl ?_)|refine AF rfl rfl rfl rfl ?_))<;>(refine hwp_o rfl ?_;(first|(refine AC rfl rfl ?_;refine g_ldA rfl rfl ?_)|refine AF rfl rfl rfl rfl ?_))<;>(refine hwp_o rfl ?_;(first|(refine AC rfl rfl ?_;(first|refine Bw (fun _ _=>BV rfl rfl) rfl (by omega) ?_|refine Bx (fun _ _=>BV rfl rfl) rfl (by omega) ?_|refine AP (fun _ _=>BV rfl rfl) rfl (fun _=>?_) (fun _=>?_)))|refine AF rfl rfl rfl rfl ?_))<;>(first|refine h_pt rfl rfl rfl rfl ?_|refine h_pf rfl rfl rfl rfl ?_)<;>refine h_mv rfl rfl rfl ?_<;>(refine hwp_o rfl ?_;(first|(refine AC rfl rfl ?_;refine g_fa rfl rfl ?_)|refine AF rfl rfl rfl rfl ?_))<;>(refine hwp_o rfl ?_;(first|(refine AC rfl rfl ?_;refine g_ldA rfl rfl ?_)|refine AF rfl rfl rfl rfl ?_))<;>(refine hwp_o rfl ?_;(first|(refine AC rfl rfl ?_;refine g_mv rfl rfl ?_)|refine AF rfl rfl rfl rfl ?_))<;>(refine hwp_o rfl ?_;(first|(refine AC rfl rfl ?_;refine g_fa rfl rfl ?_)|refine AF rfl rfl rfl rfl ?_))<;>(refine hwp_o rfl ?_;(first|(refine AC rfl rfl ?_;refine g_ldA rfl rfl ?_)|refine AF rfl rfl rfl rfl ?_))<;>(refine hwp_o rfl ?_;(first|(refine AC rfl rfl ?_;refine g_ia rfl rfl rfl ?_)|refine AF rfl rfl rfl rfl ?_))<;>(refine hwp_o rfl ?_;(first|(refine AC rfl rfl ?_;refine g_ldA rfl rfl ?_)|refine AF rfl rfl rfl rfl ?_))<;>(refine hwp_o rfl ?_;(first|(refine AC rfl rfl ?_;(first|refine Bw (fun _ _=>AR rfl rfl) rfl (by omega) ?_|refine Bx (fun _ _=>AR rfl rfl) rfl (by omega) ?_|refine AP (fun _ _=>AR rfl rfl) rfl (fun _=>?_) (fun _=>?_)))|refine AF rfl rfl rfl rfl ?_))<;>(first|refine h_pt rfl rfl rfl rfl ?_|refine h_pf rfl rfl rfl rfl ?_)<;>(first|refine AK ?_|refine BS ?_|refine BU ?_))<;>(repeat (first|refine Ah ?_|refine Al ?_|refine Ae ?_|refine Am ?_|refine At ?_|refine Au ?_|refine Ar rfl ?_|refine Aj rfl ?_))
      all_goals
        ((repeat (first|refine Ah ?_|refine Al ?_|refine Ae ?_|refine Am ?_|refine At ?_|refine Au ?_|refine Ar rfl ?_|refine Aj rfl ?_))<;>(refine o_as rfl rfl ?_<;>(first|refine Ay ?_|refine Az ?_|refine Aw ?_|refine AA ?_))<;>(repeat (first|refine Ah ?_|refine Al ?_|refine Ae ?_|refine Am ?_|refine At ?_|refine Au ?_|refine Ar rfl ?_|refine Aj rfl ?_)))
        refine ret1 rfl rfl ⟨?_,hE3⟩
        rw [bof_f hno]
  · ((repeat (first|refine Ah ?_|refine Al ?_|refine Ae ?_|refine Am ?_|refine At ?_|refine Au ?_|refine Ar rfl ?_|refine Aj rfl ?_))<;>((first|refine o_ltT rfl rfl rfl ?_|refine o_ltF rfl rfl rfl ?_)<;>(first|refine Ay ?_|refine Az ?_|refine Aw ?_|refine AA ?_))<;>(repeat (first|refine Ah ?_|refine Al ?_|refine Ae ?_|refine Am ?_|refine At ?_|refine Au ?_|refine Ar rfl ?_|refine Aj rfl ?_))<;>(refine o_as rfl rfl ?_<;>(first|refine Ay ?_|refine Az ?_|refine Aw ?_|refine AA ?_))<;>(repeat (first|refine Ah ?_|refine Al ?_|refine Ae ?_|refine Am ?_|refine At ?_|refine Au ?_|refine Ar rfl ?_|refine Aj rfl ?_)))
    refine ret1 rfl rfl ⟨?_,hE⟩
    rw [bof_t (hh.done (by omega))]
def NameOk (s:ByteArray):Prop:=s.size≤256∧∀ (i:Nat) (h:i < s.size),32≤(s[i]'h).toNat∧(s[i]'h).toNat≤126
theorem taskNamed {w:World} {s:ByteArray} (hs:s.size≤9223372036854775807) :
    Fn Try.prog 57 [.string s] w fun v w'=>v=.bool (bof (NameOk s))∧Ext w w':=by
  refine AL Try.func57 rfl Try.ntmps57 rfl ?_
  ((repeat (first|refine Ah ?_|refine Al ?_|refine Ae ?_|refine Am ?_|refine At ?_|refine Au ?_|refine Ar rfl ?_|refine Aj rfl ?_))<;>(refine o_as rfl rfl ?_<;>(first|refine Ay ?_|refine Az ?_|refine Aw ?_|refine AA ?_))<;>(repeat (first|refine Ah ?_|refine Al ?_|refine Ae ?_|refine Am ?_|refine At ?_|refine Au ?_|refine Ar rfl ?_|refine Aj rfl ?_))<;>(refine o_mv rfl rfl ?_<;>refine o_ls rfl rfl ?_<;>refine o_mv rfl rfl ?_<;>(first|refine Ay ?_|refine Az ?_|refine Aw ?_|refine AA ?_))<;>(repeat (first|refine Ah ?_|refine Al ?_|refine Ae ?_|refine Am ?_|refine At ?_|refine Au ?_|refine Ar rfl ?_|refine Aj rfl ?_)))
  refine Ds (fun k:Nat=>[(0,.string s),(5,.int .i64 (s.size:Int)),(6,.int .i64 (k:Int))])
    (fun k w'=>w'=w∧k≤s.size∧∀ (i:Nat) (h:i < s.size),i < k→32≤(s[i]'h).toNat∧(s[i]'h).toNat≤126) (fun k=>s.size - k) 0 ⟨rfl,Nat.zero_le _,fun i _ h=>by omega⟩ ⟨rfl,rfl,rfl,trivial⟩ ?_
  rintro k _ ⟨rfl,hk,hh⟩
  by_cases hlt:k < s.size
  · ((repeat (first|refine Ah ?_|refine Al ?_|refine Ae ?_|refine Am ?_|refine At ?_|refine Au ?_|refine Ar rfl ?_|refine Aj rfl ?_))<;>((first|refine o_ltT rfl rfl rfl ?_|refine o_ltF rfl rfl rfl ?_)<;>(first|refine Ay ?_|refine Az ?_|refine Aw ?_|refine AA ?_))<;>(repeat (first|refine Ah ?_|refine Al ?_|refine Ae ?_|refine Am ?_|refine At ?_|refine Au ?_|refine Ar rfl ?_|refine Aj rfl ?_))<;>(refine o_mv rfl rfl ?_<;>refine o_as rfl rfl ?_<;>(first|refine Ay ?_|refine Az ?_|refine Aw ?_|refine AA ?_))<;>(repeat (first|refine Ah ?_|refine Al ?_|refine Ae ?_|refine Am ?_|refine At ?_|refine Au ?_|refine Ar rfl ?_|refine Aj rfl ?_))<;>(refine o_mv rfl rfl ?_<;>refine o_mv rfl rfl ?_<;>refine o_ix rfl rfl rfl (by omega) ?_<;>(first|refine o_ltT rfl rfl rfl ?_|refine o_ltF rfl rfl rfl ?_|refine o_ltS rfl rfl rfl (fun _=>?_) fun _=>?_)<;>refine o_mv rfl rfl ?_<;>(first|(refine AE rfl rfl ?_;refine o_mv rfl rfl ?_)|refine AD rfl rfl rfl rfl ?_)<;>(first|(refine AE rfl rfl ?_;refine o_mv rfl rfl ?_)|refine AD rfl rfl rfl rfl ?_)<;>(first|(refine AE rfl rfl ?_;refine o_ix rfl rfl rfl (by omega) ?_)|refine AD rfl rfl rfl rfl ?_)<;>(first|(refine AE rfl rfl ?_;(first|refine o_gtT rfl rfl rfl ?_|refine o_gtF rfl rfl rfl ?_|refine o_gtS rfl rfl rfl (fun _=>?_) fun _=>?_))|refine AD rfl rfl rfl rfl ?_)<;>(first|refine o_pt rfl rfl rfl ?_|refine o_pf rfl rfl rfl ?_)<;>(first|refine Ay ?_|refine Az ?_|refine Aw ?_|refine AA ?_))<;>(repeat (first|refine Ah ?_|refine Al ?_|refine Ae ?_|refine Am ?_|refine At ?_|refine Au ?_|refine Ar rfl ?_|refine Aj rfl ?_)))
    all_goals first
      | (((first|refine o_ic rfl rfl ?_|refine o_ad rfl rfl rfl ?_)<;>refine o_mv rfl rfl ?_<;>(first|refine Ay ?_|refine Az ?_|refine Aw ?_|refine AA ?_))
         refine ⟨k + 1,⟨rfl,rfl,rfl,trivial⟩,⟨rfl,by omega,fun i h hi=>?_⟩,by omega⟩
         by_cases he:i=k
         · subst he;omega
         · exact hh i h (by omega))
      | (((repeat (first|refine Ah ?_|refine Al ?_|refine Ae ?_|refine Am ?_|refine At ?_|refine Au ?_|refine Ar rfl ?_|refine Aj rfl ?_))<;>(refine o_as rfl rfl ?_<;>(first|refine Ay ?_|refine Az ?_|refine Aw ?_|refine AA ?_))<;>(repeat (first|refine Ah ?_|refine Al ?_|refine Ae ?_|refine Am ?_|refine At ?_|refine Au ?_|refine Ar rfl ?_|refine Aj rfl ?_)))
         refine ret1 rfl rfl ⟨?_,Below.refl _ _⟩
         rw [bof_f (fun h=>by have:=h.2 k hlt;omega)])
  · by_cases h256:s.size≤256
    · ((repeat (first|refine Ah ?_|refine Al ?_|refine Ae ?_|refine Am ?_|refine At ?_|refine Au ?_|refine Ar rfl ?_|refine Aj rfl ?_))<;>((first|refine o_ltT rfl rfl rfl ?_|refine o_ltF rfl rfl rfl ?_)<;>(first|refine Ay ?_|refine Az ?_|refine Aw ?_|refine AA ?_))<;>(repeat (first|refine Ah ?_|refine Al ?_|refine Ae ?_|refine Am ?_|refine At ?_|refine Au ?_|refine Ar rfl ?_|refine Aj rfl ?_))<;>(refine o_mv rfl rfl ?_<;>refine o_ls rfl rfl ?_<;>(first|refine o_leT rfl rfl rfl ?_|refine o_leF rfl rfl rfl ?_)<;>refine o_as rfl rfl ?_<;>(first|refine Ay ?_|refine Az ?_|refine Aw ?_|refine AA ?_))<;>(repeat (first|refine Ah ?_|refine Al ?_|refine Ae ?_|refine Am ?_|refine At ?_|refine Au ?_|refine Ar rfl ?_|refine Aj rfl ?_)))
      refine ret1 rfl rfl ⟨?_,Below.refl _ _⟩
      rw [bof_t ⟨h256,fun i h=>hh i h (by omega)⟩]
    · ((repeat (first|refine Ah ?_|refine Al ?_|refine Ae ?_|refine Am ?_|refine At ?_|refine Au ?_|refine Ar rfl ?_|refine Aj rfl ?_))<;>((first|refine o_ltT rfl rfl rfl ?_|refine o_ltF rfl rfl rfl ?_)<;>(first|refine Ay ?_|refine Az ?_|refine Aw ?_|refine AA ?_))<;>(repeat (first|refine Ah ?_|refine Al ?_|refine Ae ?_|refine Am ?_|refine At ?_|refine Au ?_|refine Ar rfl ?_|refine Aj rfl ?_))<;>(refine o_mv rfl rfl ?_<;>refine o_ls rfl rfl ?_<;>(first|refine o_leT rfl rfl rfl ?_|refine o_leF rfl rfl rfl ?_)<;>refine o_as rfl rfl ?_<;>(first|refine Ay ?_|refine Az ?_|refine Aw ?_|refine AA ?_))<;>(repeat (first|refine Ah ?_|refine Al ?_|refine Ae ?_|refine Am ?_|refine At ?_|refine Au ?_|refine Ar rfl ?_|refine Aj rfl ?_)))
      refine ret1 rfl rfl ⟨?_,Below.refl _ _⟩
      rw [bof_f (fun h=>h256 h.1)]
end
section
open Go Go.RowKit
attribute [local irreducible] ewp owp hwp hwq hws Ev Evg Fn retPost loud loudS Res1
theorem EV {vars:List Int} {x:Fct}:FactsOk vars [x]↔FactOk vars x:=by
  constructor
  · intro h;exact h.1 0 x rfl
  · intro h
    refine ⟨fun i y hy=>?_,fun i y z _ hz=>by simp at hz⟩
    cases i with
    | zero=>simp at hy;exact hy ▸ h
    | succ i=>simp at hy
def EffOk (vars:List Int) (e:Eff):Prop:=FactsOk vars e.cond∧FactOk vars ⟨e.var,e.val⟩
def OpOk (vars:List Int) (o:Opr):Prop:=0≤o.cost∧o.cost≤1048576∧o.effs.length≤64∧NameOk o.name∧FactsOk vars o.pre∧∀ (i:Nat) e,o.effs[i]?=some e→EffOk vars e
def TaskOk (t:Tsk):Prop:=t.vars.length≤64∧t.ops.length≤4096∧(∀ (i:Nat) n,t.vars[i]?=some n→1≤n∧n≤64)∧StateOk t.vars t.init∧FactsOk t.vars t.goal∧∀ (i:Nat) o,t.ops[i]?=some o→OpOk t.vars o
theorem Cl {p:Nat→Prop} {k:Nat} (h:∀ i,i < k→p i) (hk:p k):∀ i,i < k + 1→p i:=fun i hi=>by
  by_cases he:i=k
  · subst he;exact hk
  · exact h i (by omega)
theorem baseOperator {w:World} {vv ov:Value} {vars:List Int} {o:Opr} (hv:V w vv vars) (ho:V w ov o) :
    Fn Try.prog 52 [vv,ov] w fun v w'=>v=.bool (bof (OpOk vars o))∧Ext w w':=by
  obtain ⟨Av,cv,rfl⟩:=hv.form
  obtain ⟨cs,rfl,p,q,rfl,hp,hq,hc,hn⟩:=ho
  obtain ⟨Ap,cp,rfl⟩:=hp.form
  obtain ⟨Aq,cq,rfl⟩:=hq.form
  have hql:=hq.len
  refine AL Try.func52 rfl Try.ntmps52 rfl ?_
  repeat (first|refine Ah ?_|refine Al ?_|refine Ae ?_|refine Am ?_|refine At ?_|refine Au ?_|refine Ar rfl ?_|refine Aj rfl ?_)
  refine CN rfl rfl fun w1 hN=>?_
  have hb1:=hN.blk
  have hE1:Ext w w1:=hN.ext
  (refine o_as rfl rfl ?_<;>(first|refine Ay ?_|refine Az ?_|refine Aw ?_|refine AA ?_))
  repeat (first|refine Ah ?_|refine Al ?_|refine Ae ?_|refine Am ?_|refine At ?_|refine Au ?_|refine Ar rfl ?_|refine Aj rfl ?_)
  (refine o_fa rfl rfl ?_<;>refine o_ld rfl rfl ?_<;>(first|refine o_ltT rfl rfl rfl ?_|refine o_ltF rfl rfl rfl ?_|refine o_ltS rfl rfl rfl (fun _=>?_) fun _=>?_)<;>refine o_mv rfl rfl ?_<;>(first|(refine AE rfl rfl ?_;refine o_fa rfl rfl ?_)|refine AD rfl rfl rfl rfl ?_)<;>(first|(refine AE rfl rfl ?_;refine o_ld rfl rfl ?_)|refine AD rfl rfl rfl rfl ?_)<;>(first|(refine AE rfl rfl ?_;(first|refine o_gtT rfl rfl rfl ?_|refine o_gtF rfl rfl rfl ?_|refine o_gtS rfl rfl rfl (fun _=>?_) fun _=>?_))|refine AD rfl rfl rfl rfl ?_)<;>(first|refine o_pt rfl rfl rfl ?_|refine o_pf rfl rfl rfl ?_)<;>refine o_mv rfl rfl ?_<;>(first|(refine AE rfl rfl ?_;refine o_fa rfl rfl ?_)|refine AD rfl rfl rfl rfl ?_)<;>(first|(refine AE rfl rfl ?_;refine o_ld rfl rfl ?_)|refine AD rfl rfl rfl rfl ?_)<;>(first|(refine AE rfl rfl ?_;refine o_ln rfl rfl ?_)|refine AD rfl rfl rfl rfl ?_)<;>(first|(refine AE rfl rfl ?_;(first|refine o_gtT rfl rfl rfl ?_|refine o_gtF rfl rfl rfl ?_|refine o_gtS rfl rfl rfl (fun _=>?_) fun _=>?_))|refine AD rfl rfl rfl rfl ?_)<;>(first|refine o_pt rfl rfl rfl ?_|refine o_pf rfl rfl rfl ?_)<;>refine o_mv rfl rfl ?_<;>(first|(refine AE rfl rfl ?_;refine o_fa rfl rfl ?_)|refine AD rfl rfl rfl rfl ?_)<;>(first|(refine AE rfl rfl ?_;refine o_ld rfl rfl ?_)|refine AD rfl rfl rfl rfl ?_)<;>(first|(refine AE rfl rfl ?_;refine o_ls rfl rfl ?_)|refine AD rfl rfl rfl rfl ?_)<;>(first|(refine AE rfl rfl ?_;(first|refine o_gtT rfl rfl rfl ?_|refine o_gtF rfl rfl rfl ?_|refine o_gtS rfl rfl rfl (fun _=>?_) fun _=>?_))|refine AD rfl rfl rfl rfl ?_)<;>(first|refine o_pt rfl rfl rfl ?_|refine o_pf rfl rfl rfl ?_)<;>refine o_mv rfl rfl ?_<;>(first|(refine AE rfl rfl ?_;refine o_mv rfl rfl ?_)|refine AD rfl rfl rfl rfl ?_)<;>(first|(refine AE rfl rfl ?_;refine o_fa rfl rfl ?_)|refine AD rfl rfl rfl rfl ?_)<;>(first|(refine AE rfl rfl ?_;refine o_ld rfl rfl ?_)|refine AD rfl rfl rfl rfl ?_))
  all_goals try (
    refine AD rfl rfl rfl rfl ?_
    ((first|(refine AE rfl rfl ?_;(first|refine o_nt rfl rfl ?_|refine o_nf rfl rfl ?_|refine o_nn rfl rfl ?_))|refine AD rfl rfl rfl rfl ?_)<;>(first|refine o_pt rfl rfl rfl ?_|refine o_pf rfl rfl rfl ?_)<;>(first|refine Ay ?_|refine Az ?_|refine Aw ?_|refine AA ?_))
    repeat (first|refine Ah ?_|refine Al ?_|refine Ae ?_|refine Am ?_|refine At ?_|refine Au ?_|refine Ar rfl ?_|refine Aj rfl ?_)
    ((repeat (first|refine Ah ?_|refine Al ?_|refine Ae ?_|refine Am ?_|refine At ?_|refine Au ?_|refine Ar rfl ?_|refine Aj rfl ?_))<;>(refine o_as rfl rfl ?_<;>(first|refine Ay ?_|refine Az ?_|refine Aw ?_|refine AA ?_))<;>(repeat (first|refine Ah ?_|refine Al ?_|refine Ae ?_|refine Am ?_|refine At ?_|refine Au ?_|refine Ar rfl ?_|refine Aj rfl ?_)))
    refine ret1 rfl rfl ⟨?_,hE1⟩
    rw [bof_f (fun h=>by obtain ⟨h1,h2,h3,⟨h4,_⟩,_⟩:=h;omega)])
  refine AE rfl rfl ?_
  refine Cq rfl rfl (baseProper (hv.ext hE1) (hp.ext hE1)) ?_ ?_
  case refine_2 =>
    intro w2 hP hE2
    ((first|(refine AE rfl rfl ?_;(first|refine o_nt rfl rfl ?_|refine o_nf rfl rfl ?_|refine o_nn rfl rfl ?_))|refine AD rfl rfl rfl rfl ?_)<;>(first|refine o_pt rfl rfl rfl ?_|refine o_pf rfl rfl rfl ?_)<;>(first|refine Ay ?_|refine Az ?_|refine Aw ?_|refine AA ?_))
    repeat (first|refine Ah ?_|refine Al ?_|refine Ae ?_|refine Am ?_|refine At ?_|refine Au ?_|refine Ar rfl ?_|refine Aj rfl ?_)
    ((repeat (first|refine Ah ?_|refine Al ?_|refine Ae ?_|refine Am ?_|refine At ?_|refine Au ?_|refine Ar rfl ?_|refine Aj rfl ?_))<;>(refine o_as rfl rfl ?_<;>(first|refine Ay ?_|refine Az ?_|refine Aw ?_|refine AA ?_))<;>(repeat (first|refine Ah ?_|refine Al ?_|refine Ae ?_|refine Am ?_|refine At ?_|refine Au ?_|refine Ar rfl ?_|refine Aj rfl ?_)))
    refine ret1 rfl rfl ⟨?_,hE1.trans' hE2⟩
    rw [bof_f (fun h=>hP h.2.2.2.2.1)]
  intro w2 hpre hE2
  replace hb1:=hb1.ext hE2
  have hE2:Ext w w2:=hE1.trans' hE2
  ((first|(refine AE rfl rfl ?_;(first|refine o_nt rfl rfl ?_|refine o_nf rfl rfl ?_|refine o_nn rfl rfl ?_))|refine AD rfl rfl rfl rfl ?_)<;>(first|refine o_pt rfl rfl rfl ?_|refine o_pf rfl rfl rfl ?_)<;>(first|refine Ay ?_|refine Az ?_|refine Aw ?_|refine AA ?_))
  repeat (first|refine Ah ?_|refine Al ?_|refine Ae ?_|refine Am ?_|refine At ?_|refine Au ?_|refine Ar rfl ?_|refine Aj rfl ?_)
  (refine o_fa rfl rfl ?_<;>refine o_ld rfl rfl ?_<;>refine o_ls rfl rfl ?_<;>refine o_mv rfl rfl ?_<;>(first|refine Ay ?_|refine Az ?_|refine Aw ?_|refine AA ?_))
  repeat (first|refine Ah ?_|refine Al ?_|refine Ae ?_|refine Am ?_|refine At ?_|refine Au ?_|refine Ar rfl ?_|refine Aj rfl ?_)
  refine Bq o.name.size hn (fun _:Unit=>[(0,.slice Av vars.length cv),(3,.pointer (some ⟨w.heap.size,0,none⟩))]) (fun k _ w'=>w'=w2∧∀ i,i < k→∀ h:i < o.name.size,32≤(o.name[i]'h).toNat∧(o.name[i]'h).toNat≤126) ()
    ⟨rfl,fun i hi=>by omega⟩ ⟨rfl,rfl,rfl,rfl,trivial⟩ (fun _=>⟨rfl,rfl⟩) ⟨rfl,rfl,rfl⟩ ⟨rfl,rfl⟩ ?_ ?_
  · rintro k _ _ hk ⟨rfl,hh⟩
    ((repeat (first|refine Ah ?_|refine Al ?_|refine Ae ?_|refine Am ?_|refine At ?_|refine Au ?_|refine Ar rfl ?_|refine Aj rfl ?_))<;>(refine o_mv rfl rfl ?_<;>refine o_as rfl rfl ?_<;>(first|refine Ay ?_|refine Az ?_|refine Aw ?_|refine AA ?_))<;>(repeat (first|refine Ah ?_|refine Al ?_|refine Ae ?_|refine Am ?_|refine At ?_|refine Au ?_|refine Ar rfl ?_|refine Aj rfl ?_))<;>(refine o_fa rfl rfl ?_<;>refine o_ld rfl rfl ?_<;>refine o_mv rfl rfl ?_<;>refine o_ix rfl rfl rfl (by omega) ?_<;>(first|refine o_ltT rfl rfl rfl ?_|refine o_ltF rfl rfl rfl ?_|refine o_ltS rfl rfl rfl (fun _=>?_) fun _=>?_)<;>refine o_mv rfl rfl ?_<;>(first|(refine AE rfl rfl ?_;refine o_fa rfl rfl ?_)|refine AD rfl rfl rfl rfl ?_)<;>(first|(refine AE rfl rfl ?_;refine o_ld rfl rfl ?_)|refine AD rfl rfl rfl rfl ?_)<;>(first|(refine AE rfl rfl ?_;refine o_mv rfl rfl ?_)|refine AD rfl rfl rfl rfl ?_)<;>(first|(refine AE rfl rfl ?_;refine o_ix rfl rfl rfl (by omega) ?_)|refine AD rfl rfl rfl rfl ?_)<;>(first|(refine AE rfl rfl ?_;(first|refine o_gtT rfl rfl rfl ?_|refine o_gtF rfl rfl rfl ?_|refine o_gtS rfl rfl rfl (fun _=>?_) fun _=>?_))|refine AD rfl rfl rfl rfl ?_)<;>(first|refine o_pt rfl rfl rfl ?_|refine o_pf rfl rfl rfl ?_)<;>(first|refine Ay ?_|refine Az ?_|refine Aw ?_|refine AA ?_))<;>(repeat (first|refine Ah ?_|refine Al ?_|refine Ae ?_|refine Am ?_|refine At ?_|refine Au ?_|refine Ar rfl ?_|refine Aj rfl ?_)))
    all_goals try (
      ((repeat (first|refine Ah ?_|refine Al ?_|refine Ae ?_|refine Am ?_|refine At ?_|refine Au ?_|refine Ar rfl ?_|refine Aj rfl ?_))<;>(refine o_as rfl rfl ?_<;>(first|refine Ay ?_|refine Az ?_|refine Aw ?_|refine AA ?_))<;>(repeat (first|refine Ah ?_|refine Al ?_|refine Ae ?_|refine Am ?_|refine At ?_|refine Au ?_|refine Ar rfl ?_|refine Aj rfl ?_)))
      refine ret1 rfl rfl ⟨?_,hE2⟩
      rw [bof_f (fun h=>by have:=h.2.2.2.1.2 k hk;omega)])
    exact ⟨(),⟨rfl,rfl,rfl,rfl,trivial⟩,rfl,Cl hh fun _=>by omega⟩
  rintro _ _ ⟨rfl,hname⟩
  have hnok:NameOk o.name:=⟨by omega,fun i h=>hname i h h⟩
  repeat (first|refine Ah ?_|refine Al ?_|refine Ae ?_|refine Am ?_|refine At ?_|refine Au ?_|refine Ar rfl ?_|refine Aj rfl ?_)
  ((repeat (first|refine Ah ?_|refine Al ?_|refine Ae ?_|refine Am ?_|refine At ?_|refine Au ?_|refine Ar rfl ?_|refine Aj rfl ?_))<;>(refine o_fa rfl rfl ?_<;>refine o_ld rfl rfl ?_<;>refine o_ln rfl rfl ?_<;>refine o_mv rfl rfl ?_<;>(first|refine Ay ?_|refine Az ?_|refine Aw ?_|refine AA ?_))<;>(repeat (first|refine Ah ?_|refine Al ?_|refine Ae ?_|refine Am ?_|refine At ?_|refine Au ?_|refine Ar rfl ?_|refine Aj rfl ?_)))
  refine Bq o.effs.length (by omega) (fun _:Unit=>[(0,.slice Av vars.length cv),(3,.pointer (some ⟨w.heap.size,0,none⟩)),(55,.slice Aq o.effs.length cq)]) (fun k _ w'=>Ext w w'∧∀ i,i < k→∀ e,o.effs[i]?=some e→EffOk vars e) ()
    ⟨hE2,fun i hi=>by omega⟩ ⟨rfl,rfl,rfl,rfl,rfl,trivial⟩ (fun _=>⟨rfl,rfl⟩) ⟨rfl,rfl,rfl⟩ ⟨rfl,rfl⟩ ?_ ?_
  · rintro k _ w3 hk ⟨hE3,hh⟩
    obtain ⟨e,he⟩:=AH hk
    obtain ⟨b2,o2,ce,rfl,_,_,hd1,cv',rfl,hcond,hr1,hr2⟩:=(hq.ext hE3).elem he
    obtain ⟨Ac,cc,rfl⟩:=hcond.form
    ((repeat (first|refine Ah ?_|refine Al ?_|refine Ae ?_|refine Am ?_|refine At ?_|refine Au ?_|refine Ar rfl ?_|refine Aj rfl ?_))<;>(refine o_ia rfl rfl rfl ?_<;>refine o_la rfl rfl ?_)<;>(repeat (first|refine Ah ?_|refine Al ?_|refine Ae ?_|refine Am ?_|refine At ?_|refine Au ?_|refine Ar rfl ?_|refine Aj rfl ?_)))
    refine BE rfl rfl rfl (by simp [Value.cells,Value.oneCell']) fun w4 hN4=>?_
    have hb2:=hN4.blk
    have hE4:Ext w w4:=hE3.trans' hN4.ext
    ((first|refine Ay ?_|refine Az ?_|refine Aw ?_|refine AA ?_))
    repeat (first|refine Ah ?_|refine Al ?_|refine Ae ?_|refine Am ?_|refine At ?_|refine Au ?_|refine Ar rfl ?_|refine Aj rfl ?_)
    (refine o_mv rfl rfl ?_<;>refine o_fa rfl rfl ?_<;>refine o_ld rfl rfl ?_)
    refine Cq rfl rfl (baseProper (hv.ext hE4) (hcond.ext hN4.ext)) ?_ ?_
    case refine_2 =>
      intro w5 hP hE5
      ((first|refine o_nt rfl rfl ?_|refine o_nf rfl rfl ?_|refine o_nn rfl rfl ?_)<;>refine o_mv rfl rfl ?_<;>(first|(refine AE rfl rfl ?_;refine o_mv rfl rfl ?_)|refine AD rfl rfl rfl rfl ?_)<;>(first|(refine AE rfl rfl ?_;refine o_fa rfl rfl ?_)|refine AD rfl rfl rfl rfl ?_)<;>(first|(refine AE rfl rfl ?_;refine o_ld rfl rfl ?_)|refine AD rfl rfl rfl rfl ?_)<;>(first|(refine AE rfl rfl ?_;refine o_fa rfl rfl ?_)|refine AD rfl rfl rfl rfl ?_)<;>(first|(refine AE rfl rfl ?_;refine o_ld rfl rfl ?_)|refine AD rfl rfl rfl rfl ?_)<;>(first|(refine AE rfl rfl ?_;refine o_bd rfl rfl rfl ?_)|refine AD rfl rfl rfl rfl ?_))
      refine AD rfl rfl rfl rfl ?_
      refine AD rfl rfl rfl rfl ?_
      ((first|(refine AE rfl rfl ?_;(first|refine o_nt rfl rfl ?_|refine o_nf rfl rfl ?_|refine o_nn rfl rfl ?_))|refine AD rfl rfl rfl rfl ?_)<;>(first|refine o_pt rfl rfl rfl ?_|refine o_pf rfl rfl rfl ?_)<;>(first|refine Ay ?_|refine Az ?_|refine Aw ?_|refine AA ?_))
      repeat (first|refine Ah ?_|refine Al ?_|refine Ae ?_|refine Am ?_|refine At ?_|refine Au ?_|refine Ar rfl ?_|refine Aj rfl ?_)
      ((repeat (first|refine Ah ?_|refine Al ?_|refine Ae ?_|refine Am ?_|refine At ?_|refine Au ?_|refine Ar rfl ?_|refine Aj rfl ?_))<;>(refine o_as rfl rfl ?_<;>(first|refine Ay ?_|refine Az ?_|refine Aw ?_|refine AA ?_))<;>(repeat (first|refine Ah ?_|refine Al ?_|refine Ae ?_|refine Am ?_|refine At ?_|refine Au ?_|refine Ar rfl ?_|refine Aj rfl ?_)))
      refine ret1 rfl rfl ⟨?_,hE4.trans' hE5⟩
      rw [bof_f (fun h=>hP (h.2.2.2.2.2 k e he).1)]
    intro w5 hcok hE5
    replace hb2:=hb2.ext hE5
    ((first|refine o_nt rfl rfl ?_|refine o_nf rfl rfl ?_|refine o_nn rfl rfl ?_)<;>refine o_mv rfl rfl ?_<;>(first|(refine AE rfl rfl ?_;refine o_mv rfl rfl ?_)|refine AD rfl rfl rfl rfl ?_)<;>(first|(refine AE rfl rfl ?_;refine o_fa rfl rfl ?_)|refine AD rfl rfl rfl rfl ?_)<;>(first|(refine AE rfl rfl ?_;refine o_ld rfl rfl ?_)|refine AD rfl rfl rfl rfl ?_)<;>(first|(refine AE rfl rfl ?_;refine o_fa rfl rfl ?_)|refine AD rfl rfl rfl rfl ?_)<;>(first|(refine AE rfl rfl ?_;refine o_ld rfl rfl ?_)|refine AD rfl rfl rfl rfl ?_)<;>(first|(refine AE rfl rfl ?_;refine o_bd rfl rfl rfl ?_)|refine AD rfl rfl rfl rfl ?_))
    refine AE rfl rfl ?_
    refine CV rfl rfl rfl (by simp [Value.cells];rfl) (by decide) rfl fun w6 hN6=>?_
    have hE6:Ext w w6:=hE4.trans' (hE5.trans' hN6.ext)
    refine AE rfl rfl ?_
    have hone:V w6 (.slice (some ⟨w5.heap.size,0,none⟩) 1 1) [(⟨e.var,e.val⟩:Fct)] :=
      .of_slice ⟨_,1,[.int .i64 e.var,.int .i64 e.val],rfl,Nat.le_refl _,by omega,.single ⟨rfl,hr1,hr2⟩,fun _=>⟨_,_,rfl,hN6.blk.lt,hN6.blk.cellsAt⟩⟩
    refine Cq rfl rfl (baseProper (hv.ext hE6) hone) ?_ ?_
    case refine_2 =>
      intro w7 hP hE7
      ((first|(refine AE rfl rfl ?_;(first|refine o_nt rfl rfl ?_|refine o_nf rfl rfl ?_|refine o_nn rfl rfl ?_))|refine AD rfl rfl rfl rfl ?_)<;>(first|refine o_pt rfl rfl rfl ?_|refine o_pf rfl rfl rfl ?_)<;>(first|refine Ay ?_|refine Az ?_|refine Aw ?_|refine AA ?_))
      repeat (first|refine Ah ?_|refine Al ?_|refine Ae ?_|refine Am ?_|refine At ?_|refine Au ?_|refine Ar rfl ?_|refine Aj rfl ?_)
      ((repeat (first|refine Ah ?_|refine Al ?_|refine Ae ?_|refine Am ?_|refine At ?_|refine Au ?_|refine Ar rfl ?_|refine Aj rfl ?_))<;>(refine o_as rfl rfl ?_<;>(first|refine Ay ?_|refine Az ?_|refine Aw ?_|refine AA ?_))<;>(repeat (first|refine Ah ?_|refine Al ?_|refine Ae ?_|refine Am ?_|refine At ?_|refine Au ?_|refine Ar rfl ?_|refine Aj rfl ?_)))
      refine ret1 rfl rfl ⟨?_,hE6.trans' hE7⟩
      rw [bof_f (fun h=>hP (EV.2 (h.2.2.2.2.2 k e he).2))]
    intro w7 hfok hE7
    ((first|(refine AE rfl rfl ?_;(first|refine o_nt rfl rfl ?_|refine o_nf rfl rfl ?_|refine o_nn rfl rfl ?_))|refine AD rfl rfl rfl rfl ?_)<;>(first|refine o_pt rfl rfl rfl ?_|refine o_pf rfl rfl rfl ?_)<;>(first|refine Ay ?_|refine Az ?_|refine Aw ?_|refine AA ?_))
    repeat (first|refine Ah ?_|refine Al ?_|refine Ae ?_|refine Am ?_|refine At ?_|refine Au ?_|refine Ar rfl ?_|refine Aj rfl ?_)
    exact ⟨(),⟨rfl,rfl,rfl,rfl,rfl,trivial⟩,hE6.trans' hE7,Cl hh fun e' he'=>by
      rw [he] at he';injection he' with he';subst he';exact ⟨hcok,EV.1 hfok⟩⟩
  rintro _ w3 ⟨hE3,hh⟩
  repeat (first|refine Ah ?_|refine Al ?_|refine Ae ?_|refine Am ?_|refine At ?_|refine Au ?_|refine Ar rfl ?_|refine Aj rfl ?_)
  ((repeat (first|refine Ah ?_|refine Al ?_|refine Ae ?_|refine Am ?_|refine At ?_|refine Au ?_|refine Ar rfl ?_|refine Aj rfl ?_))<;>(refine o_as rfl rfl ?_<;>(first|refine Ay ?_|refine Az ?_|refine Aw ?_|refine AA ?_))<;>(repeat (first|refine Ah ?_|refine Al ?_|refine Ae ?_|refine Am ?_|refine At ?_|refine Au ?_|refine Ar rfl ?_|refine Aj rfl ?_)))
  refine ret1 rfl rfl ⟨?_,hE3⟩
  rw [bof_t ⟨by omega,by omega,by omega,hnok,hpre,fun i e he=>hh i (Bf he) e he⟩]
theorem baseGood {w:World} {tv:Value} {t:Tsk} (ht:V w tv t) :
    Fn Try.prog 27 [tv] w fun v w'=>v=.bool (bof (TaskOk t))∧Ext w w':=by
  obtain ⟨cs,rfl,a,b,c,d,rfl,hvars,hinit,hgoal,hops⟩:=ht
  obtain ⟨Av,cv,rfl⟩:=hvars.form
  obtain ⟨Ai,ci,rfl⟩:=hinit.form
  obtain ⟨Ag,cg,rfl⟩:=hgoal.form
  obtain ⟨Ao,co,rfl⟩:=hops.form
  have hvl:=hvars.len
  have hol:=hops.len
  refine AL Try.func27 rfl Try.ntmps27 rfl ?_
  repeat (first|refine Ah ?_|refine Al ?_|refine Ae ?_|refine Am ?_|refine At ?_|refine Au ?_|refine Ar rfl ?_|refine Aj rfl ?_)
  refine CN rfl rfl fun w1 hN=>?_
  have hb1:=hN.blk
  have hE1:Ext w w1:=hN.ext
  (refine o_as rfl rfl ?_<;>(first|refine Ay ?_|refine Az ?_|refine Aw ?_|refine AA ?_))
  repeat (first|refine Ah ?_|refine Al ?_|refine Ae ?_|refine Am ?_|refine At ?_|refine Au ?_|refine Ar rfl ?_|refine Aj rfl ?_)
  ((repeat (first|refine Ah ?_|refine Al ?_|refine Ae ?_|refine Am ?_|refine At ?_|refine Au ?_|refine Ar rfl ?_|refine Aj rfl ?_))<;>(refine o_fa rfl rfl ?_<;>refine o_ld rfl rfl ?_<;>refine o_ln rfl rfl ?_<;>(first|refine o_gtT rfl rfl rfl ?_|refine o_gtF rfl rfl rfl ?_|refine o_gtS rfl rfl rfl (fun _=>?_) fun _=>?_)<;>refine o_mv rfl rfl ?_<;>(first|(refine AE rfl rfl ?_;refine o_fa rfl rfl ?_)|refine AD rfl rfl rfl rfl ?_)<;>(first|(refine AE rfl rfl ?_;refine o_ld rfl rfl ?_)|refine AD rfl rfl rfl rfl ?_)<;>(first|(refine AE rfl rfl ?_;refine o_ln rfl rfl ?_)|refine AD rfl rfl rfl rfl ?_)<;>(first|(refine AE rfl rfl ?_;(first|refine o_gtT rfl rfl rfl ?_|refine o_gtF rfl rfl rfl ?_|refine o_gtS rfl rfl rfl (fun _=>?_) fun _=>?_))|refine AD rfl rfl rfl rfl ?_)<;>(first|refine o_pt rfl rfl rfl ?_|refine o_pf rfl rfl rfl ?_)<;>(first|refine Ay ?_|refine Az ?_|refine Aw ?_|refine AA ?_))<;>(repeat (first|refine Ah ?_|refine Al ?_|refine Ae ?_|refine Am ?_|refine At ?_|refine Au ?_|refine Ar rfl ?_|refine Aj rfl ?_)))
  all_goals try (
    ((repeat (first|refine Ah ?_|refine Al ?_|refine Ae ?_|refine Am ?_|refine At ?_|refine Au ?_|refine Ar rfl ?_|refine Aj rfl ?_))<;>(refine o_as rfl rfl ?_<;>(first|refine Ay ?_|refine Az ?_|refine Aw ?_|refine AA ?_))<;>(repeat (first|refine Ah ?_|refine Al ?_|refine Ae ?_|refine Am ?_|refine At ?_|refine Au ?_|refine Ar rfl ?_|refine Aj rfl ?_)))
    refine ret1 rfl rfl ⟨?_,hE1⟩
    rw [bof_f (fun h=>by obtain ⟨h1,h2,_⟩:=h;omega)])
  (refine o_fa rfl rfl ?_<;>refine o_ld rfl rfl ?_<;>refine o_ln rfl rfl ?_<;>refine o_mv rfl rfl ?_<;>(first|refine Ay ?_|refine Az ?_|refine Aw ?_|refine AA ?_))
  repeat (first|refine Ah ?_|refine Al ?_|refine Ae ?_|refine Am ?_|refine At ?_|refine Au ?_|refine Ar rfl ?_|refine Aj rfl ?_)
  refine Bq t.vars.length (by omega) (fun _:Unit=>[(1,.pointer (some ⟨w.heap.size,0,none⟩)),(18,.slice Av t.vars.length cv)]) (fun k _ w'=>w'=w1∧∀ i,i < k→∀ n,t.vars[i]?=some n→1≤n∧n≤64) ()
    ⟨rfl,fun i hi=>by omega⟩ ⟨rfl,rfl,rfl,rfl,trivial⟩ (fun _=>⟨rfl,rfl⟩) ⟨rfl,rfl,rfl⟩ ⟨rfl,rfl⟩ ?_ ?_
  · rintro k _ _ hk ⟨rfl,hh⟩
    obtain ⟨n,hn⟩:=AH hk
    obtain ⟨b2,o2,ce,rfl,_,_,hd1,rfl,_⟩:=(hvars.ext hE1).elem hn
    ((repeat (first|refine Ah ?_|refine Al ?_|refine Ae ?_|refine Am ?_|refine At ?_|refine Au ?_|refine Ar rfl ?_|refine Aj rfl ?_))<;>(refine o_ia rfl rfl rfl ?_<;>refine o_ld rfl rfl ?_<;>refine o_as rfl rfl ?_<;>(first|refine Ay ?_|refine Az ?_|refine Aw ?_|refine AA ?_))<;>(repeat (first|refine Ah ?_|refine Al ?_|refine Ae ?_|refine Am ?_|refine At ?_|refine Au ?_|refine Ar rfl ?_|refine Aj rfl ?_))<;>(refine o_mv rfl rfl ?_<;>(first|refine o_ltT rfl rfl rfl ?_|refine o_ltF rfl rfl rfl ?_|refine o_ltS rfl rfl rfl (fun _=>?_) fun _=>?_)<;>refine o_mv rfl rfl ?_<;>(first|(refine AE rfl rfl ?_;refine o_mv rfl rfl ?_)|refine AD rfl rfl rfl rfl ?_)<;>(first|(refine AE rfl rfl ?_;(first|refine o_gtT rfl rfl rfl ?_|refine o_gtF rfl rfl rfl ?_|refine o_gtS rfl rfl rfl (fun _=>?_) fun _=>?_))|refine AD rfl rfl rfl rfl ?_)<;>(first|refine o_pt rfl rfl rfl ?_|refine o_pf rfl rfl rfl ?_)<;>(first|refine Ay ?_|refine Az ?_|refine Aw ?_|refine AA ?_))<;>(repeat (first|refine Ah ?_|refine Al ?_|refine Ae ?_|refine Am ?_|refine At ?_|refine Au ?_|refine Ar rfl ?_|refine Aj rfl ?_)))
    all_goals try (
      ((repeat (first|refine Ah ?_|refine Al ?_|refine Ae ?_|refine Am ?_|refine At ?_|refine Au ?_|refine Ar rfl ?_|refine Aj rfl ?_))<;>(refine o_as rfl rfl ?_<;>(first|refine Ay ?_|refine Az ?_|refine Aw ?_|refine AA ?_))<;>(repeat (first|refine Ah ?_|refine Al ?_|refine Ae ?_|refine Am ?_|refine At ?_|refine Au ?_|refine Ar rfl ?_|refine Aj rfl ?_)))
      refine ret1 rfl rfl ⟨?_,hE1⟩
      rw [bof_f (fun h=>by have:=h.2.2.1 k n hn;omega)])
    exact ⟨(),⟨rfl,rfl,rfl,rfl,trivial⟩,rfl,Cl hh fun n' hn'=>by rw [hn] at hn';injection hn' with hn';omega⟩
  rintro _ _ ⟨rfl,hdom⟩
  repeat (first|refine Ah ?_|refine Al ?_|refine Ae ?_|refine Am ?_|refine At ?_|refine Au ?_|refine Ar rfl ?_|refine Aj rfl ?_)
  (refine o_fa rfl rfl ?_<;>refine o_ld rfl rfl ?_<;>refine o_fa rfl rfl ?_<;>refine o_ld rfl rfl ?_)
  refine Cq rfl rfl (baseState (hvars.ext hE1) (hinit.ext hE1)) ?_ ?_
  case refine_2 =>
    intro w2 hP hE2
    ((first|refine o_nt rfl rfl ?_|refine o_nf rfl rfl ?_|refine o_nn rfl rfl ?_)<;>refine o_mv rfl rfl ?_<;>(first|(refine AE rfl rfl ?_;refine o_fa rfl rfl ?_)|refine AD rfl rfl rfl rfl ?_)<;>(first|(refine AE rfl rfl ?_;refine o_ld rfl rfl ?_)|refine AD rfl rfl rfl rfl ?_)<;>(first|(refine AE rfl rfl ?_;refine o_fa rfl rfl ?_)|refine AD rfl rfl rfl rfl ?_)<;>(first|(refine AE rfl rfl ?_;refine o_ld rfl rfl ?_)|refine AD rfl rfl rfl rfl ?_))
    refine AD rfl rfl rfl rfl ?_
    ((first|(refine AE rfl rfl ?_;(first|refine o_nt rfl rfl ?_|refine o_nf rfl rfl ?_|refine o_nn rfl rfl ?_))|refine AD rfl rfl rfl rfl ?_)<;>(first|refine o_pt rfl rfl rfl ?_|refine o_pf rfl rfl rfl ?_)<;>(first|refine Ay ?_|refine Az ?_|refine Aw ?_|refine AA ?_))
    repeat (first|refine Ah ?_|refine Al ?_|refine Ae ?_|refine Am ?_|refine At ?_|refine Au ?_|refine Ar rfl ?_|refine Aj rfl ?_)
    ((repeat (first|refine Ah ?_|refine Al ?_|refine Ae ?_|refine Am ?_|refine At ?_|refine Au ?_|refine Ar rfl ?_|refine Aj rfl ?_))<;>(refine o_as rfl rfl ?_<;>(first|refine Ay ?_|refine Az ?_|refine Aw ?_|refine AA ?_))<;>(repeat (first|refine Ah ?_|refine Al ?_|refine Ae ?_|refine Am ?_|refine At ?_|refine Au ?_|refine Ar rfl ?_|refine Aj rfl ?_)))
    refine ret1 rfl rfl ⟨?_,hE1.trans' hE2⟩
    rw [bof_f (fun h=>hP h.2.2.2.1)]
  intro w2 hst hE2
  replace hb1:=hb1.ext hE2
  replace hE2:Ext w w2:=hE1.trans' hE2
  ((first|refine o_nt rfl rfl ?_|refine o_nf rfl rfl ?_|refine o_nn rfl rfl ?_)<;>refine o_mv rfl rfl ?_<;>(first|(refine AE rfl rfl ?_;refine o_fa rfl rfl ?_)|refine AD rfl rfl rfl rfl ?_)<;>(first|(refine AE rfl rfl ?_;refine o_ld rfl rfl ?_)|refine AD rfl rfl rfl rfl ?_)<;>(first|(refine AE rfl rfl ?_;refine o_fa rfl rfl ?_)|refine AD rfl rfl rfl rfl ?_)<;>(first|(refine AE rfl rfl ?_;refine o_ld rfl rfl ?_)|refine AD rfl rfl rfl rfl ?_))
  refine AE rfl rfl ?_
  refine Cq rfl rfl (baseProper (hvars.ext hE2) (hgoal.ext hE2)) ?_ ?_
  case refine_2 =>
    intro w3 hP hE3
    ((first|(refine AE rfl rfl ?_;(first|refine o_nt rfl rfl ?_|refine o_nf rfl rfl ?_|refine o_nn rfl rfl ?_))|refine AD rfl rfl rfl rfl ?_)<;>(first|refine o_pt rfl rfl rfl ?_|refine o_pf rfl rfl rfl ?_)<;>(first|refine Ay ?_|refine Az ?_|refine Aw ?_|refine AA ?_))
    repeat (first|refine Ah ?_|refine Al ?_|refine Ae ?_|refine Am ?_|refine At ?_|refine Au ?_|refine Ar rfl ?_|refine Aj rfl ?_)
    ((repeat (first|refine Ah ?_|refine Al ?_|refine Ae ?_|refine Am ?_|refine At ?_|refine Au ?_|refine Ar rfl ?_|refine Aj rfl ?_))<;>(refine o_as rfl rfl ?_<;>(first|refine Ay ?_|refine Az ?_|refine Aw ?_|refine AA ?_))<;>(repeat (first|refine Ah ?_|refine Al ?_|refine Ae ?_|refine Am ?_|refine At ?_|refine Au ?_|refine Ar rfl ?_|refine Aj rfl ?_)))
    refine ret1 rfl rfl ⟨?_,hE2.trans' hE3⟩
    rw [bof_f (fun h=>hP h.2.2.2.2.1)]
  intro w3 hgo hE3
  replace hb1:=hb1.ext hE3
  replace hE3:Ext w w3:=hE2.trans' hE3
  ((first|(refine AE rfl rfl ?_;(first|refine o_nt rfl rfl ?_|refine o_nf rfl rfl ?_|refine o_nn rfl rfl ?_))|refine AD rfl rfl rfl rfl ?_)<;>(first|refine o_pt rfl rfl rfl ?_|refine o_pf rfl rfl rfl ?_)<;>(first|refine Ay ?_|refine Az ?_|refine Aw ?_|refine AA ?_))
  repeat (first|refine Ah ?_|refine Al ?_|refine Ae ?_|refine Am ?_|refine At ?_|refine Au ?_|refine Ar rfl ?_|refine Aj rfl ?_)
  ((repeat (first|refine Ah ?_|refine Al ?_|refine Ae ?_|refine Am ?_|refine At ?_|refine Au ?_|refine Ar rfl ?_|refine Aj rfl ?_))<;>(refine o_fa rfl rfl ?_<;>refine o_ld rfl rfl ?_<;>refine o_ln rfl rfl ?_<;>refine o_mv rfl rfl ?_<;>(first|refine Ay ?_|refine Az ?_|refine Aw ?_|refine AA ?_))<;>(repeat (first|refine Ah ?_|refine Al ?_|refine Ae ?_|refine Am ?_|refine At ?_|refine Au ?_|refine Ar rfl ?_|refine Aj rfl ?_)))
  refine Bq t.ops.length (by omega) (fun _:Unit=>[(1,.pointer (some ⟨w.heap.size,0,none⟩)),(46,.slice Ao t.ops.length co)]) (fun k _ w'=>Ext w3 w'∧∀ i,i < k→∀ o,t.ops[i]?=some o→OpOk t.vars o) ()
    ⟨Below.refl _ _,fun i hi=>by omega⟩ ⟨rfl,rfl,rfl,rfl,trivial⟩ (fun _=>⟨rfl,rfl⟩) ⟨rfl,rfl,rfl⟩ ⟨rfl,rfl⟩ ?_ ?_
  · rintro k _ w4 hk ⟨hE4,hh⟩
    obtain ⟨o,ho⟩:=AH hk
    replace hb1:=hb1.ext hE4
    have hE34:=hE4
    replace hE4:Ext w w4:=hE3.trans' hE4
    obtain ⟨b2,o2,ce,rfl,_,_,hd1,hRo⟩:=(hops.ext hE4).elem ho
    obtain ⟨p,q,rfl,hp,hq,hc,hn⟩:=id hRo
    obtain ⟨Ap,cp,rfl⟩:=hp.form
    obtain ⟨Aq,cq,rfl⟩:=hq.form
    ((repeat (first|refine Ah ?_|refine Al ?_|refine Ae ?_|refine Am ?_|refine At ?_|refine Au ?_|refine Ar rfl ?_|refine Aj rfl ?_))<;>(refine o_ia rfl rfl rfl ?_<;>refine o_la rfl rfl ?_)<;>(repeat (first|refine Ah ?_|refine Al ?_|refine Ae ?_|refine Am ?_|refine At ?_|refine Au ?_|refine Ar rfl ?_|refine Aj rfl ?_)))
    refine BE rfl rfl rfl (by simp [Value.cells,Value.oneCell']) fun w5 hN5=>?_
    have hb2:=hN5.blk
    replace hb1:=hb1.ext hN5.ext
    have hE5:Ext w w5:=hE4.trans' hN5.ext
    ((first|refine Ay ?_|refine Az ?_|refine Aw ?_|refine AA ?_))
    repeat (first|refine Ah ?_|refine Al ?_|refine Ae ?_|refine Am ?_|refine At ?_|refine Au ?_|refine Ar rfl ?_|refine Aj rfl ?_)
    (refine o_fa rfl rfl ?_<;>refine o_ld rfl rfl ?_<;>refine o_la rfl rfl ?_)
    have hVo:V w4 (.agg #[.string o.name,.int .i64 o.cost,.slice Ap o.pre.length cp,.slice Aq o.effs.length cq]) o:=⟨_,rfl,hRo⟩
    refine Cq rfl rfl (baseOperator (hvars.ext hE5) (hVo.ext hN5.ext)) ?_ ?_
    · intro w6 hP hE6
      ((first|refine o_nt rfl rfl ?_|refine o_nf rfl rfl ?_|refine o_nn rfl rfl ?_)<;>(first|refine Ay ?_|refine Az ?_|refine Aw ?_|refine AA ?_))
      repeat (first|refine Ah ?_|refine Al ?_|refine Ae ?_|refine Am ?_|refine At ?_|refine Au ?_|refine Ar rfl ?_|refine Aj rfl ?_)
      refine ⟨(),⟨rfl,rfl,rfl,rfl,trivial⟩,?_,Cl hh fun o' ho'=>by rw [ho] at ho';injection ho' with ho';exact ho' ▸ hP⟩
      exact hE34.trans' (hN5.ext.trans' hE6)
    · intro w6 hP hE6
      ((first|refine o_nt rfl rfl ?_|refine o_nf rfl rfl ?_|refine o_nn rfl rfl ?_)<;>(first|refine Ay ?_|refine Az ?_|refine Aw ?_|refine AA ?_))
      repeat (first|refine Ah ?_|refine Al ?_|refine Ae ?_|refine Am ?_|refine At ?_|refine Au ?_|refine Ar rfl ?_|refine Aj rfl ?_)
      ((repeat (first|refine Ah ?_|refine Al ?_|refine Ae ?_|refine Am ?_|refine At ?_|refine Au ?_|refine Ar rfl ?_|refine Aj rfl ?_))<;>(refine o_as rfl rfl ?_<;>(first|refine Ay ?_|refine Az ?_|refine Aw ?_|refine AA ?_))<;>(repeat (first|refine Ah ?_|refine Al ?_|refine Ae ?_|refine Am ?_|refine At ?_|refine Au ?_|refine Ar rfl ?_|refine Aj rfl ?_)))
      refine ret1 rfl rfl ⟨?_,hE5.trans' hE6⟩
      rw [bof_f (fun h=>hP (h.2.2.2.2.2 k o ho))]
  rintro _ w4 ⟨hE4,hh⟩
  repeat (first|refine Ah ?_|refine Al ?_|refine Ae ?_|refine Am ?_|refine At ?_|refine Au ?_|refine Ar rfl ?_|refine Aj rfl ?_)
  ((repeat (first|refine Ah ?_|refine Al ?_|refine Ae ?_|refine Am ?_|refine At ?_|refine Au ?_|refine Ar rfl ?_|refine Aj rfl ?_))<;>(refine o_as rfl rfl ?_<;>(first|refine Ay ?_|refine Az ?_|refine Aw ?_|refine AA ?_))<;>(repeat (first|refine Ah ?_|refine Al ?_|refine Ae ?_|refine Am ?_|refine At ?_|refine Au ?_|refine Ar rfl ?_|refine Aj rfl ?_)))
  refine ret1 rfl rfl ⟨?_,hE3.trans' hE4⟩
  rw [bof_t ⟨by omega,by omega,fun i n hn=>hdom i (Bf hn) n hn,hst,hgo,fun i o ho=>hh i (Bf ho) o ho⟩]
def manyF (most:Int):List Int→Int→Int
  | [],n=>n
  | k :: r,n=>if most < n * min (max k 0) (most + 1) then most + 1 else manyF most r (n * min (max k 0) (most + 1))
theorem baseMany {w:World} {vv:Value} {vars:List Int} {most:Int} (hv:V w vv vars) (h1:1≤most) (h2:most≤1048576) :
    Fn Try.prog 31 [vv,.int .i64 most] w fun v w'=>v=.int .i64 (manyF most vars 1)∧Ext w w':=by
  obtain ⟨A,ca,rfl⟩:=hv.form
  have hvl:=hv.len
  refine AL Try.func31 rfl Try.ntmps31 rfl ?_
  ((repeat (first|refine Ah ?_|refine Al ?_|refine Ae ?_|refine Am ?_|refine At ?_|refine Au ?_|refine Ar rfl ?_|refine Aj rfl ?_))<;>(refine o_as rfl rfl ?_<;>(first|refine Ay ?_|refine Az ?_|refine Aw ?_|refine AA ?_))<;>(repeat (first|refine Ah ?_|refine Al ?_|refine Ae ?_|refine Am ?_|refine At ?_|refine Au ?_|refine Ar rfl ?_|refine Aj rfl ?_))<;>(refine o_as rfl rfl ?_<;>(first|refine Ay ?_|refine Az ?_|refine Aw ?_|refine AA ?_))<;>(repeat (first|refine Ah ?_|refine Al ?_|refine Ae ?_|refine Am ?_|refine At ?_|refine Au ?_|refine Ar rfl ?_|refine Aj rfl ?_))<;>(refine o_mv rfl rfl ?_<;>refine o_ln rfl rfl ?_<;>refine o_mv rfl rfl ?_<;>(first|refine Ay ?_|refine Az ?_|refine Aw ?_|refine AA ?_))<;>(repeat (first|refine Ah ?_|refine Al ?_|refine Ae ?_|refine Am ?_|refine At ?_|refine Au ?_|refine Ar rfl ?_|refine Aj rfl ?_)))
  refine Bq vars.length (by omega) (fun n:Int=>[(1,.int .i64 most),(5,.int .i64 n),(8,.slice A vars.length ca)]) (fun k n w'=>w'=w∧0≤n∧n≤most∧manyF most (vars.drop k) n=manyF most vars 1) 1
    ⟨rfl,by omega,h1,rfl⟩ ⟨rfl,rfl,rfl,rfl,rfl,trivial⟩ (fun _=>⟨rfl,rfl⟩) ⟨rfl,rfl,rfl⟩ ⟨rfl,rfl⟩ ?_ ?_
  · rintro k n _ hk ⟨rfl,hn0,hn1,hh⟩
    obtain ⟨x,hx⟩:=AH hk
    obtain ⟨b2,o2,ce,rfl,_,_,hd1,rfl,_⟩:=hv.elem hx
    have hd:vars.drop k=x :: vars.drop (k + 1):=by
      rw [List.drop_eq_getElem_cons hk];congr 1
      rw [List.getElem?_eq_getElem hk] at hx;exact Option.some.inj hx
    rw [hd] at hh
    simp only [manyF] at hh
    have hm0:0≤min (max x 0) (most + 1):=by omega
    have hm1:min (max x 0) (most + 1)≤most + 1:=by omega
    have hp0:0≤n * min (max x 0) (most + 1):=Int.mul_nonneg hn0 hm0
    have hp1:n * min (max x 0) (most + 1)≤1048576 * 1048577:=Int.le_trans (Int.mul_le_mul_of_nonneg_right (Int.le_trans hn1 h2) hm0) (Int.mul_le_mul_of_nonneg_left (by omega) (by omega))
    ((repeat (first|refine Ah ?_|refine Al ?_|refine Ae ?_|refine Am ?_|refine At ?_|refine Au ?_|refine Ar rfl ?_|refine Aj rfl ?_))<;>(refine o_ia rfl rfl rfl ?_<;>refine o_ld rfl rfl ?_<;>refine o_as rfl rfl ?_<;>(first|refine Ay ?_|refine Az ?_|refine Aw ?_|refine AA ?_))<;>(repeat (first|refine Ah ?_|refine Al ?_|refine Ae ?_|refine Am ?_|refine At ?_|refine Au ?_|refine Ar rfl ?_|refine Aj rfl ?_))<;>(refine o_mv rfl rfl ?_<;>refine o_mv rfl rfl ?_<;>refine o_max rfl rfl rfl ?_<;>refine o_mv rfl rfl ?_<;>(first|refine o_ic rfl rfl ?_|refine o_ad rfl rfl rfl ?_)<;>refine o_min rfl rfl rfl ?_<;>refine o_ml rfl rfl rfl ?_<;>refine o_as rfl rfl ?_<;>(first|refine Ay ?_|refine Az ?_|refine Aw ?_|refine AA ?_))<;>(repeat (first|refine Ah ?_|refine Al ?_|refine Ae ?_|refine Am ?_|refine At ?_|refine Au ?_|refine Ar rfl ?_|refine Aj rfl ?_))<;>(refine o_mv rfl rfl ?_<;>refine o_mv rfl rfl ?_<;>(first|refine o_gtT rfl rfl rfl ?_|refine o_gtF rfl rfl rfl ?_|refine o_gtS rfl rfl rfl (fun _=>?_) fun _=>?_)<;>(first|refine Ay ?_|refine Az ?_|refine Aw ?_|refine AA ?_))<;>(repeat (first|refine Ah ?_|refine Al ?_|refine Ae ?_|refine Am ?_|refine At ?_|refine Au ?_|refine Ar rfl ?_|refine Aj rfl ?_)))
    · ((repeat (first|refine Ah ?_|refine Al ?_|refine Ae ?_|refine Am ?_|refine At ?_|refine Au ?_|refine Ar rfl ?_|refine Aj rfl ?_))<;>(refine o_mv rfl rfl ?_<;>(first|refine o_ic rfl rfl ?_|refine o_ad rfl rfl rfl ?_)<;>refine o_as rfl rfl ?_<;>(first|refine Ay ?_|refine Az ?_|refine Aw ?_|refine AA ?_))<;>(repeat (first|refine Ah ?_|refine Al ?_|refine Ae ?_|refine Am ?_|refine At ?_|refine Au ?_|refine Ar rfl ?_|refine Aj rfl ?_)))
      refine ret1 rfl rfl ⟨?_,Below.refl _ _⟩
      rw [if_pos (by assumption)] at hh
      rw [← hh]
    · rw [if_neg (by assumption)] at hh
      exact ⟨n * min (max x 0) (most + 1),⟨rfl,rfl,rfl,rfl,rfl,trivial⟩,rfl,hp0,by omega,hh⟩
  rintro n _ ⟨rfl,_,_,hh⟩
  repeat (first|refine Ah ?_|refine Al ?_|refine Ae ?_|refine Am ?_|refine At ?_|refine Au ?_|refine Ar rfl ?_|refine Aj rfl ?_)
  ((repeat (first|refine Ah ?_|refine Al ?_|refine Ae ?_|refine Am ?_|refine At ?_|refine Au ?_|refine Ar rfl ?_|refine Aj rfl ?_))<;>(refine o_mv rfl rfl ?_<;>refine o_as rfl rfl ?_<;>(first|refine Ay ?_|refine Az ?_|refine Aw ?_|refine AA ?_))<;>(repeat (first|refine Ah ?_|refine Al ?_|refine Ae ?_|refine Am ?_|refine At ?_|refine Au ?_|refine Ar rfl ?_|refine Aj rfl ?_)))
  refine ret1 rfl rfl ⟨?_,Below.refl _ _⟩
  rw [← hh,List.drop_length];rfl
def SmallOk (t:Tsk):Prop:=t.vars.length≤12∧t.ops.length≤20∧(∀ (i:Nat) o,t.ops[i]?=some o→o.effs.length≤8)∧TaskOk t∧manyF 512 t.vars 1≤512
theorem baseSmall {w:World} {tv:Value} {t:Tsk} (ht:V w tv t) :
    Fn Try.prog 11 [tv] w fun v w'=>v=.bool (bof (SmallOk t))∧Ext w w':=by
  have ht0:=ht
  obtain ⟨cs,rfl,a,b,c,d,rfl,hvars,hinit,hgoal,hops⟩:=ht
  obtain ⟨Av,cv,rfl⟩:=hvars.form
  obtain ⟨Ai,ci,rfl⟩:=hinit.form
  obtain ⟨Ag,cg,rfl⟩:=hgoal.form
  obtain ⟨Ao,co,rfl⟩:=hops.form
  have hvl:=hvars.len
  have hol:=hops.len
  refine AL Try.func11 rfl Try.ntmps11 rfl ?_
  repeat (first|refine Ah ?_|refine Al ?_|refine Ae ?_|refine Am ?_|refine At ?_|refine Au ?_|refine Ar rfl ?_|refine Aj rfl ?_)
  refine CN rfl rfl fun w1 hN=>?_
  have hb1:=hN.blk
  have hE1:Ext w w1:=hN.ext
  (refine o_as rfl rfl ?_<;>(first|refine Ay ?_|refine Az ?_|refine Aw ?_|refine AA ?_))
  repeat (first|refine Ah ?_|refine Al ?_|refine Ae ?_|refine Am ?_|refine At ?_|refine Au ?_|refine Ar rfl ?_|refine Aj rfl ?_)
  ((repeat (first|refine Ah ?_|refine Al ?_|refine Ae ?_|refine Am ?_|refine At ?_|refine Au ?_|refine Ar rfl ?_|refine Aj rfl ?_))<;>(refine o_fa rfl rfl ?_<;>refine o_ld rfl rfl ?_<;>refine o_ln rfl rfl ?_<;>(first|refine o_gtT rfl rfl rfl ?_|refine o_gtF rfl rfl rfl ?_|refine o_gtS rfl rfl rfl (fun _=>?_) fun _=>?_)<;>refine o_mv rfl rfl ?_<;>(first|(refine AE rfl rfl ?_;refine o_fa rfl rfl ?_)|refine AD rfl rfl rfl rfl ?_)<;>(first|(refine AE rfl rfl ?_;refine o_ld rfl rfl ?_)|refine AD rfl rfl rfl rfl ?_)<;>(first|(refine AE rfl rfl ?_;refine o_ln rfl rfl ?_)|refine AD rfl rfl rfl rfl ?_)<;>(first|(refine AE rfl rfl ?_;(first|refine o_gtT rfl rfl rfl ?_|refine o_gtF rfl rfl rfl ?_|refine o_gtS rfl rfl rfl (fun _=>?_) fun _=>?_))|refine AD rfl rfl rfl rfl ?_)<;>(first|refine o_pt rfl rfl rfl ?_|refine o_pf rfl rfl rfl ?_)<;>(first|refine Ay ?_|refine Az ?_|refine Aw ?_|refine AA ?_))<;>(repeat (first|refine Ah ?_|refine Al ?_|refine Ae ?_|refine Am ?_|refine At ?_|refine Au ?_|refine Ar rfl ?_|refine Aj rfl ?_)))
  all_goals try (
    ((repeat (first|refine Ah ?_|refine Al ?_|refine Ae ?_|refine Am ?_|refine At ?_|refine Au ?_|refine Ar rfl ?_|refine Aj rfl ?_))<;>(refine o_as rfl rfl ?_<;>(first|refine Ay ?_|refine Az ?_|refine Aw ?_|refine AA ?_))<;>(repeat (first|refine Ah ?_|refine Al ?_|refine Ae ?_|refine Am ?_|refine At ?_|refine Au ?_|refine Ar rfl ?_|refine Aj rfl ?_)))
    refine ret1 rfl rfl ⟨?_,hE1⟩
    rw [bof_f (fun h=>by obtain ⟨h1,h2,_⟩:=h;omega)])
  ((repeat (first|refine Ah ?_|refine Al ?_|refine Ae ?_|refine Am ?_|refine At ?_|refine Au ?_|refine Ar rfl ?_|refine Aj rfl ?_))<;>(refine o_fa rfl rfl ?_<;>refine o_ld rfl rfl ?_<;>refine o_ln rfl rfl ?_<;>refine o_mv rfl rfl ?_<;>(first|refine Ay ?_|refine Az ?_|refine Aw ?_|refine AA ?_))<;>(repeat (first|refine Ah ?_|refine Al ?_|refine Ae ?_|refine Am ?_|refine At ?_|refine Au ?_|refine Ar rfl ?_|refine Aj rfl ?_)))
  refine Bq t.ops.length (by omega) (fun _:Unit=>[(1,.pointer (some ⟨w.heap.size,0,none⟩)),(16,.slice Ao t.ops.length co)]) (fun k _ w'=>Ext w1 w'∧∀ i,i < k→∀ o,t.ops[i]?=some o→o.effs.length≤8) ()
    ⟨Below.refl _ _,fun i hi=>by omega⟩ ⟨rfl,rfl,rfl,rfl,trivial⟩ (fun _=>⟨rfl,rfl⟩) ⟨rfl,rfl,rfl⟩ ⟨rfl,rfl⟩ ?_ ?_
  · rintro k _ w4 hk ⟨hE4,hh⟩
    obtain ⟨o,ho⟩:=AH hk
    obtain ⟨b2,o2,ce,rfl,_,_,hd1,p,q,rfl,hp,hq,hc,hn⟩:=(hops.ext (hE1.trans' hE4)).elem ho
    obtain ⟨Ap,cp,rfl⟩:=hp.form
    obtain ⟨Aq,cq,rfl⟩:=hq.form
    ((repeat (first|refine Ah ?_|refine Al ?_|refine Ae ?_|refine Am ?_|refine At ?_|refine Au ?_|refine Ar rfl ?_|refine Aj rfl ?_))<;>(refine o_ia rfl rfl rfl ?_<;>refine o_la rfl rfl ?_)<;>(repeat (first|refine Ah ?_|refine Al ?_|refine Ae ?_|refine Am ?_|refine At ?_|refine Au ?_|refine Ar rfl ?_|refine Aj rfl ?_)))
    refine BE rfl rfl rfl (by simp [Value.cells,Value.oneCell']) fun w5 hN5=>?_
    have hb2:=hN5.blk
    have hE5:Ext w1 w5:=hE4.trans' hN5.ext
    ((first|refine Ay ?_|refine Az ?_|refine Aw ?_|refine AA ?_))
    repeat (first|refine Ah ?_|refine Al ?_|refine Ae ?_|refine Am ?_|refine At ?_|refine Au ?_|refine Ar rfl ?_|refine Aj rfl ?_)
    ((repeat (first|refine Ah ?_|refine Al ?_|refine Ae ?_|refine Am ?_|refine At ?_|refine Au ?_|refine Ar rfl ?_|refine Aj rfl ?_))<;>(refine o_fa rfl rfl ?_<;>refine o_ld rfl rfl ?_<;>refine o_ln rfl rfl ?_<;>(first|refine o_gtT rfl rfl rfl ?_|refine o_gtF rfl rfl rfl ?_|refine o_gtS rfl rfl rfl (fun _=>?_) fun _=>?_)<;>(first|refine Ay ?_|refine Az ?_|refine Aw ?_|refine AA ?_))<;>(repeat (first|refine Ah ?_|refine Al ?_|refine Ae ?_|refine Am ?_|refine At ?_|refine Au ?_|refine Ar rfl ?_|refine Aj rfl ?_)))
    · ((repeat (first|refine Ah ?_|refine Al ?_|refine Ae ?_|refine Am ?_|refine At ?_|refine Au ?_|refine Ar rfl ?_|refine Aj rfl ?_))<;>(refine o_as rfl rfl ?_<;>(first|refine Ay ?_|refine Az ?_|refine Aw ?_|refine AA ?_))<;>(repeat (first|refine Ah ?_|refine Al ?_|refine Ae ?_|refine Am ?_|refine At ?_|refine Au ?_|refine Ar rfl ?_|refine Aj rfl ?_)))
      refine ret1 rfl rfl ⟨?_,hE1.trans' hE5⟩
      rw [bof_f (fun h=>by have:=h.2.2.1 k o ho;omega)]
    · exact ⟨(),⟨rfl,rfl,rfl,rfl,trivial⟩,hE5,Cl hh fun o' ho'=>by rw [ho] at ho';injection ho' with ho';subst ho';omega⟩
  rintro _ w4 ⟨hE4,hh⟩
  replace hb1:=hb1.ext hE4
  replace hE4:Ext w w4:=hE1.trans' hE4
  repeat (first|refine Ah ?_|refine Al ?_|refine Ae ?_|refine Am ?_|refine At ?_|refine Au ?_|refine Ar rfl ?_|refine Aj rfl ?_)
  (refine o_la rfl rfl ?_)
  refine Cq rfl rfl (baseGood (ht0.ext hE4)) ?_ ?_
  · intro w5 hgood hE5
    replace hb1:=hb1.ext hE5
    replace hE5:Ext w w5:=hE4.trans' hE5
    (refine o_mv rfl rfl ?_<;>(first|(refine AE rfl rfl ?_;refine o_fa rfl rfl ?_)|refine AD rfl rfl rfl rfl ?_)<;>(first|(refine AE rfl rfl ?_;refine o_ld rfl rfl ?_)|refine AD rfl rfl rfl rfl ?_))
    refine AE rfl rfl ?_
    refine AZ rfl rfl (baseMany (hvars.ext hE5) (by decide) (by decide)) ?_
    rintro _ w6 ⟨rfl,hE6⟩
    ((first|(refine AE rfl rfl ?_;(first|refine o_leT rfl rfl rfl ?_|refine o_leF rfl rfl rfl ?_|refine o_leS rfl rfl rfl (fun _=>?_) fun _=>?_))|refine AD rfl rfl rfl rfl ?_)<;>(first|refine o_pt rfl rfl rfl ?_|refine o_pf rfl rfl rfl ?_)<;>refine o_as rfl rfl ?_<;>(first|refine Ay ?_|refine Az ?_|refine Aw ?_|refine AA ?_))
    all_goals
      repeat (first|refine Ah ?_|refine Al ?_|refine Ae ?_|refine Am ?_|refine At ?_|refine Au ?_|refine Ar rfl ?_|refine Aj rfl ?_)
      refine ret1 rfl rfl ⟨?_,hE5.trans' hE6⟩
    · rw [bof_t ⟨by omega,by omega,fun i o ho=>hh i (Bf ho) o ho,hgood,by assumption⟩]
    · rw [bof_f (fun h=>absurd h.2.2.2.2 (by assumption))]
  · intro w5 hgood hE5
    (refine o_mv rfl rfl ?_<;>(first|(refine AE rfl rfl ?_;refine o_fa rfl rfl ?_)|refine AD rfl rfl rfl rfl ?_)<;>(first|(refine AE rfl rfl ?_;refine o_ld rfl rfl ?_)|refine AD rfl rfl rfl rfl ?_))
    refine AD rfl rfl rfl rfl ?_
    ((first|(refine AE rfl rfl ?_;(first|refine o_leT rfl rfl rfl ?_|refine o_leF rfl rfl rfl ?_|refine o_leS rfl rfl rfl (fun _=>?_) fun _=>?_))|refine AD rfl rfl rfl rfl ?_)<;>(first|refine o_pt rfl rfl rfl ?_|refine o_pf rfl rfl rfl ?_)<;>refine o_as rfl rfl ?_<;>(first|refine Ay ?_|refine Az ?_|refine Aw ?_|refine AA ?_))
    repeat (first|refine Ah ?_|refine Al ?_|refine Ae ?_|refine Am ?_|refine At ?_|refine Au ?_|refine Ar rfl ?_|refine Aj rfl ?_)
    refine ret1 rfl rfl ⟨?_,hE4.trans' hE5⟩
    rw [bof_f (fun h=>hgood h.2.2.2.1)]
end
section
open Go Go.RowKit
attribute [local irreducible] ewp owp hwp hwq hws Ev Evg Fn retPost loud loudS Res1
def opConds (o:Opr):List (List Fct):=o.pre :: o.effs.map (·.cond)
def conds (t:Tsk):List (List Fct):=t.goal :: t.ops.flatMap opConds
theorem IZ {α β:Type} (f:α→List β) {l:List α} {k:Nat} {x:α} (h:l[k]?=some x):(l.take (k + 1)).flatMap f=(l.take k).flatMap f ++ f x:=by
  rw [List.take_add_one,h];simp
theorem LI {α β:Type} (f:α→β) {l:List α} {k:Nat} {x:α} (h:l[k]?=some x):(l.take (k + 1)).map f=(l.take k).map f ++ [f x]:=by
  rw [List.take_add_one,h];simp
theorem Mi {t:Tsk} (h:∀ (i:Nat) o,t.ops[i]?=some o→o.effs.length≤64) (k:Nat):((t.ops.take k).flatMap opConds).length≤k * 65:=by
  induction k with
  | zero=>simp
  | succ k ih =>
    cases hx:t.ops[k]? with
    | none =>
      have hl:=List.getElem?_eq_none_iff.1 hx
      rw [List.take_of_length_le hl] at ih
      rw [List.take_of_length_le (by omega)]
      omega
    | some o =>
      rw [IZ opConds hx,List.length_append]
      have:=h k o hx
      simp only [opConds,List.length_cons,List.length_map] at *
      omega
theorem taskConditions {w:World} {tv:Value} {t:Tsk} (ht:V w tv t) (hn:t.ops.length≤4096) (hm:∀ (i:Nat) o,t.ops[i]?=some o→o.effs.length≤64) :
    Fn Try.prog 55 [tv] w fun v w'=>V w' v (conds t)∧Ext w w':=by
  obtain ⟨cs,rfl,a,b,c,d,rfl,hvars,hinit,hgoal,hops⟩:=ht
  obtain ⟨Av,cv,rfl⟩:=hvars.form
  obtain ⟨Ai,ci,rfl⟩:=hinit.form
  obtain ⟨Ag,cg,rfl⟩:=hgoal.form
  obtain ⟨Ao,co,rfl⟩:=hops.form
  have hF:∀ {w'},Ext w w'→∀ k,All w k→k < w'.heap.size:=fun hE k hk=>Nat.lt_of_lt_of_le hk hE.size
  refine AL Try.func55 rfl Try.ntmps55 rfl ?_
  repeat (first|refine Ah ?_|refine Al ?_|refine Ae ?_|refine Am ?_|refine At ?_|refine Au ?_|refine Ar rfl ?_|refine Aj rfl ?_)
  refine CN rfl rfl fun w1 hN=>?_
  have hb1:=hN.blk
  have hE1:Ext w w1:=hN.ext
  (refine o_as rfl rfl ?_<;>(first|refine Ay ?_|refine Az ?_|refine Aw ?_|refine AA ?_))
  repeat (first|refine Ah ?_|refine Al ?_|refine Ae ?_|refine Am ?_|refine At ?_|refine Au ?_|refine Ar rfl ?_|refine Aj rfl ?_)
  (refine o_fa rfl rfl ?_<;>refine o_ld rfl rfl ?_)
  refine CV rfl rfl rfl (by simp [Value.cells]) (by decide) rfl fun w2 hN2=>?_
  replace hb1:=hb1.ext hN2.ext
  have hE2:Ext w w2:=hE1.trans' hN2.ext
  have hown:Own w2 w.heap.size (All w) 23 (.slice (some ⟨w1.heap.size,0,none⟩) 1 1) [t.goal] :=
    (Own.made hN2 (xs:=[t.goal]) (.single (Vb.agree hgoal (hE2.agree fun _ h=>h))) rfl (fun h=>by have:w1.heap.size < w.heap.size:=h;have:=hE1.size;omega) (by simp)).lower hE1.size
  (refine o_as rfl rfl ?_<;>(first|refine Ay ?_|refine Az ?_|refine Aw ?_|refine AA ?_))
  repeat (first|refine Ah ?_|refine Al ?_|refine Ae ?_|refine Am ?_|refine At ?_|refine Au ?_|refine Ar rfl ?_|refine Aj rfl ?_)
  ((repeat (first|refine Ah ?_|refine Al ?_|refine Ae ?_|refine Am ?_|refine At ?_|refine Au ?_|refine Ar rfl ?_|refine Aj rfl ?_))<;>(refine o_fa rfl rfl ?_<;>refine o_ld rfl rfl ?_<;>refine o_ln rfl rfl ?_<;>refine o_mv rfl rfl ?_<;>(first|refine Ay ?_|refine Az ?_|refine Aw ?_|refine AA ?_))<;>(repeat (first|refine Ah ?_|refine Al ?_|refine Ae ?_|refine Am ?_|refine At ?_|refine Au ?_|refine Ar rfl ?_|refine Aj rfl ?_)))
  refine Bq t.ops.length (by omega) (fun v:Value=>[(1,.pointer (some ⟨w.heap.size,0,none⟩)),(3,v),(12,.slice Ao t.ops.length co)]) (fun k v w'=>Ext w w'∧Blk w' w.heap.size 26 [.slice Av t.vars.length cv,.slice Ai t.init.length ci,.slice Ag t.goal.length cg,.slice Ao t.ops.length co]∧Own w' w.heap.size (All w) 23 v (t.goal :: (t.ops.take k).flatMap opConds)) _
    ⟨hE2,hb1,hown⟩ ⟨rfl,rfl,rfl,rfl,rfl,trivial⟩ (fun _=>⟨rfl,rfl⟩) ⟨rfl,rfl,rfl⟩ ⟨rfl,rfl⟩ ?_ ?_
  · rintro k v w3 hk ⟨hE3,hb1,hown⟩
    have hlk:=Mi hm k
    obtain ⟨o,ho⟩:=AH hk
    obtain ⟨b2,o2,ce,rfl,_,_,hd1,p,q,rfl,hp,hq,hc,hnm⟩:=Vb.elem (Vb.agree hops (hE3.agree fun _ h=>h)) ho
    obtain ⟨Ap,cp,rfl⟩:=hp.form
    obtain ⟨Aq,cq,rfl⟩:=hq.form
    have hql:=hm k o ho
    ((repeat (first|refine Ah ?_|refine Al ?_|refine Ae ?_|refine Am ?_|refine At ?_|refine Au ?_|refine Ar rfl ?_|refine Aj rfl ?_))<;>(refine o_ia rfl rfl rfl ?_<;>refine o_la rfl rfl ?_)<;>(repeat (first|refine Ah ?_|refine Al ?_|refine Ae ?_|refine Am ?_|refine At ?_|refine Au ?_|refine Ar rfl ?_|refine Aj rfl ?_)))
    refine BE rfl rfl rfl (by simp [Value.cells,Value.oneCell']) fun w4 hN4=>?_
    have hb2:=hN4.blk
    replace hb1:=hb1.ext hN4.ext
    have hE4:Ext w w4:=hE3.trans' hN4.ext
    replace hown:=hown.ext hN4.ext (hF hE3)
    replace hp:=hp.agree (hN4.ext.agree (hF hE3))
    replace hq:=hq.agree (hN4.ext.agree (hF hE3))
    ((first|refine Ay ?_|refine Az ?_|refine Aw ?_|refine AA ?_))
    repeat (first|refine Ah ?_|refine Al ?_|refine Ae ?_|refine Am ?_|refine At ?_|refine Au ?_|refine Ar rfl ?_|refine Aj rfl ?_)
    (refine o_mv rfl rfl ?_<;>refine o_fa rfl rfl ?_<;>refine o_ld rfl rfl ?_)
    refine Em rfl rfl rfl hown (hF hE4) hE4.size hp (by decide) (by decide) (by simp only [List.length_cons,List.length_append,List.length_map,List.length_take];omega) (by simp only [List.length_cons,List.length_append,List.length_map,List.length_take];omega) ⟨rfl,rfl⟩ fun v' w5 hown5 hK=>?_
    replace hb1:=hK.blk hb1 (hown.blk_ne hb1 (by decide))
    replace hb2:=hK.blk hb2 (hown.blk_ne hb2 (by decide))
    have hB5:Below w.heap.size w4 w5:=hown.fits (Nat.le_refl _) hE4.size hK
    have hE5:Ext w w5:=hE4.trans hB5
    replace hq:=hq.below hB5
    (refine o_as rfl rfl ?_<;>(first|refine Ay ?_|refine Az ?_|refine Aw ?_|refine AA ?_))
    repeat (first|refine Ah ?_|refine Al ?_|refine Ae ?_|refine Am ?_|refine At ?_|refine Au ?_|refine Ar rfl ?_|refine Aj rfl ?_)
    ((repeat (first|refine Ah ?_|refine Al ?_|refine Ae ?_|refine Am ?_|refine At ?_|refine Au ?_|refine Ar rfl ?_|refine Aj rfl ?_))<;>(refine o_fa rfl rfl ?_<;>refine o_ld rfl rfl ?_<;>refine o_ln rfl rfl ?_<;>refine o_mv rfl rfl ?_<;>(first|refine Ay ?_|refine Az ?_|refine Aw ?_|refine AA ?_))<;>(repeat (first|refine Ah ?_|refine Al ?_|refine Ae ?_|refine Am ?_|refine At ?_|refine Au ?_|refine Ar rfl ?_|refine Aj rfl ?_)))
    refine Bq o.effs.length (by omega) (fun v:Value=>[(1,.pointer (some ⟨w.heap.size,0,none⟩)),(3,v),(12,.slice (some ⟨b2,o2,none⟩) t.ops.length co),(13,.int .i64 (t.ops.length:Int)),(14,.int .i64 (k:Int)),(24,.slice Aq o.effs.length cq)]) (fun j v w'=>Ext w w'∧Blk w' w.heap.size 26 [.slice Av t.vars.length cv,.slice Ai t.init.length ci,.slice Ag t.goal.length cg,.slice (some ⟨b2,o2,none⟩) t.ops.length co]∧Vb w' (All w) (.slice Aq o.effs.length cq) o.effs∧Own w' w.heap.size (All w) 23 v ((t.goal :: (t.ops.take k).flatMap opConds) ++ o.pre :: (o.effs.take j).map (·.cond))) _
      ⟨hE5,hb1,hq,by simpa using hown5⟩ ⟨rfl,rfl,rfl,rfl,rfl,rfl,rfl,rfl,trivial⟩ (fun _=>⟨rfl,rfl⟩) ⟨rfl,rfl,rfl⟩ ⟨rfl,rfl⟩ ?_ ?_
    · rintro j v6 w6 hj ⟨hE6,hb1,hq,hown⟩
      obtain ⟨e,he⟩:=AH hj
      obtain ⟨b3,o3,ce,rfl,_,_,hd1,cv',rfl,hcond,hr1,hr2⟩:=hq.elem he
      obtain ⟨Ac,cc,rfl⟩:=hcond.form
      ((repeat (first|refine Ah ?_|refine Al ?_|refine Ae ?_|refine Am ?_|refine At ?_|refine Au ?_|refine Ar rfl ?_|refine Aj rfl ?_))<;>(refine o_ia rfl rfl rfl ?_<;>refine o_la rfl rfl ?_)<;>(repeat (first|refine Ah ?_|refine Al ?_|refine Ae ?_|refine Am ?_|refine At ?_|refine Au ?_|refine Ar rfl ?_|refine Aj rfl ?_)))
      refine BE rfl rfl rfl (by simp [Value.cells,Value.oneCell']) fun w7 hN7=>?_
      have hb2:=hN7.blk
      replace hb1:=hb1.ext hN7.ext
      have hE7:Ext w w7:=hE6.trans' hN7.ext
      replace hown:=hown.ext hN7.ext (hF hE6)
      replace hcond:=hcond.agree (hN7.ext.agree (hF hE6))
      replace hq:=hq.agree (hN7.ext.agree (hF hE6))
      ((first|refine Ay ?_|refine Az ?_|refine Aw ?_|refine AA ?_))
      repeat (first|refine Ah ?_|refine Al ?_|refine Ae ?_|refine Am ?_|refine At ?_|refine Au ?_|refine Ar rfl ?_|refine Aj rfl ?_)
      (refine o_mv rfl rfl ?_<;>refine o_fa rfl rfl ?_<;>refine o_ld rfl rfl ?_)
      refine Em rfl rfl rfl hown (hF hE7) hE7.size hcond (by decide) (by decide) (by simp only [List.length_cons,List.length_append,List.length_map,List.length_take];omega) (by simp only [List.length_cons,List.length_append,List.length_map,List.length_take];omega) ⟨rfl,rfl⟩ fun v' w8 hown8 hK=>?_
      have hB8:Below w.heap.size w7 w8:=hown.fits (Nat.le_refl _) hE7.size hK
      (refine o_as rfl rfl ?_<;>(first|refine Ay ?_|refine Az ?_|refine Aw ?_|refine AA ?_))
      exact ⟨v',⟨rfl,rfl,rfl,rfl,rfl,rfl,rfl,rfl,trivial⟩,hE7.trans hB8,hK.blk hb1 (hown.blk_ne hb1 (by decide)),hq.below hB8,by rw [LI _ he];simpa using hown8⟩
    rintro v6 w6 ⟨hE6,hb1,hq,hown⟩
    repeat (first|refine Ah ?_|refine Al ?_|refine Ae ?_|refine Am ?_|refine At ?_|refine Au ?_|refine Ar rfl ?_|refine Aj rfl ?_)
    exact ⟨v6,⟨rfl,rfl,rfl,rfl,rfl,trivial⟩,hE6,hb1,by rw [IZ opConds ho];simpa [opConds] using hown⟩
  rintro v w3 ⟨hE3,hb1,hown⟩
  repeat (first|refine Ah ?_|refine Al ?_|refine Ae ?_|refine Am ?_|refine At ?_|refine Au ?_|refine Ar rfl ?_|refine Aj rfl ?_)
  ((repeat (first|refine Ah ?_|refine Al ?_|refine Ae ?_|refine Am ?_|refine At ?_|refine Au ?_|refine Ar rfl ?_|refine Aj rfl ?_))<;>(refine o_mv rfl rfl ?_<;>refine o_as rfl rfl ?_<;>(first|refine Ay ?_|refine Az ?_|refine Aw ?_|refine AA ?_))<;>(repeat (first|refine Ah ?_|refine Al ?_|refine Ae ?_|refine Am ?_|refine At ?_|refine Au ?_|refine Ar rfl ?_|refine Aj rfl ?_)))
  refine ret1 rfl rfl ⟨?_,hE3⟩
  rw [List.take_length] at hown
  exact hown.vb.mono fun k hk=>by
    rcases hk with hk|hk
    · exact hF hE3 k hk
    · exact (hown.lt k hk).2
theorem indexFuncFacts {w:World} {sv:Value} {xs:List (List Fct)} {g:FuncId} [Callable Try.prog g] {caps:List Value} {p:List Fct→Prop} (hs:V w sv xs)
    (hg:∀ v x w',x∈xs→Ext w w'→V w' v x→Fn Try.prog g ([v] ++ caps) w' fun r w''=>r=.bool (bof (p x))∧Ext w' w'') :
    Fn Try.prog 83 [sv,.func (.func g) #[] caps.toArray] w fun v w'=>((∃ k:Nat,v=.int .i64 (k:Int)∧∃ x∈xs,p x)∨(v=.int .i64 (-1)∧∀ x∈xs,¬ p x))∧Ext w w':=by
  obtain ⟨A,c,rfl⟩:=hs.form
  have hl:=hs.len
  refine AL Try.func83 rfl Try.ntmps83 rfl ?_
  ((repeat (first|refine Ah ?_|refine Al ?_|refine Ae ?_|refine Am ?_|refine At ?_|refine Au ?_|refine Ar rfl ?_|refine Aj rfl ?_))<;>(refine o_as rfl rfl ?_<;>(first|refine Ay ?_|refine Az ?_|refine Aw ?_|refine AA ?_))<;>(repeat (first|refine Ah ?_|refine Al ?_|refine Ae ?_|refine Am ?_|refine At ?_|refine Au ?_|refine Ar rfl ?_|refine Aj rfl ?_))<;>(refine o_mv rfl rfl ?_<;>refine o_ln rfl rfl ?_<;>refine o_mv rfl rfl ?_<;>(first|refine Ay ?_|refine Az ?_|refine Aw ?_|refine AA ?_))<;>(repeat (first|refine Ah ?_|refine Al ?_|refine Ae ?_|refine Am ?_|refine At ?_|refine Au ?_|refine Ar rfl ?_|refine Aj rfl ?_)))
  refine Bq xs.length (by omega) (fun _:Unit=>[(0,.slice A xs.length c),(1,.func (.func g) #[] caps.toArray)]) (fun k _ w'=>Ext w w'∧∀ i,i < k→∀ x,xs[i]?=some x→¬ p x) ()
    ⟨Below.refl _ _,fun i hi=>by omega⟩ ⟨rfl,rfl,rfl,rfl,trivial⟩ (fun _=>⟨rfl,rfl⟩) ⟨rfl,rfl,rfl⟩ ⟨rfl,rfl⟩ ?_ ?_
  · rintro k _ w1 hk ⟨hE,hh⟩
    obtain ⟨x,hx⟩:=AH hk
    obtain ⟨b,o,ce,rfl,_,_,hd1,hR⟩:=(hs.ext hE).elem hx
    obtain ⟨v,rfl⟩:=List.length_eq_one_iff.1 (Rp.len hR)
    ((repeat (first|refine Ah ?_|refine Al ?_|refine Ae ?_|refine Am ?_|refine At ?_|refine Au ?_|refine Ar rfl ?_|refine Aj rfl ?_))<;>(refine o_mv rfl rfl ?_<;>refine o_as rfl rfl ?_<;>(first|refine Ay ?_|refine Az ?_|refine Aw ?_|refine AA ?_))<;>(repeat (first|refine Ah ?_|refine Al ?_|refine Ae ?_|refine Am ?_|refine At ?_|refine Au ?_|refine Ar rfl ?_|refine Aj rfl ?_))<;>(refine o_mv rfl rfl ?_<;>refine o_mv rfl rfl ?_<;>refine o_mv rfl rfl ?_<;>refine o_ia rfl rfl rfl ?_<;>refine o_ld rfl rfl ?_)<;>(repeat (first|refine Ah ?_|refine Al ?_|refine Ae ?_|refine Am ?_|refine At ?_|refine Au ?_|refine Ar rfl ?_|refine Aj rfl ?_)))
    refine IU rfl rfl rfl (hg v x w1 (List.mem_of_getElem? hx) hE hR) ?_
    rintro _ w2 ⟨rfl,hE2⟩
    by_cases hp:p x
    · rw [bof_t hp]
      ((first|refine Ay ?_|refine Az ?_|refine Aw ?_|refine AA ?_))
      repeat (first|refine Ah ?_|refine Al ?_|refine Ae ?_|refine Am ?_|refine At ?_|refine Au ?_|refine Ar rfl ?_|refine Aj rfl ?_)
      ((repeat (first|refine Ah ?_|refine Al ?_|refine Ae ?_|refine Am ?_|refine At ?_|refine Au ?_|refine Ar rfl ?_|refine Aj rfl ?_))<;>(refine o_mv rfl rfl ?_<;>refine o_as rfl rfl ?_<;>(first|refine Ay ?_|refine Az ?_|refine Aw ?_|refine AA ?_))<;>(repeat (first|refine Ah ?_|refine Al ?_|refine Ae ?_|refine Am ?_|refine At ?_|refine Au ?_|refine Ar rfl ?_|refine Aj rfl ?_)))
      exact ret1 rfl rfl ⟨.inl ⟨k,rfl,x,List.mem_of_getElem? hx,hp⟩,hE.trans' hE2⟩
    · rw [bof_f hp]
      ((first|refine Ay ?_|refine Az ?_|refine Aw ?_|refine AA ?_))
      repeat (first|refine Ah ?_|refine Al ?_|refine Ae ?_|refine Am ?_|refine At ?_|refine Au ?_|refine Ar rfl ?_|refine Aj rfl ?_)
      exact ⟨(),⟨rfl,rfl,rfl,rfl,trivial⟩,hE.trans' hE2,Cl hh fun x' hx'=>by rw [hx] at hx';injection hx' with hx';exact hx' ▸ hp⟩
  rintro _ w1 ⟨hE,hh⟩
  repeat (first|refine Ah ?_|refine Al ?_|refine Ae ?_|refine Am ?_|refine At ?_|refine Au ?_|refine Ar rfl ?_|refine Aj rfl ?_)
  ((repeat (first|refine Ah ?_|refine Al ?_|refine Ae ?_|refine Am ?_|refine At ?_|refine Au ?_|refine Ar rfl ?_|refine Aj rfl ?_))<;>(refine o_as rfl rfl ?_<;>(first|refine Ay ?_|refine Az ?_|refine Aw ?_|refine AA ?_))<;>(repeat (first|refine Ah ?_|refine Al ?_|refine Ae ?_|refine Am ?_|refine At ?_|refine Au ?_|refine Ar rfl ?_|refine Aj rfl ?_)))
  refine ret1 rfl rfl ⟨.inr ⟨rfl,fun x hx=>?_⟩,hE⟩
  obtain ⟨i,hi⟩:=List.getElem?_of_mem hx
  exact hh i (Bf hi) x hi
theorem containsFuncFacts {w:World} {sv:Value} {xs:List (List Fct)} {g:FuncId} [Callable Try.prog g] {caps:List Value} {p:List Fct→Prop} (hs:V w sv xs)
    (hg:∀ v x w',x∈xs→Ext w w'→V w' v x→Fn Try.prog g ([v] ++ caps) w' fun r w''=>r=.bool (bof (p x))∧Ext w' w'') :
    Fn Try.prog 69 [sv,.func (.func g) #[] caps.toArray] w fun v w'=>v=.bool (bof (∃ x∈xs,p x))∧Ext w w':=by
  refine AL Try.func69 rfl Try.ntmps69 rfl ?_
  ((repeat (first|refine Ah ?_|refine Al ?_|refine Ae ?_|refine Am ?_|refine At ?_|refine Au ?_|refine Ar rfl ?_|refine Aj rfl ?_))<;>(refine o_as rfl rfl ?_<;>(first|refine Ay ?_|refine Az ?_|refine Aw ?_|refine AA ?_))<;>(repeat (first|refine Ah ?_|refine Al ?_|refine Ae ?_|refine Am ?_|refine At ?_|refine Au ?_|refine Ar rfl ?_|refine Aj rfl ?_))<;>(refine o_mv rfl rfl ?_<;>refine o_mv rfl rfl ?_)<;>(repeat (first|refine Ah ?_|refine Al ?_|refine Ae ?_|refine Am ?_|refine At ?_|refine Au ?_|refine Ar rfl ?_|refine Aj rfl ?_)))
  refine AZ rfl rfl (indexFuncFacts hs hg) ?_
  rintro v w1 ⟨h,hE⟩
  rcases h with ⟨k,rfl,h⟩|⟨rfl,h⟩
  · ((first|refine o_geT rfl rfl rfl ?_|refine o_geF rfl rfl rfl ?_)<;>refine o_as rfl rfl ?_<;>(first|refine Ay ?_|refine Az ?_|refine Aw ?_|refine AA ?_))
    repeat (first|refine Ah ?_|refine Al ?_|refine Ae ?_|refine Am ?_|refine At ?_|refine Au ?_|refine Ar rfl ?_|refine Aj rfl ?_)
    exact ret1 rfl rfl ⟨by rw [bof_t h],hE⟩
  · ((first|refine o_geT rfl rfl rfl ?_|refine o_geF rfl rfl rfl ?_)<;>refine o_as rfl rfl ?_<;>(first|refine Ay ?_|refine Az ?_|refine Aw ?_|refine AA ?_))
    repeat (first|refine Ah ?_|refine Al ?_|refine Ae ?_|refine Am ?_|refine At ?_|refine Au ?_|refine Ar rfl ?_|refine Aj rfl ?_)
    exact ret1 rfl rfl ⟨by rw [bof_f (fun ⟨x,hx,hp⟩=>h x hx hp)],hE⟩
theorem taskLarge1 {w:World} {v:Value} {f:List Fct} (hf:V w v f):Fn Try.prog 70 ([v] ++ []) w fun r w'=>r=.bool (bof (64 < f.length))∧Ext w w':=by
  obtain ⟨A,c,rfl⟩:=hf.form
  refine AL Try.func70 rfl Try.ntmps70 rfl ?_
  by_cases h:64 < f.length
  · ((repeat (first|refine Ah ?_|refine Al ?_|refine Ae ?_|refine Am ?_|refine At ?_|refine Au ?_|refine Ar rfl ?_|refine Aj rfl ?_))<;>(refine o_as rfl rfl ?_<;>(first|refine Ay ?_|refine Az ?_|refine Aw ?_|refine AA ?_))<;>(repeat (first|refine Ah ?_|refine Al ?_|refine Ae ?_|refine Am ?_|refine At ?_|refine Au ?_|refine Ar rfl ?_|refine Aj rfl ?_))<;>(refine o_mv rfl rfl ?_<;>refine o_ln rfl rfl ?_<;>(first|refine o_gtT rfl rfl rfl ?_|refine o_gtF rfl rfl rfl ?_)<;>refine o_as rfl rfl ?_<;>(first|refine Ay ?_|refine Az ?_|refine Aw ?_|refine AA ?_))<;>(repeat (first|refine Ah ?_|refine Al ?_|refine Ae ?_|refine Am ?_|refine At ?_|refine Au ?_|refine Ar rfl ?_|refine Aj rfl ?_)))
    exact ret1 rfl rfl ⟨by rw [bof_t h],Below.refl _ _⟩
  · ((repeat (first|refine Ah ?_|refine Al ?_|refine Ae ?_|refine Am ?_|refine At ?_|refine Au ?_|refine Ar rfl ?_|refine Aj rfl ?_))<;>(refine o_as rfl rfl ?_<;>(first|refine Ay ?_|refine Az ?_|refine Aw ?_|refine AA ?_))<;>(repeat (first|refine Ah ?_|refine Al ?_|refine Ae ?_|refine Am ?_|refine At ?_|refine Au ?_|refine Ar rfl ?_|refine Aj rfl ?_))<;>(refine o_mv rfl rfl ?_<;>refine o_ln rfl rfl ?_<;>(first|refine o_gtT rfl rfl rfl ?_|refine o_gtF rfl rfl rfl ?_)<;>refine o_as rfl rfl ?_<;>(first|refine Ay ?_|refine Az ?_|refine Aw ?_|refine AA ?_))<;>(repeat (first|refine Ah ?_|refine Al ?_|refine Ae ?_|refine Am ?_|refine At ?_|refine Au ?_|refine Ar rfl ?_|refine Aj rfl ?_)))
    exact ret1 rfl rfl ⟨by rw [bof_f h],Below.refl _ _⟩
def Large (t:Tsk):Prop:=64 < t.vars.length∨4096 < t.ops.length∨(∃ (i:Nat) (o:Opr),t.ops[i]?=some o∧64 < o.effs.length)∨∃ f∈conds t,64 < f.length
theorem taskLarge {w:World} {tv:Value} {t:Tsk} (ht:V w tv t):Fn Try.prog 53 [tv] w fun v w'=>v=.bool (bof (Large t))∧Ext w w':=by
  have ht0:=ht
  obtain ⟨cs,rfl,a,b,c,d,rfl,hvars,hinit,hgoal,hops⟩:=ht
  obtain ⟨Av,cv,rfl⟩:=hvars.form
  obtain ⟨Ai,ci,rfl⟩:=hinit.form
  obtain ⟨Ag,cg,rfl⟩:=hgoal.form
  obtain ⟨Ao,co,rfl⟩:=hops.form
  have hol:=hops.len
  refine AL Try.func53 rfl Try.ntmps53 rfl ?_
  repeat (first|refine Ah ?_|refine Al ?_|refine Ae ?_|refine Am ?_|refine At ?_|refine Au ?_|refine Ar rfl ?_|refine Aj rfl ?_)
  refine CN rfl rfl fun w1 hN=>?_
  have hb1:=hN.blk
  have hE1:Ext w w1:=hN.ext
  (refine o_as rfl rfl ?_<;>(first|refine Ay ?_|refine Az ?_|refine Aw ?_|refine AA ?_))
  repeat (first|refine Ah ?_|refine Al ?_|refine Ae ?_|refine Am ?_|refine At ?_|refine Au ?_|refine Ar rfl ?_|refine Aj rfl ?_)
  ((repeat (first|refine Ah ?_|refine Al ?_|refine Ae ?_|refine Am ?_|refine At ?_|refine Au ?_|refine Ar rfl ?_|refine Aj rfl ?_))<;>(refine o_fa rfl rfl ?_<;>refine o_ld rfl rfl ?_<;>refine o_ln rfl rfl ?_<;>(first|refine o_gtT rfl rfl rfl ?_|refine o_gtF rfl rfl rfl ?_|refine o_gtS rfl rfl rfl (fun _=>?_) fun _=>?_)<;>refine o_mv rfl rfl ?_<;>(first|(refine AE rfl rfl ?_;refine o_fa rfl rfl ?_)|refine AD rfl rfl rfl rfl ?_)<;>(first|(refine AE rfl rfl ?_;refine o_ld rfl rfl ?_)|refine AD rfl rfl rfl rfl ?_)<;>(first|(refine AE rfl rfl ?_;refine o_ln rfl rfl ?_)|refine AD rfl rfl rfl rfl ?_)<;>(first|(refine AE rfl rfl ?_;(first|refine o_gtT rfl rfl rfl ?_|refine o_gtF rfl rfl rfl ?_|refine o_gtS rfl rfl rfl (fun _=>?_) fun _=>?_))|refine AD rfl rfl rfl rfl ?_)<;>(first|refine o_pt rfl rfl rfl ?_|refine o_pf rfl rfl rfl ?_)<;>(first|refine Ay ?_|refine Az ?_|refine Aw ?_|refine AA ?_))<;>(repeat (first|refine Ah ?_|refine Al ?_|refine Ae ?_|refine Am ?_|refine At ?_|refine Au ?_|refine Ar rfl ?_|refine Aj rfl ?_)))
  all_goals try (
    ((repeat (first|refine Ah ?_|refine Al ?_|refine Ae ?_|refine Am ?_|refine At ?_|refine Au ?_|refine Ar rfl ?_|refine Aj rfl ?_))<;>(refine o_as rfl rfl ?_<;>(first|refine Ay ?_|refine Az ?_|refine Aw ?_|refine AA ?_))<;>(repeat (first|refine Ah ?_|refine Al ?_|refine Ae ?_|refine Am ?_|refine At ?_|refine Au ?_|refine Ar rfl ?_|refine Aj rfl ?_)))
    refine ret1 rfl rfl ⟨?_,hE1⟩
    rw [bof_t (by first|exact .inl (by omega)|exact .inr (.inl (by omega)))])
  ((repeat (first|refine Ah ?_|refine Al ?_|refine Ae ?_|refine Am ?_|refine At ?_|refine Au ?_|refine Ar rfl ?_|refine Aj rfl ?_))<;>(refine o_fa rfl rfl ?_<;>refine o_ld rfl rfl ?_<;>refine o_ln rfl rfl ?_<;>refine o_mv rfl rfl ?_<;>(first|refine Ay ?_|refine Az ?_|refine Aw ?_|refine AA ?_))<;>(repeat (first|refine Ah ?_|refine Al ?_|refine Ae ?_|refine Am ?_|refine At ?_|refine Au ?_|refine Ar rfl ?_|refine Aj rfl ?_)))
  refine Bq t.ops.length (by omega) (fun _:Unit=>[(1,.pointer (some ⟨w.heap.size,0,none⟩)),(16,.slice Ao t.ops.length co)]) (fun k _ w'=>Ext w1 w'∧∀ i,i < k→∀ o,t.ops[i]?=some o→o.effs.length≤64) ()
    ⟨Below.refl _ _,fun i hi=>by omega⟩ ⟨rfl,rfl,rfl,rfl,trivial⟩ (fun _=>⟨rfl,rfl⟩) ⟨rfl,rfl,rfl⟩ ⟨rfl,rfl⟩ ?_ ?_
  · rintro k _ w4 hk ⟨hE4,hh⟩
    obtain ⟨o,ho⟩:=AH hk
    obtain ⟨b2,o2,ce,rfl,_,_,hd1,p,q,rfl,hp,hq,hc,hn⟩:=(hops.ext (hE1.trans' hE4)).elem ho
    obtain ⟨Ap,cp,rfl⟩:=hp.form
    obtain ⟨Aq,cq,rfl⟩:=hq.form
    ((repeat (first|refine Ah ?_|refine Al ?_|refine Ae ?_|refine Am ?_|refine At ?_|refine Au ?_|refine Ar rfl ?_|refine Aj rfl ?_))<;>(refine o_ia rfl rfl rfl ?_<;>refine o_la rfl rfl ?_)<;>(repeat (first|refine Ah ?_|refine Al ?_|refine Ae ?_|refine Am ?_|refine At ?_|refine Au ?_|refine Ar rfl ?_|refine Aj rfl ?_)))
    refine BE rfl rfl rfl (by simp [Value.cells,Value.oneCell']) fun w5 hN5=>?_
    have hb2:=hN5.blk
    have hE5:Ext w1 w5:=hE4.trans' hN5.ext
    ((first|refine Ay ?_|refine Az ?_|refine Aw ?_|refine AA ?_))
    repeat (first|refine Ah ?_|refine Al ?_|refine Ae ?_|refine Am ?_|refine At ?_|refine Au ?_|refine Ar rfl ?_|refine Aj rfl ?_)
    ((repeat (first|refine Ah ?_|refine Al ?_|refine Ae ?_|refine Am ?_|refine At ?_|refine Au ?_|refine Ar rfl ?_|refine Aj rfl ?_))<;>(refine o_fa rfl rfl ?_<;>refine o_ld rfl rfl ?_<;>refine o_ln rfl rfl ?_<;>(first|refine o_gtT rfl rfl rfl ?_|refine o_gtF rfl rfl rfl ?_|refine o_gtS rfl rfl rfl (fun _=>?_) fun _=>?_)<;>(first|refine Ay ?_|refine Az ?_|refine Aw ?_|refine AA ?_))<;>(repeat (first|refine Ah ?_|refine Al ?_|refine Ae ?_|refine Am ?_|refine At ?_|refine Au ?_|refine Ar rfl ?_|refine Aj rfl ?_)))
    · ((repeat (first|refine Ah ?_|refine Al ?_|refine Ae ?_|refine Am ?_|refine At ?_|refine Au ?_|refine Ar rfl ?_|refine Aj rfl ?_))<;>(refine o_as rfl rfl ?_<;>(first|refine Ay ?_|refine Az ?_|refine Aw ?_|refine AA ?_))<;>(repeat (first|refine Ah ?_|refine Al ?_|refine Ae ?_|refine Am ?_|refine At ?_|refine Au ?_|refine Ar rfl ?_|refine Aj rfl ?_)))
      refine ret1 rfl rfl ⟨?_,hE1.trans' hE5⟩
      rw [bof_t (.inr (.inr (.inl ⟨k,o,ho,by omega⟩)))]
    · exact ⟨(),⟨rfl,rfl,rfl,rfl,trivial⟩,hE5,Cl hh fun o' ho'=>by rw [ho] at ho';injection ho' with ho';subst ho';omega⟩
  rintro _ w4 ⟨hE4,hh⟩
  replace hb1:=hb1.ext hE4
  replace hE4:Ext w w4:=hE1.trans' hE4
  have hm:∀ (i:Nat) o,t.ops[i]?=some o→o.effs.length≤64:=fun i o ho=>hh i (Bf ho) o ho
  repeat (first|refine Ah ?_|refine Al ?_|refine Ae ?_|refine Am ?_|refine At ?_|refine Au ?_|refine Ar rfl ?_|refine Aj rfl ?_)
  (refine o_la rfl rfl ?_)
  refine AZ rfl rfl (taskConditions (ht0.ext hE4) (by omega) hm) ?_
  rintro v5 w5 ⟨hv5,hE5⟩
  refine AZ rfl rfl (containsFuncFacts (p:=fun f=>64 < f.length) (caps:=[]) hv5 (fun v x w' _ _ hx=>taskLarge1 hx)) ?_
  rintro v6 w6 ⟨rfl,hE6⟩
  (refine o_as rfl rfl ?_<;>(first|refine Ay ?_|refine Az ?_|refine Aw ?_|refine AA ?_))
  repeat (first|refine Ah ?_|refine Al ?_|refine Ae ?_|refine Am ?_|refine At ?_|refine Au ?_|refine Ar rfl ?_|refine Aj rfl ?_)
  refine ret1 rfl rfl ⟨?_,hE4.trans' (hE5.trans' hE6)⟩
  congr 1
  refine MI ⟨fun h=>.inr (.inr (.inr h)),fun h=>?_⟩
  rcases h with h|h|⟨i,o,ho,h⟩|h
  · omega
  · omega
  · have:=hm i o ho;omega
  · exact h
end
section
open Go Go.RowKit
attribute [local irreducible] ewp owp hwp hwq hws Ev Evg Fn retPost loud loudS Res1
def VarsOk (t:Tsk):Prop:=∀ (i:Nat) n,t.vars[i]?=some n→1≤n∧n≤64
def CostsOk (t:Tsk):Prop:=∀ (i:Nat) o,t.ops[i]?=some o→0≤o.cost∧o.cost≤1048576
def CondsOk (t:Tsk):Prop:=∀ (i:Nat) f,(conds t)[i]?=some f→FactsOk t.vars f
def EffsOk (t:Tsk):Prop:=∀ (i:Nat) o,t.ops[i]?=some o→∀ (j:Nat) e,o.effs[j]?=some e→FactOk t.vars ⟨e.var,e.val⟩
def NamesOk (t:Tsk):Prop:=∀ (i:Nat) o,t.ops[i]?=some o→NameOk o.name
noncomputable def checkN (t:Tsk):Int :=
  if bof (Large t)=true then 5 else if bof (VarsOk t∧CostsOk t)=false then 1 else if bof (StateOk t.vars t.init∧CondsOk t∧EffsOk t)=false then 2 else if bof (NamesOk t)=false then 8 else 0
theorem taskCheck {w:World} {tv:Value} {t:Tsk} (ht:V w tv t):Fn Try.prog 29 [tv] w fun v w'=>v=errV (checkN t)∧Ext w w':=by
  have ht0:=ht
  obtain ⟨cs,rfl,a,b,c,d,rfl,hvars,hinit,hgoal,hops⟩:=ht
  obtain ⟨Av,cv,rfl⟩:=hvars.form
  obtain ⟨Ai,ci,rfl⟩:=hinit.form
  obtain ⟨Ag,cg,rfl⟩:=hgoal.form
  obtain ⟨Ao,co,rfl⟩:=hops.form
  have hvl:=hvars.len
  have hol:=hops.len
  refine AL Try.func29 rfl Try.ntmps29 rfl ?_
  repeat (first|refine Ah ?_|refine Al ?_|refine Ae ?_|refine Am ?_|refine At ?_|refine Au ?_|refine Ar rfl ?_|refine Aj rfl ?_)
  refine CN rfl rfl fun w1 hN=>?_
  have hb1:=hN.blk
  have hE1:Ext w w1:=hN.ext
  (refine o_as rfl rfl ?_<;>(first|refine Ay ?_|refine Az ?_|refine Aw ?_|refine AA ?_))
  repeat (first|refine Ah ?_|refine Al ?_|refine Ae ?_|refine Am ?_|refine At ?_|refine Au ?_|refine Ar rfl ?_|refine Aj rfl ?_)
  (refine o_la rfl rfl ?_)
  refine Cq rfl rfl (taskLarge (ht0.ext hE1)) ?_ ?_
  case refine_1 =>
    intro w2 hP hE2
    ((first|refine Ay ?_|refine Az ?_|refine Aw ?_|refine AA ?_))
    repeat (first|refine Ah ?_|refine Al ?_|refine Ae ?_|refine Am ?_|refine At ?_|refine Au ?_|refine Ar rfl ?_|refine Aj rfl ?_)
    ((repeat (first|refine Ah ?_|refine Al ?_|refine Ae ?_|refine Am ?_|refine At ?_|refine Au ?_|refine Ar rfl ?_|refine Aj rfl ?_))<;>(refine o_mi rfl rfl ?_<;>refine o_as rfl rfl ?_<;>(first|refine Ay ?_|refine Az ?_|refine Aw ?_|refine AA ?_))<;>(repeat (first|refine Ah ?_|refine Al ?_|refine Ae ?_|refine Am ?_|refine At ?_|refine Au ?_|refine Ar rfl ?_|refine Aj rfl ?_)))
    refine ret1 rfl rfl ⟨?_,hE1.trans' hE2⟩
    rw [checkN,bof_t hP];rfl
  intro w2 hlarge hE2
  replace hb1:=hb1.ext hE2
  replace hE2:Ext w w2:=hE1.trans' hE2
  have hm:∀ (i:Nat) o,t.ops[i]?=some o→o.effs.length≤64:=fun i o ho=>Nat.le_of_not_lt fun h=>hlarge (.inr (.inr (.inl ⟨i,o,ho,h⟩)))
  have hn4:t.ops.length≤4096:=Nat.le_of_not_lt fun h=>hlarge (.inr (.inl h))
  have c1:checkN t=if bof (VarsOk t∧CostsOk t)=false then 1 else if bof (StateOk t.vars t.init∧CondsOk t∧EffsOk t)=false then 2 else if bof (NamesOk t)=false then 8 else 0:=by rw [checkN,bof_f hlarge];rfl
  ((first|refine Ay ?_|refine Az ?_|refine Aw ?_|refine AA ?_))
  repeat (first|refine Ah ?_|refine Al ?_|refine Ae ?_|refine Am ?_|refine At ?_|refine Au ?_|refine Ar rfl ?_|refine Aj rfl ?_)
  ((repeat (first|refine Ah ?_|refine Al ?_|refine Ae ?_|refine Am ?_|refine At ?_|refine Au ?_|refine Ar rfl ?_|refine Aj rfl ?_))<;>(refine o_fa rfl rfl ?_<;>refine o_ld rfl rfl ?_<;>refine o_ln rfl rfl ?_<;>refine o_mv rfl rfl ?_<;>(first|refine Ay ?_|refine Az ?_|refine Aw ?_|refine AA ?_))<;>(repeat (first|refine Ah ?_|refine Al ?_|refine Ae ?_|refine Am ?_|refine At ?_|refine Au ?_|refine Ar rfl ?_|refine Aj rfl ?_)))
  refine Bq t.vars.length (by omega) (fun _:Unit=>[(1,.pointer (some ⟨w.heap.size,0,none⟩)),(19,.slice Av t.vars.length cv)]) (fun k _ w'=>w'=w2∧∀ i,i < k→∀ n,t.vars[i]?=some n→1≤n∧n≤64) ()
    ⟨rfl,fun i hi=>by omega⟩ ⟨rfl,rfl,rfl,rfl,trivial⟩ (fun _=>⟨rfl,rfl⟩) ⟨rfl,rfl,rfl⟩ ⟨rfl,rfl⟩ ?_ ?_
  · rintro k _ _ hk ⟨rfl,hh⟩
    obtain ⟨n,hn⟩:=AH hk
    obtain ⟨b2,o2,ce,rfl,_,_,hd1,rfl,_⟩:=(hvars.ext hE2).elem hn
    ((repeat (first|refine Ah ?_|refine Al ?_|refine Ae ?_|refine Am ?_|refine At ?_|refine Au ?_|refine Ar rfl ?_|refine Aj rfl ?_))<;>(refine o_ia rfl rfl rfl ?_<;>refine o_ld rfl rfl ?_<;>refine o_as rfl rfl ?_<;>(first|refine Ay ?_|refine Az ?_|refine Aw ?_|refine AA ?_))<;>(repeat (first|refine Ah ?_|refine Al ?_|refine Ae ?_|refine Am ?_|refine At ?_|refine Au ?_|refine Ar rfl ?_|refine Aj rfl ?_))<;>(refine o_mv rfl rfl ?_<;>(first|refine o_ltT rfl rfl rfl ?_|refine o_ltF rfl rfl rfl ?_|refine o_ltS rfl rfl rfl (fun _=>?_) fun _=>?_)<;>refine o_mv rfl rfl ?_<;>(first|(refine AE rfl rfl ?_;refine o_mv rfl rfl ?_)|refine AD rfl rfl rfl rfl ?_)<;>(first|(refine AE rfl rfl ?_;(first|refine o_gtT rfl rfl rfl ?_|refine o_gtF rfl rfl rfl ?_|refine o_gtS rfl rfl rfl (fun _=>?_) fun _=>?_))|refine AD rfl rfl rfl rfl ?_)<;>(first|refine o_pt rfl rfl rfl ?_|refine o_pf rfl rfl rfl ?_)<;>(first|refine Ay ?_|refine Az ?_|refine Aw ?_|refine AA ?_))<;>(repeat (first|refine Ah ?_|refine Al ?_|refine Ae ?_|refine Am ?_|refine At ?_|refine Au ?_|refine Ar rfl ?_|refine Aj rfl ?_)))
    all_goals try (
      ((repeat (first|refine Ah ?_|refine Al ?_|refine Ae ?_|refine Am ?_|refine At ?_|refine Au ?_|refine Ar rfl ?_|refine Aj rfl ?_))<;>(refine o_mi rfl rfl ?_<;>refine o_as rfl rfl ?_<;>(first|refine Ay ?_|refine Az ?_|refine Aw ?_|refine AA ?_))<;>(repeat (first|refine Ah ?_|refine Al ?_|refine Ae ?_|refine Am ?_|refine At ?_|refine Au ?_|refine Ar rfl ?_|refine Aj rfl ?_)))
      refine ret1 rfl rfl ⟨?_,hE2⟩
      rw [c1,bof_f (fun h=>by have:=h.1 k n hn;omega)];rfl)
    exact ⟨(),⟨rfl,rfl,rfl,rfl,trivial⟩,rfl,Cl hh fun n' hn'=>by rw [hn] at hn';injection hn' with hn';omega⟩
  rintro _ _ ⟨rfl,hdom⟩
  replace hdom:VarsOk t:=fun i n hn=>hdom i (Bf hn) n hn
  repeat (first|refine Ah ?_|refine Al ?_|refine Ae ?_|refine Am ?_|refine At ?_|refine Au ?_|refine Ar rfl ?_|refine Aj rfl ?_)
  ((repeat (first|refine Ah ?_|refine Al ?_|refine Ae ?_|refine Am ?_|refine At ?_|refine Au ?_|refine Ar rfl ?_|refine Aj rfl ?_))<;>(refine o_fa rfl rfl ?_<;>refine o_ld rfl rfl ?_<;>refine o_ln rfl rfl ?_<;>refine o_mv rfl rfl ?_<;>(first|refine Ay ?_|refine Az ?_|refine Aw ?_|refine AA ?_))<;>(repeat (first|refine Ah ?_|refine Al ?_|refine Ae ?_|refine Am ?_|refine At ?_|refine Au ?_|refine Ar rfl ?_|refine Aj rfl ?_)))
  refine Bq t.ops.length (by omega) (fun _:Unit=>[(1,.pointer (some ⟨w.heap.size,0,none⟩)),(34,.slice Ao t.ops.length co)]) (fun k _ w'=>Ext w w'∧Blk w' w.heap.size 26 [.slice Av t.vars.length cv,.slice Ai t.init.length ci,.slice Ag t.goal.length cg,.slice Ao t.ops.length co]∧∀ i,i < k→∀ o,t.ops[i]?=some o→0≤o.cost∧o.cost≤1048576) ()
    ⟨hE2,hb1,fun i hi=>by omega⟩ ⟨rfl,rfl,rfl,rfl,trivial⟩ (fun _=>⟨rfl,rfl⟩) ⟨rfl,rfl,rfl⟩ ⟨rfl,rfl⟩ ?_ ?_
  · rintro k _ w4 hk ⟨hE4,hb1,hh⟩
    obtain ⟨o,ho⟩:=AH hk
    obtain ⟨b2,o2,ce,rfl,_,_,hd1,p,q,rfl,hp,hq,hc,hn⟩:=(hops.ext hE4).elem ho
    obtain ⟨Ap,cp,rfl⟩:=hp.form
    obtain ⟨Aq,cq,rfl⟩:=hq.form
    ((repeat (first|refine Ah ?_|refine Al ?_|refine Ae ?_|refine Am ?_|refine At ?_|refine Au ?_|refine Ar rfl ?_|refine Aj rfl ?_))<;>(refine o_ia rfl rfl rfl ?_<;>refine o_la rfl rfl ?_)<;>(repeat (first|refine Ah ?_|refine Al ?_|refine Ae ?_|refine Am ?_|refine At ?_|refine Au ?_|refine Ar rfl ?_|refine Aj rfl ?_)))
    refine BE rfl rfl rfl (by simp [Value.cells,Value.oneCell']) fun w5 hN5=>?_
    replace hb1:=hb1.ext hN5.ext
    have hb2:=hN5.blk
    have hE5:Ext w w5:=hE4.trans' hN5.ext
    ((first|refine Ay ?_|refine Az ?_|refine Aw ?_|refine AA ?_))
    repeat (first|refine Ah ?_|refine Al ?_|refine Ae ?_|refine Am ?_|refine At ?_|refine Au ?_|refine Ar rfl ?_|refine Aj rfl ?_)
    ((repeat (first|refine Ah ?_|refine Al ?_|refine Ae ?_|refine Am ?_|refine At ?_|refine Au ?_|refine Ar rfl ?_|refine Aj rfl ?_))<;>(refine o_fa rfl rfl ?_<;>refine o_ld rfl rfl ?_<;>(first|refine o_ltT rfl rfl rfl ?_|refine o_ltF rfl rfl rfl ?_|refine o_ltS rfl rfl rfl (fun _=>?_) fun _=>?_)<;>refine o_mv rfl rfl ?_<;>(first|(refine AE rfl rfl ?_;refine o_fa rfl rfl ?_)|refine AD rfl rfl rfl rfl ?_)<;>(first|(refine AE rfl rfl ?_;refine o_ld rfl rfl ?_)|refine AD rfl rfl rfl rfl ?_)<;>(first|(refine AE rfl rfl ?_;(first|refine o_gtT rfl rfl rfl ?_|refine o_gtF rfl rfl rfl ?_|refine o_gtS rfl rfl rfl (fun _=>?_) fun _=>?_))|refine AD rfl rfl rfl rfl ?_)<;>(first|refine o_pt rfl rfl rfl ?_|refine o_pf rfl rfl rfl ?_)<;>(first|refine Ay ?_|refine Az ?_|refine Aw ?_|refine AA ?_))<;>(repeat (first|refine Ah ?_|refine Al ?_|refine Ae ?_|refine Am ?_|refine At ?_|refine Au ?_|refine Ar rfl ?_|refine Aj rfl ?_)))
    all_goals try (
      ((repeat (first|refine Ah ?_|refine Al ?_|refine Ae ?_|refine Am ?_|refine At ?_|refine Au ?_|refine Ar rfl ?_|refine Aj rfl ?_))<;>(refine o_mi rfl rfl ?_<;>refine o_as rfl rfl ?_<;>(first|refine Ay ?_|refine Az ?_|refine Aw ?_|refine AA ?_))<;>(repeat (first|refine Ah ?_|refine Al ?_|refine Ae ?_|refine Am ?_|refine At ?_|refine Au ?_|refine Ar rfl ?_|refine Aj rfl ?_)))
      refine ret1 rfl rfl ⟨?_,hE5⟩
      rw [c1,bof_f (fun h=>by have:=h.2 k o ho;omega)];rfl)
    exact ⟨(),⟨rfl,rfl,rfl,rfl,trivial⟩,hE5,hb1,Cl hh fun o' ho'=>by rw [ho] at ho';injection ho' with ho';subst ho';omega⟩
  rintro _ w3 ⟨hE3,hb1,hcost⟩
  replace hcost:CostsOk t:=fun i o ho=>hcost i (Bf ho) o ho
  have c2:checkN t=if bof (StateOk t.vars t.init∧CondsOk t∧EffsOk t)=false then 2 else if bof (NamesOk t)=false then 8 else 0:=by rw [c1,bof_t ⟨hdom,hcost⟩];rfl
  repeat (first|refine Ah ?_|refine Al ?_|refine Ae ?_|refine Am ?_|refine At ?_|refine Au ?_|refine Ar rfl ?_|refine Aj rfl ?_)
  (refine o_fa rfl rfl ?_<;>refine o_ld rfl rfl ?_<;>refine o_fa rfl rfl ?_<;>refine o_ld rfl rfl ?_)
  refine Cq rfl rfl (taskProper (hvars.ext hE3) (hinit.ext hE3)) ?_ ?_
  case refine_2 =>
    intro w4 hP hE4
    ((first|refine o_nt rfl rfl ?_|refine o_nf rfl rfl ?_|refine o_nn rfl rfl ?_)<;>(first|refine Ay ?_|refine Az ?_|refine Aw ?_|refine AA ?_))
    repeat (first|refine Ah ?_|refine Al ?_|refine Ae ?_|refine Am ?_|refine At ?_|refine Au ?_|refine Ar rfl ?_|refine Aj rfl ?_)
    ((repeat (first|refine Ah ?_|refine Al ?_|refine Ae ?_|refine Am ?_|refine At ?_|refine Au ?_|refine Ar rfl ?_|refine Aj rfl ?_))<;>(refine o_mi rfl rfl ?_<;>refine o_as rfl rfl ?_<;>(first|refine Ay ?_|refine Az ?_|refine Aw ?_|refine AA ?_))<;>(repeat (first|refine Ah ?_|refine Al ?_|refine Ae ?_|refine Am ?_|refine At ?_|refine Au ?_|refine Ar rfl ?_|refine Aj rfl ?_)))
    refine ret1 rfl rfl ⟨?_,hE3.trans' hE4⟩
    rw [c2,bof_f (fun h=>hP h.1)];rfl
  intro w4 hst hE4
  replace hb1:=hb1.ext hE4
  replace hE4:Ext w w4:=hE3.trans' hE4
  ((first|refine o_nt rfl rfl ?_|refine o_nf rfl rfl ?_|refine o_nn rfl rfl ?_)<;>(first|refine Ay ?_|refine Az ?_|refine Aw ?_|refine AA ?_))
  repeat (first|refine Ah ?_|refine Al ?_|refine Ae ?_|refine Am ?_|refine At ?_|refine Au ?_|refine Ar rfl ?_|refine Aj rfl ?_)
  (refine o_la rfl rfl ?_)
  refine AZ rfl rfl (taskConditions (ht0.ext hE4) hn4 hm) ?_
  rintro v5 w5 ⟨hv5,hE5⟩
  obtain ⟨Ac,cc,rfl⟩:=hv5.form
  have hcl:=hv5.len
  replace hb1:=hb1.ext hE5
  replace hE5:Ext w w5:=hE4.trans' hE5
  (refine o_ln rfl rfl ?_<;>refine o_mv rfl rfl ?_<;>(first|refine Ay ?_|refine Az ?_|refine Aw ?_|refine AA ?_))
  repeat (first|refine Ah ?_|refine Al ?_|refine Ae ?_|refine Am ?_|refine At ?_|refine Au ?_|refine Ar rfl ?_|refine Aj rfl ?_)
  refine Bq (conds t).length (by omega) (fun _:Unit=>[(1,.pointer (some ⟨w.heap.size,0,none⟩)),(58,.slice Ac (conds t).length cc)]) (fun k _ w'=>Ext w5 w'∧∀ i,i < k→∀ f,(conds t)[i]?=some f→FactsOk t.vars f) ()
    ⟨Below.refl _ _,fun i hi=>by omega⟩ ⟨rfl,rfl,rfl,rfl,trivial⟩ (fun _=>⟨rfl,rfl⟩) ⟨rfl,rfl,rfl⟩ ⟨rfl,rfl⟩ ?_ ?_
  · rintro k _ w6 hk ⟨hE6,hh⟩
    obtain ⟨f,hf⟩:=AH hk
    have hb1:=hb1.ext hE6
    obtain ⟨b2,o2,ce,rfl,_,_,hd1,v,rfl,hR⟩:=(hv5.ext hE6).elem hf
    ((repeat (first|refine Ah ?_|refine Al ?_|refine Ae ?_|refine Am ?_|refine At ?_|refine Au ?_|refine Ar rfl ?_|refine Aj rfl ?_))<;>(refine o_ia rfl rfl rfl ?_<;>refine o_ld rfl rfl ?_<;>refine o_as rfl rfl ?_<;>(first|refine Ay ?_|refine Az ?_|refine Aw ?_|refine AA ?_))<;>(repeat (first|refine Ah ?_|refine Al ?_|refine Ae ?_|refine Am ?_|refine At ?_|refine Au ?_|refine Ar rfl ?_|refine Aj rfl ?_))<;>(refine o_fa rfl rfl ?_<;>refine o_ld rfl rfl ?_<;>refine o_mv rfl rfl ?_)<;>(repeat (first|refine Ah ?_|refine Al ?_|refine Ae ?_|refine Am ?_|refine At ?_|refine Au ?_|refine Ar rfl ?_|refine Aj rfl ?_)))
    refine Cq rfl rfl (taskFacts (hvars.ext (hE5.trans' hE6)) (Vb.of_slice hR)) ?_ ?_
    · intro w7 hP hE7
      ((first|refine o_nt rfl rfl ?_|refine o_nf rfl rfl ?_|refine o_nn rfl rfl ?_)<;>(first|refine Ay ?_|refine Az ?_|refine Aw ?_|refine AA ?_))
      repeat (first|refine Ah ?_|refine Al ?_|refine Ae ?_|refine Am ?_|refine At ?_|refine Au ?_|refine Ar rfl ?_|refine Aj rfl ?_)
      exact ⟨(),⟨rfl,rfl,rfl,rfl,trivial⟩,hE6.trans' hE7,Cl hh fun f' hf'=>by rw [hf] at hf';injection hf' with hf';exact hf' ▸ hP⟩
    · intro w7 hP hE7
      ((first|refine o_nt rfl rfl ?_|refine o_nf rfl rfl ?_|refine o_nn rfl rfl ?_)<;>(first|refine Ay ?_|refine Az ?_|refine Aw ?_|refine AA ?_))
      repeat (first|refine Ah ?_|refine Al ?_|refine Ae ?_|refine Am ?_|refine At ?_|refine Au ?_|refine Ar rfl ?_|refine Aj rfl ?_)
      ((repeat (first|refine Ah ?_|refine Al ?_|refine Ae ?_|refine Am ?_|refine At ?_|refine Au ?_|refine Ar rfl ?_|refine Aj rfl ?_))<;>(refine o_mi rfl rfl ?_<;>refine o_as rfl rfl ?_<;>(first|refine Ay ?_|refine Az ?_|refine Aw ?_|refine AA ?_))<;>(repeat (first|refine Ah ?_|refine Al ?_|refine Ae ?_|refine Am ?_|refine At ?_|refine Au ?_|refine Ar rfl ?_|refine Aj rfl ?_)))
      refine ret1 rfl rfl ⟨?_,hE5.trans' (hE6.trans' hE7)⟩
      rw [c2,bof_f (fun h=>hP (h.2.1 k f hf))];rfl
  rintro _ w6 ⟨hE6,hcond⟩
  replace hcond:CondsOk t:=fun i f hf=>hcond i (Bf hf) f hf
  replace hb1:=hb1.ext hE6
  replace hE6:Ext w w6:=hE5.trans' hE6
  repeat (first|refine Ah ?_|refine Al ?_|refine Ae ?_|refine Am ?_|refine At ?_|refine Au ?_|refine Ar rfl ?_|refine Aj rfl ?_)
  ((repeat (first|refine Ah ?_|refine Al ?_|refine Ae ?_|refine Am ?_|refine At ?_|refine Au ?_|refine Ar rfl ?_|refine Aj rfl ?_))<;>(refine o_fa rfl rfl ?_<;>refine o_ld rfl rfl ?_<;>refine o_ln rfl rfl ?_<;>refine o_mv rfl rfl ?_<;>(first|refine Ay ?_|refine Az ?_|refine Aw ?_|refine AA ?_))<;>(repeat (first|refine Ah ?_|refine Al ?_|refine Ae ?_|refine Am ?_|refine At ?_|refine Au ?_|refine Ar rfl ?_|refine Aj rfl ?_)))
  refine Bq t.ops.length (by omega) (fun _:Unit=>[(1,.pointer (some ⟨w.heap.size,0,none⟩)),(72,.slice Ao t.ops.length co)]) (fun k _ w'=>Ext w6 w'∧∀ i,i < k→∀ o,t.ops[i]?=some o→∀ (j:Nat) e,o.effs[j]?=some e→FactOk t.vars ⟨e.var,e.val⟩) ()
    ⟨Below.refl _ _,fun i hi=>by omega⟩ ⟨rfl,rfl,rfl,rfl,trivial⟩ (fun _=>⟨rfl,rfl⟩) ⟨rfl,rfl,rfl⟩ ⟨rfl,rfl⟩ ?_ ?_
  · rintro k _ w7 hk ⟨hE7,hh⟩
    obtain ⟨o,ho⟩:=AH hk
    have hb1:=hb1.ext hE7
    obtain ⟨b2,o2,ce,rfl,_,_,hd1,p,q,rfl,hp,hq,hc,hn⟩:=(hops.ext (hE6.trans' hE7)).elem ho
    obtain ⟨Ap,cp,rfl⟩:=hp.form
    obtain ⟨Aq,cq,rfl⟩:=hq.form
    have hql:=hq.len
    ((repeat (first|refine Ah ?_|refine Al ?_|refine Ae ?_|refine Am ?_|refine At ?_|refine Au ?_|refine Ar rfl ?_|refine Aj rfl ?_))<;>(refine o_ia rfl rfl rfl ?_<;>refine o_la rfl rfl ?_)<;>(repeat (first|refine Ah ?_|refine Al ?_|refine Ae ?_|refine Am ?_|refine At ?_|refine Au ?_|refine Ar rfl ?_|refine Aj rfl ?_)))
    refine BE rfl rfl rfl (by simp [Value.cells,Value.oneCell']) fun w8 hN8=>?_
    replace hb1:=hb1.ext hN8.ext
    have hb2:=hN8.blk
    have hE8:Ext w6 w8:=hE7.trans' hN8.ext
    replace hq:=hq.ext hN8.ext
    ((first|refine Ay ?_|refine Az ?_|refine Aw ?_|refine AA ?_))
    repeat (first|refine Ah ?_|refine Al ?_|refine Ae ?_|refine Am ?_|refine At ?_|refine Au ?_|refine Ar rfl ?_|refine Aj rfl ?_)
    ((repeat (first|refine Ah ?_|refine Al ?_|refine Ae ?_|refine Am ?_|refine At ?_|refine Au ?_|refine Ar rfl ?_|refine Aj rfl ?_))<;>(refine o_fa rfl rfl ?_<;>refine o_ld rfl rfl ?_<;>refine o_ln rfl rfl ?_<;>refine o_mv rfl rfl ?_<;>(first|refine Ay ?_|refine Az ?_|refine Aw ?_|refine AA ?_))<;>(repeat (first|refine Ah ?_|refine Al ?_|refine Ae ?_|refine Am ?_|refine At ?_|refine Au ?_|refine Ar rfl ?_|refine Aj rfl ?_)))
    refine Bq o.effs.length (by omega) (fun _:Unit=>[(1,.pointer (some ⟨w.heap.size,0,none⟩)),(72,.slice (some ⟨b2,o2,none⟩) t.ops.length co),(73,.int .i64 (t.ops.length:Int)),(74,.int .i64 (k:Int)),(79,.slice Aq o.effs.length cq)]) (fun j _ w'=>Ext w8 w'∧∀ i,i < j→∀ e,o.effs[i]?=some e→FactOk t.vars ⟨e.var,e.val⟩) ()
      ⟨Below.refl _ _,fun i hi=>by omega⟩ ⟨rfl,rfl,rfl,rfl,rfl,rfl,rfl,trivial⟩ (fun _=>⟨rfl,rfl⟩) ⟨rfl,rfl,rfl⟩ ⟨rfl,rfl⟩ ?_ ?_
    · rintro j _ w9 hj ⟨hE9,hh9⟩
      obtain ⟨e,he⟩:=AH hj
      have hb1:=hb1.ext hE9
      obtain ⟨b3,o3,ce,rfl,_,_,hd1,cv',rfl,hcn,hr1,hr2⟩:=(hq.ext hE9).elem he
      obtain ⟨Acn,ccn,rfl⟩:=hcn.form
      ((repeat (first|refine Ah ?_|refine Al ?_|refine Ae ?_|refine Am ?_|refine At ?_|refine Au ?_|refine Ar rfl ?_|refine Aj rfl ?_))<;>(refine o_ia rfl rfl rfl ?_<;>refine o_la rfl rfl ?_)<;>(repeat (first|refine Ah ?_|refine Al ?_|refine Ae ?_|refine Am ?_|refine At ?_|refine Au ?_|refine Ar rfl ?_|refine Aj rfl ?_)))
      refine BE rfl rfl rfl (by simp [Value.cells,Value.oneCell']) fun w10 hN10=>?_
      have hb3:=hN10.blk
      replace hb1:=hb1.ext hN10.ext
      have hE10:Ext w w10:=hE6.trans' (hE8.trans' (hE9.trans' hN10.ext))
      ((first|refine Ay ?_|refine Az ?_|refine Aw ?_|refine AA ?_))
      repeat (first|refine Ah ?_|refine Al ?_|refine Ae ?_|refine Am ?_|refine At ?_|refine Au ?_|refine Ar rfl ?_|refine Aj rfl ?_)
      (refine o_fa rfl rfl ?_<;>refine o_ld rfl rfl ?_<;>refine o_fa rfl rfl ?_<;>refine o_ld rfl rfl ?_<;>refine o_fa rfl rfl ?_<;>refine o_ld rfl rfl ?_<;>refine o_bd rfl rfl rfl ?_)
      refine CV rfl rfl rfl (by simp [Value.cells];rfl) (by decide) rfl fun w11 hN11=>?_
      have hE11:Ext w w11:=hE10.trans' hN11.ext
      have hone:V w11 (.slice (some ⟨w10.heap.size,0,none⟩) 1 1) [(⟨e.var,e.val⟩:Fct)]:=Vb.made hN11 (.single ⟨rfl,hr1,hr2⟩) rfl hN11.blk.lt (by decide)
      refine Cq rfl rfl (taskFacts (hvars.ext hE11) hone) ?_ ?_
      · intro w12 hP hE12
        ((first|refine o_nt rfl rfl ?_|refine o_nf rfl rfl ?_|refine o_nn rfl rfl ?_)<;>(first|refine Ay ?_|refine Az ?_|refine Aw ?_|refine AA ?_))
        repeat (first|refine Ah ?_|refine Al ?_|refine Ae ?_|refine Am ?_|refine At ?_|refine Au ?_|refine Ar rfl ?_|refine Aj rfl ?_)
        exact ⟨(),⟨rfl,rfl,rfl,rfl,rfl,rfl,rfl,trivial⟩,hE9.trans' (hN10.ext.trans' (hN11.ext.trans' hE12)),Cl hh9 fun e' he'=>by rw [he] at he';injection he' with he';subst he';exact EV.1 hP⟩
      · intro w12 hP hE12
        ((first|refine o_nt rfl rfl ?_|refine o_nf rfl rfl ?_|refine o_nn rfl rfl ?_)<;>(first|refine Ay ?_|refine Az ?_|refine Aw ?_|refine AA ?_))
        repeat (first|refine Ah ?_|refine Al ?_|refine Ae ?_|refine Am ?_|refine At ?_|refine Au ?_|refine Ar rfl ?_|refine Aj rfl ?_)
        ((repeat (first|refine Ah ?_|refine Al ?_|refine Ae ?_|refine Am ?_|refine At ?_|refine Au ?_|refine Ar rfl ?_|refine Aj rfl ?_))<;>(refine o_mi rfl rfl ?_<;>refine o_as rfl rfl ?_<;>(first|refine Ay ?_|refine Az ?_|refine Aw ?_|refine AA ?_))<;>(repeat (first|refine Ah ?_|refine Al ?_|refine Ae ?_|refine Am ?_|refine At ?_|refine Au ?_|refine Ar rfl ?_|refine Aj rfl ?_)))
        refine ret1 rfl rfl ⟨?_,hE11.trans' hE12⟩
        rw [c2,bof_f (fun h=>hP (EV.2 (h.2.2 k o ho j e he)))];rfl
    rintro _ w9 ⟨hE9,hh9⟩
    repeat (first|refine Ah ?_|refine Al ?_|refine Ae ?_|refine Am ?_|refine At ?_|refine Au ?_|refine Ar rfl ?_|refine Aj rfl ?_)
    exact ⟨(),⟨rfl,rfl,rfl,rfl,trivial⟩,hE8.trans' hE9,Cl hh fun o' ho' j e he=>by rw [ho] at ho';injection ho' with ho';subst ho';exact hh9 j (Bf he) e he⟩
  rintro _ w7 ⟨hE7,heff⟩
  replace heff:EffsOk t:=fun i o ho=>heff i (Bf ho) o ho
  have c3:checkN t=if bof (NamesOk t)=false then 8 else 0:=by rw [c2,bof_t ⟨hst,hcond,heff⟩];rfl
  replace hb1:=hb1.ext hE7
  replace hE7:Ext w w7:=hE6.trans' hE7
  repeat (first|refine Ah ?_|refine Al ?_|refine Ae ?_|refine Am ?_|refine At ?_|refine Au ?_|refine Ar rfl ?_|refine Aj rfl ?_)
  ((repeat (first|refine Ah ?_|refine Al ?_|refine Ae ?_|refine Am ?_|refine At ?_|refine Au ?_|refine Ar rfl ?_|refine Aj rfl ?_))<;>(refine o_fa rfl rfl ?_<;>refine o_ld rfl rfl ?_<;>refine o_ln rfl rfl ?_<;>refine o_mv rfl rfl ?_<;>(first|refine Ay ?_|refine Az ?_|refine Aw ?_|refine AA ?_))<;>(repeat (first|refine Ah ?_|refine Al ?_|refine Ae ?_|refine Am ?_|refine At ?_|refine Au ?_|refine Ar rfl ?_|refine Aj rfl ?_)))
  refine Bq t.ops.length (by omega) (fun _:Unit=>[(1,.pointer (some ⟨w.heap.size,0,none⟩)),(99,.slice Ao t.ops.length co)]) (fun k _ w'=>Ext w w'∧∀ i,i < k→∀ o,t.ops[i]?=some o→NameOk o.name) ()
    ⟨hE7,fun i hi=>by omega⟩ ⟨rfl,rfl,rfl,rfl,trivial⟩ (fun _=>⟨rfl,rfl⟩) ⟨rfl,rfl,rfl⟩ ⟨rfl,rfl⟩ ?_ ?_
  · rintro k _ w8 hk ⟨hE8,hh⟩
    obtain ⟨o,ho⟩:=AH hk
    obtain ⟨b2,o2,ce,rfl,_,_,hd1,p,q,rfl,hp,hq,hc,hn⟩:=(hops.ext hE8).elem ho
    obtain ⟨Ap,cp,rfl⟩:=hp.form
    obtain ⟨Aq,cq,rfl⟩:=hq.form
    ((repeat (first|refine Ah ?_|refine Al ?_|refine Ae ?_|refine Am ?_|refine At ?_|refine Au ?_|refine Ar rfl ?_|refine Aj rfl ?_))<;>(refine o_ia rfl rfl rfl ?_<;>refine o_la rfl rfl ?_)<;>(repeat (first|refine Ah ?_|refine Al ?_|refine Ae ?_|refine Am ?_|refine At ?_|refine Au ?_|refine Ar rfl ?_|refine Aj rfl ?_)))
    refine BE rfl rfl rfl (by simp [Value.cells,Value.oneCell']) fun w9 hN9=>?_
    have hb2:=hN9.blk
    have hE9:Ext w w9:=hE8.trans' hN9.ext
    ((first|refine Ay ?_|refine Az ?_|refine Aw ?_|refine AA ?_))
    repeat (first|refine Ah ?_|refine Al ?_|refine Ae ?_|refine Am ?_|refine At ?_|refine Au ?_|refine Ar rfl ?_|refine Aj rfl ?_)
    (refine o_fa rfl rfl ?_<;>refine o_ld rfl rfl ?_)
    refine Cq rfl rfl (taskNamed hn) ?_ ?_
    · intro w10 hP hE10
      ((first|refine o_nt rfl rfl ?_|refine o_nf rfl rfl ?_|refine o_nn rfl rfl ?_)<;>(first|refine Ay ?_|refine Az ?_|refine Aw ?_|refine AA ?_))
      repeat (first|refine Ah ?_|refine Al ?_|refine Ae ?_|refine Am ?_|refine At ?_|refine Au ?_|refine Ar rfl ?_|refine Aj rfl ?_)
      exact ⟨(),⟨rfl,rfl,rfl,rfl,trivial⟩,hE9.trans' hE10,Cl hh fun o' ho'=>by rw [ho] at ho';injection ho' with ho';exact ho' ▸ hP⟩
    · intro w10 hP hE10
      ((first|refine o_nt rfl rfl ?_|refine o_nf rfl rfl ?_|refine o_nn rfl rfl ?_)<;>(first|refine Ay ?_|refine Az ?_|refine Aw ?_|refine AA ?_))
      repeat (first|refine Ah ?_|refine Al ?_|refine Ae ?_|refine Am ?_|refine At ?_|refine Au ?_|refine Ar rfl ?_|refine Aj rfl ?_)
      ((repeat (first|refine Ah ?_|refine Al ?_|refine Ae ?_|refine Am ?_|refine At ?_|refine Au ?_|refine Ar rfl ?_|refine Aj rfl ?_))<;>(refine o_mi rfl rfl ?_<;>refine o_as rfl rfl ?_<;>(first|refine Ay ?_|refine Az ?_|refine Aw ?_|refine AA ?_))<;>(repeat (first|refine Ah ?_|refine Al ?_|refine Ae ?_|refine Am ?_|refine At ?_|refine Au ?_|refine Ar rfl ?_|refine Aj rfl ?_)))
      refine ret1 rfl rfl ⟨?_,hE9.trans' hE10⟩
      rw [c3,bof_f (fun h=>hP (h k o ho))];rfl
  rintro _ w8 ⟨hE8,hnames⟩
  repeat (first|refine Ah ?_|refine Al ?_|refine Ae ?_|refine Am ?_|refine At ?_|refine Au ?_|refine Ar rfl ?_|refine Aj rfl ?_)
  ((repeat (first|refine Ah ?_|refine Al ?_|refine Ae ?_|refine Am ?_|refine At ?_|refine Au ?_|refine Ar rfl ?_|refine Aj rfl ?_))<;>(refine o_as rfl rfl ?_<;>(first|refine Ay ?_|refine Az ?_|refine Aw ?_|refine AA ?_))<;>(repeat (first|refine Ah ?_|refine Al ?_|refine Ae ?_|refine Am ?_|refine At ?_|refine Au ?_|refine Ar rfl ?_|refine Aj rfl ?_)))
  refine ret1 rfl rfl ⟨?_,hE8⟩
  rw [c3,bof_t (show NamesOk t from fun i o ho=>hnames i (Bf ho) o ho)];rfl
end
section
theorem HG {p:Prop}:bof p=true↔p:=⟨fun h=>Classical.byContradiction fun hn=>(by rw [bof_f hn] at h;exact Bool.noConfusion h),bof_t⟩
theorem Dx {p:Prop}:bof p=false↔¬ p:=by
  rw [← Bool.not_eq_true,HG]
theorem GB {vars:List Int} {f:List Fct} (h:FactsOk vars f):∀ (j i:Nat) (x y:Fct),i < j→f[i]?=some x→f[j]?=some y→x.var < y.var
  | 0,i,_,_,hij,_,_=>by omega
  | j + 1,i,x,y,hij,hx,hy=>by
    by_cases he:i=j
    · subst he;exact h.2 i x y hx hy
    · obtain ⟨z,hz⟩:=AH (l:=f) (k:=j) (by have:=Bf hy;omega)
      have h1:=GB h j i x z (by omega) hx hz
      have h2:=h.2 j z y hz hy
      omega
theorem Iw {vars:List Int} {f:List Fct} (h:FactsOk vars f):∀ (i:Nat) (x:Fct),f[i]?=some x→(i:Int)≤x.var
  | 0,x,hx=>(h.1 0 x hx).1
  | i + 1,x,hx=>by
    obtain ⟨z,hz⟩:=AH (l:=f) (k:=i) (by have:=Bf hx;omega)
    have h1:=Iw h i z hz
    have h2:=h.2 i z x hz hx
    omega
theorem EW {vars:List Int} {f:List Fct} (h:FactsOk vars f):f.length≤vars.length:=by
  rcases Nat.eq_zero_or_pos f.length with h0|h0
  · omega
  · obtain ⟨x,hx⟩:=AH (l:=f) (k:=f.length - 1) (by omega)
    have h1:=Iw h _ x hx
    obtain ⟨h2,h3,y,hy,_⟩:=h.1 _ x hx
    have:=Bf hy
    omega
theorem FQ {t:Tsk} {f:List Fct}:f∈conds t↔f=t.goal∨∃ (i:Nat) (o:Opr),t.ops[i]?=some o∧(f=o.pre∨∃ (j:Nat) (e:Eff),o.effs[j]?=some e∧f=e.cond):=by
  unfold conds opConds
  rw [List.mem_cons,List.mem_flatMap]
  constructor
  · rintro (h|⟨o,ho,hf⟩)
    · exact .inl h
    · obtain ⟨i,hi⟩:=List.getElem?_of_mem ho
      refine .inr ⟨i,o,hi,?_⟩
      rcases List.mem_cons.1 hf with h|h
      · exact .inl h
      · obtain ⟨e,he,rfl⟩:=List.mem_map.1 h
        obtain ⟨j,hj⟩:=List.getElem?_of_mem he
        exact .inr ⟨j,e,hj,rfl⟩
  · rintro (h|⟨i,o,ho,h⟩)
    · exact .inl h
    · refine .inr ⟨o,List.mem_of_getElem? ho,?_⟩
      rcases h with rfl|⟨j,e,he,rfl⟩
      · exact List.mem_cons_self
      · exact List.mem_cons_of_mem _ (List.mem_map.2 ⟨e,List.mem_of_getElem? he,rfl⟩)
theorem GC {t:Tsk}:checkN t=0↔TaskOk t:=by
  unfold checkN
  constructor
  · intro h
    by_cases h1:Large t
    · rw [if_pos (HG.2 h1)] at h;cases h
    rw [if_neg (fun hh=>h1 (HG.1 hh))] at h
    by_cases h2:VarsOk t∧CostsOk t
    case neg=>rw [if_pos (Dx.2 h2)] at h;cases h
    rw [if_neg (fun hh=>Dx.1 hh h2)] at h
    by_cases h3:StateOk t.vars t.init∧CondsOk t∧EffsOk t
    case neg=>rw [if_pos (Dx.2 h3)] at h;cases h
    rw [if_neg (fun hh=>Dx.1 hh h3)] at h
    by_cases h4:NamesOk t
    case neg=>rw [if_pos (Dx.2 h4)] at h;cases h
    have hc:∀ f∈conds t,FactsOk t.vars f:=fun f hf=>by
      obtain ⟨i,hi⟩:=List.getElem?_of_mem hf
      exact h3.2.1 i f hi
    have hl:t.vars.length≤64∧t.ops.length≤4096∧(∀ (i:Nat) (o:Opr),t.ops[i]?=some o→o.effs.length≤64):=by
      unfold Large at h1
      refine ⟨Nat.le_of_not_lt fun h=>h1 (.inl h),Nat.le_of_not_lt fun h=>h1 (.inr (.inl h)),fun i o ho=>Nat.le_of_not_lt fun h=>h1 (.inr (.inr (.inl ⟨i,o,ho,h⟩)))⟩
    exact ⟨hl.1,hl.2.1,h2.1,h3.1,hc _ (FQ.2 (.inl rfl)),fun i o ho=>⟨(h2.2 i o ho).1,(h2.2 i o ho).2,hl.2.2 i o ho,h4 i o ho,hc _ (FQ.2 (.inr ⟨i,o,ho,.inl rfl⟩)),fun j e he=>⟨hc _ (FQ.2 (.inr ⟨i,o,ho,.inr ⟨j,e,he,rfl⟩⟩)),h3.2.2 i o ho j e he⟩⟩⟩
  · rintro ⟨h1,h2,h3,h4,h5,h6⟩
    have hc:∀ f∈conds t,FactsOk t.vars f:=fun f hf=>by
      rcases FQ.1 hf with rfl|⟨i,o,ho,rfl|⟨j,e,he,rfl⟩⟩
      · exact h5
      · exact (h6 i o ho).2.2.2.2.1
      · exact ((h6 i o ho).2.2.2.2.2 j e he).1
    have hL:¬ Large t:=by
      rintro (h|h|⟨i,o,ho,h⟩|⟨f,hf,h⟩)
      · omega
      · omega
      · have:=(h6 i o ho).2.2.1;omega
      · have:=EW (hc f hf);omega
    have hV:VarsOk t∧CostsOk t:=⟨h3,fun i o ho=>⟨(h6 i o ho).1,(h6 i o ho).2.1⟩⟩
    have hS:StateOk t.vars t.init∧CondsOk t∧EffsOk t:=⟨h4,fun i f hf=>hc f (List.mem_of_getElem? hf),fun i o ho j e he=>((h6 i o ho).2.2.2.2.2 j e he).2⟩
    have hN:NamesOk t:=fun i o ho=>(h6 i o ho).2.2.2.1
    rw [if_neg (fun hh=>hL (HG.1 hh)),if_neg (fun hh=>Dx.1 hh hV),if_neg (fun hh=>Dx.1 hh hS),if_neg (fun hh=>Dx.1 hh hN)]
theorem TaskOk.vars {t:Tsk} (h:TaskOk t):VarsOk t:=h.2.2.1
end
section
open Go Go.RowKit
attribute [local irreducible] ewp owp hwp hwq hws Ev Evg Fn retPost loud loudS Res1
section
variable {w : World} {A : Nat → Prop} (hA : ∀ k, A k → k < w.heap.size) {v0 v1 : Value}
include hA
omit hA in
def Cu (f:List Fct) (s:List Int):Option Bool:=some (holdsB f s)
theorem EH {x0:List Fct} (h0:Vb w A v0 x0) {x1:List Int} (h1:Vb w A v1 x1) {r:Bool} (hm:Cu x0 x1=some r):Fn Try.prog 43 [v0,v1] w fun v w'=>Ext w w'∧Vb w' (upA A w w') v r:=by
  obtain rfl:=sm hm
  refine (baseHolds (h0.mono hA) (h1.mono hA)).mono fun v w' h=>⟨h.2,?_⟩
  rw [h.1,bof_b];exact vBool
omit hA in
def Cy (f:List Fct) (s:List Int):Option Bool:=some (holdsB f s)
theorem FB {x0:List Fct} (h0:Vb w A v0 x0) {x1:List Int} (h1:Vb w A v1 x1) {r:Bool} (hm:Cy x0 x1=some r):Fn Try.prog 37 [v0,v1] w fun v w'=>Ext w w'∧Vb w' (upA A w w') v r:=by
  obtain rfl:=sm hm
  refine (taskHolds (h0.mono hA) (h1.mono hA)).mono fun v w' h=>⟨h.2,?_⟩
  rw [h.1,bof_b];exact vBool
omit hA in
noncomputable def EX (x:List Int) (y:List Int):Option Bool:=some (bof (x=y))
theorem JV {x0:List Int} (h0:Vb w A v0 x0) {x1:List Int} (h1:Vb w A v1 x1) {r:Bool} (hm:EX x0 x1=some r):Fn Try.prog 33 [v0,v1] w fun v w'=>Ext w w'∧Vb w' (upA A w w') v r:=by
  obtain rfl:=sm hm
  refine (baseInts (h0.mono hA) (h1.mono hA)).mono fun v w' h=>⟨h.2,?_⟩
  rw [h.1];exact vBool
omit hA in
noncomputable def FC (t:Tsk):Option Bool:=some (bof (SmallOk t))
theorem JB {x0:Tsk} (h0:Vb w A v0 x0) {r:Bool} (hm:FC x0=some r):Fn Try.prog 11 [v0] w fun v w'=>Ext w w'∧Vb w' (upA A w w') v r:=by
  obtain rfl:=sm hm
  refine (baseSmall (h0.mono hA)).mono fun v w' h=>⟨h.2,?_⟩
  rw [h.1];exact vBool
end
theorem KE (t:Tsk):inI64 (checkN t):=by unfold checkN;(repeat' split)<;>decide
def Cp (xs:List Int):Option (List Int):=if xs.length * 8≤140737488355328∧xs.length≤9223372036854775807 then some xs else none
theorem FK {w:World} {A:Nat→Prop} (hA:∀ k,A k→k < w.heap.size) {v0:Value} {x0:List Int} (h0:Vb w A v0 x0) {r:List Int} (hm:Cp x0=some r) :
    Fn Try.prog 65 [v0] w fun v w'=>Ext w w'∧RowR w w' (upA A w w') 3 v r:=by
  obtain ⟨⟨hl,hl2⟩,rfl⟩:=Fz hm
  obtain ⟨O,hB,hA0⟩:=enter hA
  replace h0:=h0.mono hA0
  obtain ⟨Ad,c,rfl⟩:=h0.form
  refine AL Try.func65 rfl Try.ntmps65 rfl ?_
  cases Ad with
  | none =>
    have hx:x0=[]:=by
      cases x0 with
      | nil=>rfl
      | cons x xs=>obtain ⟨_,_,_,h,_⟩:=h0.elem (k:=0) (x:=x) rfl;cases h
    subst hx
    ((repeat (first|refine Ah ?_|refine Al ?_|refine Ae ?_|refine Am ?_|refine At ?_|refine Au ?_|refine Ar rfl ?_|refine Aj rfl ?_))<;>(refine o_as rfl rfl ?_<;>(first|refine Ay ?_|refine Az ?_|refine Aw ?_|refine AA ?_))<;>(repeat (first|refine Ah ?_|refine Al ?_|refine Ae ?_|refine Am ?_|refine At ?_|refine Au ?_|refine Ar rfl ?_|refine Aj rfl ?_))<;>(refine o_mv rfl rfl ?_<;>refine o_sn rfl rfl ?_<;>(first|refine Ay ?_|refine Az ?_|refine Aw ?_|refine AA ?_))<;>(repeat (first|refine Ah ?_|refine Al ?_|refine Ae ?_|refine Am ?_|refine At ?_|refine Au ?_|refine Ar rfl ?_|refine Aj rfl ?_))<;>(refine o_as rfl rfl ?_<;>(first|refine Ay ?_|refine Az ?_|refine Aw ?_|refine AA ?_))<;>(repeat (first|refine Ah ?_|refine Al ?_|refine Ae ?_|refine Am ?_|refine At ?_|refine Au ?_|refine Ar rfl ?_|refine Aj rfl ?_)))
    exact ret1 rfl rfl ⟨Below.refl _ _,RowR.nil⟩
  | some ad =>
    ((repeat (first|refine Ah ?_|refine Al ?_|refine Ae ?_|refine Am ?_|refine At ?_|refine Au ?_|refine Ar rfl ?_|refine Aj rfl ?_))<;>(refine o_as rfl rfl ?_<;>(first|refine Ay ?_|refine Az ?_|refine Aw ?_|refine AA ?_))<;>(repeat (first|refine Ah ?_|refine Al ?_|refine Ae ?_|refine Am ?_|refine At ?_|refine Au ?_|refine Ar rfl ?_|refine Aj rfl ?_))<;>(refine o_mv rfl rfl ?_<;>refine o_sn rfl rfl ?_<;>(first|refine Ay ?_|refine Az ?_|refine Aw ?_|refine AA ?_))<;>(repeat (first|refine Ah ?_|refine Al ?_|refine Ae ?_|refine Am ?_|refine At ?_|refine Au ?_|refine Ar rfl ?_|refine Aj rfl ?_)))
    refine BT 2 (by decide) O (xs:=([]:List Int)) rfl rfl rfl rfl trivial (by decide) (by decide) rfl fun g w1 O1 S1 h1=>?_
    replace hB:=hB.st S1 (fun h=>h) (fun h=>h)
    replace h0:=h0.st S1 (fun h=>h)
    (refine o_mv rfl rfl ?_)
    refine DV rfl h1 h0.rd rfl rfl (by decide) (by simpa using hl) (by simpa using hl2) rfl fun A2 c2 w2 O2 S2 h2=>?_
    replace hB:=hB.st S2 (by decide) (by decide)
    rw [List.nil_append] at h2 ⊢
    (refine o_as rfl rfl ?_<;>(first|refine Ay ?_|refine Az ?_|refine Aw ?_|refine AA ?_))
    repeat (first|refine Ah ?_|refine Al ?_|refine Ae ?_|refine Am ?_|refine At ?_|refine Au ?_|refine Ar rfl ?_|refine Aj rfl ?_)
    exact ret1 rfl rfl ⟨hB.ext,h2.out hB (by decide)⟩
end
section
open Go Go.RowKit
attribute [local irreducible] ewp owp hwp hwq hws Ev Evg Fn retPost loud loudS Res1
attribute [local irreducible] hwx loudX
def BW (xs:List U64):Option (List U64):=if xs.length * 8≤140737488355328∧xs.length≤9223372036854775807 then some xs else none
theorem EO {w:World} {A:Nat→Prop} (hA:∀ k,A k→k < w.heap.size) {v0:Value} {x0:List U64} (h0:Vb w A v0 x0) {r:List U64} (hm:BW x0=some r) :
    Fn Try.prog 75 [v0] w fun v w'=>Ext w w'∧RowR w w' (upA A w w') 150 v r:=by
  obtain ⟨⟨hl,hl2⟩,rfl⟩:=Fz hm
  obtain ⟨O,hB,hA0⟩:=enter hA
  replace h0:=h0.mono hA0
  obtain ⟨Ad,c,rfl⟩:=h0.form
  refine AL Try.func75 rfl Try.ntmps75 rfl ?_
  cases Ad with
  | none =>
    have hx:x0=[]:=by
      cases x0 with
      | nil=>rfl
      | cons x xs=>obtain ⟨_,_,_,h,_⟩:=h0.elem (k:=0) (x:=x) rfl;cases h
    subst hx
    ((repeat (first|refine Ah ?_|refine Al ?_|refine Ae ?_|refine Am ?_|refine At ?_|refine Au ?_|refine Ar rfl ?_|refine Aj rfl ?_))<;>(refine o_as rfl rfl ?_<;>(first|refine Ay ?_|refine Az ?_|refine Aw ?_|refine AA ?_))<;>(repeat (first|refine Ah ?_|refine Al ?_|refine Ae ?_|refine Am ?_|refine At ?_|refine Au ?_|refine Ar rfl ?_|refine Aj rfl ?_))<;>(refine o_mv rfl rfl ?_<;>refine o_sn rfl rfl ?_<;>(first|refine Ay ?_|refine Az ?_|refine Aw ?_|refine AA ?_))<;>(repeat (first|refine Ah ?_|refine Al ?_|refine Ae ?_|refine Am ?_|refine At ?_|refine Au ?_|refine Ar rfl ?_|refine Aj rfl ?_))<;>(refine o_as rfl rfl ?_<;>(first|refine Ay ?_|refine Az ?_|refine Aw ?_|refine AA ?_))<;>(repeat (first|refine Ah ?_|refine Al ?_|refine Ae ?_|refine Am ?_|refine At ?_|refine Au ?_|refine Ar rfl ?_|refine Aj rfl ?_)))
    exact ret1 rfl rfl ⟨Below.refl _ _,RowR.nil⟩
  | some ad =>
    ((repeat (first|refine Ah ?_|refine Al ?_|refine Ae ?_|refine Am ?_|refine At ?_|refine Au ?_|refine Ar rfl ?_|refine Aj rfl ?_))<;>(refine o_as rfl rfl ?_<;>(first|refine Ay ?_|refine Az ?_|refine Aw ?_|refine AA ?_))<;>(repeat (first|refine Ah ?_|refine Al ?_|refine Ae ?_|refine Am ?_|refine At ?_|refine Au ?_|refine Ar rfl ?_|refine Aj rfl ?_))<;>(refine o_mv rfl rfl ?_<;>refine o_sn rfl rfl ?_<;>(first|refine Ay ?_|refine Az ?_|refine Aw ?_|refine AA ?_))<;>(repeat (first|refine Ah ?_|refine Al ?_|refine Ae ?_|refine Am ?_|refine At ?_|refine Au ?_|refine Ar rfl ?_|refine Aj rfl ?_)))
    refine BT 2 (by decide) O (xs:=([]:List U64)) rfl rfl rfl rfl trivial (by decide) (by decide) rfl fun g w1 O1 S1 h1=>?_
    replace hB:=hB.st S1 (fun h=>h) (fun h=>h)
    replace h0:=h0.st S1 (fun h=>h)
    (refine o_mv rfl rfl ?_)
    refine DV rfl h1 h0.rd rfl rfl (by decide) (by simpa using hl) (by simpa using hl2) rfl fun A2 c2 w2 O2 S2 h2=>?_
    replace hB:=hB.st S2 (by decide) (by decide)
    rw [List.nil_append] at h2 ⊢
    (refine o_as rfl rfl ?_<;>(first|refine Ay ?_|refine Az ?_|refine Aw ?_|refine AA ?_))
    repeat (first|refine Ah ?_|refine Al ?_|refine Ae ?_|refine Am ?_|refine At ?_|refine Au ?_|refine Ar rfl ?_|refine Aj rfl ?_)
    exact ret1 rfl rfl ⟨hB.ext,h2.out hB (by decide)⟩
structure PFd where
  word:Int
  bit:Int
  width:Int
  size:Int
instance:Rp PFd where
  isAgg:=true
  size:=4
  R w F cs x:=cs=[.int .i64 x.word,.int .i64 x.bit,.int .i64 x.width,.int .i64 x.size]∧inI64 x.word∧inI64 x.bit∧inI64 x.width∧inI64 x.size
  len:=by rintro w F cs x ⟨rfl,h0,h1,h2,h3⟩;rfl
  one:=by rintro w F cs x ⟨rfl,h0,h1,h2,h3⟩ u hu;simp at hu;rcases hu with rfl|rfl|rfl|rfl<;>first|rfl|exact Vb.one rfl (by assumption)
  agree:=by rintro w w' F cs x ⟨rfl,h0,h1,h2,h3⟩ ha;exact ⟨rfl,h0,h1,h2,h3⟩
  mono:=by rintro w F G cs x ⟨rfl,h0,h1,h2,h3⟩ ha;exact ⟨rfl,h0,h1,h2,h3⟩
structure Pkr where
  fields:List PFd
  words:Int
instance:Ow Pkr where
  R w F M v x:=∃ (g:Nat) (L:Lab) (c0:Value),v=.pointer (some ⟨g,0,none⟩)∧Blk w g 148 [c0,.int .i64 x.words]∧M g∧L g=0∧RwM w F (fun k=>M k∧L k=1) 152 c0 x.fields∧inI64 x.words
  agree:=by rintro w w' F M v x ⟨g,L,c0,rfl,hb,hM,hL,h0,h1⟩ a1 a2;exact ⟨g,L,c0,rfl,hb.keep (a2 g hM),hM,hL,h0.agree a1 fun k hk=>a2 k hk.1,h1⟩
  mono:=by rintro w F M F' M' v x ⟨g,L,c0,rfl,hb,hM,hL,h0,h1⟩ a1 a2 a3;exact ⟨g,L,c0,rfl,hb,a2 g hM,hL,h0.mono a1 (fun k hk=>⟨a2 k hk.1,hk.2⟩) fun k hf hm=>a3 k hf hm.1,h1⟩
instance:OwP Pkr:=⟨by rintro w F M v x ⟨g,L,c0,rfl,_⟩;exact ⟨g,rfl⟩⟩
theorem Pkr.opn {i:Nat} {w:World} {O:Lab} {p:Nat} {x:Pkr} (h:Ob i w O (.pointer (some ⟨p,0,none⟩)) x) (l0 l1:Nat) (hl:l0≠0∧l1≠0):∃ (O':Lab) (c0:Value),St (eT i) w O w O'∧(∀ k,Fr i w O k→∃ q,q∈[l0,l1]∧Fr q w O' k)∧Lc l0 w O' p 148 [c0,.int .i64 x.words]∧Rw l1 w O' 152 c0 x.fields∧inI64 x.words:=by
  obtain ⟨⟨g,L,c0,hv,hb,hM,hL,h0,h1⟩,hi⟩:=h
  obtain rfl:p=g:=by injection hv with hv;injection hv with hv;injection hv
  exact ⟨part O i L [l0,l1],c0,HF hi,Gx (by simp),⟨hb,(DM (j:=0) rfl p ⟨hM,hL⟩).2⟩,h0.rw (Da hi) (DM (j:=1) rfl) hl.2,h1⟩
theorem Pkr.shut {w:World} {O:Lab} {p:Nat} {x:Pkr} {l0 l1:Nat} {c0:Value} (hd:¬ 0∈[l0,l1]∧[l0,l1].idxOf l0=0∧[l0,l1].idxOf l1=1) (hb:Lc l0 w O p 148 [c0,.int .i64 x.words]) (h0:Rw l1 w O 152 c0 x.fields) (h1:inI64 x.words):∃ O',St (·∈[l0,l1]) w O w O'∧(∀ k,Fr 0 w O k→Fr 0 w O' k)∧(∀ q,q∈[l0,l1]→∀ k,Fr q w O k→Fr l0 w O' k)∧Ob l0 w O' (.pointer (some ⟨p,0,none⟩)) x:=by
  have hb1:l0≠0:=fun e=>hd.1 (by simp [e])
  have hg:=Dm (i:=l0) hd.2.1 (by simp) p ⟨hb.1.lt,hb.2⟩
  exact ⟨whole O l0 [l0,l1],Gy,Ck hd.1,FN,⟨p,fun k=>[l0,l1].idxOf (O k),c0,rfl,hb.1,hg.1,hg.2,h0.m (Ck hd.1) (Dm hd.2.2 (by simp)) (fun k a b=>frNe0 hb1 k a b.1),h1⟩,hb1⟩
noncomputable def DA (x0:List Int):Option ((Option Pkr)×Err) :=
  if 64 < (x0.length:Int) then (some (none,(⟨5⟩:Err))) else (bnd (rng (ρ:=(Option Pkr)×Err) (fun (k25:Nat) (a26:Int) (s23:Int×Pkr)=>bnd (if a26 < 1 then (some true) else (if 64 < a26 then (some true) else (some false)):Option Bool) fun y48=>if y48=true then (some (.ret (none,(⟨1⟩:Err)))) else (bnd (lop (ρ:=Ctl (Int×Pkr) ((Option Pkr)×Err)) (fun (s61:Int)=>bnd (shlI 1 s61) fun n76=>if n76 < a26 then (bnd (chkI (s61 + 1)) fun n80=>some (.next n80)) else (some (.brk s61))) 0) fun res59=>fin res59 fun (s87:Int)=>bnd (bnd (chkI (s23.1 + s87)) fun n95=>if 64 < n95 then (bnd (chkI (s23.2.words + 1)) fun n109=>some (0,(⟨s23.2.fields,n109⟩:Pkr))) else (some (s23.1,s23.2)):Option (Int×Pkr)) fun y89=>bnd (chkI (y89.2.words - 1)) fun n133=>bnd (appI 32 y89.2.fields [(⟨n133,y89.1,s87,a26⟩:PFd)]) fun u142=>bnd (chkI (y89.1 + s87)) fun n155=>some (.next (n155,(⟨u142,y89.2.words⟩:Pkr))))) x0 0 (0,(⟨([]:List PFd),1⟩:Pkr))) fun res21=>fin res21 fun (s167:Int×Pkr)=>some ((some s167.2),(⟨0⟩:Err)))
theorem KF {w:World} {O:Lab} {vx0:Value} {x0:List Int} (hx0:Vb w (Fr 0 w O) vx0 x0) (j0:Nat) (hj0:j0≠0) {r:(Option Pkr)×Err} (hm:DA x0=some r) :
    Fn Try.prog 74 [vx0] w fun v w'=>∃ O',St nT w O w' O'∧∃ v0 v1:Value,v=.tuple #[v0,v1]∧Obo j0 w' O' v0 r.1∧Vb w' (Fr 0 w' O') v1 r.2:=by
 obtain ⟨O0,hE,hz0⟩:=ent0 (w:=w) (O:=O)
 have hB:Bm w O0 w O0:=Bm.refl
 replace hx0:=hx0.mono hz0
 obtain ⟨A2,c3,rfl⟩:=hx0.form
 refine AL Try.func74 rfl Try.ntmps74 rfl ?_
 unfold DA at hm
 refine Ah (Ae (o_as rfl rfl (o_as rfl rfl (o_z ?_))))
 refine Ah (Ah (Ae (o_mv rfl rfl (o_ln rfl rfl ?_))))
 have l5:x0.length≤9223372036854775807:=Nat.le_trans hx0.len.2.1 hx0.len.2.2
 have r4:inI64 (x0.length:Int):=rngNat l5
 refine o_gtS rfl rfl rfl (fun c6=>?_) fun c6=>?_
 ·
  replace hm:=ip hm c6
  refine o_z ?_
  refine Ar rfl (Ah (Ae (o_miE rfl rfl ?_)))
  refine o_as rfl rfl (o_as rfl rfl (o_z ?_))
  refine Au ?_
  obtain rfl:=sm hm
  obtain ⟨O',hS',hz,hl⟩:=hE.leave (fun _=>0) rfl hB
  exact ret2 rfl (AG rfl) (AG rfl) ⟨O',hS',_,_,rfl,rfl,(vErr (by decide))⟩
 ·
  replace hm:=im hm c6
  refine o_z ?_
  refine Aj rfl (Am (Ah (Ae (o_bd rfl rfl rfl ?_))))
  refine l_box 2 O0 rfl rfl fun g7 w8 O9 S10 h11=>?_
  replace h11:Lc 2 w8 O9 g7 148 [(.slice none 0 0),(.int .i64 1)]:=h11
  refine o_as rfl rfl (o_z ?_)
  refine Ah (Ae (o_as rfl rfl (o_z ?_)))
  refine Ah (Ah (Ae (o_mv rfl rfl (o_ln rfl rfl ?_))))
  replace hx0:=hx0.st S10
  have l13:x0.length≤9223372036854775807:=Nat.le_trans hx0.len.2.1 hx0.len.2.2
  have r12:inI64 (x0.length:Int):=rngNat l13
  refine o_mv rfl rfl (o_z ?_)
  have h14:Rw 3 w8 O9 152 (.slice none 0 0) ([]:List PFd):=Rw.nil 3 (by decide)
  obtain ⟨O16,S17,hz19,ha20,h18⟩:=Pkr.shut (x:=(⟨([]:List PFd),1⟩:Pkr)) (l0:=2) (l1:=3) (by decide) h11 h14 (show inI64 (1) from by decide)
  obtain ⟨res21,hL22,hm⟩:=bs hm
  refine AM (aft res21 (fun (s23:Int×Pkr) (x24:Unit)=>[(4,(.pointer (some ⟨g7,0,none⟩)))]) (fun s23 x24 w'=>∃ O':Lab,Bm w O0 w' O'∧Ob 2 w' O' (.pointer (some ⟨g7,0,none⟩)) s23.2∧inI64 s23.1)) ?_ ?_
  ·
   refine Al ?_
   replace hB:=(hB.st S10).st S17
   replace hx0:=hx0.st S17
   refine BF (σ:=Int×Pkr) (X:=Unit) (x0.length) hL22 rfl l13 (fun (s23:Int×Pkr) (x24:Unit)=>[(4,(.pointer (some ⟨g7,0,none⟩))),(5,(.int .i64 s23.1)),(15,(.slice A2 x0.length c3))]) _ (fun s23 x24 w'=>∃ O':Lab,Bm w O0 w' O'∧Ob 2 w' O' (.pointer (some ⟨g7,0,none⟩)) s23.2∧Vb w' (Fr 0 w' O') (.slice A2 x0.length c3) x0∧inI64 s23.1) _ () ⟨O16,hB,h18,hx0,(show inI64 (0) from by decide)⟩ ⟨rfl,rfl,rfl,rfl,rfl,trivial⟩ (fun _ _=>⟨rfl,rfl⟩) (fun _ _=>⟨rfl,trivial⟩) (fun _ _ _ ⟨O',hB,h39,hx0,r38⟩=>⟨O',hB,h39,r38⟩) ⟨rfl,rfl,rfl⟩ ⟨rfl,rfl⟩ ?_
   rintro k25 a26 s23 x24 w27 cc29 hx30 ⟨O28,hB,h39,hx0,r38⟩ hf31 hret32 hbrk33
   have rk25:inI64 (k25:Int):=rngK hx30 l13
   refine Ah (Ae ?_)
   obtain ⟨b40,o41,ce42,hA43,hl44,hd45,rfl,r47⟩:=hx0.elem' hx30
   refine o_iaE (hA:=hA43) (hj:=rfl) (hlt:=hl44) rfl rfl rfl ?_
   refine o_ld (hc:=cat0 hd45) rfl rfl ?_
   refine o_as rfl rfl (o_z ?_)
   refine Ah (Ah ?_)
   obtain ⟨y48,hy49,hf31⟩:=bs hf31
   refine AM (fun l' w'=>∃ (x51:Unit) (O':Lab),subs l' [(4,(.pointer (some ⟨g7,0,none⟩))),(5,(.int .i64 s23.1)),(7,(.int .i64 a26)),(15,(.slice A2 x0.length c3)),(16,(.int .i64 (x0.length:Int))),(17,(.int .i64 (k25:Int))),(26,(.bool y48))]∧Bm w O0 w' O'∧Ob 2 w' O' (.pointer (some ⟨g7,0,none⟩)) s23.2∧Vb w' (Fr 0 w' O') (.slice A2 x0.length c3) x0) ?_ ?_
   ·
    refine Ae (o_mv rfl rfl (o_ltS rfl rfl rfl (fun c52=>?_) fun c52=>?_))
    ·
     replace hy49:=ip hy49 c52
     refine o_mv rfl rfl (AD rfl rfl rfl rfl (AD rfl rfl rfl rfl (o_pt rfl rfl rfl (o_z ?_))))
     obtain rfl:=sm hy49
     exact ⟨(),_,⟨rfl,rfl,rfl,rfl,rfl,rfl,rfl,trivial⟩,hB,h39,hx0⟩
    ·
     replace hy49:=im hy49 c52
     refine o_mv rfl rfl (AE rfl rfl (o_mv rfl rfl (AE rfl rfl (o_gtS rfl rfl rfl (fun c53=>?_) fun c53=>?_))))
     ·
      replace hy49:=ip hy49 c53
      refine o_pf rfl rfl rfl (o_z ?_)
      obtain rfl:=sm hy49
      exact ⟨(),_,⟨rfl,rfl,rfl,rfl,rfl,rfl,rfl,trivial⟩,hB,h39,hx0⟩
     ·
      replace hy49:=im hy49 c53
      refine o_pf rfl rfl rfl (o_z ?_)
      obtain rfl:=sm hy49
      exact ⟨(),_,⟨rfl,rfl,rfl,rfl,rfl,rfl,rfl,trivial⟩,hB,h39,hx0⟩
   rintro l54 w55 ⟨x51,O56,hs57,hB,h39,hx0⟩
   refine AO _ hs57 ?_
   refine BP rfl (fun c58=>?_) (fun c58=>?_)
   ·
    replace hf31:=ip hf31 c58
    refine Ah (Ae (o_miE rfl rfl ?_))
    refine o_as rfl rfl (o_as rfl rfl (o_z ?_))
    refine Au ?_
    obtain rfl:=sm hf31
    obtain rfl:=hret32 _ rfl
    obtain rfl:=sm (By hm)
    obtain ⟨O',hS',hz,hl⟩:=hE.leave (fun _=>0) rfl hB
    exact ret2 rfl (AG rfl) (AG rfl) ⟨O',hS',_,_,rfl,rfl,(vErr (by decide))⟩
   ·
    replace hf31:=im' hf31 c58
    refine Am (Ah (Ae (o_as rfl rfl (o_z ?_))))
    refine Ah ?_
    obtain ⟨res59,hL60,hf31⟩:=bs hf31
    refine AM (aft res59 (fun (s61:Int) (x62:Unit)=>[(4,(.pointer (some ⟨g7,0,none⟩))),(5,(.int .i64 s23.1)),(7,(.int .i64 a26)),(8,(.int .i64 s61)),(15,(.slice A2 x0.length c3)),(16,(.int .i64 (x0.length:Int))),(17,(.int .i64 (k25:Int)))]) (fun s61 x62 w'=>∃ O':Lab,Bm w O0 w' O'∧Ob 2 w' O' (.pointer (some ⟨g7,0,none⟩)) s23.2∧Vb w' (Fr 0 w' O') (.slice A2 x0.length c3) x0∧inI64 s61)) ?_ ?_
    ·
     refine Al (DL (σ:=Int) (X:=Unit) hL60 (fun (s61:Int) (x62:Unit)=>[(4,(.pointer (some ⟨g7,0,none⟩))),(5,(.int .i64 s23.1)),(7,(.int .i64 a26)),(8,(.int .i64 s61)),(15,(.slice A2 x0.length c3)),(16,(.int .i64 (x0.length:Int))),(17,(.int .i64 (k25:Int)))]) _ (fun s61 x62 w'=>∃ O':Lab,Bm w O0 w' O'∧Ob 2 w' O' (.pointer (some ⟨g7,0,none⟩)) s23.2∧Vb w' (Fr 0 w' O') (.slice A2 x0.length c3) x0∧inI64 s61) _ () ⟨O56,hB,h39,hx0,(show inI64 (0) from by decide)⟩ ⟨rfl,rfl,rfl,rfl,rfl,rfl,rfl,trivial⟩ ?_)
     rintro s61 x62 w65 cc67 ⟨O66,hB,h39,hx0,r75⟩ hf69 hret70 hbrk71
     refine Ah (Ah (Ae (o_mv rfl rfl ?_)))
     obtain ⟨n76,e77,hf69⟩:=bs hf69
     have r78:=LH e77
     refine o_ish (he:=e77) rfl rfl rfl ?_
     refine o_mv rfl rfl (o_ltS rfl rfl rfl (fun c79=>?_) fun c79=>?_)
     ·
      replace hf69:=ip hf69 c79
      refine o_z ?_
      refine Ar rfl (Am (Al (Ae (o_mv rfl rfl ?_))))
      obtain ⟨n80,e81,hf69⟩:=bs hf69
      have r82:=(Ba e81)
      refine o_adE (he:=e81) rfl rfl rfl ?_
      refine o_as rfl rfl (o_z ?_)
      obtain rfl:=sm hf69
      refine (?_:Exists _)
      exact ⟨_,(),rfl,⟨rfl,rfl,rfl,rfl,rfl,rfl,rfl,trivial⟩,_,hB,h39,hx0,r82⟩
     ·
      replace hf69:=im hf69 c79
      refine o_z ?_
      refine Aj rfl (At ?_)
      obtain rfl:=sm hf69
      refine (?_:Exists _)
      exact ⟨_,(),hbrk71 _ rfl,⟨rfl,rfl,rfl,rfl,rfl,rfl,rfl,trivial⟩,_,hB,h39,hx0,r75⟩
    rintro l83 w84 ⟨s87,x88,rfl,hs86,O85,hB,h39,hx0,r75⟩
    replace hf31:=AW hf31
    refine AO _ hs86 ?_
    refine Ah ?_
    obtain ⟨y89,hy90,hf31⟩:=bs hf31
    refine AM (fun l' w'=>∃ (x92:Unit) (O':Lab),subs l' [(4,(.pointer (some ⟨g7,0,none⟩))),(5,(.int .i64 y89.1)),(7,(.int .i64 a26)),(8,(.int .i64 s87)),(15,(.slice A2 x0.length c3)),(16,(.int .i64 (x0.length:Int))),(17,(.int .i64 (k25:Int)))]∧Bm w O0 w' O'∧Ob 2 w' O' (.pointer (some ⟨g7,0,none⟩)) y89.2∧Vb w' (Fr 0 w' O') (.slice A2 x0.length c3) x0∧inI64 y89.1) ?_ ?_
    ·
     refine Ah (Ae (o_mv rfl rfl (o_mv rfl rfl ?_)))
     obtain ⟨n95,e96,hy90⟩:=bs hy90
     have r97:=(Ba e96)
     refine o_adE (he:=e96) rfl rfl rfl ?_
     refine o_gtS rfl rfl rfl (fun c98=>?_) fun c98=>?_
     ·
      replace hy90:=ip hy90 c98
      refine o_z ?_
      refine Ar rfl (Ah (Ae (o_mv rfl rfl (o_nc rfl rfl ?_))))
      obtain ⟨O99,v103,S100,ha102,h101,h104,r108⟩:=Pkr.opn h39 2 4 (by decide)
      obtain ⟨A105,c106,rfl⟩:=h104.form
      refine o_fa rfl rfl (o_ld (hc:=Blk.cell (i:=1) (h101.1) rfl) rfl rfl ?_)
      obtain ⟨n109,e110,hy90⟩:=bs hy90
      have r111:=(Ba e110)
      refine o_adE (he:=e110) rfl rfl rfl ?_
      refine o_nc rfl rfl (o_fa rfl rfl (AV h101 rfl rfl rfl (Nat.le_of_ble_eq_true rfl) (by first|exact allOne rfl|simp [Value.cells,Value.oneCell',AQ]) fun w112 S113 h101=>?_))
      replace h101:Lc 2 w112 O99 g7 148 [(.slice A105 s23.2.fields.length c106),(.int .i64 n109)]:=h101
      refine o_z ?_
      refine Ae (o_as rfl rfl (o_z ?_))
      replace h104:=h104.st S113
      obtain ⟨O114,S115,hz117,ha118,h116⟩:=Pkr.shut (x:=(⟨s23.2.fields,n109⟩:Pkr)) (l0:=2) (l1:=4) (by decide) h101 h104 r111
      obtain rfl:=sm hy90
      replace hB:=((hB.st S100).st S113).st S115
      replace hx0:=((hx0.st S100).st S113).st S115
      exact ⟨(),_,⟨rfl,rfl,rfl,rfl,rfl,rfl,rfl,trivial⟩,hB,h116,hx0,(show inI64 (0) from by decide)⟩
     ·
      replace hy90:=im hy90 c98
      refine o_z ?_
      refine Aj rfl (Am ?_)
      obtain rfl:=sm hy90
      exact ⟨(),_,⟨rfl,rfl,rfl,rfl,rfl,rfl,rfl,trivial⟩,hB,h39,hx0,r38⟩
    rintro l119 w120 ⟨x92,O121,hs122,hB,h94,hx0,r93⟩
    refine AO _ hs122 ?_
    refine Ah ?_
    obtain ⟨O123,v127,S124,ha126,h125,h128,r132⟩:=Pkr.opn h94 2 4 (by decide)
    obtain ⟨A129,c130,rfl⟩:=h128.form
    refine BG [(14,[]),(15,[4])] O123 ?_
    refine x_pre (fuel:=6) [] [(1,true),(2,true),(3,true),(4,true),(5,true),(6,true),(7,true),(8,true),(9,true),(10,true),(11,true),(12,true),(13,true)] (by kernel_rfl) rfl ?_
    refine h_mv rfl rfl rfl (h_nc rfl rfl rfl (h_fa rfl rfl rfl (h_ldC (hc:=fun w' ⟨O',hq⟩=>Blk.cell (i:=0) ((h125.st hq (by decide)).1) rfl) rfl rfl rfl ?_)))
    refine h_mv rfl rfl rfl (h_nc rfl rfl rfl (h_fa rfl rfl rfl (h_ldC (hc:=fun w' ⟨O',hq⟩=>Blk.cell (i:=1) ((h125.st hq (by decide)).1) rfl) rfl rfl rfl ?_)))
    obtain ⟨n133,e134,hf31⟩:=bs hf31
    have r135:=(Ba e134)
    refine h_sbE (he:=e134) rfl rfl rfl rfl ?_
    refine h_mv rfl rfl rfl (h_mv rfl rfl rfl (h_mv rfl rfl rfl (h_bd rfl rfl rfl rfl ?_)))
    refine AK ?_
    refine x_pre (fuel:=5) [4] [(0,true)] (by kernel_rfl) rfl ?_
    refine h_mv rfl rfl rfl (AK ?_)
    refine x_one (i:=14) (by kernel_rfl) rfl ?_
    refine BT 5 (by decide) O123 (xs:=([(⟨n133,y89.1,s87,a26⟩:PFd)]:List PFd)) rfl rfl rfl rfl ⟨(Vb.ofAgg (cs:=[(.int .i64 n133),(.int .i64 y89.1),(.int .i64 s87),(.int .i64 a26)]) (x:=(⟨n133,y89.1,s87,a26⟩:PFd)) rfl ⟨rfl,r135,r93,r75,r47⟩),trivial⟩ (by decide) (by decide) rfl fun g136 w137 O138 S139 h140=>?_
    have hZ:=S139.lst [] (fun _ h=>h.elim)
    refine x_go [(15,[4])] hZ (by kernel_rfl) ?_
    refine x_one (i:=15) (by kernel_rfl) rfl ?_
    obtain ⟨u142,e143,hf31⟩:=bs hf31
    obtain ⟨e143,e144,e145⟩:=Cj e143
    replace h128:=h128.st S139
    refine DV rfl h128 (h140.rd) rfl rfl (by decide) e144 e145 rfl fun A146 c147 w148 O149 S150 h151=>?_
    rw [← e143] at h151 ⊢
    have hZ:=S150.lst [4] (fun _ h=>by cases h;decide)
    refine x_go [] hZ (by kernel_rfl) ?_
    refine x_pre (fuel:=1) [] [(16,true),(17,true)] (by kernel_rfl) rfl ?_
    refine h_nc rfl rfl rfl (h_fa rfl rfl rfl (AK ?_))
    refine x_one (i:=18) (by kernel_rfl) rfl ?_
    replace h125:=(h125.st S139).st S150
    refine AV h125 rfl rfl rfl (Nat.le_of_ble_eq_true rfl) (by first|exact allOne rfl|simp [Value.cells,Value.oneCell',AQ]) fun w153 S154 h125=>?_
    replace h125:Lc 2 w153 O149 g7 148 [(.slice A146 u142.length c147),(.int .i64 y89.2.words)]:=h125
    refine x_end (by kernel_rfl) ?_
    refine x_nil (by kernel_rfl) ?_
    refine Ae (o_mv rfl rfl (o_mv rfl rfl ?_))
    obtain ⟨n155,e156,hf31⟩:=bs hf31
    have r157:=(Ba e156)
    refine o_adE (he:=e156) rfl rfl rfl ?_
    refine o_as rfl rfl (o_z ?_)
    replace h151:=h151.st S154
    obtain ⟨O158,S159,hz161,ha162,h160⟩:=Pkr.shut (x:=(⟨u142,y89.2.words⟩:Pkr)) (l0:=2) (l1:=4) (by decide) h125 h151 r132
    obtain rfl:=sm hf31
    refine (?_:Exists _)
    replace hB:=((((hB.st S124).st S139).st S150).st S154).st S159
    replace hx0:=((((hx0.st S124).st S139).st S150).st S154).st S159
    exact ⟨_,(),rfl,⟨rfl,rfl,rfl,rfl,rfl,trivial⟩,_,hB,h160,hx0,r157⟩
  replace hB:=(hB.st S10).st S17
  rintro l163 w164 ⟨s167,x168,rfl,hs166,O165,hB,h39,r38⟩
  replace hm:=AW hm
  refine AO _ hs166 ?_
  refine Ah (Ae (o_mv rfl rfl (o_as rfl rfl (o_as rfl rfl (o_z ?_)))))
  refine Au ?_
  obtain rfl:=sm hm
  obtain ⟨O',hS',hz,hl⟩:=hE.leave (fun q=>if q=2 then j0 else 0) rfl hB
  exact ret2 rfl (AG rfl) (AG rfl) ⟨O',hS',_,_,rfl,(Ob.leave h39 hz (hl 2 (by decide) (by decide)) hj0),(vErr (show inI64 0 from by decide))⟩
noncomputable def Cg (x0:PFd):Option U64 :=
  bnd (shlU (1:U64) x0.width) fun n12=>bnd (shlU (n12 - (1:U64)) x0.bit) fun n14=>some n14
theorem Fl {w:World} {A:Nat→Prop} (hA:∀ k,A k→k < w.heap.size) {vx0:Value} {x0:PFd} (hx0:Vb w A vx0 x0) {r:U64} (hm:Cg x0=some r) :
    Fn Try.prog 77 [vx0] w fun v w'=>Ext w w'∧Vb w' (upA A w w') v r:=by
 obtain ⟨O,hB,hA0⟩:=enter hA
 replace hx0:=hx0.mono hA0
 obtain ⟨cs2,rfl,rfl,r3,r4,r5,r6⟩:=hx0
 refine AL Try.func77 rfl Try.ntmps77 rfl ?_
 unfold Cg at hm
 refine Ah (Ae (l_box 2 O rfl rfl fun g7 w8 O9 S10 h11=>?_))
 replace h11:Lc 2 w8 O9 g7 152 [(.int .i64 x0.word),(.int .i64 x0.bit),(.int .i64 x0.width),(.int .i64 x0.size)]:=h11
 refine o_as rfl rfl (o_z ?_)
 refine Ah (BJ (·=w8) [(0,true),(1,true),(2,true),(3,true),(4,true),(5,true),(6,true),(7,true)] (by kernel_rfl) rfl (by kernel_rfl) rfl ?_)
 refine h_fa rfl rfl rfl (h_ldA (hc:=Blk.cell (i:=2) (h11.1) rfl) rfl rfl rfl ?_)
 obtain ⟨n12,e13,hm⟩:=bs hm
 refine h_ush (a:=(1:U64)) (he:=e13) rfl rfl rfl rfl ?_
 refine h_usb (a:=n12) (b:=(1:U64)) rfl rfl rfl rfl ?_
 refine h_fa rfl rfl rfl (h_ldA (hc:=Blk.cell (i:=1) (h11.1) rfl) rfl rfl rfl ?_)
 obtain ⟨n14,e15,hm⟩:=bs hm
 refine h_ush (a:=(n12 - (1:U64))) (he:=e15) rfl rfl rfl rfl ?_
 refine h_as rfl rfl rfl (h_z ?_)
 refine Au ?_
 obtain rfl:=sm hm
 replace hB:=hB.st S10
 exact ret1v rfl (AG rfl) ⟨hB.ext,vU64⟩
noncomputable def Cv (x0:PFd) (x1:List U64):Option Int :=
  bnd (atI x1 x0.word) fun a15=>bnd (Cg x0) fun q26=>bnd (shrU (a15 &&& q26) x0.bit) fun n33=>some n33.toInt
theorem HY {w:World} {A:Nat→Prop} (hA:∀ k,A k→k < w.heap.size) {vx0:Value} {x0:PFd} (hx0:Vb w A vx0 x0) {vx1:Value} {x1:List U64} (hx1:Vb w A vx1 x1) {r:Int} (hm:Cv x0 x1=some r) :
    Fn Try.prog 76 [vx0,vx1] w fun v w'=>Ext w w'∧Vb w' (upA A w w') v r:=by
 obtain ⟨O,hB,hA0⟩:=enter hA
 replace hx0:=hx0.mono hA0
 obtain ⟨cs3,rfl,rfl,r4,r5,r6,r7⟩:=hx0
 replace hx1:=hx1.mono hA0
 obtain ⟨A8,c9,rfl⟩:=hx1.form
 refine AL Try.func76 rfl Try.ntmps76 rfl ?_
 unfold Cv at hm
 refine Ah (Ae (l_box 2 O rfl rfl fun g10 w11 O12 S13 h14=>?_))
 replace h14:Lc 2 w11 O12 g10 152 [(.int .i64 x0.word),(.int .i64 x0.bit),(.int .i64 x0.width),(.int .i64 x0.size)]:=h14
 refine o_as rfl rfl (o_z ?_)
 refine Ah (BG [(6,[])] O12 ?_)
 refine x_pre (fuel:=5) [] [(0,true),(1,true),(2,true),(3,true),(4,true),(5,true),(8,true),(9,true)] (by kernel_rfl) rfl ?_
 refine h_mv rfl rfl rfl (h_fa rfl rfl rfl (h_ldC (hc:=fun w' ⟨O',hq⟩=>Blk.cell (i:=0) ((h14.st hq (by decide)).1) rfl) rfl rfl rfl ?_))
 obtain ⟨a15,e16,hm⟩:=bs hm
 obtain ⟨p18,x17⟩:=AN e16
 replace hx1:=hx1.st S13
 obtain ⟨b19,o20,ce21,hA22,hF25,hl23,hd24,rfl⟩:=hx1.elem x17
 refine h_iaE (hA:=hA22) (hj:=(Int.toNat_of_nonneg p18).symm) (hlt:=hl23) rfl rfl rfl rfl ?_
 refine h_ldC (hc:=fun w' ⟨O',hq⟩=>cat0 (Bj (hq.agree (i:=0) (by decide)) hF25 hd24)) rfl rfl rfl ?_
 refine h_laB (hl:=rfl) (hb:=fun w' ⟨O',hq⟩=>((h14.st hq (by decide)).1).cellsAt) rfl rfl rfl ?_
 refine h_fa rfl rfl rfl (h_ldC (hc:=fun w' ⟨O',hq⟩=>Blk.cell (i:=1) ((h14.st hq (by decide)).1) rfl) rfl rfl rfl ?_)
 refine AK ?_
 refine x_one (i:=6) (by kernel_rfl) rfl ?_
 obtain ⟨q26,e27,hm⟩:=bs hm
 refine BK (O:=O12) (A:=All w11) (R:=fun w' F v=>Vb w' F v q26) (Fl (fun _ h=>h) (Vb.mono (F:=Fr 0 w11 O12) (Vb.ofAgg (cs:=[(.int .i64 x0.word),(.int .i64 x0.bit),(.int .i64 x0.width),(.int .i64 x0.size)]) (x:=x0) rfl ⟨rfl,r4,r5,r6,r7⟩) Fr.lt) e27) rfl rfl fun v32 w28 O29 S30 h31=>?_
 obtain rfl:=h31.u64
 have hZ:=S30.lst [] (fun _ h=>h.elim)
 refine x_go [] hZ (by kernel_rfl) ?_
 refine x_pre (fuel:=0) [] [(7,true),(10,true),(11,true),(12,true)] (by kernel_rfl) rfl ?_
 refine h_uan (a:=a15) (b:=q26) rfl rfl rfl rfl ?_
 obtain ⟨n33,e34,hm⟩:=bs hm
 refine h_usr (a:=(a15 &&& q26)) (he:=e34) rfl rfl rfl rfl ?_
 refine h_cvI (a:=n33) rfl rfl rfl ?_
 refine h_as rfl rfl rfl (AK ?_)
 refine x_nil (by kernel_rfl) ?_
 refine Au ?_
 obtain rfl:=sm hm
 replace hB:=(hB.st S13).st S30
 exact ret1v rfl (AG rfl) ⟨hB.ext,(vInt (toIntR _))⟩
noncomputable def Bv (x0:Pkr) (x1:List Int):Option ((List U64)×Err) :=
  if (x1.length:Int)≠(x0.fields.length:Int) then (some (([]:List U64),(⟨2⟩:Err))) else (bnd (mkI 8 ((0:U64):U64) x0.words) fun u25=>bnd (rng (ρ:=(List U64)×Err) (fun (k50:Nat) (a51:PFd) (s48:(List U64))=>bnd (bnd (x1[k50]?) fun a87=>if a87 < 0 then (some true) else (bnd (x1[k50]?) fun a98=>if a51.size≤a98 then (some true) else (some false)):Option Bool) fun y83=>if y83=true then (some (.ret (([]:List U64),(⟨2⟩:Err)))) else (bnd (atI s48 a51.word) fun a114=>bnd (x1[k50]?) fun a125=>bnd (shlU (BitVec.ofInt 64 a125) a51.bit) fun n135=>bnd (atI s48 a51.word) fun a137=>some (.next (s48.set (a51.word:Int).toNat (a114 ||| n135))))) x0.fields 0 u25) fun res46=>fin res46 fun (s154:(List U64))=>some (s154,(⟨0⟩:Err)))
theorem Ho {w:World} {O:Lab} {p0 i0:Nat} {x0:Pkr} (hx0:Ob i0 w O (.pointer (some ⟨p0,0,none⟩)) x0) {vx1:Value} {x1:List Int} (hx1:Vb w (Fr 0 w O) vx1 x1) {r:(List U64)×Err} (hm:Bv x0 x1=some r) :
    Fn Try.prog 80 [(.pointer (some ⟨p0,0,none⟩)),vx1] w fun v w'=>∃ O',St (eT i0) w O w' O'∧∃ v0 v1:Value,Ob i0 w' O' (.pointer (some ⟨p0,0,none⟩)) x0∧v=.tuple #[v0,v1]∧Vb w' (Fr 0 w' O') v0 r.1∧Vb w' (Fr 0 w' O') v1 r.2:=by
 obtain ⟨O0,hE,hz0,hl2⟩:=ent1 (w:=w) (O:=O) hx0.2
 have hx0':=Ob.leave hx0 hz0 hl2 (j:=2) (by decide)
 have hB:Bm w O0 w O0:=Bm.refl
 replace hx1:=hx1.mono hz0
 obtain ⟨A3,c4,rfl⟩:=hx1.form
 refine AL Try.func80 rfl Try.ntmps80 rfl ?_
 unfold Bv at hm
 refine Ah (Ae (o_as rfl rfl (o_as rfl rfl (o_z ?_))))
 refine Ah (Ah (Ae (o_mv rfl rfl (o_pn rfl rfl ?_))))
 refine o_z ?_
 refine Aj rfl (Am (Ah (Ah (Ae (o_mv rfl rfl (o_ln rfl rfl ?_))))))
 have l6:x1.length≤9223372036854775807:=Nat.le_trans hx1.len.2.1 hx1.len.2.2
 have r5:inI64 (x1.length:Int):=rngNat l6
 refine o_mv rfl rfl (o_nc rfl rfl ?_)
 obtain ⟨O7,v11,S8,ha10,h9,h12,r16⟩:=Pkr.opn hx0' 2 3 (by decide)
 obtain ⟨A13,c14,rfl⟩:=h12.form
 refine o_fa rfl rfl (o_ld (hc:=Blk.cell (i:=0) (h9.1) rfl) rfl rfl ?_)
 refine o_ln rfl rfl ?_
 have l18:x0.fields.length≤9223372036854775807:=Nat.le_trans h12.len.2.1 h12.len.2.2
 have r17:inI64 (x0.fields.length:Int):=rngNat l18
 refine o_neS rfl rfl rfl (fun c19=>?_) fun c19=>?_
 ·
  replace hm:=ip hm c19
  refine o_z ?_
  refine Ar rfl (Ah (Ae (o_miE rfl rfl ?_)))
  refine o_as rfl rfl (o_as rfl rfl (o_z ?_))
  refine Au ?_
  obtain ⟨O20,S21,hz23,ha24,h22⟩:=Pkr.shut (x:=x0) (l0:=2) (l1:=3) (by decide) h9 h12 r16
  obtain rfl:=sm hm
  replace hB:=(hB.st S8).st S21
  obtain ⟨O',hS',hz,hl⟩:=hE.leave (fun q=>if q=2 then i0 else 0) rfl hB
  exact ret2 rfl (AG rfl) (AG rfl) ⟨O',hS',_,_,(Ob.leave h22 hz (hl 2 (by decide) (by decide)) hx0.2),rfl,(Vb.mono (Vb.nil _ _) hz),(vErr (by decide))⟩
 ·
  replace hm:=im hm c19
  refine o_z ?_
  refine Aj rfl (Am (Ah (Ae (o_mv rfl rfl (o_nc rfl rfl (o_fa rfl rfl (o_ld (hc:=Blk.cell (i:=1) (h9.1) rfl) rfl rfl ?_)))))))
  obtain ⟨u25,e26,hm⟩:=bs hm
  obtain ⟨m27,e28,e29,e30,e31⟩:=Gw e26
  refine Iq 4 (by decide) O7 (z0:=((0:U64):U64)) rfl rfl rfl rfl rfl e28 vU64 e29 e30 rfl fun g32 w33 O34 S35 h36=>?_
  rw [← e31] at h36 ⊢
  refine o_as rfl rfl (o_z ?_)
  refine Ah (Ah (Ae (o_mv rfl rfl (o_nc rfl rfl (o_fa rfl rfl ?_)))))
  replace h9:=h9.st S35
  refine o_ld (hc:=Blk.cell (i:=0) (h9.1) rfl) rfl rfl ?_
  refine o_ln rfl rfl ?_
  replace h12:=h12.st S35
  have l39:x0.fields.length≤9223372036854775807:=Nat.le_trans h12.len.2.1 h12.len.2.2
  have r38:inI64 (x0.fields.length:Int):=rngNat l39
  refine o_mv rfl rfl (o_z ?_)
  obtain ⟨O40,S41,hz43,ha44,h42⟩:=Pkr.shut (x:=x0) (l0:=2) (l1:=3) (by decide) h9 h12 r16
  have h45:=(h12.lend [3] (by decide)).shutS S41 hz43 ha44 [2] (by decide)
  obtain ⟨res46,hL47,hm⟩:=bs hm
  refine AM (aft res46 (fun (s48:(List U64)) (x49:Unit)=>[(6,(.slice (some ⟨g32,0,none⟩) u25.length m27))]) (fun s48 x49 w'=>∃ O':Lab,Bm w O0 w' O'∧Rw 4 w' O' 150 (.slice (some ⟨g32,0,none⟩) u25.length m27) s48∧Ob 2 w' O' (.pointer (some ⟨p0,0,none⟩)) x0)) ?_ ?_
  ·
   refine Al ?_
   replace hB:=((hB.st S8).st S35).st S41
   replace hx1:=((hx1.st S8).st S35).st S41
   replace h36:=h36.st S41
   refine BF (σ:=(List U64)) (X:=Unit) (x0.fields.length) hL47 rfl l39 (fun (s48:(List U64)) (x49:Unit)=>[(1,(.slice A3 x1.length c4)),(6,(.slice (some ⟨g32,0,none⟩) u25.length m27)),(29,(.slice A13 x0.fields.length c14))]) _ (fun s48 x49 w'=>∃ O':Lab,Bm w O0 w' O'∧Vb w' (Fr 0 w' O') (.slice A3 x1.length c4) x1∧Rw 4 w' O' 150 (.slice (some ⟨g32,0,none⟩) u25.length m27) s48∧Vb w' (FrS [2] w' O') (.slice A13 x0.fields.length c14) x0.fields∧Ob 2 w' O' (.pointer (some ⟨p0,0,none⟩)) x0) _ () ⟨O40,hB,hx1,h36,h45,h42⟩ ⟨rfl,rfl,rfl,rfl,rfl,trivial⟩ (fun _ _=>⟨rfl,rfl⟩) (fun _ _=>⟨rfl,trivial⟩) (fun _ _ _ ⟨O',hB,hx1,h63,h45,h42⟩=>⟨O',hB,h63,h42⟩) ⟨rfl,rfl,rfl⟩ ⟨rfl,rfl⟩ ?_
   rintro k50 a51 s48 x49 w52 cc54 hx55 ⟨O53,hB,hx1,h63,h45,h42⟩ hf56 hret57 hbrk58
   have rk50:inI64 (k50:Int):=rngK hx55 l39
   refine Ah (Ae (o_mv rfl rfl ?_))
   obtain ⟨b65,o66,ce67,hA68,hl69,hd70,rfl,r72,r73,r74,r75⟩:=h45.elem' hx55
   refine o_iaE (hA:=hA68) (hj:=rfl) (hlt:=hl69) rfl rfl rfl ?_
   refine o_la (hl:=rfl) (hc:=hd70) rfl rfl ?_
   refine BY 5 O53 rfl fun g76 w77 O78 S79 h80=>?_
   replace h45:=h45.stS S79 id (fun _ _=>id)
   refine o_as rfl rfl (AV h80 rfl rfl rfl (Nat.le_of_ble_eq_true rfl) (by first|exact allOne rfl|simp [Value.cells,Value.oneCell',AQ]) fun w81 S82 h80=>?_)
   replace h80:Lc 5 w81 O78 g76 152 [(.int .i64 a51.word),(.int .i64 a51.bit),(.int .i64 a51.width),(.int .i64 a51.size)]:=h80
   replace h45:=h45.stS S82 (by decide) (by decide)
   refine o_z ?_
   refine Ah (Ah ?_)
   obtain ⟨y83,hy84,hf56⟩:=bs hf56
   refine AM (fun l' w'=>∃ (x86:Unit) (O':Lab),subs l' [(1,(.slice A3 x1.length c4)),(6,(.slice (some ⟨g32,0,none⟩) u25.length m27)),(7,(.int .i64 (k50:Int))),(8,(.pointer (some ⟨g76,0,none⟩))),(29,(.slice A13 x0.fields.length c14)),(30,(.int .i64 (x0.fields.length:Int))),(31,(.int .i64 (k50:Int))),(49,(.bool y83))]∧Bm w O0 w' O'∧Vb w' (Fr 0 w' O') (.slice A3 x1.length c4) x1∧Rw 4 w' O' 150 (.slice (some ⟨g32,0,none⟩) u25.length m27) s48∧Lc 5 w' O' g76 152 [(.int .i64 a51.word),(.int .i64 a51.bit),(.int .i64 a51.width),(.int .i64 a51.size)]∧Vb w' (FrS [2] w' O') (.slice A13 x0.fields.length c14) x0.fields∧Ob 2 w' O' (.pointer (some ⟨p0,0,none⟩)) x0) ?_ ?_
   ·
    refine BJ (·=w81) [(0,true),(1,true),(2,true),(3,true),(4,true),(5,true),(6,true),(7,true),(8,true),(9,true),(10,true),(11,true),(12,true),(13,true)] (by kernel_rfl) rfl (by kernel_rfl) rfl ?_
    refine h_mv rfl rfl rfl (h_mv rfl rfl rfl ?_)
    obtain ⟨a87,e88,hy84⟩:=bs hy84
    replace hx1:=(hx1.st S79).st S82
    obtain ⟨b89,o90,ce91,hA92,hl93,hd94,rfl,r96⟩:=hx1.elem' e88
    refine h_iaE (hA:=hA92) (hj:=rfl) (hlt:=hl93) rfl rfl rfl rfl ?_
    refine h_ldA (hc:=cat0 hd94) rfl rfl rfl ?_
    refine h_ltS rfl rfl rfl rfl (fun c97=>?_) fun c97=>?_
    ·
     replace hy84:=ip hy84 c97
     refine h_mv rfl rfl rfl (h_no rfl rfl rfl rfl rfl (h_no rfl rfl rfl rfl rfl (h_no rfl rfl rfl rfl rfl (h_no rfl rfl rfl rfl rfl (h_no rfl rfl rfl rfl rfl (h_no rfl rfl rfl rfl rfl (h_no rfl rfl rfl rfl rfl (h_pt rfl rfl rfl rfl (h_z ?_)))))))))
     obtain rfl:=sm hy84
     replace hB:=(hB.st S79).st S82
     replace h42:=(h42.st S79).st S82
     replace h63:=(h63.st S79).st S82
     exact ⟨(),_,⟨rfl,rfl,rfl,rfl,rfl,rfl,rfl,rfl,trivial⟩,hB,hx1,h63,h80,h45,h42⟩
    ·
     replace hy84:=im hy84 c97
     refine h_mv rfl rfl rfl (hwp_o rfl (AC rfl rfl (g_mv rfl rfl (hwp_o rfl (AC rfl rfl (g_mv rfl rfl (hwp_o rfl (AC rfl rfl ?_))))))))
     obtain ⟨a98,e99,hy84⟩:=bs hy84
     obtain ⟨b100,o101,ce102,hA103,hl104,hd105,rfl,r107⟩:=hx1.elem' e99
     refine g_iaE (hA:=hA103) (hj:=rfl) (hlt:=hl104) rfl rfl rfl ?_
     refine hwp_o rfl (AC rfl rfl (g_ldA (hc:=cat0 hd105) rfl rfl ?_))
     refine hwp_o rfl (AC rfl rfl (g_fa rfl rfl (hwp_o rfl (AC rfl rfl (g_ldA (hc:=Blk.cell (i:=3) (h80.1) rfl) rfl rfl ?_)))))
     refine hwp_o rfl (AC rfl rfl (AP (fun _ _=>AR rfl rfl) rfl (fun c108=>?_) (fun c108=>?_)))
     ·
      replace hy84:=ip hy84 c108
      refine h_pf rfl rfl rfl rfl (h_z ?_)
      obtain rfl:=sm hy84
      replace hB:=(hB.st S79).st S82
      replace h42:=(h42.st S79).st S82
      replace h63:=(h63.st S79).st S82
      exact ⟨(),_,⟨rfl,rfl,rfl,rfl,rfl,rfl,rfl,rfl,trivial⟩,hB,hx1,h63,h80,h45,h42⟩
     ·
      replace hy84:=im hy84 c108
      refine h_pf rfl rfl rfl rfl (h_z ?_)
      obtain rfl:=sm hy84
      replace hB:=(hB.st S79).st S82
      replace h42:=(h42.st S79).st S82
      replace h63:=(h63.st S79).st S82
      exact ⟨(),_,⟨rfl,rfl,rfl,rfl,rfl,rfl,rfl,rfl,trivial⟩,hB,hx1,h63,h80,h45,h42⟩
   replace hB:=(hB.st S79).st S82
   replace hx1:=(hx1.st S79).st S82
   replace h42:=(h42.st S79).st S82
   replace h63:=(h63.st S79).st S82
   rintro l109 w110 ⟨x86,O111,hs112,hB,hx1,h63,h80,h45,h42⟩
   refine AO _ hs112 ?_
   refine BP rfl (fun c113=>?_) (fun c113=>?_)
   ·
    replace hf56:=ip hf56 c113
    refine Ah (Ae (o_miE rfl rfl ?_))
    refine o_as rfl rfl (o_as rfl rfl (o_z ?_))
    refine Au ?_
    obtain rfl:=sm hf56
    obtain rfl:=hret57 _ rfl
    obtain rfl:=sm (By hm)
    obtain ⟨O',hS',hz,hl⟩:=hE.leave (fun q=>if q=2 then i0 else 0) rfl hB
    exact ret2 rfl (AG rfl) (AG rfl) ⟨O',hS',_,_,(Ob.leave h42 hz (hl 2 (by decide) (by decide)) hx0.2),rfl,(Vb.mono (Vb.nil _ _) hz),(vErr (by decide))⟩
   ·
    replace hf56:=im' hf56 c113
    refine Am (BG [] O111 ?_)
    refine x_pre (fuel:=1) [] [(0,true),(1,true),(2,true),(3,true),(4,true),(5,true),(6,true),(7,true),(8,true),(9,true),(10,true),(11,true),(12,true),(13,true),(14,true)] (by kernel_rfl) rfl ?_
    refine h_mv rfl rfl rfl (h_fa rfl rfl rfl (h_ldC (hc:=fun w' ⟨O',hq⟩=>Blk.cell (i:=0) ((h80.st hq (by decide)).1) rfl) rfl rfl rfl ?_))
    obtain ⟨a114,e115,hf56⟩:=bs hf56
    obtain ⟨p117,x116⟩:=AN e115
    obtain ⟨b118,o119,ce120,hA121,hF124,hl122,hd123,rfl⟩:=h63.elemF x116
    refine h_iaE (hA:=hA121) (hj:=(Int.toNat_of_nonneg p117).symm) (hlt:=hl122) rfl rfl rfl rfl ?_
    refine h_ldC (hc:=fun w' ⟨O',hq⟩=>cat0 (Bj (hq.agree (i:=4) (by decide)) hF124 hd123)) rfl rfl rfl ?_
    refine h_mv rfl rfl rfl (h_mv rfl rfl rfl ?_)
    obtain ⟨a125,e126,hf56⟩:=bs hf56
    obtain ⟨b127,o128,ce129,hA130,hF133,hl131,hd132,rfl,r134⟩:=hx1.elem e126
    refine h_iaE (hA:=hA130) (hj:=rfl) (hlt:=hl131) rfl rfl rfl rfl ?_
    refine h_ldC (hc:=fun w' ⟨O',hq⟩=>cat0 (Bj (hq.agree (i:=0) (by decide)) hF133 hd132)) rfl rfl rfl ?_
    refine h_cvU rfl rfl rfl ?_
    refine h_fa rfl rfl rfl (h_ldC (hc:=fun w' ⟨O',hq⟩=>Blk.cell (i:=1) ((h80.st hq (by decide)).1) rfl) rfl rfl rfl ?_)
    obtain ⟨n135,e136,hf56⟩:=bs hf56
    refine h_ush (a:=(BitVec.ofInt 64 a125)) (he:=e136) rfl rfl rfl rfl ?_
    refine h_uor (a:=a114) (b:=n135) rfl rfl rfl rfl ?_
    obtain ⟨a137,e138,hf56⟩:=bs hf56
    obtain ⟨p140,x139⟩:=AN e138
    obtain ⟨b141,o142,ce143,hA144,hF147,hl145,hd146,rfl⟩:=h63.elemF x139
    refine h_iaE (hA:=hA144) (hj:=(Int.toNat_of_nonneg p140).symm) (hlt:=hl145) rfl rfl rfl rfl ?_
    refine AK ?_
    refine x_one (i:=15) (by kernel_rfl) rfl ?_
    refine CM rfl h63 (a:=(a114 ||| n135)) vU64 hA144 rfl rfl (AJ x139) fun w148 S149 h63=>?_
    replace h45:=h45.stS S149 (by decide) (by decide)
    refine x_end (by kernel_rfl) ?_
    refine x_nil (by kernel_rfl) ?_
    obtain rfl:=sm hf56
    refine (?_:Exists _)
    replace hB:=hB.st S149
    replace hx1:=hx1.st S149
    replace h42:=h42.st S149
    exact ⟨_,(),rfl,⟨rfl,rfl,rfl,rfl,rfl,trivial⟩,_,hB,hx1,h63,h45,h42⟩
  replace hB:=((hB.st S8).st S35).st S41
  rintro l150 w151 ⟨s154,x155,rfl,hs153,O152,hB,h63,h42⟩
  replace hm:=AW hm
  refine AO _ hs153 ?_
  refine Ah (Ae (o_mv rfl rfl (o_as rfl rfl (o_as rfl rfl (o_z ?_)))))
  refine Au ?_
  obtain ⟨O156,S157,h63⟩:=h63.freeze
  obtain rfl:=sm hm
  replace hB:=hB.st S157
  obtain ⟨O',hS',hz,hl⟩:=hE.leave (fun q=>if q=2 then i0 else 0) rfl hB
  replace h42:=h42.st S157
  exact ret2 rfl (AG rfl) (AG rfl) ⟨O',hS',_,_,(Ob.leave h42 hz (hl 2 (by decide) (by decide)) hx0.2),rfl,(Vb.mono h63 hz),(vErr (show inI64 0 from by decide))⟩
noncomputable def Ce (x0:Pkr) (x1:List U64):Option ((List Int)×Err) :=
  if (x1.length:Int)≠x0.words then (some (([]:List Int),(⟨2⟩:Err))) else (bnd (mkI 8 (0:Int) (x0.fields.length:Int)) fun u25=>bnd (BW x1) fun q38=>bnd (rng (ρ:=(List Int)×Err) (fun (k60:Nat) (a61:PFd) (s58:(List Int)×(List U64))=>bnd (Cv a61 x1) fun q97=>bnd (s58.1[k60]?) fun a105=>bnd ((s58.1.set k60 q97)[k60]?) fun a117=>if a61.size≤a117 then (some (.ret (([]:List Int),(⟨2⟩:Err)))) else (bnd (atI s58.2 a61.word) fun a128=>bnd (Cg a61) fun q139=>bnd (atI s58.2 a61.word) fun a146=>some (.next ((s58.1.set k60 q97),(s58.2.set (a61.word:Int).toNat (a128 &&& ~~~q139)))))) x0.fields 0 (u25,q38)) fun res56=>fin res56 fun (s163:(List Int)×(List U64))=>bnd (rng (ρ:=(List Int)×Err) (fun (k171:Nat) (a172:U64) (s169:Unit)=>bnd (s163.2[k171]?) fun a182=>if (a182.toNat:Int)≠((0:U64).toNat:Int) then (some (.ret (([]:List Int),(⟨2⟩:Err)))) else (some (.next ()))) q38 0 ()) fun res167=>fin res167 fun (s196:Unit)=>some (s163.1,(⟨0⟩:Err)))
theorem GD {w:World} {O:Lab} {p0 i0:Nat} {x0:Pkr} (hx0:Ob i0 w O (.pointer (some ⟨p0,0,none⟩)) x0) {vx1:Value} {x1:List U64} (hx1:Vb w (Fr 0 w O) vx1 x1) {r:(List Int)×Err} (hm:Ce x0 x1=some r) :
    Fn Try.prog 62 [(.pointer (some ⟨p0,0,none⟩)),vx1] w fun v w'=>∃ O',St (eT i0) w O w' O'∧∃ v0 v1:Value,Ob i0 w' O' (.pointer (some ⟨p0,0,none⟩)) x0∧v=.tuple #[v0,v1]∧Vb w' (Fr 0 w' O') v0 r.1∧Vb w' (Fr 0 w' O') v1 r.2:=by
 obtain ⟨O0,hE,hz0,hl2⟩:=ent1 (w:=w) (O:=O) hx0.2
 have hx0':=Ob.leave hx0 hz0 hl2 (j:=2) (by decide)
 have hB:Bm w O0 w O0:=Bm.refl
 replace hx1:=hx1.mono hz0
 obtain ⟨A3,c4,rfl⟩:=hx1.form
 refine AL Try.func62 rfl Try.ntmps62 rfl ?_
 unfold Ce at hm
 refine Ah (Ae (o_as rfl rfl (o_as rfl rfl (o_z ?_))))
 refine Ah (Ah (Ae (o_mv rfl rfl (o_pn rfl rfl ?_))))
 refine o_z ?_
 refine Aj rfl (Am (Ah (Ah (Ae (o_mv rfl rfl (o_ln rfl rfl ?_))))))
 have l6:x1.length≤9223372036854775807:=Nat.le_trans hx1.len.2.1 hx1.len.2.2
 have r5:inI64 (x1.length:Int):=rngNat l6
 refine o_mv rfl rfl (o_nc rfl rfl ?_)
 obtain ⟨O7,v11,S8,ha10,h9,h12,r16⟩:=Pkr.opn hx0' 2 3 (by decide)
 obtain ⟨A13,c14,rfl⟩:=h12.form
 refine o_fa rfl rfl (o_ld (hc:=Blk.cell (i:=1) (h9.1) rfl) rfl rfl ?_)
 refine o_neS rfl rfl rfl (fun c17=>?_) fun c17=>?_
 ·
  replace hm:=ip hm c17
  refine o_z ?_
  refine Ar rfl (Ah (Ae (o_miE rfl rfl ?_)))
  refine o_as rfl rfl (o_as rfl rfl (o_z ?_))
  refine Au ?_
  obtain ⟨O18,S19,hz21,ha22,h20⟩:=Pkr.shut (x:=x0) (l0:=2) (l1:=3) (by decide) h9 h12 r16
  obtain rfl:=sm hm
  replace hB:=(hB.st S8).st S19
  obtain ⟨O',hS',hz,hl⟩:=hE.leave (fun q=>if q=2 then i0 else 0) rfl hB
  exact ret2 rfl (AG rfl) (AG rfl) ⟨O',hS',_,_,(Ob.leave h20 hz (hl 2 (by decide) (by decide)) hx0.2),rfl,(Vb.mono (Vb.nil _ _) hz),(vErr (by decide))⟩
 ·
  replace hm:=im hm c17
  refine o_z ?_
  refine Aj rfl (Am (Ah (Ae (o_mv rfl rfl (o_nc rfl rfl (o_fa rfl rfl (o_ld (hc:=Blk.cell (i:=0) (h9.1) rfl) rfl rfl ?_)))))))
  refine o_ln rfl rfl ?_
  have l24:x0.fields.length≤9223372036854775807:=Nat.le_trans h12.len.2.1 h12.len.2.2
  have r23:inI64 (x0.fields.length:Int):=rngNat l24
  obtain ⟨u25,e26,hm⟩:=bs hm
  obtain ⟨m27,e28,e29,e30,e31⟩:=Gw e26
  refine Iq 4 (by decide) O7 (z0:=(0:Int)) rfl rfl rfl rfl rfl e28 (vInt (show inI64 0 from by decide)) e29 e30 rfl fun g32 w33 O34 S35 h36=>?_
  rw [← e31] at h36 ⊢
  refine o_as rfl rfl (o_z ?_)
  refine Ah (Ae (o_mv rfl rfl ?_))
  obtain ⟨q38,e39,hm⟩:=bs hm
  replace hx1:=(hx1.st S8).st S35
  refine Hl 5 (by decide) (O:=O34) (EO Fr.lt hx1 e39) rfl rfl fun A45 c46 w40 O41 S42 h43=>?_
  refine o_as rfl rfl (o_z ?_)
  refine Ah (Ah (Ae (o_mv rfl rfl (o_nc rfl rfl (o_fa rfl rfl ?_)))))
  replace h9:=(h9.st S35).st S42
  refine o_ld (hc:=Blk.cell (i:=0) (h9.1) rfl) rfl rfl ?_
  refine o_ln rfl rfl ?_
  replace h12:=(h12.st S35).st S42
  have l49:x0.fields.length≤9223372036854775807:=Nat.le_trans h12.len.2.1 h12.len.2.2
  have r48:inI64 (x0.fields.length:Int):=rngNat l49
  refine o_mv rfl rfl (o_z ?_)
  obtain ⟨O50,S51,hz53,ha54,h52⟩:=Pkr.shut (x:=x0) (l0:=2) (l1:=3) (by decide) h9 h12 r16
  have h55:=(h12.lend [3] (by decide)).shutS S51 hz53 ha54 [2] (by decide)
  obtain ⟨res56,hL57,hm⟩:=bs hm
  refine AM (aft res56 (fun (s58:(List Int)×(List U64)) (x59:Unit)=>[(6,(.slice (some ⟨g32,0,none⟩) u25.length m27)),(7,(.slice A45 q38.length c46))]) (fun s58 x59 w'=>∃ O':Lab,Bm w O0 w' O'∧Rw 4 w' O' 3 (.slice (some ⟨g32,0,none⟩) u25.length m27) s58.1∧Rw 5 w' O' 150 (.slice A45 q38.length c46) s58.2∧Ob 2 w' O' (.pointer (some ⟨p0,0,none⟩)) x0)) ?_ ?_
  ·
   refine Al ?_
   replace hB:=(((hB.st S8).st S35).st S42).st S51
   replace hx1:=(hx1.st S42).st S51
   replace h36:=(h36.st S42).st S51
   replace h43:=h43.st S51
   refine BF (σ:=(List Int)×(List U64)) (X:=Unit) (x0.fields.length) hL57 rfl l49 (fun (s58:(List Int)×(List U64)) (x59:Unit)=>[(1,(.slice A3 x1.length c4)),(6,(.slice (some ⟨g32,0,none⟩) u25.length m27)),(7,(.slice A45 q38.length c46)),(34,(.slice A13 x0.fields.length c14))]) _ (fun s58 x59 w'=>∃ O':Lab,Bm w O0 w' O'∧Vb w' (Fr 0 w' O') (.slice A3 x1.length c4) x1∧Rw 4 w' O' 3 (.slice (some ⟨g32,0,none⟩) u25.length m27) s58.1∧Rw 5 w' O' 150 (.slice A45 q38.length c46) s58.2∧Vb w' (FrS [2] w' O') (.slice A13 x0.fields.length c14) x0.fields∧Ob 2 w' O' (.pointer (some ⟨p0,0,none⟩)) x0) _ () ⟨O50,hB,hx1,h36,h43,h55,h52⟩ ⟨rfl,rfl,rfl,rfl,rfl,rfl,trivial⟩ (fun _ _=>⟨rfl,rfl⟩) (fun _ _=>⟨rfl,rfl,trivial⟩) (fun _ _ _ ⟨O',hB,hx1,h75,h77,h55,h52⟩=>⟨O',hB,h75,h77,h52⟩) ⟨rfl,rfl,rfl⟩ ⟨rfl,rfl⟩ ?_
   rintro k60 a61 s58 x59 w62 cc64 hx65 ⟨O63,hB,hx1,h75,h77,h55,h52⟩ hf66 hret67 hbrk68
   have rk60:inI64 (k60:Int):=rngK hx65 l49
   refine Ah (Ae (o_mv rfl rfl ?_))
   obtain ⟨b79,o80,ce81,hA82,hl83,hd84,rfl,r86,r87,r88,r89⟩:=h55.elem' hx65
   refine o_iaE (hA:=hA82) (hj:=rfl) (hlt:=hl83) rfl rfl rfl ?_
   refine o_la (hl:=rfl) (hc:=hd84) rfl rfl ?_
   refine BY 6 O63 rfl fun g90 w91 O92 S93 h94=>?_
   replace h55:=h55.stS S93 id (fun _ _=>id)
   refine o_as rfl rfl (AV h94 rfl rfl rfl (Nat.le_of_ble_eq_true rfl) (by first|exact allOne rfl|simp [Value.cells,Value.oneCell',AQ]) fun w95 S96 h94=>?_)
   replace h94:Lc 6 w95 O92 g90 152 [(.int .i64 a61.word),(.int .i64 a61.bit),(.int .i64 a61.width),(.int .i64 a61.size)]:=h94
   replace h55:=h55.stS S96 (by decide) (by decide)
   refine o_z ?_
   refine Ah (Ae (o_mv rfl rfl (o_mv rfl rfl (o_la (hl:=rfl) (hc:=(h94.1).cellsAt) rfl rfl ?_))))
   refine o_mv rfl rfl ?_
   obtain ⟨q97,e98,hf66⟩:=bs hf66
   replace hx1:=(hx1.st S93).st S96
   refine BK (O:=O92) (A:=All w95) (R:=fun w' F v=>Vb w' F v q97) (HY (fun _ h=>h) (Vb.mono (F:=Fr 0 w95 O92) (Vb.ofAgg (cs:=[(.int .i64 a61.word),(.int .i64 a61.bit),(.int .i64 a61.width),(.int .i64 a61.size)]) (x:=a61) rfl ⟨rfl,r86,r87,r88,r89⟩) Fr.lt) (Vb.mono (F:=Fr 0 w95 O92) hx1 Fr.lt) e98) rfl rfl fun v103 w99 O100 S101 h102=>?_
   obtain ⟨rfl,r104⟩:=h102.int
   replace h55:=h55.stS S101 id (fun _ _=>id)
   obtain ⟨a105,e106,hf66⟩:=bs hf66
   replace h75:=((h75.st S93).st S96).st S101
   obtain ⟨b107,o108,ce109,hA110,hl111,hd112,rfl,r114⟩:=h75.elem e106
   refine o_iaE (hA:=hA110) (hj:=rfl) (hlt:=hl111) rfl rfl rfl ?_
   refine CM rfl h75 (a:=q97) (vInt r104) hA110 rfl rfl (AJ e106) fun w115 S116 h75=>?_
   replace h55:=h55.stS S116 (by decide) (by decide)
   refine o_z ?_
   refine Ah (Ah (BJ (·=w115) [(0,true),(1,true),(2,true),(3,true),(4,true),(5,true),(6,true)] (by kernel_rfl) rfl (by kernel_rfl) rfl ?_))
   refine h_mv rfl rfl rfl (h_mv rfl rfl rfl ?_)
   obtain ⟨a117,e118,hf66⟩:=bs hf66
   obtain ⟨b119,o120,ce121,hA122,hl123,hd124,rfl,r126⟩:=h75.elem e118
   refine h_iaE (hA:=hA122) (hj:=rfl) (hlt:=hl123) rfl rfl rfl rfl ?_
   refine h_ldA (hc:=cat0 hd124) rfl rfl rfl ?_
   refine h_fa rfl rfl rfl ?_
   replace h94:=(h94.st S101).st S116
   refine h_ldA (hc:=Blk.cell (i:=3) (h94.1) rfl) rfl rfl rfl ?_
   refine h_geS rfl rfl rfl rfl (fun c127=>?_) fun c127=>?_
   ·
    replace hf66:=ip hf66 c127
    refine h_z ?_
    refine Ar rfl (Ah (Ae (o_miE rfl rfl ?_)))
    refine o_as rfl rfl (o_as rfl rfl (o_z ?_))
    refine Au ?_
    obtain rfl:=sm hf66
    obtain rfl:=hret67 _ rfl
    obtain rfl:=sm (By hm)
    replace hB:=(((hB.st S93).st S96).st S101).st S116
    obtain ⟨O',hS',hz,hl⟩:=hE.leave (fun q=>if q=2 then i0 else 0) rfl hB
    replace h52:=(((h52.st S93).st S96).st S101).st S116
    exact ret2 rfl (AG rfl) (AG rfl) ⟨O',hS',_,_,(Ob.leave h52 hz (hl 2 (by decide) (by decide)) hx0.2),rfl,(Vb.mono (Vb.nil _ _) hz),(vErr (by decide))⟩
   ·
    replace hf66:=im hf66 c127
    refine h_z ?_
    refine Aj rfl (Am (BG [(6,[])] O100 ?_))
    refine x_pre (fuel:=4) [] [(0,true),(1,true),(2,true),(3,true),(4,true),(5,true)] (by kernel_rfl) rfl ?_
    refine h_mv rfl rfl rfl (h_fa rfl rfl rfl (h_ldC (hc:=fun w' ⟨O',hq⟩=>Blk.cell (i:=0) ((h94.st hq (by decide)).1) rfl) rfl rfl rfl ?_))
    obtain ⟨a128,e129,hf66⟩:=bs hf66
    obtain ⟨p131,x130⟩:=AN e129
    replace h77:=(((h77.st S93).st S96).st S101).st S116
    obtain ⟨b132,o133,ce134,hA135,hF138,hl136,hd137,rfl⟩:=h77.elemF x130
    refine h_iaE (hA:=hA135) (hj:=(Int.toNat_of_nonneg p131).symm) (hlt:=hl136) rfl rfl rfl rfl ?_
    refine h_ldC (hc:=fun w' ⟨O',hq⟩=>cat0 (Bj (hq.agree (i:=5) (by decide)) hF138 hd137)) rfl rfl rfl ?_
    refine h_laB (hl:=rfl) (hb:=fun w' ⟨O',hq⟩=>((h94.st hq (by decide)).1).cellsAt) rfl rfl rfl ?_
    refine AK ?_
    refine x_one (i:=6) (by kernel_rfl) rfl ?_
    obtain ⟨q139,e140,hf66⟩:=bs hf66
    refine BK (O:=O100) (A:=All w115) (R:=fun w' F v=>Vb w' F v q139) (Fl (fun _ h=>h) (Vb.mono (F:=Fr 0 w115 O100) (Vb.ofAgg (cs:=[(.int .i64 a61.word),(.int .i64 a61.bit),(.int .i64 a61.width),(.int .i64 a61.size)]) (x:=a61) rfl ⟨rfl,r86,r87,r88,r89⟩) Fr.lt) e140) rfl rfl fun v145 w141 O142 S143 h144=>?_
    obtain rfl:=h144.u64
    have hZ:=S143.lst [] (fun _ h=>h.elim)
    replace h55:=h55.stS S143 id (fun _ _=>id)
    refine x_go [] hZ (by kernel_rfl) ?_
    refine x_pre (fuel:=1) [] [(7,true),(8,true)] (by kernel_rfl) rfl ?_
    refine h_uns (a:=a128) (b:=q139) rfl rfl rfl rfl ?_
    obtain ⟨a146,e147,hf66⟩:=bs hf66
    obtain ⟨p149,x148⟩:=AN e147
    replace h77:=h77.st S143
    obtain ⟨b150,o151,ce152,hA153,hF156,hl154,hd155,rfl⟩:=h77.elemF x148
    refine h_iaE (hA:=hA153) (hj:=(Int.toNat_of_nonneg p149).symm) (hlt:=hl154) rfl rfl rfl rfl ?_
    refine AK ?_
    refine x_one (i:=9) (by kernel_rfl) rfl ?_
    refine CM rfl h77 (a:=(a128 &&& ~~~q139)) vU64 hA153 rfl rfl (AJ x148) fun w157 S158 h77=>?_
    replace h55:=h55.stS S158 (by decide) (by decide)
    refine x_end (by kernel_rfl) ?_
    refine x_nil (by kernel_rfl) ?_
    obtain rfl:=sm hf66
    refine (?_:Exists _)
    replace hB:=(((((hB.st S93).st S96).st S101).st S116).st S143).st S158
    replace hx1:=(((hx1.st S101).st S116).st S143).st S158
    replace h52:=(((((h52.st S93).st S96).st S101).st S116).st S143).st S158
    replace h75:=(h75.st S143).st S158
    exact ⟨_,(),rfl,⟨rfl,rfl,rfl,rfl,rfl,rfl,trivial⟩,_,hB,hx1,h75,h77,h55,h52⟩
  replace hB:=(((hB.st S8).st S35).st S42).st S51
  rintro l159 w160 ⟨s163,x164,rfl,hs162,O161,hB,h75,h77,h52⟩
  replace hm:=AW hm
  refine AO _ hs162 ?_
  refine Ah (Ah (Ae (o_mv rfl rfl (o_ln rfl rfl ?_))))
  have l166:q38.length≤9223372036854775807:=Nat.le_trans h77.len.2.1 h77.len.2.2
  have r165:inI64 (q38.length:Int):=rngNat l166
  refine o_mv rfl rfl (o_z ?_)
  obtain ⟨res167,hL168,hm⟩:=bs hm
  refine AM (aft res167 (fun (s169:Unit) (x170:Unit)=>[(6,(.slice (some ⟨g32,0,none⟩) u25.length m27))]) (fun s169 x170 w'=>∃ O':Lab,Bm w O0 w' O'∧Rw 4 w' O' 3 (.slice (some ⟨g32,0,none⟩) u25.length m27) s163.1∧Ob 2 w' O' (.pointer (some ⟨p0,0,none⟩)) x0)) ?_ ?_
  ·
   refine Al (BF (σ:=Unit) (X:=Unit) (q38.length) hL168 rfl l166 (fun (s169:Unit) (x170:Unit)=>[(6,(.slice (some ⟨g32,0,none⟩) u25.length m27)),(65,(.slice A45 q38.length c46))]) _ (fun s169 x170 w'=>∃ O':Lab,Bm w O0 w' O'∧Rw 4 w' O' 3 (.slice (some ⟨g32,0,none⟩) u25.length m27) s163.1∧Rw 5 w' O' 150 (.slice A45 q38.length c46) s163.2∧Ob 2 w' O' (.pointer (some ⟨p0,0,none⟩)) x0) _ () ⟨O161,hB,h75,h77,h52⟩ ⟨rfl,rfl,rfl,rfl,trivial⟩ (fun _ _=>⟨rfl,rfl⟩) (fun _ _=>⟨rfl,trivial⟩) (fun _ _ _ ⟨O',hB,h75,h77,h52⟩=>⟨O',hB,h75,h52⟩) ⟨rfl,rfl,rfl⟩ ⟨rfl,rfl⟩ ?_)
   rintro k171 a172 s169 x170 w173 cc175 hx176 ⟨O174,hB,h75,h77,h52⟩ hf177 hret178 hbrk179
   have rk171:inI64 (k171:Int):=rngK hx176 l166
   refine Ah (Ae ?_)
   obtain ⟨a182,e183,hf177⟩:=bs hf177
   obtain ⟨b184,o185,ce186,hA187,hl188,hd189,rfl⟩:=h77.elem e183
   refine o_iaE (hA:=hA187) (hj:=rfl) (hlt:=hl188) rfl rfl rfl ?_
   refine o_ld (hc:=cat0 hd189) rfl rfl ?_
   refine o_as rfl rfl (o_z ?_)
   refine Ah (Ae (o_mv rfl rfl (o_neS rfl rfl rfl (fun c191=>?_) fun c191=>?_)))
   ·
    replace hf177:=ip hf177 c191
    refine o_z ?_
    refine Ar rfl (Ah (Ae (o_miE rfl rfl ?_)))
    refine o_as rfl rfl (o_as rfl rfl (o_z ?_))
    refine Au ?_
    obtain rfl:=sm hf177
    obtain rfl:=hret178 _ rfl
    obtain rfl:=sm (By hm)
    obtain ⟨O',hS',hz,hl⟩:=hE.leave (fun q=>if q=2 then i0 else 0) rfl hB
    exact ret2 rfl (AG rfl) (AG rfl) ⟨O',hS',_,_,(Ob.leave h52 hz (hl 2 (by decide) (by decide)) hx0.2),rfl,(Vb.mono (Vb.nil _ _) hz),(vErr (by decide))⟩
   ·
    replace hf177:=im hf177 c191
    refine o_z ?_
    refine Aj rfl (Am ?_)
    obtain rfl:=sm hf177
    refine (?_:Exists _)
    exact ⟨_,(),rfl,⟨rfl,rfl,rfl,rfl,trivial⟩,_,hB,h75,h77,h52⟩
  rintro l192 w193 ⟨s196,x197,rfl,hs195,O194,hB,h75,h52⟩
  replace hm:=AW hm
  refine AO _ hs195 ?_
  refine Ah (Ae (o_mv rfl rfl (o_as rfl rfl (o_as rfl rfl (o_z ?_)))))
  refine Au ?_
  obtain ⟨O198,S199,h75⟩:=h75.freeze
  obtain rfl:=sm hm
  replace hB:=hB.st S199
  obtain ⟨O',hS',hz,hl⟩:=hE.leave (fun q=>if q=2 then i0 else 0) rfl hB
  replace h52:=h52.st S199
  exact ret2 rfl (AG rfl) (AG rfl) ⟨O',hS',_,_,(Ob.leave h52 hz (hl 2 (by decide) (by decide)) hx0.2),rfl,(Vb.mono h75 hz),(vErr (show inI64 0 from by decide))⟩
noncomputable def BB (x0:Pkr) (x1:List U64):Option Int :=
  bnd (rng (ρ:=Int) (fun (k13:Nat) (a14:U64) (s11:U64)=>bnd (shrU ((s11 ^^^ a14) * (13787848793156543929:U64)) 29) fun n31=>some (.next (((s11 ^^^ a14) * (13787848793156543929:U64)) ^^^ n31))) x1 0 ((BitVec.ofInt 64 (x1.length:Int)) + (11400714819323198485:U64))) fun res9=>fin res9 fun (s37:U64)=>bnd (shrU s37 2) fun n39=>some n39.toInt
theorem Hp {w:World} {O:Lab} {p0 i0:Nat} {x0:Pkr} (hx0:Ob i0 w O (.pointer (some ⟨p0,0,none⟩)) x0) {vx1:Value} {x1:List U64} (hx1:Vb w (Fr 0 w O) vx1 x1) {r:Int} (hm:BB x0 x1=some r) :
    Fn Try.prog 81 [(.pointer (some ⟨p0,0,none⟩)),vx1] w fun v w'=>∃ O',St (eT i0) w O w' O'∧Ob i0 w' O' (.pointer (some ⟨p0,0,none⟩)) x0∧Vb w' (Fr 0 w' O') v r:=by
 obtain ⟨O0,hE,hz0,hl2⟩:=ent1 (w:=w) (O:=O) hx0.2
 have hx0':=Ob.leave hx0 hz0 hl2 (j:=2) (by decide)
 have hB:Bm w O0 w O0:=Bm.refl
 replace hx1:=hx1.mono hz0
 obtain ⟨A3,c4,rfl⟩:=hx1.form
 refine AL Try.func81 rfl Try.ntmps81 rfl ?_
 unfold BB at hm
 refine Ah (Ae (o_as rfl rfl (o_z ?_)))
 refine Ah (Ah (Ae (o_mv rfl rfl (o_pn rfl rfl ?_))))
 refine o_z ?_
 refine Aj rfl (Am (Ah (Ae (o_mv rfl rfl (o_ln rfl rfl ?_)))))
 have l6:x1.length≤9223372036854775807:=Nat.le_trans hx1.len.2.1 hx1.len.2.2
 have r5:inI64 (x1.length:Int):=rngNat l6
 refine o_cvU rfl rfl ?_
 refine o_uad (a:=(BitVec.ofInt 64 (x1.length:Int))) (b:=(11400714819323198485:U64)) rfl rfl rfl ?_
 refine o_as rfl rfl (o_z ?_)
 refine Ah (Ah (Ae (o_mv rfl rfl (o_ln rfl rfl ?_))))
 have l8:x1.length≤9223372036854775807:=Nat.le_trans hx1.len.2.1 hx1.len.2.2
 have r7:inI64 (x1.length:Int):=rngNat l8
 refine o_mv rfl rfl (o_z ?_)
 obtain ⟨res9,hL10,hm⟩:=bs hm
 refine AM (aft res9 (fun (s11:U64) (x12:Unit)=>[(5,(.int .u64 s11.toNat))]) (fun s11 x12 w'=>∃ O':Lab,Bm w O0 w' O'∧Ob 2 w' O' (.pointer (some ⟨p0,0,none⟩)) x0)) ?_ ?_
 ·
  refine Al (BF (σ:=U64) (X:=Unit) (x1.length) hL10 rfl l8 (fun (s11:U64) (x12:Unit)=>[(5,(.int .u64 s11.toNat)),(14,(.slice A3 x1.length c4))]) _ (fun s11 x12 w'=>∃ O':Lab,Bm w O0 w' O'∧Vb w' (Fr 0 w' O') (.slice A3 x1.length c4) x1∧Ob 2 w' O' (.pointer (some ⟨p0,0,none⟩)) x0) _ () ⟨O0,hB,hx1,hx0'⟩ ⟨rfl,rfl,rfl,rfl,trivial⟩ (fun _ _=>⟨rfl,rfl⟩) (fun _ _=>⟨rfl,trivial⟩) (fun _ _ _ ⟨O',hB,hx1,hx0'⟩=>⟨O',hB,hx0'⟩) ⟨rfl,rfl,rfl⟩ ⟨rfl,rfl⟩ ?_)
  rintro k13 a14 s11 x12 w15 cc17 hx18 ⟨O16,hB,hx1,hx0'⟩ hf19 hret20 hbrk21
  have rk13:inI64 (k13:Int):=rngK hx18 l8
  refine Ah (Ae ?_)
  obtain ⟨b24,o25,ce26,hA27,hl28,hd29,rfl⟩:=hx1.elem' hx18
  refine o_iaE (hA:=hA27) (hj:=rfl) (hlt:=hl28) rfl rfl rfl ?_
  refine o_ld (hc:=cat0 hd29) rfl rfl ?_
  refine o_as rfl rfl (o_z ?_)
  refine Ah (Ae (o_mv rfl rfl (o_mv rfl rfl (o_uxo (a:=s11) (b:=a14) rfl rfl rfl ?_))))
  refine o_as rfl rfl (o_z ?_)
  refine Ah (Ae (o_mv rfl rfl (o_uml (a:=(s11 ^^^ a14)) (b:=(13787848793156543929:U64)) rfl rfl rfl ?_)))
  refine o_as rfl rfl (o_z ?_)
  refine Ae (o_mv rfl rfl (o_mv rfl rfl ?_))
  obtain ⟨n31,e32,hf19⟩:=bs hf19
  refine o_usr (a:=((s11 ^^^ a14) * (13787848793156543929:U64))) (he:=e32) rfl rfl rfl ?_
  refine o_uxo (a:=((s11 ^^^ a14) * (13787848793156543929:U64))) (b:=n31) rfl rfl rfl ?_
  refine o_as rfl rfl (o_z ?_)
  obtain rfl:=sm hf19
  refine (?_:Exists _)
  exact ⟨_,(),rfl,⟨rfl,rfl,rfl,rfl,trivial⟩,_,hB,hx1,hx0'⟩
 rintro l33 w34 ⟨s37,x38,rfl,hs36,O35,hB,hx0'⟩
 replace hm:=AW hm
 refine AO _ hs36 ?_
 refine Ah (Ae (o_mv rfl rfl ?_))
 obtain ⟨n39,e40,hm⟩:=bs hm
 refine o_usr (a:=s37) (he:=e40) rfl rfl rfl ?_
 refine o_cvI (a:=n39) rfl rfl ?_
 refine o_as rfl rfl (o_z ?_)
 refine Au ?_
 obtain rfl:=sm hm
 obtain ⟨O',hS',hz,hl⟩:=hE.leave (fun q=>if q=2 then i0 else 0) rfl hB
 exact ret1v rfl (AG rfl) ⟨O',hS',(Ob.leave hx0' hz (hl 2 (by decide) (by decide)) hx0.2),(vInt (toIntR _))⟩
noncomputable def Br (x0:List U64) (x1:List U64):Option Bool :=
  if (x0.length:Int)≠(x1.length:Int) then (some false) else (bnd (rng (ρ:=Bool) (fun (k18:Nat) (a19:U64) (s16:Unit)=>bnd (x1[k18]?) fun a36=>if (a19.toNat:Int)≠(a36.toNat:Int) then (some (.ret false)) else (some (.next ()))) x0 0 ()) fun res14=>fin res14 fun (s50:Unit)=>some true)
theorem EP {w:World} {A:Nat→Prop} (hA:∀ k,A k→k < w.heap.size) {vx0:Value} {x0:List U64} (hx0:Vb w A vx0 x0) {vx1:Value} {x1:List U64} (hx1:Vb w A vx1 x1) {r:Bool} (hm:Br x0 x1=some r) :
    Fn Try.prog 82 [vx0,vx1] w fun v w'=>Ext w w'∧Vb w' (upA A w w') v r:=by
 obtain ⟨O,hB,hA0⟩:=enter hA
 replace hx0:=hx0.mono hA0
 obtain ⟨A3,c4,rfl⟩:=hx0.form
 replace hx1:=hx1.mono hA0
 obtain ⟨A5,c6,rfl⟩:=hx1.form
 refine AL Try.func82 rfl Try.ntmps82 rfl ?_
 unfold Br at hm
 refine Ah (Ae (o_as rfl rfl (o_z ?_)))
 refine Ah (Ah (Ae (o_mv rfl rfl (o_ln rfl rfl ?_))))
 have l8:x0.length≤9223372036854775807:=Nat.le_trans hx0.len.2.1 hx0.len.2.2
 have r7:inI64 (x0.length:Int):=rngNat l8
 refine o_mv rfl rfl (o_ln rfl rfl ?_)
 have l10:x1.length≤9223372036854775807:=Nat.le_trans hx1.len.2.1 hx1.len.2.2
 have r9:inI64 (x1.length:Int):=rngNat l10
 refine o_neS rfl rfl rfl (fun c11=>?_) fun c11=>?_
 ·
  replace hm:=ip hm c11
  refine o_z ?_
  refine Ar rfl (Ah (Ae (o_as rfl rfl (o_z ?_))))
  refine Au ?_
  obtain rfl:=sm hm
  exact ret1v rfl (AG rfl) ⟨hB.ext,vBool⟩
 ·
  replace hm:=im hm c11
  refine o_z ?_
  refine Aj rfl (Am (Ah (Ah (Ae (o_mv rfl rfl (o_ln rfl rfl ?_))))))
  have l13:x0.length≤9223372036854775807:=Nat.le_trans hx0.len.2.1 hx0.len.2.2
  have r12:inI64 (x0.length:Int):=rngNat l13
  refine o_mv rfl rfl (o_z ?_)
  obtain ⟨res14,hL15,hm⟩:=bs hm
  refine AM (aft res14 (fun (s16:Unit) (x17:Unit)=>[]) (fun s16 x17 w'=>∃ O':Lab,Bs w A w' O')) ?_ ?_
  ·
   refine Al (BF (σ:=Unit) (X:=Unit) (x0.length) hL15 rfl l13 (fun (s16:Unit) (x17:Unit)=>[(0,(.slice A3 x0.length c4)),(1,(.slice A5 x1.length c6))]) _ (fun s16 x17 w'=>∃ O':Lab,Bs w A w' O'∧Vb w' (Fr 0 w' O') (.slice A3 x0.length c4) x0∧Vb w' (Fr 0 w' O') (.slice A5 x1.length c6) x1) _ () ⟨O,hB,hx0,hx1⟩ ⟨rfl,rfl,rfl,rfl,trivial⟩ (fun _ _=>⟨rfl,rfl⟩) (fun _ _=>trivial) (fun _ _ _ ⟨O',hB,hx0,hx1⟩=>⟨O',hB⟩) ⟨rfl,rfl,rfl⟩ ⟨rfl,rfl⟩ ?_)
   rintro k18 a19 s16 x17 w20 cc22 hx23 ⟨O21,hB,hx0,hx1⟩ hf24 hret25 hbrk26
   have rk18:inI64 (k18:Int):=rngK hx23 l13
   refine Ah (Ae (o_mv rfl rfl (o_as rfl rfl (o_z ?_))))
   refine Ah (BJ (·=w20) [(0,true),(1,true),(2,true),(3,true),(4,true),(5,true),(6,true),(7,true),(8,true)] (by kernel_rfl) rfl (by kernel_rfl) rfl ?_)
   refine h_mv rfl rfl rfl (h_mv rfl rfl rfl ?_)
   obtain ⟨b29,o30,ce31,hA32,hl33,hd34,rfl⟩:=hx0.elem' hx23
   refine h_iaE (hA:=hA32) (hj:=rfl) (hlt:=hl33) rfl rfl rfl rfl ?_
   refine h_ldA (hc:=cat0 hd34) rfl rfl rfl ?_
   refine h_mv rfl rfl rfl (h_mv rfl rfl rfl ?_)
   obtain ⟨a36,e37,hf24⟩:=bs hf24
   obtain ⟨b38,o39,ce40,hA41,hl42,hd43,rfl⟩:=hx1.elem' e37
   refine h_iaE (hA:=hA41) (hj:=rfl) (hlt:=hl42) rfl rfl rfl rfl ?_
   refine h_ldA (hc:=cat0 hd43) rfl rfl rfl ?_
   refine h_neS rfl rfl rfl rfl (fun c45=>?_) fun c45=>?_
   ·
    replace hf24:=ip hf24 c45
    refine h_z ?_
    refine Ar rfl (Ah (Ae (o_as rfl rfl (o_z ?_))))
    refine Au ?_
    obtain rfl:=sm hf24
    obtain rfl:=hret25 _ rfl
    obtain rfl:=sm (By hm)
    exact ret1v rfl (AG rfl) ⟨hB.ext,vBool⟩
   ·
    replace hf24:=im hf24 c45
    refine h_z ?_
    refine Aj rfl (Am ?_)
    obtain rfl:=sm hf24
    refine (?_:Exists _)
    exact ⟨_,(),rfl,⟨rfl,rfl,rfl,rfl,trivial⟩,_,hB,hx0,hx1⟩
  rintro l46 w47 ⟨s50,x51,rfl,hs49,O48,hB⟩
  replace hm:=AW hm
  refine AO _ hs49 ?_
  refine Ah (Ae (o_as rfl rfl (o_z ?_)))
  refine Au ?_
  obtain rfl:=sm hm
  exact ret1v rfl (AG rfl) ⟨hB.ext,vBool⟩
end
section
open Go Go.RowKit
class TMap (P:Program) (t:TypeId) (k e:outParam TypeId):Prop where eq:P.underlying t=some (.map k e)
class MKey (K:Type) where
  dec:DecidableEq K
  enc:K→Value
  desc:TypeDesc
  key:∀ a,MapKept.IsKey desc (enc a)
  inj:∀ a b,enc a=enc b→a=b
class TKey (P:Program) (t:TypeId) (K:Type) [MKey K]:Prop where eq:P.underlying t=some (MKey.desc K)
instance:MKey Int where
  dec:=inferInstance
  enc a:=.int .i64 a
  desc:=.int .i64
  key _:=rfl
  inj _ _ h:=by injection h
section
variable {K V : Type} [MKey K]
instance keyDec:DecidableEq K:=MKey.dec
def mhas:List (K×V)→K→Bool
  | [],_=>false
  | p :: r,k=>if p.1=k then true else mhas r k
def mget (z:V):List (K×V)→K→V
  | [],_=>z
  | p :: r,k=>if p.1=k then p.2 else mget z r k
def mput:List (K×V)→K→V→List (K×V)
  | [],k,v=>[(k,v)]
  | p :: r,k,v=>if p.1=k then (k,v) :: r else p :: mput r k v
def midx:List (K×V)→K→Option Nat
  | [],_=>none
  | p :: r,k=>if p.1=k then some 0 else (midx r k).map (· + 1)
theorem EB (a:K):∀ (es:List MapEntry) (x:List (K×V)) (i:Nat),es.map (·.key)=x.map (fun p=>MKey.enc p.1) →
    (midx x a=none∧Instr.findNow (MKey.desc K) (MKey.enc a) es i=some none∧mhas x a=false∧(∀ z,mget z x a=z)∧∀ v,mput x a v=x ++ [(a,v)]) ∨
    ∃ j e p,midx x a=some j∧es[j]?=some e∧x[j]?=some p∧Instr.findNow (MKey.desc K) (MKey.enc a) es i=some (some (i + j,e.val))∧e.key=MKey.enc a∧mhas x a=true∧(∀ z,mget z x a=p.2)∧∀ v,mput x a v=x.set j (a,v)
  | [],[],_,_=>.inl ⟨rfl,rfl,rfl,fun _=>rfl,fun _=>rfl⟩
  | [],_ :: _,_,h=>by simp at h
  | _ :: _,[],_,h=>by simp at h
  | e :: es,p :: x,i,h=>by
    rw [List.map_cons,List.map_cons] at h
    injection h with h1 h2
    obtain ⟨r,hr,hiff⟩:=MapKept.sameNow_of_keys (MKey.key a) (MKey.key p.1)
    by_cases hp:p.1=a
    · have:r=true:=hiff.2 (by rw [hp])
      subst this
      refine .inr ⟨0,e,p,by simp [midx,hp],rfl,rfl,?_,by rw [h1,hp],by simp [mhas,hp],fun z=>by simp [mget,hp],fun v=>by simp [mput,hp]⟩
      simp [Instr.findNow,h1,hr]
    · have:r=false:=by
        cases r with
        | false=>rfl
        | true=>exact absurd (MKey.inj _ _ (hiff.1 rfl)).symm hp
      subst this
      rcases EB a es x (i + 1) h2 with ⟨g0,g1,g2,g3,g4⟩|⟨j,e',p',g0,g1,g2,g3,g4,g5,g6,g7⟩
      · exact .inl ⟨by simp [midx,hp,g0],by simp [Instr.findNow,h1,hr,g1],by simp [mhas,hp,g2],fun z=>by simp [mget,hp,g3],fun v=>by simp [mput,hp,g4]⟩
      · refine .inr ⟨j + 1,e',p',by simp [midx,hp,g0],by simpa using g1,by simpa using g2,?_,g4,by simp [mhas,hp,g5],fun z=>by simp [mget,hp,g6],fun v=>by simp [mput,hp,g7]⟩
        simp [Instr.findNow,h1,hr,g3];omega
end
def LkV (d:TypeDesc) (z:Value) (w:World) (r:Nat) (key v:Value) (b:Bool):Prop:=∃ es ck a,w.heap[r]?=some (.map es ck)∧Instr.findNow d key es.toList 0=some a∧v=(match a with|some p=>p.2|none=>z)∧b=a.isSome
theorem LkV.keep {d:TypeDesc} {z:Value} {w w':World} {r:Nat} {key v:Value} {b:Bool} (h:LkV d z w r key v b) (e:w'.heap[r]?=w.heap[r]?):LkV d z w' r key v b:=by
  obtain ⟨es,ck,a,h1,h2⟩:=h
  exact ⟨es,ck,a,e.trans h1,h2⟩
section
variable {P : Program} {l : Env} {w : World} {dst : Option Tmp} {ty : TypeId} {pos : String} {aft : Array Edge}
theorem ev_lk {K:Type} [MKey K] {t k e:TypeId} [ht:TMap P t k e] [hk:TKey P k K] {z:Value} {size bytes:Nat} [TInfo P e z size bytes] {x y:Operand} {r:Nat} {a:K} {v:Value} {b:Bool} (hx:opv l x=some (.map (some r))) (hy:opv l y=some (MKey.enc a)) (hv:LkV (MKey.desc K) z w r (MKey.enc a) v b) :
    Ev P ⟨dst,.lookup t x y false,ty,pos,aft,none⟩ l w v:=fun _ _ d ha=>by
  obtain ⟨es,ck,q,h1,h2,h3,h4⟩:=hv
  have hb:(dr w d).heap[r]?=some (.map es ck):=h1
  subst h3
  cases q with
  | none=>simp [execOp,ha.eval hx,ha.eval hy,Instr.lookup,run_underlying ht.eq,MapKept.run_getObj_map hb,MapKept.run_checkKey hk.eq (MKey.key a),MapKept.run_findKey hk.eq h2,Result.andThen,Gt (P:=P) (t:=e)]
  | some p=>simp [execOp,ha.eval hx,ha.eval hy,Instr.lookup,run_underlying ht.eq,MapKept.run_getObj_map hb,MapKept.run_checkKey hk.eq (MKey.key a),MapKept.run_findKey hk.eq h2,Result.andThen]
end
def putEs (es:List MapEntry) (ck:Nat) (key v:Value):Option Nat→List MapEntry
  | none=>es ++ [{ key:=key,val:=v,born:=ck }]
  | some j=>es.modify j fun e=>{ e with key:=key,val:=v }
section
variable {P : Program} {n : Nat} {ops : Array Oper} {Q : Post} {rest : List Oper} {l : Env} {w : World} {d : Tmp} {ty : TypeId} {pos : String} {aft : Array Edge}
theorem LJ {K V:Type} [MKey K] {t k e:TypeId} [ht:TMap P t k e] [hk:TKey P k K] {x y u:Operand} {r ck:Nat} {a:K} {v:Value} {es:List MapEntry} {xs:List (K×V)} (hb:w.heap[r]?=some (.map es.toArray ck)) (hks:es.map (·.key)=xs.map (fun p=>MKey.enc p.1)) (hx:opv l x=some (.map (some r))) (hy:opv l y=some (MKey.enc a)) (hu:opv l u=some v)
    (h:∀ w' ck',w'.os=w.os→w'.tape=w.tape→w'.output=w.output→w'.heap.size=w.heap.size→w'.heap[r]?=some (.map (putEs es ck (MKey.enc a) v (midx xs a)).toArray ck')→(∀ q,q≠r→w'.heap[q]?=w.heap[q]?)→owp P n ops Q rest l w'):owp P n ops Q (⟨none,.mapUpdate t x y u,ty,pos,aft,none⟩ :: rest) l w:=fun ac d ha=>by
  refine wpList_plain rfl fun K' hK=>?_
  have hbd:(dr w d).heap[r]?=some (.map es.toArray ck):=hb
  unfold Oper.wp
  rcases EB a es xs 0 hks with ⟨g0,g1,_⟩|⟨j,e',p,g0,g1,g2,g3,g4,_⟩
  · have hr:(execOp ac.eval ⟨none,.mapUpdate t x y u,ty,pos,aft,none⟩).run P (dr w d)=.ok .skip { (dr w d) with heap:=(dr w d).heap.setIfInBounds r (.map (es.toArray.push { key:=MKey.enc a,val:=v,born:=ck }) (ck + 1)) }:=by
      simp [execOp,ha.eval hx,ha.eval hy,ha.eval hu,Instr.mapUpdate,run_underlying ht.eq,MapKept.run_getObj_map hbd,MapKept.run_checkKey hk.eq (MKey.key a),MapKept.run_findKey hk.eq g1,MapKept.run_setObj_map _ hbd,Result.andThen]
    rw [hr]
    refine hK _ _ (h { w with heap:=w.heap.setIfInBounds r (.map (es.toArray.push { key:=MKey.enc a,val:=v,born:=ck }) (ck + 1)) } (ck + 1) rfl rfl rfl (by simp) ?_ (fun q hq=>(MapKept.heap_set hb).2 q hq) _ d ha)
    rw [g0]
    simpa [putEs] using (MapKept.heap_set hb).1
  · have hj:es.toArray[j]?=some e':=by simpa using g1
    have hj':es[j]?=some e':=g1
    rw [Nat.zero_add] at g3
    have hr:(execOp ac.eval ⟨none,.mapUpdate t x y u,ty,pos,aft,none⟩).run P (dr w d)=.ok .skip { (dr w d) with heap:=(dr w d).heap.setIfInBounds r (.map (es.toArray.modify j fun e=>{ e with key:=MKey.enc a,val:=v }) ck) }:=by
      simp [execOp,ha.eval hx,ha.eval hy,ha.eval hu,Instr.mapUpdate,run_underlying ht.eq,MapKept.run_getObj_map hbd,MapKept.run_checkKey hk.eq (MKey.key a),MapKept.run_findKey hk.eq g3,hj',g4,MapKept.run_keyThatStays (MKey.key a),MapKept.run_setObj_map _ hbd,Result.andThen]
    rw [hr]
    refine hK _ _ (h { w with heap:=w.heap.setIfInBounds r (.map (es.toArray.modify j fun e=>{ e with key:=MKey.enc a,val:=v }) ck) } ck rfl rfl rfl (by simp) ?_ (fun q hq=>(MapKept.heap_set hb).2 q hq) _ d ha)
    rw [g0]
    have:=(MapKept.heap_set (o':=.map (es.toArray.modify j fun e=>{ e with key:=MKey.enc a,val:=v }) ck) hb).1
    simpa [putEs] using this
theorem Lk {t:TypeId} (hd:Nat.blt d n=true) (h:∀ w',Ext w w'→w'.heap.size=w.heap.size + 1→w'.heap[w.heap.size]?=some (.map #[] 0)→owp P n ops Q rest ((d,.map (some w.heap.size)) :: l) w'):owp P n ops Q (⟨some d,.makeMap t none,ty,pos,aft,none⟩ :: rest) l w :=
  Gg (w':=w.alloc (.map #[] 0)) (fun a e ha=>.inl ⟨.map (some w.heap.size),e,by simp [execOp,Instr.makeMap];exact ⟨rfl,rfl⟩,ha.put hd _⟩)
    (h _ ((Below.refl _ _).alloc (Nat.le_refl _) _) (by simp) (by show (w.heap.push _)[_]?=_;simp))
end
theorem KG {K V:Type} [MKey K] {es:List MapEntry} {xs:List (K×V)} (ck:Nat) (a:K) (v:Value) (y:V) (h:es.map (·.key)=xs.map (fun p=>MKey.enc p.1)):(putEs es ck (MKey.enc a) v (midx xs a)).map (·.key)=(mput xs a y).map (fun p=>MKey.enc p.1):=by
  rcases EB a es xs 0 h with ⟨g0,_,_,_,g4⟩|⟨j,e',p,g0,g1,g2,g3,g4,_,_,g7⟩
  · rw [g0,g4];simp [putEs,h]
  · rw [g0,g7]
    simp only [putEs,List.map_set,← h]
    apply List.ext_getElem?
    intro q
    rw [List.getElem?_map,List.getElem?_modify,List.getElem?_set]
    by_cases hq:j=q
    · subst hq
      have hlt:j < es.length:=AJ g1
      simp [g1,hlt]
    · simp [hq]
class OwM (α:Type) [Ow α]:Prop where
  mptr:∀ {w:World} {F M:Nat→Prop} {v:Value} {x:α},Ow.R w F M v x→∃ r,v=.map (some r)
theorem Ob.mptr {α:Type} [Ow α] [OwM α] {i:Nat} {w:World} {O:Lab} {v:Value} {x:α} (h:Ob i w O v x):∃ r,v=.map (some r):=OwM.mptr h.1
structure MapR (e:TypeId) (K V:Type) where
  l:List (K×List V)
def RA {K V:Type} [Rp V] (w:World) (F M:Nat→Prop) (L:Lab) (e:TypeId) (es:List MapEntry) (xs:List (K×List V)) (skip:Option Nat):Prop:=∀ (j:Nat) (en:MapEntry) (p:K×List V),es[j]?=some en→xs[j]?=some p→skip≠some j→RwM w F (fun k=>M k∧L k=j + 1) e en.val p.2
instance {e:TypeId} {K V:Type} [MKey K] [Rp V]:Ow (MapR e K V) where
  R w F M v x:=∃ (r:Nat) (L:Lab) (es:List MapEntry) (ck:Nat),v=.map (some r)∧w.heap[r]?=some (.map es.toArray ck)∧M r∧L r=0∧es.map (·.key)=x.l.map (fun p=>MKey.enc p.1)∧RA w F M L e es x.l none
  agree:=by rintro w w' F M v x ⟨r,L,es,ck,rfl,hb,hM,hL,hk,hv⟩ a1 a2;exact ⟨r,L,es,ck,rfl,(a2 r hM).trans hb,hM,hL,hk,fun j en p h1 h2 h3=>(hv j en p h1 h2 h3).agree a1 fun k hk=>a2 k hk.1⟩
  mono:=by rintro w F M F' M' v x ⟨r,L,es,ck,rfl,hb,hM,hL,hk,hv⟩ a1 a2 a3;exact ⟨r,L,es,ck,rfl,hb,a2 r hM,hL,hk,fun j en p h1 h2 h3=>(hv j en p h1 h2 h3).mono a1 (fun k hk=>⟨a2 k hk.1,hk.2⟩) fun k hf hm=>a3 k hf hm.1⟩
instance {e:TypeId} {K V:Type} [MKey K] [Rp V]:OwM (MapR e K V):=⟨by rintro w F M v x ⟨r,L,es,ck,rfl,_⟩;exact ⟨r,rfl⟩⟩
def MapH {K V:Type} [MKey K] [Rp V] (i:Nat) (w:World) (O:Lab) (r:Nat) (e:TypeId) (x:MapR e K V) (a:K):Prop :=
  (∃ (L:Lab) (es:List MapEntry) (ck:Nat),w.heap[r]?=some (.map es.toArray ck)∧Fr i w O r∧es.map (·.key)=x.l.map (fun p=>MKey.enc p.1)∧RA w (Fr 0 w O) (Fr i w O) L e es x.l (midx x.l a))∧i≠0
section
variable {e : TypeId} {K V : Type} [MKey K] [Rp V] {i j : Nat} {T : Nat → Prop} {w w' : World} {O O' : Lab} {r : Nat} {x : MapR e K V} {a : K}
theorem MapH.st (h:MapH i w O r e x a) (hS:St T w O w' O') (h0:¬ T 0:=by decide) (hi:¬ T i:=by decide):MapH i w' O' r e x a:=by
  obtain ⟨⟨L,es,ck,hb,hM,hk,hr⟩,h1⟩:=h
  refine ⟨⟨L,es,ck,(hS.agree hi r hM).trans hb,hS.fr hi r hM,hk,fun q en p g1 g2 g3=>?_⟩,h1⟩
  exact ((hr q en p g1 g2 g3).agree (hS.agree h0) fun k hk=>hS.agree hi k hk.1).mono (hS.fr h0) (fun k hk=>⟨hS.fr hi k hk.1,hk.2⟩) fun k hf hm=>frNe0 h1 k hf hm.1
theorem MapR.at (h:Ob i w O (.map (some r)) x):Fr i w O r:=by
  obtain ⟨⟨r',L,es,ck,hv,hb,hM,_⟩,_⟩:=h
  injection hv with hv
  injection hv with hv
  subst hv
  exact hM
theorem MapR.get (h:Ob i w O (.map (some r)) x) (a:K):∃ A c,LkV (MKey.desc K) (.slice none 0 0) w r (MKey.enc a) (.slice A (mget ([]:List V) x.l a).length c) (mhas x.l a)∧Vb w (FrS [i] w O) (.slice A (mget ([]:List V) x.l a).length c) (mget ([]:List V) x.l a):=by
  obtain ⟨⟨r',L,es,ck,hv,hb,hM,hL,hk,hra⟩,hi⟩:=h
  injection hv with hv
  injection hv with hv
  subst hv
  rcases EB a es x.l 0 hk with ⟨g0,g1,g2,g3,g4⟩|⟨q,e',p,g0,g1,g2,g3,g4,g5,g6,g7⟩
  · rw [g3,g2]
    exact ⟨none,0,⟨_,ck,none,hb,by simpa using g1,rfl,rfl⟩,Vb.nil _ _⟩
  · rw [g6,g5]
    have h1:=hra q e' p g1 g2 (by simp)
    have h2:Rw i w O e e'.val p.2:=h1.rw (fun _ h=>h) (fun _ h=>h.1) hi
    obtain ⟨A,c,hA⟩:=h2.form
    refine ⟨A,c,⟨_,ck,some (0 + q,e'.val),hb,by simpa using g3,hA.symm,rfl⟩,?_⟩
    rw [← hA]
    exact h2.lend [i] (by simp)
theorem MapR.take (h:Ob i w O (.map (some r)) x) {v:Value} {b:Bool} (hl:LkV (MKey.desc K) (.slice none 0 0) w r (MKey.enc a) v b) (j:Nat) (hj:j≠0) (hij:j≠i):∃ O',St (eT i) w O w O'∧MapH i w O' r e x a∧Rw j w O' e v (mget ([]:List V) x.l a):=by
  obtain ⟨⟨r',L,es,ck,hv,hb,hM,hL,hk,hra⟩,hi⟩:=h
  injection hv with hv
  injection hv with hv
  subst hv
  obtain ⟨es',ck',q,h1,h2,h3,h4⟩:=hl
  rw [hb] at h1
  injection h1 with h1
  injection h1 with h1 h1'
  subst h1
  rw [List.toList_toArray] at h2
  rcases EB a es x.l 0 hk with ⟨g0,g1,g2,g3,g4⟩|⟨n,e',p,g0,g1,g2,g3,g4,g5,g6,g7⟩
  · rw [g1] at h2
    have:=sm h2
    subst this
    rw [g3,h3]
    exact ⟨O,St.refl _ _ _,⟨⟨L,es,ck,hb,hM,hk,fun q en p a1 a2 _=>hra q en p a1 a2 (by simp)⟩,hi⟩,Rw.nil j hj⟩
  · rw [g3] at h2
    have:=sm h2
    subst this
    rw [g6,h3]
    have hrow:=hra n e' p g1 g2 (by simp)
    refine ⟨fun k=>if O k=i∧L k=n + 1 then j else O k,⟨rfl,rfl,rfl,Nat.le_refl _,fun k _ hk=>⟨rfl,if_neg fun h=>hk h.1⟩⟩,⟨⟨L,es,ck,hb,⟨hM.1,?_⟩,hk,fun q en p' a1 a2 a3=>?_⟩,hi⟩,hrow.rw (fun k hk=>⟨hk.1,?_⟩) (fun k hk=>⟨hk.1.1,if_pos ⟨hk.1.2,hk.2⟩⟩) hj⟩
    · show (if _ then _ else _)=_
      rw [if_neg (by rw [hL];omega)];exact hM.2
    · rw [g0] at a3
      have hne:n≠q:=fun e=>a3 (by rw [e])
      refine (hra q en p' a1 a2 (by simp)).mono (fun k hk=>⟨hk.1,?_⟩) (fun k hk=>⟨⟨hk.1.1,?_⟩,hk.2⟩) (fun k hf hm=>frNe0 hi k hf hm.1)
      · show (if _ then _ else _)=_
        rw [if_neg (by rw [hk.2];exact fun h=>hi h.1.symm)];exact hk.2
      · show (if _ then _ else _)=_
        rw [if_neg (by rw [hk.2];omega)];exact hk.1.2
    · show (if _ then _ else _)=_
      rw [if_neg (by rw [hk.2];exact fun h=>hi h.1.symm)];exact hk.2
end
section
variable {P : Program} {n : Nat} {ops : Array Oper} {Q : Post} {rest : List Oper} {l : Env} {w : World} {d : Tmp} {ty : TypeId} {pos : String} {aft : Array Edge} {K V : Type} [MKey K] [Rp V] {i j : Nat} {O : Lab} {r : Nat}
theorem Mj {e':TypeId} {x:MapR e' K V} {t k e:TypeId} [TMap P t k e] [TKey P k K] {m y u:Operand} {a:K} {v:Value} {ys:List V} (hM:MapH i w O r e' x a) (hv:Rw j w O e' v ys) (hij:j≠i) (hx:opv l m=some (.map (some r))) (hy:opv l y=some (MKey.enc a)) (hu:opv l u=some v)
    (h:∀ w' O',St (fun q=>q=i∨q=j) w O w' O'→Ob i w' O' (.map (some r)) (⟨mput x.l a ys⟩:MapR e' K V)→owp P n ops Q rest l w'):owp P n ops Q (⟨none,.mapUpdate t m y u,ty,pos,aft,none⟩ :: rest) l w:=by
  obtain ⟨⟨L,es,ck,hb,hM',hk,hra⟩,hi⟩:=hM
  refine LJ hb hk hx hy hu fun w' ck' e1 e2 e3 e4 e5 e6=>?_
  have hlen:es.length=x.l.length:=by have:=congrArg List.length hk;simpa using this
  have hj0:j≠0:=hv.2.2
  have hrj:O r≠j:=by rw [hM'.2];exact Ne.symm hij
  let n0:Nat:=match midx x.l a with|some q=>q|none=>es.length
  have hS:St (fun q=>q=i∨q=j) w O w' (fun k=>if O k=j then i else O k):=⟨e1,e2,e3,by omega,fun q hq hT=>⟨e6 q fun e=>hT (by rw [e];exact .inl hM'.2),if_neg fun e=>hT (.inr e)⟩⟩
  have hF:∀ k,Fr 0 w O k→Fr 0 w' (fun k=>if O k=j then i else O k) k:=fun k hk=>⟨by rw [e4];exact hk.1,by show (if _ then _ else _)=_;rw [if_neg (by rw [hk.2];exact Ne.symm hj0)];exact hk.2⟩
  have hA0:Agree (Fr 0 w O) w w':=fun k hk=>e6 k fun e=>by rw [e] at hk;exact hi (hM'.2.symm.trans hk.2)
  have hdis:∀ m:Nat,∀ k,Fr 0 w' (fun k=>if O k=j then i else O k) k→¬ (Fr i w' (fun k=>if O k=j then i else O k) k∧(if O k=j then n0 + 1 else if k=r then 0 else L k)=m):=fun m k hf hm=>frNe0 hi k hf hm.1
  have hnew:RwM w' (Fr 0 w' (fun k=>if O k=j then i else O k)) (fun k=>Fr i w' (fun k=>if O k=j then i else O k) k∧(if O k=j then n0 + 1 else if k=r then 0 else L k)=n0 + 1) e' v ys:=by
    have h1:RwM w (Fr 0 w O) (Fr j w O) e' v ys:=hv.m (fun _ h=>h) (fun _ h=>h) (frNe0 hj0)
    have h2:=h1.agree hA0 (fun k hk=>e6 k fun e=>by rw [e] at hk;exact hrj hk.2)
    exact h2.mono hF (fun k hk=>⟨⟨by rw [e4];exact hk.1,if_pos hk.2⟩,if_pos hk.2⟩) (hdis _)
  have hkeep:∀ q en (p:K×List V),es[q]?=some en→x.l[q]?=some p→midx x.l a≠some q→RwM w' (Fr 0 w' (fun k=>if O k=j then i else O k)) (fun k=>Fr i w' (fun k=>if O k=j then i else O k) k∧(if O k=j then n0 + 1 else if k=r then 0 else L k)=q + 1) e' en.val p.2:=fun q en p g1 g2 g3=>by
    have h1:=hra q en p g1 g2 g3
    have hnr:∀ g,en.val.ownBlock=some g→g≠r:=fun g hg e=>by
      subst e
      have h2:=h1.1
      obtain ⟨cells,o1,o2,o3⟩:=h2
      rcases o1.2 with ⟨hv0,_⟩|⟨g',cap,cur,hv0,_,hh,_⟩
      · rw [hv0] at hg;simp [Value.ownBlock] at hg
      · rw [hv0] at hg
        have:g'=g:=by simpa [Value.ownBlock] using hg
        subst this
        rw [hb] at hh;cases hh
    have h2:RwM w (Fr 0 w O) (fun k=>(Fr i w O k∧L k=q + 1)∧k≠r) e' en.val p.2:=⟨h1.1,fun g hg=>⟨h1.2 g hg,hnr g hg⟩⟩
    have h3:=h2.agree hA0 (fun k hk=>e6 k hk.2)
    refine h3.mono hF (fun k hk=>?_) (hdis _)
    have hkj:O k≠j:=by rw [hk.1.1.2];exact Ne.symm hij
    exact ⟨⟨by rw [e4];exact hk.1.1.1,by show (if _ then _ else _)=_;rw [if_neg hkj];exact hk.1.1.2⟩,by rw [if_neg hkj,if_neg hk.2];exact hk.1.2⟩
  refine h w' _ hS ⟨⟨r,fun k=>if O k=j then n0 + 1 else if k=r then 0 else L k,_,ck',rfl,e5,⟨by rw [e4];exact hM'.1,by show (if _ then _ else _)=_;rw [if_neg hrj];exact hM'.2⟩,by show (if _ then _ else _)=_;rw [if_neg hrj,if_pos rfl],KG ck a v ys hk,?_⟩,hi⟩
  intro q en p h1 h2 _
  rcases EB a es x.l 0 hk with ⟨g0,_,_,_,g4⟩|⟨m,e'',p',g0,g1,g2,g3,g4,_,_,g7⟩
  · have hn0:n0=es.length:=by show (match midx x.l a with|some q=>q|none=>es.length)=_;rw [g0]
    rw [g0] at h1
    rw [g4] at h2
    simp only [putEs] at h1
    by_cases hq:q < es.length
    · rw [List.getElem?_append_left hq] at h1
      rw [List.getElem?_append_left (by omega)] at h2
      exact hkeep q en p h1 h2 (by rw [g0];simp)
    · rw [List.getElem?_append_right (by omega)] at h1
      rw [List.getElem?_append_right (by omega)] at h2
      cases hz:q - es.length with
      | zero =>
        rw [hz] at h1
        rw [show q - x.l.length=0 from by omega] at h2
        simp at h1 h2
        subst h1;subst h2
        have hqe:q=n0:=by rw [hn0];omega
        rw [hqe]
        exact hnew
      | succ m=>rw [hz] at h1;simp at h1
  · have hn0:n0=m:=by show (match midx x.l a with|some q=>q|none=>es.length)=_;rw [g0]
    rw [g0] at h1
    rw [g7] at h2
    simp only [putEs] at h1
    rw [List.getElem?_modify] at h1
    rw [List.getElem?_set] at h2
    by_cases hq:m=q
    · subst hq
      have hlt:=AJ g2
      rw [g1] at h1
      simp [hlt] at h1 h2
      subst h1;subst h2
      rw [← hn0]
      exact hnew
    · simp [hq] at h1 h2
      exact hkeep q en p h1 h2 (by rw [g0];simpa using hq)
theorem LK {t:TypeId} (e:TypeId) (i:Nat) (hi:i≠0) (O:Lab) (hd:Nat.blt d n=true) (h:∀ g w' O',St nT w O w' O'→Ob i w' O' (.map (some g)) (⟨[]⟩:MapR e K V)→owp P n ops Q rest ((d,.map (some g)) :: l) w'):owp P n ops Q (⟨some d,.makeMap t none,ty,pos,aft,none⟩ :: rest) l w :=
  Lk hd fun w' hE hs hb=>h _ w' _ (hE.st O fun _=>i) ⟨⟨w.heap.size,fun _=>0,[],0,rfl,hb,⟨by omega,Ec (Nat.le_refl _)⟩,rfl,rfl,fun j e p h1 _=>by simp at h1⟩,hi⟩
end
section
variable {P : Program} {n : Nat} {ops : Array Oper} {Q : Post} {rest : List Oper} {l : Env} {w : World} {d : Tmp} {ty : TypeId} {pos : String} {aft : Array Edge} {S : World → Prop} {rr : List (Nat × Bool)} {i' : Nat}
theorem o_lk {K:Type} [MKey K] {t k e:TypeId} [TMap P t k e] [TKey P k K] {z:Value} {size bytes:Nat} [TInfo P e z size bytes] {x y:Operand} {r:Nat} {v:Value} {b:Bool} (a:K) (hv:LkV (MKey.desc K) z w r (MKey.enc a) v b) (hx:opv l x=some (.map (some r))) (hy:opv l y=some (MKey.enc a)) (hd:Nat.blt d n=true) (h:owp P n ops Q rest ((d,v) :: l) w):owp P n ops Q (⟨some d,.lookup t x y false,ty,pos,aft,none⟩ :: rest) l w:=AT (ev_lk hx hy hv) hd h
theorem h_lk {K:Type} [MKey K] {t k e:TypeId} [TMap P t k e] [TKey P k K] {z:Value} {size bytes:Nat} [TInfo P e z size bytes] {x y:Operand} {r:Nat} {v:Value} {b:Bool} (a:K) (hv:∀ w',S w'→LkV (MKey.desc K) z w' r (MKey.enc a) v b) (hi:ops[i']?=some ⟨some d,.lookup t x y false,ty,pos,aft,none⟩) (hx:opv l x=some (.map (some r))) (hy:opv l y=some (MKey.enc a)) (hd:Nat.blt d n=true) (h:hwp P n ops Q S rr ((d,v) :: l) w):hwp P n ops Q S ((i',true) :: rr) l w:=hwp_o hi (AU (fun w' hS=>ev_lk hx hy (hv w' hS)) hd h)
end
end
end Go.Proofs.Ythomfnkaicjmbaa

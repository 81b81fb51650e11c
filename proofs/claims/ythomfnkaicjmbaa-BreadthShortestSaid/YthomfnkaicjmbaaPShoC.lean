/- Own text: what the proof of breadthShortest_holds uses, part 3: rules, models and their proofs, plain laws. -/
import Derived.Test.YthomfnkaicjmbaaPShoB
set_option linter.unusedVariables false
set_option linter.unusedSimpArgs false
namespace Go.Proofs.Ythomfnkaicjmbaa
open Go Go.RowKit
section
open Go Go.RowKit
abbrev U64:=BitVec 64
instance:Rp U64 where
  isAgg:=false
  size:=1
  R _ _ cs x:=cs=[.int .u64 (x.toNat:Int)]
  len:=by rintro w F cs x rfl;rfl
  one:=by
    rintro w F cs x rfl u hu
    have:u=.int .u64 (x.toNat:Int):=by simpa using hu
    subst this;rfl
  agree:=fun h _=>h
  mono:=fun h _=>h
theorem Vb.u64 {w:World} {F:Nat→Prop} {v:Value} {x:U64} (h:Vb w F v x):v=.int .u64 (x.toNat:Int):=by
  have:[v]=[.int .u64 (x.toNat:Int)]:=h
  simpa using this
theorem vU64 {w:World} {F:Nat→Prop} {x:U64}:Vb w F (.int .u64 (x.toNat:Int)) x:=rfl
theorem wrapU (a:Int):IntKind.u64.wrap a=a % 18446744073709551616:=by simp [IntKind.wrap,IntKind.bits,IntKind.signed]
theorem wrapN (x:BitVec 64):IntKind.u64.wrap (x.toNat:Int)=(x.toNat:Int):=by
  rw [wrapU]
  have:=x.isLt
  omega
theorem ofIntU (x:U64):BitVec.ofInt 64 (x.toNat:Int)=x:=by simp
def shlU (a:U64) (q:Int):Option U64:=if 0≤q then some (a <<< q.toNat) else none
def shrU (a:U64) (q:Int):Option U64:=if 0≤q then some (a >>> q.toNat) else none
def shlI (a q:Int):Option Int:=if 0≤q then some (wr (a * 2 ^ (min q.toNat 64))) else none
theorem Lq {a q c:Int} (h:shlI a q=some c):inI64 c:=by
  unfold shlI at h
  split at h
  · rw [← sm h];exact Ms _
  · cases h
theorem toIntR (a:U64):inI64 a.toInt:=by
  have h1:=BitVec.toInt_lt (x:=a)
  have h2:=BitVec.le_toInt (x:=a)
  simp at h1 h2
  exact ⟨by omega,by omega⟩
section
variable {P : Program} {l : Env} {w : World} {dst : Option Tmp} {ty : TypeId} {pos : String} {aft : Array Edge}
theorem MB {t u:TypeId} {x y:Operand} {a b:U64} (hx:opv l x=some (.int .u64 (a.toNat:Int))) (hy:opv l y=some (.int .u64 (b.toNat:Int))):Ev P ⟨dst,.binOp .and t x y u,ty,pos,aft,none⟩ l w (.int .u64 ((a &&& b).toNat:Int)):=fun _ _ d ha=>by
  have h:=wrapN (a &&& b)
  have h1:(BitVec.ofInt IntKind.u64.bits (a.toNat:Int))=a:=ofIntU a
  have h2:(BitVec.ofInt IntKind.u64.bits (b.toNat:Int))=b:=ofIntU b
  simp only [execOp,ha.eval hx,ha.eval hy,eqGuard,binOp,Op.intBits,h1,h2]
  simp
  exact h.trans (by simp)
theorem MC {t u:TypeId} {x y:Operand} {a b:U64} (hx:opv l x=some (.int .u64 (a.toNat:Int))) (hy:opv l y=some (.int .u64 (b.toNat:Int))):Ev P ⟨dst,.binOp .or t x y u,ty,pos,aft,none⟩ l w (.int .u64 ((a ||| b).toNat:Int)):=fun _ _ d ha=>by
  have h:=wrapN (a ||| b)
  have h1:(BitVec.ofInt IntKind.u64.bits (a.toNat:Int))=a:=ofIntU a
  have h2:(BitVec.ofInt IntKind.u64.bits (b.toNat:Int))=b:=ofIntU b
  simp only [execOp,ha.eval hx,ha.eval hy,eqGuard,binOp,Op.intBits,h1,h2]
  simp
  exact h.trans (by simp)
theorem MD {t u:TypeId} {x y:Operand} {a b:U64} (hx:opv l x=some (.int .u64 (a.toNat:Int))) (hy:opv l y=some (.int .u64 (b.toNat:Int))):Ev P ⟨dst,.binOp .xor t x y u,ty,pos,aft,none⟩ l w (.int .u64 ((a ^^^ b).toNat:Int)):=fun _ _ d ha=>by
  have h:=wrapN (a ^^^ b)
  have h1:(BitVec.ofInt IntKind.u64.bits (a.toNat:Int))=a:=ofIntU a
  have h2:(BitVec.ofInt IntKind.u64.bits (b.toNat:Int))=b:=ofIntU b
  simp only [execOp,ha.eval hx,ha.eval hy,eqGuard,binOp,Op.intBits,h1,h2]
  simp
  exact h.trans (by simp)
theorem ME {t u:TypeId} {x y:Operand} {a b:U64} (hx:opv l x=some (.int .u64 (a.toNat:Int))) (hy:opv l y=some (.int .u64 (b.toNat:Int))):Ev P ⟨dst,.binOp .andNot t x y u,ty,pos,aft,none⟩ l w (.int .u64 ((a &&& ~~~b).toNat:Int)):=fun _ _ d ha=>by
  have h:=wrapN (a &&& ~~~b)
  have h1:(BitVec.ofInt IntKind.u64.bits (a.toNat:Int))=a:=ofIntU a
  have h2:(BitVec.ofInt IntKind.u64.bits (b.toNat:Int))=b:=ofIntU b
  simp only [execOp,ha.eval hx,ha.eval hy,eqGuard,binOp,Op.intBits,h1,h2]
  simp
  exact h.trans (by simp)
theorem MF {t u:TypeId} {x y:Operand} {a b:U64} (hx:opv l x=some (.int .u64 (a.toNat:Int))) (hy:opv l y=some (.int .u64 (b.toNat:Int))):Ev P ⟨dst,.binOp .add t x y u,ty,pos,aft,none⟩ l w (.int .u64 ((a + b).toNat:Int)):=fun _ _ d ha=>by
  have h:IntKind.u64.wrap ((a.toNat:Int) + (b.toNat:Int))=((a + b).toNat:Int):=by
    rw [wrapU]
    have h1:=a.isLt
    have h2:=b.isLt
    rw [BitVec.toNat_add];omega
  simp [execOp,ha.eval hx,ha.eval hy,eqGuard,binOp,Op.intArith,h]
theorem MG {t u:TypeId} {x y:Operand} {a b:U64} (hx:opv l x=some (.int .u64 (a.toNat:Int))) (hy:opv l y=some (.int .u64 (b.toNat:Int))):Ev P ⟨dst,.binOp .sub t x y u,ty,pos,aft,none⟩ l w (.int .u64 ((a - b).toNat:Int)):=fun _ _ d ha=>by
  have h:IntKind.u64.wrap ((a.toNat:Int) - (b.toNat:Int))=((a - b).toNat:Int):=by
    rw [wrapU]
    have h1:=a.isLt
    have h2:=b.isLt
    rw [BitVec.toNat_sub];omega
  simp [execOp,ha.eval hx,ha.eval hy,eqGuard,binOp,Op.intArith,h]
theorem MH {t u:TypeId} {x y:Operand} {a b:U64} (hx:opv l x=some (.int .u64 (a.toNat:Int))) (hy:opv l y=some (.int .u64 (b.toNat:Int))):Ev P ⟨dst,.binOp .mul t x y u,ty,pos,aft,none⟩ l w (.int .u64 ((a * b).toNat:Int)):=fun _ _ d ha=>by
  have h:IntKind.u64.wrap ((a.toNat:Int) * (b.toNat:Int))=((a * b).toNat:Int):=by
    rw [wrapU]
    have h1:=a.isLt
    have h2:=b.isLt
    rw [BitVec.toNat_mul,Int.natCast_emod,Int.natCast_mul];rfl
  simp [execOp,ha.eval hx,ha.eval hy,eqGuard,binOp,Op.intArith,h]
theorem MI {t u:TypeId} {x y:Operand} {a c:U64} {q:Int} {k:IntKind} (hx:opv l x=some (.int .u64 (a.toNat:Int))) (hy:opv l y=some (.int k q)) (he:shlU a q=some c):Ev P ⟨dst,.binOp .shl t x y u,ty,pos,aft,none⟩ l w (.int .u64 (c.toNat:Int)):=fun _ _ d ha=>by
  unfold shlU at he
  split at he
  · rename_i hq
    have hc:=sm he
    subst hc
    have h:IntKind.u64.wrap ((a.toNat:Int) * 2 ^ (min q.toNat IntKind.u64.bits))=((a <<< q.toNat).toNat:Int):=by
      rw [wrapU,BitVec.toNat_shiftLeft,Nat.shiftLeft_eq]
      show (a.toNat:Int) * 2 ^ (min q.toNat 64) % 18446744073709551616=((a.toNat * 2 ^ q.toNat % 18446744073709551616:Nat):Int)
      by_cases hk:q.toNat≤64
      · rw [Nat.min_eq_left hk,Int.natCast_emod,Int.natCast_mul,Int.natCast_pow];rfl
      · have hb:q.toNat=64 + (q.toNat - 64):=by omega
        rw [Nat.min_eq_right (by omega),hb,Nat.pow_add]
        have e1:a.toNat * (2 ^ 64 * 2 ^ (q.toNat - 64)) % 18446744073709551616=0:=by
          rw [← Nat.mul_assoc,Nat.mul_right_comm]
          exact Nat.mul_mod_left _ _
        have e2:(a.toNat:Int) * 2 ^ 64 % 18446744073709551616=0:=Int.mul_emod_left _ _
        rw [e1,e2];rfl
    have hn:¬ q < 0:=by omega
    simp [execOp,ha.eval hx,ha.eval hy,eqGuard,binOp,Op.shift,hn,h]
  · cases he
theorem KP {t u:TypeId} {x y:Operand} {a c:U64} {q:Int} {k:IntKind} (hx:opv l x=some (.int .u64 (a.toNat:Int))) (hy:opv l y=some (.int k q)) (he:shrU a q=some c):Ev P ⟨dst,.binOp .shr t x y u,ty,pos,aft,none⟩ l w (.int .u64 (c.toNat:Int)):=fun _ _ d ha=>by
  unfold shrU at he
  split at he
  · rename_i hq
    have hc:=sm he
    subst hc
    have h:(a.toNat:Int).fdiv (2 ^ (min q.toNat IntKind.u64.bits))=((a >>> q.toNat).toNat:Int):=by
      rw [BitVec.toNat_ushiftRight,Nat.shiftRight_eq_div_pow]
      show (a.toNat:Int).fdiv (2 ^ (min q.toNat 64))=_
      have hl:=a.isLt
      rw [Int.fdiv_eq_ediv_of_nonneg _ (by exact_mod_cast Nat.zero_le (2 ^ (min q.toNat 64)))]
      by_cases hk:q.toNat≤64
      · rw [Nat.min_eq_left hk,Int.natCast_ediv,Int.natCast_pow];rfl
      · rw [Nat.min_eq_right (by omega)]
        have e1:a.toNat / 2 ^ q.toNat=0:=Nat.div_eq_of_lt (Nat.lt_of_lt_of_le hl (Nat.pow_le_pow_right (by decide) (by omega)))
        rw [e1]
        omega
    have hn:¬ q < 0:=by omega
    simp [execOp,ha.eval hx,ha.eval hy,eqGuard,binOp,Op.shift,hn,h]
  · cases he
theorem MJ {t u:TypeId} {x y:Operand} {a c q:Int} (hx:opv l x=some (.int .i64 a)) (hy:opv l y=some (.int .i64 q)) (he:shlI a q=some c):Ev P ⟨dst,.binOp .shl t x y u,ty,pos,aft,none⟩ l w (.int .i64 c):=fun _ _ d ha=>by
  unfold shlI at he
  split at he
  · rename_i hq
    have hc:=sm he
    subst hc
    have hn:¬ q < 0:=by omega
    simp [execOp,ha.eval hx,ha.eval hy,eqGuard,binOp,Op.shift,hn,wr,IntKind.bits]
  · cases he
theorem KQ {s t:TypeId} {k:IntKind} [hs:TInt P s k] [ht:TInt P t .u64] {x:Operand} {a:Int} (hx:opv l x=some (.int k a)):Ev P ⟨dst,.convert s t x,ty,pos,aft,none⟩ l w (.int .u64 ((BitVec.ofInt 64 a).toNat:Int)):=fun _ _ d ha=>by
  have h:IntKind.u64.wrap a=((BitVec.ofInt 64 a).toNat:Int):=by
    rw [wrapU,BitVec.toNat_ofInt]
    have:(0:Int)≤a % 18446744073709551616:=by omega
    simp
    omega
  simp [execOp,ha.eval hx,convert,run_underlying hs.eq,run_underlying ht.eq,Conv.intToInt,h]
theorem KR {s t:TypeId} [hs:TInt P s .u64] [ht:TInt P t .i64] {x:Operand} {a:U64} (hx:opv l x=some (.int .u64 (a.toNat:Int))):Ev P ⟨dst,.convert s t x,ty,pos,aft,none⟩ l w (.int .i64 a.toInt):=fun _ _ d ha=>by
  have h:IntKind.i64.wrap (a.toNat:Int)=a.toInt:=by
    rw [IntKind.wrap_i64,BitVec.toInt_eq_toNat_cond]
    have:=a.isLt
    split<;>omega
  simp [execOp,ha.eval hx,convert,run_underlying hs.eq,run_underlying ht.eq,Conv.intToInt,h]
end
section
variable {P : Program} {n : Nat} {ops : Array Oper} {Q : Post} {rest : List Oper} {l : Env} {w : World} {d : Tmp} {ty : TypeId} {pos : String} {aft : Array Edge}
theorem o_uxo {t u:TypeId} {x y:Operand} {a b:U64} (hx:opv l x=some (.int .u64 (a.toNat:Int))) (hy:opv l y=some (.int .u64 (b.toNat:Int))) (hd:Nat.blt d n=true) (h:owp P n ops Q rest ((d,.int .u64 ((a ^^^ b).toNat:Int)) :: l) w)  : owp P n ops Q (⟨some d,.binOp .xor t x y u,ty,pos,aft,none⟩ :: rest) l w:=AS (MD hx hy) hd h
theorem o_uad {t u:TypeId} {x y:Operand} {a b:U64} (hx:opv l x=some (.int .u64 (a.toNat:Int))) (hy:opv l y=some (.int .u64 (b.toNat:Int))) (hd:Nat.blt d n=true) (h:owp P n ops Q rest ((d,.int .u64 ((a + b).toNat:Int)) :: l) w)  : owp P n ops Q (⟨some d,.binOp .add t x y u,ty,pos,aft,none⟩ :: rest) l w:=AS (MF hx hy) hd h
theorem o_uml {t u:TypeId} {x y:Operand} {a b:U64} (hx:opv l x=some (.int .u64 (a.toNat:Int))) (hy:opv l y=some (.int .u64 (b.toNat:Int))) (hd:Nat.blt d n=true) (h:owp P n ops Q rest ((d,.int .u64 ((a * b).toNat:Int)) :: l) w)  : owp P n ops Q (⟨some d,.binOp .mul t x y u,ty,pos,aft,none⟩ :: rest) l w:=AS (MH hx hy) hd h
theorem o_usr {t u:TypeId} {x y:Operand} {a c:U64} {q:Int} {k:IntKind} (hx:opv l x=some (.int .u64 (a.toNat:Int))) (hy:opv l y=some (.int k q)) (hd:Nat.blt d n=true) (h:owp P n ops Q rest ((d,.int .u64 (c.toNat:Int)) :: l) w) (he:shrU a q=some c:=by assumption):owp P n ops Q (⟨some d,.binOp .shr t x y u,ty,pos,aft,none⟩ :: rest) l w:=AS (KP hx hy he) hd h
theorem o_ish {t u:TypeId} {x y:Operand} {a c q:Int} (hx:opv l x=some (.int .i64 a)) (hy:opv l y=some (.int .i64 q)) (hd:Nat.blt d n=true) (h:owp P n ops Q rest ((d,.int .i64 c) :: l) w) (he:shlI a q=some c:=by assumption):owp P n ops Q (⟨some d,.binOp .shl t x y u,ty,pos,aft,none⟩ :: rest) l w:=AS (MJ hx hy he) hd h
theorem o_cvU {s t:TypeId} {k:IntKind} [TInt P s k] [TInt P t .u64] {x:Operand} {a:Int} (hx:opv l x=some (.int k a)) (hd:Nat.blt d n=true) (h:owp P n ops Q rest ((d,.int .u64 ((BitVec.ofInt 64 a).toNat:Int)) :: l) w)  : owp P n ops Q (⟨some d,.convert s t x,ty,pos,aft,none⟩ :: rest) l w:=AS (KQ hx) hd h
theorem o_cvI {s t:TypeId} [TInt P s .u64] [TInt P t .i64] {x:Operand} {a:U64} (hx:opv l x=some (.int .u64 (a.toNat:Int))) (hd:Nat.blt d n=true) (h:owp P n ops Q rest ((d,.int .i64 a.toInt) :: l) w)  : owp P n ops Q (⟨some d,.convert s t x,ty,pos,aft,none⟩ :: rest) l w:=AS (KR hx) hd h
variable {S : World → Prop} {r : List (Nat × Bool)} {i : Nat}
theorem h_uan {t u:TypeId} {x y:Operand} {a b:U64} (hi:ops[i]?=some ⟨some d,.binOp .and t x y u,ty,pos,aft,none⟩) (hx:opv l x=some (.int .u64 (a.toNat:Int))) (hy:opv l y=some (.int .u64 (b.toNat:Int))) (hd:Nat.blt d n=true) (h:hwp P n ops Q S r ((d,.int .u64 ((a &&& b).toNat:Int)) :: l) w)  : hwp P n ops Q S ((i,true) :: r) l w:=hwp_o hi (AU (fun _ _=>MB hx hy) hd h)
theorem h_uor {t u:TypeId} {x y:Operand} {a b:U64} (hi:ops[i]?=some ⟨some d,.binOp .or t x y u,ty,pos,aft,none⟩) (hx:opv l x=some (.int .u64 (a.toNat:Int))) (hy:opv l y=some (.int .u64 (b.toNat:Int))) (hd:Nat.blt d n=true) (h:hwp P n ops Q S r ((d,.int .u64 ((a ||| b).toNat:Int)) :: l) w)  : hwp P n ops Q S ((i,true) :: r) l w:=hwp_o hi (AU (fun _ _=>MC hx hy) hd h)
theorem h_uns {t u:TypeId} {x y:Operand} {a b:U64} (hi:ops[i]?=some ⟨some d,.binOp .andNot t x y u,ty,pos,aft,none⟩) (hx:opv l x=some (.int .u64 (a.toNat:Int))) (hy:opv l y=some (.int .u64 (b.toNat:Int))) (hd:Nat.blt d n=true) (h:hwp P n ops Q S r ((d,.int .u64 ((a &&& ~~~b).toNat:Int)) :: l) w)  : hwp P n ops Q S ((i,true) :: r) l w:=hwp_o hi (AU (fun _ _=>ME hx hy) hd h)
theorem h_usb {t u:TypeId} {x y:Operand} {a b:U64} (hi:ops[i]?=some ⟨some d,.binOp .sub t x y u,ty,pos,aft,none⟩) (hx:opv l x=some (.int .u64 (a.toNat:Int))) (hy:opv l y=some (.int .u64 (b.toNat:Int))) (hd:Nat.blt d n=true) (h:hwp P n ops Q S r ((d,.int .u64 ((a - b).toNat:Int)) :: l) w)  : hwp P n ops Q S ((i,true) :: r) l w:=hwp_o hi (AU (fun _ _=>MG hx hy) hd h)
theorem h_ush {t u:TypeId} {x y:Operand} {a c:U64} {q:Int} {k:IntKind} (hi:ops[i]?=some ⟨some d,.binOp .shl t x y u,ty,pos,aft,none⟩) (hx:opv l x=some (.int .u64 (a.toNat:Int))) (hy:opv l y=some (.int k q)) (hd:Nat.blt d n=true) (h:hwp P n ops Q S r ((d,.int .u64 (c.toNat:Int)) :: l) w) (he:shlU a q=some c:=by assumption):hwp P n ops Q S ((i,true) :: r) l w:=hwp_o hi (AU (fun _ _=>MI hx hy he) hd h)
theorem h_usr {t u:TypeId} {x y:Operand} {a c:U64} {q:Int} {k:IntKind} (hi:ops[i]?=some ⟨some d,.binOp .shr t x y u,ty,pos,aft,none⟩) (hx:opv l x=some (.int .u64 (a.toNat:Int))) (hy:opv l y=some (.int k q)) (hd:Nat.blt d n=true) (h:hwp P n ops Q S r ((d,.int .u64 (c.toNat:Int)) :: l) w) (he:shrU a q=some c:=by assumption):hwp P n ops Q S ((i,true) :: r) l w:=hwp_o hi (AU (fun _ _=>KP hx hy he) hd h)
theorem h_cvU {s t:TypeId} {k:IntKind} [TInt P s k] [TInt P t .u64] {x:Operand} {a:Int} (hi:ops[i]?=some ⟨some d,.convert s t x,ty,pos,aft,none⟩) (hx:opv l x=some (.int k a)) (hd:Nat.blt d n=true) (h:hwp P n ops Q S r ((d,.int .u64 ((BitVec.ofInt 64 a).toNat:Int)) :: l) w)  : hwp P n ops Q S ((i,true) :: r) l w:=hwp_o hi (AU (fun _ _=>KQ hx) hd h)
theorem h_cvI {s t:TypeId} [TInt P s .u64] [TInt P t .i64] {x:Operand} {a:U64} (hi:ops[i]?=some ⟨some d,.convert s t x,ty,pos,aft,none⟩) (hx:opv l x=some (.int .u64 (a.toNat:Int))) (hd:Nat.blt d n=true) (h:hwp P n ops Q S r ((d,.int .i64 a.toInt) :: l) w)  : hwp P n ops Q S ((i,true) :: r) l w:=hwp_o hi (AU (fun _ _=>KR hx) hd h)
end
end
section
open Go Go.RowKit
attribute [local irreducible] ewp owp hwp hwq hws Ev Evg Fn retPost loud loudS Res1
attribute [local irreducible] hwx loudX
def BO (xs:List U64):Option (List U64):=if xs.length * 8≤140737488355328∧xs.length≤9223372036854775807 then some xs else none
theorem EI {w:World} {A:Nat→Prop} (hA:∀ k,A k→k < w.heap.size) {v0:Value} {x0:List U64} (h0:Vb w A v0 x0) {r:List U64} (hm:BO x0=some r) :
    Fn Try.prog 75 [v0] w fun v w'=>Ext w w'∧RowR w w' (upA A w w') 150 v r:=by
  obtain ⟨⟨hl,hl2⟩,rfl⟩:=Fq hm
  obtain ⟨O,hB,hA0⟩:=enter hA
  replace h0:=h0.mono hA0
  obtain ⟨Ad,c,rfl⟩:=h0.form
  refine AK Try.func75 rfl Try.ntmps75 rfl ?_
  cases Ad with
  | none =>
    have hx:x0=[]:=by
      cases x0 with
      | nil=>rfl
      | cons x xs=>obtain ⟨_,_,_,h,_⟩:=h0.elem (k:=0) (x:=x) rfl;cases h
    subst hx
    ((repeat (first|refine Ah ?_|refine Al ?_|refine Ae ?_|refine Am ?_|refine At ?_|refine Au ?_|refine Ar rfl ?_|refine Aj rfl ?_))<;>(refine o_as rfl rfl ?_<;>(first|refine Ay ?_|refine Az ?_|refine Aw ?_|refine AA ?_))<;>(repeat (first|refine Ah ?_|refine Al ?_|refine Ae ?_|refine Am ?_|refine At ?_|refine Au ?_|refine Ar rfl ?_|refine Aj rfl ?_))<;>(refine o_mv rfl rfl ?_<;>refine o_sn rfl rfl ?_<;>(first|refine Ay ?_|refine Az ?_|refine Aw ?_|refine AA ?_))<;>(repeat (first|refine Ah ?_|refine Al ?_|refine Ae ?_|refine Am ?_|refine At ?_|refine Au ?_|refine Ar rfl ?_|refine Aj rfl ?_))<;>(refine o_as rfl rfl ?_<;>(first|refine Ay ?_|refine Az ?_|refine Aw ?_|refine AA ?_))<;>(repeat (first|refine Ah ?_|refine Al ?_|refine Ae ?_|refine Am ?_|refine At ?_|refine Au ?_|refine Ar rfl ?_|refine Aj rfl ?_)))
    exact ret1 rfl rfl ⟨Below.refl _ _,RowR.nil⟩
  | some ad =>
    ((repeat (first|refine Ah ?_|refine Al ?_|refine Ae ?_|refine Am ?_|refine At ?_|refine Au ?_|refine Ar rfl ?_|refine Aj rfl ?_))<;>(refine o_as rfl rfl ?_<;>(first|refine Ay ?_|refine Az ?_|refine Aw ?_|refine AA ?_))<;>(repeat (first|refine Ah ?_|refine Al ?_|refine Ae ?_|refine Am ?_|refine At ?_|refine Au ?_|refine Ar rfl ?_|refine Aj rfl ?_))<;>(refine o_mv rfl rfl ?_<;>refine o_sn rfl rfl ?_<;>(first|refine Ay ?_|refine Az ?_|refine Aw ?_|refine AA ?_))<;>(repeat (first|refine Ah ?_|refine Al ?_|refine Ae ?_|refine Am ?_|refine At ?_|refine Au ?_|refine Ar rfl ?_|refine Aj rfl ?_)))
    refine BG 2 (by decide) O (xs:=([]:List U64)) rfl rfl rfl rfl trivial (by decide) (by decide) rfl fun g w1 O1 S1 h1=>?_
    replace hB:=hB.st S1 (fun h=>h) (fun h=>h)
    replace h0:=h0.st S1 (fun h=>h)
    (refine o_mv rfl rfl ?_)
    refine DS rfl h1 h0.rd rfl rfl (by decide) (by simpa using hl) (by simpa using hl2) rfl fun A2 c2 w2 O2 S2 h2=>?_
    replace hB:=hB.st S2 (by decide) (by decide)
    rw [List.nil_append] at h2 ⊢
    (refine o_as rfl rfl ?_<;>(first|refine Ay ?_|refine Az ?_|refine Aw ?_|refine AA ?_))
    repeat (first|refine Ah ?_|refine Al ?_|refine Ae ?_|refine Am ?_|refine At ?_|refine Au ?_|refine Ar rfl ?_|refine Aj rfl ?_)
    exact ret1 rfl rfl ⟨hB.ext,h2.out hB (by decide)⟩
structure PFd where
  word:Int
  bit:Int
  width:Int
  size:Int
instance:Rp PFd where
  isAgg:=true
  size:=4
  R w F cs x:=cs=[.int .i64 x.word,.int .i64 x.bit,.int .i64 x.width,.int .i64 x.size]∧inI64 x.word∧inI64 x.bit∧inI64 x.width∧inI64 x.size
  len:=by rintro w F cs x ⟨rfl,h0,h1,h2,h3⟩;rfl
  one:=by rintro w F cs x ⟨rfl,h0,h1,h2,h3⟩ u hu;simp at hu;rcases hu with rfl|rfl|rfl|rfl<;>first|rfl|exact Vb.one rfl (by assumption)
  agree:=by rintro w w' F cs x ⟨rfl,h0,h1,h2,h3⟩ ha;exact ⟨rfl,h0,h1,h2,h3⟩
  mono:=by rintro w F G cs x ⟨rfl,h0,h1,h2,h3⟩ ha;exact ⟨rfl,h0,h1,h2,h3⟩
structure Pkr where
  fields:List PFd
  words:Int
instance:Ow Pkr where
  R w F M v x:=∃ (g:Nat) (L:Lab) (c0:Value),v=.pointer (some ⟨g,0,none⟩)∧Blk w g 148 [c0,.int .i64 x.words]∧M g∧L g=0∧RwM w F (fun k=>M k∧L k=1) 152 c0 x.fields∧inI64 x.words
  agree:=by rintro w w' F M v x ⟨g,L,c0,rfl,hb,hM,hL,h0,h1⟩ a1 a2;exact ⟨g,L,c0,rfl,hb.keep (a2 g hM),hM,hL,h0.agree a1 fun k hk=>a2 k hk.1,h1⟩
  mono:=by rintro w F M F' M' v x ⟨g,L,c0,rfl,hb,hM,hL,h0,h1⟩ a1 a2 a3;exact ⟨g,L,c0,rfl,hb,a2 g hM,hL,h0.mono a1 (fun k hk=>⟨a2 k hk.1,hk.2⟩) fun k hf hm=>a3 k hf hm.1,h1⟩
instance:OwP Pkr:=⟨by rintro w F M v x ⟨g,L,c0,rfl,_⟩;exact ⟨g,rfl⟩⟩
theorem Pkr.opn {i:Nat} {w:World} {O:Lab} {p:Nat} {x:Pkr} (h:Ob i w O (.pointer (some ⟨p,0,none⟩)) x) (l0 l1:Nat) (hl:l0≠0∧l1≠0):∃ (O':Lab) (c0:Value),St (eT i) w O w O'∧(∀ k,Fr i w O k→∃ q,q∈[l0,l1]∧Fr q w O' k)∧Lc l0 w O' p 148 [c0,.int .i64 x.words]∧Rw l1 w O' 152 c0 x.fields∧inI64 x.words:=by
  obtain ⟨⟨g,L,c0,hv,hb,hM,hL,h0,h1⟩,hi⟩:=h
  obtain rfl:p=g:=by injection hv with hv;injection hv with hv;injection hv
  exact ⟨part O i L [l0,l1],c0,Hy hi,Gw (by simp),⟨hb,(DK (j:=0) rfl p ⟨hM,hL⟩).2⟩,h0.rw (Dc hi) (DK (j:=1) rfl) hl.2,h1⟩
theorem Pkr.shut {w:World} {O:Lab} {p:Nat} {x:Pkr} {l0 l1:Nat} {c0:Value} (hd:¬ 0∈[l0,l1]∧[l0,l1].idxOf l0=0∧[l0,l1].idxOf l1=1) (hb:Lc l0 w O p 148 [c0,.int .i64 x.words]) (h0:Rw l1 w O 152 c0 x.fields) (h1:inI64 x.words):∃ O',St (·∈[l0,l1]) w O w O'∧(∀ k,Fr 0 w O k→Fr 0 w O' k)∧(∀ q,q∈[l0,l1]→∀ k,Fr q w O k→Fr l0 w O' k)∧Ob l0 w O' (.pointer (some ⟨p,0,none⟩)) x:=by
  have hb1:l0≠0:=fun e=>hd.1 (by simp [e])
  have hg:=Dl (i:=l0) hd.2.1 (by simp) p ⟨hb.1.lt,hb.2⟩
  exact ⟨whole O l0 [l0,l1],Gx,Ch hd.1,FJ,⟨p,fun k=>[l0,l1].idxOf (O k),c0,rfl,hb.1,hg.1,hg.2,h0.m (Ch hd.1) (Dl hd.2.2 (by simp)) (fun k a b=>frNe0 hb1 k a b.1),h1⟩,hb1⟩
noncomputable def Dz (x0:List Int):Option ((Option Pkr)×Err) :=
  if 64 < (x0.length:Int) then (some (none,(⟨5⟩:Err))) else (bnd (rng (ρ:=(Option Pkr)×Err) (fun (k25:Nat) (a26:Int) (s23:Int×Pkr)=>bnd (if a26 < 1 then (some true) else (if 64 < a26 then (some true) else (some false)):Option Bool) fun y48=>if y48=true then (some (.ret (none,(⟨1⟩:Err)))) else (bnd (lop (ρ:=Ctl (Int×Pkr) ((Option Pkr)×Err)) (fun (s61:Int)=>bnd (shlI 1 s61) fun n76=>if n76 < a26 then (bnd (chkI (s61 + 1)) fun n80=>some (.next n80)) else (some (.brk s61))) 0) fun res59=>fin res59 fun (s87:Int)=>bnd (bnd (chkI (s23.1 + s87)) fun n95=>if 64 < n95 then (bnd (chkI (s23.2.words + 1)) fun n109=>some (0,(⟨s23.2.fields,n109⟩:Pkr))) else (some (s23.1,s23.2)):Option (Int×Pkr)) fun y89=>bnd (chkI (y89.2.words - 1)) fun n133=>bnd (appI 32 y89.2.fields [(⟨n133,y89.1,s87,a26⟩:PFd)]) fun u142=>bnd (chkI (y89.1 + s87)) fun n155=>some (.next (n155,(⟨u142,y89.2.words⟩:Pkr))))) x0 0 (0,(⟨([]:List PFd),1⟩:Pkr))) fun res21=>fin res21 fun (s167:Int×Pkr)=>some ((some s167.2),(⟨0⟩:Err)))
theorem Kk {w:World} {O:Lab} {vx0:Value} {x0:List Int} (hx0:Vb w (Fr 0 w O) vx0 x0) (j0:Nat) (hj0:j0≠0) {r:(Option Pkr)×Err} (hm:Dz x0=some r) :
    Fn Try.prog 74 [vx0] w fun v w'=>∃ O',St nT w O w' O'∧∃ v0 v1:Value,v=.tuple #[v0,v1]∧Obo j0 w' O' v0 r.1∧Vb w' (Fr 0 w' O') v1 r.2:=by
 obtain ⟨O0,hE,hz0⟩:=ent0 (w:=w) (O:=O)
 have hB:Bm w O0 w O0:=Bm.refl
 replace hx0:=hx0.mono hz0
 obtain ⟨A2,c3,rfl⟩:=hx0.form
 refine AK Try.func74 rfl Try.ntmps74 rfl ?_
 unfold Dz at hm
 refine Ah (Ae (o_as rfl rfl (o_as rfl rfl (o_z ?_))))
 refine Ah (Ah (Ae (o_mv rfl rfl (o_ln rfl rfl ?_))))
 have l5:x0.length≤9223372036854775807:=Nat.le_trans hx0.len.2.1 hx0.len.2.2
 have r4:inI64 (x0.length:Int):=rngNat l5
 refine o_gtS rfl rfl rfl (fun c6=>?_) fun c6=>?_
 ·
  replace hm:=ip hm c6
  refine o_z ?_
  refine Ar rfl (Ah (Ae (o_miE rfl rfl ?_)))
  refine o_as rfl rfl (o_as rfl rfl (o_z ?_))
  refine Au ?_
  obtain rfl:=sm hm
  obtain ⟨O',hS',hz,hl⟩:=hE.leave (fun _=>0) rfl hB
  exact ret2 rfl (AG rfl) (AG rfl) ⟨O',hS',_,_,rfl,rfl,(vErr (by decide))⟩
 ·
  replace hm:=im hm c6
  refine o_z ?_
  refine Aj rfl (Am (Ah (Ae (o_bd rfl rfl rfl ?_))))
  refine l_box 2 O0 rfl rfl fun g7 w8 O9 S10 h11=>?_
  replace h11:Lc 2 w8 O9 g7 148 [(.slice none 0 0),(.int .i64 1)]:=h11
  refine o_as rfl rfl (o_z ?_)
  refine Ah (Ae (o_as rfl rfl (o_z ?_)))
  refine Ah (Ah (Ae (o_mv rfl rfl (o_ln rfl rfl ?_))))
  replace hx0:=hx0.st S10
  have l13:x0.length≤9223372036854775807:=Nat.le_trans hx0.len.2.1 hx0.len.2.2
  have r12:inI64 (x0.length:Int):=rngNat l13
  refine o_mv rfl rfl (o_z ?_)
  have h14:Rw 3 w8 O9 152 (.slice none 0 0) ([]:List PFd):=Rw.nil 3 (by decide)
  obtain ⟨O16,S17,hz19,ha20,h18⟩:=Pkr.shut (x:=(⟨([]:List PFd),1⟩:Pkr)) (l0:=2) (l1:=3) (by decide) h11 h14 (show inI64 (1) from by decide)
  obtain ⟨res21,hL22,hm⟩:=bs hm
  refine AL (aft res21 (fun (s23:Int×Pkr) (x24:Unit)=>[(4,(.pointer (some ⟨g7,0,none⟩)))]) (fun s23 x24 w'=>∃ O':Lab,Bm w O0 w' O'∧Ob 2 w' O' (.pointer (some ⟨g7,0,none⟩)) s23.2∧inI64 s23.1)) ?_ ?_
  ·
   refine Al ?_
   replace hB:=(hB.st S10).st S17
   replace hx0:=hx0.st S17
   refine BM (σ:=Int×Pkr) (X:=Unit) (x0.length) hL22 rfl l13 (fun (s23:Int×Pkr) (x24:Unit)=>[(4,(.pointer (some ⟨g7,0,none⟩))),(5,(.int .i64 s23.1)),(15,(.slice A2 x0.length c3))]) _ (fun s23 x24 w'=>∃ O':Lab,Bm w O0 w' O'∧Ob 2 w' O' (.pointer (some ⟨g7,0,none⟩)) s23.2∧Vb w' (Fr 0 w' O') (.slice A2 x0.length c3) x0∧inI64 s23.1) _ () ⟨O16,hB,h18,hx0,(show inI64 (0) from by decide)⟩ ⟨rfl,rfl,rfl,rfl,rfl,trivial⟩ (fun _ _=>⟨rfl,rfl⟩) (fun _ _=>⟨rfl,trivial⟩) (fun _ _ _ ⟨O',hB,h39,hx0,r38⟩=>⟨O',hB,h39,r38⟩) ⟨rfl,rfl,rfl⟩ ⟨rfl,rfl⟩ ?_
   rintro k25 a26 s23 x24 w27 cc29 hx30 ⟨O28,hB,h39,hx0,r38⟩ hf31 hret32 hbrk33
   have rk25:inI64 (k25:Int):=rngK hx30 l13
   refine Ah (Ae ?_)
   obtain ⟨b40,o41,ce42,hA43,hl44,hd45,rfl,r47⟩:=hx0.elem' hx30
   refine o_iaE (hA:=hA43) (hj:=rfl) (hlt:=hl44) rfl rfl rfl ?_
   refine o_ld (hc:=cat0 hd45) rfl rfl ?_
   refine o_as rfl rfl (o_z ?_)
   refine Ah (Ah ?_)
   obtain ⟨y48,hy49,hf31⟩:=bs hf31
   refine AL (fun l' w'=>∃ (x51:Unit) (O':Lab),subs l' [(4,(.pointer (some ⟨g7,0,none⟩))),(5,(.int .i64 s23.1)),(7,(.int .i64 a26)),(15,(.slice A2 x0.length c3)),(16,(.int .i64 (x0.length:Int))),(17,(.int .i64 (k25:Int))),(26,(.bool y48))]∧Bm w O0 w' O'∧Ob 2 w' O' (.pointer (some ⟨g7,0,none⟩)) s23.2∧Vb w' (Fr 0 w' O') (.slice A2 x0.length c3) x0) ?_ ?_
   ·
    refine Ae (o_mv rfl rfl (o_ltS rfl rfl rfl (fun c52=>?_) fun c52=>?_))
    ·
     replace hy49:=ip hy49 c52
     refine o_mv rfl rfl (AD rfl rfl rfl rfl (AD rfl rfl rfl rfl (o_pt rfl rfl rfl (o_z ?_))))
     obtain rfl:=sm hy49
     exact ⟨(),_,⟨rfl,rfl,rfl,rfl,rfl,rfl,rfl,trivial⟩,hB,h39,hx0⟩
    ·
     replace hy49:=im hy49 c52
     refine o_mv rfl rfl (AE rfl rfl (o_mv rfl rfl (AE rfl rfl (o_gtS rfl rfl rfl (fun c53=>?_) fun c53=>?_))))
     ·
      replace hy49:=ip hy49 c53
      refine o_pf rfl rfl rfl (o_z ?_)
      obtain rfl:=sm hy49
      exact ⟨(),_,⟨rfl,rfl,rfl,rfl,rfl,rfl,rfl,trivial⟩,hB,h39,hx0⟩
     ·
      replace hy49:=im hy49 c53
      refine o_pf rfl rfl rfl (o_z ?_)
      obtain rfl:=sm hy49
      exact ⟨(),_,⟨rfl,rfl,rfl,rfl,rfl,rfl,rfl,trivial⟩,hB,h39,hx0⟩
   rintro l54 w55 ⟨x51,O56,hs57,hB,h39,hx0⟩
   refine AP _ hs57 ?_
   refine Cb rfl (fun c58=>?_) (fun c58=>?_)
   ·
    replace hf31:=ip hf31 c58
    refine Ah (Ae (o_miE rfl rfl ?_))
    refine o_as rfl rfl (o_as rfl rfl (o_z ?_))
    refine Au ?_
    obtain rfl:=sm hf31
    obtain rfl:=hret32 _ rfl
    obtain rfl:=sm (Bo hm)
    obtain ⟨O',hS',hz,hl⟩:=hE.leave (fun _=>0) rfl hB
    exact ret2 rfl (AG rfl) (AG rfl) ⟨O',hS',_,_,rfl,rfl,(vErr (by decide))⟩
   ·
    replace hf31:=im' hf31 c58
    refine Am (Ah (Ae (o_as rfl rfl (o_z ?_))))
    refine Ah ?_
    obtain ⟨res59,hL60,hf31⟩:=bs hf31
    refine AL (aft res59 (fun (s61:Int) (x62:Unit)=>[(4,(.pointer (some ⟨g7,0,none⟩))),(5,(.int .i64 s23.1)),(7,(.int .i64 a26)),(8,(.int .i64 s61)),(15,(.slice A2 x0.length c3)),(16,(.int .i64 (x0.length:Int))),(17,(.int .i64 (k25:Int)))]) (fun s61 x62 w'=>∃ O':Lab,Bm w O0 w' O'∧Ob 2 w' O' (.pointer (some ⟨g7,0,none⟩)) s23.2∧Vb w' (Fr 0 w' O') (.slice A2 x0.length c3) x0∧inI64 s61)) ?_ ?_
    ·
     refine Al (DZ (σ:=Int) (X:=Unit) hL60 (fun (s61:Int) (x62:Unit)=>[(4,(.pointer (some ⟨g7,0,none⟩))),(5,(.int .i64 s23.1)),(7,(.int .i64 a26)),(8,(.int .i64 s61)),(15,(.slice A2 x0.length c3)),(16,(.int .i64 (x0.length:Int))),(17,(.int .i64 (k25:Int)))]) _ (fun s61 x62 w'=>∃ O':Lab,Bm w O0 w' O'∧Ob 2 w' O' (.pointer (some ⟨g7,0,none⟩)) s23.2∧Vb w' (Fr 0 w' O') (.slice A2 x0.length c3) x0∧inI64 s61) _ () ⟨O56,hB,h39,hx0,(show inI64 (0) from by decide)⟩ ⟨rfl,rfl,rfl,rfl,rfl,rfl,rfl,trivial⟩ ?_)
     rintro s61 x62 w65 cc67 ⟨O66,hB,h39,hx0,r75⟩ hf69 hret70 hbrk71
     refine Ah (Ah (Ae (o_mv rfl rfl ?_)))
     obtain ⟨n76,e77,hf69⟩:=bs hf69
     have r78:=Lq e77
     refine o_ish (he:=e77) rfl rfl rfl ?_
     refine o_mv rfl rfl (o_ltS rfl rfl rfl (fun c79=>?_) fun c79=>?_)
     ·
      replace hf69:=ip hf69 c79
      refine o_z ?_
      refine Ar rfl (Am (Al (Ae (o_mv rfl rfl ?_))))
      obtain ⟨n80,e81,hf69⟩:=bs hf69
      have r82:=(Bj e81)
      refine o_adE (he:=e81) rfl rfl rfl ?_
      refine o_as rfl rfl (o_z ?_)
      obtain rfl:=sm hf69
      refine (?_:Exists _)
      exact ⟨_,(),rfl,⟨rfl,rfl,rfl,rfl,rfl,rfl,rfl,trivial⟩,_,hB,h39,hx0,r82⟩
     ·
      replace hf69:=im hf69 c79
      refine o_z ?_
      refine Aj rfl (At ?_)
      obtain rfl:=sm hf69
      refine (?_:Exists _)
      exact ⟨_,(),hbrk71 _ rfl,⟨rfl,rfl,rfl,rfl,rfl,rfl,rfl,trivial⟩,_,hB,h39,hx0,r75⟩
    rintro l83 w84 ⟨s87,x88,rfl,hs86,O85,hB,h39,hx0,r75⟩
    replace hf31:=AY hf31
    refine AP _ hs86 ?_
    refine Ah ?_
    obtain ⟨y89,hy90,hf31⟩:=bs hf31
    refine AL (fun l' w'=>∃ (x92:Unit) (O':Lab),subs l' [(4,(.pointer (some ⟨g7,0,none⟩))),(5,(.int .i64 y89.1)),(7,(.int .i64 a26)),(8,(.int .i64 s87)),(15,(.slice A2 x0.length c3)),(16,(.int .i64 (x0.length:Int))),(17,(.int .i64 (k25:Int)))]∧Bm w O0 w' O'∧Ob 2 w' O' (.pointer (some ⟨g7,0,none⟩)) y89.2∧Vb w' (Fr 0 w' O') (.slice A2 x0.length c3) x0∧inI64 y89.1) ?_ ?_
    ·
     refine Ah (Ae (o_mv rfl rfl (o_mv rfl rfl ?_)))
     obtain ⟨n95,e96,hy90⟩:=bs hy90
     have r97:=(Bj e96)
     refine o_adE (he:=e96) rfl rfl rfl ?_
     refine o_gtS rfl rfl rfl (fun c98=>?_) fun c98=>?_
     ·
      replace hy90:=ip hy90 c98
      refine o_z ?_
      refine Ar rfl (Ah (Ae (o_mv rfl rfl (o_nc rfl rfl ?_))))
      obtain ⟨O99,v103,S100,ha102,h101,h104,r108⟩:=Pkr.opn h39 2 4 (by decide)
      obtain ⟨A105,c106,rfl⟩:=h104.form
      refine o_fa rfl rfl (o_ld (hc:=Blk.cell (i:=1) (h101.1) rfl) rfl rfl ?_)
      obtain ⟨n109,e110,hy90⟩:=bs hy90
      have r111:=(Bj e110)
      refine o_adE (he:=e110) rfl rfl rfl ?_
      refine o_nc rfl rfl (o_fa rfl rfl (AV h101 rfl rfl rfl (Nat.le_of_ble_eq_true rfl) (by first|exact allOne rfl|simp [Value.cells,Value.oneCell',AQ]) fun w112 S113 h101=>?_))
      replace h101:Lc 2 w112 O99 g7 148 [(.slice A105 s23.2.fields.length c106),(.int .i64 n109)]:=h101
      refine o_z ?_
      refine Ae (o_as rfl rfl (o_z ?_))
      replace h104:=h104.st S113
      obtain ⟨O114,S115,hz117,ha118,h116⟩:=Pkr.shut (x:=(⟨s23.2.fields,n109⟩:Pkr)) (l0:=2) (l1:=4) (by decide) h101 h104 r111
      obtain rfl:=sm hy90
      replace hB:=((hB.st S100).st S113).st S115
      replace hx0:=((hx0.st S100).st S113).st S115
      exact ⟨(),_,⟨rfl,rfl,rfl,rfl,rfl,rfl,rfl,trivial⟩,hB,h116,hx0,(show inI64 (0) from by decide)⟩
     ·
      replace hy90:=im hy90 c98
      refine o_z ?_
      refine Aj rfl (Am ?_)
      obtain rfl:=sm hy90
      exact ⟨(),_,⟨rfl,rfl,rfl,rfl,rfl,rfl,rfl,trivial⟩,hB,h39,hx0,r38⟩
    rintro l119 w120 ⟨x92,O121,hs122,hB,h94,hx0,r93⟩
    refine AP _ hs122 ?_
    refine Ah ?_
    obtain ⟨O123,v127,S124,ha126,h125,h128,r132⟩:=Pkr.opn h94 2 4 (by decide)
    obtain ⟨A129,c130,rfl⟩:=h128.form
    refine BA [(14,[]),(15,[4])] O123 ?_
    refine x_pre (fuel:=6) [] [(1,true),(2,true),(3,true),(4,true),(5,true),(6,true),(7,true),(8,true),(9,true),(10,true),(11,true),(12,true),(13,true)] (by kernel_rfl) rfl ?_
    refine h_mv rfl rfl rfl (h_nc rfl rfl rfl (h_fa rfl rfl rfl (h_ldC (hc:=fun w' ⟨O',hq⟩=>Blk.cell (i:=0) ((h125.st hq (by decide)).1) rfl) rfl rfl rfl ?_)))
    refine h_mv rfl rfl rfl (h_nc rfl rfl rfl (h_fa rfl rfl rfl (h_ldC (hc:=fun w' ⟨O',hq⟩=>Blk.cell (i:=1) ((h125.st hq (by decide)).1) rfl) rfl rfl rfl ?_)))
    obtain ⟨n133,e134,hf31⟩:=bs hf31
    have r135:=(Bj e134)
    refine h_sbE (he:=e134) rfl rfl rfl rfl ?_
    refine h_mv rfl rfl rfl (h_mv rfl rfl rfl (h_mv rfl rfl rfl (h_bd rfl rfl rfl rfl ?_)))
    refine AI ?_
    refine x_pre (fuel:=5) [4] [(0,true)] (by kernel_rfl) rfl ?_
    refine h_mv rfl rfl rfl (AI ?_)
    refine x_one (i:=14) (by kernel_rfl) rfl ?_
    refine BG 5 (by decide) O123 (xs:=([(⟨n133,y89.1,s87,a26⟩:PFd)]:List PFd)) rfl rfl rfl rfl ⟨(Vb.ofAgg (cs:=[(.int .i64 n133),(.int .i64 y89.1),(.int .i64 s87),(.int .i64 a26)]) (x:=(⟨n133,y89.1,s87,a26⟩:PFd)) rfl ⟨rfl,r135,r93,r75,r47⟩),trivial⟩ (by decide) (by decide) rfl fun g136 w137 O138 S139 h140=>?_
    have hZ:=S139.lst [] (fun _ h=>h.elim)
    refine x_go [(15,[4])] hZ (by kernel_rfl) ?_
    refine x_one (i:=15) (by kernel_rfl) rfl ?_
    obtain ⟨u142,e143,hf31⟩:=bs hf31
    obtain ⟨e143,e144,e145⟩:=Cg e143
    replace h128:=h128.st S139
    refine DS rfl h128 (h140.rd) rfl rfl (by decide) e144 e145 rfl fun A146 c147 w148 O149 S150 h151=>?_
    rw [← e143] at h151 ⊢
    have hZ:=S150.lst [4] (fun _ h=>by cases h;decide)
    refine x_go [] hZ (by kernel_rfl) ?_
    refine x_pre (fuel:=1) [] [(16,true),(17,true)] (by kernel_rfl) rfl ?_
    refine h_nc rfl rfl rfl (h_fa rfl rfl rfl (AI ?_))
    refine x_one (i:=18) (by kernel_rfl) rfl ?_
    replace h125:=(h125.st S139).st S150
    refine AV h125 rfl rfl rfl (Nat.le_of_ble_eq_true rfl) (by first|exact allOne rfl|simp [Value.cells,Value.oneCell',AQ]) fun w153 S154 h125=>?_
    replace h125:Lc 2 w153 O149 g7 148 [(.slice A146 u142.length c147),(.int .i64 y89.2.words)]:=h125
    refine x_end (by kernel_rfl) ?_
    refine x_nil (by kernel_rfl) ?_
    refine Ae (o_mv rfl rfl (o_mv rfl rfl ?_))
    obtain ⟨n155,e156,hf31⟩:=bs hf31
    have r157:=(Bj e156)
    refine o_adE (he:=e156) rfl rfl rfl ?_
    refine o_as rfl rfl (o_z ?_)
    replace h151:=h151.st S154
    obtain ⟨O158,S159,hz161,ha162,h160⟩:=Pkr.shut (x:=(⟨u142,y89.2.words⟩:Pkr)) (l0:=2) (l1:=4) (by decide) h125 h151 r132
    obtain rfl:=sm hf31
    refine (?_:Exists _)
    replace hB:=((((hB.st S124).st S139).st S150).st S154).st S159
    replace hx0:=((((hx0.st S124).st S139).st S150).st S154).st S159
    exact ⟨_,(),rfl,⟨rfl,rfl,rfl,rfl,rfl,trivial⟩,_,hB,h160,hx0,r157⟩
  replace hB:=(hB.st S10).st S17
  rintro l163 w164 ⟨s167,x168,rfl,hs166,O165,hB,h39,r38⟩
  replace hm:=AY hm
  refine AP _ hs166 ?_
  refine Ah (Ae (o_mv rfl rfl (o_as rfl rfl (o_as rfl rfl (o_z ?_)))))
  refine Au ?_
  obtain rfl:=sm hm
  obtain ⟨O',hS',hz,hl⟩:=hE.leave (fun q=>if q=2 then j0 else 0) rfl hB
  exact ret2 rfl (AG rfl) (AG rfl) ⟨O',hS',_,_,rfl,(Ob.leave h39 hz (hl 2 (by decide) (by decide)) hj0),(vErr (show inI64 0 from by decide))⟩
noncomputable def Ca (x0:PFd):Option U64 :=
  bnd (shlU (1:U64) x0.width) fun n12=>bnd (shlU (n12 - (1:U64)) x0.bit) fun n14=>some n14
theorem Ff {w:World} {A:Nat→Prop} (hA:∀ k,A k→k < w.heap.size) {vx0:Value} {x0:PFd} (hx0:Vb w A vx0 x0) {r:U64} (hm:Ca x0=some r) :
    Fn Try.prog 77 [vx0] w fun v w'=>Ext w w'∧Vb w' (upA A w w') v r:=by
 obtain ⟨O,hB,hA0⟩:=enter hA
 replace hx0:=hx0.mono hA0
 obtain ⟨cs2,rfl,rfl,r3,r4,r5,r6⟩:=hx0
 refine AK Try.func77 rfl Try.ntmps77 rfl ?_
 unfold Ca at hm
 refine Ah (Ae (l_box 2 O rfl rfl fun g7 w8 O9 S10 h11=>?_))
 replace h11:Lc 2 w8 O9 g7 152 [(.int .i64 x0.word),(.int .i64 x0.bit),(.int .i64 x0.width),(.int .i64 x0.size)]:=h11
 refine o_as rfl rfl (o_z ?_)
 refine Ah (BE (·=w8) [(0,true),(1,true),(2,true),(3,true),(4,true),(5,true),(6,true),(7,true)] (by kernel_rfl) rfl (by kernel_rfl) rfl ?_)
 refine h_fa rfl rfl rfl (h_ldA (hc:=Blk.cell (i:=2) (h11.1) rfl) rfl rfl rfl ?_)
 obtain ⟨n12,e13,hm⟩:=bs hm
 refine h_ush (a:=(1:U64)) (he:=e13) rfl rfl rfl rfl ?_
 refine h_usb (a:=n12) (b:=(1:U64)) rfl rfl rfl rfl ?_
 refine h_fa rfl rfl rfl (h_ldA (hc:=Blk.cell (i:=1) (h11.1) rfl) rfl rfl rfl ?_)
 obtain ⟨n14,e15,hm⟩:=bs hm
 refine h_ush (a:=(n12 - (1:U64))) (he:=e15) rfl rfl rfl rfl ?_
 refine h_as rfl rfl rfl (h_z ?_)
 refine Au ?_
 obtain rfl:=sm hm
 replace hB:=hB.st S10
 exact ret1v rfl (AG rfl) ⟨hB.ext,vU64⟩
noncomputable def Cr (x0:PFd) (x1:List U64):Option Int :=
  bnd (atI x1 x0.word) fun a15=>bnd (Ca x0) fun q26=>bnd (shrU (a15 &&& q26) x0.bit) fun n33=>some n33.toInt
theorem HR {w:World} {A:Nat→Prop} (hA:∀ k,A k→k < w.heap.size) {vx0:Value} {x0:PFd} (hx0:Vb w A vx0 x0) {vx1:Value} {x1:List U64} (hx1:Vb w A vx1 x1) {r:Int} (hm:Cr x0 x1=some r) :
    Fn Try.prog 76 [vx0,vx1] w fun v w'=>Ext w w'∧Vb w' (upA A w w') v r:=by
 obtain ⟨O,hB,hA0⟩:=enter hA
 replace hx0:=hx0.mono hA0
 obtain ⟨cs3,rfl,rfl,r4,r5,r6,r7⟩:=hx0
 replace hx1:=hx1.mono hA0
 obtain ⟨A8,c9,rfl⟩:=hx1.form
 refine AK Try.func76 rfl Try.ntmps76 rfl ?_
 unfold Cr at hm
 refine Ah (Ae (l_box 2 O rfl rfl fun g10 w11 O12 S13 h14=>?_))
 replace h14:Lc 2 w11 O12 g10 152 [(.int .i64 x0.word),(.int .i64 x0.bit),(.int .i64 x0.width),(.int .i64 x0.size)]:=h14
 refine o_as rfl rfl (o_z ?_)
 refine Ah (BA [(6,[])] O12 ?_)
 refine x_pre (fuel:=5) [] [(0,true),(1,true),(2,true),(3,true),(4,true),(5,true),(8,true),(9,true)] (by kernel_rfl) rfl ?_
 refine h_mv rfl rfl rfl (h_fa rfl rfl rfl (h_ldC (hc:=fun w' ⟨O',hq⟩=>Blk.cell (i:=0) ((h14.st hq (by decide)).1) rfl) rfl rfl rfl ?_))
 obtain ⟨a15,e16,hm⟩:=bs hm
 obtain ⟨p18,x17⟩:=AM e16
 replace hx1:=hx1.st S13
 obtain ⟨b19,o20,ce21,hA22,hF25,hl23,hd24,rfl⟩:=hx1.elem x17
 refine h_iaE (hA:=hA22) (hj:=(Int.toNat_of_nonneg p18).symm) (hlt:=hl23) rfl rfl rfl rfl ?_
 refine h_ldC (hc:=fun w' ⟨O',hq⟩=>cat0 (Bh (hq.agree (i:=0) (by decide)) hF25 hd24)) rfl rfl rfl ?_
 refine h_laB (hl:=rfl) (hb:=fun w' ⟨O',hq⟩=>((h14.st hq (by decide)).1).cellsAt) rfl rfl rfl ?_
 refine h_fa rfl rfl rfl (h_ldC (hc:=fun w' ⟨O',hq⟩=>Blk.cell (i:=1) ((h14.st hq (by decide)).1) rfl) rfl rfl rfl ?_)
 refine AI ?_
 refine x_one (i:=6) (by kernel_rfl) rfl ?_
 obtain ⟨q26,e27,hm⟩:=bs hm
 refine BL (O:=O12) (A:=All w11) (R:=fun w' F v=>Vb w' F v q26) (Ff (fun _ h=>h) (Vb.mono (F:=Fr 0 w11 O12) (Vb.ofAgg (cs:=[(.int .i64 x0.word),(.int .i64 x0.bit),(.int .i64 x0.width),(.int .i64 x0.size)]) (x:=x0) rfl ⟨rfl,r4,r5,r6,r7⟩) Fr.lt) e27) rfl rfl fun v32 w28 O29 S30 h31=>?_
 obtain rfl:=h31.u64
 have hZ:=S30.lst [] (fun _ h=>h.elim)
 refine x_go [] hZ (by kernel_rfl) ?_
 refine x_pre (fuel:=0) [] [(7,true),(10,true),(11,true),(12,true)] (by kernel_rfl) rfl ?_
 refine h_uan (a:=a15) (b:=q26) rfl rfl rfl rfl ?_
 obtain ⟨n33,e34,hm⟩:=bs hm
 refine h_usr (a:=(a15 &&& q26)) (he:=e34) rfl rfl rfl rfl ?_
 refine h_cvI (a:=n33) rfl rfl rfl ?_
 refine h_as rfl rfl rfl (AI ?_)
 refine x_nil (by kernel_rfl) ?_
 refine Au ?_
 obtain rfl:=sm hm
 replace hB:=(hB.st S13).st S30
 exact ret1v rfl (AG rfl) ⟨hB.ext,(vInt (toIntR _))⟩
noncomputable def Bp (x0:Pkr) (x1:List Int):Option ((List U64)×Err) :=
  if (x1.length:Int)≠(x0.fields.length:Int) then (some (([]:List U64),(⟨2⟩:Err))) else (bnd (mkI 8 ((0:U64):U64) x0.words) fun u25=>bnd (rng (ρ:=(List U64)×Err) (fun (k50:Nat) (a51:PFd) (s48:(List U64))=>bnd (bnd (x1[k50]?) fun a87=>if a87 < 0 then (some true) else (bnd (x1[k50]?) fun a98=>if a51.size≤a98 then (some true) else (some false)):Option Bool) fun y83=>if y83=true then (some (.ret (([]:List U64),(⟨2⟩:Err)))) else (bnd (atI s48 a51.word) fun a114=>bnd (x1[k50]?) fun a125=>bnd (shlU (BitVec.ofInt 64 a125) a51.bit) fun n135=>bnd (atI s48 a51.word) fun a137=>some (.next (s48.set (a51.word:Int).toNat (a114 ||| n135))))) x0.fields 0 u25) fun res46=>fin res46 fun (s154:(List U64))=>some (s154,(⟨0⟩:Err)))
theorem Hi {w:World} {O:Lab} {p0 i0:Nat} {x0:Pkr} (hx0:Ob i0 w O (.pointer (some ⟨p0,0,none⟩)) x0) {vx1:Value} {x1:List Int} (hx1:Vb w (Fr 0 w O) vx1 x1) {r:(List U64)×Err} (hm:Bp x0 x1=some r) :
    Fn Try.prog 80 [(.pointer (some ⟨p0,0,none⟩)),vx1] w fun v w'=>∃ O',St (eT i0) w O w' O'∧∃ v0 v1:Value,Ob i0 w' O' (.pointer (some ⟨p0,0,none⟩)) x0∧v=.tuple #[v0,v1]∧Vb w' (Fr 0 w' O') v0 r.1∧Vb w' (Fr 0 w' O') v1 r.2:=by
 obtain ⟨O0,hE,hz0,hl2⟩:=ent1 (w:=w) (O:=O) hx0.2
 have hx0':=Ob.leave hx0 hz0 hl2 (j:=2) (by decide)
 have hB:Bm w O0 w O0:=Bm.refl
 replace hx1:=hx1.mono hz0
 obtain ⟨A3,c4,rfl⟩:=hx1.form
 refine AK Try.func80 rfl Try.ntmps80 rfl ?_
 unfold Bp at hm
 refine Ah (Ae (o_as rfl rfl (o_as rfl rfl (o_z ?_))))
 refine Ah (Ah (Ae (o_mv rfl rfl (o_pn rfl rfl ?_))))
 refine o_z ?_
 refine Aj rfl (Am (Ah (Ah (Ae (o_mv rfl rfl (o_ln rfl rfl ?_))))))
 have l6:x1.length≤9223372036854775807:=Nat.le_trans hx1.len.2.1 hx1.len.2.2
 have r5:inI64 (x1.length:Int):=rngNat l6
 refine o_mv rfl rfl (o_nc rfl rfl ?_)
 obtain ⟨O7,v11,S8,ha10,h9,h12,r16⟩:=Pkr.opn hx0' 2 3 (by decide)
 obtain ⟨A13,c14,rfl⟩:=h12.form
 refine o_fa rfl rfl (o_ld (hc:=Blk.cell (i:=0) (h9.1) rfl) rfl rfl ?_)
 refine o_ln rfl rfl ?_
 have l18:x0.fields.length≤9223372036854775807:=Nat.le_trans h12.len.2.1 h12.len.2.2
 have r17:inI64 (x0.fields.length:Int):=rngNat l18
 refine o_neS rfl rfl rfl (fun c19=>?_) fun c19=>?_
 ·
  replace hm:=ip hm c19
  refine o_z ?_
  refine Ar rfl (Ah (Ae (o_miE rfl rfl ?_)))
  refine o_as rfl rfl (o_as rfl rfl (o_z ?_))
  refine Au ?_
  obtain ⟨O20,S21,hz23,ha24,h22⟩:=Pkr.shut (x:=x0) (l0:=2) (l1:=3) (by decide) h9 h12 r16
  obtain rfl:=sm hm
  replace hB:=(hB.st S8).st S21
  obtain ⟨O',hS',hz,hl⟩:=hE.leave (fun q=>if q=2 then i0 else 0) rfl hB
  exact ret2 rfl (AG rfl) (AG rfl) ⟨O',hS',_,_,(Ob.leave h22 hz (hl 2 (by decide) (by decide)) hx0.2),rfl,(Vb.mono (Vb.nil _ _) hz),(vErr (by decide))⟩
 ·
  replace hm:=im hm c19
  refine o_z ?_
  refine Aj rfl (Am (Ah (Ae (o_mv rfl rfl (o_nc rfl rfl (o_fa rfl rfl (o_ld (hc:=Blk.cell (i:=1) (h9.1) rfl) rfl rfl ?_)))))))
  obtain ⟨u25,e26,hm⟩:=bs hm
  obtain ⟨m27,e28,e29,e30,e31⟩:=Gr e26
  refine Ib 4 (by decide) O7 (z0:=((0:U64):U64)) rfl rfl rfl rfl rfl e28 vU64 e29 e30 rfl fun g32 w33 O34 S35 h36=>?_
  rw [← e31] at h36 ⊢
  refine o_as rfl rfl (o_z ?_)
  refine Ah (Ah (Ae (o_mv rfl rfl (o_nc rfl rfl (o_fa rfl rfl ?_)))))
  replace h9:=h9.st S35
  refine o_ld (hc:=Blk.cell (i:=0) (h9.1) rfl) rfl rfl ?_
  refine o_ln rfl rfl ?_
  replace h12:=h12.st S35
  have l39:x0.fields.length≤9223372036854775807:=Nat.le_trans h12.len.2.1 h12.len.2.2
  have r38:inI64 (x0.fields.length:Int):=rngNat l39
  refine o_mv rfl rfl (o_z ?_)
  obtain ⟨O40,S41,hz43,ha44,h42⟩:=Pkr.shut (x:=x0) (l0:=2) (l1:=3) (by decide) h9 h12 r16
  have h45:=(h12.lend [3] (by decide)).shutS S41 hz43 ha44 [2] (by decide)
  obtain ⟨res46,hL47,hm⟩:=bs hm
  refine AL (aft res46 (fun (s48:(List U64)) (x49:Unit)=>[(6,(.slice (some ⟨g32,0,none⟩) u25.length m27))]) (fun s48 x49 w'=>∃ O':Lab,Bm w O0 w' O'∧Rw 4 w' O' 150 (.slice (some ⟨g32,0,none⟩) u25.length m27) s48∧Ob 2 w' O' (.pointer (some ⟨p0,0,none⟩)) x0)) ?_ ?_
  ·
   refine Al ?_
   replace hB:=((hB.st S8).st S35).st S41
   replace hx1:=((hx1.st S8).st S35).st S41
   replace h36:=h36.st S41
   refine BM (σ:=(List U64)) (X:=Unit) (x0.fields.length) hL47 rfl l39 (fun (s48:(List U64)) (x49:Unit)=>[(1,(.slice A3 x1.length c4)),(6,(.slice (some ⟨g32,0,none⟩) u25.length m27)),(29,(.slice A13 x0.fields.length c14))]) _ (fun s48 x49 w'=>∃ O':Lab,Bm w O0 w' O'∧Vb w' (Fr 0 w' O') (.slice A3 x1.length c4) x1∧Rw 4 w' O' 150 (.slice (some ⟨g32,0,none⟩) u25.length m27) s48∧Vb w' (FrS [2] w' O') (.slice A13 x0.fields.length c14) x0.fields∧Ob 2 w' O' (.pointer (some ⟨p0,0,none⟩)) x0) _ () ⟨O40,hB,hx1,h36,h45,h42⟩ ⟨rfl,rfl,rfl,rfl,rfl,trivial⟩ (fun _ _=>⟨rfl,rfl⟩) (fun _ _=>⟨rfl,trivial⟩) (fun _ _ _ ⟨O',hB,hx1,h63,h45,h42⟩=>⟨O',hB,h63,h42⟩) ⟨rfl,rfl,rfl⟩ ⟨rfl,rfl⟩ ?_
   rintro k50 a51 s48 x49 w52 cc54 hx55 ⟨O53,hB,hx1,h63,h45,h42⟩ hf56 hret57 hbrk58
   have rk50:inI64 (k50:Int):=rngK hx55 l39
   refine Ah (Ae (o_mv rfl rfl ?_))
   obtain ⟨b65,o66,ce67,hA68,hl69,hd70,rfl,r72,r73,r74,r75⟩:=h45.elem' hx55
   refine o_iaE (hA:=hA68) (hj:=rfl) (hlt:=hl69) rfl rfl rfl ?_
   refine o_la (hl:=rfl) (hc:=hd70) rfl rfl ?_
   refine BR 5 O53 rfl fun g76 w77 O78 S79 h80=>?_
   replace h45:=h45.stS S79 id (fun _ _=>id)
   refine o_as rfl rfl (AV h80 rfl rfl rfl (Nat.le_of_ble_eq_true rfl) (by first|exact allOne rfl|simp [Value.cells,Value.oneCell',AQ]) fun w81 S82 h80=>?_)
   replace h80:Lc 5 w81 O78 g76 152 [(.int .i64 a51.word),(.int .i64 a51.bit),(.int .i64 a51.width),(.int .i64 a51.size)]:=h80
   replace h45:=h45.stS S82 (by decide) (by decide)
   refine o_z ?_
   refine Ah (Ah ?_)
   obtain ⟨y83,hy84,hf56⟩:=bs hf56
   refine AL (fun l' w'=>∃ (x86:Unit) (O':Lab),subs l' [(1,(.slice A3 x1.length c4)),(6,(.slice (some ⟨g32,0,none⟩) u25.length m27)),(7,(.int .i64 (k50:Int))),(8,(.pointer (some ⟨g76,0,none⟩))),(29,(.slice A13 x0.fields.length c14)),(30,(.int .i64 (x0.fields.length:Int))),(31,(.int .i64 (k50:Int))),(49,(.bool y83))]∧Bm w O0 w' O'∧Vb w' (Fr 0 w' O') (.slice A3 x1.length c4) x1∧Rw 4 w' O' 150 (.slice (some ⟨g32,0,none⟩) u25.length m27) s48∧Lc 5 w' O' g76 152 [(.int .i64 a51.word),(.int .i64 a51.bit),(.int .i64 a51.width),(.int .i64 a51.size)]∧Vb w' (FrS [2] w' O') (.slice A13 x0.fields.length c14) x0.fields∧Ob 2 w' O' (.pointer (some ⟨p0,0,none⟩)) x0) ?_ ?_
   ·
    refine BE (·=w81) [(0,true),(1,true),(2,true),(3,true),(4,true),(5,true),(6,true),(7,true),(8,true),(9,true),(10,true),(11,true),(12,true),(13,true)] (by kernel_rfl) rfl (by kernel_rfl) rfl ?_
    refine h_mv rfl rfl rfl (h_mv rfl rfl rfl ?_)
    obtain ⟨a87,e88,hy84⟩:=bs hy84
    replace hx1:=(hx1.st S79).st S82
    obtain ⟨b89,o90,ce91,hA92,hl93,hd94,rfl,r96⟩:=hx1.elem' e88
    refine h_iaE (hA:=hA92) (hj:=rfl) (hlt:=hl93) rfl rfl rfl rfl ?_
    refine h_ldA (hc:=cat0 hd94) rfl rfl rfl ?_
    refine h_ltS rfl rfl rfl rfl (fun c97=>?_) fun c97=>?_
    ·
     replace hy84:=ip hy84 c97
     refine h_mv rfl rfl rfl (h_no rfl rfl rfl rfl rfl (h_no rfl rfl rfl rfl rfl (h_no rfl rfl rfl rfl rfl (h_no rfl rfl rfl rfl rfl (h_no rfl rfl rfl rfl rfl (h_no rfl rfl rfl rfl rfl (h_no rfl rfl rfl rfl rfl (h_pt rfl rfl rfl rfl (h_z ?_)))))))))
     obtain rfl:=sm hy84
     replace hB:=(hB.st S79).st S82
     replace h42:=(h42.st S79).st S82
     replace h63:=(h63.st S79).st S82
     exact ⟨(),_,⟨rfl,rfl,rfl,rfl,rfl,rfl,rfl,rfl,trivial⟩,hB,hx1,h63,h80,h45,h42⟩
    ·
     replace hy84:=im hy84 c97
     refine h_mv rfl rfl rfl (hwp_o rfl (AB rfl rfl (g_mv rfl rfl (hwp_o rfl (AB rfl rfl (g_mv rfl rfl (hwp_o rfl (AB rfl rfl ?_))))))))
     obtain ⟨a98,e99,hy84⟩:=bs hy84
     obtain ⟨b100,o101,ce102,hA103,hl104,hd105,rfl,r107⟩:=hx1.elem' e99
     refine g_iaE (hA:=hA103) (hj:=rfl) (hlt:=hl104) rfl rfl rfl ?_
     refine hwp_o rfl (AB rfl rfl (g_ldA (hc:=cat0 hd105) rfl rfl ?_))
     refine hwp_o rfl (AB rfl rfl (g_fa rfl rfl (hwp_o rfl (AB rfl rfl (g_ldA (hc:=Blk.cell (i:=3) (h80.1) rfl) rfl rfl ?_)))))
     refine hwp_o rfl (AB rfl rfl (AN (fun _ _=>AR rfl rfl) rfl (fun c108=>?_) (fun c108=>?_)))
     ·
      replace hy84:=ip hy84 c108
      refine h_pf rfl rfl rfl rfl (h_z ?_)
      obtain rfl:=sm hy84
      replace hB:=(hB.st S79).st S82
      replace h42:=(h42.st S79).st S82
      replace h63:=(h63.st S79).st S82
      exact ⟨(),_,⟨rfl,rfl,rfl,rfl,rfl,rfl,rfl,rfl,trivial⟩,hB,hx1,h63,h80,h45,h42⟩
     ·
      replace hy84:=im hy84 c108
      refine h_pf rfl rfl rfl rfl (h_z ?_)
      obtain rfl:=sm hy84
      replace hB:=(hB.st S79).st S82
      replace h42:=(h42.st S79).st S82
      replace h63:=(h63.st S79).st S82
      exact ⟨(),_,⟨rfl,rfl,rfl,rfl,rfl,rfl,rfl,rfl,trivial⟩,hB,hx1,h63,h80,h45,h42⟩
   replace hB:=(hB.st S79).st S82
   replace hx1:=(hx1.st S79).st S82
   replace h42:=(h42.st S79).st S82
   replace h63:=(h63.st S79).st S82
   rintro l109 w110 ⟨x86,O111,hs112,hB,hx1,h63,h80,h45,h42⟩
   refine AP _ hs112 ?_
   refine Cb rfl (fun c113=>?_) (fun c113=>?_)
   ·
    replace hf56:=ip hf56 c113
    refine Ah (Ae (o_miE rfl rfl ?_))
    refine o_as rfl rfl (o_as rfl rfl (o_z ?_))
    refine Au ?_
    obtain rfl:=sm hf56
    obtain rfl:=hret57 _ rfl
    obtain rfl:=sm (Bo hm)
    obtain ⟨O',hS',hz,hl⟩:=hE.leave (fun q=>if q=2 then i0 else 0) rfl hB
    exact ret2 rfl (AG rfl) (AG rfl) ⟨O',hS',_,_,(Ob.leave h42 hz (hl 2 (by decide) (by decide)) hx0.2),rfl,(Vb.mono (Vb.nil _ _) hz),(vErr (by decide))⟩
   ·
    replace hf56:=im' hf56 c113
    refine Am (BA [] O111 ?_)
    refine x_pre (fuel:=1) [] [(0,true),(1,true),(2,true),(3,true),(4,true),(5,true),(6,true),(7,true),(8,true),(9,true),(10,true),(11,true),(12,true),(13,true),(14,true)] (by kernel_rfl) rfl ?_
    refine h_mv rfl rfl rfl (h_fa rfl rfl rfl (h_ldC (hc:=fun w' ⟨O',hq⟩=>Blk.cell (i:=0) ((h80.st hq (by decide)).1) rfl) rfl rfl rfl ?_))
    obtain ⟨a114,e115,hf56⟩:=bs hf56
    obtain ⟨p117,x116⟩:=AM e115
    obtain ⟨b118,o119,ce120,hA121,hF124,hl122,hd123,rfl⟩:=h63.elemF x116
    refine h_iaE (hA:=hA121) (hj:=(Int.toNat_of_nonneg p117).symm) (hlt:=hl122) rfl rfl rfl rfl ?_
    refine h_ldC (hc:=fun w' ⟨O',hq⟩=>cat0 (Bh (hq.agree (i:=4) (by decide)) hF124 hd123)) rfl rfl rfl ?_
    refine h_mv rfl rfl rfl (h_mv rfl rfl rfl ?_)
    obtain ⟨a125,e126,hf56⟩:=bs hf56
    obtain ⟨b127,o128,ce129,hA130,hF133,hl131,hd132,rfl,r134⟩:=hx1.elem e126
    refine h_iaE (hA:=hA130) (hj:=rfl) (hlt:=hl131) rfl rfl rfl rfl ?_
    refine h_ldC (hc:=fun w' ⟨O',hq⟩=>cat0 (Bh (hq.agree (i:=0) (by decide)) hF133 hd132)) rfl rfl rfl ?_
    refine h_cvU rfl rfl rfl ?_
    refine h_fa rfl rfl rfl (h_ldC (hc:=fun w' ⟨O',hq⟩=>Blk.cell (i:=1) ((h80.st hq (by decide)).1) rfl) rfl rfl rfl ?_)
    obtain ⟨n135,e136,hf56⟩:=bs hf56
    refine h_ush (a:=(BitVec.ofInt 64 a125)) (he:=e136) rfl rfl rfl rfl ?_
    refine h_uor (a:=a114) (b:=n135) rfl rfl rfl rfl ?_
    obtain ⟨a137,e138,hf56⟩:=bs hf56
    obtain ⟨p140,x139⟩:=AM e138
    obtain ⟨b141,o142,ce143,hA144,hF147,hl145,hd146,rfl⟩:=h63.elemF x139
    refine h_iaE (hA:=hA144) (hj:=(Int.toNat_of_nonneg p140).symm) (hlt:=hl145) rfl rfl rfl rfl ?_
    refine AI ?_
    refine x_one (i:=15) (by kernel_rfl) rfl ?_
    refine Db rfl h63 (a:=(a114 ||| n135)) vU64 hA144 rfl rfl (AJ x139) fun w148 S149 h63=>?_
    replace h45:=h45.stS S149 (by decide) (by decide)
    refine x_end (by kernel_rfl) ?_
    refine x_nil (by kernel_rfl) ?_
    obtain rfl:=sm hf56
    refine (?_:Exists _)
    replace hB:=hB.st S149
    replace hx1:=hx1.st S149
    replace h42:=h42.st S149
    exact ⟨_,(),rfl,⟨rfl,rfl,rfl,rfl,rfl,trivial⟩,_,hB,hx1,h63,h45,h42⟩
  replace hB:=((hB.st S8).st S35).st S41
  rintro l150 w151 ⟨s154,x155,rfl,hs153,O152,hB,h63,h42⟩
  replace hm:=AY hm
  refine AP _ hs153 ?_
  refine Ah (Ae (o_mv rfl rfl (o_as rfl rfl (o_as rfl rfl (o_z ?_)))))
  refine Au ?_
  obtain ⟨O156,S157,h63⟩:=h63.freeze
  obtain rfl:=sm hm
  replace hB:=hB.st S157
  obtain ⟨O',hS',hz,hl⟩:=hE.leave (fun q=>if q=2 then i0 else 0) rfl hB
  replace h42:=h42.st S157
  exact ret2 rfl (AG rfl) (AG rfl) ⟨O',hS',_,_,(Ob.leave h42 hz (hl 2 (by decide) (by decide)) hx0.2),rfl,(Vb.mono h63 hz),(vErr (show inI64 0 from by decide))⟩
noncomputable def BV (x0:Pkr) (x1:List U64):Option ((List Int)×Err) :=
  if (x1.length:Int)≠x0.words then (some (([]:List Int),(⟨2⟩:Err))) else (bnd (mkI 8 (0:Int) (x0.fields.length:Int)) fun u25=>bnd (BO x1) fun q38=>bnd (rng (ρ:=(List Int)×Err) (fun (k60:Nat) (a61:PFd) (s58:(List Int)×(List U64))=>bnd (Cr a61 x1) fun q97=>bnd (s58.1[k60]?) fun a105=>bnd ((s58.1.set k60 q97)[k60]?) fun a117=>if a61.size≤a117 then (some (.ret (([]:List Int),(⟨2⟩:Err)))) else (bnd (atI s58.2 a61.word) fun a128=>bnd (Ca a61) fun q139=>bnd (atI s58.2 a61.word) fun a146=>some (.next ((s58.1.set k60 q97),(s58.2.set (a61.word:Int).toNat (a128 &&& ~~~q139)))))) x0.fields 0 (u25,q38)) fun res56=>fin res56 fun (s163:(List Int)×(List U64))=>bnd (rng (ρ:=(List Int)×Err) (fun (k171:Nat) (a172:U64) (s169:Unit)=>bnd (s163.2[k171]?) fun a182=>if (a182.toNat:Int)≠((0:U64).toNat:Int) then (some (.ret (([]:List Int),(⟨2⟩:Err)))) else (some (.next ()))) q38 0 ()) fun res167=>fin res167 fun (s196:Unit)=>some (s163.1,(⟨0⟩:Err)))
theorem Gz {w:World} {O:Lab} {p0 i0:Nat} {x0:Pkr} (hx0:Ob i0 w O (.pointer (some ⟨p0,0,none⟩)) x0) {vx1:Value} {x1:List U64} (hx1:Vb w (Fr 0 w O) vx1 x1) {r:(List Int)×Err} (hm:BV x0 x1=some r) :
    Fn Try.prog 62 [(.pointer (some ⟨p0,0,none⟩)),vx1] w fun v w'=>∃ O',St (eT i0) w O w' O'∧∃ v0 v1:Value,Ob i0 w' O' (.pointer (some ⟨p0,0,none⟩)) x0∧v=.tuple #[v0,v1]∧Vb w' (Fr 0 w' O') v0 r.1∧Vb w' (Fr 0 w' O') v1 r.2:=by
 obtain ⟨O0,hE,hz0,hl2⟩:=ent1 (w:=w) (O:=O) hx0.2
 have hx0':=Ob.leave hx0 hz0 hl2 (j:=2) (by decide)
 have hB:Bm w O0 w O0:=Bm.refl
 replace hx1:=hx1.mono hz0
 obtain ⟨A3,c4,rfl⟩:=hx1.form
 refine AK Try.func62 rfl Try.ntmps62 rfl ?_
 unfold BV at hm
 refine Ah (Ae (o_as rfl rfl (o_as rfl rfl (o_z ?_))))
 refine Ah (Ah (Ae (o_mv rfl rfl (o_pn rfl rfl ?_))))
 refine o_z ?_
 refine Aj rfl (Am (Ah (Ah (Ae (o_mv rfl rfl (o_ln rfl rfl ?_))))))
 have l6:x1.length≤9223372036854775807:=Nat.le_trans hx1.len.2.1 hx1.len.2.2
 have r5:inI64 (x1.length:Int):=rngNat l6
 refine o_mv rfl rfl (o_nc rfl rfl ?_)
 obtain ⟨O7,v11,S8,ha10,h9,h12,r16⟩:=Pkr.opn hx0' 2 3 (by decide)
 obtain ⟨A13,c14,rfl⟩:=h12.form
 refine o_fa rfl rfl (o_ld (hc:=Blk.cell (i:=1) (h9.1) rfl) rfl rfl ?_)
 refine o_neS rfl rfl rfl (fun c17=>?_) fun c17=>?_
 ·
  replace hm:=ip hm c17
  refine o_z ?_
  refine Ar rfl (Ah (Ae (o_miE rfl rfl ?_)))
  refine o_as rfl rfl (o_as rfl rfl (o_z ?_))
  refine Au ?_
  obtain ⟨O18,S19,hz21,ha22,h20⟩:=Pkr.shut (x:=x0) (l0:=2) (l1:=3) (by decide) h9 h12 r16
  obtain rfl:=sm hm
  replace hB:=(hB.st S8).st S19
  obtain ⟨O',hS',hz,hl⟩:=hE.leave (fun q=>if q=2 then i0 else 0) rfl hB
  exact ret2 rfl (AG rfl) (AG rfl) ⟨O',hS',_,_,(Ob.leave h20 hz (hl 2 (by decide) (by decide)) hx0.2),rfl,(Vb.mono (Vb.nil _ _) hz),(vErr (by decide))⟩
 ·
  replace hm:=im hm c17
  refine o_z ?_
  refine Aj rfl (Am (Ah (Ae (o_mv rfl rfl (o_nc rfl rfl (o_fa rfl rfl (o_ld (hc:=Blk.cell (i:=0) (h9.1) rfl) rfl rfl ?_)))))))
  refine o_ln rfl rfl ?_
  have l24:x0.fields.length≤9223372036854775807:=Nat.le_trans h12.len.2.1 h12.len.2.2
  have r23:inI64 (x0.fields.length:Int):=rngNat l24
  obtain ⟨u25,e26,hm⟩:=bs hm
  obtain ⟨m27,e28,e29,e30,e31⟩:=Gr e26
  refine Ib 4 (by decide) O7 (z0:=(0:Int)) rfl rfl rfl rfl rfl e28 (vInt (show inI64 0 from by decide)) e29 e30 rfl fun g32 w33 O34 S35 h36=>?_
  rw [← e31] at h36 ⊢
  refine o_as rfl rfl (o_z ?_)
  refine Ah (Ae (o_mv rfl rfl ?_))
  obtain ⟨q38,e39,hm⟩:=bs hm
  replace hx1:=(hx1.st S8).st S35
  refine Hb 5 (by decide) (O:=O34) (EI Fr.lt hx1 e39) rfl rfl fun A45 c46 w40 O41 S42 h43=>?_
  refine o_as rfl rfl (o_z ?_)
  refine Ah (Ah (Ae (o_mv rfl rfl (o_nc rfl rfl (o_fa rfl rfl ?_)))))
  replace h9:=(h9.st S35).st S42
  refine o_ld (hc:=Blk.cell (i:=0) (h9.1) rfl) rfl rfl ?_
  refine o_ln rfl rfl ?_
  replace h12:=(h12.st S35).st S42
  have l49:x0.fields.length≤9223372036854775807:=Nat.le_trans h12.len.2.1 h12.len.2.2
  have r48:inI64 (x0.fields.length:Int):=rngNat l49
  refine o_mv rfl rfl (o_z ?_)
  obtain ⟨O50,S51,hz53,ha54,h52⟩:=Pkr.shut (x:=x0) (l0:=2) (l1:=3) (by decide) h9 h12 r16
  have h55:=(h12.lend [3] (by decide)).shutS S51 hz53 ha54 [2] (by decide)
  obtain ⟨res56,hL57,hm⟩:=bs hm
  refine AL (aft res56 (fun (s58:(List Int)×(List U64)) (x59:Unit)=>[(6,(.slice (some ⟨g32,0,none⟩) u25.length m27)),(7,(.slice A45 q38.length c46))]) (fun s58 x59 w'=>∃ O':Lab,Bm w O0 w' O'∧Rw 4 w' O' 3 (.slice (some ⟨g32,0,none⟩) u25.length m27) s58.1∧Rw 5 w' O' 150 (.slice A45 q38.length c46) s58.2∧Ob 2 w' O' (.pointer (some ⟨p0,0,none⟩)) x0)) ?_ ?_
  ·
   refine Al ?_
   replace hB:=(((hB.st S8).st S35).st S42).st S51
   replace hx1:=(hx1.st S42).st S51
   replace h36:=(h36.st S42).st S51
   replace h43:=h43.st S51
   refine BM (σ:=(List Int)×(List U64)) (X:=Unit) (x0.fields.length) hL57 rfl l49 (fun (s58:(List Int)×(List U64)) (x59:Unit)=>[(1,(.slice A3 x1.length c4)),(6,(.slice (some ⟨g32,0,none⟩) u25.length m27)),(7,(.slice A45 q38.length c46)),(34,(.slice A13 x0.fields.length c14))]) _ (fun s58 x59 w'=>∃ O':Lab,Bm w O0 w' O'∧Vb w' (Fr 0 w' O') (.slice A3 x1.length c4) x1∧Rw 4 w' O' 3 (.slice (some ⟨g32,0,none⟩) u25.length m27) s58.1∧Rw 5 w' O' 150 (.slice A45 q38.length c46) s58.2∧Vb w' (FrS [2] w' O') (.slice A13 x0.fields.length c14) x0.fields∧Ob 2 w' O' (.pointer (some ⟨p0,0,none⟩)) x0) _ () ⟨O50,hB,hx1,h36,h43,h55,h52⟩ ⟨rfl,rfl,rfl,rfl,rfl,rfl,trivial⟩ (fun _ _=>⟨rfl,rfl⟩) (fun _ _=>⟨rfl,rfl,trivial⟩) (fun _ _ _ ⟨O',hB,hx1,h75,h77,h55,h52⟩=>⟨O',hB,h75,h77,h52⟩) ⟨rfl,rfl,rfl⟩ ⟨rfl,rfl⟩ ?_
   rintro k60 a61 s58 x59 w62 cc64 hx65 ⟨O63,hB,hx1,h75,h77,h55,h52⟩ hf66 hret67 hbrk68
   have rk60:inI64 (k60:Int):=rngK hx65 l49
   refine Ah (Ae (o_mv rfl rfl ?_))
   obtain ⟨b79,o80,ce81,hA82,hl83,hd84,rfl,r86,r87,r88,r89⟩:=h55.elem' hx65
   refine o_iaE (hA:=hA82) (hj:=rfl) (hlt:=hl83) rfl rfl rfl ?_
   refine o_la (hl:=rfl) (hc:=hd84) rfl rfl ?_
   refine BR 6 O63 rfl fun g90 w91 O92 S93 h94=>?_
   replace h55:=h55.stS S93 id (fun _ _=>id)
   refine o_as rfl rfl (AV h94 rfl rfl rfl (Nat.le_of_ble_eq_true rfl) (by first|exact allOne rfl|simp [Value.cells,Value.oneCell',AQ]) fun w95 S96 h94=>?_)
   replace h94:Lc 6 w95 O92 g90 152 [(.int .i64 a61.word),(.int .i64 a61.bit),(.int .i64 a61.width),(.int .i64 a61.size)]:=h94
   replace h55:=h55.stS S96 (by decide) (by decide)
   refine o_z ?_
   refine Ah (Ae (o_mv rfl rfl (o_mv rfl rfl (o_la (hl:=rfl) (hc:=(h94.1).cellsAt) rfl rfl ?_))))
   refine o_mv rfl rfl ?_
   obtain ⟨q97,e98,hf66⟩:=bs hf66
   replace hx1:=(hx1.st S93).st S96
   refine BL (O:=O92) (A:=All w95) (R:=fun w' F v=>Vb w' F v q97) (HR (fun _ h=>h) (Vb.mono (F:=Fr 0 w95 O92) (Vb.ofAgg (cs:=[(.int .i64 a61.word),(.int .i64 a61.bit),(.int .i64 a61.width),(.int .i64 a61.size)]) (x:=a61) rfl ⟨rfl,r86,r87,r88,r89⟩) Fr.lt) (Vb.mono (F:=Fr 0 w95 O92) hx1 Fr.lt) e98) rfl rfl fun v103 w99 O100 S101 h102=>?_
   obtain ⟨rfl,r104⟩:=h102.int
   replace h55:=h55.stS S101 id (fun _ _=>id)
   obtain ⟨a105,e106,hf66⟩:=bs hf66
   replace h75:=((h75.st S93).st S96).st S101
   obtain ⟨b107,o108,ce109,hA110,hl111,hd112,rfl,r114⟩:=h75.elem e106
   refine o_iaE (hA:=hA110) (hj:=rfl) (hlt:=hl111) rfl rfl rfl ?_
   refine Db rfl h75 (a:=q97) (vInt r104) hA110 rfl rfl (AJ e106) fun w115 S116 h75=>?_
   replace h55:=h55.stS S116 (by decide) (by decide)
   refine o_z ?_
   refine Ah (Ah (BE (·=w115) [(0,true),(1,true),(2,true),(3,true),(4,true),(5,true),(6,true)] (by kernel_rfl) rfl (by kernel_rfl) rfl ?_))
   refine h_mv rfl rfl rfl (h_mv rfl rfl rfl ?_)
   obtain ⟨a117,e118,hf66⟩:=bs hf66
   obtain ⟨b119,o120,ce121,hA122,hl123,hd124,rfl,r126⟩:=h75.elem e118
   refine h_iaE (hA:=hA122) (hj:=rfl) (hlt:=hl123) rfl rfl rfl rfl ?_
   refine h_ldA (hc:=cat0 hd124) rfl rfl rfl ?_
   refine h_fa rfl rfl rfl ?_
   replace h94:=(h94.st S101).st S116
   refine h_ldA (hc:=Blk.cell (i:=3) (h94.1) rfl) rfl rfl rfl ?_
   refine h_geS rfl rfl rfl rfl (fun c127=>?_) fun c127=>?_
   ·
    replace hf66:=ip hf66 c127
    refine h_z ?_
    refine Ar rfl (Ah (Ae (o_miE rfl rfl ?_)))
    refine o_as rfl rfl (o_as rfl rfl (o_z ?_))
    refine Au ?_
    obtain rfl:=sm hf66
    obtain rfl:=hret67 _ rfl
    obtain rfl:=sm (Bo hm)
    replace hB:=(((hB.st S93).st S96).st S101).st S116
    obtain ⟨O',hS',hz,hl⟩:=hE.leave (fun q=>if q=2 then i0 else 0) rfl hB
    replace h52:=(((h52.st S93).st S96).st S101).st S116
    exact ret2 rfl (AG rfl) (AG rfl) ⟨O',hS',_,_,(Ob.leave h52 hz (hl 2 (by decide) (by decide)) hx0.2),rfl,(Vb.mono (Vb.nil _ _) hz),(vErr (by decide))⟩
   ·
    replace hf66:=im hf66 c127
    refine h_z ?_
    refine Aj rfl (Am (BA [(6,[])] O100 ?_))
    refine x_pre (fuel:=4) [] [(0,true),(1,true),(2,true),(3,true),(4,true),(5,true)] (by kernel_rfl) rfl ?_
    refine h_mv rfl rfl rfl (h_fa rfl rfl rfl (h_ldC (hc:=fun w' ⟨O',hq⟩=>Blk.cell (i:=0) ((h94.st hq (by decide)).1) rfl) rfl rfl rfl ?_))
    obtain ⟨a128,e129,hf66⟩:=bs hf66
    obtain ⟨p131,x130⟩:=AM e129
    replace h77:=(((h77.st S93).st S96).st S101).st S116
    obtain ⟨b132,o133,ce134,hA135,hF138,hl136,hd137,rfl⟩:=h77.elemF x130
    refine h_iaE (hA:=hA135) (hj:=(Int.toNat_of_nonneg p131).symm) (hlt:=hl136) rfl rfl rfl rfl ?_
    refine h_ldC (hc:=fun w' ⟨O',hq⟩=>cat0 (Bh (hq.agree (i:=5) (by decide)) hF138 hd137)) rfl rfl rfl ?_
    refine h_laB (hl:=rfl) (hb:=fun w' ⟨O',hq⟩=>((h94.st hq (by decide)).1).cellsAt) rfl rfl rfl ?_
    refine AI ?_
    refine x_one (i:=6) (by kernel_rfl) rfl ?_
    obtain ⟨q139,e140,hf66⟩:=bs hf66
    refine BL (O:=O100) (A:=All w115) (R:=fun w' F v=>Vb w' F v q139) (Ff (fun _ h=>h) (Vb.mono (F:=Fr 0 w115 O100) (Vb.ofAgg (cs:=[(.int .i64 a61.word),(.int .i64 a61.bit),(.int .i64 a61.width),(.int .i64 a61.size)]) (x:=a61) rfl ⟨rfl,r86,r87,r88,r89⟩) Fr.lt) e140) rfl rfl fun v145 w141 O142 S143 h144=>?_
    obtain rfl:=h144.u64
    have hZ:=S143.lst [] (fun _ h=>h.elim)
    replace h55:=h55.stS S143 id (fun _ _=>id)
    refine x_go [] hZ (by kernel_rfl) ?_
    refine x_pre (fuel:=1) [] [(7,true),(8,true)] (by kernel_rfl) rfl ?_
    refine h_uns (a:=a128) (b:=q139) rfl rfl rfl rfl ?_
    obtain ⟨a146,e147,hf66⟩:=bs hf66
    obtain ⟨p149,x148⟩:=AM e147
    replace h77:=h77.st S143
    obtain ⟨b150,o151,ce152,hA153,hF156,hl154,hd155,rfl⟩:=h77.elemF x148
    refine h_iaE (hA:=hA153) (hj:=(Int.toNat_of_nonneg p149).symm) (hlt:=hl154) rfl rfl rfl rfl ?_
    refine AI ?_
    refine x_one (i:=9) (by kernel_rfl) rfl ?_
    refine Db rfl h77 (a:=(a128 &&& ~~~q139)) vU64 hA153 rfl rfl (AJ x148) fun w157 S158 h77=>?_
    replace h55:=h55.stS S158 (by decide) (by decide)
    refine x_end (by kernel_rfl) ?_
    refine x_nil (by kernel_rfl) ?_
    obtain rfl:=sm hf66
    refine (?_:Exists _)
    replace hB:=(((((hB.st S93).st S96).st S101).st S116).st S143).st S158
    replace hx1:=(((hx1.st S101).st S116).st S143).st S158
    replace h52:=(((((h52.st S93).st S96).st S101).st S116).st S143).st S158
    replace h75:=(h75.st S143).st S158
    exact ⟨_,(),rfl,⟨rfl,rfl,rfl,rfl,rfl,rfl,trivial⟩,_,hB,hx1,h75,h77,h55,h52⟩
  replace hB:=(((hB.st S8).st S35).st S42).st S51
  rintro l159 w160 ⟨s163,x164,rfl,hs162,O161,hB,h75,h77,h52⟩
  replace hm:=AY hm
  refine AP _ hs162 ?_
  refine Ah (Ah (Ae (o_mv rfl rfl (o_ln rfl rfl ?_))))
  have l166:q38.length≤9223372036854775807:=Nat.le_trans h77.len.2.1 h77.len.2.2
  have r165:inI64 (q38.length:Int):=rngNat l166
  refine o_mv rfl rfl (o_z ?_)
  obtain ⟨res167,hL168,hm⟩:=bs hm
  refine AL (aft res167 (fun (s169:Unit) (x170:Unit)=>[(6,(.slice (some ⟨g32,0,none⟩) u25.length m27))]) (fun s169 x170 w'=>∃ O':Lab,Bm w O0 w' O'∧Rw 4 w' O' 3 (.slice (some ⟨g32,0,none⟩) u25.length m27) s163.1∧Ob 2 w' O' (.pointer (some ⟨p0,0,none⟩)) x0)) ?_ ?_
  ·
   refine Al (BM (σ:=Unit) (X:=Unit) (q38.length) hL168 rfl l166 (fun (s169:Unit) (x170:Unit)=>[(6,(.slice (some ⟨g32,0,none⟩) u25.length m27)),(65,(.slice A45 q38.length c46))]) _ (fun s169 x170 w'=>∃ O':Lab,Bm w O0 w' O'∧Rw 4 w' O' 3 (.slice (some ⟨g32,0,none⟩) u25.length m27) s163.1∧Rw 5 w' O' 150 (.slice A45 q38.length c46) s163.2∧Ob 2 w' O' (.pointer (some ⟨p0,0,none⟩)) x0) _ () ⟨O161,hB,h75,h77,h52⟩ ⟨rfl,rfl,rfl,rfl,trivial⟩ (fun _ _=>⟨rfl,rfl⟩) (fun _ _=>⟨rfl,trivial⟩) (fun _ _ _ ⟨O',hB,h75,h77,h52⟩=>⟨O',hB,h75,h52⟩) ⟨rfl,rfl,rfl⟩ ⟨rfl,rfl⟩ ?_)
   rintro k171 a172 s169 x170 w173 cc175 hx176 ⟨O174,hB,h75,h77,h52⟩ hf177 hret178 hbrk179
   have rk171:inI64 (k171:Int):=rngK hx176 l166
   refine Ah (Ae ?_)
   obtain ⟨a182,e183,hf177⟩:=bs hf177
   obtain ⟨b184,o185,ce186,hA187,hl188,hd189,rfl⟩:=h77.elem e183
   refine o_iaE (hA:=hA187) (hj:=rfl) (hlt:=hl188) rfl rfl rfl ?_
   refine o_ld (hc:=cat0 hd189) rfl rfl ?_
   refine o_as rfl rfl (o_z ?_)
   refine Ah (Ae (o_mv rfl rfl (o_neS rfl rfl rfl (fun c191=>?_) fun c191=>?_)))
   ·
    replace hf177:=ip hf177 c191
    refine o_z ?_
    refine Ar rfl (Ah (Ae (o_miE rfl rfl ?_)))
    refine o_as rfl rfl (o_as rfl rfl (o_z ?_))
    refine Au ?_
    obtain rfl:=sm hf177
    obtain rfl:=hret178 _ rfl
    obtain rfl:=sm (Bo hm)
    obtain ⟨O',hS',hz,hl⟩:=hE.leave (fun q=>if q=2 then i0 else 0) rfl hB
    exact ret2 rfl (AG rfl) (AG rfl) ⟨O',hS',_,_,(Ob.leave h52 hz (hl 2 (by decide) (by decide)) hx0.2),rfl,(Vb.mono (Vb.nil _ _) hz),(vErr (by decide))⟩
   ·
    replace hf177:=im hf177 c191
    refine o_z ?_
    refine Aj rfl (Am ?_)
    obtain rfl:=sm hf177
    refine (?_:Exists _)
    exact ⟨_,(),rfl,⟨rfl,rfl,rfl,rfl,trivial⟩,_,hB,h75,h77,h52⟩
  rintro l192 w193 ⟨s196,x197,rfl,hs195,O194,hB,h75,h52⟩
  replace hm:=AY hm
  refine AP _ hs195 ?_
  refine Ah (Ae (o_mv rfl rfl (o_as rfl rfl (o_as rfl rfl (o_z ?_)))))
  refine Au ?_
  obtain ⟨O198,S199,h75⟩:=h75.freeze
  obtain rfl:=sm hm
  replace hB:=hB.st S199
  obtain ⟨O',hS',hz,hl⟩:=hE.leave (fun q=>if q=2 then i0 else 0) rfl hB
  replace h52:=h52.st S199
  exact ret2 rfl (AG rfl) (AG rfl) ⟨O',hS',_,_,(Ob.leave h52 hz (hl 2 (by decide) (by decide)) hx0.2),rfl,(Vb.mono h75 hz),(vErr (show inI64 0 from by decide))⟩
noncomputable def Bw (x0:Pkr) (x1:List U64):Option Int :=
  bnd (rng (ρ:=Int) (fun (k13:Nat) (a14:U64) (s11:U64)=>bnd (shrU ((s11 ^^^ a14) * (13787848793156543929:U64)) 29) fun n31=>some (.next (((s11 ^^^ a14) * (13787848793156543929:U64)) ^^^ n31))) x1 0 ((BitVec.ofInt 64 (x1.length:Int)) + (11400714819323198485:U64))) fun res9=>fin res9 fun (s37:U64)=>bnd (shrU s37 2) fun n39=>some n39.toInt
theorem Hj {w:World} {O:Lab} {p0 i0:Nat} {x0:Pkr} (hx0:Ob i0 w O (.pointer (some ⟨p0,0,none⟩)) x0) {vx1:Value} {x1:List U64} (hx1:Vb w (Fr 0 w O) vx1 x1) {r:Int} (hm:Bw x0 x1=some r) :
    Fn Try.prog 81 [(.pointer (some ⟨p0,0,none⟩)),vx1] w fun v w'=>∃ O',St (eT i0) w O w' O'∧Ob i0 w' O' (.pointer (some ⟨p0,0,none⟩)) x0∧Vb w' (Fr 0 w' O') v r:=by
 obtain ⟨O0,hE,hz0,hl2⟩:=ent1 (w:=w) (O:=O) hx0.2
 have hx0':=Ob.leave hx0 hz0 hl2 (j:=2) (by decide)
 have hB:Bm w O0 w O0:=Bm.refl
 replace hx1:=hx1.mono hz0
 obtain ⟨A3,c4,rfl⟩:=hx1.form
 refine AK Try.func81 rfl Try.ntmps81 rfl ?_
 unfold Bw at hm
 refine Ah (Ae (o_as rfl rfl (o_z ?_)))
 refine Ah (Ah (Ae (o_mv rfl rfl (o_pn rfl rfl ?_))))
 refine o_z ?_
 refine Aj rfl (Am (Ah (Ae (o_mv rfl rfl (o_ln rfl rfl ?_)))))
 have l6:x1.length≤9223372036854775807:=Nat.le_trans hx1.len.2.1 hx1.len.2.2
 have r5:inI64 (x1.length:Int):=rngNat l6
 refine o_cvU rfl rfl ?_
 refine o_uad (a:=(BitVec.ofInt 64 (x1.length:Int))) (b:=(11400714819323198485:U64)) rfl rfl rfl ?_
 refine o_as rfl rfl (o_z ?_)
 refine Ah (Ah (Ae (o_mv rfl rfl (o_ln rfl rfl ?_))))
 have l8:x1.length≤9223372036854775807:=Nat.le_trans hx1.len.2.1 hx1.len.2.2
 have r7:inI64 (x1.length:Int):=rngNat l8
 refine o_mv rfl rfl (o_z ?_)
 obtain ⟨res9,hL10,hm⟩:=bs hm
 refine AL (aft res9 (fun (s11:U64) (x12:Unit)=>[(5,(.int .u64 s11.toNat))]) (fun s11 x12 w'=>∃ O':Lab,Bm w O0 w' O'∧Ob 2 w' O' (.pointer (some ⟨p0,0,none⟩)) x0)) ?_ ?_
 ·
  refine Al (BM (σ:=U64) (X:=Unit) (x1.length) hL10 rfl l8 (fun (s11:U64) (x12:Unit)=>[(5,(.int .u64 s11.toNat)),(14,(.slice A3 x1.length c4))]) _ (fun s11 x12 w'=>∃ O':Lab,Bm w O0 w' O'∧Vb w' (Fr 0 w' O') (.slice A3 x1.length c4) x1∧Ob 2 w' O' (.pointer (some ⟨p0,0,none⟩)) x0) _ () ⟨O0,hB,hx1,hx0'⟩ ⟨rfl,rfl,rfl,rfl,trivial⟩ (fun _ _=>⟨rfl,rfl⟩) (fun _ _=>⟨rfl,trivial⟩) (fun _ _ _ ⟨O',hB,hx1,hx0'⟩=>⟨O',hB,hx0'⟩) ⟨rfl,rfl,rfl⟩ ⟨rfl,rfl⟩ ?_)
  rintro k13 a14 s11 x12 w15 cc17 hx18 ⟨O16,hB,hx1,hx0'⟩ hf19 hret20 hbrk21
  have rk13:inI64 (k13:Int):=rngK hx18 l8
  refine Ah (Ae ?_)
  obtain ⟨b24,o25,ce26,hA27,hl28,hd29,rfl⟩:=hx1.elem' hx18
  refine o_iaE (hA:=hA27) (hj:=rfl) (hlt:=hl28) rfl rfl rfl ?_
  refine o_ld (hc:=cat0 hd29) rfl rfl ?_
  refine o_as rfl rfl (o_z ?_)
  refine Ah (Ae (o_mv rfl rfl (o_mv rfl rfl (o_uxo (a:=s11) (b:=a14) rfl rfl rfl ?_))))
  refine o_as rfl rfl (o_z ?_)
  refine Ah (Ae (o_mv rfl rfl (o_uml (a:=(s11 ^^^ a14)) (b:=(13787848793156543929:U64)) rfl rfl rfl ?_)))
  refine o_as rfl rfl (o_z ?_)
  refine Ae (o_mv rfl rfl (o_mv rfl rfl ?_))
  obtain ⟨n31,e32,hf19⟩:=bs hf19
  refine o_usr (a:=((s11 ^^^ a14) * (13787848793156543929:U64))) (he:=e32) rfl rfl rfl ?_
  refine o_uxo (a:=((s11 ^^^ a14) * (13787848793156543929:U64))) (b:=n31) rfl rfl rfl ?_
  refine o_as rfl rfl (o_z ?_)
  obtain rfl:=sm hf19
  refine (?_:Exists _)
  exact ⟨_,(),rfl,⟨rfl,rfl,rfl,rfl,trivial⟩,_,hB,hx1,hx0'⟩
 rintro l33 w34 ⟨s37,x38,rfl,hs36,O35,hB,hx0'⟩
 replace hm:=AY hm
 refine AP _ hs36 ?_
 refine Ah (Ae (o_mv rfl rfl ?_))
 obtain ⟨n39,e40,hm⟩:=bs hm
 refine o_usr (a:=s37) (he:=e40) rfl rfl rfl ?_
 refine o_cvI (a:=n39) rfl rfl ?_
 refine o_as rfl rfl (o_z ?_)
 refine Au ?_
 obtain rfl:=sm hm
 obtain ⟨O',hS',hz,hl⟩:=hE.leave (fun q=>if q=2 then i0 else 0) rfl hB
 exact ret1v rfl (AG rfl) ⟨O',hS',(Ob.leave hx0' hz (hl 2 (by decide) (by decide)) hx0.2),(vInt (toIntR _))⟩
noncomputable def Bk (x0:List U64) (x1:List U64):Option Bool :=
  if (x0.length:Int)≠(x1.length:Int) then (some false) else (bnd (rng (ρ:=Bool) (fun (k18:Nat) (a19:U64) (s16:Unit)=>bnd (x1[k18]?) fun a36=>if (a19.toNat:Int)≠(a36.toNat:Int) then (some (.ret false)) else (some (.next ()))) x0 0 ()) fun res14=>fin res14 fun (s50:Unit)=>some true)
theorem EJ {w:World} {A:Nat→Prop} (hA:∀ k,A k→k < w.heap.size) {vx0:Value} {x0:List U64} (hx0:Vb w A vx0 x0) {vx1:Value} {x1:List U64} (hx1:Vb w A vx1 x1) {r:Bool} (hm:Bk x0 x1=some r) :
    Fn Try.prog 82 [vx0,vx1] w fun v w'=>Ext w w'∧Vb w' (upA A w w') v r:=by
 obtain ⟨O,hB,hA0⟩:=enter hA
 replace hx0:=hx0.mono hA0
 obtain ⟨A3,c4,rfl⟩:=hx0.form
 replace hx1:=hx1.mono hA0
 obtain ⟨A5,c6,rfl⟩:=hx1.form
 refine AK Try.func82 rfl Try.ntmps82 rfl ?_
 unfold Bk at hm
 refine Ah (Ae (o_as rfl rfl (o_z ?_)))
 refine Ah (Ah (Ae (o_mv rfl rfl (o_ln rfl rfl ?_))))
 have l8:x0.length≤9223372036854775807:=Nat.le_trans hx0.len.2.1 hx0.len.2.2
 have r7:inI64 (x0.length:Int):=rngNat l8
 refine o_mv rfl rfl (o_ln rfl rfl ?_)
 have l10:x1.length≤9223372036854775807:=Nat.le_trans hx1.len.2.1 hx1.len.2.2
 have r9:inI64 (x1.length:Int):=rngNat l10
 refine o_neS rfl rfl rfl (fun c11=>?_) fun c11=>?_
 ·
  replace hm:=ip hm c11
  refine o_z ?_
  refine Ar rfl (Ah (Ae (o_as rfl rfl (o_z ?_))))
  refine Au ?_
  obtain rfl:=sm hm
  exact ret1v rfl (AG rfl) ⟨hB.ext,vBool⟩
 ·
  replace hm:=im hm c11
  refine o_z ?_
  refine Aj rfl (Am (Ah (Ah (Ae (o_mv rfl rfl (o_ln rfl rfl ?_))))))
  have l13:x0.length≤9223372036854775807:=Nat.le_trans hx0.len.2.1 hx0.len.2.2
  have r12:inI64 (x0.length:Int):=rngNat l13
  refine o_mv rfl rfl (o_z ?_)
  obtain ⟨res14,hL15,hm⟩:=bs hm
  refine AL (aft res14 (fun (s16:Unit) (x17:Unit)=>[]) (fun s16 x17 w'=>∃ O':Lab,Bs w A w' O')) ?_ ?_
  ·
   refine Al (BM (σ:=Unit) (X:=Unit) (x0.length) hL15 rfl l13 (fun (s16:Unit) (x17:Unit)=>[(0,(.slice A3 x0.length c4)),(1,(.slice A5 x1.length c6))]) _ (fun s16 x17 w'=>∃ O':Lab,Bs w A w' O'∧Vb w' (Fr 0 w' O') (.slice A3 x0.length c4) x0∧Vb w' (Fr 0 w' O') (.slice A5 x1.length c6) x1) _ () ⟨O,hB,hx0,hx1⟩ ⟨rfl,rfl,rfl,rfl,trivial⟩ (fun _ _=>⟨rfl,rfl⟩) (fun _ _=>trivial) (fun _ _ _ ⟨O',hB,hx0,hx1⟩=>⟨O',hB⟩) ⟨rfl,rfl,rfl⟩ ⟨rfl,rfl⟩ ?_)
   rintro k18 a19 s16 x17 w20 cc22 hx23 ⟨O21,hB,hx0,hx1⟩ hf24 hret25 hbrk26
   have rk18:inI64 (k18:Int):=rngK hx23 l13
   refine Ah (Ae (o_mv rfl rfl (o_as rfl rfl (o_z ?_))))
   refine Ah (BE (·=w20) [(0,true),(1,true),(2,true),(3,true),(4,true),(5,true),(6,true),(7,true),(8,true)] (by kernel_rfl) rfl (by kernel_rfl) rfl ?_)
   refine h_mv rfl rfl rfl (h_mv rfl rfl rfl ?_)
   obtain ⟨b29,o30,ce31,hA32,hl33,hd34,rfl⟩:=hx0.elem' hx23
   refine h_iaE (hA:=hA32) (hj:=rfl) (hlt:=hl33) rfl rfl rfl rfl ?_
   refine h_ldA (hc:=cat0 hd34) rfl rfl rfl ?_
   refine h_mv rfl rfl rfl (h_mv rfl rfl rfl ?_)
   obtain ⟨a36,e37,hf24⟩:=bs hf24
   obtain ⟨b38,o39,ce40,hA41,hl42,hd43,rfl⟩:=hx1.elem' e37
   refine h_iaE (hA:=hA41) (hj:=rfl) (hlt:=hl42) rfl rfl rfl rfl ?_
   refine h_ldA (hc:=cat0 hd43) rfl rfl rfl ?_
   refine h_neS rfl rfl rfl rfl (fun c45=>?_) fun c45=>?_
   ·
    replace hf24:=ip hf24 c45
    refine h_z ?_
    refine Ar rfl (Ah (Ae (o_as rfl rfl (o_z ?_))))
    refine Au ?_
    obtain rfl:=sm hf24
    obtain rfl:=hret25 _ rfl
    obtain rfl:=sm (Bo hm)
    exact ret1v rfl (AG rfl) ⟨hB.ext,vBool⟩
   ·
    replace hf24:=im hf24 c45
    refine h_z ?_
    refine Aj rfl (Am ?_)
    obtain rfl:=sm hf24
    refine (?_:Exists _)
    exact ⟨_,(),rfl,⟨rfl,rfl,rfl,rfl,trivial⟩,_,hB,hx0,hx1⟩
  rintro l46 w47 ⟨s50,x51,rfl,hs49,O48,hB⟩
  replace hm:=AY hm
  refine AP _ hs49 ?_
  refine Ah (Ae (o_as rfl rfl (o_z ?_)))
  refine Au ?_
  obtain rfl:=sm hm
  exact ret1v rfl (AG rfl) ⟨hB.ext,vBool⟩
end
section
open Go Go.RowKit
class TMap (P:Program) (t:TypeId) (k e:outParam TypeId):Prop where eq:P.underlying t=some (.map k e)
class MKey (K:Type) where
  dec:DecidableEq K
  enc:K→Value
  desc:TypeDesc
  key:∀ a,MapKept.IsKey desc (enc a)
  inj:∀ a b,enc a=enc b→a=b
class TKey (P:Program) (t:TypeId) (K:Type) [MKey K]:Prop where eq:P.underlying t=some (MKey.desc K)
instance:MKey Int where
  dec:=inferInstance
  enc a:=.int .i64 a
  desc:=.int .i64
  key _:=rfl
  inj _ _ h:=by injection h
section
variable {K V : Type} [MKey K]
instance keyDec:DecidableEq K:=MKey.dec
def mhas:List (K×V)→K→Bool
  | [],_=>false
  | p :: r,k=>if p.1=k then true else mhas r k
def mget (z:V):List (K×V)→K→V
  | [],_=>z
  | p :: r,k=>if p.1=k then p.2 else mget z r k
def mput:List (K×V)→K→V→List (K×V)
  | [],k,v=>[(k,v)]
  | p :: r,k,v=>if p.1=k then (k,v) :: r else p :: mput r k v
def midx:List (K×V)→K→Option Nat
  | [],_=>none
  | p :: r,k=>if p.1=k then some 0 else (midx r k).map (· + 1)
theorem Es (a:K):∀ (es:List MapEntry) (x:List (K×V)) (i:Nat),es.map (·.key)=x.map (fun p=>MKey.enc p.1) →
    (midx x a=none∧Instr.findNow (MKey.desc K) (MKey.enc a) es i=some none∧mhas x a=false∧(∀ z,mget z x a=z)∧∀ v,mput x a v=x ++ [(a,v)]) ∨
    ∃ j e p,midx x a=some j∧es[j]?=some e∧x[j]?=some p∧Instr.findNow (MKey.desc K) (MKey.enc a) es i=some (some (i + j,e.val))∧e.key=MKey.enc a∧mhas x a=true∧(∀ z,mget z x a=p.2)∧∀ v,mput x a v=x.set j (a,v)
  | [],[],_,_=>.inl ⟨rfl,rfl,rfl,fun _=>rfl,fun _=>rfl⟩
  | [],_ :: _,_,h=>by simp at h
  | _ :: _,[],_,h=>by simp at h
  | e :: es,p :: x,i,h=>by
    rw [List.map_cons,List.map_cons] at h
    injection h with h1 h2
    obtain ⟨r,hr,hiff⟩:=MapKept.sameNow_of_keys (MKey.key a) (MKey.key p.1)
    by_cases hp:p.1=a
    · have:r=true:=hiff.2 (by rw [hp])
      subst this
      refine .inr ⟨0,e,p,by simp [midx,hp],rfl,rfl,?_,by rw [h1,hp],by simp [mhas,hp],fun z=>by simp [mget,hp],fun v=>by simp [mput,hp]⟩
      simp [Instr.findNow,h1,hr]
    · have:r=false:=by
        cases r with
        | false=>rfl
        | true=>exact absurd (MKey.inj _ _ (hiff.1 rfl)).symm hp
      subst this
      rcases Es a es x (i + 1) h2 with ⟨g0,g1,g2,g3,g4⟩|⟨j,e',p',g0,g1,g2,g3,g4,g5,g6,g7⟩
      · exact .inl ⟨by simp [midx,hp,g0],by simp [Instr.findNow,h1,hr,g1],by simp [mhas,hp,g2],fun z=>by simp [mget,hp,g3],fun v=>by simp [mput,hp,g4]⟩
      · refine .inr ⟨j + 1,e',p',by simp [midx,hp,g0],by simpa using g1,by simpa using g2,?_,g4,by simp [mhas,hp,g5],fun z=>by simp [mget,hp,g6],fun v=>by simp [mput,hp,g7]⟩
        simp [Instr.findNow,h1,hr,g3];omega
end
def LkV (d:TypeDesc) (z:Value) (w:World) (r:Nat) (key v:Value) (b:Bool):Prop:=∃ es ck a,w.heap[r]?=some (.map es ck)∧Instr.findNow d key es.toList 0=some a∧v=(match a with|some p=>p.2|none=>z)∧b=a.isSome
theorem LkV.keep {d:TypeDesc} {z:Value} {w w':World} {r:Nat} {key v:Value} {b:Bool} (h:LkV d z w r key v b) (e:w'.heap[r]?=w.heap[r]?):LkV d z w' r key v b:=by
  obtain ⟨es,ck,a,h1,h2⟩:=h
  exact ⟨es,ck,a,e.trans h1,h2⟩
section
variable {P : Program} {l : Env} {w : World} {dst : Option Tmp} {ty : TypeId} {pos : String} {aft : Array Edge}
theorem ev_lk {K:Type} [MKey K] {t k e:TypeId} [ht:TMap P t k e] [hk:TKey P k K] {z:Value} {size bytes:Nat} [TInfo P e z size bytes] {x y:Operand} {r:Nat} {a:K} {v:Value} {b:Bool} (hx:opv l x=some (.map (some r))) (hy:opv l y=some (MKey.enc a)) (hv:LkV (MKey.desc K) z w r (MKey.enc a) v b) :
    Ev P ⟨dst,.lookup t x y false,ty,pos,aft,none⟩ l w v:=fun _ _ d ha=>by
  obtain ⟨es,ck,q,h1,h2,h3,h4⟩:=hv
  have hb:(dr w d).heap[r]?=some (.map es ck):=h1
  subst h3
  cases q with
  | none=>simp [execOp,ha.eval hx,ha.eval hy,Instr.lookup,run_underlying ht.eq,MapKept.run_getObj_map hb,MapKept.run_checkKey hk.eq (MKey.key a),MapKept.run_findKey hk.eq h2,Result.andThen,Gn (P:=P) (t:=e)]
  | some p=>simp [execOp,ha.eval hx,ha.eval hy,Instr.lookup,run_underlying ht.eq,MapKept.run_getObj_map hb,MapKept.run_checkKey hk.eq (MKey.key a),MapKept.run_findKey hk.eq h2,Result.andThen]
end
def putEs (es:List MapEntry) (ck:Nat) (key v:Value):Option Nat→List MapEntry
  | none=>es ++ [{ key:=key,val:=v,born:=ck }]
  | some j=>es.modify j fun e=>{ e with key:=key,val:=v }
section
variable {P : Program} {n : Nat} {ops : Array Oper} {Q : Post} {rest : List Oper} {l : Env} {w : World} {d : Tmp} {ty : TypeId} {pos : String} {aft : Array Edge}
theorem Lr {K V:Type} [MKey K] {t k e:TypeId} [ht:TMap P t k e] [hk:TKey P k K] {x y u:Operand} {r ck:Nat} {a:K} {v:Value} {es:List MapEntry} {xs:List (K×V)} (hb:w.heap[r]?=some (.map es.toArray ck)) (hks:es.map (·.key)=xs.map (fun p=>MKey.enc p.1)) (hx:opv l x=some (.map (some r))) (hy:opv l y=some (MKey.enc a)) (hu:opv l u=some v)
    (h:∀ w' ck',w'.os=w.os→w'.tape=w.tape→w'.output=w.output→w'.heap.size=w.heap.size→w'.heap[r]?=some (.map (putEs es ck (MKey.enc a) v (midx xs a)).toArray ck')→(∀ q,q≠r→w'.heap[q]?=w.heap[q]?)→owp P n ops Q rest l w'):owp P n ops Q (⟨none,.mapUpdate t x y u,ty,pos,aft,none⟩ :: rest) l w:=fun ac d ha=>by
  refine wpList_plain rfl fun K' hK=>?_
  have hbd:(dr w d).heap[r]?=some (.map es.toArray ck):=hb
  unfold Oper.wp
  rcases Es a es xs 0 hks with ⟨g0,g1,_⟩|⟨j,e',p,g0,g1,g2,g3,g4,_⟩
  · have hr:(execOp ac.eval ⟨none,.mapUpdate t x y u,ty,pos,aft,none⟩).run P (dr w d)=.ok .skip { (dr w d) with heap:=(dr w d).heap.setIfInBounds r (.map (es.toArray.push { key:=MKey.enc a,val:=v,born:=ck }) (ck + 1)) }:=by
      simp [execOp,ha.eval hx,ha.eval hy,ha.eval hu,Instr.mapUpdate,run_underlying ht.eq,MapKept.run_getObj_map hbd,MapKept.run_checkKey hk.eq (MKey.key a),MapKept.run_findKey hk.eq g1,MapKept.run_setObj_map _ hbd,Result.andThen]
    rw [hr]
    refine hK _ _ (h { w with heap:=w.heap.setIfInBounds r (.map (es.toArray.push { key:=MKey.enc a,val:=v,born:=ck }) (ck + 1)) } (ck + 1) rfl rfl rfl (by simp) ?_ (fun q hq=>(MapKept.heap_set hb).2 q hq) _ d ha)
    rw [g0]
    simpa [putEs] using (MapKept.heap_set hb).1
  · have hj:es.toArray[j]?=some e':=by simpa using g1
    have hj':es[j]?=some e':=g1
    rw [Nat.zero_add] at g3
    have hr:(execOp ac.eval ⟨none,.mapUpdate t x y u,ty,pos,aft,none⟩).run P (dr w d)=.ok .skip { (dr w d) with heap:=(dr w d).heap.setIfInBounds r (.map (es.toArray.modify j fun e=>{ e with key:=MKey.enc a,val:=v }) ck) }:=by
      simp [execOp,ha.eval hx,ha.eval hy,ha.eval hu,Instr.mapUpdate,run_underlying ht.eq,MapKept.run_getObj_map hbd,MapKept.run_checkKey hk.eq (MKey.key a),MapKept.run_findKey hk.eq g3,hj',g4,MapKept.run_keyThatStays (MKey.key a),MapKept.run_setObj_map _ hbd,Result.andThen]
    rw [hr]
    refine hK _ _ (h { w with heap:=w.heap.setIfInBounds r (.map (es.toArray.modify j fun e=>{ e with key:=MKey.enc a,val:=v }) ck) } ck rfl rfl rfl (by simp) ?_ (fun q hq=>(MapKept.heap_set hb).2 q hq) _ d ha)
    rw [g0]
    have:=(MapKept.heap_set (o':=.map (es.toArray.modify j fun e=>{ e with key:=MKey.enc a,val:=v }) ck) hb).1
    simpa [putEs] using this
theorem KS {t:TypeId} (hd:Nat.blt d n=true) (h:∀ w',Ext w w'→w'.heap.size=w.heap.size + 1→w'.heap[w.heap.size]?=some (.map #[] 0)→owp P n ops Q rest ((d,.map (some w.heap.size)) :: l) w'):owp P n ops Q (⟨some d,.makeMap t none,ty,pos,aft,none⟩ :: rest) l w :=
  Ga (w':=w.alloc (.map #[] 0)) (fun a e ha=>.inl ⟨.map (some w.heap.size),e,by simp [execOp,Instr.makeMap];exact ⟨rfl,rfl⟩,ha.put hd _⟩)
    (h _ ((Below.refl _ _).alloc (Nat.le_refl _) _) (by simp) (by show (w.heap.push _)[_]?=_;simp))
end
theorem Kl {K V:Type} [MKey K] {es:List MapEntry} {xs:List (K×V)} (ck:Nat) (a:K) (v:Value) (y:V) (h:es.map (·.key)=xs.map (fun p=>MKey.enc p.1)):(putEs es ck (MKey.enc a) v (midx xs a)).map (·.key)=(mput xs a y).map (fun p=>MKey.enc p.1):=by
  rcases Es a es xs 0 h with ⟨g0,_,_,_,g4⟩|⟨j,e',p,g0,g1,g2,g3,g4,_,_,g7⟩
  · rw [g0,g4];simp [putEs,h]
  · rw [g0,g7]
    simp only [putEs,List.map_set,← h]
    apply List.ext_getElem?
    intro q
    rw [List.getElem?_map,List.getElem?_modify,List.getElem?_set]
    by_cases hq:j=q
    · subst hq
      have hlt:j < es.length:=AJ g1
      simp [g1,hlt]
    · simp [hq]
class OwM (α:Type) [Ow α]:Prop where
  mptr:∀ {w:World} {F M:Nat→Prop} {v:Value} {x:α},Ow.R w F M v x→∃ r,v=.map (some r)
theorem Ob.mptr {α:Type} [Ow α] [OwM α] {i:Nat} {w:World} {O:Lab} {v:Value} {x:α} (h:Ob i w O v x):∃ r,v=.map (some r):=OwM.mptr h.1
structure MapR (e:TypeId) (K V:Type) where
  l:List (K×List V)
def RA {K V:Type} [Rp V] (w:World) (F M:Nat→Prop) (L:Lab) (e:TypeId) (es:List MapEntry) (xs:List (K×List V)) (skip:Option Nat):Prop:=∀ (j:Nat) (en:MapEntry) (p:K×List V),es[j]?=some en→xs[j]?=some p→skip≠some j→RwM w F (fun k=>M k∧L k=j + 1) e en.val p.2
instance {e:TypeId} {K V:Type} [MKey K] [Rp V]:Ow (MapR e K V) where
  R w F M v x:=∃ (r:Nat) (L:Lab) (es:List MapEntry) (ck:Nat),v=.map (some r)∧w.heap[r]?=some (.map es.toArray ck)∧M r∧L r=0∧es.map (·.key)=x.l.map (fun p=>MKey.enc p.1)∧RA w F M L e es x.l none
  agree:=by rintro w w' F M v x ⟨r,L,es,ck,rfl,hb,hM,hL,hk,hv⟩ a1 a2;exact ⟨r,L,es,ck,rfl,(a2 r hM).trans hb,hM,hL,hk,fun j en p h1 h2 h3=>(hv j en p h1 h2 h3).agree a1 fun k hk=>a2 k hk.1⟩
  mono:=by rintro w F M F' M' v x ⟨r,L,es,ck,rfl,hb,hM,hL,hk,hv⟩ a1 a2 a3;exact ⟨r,L,es,ck,rfl,hb,a2 r hM,hL,hk,fun j en p h1 h2 h3=>(hv j en p h1 h2 h3).mono a1 (fun k hk=>⟨a2 k hk.1,hk.2⟩) fun k hf hm=>a3 k hf hm.1⟩
instance {e:TypeId} {K V:Type} [MKey K] [Rp V]:OwM (MapR e K V):=⟨by rintro w F M v x ⟨r,L,es,ck,rfl,_⟩;exact ⟨r,rfl⟩⟩
def MapH {K V:Type} [MKey K] [Rp V] (i:Nat) (w:World) (O:Lab) (r:Nat) (e:TypeId) (x:MapR e K V) (a:K):Prop :=
  (∃ (L:Lab) (es:List MapEntry) (ck:Nat),w.heap[r]?=some (.map es.toArray ck)∧Fr i w O r∧es.map (·.key)=x.l.map (fun p=>MKey.enc p.1)∧RA w (Fr 0 w O) (Fr i w O) L e es x.l (midx x.l a))∧i≠0
section
variable {e : TypeId} {K V : Type} [MKey K] [Rp V] {i j : Nat} {T : Nat → Prop} {w w' : World} {O O' : Lab} {r : Nat} {x : MapR e K V} {a : K}
theorem MapH.st (h:MapH i w O r e x a) (hS:St T w O w' O') (h0:¬ T 0:=by decide) (hi:¬ T i:=by decide):MapH i w' O' r e x a:=by
  obtain ⟨⟨L,es,ck,hb,hM,hk,hr⟩,h1⟩:=h
  refine ⟨⟨L,es,ck,(hS.agree hi r hM).trans hb,hS.fr hi r hM,hk,fun q en p g1 g2 g3=>?_⟩,h1⟩
  exact ((hr q en p g1 g2 g3).agree (hS.agree h0) fun k hk=>hS.agree hi k hk.1).mono (hS.fr h0) (fun k hk=>⟨hS.fr hi k hk.1,hk.2⟩) fun k hf hm=>frNe0 h1 k hf hm.1
theorem MapR.at (h:Ob i w O (.map (some r)) x):Fr i w O r:=by
  obtain ⟨⟨r',L,es,ck,hv,hb,hM,_⟩,_⟩:=h
  injection hv with hv
  injection hv with hv
  subst hv
  exact hM
theorem MapR.get (h:Ob i w O (.map (some r)) x) (a:K):∃ A c,LkV (MKey.desc K) (.slice none 0 0) w r (MKey.enc a) (.slice A (mget ([]:List V) x.l a).length c) (mhas x.l a)∧Vb w (FrS [i] w O) (.slice A (mget ([]:List V) x.l a).length c) (mget ([]:List V) x.l a):=by
  obtain ⟨⟨r',L,es,ck,hv,hb,hM,hL,hk,hra⟩,hi⟩:=h
  injection hv with hv
  injection hv with hv
  subst hv
  rcases Es a es x.l 0 hk with ⟨g0,g1,g2,g3,g4⟩|⟨q,e',p,g0,g1,g2,g3,g4,g5,g6,g7⟩
  · rw [g3,g2]
    exact ⟨none,0,⟨_,ck,none,hb,by simpa using g1,rfl,rfl⟩,Vb.nil _ _⟩
  · rw [g6,g5]
    have h1:=hra q e' p g1 g2 (by simp)
    have h2:Rw i w O e e'.val p.2:=h1.rw (fun _ h=>h) (fun _ h=>h.1) hi
    obtain ⟨A,c,hA⟩:=h2.form
    refine ⟨A,c,⟨_,ck,some (0 + q,e'.val),hb,by simpa using g3,hA.symm,rfl⟩,?_⟩
    rw [← hA]
    exact h2.lend [i] (by simp)
theorem MapR.take (h:Ob i w O (.map (some r)) x) {v:Value} {b:Bool} (hl:LkV (MKey.desc K) (.slice none 0 0) w r (MKey.enc a) v b) (j:Nat) (hj:j≠0) (hij:j≠i):∃ O',St (eT i) w O w O'∧MapH i w O' r e x a∧Rw j w O' e v (mget ([]:List V) x.l a):=by
  obtain ⟨⟨r',L,es,ck,hv,hb,hM,hL,hk,hra⟩,hi⟩:=h
  injection hv with hv
  injection hv with hv
  subst hv
  obtain ⟨es',ck',q,h1,h2,h3,h4⟩:=hl
  rw [hb] at h1
  injection h1 with h1
  injection h1 with h1 h1'
  subst h1
  rw [List.toList_toArray] at h2
  rcases Es a es x.l 0 hk with ⟨g0,g1,g2,g3,g4⟩|⟨n,e',p,g0,g1,g2,g3,g4,g5,g6,g7⟩
  · rw [g1] at h2
    have:=sm h2
    subst this
    rw [g3,h3]
    exact ⟨O,St.refl _ _ _,⟨⟨L,es,ck,hb,hM,hk,fun q en p a1 a2 _=>hra q en p a1 a2 (by simp)⟩,hi⟩,Rw.nil j hj⟩
  · rw [g3] at h2
    have:=sm h2
    subst this
    rw [g6,h3]
    have hrow:=hra n e' p g1 g2 (by simp)
    refine ⟨fun k=>if O k=i∧L k=n + 1 then j else O k,⟨rfl,rfl,rfl,Nat.le_refl _,fun k _ hk=>⟨rfl,if_neg fun h=>hk h.1⟩⟩,⟨⟨L,es,ck,hb,⟨hM.1,?_⟩,hk,fun q en p' a1 a2 a3=>?_⟩,hi⟩,hrow.rw (fun k hk=>⟨hk.1,?_⟩) (fun k hk=>⟨hk.1.1,if_pos ⟨hk.1.2,hk.2⟩⟩) hj⟩
    · show (if _ then _ else _)=_
      rw [if_neg (by rw [hL];omega)];exact hM.2
    · rw [g0] at a3
      have hne:n≠q:=fun e=>a3 (by rw [e])
      refine (hra q en p' a1 a2 (by simp)).mono (fun k hk=>⟨hk.1,?_⟩) (fun k hk=>⟨⟨hk.1.1,?_⟩,hk.2⟩) (fun k hf hm=>frNe0 hi k hf hm.1)
      · show (if _ then _ else _)=_
        rw [if_neg (by rw [hk.2];exact fun h=>hi h.1.symm)];exact hk.2
      · show (if _ then _ else _)=_
        rw [if_neg (by rw [hk.2];omega)];exact hk.1.2
    · show (if _ then _ else _)=_
      rw [if_neg (by rw [hk.2];exact fun h=>hi h.1.symm)];exact hk.2
end
section
variable {P : Program} {n : Nat} {ops : Array Oper} {Q : Post} {rest : List Oper} {l : Env} {w : World} {d : Tmp} {ty : TypeId} {pos : String} {aft : Array Edge} {K V : Type} [MKey K] [Rp V] {i j : Nat} {O : Lab} {r : Nat}
theorem LW {e':TypeId} {x:MapR e' K V} {t k e:TypeId} [TMap P t k e] [TKey P k K] {m y u:Operand} {a:K} {v:Value} {ys:List V} (hM:MapH i w O r e' x a) (hv:Rw j w O e' v ys) (hij:j≠i) (hx:opv l m=some (.map (some r))) (hy:opv l y=some (MKey.enc a)) (hu:opv l u=some v)
    (h:∀ w' O',St (fun q=>q=i∨q=j) w O w' O'→Ob i w' O' (.map (some r)) (⟨mput x.l a ys⟩:MapR e' K V)→owp P n ops Q rest l w'):owp P n ops Q (⟨none,.mapUpdate t m y u,ty,pos,aft,none⟩ :: rest) l w:=by
  obtain ⟨⟨L,es,ck,hb,hM',hk,hra⟩,hi⟩:=hM
  refine Lr hb hk hx hy hu fun w' ck' e1 e2 e3 e4 e5 e6=>?_
  have hlen:es.length=x.l.length:=by have:=congrArg List.length hk;simpa using this
  have hj0:j≠0:=hv.2.2
  have hrj:O r≠j:=by rw [hM'.2];exact Ne.symm hij
  let n0:Nat:=match midx x.l a with|some q=>q|none=>es.length
  have hS:St (fun q=>q=i∨q=j) w O w' (fun k=>if O k=j then i else O k):=⟨e1,e2,e3,by omega,fun q hq hT=>⟨e6 q fun e=>hT (by rw [e];exact .inl hM'.2),if_neg fun e=>hT (.inr e)⟩⟩
  have hF:∀ k,Fr 0 w O k→Fr 0 w' (fun k=>if O k=j then i else O k) k:=fun k hk=>⟨by rw [e4];exact hk.1,by show (if _ then _ else _)=_;rw [if_neg (by rw [hk.2];exact Ne.symm hj0)];exact hk.2⟩
  have hA0:Agree (Fr 0 w O) w w':=fun k hk=>e6 k fun e=>by rw [e] at hk;exact hi (hM'.2.symm.trans hk.2)
  have hdis:∀ m:Nat,∀ k,Fr 0 w' (fun k=>if O k=j then i else O k) k→¬ (Fr i w' (fun k=>if O k=j then i else O k) k∧(if O k=j then n0 + 1 else if k=r then 0 else L k)=m):=fun m k hf hm=>frNe0 hi k hf hm.1
  have hnew:RwM w' (Fr 0 w' (fun k=>if O k=j then i else O k)) (fun k=>Fr i w' (fun k=>if O k=j then i else O k) k∧(if O k=j then n0 + 1 else if k=r then 0 else L k)=n0 + 1) e' v ys:=by
    have h1:RwM w (Fr 0 w O) (Fr j w O) e' v ys:=hv.m (fun _ h=>h) (fun _ h=>h) (frNe0 hj0)
    have h2:=h1.agree hA0 (fun k hk=>e6 k fun e=>by rw [e] at hk;exact hrj hk.2)
    exact h2.mono hF (fun k hk=>⟨⟨by rw [e4];exact hk.1,if_pos hk.2⟩,if_pos hk.2⟩) (hdis _)
  have hkeep:∀ q en (p:K×List V),es[q]?=some en→x.l[q]?=some p→midx x.l a≠some q→RwM w' (Fr 0 w' (fun k=>if O k=j then i else O k)) (fun k=>Fr i w' (fun k=>if O k=j then i else O k) k∧(if O k=j then n0 + 1 else if k=r then 0 else L k)=q + 1) e' en.val p.2:=fun q en p g1 g2 g3=>by
    have h1:=hra q en p g1 g2 g3
    have hnr:∀ g,en.val.ownBlock=some g→g≠r:=fun g hg e=>by
      subst e
      have h2:=h1.1
      obtain ⟨cells,o1,o2,o3⟩:=h2
      rcases o1.2 with ⟨hv0,_⟩|⟨g',cap,cur,hv0,_,hh,_⟩
      · rw [hv0] at hg;simp [Value.ownBlock] at hg
      · rw [hv0] at hg
        have:g'=g:=by simpa [Value.ownBlock] using hg
        subst this
        rw [hb] at hh;cases hh
    have h2:RwM w (Fr 0 w O) (fun k=>(Fr i w O k∧L k=q + 1)∧k≠r) e' en.val p.2:=⟨h1.1,fun g hg=>⟨h1.2 g hg,hnr g hg⟩⟩
    have h3:=h2.agree hA0 (fun k hk=>e6 k hk.2)
    refine h3.mono hF (fun k hk=>?_) (hdis _)
    have hkj:O k≠j:=by rw [hk.1.1.2];exact Ne.symm hij
    exact ⟨⟨by rw [e4];exact hk.1.1.1,by show (if _ then _ else _)=_;rw [if_neg hkj];exact hk.1.1.2⟩,by rw [if_neg hkj,if_neg hk.2];exact hk.1.2⟩
  refine h w' _ hS ⟨⟨r,fun k=>if O k=j then n0 + 1 else if k=r then 0 else L k,_,ck',rfl,e5,⟨by rw [e4];exact hM'.1,by show (if _ then _ else _)=_;rw [if_neg hrj];exact hM'.2⟩,by show (if _ then _ else _)=_;rw [if_neg hrj,if_pos rfl],Kl ck a v ys hk,?_⟩,hi⟩
  intro q en p h1 h2 _
  rcases Es a es x.l 0 hk with ⟨g0,_,_,_,g4⟩|⟨m,e'',p',g0,g1,g2,g3,g4,_,_,g7⟩
  · have hn0:n0=es.length:=by show (match midx x.l a with|some q=>q|none=>es.length)=_;rw [g0]
    rw [g0] at h1
    rw [g4] at h2
    simp only [putEs] at h1
    by_cases hq:q < es.length
    · rw [List.getElem?_append_left hq] at h1
      rw [List.getElem?_append_left (by omega)] at h2
      exact hkeep q en p h1 h2 (by rw [g0];simp)
    · rw [List.getElem?_append_right (by omega)] at h1
      rw [List.getElem?_append_right (by omega)] at h2
      cases hz:q - es.length with
      | zero =>
        rw [hz] at h1
        rw [show q - x.l.length=0 from by omega] at h2
        simp at h1 h2
        subst h1;subst h2
        have hqe:q=n0:=by rw [hn0];omega
        rw [hqe]
        exact hnew
      | succ m=>rw [hz] at h1;simp at h1
  · have hn0:n0=m:=by show (match midx x.l a with|some q=>q|none=>es.length)=_;rw [g0]
    rw [g0] at h1
    rw [g7] at h2
    simp only [putEs] at h1
    rw [List.getElem?_modify] at h1
    rw [List.getElem?_set] at h2
    by_cases hq:m=q
    · subst hq
      have hlt:=AJ g2
      rw [g1] at h1
      simp [hlt] at h1 h2
      subst h1;subst h2
      rw [← hn0]
      exact hnew
    · simp [hq] at h1 h2
      exact hkeep q en p h1 h2 (by rw [g0];simpa using hq)
theorem Ls {t:TypeId} (e:TypeId) (i:Nat) (hi:i≠0) (O:Lab) (hd:Nat.blt d n=true) (h:∀ g w' O',St nT w O w' O'→Ob i w' O' (.map (some g)) (⟨[]⟩:MapR e K V)→owp P n ops Q rest ((d,.map (some g)) :: l) w'):owp P n ops Q (⟨some d,.makeMap t none,ty,pos,aft,none⟩ :: rest) l w :=
  KS hd fun w' hE hs hb=>h _ w' _ (hE.st O fun _=>i) ⟨⟨w.heap.size,fun _=>0,[],0,rfl,hb,⟨by omega,DY (Nat.le_refl _)⟩,rfl,rfl,fun j e p h1 _=>by simp at h1⟩,hi⟩
end
section
variable {P : Program} {n : Nat} {ops : Array Oper} {Q : Post} {rest : List Oper} {l : Env} {w : World} {d : Tmp} {ty : TypeId} {pos : String} {aft : Array Edge} {S : World → Prop} {rr : List (Nat × Bool)} {i' : Nat}
theorem o_lk {K:Type} [MKey K] {t k e:TypeId} [TMap P t k e] [TKey P k K] {z:Value} {size bytes:Nat} [TInfo P e z size bytes] {x y:Operand} {r:Nat} {v:Value} {b:Bool} (a:K) (hv:LkV (MKey.desc K) z w r (MKey.enc a) v b) (hx:opv l x=some (.map (some r))) (hy:opv l y=some (MKey.enc a)) (hd:Nat.blt d n=true) (h:owp P n ops Q rest ((d,v) :: l) w):owp P n ops Q (⟨some d,.lookup t x y false,ty,pos,aft,none⟩ :: rest) l w:=AS (ev_lk hx hy hv) hd h
theorem h_lk {K:Type} [MKey K] {t k e:TypeId} [TMap P t k e] [TKey P k K] {z:Value} {size bytes:Nat} [TInfo P e z size bytes] {x y:Operand} {r:Nat} {v:Value} {b:Bool} (a:K) (hv:∀ w',S w'→LkV (MKey.desc K) z w' r (MKey.enc a) v b) (hi:ops[i']?=some ⟨some d,.lookup t x y false,ty,pos,aft,none⟩) (hx:opv l x=some (.map (some r))) (hy:opv l y=some (MKey.enc a)) (hd:Nat.blt d n=true) (h:hwp P n ops Q S rr ((d,v) :: l) w):hwp P n ops Q S ((i',true) :: rr) l w:=hwp_o hi (AU (fun w' hS=>ev_lk hx hy (hv w' hS)) hd h)
end
end
section
open Go Go.RowKit
attribute [local irreducible] ewp owp hwp hwq hws Ev Evg Fn retPost loud loudS Res1
attribute [local irreducible] hwx loudX
instance:TMap Try.prog 116 3 22:=⟨Try.underlying116⟩
instance:TKey Try.prog 3 Int:=⟨Try.underlying3⟩
structure RLk where
  parent:Int
  op:Int
  cost:Int
structure REn where
  words:List U64
  link:RLk
instance:Rp REn where
  isAgg:=true
  size:=4
  R w F cs x:=∃ v0,cs=[v0,.int .i64 x.link.parent,.int .i64 x.link.op,.int .i64 x.link.cost]∧Vb w F v0 x.words∧inI64 x.link.parent∧inI64 x.link.op∧inI64 x.link.cost
  len:=by rintro w F cs x ⟨v0,rfl,h0,h1,h2,h3⟩;rfl
  one:=by rintro w F cs x ⟨v0,rfl,h0,h1,h2,h3⟩ u hu;simp at hu;rcases hu with rfl|rfl|rfl|rfl<;>first|rfl|exact Vb.one rfl (by assumption)
  agree:=by rintro w w' F cs x ⟨v0,rfl,h0,h1,h2,h3⟩ ha;exact ⟨v0,rfl,h0.agree ha,h1,h2,h3⟩
  mono:=by rintro w F G cs x ⟨v0,rfl,h0,h1,h2,h3⟩ ha;exact ⟨v0,rfl,h0.mono ha,h1,h2,h3⟩
structure Reg where
  packer:Pkr
  entries:List REn
  table:MapR 3 Int Int
instance:Ow Reg where
  R w F M v x:=∃ (g:Nat) (L:Lab) (c0 c1 c2:Value),v=.pointer (some ⟨g,0,none⟩)∧Blk w g 118 [c0,c1,c2]∧M g∧L g=0∧Ow.R w F (fun k=>M k∧L k=1) c0 x.packer∧RwM w F (fun k=>M k∧L k=2) 125 c1 x.entries∧Ow.R w F (fun k=>M k∧L k=3) c2 x.table
  agree:=by rintro w w' F M v x ⟨g,L,c0,c1,c2,rfl,hb,hM,hL,h0,h1,h2⟩ a1 a2;exact ⟨g,L,c0,c1,c2,rfl,hb.keep (a2 g hM),hM,hL,Ow.agree h0 a1 fun k hk=>a2 k hk.1,h1.agree a1 fun k hk=>a2 k hk.1,Ow.agree h2 a1 fun k hk=>a2 k hk.1⟩
  mono:=by rintro w F M F' M' v x ⟨g,L,c0,c1,c2,rfl,hb,hM,hL,h0,h1,h2⟩ a1 a2 a3;exact ⟨g,L,c0,c1,c2,rfl,hb,a2 g hM,hL,Ow.mono h0 a1 (fun k hk=>⟨a2 k hk.1,hk.2⟩) fun k hf hm=>a3 k hf hm.1,h1.mono a1 (fun k hk=>⟨a2 k hk.1,hk.2⟩) fun k hf hm=>a3 k hf hm.1,Ow.mono h2 a1 (fun k hk=>⟨a2 k hk.1,hk.2⟩) fun k hf hm=>a3 k hf hm.1⟩
instance:OwP Reg:=⟨by rintro w F M v x ⟨g,L,c0,c1,c2,rfl,_⟩;exact ⟨g,rfl⟩⟩
theorem Reg.opn {i:Nat} {w:World} {O:Lab} {p:Nat} {x:Reg} (h:Ob i w O (.pointer (some ⟨p,0,none⟩)) x) (l0 l1 l2 l3:Nat) (hl:l0≠0∧l1≠0∧l2≠0∧l3≠0):∃ (O':Lab) (c0 c1 c2:Value),St (eT i) w O w O'∧(∀ k,Fr i w O k→∃ q,q∈[l0,l1,l2,l3]∧Fr q w O' k)∧Lc l0 w O' p 118 [c0,c1,c2]∧Ob l1 w O' c0 x.packer∧Rw l2 w O' 125 c1 x.entries∧Ob l3 w O' c2 x.table:=by
  obtain ⟨⟨g,L,c0,c1,c2,hv,hb,hM,hL,h0,h1,h2⟩,hi⟩:=h
  obtain rfl:p=g:=by injection hv with hv;injection hv with hv;injection hv
  exact ⟨part O i L [l0,l1,l2,l3],c0,c1,c2,Hy hi,Gw (by simp),⟨hb,(DK (j:=0) rfl p ⟨hM,hL⟩).2⟩,⟨Ow.mono h0 (Dc hi) (DK (j:=1) rfl) (frNe0 hl.2.1),hl.2.1⟩,h1.rw (Dc hi) (DK (j:=2) rfl) hl.2.2.1,⟨Ow.mono h2 (Dc hi) (DK (j:=3) rfl) (frNe0 hl.2.2.2),hl.2.2.2⟩⟩
theorem Reg.shut {w:World} {O:Lab} {p:Nat} {x:Reg} {l0 l1 l2 l3:Nat} {c0 c1 c2:Value} (hd:¬ 0∈[l0,l1,l2,l3]∧[l0,l1,l2,l3].idxOf l0=0∧[l0,l1,l2,l3].idxOf l1=1∧[l0,l1,l2,l3].idxOf l2=2∧[l0,l1,l2,l3].idxOf l3=3) (hb:Lc l0 w O p 118 [c0,c1,c2]) (h0:Ob l1 w O c0 x.packer) (h1:Rw l2 w O 125 c1 x.entries) (h2:Ob l3 w O c2 x.table):∃ O',St (·∈[l0,l1,l2,l3]) w O w O'∧(∀ k,Fr 0 w O k→Fr 0 w O' k)∧(∀ q,q∈[l0,l1,l2,l3]→∀ k,Fr q w O k→Fr l0 w O' k)∧Ob l0 w O' (.pointer (some ⟨p,0,none⟩)) x:=by
  have hb1:l0≠0:=fun e=>hd.1 (by simp [e])
  have hg:=Dl (i:=l0) hd.2.1 (by simp) p ⟨hb.1.lt,hb.2⟩
  exact ⟨whole O l0 [l0,l1,l2,l3],Gx,Ch hd.1,FJ,⟨p,fun k=>[l0,l1,l2,l3].idxOf (O k),c0,c1,c2,rfl,hb.1,hg.1,hg.2,Ow.mono h0.1 (Ch hd.1) (Dl hd.2.2.1 (by simp)) (fun k a b=>frNe0 hb1 k a b.1),h1.m (Ch hd.1) (Dl hd.2.2.2.1 (by simp)) (fun k a b=>frNe0 hb1 k a b.1),Ow.mono h2.1 (Ch hd.1) (Dl hd.2.2.2.2 (by simp)) (fun k a b=>frNe0 hb1 k a b.1)⟩,hb1⟩
noncomputable def CO (x0:List Int):Option ((Option Reg)×Err) :=
  bnd (Dz x0) fun q4=>if q4.2.n≠0 then (some (none,(⟨q4.2.n⟩:Err))) else (bnd q4.1 fun o22=>some ((some (⟨o22,([]:List REn),(⟨[]⟩:MapR 3 Int Int)⟩:Reg)),(⟨0⟩:Err)))
theorem Iv {w:World} {O:Lab} {vx0:Value} {x0:List Int} (hx0:Vb w (Fr 0 w O) vx0 x0) (j0:Nat) (hj0:j0≠0) {r:(Option Reg)×Err} (hm:CO x0=some r) :
    Fn Try.prog 60 [vx0] w fun v w'=>∃ O',St nT w O w' O'∧∃ v0 v1:Value,v=.tuple #[v0,v1]∧Obo j0 w' O' v0 r.1∧Vb w' (Fr 0 w' O') v1 r.2:=by
 obtain ⟨O0,hE,hz0⟩:=ent0 (w:=w) (O:=O)
 have hB:Bm w O0 w O0:=Bm.refl
 replace hx0:=hx0.mono hz0
 obtain ⟨A2,c3,rfl⟩:=hx0.form
 refine AK Try.func60 rfl Try.ntmps60 rfl ?_
 unfold CO at hm
 refine Ah (Ae (o_as rfl rfl (o_as rfl rfl (o_z ?_))))
 refine Ah (Ae (o_mv rfl rfl ?_))
 obtain ⟨q4,e5,hm⟩:=bs hm
 refine Be (O:=O0) (Kk hx0 2 (by decide) e5) rfl rfl fun v10 w6 O7 S8 h9=>?_
 obtain ⟨v11,v12,rfl,h13,h14⟩:=h9
 obtain ⟨rfl,r15⟩:=h14.err
 refine o_mv rfl rfl (o_ex rfl rfl rfl (o_ex rfl rfl rfl (o_as rfl rfl (o_as rfl rfl (o_z ?_)))))
 refine Ah (Ah (Ae (o_mv rfl rfl (o_rnS rfl rfl (fun c16=>?_) fun c16=>?_))))
 ·
  replace hm:=ip hm c16
  refine o_z ?_
  refine Ar rfl (Ah (Ae (o_mv rfl rfl (o_as rfl rfl (o_as rfl rfl (o_z ?_))))))
  refine Au ?_
  obtain rfl:=sm hm
  replace hB:=hB.st S8
  obtain ⟨O',hS',hz,hl⟩:=hE.leave (fun _=>0) rfl hB
  exact ret2 rfl (AG rfl) (AG rfl) ⟨O',hS',_,_,rfl,rfl,(vErr r15)⟩
 ·
  replace hm:=im hm c16
  refine o_z ?_
  refine Aj rfl (Am (Ah (Ae (o_mv rfl rfl (Ls (K:=Int) (V:=Int) 3 3 (by decide) O7 rfl fun p17 w18 O19 S20 h21=>?_)))))
  obtain ⟨o22,e23,hm⟩:=bs hm
  replace h13:=h13.st S20
  rw [e23] at h13
  obtain ⟨p24,rfl⟩:=Ob.ptr h13
  refine o_bd rfl rfl rfl ?_
  refine l_box 4 O19 rfl rfl fun g25 w26 O27 S28 h29=>?_
  replace h29:Lc 4 w26 O27 g25 118 [(.pointer (some ⟨p24,0,none⟩)),(.slice none 0 0),(.map (some p17))]:=h29
  refine o_as rfl rfl (o_as rfl rfl (o_z ?_))
  refine Au ?_
  have h30:Rw 5 w26 O27 125 (.slice none 0 0) ([]:List REn):=Rw.nil 5 (by decide)
  replace h13:=h13.st S28
  replace h21:=h21.st S28
  obtain ⟨O32,S33,hz35,ha36,h34⟩:=Reg.shut (x:=(⟨o22,([]:List REn),(⟨[]⟩:MapR 3 Int Int)⟩:Reg)) (l0:=4) (l1:=2) (l2:=5) (l3:=3) (by decide) h29 h13 h30 h21
  obtain rfl:=sm hm
  replace hB:=(((hB.st S8).st S20).st S28).st S33
  obtain ⟨O',hS',hz,hl⟩:=hE.leave (fun q=>if q=4 then j0 else 0) rfl hB
  exact ret2 rfl (AG rfl) (AG rfl) ⟨O',hS',_,_,rfl,(Ob.leave h34 hz (hl 4 (by decide) (by decide)) hj0),(vErr (show inI64 0 from by decide))⟩
noncomputable def Bg (x0:Reg) (x1:List Int):Option ((List U64)×Int×Int×Err) :=
  bnd (Bp x0.packer x1) fun q20=>if q20.2.n≠0 then (some (([]:List U64),0,(-1),(⟨2⟩:Err))) else (bnd (Bw x0.packer q20.1) fun q41=>bnd (rng (ρ:=(List U64)×Int×Int×Err) (fun (k66:Nat) (a67:Int) (s64:Unit)=>bnd (atI x0.entries a67) fun a100=>bnd (Bk a100.words q20.1) fun q118=>if q118=true then some (.ret (q20.1,q41,a67,(⟨0⟩:Err))) else some (.next ())) (mget ([]:List Int) x0.table.l q41) 0 ()) fun res62=>fin res62 fun (s139:Unit)=>some (q20.1,q41,(-1),(⟨0⟩:Err)))
theorem Fx {w:World} {O:Lab} {p0 i0:Nat} {x0:Reg} (hx0:Ob i0 w O (.pointer (some ⟨p0,0,none⟩)) x0) {vx1:Value} {x1:List Int} (hx1:Vb w (Fr 0 w O) vx1 x1) {r:(List U64)×Int×Int×Err} (hm:Bg x0 x1=some r) :
    Fn Try.prog 66 [(.pointer (some ⟨p0,0,none⟩)),vx1] w fun v w'=>∃ O',St (eT i0) w O w' O'∧∃ v0 v1 v2 v3:Value,Ob i0 w' O' (.pointer (some ⟨p0,0,none⟩)) x0∧v=.tuple #[v0,v1,v2,v3]∧Vb w' (Fr 0 w' O') v0 r.1∧Vb w' (Fr 0 w' O') v1 r.2.1∧Vb w' (Fr 0 w' O') v2 r.2.2.1∧Vb w' (Fr 0 w' O') v3 r.2.2.2:=by
 obtain ⟨O0,hE,hz0,hl2⟩:=ent1 (w:=w) (O:=O) hx0.2
 have hx0':=Ob.leave hx0 hz0 hl2 (j:=2) (by decide)
 have hB:Bm w O0 w O0:=Bm.refl
 replace hx1:=hx1.mono hz0
 obtain ⟨A3,c4,rfl⟩:=hx1.form
 refine AK Try.func66 rfl Try.ntmps66 rfl ?_
 unfold Bg at hm
 refine Ah (Ae (o_as rfl rfl (o_as rfl rfl (o_as rfl rfl (o_as rfl rfl (o_z ?_))))))
 refine Ah (Ae (o_mv rfl rfl (o_nc rfl rfl ?_)))
 obtain ⟨O5,v9,v12,v17,S6,ha8,h7,h10,h13,h18⟩:=Reg.opn hx0' 2 3 4 5 (by decide)
 obtain ⟨p11,rfl⟩:=h10.ptr
 obtain ⟨A14,c15,rfl⟩:=h13.form
 obtain ⟨p19,rfl⟩:=h18.mptr
 refine o_fa rfl rfl (o_ld (hc:=Blk.cell (i:=0) (h7.1) rfl) rfl rfl ?_)
 refine o_mv rfl rfl ?_
 obtain ⟨q20,e21,hm⟩:=bs hm
 replace hx1:=hx1.st S6
 refine Be (O:=O5) (Hi h10 hx1 e21) rfl rfl fun v26 w22 O23 S24 h25=>?_
 obtain ⟨v28,v29,h27,rfl,h30,h31⟩:=h25
 obtain ⟨A32,c33,rfl⟩:=h30.form
 obtain ⟨rfl,r34⟩:=h31.err
 refine o_mv rfl rfl (o_ex rfl rfl rfl (o_ex rfl rfl rfl (o_as rfl rfl (o_as rfl rfl (o_z ?_)))))
 refine Ah (Ah (Ae (o_mv rfl rfl (o_rnS rfl rfl (fun c35=>?_) fun c35=>?_))))
 ·
  replace hm:=ip hm c35
  refine o_z ?_
  refine Ar rfl (Ah (Ae (o_miE rfl rfl ?_)))
  refine o_as rfl rfl (o_as rfl rfl (o_as rfl rfl (o_as rfl rfl (o_z ?_))))
  refine Au ?_
  replace h7:=h7.st S24
  replace h13:=h13.st S24
  replace h18:=h18.st S24
  obtain ⟨O36,S37,hz39,ha40,h38⟩:=Reg.shut (x:=x0) (l0:=2) (l1:=3) (l2:=4) (l3:=5) (by decide) h7 h27 h13 h18
  obtain rfl:=sm hm
  replace hB:=((hB.st S6).st S24).st S37
  obtain ⟨O',hS',hz,hl⟩:=hE.leave (fun q=>if q=2 then i0 else 0) rfl hB
  exact ret4 rfl (AG rfl) (AG rfl) (AG rfl) (AG rfl) ⟨O',hS',_,_,_,_,(Ob.leave h38 hz (hl 2 (by decide) (by decide)) hx0.2),rfl,(Vb.mono (Vb.nil _ _) hz),(vInt (show inI64 (0) from by decide)),(vInt (show inI64 (-1) from by decide)),(vErr (by decide))⟩
 ·
  replace hm:=im hm c35
  refine o_z ?_
  refine Aj rfl (Am (Ah (Ae (o_mv rfl rfl (o_nc rfl rfl (o_fa rfl rfl ?_))))))
  replace h7:=h7.st S24
  refine o_ld (hc:=Blk.cell (i:=0) (h7.1) rfl) rfl rfl ?_
  refine o_mv rfl rfl ?_
  obtain ⟨q41,e42,hm⟩:=bs hm
  refine Be (O:=O23) (Hj h27 h30 e42) rfl rfl fun v47 w43 O44 S45 h46=>?_
  obtain ⟨h48,h49⟩:=h46
  obtain ⟨rfl,r50⟩:=h49.int
  refine o_as rfl rfl (o_z ?_)
  refine Ah (Ah (Ae (o_mv rfl rfl (o_nc rfl rfl (o_fa rfl rfl ?_)))))
  replace h7:=h7.st S45
  refine o_ld (hc:=Blk.cell (i:=2) (h7.1) rfl) rfl rfl ?_
  refine o_mv rfl rfl ?_
  replace h18:=(h18.st S24).st S45
  obtain ⟨A53,c54,hl51,h52⟩:=MapR.get h18 q41
  refine o_lk q41 hl51 rfl rfl rfl ?_
  refine o_ln rfl rfl ?_
  have l56:(mget ([]:List Int) x0.table.l q41).length≤9223372036854775807:=Nat.le_trans h52.len.2.1 h52.len.2.2
  have r55:inI64 ((mget ([]:List Int) x0.table.l q41).length:Int):=rngNat l56
  refine o_mv rfl rfl (o_z ?_)
  replace h13:=(h13.st S24).st S45
  obtain ⟨O57,S58,hz60,ha61,h59⟩:=Reg.shut (x:=x0) (l0:=2) (l1:=3) (l2:=4) (l3:=5) (by decide) h7 h48 h13 h18
  replace h52:=h52.shutS S58 hz60 ha61 [2] (by decide)
  obtain ⟨res62,hL63,hm⟩:=bs hm
  refine AL (aft res62 (fun (s64:Unit) (x65:Unit)=>[(8,(.slice A32 q20.1.length c33)),(10,(.int .i64 q41))]) (fun s64 x65 w'=>∃ O':Lab,Bm w O0 w' O'∧Vb w' (Fr 0 w' O') (.slice A32 q20.1.length c33) q20.1∧Ob 2 w' O' (.pointer (some ⟨p0,0,none⟩)) x0)) ?_ ?_
  ·
   refine Al ?_
   replace hB:=(((hB.st S6).st S24).st S45).st S58
   replace h30:=(h30.st S45).st S58
   refine BM (σ:=Unit) (X:=Unit) ((mget ([]:List Int) x0.table.l q41).length) hL63 rfl l56 (fun (s64:Unit) (x65:Unit)=>[(0,(.pointer (some ⟨p0,0,none⟩))),(8,(.slice A32 q20.1.length c33)),(10,(.int .i64 q41)),(36,(.slice A53 (mget ([]:List Int) x0.table.l q41).length c54))]) _ (fun s64 x65 w'=>∃ O':Lab,Bm w O0 w' O'∧Ob 2 w' O' (.pointer (some ⟨p0,0,none⟩)) x0∧Vb w' (Fr 0 w' O') (.slice A32 q20.1.length c33) q20.1∧Vb w' (FrS [2] w' O') (.slice A53 (mget ([]:List Int) x0.table.l q41).length c54) (mget ([]:List Int) x0.table.l q41)) _ () ⟨O57,hB,h59,h30,h52⟩ ⟨rfl,rfl,rfl,rfl,rfl,rfl,trivial⟩ (fun _ _=>⟨rfl,rfl⟩) (fun _ _=>⟨rfl,rfl,trivial⟩) (fun _ _ _ ⟨O',hB,h59,h30,h52⟩=>⟨O',hB,h30,h59⟩) ⟨rfl,rfl,rfl⟩ ⟨rfl,rfl⟩ ?_
   rintro k66 a67 s64 x65 w68 cc70 hx71 ⟨O69,hB,h59,h30,h52⟩ hf72 hret73 hbrk74
   have rk66:inI64 (k66:Int):=rngK hx71 l56
   refine Ah (Ae ?_)
   obtain ⟨b77,o78,ce79,hA80,hl81,hd82,rfl,r84⟩:=h52.elem' hx71
   refine o_iaE (hA:=hA80) (hj:=rfl) (hlt:=hl81) rfl rfl rfl ?_
   refine o_ld (hc:=cat0 hd82) rfl rfl ?_
   refine o_as rfl rfl (o_z ?_)
   refine Ah (Ae (o_mv rfl rfl (o_nc rfl rfl ?_)))
   obtain ⟨O85,v89,v92,v97,S86,ha88,h87,h90,h93,h98⟩:=Reg.opn h59 2 3 4 5 (by decide)
   obtain ⟨p91,rfl⟩:=h90.ptr
   obtain ⟨A94,c95,rfl⟩:=h93.form
   obtain ⟨p99,rfl⟩:=h98.mptr
   replace h52:=h52.opnS S86 (by decide) ha88 [2,3,4,5] (by decide)
   refine o_fa rfl rfl (o_ld (hc:=Blk.cell (i:=1) (h87.1) rfl) rfl rfl ?_)
   refine o_mv rfl rfl ?_
   obtain ⟨a100,e101,hf72⟩:=bs hf72
   obtain ⟨p103,x102⟩:=AM e101
   obtain ⟨b104,o105,ce106,hA107,hl108,hd109,v111,rfl,h112,r115,r116,r117⟩:=h93.elem x102
   obtain ⟨A113,c114,rfl⟩:=h112.form
   refine o_iaE (hA:=hA107) (hj:=(Int.toNat_of_nonneg p103).symm) (hlt:=hl108) rfl rfl rfl ?_
   refine o_fa rfl rfl (o_ld (hc:=cat0 hd109) rfl rfl ?_)
   refine o_mv rfl rfl ?_
   obtain ⟨q118,e119,hf72⟩:=bs hf72
   replace h30:=h30.st S86
   refine BL (O:=O85) (A:=All w68) (R:=fun w' F v=>Vb w' F v q118) (EJ (fun _ h=>h) (Vb.mono (F:=Fr 0 w68 O85) h112 Fr.lt) (Vb.mono (F:=Fr 0 w68 O85) h30 Fr.lt) e119) rfl rfl fun v124 w120 O121 S122 h123=>?_
   obtain rfl:=h123.bool
   replace h52:=h52.stS S122 id (fun _ _=>id)
   cases q118
   case false =>
    replace hf72:=iF hf72
    refine o_z ?_
    refine Aj rfl (Am ?_)
    replace h87:=h87.st S122
    replace h90:=h90.st S122
    replace h93:=h93.st S122
    replace h98:=h98.st S122
    obtain ⟨O125,S126,hz128,ha129,h127⟩:=Reg.shut (x:=x0) (l0:=2) (l1:=3) (l2:=4) (l3:=5) (by decide) h87 h90 h93 h98
    replace h52:=h52.shutS S126 hz128 ha129 [2] (by decide)
    obtain rfl:=sm hf72
    refine (?_:Exists _)
    replace hB:=((hB.st S86).st S122).st S126
    replace h30:=(h30.st S122).st S126
    exact ⟨_,(),rfl,⟨rfl,rfl,rfl,rfl,rfl,rfl,trivial⟩,_,hB,h127,h30,h52⟩
   replace hf72:=iT hf72
   refine o_z ?_
   refine Ar rfl (Ah (Ae (o_mv rfl rfl (o_mv rfl rfl (o_mv rfl rfl (o_as rfl rfl (o_as rfl rfl (o_as rfl rfl (o_as rfl rfl (o_z ?_))))))))))
   refine Au ?_
   replace h87:=h87.st S122
   replace h90:=h90.st S122
   replace h93:=h93.st S122
   replace h98:=h98.st S122
   obtain ⟨O130,S131,hz133,ha134,h132⟩:=Reg.shut (x:=x0) (l0:=2) (l1:=3) (l2:=4) (l3:=5) (by decide) h87 h90 h93 h98
   obtain rfl:=sm hf72
   obtain rfl:=hret73 _ rfl
   obtain rfl:=sm (Bo hm)
   replace hB:=((hB.st S86).st S122).st S131
   obtain ⟨O',hS',hz,hl⟩:=hE.leave (fun q=>if q=2 then i0 else 0) rfl hB
   replace h30:=(h30.st S122).st S131
   exact ret4 rfl (AG rfl) (AG rfl) (AG rfl) (AG rfl) ⟨O',hS',_,_,_,_,(Ob.leave h132 hz (hl 2 (by decide) (by decide)) hx0.2),rfl,(Vb.mono h30 hz),(vInt r50),(vInt r84),(vErr (show inI64 0 from by decide))⟩
  replace hB:=(((hB.st S6).st S24).st S45).st S58
  replace h30:=(h30.st S45).st S58
  rintro l135 w136 ⟨s139,x140,rfl,hs138,O137,hB,h30,h59⟩
  replace hm:=AY hm
  refine AP _ hs138 ?_
  refine Ah (Ae (o_mv rfl rfl (o_mv rfl rfl (o_as rfl rfl (o_as rfl rfl (o_as rfl rfl (o_as rfl rfl (o_z ?_))))))))
  refine Au ?_
  obtain rfl:=sm hm
  obtain ⟨O',hS',hz,hl⟩:=hE.leave (fun q=>if q=2 then i0 else 0) rfl hB
  exact ret4 rfl (AG rfl) (AG rfl) (AG rfl) (AG rfl) ⟨O',hS',_,_,_,_,(Ob.leave h59 hz (hl 2 (by decide) (by decide)) hx0.2),rfl,(Vb.mono h30 hz),(vInt r50),(vInt (show inI64 (-1) from by decide)),(vErr (show inI64 0 from by decide))⟩
noncomputable def AW (x0:Reg) (x1:List Int):Option (Int×Bool×Err×Reg) :=
  bnd (Bg x0 x1) fun q5=>if q5.2.2.2.n≠0 then (some (0,false,(⟨q5.2.2.2.n⟩:Err),x0)) else (if 0≤q5.2.2.1 then (some (q5.2.2.1,false,(⟨0⟩:Err),x0)) else (if 65536≤(x0.entries.length:Int) then (some (0,false,(⟨10⟩:Err),x0)) else (bnd (appI 48 x0.entries [(⟨q5.1,(⟨(-1),(-1),0⟩:RLk)⟩:REn)]) fun u53=>bnd (appI 8 (mget ([]:List Int) x0.table.l q5.2.1) ([(x0.entries.length:Int)]:List Int)) fun u82=>some ((x0.entries.length:Int),true,(⟨0⟩:Err),(⟨x0.packer,u53,(⟨mput x0.table.l q5.2.1 u82⟩:MapR 3 Int Int)⟩:Reg)))))
theorem CG {w:World} {O:Lab} {p0 i0:Nat} {x0:Reg} (hx0:Ob i0 w O (.pointer (some ⟨p0,0,none⟩)) x0) {vx1:Value} {x1:List Int} (hx1:Vb w (Fr 0 w O) vx1 x1) {r:Int×Bool×Err×Reg} (hm:AW x0 x1=some r) :
    Fn Try.prog 41 [(.pointer (some ⟨p0,0,none⟩)),vx1] w fun v w'=>∃ O',St (eT i0) w O w' O'∧∃ v0 v1 v2:Value,Ob i0 w' O' (.pointer (some ⟨p0,0,none⟩)) r.2.2.2∧v=.tuple #[v0,v1,v2]∧Vb w' (Fr 0 w' O') v0 r.1∧Vb w' (Fr 0 w' O') v1 r.2.1∧Vb w' (Fr 0 w' O') v2 r.2.2.1:=by
 obtain ⟨O0,hE,hz0,hl2⟩:=ent1 (w:=w) (O:=O) hx0.2
 have hx0':=Ob.leave hx0 hz0 hl2 (j:=2) (by decide)
 have hB:Bm w O0 w O0:=Bm.refl
 replace hx1:=hx1.mono hz0
 obtain ⟨A3,c4,rfl⟩:=hx1.form
 refine AK Try.func41 rfl Try.ntmps41 rfl ?_
 unfold AW at hm
 refine Ah (Ae (o_as rfl rfl (o_as rfl rfl (o_as rfl rfl (o_z ?_)))))
 refine Ah (Ah (Ae (o_mv rfl rfl (o_pn rfl rfl ?_))))
 refine o_z ?_
 refine Aj rfl (Am (Ah (Ae (o_mv rfl rfl (o_mv rfl rfl ?_)))))
 obtain ⟨q5,e6,hm⟩:=bs hm
 refine Be (O:=O0) (Fx hx0' hx1 e6) rfl rfl fun v11 w7 O8 S9 h10=>?_
 obtain ⟨v13,v14,v15,v16,h12,rfl,h17,h18,h19,h20⟩:=h10
 obtain ⟨A21,c22,rfl⟩:=h17.form
 obtain ⟨rfl,r23⟩:=h18.int
 obtain ⟨rfl,r24⟩:=h19.int
 obtain ⟨rfl,r25⟩:=h20.err
 refine o_mv rfl rfl (o_ex rfl rfl rfl (o_ex rfl rfl rfl (o_ex rfl rfl rfl (o_ex rfl rfl rfl (o_as rfl rfl (o_as rfl rfl (o_as rfl rfl (o_as rfl rfl (o_z ?_)))))))))
 refine Ah (Al (Ah (Ae (o_mv rfl rfl (o_rnS rfl rfl (fun c26=>?_) fun c26=>?_)))))
 ·
  replace hm:=ip hm c26
  refine o_as rfl rfl (o_z ?_)
  refine Ar rfl (Ah (Ae (o_mv rfl rfl (o_as rfl rfl (o_as rfl rfl (o_as rfl rfl (o_z ?_)))))))
  refine Au ?_
  obtain rfl:=sm hm
  replace hB:=hB.st S9
  obtain ⟨O',hS',hz,hl⟩:=hE.leave (fun q=>if q=2 then i0 else 0) rfl hB
  exact ret3 rfl (AG rfl) (AG rfl) (AG rfl) ⟨O',hS',_,_,_,(Ob.leave h12 hz (hl 2 (by decide) (by decide)) hx0.2),rfl,(vInt (show inI64 (0) from by decide)),vBool,(vErr r25)⟩
 ·
  replace hm:=im hm c26
  refine o_as rfl rfl (o_z ?_)
  refine Aj rfl (Ah (Ae (o_mv rfl rfl (o_geS rfl rfl rfl (fun c27=>?_) fun c27=>?_))))
  ·
   replace hm:=ip hm c27
   refine o_as rfl rfl (o_z ?_)
   refine Ar rfl (Ah (Ae (o_mv rfl rfl (o_as rfl rfl (o_as rfl rfl (o_as rfl rfl (o_z ?_)))))))
   refine Au ?_
   obtain rfl:=sm hm
   replace hB:=hB.st S9
   obtain ⟨O',hS',hz,hl⟩:=hE.leave (fun q=>if q=2 then i0 else 0) rfl hB
   exact ret3 rfl (AG rfl) (AG rfl) (AG rfl) ⟨O',hS',_,_,_,(Ob.leave h12 hz (hl 2 (by decide) (by decide)) hx0.2),rfl,(vInt r24),vBool,(vErr (show inI64 0 from by decide))⟩
  ·
   replace hm:=im hm c27
   refine o_as rfl rfl (o_z ?_)
   refine Aj rfl (Ah (Ae (o_mv rfl rfl (o_nc rfl rfl ?_))))
   obtain ⟨O28,v32,v35,v40,S29,ha31,h30,h33,h36,h41⟩:=Reg.opn h12 2 3 4 5 (by decide)
   obtain ⟨p34,rfl⟩:=h33.ptr
   obtain ⟨A37,c38,rfl⟩:=h36.form
   obtain ⟨p42,rfl⟩:=h41.mptr
   refine o_fa rfl rfl (o_ld (hc:=Blk.cell (i:=1) (h30.1) rfl) rfl rfl ?_)
   refine o_ln rfl rfl ?_
   have l44:x0.entries.length≤9223372036854775807:=Nat.le_trans h36.len.2.1 h36.len.2.2
   have r43:inI64 (x0.entries.length:Int):=rngNat l44
   refine o_geS rfl rfl rfl (fun c45=>?_) fun c45=>?_
   ·
    replace hm:=ip hm c45
    refine o_as rfl rfl (o_z ?_)
    refine Ar rfl (Ah (Ae (o_miE rfl rfl ?_)))
    refine o_as rfl rfl (o_as rfl rfl (o_as rfl rfl (o_z ?_)))
    refine Au ?_
    obtain ⟨O46,S47,hz49,ha50,h48⟩:=Reg.shut (x:=x0) (l0:=2) (l1:=3) (l2:=4) (l3:=5) (by decide) h30 h33 h36 h41
    obtain rfl:=sm hm
    replace hB:=((hB.st S9).st S29).st S47
    obtain ⟨O',hS',hz,hl⟩:=hE.leave (fun q=>if q=2 then i0 else 0) rfl hB
    exact ret3 rfl (AG rfl) (AG rfl) (AG rfl) ⟨O',hS',_,_,_,(Ob.leave h48 hz (hl 2 (by decide) (by decide)) hx0.2),rfl,(vInt (show inI64 (0) from by decide)),vBool,(vErr (by decide))⟩
   ·
    replace hm:=im hm c45
    refine o_as rfl rfl (o_z ?_)
    refine Aj rfl (Am (Ah (Ae (o_mv rfl rfl (o_nc rfl rfl (o_fa rfl rfl (o_ld (hc:=Blk.cell (i:=1) (h30.1) rfl) rfl rfl ?_)))))))
    refine o_ln rfl rfl ?_
    have l52:x0.entries.length≤9223372036854775807:=Nat.le_trans h36.len.2.1 h36.len.2.2
    have r51:inI64 (x0.entries.length:Int):=rngNat l52
    refine o_as rfl rfl (o_z ?_)
    refine Ah (Ae (o_mv rfl rfl (o_mv rfl rfl (o_nc rfl rfl (o_fa rfl rfl (o_ld (hc:=Blk.cell (i:=1) (h30.1) rfl) rfl rfl ?_))))))
    refine o_mv rfl rfl (o_bd rfl rfl rfl ?_)
    refine o_bd rfl rfl rfl ?_
    obtain ⟨u53,e54,hm⟩:=bs hm
    obtain ⟨e54,e55,e56⟩:=Cg e54
    replace h17:=h17.st S29
    refine CY rfl (a:=(⟨q5.1,(⟨(-1),(-1),0⟩:RLk)⟩:REn)) h36 (Vb.ofAgg (cs:=[(.slice A21 q5.1.length c22),(.int .i64 (-1)),(.int .i64 (-1)),(.int .i64 0)]) (x:=(⟨q5.1,(⟨(-1),(-1),0⟩:RLk)⟩:REn)) rfl ⟨_,rfl,h17,(show inI64 (-1) from by decide),(show inI64 (-1) from by decide),(show inI64 (0) from by decide)⟩) (fun _=>rfl) rfl (by decide) (by decide) e55 e56 ⟨rfl,rfl⟩ fun g57 A58 c59 w60 O61 S62 h63=>?_
    rw [← e54] at h63 ⊢
    refine o_nc rfl rfl (o_fa rfl rfl ?_)
    replace h30:=h30.st S62
    refine AV h30 rfl rfl rfl (Nat.le_of_ble_eq_true rfl) (by first|exact allOne rfl|simp [Value.cells,Value.oneCell',AQ]) fun w65 S66 h30=>?_
    replace h30:Lc 2 w65 O61 p0 118 [(.pointer (some ⟨p34,0,none⟩)),(.slice A58 u53.length c59),(.map (some p42))]:=h30
    refine o_z ?_
    refine Ah (BA [(12,[]),(13,[5,7])] O61 ?_)
    refine x_pre (fuel:=8) [] [(5,true),(6,true),(7,true),(8,true),(9,true),(10,true),(11,true)] (by kernel_rfl) rfl ?_
    refine h_mv rfl rfl rfl (h_nc rfl rfl rfl (h_fa rfl rfl rfl (h_ldC (hc:=fun w' ⟨O',hq⟩=>Blk.cell (i:=2) ((h30.st hq (by decide)).1) rfl) rfl rfl rfl ?_)))
    refine h_mv rfl rfl rfl ?_
    replace h41:=(h41.st S62).st S66
    obtain ⟨A69,c70,hl67,h68⟩:=MapR.get h41 q5.2.1
    refine h_lk q5.2.1 (fun w' ⟨O',hq⟩=>hl67.keep (hq.agree (i:=5) (by decide) _ (MapR.at h41))) rfl rfl rfl rfl ?_
    refine h_mv rfl rfl rfl (AI ?_)
    refine x_pre (fuel:=3) [5,7] [(0,true),(1,true),(2,true),(3,true),(4,true)] (by kernel_rfl) rfl ?_
    refine h_mv rfl rfl rfl (h_nc rfl rfl rfl (h_fa rfl rfl rfl (h_ldC (hc:=fun w' ⟨O',hq⟩=>Blk.cell (i:=2) ((h30.st hq (by decide)).1) rfl) rfl rfl rfl ?_)))
    refine h_mv rfl rfl rfl (AI ?_)
    refine x_one (i:=12) (by kernel_rfl) rfl ?_
    refine BG 6 (by decide) O61 (xs:=(([(x0.entries.length:Int)]:List Int):List Int)) rfl rfl rfl rfl ⟨(vInt r51),trivial⟩ (by decide) (by decide) rfl fun g71 w72 O73 S74 h75=>?_
    have hZ:=S74.lst [] (fun _ h=>h.elim)
    replace hl67:=hl67.keep (S74.agree (i:=5) id _ (MapR.at h41))
    replace h68:=h68.stS S74 id (fun _ _=>id)
    refine x_go [(13,[5,7])] hZ (by kernel_rfl) ?_
    refine x_one (i:=13) (by kernel_rfl) rfl ?_
    replace h41:=h41.st S74
    obtain ⟨O77,S78,h79,h80⟩:=MapR.take h41 hl67 7 (by decide) (by decide)
    have hZ:=S78.lst [5] (fun _ h=>by cases h;decide)
    obtain ⟨u82,e83,hm⟩:=bs hm
    obtain ⟨e83,e84,e85⟩:=Cg e83
    replace h75:=h75.st S78
    refine DS rfl h80 (h75.rd) rfl rfl (by decide) e84 e85 rfl fun A86 c87 w88 O89 S90 h91=>?_
    rw [← e83] at h91 ⊢
    replace hZ:=hZ.cmp S90 [5,7] (fun _ h=>by cases h;decide) rfl
    refine x_go [] hZ (by kernel_rfl) ?_
    refine x_one (i:=14) (by kernel_rfl) rfl ?_
    replace h79:=h79.st S90
    refine LW h79 h91 (by decide) rfl rfl rfl fun w93 O94 S95 h96=>?_
    refine x_end (by kernel_rfl) ?_
    refine x_nil (by kernel_rfl) ?_
    refine Ah (Ae (o_mv rfl rfl (o_as rfl rfl (o_as rfl rfl (o_as rfl rfl (o_z ?_))))))
    refine Au ?_
    replace h30:=(((h30.st S74).st S78).st S90).st S95
    replace h33:=(((((h33.st S62).st S66).st S74).st S78).st S90).st S95
    replace h63:=((((h63.st S66).st S74).st S78).st S90).st S95
    obtain ⟨O97,S98,hz100,ha101,h99⟩:=Reg.shut (x:=(⟨x0.packer,u53,(⟨mput x0.table.l q5.2.1 u82⟩:MapR 3 Int Int)⟩:Reg)) (l0:=2) (l1:=3) (l2:=4) (l3:=5) (by decide) h30 h33 h63 h96
    obtain rfl:=sm hm
    replace hB:=((((((((hB.st S9).st S29).st S62).st S66).st S74).st S78).st S90).st S95).st S98
    obtain ⟨O',hS',hz,hl⟩:=hE.leave (fun q=>if q=2 then i0 else 0) rfl hB
    exact ret3 rfl (AG rfl) (AG rfl) (AG rfl) ⟨O',hS',_,_,_,(Ob.leave h99 hz (hl 2 (by decide) (by decide)) hx0.2),rfl,(vInt r51),vBool,(vErr (show inI64 0 from by decide))⟩
noncomputable def AO (x0:Reg):Option Int :=
  some (x0.entries.length:Int)
theorem BS {w:World} {O:Lab} {p0 i0:Nat} {x0:Reg} (hx0:Ob i0 w O (.pointer (some ⟨p0,0,none⟩)) x0) {r:Int} (hm:AO x0=some r) :
    Fn Try.prog 35 [(.pointer (some ⟨p0,0,none⟩))] w fun v w'=>∃ O',St (eT i0) w O w' O'∧Ob i0 w' O' (.pointer (some ⟨p0,0,none⟩)) x0∧Vb w' (Fr 0 w' O') v r:=by
 obtain ⟨O0,hE,hz0,hl2⟩:=ent1 (w:=w) (O:=O) hx0.2
 have hx0':=Ob.leave hx0 hz0 hl2 (j:=2) (by decide)
 have hB:Bm w O0 w O0:=Bm.refl
 refine AK Try.func35 rfl Try.ntmps35 rfl ?_
 unfold AO at hm
 refine Ah (Ae (o_as rfl rfl (o_z ?_)))
 refine Ah (Ah (Ae (o_mv rfl rfl (o_pn rfl rfl ?_))))
 refine o_z ?_
 refine Aj rfl (Am (Ah (Ae (o_mv rfl rfl (o_nc rfl rfl ?_)))))
 obtain ⟨O2,v6,v9,v14,S3,ha5,h4,h7,h10,h15⟩:=Reg.opn hx0' 2 3 4 5 (by decide)
 obtain ⟨p8,rfl⟩:=h7.ptr
 obtain ⟨A11,c12,rfl⟩:=h10.form
 obtain ⟨p16,rfl⟩:=h15.mptr
 refine o_fa rfl rfl (o_ld (hc:=Blk.cell (i:=1) (h4.1) rfl) rfl rfl ?_)
 refine o_ln rfl rfl ?_
 have l18:x0.entries.length≤9223372036854775807:=Nat.le_trans h10.len.2.1 h10.len.2.2
 have r17:inI64 (x0.entries.length:Int):=rngNat l18
 refine o_as rfl rfl (o_z ?_)
 refine Au ?_
 obtain ⟨O19,S20,hz22,ha23,h21⟩:=Reg.shut (x:=x0) (l0:=2) (l1:=3) (l2:=4) (l3:=5) (by decide) h4 h7 h10 h15
 obtain rfl:=sm hm
 replace hB:=(hB.st S3).st S20
 obtain ⟨O',hS',hz,hl⟩:=hE.leave (fun q=>if q=2 then i0 else 0) rfl hB
 exact ret1v rfl (AG rfl) ⟨O',hS',(Ob.leave h21 hz (hl 2 (by decide) (by decide)) hx0.2),(vInt r17)⟩
noncomputable def AX (x0:Reg) (x1:Int):Option Bool :=
  bnd (if 0≤x1 then (if x1 < (x0.entries.length:Int) then (some true) else (some false)) else (some false):Option Bool) fun y3=>some y3
theorem CH {w:World} {O:Lab} {p0 i0:Nat} {x0:Reg} (hx0:Ob i0 w O (.pointer (some ⟨p0,0,none⟩)) x0) {x1:Int} (rx1:inI64 x1) {r:Bool} (hm:AX x0 x1=some r) :
    Fn Try.prog 61 [(.pointer (some ⟨p0,0,none⟩)),(.int .i64 x1)] w fun v w'=>∃ O',St (eT i0) w O w' O'∧Ob i0 w' O' (.pointer (some ⟨p0,0,none⟩)) x0∧Vb w' (Fr 0 w' O') v r:=by
 obtain ⟨O0,hE,hz0,hl2⟩:=ent1 (w:=w) (O:=O) hx0.2
 have hx0':=Ob.leave hx0 hz0 hl2 (j:=2) (by decide)
 have hB:Bm w O0 w O0:=Bm.refl
 refine AK Try.func61 rfl Try.ntmps61 rfl ?_
 unfold AX at hm
 refine Ah (Ae (o_as rfl rfl (o_z ?_)))
 refine Ah ?_
 obtain ⟨y3,hy4,hm⟩:=bs hm
 refine AL (fun l' w'=>∃ (x6:Unit) (O':Lab),subs l' [(4,(.bool y3))]∧Bm w O0 w' O'∧Ob 2 w' O' (.pointer (some ⟨p0,0,none⟩)) x0) ?_ ?_
 ·
  refine Ae (o_mv rfl rfl (o_geS rfl rfl rfl (fun c7=>?_) fun c7=>?_))
  ·
   replace hy4:=ip hy4 c7
   refine o_mv rfl rfl (AE rfl rfl (o_mv rfl rfl (AE rfl rfl (o_mv rfl rfl (AE rfl rfl (o_nc rfl rfl (AE rfl rfl ?_)))))))
   obtain ⟨O8,v12,v15,v20,S9,ha11,h10,h13,h16,h21⟩:=Reg.opn hx0' 2 3 4 5 (by decide)
   obtain ⟨p14,rfl⟩:=h13.ptr
   obtain ⟨A17,c18,rfl⟩:=h16.form
   obtain ⟨p22,rfl⟩:=h21.mptr
   refine o_fa rfl rfl (AE rfl rfl (o_ld (hc:=Blk.cell (i:=1) (h10.1) rfl) rfl rfl ?_))
   refine AE rfl rfl (o_ln rfl rfl ?_)
   have l24:x0.entries.length≤9223372036854775807:=Nat.le_trans h16.len.2.1 h16.len.2.2
   have r23:inI64 (x0.entries.length:Int):=rngNat l24
   refine AE rfl rfl (o_ltS rfl rfl rfl (fun c25=>?_) fun c25=>?_)
   ·
    replace hy4:=ip hy4 c25
    refine o_pt rfl rfl rfl (o_as rfl rfl (o_z ?_))
    obtain ⟨O26,S27,hz29,ha30,h28⟩:=Reg.shut (x:=x0) (l0:=2) (l1:=3) (l2:=4) (l3:=5) (by decide) h10 h13 h16 h21
    obtain rfl:=sm hy4
    replace hB:=(hB.st S9).st S27
    exact ⟨(),_,⟨rfl,trivial⟩,hB,h28⟩
   ·
    replace hy4:=im hy4 c25
    refine o_pt rfl rfl rfl (o_as rfl rfl (o_z ?_))
    obtain ⟨O31,S32,hz34,ha35,h33⟩:=Reg.shut (x:=x0) (l0:=2) (l1:=3) (l2:=4) (l3:=5) (by decide) h10 h13 h16 h21
    obtain rfl:=sm hy4
    replace hB:=(hB.st S9).st S32
    exact ⟨(),_,⟨rfl,trivial⟩,hB,h33⟩
  ·
   replace hy4:=im hy4 c7
   refine o_mv rfl rfl (AD rfl rfl rfl rfl (AD rfl rfl rfl rfl (AD rfl rfl rfl rfl (AD rfl rfl rfl rfl (AD rfl rfl rfl rfl (AD rfl rfl rfl rfl (AD rfl rfl rfl rfl (o_pf rfl rfl rfl (o_as rfl rfl (o_z ?_))))))))))
   obtain rfl:=sm hy4
   exact ⟨(),_,⟨rfl,trivial⟩,hB,hx0'⟩
 rintro l36 w37 ⟨x6,O38,hs39,hB,h24⟩
 refine AP _ hs39 ?_
 refine Au ?_
 obtain rfl:=sm hm
 obtain ⟨O',hS',hz,hl⟩:=hE.leave (fun q=>if q=2 then i0 else 0) rfl hB
 exact ret1v rfl (AG rfl) ⟨O',hS',(Ob.leave h24 hz (hl 2 (by decide) (by decide)) hx0.2),vBool⟩
noncomputable def Bb (x0:Reg) (x1:Int):Option ((List Int)×Err) :=
  bnd (AX x0 x1) fun q3=>if q3=true then bnd (atI x0.entries x1) fun a27=>bnd (BV x0.packer a27.words) fun q45=>some (q45.1,(⟨q45.2.n⟩:Err)) else some (([]:List Int),(⟨1⟩:Err))
theorem CV {w:World} {O:Lab} {p0 i0:Nat} {x0:Reg} (hx0:Ob i0 w O (.pointer (some ⟨p0,0,none⟩)) x0) {x1:Int} (rx1:inI64 x1) {r:(List Int)×Err} (hm:Bb x0 x1=some r) :
    Fn Try.prog 36 [(.pointer (some ⟨p0,0,none⟩)),(.int .i64 x1)] w fun v w'=>∃ O',St (eT i0) w O w' O'∧∃ v0 v1:Value,Ob i0 w' O' (.pointer (some ⟨p0,0,none⟩)) x0∧v=.tuple #[v0,v1]∧Vb w' (Fr 0 w' O') v0 r.1∧Vb w' (Fr 0 w' O') v1 r.2:=by
 obtain ⟨O0,hE,hz0,hl2⟩:=ent1 (w:=w) (O:=O) hx0.2
 have hx0':=Ob.leave hx0 hz0 hl2 (j:=2) (by decide)
 have hB:Bm w O0 w O0:=Bm.refl
 refine AK Try.func36 rfl Try.ntmps36 rfl ?_
 unfold Bb at hm
 refine Ah (Ae (o_as rfl rfl (o_as rfl rfl (o_z ?_))))
 refine Ah (Al (Ah (Ae (o_mv rfl rfl (o_pn rfl rfl ?_)))))
 refine o_as rfl rfl (o_z ?_)
 refine Aj rfl (Ah (Ae (o_mv rfl rfl (o_mv rfl rfl ?_))))
 obtain ⟨q3,e4,hm⟩:=bs hm
 refine Be (O:=O0) (CH hx0' rx1 e4) rfl rfl fun v9 w5 O6 S7 h8=>?_
 obtain ⟨h10,h11⟩:=h8
 obtain rfl:=h11.bool
 cases q3
 case false =>
  replace hm:=iF hm
  refine o_nf rfl rfl (o_as rfl rfl (o_z ?_))
  refine Ar rfl (Ah (Ae (o_miE rfl rfl ?_)))
  refine o_as rfl rfl (o_as rfl rfl (o_z ?_))
  refine Au ?_
  obtain rfl:=sm hm
  replace hB:=hB.st S7
  obtain ⟨O',hS',hz,hl⟩:=hE.leave (fun q=>if q=2 then i0 else 0) rfl hB
  exact ret2 rfl (AG rfl) (AG rfl) ⟨O',hS',_,_,(Ob.leave h10 hz (hl 2 (by decide) (by decide)) hx0.2),rfl,(Vb.mono (Vb.nil _ _) hz),(vErr (by decide))⟩
 replace hm:=iT hm
 refine o_nt rfl rfl (o_as rfl rfl (o_z ?_))
 refine Aj rfl (Am (Ah ?_))
 obtain ⟨O12,v16,v19,v24,S13,ha15,h14,h17,h20,h25⟩:=Reg.opn h10 2 3 4 5 (by decide)
 obtain ⟨p18,rfl⟩:=h17.ptr
 obtain ⟨A21,c22,rfl⟩:=h20.form
 obtain ⟨p26,rfl⟩:=h25.mptr
 refine BA [(12,[3])] O12 ?_
 refine x_pre (fuel:=5) [] [(0,true),(1,true),(2,true),(3,true),(4,true),(5,true),(6,true),(7,true),(8,true),(9,true),(10,true),(11,true)] (by kernel_rfl) rfl ?_
 refine h_mv rfl rfl rfl (h_nc rfl rfl rfl (h_fa rfl rfl rfl (h_ldC (hc:=fun w' ⟨O',hq⟩=>Blk.cell (i:=0) ((h14.st hq (by decide)).1) rfl) rfl rfl rfl ?_)))
 refine h_mv rfl rfl rfl (h_nc rfl rfl rfl (h_fa rfl rfl rfl (h_ldC (hc:=fun w' ⟨O',hq⟩=>Blk.cell (i:=1) ((h14.st hq (by decide)).1) rfl) rfl rfl rfl ?_)))
 refine h_mv rfl rfl rfl ?_
 obtain ⟨a27,e28,hm⟩:=bs hm
 obtain ⟨p30,x29⟩:=AM e28
 obtain ⟨b31,o32,ce33,hA34,hF37,hl35,hd36,v38,rfl,h39,r42,r43,r44⟩:=h20.elemF x29
 obtain ⟨A40,c41,rfl⟩:=h39.form
 refine h_iaE (hA:=hA34) (hj:=(Int.toNat_of_nonneg p30).symm) (hlt:=hl35) rfl rfl rfl rfl ?_
 refine h_fa rfl rfl rfl (h_ldC (hc:=fun w' ⟨O',hq⟩=>cat0 (Bh (hq.agree (i:=4) (by decide)) hF37 hd36)) rfl rfl rfl ?_)
 refine AI ?_
 refine x_one (i:=12) (by kernel_rfl) rfl ?_
 obtain ⟨q45,e46,hm⟩:=bs hm
 refine Be (O:=O12) (Gz h17 h39 e46) rfl rfl fun v51 w47 O48 S49 h50=>?_
 obtain ⟨v53,v54,h52,rfl,h55,h56⟩:=h50
 obtain ⟨A57,c58,rfl⟩:=h55.form
 obtain ⟨rfl,r59⟩:=h56.err
 have hZ:=S49.lst [3] (fun _ h=>by cases h;decide)
 refine x_go [] hZ (by kernel_rfl) ?_
 refine x_pre (fuel:=0) [] [(13,true),(14,true),(15,true),(16,true)] (by kernel_rfl) rfl ?_
 refine h_ex rfl rfl rfl rfl (h_ex rfl rfl rfl rfl (h_as rfl rfl rfl (h_as rfl rfl rfl (AI ?_))))
 refine x_nil (by kernel_rfl) ?_
 refine Au ?_
 replace h14:=h14.st S49
 replace h20:=h20.st S49
 replace h25:=h25.st S49
 obtain ⟨O60,S61,hz63,ha64,h62⟩:=Reg.shut (x:=x0) (l0:=2) (l1:=3) (l2:=4) (l3:=5) (by decide) h14 h52 h20 h25
 obtain rfl:=sm hm
 replace hB:=(((hB.st S7).st S13).st S49).st S61
 obtain ⟨O',hS',hz,hl⟩:=hE.leave (fun q=>if q=2 then i0 else 0) rfl hB
 replace h55:=h55.st S61
 exact ret2 rfl (AG rfl) (AG rfl) ⟨O',hS',_,_,(Ob.leave h62 hz (hl 2 (by decide) (by decide)) hx0.2),rfl,(Vb.mono h55 hz),(vErr r59)⟩
noncomputable def Bc (x0:Reg) (x1:Int) (x2:Int) (x3:Int) (x4:Int):Option (Err×Reg) :=
  bnd (bnd (AX x0 x1) fun q10=>if q10=true then if x2≠(-1) then (bnd (AX x0 x2) fun q20=>if q20=true then some false else some true) else (some false) else some true:Option Bool) fun y6=>if y6=true then (some ((⟨1⟩:Err),x0)) else (bnd (atI x0.entries x1) fun a49=>some ((⟨0⟩:Err),(⟨x0.packer,(x0.entries.set (x1:Int).toNat ({ a49 with link:=(⟨x2,x3,x4⟩:RLk) }:REn)),x0.table⟩:Reg)))
theorem Dw {w:World} {O:Lab} {p0 i0:Nat} {x0:Reg} (hx0:Ob i0 w O (.pointer (some ⟨p0,0,none⟩)) x0) {x1:Int} (rx1:inI64 x1) {x2:Int} (rx2:inI64 x2) {x3:Int} (rx3:inI64 x3) {x4:Int} (rx4:inI64 x4) {r:Err×Reg} (hm:Bc x0 x1 x2 x3 x4=some r) :
    Fn Try.prog 42 [(.pointer (some ⟨p0,0,none⟩)),(.int .i64 x1),(.int .i64 x2),(.int .i64 x3),(.int .i64 x4)] w fun v w'=>∃ O',St (eT i0) w O w' O'∧Ob i0 w' O' (.pointer (some ⟨p0,0,none⟩)) r.2∧Vb w' (Fr 0 w' O') v r.1:=by
 obtain ⟨O0,hE,hz0,hl2⟩:=ent1 (w:=w) (O:=O) hx0.2
 have hx0':=Ob.leave hx0 hz0 hl2 (j:=2) (by decide)
 have hB:Bm w O0 w O0:=Bm.refl
 refine AK Try.func42 rfl Try.ntmps42 rfl ?_
 unfold Bc at hm
 refine Ah (Ae (o_as rfl rfl (o_z ?_)))
 refine Ah (Al (Ah (Ae (o_mv rfl rfl (o_pn rfl rfl ?_)))))
 refine o_as rfl rfl (o_z ?_)
 refine Aj rfl (Ah ?_)
 obtain ⟨y6,hy7,hm⟩:=bs hm
 refine AL (fun l' w'=>∃ (x9:Unit) (O':Lab),subs l' [(0,(.pointer (some ⟨p0,0,none⟩))),(1,(.int .i64 x1)),(2,(.int .i64 x2)),(3,(.int .i64 x3)),(4,(.int .i64 x4)),(15,(.bool y6))]∧Bm w O0 w' O'∧Ob 2 w' O' (.pointer (some ⟨p0,0,none⟩)) x0) ?_ ?_
 ·
  refine Ae (o_mv rfl rfl (o_mv rfl rfl ?_))
  obtain ⟨q10,e11,hy7⟩:=bs hy7
  refine Be (O:=O0) (CH hx0' rx1 e11) rfl rfl fun v16 w12 O13 S14 h15=>?_
  obtain ⟨h17,h18⟩:=h15
  obtain rfl:=h18.bool
  cases q10
  case false =>
   replace hy7:=iF hy7
   refine o_nf rfl rfl (o_mv rfl rfl (AD rfl rfl rfl rfl (AD rfl rfl rfl rfl (AD rfl rfl rfl rfl (AD rfl rfl rfl rfl (AD rfl rfl rfl rfl (AD rfl rfl rfl rfl (AD rfl rfl rfl rfl (AD rfl rfl rfl rfl (o_pt rfl rfl rfl (o_as rfl rfl (o_z ?_))))))))))))
   obtain rfl:=sm hy7
   replace hB:=hB.st S14
   exact ⟨(),_,⟨rfl,rfl,rfl,rfl,rfl,rfl,trivial⟩,hB,h17⟩
  replace hy7:=iT hy7
  refine o_nt rfl rfl (o_mv rfl rfl (AE rfl rfl (o_mv rfl rfl (AE rfl rfl (o_neS rfl rfl rfl (fun c19=>?_) fun c19=>?_)))))
  ·
   replace hy7:=ip hy7 c19
   refine AE rfl rfl (o_mv rfl rfl (AE rfl rfl (o_mv rfl rfl (AE rfl rfl (o_mv rfl rfl (AE rfl rfl ?_))))))
   obtain ⟨q20,e21,hy7⟩:=bs hy7
   refine Be (O:=O13) (CH h17 rx2 e21) rfl rfl fun v26 w22 O23 S24 h25=>?_
   obtain ⟨h27,h28⟩:=h25
   obtain rfl:=h28.bool
   cases q20
   case false =>
    replace hy7:=iF hy7
    refine AE rfl rfl (o_nf rfl rfl (AE rfl rfl (o_pt rfl rfl rfl (o_pf rfl rfl rfl (o_as rfl rfl (o_z ?_))))))
    obtain rfl:=sm hy7
    replace hB:=(hB.st S14).st S24
    exact ⟨(),_,⟨rfl,rfl,rfl,rfl,rfl,rfl,trivial⟩,hB,h27⟩
   replace hy7:=iT hy7
   refine AE rfl rfl (o_nt rfl rfl (AE rfl rfl (o_pt rfl rfl rfl (o_pf rfl rfl rfl (o_as rfl rfl (o_z ?_))))))
   obtain rfl:=sm hy7
   replace hB:=(hB.st S14).st S24
   exact ⟨(),_,⟨rfl,rfl,rfl,rfl,rfl,rfl,trivial⟩,hB,h27⟩
  ·
   replace hy7:=im hy7 c19
   refine AE rfl rfl (o_mv rfl rfl (AD rfl rfl rfl rfl (AD rfl rfl rfl rfl (AD rfl rfl rfl rfl (AD rfl rfl rfl rfl (AE rfl rfl (o_pf rfl rfl rfl (o_pf rfl rfl rfl (o_as rfl rfl (o_z ?_))))))))))
   obtain rfl:=sm hy7
   replace hB:=hB.st S14
   exact ⟨(),_,⟨rfl,rfl,rfl,rfl,rfl,rfl,trivial⟩,hB,h17⟩
 rintro l29 w30 ⟨x9,O31,hs32,hB,h13⟩
 refine AP _ hs32 ?_
 refine Cb rfl (fun c33=>?_) (fun c33=>?_)
 ·
  replace hm:=ip hm c33
  refine Ah (Ae (o_miE rfl rfl ?_))
  refine o_as rfl rfl (o_z ?_)
  refine Au ?_
  obtain rfl:=sm hm
  obtain ⟨O',hS',hz,hl⟩:=hE.leave (fun q=>if q=2 then i0 else 0) rfl hB
  exact ret1v rfl (AG rfl) ⟨O',hS',(Ob.leave h13 hz (hl 2 (by decide) (by decide)) hx0.2),(vErr (by decide))⟩
 ·
  replace hm:=im' hm c33
  refine Am (Ah (Ae (o_mv rfl rfl (o_nc rfl rfl ?_))))
  obtain ⟨O34,v38,v41,v46,S35,ha37,h36,h39,h42,h47⟩:=Reg.opn h13 2 3 4 5 (by decide)
  obtain ⟨p40,rfl⟩:=h39.ptr
  obtain ⟨A43,c44,rfl⟩:=h42.form
  obtain ⟨p48,rfl⟩:=h47.mptr
  refine o_fa rfl rfl (o_ld (hc:=Blk.cell (i:=1) (h36.1) rfl) rfl rfl ?_)
  refine o_mv rfl rfl (o_mv rfl rfl (o_mv rfl rfl (o_mv rfl rfl (o_bd rfl rfl rfl ?_))))
  obtain ⟨a49,e50,hm⟩:=bs hm
  obtain ⟨p52,x51⟩:=AM e50
  obtain ⟨b53,o54,ce55,hA56,hl57,hd58,v60,rfl,h61,r64,r65,r66⟩:=h42.elem x51
  obtain ⟨A62,c63,rfl⟩:=h61.form
  refine o_iaE (hA:=hA56) (hj:=(Int.toNat_of_nonneg p52).symm) (hlt:=hl57) rfl rfl rfl ?_
  refine o_fa rfl rfl (KJ (a:=a49) (a':=({ a49 with link:=(⟨x2,x3,x4⟩:RLk) }:REn)) (off:=1) h42 hA56 x51 rfl rfl rfl (Nat.le_of_ble_eq_true rfl) (by first|exact allOne rfl|simp [Value.cells,Value.oneCell',AQ]) (by rintro ce ⟨v69,rfl,h70,r73,r74,r75⟩;exact ⟨_,rfl,h70,rx2,rx3,rx4⟩) fun w67 S68 h42=>?_)
  refine o_z ?_
  refine Ah (Ae (o_as rfl rfl (o_z ?_)))
  refine Au ?_
  replace h36:=h36.st S68
  replace h39:=h39.st S68
  replace h47:=h47.st S68
  obtain ⟨O76,S77,hz79,ha80,h78⟩:=Reg.shut (x:=(⟨x0.packer,(x0.entries.set (x1:Int).toNat ({ a49 with link:=(⟨x2,x3,x4⟩:RLk) }:REn)),x0.table⟩:Reg)) (l0:=2) (l1:=3) (l2:=4) (l3:=5) (by decide) (by have q:=h36;rw [← ((by simp:(x0.entries.set (x1:Int).toNat ({ a49 with link:=(⟨x2,x3,x4⟩:RLk) }:REn)).length=x0.entries.length).trans rfl)] at q;exact q) h39 h42.relen h47
  obtain rfl:=sm hm
  replace hB:=((hB.st S35).st S68).st S77
  obtain ⟨O',hS',hz,hl⟩:=hE.leave (fun q=>if q=2 then i0 else 0) rfl hB
  exact ret1v rfl (AG rfl) ⟨O',hS',(Ob.leave h78 hz (hl 2 (by decide) (by decide)) hx0.2),(vErr (show inI64 0 from by decide))⟩
noncomputable def Bl (x0:List Int):Option (List Int) :=
  bnd (chkI ((x0.length:Int) - 1)) fun n4=>bnd (lop (ρ:=(List Int)) (fun (s9:(List Int)×Int×Int)=>if s9.2.1 < s9.2.2 then (bnd (atI s9.1 s9.2.2) fun a31=>bnd (atI s9.1 s9.2.1) fun a43=>bnd (atI s9.1 s9.2.1) fun a55=>bnd (atI (s9.1.set (s9.2.1:Int).toNat a31) s9.2.2) fun a69=>bnd (chkI (s9.2.1 + 1)) fun n83=>bnd (chkI (s9.2.2 - 1)) fun n86=>some (.next (((s9.1.set (s9.2.1:Int).toNat a31).set (s9.2.2:Int).toNat a43),n83,n86))) else (some (.brk (s9.1,s9.2.1,s9.2.2)))) (x0,0,n4)) fun res7=>fin res7 fun (s93:(List Int)×Int×Int)=>some s93.1
theorem Fi {w:World} {O:Lab} {A0:Option Addr} {m0 c0 i0:Nat} {x0:List Int} (hx0:Rw i0 w O 3 (.slice A0 m0 c0) x0) {r:(List Int)} (hm:Bl x0=some r) :
    Fn Try.prog 78 [(.slice A0 m0 c0)] w fun v w'=>∃ O',St (eT i0) w O w' O'∧Rw i0 w' O' 3 (.slice A0 m0 c0) r:=by
 obtain ⟨O0,hE,hz0,hl2⟩:=ent1 (w:=w) (O:=O) hx0.2.2
 obtain rfl:m0=x0.length:=hx0.len.1
 have hx0':=Rw.leave hx0 hz0 hl2 (j:=2) (by decide)
 have hB:Bm w O0 w O0:=Bm.refl
 refine AK Try.func78 rfl Try.ntmps78 rfl ?_
 unfold Bl at hm
 refine Ah (Ae (o_mv rfl rfl (o_ln rfl rfl ?_)))
 have l3:x0.length≤9223372036854775807:=Nat.le_trans hx0'.len.2.1 hx0'.len.2.2
 have r2:inI64 (x0.length:Int):=rngNat l3
 obtain ⟨n4,e5,hm⟩:=bs hm
 have r6:=(Bj e5)
 refine o_sbE (he:=e5) rfl rfl rfl ?_
 refine o_as rfl rfl (o_as rfl rfl (o_z ?_))
 obtain ⟨res7,hL8,hm⟩:=bs hm
 refine AL (aft res7 (fun (s9:(List Int)×Int×Int) (x10:Unit)=>[(0,(.slice A0 x0.length c0))]) (fun s9 x10 w'=>∃ O':Lab,Bm w O0 w' O'∧Rw 2 w' O' 3 (.slice A0 x0.length c0) s9.1∧inI64 s9.2.1∧inI64 s9.2.2)) ?_ ?_
 ·
  refine Al (DZ (σ:=(List Int)×Int×Int) (X:=Unit) hL8 (fun (s9:(List Int)×Int×Int) (x10:Unit)=>[(0,(.slice A0 x0.length c0)),(2,(.int .i64 s9.2.1)),(3,(.int .i64 s9.2.2))]) _ (fun s9 x10 w'=>∃ O':Lab,Bm w O0 w' O'∧Rw 2 w' O' 3 (.slice A0 x0.length c0) s9.1∧inI64 s9.2.1∧inI64 s9.2.2) _ () ⟨O0,hB,hx0',(show inI64 (0) from by decide),r6⟩ ⟨rfl,rfl,rfl,trivial⟩ ?_)
  rintro s9 x10 w13 cc15 ⟨O14,hB,h26,r28,r29⟩ hf17 hret18 hbrk19
  refine Ah (Ah (Ae (o_mv rfl rfl (o_mv rfl rfl (o_ltS rfl rfl rfl (fun c30=>?_) fun c30=>?_)))))
  ·
   replace hf17:=ip hf17 c30
   refine o_z ?_
   refine Ar rfl (Am (Ah (Al (BA [(13,[2])] O14 ?_))))
   refine x_pre (fuel:=5) [] [(0,true),(1,true),(4,true),(5,true),(6,true),(7,true),(8,true),(9,true),(10,true),(11,true),(12,true)] (by kernel_rfl) rfl ?_
   refine h_mv rfl rfl rfl (h_mv rfl rfl rfl (h_mv rfl rfl rfl (h_mv rfl rfl rfl ?_)))
   obtain ⟨a31,e32,hf17⟩:=bs hf17
   obtain ⟨p34,x33⟩:=AM e32
   obtain ⟨b35,o36,ce37,hA38,hF41,hl39,hd40,rfl,r42⟩:=h26.elemF x33
   refine h_iaE (hA:=hA38) (hj:=(Int.toNat_of_nonneg p34).symm) (hlt:=hl39) rfl rfl rfl rfl ?_
   refine h_ldC (hc:=fun w' ⟨O',hq⟩=>cat0 (Bh (hq.agree (i:=2) (by decide)) hF41 hd40)) rfl rfl rfl ?_
   refine h_mv rfl rfl rfl (h_mv rfl rfl rfl ?_)
   obtain ⟨a43,e44,hf17⟩:=bs hf17
   obtain ⟨p46,x45⟩:=AM e44
   obtain ⟨b47,o48,ce49,hA50,hF53,hl51,hd52,rfl,r54⟩:=h26.elemF x45
   refine h_iaE (hA:=hA50) (hj:=(Int.toNat_of_nonneg p46).symm) (hlt:=hl51) rfl rfl rfl rfl ?_
   refine h_ldC (hc:=fun w' ⟨O',hq⟩=>cat0 (Bh (hq.agree (i:=2) (by decide)) hF53 hd52)) rfl rfl rfl ?_
   obtain ⟨a55,e56,hf17⟩:=bs hf17
   obtain ⟨p58,x57⟩:=AM e56
   obtain ⟨b59,o60,ce61,hA62,hF65,hl63,hd64,rfl,r66⟩:=h26.elemF x57
   refine h_iaE (hA:=hA62) (hj:=(Int.toNat_of_nonneg p58).symm) (hlt:=hl63) rfl rfl rfl rfl ?_
   refine AI ?_
   refine x_pre (fuel:=3) [2] [(2,true),(3,true)] (by kernel_rfl) rfl ?_
   refine h_mv rfl rfl rfl (h_mv rfl rfl rfl (AI ?_))
   refine x_one (i:=13) (by kernel_rfl) rfl ?_
   refine Db rfl h26 (a:=a31) (vInt r42) hA62 rfl rfl (AJ x57) fun w67 S68 h26=>?_
   have hZ:=S68.lst [2] (fun _ h=>by cases h;decide)
   refine x_go [] hZ (by kernel_rfl) ?_
   refine x_pre (fuel:=1) [] [(14,true)] (by kernel_rfl) rfl ?_
   obtain ⟨a69,e70,hf17⟩:=bs hf17
   obtain ⟨p72,x71⟩:=AM e70
   obtain ⟨b73,o74,ce75,hA76,hF79,hl77,hd78,rfl,r80⟩:=h26.elemF x71
   refine h_iaE (hA:=hA76) (hj:=(Int.toNat_of_nonneg p72).symm) (hlt:=hl77) rfl rfl rfl rfl ?_
   refine AI ?_
   refine x_one (i:=15) (by kernel_rfl) rfl ?_
   refine Db rfl h26 (a:=a43) (vInt r54) hA76 rfl rfl (AJ x71) fun w81 S82 h26=>?_
   refine x_end (by kernel_rfl) ?_
   refine x_nil (by kernel_rfl) ?_
   refine Ae (o_mv rfl rfl ?_)
   obtain ⟨n83,e84,hf17⟩:=bs hf17
   have r85:=(Bj e84)
   refine o_adE (he:=e84) rfl rfl rfl ?_
   refine o_mv rfl rfl ?_
   obtain ⟨n86,e87,hf17⟩:=bs hf17
   have r88:=(Bj e87)
   refine o_sbE (he:=e87) rfl rfl rfl ?_
   refine o_as rfl rfl (o_as rfl rfl (o_z ?_))
   obtain rfl:=sm hf17
   refine (?_:Exists _)
   replace hB:=(hB.st S68).st S82
   exact ⟨_,(),rfl,⟨rfl,rfl,rfl,trivial⟩,_,hB,h26,r85,r88⟩
  ·
   replace hf17:=im hf17 c30
   refine o_z ?_
   refine Aj rfl (At ?_)
   obtain rfl:=sm hf17
   refine (?_:Exists _)
   exact ⟨_,(),hbrk19 _ rfl,⟨rfl,trivial⟩,_,hB,h26,r28,r29⟩
 rintro l89 w90 ⟨s93,x94,rfl,hs92,O91,hB,h26,r28,r29⟩
 replace hm:=AY hm
 obtain rfl:=sm hm
 obtain ⟨O',hS',hz,hl⟩:=hE.leave (fun q=>if q=2 then i0 else 0) rfl hB
 exact ret0n rfl  ⟨O',hS',(Rw.leave h26 hz (hl 2 (by decide) (by decide)) hx0.2.2)⟩
noncomputable def Bx (x0:Reg) (x1:Int):Option ((List Int)×Err) :=
  bnd (AX x0 x1) fun q3=>if q3=true then bnd (lop (ρ:=(List Int)×Err) (fun (s14:Int×(List Int))=>bnd (atI x0.entries s14.1) fun a48=>if a48.link.parent < 0 then (bnd (Bl s14.2) fun q74=>some (.ret (q74,(⟨0⟩:Err)))) else (bnd (appI 8 s14.2 [a48.link.op]) fun u89=>if (x0.entries.length:Int) < (u89.length:Int) then (some (.ret (([]:List Int),(⟨21⟩:Err)))) else (some (.next (a48.link.parent,u89))))) (x1,([]:List Int))) fun res12=>fin res12 fun (_:Int×(List Int))=>none else some (([]:List Int),(⟨1⟩:Err))
theorem Fy {w:World} {O:Lab} {p0 i0:Nat} {x0:Reg} (hx0:Ob i0 w O (.pointer (some ⟨p0,0,none⟩)) x0) {x1:Int} (rx1:inI64 x1) {r:(List Int)×Err} (hm:Bx x0 x1=some r) :
    Fn Try.prog 63 [(.pointer (some ⟨p0,0,none⟩)),(.int .i64 x1)] w fun v w'=>∃ O',St (eT i0) w O w' O'∧∃ v0 v1:Value,Ob i0 w' O' (.pointer (some ⟨p0,0,none⟩)) x0∧v=.tuple #[v0,v1]∧Vb w' (Fr 0 w' O') v0 r.1∧Vb w' (Fr 0 w' O') v1 r.2:=by
 obtain ⟨O0,hE,hz0,hl2⟩:=ent1 (w:=w) (O:=O) hx0.2
 have hx0':=Ob.leave hx0 hz0 hl2 (j:=2) (by decide)
 have hB:Bm w O0 w O0:=Bm.refl
 refine AK Try.func63 rfl Try.ntmps63 rfl ?_
 unfold Bx at hm
 refine Ah (Ae (o_as rfl rfl (o_as rfl rfl (o_z ?_))))
 refine Ah (Al (Ah (Ae (o_mv rfl rfl (o_pn rfl rfl ?_)))))
 refine o_as rfl rfl (o_z ?_)
 refine Aj rfl (Ah (Ae (o_mv rfl rfl (o_mv rfl rfl ?_))))
 obtain ⟨q3,e4,hm⟩:=bs hm
 refine Be (O:=O0) (CH hx0' rx1 e4) rfl rfl fun v9 w5 O6 S7 h8=>?_
 obtain ⟨h10,h11⟩:=h8
 obtain rfl:=h11.bool
 cases q3
 case false =>
  replace hm:=iF hm
  refine o_nf rfl rfl (o_as rfl rfl (o_z ?_))
  refine Ar rfl (Ah (Ae (o_miE rfl rfl ?_)))
  refine o_as rfl rfl (o_as rfl rfl (o_z ?_))
  refine Au ?_
  obtain rfl:=sm hm
  replace hB:=hB.st S7
  obtain ⟨O',hS',hz,hl⟩:=hE.leave (fun q=>if q=2 then i0 else 0) rfl hB
  exact ret2 rfl (AG rfl) (AG rfl) ⟨O',hS',_,_,(Ob.leave h10 hz (hl 2 (by decide) (by decide)) hx0.2),rfl,(Vb.mono (Vb.nil _ _) hz),(vErr (by decide))⟩
 replace hm:=iT hm
 refine o_nt rfl rfl (o_as rfl rfl (o_z ?_))
 refine Aj rfl (Am (Ah (Ae (o_as rfl rfl (o_z ?_)))))
 obtain ⟨res12,hL13,hm⟩:=bs hm
 refine AL (aft res12 (fun (s14:Int×(List Int)) (x15:(Option Addr×Nat))=>[]) (fun s14 x15 w'=>False)) ?_ ?_
 ·
  refine Al ?_
  replace hB:=hB.st S7
  refine DZ (σ:=Int×(List Int)) (X:=(Option Addr×Nat)) hL13 (fun (s14:Int×(List Int)) (x15:(Option Addr×Nat))=>[(0,(.pointer (some ⟨p0,0,none⟩))),(1,(.int .i64 s14.1)),(6,(.slice x15.1 s14.2.length x15.2))]) _ (fun s14 x15 w'=>∃ O':Lab,Bm w O0 w' O'∧Ob 2 w' O' (.pointer (some ⟨p0,0,none⟩)) x0∧Rw 8 w' O' 3 (.slice x15.1 s14.2.length x15.2) s14.2∧inI64 s14.1) _ (none,0) ⟨O6,hB,h10,(Rw.nil 8 (by decide)),rx1⟩ ⟨rfl,rfl,rfl,trivial⟩ ?_
  rintro s14 x15 w18 cc20 ⟨O19,hB,h10,h31,r30⟩ hf22 hret23 hbrk24
  refine Al (Ah (Ae (o_mv rfl rfl (o_nc rfl rfl ?_))))
  obtain ⟨O33,v37,v40,v45,S34,ha36,h35,h38,h41,h46⟩:=Reg.opn h10 2 3 4 5 (by decide)
  obtain ⟨p39,rfl⟩:=h38.ptr
  obtain ⟨A42,c43,rfl⟩:=h41.form
  obtain ⟨p47,rfl⟩:=h46.mptr
  refine o_fa rfl rfl (o_ld (hc:=Blk.cell (i:=1) (h35.1) rfl) rfl rfl ?_)
  refine o_mv rfl rfl ?_
  obtain ⟨a48,e49,hf22⟩:=bs hf22
  obtain ⟨p51,x50⟩:=AM e49
  obtain ⟨b52,o53,ce54,hA55,hl56,hd57,v59,rfl,h60,r63,r64,r65⟩:=h41.elem x50
  obtain ⟨A61,c62,rfl⟩:=h60.form
  refine o_iaE (hA:=hA55) (hj:=(Int.toNat_of_nonneg p51).symm) (hlt:=hl56) rfl rfl rfl ?_
  refine o_fa rfl rfl (o_la (hl:=rfl) (hc:=(Jg 1 3 hd57)) rfl rfl ?_)
  refine BR 6 O33 rfl fun g66 w67 O68 S69 h70=>?_
  refine AV h70 rfl rfl rfl (Nat.le_of_ble_eq_true rfl) (by first|exact allOne rfl|simp [Value.cells,Value.oneCell',AQ]) fun w71 S72 h70=>?_
  replace h70:Lc 6 w71 O68 g66 123 [(.int .i64 a48.link.parent),(.int .i64 a48.link.op),(.int .i64 a48.link.cost)]:=h70
  refine o_z ?_
  refine Ah (Ah (Ae (o_fa rfl rfl (o_ld (hc:=Blk.cell (i:=0) (h70.1) rfl) rfl rfl ?_))))
  refine o_ltS rfl rfl rfl (fun c73=>?_) fun c73=>?_
  ·
   replace hf22:=ip hf22 c73
   refine o_z ?_
   refine Ar rfl (Ah (Ae (o_mv rfl rfl ?_)))
   obtain ⟨q74,e75,hf22⟩:=bs hf22
   replace h31:=((h31.st S34).st S69).st S72
   refine Be (O:=O68) (Fi h31 e75) rfl rfl fun v80 w76 O77 S78 h81=>?_
   refine o_z ?_
   refine Ah (Ae (o_mv rfl rfl (o_as rfl rfl (o_as rfl rfl (o_z ?_)))))
   refine Au ?_
   obtain ⟨O82,S83,h81⟩:=h81.freeze
   replace h35:=(((h35.st S69).st S72).st S78).st S83
   replace h38:=(((h38.st S69).st S72).st S78).st S83
   replace h41:=(((h41.st S69).st S72).st S78).st S83
   replace h46:=(((h46.st S69).st S72).st S78).st S83
   obtain ⟨O84,S85,hz87,ha88,h86⟩:=Reg.shut (x:=x0) (l0:=2) (l1:=3) (l2:=4) (l3:=5) (by decide) h35 h38 h41 h46
   obtain rfl:=sm hf22
   obtain rfl:=hret23 _ rfl
   obtain rfl:=sm (Bo hm)
   replace hB:=(((((hB.st S34).st S69).st S72).st S78).st S83).st S85
   obtain ⟨O',hS',hz,hl⟩:=hE.leave (fun q=>if q=2 then i0 else 0) rfl hB
   replace h81:=h81.st S85
   exact ret2 rfl (AG rfl) (AG rfl) ⟨O',hS',_,_,(Ob.leave h86 hz (hl 2 (by decide) (by decide)) hx0.2),rfl,(Vb.mono h81 hz),(vErr (show inI64 0 from by decide))⟩
  ·
   replace hf22:=im hf22 c73
   refine o_z ?_
   refine Aj rfl (Am (Ah (Ae (o_mv rfl rfl (o_fa rfl rfl (o_ld (hc:=Blk.cell (i:=1) (h70.1) rfl) rfl rfl ?_))))))
   obtain ⟨u89,e90,hf22⟩:=bs hf22
   obtain ⟨e90,e91,e92⟩:=Cg e90
   replace h31:=((h31.st S34).st S69).st S72
   refine CY rfl (a:=a48.link.op) h31 (vInt r64) (fun _=>rfl) rfl (by decide) (by decide) e91 e92 ⟨rfl,rfl⟩ fun g93 A94 c95 w96 O97 S98 h99=>?_
   rw [← e90] at h99 ⊢
   refine o_as rfl rfl (o_z ?_)
   refine Ah (Ah (Ae (o_mv rfl rfl (o_ln rfl rfl ?_))))
   have l102:u89.length≤9223372036854775807:=Nat.le_trans h99.len.2.1 h99.len.2.2
   have r101:inI64 (u89.length:Int):=rngNat l102
   refine o_mv rfl rfl (o_nc rfl rfl (o_fa rfl rfl ?_))
   replace h35:=((h35.st S69).st S72).st S98
   refine o_ld (hc:=Blk.cell (i:=1) (h35.1) rfl) rfl rfl ?_
   refine o_ln rfl rfl ?_
   replace h41:=((h41.st S69).st S72).st S98
   have l104:x0.entries.length≤9223372036854775807:=Nat.le_trans h41.len.2.1 h41.len.2.2
   have r103:inI64 (x0.entries.length:Int):=rngNat l104
   refine o_gtS rfl rfl rfl (fun c105=>?_) fun c105=>?_
   ·
    replace hf22:=ip hf22 c105
    refine o_z ?_
    refine Ar rfl (Ah (Ae (o_miE rfl rfl ?_)))
    refine o_as rfl rfl (o_as rfl rfl (o_z ?_))
    refine Au ?_
    replace h38:=((h38.st S69).st S72).st S98
    replace h46:=((h46.st S69).st S72).st S98
    obtain ⟨O106,S107,hz109,ha110,h108⟩:=Reg.shut (x:=x0) (l0:=2) (l1:=3) (l2:=4) (l3:=5) (by decide) h35 h38 h41 h46
    obtain rfl:=sm hf22
    obtain rfl:=hret23 _ rfl
    obtain rfl:=sm (Bo hm)
    replace hB:=((((hB.st S34).st S69).st S72).st S98).st S107
    obtain ⟨O',hS',hz,hl⟩:=hE.leave (fun q=>if q=2 then i0 else 0) rfl hB
    exact ret2 rfl (AG rfl) (AG rfl) ⟨O',hS',_,_,(Ob.leave h108 hz (hl 2 (by decide) (by decide)) hx0.2),rfl,(Vb.mono (Vb.nil _ _) hz),(vErr (by decide))⟩
   ·
    replace hf22:=im hf22 c105
    refine o_z ?_
    refine Aj rfl (Am (Ae (o_fa rfl rfl ?_)))
    replace h70:=h70.st S98
    refine o_ld (hc:=Blk.cell (i:=0) (h70.1) rfl) rfl rfl ?_
    refine o_as rfl rfl (o_z ?_)
    replace h38:=((h38.st S69).st S72).st S98
    replace h46:=((h46.st S69).st S72).st S98
    obtain ⟨O111,S112,hz114,ha115,h113⟩:=Reg.shut (x:=x0) (l0:=2) (l1:=3) (l2:=4) (l3:=5) (by decide) h35 h38 h41 h46
    obtain rfl:=sm hf22
    refine (?_:Exists _)
    replace hB:=((((hB.st S34).st S69).st S72).st S98).st S112
    replace h99:=h99.st S112
    exact ⟨_,(A94,c95),rfl,⟨rfl,rfl,rfl,trivial⟩,_,hB,h113,h99,r63⟩
 rintro l116 w117 ⟨s120,x121,_,_,hE⟩
 exact hE.elim
end
section
open Go Go.RowKit
theorem JU {σ ρ:Type} {x:Option (Ctl σ ρ)} {I:σ→Prop} (h:∃ r,x=some r∧∃ s',r=Ctl.next s'∧I s'):∃ s',x=some (.next s')∧I s':=by
  obtain ⟨_,h1,s',rfl,h2⟩:=h
  exact ⟨s',h1,h2⟩
def FldOk (W:Nat) (f:PFd) (n:Int):Prop:=∃ k b w:Nat,f=⟨k,b,w,n⟩∧k < W∧b + w≤64∧w≤6∧n≤2 ^ w
def PkOk (vars:List Int) (p:Pkr):Prop:=p.fields.length=vars.length∧(∃ W:Nat,p.words=(W:Int)∧1≤W∧W≤vars.length + 1∧∀ (i:Nat) f n,p.fields[i]?=some f→vars[i]?=some n→FldOk W f n) ∧
  ∀ (i j:Nat) f g,i < j→p.fields[i]?=some f→p.fields[j]?=some g→f.word < g.word∨(f.word=g.word∧f.bit + f.width≤g.bit)
theorem LX:∀ {w:Nat},w≤6→shlI 1 (w:Int)=some ((2 ^ w:Nat):Int):=by
  intro w h
  have:w=0∨w=1∨w=2∨w=3∨w=4∨w=5∨w=6:=by omega
  rcases this with rfl|rfl|rfl|rfl|rfl|rfl|rfl<;>rfl
theorem LY {w:Nat} {n:Int} (hw:w≤6) (h:((2 ^ w:Nat):Int) < n) (hn:n≤64):w < 6:=by
  rcases Nat.lt_or_ge w 6 with hh|hh
  · exact hh
  · obtain rfl:w=6:=by omega
    simp at h;omega
def PkI (vars:List Int) (B W:Nat) (fs:List PFd):Prop:=(∀ (i:Nat) f n,fs[i]?=some f→vars[i]?=some n→FldOk W f n) ∧
  (∀ (i j:Nat) f g,i < j→fs[i]?=some f→fs[j]?=some g→f.word < g.word∨(f.word=g.word∧f.bit + f.width≤g.bit))∧∀ (i:Nat) f,fs[i]?=some f→f.word + 1 < (W:Int)∨(f.word + 1=(W:Int)∧f.bit + f.width≤(B:Int))
theorem PkI.over {vars:List Int} {B W:Nat} {fs:List PFd} (h:PkI vars B W fs):PkI vars 0 (W + 1) fs :=
  ⟨fun i f n hf hn=>by obtain ⟨k,b,w,e,e1,e2⟩:=h.1 i f n hf hn;exact ⟨k,b,w,e,by omega,e2⟩,h.2.1,fun i f hf=>by have:=h.2.2 i f hf;omega⟩
theorem BZ {α:Type} {l:List α} {x y:α} {i:Nat} (h:(l ++ [x])[i]?=some y):l[i]?=some y∨(i=l.length∧y=x):=by
  rcases Nat.lt_trichotomy i l.length with hi|hi|hi
  · rw [List.getElem?_append_left hi] at h;exact .inl h
  · subst hi;simp at h;exact .inr ⟨rfl,h.symm⟩
  · rw [List.getElem?_append_right (by omega)] at h
    rw [List.getElem?_eq_none (by simp;omega)] at h
    cases h
theorem PkI.add {vars:List Int} {B W w:Nat} {fs:List PFd} {n:Int} (h:PkI vars B W fs) (hW:1≤W) (hn:vars[fs.length]?=some n) (hB:B + w≤64) (hw:w≤6) (hnw:n≤2 ^ w):PkI vars (B + w) W (fs ++ [⟨(W:Int) - 1,(B:Int),(w:Int),n⟩]):=by
  refine ⟨fun i f n' hf hn'=>?_,fun i j f g hij hf hg=>?_,fun i f hf=>?_⟩
  · rcases BZ hf with hh|⟨rfl,rfl⟩
    · exact h.1 i f n' hh hn'
    · rw [hn] at hn'
      obtain rfl:=Option.some.inj hn'
      exact ⟨W - 1,B,w,by congr 1;omega,by omega,hB,hw,hnw⟩
  · rcases BZ hg with hh|⟨rfl,rfl⟩
    · rcases BZ hf with hk|⟨rfl,rfl⟩
      · exact h.2.1 i j f g hij hk hh
      · have:=AJ hh;omega
    · rcases BZ hf with hk|⟨rfl,rfl⟩
      · have:=h.2.2 i f hk
        dsimp only
        omega
      · omega
  · rcases BZ hf with hh|⟨rfl,rfl⟩
    · have:=h.2.2 i f hh;omega
    · dsimp only;omega
theorem Km {vars:List Int} (hl:vars.length≤64) (hv:∀ (i:Nat) n,vars[i]?=some n→1≤n∧n≤64):∃ r,Dz vars=some r∧∃ p,r=(some p,⟨0⟩)∧PkOk vars p:=by
  unfold Dz
  rw [if_neg (by omega)]
  refine Gf (fun m s=>∃ B W:Nat,s.1=(B:Int)∧B≤64∧s.2.words=(W:Int)∧1≤W∧W≤m + 1∧s.2.fields.length=m∧PkI vars B W s.2.fields) (fun _=>False)
    ⟨0,1,rfl,by omega,rfl,by omega,by omega,rfl,fun i f n h=>by simp at h,fun i j f g _ h=>by simp at h,fun i f h=>by simp at h⟩ ?_ ?_ (fun q hq=>hq.elim)
  · rintro m n ⟨s1,s2⟩ hm ⟨B,W,hs1,hB,hW,hW1,hWm,hlen,hI⟩
    dsimp only at hs1 hW hlen hI
    subst hs1
    obtain ⟨hn1,hn2⟩:=hv m n hm
    have hml:=AJ hm
    refine .inl (JU ?_)
    rw [if_neg (by omega),if_neg (by omega),AC,if_f]
    refine Mz (fun c=>∃ w:Nat,c=(w:Int)∧w≤6) (fun c=>∃ w:Nat,c=(w:Int)∧w≤6∧n≤2 ^ w) (fun _=>False) (fun c=>7 - c.toNat) ⟨0,rfl,by omega⟩ ?_ ?_ (fun q hq=>hq.elim)
    · rintro c ⟨w,rfl,hw⟩
      rw [LX hw,AC]
      by_cases hlt:((2 ^ w:Nat):Int) < n
      · have:=LY hw hlt hn2
        rw [if_pos hlt,CN (by unfold inI64;omega),AC]
        exact .inl ⟨_,rfl,⟨w + 1,by omega,by omega⟩,by omega⟩
      · rw [if_neg hlt]
        refine .inr (.inl ⟨_,rfl,w,rfl,hw,?_⟩)
        have:((2 ^ w:Nat):Int)=(2:Int) ^ w:=by simp
        omega
    · rintro c ⟨w,rfl,hw,hnw⟩
      rw [fin_d,CN (by unfold inI64;omega),AC]
      have fin':∀ (B' W':Nat) (q:Pkr),B' + w≤64→1≤W'→W'≤m + 2→q.words=(W':Int)→q.fields=s2.fields→PkI vars B' W' s2.fields→∃ r,(bnd (chkI (q.words - 1)) fun n133=>bnd (appI 32 q.fields [(⟨n133,(B':Int),(w:Int),n⟩:PFd)]) fun u142=>bnd (chkI ((B':Int) + (w:Int))) fun n155=>some (Ctl.next (ρ:=(Option Pkr)×Err) (n155,(⟨u142,q.words⟩:Pkr))))=some r∧∃ s',r=Ctl.next s'∧∃ B W:Nat,s'.1=(B:Int)∧B≤64∧s'.2.words=(W:Int)∧1≤W∧W≤m + 1 + 1∧s'.2.fields.length=m + 1∧PkI vars B W s'.2.fields:=by
        intro B' W' q hB' hW' hWm' hq1 hq2 hI'
        rw [hq1,hq2,CN (by unfold inI64;omega),AC,DJ (by simp;omega) (by simp;omega),AC,CN (by unfold inI64;omega),AC]
        exact ⟨_,rfl,_,rfl,B' + w,W',by simp,hB',rfl,hW',by omega,by simp [hlen],hI'.add hW' (by rw [hlen];exact hm) hB' hw hnw⟩
      by_cases hover:64 < (B:Int) + (w:Int)
      · rw [if_pos hover]
        dsimp only
        rw [hW,CN (by unfold inI64;omega),AC,AC]
        exact fin' 0 (W + 1) ⟨s2.fields,(W:Int) + 1⟩ (by omega) (by omega) (by omega) (by simp) rfl hI.over
      · rw [if_neg hover,AC]
        exact fin' B W s2 (by omega) hW1 (by omega) hW rfl hI
  · rintro ⟨s1,s2⟩ ⟨B,W,hs1,hB,hW,hW1,hWm,hlen,hI⟩
    exact ⟨_,rfl,s2,rfl,hlen,⟨W,hW,hW1,hWm,hI.1⟩,hI.2.1⟩
def InF (f:PFd) (x:Int) (k c:Nat):Prop:=f.word=(k:Int)∧f.bit≤(c:Int)∧(c:Int) < f.bit + f.width∧x.toNat.testBit (c - f.bit.toNat)=true
def Bits (fs:List PFd) (s:List Int) (p:Nat→Prop) (ws:List U64):Prop:=∀ (k c:Nat) a,ws[k]?=some a→c < 64→(a.getLsbD c=true↔∃ (i:Nat) (f:PFd) (x:Int),p i∧fs[i]?=some f∧s[i]?=some x∧InF f x k c)
theorem ones {w:Nat} (h:w≤6):((1:U64) <<< w) - (1:U64)=BitVec.ofNat 64 (2 ^ w - 1):=by
  have:w=0∨w=1∨w=2∨w=3∨w=4∨w=5∨w=6:=by omega
  rcases this with rfl|rfl|rfl|rfl|rfl|rfl|rfl<;>rfl
theorem Jp {w b c:Nat} (hw:w≤6) (hc:c < 64):((((1:U64) <<< w) - (1:U64)) <<< b).getLsbD c=(decide (b≤c) && decide (c < b + w)):=by
  rw [ones hw,BitVec.getLsbD_shiftLeft,BitVec.getLsbD_ofNat,Nat.testBit_two_pow_sub_one]
  by_cases h1:b≤c<;>by_cases h2:c < b + w<;>simp [h1,h2,hc]<;>omega
theorem Iw {x:Int} {w j:Nat} (h0:0≤x) (h1:x < 2 ^ w) (ht:x.toNat.testBit j=true):j < w:=by
  rcases Nat.lt_or_ge j w with h|h
  · exact h
  · have h2:x.toNat < 2 ^ w:=by
      have:((2 ^ w:Nat):Int)=(2:Int) ^ w:=by simp
      omega
    rw [Nat.testBit_lt_two_pow (Nat.lt_of_lt_of_le h2 (Nat.pow_le_pow_right (by omega) h))] at ht
    cases ht
theorem PkOk.field {vars:List Int} {p:Pkr} (h:PkOk vars p) {s:List Int} (hs:StateOk vars s) {i:Nat} {f:PFd} (hf:p.fields[i]?=some f):∃ (k b w:Nat) (n x:Int),f=⟨k,b,w,n⟩∧(k:Int) < p.words∧b + w≤64∧w≤6∧s[i]?=some x∧0≤x∧x < n∧x < 2 ^ w:=by
  obtain ⟨h1,⟨W,hW,_,_,h2⟩,h3⟩:=h
  have hi:=AJ hf
  obtain ⟨n,hn⟩:=AH (l:=vars) (k:=i) (by omega)
  obtain ⟨x,hx⟩:=AH (l:=s) (k:=i) (by have:=hs.1;omega)
  obtain ⟨k,b,w,e,e1,e2,e3,e4⟩:=h2 i f n hf hn
  have:=hs.2 i x n hx hn
  exact ⟨k,b,w,n,x,e,by omega,e2,e3,hx,this.1,this.2,by omega⟩
theorem PkOk.same {vars:List Int} {p:Pkr} (h:PkOk vars p) {i j:Nat} {f g:PFd} {k c:Nat} (hf:p.fields[i]?=some f) (hg:p.fields[j]?=some g) (h1:f.word=(k:Int)∧f.bit≤(c:Int)∧(c:Int) < f.bit + f.width) (h2:g.word=(k:Int)∧g.bit≤(c:Int)∧(c:Int) < g.bit + g.width):i=j:=by
  rcases Nat.lt_trichotomy i j with hh|hh|hh
  · have:=h.2.2 i j f g hh hf hg;omega
  · exact hh
  · have:=h.2.2 j i g f hh hg hf;omega
theorem Hz {vars:List Int} {p:Pkr} (h:PkOk vars p) (hl:vars.length≤64) {s:List Int} (hs:StateOk vars s):∃ r,Bp p s=some r∧r.2=⟨0⟩∧(r.1.length:Int)=p.words∧Bits p.fields s (fun _=>True) r.1:=by
  obtain ⟨W,hW,hW1,hW2,_⟩:=h.2.1
  unfold Bp
  rw [if_neg (by have:=h.1;have:=hs.1;omega),hW,Ic (by omega) (by omega),AC]
  refine Gf (fun m ws=>(ws.length:Int)=(W:Int)∧Bits p.fields s (fun i=>i < m) ws) (fun _=>False) ⟨by simp,?_⟩ ?_ ?_ (fun q hq=>hq.elim)
  · intro k c a ha _
    have:=List.eq_of_mem_replicate (List.mem_of_getElem? ha)
    subst this
    constructor
    · intro hh;simp at hh
    · rintro ⟨i,_,_,hi,_⟩;omega
  · rintro m f ws hm ⟨hwl,hb⟩
    refine .inl (JU ?_)
    obtain ⟨k,b,w,n,x,rfl,hk,hbw,hw,hx,hx0,hxn,hxw⟩:=h.field hs hm
    dsimp only
    obtain ⟨a,ha⟩:=AH (l:=ws) (k:=k) (by omega)
    rw [hx,AC,if_neg (by omega),AC,if_neg (by omega),AC,if_f,Cf,ha,AC,AC]
    unfold shlU
    rw [if_pos (by omega),AC,AC]
    refine ⟨_,rfl,_,rfl,by simpa using hwl,?_⟩
    simp only [Int.toNat_natCast]
    have hxb:∀ c:Nat,c < 64→((a ||| (BitVec.ofInt 64 x <<< b)).getLsbD c=true↔a.getLsbD c=true∨(b≤c∧x.toNat.testBit (c - b)=true)):=by
      intro c hc
      have hofi:BitVec.ofInt 64 x=BitVec.ofNat 64 x.toNat:=by
        rw [← BitVec.ofInt_natCast,Int.toNat_of_nonneg hx0]
      rw [BitVec.getLsbD_or,BitVec.getLsbD_shiftLeft,hofi,BitVec.getLsbD_ofNat]
      by_cases h1:b≤c
      · have:c - b < 64:=by omega
        simp [hc,h1,this,Nat.not_lt.2 h1]
      · simp [hc,h1,Nat.lt_of_not_le h1]
    intro k' c a' ha' hc
    by_cases e:k=k'
    · subst e
      rw [List.getElem?_set_self (AJ ha)] at ha'
      obtain rfl:=Option.some.inj ha'
      rw [hxb c hc,hb k c a ha hc]
      constructor
      · rintro (⟨i,f,y,hi,hr⟩|⟨h1,h2⟩)
        · exact ⟨i,f,y,by omega,hr⟩
        · have:=Iw hx0 hxw h2
          exact ⟨m,_,x,by omega,hm,hx,rfl,by dsimp only;omega,by dsimp only;omega,by simpa using h2⟩
      · rintro ⟨i,f,y,hi,hf,hy,hin⟩
        by_cases he:i=m
        · subst he
          rw [hm] at hf
          obtain rfl:=Option.some.inj hf
          rw [hx] at hy
          obtain rfl:=Option.some.inj hy
          obtain ⟨_,i2,i3,i4⟩:=hin
          dsimp only at i2 i3 i4
          exact .inr ⟨by omega,by simpa using i4⟩
        · exact .inl ⟨i,f,y,by omega,hf,hy,hin⟩
    · rw [List.getElem?_set_ne e] at ha'
      rw [hb k' c a' ha' hc]
      constructor
      · rintro ⟨i,f,y,hi,hr⟩;exact ⟨i,f,y,by omega,hr⟩
      · rintro ⟨i,f,y,hi,hf,hy,hin⟩
        by_cases he:i=m
        · subst he
          rw [hm] at hf
          obtain rfl:=Option.some.inj hf
          have:=hin.1
          dsimp only at this
          omega
        · exact ⟨i,f,y,by omega,hf,hy,hin⟩
  · rintro ws ⟨hwl,hb⟩
    refine ⟨_,rfl,rfl,hwl,fun k c a ha hc=>?_⟩
    rw [hb k c a ha hc]
    constructor
    · rintro ⟨i,f,x,_,hr⟩;exact ⟨i,f,x,trivial,hr⟩
    · rintro ⟨i,f,x,_,hf,hr⟩;exact ⟨i,f,x,AJ hf,hf,hr⟩
theorem JV {k b w:Nat} {n:Int}:Ca ⟨k,b,w,n⟩=some ((((1:U64) <<< w) - (1:U64)) <<< b):=by
  unfold Ca shlU
  dsimp only
  rw [if_pos (by omega),AC,if_pos (by omega),AC]
  simp
theorem MK {vars:List Int} {p:Pkr} (h:PkOk vars p) {s:List Int} (hs:StateOk vars s) {ws:List U64} (hwl:(ws.length:Int)=p.words) (hb:Bits p.fields s (fun _=>True) ws) {i:Nat} {f:PFd} {x:Int} (hf:p.fields[i]?=some f) (hx:s[i]?=some x):Cr f ws=some x:=by
  obtain ⟨k,b,w,n,x',rfl,hk,hbw,hw,hx',hx0,hxn,hxw⟩:=h.field hs hf
  rw [hx] at hx'
  obtain rfl:=Option.some.inj hx'
  obtain ⟨a,ha⟩:=AH (l:=ws) (k:=k) (by omega)
  unfold Cr
  dsimp only
  rw [Cf,ha,AC,JV,AC]
  unfold shrU
  rw [if_pos (by omega),AC]
  have hval : (a &&& ((((1:U64) <<< w) - (1:U64)) <<< b)) >>> b=BitVec.ofNat 64 x.toNat:=by
    apply BitVec.eq_of_getLsbD_eq
    intro j hj
    rw [BitVec.getLsbD_ushiftRight,BitVec.getLsbD_and,BitVec.getLsbD_ofNat]
    by_cases hjb:b + j < 64
    · rw [Jp hw hjb]
      by_cases hjw:j < w
      · have h1:=hb k (b + j) a ha hjb
        have h2:a.getLsbD (b + j)=x.toNat.testBit j:=by
          cases ht:x.toNat.testBit j with
          | true=>exact h1.2 ⟨i,_,x,trivial,hf,hx,rfl,by dsimp only;omega,by dsimp only;omega,by simpa using ht⟩
          | false =>
            cases hg:a.getLsbD (b + j) with
            | false=>rfl
            | true =>
              obtain ⟨i',f',x',_,hf',hx',hin⟩:=h1.1 hg
              have hii:=h.same (k:=k) (c:=b + j) hf hf' ⟨rfl,by dsimp only;omega,by dsimp only;omega⟩ ⟨hin.1,hin.2.1,hin.2.2.1⟩
              subst hii
              rw [hf] at hf'
              obtain rfl:=Option.some.inj hf'
              rw [hx] at hx'
              obtain rfl:=Option.some.inj hx'
              have:=hin.2.2.2
              simp at this
              rw [this] at ht
              cases ht
        rw [h2]
        simp [hj,hjw]
      · have hf0:x.toNat.testBit j=false:=by
          cases ht:x.toNat.testBit j with
          | false=>rfl
          | true=>exact absurd (Iw hx0 hxw ht) hjw
        simp [hf0,hjw]
    · have hf0:x.toNat.testBit j=false:=by
        cases ht:x.toNat.testBit j with
        | false=>rfl
        | true=>have:=Iw hx0 hxw ht;omega
      rw [BitVec.getLsbD_of_ge _ _ (by omega)]
      simp [hf0]
  have h64:(2:Int) ^ w≤64:=by
    have:w=0∨w=1∨w=2∨w=3∨w=4∨w=5∨w=6:=by omega
    rcases this with rfl|rfl|rfl|rfl|rfl|rfl|rfl<;>decide
  simp only [Int.toNat_natCast]
  rw [hval]
  congr 1
  rw [BitVec.toInt_eq_toNat_of_lt (by rw [BitVec.toNat_ofNat];omega),BitVec.toNat_ofNat]
  omega
theorem Hk {vars:List Int} {p:Pkr} (h:PkOk vars p) (hl:vars.length≤64) {s:List Int} (hs:StateOk vars s) {ws:List U64} (hwl:(ws.length:Int)=p.words) (hb:Bits p.fields s (fun _=>True) ws):BV p ws=some (s,⟨0⟩):=by
  obtain ⟨W,hW,hW1,hW2,_⟩:=h.2.1
  have hsl:=hs.1
  have hfl:=h.1
  unfold BV
  rw [if_neg (by omega),Ic (by omega) (by omega),AC]
  unfold BO
  rw [if_pos (by omega),AC]
  refine JT (fun m st=>st.1.length=s.length∧(∀ (i:Nat) x,i < m→s[i]?=some x→st.1[i]?=some x)∧st.2.length=ws.length∧Bits p.fields s (fun i=>m≤i) st.2) ⟨by simp;omega,fun i x hi=>by omega,rfl,?_⟩ ?_ ?_
  · intro k c a ha hc
    rw [hb k c a ha hc]
    constructor
    · rintro ⟨i,f,x,_,hr⟩;exact ⟨i,f,x,by omega,hr⟩
    · rintro ⟨i,f,x,_,hr⟩;exact ⟨i,f,x,trivial,hr⟩
  · rintro m f ⟨out,rest⟩ hm ⟨i1,i2,i3,i4⟩
    dsimp only at i1 i2 i3 i4 ⊢
    obtain ⟨k,b,w,n,x,rfl,hk,hbw,hw,hx,hx0,hxn,hxw⟩:=h.field hs hm
    have hml:=AJ hx
    obtain ⟨u,hu⟩:=AH (l:=out) (k:=m) (by omega)
    obtain ⟨a,ha⟩:=AH (l:=rest) (k:=k) (by omega)
    rw [MK h hs hwl hb hm hx,AC,hu,AC,List.getElem?_set_self (by omega),AC]
    dsimp only
    rw [if_neg (by omega),Cf,ha,AC,JV,AC,AC]
    refine ⟨_,rfl,by simpa using i1,fun i y hi hy=>?_,by simpa using i3,?_⟩
    · by_cases e:i=m
      · subst e
        rw [hx] at hy
        obtain rfl:=Option.some.inj hy
        exact List.getElem?_set_self (by omega)
      · show (out.set m x)[i]?=_
        rw [List.getElem?_set_ne (by omega)]
        exact i2 i y (by omega) hy
    · show Bits p.fields s _ (rest.set ((k:Int)).toNat _)
      simp only [Int.toNat_natCast]
      intro k' c a' ha' hc
      by_cases e:k=k'
      · subst e
        rw [List.getElem?_set_self (AJ ha)] at ha'
        obtain rfl:=Option.some.inj ha'
        rw [BitVec.getLsbD_and,BitVec.getLsbD_not,Jp hw hc]
        have h1:=i4 k c a ha hc
        constructor
        · intro hh
          simp only [Bool.and_eq_true,Bool.not_eq_true',decide_eq_true_eq] at hh
          obtain ⟨i,f,y,hi,hf,hy,hin⟩:=h1.1 hh.1
          refine ⟨i,f,y,?_,hf,hy,hin⟩
          rcases Nat.lt_or_ge m i with hlt|hge
          · exact hlt
          · exfalso
            obtain rfl:i=m:=by omega
            rw [hm] at hf
            obtain rfl:=Option.some.inj hf
            obtain ⟨_,j2,j3,_⟩:=hin
            dsimp only at j2 j3
            have h2:=hh.2.2
            rw [show decide (b≤c)=true from by simp;omega,show decide (c < b + w)=true from by simp;omega] at h2
            cases h2
        · rintro ⟨i,f,y,hi,hf,hy,hin⟩
          have hg:=h1.2 ⟨i,f,y,by omega,hf,hy,hin⟩
          have hno:¬ (b≤c∧c < b + w):=fun hh=>by
            have:=h.same (k:=k) (c:=c) hm hf ⟨rfl,by dsimp only;omega,by dsimp only;omega⟩ ⟨hin.1,hin.2.1,hin.2.2.1⟩
            omega
          rw [hg]
          by_cases q1:b≤c
          · have q2:¬ c < b + w:=fun hh=>hno ⟨q1,hh⟩
            simp [hc,q1,q2]
          · simp [hc,q1]
      · rw [List.getElem?_set_ne e] at ha'
        rw [i4 k' c a' ha' hc]
        constructor
        · rintro ⟨i,f,y,hi,hf,hy,hin⟩
          refine ⟨i,f,y,?_,hf,hy,hin⟩
          rcases Nat.lt_or_ge m i with hlt|hge
          · exact hlt
          · exfalso
            obtain rfl:i=m:=by omega
            rw [hm] at hf
            obtain rfl:=Option.some.inj hf
            have:=hin.1
            dsimp only at this
            omega
        · rintro ⟨i,f,y,hi,hr⟩;exact ⟨i,f,y,by omega,hr⟩
  · rintro ⟨out,rest⟩ ⟨i1,i2,i3,i4⟩
    dsimp only at i1 i2 i3 i4
    rw [fin_d]
    dsimp only
    have hout:out=s:=by
      apply List.ext_getElem?
      intro i
      rcases Nat.lt_or_ge i s.length with hi|hi
      · obtain ⟨x,hx⟩:=AH (l:=s) (k:=i) hi
        rw [hx];exact i2 i x (by omega) hx
      · rw [List.getElem?_eq_none hi,List.getElem?_eq_none (by omega)]
    subst hout
    refine JT (fun _ _=>True) trivial (fun k a _ hk _=>⟨(),?_,trivial⟩) (fun _ _=>rfl)
    obtain ⟨a',ha'⟩:=AH (l:=rest) (k:=k) (by have:=AJ hk;omega)
    rw [ha',AC]
    have hz:a'=0:=by
      apply BitVec.eq_of_getLsbD_eq
      intro c hc
      cases hg:a'.getLsbD c with
      | false=>simp
      | true =>
        obtain ⟨i,f,x,hi,hf,_⟩:=(i4 k c a' ha' hc).1 hg
        have:=AJ hf
        omega
    subst hz
    rw [if_neg (by simp)]
theorem Lt {vars:List Int} {p:Pkr} (h:PkOk vars p) (hl:vars.length≤64) {s s':List Int} (hs:StateOk vars s) (hs':StateOk vars s') {ws:List U64} (h1:Bp p s=some (ws,⟨0⟩)) (h2:Bp p s'=some (ws,⟨0⟩)):s=s':=by
  obtain ⟨r,r1,r2,r3,r4⟩:=Hz h hl hs
  obtain ⟨q,q1,q2,q3,q4⟩:=Hz h hl hs'
  rw [h1] at r1
  rw [h2] at q1
  obtain rfl:=Option.some.inj r1
  obtain rfl:=Option.some.inj q1
  have e1:=Hk h hl hs r3 r4
  have e2:=Hk h hl hs' q3 q4
  rw [e1] at e2
  have:=Option.some.inj e2
  exact congrArg Prod.fst this
end
section
open Go Go.RowKit
theorem IM {K V:Type} [MKey K] (z:V) (k k':K) (v:V):∀ l:List (K×V),mget z (mput l k v) k'=if k=k' then v else mget z l k'
  | []=>by simp only [mput,mget]
  | p :: r=>by
    have ih:=IM z k k' v r
    simp only [mput]
    by_cases h1:p.1=k
    · rw [if_pos h1]
      simp only [mget]
      by_cases h2:k=k'
      · rw [if_pos h2,if_pos h2]
      · rw [if_neg h2,if_neg h2,if_neg (by rw [h1];exact h2)]
    · rw [if_neg h1]
      simp only [mget,ih]
      by_cases h2:k=k'
      · rw [if_pos h2,if_pos h2,if_neg (by rw [← h2];exact h1)]
      · rw [if_neg h2,if_neg h2]
theorem KT (p:Pkr) (ws:List U64):∃ h,Bw p ws=some h:=by
  have:∃ r,Bw p ws=some r∧True:=by
    unfold Bw
    refine Gf (fun _ _=>True) (fun _=>False) trivial (fun i x s _ _=>.inl ?_) (fun s _=>?_) (fun q hq=>hq.elim)
    · exact ⟨_,rfl,trivial⟩
    · exact ⟨_,rfl,trivial⟩
  obtain ⟨h,h1,_⟩:=this
  exact ⟨h,h1⟩
theorem ML (a b:List U64):Bk a b=some (decide (a=b)):=by
  unfold Bk
  by_cases hl:(a.length:Int)=(b.length:Int)
  · rw [if_neg (by omega)]
    have:∃ r,(bnd (rng (ρ:=Bool) (fun (k18:Nat) (a19:U64) (_:Unit)=>bnd (b[k18]?) fun a36=>if (a19.toNat:Int)≠(a36.toNat:Int) then (some (.ret false)) else (some (.next ()))) a 0 ()) fun res14=>fin res14 fun (_:Unit)=>some true)=some r∧r=decide (a=b):=by
      refine Gf (fun m _=>∀ (i:Nat),i < m→a[i]?=b[i]?) (fun r=>r=false∧a≠b) (fun i hi=>by omega) ?_ ?_ ?_
      · intro i x _ hx hI
        obtain ⟨y,hy⟩:=AH (l:=b) (k:=i) (by have:=AJ hx;omega)
        rw [hy,AC]
        by_cases he:x=y
        · subst he
          rw [if_neg (by simp)]
          refine .inl ⟨(),rfl,fun j hj=>?_⟩
          by_cases e:j=i
          · subst e;rw [hx,hy]
          · exact hI j (by omega)
        · rw [if_pos (fun h=>he (BitVec.eq_of_toNat_eq (by omega)))]
          refine .inr ⟨_,rfl,rfl,fun h=>he ?_⟩
          rw [h,hy] at hx
          exact (Option.some.inj hx).symm
      · intro _ hI
        refine ⟨_,rfl,?_⟩
        symm
        rw [decide_eq_true_eq]
        apply List.ext_getElem?
        intro i
        rcases Nat.lt_or_ge i a.length with h|h
        · exact hI i h
        · rw [List.getElem?_eq_none h,List.getElem?_eq_none (by omega)]
      · rintro q ⟨rfl,hne⟩
        exact ⟨_,rfl,by simp [hne]⟩
    obtain ⟨r,h1,h2⟩:=this
    rw [h1,h2]
  · rw [if_pos hl]
    congr 1
    symm
    rw [decide_eq_false_iff_not]
    exact fun h=>hl (by rw [h])
structure RegI (vars:List Int) (r:Reg) (L:List (List Int)):Prop where
  pk:PkOk vars r.packer
  len:r.entries.length=L.length
  st:∀ (i:Nat) s,L[i]?=some s→StateOk vars s
  words:∀ (i:Nat) s e,L[i]?=some s→r.entries[i]?=some e→Bp r.packer s=some (e.words,⟨0⟩)
  nodup:∀ (i j:Nat) s,L[i]?=some s→L[j]?=some s→i=j
  tab:∀ (i:Nat) e,r.entries[i]?=some e→∃ h,Bw r.packer e.words=some h∧(i:Int)∈mget ([]:List Int) r.table.l h
  val:∀ h a,a∈mget ([]:List Int) r.table.l h→∃ i:Nat,a=(i:Int)∧i < L.length
  few:∀ h,(mget ([]:List Int) r.table.l h).length≤L.length
def links (r:Reg):List RLk:=r.entries.map (·.link)
theorem KU {vars:List Int} (hl:vars.length≤64) (hv:∀ (i:Nat) n,vars[i]?=some n→1≤n∧n≤64):∃ r,CO vars=some r∧∃ q,r=(some q,⟨0⟩)∧RegI vars q []∧links q=[]:=by
  obtain ⟨r,h1,p,rfl,hp⟩:=Km hl hv
  unfold CO
  rw [h1,AC,if_neg (by simp),AC]
  exact ⟨_,rfl,_,rfl,⟨hp,rfl,fun i s h=>by simp at h,fun i s e h=>by simp at h,fun i j s h=>by simp at h,fun i e h=>by simp at h,fun h a ha=>by simp [mget] at ha,fun h=>by simp [mget]⟩,rfl⟩
theorem Kn {vars:List Int} (hl:vars.length≤64) {r:Reg} {L:List (List Int)} (h:RegI vars r L) {s:List Int} (hs:StateOk vars s):∃ (ws:List U64) (hh:Int),Bp r.packer s=some (ws,⟨0⟩)∧Bw r.packer ws=some hh ∧
    ((∃ i:Nat,L[i]?=some s∧Bg r s=some (ws,hh,(i:Int),⟨0⟩))∨((∀ i:Nat,L[i]?≠some s)∧Bg r s=some (ws,hh,-1,⟨0⟩))):=by
  obtain ⟨⟨ws,er⟩,p1,p2,p3,p4⟩:=Hz h.pk hl hs
  dsimp only at p2 p3 p4
  subst p2
  obtain ⟨hh,hhe⟩:=KT r.packer ws
  refine ⟨ws,hh,p1,hhe,?_⟩
  have key:∃ res,Bg r s=some res∧((∃ i:Nat,L[i]?=some s∧res=(ws,hh,(i:Int),⟨0⟩))∨((∀ i:Nat,L[i]?≠some s)∧res=(ws,hh,-1,⟨0⟩))):=by
    unfold Bg
    rw [p1,AC,if_neg (by simp),hhe,AC]
    refine Gf (fun m _=>∀ (j:Nat) (i:Nat),j < m→(mget ([]:List Int) r.table.l hh)[j]?=some (i:Int)→L[i]?≠some s) (fun res=>∃ i:Nat,L[i]?=some s∧res=(ws,hh,(i:Int),⟨0⟩)) (fun j i hj=>by omega) ?_ ?_ ?_
    · intro m a _ hm hI
      obtain ⟨i,rfl,hi⟩:=h.val hh a (List.mem_of_getElem? hm)
      obtain ⟨e,he⟩:=AH (l:=r.entries) (k:=i) (by rw [h.len];exact hi)
      obtain ⟨s',hs'⟩:=AH (l:=L) (k:=i) hi
      have hw:=h.words i s' e hs' he
      rw [Cf,he,AC,ML,AC]
      by_cases hew:e.words=ws
      · rw [decide_eq_true hew,if_t]
        rw [hew] at hw
        have:=Lt h.pk hl (h.st i s' hs') hs hw p1
        subst this
        exact .inr ⟨_,rfl,i,hs',rfl⟩
      · rw [decide_eq_false hew,if_f]
        refine .inl ⟨(),rfl,fun j i' hj hi'=>?_⟩
        by_cases e1:j=m
        · subst e1
          rw [hm] at hi'
          have e2:i=i':=by have:=Option.some.inj hi';omega
          subst e2
          intro hL
          rw [hL] at hs'
          obtain rfl:=Option.some.inj hs'
          rw [p1] at hw
          exact hew (congrArg Prod.fst (Option.some.inj hw)).symm
        · exact hI j i' (by omega) hi'
    · intro _ hI
      refine ⟨_,rfl,.inr ⟨fun i hL=>?_,rfl⟩⟩
      obtain ⟨e,he⟩:=AH (l:=r.entries) (k:=i) (by rw [h.len];exact AJ hL)
      have hw:=h.words i s e hL he
      rw [p1] at hw
      have hwe:ws=e.words:=congrArg Prod.fst (Option.some.inj hw)
      obtain ⟨h',t1,t2⟩:=h.tab i e he
      rw [← hwe,hhe] at t1
      obtain rfl:=Option.some.inj t1
      obtain ⟨j,hj⟩:=List.getElem?_of_mem t2
      exact hI j i (AJ hj) hj hL
    · rintro q ⟨i,hi,rfl⟩
      exact ⟨_,rfl,.inl ⟨i,hi,rfl⟩⟩
  obtain ⟨res,k1,k2⟩:=key
  rcases k2 with ⟨i,hi,rfl⟩|⟨hn,rfl⟩
  · exact .inl ⟨i,hi,k1⟩
  · exact .inr ⟨hn,k1⟩
theorem IN {vars:List Int} (hl:vars.length≤64) {r:Reg} {L:List (List Int)} (h:RegI vars r L) {s:List Int} (hs:StateOk vars s) (hL:L.length < 65536) :
    (∃ i:Nat,L[i]?=some s∧AW r s=some ((i:Int),false,⟨0⟩,r))∨((∀ i:Nat,L[i]?≠some s)∧∃ r',AW r s=some ((L.length:Int),true,⟨0⟩,r')∧RegI vars r' (L ++ [s])∧links r'=links r ++ [⟨-1,-1,0⟩]):=by
  obtain ⟨ws,hh,p1,p2,hf⟩:=Kn hl h hs
  unfold AW
  have hlen:=h.len
  rcases hf with ⟨i,hi,hf⟩|⟨hno,hf⟩
  · refine .inl ⟨i,hi,?_⟩
    rw [hf,AC,if_neg (by simp),if_pos (by dsimp only;omega)]
  · refine .inr ⟨hno,?_⟩
    have hfew:=h.few hh
    rw [hf,AC,if_neg (by simp),if_neg (by dsimp only;omega),if_neg (by omega)]
    dsimp only
    rw [DJ (by simp;omega) (by simp;omega),AC,DJ (by simp;omega) (by simp;omega),AC,hlen]
    have hget:∀ k,mget ([]:List Int) (mput r.table.l hh (mget ([]:List Int) r.table.l hh ++ [(L.length:Int)])) k=if hh=k then mget ([]:List Int) r.table.l hh ++ [(L.length:Int)] else mget ([]:List Int) r.table.l k:=fun k=>IM _ _ _ _ _
    refine ⟨_,rfl,⟨h.pk,by simp [hlen],?_,?_,?_,?_,?_,?_⟩,by simp [links]⟩
    · intro i s' hi
      rcases BZ hi with hi|⟨_,rfl⟩
      · exact h.st i s' hi
      · exact hs
    · intro i s' e hi he
      rcases BZ hi with hi|⟨hi,rfl⟩
      · rcases BZ he with he|⟨he,_⟩
        · exact h.words i s' e hi he
        · have:=AJ hi;omega
      · rcases BZ he with he|⟨he,rfl⟩
        · have:=AJ he;omega
        · exact p1
    · intro i j s' hi hj
      rcases BZ hi with hi2|⟨hi2,hs2⟩
      · rcases BZ hj with hj2|⟨hj2,hs2⟩
        · exact h.nodup i j s' hi2 hj2
        · exact absurd (hs2 ▸ hi2) (hno i)
      · rcases BZ hj with hj2|⟨hj2,_⟩
        · exact absurd (hs2 ▸ hj2) (hno j)
        · omega
    · intro i e he
      rcases BZ he with he|⟨hi,rfl⟩
      · obtain ⟨k,k1,k2⟩:=h.tab i e he
        refine ⟨k,k1,?_⟩
        dsimp only
        rw [hget]
        by_cases e1:hh=k
        · subst e1;rw [if_pos rfl];exact List.mem_append_left _ k2
        · rw [if_neg e1];exact k2
      · refine ⟨hh,p2,?_⟩
        dsimp only
        rw [hget,if_pos rfl,hi,hlen]
        simp
    · intro k a ha
      dsimp only at ha
      rw [hget] at ha
      simp only [List.length_append,List.length_singleton]
      by_cases e1:hh=k
      · rw [if_pos e1] at ha
        rcases List.mem_append.1 ha with ha|ha
        · obtain ⟨i,h1,h2⟩:=h.val hh a ha;exact ⟨i,h1,by omega⟩
        · exact ⟨L.length,by simpa using ha,by omega⟩
      · rw [if_neg e1] at ha
        obtain ⟨i,h1,h2⟩:=h.val k a ha;exact ⟨i,h1,by omega⟩
    · intro k
      dsimp only
      rw [hget]
      have:=h.few k
      simp only [List.length_append,List.length_singleton]
      by_cases e1:hh=k
      · rw [if_pos e1];simp;omega
      · rw [if_neg e1];omega
theorem FN {vars:List Int} {r:Reg} {L:List (List Int)} (h:RegI vars r L) {i:Nat} (hi:i < L.length):AX r (i:Int)=some true:=by
  unfold AX
  rw [if_pos (by omega),if_pos (by rw [h.len];omega)]
  rfl
theorem FQ {vars:List Int} (hl:vars.length≤64) {r:Reg} {L:List (List Int)} (h:RegI vars r L) {i:Nat} {s:List Int} (hi:L[i]?=some s):Bb r (i:Int)=some (s,⟨0⟩):=by
  obtain ⟨e,he⟩:=AH (l:=r.entries) (k:=i) (by rw [h.len];exact AJ hi)
  have hs:=h.st i s hi
  obtain ⟨⟨ws,er⟩,p1,p2,p3,p4⟩:=Hz h.pk hl hs
  have hw:=h.words i s e hi he
  rw [p1] at hw
  have hwe:ws=e.words:=congrArg Prod.fst (Option.some.inj hw)
  dsimp only at p3 p4
  rw [hwe] at p3 p4
  unfold Bb
  rw [FN h (AJ hi),AC,if_t,Cf,he,AC,Hk h.pk hl hs p3 p4,AC]
theorem Ko {vars:List Int} {r:Reg} {L:List (List Int)} (h:RegI vars r L) {i:Nat} (hi:i < L.length) {p o c:Int} (hp:p=-1∨∃ j:Nat,p=(j:Int)∧j < L.length):∃ r',Bc r (i:Int) p o c=some (⟨0⟩,r')∧RegI vars r' L∧links r'=(links r).set i ⟨p,o,c⟩:=by
  obtain ⟨e,he⟩:=AH (l:=r.entries) (k:=i) (by rw [h.len];exact hi)
  unfold Bc
  have hcond:(bnd (AX r (i:Int)) fun q10=>if q10=true then if p≠(-1) then (bnd (AX r p) fun q20=>if q20=true then some false else some true) else (some false) else some true:Option Bool)=some false:=by
    rw [FN h hi,AC,if_t]
    rcases hp with rfl|⟨j,rfl,hj⟩
    · rfl
    · rw [if_pos (by omega),FN h hj];rfl
  rw [hcond,AC,if_f,Cf,he,AC]
  have hge:∀ (j:Nat) x,(r.entries.set ((i:Int)).toNat ({ e with link:=(⟨p,o,c⟩:RLk) }:REn))[j]?=some x→∃ y,r.entries[j]?=some y∧x.words=y.words:=by
    intro j x hx
    rw [Int.toNat_natCast] at hx
    by_cases e1:i=j
    · subst e1
      rw [List.getElem?_set_self (AJ he)] at hx
      obtain rfl:=Option.some.inj hx
      exact ⟨e,he,rfl⟩
    · rw [List.getElem?_set_ne e1] at hx
      exact ⟨x,hx,rfl⟩
  refine ⟨_,rfl,⟨h.pk,by simp [h.len],h.st,?_,h.nodup,?_,h.val,h.few⟩,?_⟩
  · intro j s x hj hx
    obtain ⟨y,hy,hxy⟩:=hge j x hx
    rw [hxy];exact h.words j s y hj hy
  · intro j x hx
    obtain ⟨y,hy,hxy⟩:=hge j x hx
    rw [hxy];exact h.tab j y hy
  · simp [links,List.map_set]
theorem MM {xs:List Int} (hl:xs.length≤1000000):Bl xs=some xs.reverse:=by
  unfold Bl
  rw [CN (by unfold inI64;omega),AC]
  refine LU (fun s=>∃ i:Nat,s.2.1=(i:Int)∧s.2.1 + s.2.2=(xs.length:Int) - 1∧i≤xs.length∧s.1.length=xs.length∧∀ k:Nat,k < xs.length→s.1[k]?=if k < i∨xs.length - 1 - k < i then xs[xs.length - 1 - k]? else xs[k]?) (fun s=>s.1=xs.reverse) (fun s=>(s.2.2 - s.2.1 + 1).toNat) ⟨0,rfl,by dsimp only;omega,by omega,rfl,fun k hk=>by rw [if_neg (by omega)]⟩ ?_ (fun s hs=>by rw [fin_d,hs])
  rintro ⟨ys,i',j⟩ ⟨i,hi,hij,hil,hlen,hg⟩
  dsimp only at hi hij hlen hg ⊢
  subst hi
  by_cases hlt:(i:Int) < j
  · obtain ⟨jn,rfl⟩:∃ jn:Nat,j=(jn:Int):=⟨j.toNat,by omega⟩
    obtain ⟨a,ha⟩:=AH (l:=ys) (k:=jn) (by omega)
    obtain ⟨b,hb⟩:=AH (l:=ys) (k:=i) (by omega)
    rw [if_pos hlt,Cf,ha,AC,Cf,hb,AC,AC,Int.toNat_natCast,Int.toNat_natCast,Cf,List.getElem?_set_ne (by omega),ha,AC,CN (by unfold inI64;omega),AC,CN (by unfold inI64;omega),AC]
    refine .inl ⟨_,rfl,⟨i + 1,by dsimp only;omega,by dsimp only;omega,by omega,by simp [hlen],fun k hk=>?_⟩,by dsimp only;omega⟩
    dsimp only
    have hga:=hg jn (by omega)
    rw [ha,if_neg (by omega)] at hga
    have hgb:=hg i (by omega)
    rw [hb,if_neg (by omega)] at hgb
    by_cases e1:k=jn
    · subst e1
      rw [List.getElem?_set_self (by simp;omega),if_pos (by omega),hgb]
      congr 1;omega
    · rw [List.getElem?_set_ne (by omega)]
      by_cases e2:k=i
      · subst e2
        rw [List.getElem?_set_self (by omega),if_pos (by omega),hga]
        congr 1;omega
      · rw [List.getElem?_set_ne (by omega),hg k hk]
        by_cases e3:k < i∨xs.length - 1 - k < i
        · rw [if_pos e3,if_pos (by omega)]
        · rw [if_neg e3,if_neg (by omega)]
  · rw [if_neg hlt]
    refine .inr ⟨_,rfl,?_⟩
    dsimp only
    apply List.ext_getElem?
    intro k
    rcases Nat.lt_or_ge k xs.length with hk|hk
    · rw [List.getElem?_reverse hk,hg k hk]
      by_cases e3:k < i∨xs.length - 1 - k < i
      · rw [if_pos e3]
      · rw [if_neg e3];congr 1;omega
    · rw [List.getElem?_eq_none (by omega),List.getElem?_eq_none (by simp;omega)]
inductive PathL (lk:List RLk):Nat→List Int→Prop
  | root {i:Nat} {k:RLk}:lk[i]?=some k→k.parent < 0→PathL lk i []
  | step {i j:Nat} {k:RLk} {p:List Int}:lk[i]?=some k→k.parent=(j:Int)→PathL lk j p→PathL lk i (p ++ [k.op])
theorem LZ {vars:List Int} {r:Reg} {L:List (List Int)} (h:RegI vars r L) (hL:L.length≤65536) {i:Nat} {p:List Int} (hp:PathL (links r) i p) (hl:p.length≤L.length):Bx r (i:Int)=some (p,⟨0⟩):=by
  have hget:∀ {i:Nat} {k:RLk},(links r)[i]?=some k→∃ e:REn,r.entries[i]?=some e∧e.link=k:=by
    intro i k hk
    unfold links at hk
    rw [List.getElem?_map] at hk
    cases he:r.entries[i]? with
    | none=>rw [he] at hk;cases hk
    | some e=>rw [he] at hk;exact ⟨e,rfl,by simpa using hk⟩
  have hil:i < L.length:=by
    have:∃ k,(links r)[i]?=some k:=by cases hp with|root h1 _=>exact ⟨_,h1⟩|step h1 _ _=>exact ⟨_,h1⟩
    obtain ⟨k,hk⟩:=this
    obtain ⟨e,he,_⟩:=hget hk
    rw [← h.len];exact AJ he
  unfold Bx
  rw [FN h hil,AC,if_t]
  have key:∀ {i p},PathL (links r) i p→∀ acc:List Int,acc.length + p.length≤L.length→lop (ρ:=(List Int)×Err) (fun (s14:Int×(List Int))=>bnd (atI r.entries s14.1) fun a48=>if a48.link.parent < 0 then (bnd (Bl s14.2) fun q74=>some (.ret (q74,(⟨0⟩:Err)))) else (bnd (appI 8 s14.2 [a48.link.op]) fun u89=>if (r.entries.length:Int) < (u89.length:Int) then (some (.ret (([]:List Int),(⟨21⟩:Err)))) else (some (.next (a48.link.parent,u89))))) ((i:Int),acc)=some (.ret (p ++ acc.reverse,⟨0⟩)):=by
    intro i p hp
    induction hp with
    | root h1 h2 =>
      intro acc ha
      obtain ⟨e,he,rfl⟩:=hget h1
      rw [Ft]
      dsimp only
      rw [Cf,he,AC,if_pos h2,MM (by omega),AC]
      rfl
    | @step i j k p h1 h2 _ ih =>
      intro acc ha
      obtain ⟨e,he,rfl⟩:=hget h1
      simp at ha
      rw [Ft]
      dsimp only
      rw [Cf,he,AC,if_neg (by omega),DJ (by simp;omega) (by simp;omega),AC,if_neg (by rw [h.len];simp;omega),h2]
      dsimp only
      rw [ih (acc ++ [e.link.op]) (by simp;omega)]
      simp
  rw [key hp [] (by simpa using hl),AC]
  simp [fin]
end
section
open Go Go.RowKit
inductive Rch (t:Tsk):List Int→Prop
  | init:Rch t t.init
  | step {s:List Int} {k:Nat} {o:Opr}:Rch t s→t.ops[k]?=some o→holdsB o.pre s=true→Rch t (succ o s)
theorem Rch.ok {t:Tsk} (h:TaskOk t) {s:List Int} (hr:Rch t s):StateOk t.vars s:=by
  induction hr with
  | init=>exact h.2.2.2.1
  | step _ ho _ ih=>exact Fm h ih ho
theorem PlanR.snoc {t:Tsk} {s p s':List Int} {C:Int} (h:PlanR t s p s' C) {k:Nat} {o:Opr} (ho:t.ops[k]?=some o) (hp:holdsB o.pre s'=true):PlanR t s (p ++ [(k:Int)]) (succ o s') (C + o.cost):=by
  induction h with
  | nil=>have:=PlanR.cons ho hp (PlanR.nil (t:=t) (s:=succ o _));simpa [Int.add_comm] using this
  | cons ho' hp' _ ih=>have:=PlanR.cons ho' hp' (ih hp);rw [Int.add_assoc];exact this
end
section
open Go Go.RowKit
attribute [local irreducible] ewp owp hwp hwq hws Ev Evg Fn retPost loud loudS Res1
noncomputable def DH (x0:Tsk) (x1:Rsl) (x2:Int):Option Bool :=
  if 1125899906842624≤x2 then (bnd (if x1.verdict=2 then (if (x1.plan.length:Int)=0 then (if x1.cost=0 then (some true) else (some false)) else (some false)) else (some false):Option Bool) fun y40=>some y40) else (bnd (CZ x0 x0.init x1.plan) fun q53=>bnd (if x1.verdict=1 then (if q53.2=true then (if q53.1=x2 then (if x1.cost=x2 then (some true) else (some false)) else (some false)) else (some false)) else (some false):Option Bool) fun y65=>some y65)
theorem IU {w:World} {A:Nat→Prop} (hA:∀ k,A k→k < w.heap.size) {vx0:Value} {x0:Tsk} (hx0:Vb w A vx0 x0) {vx1:Value} {x1:Rsl} (hx1:Vb w A vx1 x1) {x2:Int} (rx2:inI64 x2) {r:Bool} (hm:DH x0 x1 x2=some r) :
    Fn Try.prog 21 [vx0,vx1,(.int .i64 x2)] w fun v w'=>Ext w w'∧Vb w' (upA A w w') v r:=by
 obtain ⟨O,hB,hA0⟩:=enter hA
 replace hx0:=hx0.mono hA0
 obtain ⟨cs4,rfl,v5,v6,v7,v8,rfl,h9,h12,h15,h18⟩:=hx0
 obtain ⟨A10,c11,rfl⟩:=h9.form
 obtain ⟨A13,c14,rfl⟩:=h12.form
 obtain ⟨A16,c17,rfl⟩:=h15.form
 obtain ⟨A19,c20,rfl⟩:=h18.form
 replace hx1:=hx1.mono hA0
 obtain ⟨cs21,rfl,v22,rfl,h23,r26,r27,r28⟩:=hx1
 obtain ⟨A24,c25,rfl⟩:=h23.form
 refine AK Try.func21 rfl Try.ntmps21 rfl ?_
 unfold DH at hm
 refine Ah (Ae (l_box 2 O rfl rfl fun g29 w30 O31 S32 h33=>?_))
 replace h33:Lc 2 w30 O31 g29 26 [(.slice A10 x0.vars.length c11),(.slice A13 x0.init.length c14),(.slice A16 x0.goal.length c17),(.slice A19 x0.ops.length c20)]:=h33
 refine l_box 3 O31 rfl rfl fun g34 w35 O36 S37 h38=>?_
 replace h38:Lc 3 w35 O36 g34 30 [(.int .i64 x1.verdict),(.slice A24 x1.plan.length c25),(.int .i64 x1.cost),(.int .i64 x1.expanded)]:=h38
 refine o_as rfl rfl (o_z ?_)
 refine Ah (Ah (Ae (o_mv rfl rfl (o_geS rfl rfl rfl (fun c39=>?_) fun c39=>?_))))
 ·
  replace hm:=ip hm c39
  refine o_z ?_
  refine Ar rfl (Ah ?_)
  obtain ⟨y40,hy41,hm⟩:=bs hm
  refine AL (fun l' w'=>∃ (x43:Unit) (O':Lab),subs l' [(6,(.bool y40))]∧Bs w A w' O') ?_ ?_
  ·
   refine Ae (o_fa rfl rfl (o_ld (hc:=Blk.cell (i:=0) (h38.1) rfl) rfl rfl ?_))
   refine o_eeS rfl rfl rfl (fun c44=>?_) fun c44=>?_
   ·
    replace hy41:=ip hy41 c44
    refine o_mv rfl rfl (AE rfl rfl (o_fa rfl rfl (AE rfl rfl (o_ld (hc:=Blk.cell (i:=1) (h38.1) rfl) rfl rfl ?_))))
    refine AE rfl rfl (o_ln rfl rfl ?_)
    replace h23:=(h23.st S32).st S37
    have l46:x1.plan.length≤9223372036854775807:=Nat.le_trans h23.len.2.1 h23.len.2.2
    have r45:inI64 (x1.plan.length:Int):=rngNat l46
    refine AE rfl rfl (o_eeS rfl rfl rfl (fun c47=>?_) fun c47=>?_)
    ·
     replace hy41:=ip hy41 c47
     refine o_pt rfl rfl rfl (o_mv rfl rfl (AE rfl rfl (o_fa rfl rfl (AE rfl rfl (o_ld (hc:=Blk.cell (i:=2) (h38.1) rfl) rfl rfl ?_)))))
     refine AE rfl rfl (o_eeS rfl rfl rfl (fun c48=>?_) fun c48=>?_)
     ·
      replace hy41:=ip hy41 c48
      refine o_pt rfl rfl rfl (o_as rfl rfl (o_z ?_))
      obtain rfl:=sm hy41
      replace hB:=(hB.st S32).st S37
      exact ⟨(),_,⟨rfl,trivial⟩,hB⟩
     ·
      replace hy41:=im hy41 c48
      refine o_pt rfl rfl rfl (o_as rfl rfl (o_z ?_))
      obtain rfl:=sm hy41
      replace hB:=(hB.st S32).st S37
      exact ⟨(),_,⟨rfl,trivial⟩,hB⟩
    ·
     replace hy41:=im hy41 c47
     refine o_pt rfl rfl rfl (o_mv rfl rfl (AD rfl rfl rfl rfl (AD rfl rfl rfl rfl (AD rfl rfl rfl rfl (o_pf rfl rfl rfl (o_as rfl rfl (o_z ?_)))))))
     obtain rfl:=sm hy41
     replace hB:=(hB.st S32).st S37
     exact ⟨(),_,⟨rfl,trivial⟩,hB⟩
   ·
    replace hy41:=im hy41 c44
    refine o_mv rfl rfl (AD rfl rfl rfl rfl (AD rfl rfl rfl rfl (AD rfl rfl rfl rfl (AD rfl rfl rfl rfl (o_pf rfl rfl rfl (o_mv rfl rfl (AD rfl rfl rfl rfl (AD rfl rfl rfl rfl (AD rfl rfl rfl rfl (o_pf rfl rfl rfl (o_as rfl rfl (o_z ?_))))))))))))
    obtain rfl:=sm hy41
    replace hB:=(hB.st S32).st S37
    exact ⟨(),_,⟨rfl,trivial⟩,hB⟩
  replace hB:=(hB.st S32).st S37
  rintro l49 w50 ⟨x43,O51,hs52,hB⟩
  refine AP _ hs52 ?_
  refine Au ?_
  obtain rfl:=sm hm
  exact ret1v rfl (AG rfl) ⟨hB.ext,vBool⟩
 ·
  replace hm:=im hm c39
  refine o_z ?_
  refine Aj rfl (Am (Ah (Ae ?_)))
  replace h33:=h33.st S37
  refine o_la (hl:=rfl) (hc:=(h33.1).cellsAt) rfl rfl ?_
  refine o_fa rfl rfl (o_ld (hc:=Blk.cell (i:=1) (h33.1) rfl) rfl rfl ?_)
  refine o_fa rfl rfl (o_ld (hc:=Blk.cell (i:=1) (h38.1) rfl) rfl rfl ?_)
  obtain ⟨q53,e54,hm⟩:=bs hm
  replace h9:=(h9.st S32).st S37
  replace h12:=(h12.st S32).st S37
  replace h15:=(h15.st S32).st S37
  replace h18:=(h18.st S32).st S37
  replace h23:=(h23.st S32).st S37
  refine BL (O:=O36) (A:=All w35) (R:=fun w' F v=>T2 w' F v q53) (HI (fun _ h=>h) (Vb.mono (F:=Fr 0 w35 O36) (Vb.ofAgg (cs:=[(.slice A10 x0.vars.length c11),(.slice A13 x0.init.length c14),(.slice A16 x0.goal.length c17),(.slice A19 x0.ops.length c20)]) (x:=x0) rfl ⟨_,_,_,_,rfl,h9,h12,h15,h18⟩) Fr.lt) (Vb.mono (F:=Fr 0 w35 O36) h12 Fr.lt) (Vb.mono (F:=Fr 0 w35 O36) h23 Fr.lt) e54) rfl rfl fun v59 w55 O56 S57 h58=>?_
  obtain ⟨v60,v61,rfl,h62,h63⟩:=h58
  obtain ⟨rfl,r64⟩:=h62.int
  obtain rfl:=h63.bool
  refine o_mv rfl rfl (o_ex rfl rfl rfl (o_ex rfl rfl rfl (o_as rfl rfl (o_as rfl rfl (o_z ?_)))))
  refine Ah ?_
  obtain ⟨y65,hy66,hm⟩:=bs hm
  refine AL (fun l' w'=>∃ (x68:Unit) (O':Lab),subs l' [(6,(.bool y65))]∧Bs w A w' O') ?_ ?_
  ·
   refine Ae (o_fa rfl rfl ?_)
   replace h38:=h38.st S57
   refine o_ld (hc:=Blk.cell (i:=0) (h38.1) rfl) rfl rfl ?_
   refine o_eeS rfl rfl rfl (fun c69=>?_) fun c69=>?_
   ·
    replace hy66:=ip hy66 c69
    refine o_mv rfl rfl (AE rfl rfl (o_mv rfl rfl (o_pt rfl rfl rfl (o_mv rfl rfl ?_))))
    rcases Bool.eq_false_or_eq_true q53.2 with c70|c70
    ·
     try simp only [c70]
     replace hy66:=ip hy66 c70
     refine AE rfl rfl (o_mv rfl rfl (AE rfl rfl (o_mv rfl rfl (AE rfl rfl (o_eeS rfl rfl rfl (fun c71=>?_) fun c71=>?_)))))
     ·
      replace hy66:=ip hy66 c71
      refine o_pt rfl rfl rfl (o_mv rfl rfl (AE rfl rfl (o_fa rfl rfl (AE rfl rfl (o_ld (hc:=Blk.cell (i:=2) (h38.1) rfl) rfl rfl ?_)))))
      refine AE rfl rfl (o_mv rfl rfl (AE rfl rfl (o_eeS rfl rfl rfl (fun c72=>?_) fun c72=>?_)))
      ·
       replace hy66:=ip hy66 c72
       refine o_pt rfl rfl rfl (o_as rfl rfl (o_z ?_))
       obtain rfl:=sm hy66
       replace hB:=((hB.st S32).st S37).st S57
       exact ⟨(),_,⟨rfl,trivial⟩,hB⟩
      ·
       replace hy66:=im hy66 c72
       refine o_pt rfl rfl rfl (o_as rfl rfl (o_z ?_))
       obtain rfl:=sm hy66
       replace hB:=((hB.st S32).st S37).st S57
       exact ⟨(),_,⟨rfl,trivial⟩,hB⟩
     ·
      replace hy66:=im hy66 c71
      refine o_pt rfl rfl rfl (o_mv rfl rfl (AD rfl rfl rfl rfl (AD rfl rfl rfl rfl (AD rfl rfl rfl rfl (AD rfl rfl rfl rfl (o_pf rfl rfl rfl (o_as rfl rfl (o_z ?_))))))))
      obtain rfl:=sm hy66
      replace hB:=((hB.st S32).st S37).st S57
      exact ⟨(),_,⟨rfl,trivial⟩,hB⟩
    ·
     try simp only [c70]
     replace hy66:=im' hy66 c70
     refine AD rfl rfl rfl rfl (AD rfl rfl rfl rfl (AD rfl rfl rfl rfl (o_pf rfl rfl rfl (o_mv rfl rfl (AD rfl rfl rfl rfl (AD rfl rfl rfl rfl (AD rfl rfl rfl rfl (AD rfl rfl rfl rfl (o_pf rfl rfl rfl (o_as rfl rfl (o_z ?_)))))))))))
     obtain rfl:=sm hy66
     replace hB:=((hB.st S32).st S37).st S57
     exact ⟨(),_,⟨rfl,trivial⟩,hB⟩
   ·
    replace hy66:=im hy66 c69
    refine o_mv rfl rfl (AD rfl rfl rfl rfl (o_pf rfl rfl rfl (o_mv rfl rfl (AD rfl rfl rfl rfl (AD rfl rfl rfl rfl (AD rfl rfl rfl rfl (o_pf rfl rfl rfl (o_mv rfl rfl (AD rfl rfl rfl rfl (AD rfl rfl rfl rfl (AD rfl rfl rfl rfl (AD rfl rfl rfl rfl (o_pf rfl rfl rfl (o_as rfl rfl ?_))))))))))))))
    refine o_z ?_
    obtain rfl:=sm hy66
    replace hB:=((hB.st S32).st S37).st S57
    exact ⟨(),_,⟨rfl,trivial⟩,hB⟩
  replace hB:=((hB.st S32).st S37).st S57
  rintro l73 w74 ⟨x68,O75,hs76,hB⟩
  refine AP _ hs76 ?_
  refine Au ?_
  obtain rfl:=sm hm
  exact ret1v rfl (AG rfl) ⟨hB.ext,vBool⟩
noncomputable def Cs (x0:Tsk) (x1:List Int):Option (List Int) :=
  bnd (Cq x0.vars) fun q25=>bnd (mkI 8 (0:Int) (q25.length:Int)) fun u36=>bnd (rng (ρ:=(List Int)) (fun (k55:Nat) (a56:List Int) (s53:(List Int))=>bnd (s53[k55]?) fun a81=>bnd (Ci x0.goal a56) fun q93=>if q93=true then bnd ((s53.set k55 1125899906842624)[k55]?) fun a100=>some (.next ((s53.set k55 1125899906842624).set k55 0)) else some (.next (s53.set k55 1125899906842624))) q25 0 u36) fun res51=>fin res51 fun (s116:(List Int))=>bnd (Cx x0) fun q118=>bnd (lop (ρ:=(List Int)) (fun (s129:(List Int)×Bool)=>if s129.2=true then (bnd (rng (ρ:=Ctl ((List Int)×Bool) (List Int)) (fun (k153:Nat) (a154:Edg) (s151:(List Int)×Bool)=>bnd (atI x0.ops a154.op) fun a185=>bnd (atI x1 a154.op) fun a206=>bnd (bnd (atI s151.1 a154.dst) fun a222=>if a222 < 1125899906842624 then (bnd (atI s151.1 a154.dst) fun a235=>bnd (chkI (a235 + a206)) fun n247=>bnd (atI s151.1 a154.src) fun a250=>if n247 < a250 then (some true) else (some false)) else (some false):Option Bool) fun y218=>if y218=true then (bnd (atI s151.1 a154.dst) fun a268=>bnd (chkI (a268 + a206)) fun n280=>bnd (atI s151.1 a154.src) fun a283=>some (.next ((s151.1.set (a154.src:Int).toNat n280),true))) else (some (.next (s151.1,s151.2)))) q118 0 (s129.1,false)) fun res149=>fin res149 fun (s301:(List Int)×Bool)=>some (.next (s301.1,s301.2))) else (some (.brk (s129.1,s129.2)))) (s116,true)) fun res127=>fin res127 fun (s307:(List Int)×Bool)=>some s307.1
theorem Gg {w:World} {A:Nat→Prop} (hA:∀ k,A k→k < w.heap.size) {vx0:Value} {x0:Tsk} (hx0:Vb w A vx0 x0) {ax1:Addr} {nx1 cx1:Nat} {x1:List Int} (hx1:Vb w A (.slice (some ax1) nx1 cx1) x1) {r:(List Int)} (hm:Cs x0 x1=some r) :
    Fn Try.prog 16 [vx0,(.slice (some ax1) nx1 cx1)] w fun v w'=>Ext w w'∧Vb w' (upA A w w') v r:=by
 obtain ⟨O,hB,hA0⟩:=enter hA
 replace hx0:=hx0.mono hA0
 obtain ⟨cs3,rfl,v4,v5,v6,v7,rfl,h8,h11,h14,h17⟩:=hx0
 obtain ⟨A9,c10,rfl⟩:=h8.form
 obtain ⟨A12,c13,rfl⟩:=h11.form
 obtain ⟨A15,c16,rfl⟩:=h14.form
 obtain ⟨A18,c19,rfl⟩:=h17.form
 replace hx1:=hx1.mono hA0
 obtain rfl:nx1=x1.length:=hx1.len.1
 refine AK Try.func16 rfl Try.ntmps16 rfl ?_
 unfold Cs at hm
 refine Ah (Ae (l_box 2 O rfl rfl fun g20 w21 O22 S23 h24=>?_))
 replace h24:Lc 2 w21 O22 g20 26 [(.slice A9 x0.vars.length c10),(.slice A12 x0.init.length c13),(.slice A15 x0.goal.length c16),(.slice A18 x0.ops.length c19)]:=h24
 refine o_as rfl rfl (o_z ?_)
 refine Ah (Ae (o_fa rfl rfl (o_ld (hc:=Blk.cell (i:=0) (h24.1) rfl) rfl rfl ?_)))
 obtain ⟨q25,e26,hm⟩:=bs hm
 replace h8:=h8.st S23
 refine BY (O:=O22) (R:=fun w' F v=>Vb w' F v q25) (GJ Fr.lt h8 e26) rfl rfl fun v31 w27 O28 S29 h30=>?_
 obtain ⟨A32,c33,rfl⟩:=h30.form
 refine o_as rfl rfl (o_z ?_)
 refine Ah (Ae (o_mv rfl rfl (o_ln rfl rfl ?_)))
 have l35:q25.length≤9223372036854775807:=Nat.le_trans h30.len.2.1 h30.len.2.2
 have r34:inI64 (q25.length:Int):=rngNat l35
 obtain ⟨u36,e37,hm⟩:=bs hm
 obtain ⟨m38,e39,e40,e41,e42⟩:=Gr e37
 refine Ib 3 (by decide) O28 (z0:=(0:Int)) rfl rfl rfl rfl rfl e39 (vInt (show inI64 0 from by decide)) e40 e41 rfl fun g43 w44 O45 S46 h47=>?_
 rw [← e42] at h47 ⊢
 refine o_as rfl rfl (o_z ?_)
 refine Ah (Ah (Ae (o_mv rfl rfl (o_ln rfl rfl ?_))))
 replace h30:=h30.st S46
 have l50:q25.length≤9223372036854775807:=Nat.le_trans h30.len.2.1 h30.len.2.2
 have r49:inI64 (q25.length:Int):=rngNat l50
 refine o_mv rfl rfl (o_z ?_)
 obtain ⟨res51,hL52,hm⟩:=bs hm
 refine AL (aft res51 (fun (s53:(List Int)) (x54:Unit)=>[(1,(.slice (some ax1) x1.length cx1)),(2,(.pointer (some ⟨g20,0,none⟩))),(6,(.slice (some ⟨g43,0,none⟩) u36.length m38))]) (fun s53 x54 w'=>∃ O':Lab,Bs w A w' O'∧Vb w' (Fr 0 w' O') (.slice (some ax1) x1.length cx1) x1∧Lc 2 w' O' g20 26 [(.slice A9 x0.vars.length c10),(.slice A12 x0.init.length c13),(.slice A15 x0.goal.length c16),(.slice A18 x0.ops.length c19)]∧Vb w' (Fr 0 w' O') (.slice A9 x0.vars.length c10) x0.vars∧Vb w' (Fr 0 w' O') (.slice A12 x0.init.length c13) x0.init∧Vb w' (Fr 0 w' O') (.slice A15 x0.goal.length c16) x0.goal∧Vb w' (Fr 0 w' O') (.slice A18 x0.ops.length c19) x0.ops∧Rw 3 w' O' 3 (.slice (some ⟨g43,0,none⟩) u36.length m38) s53)) ?_ ?_
 ·
  refine Al ?_
  replace hB:=((hB.st S23).st S29).st S46
  replace hx1:=((hx1.st S23).st S29).st S46
  replace h8:=(h8.st S29).st S46
  replace h11:=((h11.st S23).st S29).st S46
  replace h14:=((h14.st S23).st S29).st S46
  replace h17:=((h17.st S23).st S29).st S46
  replace h24:=(h24.st S29).st S46
  refine BM (σ:=(List Int)) (X:=Unit) (q25.length) hL52 rfl l50 (fun (s53:(List Int)) (x54:Unit)=>[(1,(.slice (some ax1) x1.length cx1)),(2,(.pointer (some ⟨g20,0,none⟩))),(6,(.slice (some ⟨g43,0,none⟩) u36.length m38)),(20,(.slice A32 q25.length c33))]) _ (fun s53 x54 w'=>∃ O':Lab,Bs w A w' O'∧Vb w' (Fr 0 w' O') (.slice (some ax1) x1.length cx1) x1∧Lc 2 w' O' g20 26 [(.slice A9 x0.vars.length c10),(.slice A12 x0.init.length c13),(.slice A15 x0.goal.length c16),(.slice A18 x0.ops.length c19)]∧Vb w' (Fr 0 w' O') (.slice A9 x0.vars.length c10) x0.vars∧Vb w' (Fr 0 w' O') (.slice A12 x0.init.length c13) x0.init∧Vb w' (Fr 0 w' O') (.slice A15 x0.goal.length c16) x0.goal∧Vb w' (Fr 0 w' O') (.slice A18 x0.ops.length c19) x0.ops∧Rw 3 w' O' 3 (.slice (some ⟨g43,0,none⟩) u36.length m38) s53∧Vb w' (Fr 0 w' O') (.slice A32 q25.length c33) q25) _ () ⟨O45,hB,hx1,h24,h8,h11,h14,h17,h47,h30⟩ ⟨rfl,rfl,rfl,rfl,rfl,rfl,trivial⟩ (fun _ _=>⟨rfl,rfl⟩) (fun _ _=>⟨rfl,rfl,rfl,trivial⟩) (fun _ _ _ ⟨O',hB,hx1,h24,h8,h11,h14,h17,h68,h30⟩=>⟨O',hB,hx1,h24,h8,h11,h14,h17,h68⟩) ⟨rfl,rfl,rfl⟩ ⟨rfl,rfl⟩ ?_
  rintro k55 a56 s53 x54 w57 cc59 hx60 ⟨O58,hB,hx1,h24,h8,h11,h14,h17,h68,h30⟩ hf61 hret62 hbrk63
  have rk55:inI64 (k55:Int):=rngK hx60 l50
  refine Ah (Ae (o_mv rfl rfl ?_))
  obtain ⟨b70,o71,ce72,hA73,hl74,hd75,v77,rfl,h78⟩:=h30.elem' hx60
  replace h78:=Vb.of_slice h78
  obtain ⟨A79,c80,rfl⟩:=h78.form
  refine o_iaE (hA:=hA73) (hj:=rfl) (hlt:=hl74) rfl rfl rfl ?_
  refine o_ld (hc:=cat0 hd75) rfl rfl ?_
  refine o_as rfl rfl (o_as rfl rfl (o_z ?_))
  refine Ah (Ae (o_mv rfl rfl (o_mv rfl rfl ?_)))
  obtain ⟨a81,e82,hf61⟩:=bs hf61
  obtain ⟨b83,o84,ce85,hA86,hl87,hd88,rfl,r90⟩:=h68.elem e82
  refine o_iaE (hA:=hA86) (hj:=rfl) (hlt:=hl87) rfl rfl rfl ?_
  refine Db rfl h68 (a:=1125899906842624) (vInt (show inI64 (1125899906842624) from by decide)) hA86 rfl rfl (AJ e82) fun w91 S92 h68=>?_
  refine o_z ?_
  refine Ah (Ae (o_fa rfl rfl ?_))
  replace h24:=h24.st S92
  refine o_ld (hc:=Blk.cell (i:=2) (h24.1) rfl) rfl rfl ?_
  refine o_mv rfl rfl ?_
  obtain ⟨q93,e94,hf61⟩:=bs hf61
  replace h14:=h14.st S92
  replace h78:=h78.st S92
  refine BL (O:=O58) (A:=All w91) (R:=fun w' F v=>Vb w' F v q93) (Ez (fun _ h=>h) (Vb.mono (F:=Fr 0 w91 O58) h14 Fr.lt) (Vb.mono (F:=Fr 0 w91 O58) h78 Fr.lt) e94) rfl rfl fun v99 w95 O96 S97 h98=>?_
  obtain rfl:=h98.bool
  cases q93
  case false =>
   replace hf61:=iF hf61
   refine o_z ?_
   refine Aj rfl (Am ?_)
   obtain rfl:=sm hf61
   refine (?_:Exists _)
   replace hB:=(hB.st S92).st S97
   replace hx1:=(hx1.st S92).st S97
   replace h8:=(h8.st S92).st S97
   replace h11:=(h11.st S92).st S97
   replace h14:=h14.st S97
   replace h17:=(h17.st S92).st S97
   replace h24:=h24.st S97
   replace h30:=(h30.st S92).st S97
   replace h68:=h68.st S97
   exact ⟨_,(),rfl,⟨rfl,rfl,rfl,rfl,rfl,rfl,trivial⟩,_,hB,hx1,h24,h8,h11,h14,h17,h68,h30⟩
  replace hf61:=iT hf61
  refine o_z ?_
  refine Ar rfl (Ae (o_mv rfl rfl (o_mv rfl rfl ?_)))
  obtain ⟨a100,e101,hf61⟩:=bs hf61
  replace h68:=h68.st S97
  obtain ⟨b102,o103,ce104,hA105,hl106,hd107,rfl,r109⟩:=h68.elem e101
  refine o_iaE (hA:=hA105) (hj:=rfl) (hlt:=hl106) rfl rfl rfl ?_
  refine Db rfl h68 (a:=0) (vInt (show inI64 (0) from by decide)) hA105 rfl rfl (AJ e101) fun w110 S111 h68=>?_
  refine o_z ?_
  obtain rfl:=sm hf61
  refine (?_:Exists _)
  replace hB:=((hB.st S92).st S97).st S111
  replace hx1:=((hx1.st S92).st S97).st S111
  replace h8:=((h8.st S92).st S97).st S111
  replace h11:=((h11.st S92).st S97).st S111
  replace h14:=(h14.st S97).st S111
  replace h17:=((h17.st S92).st S97).st S111
  replace h24:=(h24.st S97).st S111
  replace h30:=((h30.st S92).st S97).st S111
  exact ⟨_,(),rfl,⟨rfl,rfl,rfl,rfl,rfl,rfl,trivial⟩,_,hB,hx1,h24,h8,h11,h14,h17,h68,h30⟩
 replace hB:=((hB.st S23).st S29).st S46
 replace hx1:=((hx1.st S23).st S29).st S46
 replace h8:=(h8.st S29).st S46
 replace h11:=((h11.st S23).st S29).st S46
 replace h14:=((h14.st S23).st S29).st S46
 replace h17:=((h17.st S23).st S29).st S46
 replace h24:=(h24.st S29).st S46
 rintro l112 w113 ⟨s116,x117,rfl,hs115,O114,hB,hx1,h24,h8,h11,h14,h17,h68⟩
 replace hm:=AY hm
 refine AP _ hs115 ?_
 refine Ah (Ae (o_la (hl:=rfl) (hc:=(h24.1).cellsAt) rfl rfl ?_))
 obtain ⟨q118,e119,hm⟩:=bs hm
 refine BY (O:=O114) (R:=fun w' F v=>Vb w' F v q118) (Jm Fr.lt (Vb.ofAgg (cs:=[(.slice A9 x0.vars.length c10),(.slice A12 x0.init.length c13),(.slice A15 x0.goal.length c16),(.slice A18 x0.ops.length c19)]) (x:=x0) rfl ⟨_,_,_,_,rfl,h8,h11,h14,h17⟩) e119) rfl rfl fun v124 w120 O121 S122 h123=>?_
 obtain ⟨A125,c126,rfl⟩:=h123.form
 refine o_as rfl rfl (o_z ?_)
 refine Ah (Ah (Ae (o_as rfl rfl (o_z ?_))))
 obtain ⟨res127,hL128,hm⟩:=bs hm
 refine AL (aft res127 (fun (s129:(List Int)×Bool) (x130:Unit)=>[(6,(.slice (some ⟨g43,0,none⟩) u36.length m38))]) (fun s129 x130 w'=>∃ O':Lab,Bs w A w' O'∧Rw 3 w' O' 3 (.slice (some ⟨g43,0,none⟩) u36.length m38) s129.1)) ?_ ?_
 ·
  refine Al ?_
  replace hB:=hB.st S122
  replace hx1:=hx1.st S122
  replace h8:=h8.st S122
  replace h11:=h11.st S122
  replace h14:=h14.st S122
  replace h17:=h17.st S122
  replace h24:=h24.st S122
  replace h68:=h68.st S122
  refine DZ (σ:=(List Int)×Bool) (X:=Unit) hL128 (fun (s129:(List Int)×Bool) (x130:Unit)=>[(1,(.slice (some ax1) x1.length cx1)),(2,(.pointer (some ⟨g20,0,none⟩))),(6,(.slice (some ⟨g43,0,none⟩) u36.length m38)),(9,(.slice A125 q118.length c126)),(10,(.bool s129.2))]) _ (fun s129 x130 w'=>∃ O':Lab,Bs w A w' O'∧Vb w' (Fr 0 w' O') (.slice (some ax1) x1.length cx1) x1∧Lc 2 w' O' g20 26 [(.slice A9 x0.vars.length c10),(.slice A12 x0.init.length c13),(.slice A15 x0.goal.length c16),(.slice A18 x0.ops.length c19)]∧Vb w' (Fr 0 w' O') (.slice A9 x0.vars.length c10) x0.vars∧Vb w' (Fr 0 w' O') (.slice A12 x0.init.length c13) x0.init∧Vb w' (Fr 0 w' O') (.slice A15 x0.goal.length c16) x0.goal∧Vb w' (Fr 0 w' O') (.slice A18 x0.ops.length c19) x0.ops∧Rw 3 w' O' 3 (.slice (some ⟨g43,0,none⟩) u36.length m38) s129.1∧Vb w' (Fr 0 w' O') (.slice A125 q118.length c126) q118) _ () ⟨O121,hB,hx1,h24,h8,h11,h14,h17,h68,h123⟩ ⟨rfl,rfl,rfl,rfl,rfl,trivial⟩ ?_
  rintro s129 x130 w133 cc135 ⟨O134,hB,hx1,h24,h8,h11,h14,h17,h144,h123⟩ hf137 hret138 hbrk139
  refine Ah (Ah (Ae (o_mv rfl rfl (o_z ?_))))
  refine Cb rfl (fun c146=>?_) (fun c146=>?_)
  ·
   replace hf137:=ip hf137 c146
   refine Am (Al (Ah (Ae (o_as rfl rfl (o_z ?_)))))
   refine Ah (Ae (o_mv rfl rfl (o_ln rfl rfl ?_)))
   have l148:q118.length≤9223372036854775807:=Nat.le_trans h123.len.2.1 h123.len.2.2
   have r147:inI64 (q118.length:Int):=rngNat l148
   refine o_mv rfl rfl (o_z ?_)
   obtain ⟨res149,hL150,hf137⟩:=bs hf137
   refine AL (aft res149 (fun (s151:(List Int)×Bool) (x152:Unit)=>[(1,(.slice (some ax1) x1.length cx1)),(2,(.pointer (some ⟨g20,0,none⟩))),(6,(.slice (some ⟨g43,0,none⟩) u36.length m38)),(9,(.slice A125 q118.length c126)),(10,(.bool s151.2))]) (fun s151 x152 w'=>∃ O':Lab,Bs w A w' O'∧Vb w' (Fr 0 w' O') (.slice (some ax1) x1.length cx1) x1∧Lc 2 w' O' g20 26 [(.slice A9 x0.vars.length c10),(.slice A12 x0.init.length c13),(.slice A15 x0.goal.length c16),(.slice A18 x0.ops.length c19)]∧Vb w' (Fr 0 w' O') (.slice A9 x0.vars.length c10) x0.vars∧Vb w' (Fr 0 w' O') (.slice A12 x0.init.length c13) x0.init∧Vb w' (Fr 0 w' O') (.slice A15 x0.goal.length c16) x0.goal∧Vb w' (Fr 0 w' O') (.slice A18 x0.ops.length c19) x0.ops∧Rw 3 w' O' 3 (.slice (some ⟨g43,0,none⟩) u36.length m38) s151.1∧Vb w' (Fr 0 w' O') (.slice A125 q118.length c126) q118)) ?_ ?_
   ·
    refine Al (BM (σ:=(List Int)×Bool) (X:=Unit) (q118.length) hL150 rfl l148 (fun (s151:(List Int)×Bool) (x152:Unit)=>[(1,(.slice (some ax1) x1.length cx1)),(2,(.pointer (some ⟨g20,0,none⟩))),(6,(.slice (some ⟨g43,0,none⟩) u36.length m38)),(9,(.slice A125 q118.length c126)),(10,(.bool s151.2)),(41,(.slice A125 q118.length c126))]) _ (fun s151 x152 w'=>∃ O':Lab,Bs w A w' O'∧Vb w' (Fr 0 w' O') (.slice (some ax1) x1.length cx1) x1∧Lc 2 w' O' g20 26 [(.slice A9 x0.vars.length c10),(.slice A12 x0.init.length c13),(.slice A15 x0.goal.length c16),(.slice A18 x0.ops.length c19)]∧Vb w' (Fr 0 w' O') (.slice A9 x0.vars.length c10) x0.vars∧Vb w' (Fr 0 w' O') (.slice A12 x0.init.length c13) x0.init∧Vb w' (Fr 0 w' O') (.slice A15 x0.goal.length c16) x0.goal∧Vb w' (Fr 0 w' O') (.slice A18 x0.ops.length c19) x0.ops∧Rw 3 w' O' 3 (.slice (some ⟨g43,0,none⟩) u36.length m38) s151.1∧Vb w' (Fr 0 w' O') (.slice A125 q118.length c126) q118) _ () ⟨O134,hB,hx1,h24,h8,h11,h14,h17,h144,h123⟩ ⟨rfl,rfl,rfl,rfl,rfl,rfl,rfl,rfl,trivial⟩ (fun _ _=>⟨rfl,rfl⟩) (fun _ _=>⟨rfl,rfl,rfl,rfl,rfl,trivial⟩) (fun _ _ _ ⟨O',hB,hx1,h24,h8,h11,h14,h17,h166,h123⟩=>⟨O',hB,hx1,h24,h8,h11,h14,h17,h166,h123⟩) ⟨rfl,rfl,rfl⟩ ⟨rfl,rfl⟩ ?_)
    rintro k153 a154 s151 x152 w155 cc157 hx158 ⟨O156,hB,hx1,h24,h8,h11,h14,h17,h166,h123⟩ hf159 hret160 hbrk161
    have rk153:inI64 (k153:Int):=rngK hx158 l148
    refine Ah (Ae ?_)
    obtain ⟨b168,o169,ce170,hA171,hl172,hd173,rfl,r175,r176,r177⟩:=h123.elem' hx158
    refine o_iaE (hA:=hA171) (hj:=rfl) (hlt:=hl172) rfl rfl rfl ?_
    refine o_la (hl:=rfl) (hc:=hd173) rfl rfl ?_
    refine BR 4 O156 rfl fun g178 w179 O180 S181 h182=>?_
    refine AV h182 rfl rfl rfl (Nat.le_of_ble_eq_true rfl) (by first|exact allOne rfl|simp [Value.cells,Value.oneCell',AQ]) fun w183 S184 h182=>?_
    replace h182:Lc 4 w183 O180 g178 93 [(.int .i64 a154.src),(.int .i64 a154.op),(.int .i64 a154.dst)]:=h182
    refine o_z ?_
    refine Ah (Ae (o_fa rfl rfl ?_))
    replace h24:=(h24.st S181).st S184
    refine o_ld (hc:=Blk.cell (i:=3) (h24.1) rfl) rfl rfl ?_
    refine o_fa rfl rfl (o_ld (hc:=Blk.cell (i:=1) (h182.1) rfl) rfl rfl ?_)
    obtain ⟨a185,e186,hf159⟩:=bs hf159
    obtain ⟨p188,x187⟩:=AM e186
    replace h17:=(h17.st S181).st S184
    obtain ⟨b189,o190,ce191,hA192,hl193,hd194,v196,v197,rfl,h198,h201,r204,z205⟩:=h17.elem' x187
    obtain ⟨A199,c200,rfl⟩:=h198.form
    obtain ⟨A202,c203,rfl⟩:=h201.form
    refine o_iaE (hA:=hA192) (hj:=(Int.toNat_of_nonneg p188).symm) (hlt:=hl193) rfl rfl rfl ?_
    refine o_fa rfl rfl (o_ld (hc:=cat1 hd194) rfl rfl ?_)
    refine o_as rfl rfl (o_z ?_)
    refine Ah (Ah (Ae (o_mv rfl rfl (o_sq rfl rfl ?_))))
    refine o_z ?_
    refine Ar rfl (Ae (o_mv rfl rfl (o_fa rfl rfl (o_ld (hc:=Blk.cell (i:=1) (h182.1) rfl) rfl rfl ?_))))
    obtain ⟨a206,e207,hf159⟩:=bs hf159
    obtain ⟨p209,x208⟩:=AM e207
    replace hx1:=(hx1.st S181).st S184
    obtain ⟨b210,o211,ce212,hA213,hl214,hd215,rfl,r217⟩:=hx1.elem' x208
    refine o_iaE (hA:=hA213) (hj:=(Int.toNat_of_nonneg p209).symm) (hlt:=hl214) rfl rfl rfl ?_
    refine o_ld (hc:=cat0 hd215) rfl rfl ?_
    refine o_as rfl rfl (o_z ?_)
    refine Ah ?_
    obtain ⟨y218,hy219,hf159⟩:=bs hf159
    refine AL (fun l' w'=>∃ (x221:Unit) (O':Lab),subs l' [(1,(.slice (some ax1) x1.length cx1)),(2,(.pointer (some ⟨g20,0,none⟩))),(6,(.slice (some ⟨g43,0,none⟩) u36.length m38)),(9,(.slice A125 q118.length c126)),(10,(.bool s151.2)),(12,(.pointer (some ⟨g178,0,none⟩))),(13,(.int .i64 a206)),(41,(.slice A125 q118.length c126)),(42,(.int .i64 (q118.length:Int))),(43,(.int .i64 (k153:Int))),(81,(.bool y218))]∧Bs w A w' O'∧Vb w' (Fr 0 w' O') (.slice (some ax1) x1.length cx1) x1∧Lc 2 w' O' g20 26 [(.slice A9 x0.vars.length c10),(.slice A12 x0.init.length c13),(.slice A15 x0.goal.length c16),(.slice A18 x0.ops.length c19)]∧Vb w' (Fr 0 w' O') (.slice A9 x0.vars.length c10) x0.vars∧Vb w' (Fr 0 w' O') (.slice A12 x0.init.length c13) x0.init∧Vb w' (Fr 0 w' O') (.slice A15 x0.goal.length c16) x0.goal∧Vb w' (Fr 0 w' O') (.slice A18 x0.ops.length c19) x0.ops∧Rw 3 w' O' 3 (.slice (some ⟨g43,0,none⟩) u36.length m38) s151.1∧Vb w' (Fr 0 w' O') (.slice A125 q118.length c126) q118∧Lc 4 w' O' g178 93 [(.int .i64 a154.src),(.int .i64 a154.op),(.int .i64 a154.dst)]) ?_ ?_
    ·
     refine BE (·=w183) [(0,true),(1,true),(2,true),(3,true),(4,true),(5,true),(6,true),(7,true),(8,true),(9,true),(10,true),(11,true),(12,true),(13,true),(14,true),(15,true),(16,true),(17,true),(18,true),(19,true),(20,true)] (by kernel_rfl) rfl (by kernel_rfl) rfl ?_
     refine h_mv rfl rfl rfl (h_fa rfl rfl rfl (h_ldA (hc:=Blk.cell (i:=2) (h182.1) rfl) rfl rfl rfl ?_))
     obtain ⟨a222,e223,hy219⟩:=bs hy219
     obtain ⟨p225,x224⟩:=AM e223
     replace h166:=(h166.st S181).st S184
     obtain ⟨b226,o227,ce228,hA229,hl230,hd231,rfl,r233⟩:=h166.elem x224
     refine h_iaE (hA:=hA229) (hj:=(Int.toNat_of_nonneg p225).symm) (hlt:=hl230) rfl rfl rfl rfl ?_
     refine h_ldA (hc:=cat0 hd231) rfl rfl rfl ?_
     refine h_ltS rfl rfl rfl rfl (fun c234=>?_) fun c234=>?_
     ·
      replace hy219:=ip hy219 c234
      refine h_mv rfl rfl rfl (hwp_o rfl (AB rfl rfl (g_mv rfl rfl (hwp_o rfl (AB rfl rfl (g_fa rfl rfl (hwp_o rfl (AB rfl rfl (g_ldA (hc:=Blk.cell (i:=2) (h182.1) rfl) rfl rfl ?_)))))))))
      refine hwp_o rfl (AB rfl rfl ?_)
      obtain ⟨a235,e236,hy219⟩:=bs hy219
      obtain ⟨p238,x237⟩:=AM e236
      obtain ⟨b239,o240,ce241,hA242,hl243,hd244,rfl,r246⟩:=h166.elem x237
      refine g_iaE (hA:=hA242) (hj:=(Int.toNat_of_nonneg p238).symm) (hlt:=hl243) rfl rfl rfl ?_
      refine hwp_o rfl (AB rfl rfl (g_ldA (hc:=cat0 hd244) rfl rfl ?_))
      refine hwp_o rfl (AB rfl rfl (g_mv rfl rfl (hwp_o rfl (AB rfl rfl ?_))))
      obtain ⟨n247,e248,hy219⟩:=bs hy219
      have r249:=(Bj e248)
      refine g_adE (he:=e248) rfl rfl rfl ?_
      refine hwp_o rfl (AB rfl rfl (g_mv rfl rfl (hwp_o rfl (AB rfl rfl (g_fa rfl rfl (hwp_o rfl (AB rfl rfl (g_ldA (hc:=Blk.cell (i:=0) (h182.1) rfl) rfl rfl ?_))))))))
      refine hwp_o rfl (AB rfl rfl ?_)
      obtain ⟨a250,e251,hy219⟩:=bs hy219
      obtain ⟨p253,x252⟩:=AM e251
      obtain ⟨b254,o255,ce256,hA257,hl258,hd259,rfl,r261⟩:=h166.elem x252
      refine g_iaE (hA:=hA257) (hj:=(Int.toNat_of_nonneg p253).symm) (hlt:=hl258) rfl rfl rfl ?_
      refine hwp_o rfl (AB rfl rfl (g_ldA (hc:=cat0 hd259) rfl rfl ?_))
      refine hwp_o rfl (AB rfl rfl (AN (fun _ _=>BN rfl rfl) rfl (fun c262=>?_) (fun c262=>?_)))
      ·
       replace hy219:=ip hy219 c262
       refine h_pt rfl rfl rfl rfl (h_z ?_)
       obtain rfl:=sm hy219
       replace hB:=(hB.st S181).st S184
       replace h8:=(h8.st S181).st S184
       replace h11:=(h11.st S181).st S184
       replace h14:=(h14.st S181).st S184
       replace h123:=(h123.st S181).st S184
       exact ⟨(),_,⟨rfl,rfl,rfl,rfl,rfl,rfl,rfl,rfl,rfl,rfl,rfl,trivial⟩,hB,hx1,h24,h8,h11,h14,h17,h166,h123,h182⟩
      ·
       replace hy219:=im hy219 c262
       refine h_pt rfl rfl rfl rfl (h_z ?_)
       obtain rfl:=sm hy219
       replace hB:=(hB.st S181).st S184
       replace h8:=(h8.st S181).st S184
       replace h11:=(h11.st S181).st S184
       replace h14:=(h14.st S181).st S184
       replace h123:=(h123.st S181).st S184
       exact ⟨(),_,⟨rfl,rfl,rfl,rfl,rfl,rfl,rfl,rfl,rfl,rfl,rfl,trivial⟩,hB,hx1,h24,h8,h11,h14,h17,h166,h123,h182⟩
     ·
      replace hy219:=im hy219 c234
      refine h_mv rfl rfl rfl (h_no rfl rfl rfl rfl rfl (h_no rfl rfl rfl rfl rfl (h_no rfl rfl rfl rfl rfl (h_no rfl rfl rfl rfl rfl (h_no rfl rfl rfl rfl rfl (h_no rfl rfl rfl rfl rfl (h_no rfl rfl rfl rfl rfl (h_no rfl rfl rfl rfl rfl (h_no rfl rfl rfl rfl rfl (h_no rfl rfl rfl rfl rfl (h_no rfl rfl rfl rfl rfl (h_no rfl rfl rfl rfl rfl (h_no rfl rfl rfl rfl rfl (h_pf rfl rfl rfl rfl ?_))))))))))))))
      refine h_z ?_
      obtain rfl:=sm hy219
      replace hB:=(hB.st S181).st S184
      replace h8:=(h8.st S181).st S184
      replace h11:=(h11.st S181).st S184
      replace h14:=(h14.st S181).st S184
      replace h123:=(h123.st S181).st S184
      exact ⟨(),_,⟨rfl,rfl,rfl,rfl,rfl,rfl,rfl,rfl,rfl,rfl,rfl,trivial⟩,hB,hx1,h24,h8,h11,h14,h17,h166,h123,h182⟩
    replace hB:=(hB.st S181).st S184
    replace h8:=(h8.st S181).st S184
    replace h11:=(h11.st S181).st S184
    replace h14:=(h14.st S181).st S184
    replace h123:=(h123.st S181).st S184
    replace h166:=(h166.st S181).st S184
    rintro l263 w264 ⟨x221,O265,hs266,hB,hx1,h24,h8,h11,h14,h17,h166,h123,h182⟩
    refine AP _ hs266 ?_
    refine Cb rfl (fun c267=>?_) (fun c267=>?_)
    ·
     replace hf159:=ip hf159 c267
     refine Ah (BA [] O265 ?_)
     refine x_pre (fuel:=1) [] [(0,true),(1,true),(2,true),(3,true),(4,true),(5,true),(6,true),(7,true),(8,true),(9,true),(10,true)] (by kernel_rfl) rfl ?_
     refine h_mv rfl rfl rfl (h_fa rfl rfl rfl (h_ldC (hc:=fun w' ⟨O',hq⟩=>Blk.cell (i:=0) ((h182.st hq (by decide)).1) rfl) rfl rfl rfl ?_))
     refine h_mv rfl rfl rfl (h_fa rfl rfl rfl (h_ldC (hc:=fun w' ⟨O',hq⟩=>Blk.cell (i:=2) ((h182.st hq (by decide)).1) rfl) rfl rfl rfl ?_))
     obtain ⟨a268,e269,hf159⟩:=bs hf159
     obtain ⟨p271,x270⟩:=AM e269
     obtain ⟨b272,o273,ce274,hA275,hF278,hl276,hd277,rfl,r279⟩:=h166.elemF x270
     refine h_iaE (hA:=hA275) (hj:=(Int.toNat_of_nonneg p271).symm) (hlt:=hl276) rfl rfl rfl rfl ?_
     refine h_ldC (hc:=fun w' ⟨O',hq⟩=>cat0 (Bh (hq.agree (i:=3) (by decide)) hF278 hd277)) rfl rfl rfl ?_
     refine h_mv rfl rfl rfl ?_
     obtain ⟨n280,e281,hf159⟩:=bs hf159
     have r282:=(Bj e281)
     refine h_adE (he:=e281) rfl rfl rfl rfl ?_
     obtain ⟨a283,e284,hf159⟩:=bs hf159
     obtain ⟨p286,x285⟩:=AM e284
     obtain ⟨b287,o288,ce289,hA290,hF293,hl291,hd292,rfl,r294⟩:=h166.elemF x285
     refine h_iaE (hA:=hA290) (hj:=(Int.toNat_of_nonneg p286).symm) (hlt:=hl291) rfl rfl rfl rfl ?_
     refine AI ?_
     refine x_one (i:=11) (by kernel_rfl) rfl ?_
     refine Db rfl h166 (a:=n280) (vInt r282) hA290 rfl rfl (AJ x285) fun w295 S296 h166=>?_
     refine x_end (by kernel_rfl) ?_
     refine x_nil (by kernel_rfl) ?_
     refine Ae (o_as rfl rfl (o_z ?_))
     obtain rfl:=sm hf159
     refine (?_:Exists _)
     replace hB:=hB.st S296
     replace hx1:=hx1.st S296
     replace h8:=h8.st S296
     replace h11:=h11.st S296
     replace h14:=h14.st S296
     replace h17:=h17.st S296
     replace h24:=h24.st S296
     replace h123:=h123.st S296
     exact ⟨_,(),rfl,⟨rfl,rfl,rfl,rfl,rfl,rfl,rfl,rfl,trivial⟩,_,hB,hx1,h24,h8,h11,h14,h17,h166,h123⟩
    ·
     replace hf159:=im' hf159 c267
     refine Am ?_
     obtain rfl:=sm hf159
     refine (?_:Exists _)
     exact ⟨_,(),rfl,⟨rfl,rfl,rfl,rfl,rfl,rfl,rfl,rfl,trivial⟩,_,hB,hx1,h24,h8,h11,h14,h17,h166,h123⟩
   rintro l297 w298 ⟨s301,x302,rfl,hs300,O299,hB,hx1,h24,h8,h11,h14,h17,h166,h123⟩
   replace hf137:=AY hf137
   obtain rfl:=sm hf137
   refine (?_:Exists _)
   exact ⟨_,(),rfl,⟨(Bq hs300 _ _ rfl),(Bq hs300 _ _ rfl),(Bq hs300 _ _ rfl),(Bq hs300 _ _ rfl),(Bq hs300 _ _ rfl),trivial⟩,_,hB,hx1,h24,h8,h11,h14,h17,h166,h123⟩
  ·
   replace hf137:=im' hf137 c146
   refine At ?_
   obtain rfl:=sm hf137
   refine (?_:Exists _)
   exact ⟨_,(),hbrk139 _ rfl,⟨rfl,trivial⟩,_,hB,h144⟩
 replace hB:=hB.st S122
 rintro l303 w304 ⟨s307,x308,rfl,hs306,O305,hB,h144⟩
 replace hm:=AY hm
 refine AP _ hs306 ?_
 refine Ah (Ae (o_mv rfl rfl (o_as rfl rfl (o_z ?_))))
 refine Au ?_
 obtain ⟨O309,S310,h144⟩:=h144.freeze
 obtain rfl:=sm hm
 replace hB:=hB.st S310
 exact ret1v rfl (AG rfl) ⟨hB.ext,(Vb.mono (F:=Fr 0 w304 O309) h144 hB.out)⟩
end
section
open Go Go.RowKit
theorem Hl {α:Type} [DecidableEq α]:∀ {a b:List α},a.Nodup→(∀ x∈a,x∈b)→a.length≤b.length
  | [],_,_,_=>Nat.zero_le _
  | x :: a,b,hn,hs=>by
    have hx:=hs x List.mem_cons_self
    have h1:=Hl (a:=a) (b:=b.erase x) (List.nodup_cons.1 hn).2 fun y hy=>(List.mem_erase_of_ne (fun e=>(List.nodup_cons.1 hn).1 (by rw [← e];exact hy))).2 (hs y (List.mem_cons_of_mem _ hy))
    have h2:=List.length_erase_of_mem hx
    have h3:=List.length_pos_of_mem hx
    simp only [List.length_cons]
    omega
end
section
open Go Go.RowKit
attribute [local irreducible] ewp owp hwp hwq hws Ev Evg Fn retPost loud loudS Res1
theorem cloneInts {w:World} {sv:Value} {xs:List Int} (hs:V w sv xs) (hl:xs.length * 8≤140737488355328) :
    Fn Try.prog 65 [sv] w fun v w'=>Own w' w.heap.size (All w) 3 v xs∧Ext w w':=by
  obtain ⟨A,c,rfl⟩:=hs.form
  refine AK Try.func65 rfl Try.ntmps65 rfl ?_
  cases A with
  | none =>
    have hx:xs=[]:=by
      cases xs with
      | nil=>rfl
      | cons x xs=>obtain ⟨_,_,_,h,_⟩:=hs.elem (k:=0) (x:=x) rfl;cases h
    subst hx
    ((repeat (first|refine Ah ?_|refine Al ?_|refine Ae ?_|refine Am ?_|refine At ?_|refine Au ?_|refine Ar rfl ?_|refine Aj rfl ?_))<;>(refine o_as rfl rfl ?_<;>(first|refine Ay ?_|refine Az ?_|refine Aw ?_|refine AA ?_))<;>(repeat (first|refine Ah ?_|refine Al ?_|refine Ae ?_|refine Am ?_|refine At ?_|refine Au ?_|refine Ar rfl ?_|refine Aj rfl ?_))<;>(refine o_mv rfl rfl ?_<;>refine o_sn rfl rfl ?_<;>(first|refine Ay ?_|refine Az ?_|refine Aw ?_|refine AA ?_))<;>(repeat (first|refine Ah ?_|refine Al ?_|refine Ae ?_|refine Am ?_|refine At ?_|refine Au ?_|refine Ar rfl ?_|refine Aj rfl ?_))<;>(refine o_as rfl rfl ?_<;>(first|refine Ay ?_|refine Az ?_|refine Aw ?_|refine AA ?_))<;>(repeat (first|refine Ah ?_|refine Al ?_|refine Ae ?_|refine Am ?_|refine At ?_|refine Au ?_|refine Ar rfl ?_|refine Aj rfl ?_)))
    exact ret1 rfl rfl ⟨Own.nil _ _ _ _,Below.refl _ _⟩
  | some ad =>
    ((repeat (first|refine Ah ?_|refine Al ?_|refine Ae ?_|refine Am ?_|refine At ?_|refine Au ?_|refine Ar rfl ?_|refine Aj rfl ?_))<;>(refine o_as rfl rfl ?_<;>(first|refine Ay ?_|refine Az ?_|refine Aw ?_|refine AA ?_))<;>(repeat (first|refine Ah ?_|refine Al ?_|refine Ae ?_|refine Am ?_|refine At ?_|refine Au ?_|refine Ar rfl ?_|refine Aj rfl ?_))<;>(refine o_mv rfl rfl ?_<;>refine o_sn rfl rfl ?_<;>(first|refine Ay ?_|refine Az ?_|refine Aw ?_|refine AA ?_))<;>(repeat (first|refine Ah ?_|refine Al ?_|refine Ae ?_|refine Am ?_|refine At ?_|refine Au ?_|refine Ar rfl ?_|refine Aj rfl ?_)))
    refine CX rfl rfl rfl (by simp) (by decide) rfl fun w1 hN=>?_
    have hE:=hN.ext
    have hown:Own w1 w.heap.size (All w) 3 (.slice (some ⟨w.heap.size,0,none⟩) 0 0) ([]:List Int):=Own.made hN rfl rfl (Nat.lt_irrefl _) (by decide)
    (refine o_mv rfl rfl ?_)
    refine FP rfl rfl rfl hown (fun k hk=>Nat.lt_of_lt_of_le hk hE.size) hE.size (Vb.agree hs (hE.agree fun _ h=>h)) (by decide) (by simpa using hl) (by simp;omega) rfl fun v' w2 ho hK=>?_
    (refine o_as rfl rfl ?_<;>(first|refine Ay ?_|refine Az ?_|refine Aw ?_|refine AA ?_))
    repeat (first|refine Ah ?_|refine Al ?_|refine Ae ?_|refine Am ?_|refine At ?_|refine Au ?_|refine Ar rfl ?_|refine Aj rfl ?_)
    refine ret1 rfl rfl ⟨by simpa using ho,hE.trans (hown.fits (Nat.le_refl _) hE.size hK)⟩
theorem cloneFacts {w:World} {sv:Value} {xs:List Fct} (hs:V w sv xs) (hl:xs.length * 16≤140737488355328) :
    Fn Try.prog 84 [sv] w fun v w'=>Own w' w.heap.size (All w) 57 v xs∧Ext w w':=by
  obtain ⟨A,c,rfl⟩:=hs.form
  refine AK Try.func84 rfl Try.ntmps84 rfl ?_
  cases A with
  | none =>
    have hx:xs=[]:=by
      cases xs with
      | nil=>rfl
      | cons x xs=>obtain ⟨_,_,_,h,_⟩:=hs.elem (k:=0) (x:=x) rfl;cases h
    subst hx
    ((repeat (first|refine Ah ?_|refine Al ?_|refine Ae ?_|refine Am ?_|refine At ?_|refine Au ?_|refine Ar rfl ?_|refine Aj rfl ?_))<;>(refine o_as rfl rfl ?_<;>(first|refine Ay ?_|refine Az ?_|refine Aw ?_|refine AA ?_))<;>(repeat (first|refine Ah ?_|refine Al ?_|refine Ae ?_|refine Am ?_|refine At ?_|refine Au ?_|refine Ar rfl ?_|refine Aj rfl ?_))<;>(refine o_mv rfl rfl ?_<;>refine o_sn rfl rfl ?_<;>(first|refine Ay ?_|refine Az ?_|refine Aw ?_|refine AA ?_))<;>(repeat (first|refine Ah ?_|refine Al ?_|refine Ae ?_|refine Am ?_|refine At ?_|refine Au ?_|refine Ar rfl ?_|refine Aj rfl ?_))<;>(refine o_as rfl rfl ?_<;>(first|refine Ay ?_|refine Az ?_|refine Aw ?_|refine AA ?_))<;>(repeat (first|refine Ah ?_|refine Al ?_|refine Ae ?_|refine Am ?_|refine At ?_|refine Au ?_|refine Ar rfl ?_|refine Aj rfl ?_)))
    exact ret1 rfl rfl ⟨Own.nil _ _ _ _,Below.refl _ _⟩
  | some ad =>
    ((repeat (first|refine Ah ?_|refine Al ?_|refine Ae ?_|refine Am ?_|refine At ?_|refine Au ?_|refine Ar rfl ?_|refine Aj rfl ?_))<;>(refine o_as rfl rfl ?_<;>(first|refine Ay ?_|refine Az ?_|refine Aw ?_|refine AA ?_))<;>(repeat (first|refine Ah ?_|refine Al ?_|refine Ae ?_|refine Am ?_|refine At ?_|refine Au ?_|refine Ar rfl ?_|refine Aj rfl ?_))<;>(refine o_mv rfl rfl ?_<;>refine o_sn rfl rfl ?_<;>(first|refine Ay ?_|refine Az ?_|refine Aw ?_|refine AA ?_))<;>(repeat (first|refine Ah ?_|refine Al ?_|refine Ae ?_|refine Am ?_|refine At ?_|refine Au ?_|refine Ar rfl ?_|refine Aj rfl ?_)))
    refine CX rfl rfl rfl (by simp) (by decide) rfl fun w1 hN=>?_
    have hE:=hN.ext
    have hown:Own w1 w.heap.size (All w) 57 (.slice (some ⟨w.heap.size,0,none⟩) 0 0) ([]:List Fct):=Own.made hN rfl rfl (Nat.lt_irrefl _) (by decide)
    (refine o_mv rfl rfl ?_)
    refine FP rfl rfl rfl hown (fun k hk=>Nat.lt_of_lt_of_le hk hE.size) hE.size (Vb.agree hs (hE.agree fun _ h=>h)) (by decide) (by simpa using hl) (by simp;omega) rfl fun v' w2 ho hK=>?_
    (refine o_as rfl rfl ?_<;>(first|refine Ay ?_|refine Az ?_|refine Aw ?_|refine AA ?_))
    repeat (first|refine Ah ?_|refine Al ?_|refine Ae ?_|refine Am ?_|refine At ?_|refine Au ?_|refine Ar rfl ?_|refine Aj rfl ?_)
    refine ret1 rfl rfl ⟨by simpa using ho,hE.trans (hown.fits (Nat.le_refl _) hE.size hK)⟩
def applK (t:Tsk) (s:List Int) (k:Nat):List Int:=((List.range k).filter fun i=>match t.ops[i]? with|some o=>holdsB o.pre s|none=>false).map fun i:Nat=>(i:Int)
def appl (t:Tsk) (s:List Int):List Int:=applK t s t.ops.length
theorem KV (t:Tsk) (s:List Int) (k:Nat):(applK t s k).length≤k:=by
  unfold applK
  rw [List.length_map]
  exact Nat.le_trans (List.length_filter_le _ _) (by simp)
end
section
open Go Go.RowKit
attribute [local irreducible] ewp owp hwp hwq hws Ev Evg Fn retPost loud loudS Res1
inductive Tr where
  | nil
  | leaf (ops:List Int)
  | node (nx many:Nat) (vals:Nat→Tr) (rest:Tr)
def TrR (w:World) (F:Nat→Prop):Tr→Value→Prop
  | .nil,p=>p=.pointer none
  | .leaf ops,p=>∃ g ov,p=.pointer (some ⟨g,0,none⟩)∧F g∧Blk w g 169 [ov,.bool true,.int .i64 0,.slice none 0 0,.pointer none]∧Vb w F ov ops
  | .node nx k vals rest,p=>∃ g A c rp,p=.pointer (some ⟨g,0,none⟩)∧F g∧Blk w g 169 [.slice none 0 0,.bool false,.int .i64 (nx:Int),.slice A k c,.pointer rp]∧TrR w F rest (.pointer rp) ∧
      ∀ i,i < k→∃ b o q,A=some ⟨b,o,none⟩∧F b∧w.cell? ⟨b,o + i,none⟩=some (.pointer q)∧TrR w F (vals i) (.pointer q)
theorem TrR.agree {w w':World} {F:Nat→Prop} (ha:Agree F w w'):∀ {T:Tr} {p:Value},TrR w F T p→TrR w' F T p
  | .nil,_,h=>h
  | .leaf ops,_,⟨g,ov,h1,h2,h3,h4⟩=>⟨g,ov,h1,h2,h3.keep (ha g h2),h4.agree ha⟩
  | .node nx k vals rest,_,⟨g,A,c,rp,h1,h2,h3,h4,h5⟩=>⟨g,A,c,rp,h1,h2,h3.keep (ha g h2),TrR.agree ha h4,fun i hi=>by
      obtain ⟨b,o,q,g1,g2,g3,g4⟩:=h5 i hi
      exact ⟨b,o,q,g1,g2,(ha.cell g2).trans g3,TrR.agree ha g4⟩⟩
theorem TrR.mono {w:World} {F G:Nat→Prop} (hk:∀ k,F k→G k):∀ {T:Tr} {p:Value},TrR w F T p→TrR w G T p
  | .nil,_,h=>h
  | .leaf ops,_,⟨g,ov,h1,h2,h3,h4⟩=>⟨g,ov,h1,hk _ h2,h3,h4.mono hk⟩
  | .node nx k vals rest,_,⟨g,A,c,rp,h1,h2,h3,h4,h5⟩=>⟨g,A,c,rp,h1,hk _ h2,h3,TrR.mono hk h4,fun i hi=>by
      obtain ⟨b,o,q,g1,g2,g3,g4⟩:=h5 i hi
      exact ⟨b,o,q,g1,hk _ g2,g3,TrR.mono hk g4⟩⟩
theorem TrR.form {w:World} {F:Nat→Prop}:∀ {T:Tr} {p:Value},TrR w F T p→∃ q,p=.pointer q
  | .nil,_,h=>⟨none,h⟩
  | .leaf _,_,⟨_,_,h,_⟩=>⟨_,h⟩
  | .node ..,_,⟨_,_,_,_,h,_⟩=>⟨_,h⟩
def atN (s:List Int) (i:Nat):Nat:=(s[i]?.getD 0).toNat
def coll (s:List Int):Tr→List Int
  | .nil=>[]
  | .leaf ops=>ops
  | .node nx _ vals rest=>coll s (vals (atN s nx)) ++ coll s rest
def look (s:List Int):Tr→List Bool→List Bool
  | .nil,l=>l
  | .leaf _,l=>l
  | .node nx _ vals rest,l=>look s rest (look s (vals (atN s nx)) (l.set nx true))
def Fits (s:List Int):Tr→Prop
  | .nil=>True
  | .leaf _=>True
  | .node nx k vals rest=>(∃ x:Nat,s[nx]?=some (x:Int)∧x < k)∧Fits s (vals (atN s nx))∧Fits s rest
theorem EU (s:List Int):∀ (T:Tr) (l:List Bool),(look s T l).length=l.length
  | .nil,_=>rfl
  | .leaf _,_=>rfl
  | .node nx k vals rest,l=>by rw [look,EU s rest,EU s (vals _)];simp
theorem Own.own_ne {α β:Type} [Rp α] [Rp β] {w:World} {b1 b2:Nat} {F G:Nat→Prop} {e1 e2:TypeId} {u v:Value} {xs:List α} {ys:List β} (h:Own w b1 F e1 u xs) (k:Own w b2 G e2 v ys) (hne:e1≠e2):∀ g,u.ownBlock=some g→v.ownBlock≠some g:=by
  intro g hg hv
  obtain ⟨c1,h1,_⟩:=h
  obtain ⟨c2,h2,_⟩:=k
  rcases h1.2 with ⟨rfl,_⟩|⟨g1,cap1,cur1,rfl,_,hh1,_⟩
  · simp [Value.ownBlock] at hg
  · rcases h2.2 with ⟨rfl,_⟩|⟨g2,cap2,cur2,rfl,_,hh2,_⟩
    · simp [Value.ownBlock] at hv
    · have e1':g1=g:=by simpa [Value.ownBlock] using hg
      have e2':g2=g:=by simpa [Value.ownBlock] using hv
      subst e1';subst e2'
      rw [hh1] at hh2
      injection hh2 with hh2
      injection hh2 with _ ht
      exact hne ht
theorem Own.kept {α:Type} [Rp α] {w w':World} {base:Nat} {F:Nat→Prop} {e:TypeId} {v u:Value} {xs:List α} (h:Own w base F e v xs) (hK:Kept w w' u) (hF:∀ k,F k→k < w.heap.size∧u.ownBlock≠some k) (hne:∀ g,v.ownBlock=some g→u.ownBlock≠some g):Own w' base F e v xs :=
  h.agree (fun k hk=>hK.block k (hF k hk).1 (hF k hk).2) fun g hg=>hK.block g (h.lt g hg).2 (hne g hg)
theorem collect (B:Nat) (s:List Int):∀ (T:Tr) (w:World) (p ov sv lv:Value) (out:List Int) (looked:List Bool),B≤w.heap.size→TrR w (· < B) T p→Vb w (· < B) sv s→Own w B (· < B) 3 ov out→Own w B (· < B) 4 lv looked →
    Fits s T→looked.length=s.length→out.length + (coll s T).length≤1000000 →
    Fn Try.prog 88 [p,ov,sv,lv] w fun v w'=>Own w' B (· < B) 3 v (out ++ coll s T)∧Own w' B (· < B) 4 lv (look s T looked)∧Below B w w':=by
  intro T
  induction T with
  | nil =>
    intro w p ov sv lv out looked hB hT hs ho hl _ _ hlen
    have hp:p=.pointer none:=hT
    subst hp
    refine AK Try.func88 rfl Try.ntmps88 rfl ?_
    ((repeat (first|refine Ah ?_|refine Al ?_|refine Ae ?_|refine Am ?_|refine At ?_|refine Au ?_|refine Ar rfl ?_|refine Aj rfl ?_))<;>(refine o_as rfl rfl ?_<;>(first|refine Ay ?_|refine Az ?_|refine Aw ?_|refine AA ?_))<;>(repeat (first|refine Ah ?_|refine Al ?_|refine Ae ?_|refine Am ?_|refine At ?_|refine Au ?_|refine Ar rfl ?_|refine Aj rfl ?_))<;>(refine o_mv rfl rfl ?_<;>refine o_pn rfl rfl ?_<;>(first|refine Ay ?_|refine Az ?_|refine Aw ?_|refine AA ?_))<;>(repeat (first|refine Ah ?_|refine Al ?_|refine Ae ?_|refine Am ?_|refine At ?_|refine Au ?_|refine Ar rfl ?_|refine Aj rfl ?_))<;>(refine o_mv rfl rfl ?_<;>refine o_as rfl rfl ?_<;>(first|refine Ay ?_|refine Az ?_|refine Aw ?_|refine AA ?_))<;>(repeat (first|refine Ah ?_|refine Al ?_|refine Ae ?_|refine Am ?_|refine At ?_|refine Au ?_|refine Ar rfl ?_|refine Aj rfl ?_)))
    exact ret1 rfl rfl ⟨by simpa [coll] using ho,hl,Below.refl _ _⟩
  | leaf ops =>
    intro w p ov sv lv out looked hB hT hs ho hl _ _ hlen
    obtain ⟨g,opv',rfl,hg,hb1,hops⟩:=hT
    refine AK Try.func88 rfl Try.ntmps88 rfl ?_
    ((repeat (first|refine Ah ?_|refine Al ?_|refine Ae ?_|refine Am ?_|refine At ?_|refine Au ?_|refine Ar rfl ?_|refine Aj rfl ?_))<;>(refine o_as rfl rfl ?_<;>(first|refine Ay ?_|refine Az ?_|refine Aw ?_|refine AA ?_))<;>(repeat (first|refine Ah ?_|refine Al ?_|refine Ae ?_|refine Am ?_|refine At ?_|refine Au ?_|refine Ar rfl ?_|refine Aj rfl ?_))<;>(refine o_mv rfl rfl ?_<;>refine o_pn rfl rfl ?_<;>(first|refine Ay ?_|refine Az ?_|refine Aw ?_|refine AA ?_))<;>(repeat (first|refine Ah ?_|refine Al ?_|refine Ae ?_|refine Am ?_|refine At ?_|refine Au ?_|refine Ar rfl ?_|refine Aj rfl ?_))<;>(refine o_mv rfl rfl ?_<;>refine o_nc rfl rfl ?_<;>refine o_fa rfl rfl ?_<;>refine o_ld rfl rfl ?_<;>(first|refine Ay ?_|refine Az ?_|refine Aw ?_|refine AA ?_))<;>(repeat (first|refine Ah ?_|refine Al ?_|refine Ae ?_|refine Am ?_|refine At ?_|refine Au ?_|refine Ar rfl ?_|refine Aj rfl ?_))<;>(refine o_mv rfl rfl ?_<;>refine o_mv rfl rfl ?_<;>refine o_nc rfl rfl ?_<;>refine o_fa rfl rfl ?_<;>refine o_ld rfl rfl ?_)<;>(repeat (first|refine Ah ?_|refine Al ?_|refine Ae ?_|refine Am ?_|refine At ?_|refine Au ?_|refine Ar rfl ?_|refine Aj rfl ?_)))
    simp only [coll] at hlen
    refine FP rfl rfl rfl ho (fun k hk=>Nat.lt_of_lt_of_le hk hB) hB hops (by decide) (by omega) (by omega) rfl fun v' w1 ho1 hK=>?_
    (refine o_as rfl rfl ?_<;>(first|refine Ay ?_|refine Az ?_|refine Aw ?_|refine AA ?_))
    repeat (first|refine Ah ?_|refine Al ?_|refine Ae ?_|refine Am ?_|refine At ?_|refine Au ?_|refine Ar rfl ?_|refine Aj rfl ?_)
    refine ret1 rfl rfl ⟨ho1,?_,ho.fits (Nat.le_refl _) hB hK⟩
    exact hl.kept hK (fun k hk=>⟨Nat.lt_of_lt_of_le hk hB,fun he=>by have:=(ho.lt k he).1;have:k < B:=hk;omega⟩) (fun g hg=>hl.own_ne ho (by decide) g hg)
  | node nx k vals rest ih1 ih2 =>
    intro w p ov sv lv out looked hB hT hs ho hl hfit hll hlen
    obtain ⟨g,A,c,rp,rfl,hg,hb1,hrest,hvals⟩:=hT
    obtain ⟨⟨x,hx,hxk⟩,hfit1,hfit2⟩:=hfit
    obtain ⟨bv,ovv,q,rfl,hbv,hcv,hq⟩:=hvals x hxk
    obtain ⟨As,cs,rfl⟩:=hs.form
    obtain ⟨bs,os,ce,rfl,hbs,_,hds,rfl,_⟩:=hs.elem hx
    have hnx:=Bd hx
    have hat:atN s nx=x:=by simp [atN,hx]
    obtain ⟨gl,capl,_,_,rfl,_⟩:=hl.open (by omega)
    refine AK Try.func88 rfl Try.ntmps88 rfl ?_
    have hll':nx < looked.length:=by omega
    ((repeat (first|refine Ah ?_|refine Al ?_|refine Ae ?_|refine Am ?_|refine At ?_|refine Au ?_|refine Ar rfl ?_|refine Aj rfl ?_))<;>(refine o_as rfl rfl ?_<;>(first|refine Ay ?_|refine Az ?_|refine Aw ?_|refine AA ?_))<;>(repeat (first|refine Ah ?_|refine Al ?_|refine Ae ?_|refine Am ?_|refine At ?_|refine Au ?_|refine Ar rfl ?_|refine Aj rfl ?_))<;>(refine o_mv rfl rfl ?_<;>refine o_pn rfl rfl ?_<;>(first|refine Ay ?_|refine Az ?_|refine Aw ?_|refine AA ?_))<;>(repeat (first|refine Ah ?_|refine Al ?_|refine Ae ?_|refine Am ?_|refine At ?_|refine Au ?_|refine Ar rfl ?_|refine Aj rfl ?_))<;>(refine o_mv rfl rfl ?_<;>refine o_nc rfl rfl ?_<;>refine o_fa rfl rfl ?_<;>refine o_ld rfl rfl ?_<;>(first|refine Ay ?_|refine Az ?_|refine Aw ?_|refine AA ?_))<;>(repeat (first|refine Ah ?_|refine Al ?_|refine Ae ?_|refine Am ?_|refine At ?_|refine Au ?_|refine Ar rfl ?_|refine Aj rfl ?_))<;>(refine o_mv rfl rfl ?_<;>refine o_mv rfl rfl ?_<;>refine o_nc rfl rfl ?_<;>refine o_fa rfl rfl ?_<;>refine o_ld rfl rfl ?_<;>refine o_ia rfl rfl rfl ?_)<;>(repeat (first|refine Ah ?_|refine Al ?_|refine Ae ?_|refine Am ?_|refine At ?_|refine Au ?_|refine Ar rfl ?_|refine Aj rfl ?_)))
    refine HE (i:=nx) (a:=true) rfl rfl rfl hl hll' (show Vb w (· < B) (.bool true) true from rfl) fun w1 hl1 hK1 hz1=>?_
    have hB1:Below B w w1:=hl.fits (Nat.le_refl _) hB hK1
    have ho1:Own w1 B (· < B) 3 ov out:=ho.kept hK1 (fun k hk=>⟨Nat.lt_of_lt_of_le hk hB,fun he=>by have:=(hl.lt k he).1;have:k < B:=hk;omega⟩) (fun g hg=>ho.own_ne hl (by decide) g hg)
    ((first|refine Ay ?_|refine Az ?_|refine Aw ?_|refine AA ?_))
    repeat (first|refine Ah ?_|refine Al ?_|refine Ae ?_|refine Am ?_|refine At ?_|refine Au ?_|refine Ar rfl ?_|refine Aj rfl ?_)
    have hag:∀ w',Below B w1 w'→Agree (· < B) w w':=fun w' h k hk=>(hB1.trans h).block k hk
    replace hb1:∀ w',Below B w1 w'→Blk w' g 169 [.slice none 0 0,.bool false,.int .i64 (nx:Int),.slice (some ⟨bv,ovv,none⟩) k c,.pointer rp]:=fun w' h=>hb1.keep (hag w' h g hg)
    have hd1:∀ w',Below B w1 w'→cellsAt w' bs (os + nx * 1) [.int .i64 (x:Int)]:=fun w' h=>Bh (hag w' h) hbs hds
    have hc1:∀ w',Below B w1 w'→w'.cell? ⟨bv,ovv + x * 1,none⟩=some (.pointer q):=fun w' h=>by rw [Nat.mul_one];exact ((hag w' h).cell hbv).trans hcv
    refine BE (Below B w1) [(0,true),(1,true),(2,true),(3,true),(4,true),(5,true),(6,true),(7,true),(8,true),(9,true),(10,true),(11,true),(12,true),(13,true),(14,true),(15,true),(16,true),(17,true),(18,true),(19,true),(21,true),(22,true),(20,false),(23,false),(24,true)] (by kernel_rfl) rfl (by kernel_rfl) (Below.refl _ _) ?_
    (refine h_mv rfl rfl rfl ?_<;>refine h_nc rfl rfl rfl ?_<;>refine h_fa rfl rfl rfl ?_<;>(first|refine h_ldB rfl rfl rfl ?_|refine h_ldC rfl rfl rfl ?_)<;>refine h_mv rfl rfl rfl ?_<;>refine h_nc rfl rfl rfl ?_<;>refine h_fa rfl rfl rfl ?_<;>(first|refine h_ldB rfl rfl rfl ?_|refine h_ldC rfl rfl rfl ?_)<;>refine h_mv rfl rfl rfl ?_<;>refine h_mv rfl rfl rfl ?_<;>refine h_nc rfl rfl rfl ?_<;>refine h_fa rfl rfl rfl ?_<;>(first|refine h_ldB rfl rfl rfl ?_|refine h_ldC rfl rfl rfl ?_)<;>refine h_ia rfl rfl rfl rfl ?_<;>(first|refine h_ldB rfl rfl rfl ?_|refine h_ldC rfl rfl rfl ?_)<;>refine h_ia rfl rfl rfl rfl ?_<;>(first|refine h_ldB rfl rfl rfl ?_|refine h_ldC rfl rfl rfl ?_)<;>refine h_mv rfl rfl rfl ?_<;>refine h_mv rfl rfl rfl ?_<;>refine h_mv rfl rfl rfl ?_<;>refine h_mv rfl rfl rfl ?_<;>refine h_mv rfl rfl rfl ?_)
    refine Bu rfl ?_
    simp only [coll,hat,List.length_append] at hlen
    refine AZ rfl rfl (ih1 x w1 (.pointer q) ov _ _ out (looked.set nx true) (Nat.le_trans hB hB1.size) (TrR.agree (hag w1 (Below.refl _ _)) hq) (hs.agree (hag w1 (Below.refl _ _))) ho1 hl1 (hat ▸ hfit1) (by simpa using hll) (by omega)) ?_
    rintro v2 w2 ⟨ho2,hl2,hB2⟩
    refine BP hB2 ?_
    refine Bu rfl ?_
    refine AZ rfl rfl (ih2 w2 (.pointer rp) v2 _ _ (out ++ coll s (vals x)) (look s (vals x) (looked.set nx true)) (Nat.le_trans hB (hB1.trans hB2).size) (TrR.agree (hag w2 hB2) hrest) (hs.agree (hag w2 hB2)) ho2 hl2 hfit2 (by rw [EU];simpa using hll) (by rw [List.length_append];omega)) ?_
    rintro v3 w3 ⟨ho3,hl3,hB3⟩
    refine BP (hB2.trans hB3) ?_
    (refine h_as rfl rfl rfl ?_<;>(first|refine AI ?_|refine BF ?_|refine BK ?_))
    repeat (first|refine Ah ?_|refine Al ?_|refine Ae ?_|refine Am ?_|refine At ?_|refine Au ?_|refine Ar rfl ?_|refine Aj rfl ?_)
    exact ret1 rfl rfl ⟨by simpa [coll,hat] using ho3,by simpa [look,hat] using hl3,hB1.trans (hB2.trans hB3)⟩
end
section
open Go.Shelf
def Try.lays189_ren:Go.Shelf.Ren:=⟨fun|189=>89|125=>92|257=>91|128=>102|129=>103|294=>93|295=>94|296=>95|297=>96|298=>97|299=>98|216=>99|300=>100|301=>101|328=>104|329=>105|330=>106|331=>107|332=>108|215=>109|343=>110|n=>n,fun|28=>22|3=>3|46=>171|0=>0|51=>183|53=>150|4=>4|183=>177|182=>176|131=>40|5=>5|9=>9|218=>185|222=>188|228=>190|229=>191|n=>n,fun|n=>n⟩
theorem Try.lays189:Go.Proofs.Lays.n189 Try.prog Try.lays189_ren:={
  mixed:=by kernel_rfl
  f125:=Try.func92.trans (congrArg some (by kernel_rfl))
  f128:=Try.func102.trans (congrArg some (by kernel_rfl))
  f129:=Try.func103.trans (congrArg some (by kernel_rfl))
  f189:=Try.func89.trans (congrArg some (by kernel_rfl))
  f215:=Try.func109.trans (congrArg some (by kernel_rfl))
  f216:=Try.func99.trans (congrArg some (by kernel_rfl))
  f257:=Try.func91.trans (congrArg some (by kernel_rfl))
  f294:=Try.func93.trans (congrArg some (by kernel_rfl))
  f295:=Try.func94.trans (congrArg some (by kernel_rfl))
  f296:=Try.func95.trans (congrArg some (by kernel_rfl))
  f297:=Try.func96.trans (congrArg some (by kernel_rfl))
  f298:=Try.func97.trans (congrArg some (by kernel_rfl))
  f299:=Try.func98.trans (congrArg some (by kernel_rfl))
  f300:=Try.func100.trans (congrArg some (by kernel_rfl))
  f301:=Try.func101.trans (congrArg some (by kernel_rfl))
  f328:=Try.func104.trans (congrArg some (by kernel_rfl))
  f329:=Try.func105.trans (congrArg some (by kernel_rfl))
  f330:=Try.func106.trans (congrArg some (by kernel_rfl))
  f331:=Try.func107.trans (congrArg some (by kernel_rfl))
  f332:=Try.func108.trans (congrArg some (by kernel_rfl))
  f343:=Try.func110.trans (congrArg some (by kernel_rfl))
  t0:=Try.underlying0
  a0:=Try.isAgg0
  z0:=Try.sizeOf0
  v0:=Try.zeroValue0
  t3:=Try.underlying3
  a3:=Try.isAgg3
  z3:=Try.sizeOf3
  v3:=Try.zeroValue3
  t4:=Try.underlying4
  a4:=Try.isAgg4
  z4:=Try.sizeOf4
  v4:=Try.zeroValue4
  t5:=Try.underlying5
  a5:=Try.isAgg5
  z5:=Try.sizeOf5
  v5:=Try.zeroValue5
  t9:=Try.underlying9
  a9:=Try.isAgg9
  z9:=Try.sizeOf9
  v9:=Try.zeroValue9
  t28:=Try.underlying22
  a28:=Try.isAgg22
  z28:=Try.sizeOf22
  v28:=Try.zeroValue22
  t46:=Try.underlying171
  a46:=Try.isAgg171
  z46:=Try.sizeOf171
  v46:=Try.zeroValue171
  t51:=Try.underlying183
  a51:=Try.isAgg183
  z51:=Try.sizeOf183
  v51:=Try.zeroValue183
  t53:=Try.underlying150
  a53:=Try.isAgg150
  z53:=Try.sizeOf150
  v53:=Try.zeroValue150
  t131:=Try.underlying40
  a131:=Try.isAgg40
  z131:=Try.sizeOf40
  v131:=Try.zeroValue40
  t182:=Try.underlying176
  a182:=Try.isAgg176
  z182:=Try.sizeOf176
  v182:=Try.zeroValue176
  t183:=Try.underlying177
  a183:=Try.isAgg177
  z183:=Try.sizeOf177
  v183:=Try.zeroValue177
  t218:=Try.underlying185
  a218:=Try.isAgg185
  z218:=Try.sizeOf185
  v218:=Try.zeroValue185
  t222:=Try.underlying188
  a222:=Try.isAgg188
  z222:=Try.sizeOf188
  v222:=Try.zeroValue188
  t228:=Try.underlying190
  a228:=Try.isAgg190
  z228:=Try.sizeOf190
  v228:=Try.zeroValue190
  t229:=Try.underlying191
  a229:=Try.isAgg191
  z229:=Try.sizeOf191
  v229:=Try.zeroValue191 }
open Go.Sort Go.RowKit in
theorem Try.slices_Sort_int (blk off cap:Nat) (zs:List Int) (w:World) (hH:Holds (Value.int .i64) w blk off zs.toArray) (hblk:blk < w.heap.size) (hsz:zs.length < 4611686018427387904) :
    Calls Try.prog 89 #[.slice (some ⟨blk,off,none⟩) zs.length cap] w fun e w' =>
      e=.returned (.tuple #[])∧∃ n os,w'=grow (putRow (Value.int .i64) (Sort.ahead w n) blk off (zs.mergeSort fun x y=>decide (x≤y)).toArray) os:=Any.slices_Sort_int Try.lays189 blk off cap zs w hH hblk hsz
open Go.RowKit Go.Sort in
theorem Try.slices_Sort_int_none (p:Option Addr) (cap:Nat) (w:World) :
    Calls Try.prog 89 #[.slice p 0 cap] w fun e w'=>e=.returned (.tuple #[])∧w'=w:=Any.slices_Sort_int_none Try.lays189 p cap w
end
section
open Go Go.RowKit
def sortL (xs:List Int):List Int:=xs.mergeSort fun x y=>decide (x≤y)
theorem Dd (xs:List Int):(sortL xs).length=xs.length:=List.length_mergeSort xs
theorem GM {w:World} {F:Nat→Prop}:∀ {xs:List Int} {cells:List Value},Chunks w F cells xs→cells=xs.map (Value.int .i64)∧∀ x∈xs,inI64 x
  | [],_,h=>⟨h,fun _ hx=>by simp at hx⟩
  | x :: xs,cells,⟨cs,rest,he,hr,hc⟩=>by
    obtain ⟨h1,h2⟩:=GM hc
    obtain ⟨h3,h4⟩:=hr
    refine ⟨by rw [he,h3,h1];rfl,fun y hy=>?_⟩
    rcases List.mem_cons.1 hy with rfl|hy
    · exact h4
    · exact h2 y hy
theorem GN {w:World} {F:Nat→Prop}:∀ {xs:List Int},(∀ x∈xs,inI64 x)→Chunks w F (xs.map (Value.int .i64)) xs
  | [],_=>rfl
  | x :: xs,h=>⟨[.int .i64 x],xs.map (Value.int .i64),rfl,⟨rfl,h x (by simp)⟩,GN fun y hy=>h y (by simp [hy])⟩
theorem sortInts {w:World} {base:Nat} {F:Nat→Prop} {v:Value} {xs:List Int} (h:Own w base F 3 v xs) (hl:xs.length≤1000000) :
    Fn Try.prog 89 [v] w fun r w'=>r=.tuple #[]∧Own w' base F 3 v (sortL xs)∧Kept w w' v:=by
  intro d
  rcases Nat.eq_zero_or_pos xs.length with h0|h0
  · have hx:xs=[]:=List.eq_nil_of_length_eq_zero h0
    subst hx
    have hv:∃ p c,v=.slice p 0 c:=by
      obtain ⟨cells,h1,_⟩:=h
      rcases h1.2 with ⟨rfl,_⟩|⟨g,cap,cur,rfl,_⟩
      · exact ⟨_,_,rfl⟩
      · exact ⟨_,_,rfl⟩
    obtain ⟨p,c,rfl⟩:=hv
    refine (Try.slices_Sort_int_none p c (dr w d)).mono fun e w' ⟨he,hw⟩=>⟨_,w,d,he,hw,rfl,by simpa [sortL] using h,⟨rfl,rfl,rfl,Nat.le_refl _,fun _ _ _=>rfl⟩⟩
  · obtain ⟨g,cap,cells,sp,rfl,hg,hFg,hb,hc,hlen,hnc,hcm,htot⟩:=h.open h0
    obtain ⟨rfl,hin⟩:=GM hc
    have hH:Go.Sort.Holds (Value.int .i64) (dr w d) g 0 xs.toArray:=fun j hj=>by
      have hj':j < xs.length:=by simpa using hj
      refine ⟨?_,by rw [Nat.zero_add];exact hb.frozen j⟩
      rw [Nat.zero_add]
      refine hb.cell ?_
      rw [List.getElem?_append_left (by simpa using hj'),List.getElem?_map,List.getElem?_eq_getElem hj']
      simp [hj']
    refine (Try.slices_Sort_int g 0 cap xs (dr w d) hH hb.lt (by omega)).mono fun e w' ⟨he,n,os,hw⟩=>⟨_,w',w'.drawn,he,rfl,rfl,?_,?_⟩
    · have hblk:Blk w' g 3 ((sortL xs).map (Value.int .i64) ++ sp):=by
        subst hw
        unfold Blk at hb ⊢
        have hsz:g < w.heap.size:=Blk.lt hb
        show ((w.heap.modify g _) ++ os)[g]?=_
        rw [Array.getElem?_append_left (by simpa using hsz),Array.getElem?_modify,if_pos rfl,hb]
        simp only [Option.map_some,Go.Sort.onCells]
        congr 2
        apply Array.ext
        · simp [Go.Sort.putCells,Dd]
        · intro i h1 h2
          simp only [Go.Sort.putCells,Array.getElem_mapIdx,Nat.zero_add,Nat.sub_zero,Nat.zero_le,true_and]
          have e1:(List.mergeSort xs fun x y=>decide (x≤y)).length=xs.length:=List.length_mergeSort xs
          by_cases hi:i < xs.length
          · rw [if_pos (by simpa [e1] using hi)]
            simp only [List.getElem_toArray]
            rw [List.getElem_append_left (by simpa [Dd] using hi),List.getElem_map]
            congr 1
            rw [getElem!_pos _ _ (by simpa [e1] using hi)]
            simp [sortL]
          · rw [if_neg (by simpa [e1] using hi)]
            simp only [List.getElem_toArray]
            rw [List.getElem_append_right (by simp;omega),List.getElem_append_right (by simp [Dd];omega)]
            simp [Dd]
      have:=Own.close (w:=w') (base:=base) (cap:=cap) hg hFg hblk (GN (F:=F) (w:=w') fun x hx=>hin x (by
        have:=(List.mergeSort_perm xs fun x y=>decide (x≤y)).mem_iff.1 hx
        exact this)) (by rw [Dd];exact hnc) hcm (by simpa [Dd] using htot)
      rwa [Dd] at this
    · subst hw
      refine ⟨rfl,rfl,rfl,?_,fun k hk hne=>?_⟩
      · show w.heap.size≤((w.heap.modify g _) ++ os).size
        simp
      · have hkg:g≠k:=fun e=>hne (by simp [Value.ownBlock,e])
        show ((w.heap.modify g _) ++ os)[k]?=_
        rw [Array.getElem?_append_left (by simpa using hk),Array.getElem?_modify,if_neg hkg]
end
section
open Go Go.RowKit
attribute [local irreducible] ewp owp hwp hwq hws Ev Evg Fn retPost loud loudS Res1
def GenR (w:World) (F:Nat→Prop) (gv:Value) (t:Tsk) (T:Tr):Prop :=
  ∃ gb a b c d r,gv=.pointer (some ⟨gb,0,none⟩)∧F gb∧Blk w gb 129 [a,b,c,d,r]∧Vb w F a t.vars∧Vb w F b t.init∧Vb w F c t.goal∧Vb w F d t.ops∧TrR w F T r
theorem Jq (z:Value) (n:Nat) (hz:z.cells=#[z]):(madeCells z.cells (n * 1)).toList=List.replicate n z:=by
  rw [hz,Nat.mul_one]
  apply List.ext_getElem
  · simp [madeCells]
  · intro i h1 h2
    simp [madeCells,Nat.mod_one]
theorem Hm {w:World} {F:Nat→Prop}:∀ n,Chunks w F (List.replicate n (.bool false)) (List.replicate n false)
  | 0=>rfl
  | n + 1=>⟨[.bool false],List.replicate n (.bool false),rfl,rfl,Hm n⟩
noncomputable def findL (t:Tsk) (T:Tr) (s:List Int):List Int:=if bof (StateOk t.vars s)=true then sortL (coll s T) else []
noncomputable def findN (t:Tsk) (T:Tr) (s:List Int):Nat:=if bof (StateOk t.vars s)=true then (look s T (List.replicate s.length false)).count true else 0
theorem Kp {l:List Bool} {k:Nat} {b:Bool} (h:l[k]?=some b):(l.take (k + 1)).count true=(l.take k).count true + if b=true then 1 else 0:=by
  rw [List.take_add_one,h,List.count_append]
  cases b<;>simp
theorem genFind {w:World} {gv sv:Value} {t:Tsk} {T:Tr} {s:List Int} (hg:GenR w (All w) gv t T) (hs:V w sv s) (hfit:StateOk t.vars s→Fits s T) (hlen:(coll s T).length≤1000000) (hsl:s.length≤1000000) :
    Fn Try.prog 79 [gv,sv] w fun v w'=>Ext w w'∧∃ u,v=.tuple #[u,.int .i64 (findN t T s:Int)]∧Own w' w.heap.size (All w) 3 u (findL t T s):=by
  obtain ⟨gb,a,b,c,d,r,rfl,hgb,hb1,hvars,hinit,hgoal,hops,hT⟩:=hg
  obtain ⟨Av,cv,rfl⟩:=hvars.form
  obtain ⟨As,cs,rfl⟩:=hs.form
  obtain ⟨rp,rfl⟩:=hT.form
  refine AK Try.func79 rfl Try.ntmps79 rfl ?_
  ((repeat (first|refine Ah ?_|refine Al ?_|refine Ae ?_|refine Am ?_|refine At ?_|refine Au ?_|refine Ar rfl ?_|refine Aj rfl ?_))<;>(refine o_as rfl rfl ?_<;>refine o_as rfl rfl ?_<;>(first|refine Ay ?_|refine Az ?_|refine Aw ?_|refine AA ?_))<;>(repeat (first|refine Ah ?_|refine Al ?_|refine Ae ?_|refine Am ?_|refine At ?_|refine Au ?_|refine Ar rfl ?_|refine Aj rfl ?_))<;>(refine o_mv rfl rfl ?_<;>refine o_pn rfl rfl ?_<;>refine o_mv rfl rfl ?_<;>(first|(refine AE rfl rfl ?_;refine o_mv rfl rfl ?_)|refine AD rfl rfl rfl rfl ?_)<;>(first|(refine AE rfl rfl ?_;refine o_nc rfl rfl ?_)|refine AD rfl rfl rfl rfl ?_)<;>(first|(refine AE rfl rfl ?_;refine o_fa rfl rfl ?_)|refine AD rfl rfl rfl rfl ?_)<;>(first|(refine AE rfl rfl ?_;refine o_fa rfl rfl ?_)|refine AD rfl rfl rfl rfl ?_)<;>(first|(refine AE rfl rfl ?_;refine o_ld rfl rfl ?_)|refine AD rfl rfl rfl rfl ?_)<;>(first|(refine AE rfl rfl ?_;refine o_mv rfl rfl ?_)|refine AD rfl rfl rfl rfl ?_))<;>(repeat (first|refine Ah ?_|refine Al ?_|refine Ae ?_|refine Am ?_|refine At ?_|refine Au ?_|refine Ar rfl ?_|refine Aj rfl ?_)))
  refine AE rfl rfl ?_
  refine Cn rfl rfl (taskProper hvars hs) ?_ ?_
  case refine_2 =>
    intro w1 hP hE1
    ((first|(refine AE rfl rfl ?_;(first|refine o_nt rfl rfl ?_|refine o_nf rfl rfl ?_|refine o_nn rfl rfl ?_))|refine AD rfl rfl rfl rfl ?_)<;>(first|refine o_pt rfl rfl rfl ?_|refine o_pf rfl rfl rfl ?_)<;>(first|refine Ay ?_|refine Az ?_|refine Aw ?_|refine AA ?_))
    repeat (first|refine Ah ?_|refine Al ?_|refine Ae ?_|refine Am ?_|refine At ?_|refine Au ?_|refine Ar rfl ?_|refine Aj rfl ?_)
    ((repeat (first|refine Ah ?_|refine Al ?_|refine Ae ?_|refine Am ?_|refine At ?_|refine Au ?_|refine Ar rfl ?_|refine Aj rfl ?_))<;>(refine o_as rfl rfl ?_<;>refine o_as rfl rfl ?_<;>(first|refine Ay ?_|refine Az ?_|refine Aw ?_|refine AA ?_))<;>(repeat (first|refine Ah ?_|refine Al ?_|refine Ae ?_|refine Am ?_|refine At ?_|refine Au ?_|refine Ar rfl ?_|refine Aj rfl ?_)))
    refine ret2 rfl (AG rfl) (AG rfl) ⟨hE1,.slice none 0 0,?_,?_⟩
    · rw [findN,bof_f hP];rfl
    · rw [findL,bof_f hP];exact Own.nil _ _ _ _
  intro w1 hok hE1
  replace hb1:=hb1.ext hE1
  ((first|(refine AE rfl rfl ?_;(first|refine o_nt rfl rfl ?_|refine o_nf rfl rfl ?_|refine o_nn rfl rfl ?_))|refine AD rfl rfl rfl rfl ?_)<;>(first|refine o_pt rfl rfl rfl ?_|refine o_pf rfl rfl rfl ?_)<;>(first|refine Ay ?_|refine Az ?_|refine Aw ?_|refine AA ?_))
  repeat (first|refine Ah ?_|refine Al ?_|refine Ae ?_|refine Am ?_|refine At ?_|refine Au ?_|refine Ar rfl ?_|refine Aj rfl ?_)
  (refine o_mv rfl rfl ?_<;>refine o_ln rfl rfl ?_)
  refine HN rfl rfl (by omega) (by omega) rfl fun w2 hN2=>?_
  replace hb1:=hb1.ext hN2.ext
  have hE2:Ext w w2:=hE1.trans' hN2.ext
  have hl2:Own w2 w.heap.size (· < w.heap.size) 4 (.slice (some ⟨w1.heap.size,0,none⟩) s.length s.length) (List.replicate s.length false) :=
    (Own.made hN2 (by rw [Jq _ _ rfl];exact Hm _) (by simp) (by have:=hE1.size;omega) (by omega)).lower hE1.size
  (refine o_as rfl rfl ?_<;>(first|refine Ay ?_|refine Az ?_|refine Aw ?_|refine AA ?_))
  repeat (first|refine Ah ?_|refine Al ?_|refine Ae ?_|refine Am ?_|refine At ?_|refine Au ?_|refine Ar rfl ?_|refine Aj rfl ?_)
  (refine o_mv rfl rfl ?_<;>refine o_nc rfl rfl ?_<;>refine o_fa rfl rfl ?_<;>refine o_ld rfl rfl ?_<;>refine o_mv rfl rfl ?_<;>refine o_mv rfl rfl ?_)
  refine AZ rfl rfl (collect w.heap.size s T w2 (.pointer rp) (.slice none 0 0) _ _ [] _ hE2.size (TrR.agree (hE2.agree fun _ h=>h) hT) (Vb.agree hs (hE2.agree fun _ h=>h)) (Own.nil _ _ _ _) hl2 (hfit hok) (by simp) (by simpa using hlen)) ?_
  rintro v3 w3 ⟨ho3,hl3,hB3⟩
  have hE3:Ext w w3:=hE2.trans hB3
  rw [List.nil_append] at ho3
  (refine o_as rfl rfl ?_<;>(first|refine Ay ?_|refine Az ?_|refine Aw ?_|refine AA ?_))
  repeat (first|refine Ah ?_|refine Al ?_|refine Ae ?_|refine Am ?_|refine At ?_|refine Au ?_|refine Ar rfl ?_|refine Aj rfl ?_)
  (refine o_mv rfl rfl ?_)
  refine AZ rfl rfl (sortInts ho3 hlen) ?_
  rintro _ w4 ⟨rfl,ho4,hK4⟩
  have hE4:Ext w w4:=hE3.trans (ho3.fits (Nat.le_refl _) hE3.size hK4)
  have hl4:=hl3.kept hK4 (fun k hk=>⟨Nat.lt_of_lt_of_le hk hE3.size,fun he=>by have:=(ho3.lt k he).1;have:k < w.heap.size:=hk;omega⟩) (fun g hg=>hl3.own_ne ho3 (by decide) g hg)
  have hlv:Vb w4 _ (.slice (some ⟨w1.heap.size,0,none⟩) s.length s.length) (look s T (List.replicate s.length false)):=hl4.vb
  have hll:(look s T (List.replicate s.length false)).length=s.length:=by rw [EU];simp
  ((first|refine Ay ?_|refine Az ?_|refine Aw ?_|refine AA ?_))
  repeat (first|refine Ah ?_|refine Al ?_|refine Ae ?_|refine Am ?_|refine At ?_|refine Au ?_|refine Ar rfl ?_|refine Aj rfl ?_)
  ((repeat (first|refine Ah ?_|refine Al ?_|refine Ae ?_|refine Am ?_|refine At ?_|refine Au ?_|refine Ar rfl ?_|refine Aj rfl ?_))<;>(refine o_as rfl rfl ?_<;>(first|refine Ay ?_|refine Az ?_|refine Aw ?_|refine AA ?_))<;>(repeat (first|refine Ah ?_|refine Al ?_|refine Ae ?_|refine Am ?_|refine At ?_|refine Au ?_|refine Ar rfl ?_|refine Aj rfl ?_))<;>(refine o_mv rfl rfl ?_<;>refine o_ln rfl rfl ?_<;>refine o_mv rfl rfl ?_<;>(first|refine Ay ?_|refine Az ?_|refine Aw ?_|refine AA ?_))<;>(repeat (first|refine Ah ?_|refine Al ?_|refine Ae ?_|refine Am ?_|refine At ?_|refine Au ?_|refine Ar rfl ?_|refine Aj rfl ?_)))
  refine Bi s.length (by omega) (fun n:Nat=>[(7,v3),(8,.int .i64 (n:Int)),(35,.slice (some ⟨w1.heap.size,0,none⟩) s.length s.length)]) (fun k n w'=>w'=w4∧n=((look s T (List.replicate s.length false)).take k).count true) 0
    ⟨rfl,by simp⟩ ⟨rfl,rfl,rfl,rfl,rfl,trivial⟩ (fun _=>⟨rfl,rfl⟩) ⟨rfl,rfl,rfl⟩ ⟨rfl,rfl⟩ ?_ ?_
  · rintro k n _ hk ⟨rfl,hn⟩
    obtain ⟨x,hx⟩:=AH (l:=look s T (List.replicate s.length false)) (k:=k) (by omega)
    obtain ⟨b2,o2,ce,he,_,_,hd1,rfl⟩:=hlv.elem hx
    injection he with he
    injection he with he1 he2
    subst he1;subst he2
    have hnl:n≤k:=by
      rw [hn]
      exact Nat.le_trans List.count_le_length (by rw [List.length_take];omega)
    have hst:=Kp hx
    cases x
    · ((repeat (first|refine Ah ?_|refine Al ?_|refine Ae ?_|refine Am ?_|refine At ?_|refine Au ?_|refine Ar rfl ?_|refine Aj rfl ?_))<;>(refine o_ia rfl rfl rfl ?_<;>refine o_ld rfl rfl ?_<;>refine o_as rfl rfl ?_<;>(first|refine Ay ?_|refine Az ?_|refine Aw ?_|refine AA ?_))<;>(repeat (first|refine Ah ?_|refine Al ?_|refine Ae ?_|refine Am ?_|refine At ?_|refine Au ?_|refine Ar rfl ?_|refine Aj rfl ?_))<;>(refine o_mv rfl rfl ?_<;>(first|refine Ay ?_|refine Az ?_|refine Aw ?_|refine AA ?_))<;>(repeat (first|refine Ah ?_|refine Al ?_|refine Ae ?_|refine Am ?_|refine At ?_|refine Au ?_|refine Ar rfl ?_|refine Aj rfl ?_)))
      exact ⟨n,⟨rfl,rfl,rfl,rfl,rfl,trivial⟩,rfl,by rw [hst,hn];simp⟩
    · ((repeat (first|refine Ah ?_|refine Al ?_|refine Ae ?_|refine Am ?_|refine At ?_|refine Au ?_|refine Ar rfl ?_|refine Aj rfl ?_))<;>(refine o_ia rfl rfl rfl ?_<;>refine o_ld rfl rfl ?_<;>refine o_as rfl rfl ?_<;>(first|refine Ay ?_|refine Az ?_|refine Aw ?_|refine AA ?_))<;>(repeat (first|refine Ah ?_|refine Al ?_|refine Ae ?_|refine Am ?_|refine At ?_|refine Au ?_|refine Ar rfl ?_|refine Aj rfl ?_))<;>(refine o_mv rfl rfl ?_<;>(first|refine Ay ?_|refine Az ?_|refine Aw ?_|refine AA ?_))<;>(repeat (first|refine Ah ?_|refine Al ?_|refine Ae ?_|refine Am ?_|refine At ?_|refine Au ?_|refine Ar rfl ?_|refine Aj rfl ?_))<;>(refine o_mv rfl rfl ?_<;>(first|refine o_ic rfl rfl ?_|refine o_ad rfl rfl rfl ?_)<;>refine o_as rfl rfl ?_<;>(first|refine Ay ?_|refine Az ?_|refine Aw ?_|refine AA ?_))<;>(repeat (first|refine Ah ?_|refine Al ?_|refine Ae ?_|refine Am ?_|refine At ?_|refine Au ?_|refine Ar rfl ?_|refine Aj rfl ?_)))
      exact ⟨n + 1,⟨rfl,rfl,rfl,rfl,rfl,trivial⟩,rfl,by rw [hst,hn];simp⟩
  rintro n _ ⟨rfl,hn⟩
  repeat (first|refine Ah ?_|refine Al ?_|refine Ae ?_|refine Am ?_|refine At ?_|refine Au ?_|refine Ar rfl ?_|refine Aj rfl ?_)
  ((repeat (first|refine Ah ?_|refine Al ?_|refine Ae ?_|refine Am ?_|refine At ?_|refine Au ?_|refine Ar rfl ?_|refine Aj rfl ?_))<;>(refine o_mv rfl rfl ?_<;>refine o_mv rfl rfl ?_<;>refine o_as rfl rfl ?_<;>refine o_as rfl rfl ?_<;>(first|refine Ay ?_|refine Az ?_|refine Aw ?_|refine AA ?_))<;>(repeat (first|refine Ah ?_|refine Al ?_|refine Ae ?_|refine Am ?_|refine At ?_|refine Au ?_|refine Ar rfl ?_|refine Aj rfl ?_)))
  refine ret2 rfl (AG rfl) (AG rfl) ⟨hE4,v3,?_,?_⟩
  · rw [findN,bof_t hok,if_pos rfl,hn,List.take_of_length_le (by omega)]
  · rw [findL,bof_t hok,if_pos rfl]
    exact ho4
section
variable {w : World} {gv sv : Value} {t : Tsk} {T : Tr} {s : List Int}
theorem genApplicable (hg:GenR w (All w) gv t T) (hs:V w sv s) (hfit:StateOk t.vars s→Fits s T) (hlen:(coll s T).length≤1000000) (hsl:s.length≤1000000) :
    Fn Try.prog 64 [gv,sv] w fun v w'=>Ext w w'∧Own w' w.heap.size (All w) 3 v (findL t T s):=by
  refine AK Try.func64 rfl Try.ntmps64 rfl ?_
  ((repeat (first|refine Ah ?_|refine Al ?_|refine Ae ?_|refine Am ?_|refine At ?_|refine Au ?_|refine Ar rfl ?_|refine Aj rfl ?_))<;>(refine o_as rfl rfl ?_<;>(first|refine Ay ?_|refine Az ?_|refine Aw ?_|refine AA ?_))<;>(repeat (first|refine Ah ?_|refine Al ?_|refine Ae ?_|refine Am ?_|refine At ?_|refine Au ?_|refine Ar rfl ?_|refine Aj rfl ?_))<;>(refine o_mv rfl rfl ?_<;>refine o_mv rfl rfl ?_)<;>(repeat (first|refine Ah ?_|refine Al ?_|refine Ae ?_|refine Am ?_|refine At ?_|refine Au ?_|refine Ar rfl ?_|refine Aj rfl ?_)))
  refine AZ rfl rfl (genFind hg hs hfit hlen hsl) ?_
  rintro _ w1 ⟨hE,u,rfl,ho⟩
  (refine o_mv rfl rfl ?_<;>refine o_ex rfl rfl rfl ?_<;>refine o_ex rfl rfl rfl ?_<;>refine o_as rfl rfl ?_<;>refine o_as rfl rfl ?_<;>(first|refine Ay ?_|refine Az ?_|refine Aw ?_|refine AA ?_))
  repeat (first|refine Ah ?_|refine Al ?_|refine Ae ?_|refine Am ?_|refine At ?_|refine Au ?_|refine Ar rfl ?_|refine Aj rfl ?_)
  ((repeat (first|refine Ah ?_|refine Al ?_|refine Ae ?_|refine Am ?_|refine At ?_|refine Au ?_|refine Ar rfl ?_|refine Aj rfl ?_))<;>(refine o_mv rfl rfl ?_<;>refine o_as rfl rfl ?_<;>(first|refine Ay ?_|refine Az ?_|refine Aw ?_|refine AA ?_))<;>(repeat (first|refine Ah ?_|refine Al ?_|refine Ae ?_|refine Am ?_|refine At ?_|refine Au ?_|refine Ar rfl ?_|refine Aj rfl ?_)))
  exact ret1 rfl rfl ⟨hE,ho⟩
theorem Own.form {α:Type} [Rp α] {w:World} {base:Nat} {F:Nat→Prop} {e:TypeId} {v:Value} {xs:List α} (h:Own w base F e v xs):∃ A c,v=.slice A xs.length c:=h.vb.form
end
structure Suc where
  op:Int
  state:List Int
instance:Rp Suc where
  isAgg:=true
  size:=2
  R w F cs x:=∃ v,cs=[.int .i64 x.op,v]∧Vb w F v x.state∧inI64 x.op
  len:=by rintro w F cs x ⟨v,rfl,_⟩;rfl
  one:=by rintro w F cs x ⟨v,rfl,h,_⟩ u hu;simp at hu;rcases hu with rfl|rfl<;>first|rfl|exact Vb.one rfl (by assumption)
  agree:=by rintro w w' F cs x ⟨v,rfl,h,h2⟩ ha;exact ⟨v,rfl,h.agree ha,h2⟩
  mono:=by rintro w F G cs x ⟨v,rfl,h,h2⟩ ha;exact ⟨v,rfl,h.mono ha,h2⟩
def sucOf (t:Tsk) (s:List Int) (op:Int):Suc:=⟨op,match t.ops[op.toNat]? with|some o=>succ o s|none=>s⟩
end
section
open Go Go.RowKit
attribute [local irreducible] ewp owp hwp hwq hws Ev Evg Fn retPost loud loudS Res1
def GenB (w:World) (F:Nat→Prop) (gv:Value) (t:Tsk):Prop :=
  ∃ gb a b c d rp,gv=.pointer (some ⟨gb,0,none⟩)∧F gb∧Blk w gb 129 [a,b,c,d,.pointer rp]∧Vb w F a t.vars∧Vb w F b t.init∧Vb w F c t.goal∧Vb w F d t.ops
theorem GenB.agree {w w':World} {F:Nat→Prop} {gv:Value} {t:Tsk} (h:GenB w F gv t) (ha:Agree F w w'):GenB w' F gv t:=by
  obtain ⟨gb,a,b,c,d,r,h1,h2,h3,h4,h5,h6,h7⟩:=h
  exact ⟨gb,a,b,c,d,r,h1,h2,h3.keep (ha gb h2),h4.agree ha,h5.agree ha,h6.agree ha,h7.agree ha⟩
theorem GenB.mono {w:World} {F G:Nat→Prop} {gv:Value} {t:Tsk} (h:GenB w F gv t) (ha:∀ k,F k→G k):GenB w G gv t:=by
  obtain ⟨gb,a,b,c,d,r,h1,h2,h3,h4,h5,h6,h7⟩:=h
  exact ⟨gb,a,b,c,d,r,h1,ha _ h2,h3,h4.mono ha,h5.mono ha,h6.mono ha,h7.mono ha⟩
theorem GenB.ext {w w':World} {gv:Value} {t:Tsk} (h:GenB w (All w) gv t) (hE:Ext w w'):GenB w' (All w') gv t:=(h.agree (hE.agree fun _ h=>h)).mono fun k hk=>Nat.lt_of_lt_of_le hk hE.size
def factOn (l:List Fct) (v:Int):Option Fct:=l.find? fun f=>decide (f.var=v)
def factV:Option Fct→Value
  | some f=>.tuple #[.agg #[.int .i64 f.var,.int .i64 f.val],.bool true]
  | none=>.tuple #[.agg #[.int .i64 0,.int .i64 0],.bool false]
theorem IO {α:Type} (p:α→Bool):∀ {l:List α} {k:Nat} {x:α},l[k]?=some x→p x=true→(∀ i,i < k→∀ y,l[i]?=some y→p y=false)→l.find? p=some x
  | [],_,_,h,_,_=>by simp at h
  | y :: l,0,x,h,hp,_=>by
    have:y=x:=by simpa using h
    subst this;simp [hp]
  | y :: l,k + 1,x,h,hp,hn=>by
    have hy:=hn 0 (by omega) y rfl
    rw [List.find?_cons,hy]
    exact IO p (k:=k) (by simpa using h) hp fun i hi z hz=>hn (i + 1) (by omega) z (by simpa using hz)
theorem KW {α:Type} (p:α→Bool) {l:List α} (hn:∀ i,i < l.length→∀ y,l[i]?=some y→p y=false):l.find? p=none:=by
  rw [List.find?_eq_none]
  intro x hx
  obtain ⟨i,hi⟩:=List.getElem?_of_mem hx
  simp [hn i (Bd hi) x hi]
theorem genFact {w:World} {gv:Value} {t:Tsk} {j:Nat} {o:Opr} {v:Int} (hg:GenB w (All w) gv t) (ho:t.ops[j]?=some o) :
    Fn Try.prog 87 [gv,.int .i64 (j:Int),.int .i64 v] w fun r w'=>r=factV (factOn o.pre v)∧Ext w w':=by
  obtain ⟨gb,a,b,c,d,rp,rfl,hgb,hb0,hvars,hinit,hgoal,hops⟩:=hg
  obtain ⟨Ao,co,rfl⟩:=hops.form
  obtain ⟨b2,o2,ce,rfl,hbl,hjl,hd0,p,q,rfl,hp,hq,hc,hnm⟩:=hops.elem ho
  obtain ⟨Ap,cp,rfl⟩:=hp.form
  have hpl:=hp.len
  refine AK Try.func87 rfl Try.ntmps87 rfl ?_
  repeat (first|refine Ah ?_|refine Al ?_|refine Ae ?_|refine Am ?_|refine At ?_|refine Au ?_|refine Ar rfl ?_|refine Aj rfl ?_)
  refine Dh rfl fun w1 hN1=>?_
  have hres:=hN1.blk
  have hE1:Ext w w1:=hN1.ext
  have hb1:=hb0.ext hE1
  have hd1:=GZ hd0 hbl hE1
  (refine o_as rfl rfl ?_<;>(first|refine Ay ?_|refine Az ?_|refine Aw ?_|refine AA ?_))
  repeat (first|refine Ah ?_|refine Al ?_|refine Ae ?_|refine Am ?_|refine At ?_|refine Au ?_|refine Ar rfl ?_|refine Aj rfl ?_)
  ((repeat (first|refine Ah ?_|refine Al ?_|refine Ae ?_|refine Am ?_|refine At ?_|refine Au ?_|refine Ar rfl ?_|refine Aj rfl ?_))<;>(refine o_mv rfl rfl ?_<;>refine o_nc rfl rfl ?_<;>refine o_fa rfl rfl ?_<;>refine o_fa rfl rfl ?_<;>refine o_ld rfl rfl ?_<;>refine o_mv rfl rfl ?_<;>refine o_ia rfl rfl rfl ?_<;>refine o_fa rfl rfl ?_<;>refine o_ld rfl rfl ?_<;>refine o_ln rfl rfl ?_<;>refine o_mv rfl rfl ?_<;>(first|refine Ay ?_|refine Az ?_|refine Aw ?_|refine AA ?_))<;>(repeat (first|refine Ah ?_|refine Al ?_|refine Ae ?_|refine Am ?_|refine At ?_|refine Au ?_|refine Ar rfl ?_|refine Aj rfl ?_)))
  refine Bi o.pre.length (by omega) (fun _:Unit=>[(2,.int .i64 v),(6,.pointer (some ⟨w.heap.size,0,none⟩)),(18,.slice Ap o.pre.length cp)]) (fun k _ w'=>Ext w1 w'∧∀ i,i < k→∀ f,o.pre[i]?=some f→decide (f.var=v)=false) ()
    ⟨Below.refl _ _,fun i hi=>by omega⟩ ⟨rfl,rfl,rfl,rfl,rfl,trivial⟩ (fun _=>⟨rfl,rfl⟩) ⟨rfl,rfl,rfl⟩ ⟨rfl,rfl⟩ ?_ ?_
  · rintro k _ w2 hk ⟨hE2,hh⟩
    obtain ⟨f,hf⟩:=AH hk
    obtain ⟨b3,o3,ce,rfl,_,_,hd1,rfl,hr1,hr2⟩:=(hp.ext (hE1.trans' hE2)).elem hf
    ((repeat (first|refine Ah ?_|refine Al ?_|refine Ae ?_|refine Am ?_|refine At ?_|refine Au ?_|refine Ar rfl ?_|refine Aj rfl ?_))<;>(refine o_ia rfl rfl rfl ?_<;>refine o_la rfl rfl ?_)<;>(repeat (first|refine Ah ?_|refine Al ?_|refine Ae ?_|refine Am ?_|refine At ?_|refine Au ?_|refine Ar rfl ?_|refine Aj rfl ?_)))
    refine Bz rfl rfl rfl (by simp [Value.cells,Value.oneCell']) fun w3 hN3=>?_
    have hb2:=hN3.blk
    have hE3:Ext w1 w3:=hE2.trans' hN3.ext
    replace hres:=hres.ext hE3
    ((first|refine Ay ?_|refine Az ?_|refine Aw ?_|refine AA ?_))
    repeat (first|refine Ah ?_|refine Al ?_|refine Ae ?_|refine Am ?_|refine At ?_|refine Au ?_|refine Ar rfl ?_|refine Aj rfl ?_)
    ((repeat (first|refine Ah ?_|refine Al ?_|refine Ae ?_|refine Am ?_|refine At ?_|refine Au ?_|refine Ar rfl ?_|refine Aj rfl ?_))<;>(refine o_fa rfl rfl ?_<;>refine o_ld rfl rfl ?_<;>refine o_mv rfl rfl ?_<;>(first|refine o_eeT rfl rfl rfl ?_|refine o_eeF rfl rfl rfl ?_|refine o_eeS rfl rfl rfl (fun _=>?_) fun _=>?_)<;>(first|refine Ay ?_|refine Az ?_|refine Aw ?_|refine AA ?_))<;>(repeat (first|refine Ah ?_|refine Al ?_|refine Ae ?_|refine Am ?_|refine At ?_|refine Au ?_|refine Ar rfl ?_|refine Aj rfl ?_)))
    · (refine o_la rfl rfl ?_)
      refine By rfl rfl hres rfl (Nat.le_refl _) (by simp [Value.cells,Value.oneCell']) fun w4 hU=>?_
      (refine o_as rfl rfl ?_<;>(first|refine Ay ?_|refine Az ?_|refine Aw ?_|refine AA ?_))
      repeat (first|refine Ah ?_|refine Al ?_|refine Ae ?_|refine Am ?_|refine At ?_|refine Au ?_|refine Ar rfl ?_|refine Aj rfl ?_)
      refine ret2 rfl (BD rfl rfl hU.blk.cellsAt) (AG rfl) ⟨?_,hE1.trans ((hE3.mono hE1.size).trans (hU.below (Nat.le_refl _)))⟩
      rw [factOn,IO _ hf (by simpa using ‹f.var=v›) hh]
      rfl
    · exact ⟨(),⟨rfl,rfl,rfl,rfl,rfl,trivial⟩,hE3,Ce hh fun f' hf'=>by rw [hf] at hf';injection hf' with hf';subst hf';simpa using ‹¬ f.var=v›⟩
  rintro _ w2 ⟨hE2,hh⟩
  replace hres:=hres.ext hE2
  repeat (first|refine Ah ?_|refine Al ?_|refine Ae ?_|refine Am ?_|refine At ?_|refine Au ?_|refine Ar rfl ?_|refine Aj rfl ?_)
  (refine o_bd rfl rfl rfl ?_)
  refine By rfl rfl hres rfl (Nat.le_refl _) (by simp [Value.cells,Value.oneCell',setParts]) fun w4 hU=>?_
  (refine o_as rfl rfl ?_<;>(first|refine Ay ?_|refine Az ?_|refine Aw ?_|refine AA ?_))
  repeat (first|refine Ah ?_|refine Al ?_|refine Ae ?_|refine Am ?_|refine At ?_|refine Au ?_|refine Ar rfl ?_|refine Aj rfl ?_)
  refine ret2 rfl (BD rfl rfl hU.blk.cellsAt) (AG rfl) ⟨?_,hE1.trans ((hE2.mono hE1.size).trans (hU.below (Nat.le_refl _)))⟩
  rw [factOn,KW _ hh]
  rfl
theorem genBuild1 {w:World} {gv:Value} {t:Tsk} {j:Nat} {o:Opr} {v:Int} {g1 g2:Nat} {r1 r2:TypeId} (hg:GenB w (All w) gv t) (ho:t.ops[j]?=some o) (h1:Blk w g1 r1 [gv]) (h2:Blk w g2 r2 [.int .i64 v]) :
    Fn Try.prog 86 ([.int .i64 (j:Int)] ++ [.pointer (some ⟨g1,0,none⟩),.pointer (some ⟨g2,0,none⟩)]) w fun r w'=>r=.bool (factOn o.pre v).isSome∧Ext w w':=by
  have hb1:=h1
  have hb2:=h2
  refine AK Try.func86 rfl Try.ntmps86 rfl ?_
  ((repeat (first|refine Ah ?_|refine Al ?_|refine Ae ?_|refine Am ?_|refine At ?_|refine Au ?_|refine Ar rfl ?_|refine Aj rfl ?_))<;>(refine o_as rfl rfl ?_<;>(first|refine Ay ?_|refine Az ?_|refine Aw ?_|refine AA ?_))<;>(repeat (first|refine Ah ?_|refine Al ?_|refine Ae ?_|refine Am ?_|refine At ?_|refine Au ?_|refine Ar rfl ?_|refine Aj rfl ?_))<;>(refine o_ld rfl rfl ?_<;>refine o_mv rfl rfl ?_<;>refine o_ld rfl rfl ?_)<;>(repeat (first|refine Ah ?_|refine Al ?_|refine Ae ?_|refine Am ?_|refine At ?_|refine Au ?_|refine Ar rfl ?_|refine Aj rfl ?_)))
  refine AZ rfl rfl (genFact hg ho) ?_
  rintro _ w1 ⟨rfl,hE1⟩
  cases hf:factOn o.pre v with
  | none =>
    simp only [factV]
    (refine o_mv rfl rfl ?_<;>refine o_ex rfl rfl rfl ?_<;>refine o_ex rfl rfl rfl ?_)
    refine Bz rfl rfl rfl (by simp [Value.cells,Value.oneCell']) fun w2 hN2=>?_
    (refine o_as rfl rfl ?_<;>(first|refine Ay ?_|refine Az ?_|refine Aw ?_|refine AA ?_))
    repeat (first|refine Ah ?_|refine Al ?_|refine Ae ?_|refine Am ?_|refine At ?_|refine Au ?_|refine Ar rfl ?_|refine Aj rfl ?_)
    ((repeat (first|refine Ah ?_|refine Al ?_|refine Ae ?_|refine Am ?_|refine At ?_|refine Au ?_|refine Ar rfl ?_|refine Aj rfl ?_))<;>(refine o_mv rfl rfl ?_<;>refine o_as rfl rfl ?_<;>(first|refine Ay ?_|refine Az ?_|refine Aw ?_|refine AA ?_))<;>(repeat (first|refine Ah ?_|refine Al ?_|refine Ae ?_|refine Am ?_|refine At ?_|refine Au ?_|refine Ar rfl ?_|refine Aj rfl ?_)))
    exact ret1 rfl rfl ⟨rfl,hE1.trans' hN2.ext⟩
  | some f =>
    simp only [factV]
    (refine o_mv rfl rfl ?_<;>refine o_ex rfl rfl rfl ?_<;>refine o_ex rfl rfl rfl ?_)
    refine Bz rfl rfl rfl (by simp [Value.cells,Value.oneCell']) fun w2 hN2=>?_
    (refine o_as rfl rfl ?_<;>(first|refine Ay ?_|refine Az ?_|refine Aw ?_|refine AA ?_))
    repeat (first|refine Ah ?_|refine Al ?_|refine Ae ?_|refine Am ?_|refine At ?_|refine Au ?_|refine Ar rfl ?_|refine Aj rfl ?_)
    ((repeat (first|refine Ah ?_|refine Al ?_|refine Ae ?_|refine Am ?_|refine At ?_|refine Au ?_|refine Ar rfl ?_|refine Aj rfl ?_))<;>(refine o_mv rfl rfl ?_<;>refine o_as rfl rfl ?_<;>(first|refine Ay ?_|refine Az ?_|refine Aw ?_|refine AA ?_))<;>(repeat (first|refine Ah ?_|refine Al ?_|refine Ae ?_|refine Am ?_|refine At ?_|refine Au ?_|refine Ar rfl ?_|refine Aj rfl ?_)))
    exact ret1 rfl rfl ⟨rfl,hE1.trans' hN2.ext⟩
end
section
open Go Go.RowKit
attribute [local irreducible] ewp owp hwp hwq hws Ev Evg Fn retPost loud loudS Res1
theorem indexFuncInts {w:World} {sv:Value} {xs:List (Int)} {g:FuncId} [Callable Try.prog g] {caps:List Value} {p:Int→Prop} (hs:V w sv xs)
    (hg:∀ v x w',x∈xs→Ext w w'→V w' v x→Fn Try.prog g ([v] ++ caps) w' fun r w''=>r=.bool (bof (p x))∧Ext w' w'') :
    Fn Try.prog 90 [sv,.func (.func g) #[] caps.toArray] w fun v w'=>((∃ k:Nat,v=.int .i64 (k:Int)∧∃ x∈xs,p x)∨(v=.int .i64 (-1)∧∀ x∈xs,¬ p x))∧Ext w w':=by
  obtain ⟨A,c,rfl⟩:=hs.form
  have hl:=hs.len
  refine AK Try.func90 rfl Try.ntmps90 rfl ?_
  ((repeat (first|refine Ah ?_|refine Al ?_|refine Ae ?_|refine Am ?_|refine At ?_|refine Au ?_|refine Ar rfl ?_|refine Aj rfl ?_))<;>(refine o_as rfl rfl ?_<;>(first|refine Ay ?_|refine Az ?_|refine Aw ?_|refine AA ?_))<;>(repeat (first|refine Ah ?_|refine Al ?_|refine Ae ?_|refine Am ?_|refine At ?_|refine Au ?_|refine Ar rfl ?_|refine Aj rfl ?_))<;>(refine o_mv rfl rfl ?_<;>refine o_ln rfl rfl ?_<;>refine o_mv rfl rfl ?_<;>(first|refine Ay ?_|refine Az ?_|refine Aw ?_|refine AA ?_))<;>(repeat (first|refine Ah ?_|refine Al ?_|refine Ae ?_|refine Am ?_|refine At ?_|refine Au ?_|refine Ar rfl ?_|refine Aj rfl ?_)))
  refine Bi xs.length (by omega) (fun _:Unit=>[(0,.slice A xs.length c),(1,.func (.func g) #[] caps.toArray)]) (fun k _ w'=>Ext w w'∧∀ i,i < k→∀ x,xs[i]?=some x→¬ p x) ()
    ⟨Below.refl _ _,fun i hi=>by omega⟩ ⟨rfl,rfl,rfl,rfl,trivial⟩ (fun _=>⟨rfl,rfl⟩) ⟨rfl,rfl,rfl⟩ ⟨rfl,rfl⟩ ?_ ?_
  · rintro k _ w1 hk ⟨hE,hh⟩
    obtain ⟨x,hx⟩:=AH hk
    obtain ⟨b,o,ce,rfl,_,_,hd1,hR⟩:=(hs.ext hE).elem hx
    obtain ⟨v,rfl⟩:=List.length_eq_one_iff.1 (Rp.len hR)
    ((repeat (first|refine Ah ?_|refine Al ?_|refine Ae ?_|refine Am ?_|refine At ?_|refine Au ?_|refine Ar rfl ?_|refine Aj rfl ?_))<;>(refine o_mv rfl rfl ?_<;>refine o_as rfl rfl ?_<;>(first|refine Ay ?_|refine Az ?_|refine Aw ?_|refine AA ?_))<;>(repeat (first|refine Ah ?_|refine Al ?_|refine Ae ?_|refine Am ?_|refine At ?_|refine Au ?_|refine Ar rfl ?_|refine Aj rfl ?_))<;>(refine o_mv rfl rfl ?_<;>refine o_mv rfl rfl ?_<;>refine o_mv rfl rfl ?_<;>refine o_ia rfl rfl rfl ?_<;>refine o_ld rfl rfl ?_)<;>(repeat (first|refine Ah ?_|refine Al ?_|refine Ae ?_|refine Am ?_|refine At ?_|refine Au ?_|refine Ar rfl ?_|refine Aj rfl ?_)))
    refine ID rfl rfl rfl (hg v x w1 (List.mem_of_getElem? hx) hE hR) ?_
    rintro _ w2 ⟨rfl,hE2⟩
    by_cases hp:p x
    · rw [bof_t hp]
      ((first|refine Ay ?_|refine Az ?_|refine Aw ?_|refine AA ?_))
      repeat (first|refine Ah ?_|refine Al ?_|refine Ae ?_|refine Am ?_|refine At ?_|refine Au ?_|refine Ar rfl ?_|refine Aj rfl ?_)
      ((repeat (first|refine Ah ?_|refine Al ?_|refine Ae ?_|refine Am ?_|refine At ?_|refine Au ?_|refine Ar rfl ?_|refine Aj rfl ?_))<;>(refine o_mv rfl rfl ?_<;>refine o_as rfl rfl ?_<;>(first|refine Ay ?_|refine Az ?_|refine Aw ?_|refine AA ?_))<;>(repeat (first|refine Ah ?_|refine Al ?_|refine Ae ?_|refine Am ?_|refine At ?_|refine Au ?_|refine Ar rfl ?_|refine Aj rfl ?_)))
      exact ret1 rfl rfl ⟨.inl ⟨k,rfl,x,List.mem_of_getElem? hx,hp⟩,hE.trans' hE2⟩
    · rw [bof_f hp]
      ((first|refine Ay ?_|refine Az ?_|refine Aw ?_|refine AA ?_))
      repeat (first|refine Ah ?_|refine Al ?_|refine Ae ?_|refine Am ?_|refine At ?_|refine Au ?_|refine Ar rfl ?_|refine Aj rfl ?_)
      exact ⟨(),⟨rfl,rfl,rfl,rfl,trivial⟩,hE.trans' hE2,Ce hh fun x' hx'=>by rw [hx] at hx';injection hx' with hx';exact hx' ▸ hp⟩
  rintro _ w1 ⟨hE,hh⟩
  repeat (first|refine Ah ?_|refine Al ?_|refine Ae ?_|refine Am ?_|refine At ?_|refine Au ?_|refine Ar rfl ?_|refine Aj rfl ?_)
  ((repeat (first|refine Ah ?_|refine Al ?_|refine Ae ?_|refine Am ?_|refine At ?_|refine Au ?_|refine Ar rfl ?_|refine Aj rfl ?_))<;>(refine o_as rfl rfl ?_<;>(first|refine Ay ?_|refine Az ?_|refine Aw ?_|refine AA ?_))<;>(repeat (first|refine Ah ?_|refine Al ?_|refine Ae ?_|refine Am ?_|refine At ?_|refine Au ?_|refine Ar rfl ?_|refine Aj rfl ?_)))
  refine ret1 rfl rfl ⟨.inr ⟨rfl,fun x hx=>?_⟩,hE⟩
  obtain ⟨i,hi⟩:=List.getElem?_of_mem hx
  exact hh i (Bd hi) x hi
theorem containsFuncInts {w:World} {sv:Value} {xs:List (Int)} {g:FuncId} [Callable Try.prog g] {caps:List Value} {p:Int→Prop} (hs:V w sv xs)
    (hg:∀ v x w',x∈xs→Ext w w'→V w' v x→Fn Try.prog g ([v] ++ caps) w' fun r w''=>r=.bool (bof (p x))∧Ext w' w'') :
    Fn Try.prog 85 [sv,.func (.func g) #[] caps.toArray] w fun v w'=>v=.bool (bof (∃ x∈xs,p x))∧Ext w w':=by
  refine AK Try.func85 rfl Try.ntmps85 rfl ?_
  ((repeat (first|refine Ah ?_|refine Al ?_|refine Ae ?_|refine Am ?_|refine At ?_|refine Au ?_|refine Ar rfl ?_|refine Aj rfl ?_))<;>(refine o_as rfl rfl ?_<;>(first|refine Ay ?_|refine Az ?_|refine Aw ?_|refine AA ?_))<;>(repeat (first|refine Ah ?_|refine Al ?_|refine Ae ?_|refine Am ?_|refine At ?_|refine Au ?_|refine Ar rfl ?_|refine Aj rfl ?_))<;>(refine o_mv rfl rfl ?_<;>refine o_mv rfl rfl ?_)<;>(repeat (first|refine Ah ?_|refine Al ?_|refine Ae ?_|refine Am ?_|refine At ?_|refine Au ?_|refine Ar rfl ?_|refine Aj rfl ?_)))
  refine AZ rfl rfl (indexFuncInts hs hg) ?_
  rintro v w1 ⟨h,hE⟩
  rcases h with ⟨k,rfl,h⟩|⟨rfl,h⟩
  · ((first|refine o_geT rfl rfl rfl ?_|refine o_geF rfl rfl rfl ?_)<;>refine o_as rfl rfl ?_<;>(first|refine Ay ?_|refine Az ?_|refine Aw ?_|refine AA ?_))
    repeat (first|refine Ah ?_|refine Al ?_|refine Ae ?_|refine Am ?_|refine At ?_|refine Au ?_|refine Ar rfl ?_|refine Aj rfl ?_)
    exact ret1 rfl rfl ⟨by rw [bof_t h],hE⟩
  · ((first|refine o_geT rfl rfl rfl ?_|refine o_geF rfl rfl rfl ?_)<;>refine o_as rfl rfl ?_<;>(first|refine Ay ?_|refine Az ?_|refine Aw ?_|refine AA ?_))
    repeat (first|refine Ah ?_|refine Al ?_|refine Ae ?_|refine Am ?_|refine At ?_|refine Au ?_|refine Ar rfl ?_|refine Aj rfl ?_)
    exact ret1 rfl rfl ⟨by rw [bof_f (fun ⟨x,hx,hp⟩=>h x hx hp)],hE⟩
end
end Go.Proofs.Ythomfnkaicjmbaa

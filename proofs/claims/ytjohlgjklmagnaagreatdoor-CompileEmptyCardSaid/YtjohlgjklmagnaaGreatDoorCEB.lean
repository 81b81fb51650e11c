/- Own text: what the proof of compileEmpty_holds uses, part 2: rules, models and their proofs, plain laws. -/
import Derived.Test.YtjohlgjklmagnaaGreatDoorCEA
set_option linter.unusedVariables false
set_option linter.unusedSimpArgs false
namespace Go.Proofs.YtjohlgjklmagnaaGreatDoor
open Go Go.RowKit
section
open Go Go.RowKit
section
variable {P : Program} {l : Env} {w : World} {dst : Option Tmp} {ty : TypeId} {pos : String} {aft : Array Edge}
theorem Ko {t u:TypeId} {x y:Operand} {a b c:Int} (hx:opv l x=some (.int .i64 a)) (hy:opv l y=some (.int .i64 b)) (he:chkI (a + b)=some c):Ev P ⟨dst,.binOp .add t x y u,ty,pos,aft,none⟩ l w (.int .i64 c):=by
  obtain ⟨rfl,h⟩:=HL he
  exact LE hx hy h
theorem Kp {t u:TypeId} {x y:Operand} {a b c:Int} (hx:opv l x=some (.int .i64 a)) (hy:opv l y=some (.int .i64 b)) (he:chkI (a - b)=some c):Ev P ⟨dst,.binOp .sub t x y u,ty,pos,aft,none⟩ l w (.int .i64 c):=by
  obtain ⟨rfl,h⟩:=HL he
  exact OH hx hy h
theorem Kq {t u:TypeId} {x y:Operand} {a b c:Int} (hx:opv l x=some (.int .i64 a)) (hy:opv l y=some (.int .i64 b)) (he:chkI (a * b)=some c):Ev P ⟨dst,.binOp .mul t x y u,ty,pos,aft,none⟩ l w (.int .i64 c):=by
  obtain ⟨rfl,h⟩:=HL he
  exact OI hx hy h
theorem Ni {t u:TypeId} {x y:Operand} {a b:Int} (hx:opv l x=some (.int .i64 a)) (hy:opv l y=some (.int .i64 b)):Ev P ⟨dst,.binOp .add t x y u,ty,pos,aft,none⟩ l w (.int .i64 (wr (a + b))):=fun _ _ d ha=>by
  simp [execOp,ha.eval hx,ha.eval hy,eqGuard,binOp,Op.intArith,wr]
theorem LN {t e:TypeId} [TSlice P t e] {z:Value} {size bytes:Nat} [TInfo P e z size bytes] {x i:Operand} {k:IntKind} {A:Option Addr} {b o m c j:Nat} {q:Int} (hx:opv l x=some (.slice A m c)) (hq:opv l i=some (.int k q)) (hA:A=some ⟨b,o,none⟩) (hj:q=(j:Int)) (hlt:j < m) :
    Ev P ⟨dst,.indexAddr t x i,ty,pos,aft,none⟩ l w (.pointer (some ⟨b,o + j * size,none⟩)):=by
  subst hA
  exact Gu hx hq hj hlt
theorem OT {t:TypeId} [TStr P t] {x i:Operand} {k:IntKind} {s:ByteArray} {q c:Int} (hx:opv l x=some (.string s)) (hq:opv l i=some (.int k q)) (he:bytI s q=some c):Ev P ⟨dst,.index t x i,ty,pos,aft,none⟩ l w (.int .u8 c):=by
  obtain ⟨j,rfl,hlt,rfl⟩:=KX he
  exact LG hx hq hlt
theorem OU {x:Operand} {n:Int} [TInt P 44 .i64] (hx:opv l x=some (.int .i64 n)) (hn:n≠0):Ev P ⟨dst,.makeInterface 44 x,ty,pos,aft,none⟩ l w (errV n):=by
  rw [Iu hn]
  exact Kd hx
theorem Pm {t u:TypeId} [h:TBool P t] {x y:Operand} {a b:Bool} (hx:opv l x=some (.bool a)) (hy:opv l y=some (.bool b)):Ev P ⟨dst,.binOp .eql t x y u,ty,pos,aft,none⟩ l w (.bool (a == b)):=fun _ _ e ha=>by
  have hd:∀ n:Nat,(Op.equalIn (n + 1) t (.bool a) (.bool b)).run P (dr w e)=.ok (a == b) (dr w e):=fun n=>by simp [Op.equalIn,run_underlying h.eq]
  have h2:(Op.equal t (.bool a) (.bool b)).run P (dr w e)=.ok (a == b) (dr w e):=hd 9999
  simp [execOp,ha.eval hx,ha.eval hy,eqGuard,binOp,h2]
theorem Pn {t u:TypeId} [h:TBool P t] {x y:Operand} {a b:Bool} (hx:opv l x=some (.bool a)) (hy:opv l y=some (.bool b)):Ev P ⟨dst,.binOp .neq t x y u,ty,pos,aft,none⟩ l w (.bool (!(a == b))):=fun _ _ e ha=>by
  have hd:∀ n:Nat,(Op.equalIn (n + 1) t (.bool a) (.bool b)).run P (dr w e)=.ok (a == b) (dr w e):=fun n=>by simp [Op.equalIn,run_underlying h.eq]
  have h2:(Op.equal t (.bool a) (.bool b)).run P (dr w e)=.ok (a == b) (dr w e):=hd 9999
  simp [execOp,ha.eval hx,ha.eval hy,eqGuard,binOp,h2]
theorem Oj {t u:TypeId} [TIface P t] {x:Operand} {n:Int} (hx:opv l x=some (errV n)):Ev P ⟨dst,.binOp .eql t x (.const .nilIface) u,ty,pos,aft,none⟩ l w (.bool (decide (n=0))):=by
  by_cases h:n=0
  · subst h
    rw [IX] at hx
    exact KU hx
  · rw [Iu h] at hx
    simpa [h] using Ke (P:=P) (w:=w) (dst:=dst) (ty:=ty) (pos:=pos) (aft:=aft) (t:=t) (u:=u) hx
theorem Ol {t u:TypeId} [TIface P t] {x:Operand} {n:Int} (hx:opv l x=some (errV n)):Ev P ⟨dst,.binOp .neq t x (.const .nilIface) u,ty,pos,aft,none⟩ l w (.bool (decide (n≠0))):=by
  by_cases h:n=0
  · subst h
    rw [IX] at hx
    exact Mz hx
  · rw [Iu h] at hx
    simpa [h] using Mc (P:=P) (w:=w) (dst:=dst) (ty:=ty) (pos:=pos) (aft:=aft) (t:=t) (u:=u) hx
end
section
variable {P : Program} {n : Nat} {ops : Array Oper} {Q : Post} {rest : List Oper} {l : Env} {w : World} {d : Tmp} {ty : TypeId} {pos : String} {aft : Array Edge}
theorem DM {t u:TypeId} {x y:Operand} {a b c:Int} (hx:opv l x=some (.int .i64 a)) (hy:opv l y=some (.int .i64 b)) (hd:Nat.blt d n=true) (h:owp P n ops Q rest ((d,.int .i64 c) :: l) w) (he:chkI (a + b)=some c:=by assumption):owp P n ops Q (⟨some d,.binOp .add t x y u,ty,pos,aft,none⟩ :: rest) l w:=Bk (Ko hx hy he) hd h
theorem Kr {t u:TypeId} {x y:Operand} {a b c:Int} (hx:opv l x=some (.int .i64 a)) (hy:opv l y=some (.int .i64 b)) (hd:Nat.blt d n=true) (h:owp P n ops Q rest ((d,.int .i64 c) :: l) w) (he:chkI (a - b)=some c:=by assumption):owp P n ops Q (⟨some d,.binOp .sub t x y u,ty,pos,aft,none⟩ :: rest) l w:=Bk (Kp hx hy he) hd h
theorem HM {t u:TypeId} {x y:Operand} {a b c:Int} (hx:opv l x=some (.int .i64 a)) (hy:opv l y=some (.int .i64 b)) (hd:Nat.blt d n=true) (h:owp P n ops Q rest ((d,.int .i64 c) :: l) w) (he:chkI (a * b)=some c:=by assumption):owp P n ops Q (⟨some d,.binOp .mul t x y u,ty,pos,aft,none⟩ :: rest) l w:=Bk (Kq hx hy he) hd h
theorem Lw {t u:TypeId} {x y:Operand} {a b:Int} (hx:opv l x=some (.int .i64 a)) (hy:opv l y=some (.int .i64 b)) (hd:Nat.blt d n=true) (h:owp P n ops Q rest ((d,.int .i64 (wr (a + b))) :: l) w)  : owp P n ops Q (⟨some d,.binOp .add t x y u,ty,pos,aft,none⟩ :: rest) l w:=Bk (Ni hx hy) hd h
theorem Bz {t e:TypeId} [TSlice P t e] {z:Value} {size bytes:Nat} [TInfo P e z size bytes] {x i:Operand} {k:IntKind} {A:Option Addr} {b o m c j:Nat} {q:Int} (hx:opv l x=some (.slice A m c)) (hq:opv l i=some (.int k q)) (hd:Nat.blt d n=true) (h:owp P n ops Q rest ((d,.pointer (some ⟨b,o + j * size,none⟩)) :: l) w) (hA:A=some ⟨b,o,none⟩:=by assumption) (hj:q=(j:Int):=by rfl) (hlt:j < m:=by assumption):owp P n ops Q (⟨some d,.indexAddr t x i,ty,pos,aft,none⟩ :: rest) l w:=Bk (LN hx hq hA hj hlt) hd h
theorem NY {t:TypeId} [TStr P t] {x i:Operand} {k:IntKind} {s:ByteArray} {q c:Int} (hx:opv l x=some (.string s)) (hq:opv l i=some (.int k q)) (hd:Nat.blt d n=true) (h:owp P n ops Q rest ((d,.int .u8 c) :: l) w) (he:bytI s q=some c:=by assumption):owp P n ops Q (⟨some d,.index t x i,ty,pos,aft,none⟩ :: rest) l w:=Bk (OT hx hq he) hd h
theorem IY {t u:TypeId} [TBool P t] {x y:Operand} {a b:Bool} (hx:opv l x=some (.bool a)) (hy:opv l y=some (.bool b)) (hd:Nat.blt d n=true) (h:owp P n ops Q rest ((d,.bool (a == b)) :: l) w)  : owp P n ops Q (⟨some d,.binOp .eql t x y u,ty,pos,aft,none⟩ :: rest) l w:=Bk (Pm hx hy) hd h
theorem ML {t u:TypeId} [TBool P t] {x y:Operand} {a b:Bool} (hx:opv l x=some (.bool a)) (hy:opv l y=some (.bool b)) (hd:Nat.blt d n=true) (h:owp P n ops Q rest ((d,.bool (!(a == b))) :: l) w)  : owp P n ops Q (⟨some d,.binOp .neq t x y u,ty,pos,aft,none⟩ :: rest) l w:=Bk (Pn hx hy) hd h
theorem FL [TInt P 44 .i64] {x:Operand} {q:Int} (hx:opv l x=some (.int .i64 q)) (hd:Nat.blt d n=true) (h:owp P n ops Q rest ((d,errV q) :: l) w) (hn:q≠0:=by decide):owp P n ops Q (⟨some d,.makeInterface 44 x,ty,pos,aft,none⟩ :: rest) l w:=Bk (OU hx hn) hd h
theorem MM {t u:TypeId} [TIface P t] {x:Operand} {k:Int} (hx:opv l x=some (errV k)) (hd:Nat.blt d n=true) (ht:k=0→owp P n ops Q rest ((d,.bool true) :: l) w) (hf:¬ (k=0)→owp P n ops Q rest ((d,.bool false) :: l) w):owp P n ops Q (⟨some d,.binOp .eql t x (.const .nilIface) u,ty,pos,aft,none⟩ :: rest) l w:=EX (Oj hx) hd ht hf
theorem GP {t u:TypeId} [TIface P t] {x:Operand} {k:Int} (hx:opv l x=some (errV k)) (hd:Nat.blt d n=true) (ht:k≠0→owp P n ops Q rest ((d,.bool true) :: l) w) (hf:¬ (k≠0)→owp P n ops Q rest ((d,.bool false) :: l) w):owp P n ops Q (⟨some d,.binOp .neq t x (.const .nilIface) u,ty,pos,aft,none⟩ :: rest) l w:=EX (Ol hx) hd ht hf
variable {S : World → Prop} {r : List (Nat × Bool)} {i : Nat}
theorem Ks {t u:TypeId} {x y:Operand} {a b c:Int} (hi:ops[i]?=some ⟨some d,.binOp .add t x y u,ty,pos,aft,none⟩) (hx:opv l x=some (.int .i64 a)) (hy:opv l y=some (.int .i64 b)) (hd:Nat.blt d n=true) (h:hwp P n ops Q S r ((d,.int .i64 c) :: l) w) (he:chkI (a + b)=some c:=by assumption):hwp P n ops Q S ((i,true) :: r) l w:=AH hi (Cm (fun _ _=>Ko hx hy he) hd h)
theorem MN {t u:TypeId} {x y:Operand} {a b c:Int} (hi:ops[i]?=some ⟨some d,.binOp .sub t x y u,ty,pos,aft,none⟩) (hx:opv l x=some (.int .i64 a)) (hy:opv l y=some (.int .i64 b)) (hd:Nat.blt d n=true) (h:hwp P n ops Q S r ((d,.int .i64 c) :: l) w) (he:chkI (a - b)=some c:=by assumption):hwp P n ops Q S ((i,true) :: r) l w:=AH hi (Cm (fun _ _=>Kp hx hy he) hd h)
theorem NZ {t u:TypeId} {x y:Operand} {a b c:Int} (hi:ops[i]?=some ⟨some d,.binOp .mul t x y u,ty,pos,aft,none⟩) (hx:opv l x=some (.int .i64 a)) (hy:opv l y=some (.int .i64 b)) (hd:Nat.blt d n=true) (h:hwp P n ops Q S r ((d,.int .i64 c) :: l) w) (he:chkI (a * b)=some c:=by assumption):hwp P n ops Q S ((i,true) :: r) l w:=AH hi (Cm (fun _ _=>Kq hx hy he) hd h)
theorem Gd {t e:TypeId} [TSlice P t e] {z:Value} {size bytes:Nat} [TInfo P e z size bytes] {x i':Operand} {k:IntKind} {A:Option Addr} {b o m c j:Nat} {q:Int} (hi:ops[i]?=some ⟨some d,.indexAddr t x i',ty,pos,aft,none⟩) (hx:opv l x=some (.slice A m c)) (hq:opv l i'=some (.int k q)) (hd:Nat.blt d n=true) (h:hwp P n ops Q S r ((d,.pointer (some ⟨b,o + j * size,none⟩)) :: l) w) (hA:A=some ⟨b,o,none⟩:=by assumption) (hj:q=(j:Int):=by rfl) (hlt:j < m:=by assumption):hwp P n ops Q S ((i,true) :: r) l w:=AH hi (Cm (fun _ _=>LN hx hq hA hj hlt) hd h)
end
end
section
open Go Go.RowKit
def catI (a b:ByteArray):Option ByteArray:=if a.size + b.size≤9223372036854775807 then some (a ++ b) else none
theorem Gs {a b r:ByteArray} (h:catI a b=some r):r.size≤9223372036854775807:=by
  obtain ⟨h1,rfl⟩:=CC h
  rw [ByteArray.size_append];exact h1
def cpyL {α:Type} (a b:List α):List α:=b.take a.length ++ a.drop b.length
theorem JR {α:Type} (a b:List α):(cpyL a b).length=a.length:=by unfold cpyL;simp;omega
section
variable {P : Program} {l : Env} {w : World} {dst : Option Tmp} {ty : TypeId} {pos : String} {aft : Array Edge}
theorem OV {t u:TypeId} {x y:Operand} {a b c:ByteArray} (he:catI a b=some c) (hx:opv l x=some (.string a)) (hy:opv l y=some (.string b)):Ev P ⟨dst,.binOp .add t x y u,ty,pos,aft,none⟩ l w (.string c):=fun _ _ e ha=>by
  obtain ⟨h1,rfl⟩:=CC he
  simp [execOp,ha.eval hx,ha.eval hy,eqGuard,binOp,Op.stringOp]
  omega
theorem JS (a b c d:Int) (w:World):(Op.equal 52 (.agg #[.int .i64 a,.int .i64 b]) (.agg #[.int .i64 c,.int .i64 d])).run Tryz.prog w=.ok (decide (a=c∧b=d)) w:=by
  have h1:∀ (n:Nat) (x y:Int) (w:World),(Op.equalIn (n + 1) 3 (.int .i64 x) (.int .i64 y)).run Tryz.prog w=.ok (x == y) w:=fun n x y w=>by simp [Op.equalIn,run_underlying Tryz.underlying3]
  have hs:Tryz.prog.stoodInHeld 52=false:=by kernel_rfl
  have hd:∀ n:Nat,(Op.equalIn (n + 2) 52 (.agg #[.int .i64 a,.int .i64 b]) (.agg #[.int .i64 c,.int .i64 d])).run Tryz.prog w=.ok (decide (a=c∧b=d)) w:=fun n=>by
    rw [Op.equalIn]
    simp [run_underlying Tryz.underlying52,hs,Go.part,IR (P:=Tryz.prog) (t:=3),h1]
    by_cases hx:a=c<;>by_cases hy:b=d<;>simp [hx,hy]
  exact hd 9998
theorem Po {u:TypeId} {x y:Operand} {a b c d:Int} (hx:opv l x=some (.agg #[.int .i64 a,.int .i64 b])) (hy:opv l y=some (.agg #[.int .i64 c,.int .i64 d])):Ev Tryz.prog ⟨dst,.binOp .eql 52 x y u,ty,pos,aft,none⟩ l w (.bool (decide (a=c∧b=d))):=fun _ _ e ha=>by
  simp [execOp,ha.eval hx,ha.eval hy,eqGuard,binOp,JS]
end
section
variable {P : Program} {n : Nat} {ops : Array Oper} {Q : Post} {rest : List Oper} {l : Env} {w : World} {d : Tmp} {ty : TypeId} {pos : String} {aft : Array Edge}
theorem OW {i:Nat} {O:Lab} {t1 t2 e:TypeId} [ht:TSlice P t1 e] {z:Value} {bytes:Nat} [hi:TInfo P e z 1 bytes] {x y:Operand} {A:Option Addr} {m c:Nat} {v:Value} {xs ys:List Int} (hR:Rw i w O e (.slice A m c) xs) (hv:Vb w (Fr 0 w O) v ys) (hx:opv l x=some (.slice A m c)) (hy:opv l y=some v) (hd:Nat.blt d n=true)
    (h:∀ w',St (eT i) w O w' O→Rw i w' O e (.slice A m c) (cpyL xs ys)→∀ u,owp P n ops Q rest ((d,u) :: l) w'):owp P n ops Q (⟨some d,.call { callee:=.builtin .copy,args:=#[x,y],argTypes:=#[t1,t2] },ty,pos,aft,none⟩ :: rest) l w:=by
  obtain rfl:=hR.len.1
  obtain ⟨A',c',cells,rfl,h1,h2,h3,h4⟩:=hv.rd
  obtain ⟨rfl,hin⟩:=Gc h3
  have hsz:((P.info? e).map (·.size))=some 1:=by obtain ⟨inf,e1,_,e3,_⟩:=hi.eq;rw [e1];simp [e3]
  by_cases h0:xs.length=0∨ys.length=0
  · have hc:cpyL xs ys=xs:=by
      unfold cpyL
      rcases h0 with h0|h0
      · rw [List.eq_nil_of_length_eq_zero h0];simp
      · rw [List.eq_nil_of_length_eq_zero h0];simp
    refine Gr (w':=w) (fun a z ha=>.inl ⟨goInt 0,z,?_,ha.put hd _⟩) (h w (St.refl _ _ _) (by rw [hc];exact hR) _)
    have hr:=run_copy_none (P:=P) (dr w z) t1 t2 ty e A A' xs.length c ys.length c' ht.eq hsz (by rcases h0 with h0|h0<;>simp [h0])
    simp [execOp,resolve,invoke,builtin,ha.eval hx,ha.eval hy,hr]
  · have hp1:0 < xs.length:=by omega
    have hp2:0 < ys.length:=by omega
    obtain ⟨b,o,rfl,hat⟩:=h4 hp2
    obtain ⟨g,cap,cells2,sp,hv2,hg,hF,hblk,hch,hl2,hn2,hm2,ht2⟩:=hR.1.open hp1
    injection hv2 with e1 e2 e3
    subst e1;subst e3
    obtain ⟨rfl,hin2⟩:=Gc hch
    have hcs:((ys.take xs.length).map (Value.int .i64)).length=Nat.min ys.length xs.length:=by simp [Nat.min_comm]
    have hbl:w.heap[g]?=some (.cells (xs.map (Value.int .i64) ++ sp).toArray e (0,0)):=hblk
    have hrun:∀ z,(Builtin.copy_ #[t1,t2] ty #[.slice (some ⟨g,0,none⟩) xs.length c,.slice (some ⟨b,o,none⟩) ys.length c']).run P (dr w z)=.ok (goInt ((ys.take xs.length).map (Value.int .i64)).length) (dr (w.setRow g ((xs.map (Value.int .i64) ++ sp).take 0 ++ (ys.take xs.length).map (Value.int .i64) ++ (xs.map (Value.int .i64) ++ sp).drop (0 + ((ys.take xs.length).map (Value.int .i64)).length)).toArray) z):=fun z=>by
      have hbl':(dr w z).heap[g]?=some (.cells (xs.map (Value.int .i64) ++ sp).toArray e (0,0)):=hbl
      have:=run_copy_row (P:=P) (dr w z) t1 t2 ty e g 0 xs.length c ⟨b,o,none⟩ ys.length c' _ e ((ys.take xs.length).map (Value.int .i64)) ht.eq hsz hbl' hcs (fun j v hj=>by
        rw [Hs,Ml]
        refine FS hat j v ?_
        rw [List.getElem?_map] at hj ⊢
        rw [List.getElem?_take] at hj
        split at hj
        · exact hj
        · simp at hj) (by simp;omega) (fun v hv=>by
        obtain ⟨a,_,rfl⟩:=List.mem_map.1 hv
        rfl)
      rw [this]
      rfl
    refine Gr (w':=w.setRow g ((xs.map (Value.int .i64) ++ sp).take 0 ++ (ys.take xs.length).map (Value.int .i64) ++ (xs.map (Value.int .i64) ++ sp).drop (0 + ((ys.take xs.length).map (Value.int .i64)).length)).toArray) (fun a z ha=>.inl ⟨goInt ((ys.take xs.length).map (Value.int .i64)).length,z,?_,ha.put hd _⟩) ?_
    · simp [execOp,resolve,invoke,builtin,ha.eval hx,ha.eval hy,hrun z]
    · have hK:∀ cs,St (eT i) w O (w.setRow g cs) O:=fun cs=>⟨rfl,rfl,rfl,by simp,fun k hk hT=>⟨setRow_other w g k cs fun e=>hT (by rw [e];exact hR.2.1 g rfl),rfl⟩⟩
      have hcp:((xs.map (Value.int .i64) ++ sp).take 0 ++ (ys.take xs.length).map (Value.int .i64) ++ (xs.map (Value.int .i64) ++ sp).drop (0 + ((ys.take xs.length).map (Value.int .i64)).length))=(cpyL xs ys).map (Value.int .i64) ++ sp:=by
        have hle:((ys.take xs.length).map (Value.int .i64)).length≤xs.length:=by simp;omega
        rw [Nat.zero_add,List.drop_append_of_le_length (by simpa using hle)]
        unfold cpyL
        simp only [List.take_zero,List.nil_append,List.map_append,List.append_assoc,List.map_drop,List.length_map,List.length_take]
        congr 2
        by_cases hx2:xs.length≤ys.length
        · rw [Nat.min_eq_left hx2,List.drop_of_length_le (by simp),List.drop_of_length_le (by simpa using hx2)]
        · rw [Nat.min_eq_right (by omega)]
      refine h _ (hK _) ?_ _
      have hb2:Blk (w.setRow g ((xs.map (Value.int .i64) ++ sp).take 0 ++ (ys.take xs.length).map (Value.int .i64) ++ (xs.map (Value.int .i64) ++ sp).drop (0 + ((ys.take xs.length).map (Value.int .i64)).length)).toArray) g e ((cpyL xs ys).map (Value.int .i64) ++ sp):=by
        rw [hcp];exact setRow_heap w g _ _ e (0,0) hbl
      have hall:∀ a∈cpyL xs ys,inI64 a:=fun a ha=>by
        rcases List.mem_append.1 ha with h|h
        · exact hin a (List.mem_of_mem_take h)
        · exact hin2 a (List.mem_of_mem_drop h)
      have:=Own.close (base:=0) (cap:=c) (F:=Fr 0 (w.setRow g ((xs.map (Value.int .i64) ++ sp).take 0 ++ (ys.take xs.length).map (Value.int .i64) ++ (xs.map (Value.int .i64) ++ sp).drop (0 + ((ys.take xs.length).map (Value.int .i64)).length)).toArray) O) (Nat.zero_le g) (fun hq=>hR.2.2 ((hR.2.1 g rfl).symm.trans hq.2)) hb2 (Hb hall) (by rw [JR];exact hn2) hm2 (by
        have:=ht2
        simp only [List.length_append,List.length_map,JR] at this ⊢
        exact this)
      rw [JR] at this
      exact ⟨this,hR.2.1,hR.2.2⟩
variable {S : World → Prop} {r : List (Nat × Bool)} {i : Nat}
theorem Jp {t u:TypeId} {x y:Operand} {a b c:ByteArray} (he:catI a b=some c) (hi:ops[i]?=some ⟨some d,.binOp .add t x y u,ty,pos,aft,none⟩) (hx:opv l x=some (.string a)) (hy:opv l y=some (.string b)) (hd:Nat.blt d n=true) (h:hwp P n ops Q S r ((d,.string c) :: l) w):hwp P n ops Q S ((i,true) :: r) l w:=AH hi (Cm (fun _ _=>OV he hx hy) hd h)
theorem Pp {u:TypeId} {x y:Operand} {a b c e:Int} (hi:ops[i]?=some ⟨some d,.binOp .eql 52 x y u,ty,pos,aft,none⟩) (hx:opv l x=some (.agg #[.int .i64 a,.int .i64 b])) (hy:opv l y=some (.agg #[.int .i64 c,.int .i64 e])) (hd:Nat.blt d n=true) (ht:a=c∧b=e→hwp Tryz.prog n ops Q S r ((d,.bool true) :: l) w) (hf:¬ (a=c∧b=e)→hwp Tryz.prog n ops Q S r ((d,.bool false) :: l) w):hwp Tryz.prog n ops Q S ((i,true) :: r) l w:=AH hi (Cj (fun _ _=>Po hx hy) hd ht hf)
theorem Kt {t e:TypeId} [h:TSlice P t e] {dst:Option Tmp} {x:Operand} {A:Option Addr} {m c:Nat} (hx:opv l x=some (.slice A m c)):Ev P ⟨dst,.call { callee:=.builtin .cap,args:=#[x],argTypes:=#[t] },ty,pos,aft,none⟩ l w (.int .i64 (c:Int)):=fun _ a d ha=>by
  simp [execOp,resolve,invoke,builtin,ha.eval hx,Builtin.cap_,run_underlying h.eq,goInt]
theorem Lf {t e:TypeId} [h:TSlice P t e] {z:Value} {size bytes:Nat} [TInfo P e z size bytes] {dst:Option Tmp} {x y:Operand} {k:IntKind} {g m c:Nat} (hx:opv l x=some (.slice (some ⟨g,0,none⟩) m c)) (hy:opv l y=some (.int k ((0:Nat):Int))) :
    Ev P ⟨dst,.slice t x none (some y) none,ty,pos,aft,none⟩ l w (.slice (some ⟨g,0,none⟩) 0 c):=by
  have:=Iq (P:=P) (w:=w) (dst:=dst) (ty:=ty) (pos:=pos) (aft:=aft) (t:=t) hx hy rfl (Nat.zero_le c)
  simpa [Addr.add] using this
theorem LO {t tn e:TypeId} [ht:TSlice P t e] {kn:IntKind} [htn:TInt P tn kn] {z:Value} {size bytes:Nat} [hi:TInfo P e z size bytes] {x y:Operand} {m:Nat} (hx:opv l x=some (.slice none 0 0)) (hy:opv l y=some (.int .i64 (m:Int))) (hm0:0 < m) (hs:0 < size) (h48:m * bytes≤140737488355328) (h63:m≤4611686018427387904) (hd:Nat.blt d n=true)
    (h:∀ w' c,Ext w w'→w'.heap.size=w.heap.size + 1→m≤c→c≤9223372036854775807→(∃ sp:List Value,sp.length=c * size∧Blk w' w.heap.size e sp)→owp P n ops Q rest ((d,.slice (some ⟨w.heap.size,0,none⟩) m c) :: l) w'):owp P n ops Q (⟨some d,.call { callee:=.builtin .append,args:=#[x,y],argTypes:=#[t,tn] },ty,pos,aft,none⟩ :: rest) l w :=
  Hn fun a q ha K hK=>by
    obtain ⟨inf,i1,i2,i3,i4⟩:=hi.eq
    have hr:=Lib.run_append_nil_zeros (P:=P) (dr w q) t tn ty e inf z .i64 kn ht.eq htn.eq i1 i2 m hm0 (by omega) (by omega) (by rw [i4];omega)
    have hev:(execOp a.eval ⟨some d,.call { callee:=.builtin .append,args:=#[x,y],argTypes:=#[t,tn] },ty,pos,aft,none⟩).run P (dr w q)=.ok (.value (.slice (some ⟨(dr w q).heap.size,0,none⟩) m (grownCap (dr w q) m 0 e))) ((dr w q).drew.alloc (.cells (Builtin.zeroCells z.cells m ++ Builtin.zeroCells z.cells (grownCap (dr w q) m 0 e - m)) e)):=by
      simp [execOp,resolve,invoke,builtin,ha.eval hx,ha.eval hy,hr]
    unfold Oper.wp
    rw [hev]
    have hge:m≤grownCap (dr w q) m 0 e:=grownCap_ge _ _ _ _
    have hle:grownCap (dr w q) m 0 e≤maxLen:=grownCap_le_maxLen _ _ _ _ (by unfold maxLen;omega)
    have hsz:((dr w q).heap.size)=w.heap.size:=rfl
    rw [hsz]
    have hz:∀ k,(Builtin.zeroCells z.cells k).size=k * size:=fun k=>by simp [Builtin.zeroCells,hi.sz]
    have hlen:(Builtin.zeroCells z.cells m ++ Builtin.zeroCells z.cells (grownCap (dr w q) m 0 e - m)).toList.length=grownCap (dr w q) m 0 e * size:=by
      simp [hz]
      rw [← Nat.add_mul]
      congr 1
      omega
    generalize hG:grownCap (dr w q) m 0 e=G at *
    generalize Builtin.zeroCells z.cells m ++ Builtin.zeroCells z.cells (G - m)=cs at *
    refine hK _ ((dr w q).drew.alloc (.cells cs e)) (h (w.alloc (.cells cs e)) G ((Below.refl _ _).alloc (Nat.le_refl _) _) (by simp) hge (by simpa [maxLen] using hle) ⟨cs.toList,hlen,?_⟩ _ _ (ha.put hd _))
    show (w.heap.push _)[_]?=_
    simp
end
attribute [local irreducible] ewp owp hwp hwq Ev Evg Fn retPost Res1
attribute [local irreducible] hwx loudX
def Cr (k:Int):Option (List Fct):=if 0≤k∧k * 64≤140737488355328 then some [] else none
theorem Gh {w:World} {A:Nat→Prop} (hA:∀ k,A k→k < w.heap.size) {x1:Int} (rx1:inI64 x1) {r:List Fct} (hm:Cr x1=some r) :
    Fn Tryz.prog 136 [.slice none 0 0,.int .i64 x1] w fun v w'=>Ext w w'∧RowR w w' (upA A w w') 78 v r:=by
  obtain ⟨⟨hk0,hk⟩,rfl⟩:=CC hm
  obtain ⟨k,rfl⟩:∃ k:Nat,x1=(k:Int):=⟨x1.toNat,by omega⟩
  obtain ⟨O,hB,a0⟩:=enter hA
  refine AD Tryz.func136 rfl Tryz.ntmps136 rfl ?_
  have hk2:chkI ((0:Nat) - (0:Nat):Int)=some 0:=rfl
  have hk3:chkI ((k:Int) - 0)=some (k:Int):=by rw [Int.sub_zero];exact if_pos rx1
  repeat (first|refine An ?_|refine Ah rfl ?_|refine Ae rfl ?_)
  refine Al rfl rfl (o_z ?_)
  repeat (first|refine An ?_|refine Ah rfl ?_|refine Ae rfl ?_)
  refine Aj rfl rfl (EB rfl rfl rfl (fun h=>absurd h (by omega)) fun _=>o_z ?_)
  repeat (first|refine An ?_|refine Ah rfl ?_|refine Ae rfl ?_)
  refine Aj rfl rfl (Aj rfl rfl (Bk (Kt rfl) rfl (Aj rfl rfl (AT rfl rfl ?_))))
  refine Kr rfl rfl rfl ?_ hk2
  refine Kr rfl rfl rfl ?_ hk3
  refine Al rfl rfl (o_z ?_)
  repeat (first|refine An ?_|refine Ah rfl ?_|refine Ae rfl ?_)
  refine Aj rfl rfl (CK rfl rfl rfl (fun h=>?_) fun h=>?_)
  · refine o_z ?_
    repeat (first|refine An ?_|refine Ah rfl ?_|refine Ae rfl ?_)
    refine Aj rfl rfl (Aj rfl rfl (Bk (Kt rfl) rfl ?_))
    refine Bk (Iq (hi:=0) rfl rfl rfl (Nat.le_refl 0)) rfl ?_
    refine Aj rfl rfl ?_
    refine LO (m:=k) rfl rfl (by omega) (by decide) (by omega) (by omega) rfl fun w1 c hE hs h1 h2 h3=>?_
    obtain ⟨sp,hsl,hb⟩:=h3
    refine Aj rfl rfl (AT rfl rfl ?_)
    refine Bk (Lf rfl rfl) rfl ?_
    refine Al rfl rfl (o_z ?_)
    repeat (first|refine An ?_|refine Ah rfl ?_|refine Ae rfl ?_)
    refine Aj rfl rfl (Al rfl rfl (o_z ?_))
    repeat (first|refine An ?_|refine Ah rfl ?_|refine Ae rfl ?_)
    refine ret1v rfl (Au rfl) ⟨hE,fun _=>False,fun _ h=>h.elim,?_⟩
    exact Own.close (xs:=([]:List Fct)) (cells:=[]) (sp:=sp) (Nat.le_refl _) (fun h=>h) hb rfl (Nat.zero_le c) h2 hsl
  · refine o_z ?_
    repeat (first|refine An ?_|refine Ah rfl ?_|refine Ae rfl ?_)
    refine Aj rfl rfl (Al rfl rfl (o_z ?_))
    repeat (first|refine An ?_|refine Ah rfl ?_|refine Ae rfl ?_)
    exact ret1v rfl (Au rfl) ⟨Below.refl _ _,RowR.nil⟩
def Ci (k:Int):Option (List Eff):=if 0≤k∧k * 64≤140737488355328 then some [] else none
theorem FE {w:World} {A:Nat→Prop} (hA:∀ k,A k→k < w.heap.size) {x1:Int} (rx1:inI64 x1) {r:List Eff} (hm:Ci x1=some r) :
    Fn Tryz.prog 137 [.slice none 0 0,.int .i64 x1] w fun v w'=>Ext w w'∧RowR w w' (upA A w w') 85 v r:=by
  obtain ⟨⟨hk0,hk⟩,rfl⟩:=CC hm
  obtain ⟨k,rfl⟩:∃ k:Nat,x1=(k:Int):=⟨x1.toNat,by omega⟩
  obtain ⟨O,hB,a0⟩:=enter hA
  refine AD Tryz.func137 rfl Tryz.ntmps137 rfl ?_
  have hk2:chkI ((0:Nat) - (0:Nat):Int)=some 0:=rfl
  have hk3:chkI ((k:Int) - 0)=some (k:Int):=by rw [Int.sub_zero];exact if_pos rx1
  repeat (first|refine An ?_|refine Ah rfl ?_|refine Ae rfl ?_)
  refine Al rfl rfl (o_z ?_)
  repeat (first|refine An ?_|refine Ah rfl ?_|refine Ae rfl ?_)
  refine Aj rfl rfl (EB rfl rfl rfl (fun h=>absurd h (by omega)) fun _=>o_z ?_)
  repeat (first|refine An ?_|refine Ah rfl ?_|refine Ae rfl ?_)
  refine Aj rfl rfl (Aj rfl rfl (Bk (Kt rfl) rfl (Aj rfl rfl (AT rfl rfl ?_))))
  refine Kr rfl rfl rfl ?_ hk2
  refine Kr rfl rfl rfl ?_ hk3
  refine Al rfl rfl (o_z ?_)
  repeat (first|refine An ?_|refine Ah rfl ?_|refine Ae rfl ?_)
  refine Aj rfl rfl (CK rfl rfl rfl (fun h=>?_) fun h=>?_)
  · refine o_z ?_
    repeat (first|refine An ?_|refine Ah rfl ?_|refine Ae rfl ?_)
    refine Aj rfl rfl (Aj rfl rfl (Bk (Kt rfl) rfl ?_))
    refine Bk (Iq (hi:=0) rfl rfl rfl (Nat.le_refl 0)) rfl ?_
    refine Aj rfl rfl ?_
    refine LO (m:=k) rfl rfl (by omega) (by decide) (by omega) (by omega) rfl fun w1 c hE hs h1 h2 h3=>?_
    obtain ⟨sp,hsl,hb⟩:=h3
    refine Aj rfl rfl (AT rfl rfl ?_)
    refine Bk (Lf rfl rfl) rfl ?_
    refine Al rfl rfl (o_z ?_)
    repeat (first|refine An ?_|refine Ah rfl ?_|refine Ae rfl ?_)
    refine Aj rfl rfl (Al rfl rfl (o_z ?_))
    repeat (first|refine An ?_|refine Ah rfl ?_|refine Ae rfl ?_)
    refine ret1v rfl (Au rfl) ⟨hE,fun _=>False,fun _ h=>h.elim,?_⟩
    exact Own.close (xs:=([]:List Eff)) (cells:=[]) (sp:=sp) (Nat.le_refl _) (fun h=>h) hb rfl (Nat.zero_le c) h2 hsl
  · refine o_z ?_
    repeat (first|refine An ?_|refine Ah rfl ?_|refine Ae rfl ?_)
    refine Aj rfl rfl (Al rfl rfl (o_z ?_))
    repeat (first|refine An ?_|refine Ah rfl ?_|refine Ae rfl ?_)
    exact ret1v rfl (Au rfl) ⟨Below.refl _ _,RowR.nil⟩
end
section
open Go Go.RowKit
attribute [local irreducible] ewp owp hwp hwq Ev Evg Fn retPost Res1
def hasB (s:List Int) (x:Fct):Bool:=decide (0≤x.var) && decide (s[x.var.toNat]?=some x.val)
def holdsB (f:List Fct) (s:List Int):Bool:=f.all (hasB s)
theorem HN {f:List Fct} {s:List Int} {k:Nat} {x:Fct} (hx:f[k]?=some x) (h:hasB s x=false):holdsB f s=false:=by
  unfold holdsB
  rw [List.all_eq_false]
  exact ⟨x,List.mem_of_getElem? hx,by simp [h]⟩
theorem JF {f:List Fct} {s:List Int} {k:Nat} {x:Fct} (hx:f[k]?=some x) (h:hasB s x=true) (hh:holdsB (f.take k) s=true):holdsB (f.take (k + 1)) s=true:=by
  unfold holdsB at *
  rw [List.take_add_one,hx,List.all_append,hh]
  simp [h]
theorem Mo {s:List Int} {x:Fct} {j:Nat} {y:Int} (hj:x.var=(j:Int)) (hy:s[j]?=some y):hasB s x=decide (y=x.val):=by
  unfold hasB
  rw [hj];simp [hy]
theorem BE {α:Type} {l:List α} {k:Nat} (h:k < l.length):∃ x,l[k]?=some x:=⟨l[k],List.getElem?_eq_getElem h⟩
theorem Cs {α:Type} {l:List α} {k:Nat} {x:α} (h:l[k]?=some x):k < l.length:=(List.getElem?_eq_some_iff.1 h).1
theorem baseHolds {w:World} {fv sv:Value} {f:List Fct} {s:List Int} (hf:V w fv f) (hs:V w sv s) :
    Fn Tryz.prog 21 [fv,sv] w fun v w'=>v=.bool (bof (holdsB f s=true))∧Ext w w':=by
  obtain ⟨Af,cf,rfl⟩:=hf.form
  obtain ⟨As,cs,rfl⟩:=hs.form
  have hfl:=hf.len
  refine AD Tryz.func21 rfl Tryz.ntmps21 rfl ?_
  ((repeat (first|refine An ?_|refine Ah rfl ?_|refine Ae rfl ?_))<;>(refine Al rfl rfl ?_<;>(refine o_z ?_))<;>(repeat (first|refine An ?_|refine Ah rfl ?_|refine Ae rfl ?_))<;>(refine Aj rfl rfl ?_<;>refine AT rfl rfl ?_<;>refine Aj rfl rfl ?_<;>(refine o_z ?_))<;>(repeat (first|refine An ?_|refine Ah rfl ?_|refine Ae rfl ?_)))
  refine GH (fun k:Nat=>[(1,.slice As s.length cs),(7,.slice Af f.length cf),(8,.int .i64 (f.length:Int)),(9,.int .i64 (k:Int))])
    (fun k w'=>Ext w w'∧k≤f.length∧holdsB (f.take k) s=true) (fun k=>f.length - k) 0 ⟨Below.refl _ _,Nat.zero_le _,rfl⟩ ⟨rfl,rfl,rfl,rfl,trivial⟩ ?_
  rintro k w1 ⟨hE,hk,hh⟩
  by_cases hlt:k < f.length
  · obtain ⟨x,hx⟩:=BE hlt
    obtain ⟨b,o,ce,rfl,hb,_,hd1,rfl,hr1,hr2⟩:=(hf.ext hE).elem hx
    ((repeat (first|refine An ?_|refine Ah rfl ?_|refine Ae rfl ?_))<;>((first|refine EF rfl rfl rfl ?_|refine EG rfl rfl rfl ?_)<;>(refine o_z ?_))<;>(repeat (first|refine An ?_|refine Ah rfl ?_|refine Ae rfl ?_))<;>(refine Ge rfl rfl rfl ?_<;>refine Bp rfl rfl ?_)<;>(repeat (first|refine An ?_|refine Ah rfl ?_|refine Ae rfl ?_)))
    refine Ek rfl rfl rfl (by simp [Value.cells,Value.oneCell']) fun w3 hN=>?_
    have hb1:=hN.blk
    have hE3:Ext w w3:=hE.trans' hN.ext
    ((refine o_z ?_))
    repeat (first|refine An ?_|refine Ah rfl ?_|refine Ae rfl ?_)
    refine GG (·=w3) [(0,true),(1,true),(2,true),(3,true),(4,true),(5,true),(6,true),(7,true),(8,true),(9,true),(10,true),(11,true),(12,true),(13,true),(14,true),(15,true),(16,true),(17,true),(18,true),(19,true)] (by kernel_rfl) rfl (by kernel_rfl) rfl ?_
    by_cases hv:0≤x.var∧x.var < s.length
    · obtain ⟨j,hj1⟩:=Int.eq_ofNat_of_zero_le hv.1
      obtain ⟨y,hy⟩:=BE (l:=s) (k:=j) (by omega)
      obtain ⟨b2,o2,ce2,rfl,_,_,hd2,rfl,_⟩:=(hs.ext hE3).elem hy
      have hq:=Mo (s:=s) hj1 hy
      (refine Ba rfl rfl rfl ?_<;>refine Gb rfl rfl rfl ?_<;>(first|refine Ls rfl rfl rfl rfl ?_|refine Lt rfl rfl rfl rfl ?_|refine Lu rfl rfl rfl rfl (fun _=>?_) fun _=>?_)<;>refine Bt rfl rfl rfl ?_<;>(refine AH rfl ?_;(first|(refine AG rfl rfl ?_;refine EQ rfl rfl ?_)|refine AM rfl rfl rfl rfl ?_))<;>(refine AH rfl ?_;(first|(refine AG rfl rfl ?_;refine CL rfl rfl ?_)|refine AM rfl rfl rfl rfl ?_))<;>(refine AH rfl ?_;(first|(refine AG rfl rfl ?_;refine GZ rfl rfl ?_)|refine AM rfl rfl rfl rfl ?_))<;>(refine AH rfl ?_;(first|(refine AG rfl rfl ?_;refine KM rfl rfl ?_)|refine AM rfl rfl rfl rfl ?_))<;>(refine AH rfl ?_;(first|(refine AG rfl rfl ?_;(first|refine DR (fun _ _=>Cl rfl rfl) rfl (by omega) ?_|refine DS (fun _ _=>Cl rfl rfl) rfl (by omega) ?_|refine Cj (fun _ _=>Cl rfl rfl) rfl (fun _=>?_) (fun _=>?_)))|refine AM rfl rfl rfl rfl ?_))<;>(first|refine FD rfl rfl rfl rfl ?_|refine Fm rfl rfl rfl rfl ?_)<;>refine Bt rfl rfl rfl ?_<;>(refine AH rfl ?_;(first|(refine AG rfl rfl ?_;refine GZ rfl rfl ?_)|refine AM rfl rfl rfl rfl ?_))<;>(refine AH rfl ?_;(first|(refine AG rfl rfl ?_;refine EQ rfl rfl ?_)|refine AM rfl rfl rfl rfl ?_))<;>(refine AH rfl ?_;(first|(refine AG rfl rfl ?_;refine CL rfl rfl ?_)|refine AM rfl rfl rfl rfl ?_))<;>(refine AH rfl ?_;(first|(refine AG rfl rfl ?_;refine KN rfl rfl rfl ?_)|refine AM rfl rfl rfl rfl ?_))<;>(refine AH rfl ?_;(first|(refine AG rfl rfl ?_;refine CL rfl rfl ?_)|refine AM rfl rfl rfl rfl ?_))<;>(refine AH rfl ?_;(first|(refine AG rfl rfl ?_;refine EQ rfl rfl ?_)|refine AM rfl rfl rfl rfl ?_))<;>(refine AH rfl ?_;(first|(refine AG rfl rfl ?_;refine CL rfl rfl ?_)|refine AM rfl rfl rfl rfl ?_))<;>(refine AH rfl ?_;(first|(refine AG rfl rfl ?_;(first|refine DR (fun _ _=>Eh rfl rfl) rfl (by omega) ?_|refine DS (fun _ _=>Eh rfl rfl) rfl (by omega) ?_|refine Cj (fun _ _=>Eh rfl rfl) rfl (fun _=>?_) (fun _=>?_)))|refine AM rfl rfl rfl rfl ?_))<;>(first|refine FD rfl rfl rfl rfl ?_|refine Fm rfl rfl rfl rfl ?_)<;>(refine h_z ?_))<;>(repeat (first|refine An ?_|refine Ah rfl ?_|refine Ae rfl ?_))
      · ((repeat (first|refine An ?_|refine Ah rfl ?_|refine Ae rfl ?_))<;>(refine Al rfl rfl ?_<;>(refine o_z ?_))<;>(repeat (first|refine An ?_|refine Ah rfl ?_|refine Ae rfl ?_)))
        refine ret1 rfl rfl ⟨?_,hE3⟩
        rw [HN hx (by rw [hq];simpa using ‹_›),HH]
      · ((first|refine KJ rfl rfl ?_|refine KH rfl rfl rfl ?_)<;>refine Aj rfl rfl ?_<;>(refine o_z ?_))
        exact ⟨k + 1,⟨rfl,rfl,rfl,rfl,trivial⟩,⟨hE3,by omega,JF hx (by rw [hq];simp;omega) hh⟩,by omega⟩
    · have hq:hasB s x=false:=by
        unfold hasB
        by_cases h0:0≤x.var
        · have:s.length≤x.var.toNat:=by omega
          simp [List.getElem?_eq_none this]
        · simp [h0]
      (refine Ba rfl rfl rfl ?_<;>refine Gb rfl rfl rfl ?_<;>(first|refine Ls rfl rfl rfl rfl ?_|refine Lt rfl rfl rfl rfl ?_|refine Lu rfl rfl rfl rfl (fun _=>?_) fun _=>?_)<;>refine Bt rfl rfl rfl ?_<;>(refine AH rfl ?_;(first|(refine AG rfl rfl ?_;refine EQ rfl rfl ?_)|refine AM rfl rfl rfl rfl ?_))<;>(refine AH rfl ?_;(first|(refine AG rfl rfl ?_;refine CL rfl rfl ?_)|refine AM rfl rfl rfl rfl ?_))<;>(refine AH rfl ?_;(first|(refine AG rfl rfl ?_;refine GZ rfl rfl ?_)|refine AM rfl rfl rfl rfl ?_))<;>(refine AH rfl ?_;(first|(refine AG rfl rfl ?_;refine KM rfl rfl ?_)|refine AM rfl rfl rfl rfl ?_))<;>(refine AH rfl ?_;(first|(refine AG rfl rfl ?_;(first|refine DR (fun _ _=>Cl rfl rfl) rfl (by omega) ?_|refine DS (fun _ _=>Cl rfl rfl) rfl (by omega) ?_|refine Cj (fun _ _=>Cl rfl rfl) rfl (fun _=>?_) (fun _=>?_)))|refine AM rfl rfl rfl rfl ?_))<;>(first|refine FD rfl rfl rfl rfl ?_|refine Fm rfl rfl rfl rfl ?_)<;>refine Bt rfl rfl rfl ?_<;>(refine AH rfl ?_;(first|(refine AG rfl rfl ?_;refine GZ rfl rfl ?_)|refine AM rfl rfl rfl rfl ?_))<;>(refine AH rfl ?_;(first|(refine AG rfl rfl ?_;refine EQ rfl rfl ?_)|refine AM rfl rfl rfl rfl ?_))<;>(refine AH rfl ?_;(first|(refine AG rfl rfl ?_;refine CL rfl rfl ?_)|refine AM rfl rfl rfl rfl ?_))<;>(refine AH rfl ?_;(first|(refine AG rfl rfl ?_;refine KN rfl rfl rfl ?_)|refine AM rfl rfl rfl rfl ?_))<;>(refine AH rfl ?_;(first|(refine AG rfl rfl ?_;refine CL rfl rfl ?_)|refine AM rfl rfl rfl rfl ?_))<;>(refine AH rfl ?_;(first|(refine AG rfl rfl ?_;refine EQ rfl rfl ?_)|refine AM rfl rfl rfl rfl ?_))<;>(refine AH rfl ?_;(first|(refine AG rfl rfl ?_;refine CL rfl rfl ?_)|refine AM rfl rfl rfl rfl ?_))<;>(refine AH rfl ?_;(first|(refine AG rfl rfl ?_;(first|refine DR (fun _ _=>Eh rfl rfl) rfl (by omega) ?_|refine DS (fun _ _=>Eh rfl rfl) rfl (by omega) ?_|refine Cj (fun _ _=>Eh rfl rfl) rfl (fun _=>?_) (fun _=>?_)))|refine AM rfl rfl rfl rfl ?_))<;>(first|refine FD rfl rfl rfl rfl ?_|refine Fm rfl rfl rfl rfl ?_)<;>(refine h_z ?_))<;>(repeat (first|refine An ?_|refine Ah rfl ?_|refine Ae rfl ?_))
      all_goals
        ((repeat (first|refine An ?_|refine Ah rfl ?_|refine Ae rfl ?_))<;>(refine Al rfl rfl ?_<;>(refine o_z ?_))<;>(repeat (first|refine An ?_|refine Ah rfl ?_|refine Ae rfl ?_)))
        refine ret1 rfl rfl ⟨?_,hE3⟩
        rw [HN hx hq,HH]
  · ((repeat (first|refine An ?_|refine Ah rfl ?_|refine Ae rfl ?_))<;>((first|refine EF rfl rfl rfl ?_|refine EG rfl rfl rfl ?_)<;>(refine o_z ?_))<;>(repeat (first|refine An ?_|refine Ah rfl ?_|refine Ae rfl ?_))<;>(refine Al rfl rfl ?_<;>(refine o_z ?_))<;>(repeat (first|refine An ?_|refine Ah rfl ?_|refine Ae rfl ?_)))
    refine ret1 rfl rfl ⟨?_,hE⟩
    rw [List.take_of_length_le (by omega)] at hh
    rw [hh,HH]
theorem taskHolds {w:World} {fv sv:Value} {f:List Fct} {s:List Int} (hf:V w fv f) (hs:V w sv s) :
    Fn Tryz.prog 73 [fv,sv] w fun v w'=>v=.bool (bof (holdsB f s=true))∧Ext w w':=by
  obtain ⟨Af,cf,rfl⟩:=hf.form
  obtain ⟨As,cs,rfl⟩:=hs.form
  have hfl:=hf.len
  refine AD Tryz.func73 rfl Tryz.ntmps73 rfl ?_
  ((repeat (first|refine An ?_|refine Ah rfl ?_|refine Ae rfl ?_))<;>(refine Al rfl rfl ?_<;>(refine o_z ?_))<;>(repeat (first|refine An ?_|refine Ah rfl ?_|refine Ae rfl ?_))<;>(refine Aj rfl rfl ?_<;>refine AT rfl rfl ?_<;>refine Aj rfl rfl ?_<;>(refine o_z ?_))<;>(repeat (first|refine An ?_|refine Ah rfl ?_|refine Ae rfl ?_)))
  refine GH (fun k:Nat=>[(1,.slice As s.length cs),(7,.slice Af f.length cf),(8,.int .i64 (f.length:Int)),(9,.int .i64 (k:Int))])
    (fun k w'=>Ext w w'∧k≤f.length∧holdsB (f.take k) s=true) (fun k=>f.length - k) 0 ⟨Below.refl _ _,Nat.zero_le _,rfl⟩ ⟨rfl,rfl,rfl,rfl,trivial⟩ ?_
  rintro k w1 ⟨hE,hk,hh⟩
  by_cases hlt:k < f.length
  · obtain ⟨x,hx⟩:=BE hlt
    obtain ⟨b,o,ce,rfl,hb,_,hd1,rfl,hr1,hr2⟩:=(hf.ext hE).elem hx
    ((repeat (first|refine An ?_|refine Ah rfl ?_|refine Ae rfl ?_))<;>((first|refine EF rfl rfl rfl ?_|refine EG rfl rfl rfl ?_)<;>(refine o_z ?_))<;>(repeat (first|refine An ?_|refine Ah rfl ?_|refine Ae rfl ?_))<;>(refine Ge rfl rfl rfl ?_<;>refine Bp rfl rfl ?_)<;>(repeat (first|refine An ?_|refine Ah rfl ?_|refine Ae rfl ?_)))
    refine Ek rfl rfl rfl (by simp [Value.cells,Value.oneCell']) fun w3 hN=>?_
    have hb1:=hN.blk
    have hE3:Ext w w3:=hE.trans' hN.ext
    ((refine o_z ?_))
    repeat (first|refine An ?_|refine Ah rfl ?_|refine Ae rfl ?_)
    refine GG (·=w3) [(0,true),(1,true),(2,true),(3,true),(4,true),(5,true),(6,true),(7,true),(8,true),(9,true),(10,true),(11,true),(12,true),(13,true),(14,true),(15,true),(16,true),(17,true),(18,true),(19,true)] (by kernel_rfl) rfl (by kernel_rfl) rfl ?_
    by_cases hv:0≤x.var∧x.var < s.length
    · obtain ⟨j,hj1⟩:=Int.eq_ofNat_of_zero_le hv.1
      obtain ⟨y,hy⟩:=BE (l:=s) (k:=j) (by omega)
      obtain ⟨b2,o2,ce2,rfl,_,_,hd2,rfl,_⟩:=(hs.ext hE3).elem hy
      have hq:=Mo (s:=s) hj1 hy
      (refine Ba rfl rfl rfl ?_<;>refine Gb rfl rfl rfl ?_<;>(first|refine Ls rfl rfl rfl rfl ?_|refine Lt rfl rfl rfl rfl ?_|refine Lu rfl rfl rfl rfl (fun _=>?_) fun _=>?_)<;>refine Bt rfl rfl rfl ?_<;>(refine AH rfl ?_;(first|(refine AG rfl rfl ?_;refine EQ rfl rfl ?_)|refine AM rfl rfl rfl rfl ?_))<;>(refine AH rfl ?_;(first|(refine AG rfl rfl ?_;refine CL rfl rfl ?_)|refine AM rfl rfl rfl rfl ?_))<;>(refine AH rfl ?_;(first|(refine AG rfl rfl ?_;refine GZ rfl rfl ?_)|refine AM rfl rfl rfl rfl ?_))<;>(refine AH rfl ?_;(first|(refine AG rfl rfl ?_;refine KM rfl rfl ?_)|refine AM rfl rfl rfl rfl ?_))<;>(refine AH rfl ?_;(first|(refine AG rfl rfl ?_;(first|refine DR (fun _ _=>Cl rfl rfl) rfl (by omega) ?_|refine DS (fun _ _=>Cl rfl rfl) rfl (by omega) ?_|refine Cj (fun _ _=>Cl rfl rfl) rfl (fun _=>?_) (fun _=>?_)))|refine AM rfl rfl rfl rfl ?_))<;>(first|refine FD rfl rfl rfl rfl ?_|refine Fm rfl rfl rfl rfl ?_)<;>refine Bt rfl rfl rfl ?_<;>(refine AH rfl ?_;(first|(refine AG rfl rfl ?_;refine GZ rfl rfl ?_)|refine AM rfl rfl rfl rfl ?_))<;>(refine AH rfl ?_;(first|(refine AG rfl rfl ?_;refine EQ rfl rfl ?_)|refine AM rfl rfl rfl rfl ?_))<;>(refine AH rfl ?_;(first|(refine AG rfl rfl ?_;refine CL rfl rfl ?_)|refine AM rfl rfl rfl rfl ?_))<;>(refine AH rfl ?_;(first|(refine AG rfl rfl ?_;refine KN rfl rfl rfl ?_)|refine AM rfl rfl rfl rfl ?_))<;>(refine AH rfl ?_;(first|(refine AG rfl rfl ?_;refine CL rfl rfl ?_)|refine AM rfl rfl rfl rfl ?_))<;>(refine AH rfl ?_;(first|(refine AG rfl rfl ?_;refine EQ rfl rfl ?_)|refine AM rfl rfl rfl rfl ?_))<;>(refine AH rfl ?_;(first|(refine AG rfl rfl ?_;refine CL rfl rfl ?_)|refine AM rfl rfl rfl rfl ?_))<;>(refine AH rfl ?_;(first|(refine AG rfl rfl ?_;(first|refine DR (fun _ _=>Eh rfl rfl) rfl (by omega) ?_|refine DS (fun _ _=>Eh rfl rfl) rfl (by omega) ?_|refine Cj (fun _ _=>Eh rfl rfl) rfl (fun _=>?_) (fun _=>?_)))|refine AM rfl rfl rfl rfl ?_))<;>(first|refine FD rfl rfl rfl rfl ?_|refine Fm rfl rfl rfl rfl ?_)<;>(refine h_z ?_))<;>(repeat (first|refine An ?_|refine Ah rfl ?_|refine Ae rfl ?_))
      · ((repeat (first|refine An ?_|refine Ah rfl ?_|refine Ae rfl ?_))<;>(refine Al rfl rfl ?_<;>(refine o_z ?_))<;>(repeat (first|refine An ?_|refine Ah rfl ?_|refine Ae rfl ?_)))
        refine ret1 rfl rfl ⟨?_,hE3⟩
        rw [HN hx (by rw [hq];simpa using ‹_›),HH]
      · ((first|refine KJ rfl rfl ?_|refine KH rfl rfl rfl ?_)<;>refine Aj rfl rfl ?_<;>(refine o_z ?_))
        exact ⟨k + 1,⟨rfl,rfl,rfl,rfl,trivial⟩,⟨hE3,by omega,JF hx (by rw [hq];simp;omega) hh⟩,by omega⟩
    · have hq:hasB s x=false:=by
        unfold hasB
        by_cases h0:0≤x.var
        · have:s.length≤x.var.toNat:=by omega
          simp [List.getElem?_eq_none this]
        · simp [h0]
      (refine Ba rfl rfl rfl ?_<;>refine Gb rfl rfl rfl ?_<;>(first|refine Ls rfl rfl rfl rfl ?_|refine Lt rfl rfl rfl rfl ?_|refine Lu rfl rfl rfl rfl (fun _=>?_) fun _=>?_)<;>refine Bt rfl rfl rfl ?_<;>(refine AH rfl ?_;(first|(refine AG rfl rfl ?_;refine EQ rfl rfl ?_)|refine AM rfl rfl rfl rfl ?_))<;>(refine AH rfl ?_;(first|(refine AG rfl rfl ?_;refine CL rfl rfl ?_)|refine AM rfl rfl rfl rfl ?_))<;>(refine AH rfl ?_;(first|(refine AG rfl rfl ?_;refine GZ rfl rfl ?_)|refine AM rfl rfl rfl rfl ?_))<;>(refine AH rfl ?_;(first|(refine AG rfl rfl ?_;refine KM rfl rfl ?_)|refine AM rfl rfl rfl rfl ?_))<;>(refine AH rfl ?_;(first|(refine AG rfl rfl ?_;(first|refine DR (fun _ _=>Cl rfl rfl) rfl (by omega) ?_|refine DS (fun _ _=>Cl rfl rfl) rfl (by omega) ?_|refine Cj (fun _ _=>Cl rfl rfl) rfl (fun _=>?_) (fun _=>?_)))|refine AM rfl rfl rfl rfl ?_))<;>(first|refine FD rfl rfl rfl rfl ?_|refine Fm rfl rfl rfl rfl ?_)<;>refine Bt rfl rfl rfl ?_<;>(refine AH rfl ?_;(first|(refine AG rfl rfl ?_;refine GZ rfl rfl ?_)|refine AM rfl rfl rfl rfl ?_))<;>(refine AH rfl ?_;(first|(refine AG rfl rfl ?_;refine EQ rfl rfl ?_)|refine AM rfl rfl rfl rfl ?_))<;>(refine AH rfl ?_;(first|(refine AG rfl rfl ?_;refine CL rfl rfl ?_)|refine AM rfl rfl rfl rfl ?_))<;>(refine AH rfl ?_;(first|(refine AG rfl rfl ?_;refine KN rfl rfl rfl ?_)|refine AM rfl rfl rfl rfl ?_))<;>(refine AH rfl ?_;(first|(refine AG rfl rfl ?_;refine CL rfl rfl ?_)|refine AM rfl rfl rfl rfl ?_))<;>(refine AH rfl ?_;(first|(refine AG rfl rfl ?_;refine EQ rfl rfl ?_)|refine AM rfl rfl rfl rfl ?_))<;>(refine AH rfl ?_;(first|(refine AG rfl rfl ?_;refine CL rfl rfl ?_)|refine AM rfl rfl rfl rfl ?_))<;>(refine AH rfl ?_;(first|(refine AG rfl rfl ?_;(first|refine DR (fun _ _=>Eh rfl rfl) rfl (by omega) ?_|refine DS (fun _ _=>Eh rfl rfl) rfl (by omega) ?_|refine Cj (fun _ _=>Eh rfl rfl) rfl (fun _=>?_) (fun _=>?_)))|refine AM rfl rfl rfl rfl ?_))<;>(first|refine FD rfl rfl rfl rfl ?_|refine Fm rfl rfl rfl rfl ?_)<;>(refine h_z ?_))<;>(repeat (first|refine An ?_|refine Ah rfl ?_|refine Ae rfl ?_))
      all_goals
        ((repeat (first|refine An ?_|refine Ah rfl ?_|refine Ae rfl ?_))<;>(refine Al rfl rfl ?_<;>(refine o_z ?_))<;>(repeat (first|refine An ?_|refine Ah rfl ?_|refine Ae rfl ?_)))
        refine ret1 rfl rfl ⟨?_,hE3⟩
        rw [HN hx hq,HH]
  · ((repeat (first|refine An ?_|refine Ah rfl ?_|refine Ae rfl ?_))<;>((first|refine EF rfl rfl rfl ?_|refine EG rfl rfl rfl ?_)<;>(refine o_z ?_))<;>(repeat (first|refine An ?_|refine Ah rfl ?_|refine Ae rfl ?_))<;>(refine Al rfl rfl ?_<;>(refine o_z ?_))<;>(repeat (first|refine An ?_|refine Ah rfl ?_|refine Ae rfl ?_)))
    refine ret1 rfl rfl ⟨?_,hE⟩
    rw [List.take_of_length_le (by omega)] at hh
    rw [hh,HH]
theorem baseInts {w:World} {av bv:Value} {a b:List Int} (ha:V w av a) (hb:V w bv b) :
    Fn Tryz.prog 24 [av,bv] w fun v w'=>v=.bool (bof (a=b))∧Ext w w':=by
  obtain ⟨A,ca,rfl⟩:=ha.form
  obtain ⟨B,cb,rfl⟩:=hb.form
  have hal:=ha.len
  refine AD Tryz.func24 rfl Tryz.ntmps24 rfl ?_
  by_cases hl:a.length=b.length
  · ((repeat (first|refine An ?_|refine Ah rfl ?_|refine Ae rfl ?_))<;>(refine Al rfl rfl ?_<;>(refine o_z ?_))<;>(repeat (first|refine An ?_|refine Ah rfl ?_|refine Ae rfl ?_))<;>(refine Aj rfl rfl ?_<;>refine AT rfl rfl ?_<;>refine Aj rfl rfl ?_<;>refine AT rfl rfl ?_<;>(first|refine Lq rfl rfl rfl ?_|refine Lr rfl rfl rfl ?_)<;>(refine o_z ?_))<;>(repeat (first|refine An ?_|refine Ah rfl ?_|refine Ae rfl ?_))<;>(refine Aj rfl rfl ?_<;>refine AT rfl rfl ?_<;>refine Aj rfl rfl ?_<;>(refine o_z ?_))<;>(repeat (first|refine An ?_|refine Ah rfl ?_|refine Ae rfl ?_)))
    refine GH (fun k:Nat=>[(0,.slice A a.length ca),(1,.slice B b.length cb),(12,.int .i64 (a.length:Int)),(13,.int .i64 (k:Int))])
      (fun k w'=>w'=w∧k≤a.length∧a.take k=b.take k) (fun k=>a.length - k) 0 ⟨rfl,Nat.zero_le _,rfl⟩ ⟨rfl,rfl,rfl,rfl,trivial⟩ ?_
    rintro k _ ⟨rfl,hk,hh⟩
    by_cases hlt:k < a.length
    · obtain ⟨x,hx⟩:=BE hlt
      obtain ⟨y,hy⟩:=BE (l:=b) (k:=k) (by omega)
      obtain ⟨b1,o1,ce,rfl,_,_,hd1,rfl,_⟩:=ha.elem hx
      obtain ⟨b2,o2,ce,rfl,_,_,hd2,rfl,_⟩:=hb.elem hy
      ((repeat (first|refine An ?_|refine Ah rfl ?_|refine Ae rfl ?_))<;>((first|refine EF rfl rfl rfl ?_|refine EG rfl rfl rfl ?_)<;>(refine o_z ?_))<;>(repeat (first|refine An ?_|refine Ah rfl ?_|refine Ae rfl ?_))<;>(refine Aj rfl rfl ?_<;>refine Al rfl rfl ?_<;>(refine o_z ?_))<;>(repeat (first|refine An ?_|refine Ah rfl ?_|refine Ae rfl ?_)))
      refine GG (·=_) [(0,true),(1,true),(2,true),(3,true),(4,true),(5,true),(6,true),(7,true),(8,true)] (by kernel_rfl) rfl (by kernel_rfl) rfl ?_
      (refine Bt rfl rfl rfl ?_<;>refine Bt rfl rfl rfl ?_<;>refine OO rfl rfl rfl rfl ?_<;>refine Gb rfl rfl rfl ?_<;>refine Bt rfl rfl rfl ?_<;>refine Bt rfl rfl rfl ?_<;>refine OO rfl rfl rfl rfl ?_<;>refine Gb rfl rfl rfl ?_<;>(first|refine Pg rfl rfl rfl rfl ?_|refine Ph rfl rfl rfl rfl ?_|refine Pi rfl rfl rfl rfl (fun _=>?_) fun _=>?_)<;>(refine h_z ?_))<;>(repeat (first|refine An ?_|refine Ah rfl ?_|refine Ae rfl ?_))
      · ((repeat (first|refine An ?_|refine Ah rfl ?_|refine Ae rfl ?_))<;>(refine Al rfl rfl ?_<;>(refine o_z ?_))<;>(repeat (first|refine An ?_|refine Ah rfl ?_|refine Ae rfl ?_)))
        refine ret1 rfl rfl ⟨?_,Below.refl _ _⟩
        rw [CS]
        rintro rfl
        exact absurd (Option.some.inj (hx.symm.trans hy)) (by assumption)
      · ((first|refine KJ rfl rfl ?_|refine KH rfl rfl rfl ?_)<;>refine Aj rfl rfl ?_<;>(refine o_z ?_))
        exact ⟨k + 1,⟨rfl,rfl,rfl,rfl,trivial⟩,⟨rfl,by omega,by rw [List.take_add_one,List.take_add_one,hx,hy,hh,show x=y from by omega]⟩,by omega⟩
    · ((repeat (first|refine An ?_|refine Ah rfl ?_|refine Ae rfl ?_))<;>((first|refine EF rfl rfl rfl ?_|refine EG rfl rfl rfl ?_)<;>(refine o_z ?_))<;>(repeat (first|refine An ?_|refine Ah rfl ?_|refine Ae rfl ?_))<;>(refine Al rfl rfl ?_<;>(refine o_z ?_))<;>(repeat (first|refine An ?_|refine Ah rfl ?_|refine Ae rfl ?_)))
      refine ret1 rfl rfl ⟨?_,Below.refl _ _⟩
      rw [List.take_of_length_le (by omega),List.take_of_length_le (by omega)] at hh
      rw [De hh]
  · ((repeat (first|refine An ?_|refine Ah rfl ?_|refine Ae rfl ?_))<;>(refine Al rfl rfl ?_<;>(refine o_z ?_))<;>(repeat (first|refine An ?_|refine Ah rfl ?_|refine Ae rfl ?_))<;>(refine Aj rfl rfl ?_<;>refine AT rfl rfl ?_<;>refine Aj rfl rfl ?_<;>refine AT rfl rfl ?_<;>(first|refine Lq rfl rfl rfl ?_|refine Lr rfl rfl rfl ?_)<;>(refine o_z ?_))<;>(repeat (first|refine An ?_|refine Ah rfl ?_|refine Ae rfl ?_))<;>(refine Al rfl rfl ?_<;>(refine o_z ?_))<;>(repeat (first|refine An ?_|refine Ah rfl ?_|refine Ae rfl ?_)))
    refine ret1 rfl rfl ⟨?_,Below.refl _ _⟩
    rw [CS (fun h=>hl (by rw [h]))]
def StateOk (vars s:List Int):Prop:=s.length=vars.length∧∀ (i:Nat) x y,s[i]?=some x→vars[i]?=some y→0≤x∧x < y
end
section
open Go Go.RowKit
attribute [local irreducible] ewp owp hwp hwq Ev Evg Fn retPost Res1
theorem taskProper {w:World} {vv sv:Value} {vars s:List Int} (ha:V w vv vars) (hb:V w sv s) :
    Fn Tryz.prog 62 [vv,sv] w fun v w'=>v=.bool (bof (StateOk vars s))∧Ext w w':=by
  obtain ⟨A,ca,rfl⟩:=ha.form
  obtain ⟨B,cb,rfl⟩:=hb.form
  have hal:=hb.len
  refine AD Tryz.func62 rfl Tryz.ntmps62 rfl ?_
  by_cases hl:s.length=vars.length
  · ((repeat (first|refine An ?_|refine Ah rfl ?_|refine Ae rfl ?_))<;>(refine Al rfl rfl ?_<;>(refine o_z ?_))<;>(repeat (first|refine An ?_|refine Ah rfl ?_|refine Ae rfl ?_))<;>(refine Aj rfl rfl ?_<;>refine AT rfl rfl ?_<;>refine Aj rfl rfl ?_<;>refine AT rfl rfl ?_<;>(first|refine Lq rfl rfl rfl ?_|refine Lr rfl rfl rfl ?_)<;>(refine o_z ?_))<;>(repeat (first|refine An ?_|refine Ah rfl ?_|refine Ae rfl ?_))<;>(refine Aj rfl rfl ?_<;>refine AT rfl rfl ?_<;>refine Aj rfl rfl ?_<;>(refine o_z ?_))<;>(repeat (first|refine An ?_|refine Ah rfl ?_|refine Ae rfl ?_)))
    refine GH (fun k:Nat=>[(0,.slice A vars.length ca),(12,.slice B s.length cb),(13,.int .i64 (s.length:Int)),(14,.int .i64 (k:Int))])
      (fun k w'=>w'=w∧k≤s.length∧∀ (i:Nat) x y,i < k→s[i]?=some x→vars[i]?=some y→0≤x∧x < y) (fun k=>s.length - k) 0 ⟨rfl,Nat.zero_le _,fun i _ _ h=>by omega⟩ ⟨rfl,rfl,rfl,rfl,trivial⟩ ?_
    rintro k _ ⟨rfl,hk,hh⟩
    by_cases hlt:k < s.length
    · obtain ⟨x,hx⟩:=BE hlt
      obtain ⟨y,hy⟩:=BE (l:=vars) (k:=k) (by omega)
      obtain ⟨b1,o1,ce,rfl,_,_,hd1,rfl,_⟩:=ha.elem hy
      obtain ⟨b2,o2,ce,rfl,_,_,hd2,rfl,_⟩:=hb.elem hx
      ((repeat (first|refine An ?_|refine Ah rfl ?_|refine Ae rfl ?_))<;>((first|refine EF rfl rfl rfl ?_|refine EG rfl rfl rfl ?_)<;>(refine o_z ?_))<;>(repeat (first|refine An ?_|refine Ah rfl ?_|refine Ae rfl ?_))<;>(refine Aj rfl rfl ?_<;>refine Ge rfl rfl rfl ?_<;>refine Aw rfl rfl ?_<;>refine Al rfl rfl ?_<;>refine Al rfl rfl ?_<;>(refine o_z ?_))<;>(repeat (first|refine An ?_|refine Ah rfl ?_|refine Ae rfl ?_))<;>(refine Aj rfl rfl ?_<;>(first|refine EF rfl rfl rfl ?_|refine EG rfl rfl rfl ?_|refine EB rfl rfl rfl (fun _=>?_) fun _=>?_)<;>refine Aj rfl rfl ?_<;>(first|(refine Am rfl rfl ?_;refine Aj rfl rfl ?_)|refine Ak rfl rfl rfl rfl ?_)<;>(first|(refine Am rfl rfl ?_;refine Aj rfl rfl ?_)|refine Ak rfl rfl rfl rfl ?_)<;>(first|(refine Am rfl rfl ?_;refine Aj rfl rfl ?_)|refine Ak rfl rfl rfl rfl ?_)<;>(first|(refine Am rfl rfl ?_;refine Ge rfl rfl rfl ?_)|refine Ak rfl rfl rfl rfl ?_)<;>(first|(refine Am rfl rfl ?_;refine Aw rfl rfl ?_)|refine Ak rfl rfl rfl rfl ?_)<;>(first|(refine Am rfl rfl ?_;(first|refine MD rfl rfl rfl ?_|refine ME rfl rfl rfl ?_|refine EM rfl rfl rfl (fun _=>?_) fun _=>?_))|refine Ak rfl rfl rfl rfl ?_)<;>(first|refine Bv rfl rfl rfl ?_|refine Bg rfl rfl rfl ?_)<;>(refine o_z ?_))<;>(repeat (first|refine An ?_|refine Ah rfl ?_|refine Ae rfl ?_)))
      case refine_2.refine_2 =>
        ((first|refine KJ rfl rfl ?_|refine KH rfl rfl rfl ?_)<;>refine Aj rfl rfl ?_<;>(refine o_z ?_))
        refine ⟨k + 1,⟨rfl,rfl,rfl,rfl,trivial⟩,⟨rfl,by omega,fun i x' y' hi h1 h2=>?_⟩,by omega⟩
        by_cases he:i=k
        · subst he
          rw [hx] at h1;rw [hy] at h2
          injection h1 with h1;injection h2 with h2
          omega
        · exact hh i x' y' (by omega) h1 h2
      all_goals
        ((repeat (first|refine An ?_|refine Ah rfl ?_|refine Ae rfl ?_))<;>(refine Al rfl rfl ?_<;>(refine o_z ?_))<;>(repeat (first|refine An ?_|refine Ah rfl ?_|refine Ae rfl ?_)))
        refine ret1 rfl rfl ⟨?_,Below.refl _ _⟩
        rw [CS (fun h=>by have:=h.2 k x y hx hy;omega)]
    · ((repeat (first|refine An ?_|refine Ah rfl ?_|refine Ae rfl ?_))<;>((first|refine EF rfl rfl rfl ?_|refine EG rfl rfl rfl ?_)<;>(refine o_z ?_))<;>(repeat (first|refine An ?_|refine Ah rfl ?_|refine Ae rfl ?_))<;>(refine Al rfl rfl ?_<;>(refine o_z ?_))<;>(repeat (first|refine An ?_|refine Ah rfl ?_|refine Ae rfl ?_)))
      refine ret1 rfl rfl ⟨?_,Below.refl _ _⟩
      rw [De ⟨hl,fun i x y h1 h2=>hh i x y (by have:=Cs h1;omega) h1 h2⟩]
  · ((repeat (first|refine An ?_|refine Ah rfl ?_|refine Ae rfl ?_))<;>(refine Al rfl rfl ?_<;>(refine o_z ?_))<;>(repeat (first|refine An ?_|refine Ah rfl ?_|refine Ae rfl ?_))<;>(refine Aj rfl rfl ?_<;>refine AT rfl rfl ?_<;>refine Aj rfl rfl ?_<;>refine AT rfl rfl ?_<;>(first|refine Lq rfl rfl rfl ?_|refine Lr rfl rfl rfl ?_)<;>(refine o_z ?_))<;>(repeat (first|refine An ?_|refine Ah rfl ?_|refine Ae rfl ?_))<;>(refine Al rfl rfl ?_<;>(refine o_z ?_))<;>(repeat (first|refine An ?_|refine Ah rfl ?_|refine Ae rfl ?_)))
    refine ret1 rfl rfl ⟨?_,Below.refl _ _⟩
    rw [CS (fun h=>hl h.1)]
def FactOk (vars:List Int) (x:Fct):Prop:=0≤x.var∧0≤x.val∧∃ y,vars[x.var.toNat]?=some y∧x.val < y
def FactsOk (vars:List Int) (f:List Fct):Prop:=(∀ (i:Nat) x,f[i]?=some x→FactOk vars x)∧∀ (i:Nat) x y,f[i]?=some x→f[i + 1]?=some y→x.var < y.var
def FactsTo (vars:List Int) (f:List Fct) (k:Nat):Prop:=(∀ (i:Nat) x,i < k→f[i]?=some x→FactOk vars x)∧∀ (i:Nat) x y,i + 1 < k→f[i]?=some x→f[i + 1]?=some y→x.var < y.var
theorem FactsTo.step {vars:List Int} {f:List Fct} {k:Nat} {x:Fct} (h:FactsTo vars f k) (hx:f[k]?=some x) (ho:FactOk vars x) (hp:∀ y,0 < k→f[k - 1]?=some y→y.var < x.var):FactsTo vars f (k + 1):=by
  refine ⟨fun i y hi hy=>?_,fun i y z hi hy hz=>?_⟩
  · by_cases he:i=k
    · subst he;rw [hx] at hy;injection hy with hy;exact hy ▸ ho
    · exact h.1 i y (by omega) hy
  · by_cases he:i + 1=k
    · rw [he,hx] at hz;injection hz with hz;subst hz
      exact hp y (by omega) (by rw [show k - 1=i from by omega];exact hy)
    · exact h.2 i y z (by omega) hy hz
theorem FactsTo.done {vars:List Int} {f:List Fct} {k:Nat} (h:FactsTo vars f k) (hk:f.length≤k):FactsOk vars f :=
  ⟨fun i x hx=>h.1 i x (by have:=Cs hx;omega) hx,fun i x y hx hy=>h.2 i x y (by have:=Cs hy;omega) hx hy⟩
theorem taskFacts {w:World} {vv fv:Value} {vars:List Int} {f:List Fct} (hv:V w vv vars) (hf:V w fv f) :
    Fn Tryz.prog 64 [vv,fv] w fun v w'=>v=.bool (bof (FactsOk vars f))∧Ext w w':=by
  obtain ⟨A,ca,rfl⟩:=hv.form
  obtain ⟨B,cb,rfl⟩:=hf.form
  have hfl:=hf.len
  refine AD Tryz.func64 rfl Tryz.ntmps64 rfl ?_
  ((repeat (first|refine An ?_|refine Ah rfl ?_|refine Ae rfl ?_))<;>(refine Al rfl rfl ?_<;>(refine o_z ?_))<;>(repeat (first|refine An ?_|refine Ah rfl ?_|refine Ae rfl ?_))<;>(refine Al rfl rfl ?_<;>(refine o_z ?_))<;>(repeat (first|refine An ?_|refine Ah rfl ?_|refine Ae rfl ?_))<;>(refine Aj rfl rfl ?_<;>refine AT rfl rfl ?_<;>refine Aj rfl rfl ?_<;>(refine o_z ?_))<;>(repeat (first|refine An ?_|refine Ah rfl ?_|refine Ae rfl ?_)))
  refine GH (X:=Nat×Int) (fun k=>[(0,.slice A vars.length ca),(5,.int .i64 k.2),(8,.slice B f.length cb),(9,.int .i64 (f.length:Int)),(10,.int .i64 (k.1:Int))])
    (fun k w'=>Ext w w'∧k.1≤f.length∧FactsTo vars f k.1∧(k.1=0→k.2=-1)∧∀ y,0 < k.1→f[k.1 - 1]?=some y→y.var=k.2) (fun k=>f.length - k.1) (0,-1) ⟨Below.refl _ _,Nat.zero_le _,⟨fun i _ h=>by simp at h,fun i _ _ h=>by simp at h⟩,fun _=>rfl,fun y h=>by simp at h⟩ ⟨rfl,rfl,rfl,rfl,rfl,trivial⟩ ?_
  rintro ⟨k,m⟩ w1 ⟨hE,hk,hh,hm0,hm⟩
  dsimp only at hk hh hm0 hm ⊢
  by_cases hlt:k < f.length
  · obtain ⟨x,hx⟩:=BE hlt
    obtain ⟨b,o,ce,rfl,hb,_,hd1,rfl,hr1,hr2⟩:=(hf.ext hE).elem hx
    ((repeat (first|refine An ?_|refine Ah rfl ?_|refine Ae rfl ?_))<;>((first|refine EF rfl rfl rfl ?_|refine EG rfl rfl rfl ?_)<;>(refine o_z ?_))<;>(repeat (first|refine An ?_|refine Ah rfl ?_|refine Ae rfl ?_))<;>(refine Ge rfl rfl rfl ?_<;>refine Bp rfl rfl ?_)<;>(repeat (first|refine An ?_|refine Ah rfl ?_|refine Ae rfl ?_)))
    refine Ek rfl rfl rfl (by simp [Value.cells,Value.oneCell']) fun w3 hN=>?_
    have hb1:=hN.blk
    have hE3:Ext w w3:=hE.trans' hN.ext
    ((refine o_z ?_))
    repeat (first|refine An ?_|refine Ah rfl ?_|refine Ae rfl ?_)
    refine GG (·=w3) [(0,true),(1,true),(2,true),(3,true),(4,true),(5,true),(6,true),(7,true),(8,true),(9,true),(10,true),(11,true),(12,true),(13,true),(14,true),(15,true),(16,true),(17,true),(18,true),(19,true),(20,true),(21,true),(22,true),(23,true),(24,true),(25,true)] (by kernel_rfl) rfl (by kernel_rfl) rfl ?_
    have hm1:0 < k→∃ z,f[k - 1]?=some z∧z.var=m:=fun h0=>by
      obtain ⟨z,hz⟩:=BE (l:=f) (k:=k - 1) (by omega)
      exact ⟨z,hz,hm z h0 hz⟩
    have hge:0 < k→0≤m:=fun h0=>by
      obtain ⟨z,hz,he⟩:=hm1 h0
      have:=(hh.1 (k - 1) z (by omega) hz).1
      omega
    have hge':-1≤m:=by
      by_cases h0:0 < k
      · have:=hge h0;omega
      · have:=hm0 (by omega);omega
    have hno0:¬ m < x.var→¬ FactsOk vars f:=fun h1 h2=>by
      by_cases h0:0 < k
      · obtain ⟨z,hz,he⟩:=hm1 h0
        have:=h2.2 (k - 1) z x hz (by rw [show k - 1 + 1=k from by omega];exact hx)
        omega
      · have:=hm0 (by omega)
        have:=(h2.1 k x hx).1
        omega
    by_cases hvr:0≤x.var∧x.var < vars.length
    · obtain ⟨j,hj1⟩:=Int.eq_ofNat_of_zero_le hvr.1
      obtain ⟨y,hy⟩:=BE (l:=vars) (k:=j) (by omega)
      obtain ⟨b2,o2,ce2,rfl,_,_,hd2,rfl,_⟩:=(hv.ext hE3).elem hy
      have hjy:vars[x.var.toNat]?=some y:=by rw [hj1];simpa using hy
      have hok:0≤x.val→x.val < y→FactOk vars x:=fun h1 h2=>⟨hvr.1,h1,y,hjy,h2⟩
      have hno:¬ (0≤x.val∧x.val < y)→¬ FactsOk vars f:=fun h1 h2=>h1 (by
        obtain ⟨_,h3,y',h4,h5⟩:=h2.1 k x hx
        rw [hjy] at h4;injection h4 with h4;subst h4;exact ⟨h3,h5⟩)
      (refine Ba rfl rfl rfl ?_<;>refine Gb rfl rfl rfl ?_<;>refine Bt rfl rfl rfl ?_<;>(first|refine NU rfl rfl rfl rfl ?_|refine NV rfl rfl rfl rfl ?_|refine NW rfl rfl rfl rfl (fun _=>?_) fun _=>?_)<;>refine Bt rfl rfl rfl ?_<;>(refine AH rfl ?_;(first|(refine AG rfl rfl ?_;refine EQ rfl rfl ?_)|refine AM rfl rfl rfl rfl ?_))<;>(refine AH rfl ?_;(first|(refine AG rfl rfl ?_;refine CL rfl rfl ?_)|refine AM rfl rfl rfl rfl ?_))<;>(refine AH rfl ?_;(first|(refine AG rfl rfl ?_;refine GZ rfl rfl ?_)|refine AM rfl rfl rfl rfl ?_))<;>(refine AH rfl ?_;(first|(refine AG rfl rfl ?_;refine KM rfl rfl ?_)|refine AM rfl rfl rfl rfl ?_))<;>(refine AH rfl ?_;(first|(refine AG rfl rfl ?_;(first|refine DR (fun _ _=>Cl rfl rfl) rfl (by omega) ?_|refine DS (fun _ _=>Cl rfl rfl) rfl (by omega) ?_|refine Cj (fun _ _=>Cl rfl rfl) rfl (fun _=>?_) (fun _=>?_)))|refine AM rfl rfl rfl rfl ?_))<;>(first|refine FD rfl rfl rfl rfl ?_|refine Fm rfl rfl rfl rfl ?_)<;>refine Bt rfl rfl rfl ?_<;>(refine AH rfl ?_;(first|(refine AG rfl rfl ?_;refine EQ rfl rfl ?_)|refine AM rfl rfl rfl rfl ?_))<;>(refine AH rfl ?_;(first|(refine AG rfl rfl ?_;refine CL rfl rfl ?_)|refine AM rfl rfl rfl rfl ?_))<;>(refine AH rfl ?_;(first|(refine AG rfl rfl ?_;(first|refine DR (fun _ _=>Ep rfl rfl) rfl (by omega) ?_|refine DS (fun _ _=>Ep rfl rfl) rfl (by omega) ?_|refine Cj (fun _ _=>Ep rfl rfl) rfl (fun _=>?_) (fun _=>?_)))|refine AM rfl rfl rfl rfl ?_))<;>(first|refine FD rfl rfl rfl rfl ?_|refine Fm rfl rfl rfl rfl ?_)<;>refine Bt rfl rfl rfl ?_<;>(refine AH rfl ?_;(first|(refine AG rfl rfl ?_;refine EQ rfl rfl ?_)|refine AM rfl rfl rfl rfl ?_))<;>(refine AH rfl ?_;(first|(refine AG rfl rfl ?_;refine CL rfl rfl ?_)|refine AM rfl rfl rfl rfl ?_))<;>(refine AH rfl ?_;(first|(refine AG rfl rfl ?_;refine GZ rfl rfl ?_)|refine AM rfl rfl rfl rfl ?_))<;>(refine AH rfl ?_;(first|(refine AG rfl rfl ?_;refine EQ rfl rfl ?_)|refine AM rfl rfl rfl rfl ?_))<;>(refine AH rfl ?_;(first|(refine AG rfl rfl ?_;refine CL rfl rfl ?_)|refine AM rfl rfl rfl rfl ?_))<;>(refine AH rfl ?_;(first|(refine AG rfl rfl ?_;refine KN rfl rfl rfl ?_)|refine AM rfl rfl rfl rfl ?_))<;>(refine AH rfl ?_;(first|(refine AG rfl rfl ?_;refine CL rfl rfl ?_)|refine AM rfl rfl rfl rfl ?_))<;>(refine AH rfl ?_;(first|(refine AG rfl rfl ?_;(first|refine DR (fun _ _=>Cl rfl rfl) rfl (by omega) ?_|refine DS (fun _ _=>Cl rfl rfl) rfl (by omega) ?_|refine Cj (fun _ _=>Cl rfl rfl) rfl (fun _=>?_) (fun _=>?_)))|refine AM rfl rfl rfl rfl ?_))<;>(first|refine FD rfl rfl rfl rfl ?_|refine Fm rfl rfl rfl rfl ?_)<;>(refine h_z ?_))<;>(repeat (first|refine An ?_|refine Ah rfl ?_|refine Ae rfl ?_))
      all_goals try (
        ((repeat (first|refine An ?_|refine Ah rfl ?_|refine Ae rfl ?_))<;>(refine Al rfl rfl ?_<;>(refine o_z ?_))<;>(repeat (first|refine An ?_|refine Ah rfl ?_|refine Ae rfl ?_)))
        refine ret1 rfl rfl ⟨?_,hE3⟩
        first|rw [CS (hno (by omega))]|rw [CS (hno0 (by omega))])
      ((repeat (first|refine An ?_|refine Ah rfl ?_|refine Ae rfl ?_))<;>(refine AA rfl rfl ?_<;>refine Aw rfl rfl ?_<;>refine Al rfl rfl ?_<;>(refine o_z ?_))<;>(repeat (first|refine An ?_|refine Ah rfl ?_|refine Ae rfl ?_)))
      ((first|refine KJ rfl rfl ?_|refine KH rfl rfl rfl ?_)<;>refine Aj rfl rfl ?_<;>(refine o_z ?_))
      refine ⟨(k + 1,x.var),⟨rfl,rfl,rfl,rfl,rfl,trivial⟩,⟨hE3,hlt,hh.step hx (hok (by omega) (by omega)) (fun y' h0 hy'=>by have:=hm y' h0 hy';omega),fun h=>absurd h (Nat.succ_ne_zero k),fun y' _ hy'=>?_⟩,Nat.sub_lt_sub_left hlt (Nat.lt_succ_self k)⟩
      rw [show k + 1 - 1=k from rfl,hx] at hy'
      exact congrArg Fct.var (Option.some.inj hy').symm
    · have hno:¬ FactsOk vars f:=fun h=>by
        obtain ⟨h1,h2,y,h3,_⟩:=h.1 k x hx
        have:=Cs h3
        omega
      (refine Ba rfl rfl rfl ?_<;>refine Gb rfl rfl rfl ?_<;>refine Bt rfl rfl rfl ?_<;>(first|refine NU rfl rfl rfl rfl ?_|refine NV rfl rfl rfl rfl ?_|refine NW rfl rfl rfl rfl (fun _=>?_) fun _=>?_)<;>refine Bt rfl rfl rfl ?_<;>(refine AH rfl ?_;(first|(refine AG rfl rfl ?_;refine EQ rfl rfl ?_)|refine AM rfl rfl rfl rfl ?_))<;>(refine AH rfl ?_;(first|(refine AG rfl rfl ?_;refine CL rfl rfl ?_)|refine AM rfl rfl rfl rfl ?_))<;>(refine AH rfl ?_;(first|(refine AG rfl rfl ?_;refine GZ rfl rfl ?_)|refine AM rfl rfl rfl rfl ?_))<;>(refine AH rfl ?_;(first|(refine AG rfl rfl ?_;refine KM rfl rfl ?_)|refine AM rfl rfl rfl rfl ?_))<;>(refine AH rfl ?_;(first|(refine AG rfl rfl ?_;(first|refine DR (fun _ _=>Cl rfl rfl) rfl (by omega) ?_|refine DS (fun _ _=>Cl rfl rfl) rfl (by omega) ?_|refine Cj (fun _ _=>Cl rfl rfl) rfl (fun _=>?_) (fun _=>?_)))|refine AM rfl rfl rfl rfl ?_))<;>(first|refine FD rfl rfl rfl rfl ?_|refine Fm rfl rfl rfl rfl ?_)<;>refine Bt rfl rfl rfl ?_<;>(refine AH rfl ?_;(first|(refine AG rfl rfl ?_;refine EQ rfl rfl ?_)|refine AM rfl rfl rfl rfl ?_))<;>(refine AH rfl ?_;(first|(refine AG rfl rfl ?_;refine CL rfl rfl ?_)|refine AM rfl rfl rfl rfl ?_))<;>(refine AH rfl ?_;(first|(refine AG rfl rfl ?_;(first|refine DR (fun _ _=>Ep rfl rfl) rfl (by omega) ?_|refine DS (fun _ _=>Ep rfl rfl) rfl (by omega) ?_|refine Cj (fun _ _=>Ep rfl rfl) rfl (fun _=>?_) (fun _=>?_)))|refine AM rfl rfl rfl rfl ?_))<;>(first|refine FD rfl rfl rfl rfl ?_|refine Fm rfl rfl rfl rfl ?_)<;>refine Bt rfl rfl rfl ?_<;>(refine AH rfl ?_;(first|(refine AG rfl rfl ?_;refine EQ rfl rfl ?_)|refine AM rfl rfl rfl rfl ?_))<;>(refine AH rfl ?_;(first|(refine AG rfl rfl ?_;refine CL rfl rfl ?_)|refine AM rfl rfl rfl rfl ?_))<;>(refine AH rfl ?_;(first|(refine AG rfl rfl ?_;refine GZ rfl rfl ?_)|refine AM rfl rfl rfl rfl ?_))<;>(refine AH rfl ?_;(first|(refine AG rfl rfl ?_;refine EQ rfl rfl ?_)|refine AM rfl rfl rfl rfl ?_))<;>(refine AH rfl ?_;(first|(refine AG rfl rfl ?_;refine CL rfl rfl ?_)|refine AM rfl rfl rfl rfl ?_))<;>(refine AH rfl ?_;(first|(refine AG rfl rfl ?_;refine KN rfl rfl rfl ?_)|refine AM rfl rfl rfl rfl ?_))<;>(refine AH rfl ?_;(first|(refine AG rfl rfl ?_;refine CL rfl rfl ?_)|refine AM rfl rfl rfl rfl ?_))<;>(refine AH rfl ?_;(first|(refine AG rfl rfl ?_;(first|refine DR (fun _ _=>Cl rfl rfl) rfl (by omega) ?_|refine DS (fun _ _=>Cl rfl rfl) rfl (by omega) ?_|refine Cj (fun _ _=>Cl rfl rfl) rfl (fun _=>?_) (fun _=>?_)))|refine AM rfl rfl rfl rfl ?_))<;>(first|refine FD rfl rfl rfl rfl ?_|refine Fm rfl rfl rfl rfl ?_)<;>(refine h_z ?_))<;>(repeat (first|refine An ?_|refine Ah rfl ?_|refine Ae rfl ?_))
      all_goals
        ((repeat (first|refine An ?_|refine Ah rfl ?_|refine Ae rfl ?_))<;>(refine Al rfl rfl ?_<;>(refine o_z ?_))<;>(repeat (first|refine An ?_|refine Ah rfl ?_|refine Ae rfl ?_)))
        refine ret1 rfl rfl ⟨?_,hE3⟩
        rw [CS hno]
  · ((repeat (first|refine An ?_|refine Ah rfl ?_|refine Ae rfl ?_))<;>((first|refine EF rfl rfl rfl ?_|refine EG rfl rfl rfl ?_)<;>(refine o_z ?_))<;>(repeat (first|refine An ?_|refine Ah rfl ?_|refine Ae rfl ?_))<;>(refine Al rfl rfl ?_<;>(refine o_z ?_))<;>(repeat (first|refine An ?_|refine Ah rfl ?_|refine Ae rfl ?_)))
    refine ret1 rfl rfl ⟨?_,hE⟩
    rw [De (hh.done (by omega))]
def NameOk (s:ByteArray):Prop:=s.size≤256∧∀ (i:Nat) (h:i < s.size),32≤(s[i]'h).toNat∧(s[i]'h).toNat≤126
theorem taskNamed {w:World} {s:ByteArray} (hs:s.size≤9223372036854775807) :
    Fn Tryz.prog 106 [.string s] w fun v w'=>v=.bool (bof (NameOk s))∧Ext w w':=by
  refine AD Tryz.func106 rfl Tryz.ntmps106 rfl ?_
  ((repeat (first|refine An ?_|refine Ah rfl ?_|refine Ae rfl ?_))<;>(refine Al rfl rfl ?_<;>(refine o_z ?_))<;>(repeat (first|refine An ?_|refine Ah rfl ?_|refine Ae rfl ?_))<;>(refine Aj rfl rfl ?_<;>refine KG rfl rfl ?_<;>refine Aj rfl rfl ?_<;>(refine o_z ?_))<;>(repeat (first|refine An ?_|refine Ah rfl ?_|refine Ae rfl ?_)))
  refine GH (fun k:Nat=>[(0,.string s),(5,.int .i64 (s.size:Int)),(6,.int .i64 (k:Int))])
    (fun k w'=>w'=w∧k≤s.size∧∀ (i:Nat) (h:i < s.size),i < k→32≤(s[i]'h).toNat∧(s[i]'h).toNat≤126) (fun k=>s.size - k) 0 ⟨rfl,Nat.zero_le _,fun i _ h=>by omega⟩ ⟨rfl,rfl,rfl,trivial⟩ ?_
  rintro k _ ⟨rfl,hk,hh⟩
  by_cases hlt:k < s.size
  · ((repeat (first|refine An ?_|refine Ah rfl ?_|refine Ae rfl ?_))<;>((first|refine EF rfl rfl rfl ?_|refine EG rfl rfl rfl ?_)<;>(refine o_z ?_))<;>(repeat (first|refine An ?_|refine Ah rfl ?_|refine Ae rfl ?_))<;>(refine Aj rfl rfl ?_<;>refine Al rfl rfl ?_<;>(refine o_z ?_))<;>(repeat (first|refine An ?_|refine Ah rfl ?_|refine Ae rfl ?_))<;>(refine Aj rfl rfl ?_<;>refine Aj rfl rfl ?_<;>refine ON rfl rfl rfl (by omega) ?_<;>(first|refine EF rfl rfl rfl ?_|refine EG rfl rfl rfl ?_|refine EB rfl rfl rfl (fun _=>?_) fun _=>?_)<;>refine Aj rfl rfl ?_<;>(first|(refine Am rfl rfl ?_;refine Aj rfl rfl ?_)|refine Ak rfl rfl rfl rfl ?_)<;>(first|(refine Am rfl rfl ?_;refine Aj rfl rfl ?_)|refine Ak rfl rfl rfl rfl ?_)<;>(first|(refine Am rfl rfl ?_;refine ON rfl rfl rfl (by omega) ?_)|refine Ak rfl rfl rfl rfl ?_)<;>(first|(refine Am rfl rfl ?_;(first|refine HI rfl rfl rfl ?_|refine HJ rfl rfl rfl ?_|refine CK rfl rfl rfl (fun _=>?_) fun _=>?_))|refine Ak rfl rfl rfl rfl ?_)<;>(first|refine Bv rfl rfl rfl ?_|refine Bg rfl rfl rfl ?_)<;>(refine o_z ?_))<;>(repeat (first|refine An ?_|refine Ah rfl ?_|refine Ae rfl ?_)))
    all_goals first
      | (((first|refine KJ rfl rfl ?_|refine KH rfl rfl rfl ?_)<;>refine Aj rfl rfl ?_<;>(refine o_z ?_))
         refine ⟨k + 1,⟨rfl,rfl,rfl,trivial⟩,⟨rfl,by omega,fun i h hi=>?_⟩,by omega⟩
         by_cases he:i=k
         · subst he;omega
         · exact hh i h (by omega))
      | (((repeat (first|refine An ?_|refine Ah rfl ?_|refine Ae rfl ?_))<;>(refine Al rfl rfl ?_<;>(refine o_z ?_))<;>(repeat (first|refine An ?_|refine Ah rfl ?_|refine Ae rfl ?_)))
         refine ret1 rfl rfl ⟨?_,Below.refl _ _⟩
         rw [CS (fun h=>by have:=h.2 k hlt;omega)])
  · by_cases h256:s.size≤256
    · ((repeat (first|refine An ?_|refine Ah rfl ?_|refine Ae rfl ?_))<;>((first|refine EF rfl rfl rfl ?_|refine EG rfl rfl rfl ?_)<;>(refine o_z ?_))<;>(repeat (first|refine An ?_|refine Ah rfl ?_|refine Ae rfl ?_))<;>(refine Aj rfl rfl ?_<;>refine KG rfl rfl ?_<;>(first|refine NR rfl rfl rfl ?_|refine NS rfl rfl rfl ?_)<;>refine Al rfl rfl ?_<;>(refine o_z ?_))<;>(repeat (first|refine An ?_|refine Ah rfl ?_|refine Ae rfl ?_)))
      refine ret1 rfl rfl ⟨?_,Below.refl _ _⟩
      rw [De ⟨h256,fun i h=>hh i h (by omega)⟩]
    · ((repeat (first|refine An ?_|refine Ah rfl ?_|refine Ae rfl ?_))<;>((first|refine EF rfl rfl rfl ?_|refine EG rfl rfl rfl ?_)<;>(refine o_z ?_))<;>(repeat (first|refine An ?_|refine Ah rfl ?_|refine Ae rfl ?_))<;>(refine Aj rfl rfl ?_<;>refine KG rfl rfl ?_<;>(first|refine NR rfl rfl rfl ?_|refine NS rfl rfl rfl ?_)<;>refine Al rfl rfl ?_<;>(refine o_z ?_))<;>(repeat (first|refine An ?_|refine Ah rfl ?_|refine Ae rfl ?_)))
      refine ret1 rfl rfl ⟨?_,Below.refl _ _⟩
      rw [CS (fun h=>h256 h.1)]
end
section
open Go Go.RowKit
attribute [local irreducible] ewp owp hwp hwq Ev Evg Fn retPost Res1
theorem JG {vars:List Int} {x:Fct}:FactsOk vars [x]↔FactOk vars x:=by
  constructor
  · intro h;exact h.1 0 x rfl
  · intro h
    refine ⟨fun i y hy=>?_,fun i y z _ hz=>by simp at hz⟩
    cases i with
    | zero=>simp at hy;exact hy ▸ h
    | succ i=>simp at hy
def EffOk (vars:List Int) (e:Eff):Prop:=FactsOk vars e.cond∧FactOk vars ⟨e.var,e.val⟩
def OpOk (vars:List Int) (o:Opr):Prop:=0≤o.cost∧o.cost≤1048576∧o.effs.length≤64∧NameOk o.name∧FactsOk vars o.pre∧∀ (i:Nat) e,o.effs[i]?=some e→EffOk vars e
def TaskOk (t:Tsk):Prop:=t.vars.length≤64∧t.ops.length≤4096∧(∀ (i:Nat) n,t.vars[i]?=some n→1≤n∧n≤64)∧StateOk t.vars t.init∧FactsOk t.vars t.goal∧∀ (i:Nat) o,t.ops[i]?=some o→OpOk t.vars o
theorem EZ {p:Nat→Prop} {k:Nat} (h:∀ i,i < k→p i) (hk:p k):∀ i,i < k + 1→p i:=fun i hi=>by
  by_cases he:i=k
  · subst he;exact hk
  · exact h i (by omega)
end
section
open Go Go.RowKit
attribute [local irreducible] ewp owp hwp hwq Ev Evg Fn retPost Res1
def opConds (o:Opr):List (List Fct):=o.pre :: o.effs.map (·.cond)
def conds (t:Tsk):List (List Fct):=t.goal :: t.ops.flatMap opConds
theorem Lg {α β:Type} (f:α→List β) {l:List α} {k:Nat} {x:α} (h:l[k]?=some x):(l.take (k + 1)).flatMap f=(l.take k).flatMap f ++ f x:=by
  rw [List.take_add_one,h];simp
theorem NC {α β:Type} (f:α→β) {l:List α} {k:Nat} {x:α} (h:l[k]?=some x):(l.take (k + 1)).map f=(l.take k).map f ++ [f x]:=by
  rw [List.take_add_one,h];simp
theorem Om {t:Tsk} (h:∀ (i:Nat) o,t.ops[i]?=some o→o.effs.length≤64) (k:Nat):((t.ops.take k).flatMap opConds).length≤k * 65:=by
  induction k with
  | zero=>simp
  | succ k ih =>
    cases hx:t.ops[k]? with
    | none =>
      have hl:=List.getElem?_eq_none_iff.1 hx
      rw [List.take_of_length_le hl] at ih
      rw [List.take_of_length_le (by omega)]
      omega
    | some o =>
      rw [Lg opConds hx,List.length_append]
      have:=h k o hx
      simp only [opConds,List.length_cons,List.length_map] at *
      omega
theorem taskConditions {w:World} {tv:Value} {t:Tsk} (ht:V w tv t) (hn:t.ops.length≤4096) (hm:∀ (i:Nat) o,t.ops[i]?=some o→o.effs.length≤64) :
    Fn Tryz.prog 105 [tv] w fun v w'=>V w' v (conds t)∧Ext w w':=by
  obtain ⟨cs,rfl,a,b,c,d,rfl,hvars,hinit,hgoal,hops⟩:=ht
  obtain ⟨Av,cv,rfl⟩:=hvars.form
  obtain ⟨Ai,ci,rfl⟩:=hinit.form
  obtain ⟨Ag,cg,rfl⟩:=hgoal.form
  obtain ⟨Ao,co,rfl⟩:=hops.form
  have hF:∀ {w'},Ext w w'→∀ k,All w k→k < w'.heap.size:=fun hE k hk=>Nat.lt_of_lt_of_le hk hE.size
  refine AD Tryz.func105 rfl Tryz.ntmps105 rfl ?_
  repeat (first|refine An ?_|refine Ah rfl ?_|refine Ae rfl ?_)
  refine HZ rfl rfl fun w1 hN=>?_
  have hb1:=hN.blk
  have hE1:Ext w w1:=hN.ext
  (refine Al rfl rfl ?_<;>(refine o_z ?_))
  repeat (first|refine An ?_|refine Ah rfl ?_|refine Ae rfl ?_)
  (refine AA rfl rfl ?_<;>refine Aw rfl rfl ?_)
  refine HG rfl rfl rfl (by simp [Value.cells]) (by decide) rfl fun w2 hN2=>?_
  replace hb1:=hb1.ext hN2.ext
  have hE2:Ext w w2:=hE1.trans' hN2.ext
  have hown:Own w2 w.heap.size (All w) 23 (.slice (some ⟨w1.heap.size,0,none⟩) 1 1) [t.goal] :=
    (Own.made hN2 (xs:=[t.goal]) (.single (Vb.agree hgoal (hE2.agree fun _ h=>h))) rfl (fun h=>by have:w1.heap.size < w.heap.size:=h;have:=hE1.size;omega) (by simp)).lower hE1.size
  (refine Al rfl rfl ?_<;>(refine o_z ?_))
  repeat (first|refine An ?_|refine Ah rfl ?_|refine Ae rfl ?_)
  ((repeat (first|refine An ?_|refine Ah rfl ?_|refine Ae rfl ?_))<;>(refine AA rfl rfl ?_<;>refine Aw rfl rfl ?_<;>refine AT rfl rfl ?_<;>refine Aj rfl rfl ?_<;>(refine o_z ?_))<;>(repeat (first|refine An ?_|refine Ah rfl ?_|refine Ae rfl ?_)))
  refine DT t.ops.length (by omega) (fun v:Value=>[(1,.pointer (some ⟨w.heap.size,0,none⟩)),(3,v),(12,.slice Ao t.ops.length co)]) (fun k v w'=>Ext w w'∧Blk w' w.heap.size 31 [.slice Av t.vars.length cv,.slice Ai t.init.length ci,.slice Ag t.goal.length cg,.slice Ao t.ops.length co]∧Own w' w.heap.size (All w) 23 v (t.goal :: (t.ops.take k).flatMap opConds)) _
    ⟨hE2,hb1,hown⟩ ⟨rfl,rfl,rfl,rfl,rfl,trivial⟩ (fun _=>⟨rfl,rfl⟩) ⟨rfl,rfl,rfl⟩ ⟨rfl,rfl⟩ ?_ ?_
  · rintro k v w3 hk ⟨hE3,hb1,hown⟩
    have hlk:=Om hm k
    obtain ⟨o,ho⟩:=BE hk
    obtain ⟨b2,o2,ce,rfl,_,_,hd1,p,q,rfl,hp,hq,hc,hnm⟩:=Vb.elem (Vb.agree hops (hE3.agree fun _ h=>h)) ho
    obtain ⟨Ap,cp,rfl⟩:=hp.form
    obtain ⟨Aq,cq,rfl⟩:=hq.form
    have hql:=hm k o ho
    ((repeat (first|refine An ?_|refine Ah rfl ?_|refine Ae rfl ?_))<;>(refine Ge rfl rfl rfl ?_<;>refine Bp rfl rfl ?_)<;>(repeat (first|refine An ?_|refine Ah rfl ?_|refine Ae rfl ?_)))
    refine Ek rfl rfl rfl (by simp [Value.cells,Value.oneCell']) fun w4 hN4=>?_
    have hb2:=hN4.blk
    replace hb1:=hb1.ext hN4.ext
    have hE4:Ext w w4:=hE3.trans' hN4.ext
    replace hown:=hown.ext hN4.ext (hF hE3)
    replace hp:=hp.agree (hN4.ext.agree (hF hE3))
    replace hq:=hq.agree (hN4.ext.agree (hF hE3))
    ((refine o_z ?_))
    repeat (first|refine An ?_|refine Ah rfl ?_|refine Ae rfl ?_)
    (refine Aj rfl rfl ?_<;>refine AA rfl rfl ?_<;>refine Aw rfl rfl ?_)
    refine JA rfl rfl rfl hown (hF hE4) hE4.size hp (by decide) (by decide) (by simp only [List.length_cons,List.length_append,List.length_map,List.length_take];omega) (by simp only [List.length_cons,List.length_append,List.length_map,List.length_take];omega) ⟨rfl,rfl⟩ fun v' w5 hown5 hK=>?_
    replace hb1:=hK.blk hb1 (hown.blk_ne hb1 (by decide))
    replace hb2:=hK.blk hb2 (hown.blk_ne hb2 (by decide))
    have hB5:Below w.heap.size w4 w5:=hown.fits (Nat.le_refl _) hE4.size hK
    have hE5:Ext w w5:=hE4.trans hB5
    replace hq:=hq.below hB5
    (refine Al rfl rfl ?_<;>(refine o_z ?_))
    repeat (first|refine An ?_|refine Ah rfl ?_|refine Ae rfl ?_)
    ((repeat (first|refine An ?_|refine Ah rfl ?_|refine Ae rfl ?_))<;>(refine AA rfl rfl ?_<;>refine Aw rfl rfl ?_<;>refine AT rfl rfl ?_<;>refine Aj rfl rfl ?_<;>(refine o_z ?_))<;>(repeat (first|refine An ?_|refine Ah rfl ?_|refine Ae rfl ?_)))
    refine DT o.effs.length (by omega) (fun v:Value=>[(1,.pointer (some ⟨w.heap.size,0,none⟩)),(3,v),(12,.slice (some ⟨b2,o2,none⟩) t.ops.length co),(13,.int .i64 (t.ops.length:Int)),(14,.int .i64 (k:Int)),(24,.slice Aq o.effs.length cq)]) (fun j v w'=>Ext w w'∧Blk w' w.heap.size 31 [.slice Av t.vars.length cv,.slice Ai t.init.length ci,.slice Ag t.goal.length cg,.slice (some ⟨b2,o2,none⟩) t.ops.length co]∧Vb w' (All w) (.slice Aq o.effs.length cq) o.effs∧Own w' w.heap.size (All w) 23 v ((t.goal :: (t.ops.take k).flatMap opConds) ++ o.pre :: (o.effs.take j).map (·.cond))) _
      ⟨hE5,hb1,hq,by simpa using hown5⟩ ⟨rfl,rfl,rfl,rfl,rfl,rfl,rfl,rfl,trivial⟩ (fun _=>⟨rfl,rfl⟩) ⟨rfl,rfl,rfl⟩ ⟨rfl,rfl⟩ ?_ ?_
    · rintro j v6 w6 hj ⟨hE6,hb1,hq,hown⟩
      obtain ⟨e,he⟩:=BE hj
      obtain ⟨b3,o3,ce,rfl,_,_,hd1,cv',rfl,hcond,hr1,hr2⟩:=hq.elem he
      obtain ⟨Ac,cc,rfl⟩:=hcond.form
      ((repeat (first|refine An ?_|refine Ah rfl ?_|refine Ae rfl ?_))<;>(refine Ge rfl rfl rfl ?_<;>refine Bp rfl rfl ?_)<;>(repeat (first|refine An ?_|refine Ah rfl ?_|refine Ae rfl ?_)))
      refine Ek rfl rfl rfl (by simp [Value.cells,Value.oneCell']) fun w7 hN7=>?_
      have hb2:=hN7.blk
      replace hb1:=hb1.ext hN7.ext
      have hE7:Ext w w7:=hE6.trans' hN7.ext
      replace hown:=hown.ext hN7.ext (hF hE6)
      replace hcond:=hcond.agree (hN7.ext.agree (hF hE6))
      replace hq:=hq.agree (hN7.ext.agree (hF hE6))
      ((refine o_z ?_))
      repeat (first|refine An ?_|refine Ah rfl ?_|refine Ae rfl ?_)
      (refine Aj rfl rfl ?_<;>refine AA rfl rfl ?_<;>refine Aw rfl rfl ?_)
      refine JA rfl rfl rfl hown (hF hE7) hE7.size hcond (by decide) (by decide) (by simp only [List.length_cons,List.length_append,List.length_map,List.length_take];omega) (by simp only [List.length_cons,List.length_append,List.length_map,List.length_take];omega) ⟨rfl,rfl⟩ fun v' w8 hown8 hK=>?_
      have hB8:Below w.heap.size w7 w8:=hown.fits (Nat.le_refl _) hE7.size hK
      (refine Al rfl rfl ?_<;>(refine o_z ?_))
      exact ⟨v',⟨rfl,rfl,rfl,rfl,rfl,rfl,rfl,rfl,trivial⟩,hE7.trans hB8,hK.blk hb1 (hown.blk_ne hb1 (by decide)),hq.below hB8,by rw [NC _ he];simpa using hown8⟩
    rintro v6 w6 ⟨hE6,hb1,hq,hown⟩
    repeat (first|refine An ?_|refine Ah rfl ?_|refine Ae rfl ?_)
    exact ⟨v6,⟨rfl,rfl,rfl,rfl,rfl,trivial⟩,hE6,hb1,by rw [Lg opConds ho];simpa [opConds] using hown⟩
  rintro v w3 ⟨hE3,hb1,hown⟩
  repeat (first|refine An ?_|refine Ah rfl ?_|refine Ae rfl ?_)
  ((repeat (first|refine An ?_|refine Ah rfl ?_|refine Ae rfl ?_))<;>(refine Aj rfl rfl ?_<;>refine Al rfl rfl ?_<;>(refine o_z ?_))<;>(repeat (first|refine An ?_|refine Ah rfl ?_|refine Ae rfl ?_)))
  refine ret1 rfl rfl ⟨?_,hE3⟩
  rw [List.take_length] at hown
  exact hown.vb.mono fun k hk=>by
    rcases hk with hk|hk
    · exact hF hE3 k hk
    · exact (hown.lt k hk).2
theorem indexFuncFacts {w:World} {sv:Value} {xs:List (List Fct)} {g:FuncId} [Callable Tryz.prog g] {caps:List Value} {p:List Fct→Prop} (hs:V w sv xs)
    (hg:∀ v x w',x∈xs→Ext w w'→V w' v x→Fn Tryz.prog g ([v] ++ caps) w' fun r w''=>r=.bool (bof (p x))∧Ext w' w'') :
    Fn Tryz.prog 110 [sv,.func (.func g) #[] caps.toArray] w fun v w'=>((∃ k:Nat,v=.int .i64 (k:Int)∧∃ x∈xs,p x)∨(v=.int .i64 (-1)∧∀ x∈xs,¬ p x))∧Ext w w':=by
  obtain ⟨A,c,rfl⟩:=hs.form
  have hl:=hs.len
  refine AD Tryz.func110 rfl Tryz.ntmps110 rfl ?_
  ((repeat (first|refine An ?_|refine Ah rfl ?_|refine Ae rfl ?_))<;>(refine Al rfl rfl ?_<;>(refine o_z ?_))<;>(repeat (first|refine An ?_|refine Ah rfl ?_|refine Ae rfl ?_))<;>(refine Aj rfl rfl ?_<;>refine AT rfl rfl ?_<;>refine Aj rfl rfl ?_<;>(refine o_z ?_))<;>(repeat (first|refine An ?_|refine Ah rfl ?_|refine Ae rfl ?_)))
  refine DT xs.length (by omega) (fun _:Unit=>[(0,.slice A xs.length c),(1,.func (.func g) #[] caps.toArray)]) (fun k _ w'=>Ext w w'∧∀ i,i < k→∀ x,xs[i]?=some x→¬ p x) ()
    ⟨Below.refl _ _,fun i hi=>by omega⟩ ⟨rfl,rfl,rfl,rfl,trivial⟩ (fun _=>⟨rfl,rfl⟩) ⟨rfl,rfl,rfl⟩ ⟨rfl,rfl⟩ ?_ ?_
  · rintro k _ w1 hk ⟨hE,hh⟩
    obtain ⟨x,hx⟩:=BE hk
    obtain ⟨b,o,ce,rfl,_,_,hd1,hR⟩:=(hs.ext hE).elem hx
    obtain ⟨v,rfl⟩:=List.length_eq_one_iff.1 (Rp.len hR)
    ((repeat (first|refine An ?_|refine Ah rfl ?_|refine Ae rfl ?_))<;>(refine Aj rfl rfl ?_<;>refine Al rfl rfl ?_<;>(refine o_z ?_))<;>(repeat (first|refine An ?_|refine Ah rfl ?_|refine Ae rfl ?_))<;>(refine Aj rfl rfl ?_<;>refine Aj rfl rfl ?_<;>refine Aj rfl rfl ?_<;>refine Ge rfl rfl rfl ?_<;>refine Aw rfl rfl ?_)<;>(repeat (first|refine An ?_|refine Ah rfl ?_|refine Ae rfl ?_)))
    refine IT rfl rfl rfl (hg v x w1 (List.mem_of_getElem? hx) hE hR) ?_
    rintro _ w2 ⟨rfl,hE2⟩
    by_cases hp:p x
    · rw [De hp]
      ((refine o_z ?_))
      repeat (first|refine An ?_|refine Ah rfl ?_|refine Ae rfl ?_)
      ((repeat (first|refine An ?_|refine Ah rfl ?_|refine Ae rfl ?_))<;>(refine Aj rfl rfl ?_<;>refine Al rfl rfl ?_<;>(refine o_z ?_))<;>(repeat (first|refine An ?_|refine Ah rfl ?_|refine Ae rfl ?_)))
      exact ret1 rfl rfl ⟨.inl ⟨k,rfl,x,List.mem_of_getElem? hx,hp⟩,hE.trans' hE2⟩
    · rw [CS hp]
      ((refine o_z ?_))
      repeat (first|refine An ?_|refine Ah rfl ?_|refine Ae rfl ?_)
      exact ⟨(),⟨rfl,rfl,rfl,rfl,trivial⟩,hE.trans' hE2,EZ hh fun x' hx'=>by rw [hx] at hx';injection hx' with hx';exact hx' ▸ hp⟩
  rintro _ w1 ⟨hE,hh⟩
  repeat (first|refine An ?_|refine Ah rfl ?_|refine Ae rfl ?_)
  ((repeat (first|refine An ?_|refine Ah rfl ?_|refine Ae rfl ?_))<;>(refine Al rfl rfl ?_<;>(refine o_z ?_))<;>(repeat (first|refine An ?_|refine Ah rfl ?_|refine Ae rfl ?_)))
  refine ret1 rfl rfl ⟨.inr ⟨rfl,fun x hx=>?_⟩,hE⟩
  obtain ⟨i,hi⟩:=List.getElem?_of_mem hx
  exact hh i (Cs hi) x hi
theorem containsFuncFacts {w:World} {sv:Value} {xs:List (List Fct)} {g:FuncId} [Callable Tryz.prog g] {caps:List Value} {p:List Fct→Prop} (hs:V w sv xs)
    (hg:∀ v x w',x∈xs→Ext w w'→V w' v x→Fn Tryz.prog g ([v] ++ caps) w' fun r w''=>r=.bool (bof (p x))∧Ext w' w'') :
    Fn Tryz.prog 60 [sv,.func (.func g) #[] caps.toArray] w fun v w'=>v=.bool (bof (∃ x∈xs,p x))∧Ext w w':=by
  refine AD Tryz.func60 rfl Tryz.ntmps60 rfl ?_
  ((repeat (first|refine An ?_|refine Ah rfl ?_|refine Ae rfl ?_))<;>(refine Al rfl rfl ?_<;>(refine o_z ?_))<;>(repeat (first|refine An ?_|refine Ah rfl ?_|refine Ae rfl ?_))<;>(refine Aj rfl rfl ?_<;>refine Aj rfl rfl ?_)<;>(repeat (first|refine An ?_|refine Ah rfl ?_|refine Ae rfl ?_)))
  refine CH rfl rfl (indexFuncFacts hs hg) ?_
  rintro v w1 ⟨h,hE⟩
  rcases h with ⟨k,rfl,h⟩|⟨rfl,h⟩
  · ((first|refine MD rfl rfl rfl ?_|refine ME rfl rfl rfl ?_)<;>refine Al rfl rfl ?_<;>(refine o_z ?_))
    repeat (first|refine An ?_|refine Ah rfl ?_|refine Ae rfl ?_)
    exact ret1 rfl rfl ⟨by rw [De h],hE⟩
  · ((first|refine MD rfl rfl rfl ?_|refine ME rfl rfl rfl ?_)<;>refine Al rfl rfl ?_<;>(refine o_z ?_))
    repeat (first|refine An ?_|refine Ah rfl ?_|refine Ae rfl ?_)
    exact ret1 rfl rfl ⟨by rw [CS (fun ⟨x,hx,hp⟩=>h x hx hp)],hE⟩
theorem taskLarge1 {w:World} {v:Value} {f:List Fct} (hf:V w v f):Fn Tryz.prog 141 ([v] ++ []) w fun r w'=>r=.bool (bof (64 < f.length))∧Ext w w':=by
  obtain ⟨A,c,rfl⟩:=hf.form
  refine AD Tryz.func141 rfl Tryz.ntmps141 rfl ?_
  by_cases h:64 < f.length
  · ((repeat (first|refine An ?_|refine Ah rfl ?_|refine Ae rfl ?_))<;>(refine Al rfl rfl ?_<;>(refine o_z ?_))<;>(repeat (first|refine An ?_|refine Ah rfl ?_|refine Ae rfl ?_))<;>(refine Aj rfl rfl ?_<;>refine AT rfl rfl ?_<;>(first|refine HI rfl rfl rfl ?_|refine HJ rfl rfl rfl ?_)<;>refine Al rfl rfl ?_<;>(refine o_z ?_))<;>(repeat (first|refine An ?_|refine Ah rfl ?_|refine Ae rfl ?_)))
    exact ret1 rfl rfl ⟨by rw [De h],Below.refl _ _⟩
  · ((repeat (first|refine An ?_|refine Ah rfl ?_|refine Ae rfl ?_))<;>(refine Al rfl rfl ?_<;>(refine o_z ?_))<;>(repeat (first|refine An ?_|refine Ah rfl ?_|refine Ae rfl ?_))<;>(refine Aj rfl rfl ?_<;>refine AT rfl rfl ?_<;>(first|refine HI rfl rfl rfl ?_|refine HJ rfl rfl rfl ?_)<;>refine Al rfl rfl ?_<;>(refine o_z ?_))<;>(repeat (first|refine An ?_|refine Ah rfl ?_|refine Ae rfl ?_)))
    exact ret1 rfl rfl ⟨by rw [CS h],Below.refl _ _⟩
def Large (t:Tsk):Prop:=64 < t.vars.length∨4096 < t.ops.length∨(∃ (i:Nat) (o:Opr),t.ops[i]?=some o∧64 < o.effs.length)∨∃ f∈conds t,64 < f.length
theorem taskLarge {w:World} {tv:Value} {t:Tsk} (ht:V w tv t):Fn Tryz.prog 104 [tv] w fun v w'=>v=.bool (bof (Large t))∧Ext w w':=by
  have ht0:=ht
  obtain ⟨cs,rfl,a,b,c,d,rfl,hvars,hinit,hgoal,hops⟩:=ht
  obtain ⟨Av,cv,rfl⟩:=hvars.form
  obtain ⟨Ai,ci,rfl⟩:=hinit.form
  obtain ⟨Ag,cg,rfl⟩:=hgoal.form
  obtain ⟨Ao,co,rfl⟩:=hops.form
  have hol:=hops.len
  refine AD Tryz.func104 rfl Tryz.ntmps104 rfl ?_
  repeat (first|refine An ?_|refine Ah rfl ?_|refine Ae rfl ?_)
  refine HZ rfl rfl fun w1 hN=>?_
  have hb1:=hN.blk
  have hE1:Ext w w1:=hN.ext
  (refine Al rfl rfl ?_<;>(refine o_z ?_))
  repeat (first|refine An ?_|refine Ah rfl ?_|refine Ae rfl ?_)
  ((repeat (first|refine An ?_|refine Ah rfl ?_|refine Ae rfl ?_))<;>(refine AA rfl rfl ?_<;>refine Aw rfl rfl ?_<;>refine AT rfl rfl ?_<;>(first|refine HI rfl rfl rfl ?_|refine HJ rfl rfl rfl ?_|refine CK rfl rfl rfl (fun _=>?_) fun _=>?_)<;>refine Aj rfl rfl ?_<;>(first|(refine Am rfl rfl ?_;refine AA rfl rfl ?_)|refine Ak rfl rfl rfl rfl ?_)<;>(first|(refine Am rfl rfl ?_;refine Aw rfl rfl ?_)|refine Ak rfl rfl rfl rfl ?_)<;>(first|(refine Am rfl rfl ?_;refine AT rfl rfl ?_)|refine Ak rfl rfl rfl rfl ?_)<;>(first|(refine Am rfl rfl ?_;(first|refine HI rfl rfl rfl ?_|refine HJ rfl rfl rfl ?_|refine CK rfl rfl rfl (fun _=>?_) fun _=>?_))|refine Ak rfl rfl rfl rfl ?_)<;>(first|refine Bv rfl rfl rfl ?_|refine Bg rfl rfl rfl ?_)<;>(refine o_z ?_))<;>(repeat (first|refine An ?_|refine Ah rfl ?_|refine Ae rfl ?_)))
  all_goals try (
    ((repeat (first|refine An ?_|refine Ah rfl ?_|refine Ae rfl ?_))<;>(refine Al rfl rfl ?_<;>(refine o_z ?_))<;>(repeat (first|refine An ?_|refine Ah rfl ?_|refine Ae rfl ?_)))
    refine ret1 rfl rfl ⟨?_,hE1⟩
    rw [De (by first|exact .inl (by omega)|exact .inr (.inl (by omega)))])
  ((repeat (first|refine An ?_|refine Ah rfl ?_|refine Ae rfl ?_))<;>(refine AA rfl rfl ?_<;>refine Aw rfl rfl ?_<;>refine AT rfl rfl ?_<;>refine Aj rfl rfl ?_<;>(refine o_z ?_))<;>(repeat (first|refine An ?_|refine Ah rfl ?_|refine Ae rfl ?_)))
  refine DT t.ops.length (by omega) (fun _:Unit=>[(1,.pointer (some ⟨w.heap.size,0,none⟩)),(16,.slice Ao t.ops.length co)]) (fun k _ w'=>Ext w1 w'∧∀ i,i < k→∀ o,t.ops[i]?=some o→o.effs.length≤64) ()
    ⟨Below.refl _ _,fun i hi=>by omega⟩ ⟨rfl,rfl,rfl,rfl,trivial⟩ (fun _=>⟨rfl,rfl⟩) ⟨rfl,rfl,rfl⟩ ⟨rfl,rfl⟩ ?_ ?_
  · rintro k _ w4 hk ⟨hE4,hh⟩
    obtain ⟨o,ho⟩:=BE hk
    obtain ⟨b2,o2,ce,rfl,_,_,hd1,p,q,rfl,hp,hq,hc,hn⟩:=(hops.ext (hE1.trans' hE4)).elem ho
    obtain ⟨Ap,cp,rfl⟩:=hp.form
    obtain ⟨Aq,cq,rfl⟩:=hq.form
    ((repeat (first|refine An ?_|refine Ah rfl ?_|refine Ae rfl ?_))<;>(refine Ge rfl rfl rfl ?_<;>refine Bp rfl rfl ?_)<;>(repeat (first|refine An ?_|refine Ah rfl ?_|refine Ae rfl ?_)))
    refine Ek rfl rfl rfl (by simp [Value.cells,Value.oneCell']) fun w5 hN5=>?_
    have hb2:=hN5.blk
    have hE5:Ext w1 w5:=hE4.trans' hN5.ext
    ((refine o_z ?_))
    repeat (first|refine An ?_|refine Ah rfl ?_|refine Ae rfl ?_)
    ((repeat (first|refine An ?_|refine Ah rfl ?_|refine Ae rfl ?_))<;>(refine AA rfl rfl ?_<;>refine Aw rfl rfl ?_<;>refine AT rfl rfl ?_<;>(first|refine HI rfl rfl rfl ?_|refine HJ rfl rfl rfl ?_|refine CK rfl rfl rfl (fun _=>?_) fun _=>?_)<;>(refine o_z ?_))<;>(repeat (first|refine An ?_|refine Ah rfl ?_|refine Ae rfl ?_)))
    · ((repeat (first|refine An ?_|refine Ah rfl ?_|refine Ae rfl ?_))<;>(refine Al rfl rfl ?_<;>(refine o_z ?_))<;>(repeat (first|refine An ?_|refine Ah rfl ?_|refine Ae rfl ?_)))
      refine ret1 rfl rfl ⟨?_,hE1.trans' hE5⟩
      rw [De (.inr (.inr (.inl ⟨k,o,ho,by omega⟩)))]
    · exact ⟨(),⟨rfl,rfl,rfl,rfl,trivial⟩,hE5,EZ hh fun o' ho'=>by rw [ho] at ho';injection ho' with ho';subst ho';omega⟩
  rintro _ w4 ⟨hE4,hh⟩
  replace hb1:=hb1.ext hE4
  replace hE4:Ext w w4:=hE1.trans' hE4
  have hm:∀ (i:Nat) o,t.ops[i]?=some o→o.effs.length≤64:=fun i o ho=>hh i (Cs ho) o ho
  repeat (first|refine An ?_|refine Ah rfl ?_|refine Ae rfl ?_)
  (refine Bp rfl rfl ?_)
  refine CH rfl rfl (taskConditions (ht0.ext hE4) (by omega) hm) ?_
  rintro v5 w5 ⟨hv5,hE5⟩
  refine CH rfl rfl (containsFuncFacts (p:=fun f=>64 < f.length) (caps:=[]) hv5 (fun v x w' _ _ hx=>taskLarge1 hx)) ?_
  rintro v6 w6 ⟨rfl,hE6⟩
  (refine Al rfl rfl ?_<;>(refine o_z ?_))
  repeat (first|refine An ?_|refine Ah rfl ?_|refine Ae rfl ?_)
  refine ret1 rfl rfl ⟨?_,hE4.trans' (hE5.trans' hE6)⟩
  congr 1
  refine OK ⟨fun h=>.inr (.inr (.inr h)),fun h=>?_⟩
  rcases h with h|h|⟨i,o,ho,h⟩|h
  · omega
  · omega
  · have:=hm i o ho;omega
  · exact h
end
section
open Go Go.RowKit
attribute [local irreducible] ewp owp hwp hwq Ev Evg Fn retPost Res1
def VarsOk (t:Tsk):Prop:=∀ (i:Nat) n,t.vars[i]?=some n→1≤n∧n≤64
def CostsOk (t:Tsk):Prop:=∀ (i:Nat) o,t.ops[i]?=some o→0≤o.cost∧o.cost≤1048576
def CondsOk (t:Tsk):Prop:=∀ (i:Nat) f,(conds t)[i]?=some f→FactsOk t.vars f
def EffsOk (t:Tsk):Prop:=∀ (i:Nat) o,t.ops[i]?=some o→∀ (j:Nat) e,o.effs[j]?=some e→FactOk t.vars ⟨e.var,e.val⟩
def NamesOk (t:Tsk):Prop:=∀ (i:Nat) o,t.ops[i]?=some o→NameOk o.name
noncomputable def checkN (t:Tsk):Int :=
  if bof (Large t)=true then 5 else if bof (VarsOk t∧CostsOk t)=false then 1 else if bof (StateOk t.vars t.init∧CondsOk t∧EffsOk t)=false then 2 else if bof (NamesOk t)=false then 8 else 0
theorem taskCheck {w:World} {tv:Value} {t:Tsk} (ht:V w tv t):Fn Tryz.prog 42 [tv] w fun v w'=>v=errV (checkN t)∧Ext w w':=by
  have ht0:=ht
  obtain ⟨cs,rfl,a,b,c,d,rfl,hvars,hinit,hgoal,hops⟩:=ht
  obtain ⟨Av,cv,rfl⟩:=hvars.form
  obtain ⟨Ai,ci,rfl⟩:=hinit.form
  obtain ⟨Ag,cg,rfl⟩:=hgoal.form
  obtain ⟨Ao,co,rfl⟩:=hops.form
  have hvl:=hvars.len
  have hol:=hops.len
  refine AD Tryz.func42 rfl Tryz.ntmps42 rfl ?_
  repeat (first|refine An ?_|refine Ah rfl ?_|refine Ae rfl ?_)
  refine HZ rfl rfl fun w1 hN=>?_
  have hb1:=hN.blk
  have hE1:Ext w w1:=hN.ext
  (refine Al rfl rfl ?_<;>(refine o_z ?_))
  repeat (first|refine An ?_|refine Ah rfl ?_|refine Ae rfl ?_)
  (refine Bp rfl rfl ?_)
  refine GU rfl rfl (taskLarge (ht0.ext hE1)) ?_ ?_
  case refine_1 =>
    intro w2 hP hE2
    ((refine o_z ?_))
    repeat (first|refine An ?_|refine Ah rfl ?_|refine Ae rfl ?_)
    ((repeat (first|refine An ?_|refine Ah rfl ?_|refine Ae rfl ?_))<;>(refine JO rfl rfl ?_<;>refine Al rfl rfl ?_<;>(refine o_z ?_))<;>(repeat (first|refine An ?_|refine Ah rfl ?_|refine Ae rfl ?_)))
    refine ret1 rfl rfl ⟨?_,hE1.trans' hE2⟩
    rw [checkN,De hP];rfl
  intro w2 hlarge hE2
  replace hb1:=hb1.ext hE2
  replace hE2:Ext w w2:=hE1.trans' hE2
  have hm:∀ (i:Nat) o,t.ops[i]?=some o→o.effs.length≤64:=fun i o ho=>Nat.le_of_not_lt fun h=>hlarge (.inr (.inr (.inl ⟨i,o,ho,h⟩)))
  have hn4:t.ops.length≤4096:=Nat.le_of_not_lt fun h=>hlarge (.inr (.inl h))
  have c1:checkN t=if bof (VarsOk t∧CostsOk t)=false then 1 else if bof (StateOk t.vars t.init∧CondsOk t∧EffsOk t)=false then 2 else if bof (NamesOk t)=false then 8 else 0:=by rw [checkN,CS hlarge];rfl
  ((refine o_z ?_))
  repeat (first|refine An ?_|refine Ah rfl ?_|refine Ae rfl ?_)
  ((repeat (first|refine An ?_|refine Ah rfl ?_|refine Ae rfl ?_))<;>(refine AA rfl rfl ?_<;>refine Aw rfl rfl ?_<;>refine AT rfl rfl ?_<;>refine Aj rfl rfl ?_<;>(refine o_z ?_))<;>(repeat (first|refine An ?_|refine Ah rfl ?_|refine Ae rfl ?_)))
  refine DT t.vars.length (by omega) (fun _:Unit=>[(1,.pointer (some ⟨w.heap.size,0,none⟩)),(19,.slice Av t.vars.length cv)]) (fun k _ w'=>w'=w2∧∀ i,i < k→∀ n,t.vars[i]?=some n→1≤n∧n≤64) ()
    ⟨rfl,fun i hi=>by omega⟩ ⟨rfl,rfl,rfl,rfl,trivial⟩ (fun _=>⟨rfl,rfl⟩) ⟨rfl,rfl,rfl⟩ ⟨rfl,rfl⟩ ?_ ?_
  · rintro k _ _ hk ⟨rfl,hh⟩
    obtain ⟨n,hn⟩:=BE hk
    obtain ⟨b2,o2,ce,rfl,_,_,hd1,rfl,_⟩:=(hvars.ext hE2).elem hn
    ((repeat (first|refine An ?_|refine Ah rfl ?_|refine Ae rfl ?_))<;>(refine Ge rfl rfl rfl ?_<;>refine Aw rfl rfl ?_<;>refine Al rfl rfl ?_<;>(refine o_z ?_))<;>(repeat (first|refine An ?_|refine Ah rfl ?_|refine Ae rfl ?_))<;>(refine Aj rfl rfl ?_<;>(first|refine EF rfl rfl rfl ?_|refine EG rfl rfl rfl ?_|refine EB rfl rfl rfl (fun _=>?_) fun _=>?_)<;>refine Aj rfl rfl ?_<;>(first|(refine Am rfl rfl ?_;refine Aj rfl rfl ?_)|refine Ak rfl rfl rfl rfl ?_)<;>(first|(refine Am rfl rfl ?_;(first|refine HI rfl rfl rfl ?_|refine HJ rfl rfl rfl ?_|refine CK rfl rfl rfl (fun _=>?_) fun _=>?_))|refine Ak rfl rfl rfl rfl ?_)<;>(first|refine Bv rfl rfl rfl ?_|refine Bg rfl rfl rfl ?_)<;>(refine o_z ?_))<;>(repeat (first|refine An ?_|refine Ah rfl ?_|refine Ae rfl ?_)))
    all_goals try (
      ((repeat (first|refine An ?_|refine Ah rfl ?_|refine Ae rfl ?_))<;>(refine JO rfl rfl ?_<;>refine Al rfl rfl ?_<;>(refine o_z ?_))<;>(repeat (first|refine An ?_|refine Ah rfl ?_|refine Ae rfl ?_)))
      refine ret1 rfl rfl ⟨?_,hE2⟩
      rw [c1,CS (fun h=>by have:=h.1 k n hn;omega)];rfl)
    exact ⟨(),⟨rfl,rfl,rfl,rfl,trivial⟩,rfl,EZ hh fun n' hn'=>by rw [hn] at hn';injection hn' with hn';omega⟩
  rintro _ _ ⟨rfl,hdom⟩
  replace hdom:VarsOk t:=fun i n hn=>hdom i (Cs hn) n hn
  repeat (first|refine An ?_|refine Ah rfl ?_|refine Ae rfl ?_)
  ((repeat (first|refine An ?_|refine Ah rfl ?_|refine Ae rfl ?_))<;>(refine AA rfl rfl ?_<;>refine Aw rfl rfl ?_<;>refine AT rfl rfl ?_<;>refine Aj rfl rfl ?_<;>(refine o_z ?_))<;>(repeat (first|refine An ?_|refine Ah rfl ?_|refine Ae rfl ?_)))
  refine DT t.ops.length (by omega) (fun _:Unit=>[(1,.pointer (some ⟨w.heap.size,0,none⟩)),(34,.slice Ao t.ops.length co)]) (fun k _ w'=>Ext w w'∧Blk w' w.heap.size 31 [.slice Av t.vars.length cv,.slice Ai t.init.length ci,.slice Ag t.goal.length cg,.slice Ao t.ops.length co]∧∀ i,i < k→∀ o,t.ops[i]?=some o→0≤o.cost∧o.cost≤1048576) ()
    ⟨hE2,hb1,fun i hi=>by omega⟩ ⟨rfl,rfl,rfl,rfl,trivial⟩ (fun _=>⟨rfl,rfl⟩) ⟨rfl,rfl,rfl⟩ ⟨rfl,rfl⟩ ?_ ?_
  · rintro k _ w4 hk ⟨hE4,hb1,hh⟩
    obtain ⟨o,ho⟩:=BE hk
    obtain ⟨b2,o2,ce,rfl,_,_,hd1,p,q,rfl,hp,hq,hc,hn⟩:=(hops.ext hE4).elem ho
    obtain ⟨Ap,cp,rfl⟩:=hp.form
    obtain ⟨Aq,cq,rfl⟩:=hq.form
    ((repeat (first|refine An ?_|refine Ah rfl ?_|refine Ae rfl ?_))<;>(refine Ge rfl rfl rfl ?_<;>refine Bp rfl rfl ?_)<;>(repeat (first|refine An ?_|refine Ah rfl ?_|refine Ae rfl ?_)))
    refine Ek rfl rfl rfl (by simp [Value.cells,Value.oneCell']) fun w5 hN5=>?_
    replace hb1:=hb1.ext hN5.ext
    have hb2:=hN5.blk
    have hE5:Ext w w5:=hE4.trans' hN5.ext
    ((refine o_z ?_))
    repeat (first|refine An ?_|refine Ah rfl ?_|refine Ae rfl ?_)
    ((repeat (first|refine An ?_|refine Ah rfl ?_|refine Ae rfl ?_))<;>(refine AA rfl rfl ?_<;>refine Aw rfl rfl ?_<;>(first|refine EF rfl rfl rfl ?_|refine EG rfl rfl rfl ?_|refine EB rfl rfl rfl (fun _=>?_) fun _=>?_)<;>refine Aj rfl rfl ?_<;>(first|(refine Am rfl rfl ?_;refine AA rfl rfl ?_)|refine Ak rfl rfl rfl rfl ?_)<;>(first|(refine Am rfl rfl ?_;refine Aw rfl rfl ?_)|refine Ak rfl rfl rfl rfl ?_)<;>(first|(refine Am rfl rfl ?_;(first|refine HI rfl rfl rfl ?_|refine HJ rfl rfl rfl ?_|refine CK rfl rfl rfl (fun _=>?_) fun _=>?_))|refine Ak rfl rfl rfl rfl ?_)<;>(first|refine Bv rfl rfl rfl ?_|refine Bg rfl rfl rfl ?_)<;>(refine o_z ?_))<;>(repeat (first|refine An ?_|refine Ah rfl ?_|refine Ae rfl ?_)))
    all_goals try (
      ((repeat (first|refine An ?_|refine Ah rfl ?_|refine Ae rfl ?_))<;>(refine JO rfl rfl ?_<;>refine Al rfl rfl ?_<;>(refine o_z ?_))<;>(repeat (first|refine An ?_|refine Ah rfl ?_|refine Ae rfl ?_)))
      refine ret1 rfl rfl ⟨?_,hE5⟩
      rw [c1,CS (fun h=>by have:=h.2 k o ho;omega)];rfl)
    exact ⟨(),⟨rfl,rfl,rfl,rfl,trivial⟩,hE5,hb1,EZ hh fun o' ho'=>by rw [ho] at ho';injection ho' with ho';subst ho';omega⟩
  rintro _ w3 ⟨hE3,hb1,hcost⟩
  replace hcost:CostsOk t:=fun i o ho=>hcost i (Cs ho) o ho
  have c2:checkN t=if bof (StateOk t.vars t.init∧CondsOk t∧EffsOk t)=false then 2 else if bof (NamesOk t)=false then 8 else 0:=by rw [c1,De ⟨hdom,hcost⟩];rfl
  repeat (first|refine An ?_|refine Ah rfl ?_|refine Ae rfl ?_)
  (refine AA rfl rfl ?_<;>refine Aw rfl rfl ?_<;>refine AA rfl rfl ?_<;>refine Aw rfl rfl ?_)
  refine GU rfl rfl (taskProper (hvars.ext hE3) (hinit.ext hE3)) ?_ ?_
  case refine_2 =>
    intro w4 hP hE4
    ((first|refine FB rfl rfl ?_|refine FC rfl rfl ?_|refine Ir rfl rfl ?_)<;>(refine o_z ?_))
    repeat (first|refine An ?_|refine Ah rfl ?_|refine Ae rfl ?_)
    ((repeat (first|refine An ?_|refine Ah rfl ?_|refine Ae rfl ?_))<;>(refine JO rfl rfl ?_<;>refine Al rfl rfl ?_<;>(refine o_z ?_))<;>(repeat (first|refine An ?_|refine Ah rfl ?_|refine Ae rfl ?_)))
    refine ret1 rfl rfl ⟨?_,hE3.trans' hE4⟩
    rw [c2,CS (fun h=>hP h.1)];rfl
  intro w4 hst hE4
  replace hb1:=hb1.ext hE4
  replace hE4:Ext w w4:=hE3.trans' hE4
  ((first|refine FB rfl rfl ?_|refine FC rfl rfl ?_|refine Ir rfl rfl ?_)<;>(refine o_z ?_))
  repeat (first|refine An ?_|refine Ah rfl ?_|refine Ae rfl ?_)
  (refine Bp rfl rfl ?_)
  refine CH rfl rfl (taskConditions (ht0.ext hE4) hn4 hm) ?_
  rintro v5 w5 ⟨hv5,hE5⟩
  obtain ⟨Ac,cc,rfl⟩:=hv5.form
  have hcl:=hv5.len
  replace hb1:=hb1.ext hE5
  replace hE5:Ext w w5:=hE4.trans' hE5
  (refine AT rfl rfl ?_<;>refine Aj rfl rfl ?_<;>(refine o_z ?_))
  repeat (first|refine An ?_|refine Ah rfl ?_|refine Ae rfl ?_)
  refine DT (conds t).length (by omega) (fun _:Unit=>[(1,.pointer (some ⟨w.heap.size,0,none⟩)),(58,.slice Ac (conds t).length cc)]) (fun k _ w'=>Ext w5 w'∧∀ i,i < k→∀ f,(conds t)[i]?=some f→FactsOk t.vars f) ()
    ⟨Below.refl _ _,fun i hi=>by omega⟩ ⟨rfl,rfl,rfl,rfl,trivial⟩ (fun _=>⟨rfl,rfl⟩) ⟨rfl,rfl,rfl⟩ ⟨rfl,rfl⟩ ?_ ?_
  · rintro k _ w6 hk ⟨hE6,hh⟩
    obtain ⟨f,hf⟩:=BE hk
    have hb1:=hb1.ext hE6
    obtain ⟨b2,o2,ce,rfl,_,_,hd1,v,rfl,hR⟩:=(hv5.ext hE6).elem hf
    ((repeat (first|refine An ?_|refine Ah rfl ?_|refine Ae rfl ?_))<;>(refine Ge rfl rfl rfl ?_<;>refine Aw rfl rfl ?_<;>refine Al rfl rfl ?_<;>(refine o_z ?_))<;>(repeat (first|refine An ?_|refine Ah rfl ?_|refine Ae rfl ?_))<;>(refine AA rfl rfl ?_<;>refine Aw rfl rfl ?_<;>refine Aj rfl rfl ?_)<;>(repeat (first|refine An ?_|refine Ah rfl ?_|refine Ae rfl ?_)))
    refine GU rfl rfl (taskFacts (hvars.ext (hE5.trans' hE6)) (Vb.of_slice hR)) ?_ ?_
    · intro w7 hP hE7
      ((first|refine FB rfl rfl ?_|refine FC rfl rfl ?_|refine Ir rfl rfl ?_)<;>(refine o_z ?_))
      repeat (first|refine An ?_|refine Ah rfl ?_|refine Ae rfl ?_)
      exact ⟨(),⟨rfl,rfl,rfl,rfl,trivial⟩,hE6.trans' hE7,EZ hh fun f' hf'=>by rw [hf] at hf';injection hf' with hf';exact hf' ▸ hP⟩
    · intro w7 hP hE7
      ((first|refine FB rfl rfl ?_|refine FC rfl rfl ?_|refine Ir rfl rfl ?_)<;>(refine o_z ?_))
      repeat (first|refine An ?_|refine Ah rfl ?_|refine Ae rfl ?_)
      ((repeat (first|refine An ?_|refine Ah rfl ?_|refine Ae rfl ?_))<;>(refine JO rfl rfl ?_<;>refine Al rfl rfl ?_<;>(refine o_z ?_))<;>(repeat (first|refine An ?_|refine Ah rfl ?_|refine Ae rfl ?_)))
      refine ret1 rfl rfl ⟨?_,hE5.trans' (hE6.trans' hE7)⟩
      rw [c2,CS (fun h=>hP (h.2.1 k f hf))];rfl
  rintro _ w6 ⟨hE6,hcond⟩
  replace hcond:CondsOk t:=fun i f hf=>hcond i (Cs hf) f hf
  replace hb1:=hb1.ext hE6
  replace hE6:Ext w w6:=hE5.trans' hE6
  repeat (first|refine An ?_|refine Ah rfl ?_|refine Ae rfl ?_)
  ((repeat (first|refine An ?_|refine Ah rfl ?_|refine Ae rfl ?_))<;>(refine AA rfl rfl ?_<;>refine Aw rfl rfl ?_<;>refine AT rfl rfl ?_<;>refine Aj rfl rfl ?_<;>(refine o_z ?_))<;>(repeat (first|refine An ?_|refine Ah rfl ?_|refine Ae rfl ?_)))
  refine DT t.ops.length (by omega) (fun _:Unit=>[(1,.pointer (some ⟨w.heap.size,0,none⟩)),(72,.slice Ao t.ops.length co)]) (fun k _ w'=>Ext w6 w'∧∀ i,i < k→∀ o,t.ops[i]?=some o→∀ (j:Nat) e,o.effs[j]?=some e→FactOk t.vars ⟨e.var,e.val⟩) ()
    ⟨Below.refl _ _,fun i hi=>by omega⟩ ⟨rfl,rfl,rfl,rfl,trivial⟩ (fun _=>⟨rfl,rfl⟩) ⟨rfl,rfl,rfl⟩ ⟨rfl,rfl⟩ ?_ ?_
  · rintro k _ w7 hk ⟨hE7,hh⟩
    obtain ⟨o,ho⟩:=BE hk
    have hb1:=hb1.ext hE7
    obtain ⟨b2,o2,ce,rfl,_,_,hd1,p,q,rfl,hp,hq,hc,hn⟩:=(hops.ext (hE6.trans' hE7)).elem ho
    obtain ⟨Ap,cp,rfl⟩:=hp.form
    obtain ⟨Aq,cq,rfl⟩:=hq.form
    have hql:=hq.len
    ((repeat (first|refine An ?_|refine Ah rfl ?_|refine Ae rfl ?_))<;>(refine Ge rfl rfl rfl ?_<;>refine Bp rfl rfl ?_)<;>(repeat (first|refine An ?_|refine Ah rfl ?_|refine Ae rfl ?_)))
    refine Ek rfl rfl rfl (by simp [Value.cells,Value.oneCell']) fun w8 hN8=>?_
    replace hb1:=hb1.ext hN8.ext
    have hb2:=hN8.blk
    have hE8:Ext w6 w8:=hE7.trans' hN8.ext
    replace hq:=hq.ext hN8.ext
    ((refine o_z ?_))
    repeat (first|refine An ?_|refine Ah rfl ?_|refine Ae rfl ?_)
    ((repeat (first|refine An ?_|refine Ah rfl ?_|refine Ae rfl ?_))<;>(refine AA rfl rfl ?_<;>refine Aw rfl rfl ?_<;>refine AT rfl rfl ?_<;>refine Aj rfl rfl ?_<;>(refine o_z ?_))<;>(repeat (first|refine An ?_|refine Ah rfl ?_|refine Ae rfl ?_)))
    refine DT o.effs.length (by omega) (fun _:Unit=>[(1,.pointer (some ⟨w.heap.size,0,none⟩)),(72,.slice (some ⟨b2,o2,none⟩) t.ops.length co),(73,.int .i64 (t.ops.length:Int)),(74,.int .i64 (k:Int)),(79,.slice Aq o.effs.length cq)]) (fun j _ w'=>Ext w8 w'∧∀ i,i < j→∀ e,o.effs[i]?=some e→FactOk t.vars ⟨e.var,e.val⟩) ()
      ⟨Below.refl _ _,fun i hi=>by omega⟩ ⟨rfl,rfl,rfl,rfl,rfl,rfl,rfl,trivial⟩ (fun _=>⟨rfl,rfl⟩) ⟨rfl,rfl,rfl⟩ ⟨rfl,rfl⟩ ?_ ?_
    · rintro j _ w9 hj ⟨hE9,hh9⟩
      obtain ⟨e,he⟩:=BE hj
      have hb1:=hb1.ext hE9
      obtain ⟨b3,o3,ce,rfl,_,_,hd1,cv',rfl,hcn,hr1,hr2⟩:=(hq.ext hE9).elem he
      obtain ⟨Acn,ccn,rfl⟩:=hcn.form
      ((repeat (first|refine An ?_|refine Ah rfl ?_|refine Ae rfl ?_))<;>(refine Ge rfl rfl rfl ?_<;>refine Bp rfl rfl ?_)<;>(repeat (first|refine An ?_|refine Ah rfl ?_|refine Ae rfl ?_)))
      refine Ek rfl rfl rfl (by simp [Value.cells,Value.oneCell']) fun w10 hN10=>?_
      have hb3:=hN10.blk
      replace hb1:=hb1.ext hN10.ext
      have hE10:Ext w w10:=hE6.trans' (hE8.trans' (hE9.trans' hN10.ext))
      ((refine o_z ?_))
      repeat (first|refine An ?_|refine Ah rfl ?_|refine Ae rfl ?_)
      (refine AA rfl rfl ?_<;>refine Aw rfl rfl ?_<;>refine AA rfl rfl ?_<;>refine Aw rfl rfl ?_<;>refine AA rfl rfl ?_<;>refine Aw rfl rfl ?_<;>refine DY rfl rfl rfl ?_)
      refine HG rfl rfl rfl (by simp [Value.cells];rfl) (by decide) rfl fun w11 hN11=>?_
      have hE11:Ext w w11:=hE10.trans' hN11.ext
      have hone:V w11 (.slice (some ⟨w10.heap.size,0,none⟩) 1 1) [(⟨e.var,e.val⟩:Fct)]:=Vb.made hN11 (.single ⟨rfl,hr1,hr2⟩) rfl hN11.blk.lt (by decide)
      refine GU rfl rfl (taskFacts (hvars.ext hE11) hone) ?_ ?_
      · intro w12 hP hE12
        ((first|refine FB rfl rfl ?_|refine FC rfl rfl ?_|refine Ir rfl rfl ?_)<;>(refine o_z ?_))
        repeat (first|refine An ?_|refine Ah rfl ?_|refine Ae rfl ?_)
        exact ⟨(),⟨rfl,rfl,rfl,rfl,rfl,rfl,rfl,trivial⟩,hE9.trans' (hN10.ext.trans' (hN11.ext.trans' hE12)),EZ hh9 fun e' he'=>by rw [he] at he';injection he' with he';subst he';exact JG.1 hP⟩
      · intro w12 hP hE12
        ((first|refine FB rfl rfl ?_|refine FC rfl rfl ?_|refine Ir rfl rfl ?_)<;>(refine o_z ?_))
        repeat (first|refine An ?_|refine Ah rfl ?_|refine Ae rfl ?_)
        ((repeat (first|refine An ?_|refine Ah rfl ?_|refine Ae rfl ?_))<;>(refine JO rfl rfl ?_<;>refine Al rfl rfl ?_<;>(refine o_z ?_))<;>(repeat (first|refine An ?_|refine Ah rfl ?_|refine Ae rfl ?_)))
        refine ret1 rfl rfl ⟨?_,hE11.trans' hE12⟩
        rw [c2,CS (fun h=>hP (JG.2 (h.2.2 k o ho j e he)))];rfl
    rintro _ w9 ⟨hE9,hh9⟩
    repeat (first|refine An ?_|refine Ah rfl ?_|refine Ae rfl ?_)
    exact ⟨(),⟨rfl,rfl,rfl,rfl,trivial⟩,hE8.trans' hE9,EZ hh fun o' ho' j e he=>by rw [ho] at ho';injection ho' with ho';subst ho';exact hh9 j (Cs he) e he⟩
  rintro _ w7 ⟨hE7,heff⟩
  replace heff:EffsOk t:=fun i o ho=>heff i (Cs ho) o ho
  have c3:checkN t=if bof (NamesOk t)=false then 8 else 0:=by rw [c2,De ⟨hst,hcond,heff⟩];rfl
  replace hb1:=hb1.ext hE7
  replace hE7:Ext w w7:=hE6.trans' hE7
  repeat (first|refine An ?_|refine Ah rfl ?_|refine Ae rfl ?_)
  ((repeat (first|refine An ?_|refine Ah rfl ?_|refine Ae rfl ?_))<;>(refine AA rfl rfl ?_<;>refine Aw rfl rfl ?_<;>refine AT rfl rfl ?_<;>refine Aj rfl rfl ?_<;>(refine o_z ?_))<;>(repeat (first|refine An ?_|refine Ah rfl ?_|refine Ae rfl ?_)))
  refine DT t.ops.length (by omega) (fun _:Unit=>[(1,.pointer (some ⟨w.heap.size,0,none⟩)),(99,.slice Ao t.ops.length co)]) (fun k _ w'=>Ext w w'∧∀ i,i < k→∀ o,t.ops[i]?=some o→NameOk o.name) ()
    ⟨hE7,fun i hi=>by omega⟩ ⟨rfl,rfl,rfl,rfl,trivial⟩ (fun _=>⟨rfl,rfl⟩) ⟨rfl,rfl,rfl⟩ ⟨rfl,rfl⟩ ?_ ?_
  · rintro k _ w8 hk ⟨hE8,hh⟩
    obtain ⟨o,ho⟩:=BE hk
    obtain ⟨b2,o2,ce,rfl,_,_,hd1,p,q,rfl,hp,hq,hc,hn⟩:=(hops.ext hE8).elem ho
    obtain ⟨Ap,cp,rfl⟩:=hp.form
    obtain ⟨Aq,cq,rfl⟩:=hq.form
    ((repeat (first|refine An ?_|refine Ah rfl ?_|refine Ae rfl ?_))<;>(refine Ge rfl rfl rfl ?_<;>refine Bp rfl rfl ?_)<;>(repeat (first|refine An ?_|refine Ah rfl ?_|refine Ae rfl ?_)))
    refine Ek rfl rfl rfl (by simp [Value.cells,Value.oneCell']) fun w9 hN9=>?_
    have hb2:=hN9.blk
    have hE9:Ext w w9:=hE8.trans' hN9.ext
    ((refine o_z ?_))
    repeat (first|refine An ?_|refine Ah rfl ?_|refine Ae rfl ?_)
    (refine AA rfl rfl ?_<;>refine Aw rfl rfl ?_)
    refine GU rfl rfl (taskNamed hn) ?_ ?_
    · intro w10 hP hE10
      ((first|refine FB rfl rfl ?_|refine FC rfl rfl ?_|refine Ir rfl rfl ?_)<;>(refine o_z ?_))
      repeat (first|refine An ?_|refine Ah rfl ?_|refine Ae rfl ?_)
      exact ⟨(),⟨rfl,rfl,rfl,rfl,trivial⟩,hE9.trans' hE10,EZ hh fun o' ho'=>by rw [ho] at ho';injection ho' with ho';exact ho' ▸ hP⟩
    · intro w10 hP hE10
      ((first|refine FB rfl rfl ?_|refine FC rfl rfl ?_|refine Ir rfl rfl ?_)<;>(refine o_z ?_))
      repeat (first|refine An ?_|refine Ah rfl ?_|refine Ae rfl ?_)
      ((repeat (first|refine An ?_|refine Ah rfl ?_|refine Ae rfl ?_))<;>(refine JO rfl rfl ?_<;>refine Al rfl rfl ?_<;>(refine o_z ?_))<;>(repeat (first|refine An ?_|refine Ah rfl ?_|refine Ae rfl ?_)))
      refine ret1 rfl rfl ⟨?_,hE9.trans' hE10⟩
      rw [c3,CS (fun h=>hP (h k o ho))];rfl
  rintro _ w8 ⟨hE8,hnames⟩
  repeat (first|refine An ?_|refine Ah rfl ?_|refine Ae rfl ?_)
  ((repeat (first|refine An ?_|refine Ah rfl ?_|refine Ae rfl ?_))<;>(refine Al rfl rfl ?_<;>(refine o_z ?_))<;>(repeat (first|refine An ?_|refine Ah rfl ?_|refine Ae rfl ?_)))
  refine ret1 rfl rfl ⟨?_,hE8⟩
  rw [c3,De (show NamesOk t from fun i o ho=>hnames i (Cs ho) o ho)];rfl
end
section
theorem Hq {p:Prop}:bof p=true↔p:=⟨fun h=>Classical.byContradiction fun hn=>(by rw [CS hn] at h;exact Bool.noConfusion h),De⟩
theorem Fa {p:Prop}:bof p=false↔¬ p:=by
  rw [← Bool.not_eq_true,Hq]
theorem Ku {vars:List Int} {f:List Fct} (h:FactsOk vars f):∀ (j i:Nat) (x y:Fct),i < j→f[i]?=some x→f[j]?=some y→x.var < y.var
  | 0,i,_,_,hij,_,_=>by omega
  | j + 1,i,x,y,hij,hx,hy=>by
    by_cases he:i=j
    · subst he;exact h.2 i x y hx hy
    · obtain ⟨z,hz⟩:=BE (l:=f) (k:=j) (by have:=Cs hy;omega)
      have h1:=Ku h j i x z (by omega) hx hz
      have h2:=h.2 j z y hz hy
      omega
theorem Kv {vars:List Int} {f:List Fct} (h:FactsOk vars f):∀ (i:Nat) (x:Fct),f[i]?=some x→(i:Int)≤x.var
  | 0,x,hx=>(h.1 0 x hx).1
  | i + 1,x,hx=>by
    obtain ⟨z,hz⟩:=BE (l:=f) (k:=i) (by have:=Cs hx;omega)
    have h1:=Kv h i z hz
    have h2:=h.2 i z x hz hx
    omega
theorem Mf {vars:List Int} {f:List Fct} (h:FactsOk vars f):f.length≤vars.length:=by
  rcases Nat.eq_zero_or_pos f.length with h0|h0
  · omega
  · obtain ⟨x,hx⟩:=BE (l:=f) (k:=f.length - 1) (by omega)
    have h1:=Kv h _ x hx
    obtain ⟨h2,h3,y,hy,_⟩:=h.1 _ x hx
    have:=Cs hy
    omega
theorem HO {t:Tsk} {f:List Fct}:f∈conds t↔f=t.goal∨∃ (i:Nat) (o:Opr),t.ops[i]?=some o∧(f=o.pre∨∃ (j:Nat) (e:Eff),o.effs[j]?=some e∧f=e.cond):=by
  unfold conds opConds
  rw [List.mem_cons,List.mem_flatMap]
  constructor
  · rintro (h|⟨o,ho,hf⟩)
    · exact .inl h
    · obtain ⟨i,hi⟩:=List.getElem?_of_mem ho
      refine .inr ⟨i,o,hi,?_⟩
      rcases List.mem_cons.1 hf with h|h
      · exact .inl h
      · obtain ⟨e,he,rfl⟩:=List.mem_map.1 h
        obtain ⟨j,hj⟩:=List.getElem?_of_mem he
        exact .inr ⟨j,e,hj,rfl⟩
  · rintro (h|⟨i,o,ho,h⟩)
    · exact .inl h
    · refine .inr ⟨o,List.mem_of_getElem? ho,?_⟩
      rcases h with rfl|⟨j,e,he,rfl⟩
      · exact List.mem_cons_self
      · exact List.mem_cons_of_mem _ (List.mem_map.2 ⟨e,List.mem_of_getElem? he,rfl⟩)
theorem LP {t:Tsk}:checkN t=0↔TaskOk t:=by
  unfold checkN
  constructor
  · intro h
    by_cases h1:Large t
    · rw [if_pos (Hq.2 h1)] at h;cases h
    rw [if_neg (fun hh=>h1 (Hq.1 hh))] at h
    by_cases h2:VarsOk t∧CostsOk t
    case neg=>rw [if_pos (Fa.2 h2)] at h;cases h
    rw [if_neg (fun hh=>Fa.1 hh h2)] at h
    by_cases h3:StateOk t.vars t.init∧CondsOk t∧EffsOk t
    case neg=>rw [if_pos (Fa.2 h3)] at h;cases h
    rw [if_neg (fun hh=>Fa.1 hh h3)] at h
    by_cases h4:NamesOk t
    case neg=>rw [if_pos (Fa.2 h4)] at h;cases h
    have hc:∀ f∈conds t,FactsOk t.vars f:=fun f hf=>by
      obtain ⟨i,hi⟩:=List.getElem?_of_mem hf
      exact h3.2.1 i f hi
    have hl:t.vars.length≤64∧t.ops.length≤4096∧(∀ (i:Nat) (o:Opr),t.ops[i]?=some o→o.effs.length≤64):=by
      unfold Large at h1
      refine ⟨Nat.le_of_not_lt fun h=>h1 (.inl h),Nat.le_of_not_lt fun h=>h1 (.inr (.inl h)),fun i o ho=>Nat.le_of_not_lt fun h=>h1 (.inr (.inr (.inl ⟨i,o,ho,h⟩)))⟩
    exact ⟨hl.1,hl.2.1,h2.1,h3.1,hc _ (HO.2 (.inl rfl)),fun i o ho=>⟨(h2.2 i o ho).1,(h2.2 i o ho).2,hl.2.2 i o ho,h4 i o ho,hc _ (HO.2 (.inr ⟨i,o,ho,.inl rfl⟩)),fun j e he=>⟨hc _ (HO.2 (.inr ⟨i,o,ho,.inr ⟨j,e,he,rfl⟩⟩)),h3.2.2 i o ho j e he⟩⟩⟩
  · rintro ⟨h1,h2,h3,h4,h5,h6⟩
    have hc:∀ f∈conds t,FactsOk t.vars f:=fun f hf=>by
      rcases HO.1 hf with rfl|⟨i,o,ho,rfl|⟨j,e,he,rfl⟩⟩
      · exact h5
      · exact (h6 i o ho).2.2.2.2.1
      · exact ((h6 i o ho).2.2.2.2.2 j e he).1
    have hL:¬ Large t:=by
      rintro (h|h|⟨i,o,ho,h⟩|⟨f,hf,h⟩)
      · omega
      · omega
      · have:=(h6 i o ho).2.2.1;omega
      · have:=Mf (hc f hf);omega
    have hV:VarsOk t∧CostsOk t:=⟨h3,fun i o ho=>⟨(h6 i o ho).1,(h6 i o ho).2.1⟩⟩
    have hS:StateOk t.vars t.init∧CondsOk t∧EffsOk t:=⟨h4,fun i f hf=>hc f (List.mem_of_getElem? hf),fun i o ho j e he=>((h6 i o ho).2.2.2.2.2 j e he).2⟩
    have hN:NamesOk t:=fun i o ho=>(h6 i o ho).2.2.2.1
    rw [if_neg (fun hh=>hL (Hq.1 hh)),if_neg (fun hh=>Fa.1 hh hV),if_neg (fun hh=>Fa.1 hh hS),if_neg (fun hh=>Fa.1 hh hN)]
end
section
open Go Go.RowKit
attribute [local irreducible] ewp owp hwp hwq Ev Evg Fn retPost Res1
section
variable {w : World} {A : Nat → Prop} (hA : ∀ k, A k → k < w.heap.size) {v0 v1 : Value}
include hA
omit hA in
def Es (f:List Fct) (s:List Int):Option Bool:=some (holdsB f s)
theorem Gw {x0:List Fct} (h0:Vb w A v0 x0) {x1:List Int} (h1:Vb w A v1 x1) {r:Bool} (hm:Es x0 x1=some r):Fn Tryz.prog 21 [v0,v1] w fun v w'=>Ext w w'∧Vb w' (upA A w w') v r:=by
  obtain rfl:=sm hm
  refine (baseHolds (h0.mono hA) (h1.mono hA)).mono fun v w' h=>⟨h.2,?_⟩
  rw [h.1,HH];exact vBool
omit hA in
def Et (f:List Fct) (s:List Int):Option Bool:=some (holdsB f s)
theorem Hx {x0:List Fct} (h0:Vb w A v0 x0) {x1:List Int} (h1:Vb w A v1 x1) {r:Bool} (hm:Et x0 x1=some r):Fn Tryz.prog 73 [v0,v1] w fun v w'=>Ext w w'∧Vb w' (upA A w w') v r:=by
  obtain rfl:=sm hm
  refine (taskHolds (h0.mono hA) (h1.mono hA)).mono fun v w' h=>⟨h.2,?_⟩
  rw [h.1,HH];exact vBool
omit hA in
noncomputable def FU (x:List Int) (y:List Int):Option Bool:=some (bof (x=y))
theorem JH {x0:List Int} (h0:Vb w A v0 x0) {x1:List Int} (h1:Vb w A v1 x1) {r:Bool} (hm:FU x0 x1=some r):Fn Tryz.prog 24 [v0,v1] w fun v w'=>Ext w w'∧Vb w' (upA A w w') v r:=by
  obtain rfl:=sm hm
  refine (baseInts (h0.mono hA) (h1.mono hA)).mono fun v w' h=>⟨h.2,?_⟩
  rw [h.1];exact vBool
omit hA in
noncomputable def Fj (x:List Int) (y:List Int):Option Bool:=some (bof (StateOk x y))
theorem Lk {x0:List Int} (h0:Vb w A v0 x0) {x1:List Int} (h1:Vb w A v1 x1) {r:Bool} (hm:Fj x0 x1=some r):Fn Tryz.prog 62 [v0,v1] w fun v w'=>Ext w w'∧Vb w' (upA A w w') v r:=by
  obtain rfl:=sm hm
  refine (taskProper (h0.mono hA) (h1.mono hA)).mono fun v w' h=>⟨h.2,?_⟩
  rw [h.1];exact vBool
omit hA in
noncomputable def FF (x:List Int) (y:List Fct):Option Bool:=some (bof (FactsOk x y))
theorem LQ {x0:List Int} (h0:Vb w A v0 x0) {x1:List Fct} (h1:Vb w A v1 x1) {r:Bool} (hm:FF x0 x1=some r):Fn Tryz.prog 64 [v0,v1] w fun v w'=>Ext w w'∧Vb w' (upA A w w') v r:=by
  obtain rfl:=sm hm
  refine (taskFacts (h0.mono hA) (h1.mono hA)).mono fun v w' h=>⟨h.2,?_⟩
  rw [h.1];exact vBool
end
noncomputable def FG (t:Tsk):Option Err:=some ⟨checkN t⟩
theorem MO (t:Tsk):inI64 (checkN t):=by unfold checkN;(repeat' split)<;>decide
theorem LR {w:World} {A:Nat→Prop} (hA:∀ k,A k→k < w.heap.size) {v0:Value} {x0:Tsk} (h0:Vb w A v0 x0) {r:Err} (hm:FG x0=some r):Fn Tryz.prog 42 [v0] w fun v w'=>Ext w w'∧Vb w' (upA A w w') v r:=by
  obtain rfl:=sm hm
  refine (taskCheck (h0.mono hA)).mono fun v w' h=>⟨h.2,?_⟩
  rw [h.1]
  exact vErr (MO _)
def Kw (x:Err):Option Int:=some x.n
theorem MP {w:World} {A:Nat→Prop} (hA:∀ k,A k→k < w.heap.size) {x0:Err} (r0:inI64 x0.n) {r:Int} (hm:Kw x0=some r):Fn Tryz.prog 15 [errV x0.n] w fun v w'=>Ext w w'∧Vb w' (upA A w w') v r:=by
  obtain rfl:=sm hm
  refine AD Tryz.func15 rfl Tryz.ntmps15 rfl ?_
  by_cases h:x0.n=0
  · rw [h,IX]
    ((repeat (first|refine An ?_|refine Ah rfl ?_|refine Ae rfl ?_))<;>(refine Al rfl rfl ?_<;>(refine o_z ?_))<;>(repeat (first|refine An ?_|refine Ah rfl ?_|refine Ae rfl ?_))<;>(refine Aj rfl rfl ?_<;>(first|refine OL rfl rfl ?_|refine OM rfl rfl ?_)<;>(refine o_z ?_))<;>(repeat (first|refine An ?_|refine Ah rfl ?_|refine Ae rfl ?_))<;>(refine Al rfl rfl ?_<;>(refine o_z ?_))<;>(repeat (first|refine An ?_|refine Ah rfl ?_|refine Ae rfl ?_)))
    exact ret1 rfl rfl ⟨Below.refl _ _,vInt (by decide)⟩
  · rw [Iu h]
    have h2:-9223372036854775808≤x0.n∧x0.n≤9223372036854775807:=r0
    ((repeat (first|refine An ?_|refine Ah rfl ?_|refine Ae rfl ?_))<;>(refine Al rfl rfl ?_<;>(refine o_z ?_))<;>(repeat (first|refine An ?_|refine Ah rfl ?_|refine Ae rfl ?_))<;>(refine Aj rfl rfl ?_<;>(first|refine OL rfl rfl ?_|refine OM rfl rfl ?_)<;>(refine o_z ?_))<;>(repeat (first|refine An ?_|refine Ah rfl ?_|refine Ae rfl ?_))<;>(refine Aj rfl rfl ?_<;>refine Ps rfl rfl ?_<;>refine Aj rfl rfl ?_<;>refine DH rfl rfl rfl ?_<;>refine DH rfl rfl rfl ?_<;>refine Al rfl rfl ?_<;>refine Al rfl rfl ?_<;>(refine o_z ?_))<;>(repeat (first|refine An ?_|refine Ah rfl ?_|refine Ae rfl ?_))<;>(refine Aj rfl rfl ?_<;>(refine o_z ?_))<;>(repeat (first|refine An ?_|refine Ah rfl ?_|refine Ae rfl ?_))<;>(refine Aj rfl rfl ?_<;>refine Al rfl rfl ?_<;>(refine o_z ?_))<;>(repeat (first|refine An ?_|refine Ah rfl ?_|refine Ae rfl ?_)))
    exact ret1 rfl rfl ⟨Below.refl _ _,vInt r0⟩
def Cg (xs:List Int):Option (List Int):=if xs.length * 8≤140737488355328∧xs.length≤9223372036854775807 then some xs else none
theorem EC {w:World} {A:Nat→Prop} (hA:∀ k,A k→k < w.heap.size) {v0:Value} {x0:List Int} (h0:Vb w A v0 x0) {r:List Int} (hm:Cg x0=some r) :
    Fn Tryz.prog 79 [v0] w fun v w'=>Ext w w'∧RowR w w' (upA A w w') 3 v r:=by
  obtain ⟨⟨hl,a0⟩,rfl⟩:=CC hm
  obtain ⟨O,hB,b0⟩:=enter hA
  replace h0:=h0.mono b0
  obtain ⟨Ad,c,rfl⟩:=h0.form
  refine AD Tryz.func79 rfl Tryz.ntmps79 rfl ?_
  cases Ad with
  | none =>
    have hx:x0=[]:=by
      cases x0 with
      | nil=>rfl
      | cons x xs=>obtain ⟨_,_,_,h,_⟩:=h0.elem (k:=0) (x:=x) rfl;cases h
    subst hx
    ((repeat (first|refine An ?_|refine Ah rfl ?_|refine Ae rfl ?_))<;>(refine Al rfl rfl ?_<;>(refine o_z ?_))<;>(repeat (first|refine An ?_|refine Ah rfl ?_|refine Ae rfl ?_))<;>(refine Aj rfl rfl ?_<;>refine MC rfl rfl ?_<;>(refine o_z ?_))<;>(repeat (first|refine An ?_|refine Ah rfl ?_|refine Ae rfl ?_))<;>(refine Al rfl rfl ?_<;>(refine o_z ?_))<;>(repeat (first|refine An ?_|refine Ah rfl ?_|refine Ae rfl ?_)))
    exact ret1 rfl rfl ⟨Below.refl _ _,RowR.nil⟩
  | some ad =>
    ((repeat (first|refine An ?_|refine Ah rfl ?_|refine Ae rfl ?_))<;>(refine Al rfl rfl ?_<;>(refine o_z ?_))<;>(repeat (first|refine An ?_|refine Ah rfl ?_|refine Ae rfl ?_))<;>(refine Aj rfl rfl ?_<;>refine MC rfl rfl ?_<;>(refine o_z ?_))<;>(repeat (first|refine An ?_|refine Ah rfl ?_|refine Ae rfl ?_)))
    refine AL 2 (by decide) O (xs:=([]:List Int)) rfl rfl rfl rfl trivial (by decide) (by decide) rfl fun g w1 O1 S1 h1=>?_
    replace hB:=hB.st S1 (fun h=>h) (fun h=>h)
    replace h0:=h0.st S1 (fun h=>h)
    (refine Aj rfl rfl ?_)
    refine Bo rfl h1 h0.rd rfl rfl (by decide) (by simpa using hl) (by simpa using a0) rfl fun A2 c2 w2 O2 S2 h2=>?_
    replace hB:=hB.st S2 (by decide) (by decide)
    rw [List.nil_append] at h2 ⊢
    (refine Al rfl rfl ?_<;>(refine o_z ?_))
    repeat (first|refine An ?_|refine Ah rfl ?_|refine Ae rfl ?_)
    exact ret1 rfl rfl ⟨hB.ext,h2.out hB (by decide)⟩
end
section
open Go Go.RowKit
attribute [local irreducible] ewp owp hwp hwq Ev Evg Fn retPost Res1
attribute [local irreducible] hwx loudX
def BB (xs:List Fct):Option (List Fct):=if xs.length * 16≤140737488355328∧xs.length≤9223372036854775807 then some xs else none
theorem BM {w:World} {A:Nat→Prop} (hA:∀ k,A k→k < w.heap.size) {v0:Value} {x0:List Fct} (h0:Vb w A v0 x0) {r:List Fct} (hm:BB x0=some r) :
    Fn Tryz.prog 36 [v0] w fun v w'=>Ext w w'∧RowR w w' (upA A w w') 78 v r:=by
  obtain ⟨⟨hl,a0⟩,rfl⟩:=CC hm
  obtain ⟨O,hB,b0⟩:=enter hA
  replace h0:=h0.mono b0
  obtain ⟨Ad,c,rfl⟩:=h0.form
  refine AD Tryz.func36 rfl Tryz.ntmps36 rfl ?_
  cases Ad with
  | none =>
    have hx:x0=[]:=by
      cases x0 with
      | nil=>rfl
      | cons x xs=>obtain ⟨_,_,_,h,_⟩:=h0.elem (k:=0) (x:=x) rfl;cases h
    subst hx
    ((repeat (first|refine An ?_|refine Ah rfl ?_|refine Ae rfl ?_))<;>(refine Al rfl rfl ?_<;>(refine o_z ?_))<;>(repeat (first|refine An ?_|refine Ah rfl ?_|refine Ae rfl ?_))<;>(refine Aj rfl rfl ?_<;>refine MC rfl rfl ?_<;>(refine o_z ?_))<;>(repeat (first|refine An ?_|refine Ah rfl ?_|refine Ae rfl ?_))<;>(refine Al rfl rfl ?_<;>(refine o_z ?_))<;>(repeat (first|refine An ?_|refine Ah rfl ?_|refine Ae rfl ?_)))
    exact ret1 rfl rfl ⟨Below.refl _ _,RowR.nil⟩
  | some ad =>
    ((repeat (first|refine An ?_|refine Ah rfl ?_|refine Ae rfl ?_))<;>(refine Al rfl rfl ?_<;>(refine o_z ?_))<;>(repeat (first|refine An ?_|refine Ah rfl ?_|refine Ae rfl ?_))<;>(refine Aj rfl rfl ?_<;>refine MC rfl rfl ?_<;>(refine o_z ?_))<;>(repeat (first|refine An ?_|refine Ah rfl ?_|refine Ae rfl ?_)))
    refine AL 2 (by decide) O (xs:=([]:List Fct)) rfl rfl rfl rfl trivial (by decide) (by decide) rfl fun g w1 O1 S1 h1=>?_
    replace hB:=hB.st S1 (fun h=>h) (fun h=>h)
    replace h0:=h0.st S1 (fun h=>h)
    (refine Aj rfl rfl ?_)
    refine Bo rfl h1 h0.rd rfl rfl (by decide) (by simpa using hl) (by simpa using a0) rfl fun A2 c2 w2 O2 S2 h2=>?_
    replace hB:=hB.st S2 (by decide) (by decide)
    rw [List.nil_append] at h2 ⊢
    (refine Al rfl rfl ?_<;>(refine o_z ?_))
    repeat (first|refine An ?_|refine Ah rfl ?_|refine Ae rfl ?_)
    exact ret1 rfl rfl ⟨hB.ext,h2.out hB (by decide)⟩
end
section
open Go Go.RowKit
attribute [local irreducible] ewp owp hwp hwq Ev Evg Fn retPost Res1
attribute [local irreducible] hwx loudX
instance:TMap Tryz.prog 115 3 119:=⟨Tryz.underlying115⟩
instance:TKey Tryz.prog 3 Int:=⟨Tryz.underlying3⟩
structure Job where
  name:ByteArray
  dur:Int
  start:List Fct
  over:List Fct
  fin:List Fct
  atStart:List Fct
  atEnd:List Fct
instance:Rp Job where
  isAgg:=true
  size:=7
  R w F cs x:=∃ v0 v1 v2 v3 v4,cs=[.string x.name,.int .i64 x.dur,v0,v1,v2,v3,v4]∧Vb w F v0 x.start∧Vb w F v1 x.over∧Vb w F v2 x.fin∧Vb w F v3 x.atStart∧Vb w F v4 x.atEnd∧x.name.size≤9223372036854775807∧inI64 x.dur
  len:=by rintro w F cs x ⟨v0,v1,v2,v3,v4,rfl,h0,h1,h2,h3,h4,h5,h6⟩;rfl
  one:=by rintro w F cs x ⟨v0,v1,v2,v3,v4,rfl,h0,h1,h2,h3,h4,h5,h6⟩ u hu;simp at hu;rcases hu with rfl|rfl|rfl|rfl|rfl|rfl|rfl<;>first|rfl|exact Vb.one rfl (by assumption)
  agree:=by rintro w w' F cs x ⟨v0,v1,v2,v3,v4,rfl,h0,h1,h2,h3,h4,h5,h6⟩ ha;exact ⟨v0,v1,v2,v3,v4,rfl,h0.agree ha,h1.agree ha,h2.agree ha,h3.agree ha,h4.agree ha,h5,h6⟩
  mono:=by rintro w F G cs x ⟨v0,v1,v2,v3,v4,rfl,h0,h1,h2,h3,h4,h5,h6⟩ ha;exact ⟨v0,v1,v2,v3,v4,rfl,h0.mono ha,h1.mono ha,h2.mono ha,h3.mono ha,h4.mono ha,h5,h6⟩
structure Tpl where
  vars:List Int
  init:List Int
  goal:List Fct
  jobs:List Job
instance:Rp Tpl where
  isAgg:=true
  size:=4
  R w F cs x:=∃ v0 v1 v2 v3,cs=[v0,v1,v2,v3]∧Vb w F v0 x.vars∧Vb w F v1 x.init∧Vb w F v2 x.goal∧Vb w F v3 x.jobs
  len:=by rintro w F cs x ⟨v0,v1,v2,v3,rfl,h0,h1,h2,h3⟩;rfl
  one:=by rintro w F cs x ⟨v0,v1,v2,v3,rfl,h0,h1,h2,h3⟩ u hu;simp at hu;rcases hu with rfl|rfl|rfl|rfl<;>first|rfl|exact Vb.one rfl (by assumption)
  agree:=by rintro w w' F cs x ⟨v0,v1,v2,v3,rfl,h0,h1,h2,h3⟩ ha;exact ⟨v0,v1,v2,v3,rfl,h0.agree ha,h1.agree ha,h2.agree ha,h3.agree ha⟩
  mono:=by rintro w F G cs x ⟨v0,v1,v2,v3,rfl,h0,h1,h2,h3⟩ ha;exact ⟨v0,v1,v2,v3,rfl,h0.mono ha,h1.mono ha,h2.mono ha,h3.mono ha⟩
structure Lch where
  tm:Int
  job:Int
instance:Rp Lch where
  isAgg:=true
  size:=2
  R w F cs x:=cs=[.int .i64 x.tm,.int .i64 x.job]∧inI64 x.tm∧inI64 x.job
  len:=by rintro w F cs x ⟨rfl,h0,h1⟩;rfl
  one:=by rintro w F cs x ⟨rfl,h0,h1⟩ u hu;simp at hu;rcases hu with rfl|rfl<;>first|rfl|exact Vb.one rfl (by assumption)
  agree:=by rintro w w' F cs x ⟨rfl,h0,h1⟩ ha;exact ⟨rfl,h0,h1⟩
  mono:=by rintro w F G cs x ⟨rfl,h0,h1⟩ ha;exact ⟨rfl,h0,h1⟩
structure Hap where
  job:Int
  fin:Bool
instance:Rp Hap where
  isAgg:=true
  size:=2
  R w F cs x:=cs=[.int .i64 x.job,.bool x.fin]∧inI64 x.job
  len:=by rintro w F cs x ⟨rfl,h0⟩;rfl
  one:=by rintro w F cs x ⟨rfl,h0⟩ u hu;simp at hu;rcases hu with rfl|rfl<;>first|rfl|exact Vb.one rfl (by assumption)
  agree:=by rintro w w' F cs x ⟨rfl,h0⟩ ha;exact ⟨rfl,h0⟩
  mono:=by rintro w F G cs x ⟨rfl,h0⟩ ha;exact ⟨rfl,h0⟩
noncomputable def CU (x0:Tpl):Option (List (List Fct)) :=
  bnd (rng (ρ:=(List (List Fct))) (fun (k36:Nat) (a37:Job) (s34:(List (List Fct)))=>bnd (appI 24 s34 [a37.start,a37.over,a37.fin,a37.atStart,a37.atEnd]) fun u93=>some (.next u93)) x0.jobs 0 [x0.goal]) fun res32=>fin res32 fun (s108:(List (List Fct)))=>some s108
theorem JT {w:World} {A:Nat→Prop} (hA:∀ k,A k→k < w.heap.size) {vx0:Value} {x0:Tpl} (y0:Vb w A vx0 x0) {r:(List (List Fct))} (hm:CU x0=some r) :
    Fn Tryz.prog 59 [vx0] w fun v w'=>Ext w w'∧Vb w' (upA A w w') v r:=by
 obtain ⟨O,hB,p1⟩:=enter hA
 replace y0:=y0.mono p1
 obtain ⟨a3,rfl,v3,v4,v5,v6,rfl,h7,q1,p0,c0⟩:=y0
 obtain ⟨A8,c9,rfl⟩:=h7.form
 obtain ⟨r1,s1,rfl⟩:=q1.form
 obtain ⟨t1,u1,rfl⟩:=p0.form
 obtain ⟨z0,a1,rfl⟩:=c0.form
 refine AD Tryz.func59 rfl Tryz.ntmps59 rfl ?_
 unfold CU at hm
 refine Ab (Aa (BX 2 O rfl rfl fun v1 w1 n1 q0 j0=>?_))
 replace j0:Lc 2 w1 n1 v1 26 [(.slice A8 x0.vars.length c9),(.slice r1 x0.init.length s1),(.slice t1 x0.goal.length u1),(.slice z0 x0.jobs.length a1)]:=j0
 refine Al rfl rfl (o_z ?_)
 refine Ab (Aa (AA rfl rfl (Aw (hc:=Blk.cell (i:=2) (j0.1) rfl) rfl rfl ?_)))
 replace p0:=p0.st q0
 refine AL 3 (by decide) n1 (xs:=([x0.goal]:List (List Fct))) rfl rfl rfl rfl ⟨p0,trivial⟩ (by decide) (by decide) rfl fun x1 b3 y1 r0 z1=>?_
 refine Al rfl rfl (o_z ?_)
 refine Ab (Ab (Aa (AA rfl rfl ?_)))
 replace j0:=j0.st r0
 refine Aw (hc:=Blk.cell (i:=3) (j0.1) rfl) rfl rfl ?_
 refine AT rfl rfl ?_
 replace c0:=(c0.st q0).st r0
 have b1:x0.jobs.length≤9223372036854775807:=Nat.le_trans c0.len.2.1 c0.len.2.2
 have c3:inI64 (x0.jobs.length:Int):=rngNat b1
 refine Aj rfl rfl (o_z ?_)
 obtain ⟨k0,c1,hm⟩:=bs hm
 refine Ax (aft k0 (fun (d0:(List (List Fct))) (a0:(Option Addr×Nat))=>[(3,(.slice a0.1 d0.length a0.2))]) (fun d0 a0 w'=>∃ O':Lab,Bs w A w' O'∧Rw 3 w' O' 23 (.slice a0.1 d0.length a0.2) d0)) ?_ ?_
 ·
  refine AN ?_
  replace hB:=(hB.st q0).st r0
  refine Bn (σ:=(List (List Fct))) (X:=(Option Addr×Nat)) (x0.jobs.length) c1 rfl b1 (fun (d0:(List (List Fct))) (a0:(Option Addr×Nat))=>[(3,(.slice a0.1 d0.length a0.2)),(10,(.slice z0 x0.jobs.length a1))]) _ (fun d0 a0 w'=>∃ O':Lab,Bs w A w' O'∧Rw 3 w' O' 23 (.slice a0.1 d0.length a0.2) d0∧Vb w' (Fr 0 w' O') (.slice z0 x0.jobs.length a1) x0.jobs) _ ((some ⟨x1,0,none⟩),1) ⟨y1,hB,z1,c0⟩ ⟨rfl,rfl,rfl,rfl,trivial⟩ (fun _ _=>⟨rfl,rfl⟩) (fun _ _=>⟨rfl,trivial⟩) (fun _ _ _ ⟨O',hB,e0,c0⟩=>⟨O',hB,e0⟩) ⟨rfl,rfl,rfl⟩ ⟨rfl,rfl⟩ ?_
  rintro a2 b0 d0 a0 d3 b2 l0 ⟨c2,hB,e0,c0⟩ i0 d1 e1
  have rk36:inI64 (a2:Int):=rngK l0 b1
  refine Ab (Aa ?_)
  obtain ⟨e3,f3,d2,f1,g1,h1,g3,h3,i3,j3,k3,rfl,s0,t0,u0,v0,w0,l3,m3⟩:=c0.elem' l0
  obtain ⟨e2,f2,rfl⟩:=s0.form
  obtain ⟨g2,h2,rfl⟩:=t0.form
  obtain ⟨i2,j2,rfl⟩:=u0.form
  obtain ⟨k2,l2,rfl⟩:=v0.form
  obtain ⟨m2,n2,rfl⟩:=w0.form
  refine Bz (hA:=f1) (hj:=rfl) (hlt:=g1) rfl rfl rfl ?_
  refine Bp (hl:=rfl) (hc:=h1) rfl rfl ?_
  refine AS 4 c2 rfl fun o2 n3 o1 g0 f0=>?_
  refine Ay f0 rfl rfl rfl (AJ rfl) (allOne rfl) fun p2 h0 f0=>?_
  replace f0:Lc 4 p2 o1 o2 66 [(.string b0.name),(.int .i64 b0.dur),(.slice e2 b0.start.length f2),(.slice g2 b0.over.length h2),(.slice i2 b0.fin.length j2),(.slice k2 b0.atStart.length l2),(.slice m2 b0.atEnd.length n2)]:=f0
  refine o_z ?_
  refine Aa (Aj rfl rfl (AA rfl rfl (Aw (hc:=Blk.cell (i:=2) (f0.1) rfl) rfl rfl ?_)))
  refine AA rfl rfl (Aw (hc:=Blk.cell (i:=3) (f0.1) rfl) rfl rfl ?_)
  refine AA rfl rfl (Aw (hc:=Blk.cell (i:=4) (f0.1) rfl) rfl rfl ?_)
  refine AA rfl rfl (Aw (hc:=Blk.cell (i:=5) (f0.1) rfl) rfl rfl ?_)
  refine AA rfl rfl (Aw (hc:=Blk.cell (i:=6) (f0.1) rfl) rfl rfl ?_)
  replace s0:=(s0.st g0).st h0
  replace t0:=(t0.st g0).st h0
  replace u0:=(u0.st g0).st h0
  replace v0:=(v0.st g0).st h0
  replace w0:=(w0.st g0).st h0
  refine AL 5 (by decide) o1 (xs:=([b0.start,b0.over,b0.fin,b0.atStart,b0.atEnd]:List (List Fct))) rfl rfl rfl rfl ⟨s0,t0,u0,v0,w0,trivial⟩ (by decide) (by decide) rfl fun o3 p3 q3 i1 q2=>?_
  obtain ⟨r3,j1,i0⟩:=bs i0
  obtain ⟨j1,r2,s2⟩:=AR j1
  replace e0:=((e0.st g0).st h0).st i1
  refine Bo rfl e0 (q2.rd) rfl rfl (by decide) r2 s2 rfl fun t2 u2 s3 v2 m0 n0=>?_
  rw [← j1] at n0 ⊢
  refine Al rfl rfl (o_z ?_)
  obtain rfl:=sm i0
  exact show Exists _ from ⟨_,(t2,u2),rfl,⟨rfl,rfl,rfl,rfl,trivial⟩,_,(((hB.st g0).st h0).st i1).st m0,n0,(((c0.st g0).st h0).st i1).st m0⟩
 replace hB:=(hB.st q0).st r0
 rintro w2 k1 ⟨x2,y2,rfl,o0,z2,hB,e0⟩
 replace hm:=AX hm
 refine AC _ o0 ?_
 refine Ab (Aa (Aj rfl rfl (Al rfl rfl (o_z ?_))))
 refine AB ?_
 obtain ⟨l1,m1,e0⟩:=e0.freeze
 obtain rfl:=sm hm
 replace hB:=hB.st m1
 exact ret1v rfl (Au rfl) ⟨hB.ext,(Vb.mono (F:=Fr 0 k1 l1) e0 hB.out)⟩
noncomputable def CN (x0:List Fct):Option Bool :=
  bnd (if 64 < (x0.length:Int) then (some true) else (some false):Option Bool) fun y4=>some y4
theorem IJ {w:World} {A:Nat→Prop} (hA:∀ k,A k→k < w.heap.size) {vx0:Value} {x0:List Fct} (b0:Vb w A vx0 x0) {r:Bool} (hm:CN x0=some r) :
    Fn Tryz.prog 61 [vx0] w fun v w'=>Ext w w'∧Vb w' (upA A w w') v r:=by
 obtain ⟨O,hB,e0⟩:=enter hA
 replace b0:=b0.mono e0
 obtain ⟨A2,c3,rfl⟩:=b0.form
 refine AD Tryz.func61 rfl Tryz.ntmps61 rfl ?_
 unfold CN at hm
 refine Ab (Aa (Al rfl rfl (o_z ?_)))
 refine Ab ?_
 obtain ⟨y4,a0,hm⟩:=bs hm
 refine Ax (fun l' w'=>∃ (x7:Unit) (O':Lab),subs l' [(2,(.bool y4))]∧Bs w A w' O') ?_ ?_
 ·
  refine Aa (Aj rfl rfl (AT rfl rfl ?_))
  have l9:x0.length≤9223372036854775807:=Nat.le_trans b0.len.2.1 b0.len.2.2
  have r8:inI64 (x0.length:Int):=rngNat l9
  refine CK rfl rfl rfl (fun c0=>?_) fun c0=>?_
  ·
   replace a0:=ip a0 c0
   refine Al rfl rfl (o_z ?_)
   obtain rfl:=sm a0
   exact ⟨(),_,⟨rfl,trivial⟩,hB⟩
  replace a0:=im a0 c0
  refine Al rfl rfl (o_z ?_)
  obtain rfl:=sm a0
  exact ⟨(),_,⟨rfl,trivial⟩,hB⟩
 rintro f0 g0 ⟨x7,h0,d0,hB⟩
 refine AC _ d0 ?_
 refine AB ?_
 obtain rfl:=sm hm
 exact ret1v rfl (Au rfl) ⟨hB.ext,vBool⟩
noncomputable def AV (x0:List (List Fct)):Option Int :=
  bnd (rng (ρ:=Int) (fun (k11:Nat) (a12:List Fct) (s9:Unit)=>bnd (CN a12) fun q33=>if q33=true then some (.ret (k11:Int)) else some (.next ())) x0 0 ()) fun res7=>fin res7 fun (s44:Unit)=>some (-1)
theorem DD {w:World} {A:Nat→Prop} (hA:∀ k,A k→k < w.heap.size) {vx0:Value} {x0:List (List Fct)} (b0:Vb w A vx0 x0) {r:Int} (hm:AV x0=some r) :
    Fn Tryz.prog 110 [vx0,(.func (.func 61) #[] #[])] w fun v w'=>Ext w w'∧Vb w' (upA A w w') v r:=by
 obtain ⟨O,hB,q0⟩:=enter hA
 replace b0:=b0.mono q0
 obtain ⟨A3,c4,rfl⟩:=b0.form
 refine AD Tryz.func110 rfl Tryz.ntmps110 rfl ?_
 unfold AV at hm
 refine Ab (Aa (Al rfl rfl (o_z ?_)))
 refine Ab (Ab (Aa (Aj rfl rfl (AT rfl rfl ?_))))
 have l6:x0.length≤9223372036854775807:=Nat.le_trans b0.len.2.1 b0.len.2.2
 have r5:inI64 (x0.length:Int):=rngNat l6
 refine Aj rfl rfl (o_z ?_)
 obtain ⟨g0,r0,hm⟩:=bs hm
 refine Ax (aft g0 (fun (s9:Unit) (e0:Unit)=>[]) (fun s9 e0 w'=>∃ O':Lab,Bs w A w' O')) ?_ ?_
 ·
  refine AN (Bn (σ:=Unit) (X:=Unit) (x0.length) r0 rfl l6 (fun (s9:Unit) (e0:Unit)=>[(0,(.slice A3 x0.length c4)),(1,(.func (.func 61) #[] #[]))]) _ (fun s9 e0 w'=>∃ O':Lab,Bs w A w' O'∧Vb w' (Fr 0 w' O') (.slice A3 x0.length c4) x0) _ () ⟨O,hB,b0⟩ ⟨rfl,rfl,rfl,rfl,trivial⟩ (fun _ _=>⟨rfl,rfl⟩) (fun _ _=>trivial) (fun _ _ _ ⟨O',hB,b0⟩=>⟨O',hB⟩) ⟨rfl,rfl,rfl⟩ ⟨rfl,rfl⟩ ?_)
  rintro s0 y0 s9 e0 n0 t0 d0 ⟨o0,hB,b0⟩ a0 c0 h0
  have rk11:inI64 (s0:Int):=rngK d0 l6
  refine Ab (Aa (Aj rfl rfl (Al rfl rfl (o_z ?_))))
  refine Ab (Aa (Aj rfl rfl (Aj rfl rfl (Aj rfl rfl ?_))))
  obtain ⟨z0,a1,u0,i0,j0,k0,b1,rfl,f0⟩:=b0.elem' d0
  replace f0:=Vb.of_slice f0
  obtain ⟨c1,d1,rfl⟩:=f0.form
  refine Bz (hA:=i0) (hj:=rfl) (hlt:=j0) rfl rfl rfl ?_
  refine Aw (hc:=cat0 k0) rfl rfl ?_
  obtain ⟨p0,v0,a0⟩:=bs a0
  refine Nu (O:=o0) (A:=All n0) (R:=fun w' F v=>Vb w' F v p0) (IJ (fun _ h=>h) (Vb.mono (F:=Fr 0 n0 o0) f0 Fr.lt) v0) rfl rfl rfl fun e1 f1 g1 l0 w0=>?_
  obtain rfl:=w0.bool
  cases p0
  case false =>
   replace a0:=iF a0
   refine o_z ?_
   refine Ae rfl (AQ ?_)
   obtain rfl:=sm a0
   exact show Exists _ from ⟨_,(),rfl,⟨rfl,rfl,rfl,rfl,trivial⟩,_,hB.st l0,b0.st l0⟩
  replace a0:=iT a0
  refine o_z ?_
  refine Ah rfl (Ab (Aa (Aj rfl rfl (Al rfl rfl (o_z ?_)))))
  refine AB ?_
  obtain rfl:=sm a0
  obtain rfl:=c0 _ rfl
  obtain rfl:=sm (Cq hm)
  replace hB:=hB.st l0
  exact ret1v rfl (Au rfl) ⟨hB.ext,(vInt rk11)⟩
 rintro h1 i1 ⟨j1,k1,rfl,m0,l1,hB⟩
 replace hm:=AX hm
 refine AC _ m0 ?_
 refine Ab (Aa (Al rfl rfl (o_z ?_)))
 refine AB ?_
 obtain rfl:=sm hm
 exact ret1v rfl (Au rfl) ⟨hB.ext,(vInt (show inI64 (-1) from by decide))⟩
noncomputable def AO (x0:List (List Fct)):Option Bool :=
  bnd (bnd (AV x0) fun q9=>if 0≤q9 then (some true) else (some false):Option Bool) fun y5=>some y5
theorem Dl {w:World} {A:Nat→Prop} (hA:∀ k,A k→k < w.heap.size) {vx0:Value} {x0:List (List Fct)} (b0:Vb w A vx0 x0) {r:Bool} (hm:AO x0=some r) :
    Fn Tryz.prog 60 [vx0,(.func (.func 61) #[] #[])] w fun v w'=>Ext w w'∧Vb w' (upA A w w') v r:=by
 obtain ⟨O,hB,f0⟩:=enter hA
 replace b0:=b0.mono f0
 obtain ⟨A3,c4,rfl⟩:=b0.form
 refine AD Tryz.func60 rfl Tryz.ntmps60 rfl ?_
 unfold AO at hm
 refine Ab (Aa (Al rfl rfl (o_z ?_)))
 refine Ab ?_
 obtain ⟨y5,a0,hm⟩:=bs hm
 refine Ax (fun l' w'=>∃ (x8:Unit) (O':Lab),subs l' [(4,(.bool y5))]∧Bs w A w' O') ?_ ?_
 ·
  refine Aa (Aj rfl rfl (Aj rfl rfl ?_))
  obtain ⟨q9,g0,a0⟩:=bs a0
  refine AF (O:=O) (A:=All w) (R:=fun w' F v=>Vb w' F v q9) (DD (fun _ h=>h) (Vb.mono (F:=Fr 0 w O) b0 Fr.lt) g0) rfl rfl fun i0 j0 k0 e0 h0=>?_
  obtain ⟨rfl,l0⟩:=h0.int
  refine EM rfl rfl rfl (fun c0=>?_) fun c0=>?_
  ·
   replace a0:=ip a0 c0
   refine Al rfl rfl (o_z ?_)
   obtain rfl:=sm a0
   exact ⟨(),_,⟨rfl,trivial⟩,hB.st e0⟩
  replace a0:=im a0 c0
  refine Al rfl rfl (o_z ?_)
  obtain rfl:=sm a0
  exact ⟨(),_,⟨rfl,trivial⟩,hB.st e0⟩
 rintro m0 n0 ⟨x8,o0,d0,hB⟩
 refine AC _ d0 ?_
 refine AB ?_
 obtain rfl:=sm hm
 exact ret1v rfl (Au rfl) ⟨hB.ext,vBool⟩
noncomputable def CO (x0:List Fct) (y0:Tpl):Option Bool :=
  bnd (bnd (FF y0.vars x0) fun q24=>if q24=true then some false else some true:Option Bool) fun y20=>some y20
theorem IK {w:World} {A:Nat→Prop} (hA:∀ k,A k→k < w.heap.size) {vx0:Value} {x0:List Fct} (b0:Vb w A vx0 x0) {py0:Nat} {csy0:List Value} {y0:Tpl} (hby0:Blk w py0 26 csy0) (hay0:A py0) (hcy0:Rp.R w A csy0 y0) {r:Bool} (hm:CO x0 y0=some r) :
    Fn Tryz.prog 63 [vx0,(.pointer (some ⟨py0,0,none⟩))] w fun v w'=>Ext w w'∧Vb w' (upA A w w') v r:=by
 obtain ⟨O,hB,c0⟩:=enter hA
 have hLy0:Lc 0 w O py0 26 csy0:=⟨hby0,(c0 py0 hay0).2⟩
 replace hcy0:=Rp.mono hcy0 c0
 obtain ⟨v2,v3,v4,v5,rfl,h6,h9,g0,h0⟩:=hcy0
 obtain ⟨A7,c8,rfl⟩:=h6.form
 obtain ⟨m0,n0,rfl⟩:=h9.form
 obtain ⟨o0,p0,rfl⟩:=g0.form
 obtain ⟨q0,r0,rfl⟩:=h0.form
 replace b0:=b0.mono c0
 obtain ⟨s0,t0,rfl⟩:=b0.form
 refine AD Tryz.func63 rfl Tryz.ntmps63 rfl ?_
 unfold CO at hm
 refine Ab (Aa (Al rfl rfl (o_z ?_)))
 refine Ab ?_
 obtain ⟨i0,a0,hm⟩:=bs hm
 refine Ax (fun l' w'=>∃ (j0:Unit) (O':Lab),subs l' [(3,(.bool i0))]∧Bs w A w' O') ?_ ?_
 ·
  refine Aa (AA rfl rfl (Aw (hc:=Blk.cell (i:=0) (hLy0.1) rfl) rfl rfl ?_))
  refine Aj rfl rfl ?_
  obtain ⟨e0,k0,a0⟩:=bs a0
  refine AF (O:=O) (A:=All w) (R:=fun w' F v=>Vb w' F v e0) (LQ (fun _ h=>h) (Vb.mono (F:=Fr 0 w O) h6 Fr.lt) (Vb.mono (F:=Fr 0 w O) b0 Fr.lt) k0) rfl rfl fun u0 v0 w0 f0 l0=>?_
  obtain rfl:=l0.bool
  cases e0
  case false =>
   replace a0:=iF a0
   refine FC rfl rfl (Al rfl rfl (o_z ?_))
   obtain rfl:=sm a0
   exact ⟨(),_,⟨rfl,trivial⟩,hB.st f0⟩
  replace a0:=iT a0
  refine FB rfl rfl (Al rfl rfl (o_z ?_))
  obtain rfl:=sm a0
  exact ⟨(),_,⟨rfl,trivial⟩,hB.st f0⟩
 rintro z0 a1 ⟨j0,b1,d0,hB⟩
 refine AC _ d0 ?_
 refine AB ?_
 obtain rfl:=sm hm
 exact ret1v rfl (Au rfl) ⟨hB.ext,vBool⟩
noncomputable def AW (x0:List (List Fct)) (y0:Tpl):Option Int :=
  bnd (rng (ρ:=Int) (fun (k27:Nat) (a28:List Fct) (s25:Unit)=>bnd (CO a28 y0) fun q49=>if q49=true then some (.ret (k27:Int)) else some (.next ())) x0 0 ()) fun res23=>fin res23 fun (s60:Unit)=>some (-1)
theorem DE {w:World} {A:Nat→Prop} (hA:∀ k,A k→k < w.heap.size) {vx0:Value} {x0:List (List Fct)} (b0:Vb w A vx0 x0) {py0:Nat} {csy0:List Value} {y0:Tpl} (hby0:Blk w py0 26 csy0) (hay0:A py0) (hcy0:Rp.R w A csy0 y0) {r:Int} (hm:AW x0 y0=some r) :
    Fn Tryz.prog 110 [vx0,(.func (.func 63) #[] #[(.pointer (some ⟨py0,0,none⟩))])] w fun v w'=>Ext w w'∧Vb w' (upA A w w') v r:=by
 obtain ⟨O,hB,m0⟩:=enter hA
 have hLy0:Lc 0 w O py0 26 csy0:=⟨hby0,(m0 py0 hay0).2⟩
 replace hcy0:=Rp.mono hcy0 m0
 obtain ⟨v3,v4,v5,v6,rfl,h7,e0,f0,g0⟩:=hcy0
 obtain ⟨A8,c9,rfl⟩:=h7.form
 obtain ⟨w0,z0,rfl⟩:=e0.form
 obtain ⟨a1,b1,rfl⟩:=f0.form
 obtain ⟨c1,d1,rfl⟩:=g0.form
 replace b0:=b0.mono m0
 obtain ⟨e1,f1,rfl⟩:=b0.form
 refine AD Tryz.func110 rfl Tryz.ntmps110 rfl ?_
 unfold AW at hm
 refine Ab (Aa (Al rfl rfl (o_z ?_)))
 refine Ab (Ab (Aa (Aj rfl rfl (AT rfl rfl ?_))))
 have n0:x0.length≤9223372036854775807:=Nat.le_trans b0.len.2.1 b0.len.2.2
 have m1:inI64 (x0.length:Int):=rngNat n0
 refine Aj rfl rfl (o_z ?_)
 obtain ⟨h0,o0,hm⟩:=bs hm
 refine Ax (aft h0 (fun (j0:Unit) (k0:Unit)=>[]) (fun j0 k0 w'=>∃ O':Lab,Bs w A w' O')) ?_ ?_
 ·
  refine AN (Bn (σ:=Unit) (X:=Unit) (x0.length) o0 rfl n0 (fun (j0:Unit) (k0:Unit)=>[(0,(.slice e1 x0.length f1)),(1,(.func (.func 63) #[] #[(.pointer (some ⟨py0,0,none⟩))]))]) _ (fun j0 k0 w'=>∃ O':Lab,Bs w A w' O'∧Vb w' (Fr 0 w' O') (.slice e1 x0.length f1) x0∧Lc 0 w' O' py0 26 [(.slice A8 y0.vars.length c9),(.slice w0 y0.init.length z0),(.slice a1 y0.goal.length b1),(.slice c1 y0.jobs.length d1)]∧Vb w' (Fr 0 w' O') (.slice A8 y0.vars.length c9) y0.vars∧Vb w' (Fr 0 w' O') (.slice w0 y0.init.length z0) y0.init∧Vb w' (Fr 0 w' O') (.slice a1 y0.goal.length b1) y0.goal∧Vb w' (Fr 0 w' O') (.slice c1 y0.jobs.length d1) y0.jobs) _ () ⟨O,hB,b0,hLy0,h7,e0,f0,g0⟩ ⟨rfl,rfl,rfl,rfl,trivial⟩ (fun _ _=>⟨rfl,rfl⟩) (fun _ _=>trivial) (fun _ _ _ ⟨O',hB,b0,hLy0,h7,e0,f0,g0⟩=>⟨O',hB⟩) ⟨rfl,rfl,rfl⟩ ⟨rfl,rfl⟩ ?_)
  rintro h1 n1 j0 k0 p0 i1 i0 ⟨q0,hB,b0,hLy0,h7,e0,f0,g0⟩ a0 d0 r0
  have rk27:inI64 (h1:Int):=rngK i0 n0
  refine Ab (Aa (Aj rfl rfl (Al rfl rfl (o_z ?_))))
  refine Ab (Aa (Aj rfl rfl (Aj rfl rfl (Aj rfl rfl ?_))))
  obtain ⟨o1,p1,j1,s0,t0,u0,q1,rfl,l0⟩:=b0.elem' i0
  replace l0:=Vb.of_slice l0
  obtain ⟨r1,s1,rfl⟩:=l0.form
  refine Bz (hA:=s0) (hj:=rfl) (hlt:=t0) rfl rfl rfl ?_
  refine Aw (hc:=cat0 u0) rfl rfl ?_
  obtain ⟨g1,k1,a0⟩:=bs a0
  refine GJ (O:=q0) (A:=All p0) (R:=fun w' F v=>Vb w' F v g1) (IK (fun _ h=>h) (Vb.mono (F:=Fr 0 p0 q0) l0 Fr.lt) hLy0.1 hLy0.1.lt (Rp.mono (F:=Fr 0 p0 q0) (x:=y0) ⟨_,_,_,_,rfl,h7,e0,f0,g0⟩ Fr.lt) k1) rfl rfl rfl rfl fun t1 u1 v1 c0 l1=>?_
  obtain rfl:=l1.bool
  cases g1
  case false =>
   replace a0:=iF a0
   refine o_z ?_
   refine Ae rfl (AQ ?_)
   obtain rfl:=sm a0
   exact show Exists _ from ⟨_,(),rfl,⟨rfl,rfl,rfl,rfl,trivial⟩,_,hB.st c0,b0.st c0,hLy0.st c0,h7.st c0,e0.st c0,f0.st c0,g0.st c0⟩
  replace a0:=iT a0
  refine o_z ?_
  refine Ah rfl (Ab (Aa (Aj rfl rfl (Al rfl rfl (o_z ?_)))))
  refine AB ?_
  obtain rfl:=sm a0
  obtain rfl:=d0 _ rfl
  obtain rfl:=sm (Cq hm)
  replace hB:=hB.st c0
  exact ret1v rfl (Au rfl) ⟨hB.ext,(vInt rk27)⟩
 rintro w1 x1 ⟨y1,z1,rfl,v0,a2,hB⟩
 replace hm:=AX hm
 refine AC _ v0 ?_
 refine Ab (Aa (Al rfl rfl (o_z ?_)))
 refine AB ?_
 obtain rfl:=sm hm
 exact ret1v rfl (Au rfl) ⟨hB.ext,(vInt (show inI64 (-1) from by decide))⟩
noncomputable def AP (x0:List (List Fct)) (y0:Tpl):Option Bool :=
  bnd (bnd (AW x0 y0) fun q25=>if 0≤q25 then (some true) else (some false):Option Bool) fun y21=>some y21
theorem Dm {w:World} {A:Nat→Prop} (hA:∀ k,A k→k < w.heap.size) {vx0:Value} {x0:List (List Fct)} (b0:Vb w A vx0 x0) {py0:Nat} {csy0:List Value} {y0:Tpl} (hby0:Blk w py0 26 csy0) (hay0:A py0) (hcy0:Rp.R w A csy0 y0) {r:Bool} (hm:AP x0 y0=some r) :
    Fn Tryz.prog 60 [vx0,(.func (.func 63) #[] #[(.pointer (some ⟨py0,0,none⟩))])] w fun v w'=>Ext w w'∧Vb w' (upA A w w') v r:=by
 obtain ⟨O,hB,c0⟩:=enter hA
 have hLy0:Lc 0 w O py0 26 csy0:=⟨hby0,(c0 py0 hay0).2⟩
 replace hcy0:=Rp.mono hcy0 c0
 obtain ⟨v3,v4,v5,v6,rfl,h7,f0,g0,h0⟩:=hcy0
 obtain ⟨A8,c9,rfl⟩:=h7.form
 obtain ⟨o0,p0,rfl⟩:=f0.form
 obtain ⟨q0,r0,rfl⟩:=g0.form
 obtain ⟨s0,t0,rfl⟩:=h0.form
 replace b0:=b0.mono c0
 obtain ⟨u0,v0,rfl⟩:=b0.form
 refine AD Tryz.func60 rfl Tryz.ntmps60 rfl ?_
 unfold AP at hm
 refine Ab (Aa (Al rfl rfl (o_z ?_)))
 refine Ab ?_
 obtain ⟨j0,a0,hm⟩:=bs hm
 refine Ax (fun l' w'=>∃ (k0:Unit) (O':Lab),subs l' [(4,(.bool j0))]∧Bs w A w' O') ?_ ?_
 ·
  refine Aa (Aj rfl rfl (Aj rfl rfl ?_))
  obtain ⟨l0,m0,a0⟩:=bs a0
  refine AF (O:=O) (A:=All w) (R:=fun w' F v=>Vb w' F v l0) (DE (fun _ h=>h) (Vb.mono (F:=Fr 0 w O) b0 Fr.lt) hLy0.1 hLy0.1.lt (Rp.mono (F:=Fr 0 w O) (x:=y0) ⟨_,_,_,_,rfl,h7,f0,g0,h0⟩ Fr.lt) m0) rfl rfl fun w0 z0 a1 i0 n0=>?_
  obtain ⟨rfl,b1⟩:=n0.int
  refine EM rfl rfl rfl (fun d0=>?_) fun d0=>?_
  ·
   replace a0:=ip a0 d0
   refine Al rfl rfl (o_z ?_)
   obtain rfl:=sm a0
   exact ⟨(),_,⟨rfl,trivial⟩,hB.st i0⟩
  replace a0:=im a0 d0
  refine Al rfl rfl (o_z ?_)
  obtain rfl:=sm a0
  exact ⟨(),_,⟨rfl,trivial⟩,hB.st i0⟩
 rintro c1 d1 ⟨k0,e1,e0,hB⟩
 refine AC _ e0 ?_
 refine AB ?_
 obtain rfl:=sm hm
 exact ret1v rfl (Au rfl) ⟨hB.ext,vBool⟩
noncomputable def Ct (x0:ByteArray):Option Bool :=
  bnd (rngN (ρ:=Bool) (fun (k7:Nat) (s5:Unit)=>bnd (bnd (bytI x0 (k7:Int)) fun n22=>if n22 < 32 then (some true) else (bnd (bytI x0 (k7:Int)) fun n26=>if 126 < n26 then (some true) else (some false)):Option Bool) fun y18=>if y18=true then (some (.ret false)) else (some (.next ()))) x0.size ()) fun res3=>fin res3 fun (s39:Unit)=>bnd (if (x0.size:Int)≤256 then (some true) else (some false):Option Bool) fun y41=>some y41
theorem JU {w:World} {A:Nat→Prop} (hA:∀ k,A k→k < w.heap.size) {x0:ByteArray} (zx0:x0.size≤9223372036854775807) {r:Bool} (hm:Ct x0=some r) :
    Fn Tryz.prog 65 [(.string x0)] w fun v w'=>Ext w w'∧Vb w' (upA A w w') v r:=by
 obtain ⟨O,hB,w0⟩:=enter hA
 refine AD Tryz.func65 rfl Tryz.ntmps65 rfl ?_
 unfold Ct at hm
 refine Ab (Aa (Al rfl rfl (o_z ?_)))
 refine Ab (Ab (Aa (Aj rfl rfl (KG rfl rfl ?_))))
 have r2:inI64 (x0.size:Int):=rngNat zx0
 refine Aj rfl rfl (o_z ?_)
 obtain ⟨e0,q0,hm⟩:=bs hm
 refine Ax (aft e0 (fun (s5:Unit) (x6:Unit)=>[(0,(.string x0))]) (fun s5 x6 w'=>∃ O':Lab,Bs w A w' O')) ?_ ?_
 ·
  refine AN (Hv (σ:=Unit) (X:=Unit) (x0.size) q0 (rngNat' r2) (fun (s5:Unit) (x6:Unit)=>[(0,(.string x0))]) _ (fun s5 x6 w'=>∃ O':Lab,Bs w A w' O') _ () ⟨O,hB⟩ ⟨rfl,rfl,rfl,trivial⟩ (fun _ _=>⟨rfl,rfl⟩) (fun _ _=>⟨rfl,trivial⟩) (fun _ _ _ ⟨O',hB⟩=>⟨O',hB⟩) ⟨rfl,rfl,rfl⟩ ⟨rfl,rfl⟩ ?_)
  rintro k7 s5 x6 w9 r0 f0 ⟨y0,hB⟩ b0 d0 g0
  have rk7:inI64 (k7:Int):=rngKN f0 (rngNat' r2)
  refine Ab (Aa (Aj rfl rfl (Al rfl rfl (o_z ?_))))
  refine Ab ?_
  obtain ⟨s0,a0,b0⟩:=bs b0
  refine Ax (fun l' w'=>∃ (t0:Unit) (O':Lab),subs l' [(0,(.string x0)),(5,(.int .i64 (x0.size:Int))),(6,(.int .i64 (k7:Int))),(18,(.bool s0))]∧Bs w A w' O') ?_ ?_
  ·
   refine Aa (Aj rfl rfl (Aj rfl rfl ?_))
   obtain ⟨z0,o0,a0⟩:=bs a0
   have a1:=LJ o0
   refine NY (he:=o0) rfl rfl rfl ?_
   refine EB rfl rfl rfl (fun h0=>?_) fun h0=>?_
   ·
    replace a0:=ip a0 h0
    refine Aj rfl rfl (Ak rfl rfl rfl rfl (Ak rfl rfl rfl rfl (Ak rfl rfl rfl rfl (Ak rfl rfl rfl rfl (Bv rfl rfl rfl (o_z ?_))))))
    obtain rfl:=sm a0
    exact ⟨(),_,⟨rfl,rfl,rfl,rfl,trivial⟩,hB⟩
   replace a0:=im a0 h0
   refine Aj rfl rfl (Am rfl rfl (Aj rfl rfl (Am rfl rfl (Aj rfl rfl (Am rfl rfl ?_)))))
   obtain ⟨b1,p0,a0⟩:=bs a0
   have c1:=LJ p0
   refine NY (he:=p0) rfl rfl rfl ?_
   refine Am rfl rfl (CK rfl rfl rfl (fun i0=>?_) fun i0=>?_)
   ·
    replace a0:=ip a0 i0
    refine Bg rfl rfl rfl (o_z ?_)
    obtain rfl:=sm a0
    exact ⟨(),_,⟨rfl,rfl,rfl,rfl,trivial⟩,hB⟩
   replace a0:=im a0 i0
   refine Bg rfl rfl rfl (o_z ?_)
   obtain rfl:=sm a0
   exact ⟨(),_,⟨rfl,rfl,rfl,rfl,trivial⟩,hB⟩
  rintro d1 e1 ⟨t0,f1,j0,hB⟩
  refine AC _ j0 ?_
  refine CB rfl (fun k0=>?_) (fun k0=>?_)
  ·
   replace b0:=ip b0 k0
   refine Ab (Aa (Al rfl rfl (o_z ?_)))
   refine AB ?_
   obtain rfl:=sm b0
   obtain rfl:=d0 _ rfl
   obtain rfl:=sm (Cq hm)
   exact ret1v rfl (Au rfl) ⟨hB.ext,vBool⟩
  replace b0:=im' b0 k0
  refine AQ ?_
  obtain rfl:=sm b0
  exact show Exists _ from ⟨_,(),rfl,⟨rfl,rfl,rfl,trivial⟩,_,hB⟩
 rintro g1 h1 ⟨i1,j1,rfl,l0,k1,hB⟩
 replace hm:=AX hm
 refine AC _ l0 ?_
 refine Ab ?_
 obtain ⟨u0,c0,hm⟩:=bs hm
 refine Ax (fun l' w'=>∃ (v0:Unit) (O':Lab),subs l' [(2,(.bool u0))]∧Bs w A w' O') ?_ ?_
 ·
  refine Aa (Aj rfl rfl (KG rfl rfl ?_))
  have l1:inI64 (x0.size:Int):=rngNat zx0
  refine Kj rfl rfl rfl (fun m0=>?_) fun m0=>?_
  ·
   replace c0:=ip c0 m0
   refine Al rfl rfl (o_z ?_)
   obtain rfl:=sm c0
   exact ⟨(),_,⟨rfl,trivial⟩,hB⟩
  replace c0:=im c0 m0
  refine Al rfl rfl (o_z ?_)
  obtain rfl:=sm c0
  exact ⟨(),_,⟨rfl,trivial⟩,hB⟩
 rintro m1 n1 ⟨v0,o1,n0,hB⟩
 refine AC _ n0 ?_
 refine AB ?_
 obtain rfl:=sm hm
 exact ret1v rfl (Au rfl) ⟨hB.ext,vBool⟩
noncomputable def Cu (x0:Tpl):Option Err :=
  bnd (CU x0) fun q24=>bnd (if 64 < (x0.vars.length:Int) then (some true) else (if 24 < (x0.jobs.length:Int) then (some true) else (bnd (AO q24) fun q43=>if q43=true then some true else some false)):Option Bool) fun y33=>if y33=true then (some (⟨5⟩:Err)) else (bnd (rng (ρ:=Err) (fun (k61:Nat) (a62:Int) (s59:Unit)=>bnd (if a62 < 1 then (some true) else (if 64 < a62 then (some true) else (some false)):Option Bool) fun y80=>if y80=true then (some (.ret (⟨1⟩:Err))) else (some (.next ()))) x0.vars 0 ()) fun res57=>fin res57 fun (s95:Unit)=>bnd (rng (ρ:=Err) (fun (k103:Nat) (a104:Job) (s101:Unit)=>bnd (if a104.dur < 1 then (some true) else (if 62 < a104.dur then (some true) else (some false)):Option Bool) fun y150=>if y150=true then (some (.ret (⟨1⟩:Err))) else (some (.next ()))) x0.jobs 0 ()) fun res99=>fin res99 fun (s165:Unit)=>bnd (bnd (Fj x0.vars x0.init) fun q171=>if q171=true then bnd (AP q24 x0) fun q178=>if q178=true then some true else some false else some true:Option Bool) fun y167=>if y167=true then (some (⟨2⟩:Err)) else (bnd (rng (ρ:=Err) (fun (k196:Nat) (a197:Job) (s194:Unit)=>bnd (Ct a197.name) fun q243=>if q243=true then some (.next ()) else some (.ret (⟨8⟩:Err))) x0.jobs 0 ()) fun res192=>fin res192 fun (s254:Unit)=>some (⟨0⟩:Err)))
theorem Gi {w:World} {A:Nat→Prop} (hA:∀ k,A k→k < w.heap.size) {vx0:Value} {x0:Tpl} (d3:Vb w A vx0 x0) {r:Err} (hm:Cu x0=some r) :
    Fn Tryz.prog 18 [vx0] w fun v w'=>Ext w w'∧Vb w' (upA A w w') v r:=by
 obtain ⟨O,hB,d6⟩:=enter hA
 replace d3:=d3.mono d6
 obtain ⟨k8,rfl,v3,v4,v5,v6,rfl,h7,f0,g0,c0⟩:=d3
 obtain ⟨A8,c9,rfl⟩:=h7.form
 obtain ⟨t0,u0,rfl⟩:=f0.form
 obtain ⟨v0,w0,rfl⟩:=g0.form
 obtain ⟨p0,q0,rfl⟩:=c0.form
 refine AD Tryz.func18 rfl Tryz.ntmps18 rfl ?_
 unfold Cu at hm
 refine Ab (Aa (BX 2 O rfl rfl fun y0 e6 t5 h1 d0=>?_))
 replace d0:Lc 2 e6 t5 y0 26 [(.slice A8 x0.vars.length c9),(.slice t0 x0.init.length u0),(.slice v0 x0.goal.length w0),(.slice p0 x0.jobs.length q0)]:=d0
 refine Al rfl rfl (o_z ?_)
 refine Ab (Aa (Bp (hl:=rfl) (hc:=(d0.1).cellsAt) rfl rfl ?_))
 obtain ⟨r0,f6,hm⟩:=bs hm
 replace h7:=h7.st h1
 replace f0:=f0.st h1
 replace g0:=g0.st h1
 replace c0:=c0.st h1
 refine Cc (O:=t5) (R:=fun w' F v=>Vb w' F v r0) (JT Fr.lt (Vb.ofAgg (cs:=[(.slice A8 x0.vars.length c9),(.slice t0 x0.init.length u0),(.slice v0 x0.goal.length w0),(.slice p0 x0.jobs.length q0)]) (x:=x0) rfl ⟨_,_,_,_,rfl,h7,f0,g0,c0⟩) f6) rfl rfl fun l8 u5 w5 s0 j0=>?_
 obtain ⟨c1,d1,rfl⟩:=j0.form
 refine Al rfl rfl (o_z ?_)
 refine Ab (Ab ?_)
 obtain ⟨g6,h0,hm⟩:=bs hm
 refine Ax (fun l' w'=>∃ (h6:Unit) (O':Lab),subs l' [(1,(.pointer (some ⟨y0,0,none⟩))),(3,(.slice c1 r0.length d1)),(25,(.bool g6))]∧Bs w A w' O'∧Lc 2 w' O' y0 26 [(.slice A8 x0.vars.length c9),(.slice t0 x0.init.length u0),(.slice v0 x0.goal.length w0),(.slice p0 x0.jobs.length q0)]∧Vb w' (Fr 0 w' O') (.slice A8 x0.vars.length c9) x0.vars∧Vb w' (Fr 0 w' O') (.slice t0 x0.init.length u0) x0.init∧Vb w' (Fr 0 w' O') (.slice v0 x0.goal.length w0) x0.goal∧Vb w' (Fr 0 w' O') (.slice p0 x0.jobs.length q0) x0.jobs∧Vb w' (Fr 0 w' O') (.slice c1 r0.length d1) r0) ?_ ?_
 ·
  refine Aa (AA rfl rfl ?_)
  replace d0:=d0.st s0
  refine Aw (hc:=Blk.cell (i:=0) (d0.1) rfl) rfl rfl ?_
  refine AT rfl rfl ?_
  replace h7:=h7.st s0
  have i6:x0.vars.length≤9223372036854775807:=Nat.le_trans h7.len.2.1 h7.len.2.2
  have m8:inI64 (x0.vars.length:Int):=rngNat i6
  refine CK rfl rfl rfl (fun e3=>?_) fun e3=>?_
  ·
   replace h0:=ip h0 e3
   refine Aj rfl rfl (Ak rfl rfl rfl rfl (Ak rfl rfl rfl rfl (Ak rfl rfl rfl rfl (Ak rfl rfl rfl rfl (Bv rfl rfl rfl (Aj rfl rfl (Ak rfl rfl rfl rfl (Ak rfl rfl rfl rfl (Bv rfl rfl rfl (o_z ?_))))))))))
   obtain rfl:=sm h0
   exact ⟨(),_,⟨rfl,rfl,rfl,trivial⟩,(hB.st h1).st s0,d0,h7,f0.st s0,g0.st s0,c0.st s0,j0⟩
  replace h0:=im h0 e3
  refine Aj rfl rfl (Am rfl rfl (AA rfl rfl (Am rfl rfl (Aw (hc:=Blk.cell (i:=3) (d0.1) rfl) rfl rfl ?_))))
  refine Am rfl rfl (AT rfl rfl ?_)
  replace c0:=c0.st s0
  have j6:x0.jobs.length≤9223372036854775807:=Nat.le_trans c0.len.2.1 c0.len.2.2
  have n8:inI64 (x0.jobs.length:Int):=rngNat j6
  refine Am rfl rfl (CK rfl rfl rfl (fun f3=>?_) fun f3=>?_)
  ·
   replace h0:=ip h0 f3
   refine Bg rfl rfl rfl (Aj rfl rfl (Ak rfl rfl rfl rfl (Ak rfl rfl rfl rfl (Bv rfl rfl rfl (o_z ?_)))))
   obtain rfl:=sm h0
   exact ⟨(),_,⟨rfl,rfl,rfl,trivial⟩,(hB.st h1).st s0,d0,h7,f0.st s0,g0.st s0,c0,j0⟩
  replace h0:=im h0 f3
  refine Bg rfl rfl rfl (Aj rfl rfl (Am rfl rfl (Aj rfl rfl (Am rfl rfl ?_))))
  obtain ⟨x5,k6,h0⟩:=bs h0
  refine AF (O:=w5) (A:=All u5) (R:=fun w' F v=>Vb w' F v x5) (Dl (fun _ h=>h) (Vb.mono (F:=Fr 0 u5 w5) j0 Fr.lt) k6) rfl rfl fun o8 p8 q8 e1 l6=>?_
  obtain rfl:=l6.bool
  cases x5
  case false =>
   replace h0:=iF h0
   refine Bg rfl rfl rfl (o_z ?_)
   obtain rfl:=sm h0
   exact ⟨(),_,⟨rfl,rfl,rfl,trivial⟩,((hB.st h1).st s0).st e1,d0.st e1,h7.st e1,(f0.st s0).st e1,(g0.st s0).st e1,c0.st e1,j0.st e1⟩
  replace h0:=iT h0
  refine Bg rfl rfl rfl (o_z ?_)
  obtain rfl:=sm h0
  exact ⟨(),_,⟨rfl,rfl,rfl,trivial⟩,((hB.st h1).st s0).st e1,d0.st e1,h7.st e1,(f0.st s0).st e1,(g0.st s0).st e1,c0.st e1,j0.st e1⟩
 replace hB:=(hB.st h1).st s0
 replace h7:=h7.st s0
 replace f0:=f0.st s0
 replace g0:=g0.st s0
 replace c0:=c0.st s0
 replace d0:=d0.st s0
 rintro r8 s8 ⟨h6,m6,g3,hB,d0,h7,f0,g0,c0,j0⟩
 refine AC _ g3 ?_
 refine CB rfl (fun h3=>?_) (fun h3=>?_)
 ·
  replace hm:=ip hm h3
  refine Ab (Aa (FL rfl rfl ?_))
  refine Al rfl rfl (o_z ?_)
  refine AB ?_
  obtain rfl:=sm hm
  exact ret1v rfl (Au rfl) ⟨hB.ext,(vErr (by decide))⟩
 replace hm:=im' hm h3
 refine AQ (Ab (Ab (Aa (AA rfl rfl (Aw (hc:=Blk.cell (i:=0) (d0.1) rfl) rfl rfl ?_)))))
 refine AT rfl rfl ?_
 have i3:x0.vars.length≤9223372036854775807:=Nat.le_trans h7.len.2.1 h7.len.2.2
 have t8:inI64 (x0.vars.length:Int):=rngNat i3
 refine Aj rfl rfl (o_z ?_)
 obtain ⟨e2,j3,hm⟩:=bs hm
 refine Ax (aft e2 (fun (z2:Unit) (a3:Unit)=>[(1,(.pointer (some ⟨y0,0,none⟩))),(3,(.slice c1 r0.length d1))]) (fun z2 a3 w'=>∃ O':Lab,Bs w A w' O'∧Lc 2 w' O' y0 26 [(.slice A8 x0.vars.length c9),(.slice t0 x0.init.length u0),(.slice v0 x0.goal.length w0),(.slice p0 x0.jobs.length q0)]∧Vb w' (Fr 0 w' O') (.slice A8 x0.vars.length c9) x0.vars∧Vb w' (Fr 0 w' O') (.slice t0 x0.init.length u0) x0.init∧Vb w' (Fr 0 w' O') (.slice v0 x0.goal.length w0) x0.goal∧Vb w' (Fr 0 w' O') (.slice p0 x0.jobs.length q0) x0.jobs∧Vb w' (Fr 0 w' O') (.slice c1 r0.length d1) r0)) ?_ ?_
 ·
  refine AN (Bn (σ:=Unit) (X:=Unit) (x0.vars.length) j3 rfl i3 (fun (z2:Unit) (a3:Unit)=>[(1,(.pointer (some ⟨y0,0,none⟩))),(3,(.slice c1 r0.length d1)),(28,(.slice A8 x0.vars.length c9))]) _ (fun z2 a3 w'=>∃ O':Lab,Bs w A w' O'∧Lc 2 w' O' y0 26 [(.slice A8 x0.vars.length c9),(.slice t0 x0.init.length u0),(.slice v0 x0.goal.length w0),(.slice p0 x0.jobs.length q0)]∧Vb w' (Fr 0 w' O') (.slice A8 x0.vars.length c9) x0.vars∧Vb w' (Fr 0 w' O') (.slice t0 x0.init.length u0) x0.init∧Vb w' (Fr 0 w' O') (.slice v0 x0.goal.length w0) x0.goal∧Vb w' (Fr 0 w' O') (.slice p0 x0.jobs.length q0) x0.jobs∧Vb w' (Fr 0 w' O') (.slice c1 r0.length d1) r0) _ () ⟨m6,hB,d0,h7,f0,g0,c0,j0⟩ ⟨rfl,rfl,rfl,rfl,rfl,trivial⟩ (fun _ _=>⟨rfl,rfl⟩) (fun _ _=>⟨rfl,rfl,trivial⟩) (fun _ _ _ ⟨O',hB,d0,h7,f0,g0,c0,j0⟩=>⟨O',hB,d0,h7,f0,g0,c0,j0⟩) ⟨rfl,rfl,rfl⟩ ⟨rfl,rfl⟩ ?_)
  rintro y5 u8 z2 a3 v8 n6 f2 ⟨w8,hB,d0,h7,f0,g0,c0,j0⟩ z0 q1 k3
  have rk61:inI64 (y5:Int):=rngK f2 i3
  refine Ab (Aa ?_)
  obtain ⟨x8,y8,o6,l3,m3,n3,rfl,z8⟩:=h7.elem' f2
  refine Bz (hA:=l3) (hj:=rfl) (hlt:=m3) rfl rfl rfl ?_
  refine Aw (hc:=cat0 n3) rfl rfl ?_
  refine Al rfl rfl (o_z ?_)
  refine Ab ?_
  obtain ⟨p6,o0,z0⟩:=bs z0
  refine Ax (fun l' w'=>∃ (q6:Unit) (O':Lab),subs l' [(1,(.pointer (some ⟨y0,0,none⟩))),(3,(.slice c1 r0.length d1)),(28,(.slice A8 x0.vars.length c9)),(29,(.int .i64 (x0.vars.length:Int))),(30,(.int .i64 (y5:Int))),(39,(.bool p6))]∧Bs w A w' O'∧Lc 2 w' O' y0 26 [(.slice A8 x0.vars.length c9),(.slice t0 x0.init.length u0),(.slice v0 x0.goal.length w0),(.slice p0 x0.jobs.length q0)]∧Vb w' (Fr 0 w' O') (.slice A8 x0.vars.length c9) x0.vars∧Vb w' (Fr 0 w' O') (.slice t0 x0.init.length u0) x0.init∧Vb w' (Fr 0 w' O') (.slice v0 x0.goal.length w0) x0.goal∧Vb w' (Fr 0 w' O') (.slice p0 x0.jobs.length q0) x0.jobs∧Vb w' (Fr 0 w' O') (.slice c1 r0.length d1) r0) ?_ ?_
  ·
   refine Aa (Aj rfl rfl (EB rfl rfl rfl (fun o3=>?_) fun o3=>?_))
   ·
    replace o0:=ip o0 o3
    refine Aj rfl rfl (Ak rfl rfl rfl rfl (Ak rfl rfl rfl rfl (Bv rfl rfl rfl (o_z ?_))))
    obtain rfl:=sm o0
    exact ⟨(),_,⟨rfl,rfl,rfl,rfl,rfl,rfl,trivial⟩,hB,d0,h7,f0,g0,c0,j0⟩
   replace o0:=im o0 o3
   refine Aj rfl rfl (Am rfl rfl (Aj rfl rfl (Am rfl rfl (CK rfl rfl rfl (fun p3=>?_) fun p3=>?_))))
   ·
    replace o0:=ip o0 p3
    refine Bg rfl rfl rfl (o_z ?_)
    obtain rfl:=sm o0
    exact ⟨(),_,⟨rfl,rfl,rfl,rfl,rfl,rfl,trivial⟩,hB,d0,h7,f0,g0,c0,j0⟩
   replace o0:=im o0 p3
   refine Bg rfl rfl rfl (o_z ?_)
   obtain rfl:=sm o0
   exact ⟨(),_,⟨rfl,rfl,rfl,rfl,rfl,rfl,trivial⟩,hB,d0,h7,f0,g0,c0,j0⟩
  rintro a9 b9 ⟨q6,d9,q3,hB,d0,h7,f0,g0,c0,j0⟩
  refine AC _ q3 ?_
  refine CB rfl (fun r3=>?_) (fun r3=>?_)
  ·
   replace z0:=ip z0 r3
   refine Ab (Aa (FL rfl rfl ?_))
   refine Al rfl rfl (o_z ?_)
   refine AB ?_
   obtain rfl:=sm z0
   obtain rfl:=q1 _ rfl
   obtain rfl:=sm (Cq hm)
   exact ret1v rfl (Au rfl) ⟨hB.ext,(vErr (by decide))⟩
  replace z0:=im' z0 r3
  refine AQ ?_
  obtain rfl:=sm z0
  exact show Exists _ from ⟨_,(),rfl,⟨rfl,rfl,rfl,rfl,rfl,trivial⟩,_,hB,d0,h7,f0,g0,c0,j0⟩
 rintro e9 f9 ⟨g9,h9,rfl,s3,r6,hB,d0,h7,f0,g0,c0,j0⟩
 replace hm:=AX hm
 refine AC _ s3 ?_
 refine Ab (Ab (Aa (AA rfl rfl (Aw (hc:=Blk.cell (i:=3) (d0.1) rfl) rfl rfl ?_))))
 refine AT rfl rfl ?_
 have t3:x0.jobs.length≤9223372036854775807:=Nat.le_trans c0.len.2.1 c0.len.2.2
 have i9:inI64 (x0.jobs.length:Int):=rngNat t3
 refine Aj rfl rfl (o_z ?_)
 obtain ⟨g2,h2,hm⟩:=bs hm
 refine Ax (aft g2 (fun (i1:Unit) (j1:Unit)=>[(1,(.pointer (some ⟨y0,0,none⟩))),(3,(.slice c1 r0.length d1))]) (fun i1 j1 w'=>∃ O':Lab,Bs w A w' O'∧Lc 2 w' O' y0 26 [(.slice A8 x0.vars.length c9),(.slice t0 x0.init.length u0),(.slice v0 x0.goal.length w0),(.slice p0 x0.jobs.length q0)]∧Vb w' (Fr 0 w' O') (.slice A8 x0.vars.length c9) x0.vars∧Vb w' (Fr 0 w' O') (.slice t0 x0.init.length u0) x0.init∧Vb w' (Fr 0 w' O') (.slice v0 x0.goal.length w0) x0.goal∧Vb w' (Fr 0 w' O') (.slice p0 x0.jobs.length q0) x0.jobs∧Vb w' (Fr 0 w' O') (.slice c1 r0.length d1) r0)) ?_ ?_
 ·
  refine AN (Bn (σ:=Unit) (X:=Unit) (x0.jobs.length) h2 rfl t3 (fun (i1:Unit) (j1:Unit)=>[(1,(.pointer (some ⟨y0,0,none⟩))),(3,(.slice c1 r0.length d1)),(43,(.slice p0 x0.jobs.length q0))]) _ (fun i1 j1 w'=>∃ O':Lab,Bs w A w' O'∧Lc 2 w' O' y0 26 [(.slice A8 x0.vars.length c9),(.slice t0 x0.init.length u0),(.slice v0 x0.goal.length w0),(.slice p0 x0.jobs.length q0)]∧Vb w' (Fr 0 w' O') (.slice A8 x0.vars.length c9) x0.vars∧Vb w' (Fr 0 w' O') (.slice t0 x0.init.length u0) x0.init∧Vb w' (Fr 0 w' O') (.slice v0 x0.goal.length w0) x0.goal∧Vb w' (Fr 0 w' O') (.slice p0 x0.jobs.length q0) x0.jobs∧Vb w' (Fr 0 w' O') (.slice c1 r0.length d1) r0) _ () ⟨r6,hB,d0,h7,f0,g0,c0,j0⟩ ⟨rfl,rfl,rfl,rfl,rfl,trivial⟩ (fun _ _=>⟨rfl,rfl⟩) (fun _ _=>⟨rfl,rfl,trivial⟩) (fun _ _ _ ⟨O',hB,d0,h7,f0,g0,c0,j0⟩=>⟨O',hB,d0,h7,f0,g0,c0,j0⟩) ⟨rfl,rfl,rfl⟩ ⟨rfl,rfl⟩ ?_)
  rintro i2 a1 i1 j1 s6 z5 o1 ⟨u3,hB,d0,h7,f0,g0,c0,j0⟩ l0 k1 b3
  have rk103:inI64 (i2:Int):=rngK o1 t3
  refine Ab (Aa ?_)
  obtain ⟨t6,u6,a6,j2,k2,l2,w6,x6,y6,z6,a7,rfl,w3,x3,y3,z3,a4,b7,c7⟩:=c0.elem' o1
  obtain ⟨b4,c4,rfl⟩:=w3.form
  obtain ⟨d4,e4,rfl⟩:=x3.form
  obtain ⟨f4,g4,rfl⟩:=y3.form
  obtain ⟨h4,i4,rfl⟩:=z3.form
  obtain ⟨j4,k4,rfl⟩:=a4.form
  refine Bz (hA:=j2) (hj:=rfl) (hlt:=k2) rfl rfl rfl ?_
  refine Bp (hl:=rfl) (hc:=l2) rfl rfl ?_
  refine AS 3 u3 rfl fun l4 d7 m4 a0 f1=>?_
  refine Ay f1 rfl rfl rfl (AJ rfl) (allOne rfl) fun n4 b0 f1=>?_
  replace f1:Lc 3 n4 m4 l4 66 [(.string a1.name),(.int .i64 a1.dur),(.slice b4 a1.start.length c4),(.slice d4 a1.over.length e4),(.slice f4 a1.fin.length g4),(.slice h4 a1.atStart.length i4),(.slice j4 a1.atEnd.length k4)]:=f1
  refine o_z ?_
  refine Ab ?_
  obtain ⟨o4,i0,l0⟩:=bs l0
  refine Ax (fun l' w'=>∃ (p4:Unit) (O':Lab),subs l' [(1,(.pointer (some ⟨y0,0,none⟩))),(3,(.slice c1 r0.length d1)),(43,(.slice p0 x0.jobs.length q0)),(44,(.int .i64 (x0.jobs.length:Int))),(45,(.int .i64 (i2:Int))),(56,(.bool o4))]∧Bs w A w' O'∧Lc 2 w' O' y0 26 [(.slice A8 x0.vars.length c9),(.slice t0 x0.init.length u0),(.slice v0 x0.goal.length w0),(.slice p0 x0.jobs.length q0)]∧Vb w' (Fr 0 w' O') (.slice A8 x0.vars.length c9) x0.vars∧Vb w' (Fr 0 w' O') (.slice t0 x0.init.length u0) x0.init∧Vb w' (Fr 0 w' O') (.slice v0 x0.goal.length w0) x0.goal∧Vb w' (Fr 0 w' O') (.slice p0 x0.jobs.length q0) x0.jobs∧Vb w' (Fr 0 w' O') (.slice c1 r0.length d1) r0) ?_ ?_
  ·
   refine Aa (AA rfl rfl (Aw (hc:=Blk.cell (i:=1) (f1.1) rfl) rfl rfl ?_))
   refine EB rfl rfl rfl (fun r1=>?_) fun r1=>?_
   ·
    replace i0:=ip i0 r1
    refine Aj rfl rfl (Ak rfl rfl rfl rfl (Ak rfl rfl rfl rfl (Ak rfl rfl rfl rfl (Bv rfl rfl rfl (o_z ?_)))))
    obtain rfl:=sm i0
    exact ⟨(),_,⟨rfl,rfl,rfl,rfl,rfl,rfl,trivial⟩,(hB.st a0).st b0,(d0.st a0).st b0,(h7.st a0).st b0,(f0.st a0).st b0,(g0.st a0).st b0,(c0.st a0).st b0,(j0.st a0).st b0⟩
   replace i0:=im i0 r1
   refine Aj rfl rfl (Am rfl rfl (AA rfl rfl (Am rfl rfl (Aw (hc:=Blk.cell (i:=1) (f1.1) rfl) rfl rfl ?_))))
   refine Am rfl rfl (CK rfl rfl rfl (fun s1=>?_) fun s1=>?_)
   ·
    replace i0:=ip i0 s1
    refine Bg rfl rfl rfl (o_z ?_)
    obtain rfl:=sm i0
    exact ⟨(),_,⟨rfl,rfl,rfl,rfl,rfl,rfl,trivial⟩,(hB.st a0).st b0,(d0.st a0).st b0,(h7.st a0).st b0,(f0.st a0).st b0,(g0.st a0).st b0,(c0.st a0).st b0,(j0.st a0).st b0⟩
   replace i0:=im i0 s1
   refine Bg rfl rfl rfl (o_z ?_)
   obtain rfl:=sm i0
   exact ⟨(),_,⟨rfl,rfl,rfl,rfl,rfl,rfl,trivial⟩,(hB.st a0).st b0,(d0.st a0).st b0,(h7.st a0).st b0,(f0.st a0).st b0,(g0.st a0).st b0,(c0.st a0).st b0,(j0.st a0).st b0⟩
  replace hB:=(hB.st a0).st b0
  replace h7:=(h7.st a0).st b0
  replace f0:=(f0.st a0).st b0
  replace g0:=(g0.st a0).st b0
  replace c0:=(c0.st a0).st b0
  replace d0:=(d0.st a0).st b0
  replace j0:=(j0.st a0).st b0
  rintro e7 f7 ⟨p4,g7,m2,hB,d0,h7,f0,g0,c0,j0⟩
  refine AC _ m2 ?_
  refine CB rfl (fun t1=>?_) (fun t1=>?_)
  ·
   replace l0:=ip l0 t1
   refine Ab (Aa (FL rfl rfl ?_))
   refine Al rfl rfl (o_z ?_)
   refine AB ?_
   obtain rfl:=sm l0
   obtain rfl:=k1 _ rfl
   obtain rfl:=sm (Cq hm)
   exact ret1v rfl (Au rfl) ⟨hB.ext,(vErr (by decide))⟩
  replace l0:=im' l0 t1
  refine AQ ?_
  obtain rfl:=sm l0
  exact show Exists _ from ⟨_,(),rfl,⟨rfl,rfl,rfl,rfl,rfl,trivial⟩,_,hB,d0,h7,f0,g0,c0,j0⟩
 rintro i7 u1 ⟨j7,k7,rfl,n2,v1,hB,d0,h7,f0,g0,c0,j0⟩
 replace hm:=AX hm
 refine AC _ n2 ?_
 refine Ab (Ab ?_)
 obtain ⟨q4,e0,hm⟩:=bs hm
 refine Ax (fun l' w'=>∃ (r4:Unit) (O':Lab),subs l' [(1,(.pointer (some ⟨y0,0,none⟩))),(69,(.bool q4))]∧Bs w A w' O'∧Lc 2 w' O' y0 26 [(.slice A8 x0.vars.length c9),(.slice t0 x0.init.length u0),(.slice v0 x0.goal.length w0),(.slice p0 x0.jobs.length q0)]∧Vb w' (Fr 0 w' O') (.slice A8 x0.vars.length c9) x0.vars∧Vb w' (Fr 0 w' O') (.slice t0 x0.init.length u0) x0.init∧Vb w' (Fr 0 w' O') (.slice v0 x0.goal.length w0) x0.goal∧Vb w' (Fr 0 w' O') (.slice p0 x0.jobs.length q0) x0.jobs) ?_ ?_
 ·
  refine Aa (AA rfl rfl (Aw (hc:=Blk.cell (i:=0) (d0.1) rfl) rfl rfl ?_))
  refine AA rfl rfl (Aw (hc:=Blk.cell (i:=1) (d0.1) rfl) rfl rfl ?_)
  obtain ⟨o2,s4,e0⟩:=bs e0
  refine AF (O:=v1) (A:=All u1) (R:=fun w' F v=>Vb w' F v o2) (Lk (fun _ h=>h) (Vb.mono (F:=Fr 0 u1 v1) h7 Fr.lt) (Vb.mono (F:=Fr 0 u1 v1) f0 Fr.lt) s4) rfl rfl fun l7 w1 x1 k0 t4=>?_
  obtain rfl:=t4.bool
  cases o2
  case false =>
   replace e0:=iF e0
   refine FC rfl rfl (Aj rfl rfl (Ak rfl rfl rfl rfl (Ak rfl rfl rfl rfl (Ak rfl rfl rfl rfl (Bv rfl rfl rfl (o_z ?_))))))
   obtain rfl:=sm e0
   exact ⟨(),_,⟨rfl,rfl,trivial⟩,hB.st k0,d0.st k0,h7.st k0,f0.st k0,g0.st k0,c0.st k0⟩
  replace e0:=iT e0
  refine FB rfl rfl (Aj rfl rfl (Am rfl rfl (Aj rfl rfl (Am rfl rfl (JP rfl rfl rfl (Am rfl rfl ?_))))))
  obtain ⟨p2,u4,e0⟩:=bs e0
  replace h7:=h7.st k0
  replace f0:=f0.st k0
  replace g0:=g0.st k0
  replace c0:=c0.st k0
  replace d0:=d0.st k0
  replace j0:=j0.st k0
  refine AF (O:=x1) (A:=All w1) (R:=fun w' F v=>Vb w' F v p2) (Dm (fun _ h=>h) (Vb.mono (F:=Fr 0 w1 x1) j0 Fr.lt) d0.1 d0.1.lt (Rp.mono (F:=Fr 0 w1 x1) (x:=x0) ⟨_,_,_,_,rfl,h7,f0,g0,c0⟩ Fr.lt) u4) rfl rfl fun m7 n7 o7 n0 w4=>?_
  obtain rfl:=w4.bool
  cases p2
  case false =>
   replace e0:=iF e0
   refine Bg rfl rfl rfl (o_z ?_)
   obtain rfl:=sm e0
   exact ⟨(),_,⟨rfl,rfl,trivial⟩,(hB.st k0).st n0,d0.st n0,h7.st n0,f0.st n0,g0.st n0,c0.st n0⟩
  replace e0:=iT e0
  refine Bg rfl rfl rfl (o_z ?_)
  obtain rfl:=sm e0
  exact ⟨(),_,⟨rfl,rfl,trivial⟩,(hB.st k0).st n0,d0.st n0,h7.st n0,f0.st n0,g0.st n0,c0.st n0⟩
 rintro p7 q7 ⟨r4,x4,q2,hB,d0,h7,f0,g0,c0⟩
 refine AC _ q2 ?_
 refine CB rfl (fun y1=>?_) (fun y1=>?_)
 ·
  replace hm:=ip hm y1
  refine Ab (Aa (FL rfl rfl ?_))
  refine Al rfl rfl (o_z ?_)
  refine AB ?_
  obtain rfl:=sm hm
  exact ret1v rfl (Au rfl) ⟨hB.ext,(vErr (by decide))⟩
 replace hm:=im' hm y1
 refine AQ (Ab (Ab (Aa (AA rfl rfl (Aw (hc:=Blk.cell (i:=3) (d0.1) rfl) rfl rfl ?_)))))
 refine AT rfl rfl ?_
 have z1:x0.jobs.length≤9223372036854775807:=Nat.le_trans c0.len.2.1 c0.len.2.2
 have r7:inI64 (x0.jobs.length:Int):=rngNat z1
 refine Aj rfl rfl (o_z ?_)
 obtain ⟨a2,r2,hm⟩:=bs hm
 refine Ax (aft a2 (fun (l1:Unit) (m1:Unit)=>[]) (fun l1 m1 w'=>∃ O':Lab,Bs w A w' O')) ?_ ?_
 ·
  refine AN (Bn (σ:=Unit) (X:=Unit) (x0.jobs.length) r2 rfl z1 (fun (l1:Unit) (m1:Unit)=>[(72,(.slice p0 x0.jobs.length q0))]) _ (fun l1 m1 w'=>∃ O':Lab,Bs w A w' O'∧Vb w' (Fr 0 w' O') (.slice p0 x0.jobs.length q0) x0.jobs) _ () ⟨x4,hB,c0⟩ ⟨rfl,rfl,rfl,trivial⟩ (fun _ _=>⟨rfl,rfl⟩) (fun _ _=>trivial) (fun _ _ _ ⟨O',hB,c0⟩=>⟨O',hB⟩) ⟨rfl,rfl,rfl⟩ ⟨rfl,rfl⟩ ?_)
  rintro y4 b1 l1 m1 s7 b6 p1 ⟨z4,hB,c0⟩ m0 n1 c3
  have rk196:inI64 (y4:Int):=rngK p1 z1
  refine Ab (Aa ?_)
  obtain ⟨t7,u7,c6,s2,t2,u2,v7,w7,x7,y7,z7,rfl,a5,b5,c5,d5,e5,f5,a8⟩:=c0.elem' p1
  obtain ⟨g5,h5,rfl⟩:=a5.form
  obtain ⟨i5,j5,rfl⟩:=b5.form
  obtain ⟨k5,l5,rfl⟩:=c5.form
  obtain ⟨m5,n5,rfl⟩:=d5.form
  obtain ⟨o5,p5,rfl⟩:=e5.form
  refine Bz (hA:=s2) (hj:=rfl) (hlt:=t2) rfl rfl rfl ?_
  refine Bp (hl:=rfl) (hc:=u2) rfl rfl ?_
  refine AS 4 z4 rfl fun q5 b8 v2 b2 g1=>?_
  refine Ay g1 rfl rfl rfl (AJ rfl) (allOne rfl) fun w2 c2 g1=>?_
  replace g1:Lc 4 w2 v2 q5 66 [(.string b1.name),(.int .i64 b1.dur),(.slice g5 b1.start.length h5),(.slice i5 b1.over.length j5),(.slice k5 b1.fin.length l5),(.slice m5 b1.atStart.length n5),(.slice o5 b1.atEnd.length p5)]:=g1
  refine o_z ?_
  refine Ab (Aa (AA rfl rfl (Aw (hc:=Blk.cell (i:=0) (g1.1) rfl) rfl rfl ?_)))
  obtain ⟨x2,r5,m0⟩:=bs m0
  refine AF (O:=v2) (A:=All w2) (R:=fun w' F v=>Vb w' F v x2) (JU (fun _ h=>h) f5 r5) rfl rfl fun c8 d8 e8 d2 s5=>?_
  obtain rfl:=s5.bool
  cases x2
  case false =>
   replace m0:=iF m0
   refine FC rfl rfl (o_z ?_)
   refine Ah rfl (Ab (Aa (FL rfl rfl ?_)))
   refine Al rfl rfl (o_z ?_)
   refine AB ?_
   obtain rfl:=sm m0
   obtain rfl:=n1 _ rfl
   obtain rfl:=sm (Cq hm)
   replace hB:=((hB.st b2).st c2).st d2
   exact ret1v rfl (Au rfl) ⟨hB.ext,(vErr (by decide))⟩
  replace m0:=iT m0
  refine FB rfl rfl (o_z ?_)
  refine Ae rfl (AQ ?_)
  obtain rfl:=sm m0
  exact show Exists _ from ⟨_,(),rfl,⟨rfl,rfl,rfl,trivial⟩,_,((hB.st b2).st c2).st d2,((c0.st b2).st c2).st d2⟩
 rintro f8 g8 ⟨h8,i8,rfl,y2,j8,hB⟩
 replace hm:=AX hm
 refine AC _ y2 ?_
 refine Ab (Aa (Al rfl rfl (o_z ?_)))
 refine AB ?_
 obtain rfl:=sm hm
 exact ret1v rfl (Au rfl) ⟨hB.ext,(vErr (show inI64 0 from by decide))⟩
noncomputable def Ds (x0:Tpl) (x1:List Lch):Option Err :=
  bnd (Cu x0) fun q27=>if q27.n≠0 then (some (⟨q27.n⟩:Err)) else (if 4096 < (x1.length:Int) then (some (⟨5⟩:Err)) else (bnd (rng (ρ:=Err) (fun (k45:Nat) (a46:Lch) (s43:Unit)=>bnd (if a46.job < 0 then (some true) else (if (x0.jobs.length:Int)≤a46.job then (some true) else (if a46.tm < 0 then (some true) else (if 1048576 < a46.tm then (some true) else (some false)))):Option Bool) fun y72=>if y72=true then (some (.ret (⟨1⟩:Err))) else (some (.next ()))) x1 0 ()) fun res41=>fin res41 fun (s91:Unit)=>some (⟨0⟩:Err)))
theorem Jr {w:World} {A:Nat→Prop} (hA:∀ k,A k→k < w.heap.size) {vx0:Value} {x0:Tpl} (c1:Vb w A vx0 x0) {vx1:Value} {x1:List Lch} (d0:Vb w A vx1 x1) {r:Err} (hm:Ds x0 x1=some r) :
    Fn Tryz.prog 70 [vx0,vx1] w fun v w'=>Ext w w'∧Vb w' (upA A w w') v r:=by
 obtain ⟨O,hB,u1⟩:=enter hA
 replace c1:=c1.mono u1
 obtain ⟨n2,rfl,v4,v5,v6,v7,rfl,h8,g0,h0,e0⟩:=c1
 obtain ⟨A9,n0,rfl⟩:=h8.form
 obtain ⟨o0,p0,rfl⟩:=g0.form
 obtain ⟨q0,r0,rfl⟩:=h0.form
 obtain ⟨s0,t0,rfl⟩:=e0.form
 replace d0:=d0.mono u1
 obtain ⟨y0,z0,rfl⟩:=d0.form
 refine AD Tryz.func70 rfl Tryz.ntmps70 rfl ?_
 unfold Ds at hm
 refine Ab (Aa (BX 2 O rfl rfl fun u0 d1 e1 k0 f0=>?_))
 replace f0:Lc 2 d1 e1 u0 26 [(.slice A9 x0.vars.length n0),(.slice o0 x0.init.length p0),(.slice q0 x0.goal.length r0),(.slice s0 x0.jobs.length t0)]:=f0
 refine Al rfl rfl (o_z ?_)
 refine Ab (Ab (Aa (Bp (hl:=rfl) (hc:=(f0.1).cellsAt) rfl rfl ?_)))
 obtain ⟨y1,z1,hm⟩:=bs hm
 replace h8:=h8.st k0
 replace g0:=g0.st k0
 replace h0:=h0.st k0
 replace e0:=e0.st k0
 refine AF (O:=e1) (A:=All d1) (R:=fun w' F v=>Vb w' F v y1) (Gi (fun _ h=>h) (Vb.mono (F:=Fr 0 d1 e1) (Vb.ofAgg (cs:=[(.slice A9 x0.vars.length n0),(.slice o0 x0.init.length p0),(.slice q0 x0.goal.length r0),(.slice s0 x0.jobs.length t0)]) (x:=x0) rfl ⟨_,_,_,_,rfl,h8,g0,h0,e0⟩) Fr.lt) z1) rfl rfl fun o2 p2 a2 j0 b2=>?_
 obtain ⟨rfl,c2⟩:=b2.err
 refine Al rfl rfl (o_z ?_)
 refine Ab (Aa (Aj rfl rfl (GP rfl rfl (fun f1=>?_) fun f1=>?_)))
 ·
  replace hm:=ip hm f1
  refine o_z ?_
  refine Ah rfl (Ab (Aa (Aj rfl rfl (Al rfl rfl (o_z ?_)))))
  refine AB ?_
  obtain rfl:=sm hm
  replace hB:=(hB.st k0).st j0
  exact ret1v rfl (Au rfl) ⟨hB.ext,(vErr c2)⟩
 replace hm:=im hm f1
 refine o_z ?_
 refine Ae rfl (AQ (Ab (Ab (Aa (Aj rfl rfl (AT rfl rfl ?_))))))
 replace d0:=(d0.st k0).st j0
 have d2:x1.length≤9223372036854775807:=Nat.le_trans d0.len.2.1 d0.len.2.2
 have q2:inI64 (x1.length:Int):=rngNat d2
 refine CK rfl rfl rfl (fun g1=>?_) fun g1=>?_
 ·
  replace hm:=ip hm g1
  refine o_z ?_
  refine Ah rfl (Ab (Aa (FL rfl rfl ?_)))
  refine Al rfl rfl (o_z ?_)
  refine AB ?_
  obtain rfl:=sm hm
  replace hB:=(hB.st k0).st j0
  exact ret1v rfl (Au rfl) ⟨hB.ext,(vErr (by decide))⟩
 replace hm:=im hm g1
 refine o_z ?_
 refine Ae rfl (AQ (Ab (Ab (Aa (Aj rfl rfl (AT rfl rfl ?_))))))
 have h1:x1.length≤9223372036854775807:=Nat.le_trans d0.len.2.1 d0.len.2.2
 have r2:inI64 (x1.length:Int):=rngNat h1
 refine Aj rfl rfl (o_z ?_)
 obtain ⟨v0,i1,hm⟩:=bs hm
 refine Ax (aft v0 (fun (a1:Unit) (b1:Unit)=>[]) (fun a1 b1 w'=>∃ O':Lab,Bs w A w' O')) ?_ ?_
 ·
  refine AN ?_
  replace hB:=(hB.st k0).st j0
  replace h8:=h8.st j0
  replace g0:=g0.st j0
  replace h0:=h0.st j0
  replace e0:=e0.st j0
  replace f0:=f0.st j0
  refine Bn (σ:=Unit) (X:=Unit) (x1.length) i1 rfl h1 (fun (a1:Unit) (b1:Unit)=>[(2,(.pointer (some ⟨u0,0,none⟩))),(17,(.slice y0 x1.length z0))]) _ (fun a1 b1 w'=>∃ O':Lab,Bs w A w' O'∧Lc 2 w' O' u0 26 [(.slice A9 x0.vars.length n0),(.slice o0 x0.init.length p0),(.slice q0 x0.goal.length r0),(.slice s0 x0.jobs.length t0)]∧Vb w' (Fr 0 w' O') (.slice A9 x0.vars.length n0) x0.vars∧Vb w' (Fr 0 w' O') (.slice o0 x0.init.length p0) x0.init∧Vb w' (Fr 0 w' O') (.slice q0 x0.goal.length r0) x0.goal∧Vb w' (Fr 0 w' O') (.slice s0 x0.jobs.length t0) x0.jobs∧Vb w' (Fr 0 w' O') (.slice y0 x1.length z0) x1) _ () ⟨a2,hB,f0,h8,g0,h0,e0,d0⟩ ⟨rfl,rfl,rfl,rfl,trivial⟩ (fun _ _=>⟨rfl,rfl⟩) (fun _ _=>trivial) (fun _ _ _ ⟨O',hB,f0,h8,g0,h0,e0,d0⟩=>⟨O',hB⟩) ⟨rfl,rfl,rfl⟩ ⟨rfl,rfl⟩ ?_
  rintro v1 w1 a1 b1 s2 e2 w0 ⟨f2,hB,f0,h8,g0,h0,e0,d0⟩ i0 m0 j1
  have rk45:inI64 (v1:Int):=rngK w0 h1
  refine Ab (Aa ?_)
  obtain ⟨t2,u2,g2,k1,l1,m1,rfl,v2,w2⟩:=d0.elem' w0
  refine Bz (hA:=k1) (hj:=rfl) (hlt:=l1) rfl rfl rfl ?_
  refine Bp (hl:=rfl) (hc:=m1) rfl rfl ?_
  refine AS 3 f2 rfl fun h2 x2 i2 b0 l0=>?_
  refine Ay l0 rfl rfl rfl (AJ rfl) (allOne rfl) fun j2 c0 l0=>?_
  replace l0:Lc 3 j2 i2 h2 52 [(.int .i64 w1.tm),(.int .i64 w1.job)]:=l0
  refine o_z ?_
  refine Ab ?_
  obtain ⟨k2,a0,i0⟩:=bs i0
  refine Ax (fun l' w'=>∃ (l2:Unit) (O':Lab),subs l' [(2,(.pointer (some ⟨u0,0,none⟩))),(17,(.slice y0 x1.length z0)),(18,(.int .i64 (x1.length:Int))),(19,(.int .i64 (v1:Int))),(43,(.bool k2))]∧Bs w A w' O'∧Lc 2 w' O' u0 26 [(.slice A9 x0.vars.length n0),(.slice o0 x0.init.length p0),(.slice q0 x0.goal.length r0),(.slice s0 x0.jobs.length t0)]∧Vb w' (Fr 0 w' O') (.slice A9 x0.vars.length n0) x0.vars∧Vb w' (Fr 0 w' O') (.slice o0 x0.init.length p0) x0.init∧Vb w' (Fr 0 w' O') (.slice q0 x0.goal.length r0) x0.goal∧Vb w' (Fr 0 w' O') (.slice s0 x0.jobs.length t0) x0.jobs∧Vb w' (Fr 0 w' O') (.slice y0 x1.length z0) x1) ?_ ?_
  ·
   refine Aa (AA rfl rfl (Aw (hc:=Blk.cell (i:=1) (l0.1) rfl) rfl rfl ?_))
   refine EB rfl rfl rfl (fun n1=>?_) fun n1=>?_
   ·
    replace a0:=ip a0 n1
    refine Aj rfl rfl (Ak rfl rfl rfl rfl (Ak rfl rfl rfl rfl (Ak rfl rfl rfl rfl (Ak rfl rfl rfl rfl (Ak rfl rfl rfl rfl (Ak rfl rfl rfl rfl (Bv rfl rfl rfl (Aj rfl rfl (Ak rfl rfl rfl rfl (Ak rfl rfl rfl rfl (Ak rfl rfl rfl rfl (Bv rfl rfl rfl (Aj rfl rfl (Ak rfl rfl rfl rfl ?_))))))))))))))
    refine Ak rfl rfl rfl rfl (Ak rfl rfl rfl rfl (Bv rfl rfl rfl (o_z ?_)))
    obtain rfl:=sm a0
    exact ⟨(),_,⟨rfl,rfl,rfl,rfl,rfl,trivial⟩,(hB.st b0).st c0,(f0.st b0).st c0,(h8.st b0).st c0,(g0.st b0).st c0,(h0.st b0).st c0,(e0.st b0).st c0,(d0.st b0).st c0⟩
   replace a0:=im a0 n1
   refine Aj rfl rfl (Am rfl rfl (AA rfl rfl (Am rfl rfl (Aw (hc:=Blk.cell (i:=1) (l0.1) rfl) rfl rfl ?_))))
   refine Am rfl rfl (AA rfl rfl (Am rfl rfl ?_))
   replace f0:=(f0.st b0).st c0
   refine Aw (hc:=Blk.cell (i:=3) (f0.1) rfl) rfl rfl ?_
   refine Am rfl rfl (AT rfl rfl ?_)
   replace e0:=(e0.st b0).st c0
   have m2:x0.jobs.length≤9223372036854775807:=Nat.le_trans e0.len.2.1 e0.len.2.2
   have y2:inI64 (x0.jobs.length:Int):=rngNat m2
   refine Am rfl rfl (EM rfl rfl rfl (fun o1=>?_) fun o1=>?_)
   ·
    replace a0:=ip a0 o1
    refine Bg rfl rfl rfl (Aj rfl rfl (Ak rfl rfl rfl rfl (Ak rfl rfl rfl rfl (Ak rfl rfl rfl rfl (Bv rfl rfl rfl (Aj rfl rfl (Ak rfl rfl rfl rfl (Ak rfl rfl rfl rfl (Ak rfl rfl rfl rfl (Bv rfl rfl rfl (o_z ?_)))))))))))
    obtain rfl:=sm a0
    exact ⟨(),_,⟨rfl,rfl,rfl,rfl,rfl,trivial⟩,(hB.st b0).st c0,f0,(h8.st b0).st c0,(g0.st b0).st c0,(h0.st b0).st c0,e0,(d0.st b0).st c0⟩
   replace a0:=im a0 o1
   refine Bg rfl rfl rfl (Aj rfl rfl (Am rfl rfl (AA rfl rfl (Am rfl rfl (Aw (hc:=Blk.cell (i:=0) (l0.1) rfl) rfl rfl ?_)))))
   refine Am rfl rfl (EB rfl rfl rfl (fun p1=>?_) fun p1=>?_)
   ·
    replace a0:=ip a0 p1
    refine Bg rfl rfl rfl (Aj rfl rfl (Ak rfl rfl rfl rfl (Ak rfl rfl rfl rfl (Ak rfl rfl rfl rfl (Bv rfl rfl rfl (o_z ?_))))))
    obtain rfl:=sm a0
    exact ⟨(),_,⟨rfl,rfl,rfl,rfl,rfl,trivial⟩,(hB.st b0).st c0,f0,(h8.st b0).st c0,(g0.st b0).st c0,(h0.st b0).st c0,e0,(d0.st b0).st c0⟩
   replace a0:=im a0 p1
   refine Bg rfl rfl rfl (Aj rfl rfl (Am rfl rfl (AA rfl rfl (Am rfl rfl (Aw (hc:=Blk.cell (i:=0) (l0.1) rfl) rfl rfl ?_)))))
   refine Am rfl rfl (CK rfl rfl rfl (fun q1=>?_) fun q1=>?_)
   ·
    replace a0:=ip a0 q1
    refine Bg rfl rfl rfl (o_z ?_)
    obtain rfl:=sm a0
    exact ⟨(),_,⟨rfl,rfl,rfl,rfl,rfl,trivial⟩,(hB.st b0).st c0,f0,(h8.st b0).st c0,(g0.st b0).st c0,(h0.st b0).st c0,e0,(d0.st b0).st c0⟩
   replace a0:=im a0 q1
   refine Bg rfl rfl rfl (o_z ?_)
   obtain rfl:=sm a0
   exact ⟨(),_,⟨rfl,rfl,rfl,rfl,rfl,trivial⟩,(hB.st b0).st c0,f0,(h8.st b0).st c0,(g0.st b0).st c0,(h0.st b0).st c0,e0,(d0.st b0).st c0⟩
  replace hB:=(hB.st b0).st c0
  replace d0:=(d0.st b0).st c0
  replace h8:=(h8.st b0).st c0
  replace g0:=(g0.st b0).st c0
  replace h0:=(h0.st b0).st c0
  replace e0:=(e0.st b0).st c0
  replace f0:=(f0.st b0).st c0
  rintro z2 a3 ⟨l2,b3,r1,hB,f0,h8,g0,h0,e0,d0⟩
  refine AC _ r1 ?_
  refine CB rfl (fun s1=>?_) (fun s1=>?_)
  ·
   replace i0:=ip i0 s1
   refine Ab (Aa (FL rfl rfl ?_))
   refine Al rfl rfl (o_z ?_)
   refine AB ?_
   obtain rfl:=sm i0
   obtain rfl:=m0 _ rfl
   obtain rfl:=sm (Cq hm)
   exact ret1v rfl (Au rfl) ⟨hB.ext,(vErr (by decide))⟩
  replace i0:=im' i0 s1
  refine AQ ?_
  obtain rfl:=sm i0
  exact show Exists _ from ⟨_,(),rfl,⟨rfl,rfl,rfl,rfl,trivial⟩,_,hB,f0,h8,g0,h0,e0,d0⟩
 replace hB:=(hB.st k0).st j0
 rintro c3 d3 ⟨e3,f3,rfl,t1,g3,hB⟩
 replace hm:=AX hm
 refine AC _ t1 ?_
 refine Ab (Aa (Al rfl rfl (o_z ?_)))
 refine AB ?_
 obtain rfl:=sm hm
 exact ret1v rfl (Au rfl) ⟨hB.ext,(vErr (show inI64 0 from by decide))⟩
noncomputable def CY (x0:Tpl) (x1:Lch):Option Int :=
  bnd (atI x0.jobs x1.job) fun a33=>bnd (chkI (x1.tm + a33.dur)) fun n66=>some n66
theorem CZ {w:World} {A:Nat→Prop} (hA:∀ k,A k→k < w.heap.size) {vx0:Value} {x0:Tpl} (d0:Vb w A vx0 x0) {vx1:Value} {x1:Lch} (e0:Vb w A vx1 x1) {r:Int} (hm:CY x0 x1=some r) :
    Fn Tryz.prog 116 [vx0,vx1] w fun v w'=>Ext w w'∧Vb w' (upA A w w') v r:=by
 obtain ⟨O,hB,j0⟩:=enter hA
 replace d0:=d0.mono j0
 obtain ⟨n1,rfl,v4,v5,v6,v7,rfl,h8,o0,p0,b0⟩:=d0
 obtain ⟨A9,q0,rfl⟩:=h8.form
 obtain ⟨r0,s0,rfl⟩:=o0.form
 obtain ⟨t0,u0,rfl⟩:=p0.form
 obtain ⟨v0,w0,rfl⟩:=b0.form
 replace e0:=e0.mono j0
 obtain ⟨y0,rfl,rfl,o1,p1⟩:=e0
 refine AD Tryz.func116 rfl Tryz.ntmps116 rfl ?_
 unfold CY at hm
 refine Ab (Aa (BX 2 O rfl rfl fun z0 a1 k0 l0 a0=>?_))
 replace a0:Lc 2 a1 k0 z0 26 [(.slice A9 x0.vars.length q0),(.slice r0 x0.init.length s0),(.slice t0 x0.goal.length u0),(.slice v0 x0.jobs.length w0)]:=a0
 refine BX 3 k0 rfl rfl fun b1 m0 c1 f0 c0=>?_
 replace c0:Lc 3 m0 c1 b1 52 [(.int .i64 x1.tm),(.int .i64 x1.job)]:=c0
 refine Al rfl rfl (o_z ?_)
 refine Ab (GG (·=m0) [(0,true),(1,true),(2,true),(3,true),(4,true),(5,true),(6,true),(7,true),(8,true),(9,true),(10,true)] (by kernel_rfl) rfl (by kernel_rfl) rfl ?_)
 refine Ba rfl rfl rfl (Gb (hc:=Blk.cell (i:=0) (c0.1) rfl) rfl rfl rfl ?_)
 refine Ba rfl rfl rfl ?_
 replace a0:=a0.st f0
 refine Gb (hc:=Blk.cell (i:=3) (a0.1) rfl) rfl rfl rfl ?_
 refine Ba rfl rfl rfl (Gb (hc:=Blk.cell (i:=1) (c0.1) rfl) rfl rfl rfl ?_)
 obtain ⟨q1,d1,hm⟩:=bs hm
 obtain ⟨e1,f1⟩:=CX d1
 replace b0:=(b0.st l0).st f0
 obtain ⟨r1,s1,g1,g0,h0,i0,t1,u1,v1,w1,y1,rfl,h1,i1,j1,k1,l1,z1,a2⟩:=b0.elem' f1
 obtain ⟨b2,c2,rfl⟩:=h1.form
 obtain ⟨d2,e2,rfl⟩:=i1.form
 obtain ⟨f2,g2,rfl⟩:=j1.form
 obtain ⟨h2,i2,rfl⟩:=k1.form
 obtain ⟨j2,k2,rfl⟩:=l1.form
 refine Gd (hA:=g0) (hj:=(Int.toNat_of_nonneg e1).symm) (hlt:=h0) rfl rfl rfl rfl ?_
 refine Ba rfl rfl rfl (Gb (hc:=cat1 i0) rfl rfl rfl ?_)
 obtain ⟨l2,n0,hm⟩:=bs hm
 have m1:=(Bw n0)
 refine Ks (he:=n0) rfl rfl rfl rfl ?_
 refine KK rfl rfl rfl (h_z ?_)
 refine AB ?_
 obtain rfl:=sm hm
 replace hB:=(hB.st l0).st f0
 exact ret1v rfl (Au rfl) ⟨hB.ext,(vInt m1)⟩
noncomputable def DF (x0:Tpl) (x1:List Lch) (x2:Int):Option Bool :=
  bnd (rng (ρ:=Bool) (fun (k34:Nat) (a35:Lch) (s32:Unit)=>if a35.tm≠x2 then (some (.next ())) else (bnd (rng (ρ:=Ctl Unit Bool) (fun (k68:Nat) (a69:Lch) (s66:Unit)=>bnd (if (k34:Int)≠(k68:Int) then (if a35.job=a69.job then (if a69.tm≤x2 then (bnd (CY x0 a69) fun q102=>if x2≤q102 then (some true) else (some false)) else (some false)) else (some false)) else (some false):Option Bool) fun y95=>if y95=true then (some (.ret (.ret true))) else (some (.next ()))) x1 0 ()) fun res64=>fin res64 fun (s120:Unit)=>some (.next ()))) x1 0 ()) fun res30=>fin res30 fun (s126:Unit)=>some false
theorem IL {w:World} {A:Nat→Prop} (hA:∀ k,A k→k < w.heap.size) {vx0:Value} {x0:Tpl} (a2:Vb w A vx0 x0) {vx1:Value} {x1:List Lch} (e0:Vb w A vx1 x1) {x2:Int} (rx2:inI64 x2) {r:Bool} (hm:DF x0 x1 x2=some r) :
    Fn Tryz.prog 118 [vx0,vx1,(.int .i64 x2)] w fun v w'=>Ext w w'∧Vb w' (upA A w w') v r:=by
 obtain ⟨O,hB,s2⟩:=enter hA
 replace a2:=a2.mono s2
 obtain ⟨b4,rfl,v5,v6,v7,v8,rfl,h9,f0,g0,h0⟩:=a2
 obtain ⟨r0,s0,rfl⟩:=h9.form
 obtain ⟨t0,u0,rfl⟩:=f0.form
 obtain ⟨v0,w0,rfl⟩:=g0.form
 obtain ⟨y0,z0,rfl⟩:=h0.form
 replace e0:=e0.mono s2
 obtain ⟨p0,q0,rfl⟩:=e0.form
 refine AD Tryz.func118 rfl Tryz.ntmps118 rfl ?_
 unfold DF at hm
 refine Ab (Aa (BX 2 O rfl rfl fun a1 w2 t2 b1 i0=>?_))
 replace i0:Lc 2 w2 t2 a1 26 [(.slice r0 x0.vars.length s0),(.slice t0 x0.init.length u0),(.slice v0 x0.goal.length w0),(.slice y0 x0.jobs.length z0)]:=i0
 refine Al rfl rfl (o_z ?_)
 refine Ab (Ab (Aa (Aj rfl rfl (AT rfl rfl ?_))))
 replace e0:=e0.st b1
 have b2:x1.length≤9223372036854775807:=Nat.le_trans e0.len.2.1 e0.len.2.2
 have c4:inI64 (x1.length:Int):=rngNat b2
 refine Aj rfl rfl (o_z ?_)
 obtain ⟨l1,c2,hm⟩:=bs hm
 refine Ax (aft l1 (fun (t1:Unit) (u1:Unit)=>[]) (fun t1 u1 w'=>∃ O':Lab,Bs w A w' O')) ?_ ?_
 ·
  refine AN ?_
  replace hB:=hB.st b1
  replace h9:=h9.st b1
  replace f0:=f0.st b1
  replace g0:=g0.st b1
  replace h0:=h0.st b1
  refine Bn (σ:=Unit) (X:=Unit) (x1.length) c2 rfl b2 (fun (t1:Unit) (u1:Unit)=>[(1,(.slice p0 x1.length q0)),(2,(.int .i64 x2)),(3,(.pointer (some ⟨a1,0,none⟩))),(11,(.slice p0 x1.length q0))]) _ (fun t1 u1 w'=>∃ O':Lab,Bs w A w' O'∧Vb w' (Fr 0 w' O') (.slice p0 x1.length q0) x1∧Lc 2 w' O' a1 26 [(.slice r0 x0.vars.length s0),(.slice t0 x0.init.length u0),(.slice v0 x0.goal.length w0),(.slice y0 x0.jobs.length z0)]∧Vb w' (Fr 0 w' O') (.slice r0 x0.vars.length s0) x0.vars∧Vb w' (Fr 0 w' O') (.slice t0 x0.init.length u0) x0.init∧Vb w' (Fr 0 w' O') (.slice v0 x0.goal.length w0) x0.goal∧Vb w' (Fr 0 w' O') (.slice y0 x0.jobs.length z0) x0.jobs) _ () ⟨t2,hB,e0,i0,h9,f0,g0,h0⟩ ⟨rfl,rfl,rfl,rfl,rfl,rfl,trivial⟩ (fun _ _=>⟨rfl,rfl⟩) (fun _ _=>trivial) (fun _ _ _ ⟨O',hB,e0,i0,h9,f0,g0,h0⟩=>⟨O',hB⟩) ⟨rfl,rfl,rfl⟩ ⟨rfl,rfl⟩ ?_
  rintro j1 k1 t1 u1 d4 y2 m1 ⟨z2,hB,e0,i0,h9,f0,g0,h0⟩ j0 c1 d2
  have rk34:inI64 (j1:Int):=rngK m1 b2
  refine Ab (Aa (Aj rfl rfl ?_))
  obtain ⟨e4,f4,a3,e2,f2,g2,rfl,g4,h4⟩:=e0.elem' m1
  refine Bz (hA:=e2) (hj:=rfl) (hlt:=f2) rfl rfl rfl ?_
  refine Bp (hl:=rfl) (hc:=g2) rfl rfl ?_
  refine AS 3 z2 rfl fun n1 i4 u2 k0 l0=>?_
  refine Al rfl rfl (Ay l0 rfl rfl rfl (AJ rfl) (allOne rfl) fun b3 m0 l0=>?_)
  replace l0:Lc 3 b3 u2 n1 52 [(.int .i64 k1.tm),(.int .i64 k1.job)]:=l0
  refine o_z ?_
  refine Ab (Ab (Aa (AA rfl rfl (Aw (hc:=Blk.cell (i:=0) (l0.1) rfl) rfl rfl ?_))))
  refine Aj rfl rfl (MF rfl rfl rfl (fun h2=>?_) fun h2=>?_)
  ·
   replace j0:=ip j0 h2
   refine o_z ?_
   refine Ah rfl (Hr ?_)
   obtain rfl:=sm j0
   exact show Exists _ from ⟨_,(),rfl,⟨rfl,rfl,rfl,rfl,rfl,rfl,trivial⟩,_,(hB.st k0).st m0,(e0.st k0).st m0,(i0.st k0).st m0,(h9.st k0).st m0,(f0.st k0).st m0,(g0.st k0).st m0,(h0.st k0).st m0⟩
  replace j0:=im j0 h2
  refine o_z ?_
  refine Ae rfl (AQ (Ab (Aa (Aj rfl rfl (AT rfl rfl ?_)))))
  replace e0:=(e0.st k0).st m0
  have i2:x1.length≤9223372036854775807:=Nat.le_trans e0.len.2.1 e0.len.2.2
  have j4:inI64 (x1.length:Int):=rngNat i2
  refine Aj rfl rfl (o_z ?_)
  obtain ⟨o1,j2,j0⟩:=bs j0
  refine Ax (aft o1 (fun (v1:Unit) (w1:Unit)=>[(1,(.slice p0 x1.length q0)),(2,(.int .i64 x2)),(3,(.pointer (some ⟨a1,0,none⟩))),(11,(.slice p0 x1.length q0)),(12,(.int .i64 (x1.length:Int))),(13,(.int .i64 (j1:Int)))]) (fun v1 w1 w'=>∃ O':Lab,Bs w A w' O'∧Vb w' (Fr 0 w' O') (.slice p0 x1.length q0) x1∧Lc 2 w' O' a1 26 [(.slice r0 x0.vars.length s0),(.slice t0 x0.init.length u0),(.slice v0 x0.goal.length w0),(.slice y0 x0.jobs.length z0)]∧Vb w' (Fr 0 w' O') (.slice r0 x0.vars.length s0) x0.vars∧Vb w' (Fr 0 w' O') (.slice t0 x0.init.length u0) x0.init∧Vb w' (Fr 0 w' O') (.slice v0 x0.goal.length w0) x0.goal∧Vb w' (Fr 0 w' O') (.slice y0 x0.jobs.length z0) x0.jobs)) ?_ ?_
  ·
   refine AN ?_
   replace hB:=(hB.st k0).st m0
   replace h9:=(h9.st k0).st m0
   replace f0:=(f0.st k0).st m0
   replace g0:=(g0.st k0).st m0
   replace h0:=(h0.st k0).st m0
   replace i0:=(i0.st k0).st m0
   refine Bn (σ:=Unit) (X:=Unit) (x1.length) j2 rfl i2 (fun (v1:Unit) (w1:Unit)=>[(1,(.slice p0 x1.length q0)),(2,(.int .i64 x2)),(3,(.pointer (some ⟨a1,0,none⟩))),(7,(.int .i64 (j1:Int))),(8,(.pointer (some ⟨n1,0,none⟩))),(11,(.slice p0 x1.length q0)),(12,(.int .i64 (x1.length:Int))),(13,(.int .i64 (j1:Int))),(22,(.slice p0 x1.length q0))]) _ (fun v1 w1 w'=>∃ O':Lab,Bs w A w' O'∧Vb w' (Fr 0 w' O') (.slice p0 x1.length q0) x1∧Lc 2 w' O' a1 26 [(.slice r0 x0.vars.length s0),(.slice t0 x0.init.length u0),(.slice v0 x0.goal.length w0),(.slice y0 x0.jobs.length z0)]∧Vb w' (Fr 0 w' O') (.slice r0 x0.vars.length s0) x0.vars∧Vb w' (Fr 0 w' O') (.slice t0 x0.init.length u0) x0.init∧Vb w' (Fr 0 w' O') (.slice v0 x0.goal.length w0) x0.goal∧Vb w' (Fr 0 w' O') (.slice y0 x0.jobs.length z0) x0.jobs∧Lc 3 w' O' n1 52 [(.int .i64 k1.tm),(.int .i64 k1.job)]) _ () ⟨u2,hB,e0,i0,h9,f0,g0,h0,l0⟩ ⟨rfl,rfl,rfl,rfl,rfl,rfl,rfl,rfl,rfl,rfl,rfl,trivial⟩ (fun _ _=>⟨rfl,rfl⟩) (fun _ _=>⟨rfl,rfl,rfl,rfl,rfl,rfl,trivial⟩) (fun _ _ _ ⟨O',hB,e0,i0,h9,f0,g0,h0,l0⟩=>⟨O',hB,e0,i0,h9,f0,g0,h0⟩) ⟨rfl,rfl,rfl⟩ ⟨rfl,rfl⟩ ?_
   rintro v2 p1 v1 w1 k4 c3 q1 ⟨d3,hB,e0,i0,h9,f0,g0,h0,l0⟩ o0 d1 k2
   have rk68:inI64 (v2:Int):=rngK q1 i2
   refine Ab (Aa (Aj rfl rfl ?_))
   obtain ⟨l4,m4,e3,l2,m2,n2,rfl,f3,g3⟩:=e0.elem' q1
   refine Bz (hA:=l2) (hj:=rfl) (hlt:=m2) rfl rfl rfl ?_
   refine Bp (hl:=rfl) (hc:=n2) rfl rfl ?_
   refine AS 4 d3 rfl fun h3 n4 y1 b0 e1=>?_
   refine Al rfl rfl (Ay e1 rfl rfl rfl (AJ rfl) (allOne rfl) fun z1 c0 e1=>?_)
   replace e1:Lc 4 z1 y1 h3 52 [(.int .i64 p1.tm),(.int .i64 p1.job)]:=e1
   refine o_z ?_
   refine Ab ?_
   obtain ⟨i3,a0,o0⟩:=bs o0
   refine Ax (fun l' w'=>∃ (j3:Unit) (O':Lab),subs l' [(1,(.slice p0 x1.length q0)),(2,(.int .i64 x2)),(3,(.pointer (some ⟨a1,0,none⟩))),(7,(.int .i64 (j1:Int))),(8,(.pointer (some ⟨n1,0,none⟩))),(11,(.slice p0 x1.length q0)),(12,(.int .i64 (x1.length:Int))),(13,(.int .i64 (j1:Int))),(22,(.slice p0 x1.length q0)),(23,(.int .i64 (x1.length:Int))),(24,(.int .i64 (v2:Int))),(51,(.bool i3))]∧Bs w A w' O'∧Vb w' (Fr 0 w' O') (.slice p0 x1.length q0) x1∧Lc 2 w' O' a1 26 [(.slice r0 x0.vars.length s0),(.slice t0 x0.init.length u0),(.slice v0 x0.goal.length w0),(.slice y0 x0.jobs.length z0)]∧Vb w' (Fr 0 w' O') (.slice r0 x0.vars.length s0) x0.vars∧Vb w' (Fr 0 w' O') (.slice t0 x0.init.length u0) x0.init∧Vb w' (Fr 0 w' O') (.slice v0 x0.goal.length w0) x0.goal∧Vb w' (Fr 0 w' O') (.slice y0 x0.jobs.length z0) x0.jobs∧Lc 3 w' O' n1 52 [(.int .i64 k1.tm),(.int .i64 k1.job)]) ?_ ?_
   ·
    refine Aa (Aj rfl rfl (Aj rfl rfl (MF rfl rfl rfl (fun o2=>?_) fun o2=>?_)))
    ·
     replace a0:=ip a0 o2
     refine Aj rfl rfl (Am rfl rfl (AA rfl rfl (Am rfl rfl ?_)))
     replace l0:=(l0.st b0).st c0
     refine Aw (hc:=Blk.cell (i:=1) (l0.1) rfl) rfl rfl ?_
     refine Am rfl rfl (AA rfl rfl (Am rfl rfl (Aw (hc:=Blk.cell (i:=1) (e1.1) rfl) rfl rfl ?_)))
     refine Am rfl rfl (Ga rfl rfl rfl (fun f1=>?_) fun f1=>?_)
     ·
      replace a0:=ip a0 f1
      refine Bv rfl rfl rfl (Aj rfl rfl (Am rfl rfl (AA rfl rfl (Am rfl rfl (Aw (hc:=Blk.cell (i:=0) (e1.1) rfl) rfl rfl ?_)))))
      refine Am rfl rfl (Aj rfl rfl (Am rfl rfl (Kj rfl rfl rfl (fun g1=>?_) fun g1=>?_)))
      ·
       replace a0:=ip a0 g1
       refine Bv rfl rfl rfl (Aj rfl rfl (Am rfl rfl (Aj rfl rfl (Am rfl rfl ?_))))
       replace i0:=(i0.st b0).st c0
       refine Bp (hl:=rfl) (hc:=(i0.1).cellsAt) rfl rfl ?_
       refine Am rfl rfl (Bp (hl:=rfl) (hc:=(e1.1).cellsAt) rfl rfl ?_)
       refine Am rfl rfl ?_
       obtain ⟨p2,q2,a0⟩:=bs a0
       replace h9:=(h9.st b0).st c0
       replace f0:=(f0.st b0).st c0
       replace g0:=(g0.st b0).st c0
       replace h0:=(h0.st b0).st c0
       refine AF (O:=y1) (A:=All z1) (R:=fun w' F v=>Vb w' F v p2) (CZ (fun _ h=>h) (Vb.mono (F:=Fr 0 z1 y1) (Vb.ofAgg (cs:=[(.slice r0 x0.vars.length s0),(.slice t0 x0.init.length u0),(.slice v0 x0.goal.length w0),(.slice y0 x0.jobs.length z0)]) (x:=x0) rfl ⟨_,_,_,_,rfl,h9,f0,g0,h0⟩) Fr.lt) (Vb.mono (F:=Fr 0 z1 y1) (Vb.ofAgg (cs:=[(.int .i64 p1.tm),(.int .i64 p1.job)]) (x:=p1) rfl ⟨rfl,f3,g3⟩) Fr.lt) q2) rfl rfl fun k3 l3 m3 d0 r2=>?_
       obtain ⟨rfl,n3⟩:=r2.int
       refine Am rfl rfl (Kj rfl rfl rfl (fun h1=>?_) fun h1=>?_)
       ·
        replace a0:=ip a0 h1
        refine Bv rfl rfl rfl (o_z ?_)
        obtain rfl:=sm a0
        exact ⟨(),_,⟨rfl,rfl,rfl,rfl,rfl,rfl,rfl,rfl,rfl,rfl,rfl,rfl,trivial⟩,((hB.st b0).st c0).st d0,((e0.st b0).st c0).st d0,i0.st d0,h9.st d0,f0.st d0,g0.st d0,h0.st d0,l0.st d0⟩
       replace a0:=im a0 h1
       refine Bv rfl rfl rfl (o_z ?_)
       obtain rfl:=sm a0
       exact ⟨(),_,⟨rfl,rfl,rfl,rfl,rfl,rfl,rfl,rfl,rfl,rfl,rfl,rfl,trivial⟩,((hB.st b0).st c0).st d0,((e0.st b0).st c0).st d0,i0.st d0,h9.st d0,f0.st d0,g0.st d0,h0.st d0,l0.st d0⟩
      replace a0:=im a0 g1
      refine Bv rfl rfl rfl (Aj rfl rfl (Ak rfl rfl rfl rfl (Ak rfl rfl rfl rfl (Ak rfl rfl rfl rfl (Ak rfl rfl rfl rfl (Ak rfl rfl rfl rfl (Bg rfl rfl rfl (o_z ?_))))))))
      obtain rfl:=sm a0
      exact ⟨(),_,⟨rfl,rfl,rfl,rfl,rfl,rfl,rfl,rfl,rfl,rfl,rfl,rfl,trivial⟩,(hB.st b0).st c0,(e0.st b0).st c0,(i0.st b0).st c0,(h9.st b0).st c0,(f0.st b0).st c0,(g0.st b0).st c0,(h0.st b0).st c0,l0⟩
     replace a0:=im a0 f1
     refine Bv rfl rfl rfl (Aj rfl rfl (Ak rfl rfl rfl rfl (Ak rfl rfl rfl rfl (Ak rfl rfl rfl rfl (Ak rfl rfl rfl rfl (Bg rfl rfl rfl (Aj rfl rfl (Ak rfl rfl rfl rfl (Ak rfl rfl rfl rfl (Ak rfl rfl rfl rfl (Ak rfl rfl rfl rfl (Ak rfl rfl rfl rfl (Bg rfl rfl rfl (o_z ?_))))))))))))))
     obtain rfl:=sm a0
     exact ⟨(),_,⟨rfl,rfl,rfl,rfl,rfl,rfl,rfl,rfl,rfl,rfl,rfl,rfl,trivial⟩,(hB.st b0).st c0,(e0.st b0).st c0,(i0.st b0).st c0,(h9.st b0).st c0,(f0.st b0).st c0,(g0.st b0).st c0,(h0.st b0).st c0,l0⟩
    replace a0:=im a0 o2
    refine Aj rfl rfl (Ak rfl rfl rfl rfl (Ak rfl rfl rfl rfl (Ak rfl rfl rfl rfl (Ak rfl rfl rfl rfl (Ak rfl rfl rfl rfl (Bg rfl rfl rfl (Aj rfl rfl (Ak rfl rfl rfl rfl (Ak rfl rfl rfl rfl (Ak rfl rfl rfl rfl (Ak rfl rfl rfl rfl (Bg rfl rfl rfl (Aj rfl rfl (Ak rfl rfl rfl rfl ?_))))))))))))))
    refine Ak rfl rfl rfl rfl (Ak rfl rfl rfl rfl (Ak rfl rfl rfl rfl (Ak rfl rfl rfl rfl (Bg rfl rfl rfl (o_z ?_)))))
    obtain rfl:=sm a0
    exact ⟨(),_,⟨rfl,rfl,rfl,rfl,rfl,rfl,rfl,rfl,rfl,rfl,rfl,rfl,trivial⟩,(hB.st b0).st c0,(e0.st b0).st c0,(i0.st b0).st c0,(h9.st b0).st c0,(f0.st b0).st c0,(g0.st b0).st c0,(h0.st b0).st c0,(l0.st b0).st c0⟩
   replace hB:=(hB.st b0).st c0
   replace e0:=(e0.st b0).st c0
   replace h9:=(h9.st b0).st c0
   replace f0:=(f0.st b0).st c0
   replace g0:=(g0.st b0).st c0
   replace h0:=(h0.st b0).st c0
   replace i0:=(i0.st b0).st c0
   replace l0:=(l0.st b0).st c0
   rintro o3 p3 ⟨j3,q3,r1,hB,e0,i0,h9,f0,g0,h0,l0⟩
   refine AC _ r1 ?_
   refine CB rfl (fun i1=>?_) (fun i1=>?_)
   ·
    replace o0:=ip o0 i1
    refine Ab (Aa (Al rfl rfl (o_z ?_)))
    refine AB ?_
    obtain rfl:=sm o0
    obtain rfl:=d1 _ rfl
    obtain rfl:=sm (Cq j0)
    obtain rfl:=c1 _ rfl
    obtain rfl:=sm (Cq hm)
    exact ret1v rfl (Au rfl) ⟨hB.ext,vBool⟩
   replace o0:=im' o0 i1
   refine AQ ?_
   obtain rfl:=sm o0
   exact show Exists _ from ⟨_,(),rfl,⟨rfl,rfl,rfl,rfl,rfl,rfl,rfl,rfl,rfl,rfl,rfl,trivial⟩,_,hB,e0,i0,h9,f0,g0,h0,l0⟩
  replace hB:=(hB.st k0).st m0
  replace h9:=(h9.st k0).st m0
  replace f0:=(f0.st k0).st m0
  replace g0:=(g0.st k0).st m0
  replace h0:=(h0.st k0).st m0
  replace i0:=(i0.st k0).st m0
  rintro r3 s3 ⟨t3,u3,rfl,n0,v3,hB,e0,i0,h9,f0,g0,h0⟩
  replace j0:=AX j0
  obtain rfl:=sm j0
  exact show Exists _ from ⟨_,(),rfl,⟨(Bc n0 _ _ rfl),(Bc n0 _ _ rfl),(Bc n0 _ _ rfl),(Bc n0 _ _ rfl),(Bc n0 _ _ rfl),(Bc n0 _ _ rfl),trivial⟩,_,hB,e0,i0,h9,f0,g0,h0⟩
 replace hB:=hB.st b1
 rintro w3 x3 ⟨y3,z3,rfl,s1,a4,hB⟩
 replace hm:=AX hm
 refine AC _ s1 ?_
 refine Ab (Aa (Al rfl rfl (o_z ?_)))
 refine AB ?_
 obtain rfl:=sm hm
 exact ret1v rfl (Au rfl) ⟨hB.ext,vBool⟩
noncomputable def Ck (x0:Tpl) (x1:Hap):Option (List Fct) :=
  if x1.fin=true then (bnd (atI x0.jobs x1.job) fun a33=>some a33.atEnd) else (bnd (atI x0.jobs x1.job) fun a66=>some a66.atStart)
theorem Ed {w:World} {A:Nat→Prop} (hA:∀ k,A k→k < w.heap.size) {vx0:Value} {x0:Tpl} (f0:Vb w A vx0 x0) {vx1:Value} {x1:Hap} (g0:Vb w A vx1 x1) {r:(List Fct)} (hm:Ck x0 x1=some r) :
    Fn Tryz.prog 148 [vx0,vx1] w fun v w'=>Ext w w'∧Vb w' (upA A w w') v r:=by
 obtain ⟨O,hB,q0⟩:=enter hA
 replace f0:=f0.mono q0
 obtain ⟨z1,rfl,v4,v5,v6,v7,rfl,h8,u0,v0,b0⟩:=f0
 obtain ⟨A9,w0,rfl⟩:=h8.form
 obtain ⟨y0,z0,rfl⟩:=u0.form
 obtain ⟨a1,b1,rfl⟩:=v0.form
 obtain ⟨c1,d1,rfl⟩:=b0.form
 replace g0:=g0.mono q0
 obtain ⟨e1,rfl,rfl,a2⟩:=g0
 refine AD Tryz.func148 rfl Tryz.ntmps148 rfl ?_
 unfold Ck at hm
 refine Ab (Aa (BX 2 O rfl rfl fun f1 g1 r0 e0 a0=>?_))
 replace a0:Lc 2 g1 r0 f1 26 [(.slice A9 x0.vars.length w0),(.slice y0 x0.init.length z0),(.slice a1 x0.goal.length b1),(.slice c1 x0.jobs.length d1)]:=a0
 refine BX 3 r0 rfl rfl fun h1 h0 i0 c0 d0=>?_
 replace d0:Lc 3 h0 i0 h1 182 [(.int .i64 x1.job),(.bool x1.fin)]:=d0
 refine Al rfl rfl (o_z ?_)
 refine Ab (Ab (Aa (AA rfl rfl (Aw (hc:=Blk.cell (i:=1) (d0.1) rfl) rfl rfl ?_))))
 refine o_z ?_
 refine CB rfl (fun j0=>?_) (fun j0=>?_)
 ·
  replace hm:=ip hm j0
  refine Ab (Aa (AA rfl rfl ?_))
  replace a0:=a0.st c0
  refine Aw (hc:=Blk.cell (i:=3) (a0.1) rfl) rfl rfl ?_
  refine AA rfl rfl (Aw (hc:=Blk.cell (i:=0) (d0.1) rfl) rfl rfl ?_)
  obtain ⟨b2,i1,hm⟩:=bs hm
  obtain ⟨j1,k1⟩:=CX i1
  replace b0:=(b0.st e0).st c0
  obtain ⟨c2,d2,l1,k0,l0,m0,e2,f2,g2,h2,i2,rfl,m1,n1,o1,p1,s0,j2,k2⟩:=b0.elem' k1
  obtain ⟨l2,m2,rfl⟩:=m1.form
  obtain ⟨n2,o2,rfl⟩:=n1.form
  obtain ⟨p2,q2,rfl⟩:=o1.form
  obtain ⟨r2,s2,rfl⟩:=p1.form
  obtain ⟨t2,u2,rfl⟩:=s0.form
  refine Bz (hA:=k0) (hj:=(Int.toNat_of_nonneg j1).symm) (hlt:=l0) rfl rfl rfl ?_
  refine AA rfl rfl (Aw (hc:=cat6 m0) rfl rfl ?_)
  refine Al rfl rfl (o_z ?_)
  refine AB ?_
  obtain rfl:=sm hm
  replace hB:=(hB.st e0).st c0
  exact ret1v rfl (Au rfl) ⟨hB.ext,(Vb.mono (F:=Fr 0 h0 i0) s0 hB.out)⟩
 replace hm:=im' hm j0
 refine AQ (Ab (Aa (AA rfl rfl ?_)))
 replace a0:=a0.st c0
 refine Aw (hc:=Blk.cell (i:=3) (a0.1) rfl) rfl rfl ?_
 refine AA rfl rfl (Aw (hc:=Blk.cell (i:=0) (d0.1) rfl) rfl rfl ?_)
 obtain ⟨v2,q1,hm⟩:=bs hm
 obtain ⟨r1,s1⟩:=CX q1
 replace b0:=(b0.st e0).st c0
 obtain ⟨w2,x2,t1,n0,o0,p0,y2,z2,a3,b3,c3,rfl,u1,v1,w1,t0,y1,d3,e3⟩:=b0.elem' s1
 obtain ⟨f3,g3,rfl⟩:=u1.form
 obtain ⟨h3,i3,rfl⟩:=v1.form
 obtain ⟨j3,k3,rfl⟩:=w1.form
 obtain ⟨l3,m3,rfl⟩:=t0.form
 obtain ⟨n3,o3,rfl⟩:=y1.form
 refine Bz (hA:=n0) (hj:=(Int.toNat_of_nonneg r1).symm) (hlt:=o0) rfl rfl rfl ?_
 refine AA rfl rfl (Aw (hc:=cat5 p0) rfl rfl ?_)
 refine Al rfl rfl (o_z ?_)
 refine AB ?_
 obtain rfl:=sm hm
 replace hB:=(hB.st e0).st c0
 exact ret1v rfl (Au rfl) ⟨hB.ext,(Vb.mono (F:=Fr 0 h0 i0) t0 hB.out)⟩
noncomputable def Da (x0:Fct) (y0:Fct):Option Bool :=
  bnd (if y0.var=x0.var then (some true) else (some false):Option Bool) fun y12=>some y12
theorem Ie {w:World} {A:Nat→Prop} (hA:∀ k,A k→k < w.heap.size) {vx0:Value} {x0:Fct} (c0:Vb w A vx0 x0) {py0:Nat} {csy0:List Value} {y0:Fct} (hby0:Blk w py0 78 csy0) (hay0:A py0) (hcy0:Rp.R w A csy0 y0) {r:Bool} (hm:Da x0 y0=some r) :
    Fn Tryz.prog 187 [vx0,(.pointer (some ⟨py0,0,none⟩))] w fun v w'=>Ext w w'∧Vb w' (upA A w w') v r:=by
 obtain ⟨O,hB,d0⟩:=enter hA
 have hLy0:Lc 0 w O py0 78 csy0:=⟨hby0,(d0 py0 hay0).2⟩
 replace hcy0:=Rp.mono hcy0 d0
 obtain ⟨rfl,r2,r3⟩:=hcy0
 replace c0:=c0.mono d0
 obtain ⟨j0,rfl,rfl,r5,r6⟩:=c0
 refine AD Tryz.func187 rfl Tryz.ntmps187 rfl ?_
 unfold Da at hm
 refine Ab (Aa (BX 2 O rfl rfl fun g7 w8 O9 b0 e0=>?_))
 replace e0:Lc 2 w8 O9 g7 78 [(.int .i64 x0.var),(.int .i64 x0.val)]:=e0
 refine Al rfl rfl (o_z ?_)
 refine Ab ?_
 obtain ⟨h0,a0,hm⟩:=bs hm
 refine Ax (fun l' w'=>∃ (i0:Unit) (O':Lab),subs l' [(3,(.bool h0))]∧Bs w A w' O') ?_ ?_
 ·
  refine Aa (AA rfl rfl ?_)
  replace hLy0:=hLy0.st b0
  refine Aw (hc:=Blk.cell (i:=0) (hLy0.1) rfl) rfl rfl ?_
  refine AA rfl rfl (Aw (hc:=Blk.cell (i:=0) (e0.1) rfl) rfl rfl ?_)
  refine Ga rfl rfl rfl (fun f0=>?_) fun f0=>?_
  ·
   replace a0:=ip a0 f0
   refine Al rfl rfl (o_z ?_)
   obtain rfl:=sm a0
   exact ⟨(),_,⟨rfl,trivial⟩,hB.st b0⟩
  replace a0:=im a0 f0
  refine Al rfl rfl (o_z ?_)
  obtain rfl:=sm a0
  exact ⟨(),_,⟨rfl,trivial⟩,hB.st b0⟩
 replace hB:=hB.st b0
 rintro k0 l0 ⟨i0,m0,g0,hB⟩
 refine AC _ g0 ?_
 refine AB ?_
 obtain rfl:=sm hm
 exact ret1v rfl (Au rfl) ⟨hB.ext,vBool⟩
noncomputable def Bd (x0:List Fct) (y0:Fct):Option Int :=
  bnd (rng (ρ:=Int) (fun (k13:Nat) (a14:Fct) (s11:Unit)=>bnd (Da a14 y0) fun q33=>if q33=true then some (.ret (k13:Int)) else some (.next ())) x0 0 ()) fun res9=>fin res9 fun (s44:Unit)=>some (-1)
theorem Dw {w:World} {A:Nat→Prop} (hA:∀ k,A k→k < w.heap.size) {vx0:Value} {x0:List Fct} (b0:Vb w A vx0 x0) {py0:Nat} {csy0:List Value} {y0:Fct} (hby0:Blk w py0 78 csy0) (hay0:A py0) (hcy0:Rp.R w A csy0 y0) {r:Int} (hm:Bd x0 y0=some r) :
    Fn Tryz.prog 160 [vx0,(.func (.func 187) #[] #[(.pointer (some ⟨py0,0,none⟩))])] w fun v w'=>Ext w w'∧Vb w' (upA A w w') v r:=by
 obtain ⟨O,hB,h0⟩:=enter hA
 have hLy0:Lc 0 w O py0 78 csy0:=⟨hby0,(h0 py0 hay0).2⟩
 replace hcy0:=Rp.mono hcy0 h0
 obtain ⟨rfl,r3,r4⟩:=hcy0
 replace b0:=b0.mono h0
 obtain ⟨A5,c6,rfl⟩:=b0.form
 refine AD Tryz.func160 rfl Tryz.ntmps160 rfl ?_
 unfold Bd at hm
 refine Ab (Aa (Al rfl rfl (o_z ?_)))
 refine Ab (Ab (Aa (Aj rfl rfl (AT rfl rfl ?_))))
 have l8:x0.length≤9223372036854775807:=Nat.le_trans b0.len.2.1 b0.len.2.2
 have r7:inI64 (x0.length:Int):=rngNat l8
 refine Aj rfl rfl (o_z ?_)
 obtain ⟨i0,j0,hm⟩:=bs hm
 refine Ax (aft i0 (fun (e0:Unit) (f0:Unit)=>[]) (fun e0 f0 w'=>∃ O':Lab,Bs w A w' O')) ?_ ?_
 ·
  refine AN (Bn (σ:=Unit) (X:=Unit) (x0.length) j0 rfl l8 (fun (e0:Unit) (f0:Unit)=>[(0,(.slice A5 x0.length c6)),(1,(.func (.func 187) #[] #[(.pointer (some ⟨py0,0,none⟩))]))]) _ (fun e0 f0 w'=>∃ O':Lab,Bs w A w' O'∧Vb w' (Fr 0 w' O') (.slice A5 x0.length c6) x0∧Lc 0 w' O' py0 78 [(.int .i64 y0.var),(.int .i64 y0.val)]) _ () ⟨O,hB,b0,hLy0⟩ ⟨rfl,rfl,rfl,rfl,trivial⟩ (fun _ _=>⟨rfl,rfl⟩) (fun _ _=>trivial) (fun _ _ _ ⟨O',hB,b0,hLy0⟩=>⟨O',hB⟩) ⟨rfl,rfl,rfl⟩ ⟨rfl,rfl⟩ ?_)
  rintro t0 k0 e0 f0 l0 u0 d0 ⟨m0,hB,b0,hLy0⟩ a0 c0 n0
  have rk13:inI64 (t0:Int):=rngK d0 l8
  refine Ab (Aa (Aj rfl rfl (Al rfl rfl (o_z ?_))))
  refine Ab (Aa (Aj rfl rfl (Aj rfl rfl (Aj rfl rfl ?_))))
  obtain ⟨c1,d1,v0,o0,p0,q0,rfl,w0,z0⟩:=b0.elem' d0
  refine Bz (hA:=o0) (hj:=rfl) (hlt:=p0) rfl rfl rfl ?_
  refine Bp (hl:=rfl) (hc:=q0) rfl rfl ?_
  obtain ⟨s0,a1,a0⟩:=bs a0
  refine GJ (O:=m0) (A:=All l0) (R:=fun w' F v=>Vb w' F v s0) (Ie (fun _ h=>h) (Vb.mono (F:=Fr 0 l0 m0) (Vb.ofAgg (cs:=[(.int .i64 k0.var),(.int .i64 k0.val)]) (x:=k0) rfl ⟨rfl,w0,z0⟩) Fr.lt) hLy0.1 hLy0.1.lt (Rp.mono (F:=Fr 0 l0 m0) (x:=y0) ⟨rfl,r3,r4⟩ Fr.lt) a1) rfl rfl rfl rfl fun e1 f1 g1 g0 b1=>?_
  obtain rfl:=b1.bool
  cases s0
  case false =>
   replace a0:=iF a0
   refine o_z ?_
   refine Ae rfl (AQ ?_)
   obtain rfl:=sm a0
   exact show Exists _ from ⟨_,(),rfl,⟨rfl,rfl,rfl,rfl,trivial⟩,_,hB.st g0,b0.st g0,hLy0.st g0⟩
  replace a0:=iT a0
  refine o_z ?_
  refine Ah rfl (Ab (Aa (Aj rfl rfl (Al rfl rfl (o_z ?_)))))
  refine AB ?_
  obtain rfl:=sm a0
  obtain rfl:=c0 _ rfl
  obtain rfl:=sm (Cq hm)
  replace hB:=hB.st g0
  exact ret1v rfl (Au rfl) ⟨hB.ext,(vInt rk13)⟩
 rintro h1 i1 ⟨j1,k1,rfl,r0,l1,hB⟩
 replace hm:=AX hm
 refine AC _ r0 ?_
 refine Ab (Aa (Al rfl rfl (o_z ?_)))
 refine AB ?_
 obtain rfl:=sm hm
 exact ret1v rfl (Au rfl) ⟨hB.ext,(vInt (show inI64 (-1) from by decide))⟩
noncomputable def AZ (x0:List Fct) (y0:Fct):Option Bool :=
  bnd (bnd (Bd x0 y0) fun q11=>if 0≤q11 then (some true) else (some false):Option Bool) fun y7=>some y7
theorem Dg {w:World} {A:Nat→Prop} (hA:∀ k,A k→k < w.heap.size) {vx0:Value} {x0:List Fct} (b0:Vb w A vx0 x0) {py0:Nat} {csy0:List Value} {y0:Fct} (hby0:Blk w py0 78 csy0) (hay0:A py0) (hcy0:Rp.R w A csy0 y0) {r:Bool} (hm:AZ x0 y0=some r) :
    Fn Tryz.prog 134 [vx0,(.func (.func 187) #[] #[(.pointer (some ⟨py0,0,none⟩))])] w fun v w'=>Ext w w'∧Vb w' (upA A w w') v r:=by
 obtain ⟨O,hB,c0⟩:=enter hA
 have hLy0:Lc 0 w O py0 78 csy0:=⟨hby0,(c0 py0 hay0).2⟩
 replace hcy0:=Rp.mono hcy0 c0
 obtain ⟨rfl,r3,r4⟩:=hcy0
 replace b0:=b0.mono c0
 obtain ⟨A5,c6,rfl⟩:=b0.form
 refine AD Tryz.func134 rfl Tryz.ntmps134 rfl ?_
 unfold AZ at hm
 refine Ab (Aa (Al rfl rfl (o_z ?_)))
 refine Ab ?_
 obtain ⟨y7,a0,hm⟩:=bs hm
 refine Ax (fun l' w'=>∃ (g0:Unit) (O':Lab),subs l' [(4,(.bool y7))]∧Bs w A w' O') ?_ ?_
 ·
  refine Aa (Aj rfl rfl (Aj rfl rfl ?_))
  obtain ⟨h0,i0,a0⟩:=bs a0
  refine AF (O:=O) (A:=All w) (R:=fun w' F v=>Vb w' F v h0) (Dw (fun _ h=>h) (Vb.mono (F:=Fr 0 w O) b0 Fr.lt) hLy0.1 hLy0.1.lt (Rp.mono (F:=Fr 0 w O) (x:=y0) ⟨rfl,r3,r4⟩ Fr.lt) i0) rfl rfl fun k0 l0 m0 f0 j0=>?_
  obtain ⟨rfl,n0⟩:=j0.int
  refine EM rfl rfl rfl (fun d0=>?_) fun d0=>?_
  ·
   replace a0:=ip a0 d0
   refine Al rfl rfl (o_z ?_)
   obtain rfl:=sm a0
   exact ⟨(),_,⟨rfl,trivial⟩,hB.st f0⟩
  replace a0:=im a0 d0
  refine Al rfl rfl (o_z ?_)
  obtain rfl:=sm a0
  exact ⟨(),_,⟨rfl,trivial⟩,hB.st f0⟩
 rintro o0 p0 ⟨g0,q0,e0,hB⟩
 refine AC _ e0 ?_
 refine AB ?_
 obtain rfl:=sm hm
 exact ret1v rfl (Au rfl) ⟨hB.ext,vBool⟩
noncomputable def DU (x0:Fct) (y0:List Fct):Option Bool :=
  bnd (bnd (AZ y0 x0) fun q18=>if q18=true then some true else some false:Option Bool) fun y14=>some y14
theorem IZ {w:World} {A:Nat→Prop} (hA:∀ k,A k→k < w.heap.size) {vx0:Value} {x0:Fct} (f0:Vb w A vx0 x0) {py0:Nat} {csy0:List Value} {y0:List Fct} (hby0:Blk w py0 23 csy0) (hay0:A py0) (hcy0:Rp.R w A csy0 y0) {r:Bool} (hm:DU x0 y0=some r) :
    Fn Tryz.prog 186 [vx0,(.pointer (some ⟨py0,0,none⟩))] w fun v w'=>Ext w w'∧Vb w' (upA A w w') v r:=by
 obtain ⟨O,hB,g0⟩:=enter hA
 have hLy0:Lc 0 w O py0 23 csy0:=⟨hby0,(g0 py0 hay0).2⟩
 replace hcy0:=Rp.mono hcy0 g0
 obtain ⟨v2,rfl,h3⟩:=hcy0
 replace h3:=Vb.of_slice h3
 obtain ⟨A4,c5,rfl⟩:=h3.form
 replace f0:=f0.mono g0
 obtain ⟨o0,rfl,rfl,r7,r8⟩:=f0
 refine AD Tryz.func186 rfl Tryz.ntmps186 rfl ?_
 unfold DU at hm
 refine Ab (Aa (BX 2 O rfl rfl fun g9 c0 d0 b0 e0=>?_))
 replace e0:Lc 2 c0 d0 g9 78 [(.int .i64 x0.var),(.int .i64 x0.val)]:=e0
 refine Al rfl rfl (o_z ?_)
 refine Ab ?_
 obtain ⟨k0,a0,hm⟩:=bs hm
 refine Ax (fun l' w'=>∃ (l0:Unit) (O':Lab),subs l' [(3,(.bool k0))]∧Bs w A w' O') ?_ ?_
 ·
  refine Aa ?_
  replace hLy0:=hLy0.st b0
  refine Aw (hc:=Blk.cell (i:=0) (hLy0.1) rfl) rfl rfl ?_
  refine JP rfl rfl rfl ?_
  obtain ⟨i0,m0,a0⟩:=bs a0
  replace h3:=h3.st b0
  refine AF (O:=d0) (A:=All c0) (R:=fun w' F v=>Vb w' F v i0) (Dg (fun _ h=>h) (Vb.mono (F:=Fr 0 c0 d0) h3 Fr.lt) e0.1 e0.1.lt (Rp.mono (F:=Fr 0 c0 d0) (x:=x0) ⟨rfl,r7,r8⟩ Fr.lt) m0) rfl rfl fun p0 q0 r0 j0 n0=>?_
  obtain rfl:=n0.bool
  cases i0
  case false =>
   replace a0:=iF a0
   refine Al rfl rfl (o_z ?_)
   obtain rfl:=sm a0
   exact ⟨(),_,⟨rfl,trivial⟩,(hB.st b0).st j0⟩
  replace a0:=iT a0
  refine Al rfl rfl (o_z ?_)
  obtain rfl:=sm a0
  exact ⟨(),_,⟨rfl,trivial⟩,(hB.st b0).st j0⟩
 replace hB:=hB.st b0
 rintro s0 t0 ⟨l0,u0,h0,hB⟩
 refine AC _ h0 ?_
 refine AB ?_
 obtain rfl:=sm hm
 exact ret1v rfl (Au rfl) ⟨hB.ext,vBool⟩
noncomputable def Bi (x0:List Fct) (y0:List Fct):Option Int :=
  bnd (rng (ρ:=Int) (fun (k15:Nat) (a16:Fct) (s13:Unit)=>bnd (DU a16 y0) fun q35=>if q35=true then some (.ret (k15:Int)) else some (.next ())) x0 0 ()) fun res11=>fin res11 fun (s46:Unit)=>some (-1)
theorem DN {w:World} {A:Nat→Prop} (hA:∀ k,A k→k < w.heap.size) {vx0:Value} {x0:List Fct} (b0:Vb w A vx0 x0) {py0:Nat} {csy0:List Value} {y0:List Fct} (hby0:Blk w py0 23 csy0) (hay0:A py0) (hcy0:Rp.R w A csy0 y0) {r:Int} (hm:Bi x0 y0=some r) :
    Fn Tryz.prog 160 [vx0,(.func (.func 186) #[] #[(.pointer (some ⟨py0,0,none⟩))])] w fun v w'=>Ext w w'∧Vb w' (upA A w w') v r:=by
 obtain ⟨O,hB,i0⟩:=enter hA
 have hLy0:Lc 0 w O py0 23 csy0:=⟨hby0,(i0 py0 hay0).2⟩
 replace hcy0:=Rp.mono hcy0 i0
 obtain ⟨v3,rfl,h4⟩:=hcy0
 replace h4:=Vb.of_slice h4
 obtain ⟨A5,c6,rfl⟩:=h4.form
 replace b0:=b0.mono i0
 obtain ⟨A7,c8,rfl⟩:=b0.form
 refine AD Tryz.func160 rfl Tryz.ntmps160 rfl ?_
 unfold Bi at hm
 refine Ab (Aa (Al rfl rfl (o_z ?_)))
 refine Ab (Ab (Aa (Aj rfl rfl (AT rfl rfl ?_))))
 have j0:x0.length≤9223372036854775807:=Nat.le_trans b0.len.2.1 b0.len.2.2
 have r9:inI64 (x0.length:Int):=rngNat j0
 refine Aj rfl rfl (o_z ?_)
 obtain ⟨d0,k0,hm⟩:=bs hm
 refine Ax (aft d0 (fun (g0:Unit) (h0:Unit)=>[]) (fun g0 h0 w'=>∃ O':Lab,Bs w A w' O')) ?_ ?_
 ·
  refine AN (Bn (σ:=Unit) (X:=Unit) (x0.length) k0 rfl j0 (fun (g0:Unit) (h0:Unit)=>[(0,(.slice A7 x0.length c8)),(1,(.func (.func 186) #[] #[(.pointer (some ⟨py0,0,none⟩))]))]) _ (fun g0 h0 w'=>∃ O':Lab,Bs w A w' O'∧Vb w' (Fr 0 w' O') (.slice A7 x0.length c8) x0∧Lc 0 w' O' py0 23 [(.slice A5 y0.length c6)]∧Vb w' (Fr 0 w' O') (.slice A5 y0.length c6) y0) _ () ⟨O,hB,b0,hLy0,h4⟩ ⟨rfl,rfl,rfl,rfl,trivial⟩ (fun _ _=>⟨rfl,rfl⟩) (fun _ _=>trivial) (fun _ _ _ ⟨O',hB,b0,hLy0,h4⟩=>⟨O',hB⟩) ⟨rfl,rfl,rfl⟩ ⟨rfl,rfl⟩ ?_)
  rintro u0 l0 g0 h0 m0 v0 e0 ⟨n0,hB,b0,hLy0,h4⟩ a0 c0 o0
  have rk15:inI64 (u0:Int):=rngK e0 j0
  refine Ab (Aa (Aj rfl rfl (Al rfl rfl (o_z ?_))))
  refine Ab (Aa (Aj rfl rfl (Aj rfl rfl (Aj rfl rfl ?_))))
  obtain ⟨d1,e1,w0,p0,q0,r0,rfl,z0,a1⟩:=b0.elem' e0
  refine Bz (hA:=p0) (hj:=rfl) (hlt:=q0) rfl rfl rfl ?_
  refine Bp (hl:=rfl) (hc:=r0) rfl rfl ?_
  obtain ⟨t0,b1,a0⟩:=bs a0
  refine GJ (O:=n0) (A:=All m0) (R:=fun w' F v=>Vb w' F v t0) (IZ (fun _ h=>h) (Vb.mono (F:=Fr 0 m0 n0) (Vb.ofAgg (cs:=[(.int .i64 l0.var),(.int .i64 l0.val)]) (x:=l0) rfl ⟨rfl,z0,a1⟩) Fr.lt) hLy0.1 hLy0.1.lt (Rp.mono (F:=Fr 0 m0 n0) (x:=y0) (Vb.cells1 h4) Fr.lt) b1) rfl rfl rfl rfl fun f1 g1 h1 f0 c1=>?_
  obtain rfl:=c1.bool
  cases t0
  case false =>
   replace a0:=iF a0
   refine o_z ?_
   refine Ae rfl (AQ ?_)
   obtain rfl:=sm a0
   exact show Exists _ from ⟨_,(),rfl,⟨rfl,rfl,rfl,rfl,trivial⟩,_,hB.st f0,b0.st f0,hLy0.st f0,h4.st f0⟩
  replace a0:=iT a0
  refine o_z ?_
  refine Ah rfl (Ab (Aa (Aj rfl rfl (Al rfl rfl (o_z ?_)))))
  refine AB ?_
  obtain rfl:=sm a0
  obtain rfl:=c0 _ rfl
  obtain rfl:=sm (Cq hm)
  replace hB:=hB.st f0
  exact ret1v rfl (Au rfl) ⟨hB.ext,(vInt rk15)⟩
 rintro i1 j1 ⟨k1,l1,rfl,s0,m1,hB⟩
 replace hm:=AX hm
 refine AC _ s0 ?_
 refine Ab (Aa (Al rfl rfl (o_z ?_)))
 refine AB ?_
 obtain rfl:=sm hm
 exact ret1v rfl (Au rfl) ⟨hB.ext,(vInt (show inI64 (-1) from by decide))⟩
noncomputable def Be (x0:List Fct) (y0:List Fct):Option Bool :=
  bnd (bnd (Bi x0 y0) fun q13=>if 0≤q13 then (some true) else (some false):Option Bool) fun y9=>some y9
theorem Dx {w:World} {A:Nat→Prop} (hA:∀ k,A k→k < w.heap.size) {vx0:Value} {x0:List Fct} (b0:Vb w A vx0 x0) {py0:Nat} {csy0:List Value} {y0:List Fct} (hby0:Blk w py0 23 csy0) (hay0:A py0) (hcy0:Rp.R w A csy0 y0) {r:Bool} (hm:Be x0 y0=some r) :
    Fn Tryz.prog 134 [vx0,(.func (.func 186) #[] #[(.pointer (some ⟨py0,0,none⟩))])] w fun v w'=>Ext w w'∧Vb w' (upA A w w') v r:=by
 obtain ⟨O,hB,c0⟩:=enter hA
 have hLy0:Lc 0 w O py0 23 csy0:=⟨hby0,(c0 py0 hay0).2⟩
 replace hcy0:=Rp.mono hcy0 c0
 obtain ⟨v3,rfl,h4⟩:=hcy0
 replace h4:=Vb.of_slice h4
 obtain ⟨A5,c6,rfl⟩:=h4.form
 replace b0:=b0.mono c0
 obtain ⟨A7,c8,rfl⟩:=b0.form
 refine AD Tryz.func134 rfl Tryz.ntmps134 rfl ?_
 unfold Be at hm
 refine Ab (Aa (Al rfl rfl (o_z ?_)))
 refine Ab ?_
 obtain ⟨y9,a0,hm⟩:=bs hm
 refine Ax (fun l' w'=>∃ (g0:Unit) (O':Lab),subs l' [(4,(.bool y9))]∧Bs w A w' O') ?_ ?_
 ·
  refine Aa (Aj rfl rfl (Aj rfl rfl ?_))
  obtain ⟨h0,i0,a0⟩:=bs a0
  refine AF (O:=O) (A:=All w) (R:=fun w' F v=>Vb w' F v h0) (DN (fun _ h=>h) (Vb.mono (F:=Fr 0 w O) b0 Fr.lt) hLy0.1 hLy0.1.lt (Rp.mono (F:=Fr 0 w O) (x:=y0) (Vb.cells1 h4) Fr.lt) i0) rfl rfl fun k0 l0 m0 f0 j0=>?_
  obtain ⟨rfl,n0⟩:=j0.int
  refine EM rfl rfl rfl (fun d0=>?_) fun d0=>?_
  ·
   replace a0:=ip a0 d0
   refine Al rfl rfl (o_z ?_)
   obtain rfl:=sm a0
   exact ⟨(),_,⟨rfl,trivial⟩,hB.st f0⟩
  replace a0:=im a0 d0
  refine Al rfl rfl (o_z ?_)
  obtain rfl:=sm a0
  exact ⟨(),_,⟨rfl,trivial⟩,hB.st f0⟩
 rintro o0 p0 ⟨g0,q0,e0,hB⟩
 refine AC _ e0 ?_
 refine AB ?_
 obtain rfl:=sm hm
 exact ret1v rfl (Au rfl) ⟨hB.ext,vBool⟩
noncomputable def Dn (x0:List Fct) (x1:List Fct):Option Bool :=
  bnd (bnd (Be x0 x1) fun q16=>if q16=true then some true else some false:Option Bool) fun y12=>some y12
theorem Gx {w:World} {A:Nat→Prop} (hA:∀ k,A k→k < w.heap.size) {vx0:Value} {x0:List Fct} (b0:Vb w A vx0 x0) {vx1:Value} {x1:List Fct} (c0:Vb w A vx1 x1) {r:Bool} (hm:Dn x0 x1=some r) :
    Fn Tryz.prog 147 [vx0,vx1] w fun v w'=>Ext w w'∧Vb w' (upA A w w') v r:=by
 obtain ⟨O,hB,f0⟩:=enter hA
 replace b0:=b0.mono f0
 obtain ⟨A3,c4,rfl⟩:=b0.form
 replace c0:=c0.mono f0
 obtain ⟨A5,c6,rfl⟩:=c0.form
 refine AD Tryz.func147 rfl Tryz.ntmps147 rfl ?_
 unfold Dn at hm
 refine Ab (Aa (BX 2 O rfl rfl fun g7 w8 O9 d0 g0=>?_))
 refine Al rfl rfl (o_z ?_)
 refine Ab ?_
 obtain ⟨j0,a0,hm⟩:=bs hm
 refine Ax (fun l' w'=>∃ (k0:Unit) (O':Lab),subs l' [(4,(.bool j0))]∧Bs w A w' O') ?_ ?_
 ·
  refine Aa (Aj rfl rfl (JP rfl rfl rfl ?_))
  obtain ⟨h0,l0,a0⟩:=bs a0
  replace b0:=b0.st d0
  replace c0:=c0.st d0
  refine AF (O:=O9) (A:=All w8) (R:=fun w' F v=>Vb w' F v h0) (Dx (fun _ h=>h) (Vb.mono (F:=Fr 0 w8 O9) b0 Fr.lt) g0.1 g0.1.lt (Rp.mono (F:=Fr 0 w8 O9) (x:=x1) (Vb.cells1 c0) Fr.lt) l0) rfl rfl fun n0 o0 p0 i0 m0=>?_
  obtain rfl:=m0.bool
  cases h0
  case false =>
   replace a0:=iF a0
   refine Al rfl rfl (o_z ?_)
   obtain rfl:=sm a0
   exact ⟨(),_,⟨rfl,trivial⟩,(hB.st d0).st i0⟩
  replace a0:=iT a0
  refine Al rfl rfl (o_z ?_)
  obtain rfl:=sm a0
  exact ⟨(),_,⟨rfl,trivial⟩,(hB.st d0).st i0⟩
 replace hB:=hB.st d0
 rintro q0 r0 ⟨k0,s0,e0,hB⟩
 refine AC _ e0 ?_
 refine AB ?_
 obtain rfl:=sm hm
 exact ret1v rfl (Au rfl) ⟨hB.ext,vBool⟩
noncomputable def CV (x0:Tpl) (x1:Hap):Option (List Fct) :=
  if x1.fin=true then (bnd (atI x0.jobs x1.job) fun a33=>some a33.fin) else (bnd (atI x0.jobs x1.job) fun a66=>some a66.start)
theorem Gj {w:World} {A:Nat→Prop} (hA:∀ k,A k→k < w.heap.size) {vx0:Value} {x0:Tpl} (f0:Vb w A vx0 x0) {vx1:Value} {x1:Hap} (g0:Vb w A vx1 x1) {r:(List Fct)} (hm:CV x0 x1=some r) :
    Fn Tryz.prog 120 [vx0,vx1] w fun v w'=>Ext w w'∧Vb w' (upA A w w') v r:=by
 obtain ⟨O,hB,q0⟩:=enter hA
 replace f0:=f0.mono q0
 obtain ⟨z1,rfl,v4,v5,v6,v7,rfl,h8,u0,v0,b0⟩:=f0
 obtain ⟨A9,w0,rfl⟩:=h8.form
 obtain ⟨y0,z0,rfl⟩:=u0.form
 obtain ⟨a1,b1,rfl⟩:=v0.form
 obtain ⟨c1,d1,rfl⟩:=b0.form
 replace g0:=g0.mono q0
 obtain ⟨e1,rfl,rfl,a2⟩:=g0
 refine AD Tryz.func120 rfl Tryz.ntmps120 rfl ?_
 unfold CV at hm
 refine Ab (Aa (BX 2 O rfl rfl fun f1 g1 r0 e0 a0=>?_))
 replace a0:Lc 2 g1 r0 f1 26 [(.slice A9 x0.vars.length w0),(.slice y0 x0.init.length z0),(.slice a1 x0.goal.length b1),(.slice c1 x0.jobs.length d1)]:=a0
 refine BX 3 r0 rfl rfl fun h1 h0 i0 c0 d0=>?_
 replace d0:Lc 3 h0 i0 h1 182 [(.int .i64 x1.job),(.bool x1.fin)]:=d0
 refine Al rfl rfl (o_z ?_)
 refine Ab (Ab (Aa (AA rfl rfl (Aw (hc:=Blk.cell (i:=1) (d0.1) rfl) rfl rfl ?_))))
 refine o_z ?_
 refine CB rfl (fun j0=>?_) (fun j0=>?_)
 ·
  replace hm:=ip hm j0
  refine Ab (Aa (AA rfl rfl ?_))
  replace a0:=a0.st c0
  refine Aw (hc:=Blk.cell (i:=3) (a0.1) rfl) rfl rfl ?_
  refine AA rfl rfl (Aw (hc:=Blk.cell (i:=0) (d0.1) rfl) rfl rfl ?_)
  obtain ⟨b2,i1,hm⟩:=bs hm
  obtain ⟨j1,k1⟩:=CX i1
  replace b0:=(b0.st e0).st c0
  obtain ⟨c2,d2,l1,k0,l0,m0,e2,f2,g2,h2,i2,rfl,m1,n1,s0,o1,p1,j2,k2⟩:=b0.elem' k1
  obtain ⟨l2,m2,rfl⟩:=m1.form
  obtain ⟨n2,o2,rfl⟩:=n1.form
  obtain ⟨p2,q2,rfl⟩:=s0.form
  obtain ⟨r2,s2,rfl⟩:=o1.form
  obtain ⟨t2,u2,rfl⟩:=p1.form
  refine Bz (hA:=k0) (hj:=(Int.toNat_of_nonneg j1).symm) (hlt:=l0) rfl rfl rfl ?_
  refine AA rfl rfl (Aw (hc:=cat4 m0) rfl rfl ?_)
  refine Al rfl rfl (o_z ?_)
  refine AB ?_
  obtain rfl:=sm hm
  replace hB:=(hB.st e0).st c0
  exact ret1v rfl (Au rfl) ⟨hB.ext,(Vb.mono (F:=Fr 0 h0 i0) s0 hB.out)⟩
 replace hm:=im' hm j0
 refine AQ (Ab (Aa (AA rfl rfl ?_)))
 replace a0:=a0.st c0
 refine Aw (hc:=Blk.cell (i:=3) (a0.1) rfl) rfl rfl ?_
 refine AA rfl rfl (Aw (hc:=Blk.cell (i:=0) (d0.1) rfl) rfl rfl ?_)
 obtain ⟨v2,q1,hm⟩:=bs hm
 obtain ⟨r1,s1⟩:=CX q1
 replace b0:=(b0.st e0).st c0
 obtain ⟨w2,x2,t1,n0,o0,p0,y2,z2,a3,b3,c3,rfl,t0,u1,v1,w1,y1,d3,e3⟩:=b0.elem' s1
 obtain ⟨f3,g3,rfl⟩:=t0.form
 obtain ⟨h3,i3,rfl⟩:=u1.form
 obtain ⟨j3,k3,rfl⟩:=v1.form
 obtain ⟨l3,m3,rfl⟩:=w1.form
 obtain ⟨n3,o3,rfl⟩:=y1.form
 refine Bz (hA:=n0) (hj:=(Int.toNat_of_nonneg r1).symm) (hlt:=o0) rfl rfl rfl ?_
 refine AA rfl rfl (Aw (hc:=cat2 p0) rfl rfl ?_)
 refine Al rfl rfl (o_z ?_)
 refine AB ?_
 obtain rfl:=sm hm
 replace hB:=(hB.st e0).st c0
 exact ret1v rfl (Au rfl) ⟨hB.ext,(Vb.mono (F:=Fr 0 h0 i0) t0 hB.out)⟩
noncomputable def Do (x0:Tpl) (x1:Hap) (x2:Hap):Option Bool :=
  bnd (bnd (Ck x0 x1) fun q44=>bnd (Ck x0 x2) fun q53=>bnd (Dn q44 q53) fun q62=>if q62=true then some true else bnd (Ck x0 x1) fun q69=>bnd (CV x0 x2) fun q78=>bnd (Dn q69 q78) fun q87=>if q87=true then some true else bnd (CV x0 x1) fun q94=>bnd (Ck x0 x2) fun q103=>bnd (Dn q94 q103) fun q112=>if q112=true then some true else some false:Option Bool) fun y40=>some y40
theorem Iv {w:World} {A:Nat→Prop} (hA:∀ k,A k→k < w.heap.size) {vx0:Value} {x0:Tpl} (k1:Vb w A vx0 x0) {vx1:Value} {x1:Hap} (l1:Vb w A vx1 x1) {vx2:Value} {x2:Hap} (m1:Vb w A vx2 x2) {r:Bool} (hm:Do x0 x1 x2=some r) :
    Fn Tryz.prog 119 [vx0,vx1,vx2] w fun v w'=>Ext w w'∧Vb w' (upA A w w') v r:=by
 obtain ⟨O,hB,n1⟩:=enter hA
 replace k1:=k1.mono n1
 obtain ⟨w3,rfl,v5,v6,v7,v8,rfl,h9,b0,c0,d0⟩:=k1
 obtain ⟨r0,s0,rfl⟩:=h9.form
 obtain ⟨t0,u0,rfl⟩:=b0.form
 obtain ⟨v0,w0,rfl⟩:=c0.form
 obtain ⟨y0,z0,rfl⟩:=d0.form
 replace l1:=l1.mono n1
 obtain ⟨g2,rfl,rfl,o1⟩:=l1
 replace m1:=m1.mono n1
 obtain ⟨h2,rfl,rfl,p1⟩:=m1
 refine AD Tryz.func119 rfl Tryz.ntmps119 rfl ?_
 unfold Do at hm
 refine Ab (Aa (BX 2 O rfl rfl fun i2 j2 a2 o0 e0=>?_))
 replace e0:Lc 2 j2 a2 i2 26 [(.slice r0 x0.vars.length s0),(.slice t0 x0.init.length u0),(.slice v0 x0.goal.length w0),(.slice y0 x0.jobs.length z0)]:=e0
 refine BX 3 a2 rfl rfl fun k2 l2 b2 n0 j0=>?_
 replace j0:Lc 3 l2 b2 k2 182 [(.int .i64 x1.job),(.bool x1.fin)]:=j0
 refine BX 4 b2 rfl rfl fun m2 n2 q1 k0 p0=>?_
 replace p0:Lc 4 n2 q1 m2 182 [(.int .i64 x2.job),(.bool x2.fin)]:=p0
 refine Al rfl rfl (o_z ?_)
 refine Ab ?_
 obtain ⟨o2,a0,hm⟩:=bs hm
 refine Ax (fun l' w'=>∃ (p2:Unit) (O':Lab),subs l' [(6,(.bool o2))]∧Bs w A w' O') ?_ ?_
 ·
  refine BD [] q1 ?_
  refine AK (fuel:=22) [] [(0,true),(1,true),(3,true),(4,true)] (by kernel_rfl) rfl ?_
  replace e0:=(e0.st n0).st k0
  refine Cw (hl:=rfl) (hb:=fun w' ⟨O',hq⟩=>((e0.st hq (by decide)).1).cellsAt) rfl rfl rfl ?_
  replace j0:=j0.st k0
  refine Cw (hl:=rfl) (hb:=fun w' ⟨O',hq⟩=>((j0.st hq (by decide)).1).cellsAt) rfl rfl rfl ?_
  refine Cw (hl:=rfl) (hb:=fun w' ⟨O',hq⟩=>((e0.st hq (by decide)).1).cellsAt) rfl rfl rfl ?_
  refine Cw (hl:=rfl) (hb:=fun w' ⟨O',hq⟩=>((p0.st hq (by decide)).1).cellsAt) rfl rfl rfl ?_
  refine At ?_
  refine Ar (i:=2) (by kernel_rfl) rfl ?_
  obtain ⟨q2,r2,a0⟩:=bs a0
  replace h9:=((h9.st o0).st n0).st k0
  replace b0:=((b0.st o0).st n0).st k0
  replace c0:=((c0.st o0).st n0).st k0
  replace d0:=((d0.st o0).st n0).st k0
  refine Cc (O:=q1) (R:=fun w' F v=>Vb w' F v q2) (Ed Fr.lt (Vb.ofAgg (cs:=[(.slice r0 x0.vars.length s0),(.slice t0 x0.init.length u0),(.slice v0 x0.goal.length w0),(.slice y0 x0.jobs.length z0)]) (x:=x0) rfl ⟨_,_,_,_,rfl,h9,b0,c0,d0⟩) (Vb.ofAgg (cs:=[(.int .i64 x1.job),(.bool x1.fin)]) (x:=x1) rfl ⟨rfl,o1⟩) r2) rfl rfl fun x3 y3 s2 g0 h1=>?_
  obtain ⟨z3,a4,rfl⟩:=h1.form
  have hZ:=g0.lst [] (fun _ h=>h.elim)
  refine Az [] hZ (by kernel_rfl) ?_
  refine Ar (i:=5) (by kernel_rfl) rfl ?_
  obtain ⟨t2,u2,a0⟩:=bs a0
  replace h9:=h9.st g0
  replace b0:=b0.st g0
  replace c0:=c0.st g0
  replace d0:=d0.st g0
  refine Cc (O:=s2) (R:=fun w' F v=>Vb w' F v t2) (Ed Fr.lt (Vb.ofAgg (cs:=[(.slice r0 x0.vars.length s0),(.slice t0 x0.init.length u0),(.slice v0 x0.goal.length w0),(.slice y0 x0.jobs.length z0)]) (x:=x0) rfl ⟨_,_,_,_,rfl,h9,b0,c0,d0⟩) (Vb.ofAgg (cs:=[(.int .i64 x2.job),(.bool x2.fin)]) (x:=x2) rfl ⟨rfl,p1⟩) u2) rfl rfl fun b4 r1 s1 f0 c2=>?_
  obtain ⟨c4,d4,rfl⟩:=c2.form
  have hZ:=f0.lst [] (fun _ h=>h.elim)
  refine Az [] hZ (by kernel_rfl) ?_
  refine Ar (i:=6) (by kernel_rfl) rfl ?_
  obtain ⟨d2,v2,a0⟩:=bs a0
  replace h1:=h1.st f0
  refine AF (O:=s1) (A:=All r1) (R:=fun w' F v=>Vb w' F v d2) (Gx (fun _ h=>h) (Vb.mono (F:=Fr 0 r1 s1) h1 Fr.lt) (Vb.mono (F:=Fr 0 r1 s1) c2 Fr.lt) v2) rfl rfl fun e4 f4 w2 h0 y2=>?_
  obtain rfl:=y2.bool
  have hZ:=h0.lst [] (fun _ h=>h.elim)
  cases d2
  case false =>
   replace a0:=iF a0
   refine Az [] hZ (by kernel_rfl) ?_
   refine AK (fuel:=14) [] [(7,true),(8,true),(9,true),(11,true),(12,true)] (by kernel_rfl) rfl ?_
   refine Bt rfl rfl rfl (AH rfl (AG rfl rfl ?_))
   replace e0:=((e0.st g0).st f0).st h0
   refine HK (hl:=rfl) (hb:=fun w' ⟨O',hq⟩=>((e0.st hq (by decide)).1).cellsAt) rfl rfl ?_
   refine AH rfl (AG rfl rfl ?_)
   replace j0:=((j0.st g0).st f0).st h0
   refine HK (hl:=rfl) (hb:=fun w' ⟨O',hq⟩=>((j0.st hq (by decide)).1).cellsAt) rfl rfl ?_
   refine AH rfl (AG rfl rfl (HK (hl:=rfl) (hb:=fun w' ⟨O',hq⟩=>((e0.st hq (by decide)).1).cellsAt) rfl rfl ?_))
   refine AH rfl (AG rfl rfl ?_)
   replace p0:=((p0.st g0).st f0).st h0
   refine HK (hl:=rfl) (hb:=fun w' ⟨O',hq⟩=>((p0.st hq (by decide)).1).cellsAt) rfl rfl ?_
   refine At ?_
   refine Ar (i:=10) (by kernel_rfl) rfl ?_
   refine Am rfl rfl ?_
   obtain ⟨z2,a3,a0⟩:=bs a0
   replace h9:=(h9.st f0).st h0
   replace b0:=(b0.st f0).st h0
   replace c0:=(c0.st f0).st h0
   replace d0:=(d0.st f0).st h0
   refine Cc (O:=w2) (R:=fun w' F v=>Vb w' F v z2) (Ed Fr.lt (Vb.ofAgg (cs:=[(.slice r0 x0.vars.length s0),(.slice t0 x0.init.length u0),(.slice v0 x0.goal.length w0),(.slice y0 x0.jobs.length z0)]) (x:=x0) rfl ⟨_,_,_,_,rfl,h9,b0,c0,d0⟩) (Vb.ofAgg (cs:=[(.int .i64 x1.job),(.bool x1.fin)]) (x:=x1) rfl ⟨rfl,o1⟩) a3) rfl rfl fun g4 h4 b3 l0 i1=>?_
   obtain ⟨i4,j4,rfl⟩:=i1.form
   have hZ:=l0.lst [] (fun _ h=>h.elim)
   refine Az [] hZ (by kernel_rfl) ?_
   refine Ar (i:=13) (by kernel_rfl) rfl ?_
   refine Am rfl rfl ?_
   obtain ⟨c3,d3,a0⟩:=bs a0
   replace h9:=h9.st l0
   replace b0:=b0.st l0
   replace c0:=c0.st l0
   replace d0:=d0.st l0
   refine Cc (O:=b3) (R:=fun w' F v=>Vb w' F v c3) (Gj Fr.lt (Vb.ofAgg (cs:=[(.slice r0 x0.vars.length s0),(.slice t0 x0.init.length u0),(.slice v0 x0.goal.length w0),(.slice y0 x0.jobs.length z0)]) (x:=x0) rfl ⟨_,_,_,_,rfl,h9,b0,c0,d0⟩) (Vb.ofAgg (cs:=[(.int .i64 x2.job),(.bool x2.fin)]) (x:=x2) rfl ⟨rfl,p1⟩) d3) rfl rfl fun k4 t1 u1 i0 e2=>?_
   obtain ⟨l4,m4,rfl⟩:=e2.form
   have hZ:=i0.lst [] (fun _ h=>h.elim)
   refine Az [] hZ (by kernel_rfl) ?_
   refine Ar (i:=14) (by kernel_rfl) rfl ?_
   refine Am rfl rfl ?_
   obtain ⟨f2,e3,a0⟩:=bs a0
   replace i1:=i1.st i0
   refine AF (O:=u1) (A:=All t1) (R:=fun w' F v=>Vb w' F v f2) (Gx (fun _ h=>h) (Vb.mono (F:=Fr 0 t1 u1) i1 Fr.lt) (Vb.mono (F:=Fr 0 t1 u1) e2 Fr.lt) e3) rfl rfl fun n4 o4 f3 m0 g3=>?_
   obtain rfl:=g3.bool
   have hZ:=m0.lst [] (fun _ h=>h.elim)
   cases f2
   case false =>
    replace a0:=iF a0
    refine Az [] hZ (by kernel_rfl) ?_
    refine AK (fuel:=5) [] [(15,true),(16,true),(17,true),(18,true),(20,true),(21,true)] (by kernel_rfl) rfl ?_
    refine Fm rfl rfl rfl rfl (Bt rfl rfl rfl (AH rfl (AG rfl rfl ?_)))
    replace e0:=((e0.st l0).st i0).st m0
    refine HK (hl:=rfl) (hb:=fun w' ⟨O',hq⟩=>((e0.st hq (by decide)).1).cellsAt) rfl rfl ?_
    refine AH rfl (AG rfl rfl ?_)
    replace j0:=((j0.st l0).st i0).st m0
    refine HK (hl:=rfl) (hb:=fun w' ⟨O',hq⟩=>((j0.st hq (by decide)).1).cellsAt) rfl rfl ?_
    refine AH rfl (AG rfl rfl (HK (hl:=rfl) (hb:=fun w' ⟨O',hq⟩=>((e0.st hq (by decide)).1).cellsAt) rfl rfl ?_))
    refine AH rfl (AG rfl rfl ?_)
    replace p0:=((p0.st l0).st i0).st m0
    refine HK (hl:=rfl) (hb:=fun w' ⟨O',hq⟩=>((p0.st hq (by decide)).1).cellsAt) rfl rfl ?_
    refine At ?_
    refine Ar (i:=19) (by kernel_rfl) rfl ?_
    refine Am rfl rfl ?_
    obtain ⟨h3,i3,a0⟩:=bs a0
    replace h9:=(h9.st i0).st m0
    replace b0:=(b0.st i0).st m0
    replace c0:=(c0.st i0).st m0
    replace d0:=(d0.st i0).st m0
    refine Cc (O:=f3) (R:=fun w' F v=>Vb w' F v h3) (Gj Fr.lt (Vb.ofAgg (cs:=[(.slice r0 x0.vars.length s0),(.slice t0 x0.init.length u0),(.slice v0 x0.goal.length w0),(.slice y0 x0.jobs.length z0)]) (x:=x0) rfl ⟨_,_,_,_,rfl,h9,b0,c0,d0⟩) (Vb.ofAgg (cs:=[(.int .i64 x1.job),(.bool x1.fin)]) (x:=x1) rfl ⟨rfl,o1⟩) i3) rfl rfl fun j3 p4 k3 a1 j1=>?_
    obtain ⟨l3,m3,rfl⟩:=j1.form
    have hZ:=a1.lst [] (fun _ h=>h.elim)
    refine Az [] hZ (by kernel_rfl) ?_
    refine Ar (i:=22) (by kernel_rfl) rfl ?_
    refine Am rfl rfl ?_
    obtain ⟨v1,w1,a0⟩:=bs a0
    replace h9:=h9.st a1
    replace b0:=b0.st a1
    replace c0:=c0.st a1
    replace d0:=d0.st a1
    refine Cc (O:=k3) (R:=fun w' F v=>Vb w' F v v1) (Ed Fr.lt (Vb.ofAgg (cs:=[(.slice r0 x0.vars.length s0),(.slice t0 x0.init.length u0),(.slice v0 x0.goal.length w0),(.slice y0 x0.jobs.length z0)]) (x:=x0) rfl ⟨_,_,_,_,rfl,h9,b0,c0,d0⟩) (Vb.ofAgg (cs:=[(.int .i64 x2.job),(.bool x2.fin)]) (x:=x2) rfl ⟨rfl,p1⟩) w1) rfl rfl fun n3 b1 c1 q0 e1=>?_
    obtain ⟨o3,p3,rfl⟩:=e1.form
    have hZ:=q0.lst [] (fun _ h=>h.elim)
    refine Az [] hZ (by kernel_rfl) ?_
    refine Ar (i:=23) (by kernel_rfl) rfl ?_
    refine Am rfl rfl ?_
    obtain ⟨f1,y1,a0⟩:=bs a0
    replace j1:=j1.st q0
    refine AF (O:=c1) (A:=All b1) (R:=fun w' F v=>Vb w' F v f1) (Gx (fun _ h=>h) (Vb.mono (F:=Fr 0 b1 c1) j1 Fr.lt) (Vb.mono (F:=Fr 0 b1 c1) e1 Fr.lt) y1) rfl rfl fun q3 r3 s3 d1 z1=>?_
    obtain rfl:=z1.bool
    have hZ:=d1.lst [] (fun _ h=>h.elim)
    cases f1
    case false =>
     replace a0:=iF a0
     refine Az [] hZ (by kernel_rfl) ?_
     refine AK (fuel:=0) [] [(24,true),(25,true)] (by kernel_rfl) rfl ?_
     refine Fm rfl rfl rfl rfl (KK rfl rfl rfl (At ?_))
     refine Bu (by kernel_rfl) ?_
     obtain rfl:=sm a0
     exact ⟨(),_,⟨rfl,trivial⟩,(((((((((((hB.st o0).st n0).st k0).st g0).st f0).st h0).st l0).st i0).st m0).st a1).st q0).st d1⟩
    replace a0:=iT a0
    refine Az [] hZ (by kernel_rfl) ?_
    refine AK (fuel:=0) [] [(24,true),(25,true)] (by kernel_rfl) rfl ?_
    refine Fm rfl rfl rfl rfl (KK rfl rfl rfl (At ?_))
    refine Bu (by kernel_rfl) ?_
    obtain rfl:=sm a0
    exact ⟨(),_,⟨rfl,trivial⟩,(((((((((((hB.st o0).st n0).st k0).st g0).st f0).st h0).st l0).st i0).st m0).st a1).st q0).st d1⟩
   replace a0:=iT a0
   refine Az [] hZ (by kernel_rfl) ?_
   refine AK (fuel:=5) [] [(15,true),(16,true),(17,true),(18,true),(20,true),(21,true)] (by kernel_rfl) rfl ?_
   refine Fm rfl rfl rfl rfl (Bt rfl rfl rfl (Ha rfl rfl rfl rfl rfl (Ha rfl rfl rfl rfl rfl (Ha rfl rfl rfl rfl rfl (Ha rfl rfl rfl rfl rfl (At ?_))))))
   refine Ar (i:=19) (by kernel_rfl) rfl ?_
   refine Ak rfl rfl rfl rfl (Az [] ((St.refl nT _ _).lst [] (fun _ h=>h.elim)) (by kernel_rfl) ?_)
   refine Ar (i:=22) (by kernel_rfl) rfl ?_
   refine Ak rfl rfl rfl rfl (Az [] ((St.refl nT _ _).lst [] (fun _ h=>h.elim)) (by kernel_rfl) ?_)
   refine Ar (i:=23) (by kernel_rfl) rfl ?_
   refine Ak rfl rfl rfl rfl (Az [] ((St.refl nT _ _).lst [] (fun _ h=>h.elim)) (by kernel_rfl) ?_)
   refine AK (fuel:=0) [] [(24,true),(25,true)] (by kernel_rfl) rfl ?_
   refine FD rfl rfl rfl rfl (KK rfl rfl rfl (At ?_))
   refine Bu (by kernel_rfl) ?_
   obtain rfl:=sm a0
   exact ⟨(),_,⟨rfl,trivial⟩,((((((((hB.st o0).st n0).st k0).st g0).st f0).st h0).st l0).st i0).st m0⟩
  replace a0:=iT a0
  refine Az [] hZ (by kernel_rfl) ?_
  refine AK (fuel:=14) [] [(7,true),(8,true),(9,true),(11,true),(12,true)] (by kernel_rfl) rfl ?_
  refine Bt rfl rfl rfl (Ha rfl rfl rfl rfl rfl (Ha rfl rfl rfl rfl rfl (Ha rfl rfl rfl rfl rfl (Ha rfl rfl rfl rfl rfl (At ?_)))))
  refine Ar (i:=10) (by kernel_rfl) rfl ?_
  refine Ak rfl rfl rfl rfl (Az [] ((St.refl nT _ _).lst [] (fun _ h=>h.elim)) (by kernel_rfl) ?_)
  refine Ar (i:=13) (by kernel_rfl) rfl ?_
  refine Ak rfl rfl rfl rfl (Az [] ((St.refl nT _ _).lst [] (fun _ h=>h.elim)) (by kernel_rfl) ?_)
  refine Ar (i:=14) (by kernel_rfl) rfl ?_
  refine Ak rfl rfl rfl rfl (Az [] ((St.refl nT _ _).lst [] (fun _ h=>h.elim)) (by kernel_rfl) ?_)
  refine AK (fuel:=5) [] [(15,true),(16,true),(17,true),(18,true),(20,true),(21,true)] (by kernel_rfl) rfl ?_
  refine FD rfl rfl rfl rfl (Bt rfl rfl rfl (Ha rfl rfl rfl rfl rfl (Ha rfl rfl rfl rfl rfl (Ha rfl rfl rfl rfl rfl (Ha rfl rfl rfl rfl rfl (At ?_))))))
  refine Ar (i:=19) (by kernel_rfl) rfl ?_
  refine Ak rfl rfl rfl rfl (Az [] ((St.refl nT _ _).lst [] (fun _ h=>h.elim)) (by kernel_rfl) ?_)
  refine Ar (i:=22) (by kernel_rfl) rfl ?_
  refine Ak rfl rfl rfl rfl (Az [] ((St.refl nT _ _).lst [] (fun _ h=>h.elim)) (by kernel_rfl) ?_)
  refine Ar (i:=23) (by kernel_rfl) rfl ?_
  refine Ak rfl rfl rfl rfl (Az [] ((St.refl nT _ _).lst [] (fun _ h=>h.elim)) (by kernel_rfl) ?_)
  refine AK (fuel:=0) [] [(24,true),(25,true)] (by kernel_rfl) rfl ?_
  refine FD rfl rfl rfl rfl (KK rfl rfl rfl (At ?_))
  refine Bu (by kernel_rfl) ?_
  obtain rfl:=sm a0
  exact ⟨(),_,⟨rfl,trivial⟩,(((((hB.st o0).st n0).st k0).st g0).st f0).st h0⟩
 replace hB:=((hB.st o0).st n0).st k0
 rintro t3 u3 ⟨p2,v3,g1,hB⟩
 refine AC _ g1 ?_
 refine AB ?_
 obtain rfl:=sm hm
 exact ret1v rfl (Au rfl) ⟨hB.ext,vBool⟩
noncomputable def Eu (x0:Tpl) (x1:List Int) (x2:List Hap):Option (List Int) :=
  bnd (Cg x1) fun q30=>bnd (rng (ρ:=(List Int)) (fun (k52:Nat) (a53:Bool) (s50:(List Int))=>bnd (rng (ρ:=Ctl (List Int) (List Int)) (fun (k80:Nat) (a81:Job) (s78:(List Int)×Bool)=>bnd (rng (ρ:=Ctl ((List Int)×Bool) (Ctl (List Int) (List Int))) (fun (k101:Nat) (a102:Hap) (s99:(List Int)×Bool)=>bnd (if a102.job≠(k80:Int) then (some (s99.2,true,a102.fin)) else (if a102.fin=true then (if s99.2=true then (some (true,false,true)) else (some (false,true,true))) else (if s99.2=true then (some (true,true,false)) else (some (false,false,false)))):Option (Bool×Bool×Bool)) fun y131=>if y131.2.1=true then (some (.next (s99.1,y131.1))) else (bnd (Ck x0 (⟨a102.job,y131.2.2⟩:Hap)) fun q144=>bnd (rng (ρ:=Ctl ((List Int)×Bool) (Ctl ((List Int)×Bool) (Ctl (List Int) (List Int)))) (fun (k159:Nat) (a160:Fct) (s157:(List Int))=>bnd (atI s157 a160.var) fun a190=>some (.next (s157.set (a160.var:Int).toNat a160.val))) q144 0 s99.1) fun res155=>fin res155 fun (s208:(List Int))=>some (.next (s208,y131.1)))) x2 0 (s78.1,s78.2)) fun res97=>fin res97 fun (s214:(List Int)×Bool)=>some (.next (s214.1,s214.2))) x0.jobs 0 (s50,a53)) fun res76=>fin res76 fun (s220:(List Int)×Bool)=>some (.next s220.1)) [true,false] 0 q30) fun res48=>fin res48 fun (s226:(List Int))=>some s226
theorem JV {w:World} {A:Nat→Prop} (hA:∀ k,A k→k < w.heap.size) {vx0:Value} {x0:Tpl} (s3:Vb w A vx0 x0) {vx1:Value} {x1:List Int} (r2:Vb w A vx1 x1) {vx2:Value} {x2:List Hap} (e0:Vb w A vx2 x2) {r:(List Int)} (hm:Eu x0 x1 x2=some r) :
    Fn Tryz.prog 121 [vx0,vx1,vx2] w fun v w'=>Ext w w'∧Vb w' (upA A w w') v r:=by
 obtain ⟨O,hB,t3⟩:=enter hA
 replace s3:=s3.mono t3
 obtain ⟨g7,rfl,v5,v6,v7,v8,rfl,h9,i0,j0,f0⟩:=s3
 obtain ⟨w0,y0,rfl⟩:=h9.form
 obtain ⟨z0,a1,rfl⟩:=i0.form
 obtain ⟨b1,c1,rfl⟩:=j0.form
 obtain ⟨d1,e1,rfl⟩:=f0.form
 replace r2:=r2.mono t3
 obtain ⟨h7,i7,rfl⟩:=r2.form
 replace e0:=e0.mono t3
 obtain ⟨s0,t0,rfl⟩:=e0.form
 refine AD Tryz.func121 rfl Tryz.ntmps121 rfl ?_
 unfold Eu at hm
 refine Ab (Aa (BX 2 O rfl rfl fun i1 j5 c5 d2 g0=>?_))
 replace g0:Lc 2 j5 c5 i1 26 [(.slice w0 x0.vars.length y0),(.slice z0 x0.init.length a1),(.slice b1 x0.goal.length c1),(.slice d1 x0.jobs.length e1)]:=g0
 refine Al rfl rfl (o_z ?_)
 refine Ab (Aa (Aj rfl rfl ?_))
 obtain ⟨f1,k5,hm⟩:=bs hm
 replace r2:=r2.st d2
 refine CW 3 (by decide) (O:=c5) (EC Fr.lt r2 k5) rfl rfl fun g1 h1 j7 l5 e2 u3=>?_
 refine Al rfl rfl (o_z ?_)
 refine Ab (Ab (Aa (AL 4 (by decide) l5 (xs:=([true,false]:List Bool)) rfl rfl rfl rfl ⟨vBool,vBool,trivial⟩ (by decide) (by decide) rfl fun k1 k7 m5 z1 k0=>?_)))
 refine AT rfl rfl ?_
 have v3:[true,false].length≤9223372036854775807:=Nat.le_trans k0.len.2.1 k0.len.2.2
 have l7:inI64 ([true,false].length:Int):=rngNat v3
 refine Aj rfl rfl (o_z ?_)
 obtain ⟨t2,w3,hm⟩:=bs hm
 refine Ax (aft t2 (fun (s2:(List Int)) (m3:Unit)=>[(7,(.slice g1 f1.length h1))]) (fun s2 m3 w'=>∃ O':Lab,Bs w A w' O'∧Rw 3 w' O' 3 (.slice g1 f1.length h1) s2)) ?_ ?_
 ·
  refine AN ?_
  replace hB:=((hB.st d2).st e2).st z1
  replace e0:=((e0.st d2).st e2).st z1
  replace h9:=((h9.st d2).st e2).st z1
  replace i0:=((i0.st d2).st e2).st z1
  replace j0:=((j0.st d2).st e2).st z1
  replace f0:=((f0.st d2).st e2).st z1
  replace g0:=(g0.st e2).st z1
  replace u3:=u3.st z1
  refine Bn (σ:=(List Int)) (X:=Unit) ([true,false].length) w3 rfl v3 (fun (s2:(List Int)) (m3:Unit)=>[(2,(.slice s0 x2.length t0)),(3,(.pointer (some ⟨i1,0,none⟩))),(7,(.slice g1 f1.length h1)),(17,(.slice (some ⟨k1,0,none⟩) [true,false].length 2))]) _ (fun s2 m3 w'=>∃ O':Lab,Bs w A w' O'∧Vb w' (Fr 0 w' O') (.slice s0 x2.length t0) x2∧Lc 2 w' O' i1 26 [(.slice w0 x0.vars.length y0),(.slice z0 x0.init.length a1),(.slice b1 x0.goal.length c1),(.slice d1 x0.jobs.length e1)]∧Vb w' (Fr 0 w' O') (.slice w0 x0.vars.length y0) x0.vars∧Vb w' (Fr 0 w' O') (.slice z0 x0.init.length a1) x0.init∧Vb w' (Fr 0 w' O') (.slice b1 x0.goal.length c1) x0.goal∧Vb w' (Fr 0 w' O') (.slice d1 x0.jobs.length e1) x0.jobs∧Rw 3 w' O' 3 (.slice g1 f1.length h1) s2∧Rw 4 w' O' 4 (.slice (some ⟨k1,0,none⟩) [true,false].length 2) [true,false]) _ () ⟨m5,hB,e0,g0,h9,i0,j0,f0,u3,k0⟩ ⟨rfl,rfl,rfl,rfl,rfl,rfl,trivial⟩ (fun _ _=>⟨rfl,rfl⟩) (fun _ _=>⟨rfl,trivial⟩) (fun _ _ _ ⟨O',hB,e0,g0,h9,i0,j0,f0,j2,k0⟩=>⟨O',hB,j2⟩) ⟨rfl,rfl,rfl⟩ ⟨rfl,rfl⟩ ?_
  rintro f2 m7 s2 m3 n7 n5 u2 ⟨o5,hB,e0,g0,h9,i0,j0,f0,j2,k0⟩ r1 x3 y3
  have rk52:inI64 (f2:Int):=rngK u2 v3
  refine Ab (Aa ?_)
  obtain ⟨o7,p7,p5,z3,a4,b4,rfl⟩:=k0.elem u2
  refine Bz (hA:=z3) (hj:=rfl) (hlt:=a4) rfl rfl rfl ?_
  refine Aw (hc:=cat0 b4) rfl rfl ?_
  refine Al rfl rfl (o_z ?_)
  refine Ab (Aa (AA rfl rfl (Aw (hc:=Blk.cell (i:=3) (g0.1) rfl) rfl rfl ?_)))
  refine AT rfl rfl ?_
  have c4:x0.jobs.length≤9223372036854775807:=Nat.le_trans f0.len.2.1 f0.len.2.2
  have q7:inI64 (x0.jobs.length:Int):=rngNat c4
  refine Aj rfl rfl (o_z ?_)
  obtain ⟨v2,d4,r1⟩:=bs r1
  refine Ax (aft v2 (fun (k2:(List Int)×Bool) (n3:Unit)=>[(2,(.slice s0 x2.length t0)),(3,(.pointer (some ⟨i1,0,none⟩))),(7,(.slice g1 f1.length h1)),(17,(.slice (some ⟨k1,0,none⟩) [true,false].length 2)),(18,(.int .i64 ([true,false].length:Int))),(19,(.int .i64 (f2:Int)))]) (fun k2 n3 w'=>∃ O':Lab,Bs w A w' O'∧Vb w' (Fr 0 w' O') (.slice s0 x2.length t0) x2∧Lc 2 w' O' i1 26 [(.slice w0 x0.vars.length y0),(.slice z0 x0.init.length a1),(.slice b1 x0.goal.length c1),(.slice d1 x0.jobs.length e1)]∧Vb w' (Fr 0 w' O') (.slice w0 x0.vars.length y0) x0.vars∧Vb w' (Fr 0 w' O') (.slice z0 x0.init.length a1) x0.init∧Vb w' (Fr 0 w' O') (.slice b1 x0.goal.length c1) x0.goal∧Vb w' (Fr 0 w' O') (.slice d1 x0.jobs.length e1) x0.jobs∧Rw 3 w' O' 3 (.slice g1 f1.length h1) k2.1∧Rw 4 w' O' 4 (.slice (some ⟨k1,0,none⟩) [true,false].length 2) [true,false])) ?_ ?_
  ·
   refine AN (Bn (σ:=(List Int)×Bool) (X:=Unit) (x0.jobs.length) d4 rfl c4 (fun (k2:(List Int)×Bool) (n3:Unit)=>[(2,(.slice s0 x2.length t0)),(3,(.pointer (some ⟨i1,0,none⟩))),(7,(.slice g1 f1.length h1)),(9,(.bool k2.2)),(17,(.slice (some ⟨k1,0,none⟩) [true,false].length 2)),(18,(.int .i64 ([true,false].length:Int))),(19,(.int .i64 (f2:Int)))]) _ (fun k2 n3 w'=>∃ O':Lab,Bs w A w' O'∧Vb w' (Fr 0 w' O') (.slice s0 x2.length t0) x2∧Lc 2 w' O' i1 26 [(.slice w0 x0.vars.length y0),(.slice z0 x0.init.length a1),(.slice b1 x0.goal.length c1),(.slice d1 x0.jobs.length e1)]∧Vb w' (Fr 0 w' O') (.slice w0 x0.vars.length y0) x0.vars∧Vb w' (Fr 0 w' O') (.slice z0 x0.init.length a1) x0.init∧Vb w' (Fr 0 w' O') (.slice b1 x0.goal.length c1) x0.goal∧Vb w' (Fr 0 w' O') (.slice d1 x0.jobs.length e1) x0.jobs∧Rw 3 w' O' 3 (.slice g1 f1.length h1) k2.1∧Rw 4 w' O' 4 (.slice (some ⟨k1,0,none⟩) [true,false].length 2) [true,false]) _ () ⟨o5,hB,e0,g0,h9,i0,j0,f0,j2,k0⟩ ⟨rfl,rfl,rfl,rfl,rfl,rfl,rfl,rfl,rfl,trivial⟩ (fun _ _=>⟨rfl,rfl⟩) (fun _ _=>⟨rfl,rfl,rfl,rfl,rfl,rfl,trivial⟩) (fun _ _ _ ⟨O',hB,e0,g0,h9,i0,j0,f0,w2,k0⟩=>⟨O',hB,e0,g0,h9,i0,j0,f0,w2,k0⟩) ⟨rfl,rfl,rfl⟩ ⟨rfl,rfl⟩ ?_)
   rintro y1 r7 k2 n3 s7 q5 e4 ⟨r5,hB,e0,g0,h9,i0,j0,f0,w2,k0⟩ s1 f4 g4
   have rk80:inI64 (y1:Int):=rngK e4 c4
   refine Ab (Aa (Aj rfl rfl (Al rfl rfl (o_z ?_))))
   refine Ab (Aa (Aj rfl rfl (AT rfl rfl ?_)))
   have h4:x2.length≤9223372036854775807:=Nat.le_trans e0.len.2.1 e0.len.2.2
   have t7:inI64 (x2.length:Int):=rngNat h4
   refine Aj rfl rfl (o_z ?_)
   obtain ⟨y2,i4,s1⟩:=bs s1
   refine Ax (aft y2 (fun (t1:(List Int)×Bool) (a2:Unit)=>[(2,(.slice s0 x2.length t0)),(3,(.pointer (some ⟨i1,0,none⟩))),(7,(.slice g1 f1.length h1)),(9,(.bool t1.2)),(17,(.slice (some ⟨k1,0,none⟩) [true,false].length 2)),(18,(.int .i64 ([true,false].length:Int))),(19,(.int .i64 (f2:Int))),(25,(.int .i64 (x0.jobs.length:Int))),(26,(.int .i64 (y1:Int)))]) (fun t1 a2 w'=>∃ O':Lab,Bs w A w' O'∧Vb w' (Fr 0 w' O') (.slice s0 x2.length t0) x2∧Lc 2 w' O' i1 26 [(.slice w0 x0.vars.length y0),(.slice z0 x0.init.length a1),(.slice b1 x0.goal.length c1),(.slice d1 x0.jobs.length e1)]∧Vb w' (Fr 0 w' O') (.slice w0 x0.vars.length y0) x0.vars∧Vb w' (Fr 0 w' O') (.slice z0 x0.init.length a1) x0.init∧Vb w' (Fr 0 w' O') (.slice b1 x0.goal.length c1) x0.goal∧Vb w' (Fr 0 w' O') (.slice d1 x0.jobs.length e1) x0.jobs∧Rw 3 w' O' 3 (.slice g1 f1.length h1) t1.1∧Rw 4 w' O' 4 (.slice (some ⟨k1,0,none⟩) [true,false].length 2) [true,false])) ?_ ?_
   ·
    refine AN (Bn (σ:=(List Int)×Bool) (X:=Unit) (x2.length) i4 rfl h4 (fun (t1:(List Int)×Bool) (a2:Unit)=>[(2,(.slice s0 x2.length t0)),(3,(.pointer (some ⟨i1,0,none⟩))),(7,(.slice g1 f1.length h1)),(9,(.bool t1.2)),(10,(.int .i64 (y1:Int))),(17,(.slice (some ⟨k1,0,none⟩) [true,false].length 2)),(18,(.int .i64 ([true,false].length:Int))),(19,(.int .i64 (f2:Int))),(25,(.int .i64 (x0.jobs.length:Int))),(26,(.int .i64 (y1:Int))),(29,(.slice s0 x2.length t0))]) _ (fun t1 a2 w'=>∃ O':Lab,Bs w A w' O'∧Vb w' (Fr 0 w' O') (.slice s0 x2.length t0) x2∧Lc 2 w' O' i1 26 [(.slice w0 x0.vars.length y0),(.slice z0 x0.init.length a1),(.slice b1 x0.goal.length c1),(.slice d1 x0.jobs.length e1)]∧Vb w' (Fr 0 w' O') (.slice w0 x0.vars.length y0) x0.vars∧Vb w' (Fr 0 w' O') (.slice z0 x0.init.length a1) x0.init∧Vb w' (Fr 0 w' O') (.slice b1 x0.goal.length c1) x0.goal∧Vb w' (Fr 0 w' O') (.slice d1 x0.jobs.length e1) x0.jobs∧Rw 3 w' O' 3 (.slice g1 f1.length h1) t1.1∧Rw 4 w' O' 4 (.slice (some ⟨k1,0,none⟩) [true,false].length 2) [true,false]) _ () ⟨r5,hB,e0,g0,h9,i0,j0,f0,w2,k0⟩ ⟨rfl,rfl,rfl,rfl,rfl,rfl,rfl,rfl,rfl,rfl,rfl,rfl,rfl,trivial⟩ (fun _ _=>⟨rfl,rfl⟩) (fun _ _=>⟨rfl,rfl,rfl,rfl,rfl,rfl,rfl,rfl,rfl,trivial⟩) (fun _ _ _ ⟨O',hB,e0,g0,h9,i0,j0,f0,m0,k0⟩=>⟨O',hB,e0,g0,h9,i0,j0,f0,m0,k0⟩) ⟨rfl,rfl,rfl⟩ ⟨rfl,rfl⟩ ?_)
    rintro b2 o1 t1 a2 s5 d5 g2 ⟨j4,hB,e0,g0,h9,i0,j0,f0,m0,k0⟩ d0 o3 p3
    have rk101:inI64 (b2:Int):=rngK g2 h4
    refine Ab (Aa ?_)
    obtain ⟨t5,u5,e5,z2,a3,b3,rfl,k4⟩:=e0.elem' g2
    refine Bz (hA:=z2) (hj:=rfl) (hlt:=a3) rfl rfl rfl ?_
    refine Bp (hl:=rfl) (hc:=b3) rfl rfl ?_
    refine AS 5 j4 rfl fun l2 w5 l4 a0 n0=>?_
    refine Ay n0 rfl rfl rfl (AJ rfl) (allOne rfl) fun m4 b0 n0=>?_
    replace n0:Lc 5 m4 l4 l2 182 [(.int .i64 o1.job),(.bool o1.fin)]:=n0
    refine o_z ?_
    refine Ab (Ab ?_)
    obtain ⟨l1,c0,d0⟩:=bs d0
    refine Ax (fun l' w'=>∃ (n4:Unit) (O':Lab),subs l' [(2,(.slice s0 x2.length t0)),(3,(.pointer (some ⟨i1,0,none⟩))),(7,(.slice g1 f1.length h1)),(9,(.bool l1.1)),(10,(.int .i64 (y1:Int))),(12,(.pointer (some ⟨l2,0,none⟩))),(17,(.slice (some ⟨k1,0,none⟩) [true,false].length 2)),(18,(.int .i64 ([true,false].length:Int))),(19,(.int .i64 (f2:Int))),(25,(.int .i64 (x0.jobs.length:Int))),(26,(.int .i64 (y1:Int))),(29,(.slice s0 x2.length t0)),(30,(.int .i64 (x2.length:Int))),(31,(.int .i64 (b2:Int))),(44,(.bool l1.2.1))]∧Bs w A w' O'∧Vb w' (Fr 0 w' O') (.slice s0 x2.length t0) x2∧Lc 2 w' O' i1 26 [(.slice w0 x0.vars.length y0),(.slice z0 x0.init.length a1),(.slice b1 x0.goal.length c1),(.slice d1 x0.jobs.length e1)]∧Vb w' (Fr 0 w' O') (.slice w0 x0.vars.length y0) x0.vars∧Vb w' (Fr 0 w' O') (.slice z0 x0.init.length a1) x0.init∧Vb w' (Fr 0 w' O') (.slice b1 x0.goal.length c1) x0.goal∧Vb w' (Fr 0 w' O') (.slice d1 x0.jobs.length e1) x0.jobs∧Rw 3 w' O' 3 (.slice g1 f1.length h1) t1.1∧Lc 5 w' O' l2 182 [(.int .i64 o1.job),(.bool l1.2.2)]∧Rw 4 w' O' 4 (.slice (some ⟨k1,0,none⟩) [true,false].length 2) [true,false]) ?_ ?_
    ·
     refine Aa (AA rfl rfl (Aw (hc:=Blk.cell (i:=0) (n0.1) rfl) rfl rfl ?_))
     refine Aj rfl rfl (MF rfl rfl rfl (fun m2=>?_) fun m2=>?_)
     ·
      replace c0:=ip c0 m2
      refine Aj rfl rfl (Ak rfl rfl rfl rfl (Ak rfl rfl rfl rfl (Ak rfl rfl rfl rfl (Ak rfl rfl rfl rfl (Bv rfl rfl rfl (o_z ?_))))))
      obtain rfl:=sm c0
      exact ⟨(),_,⟨rfl,rfl,rfl,rfl,rfl,rfl,rfl,rfl,rfl,rfl,rfl,rfl,rfl,rfl,rfl,trivial⟩,(hB.st a0).st b0,(e0.st a0).st b0,(g0.st a0).st b0,(h9.st a0).st b0,(i0.st a0).st b0,(j0.st a0).st b0,(f0.st a0).st b0,(m0.st a0).st b0,n0,(k0.st a0).st b0⟩
     replace c0:=im c0 m2
     refine Aj rfl rfl (Am rfl rfl (AA rfl rfl (Am rfl rfl (Aw (hc:=Blk.cell (i:=1) (n0.1) rfl) rfl rfl ?_))))
     refine Am rfl rfl (Aj rfl rfl (Am rfl rfl ?_))
     rcases Bool.eq_false_or_eq_true o1.fin with m1|m1
     ·
      try rw [m1]
      rw [m1] at n0
      replace c0:=ip c0 m1
      rcases Bool.eq_false_or_eq_true t1.2 with u1|u1
      ·
       try simp only [u1]
       replace c0:=ip c0 u1
       refine ML rfl rfl rfl (Bg rfl rfl rfl (o_z ?_))
       obtain rfl:=sm c0
       exact ⟨(),_,⟨rfl,rfl,rfl,rfl,rfl,rfl,rfl,rfl,rfl,rfl,rfl,rfl,rfl,rfl,rfl,trivial⟩,(hB.st a0).st b0,(e0.st a0).st b0,(g0.st a0).st b0,(h9.st a0).st b0,(i0.st a0).st b0,(j0.st a0).st b0,(f0.st a0).st b0,(m0.st a0).st b0,n0,(k0.st a0).st b0⟩
      try simp only [u1]
      replace c0:=im' c0 u1
      refine ML rfl rfl rfl (Bg rfl rfl rfl (o_z ?_))
      obtain rfl:=sm c0
      exact ⟨(),_,⟨rfl,rfl,rfl,rfl,rfl,rfl,rfl,rfl,rfl,rfl,rfl,rfl,rfl,rfl,rfl,trivial⟩,(hB.st a0).st b0,(e0.st a0).st b0,(g0.st a0).st b0,(h9.st a0).st b0,(i0.st a0).st b0,(j0.st a0).st b0,(f0.st a0).st b0,(m0.st a0).st b0,n0,(k0.st a0).st b0⟩
     try rw [m1]
     rw [m1] at n0
     replace c0:=im' c0 m1
     rcases Bool.eq_false_or_eq_true t1.2 with v1|v1
     ·
      try simp only [v1]
      replace c0:=ip c0 v1
      refine ML rfl rfl rfl (Bg rfl rfl rfl (o_z ?_))
      obtain rfl:=sm c0
      exact ⟨(),_,⟨rfl,rfl,rfl,rfl,rfl,rfl,rfl,rfl,rfl,rfl,rfl,rfl,rfl,rfl,rfl,trivial⟩,(hB.st a0).st b0,(e0.st a0).st b0,(g0.st a0).st b0,(h9.st a0).st b0,(i0.st a0).st b0,(j0.st a0).st b0,(f0.st a0).st b0,(m0.st a0).st b0,n0,(k0.st a0).st b0⟩
     try simp only [v1]
     replace c0:=im' c0 v1
     refine ML rfl rfl rfl (Bg rfl rfl rfl (o_z ?_))
     obtain rfl:=sm c0
     exact ⟨(),_,⟨rfl,rfl,rfl,rfl,rfl,rfl,rfl,rfl,rfl,rfl,rfl,rfl,rfl,rfl,rfl,trivial⟩,(hB.st a0).st b0,(e0.st a0).st b0,(g0.st a0).st b0,(h9.st a0).st b0,(i0.st a0).st b0,(j0.st a0).st b0,(f0.st a0).st b0,(m0.st a0).st b0,n0,(k0.st a0).st b0⟩
    replace hB:=(hB.st a0).st b0
    replace e0:=(e0.st a0).st b0
    replace h9:=(h9.st a0).st b0
    replace i0:=(i0.st a0).st b0
    replace j0:=(j0.st a0).st b0
    replace f0:=(f0.st a0).st b0
    replace g0:=(g0.st a0).st b0
    replace k0:=(k0.st a0).st b0
    replace m0:=(m0.st a0).st b0
    rintro x5 y5 ⟨n4,o4,c3,hB,e0,g0,h9,i0,j0,f0,m0,n0,k0⟩
    refine AC _ c3 ?_
    refine CB rfl (fun n2=>?_) (fun n2=>?_)
    ·
     replace d0:=ip d0 n2
     refine Hr ?_
     obtain rfl:=sm d0
     exact show Exists _ from ⟨_,(),rfl,⟨rfl,rfl,rfl,rfl,rfl,rfl,rfl,rfl,rfl,rfl,rfl,rfl,rfl,trivial⟩,_,hB,e0,g0,h9,i0,j0,f0,m0,k0⟩
    replace d0:=im' d0 n2
    refine AQ (Ab (Aa (Bp (hl:=rfl) (hc:=(g0.1).cellsAt) rfl rfl ?_)))
    refine Bp (hl:=rfl) (hc:=(n0.1).cellsAt) rfl rfl ?_
    obtain ⟨n1,p4,d0⟩:=bs d0
    refine Cc (O:=o4) (R:=fun w' F v=>Vb w' F v n1) (Ed Fr.lt (Vb.ofAgg (cs:=[(.slice w0 x0.vars.length y0),(.slice z0 x0.init.length a1),(.slice b1 x0.goal.length c1),(.slice d1 x0.jobs.length e1)]) (x:=x0) rfl ⟨_,_,_,_,rfl,h9,i0,j0,f0⟩) (Vb.ofAgg (cs:=[(.int .i64 o1.job),(.bool l1.2.2)]) (x:=(⟨o1.job,l1.2.2⟩:Hap)) rfl ⟨rfl,k4⟩) p4) rfl rfl fun z5 a6 q4 l0 j1=>?_
    obtain ⟨d3,e3,rfl⟩:=j1.form
    refine AT rfl rfl ?_
    have o2:n1.length≤9223372036854775807:=Nat.le_trans j1.len.2.1 j1.len.2.2
    have b6:inI64 (n1.length:Int):=rngNat o2
    refine Aj rfl rfl (o_z ?_)
    obtain ⟨p2,f3,d0⟩:=bs d0
    refine Ax (aft p2 (fun (p1:(List Int)) (c2:Unit)=>[(2,(.slice s0 x2.length t0)),(3,(.pointer (some ⟨i1,0,none⟩))),(7,(.slice g1 f1.length h1)),(9,(.bool l1.1)),(10,(.int .i64 (y1:Int))),(17,(.slice (some ⟨k1,0,none⟩) [true,false].length 2)),(18,(.int .i64 ([true,false].length:Int))),(19,(.int .i64 (f2:Int))),(25,(.int .i64 (x0.jobs.length:Int))),(26,(.int .i64 (y1:Int))),(29,(.slice s0 x2.length t0)),(30,(.int .i64 (x2.length:Int))),(31,(.int .i64 (b2:Int)))]) (fun p1 c2 w'=>∃ O':Lab,Bs w A w' O'∧Vb w' (Fr 0 w' O') (.slice s0 x2.length t0) x2∧Lc 2 w' O' i1 26 [(.slice w0 x0.vars.length y0),(.slice z0 x0.init.length a1),(.slice b1 x0.goal.length c1),(.slice d1 x0.jobs.length e1)]∧Vb w' (Fr 0 w' O') (.slice w0 x0.vars.length y0) x0.vars∧Vb w' (Fr 0 w' O') (.slice z0 x0.init.length a1) x0.init∧Vb w' (Fr 0 w' O') (.slice b1 x0.goal.length c1) x0.goal∧Vb w' (Fr 0 w' O') (.slice d1 x0.jobs.length e1) x0.jobs∧Rw 3 w' O' 3 (.slice g1 f1.length h1) p1∧Rw 4 w' O' 4 (.slice (some ⟨k1,0,none⟩) [true,false].length 2) [true,false])) ?_ ?_
    ·
     refine AN ?_
     replace hB:=hB.st l0
     replace e0:=e0.st l0
     replace h9:=h9.st l0
     replace i0:=i0.st l0
     replace j0:=j0.st l0
     replace f0:=f0.st l0
     replace g0:=g0.st l0
     replace k0:=k0.st l0
     replace m0:=m0.st l0
     refine Bn (σ:=(List Int)) (X:=Unit) (n1.length) f3 rfl o2 (fun (p1:(List Int)) (c2:Unit)=>[(2,(.slice s0 x2.length t0)),(3,(.pointer (some ⟨i1,0,none⟩))),(7,(.slice g1 f1.length h1)),(9,(.bool l1.1)),(10,(.int .i64 (y1:Int))),(17,(.slice (some ⟨k1,0,none⟩) [true,false].length 2)),(18,(.int .i64 ([true,false].length:Int))),(19,(.int .i64 (f2:Int))),(25,(.int .i64 (x0.jobs.length:Int))),(26,(.int .i64 (y1:Int))),(29,(.slice s0 x2.length t0)),(30,(.int .i64 (x2.length:Int))),(31,(.int .i64 (b2:Int))),(47,(.slice d3 n1.length e3))]) _ (fun p1 c2 w'=>∃ O':Lab,Bs w A w' O'∧Vb w' (Fr 0 w' O') (.slice s0 x2.length t0) x2∧Lc 2 w' O' i1 26 [(.slice w0 x0.vars.length y0),(.slice z0 x0.init.length a1),(.slice b1 x0.goal.length c1),(.slice d1 x0.jobs.length e1)]∧Vb w' (Fr 0 w' O') (.slice w0 x0.vars.length y0) x0.vars∧Vb w' (Fr 0 w' O') (.slice z0 x0.init.length a1) x0.init∧Vb w' (Fr 0 w' O') (.slice b1 x0.goal.length c1) x0.goal∧Vb w' (Fr 0 w' O') (.slice d1 x0.jobs.length e1) x0.jobs∧Rw 3 w' O' 3 (.slice g1 f1.length h1) p1∧Rw 4 w' O' 4 (.slice (some ⟨k1,0,none⟩) [true,false].length 2) [true,false]∧Vb w' (Fr 0 w' O') (.slice d3 n1.length e3) n1) _ () ⟨q4,hB,e0,g0,h9,i0,j0,f0,m0,k0,j1⟩ ⟨rfl,rfl,rfl,rfl,rfl,rfl,rfl,rfl,rfl,rfl,rfl,rfl,rfl,rfl,rfl,rfl,trivial⟩ (fun _ _=>⟨rfl,rfl⟩) (fun _ _=>⟨rfl,rfl,rfl,rfl,rfl,rfl,rfl,rfl,rfl,rfl,rfl,rfl,rfl,trivial⟩) (fun _ _ _ ⟨O',hB,e0,g0,h9,i0,j0,f0,p0,k0,j1⟩=>⟨O',hB,e0,g0,h9,i0,j0,f0,p0,k0⟩) ⟨rfl,rfl,rfl⟩ ⟨rfl,rfl⟩ ?_
     rintro r4 q2 p1 c2 c6 f5 h2 ⟨s4,hB,e0,g0,h9,i0,j0,f0,p0,k0,j1⟩ w1 q3 r3
     have rk159:inI64 (r4:Int):=rngK h2 o2
     refine Ab (Aa ?_)
     obtain ⟨d6,e6,g5,g3,h3,i3,rfl,f6,t4⟩:=j1.elem' h2
     refine Bz (hA:=g3) (hj:=rfl) (hlt:=h3) rfl rfl rfl ?_
     refine Bp (hl:=rfl) (hc:=i3) rfl rfl ?_
     refine AS 6 s4 rfl fun u4 g6 v4 q0 q1=>?_
     refine Ay q1 rfl rfl rfl (AJ rfl) (allOne rfl) fun w4 r0 q1=>?_
     replace q1:Lc 6 w4 v4 u4 78 [(.int .i64 q2.var),(.int .i64 q2.val)]:=q1
     refine o_z ?_
     refine Aa (Aj rfl rfl (AA rfl rfl (Aw (hc:=Blk.cell (i:=0) (q1.1) rfl) rfl rfl ?_)))
     refine AA rfl rfl (Aw (hc:=Blk.cell (i:=1) (q1.1) rfl) rfl rfl ?_)
     obtain ⟨h6,x4,w1⟩:=bs w1
     obtain ⟨y4,j3⟩:=CX x4
     replace p0:=(p0.st q0).st r0
     obtain ⟨i6,j6,h5,i2,k3,i5,rfl,k6⟩:=p0.elem j3
     refine Bz (hA:=i2) (hj:=(Int.toNat_of_nonneg y4).symm) (hlt:=k3) rfl rfl rfl ?_
     refine Kk rfl p0 (a:=q2.val) (vInt t4) i2 rfl rfl (CM j3) fun l6 v0 p0=>?_
     refine o_z ?_
     obtain rfl:=sm w1
     exact show Exists _ from ⟨_,(),rfl,⟨rfl,rfl,rfl,rfl,rfl,rfl,rfl,rfl,rfl,rfl,rfl,rfl,rfl,rfl,rfl,rfl,trivial⟩,_,((hB.st q0).st r0).st v0,((e0.st q0).st r0).st v0,((g0.st q0).st r0).st v0,((h9.st q0).st r0).st v0,((i0.st q0).st r0).st v0,((j0.st q0).st r0).st v0,((f0.st q0).st r0).st v0,p0,((k0.st q0).st r0).st v0,((j1.st q0).st r0).st v0⟩
    replace hB:=hB.st l0
    replace e0:=e0.st l0
    replace h9:=h9.st l0
    replace i0:=i0.st l0
    replace j0:=j0.st l0
    replace f0:=f0.st l0
    replace g0:=g0.st l0
    replace k0:=k0.st l0
    rintro m6 n6 ⟨o6,p6,rfl,h0,q6,hB,e0,g0,h9,i0,j0,f0,p0,k0⟩
    replace d0:=AX d0
    obtain rfl:=sm d0
    exact show Exists _ from ⟨_,(),rfl,⟨(Bc h0 _ _ rfl),(Bc h0 _ _ rfl),(Bc h0 _ _ rfl),(Bc h0 _ _ rfl),(Bc h0 _ _ rfl),(Bc h0 _ _ rfl),(Bc h0 _ _ rfl),(Bc h0 _ _ rfl),(Bc h0 _ _ rfl),(Bc h0 _ _ rfl),(Bc h0 _ _ rfl),(Bc h0 _ _ rfl),(Bc h0 _ _ rfl),trivial⟩,_,hB,e0,g0,h9,i0,j0,f0,p0,k0⟩
   rintro r6 s6 ⟨t6,u6,rfl,o0,w6,hB,e0,g0,h9,i0,j0,f0,m0,k0⟩
   replace s1:=AX s1
   obtain rfl:=sm s1
   exact show Exists _ from ⟨_,(),rfl,⟨(Bc o0 _ _ rfl),(Bc o0 _ _ rfl),(Bc o0 _ _ rfl),(Bc o0 _ _ rfl),(Bc o0 _ _ rfl),(Bc o0 _ _ rfl),(Bc o0 _ _ rfl),(Bc o0 _ _ rfl),(Bc o0 _ _ rfl),trivial⟩,_,hB,e0,g0,h9,i0,j0,f0,m0,k0⟩
  rintro x6 y6 ⟨z6,a7,rfl,u0,b7,hB,e0,g0,h9,i0,j0,f0,w2,k0⟩
  replace r1:=AX r1
  obtain rfl:=sm r1
  exact show Exists _ from ⟨_,(),rfl,⟨(Bc u0 _ _ rfl),(Bc u0 _ _ rfl),(Bc u0 _ _ rfl),(Bc u0 _ _ rfl),(Bc u0 _ _ rfl),(Bc u0 _ _ rfl),trivial⟩,_,hB,e0,g0,h9,i0,j0,f0,w2,k0⟩
 replace hB:=((hB.st d2).st e2).st z1
 rintro c7 z4 ⟨d7,e7,rfl,l3,f7,hB,j2⟩
 replace hm:=AX hm
 refine AC _ l3 ?_
 refine Ab (Aa (Aj rfl rfl (Al rfl rfl (o_z ?_))))
 refine AB ?_
 obtain ⟨a5,b5,j2⟩:=j2.freeze
 obtain rfl:=sm hm
 replace hB:=hB.st b5
 exact ret1v rfl (Au rfl) ⟨hB.ext,(Vb.mono (F:=Fr 0 z4 a5) j2 hB.out)⟩
noncomputable def EI (x0:Tpl) (x1:List Lch) (x2:Int) (x3:List Int) (x4:List Hap):Option ((List Int)×Err) :=
  bnd (DF x0 x1 x2) fun q34=>if q34=true then some (([]:List Int),(⟨18⟩:Err)) else bnd (rng (ρ:=(List Int)×Err) (fun (k47:Nat) (a48:Hap) (s45:Unit)=>bnd (rngN (ρ:=Ctl Unit ((List Int)×Err)) (fun (k62:Nat) (s60:Unit)=>bnd (x4[k62]?) fun a81=>bnd (Do x0 a48 a81) fun q91=>if q91=true then some (.ret (.ret (([]:List Int),(⟨17⟩:Err)))) else some (.next ())) k47 ()) fun res58=>fin res58 fun (s102:Unit)=>some (.next ())) x4 0 ()) fun res43=>fin res43 fun (s108:Unit)=>bnd (rng (ρ:=(List Int)×Err) (fun (k116:Nat) (a117:Hap) (s114:Unit)=>bnd (CV x0 a117) fun q142=>bnd (Et q142 x3) fun q151=>if q151=true then some (.next ()) else some (.ret (([]:List Int),(⟨12⟩:Err)))) x4 0 ()) fun res112=>fin res112 fun (s162:Unit)=>bnd (Eu x0 x3 x4) fun q164=>bnd (rng (ρ:=(List Int)×Err) (fun (k179:Nat) (a180:Lch) (s177:Unit)=>bnd (if a180.tm≤x2 then (bnd (CY x0 a180) fun q211=>if x2 < q211 then (bnd (atI x0.jobs a180.job) fun a220=>bnd (Et a220.over q164) fun q253=>if q253=true then some false else some true) else (some false)) else (some false):Option Bool) fun y206=>if y206=true then (some (.ret (([]:List Int),(⟨16⟩:Err)))) else (some (.next ()))) x1 0 ()) fun res175=>fin res175 fun (s269:Unit)=>some (q164,(⟨0⟩:Err))
theorem Kx {w:World} {A:Nat→Prop} (hA:∀ k,A k→k < w.heap.size) {vx0:Value} {x0:Tpl} (i4:Vb w A vx0 x0) {vx1:Value} {x1:List Lch} (j0:Vb w A vx1 x1) {x2:Int} (rx2:inI64 x2) {vx3:Value} {x3:List Int} (o0:Vb w A vx3 x3) {vx4:Value} {x4:List Hap} (n0:Vb w A vx4 x4) {r:(List Int)×Err} (hm:EI x0 x1 x2 x3 x4=some r) :
    Fn Tryz.prog 72 [vx0,vx1,(.int .i64 x2),vx3,vx4] w fun v w'=>Ext w w'∧T2 w' (upA A w w') v r:=by
 obtain ⟨O,hB,y3⟩:=enter hA
 replace i4:=i4.mono y3
 obtain ⟨p9,rfl,v7,v8,v9,q9,rfl,f0,g0,h0,d0⟩:=i4
 obtain ⟨r0,s0,rfl⟩:=f0.form
 obtain ⟨t0,u0,rfl⟩:=g0.form
 obtain ⟨v0,w0,rfl⟩:=h0.form
 obtain ⟨y0,z0,rfl⟩:=d0.form
 replace j0:=j0.mono y3
 obtain ⟨k1,l1,rfl⟩:=j0.form
 replace o0:=o0.mono y3
 obtain ⟨r1,s1,rfl⟩:=o0.form
 replace n0:=n0.mono y3
 obtain ⟨m1,n1,rfl⟩:=n0.form
 refine AD Tryz.func72 rfl Tryz.ntmps72 rfl ?_
 unfold EI at hm
 refine Ab (Aa (BX 2 O rfl rfl fun i1 z3 a4 t1 e0=>?_))
 replace e0:Lc 2 z3 a4 i1 26 [(.slice r0 x0.vars.length s0),(.slice t0 x0.init.length u0),(.slice v0 x0.goal.length w0),(.slice y0 x0.jobs.length z0)]:=e0
 refine Al rfl rfl (Al rfl rfl (o_z ?_))
 refine Ab (Ab (Aa (Bp (hl:=rfl) (hc:=(e0.1).cellsAt) rfl rfl ?_)))
 refine Aj rfl rfl (Aj rfl rfl ?_)
 obtain ⟨l6,t6,hm⟩:=bs hm
 replace j0:=j0.st t1
 replace f0:=f0.st t1
 replace g0:=g0.st t1
 replace h0:=h0.st t1
 replace d0:=d0.st t1
 refine AF (O:=a4) (A:=All z3) (R:=fun w' F v=>Vb w' F v l6) (IL (fun _ h=>h) (Vb.mono (F:=Fr 0 z3 a4) (Vb.ofAgg (cs:=[(.slice r0 x0.vars.length s0),(.slice t0 x0.init.length u0),(.slice v0 x0.goal.length w0),(.slice y0 x0.jobs.length z0)]) (x:=x0) rfl ⟨_,_,_,_,rfl,f0,g0,h0,d0⟩) Fr.lt) (Vb.mono (F:=Fr 0 z3 a4) j0 Fr.lt) rx2 t6) rfl rfl fun r9 u6 m6 h1 v6=>?_
 obtain rfl:=v6.bool
 cases l6
 case false =>
  replace hm:=iF hm
  refine o_z ?_
  refine Ae rfl (AQ (Ab (Ab (Aa (Aj rfl rfl (AT rfl rfl ?_))))))
  replace n0:=(n0.st t1).st h1
  have j4:x4.length≤9223372036854775807:=Nat.le_trans n0.len.2.1 n0.len.2.2
  have s9:inI64 (x4.length:Int):=rngNat j4
  refine Aj rfl rfl (o_z ?_)
  obtain ⟨w2,k4,hm⟩:=bs hm
  refine Ax (aft w2 (fun (b4:Unit) (c4:Unit)=>[(1,(.slice k1 x1.length l1)),(2,(.int .i64 x2)),(3,(.slice r1 x3.length s1)),(4,(.slice m1 x4.length n1)),(5,(.pointer (some ⟨i1,0,none⟩)))]) (fun b4 c4 w'=>∃ O':Lab,Bs w A w' O'∧Vb w' (Fr 0 w' O') (.slice k1 x1.length l1) x1∧Vb w' (Fr 0 w' O') (.slice r1 x3.length s1) x3∧Vb w' (Fr 0 w' O') (.slice m1 x4.length n1) x4∧Lc 2 w' O' i1 26 [(.slice r0 x0.vars.length s0),(.slice t0 x0.init.length u0),(.slice v0 x0.goal.length w0),(.slice y0 x0.jobs.length z0)]∧Vb w' (Fr 0 w' O') (.slice r0 x0.vars.length s0) x0.vars∧Vb w' (Fr 0 w' O') (.slice t0 x0.init.length u0) x0.init∧Vb w' (Fr 0 w' O') (.slice v0 x0.goal.length w0) x0.goal∧Vb w' (Fr 0 w' O') (.slice y0 x0.jobs.length z0) x0.jobs)) ?_ ?_
  ·
   refine AN ?_
   replace hB:=(hB.st t1).st h1
   replace j0:=j0.st h1
   replace o0:=(o0.st t1).st h1
   replace f0:=f0.st h1
   replace g0:=g0.st h1
   replace h0:=h0.st h1
   replace d0:=d0.st h1
   replace e0:=e0.st h1
   refine Bn (σ:=Unit) (X:=Unit) (x4.length) k4 rfl j4 (fun (b4:Unit) (c4:Unit)=>[(1,(.slice k1 x1.length l1)),(2,(.int .i64 x2)),(3,(.slice r1 x3.length s1)),(4,(.slice m1 x4.length n1)),(5,(.pointer (some ⟨i1,0,none⟩)))]) _ (fun b4 c4 w'=>∃ O':Lab,Bs w A w' O'∧Vb w' (Fr 0 w' O') (.slice k1 x1.length l1) x1∧Vb w' (Fr 0 w' O') (.slice r1 x3.length s1) x3∧Vb w' (Fr 0 w' O') (.slice m1 x4.length n1) x4∧Lc 2 w' O' i1 26 [(.slice r0 x0.vars.length s0),(.slice t0 x0.init.length u0),(.slice v0 x0.goal.length w0),(.slice y0 x0.jobs.length z0)]∧Vb w' (Fr 0 w' O') (.slice r0 x0.vars.length s0) x0.vars∧Vb w' (Fr 0 w' O') (.slice t0 x0.init.length u0) x0.init∧Vb w' (Fr 0 w' O') (.slice v0 x0.goal.length w0) x0.goal∧Vb w' (Fr 0 w' O') (.slice y0 x0.jobs.length z0) x0.jobs) _ () ⟨m6,hB,j0,o0,n0,e0,f0,g0,h0,d0⟩ ⟨rfl,rfl,rfl,rfl,rfl,rfl,rfl,trivial⟩ (fun _ _=>⟨rfl,rfl⟩) (fun _ _=>⟨rfl,rfl,rfl,rfl,rfl,trivial⟩) (fun _ _ _ ⟨O',hB,j0,o0,n0,e0,f0,g0,h0,d0⟩=>⟨O',hB,j0,o0,n0,e0,f0,g0,h0,d0⟩) ⟨rfl,rfl,rfl⟩ ⟨rfl,rfl⟩ ?_
   rintro y2 l4 b4 c4 t9 w6 z2 ⟨x6,hB,j0,o0,n0,e0,f0,g0,h0,d0⟩ o1 j2 m4
   have rk47:inI64 (y2:Int):=rngK z2 j4
   refine Ab (Aa (Aj rfl rfl (Al rfl rfl (o_z ?_))))
   refine Ab (Aa (Aj rfl rfl (Aj rfl rfl (o_z ?_))))
   obtain ⟨a3,n4,o1⟩:=bs o1
   refine Ax (aft a3 (fun (d4:Unit) (e4:Unit)=>[(1,(.slice k1 x1.length l1)),(2,(.int .i64 x2)),(3,(.slice r1 x3.length s1)),(4,(.slice m1 x4.length n1)),(5,(.pointer (some ⟨i1,0,none⟩))),(25,(.int .i64 (x4.length:Int))),(26,(.int .i64 (y2:Int)))]) (fun d4 e4 w'=>∃ O':Lab,Bs w A w' O'∧Vb w' (Fr 0 w' O') (.slice k1 x1.length l1) x1∧Vb w' (Fr 0 w' O') (.slice r1 x3.length s1) x3∧Vb w' (Fr 0 w' O') (.slice m1 x4.length n1) x4∧Lc 2 w' O' i1 26 [(.slice r0 x0.vars.length s0),(.slice t0 x0.init.length u0),(.slice v0 x0.goal.length w0),(.slice y0 x0.jobs.length z0)]∧Vb w' (Fr 0 w' O') (.slice r0 x0.vars.length s0) x0.vars∧Vb w' (Fr 0 w' O') (.slice t0 x0.init.length u0) x0.init∧Vb w' (Fr 0 w' O') (.slice v0 x0.goal.length w0) x0.goal∧Vb w' (Fr 0 w' O') (.slice y0 x0.jobs.length z0) x0.jobs)) ?_ ?_
   ·
    refine AN (Hv (σ:=Unit) (X:=Unit) (y2) n4 (rngNat' rk47) (fun (d4:Unit) (e4:Unit)=>[(1,(.slice k1 x1.length l1)),(2,(.int .i64 x2)),(3,(.slice r1 x3.length s1)),(4,(.slice m1 x4.length n1)),(5,(.pointer (some ⟨i1,0,none⟩))),(12,(.int .i64 (y2:Int))),(25,(.int .i64 (x4.length:Int))),(26,(.int .i64 (y2:Int)))]) _ (fun d4 e4 w'=>∃ O':Lab,Bs w A w' O'∧Vb w' (Fr 0 w' O') (.slice k1 x1.length l1) x1∧Vb w' (Fr 0 w' O') (.slice r1 x3.length s1) x3∧Vb w' (Fr 0 w' O') (.slice m1 x4.length n1) x4∧Lc 2 w' O' i1 26 [(.slice r0 x0.vars.length s0),(.slice t0 x0.init.length u0),(.slice v0 x0.goal.length w0),(.slice y0 x0.jobs.length z0)]∧Vb w' (Fr 0 w' O') (.slice r0 x0.vars.length s0) x0.vars∧Vb w' (Fr 0 w' O') (.slice t0 x0.init.length u0) x0.init∧Vb w' (Fr 0 w' O') (.slice v0 x0.goal.length w0) x0.goal∧Vb w' (Fr 0 w' O') (.slice y0 x0.jobs.length z0) x0.jobs) _ () ⟨x6,hB,j0,o0,n0,e0,f0,g0,h0,d0⟩ ⟨rfl,rfl,rfl,rfl,rfl,rfl,rfl,rfl,rfl,rfl,trivial⟩ (fun _ _=>⟨rfl,rfl⟩) (fun _ _=>⟨rfl,rfl,rfl,rfl,rfl,rfl,rfl,trivial⟩) (fun _ _ _ ⟨O',hB,j0,o0,n0,e0,f0,g0,h0,d0⟩=>⟨O',hB,j0,o0,n0,e0,f0,g0,h0,d0⟩) ⟨rfl,rfl,rfl⟩ ⟨rfl,rfl⟩ ?_)
    rintro y6 d4 e4 f4 z6 o4 ⟨b3,hB,j0,o0,n0,e0,f0,g0,h0,d0⟩ a1 k2 p4
    have rk62:inI64 (y6:Int):=rngKN o4 (rngNat' rk47)
    refine Ab (Aa (Aj rfl rfl (Al rfl rfl (o_z ?_))))
    refine Ab (BD [] b3 ?_)
    refine AK (fuel:=1) [] [(0,true),(1,true),(2,true),(3,true),(4,true),(5,true),(6,true),(7,true),(8,true)] (by kernel_rfl) rfl ?_
    refine Cw (hl:=rfl) (hb:=fun w' ⟨O',hq⟩=>((e0.st hq (by decide)).1).cellsAt) rfl rfl rfl ?_
    refine Bt rfl rfl rfl (Bt rfl rfl rfl ?_)
    obtain ⟨u9,w9,a7,q4,r4,s4,t4,rfl,b7⟩:=n0.elem z2
    refine Gd (hA:=q4) (hj:=rfl) (hlt:=s4) rfl rfl rfl rfl ?_
    refine Cw (hl:=rfl) (hb:=fun w' ⟨O',hq⟩=>(CE (hq.agree (i:=0) (by decide)) r4 t4)) rfl rfl rfl ?_
    refine Bt rfl rfl rfl (Bt rfl rfl rfl ?_)
    obtain ⟨u4,c7,a1⟩:=bs a1
    obtain ⟨x9,y9,d7,v4,w4,y4,z4,rfl,e7⟩:=n0.elem c7
    refine Gd (hA:=v4) (hj:=rfl) (hlt:=y4) rfl rfl rfl rfl ?_
    refine Cw (hl:=rfl) (hb:=fun w' ⟨O',hq⟩=>(CE (hq.agree (i:=0) (by decide)) w4 z4)) rfl rfl rfl ?_
    refine At ?_
    refine Ar (i:=9) (by kernel_rfl) rfl ?_
    obtain ⟨n6,f7,a1⟩:=bs a1
    refine AF (O:=b3) (A:=All f4) (R:=fun w' F v=>Vb w' F v n6) (Iv (fun _ h=>h) (Vb.mono (F:=Fr 0 f4 b3) (Vb.ofAgg (cs:=[(.slice r0 x0.vars.length s0),(.slice t0 x0.init.length u0),(.slice v0 x0.goal.length w0),(.slice y0 x0.jobs.length z0)]) (x:=x0) rfl ⟨_,_,_,_,rfl,f0,g0,h0,d0⟩) Fr.lt) (Vb.mono (F:=Fr 0 f4 b3) (Vb.ofAgg (cs:=[(.int .i64 l4.job),(.bool l4.fin)]) (x:=l4) rfl ⟨rfl,b7⟩) Fr.lt) (Vb.mono (F:=Fr 0 f4 b3) (Vb.ofAgg (cs:=[(.int .i64 u4.job),(.bool u4.fin)]) (x:=u4) rfl ⟨rfl,e7⟩) Fr.lt) f7) rfl rfl fun z9 g7 h7 y1 i7=>?_
    obtain rfl:=i7.bool
    cases n6
    case false =>
     replace a1:=iF a1
     refine BA (by kernel_rfl) ?_
     refine Bu (by kernel_rfl) ?_
     refine Ae rfl (AQ ?_)
     obtain rfl:=sm a1
     exact show Exists _ from ⟨_,(),rfl,⟨rfl,rfl,rfl,rfl,rfl,rfl,rfl,rfl,rfl,rfl,trivial⟩,_,hB.st y1,j0.st y1,o0.st y1,n0.st y1,e0.st y1,f0.st y1,g0.st y1,h0.st y1,d0.st y1⟩
    replace a1:=iT a1
    refine BA (by kernel_rfl) ?_
    refine Bu (by kernel_rfl) ?_
    refine Ah rfl (Ab (Aa (FL rfl rfl ?_)))
    refine Al rfl rfl (Al rfl rfl (o_z ?_))
    refine AB ?_
    obtain rfl:=sm a1
    obtain rfl:=k2 _ rfl
    obtain rfl:=sm (Cq o1)
    obtain rfl:=j2 _ rfl
    obtain rfl:=sm (Cq hm)
    replace hB:=hB.st y1
    exact ret2 rfl (Au rfl) (Au rfl) ⟨hB.ext,_,_,rfl,(Vb.mono (F:=Fr 0 g7 h7) (Vb.nil _ _) hB.out),(vErr (by decide))⟩
   rintro aA bA ⟨j7,k7,rfl,q0,l7,hB,j0,o0,n0,e0,f0,g0,h0,d0⟩
   replace o1:=AX o1
   obtain rfl:=sm o1
   exact show Exists _ from ⟨_,(),rfl,⟨(Bc q0 _ _ rfl),(Bc q0 _ _ rfl),(Bc q0 _ _ rfl),(Bc q0 _ _ rfl),(Bc q0 _ _ rfl),(Bc q0 _ _ rfl),(Bc q0 _ _ rfl),trivial⟩,_,hB,j0,o0,n0,e0,f0,g0,h0,d0⟩
  replace hB:=(hB.st t1).st h1
  replace j0:=j0.st h1
  replace o0:=(o0.st t1).st h1
  replace f0:=f0.st h1
  replace g0:=g0.st h1
  replace h0:=h0.st h1
  replace d0:=d0.st h1
  replace e0:=e0.st h1
  rintro m7 n7 ⟨o7,p7,rfl,c3,a5,hB,j0,o0,n0,e0,f0,g0,h0,d0⟩
  replace hm:=AX hm
  refine AC _ c3 ?_
  refine Ab (Ab (Aa (Aj rfl rfl (AT rfl rfl ?_))))
  have l2:x4.length≤9223372036854775807:=Nat.le_trans n0.len.2.1 n0.len.2.2
  have q7:inI64 (x4.length:Int):=rngNat l2
  refine Aj rfl rfl (o_z ?_)
  obtain ⟨m2,d3,hm⟩:=bs hm
  refine Ax (aft m2 (fun (z1:Unit) (a2:Unit)=>[(1,(.slice k1 x1.length l1)),(2,(.int .i64 x2)),(3,(.slice r1 x3.length s1)),(4,(.slice m1 x4.length n1)),(5,(.pointer (some ⟨i1,0,none⟩)))]) (fun z1 a2 w'=>∃ O':Lab,Bs w A w' O'∧Vb w' (Fr 0 w' O') (.slice k1 x1.length l1) x1∧Vb w' (Fr 0 w' O') (.slice r1 x3.length s1) x3∧Vb w' (Fr 0 w' O') (.slice m1 x4.length n1) x4∧Lc 2 w' O' i1 26 [(.slice r0 x0.vars.length s0),(.slice t0 x0.init.length u0),(.slice v0 x0.goal.length w0),(.slice y0 x0.jobs.length z0)]∧Vb w' (Fr 0 w' O') (.slice r0 x0.vars.length s0) x0.vars∧Vb w' (Fr 0 w' O') (.slice t0 x0.init.length u0) x0.init∧Vb w' (Fr 0 w' O') (.slice v0 x0.goal.length w0) x0.goal∧Vb w' (Fr 0 w' O') (.slice y0 x0.jobs.length z0) x0.jobs)) ?_ ?_
  ·
   refine AN (Bn (σ:=Unit) (X:=Unit) (x4.length) d3 rfl l2 (fun (z1:Unit) (a2:Unit)=>[(1,(.slice k1 x1.length l1)),(2,(.int .i64 x2)),(3,(.slice r1 x3.length s1)),(4,(.slice m1 x4.length n1)),(5,(.pointer (some ⟨i1,0,none⟩))),(46,(.slice m1 x4.length n1))]) _ (fun z1 a2 w'=>∃ O':Lab,Bs w A w' O'∧Vb w' (Fr 0 w' O') (.slice k1 x1.length l1) x1∧Vb w' (Fr 0 w' O') (.slice r1 x3.length s1) x3∧Vb w' (Fr 0 w' O') (.slice m1 x4.length n1) x4∧Lc 2 w' O' i1 26 [(.slice r0 x0.vars.length s0),(.slice t0 x0.init.length u0),(.slice v0 x0.goal.length w0),(.slice y0 x0.jobs.length z0)]∧Vb w' (Fr 0 w' O') (.slice r0 x0.vars.length s0) x0.vars∧Vb w' (Fr 0 w' O') (.slice t0 x0.init.length u0) x0.init∧Vb w' (Fr 0 w' O') (.slice v0 x0.goal.length w0) x0.goal∧Vb w' (Fr 0 w' O') (.slice y0 x0.jobs.length z0) x0.jobs) _ () ⟨a5,hB,j0,o0,n0,e0,f0,g0,h0,d0⟩ ⟨rfl,rfl,rfl,rfl,rfl,rfl,rfl,rfl,trivial⟩ (fun _ _=>⟨rfl,rfl⟩) (fun _ _=>⟨rfl,rfl,rfl,rfl,rfl,trivial⟩) (fun _ _ _ ⟨O',hB,j0,o0,n0,e0,f0,g0,h0,d0⟩=>⟨O',hB,j0,o0,n0,e0,f0,g0,h0,d0⟩) ⟨rfl,rfl,rfl⟩ ⟨rfl,rfl⟩ ?_)
   rintro b5 u1 z1 a2 r7 o6 h2 ⟨c5,hB,j0,o0,n0,e0,f0,g0,h0,d0⟩ m0 b2 g4
   have rk116:inI64 (b5:Int):=rngK h2 l2
   refine Ab (Aa ?_)
   obtain ⟨s7,t7,p6,e3,f3,g3,rfl,d5⟩:=n0.elem' h2
   refine Bz (hA:=e3) (hj:=rfl) (hlt:=f3) rfl rfl rfl ?_
   refine Bp (hl:=rfl) (hc:=g3) rfl rfl ?_
   refine AS 3 c5 rfl fun e5 u7 h3 b1 v1=>?_
   refine Ay v1 rfl rfl rfl (AJ rfl) (allOne rfl) fun f5 c1 v1=>?_
   replace v1:Lc 3 f5 h3 e5 182 [(.int .i64 u1.job),(.bool u1.fin)]:=v1
   refine o_z ?_
   refine Ab (Aa ?_)
   replace e0:=(e0.st b1).st c1
   refine Bp (hl:=rfl) (hc:=(e0.1).cellsAt) rfl rfl ?_
   refine Bp (hl:=rfl) (hc:=(v1.1).cellsAt) rfl rfl ?_
   obtain ⟨g5,h5,m0⟩:=bs m0
   replace f0:=(f0.st b1).st c1
   replace g0:=(g0.st b1).st c1
   replace h0:=(h0.st b1).st c1
   replace d0:=(d0.st b1).st c1
   refine Cc (O:=h3) (R:=fun w' F v=>Vb w' F v g5) (Gj Fr.lt (Vb.ofAgg (cs:=[(.slice r0 x0.vars.length s0),(.slice t0 x0.init.length u0),(.slice v0 x0.goal.length w0),(.slice y0 x0.jobs.length z0)]) (x:=x0) rfl ⟨_,_,_,_,rfl,f0,g0,h0,d0⟩) (Vb.ofAgg (cs:=[(.int .i64 u1.job),(.bool u1.fin)]) (x:=u1) rfl ⟨rfl,d5⟩) h5) rfl rfl fun w7 n2 o2 d1 i3=>?_
   obtain ⟨x7,y7,rfl⟩:=i3.form
   refine Aj rfl rfl ?_
   obtain ⟨j3,i5,m0⟩:=bs m0
   replace o0:=((o0.st b1).st c1).st d1
   refine AF (O:=o2) (A:=All n2) (R:=fun w' F v=>Vb w' F v j3) (Hx (fun _ h=>h) (Vb.mono (F:=Fr 0 n2 o2) i3 Fr.lt) (Vb.mono (F:=Fr 0 n2 o2) o0 Fr.lt) i5) rfl rfl fun z7 j5 k5 e1 l5=>?_
   obtain rfl:=l5.bool
   cases j3
   case false =>
    replace m0:=iF m0
    refine FC rfl rfl (o_z ?_)
    refine Ah rfl (Ab (Aa (FL rfl rfl ?_)))
    refine Al rfl rfl (Al rfl rfl (o_z ?_))
    refine AB ?_
    obtain rfl:=sm m0
    obtain rfl:=b2 _ rfl
    obtain rfl:=sm (Cq hm)
    replace hB:=(((hB.st b1).st c1).st d1).st e1
    exact ret2 rfl (Au rfl) (Au rfl) ⟨hB.ext,_,_,rfl,(Vb.mono (F:=Fr 0 j5 k5) (Vb.nil _ _) hB.out),(vErr (by decide))⟩
   replace m0:=iT m0
   refine FB rfl rfl (o_z ?_)
   refine Ae rfl (AQ ?_)
   obtain rfl:=sm m0
   exact show Exists _ from ⟨_,(),rfl,⟨rfl,rfl,rfl,rfl,rfl,rfl,rfl,rfl,trivial⟩,_,(((hB.st b1).st c1).st d1).st e1,(((j0.st b1).st c1).st d1).st e1,o0.st e1,(((n0.st b1).st c1).st d1).st e1,(e0.st d1).st e1,(f0.st d1).st e1,(g0.st d1).st e1,(h0.st d1).st e1,(d0.st d1).st e1⟩
  rintro a8 b8 ⟨c8,d8,rfl,k3,m5,hB,j0,o0,n0,e0,f0,g0,h0,d0⟩
  replace hm:=AX hm
  refine AC _ k3 ?_
  refine Ab (Aa (Bp (hl:=rfl) (hc:=(e0.1).cellsAt) rfl rfl ?_))
  refine Aj rfl rfl (Aj rfl rfl ?_)
  obtain ⟨f1,n5,hm⟩:=bs hm
  refine Cc (O:=m5) (R:=fun w' F v=>Vb w' F v f1) (JV Fr.lt (Vb.ofAgg (cs:=[(.slice r0 x0.vars.length s0),(.slice t0 x0.init.length u0),(.slice v0 x0.goal.length w0),(.slice y0 x0.jobs.length z0)]) (x:=x0) rfl ⟨_,_,_,_,rfl,f0,g0,h0,d0⟩) o0 n0 n5) rfl rfl fun e8 f8 o5 j1 k0=>?_
  obtain ⟨p1,q1,rfl⟩:=k0.form
  refine Al rfl rfl (o_z ?_)
  refine Ab (Ab (Aa (Aj rfl rfl (AT rfl rfl ?_))))
  replace j0:=j0.st j1
  have p2:x1.length≤9223372036854775807:=Nat.le_trans j0.len.2.1 j0.len.2.2
  have g8:inI64 (x1.length:Int):=rngNat p2
  refine Aj rfl rfl (o_z ?_)
  obtain ⟨q2,l3,hm⟩:=bs hm
  refine Ax (aft q2 (fun (c2:Unit) (d2:Unit)=>[(16,(.slice p1 f1.length q1))]) (fun c2 d2 w'=>∃ O':Lab,Bs w A w' O'∧Vb w' (Fr 0 w' O') (.slice p1 f1.length q1) f1)) ?_ ?_
  ·
   refine AN ?_
   replace hB:=hB.st j1
   replace f0:=f0.st j1
   replace g0:=g0.st j1
   replace h0:=h0.st j1
   replace d0:=d0.st j1
   replace e0:=e0.st j1
   refine Bn (σ:=Unit) (X:=Unit) (x1.length) l3 rfl p2 (fun (c2:Unit) (d2:Unit)=>[(2,(.int .i64 x2)),(5,(.pointer (some ⟨i1,0,none⟩))),(16,(.slice p1 f1.length q1)),(64,(.slice k1 x1.length l1))]) _ (fun c2 d2 w'=>∃ O':Lab,Bs w A w' O'∧Lc 2 w' O' i1 26 [(.slice r0 x0.vars.length s0),(.slice t0 x0.init.length u0),(.slice v0 x0.goal.length w0),(.slice y0 x0.jobs.length z0)]∧Vb w' (Fr 0 w' O') (.slice r0 x0.vars.length s0) x0.vars∧Vb w' (Fr 0 w' O') (.slice t0 x0.init.length u0) x0.init∧Vb w' (Fr 0 w' O') (.slice v0 x0.goal.length w0) x0.goal∧Vb w' (Fr 0 w' O') (.slice y0 x0.jobs.length z0) x0.jobs∧Vb w' (Fr 0 w' O') (.slice p1 f1.length q1) f1∧Vb w' (Fr 0 w' O') (.slice k1 x1.length l1) x1) _ () ⟨o5,hB,e0,f0,g0,h0,d0,k0,j0⟩ ⟨rfl,rfl,rfl,rfl,rfl,rfl,trivial⟩ (fun _ _=>⟨rfl,rfl⟩) (fun _ _=>⟨rfl,trivial⟩) (fun _ _ _ ⟨O',hB,e0,f0,g0,h0,d0,k0,j0⟩=>⟨O',hB,k0⟩) ⟨rfl,rfl,rfl⟩ ⟨rfl,rfl⟩ ?_
   rintro m3 w1 c2 d2 h8 q6 i2 ⟨p5,hB,e0,f0,g0,h0,d0,k0,j0⟩ p0 e2 h4
   have rk179:inI64 (m3:Int):=rngK i2 p2
   refine Ab (Aa ?_)
   obtain ⟨i8,j8,r6,n3,o3,p3,rfl,q5,r5⟩:=j0.elem' i2
   refine Bz (hA:=n3) (hj:=rfl) (hlt:=o3) rfl rfl rfl ?_
   refine Bp (hl:=rfl) (hc:=p3) rfl rfl ?_
   refine AS 4 p5 rfl fun s5 k8 f2 b0 g1=>?_
   refine Ay g1 rfl rfl rfl (AJ rfl) (allOne rfl) fun g2 c0 g1=>?_
   replace g1:Lc 4 g2 f2 s5 52 [(.int .i64 w1.tm),(.int .i64 w1.job)]:=g1
   refine o_z ?_
   refine Ab ?_
   obtain ⟨t5,a0,p0⟩:=bs p0
   refine Ax (fun l' w'=>∃ (u5:Unit) (O':Lab),subs l' [(2,(.int .i64 x2)),(5,(.pointer (some ⟨i1,0,none⟩))),(16,(.slice p1 f1.length q1)),(64,(.slice k1 x1.length l1)),(65,(.int .i64 (x1.length:Int))),(66,(.int .i64 (m3:Int))),(92,(.bool t5))]∧Bs w A w' O'∧Lc 2 w' O' i1 26 [(.slice r0 x0.vars.length s0),(.slice t0 x0.init.length u0),(.slice v0 x0.goal.length w0),(.slice y0 x0.jobs.length z0)]∧Vb w' (Fr 0 w' O') (.slice r0 x0.vars.length s0) x0.vars∧Vb w' (Fr 0 w' O') (.slice t0 x0.init.length u0) x0.init∧Vb w' (Fr 0 w' O') (.slice v0 x0.goal.length w0) x0.goal∧Vb w' (Fr 0 w' O') (.slice y0 x0.jobs.length z0) x0.jobs∧Vb w' (Fr 0 w' O') (.slice p1 f1.length q1) f1∧Vb w' (Fr 0 w' O') (.slice k1 x1.length l1) x1) ?_ ?_
   ·
    refine Aa (AA rfl rfl (Aw (hc:=Blk.cell (i:=0) (g1.1) rfl) rfl rfl ?_))
    refine Aj rfl rfl (Kj rfl rfl rfl (fun r2=>?_) fun r2=>?_)
    ·
     replace a0:=ip a0 r2
     refine Aj rfl rfl (Am rfl rfl (Aj rfl rfl (Am rfl rfl ?_)))
     replace e0:=(e0.st b0).st c0
     refine Bp (hl:=rfl) (hc:=(e0.1).cellsAt) rfl rfl ?_
     refine Am rfl rfl (Bp (hl:=rfl) (hc:=(g1.1).cellsAt) rfl rfl ?_)
     refine Am rfl rfl ?_
     obtain ⟨v5,w5,a0⟩:=bs a0
     replace f0:=(f0.st b0).st c0
     replace g0:=(g0.st b0).st c0
     replace h0:=(h0.st b0).st c0
     replace d0:=(d0.st b0).st c0
     refine AF (O:=f2) (A:=All g2) (R:=fun w' F v=>Vb w' F v v5) (CZ (fun _ h=>h) (Vb.mono (F:=Fr 0 g2 f2) (Vb.ofAgg (cs:=[(.slice r0 x0.vars.length s0),(.slice t0 x0.init.length u0),(.slice v0 x0.goal.length w0),(.slice y0 x0.jobs.length z0)]) (x:=x0) rfl ⟨_,_,_,_,rfl,f0,g0,h0,d0⟩) Fr.lt) (Vb.mono (F:=Fr 0 g2 f2) (Vb.ofAgg (cs:=[(.int .i64 w1.tm),(.int .i64 w1.job)]) (x:=w1) rfl ⟨rfl,q5,r5⟩) Fr.lt) w5) rfl rfl fun l8 s2 t2 i0 x5=>?_
     obtain ⟨rfl,m8⟩:=x5.int
     refine Am rfl rfl (EB rfl rfl rfl (fun u2=>?_) fun u2=>?_)
     ·
      replace a0:=ip a0 u2
      refine Bv rfl rfl rfl (Aj rfl rfl (Am rfl rfl (AA rfl rfl (Am rfl rfl ?_))))
      replace e0:=e0.st i0
      refine Aw (hc:=Blk.cell (i:=3) (e0.1) rfl) rfl rfl ?_
      refine Am rfl rfl (AA rfl rfl (Am rfl rfl ?_))
      replace g1:=g1.st i0
      refine Aw (hc:=Blk.cell (i:=1) (g1.1) rfl) rfl rfl ?_
      refine Am rfl rfl ?_
      obtain ⟨n8,y5,a0⟩:=bs a0
      obtain ⟨z5,a6⟩:=CX y5
      replace d0:=d0.st i0
      obtain ⟨o8,p8,s6,q3,r3,s3,q8,r8,s8,t8,u8,rfl,b6,t3,c6,d6,e6,w8,x8⟩:=d0.elem' a6
      obtain ⟨y8,z8,rfl⟩:=b6.form
      obtain ⟨a9,b9,rfl⟩:=t3.form
      obtain ⟨c9,d9,rfl⟩:=c6.form
      obtain ⟨e9,f9,rfl⟩:=d6.form
      obtain ⟨g9,h9,rfl⟩:=e6.form
      refine Bz (hA:=q3) (hj:=(Int.toNat_of_nonneg z5).symm) (hlt:=r3) rfl rfl rfl ?_
      refine Am rfl rfl (AA rfl rfl (Am rfl rfl (Aw (hc:=cat3 s3) rfl rfl ?_)))
      refine Am rfl rfl (Aj rfl rfl (Am rfl rfl ?_))
      obtain ⟨u3,f6,a0⟩:=bs a0
      replace k0:=((k0.st b0).st c0).st i0
      refine AF (O:=t2) (A:=All s2) (R:=fun w' F v=>Vb w' F v u3) (Hx (fun _ h=>h) (Vb.mono (F:=Fr 0 s2 t2) t3 Fr.lt) (Vb.mono (F:=Fr 0 s2 t2) k0 Fr.lt) f6) rfl rfl fun i9 j9 k9 l0 g6=>?_
      obtain rfl:=g6.bool
      cases u3
      case false =>
       replace a0:=iF a0
       refine Am rfl rfl (FC rfl rfl (Bv rfl rfl rfl (o_z ?_)))
       obtain rfl:=sm a0
       exact ⟨(),_,⟨rfl,rfl,rfl,rfl,rfl,rfl,rfl,trivial⟩,(((hB.st b0).st c0).st i0).st l0,e0.st l0,(f0.st i0).st l0,(g0.st i0).st l0,(h0.st i0).st l0,d0.st l0,k0.st l0,(((j0.st b0).st c0).st i0).st l0⟩
      replace a0:=iT a0
      refine Am rfl rfl (FB rfl rfl (Bv rfl rfl rfl (o_z ?_)))
      obtain rfl:=sm a0
      exact ⟨(),_,⟨rfl,rfl,rfl,rfl,rfl,rfl,rfl,trivial⟩,(((hB.st b0).st c0).st i0).st l0,e0.st l0,(f0.st i0).st l0,(g0.st i0).st l0,(h0.st i0).st l0,d0.st l0,k0.st l0,(((j0.st b0).st c0).st i0).st l0⟩
     replace a0:=im a0 u2
     refine Bv rfl rfl rfl (Aj rfl rfl (Ak rfl rfl rfl rfl (Ak rfl rfl rfl rfl (Ak rfl rfl rfl rfl (Ak rfl rfl rfl rfl (Ak rfl rfl rfl rfl (Ak rfl rfl rfl rfl (Ak rfl rfl rfl rfl (Ak rfl rfl rfl rfl (Ak rfl rfl rfl rfl (Ak rfl rfl rfl rfl (Bg rfl rfl rfl (o_z ?_)))))))))))))
     obtain rfl:=sm a0
     exact ⟨(),_,⟨rfl,rfl,rfl,rfl,rfl,rfl,rfl,trivial⟩,((hB.st b0).st c0).st i0,e0.st i0,f0.st i0,g0.st i0,h0.st i0,d0.st i0,((k0.st b0).st c0).st i0,((j0.st b0).st c0).st i0⟩
    replace a0:=im a0 r2
    refine Aj rfl rfl (Ak rfl rfl rfl rfl (Ak rfl rfl rfl rfl (Ak rfl rfl rfl rfl (Ak rfl rfl rfl rfl (Ak rfl rfl rfl rfl (Bg rfl rfl rfl (Aj rfl rfl (Ak rfl rfl rfl rfl (Ak rfl rfl rfl rfl (Ak rfl rfl rfl rfl (Ak rfl rfl rfl rfl (Ak rfl rfl rfl rfl (Ak rfl rfl rfl rfl (Ak rfl rfl rfl rfl ?_))))))))))))))
    refine Ak rfl rfl rfl rfl (Ak rfl rfl rfl rfl (Ak rfl rfl rfl rfl (Bg rfl rfl rfl (o_z ?_))))
    obtain rfl:=sm a0
    exact ⟨(),_,⟨rfl,rfl,rfl,rfl,rfl,rfl,rfl,trivial⟩,(hB.st b0).st c0,(e0.st b0).st c0,(f0.st b0).st c0,(g0.st b0).st c0,(h0.st b0).st c0,(d0.st b0).st c0,(k0.st b0).st c0,(j0.st b0).st c0⟩
   replace hB:=(hB.st b0).st c0
   replace j0:=(j0.st b0).st c0
   replace f0:=(f0.st b0).st c0
   replace g0:=(g0.st b0).st c0
   replace h0:=(h0.st b0).st c0
   replace d0:=(d0.st b0).st c0
   replace e0:=(e0.st b0).st c0
   replace k0:=(k0.st b0).st c0
   rintro l9 h6 ⟨u5,i6,v3,hB,e0,f0,g0,h0,d0,k0,j0⟩
   refine AC _ v3 ?_
   refine CB rfl (fun v2=>?_) (fun v2=>?_)
   ·
    replace p0:=ip p0 v2
    refine Ab (Aa (FL rfl rfl ?_))
    refine Al rfl rfl (Al rfl rfl (o_z ?_))
    refine AB ?_
    obtain rfl:=sm p0
    obtain rfl:=e2 _ rfl
    obtain rfl:=sm (Cq hm)
    exact ret2 rfl (Au rfl) (Au rfl) ⟨hB.ext,_,_,rfl,(Vb.mono (F:=Fr 0 h6 i6) (Vb.nil _ _) hB.out),(vErr (by decide))⟩
   replace p0:=im' p0 v2
   refine AQ ?_
   obtain rfl:=sm p0
   exact show Exists _ from ⟨_,(),rfl,⟨rfl,rfl,rfl,rfl,rfl,rfl,trivial⟩,_,hB,e0,f0,g0,h0,d0,k0,j0⟩
  replace hB:=hB.st j1
  rintro m9 j6 ⟨n9,o9,rfl,w3,k6,hB,k0⟩
  replace hm:=AX hm
  refine AC _ w3 ?_
  refine Ab (Aa (Aj rfl rfl (Al rfl rfl (Al rfl rfl (o_z ?_)))))
  refine AB ?_
  obtain rfl:=sm hm
  exact ret2 rfl (Au rfl) (Au rfl) ⟨hB.ext,_,_,rfl,(Vb.mono (F:=Fr 0 j6 k6) k0 hB.out),(vErr (show inI64 0 from by decide))⟩
 replace hm:=iT hm
 refine o_z ?_
 refine Ah rfl (Ab (Aa (FL rfl rfl ?_)))
 refine Al rfl rfl (Al rfl rfl (o_z ?_))
 refine AB ?_
 obtain rfl:=sm hm
 replace hB:=(hB.st t1).st h1
 exact ret2 rfl (Au rfl) (Au rfl) ⟨hB.ext,_,_,rfl,(Vb.mono (F:=Fr 0 u6 m6) (Vb.nil _ _) hB.out),(vErr (by decide))⟩
noncomputable def CP (x0:Tpl) (x1:List Lch):Option Int :=
  bnd (rng (ρ:=Int) (fun (k33:Nat) (a34:Lch) (s31:Int)=>bnd (CY x0 a34) fun q62=>some (.next (max s31 q62))) x1 0 0) fun res29=>fin res29 fun (s74:Int)=>some s74
theorem IM {w:World} {A:Nat→Prop} (hA:∀ k,A k→k < w.heap.size) {vx0:Value} {x0:Tpl} (b1:Vb w A vx0 x0) {vx1:Value} {x1:List Lch} (a0:Vb w A vx1 x1) {r:Int} (hm:CP x0 x1=some r) :
    Fn Tryz.prog 74 [vx0,vx1] w fun v w'=>Ext w w'∧Vb w' (upA A w w') v r:=by
 obtain ⟨O,hB,l1⟩:=enter hA
 replace b1:=b1.mono l1
 obtain ⟨c2,rfl,v4,v5,v6,v7,rfl,h8,b0,c0,d0⟩:=b1
 obtain ⟨A9,q0,rfl⟩:=h8.form
 obtain ⟨r0,s0,rfl⟩:=b0.form
 obtain ⟨t0,u0,rfl⟩:=c0.form
 obtain ⟨v0,w0,rfl⟩:=d0.form
 replace a0:=a0.mono l1
 obtain ⟨m1,n1,rfl⟩:=a0.form
 refine AD Tryz.func74 rfl Tryz.ntmps74 rfl ?_
 unfold CP at hm
 refine Ab (Aa (BX 2 O rfl rfl fun c1 p1 o1 g0 e0=>?_))
 replace e0:Lc 2 p1 o1 c1 26 [(.slice A9 x0.vars.length q0),(.slice r0 x0.init.length s0),(.slice t0 x0.goal.length u0),(.slice v0 x0.jobs.length w0)]:=e0
 refine Al rfl rfl (o_z ?_)
 refine Ab (Aa (Al rfl rfl (o_z ?_)))
 refine Ab (Ab (Aa (Aj rfl rfl (AT rfl rfl ?_))))
 replace a0:=a0.st g0
 have d1:x1.length≤9223372036854775807:=Nat.le_trans a0.len.2.1 a0.len.2.2
 have d2:inI64 (x1.length:Int):=rngNat d1
 refine Aj rfl rfl (o_z ?_)
 obtain ⟨l0,e1,hm⟩:=bs hm
 refine Ax (aft l0 (fun (f0:Int) (y0:Unit)=>[(5,(.int .i64 f0))]) (fun f0 y0 w'=>∃ O':Lab,Bs w A w' O'∧inI64 f0)) ?_ ?_
 ·
  refine AN ?_
  replace hB:=hB.st g0
  replace h8:=h8.st g0
  replace b0:=b0.st g0
  replace c0:=c0.st g0
  replace d0:=d0.st g0
  refine Bn (σ:=Int) (X:=Unit) (x1.length) e1 rfl d1 (fun (f0:Int) (y0:Unit)=>[(2,(.pointer (some ⟨c1,0,none⟩))),(5,(.int .i64 f0)),(8,(.slice m1 x1.length n1))]) _ (fun f0 y0 w'=>∃ O':Lab,Bs w A w' O'∧Lc 2 w' O' c1 26 [(.slice A9 x0.vars.length q0),(.slice r0 x0.init.length s0),(.slice t0 x0.goal.length u0),(.slice v0 x0.jobs.length w0)]∧Vb w' (Fr 0 w' O') (.slice A9 x0.vars.length q0) x0.vars∧Vb w' (Fr 0 w' O') (.slice r0 x0.init.length s0) x0.init∧Vb w' (Fr 0 w' O') (.slice t0 x0.goal.length u0) x0.goal∧Vb w' (Fr 0 w' O') (.slice v0 x0.jobs.length w0) x0.jobs∧Vb w' (Fr 0 w' O') (.slice m1 x1.length n1) x1∧inI64 f0) _ () ⟨o1,hB,e0,h8,b0,c0,d0,a0,(show inI64 (0) from by decide)⟩ ⟨rfl,rfl,rfl,rfl,rfl,trivial⟩ (fun _ _=>⟨rfl,rfl⟩) (fun _ _=>⟨rfl,trivial⟩) (fun _ _ _ ⟨O',hB,e0,h8,b0,c0,d0,a0,m0⟩=>⟨O',hB,m0⟩) ⟨rfl,rfl,rfl⟩ ⟨rfl,rfl⟩ ?_
  rintro q1 n0 f0 y0 e2 r1 o0 ⟨s1,hB,e0,h8,b0,c0,d0,a0,m0⟩ h0 f1 g1
  have rk33:inI64 (q1:Int):=rngK o0 d1
  refine Ab (Aa ?_)
  obtain ⟨f2,g2,t1,h1,i1,j1,rfl,u1,v1⟩:=a0.elem' o0
  refine Bz (hA:=h1) (hj:=rfl) (hlt:=i1) rfl rfl rfl ?_
  refine Bp (hl:=rfl) (hc:=j1) rfl rfl ?_
  refine AS 3 s1 rfl fun w1 h2 z0 i0 p0=>?_
  refine Ay p0 rfl rfl rfl (AJ rfl) (allOne rfl) fun a1 j0 p0=>?_
  replace p0:Lc 3 a1 z0 w1 52 [(.int .i64 n0.tm),(.int .i64 n0.job)]:=p0
  refine o_z ?_
  refine Aa (Aj rfl rfl ?_)
  replace e0:=(e0.st i0).st j0
  refine Bp (hl:=rfl) (hc:=(e0.1).cellsAt) rfl rfl ?_
  refine Bp (hl:=rfl) (hc:=(p0.1).cellsAt) rfl rfl ?_
  obtain ⟨y1,z1,h0⟩:=bs h0
  replace h8:=(h8.st i0).st j0
  replace b0:=(b0.st i0).st j0
  replace c0:=(c0.st i0).st j0
  replace d0:=(d0.st i0).st j0
  refine AF (O:=z0) (A:=All a1) (R:=fun w' F v=>Vb w' F v y1) (CZ (fun _ h=>h) (Vb.mono (F:=Fr 0 a1 z0) (Vb.ofAgg (cs:=[(.slice A9 x0.vars.length q0),(.slice r0 x0.init.length s0),(.slice t0 x0.goal.length u0),(.slice v0 x0.jobs.length w0)]) (x:=x0) rfl ⟨_,_,_,_,rfl,h8,b0,c0,d0⟩) Fr.lt) (Vb.mono (F:=Fr 0 a1 z0) (Vb.ofAgg (cs:=[(.int .i64 n0.tm),(.int .i64 n0.job)]) (x:=n0) rfl ⟨rfl,u1,v1⟩) Fr.lt) z1) rfl rfl fun i2 j2 k2 k0 a2=>?_
  obtain ⟨rfl,b2⟩:=a2.int
  refine Pe rfl rfl rfl ?_
  refine Al rfl rfl (o_z ?_)
  obtain rfl:=sm h0
  exact show Exists _ from ⟨_,(),rfl,⟨rfl,rfl,rfl,rfl,rfl,trivial⟩,_,((hB.st i0).st j0).st k0,e0.st k0,h8.st k0,b0.st k0,c0.st k0,d0.st k0,((a0.st i0).st j0).st k0,(rngMax m0 b2)⟩
 replace hB:=hB.st g0
 rintro l2 m2 ⟨n2,o2,rfl,k1,p2,hB,m0⟩
 replace hm:=AX hm
 refine AC _ k1 ?_
 refine Ab (Aa (Aj rfl rfl (Al rfl rfl (o_z ?_))))
 refine AB ?_
 obtain rfl:=sm hm
 exact ret1v rfl (Au rfl) ⟨hB.ext,(vInt m0)⟩
end
section
open Go Go.RowKit Go.ChangeShapes Go.WideShapes Go.Deep
theorem Oa:Tryz.prog.cellsOf 66=7:=by kernel_rfl
theorem OX:Tryz.prog.cellsOf 24=1:=by kernel_rfl
theorem Pq:Tryz.prog.cellsOf 26=4:=by kernel_rfl
theorem len7 {α:Type} {l:List α} (h:l.length=7):∃ a b c d e f g,l=[a,b,c,d,e,f,g]:=by
  match l,h with
  | [a,b,c,d,e,f,g],_=>exact ⟨a,b,c,d,e,f,g,rfl⟩
instance:Reads Tryz.prog 66 Job:=⟨fun {H enc w n cs x} h=>by
  obtain ⟨hl,m,hf⟩:=readsField Tryz.underlying66 h
  obtain ⟨v0,v1,v2,v3,v4,v5,v6,rfl⟩:=len7 (hl.trans Oa)
  obtain ⟨x0,g0⟩:=hf 0 9 0 1 rfl Pj
  replace g0:DataW.trod enc Tryz.prog w 0 (fun _=>true) true m 9 [v0]=some x0:=g0
  obtain ⟨x1,g1⟩:=hf 1 3 1 1 rfl Lv
  replace g1:DataW.trod enc Tryz.prog w 0 (fun _=>true) true m 3 [v1]=some x1:=g1
  obtain ⟨x2,g2⟩:=hf 2 23 2 1 rfl Ho
  replace g2:DataW.trod enc Tryz.prog w 0 (fun _=>true) true m 23 [v2]=some x2:=g2
  obtain ⟨x3,g3⟩:=hf 3 23 3 1 rfl Ho
  replace g3:DataW.trod enc Tryz.prog w 0 (fun _=>true) true m 23 [v3]=some x3:=g3
  obtain ⟨x4,g4⟩:=hf 4 23 4 1 rfl Ho
  replace g4:DataW.trod enc Tryz.prog w 0 (fun _=>true) true m 23 [v4]=some x4:=g4
  obtain ⟨x5,g5⟩:=hf 5 23 5 1 rfl Ho
  replace g5:DataW.trod enc Tryz.prog w 0 (fun _=>true) true m 23 [v5]=some x5:=g5
  obtain ⟨x6,g6⟩:=hf 6 23 6 1 rfl Ho
  replace g6:DataW.trod enc Tryz.prog w 0 (fun _=>true) true m 23 [v6]=some x6:=g6
  obtain ⟨z0,e0,_,q0⟩:=DataW.trod_string Tryz.underlying9 g0
  obtain rfl:v0=.string z0:=by simpa using e0
  obtain ⟨z1,e1,q1⟩:=(inferInstance:Reads Tryz.prog 3 Int).of g1
  obtain rfl:v1=.int .i64 z1:=by simpa using e1
  obtain ⟨z2,q2⟩:=(inferInstance:Reads Tryz.prog 23 (List Fct)).of g2
  obtain ⟨z3,q3⟩:=(inferInstance:Reads Tryz.prog 23 (List Fct)).of g3
  obtain ⟨z4,q4⟩:=(inferInstance:Reads Tryz.prog 23 (List Fct)).of g4
  obtain ⟨z5,q5⟩:=(inferInstance:Reads Tryz.prog 23 (List Fct)).of g5
  obtain ⟨z6,q6⟩:=(inferInstance:Reads Tryz.prog 23 (List Fct)).of g6
  exact ⟨⟨z0,z1,z2,z3,z4,z5,z6⟩,v2,v3,v4,v5,v6,rfl,q2,q3,q4,q5,q6,by simpa [maxLen] using q0,q1⟩⟩
instance:Reads Tryz.prog 24 (List Job):=readsSlice Tryz.underlying24 Oa (by decide)
instance:Reads Tryz.prog 26 Tpl:=⟨fun {H enc w n cs x} h=>by
  obtain ⟨hl,m,hf⟩:=readsField Tryz.underlying26 h
  obtain ⟨v0,v1,v2,v3,rfl⟩:=len4 (hl.trans Pq)
  obtain ⟨x0,g0⟩:=hf 0 22 0 1 rfl MY
  replace g0:DataW.trod enc Tryz.prog w 0 (fun _=>true) true m 22 [v0]=some x0:=g0
  obtain ⟨x1,g1⟩:=hf 1 22 1 1 rfl MY
  replace g1:DataW.trod enc Tryz.prog w 0 (fun _=>true) true m 22 [v1]=some x1:=g1
  obtain ⟨x2,g2⟩:=hf 2 23 2 1 rfl Ho
  replace g2:DataW.trod enc Tryz.prog w 0 (fun _=>true) true m 23 [v2]=some x2:=g2
  obtain ⟨x3,g3⟩:=hf 3 24 3 1 rfl OX
  replace g3:DataW.trod enc Tryz.prog w 0 (fun _=>true) true m 24 [v3]=some x3:=g3
  obtain ⟨z0,q0⟩:=(inferInstance:Reads Tryz.prog 22 (List Int)).of g0
  obtain ⟨z1,q1⟩:=(inferInstance:Reads Tryz.prog 22 (List Int)).of g1
  obtain ⟨z2,q2⟩:=(inferInstance:Reads Tryz.prog 23 (List Fct)).of g2
  obtain ⟨z3,q3⟩:=(inferInstance:Reads Tryz.prog 24 (List Job)).of g3
  exact ⟨⟨z0,z1,z2,z3⟩,v0,v1,v2,v3,rfl,q0,q1,q2,q3⟩⟩
end
end Go.Proofs.YtjohlgjklmagnaaGreatDoor

/- Own text: what the proof of compileLeast_holds uses, part 1: rules, models and their proofs, plain laws. -/
import Derived.Tactics
import Derived.Below
import Derived.OrdersHeld
import Derived.KernelRfl
import Derived.OwnWalk
import Derived.Maps.AppendAt
import Derived.Laws.MakeOwn
import Derived.Deep.Slices
import Derived.ChangeSame
import Derived.Test.YtllibjejncelhaaGreatDoorProg
import Derived.ProofKit
import Derived.ReadAgain
import Derived.ChangeStays
import Derived.MapKept
import Derived.Shelf.Sort.Plain
import Derived.Shelf.Slices.In.SortNone
import Derived.Laws.IdiomRangeMap
import Derived.Laws.CopyRow
import Derived.Laws.IdiomCopy
import Derived.Lib.AppendZerosOnto
import Derived.Laws.Strings
import Derived.Lib.Strings
import Derived.Ground.SlsfProg
import Derived.Shelf.SlSortCmp.WholeK
import Derived.Shelf.SlSortCmp.NoneTotal
import Derived.Sort.AssemblyPlain
import Derived.Deep.Draws
import Derived.RangeFuncNested
import Derived.RangeFuncBox
import Derived.RangeFuncBound
import Derived.RangeFuncLeaves
import Derived.Shelf.Abstract
import Derived.WalkKit
import Derived.OwnWalkIn
import Derived.TacticsInMore
import Derived.LoopNIn
import Derived.LoopIn
import Derived.Test.YtllibjejncelhaaGreatDoorTie
import Derived.Test.YtllibjejncelhaaGreatDoorCards
import Derived.LaidMore
import Derived.SevenTiedAt
set_option linter.unusedVariables false
set_option linter.unusedSimpArgs false
namespace Go.Proofs.YtllibjejncelhaaGreatDoor
open Go Go.RowKit Go.Proofs.Tryz
abbrev B0:=@List.eq_nil_of_length_eq_zero
abbrev B1:=@Array.getD_eq_getD_getElem?
abbrev B2:=@Array.getElem?_append_left
abbrev B3:=@Array.getElem?_eq_some_iff
abbrev B4:=@List.getElem?_append_right
abbrev B5:=@List.getD_eq_getElem?_getD
abbrev B6:=@Int.fdiv_eq_ediv_of_nonneg
abbrev B7:=@List.getElem?_eq_some_iff
abbrev B8:=@List.getElem?_append_left
abbrev B9:=@List.drop_eq_getElem_cons
abbrev C0:=@List.getElem_append_right
abbrev C1:=@Array.getElem?_eq_getElem
abbrev C2:=@List.getElem?_eq_none_iff
abbrev C3:=@List.pairwise_iff_getElem
abbrev C4:=@List.getElem?_eq_getElem
abbrev C5:=@Array.setIfInBounds_comm
abbrev C6:=@Array.getElem?_replicate
abbrev C7:=@List.getElem_append_left
abbrev C8:=@Bool.eq_false_or_eq_true
abbrev C9:=@Array.size_setIfInBounds
abbrev D0:=@List.Pairwise.imp_of_mem
abbrev D1:=@Int.eq_ofNat_of_zero_le
abbrev D2:=@List.filter_cons_of_pos
abbrev D3:=@List.filter_cons_of_neg
abbrev D4:=@List.getElem?_replicate
abbrev D5:=@List.pairwise_singleton
abbrev D6:=@List.length_eq_zero_iff
abbrev D7:=@Classical.epsilon_spec
abbrev D8:=@List.take_of_length_le
abbrev D9:=@Array.getElem?_eq_none
abbrev E3:=@Option.map_eq_some_iff
abbrev E4:=@MapKept.run_getObj_map
abbrev E5:=@List.length_pos_of_mem
abbrev E6:=@List.getElem?_set_self
abbrev E7:=@Nat.eq_of_beq_eq_true
abbrev E8:=@List.getElem?_eq_none
abbrev E9:=@Array.getElem?_modify
abbrev F0:=@Nat.le_of_ble_eq_true
abbrev F1:=@List.set_append_right
abbrev F2:=@List.mem_append_right
abbrev F3:=@List.length_replicate
abbrev F4:=@Array.getElem?_toList
abbrev F5:=@ByteArray.size_append
abbrev F6:=@List.length_filter_le
abbrev F7:=@List.length_singleton
abbrev F8:=@Region.noSelect_spec
abbrev F9:=@Nat.mul_le_mul_right
abbrev G0:=@List.mem_append_left
abbrev G1:=@List.mem_cons_of_mem
abbrev G2:=@List.mem_of_getElem?
abbrev G3:=@Nat.pow_le_pow_right
abbrev G4:=@MapKept.run_checkKey
abbrev G5:=@List.getElem?_modify
abbrev G6:=@List.getElem?_of_mem
abbrev G7:=@Array.getElem_mapIdx
abbrev G8:=@List.getElem_toArray
abbrev G9:=@Array.replicate_succ
abbrev H0:=@Array.replicate_zero
abbrev H1:=@List.getElem?_set_ne
abbrev H2:=@List.pairwise_append
abbrev H3:=@BitVec.getLsbD_ofNat
abbrev H4:=@Array.length_toList
abbrev H5:=@MapKept.run_findKey
abbrev H6:=@List.mergeSort_perm
abbrev H7:=@List.filter_eq_self
abbrev H8:=@List.mem_map_of_mem
abbrev H9:=@List.append_toArray
abbrev I0:=@List.flatMap_append
abbrev I1:=@List.getElem?_range
abbrev I2:=@List.getElem_of_mem
abbrev I3:=@List.map_congr_left
abbrev I4:=@Int.toNat_of_nonneg
abbrev I5:=@List.length_append
abbrev I6:=@Nat.lt_of_lt_of_le
abbrev I7:=@List.getElem?_take
abbrev I8:=@Nat.eq_zero_or_pos
abbrev I9:=@Array.any_eq_true'
abbrev J0:=@List.mem_cons_self
abbrev J1:=@List.getElem?_drop
abbrev J2:=@BitVec.toNat_ofInt
abbrev J3:=@List.mem_singleton
abbrev J4:=@List.pairwise_cons
abbrev J5:=@Bool.false_eq_true
abbrev J6:=@Array.extract_size
abbrev J7:=@List.append_assoc
abbrev J8:=@Option.some.injEq
abbrev J9:=@List.filter_congr
abbrev K0:=@List.ext_getElem?
abbrev K1:=@List.getElem?_map
abbrev K2:=@List.getElem?_set
abbrev K3:=@List.nodup_append
abbrev K4:=@List.take_add_one
abbrev K5:=@Bool.eq_false_iff
abbrev K6:=@Function.comp_def
abbrev K7:=@List.flatMap_cons
abbrev K8:=@List.size_toArray
abbrev K9:=@List.push_toArray
abbrev L0:=@List.foldl_append
abbrev L1:=@Nat.lt_trichotomy
abbrev L2:=@Int.toNat_natCast
abbrev L3:=@List.length_range
abbrev L4:=@List.pairwise_map
abbrev L5:=@Option.bind_some
abbrev L6:=@List.length_cons
abbrev L7:=@List.cons_append
abbrev L8:=@Array.toList_inj
abbrev L9:=@Bool.and_eq_true
abbrev M0:=@List.all_eq_true
abbrev M1:=@Int.ediv_le_self
abbrev M2:=@Nat.lt_succ_self
abbrev M3:=@List.length_take
abbrev M4:=@List.any_eq_true
abbrev M5:=@List.mem_flatMap
abbrev M6:=@Nat.min_eq_right
abbrev M7:=@MapKept.heap_set
abbrev M8:=@List.filter_cons
abbrev M9:=@List.take_length
abbrev N0:=@Nat.le_of_not_lt
abbrev N1:=@List.mem_append
abbrev N2:=@List.foldl_cons
abbrev N3:=@Int.natCast_mul
abbrev N4:=@Option.some.inj
abbrev N5:=@Bool.or_eq_true
abbrev N6:=@List.nil_append
abbrev N7:=@List.append_nil
abbrev N8:=@List.length_nil
abbrev N9:=@List.length_set
abbrev O4:=@Int.ediv_nonneg
abbrev P1:=@Nat.min_eq_left
abbrev P2:=@List.mem_filter
abbrev P3:=@List.map_append
abbrev P4:=@Option.map_some
abbrev P5:=@List.nodup_cons
abbrev P6:=@List.length_map
abbrev P7:=@Bool.eq_iff_iff
abbrev P8:=@List.range_succ
abbrev P9:=@List.mem_range
abbrev Q0:=@List.map_cons
abbrev Q1:=@List.mem_cons
abbrev Q2:=@Nat.lt_irrefl
abbrev Q3:=@List.all_cons
abbrev Q4:=@Bool.false_or
abbrev Q5:=@Int.add_assoc
abbrev Q6:=@Code.wp_mono
abbrev Q7:=@Nat.beq_refl
abbrev Q8:=@Nat.lt_or_ge
abbrev Q9:=@Nat.add_zero
abbrev R0:=@Nat.zero_add
abbrev R1:=@Nat.sub_zero
abbrev R2:=@Nat.le_trans
abbrev R3:=@List.mem_map
abbrev R4:=@Sem.run_bind
abbrev R5:=@List.map_map
abbrev R6:=@Int.zero_add
abbrev R7:=@Nat.le_refl
abbrev R8:=@Nat.add_mul
abbrev R9:=@Int.le_refl
abbrev S0:=@Nat.zero_le
abbrev S5:=@Nat.mul_one
abbrev T0:=@Below.refl
abbrev T1:=@Ne.symm
section
open Go Go.RowKit
abbrev Env:=List (Nat×Value)
def lk:Env→Nat→Option Value
  | [],_=>none
  | (i,v) :: l,j=>match Nat.beq i j with
    | true=>some v
    | false=>lk l j
def opv (l:Env):Operand->Option Value
  | .tmp t=>lk l t
  | .const v=>some v
  | .global g=>some (.pointer (some ⟨g,0,none⟩))
  | .func f=>some (.func (.func f) #[] #[])
def U9 (l:Env):List Operand→Option (List Value)
  | []=>some []
  | x :: r=>match opv l x with
    | some v=>match U9 l r with
      | some vs=>some (v :: vs)
      | none=>none
    | none=>none
structure Ok (n:Nat) (a:Act) (l:Env):Prop where
  size:a.tmps.size=n
  defers:a.defers=[]
  knows:∀ i v,lk l i=some v->a.tmps.getD i undef=v
theorem Ok.put {n d:Nat} {a:Act} {l:Env} (h:Ok n a l) (hd:Nat.blt d n=true) (v:Value):Ok n (a.put (some d) v) ((d,v) :: l):=by
  have b:d < n:=(by simpa using hd);refine ⟨by simp [Act.put,h.size],h.defers,λ i u hu=>?_⟩;simp only [lk] at hu;cases hb:Nat.beq d i with
  | true =>
    rw [hb] at hu;have:d=i:=E7 hb;subst this;have hlt:d < a.tmps.size:=(by rw [h.size];exact b);simp only [Act.put,B1,Array.getElem?_setIfInBounds,hlt,if_true,Option.getD_some];simpa using hu
  | false =>
    rw [hb] at hu;have c:d≠i:=Nat.ne_of_beq_eq_false hb;have:=h.knows i u hu;simp only [Act.put,B1,Array.getElem?_setIfInBounds,c,if_false] at this ⊢;exact this
theorem Ok.eval {n:Nat} {a:Act} {l:Env} (h:Ok n a l) {x:Operand} {v:Value} (b:opv l x=some v):a.eval x=v:=by
  cases x with
  | tmp t=>exact h.knows t v b
  | const u=>simpa [opv,Act.eval] using b
  | global g=>simpa [opv,Act.eval] using b
  | func f=>simpa [opv,Act.eval] using b
theorem Ok.evals {n:Nat} {a:Act} {l:Env} (h:Ok n a l):∀ {xs:List Operand} {vs:List Value},U9 l xs=some vs→xs.map a.eval=vs
  | [],vs,hx=>by simpa [U9] using hx
  | x :: r,vs,hx=>by
    simp only [U9] at hx;cases b:opv l x with
    | none=>rw [b] at hx;simp at hx
    | some v =>
      rw [b] at hx;cases hr:U9 l r with
      | none=>rw [hr] at hx;simp at hx
      | some d =>
        rw [hr] at hx;have c:v :: d=vs:=(by simpa using hx);rw [Q0,h.eval b,h.evals hr,c]
def T7 (l:Env):Env->Prop
  | []=>True
  | (i,v) :: r=>lk l i=some v/\T7 l r
theorem AN {l:Env}:∀ {a:Env},T7 l a->∀ i v,lk a i=some v->lk l i=some v
  | [],_,i,v,h=>by simp [lk] at h
  | (j,u) :: r,hs,i,v,h=>by
    simp only [lk] at h;cases hb:Nat.beq j i with
    | true =>
      rw [hb] at h;have:j=i:=E7 hb;subst this;have:u=v:=(by simpa using h);subst this;exact hs.1
    | false=>rw [hb] at h;exact AN hs.2 i v h
theorem Ok.sub {n:Nat} {a:Act} {l b:Env} (h:Ok n a l) (hs:T7 l b):Ok n a b:=⟨h.size,h.defers,λ i v c=>h.knows i v (AN hs i v c)⟩
def dr (w:World) (a:Nat):World:={ w with drawn:=a }
theorem Ja (w:World):dr w w.drawn=w:=rfl
theorem KA (w:World) (a:Nat):(dr w a).heap=w.heap:=rfl
theorem Ma (w:World) (b:Nat) (a:Addr):(dr w b).cell? a=w.cell? a:=rfl
abbrev U3:=Exit->Env->World->Prop
def Ac9:Exit->Prop
  | .panic _=>False
  | .outgrown=>False
  | _=>True
def W5 (n:Nat) (Q:U3) (e:Exit) (a:Act) (w:World):Prop:=Ac9 e/\∃ l b c,w=dr b c/\Ok n a l/\Q e l b
theorem KB {n:Nat} {Q:U3} {e:Exit} {a:Act} {w:World} {l:Env} {c:Nat} (he:Ac9 e) (h:Ok n a l) (b:Q e l w):W5 n Q e a (dr w c):=⟨he,l,w,c,rfl,h,b⟩
def ewp (P:Program) (n:Nat) (c:Code) (Q:U3) (l:Env) (w:World):Prop:=∀ a b,Ok n a l->c.wp P (W5 n Q) a (dr w b)
def owp (P:Program) (n:Nat) (ops:Array Oper) (Q:U3) (rest:List Oper) (l:Env) (w:World):Prop:=∀ a b,Ok n a l->wpList P ops (W5 n Q) rest a (dr w b)
section code
variable {P : Program} {n : Nat} {Q : U3} {l : Env} {w : World}
def thn (K:Env->World->Prop) (Q:U3):U3
  | .normal,l,w=>K l w
  | e,l,w=>Q e l w
theorem HT {c:Code} {b:U3} (d:∀ e l w,Q e l w->b e l w) (h:ewp P n c Q l w):ewp P n c b l w :=
  λ a g f=>Q6 (λ _ _ _ ⟨hn,l,w,g,hw,ho,q⟩=>⟨hn,l,w,g,hw,ho,d _ _ _ q⟩) (h a g f)
theorem Ah {x y:Code} (h:ewp P n x (thn (ewp P n y Q) Q) l w):ewp P n (.seq x y) Q l w:=λ a d b =>
  wp_seq (Q6 (λ e a w hl=>by
    obtain ⟨hn,l',w',d',rfl,ho,hq⟩:=hl;cases e with
    | normal=>exact hq a d' ho
    | panic c=>exact hn.elim
    | outgrown=>exact hn.elim
    | exit i=>exact ⟨trivial,l',w',d',rfl,ho,hq⟩
    | goto i=>exact ⟨trivial,l',w',d',rfl,ho,hq⟩
    | ret=>exact ⟨trivial,l',w',d',rfl,ho,hq⟩) (h a d b))
theorem Ue {x y:Code} (b:Env->World->Prop) (h:ewp P n x (thn b Q) l w) (k:∀ a w',b a w'->ewp P n y Q a w'):ewp P n (.seq x y) Q l w :=
  Ah (HT (λ e l w q=>by cases e<;>first|exact k _ _ q|exact q) h)
theorem AK (h:Q .normal l w):ewp P n .skip Q l w:=λ _ _ a=>wp_skip (KB trivial a h)
theorem Et {i:Nat} (h:Q (.exit i) l w):ewp P n (.exit i) Q l w:=λ _ _ a=>wp_exit (KB trivial a h)
theorem AE (h:Q .ret l w):ewp P n .ret Q l w:=λ _ _ a=>wp_ret (KB trivial a h)
theorem Am {c:Operand} {x y:Code} (hc:opv l c=some (.bool true)) (h:ewp P n x Q l w):ewp P n (.cond c x y) Q l w:=λ a d b=>wp_cond_true (b.eval hc) (h a d b)
theorem Aj {c:Operand} {x y:Code} (hc:opv l c=some (.bool false)) (h:ewp P n y Q l w):ewp P n (.cond c x y) Q l w:=λ a d b=>wp_cond_false (b.eval hc) (h a d b)
theorem BH {c:Operand} {x y:Code} {b:Bool} (hc:opv l c=some (.bool b)) (a:b=true->ewp P n x Q l w) (hf:b=false->ewp P n y Q l w):ewp P n (.cond c x y) Q l w:=by
  cases b
  . exact Aj hc (hf rfl)
  . exact Am hc (a rfl)
def U7 (id:Nat) (Q:U3):U3
  | .exit i,l,w=>match Nat.beq i id with
    | true=>Q .normal l w
    | false=>Q (.exit i) l w
  | e,l,w=>Q e l w
theorem Ci {id:Nat} {c:Code} (h:ewp P n c (U7 id Q) l w):ewp P n (.block id c) Q l w:=λ a f b =>
  wp_block (Q6 (λ e a w hl=>by
    obtain ⟨hn,l',w',d',rfl,ho,hq⟩:=hl;cases e with
    | exit i =>
      simp only [Exit.inBlock];simp only [U7] at hq;by_cases hi:i=id
      . subst hi;have hb:Nat.beq i i=true:=Q7 i;rw [hb] at hq;rw [if_pos rfl];exact ⟨trivial,l',w',d',rfl,ho,hq⟩
      . have hb:Nat.beq i id=false:=by
          cases d:Nat.beq i id
          . rfl
          . exact absurd (E7 d) hi
        rw [hb] at hq;rw [if_neg hi];exact ⟨trivial,l',w',d',rfl,ho,hq⟩
    | panic c=>exact hn.elim
    | outgrown=>exact hn.elim
    | normal=>exact ⟨trivial,l',w',d',rfl,ho,hq⟩
    | goto i=>exact ⟨trivial,l',w',d',rfl,ho,hq⟩
    | ret=>exact ⟨trivial,l',w',d',rfl,ho,hq⟩) (h a f b))
theorem AX {c:Code} (b:Env) (hs:T7 l b) (h:ewp P n c Q b w):ewp P n c Q l w:=λ a e d=>h a e (d.sub hs)
theorem Pd {c:Code} {X:Type} (E:X→Env) (I:X→World→Prop) (p:X→Nat) (r:X) (hs:T7 l (E r)) (z:I r w)
    (u:∀ x w,I x w->ewp P n c (thn (λ A w'=>∃ g,T7 A (E g)/\I g w'/\p g < p x) Q) (E x) w):ewp P n (.loop c) Q l w:=by
  intro a U R;have G:∀ (m:Nat) (x:X) (a:Act) (w:World) (U:Nat),p x<=m->Ok n a (E x)->I x w->(Code.loop c).wp P (W5 n Q) a (dr w U):=by
    intro m x a w U hm H B;refine wp_loop (λ a' w'=>∃ g b o,w'=dr b o/\Ok n a' (E g)/\I g b) (λ a' w'=>Classical.epsilon λ k=>∃ g b o,w'=dr b o/\Ok n a' (E g)/\I g b/\p g=k /\
      ∀ f d j,w'=dr d j->Ok n a' (E f)->I f d->k<=p f) ⟨x,w,U,rfl,H,B⟩ ?_
    have s:∀ a' w',(∃ g b o,w'=dr b o/\Ok n a' (E g)/\I g b)->∃ k,∃ g b o,w'=dr b o/\Ok n a' (E g)/\I g b/\p g=k /\
        ∀ f d j,w'=dr d j->Ok n a' (E f)->I f d->k<=p f:=by
      intro a' w' ⟨g,b,o,C,v,hI'⟩;have:∀ m g b o,p g<=m->w'=dr b o->Ok n a' (E g)->I g b->∃ k,∃ g b o,w'=dr b o/\Ok n a' (E g)/\I g b/\p g=k /\
          ∀ f d j,w'=dr d j->Ok n a' (E f)->I f d->k<=p f:=by
        intro m
        induction m with
        | zero=>exact λ g b o hm C v B=>⟨p g,g,b,o,C,v,B,rfl,λ _ _ _ _ _ _=>by omega⟩
        | succ m S =>
          intro g b o hm C v B;by_cases D:∃ f d j,w'=dr d j/\Ok n a' (E f)/\I f d/\p f<=m
          . obtain ⟨f,d,j,J,K,L,h4⟩:=D;exact S f d j h4 J K L
          . refine ⟨p g,g,b,o,C,v,B,rfl,λ f d j J K L=>?_⟩;rcases Q8 (p f) (p g) with h|h
            . exact absurd ⟨f,d,j,J,K,L,by omega⟩ D
            . exact h
      exact this _ g b o (R7 _) C v hI'
    intro a' w' F;have hk:=D7 (s a' w' F);obtain ⟨g,b,o,rfl,v,hI',hμ,hmin⟩:=hk;refine Q6 (λ e M T hl=>?_) (u g b hI' a' o v);obtain ⟨hn,A,d,d₁,rfl,ho',hq⟩:=hl;cases e with
    | normal =>
      obtain ⟨t,hs₂,hI₂,hlt⟩:=hq;have q:=ho'.sub hs₂;refine ⟨⟨t,d,d₁,rfl,q,hI₂⟩,?_⟩;have y:=D7 (s M (dr d d₁) ⟨t,d,d₁,rfl,q,hI₂⟩);obtain ⟨O,w₃,d₃,hw₃,ho₃,hI₃,hμ₃,hmin₃⟩:=y;have N:=hmin₃ t d d₁ rfl q hI₂;exact Nat.lt_of_le_of_lt N (Nat.lt_of_lt_of_eq hlt hμ)
    | panic c=>exact hn.elim
    | outgrown=>exact hn.elim
    | exit i=>exact ⟨trivial,A,d,d₁,rfl,ho',hq⟩
    | goto i=>exact ⟨trivial,A,d,d₁,rfl,ho',hq⟩
    | ret=>exact ⟨trivial,A,d,d₁,rfl,ho',hq⟩
  exact G _ r a w U (R7 _) (R.sub hs) z
theorem Ae {id:Nat} {L:List Oper} (h:owp P n L.toArray Q L l w):ewp P n (.region id L.toArray false) Q l w:=λ a c b=>wp_region_lit (h a c b)
end code
def Ev (P:Program) (o:Oper) (l:Env) (w:World) (v:Value):Prop:=∀ n a b,Ok n a l->(execOp a.eval o).run P (dr w b)=.ok (.value v) (dr w b)
def Acq (ops:Array Oper) (j:Nat):Option Tmp:=(ops[j]?).bind (·.dst)
theorem Ok.yielded {n:Nat} {a:Act} {l:Env} (h:Ok n a l) {ops:Array Oper} {j dj:Nat} {b:Bool} (hj:Acq ops j=some dj) (hl:lk l dj=some (.bool b)):Go.yielded ops a.tmps j=some b:=by
  have c:=h.knows dj _ hl;unfold Go.yielded;unfold Acq at hj;rw [hj];simp only [L5];rw [B1] at c;cases d:a.tmps[dj]? with
  | none=>rw [d] at c;simp [undef] at c
  | some u=>rw [d] at c;simp only [Option.getD_some] at c;subst c;rfl
def isB:Value->Bool->Bool
  | .bool true,true=>true
  | .bool false,false=>true
  | _,_=>false
theorem Ok.unwanted {n:Nat} {a:Act} {l:Env} (h:Ok n a l) {ops:Array Oper} {j dj:Nat} {u:Value} {b:Bool} (hj:Acq ops j=some dj) (hl:lk l dj=some u) (hu:isB u b=false):(Go.yielded ops a.tmps j == some b)=false:=by
  have d:=h.knows dj _ hl;unfold Go.yielded;unfold Acq at hj;rw [hj];simp only [L5];rw [B1] at d;cases e:a.tmps[dj]? with
  | none=>rfl
  | some x =>
    rw [e] at d;simp only [Option.getD_some] at d;subst d;cases x<;>first|rfl|(rename_i c;cases c<;>cases b<;>first|rfl|(simp [isB] at hu))
section ops
variable {P : Program} {n : Nat} {ops : Array Oper} {Q : U3} {rest : List Oper} {l : Env} {w : World}
theorem Cv (h:Q .normal l w):owp P n ops Q [] l w:=λ _ _ a=>wpList_nil (KB trivial a h)
theorem Jz {dst:Option Tmp} {b:Op} {ty:TypeId} {pos:String} {aft:Array Edge}
    (h:∀ a e,Ok n a l->∀ K:Act->World->Prop,(∀ a' w',wpList P ops (W5 n Q) rest a' w'->K a' w')->(⟨dst,b,ty,pos,aft,none⟩:Oper).wp P a (dr w e) K (W5 n Q)):owp P n ops Q (⟨dst,b,ty,pos,aft,none⟩ :: rest) l w :=
  λ a e c=>wpList_plain rfl λ K d=>h a e c K d
theorem Bb {f:Tmp} {b:Op} {ty:TypeId} {pos:String} {aft:Array Edge} {v:Value} (he:Ev P ⟨some f,b,ty,pos,aft,none⟩ l w v) (hd:Nat.blt f n=true)
    (h:owp P n ops Q rest ((f,v) :: l) w):owp P n ops Q (⟨some f,b,ty,pos,aft,none⟩ :: rest) l w :=
  Jz λ a e c K d=>by
    unfold Oper.wp;rw [he n a e c];exact d _ _ (h _ _ (c.put hd v))
theorem Jb {dst:Option Tmp} {c:Op} {ty:TypeId} {pos:String} {aft:Array Edge} {d:Env} {w':World}
    (he:∀ a i,Ok n a l->(∃ v b,(execOp a.eval ⟨dst,c,ty,pos,aft,none⟩).run P (dr w i)=.ok (.value v) (dr w' b)/\Ok n (a.put dst v) d)\/(∃ b,(execOp a.eval ⟨dst,c,ty,pos,aft,none⟩).run P (dr w i)=.ok .skip (dr w' b)/\Ok n (a.put dst undef) d))
    (h:owp P n ops Q rest d w'):owp P n ops Q (⟨dst,c,ty,pos,aft,none⟩ :: rest) l w :=
  Jz λ a e g K f=>by
    unfold Oper.wp;rcases he a e g with ⟨v,b,hr,ho⟩|⟨b,hr,ho⟩
    . rw [hr];exact f _ _ (h _ _ ho)
    . rw [hr];exact f _ _ (h _ _ ho)
theorem Az {dst:Option Tmp} {d:Op} {ty:TypeId} {pos:String} {aft:Array Edge} {j dj:Nat} {b:Bool} (hj:Acq ops j=some dj) (hl:lk l dj=some (.bool b))
    (h:owp P n ops Q (⟨dst,d,ty,pos,aft,none⟩ :: rest) l w):owp P n ops Q (⟨dst,d,ty,pos,aft,some (j,b)⟩ :: rest) l w:=λ a g e=>by
  have c:=h a g e;have f:=e.yielded hj hl;unfold wpList at c ⊢;rw [if_pos (by simp [Region.wanted])] at c;rw [if_pos (by simp [Region.wanted,f])];exact c
theorem Aw {g:Tmp} {d:Op} {ty:TypeId} {pos:String} {aft:Array Edge} {j dj:Nat} {b:Bool} {u:Value} (hj:Acq ops j=some dj) (hl:lk l dj=some u)  
    (h:owp P n ops Q rest ((g,undef) :: l) w) (hu:isB u b=false:=by exact rfl) (hd:Nat.blt g n=true:=by exact rfl):owp P n ops Q (⟨some g,d,ty,pos,aft,some (j,b)⟩ :: rest) l w:=λ a e c=>by
  have f:=c.unwanted (b:=b) hj hl hu;unfold wpList;rw [if_neg (by simpa [Region.wanted] using f)];exact h _ _ (c.put hd undef)
end ops
end
section
open Go Go.RowKit
class TSlice (P:Program) (t:TypeId) (e:outParam TypeId):Prop where eq:P.underlying t=some (.slice e)
class TStr (P:Program) (t:TypeId):Prop where eq:P.underlying t=some .string
class TPtr (P:Program) (t:TypeId) (e:outParam TypeId):Prop where eq:P.underlying t=some (.pointer e)
class TIface (P:Program) (t:TypeId):Prop where eq:∃ ms,P.underlying t=some (.interface ms)
class TInt (P:Program) (t:TypeId) (k:outParam IntKind):Prop where eq:P.underlying t=some (.int k)
class TOne (P:Program) (t:TypeId):Prop where eq:∃ d,P.underlying t=some d/\(match d with|.struct _|.array _ _=>false|_=>true)=true
class TAgg (P:Program) (t:TypeId):Prop where eq:∃ d,P.underlying t=some d/\(match d with|.struct _|.array _ _=>true|_=>false)=true
class TInfo (P:Program) (t:TypeId) (z:outParam Value) (size bytes:outParam Nat):Prop where
  eq:∃ i,P.info? t=some i/\i.zero=some z/\i.size=size/\i.bytes=bytes
  sz:z.cells.size=size
class TField (P:Program) (t:TypeId) (f:Nat) (off:outParam Nat):Prop where eq:∃ fs fd i,P.underlying t=some (.struct fs)/\fs[f]?=some fd/\fd.offset=off/\P.info? fd.type=some i/\i.size≠0
theorem KH (b o k:Nat):(⟨b,o,none⟩:Addr).add k=⟨b,o + k,none⟩:=by
  unfold Addr.add;by_cases h:k=0<;>simp [h]
section
variable {P : Program} {l : Env} {w : World} {dst : Option Tmp} {ty : TypeId} {pos : String} {aft : Array Edge}
theorem EQ {t:TypeId} {z:Value} {size bytes:Nat} [h:TInfo P t z size bytes] (w:World):(sizeOf t).run P w=.ok size w:=by
  obtain ⟨i,hi,_,hs,_⟩:=h.eq;simp [sizeOf,typeInfo,hi,hs]
theorem Sm {t:TypeId} {i:TypeInfo} (hi:P.info? t=some i) (w:World):(typeInfo t).run P w=.ok i w:=by
  simp [typeInfo,hi]
theorem KJ {t:TypeId} {z:Value} {size bytes:Nat} [h:TInfo P t z size bytes] (w:World):(zeroValue t).run P w=.ok z w:=by
  obtain ⟨i,hi,hz,_,_⟩:=h.eq;simp [zeroValue,typeInfo,hi,hz]
theorem Ji {t:TypeId} [h:TOne P t] (w:World):(isAgg t).run P w=.ok false w:=by
  obtain ⟨a,hd,hm⟩:=h.eq;cases a<;>simp_all [isAgg,run_underlying hd]
theorem IG {t:TypeId} [h:TAgg P t] (w:World):(isAgg t).run P w=.ok true w:=by
  obtain ⟨a,hd,hm⟩:=h.eq;cases a<;>simp_all [isAgg,run_underlying hd]
theorem GP {x:Operand} {v:Value} (b:opv l x=some v):Ev P ⟨dst,.move x,ty,pos,aft,none⟩ l w v:=λ _ a d c=>by simp [execOp,c.eval b]
theorem GD {x:Operand} {v:Value} (b:opv l x=some v):Ev P ⟨dst,.assign x,ty,pos,aft,none⟩ l w v:=λ _ a d c=>by simp [execOp,c.eval b]
theorem Pe {c x y:Operand} {v:Value} (hc:opv l c=some (.bool true)) (d:opv l x=some v):Ev P ⟨dst,.pick c x y,ty,pos,aft,none⟩ l w v:=λ _ a e b=>by simp [execOp,b.eval d,b.eval hc,asBool]
theorem Pf {c x y:Operand} {v:Value} (hc:opv l c=some (.bool false)) (d:opv l y=some v):Ev P ⟨dst,.pick c x y,ty,pos,aft,none⟩ l w v:=λ _ a e b=>by simp [execOp,b.eval d,b.eval hc,asBool]
theorem Nu {t:TypeId} {x:Operand} {b:Bool} (c:opv l x=some (.bool b)):Ev P ⟨dst,.unOp .not t x,ty,pos,aft,none⟩ l w (.bool (!b)):=λ _ a e d=>by simp [execOp,d.eval c,Op.unary]
theorem QG {t:TypeId} {x:Operand} (a:opv l x=some (.bool true)):Ev P ⟨dst,.unOp .not t x,ty,pos,aft,none⟩ l w (.bool false):=Nu a
theorem QH {t:TypeId} {x:Operand} (a:opv l x=some (.bool false)):Ev P ⟨dst,.unOp .not t x,ty,pos,aft,none⟩ l w (.bool true):=Nu a
theorem DM {t u:TypeId} {x y:Operand} {k:IntKind} {a b:Int} (d:opv l x=some (.int k a)) (e:opv l y=some (.int k b)):Ev P ⟨dst,.binOp .lss t x y u,ty,pos,aft,none⟩ l w (.bool (decide (a < b))):=λ _ _ f c=>by simp [execOp,c.eval d,c.eval e,eqGuard,binOp,Op.intCmp]
theorem Mb {t u:TypeId} {x y:Operand} {k:IntKind} {a b:Int} (d:opv l x=some (.int k a)) (e:opv l y=some (.int k b)):Ev P ⟨dst,.binOp .leq t x y u,ty,pos,aft,none⟩ l w (.bool (decide (a<=b))):=λ _ _ f c=>by simp [execOp,c.eval d,c.eval e,eqGuard,binOp,Op.intCmp]
theorem Hu {t u:TypeId} {x y:Operand} {k:IntKind} {a b:Int} (d:opv l x=some (.int k a)) (e:opv l y=some (.int k b)):Ev P ⟨dst,.binOp .gtr t x y u,ty,pos,aft,none⟩ l w (.bool (decide (b < a))):=λ _ _ f c=>by simp [execOp,c.eval d,c.eval e,eqGuard,binOp,Op.intCmp]
theorem BA {t u:TypeId} {x y:Operand} {k:IntKind} {a b:Int} (d:opv l x=some (.int k a)) (e:opv l y=some (.int k b)):Ev P ⟨dst,.binOp .geq t x y u,ty,pos,aft,none⟩ l w (.bool (decide (b<=a))):=λ _ _ f c=>by simp [execOp,c.eval d,c.eval e,eqGuard,binOp,Op.intCmp]
theorem KK {t u:TypeId} {x y:Operand} {k:IntKind} {a b:Int} (d:opv l x=some (.int k a)) (e:opv l y=some (.int k b)):Ev P ⟨dst,.binOp .eql t x y u,ty,pos,aft,none⟩ l w (.bool (decide (a=b))):=λ _ _ f c=>by
  simp [execOp,c.eval d,c.eval e,eqGuard,binOp,Op.intCmp];by_cases h:a=b<;>simp [h]
theorem ZR {t u:TypeId} {x y:Operand} {k:IntKind} {a b:Int} (d:opv l x=some (.int k a)) (e:opv l y=some (.int k b)):Ev P ⟨dst,.binOp .neq t x y u,ty,pos,aft,none⟩ l w (.bool (!decide (a=b))):=λ _ _ f c=>by
  simp [execOp,c.eval d,c.eval e,eqGuard,binOp,Op.intCmp];by_cases h:a=b<;>simp [h]
theorem wrap_i64 {z:Int} (a:-9223372036854775808<=z) (b:z<=9223372036854775807):IntKind.i64.wrap z=z:=by
  rw [IntKind.wrap_i64];omega
theorem PN {t u:TypeId} {x y:Operand} {a b:Int} (d:opv l x=some (.int .i64 a)) (e:opv l y=some (.int .i64 b)) (h:-9223372036854775808<=a + b/\a + b<=9223372036854775807):Ev P ⟨dst,.binOp .add t x y u,ty,pos,aft,none⟩ l w (.int .i64 (a + b)):=λ _ _ f c=>by
  simp [execOp,c.eval d,c.eval e,eqGuard,binOp,Op.intArith,wrap_i64 h.1 h.2]
theorem VN {t u:TypeId} {x y:Operand} {a b:Int} (d:opv l x=some (.int .i64 a)) (e:opv l y=some (.int .i64 b)) (h:-9223372036854775808<=a - b/\a - b<=9223372036854775807):Ev P ⟨dst,.binOp .sub t x y u,ty,pos,aft,none⟩ l w (.int .i64 (a - b)):=λ _ _ f c=>by
  simp [execOp,c.eval d,c.eval e,eqGuard,binOp,Op.intArith,wrap_i64 h.1 h.2]
theorem ZS {t u:TypeId} {x y:Operand} {a b:Int} (d:opv l x=some (.int .i64 a)) (e:opv l y=some (.int .i64 b)) (h:-9223372036854775808<=a * b/\a * b<=9223372036854775807):Ev P ⟨dst,.binOp .mul t x y u,ty,pos,aft,none⟩ l w (.int .i64 (a * b)):=λ _ _ f c=>by
  simp [execOp,c.eval d,c.eval e,eqGuard,binOp,Op.intArith,wrap_i64 h.1 h.2]
theorem Sn {t u:TypeId} {x:Operand} {a:Nat} (c:opv l x=some (.int .i64 (a:Int))) (h:a < 9223372036854775807):Ev P ⟨dst,.binOp .add t x (.const (.int .i64 1)) u,ty,pos,aft,none⟩ l w (.int .i64 ((a + 1:Nat):Int)):=λ _ _ d b=>by
  simp [execOp,b.eval c,b.eval (x:=.const (.int .i64 1)) rfl,eqGuard,binOp,Op.intArith,wrap_i64 (z:=(a:Int) + 1) (by omega) (by omega)]
theorem PO {t e:TypeId} [h:TSlice P t e] {x:Operand} {A:Option Addr} {m c:Nat} (b:opv l x=some (.slice A m c)):Ev P ⟨dst,.call { callee:=.builtin .len,args:=#[x],argTypes:=#[t] },ty,pos,aft,none⟩ l w (.int .i64 (m:Int)):=λ _ a f d=>by
  simp [execOp,resolve,invoke,builtin,d.eval b,Builtin.len_,run_underlying h.eq,goInt]
theorem VO {t:TypeId} [h:TStr P t] {x:Operand} {s:ByteArray} (b:opv l x=some (.string s)):Ev P ⟨dst,.call { callee:=.builtin .len,args:=#[x],argTypes:=#[t] },ty,pos,aft,none⟩ l w (.int .i64 (s.size:Int)):=λ _ a d c=>by
  simp [execOp,resolve,invoke,builtin,c.eval b,Builtin.len_,run_underlying h.eq,goInt]
theorem ZT {d e:TypeId} {x y:Operand} {k:IntKind} {a b:Int} (f:opv l x=some (.int k a)) (g:opv l y=some (.int k b)):Ev P ⟨dst,.call { callee:=.builtin .min,args:=#[x,y],argTypes:=#[d,e] },ty,pos,aft,none⟩ l w (.int k (min a b)):=λ _ _ i c=>by
  simp [execOp,resolve,invoke,builtin,c.eval f,c.eval g,Builtin.min_,Builtin.min2];by_cases h:b < a<;>simp [h]<;>omega
theorem VP {d e:TypeId} {x y:Operand} {k:IntKind} {a b:Int} (f:opv l x=some (.int k a)) (g:opv l y=some (.int k b)):Ev P ⟨dst,.call { callee:=.builtin .max,args:=#[x,y],argTypes:=#[d,e] },ty,pos,aft,none⟩ l w (.int k (max a b)):=λ _ _ i c=>by
  simp [execOp,resolve,invoke,builtin,c.eval f,c.eval g,Builtin.max_,Builtin.max2];by_cases h:a < b<;>simp [h]<;>omega
theorem Jj {t e:TypeId} [h:TSlice P t e] {z:Value} {size bytes:Nat} [hi:TInfo P e z size bytes] {x i:Operand} {k:IntKind} {b o m c j:Nat} {q:Int} (f:opv l x=some (.slice (some ⟨b,o,none⟩) m c)) (g:opv l i=some (.int k q)) (hj:q=(j:Int)) (hlt:j < m) :
    Ev P ⟨dst,.indexAddr t x i,ty,pos,aft,none⟩ l w (.pointer (some ⟨b,o + j * size,none⟩)):=λ _ a n d=>by
  subst hj;simp [execOp,d.eval f,d.eval g,Instr.indexAt,asIntOf,run_underlying h.eq,EQ (P:=P) (t:=e),KH,hlt]
theorem Ed {t:TypeId} {f off:Nat} [h:TField P t f off] {x:Operand} {b o:Nat} (c:opv l x=some (.pointer (some ⟨b,o,none⟩))):Ev P ⟨dst,.fieldAddr t x f,ty,pos,aft,none⟩ l w (.pointer (some ⟨b,o + off,none⟩)):=λ _ a g d=>by
  obtain ⟨e,fd,i,h1,h2,h3,h4,h5⟩:=h.eq;simp [execOp,d.eval c,Instr.fieldAt,run_underlying h1,h2,Instr.sureAddr,fieldPlace,sizeOf,Sm h4,h5,h3,KH]
theorem Dc {t:TypeId} [TOne P t] {x:Operand} {b:Addr} {v:Value} (c:opv l x=some (.pointer (some b))) (hc:w.cell? b=some v):Ev P ⟨dst,.load t x,ty,pos,aft,none⟩ l w v:=λ _ a e d=>by
  simp [execOp,d.eval c,Instr.loadAt,Instr.sureAddr,loadVar,Ji,load,Sem.run,Ma,hc]
theorem Ip (w:World) (b o:Nat):∀ (cs:List Value) (i:Nat) (a:Array Value),(∀ j v,cs[j]?=some v->w.cell? ⟨b,o + (i + j),none⟩=some v) ->
    (loadCellsFrom ⟨b,o,none⟩ i cs.length a).run P w=.ok (a ++ cs.toArray) w
  | [],i,a,_=>by simp [loadCellsFrom]
  | c :: cs,i,a,h=>by
    have d:=h 0 c rfl;simp only [Q9] at d;have e:=Ip w b o cs (i + 1) (a.push c) (λ j v f=>by
      have:=h (j + 1) v (by simpa using f);rwa [show o + (i + 1 + j)=o + (i + (j + 1)) from by omega])
    simp only [L6,loadCellsFrom];simp [load,Sem.run,KH,d,e]
def cellsAt (w:World) (b o:Nat):List Value->Prop
  | []=>True
  | v :: r=>w.cell? ⟨b,o,none⟩=some v/\cellsAt w b (o + 1) r
theorem GL {w:World} {b:Nat}:∀ {cs:List Value} {o:Nat},cellsAt w b o cs->∀ j v,cs[j]?=some v->w.cell? ⟨b,o + j,none⟩=some v
  | [],o,_,j,v,h=>by simp at h
  | c :: r,o,hc,0,v,h=>by        have:c=v:=by simpa using h
                                 subst this;exact hc.1
  | c :: r,o,hc,j + 1,v,h=>by
    have:=GL hc.2 j v (by simpa using h);rwa [show o + (j + 1)=o + 1 + j from by omega]
theorem If {w:World} {b:Nat}:∀ {cs:List Value} {o:Nat},(∀ j v,cs[j]?=some v->w.cell? ⟨b,o + j,none⟩=some v)->cellsAt w b o cs
  | [],_,_=>trivial
  | c :: r,o,h=>⟨h 0 c rfl,If λ j v a=>by
      have:=h (j + 1) v (by simpa using a);rwa [show o + 1 + j=o + (j + 1) from by omega]⟩
theorem Ig {t:TypeId} [TAgg P t] {z:Value} {size bytes:Nat} [TInfo P t z size bytes] {x:Operand} {b o:Nat} {cs:List Value} (c:opv l x=some (.pointer (some ⟨b,o,none⟩))) (hl:cs.length=size) (hc:cellsAt w b o cs) :
    Ev P ⟨dst,.load t x,ty,pos,aft,none⟩ l w (.agg cs.toArray):=λ _ a f d=>by
  subst hl;have:=Ip (P:=P) (dr w f) b o cs 0 #[] (λ j v e=>by rw [R0];exact GL hc j v e);simp [execOp,d.eval c,Instr.loadAt,Instr.sureAddr,loadVar,IG,EQ (P:=P) (t:=t),loadCells,this]
theorem Pg {x:Operand} {b:Addr} (c:opv l x=some (.pointer (some b))):Ev P ⟨dst,.nilCheck x,ty,pos,aft,none⟩ l w (.pointer (some b)):=λ _ a e d=>by
  simp [execOp,d.eval c]
theorem PP {x:Operand} {i:Nat} {vs:Array Value} {v:Value} (b:opv l x=some (.tuple vs)) (hi:vs[i]?=some v):Ev P ⟨dst,.extract x i,ty,pos,aft,none⟩ l w v:=λ _ a d c=>by
  simp [execOp,c.eval b,Instr.extract,hi]
theorem PQ {t:TypeId} {k:IntKind} [hk:TInt P t k] {x:Operand} {v:Value} (b:opv l x=some v):Ev P ⟨dst,.makeInterface t x,ty,pos,aft,none⟩ l w (.iface t v):=λ _ a d c=>by
  simp [execOp,c.eval b,Instr.makeInterface,run_underlying hk.eq]
theorem Ph {t e:TypeId} [h:TPtr P t e] (p:Option Addr) (w:World):(Op.equal t (.pointer p) (.pointer none)).run P w=.ok p.isNone w:=by
  have hd:∀ a:Nat,(Op.equalIn (a + 1) t (.pointer p) (.pointer none)).run P w=.ok p.isNone w:=λ a=>by
    cases p<;>simp [Op.equalIn,run_underlying h.eq]
  exact hd 9999
theorem KL {t:TypeId} [h:TIface P t] (w:World):(Op.equal t .nilIface .nilIface).run P w=.ok true w:=by
  obtain ⟨a,hm⟩:=h.eq;have hd:∀ b:Nat,(Op.equalIn (b + 1) t .nilIface .nilIface).run P w=.ok true w:=λ b=>by
    simp [Op.equalIn,run_underlying hm]
  exact hd 9999
theorem JR {t:TypeId} [h:TIface P t] (s:TypeId) (v:Value) (w:World):(Op.equal t (.iface s v) .nilIface).run P w=.ok false w:=by
  obtain ⟨a,hm⟩:=h.eq;have hd:∀ b:Nat,(Op.equalIn (b + 1) t (.iface s v) .nilIface).run P w=.ok false w:=λ b=>by
    simp [Op.equalIn,run_underlying hm]
  exact hd 9999
theorem VQ {t e u:TypeId} [h:TPtr P t e] {x:Operand} {p:Option Addr} (c:opv l x=some (.pointer p)):Ev P ⟨dst,.binOp .eql t x (.const (.pointer none)) u,ty,pos,aft,none⟩ l w (.bool p.isNone):=λ _ a f b=>by
  have d:=b.eval (x:=.const (.pointer none)) (v:=.pointer none) rfl;simp [execOp,b.eval c,d,eqGuard,binOp,Ph (P:=P) (t:=t)]
theorem Rb {t u:TypeId} [h:TIface P t] {x:Operand} (c:opv l x=some .nilIface):Ev P ⟨dst,.binOp .eql t x (.const .nilIface) u,ty,pos,aft,none⟩ l w (.bool true):=λ _ a e b=>by
  have d:=b.eval (x:=.const .nilIface) (v:=.nilIface) rfl;simp [execOp,b.eval c,d,eqGuard,binOp,KL (P:=P) (t:=t)]
theorem PR {t u:TypeId} [h:TIface P t] {x:Operand} {s:TypeId} {v:Value} (c:opv l x=some (.iface s v)):Ev P ⟨dst,.binOp .eql t x (.const .nilIface) u,ty,pos,aft,none⟩ l w (.bool false):=λ _ a e b=>by
  have d:=b.eval (x:=.const .nilIface) (v:=.nilIface) rfl;simp [execOp,b.eval c,d,eqGuard,binOp,JR (P:=P) (t:=t)]
theorem PS {t u:TypeId} [h:TIface P t] {x:Operand} (c:opv l x=some .nilIface):Ev P ⟨dst,.binOp .neq t x (.const .nilIface) u,ty,pos,aft,none⟩ l w (.bool false):=λ _ a e b=>by
  have d:=b.eval (x:=.const .nilIface) (v:=.nilIface) rfl;simp [execOp,b.eval c,d,eqGuard,binOp,KL (P:=P) (t:=t)]
theorem OT {t u:TypeId} [h:TIface P t] {x:Operand} {s:TypeId} {v:Value} (c:opv l x=some (.iface s v)):Ev P ⟨dst,.binOp .neq t x (.const .nilIface) u,ty,pos,aft,none⟩ l w (.bool true):=λ _ a e b=>by
  have d:=b.eval (x:=.const .nilIface) (v:=.nilIface) rfl;simp [execOp,b.eval c,d,eqGuard,binOp,JR (P:=P) (t:=t)]
theorem So {t:TypeId} [h:TStr P t] {x i:Operand} {k:IntKind} {s:ByteArray} {j:Nat} (c:opv l x=some (.string s)) (d:opv l i=some (.int k (j:Int))) (hlt:j < s.size) :
    Ev P ⟨dst,.index t x i,ty,pos,aft,none⟩ l w (.int .u8 ((s[j]'hlt).toNat:Int)):=λ _ a e b=>by
  simp [execOp,b.eval c,b.eval d,Instr.index,asIntOf,run_underlying h.eq,hlt]
theorem Rc {b:Fn} {xs ys:List Operand} {vs c:List Value} (e:U9 l xs=some vs) (f:U9 l ys=some c):Ev P ⟨dst,.makeFunc b xs.toArray ys.toArray,ty,pos,aft,none⟩ l w (.func b vs.toArray c.toArray):=λ _ a g d=>by
  simp [execOp,Instr.makeFunc,d.evals e,d.evals f]
end
end
section
open Go Go.RowKit
def Agree (F:Nat->Prop) (w w':World):Prop:=∀ k,F k->w'.heap[k]?=w.heap[k]?
abbrev Ext (w w':World):Prop:=Below w.heap.size w w'
theorem Ext.agree {w w':World} (h:Ext w w') {F:Nat->Prop} (a:∀ k,F k->k < w.heap.size):Agree F w w':=λ k hk=>h.block k (a k hk)
theorem Ext.trans' {a b c:World} (h:Ext a b) (k:Ext b c):Ext a c:=h.trans (k.mono h.size)
theorem Agree.cell {F:Nat->Prop} {w w':World} (h:Agree F w w') {a:Addr} (b:F a.block):w'.cell? a=w.cell? a:=World.cell?_of_block (h _ b)
theorem Ej {F:Nat->Prop} {w w':World} (h:Agree F w w') {b:Nat} (hb:F b):∀ {cs:List Value} {o:Nat},cellsAt w b o cs->cellsAt w' b o cs
  | [],_,_=>trivial
  | _ :: _,_,hc=>⟨(h.cell hb).trans hc.1,Ej h hb hc.2⟩
theorem Nv {w w':World} {b o:Nat} {cs:List Value} (h:cellsAt w b o cs) (hb:b < w.heap.size) (a:Ext w w'):cellsAt w' b o cs:=Ej (F:=(· < w.heap.size)) (a.agree λ _ h=>h) hb h
theorem GQ {w:World} {b:Nat}:∀ {xs ys:List Value} {o:Nat},cellsAt w b o (xs ++ ys)↔cellsAt w b o xs/\cellsAt w b (o + xs.length) ys
  | [],ys,o=>by simp [cellsAt]
  | x :: xs,ys,o=>by
    simp only [L7,cellsAt,L6];rw [GQ,show o + 1 + xs.length=o + (xs.length + 1) from by omega,and_assoc]
class Rp (α:Type) where
  isAgg:Bool
  size:Nat
  R:World->(Nat->Prop)->List Value->α->Prop
  len:∀ {w F cs x},R w F cs x->cs.length=size
  one:∀ {w F cs x},R w F cs x->∀ u∈cs,u.oneCell'=true
  agree:∀ {w w' F cs x},R w F cs x->Agree F w w'->R w' F cs x
  mono:∀ {w F G cs x},R w F cs x->(∀ k,F k->G k)->R w G cs x
def Chunks {α:Type} [Rp α] (w:World) (F:Nat->Prop):List Value->List α->Prop
  | cells,[]=>cells=[]
  | cells,x :: xs=>∃ cs a,cells=cs ++ a/\Rp.R w F cs x/\Chunks w F a xs
section
variable {α : Type} [Rp α] {w w' : World} {F G : Nat → Prop}
theorem Chunks.length:∀ {xs:List α} {cells:List Value},Chunks w F cells xs->cells.length=xs.length * Rp.size α
  | [],cells,h=>by     have:cells=[]:=h
                       simp [this]
  | x :: xs,cells,⟨cs,rest,he,hr,hc⟩=>by
    rw [he,I5,Rp.len hr,Chunks.length hc,L6,R8];omega
theorem Chunks.one:∀ {xs:List α} {cells:List Value},Chunks w F cells xs->∀ u∈cells,u.oneCell'=true
  | [],cells,h,u,hu=>by       have:cells=[]:=h
                              simp [this] at hu
  | x :: xs,cells,⟨cs,rest,he,hr,hc⟩,u,hu=>by
    rw [he,N1] at hu;rcases hu with hu|hu
    . exact Rp.one hr u hu
    . exact Chunks.one hc u hu
theorem Chunks.agree (h:Agree F w w'):∀ {xs:List α} {cells:List Value},Chunks w F cells xs->Chunks w' F cells xs
  | [],_,hc=>hc
  | _ :: _,_,⟨cs,rest,he,hr,hc⟩=>⟨cs,rest,he,Rp.agree hr h,Chunks.agree h hc⟩
theorem Chunks.mono (h:∀ k,F k->G k):∀ {xs:List α} {cells:List Value},Chunks w F cells xs->Chunks w G cells xs
  | [],_,hc=>hc
  | _ :: _,_,⟨cs,rest,he,hr,hc⟩=>⟨cs,rest,he,Rp.mono hr h,Chunks.mono h hc⟩
theorem Chunks.append:∀ {xs ys:List α} {c a:List Value},Chunks w F c xs->Chunks w F a ys->Chunks w F (c ++ a) (xs ++ ys)
  | [],ys,c,a,h,k=>by        have:c=[]:=h
                             subst this;exact k
  | x :: xs,ys,c,a,⟨cs,rest,he,hr,hc⟩,k=>⟨cs,rest ++ a,by rw [he,J7],hr,Chunks.append hc k⟩
theorem Chunks.single {x:α} {cs:List Value} (h:Rp.R w F cs x):Chunks w F cs [x]:=⟨cs,[],by simp,h,rfl⟩
theorem Chunks.get:∀ {xs:List α} {cells:List Value},Chunks w F cells xs->∀ {i:Nat} {x:α},xs[i]?=some x->∃ b cs a,cells=b ++ (cs ++ a)/\b.length=i * Rp.size α/\Rp.R w F cs x
  | [],_,_,i,x,h=>by simp at h
  | y :: xs,cells,⟨cs,rest,he,hr,hc⟩,0,x,h=>by
    have:y=x:=(by simpa using h);subst this;exact ⟨[],cs,rest,by simpa using he,by simp,hr⟩
  | y :: xs,cells,⟨cs,rest,he,hr,hc⟩,i + 1,x,h=>by
    obtain ⟨b,c',a,h1,h2,h3⟩:=Chunks.get hc (i:=i) (x:=x) (by simpa using h);exact ⟨cs ++ b,c',a,by rw [he,h1,J7],by rw [I5,h2,Rp.len hr,R8];omega,h3⟩
theorem Chunks.take:∀ {xs :   List α} {cells:List Value} (k:Nat),Chunks w F cells xs→Chunks w F (cells.take (k * Rp.size α)) (xs.take k)
  | xs,cells,0,h=>by simp [Chunks]
  | [],cells,k + 1,h=>by      have:cells=[]:=h
                              simp [this,Chunks]
  | x :: xs,cells,k + 1,⟨cs,rest,he,hr,hc⟩=>by
    refine ⟨cs,rest.take (k * Rp.size α),?_,hr,Chunks.take k hc⟩;rw [he,List.take_append,Rp.len hr,show (k + 1) * Rp.size α - Rp.size α=k * Rp.size α from by rw [R8];omega,D8 (by rw [Rp.len hr,R8];omega)]
end
def SlR {α:Type} [Rp α] (w:World) (F:Nat->Prop) (v:Value) (xs:List α):Prop :=
  ∃ A c cells,v=.slice A xs.length c/\xs.length<=c/\c<=9223372036854775807/\Chunks w F cells xs/\(0 < xs.length->∃ b o,A=some ⟨b,o,none⟩/\F b/\cellsAt w b o cells)
instance {α:Type} [Rp α]:Rp (List α) where
  isAgg:=false
  size:=1
  R w F cs xs:=∃ v,cs=[v]/\SlR w F v xs
  len:=by rintro w F cs x ⟨v,rfl,_⟩;rfl
  one:=by
    rintro w F cs x ⟨v,rfl,A,c,cells,rfl,_⟩ u hu;have:u=.slice A x.length c:=(by simpa using hu);subst this;rfl
  agree:=by
    rintro w w' F cs x ⟨v,rfl,A,c,cells,rfl,h1,h2,h3,h4⟩ h;refine ⟨_,rfl,A,c,cells,rfl,h1,h2,h3.agree h,λ hn=>?_⟩;obtain ⟨b,o,h5,h6,h7⟩:=h4 hn;exact ⟨b,o,h5,h6,Ej h h6 h7⟩
  mono:=by
    rintro w F G cs x ⟨v,rfl,A,c,cells,rfl,h1,h2,h3,h4⟩ h;refine ⟨_,rfl,A,c,cells,rfl,h1,h2,h3.mono h,λ hn=>?_⟩;obtain ⟨b,o,h5,h6,h7⟩:=h4 hn;exact ⟨b,o,h5,h _ h6,h7⟩
def T3 (n:Int):Prop:=-9223372036854775808<=n/\n<=9223372036854775807
instance:Rp Int where
  isAgg:=false
  size:=1
  R _ _ cs n:=cs=[.int .i64 n]/\T3 n
  len:=by rintro w F cs x ⟨rfl,_⟩;rfl
  one:=by
    rintro w F cs x ⟨rfl,_⟩ u hu;have:u=.int .i64 x:=(by simpa using hu);subst this;rfl
  agree:=λ h _=>h
  mono:=λ h _=>h
instance:Rp Bool where
  isAgg:=false
  size:=1
  R _ _ cs b:=cs=[.bool b]
  len:=by rintro w F cs x rfl;rfl
  one:=by
    rintro w F cs x rfl u hu;have:u=.bool x:=(by simpa using hu);subst this;rfl
  agree:=λ h _=>h
  mono:=λ h _=>h
instance:Rp ByteArray where
  isAgg:=false
  size:=1
  R _ _ cs s:=cs=[.string s]/\s.size<=9223372036854775807
  len:=by rintro w F cs x ⟨rfl,_⟩;rfl
  one:=by
    rintro w F cs x ⟨rfl,_⟩ u hu;have:u=.string x:=(by simpa using hu);subst this;rfl
  agree:=λ h _=>h
  mono:=λ h _=>h
def Vb {α:Type} [Rp α] (w:World) (F:Nat->Prop) (v:Value) (x:α):Prop :=
  match Rp.isAgg α with
  | true=>∃ cs:List Value,v=.agg cs.toArray/\Rp.R w F cs x
  | false=>Rp.R w F [v] x
abbrev All (w:World):Nat->Prop:=λ k=>k < w.heap.size
abbrev V {α:Type} [Rp α] (w:World) (v:Value) (x:α):Prop:=Vb w (All w) v x
section
variable {α : Type} [Rp α] {w w' : World} {F G : Nat → Prop} {v : Value} {x : α} {xs : List α}
theorem Vb.agree (h:Vb w F v x) (a:Agree F w w'):Vb w' F v x:=by
  unfold Vb at *
  cases hb:Rp.isAgg α<;>simp only [hb] at h ⊢
  . exact Rp.agree h a
  . obtain ⟨cs,h1,h2⟩:=h;exact ⟨cs,h1,Rp.agree h2 a⟩
theorem Vb.mono (h:Vb w F v x) (hk:∀ k,F k->G k):Vb w G v x:=by
  unfold Vb at *
  cases hb:Rp.isAgg α<;>simp only [hb] at h ⊢
  . exact Rp.mono h hk
  . obtain ⟨cs,h1,h2⟩:=h;exact ⟨cs,h1,Rp.mono h2 hk⟩
theorem Vb.ext (h:V w v x) (he:Ext w w'):V w' v x:=(h.agree (he.agree λ _ h=>h)).mono λ _ hk=>I6 hk he.size
theorem Vb.below {a:Nat} (h:Vb w (· < a) v x) (he:Below a w w'):Vb w' (· < a) v x:=h.agree λ k hk=>he.block k hk
theorem Vb.cells (h:Vb w F v x):Rp.R w F v.cells.toList x:=by
  unfold Vb at h;cases hb:Rp.isAgg α<;>simp only [hb] at h
  . have a:=Rp.one h v (by simp);have:v.cells.toList=[v]:=(by cases v<;>first|rfl|(simp [Value.oneCell'] at a));rw [this];exact h
  . obtain ⟨cs,rfl,h2⟩:=h;exact h2
theorem Vb.slice (h:Vb w F v xs):SlR w F v xs:=by
  obtain ⟨u,hu,h'⟩:=h;have:v=u:=(by simpa using hu);subst this;exact h'
theorem Vb.of_slice (h:SlR w F v xs):Vb w F v xs:=⟨v,rfl,h⟩
theorem Vb.nil (w:World) (F:Nat->Prop):Vb (α:=List α) w F (.slice none 0 0) []:=.of_slice ⟨none,0,[],rfl,R7 _,by omega,rfl,λ h=>by simp at h⟩
theorem Vb.elem {A:Option Addr} {m c:Nat} (h:Vb w F (.slice A m c) xs) {k:Nat} {x:α} (d:xs[k]?=some x) :
    ∃ b o cs,A=some ⟨b,o,none⟩/\F b/\k < m/\cellsAt w b (o + k * Rp.size α) cs/\Rp.R w F cs x:=by
  obtain ⟨j,c',cells,he,h1,h2,h3,h4⟩:=h.slice;injection he with e f g;subst e;subst f;subst g;have hk:k < xs.length:=by
    rcases Q8 k xs.length with h|h
    . exact h
    . rw [E8 h] at d;cases d
  obtain ⟨b,o,h5,h6,h7⟩:=h4 (by omega);obtain ⟨i,cs,post,h8,h9,h10⟩:=h3.get d;rw [h8] at h7;have a:=(GQ.1 (GQ.1 h7).2).1;rw [h9] at a;exact ⟨b,o,cs,h5,h6,hk,a,h10⟩
theorem Vb.len {A:Option Addr} {m c:Nat} (h:Vb w F (.slice A m c) xs):m=xs.length/\m<=c/\c<=9223372036854775807:=by
  obtain ⟨d,c',cells,he,h1,h2,h3,h4⟩:=h.slice;injection he with e a b;subst a;subst b;exact ⟨rfl,h1,h2⟩
theorem Vb.form (h:Vb w F v xs):∃ A c,v=.slice A xs.length c:=by
  obtain ⟨a,c',cells,he,_⟩:=h.slice;exact ⟨a,c',he⟩
end
def Blk (w:World) (g:Nat) (t:TypeId) (cs:List Value):Prop:=w.heap[g]?=some (.cells cs.toArray t (0,0))
section
variable {w w' : World} {g : Nat} {t : TypeId} {cs : List Value}
theorem Blk.lt (h:Blk w g t cs):g < w.heap.size:=by
  rcases Q8 g w.heap.size with hlt|hge
  . exact hlt
  . unfold Blk at h;rw [D9 hge] at h;cases h
theorem Blk.cell (h:Blk w g t cs) {i:Nat} {v:Value} (hi:cs[i]?=some v):w.cell? ⟨g,i,none⟩=some v:=by
  unfold Blk at h;simp [World.cell?,h,hi]
theorem Blk.cellsAt (h:Blk w g t cs):cellsAt w g 0 cs:=If λ j v a=>by rw [R0];exact h.cell a
theorem Blk.frozen (h:Blk w g t cs) (i:Nat):w.frozen? ⟨g,i,none⟩=false:=by
  unfold Blk at h;simp [World.frozen?,h]
theorem Blk.keep (h:Blk w g t cs) (he:w'.heap[g]?=w.heap[g]?):Blk w' g t cs:=he.trans h
theorem Blk.ext (h:Blk w g t cs) (he:Ext w w'):Blk w' g t cs:=h.keep (he.block g h.lt)
end
structure New (w w':World) (t:TypeId) (cs:List Value):Prop where
  ext:Ext w w'
  size:w'.heap.size=w.heap.size + 1
  blk:Blk w' w.heap.size t cs
structure Upd (w w':World) (g:Nat) (t:TypeId) (cs:List Value):Prop where
  os:w'.os=w.os
  tape:w'.tape=w.tape
  output:w'.output=w.output
  size:w'.heap.size=w.heap.size
  blk:Blk w' g t cs
  other:∀ k,k≠g->w'.heap[k]?=w.heap[k]?
theorem Upd.below {w w':World} {g:Nat} {t:TypeId} {cs:List Value} (h:Upd w w' g t cs) {b:Nat} (a:b<=g):Below b w w' :=
  ⟨h.os,h.tape,h.output,Nat.le_of_eq h.size.symm,λ k hk=>h.other k (by omega)⟩
theorem Upd.agree {w w':World} {g:Nat} {t:TypeId} {cs:List Value} (h:Upd w w' g t cs) {F:Nat->Prop} (a:¬ F g):Agree F w w':=λ k hk=>h.other k (λ e=>a (e ▸ hk))
theorem New.mk' (w:World) (t:TypeId) (cs:List Value):New w (w.alloc (.cells cs.toArray t)) t cs :=
  ⟨(T0 _ _).alloc (R7 _) _,by simp,by unfold Blk;show (w.heap.push _)[_]?=_;simp⟩
theorem New.upd {w b c:World} {t:TypeId} {cs a:List Value} (h:New w b t cs) (k:Upd b c w.heap.size t a):New w c t a :=
  ⟨h.ext.trans (k.below (R7 _)),by rw [k.size,h.size],k.blk⟩
def Own {α:Type} [Rp α] (w:World) (base:Nat) (F:Nat->Prop) (e:TypeId) (v:Value) (xs:List α):Prop :=
  ∃ cells,w.ownsRow base e (Rp.size α) v xs.length cells/\Chunks w F cells xs/\∀ g,v.ownBlock=some g->¬ F g
section
variable {α : Type} [Rp α] {w w' : World} {F G : Nat → Prop} {base : Nat} {e : TypeId} {v : Value} {xs : List α}
theorem Own.nil (w:World) (base:Nat) (F:Nat->Prop) (e:TypeId):Own (α:=α) w base F e (.slice none 0 0) []:=⟨[],⟨by simp,.inl ⟨rfl,rfl⟩⟩,rfl,λ g h=>by simp [Value.ownBlock] at h⟩
theorem Own.vb (h:Own w base F e v xs):Vb w (λ k=>F k\/v.ownBlock=some k) v xs:=by
  obtain ⟨cells,a,h2,h3⟩:=h;rcases a.2 with ⟨rfl,hn⟩|⟨g,cap,cur,rfl,hg,hh,hnc,hcm,hcs,hcur⟩
  . have:xs=[]:=B0 hn;subst this;exact .nil _ _
  . refine .of_slice ⟨_,cap,cells,rfl,hnc,by simpa [maxLen] using hcm,h2.mono λ k hk=>.inl hk,λ b=>⟨g,0,rfl,.inr rfl,If λ j u hu=>?_⟩⟩;have hj:j < xs.length * Rp.size α:=(by rw [<- h2.length];exact (B7.1 hu).1);have:cur[j]?=some u:=by
      rw [<- hcur,I7,if_pos hj] at hu;simpa using hu
    simp [World.cell?,hh,this]
theorem Own.agree (h:Own w base F e v xs) (b:Agree F w w') (c:∀ g,v.ownBlock=some g->w'.heap[g]?=w.heap[g]?):Own w' base F e v xs:=by
  obtain ⟨cells,a,h2,h3⟩:=h;refine ⟨cells,⟨a.1,?_⟩,h2.agree b,h3⟩;rcases a.2 with h|⟨g,cap,cur,rfl,hg,hh,r⟩
  . exact .inl h
  . exact .inr ⟨g,cap,cur,rfl,hg,(c g rfl).trans hh,r⟩
theorem Own.lt (h:Own w base F e v xs):∀ g,v.ownBlock=some g->base<=g/\g < w.heap.size:=by
  obtain ⟨cells,d,h2,h3⟩:=h;rcases d.2 with ⟨rfl,hn⟩|⟨g,cap,cur,rfl,a,c,r⟩
  . intro g a;simp [Value.ownBlock] at a
  . intro f b;have:g=f:=(by simpa [Value.ownBlock] using b);subst this;refine ⟨a,?_⟩;rcases Q8 g w.heap.size with h|h
    . exact h
    . rw [D9 h] at c;cases c
theorem Own.ext (h:Own w base F e v xs) (he:Ext w w') (a:∀ k,F k->k < w.heap.size):Own w' base F e v xs :=
  h.agree (he.agree a) λ g b=>he.block g (h.lt g b).2
theorem Own.mono (h:Own w base F e v xs) (hk:∀ k,F k->G k) (a:∀ g,v.ownBlock=some g->¬ G g):Own w base G e v xs:=by
  obtain ⟨cells,h1,h2,h3⟩:=h;exact ⟨cells,h1,h2.mono hk,a⟩
theorem Own.lower (h:Own w base F e v xs) {a:Nat} (hb:a<=base):Own w a F e v xs:=by
  obtain ⟨cells,b,h2,h3⟩:=h;refine ⟨cells,⟨b.1,?_⟩,h2,h3⟩;rcases b.2 with h|⟨g,cap,cur,hv,hg,r⟩
  . exact .inl h
  . exact .inr ⟨g,cap,cur,hv,by omega,r⟩
end
end
section
open Go Go.RowKit
class Callable (P : Program) (f : FuncId) : Prop where eq : ∃ fn, P.funcs[f]? = some fn ∧ fn.body.isNone = false ∧ (fn.name == "runtime.NumGoroutine") = false
theorem Callable.z {P : Program} {f : FuncId} {fn : Func} (h : P.funcs[f]? = some fn) (a : fn.body.isNone = false := by rfl) (b : (fn.name == "runtime.NumGoroutine") = false := by decide) : Callable P f := ⟨⟨_, h, a, b⟩⟩
def Fn (P:Program) (f:FuncId) (b:List Value) (w:World) (R:Value->World->Prop):Prop :=
  ∀ d,Calls P f b.toArray (dr w d) λ e w'=>∃ v a c,e=.returned v/\w'=dr a c/\R v a
theorem Fn.mono {P:Program} {f:FuncId} {a:List Value} {w:World} {R b:Value->World->Prop} (h:Fn P f a w R) (hr:∀ v w',R v w'->b v w'):Fn P f a w b :=
  λ d=>(h d).mono λ _ _ ⟨v,w₀,d',he,hw,hR⟩=>⟨v,w₀,d',he,hw,hr _ _ hR⟩
theorem JA (w:World) (d:Nat) (o:Obj):(dr w d).alloc o=dr (w.alloc o) d:=rfl
theorem Hi {P:Program} (w:World) (e:TypeId) (cs:Array Value):(newRow e cs).run P w=.ok ⟨w.heap.size,0,none⟩ (w.alloc (.cells cs e)):=by
  simp [newRow,newObj,Sem.run]
section
variable {P : Program} {n : Nat} {ops : Array Oper} {Q : U3} {rest : List Oper} {l : Env} {w : World} {d : Tmp} {ty : TypeId} {pos : String} {aft : Array Edge}
theorem GE {t:TypeId} {z:Value} {size bytes:Nat} [TInfo P t z size bytes] (hd:Nat.blt d n=true)
    (h:∀ w',New w w' t z.cells.toList->owp P n ops Q rest ((d,.pointer (some ⟨w.heap.size,0,none⟩)) :: l) w'):owp P n ops Q (⟨some d,.alloc t,ty,pos,aft,none⟩ :: rest) l w :=
  Jb (w':=w.alloc (.cells z.cells t)) (λ a e b=>.inl ⟨.pointer (some ⟨w.heap.size,0,none⟩),e,by
    simp [execOp,Instr.alloc,KJ (P:=P) (t:=t),newVar,Hi,KA,JA],b.put hd _⟩) (h _ (by simpa using New.mk' w t z.cells.toList))
theorem GC {t:TypeId} {x:Operand} {v:Value} (c:opv l x=some v) 
    (h:∀ w',New w w' t v.cells.toList->owp P n ops Q rest ((d,.pointer (some ⟨w.heap.size,0,none⟩)) :: l) w') (hd:Nat.blt d n=true:=by exact rfl):owp P n ops Q (⟨some d,.box t x,ty,pos,aft,none⟩ :: rest) l w :=
  Jb (w':=w.alloc (.cells v.cells t)) (λ a e b=>.inl ⟨.pointer (some ⟨w.heap.size,0,none⟩),e,by
    simp [execOp,Instr.box,b.eval c,newVar,Hi,KA,JA],b.put hd _⟩) (h _ (by simpa using New.mk' w t v.cells.toList))
def U1 (cs:List Value) (o:Nat):List Value->List Value
  | []=>cs
  | v :: a=>U1 (cs.set o v) (o + 1) a
theorem Mc (g:Nat) (t:TypeId) (o:Nat):∀ (vs:List Value) (i:Nat) (cs:List Value) (w:World),Blk w g t cs→o + i + vs.length≤cs.length→(∀ u∈vs,u.oneCell'=true) →
    ∃ w',(storeCells ⟨g,o,none⟩ vs i).run P w=.ok () w'/\Upd w w' g t (U1 cs (o + i) vs)/\w'.drawn=w.drawn
  | [],i,cs,w,hb,_,_=>⟨w,by simp [storeCells],⟨rfl,rfl,rfl,rfl,hb,λ _ _=>rfl⟩,rfl⟩
  | v :: r,i,cs,w,hb,hl,h1=>by
    have a:o + i < cs.length:=(by simp at hl;omega);have hc:w.cell? ⟨g,o + i,none⟩=some (cs[o + i]):=hb.cell (C4 a);have hf:=hb.frozen (o + i);have b:Blk (w.setCell ⟨g,o + i,none⟩ v) g t (cs.set (o + i) v):=by
      unfold Blk at hb ⊢;simp [World.setCell,E9,hb]
    obtain ⟨w',hr,hu,hd⟩:=Mc g t o r (i + 1) (cs.set (o + i) v) (w.setCell ⟨g,o + i,none⟩ v) b (by simp at hl ⊢;omega) (λ u hu=>h1 u (by simp [hu]));have c:v.oneCell'=true:=h1 v (by simp);refine ⟨w',?_,⟨hu.os,hu.tape,hu.output,by rw [hu.size];simp [World.setCell],?_,λ k hk=>?_⟩,hd⟩
    . simp only [storeCells];have hs:(store (⟨g,o + i,none⟩:Addr) v).run P w=.ok () (w.setCell ⟨g,o + i,none⟩ v):=by
        cases v<;>simp [Value.oneCell'] at c<;>simp [store,Sem.run,hc,hf]
      simp [KH,hs,hr]
    . have:=hu.blk;rwa [show o + (i + 1)=o + i + 1 from by omega] at this
    . rw [hu.other k hk,Below.heap_setCell _ _ _ _ hk]
theorem Dg {t:TypeId} {z:Value} {size bytes:Nat} [TInfo P t z size bytes] {x y:Operand} {g o:Nat} {b:TypeId} {v:Value} {cs:List Value} (k:opv l x=some (.pointer (some ⟨g,o,none⟩))) (m:opv l y=some v)
    (hb:Blk w g b cs) (d:v.cells.toList.length=size) (hl:o + size<=cs.length) (p:∀ u∈v.cells.toList,u.oneCell'=true)
    (h:∀ w',Upd w w' g b (U1 cs o v.cells.toList)->owp P n ops Q rest l w'):owp P n ops Q (⟨none,.store t x y,ty,pos,aft,none⟩ :: rest) l w:=λ a e f=>by
  refine wpList_plain rfl λ K q=>?_;have i:Blk (dr w e) g b cs:=hb;obtain ⟨w',hr,hu,hd⟩:=Mc (P:=P) g b o v.cells.toList 0 cs (dr w e) i (by omega) p;have j:Upd w w' g b (U1 cs o v.cells.toList):=⟨hu.os,hu.tape,hu.output,hu.size,hu.blk,hu.other⟩;unfold Oper.wp;have c:v.cells.size=size:=(by simpa using d);have:(execOp a.eval ⟨none,.store t x y,ty,pos,aft,none⟩).run P (dr w e)=.ok .skip w':=by
    simp [execOp,Instr.storeAt,Instr.sureAddr,f.eval k,f.eval m,storeVar,EQ (P:=P) (t:=t),c,hr]
  rw [this];exact q _ _ (h w' j a w'.drawn f)
theorem GR:∀ (vs cs:List Value) (o:Nat),(U1 cs o vs).length=cs.length
  | [],_,_=>rfl
  | _ :: r,cs,o=>by rw [U1,GR r];simp
theorem Iv:∀ (vs a c b:List Value),c.length=vs.length->U1 (a ++ (c ++ b)) a.length vs=a ++ (vs ++ b)
  | [],a,c,b,h=>by
    have:c=[]:=B0 h;simp [U1,this]
  | v :: r,a,c,b,h=>by
    cases c with
    | nil=>simp at h
    | cons m c =>
      have d:=Iv r (a ++ [v]) c b (by simpa using h);simp only [U1];rw [show (a ++ (m :: c ++ b)).set a.length v=(a ++ [v]) ++ (c ++ b) from by simp,show a.length + 1=(a ++ [v]).length from by simp,d];simp
theorem Kf:∀ (vs:List Value) (k off:Nat) (a:Array Value),((vs.zipIdx k).foldl (λ cs (p:Value×Nat)=>cs.setIfInBounds (off + p.2) p.1) a).toList=U1 a.toList (off + k) vs
  | [],_,_,_=>rfl
  | v :: r,k,off,a=>by
    simp only [List.zipIdx_cons,N2,U1];rw [Kf r (k + 1) off];simp [Nat.add_assoc]
def Aca {a:Type}:Nat->List a->List (Nat×a)
  | _,[]=>[]
  | k,x :: r=>(k,x) :: Aca (k + 1) r
def Acl {a:Type}:Nat→List (Nat×a)→Bool
  | _,[]=>true
  | k,p :: r=>match Nat.beq p.1 k with
    | true=>Acl (k + 1) r
    | false=>false
theorem Pi {c:Type}:∀ (ps:List (Nat×c)) (k:Nat),Acl k ps=true->ps=Aca k (ps.map (·.2))
  | [],_,_=>rfl
  | p :: r,k,h=>by
    simp only [Acl] at h;cases hb:Nat.beq p.1 k with
    | false=>rw [hb] at h;simp at h
    | true =>
      rw [hb] at h;have hk:p.1=k:=E7 hb;obtain ⟨a,b⟩:=p;simp only at hk;subst hk;simp only [Q0,Aca];rw [<- Pi r (a + 1) h]
theorem Pj {a b:Type} (f:a->b):∀ (xs:List a) (k:Nat),(Aca k xs).map (λ p=>(p.1,f p.2))=Aca k (xs.map f)
  | [],_=>rfl
  | x :: r,k=>by simp [Aca,Pj f r]
theorem Pk {size:Nat}:∀ (vs:List Value) (k:Nat) (b:Array Value) (c a:List Value),b.toList=c ++ a->c.length=k * size->a.length=vs.length * size->(∀ v∈vs,v.cells.size=size) ->
    ∃ d,Instr.fill (λ i=>some (i * size,size)) b (Aca k vs)=some d/\d.toList=c ++ vs.flatMap (λ v=>v.cells.toList)
  | [],k,b,c,a,h,_,h2,_=>by
    have:a=[]:=B0 (by simpa using h2);subst this;exact ⟨b,rfl,by simpa using h⟩
  | v :: r,k,b,c,a,h,h1,h2,hv=>by
    have e:v.cells.size=size:=hv v (by simp);have g:b.size=c.length + a.length:=(by rw [<- H4,h,I5]);have f:a=a.take size ++ a.drop size:=(List.take_append_drop size a).symm;have j:a.length=size + r.length * size:=(by rw [h2,L6,R8];omega);simp only [Aca,Instr.fill];rw [if_neg (by simp [e];omega)];have hf:=Kf v.cells.toList 0 (k * size) b;rw [Q9,h,<- h1,f,Iv _ _ _ _ (by simp [e];omega)] at hf;obtain ⟨d,ho1,ho2⟩:=Pk r (k + 1) ((v.cells.toList.zipIdx 0).foldl (λ cs (p:Value×Nat)=>cs.setIfInBounds (c.length + p.2) p.1) b) (c ++ v.cells.toList) (a.drop size) (by rw [hf];simp)
      (by simp [e,h1,R8]) (by simp;omega) (λ u hu=>hv u (by simp [hu]))
    refine ⟨d,?_,by rw [ho2];simp⟩;rw [<- ho1];congr 1;rw [<- Array.foldl_toList,Array.toList_zipIdx,h1]
theorem GF {t e:TypeId} [hs:TSlice P t e] {z:Value} {size bytes b:Nat} [TInfo P e z size bytes] {ps:List (Nat×Operand)} {vs:List Value} (hk:Acl 0 ps=true) (s:U9 l (ps.map (·.2))=some vs) (f:vs.length=b) (u:∀ v∈vs,v.cells.toList.length=size)  (hd:Nat.blt d n=true)
    (h:∀ w',New w w' e (vs.flatMap λ v=>v.cells.toList)->owp P n ops Q rest ((d,.slice (some ⟨w.heap.size,0,none⟩) b b) :: l) w') (hz:b * size<=16777216:=by decide):owp P n ops Q (⟨some d,.buildSlice t b ps.toArray,ty,pos,aft,none⟩ :: rest) l w :=
  Jb (w':=w.alloc (.cells (vs.flatMap λ v=>v.cells.toList).toArray e)) (λ a q r=>.inl ⟨.slice (some ⟨w.heap.size,0,none⟩) b b,q,by
    have g:(ps.map λ p=>(p.1,a.eval p.2))=Aca 0 vs:=by
      rw [Pi ps 0 hk,Pj,r.evals s]
    have k:∀ v∈vs,v.cells.size=size:=λ v hm=>(by simpa using u v hm);have m:¬ 16777216 < b * size:=(by omega);have hf:∀ c:Array Value,c.size=b * size->Instr.fill (λ i=>some (i * size,size)) c (Aca 0 vs)=some (vs.flatMap λ v=>v.cells.toList).toArray:=λ c j=>by
      obtain ⟨x,ho1,ho2⟩:=Pk (size:=size) vs 0 c [] c.toList (by simp) (by simp) (by simp [j,f]) k;rw [ho1];congr 1;apply L8.1;rw [ho2];simp
    simp only [execOp,Instr.buildSlice];by_cases o:b * size=0
    . simp [run_underlying hs.eq,EQ (P:=P) (t:=e),o];rw [g,hf _ (by simp [o])];simp [Hi,KA,JA]
    . simp [run_underlying hs.eq,EQ (P:=P) (t:=e),KJ (P:=P) (t:=e),o,m];rw [g,hf _ (by simp)];simp [Hi,KA,JA],r.put hd _⟩) (h _ (by simpa using New.mk' w e (vs.flatMap λ v=>v.cells.toList)))
theorem Pm {t e:TypeId} [hs:TSlice P t e] {z:Value} {size bytes:Nat} [hi:TInfo P e z size bytes] {x y:Operand} {k f:IntKind} {m:Nat} (g:opv l x=some (.int k (m:Int))) (j:opv l y=some (.int f (m:Int))) (hm:bytes * m<=281474976710656) (o:m<=9223372036854775807) (hd:Nat.blt d n=true)
    (h:∀ w',New w w' e (madeCells z.cells (m * size)).toList->owp P n ops Q rest ((d,.slice (some ⟨w.heap.size,0,none⟩) m m) :: l) w'):owp P n ops Q (⟨some d,.makeSlice t x y,ty,pos,aft,none⟩ :: rest) l w:=by
  obtain ⟨i,h1,h2,h3,h4⟩:=hi.eq;have b:(i.bytes:Int) * (m:Int)<=281474976710656:=by
    rw [h4];have:((bytes * m:Nat):Int)<=281474976710656:=(by omega);rwa [N3] at this
  refine Jb (w':=w.alloc (.cells (madeCells z.cells (m * size)) e)) (λ a q c=>.inl ⟨.slice (some ⟨w.heap.size,0,none⟩) m m,q,?_,c.put hd _⟩) (h _ (by simpa using New.mk' w e (madeCells z.cells (m * size)).toList));have hr:=run_make (P:=P) (dr w q) t e i z hs.eq h1 h2 k f (m:Int) (m:Int) (by omega) (R9 _) b (by omega);simp [execOp,c.eval g,c.eval j,hr,h3,KA,JA]
theorem BG {f:FuncId} [hf:Callable P f] {xs:List Operand} {vs:List Value} {i:Array TypeId} {R:Value->World->Prop} (k:U9 l xs=some vs)  (hc:Fn P f vs w R)
    (h:∀ v w',R v w'->owp P n ops Q rest ((d,v) :: l) w') (hd:Nat.blt d n=true:=by exact rfl):owp P n ops Q (⟨some d,.call { callee:=.value (.func f),args:=xs.toArray,argTypes:=i },ty,pos,aft,none⟩ :: rest) l w :=
  Jz λ a e j K m=>by
    obtain ⟨fn,h1,h2,h3⟩:=hf.eq;have b:¬ fn.body=none:=λ e=>(by rw [e] at h2;simp at h2);have c : ¬ fn.name = "runtime.NumGoroutine" := fun e => by rw [e] at h3; simp at h3
    unfold Oper.wp;have g:a.eval (.func f)=.func (.func f) #[] #[]:=rfl;have:(execOp a.eval ⟨some d,.call { callee:=.value (.func f),args:=xs.toArray,argTypes:=i },ty,pos,aft,none⟩).run P (dr w e)=.ok (.enter f vs.toArray) (dr w e):=by
      simp [execOp,resolve,g,Deferred.ofValue,invoke,callFunc,h1,b,c,j.evals k]
    rw [this];exact (hc e).mono λ _ _ ⟨v,w₀,d',he,hw,hR⟩=>by subst he;subst hw;exact m _ _ (h v w₀ hR _ _ (j.put hd v))
theorem Lv {f:FuncId} [hf:Callable P f] {y:Operand} {caps:List Value} {xs:List Operand} {vs:List Value} {i:Array TypeId} {R:Value->World->Prop} (j:opv l y=some (.func (.func f) #[] caps.toArray)) (k:U9 l xs=some vs) (hd:Nat.blt d n=true) (hc:Fn P f (vs ++ caps) w R)
    (h:∀ v w',R v w'->owp P n ops Q rest ((d,v) :: l) w'):owp P n ops Q (⟨some d,.call { callee:=.value y,args:=xs.toArray,argTypes:=i },ty,pos,aft,none⟩ :: rest) l w :=
  Jz λ a e b K m=>by
    obtain ⟨fn,h1,h2,h3⟩:=hf.eq;have c:¬ fn.body=none:=λ e=>(by rw [e] at h2;simp at h2);have g : ¬ fn.name = "runtime.NumGoroutine" := fun e => by rw [e] at h3; simp at h3
    unfold Oper.wp;have:(execOp a.eval ⟨some d,.call { callee:=.value y,args:=xs.toArray,argTypes:=i },ty,pos,aft,none⟩).run P (dr w e)=.ok (.enter f (vs ++ caps).toArray) (dr w e):=by
      simp [execOp,resolve,b.eval j,Deferred.ofValue,invoke,callFunc,h1,c,g,b.evals k]
    rw [this];exact (hc e).mono λ _ _ ⟨v,w₀,d',he,hw,hR⟩=>by subst he;subst hw;exact m _ _ (h v w₀ hR _ _ (b.put hd v))
theorem Ih {α:Type} [Rp α] {t e:TypeId} [hs:TSlice P t e] {z:Value} {bytes:Nat} [hi:TInfo P e z (Rp.size α) bytes] {x y:Operand} {v:Value} {xs ys:List α} {base:Nat} {F:Nat→Prop} {A:Option Addr} {c:Nat} {cells:List Value}
    (U:opv l x=some v) (V:opv l y=some (.slice A ys.length c)) (H:Own w base F e v xs) (R:∀ k,F k->k < w.heap.size) (s:base<=w.heap.size) (m:Chunks w F cells ys) (I:0 < ys.length->∃ b o,A=some ⟨b,o,none⟩/\cellsAt w b o cells)
    (hz0:0 < Rp.size α) (hb:(xs.length + ys.length) * bytes<=140737488355328) (J:xs.length + ys.length<=9223372036854775807) (hd:Nat.blt d n=true)
    (h:∀ f w',Own w' base F e f (xs ++ ys)->w.grownBy w' v.ownBlock->(f.ownBlock=v.ownBlock\/f.ownBlock=some w.heap.size)->owp P n ops Q rest ((d,f) :: l) w') :
    owp P n ops Q (⟨some d,.call { callee:=.builtin .append,args:=#[x,y],argTypes:=#[t,t] },ty,pos,aft,none⟩ :: rest) l w:=λ a q L=>by
  refine wpList_plain rfl λ K W=>?_;obtain ⟨i,i1,i2,i3,i4⟩:=hi.eq;obtain ⟨cs,B,ho2,ho3⟩:=H;unfold Oper.wp;have M:∃ f w',(Builtin.append_ #[t,t] ty #[v,.slice A ys.length c]).run P (dr w q)=.ok f w'/\w'.ownsRow base e (Rp.size α) f (xs.length + ys.length) (cs ++ cells)/\(dr w q).grownBy w' v.ownBlock/\(f.ownBlock=v.ownBlock\/f.ownBlock=some (dr w q).heap.size):=by
    cases A with
    | none =>
      have N:ys.length=0:=by
        rcases I8 ys.length with h0|h0
        . exact h0
        . obtain ⟨b,o,hA,_⟩:=I h0;cases hA
      have C:ys=[]:=B0 N;subst C;have D:cells=[]:=m;subst D;refine ⟨v,dr w q,?_,by simpa using (show (dr w q).ownsRow base e (Rp.size α) v xs.length cs from B),World.grownBy.refl _ _,.inl rfl⟩;rcases B.2 with ⟨rfl,hn⟩|⟨g,cap,cur,rfl,_,_,hnc,_⟩
      . have X:xs=[]:=B0 hn;simp [Builtin.append_,run_underlying hs.eq,sizeOf,typeInfo,i1,Builtin.lenOf,Builtin.firstCells]
      . simp [Builtin.append_,run_underlying hs.eq,sizeOf,typeInfo,i1,Builtin.lenOf,Builtin.firstCells,hnc,storeCells]
    | some S =>
      have p:∀ j u,cells[j]?=some u->(dr w q).cell? (S.add j)=some u:=by
        intro j u hu;rcases I8 ys.length with h0|h0
        . have C:ys=[]:=B0 h0;subst C;have D:cells=[]:=m;subst D;simp at hu
        . obtain ⟨b,o,hA,hc⟩:=I h0;injection hA with hA;subst hA;rw [KH];exact GL hc j u hu
      obtain ⟨f,w',hrun,h2,h3,_,h5⟩:=run_append_own_at (P:=P) (dr w q) base t ty e i z (Rp.size α) bytes hs.eq i1 i2 i3 i4 hi.sz hz0 v xs.length cs B S ys.length c cells m.length p m.one (by simpa [maxLen] using J) hb s;exact ⟨f,w',hrun,h2,h3,h5⟩
  obtain ⟨f,w',hrun,h2,h3,h5⟩:=M;have O:(execOp a.eval ⟨some d,.call { callee:=.builtin .append,args:=#[x,y],argTypes:=#[t,t] },ty,pos,aft,none⟩).run P (dr w q)=.ok (.value f) w':=by
    simp [execOp,resolve,invoke,builtin,L.eval U,L.eval V,hrun]
  rw [O];have T:w.grownBy w' v.ownBlock:=⟨h3.os,h3.tape,h3.output,h3.size,h3.block⟩;have r:Agree F w w':=λ k hk=>T.block k (R k hk) (λ he=>ho3 k he.symm hk);have E:Own w' base F e f (xs ++ ys):=by
    refine ⟨cs ++ cells,by rw [I5];exact h2,(ho2.append m).agree r,λ g G=>?_⟩;rcases h5 with h5|h5
    . exact ho3 g (h5 ▸ G)
    . intro hk;have Y:g=w.heap.size:=(by rw [h5] at G;exact (N4 G).symm);have:=R g hk;omega
  exact W _ _ (h f w' E T h5 _ w'.drawn (L.put hd f))
end
def Res (P:Program) (fn:Func) (l:Env) (w:World) (v:Value):Prop:=∀ n a d,Ok n a l->(results fn a.tmps).run P (dr w d)=.ok v (dr w d)
def T9 (P:Program) (fn:Func) (R:Value->World->Prop):U3
  | .normal,l,w=>∃ v,Res P fn l w v/\R v w
  | .ret,l,w=>∃ v,Res P fn l w v/\R v w
  | _,_,_=>False
def ent:Nat->List Value->Env
  | _,[]=>[]
  | k,v :: r=>(k,v) :: ent (k + 1) r
theorem PT:∀ (vs:List Value) (k i:Nat) (v:Value),lk (ent k vs) i=some v->k<=i/\vs[i - k]?=some v
  | [],_,_,_,h=>by simp [ent,lk] at h
  | u :: r,k,i,v,h=>by
    simp only [ent,lk] at h;cases hb:Nat.beq k i with
    | true =>
      rw [hb] at h;have:k=i:=E7 hb;subst this;simpa using h
    | false =>
      rw [hb] at h;obtain ⟨a,h2⟩:=PT r (k + 1) i v h;refine ⟨by omega,?_⟩;rw [show i - k=(i - (k + 1)) + 1 from by omega];simpa using h2
theorem AH {P:Program} {f:FuncId} {fn:Func} {c:Code} {vs:List Value} {w:World} {R:Value->World->Prop} {n:Nat} (hf:P.funcs[f]?=some fn) (hb:fn.body=some c) (hn:fn.ntmps=n) 
    (h:ewp P n c (T9 P fn R) (ent 0 vs) w) (hl:Nat.ble vs.length n=true:=by exact rfl):Fn P f vs w R:=λ d=>by
  have g:vs.length<=n:=(by simpa using hl);refine calls_of_wp hf hb (Q6 (λ e a w' j=>?_) (h _ d (?_:Ok n { tmps:=vs.toArray ++ Array.replicate (fn.ntmps - vs.toArray.size) undef,defers:=[] } (ent 0 vs))))
  . obtain ⟨b,l,w₀,d',rfl,ho,q⟩:=j;cases e with
    | normal=>obtain ⟨v,hr,hR⟩:=q;exact ⟨ho.defers,v,hr n a d' ho,v,w₀,d',rfl,rfl,hR⟩
    | ret=>obtain ⟨v,hr,hR⟩:=q;exact ⟨ho.defers,v,hr n a d' ho,v,w₀,d',rfl,rfl,hR⟩
    | panic c=>exact b.elim
    | outgrown=>exact b.elim
    | exit i=>exact q.elim
    | goto i=>exact q.elim
  . refine ⟨by simp [hn];omega,rfl,λ i v k=>?_⟩;obtain ⟨_,h2⟩:=PT vs 0 i v k;simp only [R1] at h2;have hi:i < vs.length:=(B7.1 h2).1;simp only [B1];rw [B2 (by simpa using hi)];simp [h2]
section
variable {P : Program} {fn : Func} {l : Env} {w : World}
def rv (a:Array Value):ResultVar->Sem Value
  | .tmp t=>pure (a.getD t undef)
  | .cell b t=>do loadVar t (<- asAddr (a.getD b undef))
theorem Jk (fn:Func) (a:Array Value):results fn a=(do let vs <- fn.results.mapM (rv a);pure (if h:vs.size=1 then vs[0] else .tuple vs)):=by
  unfold results;congr 1
def U4 (P:Program) (l:Env) (w:World) (b:ResultVar) (v:Value):Prop:=∀ n a d,Ok n a l->(rv a.tmps b).run P (dr w d)=.ok v (dr w d)
theorem AF {t:Tmp} {v:Value} (h:lk l t=some v):U4 P l w (.tmp t) v:=λ _ a d b=>by have:=b.knows t v h;simpa [rv] using this
theorem VR {b:Tmp} {t:TypeId} [TOne P t] {c:Addr} {v:Value} (h:lk l b=some (.pointer (some c))) (hc:w.cell? c=some v):U4 P l w (.cell b t) v:=λ _ a d e=>by
  have:=e.knows b _ h;simp only [rv,this];simp [asAddr,loadVar,Ji,load,Sem.run,Ma,hc]
theorem DH {b:Tmp} {t:TypeId} [TAgg P t] {z:Value} {size bytes:Nat} [TInfo P t z size bytes] {g o:Nat} {cs:List Value} (h:lk l b=some (.pointer (some ⟨g,o,none⟩))) (hl:cs.length=size) (hc:cellsAt w g o cs):U4 P l w (.cell b t) (.agg cs.toArray):=λ _ a d c=>by
  have hk:=c.knows b _ h;subst hl;have:=Ip (P:=P) (dr w d) g o cs 0 #[] (λ j v e=>by rw [R0];exact GL hc j v e);simp only [rv,hk];simp [asAddr,loadVar,IG,EQ (P:=P) (t:=t),loadCells,this]
theorem Ads {c:ResultVar} {v:Value} (hr:fn.results=#[c]) (h:U4 P l w c v):Res P fn l w v:=λ n a d b=>by
  simp [Jk,hr,h n a d b]
theorem Afg {c s:ResultVar} {v u:Value} (hr:fn.results=#[c,s]) (h:U4 P l w c v) (k:U4 P l w s u):Res P fn l w (.tuple #[v,u]):=λ n a d b=>by
  simp [Jk,hr,h n a d b,k n a d b]
theorem res3 {c s q:ResultVar} {v u x:Value} (hr:fn.results=#[c,s,q]) (h:U4 P l w c v) (k:U4 P l w s u) (j:U4 P l w q x):Res P fn l w (.tuple #[v,u,x]):=λ n a d b=>by
  simp [Jk,hr,h n a d b,k n a d b,j n a d b]
end
end
section
open Go Go.RowKit
class Mixed (P:Program):Prop where eq:P.follows .mixedOrders=true
def comesB (ops:Array Oper):Nat->Nat->Nat->Bool
  | 0,_,_=>false
  | fuel + 1,j,k=>(ops[j]?).any λ o=>o.after.any λ e=>Region.binds .any e && (e.on == k || comesB ops fuel e.on k)
def X5 (ops:Array Oper) (j:Nat):Bool:=(List.range ops.size).all λ k=>k == j || comesB ops ops.size j k
def Closed (ops:Array Oper) (a:Array Bool):Prop:=∀ m b,a.getD m false=true->ops[m]?=some b->∀ e∈b.after,Region.binds .any e=true->a.getD e.on false=true
theorem FN {ops:Array Oper} {a:Array Bool} (hc:Closed ops a):∀ (fuel j k:Nat) (b:Oper),ops[j]?=some b→(∀ e∈b.after,Region.binds .any e=true→a.getD e.on false=true)→comesB ops fuel j k=true→a.getD k false=true
  | 0,_,_,_,_,_,h=>by simp [comesB] at h
  | fuel + 1,j,k,b,hj,ha,h=>by
    simp only [comesB,hj,Option.any_some] at h;obtain ⟨e,he,hb⟩:=I9.1 h;rw [L9,N5] at hb;have c:=ha e he hb.1;rcases hb.2 with hk|hk
    . have:e.on=k:=(by simpa using hk);rw [<- this];exact c
    . cases hm:ops[e.on]? with
      | none =>
        exfalso;cases fuel with
        | zero=>simp [comesB] at hk
        | succ f=>simp [comesB,hm] at hk
      | some d=>exact FN hc fuel e.on k d hm (hc e.on d c hm) hk
theorem Closed.set {ops:Array Oper} {a:Array Bool} (hc:Closed ops a) {i:Nat} (hi:i∈Region.ready .any ops a):Closed ops (a.setIfInBounds i true):=by
  intro m f hm c e he hb;obtain ⟨_,oi,b,hall⟩:=mem_ready.1 hi;by_cases d:m=i
  . subst d;rw [c] at b;injection b with b;subst b;exact getD_set_true (hall e he hb)
  . have:a.getD m false=true:=(by rwa [getD_set_ne false (T1 d)] at hm);exact getD_set_true (hc m f this c e he hb)
def Ab1 (P:Program) (ops:Array Oper) (Q:Exit→Act→World→Prop) (S:World→Prop):Nat→Array Bool→Act→World→Prop
  | 0,b,a,w=>Region.ready .any ops b=[]/\Q .normal a w
  | fuel + 1,b,a,w =>
    (Region.ready .any ops b=[]->Q .normal a w) /\
    ∀ i∈Region.ready .any ops b,wpOp P ops Q i (λ a' w'=>(X5 ops i=false->S w')/\Ab1 P ops Q S fuel (b.setIfInBounds i true) a' w') a w
theorem Kn {P:Program} {ops:Array Oper} {Q:Exit->Act->World->Prop} {S:World->Prop}:∀ (fuel:Nat) (b:Array Bool) (a:Act) (w:World),Ab1 P ops Q S fuel b a w->wpAny P .any ops Q fuel b a w
  | 0,_,_,_,h=>h
  | fuel + 1,_,_,_,h=>⟨h.1,λ i hi=>wpOp_mono (λ a' w' c=>Kn fuel _ a' w' c.2) (h.2 i hi)⟩
theorem Nw {P:Program} {ops:Array Oper} {Q:Exit→Act→World→Prop} {S:World→Prop} {i:Nat} {q:Oper} {v:Value} (hi:ops[i]?=some q) (m:∀ (j:Nat) (o:Oper) cs b,ops[j]?=some o→o.op≠.select cs b)
    (N:∀ c a w,Q (.panic c) (a.put q.dst v) w->Q (.panic c) a w) :
    ∀ (fuel:Nat) (d:Array Bool) (a:Act) (w:World),Closed ops d ->
      (∀ j n,ops[j]?=some n->j≠i->d.getD j true=false->(∀ e∈n.after,Region.binds .any e=true->e.on≠i)->q.apart ops n=true) ->
      i∈Region.ready .any ops d->YieldsIf P ops S q v a->S w ->
      Ab1 P ops Q S fuel (d.setIfInBounds i true) (a.put q.dst v) w->Ab1 P ops Q S (fuel + 1) d a w:=by
  intro fuel
  induction fuel with
  | zero =>
    intro d a w _ _ hr B s T;refine ⟨λ h=>(by rw [h] at hr;cases hr),λ j hj=>?_⟩;by_cases f:j=i
    . subst f;exact B.wpOp hi s ⟨λ _=>s,T⟩
    . have:=ready_mono hj f;rw [T.1] at this;cases this
  | succ fuel O =>
    intro d a w t g hr B s T;refine ⟨λ h=>(by rw [h] at hr;cases hr),λ j hj=>?_⟩;by_cases f:j=i
    . subst f;exact B.wpOp hi s ⟨λ _=>s,T⟩
    . have r:=T.2 j (ready_mono hj f);obtain ⟨p,n,hoj,hall⟩:=mem_ready.1 hj;have u:∀ e∈n.after,Region.binds .any e=true->e.on≠i:=λ e he hb D=>by
        have r:=hall e he hb;have L:=(mem_ready.1 hr).1;rw [D] at r;rcases Q8 i d.size with h'|h'
        . simp [h'] at L r;rw [L] at r;cases r
        . simp [D9 h'] at r
      have E:=g j n hoj f p u;have F:i∈Region.ready .any ops (d.setIfInBounds j true):=ready_mono hr (T1 f);have G:i < ops.size:=by
        rcases Q8 i ops.size with h|h
        . exact h
        . rw [D9 h] at hi;cases hi
      have H:X5 ops j=false:=by
        cases hl:X5 ops j with
        | false=>rfl
        | true =>
          exfalso;have h4:=M0.1 hl i (P9.2 G);rw [N5] at h4;rcases h4 with h4|h4
          . exact f (by simpa using h4:i=j).symm
          . have C:=FN t ops.size j i n hoj hall h4;have M:=(mem_ready.1 hr).1;rcases Q8 i d.size with h'|h'
            . simp [h'] at C M;rw [M] at C;cases C
            . simp [D9 h'] at C
      have l:∀ k x,ops[k]?=some x->k≠i->(d.setIfInBounds j true).getD k true=false ->
          (∀ e∈x.after,Region.binds .any e=true->e.on≠i)->q.apart ops x=true:=λ k x hk I y J=>by
        refine g k x hk I ?_ J;by_cases z:j=k
        . subst z;exact p
        . rw [getD_set_ne true z] at y;exact y
      have R:=wpOp_putIf hoj E (λ cs b=>m i q cs b hi) (λ cs b=>m j n cs b hoj) N B r;refine wpOp_mono (λ a' w' K=>?_) R;have A:S w':=K.2.1 H;refine ⟨λ _=>A,O (d.setIfInBounds j true) a' w' (t.set hj) l F K.1 A ?_⟩;rw [C5 _ _ f];exact K.2.2
def Acj (P:Program) (ops:Array Oper) (Q:Exit->Act->World->Prop) (S:World->Prop):List (Nat×Bool)->Act->World->Prop
  | [],a,w=>Q .normal a w
  | (i,true) :: r,a,w=>∃ o v,ops[i]?=some o/\YieldsIf P ops S o v a/\Acj P ops Q S r (a.put o.dst v) w
  | (i,false) :: r,a,w=>wpOp P ops Q i (λ a' w'=>(r≠[]->S w')/\Acj P ops Q S r a' w') a w
def ordOk (ops:Array Oper):Array Bool->List (Nat×Bool)->Bool
  | listed,[]=>(Region.ready .any ops listed).isEmpty
  | listed,(i,true) :: r=>(Region.ready .any ops listed).contains i && (Region.free .any ops listed i && ordOk ops (listed.setIfInBounds i true) r)
  | listed,[(i,false)]=>(Region.ready .any ops listed == [i]) && (X5 ops i && ordOk ops (listed.setIfInBounds i true) [])
  | listed,(i,false) :: r=>(Region.ready .any ops listed == [i]) && ordOk ops (listed.setIfInBounds i true) r
theorem HD {P:Program} {ops:Array Oper} {Q:Exit->Act->World->Prop} {S:World->Prop} (hs:Region.noSelect ops=true) (k:∀ c a w,¬ Q (.panic c) a w) :
    ∀ (d:List (Nat×Bool)) (b:Array Bool) (a:Act) (w:World),Closed ops b->ordOk ops b d=true->(d≠[]->S w)->Acj P ops Q S d a w->Ab1 P ops Q S d.length b a w
  | [],b,a,w,_,hc,_,h=>⟨by simpa [ordOk] using hc,h⟩
  | (i,true) :: r,b,a,w,hcl,hc,hS,h=>by
    simp only [ordOk,L9] at hc;obtain ⟨o,v,ho,hy,hr⟩:=h;have hi:i∈Region.ready .any ops b:=(by simpa using hc.1);exact Nw ho (F8 hs) (λ c a w l=>(k c _ _ l).elim) r.length b a w hcl (Region.free_spec ho hc.2.1) hi hy (hS (by simp)) (HD hs k r _ _ w (hcl.set hi) hc.2.2 (λ _=>hS (by simp)) hr)
  | [(i,false)],b,a,w,hcl,hc,hS,h=>by
    simp only [ordOk,L9] at hc;have hr:Region.ready .any ops b=[i]:=(by simpa using hc.1);refine ⟨λ f=>by rw [hr] at f;simp at f,λ j hj=>?_⟩;rw [hr] at hj;have:j=i:=(by simpa using hj);subst this;have e:j∈Region.ready .any ops b:=(by rw [hr];simp);exact wpOp_mono (λ a' w' g=>⟨(λ hl=>by rw [hc.2.1] at hl;cases hl),HD hs k [] _ a' w' (hcl.set e) (by simpa [ordOk] using hc.2.2) (λ h=>absurd rfl h) g.2⟩) h
  | (i,false) :: x :: r,b,a,w,hcl,hc,hS,h=>by
    simp only [ordOk,L9] at hc;have hr:Region.ready .any ops b=[i]:=(by simpa using hc.1);refine ⟨λ f=>by rw [hr] at f;simp at f,λ j hj=>?_⟩;rw [hr] at hj;have:j=i:=(by simpa using hj);subst this;have e:j∈Region.ready .any ops b:=(by rw [hr];simp);exact wpOp_mono (λ a' w' g=>⟨λ _=>g.1 (by simp),HD hs k (x :: r) _ a' w' (hcl.set e) hc.2 g.1 g.2⟩) h
def hwp (P:Program) (n:Nat) (ops:Array Oper) (Q:U3) (S:World->Prop) (b:List (Nat×Bool)) (l:Env) (w:World):Prop :=
  ∀ a d,Ok n a l->Acj P ops (W5 n Q) (λ w'=>∃ c,S (dr w' c)) b a (dr w d)
def Evg (P:Program) (ops:Array Oper) (o:Oper) (l:Env) (S:World->Prop) (v:Value):Prop :=
  ∀ n a,Ok n a l->YieldsIf P ops (λ w'=>∃ b,S (dr w' b)) o v a
section
variable {P : Program} {n : Nat} {ops : Array Oper} {Q : U3} {S : World → Prop} {l : Env} {w : World} {d : Tmp} {op : Op} {ty : TypeId} {pos : String} {aft : Array Edge}
theorem evg {dst:Option Tmp} {v:Value} (h:∀ w,S w->Ev P ⟨dst,op,ty,pos,aft,none⟩ l w v):Evg P ops ⟨dst,op,ty,pos,aft,none⟩ l S v:=λ n a b =>
  .inl ⟨by simp [Region.wanted],λ w' ⟨c,hS⟩=>h _ hS n a w'.drawn b⟩
theorem ZU {dst:Option Tmp} {j dj:Nat} {b:Bool} {u:Value} (hj:Acq ops j=some dj) (hl:lk l dj=some u) (hu:isB u b=false):Evg P ops ⟨dst,op,ty,pos,aft,some (j,b)⟩ l S undef:=λ n a c =>
  .inr ⟨by simpa [Region.wanted] using c.unwanted (b:=b) hj hl hu,rfl⟩
theorem Uf (h:Q .normal l w):hwp P n ops Q S [] l w:=λ _ _ a=>KB trivial a h
theorem Abd {i:Nat} {o:Oper} {c:List (Nat×Bool)} {v:Value} (hi:ops[i]?=some o) (hd:o.dst=some d) (hn:Nat.blt d n=true) (he:Evg P ops o l S v) (h:hwp P n ops Q S c ((d,v) :: l) w):hwp P n ops Q S ((i,true) :: c) l w:=λ a e b =>
  ⟨o,v,hi,he n a b,by rw [hd];exact h _ _ (b.put hn v)⟩
def V1 (P:Program) (n:Nat) (ops:Array Oper) (Q:U3) (S:World->Prop) (a:List (Nat×Bool)):U3
  | .normal,l,w=>(a≠[]->S w)/\hwp P n ops Q S a l w
  | _,_,_=>False
theorem CW {i:Nat} {o:Oper} {t:List (Nat×Bool)} (hi:ops[i]?=some o) (h:owp P n ops (V1 P n ops Q S t) [o] l w):hwp P n ops Q S ((i,false) :: t) l w:=λ a e p=>by
  have b:=h a e p;show wpOp P ops (W5 n Q) i _ a (dr w e);unfold wpList at b;unfold wpOp;simp only [hi];have conv:∀ a' w',W5 n (V1 P n ops Q S t) .normal a' w'->(t≠[]->∃ f,S (dr w' f))/\Acj P ops (W5 n Q) (λ w'=>∃ f,S (dr w' f)) t a' w':=by
    rintro a' w' ⟨_,l',w₀,f,rfl,ho,hS,k⟩;exact ⟨λ hr=>⟨w₀.drawn,hS hr⟩,k a' f ho⟩
  have d:∀ g a' w',W5 n (V1 P n ops Q S t) g a' w'->g=.normal:=by
    rintro g a' w' ⟨hn,l',w₀,f,rfl,ho,k⟩;cases g<;>first|rfl|exact k.elim
  by_cases j:Region.wanted o (yielded ops a.tmps)=true
  . rw [if_pos j] at b;rw [if_pos j];rcases b with b|⟨b,q,w0,h2⟩
    . refine .inl ?_;unfold Oper.wp at *
      generalize (execOp a.eval o).run P (dr w e)=m at *
      cases m with
      | ok r w' =>
        cases r<;>simp only [Oper.upon] at b ⊢ <;>
          first
            | exact conv _ _ b
            | exact Calls.mono b (λ en s he=>by
                cases en with
                | returned v=>exact conv _ _ he
                | panicked c=>exact absurd (d _ _ _ he) (by simp)
                | outgrown=>obtain ⟨q,w0,hq⟩:=he;exact absurd (d _ _ _ hq) (by simp))
            | exact Rows.mono b (λ _ _ he=>conv _ _ he)
            | exact b.elim
      | halt x w'=>cases x<;>simp only [Oper.upon] at b ⊢<;>first|exact b.elim|exact absurd (d _ _ _ b) (by simp)
    . exact absurd (d _ _ _ h2) (by simp)
  . rw [if_neg j] at b;rw [if_neg j];exact conv _ _ b
theorem DI [hm:Mixed P] {id:Nat} {L:List Oper} (S:World->Prop) (b:List (Nat×Bool))  (hl:b.length=L.toArray.size)  (e:S w)
    (h:hwp P n L.toArray Q S b l w) (hs:Region.noSelect L.toArray=true:=by kernel_rfl) (hc:ordOk L.toArray (Array.replicate L.toArray.size false) b=true:=by kernel_rfl):ewp P n (.region id L.toArray true) Q l w:=λ a d f =>
  wp_region_any hm.eq (by
    have:=HD (P:=P) hs (Q:=W5 n Q) (S:=λ w'=>∃ g,S (dr w' g)) (λ c a w i=>i.1) b (Array.replicate L.toArray.size false) a (dr w (d + 1)) (λ m j hm=>by
      simp only [B1,C6] at hm;split at hm<;>simp at hm) hc (λ _=>⟨w.drawn,e⟩) (h a (d + 1) f)
    rw [hl] at this;exact Kn _ _ _ _ this)
end
end
section
open Go Go.RowKit
section
variable {P : Program} {n : Nat} {ops : Array Oper} {Q : U3} {K : Env → World → Prop} {S : World → Prop} {rest : List Oper} {l : Env} {w : World} {d : Tmp} {op : Op} {ty : TypeId} {pos : String} {aft : Array Edge}
theorem Pn (h:K l w):owp P n ops (thn K Q) [] l w:=Cv h
theorem AC (h:K l w):hwp P n ops (thn K Q) S [] l w:=Uf h
theorem DB {c:List (Nat×Bool)} (a:S w) (b:hwp P n ops Q S c l w):owp P n ops (V1 P n ops Q S c) [] l w:=Cv ⟨λ _=>a,b⟩
theorem Jc (a:hwp P n ops Q S [] l w):owp P n ops (V1 P n ops Q S []) [] l w:=Cv ⟨λ h=>absurd rfl h,a⟩
theorem He {p:Prop} [Decidable p] (he:Ev P ⟨some d,op,ty,pos,aft,none⟩ l w (.bool (decide p))) (hd:Nat.blt d n=true) (a:p->owp P n ops Q rest ((d,.bool true) :: l) w) (hf:¬ p->owp P n ops Q rest ((d,.bool false) :: l) w) :
    owp P n ops Q (⟨some d,op,ty,pos,aft,none⟩ :: rest) l w:=by
  by_cases h:p
  . exact Bb (by simpa [h] using he) hd (a h)
  . exact Bb (by simpa [h] using he) hd (hf h)
theorem KM {p:Prop} [Decidable p] (he:Ev P ⟨some d,op,ty,pos,aft,none⟩ l w (.bool (decide p))) (hd:Nat.blt d n=true) (h:p) (a:owp P n ops Q rest ((d,.bool true) :: l) w):owp P n ops Q (⟨some d,op,ty,pos,aft,none⟩ :: rest) l w:=Bb (by simpa [h] using he) hd a
theorem KN {p:Prop} [Decidable p] (he:Ev P ⟨some d,op,ty,pos,aft,none⟩ l w (.bool (decide p))) (hd:Nat.blt d n=true) (h:¬ p) (hf:owp P n ops Q rest ((d,.bool false) :: l) w):owp P n ops Q (⟨some d,op,ty,pos,aft,none⟩ :: rest) l w:=Bb (by simpa [h] using he) hd hf
def hwq (P:Program) (n:Nat) (ops:Array Oper) (Q:U3) (S:World->Prop) (o:Oper) (a:List (Nat×Bool)) (l:Env) (w:World):Prop :=
  ∃ d v,o.dst=some d/\Nat.blt d n=true/\Evg P ops o l S v/\hwp P n ops Q S a ((d,v) :: l) w
theorem AB {i:Nat} {o:Oper} {a:List (Nat×Bool)} (hi:ops[i]?=some o) (h:hwq P n ops Q S o a l w):hwp P n ops Q S ((i,true) :: a) l w:=by
  obtain ⟨d,v,h1,h2,h3,h4⟩:=h;exact Abd hi h1 h2 h3 h4
theorem Bo {a:List (Nat×Bool)} {v:Value} (he:∀ w',S w'->Ev P ⟨some d,op,ty,pos,aft,none⟩ l w' v) (hn:Nat.blt d n=true) (h:hwp P n ops Q S a ((d,v) :: l) w):hwq P n ops Q S ⟨some d,op,ty,pos,aft,none⟩ a l w:=⟨d,v,rfl,hn,evg he,h⟩
theorem Yn {a:World} {b:List (Nat×Bool)} {v:Value} (he:Ev P ⟨some d,op,ty,pos,aft,none⟩ l a v) (hn:Nat.blt d n=true) (h:hwp P n ops Q (·=a) b ((d,v) :: l) w):hwq P n ops Q (·=a) ⟨some d,op,ty,pos,aft,none⟩ b l w:=⟨d,v,rfl,hn,evg λ _ e=>e ▸ he,h⟩
theorem AG {a:List (Nat×Bool)} {j dj:Nat} {b:Bool} {u:Value} (hj:Acq ops j=some dj) (hl:lk l dj=some u)   (h:hwp P n ops Q S a ((d,undef) :: l) w) (hu:isB u b=false:=by exact rfl) (hn:Nat.blt d n=true:=by exact rfl):hwq P n ops Q S ⟨some d,op,ty,pos,aft,some (j,b)⟩ a l w:=⟨d,_,rfl,hn,ZU hj hl hu,h⟩
theorem AA {i:List (Nat×Bool)} {j dj:Nat} {b:Bool} (hj:Acq ops j=some dj) (hl:lk l dj=some (.bool b)) (h:hwq P n ops Q S ⟨some d,op,ty,pos,aft,none⟩ i l w):hwq P n ops Q S ⟨some d,op,ty,pos,aft,some (j,b)⟩ i l w:=by
  obtain ⟨e,v,h1,h2,f,h4⟩:=h;refine ⟨e,v,h1,h2,λ m a c=>?_,h4⟩;rcases f m a c with ⟨_,hv⟩|⟨g,_⟩
  . exact .inl ⟨by simp [Region.wanted,c.yielded hj hl],hv⟩
  . simp [Region.wanted] at g
theorem BB {p:Prop} [Decidable p] {b:List (Nat×Bool)} (he:∀ w',S w'->Ev P ⟨some d,op,ty,pos,aft,none⟩ l w' (.bool (decide p)))  (a:p->hwp P n ops Q S b ((d,.bool true) :: l) w) (hf:¬ p->hwp P n ops Q S b ((d,.bool false) :: l) w) (hn:Nat.blt d n=true:=by exact rfl) :
    hwq P n ops Q S ⟨some d,op,ty,pos,aft,none⟩ b l w:=by
  by_cases h:p
  . exact Bo (by simpa [h] using he) hn (a h)
  . exact Bo (by simpa [h] using he) hn (hf h)
theorem CQ {p:Prop} [Decidable p] {b:List (Nat×Bool)} (he:∀ w',S w'->Ev P ⟨some d,op,ty,pos,aft,none⟩ l w' (.bool (decide p)))  (h:p) (a:hwp P n ops Q S b ((d,.bool true) :: l) w) (hn:Nat.blt d n=true:=by exact rfl):hwq P n ops Q S ⟨some d,op,ty,pos,aft,none⟩ b l w:=Bo (by simpa [h] using he) hn a
theorem CR {p:Prop} [Decidable p] {a:List (Nat×Bool)} (he:∀ w',S w'->Ev P ⟨some d,op,ty,pos,aft,none⟩ l w' (.bool (decide p)))  (h:¬ p) (hf:hwp P n ops Q S a ((d,.bool false) :: l) w) (hn:Nat.blt d n=true:=by exact rfl):hwq P n ops Q S ⟨some d,op,ty,pos,aft,none⟩ a l w:=Bo (by simpa [h] using he) hn hf
def hws (P:Program) (n:Nat) (ops:Array Oper) (Q:U3) (S:World->Prop) (fuel:Nat) (b:Array Bool) (l:Env) (w:World):Prop :=
  Closed ops b->∀ a d,Ok n a l->Ab1 P ops (W5 n Q) (λ w'=>∃ c,S (dr w' c)) fuel b a (dr w d)
def U8 (P:Program) (n:Nat) (ops:Array Oper) (Q:U3) (S:World->Prop) (i:Nat) (fuel:Nat) (a:Array Bool):U3
  | .normal,l,w=>(X5 ops i=false->S w)/\hws P n ops Q S fuel (a.setIfInBounds i true) l w
  | _,_,_=>False
theorem Oj {fuel i:Nat} {o:Oper} {v:Value} {b:Array Bool} (hi:ops[i]?=some o)    (hd:o.dst=some d) (hn:Nat.blt d n=true) (he:Evg P ops o l S v) (k:S w)
    (h:hws P n ops Q S fuel (b.setIfInBounds i true) ((d,v) :: l) w) (hs:Region.noSelect ops=true:=by kernel_rfl) (hf:Region.free .any ops b i=true:=by kernel_rfl) (hr:(Region.ready .any ops b).contains i=true:=by kernel_rfl):hws P n ops Q S (fuel + 1) b l w:=λ f a e j=>by
  have g:i∈Region.ready .any ops b:=(by simpa using hr);refine Nw hi (F8 hs) (λ c a w m=>m.1.elim) fuel b a _ f (Region.free_spec hi hf) g (he n a j) ⟨w.drawn,k⟩ ?_;rw [hd];exact h (f.set g) _ _ (j.put hn v)
theorem Sp {fuel i:Nat} {o:Oper} {b:Array Bool} (hi:ops[i]?=some o) (hr:i∈Region.ready .any ops b) (h:owp P n ops (U8 P n ops Q S i fuel b) [o] l w) (m:Closed ops b) (a:Act) (e:Nat) (s:Ok n a l) :
    wpOp P ops (W5 n Q) i (λ a' w'=>(X5 ops i=false->∃ g,S (dr w' g))/\Ab1 P ops (W5 n Q) (λ w'=>∃ g,S (dr w' g)) fuel (b.setIfInBounds i true) a' w') a (dr w e):=by
  have d:=h a e s;unfold wpList at d;unfold wpOp;simp only [hi];have conv:∀ a' w',W5 n (U8 P n ops Q S i fuel b) .normal a' w'->(X5 ops i=false->∃ g,S (dr w' g))/\Ab1 P ops (W5 n Q) (λ w'=>∃ g,S (dr w' g)) fuel (b.setIfInBounds i true) a' w':=by
    rintro a' w' ⟨_,l',w₀,g,rfl,r,hS,p⟩;exact ⟨λ hl=>⟨w₀.drawn,hS hl⟩,p (m.set hr) a' g r⟩
  have f:∀ j a' w',W5 n (U8 P n ops Q S i fuel b) j a' w'->j=.normal:=by
    rintro j a' w' ⟨hn,l',w₀,g,rfl,r,p⟩;cases j<;>first|rfl|exact p.elim
  by_cases k:Region.wanted o (yielded ops a.tmps)=true
  . rw [if_pos k] at d;rw [if_pos k];rcases d with d|⟨d,t,w0,h2⟩
    . refine .inl ?_;unfold Oper.wp at *
      generalize (execOp a.eval o).run P (dr w e)=q at *
      cases q with
      | ok u w' =>
        cases u<;>simp only [Oper.upon] at d ⊢ <;>
          first
            | exact conv _ _ d
            | exact Calls.mono d (λ en y he=>by
                cases en with
                | returned v=>exact conv _ _ he
                | panicked c=>exact absurd (f _ _ _ he) (by simp)
                | outgrown=>obtain ⟨t,w0,hq⟩:=he;exact absurd (f _ _ _ hq) (by simp))
            | exact Rows.mono d (λ _ _ he=>conv _ _ he)
            | exact d.elim
      | halt x w'=>cases x<;>simp only [Oper.upon] at d ⊢<;>first|exact d.elim|exact absurd (f _ _ _ d) (by simp)
    . exact absurd (f _ _ _ h2) (by simp)
  . rw [if_neg k] at d;rw [if_neg k];exact conv _ _ d
theorem QI {fuel i j:Nat} {f g:Oper} {b:Array Bool}  (hi:ops[i]?=some f) (hj:ops[j]?=some g)
    (o:owp P n ops (U8 P n ops Q S i fuel b) [f] l w) (p:owp P n ops (U8 P n ops Q S j fuel b) [g] l w) (hr:Region.ready .any ops b=[i,j]:=by kernel_rfl):hws P n ops Q S (fuel + 1) b l w:=λ c a e h=>by
  refine ⟨λ m=>by rw [hr] at m;simp at m,λ k hk=>?_⟩;have d:=hk;rw [hr] at hk;have:k=i\/k=j:=(by simpa using hk);rcases this with rfl|rfl
  . exact Sp hi d o c a e h
  . exact Sp hj d p c a e h
theorem Jd {fuel i:Nat} {a:Array Bool} (b:S w) (c:hws P n ops Q S fuel (a.setIfInBounds i true) l w):owp P n ops (U8 P n ops Q S i fuel a) [] l w:=Cv ⟨λ _=>b,c⟩
theorem Ol {fuel:Nat} {b:Array Bool} (d:List (Nat×Bool))  (hl:d.length=fuel)  (g:S w) (h:hwp P n ops Q S d l w) (hs:Region.noSelect ops=true:=by kernel_rfl) (hc:ordOk ops b d=true:=by kernel_rfl):hws P n ops Q S fuel b l w:=λ f a e i=>by
  subst hl;exact HD (P:=P) hs (Q:=W5 n Q) (S:=λ w'=>∃ j,S (dr w' j)) (λ c a w k=>k.1) d b a (dr w e) f hc (λ _=>⟨w.drawn,g⟩) (h a e i)
theorem VS [hm:Mixed P] {id:Nat} {L:List Oper} (S:World->Prop) (h:hws P n L.toArray Q S L.toArray.size (Array.replicate L.toArray.size false) l w):ewp P n (.region id L.toArray true) Q l w:=λ a d b =>
  wp_region_any hm.eq (Kn _ _ _ _ (h (λ m c hm=>by
      simp only [B1,C6] at hm;split at hm<;>simp at hm) a (d + 1) b))
noncomputable def bof (p:Prop):Bool:=@decide p (Classical.propDecidable p)
theorem CT {p:Prop} (h:p):bof p=true:=by unfold bof;exact @decide_eq_true p (Classical.propDecidable p) h
theorem Cc {p:Prop} (h:¬ p):bof p=false:=by unfold bof;exact @decide_eq_false p (Classical.propDecidable p) h
theorem ZV {p q:Prop} (h:p↔q):bof p=bof q:=by
  by_cases a:p
  . rw [CT a,CT (h.1 a)]
  . rw [Cc a,Cc (λ b=>a (h.2 b))]
theorem Kp (b:Bool):bof (b=true)=b:=by
  cases b
  . exact Cc (by simp)
  . exact CT rfl
theorem HU {f:FuncId} [Callable P f] {xs:List Operand} {vs:List Value} {a:Array TypeId} {p:Prop} {R:World->Prop} (b:U9 l xs=some vs)  (hc:Fn P f vs w λ v w'=>v=.bool (bof p)/\R w')
    (c:∀ w',p->R w'->owp P n ops Q rest ((d,.bool true) :: l) w') (hf:∀ w',¬ p->R w'->owp P n ops Q rest ((d,.bool false) :: l) w') (hd:Nat.blt d n=true:=by exact rfl):owp P n ops Q (⟨some d,.call { callee:=.value (.func f),args:=xs.toArray,argTypes:=a },ty,pos,aft,none⟩ :: rest) l w :=
  BG b (hd:=hd) hc λ v w' ⟨e,hR⟩=>by
    subst e;by_cases h:p
    . rw [CT h];exact c w' h hR
    . rw [Cc h];exact hf w' h hR
theorem DF {t:TypeId} {z:Value} {size bytes:Nat} [hi:TInfo P t z size bytes] {c:TypeId} {a:String} {b:Array Edge} {y:Operand} {v:Value}  (m:opv ((d,.pointer (some ⟨w.heap.size,0,none⟩)) :: l) y=some v) (e:v.cells.toList.length=size) (p:∀ u∈v.cells.toList,u.oneCell'=true)
    (h:∀ w',New w w' t v.cells.toList->owp P n ops Q rest ((d,.pointer (some ⟨w.heap.size,0,none⟩)) :: l) w') (hd:Nat.blt d n=true:=by exact rfl) :
    owp P n ops Q (⟨some d,.alloc t,ty,pos,aft,none⟩ :: ⟨none,.store t (.tmp d) y,c,a,b,none⟩ :: rest) l w:=by
  have hz:z.cells.toList.length=size:=(by simpa using hi.sz);refine GE hd λ r f=>?_;refine Dg (g:=w.heap.size) (o:=0) (by simp [opv,lk]) m f.blk e (by omega) p λ q i=>h q ?_;refine ⟨f.ext.trans (i.below (R7 _)),by rw [i.size,f.size],?_⟩;have j:=Iv v.cells.toList [] z.cells.toList [] (by omega);have k:=i.blk;simp only [N6,N7,N8] at j;rw [j] at k;exact k
theorem Gb {dst:Option Tmp} {t u:TypeId} {x y:Operand} {k:IntKind} {a b:Int} (c:opv l x=some (.int k a)) (d:opv l y=some (.int k b)):Ev P ⟨dst,.binOp .neq t x y u,ty,pos,aft,none⟩ l w (.bool (decide (a≠b))):=by
  have:=ZR (P:=P) (w:=w) (dst:=dst) (t:=t) (u:=u) (ty:=ty) (pos:=pos) (aft:=aft) c d;by_cases h:a=b<;>simpa [h] using this
theorem U2 {a:Func} {R:Value->World->Prop} {t:Tmp} {v:Value} (hr:a.results=#[.tmp t]) (hl:lk l t=some v) (h:R v w):T9 P a R .ret l w:=⟨v,Ads hr (AF hl),h⟩
theorem U0 {a:Func} {R:Value->World->Prop} {b:ResultVar} {v:Value} (hr:a.results=#[b]) (hl:U4 P l w b v) (h:R v w):T9 P a R .ret l w:=⟨v,Ads hr hl,h⟩
theorem U6 {a:Func} {R:Value->World->Prop} {d s:ResultVar} {v u:Value} (hr:a.results=#[d,s]) (b:U4 P l w d v) (c:U4 P l w s u) (h:R (.tuple #[v,u]) w):T9 P a R .ret l w:=⟨_,Afg hr b c,h⟩
theorem AdR {a:Func} {R:Value->World->Prop} {e s q:ResultVar} {v u x:Value} (hr:a.results=#[e,s,q]) (b:U4 P l w e v) (c:U4 P l w s u) (d:U4 P l w q x) (h:R (.tuple #[v,u,x]) w):T9 P a R .ret l w:=⟨_,res3 hr b c d,h⟩
theorem HE {c:Code} {X:Type} (E:X->Env) (I:X->World->Prop) (e:X->Nat) (a:X) (d:I a w) (hs:T7 l (E a))
    (b:∀ x w,I x w->ewp P n c (thn (λ g w'=>∃ f,T7 g (E f)/\I f w'/\e f < e x) Q) (E x) w):ewp P n (.loop c) Q l w:=Pd E I e a hs d b
end
class NilQ (Q:U3) (K:outParam (Env->World->Prop)):Prop where of:∀ l w,K l w->Q .normal l w
instance nilThn {K:Env->World->Prop} {Q:U3}:NilQ (thn K Q) K:=⟨λ _ _ h=>h⟩
instance nilBlk {i:Nat} {Q:U3} {K:Env->World->Prop} [h:NilQ Q K]:NilQ (U7 i Q) K:=⟨λ l w hk=>h.of l w hk⟩
instance (priority:=low) nilAny {Q:U3}:NilQ Q (Q .normal):=⟨λ _ _ h=>h⟩
theorem o_z {P:Program} {n:Nat} {ops:Array Oper} {Q:U3} {K:Env->World->Prop} {l:Env} {w:World} [h:NilQ Q K] (hk:K l w):owp P n ops Q [] l w:=Cv (h.of l w hk)
theorem h_z {P:Program} {n:Nat} {ops:Array Oper} {Q:U3} {S:World->Prop} {K:Env->World->Prop} {l:Env} {w:World} [h:NilQ Q K] (hk:K l w):hwp P n ops Q S [] l w:=Uf (h.of l w hk)
class Cgo (P:Program) (n:Nat) (c:Code) (Q:U3) (l:Env) (w:World) (G:outParam Prop):Prop where go:G->ewp P n c Q l w
section
variable {P : Program} {n : Nat} {Q : U3} {l : Env} {w : World}
instance cgoSeq {x y:Code}:Cgo P n (.seq x y) Q l w (ewp P n x (thn (ewp P n y Q) Q) l w):=⟨Ah⟩
instance cgoBlock {id:Nat} {c:Code}:Cgo P n (.block id c) Q l w (ewp P n c (U7 id Q) l w):=⟨Ci⟩
instance cgoRegion {id:Nat} {L:List Oper}:Cgo P n (.region id L.toArray false) Q l w (owp P n L.toArray Q L l w):=⟨Ae⟩
instance cgoSkip:Cgo P n .skip Q l w (Q .normal l w):=⟨AK⟩
instance cgoExit {i:Nat}:Cgo P n (.exit i) Q l w (Q (.exit i) l w):=⟨Et⟩
instance cgoRet:Cgo P n .ret Q l w (Q .ret l w):=⟨AE⟩
theorem Ay {c:Code} {G:Prop} [h:Cgo P n c Q l w G] (g:G):ewp P n c Q l w:=h.go g
end
end
section
open Go Go.RowKit
theorem Nx {l:Env} {i:Nat} {v:Value}:∀ {e:Env},lk e i=none→T7 l e→T7 ((i,v) :: l) e
  | [],_,_=>trivial
  | (j, u) :: r,hn,h=>by
    simp only [lk] at hn;cases hb:Nat.beq j i with
    | true=>rw [hb] at hn;simp at hn
    | false =>
      rw [hb] at hn;refine ⟨?_,Nx hn h.2⟩;have:Nat.beq i j=false:=by
        cases a:Nat.beq i j
        . rfl
        . rw [E7 a,Q7] at hb;cases hb
      simp only [lk,this];exact h.1
section
variable {P : Program} {m : Nat} {Q : U3} {l : Env} {w : World}
def rgE (i n:Tmp) (N k:Nat) (e:Env):Env:=(i,.int .i64 (k:Int)) :: (n,.int .i64 (N:Int)) :: e
theorem Dn {X:Type} {t i n d:Tmp} {b C Y H:Nat} {D F u T J K L:TypeId} {U M O:String} {V R S:Array Edge} {o:Code} (N:Nat) (W:N≤9223372036854775807) (E:X→Env) (I:Nat→X→World→Prop) (f:X)
    (y:I 0 f w) (hs:T7 l (rgE i n N 0 (E f)))
    (hf:∀ x,lk (E x) i=none/\lk (E x) d=none) (B:Nat.blt t m=true/\Nat.blt i m=true/\Nat.blt d m=true) (q:Nat.beq i n=false/\Nat.beq d n=false)
    (r:∀ k x w,k < N->I k x w->ewp P m o (U7 C (thn (λ g w'=>∃ a,T7 g (rgE i n N k (E a))/\I (k + 1) a w') (U7 b Q))) ((t,.bool true) :: rgE i n N k (E x)) w)
    (s:∀ x w,I N x w->Q .normal ((t,.bool false) :: rgE i n N N (E x)) w) :
    ewp P m (.loop (.seq (.region Y #[⟨some t,.binOp .lss D (.tmp i) (.tmp n) F,T,U,V,none⟩] false) (.seq (.cond (.tmp t) .skip (.exit b)) (.seq (.block C o)
      (.region H #[⟨some d,.binOp .add u (.tmp i) (.const (.int .i64 1)) L,J,M,R,none⟩,⟨some i,.move (.tmp d),K,O,S,none⟩] false))))) (U7 b Q) l w:=by
  have z:∀ k e,opv (rgE i n N k e) (.tmp i)=some (.int .i64 (k:Int)):=λ k e=>(by simp [opv,rgE,lk]);have A:∀ k e,opv (rgE i n N k e) (.tmp n)=some (.int .i64 (N:Int)):=λ k e=>(by simp only [opv,rgE,lk,q.1];simp);refine (HE (X:=Nat×X) (λ p=>rgE i n N p.1 (E p.2)) (λ p w=>p.1<=N/\I p.1 p.2 w) (λ p=>N - p.1) (0,f) ⟨S0 _,y⟩ hs ?_);rintro ⟨k,x⟩ w1 ⟨hk,hI⟩;dsimp only at hk hI ⊢;refine Ah (Ae ?_);by_cases hlt:k < N
  . refine KM (DM (z k _) (A k _)) B.1 (by omega) (Pn ?_);refine Ah (Am (by simp [opv,lk]) (AK ?_));refine Ah (Ci (HT ?_ (r k x w1 hlt hI)));have conv:∀ g w',(∃ a,T7 g (rgE i n N k (E a))/\I (k + 1) a w')->ewp P m (.region H #[⟨some d,.binOp .add u (.tmp i) (.const (.int .i64 1)) L,J,M,R,none⟩,⟨some i,.move (.tmp d),K,O,S,none⟩] false)
        (thn (λ g w'=>∃ a:Nat×X,T7 g (rgE i n N a.1 (E a.2))/\(a.1<=N/\I a.1 a.2 w')/\N - a.1 < N - k) (U7 b Q)) g w':=by
      rintro g w' ⟨a,hsub,hI'⟩;refine Ae ?_;refine Bb (Sn (show opv g (.tmp i)=_ from hsub.1) (by omega)) B.2.2 ?_;refine Bb (GP (v:=.int .i64 ((k + 1:Nat):Int)) (by simp [opv,lk])) B.2.1 (Pn ?_);refine ⟨(k + 1,a),⟨by simp [lk],?_,?_⟩,⟨hlt,hI'⟩,by dsimp only;omega⟩
      . simp only [lk,q.1,q.2];exact hsub.2.1
      . exact Nx (hf a).1 (Nx (hf a).2 hsub.2.2)
    intro e g w' h;cases e with
    | normal=>exact conv g w' h
    | exit j =>
      simp only [U7] at h ⊢;cases hj:Nat.beq j C with
      | true=>rw [hj] at h;exact conv g w' h
      | false=>rw [hj] at h;exact h
    | panic c=>exact h
    | outgrown=>exact h
    | goto j=>exact h
    | ret=>exact h
  . have G:k=N:=(by omega);subst G;refine KN (DM (z k _) (A k _)) B.1 (by omega) (Pn ?_);refine Ah (Aj (by simp [opv,lk]) (Et ?_));have hb:Nat.beq b b=true:=Q7 b;simp only [thn,U7,hb];exact s x w1 hI
end
class TPlaces (P:Program) (t:TypeId) (pl:outParam (List (Nat×Nat))):Prop where eq:∃ fs,P.underlying t=some (.struct fs)/\∀ w,(fs.mapM λ f=>Prod.mk f.offset <$> sizeOf f.type:Sem (Array (Nat×Nat))).run P w=.ok pl.toArray w
def W1:List Value->List (Nat×Value)->List Value
  | cs,[]=>cs
  | cs,(o,v) :: r=>W1 (U1 cs o v.cells.toList) r
def Z7 (pl:List (Nat×Nat)) (m:Nat):List (Nat×Value)→Option (List (Nat×Value))
  | []=>some []
  | (i, v) :: r=>match pl[i]? with
    | some (off,size)=>match Nat.beq v.cells.toList.length size && Nat.ble (off + size) m with
      | true=>match Z7 pl m r with
        | some k=>some ((off,v) :: k)
        | none=>none
      | false=>none
    | none=>none
theorem PU (pl:List (Nat×Nat)):∀ (ps:List (Nat×Value)) (a:Array Value) (k:List (Nat×Value)),Z7 pl a.size ps=some k→Instr.fill (pl.toArray[·]?) a ps=some (W1 a.toList k).toArray
  | [],a,k,h=>by
    simp only [Z7,J8] at h;subst h;simp [Instr.fill,W1]
  | (i, v) :: r,a,k,h=>by
    simp only [Z7] at h;cases b:pl[i]? with
    | none=>rw [b] at h;simp at h
    | some q =>
      obtain ⟨off,size⟩:=q;rw [b] at h;simp only at h;cases hb:Nat.beq v.cells.toList.length size && Nat.ble (off + size) a.size with
      | false=>rw [hb] at h;simp at h
      | true =>
        rw [hb] at h;simp only at h;cases hr:Z7 pl a.size r with
        | none=>rw [hr] at h;simp at h
        | some d =>
          rw [hr] at h;simp only [J8] at h;subst h;rw [L9] at hb;have e:v.cells.size=size:=(by simpa using E7 hb.1);have g:off + size<=a.size:=F0 hb.2;simp only [Instr.fill,List.getElem?_toArray,b];rw [if_neg (by simp [e];omega)];have hf:=Kf v.cells.toList 0 off a;rw [Q9] at hf;have he:Array.foldl (λ cs (x:Value×Nat)=>cs.setIfInBounds (off + x.2) x.1) a v.cells.zipIdx=(U1 a.toList off v.cells.toList).toArray:=by
            rw [<- Array.foldl_toList,Array.toList_zipIdx];apply L8.1;rw [hf]
          have c:(U1 a.toList off v.cells.toList).toArray.size=a.size:=(by simp [GR]);have f:=PU pl r (U1 a.toList off v.cells.toList).toArray d (by rw [c];exact hr);simp only [W1];rw [<- f];congr 1;funext x;simp
def Ack:List Nat->List Value->List (Nat×Value)
  | i :: r,v :: s=>(i,v) :: Ack r s
  | _,_=>[]
theorem Re (f:Operand->Value):∀ (ps:List (Nat×Operand)),ps.map (λ p=>(p.1,f p.2))=Ack (ps.map (·.1)) ((ps.map (·.2)).map f)
  | []=>rfl
  | p :: r=>by simp [Ack,Re f r]
theorem JB {P:Program} {l:Env} {w:World} {dst:Option Tmp} {ty:TypeId} {pos:String} {aft:Array Edge} {t:TypeId} {z:Value} {size bytes:Nat} [TInfo P t z size bytes] {pl:List (Nat×Nat)} [d:TPlaces P t pl] {ps:List (Nat×Operand)} {vs:List Value} {k:List (Nat×Value)}
    (e:U9 l (ps.map (·.2))=some vs) (hk:Z7 pl z.cells.size (Ack (ps.map (·.1)) vs)=some k):Ev P ⟨dst,.build t ps.toArray,ty,pos,aft,none⟩ l w (.agg (W1 z.cells.toList k).toArray):=λ _ a h f=>by
  obtain ⟨g,h1,h2⟩:=d.eq;have b:(ps.map λ p=>(p.1,a.eval p.2))=Ack (ps.map (·.1)) vs:=(by rw [Re,f.evals e]);have hf:=PU pl _ z.cells k hk;simp only [execOp,Instr.build];simp [KJ (P:=P) (t:=t),run_underlying h1,h2 (dr w h)];have c:Instr.fill (λ x=>pl[x]?) z.cells (Ack (ps.map (·.1)) vs)=some (W1 z.cells.toList k).toArray:=by
    rw [<- hf];congr 1;funext x;simp
  rw [b,c];simp
end
section
open Go Go.RowKit
structure Kept (w w':World) (v:Value):Prop where
  os:w'.os=w.os
  tape:w'.tape=w.tape
  output:w'.output=w.output
  size:w.heap.size<=w'.heap.size
  block:∀ k,k < w.heap.size->v.ownBlock≠some k->w'.heap[k]?=w.heap[k]?
theorem Kept.below {w w':World} {v:Value} (h:Kept w w' v) {c:Nat} (b:c<=w.heap.size) (a:∀ g,v.ownBlock=some g->c<=g):Below c w w' :=
  ⟨h.os,h.tape,h.output,h.size,λ k hk=>h.block k (by omega) λ e=>by have:=a k e;omega⟩
theorem Kept.blk {w w':World} {v:Value} (h:Kept w w' v) {g:Nat} {t:TypeId} {cs:List Value} (hb:Blk w g t cs) (a:v.ownBlock≠some g):Blk w' g t cs:=hb.keep (h.block g hb.lt a)
theorem Own.blk_ne {α:Type} [Rp α] {w:World} {base:Nat} {F:Nat->Prop} {e:TypeId} {v:Value} {xs:List α} (h:Own w base F e v xs) {g:Nat} {t:TypeId} {cs:List Value} (hb:Blk w g t cs) (b:t≠e):v.ownBlock≠some g:=by
  obtain ⟨cells,c,_⟩:=h;rcases c.2 with ⟨rfl,_⟩|⟨d,cap,cur,rfl,_,a,_⟩
  . simp [Value.ownBlock]
  . intro he;have:d=g:=(by simpa [Value.ownBlock] using he);subst this;unfold Blk at hb;rw [hb] at a;injection a with a;injection a with _ f;exact b f
theorem Own.fits {α:Type} [Rp α] {w w':World} {base:Nat} {F:Nat->Prop} {e:TypeId} {v:Value} {xs:List α} (h:Own w base F e v xs) {c:Nat} (b:c<=base) (hb:c<=w.heap.size) (k:Kept w w' v):Below c w w':=k.below hb λ g a=>by have:=(h.lt g a).1;omega
theorem Own.made {α:Type} [Rp α] {w w':World} {F:Nat->Prop} {e:TypeId} {cells:List Value} {xs:List α} {n:Nat} (h:New w w' e cells) (hc:Chunks w' F cells xs) (hn:n=xs.length) (a:¬ F w.heap.size) (hm:n<=9223372036854775807):Own w' w.heap.size F e (.slice (some ⟨w.heap.size,0,none⟩) n n) xs:=by
  subst hn;refine ⟨cells,⟨hc.length,.inr ⟨w.heap.size,xs.length,cells.toArray,rfl,R7 _,h.blk,R7 _,by simpa [maxLen] using hm,by simp [hc.length],?_⟩⟩,hc,λ g b=>?_⟩
  . rw [<- hc.length];simp
  . have:w.heap.size=g:=(by simpa [Value.ownBlock] using b);subst this;exact a
theorem Vb.made {α:Type} [Rp α] {w w':World} {F:Nat->Prop} {e:TypeId} {cells:List Value} {xs:List α} {n:Nat} (h:New w w' e cells) (hc:Chunks w' F cells xs) (hn:n=xs.length) (a:F w.heap.size) (hm:n<=9223372036854775807):Vb w' F (.slice (some ⟨w.heap.size,0,none⟩) n n) xs:=by
  subst hn;exact .of_slice ⟨_,_,cells,rfl,R7 _,hm,hc,λ _=>⟨_,_,rfl,a,h.blk.cellsAt⟩⟩
section
variable {P : Program} {n : Nat} {ops : Array Oper} {Q : U3} {rest : List Oper} {l : Env} {w : World} {d d1 d2 : Tmp} {ty ty2 : TypeId} {pos pos2 : String} {aft aft2 : Array Edge}
theorem LI {α:Type} [Rp α] {t e:TypeId} [TSlice P t e] {z:Value} {size bytes:Nat} [TInfo P e z size bytes] (a:size=Rp.size α) {x y:Operand} {v u:Value} {xs ys:List α} {base:Nat} {F:Nat->Prop}
    (q:opv l x=some v) (r:opv l y=some u) (g:Own w base F e v xs) (s:∀ k,F k->k < w.heap.size) (f:base<=w.heap.size) (hu:Vb w F u ys)
     (hb:(xs.length + ys.length) * bytes<=140737488355328) (m:xs.length + ys.length<=9223372036854775807) (hd:Nat.blt d n=true)
    (h:∀ j w',Own w' base F e j (xs ++ ys)->Kept w w' v->owp P n ops Q rest ((d,j) :: l) w') (hz0:0 < size:=by decide) :
    owp P n ops Q (⟨some d,.call { callee:=.builtin .append,args:=#[x,y],argTypes:=#[t,t] },ty,pos,aft,none⟩ :: rest) l w:=by
  subst a;obtain ⟨A,c,cells,rfl,h1,h2,h3,h4⟩:=hu.slice;exact Ih q r g s f h3 (λ B=>by obtain ⟨b,o,h5,_,h6⟩:=h4 B;exact ⟨b,o,h5,h6⟩) hz0 hb m hd λ j w' C i _ =>
    h j w' C ⟨i.os,i.tape,i.output,i.size,λ k hk p=>i.block k hk (λ he=>p he.symm)⟩
theorem Iw {α:Type} [Rp α] {t e:TypeId} [TSlice P t e] {z:Value} {size bytes:Nat} [TInfo P e z size bytes] (g:size=Rp.size α) {x y:Operand} {v u:Value} {xs:List α} {a:α} {base:Nat} {F:Nat->Prop}
    (B:opv ((d1,.slice (some ⟨w.heap.size,0,none⟩) 1 1) :: l) x=some v) (C:opv l y=some u) (j:Own w base F e v xs) (p:∀ k,F k->k < w.heap.size) (i:base<=w.heap.size) (hu:Vb w F u a)
      (hb:(xs.length + 1) * bytes<=140737488355328) (q:xs.length + 1<=9223372036854775807) (hd:Nat.blt d1 n=true/\Nat.blt d2 n=true)
    (h:∀ o w',Own w' base F e o (xs ++ [a])->Kept w w' v->owp P n ops Q rest ((d2,o) :: (d1,.slice (some ⟨w.heap.size,0,none⟩) 1 1) :: l) w') (hz0:0 < size:=by decide) (hz1:size<=1000:=by decide) :
    owp P n ops Q (⟨some d1,.buildSlice t 1 #[(0,y)],ty,pos,aft,none⟩ :: ⟨some d2,.call { callee:=.builtin .append,args:=#[x,.tmp d1],argTypes:=#[t,t] },ty2,pos2,aft2,none⟩ :: rest) l w:=by
  subst g;have hc:=hu.cells;refine GF (ps:=[(0,y)]) (vs:=[u]) rfl (by simp [U9,C]) rfl (λ v s=>by simp at s;subst s;exact Rp.len hc) (hz:=(by omega)) hd.1 λ D b=>?_;have d:([u].flatMap λ v=>v.cells.toList)=u.cells.toList:=(by simp);rw [d] at b;have f:Agree F w D:=b.ext.agree p;refine Ih (A:=some ⟨w.heap.size,0,none⟩) (c:=1) (ys:=[a]) (cells:=u.cells.toList) B (by simp [opv,lk]) (j.ext b.ext p) (λ k hk=>I6 (p k hk) b.ext.size) (R2 i b.ext.size) (.single (Rp.agree hc f)) (λ _=>⟨_,_,rfl,b.blk.cellsAt⟩) hz0 hb q hd.2 λ o w' E m _=>?_;refine h o w' E ⟨m.os.trans b.ext.os,m.tape.trans b.ext.tape,m.output.trans b.ext.output,R2 b.ext.size m.size,λ k hk r=>?_⟩;rw [m.block k (I6 hk b.ext.size) (λ he=>r he.symm),b.ext.block k hk]
theorem Sr {α:Type} [Rp α] {t e:TypeId} [TSlice P t e] {z:Value} {size bytes:Nat} [TInfo P e z size bytes] (i:size=Rp.size α) {x y:Operand} {v u:Value} {xs:List α} {a:α} {base:Nat} {F:Nat->Prop}
    (C:opv ((d1,.slice (some ⟨w.heap.size,0,none⟩) 1 1) :: l) x=some v) (D:opv l y=some u) (o:Own w base F e v xs) (q:∀ k,F k->k < w.heap.size) (j:base<=w.heap.size) (hu:Vb w F u a)
    (hz0:0 < size) (hz1:size<=1000) (hb:(xs.length + 1) * bytes<=140737488355328) (r:xs.length + 1<=9223372036854775807) (hd:Nat.blt d1 n=true/\Nat.blt d2 n=true)
    (h:∀ m w',Own w' base F e m (xs ++ [a])->Kept w w' v->(m.ownBlock=v.ownBlock\/∃ g,m.ownBlock=some g/\w.heap.size<=g)->owp P n ops Q rest ((d2,m) :: (d1,.slice (some ⟨w.heap.size,0,none⟩) 1 1) :: l) w') :
    owp P n ops Q (⟨some d1,.buildSlice t 1 #[(0,y)],ty,pos,aft,none⟩ :: ⟨some d2,.call { callee:=.builtin .append,args:=#[x,.tmp d1],argTypes:=#[t,t] },ty2,pos2,aft2,none⟩ :: rest) l w:=by
  subst i;have hc:=hu.cells;refine GF (ps:=[(0,y)]) (vs:=[u]) rfl (by simp [U9,D]) rfl (λ v B=>by simp at B;subst B;exact Rp.len hc) (hz:=(by omega)) hd.1 λ E b=>?_;have d:([u].flatMap λ v=>v.cells.toList)=u.cells.toList:=(by simp);rw [d] at b;have f:Agree F w E:=b.ext.agree q;refine Ih (A:=some ⟨w.heap.size,0,none⟩) (c:=1) (ys:=[a]) (cells:=u.cells.toList) C (by simp [opv,lk]) (o.ext b.ext q) (λ k hk=>I6 (q k hk) b.ext.size) (R2 j b.ext.size) (.single (Rp.agree hc f)) (λ _=>⟨_,_,rfl,b.blk.cellsAt⟩) hz0 hb r hd.2 λ m w' G p hat=>?_;refine h m w' G ⟨p.os.trans b.ext.os,p.tape.trans b.ext.tape,p.output.trans b.ext.output,R2 b.ext.size p.size,λ k hk s=>?_⟩ ?_
  . rw [p.block k (I6 hk b.ext.size) (λ he=>s he.symm),b.ext.block k hk]
  . rcases hat with hat|hat
    . exact .inl hat
    . exact .inr ⟨_,hat,b.ext.size⟩
end
end
section
open Go Go.RowKit
theorem Chunks.set {α:Type} [Rp α] {w:World} {F:Nat→Prop}:∀ {xs:List α} {cells:List Value} {i:Nat} {x:α} {cs:List Value},Chunks w F cells xs→i < xs.length→Rp.R w F cs x→Chunks w F (U1 cells (i * Rp.size α) cs) (xs.set i x)
  | [],_,_,_,_,_,hi,_=>by simp at hi
  | y :: xs,cells,0,x,cs,⟨c,rest,he,hr,hc⟩,_,hx=>by
    refine ⟨cs,rest,?_,hx,hc⟩;have:=Iv cs [] c rest (by rw [Rp.len hr,Rp.len hx]);simp only [N6,N8] at this;rw [he,Nat.zero_mul,this]
  | y :: xs,cells,i + 1,x,cs,⟨c,rest,he,hr,hc⟩,hi,hx=>by
    have d:=Chunks.set (i:=i) hc (by simpa using hi) hx;refine ⟨c,U1 rest (i * Rp.size α) cs,?_,hr,d⟩;have a:∀ (vs e:List Value) (k:Nat),U1 (c ++ e) (c.length + k) vs=c ++ U1 e k vs:=by
      intro vs
      induction vs with
      | nil=>intro e k;rfl
      | cons v vs b =>
        intro e k;simp only [U1];rw [F1 _ _ (by omega),show c.length + k - c.length=k from by omega,show c.length + k + 1=c.length + (k + 1) from by omega,b]
    rw [he,show (i + 1) * Rp.size α=c.length + i * Rp.size α from by rw [Rp.len hr,R8];omega,a]
theorem HG:∀ (vs a b:List Value) (o:Nat),o + vs.length<=a.length->U1 (a ++ b) o vs=U1 a o vs ++ b
  | [],_,_,_,_=>rfl
  | v :: vs,a,b,o,h=>by
    simp only [U1,L6] at *
    rw [List.set_append_left _ _ (by omega),HG vs _ b (o + 1) (by simp;omega)]
theorem Own.open {α:Type} [Rp α] {w:World} {base:Nat} {F:Nat->Prop} {e:TypeId} {v:Value} {xs:List α} (h:Own w base F e v xs) (c:0 < xs.length) :
    ∃ g cap cells sp,v=.slice (some ⟨g,0,none⟩) xs.length cap/\base<=g/\¬ F g/\Blk w g e (cells ++ sp)/\Chunks w F cells xs/\cells.length=xs.length * Rp.size α/\xs.length<=cap/\cap<=9223372036854775807/\(cells ++ sp).length=cap * Rp.size α:=by
  obtain ⟨cells,b,h2,h3⟩:=h;rcases b.2 with ⟨rfl,hn⟩|⟨g,cap,cur,rfl,hg,hh,hnc,hcm,hcs,hcur⟩
  . omega
  . have a:cur.toList=cells ++ cur.toList.drop (xs.length * Rp.size α):=(by rw [<- hcur];exact (List.take_append_drop _ _).symm);refine ⟨g,cap,cells,cur.toList.drop (xs.length * Rp.size α),rfl,hg,h3 g rfl,?_,h2,b.1,hnc,by simpa [maxLen] using hcm,?_⟩
    . unfold Blk;rw [<- a];simpa using hh
    . rw [<- a];simpa using hcs
theorem Own.close {α:Type} [Rp α] {w:World} {base:Nat} {F:Nat->Prop} {e:TypeId} {xs:List α} {g cap:Nat} {cells sp:List Value} (b:base<=g) (c:¬ F g) (hb:Blk w g e (cells ++ sp)) (hc:Chunks w F cells xs) (hn:xs.length<=cap) (hm:cap<=9223372036854775807) (hl:(cells ++ sp).length=cap * Rp.size α) :
    Own w base F e (.slice (some ⟨g,0,none⟩) xs.length cap) xs:=by
  refine ⟨cells,⟨hc.length,.inr ⟨g,cap,(cells ++ sp).toArray,rfl,b,hb,hn,by simpa [maxLen] using hm,by simpa using hl,?_⟩⟩,hc,λ d a=>?_⟩
  . rw [<- hc.length];simp
  . have:g=d:=(by simpa [Value.ownBlock] using a);subst this;exact c
section
variable {P : Program} {n : Nat} {ops : Array Oper} {Q : U3} {rest : List Oper} {l : Env} {w : World} {ty : TypeId} {pos : String} {aft : Array Edge}
theorem OU {α:Type} [Rp α] {t e:TypeId} {z:Value} {size bytes:Nat} [TInfo P t z size bytes] (j:size=Rp.size α) {x y:Operand} {g i m c:Nat} {u:Value} {a:α} {xs:List α} {base:Nat} {F:Nat->Prop}
    (B:opv l x=some (.pointer (some ⟨g,0 + i * size,none⟩))) (C:opv l y=some u) (o:Own w base F e (.slice (some ⟨g,0,none⟩) m c) xs) (hi:i < xs.length) (hu:Vb w F u a)
    (h:∀ w',Own w' base F e (.slice (some ⟨g,0,none⟩) m c) (xs.set i a)->Kept w w' (.slice (some ⟨g,0,none⟩) m c)->w'.heap.size=w.heap.size->owp P n ops Q rest l w'):owp P n ops Q (⟨none,.store t x y,ty,pos,aft,none⟩ :: rest) l w:=by
  subst j;obtain ⟨E,cap,cells,sp,hv,hg,hF,hb,hc,hl,p,q,hlen⟩:=o.open (by omega);injection hv with b r s;injection b with b;injection b with b;subst b;subst r;subst s;have d:=hu.cells;have D:i * Rp.size α + Rp.size α<=cells.length:=by
    rw [hl];have:(i + 1) * Rp.size α<=xs.length * Rp.size α:=F9 _ hi;rw [R8] at this;omega
  refine Dg B C hb (Rp.len d) (by rw [I5];omega) (Rp.one d) λ w' f=>?_;rw [R0,HG _ _ _ _ (by rw [Rp.len d];omega)] at f;have v:Agree F w w':=f.agree hF;refine h w' ?_ ⟨f.os,f.tape,f.output,Nat.le_of_eq f.size.symm,λ k _ A=>f.other k λ he=>A (by simp [Value.ownBlock,he])⟩ f.size;have:=Own.close (w:=w') (cap:=c) hg hF f.blk ((hc.set hi d).agree v) (by simpa using p) q (by rw [I5,GR,<- I5];exact hlen);rwa [N9] at this
theorem PV {t e:TypeId} [h:TSlice P t e] (A:Option Addr) (m c:Nat) (w:World):(Op.equal t (.slice A m c) (.slice none 0 0)).run P w=.ok A.isNone w:=by
  have hd:∀ a:Nat,(Op.equalIn (a + 1) t (.slice A m c) (.slice none 0 0)).run P w=.ok A.isNone w:=λ a=>by
    cases A<;>simp [Op.equalIn,run_underlying h.eq]
  exact hd 9999
theorem Xd {dst:Option Tmp} {t e u:TypeId} [TSlice P t e] {x:Operand} {A:Option Addr} {m c:Nat} (d:opv l x=some (.slice A m c)):Ev P ⟨dst,.binOp .eql t x (.const (.slice none 0 0)) u,ty,pos,aft,none⟩ l w (.bool A.isNone):=λ _ a g b=>by
  have f:=b.eval (x:=.const (.slice none 0 0)) (v:=.slice none 0 0) rfl;simp [execOp,b.eval d,f,eqGuard,binOp,PV (P:=P) (t:=t)]
end
end
section
open Go Go.RowKit
section
variable {P : Program} {l : Env} {w : World} {dst : Option Tmp} {ty : TypeId} {pos : String} {aft : Array Edge}
theorem Vd {s t:TypeId} {k:IntKind} [a:TInt P t k] {x:Operand} {v:Value} (b:opv l x=some (.iface t v)):Ev P ⟨dst,.typeAssert x s t true,ty,pos,aft,none⟩ l w (.tuple #[v,.bool true]):=λ _ _ d c=>by
  simp [execOp,c.eval b,Instr.typeAssert,run_underlying a.eq]
theorem Kq {t e:TypeId} [h:TSlice P t e] {z:Value} {size bytes:Nat} [TInfo P e z size bytes] {x y:Operand} {k:IntKind} {A:Option Addr} {m c hi:Nat} {q:Int} (d:opv l x=some (.slice A m c)) (f:opv l y=some (.int k q)) (g:q=(hi:Int)) (a:hi<=c) :
    Ev P ⟨dst,.slice t x none (some y) none,ty,pos,aft,none⟩ l w (.slice (if c=0 then A else A.map (·.add (0 * size))) hi c):=λ _ _ i b=>by
  subst g;simp [execOp,b.eval d,b.eval f,Instr.sliceAt,Instr.slice,run_underlying h.eq,Instr.sliceBounds,Instr.sliceBound,asIntOf,a,EQ (P:=P) (t:=e)]
end
end
section
open Go Go.RowKit
section
variable {w : World} {b o : Nat} {v0 v1 v2 v3 v4 v5 v6 v7 v8 v9 : Value} {r : List Value}
theorem cat0 (h:cellsAt w b o (v0 :: r)):w.cell? ⟨b,o,none⟩=some v0:=h.1
theorem cat1 (h:cellsAt w b o (v0 :: v1 :: r)):w.cell? ⟨b,o + 1,none⟩=some v1:=h.2.1
theorem cat2 (h:cellsAt w b o (v0 :: v1 :: v2 :: r)):w.cell? ⟨b,o + 2,none⟩=some v2:=h.2.2.1
theorem cat3 (h:cellsAt w b o (v0 :: v1 :: v2 :: v3 :: r)):w.cell? ⟨b,o + 3,none⟩=some v3:=h.2.2.2.1
theorem cat4 (h:cellsAt w b o (v0 :: v1 :: v2 :: v3 :: v4 :: r)):w.cell? ⟨b,o + 4,none⟩=some v4:=h.2.2.2.2.1
theorem cat5 (h:cellsAt w b o (v0 :: v1 :: v2 :: v3 :: v4 :: v5 :: r)):w.cell? ⟨b,o + 5,none⟩=some v5:=h.2.2.2.2.2.1
theorem cat6 (h:cellsAt w b o (v0 :: v1 :: v2 :: v3 :: v4 :: v5 :: v6 :: r)):w.cell? ⟨b,o + 6,none⟩=some v6:=h.2.2.2.2.2.2.1
theorem cat7 (h:cellsAt w b o (v0 :: v1 :: v2 :: v3 :: v4 :: v5 :: v6 :: v7 :: r)):w.cell? ⟨b,o + 7,none⟩=some v7:=h.2.2.2.2.2.2.2.1
theorem cat8 (h:cellsAt w b o (v0 :: v1 :: v2 :: v3 :: v4 :: v5 :: v6 :: v7 :: v8 :: r)):w.cell? ⟨b,o + 8,none⟩=some v8:=h.2.2.2.2.2.2.2.2.1
theorem cat9 (h:cellsAt w b o (v0 :: v1 :: v2 :: v3 :: v4 :: v5 :: v6 :: v7 :: v8 :: v9 :: r)):w.cell? ⟨b,o + 9,none⟩=some v9:=h.2.2.2.2.2.2.2.2.2.1
end
section
variable {P : Program} {n : Nat} {ops : Array Oper} {Q : U3} {rest : List Oper} {l : Env} {w : World} {d : Tmp} {ty : TypeId} {pos : String} {aft : Array Edge}
theorem Ar {x:Operand} {v:Value} (a:opv l x=some v)  (h:owp P n ops Q rest ((d,v) :: l) w)  (hd:Nat.blt d n=true:=by exact rfl):owp P n ops Q (⟨some d,.move x,ty,pos,aft,none⟩ :: rest) l w:=Bb (GP a) hd h
theorem Au {x:Operand} {v:Value} (a:opv l x=some v)  (h:owp P n ops Q rest ((d,v) :: l) w)  (hd:Nat.blt d n=true:=by exact rfl):owp P n ops Q (⟨some d,.assign x,ty,pos,aft,none⟩ :: rest) l w:=Bb (GD a) hd h
theorem Bt {c x y:Operand} {v:Value} (hc:opv l c=some (.bool true)) (a:opv l x=some v)  (h:owp P n ops Q rest ((d,v) :: l) w)  (hd:Nat.blt d n=true:=by exact rfl):owp P n ops Q (⟨some d,.pick c x y,ty,pos,aft,none⟩ :: rest) l w:=Bb (Pe hc a) hd h
theorem Bd {c x y:Operand} {v:Value} (hc:opv l c=some (.bool false)) (a:opv l y=some v)  (h:owp P n ops Q rest ((d,v) :: l) w)  (hd:Nat.blt d n=true:=by exact rfl):owp P n ops Q (⟨some d,.pick c x y,ty,pos,aft,none⟩ :: rest) l w:=Bb (Pf hc a) hd h
theorem AD {t:TypeId} {f off:Nat} [TField P t f off] {x:Operand} {b o:Nat} (a:opv l x=some (.pointer (some ⟨b,o,none⟩)))  (h:owp P n ops Q rest ((d,.pointer (some ⟨b,o + off,none⟩)) :: l) w)  (hd:Nat.blt d n=true:=by exact rfl):owp P n ops Q (⟨some d,.fieldAddr t x f,ty,pos,aft,none⟩ :: rest) l w:=Bb (Ed a) hd h
theorem Dr {x:Operand} {a:Addr} (b:opv l x=some (.pointer (some a)))  (h:owp P n ops Q rest ((d,.pointer (some a)) :: l) w)  (hd:Nat.blt d n=true:=by exact rfl):owp P n ops Q (⟨some d,.nilCheck x,ty,pos,aft,none⟩ :: rest) l w:=Bb (Pg b) hd h
theorem BW {x:Operand} {i:Nat} {vs:Array Value} {v:Value} (a:opv l x=some (.tuple vs)) (b:vs[i]?=some v)  (h:owp P n ops Q rest ((d,v) :: l) w)  (hd:Nat.blt d n=true:=by exact rfl):owp P n ops Q (⟨some d,.extract x i,ty,pos,aft,none⟩ :: rest) l w:=Bb (PP a b) hd h
theorem EE {t:TypeId} {x:Operand} (a:opv l x=some (.bool true))  (h:owp P n ops Q rest ((d,.bool false) :: l) w)  (hd:Nat.blt d n=true:=by exact rfl):owp P n ops Q (⟨some d,.unOp .not t x,ty,pos,aft,none⟩ :: rest) l w:=Bb (QG a) hd h
theorem EF {t:TypeId} {x:Operand} (a:opv l x=some (.bool false))  (h:owp P n ops Q rest ((d,.bool true) :: l) w)  (hd:Nat.blt d n=true:=by exact rfl):owp P n ops Q (⟨some d,.unOp .not t x,ty,pos,aft,none⟩ :: rest) l w:=Bb (QH a) hd h
theorem Iq {t:TypeId} {x:Operand} {b:Bool} (a:opv l x=some (.bool b))  (h:owp P n ops Q rest ((d,.bool (!b)) :: l) w)  (hd:Nat.blt d n=true:=by exact rfl):owp P n ops Q (⟨some d,.unOp .not t x,ty,pos,aft,none⟩ :: rest) l w:=Bb (Nu a) hd h
theorem AT {t e:TypeId} [TSlice P t e] {x:Operand} {A:Option Addr} {m c:Nat} (a:opv l x=some (.slice A m c))  (h:owp P n ops Q rest ((d,.int .i64 (m:Int)) :: l) w)  (hd:Nat.blt d n=true:=by exact rfl):owp P n ops Q (⟨some d,.call { callee:=.builtin .len,args:=#[x],argTypes:=#[t] },ty,pos,aft,none⟩ :: rest) l w:=Bb (PO a) hd h
theorem Ny {t:TypeId} [TStr P t] {x:Operand} {s:ByteArray} (a:opv l x=some (.string s))  (h:owp P n ops Q rest ((d,.int .i64 (s.size:Int)) :: l) w)  (hd:Nat.blt d n=true:=by exact rfl):owp P n ops Q (⟨some d,.call { callee:=.builtin .len,args:=#[x],argTypes:=#[t] },ty,pos,aft,none⟩ :: rest) l w:=Bb (VO a) hd h
theorem Abe {c e:TypeId} {x y:Operand} {k:IntKind} {a b:Int} (f:opv l x=some (.int k a)) (g:opv l y=some (.int k b)) (hd:Nat.blt d n=true) (h:owp P n ops Q rest ((d,.int k (min a b)) :: l) w)  : owp P n ops Q (⟨some d,.call { callee:=.builtin .min,args:=#[x,y],argTypes:=#[c,e] },ty,pos,aft,none⟩ :: rest) l w:=Bb (ZT f g) hd h
theorem Yo {c e:TypeId} {x y:Operand} {k:IntKind} {a b:Int} (f:opv l x=some (.int k a)) (g:opv l y=some (.int k b)) (hd:Nat.blt d n=true) (h:owp P n ops Q rest ((d,.int k (max a b)) :: l) w)  : owp P n ops Q (⟨some d,.call { callee:=.builtin .max,args:=#[x,y],argTypes:=#[c,e] },ty,pos,aft,none⟩ :: rest) l w:=Bb (VP f g) hd h
theorem Po {t:TypeId} {k:IntKind} [TInt P t k] {x:Operand} {v:Value} (a:opv l x=some v)  (h:owp P n ops Q rest ((d,.iface t v) :: l) w)  (hd:Nat.blt d n=true:=by exact rfl):owp P n ops Q (⟨some d,.makeInterface t x,ty,pos,aft,none⟩ :: rest) l w:=Bb (PQ a) hd h
theorem Ss {a:Go.Fn} {xs ys:List Operand} {vs b:List Value} (c:U9 l xs=some vs) (e:U9 l ys=some b) (hd:Nat.blt d n=true) (h:owp P n ops Q rest ((d,.func a vs.toArray b.toArray) :: l) w)  : owp P n ops Q (⟨some d,.makeFunc a xs.toArray ys.toArray,ty,pos,aft,none⟩ :: rest) l w:=Bb (Rc c e) hd h
theorem CX {t:TypeId} {z:Value} {size bytes:Nat} [TInfo P t z size bytes] {pl:List (Nat×Nat)} [TPlaces P t pl] {ps:List (Nat×Operand)} {vs:List Value} {k:List (Nat×Value)} (a:U9 l (ps.map (·.2))=some vs) (hk:Z7 pl z.cells.size (Ack (ps.map (·.1)) vs)=some k)  (h:owp P n ops Q rest ((d,.agg (W1 z.cells.toList k).toArray) :: l) w)  (hd:Nat.blt d n=true:=by exact rfl):owp P n ops Q (⟨some d,.build t ps.toArray,ty,pos,aft,none⟩ :: rest) l w:=Bb (JB a hk) hd h
theorem Kg {t e u:TypeId} [TPtr P t e] {x:Operand} {p:Option Addr} (a:opv l x=some (.pointer p))  (h:owp P n ops Q rest ((d,.bool p.isNone) :: l) w)  (hd:Nat.blt d n=true:=by exact rfl):owp P n ops Q (⟨some d,.binOp .eql t x (.const (.pointer none)) u,ty,pos,aft,none⟩ :: rest) l w:=Bb (VQ a) hd h
theorem LJ {t e u:TypeId} [TSlice P t e] {x:Operand} {A:Option Addr} {m c:Nat} (a:opv l x=some (.slice A m c))  (h:owp P n ops Q rest ((d,.bool A.isNone) :: l) w)  (hd:Nat.blt d n=true:=by exact rfl):owp P n ops Q (⟨some d,.binOp .eql t x (.const (.slice none 0 0)) u,ty,pos,aft,none⟩ :: rest) l w:=Bb (Xd a) hd h
theorem ZW {t u:TypeId} [TIface P t] {x:Operand} (a:opv l x=some .nilIface) (hd:Nat.blt d n=true) (h:owp P n ops Q rest ((d,.bool true) :: l) w)  : owp P n ops Q (⟨some d,.binOp .eql t x (.const .nilIface) u,ty,pos,aft,none⟩ :: rest) l w:=Bb (Rb a) hd h
theorem ZX {t u:TypeId} [TIface P t] {x:Operand} {s:TypeId} {v:Value} (a:opv l x=some (.iface s v)) (hd:Nat.blt d n=true) (h:owp P n ops Q rest ((d,.bool false) :: l) w)  : owp P n ops Q (⟨some d,.binOp .eql t x (.const .nilIface) u,ty,pos,aft,none⟩ :: rest) l w:=Bb (PR a) hd h
theorem ZY {t u:TypeId} [TIface P t] {x:Operand} (a:opv l x=some .nilIface) (hd:Nat.blt d n=true) (h:owp P n ops Q rest ((d,.bool false) :: l) w)  : owp P n ops Q (⟨some d,.binOp .neq t x (.const .nilIface) u,ty,pos,aft,none⟩ :: rest) l w:=Bb (PS a) hd h
theorem ZZ {t u:TypeId} [TIface P t] {x:Operand} {s:TypeId} {v:Value} (a:opv l x=some (.iface s v)) (hd:Nat.blt d n=true) (h:owp P n ops Q rest ((d,.bool true) :: l) w)  : owp P n ops Q (⟨some d,.binOp .neq t x (.const .nilIface) u,ty,pos,aft,none⟩ :: rest) l w:=Bb (OT a) hd h
theorem AbO {s t:TypeId} {k:IntKind} [TInt P t k] {x:Operand} {v:Value} (a:opv l x=some (.iface t v)) (hd:Nat.blt d n=true) (h:owp P n ops Q rest ((d,.tuple #[v,.bool true]) :: l) w)  : owp P n ops Q (⟨some d,.typeAssert x s t true,ty,pos,aft,none⟩ :: rest) l w:=Bb (Vd a) hd h
theorem KQ {t u:TypeId} {x y:Operand} {a b:Int} (c:opv l x=some (.int .i64 a)) (e:opv l y=some (.int .i64 b))  (h:owp P n ops Q rest ((d,.int .i64 (a + b)) :: l) w) (hr:-9223372036854775808<=a + b/\a + b<=9223372036854775807:=by omega) (hd:Nat.blt d n=true:=by exact rfl):owp P n ops Q (⟨some d,.binOp .add t x y u,ty,pos,aft,none⟩ :: rest) l w:=Bb (PN c e hr) hd h
theorem KR {t u:TypeId} {x:Operand} {a:Nat} (b:opv l x=some (.int .i64 (a:Int)))  (h:owp P n ops Q rest ((d,.int .i64 ((a + 1:Nat):Int)) :: l) w) (hr:a < 9223372036854775807:=by omega) (hd:Nat.blt d n=true:=by exact rfl):owp P n ops Q (⟨some d,.binOp .add t x (.const (.int .i64 1)) u,ty,pos,aft,none⟩ :: rest) l w:=Bb (Sn b hr) hd h
theorem FF {t e:TypeId} [TSlice P t e] {z:Value} {size bytes:Nat} [TInfo P e z size bytes] {x i:Operand} {k:IntKind} {b o m c j:Nat} {q:Int} (a:opv l x=some (.slice (some ⟨b,o,none⟩) m c)) (f:opv l i=some (.int k q))  (h:owp P n ops Q rest ((d,.pointer (some ⟨b,o + j * size,none⟩)) :: l) w) (hj:q=(j:Int):=by first|rfl|assumption) (hlt:j < m:=by omega) (hd:Nat.blt d n=true:=by exact rfl):owp P n ops Q (⟨some d,.indexAddr t x i,ty,pos,aft,none⟩ :: rest) l w:=Bb (Jj a f hj hlt) hd h
theorem Aaa {t:TypeId} [TStr P t] {x i:Operand} {k:IntKind} {s:ByteArray} {j:Nat} (a:opv l x=some (.string s)) (b:opv l i=some (.int k (j:Int))) (hd:Nat.blt d n=true) (hlt:j < s.size:=by omega) (h:owp P n ops Q rest ((d,.int .u8 ((s[j]'hlt).toNat:Int)) :: l) w):owp P n ops Q (⟨some d,.index t x i,ty,pos,aft,none⟩ :: rest) l w:=Bb (So a b hlt) hd h
theorem AQ {t:TypeId} [TOne P t] {x:Operand} {a:Addr} {v:Value} (b:opv l x=some (.pointer (some a)))  (h:owp P n ops Q rest ((d,v) :: l) w) (hc:w.cell? a=some v:=by first|assumption|exact Blk.cell (by assumption) rfl|exact cat0 (by assumption)|exact cat1 (by assumption)|exact cat2 (by assumption)|exact cat3 (by assumption)|exact cat4 (by assumption)|exact cat5 (by assumption)|exact cat6 (by assumption)|exact cat7 (by assumption)|exact cat8 (by assumption)|exact cat9 (by assumption)) (hd:Nat.blt d n=true:=by exact rfl):owp P n ops Q (⟨some d,.load t x,ty,pos,aft,none⟩ :: rest) l w:=Bb (Dc b hc) hd h
theorem BX {t:TypeId} [TAgg P t] {z:Value} {size bytes:Nat} [TInfo P t z size bytes] {x:Operand} {b o:Nat} {cs:List Value} (a:opv l x=some (.pointer (some ⟨b,o,none⟩)))  (h:owp P n ops Q rest ((d,.agg cs.toArray) :: l) w) (hc:cellsAt w b o cs:=by first|assumption|exact Blk.cellsAt (by assumption)) (hl:cs.length=size:=by rfl) (hd:Nat.blt d n=true:=by exact rfl):owp P n ops Q (⟨some d,.load t x,ty,pos,aft,none⟩ :: rest) l w:=Bb (Ig a hl hc) hd h
theorem Fy {t u:TypeId} {x y:Operand} {k:IntKind} {a b:Int} (c:opv l x=some (.int k a)) (e:opv l y=some (.int k b))  (h:owp P n ops Q rest ((d,.bool true) :: l) w) (f:a < b:=by omega) (hd:Nat.blt d n=true:=by exact rfl):owp P n ops Q (⟨some d,.binOp .lss t x y u,ty,pos,aft,none⟩ :: rest) l w:=KM (DM c e) hd f h
theorem Fz {t u:TypeId} {x y:Operand} {k:IntKind} {a b:Int} (c:opv l x=some (.int k a)) (e:opv l y=some (.int k b))  (h:owp P n ops Q rest ((d,.bool false) :: l) w) (f:¬ (a < b):=by omega) (hd:Nat.blt d n=true:=by exact rfl):owp P n ops Q (⟨some d,.binOp .lss t x y u,ty,pos,aft,none⟩ :: rest) l w:=KN (DM c e) hd f h
theorem Eb {t u:TypeId} {x y:Operand} {k:IntKind} {a b:Int} (c:opv l x=some (.int k a)) (e:opv l y=some (.int k b))  (f:a < b->owp P n ops Q rest ((d,.bool true) :: l) w) (hf:¬ (a < b)->owp P n ops Q rest ((d,.bool false) :: l) w) (hd:Nat.blt d n=true:=by exact rfl):owp P n ops Q (⟨some d,.binOp .lss t x y u,ty,pos,aft,none⟩ :: rest) l w:=He (DM c e) hd f hf
theorem Yp {t u:TypeId} {x y:Operand} {k:IntKind} {a b:Int} (c:opv l x=some (.int k a)) (e:opv l y=some (.int k b)) (hd:Nat.blt d n=true) (h:owp P n ops Q rest ((d,.bool true) :: l) w) (f:a<=b:=by omega):owp P n ops Q (⟨some d,.binOp .leq t x y u,ty,pos,aft,none⟩ :: rest) l w:=KM (Mb c e) hd f h
theorem Yq {t u:TypeId} {x y:Operand} {k:IntKind} {a b:Int} (c:opv l x=some (.int k a)) (e:opv l y=some (.int k b)) (hd:Nat.blt d n=true) (h:owp P n ops Q rest ((d,.bool false) :: l) w) (f:¬ (a<=b):=by omega):owp P n ops Q (⟨some d,.binOp .leq t x y u,ty,pos,aft,none⟩ :: rest) l w:=KN (Mb c e) hd f h
theorem Om {t u:TypeId} {x y:Operand} {k:IntKind} {a b:Int} (c:opv l x=some (.int k a)) (e:opv l y=some (.int k b)) (hd:Nat.blt d n=true) (f:a<=b->owp P n ops Q rest ((d,.bool true) :: l) w) (hf:¬ (a<=b)->owp P n ops Q rest ((d,.bool false) :: l) w):owp P n ops Q (⟨some d,.binOp .leq t x y u,ty,pos,aft,none⟩ :: rest) l w:=He (Mb c e) hd f hf
theorem Lw {t u:TypeId} {x y:Operand} {k:IntKind} {a b:Int} (c:opv l x=some (.int k a)) (e:opv l y=some (.int k b))  (h:owp P n ops Q rest ((d,.bool true) :: l) w) (f:b < a:=by omega) (hd:Nat.blt d n=true:=by exact rfl):owp P n ops Q (⟨some d,.binOp .gtr t x y u,ty,pos,aft,none⟩ :: rest) l w:=KM (Hu c e) hd f h
theorem Lx {t u:TypeId} {x y:Operand} {k:IntKind} {a b:Int} (c:opv l x=some (.int k a)) (e:opv l y=some (.int k b))  (h:owp P n ops Q rest ((d,.bool false) :: l) w) (f:¬ (b < a):=by omega) (hd:Nat.blt d n=true:=by exact rfl):owp P n ops Q (⟨some d,.binOp .gtr t x y u,ty,pos,aft,none⟩ :: rest) l w:=KN (Hu c e) hd f h
theorem Cw {t u:TypeId} {x y:Operand} {k:IntKind} {a b:Int} (c:opv l x=some (.int k a)) (e:opv l y=some (.int k b))  (f:b < a->owp P n ops Q rest ((d,.bool true) :: l) w) (hf:¬ (b < a)->owp P n ops Q rest ((d,.bool false) :: l) w) (hd:Nat.blt d n=true:=by exact rfl):owp P n ops Q (⟨some d,.binOp .gtr t x y u,ty,pos,aft,none⟩ :: rest) l w:=He (Hu c e) hd f hf
theorem PW {t u:TypeId} {x y:Operand} {k:IntKind} {a b:Int} (c:opv l x=some (.int k a)) (e:opv l y=some (.int k b)) (hd:Nat.blt d n=true) (h:owp P n ops Q rest ((d,.bool true) :: l) w) (f:b<=a:=by omega):owp P n ops Q (⟨some d,.binOp .geq t x y u,ty,pos,aft,none⟩ :: rest) l w:=KM (BA c e) hd f h
theorem PX {t u:TypeId} {x y:Operand} {k:IntKind} {a b:Int} (c:opv l x=some (.int k a)) (e:opv l y=some (.int k b)) (hd:Nat.blt d n=true) (h:owp P n ops Q rest ((d,.bool false) :: l) w) (f:¬ (b<=a):=by omega):owp P n ops Q (⟨some d,.binOp .geq t x y u,ty,pos,aft,none⟩ :: rest) l w:=KN (BA c e) hd f h
theorem ER {t u:TypeId} {x y:Operand} {k:IntKind} {a b:Int} (c:opv l x=some (.int k a)) (e:opv l y=some (.int k b))  (f:b<=a->owp P n ops Q rest ((d,.bool true) :: l) w) (hf:¬ (b<=a)->owp P n ops Q rest ((d,.bool false) :: l) w) (hd:Nat.blt d n=true:=by exact rfl):owp P n ops Q (⟨some d,.binOp .geq t x y u,ty,pos,aft,none⟩ :: rest) l w:=He (BA c e) hd f hf
theorem Ve {t u:TypeId} {x y:Operand} {k:IntKind} {a b:Int} (c:opv l x=some (.int k a)) (e:opv l y=some (.int k b)) (hd:Nat.blt d n=true) (h:owp P n ops Q rest ((d,.bool true) :: l) w) (f:a=b:=by omega):owp P n ops Q (⟨some d,.binOp .eql t x y u,ty,pos,aft,none⟩ :: rest) l w:=KM (KK c e) hd f h
theorem Vf {t u:TypeId} {x y:Operand} {k:IntKind} {a b:Int} (c:opv l x=some (.int k a)) (e:opv l y=some (.int k b)) (hd:Nat.blt d n=true) (h:owp P n ops Q rest ((d,.bool false) :: l) w) (f:¬ (a=b):=by omega):owp P n ops Q (⟨some d,.binOp .eql t x y u,ty,pos,aft,none⟩ :: rest) l w:=KN (KK c e) hd f h
theorem Gw {t u:TypeId} {x y:Operand} {k:IntKind} {a b:Int} (c:opv l x=some (.int k a)) (e:opv l y=some (.int k b))  (f:a=b->owp P n ops Q rest ((d,.bool true) :: l) w) (hf:¬ (a=b)->owp P n ops Q rest ((d,.bool false) :: l) w) (hd:Nat.blt d n=true:=by exact rfl):owp P n ops Q (⟨some d,.binOp .eql t x y u,ty,pos,aft,none⟩ :: rest) l w:=He (KK c e) hd f hf
theorem On {t u:TypeId} {x y:Operand} {k:IntKind} {a b:Int} (c:opv l x=some (.int k a)) (e:opv l y=some (.int k b)) (hd:Nat.blt d n=true) (h:owp P n ops Q rest ((d,.bool true) :: l) w) (f:a≠b:=by omega):owp P n ops Q (⟨some d,.binOp .neq t x y u,ty,pos,aft,none⟩ :: rest) l w:=KM (Gb c e) hd f h
theorem Oo {t u:TypeId} {x y:Operand} {k:IntKind} {a b:Int} (c:opv l x=some (.int k a)) (e:opv l y=some (.int k b)) (hd:Nat.blt d n=true) (h:owp P n ops Q rest ((d,.bool false) :: l) w) (f:¬ (a≠b):=by omega):owp P n ops Q (⟨some d,.binOp .neq t x y u,ty,pos,aft,none⟩ :: rest) l w:=KN (Gb c e) hd f h
theorem Kr {t u:TypeId} {x y:Operand} {k:IntKind} {a b:Int} (c:opv l x=some (.int k a)) (e:opv l y=some (.int k b))  (f:a≠b->owp P n ops Q rest ((d,.bool true) :: l) w) (hf:¬ (a≠b)->owp P n ops Q rest ((d,.bool false) :: l) w) (hd:Nat.blt d n=true:=by exact rfl):owp P n ops Q (⟨some d,.binOp .neq t x y u,ty,pos,aft,none⟩ :: rest) l w:=He (Gb c e) hd f hf
variable {S : World → Prop} {r : List (Nat × Bool)} {i : Nat}
theorem AS {x:Operand} {v:Value} (hi:ops[i]?=some ⟨some d,.move x,ty,pos,aft,none⟩) (a:opv l x=some v)  (h:hwp P n ops Q S r ((d,v) :: l) w)  (hd:Nat.blt d n=true:=by exact rfl):hwp P n ops Q S ((i,true) :: r) l w:=AB hi (Bo (λ _ _=>GP a) hd h)
theorem Ek {x:Operand} {v:Value} (hi:ops[i]?=some ⟨some d,.assign x,ty,pos,aft,none⟩) (a:opv l x=some v)  (h:hwp P n ops Q S r ((d,v) :: l) w)  (hd:Nat.blt d n=true:=by exact rfl):hwp P n ops Q S ((i,true) :: r) l w:=AB hi (Bo (λ _ _=>GD a) hd h)
theorem Ee {c x y:Operand} {v:Value} (hi:ops[i]?=some ⟨some d,.pick c x y,ty,pos,aft,none⟩) (hc:opv l c=some (.bool true)) (a:opv l x=some v)  (h:hwp P n ops Q S r ((d,v) :: l) w)  (hd:Nat.blt d n=true:=by exact rfl):hwp P n ops Q S ((i,true) :: r) l w:=AB hi (Bo (λ _ _=>Pe hc a) hd h)
theorem DW {c x y:Operand} {v:Value} (hi:ops[i]?=some ⟨some d,.pick c x y,ty,pos,aft,none⟩) (hc:opv l c=some (.bool false)) (a:opv l y=some v)  (h:hwp P n ops Q S r ((d,v) :: l) w)  (hd:Nat.blt d n=true:=by exact rfl):hwp P n ops Q S ((i,true) :: r) l w:=AB hi (Bo (λ _ _=>Pf hc a) hd h)
theorem AU {t:TypeId} {f off:Nat} [TField P t f off] {x:Operand} {b o:Nat} (hi:ops[i]?=some ⟨some d,.fieldAddr t x f,ty,pos,aft,none⟩) (a:opv l x=some (.pointer (some ⟨b,o,none⟩)))  (h:hwp P n ops Q S r ((d,.pointer (some ⟨b,o + off,none⟩)) :: l) w)  (hd:Nat.blt d n=true:=by exact rfl):hwp P n ops Q S ((i,true) :: r) l w:=AB hi (Bo (λ _ _=>Ed a) hd h)
theorem DN {x:Operand} {a:Addr} (hi:ops[i]?=some ⟨some d,.nilCheck x,ty,pos,aft,none⟩) (b:opv l x=some (.pointer (some a)))  (h:hwp P n ops Q S r ((d,.pointer (some a)) :: l) w)  (hd:Nat.blt d n=true:=by exact rfl):hwp P n ops Q S ((i,true) :: r) l w:=AB hi (Bo (λ _ _=>Pg b) hd h)
theorem Pp {x:Operand} {a:Nat} {vs:Array Value} {v:Value} (hi:ops[i]?=some ⟨some d,.extract x a,ty,pos,aft,none⟩) (b:opv l x=some (.tuple vs)) (c:vs[a]?=some v)  (h:hwp P n ops Q S r ((d,v) :: l) w)  (hd:Nat.blt d n=true:=by exact rfl):hwp P n ops Q S ((i,true) :: r) l w:=AB hi (Bo (λ _ _=>PP b c) hd h)
theorem AbP {t:TypeId} {x:Operand} (hi:ops[i]?=some ⟨some d,.unOp .not t x,ty,pos,aft,none⟩) (a:opv l x=some (.bool true)) (hd:Nat.blt d n=true) (h:hwp P n ops Q S r ((d,.bool false) :: l) w)  : hwp P n ops Q S ((i,true) :: r) l w:=AB hi (Bo (λ _ _=>QG a) hd h)
theorem AbQ {t:TypeId} {x:Operand} (hi:ops[i]?=some ⟨some d,.unOp .not t x,ty,pos,aft,none⟩) (a:opv l x=some (.bool false)) (hd:Nat.blt d n=true) (h:hwp P n ops Q S r ((d,.bool true) :: l) w)  : hwp P n ops Q S ((i,true) :: r) l w:=AB hi (Bo (λ _ _=>QH a) hd h)
theorem Aab {t:TypeId} {x:Operand} {b:Bool} (hi:ops[i]?=some ⟨some d,.unOp .not t x,ty,pos,aft,none⟩) (a:opv l x=some (.bool b)) (hd:Nat.blt d n=true) (h:hwp P n ops Q S r ((d,.bool (!b)) :: l) w)  : hwp P n ops Q S ((i,true) :: r) l w:=AB hi (Bo (λ _ _=>Nu a) hd h)
theorem LL {t e:TypeId} [TSlice P t e] {x:Operand} {A:Option Addr} {m c:Nat} (hi:ops[i]?=some ⟨some d,.call { callee:=.builtin .len,args:=#[x],argTypes:=#[t] },ty,pos,aft,none⟩) (a:opv l x=some (.slice A m c))  (h:hwp P n ops Q S r ((d,.int .i64 (m:Int)) :: l) w)  (hd:Nat.blt d n=true:=by exact rfl):hwp P n ops Q S ((i,true) :: r) l w:=AB hi (Bo (λ _ _=>PO a) hd h)
theorem Abf {c e:TypeId} {x y:Operand} {k:IntKind} {a b:Int} (hi:ops[i]?=some ⟨some d,.call { callee:=.builtin .max,args:=#[x,y],argTypes:=#[c,e] },ty,pos,aft,none⟩) (f:opv l x=some (.int k a)) (g:opv l y=some (.int k b)) (hd:Nat.blt d n=true) (h:hwp P n ops Q S r ((d,.int k (max a b)) :: l) w)  : hwp P n ops Q S ((i,true) :: r) l w:=AB hi (Bo (λ _ _=>VP f g) hd h)
theorem Dk {t:TypeId} {z:Value} {size bytes:Nat} [TInfo P t z size bytes] {pl:List (Nat×Nat)} [TPlaces P t pl] {ps:List (Nat×Operand)} {vs:List Value} {k:List (Nat×Value)} (hi:ops[i]?=some ⟨some d,.build t ps.toArray,ty,pos,aft,none⟩) (a:U9 l (ps.map (·.2))=some vs) (hk:Z7 pl z.cells.size (Ack (ps.map (·.1)) vs)=some k)  (h:hwp P n ops Q S r ((d,.agg (W1 z.cells.toList k).toArray) :: l) w)  (hd:Nat.blt d n=true:=by exact rfl):hwp P n ops Q S ((i,true) :: r) l w:=AB hi (Bo (λ _ _=>JB a hk) hd h)
theorem Aac {t u:TypeId} {x y:Operand} {a b:Int} (hi:ops[i]?=some ⟨some d,.binOp .add t x y u,ty,pos,aft,none⟩) (c:opv l x=some (.int .i64 a)) (e:opv l y=some (.int .i64 b)) (hd:Nat.blt d n=true) (h:hwp P n ops Q S r ((d,.int .i64 (a + b)) :: l) w) (hr:-9223372036854775808<=a + b/\a + b<=9223372036854775807:=by omega):hwp P n ops Q S ((i,true) :: r) l w:=AB hi (Bo (λ _ _=>PN c e hr) hd h)
theorem Aad {t u:TypeId} {x:Operand} {a:Nat} (hi:ops[i]?=some ⟨some d,.binOp .add t x (.const (.int .i64 1)) u,ty,pos,aft,none⟩) (b:opv l x=some (.int .i64 (a:Int))) (hd:Nat.blt d n=true) (h:hwp P n ops Q S r ((d,.int .i64 ((a + 1:Nat):Int)) :: l) w) (hr:a < 9223372036854775807:=by omega):hwp P n ops Q S ((i,true) :: r) l w:=AB hi (Bo (λ _ _=>Sn b hr) hd h)
theorem Nz {t e:TypeId} [TSlice P t e] {z:Value} {size bytes:Nat} [TInfo P e z size bytes] {x a:Operand} {k:IntKind} {b o m c j:Nat} {q:Int} (hi:ops[i]?=some ⟨some d,.indexAddr t x a,ty,pos,aft,none⟩) (f:opv l x=some (.slice (some ⟨b,o,none⟩) m c)) (g:opv l a=some (.int k q))  (h:hwp P n ops Q S r ((d,.pointer (some ⟨b,o + j * size,none⟩)) :: l) w) (hj:q=(j:Int):=by first|rfl|assumption) (hlt:j < m:=by omega) (hd:Nat.blt d n=true:=by exact rfl):hwp P n ops Q S ((i,true) :: r) l w:=AB hi (Bo (λ _ _=>Jj f g hj hlt) hd h)
theorem DV {a:World} {t:TypeId} [TOne P t] {x:Operand} {b:Addr} {v:Value} (hi:ops[i]?=some ⟨some d,.load t x,ty,pos,aft,none⟩) (c:opv l x=some (.pointer (some b)))  (h:hwp P n ops Q (·=a) r ((d,v) :: l) w) (hc:a.cell? b=some v:=by first|assumption|exact Blk.cell (by assumption) rfl|exact cat0 (by assumption)|exact cat1 (by assumption)|exact cat2 (by assumption)|exact cat3 (by assumption)|exact cat4 (by assumption)|exact cat5 (by assumption)|exact cat6 (by assumption)|exact cat7 (by assumption)|exact cat8 (by assumption)|exact cat9 (by assumption)) (hd:Nat.blt d n=true:=by exact rfl):hwp P n ops Q (·=a) ((i,true) :: r) l w:=AB hi (Yn (Dc c hc) hd h)
theorem Ks {a:World} {t:TypeId} [TOne P t] {x:Operand} {g k:Nat} {b:TypeId} {cs:List Value} {v:Value} (hi:ops[i]?=some ⟨some d,.load t x,ty,pos,aft,none⟩) (c:opv l x=some (.pointer (some ⟨g,k,none⟩)))  (h:hwp P n ops Q (Ext a) r ((d,v) :: l) w) (hb:Blk a g b cs:=by assumption) (hc:cs[k]?=some v:=by rfl) (hd:Nat.blt d n=true:=by exact rfl):hwp P n ops Q (Ext a) ((i,true) :: r) l w:=AB hi (Bo (λ _ e=>Dc c ((hb.ext e).cell hc)) hd h)
theorem Hj {t:TypeId} [TOne P t] {x:Operand} {g k:Nat} {a:TypeId} {cs:List Value} {v:Value} (hi:ops[i]?=some ⟨some d,.load t x,ty,pos,aft,none⟩) (b:opv l x=some (.pointer (some ⟨g,k,none⟩)))  (h:hwp P n ops Q S r ((d,v) :: l) w) (hb:∀ w',S w'->Blk w' g a cs:=by assumption) (hc:cs[k]?=some v:=by rfl) (hd:Nat.blt d n=true:=by exact rfl):hwp P n ops Q S ((i,true) :: r) l w:=AB hi (Bo (λ _ c=>Dc b ((hb _ c).cell hc)) hd h)
theorem Bc {t:TypeId} [TOne P t] {x:Operand} {b:Addr} {v:Value} (hi:ops[i]?=some ⟨some d,.load t x,ty,pos,aft,none⟩) (c:opv l x=some (.pointer (some b)))  (h:hwp P n ops Q S r ((d,v) :: l) w) (hc:∀ w',S w'->w'.cell? b=some v:=by first|assumption|exact λ _ a=>cat0 ((by assumption:∀ w',_->cellsAt w' _ _ _) _ a)|exact λ _ a=>cat1 ((by assumption:∀ w',_->cellsAt w' _ _ _) _ a)|exact λ _ a=>cat2 ((by assumption:∀ w',_->cellsAt w' _ _ _) _ a)|exact λ _ a=>cat3 ((by assumption:∀ w',_->cellsAt w' _ _ _) _ a)|exact λ _ a=>cat4 ((by assumption:∀ w',_->cellsAt w' _ _ _) _ a)|exact λ _ a=>cat5 ((by assumption:∀ w',_->cellsAt w' _ _ _) _ a)|exact λ _ a=>cat6 ((by assumption:∀ w',_->cellsAt w' _ _ _) _ a)|exact λ _ a=>cat7 ((by assumption:∀ w',_->cellsAt w' _ _ _) _ a)|exact λ _ a=>cat8 ((by assumption:∀ w',_->cellsAt w' _ _ _) _ a)|exact λ _ a=>cat9 ((by assumption:∀ w',_->cellsAt w' _ _ _) _ a)) (hd:Nat.blt d n=true:=by exact rfl):hwp P n ops Q S ((i,true) :: r) l w:=AB hi (Bo (λ _ a=>Dc c (hc _ a)) hd h)
theorem EM {t:TypeId} [TAgg P t] {z:Value} {size bytes:Nat} [TInfo P t z size bytes] {x:Operand} {b o:Nat} {cs:List Value} (hi:ops[i]?=some ⟨some d,.load t x,ty,pos,aft,none⟩) (c:opv l x=some (.pointer (some ⟨b,o,none⟩)))  (h:hwp P n ops Q S r ((d,.agg cs.toArray) :: l) w) (hb:∀ w',S w'->cellsAt w' b o cs:=by first|assumption|exact λ _ a=>Blk.cellsAt ((by assumption:∀ w',_->Blk w' _ _ _) _ a)) (hl:cs.length=size:=by rfl) (hd:Nat.blt d n=true:=by exact rfl):hwp P n ops Q S ((i,true) :: r) l w:=AB hi (Bo (λ _ a=>Ig c hl (hb _ a)) hd h)
theorem JJ {t u:TypeId} {x y:Operand} {k:IntKind} {a b:Int} (hi:ops[i]?=some ⟨some d,.binOp .lss t x y u,ty,pos,aft,none⟩) (c:opv l x=some (.int k a)) (e:opv l y=some (.int k b))  (h:hwp P n ops Q S r ((d,.bool true) :: l) w) (f:a < b:=by omega) (hd:Nat.blt d n=true:=by exact rfl):hwp P n ops Q S ((i,true) :: r) l w:=AB hi (CQ (λ _ _=>DM c e) (hn:=hd) f h)
theorem JK {t u:TypeId} {x y:Operand} {k:IntKind} {a b:Int} (hi:ops[i]?=some ⟨some d,.binOp .lss t x y u,ty,pos,aft,none⟩) (c:opv l x=some (.int k a)) (e:opv l y=some (.int k b))  (h:hwp P n ops Q S r ((d,.bool false) :: l) w) (f:¬ (a < b):=by omega) (hd:Nat.blt d n=true:=by exact rfl):hwp P n ops Q S ((i,true) :: r) l w:=AB hi (CR (λ _ _=>DM c e) (hn:=hd) f h)
theorem IH {t u:TypeId} {x y:Operand} {k:IntKind} {a b:Int} (hi:ops[i]?=some ⟨some d,.binOp .lss t x y u,ty,pos,aft,none⟩) (c:opv l x=some (.int k a)) (e:opv l y=some (.int k b))  (f:a < b->hwp P n ops Q S r ((d,.bool true) :: l) w) (hf:¬ (a < b)->hwp P n ops Q S r ((d,.bool false) :: l) w) (hd:Nat.blt d n=true:=by exact rfl):hwp P n ops Q S ((i,true) :: r) l w:=AB hi (BB (λ _ _=>DM c e) (hn:=hd) f hf)
theorem Yr {t u:TypeId} {x y:Operand} {k:IntKind} {a b:Int} (hi:ops[i]?=some ⟨some d,.binOp .leq t x y u,ty,pos,aft,none⟩) (c:opv l x=some (.int k a)) (e:opv l y=some (.int k b)) (hd:Nat.blt d n=true) (h:hwp P n ops Q S r ((d,.bool true) :: l) w) (f:a<=b:=by omega):hwp P n ops Q S ((i,true) :: r) l w:=AB hi (CQ (λ _ _=>Mb c e) (hn:=hd) f h)
theorem Ys {t u:TypeId} {x y:Operand} {k:IntKind} {a b:Int} (hi:ops[i]?=some ⟨some d,.binOp .leq t x y u,ty,pos,aft,none⟩) (c:opv l x=some (.int k a)) (e:opv l y=some (.int k b)) (hd:Nat.blt d n=true) (h:hwp P n ops Q S r ((d,.bool false) :: l) w) (f:¬ (a<=b):=by omega):hwp P n ops Q S ((i,true) :: r) l w:=AB hi (CR (λ _ _=>Mb c e) (hn:=hd) f h)
theorem Yt {t u:TypeId} {x y:Operand} {k:IntKind} {a b:Int} (hi:ops[i]?=some ⟨some d,.binOp .leq t x y u,ty,pos,aft,none⟩) (c:opv l x=some (.int k a)) (e:opv l y=some (.int k b)) (hd:Nat.blt d n=true) (f:a<=b->hwp P n ops Q S r ((d,.bool true) :: l) w) (hf:¬ (a<=b)->hwp P n ops Q S r ((d,.bool false) :: l) w):hwp P n ops Q S ((i,true) :: r) l w:=AB hi (BB (λ _ _=>Mb c e) (hn:=hd) f hf)
theorem Abg {t u:TypeId} {x y:Operand} {k:IntKind} {a b:Int} (hi:ops[i]?=some ⟨some d,.binOp .geq t x y u,ty,pos,aft,none⟩) (c:opv l x=some (.int k a)) (e:opv l y=some (.int k b)) (hd:Nat.blt d n=true) (f:b<=a->hwp P n ops Q S r ((d,.bool true) :: l) w) (hf:¬ (b<=a)->hwp P n ops Q S r ((d,.bool false) :: l) w):hwp P n ops Q S ((i,true) :: r) l w:=AB hi (BB (λ _ _=>BA c e) (hn:=hd) f hf)
theorem Yu {t u:TypeId} {x y:Operand} {k:IntKind} {a b:Int} (hi:ops[i]?=some ⟨some d,.binOp .eql t x y u,ty,pos,aft,none⟩) (c:opv l x=some (.int k a)) (e:opv l y=some (.int k b)) (hd:Nat.blt d n=true) (h:hwp P n ops Q S r ((d,.bool true) :: l) w) (f:a=b:=by omega):hwp P n ops Q S ((i,true) :: r) l w:=AB hi (CQ (λ _ _=>KK c e) (hn:=hd) f h)
theorem Yv {t u:TypeId} {x y:Operand} {k:IntKind} {a b:Int} (hi:ops[i]?=some ⟨some d,.binOp .eql t x y u,ty,pos,aft,none⟩) (c:opv l x=some (.int k a)) (e:opv l y=some (.int k b)) (hd:Nat.blt d n=true) (h:hwp P n ops Q S r ((d,.bool false) :: l) w) (f:¬ (a=b):=by omega):hwp P n ops Q S ((i,true) :: r) l w:=AB hi (CR (λ _ _=>KK c e) (hn:=hd) f h)
theorem Yw {t u:TypeId} {x y:Operand} {k:IntKind} {a b:Int} (hi:ops[i]?=some ⟨some d,.binOp .eql t x y u,ty,pos,aft,none⟩) (c:opv l x=some (.int k a)) (e:opv l y=some (.int k b)) (hd:Nat.blt d n=true) (f:a=b->hwp P n ops Q S r ((d,.bool true) :: l) w) (hf:¬ (a=b)->hwp P n ops Q S r ((d,.bool false) :: l) w):hwp P n ops Q S ((i,true) :: r) l w:=AB hi (BB (λ _ _=>KK c e) (hn:=hd) f hf)
theorem Abh {t u:TypeId} {x y:Operand} {k:IntKind} {a b:Int} (hi:ops[i]?=some ⟨some d,.binOp .neq t x y u,ty,pos,aft,none⟩) (c:opv l x=some (.int k a)) (e:opv l y=some (.int k b)) (hd:Nat.blt d n=true) (h:hwp P n ops Q S r ((d,.bool true) :: l) w) (f:a≠b:=by omega):hwp P n ops Q S ((i,true) :: r) l w:=AB hi (CQ (λ _ _=>Gb c e) (hn:=hd) f h)
theorem Abi {t u:TypeId} {x y:Operand} {k:IntKind} {a b:Int} (hi:ops[i]?=some ⟨some d,.binOp .neq t x y u,ty,pos,aft,none⟩) (c:opv l x=some (.int k a)) (e:opv l y=some (.int k b)) (hd:Nat.blt d n=true) (h:hwp P n ops Q S r ((d,.bool false) :: l) w) (f:¬ (a≠b):=by omega):hwp P n ops Q S ((i,true) :: r) l w:=AB hi (CR (λ _ _=>Gb c e) (hn:=hd) f h)
theorem Vg {t u:TypeId} {x y:Operand} {k:IntKind} {a b:Int} (hi:ops[i]?=some ⟨some d,.binOp .neq t x y u,ty,pos,aft,none⟩) (c:opv l x=some (.int k a)) (e:opv l y=some (.int k b)) (hd:Nat.blt d n=true) (f:a≠b->hwp P n ops Q S r ((d,.bool true) :: l) w) (hf:¬ (a≠b)->hwp P n ops Q S r ((d,.bool false) :: l) w):hwp P n ops Q S ((i,true) :: r) l w:=AB hi (BB (λ _ _=>Gb c e) (hn:=hd) f hf)
theorem CE {x:Operand} {v:Value} (a:opv l x=some v)  (h:hwp P n ops Q S r ((d,v) :: l) w)  (hd:Nat.blt d n=true:=by exact rfl):hwq P n ops Q S ⟨some d,.move x,ty,pos,aft,none⟩ r l w:=Bo (λ _ _=>GP a) hd h
theorem QJ {c x y:Operand} {v:Value} (hc:opv l c=some (.bool true)) (a:opv l x=some v) (hd:Nat.blt d n=true) (h:hwp P n ops Q S r ((d,v) :: l) w)  : hwq P n ops Q S ⟨some d,.pick c x y,ty,pos,aft,none⟩ r l w:=Bo (λ _ _=>Pe hc a) hd h
theorem QK {c x y:Operand} {v:Value} (hc:opv l c=some (.bool false)) (a:opv l y=some v) (hd:Nat.blt d n=true) (h:hwp P n ops Q S r ((d,v) :: l) w)  : hwq P n ops Q S ⟨some d,.pick c x y,ty,pos,aft,none⟩ r l w:=Bo (λ _ _=>Pf hc a) hd h
theorem Dl {t:TypeId} {f off:Nat} [TField P t f off] {x:Operand} {b o:Nat} (a:opv l x=some (.pointer (some ⟨b,o,none⟩)))  (h:hwp P n ops Q S r ((d,.pointer (some ⟨b,o + off,none⟩)) :: l) w)  (hd:Nat.blt d n=true:=by exact rfl):hwq P n ops Q S ⟨some d,.fieldAddr t x f,ty,pos,aft,none⟩ r l w:=Bo (λ _ _=>Ed a) hd h
theorem Xe {t:TypeId} {x:Operand} (a:opv l x=some (.bool true)) (hd:Nat.blt d n=true) (h:hwp P n ops Q S r ((d,.bool false) :: l) w)  : hwq P n ops Q S ⟨some d,.unOp .not t x,ty,pos,aft,none⟩ r l w:=Bo (λ _ _=>QG a) hd h
theorem Xf {t:TypeId} {x:Operand} (a:opv l x=some (.bool false)) (hd:Nat.blt d n=true) (h:hwp P n ops Q S r ((d,.bool true) :: l) w)  : hwq P n ops Q S ⟨some d,.unOp .not t x,ty,pos,aft,none⟩ r l w:=Bo (λ _ _=>QH a) hd h
theorem Xg {t:TypeId} {x:Operand} {b:Bool} (a:opv l x=some (.bool b)) (hd:Nat.blt d n=true) (h:hwp P n ops Q S r ((d,.bool (!b)) :: l) w)  : hwq P n ops Q S ⟨some d,.unOp .not t x,ty,pos,aft,none⟩ r l w:=Bo (λ _ _=>Nu a) hd h
theorem Mz {t e:TypeId} [TSlice P t e] {x:Operand} {A:Option Addr} {m c:Nat} (a:opv l x=some (.slice A m c))  (h:hwp P n ops Q S r ((d,.int .i64 (m:Int)) :: l) w)  (hd:Nat.blt d n=true:=by exact rfl):hwq P n ops Q S ⟨some d,.call { callee:=.builtin .len,args:=#[x],argTypes:=#[t] },ty,pos,aft,none⟩ r l w:=Bo (λ _ _=>PO a) hd h
theorem Aae {a:Go.Fn} {xs ys:List Operand} {vs b:List Value} (c:U9 l xs=some vs) (e:U9 l ys=some b) (hd:Nat.blt d n=true) (h:hwp P n ops Q S r ((d,.func a vs.toArray b.toArray) :: l) w)  : hwq P n ops Q S ⟨some d,.makeFunc a xs.toArray ys.toArray,ty,pos,aft,none⟩ r l w:=Bo (λ _ _=>Rc c e) hd h
theorem Xh {t u:TypeId} {x y:Operand} {a b:Int} (c:opv l x=some (.int .i64 a)) (e:opv l y=some (.int .i64 b)) (hd:Nat.blt d n=true) (h:hwp P n ops Q S r ((d,.int .i64 (a - b)) :: l) w) (hr:-9223372036854775808<=a - b/\a - b<=9223372036854775807:=by omega):hwq P n ops Q S ⟨some d,.binOp .sub t x y u,ty,pos,aft,none⟩ r l w:=Bo (λ _ _=>VN c e hr) hd h
theorem Jl {t e:TypeId} [TSlice P t e] {z:Value} {size bytes:Nat} [TInfo P e z size bytes] {x a:Operand} {k:IntKind} {b o m c j:Nat} {q:Int} (f:opv l x=some (.slice (some ⟨b,o,none⟩) m c)) (g:opv l a=some (.int k q))  (h:hwp P n ops Q S r ((d,.pointer (some ⟨b,o + j * size,none⟩)) :: l) w) (hj:q=(j:Int):=by first|rfl|assumption) (hlt:j < m:=by omega) (hd:Nat.blt d n=true:=by exact rfl):hwq P n ops Q S ⟨some d,.indexAddr t x a,ty,pos,aft,none⟩ r l w:=Bo (λ _ _=>Jj f g hj hlt) hd h
theorem Ca {a:World} {t:TypeId} [TOne P t] {x:Operand} {b:Addr} {v:Value} (c:opv l x=some (.pointer (some b)))  (h:hwp P n ops Q (·=a) r ((d,v) :: l) w) (hc:a.cell? b=some v:=by first|assumption|exact Blk.cell (by assumption) rfl|exact cat0 (by assumption)|exact cat1 (by assumption)|exact cat2 (by assumption)|exact cat3 (by assumption)|exact cat4 (by assumption)|exact cat5 (by assumption)|exact cat6 (by assumption)|exact cat7 (by assumption)|exact cat8 (by assumption)|exact cat9 (by assumption)) (hd:Nat.blt d n=true:=by exact rfl):hwq P n ops Q (·=a) ⟨some d,.load t x,ty,pos,aft,none⟩ r l w:=Yn (Dc c hc) hd h
theorem Ce {a:Op} {j dj:Nat} {b:Bool} {u:Value} (hi:ops[i]?=some ⟨some d,a,ty,pos,aft,some (j,b)⟩) (hj:Acq ops j=some dj) (hl:lk l dj=some u)   (h:hwp P n ops Q S r ((d,undef) :: l) w) (hu:isB u b=false:=by exact rfl) (hd:Nat.blt d n=true:=by exact rfl):hwp P n ops Q S ((i,true) :: r) l w:=AB hi (AG hj hl (hu:=hu) (hn:=hd) h)
end
end
section
open Go Go.RowKit
structure Fct where
  var:Int
  val:Int
structure Eff where
  cond:List Fct
  var:Int
  val:Int
structure Opr where
  name:ByteArray
  cost:Int
  pre:List Fct
  effs:List Eff
structure Tsk where
  vars:List Int
  init:List Int
  goal:List Fct
  ops:List Opr
theorem Vb.one {α:Type} [Rp α] (hb:Rp.isAgg α=false) {w:World} {F:Nat->Prop} {v:Value} {x:α} (h:Vb w F v x):v.oneCell'=true:=by
  unfold Vb at h;rw [hb] at h;exact Rp.one h v (by simp)
instance:Rp Fct where
  isAgg:=true
  size:=2
  R _ _ cs f:=cs=[.int .i64 f.var,.int .i64 f.val]/\T3 f.var/\T3 f.val
  len:=by rintro w F cs x ⟨rfl,_⟩;rfl
  one:=by rintro w F cs x ⟨rfl,_⟩ u hu;simp at hu;rcases hu with rfl|rfl<;>rfl
  agree:=λ h _=>h
  mono:=λ h _=>h
instance:Rp Eff where
  isAgg:=true
  size:=3
  R w F cs e:=∃ v,cs=[v,.int .i64 e.var,.int .i64 e.val]/\Vb w F v e.cond/\T3 e.var/\T3 e.val
  len:=by rintro w F cs x ⟨v,rfl,_⟩;rfl
  one:=by rintro w F cs x ⟨v,rfl,h,_⟩ u hu;simp at hu;rcases hu with rfl|rfl|rfl<;>first|rfl|exact Vb.one rfl (by assumption)
  agree:=by rintro w w' F cs x ⟨v,rfl,h,h2⟩ ha;exact ⟨v,rfl,h.agree ha,h2⟩
  mono:=by rintro w F G cs x ⟨v,rfl,h,h2⟩ ha;exact ⟨v,rfl,h.mono ha,h2⟩
instance:Rp Opr where
  isAgg:=true
  size:=4
  R w F cs o:=∃ p q,cs=[.string o.name,.int .i64 o.cost,p,q]/\Vb w F p o.pre/\Vb w F q o.effs/\T3 o.cost/\o.name.size<=9223372036854775807
  len:=by rintro w F cs x ⟨p,q,rfl,_⟩;rfl
  one:=by rintro w F cs x ⟨p,q,rfl,h,k,_⟩ u hu;simp at hu;rcases hu with rfl|rfl|rfl|rfl<;>first|rfl|exact Vb.one rfl (by assumption)
  agree:=by rintro w w' F cs x ⟨p,q,rfl,h,k,h2⟩ ha;exact ⟨p,q,rfl,h.agree ha,k.agree ha,h2⟩
  mono:=by rintro w F G cs x ⟨p,q,rfl,h,k,h2⟩ ha;exact ⟨p,q,rfl,h.mono ha,k.mono ha,h2⟩
instance:Rp Tsk where
  isAgg:=true
  size:=4
  R w F cs t:=∃ a b c d,cs=[a,b,c,d]/\Vb w F a t.vars/\Vb w F b t.init/\Vb w F c t.goal/\Vb w F d t.ops
  len:=by rintro w F cs x ⟨a,b,c,d,rfl,_⟩;rfl
  one:=by rintro w F cs x ⟨a,b,c,d,rfl,h1,h2,h3,h4⟩ u hu;simp at hu;rcases hu with rfl|rfl|rfl|rfl<;>first|rfl|exact Vb.one rfl (by assumption)
  agree:=by rintro w w' F cs x ⟨a,b,c,d,rfl,h1,h2,h3,h4⟩ ha;exact ⟨a,b,c,d,rfl,h1.agree ha,h2.agree ha,h3.agree ha,h4.agree ha⟩
  mono:=by rintro w F G cs x ⟨a,b,c,d,rfl,h1,h2,h3,h4⟩ ha;exact ⟨a,b,c,d,rfl,h1.mono ha,h2.mono ha,h3.mono ha,h4.mono ha⟩
end
section
open Go Go.RowKit Go.ChangeShapes Go.WideShapes Go.Deep
section
variable {H : Type} {enc : TypeId × Value → H} {P : Program} {w : World}
class Reads (P:Program) (t:TypeId) (α:Type) [Rp α]:Prop where
  of:∀ {H:Type} {enc:TypeId×Value->H} {w:World} {n:Nat} {cs:List Value} {x:DataW H×List MemPlace},DataW.trod enc P w 0 (λ _=>true) true n t cs=some x->∃ a:α,Rp.R w (All w) cs a
theorem Afm {z:Int} (h:(Lit.int .i64 z).wf=true):T3 z:=by
  simpa [Lit.wf,IntKind.min,IntKind.max,IntKind.signed,IntKind.bits,T3] using h
theorem Aei {t:TypeId} (a:P.underlying t=some (.int .i64)):Reads P t Int:=⟨λ h=>by
  obtain ⟨z,rfl,_,hw⟩:=DataW.trod_int a h;exact ⟨z,rfl,Afm hw⟩⟩
theorem YM {a:Addr} {v:Value} (h:w.cell? a=some v):a.block < w.heap.size/\a.spot=none:=by
  unfold World.cell? at h;split at h
  . next hb =>
    refine ⟨(B3.1 hb).1,?_⟩;cases hs:a.spot with
    | none=>rfl
    | some k=>rw [hs] at h;simp at h
  . cases h
theorem AcG {t e:TypeId} {α:Type} [Rp α] [hr:Reads P e α] (B:P.underlying t=some (.slice e)) (hc:P.cellsOf e=Rp.size α)  (G:0 < Rp.size α:=by decide):Reads P t (List α):=⟨λ {H enc w n cs x} h=>by
  rcases open_slice B h with ⟨rfl,_⟩|⟨a,len,cap,m,n',D,Pl,rfl,_,hl,hm,hmm,_,hi⟩
  . exact ⟨[],_,rfl,none,0,[],rfl,R7 _,by omega,rfl,λ h=>by simp at h⟩
  . have C:len<=m:=(by rw [hmm];simpa using hl);have r:∀ k,k<=len->∃ (xs:List α) (cells:List Value),xs.length=k/\Chunks w (All w) cells xs/\(0 < k->a.spot=none/\a.block < w.heap.size)/\∀ (j:Nat) v,cells[j]?=some v->w.cell? ⟨a.block,a.off + j,none⟩=some v:=by
      intro k
      induction k with
      | zero=>intro _;exact ⟨[],[],rfl,rfl,λ h=>by omega,λ j v h=>by simp at h⟩
      | succ k E =>
        intro hk;obtain ⟨xs,cells,h1,h2,h3,h4⟩:=E (by omega);obtain ⟨d,hcs,hel⟩:=hi k (by omega);obtain ⟨y,hy⟩:=hr.of hel;obtain ⟨_,hlen,hat⟩:=World.cells?_some hcs;rw [hc] at hlen hat;have u:=h2.length;have l:∀ j,j < Rp.size α->((a.add (k * Rp.size α)).add j).block=a.block/\((a.add (k * Rp.size α)).add j).off=a.off + (cells.length + j):=λ j hj=>by
          rw [u,h1];unfold Addr.add;by_cases g:k * Rp.size α=0
          . by_cases f:j=0
            . simp [g,f]
            . simp [g,f]
          . by_cases f:j=0
            . simp [g,f]
            . simp [g,f];omega
        have c:∀ (j:Nat) v,d[j]?=some v->w.cell? ⟨a.block,a.off + (cells.length + j),none⟩=some v/\a.block < w.heap.size/\((a.add (k * Rp.size α)).add j).spot=none:=λ j v i=>by
          have hj:j < Rp.size α:=(by rw [<- hlen];exact (B7.1 i).1);have q:=hat j hj;rw [i] at q;obtain ⟨p,q2⟩:=YM q;obtain ⟨g,f⟩:=l j hj;have:(a.add (k * Rp.size α)).add j=⟨a.block,a.off + (cells.length + j),none⟩:=by
            cases F:(a.add (k * Rp.size α)).add j with
            | mk b o s=>rw [F] at g f q2;simp only at g f q2;subst g;subst f;subst q2;rfl
          rw [this] at q p;exact ⟨q,p,q2⟩
        obtain ⟨v0,hv0⟩:∃ v,d[0]?=some v:=⟨d[0]'(by omega),C4 (by omega)⟩;refine ⟨xs ++ [y],cells ++ d,by simp [h1],h2.append (.single hy),λ _=>⟨?_,(c 0 v0 hv0).2.1⟩,λ j v i=>?_⟩
        . by_cases z:k=0
          . subst z;have:=(c 0 v0 hv0).2.2;simpa [Addr.add] using this
          . exact (h3 (by omega)).1
        . by_cases hj:j < cells.length
          . rw [B8 hj] at i;exact h4 j v i
          . rw [B4 (by omega)] at i;have:=(c _ v i).1;rwa [show cells.length + (j - cells.length)=j from by omega] at this
    obtain ⟨xs,cells,h1,h2,h3,h4⟩:=r len (R7 _);refine ⟨xs,_,rfl,some a,cap,cells,by rw [h1],by omega,by simpa [maxLen] using hm,h2,λ A=>?_⟩;obtain ⟨p,q2⟩:=h3 (by omega);refine ⟨a.block,a.off,?_,q2,If h4⟩;cases a;simp only at p;subst p;rfl⟩
end
end
section
open Go Go.RowKit
theorem T6 {P:Program} {t f off s:Nat} {b:Array Field} {a:Field} (c:P.underlying t=some (.struct b)) (d:b[f]?=some a) (e:a.offset=off)   (g:(P.info? a.type).map (·.size)=some s:=by kernel_rfl) (h:s≠0:=by decide) :
    ∃ b a i,P.underlying t=some (.struct b)/\b[f]?=some a/\a.offset=off/\P.info? a.type=some i/\i.size≠0:=by
  obtain ⟨i,hi,hs⟩:=E3.1 g;exact ⟨b,a,i,c,d,e,hi,by rw [hs];exact h⟩
instance:TInt prog 3 .i64:=⟨underlying3⟩
instance:TOne prog 3:=⟨⟨_,underlying3,rfl⟩⟩
instance:TInfo prog 3 (.int .i64 0) 1 8:=⟨info_parts (by kernel_rfl),rfl⟩
instance:TOne prog 4:=⟨⟨_,underlying4,rfl⟩⟩
instance:TInfo prog 4 (.bool false) 1 1:=⟨info_parts (by kernel_rfl),rfl⟩
instance:TStr prog 9:=⟨underlying9⟩
instance:TOne prog 9:=⟨⟨_,underlying9,rfl⟩⟩
instance:TSlice prog 22 3:=⟨underlying22⟩
instance:TOne prog 22:=⟨⟨_,underlying22,rfl⟩⟩
instance:TInfo prog 22 (.slice none 0 0) 1 24:=⟨info_parts (by kernel_rfl),rfl⟩
instance:TSlice prog 23 61:=⟨underlying23⟩
instance:TOne prog 23:=⟨⟨_,underlying23,rfl⟩⟩
instance:TInfo prog 23 (.slice none 0 0) 1 24:=⟨info_parts (by kernel_rfl),rfl⟩
instance:TSlice prog 24 53:=⟨underlying24⟩
instance:TOne prog 24:=⟨⟨_,underlying24,rfl⟩⟩
instance:TAgg prog 26:=⟨⟨_,underlying26,rfl⟩⟩
instance:TInfo prog 26 (.agg #[(.slice none 0 0),(.slice none 0 0),(.slice none 0 0),(.slice none 0 0)]) 4 96:=⟨info_parts (by kernel_rfl),rfl⟩
instance:TPlaces prog 26 [(0,1),(1,1),(2,1),(3,1)]:=⟨⟨_,underlying26,λ _=>by kernel_rfl⟩⟩
instance:TField prog 26 0 0:=⟨T6 (s:=1) underlying26 rfl rfl⟩
instance:TField prog 26 1 1:=⟨T6 (s:=1) underlying26 rfl rfl⟩
instance:TField prog 26 2 2:=⟨T6 (s:=1) underlying26 rfl rfl⟩
instance:TField prog 26 3 3:=⟨T6 (s:=1) underlying26 rfl rfl⟩
instance:TSlice prog 30 65:=⟨underlying30⟩
instance:TOne prog 30:=⟨⟨_,underlying30,rfl⟩⟩
instance:TInfo prog 30 (.slice none 0 0) 1 24:=⟨info_parts (by kernel_rfl),rfl⟩
instance:TAgg prog 32:=⟨⟨_,underlying32,rfl⟩⟩
instance:TInfo prog 32 (.agg #[(.slice none 0 0),(.slice none 0 0),(.slice none 0 0),(.slice none 0 0)]) 4 96:=⟨info_parts (by kernel_rfl),rfl⟩
instance:TPlaces prog 32 [(0,1),(1,1),(2,1),(3,1)]:=⟨⟨_,underlying32,λ _=>by kernel_rfl⟩⟩
instance:TField prog 32 0 0:=⟨T6 (s:=1) underlying32 rfl rfl⟩
instance:TField prog 32 1 1:=⟨T6 (s:=1) underlying32 rfl rfl⟩
instance:TField prog 32 2 2:=⟨T6 (s:=1) underlying32 rfl rfl⟩
instance:TField prog 32 3 3:=⟨T6 (s:=1) underlying32 rfl rfl⟩
instance:TIface prog 34:=⟨⟨_,underlying34⟩⟩
instance:TInt prog 38 .i64:=⟨underlying38⟩
instance:TAgg prog 40:=⟨⟨_,underlying40,rfl⟩⟩
instance:TInfo prog 40 (.agg #[(.int .i64 0),(.slice none 0 0),(.int .i64 0),(.int .i64 0)]) 4 48:=⟨info_parts (by kernel_rfl),rfl⟩
instance:TPlaces prog 40 [(0,1),(1,1),(2,1),(3,1)]:=⟨⟨_,underlying40,λ _=>by kernel_rfl⟩⟩
instance:TField prog 40 0 0:=⟨T6 (s:=1) underlying40 rfl rfl⟩
instance:TField prog 40 1 1:=⟨T6 (s:=1) underlying40 rfl rfl⟩
instance:TField prog 40 2 2:=⟨T6 (s:=1) underlying40 rfl rfl⟩
instance:TAgg prog 49:=⟨⟨_,underlying49,rfl⟩⟩
instance:TInfo prog 49 (.agg #[(.int .i64 0),(.int .i64 0)]) 2 16:=⟨info_parts (by kernel_rfl),rfl⟩
instance:TPlaces prog 49 [(0,1),(1,1)]:=⟨⟨_,underlying49,λ _=>by kernel_rfl⟩⟩
instance:TField prog 49 0 0:=⟨T6 (s:=1) underlying49 rfl rfl⟩
instance:TField prog 49 1 1:=⟨T6 (s:=1) underlying49 rfl rfl⟩
instance:TSlice prog 50 49:=⟨underlying50⟩
instance:TAgg prog 53:=⟨⟨_,underlying53,rfl⟩⟩
instance:TInfo prog 53 (.agg #[(.string (ByteArray.mk #[])),(.int .i64 0),(.slice none 0 0),(.slice none 0 0),(.slice none 0 0),(.slice none 0 0),(.slice none 0 0)]) 7 144:=⟨info_parts (by kernel_rfl),rfl⟩
instance:TPlaces prog 53 [(0,1),(1,1),(2,1),(3,1),(4,1),(5,1),(6,1)]:=⟨⟨_,underlying53,λ _=>by kernel_rfl⟩⟩
instance:TField prog 53 0 0:=⟨T6 (s:=1) underlying53 rfl rfl⟩
instance:TField prog 53 1 1:=⟨T6 (s:=1) underlying53 rfl rfl⟩
instance:TField prog 53 2 2:=⟨T6 (s:=1) underlying53 rfl rfl⟩
instance:TField prog 53 3 3:=⟨T6 (s:=1) underlying53 rfl rfl⟩
instance:TField prog 53 4 4:=⟨T6 (s:=1) underlying53 rfl rfl⟩
instance:TField prog 53 5 5:=⟨T6 (s:=1) underlying53 rfl rfl⟩
instance:TField prog 53 6 6:=⟨T6 (s:=1) underlying53 rfl rfl⟩
instance:TAgg prog 57:=⟨⟨_,underlying57,rfl⟩⟩
instance:TInfo prog 57 (.agg #[(.int .i64 0),(.slice none 0 0),(.slice none 0 0),(.int .i64 0),(.slice none 0 0)]) 5 88:=⟨info_parts (by kernel_rfl),rfl⟩
instance:TPlaces prog 57 [(0,1),(1,1),(2,1),(3,1),(4,1)]:=⟨⟨_,underlying57,λ _=>by kernel_rfl⟩⟩
instance:TField prog 57 0 0:=⟨T6 (s:=1) underlying57 rfl rfl⟩
instance:TField prog 57 1 1:=⟨T6 (s:=1) underlying57 rfl rfl⟩
instance:TField prog 57 2 2:=⟨T6 (s:=1) underlying57 rfl rfl⟩
instance:TField prog 57 3 3:=⟨T6 (s:=1) underlying57 rfl rfl⟩
instance:TField prog 57 4 4:=⟨T6 (s:=1) underlying57 rfl rfl⟩
instance:TAgg prog 61:=⟨⟨_,underlying61,rfl⟩⟩
instance:TInfo prog 61 (.agg #[(.int .i64 0),(.int .i64 0)]) 2 16:=⟨info_parts (by kernel_rfl),rfl⟩
instance:TPlaces prog 61 [(0,1),(1,1)]:=⟨⟨_,underlying61,λ _=>by kernel_rfl⟩⟩
instance:TField prog 61 0 0:=⟨T6 (s:=1) underlying61 rfl rfl⟩
instance:TField prog 61 1 1:=⟨T6 (s:=1) underlying61 rfl rfl⟩
instance:TSlice prog 63 68:=⟨underlying63⟩
instance:TOne prog 63:=⟨⟨_,underlying63,rfl⟩⟩
instance:TInfo prog 63 (.slice none 0 0) 1 24:=⟨info_parts (by kernel_rfl),rfl⟩
instance:TAgg prog 65:=⟨⟨_,underlying65,rfl⟩⟩
instance:TInfo prog 65 (.agg #[(.string (ByteArray.mk #[])),(.int .i64 0),(.slice none 0 0),(.slice none 0 0)]) 4 72:=⟨info_parts (by kernel_rfl),rfl⟩
instance:TPlaces prog 65 [(0,1),(1,1),(2,1),(3,1)]:=⟨⟨_,underlying65,λ _=>by kernel_rfl⟩⟩
instance:TField prog 65 0 0:=⟨T6 (s:=1) underlying65 rfl rfl⟩
instance:TField prog 65 1 1:=⟨T6 (s:=1) underlying65 rfl rfl⟩
instance:TField prog 65 2 2:=⟨T6 (s:=1) underlying65 rfl rfl⟩
instance:TField prog 65 3 3:=⟨T6 (s:=1) underlying65 rfl rfl⟩
instance:TAgg prog 68:=⟨⟨_,underlying68,rfl⟩⟩
instance:TInfo prog 68 (.agg #[(.slice none 0 0),(.int .i64 0),(.int .i64 0)]) 3 40:=⟨info_parts (by kernel_rfl),rfl⟩
instance:TPlaces prog 68 [(0,1),(1,1),(2,1)]:=⟨⟨_,underlying68,λ _=>by kernel_rfl⟩⟩
instance:TField prog 68 0 0:=⟨T6 (s:=1) underlying68 rfl rfl⟩
instance:TField prog 68 1 1:=⟨T6 (s:=1) underlying68 rfl rfl⟩
instance:TField prog 68 2 2:=⟨T6 (s:=1) underlying68 rfl rfl⟩
instance:TSlice prog 76 4:=⟨underlying76⟩
instance:TPtr prog 77 81:=⟨underlying77⟩
instance:TAgg prog 79:=⟨⟨_,underlying79,rfl⟩⟩
instance:TInfo prog 79 (.agg #[(.int .i64 0),(.int .i64 0),(.int .i64 0)]) 3 24:=⟨info_parts (by kernel_rfl),rfl⟩
instance:TPlaces prog 79 [(0,1),(1,1),(2,1)]:=⟨⟨_,underlying79,λ _=>by kernel_rfl⟩⟩
instance:TField prog 79 0 0:=⟨T6 (s:=1) underlying79 rfl rfl⟩
instance:TField prog 79 1 1:=⟨T6 (s:=1) underlying79 rfl rfl⟩
instance:TField prog 79 2 2:=⟨T6 (s:=1) underlying79 rfl rfl⟩
instance:TSlice prog 81 79:=⟨underlying81⟩
instance:TOne prog 81:=⟨⟨_,underlying81,rfl⟩⟩
instance:TInfo prog 81 (.slice none 0 0) 1 24:=⟨info_parts (by kernel_rfl),rfl⟩
instance:TPtr prog 85 150:=⟨underlying85⟩
instance:TOne prog 85:=⟨⟨_,underlying85,rfl⟩⟩
instance:TPtr prog 86 159:=⟨underlying86⟩
instance:TOne prog 86:=⟨⟨_,underlying86,rfl⟩⟩
instance:TInfo prog 88 (.agg #[(.slice none 0 0),(.slice none 0 0),(.slice none 0 0),(.slice none 0 0),(.pointer none),(.pointer none)]) 6 112:=⟨info_parts (by kernel_rfl),rfl⟩
instance:TPlaces prog 88 [(0,4),(4,1),(5,1)]:=⟨⟨_,underlying88,λ _=>by kernel_rfl⟩⟩
instance:TField prog 88 0 0:=⟨T6 (s:=4) underlying88 rfl rfl⟩
instance:TField prog 88 1 4:=⟨T6 (s:=1) underlying88 rfl rfl⟩
instance:TField prog 88 2 5:=⟨T6 (s:=1) underlying88 rfl rfl⟩
instance:TSlice prog 92 95:=⟨underlying92⟩
instance:TAgg prog 95:=⟨⟨_,underlying95,rfl⟩⟩
instance:TInfo prog 95 (.agg #[(.int .i64 0),(.slice none 0 0)]) 2 32:=⟨info_parts (by kernel_rfl),rfl⟩
instance:TPlaces prog 95 [(0,1),(1,1)]:=⟨⟨_,underlying95,λ _=>by kernel_rfl⟩⟩
instance:TField prog 95 0 0:=⟨T6 (s:=1) underlying95 rfl rfl⟩
instance:TField prog 95 1 1:=⟨T6 (s:=1) underlying95 rfl rfl⟩
instance:TAgg prog 103:=⟨⟨_,underlying103,rfl⟩⟩
instance:TInfo prog 103 (.agg #[(.slice none 0 0),(.slice none 0 0)]) 2 48:=⟨info_parts (by kernel_rfl),rfl⟩
instance:TPlaces prog 103 [(0,1),(1,1)]:=⟨⟨_,underlying103,λ _=>by kernel_rfl⟩⟩
instance:TField prog 103 0 0:=⟨T6 (s:=1) underlying103 rfl rfl⟩
instance:TField prog 103 1 1:=⟨T6 (s:=1) underlying103 rfl rfl⟩
instance:TSlice prog 104 103:=⟨underlying104⟩
instance:TInfo prog 112 (.agg #[(.slice none 0 0),(.slice none 0 0),(.slice none 0 0),(.slice none 0 0),(.slice none 0 0),(.int .i64 0),(.slice none 0 0),(.slice none 0 0)]) 8 176:=⟨info_parts (by kernel_rfl),rfl⟩
instance:TPlaces prog 112 [(0,4),(4,1),(5,1),(6,1),(7,1)]:=⟨⟨_,underlying112,λ _=>by kernel_rfl⟩⟩
instance:TField prog 112 0 0:=⟨T6 (s:=4) underlying112 rfl rfl⟩
instance:TField prog 112 1 4:=⟨T6 (s:=1) underlying112 rfl rfl⟩
instance:TField prog 112 2 5:=⟨T6 (s:=1) underlying112 rfl rfl⟩
instance:TField prog 112 3 6:=⟨T6 (s:=1) underlying112 rfl rfl⟩
instance:TField prog 112 4 7:=⟨T6 (s:=1) underlying112 rfl rfl⟩
instance:TSlice prog 115 23:=⟨underlying115⟩
instance:TPtr prog 146 198:=⟨underlying146⟩
instance:TOne prog 146:=⟨⟨_,underlying146,rfl⟩⟩
instance:TSlice prog 147 156:=⟨underlying147⟩
instance:TOne prog 147:=⟨⟨_,underlying147,rfl⟩⟩
instance:TInfo prog 147 (.slice none 0 0) 1 24:=⟨info_parts (by kernel_rfl),rfl⟩
instance:TOne prog 148:=⟨⟨_,underlying148,rfl⟩⟩
instance:TInfo prog 150 (.agg #[(.pointer none),(.slice none 0 0),(.map none)]) 3 40:=⟨info_parts (by kernel_rfl),rfl⟩
instance:TPlaces prog 150 [(0,1),(1,1),(2,1)]:=⟨⟨_,underlying150,λ _=>by kernel_rfl⟩⟩
instance:TField prog 150 0 0:=⟨T6 (s:=1) underlying150 rfl rfl⟩
instance:TField prog 150 1 1:=⟨T6 (s:=1) underlying150 rfl rfl⟩
instance:TField prog 150 2 2:=⟨T6 (s:=1) underlying150 rfl rfl⟩
instance:TSlice prog 152 200:=⟨underlying152⟩
instance:TOne prog 152:=⟨⟨_,underlying152,rfl⟩⟩
instance:TAgg prog 154:=⟨⟨_,underlying154,rfl⟩⟩
instance:TInfo prog 154 (.agg #[(.int .i64 0),(.int .i64 0),(.int .i64 0)]) 3 24:=⟨info_parts (by kernel_rfl),rfl⟩
instance:TPlaces prog 154 [(0,1),(1,1),(2,1)]:=⟨⟨_,underlying154,λ _=>by kernel_rfl⟩⟩
instance:TField prog 154 0 0:=⟨T6 (s:=1) underlying154 rfl rfl⟩
instance:TField prog 154 1 1:=⟨T6 (s:=1) underlying154 rfl rfl⟩
instance:TInfo prog 156 (.agg #[(.slice none 0 0),(.int .i64 0),(.int .i64 0),(.int .i64 0)]) 4 48:=⟨info_parts (by kernel_rfl),rfl⟩
instance:TPlaces prog 156 [(0,1),(1,3)]:=⟨⟨_,underlying156,λ _=>by kernel_rfl⟩⟩
instance:TField prog 156 0 0:=⟨T6 (s:=1) underlying156 rfl rfl⟩
instance:TField prog 156 1 1:=⟨T6 (s:=3) underlying156 rfl rfl⟩
instance:TPtr prog 157 238:=⟨underlying157⟩
instance:TOne prog 157:=⟨⟨_,underlying157,rfl⟩⟩
instance:TInfo prog 157 (.pointer none) 1 8:=⟨info_parts (by kernel_rfl),rfl⟩
instance:TInfo prog 159 (.agg #[(.slice none 0 0),(.slice none 0 0),(.slice none 0 0),(.slice none 0 0),(.pointer none)]) 5 104:=⟨info_parts (by kernel_rfl),rfl⟩
instance:TPlaces prog 159 [(0,4),(4,1)]:=⟨⟨_,underlying159,λ _=>by kernel_rfl⟩⟩
instance:TField prog 159 0 0:=⟨T6 (s:=4) underlying159 rfl rfl⟩
instance:TField prog 159 1 4:=⟨T6 (s:=1) underlying159 rfl rfl⟩
instance:TSlice prog 172 212:=⟨underlying172⟩
instance:TInfo prog 172 (.slice none 0 0) 1 24:=⟨info_parts (by kernel_rfl),rfl⟩
instance:TSlice prog 186 63:=⟨underlying186⟩
instance:TSlice prog 196 202:=⟨underlying196⟩
instance:TOne prog 196:=⟨⟨_,underlying196,rfl⟩⟩
instance:TInfo prog 196 (.slice none 0 0) 1 24:=⟨info_parts (by kernel_rfl),rfl⟩
instance:TInfo prog 198 (.agg #[(.slice none 0 0),(.int .i64 0)]) 2 32:=⟨info_parts (by kernel_rfl),rfl⟩
instance:TPlaces prog 198 [(0,1),(1,1)]:=⟨⟨_,underlying198,λ _=>by kernel_rfl⟩⟩
instance:TField prog 198 0 0:=⟨T6 (s:=1) underlying198 rfl rfl⟩
instance:TField prog 198 1 1:=⟨T6 (s:=1) underlying198 rfl rfl⟩
instance:TInt prog 200 .u64:=⟨underlying200⟩
instance:TOne prog 200:=⟨⟨_,underlying200,rfl⟩⟩
instance:TInfo prog 200 (.int .u64 0) 1 8:=⟨info_parts (by kernel_rfl),rfl⟩
instance:TAgg prog 202:=⟨⟨_,underlying202,rfl⟩⟩
instance:TInfo prog 202 (.agg #[(.int .i64 0),(.int .i64 0),(.int .i64 0),(.int .i64 0)]) 4 32:=⟨info_parts (by kernel_rfl),rfl⟩
instance:TPlaces prog 202 [(0,1),(1,1),(2,1),(3,1)]:=⟨⟨_,underlying202,λ _=>by kernel_rfl⟩⟩
instance:TField prog 202 0 0:=⟨T6 (s:=1) underlying202 rfl rfl⟩
instance:TField prog 202 1 1:=⟨T6 (s:=1) underlying202 rfl rfl⟩
instance:TField prog 202 2 2:=⟨T6 (s:=1) underlying202 rfl rfl⟩
instance:TField prog 202 3 3:=⟨T6 (s:=1) underlying202 rfl rfl⟩
instance:TAgg prog 212:=⟨⟨_,underlying212,rfl⟩⟩
instance:TInfo prog 212 (.agg #[(.int .i64 0),(.bool false)]) 2 16:=⟨info_parts (by kernel_rfl),rfl⟩
instance:TPlaces prog 212 [(0,1),(1,1)]:=⟨⟨_,underlying212,λ _=>by kernel_rfl⟩⟩
instance:TField prog 212 0 0:=⟨T6 (s:=1) underlying212 rfl rfl⟩
instance:TField prog 212 1 1:=⟨T6 (s:=1) underlying212 rfl rfl⟩
instance:TSlice prog 236 157:=⟨underlying236⟩
instance:TOne prog 236:=⟨⟨_,underlying236,rfl⟩⟩
instance:TInfo prog 236 (.slice none 0 0) 1 24:=⟨info_parts (by kernel_rfl),rfl⟩
instance:TInfo prog 238 (.agg #[(.slice none 0 0),(.bool false),(.int .i64 0),(.slice none 0 0),(.pointer none)]) 5 72:=⟨info_parts (by kernel_rfl),rfl⟩
instance:TPlaces prog 238 [(0,1),(1,1),(2,1),(3,1),(4,1)]:=⟨⟨_,underlying238,λ _=>by kernel_rfl⟩⟩
instance:TField prog 238 0 0:=⟨T6 (s:=1) underlying238 rfl rfl⟩
instance:TField prog 238 1 1:=⟨T6 (s:=1) underlying238 rfl rfl⟩
instance:TField prog 238 2 2:=⟨T6 (s:=1) underlying238 rfl rfl⟩
instance:TField prog 238 3 3:=⟨T6 (s:=1) underlying238 rfl rfl⟩
instance:TField prog 238 4 4:=⟨T6 (s:=1) underlying238 rfl rfl⟩
instance:TSlice prog 239 22:=⟨underlying239⟩
instance:Callable prog 4:=.z func4
instance:Callable prog 5:=.z func5
instance:Callable prog 6:=.z func6
instance:Callable prog 7:=.z func7
instance:Callable prog 8:=.z func8
instance:Callable prog 9:=.z func9
instance:Callable prog 10:=.z func10
instance:Callable prog 11:=.z func11
instance:Callable prog 12:=.z func12
instance:Callable prog 13:=.z func13
instance:Callable prog 14:=.z func14
instance:Callable prog 15:=.z func15
instance:Callable prog 16:=.z func16
instance:Callable prog 17:=.z func17
instance:Callable prog 18:=.z func18
instance:Callable prog 19:=.z func19
instance:Callable prog 20:=.z func20
instance:Callable prog 21:=.z func21
instance:Callable prog 22:=.z func22
instance:Callable prog 23:=.z func23
instance:Callable prog 24:=.z func24
instance:Callable prog 25:=.z func25
instance:Callable prog 26:=.z func26
instance:Callable prog 27:=.z func27
instance:Callable prog 28:=.z func28
instance:Callable prog 29:=.z func29
instance:Callable prog 30:=.z func30
instance:Callable prog 31:=.z func31
instance:Callable prog 32:=.z func32
instance:Callable prog 33:=.z func33
instance:Callable prog 34:=.z func34
instance:Callable prog 35:=.z func35
instance:Callable prog 36:=.z func36
instance:Callable prog 37:=.z func37
instance:Callable prog 38:=.z func38
instance:Callable prog 39:=.z func39
instance:Callable prog 40:=.z func40
instance:Callable prog 41:=.z func41
instance:Callable prog 42:=.z func42
instance:Callable prog 43:=.z func43
instance:Callable prog 44:=.z func44
instance:Callable prog 45:=.z func45
instance:Callable prog 46:=.z func46
instance:Callable prog 47:=.z func47
instance:Callable prog 48:=.z func48
instance:Callable prog 49:=.z func49
instance:Callable prog 50:=.z func50
instance:Callable prog 51:=.z func51
instance:Callable prog 52:=.z func52
instance:Callable prog 53:=.z func53
instance:Callable prog 54:=.z func54
instance:Callable prog 55:=.z func55
instance:Callable prog 56:=.z func56
instance:Callable prog 57:=.z func57
instance:Callable prog 58:=.z func58
instance:Callable prog 59:=.z func59
instance:Callable prog 60:=.z func60
instance:Callable prog 61:=.z func61
instance:Callable prog 62:=.z func62
instance:Callable prog 63:=.z func63
instance:Callable prog 64:=.z func64
instance:Callable prog 65:=.z func65
instance:Callable prog 67:=.z func67
instance:Callable prog 68:=.z func68
instance:Callable prog 69:=.z func69
instance:Callable prog 70:=.z func70
instance:Callable prog 71:=.z func71
instance:Callable prog 72:=.z func72
instance:Callable prog 73:=.z func73
instance:Callable prog 74:=.z func74
instance:Callable prog 75:=.z func75
instance:Callable prog 76:=.z func76
instance:Callable prog 77:=.z func77
instance:Callable prog 78:=.z func78
instance:Callable prog 79:=.z func79
instance:Callable prog 80:=.z func80
instance:Callable prog 81:=.z func81
instance:Callable prog 82:=.z func82
instance:Callable prog 83:=.z func83
instance:Callable prog 84:=.z func84
instance:Callable prog 85:=.z func85
instance:Callable prog 86:=.z func86
instance:Callable prog 87:=.z func87
instance:Callable prog 88:=.z func88
instance:Callable prog 89:=.z func89
instance:Callable prog 90:=.z func90
instance:Callable prog 92:=.z func92
instance:Callable prog 93:=.z func93
instance:Callable prog 94:=.z func94
instance:Callable prog 95:=.z func95
instance:Callable prog 96:=.z func96
instance:Callable prog 97:=.z func97
instance:Callable prog 98:=.z func98
instance:Callable prog 99:=.z func99
instance:Callable prog 103:=.z func103
instance:Callable prog 104:=.z func104
instance:Callable prog 105:=.z func105
instance:Callable prog 106:=.z func106
instance:Callable prog 107:=.z func107
instance:Callable prog 108:=.z func108
instance:Callable prog 109:=.z func109
instance:Callable prog 110:=.z func110
instance:Callable prog 111:=.z func111
instance:Callable prog 112:=.z func112
instance:Callable prog 113:=.z func113
instance:Callable prog 114:=.z func114
instance:Callable prog 115:=.z func115
instance:Callable prog 116:=.z func116
instance:Callable prog 117:=.z func117
instance:Callable prog 118:=.z func118
instance:Callable prog 119:=.z func119
instance:Callable prog 120:=.z func120
instance:Callable prog 121:=.z func121
instance:Callable prog 122:=.z func122
instance:Callable prog 123:=.z func123
instance:Callable prog 125:=.z func125
instance:Callable prog 136:=.z func136
instance:Callable prog 137:=.z func137
instance:Callable prog 138:=.z func138
instance:Callable prog 139:=.z func139
instance:Callable prog 140:=.z func140
instance:Callable prog 143:=.z func143
instance:Callable prog 144:=.z func144
instance:Callable prog 151:=.z func151
instance:Callable prog 155:=.z func155
instance:Callable prog 207:=.z func207
instance:Callable prog 208:=.z func208
instance:Callable prog 209:=.z func209
instance:Callable prog 210:=.z func210
instance:Mixed prog:=⟨by kernel_rfl⟩
end
section
open Go Go.RowKit Go.ChangeShapes Go.WideShapes Go.Deep
theorem Afh {cs:List Value} (h:cs.length=2):∃ a b,cs=[a,b]:=by
  match cs,h with
  | [a,b],_=>exact ⟨a,b,rfl⟩
theorem Afl {cs:List Value} (h:cs.length=4):∃ a b c d,cs=[a,b,c,d]:=by
  match cs,h with
  | [a,b,c,d],_=>exact ⟨a,b,c,d,rfl⟩
theorem RZ:prog.cellsOf 3=1:=by kernel_rfl
theorem Abj:prog.cellsOf 9=1:=by kernel_rfl
theorem VT:prog.cellsOf 22=1:=by kernel_rfl
theorem KC:prog.cellsOf 23=1:=by kernel_rfl
theorem VU:prog.cellsOf 61=2:=by kernel_rfl
theorem AcE {k:Type} {enc:TypeId×Value->k} {P:Program} {w:World} {t:TypeId} {b:Array Field} {n:Nat} {cs:List Value} {x:DataW k×List MemPlace} (d:P.underlying t=some (.struct b)) (h:DataW.trod enc P w 0 (λ _=>true) true n t cs=some x) :
    cs.length=P.cellsOf t/\∃ m,∀ (j ty off c:Nat),(b[j]?).map (λ f=>(f.type,f.offset))=some (ty,off)->P.cellsOf ty=c->∃ y,DataW.trod enc P w 0 (λ _=>true) true m ty ((cs.drop off).take c)=some y:=by
  obtain ⟨xs,m,_,_,hl,hx,hf⟩:=DataW.trod_struct d h;refine ⟨hl,m,λ j ty off c hj hc=>?_⟩;obtain ⟨e,h1,h2⟩:=E3.1 hj;injection h2 with g i;subst g;subst i;subst hc;have a:j < xs.length:=(by rw [hx];exact (B3.1 h1).1);exact ⟨xs[j],(hf j e h1).trans (C4 a)⟩
instance:Reads prog 3 Int:=Aei underlying3
instance:Reads prog 22 (List Int):=AcG underlying22 RZ
instance:Reads prog 61 Fct:=⟨λ {d enc w n cs x} h=>by
  obtain ⟨hl,m,hf⟩:=AcE underlying61 h;obtain ⟨v0,v1,rfl⟩:=Afh (hl.trans VU);obtain ⟨b,g0⟩:=hf 0 3 0 1 rfl RZ;replace g0:DataW.trod enc prog w 0 (λ _=>true) true m 3 [v0]=some b:=g0;obtain ⟨c,g1⟩:=hf 1 3 1 1 rfl RZ;replace g1:DataW.trod enc prog w 0 (λ _=>true) true m 3 [v1]=some c:=g1;obtain ⟨z0,e0,q0⟩:=(inferInstance:Reads prog 3 Int).of g0;obtain rfl:v0=.int .i64 z0:=(by simpa using e0);obtain ⟨a,e1,q1⟩:=(inferInstance:Reads prog 3 Int).of g1;obtain rfl:v1=.int .i64 a:=(by simpa using e1);exact ⟨⟨z0,a⟩,rfl,q0,q1⟩⟩
instance:Reads prog 23 (List Fct):=AcG underlying23 VU
theorem Aex {d:Type} {enc:TypeId×Value->d} {P:Program} {w:World} {t:TypeId} {α:Type} [Rp α] [hr:Reads P t α] {v:Value} {e:DataW d} {p:List MemPlace} (b:Rp.isAgg α=true->∃ cs,v=.agg cs) (c:Rp.isAgg α=false->v.cells.toList=[v])
    (h:DataW.Trod enc P w 0 (λ _=>true) true t v e p):∃ a:α,V w v a:=by
  obtain ⟨n,h⟩:=h;obtain ⟨a,ha⟩:=hr.of h;refine ⟨a,?_⟩;unfold V Vb;cases hb:Rp.isAgg α with
  | true =>
    obtain ⟨cs,rfl⟩:=b hb;exact ⟨cs.toList,by simp,ha⟩
  | false =>
    rw [c hb] at ha;exact ha
end
section
open Go Go.RowKit Go.ChangeShapes Go.WideShapes Go.Deep
theorem Aeh {P:Program} {w:World} {t:TypeId} [a:TOne P t] {base:Nat} {v:Value} (b:Value.okWide P w .any base t v):v.cells.toList=[v]:=by
  obtain ⟨k,hk,hm⟩:=a.eq;cases v with
  | agg cs=>cases k<;>first|(simp at hm;done)|(simp only [Value.okWide,hk,Cell.okWide] at b;simp_all [Cell.ok];done)
  | _=>rfl
theorem Aef {P:Program} {w:World} {t:TypeId} [b:TAgg P t] {base:Nat} {v:Value} (a:Value.okWide P w .any base t v):∃ cs,v=.agg cs:=by
  obtain ⟨k,hk,hm⟩:=b.eq;cases k<;>first|(simp at hm;done)|(simp only [Value.okWide,hk] at a;obtain ⟨cs,rfl,_⟩:=a;exact ⟨cs,rfl⟩)
theorem openOne {c:Type} {enc:TypeId×Value->c} {P:Program} {w:World} {t:TypeId} {α:Type} [Rp α] [Reads P t α] [TOne P t] {base:Nat} {v:Value} {d:DataW c} {p:List MemPlace} (hb:Rp.isAgg α=false) (b:Value.okWide P w .any base t v)
    (h:DataW.Trod enc P w 0 (λ _=>true) true t v d p):∃ a:α,V w v a :=
  Aex (fun h => by rw [hb] at h; cases h) (fun _ => Aeh b) h
theorem openAgg {c:Type} {enc:TypeId×Value->c} {P:Program} {w:World} {t:TypeId} {α:Type} [Rp α] [Reads P t α] [TAgg P t] {base:Nat} {v:Value} {d:DataW c} {p:List MemPlace} (hb:Rp.isAgg α=true) (b:Value.okWide P w .any base t v)
    (h:DataW.Trod enc P w 0 (λ _=>true) true t v d p):∃ a:α,V w v a :=
  Aex (fun _ => Aef b) (fun h => by rw [hb] at h; cases h) h
theorem AeW:ownKnob prog.godebug=none:=by kernel_rfl
theorem AeN:Kids prog (· < prog.types.size):=kids_rows (by kernel_rfl) (by kernel_rfl)
theorem AeK:∀ t e,t < prog.types.size->prog.underlying t=some (.slice e)->0 < prog.cellsOf e:=slices_full_of prog (by kernel_rfl)
theorem Adh {o:Type} {enc:TypeId×Value->o} {q W':World} (i:Ext q W') {sp:Nat->Bool}:∀ {f:List TypeId} {vs:List Value} {j:List (DataW o)} {ps:List MemPlace},(∀ t∈f,t < prog.types.size) ->
    DataW.TrodAll enc prog q 0 (λ _=>true) true f vs j ps->(∀ p∈ps,sp p.block=true)->DataW.TrodAll enc prog W' 0 sp true f vs j ps
  | [],_,_,_,_,h,_=>by
    obtain ⟨rfl,rfl,rfl⟩:=trodAll_nil h;exact rfl
  | t :: f,_,_,_,k,h,hs=>by
    obtain ⟨v,vs1,d,ds1,a,b,rfl,rfl,rfl,⟨n,l⟩,h2⟩:=trodAll_cons h;refine ⟨a,b,⟨n,DataW.trod_stays AeN (λ {t e}=>AeK t e) (λ h=>by cases h) (k t J0) l (λ p c=>i.same (DataW.trod_lt n _ _ _ l p c)) (λ p c=>hs p (G0 _ c))⟩,
      Adh i (λ m g=>k m (G1 _ g)) h2 (λ p c=>hs p (F2 _ c)),rfl⟩
set_option maxRecDepth 100000 in
theorem AeL {G:Type} {enc:TypeId×Value->G} {f:FuncId} {c:Func} {s:ChangeSpec} {l:Bool} {H:World} {args:Array Value} {i B:List (DataW G)} {g:List MemPlace}
    (a:s.vars=[]) (o:c.resultTypes=#[4]) (y:∀ t∈c.params.toList,t < prog.types.size) (hW:DataW.Whole enc prog c.params.toList s.vars false H args.toList i B g)
    (hs:∀ p,DataW.TrodAll enc prog H 0 (λ _=>true) true c.params.toList args.toList i p->s.fn G (i ++ [])={ results:=[.lit (.bool true)],args:=i })
    (hc:∀ p,DataW.TrodAll enc prog H 0 (λ _=>true) true c.params.toList args.toList i p->Fn prog f args.toList H λ v w'=>v=.bool true/\Ext H w') :
    Calls prog f args H λ e W'=>∃ v,e=.returned v/\s.post enc prog c false true false l H args v W':=by
  have r:=hW;obtain ⟨p,q,hA,hV,rfl,hfz,hnd⟩:=hW;rw [a] at hV;obtain ⟨rfl,rfl⟩:=trodVars_none hV;have z:=hc p hA H.drawn;rw [Ja] at z;refine z.mono λ e W' ⟨v,w₀,d',he,hw,hv,hE⟩=>?_;subst he;subst hv;refine ⟨_,rfl,?_⟩;have m:Ext H W':=by
    subst hw;exact ⟨hE.os,hE.tape,hE.output,hE.size,hE.block⟩
  clear hE z hw;have n:=hs p hA;have hlt:=r.lt;have u:∀ q∈p ++ [],(λ b=>decide (b < H.heap.size)) q.block=true:=λ q w=>(by simpa using hlt q w);have d:∀ sp:Nat->Bool,(∀ q∈p,sp q.block=true)->DataW.TrodAll enc prog W' 0 sp true c.params.toList args.toList i p:=λ sp h=>Adh m y hA h;have k:∀ (b:Nat) (sp:Nat->Bool) (hd:Bool),DataW.TrodAll enc prog W' b sp hd c.resultTypes.toList ((Value.bool true).resultList c.resultTypes.size) [.lit (.bool true)] []:=λ _ _ _=>by
    rw [o];exact trodAll_mk1 (shut_bool underlying4 _)
  have hk:H.keptBut W' (λ q=>q∈p ++ []/\(q∈([]:List MemPlace)\/q∈p\/q∈([]:List MemPlace))):=Below.frame m _;have A:∀ (j:Nat) (t:TypeId) (I:Value),c.resultTypes[j]?=some t->((Value.bool true).resultList c.resultTypes.size)[j]?=some I->Value.okWide prog W' .any 0 t I:=by
    have C:Value.okWide prog W' .any 0 4 (.bool true):=okWide_bool_mk underlying4 true;have D:(Value.bool true).resultList 1=[Value.bool true]:=(by unfold Value.resultList;rfl);exact ok_one (P:=prog) (W':=W') (f:=c) (v:=.bool true) (t:=4) o D C
  refine ⟨i,[],p ++ [],[],p,[],r,?_,?_,?_,hk,λ _=>⟨A,[.lit (.bool true)] ++ i,[],([] ++ p) ++ [],⟨[] ++ p,[],?_,?_,rfl,?_,?_⟩,?_⟩⟩
  . rw [n];exact k _ _ _
  . rw [n];exact d _ (λ q w=>u q (by simpa using w))
  . rw [n,a];rfl
  . exact trodAll_append (d _ (λ _ _=>rfl)) (k _ _ _)
  . rw [a];rfl
  . intro b off E;have x:MemPlace.cell b off∈p ++ []:=(by simpa using E);rw [m.frozen (p:=⟨b,off,none⟩) (hlt _ x)];exact hfz b off x
  . intro F;cases F
  . intro q w _;simpa using w
end
section
open Go Go.RowKit
abbrev Lab:=Nat->Nat
theorem AY {a b:Nat}  (h:Nat.ble a b=true:=by exact rfl):a<=b:=F0 h
theorem allOne {l:List Value}  (h:l.all (·.oneCell')=true:=by exact rfl):∀ u∈l,u.oneCell'=true:=M0.1 h
structure St (T:Nat->Prop) (w:World) (O:Lab) (w':World) (O':Lab):Prop where
  os:w'.os=w.os
  tape:w'.tape=w.tape
  output:w'.output=w.output
  size:w.heap.size<=w'.heap.size
  same:∀ k,k < w.heap.size->¬ T (O k)->w'.heap[k]?=w.heap[k]?/\O' k=O k
theorem St.refl (T:Nat->Prop) (w:World) (O:Lab):St T w O w O:=⟨rfl,rfl,rfl,R7 _,λ _ _ _=>⟨rfl,rfl⟩⟩
theorem St.comp {T c:Nat->Prop} {w w' a:World} {O O' b:Lab} (h:St T w O w' O') (k:St c w' O' a b) (f:∀ i,c i->T i):St T w O a b :=
  ⟨k.os.trans h.os,k.tape.trans h.tape,k.output.trans h.output,R2 h.size k.size,λ j hj d=>by
    obtain ⟨g,h2⟩:=h.same j hj d;obtain ⟨l,k2⟩:=k.same j (I6 hj h.size) (by rw [h2];exact λ e=>d (f _ e));exact ⟨l.trans g,k2.trans h2⟩⟩
theorem St.an {T c:Nat->Prop} {w w' a:World} {O O' b:Lab} (h:St T w O w' O') (k:St c w' O' a b):St (λ j=>T j\/c j) w O a b :=
  ⟨k.os.trans h.os,k.tape.trans h.tape,k.output.trans h.output,R2 h.size k.size,λ j hj d=>by
    obtain ⟨f,h2⟩:=h.same j hj λ e=>d (.inl e);obtain ⟨g,k2⟩:=k.same j (I6 hj h.size) (by rw [h2];exact λ e=>d (.inr e));exact ⟨g.trans f,k2.trans h2⟩⟩
abbrev nT:Nat->Prop:=λ _=>False
abbrev eT (i:Nat):Nat->Prop:=λ k=>k=i
def Fr (i:Nat) (w:World) (O:Lab):Nat->Prop:=λ k=>k < w.heap.size/\O k=i
theorem Fr.lt {i:Nat} {w:World} {O:Lab}:∀ k,Fr i w O k->k < w.heap.size:=λ _ h=>h.1
def upA (A:Nat->Prop) (w w':World):Nat->Prop:=λ k=>A k\/w.heap.size<=k/\k < w'.heap.size
theorem Su {w:World} {b o:Nat} {cs:List Value} (off n:Nat) (h:cellsAt w b o cs):cellsAt w b (o + off) ((cs.drop off).take n):=If λ j v a=>by
  rw [I7] at a;split at a
  . rw [J1] at a;have:=GL h _ _ a;rwa [Nat.add_assoc]
  . cases a
section
variable {α : Type} [Rp α] {T : Nat → Prop} {i : Nat} {w w' : World} {O O' : Lab} {v : Value} {x : α} {xs : List α} {e : TypeId}
theorem St.fr (a:St T w O w' O') (hi:¬ T i):∀ k,Fr i w O k->Fr i w' O' k:=λ k hk=>by
  have h:=a.same k hk.1 (by rw [hk.2];exact hi);exact ⟨I6 hk.1 a.size,h.2.trans hk.2⟩
theorem St.agree (a:St T w O w' O') (hi:¬ T i):Agree (Fr i w O) w w':=λ k hk=>(a.same k hk.1 (by rw [hk.2];exact hi)).1
theorem Vb.st (h:Vb w (Fr i w O) v x) (a:St T w O w' O') (hi:¬ T i:=by decide):Vb w' (Fr i w' O') v x:=(h.agree (a.agree hi)).mono (a.fr hi)
def Rw (i:Nat) (w:World) (O:Lab) (e:TypeId) (v:Value) (xs:List α):Prop:=Own w 0 (Fr 0 w O) e v xs/\(∀ g,v.ownBlock=some g->O g=i)/\i≠0
theorem Rw.st (h:Rw i w O e v xs) (b:St T w O w' O') (c:¬ T 0:=by decide) (hi:¬ T i:=by decide):Rw i w' O' e v xs:=by
  obtain ⟨d,h2,h3⟩:=h;have hl:∀ g,v.ownBlock=some g->w'.heap[g]?=w.heap[g]?/\O' g=i:=λ g a=>by
    have:=b.same g (d.lt g a).2 (by rw [h2 g a];exact hi);exact ⟨this.1,this.2.trans (h2 g a)⟩
  exact ⟨(d.agree (b.agree c) λ g a=>(hl g a).1).mono (b.fr c) λ g a hk=>h3 ((hl g a).2.symm.trans hk.2),λ g a=>(hl g a).2,h3⟩
theorem Rw.nil (i:Nat) (hi:i≠0):Rw (α:=α) i w O e (.slice none 0 0) []:=⟨Own.nil _ _ _ _,λ g h=>by simp [Value.ownBlock] at h,hi⟩
theorem Own.chunk {base:Nat} {F:Nat->Prop} (h:Own w base F e v xs):∃ A c cells,v=.slice A xs.length c/\xs.length<=c/\c<=9223372036854775807/\Chunks w F cells xs/\(0 < xs.length->∃ b o,A=some ⟨b,o,none⟩/\cellsAt w b o cells):=by
  obtain ⟨cells,a,h2,h3⟩:=h;rcases a.2 with ⟨rfl,hn⟩|⟨g,cap,cur,rfl,hg,hh,hnc,hcm,hcs,hcur⟩
  . have:xs=[]:=B0 hn;subst this;exact ⟨none,0,[],rfl,R7 _,by omega,rfl,λ h=>by simp at h⟩
  . refine ⟨_,cap,cells,rfl,hnc,by simpa [maxLen] using hcm,h2,λ d=>⟨g,0,rfl,If λ j u hu=>?_⟩⟩;have hj:j < xs.length * Rp.size α:=(by rw [<- h2.length];exact (B7.1 hu).1);have:cur[j]?=some u:=by
      rw [<- hcur,I7,if_pos hj] at hu;simpa using hu
    simp [World.cell?,hh,this]
def Rd (w:World) (F:Nat->Prop) (v:Value) (xs:List α):Prop :=
  ∃ A c cells,v=.slice A xs.length c/\xs.length<=c/\c<=9223372036854775807/\Chunks w F cells xs/\(0 < xs.length->∃ b o,A=some ⟨b,o,none⟩/\cellsAt w b o cells)
theorem Rw.rd (h:Rw i w O e v xs):Rd w (Fr 0 w O) v xs:=h.1.chunk
theorem Vb.rd {F:Nat->Prop} (h:Vb w F v xs):Rd w F v xs:=by
  obtain ⟨A,c,cells,h1,h2,h3,h4,h5⟩:=h.slice;exact ⟨A,c,cells,h1,h2,h3,h4,λ a=>by obtain ⟨b,o,h6,_,h7⟩:=h5 a;exact ⟨b,o,h6,h7⟩⟩
theorem Rw.form (h:Rw i w O e v xs):∃ A c,v=.slice A xs.length c:=by
  obtain ⟨A,c,_,h1,_⟩:=h.rd;exact ⟨A,c,h1⟩
theorem Rw.len {A:Option Addr} {m c:Nat} (h:Rw i w O e (.slice A m c) xs):m=xs.length/\m<=c/\c<=9223372036854775807:=by
  obtain ⟨d,c',_,h1,h2,h3,_⟩:=h.rd;injection h1 with f a b;subst a;subst b;exact ⟨rfl,h2,h3⟩
theorem Rw.relen {A:Option Addr} {m c:Nat} (h:Rw i w O e (.slice A m c) xs):Rw i w O e (.slice A xs.length c) xs:=by
  have:=h.len.1;subst this;exact h
theorem Rw.elem {A:Option Addr} {m c:Nat} (h:Rw i w O e (.slice A m c) xs) {k:Nat} {x:α} (d:xs[k]?=some x) :
    ∃ b o cs,A=some ⟨b,o,none⟩/\k < m/\cellsAt w b (o + k * Rp.size α) cs/\Rp.R w (Fr 0 w O) cs x:=by
  obtain ⟨n,c',cells,he,h1,h2,h3,h4⟩:=h.rd;injection he with f g j;subst f;subst g;subst j;have hk:k < xs.length:=(B7.1 d).1;obtain ⟨b,o,h5,h7⟩:=h4 (by omega);obtain ⟨l,cs,post,h8,h9,h10⟩:=h3.get d;rw [h8] at h7;have a:=(GQ.1 (GQ.1 h7).2).1;rw [h9] at a;exact ⟨b,o,cs,h5,hk,a,h10⟩
theorem Rw.elemF {A:Option Addr} {m c:Nat} (h:Rw i w O e (.slice A m c) xs) {k:Nat} {x:α} (f:xs[k]?=some x) :
    ∃ b o cs,A=some ⟨b,o,none⟩/\Fr i w O b/\k < m/\cellsAt w b (o + k * Rp.size α) cs/\Rp.R w (Fr 0 w O) cs x:=by
  obtain ⟨b,o,cs,h1,h2,h3,h4⟩:=h.elem f;refine ⟨b,o,cs,h1,?_,h2,h3,h4⟩;subst h1;obtain ⟨g,cap,cells,sp,hv,_⟩:=h.1.open (by have:=(B7.1 f).1;omega);injection hv with a;injection a with a;injection a with a d;subst d;exact ⟨(h.1.lt b rfl).2,h.2.1 b rfl⟩
theorem Vb.elem' {F:Nat->Prop} {A:Option Addr} {m c:Nat} (h:Vb w F (.slice A m c) xs) {k:Nat} {x:α} (a:xs[k]?=some x) :
    ∃ b o cs,A=some ⟨b,o,none⟩/\k < m/\cellsAt w b (o + k * Rp.size α) cs/\Rp.R w F cs x:=by
  obtain ⟨b,o,cs,h1,_,h3,h4,h5⟩:=h.elem a;exact ⟨b,o,cs,h1,h3,h4,h5⟩
theorem vMo {α:Type} [Rp α] {w:World} {O:Lab} {v:Value} {x:α} (h:Vb w (Fr 0 w O) v x):Vb w (All w) v x:=h.mono Fr.lt
theorem T8 (n:Int) (h:T3 n:=by decide):T3 n:=h
theorem Rw.all (h:Rw i w O e v xs):Vb w (All w) v xs:=h.1.vb.mono λ k hk=>by
  rcases hk with hk|hk
  . exact hk.1
  . exact (h.1.lt k hk).2
def Lc (i:Nat) (w:World) (O:Lab) (g:Nat) (t:TypeId) (cs:List Value):Prop:=Blk w g t cs/\O g=i
theorem Lc.st {g:Nat} {t:TypeId} {cs:List Value} (h:Lc i w O g t cs) (a:St T w O w' O') (hi:¬ T i:=by decide):Lc i w' O' g t cs:=by
  have:=a.same g h.1.lt (by rw [h.2];exact hi);exact ⟨h.1.keep this.1,this.2.trans h.2⟩
structure Bs (w0:World) (A:Nat->Prop) (w:World) (O:Lab):Prop where
  ext:Ext w0 w
  lab:∀ k,k < w0.heap.size->A k/\O k=0\/¬ A k/\O k=1
theorem Bs.st {b:World} {A:Nat->Prop} (h:Bs b A w O) (a:St T w O w' O') (c:¬ T 0:=by decide) (d:¬ T 1:=by decide):Bs b A w' O':=by
  have hk:∀ k,k < b.heap.size->w'.heap[k]?=w.heap[k]?/\O' k=O k:=λ k hk =>
    a.same k (I6 hk h.ext.size) (by rcases h.lab k hk with ⟨_,e⟩|⟨_,e⟩<;>rw [e]<;>assumption)
  exact ⟨⟨a.os.trans h.ext.os,a.tape.trans h.ext.tape,a.output.trans h.ext.output,R2 h.ext.size a.size,λ k hlt=>(hk k hlt).1.trans (h.ext.block k hlt)⟩,
    λ k hlt=>by rw [(hk k hlt).2];exact h.lab k hlt⟩
theorem enter {A:Nat->Prop} (hA:∀ k,A k->k < w.heap.size):∃ O,Bs w A w O/\∀ k,A k->Fr 0 w O k :=
  ⟨λ k=>@ite _ (A k) (Classical.propDecidable _) 0 1,⟨T0 _ _,λ k hk=>by
    by_cases h:A k
    . exact .inl ⟨h,if_pos h⟩
    . exact .inr ⟨h,if_neg h⟩⟩,λ k hk=>⟨hA k hk,if_pos hk⟩⟩
theorem Vb.zs {A:Nat->Prop} (h:Vb w A v x) (hA:∀ k,A k->k < w.heap.size) (a:Bs w A w' O'):Vb w' (Fr 0 w' O') v x :=
  (h.agree λ k hk=>a.ext.block k (hA k hk)).mono λ k hk=>⟨I6 (hA k hk) a.ext.size,by
    rcases a.lab k (hA k hk) with ⟨_,e⟩|⟨e,_⟩
    . exact e
    . exact absurd hk e⟩
theorem Bs.out {a:World} {A:Nat->Prop} (h:Bs a A w O):∀ k,Fr 0 w O k->upA A a w k:=λ k hk=>by
  rcases Q8 k a.heap.size with hlt|hge
  . rcases h.lab k hlt with ⟨b,_⟩|⟨_,e⟩
    . exact .inl b
    . have:=hk.2;omega
  . exact .inr ⟨hge,hk.1⟩
def RowR (a w:World) (F:Nat->Prop) (e:TypeId) (v:Value) (xs:List α):Prop:=∃ G:Nat->Prop,(∀ k,G k->F k/\k < w.heap.size)/\Own w a.heap.size G e v xs
theorem Own.raise {base a:Nat} {F:Nat->Prop} (h:Own w base F e v xs) (hb:∀ g,v.ownBlock=some g->a<=g):Own w a F e v xs:=by
  obtain ⟨cells,b,h2,h3⟩:=h;refine ⟨cells,⟨b.1,?_⟩,h2,h3⟩;rcases b.2 with h|⟨g,cap,cur,rfl,hg,r⟩
  . exact .inl h
  . exact .inr ⟨g,cap,cur,rfl,hb g rfl,r⟩
theorem Rw.out {a:World} {A:Nat->Prop} (h:Rw i w O e v xs) (b:Bs a A w O) (hi:i≠1):RowR a w (upA A a w) e v xs :=
  ⟨Fr 0 w O,λ k hk=>⟨b.out k hk,hk.1⟩,h.1.raise λ g c=>by
    rcases Q8 g a.heap.size with hlt|hge
    . have:=h.2.1 g c;have:=h.2.2;rcases b.lab g hlt with ⟨_,e⟩|⟨_,e⟩<;>omega
    . exact hge⟩
theorem RowR.nil {a:World} {F:Nat->Prop}:RowR (α:=α) a w F e (.slice none 0 0) []:=⟨λ _=>False,λ _ h=>h.elim,Own.nil _ _ _ _⟩
theorem Rw.freeze (h:Rw i w O e v xs):∃ O',St (eT i) w O w O'/\Vb w (Fr 0 w O') v xs:=by
  refine ⟨λ k=>if O k=i then 0 else O k,⟨rfl,rfl,rfl,R7 _,λ k _ hk=>⟨rfl,if_neg hk⟩⟩,h.1.vb.mono λ k hk=>?_⟩;rcases hk with hk|hk
  . exact ⟨hk.1,by simp [hk.2]⟩
  . exact ⟨(h.1.lt k hk).2,if_pos (h.2.1 k hk)⟩
def Vall (w:World) (F:Nat->Prop):List Value->List α->Prop
  | [],[]=>True
  | v :: vs,x :: xs=>Vb w F v x/\Vall w F vs xs
  | _,_=>False
theorem Vall.chunks {F:Nat->Prop}:∀ {vs:List Value} {xs:List α},Vall w F vs xs->vs.length=xs.length/\Chunks w F (vs.flatMap λ v=>v.cells.toList) xs/\∀ v∈vs,v.cells.toList.length=Rp.size α
  | [],[],_=>⟨rfl,rfl,λ _ h=>by cases h⟩
  | [],_ :: _,h=>h.elim
  | _ :: _,[],h=>h.elim
  | v :: vs,x :: xs,h=>by
    obtain ⟨a,h2,h3⟩:=Vall.chunks h.2;refine ⟨by simp [a],⟨v.cells.toList,_,by simp,h.1.cells,h2⟩,λ u hu=>?_⟩;rcases Q1.1 hu with rfl|hu
    . exact Rp.len h.1.cells
    . exact h3 u hu
theorem Vb.int {F:Nat->Prop} {n:Int} (h:Vb w F v n):v=.int .i64 n/\T3 n:=by
  obtain ⟨a,h2⟩:=h;exact ⟨by simpa using a,h2⟩
theorem Vb.bool {F:Nat->Prop} {b:Bool} (h:Vb w F v b):v=.bool b:=by
  have:[v]=[.bool b]:=h;simpa using this
theorem Vb.str {F:Nat->Prop} {s:ByteArray} (h:Vb w F v s):v=.string s/\s.size<=9223372036854775807:=by
  obtain ⟨a,h2⟩:=h;exact ⟨by simpa using a,h2⟩
theorem Vb.ofAgg {F:Nat->Prop} {cs:List Value} (hb:Rp.isAgg α=true) (h:Rp.R w F cs x):Vb w F (.agg cs.toArray) x:=by
  unfold Vb;rw [hb];exact ⟨cs,rfl,h⟩
theorem vInt {F:Nat->Prop} {n:Int} (h:T3 n):Vb w F (.int .i64 n) n:=⟨rfl,h⟩
theorem vBool {F:Nat->Prop} {b:Bool}:Vb w F (.bool b) b:=rfl
theorem vStr {F:Nat->Prop} {s:ByteArray} (h:s.size<=9223372036854775807):Vb w F (.string s) s:=⟨rfl,h⟩
end
def T2 {α c:Type} [Rp α] [Rp c] (w:World) (F:Nat->Prop) (v:Value) (d:α×c):Prop:=∃ a b,v=.tuple #[a,b]/\Vb w F a d.1/\Vb w F b d.2
def upO (O:Lab) (n:Nat) (f:Lab):Lab:=λ k=>if k < n then O k else f k
theorem Own.rw {α:Type} [Rp α] {i base:Nat} {w:World} {F:Nat->Prop} {O:Lab} {e:TypeId} {v:Value} {xs:List α} (h:Own w base F e v xs) (b:∀ k,F k->Fr 0 w O k) (a:∀ g,v.ownBlock=some g->O g=i) (hi:i≠0):Rw i w O e v xs :=
  ⟨(h.lower (S0 _)).mono b λ g c hf=>hi ((a g c).symm.trans hf.2),a,hi⟩
theorem Gk {O:Lab} {n k:Nat} {f:Lab} (h:n<=k):upO O n f k=f k:=if_neg (by omega)
theorem FJ {O:Lab} {n k:Nat} {f:Lab} (h:k < n):upO O n f k=O k:=if_pos h
theorem Aaf {w w':World} {O:Lab} (a:Ext w w'):upA (Fr 0 w O) w w'=Fr 0 w' (upO O w.heap.size λ _=>0):=by
  funext k;apply propext;constructor
  . rintro (h|h)
    . exact ⟨I6 h.1 a.size,(FJ h.1).trans h.2⟩
    . exact ⟨h.2,Gk h.1⟩
  . intro h;rcases Q8 k w.heap.size with hlt|hge
    . exact .inl ⟨hlt,(FJ hlt).symm.trans h.2⟩
    . exact .inr ⟨hge,h.1⟩
theorem Ae8 (z:Value) (n:Nat) (hz:z.cells=#[z]):(madeCells z.cells (n * 1)).toList=List.replicate n z:=by
  rw [hz,S5];apply List.ext_getElem
  . simp [madeCells]
  . intro i a b;simp [madeCells,Nat.mod_one]
theorem Ext.st {w w':World} (h:Ext w w') (O f:Lab):St nT w O w' (upO O w.heap.size f) :=
  ⟨h.os,h.tape,h.output,h.size,λ k hk _=>⟨h.block k hk,FJ hk⟩⟩
theorem New.lc {w w':World} {t:TypeId} {cs:List Value} (h:New w w' t cs) (O:Lab) (i:Nat):St nT w O w' (upO O w.heap.size λ _=>i)/\Lc i w' (upO O w.heap.size λ _=>i) w.heap.size t cs :=
  ⟨h.ext.st O _,h.blk,Gk (R7 _)⟩
theorem Upd.st {w w':World} {g i:Nat} {t:TypeId} {cs:List Value} {O:Lab} (h:Upd w w' g t cs) (a:O g=i):St (eT i) w O w' O :=
  ⟨h.os,h.tape,h.output,Nat.le_of_eq h.size.symm,λ k _ hk=>⟨h.other k λ e=>hk (by rw [e];exact a),rfl⟩⟩
section
variable {P : Program} {n : Nat} {ops : Array Oper} {Q : U3} {rest : List Oper} {l : Env} {w : World} {d d1 d2 : Tmp} {ty ty2 : TypeId} {pos pos2 : String} {aft aft2 : Array Edge}
theorem Bw (i:Nat) (O:Lab) {t:TypeId} {z:Value} {size bytes:Nat} [TInfo P t z size bytes] 
    (h:∀ g w' O',St nT w O w' O'->Lc i w' O' g t z.cells.toList->owp P n ops Q rest ((d,.pointer (some ⟨g,0,none⟩)) :: l) w') (hd:Nat.blt d n=true:=by exact rfl):owp P n ops Q (⟨some d,.alloc t,ty,pos,aft,none⟩ :: rest) l w :=
  GE hd λ w' a=>h _ w' _ (a.lc O i).1 (a.lc O i).2
theorem Fi (i:Nat) (O:Lab) {t:TypeId} {x:Operand} {v:Value} (b:opv l x=some v) 
    (h:∀ g w' O',St nT w O w' O'->Lc i w' O' g t v.cells.toList->owp P n ops Q rest ((d,.pointer (some ⟨g,0,none⟩)) :: l) w') (hd:Nat.blt d n=true:=by exact rfl):owp P n ops Q (⟨some d,.box t x,ty,pos,aft,none⟩ :: rest) l w :=
  GC b (hd:=hd) λ w' a=>h _ w' _ (a.lc O i).1 (a.lc O i).2
theorem AR {i:Nat} {O:Lab} {t:TypeId} {z:Value} {size bytes:Nat} [TInfo P t z size bytes] {x y:Operand} {g o:Nat} {c:TypeId} {v:Value} {cs:List Value} (a:Lc i w O g c cs) (e:opv l x=some (.pointer (some ⟨g,o,none⟩))) (f:opv l y=some v)
    (b:v.cells.toList.length=size) (hl:o + size<=cs.length) (j:∀ u∈v.cells.toList,u.oneCell'=true)
    (h:∀ w',St (eT i) w O w' O->Lc i w' O g c (U1 cs o v.cells.toList)->owp P n ops Q rest l w'):owp P n ops Q (⟨none,.store t x y,ty,pos,aft,none⟩ :: rest) l w :=
  Dg e f a.1 b hl j λ w' d=>h w' (d.st a.2) ⟨d.blk,a.2⟩
theorem BI {α:Type} [Rp α] (i:Nat)  (O:Lab) {t e:TypeId} [TSlice P t e] {z:Value} {size bytes a:Nat} [TInfo P e z size bytes] {ps:List (Nat×Operand)} {vs:List Value} {xs:List α} (b:size=Rp.size α)  (j:U9 l (ps.map (·.2))=some vs) (c:a=xs.length)
    (k:Vall w (Fr 0 w O) vs xs)   
    (h:∀ g w' O',St nT w O w' O'->Rw i w' O' e (.slice (some ⟨g,0,none⟩) xs.length a) xs->owp P n ops Q rest ((d,.slice (some ⟨g,0,none⟩) xs.length a) :: l) w') (hi:i≠0:=by decide) (hk:Acl 0 ps=true:=by exact rfl) (hz:a * size<=16777216:=by decide) (hm:a<=9223372036854775807:=by decide) (hd:Nat.blt d n=true:=by exact rfl):owp P n ops Q (⟨some d,.buildSlice t a ps.toArray,ty,pos,aft,none⟩ :: rest) l w:=by
  subst b;subst c;obtain ⟨m,h2,h3⟩:=k.chunks;refine GF hk j m h3 (hz:=hz) hd λ w' f=>h _ w' _ (f.ext.st O λ _=>i) ?_;have o:=f.ext.st O λ _=>i;have p:Own w' w.heap.size (Fr 0 w O) e (.slice (some ⟨w.heap.size,0,none⟩) xs.length xs.length) xs:=Own.made f (h2.agree (f.ext.agree Fr.lt)) rfl (λ h=>Q2 _ h.1) hm;exact p.rw (o.fr (λ h=>h)) (λ g q=>by
    have:w.heap.size=g:=(by simpa [Value.ownBlock] using q);subst this;exact Gk (R7 _)) hi
theorem PY {α:Type} [Rp α] (i:Nat)  (O:Lab) {t e:TypeId} [TSlice P t e] {z:Value} {size bytes:Nat} [TInfo P e z size bytes] {x y:Operand} {k q:IntKind} {m:Nat} {a:Int} {z0:α} (b:size=Rp.size α) (r:Rp.size α=1) (hz1:z.cells=#[z]) (s:opv l x=some (.int k a)) (u:opv l y=some (.int q a)) (v:a=(m:Int))
    (hz0:Vb w (Fr 0 w O) z z0) (hm:bytes * m<=281474976710656) (c:m<=9223372036854775807) (hd:Nat.blt d n=true)
    (h:∀ g w' O',St nT w O w' O'->Rw i w' O' e (.slice (some ⟨g,0,none⟩) (List.replicate m z0).length m) (List.replicate m z0)->owp P n ops Q rest ((d,.slice (some ⟨g,0,none⟩) (List.replicate m z0).length m) :: l) w') (hi:i≠0:=by decide):owp P n ops Q (⟨some d,.makeSlice t x y,ty,pos,aft,none⟩ :: rest) l w:=by
  subst b;subst v;refine Pm s u hm c hd λ w' f=>?_;have p:=f.ext.st O λ _=>i;have hc:(madeCells z.cells (m * Rp.size α)).toList=List.replicate m z:=(by rw [r];exact Ae8 z m hz1);rw [hc] at f;have hR:Rp.R w (Fr 0 w O) [z] z0:=by
    have:=hz0.cells;rwa [hz1] at this
  have o:∀ j,Chunks w (Fr 0 w O) (List.replicate j z) (List.replicate j z0):=λ j=>by
    induction j with
    | zero=>rfl
    | succ j A=>exact ⟨[z],List.replicate j z,rfl,hR,A⟩
  have B:Own w' w.heap.size (Fr 0 w O) e (.slice (some ⟨w.heap.size,0,none⟩) m m) (List.replicate m z0):=Own.made f ((o m).agree (f.ext.agree Fr.lt)) (by simp) (λ h=>Q2 _ h.1) c;have:=h _ w' _ p (by
    rw [F3];exact B.rw (p.fr (λ h=>h)) (λ g C=>by
      have:w.heap.size=g:=(by simpa [Value.ownBlock] using C);subst this;exact Gk (R7 _)) hi)
  rwa [F3] at this
theorem Cj {α:Type} [Rp α] {i:Nat} {O:Lab} {t e:TypeId} [TSlice P t e] {z:Value} {size bytes:Nat} [TInfo P e z size bytes] (b:size=Rp.size α) {x y:Operand} {v u:Value} {xs ys:List α} (hR:Rw i w O e v xs) (hu:Rd w (Fr 0 w O) u ys) (o:opv l x=some v) (p:opv l y=some u)
     (hb:(xs.length + ys.length) * bytes<=140737488355328) (j:xs.length + ys.length<=9223372036854775807) 
    (h:∀ A c w' O',St (eT i) w O w' O'->Rw i w' O' e (.slice A (xs ++ ys).length c) (xs ++ ys)->owp P n ops Q rest ((d,.slice A (xs ++ ys).length c) :: l) w') (hz0:0 < size:=by decide) (hd:Nat.blt d n=true:=by exact rfl) :
    owp P n ops Q (⟨some d,.call { callee:=.builtin .append,args:=#[x,y],argTypes:=#[t,t] },ty,pos,aft,none⟩ :: rest) l w:=by
  subst b;obtain ⟨A,c,cells,rfl,h1,h2,h3,h4⟩:=hu;refine Ih o p hR.1 Fr.lt (S0 _) h3 h4 hz0 hb j hd λ B w' m f hat=>?_;have q:St (eT i) w O w' (upO O w.heap.size λ _=>i):=⟨f.os,f.tape,f.output,f.size,λ k hk r=>⟨f.block k hk λ he=>r (hR.2.1 k he.symm),FJ hk⟩⟩;obtain ⟨s,c',_,rfl,_⟩:=m.chunk;refine h s c' w' _ q (m.rw (λ k hk=>⟨I6 hk.1 f.size,(FJ hk.1).trans hk.2⟩) (λ g a=>?_) hR.2.2);rcases hat with hat|hat
  . exact (FJ (hR.1.lt g (hat ▸ a)).2).trans (hR.2.1 g (hat ▸ a))
  . rw [hat] at a;injection a with a;subst a;exact Gk (R7 _)
theorem DQ {α:Type} [Rp α] {i:Nat} {O:Lab} {t e:TypeId} [TSlice P t e] {z:Value} {size bytes:Nat} [TInfo P e z size bytes] (f:size=Rp.size α) {x y:Operand} {v u:Value} {xs:List α} {a:α} (hR:Rw i w O e v xs) (hu:Vb w (Fr 0 w O) u a)
    (o:∀ g,opv ((d1,.slice (some ⟨g,0,none⟩) 1 1) :: l) x=some v) (p:opv l y=some u)
      (hb:(xs.length + [a].length) * bytes<=140737488355328) (j:xs.length + [a].length<=9223372036854775807) (hd:Nat.blt d1 n=true/\Nat.blt d2 n=true)
    (h:∀ g A c w' O',St (eT i) w O w' O'->Rw i w' O' e (.slice A (xs ++ [a]).length c) (xs ++ [a])->owp P n ops Q rest ((d2,.slice A (xs ++ [a]).length c) :: (d1,.slice (some ⟨g,0,none⟩) 1 1) :: l) w') (hz0:0 < size:=by decide) (hz1:size<=1000:=by decide) :
    owp P n ops Q (⟨some d1,.buildSlice t 1 #[(0,y)],ty,pos,aft,none⟩ :: ⟨some d2,.call { callee:=.builtin .append,args:=#[x,.tmp d1],argTypes:=#[t,t] },ty2,pos2,aft2,none⟩ :: rest) l w:=by
  subst f;have hi:=hR.2.2;refine BI (i + 1) (hi:=(by omega)) O (ps:=[(0,y)]) (vs:=[u]) (xs:=[a]) rfl (by simp [U9,p]) rfl ⟨hu,trivial⟩ (hz:=(by omega)) (hm:=(by omega)) (hd:=hd.1) λ g F G b q=>?_;have m:=hR.st b (λ h=>h) (λ h=>h);refine Cj rfl m q.rd (o g) (by simp [opv,lk]) (hz0:=hz0) hb j (hd:=hd.2) λ A c r s d B=>h g A c r s ?_ B;refine ⟨d.os.trans b.os,d.tape.trans b.tape,d.output.trans b.output,R2 b.size d.size,λ k hk C=>?_⟩;obtain ⟨D,e2⟩:=b.same k hk (λ h=>h);obtain ⟨E,e4⟩:=d.same k (I6 hk b.size) (by rw [e2];exact C);exact ⟨E.trans D,e4.trans e2⟩
theorem Abk {α:Type} [Rp α] {i:Nat} {O:Lab} {t e:TypeId} {z:Value} {size bytes:Nat} [TInfo P t z size bytes] (f:size=Rp.size α) {x y:Operand} {b o k m c:Nat} {u:Value} {a:α} {xs:List α} (hR:Rw i w O e (.slice (some ⟨b,o,none⟩) m c) xs) (hu:Vb w (Fr 0 w O) u a)
    (q:opv l x=some (.pointer (some ⟨b,o + k * size,none⟩))) (r:opv l y=some u) (hk:k < xs.length)
    (h:∀ w',St (eT i) w O w' O->Rw i w' O e (.slice (some ⟨b,o,none⟩) m c) (xs.set k a)->owp P n ops Q rest l w'):owp P n ops Q (⟨none,.store t x y,ty,pos,aft,none⟩ :: rest) l w:=by
  obtain ⟨C,cap,cells,sp,hv,_⟩:=hR.1.open (by omega);injection hv with d s v;injection d with d;injection d with d j;subst j;refine OU f q r hR.1 hk hu λ w' A g hz=>?_;have p:St (eT i) w O w' O:=⟨g.os,g.tape,g.output,g.size,λ k hk B=>⟨g.block k hk λ he=>B (hR.2.1 k he),rfl⟩⟩;exact h w' p (A.rw (p.fr (λ h=>hR.2.2 h.symm)) hR.2.1 hR.2.2)
theorem GG {α:Type} [Rp α] {i:Nat} {O:Lab} {t e:TypeId} {z:Value} {size bytes:Nat} [TInfo P t z size bytes] (d:size=Rp.size α) {x y:Operand} {b o k m c:Nat} {A:Option Addr} {u:Value} {a:α} {xs:List α} (hR:Rw i w O e (.slice A m c) xs) (hu:Vb w (Fr 0 w O) u a) (hA:A=some ⟨b,o,none⟩)
    (f:opv l x=some (.pointer (some ⟨b,o + k * size,none⟩))) (g:opv l y=some u) (hk:k < xs.length)
    (h:∀ w',St (eT i) w O w' O->Rw i w' O e (.slice A m c) (xs.set k a)->owp P n ops Q rest l w'):owp P n ops Q (⟨none,.store t x y,ty,pos,aft,none⟩ :: rest) l w:=by
  subst hA;exact Abk d hR hu f g hk h
theorem Nc:∀ (vs c a:List Value) (k:Nat),U1 (c ++ a) (c.length + k) vs=c ++ U1 a k vs
  | [],_,_,_=>rfl
  | v :: vs,c,a,k=>by
    simp only [U1];rw [F1 _ _ (by omega),show c.length + k - c.length=k from by omega,show c.length + k + 1=c.length + (k + 1) from by omega,Nc vs]
theorem VV {α:Type} [Rp α] {i:Nat} {O:Lab} {t e:TypeId} {z:Value} {size bytes:Nat} [TInfo P t z size bytes] {x y:Operand} {b o k off m c:Nat} {A:Option Addr} {u:Value} {a a':α} {xs:List α} (hR:Rw i w O e (.slice A m c) xs) (hA:A=some ⟨b,o,none⟩) (hk:xs[k]?=some a)
    (L:opv l x=some (.pointer (some ⟨b,o + k * Rp.size α + off,none⟩))) (M:opv l y=some u) (p:u.cells.toList.length=size) (H:off + size<=Rp.size α) (N:∀ v∈u.cells.toList,v.oneCell'=true)
    (g:∀ I,Rp.R w (Fr 0 w O) I a->Rp.R w (Fr 0 w O) (U1 I off u.cells.toList) a')
    (h:∀ w',St (eT i) w O w' O->Rw i w' O e (.slice A m c) (xs.set k a')->owp P n ops Q rest l w'):owp P n ops Q (⟨none,.store t x y,ty,pos,aft,none⟩ :: rest) l w:=by
  subst hA;have q:k < xs.length:=(B7.1 hk).1;obtain ⟨U,cap,cells,sp,hv,hg,hF,hb,hc,hl,r,s,hlen⟩:=hR.1.open (by omega);injection hv with d B C;injection d with d;injection d with d D;subst d;subst B;subst C;subst D;obtain ⟨f,cs,post,e1,e2,J⟩:=hc.get hk;have S:=Rp.len J;have E:U1 (cells ++ sp) (0 + k * Rp.size α + off) u.cells.toList=U1 cells (k * Rp.size α) (U1 cs off u.cells.toList) ++ sp:=by
    have T:U1 (f ++ (cs ++ post)) f.length (U1 cs off u.cells.toList)=f ++ (U1 cs off u.cells.toList ++ post):=Iv _ _ _ _ (by rw [GR]);rw [e1,<- e2,T,R0,J7,J7,Nc,HG _ _ _ _ (by omega)];simp
  refine Dg L M hb p (by rw [I5,e1,I5,I5];omega) N λ w' j=>?_;rw [E] at j;have G:Agree (Fr 0 w O) w w':=j.agree hF;have K:St (eT i) w O w' O:=j.st (hR.2.1 b rfl);refine h w' K (Own.rw (base:=0) (F:=Fr 0 w O) ?_ (K.fr (λ h=>hR.2.2 h.symm)) hR.2.1 hR.2.2);have:=Own.close (w:=w') (cap:=c) hg hF j.blk ((hc.set q (g cs J)).agree G) (by simpa using r) s (by rw [I5,GR,<- I5];exact hlen);rwa [N9] at this
theorem Ix {f:FuncId} [Callable P f] {xs:List Operand} {vs:List Value} {b:Array TypeId} {O:Lab} {R:World->(Nat->Prop)->Value->Prop} (hc:Fn P f vs w λ v w'=>Ext w w'/\R w' (upA (Fr 0 w O) w w') v) (c:U9 l xs=some vs) (hd:Nat.blt d n=true)
    (h:∀ v w' O',St nT w O w' O'->R w' (Fr 0 w' O') v->owp P n ops Q rest ((d,v) :: l) w'):owp P n ops Q (⟨some d,.call { callee:=.value (.func f),args:=xs.toArray,argTypes:=b },ty,pos,aft,none⟩ :: rest) l w :=
  BG c (hd:=hd) hc λ v w' ⟨a,hR⟩=>h v w' (upO O w.heap.size λ _=>0) (a.st O _) (by rwa [Aaf a] at hR)
theorem Ii {α:Type} [Rp α] {c:α} {f:FuncId} [Callable P f] {xs:List Operand} {vs:List Value} {a:Array TypeId} {O:Lab} (hc:Fn P f vs w λ v w'=>Ext w w'/\Vb w' (upA (Fr 0 w O) w w') v c) (b:U9 l xs=some vs) 
    (h:∀ v w' O',St nT w O w' O'->Vb w' (Fr 0 w' O') v c->owp P n ops Q rest ((d,v) :: l) w') (hd:Nat.blt d n=true:=by exact rfl):owp P n ops Q (⟨some d,.call { callee:=.value (.func f),args:=xs.toArray,argTypes:=a },ty,pos,aft,none⟩ :: rest) l w :=
  Ix (R:=λ w' F v=>Vb w' F v c) hc b hd h
theorem Oq {f:FuncId} [Callable P f] {xs:List Operand} {vs:List Value} {a:Array TypeId} {O:Lab} {A:Nat->Prop} {R:World->(Nat->Prop)->Value->Prop} (hc:Fn P f vs w λ v w'=>Ext w w'/\R w' (upA A w w') v) (b:U9 l xs=some vs) (hd:Nat.blt d n=true)
    (h:∀ v w' O',St nT w O w' O'->R w' (upA A w w') v->owp P n ops Q rest ((d,v) :: l) w'):owp P n ops Q (⟨some d,.call { callee:=.value (.func f),args:=xs.toArray,argTypes:=a },ty,pos,aft,none⟩ :: rest) l w :=
  BG b (hd:=hd) hc λ v w' ⟨c,hR⟩=>h v w' (upO O w.heap.size λ _=>0) (c.st O _) hR
theorem Bv {α:Type} [Rp α] {c:α} {f:FuncId} [Callable P f] {xs:List Operand} {vs:List Value} {a:Array TypeId} {O:Lab} (hc:Fn P f vs w λ v w'=>Ext w w'/\Vb w' (upA (All w) w w') v c) (b:U9 l xs=some vs) 
    (h:∀ v w' O',St nT w O w' O'->Vb w' (upA (All w) w w') v c->owp P n ops Q rest ((d,v) :: l) w') (hd:Nat.blt d n=true:=by exact rfl):owp P n ops Q (⟨some d,.call { callee:=.value (.func f),args:=xs.toArray,argTypes:=a },ty,pos,aft,none⟩ :: rest) l w :=
  Oq (A:=All w) (R:=λ w' F v=>Vb w' F v c) hc b hd h
theorem Xi {f:FuncId} [Callable P f] {y:Operand} {xs:List Operand} {vs:List Value} {b:Array TypeId} {O:Lab} {A:Nat->Prop} {R:World->(Nat->Prop)->Value->Prop} (hc:Fn P f vs w λ v w'=>Ext w w'/\R w' (upA A w w') v) (c:opv l y=some (.func (.func f) #[] #[])) (e:U9 l xs=some vs) (hd:Nat.blt d n=true)
    (h:∀ v w' O',St nT w O w' O'->R w' (upA A w w') v->owp P n ops Q rest ((d,v) :: l) w'):owp P n ops Q (⟨some d,.call { callee:=.value y,args:=xs.toArray,argTypes:=b },ty,pos,aft,none⟩ :: rest) l w :=
  Lv (caps:=[]) (R:=λ v w'=>Ext w w'/\R w' (upA A w w') v) c e hd (by rw [N7];exact hc) λ v w' a=>h v w' (upO O w.heap.size λ _=>0) (a.1.st O _) a.2
theorem VW {f:FuncId} [Callable P f] {xs:List Operand} {vs:List Value} {a:Array TypeId} {O:Lab} {i:Nat} {R:World->Lab->Prop} (hc:Fn P f vs w λ _ w'=>∃ O',St (eT i) w O w' O'/\R w' O') (b:U9 l xs=some vs) (hd:Nat.blt d n=true)
    (h:∀ v w' O',St (eT i) w O w' O'->R w' O'->owp P n ops Q rest ((d,v) :: l) w'):owp P n ops Q (⟨some d,.call { callee:=.value (.func f),args:=xs.toArray,argTypes:=a },ty,pos,aft,none⟩ :: rest) l w :=
  BG b (hd:=hd) hc λ v w' ⟨O',hS,hR⟩=>h v w' O' hS hR
theorem GH {α:Type} [Rp α] (i:Nat)  {f:FuncId} [Callable P f] {xs:List Operand} {vs:List Value} {m:Array TypeId} {O:Lab} {e:TypeId} {r:List α} (hc:Fn P f vs w λ v w'=>Ext w w'/\RowR w w' (upA (Fr 0 w O) w w') e v r) (o:U9 l xs=some vs) (hd:Nat.blt d n=true)
    (h:∀ A c w' O',St nT w O w' O'->Rw i w' O' e (.slice A r.length c) r->owp P n ops Q rest ((d,.slice A r.length c) :: l) w') (hi:i≠0:=by decide):owp P n ops Q (⟨some d,.call { callee:=.value (.func f),args:=xs.toArray,argTypes:=m },ty,pos,aft,none⟩ :: rest) l w :=
  BG o (hd:=hd) hc λ v w' ⟨p,G,b,ho⟩=>by
    obtain ⟨A,c,_,rfl,_⟩:=ho.chunk;have q:=p.st O λ k=>if (Value.slice A r.length c).ownBlock=some k then i else 0;refine h A c w' _ q ⟨(ho.lower (S0 _)).mono (λ k hk=>⟨(b k hk).2,?_⟩) (λ g a hf=>?_),λ g a=>?_,hi⟩
    . obtain ⟨_,_,_,hno⟩:=ho;rcases (b k hk).1 with h1|h1
      . exact (FJ h1.1).trans h1.2
      . rw [Gk h1.1,if_neg λ he=>hno k he hk]
    . have h1:=(ho.lt g a).1;have j:=hf.2;rw [Gk h1,if_pos a] at j;exact hi j
    . rw [Gk (ho.lt g a).1,if_pos a]
end
end
section
open Go Go.RowKit
def bnd {α b:Type} (x:Option α) (f:α->Option b):Option b:=match x with
  | some a=>f a
  | none=>none
theorem At {α b:Type} (a:α) (f:α->Option b):bnd (some a) f=f a:=rfl
theorem bs {α b:Type} {x:Option α} {f:α->Option b} {r:b} (h:bnd x f=some r):∃ a,x=some a/\f a=some r:=by
  cases x with
  | none=>cases h
  | some a=>exact ⟨a,rfl,h⟩
theorem iT {α:Type} {x y r:α} (h:(if true=true then x else y)=r):x=r:=h
theorem iF {α:Type} {x y r:α} (h:(if false=true then x else y)=r):y=r:=h
theorem ip {α:Type} {p:Prop} [Decidable p] {x y r:α} (h:(if p then x else y)=r) (a:p):x=r:=by rwa [if_pos a] at h
theorem im {α:Type} {p:Prop} [Decidable p] {x y r:α} (h:(if p then x else y)=r) (a:¬ p):y=r:=by rwa [if_neg a] at h
theorem im' {α:Type} {b:Bool} {x y r:α} (h:(if b=true then x else y)=r) (a:b=false):y=r:=by rwa [a] at h
theorem DJ {α:Type} {p:Prop} [Decidable p] {x y:α} (h:(if p then some x else none)=some y):p/\x=y:=by
  by_cases a:p
  . rw [if_pos a] at h;exact ⟨a,N4 h⟩
  . rw [if_neg a] at h;cases h
theorem sm {α:Type} {x y:α} (h:some x=some y):x=y:=N4 h
instance decI64 (a:Int):Decidable (T3 a):=by unfold T3;exact inferInstance
def T4 (a:Int):Option Int:=if T3 a then some a else none
theorem Ly {a r:Int} (h:T4 a=some r):a=r/\T3 a:=by
  unfold T4 at h;split at h
  . exact ⟨sm h,by assumption⟩
  . cases h
theorem BJ {a r:Int} (h:T4 a=some r):T3 r:=by
  obtain ⟨rfl,h2⟩:=Ly h;exact h2
theorem BN {a:Int} (h:T3 a):T4 a=some a:=if_pos h
def wr (z:Int):Int:=IntKind.i64.wrap z
theorem VX (z:Int):T3 (wr z):=by
  unfold wr;rw [IntKind.wrap_i64];unfold T3;omega
def atI {α:Type} (xs:List α) (i:Int):Option α:=if 0<=i then xs[i.toNat]? else none
theorem Dz {α:Type} {xs:List α} {i:Int} {x:α} (h:atI xs i=some x):i=(i.toNat:Int)/\xs[i.toNat]?=some x:=by
  unfold atI at h;split at h
  . exact ⟨by omega,h⟩
  . cases h
theorem AO {α:Type} {xs:List α} {k:Nat} {x:α} (h:xs[k]?=some x):k < xs.length:=(B7.1 h).1
theorem CY {α:Type} {xs:List α} {j:Nat}:atI xs (j:Int)=xs[j]?:=by unfold atI;rw [if_pos (by omega)];simp
def T5 {α:Type} (bytes:Nat) (xs ys:List α):Option (List α):=if (xs.length + ys.length) * bytes<=140737488355328/\xs.length + ys.length<=9223372036854775807 then some (xs ++ ys) else none
theorem Bz {α:Type} {bytes:Nat} {xs ys r:List α} (h:T5 bytes xs ys=some r):r=xs ++ ys/\(xs.length + ys.length) * bytes<=140737488355328/\xs.length + ys.length<=9223372036854775807:=by
  unfold T5 at h;split at h
  . rename_i hc;exact ⟨(sm h).symm,hc⟩
  . cases h
theorem Bn {α:Type} {bytes:Nat} {xs ys:List α} (h:(xs.length + ys.length) * bytes<=140737488355328) (hb:xs.length + ys.length<=9223372036854775807):T5 bytes xs ys=some (xs ++ ys):=if_pos ⟨h,hb⟩
def mkI {α:Type} (bytes:Nat) (z:α) (n:Int):Option (List α):=if 0<=n/\bytes * n.toNat<=281474976710656/\n<=9223372036854775807 then some (List.replicate n.toNat z) else none
theorem MA {α:Type} {bytes:Nat} {z:α} {n:Int} {r:List α} (h:mkI bytes z n=some r):∃ m:Nat,n=(m:Int)/\bytes * m<=281474976710656/\m<=9223372036854775807/\r=List.replicate m z:=by
  unfold mkI at h;split at h
  . rename_i hc;exact ⟨n.toNat,by omega,hc.2.1,by omega,(sm h).symm⟩
  . cases h
theorem Sv {α:Type} {bytes:Nat} {z:α} {m:Nat} (h:bytes * m<=281474976710656) (a:m<=9223372036854775807):mkI bytes z (m:Int)=some (List.replicate m z):=by unfold mkI;rw [if_pos ⟨by omega,by simpa using h,by omega⟩];simp
def AdX (a b:Int):Option Int:=if 0<=a/\0 < b then some (a % b) else none
theorem VY {a b r:Int} (h:AdX a b=some r):0<=a/\0 < b/\r=a % b:=by
  unfold AdX at h;split at h
  . rename_i hc;exact ⟨hc.1,hc.2,(sm h).symm⟩
  . cases h
theorem Xj {a b:Int} (c:0<=a) (d:0 < b) (e:T3 a):T3 (a % b):=by
  have:=Int.emod_nonneg a (show b≠0 by omega);have f:a % b<=a:=by
    rcases Int.lt_or_le a b with h|h
    . rw [Int.emod_eq_of_lt c h];exact R9 _
    . have:=Int.emod_lt_of_pos a d;omega
  unfold T3 at *;omega
theorem YN {a b r:Int} (h:AdX a b=some r) (c:T3 a):T3 r:=by
  obtain ⟨d,h2,rfl⟩:=VY h;exact Xj d h2 c
def AdY (a b:Int):Option Int:=if 0<=a/\0 < b then some (a / b) else none
theorem VZ {a b r:Int} (h:AdY a b=some r):0<=a/\0 < b/\r=a / b:=by
  unfold AdY at h;split at h
  . rename_i hc;exact ⟨hc.1,hc.2,(sm h).symm⟩
  . cases h
theorem Xk {a b:Int} (c:0<=a) (d:T3 a) (hb:0 < b):T3 (a / b):=by
  have:=M1 b c;have:=O4 c (show 0<=b by omega);unfold T3 at *;omega
theorem YO {a b r:Int} (h:AdY a b=some r) (c:T3 a):T3 r:=by
  obtain ⟨d,h2,rfl⟩:=VZ h;exact Xk d c h2
def Z8 (s:ByteArray) (q:Int):Option Int:=if h:0<=q/\q.toNat < s.size then some ((s[q.toNat]'h.2).toNat:Int) else none
theorem Rf {s:ByteArray} {q c:Int} (h:Z8 s q=some c):∃ j:Nat,q=(j:Int)/\∃ hlt:j < s.size,c=((s[j]'hlt).toNat:Int):=by
  unfold Z8 at h;split at h
  . rename_i hc;exact ⟨q.toNat,by omega,hc.2,(sm h).symm⟩
  . cases h
theorem KS {s:ByteArray} {q c:Int} (h:Z8 s q=some c):T3 c:=by
  obtain ⟨j,_,hlt,rfl⟩:=Rf h;have:=UInt8.toNat_lt (s[j]'hlt);unfold T3;omega
theorem YP {s:ByteArray} {j:Nat} (h:j < s.size):Z8 s (j:Int)=some ((s[j]'h).toNat:Int):=by
  unfold Z8;rw [dif_pos ⟨by omega,by simpa using h⟩];simp
theorem QL {α:Type} {p:Option α} (h:p.isNone=false):∃ a,p=some a:=by
  cases p with
  | none=>cases h
  | some a=>exact ⟨a,rfl⟩
class TBool (P:Program) (t:TypeId):Prop where eq:P.underlying t=some .bool
structure Byt where
  n:Int
  lo:0<=n
  hi:n<=255
theorem Byt.rng (x:Byt):T3 x.n:=by have:=x.lo;have:=x.hi;unfold T3;omega
instance:Rp Byt where
  isAgg:=false
  size:=1
  R _ _ cs x:=cs=[.int .u8 x.n]
  len:=by rintro w F cs x rfl;rfl
  one:=by
    rintro w F cs x rfl u hu;have:u=.int .u8 x.n:=(by simpa using hu);subst this;rfl
  agree:=λ h _=>h
  mono:=λ h _=>h
theorem vByte {w:World} {F:Nat->Prop} {x:Byt}:Vb w F (.int .u8 x.n) x:=rfl
class One1 (α:Type) [Rp α]:Prop where
  ag:Rp.isAgg α=false
  sz:Rp.size α=1
instance:One1 Byt:=⟨rfl,rfl⟩
instance:One1 Int:=⟨rfl,rfl⟩
def Y5 (a:Int):Option Nat:=if 0<=a then some a.toNat else none
theorem NA {a:Int} {n:Nat} (h:Y5 a=some n):a=(n:Int):=by
  unfold Y5 at h;split at h
  . have:=sm h;omega
  . cases h
theorem YQ {n:Nat}:Y5 (n:Int)=some n:=by unfold Y5;rw [if_pos (by omega)];simp
theorem Ot {a:Int} {n:Nat} (h:a=(n:Int)) (b:T3 a):n<=9223372036854775807:=by unfold T3 at b;omega
theorem rngNat' {n:Nat} (h:T3 (n:Int)):n<=9223372036854775807:=by unfold T3 at h;omega
def Adb {α:Type} (xs:List α) (a hi:Int):Option (List α):=if 0<=a/\a<=hi/\hi<=xs.length then some ((xs.take hi.toNat).drop a.toNat) else none
theorem Wa {α:Type} {xs r:List α} {c hi:Int} (h:Adb xs c hi=some r):∃ a b:Nat,c=(a:Int)/\hi=(b:Int)/\a<=b/\b<=xs.length/\r=(xs.take b).drop a:=by
  unfold Adb at h;split at h
  . rename_i hc;exact ⟨c.toNat,hi.toNat,by omega,by omega,by omega,by omega,(sm h).symm⟩
  . cases h
theorem rngNat {n:Nat} (h:n<=9223372036854775807):T3 (n:Int):=by unfold T3;omega
theorem V5 {α:Type} {xs:List α} {k:Nat} {x:α} (h:xs[k]?=some x) (hl:xs.length<=9223372036854775807):T3 (k:Int):=by
  have:=AO h;unfold T3;omega
theorem Ac6 {k n:Nat} (h:k < n) (hl:n<=9223372036854775807):T3 (k:Int):=by unfold T3;omega
theorem rngMin {a b:Int} (h:T3 a) (k:T3 b):T3 (min a b):=by unfold T3 at *;omega
theorem rngMax {a b:Int} (h:T3 a) (k:T3 b):T3 (max a b):=by unfold T3 at *;omega
inductive Ctl (σ ρ:Type) where
  | next (s:σ)
  | brk (s:σ)
  | ret (r:ρ)
inductive Fin (σ ρ:Type) where
  | done (s:σ)
  | ret (r:ρ)
def fin {σ a:Type} (y:Fin σ a) (f:σ->Option a):Option a:=match y with
  | .done s=>f s
  | .ret c=>some c
theorem BE {σ a:Type} {s:σ} {f:σ->Option a} {r:Option a} (h:fin (.done s) f=r):f s=r:=h
theorem CU {σ a:Type} {c:a} {f:σ->Option a} {r:Option a} (h:fin (.ret c) f=r):some c=r:=h
def rng {α σ ρ:Type} (f:Nat→α→σ→Option (Ctl σ ρ)):List α→Nat→σ→Option (Fin σ ρ)
  | [],_,s=>some (.done s)
  | x :: xs,k,s=>match f k x s with
    | none=>none
    | some (.next a)=>rng f xs (k + 1) a
    | some (.brk a)=>some (.done a)
    | some (.ret r)=>some (.ret r)
def rngN {σ ρ:Type} (f:Nat->σ->Option (Ctl σ ρ)) (n:Nat) (s:σ):Option (Fin σ ρ):=rng (λ _ k s=>f k s) (List.range n) 0 s
def itr {σ ρ:Type} (f:σ→Option (Ctl σ ρ)):Nat→σ→Option (Fin σ ρ)
  | 0,_=>none
  | n + 1,s=>match f s with
    | none=>none
    | some (.next a)=>itr f n a
    | some (.brk a)=>some (.done a)
    | some (.ret r)=>some (.ret r)
theorem Pq {σ ρ:Type} (f:σ->Option (Ctl σ ρ)):∀ (n m:Nat) (s:σ) (r:Fin σ ρ),n<=m->itr f n s=some r->itr f m s=some r
  | 0,_,_,_,_,h=>by cases h
  | n + 1,0,_,_,hl,_=>by omega
  | n + 1,m + 1,s,r,hl,h=>by
    simp only [itr] at h ⊢;cases hf:f s with
    | none=>rw [hf] at h;cases h
    | some c =>
      rw [hf] at h;cases c with
      | next a=>exact Pq f n m a r (by omega) h
      | brk a=>exact h
      | ret b=>exact h
noncomputable def lop {σ ρ:Type} (f:σ->Option (Ctl σ ρ)) (s:σ):Option (Fin σ ρ):=itr f (Classical.epsilon λ n=>(itr f n s).isSome=true) s
theorem MB {σ ρ:Type} {f:σ->Option (Ctl σ ρ)} {s:σ} {r:Fin σ ρ}:lop f s=some r↔∃ n,itr f n s=some r:=by
  constructor
  . intro h;exact ⟨_,h⟩
  . rintro ⟨n,hn⟩;have hs:(itr f (Classical.epsilon λ n=>(itr f n s).isSome=true) s).isSome=true:=D7 (p:=λ n=>(itr f n s).isSome=true) ⟨n,by rw [hn];rfl⟩;obtain ⟨a,hr'⟩:=Option.isSome_iff_exists.1 hs;have b:=Pq f _ (n + Classical.epsilon λ n=>(itr f n s).isSome=true) s r (by omega) hn;have c:=Pq f _ (n + Classical.epsilon λ n=>(itr f n s).isSome=true) s a (by omega) hr';unfold lop;rw [hr',<- c,b]
theorem JS {σ ρ:Type} (f:σ→Option (Ctl σ ρ)) (s:σ):lop f s=match f s with
    | none=>none
    | some (.next a)=>lop f a
    | some (.brk a)=>some (.done a)
    | some (.ret r)=>some (.ret r):=by
  apply Option.ext;intro r;rw [MB];cases hf:f s with
  | none =>
    constructor
    . rintro ⟨n,hn⟩;cases n with
      | zero=>cases hn
      | succ n=>simp only [itr,hf] at hn;cases hn
    . intro h;cases h
  | some c =>
    cases c with
    | next a =>
      simp only;rw [MB];constructor
      . rintro ⟨n,hn⟩;cases n with
        | zero=>cases hn
        | succ n=>simp only [itr,hf] at hn;exact ⟨n,hn⟩
      . rintro ⟨n,hn⟩;exact ⟨n + 1,by simp only [itr,hf];exact hn⟩
    | brk a =>
      simp only;constructor
      . rintro ⟨n,hn⟩;cases n with
        | zero=>cases hn
        | succ n=>simp only [itr,hf] at hn;exact hn
      . intro h;exact ⟨1,by simp only [itr,hf];exact h⟩
    | ret b =>
      simp only;constructor
      . rintro ⟨n,hn⟩;cases n with
        | zero=>cases hn
        | succ n=>simp only [itr,hf] at hn;exact hn
      . intro h;exact ⟨1,by simp only [itr,hf];exact h⟩
def Aek (size:Nat) (A:Option Addr) (m c:Nat) (q b:Int) (d:Option Addr) (e f:Nat):Prop:=∃ a hi:Nat,q=(a:Int)/\b=(hi:Int)/\a<=hi/\hi<=m/\m<=c/\Value.slice d e f=.slice (if c=a then A else A.map (·.add (a * size))) (hi - a) (c - a)
section
variable {P : Program} {l : Env} {w : World} {dst : Option Tmp} {ty : TypeId} {pos : String} {aft : Array Edge}
theorem YR {t e:TypeId} [TSlice P t e] {z:Value} {size bytes:Nat} [TInfo P e z size bytes] {x y:Operand} {A a:Option Addr} {m c b d:Nat} {q:Int} {k:IntKind} (f:opv l x=some (.slice A m c)) (g:opv l y=some (.int k q)) (hc:Aek size A m c 0 q a b d):Ev P ⟨dst,.slice t x none (some y) none,ty,pos,aft,none⟩ l w (.slice a b d):=by
  obtain ⟨h,hi,h1,h2,h3,h4,h5,h6⟩:=hc;have:h=0:=(by omega);subst this;rw [h6];exact Kq f g h2 (by omega)
end
def Acy (ops:Array Oper):Array Bool->List (Nat×Bool)->Bool
  | _,[]=>true
  | listed,(i,true) :: r=>(Region.ready .any ops listed).contains i && (Region.free .any ops listed i && Acy ops (listed.setIfInBounds i true) r)
  | _,(_,false) :: _=>false
def Acs:Array Bool->List (Nat×Bool)->Array Bool
  | listed,[]=>listed
  | listed,(i,_) :: r=>Acs (listed.setIfInBounds i true) r
section
variable {P : Program} {m : Nat} {Qo : U3} {l : Env} {w : World}
theorem BF {c:Code} {Q:U3} (b:Env->World->Prop) (h:ewp P m c (thn b Q) l w) (k:∀ a w',b a w'->Q .normal a w'):ewp P m c Q l w :=
  HT (λ e l w q=>by cases e<;>first|exact k _ _ q|exact q) h
def aft {σ ρ X:Type} (a:Fin σ ρ) (b:σ->X->Env) (c:σ->X->World->Prop):Env->World->Prop:=λ d w'=>∃ s x,a=.done s/\T7 d (b s x)/\c s x w'
theorem Ug {α σ ρ X:Type} {t i n inc:Tmp} {b b' r r2:Nat} {ty1 ty2 ty3 y1 y2 y3 y4:TypeId} {p1 p2 p3:String} {a1 a2 a3:Array Edge} {body:Code} {f:Nat→α→σ→Option (Ctl σ ρ)} {xs:List α} {s₀:σ} {d:Fin σ ρ} (N:Nat) (L:rng f xs 0 s₀=some d) (M:N=xs.length) (C:N≤9223372036854775807)
    (E:σ->X->Env) (D:σ->X->Env) (I F:σ->X->World->Prop) (p:X)
    (B:I s₀ p w) (hs:T7 l (rgE i n N 0 (E s₀ p)))
    (hf:∀ s x,lk (E s x) i=none/\lk (E s x) inc=none) (G:∀ s x,T7 ((t,.bool false) :: rgE i n N N (E s x)) (D s x)) (H:∀ s x w,I s x w->F s x w) (O:Nat.blt t m=true/\Nat.blt i m=true/\Nat.blt inc m=true) (J:Nat.beq i n=false/\Nat.beq inc n=false)
    (y:∀ (k:Nat) (a:α) (s:σ) (x:X) (w:World) (c:Ctl σ ρ),xs[k]?=some a->I s x w->f k a s=some c->(∀ K,c=.ret K->d=.ret K)->(∀ g,c=.brk g->d=.done g) ->
      ewp P m body (U7 b' (thn (λ v w'=>∃ g o,c=.next g/\T7 v (rgE i n N k (E g o))/\I g o w') (U7 b (thn (aft d D F) Qo)))) ((t,.bool true) :: rgE i n N k (E s x)) w) :
    ewp P m (.loop (.seq (.region r #[⟨some t,.binOp .lss ty1 (.tmp i) (.tmp n) ty2,y1,p1,a1,none⟩] false) (.seq (.cond (.tmp t) .skip (.exit b)) (.seq (.block b' body)
      (.region r2 #[⟨some inc,.binOp .add ty3 (.tmp i) (.const (.int .i64 1)) y4,y2,p2,a2,none⟩,⟨some i,.move (.tmp inc),y3,p3,a3,none⟩] false))))) (U7 b (thn (aft d D F) Qo)) l w:=by
  subst M;have z:∀ k,(∃ a,xs[k]?=some a/\xs.drop k=a :: xs.drop (k + 1))\/xs.length<=k:=λ k=>by
    rcases Q8 k xs.length with h|h
    . exact .inl ⟨xs[k],C4 h,B9 h⟩
    . exact .inr h
  refine Dn (X:=σ×X) xs.length C (λ u=>E u.1 u.2) (λ k u w'=>I u.1 u.2 w'/\rng f (xs.drop k) k u.1=some d) (s₀,p) ⟨B,by simpa using L⟩ hs (λ u=>hf u.1 u.2) O J ?_ ?_
  . rintro k ⟨s,x⟩ w1 hk ⟨hI,hr⟩;rcases z k with ⟨a,ha,hd⟩|hge
    . dsimp only at hI hr ⊢;rw [hd] at hr;simp only [rng] at hr;cases A:f k a s with
      | none=>rw [A] at hr;cases hr
      | some c =>
        rw [A] at hr;refine HT ?_ (y k a s x w1 c ha hI A (λ K hc=>?_) (λ g hc=>?_))
        . have conv:∀ v w',(∃ g o,c=.next g/\T7 v (rgE i n xs.length k (E g o))/\I g o w')->∃ o:σ×X,T7 v (rgE i n xs.length k (E o.1 o.2))/\I o.1 o.2 w'/\rng f (xs.drop (k + 1)) (k + 1) o.1=some d:=by
            rintro v w' ⟨g,o,rfl,h1,h2⟩;exact ⟨(g,o),h1,h2,hr⟩
          intro e v w' q;cases e with
          | normal=>exact conv v w' q
          | exit j =>
            simp only [U7] at q ⊢;cases hj:Nat.beq j b' with
            | true=>rw [hj] at q;exact conv v w' q
            | false=>rw [hj] at q;exact q
          | panic c=>exact q
          | outgrown=>exact q
          | goto j=>exact q
          | ret=>exact q
        . subst hc;exact (sm hr).symm
        . subst hc;exact (sm hr).symm
    . omega
  . rintro ⟨s,x⟩ w1 ⟨hI,hr⟩;dsimp only at hI hr ⊢;rw [List.drop_length] at hr;exact ⟨s,x,(sm hr).symm,G s x,H s x _ hI⟩
theorem Xl {σ ρ X:Type} {t i n inc:Tmp} {b b' r r2:Nat} {ty1 ty2 ty3 y1 y2 y3 y4:TypeId} {p1 p2 p3:String} {a1 a2 a3:Array Edge} {body:Code} {f:Nat->σ->Option (Ctl σ ρ)} {s₀:σ} {d:Fin σ ρ} (N:Nat) (C:rngN f N s₀=some d) (q:N<=9223372036854775807)
    (E:σ->X->Env) (o:σ->X->Env) (I p:σ->X->World->Prop) (e:X)
    (j:I s₀ e w) (hs:T7 l (rgE i n N 0 (E s₀ e)))
    (hf:∀ s x,lk (E s x) i=none/\lk (E s x) inc=none) (u:∀ s x,T7 ((t,.bool false) :: rgE i n N N (E s x)) (o s x)) (v:∀ s x w,I s x w->p s x w) (D:Nat.blt t m=true/\Nat.blt i m=true/\Nat.blt inc m=true) (y:Nat.beq i n=false/\Nat.beq inc n=false)
    (g:∀ (k:Nat) (s:σ) (x:X) (w:World) (c:Ctl σ ρ),k < N->I s x w->f k s=some c->(∀ A,c=.ret A->d=.ret A)->(∀ h,c=.brk h->d=.done h) ->
      ewp P m body (U7 b' (thn (λ F w'=>∃ h B,c=.next h/\T7 F (rgE i n N k (E h B))/\I h B w') (U7 b (thn (aft d o p) Qo)))) ((t,.bool true) :: rgE i n N k (E s x)) w) :
    ewp P m (.loop (.seq (.region r #[⟨some t,.binOp .lss ty1 (.tmp i) (.tmp n) ty2,y1,p1,a1,none⟩] false) (.seq (.cond (.tmp t) .skip (.exit b)) (.seq (.block b' body)
      (.region r2 #[⟨some inc,.binOp .add ty3 (.tmp i) (.const (.int .i64 1)) y4,y2,p2,a2,none⟩,⟨some i,.move (.tmp inc),y3,p3,a3,none⟩] false))))) (U7 b (thn (aft d o p) Qo)) l w :=
  Ug N C (by simp) q E o I p e j hs hf u v D y λ k a s x w c hk G z H J=>by
    obtain ⟨hlt,rfl⟩:=B7.1 hk;exact g k s x w c (by simpa using hlt) G (by simpa using z) H J
theorem JC {σ ρ X:Type} {c:Code} {f:σ→Option (Ctl σ ρ)} {s₀:σ} {a:Fin σ ρ} {b:Nat} (A:lop f s₀=some a) (E:σ→X→Env) (v:σ→X→Env) (I y:σ→X→World→Prop) (d:X) (r:I s₀ d w) (hs:T7 l (E s₀ d))
    (i:∀ (s:σ) (x:X) (w:World) (q:Ctl σ ρ),I s x w->f s=some q->(∀ u,q=.ret u->a=.ret u)->(∀ g,q=.brk g->a=.done g) ->
      ewp P m c (thn (λ z w'=>∃ g t,q=.next g/\T7 z (E g t)/\I g t w') (U7 b (thn (aft a v y) Qo))) (E s x) w) :
    ewp P m (.loop c) (U7 b (thn (aft a v y) Qo)) l w:=by
  obtain ⟨n,hn⟩:=MB.1 A;refine Pd (X:=σ×X×Nat) (λ h=>E h.1 h.2.1) (λ h w'=>I h.1 h.2.1 w'/\itr f h.2.2 h.1=some a) (λ h=>h.2.2) (s₀,d,n) hs ⟨r,hn⟩ ?_;rintro ⟨s,x,k⟩ w1 ⟨hI,hr⟩;dsimp only at hI hr ⊢;cases k with
  | zero=>cases hr
  | succ k =>
    simp only [itr] at hr;cases o:f s with
    | none=>rw [o] at hr;cases hr
    | some q =>
      rw [o] at hr;refine HT ?_ (i s x w1 q hI o (λ u hc=>?_) (λ g hc=>?_))
      . intro e z w' p;cases e with
        | normal =>
          obtain ⟨g,t,rfl,h1,h2⟩:=p;exact ⟨(g,t,k),h1,⟨h2,hr⟩,M2 k⟩
        | exit j=>exact p
        | panic c=>exact p
        | outgrown=>exact p
        | goto j=>exact p
        | ret=>exact p
      . subst hc;exact (sm hr).symm
      . subst hc;exact (sm hr).symm
def inK (a:Nat):List Nat→Bool
  | []=>false
  | k :: r=>match Nat.beq k a with
    | true=>true
    | false=>inK a r
def kys:List Nat→Env→Bool
  | _,[]=>true
  | ks,(a,_) :: r=>match inK a ks with
    | true=>false
    | false=>kys (a :: ks) r
theorem Vh {c:Nat}:∀ {b:List Nat},inK c b=false->∀ k∈b,Nat.beq k c=false
  | [],_,k,hk=>by simp at hk
  | a :: r,h,k,hk=>by
    unfold inK at h;cases hb:Nat.beq a c with
    | true=>rw [hb] at h;cases h
    | false =>
      rw [hb] at h;rcases Q1.1 hk with rfl|hk
      . exact hb
      . exact Vh h k hk
theorem KT {e:Nat}:∀ {l:Env} {b:List Nat},kys b l=true→e∈b→lk l e=none
  | [],_,_,_=>rfl
  | (a, v) :: r,b,h,hd=>by
    unfold kys at h;cases hb:inK a b with
    | true=>rw [hb] at h;cases h
    | false =>
      rw [hb] at h;have c:Nat.beq a e=false:=by
        have:=Vh hb e hd;cases d:Nat.beq a e with
        | false=>rfl
        | true=>rw [E7 d,Q7] at this;cases this
      show (match Nat.beq a e with|true=>some v|false=>lk r e)=none;rw [c];exact KT h (G1 _ hd)
theorem Wb {c:Nat}:∀ {p l:Env},(∀ q∈p,Nat.beq q.1 c=false)->lk (p ++ l) c=lk l c
  | [],_,_=>rfl
  | (a,v) :: p,l,h=>by
    show (match Nat.beq a c with|true=>some v|false=>lk (p ++ l) c)=lk l c;rw [h (a,v) J0];exact Wb λ q b=>h q (G1 _ b)
theorem QM:∀ {l:Env} {b:List Nat} {p:Env},kys b l=true→(∀ q∈p,q.1∈b)→T7 (p ++ l) l
  | [],_,_,_,_=>trivial
  | (a, v) :: r,b,p,h,hp=>by
    unfold kys at h;cases hb:inK a b with
    | true=>rw [hb] at h;cases h
    | false =>
      rw [hb] at h;refine ⟨?_,?_⟩
      . rw [Wb λ q hq=>Vh hb q.1 (hp q hq)];show (match Nat.beq a a with|true=>some v|false=>lk r a)=some v;rw [Q7]
      . have:=QM (p:=p ++ [(a,v)]) h λ q hq=>by
          rcases N1.1 hq with hq|hq
          . exact G1 _ (hp q hq)
          . have:q=(a,v):=(by simpa using hq);rw [this];exact J0
        rwa [J7] at this
section
variable {σ ρ X : Type} {t i n inc : Tmp} {b b' r r2 : Nat} {ty1 ty2 ty3 y1 y2 y3 y4 : TypeId} {p1 p2 p3 : String} {a1 a2 a3 : Array Edge} {body : Code} {Q : U3}
theorem Dv {α:Type} {f:Nat->α->σ->Option (Ctl σ ρ)} {xs:List α} {s₀:σ} {d:Fin σ ρ} (N:Nat) (A:rng f xs 0 s₀=some d) (B:N=xs.length) (u:N<=9223372036854775807) (E:σ->X->Env) (I:σ->X->World->Prop) (e:X) (o:I s₀ e w) (hs:T7 l (rgE i n N 0 (E s₀ e))) (hk:∀ s x,kys [t,i,n,inc] (E s x)=true)
    (g:∀ (k:Nat) (a:α) (s:σ) (x:X) (w:World) (c:Ctl σ ρ),xs[k]?=some a->I s x w->f k a s=some c->(∀ y,c=.ret y->d=.ret y)->(∀ j,c=.brk j->d=.done j) ->
      ewp P m body (U7 b' (thn (λ q w'=>∃ j z,c=.next j/\T7 q (rgE i n N k (E j z))/\I j z w') (U7 b (thn (aft d E I) Q)))) ((t,.bool true) :: rgE i n N k (E s x)) w)
    (C:∀ q w',aft d E I q w'->Q .normal q w') (D:Nat.blt t m=true/\Nat.blt i m=true/\Nat.blt inc m=true:=by exact ⟨rfl,rfl,rfl⟩) (v:Nat.beq i n=false/\Nat.beq inc n=false:=by exact ⟨rfl,rfl⟩) :
    ewp P m (.block b (.loop (.seq (.region r #[⟨some t,.binOp .lss ty1 (.tmp i) (.tmp n) ty2,y1,p1,a1,none⟩] false) (.seq (.cond (.tmp t) .skip (.exit b)) (.seq (.block b' body)
      (.region r2 #[⟨some inc,.binOp .add ty3 (.tmp i) (.const (.int .i64 1)) y4,y2,p2,a2,none⟩,⟨some i,.move (.tmp inc),y3,p3,a3,none⟩] false)))))) Q l w :=
  BF (aft d E I) (Ci (Ug (Qo:=Q) N A B u E E I I e o hs (λ s x=>⟨KT (hk s x) (by simp),KT (hk s x) (by simp)⟩) (λ s x=>QM (p:=[(t,.bool false),(i,.int .i64 (N:Int)),(n,.int .i64 (N:Int))]) (hk s x) (by simp)) (λ _ _ _ h=>h) D v g)) C
theorem NB {f:Nat->σ->Option (Ctl σ ρ)} {s₀:σ} {a:Fin σ ρ} (N:Nat) (z:rngN f N s₀=some a) (q:N<=9223372036854775807) (E:σ->X->Env) (I:σ->X->World->Prop) (d:X) (j:I s₀ d w) (hs:T7 l (rgE i n N 0 (E s₀ d))) (hk:∀ s x,kys [t,i,n,inc] (E s x)=true)
    (e:∀ (k:Nat) (s:σ) (x:X) (w:World) (c:Ctl σ ρ),k < N->I s x w->f k s=some c->(∀ v,c=.ret v->a=.ret v)->(∀ g,c=.brk g->a=.done g) ->
      ewp P m body (U7 b' (thn (λ o w'=>∃ g y,c=.next g/\T7 o (rgE i n N k (E g y))/\I g y w') (U7 b (thn (aft a E I) Q)))) ((t,.bool true) :: rgE i n N k (E s x)) w)
    (A:∀ o w',aft a E I o w'->Q .normal o w') (B:Nat.blt t m=true/\Nat.blt i m=true/\Nat.blt inc m=true:=by exact ⟨rfl,rfl,rfl⟩) (u:Nat.beq i n=false/\Nat.beq inc n=false:=by exact ⟨rfl,rfl⟩) :
    ewp P m (.block b (.loop (.seq (.region r #[⟨some t,.binOp .lss ty1 (.tmp i) (.tmp n) ty2,y1,p1,a1,none⟩] false) (.seq (.cond (.tmp t) .skip (.exit b)) (.seq (.block b' body)
      (.region r2 #[⟨some inc,.binOp .add ty3 (.tmp i) (.const (.int .i64 1)) y4,y2,p2,a2,none⟩,⟨some i,.move (.tmp inc),y3,p3,a3,none⟩] false)))))) Q l w :=
  BF (aft a E I) (Ci (Xl (Qo:=Q) N z q E E I I d j hs (λ s x=>⟨KT (hk s x) (by simp),KT (hk s x) (by simp)⟩) (λ s x=>QM (p:=[(t,.bool false),(i,.int .i64 (N:Int)),(n,.int .i64 (N:Int))]) (hk s x) (by simp)) (λ _ _ _ h=>h) B u e)) A
end
end
end
section
open Go Go.RowKit
def Bm (w0:World) (O0:Lab) (w:World) (O:Lab):Prop:=St (λ j=>j≠0/\j≠1) w0 O0 w O
section
variable {T : Nat → Prop} {w w' w0 : World} {O O' O0 : Lab}
theorem Bm.st (h:Bm w0 O0 w O) (a:St T w O w' O') (b:¬ T 0:=by decide) (c:¬ T 1:=by decide):Bm w0 O0 w' O' :=
  St.comp h a λ j hj=>⟨λ e=>b (e ▸ hj),λ e=>c (e ▸ hj)⟩
theorem Vb.z {α:Type} [Rp α] {v:Value} {x:α} (h:Vb w0 (Fr 0 w0 O0) v x) (a:Bm w0 O0 w O):Vb w (Fr 0 w O) v x:=Vb.st h a λ h=>h.1 rfl
theorem Bm.refl:Bm w O w O:=St.refl _ _ _
structure Lbl (f:Nat->Nat) (T:Nat->Prop):Prop where
  z:f 0=0
  nz:∀ j,f j=0->j=0
  o:∀ j,¬ T j->f j=0\/f j=1
theorem Lbl.none:Lbl (λ j=>if j=0 then 0 else 1) nT:=⟨rfl,λ j h=>by by_cases hj:j=0<;>simp_all,λ j _=>by by_cases hj:j=0<;>simp_all⟩
theorem Lbl.one {i:Nat} (hi:i≠0):Lbl (λ j=>if j=0 then 0 else if j=i then 2 else 1) (eT i) :=
  ⟨rfl,λ j h=>by by_cases hj:j=0<;>simp_all;split at h<;>simp_all,λ j h=>by by_cases hj:j=0<;>by_cases hk:j=i<;>simp_all⟩
theorem Lbl.fr0 {f:Nat->Nat} (h:Lbl f T):∀ k,Fr 0 w O k->Fr 0 w (λ k=>f (O k)) k:=λ k hk=>⟨hk.1,by show f (O k)=0;rw [hk.2];exact h.z⟩
theorem Bm.leave {f:Nat->Nat} (g:Nat->Nat) (hf:Lbl f T) (d:g 0=0) (h:Bm w (λ k=>f (O k)) w' O') :
    ∃ a,St T w O w' a/\(∀ k,Fr 0 w' O' k->Fr 0 w' a k)/\∀ j,j≠0->j≠1->∀ k,Fr j w' O' k->Fr (g j) w' a k:=by
  classical
  have b:∀ k,k < w.heap.size->¬ T (O k)->w'.heap[k]?=w.heap[k]?/\O' k=f (O k):=λ k hk c =>
    h.same k hk (by rcases hf.o _ c with e|e<;>simp [e])
  refine ⟨λ k=>if k < w.heap.size/\¬ T (O k) then O k else g (O' k),⟨h.os,h.tape,h.output,h.size,λ k hk c=>⟨(b k hk c).1,if_pos ⟨hk,c⟩⟩⟩,λ k hk=>⟨hk.1,?_⟩,λ j l m k hk=>⟨hk.1,?_⟩⟩
  . by_cases hc:k < w.heap.size/\¬ T (O k)
    . show (if _ then _ else _)=_;rw [if_pos hc];exact hf.nz _ ((b k hc.1 hc.2).2.symm.trans hk.2)
    . show (if _ then _ else _)=_;rw [if_neg hc,hk.2,d]
  . by_cases hc:k < w.heap.size/\¬ T (O k)
    . have i:=(b k hc.1 hc.2).2.symm.trans hk.2;rcases hf.o _ hc.2 with e|e<;>rw [e] at i<;>omega
    . show (if _ then _ else _)=_;rw [if_neg hc,hk.2]
theorem Dm {P:Program} {n:Nat} {ops:Array Oper} {Q:U3} {rest:List Oper} {l:Env} {w:World} {d:Tmp} {ty:TypeId} {pos:String} {aft:Array Edge} {f:FuncId} [Callable P f] {xs:List Operand} {vs:List Value} {a:Array TypeId} {O:Lab} {R:Value->World->Lab->Prop}
    (hc:Fn P f vs w λ v w'=>∃ O',St T w O w' O'/\R v w' O') (b:U9 l xs=some vs) 
    (h:∀ v w' O',St T w O w' O'->R v w' O'->owp P n ops Q rest ((d,v) :: l) w') (hd:Nat.blt d n=true:=by exact rfl):owp P n ops Q (⟨some d,.call { callee:=.value (.func f),args:=xs.toArray,argTypes:=a },ty,pos,aft,none⟩ :: rest) l w :=
  BG b (hd:=hd) hc λ v w' ⟨O',hS,hR⟩=>h v w' O' hS hR
end
def Ent (T:Nat->Prop) (O O0:Lab):Prop:=∃ f,Lbl f T/\O0=λ k=>f (O k)
theorem AdZ {w:World} {O:Lab}:∃ O0,Ent nT O O0/\∀ k,Fr 0 w O k->Fr 0 w O0 k:=⟨_,⟨_,Lbl.none,rfl⟩,Lbl.none.fr0⟩
theorem X9 {w:World} {O:Lab} {i:Nat} (hi:i≠0):∃ O0,Ent (eT i) O O0/\(∀ k,Fr 0 w O k->Fr 0 w O0 k)/\∀ k,Fr i w O k->Fr 2 w O0 k :=
  ⟨_,⟨_,Lbl.one hi,rfl⟩,(Lbl.one hi).fr0,λ k hk=>⟨hk.1,by simp [hk.2,hi]⟩⟩
theorem Ent.leave {T:Nat->Prop} {w w':World} {O O0 O':Lab} (h:Ent T O O0) (g:Nat->Nat) (b:g 0=0) (c:Bm w O0 w' O') :
    ∃ a,St T w O w' a/\(∀ k,Fr 0 w' O' k->Fr 0 w' a k)/\∀ j,j≠0->j≠1->∀ k,Fr j w' O' k->Fr (g j) w' a k:=by
  obtain ⟨f,hf,rfl⟩:=h;exact Bm.leave g hf b c
theorem AcQ {P:Program} {l:Env} {w:World} {b:Func} {R:Value->World->Prop} (hr:b.results=#[]) (h:R (.tuple #[]) w):T9 P b R .normal l w:=⟨_,λ n a d c=>by simp [Jk,hr],h⟩
theorem Aer {P:Program} {l:Env} {w:World} {c:Func} {R:Value->World->Prop} {j s q p:ResultVar} {v u x y:Value} (hr:c.results=#[j,s,q,p]) (e:U4 P l w j v) (f:U4 P l w s u) (g:U4 P l w q x) (i:U4 P l w p y) (h:R (.tuple #[v,u,x,y]) w):T9 P c R .ret l w :=
  ⟨_,λ n a d b=>by simp [Jk,hr,e n a d b,f n a d b,g n a d b,i n a d b],h⟩
class Ow (α:Type) where
  R:World->(Nat->Prop)->(Nat->Prop)->Value->α->Prop
  agree:∀ {w w':World} {F M:Nat->Prop} {v:Value} {x:α},R w F M v x->Agree F w w'->Agree M w w'->R w' F M v x
  mono:∀ {w:World} {F M F' M':Nat->Prop} {v:Value} {x:α},R w F M v x->(∀ k,F k->F' k)->(∀ k,M k->M' k)->(∀ k,F' k->¬ M' k)->R w F' M' v x
class OwP (α:Type) [Ow α]:Prop where
  ptr:∀ {w:World} {F M:Nat->Prop} {v:Value} {x:α},Ow.R w F M v x->∃ g,v=.pointer (some ⟨g,0,none⟩)
def Ob {α:Type} [Ow α] (i:Nat) (w:World) (O:Lab) (v:Value) (x:α):Prop:=Ow.R w (Fr 0 w O) (Fr i w O) v x/\i≠0
theorem Afi {i j:Nat} (h:i≠j) {w:World} {O:Lab}:∀ k,Fr i w O k->¬ Fr j w O k:=λ _ a b=>h (a.2.symm.trans b.2)
theorem W6 {j:Nat} (h:j≠0) {w:World} {O:Lab}:∀ k,Fr 0 w O k->¬ Fr j w O k:=Afi (T1 h)
section
variable {α : Type} [Ow α] {T : Nat → Prop} {i : Nat} {w w' : World} {O O' : Lab} {v : Value} {x : α}
theorem Ob.st (h:Ob i w O v x) (a:St T w O w' O') (b:¬ T 0:=by decide) (hi:¬ T i:=by decide):Ob i w' O' v x :=
  ⟨Ow.mono (Ow.agree h.1 (a.agree b) (a.agree hi)) (a.fr b) (a.fr hi) (W6 h.2),h.2⟩
theorem Ob.ptr [OwP α] (h:Ob i w O v x):∃ g,v=.pointer (some ⟨g,0,none⟩):=OwP.ptr h.1
theorem Ob.leave {j:Nat} (h:Ob i w O v x) (a:∀ k,Fr 0 w O k->Fr 0 w O' k) (b:∀ k,Fr i w O k->Fr j w O' k) (hj:j≠0):Ob j w O' v x:=⟨Ow.mono h.1 a b (W6 hj),hj⟩
end
def Obo {α:Type} [Ow α] (i:Nat) (w:World) (O:Lab) (v:Value):Option α->Prop
  | none=>v=.pointer none
  | some x=>Ob i w O v x
theorem Obo.st {α:Type} [Ow α] {T:Nat->Prop} {i:Nat} {w w':World} {O O':Lab} {v:Value} {x:Option α} (h:Obo i w O v x) (a:St T w O w' O') (b:¬ T 0:=by decide) (hi:¬ T i:=by decide):Obo i w' O' v x:=by
  cases x with
  | none=>exact h
  | some x=>exact Ob.st h a b hi
def RwM {α:Type} [Rp α] (w:World) (F M:Nat->Prop) (e:TypeId) (v:Value) (xs:List α):Prop:=Own w 0 F e v xs/\∀ g,v.ownBlock=some g->M g
section
variable {α : Type} [Rp α] {i : Nat} {w w' : World} {O O' : Lab} {v : Value} {xs : List α} {e : TypeId} {F M F' M' : Nat → Prop}
theorem RwM.agree (h:RwM w F M e v xs) (a:Agree F w w') (b:Agree M w w'):RwM w' F M e v xs:=⟨h.1.agree a λ g c=>b g (h.2 g c),h.2⟩
theorem RwM.mono (h:RwM w F M e v xs) (c:∀ k,F k->F' k) (b:∀ k,M k->M' k) (d:∀ k,F' k->¬ M' k):RwM w F' M' e v xs :=
  ⟨h.1.mono c λ g a hf=>d g hf (b g (h.2 g a)),λ g a=>b g (h.2 g a)⟩
theorem RwM.rw (h:RwM w F M e v xs) (c:∀ k,F k->Fr 0 w O k) (b:∀ k,M k->Fr i w O k) (hi:i≠0):Rw i w O e v xs :=
  ⟨h.1.mono c λ g a hf=>W6 hi g hf (b g (h.2 g a)),λ g a=>(b g (h.2 g a)).2,hi⟩
theorem Rw.m (h:Rw i w O e v xs) (c:∀ k,Fr 0 w O k->F k) (b:∀ k,Fr i w O k->M k) (d:∀ k,F k->¬ M k):RwM w F M e v xs :=
  ⟨h.1.mono c λ g a hf=>d g hf (b g ⟨(h.1.lt g a).2,h.2.1 g a⟩),λ g a=>b g ⟨(h.1.lt g a).2,h.2.1 g a⟩⟩
end
theorem Rw.leave {α:Type} [Rp α] {i j:Nat} {w:World} {O O':Lab} {e:TypeId} {v:Value} {xs:List α} (h:Rw i w O e v xs) (a:∀ k,Fr 0 w O k->Fr 0 w O' k) (b:∀ k,Fr i w O k->Fr j w O' k) (hj:j≠0):Rw j w O' e v xs:=(h.m (λ _ h=>h) (λ _ h=>h) (W6 h.2.2)).rw a b hj
theorem Ae9 {α:Type} [Rp α] {i:Nat} {w:World} {O:Lab} {e:TypeId} {A:Option Addr} {m c:Nat} {q:Int} {xs u:List α} (h:Rw i w O e (.slice A m c) xs) (he:Adb xs 0 q=some u):Rw i w O e (.slice A u.length c) u/\Aek (Rp.size α) A m c 0 q A u.length c:=by
  obtain ⟨a,b,ha,rfl,h1,h2,rfl⟩:=Wa he;obtain rfl:a=0:=(by omega);obtain ⟨hm,hc,hc2⟩:=h.len;have hl:((xs.take b).drop 0).length=b:=(by simp;omega);rw [hl];have d:(Value.slice A b c).ownBlock=(Value.slice A m c).ownBlock:=(by cases A<;>rfl);refine ⟨⟨?_,by rw [d];exact h.2.1,h.2.2⟩,0,b,rfl,rfl,S0 _,by omega,hc,?_⟩
  . obtain ⟨cells,l,o2,o3⟩:=h.1;refine ⟨cells.take (b * Rp.size α),⟨by rw [M3,o2.length,hl,P1 (F9 _ h2)],?_⟩,by simpa using o2.take b,by rw [d];exact o3⟩;rcases l.2 with ⟨f,hn⟩|⟨g,cap,cur,f,hg,hh,hnc,hcm,hcs,hcur⟩
    . injection f with j n k;have:b=0:=(by omega);subst this;exact .inl ⟨by rw [j,k],hl⟩
    . injection f with j n k;refine .inr ⟨g,cap,cur,by rw [j,k,hl],hg,hh,by omega,hcm,hcs,?_⟩;rw [hl,<- hcur,List.take_take,P1 (F9 _ h2)]
  . have:(A.map (·.add (0 * Rp.size α)))=A:=by
      cases A with
      | none=>rfl
      | some o=>obtain ⟨p,o',p'⟩:=o;simp [Addr.add]
    split<;>simp_all
def part (O:Lab) (i:Nat) (L:Lab) (ls:List Nat):Lab:=λ k=>if O k=i then ls.getD (L k) (ls.headD 2) else O k
def Z3 (O:Lab) (i:Nat) (ls:List Nat):Lab:=λ k=>if O k∈ls then i else O k
section
variable {i : Nat} {w : World} {O L : Lab} {ls : List Nat}
theorem Md (h:i≠0):St (eT i) w O w (part O i L ls):=⟨rfl,rfl,rfl,R7 _,λ _ _ hk=>⟨rfl,if_neg hk⟩⟩
theorem DS (h:i≠0):∀ k,Fr 0 w O k->Fr 0 w (part O i L ls) k:=λ k hk=>⟨hk.1,by unfold part;rw [if_neg (λ e=>h (e.symm.trans hk.2))];exact hk.2⟩
theorem FK {j q:Nat} (hj:ls[j]?=some q):∀ k,(Fr i w O k/\L k=j)->Fr q w (part O i L ls) k:=λ k hk=>⟨hk.1.1,by unfold part;rw [if_pos hk.1.2,hk.2];simp [hj]⟩
theorem KU (hl:ls≠[]):∀ k,Fr i w O k->∃ q,q∈ls/\Fr q w (part O i L ls) k:=λ k hk=>by
  refine ⟨part O i L ls k,?_,hk.1,rfl⟩;unfold part;rw [if_pos hk.2];cases h:ls[L k]? with
  | some q=>rw [B5,h];exact G2 h
  | none =>
    rw [B5,h];cases ls with
    | nil=>exact absurd rfl hl
    | cons a l=>simp
theorem KV:St (·∈ls) w O w (Z3 O i ls):=⟨rfl,rfl,rfl,R7 _,λ _ _ hk=>⟨rfl,if_neg hk⟩⟩
theorem CI (h:¬ 0∈ls):∀ k,Fr 0 w O k->Fr 0 w (Z3 O i ls) k:=λ k hk=>⟨hk.1,by unfold Z3;rw [if_neg (by rw [hk.2];exact h)];exact hk.2⟩
theorem JT:∀ q,q∈ls->∀ k,Fr q w O k->Fr i w (Z3 O i ls) k:=λ q a k hk=>⟨hk.1,by unfold Z3;rw [if_pos (by rw [hk.2];exact a)]⟩
theorem ES {j q:Nat} (hj:ls.idxOf q=j) (a:q∈ls):∀ k,Fr q w O k->Fr i w (Z3 O i ls) k/\ls.idxOf (O k)=j:=λ k hk=>⟨⟨hk.1,by unfold Z3;rw [if_pos (by rw [hk.2];exact a)]⟩,by rw [hk.2];exact hj⟩
end
theorem Vb.cells1 {α:Type} [Rp α] {w:World} {F:Nat->Prop} {v:Value} {x:α} (h:Vb w F v x) (a:Rp.isAgg α=false:=by rfl):Rp.R w F [v] x:=by
  unfold Vb at h;rw [a] at h;exact h
structure BxR (t e:TypeId) (α:Type) where
  l:List α
instance {t e:TypeId} {α:Type} [Rp α]:Ow (BxR t e α) where
  R w F M v x:=∃ (g:Nat) (L:Lab) (a:Value),v=.pointer (some ⟨g,0,none⟩)/\Blk w g t [a]/\M g/\L g=0/\RwM w F (λ k=>M k/\L k=1) e a x.l
  agree:=by rintro w w' F M v x ⟨g,L,a,rfl,hb,hM,hL,h0⟩ a1 a2;exact ⟨g,L,a,rfl,hb.keep (a2 g hM),hM,hL,h0.agree a1 λ k hk=>a2 k hk.1⟩
  mono:=by rintro w F M F' M' v x ⟨g,L,a,rfl,hb,hM,hL,h0⟩ a1 a2 a3;exact ⟨g,L,a,rfl,hb,a2 g hM,hL,h0.mono a1 (λ k hk=>⟨a2 k hk.1,hk.2⟩) λ k hf hm=>a3 k hf hm.1⟩
theorem BxR.opn {t e:TypeId} {α:Type} [Rp α] {i:Nat} {w:World} {O:Lab} {p:Nat} {x:BxR t e α} (h:Ob i w O (.pointer (some ⟨p,0,none⟩)) x) (l0 b:Nat) (hl:l0≠0/\b≠0):∃ (O':Lab) (c:Value),St (eT i) w O w O'/\(∀ k,Fr i w O k->∃ q,q∈[l0,b]/\Fr q w O' k)/\Lc l0 w O' p t [c]/\Rw b w O' e c x.l:=by
  obtain ⟨⟨g,L,c,a,hb,hM,hL,h0⟩,hi⟩:=h;obtain rfl:p=g:=(by injection a with a;injection a with a;injection a);exact ⟨part O i L [l0,b],c,Md hi,KU (by simp),⟨hb,(FK (j:=0) rfl p ⟨hM,hL⟩).2⟩,h0.rw (DS hi) (FK (j:=1) rfl) hl.2⟩
theorem BxR.shut {t e:TypeId} {α:Type} [Rp α] {w:World} {O:Lab} {p:Nat} {x:BxR t e α} {l0 c:Nat} {f:Value} (hd:¬ 0∈[l0,c]/\[l0,c].idxOf l0=0/\[l0,c].idxOf c=1) (hb:Lc l0 w O p t [f]) (h:Rw c w O e f x.l):∃ O',St (·∈[l0,c]) w O w O'/\(∀ k,Fr 0 w O k->Fr 0 w O' k)/\(∀ q,q∈[l0,c]->∀ k,Fr q w O k->Fr l0 w O' k)/\Ob l0 w O' (.pointer (some ⟨p,0,none⟩)) x:=by
  have d:l0≠0:=λ e=>hd.1 (by simp [e]);have g:=ES (i:=l0) hd.2.1 (by simp) p ⟨hb.1.lt,hb.2⟩;exact ⟨Z3 O l0 [l0,c],KV,CI hd.1,JT,⟨p,λ k=>[l0,c].idxOf (O k),f,rfl,hb.1,g.1,g.2,h.m (CI hd.1) (ES hd.2.2 (by simp)) (λ k a b=>W6 d k a b.1)⟩,d⟩
section
variable {P : Program} {n : Nat} {ops : Array Oper} {Q : U3} {rest : List Oper} {l : Env} {w : World} {d : Tmp} {ty : TypeId} {pos : String} {aft : Array Edge}
theorem MC {f:FuncId} [Callable P f] {y:Operand} {xs:List Operand} {vs caps a:List Value} {c:Array TypeId} {O:Lab} {A:Nat->Prop} {R:World->(Nat->Prop)->Value->Prop} (hc:Fn P f a w λ v w'=>Ext w w'/\R w' (upA A w w') v) (e:opv l y=some (.func (.func f) #[] caps.toArray)) (g:U9 l xs=some vs) (i:vs ++ caps=a) (hd:Nat.blt d n=true)
    (h:∀ v w' O',St nT w O w' O'->R w' (upA A w w') v->owp P n ops Q rest ((d,v) :: l) w'):owp P n ops Q (⟨some d,.call { callee:=.value y,args:=xs.toArray,argTypes:=c },ty,pos,aft,none⟩ :: rest) l w:=by
  subst i;exact Lv (R:=λ v w'=>Ext w w'/\R w' (upA A w w') v) e g hd hc λ v w' b=>h v w' (upO O w.heap.size λ _=>0) (b.1.st O _) b.2
end
def FrS (ls:List Nat) (w:World) (O:Lab):Nat->Prop:=λ k=>k < w.heap.size/\(O k=0\/O k∈ls)
section
variable {α : Type} [Rp α] {T : Nat → Prop} {i l : Nat} {ls ls' lo : List Nat} {w w' : World} {O O' : Lab} {v : Value} {x : α} {xs : List α} {e : TypeId}
theorem St.agreeS (a:St T w O w' O') (b:¬ T 0) (hl:∀ q∈ls,¬ T q):Agree (FrS ls w O) w w':=λ k hk=>(a.same k hk.1 (by rcases hk.2 with e|e;rw [e];exact b;exact hl _ e)).1
theorem Vb.stS (h:Vb w (FrS ls w O) v x) (a:St T w O w' O') (b:¬ T 0:=by decide) (hl:∀ q∈ls,¬ T q:=by decide):Vb w' (FrS ls w' O') v x :=
  (h.agree (a.agreeS b hl)).mono λ k hk=>by
    have:=(a.same k hk.1 (by rcases hk.2 with e|e;rw [e];exact b;exact hl _ e)).2;exact ⟨I6 hk.1 a.size,by rw [this];exact hk.2⟩
theorem Rw.lend (h:Rw l w O e v xs) (ls:List Nat) (hl:l∈ls):Vb w (FrS ls w O) v xs:=h.1.vb.mono λ k hk=>by
  rcases hk with hk|hk
  . exact ⟨hk.1,.inl hk.2⟩
  . exact ⟨(h.1.lt k hk).2,.inr (by rw [h.2.1 k hk];exact hl)⟩
theorem Vb.shutS (h:Vb w (FrS ls w O) v x) (b:St (·∈lo) w O w O') (hz:∀ k,Fr 0 w O k->Fr 0 w O' k) (c:∀ q,q∈lo->∀ k,Fr q w O k->Fr i w O' k) (ls':List Nat) (hl:∀ q∈ls,q∈lo/\i∈ls'\/¬ q∈lo/\q∈ls'):Vb w (FrS ls' w O') v x:=h.mono λ k hk=>by
  refine ⟨hk.1,?_⟩;rcases hk.2 with e|e
  . exact .inl (hz k ⟨hk.1,e⟩).2
  . rcases hl _ e with ⟨a,h2⟩|⟨a,h2⟩
    . right;rw [(c _ a k ⟨hk.1,rfl⟩).2];exact h2
    . right;rw [(b.same k hk.1 a).2];exact h2
theorem Vb.opnS (h:Vb w (FrS ls w O) v x) (b:St (eT i) w O w O') (hi:i≠0) (c:∀ k,Fr i w O k->∃ q,q∈lo/\Fr q w O' k) (ls':List Nat) (hl:(∀ q∈ls,q≠i->q∈ls')/\∀ q∈lo,q∈ls'):Vb w (FrS ls' w O') v x:=h.mono λ k hk=>by
  refine ⟨hk.1,?_⟩;by_cases a:O k=i
  . obtain ⟨q,h1,h2⟩:=c k ⟨hk.1,a⟩;right;rw [h2.2];exact hl.2 q h1
  . rw [(b.same k hk.1 a).2];rcases hk.2 with e|e
    . exact .inl e
    . exact .inr (hl.1 _ e a)
end
end
section
open Go Go.RowKit
def BL:List Nat->List (Nat×Bool)
  | []=>[]
  | i :: r=>(i,true) :: BL r
def DX (a:Nat):Nat->List Nat
  | 0=>[]
  | n + 1=>a :: DX (a + 1) n
def Y7 (P:Program) (ops:Array Oper) (Q:Exit→Act→World→Prop) (S:Array Bool→World→Prop):Nat→Array Bool→Act→World→Prop
  | 0,b,a,w=>Region.ready .any ops b=[]/\Q .normal a w
  | fuel + 1,b,a,w =>
    (Region.ready .any ops b=[]->Q .normal a w) /\
    ∀ i∈Region.ready .any ops b,wpOp P ops Q i (λ a' w'=>(X5 ops i=false->S (b.setIfInBounds i true) w')/\Y7 P ops Q S fuel (b.setIfInBounds i true) a' w') a w
theorem PZ {P:Program} {ops:Array Oper} {Q:Exit->Act->World->Prop} {S:Array Bool->World->Prop}:∀ (fuel:Nat) (b:Array Bool) (a:Act) (w:World),Y7 P ops Q S fuel b a w->wpAny P .any ops Q fuel b a w
  | 0,_,_,_,h=>h
  | fuel + 1,_,_,_,h=>⟨h.1,λ i hi=>wpOp_mono (λ a' w' c=>PZ fuel _ a' w' c.2) (h.2 i hi)⟩
theorem Sw {P:Program} {ops:Array Oper} {Q:Exit→Act→World→Prop} {S:Array Bool→World→Prop} {O:World→Prop} {i:Nat} {s:Oper} {v:Value} (hi:ops[i]?=some s) (p:∀ (j:Nat) (o:Oper) cs b,ops[j]?=some o→o.op≠.select cs b)
    (U:∀ c a w,Q (.panic c) (a.put s.dst v) w->Q (.panic c) a w) (u:∀ d w,S (d.setIfInBounds i true) w->S d w) (g:∀ d w,S d w->S (d.setIfInBounds i true) w)
    (x:∀ d w,Closed ops d->i∈Region.ready .any ops d->S d w->O w) :
    ∀ (fuel:Nat) (d:Array Bool) (a:Act) (w:World),Closed ops d ->
      (∀ j q,ops[j]?=some q->j≠i->d.getD j true=false->(∀ e∈q.after,Region.binds .any e=true->e.on≠i)->s.apart ops q=true) ->
      i∈Region.ready .any ops d->YieldsIf P ops O s v a->S d w ->
      Y7 P ops Q S fuel (d.setIfInBounds i true) (a.put s.dst v) w->Y7 P ops Q S (fuel + 1) d a w:=by
  intro fuel
  induction fuel with
  | zero =>
    intro d a w l _ hr E y X;refine ⟨λ h=>(by rw [h] at hr;cases hr),λ j hj=>?_⟩;by_cases f:j=i
    . subst f;exact E.wpOp hi (x _ _ l hr y) ⟨λ _=>g _ _ y,X⟩
    . have:=ready_mono hj f;rw [X.1] at this;cases this
  | succ fuel V =>
    intro d a w l m hr E y X;refine ⟨λ h=>(by rw [h] at hr;cases hr),λ j hj=>?_⟩;by_cases f:j=i
    . subst f;exact E.wpOp hi (x _ _ l hr y) ⟨λ _=>g _ _ y,X⟩
    . have t:=X.2 j (ready_mono hj f);obtain ⟨r,q,hoj,hall⟩:=mem_ready.1 hj;have z:∀ e∈q.after,Region.binds .any e=true->e.on≠i:=λ e he hb G=>by
        have t:=hall e he hb;have R:=(mem_ready.1 hr).1;rw [G] at t;rcases Q8 i d.size with h'|h'
        . simp [h'] at R t;rw [R] at t;cases t
        . simp [D9 h'] at t
      have H:=m j q hoj f r z;have I:i∈Region.ready .any ops (d.setIfInBounds j true):=ready_mono hr (T1 f);have J:i < ops.size:=by
        rcases Q8 i ops.size with h|h
        . exact h
        . rw [D9 h] at hi;cases hi
      have K:X5 ops j=false:=by
        cases hl:X5 ops j with
        | false=>rfl
        | true =>
          exfalso;have h4:=M0.1 hl i (P9.2 J);rw [N5] at h4;rcases h4 with h4|h4
          . exact f (by simpa using h4:i=j).symm
          . have F:=FN l ops.size j i q hoj hall h4;have T:=(mem_ready.1 hr).1;rcases Q8 i d.size with h'|h'
            . simp [h'] at F T;rw [T] at F;cases F
            . simp [D9 h'] at F
      have n:∀ k A,ops[k]?=some A->k≠i->(d.setIfInBounds j true).getD k true=false ->
          (∀ e∈A.after,Region.binds .any e=true->e.on≠i)->s.apart ops A=true:=λ k A hk L B M=>by
        refine m k A hk L ?_ M;by_cases C:j=k
        . subst C;exact r
        . rw [getD_set_ne true C] at B;exact B
      have W:=wpOp_putIf hoj H (λ cs b=>p i s cs b hi) (λ cs b=>p j q cs b hoj) U E t;refine wpOp_mono (λ a' w' N=>?_) W;have D:S (d.setIfInBounds j true) w':=u _ _ (by
        have:=N.2.1 K;rwa [C5 _ _ (T1 f)] at this)
      refine ⟨λ _=>D,V (d.setIfInBounds j true) a' w' (l.set hj) n I N.1 D ?_⟩;rw [C5 _ _ f];exact N.2.2
theorem LM {P:Program} {ops:Array Oper} {Q:Exit->Act->World->Prop} {S e:Array Bool->World->Prop} (c:Array Bool->Prop) (d:∀ b i,c b->c (b.setIfInBounds i true)) (f:∀ b w,c b->e b w->S b w) :
    ∀ (fuel:Nat) (b:Array Bool) (a:Act) (w:World),c b->Y7 P ops Q e fuel b a w->Y7 P ops Q S fuel b a w
  | 0,_,_,_,_,h=>h
  | fuel + 1,b,_,_,hp,h=>⟨h.1,λ i hi=>wpOp_mono (λ a' w' g=>⟨λ hl=>f _ _ (d _ i hp) (g.1 hl),LM c d f fuel _ a' w' (d _ i hp) g.2⟩) (h.2 i hi)⟩
def tcs (acts:List (Nat×List Nat)) (a:Array Bool):List Nat:=(acts.filter λ p=>a.getD p.1 false).flatMap (·.2)
def tci (ops:Array Oper) (acts:List (Nat×List Nat)) (i:Nat):List Nat:=(acts.filter λ p=>!comesB ops ops.size p.1 i).flatMap (·.2)
def Sx (acts:List (Nat×List Nat)) (w0:World) (O0:Lab) (a:Array Bool) (w:World):Prop:=∃ c b,St (·∈tcs acts a) w0 O0 (dr w c) b
theorem St.mono {T a:Nat->Prop} {w w':World} {O b:Lab} (h:St T w O w' b) (c:∀ i,T i->a i):St a w O w' b :=
  ⟨h.os,h.tape,h.output,h.size,λ k hk hn=>h.same k hk λ e=>hn (c _ e)⟩
theorem St.lst {T:Nat->Prop} {w w':World} {O a:Lab} (h:St T w O w' a) (ls:List Nat) (b:∀ i,T i->i∈ls):St (·∈ls) w O w' a:=h.mono b
theorem lZ {w w':World} {O a:Lab} (h:St nT w O w' a):St (·∈([]:List Nat)) w O w' a:=h.lst [] λ _ h=>h.elim
theorem St.cmp {T:Nat->Prop} {ls:List Nat} {w w' b:World} {O d c:Lab} (h:St (·∈ls) w O w' d) (k:St T w' d b c) (a:List Nat) (e:∀ i,T i->i∈a) (hl:(ls.all (a.contains ·))=true):St (·∈a) w O b c :=
  St.comp (h.mono λ q f=>by simpa using M0.1 hl q f) (k.mono e) λ _ h=>h
theorem Uh {acts:List (Nat×List Nat)} {i:Nat} (hi:(acts.any (·.1 == i))=false) (a:Array Bool):tcs acts (a.setIfInBounds i true)=tcs acts a:=by
  unfold tcs;congr 1;apply J9;intro p c;have:p.1≠i:=λ e=>by
    have b:(acts.any (·.1 == i))=true:=M4.2 ⟨p,c,by simp [e]⟩;rw [hi] at b;cases b
  exact getD_set_ne false (T1 this)
theorem YS {ops:Array Oper} {acts:List (Nat×List Nat)} {i:Nat} {a:Array Bool} (hb:(acts.all λ p=>(ops[p.1]?).isSome)=true) (b:Closed ops a) (hr:i∈Region.ready .any ops a):∀ q,q∈tcs acts a->q∈tci ops acts i:=by
  intro q c;unfold tcs at c;unfold tci;rw [M5] at c ⊢;obtain ⟨p,hp,c⟩:=c;rw [P2] at hp;refine ⟨p,P2.2 ⟨hp.1,?_⟩,c⟩;cases hc:comesB ops ops.size p.1 i with
  | false=>rfl
  | true =>
    exfalso;have f:=hp.2;have hs:=M0.1 hb p hp.1;obtain ⟨o,ho⟩:=Option.isSome_iff_exists.1 hs;have d:=FN b ops.size p.1 i o ho (λ e he g=>b p.1 o f ho e he g) hc;have h:=(mem_ready.1 hr).1;rcases Q8 i a.size with h'|h'
    . simp [h'] at d h;rw [h] at d;cases d
    . simp [D9 h'] at d
def hwx (P:Program) (n:Nat) (ops:Array Oper) (Q:U3) (acts:List (Nat×List Nat)) (w0:World) (O0:Lab) (fuel:Nat) (b:Array Bool) (l:Env) (w:World):Prop :=
  Closed ops b->∀ a c,Ok n a l->Y7 P ops (W5 n Q) (Sx acts w0 O0) fuel b a (dr w c)
def V7 (P:Program) (n:Nat) (ops:Array Oper) (Q:U3) (acts:List (Nat×List Nat)) (w0:World) (O0:Lab) (i:Nat) (fuel:Nat) (a:Array Bool):U3
  | .normal,l,w=>(X5 ops i=false->Sx acts w0 O0 (a.setIfInBounds i true) w)/\hwx P n ops Q acts w0 O0 fuel (a.setIfInBounds i true) l w
  | _,_,_=>False
abbrev SS (w0:World) (O0:Lab) (ls:List Nat):World->Prop:=λ w'=>∃ O',St (·∈ls) w0 O0 w' O'
section
variable {ls : List Nat} {w : World} {O : Lab} {i j b o g : Nat} {t : TypeId} {cs : List Value} {v0 : Value}
theorem Aag (a:Fr i w O b) (hd:cellsAt w b o cs) (hi:¬ i∈ls:=by decide):∀ w',SS w O ls w'->cellsAt w' b o cs:=λ _ ⟨_,hq⟩=>Ej (hq.agree hi) a hd
theorem LN (a:Fr i w O b) (hd:cellsAt w b o (v0 :: cs)) (hi:¬ i∈ls:=by decide):∀ w',SS w O ls w'->w'.cell? ⟨b,o,none⟩=some v0:=λ _ ⟨_,hq⟩=>(Ej (hq.agree hi) a hd).1
theorem Gy (h:Lc j w O g t cs) (hj:¬ j∈ls:=by decide):∀ w',SS w O ls w'->cellsAt w' g 0 cs:=λ _ ⟨_,hq⟩=>((h.st hq hj).1).cellsAt
theorem By (h:Lc j w O g t cs) (i:Nat) (hc:cs[i]?=some v0) (hj:¬ j∈ls:=by decide):∀ w',SS w O ls w'->w'.cell? ⟨g,i,none⟩=some v0:=λ _ ⟨_,hq⟩=>Blk.cell (i:=i) ((h.st hq hj).1) hc
end
theorem BK {m x c:Nat} (h:m=x/\m<=c/\c<=9223372036854775807):m<=9223372036854775807:=R2 h.2.1 h.2.2
theorem Sx.dr {acts:List (Nat×List Nat)} {w0 w:World} {O0:Lab} {a:Array Bool} (h:Sx acts w0 O0 a w) (b:Nat):Sx acts w0 O0 a (dr w b):=by
  obtain ⟨e,O',h⟩:=h;exact ⟨e,O',h⟩
theorem Qa {P:Program} {ops:Array Oper} {Q k:Exit→Act→World→Prop} {acts:List (Nat×List Nat)} {w0:World} {O0:Lab} {fuel:Nat} (ls:List Nat) (hs:Region.noSelect ops=true) (hb:(acts.all λ p=>(ops[p.1]?).isSome)=true) (l:∀ c a w,¬ Q (.panic c) a w) :
    ∀ (d:List (Nat×Bool)) (b:Array Bool) (a:Act) (w:World),Closed ops b->Acy ops b d=true->(d.all λ p=>(tci ops acts p.1).all (ls.contains ·) && !acts.any (·.1 == p.1))=true->Sx acts w0 O0 b w ->
      (∀ a w,Closed ops (Acs b d)->k .normal a w->Y7 P ops Q (Sx acts w0 O0) fuel (Acs b d) a w)->Acj P ops k (λ w'=>∃ g,SS w0 O0 ls (dr w' g)) d a w->Y7 P ops Q (Sx acts w0 O0) (d.length + fuel) b a w
  | [],b,a,w,hcl,_,_,_,hk,h=>by rw [N8,R0];exact hk a w hcl h
  | (i, true) :: r,b,a,w,hcl,hc,hl,f,hk,h=>by
    simp only [Acy,L9] at hc;rw [Q3,L9,L9] at hl;obtain ⟨o,v,ho,hy,hr⟩:=h;have hi:i∈Region.ready .any ops b:=(by simpa using hc.1);have e:(acts.any (·.1 == i))=false:=(by simpa using hl.1.2);have n:∀ b w,Sx acts w0 O0 (b.setIfInBounds i true) w->Sx acts w0 O0 b w:=λ b w h=>(by unfold Sx at *;rwa [Uh e] at h);have m:∀ b w,Sx acts w0 O0 b w->Sx acts w0 O0 (b.setIfInBounds i true) w:=λ b w h=>(by unfold Sx at *;rwa [Uh e]);have:=Sw ho (F8 hs) (λ c a w j=>(l c _ _ j).elim) n m (λ b w hc hr ⟨s,O',f⟩=>(⟨s,O',f.mono λ q j=>by
        have:=M0.1 hl.1.1 q (YS hb hc hr q j);simpa using this⟩:∃ g,SS w0 O0 ls (Proofs.YtllibjejncelhaaGreatDoor.dr w g))) (r.length + fuel) b a w hcl (Region.free_spec ho hc.2.1) hi hy f (Qa ls hs hb l r _ _ w (hcl.set hi) hc.2.2 hl.2 (m _ _ f) hk hr)
    rwa [L6,show r.length + 1 + fuel=r.length + fuel + 1 from by omega]
  | (i,false) :: r,b,a,w,hcl,hc,_,_,_,_=>by simp [Acy] at hc
section
variable {P : Program} {n : Nat} {ops : Array Oper} {Q : U3} {acts : List (Nat × List Nat)} {w0 : World} {O0 : Lab} {l : Env} {w : World}
theorem Aah {fuel f:Nat} {b:Array Bool} (ls:List Nat) (d:List (Nat×Bool)) (hs:(Region.noSelect ops && (acts.all λ p=>(ops[p.1]?).isSome) && Acy ops b d && (d.all λ p=>(tci ops acts p.1).all (ls.contains ·) && !acts.any (·.1 == p.1)))=true) (hl:d.length + fuel=f)
    (h:hwp P n ops (thn (hwx P n ops Q acts w O0 fuel (Acs b d)) λ _ _ _=>False) (SS w O0 ls) d l w):hwx P n ops Q acts w O0 f b l w:=λ i a e j=>by
  subst hl;simp only [L9] at hs;obtain ⟨⟨⟨k,h2⟩,h3⟩,h4⟩:=hs;refine Qa (P:=P) ls k h2 (Q:=W5 n Q) (λ c a w m=>m.1) d b a (dr w e) i h3 (by simpa using h4) ⟨w.drawn,O0,St.refl _ _ _⟩ ?_ (h a e j);rintro a' w' g ⟨_,l',w₀,d',rfl,ho,hh⟩;exact hh g a' d' ho
theorem IM {fuel i:Nat} {o:Oper} {b:Array Bool} (hi:ops[i]?=some o) (hr:i∈Region.ready .any ops b) (h:owp P n ops (V7 P n ops Q acts w0 O0 i fuel b) [o] l w) (k:Closed ops b) (a:Act) (e:Nat) (s:Ok n a l) :
    wpOp P ops (W5 n Q) i (λ a' w'=>(X5 ops i=false->Sx acts w0 O0 (b.setIfInBounds i true) w')/\Y7 P ops (W5 n Q) (Sx acts w0 O0) fuel (b.setIfInBounds i true) a' w') a (dr w e):=by
  have d:=h a e s;unfold wpList at d;unfold wpOp;simp only [hi];have conv:∀ a' w',W5 n (V7 P n ops Q acts w0 O0 i fuel b) .normal a' w'->(X5 ops i=false->Sx acts w0 O0 (b.setIfInBounds i true) w')/\Y7 P ops (W5 n Q) (Sx acts w0 O0) fuel (b.setIfInBounds i true) a' w':=by
    rintro a' w' ⟨_,l',w₀,m,rfl,r,hS,p⟩;exact ⟨λ hl=>(hS hl).dr m,p (k.set hr) a' m r⟩
  have f:∀ g a' w',W5 n (V7 P n ops Q acts w0 O0 i fuel b) g a' w'->g=.normal:=by
    rintro g a' w' ⟨hn,l',w₀,m,rfl,r,p⟩;cases g<;>first|rfl|exact p.elim
  by_cases j:Region.wanted o (yielded ops a.tmps)=true
  . rw [if_pos j] at d;rw [if_pos j];rcases d with d|⟨d,t,w0,h2⟩
    . refine .inl ?_;unfold Oper.wp at *
      generalize (execOp a.eval o).run P (dr w e)=q at *
      cases q with
      | ok u w' =>
        cases u<;>simp only [Oper.upon] at d ⊢ <;>
          first
            | exact conv _ _ d
            | exact Calls.mono d (λ en y he=>by
                cases en with
                | returned v=>exact conv _ _ he
                | panicked c=>exact absurd (f _ _ _ he) (by simp)
                | outgrown=>obtain ⟨t,w0,hq⟩:=he;exact absurd (f _ _ _ hq) (by simp))
            | exact Rows.mono d (λ _ _ he=>conv _ _ he)
            | exact d.elim
      | halt x w'=>cases x<;>simp only [Oper.upon] at d ⊢<;>first|exact d.elim|exact absurd (f _ _ _ d) (by simp)
    . exact absurd (f _ _ _ h2) (by simp)
  . rw [if_neg j] at d;rw [if_neg j];exact conv _ _ d
theorem AJ {fuel i:Nat} {f:Oper} {b:Array Bool}  (hi:ops[i]?=some f) (h:owp P n ops (V7 P n ops Q acts w0 O0 i fuel b) [f] l w) (hr:Region.ready .any ops b=[i]:=by kernel_rfl):hwx P n ops Q acts w0 O0 (fuel + 1) b l w:=λ c a e j=>by
  refine ⟨λ g=>by rw [hr] at g;simp at g,λ k hk=>?_⟩;have d:=hk;rw [hr] at hk;have:k=i:=(by simpa using hk);subst this;exact IM hi d h c a e j
theorem EC {fuel i j:Nat} {f g:Oper} {b:Array Bool}  (hi:ops[i]?=some f) (hj:ops[j]?=some g)
    (o:owp P n ops (V7 P n ops Q acts w0 O0 i fuel b) [f] l w) (p:owp P n ops (V7 P n ops Q acts w0 O0 j fuel b) [g] l w) (hr:Region.ready .any ops b=[i,j]:=by kernel_rfl):hwx P n ops Q acts w0 O0 (fuel + 1) b l w:=λ c a e h=>by
  refine ⟨λ m=>by rw [hr] at m;simp at m,λ k hk=>?_⟩;have d:=hk;rw [hr] at hk;have:k=i\/k=j:=(by simpa using hk);rcases this with rfl|rfl
  . exact IM hi d o c a e h
  . exact IM hj d p c a e h
theorem Ou {fuel i j k:Nat} {h m o:Oper} {b:Array Bool}  (hi:ops[i]?=some h) (hj:ops[j]?=some m) (hk:ops[k]?=some o)
    (r:owp P n ops (V7 P n ops Q acts w0 O0 i fuel b) [h] l w) (s:owp P n ops (V7 P n ops Q acts w0 O0 j fuel b) [m] l w) (t:owp P n ops (V7 P n ops Q acts w0 O0 k fuel b) [o] l w) (hr:Region.ready .any ops b=[i,j,k]:=by kernel_rfl):hwx P n ops Q acts w0 O0 (fuel + 1) b l w:=λ c a e f=>by
  refine ⟨λ p=>by rw [hr] at p;simp at p,λ q g=>?_⟩;have d:=g;rw [hr] at g;have:q=i\/q=j\/q=k:=(by simpa using g);rcases this with rfl|rfl|rfl
  . exact IM hi d r c a e f
  . exact IM hj d s c a e f
  . exact IM hk d t c a e f
theorem Be {fuel i:Nat} {b:Array Bool} {ls:List Nat} {m:Lab} (d:List (Nat×List Nat)) (s:St (·∈ls) w0 O0 w m)  (t:hwx P n ops Q d w m fuel (b.setIfInBounds i true) l w) (hs:(ls.all ((tcs acts (b.setIfInBounds i true)).contains ·) && d.all (acts.contains ·))=true:=by kernel_rfl):owp P n ops (V7 P n ops Q acts w0 O0 i fuel b) [] l w:=by
  rw [L9] at hs;have g:∀ q,q∈ls->q∈tcs acts (b.setIfInBounds i true):=λ q f=>(by simpa using M0.1 hs.1 q f);have o:∀ p,p∈d->p∈acts:=λ q f=>(by simpa using M0.1 hs.2 q f);refine Cv ⟨λ _=>⟨w.drawn,m,s.mono g⟩,λ r a y u=>?_⟩;refine LM (λ c=>∀ j,(b.setIfInBounds i true).getD j false=true->c.getD j false=true) (λ c k h j hj=>getD_set_true (h j hj)) ?_ _ _ _ _ (λ j hj=>hj) (t r a y u);rintro c v x ⟨e,O'',hS⟩;refine ⟨e,O'',((s.mono λ q f=>?_).comp (hS.mono λ q f=>?_) λ _ h=>h:St (·∈tcs acts c) w0 O0 _ O'')⟩
  . have:=g q f;unfold tcs at this ⊢;rw [M5] at this ⊢;obtain ⟨p,h1,h3⟩:=this;rw [P2] at h1;exact ⟨p,P2.2 ⟨h1.1,x _ h1.2⟩,h3⟩
  . unfold tcs at f ⊢;rw [M5] at f ⊢;obtain ⟨p,h1,h3⟩:=f;rw [P2] at h1;exact ⟨p,P2.2 ⟨o _ h1.1,h1.2⟩,h3⟩
theorem Aai {fuel i:Nat} {a:Array Bool} (hl:X5 ops i=true) (b:hwx P n ops Q acts w0 O0 fuel (a.setIfInBounds i true) l w):owp P n ops (V7 P n ops Q acts w0 O0 i fuel a) [] l w:=Cv ⟨(λ h=>by rw [hl] at h;exact Bool.noConfusion h),b⟩
theorem Qb {fuel:Nat} {b:Array Bool} {l:Env} {w:World} (d:Env) (hs:T7 l d) (h:hwx P n ops Q acts w0 O0 fuel b d w):hwx P n ops Q acts w0 O0 fuel b l w:=λ c a f e=>h c a f (e.sub hs)
theorem Bi {a:Array Bool}  (h:Q .normal l w) (hr:Region.ready .any ops a=[]:=by kernel_rfl):hwx P n ops Q acts w0 O0 0 a l w:=λ _ _ _ b=>⟨hr,KB trivial b h⟩
def Ac2 (ms:List Nat) (o:Oper):Nat:=o.after.toList.foldl (λ m e=>if Region.binds .any e=true then m ||| (2 ^ e.on ||| ms.getD e.on 0) else m) 0
def Ab6:List Oper->List Nat->List Nat
  | [],ms=>ms
  | o :: r,ms=>Ab6 r (ms ++ [Ac2 ms o])
def bef (ops:Array Oper) (j k:Nat):Bool:=((Ab6 ops.toList []).getD j 0).testBit k
theorem OV {ops:Array Oper}:∀ (f j k:Nat),comesB ops f j k=true->comesB ops (f + 1) j k=true
  | 0,j,k,h=>by simp [comesB] at h
  | f + 1,j,k,h=>by
    rw [comesB] at h ⊢;cases hj:ops[j]? with
    | none=>rw [hj] at h;simp at h
    | some o =>
      rw [hj] at h;simp only [Option.any_some,I9] at h ⊢;obtain ⟨e,he,h⟩:=h;refine ⟨e,he,?_⟩;simp only [L9,N5] at h ⊢;refine ⟨h.1,h.2.imp id λ h=>OV f e.on k h⟩
theorem Rg {ops:Array Oper} {f g j k:Nat} (h:comesB ops f j k=true) (hl:f<=g):comesB ops g j k=true:=by
  induction hl with
  | refl=>exact h
  | step _ a=>exact OV _ _ _ a
theorem Rh {ms:List Nat} {k:Nat}:∀ (l:List Edge) (m:Nat),(l.foldl (λ m e=>if Region.binds .any e=true then m ||| (2 ^ e.on ||| ms.getD e.on 0) else m) m).testBit k=true→m.testBit k=true∨∃ e∈l,Region.binds .any e=true∧(e.on=k∨(ms.getD e.on 0).testBit k=true)
  | [],m,h=>.inl h
  | e :: l,m,h=>by
    rw [N2] at h;rcases Rh l _ h with h|⟨a,h1,h2⟩
    . by_cases hb:Region.binds .any e=true
      . rw [if_pos hb,Nat.testBit_or,Nat.testBit_or,Nat.testBit_two_pow,N5,N5] at h;rcases h with h|h|h
        . exact .inl h
        . exact .inr ⟨e,J0,hb,.inl (by simpa using h)⟩
        . exact .inr ⟨e,J0,hb,.inr h⟩
      . rw [if_neg hb] at h;exact .inl h
    . exact .inr ⟨a,G1 _ h1,h2⟩
theorem Sy {ops:Array Oper}:∀ (b d:List Oper) (c:List Nat),ops.toList=d ++ b→c.length=d.length→(∀ a k,(c.getD a 0).testBit k=true→comesB ops (a + 1) a k=true)→(Ab6 b c).length=ops.size∧∀ a k,((Ab6 b c).getD a 0).testBit k=true→comesB ops (a + 1) a k=true
  | [],d,c,h1,h2,h3=>⟨by rw [Ab6,h2,<- H4,h1,N7],h3⟩
  | o :: b,d,c,h1,h2,h3=>by
    refine Sy b (d ++ [o]) (c ++ [Ac2 c o]) (by rw [h1,J7];rfl) (by simp [h2]) λ a k hk=>?_;by_cases g:a < c.length
    . rw [B5,B8 g,<- B5] at hk;exact h3 a k hk
    . by_cases f:a=c.length
      . subst f;have:(c ++ [Ac2 c o]).getD c.length 0=Ac2 c o:=(by simp);rw [this] at hk;rcases Rh _ _ hk with h|⟨e,he,hb,h⟩
        . simp at h
        . have i:ops[c.length]?=some o:=(by rw [<- F4,h1,h2];simp);rw [comesB,i];simp only [Option.any_some,I9,L9,N5];refine ⟨e,by simpa using he,hb,?_⟩;rcases h with h|h
          . exact .inl (by simpa using h)
          . have hlt:e.on < c.length:=by
              rcases Q8 e.on c.length with h'|h'
              . exact h'
              . rw [B5,E8 h'] at h;simp at h
            exact .inr (Rg (h3 _ _ h) hlt)
      . rw [B5,E8 (by simp;omega)] at hk;simp at hk
theorem JU {ops:Array Oper} {j k:Nat} (h:bef ops j k=true):comesB ops ops.size j k=true:=by
  obtain ⟨b,h2⟩:=Sy (ops:=ops) ops.toList [] [] (by simp) rfl (λ a k h=>by simp at h);refine Rg (h2 j k h) ?_;rcases Q8 j ops.size with h'|h'
  . exact h'
  . unfold bef at h;rw [B5,E8 (by omega)] at h;simp at h
theorem AP {fuel d:Nat} {b:Array Bool} (ls:List Nat) (c:List (Nat×Bool))  (hl:c.length + fuel=d)
    (h:hwp P n ops (thn (hwx P n ops Q acts w O0 fuel (Acs b c)) λ _ _ _=>False) (SS w O0 ls) c l w) (hs:(Region.noSelect ops && (acts.all λ p=>(ops[p.1]?).isSome) && Acy ops b c && (c.all λ p=>(acts.all λ q=>q.2.all (ls.contains ·) || bef ops q.1 p.1) && !acts.any (·.1 == p.1)))=true:=by kernel_rfl):hwx P n ops Q acts w O0 d b l w:=by
  refine Aah ls c ?_ hl h;simp only [L9] at hs ⊢;refine ⟨hs.1,M0.2 λ p g=>?_⟩;have e:=M0.1 hs.2 p g;rw [L9] at e ⊢;refine ⟨M0.2 λ q f=>?_,e.2⟩;unfold tci at f;rw [M5] at f;obtain ⟨a,ha,hqa⟩:=f;rw [P2] at ha;have h2:=M0.1 e.1 a ha.1;rw [N5] at h2;rcases h2 with h2|h2
  . exact M0.1 h2 q hqa
  . have:=ha.2;rw [JU h2] at this;simp at this
theorem BM {fuel i:Nat} {a:Array Bool}  (b:hwx P n ops Q acts w0 O0 fuel (a.setIfInBounds i true) l w) (hl:((List.range ops.size).all λ k=>k == i || bef ops i k)=true:=by kernel_rfl):owp P n ops (V7 P n ops Q acts w0 O0 i fuel a) [] l w:=by
  refine Aai ?_ b;refine M0.2 λ k hk=>?_;have:=M0.1 hl k hk;rw [N5] at this ⊢;exact this.imp id JU
theorem BT [hm:Mixed P] {id:Nat} {L:List Oper} (acts:List (Nat×List Nat)) (O:Lab) (h:hwx P n L.toArray Q acts w O L.toArray.size (Array.replicate L.toArray.size false) l w):ewp P n (.region id L.toArray true) Q l w:=λ a d b =>
  wp_region_any hm.eq (PZ _ _ _ _ (h (λ m c hm=>by
      simp only [B1,C6] at hm;split at hm<;>simp at hm) a (d + 1) b))
end
end
section
open Go Go.RowKit
def X6 (n:Int):Value:=if n=0 then .nilIface else .iface 38 (.int .i64 n)
theorem JV:X6 0=.nilIface:=by unfold X6;rfl
theorem KW {n:Int} (h:n≠0):X6 n=.iface 38 (.int .i64 n):=by unfold X6;rw [if_neg h]
theorem Pr (n:Int):(X6 n).oneCell'=true:=by unfold X6;split<;>rfl
structure Err where
  n:Int
instance:Rp Err where
  isAgg:=false
  size:=1
  R _ _ cs x:=cs=[X6 x.n]/\T3 x.n
  len:=by rintro w F cs x ⟨rfl,_⟩;rfl
  one:=by
    rintro w F cs x ⟨rfl,_⟩ u hu;have:u=X6 x.n:=(by simpa using hu);subst this;exact Pr _
  agree:=λ h _=>h
  mono:=λ h _=>h
theorem Vb.err {w:World} {F:Nat->Prop} {v:Value} {x:Err} (h:Vb w F v x):v=X6 x.n/\T3 x.n:=by
  obtain ⟨a,h2⟩:=h;exact ⟨by simpa using a,h2⟩
theorem vErr {w:World} {F:Nat->Prop} {n:Int} (h:T3 n):Vb w F (X6 n) (⟨n⟩:Err):=⟨rfl,h⟩
theorem vErr0 {w:World} {F:Nat->Prop}:Vb w F .nilIface (⟨0⟩:Err):=⟨by rw [JV],by decide⟩
end
section
open Go Go.RowKit
inductive Fa:Type 1
  | T
  | V {α:Type} [Rp α] (v:Value) (x:α)
  | R {α:Type} [Rp α] (i:Nat) (e:TypeId) (v:Value) (xs:List α)
  | L (i g:Nat) (t:TypeId) (cs:List Value)
  | C (i b o:Nat) (cs:List Value)
  | W {α:Type} [Rp α] (ls:List Nat) (v:Value) (x:α)
  | B {α:Type} [Ow α] (i:Nat) (v:Value) (x:α)
  | X (p:Prop)
  | S (w0:World) (O0:Lab) (ls:List Nat)
def Fa.P:Fa->World->Lab->Prop
  | .T,_,_=>True
  | @Fa.V _ _ v x,w,O=>Vb w (Fr 0 w O) v x
  | @Fa.R _ _ i e v xs,w,O=>Rw i w O e v xs
  | .L i g t cs,w,O=>Lc i w O g t cs
  | .C i b o cs,w,O=>Fr i w O b/\cellsAt w b o cs
  | @Fa.W _ _ a v x,w,O=>Vb w (FrS a w O) v x
  | @Fa.B _ _ i v x,w,O=>Ob i w O v x
  | .X p,_,_=>p
  | .S c d a,w,O=>St (·∈a) c d w O
def Fa.lab:Fa->List Nat
  | @Fa.R _ _ i _ _ _=>[i]
  | .L i _ _ _=>[i]
  | .C i _ _ _=>[i]
  | @Fa.W _ _ a _ _=>a
  | @Fa.B _ _ i _ _=>[i]
  | _=>[]
def Fa.own:Fa->Nat
  | @Fa.R _ _ i _ _ _=>i
  | .L i _ _ _=>i
  | @Fa.B _ _ i _ _=>i
  | _=>0
def Fa.may (i:Nat):Fa->Bool
  | .S _ _ a=>inK i a
  | _=>true
theorem Wc {i:Nat}:∀ {l:List Nat},¬ i∈l->inK i l=false
  | [],_=>rfl
  | a :: l,h=>by
    unfold inK;have b:Nat.beq a i=false:=by
      cases hb:Nat.beq a i with
      | false=>rfl
      | true=>exact absurd (by rw [E7 hb];exact J0) h
    rw [b];exact Wc λ hm=>h (G1 _ hm)
theorem Fa.st {T:Nat->Prop} {w w':World} {O O':Lab}:∀ {f:Fa} (h:f.P w O) (a:St T w O w' O') (c:¬ T 0) (hl:∀ i∈f.lab,¬ T i) (hs:∀ i,T i->f.may i=true),f.P w' O'
  | .T,_,_,_,_,_=>trivial
  | .X _,h,_,_,_,_=>h
  | .S j k d,h,a,_,_,hs=>by
    change St (·∈d) j k _ _ at h;exact St.comp h a λ i hi=>by
      have:=hs i hi;exact Classical.byContradiction λ hn=>by simp [Fa.may,Wc hn] at this
  | @Fa.V _ _ v x,h,a,c,_,_=>by
    change Vb w (Fr 0 w O) v x at h;exact Vb.st h a c
  | @Fa.R _ _ i e v xs,h,a,c,hl,_=>by
    change Rw i w O e v xs at h;exact Rw.st h a c (hl i (J0 (l:=[])))
  | .L i g t cs,h,a,c,hl,_=>by
    change Lc i w O g t cs at h;exact Lc.st h a (hl i (J0 (l:=[])))
  | .C i b o cs,h,a,c,hl,_=>by
    change Fr i w O b/\cellsAt w b o cs at h;have hi:=hl i (J0 (l:=[]));exact ⟨a.fr hi _ h.1,Ej (a.agree hi) h.1 h.2⟩
  | @Fa.W _ _ d v x,h,a,c,hl,_=>by
    change Vb w (FrS d w O) v x at h;exact Vb.stS h a c hl
  | @Fa.B _ _ i v x,h,a,c,hl,_=>by
    change Ob i w O v x at h;exact Ob.st h a c (hl i (J0 (l:=[])))
def AcH (i:Nat) (f':Fa):List Fa→Option (List Fa)
  | []=>some []
  | f :: Γ=>match AcH i f' Γ with
    | none=>none
    | some a=>match Nat.beq f.own i with
      | true=>some (f' :: a)
      | false=>match inK i f.lab with
        | true=>some a
        | false=>match f.may i with
          | true=>some (f :: a)
          | false=>some a
def Ac5 (i:Nat):List Fa→Option (List Fa)
  | []=>some []
  | f :: Γ=>match Ac5 i Γ with
    | none=>none
    | some a=>match inK i f.lab with
      | true=>some a
      | false=>match f.may i with
        | true=>some (f :: a)
        | false=>some a
structure Bse where
  P:World->Lab->Prop
  st:∀ {T:Nat->Prop} {w w':World} {O O':Lab},P w O->St T w O w' O'->¬ T 0->¬ T 1->P w' O'
def bS (a:World) (A:Nat->Prop):Bse:=⟨Bs a A,λ h b c d=>h.st b c d⟩
def Al (B:Bse):List Fa->World->Lab->Prop
  | [],w,O=>B.P w O
  | f :: Γ,w,O=>f.P w O/\Al B Γ w O
inductive In:List Fa->Fa->Prop
  | hd {f:Fa} {Γ:List Fa}:In (f :: Γ) f
  | tl {f g:Fa} {Γ:List Fa} (h:In Γ f):In (g :: Γ) f
section
variable {B : Bse} {Γ : List Fa} {w w' : World} {O O' : Lab} {i : Nat} {f : Fa}
theorem Al.at (h:Al B Γ w O) (hi:In Γ f):f.P w O:=by
  induction hi with
  | hd=>exact h.1
  | tl _ a=>exact a h.2
theorem Al.base:∀ {Γ:List Fa},Al B Γ w O->B.P w O
  | [],h=>h
  | _ :: _,h=>Al.base h.2
theorem Ov {i:Nat}:∀ {l:List Nat},inK i l=false->¬ i∈l
  | [],_=>by simp
  | a :: l,h=>by
    unfold inK at h;cases hb:Nat.beq a i with
    | true=>rw [hb] at h;cases h
    | false =>
      rw [hb] at h;intro hm;rcases Q1.1 hm with rfl|hm
      . rw [Q7] at hb;cases hb
      . exact Ov h hm
theorem Al.no:∀ {Γ:List Fa},Al B Γ w O->St nT w O w' O'->Al B Γ w' O'
  | [],h,hS=>B.st h hS id id
  | _ :: _,h,hS=>⟨Fa.st h.1 hS id (λ _ _=>id) λ _ h=>h.elim,Al.no h.2 hS⟩
theorem Hv (h:Nat.ble 2 i=true):0≠i/\1≠i:=by
  have:=F0 h;omega
theorem Al.so {f':Fa} (hi:Nat.ble 2 i=true) (hf:f'.P w' O'):∀ {Γ a:List Fa},Al B Γ w O→St (eT i) w O w' O'→AcH i f' Γ=some a→Al B a w' O'
  | [],a,h,hS,e=>by
    obtain rfl:=N4 e;exact B.st h hS (Hv hi).1 (Hv hi).2
  | g :: Γ,a,h,hS,e=>by
    unfold AcH at e;cases hr:AcH i f' Γ with
    | none=>rw [hr] at e;cases e
    | some c =>
      rw [hr] at e;have b:=Al.so hi hf h.2 hS hr;cases hb:Nat.beq g.own i with
      | true=>rw [hb] at e;obtain rfl:=N4 e;exact ⟨hf,b⟩
      | false =>
        rw [hb] at e;cases hk:inK i g.lab with
        | true=>rw [hk] at e;obtain rfl:=N4 e;exact b
        | false =>
          rw [hk] at e;cases hm:g.may i with
          | false=>rw [hm] at e;obtain rfl:=N4 e;exact b
          | true=>rw [hm] at e;obtain rfl:=N4 e;exact ⟨Fa.st h.1 hS (Hv hi).1 (λ j hj e=>Ov hk (e ▸ hj)) λ j e=>by rw [e];exact hm,b⟩
theorem Al.ko (hi:Nat.ble 2 i=true):∀ {Γ a:List Fa},Al B Γ w O→St (eT i) w O w' O'→Ac5 i Γ=some a→Al B a w' O'
  | [],a,h,hS,e=>by
    obtain rfl:=N4 e;exact B.st h hS (Hv hi).1 (Hv hi).2
  | g :: Γ,a,h,hS,e=>by
    unfold Ac5 at e;cases hr:Ac5 i Γ with
    | none=>rw [hr] at e;cases e
    | some c =>
      rw [hr] at e;have b:=Al.ko hi h.2 hS hr;cases hk:inK i g.lab with
      | true=>rw [hk] at e;obtain rfl:=N4 e;exact b
      | false =>
        rw [hk] at e;cases hm:g.may i with
        | false=>rw [hm] at e;obtain rfl:=N4 e;exact b
        | true=>rw [hm] at e;obtain rfl:=N4 e;exact ⟨Fa.st h.1 hS (Hv hi).1 (λ j hj e=>Ov hk (e ▸ hj)) λ j e=>by rw [e];exact hm,b⟩
inductive Sb:List Fa->List Fa->Prop
  | nil {Γ:List Fa}:Sb Γ []
  | t {Γ Δ:List Fa} (h:Sb Γ Δ):Sb Γ (.T :: Δ)
  | cons {f:Fa} {Γ Δ:List Fa} (hf:In Γ f) (h:Sb Γ Δ):Sb Γ (f :: Δ)
  | x {p:Prop} {Γ Δ:List Fa} (hp:p) (h:Sb Γ Δ):Sb Γ (.X p :: Δ)
  | v {α:Type} [Rp α] {Γ Δ:List Fa} (h:Sb Γ Δ):Sb Γ (.V (.slice none 0 0) ([]:List α) :: Δ)
  | n {α:Type} [Rp α] {i:Nat} {e:TypeId} {Γ Δ:List Fa} (hi:Nat.ble 1 i=true) (h:Sb Γ Δ):Sb Γ (.R i e (.slice none 0 0) ([]:List α) :: Δ)
theorem Al.sub (h:Al B Γ w O):∀ {a:List Fa},Sb Γ a->Al B a w O
  | _,.nil=>Al.base h
  | _,.t k=>⟨trivial,Al.sub h k⟩
  | _,.cons hf k=>⟨Al.at h hf,Al.sub h k⟩
  | _,.x hp k=>⟨hp,Al.sub h k⟩
  | _,@Sb.v _ _ _ _ k=>⟨Vb.nil _ _,Al.sub h k⟩
  | _,@Sb.n _ _ _ _ _ _ hi k=>⟨Rw.nil _ (by have:=F0 hi;omega),Al.sub h k⟩
end
class El (α:Type) [Rp α] (K:outParam (Bse->List Fa->World->Lab->α->(Value->Prop)->Prop)):Prop where
  el:∀ {B:Bse} {Γ:List Fa} {w:World} {O:Lab} {x:α} {v:Value} {G:Value->Prop},Al B Γ w O->Vb w (Fr 0 w O) v x->K B Γ w O x G->G v
instance:El Int λ B Γ w O x G=>T3 x->Al B Γ w O->G (.int .i64 x):=⟨λ a h k=>by
  obtain ⟨rfl,hr⟩:=h.int;exact k hr a⟩
instance:El Bool λ B Γ w O x G=>Al B Γ w O->G (.bool x):=⟨λ a h k=>by
  obtain rfl:=h.bool;exact k a⟩
instance:El ByteArray λ B Γ w O x G=>x.size<=9223372036854775807->Al B Γ w O->G (.string x):=⟨λ a h k=>by
  obtain ⟨rfl,hr⟩:=h.str;exact k hr a⟩
instance:El Err λ B Γ w O x G=>T3 x.n->Al B Γ w O->G (X6 x.n):=⟨λ a h k=>by
  obtain ⟨rfl,hr⟩:=h.err;exact k hr a⟩
instance {α:Type} [Rp α]:El (List α) λ B Γ w O x G=>∀ A c,Al B (.V (.slice A x.length c) x :: Γ) w O->G (.slice A x.length c):=⟨λ a h k=>by
  obtain ⟨A,c,rfl⟩:=h.form;exact k A c ⟨h,a⟩⟩
class Ec (α:Type) [Rp α] (K:outParam (Bse->List Fa->World->Lab->Nat->Nat->Nat->α->Prop->Prop)):Prop where
  ec:∀ {B:Bse} {Γ:List Fa} {w:World} {O:Lab} {i b o:Nat} {x:α} {cs:List Value} {G:Prop},Al B Γ w O->Fr i w O b->cellsAt w b o cs->Rp.R w (Fr 0 w O) cs x->K B Γ w O i b o x G->G
instance:Ec Int λ B Γ w O i b o x G=>T3 x->Al B (.C i b o [.int .i64 x] :: Γ) w O->G:=⟨λ c a hc h k=>by
  obtain ⟨rfl,hr⟩:=h;exact k hr ⟨⟨a,hc⟩,c⟩⟩
instance {α:Type} [Rp α]:Ec (List α) λ B Γ w O i b o x G=>∀ A c,Al B (.C i b o [.slice A x.length c] :: .V (.slice A x.length c) x :: Γ) w O->G:=⟨λ d a hc h k=>by
  obtain ⟨v,rfl,h⟩:=h;replace h:=Vb.of_slice h;obtain ⟨A,c,rfl⟩:=h.form;exact k A c ⟨⟨a,hc⟩,h,d⟩⟩
end
section
open Go Go.RowKit
instance:TBool prog 4:=⟨underlying4⟩
end
end Go.Proofs.YtllibjejncelhaaGreatDoor

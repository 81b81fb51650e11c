/- Own text: what the proof of wholeRepair_holds uses, part 1: rules, models and their proofs, plain laws. -/
import Derived.Tactics
import Derived.Below
import Derived.OrdersHeld
import Derived.KernelRfl
import Derived.OwnWalk
import Derived.Maps.AppendAt
import Derived.Laws.MakeOwn
import Derived.Deep.Slices
import Derived.ChangeSame
import Derived.Test.YthgeinkfgcgjiaaGreatDoorProg
import Derived.ProofKit
import Derived.ReadAgain
import Derived.ChangeStays
import Derived.OpenShut
import Derived.Ground.SlsfProg
import Derived.Shelf.SlSortCmp.WholeK
import Derived.Shelf.SlSortCmp.NoneTotal
import Derived.Sort.AssemblyPlain
import Derived.Deep.Draws
import Derived.MapKept
import Derived.Laws.Strings
import Derived.Shelf.Sort.Plain
import Derived.Shelf.Slices.In.SortNone
import Derived.Laws.CopyRow
import Derived.Laws.IdiomCopy
import Derived.Lib.AppendZerosOnto
import Derived.Lib.Overlaps
import Derived.Laws.Externs
import Derived.Shelf.SlSortCmp.Whole1
import Derived.Shelf.Strings.Builder1
import Derived.Shelf.Small.Bits
import Derived.Shelf.Strings.BuilderF
import Derived.Shelf.Strings.BuilderK
import Derived.Shelf.Strconv.Itoa0
import Derived.Shelf.Strconv.Itoa1
import Derived.Shelf.LaysM
import Derived.Shelf.Strconv.Itoa2
import Derived.Shelf.Strconv.Itoa3
import Derived.Shelf.Slices.Reverse
import Derived.Ground.Names2Prog
import Derived.Shelf.Slices.Clone
import Derived.Shelf.Slices.SearchI
import Derived.Shelf.Slices.Cells
import Derived.Ground.SlgnProg
import Derived.Shelf.SlicesE.Clone
import Derived.Lib.Builder
import Derived.Lib.AppendStr
import Derived.Lib.Strings
import Derived.Test.YthgeinkfgcgjiaaGreatDoorTie
import Derived.Test.YthgeinkfgcgjiaaGreatDoorCards
import Derived.LaidMore
import Derived.SevenTiedAt
set_option linter.unusedVariables false
set_option linter.unusedSimpArgs false
namespace Go.Proofs.YthgeinkfgcgjiaaGreatDoor
open Go Go.RowKit Go.Proofs.Tryz
theorem A1{α}{a b c d:α}:a=a∧b=b∧c=c∧d=d∧True:=⟨rfl,rfl,rfl,rfl,trivial⟩
theorem Ad{α}{a b c d e:α}:a=a∧b=b∧c=c∧d=d∧e=e∧True:=⟨rfl,rfl,rfl,rfl,rfl,trivial⟩
theorem Af{α}{a b c d e f:α}:a=a∧b=b∧c=c∧d=d∧e=e∧f=f∧True:=⟨rfl,rfl,rfl,rfl,rfl,rfl,trivial⟩
theorem B3{α}{a:α}:a=a∧True:=⟨rfl,trivial⟩
theorem B5{α}{a b c:α}:a=a∧b=b∧c=c∧True:=⟨rfl,rfl,rfl,trivial⟩
theorem D2{α}{a b c d e f g:α}:a=a∧b=b∧c=c∧d=d∧e=e∧f=f∧g=g∧True:=⟨rfl,rfl,rfl,rfl,rfl,rfl,rfl,trivial⟩
theorem D3{α}{a b c d e f g h:α}:a=a∧b=b∧c=c∧d=d∧e=e∧f=f∧g=g∧h=h∧True:=⟨rfl,rfl,rfl,rfl,rfl,rfl,rfl,rfl,trivial⟩
theorem D4{α}{a b:α}:a=a∧b=b∧True:=⟨rfl,rfl,trivial⟩
theorem D5{α}{a b c d e f g h i:α}:a=a∧b=b∧c=c∧d=d∧e=e∧f=f∧g=g∧h=h∧i=i∧True:=⟨rfl,rfl,rfl,rfl,rfl,rfl,rfl,rfl,rfl,trivial⟩
theorem Eo{α}{a b c d e f g h i j:α}:a=a∧b=b∧c=c∧d=d∧e=e∧f=f∧g=g∧h=h∧i=i∧j=j∧True:=⟨rfl,rfl,rfl,rfl,rfl,rfl,rfl,rfl,rfl,rfl,trivial⟩
theorem G3{α}{a b c d e f g h i j k:α}:a=a∧b=b∧c=c∧d=d∧e=e∧f=f∧g=g∧h=h∧i=i∧j=j∧k=k∧True:=⟨rfl,rfl,rfl,rfl,rfl,rfl,rfl,rfl,rfl,rfl,rfl,trivial⟩
theorem G5{α}{a b c d e f g h i j k l m n:α}:a=a∧b=b∧c=c∧d=d∧e=e∧f=f∧g=g∧h=h∧i=i∧j=j∧k=k∧l=l∧m=m∧n=n∧True:=⟨rfl,rfl,rfl,rfl,rfl,rfl,rfl,rfl,rfl,rfl,rfl,rfl,rfl,rfl,trivial⟩
theorem G7{α}{a b c d e f g h i j k l:α}:a=a∧b=b∧c=c∧d=d∧e=e∧f=f∧g=g∧h=h∧i=i∧j=j∧k=k∧l=l∧True:=⟨rfl,rfl,rfl,rfl,rfl,rfl,rfl,rfl,rfl,rfl,rfl,rfl,trivial⟩
abbrev B0:=@Array.getElem?_setIfInBounds_self
abbrev B1:=@Array.getElem?_setIfInBounds_ne
abbrev B2:=@List.eq_nil_of_length_eq_zero
abbrev B4:=@Int.mul_le_mul_of_nonneg_left
abbrev B6:=@List.take_append_of_le_length
abbrev B7:=@Array.getD_eq_getD_getElem?
abbrev B8:=@Array.getElem?_append_left
abbrev B9:=@Array.getElem?_eq_some_iff
abbrev C0:=@List.getElem?_append_right
abbrev C1:=@List.getD_eq_getElem?_getD
abbrev C2:=@List.nodup_iff_pairwise_ne
abbrev C3:=@List.getElem?_eq_some_iff
abbrev C4:=@List.getElem?_append_left
abbrev C5:=@List.drop_eq_getElem_cons
abbrev C6:=@Classical.byContradiction
abbrev C7:=@Array.getElem?_eq_getElem
abbrev C8:=@List.getElem_append_right
abbrev C9:=@List.getElem?_eq_none_iff
abbrev D0:=@List.pairwise_iff_getElem
abbrev D1:=@List.getElem?_eq_getElem
abbrev D6:=@Array.setIfInBounds_comm
abbrev D7:=@Array.getElem?_replicate
abbrev D8:=@List.getElem_append_left
abbrev D9:=@List.getElem?_take_of_lt
abbrev E2:=@Bool.eq_false_or_eq_true
abbrev E3:=@Int.eq_ofNat_of_zero_le
abbrev E4:=@Classical.epsilon_spec
abbrev E5:=@List.take_of_length_le
abbrev E6:=@Array.getElem?_eq_none
abbrev E7:=@Option.map_eq_some_iff
abbrev E8:=@MapKept.run_getObj_map
abbrev E9:=@List.getElem?_set_self
abbrev F0:=@List.drop_eq_nil_of_le
abbrev F1:=@Nat.eq_of_beq_eq_true
abbrev F2:=@List.getElem?_eq_none
abbrev F3:=@Array.getElem?_modify
abbrev F4:=@List.take_append_drop
abbrev F5:=@Nat.le_of_ble_eq_true
abbrev F6:=@List.set_append_right
abbrev F7:=@List.length_replicate
abbrev F8:=@Array.getElem?_toList
abbrev F9:=@List.length_singleton
abbrev G0:=@List.length_filter_le
abbrev G1:=@List.perm_append_comm
abbrev G2:=@List.singleton_append
abbrev G4:=@Region.noSelect_spec
abbrev G8:=@Nat.mul_le_mul_right
abbrev G9:=@List.mem_append_left
abbrev H0:=@List.mem_cons_of_mem
abbrev H1:=@List.mem_of_getElem?
abbrev H2:=@List.getElem_toArray
abbrev H3:=@Array.getElem_mapIdx
abbrev H4:=@List.getElem?_of_mem
abbrev H5:=@MapKept.run_checkKey
abbrev H6:=@List.getElem?_modify
abbrev H7:=@List.getElem?_set_ne
abbrev H8:=@List.mem_of_mem_drop
abbrev H9:=@List.getElem?_zipIdx
abbrev I0:=@BitVec.getLsbD_ofNat
abbrev I1:=@Lib.byteCells_length
abbrev I2:=@Array.length_toList
abbrev I3:=@MapKept.run_findKey
abbrev I4:=@List.getElem_of_mem
abbrev I5:=@List.mergeSort_perm
abbrev I6:=@List.take_succ_cons
abbrev I7:=@List.flatMap_append
abbrev I8:=@Int.toNat_of_nonneg
abbrev I9:=@List.getElem?_range
abbrev J0:=@List.length_reverse
abbrev J8:=@Nat.lt_of_le_of_lt
abbrev J9:=@Nat.lt_of_lt_of_eq
abbrev K0:=@List.length_append
abbrev K1:=@Nat.lt_of_lt_of_le
abbrev K2:=@List.getElem?_drop
abbrev K3:=@List.getElem?_take
abbrev K4:=@Nat.eq_zero_or_pos
abbrev K5:=@Array.any_eq_true'
abbrev K6:=@List.mem_cons_self
abbrev K7:=@Array.extract_size
abbrev K8:=@List.pairwise_cons
abbrev K9:=@List.mem_singleton
abbrev L0:=@Bool.false_eq_true
abbrev L4:=@Int.lt_or_eq_of_le
abbrev L5:=@List.length_zipIdx
abbrev L6:=@List.filter_append
abbrev L7:=@BitVec.toNat_ofNat
abbrev L8:=@List.append_assoc
abbrev L9:=@List.filter_congr
abbrev M0:=@List.ext_getElem?
abbrev M1:=@List.flatMap_cons
abbrev M2:=@List.take_add_one
abbrev M3:=@List.getElem?_map
abbrev M4:=@List.getElem?_set
abbrev M5:=@List.nodup_append
abbrev M6:=@Int.toNat_natCast
abbrev M7:=@Nat.lt_trichotomy
abbrev M8:=@List.length_cons
abbrev M9:=@List.cons_append
abbrev N0:=@Array.toList_inj
abbrev N1:=@Bool.and_eq_true
abbrev N6:=@List.all_eq_true
abbrev N7:=@List.length_drop
abbrev N8:=@List.length_take
abbrev N9:=@List.drop_length
abbrev P1:=@Nat.lt_succ_self
abbrev P2:=@List.mem_flatMap
abbrev P3:=@Nat.min_eq_right
abbrev P4:=@List.take_length
abbrev P5:=@Nat.le_of_not_lt
abbrev P6:=@MapKept.heap_set
abbrev P7:=@List.filter_cons
abbrev P8:=@List.mem_append
abbrev P9:=@List.foldl_cons
abbrev Q0:=@Int.natCast_mul
abbrev Q1:=@Option.some.inj
abbrev Q2:=@Option.any_some
abbrev Q3:=@Bool.or_eq_true
abbrev Q4:=@List.nil_append
abbrev Q5:=@List.append_nil
abbrev Q6:=@List.length_nil
abbrev Q7:=@List.length_set
abbrev Q8:=@Nat.min_eq_left
abbrev Q9:=@List.mem_filter
abbrev R0:=@Option.map_some
abbrev R1:=@List.length_map
abbrev R2:=@List.map_append
abbrev R3:=@List.nodup_cons
abbrev R4:=@Int.natCast_add
abbrev R5:=@List.mem_range
abbrev R6:=@Int.mul_nonneg
abbrev R7:=@Nat.mul_le_mul
abbrev R8:=@List.Perm.refl
abbrev R9:=@List.map_cons
abbrev S0:=@List.mem_cons
abbrev T0:=@Nat.lt_irrefl
abbrev T4:=@List.all_cons
abbrev T5:=@List.take_set
abbrev T6:=@Lib.BuilderAtF.of
abbrev T7:=@Code.wp_mono
abbrev T8:=@Nat.beq_refl
abbrev T9:=@Nat.lt_or_ge
abbrev U0:=@Nat.add_zero
abbrev U4:=@Nat.zero_add
abbrev U6:=@Nat.le_of_eq
abbrev U7:=@Nat.sub_zero
abbrev U8:=@Nat.le_trans
abbrev U9:=@List.mem_map
abbrev V0:=@List.map_set
abbrev V1:=@Int.le_of_lt
abbrev V2:=@Nat.le_refl
abbrev V3:=@Nat.add_mul
abbrev V4:=@Int.le_refl
abbrev V5:=@Nat.zero_le
abbrev V6:=@Nat.mul_one
abbrev V7:=@Nat.one_mul
abbrev V8:=@Below.refl
abbrev V9:=@Calls.mono
abbrev W0:=@Ne.symm
section
open Go Go.RowKit
abbrev Env:=List (Nat×Value)
def lk:Env→Nat→Option Value
  |[],_=>none
  |(i,v)::l,j=>match Nat.beq i j with
    |true=>some v
    |false=>lk l j
def opv(l:Env):Operand->Option Value
  |.tmp t=>lk l t
  |.const v=>some v
  |.global g=>some (.pointer (some ⟨g,0,none⟩))
  |.func f=>some (.func (.func f) #[] #[])
def X5(l:Env):List Operand→Option (List Value)
  |[]=>some []
  |x  :: r=>match opv l x with
    |some v=>match X5 l r with
      |some vs=>some (v::vs)
      |none=>none
    |none=>none
structure Ok(n:Nat)(a:Act)(l:Env):Prop where
  size:a.tmps.size=n
  defers:a.defers=[]
  knows:∀i v,lk l i=some v->a.tmps.getD i undef=v
theorem Ok.put{n d:Nat}{a:Act}{l:Env}(e:Ok n a l)(hd:Nat.blt d n=true)(v:Value):Ok n (a.put (some d) v) ((d,v)::l):=by
  have b:d<n:=(by simpa using hd);refine⟨by simp[Act.put,e.size],e.defers,λi u hu=>?_⟩;simp only[lk]at hu;cases hb:Nat.beq d i with
  |true =>
    rw[hb]at hu;have:d=i:=F1 hb;subst this;have hlt:d<a.tmps.size:=(by rw[e.size];exact b);simp only[Act.put,B7,Array.getElem?_setIfInBounds,hlt,if_true,Option.getD_some];simpa using hu
  |false =>
    rw[hb]at hu;have c:d≠i:=Nat.ne_of_beq_eq_false hb;have:=e.knows i u hu;simp only[Act.put,B7,Array.getElem?_setIfInBounds,c,if_false]at this ⊢;exact this
theorem Ok.eval{n:Nat}{a:Act}{l:Env}(c:Ok n a l){x:Operand}{v:Value}(b:opv l x=some v):a.eval x=v:=by
  cases x with
  |tmp t=>exact c.knows t v b
  |const u=>simpa[opv,Act.eval]using b
  |global g=>simpa[opv,Act.eval]using b
  |func f=>simpa[opv,Act.eval]using b
theorem Ok.evals{n:Nat}{a:Act}{l:Env}(e:Ok n a l):∀{xs:List Operand}{vs:List Value},X5 l xs=some vs→xs.map a.eval=vs
  |[],vs,hx=>by simpa[X5]using hx
  |x  :: r,vs,hx=>by
    simp only[X5]at hx;cases b:opv l x with
    |none=>rw[b]at hx;simp at hx
    |some v =>
      rw[b]at hx;cases hr:X5 l r with
      |none=>rw[hr]at hx;simp at hx
      |some d =>
        rw[hr]at hx;have c:v::d=vs:=(by simpa using hx);rw[R9,e.eval b,e.evals hr,c]
def W4(l:Env):Env->Prop
  |[]=>True
  |(i,v)::r=>lk l i=some v/\W4 l r
theorem Bn{l:Env}:∀{a:Env},W4 l a->∀i v,lk a i=some v->lk l i=some v
  |[],_,i,v,h=>by simp[lk]at h
  |(j,u)::r,hs,i,v,h=>by
    simp only[lk]at h;cases hb:Nat.beq j i with
    |true =>
      rw[hb]at h;have:j=i:=F1 hb;subst this;have:u=v:=(by simpa using h);subst this;exact hs.1
    |false=>rw[hb]at h;exact Bn hs.2 i v h
theorem Ok.sub{n:Nat}{a:Act}{l b:Env}(d:Ok n a l)(hs:W4 l b):Ok n a b:=⟨d.size,d.defers,λi v c=>d.knows i v (Bn hs i v c)⟩
def dr(w:World)(a:Nat):World:={ w with drawn:=a }
theorem Ik(w:World):dr w w.drawn=w:=rfl
theorem KL(w:World)(a:Nat):(dr w a).heap=w.heap:=rfl
theorem KM(w:World)(b:Nat)(a:Addr):(dr w b).cell? a=w.cell? a:=rfl
abbrev X0:=Exit->Env->World->Prop
def Aa4:Exit->Prop
  |.panic _=>False
  |.outgrown=>False
  |_=>True
def YZ(n:Nat)(Q:X0)(e:Exit)(a:Act)(w:World):Prop:=Aa4 e/\∃l b c,w=dr b c/\Ok n a l/\Q e l b
theorem Jr{n:Nat}{Q:X0}{e:Exit}{a:Act}{w:World}{l:Env}{c:Nat}(he:Aa4 e)(d:Ok n a l)(b:Q e l w):YZ n Q e a (dr w c):=⟨he,l,w,c,rfl,d,b⟩
def ewp(P:Program)(n:Nat)(c:Code)(Q:X0)(l:Env)(w:World):Prop:=∀a b,Ok n a l->c.wp P (YZ n Q) a (dr w b)
def owp(P:Program)(n:Nat)(ops:Array Oper)(Q:X0)(rest:List Oper)(l:Env)(w:World):Prop:=∀a b,Ok n a l->wpList P ops (YZ n Q) rest a (dr w b)
section code
variable {P:Program}{n:Nat}{Q:X0}{l:Env}{w:World}
def thn(K:Env->World->Prop)(Q:X0):X0
  |.normal,l,w=>K l w
  |e,l,w=>Q e l w
theorem HG{c:Code}{b:X0}(d:∀e l w,Q e l w->b e l w)(g:ewp P n c Q l w):ewp P n c b l w :=
  λa h f=>T7 (λ_ _ _ ⟨hn,l,w,h,hw,ho,q⟩=>⟨hn,l,w,h,hw,ho,d _ _ _ q⟩) (g a h f)
theorem Aj{x y:Code}(d:ewp P n x (thn (ewp P n y Q) Q) l w):ewp P n (.seq x y) Q l w:=λa f b =>
  wp_seq (T7 (λe a w hl=>by
    obtain⟨hn,l',w',d',rfl,ho,hq⟩:=hl;cases e with
    |normal=>exact hq a d' ho
    |panic c=>exact hn.elim
    |outgrown=>exact hn.elim
    |exit i=>exact⟨trivial,l',w',d',rfl,ho,hq⟩
    |goto i=>exact⟨trivial,l',w',d',rfl,ho,hq⟩
    |ret=>exact⟨trivial,l',w',d',rfl,ho,hq⟩) (d a f b))
theorem RX{x y:Code}(b:Env->World->Prop)(c:ewp P n x (thn b Q) l w)(k:∀a w',b a w'->ewp P n y Q a w'):ewp P n (.seq x y) Q l w :=
  Aj (HG (λe l w q=>by cases e<;>first|exact k _ _ q|exact q) c)
theorem AE(b:Q .normal l w):ewp P n .skip Q l w:=λ_ _ a=>wp_skip (Jr trivial a b)
theorem Cl{i:Nat}(b:Q (.exit i) l w):ewp P n (.exit i) Q l w:=λ_ _ a=>wp_exit (Jr trivial a b)
theorem AD(b:Q .ret l w):ewp P n .ret Q l w:=λ_ _ a=>wp_ret (Jr trivial a b)
theorem Am{c:Operand}{x y:Code}(hc:opv l c=some (.bool true))(d:ewp P n x Q l w):ewp P n (.cond c x y) Q l w:=λa e b=>wp_cond_true (b.eval hc) (d a e b)
theorem Ah{c:Operand}{x y:Code}(hc:opv l c=some (.bool false))(d:ewp P n y Q l w):ewp P n (.cond c x y) Q l w:=λa e b=>wp_cond_false (b.eval hc) (d a e b)
theorem Bx{c:Operand}{x y:Code}{b:Bool}(hc:opv l c=some (.bool b))(a:b=true->ewp P n x Q l w)(hf:b=false->ewp P n y Q l w):ewp P n (.cond c x y) Q l w:=by
  cases b
  . exact Ah hc (hf rfl)
  . exact Am hc (a rfl)
def X9(id:Nat)(Q:X0):X0
  |.exit i,l,w=>match Nat.beq i id with
    |true=>Q .normal l w
    |false=>Q (.exit i) l w
  |e,l,w=>Q e l w
theorem BC{id:Nat}{c:Code}(f:ewp P n c (X9 id Q) l w):ewp P n (.block id c) Q l w:=λa g b =>
  wp_block (T7 (λe a w hl=>by
    obtain⟨hn,l',w',d',rfl,ho,hq⟩:=hl;cases e with
    |exit i =>
      simp only[Exit.inBlock];simp only[X9]at hq;by_cases hi:i=id
      . subst hi;have hb:Nat.beq i i=true:=T8 i;rw[hb]at hq;rw[if_pos rfl];exact⟨trivial,l',w',d',rfl,ho,hq⟩
      . have hb:Nat.beq i id=false:=by
          cases d:Nat.beq i id
          . rfl
          . exact absurd (F1 d) hi
        rw[hb]at hq;rw[if_neg hi];exact⟨trivial,l',w',d',rfl,ho,hq⟩
    |panic c=>exact hn.elim
    |outgrown=>exact hn.elim
    |normal=>exact⟨trivial,l',w',d',rfl,ho,hq⟩
    |goto i=>exact⟨trivial,l',w',d',rfl,ho,hq⟩
    |ret=>exact⟨trivial,l',w',d',rfl,ho,hq⟩) (f a g b))
theorem AQ{c:Code}(b:Env)(hs:W4 l b)(e:ewp P n c Q b w):ewp P n c Q l w:=λa f d=>e a f (d.sub hs)
theorem Qk{c:Code}{X:Type}(E:X→Env)(I:X→World→Prop)(p:X→Nat)(r:X)(hs:W4 l (E r))(z:I r w)
    (u:∀x w,I x w->ewp P n c (thn (λA w'=>∃g,W4 A (E g)/\I g w'/\p g<p x) Q) (E x) w):ewp P n (.loop c) Q l w:=by
  intro a U R
  have G:∀(m:Nat)(x:X)(a:Act)(w:World)(U:Nat),p x<=m->Ok n a (E x)->I x w->(Code.loop c).wp P (YZ n Q) a (dr w U):=by
    intro m x a w U hm H B;refine wp_loop (λa' w'=>∃g b o,w'=dr b o/\Ok n a' (E g)/\I g b) (λa' w'=>Classical.epsilon λk=>∃g b o,w'=dr b o/\Ok n a' (E g)/\I g b/\p g=k /\
      ∀f d j,w'=dr d j->Ok n a' (E f)->I f d->k<=p f) ⟨x,w,U,rfl,H,B⟩ ?_
    have s:∀a' w',(∃g b o,w'=dr b o/\Ok n a' (E g)/\I g b)->∃k,∃g b o,w'=dr b o/\Ok n a' (E g)/\I g b/\p g=k /\
        ∀f d j,w'=dr d j->Ok n a' (E f)->I f d->k<=p f:=by
      intro a' w' ⟨g,b,o,C,v,hI'⟩;have:∀m g b o,p g<=m->w'=dr b o->Ok n a' (E g)->I g b->∃k,∃g b o,w'=dr b o/\Ok n a' (E g)/\I g b/\p g=k /\
          ∀f d j,w'=dr d j->Ok n a' (E f)->I f d->k<=p f:=by
        intro m
        induction m with
        |zero=>exact λg b o hm C v B=>⟨p g,g,b,o,C,v,B,rfl,λ_ _ _ _ _ _=>by omega⟩
        |succ m S =>
          intro g b o hm C v B;by_cases D:∃f d j,w'=dr d j/\Ok n a' (E f)/\I f d/\p f<=m
          . obtain⟨f,d,j,J,K,L,h4⟩:=D;exact S f d j h4 J K L
          . refine⟨p g,g,b,o,C,v,B,rfl,λf d j J K L=>?_⟩;rcases T9 (p f) (p g)with h|h
            . exact absurd ⟨f,d,j,J,K,L,by omega⟩ D
            . exact h
      exact this _ g b o (V2 _) C v hI'
    intro a' w' F;have hk:=E4 (s a' w' F);obtain⟨g,b,o,rfl,v,hI',hμ,hmin⟩:=hk;refine T7 (λe M T hl=>?_) (u g b hI' a' o v);obtain⟨hn,A,d,d₁,rfl,ho',hq⟩:=hl;cases e with
    |normal =>
      obtain⟨t,hs₂,hI₂,hlt⟩:=hq;have q:=ho'.sub hs₂;refine⟨⟨t,d,d₁,rfl,q,hI₂⟩,?_⟩;have y:=E4 (s M (dr d d₁) ⟨t,d,d₁,rfl,q,hI₂⟩);obtain⟨O,w₃,d₃,hw₃,ho₃,hI₃,hμ₃,hmin₃⟩:=y;have N:=hmin₃ t d d₁ rfl q hI₂;exact J8 N (J9 hlt hμ)
    |panic c=>exact hn.elim
    |outgrown=>exact hn.elim
    |exit i=>exact⟨trivial,A,d,d₁,rfl,ho',hq⟩
    |goto i=>exact⟨trivial,A,d,d₁,rfl,ho',hq⟩
    |ret=>exact⟨trivial,A,d,d₁,rfl,ho',hq⟩
  exact G _ r a w U (V2 _) (R.sub hs) z
theorem Ae{id:Nat}{L:List Oper}(c:owp P n L.toArray Q L l w):ewp P n (.region id L.toArray false) Q l w:=λa d b=>wp_region_lit (c a d b)
end code
def Ev(P:Program)(o:Oper)(l:Env)(w:World)(v:Value):Prop:=∀n a b,Ok n a l->(execOp a.eval o).run P (dr w b)=.ok (.value v) (dr w b)
def Aag(ops:Array Oper)(j:Nat):Option Tmp:=(ops[j]?).bind (·.dst)
theorem Ok.yielded{n:Nat}{a:Act}{l:Env}(e:Ok n a l){ops:Array Oper}{j dj:Nat}{b:Bool}(hj:Aag ops j=some dj)(hl:lk l dj=some (.bool b)):Go.yielded ops a.tmps j=some b:=by
  have c:=e.knows dj _ hl;unfold Go.yielded;unfold Aag at hj;rw[hj];simp only[Option.bind_some];rw[B7]at c;cases d:a.tmps[dj]? with
  |none=>rw[d]at c;simp[undef]at c
  |some u=>rw[d]at c;simp only[Option.getD_some]at c;subst c;rfl
def isB:Value->Bool->Bool
  |.bool true,true=>true
  |.bool false,false=>true
  |_,_=>false
theorem Ok.unwanted{n:Nat}{a:Act}{l:Env}(f:Ok n a l){ops:Array Oper}{j dj:Nat}{u:Value}{b:Bool}(hj:Aag ops j=some dj)(hl:lk l dj=some u)(hu:isB u b=false):(Go.yielded ops a.tmps j==some b)=false:=by
  have d:=f.knows dj _ hl;unfold Go.yielded;unfold Aag at hj;rw[hj];simp only[Option.bind_some];rw[B7]at d;cases e:a.tmps[dj]? with
  |none=>rfl
  |some x =>
    rw[e]at d;simp only[Option.getD_some]at d;subst d;cases x<;>first|rfl|(rename_i c;cases c<;>cases b<;>first|rfl|(simp[isB]at hu))
section ops
variable {P:Program}{n:Nat}{ops:Array Oper}{Q:X0}{rest:List Oper}{l:Env}{w:World}
theorem GU(b:Q .normal l w):owp P n ops Q [] l w:=λ_ _ a=>wpList_nil (Jr trivial a b)
theorem Il{dst:Option Tmp}{b:Op}{ty:TypeId}{pos:String}{aft:Array Edge}
    (e:∀a f,Ok n a l->∀K:Act->World->Prop,(∀a' w',wpList P ops (YZ n Q) rest a' w'->K a' w')->(⟨dst,b,ty,pos,aft,none⟩:Oper).wp P a (dr w f) K (YZ n Q)):owp P n ops Q (⟨dst,b,ty,pos,aft,none⟩::rest) l w :=
  λa f c=>wpList_plain rfl λK d=>e a f c K d
theorem AT{f:Tmp}{b:Op}{ty:TypeId}{pos:String}{aft:Array Edge}{v:Value}(he:Ev P ⟨some f,b,ty,pos,aft,none⟩ l w v)(hd:Nat.blt f n=true)
    (g:owp P n ops Q rest ((f,v)::l) w):owp P n ops Q (⟨some f,b,ty,pos,aft,none⟩::rest) l w :=
  Il λa e c K d=>by
    unfold Oper.wp;rw[he n a e c];exact d _ _ (g _ _ (c.put hd v))
theorem HL{dst:Option Tmp}{c:Op}{ty:TypeId}{pos:String}{aft:Array Edge}{d:Env}{w':World}
    (he:∀a h,Ok n a l->(∃v b,(execOp a.eval ⟨dst,c,ty,pos,aft,none⟩).run P (dr w h)=.ok (.value v) (dr w' b)/\Ok n (a.put dst v) d)\/(∃b,(execOp a.eval ⟨dst,c,ty,pos,aft,none⟩).run P (dr w h)=.ok .skip (dr w' b)/\Ok n (a.put dst undef) d))
    (i:owp P n ops Q rest d w'):owp P n ops Q (⟨dst,c,ty,pos,aft,none⟩::rest) l w :=
  Il λa e g K f=>by
    unfold Oper.wp;rcases he a e g with⟨v,b,hr,ho⟩|⟨b,hr,ho⟩
    . rw[hr];exact f _ _ (i _ _ ho)
    . rw[hr];exact f _ _ (i _ _ ho)
theorem Az{dst:Option Tmp}{d:Op}{ty:TypeId}{pos:String}{aft:Array Edge}{j dj:Nat}{b:Bool}(hj:Aag ops j=some dj)(hl:lk l dj=some (.bool b))
    (g:owp P n ops Q (⟨dst,d,ty,pos,aft,none⟩::rest) l w):owp P n ops Q (⟨dst,d,ty,pos,aft,some (j,b)⟩::rest) l w:=λa h e=>by
  have c:=g a h e;have f:=e.yielded hj hl;unfold wpList at c ⊢;rw[if_pos (by simp[Region.wanted])]at c;rw[if_pos (by simp[Region.wanted,f])];exact c
theorem Ay{g:Tmp}{d:Op}{ty:TypeId}{pos:String}{aft:Array Edge}{j dj:Nat}{b:Bool}{u:Value}(hj:Aag ops j=some dj)(hl:lk l dj=some u)
    (h:owp P n ops Q rest ((g,undef)::l) w) (hu:isB u b=false:=by exact rfl) (hd:Nat.blt g n=true:=by exact rfl):owp P n ops Q (⟨some g,d,ty,pos,aft,some (j,b)⟩::rest) l w:=λa e c=>by
  have f:=c.unwanted (b:=b) hj hl hu;unfold wpList;rw[if_neg (by simpa[Region.wanted]using f)];exact h _ _ (c.put hd undef)
end ops
end
section
open Go Go.RowKit
class TSlice(P:Program)(t:TypeId)(e:outParam TypeId):Prop where eq:P.underlying t=some (.slice e)
class TStr(P:Program)(t:TypeId):Prop where eq:P.underlying t=some .string
class TPtr(P:Program)(t:TypeId)(e:outParam TypeId):Prop where eq:P.underlying t=some (.pointer e)
class TIface(P:Program)(t:TypeId):Prop where eq:∃ms,P.underlying t=some (.interface ms)
class TInt(P:Program)(t:TypeId)(k:outParam IntKind):Prop where eq:P.underlying t=some (.int k)
class TOne(P:Program)(t:TypeId):Prop where eq:∃d,P.underlying t=some d/\(match d with|.struct _|.array _ _=>false|_=>true)=true
class TAgg(P:Program)(t:TypeId):Prop where eq:∃d,P.underlying t=some d/\(match d with|.struct _|.array _ _=>true|_=>false)=true
class TInfo(P:Program)(t:TypeId)(z:outParam Value)(size bytes:outParam Nat):Prop where
  eq:∃i,P.info? t=some i/\i.zero=some z/\i.size=size/\i.bytes=bytes
  sz:z.cells.size=size
class TField(P:Program)(t:TypeId)(f:Nat)(off:outParam Nat):Prop where eq:∃fs fd i,P.underlying t=some (.struct fs)/\fs[f]?=some fd/\fd.offset=off/\P.info? fd.type=some i/\i.size≠0
theorem HT(b o k:Nat):(⟨b,o,none⟩:Addr).add k=⟨b,o+k,none⟩:=by
  unfold Addr.add;by_cases a:k=0<;>simp[a]
section
variable {P:Program}{l:Env}{w:World}{dst:Option Tmp}{ty:TypeId}{pos:String}{aft:Array Edge}
theorem DZ{t:TypeId}{z:Value}{size bytes:Nat}[a:TInfo P t z size bytes](w:World):(sizeOf t).run P w=.ok size w:=by
  obtain⟨i,hi,_,hs,_⟩:=a.eq;simp[sizeOf,typeInfo,hi,hs]
theorem Ql{t:TypeId}{i:TypeInfo}(hi:P.info? t=some i)(w:World):(typeInfo t).run P w=.ok i w:=by
  simp[typeInfo,hi]
theorem HH{t:TypeId}{z:Value}{size bytes:Nat}[a:TInfo P t z size bytes](w:World):(zeroValue t).run P w=.ok z w:=by
  obtain⟨i,hi,hz,_,_⟩:=a.eq;simp[zeroValue,typeInfo,hi,hz]
theorem HU{t:TypeId}[a:TOne P t](w:World):(isAgg t).run P w=.ok false w:=by
  obtain⟨b,hd,hm⟩:=a.eq;cases b<;>simp_all [isAgg,run_underlying hd]
theorem IS{t:TypeId}[a:TAgg P t](w:World):(isAgg t).run P w=.ok true w:=by
  obtain⟨b,hd,hm⟩:=a.eq;cases b<;>simp_all [isAgg,run_underlying hd]
theorem Di{x:Operand}{v:Value}(b:opv l x=some v):Ev P ⟨dst,.move x,ty,pos,aft,none⟩ l w v:=λ_ a d c=>by simp[execOp,c.eval b]
theorem Dj{x:Operand}{v:Value}(b:opv l x=some v):Ev P ⟨dst,.assign x,ty,pos,aft,none⟩ l w v:=λ_ a d c=>by simp[execOp,c.eval b]
theorem MY{c x y:Operand}{v:Value}(hc:opv l c=some (.bool true))(d:opv l x=some v):Ev P ⟨dst,.pick c x y,ty,pos,aft,none⟩ l w v:=λ_ a e b=>by simp[execOp,b.eval d,b.eval hc,asBool]
theorem MZ{c x y:Operand}{v:Value}(hc:opv l c=some (.bool false))(d:opv l y=some v):Ev P ⟨dst,.pick c x y,ty,pos,aft,none⟩ l w v:=λ_ a e b=>by simp[execOp,b.eval d,b.eval hc,asBool]
theorem NI{t:TypeId}{x:Operand}{b:Bool}(c:opv l x=some (.bool b)):Ev P ⟨dst,.unOp .not t x,ty,pos,aft,none⟩ l w (.bool (!b)):=λ_ a e d=>by simp[execOp,d.eval c,Op.unary]
theorem RY{t:TypeId}{x:Operand}(a:opv l x=some (.bool true)):Ev P ⟨dst,.unOp .not t x,ty,pos,aft,none⟩ l w (.bool false):=NI a
theorem RZ{t:TypeId}{x:Operand}(a:opv l x=some (.bool false)):Ev P ⟨dst,.unOp .not t x,ty,pos,aft,none⟩ l w (.bool true):=NI a
theorem Do{t u:TypeId}{x y:Operand}{k:IntKind}{a b:Int}(d:opv l x=some (.int k a))(e:opv l y=some (.int k b)):Ev P ⟨dst,.binOp .lss t x y u,ty,pos,aft,none⟩ l w (.bool (decide (a<b))):=λ_ _ f c=>by simp[execOp,c.eval d,c.eval e,eqGuard,binOp,Op.intCmp]
theorem KN{t u:TypeId}{x y:Operand}{k:IntKind}{a b:Int}(d:opv l x=some (.int k a))(e:opv l y=some (.int k b)):Ev P ⟨dst,.binOp .leq t x y u,ty,pos,aft,none⟩ l w (.bool (decide (a<=b))):=λ_ _ f c=>by simp[execOp,c.eval d,c.eval e,eqGuard,binOp,Op.intCmp]
theorem Gi{t u:TypeId}{x y:Operand}{k:IntKind}{a b:Int}(d:opv l x=some (.int k a))(e:opv l y=some (.int k b)):Ev P ⟨dst,.binOp .gtr t x y u,ty,pos,aft,none⟩ l w (.bool (decide (b<a))):=λ_ _ f c=>by simp[execOp,c.eval d,c.eval e,eqGuard,binOp,Op.intCmp]
theorem Bi{t u:TypeId}{x y:Operand}{k:IntKind}{a b:Int}(d:opv l x=some (.int k a))(e:opv l y=some (.int k b)):Ev P ⟨dst,.binOp .geq t x y u,ty,pos,aft,none⟩ l w (.bool (decide (b<=a))):=λ_ _ f c=>by simp[execOp,c.eval d,c.eval e,eqGuard,binOp,Op.intCmp]
theorem IL{t u:TypeId}{x y:Operand}{k:IntKind}{a b:Int}(d:opv l x=some (.int k a))(e:opv l y=some (.int k b)):Ev P ⟨dst,.binOp .eql t x y u,ty,pos,aft,none⟩ l w (.bool (decide (a=b))):=λ_ _ f c=>by
  simp[execOp,c.eval d,c.eval e,eqGuard,binOp,Op.intCmp];by_cases g:a=b<;>simp[g]
theorem WZ{t u:TypeId}{x y:Operand}{k:IntKind}{a b:Int}(d:opv l x=some (.int k a))(e:opv l y=some (.int k b)):Ev P ⟨dst,.binOp .neq t x y u,ty,pos,aft,none⟩ l w (.bool (!decide (a=b))):=λ_ _ f c=>by
  simp[execOp,c.eval d,c.eval e,eqGuard,binOp,Op.intCmp];by_cases g:a=b<;>simp[g]
theorem wrap_i64{z:Int}(a:-9223372036854775808<=z)(b:z<=9223372036854775807):IntKind.i64.wrap z=z:=by
  rw[IntKind.wrap_i64];omega
theorem JA{t u:TypeId}{x y:Operand}{a b:Int}(d:opv l x=some (.int .i64 a))(e:opv l y=some (.int .i64 b))(f:-9223372036854775808<=a+b/\a+b<=9223372036854775807):Ev P ⟨dst,.binOp .add t x y u,ty,pos,aft,none⟩ l w (.int .i64 (a+b)):=λ_ _ g c=>by
  simp[execOp,c.eval d,c.eval e,eqGuard,binOp,Op.intArith,wrap_i64 f.1 f.2]
theorem LG{t u:TypeId}{x y:Operand}{a b:Int}(d:opv l x=some (.int .i64 a))(e:opv l y=some (.int .i64 b))(f:-9223372036854775808<=a-b/\a-b<=9223372036854775807):Ev P ⟨dst,.binOp .sub t x y u,ty,pos,aft,none⟩ l w (.int .i64 (a-b)):=λ_ _ g c=>by
  simp[execOp,c.eval d,c.eval e,eqGuard,binOp,Op.intArith,wrap_i64 f.1 f.2]
theorem Tw{t u:TypeId}{x y:Operand}{a b:Int}(d:opv l x=some (.int .i64 a))(e:opv l y=some (.int .i64 b))(f:-9223372036854775808<=a*b/\a*b<=9223372036854775807):Ev P ⟨dst,.binOp .mul t x y u,ty,pos,aft,none⟩ l w (.int .i64 (a*b)):=λ_ _ g c=>by
  simp[execOp,c.eval d,c.eval e,eqGuard,binOp,Op.intArith,wrap_i64 f.1 f.2]
theorem Qm{t u:TypeId}{x:Operand}{a:Nat}(c:opv l x=some (.int .i64 (a:Int)))(d:a<9223372036854775807):Ev P ⟨dst,.binOp .add t x (.const (.int .i64 1)) u,ty,pos,aft,none⟩ l w (.int .i64 ((a+1:Nat):Int)):=λ_ _ e b=>by
  simp[execOp,b.eval c,b.eval (x:=.const (.int .i64 1)) rfl,eqGuard,binOp,Op.intArith,wrap_i64 (z:=(a:Int)+1) (by omega) (by omega)]
theorem Xa{t u:TypeId}{x y:Operand}{k:IntKind}{a b:Int}(e:opv l x=some (.int k a))(f:opv l y=some (.int k b))(c:0<=a)(hb:0<b):Ev P ⟨dst,.binOp .rem t x y u,ty,pos,aft,none⟩ l w (.int k (a%b)):=λ_ _ g d=>by
  have:b≠0:=(by omega);simp[execOp,d.eval e,d.eval f,eqGuard,binOp,Op.intDiv,this,Int.tmod_eq_emod_of_nonneg c]
theorem IM{t e:TypeId}[f:TSlice P t e]{x:Operand}{A:Option Addr}{m c:Nat}(b:opv l x=some (.slice A m c)):Ev P ⟨dst,.call { callee:=.builtin .len,args:=#[x],argTypes:=#[t] },ty,pos,aft,none⟩ l w (.int .i64 (m:Int)):=λ_ a g d=>by
  simp[execOp,resolve,invoke,builtin,d.eval b,Builtin.len_,run_underlying f.eq,goInt]
theorem Tx{t:TypeId}[d:TStr P t]{x:Operand}{s:ByteArray}(b:opv l x=some (.string s)):Ev P ⟨dst,.call { callee:=.builtin .len,args:=#[x],argTypes:=#[t] },ty,pos,aft,none⟩ l w (.int .i64 (s.size:Int)):=λ_ a e c=>by
  simp[execOp,resolve,invoke,builtin,c.eval b,Builtin.len_,run_underlying d.eq,goInt]
theorem Ty{d e:TypeId}{x y:Operand}{k:IntKind}{a b:Int}(f:opv l x=some (.int k a))(g:opv l y=some (.int k b)):Ev P ⟨dst,.call { callee:=.builtin .min,args:=#[x,y],argTypes:=#[d,e] },ty,pos,aft,none⟩ l w (.int k (min a b)):=λ_ _ h c=>by
  simp[execOp,resolve,invoke,builtin,c.eval f,c.eval g,Builtin.min_,Builtin.min2];by_cases i:b<a<;>simp[i]<;>omega
theorem Xb{d e:TypeId}{x y:Operand}{k:IntKind}{a b:Int}(f:opv l x=some (.int k a))(g:opv l y=some (.int k b)):Ev P ⟨dst,.call { callee:=.builtin .max,args:=#[x,y],argTypes:=#[d,e] },ty,pos,aft,none⟩ l w (.int k (max a b)):=λ_ _ h c=>by
  simp[execOp,resolve,invoke,builtin,c.eval f,c.eval g,Builtin.max_,Builtin.max2];by_cases i:a<b<;>simp[i]<;>omega
theorem HV{t e:TypeId}[h:TSlice P t e]{z:Value}{size bytes:Nat}[hi:TInfo P e z size bytes]{x i:Operand}{k:IntKind}{b o m c j:Nat}{q:Int}(f:opv l x=some (.slice (some ⟨b,o,none⟩) m c))(g:opv l i=some (.int k q))(hj:q=(j:Int))(hlt:j<m) :
    Ev P ⟨dst,.indexAddr t x i,ty,pos,aft,none⟩ l w (.pointer (some ⟨b,o+j*size,none⟩)):=λ_ a n d=>by
  subst hj;simp[execOp,d.eval f,d.eval g,Instr.indexAt,asIntOf,run_underlying h.eq,DZ (P:=P) (t:=e),HT,hlt]
theorem Dd{t:TypeId}{f off:Nat}[g:TField P t f off]{x:Operand}{b o:Nat}(c:opv l x=some (.pointer (some ⟨b,o,none⟩))):Ev P ⟨dst,.fieldAddr t x f,ty,pos,aft,none⟩ l w (.pointer (some ⟨b,o+off,none⟩)):=λ_ a h d=>by
  obtain⟨e,fd,i,h1,h2,h3,h4,h5⟩:=g.eq;simp[execOp,d.eval c,Instr.fieldAt,run_underlying h1,h2,Instr.sureAddr,fieldPlace,sizeOf,Ql h4,h5,h3,HT]
theorem CJ{t:TypeId}[TOne P t]{x:Operand}{b:Addr}{v:Value}(c:opv l x=some (.pointer (some b)))(hc:w.cell? b=some v):Ev P ⟨dst,.load t x,ty,pos,aft,none⟩ l w v:=λ_ a e d=>by
  simp[execOp,d.eval c,Instr.loadAt,Instr.sureAddr,loadVar,HU,load,Sem.run,KM,hc]
theorem Ht(w:World)(b o:Nat):∀(cs:List Value)(i:Nat)(a:Array Value),(∀j v,cs[j]?=some v->w.cell? ⟨b,o+(i+j),none⟩=some v) ->
    (loadCellsFrom ⟨b,o,none⟩ i cs.length a).run P w=.ok (a++cs.toArray) w
  |[],i,a,_=>by simp[loadCellsFrom]
  |c  :: cs,i,a,h=>by
    have d:=h 0 c rfl;simp only[U0]at d;have e:=Ht w b o cs (i+1) (a.push c) (λj v f=>by
      have:=h (j+1) v (by simpa using f);rwa[show o+(i+1+j)=o+(i+(j+1))from by omega])
    simp only[M8,loadCellsFrom];simp[load,Sem.run,HT,d,e]
def cellsAt(w:World)(b o:Nat):List Value->Prop
  |[]=>True
  |v::r=>w.cell? ⟨b,o,none⟩=some v/\cellsAt w b (o+1) r
theorem DY{w:World}{b:Nat}:∀{cs:List Value}{o:Nat},cellsAt w b o cs->∀j v,cs[j]?=some v->w.cell? ⟨b,o+j,none⟩=some v
  |[],o,_,j,v,h=>by simp at h
  |c::r,o,hc,0,v,h=>by           have:c=v:=by simpa using h
                                 subst this;exact hc.1
  |c::r,o,hc,j+1,v,h=>by
    have:=DY hc.2 j v (by simpa using h);rwa[show o+(j+1)=o+1+j from by omega]
theorem GL{w:World}{b:Nat}:∀{cs:List Value}{o:Nat},(∀j v,cs[j]?=some v->w.cell? ⟨b,o+j,none⟩=some v)->cellsAt w b o cs
  |[],_,_=>trivial
  |c  :: r,o,h=>⟨h 0 c rfl,GL λj v a=>by
      have:=h (j+1) v (by simpa using a);rwa[show o+1+j=o+(j+1)from by omega]⟩
theorem Fp{t:TypeId}[TAgg P t]{z:Value}{size bytes:Nat}[TInfo P t z size bytes]{x:Operand}{b o:Nat}{cs:List Value}(c:opv l x=some (.pointer (some ⟨b,o,none⟩)))(hl:cs.length=size)(hc:cellsAt w b o cs) :
    Ev P ⟨dst,.load t x,ty,pos,aft,none⟩ l w (.agg cs.toArray):=λ_ a f d=>by
  subst hl;have:=Ht (P:=P) (dr w f) b o cs 0 #[] (λj v e=>by rw[U4];exact DY hc j v e);simp[execOp,d.eval c,Instr.loadAt,Instr.sureAddr,loadVar,IS,DZ (P:=P) (t:=t),loadCells,this]
theorem Na{x:Operand}{b:Addr}(c:opv l x=some (.pointer (some b))):Ev P ⟨dst,.nilCheck x,ty,pos,aft,none⟩ l w (.pointer (some b)):=λ_ a e d=>by
  simp[execOp,d.eval c]
theorem NJ{x:Operand}{i:Nat}{vs:Array Value}{v:Value}(b:opv l x=some (.tuple vs))(hi:vs[i]?=some v):Ev P ⟨dst,.extract x i,ty,pos,aft,none⟩ l w v:=λ_ a d c=>by
  simp[execOp,c.eval b,Instr.extract,hi]
theorem NK{t:TypeId}{k:IntKind}[hk:TInt P t k]{x:Operand}{v:Value}(b:opv l x=some v):Ev P ⟨dst,.makeInterface t x,ty,pos,aft,none⟩ l w (.iface t v):=λ_ a d c=>by
  simp[execOp,c.eval b,Instr.makeInterface,run_underlying hk.eq]
theorem Nb{t e:TypeId}[a:TPtr P t e](p:Option Addr)(w:World):(Op.equal t (.pointer p) (.pointer none)).run P w=.ok p.isNone w:=by
  have hd:∀b:Nat,(Op.equalIn (b+1) t (.pointer p) (.pointer none)).run P w=.ok p.isNone w:=λb=>by
    cases p<;>simp[Op.equalIn,run_underlying a.eq]
  exact hd 9999
theorem JB{t:TypeId}[b:TIface P t](w:World):(Op.equal t .nilIface .nilIface).run P w=.ok true w:=by
  obtain⟨a,hm⟩:=b.eq;have hd:∀c:Nat,(Op.equalIn (c+1) t .nilIface .nilIface).run P w=.ok true w:=λc=>by
    simp[Op.equalIn,run_underlying hm]
  exact hd 9999
theorem IN{t:TypeId}[b:TIface P t](s:TypeId)(v:Value)(w:World):(Op.equal t (.iface s v) .nilIface).run P w=.ok false w:=by
  obtain⟨a,hm⟩:=b.eq;have hd:∀c:Nat,(Op.equalIn (c+1) t (.iface s v) .nilIface).run P w=.ok false w:=λc=>by
    simp[Op.equalIn,run_underlying hm]
  exact hd 9999
theorem Pj{t e u:TypeId}[f:TPtr P t e]{x:Operand}{p:Option Addr}(c:opv l x=some (.pointer p)):Ev P ⟨dst,.binOp .eql t x (.const (.pointer none)) u,ty,pos,aft,none⟩ l w (.bool p.isNone):=λ_ a g b=>by
  have d:=b.eval (x:=.const (.pointer none)) (v:=.pointer none) rfl;simp[execOp,b.eval c,d,eqGuard,binOp,Nb (P:=P) (t:=t)]
theorem Pk{t u:TypeId}[e:TIface P t]{x:Operand}(c:opv l x=some .nilIface):Ev P ⟨dst,.binOp .eql t x (.const .nilIface) u,ty,pos,aft,none⟩ l w (.bool true):=λ_ a f b=>by
  have d:=b.eval (x:=.const .nilIface) (v:=.nilIface) rfl;simp[execOp,b.eval c,d,eqGuard,binOp,JB (P:=P) (t:=t)]
theorem NL{t u:TypeId}[e:TIface P t]{x:Operand}{s:TypeId}{v:Value}(c:opv l x=some (.iface s v)):Ev P ⟨dst,.binOp .eql t x (.const .nilIface) u,ty,pos,aft,none⟩ l w (.bool false):=λ_ a f b=>by
  have d:=b.eval (x:=.const .nilIface) (v:=.nilIface) rfl;simp[execOp,b.eval c,d,eqGuard,binOp,IN (P:=P) (t:=t)]
theorem NM{t u:TypeId}[e:TIface P t]{x:Operand}(c:opv l x=some .nilIface):Ev P ⟨dst,.binOp .neq t x (.const .nilIface) u,ty,pos,aft,none⟩ l w (.bool false):=λ_ a f b=>by
  have d:=b.eval (x:=.const .nilIface) (v:=.nilIface) rfl;simp[execOp,b.eval c,d,eqGuard,binOp,JB (P:=P) (t:=t)]
theorem MP{t u:TypeId}[e:TIface P t]{x:Operand}{s:TypeId}{v:Value}(c:opv l x=some (.iface s v)):Ev P ⟨dst,.binOp .neq t x (.const .nilIface) u,ty,pos,aft,none⟩ l w (.bool true):=λ_ a f b=>by
  have d:=b.eval (x:=.const .nilIface) (v:=.nilIface) rfl;simp[execOp,b.eval c,d,eqGuard,binOp,IN (P:=P) (t:=t)]
theorem UG{t:TypeId}[e:TStr P t]{x i:Operand}{k:IntKind}{s:ByteArray}{j:Nat}(c:opv l x=some (.string s))(d:opv l i=some (.int k (j:Int)))(hlt:j<s.size) :
    Ev P ⟨dst,.index t x i,ty,pos,aft,none⟩ l w (.int .u8 ((s[j]'hlt).toNat:Int)):=λ_ a f b=>by
  simp[execOp,b.eval c,b.eval d,Instr.index,asIntOf,run_underlying e.eq,hlt]
theorem Pm{b:Fn}{xs ys:List Operand}{vs c:List Value}(e:X5 l xs=some vs)(f:X5 l ys=some c):Ev P ⟨dst,.makeFunc b xs.toArray ys.toArray,ty,pos,aft,none⟩ l w (.func b vs.toArray c.toArray):=λ_ a g d=>by
  simp[execOp,Instr.makeFunc,d.evals e,d.evals f]
end
end
section
open Go Go.RowKit
def Agree(F:Nat->Prop)(w w':World):Prop:=∀k,F k->w'.heap[k]?=w.heap[k]?
abbrev Ext(w w':World):Prop:=Below w.heap.size w w'
theorem Ext.agree{w w':World}(b:Ext w w'){F:Nat->Prop}(a:∀k,F k->k<w.heap.size):Agree F w w':=λk hk=>b.block k (a k hk)
theorem Ext.trans'{a b c:World}(d:Ext a b)(k:Ext b c):Ext a c:=d.trans (k.mono d.size)
theorem Agree.cell{F:Nat->Prop}{w w':World}(c:Agree F w w'){a:Addr}(b:F a.block):w'.cell? a=w.cell? a:=World.cell?_of_block (c _ b)
theorem DD{F:Nat->Prop}{w w':World}(a:Agree F w w'){b:Nat}(hb:F b):∀{cs:List Value}{o:Nat},cellsAt w b o cs->cellsAt w' b o cs
  |[],_,_=>trivial
  |_::_,_,hc=>⟨(a.cell hb).trans hc.1,DD a hb hc.2⟩
theorem LH{w w':World}{b o:Nat}{cs:List Value}(c:cellsAt w b o cs)(hb:b<w.heap.size)(a:Ext w w'):cellsAt w' b o cs:=DD (F:=(· < w.heap.size)) (a.agree λ_ c=>c) hb c
theorem Dt{w:World}{b:Nat}:∀{xs ys:List Value}{o:Nat},cellsAt w b o (xs++ys)↔cellsAt w b o xs/\cellsAt w b (o+xs.length) ys
  |[],ys,o=>by simp[cellsAt]
  |x::xs,ys,o=>by
    simp only[M9,cellsAt,M8];rw[Dt,show o+1+xs.length=o+(xs.length+1)from by omega,and_assoc]
class Rp(α:Type) where
  isAgg:Bool
  size:Nat
  R:World->(Nat->Prop)->List Value->α->Prop
  len:∀{w F cs x},R w F cs x->cs.length=size
  one:∀{w F cs x},R w F cs x->∀u∈cs,u.oneCell'=true
  agree:∀{w w' F cs x},R w F cs x->Agree F w w'->R w' F cs x
  mono:∀{w F G cs x},R w F cs x->(∀k,F k->G k)->R w G cs x
def Chunks{α:Type}[Rp α](w:World)(F:Nat->Prop):List Value->List α->Prop
  |cells,[]=>cells=[]
  |cells,x::xs=>∃cs a,cells=cs++a/\Rp.R w F cs x/\Chunks w F a xs
section
variable {α:Type}[Rp α]{w w':World}{F G:Nat → Prop}
theorem Chunks.length:∀{xs:List α}{cells:List Value},Chunks w F cells xs->cells.length=xs.length*Rp.size α
  |[],cells,h=>by      have:cells=[]:=h
                       simp[this]
  |x::xs,cells,⟨cs,rest,he,hr,hc⟩=>by
    rw[he,K0,Rp.len hr,Chunks.length hc,M8,V3];omega
theorem Chunks.one:∀{xs:List  α}{cells:List Value},Chunks w F cells xs->∀u∈cells,u.oneCell'=true
  |[],cells,h,u,hu=>by        have:cells=[]:=h
                              simp[this]at hu
  |x::xs,cells,⟨cs,rest,he,hr,hc⟩,u,hu=>by
    rw[he,P8]at hu;rcases hu with hu|hu
    . exact Rp.one hr u hu
    . exact Chunks.one hc u hu
theorem Chunks.agree(a:Agree F w w'):∀{xs:List α}{cells:List Value},Chunks w F cells xs->Chunks w' F cells xs
  |[],_,hc=>hc
  |_::_,_,⟨cs,rest,he,hr,hc⟩=>⟨cs,rest,he,Rp.agree hr a,Chunks.agree a hc⟩
theorem Chunks.mono(a:∀k,F k->G k):∀{xs:List α}{cells:List Value},Chunks w F cells xs->Chunks w G cells xs
  |[],_,hc=>hc
  |_::_,_,⟨cs,rest,he,hr,hc⟩=>⟨cs,rest,he,Rp.mono hr a,Chunks.mono a hc⟩
theorem Chunks.append:∀{xs ys:List α}{c a:List Value},Chunks w F c xs->Chunks w F a ys->Chunks w F (c++a) (xs++ys)
  |[],ys,c,a,h,k=>by         have:c=[]:=h
                             subst this;exact k
  |x::xs,ys,c,a,⟨cs,rest,he,hr,hc⟩,k=>⟨cs,rest++a,by rw[he,L8],hr,Chunks.append hc k⟩
theorem Chunks.single{x:α}{cs:List Value}(a:Rp.R w F cs x):Chunks w F cs [x]:=⟨cs,[],by simp,a,rfl⟩
theorem Chunks.get:∀{xs:List α}{cells:List Value},Chunks w F cells xs->∀{i:Nat}{x:α},xs[i]?=some x->∃b cs a,cells=b++(cs++a)/\b.length=i*Rp.size α/\Rp.R w F cs x
  |[],_,_,i,x,h=>by simp at h
  |y::xs,cells,⟨cs,rest,he,hr,hc⟩,0,x,h=>by
    have:y=x:=(by simpa using h);subst this;exact⟨[],cs,rest,by simpa using he,by simp,hr⟩
  |y::xs,cells,⟨cs,rest,he,hr,hc⟩,i+1,x,h=>by
    obtain⟨b,c',a,h1,h2,h3⟩:=Chunks.get hc (i:=i) (x:=x) (by simpa using h);exact⟨cs++b,c',a,by rw[he,h1,L8],by rw[K0,h2,Rp.len hr,V3];omega,h3⟩
theorem Chunks.take:∀{xs :    List α}{cells:List Value}(k:Nat),Chunks w F cells xs→Chunks w F (cells.take (k*Rp.size α)) (xs.take k)
  |xs,cells,0,h=>by simp[Chunks]
  |[],cells,k+1,h=>by         have:cells=[]:=h
                              simp[this,Chunks]
  |x::xs,cells,k+1,⟨cs,rest,he,hr,hc⟩=>by
    refine⟨cs,rest.take (k*Rp.size α),?_,hr,Chunks.take k hc⟩;rw[he,List.take_append,Rp.len hr,show(k+1)*Rp.size α-Rp.size α=k*Rp.size α from by rw[V3];omega,E5 (by rw[Rp.len hr,V3];omega)]
theorem Chunks.drop:∀{xs :    List α}{cells:List Value}(k:Nat),Chunks w F cells xs→Chunks w F (cells.drop (k*Rp.size α)) (xs.drop k)
  |xs,cells,0,h=>by simpa using h
  |[],cells,k+1,h=>by         have:cells=[]:=h
                              simp[this,Chunks]
  |x::xs,cells,k+1,⟨cs,rest,he,hr,hc⟩=>by
    have:=Chunks.drop k hc;rw[he,List.drop_append,Rp.len hr,show(k+1)*Rp.size α-Rp.size α=k*Rp.size α from by rw[V3];omega,List.drop_of_length_le (by rw[Rp.len hr,V3];omega)];simpa using this
end
def SlR{α:Type}[Rp α](w:World)(F:Nat->Prop)(v:Value)(xs:List α):Prop :=
  ∃A c cells,v=.slice A xs.length c/\xs.length<=c/\c<=9223372036854775807/\Chunks w F cells xs/\(0<xs.length->∃b o,A=some ⟨b,o,none⟩/\F b/\cellsAt w b o cells)
instance{α:Type}[Rp α]:Rp (List α) where
  isAgg:=false
  size:=1
  R w F cs xs:=∃v,cs=[v]/\SlR w F v xs
  len:=by rintro w F cs x ⟨v,rfl,_⟩;rfl
  one:=by
    rintro w F cs x ⟨v,rfl,A,c,cells,rfl,_⟩ u hu;have:u=.slice A x.length c:=(by simpa using hu);subst this;rfl
  agree:=by
    rintro w w' F cs x ⟨v,rfl,A,c,cells,rfl,h1,h2,h3,h4⟩ h;refine⟨_,rfl,A,c,cells,rfl,h1,h2,h3.agree h,λhn=>?_⟩;obtain⟨b,o,h5,h6,h7⟩:=h4 hn;exact⟨b,o,h5,h6,DD h h6 h7⟩
  mono:=by
    rintro w F G cs x ⟨v,rfl,A,c,cells,rfl,h1,h2,h3,h4⟩ h;refine⟨_,rfl,A,c,cells,rfl,h1,h2,h3.mono h,λhn=>?_⟩;obtain⟨b,o,h5,h6,h7⟩:=h4 hn;exact⟨b,o,h5,h _ h6,h7⟩
def W1(n:Int):Prop:=-9223372036854775808<=n/\n<=9223372036854775807
instance:Rp Int where
  isAgg:=false
  size:=1
  R _ _ cs n:=cs=[.int .i64 n]/\W1 n
  len:=by rintro w F cs x ⟨rfl,_⟩;rfl
  one:=by
    rintro w F cs x ⟨rfl,_⟩ u hu;have:u=.int .i64 x:=(by simpa using hu);subst this;rfl
  agree:=λa _=>a
  mono:=λa _=>a
instance:Rp Bool where
  isAgg:=false
  size:=1
  R _ _ cs b:=cs=[.bool b]
  len:=by rintro w F cs x rfl;rfl
  one:=by
    rintro w F cs x rfl u hu;have:u=.bool x:=(by simpa using hu);subst this;rfl
  agree:=λa _=>a
  mono:=λa _=>a
instance:Rp ByteArray where
  isAgg:=false
  size:=1
  R _ _ cs s:=cs=[.string s]/\s.size<=9223372036854775807
  len:=by rintro w F cs x ⟨rfl,_⟩;rfl
  one:=by
    rintro w F cs x ⟨rfl,_⟩ u hu;have:u=.string x:=(by simpa using hu);subst this;rfl
  agree:=λa _=>a
  mono:=λa _=>a
def Vb{α:Type}[Rp α](w:World)(F:Nat->Prop)(v:Value)(x:α):Prop :=
  match Rp.isAgg α with
  |true=>∃cs:List Value,v=.agg cs.toArray/\Rp.R w F cs x
  |false=>Rp.R w F [v] x
abbrev All(w:World):Nat->Prop:=λk=>k<w.heap.size
abbrev V{α:Type}[Rp α](w:World)(v:Value)(x:α):Prop:=Vb w (All w) v x
section
variable {α:Type}[Rp α]{w w':World}{F G:Nat → Prop}{v:Value}{x:α}{xs:List α}
theorem Vb.agree(b:Vb w F v x)(a:Agree F w w'):Vb w' F v x:=by
  unfold Vb at *
  cases hb:Rp.isAgg α<;>simp only[hb]at b ⊢
  . exact Rp.agree b a
  . obtain⟨cs,h1,h2⟩:=b;exact⟨cs,h1,Rp.agree h2 a⟩
theorem Vb.mono(a:Vb w F v x)(hk:∀k,F k->G k):Vb w G v x:=by
  unfold Vb at *
  cases hb:Rp.isAgg α<;>simp only[hb]at a ⊢
  . exact Rp.mono a hk
  . obtain⟨cs,h1,h2⟩:=a;exact⟨cs,h1,Rp.mono h2 hk⟩
theorem Vb.ext(a:V w v x)(he:Ext w w'):V w' v x:=(a.agree (he.agree λ_ a=>a)).mono λ_ hk=>K1 hk he.size
theorem Vb.below{a:Nat}(b:Vb w (· < a) v x)(he:Below a w w'):Vb w' (· < a) v x:=b.agree λk hk=>he.block k hk
theorem Vb.cells(b:Vb w F v x):Rp.R w F v.cells.toList x:=by
  unfold Vb at b;cases hb:Rp.isAgg α<;>simp only[hb]at b
  . have a:=Rp.one b v (by simp);have:v.cells.toList=[v]:=(by cases v<;>first|rfl|(simp[Value.oneCell']at a));rw[this];exact b
  . obtain⟨cs,rfl,h2⟩:=b;exact h2
theorem Vb.slice(a:Vb w F v xs):SlR w F v xs:=by
  obtain⟨u,hu,h'⟩:=a;have:v=u:=(by simpa using hu);subst this;exact h'
theorem Vb.of_slice(a:SlR w F v xs):Vb w F v xs:=⟨v,rfl,a⟩
theorem Vb.nil(w:World)(F:Nat->Prop):Vb (α:=List α) w F (.slice none 0 0) []:=.of_slice ⟨none,0,[],rfl,V2 _,by omega,rfl,λa=>by simp at a⟩
theorem Vb.elem{A:Option Addr}{m c:Nat}(h:Vb w F (.slice A m c) xs){k:Nat}{x:α}(d:xs[k]?=some x) :
    ∃b o cs,A=some ⟨b,o,none⟩/\F b/\k<m/\cellsAt w b (o+k*Rp.size α) cs/\Rp.R w F cs x:=by
  obtain⟨j,c',cells,he,h1,h2,h3,h4⟩:=h.slice;injection he with e f g;subst e;subst f;subst g;have hk:k<xs.length:=by
    rcases T9 k xs.length with h|h
    . exact h
    . rw[F2 h]at d;cases d
  obtain⟨b,o,h5,h6,h7⟩:=h4 (by omega);obtain⟨i,cs,post,h8,h9,h10⟩:=h3.get d;rw[h8]at h7;have a:=(Dt.1 (Dt.1 h7).2).1;rw[h9]at a;exact⟨b,o,cs,h5,h6,hk,a,h10⟩
theorem Vb.len{A:Option Addr}{m c:Nat}(f:Vb w F (.slice A m c) xs):m=xs.length/\m<=c/\c<=9223372036854775807:=by
  obtain⟨d,c',cells,he,h1,h2,h3,h4⟩:=f.slice;injection he with e a b;subst a;subst b;exact⟨rfl,h1,h2⟩
theorem Vb.form(b:Vb w F v xs):∃A c,v=.slice A xs.length c:=by
  obtain⟨a,c',cells,he,_⟩:=b.slice;exact⟨a,c',he⟩
end
theorem Vb.cut{α:Type}[Rp α]{w:World}{F:Nat->Prop}{A:Option Addr}{m c:Nat}{xs:List α}(n:Vb w F (.slice A m c) xs){lo hi mx:Nat}(f:lo<=hi)(g:hi<=m)(h:hi<=mx)(i:mx<=c) :
    Vb w F (.slice (if mx=lo then A else A.map (·.add (lo*Rp.size α))) (hi-lo) (mx-lo)) ((xs.take hi).drop lo):=by
  obtain⟨k,c',cells,he,g1,g2,g3,g4⟩:=n.slice;injection he with a d e;subst a;subst d;subst e;have hl:((xs.take hi).drop lo).length=hi-lo:=(by simp;omega);refine .of_slice ⟨_,mx-lo,(cells.take (hi*Rp.size α)).drop (lo*Rp.size α),by rw[hl],by omega,by omega,(g3.take hi).drop lo,λl=>?_⟩;obtain⟨b,o,h5,h6,h7⟩:=g4 (by omega);subst h5;refine⟨b,o+lo*Rp.size α,?_,h6,?_⟩
  . rw[if_neg (by omega)];simp[HT]
  . refine GL λj u hu=>?_;have:=DY h7 (lo*Rp.size α+j) u (by
      rw[K2]at hu;rw[K3]at hu;split at hu
      . exact hu
      . cases hu)
    rwa[show o+lo*Rp.size α+j=o+(lo*Rp.size α+j)from by omega]
def Blk(w:World)(g:Nat)(t:TypeId)(cs:List Value):Prop:=w.heap[g]?=some (.cells cs.toArray t (0,0))
section
variable {w w':World}{g:Nat}{t:TypeId}{cs:List Value}
theorem Blk.lt(a:Blk w g t cs):g<w.heap.size:=by
  rcases T9 g w.heap.size with hlt|hge
  . exact hlt
  . unfold Blk at a;rw[E6 hge]at a;cases a
theorem Blk.cell(a:Blk w g t cs){i:Nat}{v:Value}(hi:cs[i]?=some v):w.cell? ⟨g,i,none⟩=some v:=by
  unfold Blk at a;simp[World.cell?,a,hi]
theorem Blk.cellsAt(b:Blk w g t cs):cellsAt w g 0 cs:=GL λj v a=>by rw[U4];exact b.cell a
theorem Blk.frozen(a:Blk w g t cs)(i:Nat):w.frozen? ⟨g,i,none⟩=false:=by
  unfold Blk at a;simp[World.frozen?,a]
theorem Blk.keep(a:Blk w g t cs)(he:w'.heap[g]?=w.heap[g]?):Blk w' g t cs:=he.trans a
theorem Blk.ext(a:Blk w g t cs)(he:Ext w w'):Blk w' g t cs:=a.keep (he.block g a.lt)
end
structure New(w w':World)(t:TypeId)(cs:List Value):Prop where
  ext:Ext w w'
  size:w'.heap.size=w.heap.size+1
  blk:Blk w' w.heap.size t cs
structure Upd(w w':World)(g:Nat)(t:TypeId)(cs:List Value):Prop where
  os:w'.os=w.os
  tape:w'.tape=w.tape
  output:w'.output=w.output
  size:w'.heap.size=w.heap.size
  blk:Blk w' g t cs
  other:∀k,k≠g->w'.heap[k]?=w.heap[k]?
theorem Upd.below{w w':World}{g:Nat}{t:TypeId}{cs:List Value}(b:Upd w w' g t cs){c:Nat}(a:c<=g):Below c w w' :=
  ⟨b.os,b.tape,b.output,U6 b.size.symm,λk hk=>b.other k (by omega)⟩
theorem Upd.agree{w w':World}{g:Nat}{t:TypeId}{cs:List Value}(b:Upd w w' g t cs){F:Nat->Prop}(a:¬F g):Agree F w w':=λk hk=>b.other k (λe=>a (e▸hk))
theorem New.mk'(w:World)(t:TypeId)(cs:List Value):New w (w.alloc (.cells cs.toArray t)) t cs :=
  ⟨(V8 _ _).alloc (V2 _) _,by simp,by unfold Blk;show(w.heap.push _)[_]?=_;simp⟩
theorem New.upd{w b c:World}{t:TypeId}{cs a:List Value}(d:New w b t cs)(k:Upd b c w.heap.size t a):New w c t a :=
  ⟨d.ext.trans (k.below (V2 _)),by rw[k.size,d.size],k.blk⟩
def Own{α:Type}[Rp α](w:World)(base:Nat)(F:Nat->Prop)(e:TypeId)(v:Value)(xs:List α):Prop :=
  ∃cells,w.ownsRow base e (Rp.size α) v xs.length cells/\Chunks w F cells xs/\∀g,v.ownBlock=some g->¬F g
section
variable {α:Type}[Rp α]{w w':World}{F G:Nat → Prop}{base:Nat}{e:TypeId}{v:Value}{xs:List α}
theorem Own.nil(w:World)(base:Nat)(F:Nat->Prop)(e:TypeId):Own (α:=α) w base F e (.slice none 0 0) []:=⟨[],⟨by simp,.inl ⟨rfl,rfl⟩⟩,rfl,λg a=>by simp[Value.ownBlock]at a⟩
theorem Own.vb(c:Own w base F e v xs):Vb w (λk=>F k\/v.ownBlock=some k) v xs:=by
  obtain⟨cells,a,h2,h3⟩:=c;rcases a.2 with⟨rfl,hn⟩|⟨g,cap,cur,rfl,hg,hh,hnc,hcm,hcs,hcur⟩
  . have:xs=[]:=B2 hn;subst this;exact .nil _ _
  . refine .of_slice ⟨_,cap,cells,rfl,hnc,by simpa[maxLen]using hcm,h2.mono λk hk=>.inl hk,λb=>⟨g,0,rfl,.inr rfl,GL λj u hu=>?_⟩⟩;have hj:j<xs.length*Rp.size α:=(by rw[<- h2.length];exact(C3.1 hu).1);have:cur[j]?=some u:=by
      rw[<- hcur,K3,if_pos hj]at hu;simpa using hu
    simp[World.cell?,hh,this]
theorem Own.agree(d:Own w base F e v xs)(b:Agree F w w')(c:∀g,v.ownBlock=some g->w'.heap[g]?=w.heap[g]?):Own w' base F e v xs:=by
  obtain⟨cells,a,h2,h3⟩:=d;refine⟨cells,⟨a.1,?_⟩,h2.agree b,h3⟩;rcases a.2 with d|⟨g,cap,cur,rfl,hg,hh,r⟩
  . exact .inl d
  . exact .inr ⟨g,cap,cur,rfl,hg,(c g rfl).trans hh,r⟩
theorem Own.lt(h:Own w base F e v xs):∀g,v.ownBlock=some g->base<=g/\g<w.heap.size:=by
  obtain⟨cells,d,h2,h3⟩:=h;rcases d.2 with⟨rfl,hn⟩|⟨g,cap,cur,rfl,a,c,r⟩
  . intro g a;simp[Value.ownBlock]at a
  . intro f b;have:g=f:=(by simpa[Value.ownBlock]using b);subst this;refine⟨a,?_⟩;rcases T9 g w.heap.size with h|h
    . exact h
    . rw[E6 h]at c;cases c
theorem Own.ext(c:Own w base F e v xs)(he:Ext w w')(a:∀k,F k->k<w.heap.size):Own w' base F e v xs :=
  c.agree (he.agree a) λg b=>he.block g (c.lt g b).2
theorem Own.mono(b:Own w base F e v xs)(hk:∀k,F k->G k)(a:∀g,v.ownBlock=some g->¬G g):Own w base G e v xs:=by
  obtain⟨cells,h1,h2,h3⟩:=b;exact⟨cells,h1,h2.mono hk,a⟩
theorem Own.lower(c:Own w base F e v xs){a:Nat}(hb:a<=base):Own w a F e v xs:=by
  obtain⟨cells,b,h2,h3⟩:=c;refine⟨cells,⟨b.1,?_⟩,h2,h3⟩;rcases b.2 with c|⟨g,cap,cur,hv,hg,r⟩
  . exact .inl c
  . exact .inr ⟨g,cap,cur,hv,by omega,r⟩
end
end
section
open Go Go.RowKit
class Callable(P : Program)(f : FuncId) : Prop where eq : ∃fn, P.funcs[f]?=some fn∧fn.body.isNone=false∧(fn.name == "runtime.NumGoroutine")=false
theorem Callable.z{P : Program}{f : FuncId}{fn : Func}(c : P.funcs[f]?=some fn)(a : fn.body.isNone=false:=by rfl)(b : (fn.name == "runtime.NumGoroutine")=false:=by decide) : Callable P f:=⟨⟨_, c, a, b⟩⟩
def Fn(P:Program)(f:FuncId)(b:List Value)(w:World)(R:Value->World->Prop):Prop :=
  ∀d,Calls P f b.toArray (dr w d) λe w'=>∃v a c,e=.returned v/\w'=dr a c/\R v a
theorem Fn.mono{P:Program}{f:FuncId}{a:List Value}{w:World}{R b:Value->World->Prop}(c:Fn P f a w R)(hr:∀v w',R v w'->b v w'):Fn P f a w b :=
  λd=>(c d).mono λ_ _ ⟨v,w₀,d',he,hw,hR⟩=>⟨v,w₀,d',he,hw,hr _ _ hR⟩
theorem JC(w:World)(d:Nat)(o:Obj):(dr w d).alloc o=dr (w.alloc o) d:=rfl
theorem Gj{P:Program}(w:World)(e:TypeId)(cs:Array Value):(newRow e cs).run P w=.ok ⟨w.heap.size,0,none⟩ (w.alloc (.cells cs e)):=by
  simp[newRow,newObj,Sem.run]
section
variable {P:Program}{n:Nat}{ops:Array Oper}{Q:X0}{rest:List Oper}{l:Env}{w:World}{d:Tmp}{ty:TypeId}{pos:String}{aft:Array Edge}
theorem Gk{t:TypeId}{z:Value}{size bytes:Nat}[TInfo P t z size bytes](hd:Nat.blt d n=true)
    (c:∀w',New w w' t z.cells.toList->owp P n ops Q rest ((d,.pointer (some ⟨w.heap.size,0,none⟩))::l) w'):owp P n ops Q (⟨some d,.alloc t,ty,pos,aft,none⟩::rest) l w :=
  HL (w':=w.alloc (.cells z.cells t)) (λa e b=>.inl ⟨.pointer (some ⟨w.heap.size,0,none⟩),e,by
    simp[execOp,Instr.alloc,HH (P:=P) (t:=t),newVar,Gj,KL,JC],b.put hd _⟩) (c _ (by simpa using New.mk' w t z.cells.toList))
theorem FC{t:TypeId}{x:Operand}{v:Value}(c:opv l x=some v)
    (f:∀w',New w w' t v.cells.toList->owp P n ops Q rest ((d,.pointer (some ⟨w.heap.size,0,none⟩))::l) w') (hd:Nat.blt d n=true:=by exact rfl):owp P n ops Q (⟨some d,.box t x,ty,pos,aft,none⟩::rest) l w :=
  HL (w':=w.alloc (.cells v.cells t)) (λa e b=>.inl ⟨.pointer (some ⟨w.heap.size,0,none⟩),e,by
    simp[execOp,Instr.box,b.eval c,newVar,Gj,KL,JC],b.put hd _⟩) (f _ (by simpa using New.mk' w t v.cells.toList))
def W9(cs:List Value)(o:Nat):List Value->List Value
  |[]=>cs
  |v::r=>W9 (cs.set o v) (o+1) r
theorem Hg(g:Nat)(t:TypeId)(o:Nat):∀(vs:List Value)(i:Nat)(cs:List Value)(w:World),Blk w g t cs→o+i+vs.length≤cs.length→(∀u∈vs,u.oneCell'=true) →
    ∃w',(storeCells ⟨g,o,none⟩ vs i).run P w=.ok () w'/\Upd w w' g t (W9 cs (o+i) vs)/\w'.drawn=w.drawn
  |[],i,cs,w,hb,_,_=>⟨w,by simp[storeCells],⟨rfl,rfl,rfl,rfl,hb,λ_ _=>rfl⟩,rfl⟩
  |v  :: r,i,cs,w,hb,hl,h1=>by
    have a:o+i<cs.length:=(by simp at hl;omega);have hc:w.cell? ⟨g,o+i,none⟩=some (cs[o+i]):=hb.cell (D1 a);have hf:=hb.frozen (o+i);have b:Blk (w.setCell ⟨g,o+i,none⟩ v) g t (cs.set (o+i) v):=by
      unfold Blk at hb ⊢;simp[World.setCell,F3,hb]
    obtain⟨w',hr,hu,hd⟩:=Hg g t o r (i+1) (cs.set (o+i) v) (w.setCell ⟨g,o+i,none⟩ v) b (by simp at hl ⊢;omega) (λu hu=>h1 u (by simp[hu]));have c:v.oneCell'=true:=h1 v (by simp);refine⟨w',?_,⟨hu.os,hu.tape,hu.output,by rw[hu.size];simp[World.setCell],?_,λk hk=>?_⟩,hd⟩
    . simp only[storeCells];have hs:(store (⟨g,o+i,none⟩:Addr) v).run P w=.ok () (w.setCell ⟨g,o+i,none⟩ v):=by
        cases v<;>simp[Value.oneCell']at c<;>simp[store,Sem.run,hc,hf]
      simp[HT,hs,hr]
    . have:=hu.blk;rwa[show o+(i+1)=o+i+1 from by omega]at this
    . rw[hu.other k hk,Below.heap_setCell _ _ _ _ hk]
theorem CL{t:TypeId}{z:Value}{size bytes:Nat}[TInfo P t z size bytes]{x y:Operand}{g o:Nat}{b:TypeId}{v:Value}{cs:List Value}(j:opv l x=some (.pointer (some ⟨g,o,none⟩)))(k:opv l y=some v)
    (hb:Blk w g b cs) (d:v.cells.toList.length=size) (hl:o+size<=cs.length) (m:∀u∈v.cells.toList,u.oneCell'=true)
    (q:∀w',Upd w w' g b (W9 cs o v.cells.toList)->owp P n ops Q rest l w'):owp P n ops Q (⟨none,.store t x y,ty,pos,aft,none⟩::rest) l w:=λa e f=>by
  refine wpList_plain rfl λK p=>?_;have h:Blk (dr w e) g b cs:=hb;obtain⟨w',hr,hu,hd⟩:=Hg (P:=P) g b o v.cells.toList 0 cs (dr w e) h (by omega) m;have i:Upd w w' g b (W9 cs o v.cells.toList):=⟨hu.os,hu.tape,hu.output,hu.size,hu.blk,hu.other⟩;unfold Oper.wp;have c:v.cells.size=size:=(by simpa using d);have:(execOp a.eval ⟨none,.store t x y,ty,pos,aft,none⟩).run P (dr w e)=.ok .skip w':=by
    simp[execOp,Instr.storeAt,Instr.sureAddr,f.eval j,f.eval k,storeVar,DZ (P:=P) (t:=t),c,hr]
  rw[this];exact p _ _ (q w' i a w'.drawn f)
theorem GA:∀(vs cs:List Value)(o:Nat),(W9 cs o vs).length=cs.length
  |[],_,_=>rfl
  |_::r,cs,o=>by rw[W9,GA r];simp
theorem Gt:∀(vs a c b:List Value),c.length=vs.length->W9 (a++(c++b)) a.length vs=a++(vs++b)
  |[],a,c,b,h=>by
    have:c=[]:=B2 h;simp[W9,this]
  |v  :: r,a,c,b,h=>by
    cases c with
    |nil=>simp at h
    |cons m c =>
      have d:=Gt r (a++[v]) c b (by simpa using h);simp only[W9];rw[show(a++(m::c++b)).set a.length v=(a++[v])++(c++b)from by simp,show a.length+1=(a++[v]).length from by simp,d];simp
theorem IT:∀(vs:List Value)(k off:Nat)(a:Array Value),((vs.zipIdx k).foldl (λcs(p:Value×Nat)=>cs.setIfInBounds (off+p.2) p.1) a).toList=W9 a.toList (off+k) vs
  |[],_,_,_=>rfl
  |v::r,k,off,a=>by
    simp only[List.zipIdx_cons,P9,W9];rw[IT r (k+1) off];simp[Nat.add_assoc]
def Zw{β:Type}:Nat->List β->List (Nat×β)
  |_,[]=>[]
  |k,x::r=>(k,x)::Zw (k+1) r
def Aac{β:Type}:Nat→List (Nat×β)→Bool
  |_,[]=>true
  |k,p::r=>match Nat.beq p.1 k with
    |true=>Aac (k+1) r
    |false=>false
theorem Nc{β:Type}:∀(ps:List (Nat×β))(k:Nat),Aac k ps=true->ps=Zw k (ps.map (·.2))
  |[],_,_=>rfl
  |p  :: r,k,h=>by
    simp only[Aac]at h;cases hb:Nat.beq p.1 k with
    |false=>rw[hb]at h;simp at h
    |true =>
      rw[hb]at h;have hk:p.1=k:=F1 hb;obtain⟨a,b⟩:=p;simp only at hk;subst hk;simp only[R9,Zw];rw[<- Nc r (a+1) h]
theorem Nd{β a:Type}(f:β->a):∀(xs:List β)(k:Nat),(Zw k xs).map (λp=>(p.1,f p.2))=Zw k (xs.map f)
  |[],_=>rfl
  |x::r,k=>by simp[Zw,Nd f r]
theorem Nf{size:Nat}:∀(vs:List Value)(k:Nat)(b:Array Value)(c a:List Value),b.toList=c++a->c.length=k*size->a.length=vs.length*size->(∀v∈vs,v.cells.size=size) ->
    ∃d,Instr.fill (λi=>some (i*size,size)) b (Zw k vs)=some d/\d.toList=c++vs.flatMap (λv=>v.cells.toList)
  |[],k,b,c,a,h,_,h2,_=>by
    have:a=[]:=B2 (by simpa using h2);subst this;exact⟨b,rfl,by simpa using h⟩
  |v  :: r,k,b,c,a,h,h1,h2,hv=>by
    have e:v.cells.size=size:=hv v (by simp);have g:b.size=c.length+a.length:=(by rw[<- I2,h,K0]);have f:a=a.take size++a.drop size:=(F4 size a).symm;have j:a.length=size+r.length*size:=(by rw[h2,M8,V3];omega);simp only[Zw,Instr.fill];rw[if_neg (by simp[e];omega)];have hf:=IT v.cells.toList 0 (k*size) b;rw[U0,h,<- h1,f,Gt _ _ _ _ (by simp[e];omega)]at hf;obtain⟨d,ho1,ho2⟩:=Nf r (k+1) ((v.cells.toList.zipIdx 0).foldl (λcs(p:Value×Nat)=>cs.setIfInBounds (c.length+p.2) p.1) b) (c++v.cells.toList) (a.drop size) (by rw[hf];simp)
      (by simp[e,h1,V3]) (by simp;omega) (λu hu=>hv u (by simp[hu]))
    refine⟨d,?_,by rw[ho2];simp⟩;rw[<- ho1];congr 1;rw[<- Array.foldl_toList,Array.toList_zipIdx,h1]
theorem FQ{t e:TypeId}[hs:TSlice P t e]{z:Value}{size bytes b:Nat}[TInfo P e z size bytes]{ps:List (Nat×Operand)}{vs:List Value}  (r:X5 l (ps.map (·.2))=some vs) (f:vs.length=b) (s:∀v∈vs,v.cells.toList.length=size)  (hd:Nat.blt d n=true)
    (x:∀w',New w w' e (vs.flatMap λv=>v.cells.toList)->owp P n ops Q rest ((d,.slice (some ⟨w.heap.size,0,none⟩) b b)::l) w') (hk:Aac 0 ps=true:=by exact rfl) (hz:b*size<=16777216:=by decide):owp P n ops Q (⟨some d,.buildSlice t b ps.toArray,ty,pos,aft,none⟩::rest) l w :=
  HL (w':=w.alloc (.cells (vs.flatMap λv=>v.cells.toList).toArray e)) (λa q o=>.inl ⟨.slice (some ⟨w.heap.size,0,none⟩) b b,q,by
    have g:(ps.map λp=>(p.1,a.eval p.2))=Zw 0 vs:=by
      rw[Nc ps 0 hk,Nd,o.evals r]
    have j:∀v∈vs,v.cells.size=size:=λv hm=>(by simpa using s v hm);have k:¬16777216<b*size:=(by omega);have hf:∀c:Array Value,c.size=b*size->Instr.fill (λi=>some (i*size,size)) c (Zw 0 vs)=some (vs.flatMap λv=>v.cells.toList).toArray:=λc h=>by
      obtain⟨u,ho1,ho2⟩:=Nf (size:=size) vs 0 c [] c.toList (by simp) (by simp) (by simp[h,f]) j;rw[ho1];congr 1;apply N0.1;rw[ho2];simp
    simp only[execOp,Instr.buildSlice];by_cases m:b*size=0
    . simp[run_underlying hs.eq,DZ (P:=P) (t:=e),m];rw[g,hf _ (by simp[m])];simp[Gj,KL,JC]
    . simp[run_underlying hs.eq,DZ (P:=P) (t:=e),HH (P:=P) (t:=e),m,k];rw[g,hf _ (by simp)];simp[Gj,KL,JC],o.put hd _⟩) (x _ (by simpa using New.mk' w e (vs.flatMap λv=>v.cells.toList)))
theorem Ng{t e:TypeId}[hs:TSlice P t e]{z:Value}{size bytes:Nat}[hi:TInfo P e z size bytes]{x y:Operand}{k f:IntKind}{m:Nat}(g:opv l x=some (.int k (m:Int)))(h:opv l y=some (.int f (m:Int)))(hm:bytes*m<=281474976710656)(j:m<=9223372036854775807)(hd:Nat.blt d n=true)
    (o:∀w',New w w' e (madeCells z.cells (m*size)).toList->owp P n ops Q rest ((d,.slice (some ⟨w.heap.size,0,none⟩) m m)::l) w'):owp P n ops Q (⟨some d,.makeSlice t x y,ty,pos,aft,none⟩::rest) l w:=by
  obtain⟨i,h1,h2,h3,h4⟩:=hi.eq;have b:(i.bytes:Int)*(m:Int)<=281474976710656:=by
    rw[h4];have:((bytes*m:Nat):Int)<=281474976710656:=(by omega);rwa[Q0]at this
  refine HL (w':=w.alloc (.cells (madeCells z.cells (m*size)) e)) (λa q c=>.inl ⟨.slice (some ⟨w.heap.size,0,none⟩) m m,q,?_,c.put hd _⟩) (o _ (by simpa using New.mk' w e (madeCells z.cells (m*size)).toList));have hr:=run_make (P:=P) (dr w q) t e i z hs.eq h1 h2 k f (m:Int) (m:Int) (by omega) (V4 _) b (by omega);simp[execOp,c.eval g,c.eval h,hr,h3,KL,JC]
theorem By{f:FuncId}[hf:Callable P f]{xs:List Operand}{vs:List Value}{h:Array TypeId}{R:Value->World->Prop}(j:X5 l xs=some vs)  (hc:Fn P f vs w R)
    (m:∀v w',R v w'->owp P n ops Q rest ((d,v)::l) w') (hd:Nat.blt d n=true:=by exact rfl):owp P n ops Q (⟨some d,.call { callee:=.value (.func f),args:=xs.toArray,argTypes:=h },ty,pos,aft,none⟩::rest) l w :=
  Il λa e i K k=>by
    obtain⟨fn,h1,h2,h3⟩:=hf.eq;have b:¬fn.body=none:=λe=>(by rw[e]at h2;simp at h2);have c : ¬fn.name = "runtime.NumGoroutine" := fun e=>by rw[e]at h3; simp at h3
    unfold Oper.wp;have g:a.eval (.func f)=.func (.func f) #[] #[]:=rfl;have:(execOp a.eval ⟨some d,.call { callee:=.value (.func f),args:=xs.toArray,argTypes:=h },ty,pos,aft,none⟩).run P (dr w e)=.ok (.enter f vs.toArray) (dr w e):=by
      simp[execOp,resolve,g,Deferred.ofValue,invoke,callFunc,h1,b,c,i.evals j]
    rw[this];exact(hc e).mono λ_ _ ⟨v,w₀,d',he,hw,hR⟩=>by subst he;subst hw;exact k _ _ (m v w₀ hR _ _ (i.put hd v))
theorem Kf{f:FuncId}[hf:Callable P f]{y:Operand}{caps:List Value}{xs:List Operand}{vs:List Value}{h:Array TypeId}{R:Value->World->Prop}(i:opv l y=some (.func (.func f) #[] caps.toArray))(j:X5 l xs=some vs)(hd:Nat.blt d n=true)(hc:Fn P f (vs++caps) w R)
    (m:∀v w',R v w'->owp P n ops Q rest ((d,v)::l) w'):owp P n ops Q (⟨some d,.call { callee:=.value y,args:=xs.toArray,argTypes:=h },ty,pos,aft,none⟩::rest) l w :=
  Il λa e b K k=>by
    obtain⟨fn,h1,h2,h3⟩:=hf.eq;have c:¬fn.body=none:=λe=>(by rw[e]at h2;simp at h2);have g : ¬fn.name = "runtime.NumGoroutine" := fun e=>by rw[e]at h3; simp at h3
    unfold Oper.wp;have:(execOp a.eval ⟨some d,.call { callee:=.value y,args:=xs.toArray,argTypes:=h },ty,pos,aft,none⟩).run P (dr w e)=.ok (.enter f (vs++caps).toArray) (dr w e):=by
      simp[execOp,resolve,b.eval i,Deferred.ofValue,invoke,callFunc,h1,c,g,b.evals j]
    rw[this];exact(hc e).mono λ_ _ ⟨v,w₀,d',he,hw,hR⟩=>by subst he;subst hw;exact k _ _ (m v w₀ hR _ _ (b.put hd v))
theorem Hh{α:Type}[Rp α]{t e:TypeId}[hs:TSlice P t e]{z:Value}{bytes:Nat}[hi:TInfo P e z (Rp.size α) bytes]{x y:Operand}{v:Value}{xs ys:List α}{base:Nat}{F:Nat→Prop}{A:Option Addr}{c:Nat}{cells:List Value}
    (T:opv l x=some v) (U:opv l y=some (.slice A ys.length c)) (G:Own w base F e v xs) (O:∀k,F k->k<w.heap.size) (r:base<=w.heap.size) (h:Chunks w F cells ys) (H:0<ys.length->∃b o,A=some ⟨b,o,none⟩/\cellsAt w b o cells)
    (hz0:0<Rp.size α) (hb:(xs.length+ys.length)*bytes<=140737488355328) (I:xs.length+ys.length<=9223372036854775807) (hd:Nat.blt d n=true)
    (Y:∀f w',Own w' base F e f (xs++ys)->w.grownBy w' v.ownBlock->(f.ownBlock=v.ownBlock\/f.ownBlock=some w.heap.size)->owp P n ops Q rest ((d,f)::l) w') :
    owp P n ops Q (⟨some d,.call { callee:=.builtin .append,args:=#[x,y],argTypes:=#[t,t] },ty,pos,aft,none⟩::rest) l w:=λa q J=>by
  refine wpList_plain rfl λK V=>?_;obtain⟨i,i1,i2,i3,i4⟩:=hi.eq;obtain⟨cs,s,ho2,ho3⟩:=G;unfold Oper.wp;have L:∃f w',(Builtin.append_ #[t,t] ty #[v,.slice A ys.length c]).run P (dr w q)=.ok f w'/\w'.ownsRow base e (Rp.size α) f (xs.length+ys.length) (cs++cells)/\(dr w q).grownBy w' v.ownBlock/\(f.ownBlock=v.ownBlock\/f.ownBlock=some (dr w q).heap.size):=by
    cases A with
    |none =>
      have M:ys.length=0:=by
        rcases K4 ys.length with h0|h0
        . exact h0
        . obtain⟨b,o,hA,_⟩:=H h0;cases hA
      have B:ys=[]:=B2 M;subst B;have C:cells=[]:=h;subst C;refine⟨v,dr w q,?_,by simpa using(show(dr w q).ownsRow base e (Rp.size α) v xs.length cs from s),World.grownBy.refl _ _,.inl rfl⟩;rcases s.2 with⟨rfl,hn⟩|⟨g,cap,cur,rfl,_,_,hnc,_⟩
      . have W:xs=[]:=B2 hn;simp[Builtin.append_,run_underlying hs.eq,sizeOf,typeInfo,i1,Builtin.lenOf,Builtin.firstCells]
      . simp[Builtin.append_,run_underlying hs.eq,sizeOf,typeInfo,i1,Builtin.lenOf,Builtin.firstCells,hnc,storeCells]
    |some R =>
      have m:∀j u,cells[j]?=some u->(dr w q).cell? (R.add j)=some u:=by
        intro j u hu;rcases K4 ys.length with h0|h0
        . have B:ys=[]:=B2 h0;subst B;have C:cells=[]:=h;subst C;simp at hu
        . obtain⟨b,o,hA,hc⟩:=H h0;injection hA with hA;subst hA;rw[HT];exact DY hc j u hu
      obtain⟨f,w',hrun,h2,h3,_,h5⟩:=run_append_own_at (P:=P) (dr w q) base t ty e i z (Rp.size α) bytes hs.eq i1 i2 i3 i4 hi.sz hz0 v xs.length cs s R ys.length c cells h.length m h.one (by simpa[maxLen]using I) hb r;exact⟨f,w',hrun,h2,h3,h5⟩
  obtain⟨f,w',hrun,h2,h3,h5⟩:=L;have N:(execOp a.eval ⟨some d,.call { callee:=.builtin .append,args:=#[x,y],argTypes:=#[t,t] },ty,pos,aft,none⟩).run P (dr w q)=.ok (.value f) w':=by
    simp[execOp,resolve,invoke,builtin,J.eval T,J.eval U,hrun]
  rw[N];have S:w.grownBy w' v.ownBlock:=⟨h3.os,h3.tape,h3.output,h3.size,h3.block⟩;have p:Agree F w w':=λk hk=>S.block k (O k hk) (λhe=>ho3 k he.symm hk);have D:Own w' base F e f (xs++ys):=by
    refine⟨cs++cells,by rw[K0];exact h2,(ho2.append h).agree p,λg E=>?_⟩;rcases h5 with h5|h5
    . exact ho3 g (h5▸E)
    . intro hk;have X:g=w.heap.size:=(by rw[h5]at E;exact(Q1 E).symm);have:=O g hk;omega
  exact V _ _ (Y f w' D S h5 _ w'.drawn (J.put hd f))
end
def Res(P:Program)(fn:Func)(l:Env)(w:World)(v:Value):Prop:=∀n a d,Ok n a l->(results fn a.tmps).run P (dr w d)=.ok v (dr w d)
def W6(P:Program)(fn:Func)(R:Value->World->Prop):X0
  |.normal,l,w=>∃v,Res P fn l w v/\R v w
  |.ret,l,w=>∃v,Res P fn l w v/\R v w
  |_,_,_=>False
def ent:Nat->List Value->Env
  |_,[]=>[]
  |k,v::r=>(k,v)::ent (k+1) r
theorem NN:∀(vs:List Value)(k i:Nat)(v:Value),lk (ent k vs) i=some v->k<=i/\vs[i-k]?=some v
  |[],_,_,_,h=>by simp[ent,lk]at h
  |u  :: r,k,i,v,h=>by
    simp only[ent,lk]at h;cases hb:Nat.beq k i with
    |true =>
      rw[hb]at h;have:k=i:=F1 hb;subst this;simpa using h
    |false =>
      rw[hb]at h;obtain⟨a,h2⟩:=NN r (k+1) i v h;refine⟨by omega,?_⟩;rw[show i-k=(i-(k+1))+1 from by omega];simpa using h2
theorem AG{P:Program}{f:FuncId}{fn:Func}{c:Code}{vs:List Value}{w:World}{R:Value->World->Prop}{n:Nat}(hf:P.funcs[f]?=some fn)(hb:fn.body=some c)(hn:fn.ntmps=n)
    (k:ewp P n c (W6 P fn R) (ent 0 vs) w) (hl:Nat.ble vs.length n=true:=by exact rfl):Fn P f vs w R:=λd=>by
  have g:vs.length<=n:=(by simpa using hl);refine calls_of_wp hf hb (T7 (λe a w' h=>?_) (k _ d (?_:Ok n { tmps:=vs.toArray++Array.replicate (fn.ntmps-vs.toArray.size) undef,defers:=[] } (ent 0 vs))))
  . obtain⟨b,l,w₀,d',rfl,ho,q⟩:=h;cases e with
    |normal=>obtain⟨v,hr,hR⟩:=q;exact⟨ho.defers,v,hr n a d' ho,v,w₀,d',rfl,rfl,hR⟩
    |ret=>obtain⟨v,hr,hR⟩:=q;exact⟨ho.defers,v,hr n a d' ho,v,w₀,d',rfl,rfl,hR⟩
    |panic c=>exact b.elim
    |outgrown=>exact b.elim
    |exit i=>exact q.elim
    |goto i=>exact q.elim
  . refine⟨by simp[hn];omega,rfl,λi v j=>?_⟩;obtain⟨_,h2⟩:=NN vs 0 i v j;simp only[U7]at h2;have hi:i<vs.length:=(C3.1 h2).1;simp only[B7];rw[B8 (by simpa using hi)];simp[h2]
section
variable {P:Program}{fn:Func}{l:Env}{w:World}
def rv(a:Array Value):ResultVar->Sem Value
  |.tmp t=>pure (a.getD t undef)
  |.cell b t=>do loadVar t (<- asAddr (a.getD b undef))
theorem HW(fn:Func)(a:Array Value):results fn a=(do let vs <- fn.results.mapM (rv a);pure (if b:vs.size=1 then vs[0]else .tuple vs)):=by
  unfold results;congr 1
def X1(P:Program)(l:Env)(w:World)(r:ResultVar)(v:Value):Prop:=∀n a d,Ok n a l->(rv a.tmps r).run P (dr w d)=.ok v (dr w d)
theorem AC{t:Tmp}{v:Value}(c:lk l t=some v):X1 P l w (.tmp t) v:=λ_ a d b=>by have:=b.knows t v c;simpa[rv]using this
theorem Tz{b:Tmp}{t:TypeId}[TOne P t]{c:Addr}{v:Value}(f:lk l b=some (.pointer (some c)))(hc:w.cell? c=some v):X1 P l w (.cell b t) v:=λ_ a d e=>by
  have:=e.knows b _ f;simp only[rv,this];simp[asAddr,loadVar,HU,load,Sem.run,KM,hc]
theorem CC{b:Tmp}{t:TypeId}[TAgg P t]{z:Value}{size bytes:Nat}[TInfo P t z size bytes]{g o:Nat}{cs:List Value}(f:lk l b=some (.pointer (some ⟨g,o,none⟩)))(hl:cs.length=size)(hc:cellsAt w g o cs):X1 P l w (.cell b t) (.agg cs.toArray):=λ_ a d c=>by
  have hk:=c.knows b _ f;subst hl;have:=Ht (P:=P) (dr w d) g o cs 0 #[] (λj v e=>by rw[U4];exact DY hc j v e);simp only[rv,hk];simp[asAddr,loadVar,IS,DZ (P:=P) (t:=t),loadCells,this]
theorem Z5{r:ResultVar}{v:Value}(hr:fn.results=#[r])(c:X1 P l w r v):Res P fn l w v:=λn a d b=>by
  simp[HW,hr,c n a d b]
theorem AcQ{r s:ResultVar}{v u:Value}(hr:fn.results=#[r,s])(c:X1 P l w r v)(k:X1 P l w s u):Res P fn l w (.tuple #[v,u]):=λn a d b=>by
  simp[HW,hr,c n a d b,k n a d b]
theorem res3{r s q:ResultVar}{v u x:Value}(hr:fn.results=#[r,s,q])(c:X1 P l w r v)(k:X1 P l w s u)(j:X1 P l w q x):Res P fn l w (.tuple #[v,u,x]):=λn a d b=>by
  simp[HW,hr,c n a d b,k n a d b,j n a d b]
end
end
section
open Go Go.RowKit
class Mixed(P:Program):Prop where eq:P.follows .mixedOrders=true
def comesB(ops:Array Oper):Nat->Nat->Nat->Bool
  |0,_,_=>false
  |fuel+1,j,k=>(ops[j]?).any λo=>o.after.any λe=>Region.binds .any e&&(e.on==k||comesB ops fuel e.on k)
def ZH(ops:Array Oper)(j:Nat):Bool:=(List.range ops.size).all λk=>k==j||comesB ops ops.size j k
def Closed(ops:Array Oper)(a:Array Bool):Prop:=∀m b,a.getD m false=true->ops[m]?=some b->∀e∈b.after,Region.binds .any e=true->a.getD e.on false=true
theorem Gf{ops:Array Oper}{a:Array Bool}(hc:Closed ops a):∀(fuel j k:Nat)(b:Oper),ops[j]?=some b→(∀e∈b.after,Region.binds .any e=true→a.getD e.on false=true)→comesB ops fuel j k=true→a.getD k false=true
  |0,_,_,_,_,_,h=>by simp[comesB]at h
  |fuel+1,j,k,b,hj,ha,h=>by
    simp only[comesB,hj,Q2]at h;obtain⟨e,he,hb⟩:=K5.1 h;rw[N1,Q3]at hb;have c:=ha e he hb.1;rcases hb.2 with hk|hk
    . have:e.on=k:=(by simpa using hk);rw[<- this];exact c
    . cases hm:ops[e.on]? with
      |none =>
        exfalso;cases fuel with
        |zero=>simp[comesB]at hk
        |succ f=>simp[comesB,hm]at hk
      |some d=>exact Gf hc fuel e.on k d hm (hc e.on d c hm) hk
theorem Closed.set{ops:Array Oper}{a:Array Bool}(hc:Closed ops a){i:Nat}(hi:i∈Region.ready .any ops a):Closed ops (a.setIfInBounds i true):=by
  intro m f hm c e he hb;obtain⟨_,oi,b,hall⟩:=mem_ready.1 hi;by_cases d:m=i
  . subst d;rw[c]at b;injection b with b;subst b;exact getD_set_true (hall e he hb)
  . have:a.getD m false=true:=(by rwa[getD_set_ne false (W0 d)]at hm);exact getD_set_true (hc m f this c e he hb)
def Zt(P:Program)(ops:Array Oper)(Q:Exit→Act→World→Prop)(S:World→Prop):Nat→Array Bool→Act→World→Prop
  |0,b,a,w=>Region.ready .any ops b=[]/\Q .normal a w
  |fuel+1,b,a,w =>
    (Region.ready .any ops b=[]->Q .normal a w) /\
    ∀i∈Region.ready .any ops b,wpOp P ops Q i (λa' w'=>(ZH ops i=false->S w')/\Zt P ops Q S fuel (b.setIfInBounds i true) a' w') a w
theorem Je{P:Program}{ops:Array Oper}{Q:Exit->Act->World->Prop}{S:World->Prop}:∀(fuel:Nat)(b:Array Bool)(a:Act)(w:World),Zt P ops Q S fuel b a w->wpAny P .any ops Q fuel b a w
  |0,_,_,_,h=>h
  |fuel+1,_,_,_,h=>⟨h.1,λi hi=>wpOp_mono (λa' w' c=>Je fuel _ a' w' c.2) (h.2 i hi)⟩
theorem LI{P:Program}{ops:Array Oper}{Q:Exit→Act→World→Prop}{S:World→Prop}{i:Nat}{q:Oper}{v:Value}(hi:ops[i]?=some q)(m:∀(j:Nat)(o:Oper) cs b,ops[j]?=some o→o.op≠.select cs b)
    (N:∀c a w,Q (.panic c) (a.put q.dst v) w->Q (.panic c) a w) :
    ∀(fuel:Nat)(d:Array Bool)(a:Act)(w:World),Closed ops d ->
      (∀j n,ops[j]?=some n->j≠i->d.getD j true=false->(∀e∈n.after,Region.binds .any e=true->e.on≠i)->q.apart ops n=true) ->
      i∈Region.ready .any ops d->YieldsIf P ops S q v a->S w ->
      Zt P ops Q S fuel (d.setIfInBounds i true) (a.put q.dst v) w->Zt P ops Q S (fuel+1) d a w:=by
  intro fuel
  induction fuel with
  |zero =>
    intro d a w _ _ hr B s T;refine⟨λh=>(by rw[h]at hr;cases hr),λj hj=>?_⟩;by_cases f:j=i
    . subst f;exact B.wpOp hi s ⟨λ_=>s,T⟩
    . have:=ready_mono hj f;rw[T.1]at this;cases this
  |succ fuel O =>
    intro d a w t g hr B s T;refine⟨λh=>(by rw[h]at hr;cases hr),λj hj=>?_⟩;by_cases f:j=i
    . subst f;exact B.wpOp hi s ⟨λ_=>s,T⟩
    . have r:=T.2 j (ready_mono hj f);obtain⟨p,n,hoj,hall⟩:=mem_ready.1 hj;have u:∀e∈n.after,Region.binds .any e=true->e.on≠i:=λe he hb D=>by
        have r:=hall e he hb;have L:=(mem_ready.1 hr).1;rw[D]at r;rcases T9 i d.size with h'|h'
        . simp[h']at L r;rw[L]at r;cases r
        . simp[E6 h']at r
      have E:=g j n hoj f p u;have F:i∈Region.ready .any ops (d.setIfInBounds j true):=ready_mono hr (W0 f);have G:i<ops.size:=by
        rcases T9 i ops.size with h|h
        . exact h
        . rw[E6 h]at hi;cases hi
      have H:ZH ops j=false:=by
        cases hl:ZH ops j with
        |false=>rfl
        |true =>
          exfalso;have h4:=N6.1 hl i (R5.2 G);rw[Q3]at h4;rcases h4 with h4|h4
          . exact f (by simpa using h4:i=j).symm
          . have C:=Gf t ops.size j i n hoj hall h4;have M:=(mem_ready.1 hr).1;rcases T9 i d.size with h'|h'
            . simp[h']at C M;rw[M]at C;cases C
            . simp[E6 h']at C
      have l:∀k x,ops[k]?=some x->k≠i->(d.setIfInBounds j true).getD k true=false ->
          (∀e∈x.after,Region.binds .any e=true->e.on≠i)->q.apart ops x=true:=λk x hk I y J=>by
        refine g k x hk I ?_ J;by_cases z:j=k
        . subst z;exact p
        . rw[getD_set_ne true z]at y;exact y
      have R:=wpOp_putIf hoj E (λcs b=>m i q cs b hi) (λcs b=>m j n cs b hoj) N B r;refine wpOp_mono (λa' w' K=>?_) R;have A:S w':=K.2.1 H;refine⟨λ_=>A,O (d.setIfInBounds j true) a' w' (t.set hj) l F K.1 A ?_⟩;rw[D6 _ _ f];exact K.2.2
def Z8(P:Program)(ops:Array Oper)(Q:Exit->Act->World->Prop)(S:World->Prop):List (Nat×Bool)->Act->World->Prop
  |[],a,w=>Q .normal a w
  |(i,true)::r,a,w=>∃o v,ops[i]?=some o/\YieldsIf P ops S o v a/\Z8 P ops Q S r (a.put o.dst v) w
  |(i,false)::r,a,w=>wpOp P ops Q i (λa' w'=>(r≠[]->S w')/\Z8 P ops Q S r a' w') a w
def ordOk(ops:Array Oper):Array Bool->List (Nat×Bool)->Bool
  |listed,[]=>(Region.ready .any ops listed).isEmpty
  |listed,(i,true)::r=>(Region.ready .any ops listed).contains i&&(Region.free .any ops listed i&&ordOk ops (listed.setIfInBounds i true) r)
  |listed,[(i,false)]=>(Region.ready .any ops listed==[i])&&(ZH ops i&&ordOk ops (listed.setIfInBounds i true) [])
  |listed,(i,false)::r=>(Region.ready .any ops listed==[i])&&ordOk ops (listed.setIfInBounds i true) r
theorem GV{P:Program}{ops:Array Oper}{Q:Exit->Act->World->Prop}{S:World->Prop}(hs:Region.noSelect ops=true)(h:∀c a w,¬Q (.panic c) a w) :
    ∀(d:List (Nat×Bool))(b:Array Bool)(a:Act)(w:World),Closed ops b->ordOk ops b d=true->(d≠[]->S w)->Z8 P ops Q S d a w->Zt P ops Q S d.length b a w
  |[],b,a,w,_,hc,_,l=>⟨by simpa[ordOk]using hc,l⟩
  |(i,true)::r,b,a,w,hcl,hc,hS,l=>by
    simp only[ordOk,N1]at hc;obtain⟨o,v,ho,hy,hr⟩:=l;have hi:i∈Region.ready .any ops b:=(by simpa using hc.1);exact LI ho (G4 hs) (λc a w k=>(h c _ _ k).elim) r.length b a w hcl (Region.free_spec ho hc.2.1) hi hy (hS (by simp)) (GV hs h r _ _ w (hcl.set hi) hc.2.2 (λ_=>hS (by simp)) hr)
  |[(i,false)],b,a,w,hcl,hc,hS,l=>by
    simp only[ordOk,N1]at hc;have hr:Region.ready .any ops b=[i]:=(by simpa using hc.1);refine⟨λf=>by rw[hr]at f;simp at f,λj hj=>?_⟩;rw[hr]at hj;have:j=i:=(by simpa using hj);subst this;have e:j∈Region.ready .any ops b:=(by rw[hr];simp);exact wpOp_mono (λa' w' g=>⟨(λhl=>by rw[hc.2.1]at hl;cases hl),GV hs h [] _ a' w' (hcl.set e) (by simpa[ordOk]using hc.2.2) (λl=>absurd rfl l) g.2⟩) l
  |(i,false)::x::r,b,a,w,hcl,hc,hS,l=>by
    simp only[ordOk,N1]at hc;have hr:Region.ready .any ops b=[i]:=(by simpa using hc.1);refine⟨λf=>by rw[hr]at f;simp at f,λj hj=>?_⟩;rw[hr]at hj;have:j=i:=(by simpa using hj);subst this;have e:j∈Region.ready .any ops b:=(by rw[hr];simp);exact wpOp_mono (λa' w' g=>⟨λ_=>g.1 (by simp),GV hs h (x::r) _ a' w' (hcl.set e) hc.2 g.1 g.2⟩) l
def hwp(P:Program)(n:Nat)(ops:Array Oper)(Q:X0)(S:World->Prop)(b:List (Nat×Bool))(l:Env)(w:World):Prop :=
  ∀a d,Ok n a l->Z8 P ops (YZ n Q) (λw'=>∃c,S (dr w' c)) b a (dr w d)
def Evg(P:Program)(ops:Array Oper)(o:Oper)(l:Env)(S:World->Prop)(v:Value):Prop :=
  ∀n a,Ok n a l->YieldsIf P ops (λw'=>∃b,S (dr w' b)) o v a
section
variable {P:Program}{n:Nat}{ops:Array Oper}{Q:X0}{S:World → Prop}{l:Env}{w:World}{d:Tmp}{op:Op}{ty:TypeId}{pos:String}{aft:Array Edge}
theorem evg{dst:Option Tmp}{v:Value}(d:∀w,S w->Ev P ⟨dst,op,ty,pos,aft,none⟩ l w v):Evg P ops ⟨dst,op,ty,pos,aft,none⟩ l S v:=λn a b =>
  .inl ⟨by simp[Region.wanted],λw' ⟨c,hS⟩=>d _ hS n a w'.drawn b⟩
theorem Xc{dst:Option Tmp}{j dj:Nat}{b:Bool}{u:Value}(hj:Aag ops j=some dj)(hl:lk l dj=some u)(hu:isB u b=false):Evg P ops ⟨dst,op,ty,pos,aft,some (j,b)⟩ l S undef:=λn a c =>
  .inr ⟨by simpa[Region.wanted]using c.unwanted (b:=b) hj hl hu,rfl⟩
theorem Sa(b:Q .normal l w):hwp P n ops Q S [] l w:=λ_ _ a=>Jr trivial a b
theorem Yi{i:Nat}{o:Oper}{r:List (Nat×Bool)}{v:Value}(hi:ops[i]?=some o)(hd:o.dst=some d)(hn:Nat.blt d n=true)(he:Evg P ops o l S v)(c:hwp P n ops Q S r ((d,v)::l) w):hwp P n ops Q S ((i,true)::r) l w:=λa e b =>
  ⟨o,v,hi,he n a b,by rw[hd];exact c _ _ (b.put hn v)⟩
def X7(P:Program)(n:Nat)(ops:Array Oper)(Q:X0)(S:World->Prop)(r:List (Nat×Bool)):X0
  |.normal,l,w=>(r≠[]->S w)/\hwp P n ops Q S r l w
  |_,_,_=>False
theorem BZ{i:Nat}{o:Oper}{r:List (Nat×Bool)}(hi:ops[i]?=some o)(u:owp P n ops (X7 P n ops Q S r) [o] l w):hwp P n ops Q S ((i,false)::r) l w:=λa e m=>by
  have b:=u a e m;show wpOp P ops (YZ n Q) i _ a (dr w e);unfold wpList at b;unfold wpOp;simp only[hi];have conv:∀a' w',YZ n (X7 P n ops Q S r) .normal a' w'->(r≠[]->∃f,S (dr w' f))/\Z8 P ops (YZ n Q) (λw'=>∃f,S (dr w' f)) r a' w':=by
    rintro a' w' ⟨_,l',w₀,f,rfl,ho,hS,j⟩;exact⟨λhr=>⟨w₀.drawn,hS hr⟩,j a' f ho⟩
  have d:∀g a' w',YZ n (X7 P n ops Q S r) g a' w'->g=.normal:=by
    rintro g a' w' ⟨hn,l',w₀,f,rfl,ho,j⟩;cases g<;>first|rfl|exact j.elim
  by_cases h:Region.wanted o (yielded ops a.tmps)=true
  . rw[if_pos h]at b;rw[if_pos h];rcases b with b|⟨b,p,w0,h2⟩
    . refine .inl ?_;unfold Oper.wp at *
      generalize (execOp a.eval o).run P (dr w e)=k at *
      cases k with
      |ok q w'  =>
        cases q<;>simp only[Oper.upon]at b ⊢ <;>
          first
            |exact conv _ _ b
            |exact V9 b (λs t he=>by
                cases s with
                |returned v=>exact conv _ _ he
                |panicked c=>exact absurd (d _ _ _ he) (by simp)
                |outgrown=>obtain⟨p,w0,hq⟩:=he;exact absurd (d _ _ _ hq) (by simp))
            |exact Rows.mono b (λ_ _ he=>conv _ _ he)
            |exact b.elim
      |halt x w'=>cases x<;>simp only[Oper.upon]at b ⊢<;>first|exact b.elim|exact absurd (d _ _ _ b) (by simp)
    . exact absurd (d _ _ _ h2) (by simp)
  . rw[if_neg h]at b;rw[if_neg h];exact conv _ _ b
theorem Ct[hm:Mixed P]{id:Nat}{L:List Oper}(S:World->Prop)(b:List (Nat×Bool))  (hl:b.length=L.toArray.size)  (e:S w)
    (j:hwp P n L.toArray Q S b l w) (hs:Region.noSelect L.toArray=true:=by kernel_rfl) (hc:ordOk L.toArray (Array.replicate L.toArray.size false) b=true:=by kernel_rfl):ewp P n (.region id L.toArray true) Q l w:=λa d f =>
  wp_region_any hm.eq (by
    have:=GV (P:=P) hs (Q:=YZ n Q) (S:=λw'=>∃g,S (dr w' g)) (λc a w h=>h.1) b (Array.replicate L.toArray.size false) a (dr w (d+1)) (λm i hm=>by
      simp only[B7,D7]at hm;split at hm<;>simp at hm) hc (λ_=>⟨w.drawn,e⟩) (j a (d+1) f)
    rw[hl]at this;exact Je _ _ _ _ this)
end
end
section
open Go Go.RowKit
section
variable {P:Program}{n:Nat}{ops:Array Oper}{Q:X0}{K:Env → World → Prop}{S:World → Prop}{rest:List Oper}{l:Env}{w:World}{d:Tmp}{op:Op}{ty:TypeId}{pos:String}{aft:Array Edge}
theorem Nh(a:K l w):owp P n ops (thn K Q) [] l w:=GU a
theorem AP(a:K l w):hwp P n ops (thn K Q) S [] l w:=Sa a
theorem Ds{r:List (Nat×Bool)}(a:S w)(b:hwp P n ops Q S r l w):owp P n ops (X7 P n ops Q S r) [] l w:=GU ⟨λ_=>a,b⟩
theorem Gl(a:hwp P n ops Q S [] l w):owp P n ops (X7 P n ops Q S []) [] l w:=GU ⟨λb=>absurd rfl b,a⟩
theorem FR{p:Prop}[Decidable p](he:Ev P ⟨some d,op,ty,pos,aft,none⟩ l w (.bool (decide p)))(hd:Nat.blt d n=true)(a:p->owp P n ops Q rest ((d,.bool true)::l) w)(hf:¬p->owp P n ops Q rest ((d,.bool false)::l) w) :
    owp P n ops Q (⟨some d,op,ty,pos,aft,none⟩::rest) l w:=by
  by_cases b:p
  . exact AT (by simpa[b]using he) hd (a b)
  . exact AT (by simpa[b]using he) hd (hf b)
theorem JD{p:Prop}[Decidable p](he:Ev P ⟨some d,op,ty,pos,aft,none⟩ l w (.bool (decide p)))(hd:Nat.blt d n=true)(b:p)(a:owp P n ops Q rest ((d,.bool true)::l) w):owp P n ops Q (⟨some d,op,ty,pos,aft,none⟩::rest) l w:=AT (by simpa[b]using he) hd a
theorem JE{p:Prop}[Decidable p](he:Ev P ⟨some d,op,ty,pos,aft,none⟩ l w (.bool (decide p)))(hd:Nat.blt d n=true)(a:¬p)(hf:owp P n ops Q rest ((d,.bool false)::l) w):owp P n ops Q (⟨some d,op,ty,pos,aft,none⟩::rest) l w:=AT (by simpa[a]using he) hd hf
def hwq(P:Program)(n:Nat)(ops:Array Oper)(Q:X0)(S:World->Prop)(o:Oper)(r:List (Nat×Bool))(l:Env)(w:World):Prop :=
  ∃d v,o.dst=some d/\Nat.blt d n=true/\Evg P ops o l S v/\hwp P n ops Q S r ((d,v)::l) w
theorem AB{i:Nat}{o:Oper}{r:List (Nat×Bool)}(hi:ops[i]?=some o)(a:hwq P n ops Q S o r l w):hwp P n ops Q S ((i,true)::r) l w:=by
  obtain⟨d,v,h1,h2,h3,h4⟩:=a;exact Yi hi h1 h2 h3 h4
theorem Bv{r:List (Nat×Bool)}{v:Value}(he:∀w',S w'->Ev P ⟨some d,op,ty,pos,aft,none⟩ l w' v)(hn:Nat.blt d n=true)(a:hwp P n ops Q S r ((d,v)::l) w):hwq P n ops Q S ⟨some d,op,ty,pos,aft,none⟩ r l w:=⟨d,v,rfl,hn,evg he,a⟩
theorem HX{a:World}{r:List (Nat×Bool)}{v:Value}(he:Ev P ⟨some d,op,ty,pos,aft,none⟩ l a v)(hn:Nat.blt d n=true)(b:hwp P n ops Q (·=a) r ((d,v)::l) w):hwq P n ops Q (·=a) ⟨some d,op,ty,pos,aft,none⟩ r l w:=⟨d,v,rfl,hn,evg λ_ e=>e▸he,b⟩
theorem AH{r:List (Nat×Bool)}{j dj:Nat}{b:Bool}{u:Value}(hj:Aag ops j=some dj)(hl:lk l dj=some u)   (a:hwp P n ops Q S r ((d,undef)::l) w) (hu:isB u b=false:=by exact rfl) (hn:Nat.blt d n=true:=by exact rfl):hwq P n ops Q S ⟨some d,op,ty,pos,aft,some (j,b)⟩ r l w:=⟨d,_,rfl,hn,Xc hj hl hu,a⟩
theorem AA{r:List (Nat×Bool)}{j dj:Nat}{b:Bool}(hj:Aag ops j=some dj)(hl:lk l dj=some (.bool b))(h:hwq P n ops Q S ⟨some d,op,ty,pos,aft,none⟩ r l w):hwq P n ops Q S ⟨some d,op,ty,pos,aft,some (j,b)⟩ r l w:=by
  obtain⟨e,v,h1,h2,f,h4⟩:=h;refine⟨e,v,h1,h2,λm a c=>?_,h4⟩;rcases f m a c with⟨_,hv⟩|⟨g,_⟩
  . exact .inl ⟨by simp[Region.wanted,c.yielded hj hl],hv⟩
  . simp[Region.wanted]at g
theorem AY{p:Prop}[Decidable p]{r:List (Nat×Bool)}(he:∀w',S w'->Ev P ⟨some d,op,ty,pos,aft,none⟩ l w' (.bool (decide p)))  (a:p->hwp P n ops Q S r ((d,.bool true)::l) w) (hf:¬p->hwp P n ops Q S r ((d,.bool false)::l) w) (hn:Nat.blt d n=true:=by exact rfl) :
    hwq P n ops Q S ⟨some d,op,ty,pos,aft,none⟩ r l w:=by
  by_cases b:p
  . exact Bv (by simpa[b]using he) hn (a b)
  . exact Bv (by simpa[b]using he) hn (hf b)
theorem CP{p:Prop}[Decidable p]{r:List (Nat×Bool)}(he:∀w',S w'->Ev P ⟨some d,op,ty,pos,aft,none⟩ l w' (.bool (decide p)))  (b:p) (a:hwp P n ops Q S r ((d,.bool true)::l) w) (hn:Nat.blt d n=true:=by exact rfl):hwq P n ops Q S ⟨some d,op,ty,pos,aft,none⟩ r l w:=Bv (by simpa[b]using he) hn a
theorem CR{p:Prop}[Decidable p]{r:List (Nat×Bool)}(he:∀w',S w'->Ev P ⟨some d,op,ty,pos,aft,none⟩ l w' (.bool (decide p)))  (a:¬p) (hf:hwp P n ops Q S r ((d,.bool false)::l) w) (hn:Nat.blt d n=true:=by exact rfl):hwq P n ops Q S ⟨some d,op,ty,pos,aft,none⟩ r l w:=Bv (by simpa[a]using he) hn hf
def hws(P:Program)(n:Nat)(ops:Array Oper)(Q:X0)(S:World->Prop)(fuel:Nat)(b:Array Bool)(l:Env)(w:World):Prop :=
  Closed ops b->∀a d,Ok n a l->Zt P ops (YZ n Q) (λw'=>∃c,S (dr w' c)) fuel b a (dr w d)
def X4(P:Program)(n:Nat)(ops:Array Oper)(Q:X0)(S:World->Prop)(i:Nat)(fuel:Nat)(a:Array Bool):X0
  |.normal,l,w=>(ZH ops i=false->S w)/\hws P n ops Q S fuel (a.setIfInBounds i true) l w
  |_,_,_=>False
theorem Mr{fuel i:Nat}{o:Oper}{v:Value}{b:Array Bool}(hi:ops[i]?=some o)    (hd:o.dst=some d) (hn:Nat.blt d n=true) (he:Evg P ops o l S v) (j:S w)
    (m:hws P n ops Q S fuel (b.setIfInBounds i true) ((d,v)::l) w) (hs:Region.noSelect ops=true:=by kernel_rfl) (hf:Region.free .any ops b i=true:=by kernel_rfl) (hr:(Region.ready .any ops b).contains i=true:=by kernel_rfl):hws P n ops Q S (fuel+1) b l w:=λf a e h=>by
  have g:i∈Region.ready .any ops b:=(by simpa using hr);refine LI hi (G4 hs) (λc a w k=>k.1.elim) fuel b a _ f (Region.free_spec hi hf) g (he n a h) ⟨w.drawn,j⟩ ?_;rw[hd];exact m (f.set g) _ _ (h.put hn v)
theorem Qn{fuel i:Nat}{o:Oper}{b:Array Bool}(hi:ops[i]?=some o)(hr:i∈Region.ready .any ops b)(z:owp P n ops (X4 P n ops Q S i fuel b) [o] l w)(k:Closed ops b)(a:Act)(e:Nat)(r:Ok n a l) :
    wpOp P ops (YZ n Q) i (λa' w'=>(ZH ops i=false->∃g,S (dr w' g))/\Zt P ops (YZ n Q) (λw'=>∃g,S (dr w' g)) fuel (b.setIfInBounds i true) a' w') a (dr w e):=by
  have d:=z a e r;unfold wpList at d;unfold wpOp;simp only[hi];have conv:∀a' w',YZ n (X4 P n ops Q S i fuel b) .normal a' w'->(ZH ops i=false->∃g,S (dr w' g))/\Zt P ops (YZ n Q) (λw'=>∃g,S (dr w' g)) fuel (b.setIfInBounds i true) a' w':=by
    rintro a' w' ⟨_,l',w₀,g,rfl,q,hS,m⟩;exact⟨λhl=>⟨w₀.drawn,hS hl⟩,m (k.set hr) a' g q⟩
  have f:∀h a' w',YZ n (X4 P n ops Q S i fuel b) h a' w'->h=.normal:=by
    rintro h a' w' ⟨hn,l',w₀,g,rfl,q,m⟩;cases h<;>first|rfl|exact m.elim
  by_cases j:Region.wanted o (yielded ops a.tmps)=true
  . rw[if_pos j]at d;rw[if_pos j];rcases d with d|⟨d,s,w0,h2⟩
    . refine .inl ?_;unfold Oper.wp at *
      generalize (execOp a.eval o).run P (dr w e)=p at *
      cases p with
      |ok t w'  =>
        cases t<;>simp only[Oper.upon]at d ⊢ <;>
          first
            |exact conv _ _ d
            |exact V9 d (λu y he=>by
                cases u with
                |returned v=>exact conv _ _ he
                |panicked c=>exact absurd (f _ _ _ he) (by simp)
                |outgrown=>obtain⟨s,w0,hq⟩:=he;exact absurd (f _ _ _ hq) (by simp))
            |exact Rows.mono d (λ_ _ he=>conv _ _ he)
            |exact d.elim
      |halt x w'=>cases x<;>simp only[Oper.upon]at d ⊢<;>first|exact d.elim|exact absurd (f _ _ _ d) (by simp)
    . exact absurd (f _ _ _ h2) (by simp)
  . rw[if_neg j]at d;rw[if_neg j];exact conv _ _ d
theorem OI{fuel i j:Nat}{f g:Oper}{b:Array Bool}  (hi:ops[i]?=some f) (hj:ops[j]?=some g)
    (o:owp P n ops (X4 P n ops Q S i fuel b) [f] l w) (p:owp P n ops (X4 P n ops Q S j fuel b) [g] l w) (hr:Region.ready .any ops b=[i,j]:=by kernel_rfl):hws P n ops Q S (fuel+1) b l w:=λc a e h=>by
  refine⟨λm=>by rw[hr]at m;simp at m,λk hk=>?_⟩;have d:=hk;rw[hr]at hk;have:k=i\/k=j:=(by simpa using hk);rcases this with rfl|rfl
  . exact Qn hi d o c a e h
  . exact Qn hj d p c a e h
theorem HN{fuel i:Nat}{a:Array Bool}(b:S w)(c:hws P n ops Q S fuel (a.setIfInBounds i true) l w):owp P n ops (X4 P n ops Q S i fuel a) [] l w:=GU ⟨λ_=>b,c⟩
theorem Ms{fuel:Nat}{b:Array Bool}(d:List (Nat×Bool))  (hl:d.length=fuel)  (g:S w) (k:hwp P n ops Q S d l w) (hs:Region.noSelect ops=true:=by kernel_rfl) (hc:ordOk ops b d=true:=by kernel_rfl):hws P n ops Q S fuel b l w:=λf a e h=>by
  subst hl;exact GV (P:=P) hs (Q:=YZ n Q) (S:=λw'=>∃i,S (dr w' i)) (λc a w j=>j.1) d b a (dr w e) f hc (λ_=>⟨w.drawn,g⟩) (k a e h)
theorem TA[hm:Mixed P]{id:Nat}{L:List Oper}(S:World->Prop)(e:hws P n L.toArray Q S L.toArray.size (Array.replicate L.toArray.size false) l w):ewp P n (.region id L.toArray true) Q l w:=λa d b =>
  wp_region_any hm.eq (Je _ _ _ _ (e (λm c hm=>by
      simp only[B7,D7]at hm;split at hm<;>simp at hm) a (d+1) b))
noncomputable def bof(p:Prop):Bool:=@decide p (Classical.propDecidable p)
theorem Dq{p:Prop}(a:p):bof p=true:=by unfold bof;exact @decide_eq_true p (Classical.propDecidable p) a
theorem BU{p:Prop}(a:¬p):bof p=false:=by unfold bof;exact @decide_eq_false p (Classical.propDecidable p) a
theorem Xd{p q:Prop}(c:p↔q):bof p=bof q:=by
  by_cases a:p
  . rw[Dq a,Dq (c.1 a)]
  . rw[BU a,BU (λb=>a (c.2 b))]
theorem Jf(b:Bool):bof (b=true)=b:=by
  cases b
  . exact BU (by simp)
  . exact Dq rfl
theorem Ej{f:FuncId}[Callable P f]{xs:List Operand}{vs:List Value}{a:Array TypeId}{p:Prop}{R:World->Prop}(b:X5 l xs=some vs)  (hc:Fn P f vs w λv w'=>v=.bool (bof p)/\R w')
    (c:∀w',p->R w'->owp P n ops Q rest ((d,.bool true)::l) w') (hf:∀w',¬p->R w'->owp P n ops Q rest ((d,.bool false)::l) w') (hd:Nat.blt d n=true:=by exact rfl):owp P n ops Q (⟨some d,.call { callee:=.value (.func f),args:=xs.toArray,argTypes:=a },ty,pos,aft,none⟩::rest) l w :=
  By b (hd:=hd) hc λv w' ⟨e,hR⟩=>by
    subst e;by_cases g:p
    . rw[Dq g];exact c w' g hR
    . rw[BU g];exact hf w' g hR
theorem Dk{t:TypeId}{z:Value}{size bytes:Nat}[hi:TInfo P t z size bytes]{c:TypeId}{a:String}{b:Array Edge}{y:Operand}{v:Value}  (k:opv ((d,.pointer (some ⟨w.heap.size,0,none⟩))::l) y=some v) (e:v.cells.toList.length=size) (m:∀u∈v.cells.toList,u.oneCell'=true)
    (r:∀w',New w w' t v.cells.toList->owp P n ops Q rest ((d,.pointer (some ⟨w.heap.size,0,none⟩))::l) w') (hd:Nat.blt d n=true:=by exact rfl) :
    owp P n ops Q (⟨some d,.alloc t,ty,pos,aft,none⟩::⟨none,.store t (.tmp d) y,c,a,b,none⟩::rest) l w:=by
  have hz:z.cells.toList.length=size:=(by simpa using hi.sz);refine Gk hd λq f=>?_;refine CL (g:=w.heap.size) (o:=0) (by simp[opv,lk]) k f.blk e (by omega) m λp h=>r p ?_;refine⟨f.ext.trans (h.below (V2 _)),by rw[h.size,f.size],?_⟩;have i:=Gt v.cells.toList [] z.cells.toList [] (by omega);have j:=h.blk;simp only[Q4,Q5,Q6]at i;rw[i]at j;exact j
theorem Gb{dst:Option Tmp}{t u:TypeId}{x y:Operand}{k:IntKind}{a b:Int}(c:opv l x=some (.int k a))(d:opv l y=some (.int k b)):Ev P ⟨dst,.binOp .neq t x y u,ty,pos,aft,none⟩ l w (.bool (decide (a≠b))):=by
  have:=WZ (P:=P) (w:=w) (dst:=dst) (t:=t) (u:=u) (ty:=ty) (pos:=pos) (aft:=aft) c d;by_cases e:a=b<;>simpa[e]using this
theorem W8{a:Func}{R:Value->World->Prop}{t:Tmp}{v:Value}(hr:a.results=#[.tmp t])(hl:lk l t=some v)(b:R v w):W6 P a R .ret l w:=⟨v,Z5 hr (AC hl),b⟩
theorem X2{a:Func}{R:Value->World->Prop}{r:ResultVar}{v:Value}(hr:a.results=#[r])(hl:X1 P l w r v)(b:R v w):W6 P a R .ret l w:=⟨v,Z5 hr hl,b⟩
theorem X3{a:Func}{R:Value->World->Prop}{r s:ResultVar}{v u:Value}(hr:a.results=#[r,s])(b:X1 P l w r v)(c:X1 P l w s u)(d:R (.tuple #[v,u]) w):W6 P a R .ret l w:=⟨_,AcQ hr b c,d⟩
theorem ZG{a:Func}{R:Value->World->Prop}{r s q:ResultVar}{v u x:Value}(hr:a.results=#[r,s,q])(b:X1 P l w r v)(c:X1 P l w s u)(d:X1 P l w q x)(e:R (.tuple #[v,u,x]) w):W6 P a R .ret l w:=⟨_,res3 hr b c d,e⟩
theorem FS{c:Code}{X:Type}(E:X->Env)(I:X->World->Prop)(e:X->Nat)(a:X)(d:I a w)(hs:W4 l (E a))
    (b:∀x w,I x w->ewp P n c (thn (λg w'=>∃f,W4 g (E f)/\I f w'/\e f<e x) Q) (E x) w):ewp P n (.loop c) Q l w:=Qk E I e a hs d b
end
class NilQ(Q:X0)(K:outParam (Env->World->Prop)):Prop where of:∀l w,K l w->Q .normal l w
instance nilThn{K:Env->World->Prop}{Q:X0}:NilQ (thn K Q) K:=⟨λ_ _ a=>a⟩
instance nilBlk{i:Nat}{Q:X0}{K:Env->World->Prop}[a:NilQ Q K]:NilQ (X9 i Q) K:=⟨λl w hk=>a.of l w hk⟩
instance(priority:=low) nilAny {Q:X0}:NilQ Q (Q .normal):=⟨λ_ _ a=>a⟩
theorem o_z{P:Program}{n:Nat}{ops:Array Oper}{Q:X0}{K:Env->World->Prop}{l:Env}{w:World}[a:NilQ Q K](hk:K l w):owp P n ops Q [] l w:=GU (a.of l w hk)
theorem h_z{P:Program}{n:Nat}{ops:Array Oper}{Q:X0}{S:World->Prop}{K:Env->World->Prop}{l:Env}{w:World}[a:NilQ Q K](hk:K l w):hwp P n ops Q S [] l w:=Sa (a.of l w hk)
class Cgo(P:Program)(n:Nat)(c:Code)(Q:X0)(l:Env)(w:World)(G:outParam Prop):Prop where go:G->ewp P n c Q l w
section
variable {P:Program}{n:Nat}{Q:X0}{l:Env}{w:World}
instance cgoSeq{x y:Code}:Cgo P n (.seq x y) Q l w (ewp P n x (thn (ewp P n y Q) Q) l w):=⟨Aj⟩
instance cgoBlock{id:Nat}{c:Code}:Cgo P n (.block id c) Q l w (ewp P n c (X9 id Q) l w):=⟨BC⟩
instance cgoRegion{id:Nat}{L:List Oper}:Cgo P n (.region id L.toArray false) Q l w (owp P n L.toArray Q L l w):=⟨Ae⟩
instance cgoSkip:Cgo P n .skip Q l w (Q .normal l w):=⟨AE⟩
instance cgoExit{i:Nat}:Cgo P n (.exit i) Q l w (Q (.exit i) l w):=⟨Cl⟩
instance cgoRet:Cgo P n .ret Q l w (Q .ret l w):=⟨AD⟩
theorem Aw{c:Code}{G:Prop}[a:Cgo P n c Q l w G](g:G):ewp P n c Q l w:=a.go g
end
end
section
open Go Go.RowKit
theorem LJ{l:Env}{i:Nat}{v:Value}:∀{e:Env},lk e i=none→W4 l e→W4 ((i,v)::l) e
  |[],_,_=>trivial
  |(j,  u)::r,hn,h=>by
    simp only[lk]at hn;cases hb:Nat.beq j i with
    |true=>rw[hb]at hn;simp at hn
    |false =>
      rw[hb]at hn;refine⟨?_,LJ hn h.2⟩;have:Nat.beq i j=false:=by
        cases a:Nat.beq i j
        . rfl
        . rw[F1 a,T8]at hb;cases hb
      simp only[lk,this];exact h.1
section
variable {P:Program}{m:Nat}{Q:X0}{l:Env}{w:World}
def rgE(i n:Tmp)(N k:Nat)(e:Env):Env:=(i,.int .i64 (k:Int))::(n,.int .i64 (N:Int))::e
theorem Cj{X:Type}{t i n d:Tmp}{b D r J:Nat}{F G y U K L M:TypeId}{V O R:String}{W S T:Array Edge}{o:Code}(N:Nat)(Y:N≤9223372036854775807)(E:X→Env)(I:Nat→X→World→Prop)(f:X)
    (z:I 0 f w) (hs:W4 l (rgE i n N 0 (E f)))
    (hf:∀x,lk (E x) i=none/\lk (E x) d=none) (C:Nat.blt t m=true/\Nat.blt i m=true/\Nat.blt d m=true) (q:Nat.beq i n=false/\Nat.beq d n=false)
    (s:∀k x w,k<N->I k x w->ewp P m o (X9 D (thn (λg w'=>∃a,W4 g (rgE i n N k (E a))/\I (k+1) a w') (X9 b Q))) ((t,.bool true)::rgE i n N k (E x)) w)
    (u:∀x w,I N x w->Q .normal ((t,.bool false)::rgE i n N N (E x)) w) :
    ewp P m (.loop (.seq (.region r #[⟨some t,.binOp .lss F (.tmp i) (.tmp n) G,U,V,W,none⟩] false) (.seq (.cond (.tmp t) .skip (.exit b)) (.seq (.block D o)
      (.region J #[⟨some d,.binOp .add y (.tmp i) (.const (.int .i64 1)) M,K,O,S,none⟩,⟨some i,.move (.tmp d),L,R,T,none⟩] false))))) (X9 b Q) l w:=by
  have A:∀k e,opv (rgE i n N k e) (.tmp i)=some (.int .i64 (k:Int)):=λk e=>(by simp[opv,rgE,lk]);have B:∀k e,opv (rgE i n N k e) (.tmp n)=some (.int .i64 (N:Int)):=λk e=>(by simp only[opv,rgE,lk,q.1];simp);refine(FS (X:=Nat×X) (λp=>rgE i n N p.1 (E p.2)) (λp w=>p.1<=N/\I p.1 p.2 w) (λp=>N-p.1) (0,f) ⟨V5 _,z⟩ hs ?_);rintro⟨k,x⟩ w1 ⟨hk,hI⟩;dsimp only at hk hI ⊢;refine Aj (Ae ?_);by_cases hlt:k<N
  . refine JD (Do (A k _) (B k _)) C.1 (by omega) (Nh ?_);refine Aj (Am (by simp[opv,lk]) (AE ?_));refine Aj (BC (HG ?_ (s k x w1 hlt hI)));have conv:∀g w',(∃a,W4 g (rgE i n N k (E a))/\I (k+1) a w')->ewp P m (.region J #[⟨some d,.binOp .add y (.tmp i) (.const (.int .i64 1)) M,K,O,S,none⟩,⟨some i,.move (.tmp d),L,R,T,none⟩] false)
        (thn (λg w'=>∃a:Nat×X,W4 g (rgE i n N a.1 (E a.2))/\(a.1<=N/\I a.1 a.2 w')/\N-a.1<N-k) (X9 b Q)) g w':=by
      rintro g w' ⟨a,hsub,hI'⟩;refine Ae ?_;refine AT (Qm (show opv g (.tmp i)=_ from hsub.1) (by omega)) C.2.2 ?_;refine AT (Di (v:=.int .i64 ((k+1:Nat):Int)) (by simp[opv,lk])) C.2.1 (Nh ?_);refine⟨(k+1,a),⟨by simp[lk],?_,?_⟩,⟨hlt,hI'⟩,by dsimp only;omega⟩
      . simp only[lk,q.1,q.2];exact hsub.2.1
      . exact LJ (hf a).1 (LJ (hf a).2 hsub.2.2)
    intro e g w' h;cases e with
    |normal=>exact conv g w' h
    |exit j =>
      simp only[X9]at h ⊢;cases hj:Nat.beq j D with
      |true=>rw[hj]at h;exact conv g w' h
      |false=>rw[hj]at h;exact h
    |panic c=>exact h
    |outgrown=>exact h
    |goto j=>exact h
    |ret=>exact h
  . have H:k=N:=(by omega);subst H;refine JE (Do (A k _) (B k _)) C.1 (by omega) (Nh ?_);refine Aj (Ah (by simp[opv,lk]) (Cl ?_));have hb:Nat.beq b b=true:=T8 b;simp only[thn,X9,hb];exact u x w1 hI
end
class TPlaces(P:Program)(t:TypeId)(pl:outParam (List (Nat×Nat))):Prop where eq:∃fs,P.underlying t=some (.struct fs)/\∀w,(fs.mapM λf=>Prod.mk f.offset <$> sizeOf f.type:Sem (Array (Nat×Nat))).run P w=.ok pl.toArray w
def Y6:List Value->List (Nat×Value)->List Value
  |cs,[]=>cs
  |cs,(o,v)::r=>Y6 (W9 cs o v.cells.toList) r
def Ze(a:List (Nat×Nat))(m:Nat):List (Nat×Value)→Option (List (Nat×Value))
  |[]=>some []
  |(i,  v)::r=>match a[i]? with
    |some (off,size)=>match Nat.beq v.cells.toList.length size&&Nat.ble (off+size) m with
      |true=>match Ze a m r with
        |some k=>some ((off,v)::k)
        |none=>none
      |false=>none
    |none=>none
theorem NO(b:List (Nat×Nat)):∀(ps:List (Nat×Value))(a:Array Value)(k:List (Nat×Value)),Ze b a.size ps=some k→Instr.fill (b.toArray[·]?) a ps=some (Y6 a.toList k).toArray
  |[],a,k,h=>by
    simp only[Ze,Option.some.injEq]at h;subst h;simp[Instr.fill,Y6]
  |(i,  v)::r,a,k,h=>by
    simp only[Ze]at h;cases c:b[i]? with
    |none=>rw[c]at h;simp at h
    |some q =>
      obtain⟨off,size⟩:=q;rw[c]at h;simp only at h;cases hb:Nat.beq v.cells.toList.length size&&Nat.ble (off+size) a.size with
      |false=>rw[hb]at h;simp at h
      |true =>
        rw[hb]at h;simp only at h;cases hr:Ze b a.size r with
        |none=>rw[hr]at h;simp at h
        |some e =>
          rw[hr]at h;simp only[Option.some.injEq]at h;subst h;rw[N1]at hb;have f:v.cells.size=size:=(by simpa using F1 hb.1);have j:off+size<=a.size:=F5 hb.2;simp only[Instr.fill,List.getElem?_toArray,c];rw[if_neg (by simp[f];omega)];have hf:=IT v.cells.toList 0 off a;rw[U0]at hf;have he:Array.foldl (λcs(x:Value×Nat)=>cs.setIfInBounds (off+x.2) x.1) a v.cells.zipIdx=(W9 a.toList off v.cells.toList).toArray:=by
            rw[<- Array.foldl_toList,Array.toList_zipIdx];apply N0.1;rw[hf]
          have d:(W9 a.toList off v.cells.toList).toArray.size=a.size:=(by simp[GA]);have g:=NO b r (W9 a.toList off v.cells.toList).toArray e (by rw[d];exact hr);simp only[Y6];rw[<- g];congr 1;funext x;simp
def Aae:List Nat->List Value->List (Nat×Value)
  |i::r,v::s=>(i,v)::Aae r s
  |_,_=>[]
theorem Pn(f:Operand->Value):∀(ps:List (Nat×Operand)),ps.map (λp=>(p.1,f p.2))=Aae (ps.map (·.1)) ((ps.map (·.2)).map f)
  |[]=>rfl
  |p::r=>by simp[Aae,Pn f r]
theorem Im{P:Program}{l:Env}{w:World}{dst:Option Tmp}{ty:TypeId}{pos:String}{aft:Array Edge}{t:TypeId}{z:Value}{size bytes:Nat}[TInfo P t z size bytes]{b:List (Nat×Nat)}[e:TPlaces P t b]{ps:List (Nat×Operand)}{vs:List Value}{k:List (Nat×Value)}
    (f:X5 l (ps.map (·.2))=some vs) (hk:Ze b z.cells.size (Aae (ps.map (·.1)) vs)=some k):Ev P ⟨dst,.build t ps.toArray,ty,pos,aft,none⟩ l w (.agg (Y6 z.cells.toList k).toArray):=λ_ a i g=>by
  obtain⟨h,h1,h2⟩:=e.eq;have c:(ps.map λp=>(p.1,a.eval p.2))=Aae (ps.map (·.1)) vs:=(by rw[Pn,g.evals f]);have hf:=NO b _ z.cells k hk;simp only[execOp,Instr.build];simp[HH (P:=P) (t:=t),run_underlying h1,h2 (dr w i)];have d:Instr.fill (λx=>b[x]?) z.cells (Aae (ps.map (·.1)) vs)=some (Y6 z.cells.toList k).toArray:=by
    rw[<- hf];congr 1;funext x;simp
  rw[c,d];simp
end
section
open Go Go.RowKit
structure Kept(w w':World)(v:Value):Prop where
  os:w'.os=w.os
  tape:w'.tape=w.tape
  output:w'.output=w.output
  size:w.heap.size<=w'.heap.size
  block:∀k,k<w.heap.size->v.ownBlock≠some k->w'.heap[k]?=w.heap[k]?
theorem Kept.below{w w':World}{v:Value}(c:Kept w w' v){d:Nat}(b:d<=w.heap.size)(a:∀g,v.ownBlock=some g->d<=g):Below d w w' :=
  ⟨c.os,c.tape,c.output,c.size,λk hk=>c.block k (by omega) λe=>by have:=a k e;omega⟩
theorem Kept.blk{w w':World}{v:Value}(b:Kept w w' v){g:Nat}{t:TypeId}{cs:List Value}(hb:Blk w g t cs)(a:v.ownBlock≠some g):Blk w' g t cs:=hb.keep (b.block g hb.lt a)
theorem Own.blk_ne{α:Type}[Rp α]{w:World}{base:Nat}{F:Nat->Prop}{e:TypeId}{v:Value}{xs:List α}(h:Own w base F e v xs){g:Nat}{t:TypeId}{cs:List Value}(hb:Blk w g t cs)(b:t≠e):v.ownBlock≠some g:=by
  obtain⟨cells,c,_⟩:=h;rcases c.2 with⟨rfl,_⟩|⟨d,cap,cur,rfl,_,a,_⟩
  . simp[Value.ownBlock]
  . intro he;have:d=g:=(by simpa[Value.ownBlock]using he);subst this;unfold Blk at hb;rw[hb]at a;injection a with a;injection a with _ f;exact b f
theorem Own.fits{α:Type}[Rp α]{w w':World}{base:Nat}{F:Nat->Prop}{e:TypeId}{v:Value}{xs:List α}(c:Own w base F e v xs){d:Nat}(b:d<=base)(hb:d<=w.heap.size)(k:Kept w w' v):Below d w w':=k.below hb λg a=>by have:=(c.lt g a).1;omega
theorem Own.made{α:Type}[Rp α]{w w':World}{F:Nat->Prop}{e:TypeId}{cells:List Value}{xs:List α}{n:Nat}(c:New w w' e cells)(hc:Chunks w' F cells xs)(hn:n=xs.length)(a:¬F w.heap.size)(hm:n<=9223372036854775807):Own w' w.heap.size F e (.slice (some ⟨w.heap.size,0,none⟩) n n) xs:=by
  subst hn;refine⟨cells,⟨hc.length,.inr ⟨w.heap.size,xs.length,cells.toArray,rfl,V2 _,c.blk,V2 _,by simpa[maxLen]using hm,by simp[hc.length],?_⟩⟩,hc,λg b=>?_⟩
  . rw[<- hc.length];simp
  . have:w.heap.size=g:=(by simpa[Value.ownBlock]using b);subst this;exact a
theorem Vb.made{α:Type}[Rp α]{w w':World}{F:Nat->Prop}{e:TypeId}{cells:List Value}{xs:List α}{n:Nat}(b:New w w' e cells)(hc:Chunks w' F cells xs)(hn:n=xs.length)(a:F w.heap.size)(hm:n<=9223372036854775807):Vb w' F (.slice (some ⟨w.heap.size,0,none⟩) n n) xs:=by
  subst hn;exact .of_slice ⟨_,_,cells,rfl,V2 _,hm,hc,λ_=>⟨_,_,rfl,a,b.blk.cellsAt⟩⟩
section
variable {P:Program}{n:Nat}{ops:Array Oper}{Q:X0}{rest:List Oper}{l:Env}{w:World}{d d1 d2:Tmp}{ty ty2:TypeId}{pos pos2:String}{aft aft2:Array Edge}
theorem Ky{α:Type}[Rp α]{t e:TypeId}[TSlice P t e]{z:Value}{size bytes:Nat}[TInfo P e z size bytes](a:size=Rp.size α){x y:Operand}{v u:Value}{xs ys:List α}{base:Nat}{F:Nat->Prop}
    (p:opv l x=some v) (q:opv l y=some u) (g:Own w base F e v xs) (r:∀k,F k->k<w.heap.size) (f:base<=w.heap.size) (hu:Vb w F u ys)
     (hb:(xs.length+ys.length)*bytes<=140737488355328) (j:xs.length+ys.length<=9223372036854775807) (hd:Nat.blt d n=true)
    (C:∀i w',Own w' base F e i (xs++ys)->Kept w w' v->owp P n ops Q rest ((d,i)::l) w') (hz0:0<size:=by decide) :
    owp P n ops Q (⟨some d,.call { callee:=.builtin .append,args:=#[x,y],argTypes:=#[t,t] },ty,pos,aft,none⟩::rest) l w:=by
  subst a;obtain⟨A,c,cells,rfl,h1,h2,h3,h4⟩:=hu.slice;exact Hh p q g r f h3 (λs=>by obtain⟨b,o,h5,_,h6⟩:=h4 s;exact⟨b,o,h5,h6⟩) hz0 hb j hd λi w' B h _ =>
    C i w' B ⟨h.os,h.tape,h.output,h.size,λk hk m=>h.block k hk (λhe=>m he.symm)⟩
theorem Hw{α:Type}[Rp α]{t e:TypeId}[TSlice P t e]{z:Value}{size bytes:Nat}[TInfo P e z size bytes](g:size=Rp.size α){x y:Operand}{v u:Value}{xs:List α}{a:α}{base:Nat}{F:Nat->Prop}
    (s:opv ((d1,.slice (some ⟨w.heap.size,0,none⟩) 1 1)::l) x=some v) (B:opv l y=some u) (i:Own w base F e v xs) (o:∀k,F k->k<w.heap.size) (h:base<=w.heap.size) (hu:Vb w F u a)
      (hb:(xs.length+1)*bytes<=140737488355328) (p:xs.length+1<=9223372036854775807) (hd:Nat.blt d1 n=true/\Nat.blt d2 n=true)
    (E:∀m w',Own w' base F e m (xs++[a])->Kept w w' v->owp P n ops Q rest ((d2,m)::(d1,.slice (some ⟨w.heap.size,0,none⟩) 1 1)::l) w') (hz0:0<size:=by decide) (hz1:size<=1000:=by decide) :
    owp P n ops Q (⟨some d1,.buildSlice t 1 #[(0,y)],ty,pos,aft,none⟩::⟨some d2,.call { callee:=.builtin .append,args:=#[x,.tmp d1],argTypes:=#[t,t] },ty2,pos2,aft2,none⟩::rest) l w:=by
  subst g;have hc:=hu.cells;refine FQ (ps:=[(0,y)]) (vs:=[u]) (by simp[X5,B]) rfl (λv r=>by simp at r;subst r;exact Rp.len hc) (hz:=(by omega)) hd.1 λC b=>?_;have d:([u].flatMap λv=>v.cells.toList)=u.cells.toList:=(by simp);rw[d]at b;have f:Agree F w C:=b.ext.agree o;refine Hh (A:=some ⟨w.heap.size,0,none⟩) (c:=1) (ys:=[a]) (cells:=u.cells.toList) s (by simp[opv,lk]) (i.ext b.ext o) (λk hk=>K1 (o k hk) b.ext.size) (U8 h b.ext.size) (.single (Rp.agree hc f)) (λ_=>⟨_,_,rfl,b.blk.cellsAt⟩) hz0 hb p hd.2 λm w' D j _=>?_;refine E m w' D ⟨j.os.trans b.ext.os,j.tape.trans b.ext.tape,j.output.trans b.ext.output,U8 b.ext.size j.size,λk hk q=>?_⟩;rw[j.block k (K1 hk b.ext.size) (λhe=>q he.symm),b.ext.block k hk]
theorem Qp{α:Type}[Rp α]{t e:TypeId}[TSlice P t e]{z:Value}{size bytes:Nat}[TInfo P e z size bytes](h:size=Rp.size α){x y:Operand}{v u:Value}{xs:List α}{a:α}{base:Nat}{F:Nat->Prop}
    (B:opv ((d1,.slice (some ⟨w.heap.size,0,none⟩) 1 1)::l) x=some v) (C:opv l y=some u) (m:Own w base F e v xs) (p:∀k,F k->k<w.heap.size) (i:base<=w.heap.size) (hu:Vb w F u a)
    (hz0:0<size) (hz1:size<=1000) (hb:(xs.length+1)*bytes<=140737488355328) (q:xs.length+1<=9223372036854775807) (hd:Nat.blt d1 n=true/\Nat.blt d2 n=true)
    (G:∀j w',Own w' base F e j (xs++[a])->Kept w w' v->(j.ownBlock=v.ownBlock\/∃g,j.ownBlock=some g/\w.heap.size<=g)->owp P n ops Q rest ((d2,j)::(d1,.slice (some ⟨w.heap.size,0,none⟩) 1 1)::l) w') :
    owp P n ops Q (⟨some d1,.buildSlice t 1 #[(0,y)],ty,pos,aft,none⟩::⟨some d2,.call { callee:=.builtin .append,args:=#[x,.tmp d1],argTypes:=#[t,t] },ty2,pos2,aft2,none⟩::rest) l w:=by
  subst h;have hc:=hu.cells;refine FQ (ps:=[(0,y)]) (vs:=[u]) (by simp[X5,C]) rfl (λv s=>by simp at s;subst s;exact Rp.len hc) (hz:=(by omega)) hd.1 λD b=>?_;have d:([u].flatMap λv=>v.cells.toList)=u.cells.toList:=(by simp);rw[d]at b;have f:Agree F w D:=b.ext.agree p;refine Hh (A:=some ⟨w.heap.size,0,none⟩) (c:=1) (ys:=[a]) (cells:=u.cells.toList) B (by simp[opv,lk]) (m.ext b.ext p) (λk hk=>K1 (p k hk) b.ext.size) (U8 i b.ext.size) (.single (Rp.agree hc f)) (λ_=>⟨_,_,rfl,b.blk.cellsAt⟩) hz0 hb q hd.2 λj w' E o hat=>?_;refine G j w' E ⟨o.os.trans b.ext.os,o.tape.trans b.ext.tape,o.output.trans b.ext.output,U8 b.ext.size o.size,λk hk r=>?_⟩ ?_
  . rw[o.block k (K1 hk b.ext.size) (λhe=>r he.symm),b.ext.block k hk]
  . rcases hat with hat|hat
    . exact .inl hat
    . exact .inr ⟨_,hat,b.ext.size⟩
end
end
section
open Go Go.RowKit
theorem Chunks.set{α:Type}[Rp α]{w:World}{F:Nat→Prop}:∀{xs:List α}{cells:List Value}{i:Nat}{x:α}{cs:List Value},Chunks w F cells xs→i<xs.length→Rp.R w F cs x→Chunks w F (W9 cells (i*Rp.size α) cs) (xs.set i x)
  |[],_,_,_,_,_,hi,_=>by simp at hi
  |y::xs,cells,0,x,cs,⟨c,rest,he,hr,hc⟩,_,hx=>by
    refine⟨cs,rest,?_,hx,hc⟩;have:=Gt cs [] c rest (by rw[Rp.len hr,Rp.len hx]);simp only[Q4,Q6]at this;rw[he,Nat.zero_mul,this]
  |y  :: xs,cells,i+1,x,cs,⟨c,rest,he,hr,hc⟩,hi,hx=>by
    have d:=Chunks.set (i:=i) hc (by simpa using hi) hx;refine⟨c,W9 rest (i*Rp.size α) cs,?_,hr,d⟩;have a:∀(vs r:List Value)(k:Nat),W9 (c++r) (c.length+k) vs=c++W9 r k vs:=by
      intro vs
      induction vs with
      |nil=>intro r k;rfl
      |cons v vs b =>
        intro r k;simp only[W9];rw[F6 _ _ (by omega),show c.length+k-c.length=k from by omega,show c.length+k+1=c.length+(k+1)from by omega,b]
    rw[he,show(i+1)*Rp.size α=c.length+i*Rp.size α from by rw[Rp.len hr,V3];omega,a]
theorem GX:∀(vs a b:List Value)(o:Nat),o+vs.length<=a.length->W9 (a++b) o vs=W9 a o vs++b
  |[],_,_,_,_=>rfl
  |v::vs,a,b,o,h=>by
    simp only[W9,M8]at *
    rw[List.set_append_left _ _ (by omega),GX vs _ b (o+1) (by simp;omega)]
theorem Own.open{α:Type}[Rp α]{w:World}{base:Nat}{F:Nat->Prop}{e:TypeId}{v:Value}{xs:List α}(d:Own w base F e v xs)(c:0<xs.length) :
    ∃g cap cells sp,v=.slice (some ⟨g,0,none⟩) xs.length cap/\base<=g/\¬F g/\Blk w g e (cells++sp)/\Chunks w F cells xs/\cells.length=xs.length*Rp.size α/\xs.length<=cap/\cap<=9223372036854775807/\(cells++sp).length=cap*Rp.size α:=by
  obtain⟨cells,b,h2,h3⟩:=d;rcases b.2 with⟨rfl,hn⟩|⟨g,cap,cur,rfl,hg,hh,hnc,hcm,hcs,hcur⟩
  . omega
  . have a:cur.toList=cells++cur.toList.drop (xs.length*Rp.size α):=(by rw[<- hcur];exact(F4 _ _).symm);refine⟨g,cap,cells,cur.toList.drop (xs.length*Rp.size α),rfl,hg,h3 g rfl,?_,h2,b.1,hnc,by simpa[maxLen]using hcm,?_⟩
    . unfold Blk;rw[<- a];simpa using hh
    . rw[<- a];simpa using hcs
theorem Own.close{α:Type}[Rp α]{w:World}{base:Nat}{F:Nat->Prop}{e:TypeId}{xs:List α}{g cap:Nat}{cells sp:List Value}(b:base<=g)(c:¬F g)(hb:Blk w g e (cells++sp))(hc:Chunks w F cells xs)(hn:xs.length<=cap)(hm:cap<=9223372036854775807)(hl:(cells++sp).length=cap*Rp.size α) :
    Own w base F e (.slice (some ⟨g,0,none⟩) xs.length cap) xs:=by
  refine⟨cells,⟨hc.length,.inr ⟨g,cap,(cells++sp).toArray,rfl,b,hb,hn,by simpa[maxLen]using hm,by simpa using hl,?_⟩⟩,hc,λd a=>?_⟩
  . rw[<- hc.length];simp
  . have:g=d:=(by simpa[Value.ownBlock]using a);subst this;exact c
section
variable {P:Program}{n:Nat}{ops:Array Oper}{Q:X0}{rest:List Oper}{l:Env}{w:World}{ty:TypeId}{pos:String}{aft:Array Edge}
theorem MQ{α:Type}[Rp α]{t e:TypeId}{z:Value}{size bytes:Nat}[TInfo P t z size bytes](h:size=Rp.size α){x y:Operand}{g i m c:Nat}{u:Value}{a:α}{xs:List α}{base:Nat}{F:Nat->Prop}
    (A:opv l x=some (.pointer (some ⟨g,0+i*size,none⟩))) (B:opv l y=some u) (j:Own w base F e (.slice (some ⟨g,0,none⟩) m c) xs) (hi:i<xs.length) (hu:Vb w F u a)
    (E:∀w',Own w' base F e (.slice (some ⟨g,0,none⟩) m c) (xs.set i a)->Kept w w' (.slice (some ⟨g,0,none⟩) m c)->w'.heap.size=w.heap.size->owp P n ops Q rest l w'):owp P n ops Q (⟨none,.store t x y,ty,pos,aft,none⟩::rest) l w:=by
  subst h;obtain⟨D,cap,cells,sp,hv,hg,hF,hb,hc,hl,o,p,hlen⟩:=j.open (by omega);injection hv with b q r;injection b with b;injection b with b;subst b;subst q;subst r;have d:=hu.cells;have C:i*Rp.size α+Rp.size α<=cells.length:=by
    rw[hl];have:(i+1)*Rp.size α<=xs.length*Rp.size α:=G8 _ hi;rw[V3]at this;omega
  refine CL A B hb (Rp.len d) (by rw[K0];omega) (Rp.one d) λw' f=>?_;rw[U4,GX _ _ _ _ (by rw[Rp.len d];omega)]at f;have s:Agree F w w':=f.agree hF;refine E w' ?_ ⟨f.os,f.tape,f.output,U6 f.size.symm,λk _ v=>f.other k λhe=>v (by simp[Value.ownBlock,he])⟩ f.size;have:=Own.close (w:=w') (cap:=c) hg hF f.blk ((hc.set hi d).agree s) (by simpa using o) p (by rw[K0,GA,<- K0];exact hlen);rwa[Q7]at this
theorem NP{t e:TypeId}[a:TSlice P t e](A:Option Addr)(m c:Nat)(w:World):(Op.equal t (.slice A m c) (.slice none 0 0)).run P w=.ok A.isNone w:=by
  have hd:∀b:Nat,(Op.equalIn (b+1) t (.slice A m c) (.slice none 0 0)).run P w=.ok A.isNone w:=λb=>by
    cases A<;>simp[Op.equalIn,run_underlying a.eq]
  exact hd 9999
theorem UH{dst:Option Tmp}{t e u:TypeId}[TSlice P t e]{x:Operand}{A:Option Addr}{m c:Nat}(d:opv l x=some (.slice A m c)):Ev P ⟨dst,.binOp .eql t x (.const (.slice none 0 0)) u,ty,pos,aft,none⟩ l w (.bool A.isNone):=λ_ a g b=>by
  have f:=b.eval (x:=.const (.slice none 0 0)) (v:=.slice none 0 0) rfl;simp[execOp,b.eval d,f,eqGuard,binOp,NP (P:=P) (t:=t)]
end
end
section
open Go Go.RowKit
section
variable {P:Program}{l:Env}{w:World}{dst:Option Tmp}{ty:TypeId}{pos:String}{aft:Array Edge}
theorem SL{s t:TypeId}{k:IntKind}[hs:TInt P s k][b:TInt P t .i64]{x:Operand}{a:Int}(c:opv l x=some (.int k a))(d:-9223372036854775808<=a)(e:a<=9223372036854775807):Ev P ⟨dst,.convert s t x,ty,pos,aft,none⟩ l w (.int .i64 a):=λ_ _ g f=>by
  simp[execOp,f.eval c,convert,run_underlying hs.eq,run_underlying b.eq,Conv.intToInt,wrap_i64 d e]
theorem SM{s t:TypeId}{k:IntKind}[a:TInt P t k]{x:Operand}{v:Value}(b:opv l x=some (.iface t v)):Ev P ⟨dst,.typeAssert x s t true,ty,pos,aft,none⟩ l w (.tuple #[v,.bool true]):=λ_ _ d c=>by
  simp[execOp,c.eval b,Instr.typeAssert,run_underlying a.eq]
theorem KZ{t e:TypeId}[h:TSlice P t e]{z:Value}{size bytes:Nat}[TInfo P e z size bytes]{x y:Operand}{k:IntKind}{A:Option Addr}{m c lo:Nat}{q:Int}(d:opv l x=some (.slice A m c))(f:opv l y=some (.int k q))(g:q=(lo:Int))(a:lo<=m) :
    Ev P ⟨dst,.slice t x (some y) none none,ty,pos,aft,none⟩ l w (.slice (if c=lo then A else A.map (·.add (lo*size))) (m-lo) (c-lo)):=λ_ _ i b=>by
  subst g;simp[execOp,b.eval d,b.eval f,Instr.sliceAt,Instr.slice,run_underlying h.eq,Instr.sliceBounds,Instr.sliceBound,asIntOf,a,DZ (P:=P) (t:=e)]
theorem NQ{t e:TypeId}[h:TSlice P t e]{z:Value}{size bytes:Nat}[TInfo P e z size bytes]{x y:Operand}{k:IntKind}{A:Option Addr}{m c hi:Nat}{q:Int}(d:opv l x=some (.slice A m c))(f:opv l y=some (.int k q))(g:q=(hi:Int))(a:hi<=c) :
    Ev P ⟨dst,.slice t x none (some y) none,ty,pos,aft,none⟩ l w (.slice (if c=0 then A else A.map (·.add (0*size))) hi c):=λ_ _ i b=>by
  subst g;simp[execOp,b.eval d,b.eval f,Instr.sliceAt,Instr.slice,run_underlying h.eq,Instr.sliceBounds,Instr.sliceBound,asIntOf,a,DZ (P:=P) (t:=e)]
end
end
section
open Go Go.RowKit
section
variable {w:World}{b o:Nat}{v0 v1 v2 v3 v4 v5 v6 v7 v8 v9:Value}{r:List Value}
theorem cat0(a:cellsAt w b o (v0::r)):w.cell? ⟨b,o,none⟩=some v0:=a.1
theorem cat1(a:cellsAt w b o (v0::v1::r)):w.cell? ⟨b,o+1,none⟩=some v1:=a.2.1
theorem cat2(a:cellsAt w b o (v0::v1::v2::r)):w.cell? ⟨b,o+2,none⟩=some v2:=a.2.2.1
theorem cat3(a:cellsAt w b o (v0::v1::v2::v3::r)):w.cell? ⟨b,o+3,none⟩=some v3:=a.2.2.2.1
theorem cat4(a:cellsAt w b o (v0::v1::v2::v3::v4::r)):w.cell? ⟨b,o+4,none⟩=some v4:=a.2.2.2.2.1
theorem cat5(a:cellsAt w b o (v0::v1::v2::v3::v4::v5::r)):w.cell? ⟨b,o+5,none⟩=some v5:=a.2.2.2.2.2.1
theorem cat6(a:cellsAt w b o (v0::v1::v2::v3::v4::v5::v6::r)):w.cell? ⟨b,o+6,none⟩=some v6:=a.2.2.2.2.2.2.1
theorem cat7(a:cellsAt w b o (v0::v1::v2::v3::v4::v5::v6::v7::r)):w.cell? ⟨b,o+7,none⟩=some v7:=a.2.2.2.2.2.2.2.1
theorem cat8(a:cellsAt w b o (v0::v1::v2::v3::v4::v5::v6::v7::v8::r)):w.cell? ⟨b,o+8,none⟩=some v8:=a.2.2.2.2.2.2.2.2.1
theorem cat9(a:cellsAt w b o (v0::v1::v2::v3::v4::v5::v6::v7::v8::v9::r)):w.cell? ⟨b,o+9,none⟩=some v9:=a.2.2.2.2.2.2.2.2.2.1
end
section
variable {P:Program}{n:Nat}{ops:Array Oper}{Q:X0}{rest:List Oper}{l:Env}{w:World}{d:Tmp}{ty:TypeId}{pos:String}{aft:Array Edge}
theorem Ar{x:Operand}{v:Value}(a:opv l x=some v)  (b:owp P n ops Q rest ((d,v)::l) w)  (hd:Nat.blt d n=true:=by exact rfl):owp P n ops Q (⟨some d,.move x,ty,pos,aft,none⟩::rest) l w:=AT (Di a) hd b
theorem Au{x:Operand}{v:Value}(a:opv l x=some v)  (b:owp P n ops Q rest ((d,v)::l) w)  (hd:Nat.blt d n=true:=by exact rfl):owp P n ops Q (⟨some d,.assign x,ty,pos,aft,none⟩::rest) l w:=AT (Dj a) hd b
theorem AV{c x y:Operand}{v:Value}(hc:opv l c=some (.bool true))(a:opv l x=some v)  (b:owp P n ops Q rest ((d,v)::l) w)  (hd:Nat.blt d n=true:=by exact rfl):owp P n ops Q (⟨some d,.pick c x y,ty,pos,aft,none⟩::rest) l w:=AT (MY hc a) hd b
theorem AS{c x y:Operand}{v:Value}(hc:opv l c=some (.bool false))(a:opv l y=some v)  (b:owp P n ops Q rest ((d,v)::l) w)  (hd:Nat.blt d n=true:=by exact rfl):owp P n ops Q (⟨some d,.pick c x y,ty,pos,aft,none⟩::rest) l w:=AT (MZ hc a) hd b
theorem AJ{t:TypeId}{f off:Nat}[TField P t f off]{x:Operand}{b o:Nat}(a:opv l x=some (.pointer (some ⟨b,o,none⟩)))  (c:owp P n ops Q rest ((d,.pointer (some ⟨b,o+off,none⟩))::l) w)  (hd:Nat.blt d n=true:=by exact rfl):owp P n ops Q (⟨some d,.fieldAddr t x f,ty,pos,aft,none⟩::rest) l w:=AT (Dd a) hd c
theorem Cm{x:Operand}{a:Addr}(b:opv l x=some (.pointer (some a)))  (c:owp P n ops Q rest ((d,.pointer (some a))::l) w)  (hd:Nat.blt d n=true:=by exact rfl):owp P n ops Q (⟨some d,.nilCheck x,ty,pos,aft,none⟩::rest) l w:=AT (Na b) hd c
theorem AZ{x:Operand}{i:Nat}{vs:Array Value}{v:Value}(a:opv l x=some (.tuple vs))(b:vs[i]?=some v)  (c:owp P n ops Q rest ((d,v)::l) w)  (hd:Nat.blt d n=true:=by exact rfl):owp P n ops Q (⟨some d,.extract x i,ty,pos,aft,none⟩::rest) l w:=AT (NJ a b) hd c
theorem Cw{t:TypeId}{x:Operand}(a:opv l x=some (.bool true))  (b:owp P n ops Q rest ((d,.bool false)::l) w)  (hd:Nat.blt d n=true:=by exact rfl):owp P n ops Q (⟨some d,.unOp .not t x,ty,pos,aft,none⟩::rest) l w:=AT (RY a) hd b
theorem Cx{t:TypeId}{x:Operand}(a:opv l x=some (.bool false))  (b:owp P n ops Q rest ((d,.bool true)::l) w)  (hd:Nat.blt d n=true:=by exact rfl):owp P n ops Q (⟨some d,.unOp .not t x,ty,pos,aft,none⟩::rest) l w:=AT (RZ a) hd b
theorem Em{t:TypeId}{x:Operand}{b:Bool}(a:opv l x=some (.bool b))  (c:owp P n ops Q rest ((d,.bool (!b))::l) w)  (hd:Nat.blt d n=true:=by exact rfl):owp P n ops Q (⟨some d,.unOp .not t x,ty,pos,aft,none⟩::rest) l w:=AT (NI a) hd c
theorem AO{t e:TypeId}[TSlice P t e]{x:Operand}{A:Option Addr}{m c:Nat}(a:opv l x=some (.slice A m c))  (b:owp P n ops Q rest ((d,.int .i64 (m:Int))::l) w)  (hd:Nat.blt d n=true:=by exact rfl):owp P n ops Q (⟨some d,.call { callee:=.builtin .len,args:=#[x],argTypes:=#[t] },ty,pos,aft,none⟩::rest) l w:=AT (IM a) hd b
theorem OJ{t:TypeId}[TStr P t]{x:Operand}{s:ByteArray}(a:opv l x=some (.string s))(hd:Nat.blt d n=true)(b:owp P n ops Q rest ((d,.int .i64 (s.size:Int))::l) w)  : owp P n ops Q (⟨some d,.call { callee:=.builtin .len,args:=#[x],argTypes:=#[t] },ty,pos,aft,none⟩::rest) l w:=AT (Tx a) hd b
theorem PZ{c e:TypeId}{x y:Operand}{k:IntKind}{a b:Int}(f:opv l x=some (.int k a))(g:opv l y=some (.int k b))(hd:Nat.blt d n=true)(h:owp P n ops Q rest ((d,.int k (min a b))::l) w)  : owp P n ops Q (⟨some d,.call { callee:=.builtin .min,args:=#[x,y],argTypes:=#[c,e] },ty,pos,aft,none⟩::rest) l w:=AT (Ty f g) hd h
theorem Qa{c e:TypeId}{x y:Operand}{k:IntKind}{a b:Int}(f:opv l x=some (.int k a))(g:opv l y=some (.int k b))(hd:Nat.blt d n=true)(h:owp P n ops Q rest ((d,.int k (max a b))::l) w)  : owp P n ops Q (⟨some d,.call { callee:=.builtin .max,args:=#[x,y],argTypes:=#[c,e] },ty,pos,aft,none⟩::rest) l w:=AT (Xb f g) hd h
theorem Ni{t:TypeId}{k:IntKind}[TInt P t k]{x:Operand}{v:Value}(a:opv l x=some v)  (b:owp P n ops Q rest ((d,.iface t v)::l) w)  (hd:Nat.blt d n=true:=by exact rfl):owp P n ops Q (⟨some d,.makeInterface t x,ty,pos,aft,none⟩::rest) l w:=AT (NK a) hd b
theorem Qq{a:Go.Fn}{xs ys:List Operand}{vs b:List Value}(c:X5 l xs=some vs)(e:X5 l ys=some b)(hd:Nat.blt d n=true)(f:owp P n ops Q rest ((d,.func a vs.toArray b.toArray)::l) w)  : owp P n ops Q (⟨some d,.makeFunc a xs.toArray ys.toArray,ty,pos,aft,none⟩::rest) l w:=AT (Pm c e) hd f
theorem CK{t:TypeId}{z:Value}{size bytes:Nat}[TInfo P t z size bytes]{a:List (Nat×Nat)}[TPlaces P t a]{ps:List (Nat×Operand)}{vs:List Value}{k:List (Nat×Value)}(b:X5 l (ps.map (·.2))=some vs)(hk:Ze a z.cells.size (Aae (ps.map (·.1)) vs)=some k)  (c:owp P n ops Q rest ((d,.agg (Y6 z.cells.toList k).toArray)::l) w)  (hd:Nat.blt d n=true:=by exact rfl):owp P n ops Q (⟨some d,.build t ps.toArray,ty,pos,aft,none⟩::rest) l w:=AT (Im b hk) hd c
theorem IU{t e u:TypeId}[TPtr P t e]{x:Operand}{p:Option Addr}(a:opv l x=some (.pointer p))  (b:owp P n ops Q rest ((d,.bool p.isNone)::l) w)  (hd:Nat.blt d n=true:=by exact rfl):owp P n ops Q (⟨some d,.binOp .eql t x (.const (.pointer none)) u,ty,pos,aft,none⟩::rest) l w:=AT (Pj a) hd b
theorem IV{t e u:TypeId}[TSlice P t e]{x:Operand}{A:Option Addr}{m c:Nat}(a:opv l x=some (.slice A m c))  (b:owp P n ops Q rest ((d,.bool A.isNone)::l) w)  (hd:Nat.blt d n=true:=by exact rfl):owp P n ops Q (⟨some d,.binOp .eql t x (.const (.slice none 0 0)) u,ty,pos,aft,none⟩::rest) l w:=AT (UH a) hd b
theorem Xe{t u:TypeId}[TIface P t]{x:Operand}(a:opv l x=some .nilIface)(hd:Nat.blt d n=true)(b:owp P n ops Q rest ((d,.bool true)::l) w)  : owp P n ops Q (⟨some d,.binOp .eql t x (.const .nilIface) u,ty,pos,aft,none⟩::rest) l w:=AT (Pk a) hd b
theorem Xf{t u:TypeId}[TIface P t]{x:Operand}{s:TypeId}{v:Value}(a:opv l x=some (.iface s v))(hd:Nat.blt d n=true)(b:owp P n ops Q rest ((d,.bool false)::l) w)  : owp P n ops Q (⟨some d,.binOp .eql t x (.const .nilIface) u,ty,pos,aft,none⟩::rest) l w:=AT (NL a) hd b
theorem Xg{t u:TypeId}[TIface P t]{x:Operand}(a:opv l x=some .nilIface)(hd:Nat.blt d n=true)(b:owp P n ops Q rest ((d,.bool false)::l) w)  : owp P n ops Q (⟨some d,.binOp .neq t x (.const .nilIface) u,ty,pos,aft,none⟩::rest) l w:=AT (NM a) hd b
theorem Xh{t u:TypeId}[TIface P t]{x:Operand}{s:TypeId}{v:Value}(a:opv l x=some (.iface s v))(hd:Nat.blt d n=true)(b:owp P n ops Q rest ((d,.bool true)::l) w)  : owp P n ops Q (⟨some d,.binOp .neq t x (.const .nilIface) u,ty,pos,aft,none⟩::rest) l w:=AT (MP a) hd b
theorem YM{s t:TypeId}{k:IntKind}[TInt P s k][TInt P t .i64]{x:Operand}{a:Int}(b:opv l x=some (.int k a))(hd:Nat.blt d n=true)(c:owp P n ops Q rest ((d,.int .i64 a)::l) w)(hr:-9223372036854775808<=a/\a<=9223372036854775807:=by omega):owp P n ops Q (⟨some d,.convert s t x,ty,pos,aft,none⟩::rest) l w:=AT (SL b hr.1 hr.2) hd c
theorem YN{s t:TypeId}{k:IntKind}[TInt P t k]{x:Operand}{v:Value}(a:opv l x=some (.iface t v))(hd:Nat.blt d n=true)(b:owp P n ops Q rest ((d,.tuple #[v,.bool true])::l) w)  : owp P n ops Q (⟨some d,.typeAssert x s t true,ty,pos,aft,none⟩::rest) l w:=AT (SM a) hd b
theorem YO{t e:TypeId}[TSlice P t e]{z:Value}{size bytes:Nat}[TInfo P e z size bytes]{x y:Operand}{k:IntKind}{A:Option Addr}{m c lo:Nat}{q:Int}(b:opv l x=some (.slice A m c))(f:opv l y=some (.int k q))(hd:Nat.blt d n=true)(h:owp P n ops Q rest ((d,.slice (if c=lo then A else A.map (·.add (lo*size))) (m-lo) (c-lo))::l) w)(g:q=(lo:Int):=by first|rfl|assumption|omega)(a:lo<=m:=by omega):owp P n ops Q (⟨some d,.slice t x (some y) none none,ty,pos,aft,none⟩::rest) l w:=AT (KZ b f g a) hd h
theorem Hu{t u:TypeId}{x y:Operand}{a b:Int}(c:opv l x=some (.int .i64 a))(e:opv l y=some (.int .i64 b))  (f:owp P n ops Q rest ((d,.int .i64 (a+b))::l) w) (hr:-9223372036854775808<=a+b/\a+b<=9223372036854775807:=by omega) (hd:Nat.blt d n=true:=by exact rfl):owp P n ops Q (⟨some d,.binOp .add t x y u,ty,pos,aft,none⟩::rest) l w:=AT (JA c e hr) hd f
theorem YP{t u:TypeId}{x y:Operand}{a b:Int}(c:opv l x=some (.int .i64 a))(e:opv l y=some (.int .i64 b))(hd:Nat.blt d n=true)(f:owp P n ops Q rest ((d,.int .i64 (a-b))::l) w)(hr:-9223372036854775808<=a-b/\a-b<=9223372036854775807:=by omega):owp P n ops Q (⟨some d,.binOp .sub t x y u,ty,pos,aft,none⟩::rest) l w:=AT (LG c e hr) hd f
theorem YQ{t u:TypeId}{x y:Operand}{a b:Int}(c:opv l x=some (.int .i64 a))(e:opv l y=some (.int .i64 b))(hd:Nat.blt d n=true)(f:owp P n ops Q rest ((d,.int .i64 (a*b))::l) w)(hr:-9223372036854775808<=a*b/\a*b<=9223372036854775807:=by omega):owp P n ops Q (⟨some d,.binOp .mul t x y u,ty,pos,aft,none⟩::rest) l w:=AT (Tw c e hr) hd f
theorem GY{t u:TypeId}{x:Operand}{a:Nat}(b:opv l x=some (.int .i64 (a:Int)))  (c:owp P n ops Q rest ((d,.int .i64 ((a+1:Nat):Int))::l) w) (hr:a<9223372036854775807:=by omega) (hd:Nat.blt d n=true:=by exact rfl):owp P n ops Q (⟨some d,.binOp .add t x (.const (.int .i64 1)) u,ty,pos,aft,none⟩::rest) l w:=AT (Qm b hr) hd c
theorem Eu{t e:TypeId}[TSlice P t e]{z:Value}{size bytes:Nat}[TInfo P e z size bytes]{x i:Operand}{k:IntKind}{b o m c j:Nat}{q:Int}(a:opv l x=some (.slice (some ⟨b,o,none⟩) m c))(f:opv l i=some (.int k q))  (g:owp P n ops Q rest ((d,.pointer (some ⟨b,o+j*size,none⟩))::l) w) (hj:q=(j:Int):=by first|rfl|assumption) (hlt:j<m:=by omega) (hd:Nat.blt d n=true:=by exact rfl):owp P n ops Q (⟨some d,.indexAddr t x i,ty,pos,aft,none⟩::rest) l w:=AT (HV a f hj hlt) hd g
theorem SN{t:TypeId}[TStr P t]{x i:Operand}{k:IntKind}{s:ByteArray}{j:Nat}(a:opv l x=some (.string s))(b:opv l i=some (.int k (j:Int)))(hd:Nat.blt d n=true)(hlt:j<s.size:=by omega)(c:owp P n ops Q rest ((d,.int .u8 ((s[j]'hlt).toNat:Int))::l) w):owp P n ops Q (⟨some d,.index t x i,ty,pos,aft,none⟩::rest) l w:=AT (UG a b hlt) hd c
theorem AL{t:TypeId}[TOne P t]{x:Operand}{a:Addr}{v:Value}(b:opv l x=some (.pointer (some a)))  (c:owp P n ops Q rest ((d,v)::l) w) (hc:w.cell? a=some v:=by first|assumption|exact Blk.cell (by assumption) rfl|exact cat0 (by assumption)|exact cat1 (by assumption)|exact cat2 (by assumption)|exact cat3 (by assumption)|exact cat4 (by assumption)|exact cat5 (by assumption)|exact cat6 (by assumption)|exact cat7 (by assumption)|exact cat8 (by assumption)|exact cat9 (by assumption)) (hd:Nat.blt d n=true:=by exact rfl):owp P n ops Q (⟨some d,.load t x,ty,pos,aft,none⟩::rest) l w:=AT (CJ b hc) hd c
theorem BE{t:TypeId}[TAgg P t]{z:Value}{size bytes:Nat}[TInfo P t z size bytes]{x:Operand}{b o:Nat}{cs:List Value}(a:opv l x=some (.pointer (some ⟨b,o,none⟩)))  (c:owp P n ops Q rest ((d,.agg cs.toArray)::l) w) (hc:cellsAt w b o cs:=by first|assumption|exact Blk.cellsAt (by assumption)) (hl:cs.length=size:=by rfl) (hd:Nat.blt d n=true:=by exact rfl):owp P n ops Q (⟨some d,.load t x,ty,pos,aft,none⟩::rest) l w:=AT (Fp a hl hc) hd c
theorem EX{t u:TypeId}{x y:Operand}{k:IntKind}{a b:Int}(c:opv l x=some (.int k a))(e:opv l y=some (.int k b))  (g:owp P n ops Q rest ((d,.bool true)::l) w) (f:a<b:=by omega) (hd:Nat.blt d n=true:=by exact rfl):owp P n ops Q (⟨some d,.binOp .lss t x y u,ty,pos,aft,none⟩::rest) l w:=JD (Do c e) hd f g
theorem EY{t u:TypeId}{x y:Operand}{k:IntKind}{a b:Int}(c:opv l x=some (.int k a))(e:opv l y=some (.int k b))  (g:owp P n ops Q rest ((d,.bool false)::l) w) (f:¬(a<b):=by omega) (hd:Nat.blt d n=true:=by exact rfl):owp P n ops Q (⟨some d,.binOp .lss t x y u,ty,pos,aft,none⟩::rest) l w:=JE (Do c e) hd f g
theorem Cp{t u:TypeId}{x y:Operand}{k:IntKind}{a b:Int}(c:opv l x=some (.int k a))(e:opv l y=some (.int k b))  (f:a<b->owp P n ops Q rest ((d,.bool true)::l) w) (hf:¬(a<b)->owp P n ops Q rest ((d,.bool false)::l) w) (hd:Nat.blt d n=true:=by exact rfl):owp P n ops Q (⟨some d,.binOp .lss t x y u,ty,pos,aft,none⟩::rest) l w:=FR (Do c e) hd f hf
theorem Qb{t u:TypeId}{x y:Operand}{k:IntKind}{a b:Int}(c:opv l x=some (.int k a))(e:opv l y=some (.int k b))(hd:Nat.blt d n=true)(g:owp P n ops Q rest ((d,.bool true)::l) w)(f:a<=b:=by omega):owp P n ops Q (⟨some d,.binOp .leq t x y u,ty,pos,aft,none⟩::rest) l w:=JD (KN c e) hd f g
theorem Qc{t u:TypeId}{x y:Operand}{k:IntKind}{a b:Int}(c:opv l x=some (.int k a))(e:opv l y=some (.int k b))(hd:Nat.blt d n=true)(g:owp P n ops Q rest ((d,.bool false)::l) w)(f:¬(a<=b):=by omega):owp P n ops Q (⟨some d,.binOp .leq t x y u,ty,pos,aft,none⟩::rest) l w:=JE (KN c e) hd f g
theorem Mt{t u:TypeId}{x y:Operand}{k:IntKind}{a b:Int}(c:opv l x=some (.int k a))(e:opv l y=some (.int k b))(hd:Nat.blt d n=true)(f:a<=b->owp P n ops Q rest ((d,.bool true)::l) w)(hf:¬(a<=b)->owp P n ops Q rest ((d,.bool false)::l) w):owp P n ops Q (⟨some d,.binOp .leq t x y u,ty,pos,aft,none⟩::rest) l w:=FR (KN c e) hd f hf
theorem FL{t u:TypeId}{x y:Operand}{k:IntKind}{a b:Int}(c:opv l x=some (.int k a))(e:opv l y=some (.int k b))  (g:owp P n ops Q rest ((d,.bool true)::l) w) (f:b<a:=by omega) (hd:Nat.blt d n=true:=by exact rfl):owp P n ops Q (⟨some d,.binOp .gtr t x y u,ty,pos,aft,none⟩::rest) l w:=JD (Gi c e) hd f g
theorem FM{t u:TypeId}{x y:Operand}{k:IntKind}{a b:Int}(c:opv l x=some (.int k a))(e:opv l y=some (.int k b))  (g:owp P n ops Q rest ((d,.bool false)::l) w) (f:¬(b<a):=by omega) (hd:Nat.blt d n=true:=by exact rfl):owp P n ops Q (⟨some d,.binOp .gtr t x y u,ty,pos,aft,none⟩::rest) l w:=JE (Gi c e) hd f g
theorem Cq{t u:TypeId}{x y:Operand}{k:IntKind}{a b:Int}(c:opv l x=some (.int k a))(e:opv l y=some (.int k b))  (f:b<a->owp P n ops Q rest ((d,.bool true)::l) w) (hf:¬(b<a)->owp P n ops Q rest ((d,.bool false)::l) w) (hd:Nat.blt d n=true:=by exact rfl):owp P n ops Q (⟨some d,.binOp .gtr t x y u,ty,pos,aft,none⟩::rest) l w:=FR (Gi c e) hd f hf
theorem NS{t u:TypeId}{x y:Operand}{k:IntKind}{a b:Int}(c:opv l x=some (.int k a))(e:opv l y=some (.int k b))(hd:Nat.blt d n=true)(g:owp P n ops Q rest ((d,.bool true)::l) w)(f:b<=a:=by omega):owp P n ops Q (⟨some d,.binOp .geq t x y u,ty,pos,aft,none⟩::rest) l w:=JD (Bi c e) hd f g
theorem NT{t u:TypeId}{x y:Operand}{k:IntKind}{a b:Int}(c:opv l x=some (.int k a))(e:opv l y=some (.int k b))(hd:Nat.blt d n=true)(g:owp P n ops Q rest ((d,.bool false)::l) w)(f:¬(b<=a):=by omega):owp P n ops Q (⟨some d,.binOp .geq t x y u,ty,pos,aft,none⟩::rest) l w:=JE (Bi c e) hd f g
theorem Es{t u:TypeId}{x y:Operand}{k:IntKind}{a b:Int}(c:opv l x=some (.int k a))(e:opv l y=some (.int k b))  (f:b<=a->owp P n ops Q rest ((d,.bool true)::l) w) (hf:¬(b<=a)->owp P n ops Q rest ((d,.bool false)::l) w) (hd:Nat.blt d n=true:=by exact rfl):owp P n ops Q (⟨some d,.binOp .geq t x y u,ty,pos,aft,none⟩::rest) l w:=FR (Bi c e) hd f hf
theorem SO{t u:TypeId}{x y:Operand}{k:IntKind}{a b:Int}(c:opv l x=some (.int k a))(e:opv l y=some (.int k b))(hd:Nat.blt d n=true)(g:owp P n ops Q rest ((d,.bool true)::l) w)(f:a=b:=by omega):owp P n ops Q (⟨some d,.binOp .eql t x y u,ty,pos,aft,none⟩::rest) l w:=JD (IL c e) hd f g
theorem SP{t u:TypeId}{x y:Operand}{k:IntKind}{a b:Int}(c:opv l x=some (.int k a))(e:opv l y=some (.int k b))(hd:Nat.blt d n=true)(g:owp P n ops Q rest ((d,.bool false)::l) w)(f:¬(a=b):=by omega):owp P n ops Q (⟨some d,.binOp .eql t x y u,ty,pos,aft,none⟩::rest) l w:=JE (IL c e) hd f g
theorem EH{t u:TypeId}{x y:Operand}{k:IntKind}{a b:Int}(c:opv l x=some (.int k a))(e:opv l y=some (.int k b))  (f:a=b->owp P n ops Q rest ((d,.bool true)::l) w) (hf:¬(a=b)->owp P n ops Q rest ((d,.bool false)::l) w) (hd:Nat.blt d n=true:=by exact rfl):owp P n ops Q (⟨some d,.binOp .eql t x y u,ty,pos,aft,none⟩::rest) l w:=FR (IL c e) hd f hf
theorem Qd{t u:TypeId}{x y:Operand}{k:IntKind}{a b:Int}(c:opv l x=some (.int k a))(e:opv l y=some (.int k b))(hd:Nat.blt d n=true)(g:owp P n ops Q rest ((d,.bool true)::l) w)(f:a≠b:=by omega):owp P n ops Q (⟨some d,.binOp .neq t x y u,ty,pos,aft,none⟩::rest) l w:=JD (Gb c e) hd f g
theorem Qe{t u:TypeId}{x y:Operand}{k:IntKind}{a b:Int}(c:opv l x=some (.int k a))(e:opv l y=some (.int k b))(hd:Nat.blt d n=true)(g:owp P n ops Q rest ((d,.bool false)::l) w)(f:¬(a≠b):=by omega):owp P n ops Q (⟨some d,.binOp .neq t x y u,ty,pos,aft,none⟩::rest) l w:=JE (Gb c e) hd f g
theorem Gm{t u:TypeId}{x y:Operand}{k:IntKind}{a b:Int}(c:opv l x=some (.int k a))(e:opv l y=some (.int k b))  (f:a≠b->owp P n ops Q rest ((d,.bool true)::l) w) (hf:¬(a≠b)->owp P n ops Q rest ((d,.bool false)::l) w) (hd:Nat.blt d n=true:=by exact rfl):owp P n ops Q (⟨some d,.binOp .neq t x y u,ty,pos,aft,none⟩::rest) l w:=FR (Gb c e) hd f hf
variable {S:World → Prop}{r:List (Nat × Bool)}{i:Nat}
theorem AM{x:Operand}{v:Value}(hi:ops[i]?=some ⟨some d,.move x,ty,pos,aft,none⟩)(a:opv l x=some v)  (b:hwp P n ops Q S r ((d,v)::l) w)  (hd:Nat.blt d n=true:=by exact rfl):hwp P n ops Q S ((i,true)::r) l w:=AB hi (Bv (λ_ _=>Di a) hd b)
theorem CY{x:Operand}{v:Value}(hi:ops[i]?=some ⟨some d,.assign x,ty,pos,aft,none⟩)(a:opv l x=some v)  (b:hwp P n ops Q S r ((d,v)::l) w)  (hd:Nat.blt d n=true:=by exact rfl):hwp P n ops Q S ((i,true)::r) l w:=AB hi (Bv (λ_ _=>Dj a) hd b)
theorem Dn{c x y:Operand}{v:Value}(hi:ops[i]?=some ⟨some d,.pick c x y,ty,pos,aft,none⟩)(hc:opv l c=some (.bool true))(a:opv l x=some v)  (b:hwp P n ops Q S r ((d,v)::l) w)  (hd:Nat.blt d n=true:=by exact rfl):hwp P n ops Q S ((i,true)::r) l w:=AB hi (Bv (λ_ _=>MY hc a) hd b)
theorem CG{c x y:Operand}{v:Value}(hi:ops[i]?=some ⟨some d,.pick c x y,ty,pos,aft,none⟩)(hc:opv l c=some (.bool false))(a:opv l y=some v)  (b:hwp P n ops Q S r ((d,v)::l) w)  (hd:Nat.blt d n=true:=by exact rfl):hwp P n ops Q S ((i,true)::r) l w:=AB hi (Bv (λ_ _=>MZ hc a) hd b)
theorem Be{t:TypeId}{f off:Nat}[TField P t f off]{x:Operand}{b o:Nat}(hi:ops[i]?=some ⟨some d,.fieldAddr t x f,ty,pos,aft,none⟩)(a:opv l x=some (.pointer (some ⟨b,o,none⟩)))  (c:hwp P n ops Q S r ((d,.pointer (some ⟨b,o+off,none⟩))::l) w)  (hd:Nat.blt d n=true:=by exact rfl):hwp P n ops Q S ((i,true)::r) l w:=AB hi (Bv (λ_ _=>Dd a) hd c)
theorem En{x:Operand}{a:Addr}(hi:ops[i]?=some ⟨some d,.nilCheck x,ty,pos,aft,none⟩)(b:opv l x=some (.pointer (some a)))  (c:hwp P n ops Q S r ((d,.pointer (some a))::l) w)  (hd:Nat.blt d n=true:=by exact rfl):hwp P n ops Q S ((i,true)::r) l w:=AB hi (Bv (λ_ _=>Na b) hd c)
theorem IW{x:Operand}{a:Nat}{vs:Array Value}{v:Value}(hi:ops[i]?=some ⟨some d,.extract x a,ty,pos,aft,none⟩)(b:opv l x=some (.tuple vs))(c:vs[a]?=some v)  (e:hwp P n ops Q S r ((d,v)::l) w)  (hd:Nat.blt d n=true:=by exact rfl):hwp P n ops Q S ((i,true)::r) l w:=AB hi (Bv (λ_ _=>NJ b c) hd e)
theorem OK{t e:TypeId}[TSlice P t e]{x:Operand}{A:Option Addr}{m c:Nat}(hi:ops[i]?=some ⟨some d,.call { callee:=.builtin .len,args:=#[x],argTypes:=#[t] },ty,pos,aft,none⟩)(a:opv l x=some (.slice A m c))(hd:Nat.blt d n=true)(b:hwp P n ops Q S r ((d,.int .i64 (m:Int))::l) w)  : hwp P n ops Q S ((i,true)::r) l w:=AB hi (Bv (λ_ _=>IM a) hd b)
theorem VP{c e:TypeId}{x y:Operand}{k:IntKind}{a b:Int}(hi:ops[i]?=some ⟨some d,.call { callee:=.builtin .min,args:=#[x,y],argTypes:=#[c,e] },ty,pos,aft,none⟩)(f:opv l x=some (.int k a))(g:opv l y=some (.int k b))(hd:Nat.blt d n=true)(h:hwp P n ops Q S r ((d,.int k (min a b))::l) w)  : hwp P n ops Q S ((i,true)::r) l w:=AB hi (Bv (λ_ _=>Ty f g) hd h)
theorem Nj{t:TypeId}{z:Value}{size bytes:Nat}[TInfo P t z size bytes]{a:List (Nat×Nat)}[TPlaces P t a]{ps:List (Nat×Operand)}{vs:List Value}{k:List (Nat×Value)}(hi:ops[i]?=some ⟨some d,.build t ps.toArray,ty,pos,aft,none⟩)(b:X5 l (ps.map (·.2))=some vs)(hk:Ze a z.cells.size (Aae (ps.map (·.1)) vs)=some k)  (c:hwp P n ops Q S r ((d,.agg (Y6 z.cells.toList k).toArray)::l) w)  (hd:Nat.blt d n=true:=by exact rfl):hwp P n ops Q S ((i,true)::r) l w:=AB hi (Bv (λ_ _=>Im b hk) hd c)
theorem Xi{t u:TypeId}{x y:Operand}{a b:Int}(hi:ops[i]?=some ⟨some d,.binOp .add t x y u,ty,pos,aft,none⟩)(c:opv l x=some (.int .i64 a))(e:opv l y=some (.int .i64 b))(hd:Nat.blt d n=true)(f:hwp P n ops Q S r ((d,.int .i64 (a+b))::l) w)(hr:-9223372036854775808<=a+b/\a+b<=9223372036854775807:=by omega):hwp P n ops Q S ((i,true)::r) l w:=AB hi (Bv (λ_ _=>JA c e hr) hd f)
theorem Xj{t u:TypeId}{x:Operand}{a:Nat}(hi:ops[i]?=some ⟨some d,.binOp .add t x (.const (.int .i64 1)) u,ty,pos,aft,none⟩)(b:opv l x=some (.int .i64 (a:Int)))(hd:Nat.blt d n=true)(c:hwp P n ops Q S r ((d,.int .i64 ((a+1:Nat):Int))::l) w)(hr:a<9223372036854775807:=by omega):hwp P n ops Q S ((i,true)::r) l w:=AB hi (Bv (λ_ _=>Qm b hr) hd c)
theorem OM{t e:TypeId}[TSlice P t e]{z:Value}{size bytes:Nat}[TInfo P e z size bytes]{x a:Operand}{k:IntKind}{b o m c j:Nat}{q:Int}(hi:ops[i]?=some ⟨some d,.indexAddr t x a,ty,pos,aft,none⟩)(f:opv l x=some (.slice (some ⟨b,o,none⟩) m c))(g:opv l a=some (.int k q))(hd:Nat.blt d n=true)(h:hwp P n ops Q S r ((d,.pointer (some ⟨b,o+j*size,none⟩))::l) w)(hj:q=(j:Int):=by first|rfl|assumption)(hlt:j<m:=by omega):hwp P n ops Q S ((i,true)::r) l w:=AB hi (Bv (λ_ _=>HV f g hj hlt) hd h)
theorem Du{a:World}{t:TypeId}[TOne P t]{x:Operand}{b:Addr}{v:Value}(hi:ops[i]?=some ⟨some d,.load t x,ty,pos,aft,none⟩)(c:opv l x=some (.pointer (some b)))  (e:hwp P n ops Q (·=a) r ((d,v)::l) w) (hc:a.cell? b=some v:=by first|assumption|exact Blk.cell (by assumption) rfl|exact cat0 (by assumption)|exact cat1 (by assumption)|exact cat2 (by assumption)|exact cat3 (by assumption)|exact cat4 (by assumption)|exact cat5 (by assumption)|exact cat6 (by assumption)|exact cat7 (by assumption)|exact cat8 (by assumption)|exact cat9 (by assumption)) (hd:Nat.blt d n=true:=by exact rfl):hwp P n ops Q (·=a) ((i,true)::r) l w:=AB hi (HX (CJ c hc) hd e)
theorem Jg{a:World}{t:TypeId}[TOne P t]{x:Operand}{g k:Nat}{b:TypeId}{cs:List Value}{v:Value}(hi:ops[i]?=some ⟨some d,.load t x,ty,pos,aft,none⟩)(c:opv l x=some (.pointer (some ⟨g,k,none⟩)))  (f:hwp P n ops Q (Ext a) r ((d,v)::l) w) (hb:Blk a g b cs:=by assumption) (hc:cs[k]?=some v:=by rfl) (hd:Nat.blt d n=true:=by exact rfl):hwp P n ops Q (Ext a) ((i,true)::r) l w:=AB hi (Bv (λ_ e=>CJ c ((hb.ext e).cell hc)) hd f)
theorem GM{t:TypeId}[TOne P t]{x:Operand}{g k:Nat}{a:TypeId}{cs:List Value}{v:Value}(hi:ops[i]?=some ⟨some d,.load t x,ty,pos,aft,none⟩)(b:opv l x=some (.pointer (some ⟨g,k,none⟩)))  (e:hwp P n ops Q S r ((d,v)::l) w) (hb:∀w',S w'->Blk w' g a cs:=by assumption) (hc:cs[k]?=some v:=by rfl) (hd:Nat.blt d n=true:=by exact rfl):hwp P n ops Q S ((i,true)::r) l w:=AB hi (Bv (λ_ c=>CJ b ((hb _ c).cell hc)) hd e)
theorem Bz{t:TypeId}[TOne P t]{x:Operand}{b:Addr}{v:Value}(hi:ops[i]?=some ⟨some d,.load t x,ty,pos,aft,none⟩)(c:opv l x=some (.pointer (some b)))  (e:hwp P n ops Q S r ((d,v)::l) w) (hc:∀w',S w'->w'.cell? b=some v:=by first|assumption|exact λ_ a=>cat0 ((by assumption:∀w',_->cellsAt w' _ _ _) _ a)|exact λ_ a=>cat1 ((by assumption:∀w',_->cellsAt w' _ _ _) _ a)|exact λ_ a=>cat2 ((by assumption:∀w',_->cellsAt w' _ _ _) _ a)|exact λ_ a=>cat3 ((by assumption:∀w',_->cellsAt w' _ _ _) _ a)|exact λ_ a=>cat4 ((by assumption:∀w',_->cellsAt w' _ _ _) _ a)|exact λ_ a=>cat5 ((by assumption:∀w',_->cellsAt w' _ _ _) _ a)|exact λ_ a=>cat6 ((by assumption:∀w',_->cellsAt w' _ _ _) _ a)|exact λ_ a=>cat7 ((by assumption:∀w',_->cellsAt w' _ _ _) _ a)|exact λ_ a=>cat8 ((by assumption:∀w',_->cellsAt w' _ _ _) _ a)|exact λ_ a=>cat9 ((by assumption:∀w',_->cellsAt w' _ _ _) _ a)) (hd:Nat.blt d n=true:=by exact rfl):hwp P n ops Q S ((i,true)::r) l w:=AB hi (Bv (λ_ a=>CJ c (hc _ a)) hd e)
theorem Qf{a:World}{t:TypeId}[TAgg P t]{z:Value}{size bytes:Nat}[TInfo P t z size bytes]{x:Operand}{b o:Nat}{cs:List Value}(hi:ops[i]?=some ⟨some d,.load t x,ty,pos,aft,none⟩)(c:opv l x=some (.pointer (some ⟨b,o,none⟩)))(hd:Nat.blt d n=true)(e:hwp P n ops Q (·=a) r ((d,.agg cs.toArray)::l) w)(hc:cellsAt a b o cs:=by first|assumption|exact Blk.cellsAt (by assumption))(hl:cs.length=size:=by rfl):hwp P n ops Q (·=a) ((i,true)::r) l w:=AB hi (HX (Fp c hl hc) hd e)
theorem ID{t:TypeId}[TAgg P t]{z:Value}{size bytes:Nat}[TInfo P t z size bytes]{x:Operand}{b o:Nat}{cs:List Value}(hi:ops[i]?=some ⟨some d,.load t x,ty,pos,aft,none⟩)(c:opv l x=some (.pointer (some ⟨b,o,none⟩)))  (e:hwp P n ops Q S r ((d,.agg cs.toArray)::l) w) (hb:∀w',S w'->cellsAt w' b o cs:=by first|assumption|exact λ_ a=>Blk.cellsAt ((by assumption:∀w',_->Blk w' _ _ _) _ a)) (hl:cs.length=size:=by rfl) (hd:Nat.blt d n=true:=by exact rfl):hwp P n ops Q S ((i,true)::r) l w:=AB hi (Bv (λ_ a=>Fp c hl (hb _ a)) hd e)
theorem IE{t u:TypeId}{x y:Operand}{k:IntKind}{a b:Int}(hi:ops[i]?=some ⟨some d,.binOp .lss t x y u,ty,pos,aft,none⟩)(c:opv l x=some (.int k a))(e:opv l y=some (.int k b))  (g:hwp P n ops Q S r ((d,.bool true)::l) w) (f:a<b:=by omega) (hd:Nat.blt d n=true:=by exact rfl):hwp P n ops Q S ((i,true)::r) l w:=AB hi (CP (λ_ _=>Do c e) (hn:=hd) f g)
theorem IF{t u:TypeId}{x y:Operand}{k:IntKind}{a b:Int}(hi:ops[i]?=some ⟨some d,.binOp .lss t x y u,ty,pos,aft,none⟩)(c:opv l x=some (.int k a))(e:opv l y=some (.int k b))  (g:hwp P n ops Q S r ((d,.bool false)::l) w) (f:¬(a<b):=by omega) (hd:Nat.blt d n=true:=by exact rfl):hwp P n ops Q S ((i,true)::r) l w:=AB hi (CR (λ_ _=>Do c e) (hn:=hd) f g)
theorem GN{t u:TypeId}{x y:Operand}{k:IntKind}{a b:Int}(hi:ops[i]?=some ⟨some d,.binOp .lss t x y u,ty,pos,aft,none⟩)(c:opv l x=some (.int k a))(e:opv l y=some (.int k b))  (f:a<b->hwp P n ops Q S r ((d,.bool true)::l) w) (hf:¬(a<b)->hwp P n ops Q S r ((d,.bool false)::l) w) (hd:Nat.blt d n=true:=by exact rfl):hwp P n ops Q S ((i,true)::r) l w:=AB hi (AY (λ_ _=>Do c e) (hn:=hd) f hf)
theorem VQ{t u:TypeId}{x y:Operand}{k:IntKind}{a b:Int}(hi:ops[i]?=some ⟨some d,.binOp .leq t x y u,ty,pos,aft,none⟩)(c:opv l x=some (.int k a))(e:opv l y=some (.int k b))(hd:Nat.blt d n=true)(g:hwp P n ops Q S r ((d,.bool true)::l) w)(f:a<=b:=by omega):hwp P n ops Q S ((i,true)::r) l w:=AB hi (CP (λ_ _=>KN c e) (hn:=hd) f g)
theorem VR{t u:TypeId}{x y:Operand}{k:IntKind}{a b:Int}(hi:ops[i]?=some ⟨some d,.binOp .leq t x y u,ty,pos,aft,none⟩)(c:opv l x=some (.int k a))(e:opv l y=some (.int k b))(hd:Nat.blt d n=true)(g:hwp P n ops Q S r ((d,.bool false)::l) w)(f:¬(a<=b):=by omega):hwp P n ops Q S ((i,true)::r) l w:=AB hi (CR (λ_ _=>KN c e) (hn:=hd) f g)
theorem VS{t u:TypeId}{x y:Operand}{k:IntKind}{a b:Int}(hi:ops[i]?=some ⟨some d,.binOp .leq t x y u,ty,pos,aft,none⟩)(c:opv l x=some (.int k a))(e:opv l y=some (.int k b))(hd:Nat.blt d n=true)(f:a<=b->hwp P n ops Q S r ((d,.bool true)::l) w)(hf:¬(a<=b)->hwp P n ops Q S r ((d,.bool false)::l) w):hwp P n ops Q S ((i,true)::r) l w:=AB hi (AY (λ_ _=>KN c e) (hn:=hd) f hf)
theorem VT{t u:TypeId}{x y:Operand}{k:IntKind}{a b:Int}(hi:ops[i]?=some ⟨some d,.binOp .geq t x y u,ty,pos,aft,none⟩)(c:opv l x=some (.int k a))(e:opv l y=some (.int k b))(hd:Nat.blt d n=true)(f:b<=a->hwp P n ops Q S r ((d,.bool true)::l) w)(hf:¬(b<=a)->hwp P n ops Q S r ((d,.bool false)::l) w):hwp P n ops Q S ((i,true)::r) l w:=AB hi (AY (λ_ _=>Bi c e) (hn:=hd) f hf)
theorem VU{t u:TypeId}{x y:Operand}{k:IntKind}{a b:Int}(hi:ops[i]?=some ⟨some d,.binOp .eql t x y u,ty,pos,aft,none⟩)(c:opv l x=some (.int k a))(e:opv l y=some (.int k b))(hd:Nat.blt d n=true)(g:hwp P n ops Q S r ((d,.bool true)::l) w)(f:a=b:=by omega):hwp P n ops Q S ((i,true)::r) l w:=AB hi (CP (λ_ _=>IL c e) (hn:=hd) f g)
theorem VV{t u:TypeId}{x y:Operand}{k:IntKind}{a b:Int}(hi:ops[i]?=some ⟨some d,.binOp .eql t x y u,ty,pos,aft,none⟩)(c:opv l x=some (.int k a))(e:opv l y=some (.int k b))(hd:Nat.blt d n=true)(g:hwp P n ops Q S r ((d,.bool false)::l) w)(f:¬(a=b):=by omega):hwp P n ops Q S ((i,true)::r) l w:=AB hi (CR (λ_ _=>IL c e) (hn:=hd) f g)
theorem VW{t u:TypeId}{x y:Operand}{k:IntKind}{a b:Int}(hi:ops[i]?=some ⟨some d,.binOp .eql t x y u,ty,pos,aft,none⟩)(c:opv l x=some (.int k a))(e:opv l y=some (.int k b))(hd:Nat.blt d n=true)(f:a=b->hwp P n ops Q S r ((d,.bool true)::l) w)(hf:¬(a=b)->hwp P n ops Q S r ((d,.bool false)::l) w):hwp P n ops Q S ((i,true)::r) l w:=AB hi (AY (λ_ _=>IL c e) (hn:=hd) f hf)
theorem SR{t u:TypeId}{x y:Operand}{k:IntKind}{a b:Int}(hi:ops[i]?=some ⟨some d,.binOp .neq t x y u,ty,pos,aft,none⟩)(c:opv l x=some (.int k a))(e:opv l y=some (.int k b))(hd:Nat.blt d n=true)(f:a≠b->hwp P n ops Q S r ((d,.bool true)::l) w)(hf:¬(a≠b)->hwp P n ops Q S r ((d,.bool false)::l) w):hwp P n ops Q S ((i,true)::r) l w:=AB hi (AY (λ_ _=>Gb c e) (hn:=hd) f hf)
theorem BK{x:Operand}{v:Value}(a:opv l x=some v)  (b:hwp P n ops Q S r ((d,v)::l) w)  (hd:Nat.blt d n=true:=by exact rfl):hwq P n ops Q S ⟨some d,.move x,ty,pos,aft,none⟩ r l w:=Bv (λ_ _=>Di a) hd b
theorem JF{c x y:Operand}{v:Value}(hc:opv l c=some (.bool true))(a:opv l x=some v)  (b:hwp P n ops Q S r ((d,v)::l) w)  (hd:Nat.blt d n=true:=by exact rfl):hwq P n ops Q S ⟨some d,.pick c x y,ty,pos,aft,none⟩ r l w:=Bv (λ_ _=>MY hc a) hd b
theorem Nk{c x y:Operand}{v:Value}(hc:opv l c=some (.bool false))(a:opv l y=some v)  (b:hwp P n ops Q S r ((d,v)::l) w)  (hd:Nat.blt d n=true:=by exact rfl):hwq P n ops Q S ⟨some d,.pick c x y,ty,pos,aft,none⟩ r l w:=Bv (λ_ _=>MZ hc a) hd b
theorem Cu{t:TypeId}{f off:Nat}[TField P t f off]{x:Operand}{b o:Nat}(a:opv l x=some (.pointer (some ⟨b,o,none⟩)))  (c:hwp P n ops Q S r ((d,.pointer (some ⟨b,o+off,none⟩))::l) w)  (hd:Nat.blt d n=true:=by exact rfl):hwq P n ops Q S ⟨some d,.fieldAddr t x f,ty,pos,aft,none⟩ r l w:=Bv (λ_ _=>Dd a) hd c
theorem UK{t:TypeId}{x:Operand}(a:opv l x=some (.bool true))(hd:Nat.blt d n=true)(b:hwp P n ops Q S r ((d,.bool false)::l) w)  : hwq P n ops Q S ⟨some d,.unOp .not t x,ty,pos,aft,none⟩ r l w:=Bv (λ_ _=>RY a) hd b
theorem UL{t:TypeId}{x:Operand}(a:opv l x=some (.bool false))(hd:Nat.blt d n=true)(b:hwp P n ops Q S r ((d,.bool true)::l) w)  : hwq P n ops Q S ⟨some d,.unOp .not t x,ty,pos,aft,none⟩ r l w:=Bv (λ_ _=>RZ a) hd b
theorem UM{t:TypeId}{x:Operand}{b:Bool}(a:opv l x=some (.bool b))(hd:Nat.blt d n=true)(c:hwp P n ops Q S r ((d,.bool (!b))::l) w)  : hwq P n ops Q S ⟨some d,.unOp .not t x,ty,pos,aft,none⟩ r l w:=Bv (λ_ _=>NI a) hd c
theorem La{t e:TypeId}[TSlice P t e]{x:Operand}{A:Option Addr}{m c:Nat}(a:opv l x=some (.slice A m c))  (b:hwp P n ops Q S r ((d,.int .i64 (m:Int))::l) w)  (hd:Nat.blt d n=true:=by exact rfl):hwq P n ops Q S ⟨some d,.call { callee:=.builtin .len,args:=#[x],argTypes:=#[t] },ty,pos,aft,none⟩ r l w:=Bv (λ_ _=>IM a) hd b
theorem Xk{a:Go.Fn}{xs ys:List Operand}{vs b:List Value}(c:X5 l xs=some vs)(e:X5 l ys=some b)(hd:Nat.blt d n=true)(f:hwp P n ops Q S r ((d,.func a vs.toArray b.toArray)::l) w)  : hwq P n ops Q S ⟨some d,.makeFunc a xs.toArray ys.toArray,ty,pos,aft,none⟩ r l w:=Bv (λ_ _=>Pm c e) hd f
theorem UN{t u:TypeId}{x y:Operand}{a b:Int}(c:opv l x=some (.int .i64 a))(e:opv l y=some (.int .i64 b))(hd:Nat.blt d n=true)(f:hwp P n ops Q S r ((d,.int .i64 (a-b))::l) w)(hr:-9223372036854775808<=a-b/\a-b<=9223372036854775807:=by omega):hwq P n ops Q S ⟨some d,.binOp .sub t x y u,ty,pos,aft,none⟩ r l w:=Bv (λ_ _=>LG c e hr) hd f
theorem HY{t e:TypeId}[TSlice P t e]{z:Value}{size bytes:Nat}[TInfo P e z size bytes]{x a:Operand}{k:IntKind}{b o m c j:Nat}{q:Int}(f:opv l x=some (.slice (some ⟨b,o,none⟩) m c))(g:opv l a=some (.int k q))  (h:hwp P n ops Q S r ((d,.pointer (some ⟨b,o+j*size,none⟩))::l) w) (hj:q=(j:Int):=by first|rfl|assumption) (hlt:j<m:=by omega) (hd:Nat.blt d n=true:=by exact rfl):hwq P n ops Q S ⟨some d,.indexAddr t x a,ty,pos,aft,none⟩ r l w:=Bv (λ_ _=>HV f g hj hlt) hd h
theorem BS{a:World}{t:TypeId}[TOne P t]{x:Operand}{b:Addr}{v:Value}(c:opv l x=some (.pointer (some b)))  (e:hwp P n ops Q (·=a) r ((d,v)::l) w) (hc:a.cell? b=some v:=by first|assumption|exact Blk.cell (by assumption) rfl|exact cat0 (by assumption)|exact cat1 (by assumption)|exact cat2 (by assumption)|exact cat3 (by assumption)|exact cat4 (by assumption)|exact cat5 (by assumption)|exact cat6 (by assumption)|exact cat7 (by assumption)|exact cat8 (by assumption)|exact cat9 (by assumption)) (hd:Nat.blt d n=true:=by exact rfl):hwq P n ops Q (·=a) ⟨some d,.load t x,ty,pos,aft,none⟩ r l w:=HX (CJ c hc) hd e
theorem AN{a:Op}{j dj:Nat}{b:Bool}{u:Value}(hi:ops[i]?=some ⟨some d,a,ty,pos,aft,some (j,b)⟩)(hj:Aag ops j=some dj)(hl:lk l dj=some u)   (c:hwp P n ops Q S r ((d,undef)::l) w) (hu:isB u b=false:=by exact rfl) (hd:Nat.blt d n=true:=by exact rfl):hwp P n ops Q S ((i,true)::r) l w:=AB hi (AH hj hl (hu:=hu) (hn:=hd) c)
end
end
section
open Go Go.RowKit
structure Fct where
  var:Int
  val:Int
structure Eff where
  cond:List Fct
  var:Int
  val:Int
structure Opr where
  name:ByteArray
  cost:Int
  pre:List Fct
  effs:List Eff
structure Tsk where
  vars:List Int
  init:List Int
  goal:List Fct
  ops:List Opr
theorem Vb.one{α:Type}[Rp α](hb:Rp.isAgg α=false){w:World}{F:Nat->Prop}{v:Value}{x:α}(a:Vb w F v x):v.oneCell'=true:=by
  unfold Vb at a;rw[hb]at a;exact Rp.one a v (by simp)
instance:Rp Fct where
  isAgg:=true
  size:=2
  R _ _ cs f:=cs=[.int .i64 f.var,.int .i64 f.val]/\W1 f.var/\W1 f.val
  len:=by rintro w F cs x ⟨rfl,_⟩;rfl
  one:=by rintro w F cs x ⟨rfl,_⟩ u hu;simp at hu;rcases hu with rfl|rfl<;>rfl
  agree:=λa _=>a
  mono:=λa _=>a
instance:Rp Eff where
  isAgg:=true
  size:=3
  R w F cs e:=∃v,cs=[v,.int .i64 e.var,.int .i64 e.val]/\Vb w F v e.cond/\W1 e.var/\W1 e.val
  len:=by rintro w F cs x ⟨v,rfl,_⟩;rfl
  one:=by rintro w F cs x ⟨v,rfl,h,_⟩ u hu;simp at hu;rcases hu with rfl|rfl|rfl<;>first|rfl|exact Vb.one rfl (by assumption)
  agree:=by rintro w w' F cs x ⟨v,rfl,h,h2⟩ ha;exact⟨v,rfl,h.agree ha,h2⟩
  mono:=by rintro w F G cs x ⟨v,rfl,h,h2⟩ ha;exact⟨v,rfl,h.mono ha,h2⟩
instance:Rp Opr where
  isAgg:=true
  size:=4
  R w F cs o:=∃p q,cs=[.string o.name,.int .i64 o.cost,p,q]/\Vb w F p o.pre/\Vb w F q o.effs/\W1 o.cost/\o.name.size<=9223372036854775807
  len:=by rintro w F cs x ⟨p,q,rfl,_⟩;rfl
  one:=by rintro w F cs x ⟨p,q,rfl,h,k,_⟩ u hu;simp at hu;rcases hu with rfl|rfl|rfl|rfl<;>first|rfl|exact Vb.one rfl (by assumption)
  agree:=by rintro w w' F cs x ⟨p,q,rfl,h,k,h2⟩ ha;exact⟨p,q,rfl,h.agree ha,k.agree ha,h2⟩
  mono:=by rintro w F G cs x ⟨p,q,rfl,h,k,h2⟩ ha;exact⟨p,q,rfl,h.mono ha,k.mono ha,h2⟩
instance:Rp Tsk where
  isAgg:=true
  size:=4
  R w F cs t:=∃a b c d,cs=[a,b,c,d]/\Vb w F a t.vars/\Vb w F b t.init/\Vb w F c t.goal/\Vb w F d t.ops
  len:=by rintro w F cs x ⟨a,b,c,d,rfl,_⟩;rfl
  one:=by rintro w F cs x ⟨a,b,c,d,rfl,h1,h2,h3,h4⟩ u hu;simp at hu;rcases hu with rfl|rfl|rfl|rfl<;>first|rfl|exact Vb.one rfl (by assumption)
  agree:=by rintro w w' F cs x ⟨a,b,c,d,rfl,h1,h2,h3,h4⟩ ha;exact⟨a,b,c,d,rfl,h1.agree ha,h2.agree ha,h3.agree ha,h4.agree ha⟩
  mono:=by rintro w F G cs x ⟨a,b,c,d,rfl,h1,h2,h3,h4⟩ ha;exact⟨a,b,c,d,rfl,h1.mono ha,h2.mono ha,h3.mono ha,h4.mono ha⟩
end
section
open Go Go.RowKit Go.ChangeShapes Go.WideShapes Go.Deep
section
variable {H:Type}{enc:TypeId × Value → H}{P:Program}{w:World}
class Reads(P:Program)(t:TypeId)(α:Type)[Rp α]:Prop where
  of:∀{H:Type}{enc:TypeId×Value->H}{w:World}{n:Nat}{cs:List Value}{x:DataW H×List MemPlace},DataW.trod enc P w 0 (λ_=>true) true n t cs=some x->∃a:α,Rp.R w (All w) cs a
theorem AcU{z:Int}(a:(Lit.int .i64 z).wf=true):W1 z:=by
  simpa[Lit.wf,IntKind.min,IntKind.max,IntKind.signed,IntKind.bits,W1]using a
theorem AbR{t:TypeId}(a:P.underlying t=some (.int .i64)):Reads P t Int:=⟨λb=>by
  obtain⟨z,rfl,_,hw⟩:=DataW.trod_int a b;exact⟨z,rfl,AcU hw⟩⟩
theorem Wi{a:Addr}{v:Value}(b:w.cell? a=some v):a.block<w.heap.size/\a.spot=none:=by
  unfold World.cell? at b;split at b
  . next hb =>
    refine⟨(B9.1 hb).1,?_⟩;cases hs:a.spot with
    |none=>rfl
    |some k=>rw[hs]at b;simp at b
  . cases b
theorem Zk{t e:TypeId}{α:Type}[Rp α][hr:Reads P e α](B:P.underlying t=some (.slice e))(hc:P.cellsOf e=Rp.size α)  (G:0<Rp.size α:=by decide):Reads P t (List α):=⟨λ{H enc w n cs x} I=>by
  rcases open_slice B I with⟨rfl,_⟩|⟨a,len,cap,m,n',D,Pl,rfl,_,hl,hm,hmm,_,hi⟩
  . exact⟨[],_,rfl,none,0,[],rfl,V2 _,by omega,rfl,λI=>by simp at I⟩
  . have C:len<=m:=(by rw[hmm];simpa using hl);have q:∀k,k<=len->∃(xs:List α) (cells:List Value),xs.length=k/\Chunks w (All w) cells xs/\(0<k->a.spot=none/\a.block<w.heap.size)/\∀(j:Nat) v,cells[j]?=some v->w.cell? ⟨a.block,a.off+j,none⟩=some v:=by
      intro k
      induction k with
      |zero=>intro _;exact⟨[],[],rfl,rfl,λI=>by omega,λj v I=>by simp at I⟩
      |succ k E =>
        intro hk;obtain⟨xs,cells,h1,h2,h3,h4⟩:=E (by omega);obtain⟨d,hcs,hel⟩:=hi k (by omega);obtain⟨y,hy⟩:=hr.of hel;obtain⟨_,hlen,hat⟩:=World.cells?_some hcs;rw[hc]at hlen hat;have r:=h2.length;have i:∀j,j<Rp.size α->((a.add (k*Rp.size α)).add j).block=a.block/\((a.add (k*Rp.size α)).add j).off=a.off+(cells.length+j):=λj hj=>by
          rw[r,h1];unfold Addr.add;by_cases g:k*Rp.size α=0
          . by_cases f:j=0
            . simp[g,f]
            . simp[g,f]
          . by_cases f:j=0
            . simp[g,f]
            . simp[g,f];omega
        have c:∀(j:Nat) v,d[j]?=some v->w.cell? ⟨a.block,a.off+(cells.length+j),none⟩=some v/\a.block<w.heap.size/\((a.add (k*Rp.size α)).add j).spot=none:=λj v h=>by
          have hj:j<Rp.size α:=(by rw[<- hlen];exact(C3.1 h).1);have p:=hat j hj;rw[h]at p;obtain⟨l,q2⟩:=Wi p;obtain⟨g,f⟩:=i j hj;have:(a.add (k*Rp.size α)).add j=⟨a.block,a.off+(cells.length+j),none⟩:=by
            cases F:(a.add (k*Rp.size α)).add j with
            |mk b o s=>rw[F]at g f q2;simp only at g f q2;subst g;subst f;subst q2;rfl
          rw[this]at p l;exact⟨p,l,q2⟩
        obtain⟨z,hv0⟩:∃v,d[0]?=some v:=⟨d[0]'(by omega),D1 (by omega)⟩;refine⟨xs++[y],cells++d,by simp[h1],h2.append (.single hy),λ_=>⟨?_,(c 0 z hv0).2.1⟩,λj v h=>?_⟩
        . by_cases u:k=0
          . subst u;have:=(c 0 z hv0).2.2;simpa[Addr.add]using this
          . exact(h3 (by omega)).1
        . by_cases hj:j<cells.length
          . rw[C4 hj]at h;exact h4 j v h
          . rw[C0 (by omega)]at h;have:=(c _ v h).1;rwa[show cells.length+(j-cells.length)=j from by omega]at this
    obtain⟨xs,cells,h1,h2,h3,h4⟩:=q len (V2 _);refine⟨xs,_,rfl,some a,cap,cells,by rw[h1],by omega,by simpa[maxLen]using hm,h2,λA=>?_⟩;obtain⟨l,q2⟩:=h3 (by omega);refine⟨a.block,a.off,?_,q2,GL h4⟩;cases a;simp only at l;subst l;rfl⟩
end
end
section
open Go Go.RowKit
theorem W7{P:Program}{t f off s:Nat}{b:Array Field}{a:Field}(c:P.underlying t=some (.struct b))(d:b[f]?=some a)(e:a.offset=off)   (g:(P.info? a.type).map (·.size)=some s:=by kernel_rfl) (h:s≠0:=by decide) :
    ∃b a i,P.underlying t=some (.struct b)/\b[f]?=some a/\a.offset=off/\P.info? a.type=some i/\i.size≠0:=by
  obtain⟨i,hi,hs⟩:=E7.1 g;exact⟨b,a,i,c,d,e,hi,by rw[hs];exact h⟩
instance:TInt prog 3 .i64:=⟨underlying3⟩
instance:TOne prog 3:=⟨⟨_,underlying3,rfl⟩⟩
instance:TInfo prog 3 (.int .i64 0) 1 8:=⟨info_parts (by kernel_rfl),rfl⟩
instance:TOne prog 4:=⟨⟨_,underlying4,rfl⟩⟩
instance:TInfo prog 4 (.bool false) 1 1:=⟨info_parts (by kernel_rfl),rfl⟩
instance:TInt prog 5 .u8:=⟨underlying5⟩
instance:TOne prog 5:=⟨⟨_,underlying5,rfl⟩⟩
instance:TInfo prog 5 (.int .u8 0) 1 1:=⟨info_parts (by kernel_rfl),rfl⟩
instance:TStr prog 9:=⟨underlying9⟩
instance:TOne prog 9:=⟨⟨_,underlying9,rfl⟩⟩
instance:TInfo prog 9 (.string (ByteArray.mk #[])) 1 16:=⟨info_parts (by kernel_rfl),rfl⟩
instance:TSlice prog 22 3:=⟨underlying22⟩
instance:TOne prog 22:=⟨⟨_,underlying22,rfl⟩⟩
instance:TInfo prog 22 (.slice none 0 0) 1 24:=⟨info_parts (by kernel_rfl),rfl⟩
instance:TSlice prog 23 61:=⟨underlying23⟩
instance:TOne prog 23:=⟨⟨_,underlying23,rfl⟩⟩
instance:TInfo prog 23 (.slice none 0 0) 1 24:=⟨info_parts (by kernel_rfl),rfl⟩
instance:TSlice prog 24 57:=⟨underlying24⟩
instance:TOne prog 24:=⟨⟨_,underlying24,rfl⟩⟩
instance:TInfo prog 24 (.slice none 0 0) 1 24:=⟨info_parts (by kernel_rfl),rfl⟩
instance:TAgg prog 26:=⟨⟨_,underlying26,rfl⟩⟩
instance:TInfo prog 26 (.agg #[(.slice none 0 0),(.slice none 0 0),(.slice none 0 0),(.slice none 0 0)]) 4 96:=⟨info_parts (by kernel_rfl),rfl⟩
instance:TPlaces prog 26 [(0,1),(1,1),(2,1),(3,1)]:=⟨⟨_,underlying26,λ_=>by kernel_rfl⟩⟩
instance:TField prog 26 0 0:=⟨W7 (s:=1) underlying26 rfl rfl⟩
instance:TField prog 26 1 1:=⟨W7 (s:=1) underlying26 rfl rfl⟩
instance:TField prog 26 2 2:=⟨W7 (s:=1) underlying26 rfl rfl⟩
instance:TField prog 26 3 3:=⟨W7 (s:=1) underlying26 rfl rfl⟩
instance:TSlice prog 27 9:=⟨underlying27⟩
instance:TOne prog 27:=⟨⟨_,underlying27,rfl⟩⟩
instance:TAgg prog 32:=⟨⟨_,underlying32,rfl⟩⟩
instance:TInfo prog 32 (.agg #[(.int .i64 0),(.slice none 0 0),(.int .i64 0),(.int .i64 0)]) 4 48:=⟨info_parts (by kernel_rfl),rfl⟩
instance:TPlaces prog 32 [(0,1),(1,1),(2,1),(3,1)]:=⟨⟨_,underlying32,λ_=>by kernel_rfl⟩⟩
instance:TField prog 32 0 0:=⟨W7 (s:=1) underlying32 rfl rfl⟩
instance:TField prog 32 1 1:=⟨W7 (s:=1) underlying32 rfl rfl⟩
instance:TField prog 32 2 2:=⟨W7 (s:=1) underlying32 rfl rfl⟩
instance:TIface prog 34:=⟨⟨_,underlying34⟩⟩
instance:TSlice prog 42 85:=⟨underlying42⟩
instance:TOne prog 42:=⟨⟨_,underlying42,rfl⟩⟩
instance:TInfo prog 42 (.slice none 0 0) 1 24:=⟨info_parts (by kernel_rfl),rfl⟩
instance:TAgg prog 44:=⟨⟨_,underlying44,rfl⟩⟩
instance:TInfo prog 44 (.agg #[(.int .i64 0),(.slice none 0 0)]) 2 32:=⟨info_parts (by kernel_rfl),rfl⟩
instance:TPlaces prog 44 [(0,1),(1,1)]:=⟨⟨_,underlying44,λ_=>by kernel_rfl⟩⟩
instance:TField prog 44 0 0:=⟨W7 (s:=1) underlying44 rfl rfl⟩
instance:TField prog 44 1 1:=⟨W7 (s:=1) underlying44 rfl rfl⟩
instance:TInt prog 49 .i64:=⟨underlying49⟩
instance:TSlice prog 55 59:=⟨underlying55⟩
instance:TOne prog 55:=⟨⟨_,underlying55,rfl⟩⟩
instance:TInfo prog 55 (.slice none 0 0) 1 24:=⟨info_parts (by kernel_rfl),rfl⟩
instance:TAgg prog 57:=⟨⟨_,underlying57,rfl⟩⟩
instance:TInfo prog 57 (.agg #[(.string (ByteArray.mk #[])),(.int .i64 0),(.slice none 0 0),(.slice none 0 0)]) 4 72:=⟨info_parts (by kernel_rfl),rfl⟩
instance:TPlaces prog 57 [(0,1),(1,1),(2,1),(3,1)]:=⟨⟨_,underlying57,λ_=>by kernel_rfl⟩⟩
instance:TField prog 57 0 0:=⟨W7 (s:=1) underlying57 rfl rfl⟩
instance:TField prog 57 1 1:=⟨W7 (s:=1) underlying57 rfl rfl⟩
instance:TField prog 57 2 2:=⟨W7 (s:=1) underlying57 rfl rfl⟩
instance:TField prog 57 3 3:=⟨W7 (s:=1) underlying57 rfl rfl⟩
instance:TAgg prog 59:=⟨⟨_,underlying59,rfl⟩⟩
instance:TInfo prog 59 (.agg #[(.slice none 0 0),(.int .i64 0),(.int .i64 0)]) 3 40:=⟨info_parts (by kernel_rfl),rfl⟩
instance:TPlaces prog 59 [(0,1),(1,1),(2,1)]:=⟨⟨_,underlying59,λ_=>by kernel_rfl⟩⟩
instance:TField prog 59 0 0:=⟨W7 (s:=1) underlying59 rfl rfl⟩
instance:TField prog 59 1 1:=⟨W7 (s:=1) underlying59 rfl rfl⟩
instance:TField prog 59 2 2:=⟨W7 (s:=1) underlying59 rfl rfl⟩
instance:TAgg prog 61:=⟨⟨_,underlying61,rfl⟩⟩
instance:TInfo prog 61 (.agg #[(.int .i64 0),(.int .i64 0)]) 2 16:=⟨info_parts (by kernel_rfl),rfl⟩
instance:TPlaces prog 61 [(0,1),(1,1)]:=⟨⟨_,underlying61,λ_=>by kernel_rfl⟩⟩
instance:TField prog 61 0 0:=⟨W7 (s:=1) underlying61 rfl rfl⟩
instance:TField prog 61 1 1:=⟨W7 (s:=1) underlying61 rfl rfl⟩
instance:TSlice prog 62 66:=⟨underlying62⟩
instance:TInfo prog 66 (.agg #[(.int .i64 0)]) 1 8:=⟨info_parts (by kernel_rfl),rfl⟩
instance:TPlaces prog 66 [(0,1)]:=⟨⟨_,underlying66,λ_=>by kernel_rfl⟩⟩
instance:TField prog 66 0 0:=⟨W7 (s:=1) underlying66 rfl rfl⟩
instance:TPtr prog 74 79:=⟨underlying74⟩
instance:TAgg prog 77:=⟨⟨_,underlying77,rfl⟩⟩
instance:TInfo prog 77 (.agg #[(.slice none 0 0),(.int .i64 0),(.int .i64 0)]) 3 40:=⟨info_parts (by kernel_rfl),rfl⟩
instance:TPlaces prog 77 [(0,1),(1,1),(2,1)]:=⟨⟨_,underlying77,λ_=>by kernel_rfl⟩⟩
instance:TField prog 77 0 0:=⟨W7 (s:=1) underlying77 rfl rfl⟩
instance:TField prog 77 1 1:=⟨W7 (s:=1) underlying77 rfl rfl⟩
instance:TField prog 77 2 2:=⟨W7 (s:=1) underlying77 rfl rfl⟩
instance:TSlice prog 79 77:=⟨underlying79⟩
instance:TOne prog 79:=⟨⟨_,underlying79,rfl⟩⟩
instance:TInfo prog 79 (.slice none 0 0) 1 24:=⟨info_parts (by kernel_rfl),rfl⟩
instance:TAgg prog 85:=⟨⟨_,underlying85,rfl⟩⟩
instance:TInfo prog 85 (.agg #[(.slice none 0 0),(.int .i64 0)]) 2 32:=⟨info_parts (by kernel_rfl),rfl⟩
instance:TPlaces prog 85 [(0,1),(1,1)]:=⟨⟨_,underlying85,λ_=>by kernel_rfl⟩⟩
instance:TField prog 85 0 0:=⟨W7 (s:=1) underlying85 rfl rfl⟩
instance:TField prog 85 1 1:=⟨W7 (s:=1) underlying85 rfl rfl⟩
instance:TSlice prog 86 23:=⟨underlying86⟩
instance:TOne prog 86:=⟨⟨_,underlying86,rfl⟩⟩
instance:TInfo prog 86 (.slice none 0 0) 1 24:=⟨info_parts (by kernel_rfl),rfl⟩
instance:TSlice prog 99 4:=⟨underlying99⟩
instance:TPtr prog 100 104:=⟨underlying100⟩
instance:TAgg prog 102:=⟨⟨_,underlying102,rfl⟩⟩
instance:TInfo prog 102 (.agg #[(.int .i64 0),(.int .i64 0),(.int .i64 0)]) 3 24:=⟨info_parts (by kernel_rfl),rfl⟩
instance:TPlaces prog 102 [(0,1),(1,1),(2,1)]:=⟨⟨_,underlying102,λ_=>by kernel_rfl⟩⟩
instance:TField prog 102 0 0:=⟨W7 (s:=1) underlying102 rfl rfl⟩
instance:TField prog 102 1 1:=⟨W7 (s:=1) underlying102 rfl rfl⟩
instance:TField prog 102 2 2:=⟨W7 (s:=1) underlying102 rfl rfl⟩
instance:TSlice prog 104 102:=⟨underlying104⟩
instance:TOne prog 104:=⟨⟨_,underlying104,rfl⟩⟩
instance:TInfo prog 104 (.slice none 0 0) 1 24:=⟨info_parts (by kernel_rfl),rfl⟩
instance:TPtr prog 106 156:=⟨underlying106⟩
instance:TOne prog 106:=⟨⟨_,underlying106,rfl⟩⟩
instance:TPtr prog 107 165:=⟨underlying107⟩
instance:TOne prog 107:=⟨⟨_,underlying107,rfl⟩⟩
instance:TInfo prog 109 (.agg #[(.slice none 0 0),(.slice none 0 0),(.slice none 0 0),(.slice none 0 0),(.pointer none),(.pointer none)]) 6 112:=⟨info_parts (by kernel_rfl),rfl⟩
instance:TPlaces prog 109 [(0,4),(4,1),(5,1)]:=⟨⟨_,underlying109,λ_=>by kernel_rfl⟩⟩
instance:TField prog 109 0 0:=⟨W7 (s:=4) underlying109 rfl rfl⟩
instance:TField prog 109 1 4:=⟨W7 (s:=1) underlying109 rfl rfl⟩
instance:TField prog 109 2 5:=⟨W7 (s:=1) underlying109 rfl rfl⟩
instance:TSlice prog 112 115:=⟨underlying112⟩
instance:TAgg prog 115:=⟨⟨_,underlying115,rfl⟩⟩
instance:TInfo prog 115 (.agg #[(.int .i64 0),(.slice none 0 0)]) 2 32:=⟨info_parts (by kernel_rfl),rfl⟩
instance:TPlaces prog 115 [(0,1),(1,1)]:=⟨⟨_,underlying115,λ_=>by kernel_rfl⟩⟩
instance:TField prog 115 0 0:=⟨W7 (s:=1) underlying115 rfl rfl⟩
instance:TField prog 115 1 1:=⟨W7 (s:=1) underlying115 rfl rfl⟩
instance:TInfo prog 144 (.agg #[(.slice none 0 0),(.slice none 0 0),(.slice none 0 0),(.slice none 0 0),(.int .i64 0),(.slice none 0 0),(.int .i64 0)]) 7 136:=⟨info_parts (by kernel_rfl),rfl⟩
instance:TPlaces prog 144 [(0,4),(4,2),(6,1)]:=⟨⟨_,underlying144,λ_=>by kernel_rfl⟩⟩
instance:TField prog 144 0 0:=⟨W7 (s:=4) underlying144 rfl rfl⟩
instance:TField prog 144 1 4:=⟨W7 (s:=2) underlying144 rfl rfl⟩
instance:TField prog 144 2 6:=⟨W7 (s:=1) underlying144 rfl rfl⟩
instance:TPtr prog 152 201:=⟨underlying152⟩
instance:TOne prog 152:=⟨⟨_,underlying152,rfl⟩⟩
instance:TSlice prog 153 162:=⟨underlying153⟩
instance:TOne prog 153:=⟨⟨_,underlying153,rfl⟩⟩
instance:TInfo prog 153 (.slice none 0 0) 1 24:=⟨info_parts (by kernel_rfl),rfl⟩
instance:TOne prog 154:=⟨⟨_,underlying154,rfl⟩⟩
instance:TInfo prog 156 (.agg #[(.pointer none),(.slice none 0 0),(.map none)]) 3 40:=⟨info_parts (by kernel_rfl),rfl⟩
instance:TPlaces prog 156 [(0,1),(1,1),(2,1)]:=⟨⟨_,underlying156,λ_=>by kernel_rfl⟩⟩
instance:TField prog 156 0 0:=⟨W7 (s:=1) underlying156 rfl rfl⟩
instance:TField prog 156 1 1:=⟨W7 (s:=1) underlying156 rfl rfl⟩
instance:TField prog 156 2 2:=⟨W7 (s:=1) underlying156 rfl rfl⟩
instance:TSlice prog 158 203:=⟨underlying158⟩
instance:TOne prog 158:=⟨⟨_,underlying158,rfl⟩⟩
instance:TAgg prog 160:=⟨⟨_,underlying160,rfl⟩⟩
instance:TInfo prog 160 (.agg #[(.int .i64 0),(.int .i64 0),(.int .i64 0)]) 3 24:=⟨info_parts (by kernel_rfl),rfl⟩
instance:TPlaces prog 160 [(0,1),(1,1),(2,1)]:=⟨⟨_,underlying160,λ_=>by kernel_rfl⟩⟩
instance:TField prog 160 0 0:=⟨W7 (s:=1) underlying160 rfl rfl⟩
instance:TField prog 160 1 1:=⟨W7 (s:=1) underlying160 rfl rfl⟩
instance:TInfo prog 162 (.agg #[(.slice none 0 0),(.int .i64 0),(.int .i64 0),(.int .i64 0)]) 4 48:=⟨info_parts (by kernel_rfl),rfl⟩
instance:TPlaces prog 162 [(0,1),(1,3)]:=⟨⟨_,underlying162,λ_=>by kernel_rfl⟩⟩
instance:TField prog 162 0 0:=⟨W7 (s:=1) underlying162 rfl rfl⟩
instance:TField prog 162 1 1:=⟨W7 (s:=3) underlying162 rfl rfl⟩
instance:TPtr prog 163 241:=⟨underlying163⟩
instance:TOne prog 163:=⟨⟨_,underlying163,rfl⟩⟩
instance:TInfo prog 163 (.pointer none) 1 8:=⟨info_parts (by kernel_rfl),rfl⟩
instance:TInfo prog 165 (.agg #[(.slice none 0 0),(.slice none 0 0),(.slice none 0 0),(.slice none 0 0),(.pointer none)]) 5 104:=⟨info_parts (by kernel_rfl),rfl⟩
instance:TPlaces prog 165 [(0,4),(4,1)]:=⟨⟨_,underlying165,λ_=>by kernel_rfl⟩⟩
instance:TField prog 165 0 0:=⟨W7 (s:=4) underlying165 rfl rfl⟩
instance:TField prog 165 1 4:=⟨W7 (s:=1) underlying165 rfl rfl⟩
instance:TPtr prog 170 173:=⟨underlying170⟩
instance:TOne prog 170:=⟨⟨_,underlying170,rfl⟩⟩
instance:TInfo prog 170 (.pointer none) 1 8:=⟨info_parts (by kernel_rfl),rfl⟩
instance:TSlice prog 171 5:=⟨underlying171⟩
instance:TOne prog 171:=⟨⟨_,underlying171,rfl⟩⟩
instance:TInfo prog 171 (.slice none 0 0) 1 24:=⟨info_parts (by kernel_rfl),rfl⟩
instance:TInfo prog 173 (.agg #[(.pointer none),(.slice none 0 0)]) 2 32:=⟨info_parts (by kernel_rfl),rfl⟩
instance:TField prog 173 0 0:=⟨W7 (s:=1) underlying173 rfl rfl⟩
instance:TField prog 173 1 1:=⟨W7 (s:=1) underlying173 rfl rfl⟩
instance:TSlice prog 182 86:=⟨underlying182⟩
instance:TInt prog 187 .u64:=⟨underlying187⟩
instance:TSlice prog 199 205:=⟨underlying199⟩
instance:TOne prog 199:=⟨⟨_,underlying199,rfl⟩⟩
instance:TInfo prog 199 (.slice none 0 0) 1 24:=⟨info_parts (by kernel_rfl),rfl⟩
instance:TInfo prog 201 (.agg #[(.slice none 0 0),(.int .i64 0)]) 2 32:=⟨info_parts (by kernel_rfl),rfl⟩
instance:TPlaces prog 201 [(0,1),(1,1)]:=⟨⟨_,underlying201,λ_=>by kernel_rfl⟩⟩
instance:TField prog 201 0 0:=⟨W7 (s:=1) underlying201 rfl rfl⟩
instance:TField prog 201 1 1:=⟨W7 (s:=1) underlying201 rfl rfl⟩
instance:TInt prog 203 .u64:=⟨underlying203⟩
instance:TOne prog 203:=⟨⟨_,underlying203,rfl⟩⟩
instance:TInfo prog 203 (.int .u64 0) 1 8:=⟨info_parts (by kernel_rfl),rfl⟩
instance:TAgg prog 205:=⟨⟨_,underlying205,rfl⟩⟩
instance:TInfo prog 205 (.agg #[(.int .i64 0),(.int .i64 0),(.int .i64 0),(.int .i64 0)]) 4 32:=⟨info_parts (by kernel_rfl),rfl⟩
instance:TPlaces prog 205 [(0,1),(1,1),(2,1),(3,1)]:=⟨⟨_,underlying205,λ_=>by kernel_rfl⟩⟩
instance:TField prog 205 0 0:=⟨W7 (s:=1) underlying205 rfl rfl⟩
instance:TField prog 205 1 1:=⟨W7 (s:=1) underlying205 rfl rfl⟩
instance:TField prog 205 2 2:=⟨W7 (s:=1) underlying205 rfl rfl⟩
instance:TField prog 205 3 3:=⟨W7 (s:=1) underlying205 rfl rfl⟩
instance:TInfo prog 234 (.agg #[(.slice none 0 0),(.int .i64 0),(.int .i64 0),(.bool false)]) 4 48:=⟨info_parts (by kernel_rfl),rfl⟩
instance:TPlaces prog 234 [(0,1),(1,1),(2,1),(3,1)]:=⟨⟨_,underlying234,λ_=>by kernel_rfl⟩⟩
instance:TField prog 234 1 1:=⟨W7 (s:=1) underlying234 rfl rfl⟩
instance:TField prog 234 2 2:=⟨W7 (s:=1) underlying234 rfl rfl⟩
instance:TField prog 234 3 3:=⟨W7 (s:=1) underlying234 rfl rfl⟩
instance:TSlice prog 239 163:=⟨underlying239⟩
instance:TOne prog 239:=⟨⟨_,underlying239,rfl⟩⟩
instance:TInfo prog 239 (.slice none 0 0) 1 24:=⟨info_parts (by kernel_rfl),rfl⟩
instance:TInfo prog 241 (.agg #[(.slice none 0 0),(.bool false),(.int .i64 0),(.slice none 0 0),(.pointer none)]) 5 72:=⟨info_parts (by kernel_rfl),rfl⟩
instance:TPlaces prog 241 [(0,1),(1,1),(2,1),(3,1),(4,1)]:=⟨⟨_,underlying241,λ_=>by kernel_rfl⟩⟩
instance:TField prog 241 0 0:=⟨W7 (s:=1) underlying241 rfl rfl⟩
instance:TField prog 241 1 1:=⟨W7 (s:=1) underlying241 rfl rfl⟩
instance:TField prog 241 2 2:=⟨W7 (s:=1) underlying241 rfl rfl⟩
instance:TField prog 241 3 3:=⟨W7 (s:=1) underlying241 rfl rfl⟩
instance:TField prog 241 4 4:=⟨W7 (s:=1) underlying241 rfl rfl⟩
instance:TSlice prog 242 22:=⟨underlying242⟩
instance:Callable prog 4:=.z func4
instance:Callable prog 5:=.z func5
instance:Callable prog 6:=.z func6
instance:Callable prog 7:=.z func7
instance:Callable prog 8:=.z func8
instance:Callable prog 9:=.z func9
instance:Callable prog 10:=.z func10
instance:Callable prog 11:=.z func11
instance:Callable prog 12:=.z func12
instance:Callable prog 13:=.z func13
instance:Callable prog 14:=.z func14
instance:Callable prog 15:=.z func15
instance:Callable prog 16:=.z func16
instance:Callable prog 17:=.z func17
instance:Callable prog 18:=.z func18
instance:Callable prog 19:=.z func19
instance:Callable prog 20:=.z func20
instance:Callable prog 21:=.z func21
instance:Callable prog 22:=.z func22
instance:Callable prog 23:=.z func23
instance:Callable prog 24:=.z func24
instance:Callable prog 25:=.z func25
instance:Callable prog 26:=.z func26
instance:Callable prog 27:=.z func27
instance:Callable prog 28:=.z func28
instance:Callable prog 29:=.z func29
instance:Callable prog 30:=.z func30
instance:Callable prog 31:=.z func31
instance:Callable prog 32:=.z func32
instance:Callable prog 33:=.z func33
instance:Callable prog 34:=.z func34
instance:Callable prog 35:=.z func35
instance:Callable prog 36:=.z func36
instance:Callable prog 37:=.z func37
instance:Callable prog 38:=.z func38
instance:Callable prog 39:=.z func39
instance:Callable prog 40:=.z func40
instance:Callable prog 41:=.z func41
instance:Callable prog 42:=.z func42
instance:Callable prog 43:=.z func43
instance:Callable prog 44:=.z func44
instance:Callable prog 45:=.z func45
instance:Callable prog 46:=.z func46
instance:Callable prog 47:=.z func47
instance:Callable prog 48:=.z func48
instance:Callable prog 49:=.z func49
instance:Callable prog 50:=.z func50
instance:Callable prog 51:=.z func51
instance:Callable prog 52:=.z func52
instance:Callable prog 53:=.z func53
instance:Callable prog 54:=.z func54
instance:Callable prog 55:=.z func55
instance:Callable prog 56:=.z func56
instance:Callable prog 57:=.z func57
instance:Callable prog 58:=.z func58
instance:Callable prog 59:=.z func59
instance:Callable prog 60:=.z func60
instance:Callable prog 61:=.z func61
instance:Callable prog 62:=.z func62
instance:Callable prog 63:=.z func63
instance:Callable prog 64:=.z func64
instance:Callable prog 65:=.z func65
instance:Callable prog 66:=.z func66
instance:Callable prog 67:=.z func67
instance:Callable prog 68:=.z func68
instance:Callable prog 69:=.z func69
instance:Callable prog 70:=.z func70
instance:Callable prog 71:=.z func71
instance:Callable prog 72:=.z func72
instance:Callable prog 73:=.z func73
instance:Callable prog 74:=.z func74
instance:Callable prog 75:=.z func75
instance:Callable prog 76:=.z func76
instance:Callable prog 77:=.z func77
instance:Callable prog 78:=.z func78
instance:Callable prog 79:=.z func79
instance:Callable prog 80:=.z func80
instance:Callable prog 81:=.z func81
instance:Callable prog 82:=.z func82
instance:Callable prog 83:=.z func83
instance:Callable prog 84:=.z func84
instance:Callable prog 85:=.z func85
instance:Callable prog 86:=.z func86
instance:Callable prog 87:=.z func87
instance:Callable prog 88:=.z func88
instance:Callable prog 91:=.z func91
instance:Callable prog 92:=.z func92
instance:Callable prog 93:=.z func93
instance:Callable prog 94:=.z func94
instance:Callable prog 95:=.z func95
instance:Callable prog 96:=.z func96
instance:Callable prog 97:=.z func97
instance:Callable prog 98:=.z func98
instance:Callable prog 99:=.z func99
instance:Callable prog 100:=.z func100
instance:Callable prog 101:=.z func101
instance:Callable prog 102:=.z func102
instance:Callable prog 103:=.z func103
instance:Callable prog 104:=.z func104
instance:Callable prog 105:=.z func105
instance:Callable prog 106:=.z func106
instance:Callable prog 107:=.z func107
instance:Callable prog 108:=.z func108
instance:Callable prog 109:=.z func109
instance:Callable prog 110:=.z func110
instance:Callable prog 111:=.z func111
instance:Callable prog 112:=.z func112
instance:Callable prog 113:=.z func113
instance:Callable prog 114:=.z func114
instance:Callable prog 115:=.z func115
instance:Callable prog 116:=.z func116
instance:Callable prog 117:=.z func117
instance:Callable prog 128:=.z func128
instance:Callable prog 129:=.z func129
instance:Callable prog 130:=.z func130
instance:Callable prog 131:=.z func131
instance:Callable prog 132:=.z func132
instance:Callable prog 133:=.z func133
instance:Callable prog 134:=.z func134
instance:Callable prog 135:=.z func135
instance:Callable prog 137:=.z func137
instance:Callable prog 138:=.z func138
instance:Callable prog 146:=.z func146
instance:Callable prog 148:=.z func148
instance:Callable prog 150:=.z func150
instance:Callable prog 154:=.z func154
instance:Callable prog 156:=.z func156
instance:Callable prog 214:=.z func214
instance:Callable prog 215:=.z func215
instance:Callable prog 216:=.z func216
instance:Callable prog 217:=.z func217
instance:Callable prog 218:=.z func218
instance:Callable prog 219:=.z func219
instance:Callable prog 220:=.z func220
instance:Callable prog 221:=.z func221
instance:Mixed prog:=⟨by kernel_rfl⟩
end
section
open Go Go.RowKit Go.ChangeShapes Go.WideShapes Go.Deep
theorem AcZ{cs:List Value}(c:cs.length=2):∃a b,cs=[a,b]:=by
  match cs,c with
  |[a,b],_=>exact⟨a,b,rfl⟩
theorem Ac1{cs:List Value}(d:cs.length=3):∃a b c,cs=[a,b,c]:=by
  match cs,d with
  |[a,b,c],_=>exact⟨a,b,c,rfl⟩
theorem Acu{cs:List Value}(d:cs.length=4):∃a b c e,cs=[a,b,c,e]:=by
  match cs,d with
  |[a,b,c,e],_=>exact⟨a,b,c,e,rfl⟩
theorem Mu:prog.cellsOf 3=1:=by kernel_rfl
theorem VX:prog.cellsOf 9=1:=by kernel_rfl
theorem TB:prog.cellsOf 22=1:=by kernel_rfl
theorem ON:prog.cellsOf 23=1:=by kernel_rfl
theorem Xl:prog.cellsOf 55=1:=by kernel_rfl
theorem Yj:prog.cellsOf 24=1:=by kernel_rfl
theorem TC:prog.cellsOf 61=2:=by kernel_rfl
theorem VY:prog.cellsOf 59=3:=by kernel_rfl
theorem Xm:prog.cellsOf 57=4:=by kernel_rfl
theorem Xn:prog.cellsOf 26=4:=by kernel_rfl
theorem Zz{i:Type}{enc:TypeId×Value->i}{P:Program}{w:World}{t:TypeId}{b:Array Field}{n:Nat}{cs:List Value}{x:DataW i×List MemPlace}(d:P.underlying t=some (.struct b))(k:DataW.trod enc P w 0 (λ_=>true) true n t cs=some x) :
    cs.length=P.cellsOf t/\∃m,∀(j ty off c:Nat),(b[j]?).map (λf=>(f.type,f.offset))=some (ty,off)->P.cellsOf ty=c->∃y,DataW.trod enc P w 0 (λ_=>true) true m ty ((cs.drop off).take c)=some y:=by
  obtain⟨xs,m,_,_,hl,hx,hf⟩:=DataW.trod_struct d k;refine⟨hl,m,λj ty off c hj hc=>?_⟩;obtain⟨e,h1,h2⟩:=E7.1 hj;injection h2 with g h;subst g;subst h;subst hc;have a:j<xs.length:=(by rw[hx];exact(B9.1 h1).1);exact⟨xs[j],(hf j e h1).trans (D1 a)⟩
instance:Reads prog 3 Int:=AbR underlying3
instance:Reads prog 22 (List Int):=Zk underlying22 Mu
instance:Reads prog 61 Fct:=⟨λ{e enc w n cs x} f=>by
  obtain⟨hl,m,hf⟩:=Zz underlying61 f;obtain⟨a,v1,rfl⟩:=AcZ (hl.trans TC);obtain⟨c,g0⟩:=hf 0 3 0 1 rfl Mu;replace g0:DataW.trod enc prog w 0 (λ_=>true) true m 3 [a]=some c:=g0;obtain⟨d,g1⟩:=hf 1 3 1 1 rfl Mu;replace g1:DataW.trod enc prog w 0 (λ_=>true) true m 3 [v1]=some d:=g1;obtain⟨z0,e0,q0⟩:=(inferInstance:Reads prog 3 Int).of g0;obtain rfl:a=.int .i64 z0:=(by simpa using e0);obtain⟨b,e1,q1⟩:=(inferInstance:Reads prog 3 Int).of g1;obtain rfl:v1=.int .i64 b:=(by simpa using e1);exact⟨⟨z0,b⟩,rfl,q0,q1⟩⟩
instance:Reads prog 23 (List Fct):=Zk underlying23 TC
instance:Reads prog 59 Eff:=⟨λ{g enc w n cs x} h=>by
  obtain⟨hl,m,hf⟩:=Zz underlying59 h;obtain⟨a,v1,v2,rfl⟩:=Ac1 (hl.trans VY);obtain⟨d,g0⟩:=hf 0 23 0 1 rfl ON;replace g0:DataW.trod enc prog w 0 (λ_=>true) true m 23 [a]=some d:=g0;obtain⟨e,g1⟩:=hf 1 3 1 1 rfl Mu;replace g1:DataW.trod enc prog w 0 (λ_=>true) true m 3 [v1]=some e:=g1;obtain⟨f,g2⟩:=hf 2 3 2 1 rfl Mu;replace g2:DataW.trod enc prog w 0 (λ_=>true) true m 3 [v2]=some f:=g2;obtain⟨z0,q0⟩:=(inferInstance:Reads prog 23 (List Fct)).of g0;obtain⟨b,e1,q1⟩:=(inferInstance:Reads prog 3 Int).of g1;obtain rfl:v1=.int .i64 b:=(by simpa using e1);obtain⟨c,e2,q2⟩:=(inferInstance:Reads prog 3 Int).of g2;obtain rfl:v2=.int .i64 c:=(by simpa using e2);exact⟨⟨z0,b,c⟩,a,rfl,q0,q1,q2⟩⟩
instance:Reads prog 55 (List Eff):=Zk underlying55 VY
instance:Reads prog 57 Opr:=⟨λ{i enc w n cs x} j=>by
  obtain⟨hl,m,hf⟩:=Zz underlying57 j;obtain⟨a,v1,v2,v3,rfl⟩:=Acu (hl.trans Xm);obtain⟨c,g0⟩:=hf 0 9 0 1 rfl VX;replace g0:DataW.trod enc prog w 0 (λ_=>true) true m 9 [a]=some c:=g0;obtain⟨d,g1⟩:=hf 1 3 1 1 rfl Mu;replace g1:DataW.trod enc prog w 0 (λ_=>true) true m 3 [v1]=some d:=g1;obtain⟨e,g2⟩:=hf 2 23 2 1 rfl ON;replace g2:DataW.trod enc prog w 0 (λ_=>true) true m 23 [v2]=some e:=g2;obtain⟨f,g3⟩:=hf 3 55 3 1 rfl Xl;replace g3:DataW.trod enc prog w 0 (λ_=>true) true m 55 [v3]=some f:=g3;obtain⟨z0,e0,_,q0⟩:=DataW.trod_string underlying9 g0;obtain rfl:a=.string z0:=(by simpa using e0);obtain⟨b,e1,q1⟩:=(inferInstance:Reads prog 3 Int).of g1;obtain rfl:v1=.int .i64 b:=(by simpa using e1);obtain⟨g,q2⟩:=(inferInstance:Reads prog 23 (List Fct)).of g2;obtain⟨h,q3⟩:=(inferInstance:Reads prog 55 (List Eff)).of g3;exact⟨⟨z0,b,g,h⟩,v2,v3,rfl,q2,q3,q1,by simpa[maxLen]using q0⟩⟩
instance:Reads prog 24 (List Opr):=Zk underlying24 Xm
instance:Reads prog 26 Tsk:=⟨λ{i enc w n cs x} j=>by
  obtain⟨hl,m,hf⟩:=Zz underlying26 j;obtain⟨a,v1,v2,v3,rfl⟩:=Acu (hl.trans Xn);obtain⟨b,g0⟩:=hf 0 22 0 1 rfl TB;replace g0:DataW.trod enc prog w 0 (λ_=>true) true m 22 [a]=some b:=g0;obtain⟨c,g1⟩:=hf 1 22 1 1 rfl TB;replace g1:DataW.trod enc prog w 0 (λ_=>true) true m 22 [v1]=some c:=g1;obtain⟨d,g2⟩:=hf 2 23 2 1 rfl ON;replace g2:DataW.trod enc prog w 0 (λ_=>true) true m 23 [v2]=some d:=g2;obtain⟨e,g3⟩:=hf 3 24 3 1 rfl Yj;replace g3:DataW.trod enc prog w 0 (λ_=>true) true m 24 [v3]=some e:=g3;obtain⟨z0,q0⟩:=(inferInstance:Reads prog 22 (List Int)).of g0;obtain⟨f,q1⟩:=(inferInstance:Reads prog 22 (List Int)).of g1;obtain⟨g,q2⟩:=(inferInstance:Reads prog 23 (List Fct)).of g2;obtain⟨h,q3⟩:=(inferInstance:Reads prog 24 (List Opr)).of g3;exact⟨⟨z0,f,g,h⟩,a,v1,v2,v3,rfl,q0,q1,q2,q3⟩⟩
theorem Aca{d:Type}{enc:TypeId×Value->d}{P:Program}{w:World}{t:TypeId}{α:Type}[Rp α][hr:Reads P t α]{v:Value}{e:DataW d}{p:List MemPlace}(b:Rp.isAgg α=true->∃cs,v=.agg cs)(c:Rp.isAgg α=false->v.cells.toList=[v])
    (f:DataW.Trod enc P w 0 (λ_=>true) true t v e p):∃a:α,V w v a:=by
  obtain⟨n,f⟩:=f;obtain⟨a,ha⟩:=hr.of f;refine⟨a,?_⟩;unfold V Vb;cases hb:Rp.isAgg α with
  |true =>
    obtain⟨cs,rfl⟩:=b hb;exact⟨cs.toList,by simp,ha⟩
  |false =>
    rw[c hb]at ha;exact ha
end
section
open Go Go.RowKit Go.ChangeShapes Go.WideShapes Go.Deep
theorem Ab1{P:Program}{w:World}{t:TypeId}[a:TOne P t]{base:Nat}{v:Value}(b:Value.okWide P w .any base t v):v.cells.toList=[v]:=by
  obtain⟨k,hk,hm⟩:=a.eq;cases v with
  |agg cs=>cases k<;>first|(simp at hm;done)|(simp only[Value.okWide,hk,Cell.okWide]at b;simp_all [Cell.ok];done)
  |_=>rfl
theorem Ab4{P:Program}{w:World}{t:TypeId}[b:TAgg P t]{base:Nat}{v:Value}(a:Value.okWide P w .any base t v):∃cs,v=.agg cs:=by
  obtain⟨k,hk,hm⟩:=b.eq;cases k<;>first|(simp at hm;done)|(simp only[Value.okWide,hk]at a;obtain⟨cs,rfl,_⟩:=a;exact⟨cs,rfl⟩)
theorem openOne{c:Type}{enc:TypeId×Value->c}{P:Program}{w:World}{t:TypeId}{α:Type}[Rp α][Reads P t α][TOne P t]{base:Nat}{v:Value}{d:DataW c}{p:List MemPlace}(hb:Rp.isAgg α=false)(b:Value.okWide P w .any base t v)
    (e:DataW.Trod enc P w 0 (λ_=>true) true t v d p):∃a:α,V w v a :=
  Aca (fun e=>by rw[hb]at e; cases e) (fun _=>Ab1 b) e
theorem openAgg{c:Type}{enc:TypeId×Value->c}{P:Program}{w:World}{t:TypeId}{α:Type}[Rp α][Reads P t α][TAgg P t]{base:Nat}{v:Value}{d:DataW c}{p:List MemPlace}(hb:Rp.isAgg α=true)(b:Value.okWide P w .any base t v)
    (e:DataW.Trod enc P w 0 (λ_=>true) true t v d p):∃a:α,V w v a :=
  Aca (fun _=>Ab4 b) (fun e=>by rw[hb]at e; cases e) e
theorem AcH:ownKnob prog.godebug=none:=by kernel_rfl
theorem Ack:Kids prog (· < prog.types.size):=kids_rows (by kernel_rfl) (by kernel_rfl)
theorem Acm:∀t e,t<prog.types.size->prog.underlying t=some (.slice e)->0<prog.cellsOf e:=slices_full_of prog (by kernel_rfl)
theorem Aa7{m:Type}{enc:TypeId×Value->m}{o W':World}(h:Ext o W'){sp:Nat->Bool}:∀{f:List TypeId}{vs:List Value}{i:List (DataW m)}{ps:List MemPlace},(∀t∈f,t<prog.types.size) ->
    DataW.TrodAll enc prog o 0 (λ_=>true) true f vs i ps->(∀p∈ps,sp p.block=true)->DataW.TrodAll enc prog W' 0 sp true f vs i ps
  |[],_,_,_,_,q,_=>by
    obtain⟨rfl,rfl,rfl⟩:=trodAll_nil q;exact rfl
  |t  :: f,_,_,_,j,q,hs=>by
    obtain⟨v,vs1,d,ds1,a,b,rfl,rfl,rfl,⟨n,k⟩,h2⟩:=trodAll_cons q;refine⟨a,b,⟨n,DataW.trod_stays Ack (λ{t e}=>Acm t e) (λq=>by cases q) (j t K6) k (λp c=>h.same (DataW.trod_lt n _ _ _ k p c)) (λp c=>hs p (G9 _ c))⟩,
      Aa7 h (λl g=>j l (H0 _ g)) h2 (λp c=>hs p (List.mem_append_right _ c)),rfl⟩
set_option maxRecDepth 100000 in
theorem Acg{H:Type}{enc:TypeId×Value->H}{f:FuncId}{c:Func}{s:ChangeSpec}{k:Bool}{I:World}{args:Array Value}{h C:List (DataW H)}{g:List MemPlace}
    (a:s.vars=[]) (n:c.resultTypes=#[4]) (y:∀t∈c.params.toList,t<prog.types.size) (B:DataW.Whole enc prog c.params.toList s.vars false I args.toList h C g)
    (hs:∀p,DataW.TrodAll enc prog I 0 (λ_=>true) true c.params.toList args.toList h p->s.fn H (h++[])={ results:=[.lit (.bool true)],args:=h })
    (hc:∀p,DataW.TrodAll enc prog I 0 (λ_=>true) true c.params.toList args.toList h p->Fn prog f args.toList I λv w'=>v=.bool true/\Ext I w') :
    Calls prog f args I λe W'=>∃v,e=.returned v/\s.post enc prog c false true false k I args v W':=by
  have o:=B;obtain⟨p,q,hA,hV,rfl,hfz,hnd⟩:=B;rw[a]at hV;obtain⟨rfl,rfl⟩:=trodVars_none hV;have z:=hc p hA I.drawn;rw[Ik]at z;refine z.mono λe W' ⟨v,w₀,d',he,hw,hv,hE⟩=>?_;subst he;subst hv;refine⟨_,rfl,?_⟩;have l:Ext I W':=by
    subst hw;exact⟨hE.os,hE.tape,hE.output,hE.size,hE.block⟩
  clear hE z hw;have m:=hs p hA;have hlt:=o.lt;have u:∀q∈p++[],(λb=>decide (b<I.heap.size)) q.block=true:=λq w=>(by simpa using hlt q w);have d:∀sp:Nat->Bool,(∀q∈p,sp q.block=true)->DataW.TrodAll enc prog W' 0 sp true c.params.toList args.toList h p:=λsp J=>Aa7 l y hA J;have i:∀(b:Nat)(sp:Nat->Bool)(hd:Bool),DataW.TrodAll enc prog W' b sp hd c.resultTypes.toList ((Value.bool true).resultList c.resultTypes.size) [.lit (.bool true)] []:=λ_ _ _=>by
    rw[n];exact trodAll_mk1 (shut_bool underlying4 _)
  have hk:I.keptBut W' (λq=>q∈p++[]/\(q∈([]:List MemPlace)\/q∈p\/q∈([]:List MemPlace))):=Below.frame l _;have A:∀(j:Nat)(t:TypeId)(r:Value),c.resultTypes[j]?=some t->((Value.bool true).resultList c.resultTypes.size)[j]?=some r->Value.okWide prog W' .any 0 t r:=by
    have D:Value.okWide prog W' .any 0 4 (.bool true):=okWide_bool_mk underlying4 true;have E:(Value.bool true).resultList 1=[Value.bool true]:=(by unfold Value.resultList;rfl);exact ok_one (P:=prog) (W':=W') (f:=c) (v:=.bool true) (t:=4) n E D
  refine⟨h,[],p++[],[],p,[],o,?_,?_,?_,hk,λ_=>⟨A,[.lit (.bool true)]++h,[],([]++p)++[],⟨[]++p,[],?_,?_,rfl,?_,?_⟩,?_⟩⟩
  . rw[m];exact i _ _ _
  . rw[m];exact d _ (λq w=>u q (by simpa using w))
  . rw[m,a];rfl
  . exact trodAll_append (d _ (λ_ _=>rfl)) (i _ _ _)
  . rw[a];rfl
  . intro b off F;have x:MemPlace.cell b off∈p++[]:=(by simpa using F);rw[l.frozen (p:=⟨b,off,none⟩) (hlt _ x)];exact hfz b off x
  . intro G;cases G
  . intro q w _;simpa using w
end
section
open Go Go.RowKit Go.ChangeShapes Go.WideShapes Go.Deep
instance:Reads prog 9 ByteArray:=⟨λ{a enc w n cs x} b=>by
  obtain⟨z0,e0,_,q0⟩:=DataW.trod_string underlying9 b;exact⟨z0,e0,by simpa[maxLen]using q0⟩⟩
instance:Reads prog 27 (List ByteArray):=Zk underlying27 VX
end
section
open Go Go.RowKit
abbrev Lab:=Nat->Nat
theorem Bg{a b:Nat}  (c:Nat.ble a b=true:=by exact rfl):a<=b:=F5 c
theorem allOne{l:List Value}  (a:l.all (·.oneCell')=true:=by exact rfl):∀u∈l,u.oneCell'=true:=N6.1 a
structure St(T:Nat->Prop)(w:World)(O:Lab)(w':World)(O':Lab):Prop where
  os:w'.os=w.os
  tape:w'.tape=w.tape
  output:w'.output=w.output
  size:w.heap.size<=w'.heap.size
  same:∀k,k<w.heap.size->¬T (O k)->w'.heap[k]?=w.heap[k]?/\O' k=O k
theorem St.refl(T:Nat->Prop)(w:World)(O:Lab):St T w O w O:=⟨rfl,rfl,rfl,V2 _,λ_ _ _=>⟨rfl,rfl⟩⟩
theorem St.comp{T c:Nat->Prop}{w w' a:World}{O O' b:Lab}(l:St T w O w' O')(k:St c w' O' a b)(f:∀i,c i->T i):St T w O a b :=
  ⟨k.os.trans l.os,k.tape.trans l.tape,k.output.trans l.output,U8 l.size k.size,λj hj d=>by
    obtain⟨g,h2⟩:=l.same j hj d;obtain⟨h,k2⟩:=k.same j (K1 hj l.size) (by rw[h2];exact λe=>d (f _ e));exact⟨h.trans g,k2.trans h2⟩⟩
theorem St.an{T c:Nat->Prop}{w w' a:World}{O O' b:Lab}(h:St T w O w' O')(k:St c w' O' a b):St (λj=>T j\/c j) w O a b :=
  ⟨k.os.trans h.os,k.tape.trans h.tape,k.output.trans h.output,U8 h.size k.size,λj hj d=>by
    obtain⟨f,h2⟩:=h.same j hj λe=>d (.inl e);obtain⟨g,k2⟩:=k.same j (K1 hj h.size) (by rw[h2];exact λe=>d (.inr e));exact⟨g.trans f,k2.trans h2⟩⟩
abbrev nT:Nat->Prop:=λ_=>False
abbrev eT(i:Nat):Nat->Prop:=λk=>k=i
def Fr(i:Nat)(w:World)(O:Lab):Nat->Prop:=λk=>k<w.heap.size/\O k=i
theorem Fr.lt{i:Nat}{w:World}{O:Lab}:∀k,Fr i w O k->k<w.heap.size:=λ_ a=>a.1
def upA(A:Nat->Prop)(w w':World):Nat->Prop:=λk=>A k\/w.heap.size<=k/\k<w'.heap.size
theorem LK{w:World}{b o:Nat}{cs:List Value}(off n:Nat)(c:cellsAt w b o cs):cellsAt w b (o+off) ((cs.drop off).take n):=GL λj v a=>by
  rw[K3]at a;split at a
  . rw[K2]at a;have:=DY c _ _ a;rwa[Nat.add_assoc]
  . cases a
section
variable {α:Type}[Rp α]{T:Nat → Prop}{i:Nat}{w w':World}{O O':Lab}{v:Value}{x:α}{xs:List α}{e:TypeId}
theorem St.fr(a:St T w O w' O')(hi:¬T i):∀k,Fr i w O k->Fr i w' O' k:=λk hk=>by
  have b:=a.same k hk.1 (by rw[hk.2];exact hi);exact⟨K1 hk.1 a.size,b.2.trans hk.2⟩
theorem St.agree(a:St T w O w' O')(hi:¬T i):Agree (Fr i w O) w w':=λk hk=>(a.same k hk.1 (by rw[hk.2];exact hi)).1
theorem Vb.st(b:Vb w (Fr i w O) v x)(a:St T w O w' O')(hi:¬T i:=by decide):Vb w' (Fr i w' O') v x:=(b.agree (a.agree hi)).mono (a.fr hi)
def Rw(i:Nat)(w:World)(O:Lab)(e:TypeId)(v:Value)(xs:List α):Prop:=Own w 0 (Fr 0 w O) e v xs/\(∀g,v.ownBlock=some g->O g=i)/\i≠0
theorem Rw.st(f:Rw i w O e v xs)(b:St T w O w' O')(c:¬T 0:=by decide)(hi:¬T i:=by decide):Rw i w' O' e v xs:=by
  obtain⟨d,h2,h3⟩:=f;have hl:∀g,v.ownBlock=some g->w'.heap[g]?=w.heap[g]?/\O' g=i:=λg a=>by
    have:=b.same g (d.lt g a).2 (by rw[h2 g a];exact hi);exact⟨this.1,this.2.trans (h2 g a)⟩
  exact⟨(d.agree (b.agree c) λg a=>(hl g a).1).mono (b.fr c) λg a hk=>h3 ((hl g a).2.symm.trans hk.2),λg a=>(hl g a).2,h3⟩
theorem Rw.nil(i:Nat)(hi:i≠0):Rw (α:=α) i w O e (.slice none 0 0) []:=⟨Own.nil _ _ _ _,λg a=>by simp[Value.ownBlock]at a,hi⟩
theorem Own.chunk{base:Nat}{F:Nat->Prop}(f:Own w base F e v xs):∃A c cells,v=.slice A xs.length c/\xs.length<=c/\c<=9223372036854775807/\Chunks w F cells xs/\(0<xs.length->∃b o,A=some ⟨b,o,none⟩/\cellsAt w b o cells):=by
  obtain⟨cells,a,h2,h3⟩:=f;rcases a.2 with⟨rfl,hn⟩|⟨g,cap,cur,rfl,hg,hh,hnc,hcm,hcs,hcur⟩
  . have:xs=[]:=B2 hn;subst this;exact⟨none,0,[],rfl,V2 _,by omega,rfl,λf=>by simp at f⟩
  . refine⟨_,cap,cells,rfl,hnc,by simpa[maxLen]using hcm,h2,λd=>⟨g,0,rfl,GL λj u hu=>?_⟩⟩;have hj:j<xs.length*Rp.size α:=(by rw[<- h2.length];exact(C3.1 hu).1);have:cur[j]?=some u:=by
      rw[<- hcur,K3,if_pos hj]at hu;simpa using hu
    simp[World.cell?,hh,this]
def Rd(w:World)(F:Nat->Prop)(v:Value)(xs:List α):Prop :=
  ∃A c cells,v=.slice A xs.length c/\xs.length<=c/\c<=9223372036854775807/\Chunks w F cells xs/\(0<xs.length->∃b o,A=some ⟨b,o,none⟩/\cellsAt w b o cells)
theorem Rw.rd(a:Rw i w O e v xs):Rd w (Fr 0 w O) v xs:=a.1.chunk
theorem Vb.rd{F:Nat->Prop}(d:Vb w F v xs):Rd w F v xs:=by
  obtain⟨A,c,cells,h1,h2,h3,h4,h5⟩:=d.slice;exact⟨A,c,cells,h1,h2,h3,h4,λa=>by obtain⟨b,o,h6,_,h7⟩:=h5 a;exact⟨b,o,h6,h7⟩⟩
theorem Rw.form(a:Rw i w O e v xs):∃A c,v=.slice A xs.length c:=by
  obtain⟨A,c,_,h1,_⟩:=a.rd;exact⟨A,c,h1⟩
theorem Rw.len{A:Option Addr}{m c:Nat}(g:Rw i w O e (.slice A m c) xs):m=xs.length/\m<=c/\c<=9223372036854775807:=by
  obtain⟨d,c',_,h1,h2,h3,_⟩:=g.rd;injection h1 with f a b;subst a;subst b;exact⟨rfl,h2,h3⟩
theorem Rw.relen{A:Option Addr}{m c:Nat}(a:Rw i w O e (.slice A m c) xs):Rw i w O e (.slice A xs.length c) xs:=by
  have:=a.len.1;subst this;exact a
theorem Vb.relen{F:Nat->Prop}{A:Option Addr}{m c:Nat}(a:Vb w F (.slice A m c) xs):Vb w F (.slice A xs.length c) xs:=by
  have:=a.len.1;subst this;exact a
theorem Rw.elem{A:Option Addr}{m c:Nat}(n:Rw i w O e (.slice A m c) xs){k:Nat}{x:α}(d:xs[k]?=some x) :
    ∃b o cs,A=some ⟨b,o,none⟩/\k<m/\cellsAt w b (o+k*Rp.size α) cs/\Rp.R w (Fr 0 w O) cs x:=by
  obtain⟨l,c',cells,he,h1,h2,h3,h4⟩:=n.rd;injection he with f g h;subst f;subst g;subst h;have hk:k<xs.length:=(C3.1 d).1;obtain⟨b,o,h5,h7⟩:=h4 (by omega);obtain⟨j,cs,post,h8,h9,h10⟩:=h3.get d;rw[h8]at h7;have a:=(Dt.1 (Dt.1 h7).2).1;rw[h9]at a;exact⟨b,o,cs,h5,hk,a,h10⟩
theorem Rw.elemF{A:Option Addr}{m c:Nat}(h:Rw i w O e (.slice A m c) xs){k:Nat}{x:α}(f:xs[k]?=some x) :
    ∃b o cs,A=some ⟨b,o,none⟩/\Fr i w O b/\k<m/\cellsAt w b (o+k*Rp.size α) cs/\Rp.R w (Fr 0 w O) cs x:=by
  obtain⟨b,o,cs,h1,h2,h3,h4⟩:=h.elem f;refine⟨b,o,cs,h1,?_,h2,h3,h4⟩;subst h1;obtain⟨g,cap,cells,sp,hv,_⟩:=h.1.open (by have:=(C3.1 f).1;omega);injection hv with a;injection a with a;injection a with a d;subst d;exact⟨(h.1.lt b rfl).2,h.2.1 b rfl⟩
theorem Vb.elem'{F:Nat->Prop}{A:Option Addr}{m c:Nat}(d:Vb w F (.slice A m c) xs){k:Nat}{x:α}(a:xs[k]?=some x) :
    ∃b o cs,A=some ⟨b,o,none⟩/\k<m/\cellsAt w b (o+k*Rp.size α) cs/\Rp.R w F cs x:=by
  obtain⟨b,o,cs,h1,_,h3,h4,h5⟩:=d.elem a;exact⟨b,o,cs,h1,h3,h4,h5⟩
theorem vMo{α:Type}[Rp α]{w:World}{O:Lab}{v:Value}{x:α}(a:Vb w (Fr 0 w O) v x):Vb w (All w) v x:=a.mono Fr.lt
theorem W3(n:Int)(a:W1 n:=by decide):W1 n:=a
theorem Rw.all(a:Rw i w O e v xs):Vb w (All w) v xs:=a.1.vb.mono λk hk=>by
  rcases hk with hk|hk
  . exact hk.1
  . exact(a.1.lt k hk).2
def Lc(i:Nat)(w:World)(O:Lab)(g:Nat)(t:TypeId)(cs:List Value):Prop:=Blk w g t cs/\O g=i
theorem Lc.st{g:Nat}{t:TypeId}{cs:List Value}(b:Lc i w O g t cs)(a:St T w O w' O')(hi:¬T i:=by decide):Lc i w' O' g t cs:=by
  have:=a.same g b.1.lt (by rw[b.2];exact hi);exact⟨b.1.keep this.1,this.2.trans b.2⟩
structure Bs(w0:World)(A:Nat->Prop)(w:World)(O:Lab):Prop where
  ext:Ext w0 w
  lab:∀k,k<w0.heap.size->A k/\O k=0\/¬A k/\O k=1
theorem Bs.st{b:World}{A:Nat->Prop}(f:Bs b A w O)(a:St T w O w' O')(c:¬T 0:=by decide)(d:¬T 1:=by decide):Bs b A w' O':=by
  have hk:∀k,k<b.heap.size->w'.heap[k]?=w.heap[k]?/\O' k=O k:=λk hk =>
    a.same k (K1 hk f.ext.size) (by rcases f.lab k hk with⟨_,e⟩|⟨_,e⟩<;>rw[e]<;>assumption)
  exact⟨⟨a.os.trans f.ext.os,a.tape.trans f.ext.tape,a.output.trans f.ext.output,U8 f.ext.size a.size,λk hlt=>(hk k hlt).1.trans (f.ext.block k hlt)⟩,
    λk hlt=>by rw[(hk k hlt).2];exact f.lab k hlt⟩
theorem enter{A:Nat->Prop}(hA:∀k,A k->k<w.heap.size):∃O,Bs w A w O/\∀k,A k->Fr 0 w O k :=
  ⟨λk=>@ite _ (A k) (Classical.propDecidable _) 0 1,⟨V8 _ _,λk hk=>by
    by_cases a:A k
    . exact .inl ⟨a,if_pos a⟩
    . exact .inr ⟨a,if_neg a⟩⟩,λk hk=>⟨hA k hk,if_pos hk⟩⟩
theorem Vb.zs{A:Nat->Prop}(b:Vb w A v x)(hA:∀k,A k->k<w.heap.size)(a:Bs w A w' O'):Vb w' (Fr 0 w' O') v x :=
  (b.agree λk hk=>a.ext.block k (hA k hk)).mono λk hk=>⟨K1 (hA k hk) a.ext.size,by
    rcases a.lab k (hA k hk)with⟨_,e⟩|⟨e,_⟩
    . exact e
    . exact absurd hk e⟩
theorem Bs.out{a:World}{A:Nat->Prop}(c:Bs a A w O):∀k,Fr 0 w O k->upA A a w k:=λk hk=>by
  rcases T9 k a.heap.size with hlt|hge
  . rcases c.lab k hlt with⟨b,_⟩|⟨_,e⟩
    . exact .inl b
    . have:=hk.2;omega
  . exact .inr ⟨hge,hk.1⟩
def RowR(a w:World)(F:Nat->Prop)(e:TypeId)(v:Value)(xs:List α):Prop:=∃G:Nat->Prop,(∀k,G k->F k/\k<w.heap.size)/\Own w a.heap.size G e v xs
theorem Own.raise{base a:Nat}{F:Nat->Prop}(c:Own w base F e v xs)(hb:∀g,v.ownBlock=some g->a<=g):Own w a F e v xs:=by
  obtain⟨cells,b,h2,h3⟩:=c;refine⟨cells,⟨b.1,?_⟩,h2,h3⟩;rcases b.2 with c|⟨g,cap,cur,rfl,hg,r⟩
  . exact .inl c
  . exact .inr ⟨g,cap,cur,rfl,hb g rfl,r⟩
theorem Rw.out{a:World}{A:Nat->Prop}(d:Rw i w O e v xs)(b:Bs a A w O)(hi:i≠1):RowR a w (upA A a w) e v xs :=
  ⟨Fr 0 w O,λk hk=>⟨b.out k hk,hk.1⟩,d.1.raise λg c=>by
    rcases T9 g a.heap.size with hlt|hge
    . have:=d.2.1 g c;have:=d.2.2;rcases b.lab g hlt with⟨_,e⟩|⟨_,e⟩<;>omega
    . exact hge⟩
theorem RowR.nil{a:World}{F:Nat->Prop}:RowR (α:=α) a w F e (.slice none 0 0) []:=⟨λ_=>False,λ_ b=>b.elim,Own.nil _ _ _ _⟩
theorem Rw.freeze(a:Rw i w O e v xs):∃O',St (eT i) w O w O'/\Vb w (Fr 0 w O') v xs:=by
  refine⟨λk=>if O k=i then 0 else O k,⟨rfl,rfl,rfl,V2 _,λk _ hk=>⟨rfl,if_neg hk⟩⟩,a.1.vb.mono λk hk=>?_⟩;rcases hk with hk|hk
  . exact⟨hk.1,by simp[hk.2]⟩
  . exact⟨(a.1.lt k hk).2,if_pos (a.2.1 k hk)⟩
def Vall(w:World)(F:Nat->Prop):List Value->List α->Prop
  |[],[]=>True
  |v::vs,x::xs=>Vb w F v x/\Vall w F vs xs
  |_,_=>False
theorem Vall.chunks{F:Nat->Prop}:∀{vs:List Value}{xs:List α},Vall w F vs xs->vs.length=xs.length/\Chunks w F (vs.flatMap λv=>v.cells.toList) xs/\∀v∈vs,v.cells.toList.length=Rp.size α
  |[],[],_=>⟨rfl,rfl,λ_ b=>by cases b⟩
  |[],_::_,b=>b.elim
  |_::_,[],b=>b.elim
  |v::vs,x::xs,b=>by
    obtain⟨a,h2,h3⟩:=Vall.chunks b.2;refine⟨by simp[a],⟨v.cells.toList,_,by simp,b.1.cells,h2⟩,λu hu=>?_⟩;rcases S0.1 hu with rfl|hu
    . exact Rp.len b.1.cells
    . exact h3 u hu
theorem Vb.int{F:Nat->Prop}{n:Int}(b:Vb w F v n):v=.int .i64 n/\W1 n:=by
  obtain⟨a,h2⟩:=b;exact⟨by simpa using a,h2⟩
theorem Vb.bool{F:Nat->Prop}{b:Bool}(a:Vb w F v b):v=.bool b:=by
  have:[v]=[.bool b]:=a;simpa using this
theorem Vb.str{F:Nat->Prop}{s:ByteArray}(b:Vb w F v s):v=.string s/\s.size<=9223372036854775807:=by
  obtain⟨a,h2⟩:=b;exact⟨by simpa using a,h2⟩
theorem Vb.ofAgg{F:Nat->Prop}{cs:List Value}(hb:Rp.isAgg α=true)(a:Rp.R w F cs x):Vb w F (.agg cs.toArray) x:=by
  unfold Vb;rw[hb];exact⟨cs,rfl,a⟩
theorem vInt{F:Nat->Prop}{n:Int}(a:W1 n):Vb w F (.int .i64 n) n:=⟨rfl,a⟩
theorem vBool{F:Nat->Prop}{b:Bool}:Vb w F (.bool b) b:=rfl
theorem vStr{F:Nat->Prop}{s:ByteArray}(a:s.size<=9223372036854775807):Vb w F (.string s) s:=⟨rfl,a⟩
end
def T2{α β:Type}[Rp α][Rp β](w:World)(F:Nat->Prop)(v:Value)(r:α×β):Prop:=∃a b,v=.tuple #[a,b]/\Vb w F a r.1/\Vb w F b r.2
def T3{α β d:Type}[Rp α][Rp β][Rp d](w:World)(F:Nat->Prop)(v:Value)(r:α×β×d):Prop:=∃a b c,v=.tuple #[a,b,c]/\Vb w F a r.1/\Vb w F b r.2.1/\Vb w F c r.2.2
def upO(O:Lab)(n:Nat)(f:Lab):Lab:=λk=>if k<n then O k else f k
theorem Own.rw{α:Type}[Rp α]{i base:Nat}{w:World}{F:Nat->Prop}{O:Lab}{e:TypeId}{v:Value}{xs:List α}(d:Own w base F e v xs)(b:∀k,F k->Fr 0 w O k)(a:∀g,v.ownBlock=some g->O g=i)(hi:i≠0):Rw i w O e v xs :=
  ⟨(d.lower (V5 _)).mono b λg c hf=>hi ((a g c).symm.trans hf.2),a,hi⟩
theorem Fh{O:Lab}{n k:Nat}{f:Lab}(a:n<=k):upO O n f k=f k:=if_neg (by omega)
theorem Ex{O:Lab}{n k:Nat}{f:Lab}(a:k<n):upO O n f k=O k:=if_pos a
theorem Xo{w w':World}{O:Lab}(a:Ext w w'):upA (Fr 0 w O) w w'=Fr 0 w' (upO O w.heap.size λ_=>0):=by
  funext k;apply propext;constructor
  . rintro(h|h)
    . exact⟨K1 h.1 a.size,(Ex h.1).trans h.2⟩
    . exact⟨h.2,Fh h.1⟩
  . intro h;rcases T9 k w.heap.size with hlt|hge
    . exact .inl ⟨hlt,(Ex hlt).symm.trans h.2⟩
    . exact .inr ⟨hge,h.1⟩
theorem AcN(z:Value)(n:Nat)(hz:z.cells=#[z]):(madeCells z.cells (n*1)).toList=List.replicate n z:=by
  rw[hz,V6];apply List.ext_getElem
  . simp[madeCells]
  . intro i a b;simp[madeCells,Nat.mod_one]
theorem Ext.st{w w':World}(a:Ext w w')(O f:Lab):St nT w O w' (upO O w.heap.size f) :=
  ⟨a.os,a.tape,a.output,a.size,λk hk _=>⟨a.block k hk,Ex hk⟩⟩
theorem New.lc{w w':World}{t:TypeId}{cs:List Value}(a:New w w' t cs)(O:Lab)(i:Nat):St nT w O w' (upO O w.heap.size λ_=>i)/\Lc i w' (upO O w.heap.size λ_=>i) w.heap.size t cs :=
  ⟨a.ext.st O _,a.blk,Fh (V2 _)⟩
theorem Upd.st{w w':World}{g i:Nat}{t:TypeId}{cs:List Value}{O:Lab}(b:Upd w w' g t cs)(a:O g=i):St (eT i) w O w' O :=
  ⟨b.os,b.tape,b.output,U6 b.size.symm,λk _ hk=>⟨b.other k λe=>hk (by rw[e];exact a),rfl⟩⟩
section
variable {P:Program}{n:Nat}{ops:Array Oper}{Q:X0}{rest:List Oper}{l:Env}{w:World}{d d1 d2:Tmp}{ty ty2:TypeId}{pos pos2:String}{aft aft2:Array Edge}
theorem BL(i:Nat)(O:Lab){t:TypeId}{z:Value}{size bytes:Nat}[TInfo P t z size bytes]
    (b:∀g w' O',St nT w O w' O'->Lc i w' O' g t z.cells.toList->owp P n ops Q rest ((d,.pointer (some ⟨g,0,none⟩))::l) w') (hd:Nat.blt d n=true:=by exact rfl):owp P n ops Q (⟨some d,.alloc t,ty,pos,aft,none⟩::rest) l w :=
  Gk hd λw' a=>b _ w' _ (a.lc O i).1 (a.lc O i).2
theorem Ea(i:Nat)(O:Lab){t:TypeId}{x:Operand}{v:Value}(b:opv l x=some v)
    (c:∀g w' O',St nT w O w' O'->Lc i w' O' g t v.cells.toList->owp P n ops Q rest ((d,.pointer (some ⟨g,0,none⟩))::l) w') (hd:Nat.blt d n=true:=by exact rfl):owp P n ops Q (⟨some d,.box t x,ty,pos,aft,none⟩::rest) l w :=
  FC b (hd:=hd) λw' a=>c _ w' _ (a.lc O i).1 (a.lc O i).2
theorem AR{i:Nat}{O:Lab}{t:TypeId}{z:Value}{size bytes:Nat}[TInfo P t z size bytes]{x y:Operand}{g o:Nat}{c:TypeId}{v:Value}{cs:List Value}(a:Lc i w O g c cs)(e:opv l x=some (.pointer (some ⟨g,o,none⟩)))(f:opv l y=some v)
    (b:v.cells.toList.length=size) (hl:o+size<=cs.length) (h:∀u∈v.cells.toList,u.oneCell'=true)
    (j:∀w',St (eT i) w O w' O->Lc i w' O g c (W9 cs o v.cells.toList)->owp P n ops Q rest l w'):owp P n ops Q (⟨none,.store t x y,ty,pos,aft,none⟩::rest) l w :=
  CL e f a.1 b hl h λw' d=>j w' (d.st a.2) ⟨d.blk,a.2⟩
theorem CW{α:Type}[Rp α](i:Nat)  (O:Lab) {t e:TypeId} [TSlice P t e] {z:Value} {size bytes a:Nat} [TInfo P e z size bytes] {ps:List (Nat×Operand)} {vs:List Value} {xs:List α} (b:size=Rp.size α)  (h:X5 l (ps.map (·.2))=some vs) (c:a=xs.length)
    (j:Vall w (Fr 0 w O) vs xs)
    (q:∀g w' O',St nT w O w' O'->Rw i w' O' e (.slice (some ⟨g,0,none⟩) xs.length a) xs->owp P n ops Q rest ((d,.slice (some ⟨g,0,none⟩) xs.length a)::l) w') (hi:i≠0:=by decide) (hk:Aac 0 ps=true:=by exact rfl) (hz:a*size<=16777216:=by decide) (hm:a<=9223372036854775807:=by decide) (hd:Nat.blt d n=true:=by exact rfl):owp P n ops Q (⟨some d,.buildSlice t a ps.toArray,ty,pos,aft,none⟩::rest) l w:=by
  subst b;subst c;obtain⟨k,h2,h3⟩:=j.chunks;refine FQ (hk:=hk) h k h3 (hz:=hz) hd λw' f=>q _ w' _ (f.ext.st O λ_=>i) ?_;have m:=f.ext.st O λ_=>i;have o:Own w' w.heap.size (Fr 0 w O) e (.slice (some ⟨w.heap.size,0,none⟩) xs.length xs.length) xs:=Own.made f (h2.agree (f.ext.agree Fr.lt)) rfl (λq=>T0 _ q.1) hm;exact o.rw (m.fr (λq=>q)) (λg p=>by
    have:w.heap.size=g:=(by simpa[Value.ownBlock]using p);subst this;exact Fh (V2 _)) hi
theorem LL{α:Type}[Rp α](i:Nat)  (O:Lab) {t e:TypeId} [TSlice P t e] {z:Value} {size bytes:Nat} [TInfo P e z size bytes] {x y:Operand} {k p:IntKind} {m:Nat} {a:Int} {z0:α} (b:size=Rp.size α) (q:Rp.size α=1) (hz1:z.cells=#[z]) (r:opv l x=some (.int k a)) (s:opv l y=some (.int p a)) (u:a=(m:Int))
    (hz0:Vb w (Fr 0 w O) z z0) (hm:bytes*m<=281474976710656) (c:m<=9223372036854775807) (hd:Nat.blt d n=true)
    (D:∀g w' O',St nT w O w' O'->Rw i w' O' e (.slice (some ⟨g,0,none⟩) (List.replicate m z0).length m) (List.replicate m z0)->owp P n ops Q rest ((d,.slice (some ⟨g,0,none⟩) (List.replicate m z0).length m)::l) w') (hi:i≠0:=by decide):owp P n ops Q (⟨some d,.makeSlice t x y,ty,pos,aft,none⟩::rest) l w:=by
  subst b;subst u;refine Ng r s hm c hd λw' f=>?_;have o:=f.ext.st O λ_=>i;have hc:(madeCells z.cells (m*Rp.size α)).toList=List.replicate m z:=(by rw[q];exact AcN z m hz1);rw[hc]at f;have v:Rp.R w (Fr 0 w O) [z] z0:=by
    have:=hz0.cells;rwa[hz1]at this
  have h:∀j,Chunks w (Fr 0 w O) (List.replicate j z) (List.replicate j z0):=λj=>by
    induction j with
    |zero=>rfl
    |succ j A=>exact⟨[z],List.replicate j z,rfl,v,A⟩
  have B:Own w' w.heap.size (Fr 0 w O) e (.slice (some ⟨w.heap.size,0,none⟩) m m) (List.replicate m z0):=Own.made f ((h m).agree (f.ext.agree Fr.lt)) (by simp) (λD=>T0 _ D.1) c;have:=D _ w' _ o (by
    rw[F7];exact B.rw (o.fr (λD=>D)) (λg C=>by
      have:w.heap.size=g:=(by simpa[Value.ownBlock]using C);subst this;exact Fh (V2 _)) hi)
  rwa[F7]at this
theorem DH{α:Type}[Rp α]{i:Nat}{O:Lab}{t e:TypeId}[TSlice P t e]{z:Value}{size bytes:Nat}[TInfo P e z size bytes](b:size=Rp.size α){x y:Operand}{v u:Value}{xs ys:List α}(h:Rw i w O e v xs)(hu:Rd w (Fr 0 w O) u ys)(o:opv l x=some v)(p:opv l y=some u)
     (hb:(xs.length+ys.length)*bytes<=140737488355328) (j:xs.length+ys.length<=9223372036854775807)
    (C:∀A c w' O',St (eT i) w O w' O'->Rw i w' O' e (.slice A (xs++ys).length c) (xs++ys)->owp P n ops Q rest ((d,.slice A (xs++ys).length c)::l) w') (hz0:0<size:=by decide) (hd:Nat.blt d n=true:=by exact rfl) :
    owp P n ops Q (⟨some d,.call { callee:=.builtin .append,args:=#[x,y],argTypes:=#[t,t] },ty,pos,aft,none⟩::rest) l w:=by
  subst b;obtain⟨A,c,cells,rfl,h1,h2,h3,h4⟩:=hu;refine Hh o p h.1 Fr.lt (V5 _) h3 h4 hz0 hb j hd λB w' m f hat=>?_;have q:St (eT i) w O w' (upO O w.heap.size λ_=>i):=⟨f.os,f.tape,f.output,f.size,λk hk r=>⟨f.block k hk λhe=>r (h.2.1 k he.symm),Ex hk⟩⟩;obtain⟨s,c',_,rfl,_⟩:=m.chunk;refine C s c' w' _ q (m.rw (λk hk=>⟨K1 hk.1 f.size,(Ex hk.1).trans hk.2⟩) (λg a=>?_) h.2.2);rcases hat with hat|hat
  . exact(Ex (h.1.lt g (hat▸a)).2).trans (h.2.1 g (hat▸a))
  . rw[hat]at a;injection a with a;subst a;exact Fh (V2 _)
theorem Dl{α:Type}[Rp α]{i:Nat}{O:Lab}{t e:TypeId}[TSlice P t e]{z:Value}{size bytes:Nat}[TInfo P e z size bytes](f:size=Rp.size α){x y:Operand}{v u:Value}{xs:List α}{a:α}(m:Rw i w O e v xs)(hu:Vb w (Fr 0 w O) u a)
    (o:∀g,opv ((d1,.slice (some ⟨g,0,none⟩) 1 1)::l) x=some v) (p:opv l y=some u)
      (hb:(xs.length+[a].length)*bytes<=140737488355328) (h:xs.length+[a].length<=9223372036854775807) (hd:Nat.blt d1 n=true/\Nat.blt d2 n=true)
    (H:∀g A c w' O',St (eT i) w O w' O'->Rw i w' O' e (.slice A (xs++[a]).length c) (xs++[a])->owp P n ops Q rest ((d2,.slice A (xs++[a]).length c)::(d1,.slice (some ⟨g,0,none⟩) 1 1)::l) w') (hz0:0<size:=by decide) (hz1:size<=1000:=by decide) :
    owp P n ops Q (⟨some d1,.buildSlice t 1 #[(0,y)],ty,pos,aft,none⟩::⟨some d2,.call { callee:=.builtin .append,args:=#[x,.tmp d1],argTypes:=#[t,t] },ty2,pos2,aft2,none⟩::rest) l w:=by
  subst f;have hi:=m.2.2;refine CW (i+1) (hi:=(by omega)) O (ps:=[(0,y)]) (vs:=[u]) (xs:=[a]) rfl (by simp[X5,p]) rfl ⟨hu,trivial⟩ (hz:=(by omega)) (hm:=(by omega)) (hd:=hd.1) λg F G b q=>?_;have j:=m.st b (λH=>H) (λH=>H);refine DH rfl j q.rd (o g) (by simp[opv,lk]) (hz0:=hz0) hb h (hd:=hd.2) λA c r s d B=>H g A c r s ?_ B;refine⟨d.os.trans b.os,d.tape.trans b.tape,d.output.trans b.output,U8 b.size d.size,λk hk C=>?_⟩;obtain⟨D,e2⟩:=b.same k hk (λH=>H);obtain⟨E,e4⟩:=d.same k (K1 hk b.size) (by rw[e2];exact C);exact⟨E.trans D,e4.trans e2⟩
theorem Yk{α:Type}[Rp α]{i:Nat}{O:Lab}{t e:TypeId}{z:Value}{size bytes:Nat}[TInfo P t z size bytes](f:size=Rp.size α){x y:Operand}{b o k m c:Nat}{u:Value}{a:α}{xs:List α}(g:Rw i w O e (.slice (some ⟨b,o,none⟩) m c) xs)(hu:Vb w (Fr 0 w O) u a)
    (q:opv l x=some (.pointer (some ⟨b,o+k*size,none⟩))) (r:opv l y=some u) (hk:k<xs.length)
    (D:∀w',St (eT i) w O w' O->Rw i w' O e (.slice (some ⟨b,o,none⟩) m c) (xs.set k a)->owp P n ops Q rest l w'):owp P n ops Q (⟨none,.store t x y,ty,pos,aft,none⟩::rest) l w:=by
  obtain⟨C,cap,cells,sp,hv,_⟩:=g.1.open (by omega);injection hv with d s v;injection d with d;injection d with d j;subst j;refine MQ f q r g.1 hk hu λw' A h hz=>?_;have p:St (eT i) w O w' O:=⟨h.os,h.tape,h.output,h.size,λk hk B=>⟨h.block k hk λhe=>B (g.2.1 k he),rfl⟩⟩;exact D w' p (A.rw (p.fr (λD=>g.2.2 D.symm)) g.2.1 g.2.2)
theorem Fe{α:Type}[Rp α]{i:Nat}{O:Lab}{t e:TypeId}{z:Value}{size bytes:Nat}[TInfo P t z size bytes](d:size=Rp.size α){x y:Operand}{b o k m c:Nat}{A:Option Addr}{u:Value}{a:α}{xs:List α}(f:Rw i w O e (.slice A m c) xs)(hu:Vb w (Fr 0 w O) u a)(hA:A=some ⟨b,o,none⟩)
    (g:opv l x=some (.pointer (some ⟨b,o+k*size,none⟩))) (h:opv l y=some u) (hk:k<xs.length)
    (j:∀w',St (eT i) w O w' O->Rw i w' O e (.slice A m c) (xs.set k a)->owp P n ops Q rest l w'):owp P n ops Q (⟨none,.store t x y,ty,pos,aft,none⟩::rest) l w:=by
  subst hA;exact Yk d f hu g h hk j
theorem LA:∀(vs c r:List Value)(k:Nat),W9 (c++r) (c.length+k) vs=c++W9 r k vs
  |[],_,_,_=>rfl
  |v::vs,c,r,k=>by
    simp only[W9];rw[F6 _ _ (by omega),show c.length+k-c.length=k from by omega,show c.length+k+1=c.length+(k+1)from by omega,LA vs]
theorem LM{α:Type}[Rp α]{i:Nat}{O:Lab}{t e:TypeId}{z:Value}{size bytes:Nat}[TInfo P t z size bytes]{x y:Operand}{b o k off m c:Nat}{A:Option Addr}{u:Value}{a a':α}{xs:List α}(g:Rw i w O e (.slice A m c) xs)(hA:A=some ⟨b,o,none⟩)(hk:xs[k]?=some a)
    (L:opv l x=some (.pointer (some ⟨b,o+k*Rp.size α+off,none⟩))) (M:opv l y=some u) (p:u.cells.toList.length=size) (H:off+size<=Rp.size α) (N:∀v∈u.cells.toList,v.oneCell'=true)
    (h:∀I,Rp.R w (Fr 0 w O) I a->Rp.R w (Fr 0 w O) (W9 I off u.cells.toList) a')
    (V:∀w',St (eT i) w O w' O->Rw i w' O e (.slice A m c) (xs.set k a')->owp P n ops Q rest l w'):owp P n ops Q (⟨none,.store t x y,ty,pos,aft,none⟩::rest) l w:=by
  subst hA;have q:k<xs.length:=(C3.1 hk).1;obtain⟨U,cap,cells,sp,hv,hg,hF,hb,hc,hl,r,s,hlen⟩:=g.1.open (by omega);injection hv with d B C;injection d with d;injection d with d D;subst d;subst B;subst C;subst D;obtain⟨f,cs,post,e1,e2,J⟩:=hc.get hk;have S:=Rp.len J;have E:W9 (cells++sp) (0+k*Rp.size α+off) u.cells.toList=W9 cells (k*Rp.size α) (W9 cs off u.cells.toList)++sp:=by
    have T:W9 (f++(cs++post)) f.length (W9 cs off u.cells.toList)=f++(W9 cs off u.cells.toList++post):=Gt _ _ _ _ (by rw[GA]);rw[e1,<- e2,T,U4,L8,L8,LA,GX _ _ _ _ (by omega)];simp
  refine CL L M hb p (by rw[K0,e1,K0,K0];omega) N λw' j=>?_;rw[E]at j;have G:Agree (Fr 0 w O) w w':=j.agree hF;have K:St (eT i) w O w' O:=j.st (g.2.1 b rfl);refine V w' K (Own.rw (base:=0) (F:=Fr 0 w O) ?_ (K.fr (λV=>g.2.2 V.symm)) g.2.1 g.2.2);have:=Own.close (w:=w') (cap:=c) hg hF j.blk ((hc.set q (h cs J)).agree G) (by simpa using r) s (by rw[K0,GA,<- K0];exact hlen);rwa[Q7]at this
theorem Ey{f:FuncId}[Callable P f]{xs:List Operand}{vs:List Value}{b:Array TypeId}{O:Lab}{R:World->(Nat->Prop)->Value->Prop}(hc:Fn P f vs w λv w'=>Ext w w'/\R w' (upA (Fr 0 w O) w w') v)(c:X5 l xs=some vs)
    (e:∀v w' O',St nT w O w' O'->R w' (Fr 0 w' O') v->owp P n ops Q rest ((d,v)::l) w') (hd:Nat.blt d n=true:=by exact rfl):owp P n ops Q (⟨some d,.call { callee:=.value (.func f),args:=xs.toArray,argTypes:=b },ty,pos,aft,none⟩::rest) l w :=
  By c (hd:=hd) hc λv w' ⟨a,hR⟩=>e v w' (upO O w.heap.size λ_=>0) (a.st O _) (by rwa[Xo a]at hR)
theorem Sd{α:Type}[Rp α]{r:α}{f:FuncId}[Callable P f]{xs:List Operand}{vs:List Value}{a:Array TypeId}{O:Lab}(hc:Fn P f vs w λv w'=>Ext w w'/\Vb w' (upA (Fr 0 w O) w w') v r)(b:X5 l xs=some vs)(hd:Nat.blt d n=true)
    (c:∀v w' O',St nT w O w' O'->Vb w' (Fr 0 w' O') v r->owp P n ops Q rest ((d,v)::l) w'):owp P n ops Q (⟨some d,.call { callee:=.value (.func f),args:=xs.toArray,argTypes:=a },ty,pos,aft,none⟩::rest) l w :=
  Ey (R:=λw' F v=>Vb w' F v r) hc b (hd:=hd) c
theorem Ip{f:FuncId}[Callable P f]{xs:List Operand}{vs:List Value}{a:Array TypeId}{O:Lab}{A:Nat->Prop}{R:World->(Nat->Prop)->Value->Prop}(hc:Fn P f vs w λv w'=>Ext w w'/\R w' (upA A w w') v)(b:X5 l xs=some vs)(hd:Nat.blt d n=true)
    (e:∀v w' O',St nT w O w' O'->R w' (upA A w w') v->owp P n ops Q rest ((d,v)::l) w'):owp P n ops Q (⟨some d,.call { callee:=.value (.func f),args:=xs.toArray,argTypes:=a },ty,pos,aft,none⟩::rest) l w :=
  By b (hd:=hd) hc λv w' ⟨c,hR⟩=>e v w' (upO O w.heap.size λ_=>0) (c.st O _) hR
theorem BO{α:Type}[Rp α]{r:α}{f:FuncId}[Callable P f]{xs:List Operand}{vs:List Value}{a:Array TypeId}{O:Lab}(hc:Fn P f vs w λv w'=>Ext w w'/\Vb w' (upA (All w) w w') v r)(b:X5 l xs=some vs)
    (c:∀v w' O',St nT w O w' O'->Vb w' (upA (All w) w w') v r->owp P n ops Q rest ((d,v)::l) w') (hd:Nat.blt d n=true:=by exact rfl):owp P n ops Q (⟨some d,.call { callee:=.value (.func f),args:=xs.toArray,argTypes:=a },ty,pos,aft,none⟩::rest) l w :=
  Ip (A:=All w) (R:=λw' F v=>Vb w' F v r) hc b hd c
theorem Nl{f:FuncId}[Callable P f]{y:Operand}{xs:List Operand}{vs:List Value}{b:Array TypeId}{O:Lab}{A:Nat->Prop}{R:World->(Nat->Prop)->Value->Prop}(hc:Fn P f vs w λv w'=>Ext w w'/\R w' (upA A w w') v)(c:opv l y=some (.func (.func f) #[] #[]))(e:X5 l xs=some vs)(hd:Nat.blt d n=true)
    (g:∀v w' O',St nT w O w' O'->R w' (upA A w w') v->owp P n ops Q rest ((d,v)::l) w'):owp P n ops Q (⟨some d,.call { callee:=.value y,args:=xs.toArray,argTypes:=b },ty,pos,aft,none⟩::rest) l w :=
  Kf (caps:=[]) (R:=λv w'=>Ext w w'/\R w' (upA A w w') v) c e hd (by rw[Q5];exact hc) λv w' a=>g v w' (upO O w.heap.size λ_=>0) (a.1.st O _) a.2
theorem Po{f:FuncId}[Callable P f]{xs:List Operand}{vs:List Value}{a:Array TypeId}{O:Lab}{i:Nat}{R:World->Lab->Prop}(hc:Fn P f vs w λ_ w'=>∃O',St (eT i) w O w' O'/\R w' O')(b:X5 l xs=some vs)(hd:Nat.blt d n=true)
    (c:∀v w' O',St (eT i) w O w' O'->R w' O'->owp P n ops Q rest ((d,v)::l) w'):owp P n ops Q (⟨some d,.call { callee:=.value (.func f),args:=xs.toArray,argTypes:=a },ty,pos,aft,none⟩::rest) l w :=
  By b (hd:=hd) hc λv w' ⟨O',hS,hR⟩=>c v w' O' hS hR
theorem DF{α:Type}[Rp α](i:Nat)  {f:FuncId} [Callable P f] {xs:List Operand} {vs:List Value} {j:Array TypeId} {O:Lab} {e:TypeId} {r:List α} (hc:Fn P f vs w λv w'=>Ext w w'/\RowR w w' (upA (Fr 0 w O) w w') e v r) (m:X5 l xs=some vs)
    (q:∀A c w' O',St nT w O w' O'->Rw i w' O' e (.slice A r.length c) r->owp P n ops Q rest ((d,.slice A r.length c)::l) w') (hi:i≠0:=by decide) (hd:Nat.blt d n=true:=by exact rfl):owp P n ops Q (⟨some d,.call { callee:=.value (.func f),args:=xs.toArray,argTypes:=j },ty,pos,aft,none⟩::rest) l w :=
  By m (hd:=hd) hc λv w' ⟨o,G,b,ho⟩=>by
    obtain⟨A,c,_,rfl,_⟩:=ho.chunk;have p:=o.st O λk=>if(Value.slice A r.length c).ownBlock=some k then i else 0;refine q A c w' _ p ⟨(ho.lower (V5 _)).mono (λk hk=>⟨(b k hk).2,?_⟩) (λg a hf=>?_),λg a=>?_,hi⟩
    . obtain⟨_,_,_,hno⟩:=ho;rcases(b k hk).1 with h1|h1
      . exact(Ex h1.1).trans h1.2
      . rw[Fh h1.1,if_neg λhe=>hno k he hk]
    . have h1:=(ho.lt g a).1;have h:=hf.2;rw[Fh h1,if_pos a]at h;exact hi h
    . rw[Fh (ho.lt g a).1,if_pos a]
end
end
section
open Go Go.RowKit
def bnd{α β:Type}(x:Option α)(f:α->Option β):Option β:=match x with
  |some a=>f a
  |none=>none
theorem At{α β:Type}(a:α)(f:α->Option β):bnd (some a) f=f a:=rfl
theorem bs{α β:Type}{x:Option α}{f:α->Option β}{r:β}(b:bnd x f=some r):∃a,x=some a/\f a=some r:=by
  cases x with
  |none=>cases b
  |some a=>exact⟨a,rfl,b⟩
theorem iT{α:Type}{x y r:α}(a:(if true=true then x else y)=r):x=r:=a
theorem iF{α:Type}{x y r:α}(a:(if false=true then x else y)=r):y=r:=a
theorem ip{α:Type}{p:Prop}[Decidable p]{x y r:α}(b:(if p then x else y)=r)(a:p):x=r:=by rwa[if_pos a]at b
theorem im{α:Type}{p:Prop}[Decidable p]{x y r:α}(b:(if p then x else y)=r)(a:¬p):y=r:=by rwa[if_neg a]at b
theorem im'{α:Type}{b:Bool}{x y r:α}(c:(if b=true then x else y)=r)(a:b=false):y=r:=by rwa[a]at c
theorem FV{α:Type}{p:Prop}[Decidable p]{x y:α}(b:(if p then some x else none)=some y):p/\x=y:=by
  by_cases a:p
  . rw[if_pos a]at b;exact⟨a,Q1 b⟩
  . rw[if_neg a]at b;cases b
theorem sm{α:Type}{x y:α}(a:some x=some y):x=y:=Q1 a
instance decI64(a:Int):Decidable (W1 a):=by unfold W1;exact inferInstance
def W5(a:Int):Option Int:=if W1 a then some a else none
theorem Kg{a r:Int}(b:W5 a=some r):a=r/\W1 a:=by
  unfold W5 at b;split at b
  . exact⟨sm b,by assumption⟩
  . cases b
theorem Bh{a r:Int}(b:W5 a=some r):W1 r:=by
  obtain⟨rfl,h2⟩:=Kg b;exact h2
theorem Br{a:Int}(b:W1 a):W5 a=some a:=if_pos b
def wr(z:Int):Int:=IntKind.i64.wrap z
theorem TD(z:Int):W1 (wr z):=by
  unfold wr;rw[IntKind.wrap_i64];unfold W1;omega
def atI{α:Type}(xs:List α)(i:Int):Option α:=if 0<=i then xs[i.toNat]? else none
theorem Cn{α:Type}{xs:List α}{i:Int}{x:α}(a:atI xs i=some x):i=(i.toNat:Int)/\xs[i.toNat]?=some x:=by
  unfold atI at a;split at a
  . exact⟨by omega,a⟩
  . cases a
theorem AF{α:Type}{xs:List α}{k:Nat}{x:α}(a:xs[k]?=some x):k<xs.length:=(C3.1 a).1
theorem BD{α:Type}{xs:List α}{j:Nat}:atI xs (j:Int)=xs[j]?:=by unfold atI;rw[if_pos (by omega)];simp
def X6{α:Type}(bytes:Nat)(xs ys:List α):Option (List α):=if(xs.length+ys.length)*bytes<=140737488355328/\xs.length+ys.length<=9223372036854775807 then some (xs++ys)else none
theorem Bw{α:Type}{bytes:Nat}{xs ys r:List α}(a:X6 bytes xs ys=some r):r=xs++ys/\(xs.length+ys.length)*bytes<=140737488355328/\xs.length+ys.length<=9223372036854775807:=by
  unfold X6 at a;split at a
  . rename_i hc;exact⟨(sm a).symm,hc⟩
  . cases a
theorem Cb{α:Type}{bytes:Nat}{xs ys:List α}(a:(xs.length+ys.length)*bytes<=140737488355328)(hb:xs.length+ys.length<=9223372036854775807):X6 bytes xs ys=some (xs++ys):=if_pos ⟨a,hb⟩
def mkI{α:Type}(bytes:Nat)(z:α)(n:Int):Option (List α):=if 0<=n/\bytes*n.toNat<=281474976710656/\n<=9223372036854775807 then some (List.replicate n.toNat z)else none
theorem JG{α:Type}{bytes:Nat}{z:α}{n:Int}{r:List α}(a:mkI bytes z n=some r):∃m:Nat,n=(m:Int)/\bytes*m<=281474976710656/\m<=9223372036854775807/\r=List.replicate m z:=by
  unfold mkI at a;split at a
  . rename_i hc;exact⟨n.toNat,by omega,hc.2.1,by omega,(sm a).symm⟩
  . cases a
theorem LN{α:Type}{bytes:Nat}{z:α}{m:Nat}(b:bytes*m<=281474976710656)(a:m<=9223372036854775807):mkI bytes z (m:Int)=some (List.replicate m z):=by unfold mkI;rw[if_pos ⟨by omega,by simpa using b,by omega⟩];simp
def AaN(a b:Int):Option Int:=if 0<=a/\0<b then some (a%b)else none
theorem Pp{a b r:Int}(c:AaN a b=some r):0<=a/\0<b/\r=a%b:=by
  unfold AaN at c;split at c
  . rename_i hc;exact⟨hc.1,hc.2,(sm c).symm⟩
  . cases c
theorem Wj{a b:Int}(d:0<=a)(c:0<b):AaN a b=some (a%b):=if_pos ⟨d,c⟩
theorem UO{a b:Int}(c:0<=a)(d:0<b)(e:W1 a):W1 (a%b):=by
  have:=Int.emod_nonneg a (show b≠0 by omega);have f:a%b<=a:=by
    rcases Int.lt_or_le a b with h|h
    . rw[Int.emod_eq_of_lt c h];exact V4 _
    . have:=Int.emod_lt_of_pos a d;omega
  unfold W1 at *;omega
theorem Wk{a b r:Int}(e:AaN a b=some r)(c:W1 a):W1 r:=by
  obtain⟨d,h2,rfl⟩:=Pp e;exact UO d h2 c
def Ab3(a b:Int):Option Int:=if 0<=a/\0<b then some (a/b)else none
theorem TE{a b r:Int}(c:Ab3 a b=some r):0<=a/\0<b/\r=a/b:=by
  unfold Ab3 at c;split at c
  . rename_i hc;exact⟨hc.1,hc.2,(sm c).symm⟩
  . cases c
theorem UP{a b:Int}(c:0<=a)(d:W1 a)(hb:0<b):W1 (a/b):=by
  have:=Int.ediv_le_self b c;have:=Int.ediv_nonneg c (show 0<=b by omega);unfold W1 at *;omega
theorem Wl{a b r:Int}(e:Ab3 a b=some r)(c:W1 a):W1 r:=by
  obtain⟨d,h2,rfl⟩:=TE e;exact UP d c h2
def Ab8(s:ByteArray)(q:Int):Option Int:=if h:0<=q/\q.toNat<s.size then some ((s[q.toNat]'h.2).toNat:Int)else none
theorem TF{s:ByteArray}{q c:Int}(a:Ab8 s q=some c):∃j:Nat,q=(j:Int)/\∃hlt:j<s.size,c=((s[j]'hlt).toNat:Int):=by
  unfold Ab8 at a;split at a
  . rename_i hc;exact⟨q.toNat,by omega,hc.2,(sm a).symm⟩
  . cases a
theorem UQ{s:ByteArray}{q c:Int}(a:Ab8 s q=some c):W1 c:=by
  obtain⟨j,_,hlt,rfl⟩:=TF a;have:=UInt8.toNat_lt (s[j]'hlt);unfold W1;omega
theorem OO{α:Type}{p:Option α}(b:p.isNone=false):∃a,p=some a:=by
  cases p with
  |none=>cases b
  |some a=>exact⟨a,rfl⟩
structure Byt where
  n:Int
  lo:0<=n
  hi:n<=255
theorem Byt.rng(x:Byt):W1 x.n:=by have:=x.lo;have:=x.hi;unfold W1;omega
instance:Rp Byt where
  isAgg:=false
  size:=1
  R _ _ cs x:=cs=[.int .u8 x.n]
  len:=by rintro w F cs x rfl;rfl
  one:=by
    rintro w F cs x rfl u hu;have:u=.int .u8 x.n:=(by simpa using hu);subst this;rfl
  agree:=λa _=>a
  mono:=λa _=>a
theorem Vb.byte{w:World}{F:Nat->Prop}{v:Value}{x:Byt}(a:Vb w F v x):v=.int .u8 x.n:=by
  have:[v]=[.int .u8 x.n]:=a;simpa using this
theorem vByte{w:World}{F:Nat->Prop}{x:Byt}:Vb w F (.int .u8 x.n) x:=rfl
class One1(α:Type)[Rp α]:Prop where
  ag:Rp.isAgg α=false
  sz:Rp.size α=1
instance:One1 Byt:=⟨rfl,rfl⟩
instance:One1 Int:=⟨rfl,rfl⟩
def Aa0(a:Int):Option Nat:=if 0<=a then some a.toNat else none
theorem TG{a:Int}{n:Nat}(b:Aa0 a=some n):a=(n:Int):=by
  unfold Aa0 at b;split at b
  . have:=sm b;omega
  . cases b
theorem Wm{n:Nat}:Aa0 (n:Int)=some n:=by unfold Aa0;rw[if_pos (by omega)];simp
theorem rngNat'{n:Nat}(a:W1 (n:Int)):n<=9223372036854775807:=by unfold W1 at a;omega
def Zi{α:Type}(xs:List α)(lo hi:Int):Option (List α):=if 0<=lo/\lo<=hi/\hi<=xs.length then some ((xs.take hi.toNat).drop lo.toNat)else none
theorem Pq{α:Type}{xs r:List α}{lo hi:Int}(c:Zi xs lo hi=some r):∃a b:Nat,lo=(a:Int)/\hi=(b:Int)/\a<=b/\b<=xs.length/\r=(xs.take b).drop a:=by
  unfold Zi at c;split at c
  . rename_i hc;exact⟨lo.toNat,hi.toNat,by omega,by omega,by omega,by omega,(sm c).symm⟩
  . cases c
theorem Se{α:Type}{xs:List α}{a b:Nat}(d:a<=b)(c:b<=xs.length):Zi xs (a:Int) (b:Int)=some ((xs.take b).drop a):=by unfold Zi;rw[if_pos ⟨by omega,by omega,by omega⟩];simp
theorem rngNat{n:Nat}(a:n<=9223372036854775807):W1 (n:Int):=by unfold W1;omega
theorem YV{α:Type}{xs:List α}{k:Nat}{x:α}(a:xs[k]?=some x)(hl:xs.length<=9223372036854775807):W1 (k:Int):=by
  have:=AF a;unfold W1;omega
theorem AaQ{k n:Nat}(a:k<n)(hl:n<=9223372036854775807):W1 (k:Int):=by unfold W1;omega
theorem rngMin{a b:Int}(c:W1 a)(k:W1 b):W1 (min a b):=by unfold W1 at *;omega
theorem rngMax{a b:Int}(c:W1 a)(k:W1 b):W1 (max a b):=by unfold W1 at *;omega
inductive Ctl(σ ρ:Type) where
  |next (s:σ)
  |brk (s:σ)
  |ret (r:ρ)
inductive Fin(σ ρ:Type) where
  |done (s:σ)
  |ret (r:ρ)
def fin{σ a:Type}(y:Fin σ a)(f:σ->Option a):Option a:=match y with
  |.done s=>f s
  |.ret c=>some c
theorem AW{σ a:Type}{s:σ}{f:σ->Option a}{r:Option a}(b:fin (.done s) f=r):f s=r:=b
theorem Bp{σ a:Type}{c:a}{f:σ->Option a}{r:Option a}(b:fin (.ret c) f=r):some c=r:=b
def rng{α σ ρ:Type}(f:Nat→α→σ→Option (Ctl σ ρ)):List α→Nat→σ→Option (Fin σ ρ)
  |[],_,s=>some (.done s)
  |x::xs,k,s=>match f k x s with
    |none=>none
    |some (.next a)=>rng f xs (k+1) a
    |some (.brk a)=>some (.done a)
    |some (.ret r)=>some (.ret r)
def Zb{σ ρ:Type}(f:Nat->σ->Option (Ctl σ ρ))(n:Nat)(s:σ):Option (Fin σ ρ):=rng (λ_ k s=>f k s) (List.range n) 0 s
def itr{σ ρ:Type}(f:σ→Option (Ctl σ ρ)):Nat→σ→Option (Fin σ ρ)
  |0,_=>none
  |n+1,s=>match f s with
    |none=>none
    |some (.next a)=>itr f n a
    |some (.brk a)=>some (.done a)
    |some (.ret r)=>some (.ret r)
theorem Nm{σ ρ:Type}(f:σ->Option (Ctl σ ρ)):∀(n m:Nat)(s:σ)(r:Fin σ ρ),n<=m->itr f n s=some r->itr f m s=some r
  |0,_,_,_,_,b=>by cases b
  |n+1,0,_,_,hl,_=>by omega
  |n  + 1,m+1,s,r,hl,b=>by
    simp only[itr]at b ⊢;cases hf:f s with
    |none=>rw[hf]at b;cases b
    |some c =>
      rw[hf]at b;cases c with
      |next a=>exact Nm f n m a r (by omega) b
      |brk a=>exact b
      |ret r'=>exact b
noncomputable def lop{σ ρ:Type}(f:σ->Option (Ctl σ ρ))(s:σ):Option (Fin σ ρ):=itr f (Classical.epsilon λn=>(itr f n s).isSome=true) s
theorem Nn{σ ρ:Type}{f:σ->Option (Ctl σ ρ)}{s:σ}{r:Fin σ ρ}:lop f s=some r↔∃n,itr f n s=some r:=by
  constructor
  . intro c;exact⟨_,c⟩
  . rintro⟨n,hn⟩;have hs:(itr f (Classical.epsilon λn=>(itr f n s).isSome=true) s).isSome=true:=E4 (p:=λn=>(itr f n s).isSome=true) ⟨n,by rw[hn];rfl⟩;obtain⟨r',hr'⟩:=Option.isSome_iff_exists.1 hs;have a:=Nm f _ (n+Classical.epsilon λn=>(itr f n s).isSome=true) s r (by omega) hn;have b:=Nm f _ (n+Classical.epsilon λn=>(itr f n s).isSome=true) s r' (by omega) hr';unfold lop;rw[hr',<- b,a]
theorem GS{σ ρ:Type}(f:σ→Option (Ctl σ ρ))(s:σ):lop f s=match f s with
    |none=>none
    |some (.next a)=>lop f a
    |some (.brk a)=>some (.done a)
    |some (.ret r)=>some (.ret r):=by
  apply Option.ext;intro r;rw[Nn];cases hf:f s with
  |none =>
    constructor
    . rintro⟨n,hn⟩;cases n with
      |zero=>cases hn
      |succ n=>simp only[itr,hf]at hn;cases hn
    . intro b;cases b
  |some c =>
    cases c with
    |next a =>
      simp only;rw[Nn];constructor
      . rintro⟨n,hn⟩;cases n with
        |zero=>cases hn
        |succ n=>simp only[itr,hf]at hn;exact⟨n,hn⟩
      . rintro⟨n,hn⟩;exact⟨n+1,by simp only[itr,hf];exact hn⟩
    |brk a =>
      simp only;constructor
      . rintro⟨n,hn⟩;cases n with
        |zero=>cases hn
        |succ n=>simp only[itr,hf]at hn;exact hn
      . intro b;exact⟨1,by simp only[itr,hf];exact b⟩
    |ret r' =>
      simp only;constructor
      . rintro⟨n,hn⟩;cases n with
        |zero=>cases hn
        |succ n=>simp only[itr,hf]at hn;exact hn
      . intro b;exact⟨1,by simp only[itr,hf];exact b⟩
def AaX(size:Nat)(A:Option Addr)(m c:Nat)(q a:Int)(b:Option Addr)(d e:Nat):Prop:=∃lo hi:Nat,q=(lo:Int)/\a=(hi:Int)/\lo<=hi/\hi<=m/\m<=c/\Value.slice b d e=.slice (if c=lo then A else A.map (·.add (lo*size))) (hi-lo) (c-lo)
theorem AcF{α:Type}[Rp α]{w:World}{F:Nat->Prop}{A:Option Addr}{m c:Nat}{q e:Int}{xs u:List α}(f:Vb w F (.slice A m c) xs)(he:Zi xs q e=some u):∃g h,Vb w F (.slice g u.length h) u/\AaX (Rp.size α) A m c q e g u.length h:=by
  obtain⟨a,b,rfl,rfl,h1,h2,rfl⟩:=Pq he;have hl:=f.len;have i:=f.cut (lo:=a) (hi:=b) (mx:=c) h1 (by omega) (by omega) (V2 _);have d:((xs.take b).drop a).length=b-a:=(by rw[N7,N8];omega);exact⟨_,_,by rw[d];exact i,a,b,rfl,rfl,h1,by omega,hl.2.1,by rw[d]⟩
section
variable {P:Program}{l:Env}{w:World}{dst:Option Tmp}{ty:TypeId}{pos:String}{aft:Array Edge}
theorem Wn{t e:TypeId}[TSlice P t e]{z:Value}{size bytes:Nat}[TInfo P e z size bytes]{x y:Operand}{A a:Option Addr}{m c b d:Nat}{q:Int}{k:IntKind}(f:opv l x=some (.slice A m c))(g:opv l y=some (.int k q))(hc:AaX size A m c q (m:Int) a b d):Ev P ⟨dst,.slice t x (some y) none none,ty,pos,aft,none⟩ l w (.slice a b d):=by
  obtain⟨lo,hi,h1,h2,h3,h4,h5,h6⟩:=hc;have:hi=m:=(by omega);subst this;rw[h6];exact KZ f g h1 h3
theorem Wo{t e:TypeId}[TSlice P t e]{z:Value}{size bytes:Nat}[TInfo P e z size bytes]{x y:Operand}{A a:Option Addr}{m c b d:Nat}{q:Int}{k:IntKind}(f:opv l x=some (.slice A m c))(g:opv l y=some (.int k q))(hc:AaX size A m c 0 q a b d):Ev P ⟨dst,.slice t x none (some y) none,ty,pos,aft,none⟩ l w (.slice a b d):=by
  obtain⟨lo,hi,h1,h2,h3,h4,h5,h6⟩:=hc;have:lo=0:=(by omega);subst this;rw[h6];exact NQ f g h2 (by omega)
end
def Aan(ops:Array Oper):Array Bool->List (Nat×Bool)->Bool
  |_,[]=>true
  |listed,(i,true)::r=>(Region.ready .any ops listed).contains i&&(Region.free .any ops listed i&&Aan ops (listed.setIfInBounds i true) r)
  |_,(_,false)::_=>false
def Aai:Array Bool->List (Nat×Bool)->Array Bool
  |listed,[]=>listed
  |listed,(i,_)::r=>Aai (listed.setIfInBounds i true) r
section
variable {P:Program}{m:Nat}{Qo:X0}{l:Env}{w:World}
theorem Bc{c:Code}{Q:X0}(b:Env->World->Prop)(d:ewp P m c (thn b Q) l w)(k:∀a w',b a w'->Q .normal a w'):ewp P m c Q l w :=
  HG (λe l w q=>by cases e<;>first|exact k _ _ q|exact q) d
def aft{σ ρ X:Type}(a:Fin σ ρ)(b:σ->X->Env)(c:σ->X->World->Prop):Env->World->Prop:=λd w'=>∃s x,a=.done s/\W4 d (b s x)/\c s x w'
theorem KO{α σ ρ X:Type}{t i n inc:Tmp}{b b' r r2:Nat}{ty1 ty2 ty3 y1 y2 y3 y4:TypeId}{p1 p2 p3:String}{a1 a2 a3:Array Edge}{body:Code}{f:Nat→α→σ→Option (Ctl σ ρ)}{xs:List α}{s₀:σ}{d:Fin σ ρ}(N:Nat)(K:rng f xs 0 s₀=some d)(L:N=xs.length)(C:N≤9223372036854775807)
    (E:σ->X->Env) (D:σ->X->Env) (I F:σ->X->World->Prop) (p:X)
    (B:I s₀ p w) (hs:W4 l (rgE i n N 0 (E s₀ p)))
    (hf:∀s x,lk (E s x) i=none/\lk (E s x) inc=none) (G:∀s x,W4 ((t,.bool false)::rgE i n N N (E s x)) (D s x)) (H:∀s x w,I s x w->F s x w) (M:Nat.blt t m=true/\Nat.blt i m=true/\Nat.blt inc m=true) (J:Nat.beq i n=false/\Nat.beq inc n=false)
    (y:∀(k:Nat)(a:α)(s:σ)(x:X)(w:World)(c:Ctl σ ρ),xs[k]?=some a->I s x w->f k a s=some c->(∀r',c=.ret r'->d=.ret r')->(∀g,c=.brk g->d=.done g) ->
      ewp P m body (X9 b' (thn (λv w'=>∃g o,c=.next g/\W4 v (rgE i n N k (E g o))/\I g o w') (X9 b (thn (aft d D F) Qo)))) ((t,.bool true)::rgE i n N k (E s x)) w) :
    ewp P m (.loop (.seq (.region r #[⟨some t,.binOp .lss ty1 (.tmp i) (.tmp n) ty2,y1,p1,a1,none⟩] false) (.seq (.cond (.tmp t) .skip (.exit b)) (.seq (.block b' body)
      (.region r2 #[⟨some inc,.binOp .add ty3 (.tmp i) (.const (.int .i64 1)) y4,y2,p2,a2,none⟩,⟨some i,.move (.tmp inc),y3,p3,a3,none⟩] false))))) (X9 b (thn (aft d D F) Qo)) l w:=by
  subst L;have z:∀k,(∃a,xs[k]?=some a/\xs.drop k=a::xs.drop (k+1))\/xs.length<=k:=λk=>by
    rcases T9 k xs.length with h|h
    . exact .inl ⟨xs[k],D1 h,C5 h⟩
    . exact .inr h
  refine Cj (X:=σ×X) xs.length C (λu=>E u.1 u.2) (λk u w'=>I u.1 u.2 w'/\rng f (xs.drop k) k u.1=some d) (s₀,p) ⟨B,by simpa using K⟩ hs (λu=>hf u.1 u.2) M J ?_ ?_
  . rintro k ⟨s,x⟩ w1 hk ⟨hI,hr⟩;rcases z k with⟨a,ha,hd⟩|hge
    . dsimp only at hI hr ⊢;rw[hd]at hr;simp only[rng]at hr;cases A:f k a s with
      |none=>rw[A]at hr;cases hr
      |some c =>
        rw[A]at hr;refine HG ?_ (y k a s x w1 c ha hI A (λr' hc=>?_) (λg hc=>?_))
        . have conv:∀v w',(∃g o,c=.next g/\W4 v (rgE i n xs.length k (E g o))/\I g o w')->∃o:σ×X,W4 v (rgE i n xs.length k (E o.1 o.2))/\I o.1 o.2 w'/\rng f (xs.drop (k+1)) (k+1) o.1=some d:=by
            rintro v w' ⟨g,o,rfl,h1,h2⟩;exact⟨(g,o),h1,h2,hr⟩
          intro e v w' q;cases e with
          |normal=>exact conv v w' q
          |exit j =>
            simp only[X9]at q ⊢;cases hj:Nat.beq j b' with
            |true=>rw[hj]at q;exact conv v w' q
            |false=>rw[hj]at q;exact q
          |panic c=>exact q
          |outgrown=>exact q
          |goto j=>exact q
          |ret=>exact q
        . subst hc;exact(sm hr).symm
        . subst hc;exact(sm hr).symm
    . omega
  . rintro⟨s,x⟩ w1 ⟨hI,hr⟩;dsimp only at hI hr ⊢;rw[N9]at hr;exact⟨s,x,(sm hr).symm,G s x,H s x _ hI⟩
theorem UR{σ ρ X:Type}{t i n inc:Tmp}{b b' r r2:Nat}{ty1 ty2 ty3 y1 y2 y3 y4:TypeId}{p1 p2 p3:String}{a1 a2 a3:Array Edge}{body:Code}{f:Nat->σ->Option (Ctl σ ρ)}{s₀:σ}{d:Fin σ ρ}(N:Nat)(B:Zb f N s₀=some d)(q:N<=9223372036854775807)
    (E:σ->X->Env) (o:σ->X->Env) (I p:σ->X->World->Prop) (e:X)
    (j:I s₀ e w) (hs:W4 l (rgE i n N 0 (E s₀ e)))
    (hf:∀s x,lk (E s x) i=none/\lk (E s x) inc=none) (u:∀s x,W4 ((t,.bool false)::rgE i n N N (E s x)) (o s x)) (v:∀s x w,I s x w->p s x w) (C:Nat.blt t m=true/\Nat.blt i m=true/\Nat.blt inc m=true) (y:Nat.beq i n=false/\Nat.beq inc n=false)
    (g:∀(k:Nat)(s:σ)(x:X)(w:World)(c:Ctl σ ρ),k<N->I s x w->f k s=some c->(∀r',c=.ret r'->d=.ret r')->(∀h,c=.brk h->d=.done h) ->
      ewp P m body (X9 b' (thn (λD w'=>∃h A,c=.next h/\W4 D (rgE i n N k (E h A))/\I h A w') (X9 b (thn (aft d o p) Qo)))) ((t,.bool true)::rgE i n N k (E s x)) w) :
    ewp P m (.loop (.seq (.region r #[⟨some t,.binOp .lss ty1 (.tmp i) (.tmp n) ty2,y1,p1,a1,none⟩] false) (.seq (.cond (.tmp t) .skip (.exit b)) (.seq (.block b' body)
      (.region r2 #[⟨some inc,.binOp .add ty3 (.tmp i) (.const (.int .i64 1)) y4,y2,p2,a2,none⟩,⟨some i,.move (.tmp inc),y3,p3,a3,none⟩] false))))) (X9 b (thn (aft d o p) Qo)) l w :=
  KO N B (by simp) q E o I p e j hs hf u v C y λk a s x w c hk F z G H=>by
    obtain⟨hlt,rfl⟩:=C3.1 hk;exact g k s x w c (by simpa using hlt) F (by simpa using z) G H
theorem GB{σ ρ X:Type}{c:Code}{f:σ→Option (Ctl σ ρ)}{s₀:σ}{a:Fin σ ρ}{b:Nat}(z:lop f s₀=some a)(E:σ→X→Env)(u:σ→X→Env)(I v:σ→X→World→Prop)(d:X)(r:I s₀ d w)(hs:W4 l (E s₀ d))
    (i:∀(s:σ)(x:X)(w:World)(q:Ctl σ ρ),I s x w->f s=some q->(∀r',q=.ret r'->a=.ret r')->(∀g,q=.brk g->a=.done g) ->
      ewp P m c (thn (λy w'=>∃g t,q=.next g/\W4 y (E g t)/\I g t w') (X9 b (thn (aft a u v) Qo))) (E s x) w) :
    ewp P m (.loop c) (X9 b (thn (aft a u v) Qo)) l w:=by
  obtain⟨n,hn⟩:=Nn.1 z;refine Qk (X:=σ×X×Nat) (λh=>E h.1 h.2.1) (λh w'=>I h.1 h.2.1 w'/\itr f h.2.2 h.1=some a) (λh=>h.2.2) (s₀,d,n) hs ⟨r,hn⟩ ?_;rintro⟨s,x,k⟩ w1 ⟨hI,hr⟩;dsimp only at hI hr ⊢;cases k with
  |zero=>cases hr
  |succ k =>
    simp only[itr]at hr;cases o:f s with
    |none=>rw[o]at hr;cases hr
    |some q =>
      rw[o]at hr;refine HG ?_ (i s x w1 q hI o (λr' hc=>?_) (λg hc=>?_))
      . intro e y w' p;cases e with
        |normal =>
          obtain⟨g,t,rfl,h1,h2⟩:=p;exact⟨(g,t,k),h1,⟨h2,hr⟩,P1 k⟩
        |exit j=>exact p
        |panic c=>exact p
        |outgrown=>exact p
        |goto j=>exact p
        |ret=>exact p
      . subst hc;exact(sm hr).symm
      . subst hc;exact(sm hr).symm
def inK(a:Nat):List Nat→Bool
  |[]=>false
  |k::r=>match Nat.beq k a with
    |true=>true
    |false=>inK a r
def kys:List Nat→Env→Bool
  |_,[]=>true
  |ks,(a,_)::r=>match inK a ks with
    |true=>false
    |false=>kys (a::ks) r
theorem ST{c:Nat}:∀{b:List Nat},inK c b=false->∀k∈b,Nat.beq k c=false
  |[],_,k,hk=>by simp at hk
  |a  :: r,d,k,hk=>by
    unfold inK at d;cases hb:Nat.beq a c with
    |true=>rw[hb]at d;cases d
    |false =>
      rw[hb]at d;rcases S0.1 hk with rfl|hk
      . exact hb
      . exact ST d k hk
theorem JH{e:Nat}:∀{l:Env}{b:List Nat},kys b l=true→e∈b→lk l e=none
  |[],_,_,_=>rfl
  |(a,  v)::r,b,f,hd=>by
    unfold kys at f;cases hb:inK a b with
    |true=>rw[hb]at f;cases f
    |false =>
      rw[hb]at f;have c:Nat.beq a e=false:=by
        have:=ST hb e hd;cases d:Nat.beq a e with
        |false=>rfl
        |true=>rw[F1 d,T8]at this;cases this
      show(match Nat.beq a e with|true=>some v|false=>lk r e)=none;rw[c];exact JH f (H0 _ hd)
theorem TH{c:Nat}:∀{p l:Env},(∀q∈p,Nat.beq q.1 c=false)->lk (p++l) c=lk l c
  |[],_,_=>rfl
  |(a,v)::p,l,h=>by
    show(match Nat.beq a c with|true=>some v|false=>lk (p++l) c)=lk l c;rw[h (a,v) K6];exact TH λq b=>h q (H0 _ b)
theorem OP:∀{l:Env}{b:List Nat}{p:Env},kys b l=true→(∀q∈p,q.1∈b)→W4 (p++l) l
  |[],_,_,_,_=>trivial
  |(a,  v)::r,b,p,c,hp=>by
    unfold kys at c;cases hb:inK a b with
    |true=>rw[hb]at c;cases c
    |false =>
      rw[hb]at c;refine⟨?_,?_⟩
      . rw[TH λq hq=>ST hb q.1 (hp q hq)];show(match Nat.beq a a with|true=>some v|false=>lk r a)=some v;rw[T8]
      . have:=OP (p:=p++[(a,v)]) c λq hq=>by
          rcases P8.1 hq with hq|hq
          . exact H0 _ (hp q hq)
          . have:q=(a,v):=(by simpa using hq);rw[this];exact K6
        rwa[L8]at this
section
variable {σ ρ X:Type}{t i n inc:Tmp}{b b' r r2:Nat}{ty1 ty2 ty3 y1 y2 y3 y4:TypeId}{p1 p2 p3:String}{a1 a2 a3:Array Edge}{body:Code}{Q:X0}
theorem Dg{α:Type}{f:Nat->α->σ->Option (Ctl σ ρ)}{xs:List α}{s₀:σ}{d:Fin σ ρ}(N:Nat)(y:rng f xs 0 s₀=some d)(z:N=xs.length)(q:N<=9223372036854775807)(E:σ->X->Env)(I:σ->X->World->Prop)(e:X)(j:I s₀ e w)(hs:W4 l (rgE i n N 0 (E s₀ e)))(hk:∀s x,kys [t,i,n,inc] (E s x)=true)
    (g:∀(k:Nat)(a:α)(s:σ)(x:X)(w:World)(c:Ctl σ ρ),xs[k]?=some a->I s x w->f k a s=some c->(∀r',c=.ret r'->d=.ret r')->(∀h,c=.brk h->d=.done h) ->
      ewp P m body (X9 b' (thn (λo w'=>∃h v,c=.next h/\W4 o (rgE i n N k (E h v))/\I h v w') (X9 b (thn (aft d E I) Q)))) ((t,.bool true)::rgE i n N k (E s x)) w)
    (A:∀o w',aft d E I o w'->Q .normal o w') (B:Nat.blt t m=true/\Nat.blt i m=true/\Nat.blt inc m=true:=by exact⟨rfl,rfl,rfl⟩) (u:Nat.beq i n=false/\Nat.beq inc n=false:=by exact⟨rfl,rfl⟩) :
    ewp P m (.block b (.loop (.seq (.region r #[⟨some t,.binOp .lss ty1 (.tmp i) (.tmp n) ty2,y1,p1,a1,none⟩] false) (.seq (.cond (.tmp t) .skip (.exit b)) (.seq (.block b' body)
      (.region r2 #[⟨some inc,.binOp .add ty3 (.tmp i) (.const (.int .i64 1)) y4,y2,p2,a2,none⟩,⟨some i,.move (.tmp inc),y3,p3,a3,none⟩] false)))))) Q l w :=
  Bc (aft d E I) (BC (KO (Qo:=Q) N y z q E E I I e j hs (λs x=>⟨JH (hk s x) (by simp),JH (hk s x) (by simp)⟩) (λs x=>OP (p:=[(t,.bool false),(i,.int .i64 (N:Int)),(n,.int .i64 (N:Int))]) (hk s x) (by simp)) (λ_ _ _ C=>C) B u g)) A
theorem LO{f:Nat->σ->Option (Ctl σ ρ)}{s₀:σ}{a:Fin σ ρ}(N:Nat)(v:Zb f N s₀=some a)(o:N<=9223372036854775807)(E:σ->X->Env)(I:σ->X->World->Prop)(d:X)(h:I s₀ d w)(hs:W4 l (rgE i n N 0 (E s₀ d)))(hk:∀s x,kys [t,i,n,inc] (E s x)=true)
    (e:∀(k:Nat)(s:σ)(x:X)(w:World)(c:Ctl σ ρ),k<N->I s x w->f k s=some c->(∀r',c=.ret r'->a=.ret r')->(∀g,c=.brk g->a=.done g) ->
      ewp P m body (X9 b' (thn (λj w'=>∃g u,c=.next g/\W4 j (rgE i n N k (E g u))/\I g u w') (X9 b (thn (aft a E I) Q)))) ((t,.bool true)::rgE i n N k (E s x)) w)
    (y:∀j w',aft a E I j w'->Q .normal j w') (z:Nat.blt t m=true/\Nat.blt i m=true/\Nat.blt inc m=true:=by exact⟨rfl,rfl,rfl⟩) (q:Nat.beq i n=false/\Nat.beq inc n=false:=by exact⟨rfl,rfl⟩) :
    ewp P m (.block b (.loop (.seq (.region r #[⟨some t,.binOp .lss ty1 (.tmp i) (.tmp n) ty2,y1,p1,a1,none⟩] false) (.seq (.cond (.tmp t) .skip (.exit b)) (.seq (.block b' body)
      (.region r2 #[⟨some inc,.binOp .add ty3 (.tmp i) (.const (.int .i64 1)) y4,y2,p2,a2,none⟩,⟨some i,.move (.tmp inc),y3,p3,a3,none⟩] false)))))) Q l w :=
  Bc (aft a E I) (BC (UR (Qo:=Q) N v o E E I I d h hs (λs x=>⟨JH (hk s x) (by simp),JH (hk s x) (by simp)⟩) (λs x=>OP (p:=[(t,.bool false),(i,.int .i64 (N:Int)),(n,.int .i64 (N:Int))]) (hk s x) (by simp)) (λ_ _ _ A=>A) z q e)) y
end
end
end
section
open Go Go.RowKit Go.ChangeShapes Go.WideShapes Go.Deep
theorem wf8{z:Int}(a:(Lit.int .u8 z).wf=true):0<=z/\z<=255:=by
  simpa[Lit.wf,IntKind.min,IntKind.max,IntKind.signed,IntKind.bits]using a
theorem AbE{P:Program}{t:TypeId}(a:P.underlying t=some (.int .u8)):Reads P t Byt:=⟨λb=>by
  obtain⟨z,rfl,_,hw⟩:=DataW.trod_int a b;exact⟨⟨z,(wf8 hw).1,(wf8 hw).2⟩,rfl⟩⟩
instance:Reads prog 5 Byt:=AbE underlying5
end
section
open Go Go.RowKit
def Bm(w0:World)(O0:Lab)(w:World)(O:Lab):Prop:=St (λj=>j≠0/\j≠1) w0 O0 w O
section
variable {T:Nat → Prop}{w w' w0:World}{O O' O0:Lab}
theorem Bm.st(d:Bm w0 O0 w O)(a:St T w O w' O')(b:¬T 0:=by decide)(c:¬T 1:=by decide):Bm w0 O0 w' O' :=
  St.comp d a λj hj=>⟨λe=>b (e▸hj),λe=>c (e▸hj)⟩
theorem Vb.z{α:Type}[Rp α]{v:Value}{x:α}(b:Vb w0 (Fr 0 w0 O0) v x)(a:Bm w0 O0 w O):Vb w (Fr 0 w O) v x:=Vb.st b a λb=>b.1 rfl
theorem Bm.refl:Bm w O w O:=St.refl _ _ _
structure Lbl(f:Nat->Nat)(T:Nat->Prop):Prop where
  z:f 0=0
  nz:∀j,f j=0->j=0
  o:∀j,¬T j->f j=0\/f j=1
theorem Lbl.none:Lbl (λj=>if j=0 then 0 else 1) nT:=⟨rfl,λj a=>by by_cases hj:j=0<;>simp_all,λj _=>by by_cases hj:j=0<;>simp_all⟩
theorem Lbl.one{i:Nat}(hi:i≠0):Lbl (λj=>if j=0 then 0 else if j=i then 2 else 1) (eT i) :=
  ⟨rfl,λj a=>by by_cases hj:j=0<;>simp_all;split at a<;>simp_all,λj a=>by by_cases hj:j=0<;>by_cases hk:j=i<;>simp_all⟩
theorem Lbl.fr0{f:Nat->Nat}(a:Lbl f T):∀k,Fr 0 w O k->Fr 0 w (λk=>f (O k)) k:=λk hk=>⟨hk.1,by show f (O k)=0;rw[hk.2];exact a.z⟩
theorem Bm.leave{f:Nat->Nat}(g:Nat->Nat)(hf:Lbl f T)(d:g 0=0)(m:Bm w (λk=>f (O k)) w' O') :
    ∃a,St T w O w' a/\(∀k,Fr 0 w' O' k->Fr 0 w' a k)/\∀j,j≠0->j≠1->∀k,Fr j w' O' k->Fr (g j) w' a k:=by
  classical
  have b:∀k,k<w.heap.size->¬T (O k)->w'.heap[k]?=w.heap[k]?/\O' k=f (O k):=λk hk c =>
    m.same k hk (by rcases hf.o _ c with e|e<;>simp[e])
  refine⟨λk=>if k<w.heap.size/\¬T (O k)then O k else g (O' k),⟨m.os,m.tape,m.output,m.size,λk hk c=>⟨(b k hk c).1,if_pos ⟨hk,c⟩⟩⟩,λk hk=>⟨hk.1,?_⟩,λj i l k hk=>⟨hk.1,?_⟩⟩
  . by_cases hc:k<w.heap.size/\¬T (O k)
    . show(if _ then _ else _)=_;rw[if_pos hc];exact hf.nz _ ((b k hc.1 hc.2).2.symm.trans hk.2)
    . show(if _ then _ else _)=_;rw[if_neg hc,hk.2,d]
  . by_cases hc:k<w.heap.size/\¬T (O k)
    . have h:=(b k hc.1 hc.2).2.symm.trans hk.2;rcases hf.o _ hc.2 with e|e<;>rw[e]at h<;>omega
    . show(if _ then _ else _)=_;rw[if_neg hc,hk.2]
theorem BM{P:Program}{n:Nat}{ops:Array Oper}{Q:X0}{rest:List Oper}{l:Env}{w:World}{d:Tmp}{ty:TypeId}{pos:String}{aft:Array Edge}{f:FuncId}[Callable P f]{xs:List Operand}{vs:List Value}{a:Array TypeId}{O:Lab}{R:Value->World->Lab->Prop}
    (hc:Fn P f vs w λv w'=>∃O',St T w O w' O'/\R v w' O') (b:X5 l xs=some vs)
    (c:∀v w' O',St T w O w' O'->R v w' O'->owp P n ops Q rest ((d,v)::l) w') (hd:Nat.blt d n=true:=by exact rfl):owp P n ops Q (⟨some d,.call { callee:=.value (.func f),args:=xs.toArray,argTypes:=a },ty,pos,aft,none⟩::rest) l w :=
  By b (hd:=hd) hc λv w' ⟨O',hS,hR⟩=>c v w' O' hS hR
end
def Ent(T:Nat->Prop)(O O0:Lab):Prop:=∃f,Lbl f T/\O0=λk=>f (O k)
theorem Ab0{w:World}{O:Lab}:∃O0,Ent nT O O0/\∀k,Fr 0 w O k->Fr 0 w O0 k:=⟨_,⟨_,Lbl.none,rfl⟩,Lbl.none.fr0⟩
theorem Y3{w:World}{O:Lab}{i:Nat}(hi:i≠0):∃O0,Ent (eT i) O O0/\(∀k,Fr 0 w O k->Fr 0 w O0 k)/\∀k,Fr i w O k->Fr 2 w O0 k :=
  ⟨_,⟨_,Lbl.one hi,rfl⟩,(Lbl.one hi).fr0,λk hk=>⟨hk.1,by simp[hk.2,hi]⟩⟩
theorem Ent.leave{T:Nat->Prop}{w w':World}{O O0 O':Lab}(d:Ent T O O0)(g:Nat->Nat)(b:g 0=0)(c:Bm w O0 w' O') :
    ∃a,St T w O w' a/\(∀k,Fr 0 w' O' k->Fr 0 w' a k)/\∀j,j≠0->j≠1->∀k,Fr j w' O' k->Fr (g j) w' a k:=by
  obtain⟨f,hf,rfl⟩:=d;exact Bm.leave g hf b c
theorem Zj{P:Program}{l:Env}{w:World}{b:Func}{R:Value->World->Prop}(hr:b.results=#[])(e:R (.tuple #[]) w):W6 P b R .normal l w:=⟨_,λn a d c=>by simp[HW,hr],e⟩
theorem AbZ{P:Program}{l:Env}{w:World}{c:Func}{R:Value->World->Prop}{r s q p:ResultVar}{v u x y:Value}(hr:c.results=#[r,s,q,p])(e:X1 P l w r v)(f:X1 P l w s u)(g:X1 P l w q x)(h:X1 P l w p y)(i:R (.tuple #[v,u,x,y]) w):W6 P c R .ret l w :=
  ⟨_,λn a d b=>by simp[HW,hr,e n a d b,f n a d b,g n a d b,h n a d b],i⟩
class Ow(α:Type) where
  R:World->(Nat->Prop)->(Nat->Prop)->Value->α->Prop
  agree:∀{w w':World}{F M:Nat->Prop}{v:Value}{x:α},R w F M v x->Agree F w w'->Agree M w w'->R w' F M v x
  mono:∀{w:World}{F M F' M':Nat->Prop}{v:Value}{x:α},R w F M v x->(∀k,F k->F' k)->(∀k,M k->M' k)->(∀k,F' k->¬M' k)->R w F' M' v x
class OwP(α:Type)[Ow α]:Prop where
  ptr:∀{w:World}{F M:Nat->Prop}{v:Value}{x:α},Ow.R w F M v x->∃g,v=.pointer (some ⟨g,0,none⟩)
def Ob{α:Type}[Ow α](i:Nat)(w:World)(O:Lab)(v:Value)(x:α):Prop:=Ow.R w (Fr 0 w O) (Fr i w O) v x/\i≠0
theorem AcT{i j:Nat}(c:i≠j){w:World}{O:Lab}:∀k,Fr i w O k->¬Fr j w O k:=λ_ a b=>c (a.2.symm.trans b.2)
theorem YY{j:Nat}(a:j≠0){w:World}{O:Lab}:∀k,Fr 0 w O k->¬Fr j w O k:=AcT (W0 a)
section
variable {α:Type}[Ow α]{T:Nat → Prop}{i:Nat}{w w':World}{O O':Lab}{v:Value}{x:α}
theorem Ob.st(c:Ob i w O v x)(a:St T w O w' O')(b:¬T 0:=by decide)(hi:¬T i:=by decide):Ob i w' O' v x :=
  ⟨Ow.mono (Ow.agree c.1 (a.agree b) (a.agree hi)) (a.fr b) (a.fr hi) (YY c.2),c.2⟩
theorem Ob.ptr[OwP α](a:Ob i w O v x):∃g,v=.pointer (some ⟨g,0,none⟩):=OwP.ptr a.1
theorem Ob.leave{j:Nat}(c:Ob i w O v x)(a:∀k,Fr 0 w O k->Fr 0 w O' k)(b:∀k,Fr i w O k->Fr j w O' k)(hj:j≠0):Ob j w O' v x:=⟨Ow.mono c.1 a b (YY hj),hj⟩
end
def Obo{α:Type}[Ow α](i:Nat)(w:World)(O:Lab)(v:Value):Option α->Prop
  |none=>v=.pointer none
  |some x=>Ob i w O v x
theorem Obo.st{α:Type}[Ow α]{T:Nat->Prop}{i:Nat}{w w':World}{O O':Lab}{v:Value}{x:Option α}(c:Obo i w O v x)(a:St T w O w' O')(b:¬T 0:=by decide)(hi:¬T i:=by decide):Obo i w' O' v x:=by
  cases x with
  |none=>exact c
  |some x=>exact Ob.st c a b hi
def RwM{α:Type}[Rp α](w:World)(F M:Nat->Prop)(e:TypeId)(v:Value)(xs:List α):Prop:=Own w 0 F e v xs/\∀g,v.ownBlock=some g->M g
section
variable {α:Type}[Rp α]{i:Nat}{w w':World}{O O':Lab}{v:Value}{xs:List α}{e:TypeId}{F M F' M':Nat → Prop}
theorem RwM.agree(d:RwM w F M e v xs)(a:Agree F w w')(b:Agree M w w'):RwM w' F M e v xs:=⟨d.1.agree a λg c=>b g (d.2 g c),d.2⟩
theorem RwM.mono(f:RwM w F M e v xs)(c:∀k,F k->F' k)(b:∀k,M k->M' k)(d:∀k,F' k->¬M' k):RwM w F' M' e v xs :=
  ⟨f.1.mono c λg a hf=>d g hf (b g (f.2 g a)),λg a=>b g (f.2 g a)⟩
theorem RwM.rw(d:RwM w F M e v xs)(c:∀k,F k->Fr 0 w O k)(b:∀k,M k->Fr i w O k)(hi:i≠0):Rw i w O e v xs :=
  ⟨d.1.mono c λg a hf=>YY hi g hf (b g (d.2 g a)),λg a=>(b g (d.2 g a)).2,hi⟩
theorem Rw.m(f:Rw i w O e v xs)(c:∀k,Fr 0 w O k->F k)(b:∀k,Fr i w O k->M k)(d:∀k,F k->¬M k):RwM w F M e v xs :=
  ⟨f.1.mono c λg a hf=>d g hf (b g ⟨(f.1.lt g a).2,f.2.1 g a⟩),λg a=>b g ⟨(f.1.lt g a).2,f.2.1 g a⟩⟩
end
theorem Rw.leave{α:Type}[Rp α]{i j:Nat}{w:World}{O O':Lab}{e:TypeId}{v:Value}{xs:List α}(c:Rw i w O e v xs)(a:∀k,Fr 0 w O k->Fr 0 w O' k)(b:∀k,Fr i w O k->Fr j w O' k)(hj:j≠0):Rw j w O' e v xs:=(c.m (λ_ c=>c) (λ_ c=>c) (YY c.2.2)).rw a b hj
theorem Acc{α:Type}[Rp α]{i:Nat}{w:World}{O:Lab}{e:TypeId}{A:Option Addr}{m c:Nat}{q:Int}{xs u:List α}(p:Rw i w O e (.slice A m c) xs)(he:Zi xs 0 q=some u):Rw i w O e (.slice A u.length c) u/\AaX (Rp.size α) A m c 0 q A u.length c:=by
  obtain⟨a,b,ha,rfl,h1,h2,rfl⟩:=Pq he;obtain rfl:a=0:=(by omega);obtain⟨hm,hc,hc2⟩:=p.len;have hl:((xs.take b).drop 0).length=b:=(by simp;omega);rw[hl];have d:(Value.slice A b c).ownBlock=(Value.slice A m c).ownBlock:=(by cases A<;>rfl);refine⟨⟨?_,by rw[d];exact p.2.1,p.2.2⟩,0,b,rfl,rfl,V5 _,by omega,hc,?_⟩
  . obtain⟨cells,k,o2,o3⟩:=p.1;refine⟨cells.take (b*Rp.size α),⟨by rw[N8,o2.length,hl,Q8 (G8 _ h2)],?_⟩,by simpa using o2.take b,by rw[d];exact o3⟩;rcases k.2 with⟨f,hn⟩|⟨g,cap,cur,f,hg,hh,hnc,hcm,hcs,hcur⟩
    . injection f with h l j;have:b=0:=(by omega);subst this;exact .inl ⟨by rw[h,j],hl⟩
    . injection f with h l j;refine .inr ⟨g,cap,cur,by rw[h,j,hl],hg,hh,by omega,hcm,hcs,?_⟩;rw[hl,<- hcur,List.take_take,Q8 (G8 _ h2)]
  . have:(A.map (·.add (0*Rp.size α)))=A:=by
      cases A with
      |none=>rfl
      |some n=>obtain⟨o,o',p'⟩:=n;simp[Addr.add]
    split<;>simp_all
def part(O:Lab)(i:Nat)(L:Lab)(ls:List Nat):Lab:=λk=>if O k=i then ls.getD (L k) (ls.headD 2)else O k
def ZS(O:Lab)(i:Nat)(ls:List Nat):Lab:=λk=>if O k∈ls then i else O k
section
variable {i:Nat}{w:World}{O L:Lab}{ls:List Nat}
theorem Js(a:i≠0):St (eT i) w O w (part O i L ls):=⟨rfl,rfl,rfl,V2 _,λ_ _ hk=>⟨rfl,if_neg hk⟩⟩
theorem DR(a:i≠0):∀k,Fr 0 w O k->Fr 0 w (part O i L ls) k:=λk hk=>⟨hk.1,by unfold part;rw[if_neg (λe=>a (e.symm.trans hk.2))];exact hk.2⟩
theorem Gg{j q:Nat}(hj:ls[j]?=some q):∀k,(Fr i w O k/\L k=j)->Fr q w (part O i L ls) k:=λk hk=>⟨hk.1.1,by unfold part;rw[if_pos hk.1.2,hk.2];simp[hj]⟩
theorem Iq(hl:ls≠[]):∀k,Fr i w O k->∃q,q∈ls/\Fr q w (part O i L ls) k:=λk hk=>by
  refine⟨part O i L ls k,?_,hk.1,rfl⟩;unfold part;rw[if_pos hk.2];cases b:ls[L k]? with
  |some q=>rw[C1,b];exact H1 b
  |none =>
    rw[C1,b];cases ls with
    |nil=>exact absurd rfl hl
    |cons a l=>simp
theorem Ir:St (·∈ls) w O w (ZS O i ls):=⟨rfl,rfl,rfl,V2 _,λ_ _ hk=>⟨rfl,if_neg hk⟩⟩
theorem CD(a:¬0∈ls):∀k,Fr 0 w O k->Fr 0 w (ZS O i ls) k:=λk hk=>⟨hk.1,by unfold ZS;rw[if_neg (by rw[hk.2];exact a)];exact hk.2⟩
theorem HO:∀q,q∈ls->∀k,Fr q w O k->Fr i w (ZS O i ls) k:=λq a k hk=>⟨hk.1,by unfold ZS;rw[if_pos (by rw[hk.2];exact a)]⟩
theorem FG{j q:Nat}(hj:ls.idxOf q=j)(a:q∈ls):∀k,Fr q w O k->Fr i w (ZS O i ls) k/\ls.idxOf (O k)=j:=λk hk=>⟨⟨hk.1,by unfold ZS;rw[if_pos (by rw[hk.2];exact a)]⟩,by rw[hk.2];exact hj⟩
end
theorem Vb.cells1{α:Type}[Rp α]{w:World}{F:Nat->Prop}{v:Value}{x:α}(b:Vb w F v x)(a:Rp.isAgg α=false:=by rfl):Rp.R w F [v] x:=by
  unfold Vb at b;rw[a]at b;exact b
structure BxR(t e:TypeId)(α:Type) where
  l:List α
instance{t e:TypeId}{α:Type}[Rp α]:Ow (BxR t e α) where
  R w F M v x:=∃(g:Nat) (L:Lab) (a:Value),v=.pointer (some ⟨g,0,none⟩)/\Blk w g t [a]/\M g/\L g=0/\RwM w F (λk=>M k/\L k=1) e a x.l
  agree:=by rintro w w' F M v x ⟨g,L,a,rfl,hb,hM,hL,h0⟩ a1 a2;exact⟨g,L,a,rfl,hb.keep (a2 g hM),hM,hL,h0.agree a1 λk hk=>a2 k hk.1⟩
  mono:=by rintro w F M F' M' v x ⟨g,L,a,rfl,hb,hM,hL,h0⟩ a1 a2 a3;exact⟨g,L,a,rfl,hb,a2 g hM,hL,h0.mono a1 (λk hk=>⟨a2 k hk.1,hk.2⟩) λk hf hm=>a3 k hf hm.1⟩
theorem BxR.opn{t e:TypeId}{α:Type}[Rp α]{i:Nat}{w:World}{O:Lab}{p:Nat}{x:BxR t e α}(d:Ob i w O (.pointer (some ⟨p,0,none⟩)) x)(l0 b:Nat)(hl:l0≠0/\b≠0):∃(O':Lab) (c:Value),St (eT i) w O w O'/\(∀k,Fr i w O k->∃q,q∈[l0,b]/\Fr q w O' k)/\Lc l0 w O' p t [c]/\Rw b w O' e c x.l:=by
  obtain⟨⟨g,L,c,a,hb,hM,hL,h0⟩,hi⟩:=d;obtain rfl:p=g:=(by injection a with a;injection a with a;injection a);exact⟨part O i L [l0,b],c,Js hi,Iq (by simp),⟨hb,(Gg (j:=0) rfl p ⟨hM,hL⟩).2⟩,h0.rw (DR hi) (Gg (j:=1) rfl) hl.2⟩
theorem BxR.shut{t e:TypeId}{α:Type}[Rp α]{w:World}{O:Lab}{p:Nat}{x:BxR t e α}{l0 c:Nat}{f:Value}(hd:¬0∈[l0,c]/\[l0,c].idxOf l0=0/\[l0,c].idxOf c=1)(hb:Lc l0 w O p t [f])(h:Rw c w O e f x.l):∃O',St (·∈[l0,c]) w O w O'/\(∀k,Fr 0 w O k->Fr 0 w O' k)/\(∀q,q∈[l0,c]->∀k,Fr q w O k->Fr l0 w O' k)/\Ob l0 w O' (.pointer (some ⟨p,0,none⟩)) x:=by
  have d:l0≠0:=λe=>hd.1 (by simp[e]);have g:=FG (i:=l0) hd.2.1 (by simp) p ⟨hb.1.lt,hb.2⟩;exact⟨ZS O l0 [l0,c],Ir,CD hd.1,HO,⟨p,λk=>[l0,c].idxOf (O k),f,rfl,hb.1,g.1,g.2,h.m (CD hd.1) (FG hd.2.2 (by simp)) (λk a b=>YY d k a b.1)⟩,d⟩
section
variable {P:Program}{n:Nat}{ops:Array Oper}{Q:X0}{rest:List Oper}{l:Env}{w:World}{d:Tmp}{ty:TypeId}{pos:String}{aft:Array Edge}
theorem Lb{f:FuncId}[Callable P f]{y:Operand}{xs:List Operand}{vs caps a:List Value}{c:Array TypeId}{O:Lab}{A:Nat->Prop}{R:World->(Nat->Prop)->Value->Prop}(hc:Fn P f a w λv w'=>Ext w w'/\R w' (upA A w w') v)(e:opv l y=some (.func (.func f) #[] caps.toArray))(g:X5 l xs=some vs)(h:vs++caps=a)(hd:Nat.blt d n=true)
    (i:∀v w' O',St nT w O w' O'->R w' (upA A w w') v->owp P n ops Q rest ((d,v)::l) w'):owp P n ops Q (⟨some d,.call { callee:=.value y,args:=xs.toArray,argTypes:=c },ty,pos,aft,none⟩::rest) l w:=by
  subst h;exact Kf (R:=λv w'=>Ext w w'/\R w' (upA A w w') v) e g hd hc λv w' b=>i v w' (upO O w.heap.size λ_=>0) (b.1.st O _) b.2
end
def FrS(ls:List Nat)(w:World)(O:Lab):Nat->Prop:=λk=>k<w.heap.size/\(O k=0\/O k∈ls)
section
variable {α:Type}[Rp α]{T:Nat → Prop}{i l:Nat}{ls ls' lo:List Nat}{w w':World}{O O':Lab}{v:Value}{x:α}{xs:List α}{e:TypeId}
theorem St.agreeS(a:St T w O w' O')(b:¬T 0)(hl:∀q∈ls,¬T q):Agree (FrS ls w O) w w':=λk hk=>(a.same k hk.1 (by rcases hk.2 with e|e;rw[e];exact b;exact hl _ e)).1
theorem Vb.stS(c:Vb w (FrS ls w O) v x)(a:St T w O w' O')(b:¬T 0:=by decide)(hl:∀q∈ls,¬T q:=by decide):Vb w' (FrS ls w' O') v x :=
  (c.agree (a.agreeS b hl)).mono λk hk=>by
    have:=(a.same k hk.1 (by rcases hk.2 with e|e;rw[e];exact b;exact hl _ e)).2;exact⟨K1 hk.1 a.size,by rw[this];exact hk.2⟩
theorem Rw.lend(a:Rw l w O e v xs)(ls:List Nat)(hl:l∈ls):Vb w (FrS ls w O) v xs:=a.1.vb.mono λk hk=>by
  rcases hk with hk|hk
  . exact⟨hk.1,.inl hk.2⟩
  . exact⟨(a.1.lt k hk).2,.inr (by rw[a.2.1 k hk];exact hl)⟩
theorem Vb.shutS(d:Vb w (FrS ls w O) v x)(b:St (·∈lo) w O w O')(hz:∀k,Fr 0 w O k->Fr 0 w O' k)(c:∀q,q∈lo->∀k,Fr q w O k->Fr i w O' k)(ls':List Nat)(hl:∀q∈ls,q∈lo/\i∈ls'\/¬q∈lo/\q∈ls'):Vb w (FrS ls' w O') v x:=d.mono λk hk=>by
  refine⟨hk.1,?_⟩;rcases hk.2 with e|e
  . exact .inl (hz k ⟨hk.1,e⟩).2
  . rcases hl _ e with⟨a,h2⟩|⟨a,h2⟩
    . right;rw[(c _ a k ⟨hk.1,rfl⟩).2];exact h2
    . right;rw[(b.same k hk.1 a).2];exact h2
theorem Vb.opnS(d:Vb w (FrS ls w O) v x)(b:St (eT i) w O w O')(hi:i≠0)(c:∀k,Fr i w O k->∃q,q∈lo/\Fr q w O' k)(ls':List Nat)(hl:(∀q∈ls,q≠i->q∈ls')/\∀q∈lo,q∈ls'):Vb w (FrS ls' w O') v x:=d.mono λk hk=>by
  refine⟨hk.1,?_⟩;by_cases a:O k=i
  . obtain⟨q,h1,h2⟩:=c k ⟨hk.1,a⟩;right;rw[h2.2];exact hl.2 q h1
  . rw[(b.same k hk.1 a).2];rcases hk.2 with e|e
    . exact .inl e
    . exact .inr (hl.1 _ e a)
end
end
section
open Go Go.RowKit
def Ci:List Nat->List (Nat×Bool)
  |[]=>[]
  |i::r=>(i,true)::Ci r
def FH(a:Nat):Nat->List Nat
  |0=>[]
  |n+1=>a::FH (a+1) n
def ZA(P:Program)(ops:Array Oper)(Q:Exit→Act→World→Prop)(S:Array Bool→World→Prop):Nat→Array Bool→Act→World→Prop
  |0,b,a,w=>Region.ready .any ops b=[]/\Q .normal a w
  |fuel+1,b,a,w =>
    (Region.ready .any ops b=[]->Q .normal a w) /\
    ∀i∈Region.ready .any ops b,wpOp P ops Q i (λa' w'=>(ZH ops i=false->S (b.setIfInBounds i true) w')/\ZA P ops Q S fuel (b.setIfInBounds i true) a' w') a w
theorem NU{P:Program}{ops:Array Oper}{Q:Exit->Act->World->Prop}{S:Array Bool->World->Prop}:∀(fuel:Nat)(b:Array Bool)(a:Act)(w:World),ZA P ops Q S fuel b a w->wpAny P .any ops Q fuel b a w
  |0,_,_,_,h=>h
  |fuel+1,_,_,_,h=>⟨h.1,λi hi=>wpOp_mono (λa' w' c=>NU fuel _ a' w' c.2) (h.2 i hi)⟩
theorem Qr{P:Program}{ops:Array Oper}{Q:Exit→Act→World→Prop}{S:Array Bool→World→Prop}{O:World→Prop}{i:Nat}{s:Oper}{v:Value}(hi:ops[i]?=some s)(p:∀(j:Nat)(o:Oper) cs b,ops[j]?=some o→o.op≠.select cs b)
    (U:∀c a w,Q (.panic c) (a.put s.dst v) w->Q (.panic c) a w) (u:∀d w,S (d.setIfInBounds i true) w->S d w) (g:∀d w,S d w->S (d.setIfInBounds i true) w)
    (x:∀d w,Closed ops d->i∈Region.ready .any ops d->S d w->O w) :
    ∀(fuel:Nat)(d:Array Bool)(a:Act)(w:World),Closed ops d ->
      (∀j q,ops[j]?=some q->j≠i->d.getD j true=false->(∀e∈q.after,Region.binds .any e=true->e.on≠i)->s.apart ops q=true) ->
      i∈Region.ready .any ops d->YieldsIf P ops O s v a->S d w ->
      ZA P ops Q S fuel (d.setIfInBounds i true) (a.put s.dst v) w->ZA P ops Q S (fuel+1) d a w:=by
  intro fuel
  induction fuel with
  |zero =>
    intro d a w l _ hr E y X;refine⟨λh=>(by rw[h]at hr;cases hr),λj hj=>?_⟩;by_cases f:j=i
    . subst f;exact E.wpOp hi (x _ _ l hr y) ⟨λ_=>g _ _ y,X⟩
    . have:=ready_mono hj f;rw[X.1]at this;cases this
  |succ fuel V =>
    intro d a w l m hr E y X;refine⟨λh=>(by rw[h]at hr;cases hr),λj hj=>?_⟩;by_cases f:j=i
    . subst f;exact E.wpOp hi (x _ _ l hr y) ⟨λ_=>g _ _ y,X⟩
    . have t:=X.2 j (ready_mono hj f);obtain⟨r,q,hoj,hall⟩:=mem_ready.1 hj;have z:∀e∈q.after,Region.binds .any e=true->e.on≠i:=λe he hb G=>by
        have t:=hall e he hb;have R:=(mem_ready.1 hr).1;rw[G]at t;rcases T9 i d.size with h'|h'
        . simp[h']at R t;rw[R]at t;cases t
        . simp[E6 h']at t
      have H:=m j q hoj f r z;have I:i∈Region.ready .any ops (d.setIfInBounds j true):=ready_mono hr (W0 f);have J:i<ops.size:=by
        rcases T9 i ops.size with h|h
        . exact h
        . rw[E6 h]at hi;cases hi
      have K:ZH ops j=false:=by
        cases hl:ZH ops j with
        |false=>rfl
        |true =>
          exfalso;have h4:=N6.1 hl i (R5.2 J);rw[Q3]at h4;rcases h4 with h4|h4
          . exact f (by simpa using h4:i=j).symm
          . have F:=Gf l ops.size j i q hoj hall h4;have T:=(mem_ready.1 hr).1;rcases T9 i d.size with h'|h'
            . simp[h']at F T;rw[T]at F;cases F
            . simp[E6 h']at F
      have n:∀k A,ops[k]?=some A->k≠i->(d.setIfInBounds j true).getD k true=false ->
          (∀e∈A.after,Region.binds .any e=true->e.on≠i)->s.apart ops A=true:=λk A hk L B M=>by
        refine m k A hk L ?_ M;by_cases C:j=k
        . subst C;exact r
        . rw[getD_set_ne true C]at B;exact B
      have W:=wpOp_putIf hoj H (λcs b=>p i s cs b hi) (λcs b=>p j q cs b hoj) U E t;refine wpOp_mono (λa' w' N=>?_) W;have D:S (d.setIfInBounds j true) w':=u _ _ (by
        have:=N.2.1 K;rwa[D6 _ _ (W0 f)]at this)
      refine⟨λ_=>D,V (d.setIfInBounds j true) a' w' (l.set hj) n I N.1 D ?_⟩;rw[D6 _ _ f];exact N.2.2
theorem Kz{P:Program}{ops:Array Oper}{Q:Exit->Act->World->Prop}{S e:Array Bool->World->Prop}(c:Array Bool->Prop)(d:∀b i,c b->c (b.setIfInBounds i true))(f:∀b w,c b->e b w->S b w) :
    ∀(fuel:Nat)(b:Array Bool)(a:Act)(w:World),c b->ZA P ops Q e fuel b a w->ZA P ops Q S fuel b a w
  |0,_,_,_,_,h=>h
  |fuel+1,b,_,_,hp,h=>⟨h.1,λi hi=>wpOp_mono (λa' w' g=>⟨λhl=>f _ _ (d _ i hp) (g.1 hl),Kz c d f fuel _ a' w' (d _ i hp) g.2⟩) (h.2 i hi)⟩
def tcs(acts:List (Nat×List Nat))(a:Array Bool):List Nat:=(acts.filter λp=>a.getD p.1 false).flatMap (·.2)
def tci(ops:Array Oper)(acts:List (Nat×List Nat))(i:Nat):List Nat:=(acts.filter λp=>!comesB ops ops.size p.1 i).flatMap (·.2)
def Sx(acts:List (Nat×List Nat))(w0:World)(O0:Lab)(a:Array Bool)(w:World):Prop:=∃c b,St (·∈tcs acts a) w0 O0 (dr w c) b
theorem St.mono{d a:Nat->Prop}{w w':World}{O b:Lab}(f:St d w O w' b)(c:∀i,d i->a i):St a w O w' b :=
  ⟨f.os,f.tape,f.output,f.size,λk hk hn=>f.same k hk λe=>hn (c _ e)⟩
theorem St.lst{c:Nat->Prop}{w w':World}{O a:Lab}(d:St c w O w' a)(ls:List Nat)(b:∀i,c i->i∈ls):St (·∈ls) w O w' a:=d.mono b
theorem lZ{w w':World}{O a:Lab}(b:St nT w O w' a):St (·∈([]:List Nat)) w O w' a:=b.lst [] λ_ b=>b.elim
theorem St.cmp{g:Nat->Prop}{ls:List Nat}{w w' b:World}{O d c:Lab}(h:St (·∈ls) w O w' d)(k:St g w' d b c)(a:List Nat)(e:∀i,g i->i∈a)(hl:(ls.all (a.contains ·))=true):St (·∈a) w O b c :=
  St.comp (h.mono λq f=>by simpa using N6.1 hl q f) (k.mono e) λ_ h=>h
theorem Sf{acts:List (Nat×List Nat)}{i:Nat}(hi:(acts.any (·.1==i))=false)(a:Array Bool):tcs acts (a.setIfInBounds i true)=tcs acts a:=by
  unfold tcs;congr 1;apply L9;intro p c;have:p.1≠i:=λe=>by
    have b:(acts.any (·.1==i))=true:=List.any_eq_true.2 ⟨p,c,by simp[e]⟩;rw[hi]at b;cases b
  exact getD_set_ne false (W0 this)
theorem Wp{ops:Array Oper}{acts:List (Nat×List Nat)}{i:Nat}{a:Array Bool}(hb:(acts.all λp=>(ops[p.1]?).isSome)=true)(b:Closed ops a)(hr:i∈Region.ready .any ops a):∀q,q∈tcs acts a->q∈tci ops acts i:=by
  intro q c;unfold tcs at c;unfold tci;rw[P2]at c ⊢;obtain⟨p,hp,c⟩:=c;rw[Q9]at hp;refine⟨p,Q9.2 ⟨hp.1,?_⟩,c⟩;cases hc:comesB ops ops.size p.1 i with
  |false=>rfl
  |true =>
    exfalso;have f:=hp.2;have hs:=N6.1 hb p hp.1;obtain⟨o,ho⟩:=Option.isSome_iff_exists.1 hs;have d:=Gf b ops.size p.1 i o ho (λe he g=>b p.1 o f ho e he g) hc;have h:=(mem_ready.1 hr).1;rcases T9 i a.size with h'|h'
    . simp[h']at d h;rw[h]at d;cases d
    . simp[E6 h']at d
def hwx(P:Program)(n:Nat)(ops:Array Oper)(Q:X0)(acts:List (Nat×List Nat))(w0:World)(O0:Lab)(fuel:Nat)(b:Array Bool)(l:Env)(w:World):Prop :=
  Closed ops b->∀a c,Ok n a l->ZA P ops (YZ n Q) (Sx acts w0 O0) fuel b a (dr w c)
def YW(P:Program)(n:Nat)(ops:Array Oper)(Q:X0)(acts:List (Nat×List Nat))(w0:World)(O0:Lab)(i:Nat)(fuel:Nat)(a:Array Bool):X0
  |.normal,l,w=>(ZH ops i=false->Sx acts w0 O0 (a.setIfInBounds i true) w)/\hwx P n ops Q acts w0 O0 fuel (a.setIfInBounds i true) l w
  |_,_,_=>False
abbrev SS(w0:World)(O0:Lab)(ls:List Nat):World->Prop:=λw'=>∃O',St (·∈ls) w0 O0 w' O'
section
variable {ls:List Nat}{w:World}{O:Lab}{i j b o g:Nat}{t:TypeId}{cs:List Value}{v0:Value}
theorem SU(a:Fr i w O b)(hd:cellsAt w b o cs)(hi:¬i∈ls:=by decide):∀w',SS w O ls w'->cellsAt w' b o cs:=λ_ ⟨_,hq⟩=>DD (hq.agree hi) a hd
theorem JI(a:Fr i w O b)(hd:cellsAt w b o (v0::cs))(hi:¬i∈ls:=by decide):∀w',SS w O ls w'->w'.cell? ⟨b,o,none⟩=some v0:=λ_ ⟨_,hq⟩=>(DD (hq.agree hi) a hd).1
theorem Qs(a:Lc j w O g t cs)(hj:¬j∈ls:=by decide):∀w',SS w O ls w'->cellsAt w' g 0 cs:=λ_ ⟨_,hq⟩=>((a.st hq hj).1).cellsAt
theorem CH(a:Lc j w O g t cs)(i:Nat)(hc:cs[i]?=some v0)(hj:¬j∈ls:=by decide):∀w',SS w O ls w'->w'.cell? ⟨g,i,none⟩=some v0:=λ_ ⟨_,hq⟩=>Blk.cell (i:=i) ((a.st hq hj).1) hc
end
theorem Bj{m x c:Nat}(a:m=x/\m<=c/\c<=9223372036854775807):m<=9223372036854775807:=U8 a.2.1 a.2.2
theorem Sx.dr{acts:List (Nat×List Nat)}{w0 w:World}{O0:Lab}{a:Array Bool}(b:Sx acts w0 O0 a w)(c:Nat):Sx acts w0 O0 a (dr w c):=by
  obtain⟨e,O',b⟩:=b;exact⟨e,O',b⟩
theorem NV{P:Program}{ops:Array Oper}{Q j:Exit→Act→World→Prop}{acts:List (Nat×List Nat)}{w0:World}{O0:Lab}{fuel:Nat}(ls:List Nat)(hs:Region.noSelect ops=true)(hb:(acts.all λp=>(ops[p.1]?).isSome)=true)(k:∀c a w,¬Q (.panic c) a w) :
    ∀(d:List (Nat×Bool))(b:Array Bool)(a:Act)(w:World),Closed ops b->Aan ops b d=true->(d.all λp=>(tci ops acts p.1).all (ls.contains ·) && !acts.any (·.1==p.1))=true->Sx acts w0 O0 b w ->
      (∀a w,Closed ops (Aai b d)->j .normal a w->ZA P ops Q (Sx acts w0 O0) fuel (Aai b d) a w)->Z8 P ops j (λw'=>∃g,SS w0 O0 ls (dr w' g)) d a w->ZA P ops Q (Sx acts w0 O0) (d.length+fuel) b a w
  |[],b,a,w,hcl,_,_,_,hk,n=>by rw[Q6,U4];exact hk a w hcl n
  |(i,  true)::r,b,a,w,hcl,hc,hl,f,hk,n=>by
    simp only[Aan,N1]at hc;rw[T4,N1,N1]at hl;obtain⟨o,v,ho,hy,hr⟩:=n;have hi:i∈Region.ready .any ops b:=(by simpa using hc.1);have e:(acts.any (·.1==i))=false:=(by simpa using hl.1.2);have m:∀b w,Sx acts w0 O0 (b.setIfInBounds i true) w->Sx acts w0 O0 b w:=λb w n=>(by unfold Sx at *;rwa[Sf e]at n);have l:∀b w,Sx acts w0 O0 b w->Sx acts w0 O0 (b.setIfInBounds i true) w:=λb w n=>(by unfold Sx at *;rwa[Sf e]);have:=Qr ho (G4 hs) (λc a w h=>(k c _ _ h).elim) m l (λb w hc hr ⟨s,O',f⟩=>(⟨s,O',f.mono λq h=>by
        have:=N6.1 hl.1.1 q (Wp hb hc hr q h);simpa using this⟩:∃g,SS w0 O0 ls (Proofs.YthgeinkfgcgjiaaGreatDoor.dr w g))) (r.length+fuel) b a w hcl (Region.free_spec ho hc.2.1) hi hy f (NV ls hs hb k r _ _ w (hcl.set hi) hc.2.2 hl.2 (l _ _ f) hk hr)
    rwa[M8,show r.length+1+fuel=r.length+fuel+1 from by omega]
  |(i,false)::r,b,a,w,hcl,hc,_,_,_,_=>by simp[Aan]at hc
section
variable {P:Program}{n:Nat}{ops:Array Oper}{Q:X0}{acts:List (Nat × List Nat)}{w0:World}{O0:Lab}{l:Env}{w:World}
theorem Xp{fuel f:Nat}{b:Array Bool}(ls:List Nat)(d:List (Nat×Bool))(hs:(Region.noSelect ops&&(acts.all λp=>(ops[p.1]?).isSome)&&Aan ops b d&&(d.all λp=>(tci ops acts p.1).all (ls.contains ·) && !acts.any (·.1==p.1)))=true)(hl:d.length+fuel=f)
    (m:hwp P n ops (thn (hwx P n ops Q acts w O0 fuel (Aai b d)) λ_ _ _=>False) (SS w O0 ls) d l w):hwx P n ops Q acts w O0 f b l w:=λh a e i=>by
  subst hl;simp only[N1]at hs;obtain⟨⟨⟨j,h2⟩,h3⟩,h4⟩:=hs;refine NV (P:=P) ls j h2 (Q:=YZ n Q) (λc a w k=>k.1) d b a (dr w e) h h3 (by simpa using h4) ⟨w.drawn,O0,St.refl _ _ _⟩ ?_ (m a e i);rintro a' w' g ⟨_,l',w₀,d',rfl,ho,hh⟩;exact hh g a' d' ho
theorem No{fuel i:Nat}{o:Oper}{b:Array Bool}(hi:ops[i]?=some o)(hr:i∈Region.ready .any ops b)(z:owp P n ops (YW P n ops Q acts w0 O0 i fuel b) [o] l w)(j:Closed ops b)(a:Act)(e:Nat)(r:Ok n a l) :
    wpOp P ops (YZ n Q) i (λa' w'=>(ZH ops i=false->Sx acts w0 O0 (b.setIfInBounds i true) w')/\ZA P ops (YZ n Q) (Sx acts w0 O0) fuel (b.setIfInBounds i true) a' w') a (dr w e):=by
  have d:=z a e r;unfold wpList at d;unfold wpOp;simp only[hi];have conv:∀a' w',YZ n (YW P n ops Q acts w0 O0 i fuel b) .normal a' w'->(ZH ops i=false->Sx acts w0 O0 (b.setIfInBounds i true) w')/\ZA P ops (YZ n Q) (Sx acts w0 O0) fuel (b.setIfInBounds i true) a' w':=by
    rintro a' w' ⟨_,l',w₀,k,rfl,q,hS,m⟩;exact⟨λhl=>(hS hl).dr k,m (j.set hr) a' k q⟩
  have f:∀g a' w',YZ n (YW P n ops Q acts w0 O0 i fuel b) g a' w'->g=.normal:=by
    rintro g a' w' ⟨hn,l',w₀,k,rfl,q,m⟩;cases g<;>first|rfl|exact m.elim
  by_cases h:Region.wanted o (yielded ops a.tmps)=true
  . rw[if_pos h]at d;rw[if_pos h];rcases d with d|⟨d,s,w0,h2⟩
    . refine .inl ?_;unfold Oper.wp at *
      generalize (execOp a.eval o).run P (dr w e)=p at *
      cases p with
      |ok t w'  =>
        cases t<;>simp only[Oper.upon]at d ⊢ <;>
          first
            |exact conv _ _ d
            |exact V9 d (λu y he=>by
                cases u with
                |returned v=>exact conv _ _ he
                |panicked c=>exact absurd (f _ _ _ he) (by simp)
                |outgrown=>obtain⟨s,w0,hq⟩:=he;exact absurd (f _ _ _ hq) (by simp))
            |exact Rows.mono d (λ_ _ he=>conv _ _ he)
            |exact d.elim
      |halt x w'=>cases x<;>simp only[Oper.upon]at d ⊢<;>first|exact d.elim|exact absurd (f _ _ _ d) (by simp)
    . exact absurd (f _ _ _ h2) (by simp)
  . rw[if_neg h]at d;rw[if_neg h];exact conv _ _ d
theorem Bo{fuel i:Nat}{f:Oper}{b:Array Bool}  (hi:ops[i]?=some f) (h:owp P n ops (YW P n ops Q acts w0 O0 i fuel b) [f] l w) (hr:Region.ready .any ops b=[i]:=by kernel_rfl):hwx P n ops Q acts w0 O0 (fuel+1) b l w:=λc a e j=>by
  refine⟨λg=>by rw[hr]at g;simp at g,λk hk=>?_⟩;have d:=hk;rw[hr]at hk;have:k=i:=(by simpa using hk);subst this;exact No hi d h c a e j
theorem NW{fuel i j:Nat}{f g:Oper}{b:Array Bool}  (hi:ops[i]?=some f) (hj:ops[j]?=some g)
    (o:owp P n ops (YW P n ops Q acts w0 O0 i fuel b) [f] l w) (p:owp P n ops (YW P n ops Q acts w0 O0 j fuel b) [g] l w) (hr:Region.ready .any ops b=[i,j]:=by kernel_rfl):hwx P n ops Q acts w0 O0 (fuel+1) b l w:=λc a e h=>by
  refine⟨λm=>by rw[hr]at m;simp at m,λk hk=>?_⟩;have d:=hk;rw[hr]at hk;have:k=i\/k=j:=(by simpa using hk);rcases this with rfl|rfl
  . exact No hi d o c a e h
  . exact No hj d p c a e h
theorem CT{fuel i:Nat}{b:Array Bool}{ls:List Nat}{h:Lab}(d:List (Nat×List Nat))(r:St (·∈ls) w0 O0 w h)  (s:hwx P n ops Q d w h fuel (b.setIfInBounds i true) l w) (hs:(ls.all ((tcs acts (b.setIfInBounds i true)).contains ·)&&d.all (acts.contains ·))=true:=by kernel_rfl):owp P n ops (YW P n ops Q acts w0 O0 i fuel b) [] l w:=by
  rw[N1]at hs;have g:∀q,q∈ls->q∈tcs acts (b.setIfInBounds i true):=λq f=>(by simpa using N6.1 hs.1 q f);have m:∀p,p∈d->p∈acts:=λq f=>(by simpa using N6.1 hs.2 q f);refine GU ⟨λ_=>⟨w.drawn,h,r.mono g⟩,λo a x t=>?_⟩;refine Kz (λc=>∀j,(b.setIfInBounds i true).getD j false=true->c.getD j false=true) (λc k y j hj=>getD_set_true (y j hj)) ?_ _ _ _ _ (λj hj=>hj) (s o a x t);rintro c v u ⟨e,O'',hS⟩;refine⟨e,O'',((r.mono λq f=>?_).comp (hS.mono λq f=>?_) λ_ y=>y:St (·∈tcs acts c) w0 O0 _ O'')⟩
  . have:=g q f;unfold tcs at this ⊢;rw[P2]at this ⊢;obtain⟨p,h1,h3⟩:=this;rw[Q9]at h1;exact⟨p,Q9.2 ⟨h1.1,u _ h1.2⟩,h3⟩
  . unfold tcs at f ⊢;rw[P2]at f ⊢;obtain⟨p,h1,h3⟩:=f;rw[Q9]at h1;exact⟨p,Q9.2 ⟨m _ h1.1,h1.2⟩,h3⟩
theorem Xq{fuel i:Nat}{a:Array Bool}(hl:ZH ops i=true)(b:hwx P n ops Q acts w0 O0 fuel (a.setIfInBounds i true) l w):owp P n ops (YW P n ops Q acts w0 O0 i fuel a) [] l w:=GU ⟨(λc=>by rw[hl]at c;exact Bool.noConfusion c),b⟩
theorem Dv{a:Array Bool}  (c:Q .normal l w) (hr:Region.ready .any ops a=[]:=by kernel_rfl):hwx P n ops Q acts w0 O0 0 a l w:=λ_ _ _ b=>⟨hr,Jr trivial b c⟩
def AaS(ms:List Nat)(o:Oper):Nat:=o.after.toList.foldl (λm e=>if Region.binds .any e=true then m|||(2 ^ e.on|||ms.getD e.on 0)else m) 0
def Zp:List Oper->List Nat->List Nat
  |[],ms=>ms
  |o::r,ms=>Zp r (ms++[AaS ms o])
def bef(ops:Array Oper)(j k:Nat):Bool:=((Zp ops.toList []).getD j 0).testBit k
theorem MR{ops:Array Oper}:∀(f j k:Nat),comesB ops f j k=true->comesB ops (f+1) j k=true
  |0,j,k,a=>by simp[comesB]at a
  |f  + 1,j,k,a=>by
    rw[comesB]at a ⊢;cases hj:ops[j]? with
    |none=>rw[hj]at a;simp at a
    |some o =>
      rw[hj]at a;simp only[Q2,K5]at a ⊢;obtain⟨e,he,a⟩:=a;refine⟨e,he,?_⟩;simp only[N1,Q3]at a ⊢;refine⟨a.1,a.2.imp id λa=>MR f e.on k a⟩
theorem Pr{ops:Array Oper}{f g j k:Nat}(b:comesB ops f j k=true)(hl:f<=g):comesB ops g j k=true:=by
  induction hl with
  |refl=>exact b
  |step _ a=>exact MR _ _ _ a
theorem Pt{ms:List Nat}{k:Nat}:∀(l:List Edge)(m:Nat),(l.foldl (λm e=>if Region.binds .any e=true then m|||(2 ^ e.on|||ms.getD e.on 0)else m) m).testBit k=true→m.testBit k=true∨∃e∈l,Region.binds .any e=true∧(e.on=k∨(ms.getD e.on 0).testBit k=true)
  |[],m,h=>.inl h
  |e  :: l,m,h=>by
    rw[P9]at h;rcases Pt l _ h with h|⟨a,h1,h2⟩
    . by_cases hb:Region.binds .any e=true
      . rw[if_pos hb,Nat.testBit_or,Nat.testBit_or,Nat.testBit_two_pow,Q3,Q3]at h;rcases h with h|h|h
        . exact .inl h
        . exact .inr ⟨e,K6,hb,.inl (by simpa using h)⟩
        . exact .inr ⟨e,K6,hb,.inr h⟩
      . rw[if_neg hb]at h;exact .inl h
    . exact .inr ⟨a,H0 _ h1,h2⟩
theorem Qt{ops:Array Oper}:∀(b d:List Oper)(c:List Nat),ops.toList=d++b→c.length=d.length→(∀a k,(c.getD a 0).testBit k=true→comesB ops (a+1) a k=true)→(Zp b c).length=ops.size∧∀a k,((Zp b c).getD a 0).testBit k=true→comesB ops (a+1) a k=true
  |[],d,c,h1,h2,h3=>⟨by rw[Zp,h2,<- I2,h1,Q5],h3⟩
  |o  :: b,d,c,h1,h2,h3=>by
    refine Qt b (d++[o]) (c++[AaS c o]) (by rw[h1,L8];rfl) (by simp[h2]) λa k hk=>?_;by_cases g:a<c.length
    . rw[C1,C4 g,<- C1]at hk;exact h3 a k hk
    . by_cases f:a=c.length
      . subst f;have:(c++[AaS c o]).getD c.length 0=AaS c o:=(by simp);rw[this]at hk;rcases Pt _ _ hk with h|⟨e,he,hb,h⟩
        . simp at h
        . have i:ops[c.length]?=some o:=(by rw[<- F8,h1,h2];simp);rw[comesB,i];simp only[Q2,K5,N1,Q3];refine⟨e,by simpa using he,hb,?_⟩;rcases h with h|h
          . exact .inl (by simpa using h)
          . have hlt:e.on<c.length:=by
              rcases T9 e.on c.length with h'|h'
              . exact h'
              . rw[C1,F2 h']at h;simp at h
            exact .inr (Pr (h3 _ _ h) hlt)
      . rw[C1,F2 (by simp;omega)]at hk;simp at hk
theorem Kh{ops:Array Oper}{j k:Nat}(c:bef ops j k=true):comesB ops ops.size j k=true:=by
  obtain⟨b,h2⟩:=Qt (ops:=ops) ops.toList [] [] (by simp) rfl (λa k c=>by simp at c);refine Pr (h2 j k c) ?_;rcases T9 j ops.size with h'|h'
  . exact h'
  . unfold bef at c;rw[C1,F2 (by omega)]at c;simp at c
theorem Bl{fuel d:Nat}{b:Array Bool}(ls:List Nat)(c:List (Nat×Bool))  (hl:c.length+fuel=d)
    (h:hwp P n ops (thn (hwx P n ops Q acts w O0 fuel (Aai b c)) λ_ _ _=>False) (SS w O0 ls) c l w) (hs:(Region.noSelect ops&&(acts.all λp=>(ops[p.1]?).isSome)&&Aan ops b c&&(c.all λp=>(acts.all λq=>q.2.all (ls.contains ·)||bef ops q.1 p.1) && !acts.any (·.1==p.1)))=true:=by kernel_rfl):hwx P n ops Q acts w O0 d b l w:=by
  refine Xp ls c ?_ hl h;simp only[N1]at hs ⊢;refine⟨hs.1,N6.2 λp g=>?_⟩;have e:=N6.1 hs.2 p g;rw[N1]at e ⊢;refine⟨N6.2 λq f=>?_,e.2⟩;unfold tci at f;rw[P2]at f;obtain⟨a,ha,hqa⟩:=f;rw[Q9]at ha;have h2:=N6.1 e.1 a ha.1;rw[Q3]at h2;rcases h2 with h2|h2
  . exact N6.1 h2 q hqa
  . have:=ha.2;rw[Kh h2]at this;simp at this
theorem Gn{fuel i:Nat}{a:Array Bool}  (b:hwx P n ops Q acts w0 O0 fuel (a.setIfInBounds i true) l w) (hl:((List.range ops.size).all λk=>k==i||bef ops i k)=true:=by kernel_rfl):owp P n ops (YW P n ops Q acts w0 O0 i fuel a) [] l w:=by
  refine Xq ?_ b;refine N6.2 λk hk=>?_;have:=N6.1 hl k hk;rw[Q3]at this ⊢;exact this.imp id Kh
theorem Ck[hm:Mixed P]{id:Nat}{L:List Oper}(acts:List (Nat×List Nat))(O:Lab)(d:hwx P n L.toArray Q acts w O L.toArray.size (Array.replicate L.toArray.size false) l w):ewp P n (.region id L.toArray true) Q l w:=λa e b =>
  wp_region_any hm.eq (NU _ _ _ _ (d (λm c hm=>by
      simp only[B7,D7]at hm;split at hm<;>simp at hm) a (e+1) b))
end
end
section
open Go Go.RowKit
def ZI(n:Int):Value:=if n=0 then .nilIface else .iface 49 (.int .i64 n)
theorem IO:ZI 0=.nilIface:=by unfold ZI;rfl
theorem JJ{n:Int}(a:n≠0):ZI n=.iface 49 (.int .i64 n):=by unfold ZI;rw[if_neg a]
theorem GO(n:Int):(ZI n).oneCell'=true:=by unfold ZI;split<;>rfl
structure Err where
  n:Int
instance:Rp Err where
  isAgg:=false
  size:=1
  R _ _ cs x:=cs=[ZI x.n]/\W1 x.n
  len:=by rintro w F cs x ⟨rfl,_⟩;rfl
  one:=by
    rintro w F cs x ⟨rfl,_⟩ u hu;have:u=ZI x.n:=(by simpa using hu);subst this;exact GO _
  agree:=λa _=>a
  mono:=λa _=>a
theorem Vb.err{w:World}{F:Nat->Prop}{v:Value}{x:Err}(b:Vb w F v x):v=ZI x.n/\W1 x.n:=by
  obtain⟨a,h2⟩:=b;exact⟨by simpa using a,h2⟩
theorem vErr{w:World}{F:Nat->Prop}{n:Int}(a:W1 n):Vb w F (ZI n) (⟨n⟩:Err):=⟨rfl,a⟩
theorem vErr0{w:World}{F:Nat->Prop}:Vb w F .nilIface (⟨0⟩:Err):=⟨by rw[IO],by decide⟩
end
section
open Go Go.RowKit
inductive Fa:Type 1
  |T
  |V {α:Type} [Rp α] (v:Value) (x:α)
  |R {α:Type} [Rp α] (i:Nat) (e:TypeId) (v:Value) (xs:List α)
  |L (i g:Nat) (t:TypeId) (cs:List Value)
  |C (i b o:Nat) (cs:List Value)
  |W {α:Type} [Rp α] (ls:List Nat) (v:Value) (x:α)
  |B {α:Type} [Ow α] (i:Nat) (v:Value) (x:α)
  |X (p:Prop)
  |S (w0:World) (O0:Lab) (ls:List Nat)
def Fa.P:Fa->World->Lab->Prop
  |.T,_,_=>True
  |@Fa.V _ _ v x,w,O=>Vb w (Fr 0 w O) v x
  |@Fa.R _ _ i e v xs,w,O=>Rw i w O e v xs
  |.L i g t cs,w,O=>Lc i w O g t cs
  |.C i b o cs,w,O=>Fr i w O b/\cellsAt w b o cs
  |@Fa.W _ _ a v x,w,O=>Vb w (FrS a w O) v x
  |@Fa.B _ _ i v x,w,O=>Ob i w O v x
  |.X p,_,_=>p
  |.S c d a,w,O=>St (·∈a) c d w O
def Fa.lab:Fa->List Nat
  |@Fa.R _ _ i _ _ _=>[i]
  |.L i _ _ _=>[i]
  |.C i _ _ _=>[i]
  |@Fa.W _ _ a _ _=>a
  |@Fa.B _ _ i _ _=>[i]
  |_=>[]
def Fa.own:Fa->Nat
  |@Fa.R _ _ i _ _ _=>i
  |.L i _ _ _=>i
  |@Fa.B _ _ i _ _=>i
  |_=>0
def Fa.may(i:Nat):Fa->Bool
  |.S _ _ a=>inK i a
  |_=>true
theorem TI{i:Nat}:∀{l:List Nat},¬i∈l->inK i l=false
  |[],_=>rfl
  |a  :: l,h=>by
    unfold inK;have b:Nat.beq a i=false:=by
      cases hb:Nat.beq a i with
      |false=>rfl
      |true=>exact absurd (by rw[F1 hb];exact K6) h
    rw[b];exact TI λhm=>h (H0 _ hm)
theorem Fa.st{k:Nat->Prop}{w w':World}{O O':Lab}:∀{f:Fa}(m:f.P w O)(a:St k w O w' O')(c:¬k 0)(hl:∀i∈f.lab,¬k i)(hs:∀i,k i->f.may i=true),f.P w' O'
  |.T,_,_,_,_,_=>trivial
  |.X _,m,_,_,_,_=>m
  |.S h j d,m,a,_,_,hs=>by
    change St (·∈d) h j _ _ at m;exact St.comp m a λi hi=>by
      have:=hs i hi;exact C6 λhn=>by simp[Fa.may,TI hn]at this
  |@Fa.V _ _ v x,m,a,c,_,_=>by
    change Vb w (Fr 0 w O) v x at m;exact Vb.st m a c
  |@Fa.R _ _ i e v xs,m,a,c,hl,_=>by
    change Rw i w O e v xs at m;exact Rw.st m a c (hl i (K6 (l:=[])))
  |.L i g t cs,m,a,c,hl,_=>by
    change Lc i w O g t cs at m;exact Lc.st m a (hl i (K6 (l:=[])))
  |.C i b o cs,m,a,c,hl,_=>by
    change Fr i w O b/\cellsAt w b o cs at m;have hi:=hl i (K6 (l:=[]));exact⟨a.fr hi _ m.1,DD (a.agree hi) m.1 m.2⟩
  |@Fa.W _ _ d v x,m,a,c,hl,_=>by
    change Vb w (FrS d w O) v x at m;exact Vb.stS m a c hl
  |@Fa.B _ _ i v x,m,a,c,hl,_=>by
    change Ob i w O v x at m;exact Ob.st m a c (hl i (K6 (l:=[])))
def Aas(i:Nat)(f':Fa):List Fa→Option (List Fa)
  |[]=>some []
  |f  :: Γ=>match Aas i f' Γ with
    |none=>none
    |some a=>match Nat.beq f.own i with
      |true=>some (f'::a)
      |false=>match inK i f.lab with
        |true=>some a
        |false=>match f.may i with
          |true=>some (f::a)
          |false=>some a
structure Bse where
  P:World->Lab->Prop
  st:∀{T:Nat->Prop}{w w':World}{O O':Lab},P w O->St T w O w' O'->¬T 0->¬T 1->P w' O'
def bS(a:World)(A:Nat->Prop):Bse:=⟨Bs a A,λe b c d=>e.st b c d⟩
def Al(B:Bse):List Fa->World->Lab->Prop
  |[],w,O=>B.P w O
  |f::Γ,w,O=>f.P w O/\Al B Γ w O
inductive In:List Fa->Fa->Prop
  |hd {f:Fa} {Γ:List Fa}:In (f::Γ) f
  |tl {f g:Fa} {Γ:List Fa} (h:In Γ f):In (g::Γ) f
section
variable {B:Bse}{Γ:List Fa}{w w':World}{O O':Lab}{i:Nat}{f:Fa}
theorem Al.at(b:Al B Γ w O)(hi:In Γ f):f.P w O:=by
  induction hi with
  |hd=>exact b.1
  |tl _ a=>exact a b.2
theorem Al.base:∀{Γ:List Fa},Al B Γ w O->B.P w O
  |[],h=>h
  |_::_,h=>Al.base h.2
theorem OQ{i:Nat}:∀{l:List Nat},inK i l=false->¬i∈l
  |[],_=>by simp
  |a  :: l,b=>by
    unfold inK at b;cases hb:Nat.beq a i with
    |true=>rw[hb]at b;cases b
    |false =>
      rw[hb]at b;intro hm;rcases S0.1 hm with rfl|hm
      . rw[T8]at hb;cases hb
      . exact OQ b hm
theorem Al.no:∀{Γ:List Fa},Al B Γ w O->St nT w O w' O'->Al B Γ w' O'
  |[],a,hS=>B.st a hS id id
  |_::_,a,hS=>⟨Fa.st a.1 hS id (λ_ _=>id) λ_ a=>a.elim,Al.no a.2 hS⟩
theorem KQ(a:Nat.ble 2 i=true):0≠i/\1≠i:=by
  have:=F5 a;omega
theorem Al.so{f':Fa}(hi:Nat.ble 2 i=true)(hf:f'.P w' O'):∀{Γ a:List Fa},Al B Γ w O→St (eT i) w O w' O'→Aas i f' Γ=some a→Al B a w' O'
  |[],a,h,hS,e=>by
    obtain rfl:=Q1 e;exact B.st h hS (KQ hi).1 (KQ hi).2
  |g  :: Γ,a,h,hS,e=>by
    unfold Aas at e;cases hr:Aas i f' Γ with
    |none=>rw[hr]at e;cases e
    |some c =>
      rw[hr]at e;have b:=Al.so hi hf h.2 hS hr;cases hb:Nat.beq g.own i with
      |true=>rw[hb]at e;obtain rfl:=Q1 e;exact⟨hf,b⟩
      |false =>
        rw[hb]at e;cases hk:inK i g.lab with
        |true=>rw[hk]at e;obtain rfl:=Q1 e;exact b
        |false =>
          rw[hk]at e;cases hm:g.may i with
          |false=>rw[hm]at e;obtain rfl:=Q1 e;exact b
          |true=>rw[hm]at e;obtain rfl:=Q1 e;exact⟨Fa.st h.1 hS (KQ hi).1 (λj hj e=>OQ hk (e▸hj)) λj e=>by rw[e];exact hm,b⟩
inductive Sb:List Fa->List Fa->Prop
  |nil {Γ:List Fa}:Sb Γ []
  |t {Γ Δ:List Fa} (h:Sb Γ Δ):Sb Γ (.T::Δ)
  |cons {f:Fa} {Γ Δ:List Fa} (hf:In Γ f) (h:Sb Γ Δ):Sb Γ (f::Δ)
  |x {p:Prop} {Γ Δ:List Fa} (hp:p) (h:Sb Γ Δ):Sb Γ (.X p::Δ)
  |v {α:Type} [Rp α] {Γ Δ:List Fa} (h:Sb Γ Δ):Sb Γ (.V (.slice none 0 0) ([]:List α)::Δ)
  |n {α:Type} [Rp α] {i:Nat} {e:TypeId} {Γ Δ:List Fa} (hi:Nat.ble 1 i=true) (h:Sb Γ Δ):Sb Γ (.R i e (.slice none 0 0) ([]:List α)::Δ)
theorem Al.sub(b:Al B Γ w O):∀{a:List Fa},Sb Γ a->Al B a w O
  |_,.nil=>Al.base b
  |_,.t k=>⟨trivial,Al.sub b k⟩
  |_,.cons hf k=>⟨Al.at b hf,Al.sub b k⟩
  |_,.x hp k=>⟨hp,Al.sub b k⟩
  |_,@Sb.v _ _ _ _ k=>⟨Vb.nil _ _,Al.sub b k⟩
  |_,@Sb.n _ _ _ _ _ _ hi k=>⟨Rw.nil _ (by have:=F5 hi;omega),Al.sub b k⟩
end
class El(α:Type)[Rp α](K:outParam (Bse->List Fa->World->Lab->α->(Value->Prop)->Prop)):Prop where
  el:∀{B:Bse}{Γ:List Fa}{w:World}{O:Lab}{x:α}{v:Value}{G:Value->Prop},Al B Γ w O->Vb w (Fr 0 w O) v x->K B Γ w O x G->G v
instance:El Int λB Γ w O x G=>W1 x->Al B Γ w O->G (.int .i64 x):=⟨λa b k=>by
  obtain⟨rfl,hr⟩:=b.int;exact k hr a⟩
instance:El Bool λB Γ w O x G=>Al B Γ w O->G (.bool x):=⟨λa b k=>by
  obtain rfl:=b.bool;exact k a⟩
instance:El ByteArray λB Γ w O x G=>x.size<=9223372036854775807->Al B Γ w O->G (.string x):=⟨λa b k=>by
  obtain⟨rfl,hr⟩:=b.str;exact k hr a⟩
instance:El Err λB Γ w O x G=>W1 x.n->Al B Γ w O->G (ZI x.n):=⟨λa b k=>by
  obtain⟨rfl,hr⟩:=b.err;exact k hr a⟩
instance{α:Type}[Rp α]:El (List α) λB Γ w O x G=>∀A c,Al B (.V (.slice A x.length c) x::Γ) w O->G (.slice A x.length c):=⟨λa b k=>by
  obtain⟨A,c,rfl⟩:=b.form;exact k A c ⟨b,a⟩⟩
class Ec(α:Type)[Rp α](K:outParam (Bse->List Fa->World->Lab->Nat->Nat->Nat->α->Prop->Prop)):Prop where
  ec:∀{B:Bse}{Γ:List Fa}{w:World}{O:Lab}{i b o:Nat}{x:α}{cs:List Value}{G:Prop},Al B Γ w O->Fr i w O b->cellsAt w b o cs->Rp.R w (Fr 0 w O) cs x->K B Γ w O i b o x G->G
instance:Ec Int λB Γ w O i b o x G=>W1 x->Al B (.C i b o [.int .i64 x]::Γ) w O->G:=⟨λc a hc d k=>by
  obtain⟨rfl,hr⟩:=d;exact k hr ⟨⟨a,hc⟩,c⟩⟩
instance{α:Type}[Rp α]:Ec (List α) λB Γ w O i b o x G=>∀A c,Al B (.C i b o [.slice A x.length c] :: .V (.slice A x.length c) x::Γ) w O->G:=⟨λd a hc e k=>by
  obtain⟨v,rfl,e⟩:=e;replace e:=Vb.of_slice e;obtain⟨A,c,rfl⟩:=e.form;exact k A c ⟨⟨a,hc⟩,e,d⟩⟩
end
end Go.Proofs.YthgeinkfgcgjiaaGreatDoor

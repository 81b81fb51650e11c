/- Own text: what the proof of wholeSymmetry_holds uses, part 1: rules, models and their proofs, plain laws. -/
import Derived.Tactics
import Derived.Below
import Derived.OrdersHeld
import Derived.KernelRfl
import Derived.OwnWalk
import Derived.Maps.AppendAt
import Derived.Laws.MakeOwn
import Derived.Deep.Slices
import Derived.ChangeSame
import Derived.Test.YtonclmjaphieiaaGreatProg
import Derived.ProofKit
import Derived.ReadAgain
import Derived.ChangeStays
import Derived.Ground.SlsfProg
import Derived.Shelf.SlSortCmp.WholeK
import Derived.Shelf.SlSortCmp.NoneTotal
import Derived.Sort.AssemblyPlain
import Derived.Deep.Draws
import Derived.MapKept
import Derived.Shelf.Sort.Plain
import Derived.Shelf.Slices.In.SortNone
import Derived.Laws.CopyRow
import Derived.Laws.IdiomCopy
import Derived.Lib.AppendZerosOnto
import Derived.Lib.Overlaps
import Derived.Laws.Externs
import Derived.Shelf.SlSortCmp.Whole1
set_option linter.unusedVariables false
set_option linter.unusedSimpArgs false
namespace Go.Proofs.YtonclmjaphieiaaGreat
open Go Go.RowKit Go.Proofs.Tryz
theorem A5{α}{a b c d:α}:a=a∧b=b∧c=c∧d=d∧True:=⟨rfl,rfl,rfl,rfl,trivial⟩
theorem A7{α}{a b c d e:α}:a=a∧b=b∧c=c∧d=d∧e=e∧True:=⟨rfl,rfl,rfl,rfl,rfl,trivial⟩
theorem A9{α}{a b c d e f:α}:a=a∧b=b∧c=c∧d=d∧e=e∧f=f∧True:=⟨rfl,rfl,rfl,rfl,rfl,rfl,trivial⟩
theorem Ad{α}{a:α}:a=a∧True:=⟨rfl,trivial⟩
theorem Af{α}{a b c:α}:a=a∧b=b∧c=c∧True:=⟨rfl,rfl,rfl,trivial⟩
theorem Ax{α}{a b c d e f g h:α}:a=a∧b=b∧c=c∧d=d∧e=e∧f=f∧g=g∧h=h∧True:=⟨rfl,rfl,rfl,rfl,rfl,rfl,rfl,rfl,trivial⟩
theorem B3{α}{a b c d e f g:α}:a=a∧b=b∧c=c∧d=d∧e=e∧f=f∧g=g∧True:=⟨rfl,rfl,rfl,rfl,rfl,rfl,rfl,trivial⟩
theorem B5{α}{a b:α}:a=a∧b=b∧True:=⟨rfl,rfl,trivial⟩
theorem Co{α}{a b c d e f g h i:α}:a=a∧b=b∧c=c∧d=d∧e=e∧f=f∧g=g∧h=h∧i=i∧True:=⟨rfl,rfl,rfl,rfl,rfl,rfl,rfl,rfl,rfl,trivial⟩
theorem D2{α}{a b c d e f g h i j:α}:a=a∧b=b∧c=c∧d=d∧e=e∧f=f∧g=g∧h=h∧i=i∧j=j∧True:=⟨rfl,rfl,rfl,rfl,rfl,rfl,rfl,rfl,rfl,rfl,trivial⟩
theorem D3{α}{a b c d e f g h i j k:α}:a=a∧b=b∧c=c∧d=d∧e=e∧f=f∧g=g∧h=h∧i=i∧j=j∧k=k∧True:=⟨rfl,rfl,rfl,rfl,rfl,rfl,rfl,rfl,rfl,rfl,rfl,trivial⟩
theorem D4{α}{a b c d e f g h i j k l:α}:a=a∧b=b∧c=c∧d=d∧e=e∧f=f∧g=g∧h=h∧i=i∧j=j∧k=k∧l=l∧True:=⟨rfl,rfl,rfl,rfl,rfl,rfl,rfl,rfl,rfl,rfl,rfl,rfl,trivial⟩
abbrev B0:=@List.set_eq_take_append_cons_drop
abbrev B1:=@List.eq_nil_of_length_eq_zero
abbrev B2:=@List.take_append_of_le_length
abbrev B4:=@Array.getD_eq_getD_getElem?
abbrev B6:=@Array.getElem?_append_left
abbrev B7:=@Array.getElem?_eq_some_iff
abbrev B8:=@List.getElem?_append_right
abbrev B9:=@List.getD_eq_getElem?_getD
abbrev C0:=@List.nodup_iff_pairwise_ne
abbrev C1:=@List.getElem?_eq_some_iff
abbrev C2:=@List.getElem?_append_left
abbrev C3:=@List.drop_eq_getElem_cons
abbrev C4:=@Classical.byContradiction
abbrev C5:=@List.pairwise_iff_getElem
abbrev C6:=@Array.getElem?_eq_getElem
abbrev C7:=@List.getElem_append_right
abbrev C8:=@List.mem_or_eq_of_mem_set
abbrev C9:=@List.getElem?_eq_getElem
abbrev D0:=@Array.setIfInBounds_comm
abbrev D1:=@Array.getElem?_replicate
abbrev D6:=@List.getElem_append_left
abbrev D7:=@List.Perm.eq_of_pairwise
abbrev D8:=@List.getElem?_take_of_lt
abbrev D9:=@Bool.eq_false_or_eq_true
abbrev E3:=@Int.eq_ofNat_of_zero_le
abbrev E4:=@List.pairwise_mergeSort
abbrev E5:=@List.getElem?_cons_succ
abbrev E6:=@List.getElem?_replicate
abbrev E7:=@Classical.epsilon_spec
abbrev E8:=@List.take_of_length_le
abbrev E9:=@Array.getElem?_eq_none
abbrev F0:=@Option.map_eq_some_iff
abbrev F1:=@MapKept.run_getObj_map
abbrev F2:=@List.getElem?_set_self
abbrev F3:=@List.drop_eq_nil_of_le
abbrev F4:=@Nat.eq_of_beq_eq_true
abbrev F5:=@List.getElem?_eq_none
abbrev F6:=@Array.getElem?_modify
abbrev F7:=@List.take_append_drop
abbrev F8:=@Nat.le_of_ble_eq_true
abbrev F9:=@List.length_replicate
abbrev G0:=@Array.getElem?_toList
abbrev G1:=@List.length_singleton
abbrev G2:=@List.perm_append_comm
abbrev G4:=@List.length_filter_le
abbrev G8:=@Region.noSelect_spec
abbrev G9:=@Nat.mul_le_mul_right
abbrev H0:=@List.mem_append_left
abbrev H1:=@List.mem_cons_of_mem
abbrev H2:=@List.mem_of_getElem?
abbrev H3:=@List.getElem?_of_mem
abbrev H4:=@List.getElem_toArray
abbrev H5:=@Array.getElem_mapIdx
abbrev H6:=@MapKept.run_checkKey
abbrev H7:=@List.getElem?_set_ne
abbrev H8:=@List.mem_of_mem_drop
abbrev H9:=@List.mem_of_mem_take
abbrev I8:=@Array.length_toList
abbrev I9:=@MapKept.run_findKey
abbrev J0:=@List.mergeSort_perm
abbrev J8:=@List.take_succ_cons
abbrev J9:=@List.flatMap_append
abbrev K0:=@List.getElem?_range
abbrev K1:=@List.map_congr_left
abbrev K2:=@Nat.lt_of_le_of_lt
abbrev K3:=@Nat.lt_of_lt_of_eq
abbrev K4:=@List.length_append
abbrev K5:=@Nat.lt_of_lt_of_le
abbrev K6:=@List.getElem?_drop
abbrev K7:=@List.getElem?_take
abbrev K8:=@Nat.eq_zero_or_pos
abbrev K9:=@Array.any_eq_true'
abbrev L0:=@List.mem_cons_self
abbrev L4:=@Array.extract_size
abbrev L5:=@List.pairwise_cons
abbrev L6:=@Bool.false_eq_true
abbrev L7:=@Nat.sub_add_cancel
abbrev L8:=@Option.toList_some
abbrev L9:=@Int.lt_or_eq_of_le
abbrev M0:=@List.mem_singleton
abbrev M1:=@Int.lt_of_le_of_lt
abbrev M2:=@List.append_assoc
abbrev M3:=@List.filter_congr
abbrev M4:=@List.take_add_one
abbrev M5:=@List.ext_getElem?
abbrev M6:=@List.flatMap_cons
abbrev M7:=@Array.size_mapIdx
abbrev M8:=@List.size_toArray
abbrev M9:=@List.getElem?_map
abbrev N0:=@List.getElem?_set
abbrev N1:=@Int.toNat_natCast
abbrev N6:=@Classical.not_not
abbrev N7:=@List.pairwise_map
abbrev N8:=@List.drop_sublist
abbrev N9:=@List.nodup_append
abbrev O7:=@Nat.lt_trichotomy
abbrev P1:=@Option.getD_some
abbrev P2:=@Option.bind_some
abbrev P3:=@List.length_cons
abbrev P4:=@List.cons_append
abbrev P5:=@Array.toList_inj
abbrev P6:=@Bool.and_eq_true
abbrev P7:=@List.all_eq_true
abbrev P8:=@List.length_drop
abbrev P9:=@List.length_take
abbrev Q0:=@List.drop_length
abbrev Q1:=@Nat.lt_succ_self
abbrev Q2:=@List.mem_flatMap
abbrev Q3:=@List.take_length
abbrev Q4:=@Nat.le_of_not_lt
abbrev Q5:=@MapKept.heap_set
abbrev Q6:=@List.getElem_inj
abbrev Q7:=@List.filter_cons
abbrev Q8:=@List.mem_append
abbrev Q9:=@List.foldl_cons
abbrev R0:=@Int.natCast_mul
abbrev R1:=@Option.some.inj
abbrev R2:=@Bool.or_eq_true
abbrev R3:=@List.nil_append
abbrev R4:=@List.append_nil
abbrev R5:=@List.length_nil
abbrev R6:=@List.length_set
abbrev R7:=@Nat.min_eq_left
abbrev R8:=@List.mem_filter
abbrev R9:=@List.length_map
abbrev S0:=@Option.map_some
abbrev S5:=@Bool.eq_iff_iff
abbrev S8:=@List.map_append
abbrev T4:=@List.mem_range
abbrev T5:=@List.Perm.refl
abbrev T6:=@List.nodup_nil
abbrev T7:=@List.map_cons
abbrev T8:=@List.mem_cons
abbrev T9:=@Nat.lt_irrefl
abbrev U0:=@List.all_cons
abbrev U1:=@List.map_take
abbrev U4:=@List.take_set
abbrev U6:=@Code.wp_mono
abbrev U7:=@Nat.beq_refl
abbrev U8:=@Nat.lt_or_ge
abbrev U9:=@Nat.add_zero
abbrev V0:=@Nat.zero_add
abbrev V4:=@Nat.le_of_eq
abbrev V5:=@Nat.sub_zero
abbrev V6:=@Nat.le_trans
abbrev V7:=@Int.le_trans
abbrev V8:=@List.mem_map
abbrev V9:=@Nat.le_of_lt
abbrev W0:=@Int.le_of_lt
abbrev W1:=@Int.add_zero
abbrev W3:=@Nat.le_refl
abbrev W4:=@Nat.add_mul
abbrev W5:=@Int.le_refl
abbrev W6:=@Nat.zero_le
abbrev W7:=@Nat.mul_one
abbrev W8:=@Below.refl
abbrev W9:=@Int.not_lt
abbrev X0:=@Ne.symm
abbrev X1:=@Iff.rfl
section
open Go Go.RowKit
abbrev Env:=List (Nat×Value)
def lk:Env→Nat→Option Value
  |[],_=>none
  |(i,v)::l,j=>match Nat.beq i j with
    |true=>some v
    |false=>lk l j
def opv(l:Env):Operand->Option Value
  |.tmp t=>lk l t
  |.const v=>some v
  |.global g=>some (.pointer (some ⟨g,0,none⟩))
  |.func f=>some (.func (.func f) #[] #[])
def Y3(l:Env):List Operand→Option (List Value)
  |[]=>some []
  |x  :: r=>match opv l x with
    |some v=>match Y3 l r with
      |some vs=>some (v::vs)
      |none=>none
    |none=>none
structure Ok(n:Nat)(a:Act)(l:Env):Prop where
  size:a.tmps.size=n
  defers:a.defers=[]
  knows:∀i v,lk l i=some v->a.tmps.getD i undef=v
theorem Ok.put{n d:Nat}{a:Act}{l:Env}(h:Ok n a l)(hd:Nat.blt d n=true)(v:Value):Ok n (a.put (some d) v) ((d,v)::l):=by
  have b:d<n:=(by simpa using hd);refine⟨by simp[Act.put,h.size],h.defers,λi u hu=>?_⟩;simp only[lk]at hu;cases hb:Nat.beq d i with
  |true =>
    rw[hb]at hu;have:d=i:=F4 hb;subst this;have hlt:d<a.tmps.size:=(by rw[h.size];exact b);simp only[Act.put,B4,Array.getElem?_setIfInBounds,hlt,if_true,P1];simpa using hu
  |false =>
    rw[hb]at hu;have c:d≠i:=Nat.ne_of_beq_eq_false hb;have:=h.knows i u hu;simp only[Act.put,B4,Array.getElem?_setIfInBounds,c,if_false]at this ⊢;exact this
theorem Ok.eval{n:Nat}{a:Act}{l:Env}(h:Ok n a l){x:Operand}{v:Value}(b:opv l x=some v):a.eval x=v:=by
  cases x with
  |tmp t=>exact h.knows t v b
  |const u=>simpa[opv,Act.eval]using b
  |global g=>simpa[opv,Act.eval]using b
  |func f=>simpa[opv,Act.eval]using b
theorem Ok.evals{n:Nat}{a:Act}{l:Env}(h:Ok n a l):∀{xs:List Operand}{vs:List Value},Y3 l xs=some vs→xs.map a.eval=vs
  |[],vs,hx=>by simpa[Y3]using hx
  |x  :: r,vs,hx=>by
    simp only[Y3]at hx;cases hv:opv l x with
    |none=>rw[hv]at hx;simp at hx
    |some v =>
      rw[hv]at hx;cases hr:Y3 l r with
      |none=>rw[hr]at hx;simp at hx
      |some c =>
        rw[hr]at hx;have b:v::c=vs:=(by simpa using hx);rw[T7,h.eval hv,h.evals hr,b]
def X5(l:Env):Env->Prop
  |[]=>True
  |(i,v)::r=>lk l i=some v/\X5 l r
theorem AR{l:Env}:∀{a:Env},X5 l a->∀i v,lk a i=some v->lk l i=some v
  |[],_,i,v,h=>by simp[lk]at h
  |(j,u)::r,hs,i,v,h=>by
    simp only[lk]at h;cases hb:Nat.beq j i with
    |true =>
      rw[hb]at h;have:j=i:=F4 hb;subst this;have:u=v:=(by simpa using h);subst this;exact hs.1
    |false=>rw[hb]at h;exact AR hs.2 i v h
theorem Ok.sub{n:Nat}{a:Act}{l b:Env}(h:Ok n a l)(hs:X5 l b):Ok n a b:=⟨h.size,h.defers,λi v hv=>h.knows i v (AR hs i v hv)⟩
def dr(w:World)(d:Nat):World:={ w with drawn:=d }
theorem Jr(w:World):dr w w.drawn=w:=rfl
theorem LC(w:World)(d:Nat):(dr w d).heap=w.heap:=rfl
theorem LD(w:World)(d:Nat)(a:Addr):(dr w d).cell? a=w.cell? a:=rfl
abbrev YX:=Exit->Env->World->Prop
def AaO:Exit->Prop
  |.panic _=>False
  |.outgrown=>False
  |_=>True
def ZE(n:Nat)(Q:YX)(e:Exit)(a:Act)(w:World):Prop:=AaO e/\∃l b d,w=dr b d/\Ok n a l/\Q e l b
theorem Kv{n:Nat}{Q:YX}{e:Exit}{a:Act}{w:World}{l:Env}{d:Nat}(he:AaO e)(h:Ok n a l)(b:Q e l w):ZE n Q e a (dr w d):=⟨he,l,w,d,rfl,h,b⟩
def ewp(P:Program)(n:Nat)(c:Code)(Q:YX)(l:Env)(w:World):Prop:=∀a d,Ok n a l->c.wp P (ZE n Q) a (dr w d)
def owp(P:Program)(n:Nat)(ops:Array Oper)(Q:YX)(rest:List Oper)(l:Env)(w:World):Prop:=∀a d,Ok n a l->wpList P ops (ZE n Q) rest a (dr w d)
section code
variable {P:Program}{n:Nat}{Q:YX}{l:Env}{w:World}
def thn(K:Env->World->Prop)(Q:YX):YX
  |.normal,l,w=>K l w
  |e,l,w=>Q e l w
theorem HQ{c:Code}{b:YX}(f:∀e l w,Q e l w->b e l w)(h:ewp P n c Q l w):ewp P n c b l w :=
  λa d g=>U6 (λ_ _ _ ⟨hn,l,w,d,hw,ho,q⟩=>⟨hn,l,w,d,hw,ho,f _ _ _ q⟩) (h a d g)
theorem Ak{x y:Code}(h:ewp P n x (thn (ewp P n y Q) Q) l w):ewp P n (.seq x y) Q l w:=λa d b =>
  wp_seq (U6 (λe a w hl=>by
    obtain⟨hn,l',w',d',rfl,ho,hq⟩:=hl;cases e with
    |normal=>exact hq a d' ho
    |panic c=>exact hn.elim
    |outgrown=>exact hn.elim
    |exit i=>exact⟨trivial,l',w',d',rfl,ho,hq⟩
    |goto i=>exact⟨trivial,l',w',d',rfl,ho,hq⟩
    |ret=>exact⟨trivial,l',w',d',rfl,ho,hq⟩) (h a d b))
theorem Ta{x y:Code}(b:Env->World->Prop)(h:ewp P n x (thn b Q) l w)(k:∀a w',b a w'->ewp P n y Q a w'):ewp P n (.seq x y) Q l w :=
  Ak (HQ (λe l w q=>by cases e<;>first|exact k _ _ q|exact q) h)
theorem Bf(h:Q .normal l w):ewp P n .skip Q l w:=λ_ _ a=>wp_skip (Kv trivial a h)
theorem Cn{i:Nat}(h:Q (.exit i) l w):ewp P n (.exit i) Q l w:=λ_ _ a=>wp_exit (Kv trivial a h)
theorem AV(h:Q .ret l w):ewp P n .ret Q l w:=λ_ _ a=>wp_ret (Kv trivial a h)
theorem Aj{c:Operand}{x y:Code}(hc:opv l c=some (.bool true))(h:ewp P n x Q l w):ewp P n (.cond c x y) Q l w:=λa d b=>wp_cond_true (b.eval hc) (h a d b)
theorem Ae{c:Operand}{x y:Code}(hc:opv l c=some (.bool false))(h:ewp P n y Q l w):ewp P n (.cond c x y) Q l w:=λa d b=>wp_cond_false (b.eval hc) (h a d b)
theorem Bg{c:Operand}{x y:Code}{b:Bool}(hc:opv l c=some (.bool b))(a:b=true->ewp P n x Q l w)(hf:b=false->ewp P n y Q l w):ewp P n (.cond c x y) Q l w:=by
  cases b
  . exact Ae hc (hf rfl)
  . exact Aj hc (a rfl)
def Y4(id:Nat)(Q:YX):YX
  |.exit i,l,w=>match Nat.beq i id with
    |true=>Q .normal l w
    |false=>Q (.exit i) l w
  |e,l,w=>Q e l w
theorem BK{id:Nat}{c:Code}(h:ewp P n c (Y4 id Q) l w):ewp P n (.block id c) Q l w:=λa d b =>
  wp_block (U6 (λe a w hl=>by
    obtain⟨hn,l',w',d',rfl,ho,hq⟩:=hl;cases e with
    |exit i =>
      simp only[Exit.inBlock];simp only[Y4]at hq;by_cases hi:i=id
      . subst hi;have hb:Nat.beq i i=true:=U7 i;rw[hb]at hq;rw[if_pos rfl];exact⟨trivial,l',w',d',rfl,ho,hq⟩
      . have hb:Nat.beq i id=false:=by
          cases f:Nat.beq i id
          . rfl
          . exact absurd (F4 f) hi
        rw[hb]at hq;rw[if_neg hi];exact⟨trivial,l',w',d',rfl,ho,hq⟩
    |panic c=>exact hn.elim
    |outgrown=>exact hn.elim
    |normal=>exact⟨trivial,l',w',d',rfl,ho,hq⟩
    |goto i=>exact⟨trivial,l',w',d',rfl,ho,hq⟩
    |ret=>exact⟨trivial,l',w',d',rfl,ho,hq⟩) (h a d b))
theorem AM{c:Code}(b:Env)(hs:X5 l b)(h:ewp P n c Q b w):ewp P n c Q l w:=λa d e=>h a d (e.sub hs)
theorem Ri{c:Code}{X:Type}(U:X→Env)(I:X→World→Prop)(q:X→Nat)(s:X)(hs:X5 l (U s))(A:I s w)
    (v:∀x w,I x w->ewp P n c (thn (λB w'=>∃j,X5 B (U j)/\I j w'/\q j<q x) Q) (U x) w):ewp P n (.loop c) Q l w:=by
  intro a d R
  have G:∀(m:Nat)(x:X)(a:Act)(w:World)(d:Nat),q x<=m->Ok n a (U x)->I x w->(Code.loop c).wp P (ZE n Q) a (dr w d):=by
    intro m x a w d hm H C;refine wp_loop (λa' w'=>∃j b p,w'=dr b p/\Ok n a' (U j)/\I j b) (λa' w'=>Classical.epsilon λk=>∃j b p,w'=dr b p/\Ok n a' (U j)/\I j b/\q j=k /\
      ∀g f o,w'=dr f o->Ok n a' (U g)->I g f->k<=q g) ⟨x,w,d,rfl,H,C⟩ ?_
    have t:∀a' w',(∃j b p,w'=dr b p/\Ok n a' (U j)/\I j b)->∃k,∃j b p,w'=dr b p/\Ok n a' (U j)/\I j b/\q j=k /\
        ∀g f o,w'=dr f o->Ok n a' (U g)->I g f->k<=q g:=by
      intro a' w' ⟨j,b,p,D,y,hI'⟩;have:∀m j b p,q j<=m->w'=dr b p->Ok n a' (U j)->I j b->∃k,∃j b p,w'=dr b p/\Ok n a' (U j)/\I j b/\q j=k /\
          ∀g f o,w'=dr f o->Ok n a' (U g)->I g f->k<=q g:=by
        intro m
        induction m with
        |zero=>exact λj b p hm D y C=>⟨q j,j,b,p,D,y,C,rfl,λ_ _ _ _ _ _=>by omega⟩
        |succ m S =>
          intro j b p hm D y C;by_cases E:∃g f o,w'=dr f o/\Ok n a' (U g)/\I g f/\q g<=m
          . obtain⟨g,f,o,J,K,L,h4⟩:=E;exact S g f o h4 J K L
          . refine⟨q j,j,b,p,D,y,C,rfl,λg f o J K L=>?_⟩;rcases U8 (q g) (q j)with h|h
            . exact absurd ⟨g,f,o,J,K,L,by omega⟩ E
            . exact h
      exact this _ j b p (W3 _) D y hI'
    intro a' w' F;have hk:=E7 (t a' w' F);obtain⟨j,b,p,rfl,y,hI',hμ,hmin⟩:=hk;refine U6 (λe M T hl=>?_) (v j b hI' a' p y);obtain⟨hn,B,f,d₁,rfl,ho',hq⟩:=hl;cases e with
    |normal =>
      obtain⟨u,hs₂,hI₂,hlt⟩:=hq;have r:=ho'.sub hs₂;refine⟨⟨u,f,d₁,rfl,r,hI₂⟩,?_⟩;have z:=E7 (t M (dr f d₁) ⟨u,f,d₁,rfl,r,hI₂⟩);obtain⟨O,w₃,d₃,hw₃,ho₃,hI₃,hμ₃,hmin₃⟩:=z;have N:=hmin₃ u f d₁ rfl r hI₂;exact K2 N (K3 hlt hμ)
    |panic c=>exact hn.elim
    |outgrown=>exact hn.elim
    |exit i=>exact⟨trivial,B,f,d₁,rfl,ho',hq⟩
    |goto i=>exact⟨trivial,B,f,d₁,rfl,ho',hq⟩
    |ret=>exact⟨trivial,B,f,d₁,rfl,ho',hq⟩
  exact G _ s a w d (W3 _) (R.sub hs) A
theorem Am{id:Nat}{c:List Oper}(h:owp P n c.toArray Q c l w):ewp P n (.region id c.toArray false) Q l w:=λa d b=>wp_region_lit (h a d b)
end code
def Ev(P:Program)(o:Oper)(l:Env)(w:World)(v:Value):Prop:=∀n a d,Ok n a l->(execOp a.eval o).run P (dr w d)=.ok (.value v) (dr w d)
def Aai(ops:Array Oper)(j:Nat):Option Tmp:=(ops[j]?).bind (·.dst)
theorem Ok.yielded{n:Nat}{a:Act}{l:Env}(h:Ok n a l){ops:Array Oper}{j dj:Nat}{b:Bool}(hj:Aai ops j=some dj)(hl:lk l dj=some (.bool b)):Go.yielded ops a.tmps j=some b:=by
  have c:=h.knows dj _ hl;unfold Go.yielded;unfold Aai at hj;rw[hj];simp only[P2];rw[B4]at c;cases d:a.tmps[dj]? with
  |none=>rw[d]at c;simp[undef]at c
  |some u=>rw[d]at c;simp only[P1]at c;subst c;rfl
def isB:Value->Bool->Bool
  |.bool true,true=>true
  |.bool false,false=>true
  |_,_=>false
theorem Ok.unwanted{n:Nat}{a:Act}{l:Env}(h:Ok n a l){ops:Array Oper}{j dj:Nat}{u:Value}{b:Bool}(hj:Aai ops j=some dj)(hl:lk l dj=some u)(hu:isB u b=false):(Go.yielded ops a.tmps j==some b)=false:=by
  have d:=h.knows dj _ hl;unfold Go.yielded;unfold Aai at hj;rw[hj];simp only[P2];rw[B4]at d;cases e:a.tmps[dj]? with
  |none=>rfl
  |some x =>
    rw[e]at d;simp only[P1]at d;subst d;cases x<;>first|rfl|(rename_i c;cases c<;>cases b<;>first|rfl|(simp[isB]at hu))
section ops
variable {P:Program}{n:Nat}{ops:Array Oper}{Q:YX}{rest:List Oper}{l:Env}{w:World}
theorem Js(h:Q .normal l w):owp P n ops Q [] l w:=λ_ _ a=>wpList_nil (Kv trivial a h)
theorem Kw{dst:Option Tmp}{b:Op}{ty:TypeId}{pos:String}{aft:Array Edge}
    (h:∀a d,Ok n a l->∀K:Act->World->Prop,(∀a' w',wpList P ops (ZE n Q) rest a' w'->K a' w')->(⟨dst,b,ty,pos,aft,none⟩:Oper).wp P a (dr w d) K (ZE n Q)):owp P n ops Q (⟨dst,b,ty,pos,aft,none⟩::rest) l w :=
  λa d c=>wpList_plain rfl λK e=>h a d c K e
theorem AX{d:Tmp}{b:Op}{ty:TypeId}{pos:String}{aft:Array Edge}{v:Value}(he:Ev P ⟨some d,b,ty,pos,aft,none⟩ l w v)(hd:Nat.blt d n=true)
    (h:owp P n ops Q rest ((d,v)::l) w):owp P n ops Q (⟨some d,b,ty,pos,aft,none⟩::rest) l w :=
  Kw λa e c K f=>by
    unfold Oper.wp;rw[he n a e c];exact f _ _ (h _ _ (c.put hd v))
theorem Jt{dst:Option Tmp}{c:Op}{ty:TypeId}{pos:String}{aft:Array Edge}{f:Env}{w':World}
    (he:∀a d,Ok n a l->(∃v b,(execOp a.eval ⟨dst,c,ty,pos,aft,none⟩).run P (dr w d)=.ok (.value v) (dr w' b)/\Ok n (a.put dst v) f)\/(∃b,(execOp a.eval ⟨dst,c,ty,pos,aft,none⟩).run P (dr w d)=.ok .skip (dr w' b)/\Ok n (a.put dst undef) f))
    (h:owp P n ops Q rest f w'):owp P n ops Q (⟨dst,c,ty,pos,aft,none⟩::rest) l w :=
  Kw λa e i K g=>by
    unfold Oper.wp;rcases he a e i with⟨v,b,hr,ho⟩|⟨b,hr,ho⟩
    . rw[hr];exact g _ _ (h _ _ ho)
    . rw[hr];exact g _ _ (h _ _ ho)
theorem AA{dst:Option Tmp}{e:Op}{ty:TypeId}{pos:String}{aft:Array Edge}{j dj:Nat}{b:Bool}(hj:Aai ops j=some dj)(hl:lk l dj=some (.bool b))
    (h:owp P n ops Q (⟨dst,e,ty,pos,aft,none⟩::rest) l w):owp P n ops Q (⟨dst,e,ty,pos,aft,some (j,b)⟩::rest) l w:=λa d f=>by
  have c:=h a d f;have g:=f.yielded hj hl;unfold wpList at c ⊢;rw[if_pos (by simp[Region.wanted])]at c;rw[if_pos (by simp[Region.wanted,g])];exact c
theorem AK{d:Tmp}{f:Op}{ty:TypeId}{pos:String}{aft:Array Edge}{j dj:Nat}{b:Bool}{u:Value}(hj:Aai ops j=some dj)(hl:lk l dj=some u)
    (h:owp P n ops Q rest ((d,undef)::l) w) (hu:isB u b=false:=by exact rfl) (hd:Nat.blt d n=true:=by exact rfl):owp P n ops Q (⟨some d,f,ty,pos,aft,some (j,b)⟩::rest) l w:=λa e c=>by
  have g:=c.unwanted (b:=b) hj hl hu;unfold wpList;rw[if_neg (by simpa[Region.wanted]using g)];exact h _ _ (c.put hd undef)
end ops
end
section
open Go Go.RowKit
class TSlice(P:Program)(t:TypeId)(e:outParam TypeId):Prop where eq:P.underlying t=some (.slice e)
class TStr(P:Program)(t:TypeId):Prop where eq:P.underlying t=some .string
class TPtr(P:Program)(t:TypeId)(e:outParam TypeId):Prop where eq:P.underlying t=some (.pointer e)
class TIface(P:Program)(t:TypeId):Prop where eq:∃ms,P.underlying t=some (.interface ms)
class TInt(P:Program)(t:TypeId)(k:outParam IntKind):Prop where eq:P.underlying t=some (.int k)
class TOne(P:Program)(t:TypeId):Prop where eq:∃d,P.underlying t=some d/\(match d with|.struct _|.array _ _=>false|_=>true)=true
class TAgg(P:Program)(t:TypeId):Prop where eq:∃d,P.underlying t=some d/\(match d with|.struct _|.array _ _=>true|_=>false)=true
class TInfo(P:Program)(t:TypeId)(z:outParam Value)(size bytes:outParam Nat):Prop where
  eq:∃i,P.info? t=some i/\i.zero=some z/\i.size=size/\i.bytes=bytes
  sz:z.cells.size=size
class TField(P:Program)(t:TypeId)(f:Nat)(off:outParam Nat):Prop where eq:∃fs fd i,P.underlying t=some (.struct fs)/\fs[f]?=some fd/\fd.offset=off/\P.info? fd.type=some i/\i.size≠0
theorem IZ(b o k:Nat):(⟨b,o,none⟩:Addr).add k=⟨b,o+k,none⟩:=by
  unfold Addr.add;by_cases h:k=0<;>simp[h]
section
variable {P:Program}{l:Env}{w:World}{dst:Option Tmp}{ty:TypeId}{pos:String}{aft:Array Edge}
theorem DO{t:TypeId}{z:Value}{size bytes:Nat}[h:TInfo P t z size bytes](w:World):(sizeOf t).run P w=.ok size w:=by
  obtain⟨i,hi,_,hs,_⟩:=h.eq;simp[sizeOf,typeInfo,hi,hs]
theorem Rj{t:TypeId}{i:TypeInfo}(hi:P.info? t=some i)(w:World):(typeInfo t).run P w=.ok i w:=by
  simp[typeInfo,hi]
theorem HR{t:TypeId}{z:Value}{size bytes:Nat}[h:TInfo P t z size bytes](w:World):(zeroValue t).run P w=.ok z w:=by
  obtain⟨i,hi,hz,_,_⟩:=h.eq;simp[zeroValue,typeInfo,hi,hz]
theorem Ja{t:TypeId}[h:TOne P t](w:World):(isAgg t).run P w=.ok false w:=by
  obtain⟨d,hd,hm⟩:=h.eq;cases d<;>simp_all [isAgg,run_underlying hd]
theorem IG{t:TypeId}[h:TAgg P t](w:World):(isAgg t).run P w=.ok true w:=by
  obtain⟨d,hd,hm⟩:=h.eq;cases d<;>simp_all [isAgg,run_underlying hd]
theorem Dh{x:Operand}{v:Value}(b:opv l x=some v):Ev P ⟨dst,.move x,ty,pos,aft,none⟩ l w v:=λ_ a d c=>by simp[execOp,c.eval b]
theorem Di{x:Operand}{v:Value}(b:opv l x=some v):Ev P ⟨dst,.assign x,ty,pos,aft,none⟩ l w v:=λ_ a d c=>by simp[execOp,c.eval b]
theorem Oi{c x y:Operand}{v:Value}(hc:opv l c=some (.bool true))(e:opv l x=some v):Ev P ⟨dst,.pick c x y,ty,pos,aft,none⟩ l w v:=λ_ a d b=>by simp[execOp,b.eval e,b.eval hc,asBool]
theorem Oj{c x y:Operand}{v:Value}(hc:opv l c=some (.bool false))(e:opv l y=some v):Ev P ⟨dst,.pick c x y,ty,pos,aft,none⟩ l w v:=λ_ a d b=>by simp[execOp,b.eval e,b.eval hc,asBool]
theorem OW{t:TypeId}{x:Operand}{b:Bool}(c:opv l x=some (.bool b)):Ev P ⟨dst,.unOp .not t x,ty,pos,aft,none⟩ l w (.bool (!b)):=λ_ a d e=>by simp[execOp,e.eval c,Op.unary]
theorem PP{t:TypeId}{x:Operand}(a:opv l x=some (.bool true)):Ev P ⟨dst,.unOp .not t x,ty,pos,aft,none⟩ l w (.bool false):=OW a
theorem PQ{t:TypeId}{x:Operand}(a:opv l x=some (.bool false)):Ev P ⟨dst,.unOp .not t x,ty,pos,aft,none⟩ l w (.bool true):=OW a
theorem CO{t u:TypeId}{x y:Operand}{k:IntKind}{a b:Int}(e:opv l x=some (.int k a))(f:opv l y=some (.int k b)):Ev P ⟨dst,.binOp .lss t x y u,ty,pos,aft,none⟩ l w (.bool (decide (a<b))):=λ_ _ d c=>by simp[execOp,c.eval e,c.eval f,eqGuard,binOp,Op.intCmp]
theorem LE{t u:TypeId}{x y:Operand}{k:IntKind}{a b:Int}(e:opv l x=some (.int k a))(f:opv l y=some (.int k b)):Ev P ⟨dst,.binOp .leq t x y u,ty,pos,aft,none⟩ l w (.bool (decide (a<=b))):=λ_ _ d c=>by simp[execOp,c.eval e,c.eval f,eqGuard,binOp,Op.intCmp]
theorem Fy{t u:TypeId}{x y:Operand}{k:IntKind}{a b:Int}(e:opv l x=some (.int k a))(f:opv l y=some (.int k b)):Ev P ⟨dst,.binOp .gtr t x y u,ty,pos,aft,none⟩ l w (.bool (decide (b<a))):=λ_ _ d c=>by simp[execOp,c.eval e,c.eval f,eqGuard,binOp,Op.intCmp]
theorem Bq{t u:TypeId}{x y:Operand}{k:IntKind}{a b:Int}(e:opv l x=some (.int k a))(f:opv l y=some (.int k b)):Ev P ⟨dst,.binOp .geq t x y u,ty,pos,aft,none⟩ l w (.bool (decide (b<=a))):=λ_ _ d c=>by simp[execOp,c.eval e,c.eval f,eqGuard,binOp,Op.intCmp]
theorem JQ{t u:TypeId}{x y:Operand}{k:IntKind}{a b:Int}(e:opv l x=some (.int k a))(f:opv l y=some (.int k b)):Ev P ⟨dst,.binOp .eql t x y u,ty,pos,aft,none⟩ l w (.bool (decide (a=b))):=λ_ _ d c=>by
  simp[execOp,c.eval e,c.eval f,eqGuard,binOp,Op.intCmp];by_cases h:a=b<;>simp[h]
theorem Xl{t u:TypeId}{x y:Operand}{k:IntKind}{a b:Int}(e:opv l x=some (.int k a))(f:opv l y=some (.int k b)):Ev P ⟨dst,.binOp .neq t x y u,ty,pos,aft,none⟩ l w (.bool (!decide (a=b))):=λ_ _ d c=>by
  simp[execOp,c.eval e,c.eval f,eqGuard,binOp,Op.intCmp];by_cases h:a=b<;>simp[h]
theorem wrap_i64{z:Int}(a:-9223372036854775808<=z)(b:z<=9223372036854775807):IntKind.i64.wrap z=z:=by
  rw[IntKind.wrap_i64];omega
theorem LF{t u:TypeId}{x y:Operand}{a b:Int}(e:opv l x=some (.int .i64 a))(f:opv l y=some (.int .i64 b))(h:-9223372036854775808<=a+b/\a+b<=9223372036854775807):Ev P ⟨dst,.binOp .add t x y u,ty,pos,aft,none⟩ l w (.int .i64 (a+b)):=λ_ _ d c=>by
  simp[execOp,c.eval e,c.eval f,eqGuard,binOp,Op.intArith,wrap_i64 h.1 h.2]
theorem KB{t u:TypeId}{x y:Operand}{a b:Int}(e:opv l x=some (.int .i64 a))(f:opv l y=some (.int .i64 b))(h:-9223372036854775808<=a-b/\a-b<=9223372036854775807):Ev P ⟨dst,.binOp .sub t x y u,ty,pos,aft,none⟩ l w (.int .i64 (a-b)):=λ_ _ d c=>by
  simp[execOp,c.eval e,c.eval f,eqGuard,binOp,Op.intArith,wrap_i64 h.1 h.2]
theorem Ua{t u:TypeId}{x y:Operand}{a b:Int}(e:opv l x=some (.int .i64 a))(f:opv l y=some (.int .i64 b))(h:-9223372036854775808<=a*b/\a*b<=9223372036854775807):Ev P ⟨dst,.binOp .mul t x y u,ty,pos,aft,none⟩ l w (.int .i64 (a*b)):=λ_ _ d c=>by
  simp[execOp,c.eval e,c.eval f,eqGuard,binOp,Op.intArith,wrap_i64 h.1 h.2]
theorem Ub{t u:TypeId}{x:Operand}{a:Nat}(c:opv l x=some (.int .i64 (a:Int)))(h:a<9223372036854775807):Ev P ⟨dst,.binOp .add t x (.const (.int .i64 1)) u,ty,pos,aft,none⟩ l w (.int .i64 ((a+1:Nat):Int)):=λ_ _ d b=>by
  simp[execOp,b.eval c,b.eval (x:=.const (.int .i64 1)) rfl,eqGuard,binOp,Op.intArith,wrap_i64 (z:=(a:Int)+1) (by omega) (by omega)]
theorem JR{t e:TypeId}[h:TSlice P t e]{x:Operand}{A:Option Addr}{m c:Nat}(b:opv l x=some (.slice A m c)):Ev P ⟨dst,.call { callee:=.builtin .len,args:=#[x],argTypes:=#[t] },ty,pos,aft,none⟩ l w (.int .i64 (m:Int)):=λ_ a d f=>by
  simp[execOp,resolve,invoke,builtin,f.eval b,Builtin.len_,run_underlying h.eq,goInt]
theorem Uc{t:TypeId}[h:TStr P t]{x:Operand}{s:ByteArray}(b:opv l x=some (.string s)):Ev P ⟨dst,.call { callee:=.builtin .len,args:=#[x],argTypes:=#[t] },ty,pos,aft,none⟩ l w (.int .i64 (s.size:Int)):=λ_ a d c=>by
  simp[execOp,resolve,invoke,builtin,c.eval b,Builtin.len_,run_underlying h.eq,goInt]
theorem Ud{e f:TypeId}{x y:Operand}{k:IntKind}{a b:Int}(g:opv l x=some (.int k a))(i:opv l y=some (.int k b)):Ev P ⟨dst,.call { callee:=.builtin .min,args:=#[x,y],argTypes:=#[e,f] },ty,pos,aft,none⟩ l w (.int k (min a b)):=λ_ _ d c=>by
  simp[execOp,resolve,invoke,builtin,c.eval g,c.eval i,Builtin.min_,Builtin.min2];by_cases h:b<a<;>simp[h]<;>omega
theorem Xm{e f:TypeId}{x y:Operand}{k:IntKind}{a b:Int}(g:opv l x=some (.int k a))(i:opv l y=some (.int k b)):Ev P ⟨dst,.call { callee:=.builtin .max,args:=#[x,y],argTypes:=#[e,f] },ty,pos,aft,none⟩ l w (.int k (max a b)):=λ_ _ d c=>by
  simp[execOp,resolve,invoke,builtin,c.eval g,c.eval i,Builtin.max_,Builtin.max2];by_cases h:a<b<;>simp[h]<;>omega
theorem Jb{t e:TypeId}[h:TSlice P t e]{z:Value}{size bytes:Nat}[hi:TInfo P e z size bytes]{x i:Operand}{k:IntKind}{b o m c j:Nat}{q:Int}(g:opv l x=some (.slice (some ⟨b,o,none⟩) m c))(n:opv l i=some (.int k q))(hj:q=(j:Int))(hlt:j<m) :
    Ev P ⟨dst,.indexAddr t x i,ty,pos,aft,none⟩ l w (.pointer (some ⟨b,o+j*size,none⟩)):=λ_ a d f=>by
  subst hj;simp[execOp,f.eval g,f.eval n,Instr.indexAt,asIntOf,run_underlying h.eq,DO (P:=P) (t:=e),IZ,hlt]
theorem De{t:TypeId}{f off:Nat}[h:TField P t f off]{x:Operand}{b o:Nat}(c:opv l x=some (.pointer (some ⟨b,o,none⟩))):Ev P ⟨dst,.fieldAddr t x f,ty,pos,aft,none⟩ l w (.pointer (some ⟨b,o+off,none⟩)):=λ_ a d e=>by
  obtain⟨g,fd,i,h1,h2,h3,h4,h5⟩:=h.eq;simp[execOp,e.eval c,Instr.fieldAt,run_underlying h1,h2,Instr.sureAddr,fieldPlace,sizeOf,Rj h4,h5,h3,IZ]
theorem Cv{t:TypeId}[TOne P t]{x:Operand}{b:Addr}{v:Value}(c:opv l x=some (.pointer (some b)))(hc:w.cell? b=some v):Ev P ⟨dst,.load t x,ty,pos,aft,none⟩ l w v:=λ_ a d e=>by
  simp[execOp,e.eval c,Instr.loadAt,Instr.sureAddr,loadVar,Ja,load,Sem.run,LD,hc]
theorem Ha(w:World)(b o:Nat):∀(cs:List Value)(i:Nat)(a:Array Value),(∀j v,cs[j]?=some v->w.cell? ⟨b,o+(i+j),none⟩=some v) ->
    (loadCellsFrom ⟨b,o,none⟩ i cs.length a).run P w=.ok (a++cs.toArray) w
  |[],i,a,_=>by simp[loadCellsFrom]
  |c  :: cs,i,a,h=>by
    have d:=h 0 c rfl;simp only[U9]at d;have e:=Ha w b o cs (i+1) (a.push c) (λj v hv=>by
      have:=h (j+1) v (by simpa using hv);rwa[show o+(i+1+j)=o+(i+(j+1))from by omega])
    simp only[P3,loadCellsFrom];simp[load,Sem.run,IZ,d,e]
def cellsAt(w:World)(b o:Nat):List Value->Prop
  |[]=>True
  |v::r=>w.cell? ⟨b,o,none⟩=some v/\cellsAt w b (o+1) r
theorem DG{w:World}{b:Nat}:∀{cs:List Value}{o:Nat},cellsAt w b o cs->∀j v,cs[j]?=some v->w.cell? ⟨b,o+j,none⟩=some v
  |[],o,_,j,v,h=>by simp at h
  |c::r,o,hc,0,v,h=>by           have:c=v:=by simpa using h
                                 subst this;exact hc.1
  |c::r,o,hc,j+1,v,h=>by
    have:=DG hc.2 j v (by simpa using h);rwa[show o+(j+1)=o+1+j from by omega]
theorem Hv{w:World}{b:Nat}:∀{cs:List Value}{o:Nat},(∀j v,cs[j]?=some v->w.cell? ⟨b,o+j,none⟩=some v)->cellsAt w b o cs
  |[],_,_=>trivial
  |c  :: r,o,h=>⟨h 0 c rfl,Hv λj v hv=>by
      have:=h (j+1) v (by simpa using hv);rwa[show o+1+j=o+(j+1)from by omega]⟩
theorem EL{t:TypeId}[TAgg P t]{z:Value}{size bytes:Nat}[TInfo P t z size bytes]{x:Operand}{b o:Nat}{cs:List Value}(c:opv l x=some (.pointer (some ⟨b,o,none⟩)))(hl:cs.length=size)(hc:cellsAt w b o cs) :
    Ev P ⟨dst,.load t x,ty,pos,aft,none⟩ l w (.agg cs.toArray):=λ_ a d e=>by
  subst hl;have:=Ha (P:=P) (dr w d) b o cs 0 #[] (λj v hv=>by rw[V0];exact DG hc j v hv);simp[execOp,e.eval c,Instr.loadAt,Instr.sureAddr,loadVar,IG,DO (P:=P) (t:=t),loadCells,this]
theorem LZ{x:Operand}{b:Addr}(c:opv l x=some (.pointer (some b))):Ev P ⟨dst,.nilCheck x,ty,pos,aft,none⟩ l w (.pointer (some b)):=λ_ a d e=>by
  simp[execOp,e.eval c]
theorem OX{x:Operand}{i:Nat}{vs:Array Value}{v:Value}(b:opv l x=some (.tuple vs))(hi:vs[i]?=some v):Ev P ⟨dst,.extract x i,ty,pos,aft,none⟩ l w v:=λ_ a d c=>by
  simp[execOp,c.eval b,Instr.extract,hi]
theorem OY{t:TypeId}{k:IntKind}[hk:TInt P t k]{x:Operand}{v:Value}(b:opv l x=some v):Ev P ⟨dst,.makeInterface t x,ty,pos,aft,none⟩ l w (.iface t v):=λ_ a d c=>by
  simp[execOp,c.eval b,Instr.makeInterface,run_underlying hk.eq]
theorem Ol{t e:TypeId}[h:TPtr P t e](p:Option Addr)(w:World):(Op.equal t (.pointer p) (.pointer none)).run P w=.ok p.isNone w:=by
  have hd:∀d:Nat,(Op.equalIn (d+1) t (.pointer p) (.pointer none)).run P w=.ok p.isNone w:=λd=>by
    cases p<;>simp[Op.equalIn,run_underlying h.eq]
  exact hd 9999
theorem KC{t:TypeId}[h:TIface P t](w:World):(Op.equal t .nilIface .nilIface).run P w=.ok true w:=by
  obtain⟨a,hm⟩:=h.eq;have hd:∀d:Nat,(Op.equalIn (d+1) t .nilIface .nilIface).run P w=.ok true w:=λd=>by
    simp[Op.equalIn,run_underlying hm]
  exact hd 9999
theorem JS{t:TypeId}[h:TIface P t](s:TypeId)(v:Value)(w:World):(Op.equal t (.iface s v) .nilIface).run P w=.ok false w:=by
  obtain⟨a,hm⟩:=h.eq;have hd:∀d:Nat,(Op.equalIn (d+1) t (.iface s v) .nilIface).run P w=.ok false w:=λd=>by
    simp[Op.equalIn,run_underlying hm]
  exact hd 9999
theorem Ue{t e u:TypeId}[h:TPtr P t e]{x:Operand}{p:Option Addr}(c:opv l x=some (.pointer p)):Ev P ⟨dst,.binOp .eql t x (.const (.pointer none)) u,ty,pos,aft,none⟩ l w (.bool p.isNone):=λ_ a d b=>by
  have f:=b.eval (x:=.const (.pointer none)) (v:=.pointer none) rfl;simp[execOp,b.eval c,f,eqGuard,binOp,Ol (P:=P) (t:=t)]
theorem Qr{t u:TypeId}[h:TIface P t]{x:Operand}(c:opv l x=some .nilIface):Ev P ⟨dst,.binOp .eql t x (.const .nilIface) u,ty,pos,aft,none⟩ l w (.bool true):=λ_ a d b=>by
  have e:=b.eval (x:=.const .nilIface) (v:=.nilIface) rfl;simp[execOp,b.eval c,e,eqGuard,binOp,KC (P:=P) (t:=t)]
theorem OZ{t u:TypeId}[h:TIface P t]{x:Operand}{s:TypeId}{v:Value}(c:opv l x=some (.iface s v)):Ev P ⟨dst,.binOp .eql t x (.const .nilIface) u,ty,pos,aft,none⟩ l w (.bool false):=λ_ a d b=>by
  have e:=b.eval (x:=.const .nilIface) (v:=.nilIface) rfl;simp[execOp,b.eval c,e,eqGuard,binOp,JS (P:=P) (t:=t)]
theorem Pa{t u:TypeId}[h:TIface P t]{x:Operand}(c:opv l x=some .nilIface):Ev P ⟨dst,.binOp .neq t x (.const .nilIface) u,ty,pos,aft,none⟩ l w (.bool false):=λ_ a d b=>by
  have e:=b.eval (x:=.const .nilIface) (v:=.nilIface) rfl;simp[execOp,b.eval c,e,eqGuard,binOp,KC (P:=P) (t:=t)]
theorem NW{t u:TypeId}[h:TIface P t]{x:Operand}{s:TypeId}{v:Value}(c:opv l x=some (.iface s v)):Ev P ⟨dst,.binOp .neq t x (.const .nilIface) u,ty,pos,aft,none⟩ l w (.bool true):=λ_ a d b=>by
  have e:=b.eval (x:=.const .nilIface) (v:=.nilIface) rfl;simp[execOp,b.eval c,e,eqGuard,binOp,JS (P:=P) (t:=t)]
theorem Vk{t:TypeId}[h:TStr P t]{x i:Operand}{k:IntKind}{s:ByteArray}{j:Nat}(c:opv l x=some (.string s))(e:opv l i=some (.int k (j:Int)))(hlt:j<s.size) :
    Ev P ⟨dst,.index t x i,ty,pos,aft,none⟩ l w (.int .u8 ((s[j]'hlt).toNat:Int)):=λ_ a d b=>by
  simp[execOp,b.eval c,b.eval e,Instr.index,asIntOf,run_underlying h.eq,hlt]
theorem Qs{b:Fn}{xs ys:List Operand}{vs c:List Value}(f:Y3 l xs=some vs)(g:Y3 l ys=some c):Ev P ⟨dst,.makeFunc b xs.toArray ys.toArray,ty,pos,aft,none⟩ l w (.func b vs.toArray c.toArray):=λ_ a d e=>by
  simp[execOp,Instr.makeFunc,e.evals f,e.evals g]
end
end
section
open Go Go.RowKit
def Agree(F:Nat->Prop)(w w':World):Prop:=∀k,F k->w'.heap[k]?=w.heap[k]?
abbrev Ext(w w':World):Prop:=Below w.heap.size w w'
theorem Ext.agree{w w':World}(h:Ext w w'){F:Nat->Prop}(a:∀k,F k->k<w.heap.size):Agree F w w':=λk hk=>h.block k (a k hk)
theorem Ext.trans'{a b c:World}(h:Ext a b)(k:Ext b c):Ext a c:=h.trans (k.mono h.size)
theorem Agree.cell{F:Nat->Prop}{w w':World}(h:Agree F w w'){a:Addr}(b:F a.block):w'.cell? a=w.cell? a:=World.cell?_of_block (h _ b)
theorem Ct{F:Nat->Prop}{w w':World}(h:Agree F w w'){b:Nat}(hb:F b):∀{cs:List Value}{o:Nat},cellsAt w b o cs->cellsAt w' b o cs
  |[],_,_=>trivial
  |_::_,_,hc=>⟨(h.cell hb).trans hc.1,Ct h hb hc.2⟩
theorem Uf{w w':World}{b o:Nat}{cs:List Value}(h:cellsAt w b o cs)(hb:b<w.heap.size)(a:Ext w w'):cellsAt w' b o cs:=Ct (F:=(· < w.heap.size)) (a.agree λ_ h=>h) hb h
theorem CK{w:World}{b:Nat}:∀{xs ys:List Value}{o:Nat},cellsAt w b o (xs++ys)↔cellsAt w b o xs/\cellsAt w b (o+xs.length) ys
  |[],ys,o=>by simp[cellsAt]
  |x::xs,ys,o=>by
    simp only[P4,cellsAt,P3];rw[CK,show o+1+xs.length=o+(xs.length+1)from by omega,and_assoc]
class Rp(α:Type) where
  isAgg:Bool
  size:Nat
  R:World->(Nat->Prop)->List Value->α->Prop
  len:∀{w F cs x},R w F cs x->cs.length=size
  one:∀{w F cs x},R w F cs x->∀u∈cs,u.oneCell'=true
  agree:∀{w w' F cs x},R w F cs x->Agree F w w'->R w' F cs x
  mono:∀{w F G cs x},R w F cs x->(∀k,F k->G k)->R w G cs x
def Chunks{α:Type}[Rp α](w:World)(F:Nat->Prop):List Value->List α->Prop
  |cells,[]=>cells=[]
  |cells,x::xs=>∃cs a,cells=cs++a/\Rp.R w F cs x/\Chunks w F a xs
section
variable {α:Type}[Rp α]{w w':World}{F G:Nat → Prop}
theorem Chunks.length:∀{xs:List α}{cells:List Value},Chunks w F cells xs->cells.length=xs.length*Rp.size α
  |[],cells,h=>by      have:cells=[]:=h
                       simp[this]
  |x::xs,cells,⟨cs,rest,he,hr,hc⟩=>by
    rw[he,K4,Rp.len hr,Chunks.length hc,P3,W4];omega
theorem Chunks.one:∀{xs:List  α}{cells:List Value},Chunks w F cells xs->∀u∈cells,u.oneCell'=true
  |[],cells,h,u,hu=>by        have:cells=[]:=h
                              simp[this]at hu
  |x::xs,cells,⟨cs,rest,he,hr,hc⟩,u,hu=>by
    rw[he,Q8]at hu;rcases hu with hu|hu
    . exact Rp.one hr u hu
    . exact Chunks.one hc u hu
theorem Chunks.agree(h:Agree F w w'):∀{xs:List α}{cells:List Value},Chunks w F cells xs->Chunks w' F cells xs
  |[],_,hc=>hc
  |_::_,_,⟨cs,rest,he,hr,hc⟩=>⟨cs,rest,he,Rp.agree hr h,Chunks.agree h hc⟩
theorem Chunks.mono(h:∀k,F k->G k):∀{xs:List α}{cells:List Value},Chunks w F cells xs->Chunks w G cells xs
  |[],_,hc=>hc
  |_::_,_,⟨cs,rest,he,hr,hc⟩=>⟨cs,rest,he,Rp.mono hr h,Chunks.mono h hc⟩
theorem Chunks.append:∀{xs ys:List α}{c d:List Value},Chunks w F c xs->Chunks w F d ys->Chunks w F (c++d) (xs++ys)
  |[],ys,c,d,h,k=>by         have:c=[]:=h
                             subst this;exact k
  |x::xs,ys,c,d,⟨cs,rest,he,hr,hc⟩,k=>⟨cs,rest++d,by rw[he,M2],hr,Chunks.append hc k⟩
theorem Chunks.single{x:α}{cs:List Value}(h:Rp.R w F cs x):Chunks w F cs [x]:=⟨cs,[],by simp,h,rfl⟩
theorem Chunks.get:∀{xs:List α}{cells:List Value},Chunks w F cells xs->∀{i:Nat}{x:α},xs[i]?=some x->∃b cs a,cells=b++(cs++a)/\b.length=i*Rp.size α/\Rp.R w F cs x
  |[],_,_,i,x,h=>by simp at h
  |y::xs,cells,⟨cs,rest,he,hr,hc⟩,0,x,h=>by
    have:y=x:=(by simpa using h);subst this;exact⟨[],cs,rest,by simpa using he,by simp,hr⟩
  |y::xs,cells,⟨cs,rest,he,hr,hc⟩,i+1,x,h=>by
    obtain⟨b,c',a,h1,h2,h3⟩:=Chunks.get hc (i:=i) (x:=x) (by simpa using h);exact⟨cs++b,c',a,by rw[he,h1,M2],by rw[K4,h2,Rp.len hr,W4];omega,h3⟩
theorem Chunks.take:∀{xs :    List α}{cells:List Value}(k:Nat),Chunks w F cells xs→Chunks w F (cells.take (k*Rp.size α)) (xs.take k)
  |xs,cells,0,h=>by simp[Chunks]
  |[],cells,k+1,h=>by         have:cells=[]:=h
                              simp[this,Chunks]
  |x::xs,cells,k+1,⟨cs,rest,he,hr,hc⟩=>by
    refine⟨cs,rest.take (k*Rp.size α),?_,hr,Chunks.take k hc⟩;rw[he,List.take_append,Rp.len hr,show(k+1)*Rp.size α-Rp.size α=k*Rp.size α from by rw[W4];omega,E8 (by rw[Rp.len hr,W4];omega)]
theorem Chunks.drop:∀{xs :    List α}{cells:List Value}(k:Nat),Chunks w F cells xs→Chunks w F (cells.drop (k*Rp.size α)) (xs.drop k)
  |xs,cells,0,h=>by simpa using h
  |[],cells,k+1,h=>by         have:cells=[]:=h
                              simp[this,Chunks]
  |x::xs,cells,k+1,⟨cs,rest,he,hr,hc⟩=>by
    have:=Chunks.drop k hc;rw[he,List.drop_append,Rp.len hr,show(k+1)*Rp.size α-Rp.size α=k*Rp.size α from by rw[W4];omega,List.drop_of_length_le (by rw[Rp.len hr,W4];omega)];simpa using this
end
def SlR{α:Type}[Rp α](w:World)(F:Nat->Prop)(v:Value)(xs:List α):Prop :=
  ∃A c cells,v=.slice A xs.length c/\xs.length<=c/\c<=9223372036854775807/\Chunks w F cells xs/\(0<xs.length->∃b o,A=some ⟨b,o,none⟩/\F b/\cellsAt w b o cells)
instance{α:Type}[Rp α]:Rp (List α) where
  isAgg:=false
  size:=1
  R w F cs xs:=∃v,cs=[v]/\SlR w F v xs
  len:=by rintro w F cs x ⟨v,rfl,_⟩;rfl
  one:=by
    rintro w F cs x ⟨v,rfl,A,c,cells,rfl,_⟩ u hu;have:u=.slice A x.length c:=(by simpa using hu);subst this;rfl
  agree:=by
    rintro w w' F cs x ⟨v,rfl,A,c,cells,rfl,h1,h2,h3,h4⟩ h;refine⟨_,rfl,A,c,cells,rfl,h1,h2,h3.agree h,λhn=>?_⟩;obtain⟨b,o,h5,h6,h7⟩:=h4 hn;exact⟨b,o,h5,h6,Ct h h6 h7⟩
  mono:=by
    rintro w F G cs x ⟨v,rfl,A,c,cells,rfl,h1,h2,h3,h4⟩ h;refine⟨_,rfl,A,c,cells,rfl,h1,h2,h3.mono h,λhn=>?_⟩;obtain⟨b,o,h5,h6,h7⟩:=h4 hn;exact⟨b,o,h5,h _ h6,h7⟩
def X2(n:Int):Prop:=-9223372036854775808<=n/\n<=9223372036854775807
instance:Rp Int where
  isAgg:=false
  size:=1
  R _ _ cs n:=cs=[.int .i64 n]/\X2 n
  len:=by rintro w F cs x ⟨rfl,_⟩;rfl
  one:=by
    rintro w F cs x ⟨rfl,_⟩ u hu;have:u=.int .i64 x:=(by simpa using hu);subst this;rfl
  agree:=λh _=>h
  mono:=λh _=>h
instance:Rp Bool where
  isAgg:=false
  size:=1
  R _ _ cs b:=cs=[.bool b]
  len:=by rintro w F cs x rfl;rfl
  one:=by
    rintro w F cs x rfl u hu;have:u=.bool x:=(by simpa using hu);subst this;rfl
  agree:=λh _=>h
  mono:=λh _=>h
instance:Rp ByteArray where
  isAgg:=false
  size:=1
  R _ _ cs s:=cs=[.string s]/\s.size<=9223372036854775807
  len:=by rintro w F cs x ⟨rfl,_⟩;rfl
  one:=by
    rintro w F cs x ⟨rfl,_⟩ u hu;have:u=.string x:=(by simpa using hu);subst this;rfl
  agree:=λh _=>h
  mono:=λh _=>h
def Vb{α:Type}[Rp α](w:World)(F:Nat->Prop)(v:Value)(x:α):Prop :=
  match Rp.isAgg α with
  |true=>∃cs:List Value,v=.agg cs.toArray/\Rp.R w F cs x
  |false=>Rp.R w F [v] x
abbrev All(w:World):Nat->Prop:=λk=>k<w.heap.size
abbrev V{α:Type}[Rp α](w:World)(v:Value)(x:α):Prop:=Vb w (All w) v x
section
variable {α:Type}[Rp α]{w w':World}{F G:Nat → Prop}{v:Value}{x:α}{xs:List α}
theorem Vb.agree(h:Vb w F v x)(a:Agree F w w'):Vb w' F v x:=by
  unfold Vb at *
  cases hb:Rp.isAgg α<;>simp only[hb]at h ⊢
  . exact Rp.agree h a
  . obtain⟨cs,h1,h2⟩:=h;exact⟨cs,h1,Rp.agree h2 a⟩
theorem Vb.mono(h:Vb w F v x)(hk:∀k,F k->G k):Vb w G v x:=by
  unfold Vb at *
  cases hb:Rp.isAgg α<;>simp only[hb]at h ⊢
  . exact Rp.mono h hk
  . obtain⟨cs,h1,h2⟩:=h;exact⟨cs,h1,Rp.mono h2 hk⟩
theorem Vb.ext(h:V w v x)(he:Ext w w'):V w' v x:=(h.agree (he.agree λ_ h=>h)).mono λ_ hk=>K5 hk he.size
theorem Vb.below{a:Nat}(h:Vb w (· < a) v x)(he:Below a w w'):Vb w' (· < a) v x:=h.agree λk hk=>he.block k hk
theorem Vb.cells(h:Vb w F v x):Rp.R w F v.cells.toList x:=by
  unfold Vb at h;cases hb:Rp.isAgg α<;>simp only[hb]at h
  . have a:=Rp.one h v (by simp);have:v.cells.toList=[v]:=(by cases v<;>first|rfl|(simp[Value.oneCell']at a));rw[this];exact h
  . obtain⟨cs,rfl,h2⟩:=h;exact h2
theorem Vb.slice(h:Vb w F v xs):SlR w F v xs:=by
  obtain⟨u,hu,h'⟩:=h;have:v=u:=(by simpa using hu);subst this;exact h'
theorem Vb.of_slice(h:SlR w F v xs):Vb w F v xs:=⟨v,rfl,h⟩
theorem Vb.nil(w:World)(F:Nat->Prop):Vb (α:=List α) w F (.slice none 0 0) []:=.of_slice ⟨none,0,[],rfl,W3 _,by omega,rfl,λh=>by simp at h⟩
theorem Vb.elem{A:Option Addr}{m c:Nat}(h:Vb w F (.slice A m c) xs){k:Nat}{x:α}(d:xs[k]?=some x) :
    ∃b o cs,A=some ⟨b,o,none⟩/\F b/\k<m/\cellsAt w b (o+k*Rp.size α) cs/\Rp.R w F cs x:=by
  obtain⟨j,c',cells,he,h1,h2,h3,h4⟩:=h.slice;injection he with e f g;subst e;subst f;subst g;have hk:k<xs.length:=by
    rcases U8 k xs.length with h|h
    . exact h
    . rw[F5 h]at d;cases d
  obtain⟨b,o,h5,h6,h7⟩:=h4 (by omega);obtain⟨i,cs,post,h8,h9,h10⟩:=h3.get d;rw[h8]at h7;have a:=(CK.1 (CK.1 h7).2).1;rw[h9]at a;exact⟨b,o,cs,h5,h6,hk,a,h10⟩
theorem Vb.len{A:Option Addr}{m c:Nat}(h:Vb w F (.slice A m c) xs):m=xs.length/\m<=c/\c<=9223372036854775807:=by
  obtain⟨d,c',cells,he,h1,h2,h3,h4⟩:=h.slice;injection he with e a b;subst a;subst b;exact⟨rfl,h1,h2⟩
theorem Vb.form(h:Vb w F v xs):∃A c,v=.slice A xs.length c:=by
  obtain⟨a,c',cells,he,_⟩:=h.slice;exact⟨a,c',he⟩
end
theorem Vb.cut{α:Type}[Rp α]{w:World}{F:Nat->Prop}{A:Option Addr}{m c:Nat}{xs:List α}(h:Vb w F (.slice A m c) xs){lo hi mx:Nat}(f:lo<=hi)(g:hi<=m)(i:hi<=mx)(k:mx<=c) :
    Vb w F (.slice (if mx=lo then A else A.map (·.add (lo*Rp.size α))) (hi-lo) (mx-lo)) ((xs.take hi).drop lo):=by
  obtain⟨l,c',cells,he,g1,g2,g3,g4⟩:=h.slice;injection he with a d e;subst a;subst d;subst e;have hl:((xs.take hi).drop lo).length=hi-lo:=(by simp;omega);refine .of_slice ⟨_,mx-lo,(cells.take (hi*Rp.size α)).drop (lo*Rp.size α),by rw[hl],by omega,by omega,(g3.take hi).drop lo,λn=>?_⟩;obtain⟨b,o,h5,h6,h7⟩:=g4 (by omega);subst h5;refine⟨b,o+lo*Rp.size α,?_,h6,?_⟩
  . rw[if_neg (by omega)];simp[IZ]
  . refine Hv λj u hu=>?_;have:=DG h7 (lo*Rp.size α+j) u (by
      rw[K6]at hu;rw[K7]at hu;split at hu
      . exact hu
      . cases hu)
    rwa[show o+lo*Rp.size α+j=o+(lo*Rp.size α+j)from by omega]
def Blk(w:World)(g:Nat)(t:TypeId)(cs:List Value):Prop:=w.heap[g]?=some (.cells cs.toArray t (0,0))
section
variable {w w':World}{g:Nat}{t:TypeId}{cs:List Value}
theorem Blk.lt(h:Blk w g t cs):g<w.heap.size:=by
  rcases U8 g w.heap.size with hlt|hge
  . exact hlt
  . unfold Blk at h;rw[E9 hge]at h;cases h
theorem Blk.cell(h:Blk w g t cs){i:Nat}{v:Value}(hi:cs[i]?=some v):w.cell? ⟨g,i,none⟩=some v:=by
  unfold Blk at h;simp[World.cell?,h,hi]
theorem Blk.cellsAt(h:Blk w g t cs):cellsAt w g 0 cs:=Hv λj v hv=>by rw[V0];exact h.cell hv
theorem Blk.frozen(h:Blk w g t cs)(i:Nat):w.frozen? ⟨g,i,none⟩=false:=by
  unfold Blk at h;simp[World.frozen?,h]
theorem Blk.keep(h:Blk w g t cs)(he:w'.heap[g]?=w.heap[g]?):Blk w' g t cs:=he.trans h
theorem Blk.ext(h:Blk w g t cs)(he:Ext w w'):Blk w' g t cs:=h.keep (he.block g h.lt)
end
structure New(w w':World)(t:TypeId)(cs:List Value):Prop where
  ext:Ext w w'
  size:w'.heap.size=w.heap.size+1
  blk:Blk w' w.heap.size t cs
structure Upd(w w':World)(g:Nat)(t:TypeId)(cs:List Value):Prop where
  os:w'.os=w.os
  tape:w'.tape=w.tape
  output:w'.output=w.output
  size:w'.heap.size=w.heap.size
  blk:Blk w' g t cs
  other:∀k,k≠g->w'.heap[k]?=w.heap[k]?
theorem Upd.below{w w':World}{g:Nat}{t:TypeId}{cs:List Value}(h:Upd w w' g t cs){b:Nat}(a:b<=g):Below b w w' :=
  ⟨h.os,h.tape,h.output,V4 h.size.symm,λk hk=>h.other k (by omega)⟩
theorem Upd.agree{w w':World}{g:Nat}{t:TypeId}{cs:List Value}(h:Upd w w' g t cs){F:Nat->Prop}(a:¬F g):Agree F w w':=λk hk=>h.other k (λe=>a (e▸hk))
theorem New.mk'(w:World)(t:TypeId)(cs:List Value):New w (w.alloc (.cells cs.toArray t)) t cs :=
  ⟨(W8 _ _).alloc (W3 _) _,by simp,by unfold Blk;show(w.heap.push _)[_]?=_;simp⟩
theorem New.upd{w a b:World}{t:TypeId}{cs cs':List Value}(h:New w a t cs)(k:Upd a b w.heap.size t cs'):New w b t cs' :=
  ⟨h.ext.trans (k.below (W3 _)),by rw[k.size,h.size],k.blk⟩
def Own{α:Type}[Rp α](w:World)(base:Nat)(F:Nat->Prop)(e:TypeId)(v:Value)(xs:List α):Prop :=
  ∃cells,w.ownsRow base e (Rp.size α) v xs.length cells/\Chunks w F cells xs/\∀g,v.ownBlock=some g->¬F g
section
variable {α:Type}[Rp α]{w w':World}{F G:Nat → Prop}{base:Nat}{e:TypeId}{v:Value}{xs:List α}
theorem Own.nil(w:World)(base:Nat)(F:Nat->Prop)(e:TypeId):Own (α:=α) w base F e (.slice none 0 0) []:=⟨[],⟨by simp,.inl ⟨rfl,rfl⟩⟩,rfl,λg h=>by simp[Value.ownBlock]at h⟩
theorem Own.vb(h:Own w base F e v xs):Vb w (λk=>F k\/v.ownBlock=some k) v xs:=by
  obtain⟨cells,a,h2,h3⟩:=h;rcases a.2 with⟨rfl,hn⟩|⟨g,cap,cur,rfl,hg,hh,hnc,hcm,hcs,hcur⟩
  . have:xs=[]:=B1 hn;subst this;exact .nil _ _
  . refine .of_slice ⟨_,cap,cells,rfl,hnc,by simpa[maxLen]using hcm,h2.mono λk hk=>.inl hk,λb=>⟨g,0,rfl,.inr rfl,Hv λj u hu=>?_⟩⟩;have hj:j<xs.length*Rp.size α:=(by rw[<- h2.length];exact(C1.1 hu).1);have:cur[j]?=some u:=by
      rw[<- hcur,K7,if_pos hj]at hu;simpa using hu
    simp[World.cell?,hh,this]
theorem Own.agree(h:Own w base F e v xs)(b:Agree F w w')(hv:∀g,v.ownBlock=some g->w'.heap[g]?=w.heap[g]?):Own w' base F e v xs:=by
  obtain⟨cells,a,h2,h3⟩:=h;refine⟨cells,⟨a.1,?_⟩,h2.agree b,h3⟩;rcases a.2 with h|⟨g,cap,cur,rfl,hg,hh,r⟩
  . exact .inl h
  . exact .inr ⟨g,cap,cur,rfl,hg,(hv g rfl).trans hh,r⟩
theorem Own.lt(h:Own w base F e v xs):∀g,v.ownBlock=some g->base<=g/\g<w.heap.size:=by
  obtain⟨cells,d,h2,h3⟩:=h;rcases d.2 with⟨rfl,hn⟩|⟨g,cap,cur,rfl,a,c,r⟩
  . intro g a;simp[Value.ownBlock]at a
  . intro f b;have:g=f:=(by simpa[Value.ownBlock]using b);subst this;refine⟨a,?_⟩;rcases U8 g w.heap.size with h|h
    . exact h
    . rw[E9 h]at c;cases c
theorem Own.ext(h:Own w base F e v xs)(he:Ext w w')(a:∀k,F k->k<w.heap.size):Own w' base F e v xs :=
  h.agree (he.agree a) λg b=>he.block g (h.lt g b).2
theorem Own.mono(h:Own w base F e v xs)(hk:∀k,F k->G k)(a:∀g,v.ownBlock=some g->¬G g):Own w base G e v xs:=by
  obtain⟨cells,h1,h2,h3⟩:=h;exact⟨cells,h1,h2.mono hk,a⟩
theorem Own.lower(h:Own w base F e v xs){a:Nat}(hb:a<=base):Own w a F e v xs:=by
  obtain⟨cells,b,h2,h3⟩:=h;refine⟨cells,⟨b.1,?_⟩,h2,h3⟩;rcases b.2 with h|⟨g,cap,cur,hv,hg,r⟩
  . exact .inl h
  . exact .inr ⟨g,cap,cur,hv,by omega,r⟩
end
end
section
open Go Go.RowKit
class Callable(P : Program)(f : FuncId) : Prop where eq : ∃fn, P.funcs[f]?=some fn∧fn.body.isNone=false∧(fn.name == "runtime.NumGoroutine")=false
theorem Callable.z{P : Program}{f : FuncId}{fn : Func}(h : P.funcs[f]?=some fn)(a : fn.body.isNone=false:=by rfl)(b : (fn.name == "runtime.NumGoroutine")=false:=by decide) : Callable P f:=⟨⟨_, h, a, b⟩⟩
def Fn(P:Program)(f:FuncId)(b:List Value)(w:World)(R:Value->World->Prop):Prop :=
  ∀d,Calls P f b.toArray (dr w d) λe w'=>∃v a c,e=.returned v/\w'=dr a c/\R v a
theorem Fn.mono{P:Program}{f:FuncId}{a:List Value}{w:World}{R b:Value->World->Prop}(h:Fn P f a w R)(hr:∀v w',R v w'->b v w'):Fn P f a w b :=
  λd=>(h d).mono λ_ _ ⟨v,w₀,d',he,hw,hR⟩=>⟨v,w₀,d',he,hw,hr _ _ hR⟩
theorem KD(w:World)(d:Nat)(o:Obj):(dr w d).alloc o=dr (w.alloc o) d:=rfl
theorem GN{P:Program}(w:World)(e:TypeId)(cs:Array Value):(newRow e cs).run P w=.ok ⟨w.heap.size,0,none⟩ (w.alloc (.cells cs e)):=by
  simp[newRow,newObj,Sem.run]
section
variable {P:Program}{n:Nat}{ops:Array Oper}{Q:YX}{rest:List Oper}{l:Env}{w:World}{d:Tmp}{ty:TypeId}{pos:String}{aft:Array Edge}
theorem GO{t:TypeId}{z:Value}{size bytes:Nat}[TInfo P t z size bytes](hd:Nat.blt d n=true)
    (h:∀w',New w w' t z.cells.toList->owp P n ops Q rest ((d,.pointer (some ⟨w.heap.size,0,none⟩))::l) w'):owp P n ops Q (⟨some d,.alloc t,ty,pos,aft,none⟩::rest) l w :=
  Jt (w':=w.alloc (.cells z.cells t)) (λa e b=>.inl ⟨.pointer (some ⟨w.heap.size,0,none⟩),e,by
    simp[execOp,Instr.alloc,HR (P:=P) (t:=t),newVar,GN,LC,KD],b.put hd _⟩) (h _ (by simpa using New.mk' w t z.cells.toList))
theorem Gw{t:TypeId}{x:Operand}{v:Value}(c:opv l x=some v)
    (h:∀w',New w w' t v.cells.toList->owp P n ops Q rest ((d,.pointer (some ⟨w.heap.size,0,none⟩))::l) w') (hd:Nat.blt d n=true:=by exact rfl):owp P n ops Q (⟨some d,.box t x,ty,pos,aft,none⟩::rest) l w :=
  Jt (w':=w.alloc (.cells v.cells t)) (λa e b=>.inl ⟨.pointer (some ⟨w.heap.size,0,none⟩),e,by
    simp[execOp,Instr.box,b.eval c,newVar,GN,LC,KD],b.put hd _⟩) (h _ (by simpa using New.mk' w t v.cells.toList))
def X8(cs:List Value)(o:Nat):List Value->List Value
  |[]=>cs
  |v::r=>X8 (cs.set o v) (o+1) r
theorem Ig(g:Nat)(t:TypeId)(o:Nat):∀(vs:List Value)(i:Nat)(cs:List Value)(w:World),Blk w g t cs→o+i+vs.length≤cs.length→(∀u∈vs,u.oneCell'=true) →
    ∃w',(storeCells ⟨g,o,none⟩ vs i).run P w=.ok () w'/\Upd w w' g t (X8 cs (o+i) vs)/\w'.drawn=w.drawn
  |[],i,cs,w,hb,_,_=>⟨w,by simp[storeCells],⟨rfl,rfl,rfl,rfl,hb,λ_ _=>rfl⟩,rfl⟩
  |v  :: r,i,cs,w,hb,hl,h1=>by
    have a:o+i<cs.length:=(by simp at hl;omega);have hc:w.cell? ⟨g,o+i,none⟩=some (cs[o+i]):=hb.cell (C9 a);have hf:=hb.frozen (o+i);have b:Blk (w.setCell ⟨g,o+i,none⟩ v) g t (cs.set (o+i) v):=by
      unfold Blk at hb ⊢;simp[World.setCell,F6,hb]
    obtain⟨w',hr,hu,hd⟩:=Ig g t o r (i+1) (cs.set (o+i) v) (w.setCell ⟨g,o+i,none⟩ v) b (by simp at hl ⊢;omega) (λu hu=>h1 u (by simp[hu]));have hv:v.oneCell'=true:=h1 v (by simp);refine⟨w',?_,⟨hu.os,hu.tape,hu.output,by rw[hu.size];simp[World.setCell],?_,λk hk=>?_⟩,hd⟩
    . simp only[storeCells];have hs:(store (⟨g,o+i,none⟩:Addr) v).run P w=.ok () (w.setCell ⟨g,o+i,none⟩ v):=by
        cases v<;>simp[Value.oneCell']at hv<;>simp[store,Sem.run,hc,hf]
      simp[IZ,hs,hr]
    . have:=hu.blk;rwa[show o+(i+1)=o+i+1 from by omega]at this
    . rw[hu.other k hk,Below.heap_setCell _ _ _ _ hk]
theorem Do{t:TypeId}{z:Value}{size bytes:Nat}[TInfo P t z size bytes]{x y:Operand}{g o:Nat}{b:TypeId}{v:Value}{cs:List Value}(k:opv l x=some (.pointer (some ⟨g,o,none⟩)))(m:opv l y=some v)
    (hb:Blk w g b cs) (d:v.cells.toList.length=size) (hl:o+size<=cs.length) (p:∀u∈v.cells.toList,u.oneCell'=true)
    (h:∀w',Upd w w' g b (X8 cs o v.cells.toList)->owp P n ops Q rest l w'):owp P n ops Q (⟨none,.store t x y,ty,pos,aft,none⟩::rest) l w:=λa e f=>by
  refine wpList_plain rfl λK q=>?_;have i:Blk (dr w e) g b cs:=hb;obtain⟨w',hr,hu,hd⟩:=Ig (P:=P) g b o v.cells.toList 0 cs (dr w e) i (by omega) p;have j:Upd w w' g b (X8 cs o v.cells.toList):=⟨hu.os,hu.tape,hu.output,hu.size,hu.blk,hu.other⟩;unfold Oper.wp;have c:v.cells.size=size:=(by simpa using d);have:(execOp a.eval ⟨none,.store t x y,ty,pos,aft,none⟩).run P (dr w e)=.ok .skip w':=by
    simp[execOp,Instr.storeAt,Instr.sureAddr,f.eval k,f.eval m,storeVar,DO (P:=P) (t:=t),c,hr]
  rw[this];exact q _ _ (h w' j a w'.drawn f)
theorem Hg:∀(vs cs:List Value)(o:Nat),(X8 cs o vs).length=cs.length
  |[],_,_=>rfl
  |_::r,cs,o=>by rw[X8,Hg r];simp
theorem FO:∀(vs a c b:List Value),c.length=vs.length->X8 (a++(c++b)) a.length vs=a++(vs++b)
  |[],a,c,b,h=>by
    have:c=[]:=B1 h;simp[X8,this]
  |v  :: r,a,c,b,h=>by
    cases c with
    |nil=>simp at h
    |cons m c =>
      have d:=FO r (a++[v]) c b (by simpa using h);simp only[X8];rw[show(a++(m::c++b)).set a.length v=(a++[v])++(c++b)from by simp,show a.length+1=(a++[v]).length from by simp,d];simp
theorem Kc:∀(vs:List Value)(k off:Nat)(a:Array Value),((vs.zipIdx k).foldl (λcs(p:Value×Nat)=>cs.setIfInBounds (off+p.2) p.1) a).toList=X8 a.toList (off+k) vs
  |[],_,_,_=>rfl
  |v::r,k,off,a=>by
    simp only[List.zipIdx_cons,Q9,X8];rw[Kc r (k+1) off];simp[Nat.add_assoc]
def Zu{β:Type}:Nat->List β->List (Nat×β)
  |_,[]=>[]
  |k,x::r=>(k,x)::Zu (k+1) r
def Aar{β:Type}:Nat→List (Nat×β)→Bool
  |_,[]=>true
  |k,p::r=>match Nat.beq p.1 k with
    |true=>Aar (k+1) r
    |false=>false
theorem Om{β:Type}:∀(ps:List (Nat×β))(k:Nat),Aar k ps=true->ps=Zu k (ps.map (·.2))
  |[],_,_=>rfl
  |p  :: r,k,h=>by
    simp only[Aar]at h;cases hb:Nat.beq p.1 k with
    |false=>rw[hb]at h;simp at h
    |true =>
      rw[hb]at h;have hk:p.1=k:=F4 hb;obtain⟨a,b⟩:=p;simp only at hk;subst hk;simp only[T7,Zu];rw[<- Om r (a+1) h]
theorem On{β a:Type}(f:β->a):∀(xs:List β)(k:Nat),(Zu k xs).map (λp=>(p.1,f p.2))=Zu k (xs.map f)
  |[],_=>rfl
  |x::r,k=>by simp[Zu,On f r]
theorem Oo{size:Nat}:∀(vs:List Value)(k:Nat)(b:Array Value)(c a:List Value),b.toList=c++a->c.length=k*size->a.length=vs.length*size->(∀v∈vs,v.cells.size=size) ->
    ∃d,Instr.fill (λi=>some (i*size,size)) b (Zu k vs)=some d/\d.toList=c++vs.flatMap (λv=>v.cells.toList)
  |[],k,b,c,a,h,_,h2,_=>by
    have:a=[]:=B1 (by simpa using h2);subst this;exact⟨b,rfl,by simpa using h⟩
  |v  :: r,k,b,c,a,h,h1,h2,hv=>by
    have e:v.cells.size=size:=hv v (by simp);have g:b.size=c.length+a.length:=(by rw[<- I8,h,K4]);have f:a=a.take size++a.drop size:=(F7 size a).symm;have j:a.length=size+r.length*size:=(by rw[h2,P3,W4];omega);simp only[Zu,Instr.fill];rw[if_neg (by simp[e];omega)];have hf:=Kc v.cells.toList 0 (k*size) b;rw[U9,h,<- h1,f,FO _ _ _ _ (by simp[e];omega)]at hf;obtain⟨d,ho1,ho2⟩:=Oo r (k+1) ((v.cells.toList.zipIdx 0).foldl (λcs(p:Value×Nat)=>cs.setIfInBounds (c.length+p.2) p.1) b) (c++v.cells.toList) (a.drop size) (by rw[hf];simp)
      (by simp[e,h1,W4]) (by simp;omega) (λu hu=>hv u (by simp[hu]))
    refine⟨d,?_,by rw[ho2];simp⟩;rw[<- ho1];congr 1;rw[<- Array.foldl_toList,Array.toList_zipIdx,h1]
theorem HS{t e:TypeId}[hs:TSlice P t e]{z:Value}{size bytes b:Nat}[TInfo P e z size bytes]{ps:List (Nat×Operand)}{vs:List Value}(hk:Aar 0 ps=true)(s:Y3 l (ps.map (·.2))=some vs)(f:vs.length=b)(hv:∀v∈vs,v.cells.toList.length=size)  (hd:Nat.blt d n=true)
    (h:∀w',New w w' e (vs.flatMap λv=>v.cells.toList)->owp P n ops Q rest ((d,.slice (some ⟨w.heap.size,0,none⟩) b b)::l) w') (hz:b*size<=16777216:=by decide):owp P n ops Q (⟨some d,.buildSlice t b ps.toArray,ty,pos,aft,none⟩::rest) l w :=
  Jt (w':=w.alloc (.cells (vs.flatMap λv=>v.cells.toList).toArray e)) (λa q r=>.inl ⟨.slice (some ⟨w.heap.size,0,none⟩) b b,q,by
    have g:(ps.map λp=>(p.1,a.eval p.2))=Zu 0 vs:=by
      rw[Om ps 0 hk,On,r.evals s]
    have k:∀v∈vs,v.cells.size=size:=λv hm=>(by simpa using hv v hm);have m:¬16777216<b*size:=(by omega);have hf:∀c:Array Value,c.size=b*size->Instr.fill (λi=>some (i*size,size)) c (Zu 0 vs)=some (vs.flatMap λv=>v.cells.toList).toArray:=λc j=>by
      obtain⟨u,ho1,ho2⟩:=Oo (size:=size) vs 0 c [] c.toList (by simp) (by simp) (by simp[j,f]) k;rw[ho1];congr 1;apply P5.1;rw[ho2];simp
    simp only[execOp,Instr.buildSlice];by_cases o:b*size=0
    . simp[run_underlying hs.eq,DO (P:=P) (t:=e),o];rw[g,hf _ (by simp[o])];simp[GN,LC,KD]
    . simp[run_underlying hs.eq,DO (P:=P) (t:=e),HR (P:=P) (t:=e),o,m];rw[g,hf _ (by simp)];simp[GN,LC,KD],r.put hd _⟩) (h _ (by simpa using New.mk' w e (vs.flatMap λv=>v.cells.toList)))
theorem Rk{t e:TypeId}[hs:TSlice P t e]{z:Value}{size bytes:Nat}[hi:TInfo P e z size bytes]{x y:Operand}{k f:IntKind}{m:Nat}(g:opv l x=some (.int k (m:Int)))(j:opv l y=some (.int f (m:Int)))(hm:bytes*m<=281474976710656)(o:m<=9223372036854775807)(hd:Nat.blt d n=true)
    (h:∀w',New w w' e (madeCells z.cells (m*size)).toList->owp P n ops Q rest ((d,.slice (some ⟨w.heap.size,0,none⟩) m m)::l) w'):owp P n ops Q (⟨some d,.makeSlice t x y,ty,pos,aft,none⟩::rest) l w:=by
  obtain⟨i,h1,h2,h3,h4⟩:=hi.eq;have b:(i.bytes:Int)*(m:Int)<=281474976710656:=by
    rw[h4];have:((bytes*m:Nat):Int)<=281474976710656:=(by omega);rwa[R0]at this
  refine Jt (w':=w.alloc (.cells (madeCells z.cells (m*size)) e)) (λa q c=>.inl ⟨.slice (some ⟨w.heap.size,0,none⟩) m m,q,?_,c.put hd _⟩) (h _ (by simpa using New.mk' w e (madeCells z.cells (m*size)).toList));have hr:=run_make (P:=P) (dr w q) t e i z hs.eq h1 h2 k f (m:Int) (m:Int) (by omega) (W5 _) b (by omega);simp[execOp,c.eval g,c.eval j,hr,h3,LC,KD]
theorem Cb{f:FuncId}[hf:Callable P f]{xs:List Operand}{vs:List Value}{i:Array TypeId}{R:Value->World->Prop}(k:Y3 l xs=some vs)  (hc:Fn P f vs w R)
    (h:∀v w',R v w'->owp P n ops Q rest ((d,v)::l) w') (hd:Nat.blt d n=true:=by exact rfl):owp P n ops Q (⟨some d,.call { callee:=.value (.func f),args:=xs.toArray,argTypes:=i },ty,pos,aft,none⟩::rest) l w :=
  Kw λa e j K m=>by
    obtain⟨fn,h1,h2,h3⟩:=hf.eq;have b:¬fn.body=none:=λe=>(by rw[e]at h2;simp at h2);have c : ¬fn.name = "runtime.NumGoroutine" := fun e=>by rw[e]at h3; simp at h3
    unfold Oper.wp;have g:a.eval (.func f)=.func (.func f) #[] #[]:=rfl;have:(execOp a.eval ⟨some d,.call { callee:=.value (.func f),args:=xs.toArray,argTypes:=i },ty,pos,aft,none⟩).run P (dr w e)=.ok (.enter f vs.toArray) (dr w e):=by
      simp[execOp,resolve,g,Deferred.ofValue,invoke,callFunc,h1,b,c,j.evals k]
    rw[this];exact(hc e).mono λ_ _ ⟨v,w₀,d',he,hw,hR⟩=>by subst he;subst hw;exact m _ _ (h v w₀ hR _ _ (j.put hd v))
theorem JT{f:FuncId}[hf:Callable P f]{y:Operand}{caps:List Value}{xs:List Operand}{vs:List Value}{i:Array TypeId}{R:Value->World->Prop}(j:opv l y=some (.func (.func f) #[] caps.toArray))(k:Y3 l xs=some vs)(hd:Nat.blt d n=true)(hc:Fn P f (vs++caps) w R)
    (h:∀v w',R v w'->owp P n ops Q rest ((d,v)::l) w'):owp P n ops Q (⟨some d,.call { callee:=.value y,args:=xs.toArray,argTypes:=i },ty,pos,aft,none⟩::rest) l w :=
  Kw λa e b K m=>by
    obtain⟨fn,h1,h2,h3⟩:=hf.eq;have c:¬fn.body=none:=λe=>(by rw[e]at h2;simp at h2);have g : ¬fn.name = "runtime.NumGoroutine" := fun e=>by rw[e]at h3; simp at h3
    unfold Oper.wp;have:(execOp a.eval ⟨some d,.call { callee:=.value y,args:=xs.toArray,argTypes:=i },ty,pos,aft,none⟩).run P (dr w e)=.ok (.enter f (vs++caps).toArray) (dr w e):=by
      simp[execOp,resolve,b.eval j,Deferred.ofValue,invoke,callFunc,h1,c,g,b.evals k]
    rw[this];exact(hc e).mono λ_ _ ⟨v,w₀,d',he,hw,hR⟩=>by subst he;subst hw;exact m _ _ (h v w₀ hR _ _ (b.put hd v))
theorem Ma{α:Type}[Rp α]{t e:TypeId}[hs:TSlice P t e]{z:Value}{bytes:Nat}[hi:TInfo P e z (Rp.size α) bytes]{x y:Operand}{v:Value}{xs ys:List α}{base:Nat}{F:Nat→Prop}{A:Option Addr}{c:Nat}{cells:List Value}
    (U:opv l x=some v) (V:opv l y=some (.slice A ys.length c)) (H:Own w base F e v xs) (R:∀k,F k->k<w.heap.size) (s:base<=w.heap.size) (m:Chunks w F cells ys) (I:0<ys.length->∃b o,A=some ⟨b,o,none⟩/\cellsAt w b o cells)
    (hz0:0<Rp.size α) (hb:(xs.length+ys.length)*bytes<=140737488355328) (J:xs.length+ys.length<=9223372036854775807) (hd:Nat.blt d n=true)
    (h:∀f w',Own w' base F e f (xs++ys)->w.grownBy w' v.ownBlock->(f.ownBlock=v.ownBlock\/f.ownBlock=some w.heap.size)->owp P n ops Q rest ((d,f)::l) w') :
    owp P n ops Q (⟨some d,.call { callee:=.builtin .append,args:=#[x,y],argTypes:=#[t,t] },ty,pos,aft,none⟩::rest) l w:=λa q L=>by
  refine wpList_plain rfl λK W=>?_;obtain⟨i,i1,i2,i3,i4⟩:=hi.eq;obtain⟨cs,B,ho2,ho3⟩:=H;unfold Oper.wp;have M:∃f w',(Builtin.append_ #[t,t] ty #[v,.slice A ys.length c]).run P (dr w q)=.ok f w'/\w'.ownsRow base e (Rp.size α) f (xs.length+ys.length) (cs++cells)/\(dr w q).grownBy w' v.ownBlock/\(f.ownBlock=v.ownBlock\/f.ownBlock=some (dr w q).heap.size):=by
    cases A with
    |none =>
      have N:ys.length=0:=by
        rcases K8 ys.length with h0|h0
        . exact h0
        . obtain⟨b,o,hA,_⟩:=I h0;cases hA
      have C:ys=[]:=B1 N;subst C;have D:cells=[]:=m;subst D;refine⟨v,dr w q,?_,by simpa using(show(dr w q).ownsRow base e (Rp.size α) v xs.length cs from B),World.grownBy.refl _ _,.inl rfl⟩;rcases B.2 with⟨rfl,hn⟩|⟨g,cap,cur,rfl,_,_,hnc,_⟩
      . have X:xs=[]:=B1 hn;simp[Builtin.append_,run_underlying hs.eq,sizeOf,typeInfo,i1,Builtin.lenOf,Builtin.firstCells]
      . simp[Builtin.append_,run_underlying hs.eq,sizeOf,typeInfo,i1,Builtin.lenOf,Builtin.firstCells,hnc,storeCells]
    |some S =>
      have p:∀j u,cells[j]?=some u->(dr w q).cell? (S.add j)=some u:=by
        intro j u hu;rcases K8 ys.length with h0|h0
        . have C:ys=[]:=B1 h0;subst C;have D:cells=[]:=m;subst D;simp at hu
        . obtain⟨b,o,hA,hc⟩:=I h0;injection hA with hA;subst hA;rw[IZ];exact DG hc j u hu
      obtain⟨f,w',hrun,h2,h3,_,h5⟩:=run_append_own_at (P:=P) (dr w q) base t ty e i z (Rp.size α) bytes hs.eq i1 i2 i3 i4 hi.sz hz0 v xs.length cs B S ys.length c cells m.length p m.one (by simpa[maxLen]using J) hb s;exact⟨f,w',hrun,h2,h3,h5⟩
  obtain⟨f,w',hrun,h2,h3,h5⟩:=M;have O:(execOp a.eval ⟨some d,.call { callee:=.builtin .append,args:=#[x,y],argTypes:=#[t,t] },ty,pos,aft,none⟩).run P (dr w q)=.ok (.value f) w':=by
    simp[execOp,resolve,invoke,builtin,L.eval U,L.eval V,hrun]
  rw[O];have T:w.grownBy w' v.ownBlock:=⟨h3.os,h3.tape,h3.output,h3.size,h3.block⟩;have r:Agree F w w':=λk hk=>T.block k (R k hk) (λhe=>ho3 k he.symm hk);have E:Own w' base F e f (xs++ys):=by
    refine⟨cs++cells,by rw[K4];exact h2,(ho2.append m).agree r,λg G=>?_⟩;rcases h5 with h5|h5
    . exact ho3 g (h5▸G)
    . intro hk;have Y:g=w.heap.size:=(by rw[h5]at G;exact(R1 G).symm);have:=R g hk;omega
  exact W _ _ (h f w' E T h5 _ w'.drawn (L.put hd f))
end
def Res(P:Program)(fn:Func)(l:Env)(w:World)(v:Value):Prop:=∀n a d,Ok n a l->(results fn a.tmps).run P (dr w d)=.ok v (dr w d)
def X6(P:Program)(fn:Func)(R:Value->World->Prop):YX
  |.normal,l,w=>∃v,Res P fn l w v/\R v w
  |.ret,l,w=>∃v,Res P fn l w v/\R v w
  |_,_,_=>False
def ent:Nat->List Value->Env
  |_,[]=>[]
  |k,v::r=>(k,v)::ent (k+1) r
theorem Pb:∀(vs:List Value)(k i:Nat)(v:Value),lk (ent k vs) i=some v->k<=i/\vs[i-k]?=some v
  |[],_,_,_,h=>by simp[ent,lk]at h
  |u  :: r,k,i,v,h=>by
    simp only[ent,lk]at h;cases hb:Nat.beq k i with
    |true =>
      rw[hb]at h;have:k=i:=F4 hb;subst this;simpa using h
    |false =>
      rw[hb]at h;obtain⟨a,h2⟩:=Pb r (k+1) i v h;refine⟨by omega,?_⟩;rw[show i-k=(i-(k+1))+1 from by omega];simpa using h2
theorem AC{P:Program}{f:FuncId}{fn:Func}{c:Code}{vs:List Value}{w:World}{R:Value->World->Prop}{n:Nat}(hf:P.funcs[f]?=some fn)(hb:fn.body=some c)(hn:fn.ntmps=n)
    (h:ewp P n c (X6 P fn R) (ent 0 vs) w) (hl:Nat.ble vs.length n=true:=by exact rfl):Fn P f vs w R:=λd=>by
  have g:vs.length<=n:=(by simpa using hl);refine calls_of_wp hf hb (U6 (λe a w' j=>?_) (h _ d (?_:Ok n { tmps:=vs.toArray++Array.replicate (fn.ntmps-vs.toArray.size) undef,defers:=[] } (ent 0 vs))))
  . obtain⟨b,l,w₀,d',rfl,ho,q⟩:=j;cases e with
    |normal=>obtain⟨v,hr,hR⟩:=q;exact⟨ho.defers,v,hr n a d' ho,v,w₀,d',rfl,rfl,hR⟩
    |ret=>obtain⟨v,hr,hR⟩:=q;exact⟨ho.defers,v,hr n a d' ho,v,w₀,d',rfl,rfl,hR⟩
    |panic c=>exact b.elim
    |outgrown=>exact b.elim
    |exit i=>exact q.elim
    |goto i=>exact q.elim
  . refine⟨by simp[hn];omega,rfl,λi v hv=>?_⟩;obtain⟨_,h2⟩:=Pb vs 0 i v hv;simp only[V5]at h2;have hi:i<vs.length:=(C1.1 h2).1;simp only[B4];rw[B6 (by simpa using hi)];simp[h2]
section
variable {P:Program}{fn:Func}{l:Env}{w:World}
def rv(a:Array Value):ResultVar->Sem Value
  |.tmp t=>pure (a.getD t undef)
  |.cell b t=>do loadVar t (<- asAddr (a.getD b undef))
theorem Kj(fn:Func)(a:Array Value):results fn a=(do let vs <- fn.results.mapM (rv a);pure (if h:vs.size=1 then vs[0]else .tuple vs)):=by
  unfold results;congr 1
def YY(P:Program)(l:Env)(w:World)(r:ResultVar)(v:Value):Prop:=∀n a d,Ok n a l->(rv a.tmps r).run P (dr w d)=.ok v (dr w d)
theorem AD{t:Tmp}{v:Value}(h:lk l t=some v):YY P l w (.tmp t) v:=λ_ a d b=>by have:=b.knows t v h;simpa[rv]using this
theorem Ug{b:Tmp}{t:TypeId}[TOne P t]{c:Addr}{v:Value}(h:lk l b=some (.pointer (some c)))(hc:w.cell? c=some v):YY P l w (.cell b t) v:=λ_ a d e=>by
  have:=e.knows b _ h;simp only[rv,this];simp[asAddr,loadVar,Ja,load,Sem.run,LD,hc]
theorem Ge{b:Tmp}{t:TypeId}[TAgg P t]{z:Value}{size bytes:Nat}[TInfo P t z size bytes]{g o:Nat}{cs:List Value}(h:lk l b=some (.pointer (some ⟨g,o,none⟩)))(hl:cs.length=size)(hc:cellsAt w g o cs):YY P l w (.cell b t) (.agg cs.toArray):=λ_ a d c=>by
  have hk:=c.knows b _ h;subst hl;have:=Ha (P:=P) (dr w d) g o cs 0 #[] (λj v hv=>by rw[V0];exact DG hc j v hv);simp only[rv,hk];simp[asAddr,loadVar,IG,DO (P:=P) (t:=t),loadCells,this]
theorem Z1{r:ResultVar}{v:Value}(hr:fn.results=#[r])(h:YY P l w r v):Res P fn l w v:=λn a d b=>by
  simp[Kj,hr,h n a d b]
theorem AcL{r s:ResultVar}{v u:Value}(hr:fn.results=#[r,s])(h:YY P l w r v)(k:YY P l w s u):Res P fn l w (.tuple #[v,u]):=λn a d b=>by
  simp[Kj,hr,h n a d b,k n a d b]
theorem res3{r s q:ResultVar}{v u x:Value}(hr:fn.results=#[r,s,q])(h:YY P l w r v)(k:YY P l w s u)(j:YY P l w q x):Res P fn l w (.tuple #[v,u,x]):=λn a d b=>by
  simp[Kj,hr,h n a d b,k n a d b,j n a d b]
end
end
section
open Go Go.RowKit
class Mixed(P:Program):Prop where eq:P.follows .mixedOrders=true
def comesB(ops:Array Oper):Nat->Nat->Nat->Bool
  |0,_,_=>false
  |fuel+1,j,k=>(ops[j]?).any λo=>o.after.any λe=>Region.binds .any e&&(e.on==k||comesB ops fuel e.on k)
def ZJ(ops:Array Oper)(j:Nat):Bool:=(List.range ops.size).all λk=>k==j||comesB ops ops.size j k
def Closed(ops:Array Oper)(a:Array Bool):Prop:=∀m b,a.getD m false=true->ops[m]?=some b->∀e∈b.after,Region.binds .any e=true->a.getD e.on false=true
theorem IH{ops:Array Oper}{a:Array Bool}(hc:Closed ops a):∀(fuel j k:Nat)(b:Oper),ops[j]?=some b→(∀e∈b.after,Region.binds .any e=true→a.getD e.on false=true)→comesB ops fuel j k=true→a.getD k false=true
  |0,_,_,_,_,_,h=>by simp[comesB]at h
  |fuel+1,j,k,b,hj,ha,h=>by
    simp only[comesB,hj,Option.any_some]at h;obtain⟨e,he,hb⟩:=K9.1 h;rw[P6,R2]at hb;have c:=ha e he hb.1;rcases hb.2 with hk|hk
    . have:e.on=k:=(by simpa using hk);rw[<- this];exact c
    . cases hm:ops[e.on]? with
      |none =>
        exfalso;cases fuel with
        |zero=>simp[comesB]at hk
        |succ f=>simp[comesB,hm]at hk
      |some d=>exact IH hc fuel e.on k d hm (hc e.on d c hm) hk
theorem Closed.set{ops:Array Oper}{a:Array Bool}(hc:Closed ops a){i:Nat}(hi:i∈Region.ready .any ops a):Closed ops (a.setIfInBounds i true):=by
  intro m f hm c e he hb;obtain⟨_,oi,b,hall⟩:=mem_ready.1 hi;by_cases d:m=i
  . subst d;rw[c]at b;injection b with b;subst b;exact getD_set_true (hall e he hb)
  . have:a.getD m false=true:=(by rwa[getD_set_ne false (X0 d)]at hm);exact getD_set_true (hc m f this c e he hb)
def Zo(P:Program)(ops:Array Oper)(Q:Exit→Act→World→Prop)(S:World→Prop):Nat→Array Bool→Act→World→Prop
  |0,b,a,w=>Region.ready .any ops b=[]/\Q .normal a w
  |fuel+1,b,a,w =>
    (Region.ready .any ops b=[]->Q .normal a w) /\
    ∀i∈Region.ready .any ops b,wpOp P ops Q i (λa' w'=>(ZJ ops i=false->S w')/\Zo P ops Q S fuel (b.setIfInBounds i true) a' w') a w
theorem Kk{P:Program}{ops:Array Oper}{Q:Exit->Act->World->Prop}{S:World->Prop}:∀(fuel:Nat)(b:Array Bool)(a:Act)(w:World),Zo P ops Q S fuel b a w->wpAny P .any ops Q fuel b a w
  |0,_,_,_,h=>h
  |fuel+1,_,_,_,h=>⟨h.1,λi hi=>wpOp_mono (λa' w' c=>Kk fuel _ a' w' c.2) (h.2 i hi)⟩
theorem MN{P:Program}{ops:Array Oper}{Q:Exit→Act→World→Prop}{S:World→Prop}{i:Nat}{q:Oper}{v:Value}(hi:ops[i]?=some q)(m:∀(j:Nat)(o:Oper) cs b,ops[j]?=some o→o.op≠.select cs b)
    (N:∀c a w,Q (.panic c) (a.put q.dst v) w->Q (.panic c) a w) :
    ∀(fuel:Nat)(d:Array Bool)(a:Act)(w:World),Closed ops d ->
      (∀j n,ops[j]?=some n->j≠i->d.getD j true=false->(∀e∈n.after,Region.binds .any e=true->e.on≠i)->q.apart ops n=true) ->
      i∈Region.ready .any ops d->YieldsIf P ops S q v a->S w ->
      Zo P ops Q S fuel (d.setIfInBounds i true) (a.put q.dst v) w->Zo P ops Q S (fuel+1) d a w:=by
  intro fuel
  induction fuel with
  |zero =>
    intro d a w _ _ hr B s T;refine⟨λh=>(by rw[h]at hr;cases hr),λj hj=>?_⟩;by_cases f:j=i
    . subst f;exact B.wpOp hi s ⟨λ_=>s,T⟩
    . have:=ready_mono hj f;rw[T.1]at this;cases this
  |succ fuel O =>
    intro d a w t g hr B s T;refine⟨λh=>(by rw[h]at hr;cases hr),λj hj=>?_⟩;by_cases f:j=i
    . subst f;exact B.wpOp hi s ⟨λ_=>s,T⟩
    . have r:=T.2 j (ready_mono hj f);obtain⟨p,n,hoj,hall⟩:=mem_ready.1 hj;have u:∀e∈n.after,Region.binds .any e=true->e.on≠i:=λe he hb D=>by
        have r:=hall e he hb;have L:=(mem_ready.1 hr).1;rw[D]at r;rcases U8 i d.size with h'|h'
        . simp[h']at L r;rw[L]at r;cases r
        . simp[E9 h']at r
      have E:=g j n hoj f p u;have F:i∈Region.ready .any ops (d.setIfInBounds j true):=ready_mono hr (X0 f);have G:i<ops.size:=by
        rcases U8 i ops.size with h|h
        . exact h
        . rw[E9 h]at hi;cases hi
      have H:ZJ ops j=false:=by
        cases hl:ZJ ops j with
        |false=>rfl
        |true =>
          exfalso;have h4:=P7.1 hl i (T4.2 G);rw[R2]at h4;rcases h4 with h4|h4
          . exact f (by simpa using h4:i=j).symm
          . have C:=IH t ops.size j i n hoj hall h4;have M:=(mem_ready.1 hr).1;rcases U8 i d.size with h'|h'
            . simp[h']at C M;rw[M]at C;cases C
            . simp[E9 h']at C
      have l:∀k x,ops[k]?=some x->k≠i->(d.setIfInBounds j true).getD k true=false ->
          (∀e∈x.after,Region.binds .any e=true->e.on≠i)->q.apart ops x=true:=λk x hk I y J=>by
        refine g k x hk I ?_ J;by_cases z:j=k
        . subst z;exact p
        . rw[getD_set_ne true z]at y;exact y
      have R:=wpOp_putIf hoj E (λcs b=>m i q cs b hi) (λcs b=>m j n cs b hoj) N B r;refine wpOp_mono (λa' w' K=>?_) R;have A:S w':=K.2.1 H;refine⟨λ_=>A,O (d.setIfInBounds j true) a' w' (t.set hj) l F K.1 A ?_⟩;rw[D0 _ _ f];exact K.2.2
def Z9(P:Program)(ops:Array Oper)(Q:Exit->Act->World->Prop)(S:World->Prop):List (Nat×Bool)->Act->World->Prop
  |[],a,w=>Q .normal a w
  |(i,true)::r,a,w=>∃o v,ops[i]?=some o/\YieldsIf P ops S o v a/\Z9 P ops Q S r (a.put o.dst v) w
  |(i,false)::r,a,w=>wpOp P ops Q i (λa' w'=>(r≠[]->S w')/\Z9 P ops Q S r a' w') a w
def ordOk(ops:Array Oper):Array Bool->List (Nat×Bool)->Bool
  |listed,[]=>(Region.ready .any ops listed).isEmpty
  |listed,(i,true)::r=>(Region.ready .any ops listed).contains i&&(Region.free .any ops listed i&&ordOk ops (listed.setIfInBounds i true) r)
  |listed,[(i,false)]=>(Region.ready .any ops listed==[i])&&(ZJ ops i&&ordOk ops (listed.setIfInBounds i true) [])
  |listed,(i,false)::r=>(Region.ready .any ops listed==[i])&&ordOk ops (listed.setIfInBounds i true) r
theorem HC{P:Program}{ops:Array Oper}{Q:Exit->Act->World->Prop}{S:World->Prop}(hs:Region.noSelect ops=true)(k:∀c a w,¬Q (.panic c) a w) :
    ∀(d:List (Nat×Bool))(b:Array Bool)(a:Act)(w:World),Closed ops b->ordOk ops b d=true->(d≠[]->S w)->Z9 P ops Q S d a w->Zo P ops Q S d.length b a w
  |[],b,a,w,_,hc,_,h=>⟨by simpa[ordOk]using hc,h⟩
  |(i,true)::r,b,a,w,hcl,hc,hS,h=>by
    simp only[ordOk,P6]at hc;obtain⟨o,v,ho,hy,hr⟩:=h;have hi:i∈Region.ready .any ops b:=(by simpa using hc.1);exact MN ho (G8 hs) (λc a w l=>(k c _ _ l).elim) r.length b a w hcl (Region.free_spec ho hc.2.1) hi hy (hS (by simp)) (HC hs k r _ _ w (hcl.set hi) hc.2.2 (λ_=>hS (by simp)) hr)
  |[(i,false)],b,a,w,hcl,hc,hS,h=>by
    simp only[ordOk,P6]at hc;have hr:Region.ready .any ops b=[i]:=(by simpa using hc.1);refine⟨λf=>by rw[hr]at f;simp at f,λj hj=>?_⟩;rw[hr]at hj;have:j=i:=(by simpa using hj);subst this;have e:j∈Region.ready .any ops b:=(by rw[hr];simp);exact wpOp_mono (λa' w' g=>⟨(λhl=>by rw[hc.2.1]at hl;cases hl),HC hs k [] _ a' w' (hcl.set e) (by simpa[ordOk]using hc.2.2) (λh=>absurd rfl h) g.2⟩) h
  |(i,false)::x::r,b,a,w,hcl,hc,hS,h=>by
    simp only[ordOk,P6]at hc;have hr:Region.ready .any ops b=[i]:=(by simpa using hc.1);refine⟨λf=>by rw[hr]at f;simp at f,λj hj=>?_⟩;rw[hr]at hj;have:j=i:=(by simpa using hj);subst this;have e:j∈Region.ready .any ops b:=(by rw[hr];simp);exact wpOp_mono (λa' w' g=>⟨λ_=>g.1 (by simp),HC hs k (x::r) _ a' w' (hcl.set e) hc.2 g.1 g.2⟩) h
def hwp(P:Program)(n:Nat)(ops:Array Oper)(Q:YX)(S:World->Prop)(b:List (Nat×Bool))(l:Env)(w:World):Prop :=
  ∀a d,Ok n a l->Z9 P ops (ZE n Q) (λw'=>∃c,S (dr w' c)) b a (dr w d)
def Evg(P:Program)(ops:Array Oper)(o:Oper)(l:Env)(S:World->Prop)(v:Value):Prop :=
  ∀n a,Ok n a l->YieldsIf P ops (λw'=>∃b,S (dr w' b)) o v a
section
variable {P:Program}{n:Nat}{ops:Array Oper}{Q:YX}{S:World → Prop}{l:Env}{w:World}{d:Tmp}{op:Op}{ty:TypeId}{pos:String}{aft:Array Edge}
theorem evg{dst:Option Tmp}{v:Value}(h:∀w,S w->Ev P ⟨dst,op,ty,pos,aft,none⟩ l w v):Evg P ops ⟨dst,op,ty,pos,aft,none⟩ l S v:=λn a b =>
  .inl ⟨by simp[Region.wanted],λw' ⟨c,hS⟩=>h _ hS n a w'.drawn b⟩
theorem Xn{dst:Option Tmp}{j dj:Nat}{b:Bool}{u:Value}(hj:Aai ops j=some dj)(hl:lk l dj=some u)(hu:isB u b=false):Evg P ops ⟨dst,op,ty,pos,aft,some (j,b)⟩ l S undef:=λn a c =>
  .inr ⟨by simpa[Region.wanted]using c.unwanted (b:=b) hj hl hu,rfl⟩
theorem Tb(h:Q .normal l w):hwp P n ops Q S [] l w:=λ_ _ a=>Kv trivial a h
theorem Yk{i:Nat}{o:Oper}{r:List (Nat×Bool)}{v:Value}(hi:ops[i]?=some o)(hd:o.dst=some d)(hn:Nat.blt d n=true)(he:Evg P ops o l S v)(h:hwp P n ops Q S r ((d,v)::l) w):hwp P n ops Q S ((i,true)::r) l w:=λa e b =>
  ⟨o,v,hi,he n a b,by rw[hd];exact h _ _ (b.put hn v)⟩
def Y1(P:Program)(n:Nat)(ops:Array Oper)(Q:YX)(S:World->Prop)(r:List (Nat×Bool)):YX
  |.normal,l,w=>(r≠[]->S w)/\hwp P n ops Q S r l w
  |_,_,_=>False
theorem DX{i:Nat}{o:Oper}{r:List (Nat×Bool)}(hi:ops[i]?=some o)(h:owp P n ops (Y1 P n ops Q S r) [o] l w):hwp P n ops Q S ((i,false)::r) l w:=λa e p=>by
  have b:=h a e p;show wpOp P ops (ZE n Q) i _ a (dr w e);unfold wpList at b;unfold wpOp;simp only[hi];have conv:∀a' w',ZE n (Y1 P n ops Q S r) .normal a' w'->(r≠[]->∃f,S (dr w' f))/\Z9 P ops (ZE n Q) (λw'=>∃f,S (dr w' f)) r a' w':=by
    rintro a' w' ⟨_,l',w₀,f,rfl,ho,hS,k⟩;exact⟨λhr=>⟨w₀.drawn,hS hr⟩,k a' f ho⟩
  have d:∀g a' w',ZE n (Y1 P n ops Q S r) g a' w'->g=.normal:=by
    rintro g a' w' ⟨hn,l',w₀,f,rfl,ho,k⟩;cases g<;>first|rfl|exact k.elim
  by_cases j:Region.wanted o (yielded ops a.tmps)=true
  . rw[if_pos j]at b;rw[if_pos j];rcases b with b|⟨b,q,w0,h2⟩
    . refine .inl ?_;unfold Oper.wp at *
      generalize (execOp a.eval o).run P (dr w e)=m at *
      cases m with
      |ok s w'  =>
        cases s<;>simp only[Oper.upon]at b ⊢ <;>
          first
            |exact conv _ _ b
            |exact Calls.mono b (λt u he=>by
                cases t with
                |returned v=>exact conv _ _ he
                |panicked c=>exact absurd (d _ _ _ he) (by simp)
                |outgrown=>obtain⟨q,w0,hq⟩:=he;exact absurd (d _ _ _ hq) (by simp))
            |exact Rows.mono b (λ_ _ he=>conv _ _ he)
            |exact b.elim
      |halt x w'=>cases x<;>simp only[Oper.upon]at b ⊢<;>first|exact b.elim|exact absurd (d _ _ _ b) (by simp)
    . exact absurd (d _ _ _ h2) (by simp)
  . rw[if_neg j]at b;rw[if_neg j];exact conv _ _ b
theorem Df[hm:Mixed P]{id:Nat}{k:List Oper}(S:World->Prop)(b:List (Nat×Bool))  (hl:b.length=k.toArray.size)  (e:S w)
    (h:hwp P n k.toArray Q S b l w) (hs:Region.noSelect k.toArray=true:=by kernel_rfl) (hc:ordOk k.toArray (Array.replicate k.toArray.size false) b=true:=by kernel_rfl):ewp P n (.region id k.toArray true) Q l w:=λa d f =>
  wp_region_any hm.eq (by
    have:=HC (P:=P) hs (Q:=ZE n Q) (S:=λw'=>∃g,S (dr w' g)) (λc a w i=>i.1) b (Array.replicate k.toArray.size false) a (dr w (d+1)) (λm j hm=>by
      simp only[B4,D1]at hm;split at hm<;>simp at hm) hc (λ_=>⟨w.drawn,e⟩) (h a (d+1) f)
    rw[hl]at this;exact Kk _ _ _ _ this)
end
end
section
open Go Go.RowKit
section
variable {P:Program}{n:Nat}{ops:Array Oper}{Q:YX}{K:Env → World → Prop}{S:World → Prop}{rest:List Oper}{l:Env}{w:World}{d:Tmp}{op:Op}{ty:TypeId}{pos:String}{aft:Array Edge}
theorem Oq(h:K l w):owp P n ops (thn K Q) [] l w:=Js h
theorem AB(h:K l w):hwp P n ops (thn K Q) S [] l w:=Tb h
theorem Gf{r:List (Nat×Bool)}(a:S w)(b:hwp P n ops Q S r l w):owp P n ops (Y1 P n ops Q S r) [] l w:=Js ⟨λ_=>a,b⟩
theorem IS(a:hwp P n ops Q S [] l w):owp P n ops (Y1 P n ops Q S []) [] l w:=Js ⟨λh=>absurd rfl h,a⟩
theorem Hn{p:Prop}[Decidable p](he:Ev P ⟨some d,op,ty,pos,aft,none⟩ l w (.bool (decide p)))(hd:Nat.blt d n=true)(a:p->owp P n ops Q rest ((d,.bool true)::l) w)(hf:¬p->owp P n ops Q rest ((d,.bool false)::l) w) :
    owp P n ops Q (⟨some d,op,ty,pos,aft,none⟩::rest) l w:=by
  by_cases h:p
  . exact AX (by simpa[h]using he) hd (a h)
  . exact AX (by simpa[h]using he) hd (hf h)
theorem KE{p:Prop}[Decidable p](he:Ev P ⟨some d,op,ty,pos,aft,none⟩ l w (.bool (decide p)))(hd:Nat.blt d n=true)(h:p)(a:owp P n ops Q rest ((d,.bool true)::l) w):owp P n ops Q (⟨some d,op,ty,pos,aft,none⟩::rest) l w:=AX (by simpa[h]using he) hd a
theorem KF{p:Prop}[Decidable p](he:Ev P ⟨some d,op,ty,pos,aft,none⟩ l w (.bool (decide p)))(hd:Nat.blt d n=true)(h:¬p)(hf:owp P n ops Q rest ((d,.bool false)::l) w):owp P n ops Q (⟨some d,op,ty,pos,aft,none⟩::rest) l w:=AX (by simpa[h]using he) hd hf
def hwq(P:Program)(n:Nat)(ops:Array Oper)(Q:YX)(S:World->Prop)(o:Oper)(r:List (Nat×Bool))(l:Env)(w:World):Prop :=
  ∃d v,o.dst=some d/\Nat.blt d n=true/\Evg P ops o l S v/\hwp P n ops Q S r ((d,v)::l) w
theorem Au{i:Nat}{o:Oper}{r:List (Nat×Bool)}(hi:ops[i]?=some o)(h:hwq P n ops Q S o r l w):hwp P n ops Q S ((i,true)::r) l w:=by
  obtain⟨d,v,h1,h2,h3,h4⟩:=h;exact Yk hi h1 h2 h3 h4
theorem Bu{r:List (Nat×Bool)}{v:Value}(he:∀w',S w'->Ev P ⟨some d,op,ty,pos,aft,none⟩ l w' v)(hn:Nat.blt d n=true)(h:hwp P n ops Q S r ((d,v)::l) w):hwq P n ops Q S ⟨some d,op,ty,pos,aft,none⟩ r l w:=⟨d,v,rfl,hn,evg he,h⟩
theorem Ih{a:World}{r:List (Nat×Bool)}{v:Value}(he:Ev P ⟨some d,op,ty,pos,aft,none⟩ l a v)(hn:Nat.blt d n=true)(h:hwp P n ops Q (·=a) r ((d,v)::l) w):hwq P n ops Q (·=a) ⟨some d,op,ty,pos,aft,none⟩ r l w:=⟨d,v,rfl,hn,evg λ_ e=>e▸he,h⟩
theorem AE{r:List (Nat×Bool)}{j dj:Nat}{b:Bool}{u:Value}(hj:Aai ops j=some dj)(hl:lk l dj=some u)   (h:hwp P n ops Q S r ((d,undef)::l) w) (hu:isB u b=false:=by exact rfl) (hn:Nat.blt d n=true:=by exact rfl):hwq P n ops Q S ⟨some d,op,ty,pos,aft,some (j,b)⟩ r l w:=⟨d,_,rfl,hn,Xn hj hl hu,h⟩
theorem At{r:List (Nat×Bool)}{j dj:Nat}{b:Bool}(hj:Aai ops j=some dj)(hl:lk l dj=some (.bool b))(h:hwq P n ops Q S ⟨some d,op,ty,pos,aft,none⟩ r l w):hwq P n ops Q S ⟨some d,op,ty,pos,aft,some (j,b)⟩ r l w:=by
  obtain⟨e,v,h1,h2,f,h4⟩:=h;refine⟨e,v,h1,h2,λm a c=>?_,h4⟩;rcases f m a c with⟨_,hv⟩|⟨g,_⟩
  . exact .inl ⟨by simp[Region.wanted,c.yielded hj hl],hv⟩
  . simp[Region.wanted]at g
theorem AQ{p:Prop}[Decidable p]{r:List (Nat×Bool)}(he:∀w',S w'->Ev P ⟨some d,op,ty,pos,aft,none⟩ l w' (.bool (decide p)))  (a:p->hwp P n ops Q S r ((d,.bool true)::l) w) (hf:¬p->hwp P n ops Q S r ((d,.bool false)::l) w) (hn:Nat.blt d n=true:=by exact rfl) :
    hwq P n ops Q S ⟨some d,op,ty,pos,aft,none⟩ r l w:=by
  by_cases h:p
  . exact Bu (by simpa[h]using he) hn (a h)
  . exact Bu (by simpa[h]using he) hn (hf h)
theorem CP{p:Prop}[Decidable p]{r:List (Nat×Bool)}(he:∀w',S w'->Ev P ⟨some d,op,ty,pos,aft,none⟩ l w' (.bool (decide p)))  (h:p) (a:hwp P n ops Q S r ((d,.bool true)::l) w) (hn:Nat.blt d n=true:=by exact rfl):hwq P n ops Q S ⟨some d,op,ty,pos,aft,none⟩ r l w:=Bu (by simpa[h]using he) hn a
theorem CR{p:Prop}[Decidable p]{r:List (Nat×Bool)}(he:∀w',S w'->Ev P ⟨some d,op,ty,pos,aft,none⟩ l w' (.bool (decide p)))  (h:¬p) (hf:hwp P n ops Q S r ((d,.bool false)::l) w) (hn:Nat.blt d n=true:=by exact rfl):hwq P n ops Q S ⟨some d,op,ty,pos,aft,none⟩ r l w:=Bu (by simpa[h]using he) hn hf
def hws(P:Program)(n:Nat)(ops:Array Oper)(Q:YX)(S:World->Prop)(fuel:Nat)(b:Array Bool)(l:Env)(w:World):Prop :=
  Closed ops b->∀a d,Ok n a l->Zo P ops (ZE n Q) (λw'=>∃c,S (dr w' c)) fuel b a (dr w d)
def YZ(P:Program)(n:Nat)(ops:Array Oper)(Q:YX)(S:World->Prop)(i:Nat)(fuel:Nat)(a:Array Bool):YX
  |.normal,l,w=>(ZJ ops i=false->S w)/\hws P n ops Q S fuel (a.setIfInBounds i true) l w
  |_,_,_=>False
theorem Nn{fuel i:Nat}{o:Oper}{v:Value}{b:Array Bool}(hi:ops[i]?=some o)    (hd:o.dst=some d) (hn:Nat.blt d n=true) (he:Evg P ops o l S v) (k:S w)
    (h:hws P n ops Q S fuel (b.setIfInBounds i true) ((d,v)::l) w) (hs:Region.noSelect ops=true:=by kernel_rfl) (hf:Region.free .any ops b i=true:=by kernel_rfl) (hr:(Region.ready .any ops b).contains i=true:=by kernel_rfl):hws P n ops Q S (fuel+1) b l w:=λf a e j=>by
  have g:i∈Region.ready .any ops b:=(by simpa using hr);refine MN hi (G8 hs) (λc a w m=>m.1.elim) fuel b a _ f (Region.free_spec hi hf) g (he n a j) ⟨w.drawn,k⟩ ?_;rw[hd];exact h (f.set g) _ _ (j.put hn v)
theorem Rl{fuel i:Nat}{o:Oper}{b:Array Bool}(hi:ops[i]?=some o)(hr:i∈Region.ready .any ops b)(h:owp P n ops (YZ P n ops Q S i fuel b) [o] l w)(m:Closed ops b)(a:Act)(e:Nat)(s:Ok n a l) :
    wpOp P ops (ZE n Q) i (λa' w'=>(ZJ ops i=false->∃g,S (dr w' g))/\Zo P ops (ZE n Q) (λw'=>∃g,S (dr w' g)) fuel (b.setIfInBounds i true) a' w') a (dr w e):=by
  have d:=h a e s;unfold wpList at d;unfold wpOp;simp only[hi];have conv:∀a' w',ZE n (YZ P n ops Q S i fuel b) .normal a' w'->(ZJ ops i=false->∃g,S (dr w' g))/\Zo P ops (ZE n Q) (λw'=>∃g,S (dr w' g)) fuel (b.setIfInBounds i true) a' w':=by
    rintro a' w' ⟨_,l',w₀,g,rfl,r,hS,p⟩;exact⟨λhl=>⟨w₀.drawn,hS hl⟩,p (m.set hr) a' g r⟩
  have f:∀j a' w',ZE n (YZ P n ops Q S i fuel b) j a' w'->j=.normal:=by
    rintro j a' w' ⟨hn,l',w₀,g,rfl,r,p⟩;cases j<;>first|rfl|exact p.elim
  by_cases k:Region.wanted o (yielded ops a.tmps)=true
  . rw[if_pos k]at d;rw[if_pos k];rcases d with d|⟨d,t,w0,h2⟩
    . refine .inl ?_;unfold Oper.wp at *
      generalize (execOp a.eval o).run P (dr w e)=q at *
      cases q with
      |ok u w'  =>
        cases u<;>simp only[Oper.upon]at d ⊢ <;>
          first
            |exact conv _ _ d
            |exact Calls.mono d (λy z he=>by
                cases y with
                |returned v=>exact conv _ _ he
                |panicked c=>exact absurd (f _ _ _ he) (by simp)
                |outgrown=>obtain⟨t,w0,hq⟩:=he;exact absurd (f _ _ _ hq) (by simp))
            |exact Rows.mono d (λ_ _ he=>conv _ _ he)
            |exact d.elim
      |halt x w'=>cases x<;>simp only[Oper.upon]at d ⊢<;>first|exact d.elim|exact absurd (f _ _ _ d) (by simp)
    . exact absurd (f _ _ _ h2) (by simp)
  . rw[if_neg k]at d;rw[if_neg k];exact conv _ _ d
theorem PR{fuel i j:Nat}{f g:Oper}{b:Array Bool}  (hi:ops[i]?=some f) (hj:ops[j]?=some g)
    (o:owp P n ops (YZ P n ops Q S i fuel b) [f] l w) (p:owp P n ops (YZ P n ops Q S j fuel b) [g] l w) (hr:Region.ready .any ops b=[i,j]:=by kernel_rfl):hws P n ops Q S (fuel+1) b l w:=λc a e h=>by
  refine⟨λm=>by rw[hr]at m;simp at m,λk hk=>?_⟩;have d:=hk;rw[hr]at hk;have:k=i\/k=j:=(by simpa using hk);rcases this with rfl|rfl
  . exact Rl hi d o c a e h
  . exact Rl hj d p c a e h
theorem IT{fuel i:Nat}{a:Array Bool}(b:S w)(c:hws P n ops Q S fuel (a.setIfInBounds i true) l w):owp P n ops (YZ P n ops Q S i fuel a) [] l w:=Js ⟨λ_=>b,c⟩
theorem No{fuel:Nat}{b:Array Bool}(d:List (Nat×Bool))  (hl:d.length=fuel)  (g:S w) (h:hwp P n ops Q S d l w) (hs:Region.noSelect ops=true:=by kernel_rfl) (hc:ordOk ops b d=true:=by kernel_rfl):hws P n ops Q S fuel b l w:=λf a e i=>by
  subst hl;exact HC (P:=P) hs (Q:=ZE n Q) (S:=λw'=>∃j,S (dr w' j)) (λc a w k=>k.1) d b a (dr w e) f hc (λ_=>⟨w.drawn,g⟩) (h a e i)
theorem Uh[hm:Mixed P]{id:Nat}{e:List Oper}(S:World->Prop)(h:hws P n e.toArray Q S e.toArray.size (Array.replicate e.toArray.size false) l w):ewp P n (.region id e.toArray true) Q l w:=λa d b =>
  wp_region_any hm.eq (Kk _ _ _ _ (h (λm c hm=>by
      simp only[B4,D1]at hm;split at hm<;>simp at hm) a (d+1) b))
noncomputable def bof(p:Prop):Bool:=@decide p (Classical.propDecidable p)
theorem BI{p:Prop}(h:p):bof p=true:=by unfold bof;exact @decide_eq_true p (Classical.propDecidable p) h
theorem Bb{p:Prop}(h:¬p):bof p=false:=by unfold bof;exact @decide_eq_false p (Classical.propDecidable p) h
theorem Rm{p q:Prop}(h:p↔q):bof p=bof q:=by
  by_cases a:p
  . rw[BI a,BI (h.1 a)]
  . rw[Bb a,Bb (λb=>a (h.2 b))]
theorem Kl(b:Bool):bof (b=true)=b:=by
  cases b
  . exact Bb (by simp)
  . exact BI rfl
theorem Ez{f:FuncId}[Callable P f]{xs:List Operand}{vs:List Value}{a:Array TypeId}{p:Prop}{R:World->Prop}(b:Y3 l xs=some vs)  (hc:Fn P f vs w λv w'=>v=.bool (bof p)/\R w')
    (c:∀w',p->R w'->owp P n ops Q rest ((d,.bool true)::l) w') (hf:∀w',¬p->R w'->owp P n ops Q rest ((d,.bool false)::l) w') (hd:Nat.blt d n=true:=by exact rfl):owp P n ops Q (⟨some d,.call { callee:=.value (.func f),args:=xs.toArray,argTypes:=a },ty,pos,aft,none⟩::rest) l w :=
  Cb b (hd:=hd) hc λv w' ⟨hv,hR⟩=>by
    subst hv;by_cases h:p
    . rw[BI h];exact c w' h hR
    . rw[Bb h];exact hf w' h hR
theorem Dp{t:TypeId}{z:Value}{size bytes:Nat}[hi:TInfo P t z size bytes]{c:TypeId}{a:String}{b:Array Edge}{y:Operand}{v:Value}  (m:opv ((d,.pointer (some ⟨w.heap.size,0,none⟩))::l) y=some v) (e:v.cells.toList.length=size) (p:∀u∈v.cells.toList,u.oneCell'=true)
    (h:∀w',New w w' t v.cells.toList->owp P n ops Q rest ((d,.pointer (some ⟨w.heap.size,0,none⟩))::l) w') (hd:Nat.blt d n=true:=by exact rfl) :
    owp P n ops Q (⟨some d,.alloc t,ty,pos,aft,none⟩::⟨none,.store t (.tmp d) y,c,a,b,none⟩::rest) l w:=by
  have hz:z.cells.toList.length=size:=(by simpa using hi.sz);refine GO hd λr f=>?_;refine Do (g:=w.heap.size) (o:=0) (by simp[opv,lk]) m f.blk e (by omega) p λq i=>h q ?_;refine⟨f.ext.trans (i.below (W3 _)),by rw[i.size,f.size],?_⟩;have j:=FO v.cells.toList [] z.cells.toList [] (by omega);have k:=i.blk;simp only[R3,R4,R5]at j;rw[j]at k;exact k
theorem Ga{dst:Option Tmp}{t u:TypeId}{x y:Operand}{k:IntKind}{a b:Int}(c:opv l x=some (.int k a))(d:opv l y=some (.int k b)):Ev P ⟨dst,.binOp .neq t x y u,ty,pos,aft,none⟩ l w (.bool (decide (a≠b))):=by
  have:=Xl (P:=P) (w:=w) (dst:=dst) (t:=t) (u:=u) (ty:=ty) (pos:=pos) (aft:=aft) c d;by_cases h:a=b<;>simpa[h]using this
theorem YT{a:Func}{R:Value->World->Prop}{t:Tmp}{v:Value}(hr:a.results=#[.tmp t])(hl:lk l t=some v)(h:R v w):X6 P a R .ret l w:=⟨v,Z1 hr (AD hl),h⟩
theorem YW{a:Func}{R:Value->World->Prop}{r:ResultVar}{v:Value}(hr:a.results=#[r])(hl:YY P l w r v)(h:R v w):X6 P a R .ret l w:=⟨v,Z1 hr hl,h⟩
theorem Y7{a:Func}{R:Value->World->Prop}{r s:ResultVar}{v u:Value}(hr:a.results=#[r,s])(b:YY P l w r v)(c:YY P l w s u)(h:R (.tuple #[v,u]) w):X6 P a R .ret l w:=⟨_,AcL hr b c,h⟩
theorem Z6{a:Func}{R:Value->World->Prop}{r s q:ResultVar}{v u x:Value}(hr:a.results=#[r,s,q])(b:YY P l w r v)(c:YY P l w s u)(d:YY P l w q x)(h:R (.tuple #[v,u,x]) w):X6 P a R .ret l w:=⟨_,res3 hr b c d,h⟩
theorem Gx{c:Code}{X:Type}(h:X->Env)(I:X->World->Prop)(e:X->Nat)(a:X)(d:I a w)(hs:X5 l (h a))
    (b:∀x w,I x w->ewp P n c (thn (λg w'=>∃f,X5 g (h f)/\I f w'/\e f<e x) Q) (h x) w):ewp P n (.loop c) Q l w:=Ri h I e a hs d b
end
class NilQ(Q:YX)(K:outParam (Env->World->Prop)):Prop where of:∀l w,K l w->Q .normal l w
instance nilThn{K:Env->World->Prop}{Q:YX}:NilQ (thn K Q) K:=⟨λ_ _ h=>h⟩
instance nilBlk{i:Nat}{Q:YX}{K:Env->World->Prop}[h:NilQ Q K]:NilQ (Y4 i Q) K:=⟨λl w hk=>h.of l w hk⟩
instance(priority:=low) nilAny {Q:YX}:NilQ Q (Q .normal):=⟨λ_ _ h=>h⟩
theorem o_z{P:Program}{n:Nat}{ops:Array Oper}{Q:YX}{K:Env->World->Prop}{l:Env}{w:World}[h:NilQ Q K](hk:K l w):owp P n ops Q [] l w:=Js (h.of l w hk)
theorem h_z{P:Program}{n:Nat}{ops:Array Oper}{Q:YX}{S:World->Prop}{K:Env->World->Prop}{l:Env}{w:World}[h:NilQ Q K](hk:K l w):hwp P n ops Q S [] l w:=Tb (h.of l w hk)
class Cgo(P:Program)(n:Nat)(c:Code)(Q:YX)(l:Env)(w:World)(G:outParam Prop):Prop where go:G->ewp P n c Q l w
section
variable {P:Program}{n:Nat}{Q:YX}{l:Env}{w:World}
instance cgoSeq{x y:Code}:Cgo P n (.seq x y) Q l w (ewp P n x (thn (ewp P n y Q) Q) l w):=⟨Ak⟩
instance cgoBlock{id:Nat}{c:Code}:Cgo P n (.block id c) Q l w (ewp P n c (Y4 id Q) l w):=⟨BK⟩
instance cgoRegion{id:Nat}{a:List Oper}:Cgo P n (.region id a.toArray false) Q l w (owp P n a.toArray Q a l w):=⟨Am⟩
instance cgoSkip:Cgo P n .skip Q l w (Q .normal l w):=⟨Bf⟩
instance cgoExit{i:Nat}:Cgo P n (.exit i) Q l w (Q (.exit i) l w):=⟨Cn⟩
instance cgoRet:Cgo P n .ret Q l w (Q .ret l w):=⟨AV⟩
theorem Ar{c:Code}{G:Prop}[h:Cgo P n c Q l w G](g:G):ewp P n c Q l w:=h.go g
end
end
section
open Go Go.RowKit
theorem MO{l:Env}{i:Nat}{v:Value}:∀{e:Env},lk e i=none→X5 l e→X5 ((i,v)::l) e
  |[],_,_=>trivial
  |(j,  u)::r,hn,h=>by
    simp only[lk]at hn;cases hb:Nat.beq j i with
    |true=>rw[hb]at hn;simp at hn
    |false =>
      rw[hb]at hn;refine⟨?_,MO hn h.2⟩;have:Nat.beq i j=false:=by
        cases a:Nat.beq i j
        . rfl
        . rw[F4 a,U7]at hb;cases hb
      simp only[lk,this];exact h.1
section
variable {P:Program}{m:Nat}{Q:YX}{l:Env}{w:World}
def rgE(i n:Tmp)(N k:Nat)(e:Env):Env:=(i,.int .i64 (k:Int))::(n,.int .i64 (N:Int))::e
theorem CI{X:Type}{t i n d:Tmp}{b D r H:Nat}{E F y T J K L:TypeId}{U M O:String}{V R S:Array Edge}{o:Code}(N:Nat)(W:N≤9223372036854775807)(Y:X→Env)(I:Nat→X→World→Prop)(f:X)
    (z:I 0 f w) (hs:X5 l (rgE i n N 0 (Y f)))
    (hf:∀x,lk (Y x) i=none/\lk (Y x) d=none) (C:Nat.blt t m=true/\Nat.blt i m=true/\Nat.blt d m=true) (q:Nat.beq i n=false/\Nat.beq d n=false)
    (s:∀k x w,k<N->I k x w->ewp P m o (Y4 D (thn (λg w'=>∃a,X5 g (rgE i n N k (Y a))/\I (k+1) a w') (Y4 b Q))) ((t,.bool true)::rgE i n N k (Y x)) w)
    (u:∀x w,I N x w->Q .normal ((t,.bool false)::rgE i n N N (Y x)) w) :
    ewp P m (.loop (.seq (.region r #[⟨some t,.binOp .lss E (.tmp i) (.tmp n) F,T,U,V,none⟩] false) (.seq (.cond (.tmp t) .skip (.exit b)) (.seq (.block D o)
      (.region H #[⟨some d,.binOp .add y (.tmp i) (.const (.int .i64 1)) L,J,M,R,none⟩,⟨some i,.move (.tmp d),K,O,S,none⟩] false))))) (Y4 b Q) l w:=by
  have A:∀k e,opv (rgE i n N k e) (.tmp i)=some (.int .i64 (k:Int)):=λk e=>(by simp[opv,rgE,lk]);have B:∀k e,opv (rgE i n N k e) (.tmp n)=some (.int .i64 (N:Int)):=λk e=>(by simp only[opv,rgE,lk,q.1];simp);refine(Gx (X:=Nat×X) (λp=>rgE i n N p.1 (Y p.2)) (λp w=>p.1<=N/\I p.1 p.2 w) (λp=>N-p.1) (0,f) ⟨W6 _,z⟩ hs ?_);rintro⟨k,x⟩ w1 ⟨hk,hI⟩;dsimp only at hk hI ⊢;refine Ak (Am ?_);by_cases hlt:k<N
  . refine KE (CO (A k _) (B k _)) C.1 (by omega) (Oq ?_);refine Ak (Aj (by simp[opv,lk]) (Bf ?_));refine Ak (BK (HQ ?_ (s k x w1 hlt hI)));have conv:∀g w',(∃a,X5 g (rgE i n N k (Y a))/\I (k+1) a w')->ewp P m (.region H #[⟨some d,.binOp .add y (.tmp i) (.const (.int .i64 1)) L,J,M,R,none⟩,⟨some i,.move (.tmp d),K,O,S,none⟩] false)
        (thn (λg w'=>∃a:Nat×X,X5 g (rgE i n N a.1 (Y a.2))/\(a.1<=N/\I a.1 a.2 w')/\N-a.1<N-k) (Y4 b Q)) g w':=by
      rintro g w' ⟨a,hsub,hI'⟩;refine Am ?_;refine AX (Ub (show opv g (.tmp i)=_ from hsub.1) (by omega)) C.2.2 ?_;refine AX (Dh (v:=.int .i64 ((k+1:Nat):Int)) (by simp[opv,lk])) C.2.1 (Oq ?_);refine⟨(k+1,a),⟨by simp[lk],?_,?_⟩,⟨hlt,hI'⟩,by dsimp only;omega⟩
      . simp only[lk,q.1,q.2];exact hsub.2.1
      . exact MO (hf a).1 (MO (hf a).2 hsub.2.2)
    intro e g w' h;cases e with
    |normal=>exact conv g w' h
    |exit j =>
      simp only[Y4]at h ⊢;cases hj:Nat.beq j D with
      |true=>rw[hj]at h;exact conv g w' h
      |false=>rw[hj]at h;exact h
    |panic c=>exact h
    |outgrown=>exact h
    |goto j=>exact h
    |ret=>exact h
  . have G:k=N:=(by omega);subst G;refine KF (CO (A k _) (B k _)) C.1 (by omega) (Oq ?_);refine Ak (Ae (by simp[opv,lk]) (Cn ?_));have hb:Nat.beq b b=true:=U7 b;simp only[thn,Y4,hb];exact u x w1 hI
end
class TPlaces(P:Program)(t:TypeId)(pl:outParam (List (Nat×Nat))):Prop where eq:∃fs,P.underlying t=some (.struct fs)/\∀w,(fs.mapM λf=>Prod.mk f.offset <$> sizeOf f.type:Sem (Array (Nat×Nat))).run P w=.ok pl.toArray w
def ZD:List Value->List (Nat×Value)->List Value
  |cs,[]=>cs
  |cs,(o,v)::r=>ZD (X8 cs o v.cells.toList) r
def Zd(a:List (Nat×Nat))(m:Nat):List (Nat×Value)→Option (List (Nat×Value))
  |[]=>some []
  |(i,  v)::r=>match a[i]? with
    |some (off,size)=>match Nat.beq v.cells.toList.length size&&Nat.ble (off+size) m with
      |true=>match Zd a m r with
        |some k=>some ((off,v)::k)
        |none=>none
      |false=>none
    |none=>none
theorem Pc(b:List (Nat×Nat)):∀(ps:List (Nat×Value))(a:Array Value)(k:List (Nat×Value)),Zd b a.size ps=some k→Instr.fill (b.toArray[·]?) a ps=some (ZD a.toList k).toArray
  |[],a,k,h=>by
    simp only[Zd,Option.some.injEq]at h;subst h;simp[Instr.fill,ZD]
  |(i,  v)::r,a,k,h=>by
    simp only[Zd]at h;cases c:b[i]? with
    |none=>rw[c]at h;simp at h
    |some q =>
      obtain⟨off,size⟩:=q;rw[c]at h;simp only at h;cases hb:Nat.beq v.cells.toList.length size&&Nat.ble (off+size) a.size with
      |false=>rw[hb]at h;simp at h
      |true =>
        rw[hb]at h;simp only at h;cases hr:Zd b a.size r with
        |none=>rw[hr]at h;simp at h
        |some e =>
          rw[hr]at h;simp only[Option.some.injEq]at h;subst h;rw[P6]at hb;have f:v.cells.size=size:=(by simpa using F4 hb.1);have j:off+size<=a.size:=F8 hb.2;simp only[Instr.fill,List.getElem?_toArray,c];rw[if_neg (by simp[f];omega)];have hf:=Kc v.cells.toList 0 off a;rw[U9]at hf;have he:Array.foldl (λcs(x:Value×Nat)=>cs.setIfInBounds (off+x.2) x.1) a v.cells.zipIdx=(X8 a.toList off v.cells.toList).toArray:=by
            rw[<- Array.foldl_toList,Array.toList_zipIdx];apply P5.1;rw[hf]
          have d:(X8 a.toList off v.cells.toList).toArray.size=a.size:=(by simp[Hg]);have g:=Pc b r (X8 a.toList off v.cells.toList).toArray e (by rw[d];exact hr);simp only[ZD];rw[<- g];congr 1;funext x;simp
def Aab:List Nat->List Value->List (Nat×Value)
  |i::r,v::s=>(i,v)::Aab r s
  |_,_=>[]
theorem Qu(f:Operand->Value):∀(ps:List (Nat×Operand)),ps.map (λp=>(p.1,f p.2))=Aab (ps.map (·.1)) ((ps.map (·.2)).map f)
  |[]=>rfl
  |p::r=>by simp[Aab,Qu f r]
theorem Ju{P:Program}{l:Env}{w:World}{dst:Option Tmp}{ty:TypeId}{pos:String}{aft:Array Edge}{t:TypeId}{z:Value}{size bytes:Nat}[TInfo P t z size bytes]{b:List (Nat×Nat)}[f:TPlaces P t b]{ps:List (Nat×Operand)}{vs:List Value}{k:List (Nat×Value)}
    (g:Y3 l (ps.map (·.2))=some vs) (hk:Zd b z.cells.size (Aab (ps.map (·.1)) vs)=some k):Ev P ⟨dst,.build t ps.toArray,ty,pos,aft,none⟩ l w (.agg (ZD z.cells.toList k).toArray):=λ_ a d h=>by
  obtain⟨i,h1,h2⟩:=f.eq;have c:(ps.map λp=>(p.1,a.eval p.2))=Aab (ps.map (·.1)) vs:=(by rw[Qu,h.evals g]);have hf:=Pc b _ z.cells k hk;simp only[execOp,Instr.build];simp[HR (P:=P) (t:=t),run_underlying h1,h2 (dr w d)];have e:Instr.fill (λx=>b[x]?) z.cells (Aab (ps.map (·.1)) vs)=some (ZD z.cells.toList k).toArray:=by
    rw[<- hf];congr 1;funext x;simp
  rw[c,e];simp
end
section
open Go Go.RowKit
structure Kept(w w':World)(v:Value):Prop where
  os:w'.os=w.os
  tape:w'.tape=w.tape
  output:w'.output=w.output
  size:w.heap.size<=w'.heap.size
  block:∀k,k<w.heap.size->v.ownBlock≠some k->w'.heap[k]?=w.heap[k]?
theorem Kept.below{w w':World}{v:Value}(h:Kept w w' v){b:Nat}(a:b<=w.heap.size)(hv:∀g,v.ownBlock=some g->b<=g):Below b w w' :=
  ⟨h.os,h.tape,h.output,h.size,λk hk=>h.block k (by omega) λe=>by have:=hv k e;omega⟩
theorem Kept.blk{w w':World}{v:Value}(h:Kept w w' v){g:Nat}{t:TypeId}{cs:List Value}(hb:Blk w g t cs)(a:v.ownBlock≠some g):Blk w' g t cs:=hb.keep (h.block g hb.lt a)
theorem Own.blk_ne{α:Type}[Rp α]{w:World}{base:Nat}{F:Nat->Prop}{e:TypeId}{v:Value}{xs:List α}(h:Own w base F e v xs){g:Nat}{t:TypeId}{cs:List Value}(hb:Blk w g t cs)(b:t≠e):v.ownBlock≠some g:=by
  obtain⟨cells,c,_⟩:=h;rcases c.2 with⟨rfl,_⟩|⟨d,cap,cur,rfl,_,a,_⟩
  . simp[Value.ownBlock]
  . intro he;have:d=g:=(by simpa[Value.ownBlock]using he);subst this;unfold Blk at hb;rw[hb]at a;injection a with a;injection a with _ f;exact b f
theorem Own.fits{α:Type}[Rp α]{w w':World}{base:Nat}{F:Nat->Prop}{e:TypeId}{v:Value}{xs:List α}(h:Own w base F e v xs){c:Nat}(b:c<=base)(hb:c<=w.heap.size)(k:Kept w w' v):Below c w w':=k.below hb λg a=>by have:=(h.lt g a).1;omega
theorem Own.made{α:Type}[Rp α]{w w':World}{F:Nat->Prop}{e:TypeId}{cells:List Value}{xs:List α}{n:Nat}(h:New w w' e cells)(hc:Chunks w' F cells xs)(hn:n=xs.length)(a:¬F w.heap.size)(hm:n<=9223372036854775807):Own w' w.heap.size F e (.slice (some ⟨w.heap.size,0,none⟩) n n) xs:=by
  subst hn;refine⟨cells,⟨hc.length,.inr ⟨w.heap.size,xs.length,cells.toArray,rfl,W3 _,h.blk,W3 _,by simpa[maxLen]using hm,by simp[hc.length],?_⟩⟩,hc,λg b=>?_⟩
  . rw[<- hc.length];simp
  . have:w.heap.size=g:=(by simpa[Value.ownBlock]using b);subst this;exact a
theorem Vb.made{α:Type}[Rp α]{w w':World}{F:Nat->Prop}{e:TypeId}{cells:List Value}{xs:List α}{n:Nat}(h:New w w' e cells)(hc:Chunks w' F cells xs)(hn:n=xs.length)(a:F w.heap.size)(hm:n<=9223372036854775807):Vb w' F (.slice (some ⟨w.heap.size,0,none⟩) n n) xs:=by
  subst hn;exact .of_slice ⟨_,_,cells,rfl,W3 _,hm,hc,λ_=>⟨_,_,rfl,a,h.blk.cellsAt⟩⟩
section
variable {P:Program}{n:Nat}{ops:Array Oper}{Q:YX}{rest:List Oper}{l:Env}{w:World}{d d1 d2:Tmp}{ty ty2:TypeId}{pos pos2:String}{aft aft2:Array Edge}
theorem Lm{α:Type}[Rp α]{t e:TypeId}[TSlice P t e]{z:Value}{size bytes:Nat}[TInfo P e z size bytes](a:size=Rp.size α){x y:Operand}{v u:Value}{xs ys:List α}{base:Nat}{F:Nat->Prop}
    (q:opv l x=some v) (r:opv l y=some u) (g:Own w base F e v xs) (s:∀k,F k->k<w.heap.size) (f:base<=w.heap.size) (hu:Vb w F u ys)
     (hb:(xs.length+ys.length)*bytes<=140737488355328) (m:xs.length+ys.length<=9223372036854775807) (hd:Nat.blt d n=true)
    (h:∀j w',Own w' base F e j (xs++ys)->Kept w w' v->owp P n ops Q rest ((d,j)::l) w') (hz0:0<size:=by decide) :
    owp P n ops Q (⟨some d,.call { callee:=.builtin .append,args:=#[x,y],argTypes:=#[t,t] },ty,pos,aft,none⟩::rest) l w:=by
  subst a;obtain⟨A,c,cells,rfl,h1,h2,h3,h4⟩:=hu.slice;exact Ma q r g s f h3 (λB=>by obtain⟨b,o,h5,_,h6⟩:=h4 B;exact⟨b,o,h5,h6⟩) hz0 hb m hd λj w' C i _ =>
    h j w' C ⟨i.os,i.tape,i.output,i.size,λk hk p=>i.block k hk (λhe=>p he.symm)⟩
theorem Iw{α:Type}[Rp α]{t e:TypeId}[TSlice P t e]{z:Value}{size bytes:Nat}[TInfo P e z size bytes](g:size=Rp.size α){x y:Operand}{v u:Value}{xs:List α}{a:α}{base:Nat}{F:Nat->Prop}
    (s:opv ((d1,.slice (some ⟨w.heap.size,0,none⟩) 1 1)::l) x=some v) (B:opv l y=some u) (j:Own w base F e v xs) (p:∀k,F k->k<w.heap.size) (i:base<=w.heap.size) (hu:Vb w F u a)
      (hb:(xs.length+1)*bytes<=140737488355328) (q:xs.length+1<=9223372036854775807) (hd:Nat.blt d1 n=true/\Nat.blt d2 n=true)
    (h:∀o w',Own w' base F e o (xs++[a])->Kept w w' v->owp P n ops Q rest ((d2,o)::(d1,.slice (some ⟨w.heap.size,0,none⟩) 1 1)::l) w') (hz0:0<size:=by decide) (hz1:size<=1000:=by decide) :
    owp P n ops Q (⟨some d1,.buildSlice t 1 #[(0,y)],ty,pos,aft,none⟩::⟨some d2,.call { callee:=.builtin .append,args:=#[x,.tmp d1],argTypes:=#[t,t] },ty2,pos2,aft2,none⟩::rest) l w:=by
  subst g;have hc:=hu.cells;refine HS (ps:=[(0,y)]) (vs:=[u]) rfl (by simp[Y3,B]) rfl (λv hv=>by simp at hv;subst hv;exact Rp.len hc) (hz:=(by omega)) hd.1 λC b=>?_;have d:([u].flatMap λv=>v.cells.toList)=u.cells.toList:=(by simp);rw[d]at b;have f:Agree F w C:=b.ext.agree p;refine Ma (A:=some ⟨w.heap.size,0,none⟩) (c:=1) (ys:=[a]) (cells:=u.cells.toList) s (by simp[opv,lk]) (j.ext b.ext p) (λk hk=>K5 (p k hk) b.ext.size) (V6 i b.ext.size) (.single (Rp.agree hc f)) (λ_=>⟨_,_,rfl,b.blk.cellsAt⟩) hz0 hb q hd.2 λo w' D m _=>?_;refine h o w' D ⟨m.os.trans b.ext.os,m.tape.trans b.ext.tape,m.output.trans b.ext.output,V6 b.ext.size m.size,λk hk r=>?_⟩;rw[m.block k (K5 hk b.ext.size) (λhe=>r he.symm),b.ext.block k hk]
end
end
section
open Go Go.RowKit
theorem Chunks.set{α:Type}[Rp α]{w:World}{F:Nat→Prop}:∀{xs:List α}{cells:List Value}{i:Nat}{x:α}{cs:List Value},Chunks w F cells xs→i<xs.length→Rp.R w F cs x→Chunks w F (X8 cells (i*Rp.size α) cs) (xs.set i x)
  |[],_,_,_,_,_,hi,_=>by simp at hi
  |y::xs,cells,0,x,cs,⟨c,rest,he,hr,hc⟩,_,hx=>by
    refine⟨cs,rest,?_,hx,hc⟩;have:=FO cs [] c rest (by rw[Rp.len hr,Rp.len hx]);simp only[R3,R5]at this;rw[he,Nat.zero_mul,this]
  |y  :: xs,cells,i+1,x,cs,⟨c,rest,he,hr,hc⟩,hi,hx=>by
    have d:=Chunks.set (i:=i) hc (by simpa using hi) hx;refine⟨c,X8 rest (i*Rp.size α) cs,?_,hr,d⟩;have a:∀(vs r:List Value)(k:Nat),X8 (c++r) (c.length+k) vs=c++X8 r k vs:=by
      intro vs
      induction vs with
      |nil=>intro r k;rfl
      |cons v vs b =>
        intro r k;simp only[X8];rw[List.set_append_right _ _ (by omega),show c.length+k-c.length=k from by omega,show c.length+k+1=c.length+(k+1)from by omega,b]
    rw[he,show(i+1)*Rp.size α=c.length+i*Rp.size α from by rw[Rp.len hr,W4];omega,a]
theorem HI:∀(vs a b:List Value)(o:Nat),o+vs.length<=a.length->X8 (a++b) o vs=X8 a o vs++b
  |[],_,_,_,_=>rfl
  |v::vs,a,b,o,h=>by
    simp only[X8,P3]at *
    rw[List.set_append_left _ _ (by omega),HI vs _ b (o+1) (by simp;omega)]
theorem Own.open{α:Type}[Rp α]{w:World}{base:Nat}{F:Nat->Prop}{e:TypeId}{v:Value}{xs:List α}(h:Own w base F e v xs)(d:0<xs.length) :
    ∃g cap cells b,v=.slice (some ⟨g,0,none⟩) xs.length cap/\base<=g/\¬F g/\Blk w g e (cells++b)/\Chunks w F cells xs/\cells.length=xs.length*Rp.size α/\xs.length<=cap/\cap<=9223372036854775807/\(cells++b).length=cap*Rp.size α:=by
  obtain⟨cells,c,h2,h3⟩:=h;rcases c.2 with⟨rfl,hn⟩|⟨g,cap,cur,rfl,hg,hh,hnc,hcm,hcs,hcur⟩
  . omega
  . have a:cur.toList=cells++cur.toList.drop (xs.length*Rp.size α):=(by rw[<- hcur];exact(F7 _ _).symm);refine⟨g,cap,cells,cur.toList.drop (xs.length*Rp.size α),rfl,hg,h3 g rfl,?_,h2,c.1,hnc,by simpa[maxLen]using hcm,?_⟩
    . unfold Blk;rw[<- a];simpa using hh
    . rw[<- a];simpa using hcs
theorem Own.close{α:Type}[Rp α]{w:World}{base:Nat}{F:Nat->Prop}{e:TypeId}{xs:List α}{g cap:Nat}{cells a:List Value}(c:base<=g)(d:¬F g)(hb:Blk w g e (cells++a))(hc:Chunks w F cells xs)(hn:xs.length<=cap)(hm:cap<=9223372036854775807)(hl:(cells++a).length=cap*Rp.size α) :
    Own w base F e (.slice (some ⟨g,0,none⟩) xs.length cap) xs:=by
  refine⟨cells,⟨hc.length,.inr ⟨g,cap,(cells++a).toArray,rfl,c,hb,hn,by simpa[maxLen]using hm,by simpa using hl,?_⟩⟩,hc,λf b=>?_⟩
  . rw[<- hc.length];simp
  . have:g=f:=(by simpa[Value.ownBlock]using b);subst this;exact d
section
variable {P:Program}{n:Nat}{ops:Array Oper}{Q:YX}{rest:List Oper}{l:Env}{w:World}{ty:TypeId}{pos:String}{aft:Array Edge}
theorem NX{α:Type}[Rp α]{t e:TypeId}{z:Value}{size bytes:Nat}[TInfo P t z size bytes](j:size=Rp.size α){x y:Operand}{g i m c:Nat}{u:Value}{a:α}{xs:List α}{base:Nat}{F:Nat->Prop}
    (B:opv l x=some (.pointer (some ⟨g,0+i*size,none⟩))) (C:opv l y=some u) (o:Own w base F e (.slice (some ⟨g,0,none⟩) m c) xs) (hi:i<xs.length) (hu:Vb w F u a)
    (h:∀w',Own w' base F e (.slice (some ⟨g,0,none⟩) m c) (xs.set i a)->Kept w w' (.slice (some ⟨g,0,none⟩) m c)->w'.heap.size=w.heap.size->owp P n ops Q rest l w'):owp P n ops Q (⟨none,.store t x y,ty,pos,aft,none⟩::rest) l w:=by
  subst j;obtain⟨E,cap,cells,sp,hv,hg,hF,hb,hc,hl,p,q,hlen⟩:=o.open (by omega);injection hv with b r s;injection b with b;injection b with b;subst b;subst r;subst s;have d:=hu.cells;have D:i*Rp.size α+Rp.size α<=cells.length:=by
    rw[hl];have:(i+1)*Rp.size α<=xs.length*Rp.size α:=G9 _ hi;rw[W4]at this;omega
  refine Do B C hb (Rp.len d) (by rw[K4];omega) (Rp.one d) λw' f=>?_;rw[V0,HI _ _ _ _ (by rw[Rp.len d];omega)]at f;have v:Agree F w w':=f.agree hF;refine h w' ?_ ⟨f.os,f.tape,f.output,V4 f.size.symm,λk _ A=>f.other k λhe=>A (by simp[Value.ownBlock,he])⟩ f.size;have:=Own.close (w:=w') (cap:=c) hg hF f.blk ((hc.set hi d).agree v) (by simpa using p) q (by rw[K4,Hg,<- K4];exact hlen);rwa[R6]at this
theorem Lb{t e:TypeId}[h:TSlice P t e](A:Option Addr)(m c:Nat)(w:World):(Op.equal t (.slice A m c) (.slice none 0 0)).run P w=.ok A.isNone w:=by
  have hd:∀d:Nat,(Op.equalIn (d+1) t (.slice A m c) (.slice none 0 0)).run P w=.ok A.isNone w:=λd=>by
    cases A<;>simp[Op.equalIn,run_underlying h.eq]
  exact hd 9999
theorem Vl{dst:Option Tmp}{t e u:TypeId}[TSlice P t e]{x:Operand}{A:Option Addr}{m c:Nat}(f:opv l x=some (.slice A m c)):Ev P ⟨dst,.binOp .eql t x (.const (.slice none 0 0)) u,ty,pos,aft,none⟩ l w (.bool A.isNone):=λ_ a d b=>by
  have g:=b.eval (x:=.const (.slice none 0 0)) (v:=.slice none 0 0) rfl;simp[execOp,b.eval f,g,eqGuard,binOp,Lb (P:=P) (t:=t)]
theorem Ui{dst:Option Tmp}{t e u:TypeId}[TSlice P t e]{x:Operand}{A:Option Addr}{m c:Nat}(f:opv l x=some (.slice A m c)):Ev P ⟨dst,.binOp .neq t x (.const (.slice none 0 0)) u,ty,pos,aft,none⟩ l w (.bool (!A.isNone)):=λ_ a d b=>by
  have g:=b.eval (x:=.const (.slice none 0 0)) (v:=.slice none 0 0) rfl;simp[execOp,b.eval f,g,eqGuard,binOp,Lb (P:=P) (t:=t)]
end
end
section
open Go Go.RowKit
section
variable {P:Program}{l:Env}{w:World}{dst:Option Tmp}{ty:TypeId}{pos:String}{aft:Array Edge}
theorem TF{s t:TypeId}{k:IntKind}[a:TInt P t k]{x:Operand}{v:Value}(b:opv l x=some (.iface t v)):Ev P ⟨dst,.typeAssert x s t true,ty,pos,aft,none⟩ l w (.tuple #[v,.bool true]):=λ_ _ d c=>by
  simp[execOp,c.eval b,Instr.typeAssert,run_underlying a.eq]
theorem Mb{t e:TypeId}[h:TSlice P t e]{z:Value}{size bytes:Nat}[TInfo P e z size bytes]{x y:Operand}{k:IntKind}{A:Option Addr}{m c lo:Nat}{q:Int}(f:opv l x=some (.slice A m c))(g:opv l y=some (.int k q))(i:q=(lo:Int))(a:lo<=m) :
    Ev P ⟨dst,.slice t x (some y) none none,ty,pos,aft,none⟩ l w (.slice (if c=lo then A else A.map (·.add (lo*size))) (m-lo) (c-lo)):=λ_ _ d b=>by
  subst i;simp[execOp,b.eval f,b.eval g,Instr.sliceAt,Instr.slice,run_underlying h.eq,Instr.sliceBounds,Instr.sliceBound,asIntOf,a,DO (P:=P) (t:=e)]
theorem Pd{t e:TypeId}[h:TSlice P t e]{z:Value}{size bytes:Nat}[TInfo P e z size bytes]{x y:Operand}{k:IntKind}{A:Option Addr}{m c hi:Nat}{q:Int}(f:opv l x=some (.slice A m c))(g:opv l y=some (.int k q))(i:q=(hi:Int))(a:hi<=c) :
    Ev P ⟨dst,.slice t x none (some y) none,ty,pos,aft,none⟩ l w (.slice (if c=0 then A else A.map (·.add (0*size))) hi c):=λ_ _ d b=>by
  subst i;simp[execOp,b.eval f,b.eval g,Instr.sliceAt,Instr.slice,run_underlying h.eq,Instr.sliceBounds,Instr.sliceBound,asIntOf,a,DO (P:=P) (t:=e)]
end
end
section
open Go Go.RowKit
section
variable {w:World}{b o:Nat}{v0 v1 v2 v3 v4 v5 v6 v7 v8 v9:Value}{r:List Value}
theorem cat0(h:cellsAt w b o (v0::r)):w.cell? ⟨b,o,none⟩=some v0:=h.1
theorem cat1(h:cellsAt w b o (v0::v1::r)):w.cell? ⟨b,o+1,none⟩=some v1:=h.2.1
theorem cat2(h:cellsAt w b o (v0::v1::v2::r)):w.cell? ⟨b,o+2,none⟩=some v2:=h.2.2.1
theorem cat3(h:cellsAt w b o (v0::v1::v2::v3::r)):w.cell? ⟨b,o+3,none⟩=some v3:=h.2.2.2.1
theorem cat4(h:cellsAt w b o (v0::v1::v2::v3::v4::r)):w.cell? ⟨b,o+4,none⟩=some v4:=h.2.2.2.2.1
theorem cat5(h:cellsAt w b o (v0::v1::v2::v3::v4::v5::r)):w.cell? ⟨b,o+5,none⟩=some v5:=h.2.2.2.2.2.1
theorem cat6(h:cellsAt w b o (v0::v1::v2::v3::v4::v5::v6::r)):w.cell? ⟨b,o+6,none⟩=some v6:=h.2.2.2.2.2.2.1
theorem cat7(h:cellsAt w b o (v0::v1::v2::v3::v4::v5::v6::v7::r)):w.cell? ⟨b,o+7,none⟩=some v7:=h.2.2.2.2.2.2.2.1
theorem cat8(h:cellsAt w b o (v0::v1::v2::v3::v4::v5::v6::v7::v8::r)):w.cell? ⟨b,o+8,none⟩=some v8:=h.2.2.2.2.2.2.2.2.1
theorem cat9(h:cellsAt w b o (v0::v1::v2::v3::v4::v5::v6::v7::v8::v9::r)):w.cell? ⟨b,o+9,none⟩=some v9:=h.2.2.2.2.2.2.2.2.2.1
end
section
variable {P:Program}{n:Nat}{ops:Array Oper}{Q:YX}{rest:List Oper}{l:Env}{w:World}{d:Tmp}{ty:TypeId}{pos:String}{aft:Array Edge}
theorem Aw{x:Operand}{v:Value}(a:opv l x=some v)  (h:owp P n ops Q rest ((d,v)::l) w)  (hd:Nat.blt d n=true:=by exact rfl):owp P n ops Q (⟨some d,.move x,ty,pos,aft,none⟩::rest) l w:=AX (Dh a) hd h
theorem Ay{x:Operand}{v:Value}(a:opv l x=some v)  (h:owp P n ops Q rest ((d,v)::l) w)  (hd:Nat.blt d n=true:=by exact rfl):owp P n ops Q (⟨some d,.assign x,ty,pos,aft,none⟩::rest) l w:=AX (Di a) hd h
theorem DU{c x y:Operand}{v:Value}(hc:opv l c=some (.bool true))(a:opv l x=some v)  (h:owp P n ops Q rest ((d,v)::l) w)  (hd:Nat.blt d n=true:=by exact rfl):owp P n ops Q (⟨some d,.pick c x y,ty,pos,aft,none⟩::rest) l w:=AX (Oi hc a) hd h
theorem EP{c x y:Operand}{v:Value}(hc:opv l c=some (.bool false))(a:opv l y=some v)  (h:owp P n ops Q rest ((d,v)::l) w)  (hd:Nat.blt d n=true:=by exact rfl):owp P n ops Q (⟨some d,.pick c x y,ty,pos,aft,none⟩::rest) l w:=AX (Oj hc a) hd h
theorem AN{t:TypeId}{f off:Nat}[TField P t f off]{x:Operand}{b o:Nat}(a:opv l x=some (.pointer (some ⟨b,o,none⟩)))  (h:owp P n ops Q rest ((d,.pointer (some ⟨b,o+off,none⟩))::l) w)  (hd:Nat.blt d n=true:=by exact rfl):owp P n ops Q (⟨some d,.fieldAddr t x f,ty,pos,aft,none⟩::rest) l w:=AX (De a) hd h
theorem EQ{x:Operand}{a:Addr}(b:opv l x=some (.pointer (some a)))  (h:owp P n ops Q rest ((d,.pointer (some a))::l) w)  (hd:Nat.blt d n=true:=by exact rfl):owp P n ops Q (⟨some d,.nilCheck x,ty,pos,aft,none⟩::rest) l w:=AX (LZ b) hd h
theorem ER{x:Operand}{i:Nat}{vs:Array Value}{v:Value}(a:opv l x=some (.tuple vs))(hv:vs[i]?=some v)  (h:owp P n ops Q rest ((d,v)::l) w)  (hd:Nat.blt d n=true:=by exact rfl):owp P n ops Q (⟨some d,.extract x i,ty,pos,aft,none⟩::rest) l w:=AX (OX a hv) hd h
theorem Fq{t:TypeId}{x:Operand}(a:opv l x=some (.bool true))  (h:owp P n ops Q rest ((d,.bool false)::l) w)  (hd:Nat.blt d n=true:=by exact rfl):owp P n ops Q (⟨some d,.unOp .not t x,ty,pos,aft,none⟩::rest) l w:=AX (PP a) hd h
theorem Fe{t:TypeId}{x:Operand}(a:opv l x=some (.bool false))  (h:owp P n ops Q rest ((d,.bool true)::l) w)  (hd:Nat.blt d n=true:=by exact rfl):owp P n ops Q (⟨some d,.unOp .not t x,ty,pos,aft,none⟩::rest) l w:=AX (PQ a) hd h
theorem DY{t:TypeId}{x:Operand}{b:Bool}(a:opv l x=some (.bool b))  (h:owp P n ops Q rest ((d,.bool (!b))::l) w)  (hd:Nat.blt d n=true:=by exact rfl):owp P n ops Q (⟨some d,.unOp .not t x,ty,pos,aft,none⟩::rest) l w:=AX (OW a) hd h
theorem AT{t e:TypeId}[TSlice P t e]{x:Operand}{A:Option Addr}{m c:Nat}(a:opv l x=some (.slice A m c))  (h:owp P n ops Q rest ((d,.int .i64 (m:Int))::l) w)  (hd:Nat.blt d n=true:=by exact rfl):owp P n ops Q (⟨some d,.call { callee:=.builtin .len,args:=#[x],argTypes:=#[t] },ty,pos,aft,none⟩::rest) l w:=AX (JR a) hd h
theorem Rn{t:TypeId}[TStr P t]{x:Operand}{s:ByteArray}(a:opv l x=some (.string s))(hd:Nat.blt d n=true)(h:owp P n ops Q rest ((d,.int .i64 (s.size:Int))::l) w)  : owp P n ops Q (⟨some d,.call { callee:=.builtin .len,args:=#[x],argTypes:=#[t] },ty,pos,aft,none⟩::rest) l w:=AX (Uc a) hd h
theorem Pe{c e:TypeId}{x y:Operand}{k:IntKind}{a b:Int}(f:opv l x=some (.int k a))(g:opv l y=some (.int k b))(hd:Nat.blt d n=true)(h:owp P n ops Q rest ((d,.int k (min a b))::l) w)  : owp P n ops Q (⟨some d,.call { callee:=.builtin .min,args:=#[x,y],argTypes:=#[c,e] },ty,pos,aft,none⟩::rest) l w:=AX (Ud f g) hd h
theorem Np{c e:TypeId}{x y:Operand}{k:IntKind}{a b:Int}(f:opv l x=some (.int k a))(g:opv l y=some (.int k b))(hd:Nat.blt d n=true)(h:owp P n ops Q rest ((d,.int k (max a b))::l) w)  : owp P n ops Q (⟨some d,.call { callee:=.builtin .max,args:=#[x,y],argTypes:=#[c,e] },ty,pos,aft,none⟩::rest) l w:=AX (Xm f g) hd h
theorem Ot{t:TypeId}{k:IntKind}[TInt P t k]{x:Operand}{v:Value}(a:opv l x=some v)  (h:owp P n ops Q rest ((d,.iface t v)::l) w)  (hd:Nat.blt d n=true:=by exact rfl):owp P n ops Q (⟨some d,.makeInterface t x,ty,pos,aft,none⟩::rest) l w:=AX (OY a) hd h
theorem Ro{a:Go.Fn}{xs ys:List Operand}{vs b:List Value}(c:Y3 l xs=some vs)(e:Y3 l ys=some b)(hd:Nat.blt d n=true)(h:owp P n ops Q rest ((d,.func a vs.toArray b.toArray)::l) w)  : owp P n ops Q (⟨some d,.makeFunc a xs.toArray ys.toArray,ty,pos,aft,none⟩::rest) l w:=AX (Qs c e) hd h
theorem ES{t:TypeId}{z:Value}{size bytes:Nat}[TInfo P t z size bytes]{a:List (Nat×Nat)}[TPlaces P t a]{ps:List (Nat×Operand)}{vs:List Value}{k:List (Nat×Value)}(b:Y3 l (ps.map (·.2))=some vs)(hk:Zd a z.cells.size (Aab (ps.map (·.1)) vs)=some k)  (h:owp P n ops Q rest ((d,.agg (ZD z.cells.toList k).toArray)::l) w)  (hd:Nat.blt d n=true:=by exact rfl):owp P n ops Q (⟨some d,.build t ps.toArray,ty,pos,aft,none⟩::rest) l w:=AX (Ju b hk) hd h
theorem MP{t e u:TypeId}[TPtr P t e]{x:Operand}{p:Option Addr}(a:opv l x=some (.pointer p))  (h:owp P n ops Q rest ((d,.bool p.isNone)::l) w)  (hd:Nat.blt d n=true:=by exact rfl):owp P n ops Q (⟨some d,.binOp .eql t x (.const (.pointer none)) u,ty,pos,aft,none⟩::rest) l w:=AX (Ue a) hd h
theorem MQ{t e u:TypeId}[TSlice P t e]{x:Operand}{A:Option Addr}{m c:Nat}(a:opv l x=some (.slice A m c))  (h:owp P n ops Q rest ((d,.bool A.isNone)::l) w)  (hd:Nat.blt d n=true:=by exact rfl):owp P n ops Q (⟨some d,.binOp .eql t x (.const (.slice none 0 0)) u,ty,pos,aft,none⟩::rest) l w:=AX (Vl a) hd h
theorem YK{t e u:TypeId}[TSlice P t e]{x:Operand}{A:Option Addr}{m c:Nat}(a:opv l x=some (.slice A m c))(hd:Nat.blt d n=true)(h:owp P n ops Q rest ((d,.bool (!A.isNone))::l) w)  : owp P n ops Q (⟨some d,.binOp .neq t x (.const (.slice none 0 0)) u,ty,pos,aft,none⟩::rest) l w:=AX (Ui a) hd h
theorem Xo{t u:TypeId}[TIface P t]{x:Operand}(a:opv l x=some .nilIface)(hd:Nat.blt d n=true)(h:owp P n ops Q rest ((d,.bool true)::l) w)  : owp P n ops Q (⟨some d,.binOp .eql t x (.const .nilIface) u,ty,pos,aft,none⟩::rest) l w:=AX (Qr a) hd h
theorem Xp{t u:TypeId}[TIface P t]{x:Operand}{s:TypeId}{v:Value}(a:opv l x=some (.iface s v))(hd:Nat.blt d n=true)(h:owp P n ops Q rest ((d,.bool false)::l) w)  : owp P n ops Q (⟨some d,.binOp .eql t x (.const .nilIface) u,ty,pos,aft,none⟩::rest) l w:=AX (OZ a) hd h
theorem Xq{t u:TypeId}[TIface P t]{x:Operand}(a:opv l x=some .nilIface)(hd:Nat.blt d n=true)(h:owp P n ops Q rest ((d,.bool false)::l) w)  : owp P n ops Q (⟨some d,.binOp .neq t x (.const .nilIface) u,ty,pos,aft,none⟩::rest) l w:=AX (Pa a) hd h
theorem Xr{t u:TypeId}[TIface P t]{x:Operand}{s:TypeId}{v:Value}(a:opv l x=some (.iface s v))(hd:Nat.blt d n=true)(h:owp P n ops Q rest ((d,.bool true)::l) w)  : owp P n ops Q (⟨some d,.binOp .neq t x (.const .nilIface) u,ty,pos,aft,none⟩::rest) l w:=AX (NW a) hd h
theorem YL{s t:TypeId}{k:IntKind}[TInt P t k]{x:Operand}{v:Value}(a:opv l x=some (.iface t v))(hd:Nat.blt d n=true)(h:owp P n ops Q rest ((d,.tuple #[v,.bool true])::l) w)  : owp P n ops Q (⟨some d,.typeAssert x s t true,ty,pos,aft,none⟩::rest) l w:=AX (TF a) hd h
theorem YM{t e:TypeId}[TSlice P t e]{z:Value}{size bytes:Nat}[TInfo P e z size bytes]{x y:Operand}{k:IntKind}{A:Option Addr}{m c lo:Nat}{q:Int}(b:opv l x=some (.slice A m c))(f:opv l y=some (.int k q))(hd:Nat.blt d n=true)(h:owp P n ops Q rest ((d,.slice (if c=lo then A else A.map (·.add (lo*size))) (m-lo) (c-lo))::l) w)(g:q=(lo:Int):=by first|rfl|assumption|omega)(a:lo<=m:=by omega):owp P n ops Q (⟨some d,.slice t x (some y) none none,ty,pos,aft,none⟩::rest) l w:=AX (Mb b f g a) hd h
theorem Iq{t u:TypeId}{x y:Operand}{a b:Int}(c:opv l x=some (.int .i64 a))(e:opv l y=some (.int .i64 b))  (h:owp P n ops Q rest ((d,.int .i64 (a+b))::l) w) (hr:-9223372036854775808<=a+b/\a+b<=9223372036854775807:=by omega) (hd:Nat.blt d n=true:=by exact rfl):owp P n ops Q (⟨some d,.binOp .add t x y u,ty,pos,aft,none⟩::rest) l w:=AX (LF c e hr) hd h
theorem YN{t u:TypeId}{x y:Operand}{a b:Int}(c:opv l x=some (.int .i64 a))(e:opv l y=some (.int .i64 b))(hd:Nat.blt d n=true)(h:owp P n ops Q rest ((d,.int .i64 (a-b))::l) w)(hr:-9223372036854775808<=a-b/\a-b<=9223372036854775807:=by omega):owp P n ops Q (⟨some d,.binOp .sub t x y u,ty,pos,aft,none⟩::rest) l w:=AX (KB c e hr) hd h
theorem YO{t u:TypeId}{x y:Operand}{a b:Int}(c:opv l x=some (.int .i64 a))(e:opv l y=some (.int .i64 b))(hd:Nat.blt d n=true)(h:owp P n ops Q rest ((d,.int .i64 (a*b))::l) w)(hr:-9223372036854775808<=a*b/\a*b<=9223372036854775807:=by omega):owp P n ops Q (⟨some d,.binOp .mul t x y u,ty,pos,aft,none⟩::rest) l w:=AX (Ua c e hr) hd h
theorem Hh{t u:TypeId}{x:Operand}{a:Nat}(b:opv l x=some (.int .i64 (a:Int)))  (h:owp P n ops Q rest ((d,.int .i64 ((a+1:Nat):Int))::l) w) (hr:a<9223372036854775807:=by omega) (hd:Nat.blt d n=true:=by exact rfl):owp P n ops Q (⟨some d,.binOp .add t x (.const (.int .i64 1)) u,ty,pos,aft,none⟩::rest) l w:=AX (Ub b hr) hd h
theorem Ff{t e:TypeId}[TSlice P t e]{z:Value}{size bytes:Nat}[TInfo P e z size bytes]{x i:Operand}{k:IntKind}{b o m c j:Nat}{q:Int}(a:opv l x=some (.slice (some ⟨b,o,none⟩) m c))(f:opv l i=some (.int k q))  (h:owp P n ops Q rest ((d,.pointer (some ⟨b,o+j*size,none⟩))::l) w) (hj:q=(j:Int):=by first|rfl|assumption) (hlt:j<m:=by omega) (hd:Nat.blt d n=true:=by exact rfl):owp P n ops Q (⟨some d,.indexAddr t x i,ty,pos,aft,none⟩::rest) l w:=AX (Jb a f hj hlt) hd h
theorem TG{t:TypeId}[TStr P t]{x i:Operand}{k:IntKind}{s:ByteArray}{j:Nat}(a:opv l x=some (.string s))(b:opv l i=some (.int k (j:Int)))(hd:Nat.blt d n=true)(hlt:j<s.size:=by omega)(h:owp P n ops Q rest ((d,.int .u8 ((s[j]'hlt).toNat:Int))::l) w):owp P n ops Q (⟨some d,.index t x i,ty,pos,aft,none⟩::rest) l w:=AX (Vk a b hlt) hd h
theorem AF{t:TypeId}[TOne P t]{x:Operand}{a:Addr}{v:Value}(b:opv l x=some (.pointer (some a)))  (h:owp P n ops Q rest ((d,v)::l) w) (hc:w.cell? a=some v:=by first|assumption|exact Blk.cell (by assumption) rfl|exact cat0 (by assumption)|exact cat1 (by assumption)|exact cat2 (by assumption)|exact cat3 (by assumption)|exact cat4 (by assumption)|exact cat5 (by assumption)|exact cat6 (by assumption)|exact cat7 (by assumption)|exact cat8 (by assumption)|exact cat9 (by assumption)) (hd:Nat.blt d n=true:=by exact rfl):owp P n ops Q (⟨some d,.load t x,ty,pos,aft,none⟩::rest) l w:=AX (Cv b hc) hd h
theorem Bv{t:TypeId}[TAgg P t]{z:Value}{size bytes:Nat}[TInfo P t z size bytes]{x:Operand}{b o:Nat}{cs:List Value}(a:opv l x=some (.pointer (some ⟨b,o,none⟩)))  (h:owp P n ops Q rest ((d,.agg cs.toArray)::l) w) (hc:cellsAt w b o cs:=by first|assumption|exact Blk.cellsAt (by assumption)) (hl:cs.length=size:=by rfl) (hd:Nat.blt d n=true:=by exact rfl):owp P n ops Q (⟨some d,.load t x,ty,pos,aft,none⟩::rest) l w:=AX (EL a hl hc) hd h
theorem Fu{t u:TypeId}{x y:Operand}{k:IntKind}{a b:Int}(c:opv l x=some (.int k a))(e:opv l y=some (.int k b))  (h:owp P n ops Q rest ((d,.bool true)::l) w) (f:a<b:=by omega) (hd:Nat.blt d n=true:=by exact rfl):owp P n ops Q (⟨some d,.binOp .lss t x y u,ty,pos,aft,none⟩::rest) l w:=KE (CO c e) hd f h
theorem Fv{t u:TypeId}{x y:Operand}{k:IntKind}{a b:Int}(c:opv l x=some (.int k a))(e:opv l y=some (.int k b))  (h:owp P n ops Q rest ((d,.bool false)::l) w) (f:¬(a<b):=by omega) (hd:Nat.blt d n=true:=by exact rfl):owp P n ops Q (⟨some d,.binOp .lss t x y u,ty,pos,aft,none⟩::rest) l w:=KF (CO c e) hd f h
theorem CL{t u:TypeId}{x y:Operand}{k:IntKind}{a b:Int}(c:opv l x=some (.int k a))(e:opv l y=some (.int k b))  (f:a<b->owp P n ops Q rest ((d,.bool true)::l) w) (hf:¬(a<b)->owp P n ops Q rest ((d,.bool false)::l) w) (hd:Nat.blt d n=true:=by exact rfl):owp P n ops Q (⟨some d,.binOp .lss t x y u,ty,pos,aft,none⟩::rest) l w:=Hn (CO c e) hd f hf
theorem QY{t u:TypeId}{x y:Operand}{k:IntKind}{a b:Int}(c:opv l x=some (.int k a))(e:opv l y=some (.int k b))(hd:Nat.blt d n=true)(h:owp P n ops Q rest ((d,.bool true)::l) w)(f:a<=b:=by omega):owp P n ops Q (⟨some d,.binOp .leq t x y u,ty,pos,aft,none⟩::rest) l w:=KE (LE c e) hd f h
theorem QZ{t u:TypeId}{x y:Operand}{k:IntKind}{a b:Int}(c:opv l x=some (.int k a))(e:opv l y=some (.int k b))(hd:Nat.blt d n=true)(h:owp P n ops Q rest ((d,.bool false)::l) w)(f:¬(a<=b):=by omega):owp P n ops Q (⟨some d,.binOp .leq t x y u,ty,pos,aft,none⟩::rest) l w:=KF (LE c e) hd f h
theorem Pf{t u:TypeId}{x y:Operand}{k:IntKind}{a b:Int}(c:opv l x=some (.int k a))(e:opv l y=some (.int k b))(hd:Nat.blt d n=true)(f:a<=b->owp P n ops Q rest ((d,.bool true)::l) w)(hf:¬(a<=b)->owp P n ops Q rest ((d,.bool false)::l) w):owp P n ops Q (⟨some d,.binOp .leq t x y u,ty,pos,aft,none⟩::rest) l w:=Hn (LE c e) hd f hf
theorem Gm{t u:TypeId}{x y:Operand}{k:IntKind}{a b:Int}(c:opv l x=some (.int k a))(e:opv l y=some (.int k b))  (h:owp P n ops Q rest ((d,.bool true)::l) w) (f:b<a:=by omega) (hd:Nat.blt d n=true:=by exact rfl):owp P n ops Q (⟨some d,.binOp .gtr t x y u,ty,pos,aft,none⟩::rest) l w:=KE (Fy c e) hd f h
theorem Gn{t u:TypeId}{x y:Operand}{k:IntKind}{a b:Int}(c:opv l x=some (.int k a))(e:opv l y=some (.int k b))  (h:owp P n ops Q rest ((d,.bool false)::l) w) (f:¬(b<a):=by omega) (hd:Nat.blt d n=true:=by exact rfl):owp P n ops Q (⟨some d,.binOp .gtr t x y u,ty,pos,aft,none⟩::rest) l w:=KF (Fy c e) hd f h
theorem Dc{t u:TypeId}{x y:Operand}{k:IntKind}{a b:Int}(c:opv l x=some (.int k a))(e:opv l y=some (.int k b))  (f:b<a->owp P n ops Q rest ((d,.bool true)::l) w) (hf:¬(b<a)->owp P n ops Q rest ((d,.bool false)::l) w) (hd:Nat.blt d n=true:=by exact rfl):owp P n ops Q (⟨some d,.binOp .gtr t x y u,ty,pos,aft,none⟩::rest) l w:=Hn (Fy c e) hd f hf
theorem Pg{t u:TypeId}{x y:Operand}{k:IntKind}{a b:Int}(c:opv l x=some (.int k a))(e:opv l y=some (.int k b))(hd:Nat.blt d n=true)(h:owp P n ops Q rest ((d,.bool true)::l) w)(f:b<=a:=by omega):owp P n ops Q (⟨some d,.binOp .geq t x y u,ty,pos,aft,none⟩::rest) l w:=KE (Bq c e) hd f h
theorem Ph{t u:TypeId}{x y:Operand}{k:IntKind}{a b:Int}(c:opv l x=some (.int k a))(e:opv l y=some (.int k b))(hd:Nat.blt d n=true)(h:owp P n ops Q rest ((d,.bool false)::l) w)(f:¬(b<=a):=by omega):owp P n ops Q (⟨some d,.binOp .geq t x y u,ty,pos,aft,none⟩::rest) l w:=KF (Bq c e) hd f h
theorem EM{t u:TypeId}{x y:Operand}{k:IntKind}{a b:Int}(c:opv l x=some (.int k a))(e:opv l y=some (.int k b))  (f:b<=a->owp P n ops Q rest ((d,.bool true)::l) w) (hf:¬(b<=a)->owp P n ops Q rest ((d,.bool false)::l) w) (hd:Nat.blt d n=true:=by exact rfl):owp P n ops Q (⟨some d,.binOp .geq t x y u,ty,pos,aft,none⟩::rest) l w:=Hn (Bq c e) hd f hf
theorem TH{t u:TypeId}{x y:Operand}{k:IntKind}{a b:Int}(c:opv l x=some (.int k a))(e:opv l y=some (.int k b))(hd:Nat.blt d n=true)(h:owp P n ops Q rest ((d,.bool true)::l) w)(f:a=b:=by omega):owp P n ops Q (⟨some d,.binOp .eql t x y u,ty,pos,aft,none⟩::rest) l w:=KE (JQ c e) hd f h
theorem TI{t u:TypeId}{x y:Operand}{k:IntKind}{a b:Int}(c:opv l x=some (.int k a))(e:opv l y=some (.int k b))(hd:Nat.blt d n=true)(h:owp P n ops Q rest ((d,.bool false)::l) w)(f:¬(a=b):=by omega):owp P n ops Q (⟨some d,.binOp .eql t x y u,ty,pos,aft,none⟩::rest) l w:=KF (JQ c e) hd f h
theorem EA{t u:TypeId}{x y:Operand}{k:IntKind}{a b:Int}(c:opv l x=some (.int k a))(e:opv l y=some (.int k b))  (f:a=b->owp P n ops Q rest ((d,.bool true)::l) w) (hf:¬(a=b)->owp P n ops Q rest ((d,.bool false)::l) w) (hd:Nat.blt d n=true:=by exact rfl):owp P n ops Q (⟨some d,.binOp .eql t x y u,ty,pos,aft,none⟩::rest) l w:=Hn (JQ c e) hd f hf
theorem Ra{t u:TypeId}{x y:Operand}{k:IntKind}{a b:Int}(c:opv l x=some (.int k a))(e:opv l y=some (.int k b))(hd:Nat.blt d n=true)(h:owp P n ops Q rest ((d,.bool true)::l) w)(f:a≠b:=by omega):owp P n ops Q (⟨some d,.binOp .neq t x y u,ty,pos,aft,none⟩::rest) l w:=KE (Ga c e) hd f h
theorem Rb{t u:TypeId}{x y:Operand}{k:IntKind}{a b:Int}(c:opv l x=some (.int k a))(e:opv l y=some (.int k b))(hd:Nat.blt d n=true)(h:owp P n ops Q rest ((d,.bool false)::l) w)(f:¬(a≠b):=by omega):owp P n ops Q (⟨some d,.binOp .neq t x y u,ty,pos,aft,none⟩::rest) l w:=KF (Ga c e) hd f h
theorem HM{t u:TypeId}{x y:Operand}{k:IntKind}{a b:Int}(c:opv l x=some (.int k a))(e:opv l y=some (.int k b))  (f:a≠b->owp P n ops Q rest ((d,.bool true)::l) w) (hf:¬(a≠b)->owp P n ops Q rest ((d,.bool false)::l) w) (hd:Nat.blt d n=true:=by exact rfl):owp P n ops Q (⟨some d,.binOp .neq t x y u,ty,pos,aft,none⟩::rest) l w:=Hn (Ga c e) hd f hf
variable {S:World → Prop}{r:List (Nat × Bool)}{i:Nat}
theorem AI{x:Operand}{v:Value}(hi:ops[i]?=some ⟨some d,.move x,ty,pos,aft,none⟩)(a:opv l x=some v)  (h:hwp P n ops Q S r ((d,v)::l) w)  (hd:Nat.blt d n=true:=by exact rfl):hwp P n ops Q S ((i,true)::r) l w:=Au hi (Bu (λ_ _=>Dh a) hd h)
theorem Eu{x:Operand}{v:Value}(hi:ops[i]?=some ⟨some d,.assign x,ty,pos,aft,none⟩)(a:opv l x=some v)  (h:hwp P n ops Q S r ((d,v)::l) w)  (hd:Nat.blt d n=true:=by exact rfl):hwp P n ops Q S ((i,true)::r) l w:=Au hi (Bu (λ_ _=>Di a) hd h)
theorem Dr{c x y:Operand}{v:Value}(hi:ops[i]?=some ⟨some d,.pick c x y,ty,pos,aft,none⟩)(hc:opv l c=some (.bool true))(a:opv l x=some v)  (h:hwp P n ops Q S r ((d,v)::l) w)  (hd:Nat.blt d n=true:=by exact rfl):hwp P n ops Q S ((i,true)::r) l w:=Au hi (Bu (λ_ _=>Oi hc a) hd h)
theorem Dy{c x y:Operand}{v:Value}(hi:ops[i]?=some ⟨some d,.pick c x y,ty,pos,aft,none⟩)(hc:opv l c=some (.bool false))(a:opv l y=some v)  (h:hwp P n ops Q S r ((d,v)::l) w)  (hd:Nat.blt d n=true:=by exact rfl):hwp P n ops Q S ((i,true)::r) l w:=Au hi (Bu (λ_ _=>Oj hc a) hd h)
theorem AL{t:TypeId}{f off:Nat}[TField P t f off]{x:Operand}{b o:Nat}(hi:ops[i]?=some ⟨some d,.fieldAddr t x f,ty,pos,aft,none⟩)(a:opv l x=some (.pointer (some ⟨b,o,none⟩)))  (h:hwp P n ops Q S r ((d,.pointer (some ⟨b,o+off,none⟩))::l) w)  (hd:Nat.blt d n=true:=by exact rfl):hwp P n ops Q S ((i,true)::r) l w:=Au hi (Bu (λ_ _=>De a) hd h)
theorem CT{x:Operand}{a:Addr}(hi:ops[i]?=some ⟨some d,.nilCheck x,ty,pos,aft,none⟩)(b:opv l x=some (.pointer (some a)))  (h:hwp P n ops Q S r ((d,.pointer (some a))::l) w)  (hd:Nat.blt d n=true:=by exact rfl):hwp P n ops Q S ((i,true)::r) l w:=Au hi (Bu (λ_ _=>LZ b) hd h)
theorem HJ{x:Operand}{a:Nat}{vs:Array Value}{v:Value}(hi:ops[i]?=some ⟨some d,.extract x a,ty,pos,aft,none⟩)(b:opv l x=some (.tuple vs))(hv:vs[a]?=some v)  (h:hwp P n ops Q S r ((d,v)::l) w)  (hd:Nat.blt d n=true:=by exact rfl):hwp P n ops Q S ((i,true)::r) l w:=Au hi (Bu (λ_ _=>OX b hv) hd h)
theorem Vm{t:TypeId}{x:Operand}(hi:ops[i]?=some ⟨some d,.unOp .not t x,ty,pos,aft,none⟩)(a:opv l x=some (.bool true))(hd:Nat.blt d n=true)(h:hwp P n ops Q S r ((d,.bool false)::l) w)  : hwp P n ops Q S ((i,true)::r) l w:=Au hi (Bu (λ_ _=>PP a) hd h)
theorem Xs{t:TypeId}{x:Operand}(hi:ops[i]?=some ⟨some d,.unOp .not t x,ty,pos,aft,none⟩)(a:opv l x=some (.bool false))(hd:Nat.blt d n=true)(h:hwp P n ops Q S r ((d,.bool true)::l) w)  : hwp P n ops Q S ((i,true)::r) l w:=Au hi (Bu (λ_ _=>PQ a) hd h)
theorem Ou{t e:TypeId}[TSlice P t e]{x:Operand}{A:Option Addr}{m c:Nat}(hi:ops[i]?=some ⟨some d,.call { callee:=.builtin .len,args:=#[x],argTypes:=#[t] },ty,pos,aft,none⟩)(a:opv l x=some (.slice A m c))  (h:hwp P n ops Q S r ((d,.int .i64 (m:Int))::l) w)  (hd:Nat.blt d n=true:=by exact rfl):hwp P n ops Q S ((i,true)::r) l w:=Au hi (Bu (λ_ _=>JR a) hd h)
theorem Yl{c e:TypeId}{x y:Operand}{k:IntKind}{a b:Int}(hi:ops[i]?=some ⟨some d,.call { callee:=.builtin .min,args:=#[x,y],argTypes:=#[c,e] },ty,pos,aft,none⟩)(f:opv l x=some (.int k a))(g:opv l y=some (.int k b))(hd:Nat.blt d n=true)(h:hwp P n ops Q S r ((d,.int k (min a b))::l) w)  : hwp P n ops Q S ((i,true)::r) l w:=Au hi (Bu (λ_ _=>Ud f g) hd h)
theorem Fs{t:TypeId}{z:Value}{size bytes:Nat}[TInfo P t z size bytes]{a:List (Nat×Nat)}[TPlaces P t a]{ps:List (Nat×Operand)}{vs:List Value}{k:List (Nat×Value)}(hi:ops[i]?=some ⟨some d,.build t ps.toArray,ty,pos,aft,none⟩)(b:Y3 l (ps.map (·.2))=some vs)(hk:Zd a z.cells.size (Aab (ps.map (·.1)) vs)=some k)  (h:hwp P n ops Q S r ((d,.agg (ZD z.cells.toList k).toArray)::l) w)  (hd:Nat.blt d n=true:=by exact rfl):hwp P n ops Q S ((i,true)::r) l w:=Au hi (Bu (λ_ _=>Ju b hk) hd h)
theorem Vn{t e:TypeId}[TSlice P t e]{z:Value}{size bytes:Nat}[TInfo P e z size bytes]{x a:Operand}{k:IntKind}{b o m c j:Nat}{q:Int}(hi:ops[i]?=some ⟨some d,.indexAddr t x a,ty,pos,aft,none⟩)(f:opv l x=some (.slice (some ⟨b,o,none⟩) m c))(g:opv l a=some (.int k q))(hd:Nat.blt d n=true)(h:hwp P n ops Q S r ((d,.pointer (some ⟨b,o+j*size,none⟩))::l) w)(hj:q=(j:Int):=by first|rfl|assumption)(hlt:j<m:=by omega):hwp P n ops Q S ((i,true)::r) l w:=Au hi (Bu (λ_ _=>Jb f g hj hlt) hd h)
theorem Dw{a:World}{t:TypeId}[TOne P t]{x:Operand}{b:Addr}{v:Value}(hi:ops[i]?=some ⟨some d,.load t x,ty,pos,aft,none⟩)(c:opv l x=some (.pointer (some b)))  (h:hwp P n ops Q (·=a) r ((d,v)::l) w) (hc:a.cell? b=some v:=by first|assumption|exact Blk.cell (by assumption) rfl|exact cat0 (by assumption)|exact cat1 (by assumption)|exact cat2 (by assumption)|exact cat3 (by assumption)|exact cat4 (by assumption)|exact cat5 (by assumption)|exact cat6 (by assumption)|exact cat7 (by assumption)|exact cat8 (by assumption)|exact cat9 (by assumption)) (hd:Nat.blt d n=true:=by exact rfl):hwp P n ops Q (·=a) ((i,true)::r) l w:=Au hi (Ih (Cv c hc) hd h)
theorem Nq{a:World}{t:TypeId}[TOne P t]{x:Operand}{g k:Nat}{b:TypeId}{cs:List Value}{v:Value}(hi:ops[i]?=some ⟨some d,.load t x,ty,pos,aft,none⟩)(c:opv l x=some (.pointer (some ⟨g,k,none⟩)))(hd:Nat.blt d n=true)(h:hwp P n ops Q (Ext a) r ((d,v)::l) w)(hb:Blk a g b cs:=by assumption)(hc:cs[k]?=some v:=by rfl):hwp P n ops Q (Ext a) ((i,true)::r) l w:=Au hi (Bu (λ_ e=>Cv c ((hb.ext e).cell hc)) hd h)
theorem Pi{t:TypeId}[TOne P t]{x:Operand}{g k:Nat}{a:TypeId}{cs:List Value}{v:Value}(hi:ops[i]?=some ⟨some d,.load t x,ty,pos,aft,none⟩)(b:opv l x=some (.pointer (some ⟨g,k,none⟩)))(hd:Nat.blt d n=true)(h:hwp P n ops Q S r ((d,v)::l) w)(hb:∀w',S w'->Blk w' g a cs:=by assumption)(hc:cs[k]?=some v:=by rfl):hwp P n ops Q S ((i,true)::r) l w:=Au hi (Bu (λ_ c=>Cv b ((hb _ c).cell hc)) hd h)
theorem Bl{t:TypeId}[TOne P t]{x:Operand}{b:Addr}{v:Value}(hi:ops[i]?=some ⟨some d,.load t x,ty,pos,aft,none⟩)(c:opv l x=some (.pointer (some b)))  (h:hwp P n ops Q S r ((d,v)::l) w) (hc:∀w',S w'->w'.cell? b=some v:=by first|assumption|exact λ_ a=>cat0 ((by assumption:∀w',_->cellsAt w' _ _ _) _ a)|exact λ_ a=>cat1 ((by assumption:∀w',_->cellsAt w' _ _ _) _ a)|exact λ_ a=>cat2 ((by assumption:∀w',_->cellsAt w' _ _ _) _ a)|exact λ_ a=>cat3 ((by assumption:∀w',_->cellsAt w' _ _ _) _ a)|exact λ_ a=>cat4 ((by assumption:∀w',_->cellsAt w' _ _ _) _ a)|exact λ_ a=>cat5 ((by assumption:∀w',_->cellsAt w' _ _ _) _ a)|exact λ_ a=>cat6 ((by assumption:∀w',_->cellsAt w' _ _ _) _ a)|exact λ_ a=>cat7 ((by assumption:∀w',_->cellsAt w' _ _ _) _ a)|exact λ_ a=>cat8 ((by assumption:∀w',_->cellsAt w' _ _ _) _ a)|exact λ_ a=>cat9 ((by assumption:∀w',_->cellsAt w' _ _ _) _ a)) (hd:Nat.blt d n=true:=by exact rfl):hwp P n ops Q S ((i,true)::r) l w:=Au hi (Bu (λ_ a=>Cv c (hc _ a)) hd h)
theorem Rc{a:World}{t:TypeId}[TAgg P t]{z:Value}{size bytes:Nat}[TInfo P t z size bytes]{x:Operand}{b o:Nat}{cs:List Value}(hi:ops[i]?=some ⟨some d,.load t x,ty,pos,aft,none⟩)(c:opv l x=some (.pointer (some ⟨b,o,none⟩)))(hd:Nat.blt d n=true)(h:hwp P n ops Q (·=a) r ((d,.agg cs.toArray)::l) w)(hc:cellsAt a b o cs:=by first|assumption|exact Blk.cellsAt (by assumption))(hl:cs.length=size:=by rfl):hwp P n ops Q (·=a) ((i,true)::r) l w:=Au hi (Ih (EL c hl hc) hd h)
theorem Gp{t:TypeId}[TAgg P t]{z:Value}{size bytes:Nat}[TInfo P t z size bytes]{x:Operand}{b o:Nat}{cs:List Value}(hi:ops[i]?=some ⟨some d,.load t x,ty,pos,aft,none⟩)(c:opv l x=some (.pointer (some ⟨b,o,none⟩)))  (h:hwp P n ops Q S r ((d,.agg cs.toArray)::l) w) (hb:∀w',S w'->cellsAt w' b o cs:=by first|assumption|exact λ_ a=>Blk.cellsAt ((by assumption:∀w',_->Blk w' _ _ _) _ a)) (hl:cs.length=size:=by rfl) (hd:Nat.blt d n=true:=by exact rfl):hwp P n ops Q S ((i,true)::r) l w:=Au hi (Bu (λ_ a=>EL c hl (hb _ a)) hd h)
theorem JK{t u:TypeId}{x y:Operand}{k:IntKind}{a b:Int}(hi:ops[i]?=some ⟨some d,.binOp .lss t x y u,ty,pos,aft,none⟩)(c:opv l x=some (.int k a))(e:opv l y=some (.int k b))  (h:hwp P n ops Q S r ((d,.bool true)::l) w) (f:a<b:=by omega) (hd:Nat.blt d n=true:=by exact rfl):hwp P n ops Q S ((i,true)::r) l w:=Au hi (CP (λ_ _=>CO c e) (hn:=hd) f h)
theorem JL{t u:TypeId}{x y:Operand}{k:IntKind}{a b:Int}(hi:ops[i]?=some ⟨some d,.binOp .lss t x y u,ty,pos,aft,none⟩)(c:opv l x=some (.int k a))(e:opv l y=some (.int k b))  (h:hwp P n ops Q S r ((d,.bool false)::l) w) (f:¬(a<b):=by omega) (hd:Nat.blt d n=true:=by exact rfl):hwp P n ops Q S ((i,true)::r) l w:=Au hi (CR (λ_ _=>CO c e) (hn:=hd) f h)
theorem Gq{t u:TypeId}{x y:Operand}{k:IntKind}{a b:Int}(hi:ops[i]?=some ⟨some d,.binOp .lss t x y u,ty,pos,aft,none⟩)(c:opv l x=some (.int k a))(e:opv l y=some (.int k b))  (f:a<b->hwp P n ops Q S r ((d,.bool true)::l) w) (hf:¬(a<b)->hwp P n ops Q S r ((d,.bool false)::l) w) (hd:Nat.blt d n=true:=by exact rfl):hwp P n ops Q S ((i,true)::r) l w:=Au hi (AQ (λ_ _=>CO c e) (hn:=hd) f hf)
theorem Wu{t u:TypeId}{x y:Operand}{k:IntKind}{a b:Int}(hi:ops[i]?=some ⟨some d,.binOp .leq t x y u,ty,pos,aft,none⟩)(c:opv l x=some (.int k a))(e:opv l y=some (.int k b))(hd:Nat.blt d n=true)(h:hwp P n ops Q S r ((d,.bool true)::l) w)(f:a<=b:=by omega):hwp P n ops Q S ((i,true)::r) l w:=Au hi (CP (λ_ _=>LE c e) (hn:=hd) f h)
theorem Wv{t u:TypeId}{x y:Operand}{k:IntKind}{a b:Int}(hi:ops[i]?=some ⟨some d,.binOp .leq t x y u,ty,pos,aft,none⟩)(c:opv l x=some (.int k a))(e:opv l y=some (.int k b))(hd:Nat.blt d n=true)(h:hwp P n ops Q S r ((d,.bool false)::l) w)(f:¬(a<=b):=by omega):hwp P n ops Q S ((i,true)::r) l w:=Au hi (CR (λ_ _=>LE c e) (hn:=hd) f h)
theorem Ww{t u:TypeId}{x y:Operand}{k:IntKind}{a b:Int}(hi:ops[i]?=some ⟨some d,.binOp .leq t x y u,ty,pos,aft,none⟩)(c:opv l x=some (.int k a))(e:opv l y=some (.int k b))(hd:Nat.blt d n=true)(f:a<=b->hwp P n ops Q S r ((d,.bool true)::l) w)(hf:¬(a<=b)->hwp P n ops Q S r ((d,.bool false)::l) w):hwp P n ops Q S ((i,true)::r) l w:=Au hi (AQ (λ_ _=>LE c e) (hn:=hd) f hf)
theorem Ym{t u:TypeId}{x y:Operand}{k:IntKind}{a b:Int}(hi:ops[i]?=some ⟨some d,.binOp .gtr t x y u,ty,pos,aft,none⟩)(c:opv l x=some (.int k a))(e:opv l y=some (.int k b))(hd:Nat.blt d n=true)(f:b<a->hwp P n ops Q S r ((d,.bool true)::l) w)(hf:¬(b<a)->hwp P n ops Q S r ((d,.bool false)::l) w):hwp P n ops Q S ((i,true)::r) l w:=Au hi (AQ (λ_ _=>Fy c e) (hn:=hd) f hf)
theorem Yn{t u:TypeId}{x y:Operand}{k:IntKind}{a b:Int}(hi:ops[i]?=some ⟨some d,.binOp .geq t x y u,ty,pos,aft,none⟩)(c:opv l x=some (.int k a))(e:opv l y=some (.int k b))(hd:Nat.blt d n=true)(f:b<=a->hwp P n ops Q S r ((d,.bool true)::l) w)(hf:¬(b<=a)->hwp P n ops Q S r ((d,.bool false)::l) w):hwp P n ops Q S ((i,true)::r) l w:=Au hi (AQ (λ_ _=>Bq c e) (hn:=hd) f hf)
theorem Yo{t u:TypeId}{x y:Operand}{k:IntKind}{a b:Int}(hi:ops[i]?=some ⟨some d,.binOp .eql t x y u,ty,pos,aft,none⟩)(c:opv l x=some (.int k a))(e:opv l y=some (.int k b))(hd:Nat.blt d n=true)(h:hwp P n ops Q S r ((d,.bool true)::l) w)(f:a=b:=by omega):hwp P n ops Q S ((i,true)::r) l w:=Au hi (CP (λ_ _=>JQ c e) (hn:=hd) f h)
theorem Yp{t u:TypeId}{x y:Operand}{k:IntKind}{a b:Int}(hi:ops[i]?=some ⟨some d,.binOp .eql t x y u,ty,pos,aft,none⟩)(c:opv l x=some (.int k a))(e:opv l y=some (.int k b))(hd:Nat.blt d n=true)(h:hwp P n ops Q S r ((d,.bool false)::l) w)(f:¬(a=b):=by omega):hwp P n ops Q S ((i,true)::r) l w:=Au hi (CR (λ_ _=>JQ c e) (hn:=hd) f h)
theorem Wx{t u:TypeId}{x y:Operand}{k:IntKind}{a b:Int}(hi:ops[i]?=some ⟨some d,.binOp .eql t x y u,ty,pos,aft,none⟩)(c:opv l x=some (.int k a))(e:opv l y=some (.int k b))(hd:Nat.blt d n=true)(f:a=b->hwp P n ops Q S r ((d,.bool true)::l) w)(hf:¬(a=b)->hwp P n ops Q S r ((d,.bool false)::l) w):hwp P n ops Q S ((i,true)::r) l w:=Au hi (AQ (λ_ _=>JQ c e) (hn:=hd) f hf)
theorem Pj{t u:TypeId}{x y:Operand}{k:IntKind}{a b:Int}(hi:ops[i]?=some ⟨some d,.binOp .neq t x y u,ty,pos,aft,none⟩)(c:opv l x=some (.int k a))(e:opv l y=some (.int k b))(hd:Nat.blt d n=true)(f:a≠b->hwp P n ops Q S r ((d,.bool true)::l) w)(hf:¬(a≠b)->hwp P n ops Q S r ((d,.bool false)::l) w):hwp P n ops Q S ((i,true)::r) l w:=Au hi (AQ (λ_ _=>Ga c e) (hn:=hd) f hf)
theorem Cm{x:Operand}{v:Value}(a:opv l x=some v)  (h:hwp P n ops Q S r ((d,v)::l) w)  (hd:Nat.blt d n=true:=by exact rfl):hwq P n ops Q S ⟨some d,.move x,ty,pos,aft,none⟩ r l w:=Bu (λ_ _=>Dh a) hd h
theorem TJ{c x y:Operand}{v:Value}(hc:opv l c=some (.bool true))(a:opv l x=some v)(hd:Nat.blt d n=true)(h:hwp P n ops Q S r ((d,v)::l) w)  : hwq P n ops Q S ⟨some d,.pick c x y,ty,pos,aft,none⟩ r l w:=Bu (λ_ _=>Oi hc a) hd h
theorem Rq{c x y:Operand}{v:Value}(hc:opv l c=some (.bool false))(a:opv l y=some v)(hd:Nat.blt d n=true)(h:hwp P n ops Q S r ((d,v)::l) w)  : hwq P n ops Q S ⟨some d,.pick c x y,ty,pos,aft,none⟩ r l w:=Bu (λ_ _=>Oj hc a) hd h
theorem Cy{t:TypeId}{f off:Nat}[TField P t f off]{x:Operand}{b o:Nat}(a:opv l x=some (.pointer (some ⟨b,o,none⟩)))  (h:hwp P n ops Q S r ((d,.pointer (some ⟨b,o+off,none⟩))::l) w)  (hd:Nat.blt d n=true:=by exact rfl):hwq P n ops Q S ⟨some d,.fieldAddr t x f,ty,pos,aft,none⟩ r l w:=Bu (λ_ _=>De a) hd h
theorem Xt{x:Operand}{a:Addr}(b:opv l x=some (.pointer (some a)))(hd:Nat.blt d n=true)(h:hwp P n ops Q S r ((d,.pointer (some a))::l) w)  : hwq P n ops Q S ⟨some d,.nilCheck x,ty,pos,aft,none⟩ r l w:=Bu (λ_ _=>LZ b) hd h
theorem PS{t:TypeId}{x:Operand}(a:opv l x=some (.bool true))(hd:Nat.blt d n=true)(h:hwp P n ops Q S r ((d,.bool false)::l) w)  : hwq P n ops Q S ⟨some d,.unOp .not t x,ty,pos,aft,none⟩ r l w:=Bu (λ_ _=>PP a) hd h
theorem PT{t:TypeId}{x:Operand}(a:opv l x=some (.bool false))(hd:Nat.blt d n=true)(h:hwp P n ops Q S r ((d,.bool true)::l) w)  : hwq P n ops Q S ⟨some d,.unOp .not t x,ty,pos,aft,none⟩ r l w:=Bu (λ_ _=>PQ a) hd h
theorem Vo{t:TypeId}{x:Operand}{b:Bool}(a:opv l x=some (.bool b))(hd:Nat.blt d n=true)(h:hwp P n ops Q S r ((d,.bool (!b))::l) w)  : hwq P n ops Q S ⟨some d,.unOp .not t x,ty,pos,aft,none⟩ r l w:=Bu (λ_ _=>OW a) hd h
theorem Ln{t e:TypeId}[TSlice P t e]{x:Operand}{A:Option Addr}{m c:Nat}(a:opv l x=some (.slice A m c))  (h:hwp P n ops Q S r ((d,.int .i64 (m:Int))::l) w)  (hd:Nat.blt d n=true:=by exact rfl):hwq P n ops Q S ⟨some d,.call { callee:=.builtin .len,args:=#[x],argTypes:=#[t] },ty,pos,aft,none⟩ r l w:=Bu (λ_ _=>JR a) hd h
theorem Xu{a:Go.Fn}{xs ys:List Operand}{vs b:List Value}(c:Y3 l xs=some vs)(e:Y3 l ys=some b)(hd:Nat.blt d n=true)(h:hwp P n ops Q S r ((d,.func a vs.toArray b.toArray)::l) w)  : hwq P n ops Q S ⟨some d,.makeFunc a xs.toArray ys.toArray,ty,pos,aft,none⟩ r l w:=Bu (λ_ _=>Qs c e) hd h
theorem Vp{t u:TypeId}{x y:Operand}{a b:Int}(c:opv l x=some (.int .i64 a))(e:opv l y=some (.int .i64 b))(hd:Nat.blt d n=true)(h:hwp P n ops Q S r ((d,.int .i64 (a-b))::l) w)(hr:-9223372036854775808<=a-b/\a-b<=9223372036854775807:=by omega):hwq P n ops Q S ⟨some d,.binOp .sub t x y u,ty,pos,aft,none⟩ r l w:=Bu (λ_ _=>KB c e hr) hd h
theorem Jc{t e:TypeId}[TSlice P t e]{z:Value}{size bytes:Nat}[TInfo P e z size bytes]{x a:Operand}{k:IntKind}{b o m c j:Nat}{q:Int}(f:opv l x=some (.slice (some ⟨b,o,none⟩) m c))(g:opv l a=some (.int k q))  (h:hwp P n ops Q S r ((d,.pointer (some ⟨b,o+j*size,none⟩))::l) w) (hj:q=(j:Int):=by first|rfl|assumption) (hlt:j<m:=by omega) (hd:Nat.blt d n=true:=by exact rfl):hwq P n ops Q S ⟨some d,.indexAddr t x a,ty,pos,aft,none⟩ r l w:=Bu (λ_ _=>Jb f g hj hlt) hd h
theorem BV{a:World}{t:TypeId}[TOne P t]{x:Operand}{b:Addr}{v:Value}(c:opv l x=some (.pointer (some b)))  (h:hwp P n ops Q (·=a) r ((d,v)::l) w) (hc:a.cell? b=some v:=by first|assumption|exact Blk.cell (by assumption) rfl|exact cat0 (by assumption)|exact cat1 (by assumption)|exact cat2 (by assumption)|exact cat3 (by assumption)|exact cat4 (by assumption)|exact cat5 (by assumption)|exact cat6 (by assumption)|exact cat7 (by assumption)|exact cat8 (by assumption)|exact cat9 (by assumption)) (hd:Nat.blt d n=true:=by exact rfl):hwq P n ops Q (·=a) ⟨some d,.load t x,ty,pos,aft,none⟩ r l w:=Ih (Cv c hc) hd h
theorem Re{t:TypeId}[TOne P t]{x:Operand}{b:Addr}{v:Value}(c:opv l x=some (.pointer (some b)))(hd:Nat.blt d n=true)(h:hwp P n ops Q S r ((d,v)::l) w)(hc:∀w',S w'->w'.cell? b=some v:=by first|assumption|exact λ_ a=>cat0 ((by assumption:∀w',_->cellsAt w' _ _ _) _ a)|exact λ_ a=>cat1 ((by assumption:∀w',_->cellsAt w' _ _ _) _ a)|exact λ_ a=>cat2 ((by assumption:∀w',_->cellsAt w' _ _ _) _ a)|exact λ_ a=>cat3 ((by assumption:∀w',_->cellsAt w' _ _ _) _ a)|exact λ_ a=>cat4 ((by assumption:∀w',_->cellsAt w' _ _ _) _ a)|exact λ_ a=>cat5 ((by assumption:∀w',_->cellsAt w' _ _ _) _ a)|exact λ_ a=>cat6 ((by assumption:∀w',_->cellsAt w' _ _ _) _ a)|exact λ_ a=>cat7 ((by assumption:∀w',_->cellsAt w' _ _ _) _ a)|exact λ_ a=>cat8 ((by assumption:∀w',_->cellsAt w' _ _ _) _ a)|exact λ_ a=>cat9 ((by assumption:∀w',_->cellsAt w' _ _ _) _ a)):hwq P n ops Q S ⟨some d,.load t x,ty,pos,aft,none⟩ r l w:=Bu (λ_ a=>Cv c (hc _ a)) hd h
theorem Ci{a:Op}{j dj:Nat}{b:Bool}{u:Value}(hi:ops[i]?=some ⟨some d,a,ty,pos,aft,some (j,b)⟩)(hj:Aai ops j=some dj)(hl:lk l dj=some u)   (h:hwp P n ops Q S r ((d,undef)::l) w) (hu:isB u b=false:=by exact rfl) (hd:Nat.blt d n=true:=by exact rfl):hwp P n ops Q S ((i,true)::r) l w:=Au hi (AE hj hl (hu:=hu) (hn:=hd) h)
end
structure Wz(H:Prop):Prop where
  o:H
theorem zz{G a:Prop}(g:a)(h:Wz a->G:=by intro x;(repeat (first|refine o_z ?_|refine Ak ?_|refine Aw rfl ?_|refine Am ?_|refine Ay rfl ?_|refine AK rfl rfl ?_|refine AA rfl rfl ?_|refine Ci rfl rfl rfl ?_|refine AN rfl ?_|refine AV ?_|refine Bf ?_|refine AI rfl rfl ?_|refine Ae rfl ?_|refine Aj rfl ?_|refine AT rfl ?_|refine EP rfl rfl ?_|refine DU rfl rfl ?_|refine h_z ?_|refine Cm rfl ?_|refine EQ rfl ?_|refine AL rfl rfl ?_|refine Dy rfl rfl rfl ?_|refine Fq rfl ?_|refine Fe rfl ?_|refine Dr rfl rfl rfl ?_|refine Cy rfl ?_|refine ER rfl rfl ?_|refine Eu rfl rfl ?_|refine TJ rfl rfl rfl ?_|refine Rq rfl rfl rfl ?_|refine AB ?_|refine Au rfl (At rfl rfl ?_)));exact x.o):G:=h ⟨g⟩
end
section
open Go Go.RowKit
structure Fct where
  var:Int
  val:Int
structure Eff where
  cond:List Fct
  var:Int
  val:Int
structure Opr where
  name:ByteArray
  cost:Int
  pre:List Fct
  effs:List Eff
structure Tsk where
  vars:List Int
  init:List Int
  goal:List Fct
  ops:List Opr
theorem Vb.one{α:Type}[Rp α](hb:Rp.isAgg α=false){w:World}{F:Nat->Prop}{v:Value}{x:α}(h:Vb w F v x):v.oneCell'=true:=by
  unfold Vb at h;rw[hb]at h;exact Rp.one h v (by simp)
instance:Rp Fct where
  isAgg:=true
  size:=2
  R _ _ cs f:=cs=[.int .i64 f.var,.int .i64 f.val]/\X2 f.var/\X2 f.val
  len:=by rintro w F cs x ⟨rfl,_⟩;rfl
  one:=by rintro w F cs x ⟨rfl,_⟩ u hu;simp at hu;rcases hu with rfl|rfl<;>rfl
  agree:=λh _=>h
  mono:=λh _=>h
instance:Rp Eff where
  isAgg:=true
  size:=3
  R w F cs e:=∃v,cs=[v,.int .i64 e.var,.int .i64 e.val]/\Vb w F v e.cond/\X2 e.var/\X2 e.val
  len:=by rintro w F cs x ⟨v,rfl,_⟩;rfl
  one:=by rintro w F cs x ⟨v,rfl,h,_⟩ u hu;simp at hu;rcases hu with rfl|rfl|rfl<;>first|rfl|exact Vb.one rfl (by assumption)
  agree:=by rintro w w' F cs x ⟨v,rfl,h,h2⟩ ha;exact⟨v,rfl,h.agree ha,h2⟩
  mono:=by rintro w F G cs x ⟨v,rfl,h,h2⟩ ha;exact⟨v,rfl,h.mono ha,h2⟩
instance:Rp Opr where
  isAgg:=true
  size:=4
  R w F cs o:=∃p q,cs=[.string o.name,.int .i64 o.cost,p,q]/\Vb w F p o.pre/\Vb w F q o.effs/\X2 o.cost/\o.name.size<=9223372036854775807
  len:=by rintro w F cs x ⟨p,q,rfl,_⟩;rfl
  one:=by rintro w F cs x ⟨p,q,rfl,h,k,_⟩ u hu;simp at hu;rcases hu with rfl|rfl|rfl|rfl<;>first|rfl|exact Vb.one rfl (by assumption)
  agree:=by rintro w w' F cs x ⟨p,q,rfl,h,k,h2⟩ ha;exact⟨p,q,rfl,h.agree ha,k.agree ha,h2⟩
  mono:=by rintro w F G cs x ⟨p,q,rfl,h,k,h2⟩ ha;exact⟨p,q,rfl,h.mono ha,k.mono ha,h2⟩
instance:Rp Tsk where
  isAgg:=true
  size:=4
  R w F cs t:=∃a b c d,cs=[a,b,c,d]/\Vb w F a t.vars/\Vb w F b t.init/\Vb w F c t.goal/\Vb w F d t.ops
  len:=by rintro w F cs x ⟨a,b,c,d,rfl,_⟩;rfl
  one:=by rintro w F cs x ⟨a,b,c,d,rfl,h1,h2,h3,h4⟩ u hu;simp at hu;rcases hu with rfl|rfl|rfl|rfl<;>first|rfl|exact Vb.one rfl (by assumption)
  agree:=by rintro w w' F cs x ⟨a,b,c,d,rfl,h1,h2,h3,h4⟩ ha;exact⟨a,b,c,d,rfl,h1.agree ha,h2.agree ha,h3.agree ha,h4.agree ha⟩
  mono:=by rintro w F G cs x ⟨a,b,c,d,rfl,h1,h2,h3,h4⟩ ha;exact⟨a,b,c,d,rfl,h1.mono ha,h2.mono ha,h3.mono ha,h4.mono ha⟩
end
section
open Go Go.RowKit Go.ChangeShapes Go.WideShapes Go.Deep
section
variable {H:Type}{enc:TypeId × Value → H}{P:Program}{w:World}
class Reads(P:Program)(t:TypeId)(α:Type)[Rp α]:Prop where
  of:∀{H:Type}{enc:TypeId×Value->H}{w:World}{n:Nat}{cs:List Value}{x:DataW H×List MemPlace},DataW.trod enc P w 0 (λ_=>true) true n t cs=some x->∃a:α,Rp.R w (All w) cs a
theorem AcS{z:Int}(h:(Lit.int .i64 z).wf=true):X2 z:=by
  simpa[Lit.wf,IntKind.min,IntKind.max,IntKind.signed,IntKind.bits,X2]using h
theorem AbE{t:TypeId}(a:P.underlying t=some (.int .i64)):Reads P t Int:=⟨λh=>by
  obtain⟨z,rfl,_,hw⟩:=DataW.trod_int a h;exact⟨z,rfl,AcS hw⟩⟩
theorem WG{a:Addr}{v:Value}(h:w.cell? a=some v):a.block<w.heap.size/\a.spot=none:=by
  unfold World.cell? at h;split at h
  . next hb =>
    refine⟨(B7.1 hb).1,?_⟩;cases hs:a.spot with
    |none=>rfl
    |some k=>rw[hs]at h;simp at h
  . cases h
theorem Zh{t e:TypeId}{α:Type}[Rp α][hr:Reads P e α](A:P.underlying t=some (.slice e))(hc:P.cellsOf e=Rp.size α)  (F:0<Rp.size α:=by decide):Reads P t (List α):=⟨λ{H enc w n cs x} h=>by
  rcases open_slice A h with⟨rfl,_⟩|⟨a,len,cap,m,n',D,Pl,rfl,_,hl,hm,hmm,_,hi⟩
  . exact⟨[],_,rfl,none,0,[],rfl,W3 _,by omega,rfl,λh=>by simp at h⟩
  . have B:len<=m:=(by rw[hmm];simpa using hl);have p:∀k,k<=len->∃(xs:List α) (cells:List Value),xs.length=k/\Chunks w (All w) cells xs/\(0<k->a.spot=none/\a.block<w.heap.size)/\∀(j:Nat) v,cells[j]?=some v->w.cell? ⟨a.block,a.off+j,none⟩=some v:=by
      intro k
      induction k with
      |zero=>intro _;exact⟨[],[],rfl,rfl,λh=>by omega,λj v h=>by simp at h⟩
      |succ k C =>
        intro hk;obtain⟨xs,cells,h1,h2,h3,h4⟩:=C (by omega);obtain⟨cs',hcs,hel⟩:=hi k (by omega);obtain⟨y,hy⟩:=hr.of hel;obtain⟨_,hlen,hat⟩:=World.cells?_some hcs;rw[hc]at hlen hat;have q:=h2.length;have g:∀j,j<Rp.size α->((a.add (k*Rp.size α)).add j).block=a.block/\((a.add (k*Rp.size α)).add j).off=a.off+(cells.length+j):=λj hj=>by
          rw[q,h1];unfold Addr.add;by_cases f:k*Rp.size α=0
          . by_cases d:j=0
            . simp[f,d]
            . simp[f,d]
          . by_cases d:j=0
            . simp[f,d]
            . simp[f,d];omega
        have c:∀(j:Nat) v,cs'[j]?=some v->w.cell? ⟨a.block,a.off+(cells.length+j),none⟩=some v/\a.block<w.heap.size/\((a.add (k*Rp.size α)).add j).spot=none:=λj v hv=>by
          have hj:j<Rp.size α:=(by rw[<- hlen];exact(C1.1 hv).1);have l:=hat j hj;rw[hv]at l;obtain⟨i,q2⟩:=WG l;obtain⟨f,d⟩:=g j hj;have:(a.add (k*Rp.size α)).add j=⟨a.block,a.off+(cells.length+j),none⟩:=by
            cases E:(a.add (k*Rp.size α)).add j with
            |mk b o s=>rw[E]at f d q2;simp only at f d q2;subst f;subst d;subst q2;rfl
          rw[this]at l i;exact⟨l,i,q2⟩
        obtain⟨u,hv0⟩:∃v,cs'[0]?=some v:=⟨cs'[0]'(by omega),C9 (by omega)⟩;refine⟨xs++[y],cells++cs',by simp[h1],h2.append (.single hy),λ_=>⟨?_,(c 0 u hv0).2.1⟩,λj v hv=>?_⟩
        . by_cases r:k=0
          . subst r;have:=(c 0 u hv0).2.2;simpa[Addr.add]using this
          . exact(h3 (by omega)).1
        . by_cases hj:j<cells.length
          . rw[C2 hj]at hv;exact h4 j v hv
          . rw[B8 (by omega)]at hv;have:=(c _ v hv).1;rwa[show cells.length+(j-cells.length)=j from by omega]at this
    obtain⟨xs,cells,h1,h2,h3,h4⟩:=p len (W3 _);refine⟨xs,_,rfl,some a,cap,cells,by rw[h1],by omega,by simpa[maxLen]using hm,h2,λz=>?_⟩;obtain⟨i,q2⟩:=h3 (by omega);refine⟨a.block,a.off,?_,q2,Hv h4⟩;cases a;simp only at i;subst i;rfl⟩
end
end
section
open Go Go.RowKit
theorem X3{P:Program}{t f off s:Nat}{b:Array Field}{a:Field}(c:P.underlying t=some (.struct b))(d:b[f]?=some a)(e:a.offset=off)   (g:(P.info? a.type).map (·.size)=some s:=by kernel_rfl) (h:s≠0:=by decide) :
    ∃b a i,P.underlying t=some (.struct b)/\b[f]?=some a/\a.offset=off/\P.info? a.type=some i/\i.size≠0:=by
  obtain⟨i,hi,hs⟩:=F0.1 g;exact⟨b,a,i,c,d,e,hi,by rw[hs];exact h⟩
instance:TInt prog 3 .i64:=⟨underlying3⟩
instance:TOne prog 3:=⟨⟨_,underlying3,rfl⟩⟩
instance:TInfo prog 3 (.int .i64 0) 1 8:=⟨info_parts (by kernel_rfl),rfl⟩
instance:TOne prog 4:=⟨⟨_,underlying4,rfl⟩⟩
instance:TInfo prog 4 (.bool false) 1 1:=⟨info_parts (by kernel_rfl),rfl⟩
instance:TInt prog 5 .u8:=⟨underlying5⟩
instance:TInfo prog 5 (.int .u8 0) 1 1:=⟨info_parts (by kernel_rfl),rfl⟩
instance:TStr prog 9:=⟨underlying9⟩
instance:TOne prog 9:=⟨⟨_,underlying9,rfl⟩⟩
instance:TSlice prog 22 3:=⟨underlying22⟩
instance:TOne prog 22:=⟨⟨_,underlying22,rfl⟩⟩
instance:TInfo prog 22 (.slice none 0 0) 1 24:=⟨info_parts (by kernel_rfl),rfl⟩
instance:TSlice prog 23 67:=⟨underlying23⟩
instance:TOne prog 23:=⟨⟨_,underlying23,rfl⟩⟩
instance:TInfo prog 23 (.slice none 0 0) 1 24:=⟨info_parts (by kernel_rfl),rfl⟩
instance:TSlice prog 24 63:=⟨underlying24⟩
instance:TOne prog 24:=⟨⟨_,underlying24,rfl⟩⟩
instance:TInfo prog 24 (.slice none 0 0) 1 24:=⟨info_parts (by kernel_rfl),rfl⟩
instance:TAgg prog 26:=⟨⟨_,underlying26,rfl⟩⟩
instance:TInfo prog 26 (.agg #[(.slice none 0 0),(.slice none 0 0),(.slice none 0 0),(.slice none 0 0)]) 4 96:=⟨info_parts (by kernel_rfl),rfl⟩
instance:TPlaces prog 26 [(0,1),(1,1),(2,1),(3,1)]:=⟨⟨_,underlying26,λ_=>by kernel_rfl⟩⟩
instance:TField prog 26 0 0:=⟨X3 (s:=1) underlying26 rfl rfl⟩
instance:TField prog 26 1 1:=⟨X3 (s:=1) underlying26 rfl rfl⟩
instance:TField prog 26 2 2:=⟨X3 (s:=1) underlying26 rfl rfl⟩
instance:TField prog 26 3 3:=⟨X3 (s:=1) underlying26 rfl rfl⟩
instance:TSlice prog 27 22:=⟨underlying27⟩
instance:TOne prog 27:=⟨⟨_,underlying27,rfl⟩⟩
instance:TInfo prog 27 (.slice none 0 0) 1 24:=⟨info_parts (by kernel_rfl),rfl⟩
instance:TAgg prog 29:=⟨⟨_,underlying29,rfl⟩⟩
instance:TInfo prog 29 (.agg #[(.slice none 0 0),(.slice none 0 0),(.slice none 0 0)]) 3 72:=⟨info_parts (by kernel_rfl),rfl⟩
instance:TPlaces prog 29 [(0,1),(1,1),(2,1)]:=⟨⟨_,underlying29,λ_=>by kernel_rfl⟩⟩
instance:TField prog 29 0 0:=⟨X3 (s:=1) underlying29 rfl rfl⟩
instance:TField prog 29 1 1:=⟨X3 (s:=1) underlying29 rfl rfl⟩
instance:TField prog 29 2 2:=⟨X3 (s:=1) underlying29 rfl rfl⟩
instance:TPtr prog 34 79:=⟨underlying34⟩
instance:TIface prog 36:=⟨⟨_,underlying36⟩⟩
instance:TPtr prog 39 86:=⟨underlying39⟩
instance:TSlice prog 48 55:=⟨underlying48⟩
instance:TOne prog 48:=⟨⟨_,underlying48,rfl⟩⟩
instance:TInfo prog 48 (.slice none 0 0) 1 24:=⟨info_parts (by kernel_rfl),rfl⟩
instance:TAgg prog 50:=⟨⟨_,underlying50,rfl⟩⟩
instance:TInfo prog 50 (.agg #[(.int .i64 0),(.slice none 0 0)]) 2 32:=⟨info_parts (by kernel_rfl),rfl⟩
instance:TPlaces prog 50 [(0,1),(1,1)]:=⟨⟨_,underlying50,λ_=>by kernel_rfl⟩⟩
instance:TField prog 50 0 0:=⟨X3 (s:=1) underlying50 rfl rfl⟩
instance:TField prog 50 1 1:=⟨X3 (s:=1) underlying50 rfl rfl⟩
instance:TAgg prog 55:=⟨⟨_,underlying55,rfl⟩⟩
instance:TInfo prog 55 (.agg #[(.slice none 0 0),(.int .i64 0)]) 2 32:=⟨info_parts (by kernel_rfl),rfl⟩
instance:TPlaces prog 55 [(0,1),(1,1)]:=⟨⟨_,underlying55,λ_=>by kernel_rfl⟩⟩
instance:TField prog 55 0 0:=⟨X3 (s:=1) underlying55 rfl rfl⟩
instance:TField prog 55 1 1:=⟨X3 (s:=1) underlying55 rfl rfl⟩
instance:TInt prog 59 .i64:=⟨underlying59⟩
instance:TSlice prog 61 65:=⟨underlying61⟩
instance:TOne prog 61:=⟨⟨_,underlying61,rfl⟩⟩
instance:TInfo prog 61 (.slice none 0 0) 1 24:=⟨info_parts (by kernel_rfl),rfl⟩
instance:TAgg prog 63:=⟨⟨_,underlying63,rfl⟩⟩
instance:TInfo prog 63 (.agg #[(.string (ByteArray.mk #[])),(.int .i64 0),(.slice none 0 0),(.slice none 0 0)]) 4 72:=⟨info_parts (by kernel_rfl),rfl⟩
instance:TPlaces prog 63 [(0,1),(1,1),(2,1),(3,1)]:=⟨⟨_,underlying63,λ_=>by kernel_rfl⟩⟩
instance:TField prog 63 0 0:=⟨X3 (s:=1) underlying63 rfl rfl⟩
instance:TField prog 63 1 1:=⟨X3 (s:=1) underlying63 rfl rfl⟩
instance:TField prog 63 2 2:=⟨X3 (s:=1) underlying63 rfl rfl⟩
instance:TField prog 63 3 3:=⟨X3 (s:=1) underlying63 rfl rfl⟩
instance:TAgg prog 65:=⟨⟨_,underlying65,rfl⟩⟩
instance:TInfo prog 65 (.agg #[(.slice none 0 0),(.int .i64 0),(.int .i64 0)]) 3 40:=⟨info_parts (by kernel_rfl),rfl⟩
instance:TPlaces prog 65 [(0,1),(1,1),(2,1)]:=⟨⟨_,underlying65,λ_=>by kernel_rfl⟩⟩
instance:TField prog 65 0 0:=⟨X3 (s:=1) underlying65 rfl rfl⟩
instance:TField prog 65 1 1:=⟨X3 (s:=1) underlying65 rfl rfl⟩
instance:TField prog 65 2 2:=⟨X3 (s:=1) underlying65 rfl rfl⟩
instance:TAgg prog 67:=⟨⟨_,underlying67,rfl⟩⟩
instance:TInfo prog 67 (.agg #[(.int .i64 0),(.int .i64 0)]) 2 16:=⟨info_parts (by kernel_rfl),rfl⟩
instance:TPlaces prog 67 [(0,1),(1,1)]:=⟨⟨_,underlying67,λ_=>by kernel_rfl⟩⟩
instance:TField prog 67 0 0:=⟨X3 (s:=1) underlying67 rfl rfl⟩
instance:TField prog 67 1 1:=⟨X3 (s:=1) underlying67 rfl rfl⟩
instance:TAgg prog 71:=⟨⟨_,underlying71,rfl⟩⟩
instance:TInfo prog 71 (.agg #[(.int .i64 0),(.slice none 0 0),(.int .i64 0),(.int .i64 0)]) 4 48:=⟨info_parts (by kernel_rfl),rfl⟩
instance:TPlaces prog 71 [(0,1),(1,1),(2,1),(3,1)]:=⟨⟨_,underlying71,λ_=>by kernel_rfl⟩⟩
instance:TField prog 71 2 2:=⟨X3 (s:=1) underlying71 rfl rfl⟩
instance:TSlice prog 77 83:=⟨underlying77⟩
instance:TOne prog 77:=⟨⟨_,underlying77,rfl⟩⟩
instance:TInfo prog 77 (.slice none 0 0) 1 24:=⟨info_parts (by kernel_rfl),rfl⟩
instance:TInfo prog 79 (.agg #[(.slice none 0 0),(.slice none 0 0),(.slice none 0 0),(.slice none 0 0),(.slice none 0 0),(.int .i64 0),(.slice none 0 0),(.slice none 0 0),(.slice none 0 0)]) 9 200:=⟨info_parts (by kernel_rfl),rfl⟩
instance:TPlaces prog 79 [(0,4),(4,1),(5,1),(6,1),(7,1),(8,1)]:=⟨⟨_,underlying79,λ_=>by kernel_rfl⟩⟩
instance:TField prog 79 0 0:=⟨X3 (s:=4) underlying79 rfl rfl⟩
instance:TField prog 79 1 4:=⟨X3 (s:=1) underlying79 rfl rfl⟩
instance:TField prog 79 2 5:=⟨X3 (s:=1) underlying79 rfl rfl⟩
instance:TField prog 79 3 6:=⟨X3 (s:=1) underlying79 rfl rfl⟩
instance:TField prog 79 4 7:=⟨X3 (s:=1) underlying79 rfl rfl⟩
instance:TField prog 79 5 8:=⟨X3 (s:=1) underlying79 rfl rfl⟩
instance:TAgg prog 83:=⟨⟨_,underlying83,rfl⟩⟩
instance:TInfo prog 83 (.agg #[(.int .i64 0),(.int .i64 0),(.int .i64 0),(.int .i64 0),(.slice none 0 0)]) 5 56:=⟨info_parts (by kernel_rfl),rfl⟩
instance:TPlaces prog 83 [(0,1),(1,1),(2,1),(3,1),(4,1)]:=⟨⟨_,underlying83,λ_=>by kernel_rfl⟩⟩
instance:TField prog 83 0 0:=⟨X3 (s:=1) underlying83 rfl rfl⟩
instance:TField prog 83 2 2:=⟨X3 (s:=1) underlying83 rfl rfl⟩
instance:TField prog 83 3 3:=⟨X3 (s:=1) underlying83 rfl rfl⟩
instance:TField prog 83 4 4:=⟨X3 (s:=1) underlying83 rfl rfl⟩
instance:TSlice prog 84 90:=⟨underlying84⟩
instance:TOne prog 84:=⟨⟨_,underlying84,rfl⟩⟩
instance:TInfo prog 84 (.slice none 0 0) 1 24:=⟨info_parts (by kernel_rfl),rfl⟩
instance:TInfo prog 86 (.agg #[(.slice none 0 0),(.slice none 0 0),(.int .i64 0),(.slice none 0 0),(.slice none 0 0),(.slice none 0 0)]) 6 128:=⟨info_parts (by kernel_rfl),rfl⟩
instance:TPlaces prog 86 [(0,1),(1,1),(2,1),(3,1),(4,1),(5,1)]:=⟨⟨_,underlying86,λ_=>by kernel_rfl⟩⟩
instance:TField prog 86 0 0:=⟨X3 (s:=1) underlying86 rfl rfl⟩
instance:TField prog 86 1 1:=⟨X3 (s:=1) underlying86 rfl rfl⟩
instance:TField prog 86 2 2:=⟨X3 (s:=1) underlying86 rfl rfl⟩
instance:TField prog 86 3 3:=⟨X3 (s:=1) underlying86 rfl rfl⟩
instance:TField prog 86 4 4:=⟨X3 (s:=1) underlying86 rfl rfl⟩
instance:TField prog 86 5 5:=⟨X3 (s:=1) underlying86 rfl rfl⟩
instance:TAgg prog 90:=⟨⟨_,underlying90,rfl⟩⟩
instance:TInfo prog 90 (.agg #[(.int .i64 0),(.int .i64 0),(.slice none 0 0)]) 3 40:=⟨info_parts (by kernel_rfl),rfl⟩
instance:TPlaces prog 90 [(0,1),(1,1),(2,1)]:=⟨⟨_,underlying90,λ_=>by kernel_rfl⟩⟩
instance:TField prog 90 0 0:=⟨X3 (s:=1) underlying90 rfl rfl⟩
instance:TField prog 90 1 1:=⟨X3 (s:=1) underlying90 rfl rfl⟩
instance:TField prog 90 2 2:=⟨X3 (s:=1) underlying90 rfl rfl⟩
instance:TSlice prog 92 95:=⟨underlying92⟩
instance:TAgg prog 95:=⟨⟨_,underlying95,rfl⟩⟩
instance:TInfo prog 95 (.agg #[(.int .i64 0),(.int .i64 0),(.int .i64 0)]) 3 24:=⟨info_parts (by kernel_rfl),rfl⟩
instance:TPlaces prog 95 [(0,1),(1,1),(2,1)]:=⟨⟨_,underlying95,λ_=>by kernel_rfl⟩⟩
instance:TField prog 95 0 0:=⟨X3 (s:=1) underlying95 rfl rfl⟩
instance:TField prog 95 1 1:=⟨X3 (s:=1) underlying95 rfl rfl⟩
instance:TField prog 95 2 2:=⟨X3 (s:=1) underlying95 rfl rfl⟩
instance:TSlice prog 100 104:=⟨underlying100⟩
instance:TAgg prog 104:=⟨⟨_,underlying104,rfl⟩⟩
instance:TInfo prog 104 (.agg #[(.slice none 0 0),(.int .i64 0)]) 2 32:=⟨info_parts (by kernel_rfl),rfl⟩
instance:TPlaces prog 104 [(0,1),(1,1)]:=⟨⟨_,underlying104,λ_=>by kernel_rfl⟩⟩
instance:TField prog 104 0 0:=⟨X3 (s:=1) underlying104 rfl rfl⟩
instance:TField prog 104 1 1:=⟨X3 (s:=1) underlying104 rfl rfl⟩
instance:TPtr prog 106 110:=⟨underlying106⟩
instance:TAgg prog 108:=⟨⟨_,underlying108,rfl⟩⟩
instance:TInfo prog 108 (.agg #[(.slice none 0 0),(.int .i64 0),(.int .i64 0)]) 3 40:=⟨info_parts (by kernel_rfl),rfl⟩
instance:TPlaces prog 108 [(0,1),(1,1),(2,1)]:=⟨⟨_,underlying108,λ_=>by kernel_rfl⟩⟩
instance:TField prog 108 0 0:=⟨X3 (s:=1) underlying108 rfl rfl⟩
instance:TField prog 108 1 1:=⟨X3 (s:=1) underlying108 rfl rfl⟩
instance:TField prog 108 2 2:=⟨X3 (s:=1) underlying108 rfl rfl⟩
instance:TSlice prog 110 108:=⟨underlying110⟩
instance:TOne prog 110:=⟨⟨_,underlying110,rfl⟩⟩
instance:TInfo prog 110 (.slice none 0 0) 1 24:=⟨info_parts (by kernel_rfl),rfl⟩
instance:TSlice prog 115 23:=⟨underlying115⟩
instance:TOne prog 115:=⟨⟨_,underlying115,rfl⟩⟩
instance:TInfo prog 115 (.slice none 0 0) 1 24:=⟨info_parts (by kernel_rfl),rfl⟩
instance:TSlice prog 123 29:=⟨underlying123⟩
instance:TOne prog 123:=⟨⟨_,underlying123,rfl⟩⟩
instance:TPtr prog 124 192:=⟨underlying124⟩
instance:TOne prog 124:=⟨⟨_,underlying124,rfl⟩⟩
instance:TOne prog 128:=⟨⟨_,underlying128,rfl⟩⟩
instance:TSlice prog 129 140:=⟨underlying129⟩
instance:TOne prog 129:=⟨⟨_,underlying129,rfl⟩⟩
instance:TInfo prog 129 (.slice none 0 0) 1 24:=⟨info_parts (by kernel_rfl),rfl⟩
instance:TSlice prog 131 136:=⟨underlying131⟩
instance:TOne prog 131:=⟨⟨_,underlying131,rfl⟩⟩
instance:TInfo prog 131 (.slice none 0 0) 1 24:=⟨info_parts (by kernel_rfl),rfl⟩
instance:TInfo prog 133 (.agg #[(.slice none 0 0),(.slice none 0 0),(.slice none 0 0),(.slice none 0 0),(.slice none 0 0),(.slice none 0 0),(.map none),(.slice none 0 0),(.int .i64 0)]) 9 184:=⟨info_parts (by kernel_rfl),rfl⟩
instance:TPlaces prog 133 [(0,4),(4,1),(5,1),(6,1),(7,1),(8,1)]:=⟨⟨_,underlying133,λ_=>by kernel_rfl⟩⟩
instance:TField prog 133 0 0:=⟨X3 (s:=4) underlying133 rfl rfl⟩
instance:TField prog 133 1 4:=⟨X3 (s:=1) underlying133 rfl rfl⟩
instance:TField prog 133 2 5:=⟨X3 (s:=1) underlying133 rfl rfl⟩
instance:TField prog 133 3 6:=⟨X3 (s:=1) underlying133 rfl rfl⟩
instance:TField prog 133 4 7:=⟨X3 (s:=1) underlying133 rfl rfl⟩
instance:TField prog 133 5 8:=⟨X3 (s:=1) underlying133 rfl rfl⟩
instance:TAgg prog 136:=⟨⟨_,underlying136,rfl⟩⟩
instance:TInfo prog 136 (.agg #[(.int .i64 0),(.int .i64 0),(.int .i64 0)]) 3 24:=⟨info_parts (by kernel_rfl),rfl⟩
instance:TPlaces prog 136 [(0,1),(1,1),(2,1)]:=⟨⟨_,underlying136,λ_=>by kernel_rfl⟩⟩
instance:TField prog 136 0 0:=⟨X3 (s:=1) underlying136 rfl rfl⟩
instance:TField prog 136 1 1:=⟨X3 (s:=1) underlying136 rfl rfl⟩
instance:TField prog 136 2 2:=⟨X3 (s:=1) underlying136 rfl rfl⟩
instance:TPtr prog 138 131:=⟨underlying138⟩
instance:TAgg prog 140:=⟨⟨_,underlying140,rfl⟩⟩
instance:TInfo prog 140 (.agg #[(.slice none 0 0),(.int .i64 0),(.int .i64 0),(.int .i64 0),(.slice none 0 0),(.bool false)]) 6 80:=⟨info_parts (by kernel_rfl),rfl⟩
instance:TPlaces prog 140 [(0,1),(1,1),(2,1),(3,1),(4,1),(5,1)]:=⟨⟨_,underlying140,λ_=>by kernel_rfl⟩⟩
instance:TField prog 140 0 0:=⟨X3 (s:=1) underlying140 rfl rfl⟩
instance:TField prog 140 1 1:=⟨X3 (s:=1) underlying140 rfl rfl⟩
instance:TField prog 140 2 2:=⟨X3 (s:=1) underlying140 rfl rfl⟩
instance:TField prog 140 3 3:=⟨X3 (s:=1) underlying140 rfl rfl⟩
instance:TField prog 140 4 4:=⟨X3 (s:=1) underlying140 rfl rfl⟩
instance:TField prog 140 5 5:=⟨X3 (s:=1) underlying140 rfl rfl⟩
instance:TSlice prog 142 145:=⟨underlying142⟩
instance:TAgg prog 145:=⟨⟨_,underlying145,rfl⟩⟩
instance:TInfo prog 145 (.agg #[(.int .i64 0),(.slice none 0 0)]) 2 32:=⟨info_parts (by kernel_rfl),rfl⟩
instance:TPlaces prog 145 [(0,1),(1,1)]:=⟨⟨_,underlying145,λ_=>by kernel_rfl⟩⟩
instance:TField prog 145 0 0:=⟨X3 (s:=1) underlying145 rfl rfl⟩
instance:TField prog 145 1 1:=⟨X3 (s:=1) underlying145 rfl rfl⟩
instance:TInt prog 155 .u64:=⟨underlying155⟩
instance:TSlice prog 160 163:=⟨underlying160⟩
instance:TOne prog 160:=⟨⟨_,underlying160,rfl⟩⟩
instance:TInfo prog 160 (.slice none 0 0) 1 24:=⟨info_parts (by kernel_rfl),rfl⟩
instance:TPtr prog 161 160:=⟨underlying161⟩
instance:TAgg prog 163:=⟨⟨_,underlying163,rfl⟩⟩
instance:TInfo prog 163 (.agg #[(.int .i64 0),(.int .i64 0)]) 2 16:=⟨info_parts (by kernel_rfl),rfl⟩
instance:TPlaces prog 163 [(0,1),(1,1)]:=⟨⟨_,underlying163,λ_=>by kernel_rfl⟩⟩
instance:TField prog 163 0 0:=⟨X3 (s:=1) underlying163 rfl rfl⟩
instance:TField prog 163 1 1:=⟨X3 (s:=1) underlying163 rfl rfl⟩
instance:TSlice prog 165 4:=⟨underlying165⟩
instance:TInfo prog 183 (.agg #[(.slice none 0 0),(.slice none 0 0),(.slice none 0 0),(.slice none 0 0),(.int .i64 0),(.slice none 0 0),(.int .i64 0)]) 7 136:=⟨info_parts (by kernel_rfl),rfl⟩
instance:TPlaces prog 183 [(0,4),(4,2),(6,1)]:=⟨⟨_,underlying183,λ_=>by kernel_rfl⟩⟩
instance:TField prog 183 0 0:=⟨X3 (s:=4) underlying183 rfl rfl⟩
instance:TField prog 183 1 4:=⟨X3 (s:=2) underlying183 rfl rfl⟩
instance:TField prog 183 2 6:=⟨X3 (s:=1) underlying183 rfl rfl⟩
instance:TPtr prog 190 239:=⟨underlying190⟩
instance:TOne prog 190:=⟨⟨_,underlying190,rfl⟩⟩
instance:TInfo prog 190 (.pointer none) 1 8:=⟨info_parts (by kernel_rfl),rfl⟩
instance:TInfo prog 192 (.agg #[(.slice none 0 0),(.slice none 0 0),(.slice none 0 0),(.slice none 0 0),(.pointer none)]) 5 104:=⟨info_parts (by kernel_rfl),rfl⟩
instance:TPlaces prog 192 [(0,4),(4,1)]:=⟨⟨_,underlying192,λ_=>by kernel_rfl⟩⟩
instance:TField prog 192 0 0:=⟨X3 (s:=4) underlying192 rfl rfl⟩
instance:TField prog 192 1 4:=⟨X3 (s:=1) underlying192 rfl rfl⟩
instance:TSlice prog 219 222:=⟨underlying219⟩
instance:TAgg prog 222:=⟨⟨_,underlying222,rfl⟩⟩
instance:TInfo prog 222 (.agg #[(.int .i64 0),(.int .i64 0),(.int .i64 0)]) 3 24:=⟨info_parts (by kernel_rfl),rfl⟩
instance:TPlaces prog 222 [(0,1),(1,1),(2,1)]:=⟨⟨_,underlying222,λ_=>by kernel_rfl⟩⟩
instance:TField prog 222 0 0:=⟨X3 (s:=1) underlying222 rfl rfl⟩
instance:TField prog 222 1 1:=⟨X3 (s:=1) underlying222 rfl rfl⟩
instance:TField prog 222 2 2:=⟨X3 (s:=1) underlying222 rfl rfl⟩
instance:TSlice prog 224 115:=⟨underlying224⟩
instance:TSlice prog 237 190:=⟨underlying237⟩
instance:TOne prog 237:=⟨⟨_,underlying237,rfl⟩⟩
instance:TInfo prog 239 (.agg #[(.slice none 0 0),(.bool false),(.int .i64 0),(.slice none 0 0),(.pointer none)]) 5 72:=⟨info_parts (by kernel_rfl),rfl⟩
instance:TPlaces prog 239 [(0,1),(1,1),(2,1),(3,1),(4,1)]:=⟨⟨_,underlying239,λ_=>by kernel_rfl⟩⟩
instance:TField prog 239 0 0:=⟨X3 (s:=1) underlying239 rfl rfl⟩
instance:TField prog 239 1 1:=⟨X3 (s:=1) underlying239 rfl rfl⟩
instance:TField prog 239 2 2:=⟨X3 (s:=1) underlying239 rfl rfl⟩
instance:TField prog 239 3 3:=⟨X3 (s:=1) underlying239 rfl rfl⟩
instance:TField prog 239 4 4:=⟨X3 (s:=1) underlying239 rfl rfl⟩
instance:TSlice prog 240 5:=⟨underlying240⟩
instance:TInfo prog 264 (.agg #[(.slice none 0 0),(.int .i64 0),(.int .i64 0),(.bool false)]) 4 48:=⟨info_parts (by kernel_rfl),rfl⟩
instance:TPlaces prog 264 [(0,1),(1,1),(2,1),(3,1)]:=⟨⟨_,underlying264,λ_=>by kernel_rfl⟩⟩
instance:TField prog 264 1 1:=⟨X3 (s:=1) underlying264 rfl rfl⟩
instance:TField prog 264 2 2:=⟨X3 (s:=1) underlying264 rfl rfl⟩
instance:TField prog 264 3 3:=⟨X3 (s:=1) underlying264 rfl rfl⟩
instance:Callable prog 4:=.z func4
instance:Callable prog 5:=.z func5
instance:Callable prog 6:=.z func6
instance:Callable prog 7:=.z func7
instance:Callable prog 8:=.z func8
instance:Callable prog 9:=.z func9
instance:Callable prog 10:=.z func10
instance:Callable prog 11:=.z func11
instance:Callable prog 12:=.z func12
instance:Callable prog 13:=.z func13
instance:Callable prog 14:=.z func14
instance:Callable prog 15:=.z func15
instance:Callable prog 16:=.z func16
instance:Callable prog 17:=.z func17
instance:Callable prog 18:=.z func18
instance:Callable prog 19:=.z func19
instance:Callable prog 20:=.z func20
instance:Callable prog 21:=.z func21
instance:Callable prog 22:=.z func22
instance:Callable prog 23:=.z func23
instance:Callable prog 24:=.z func24
instance:Callable prog 25:=.z func25
instance:Callable prog 26:=.z func26
instance:Callable prog 27:=.z func27
instance:Callable prog 28:=.z func28
instance:Callable prog 29:=.z func29
instance:Callable prog 30:=.z func30
instance:Callable prog 31:=.z func31
instance:Callable prog 32:=.z func32
instance:Callable prog 33:=.z func33
instance:Callable prog 34:=.z func34
instance:Callable prog 35:=.z func35
instance:Callable prog 36:=.z func36
instance:Callable prog 37:=.z func37
instance:Callable prog 38:=.z func38
instance:Callable prog 39:=.z func39
instance:Callable prog 40:=.z func40
instance:Callable prog 41:=.z func41
instance:Callable prog 42:=.z func42
instance:Callable prog 43:=.z func43
instance:Callable prog 44:=.z func44
instance:Callable prog 45:=.z func45
instance:Callable prog 46:=.z func46
instance:Callable prog 47:=.z func47
instance:Callable prog 48:=.z func48
instance:Callable prog 49:=.z func49
instance:Callable prog 50:=.z func50
instance:Callable prog 51:=.z func51
instance:Callable prog 52:=.z func52
instance:Callable prog 53:=.z func53
instance:Callable prog 54:=.z func54
instance:Callable prog 55:=.z func55
instance:Callable prog 56:=.z func56
instance:Callable prog 57:=.z func57
instance:Callable prog 58:=.z func58
instance:Callable prog 59:=.z func59
instance:Callable prog 60:=.z func60
instance:Callable prog 61:=.z func61
instance:Callable prog 62:=.z func62
instance:Callable prog 63:=.z func63
instance:Callable prog 64:=.z func64
instance:Callable prog 65:=.z func65
instance:Callable prog 66:=.z func66
instance:Callable prog 69:=.z func69
instance:Callable prog 70:=.z func70
instance:Callable prog 71:=.z func71
instance:Callable prog 72:=.z func72
instance:Callable prog 73:=.z func73
instance:Callable prog 74:=.z func74
instance:Callable prog 75:=.z func75
instance:Callable prog 76:=.z func76
instance:Callable prog 77:=.z func77
instance:Callable prog 78:=.z func78
instance:Callable prog 79:=.z func79
instance:Callable prog 80:=.z func80
instance:Callable prog 81:=.z func81
instance:Callable prog 82:=.z func82
instance:Callable prog 83:=.z func83
instance:Callable prog 84:=.z func84
instance:Callable prog 85:=.z func85
instance:Callable prog 86:=.z func86
instance:Callable prog 87:=.z func87
instance:Callable prog 88:=.z func88
instance:Callable prog 89:=.z func89
instance:Callable prog 90:=.z func90
instance:Callable prog 91:=.z func91
instance:Callable prog 92:=.z func92
instance:Callable prog 93:=.z func93
instance:Callable prog 94:=.z func94
instance:Callable prog 95:=.z func95
instance:Callable prog 97:=.z func97
instance:Callable prog 98:=.z func98
instance:Callable prog 99:=.z func99
instance:Callable prog 100:=.z func100
instance:Callable prog 102:=.z func102
instance:Callable prog 103:=.z func103
instance:Callable prog 104:=.z func104
instance:Callable prog 105:=.z func105
instance:Callable prog 117:=.z func117
instance:Callable prog 118:=.z func118
instance:Callable prog 119:=.z func119
instance:Callable prog 120:=.z func120
instance:Callable prog 121:=.z func121
instance:Callable prog 122:=.z func122
instance:Callable prog 123:=.z func123
instance:Callable prog 125:=.z func125
instance:Callable prog 126:=.z func126
instance:Callable prog 127:=.z func127
instance:Callable prog 128:=.z func128
instance:Callable prog 129:=.z func129
instance:Callable prog 130:=.z func130
instance:Callable prog 131:=.z func131
instance:Callable prog 132:=.z func132
instance:Callable prog 133:=.z func133
instance:Callable prog 135:=.z func135
instance:Callable prog 137:=.z func137
instance:Callable prog 138:=.z func138
instance:Callable prog 140:=.z func140
instance:Callable prog 146:=.z func146
instance:Callable prog 147:=.z func147
instance:Callable prog 148:=.z func148
instance:Callable prog 149:=.z func149
instance:Callable prog 150:=.z func150
instance:Callable prog 151:=.z func151
instance:Callable prog 160:=.z func160
instance:Callable prog 161:=.z func161
instance:Callable prog 162:=.z func162
instance:Callable prog 163:=.z func163
instance:Callable prog 164:=.z func164
instance:Callable prog 174:=.z func174
instance:Callable prog 180:=.z func180
instance:Callable prog 186:=.z func186
instance:Callable prog 213:=.z func213
instance:Callable prog 214:=.z func214
instance:Callable prog 215:=.z func215
instance:Callable prog 216:=.z func216
instance:Callable prog 218:=.z func218
instance:Callable prog 219:=.z func219
instance:Callable prog 220:=.z func220
instance:Callable prog 221:=.z func221
instance:Callable prog 222:=.z func222
instance:Callable prog 223:=.z func223
instance:Callable prog 224:=.z func224
instance:Callable prog 225:=.z func225
instance:Mixed prog:=⟨by kernel_rfl⟩
end
section
open Go Go.RowKit Go.ChangeShapes Go.WideShapes Go.Deep
theorem AcU{cs:List Value}(h:cs.length=2):∃a b,cs=[a,b]:=by
  match cs,h with
  |[a,b],_=>exact⟨a,b,rfl⟩
theorem Acr{cs:List Value}(h:cs.length=3):∃a b c,cs=[a,b,c]:=by
  match cs,h with
  |[a,b,c],_=>exact⟨a,b,c,rfl⟩
theorem Acv{cs:List Value}(h:cs.length=4):∃a b c d,cs=[a,b,c,d]:=by
  match cs,h with
  |[a,b,c,d],_=>exact⟨a,b,c,d,rfl⟩
theorem Nr:prog.cellsOf 3=1:=by kernel_rfl
theorem Yq:prog.cellsOf 9=1:=by kernel_rfl
theorem Rr:prog.cellsOf 22=1:=by kernel_rfl
theorem PU:prog.cellsOf 23=1:=by kernel_rfl
theorem Xv:prog.cellsOf 61=1:=by kernel_rfl
theorem Yr:prog.cellsOf 24=1:=by kernel_rfl
theorem Uj:prog.cellsOf 67=2:=by kernel_rfl
theorem Wy:prog.cellsOf 65=3:=by kernel_rfl
theorem Xw:prog.cellsOf 63=4:=by kernel_rfl
theorem Xx:prog.cellsOf 26=4:=by kernel_rfl
theorem Zi{k:Type}{enc:TypeId×Value->k}{P:Program}{w:World}{t:TypeId}{b:Array Field}{n:Nat}{cs:List Value}{x:DataW k×List MemPlace}(d:P.underlying t=some (.struct b))(h:DataW.trod enc P w 0 (λ_=>true) true n t cs=some x) :
    cs.length=P.cellsOf t/\∃m,∀(j ty off c:Nat),(b[j]?).map (λf=>(f.type,f.offset))=some (ty,off)->P.cellsOf ty=c->∃y,DataW.trod enc P w 0 (λ_=>true) true m ty ((cs.drop off).take c)=some y:=by
  obtain⟨xs,m,_,_,hl,hx,hf⟩:=DataW.trod_struct d h;refine⟨hl,m,λj ty off c hj hc=>?_⟩;obtain⟨e,h1,h2⟩:=F0.1 hj;injection h2 with g i;subst g;subst i;subst hc;have a:j<xs.length:=(by rw[hx];exact(B7.1 h1).1);exact⟨xs[j],(hf j e h1).trans (C9 a)⟩
instance:Reads prog 3 Int:=AbE underlying3
instance:Reads prog 22 (List Int):=Zh underlying22 Nr
instance:Reads prog 67 Fct:=⟨λ{e enc w n cs x} h=>by
  obtain⟨hl,m,hf⟩:=Zi underlying67 h;obtain⟨a,v1,rfl⟩:=AcU (hl.trans Uj);obtain⟨c,g0⟩:=hf 0 3 0 1 rfl Nr;replace g0:DataW.trod enc prog w 0 (λ_=>true) true m 3 [a]=some c:=g0;obtain⟨d,g1⟩:=hf 1 3 1 1 rfl Nr;replace g1:DataW.trod enc prog w 0 (λ_=>true) true m 3 [v1]=some d:=g1;obtain⟨z0,e0,q0⟩:=(inferInstance:Reads prog 3 Int).of g0;obtain rfl:a=.int .i64 z0:=(by simpa using e0);obtain⟨b,e1,q1⟩:=(inferInstance:Reads prog 3 Int).of g1;obtain rfl:v1=.int .i64 b:=(by simpa using e1);exact⟨⟨z0,b⟩,rfl,q0,q1⟩⟩
instance:Reads prog 23 (List Fct):=Zh underlying23 Uj
instance:Reads prog 65 Eff:=⟨λ{g enc w n cs x} h=>by
  obtain⟨hl,m,hf⟩:=Zi underlying65 h;obtain⟨a,v1,v2,rfl⟩:=Acr (hl.trans Wy);obtain⟨d,g0⟩:=hf 0 23 0 1 rfl PU;replace g0:DataW.trod enc prog w 0 (λ_=>true) true m 23 [a]=some d:=g0;obtain⟨e,g1⟩:=hf 1 3 1 1 rfl Nr;replace g1:DataW.trod enc prog w 0 (λ_=>true) true m 3 [v1]=some e:=g1;obtain⟨f,g2⟩:=hf 2 3 2 1 rfl Nr;replace g2:DataW.trod enc prog w 0 (λ_=>true) true m 3 [v2]=some f:=g2;obtain⟨z0,q0⟩:=(inferInstance:Reads prog 23 (List Fct)).of g0;obtain⟨b,e1,q1⟩:=(inferInstance:Reads prog 3 Int).of g1;obtain rfl:v1=.int .i64 b:=(by simpa using e1);obtain⟨c,e2,q2⟩:=(inferInstance:Reads prog 3 Int).of g2;obtain rfl:v2=.int .i64 c:=(by simpa using e2);exact⟨⟨z0,b,c⟩,a,rfl,q0,q1,q2⟩⟩
instance:Reads prog 61 (List Eff):=Zh underlying61 Wy
instance:Reads prog 63 Opr:=⟨λ{j enc w n cs x} h=>by
  obtain⟨hl,m,hf⟩:=Zi underlying63 h;obtain⟨a,v1,v2,v3,rfl⟩:=Acv (hl.trans Xw);obtain⟨c,g0⟩:=hf 0 9 0 1 rfl Yq;replace g0:DataW.trod enc prog w 0 (λ_=>true) true m 9 [a]=some c:=g0;obtain⟨d,g1⟩:=hf 1 3 1 1 rfl Nr;replace g1:DataW.trod enc prog w 0 (λ_=>true) true m 3 [v1]=some d:=g1;obtain⟨e,g2⟩:=hf 2 23 2 1 rfl PU;replace g2:DataW.trod enc prog w 0 (λ_=>true) true m 23 [v2]=some e:=g2;obtain⟨f,g3⟩:=hf 3 61 3 1 rfl Xv;replace g3:DataW.trod enc prog w 0 (λ_=>true) true m 61 [v3]=some f:=g3;obtain⟨z0,e0,_,q0⟩:=DataW.trod_string underlying9 g0;obtain rfl:a=.string z0:=(by simpa using e0);obtain⟨b,e1,q1⟩:=(inferInstance:Reads prog 3 Int).of g1;obtain rfl:v1=.int .i64 b:=(by simpa using e1);obtain⟨g,q2⟩:=(inferInstance:Reads prog 23 (List Fct)).of g2;obtain⟨i,q3⟩:=(inferInstance:Reads prog 61 (List Eff)).of g3;exact⟨⟨z0,b,g,i⟩,v2,v3,rfl,q2,q3,q1,by simpa[maxLen]using q0⟩⟩
instance:Reads prog 24 (List Opr):=Zh underlying24 Xw
instance:Reads prog 26 Tsk:=⟨λ{j enc w n cs x} h=>by
  obtain⟨hl,m,hf⟩:=Zi underlying26 h;obtain⟨a,v1,v2,v3,rfl⟩:=Acv (hl.trans Xx);obtain⟨b,g0⟩:=hf 0 22 0 1 rfl Rr;replace g0:DataW.trod enc prog w 0 (λ_=>true) true m 22 [a]=some b:=g0;obtain⟨c,g1⟩:=hf 1 22 1 1 rfl Rr;replace g1:DataW.trod enc prog w 0 (λ_=>true) true m 22 [v1]=some c:=g1;obtain⟨d,g2⟩:=hf 2 23 2 1 rfl PU;replace g2:DataW.trod enc prog w 0 (λ_=>true) true m 23 [v2]=some d:=g2;obtain⟨e,g3⟩:=hf 3 24 3 1 rfl Yr;replace g3:DataW.trod enc prog w 0 (λ_=>true) true m 24 [v3]=some e:=g3;obtain⟨z0,q0⟩:=(inferInstance:Reads prog 22 (List Int)).of g0;obtain⟨f,q1⟩:=(inferInstance:Reads prog 22 (List Int)).of g1;obtain⟨g,q2⟩:=(inferInstance:Reads prog 23 (List Fct)).of g2;obtain⟨i,q3⟩:=(inferInstance:Reads prog 24 (List Opr)).of g3;exact⟨⟨z0,f,g,i⟩,a,v1,v2,v3,rfl,q0,q1,q2,q3⟩⟩
theorem AbY{e:Type}{enc:TypeId×Value->e}{P:Program}{w:World}{t:TypeId}{α:Type}[Rp α][hr:Reads P t α]{v:Value}{d:DataW e}{p:List MemPlace}(b:Rp.isAgg α=true->∃cs,v=.agg cs)(c:Rp.isAgg α=false->v.cells.toList=[v])
    (h:DataW.Trod enc P w 0 (λ_=>true) true t v d p):∃a:α,V w v a:=by
  obtain⟨n,h⟩:=h;obtain⟨a,ha⟩:=hr.of h;refine⟨a,?_⟩;unfold V Vb;cases hb:Rp.isAgg α with
  |true =>
    obtain⟨cs,rfl⟩:=b hb;exact⟨cs.toList,by simp,ha⟩
  |false =>
    rw[c hb]at ha;exact ha
end
section
open Go Go.RowKit Go.ChangeShapes Go.WideShapes Go.Deep
theorem AbK{P:Program}{w:World}{t:TypeId}[a:TOne P t]{base:Nat}{v:Value}(hv:Value.okWide P w .any base t v):v.cells.toList=[v]:=by
  obtain⟨k,hk,hm⟩:=a.eq;cases v with
  |agg cs=>cases k<;>first|(simp at hm;done)|(simp only[Value.okWide,hk,Cell.okWide]at hv;simp_all [Cell.ok];done)
  |_=>rfl
theorem AbF{P:Program}{w:World}{t:TypeId}[a:TAgg P t]{base:Nat}{v:Value}(hv:Value.okWide P w .any base t v):∃cs,v=.agg cs:=by
  obtain⟨k,hk,hm⟩:=a.eq;cases k<;>first|(simp at hm;done)|(simp only[Value.okWide,hk]at hv;obtain⟨cs,rfl,_⟩:=hv;exact⟨cs,rfl⟩)
theorem openOne{b:Type}{enc:TypeId×Value->b}{P:Program}{w:World}{t:TypeId}{α:Type}[Rp α][Reads P t α][TOne P t]{base:Nat}{v:Value}{d:DataW b}{p:List MemPlace}(hb:Rp.isAgg α=false)(hv:Value.okWide P w .any base t v)
    (h:DataW.Trod enc P w 0 (λ_=>true) true t v d p):∃a:α,V w v a :=
  AbY (fun h=>by rw[hb]at h; cases h) (fun _=>AbK hv) h
theorem openAgg{b:Type}{enc:TypeId×Value->b}{P:Program}{w:World}{t:TypeId}{α:Type}[Rp α][Reads P t α][TAgg P t]{base:Nat}{v:Value}{d:DataW b}{p:List MemPlace}(hb:Rp.isAgg α=true)(hv:Value.okWide P w .any base t v)
    (h:DataW.Trod enc P w 0 (λ_=>true) true t v d p):∃a:α,V w v a :=
  AbY (fun _=>AbF hv) (fun h=>by rw[hb]at h; cases h) h
theorem Ab7:ownKnob prog.godebug=none:=by kernel_rfl
theorem Ab0:Kids prog (· < prog.types.size):=kids_rows (by kernel_rfl) (by kernel_rfl)
theorem AbZ:∀t e,t<prog.types.size->prog.underlying t=some (.slice e)->0<prog.cellsOf e:=slices_full_of prog (by kernel_rfl)
theorem AaT{q:Type}{enc:TypeId×Value->q}{r W':World}(i:Ext r W'){j:Nat->Bool}:∀{f:List TypeId}{vs:List Value}{k:List (DataW q)}{ps:List MemPlace},(∀t∈f,t<prog.types.size) ->
    DataW.TrodAll enc prog r 0 (λ_=>true) true f vs k ps->(∀p∈ps,j p.block=true)->DataW.TrodAll enc prog W' 0 j true f vs k ps
  |[],_,_,_,_,h,_=>by
    obtain⟨rfl,rfl,rfl⟩:=trodAll_nil h;exact rfl
  |t  :: f,_,_,_,l,h,hs=>by
    obtain⟨v,vs1,d,ds1,a,b,rfl,rfl,rfl,⟨n,m⟩,h2⟩:=trodAll_cons h;refine⟨a,b,⟨n,DataW.trod_stays Ab0 (λ{t e}=>AbZ t e) (λh=>by cases h) (l t L0) m (λp c=>i.same (DataW.trod_lt n _ _ _ m p c)) (λp c=>hs p (H0 _ c))⟩,
      AaT i (λo g=>l o (H1 _ g)) h2 (λp c=>hs p (List.mem_append_right _ c)),rfl⟩
set_option maxRecDepth 100000 in
theorem Ab3{J:Type}{enc:TypeId×Value->J}{f:FuncId}{c:Func}{s:ChangeSpec}{l:Bool}{K:World}{args:Array Value}{i E:List (DataW J)}{g:List MemPlace}
    (a:s.vars=[]) (o:c.resultTypes=#[4]) (A:∀t∈c.params.toList,t<prog.types.size) (D:DataW.Whole enc prog c.params.toList s.vars false K args.toList i E g)
    (hs:∀p,DataW.TrodAll enc prog K 0 (λ_=>true) true c.params.toList args.toList i p->s.fn J (i++[])={ results:=[.lit (.bool true)],args:=i })
    (hc:∀p,DataW.TrodAll enc prog K 0 (λ_=>true) true c.params.toList args.toList i p->Fn prog f args.toList K λv w'=>v=.bool true/\Ext K w') :
    Calls prog f args K λe W'=>∃v,e=.returned v/\s.post enc prog c false true false l K args v W':=by
  have u:=D;obtain⟨p,q,hA,hV,rfl,hfz,hnd⟩:=D;rw[a]at hV;obtain⟨rfl,rfl⟩:=trodVars_none hV;have B:=hc p hA K.drawn;rw[Jr]at B;refine B.mono λe W' ⟨v,w₀,d',he,hw,hv,hE⟩=>?_;subst he;subst hv;refine⟨_,rfl,?_⟩;have m:Ext K W':=by
    subst hw;exact⟨hE.os,hE.tape,hE.output,hE.size,hE.block⟩
  clear hE B hw;have n:=hs p hA;have hlt:=u.lt;have w:∀q∈p++[],(λb=>decide (b<K.heap.size)) q.block=true:=λq x=>(by simpa using hlt q x);have d:∀y:Nat->Bool,(∀q∈p,y q.block=true)->DataW.TrodAll enc prog W' 0 y true c.params.toList args.toList i p:=λy h=>AaT m A hA h;have k:∀(b:Nat)(y:Nat->Bool)(hd:Bool),DataW.TrodAll enc prog W' b y hd c.resultTypes.toList ((Value.bool true).resultList c.resultTypes.size) [.lit (.bool true)] []:=λ_ _ _=>by
    rw[o];exact trodAll_mk1 (shut_bool underlying4 _)
  have hk:K.keptBut W' (λq=>q∈p++[]/\(q∈([]:List MemPlace)\/q∈p\/q∈([]:List MemPlace))):=Below.frame m _;have C:∀(j:Nat)(t:TypeId)(r:Value),c.resultTypes[j]?=some t->((Value.bool true).resultList c.resultTypes.size)[j]?=some r->Value.okWide prog W' .any 0 t r:=by
    have F:Value.okWide prog W' .any 0 4 (.bool true):=okWide_bool_mk underlying4 true;have G:(Value.bool true).resultList 1=[Value.bool true]:=(by unfold Value.resultList;rfl);exact ok_one (P:=prog) (W':=W') (f:=c) (v:=.bool true) (t:=4) o G F
  refine⟨i,[],p++[],[],p,[],u,?_,?_,?_,hk,λ_=>⟨C,[.lit (.bool true)]++i,[],([]++p)++[],⟨[]++p,[],?_,?_,rfl,?_,?_⟩,?_⟩⟩
  . rw[n];exact k _ _ _
  . rw[n];exact d _ (λq x=>w q (by simpa using x))
  . rw[n,a];rfl
  . exact trodAll_append (d _ (λ_ _=>rfl)) (k _ _ _)
  . rw[a];rfl
  . intro b off H;have z:MemPlace.cell b off∈p++[]:=(by simpa using H);rw[m.frozen (p:=⟨b,off,none⟩) (hlt _ z)];exact hfz b off z
  . intro I;cases I
  . intro q x _;simpa using x
end
section
open Go Go.RowKit
abbrev Lab:=Nat->Nat
theorem Bi{a b:Nat}  (h:Nat.ble a b=true:=by exact rfl):a<=b:=F8 h
theorem allOne{l:List Value}  (h:l.all (·.oneCell')=true:=by exact rfl):∀u∈l,u.oneCell'=true:=P7.1 h
structure St(T:Nat->Prop)(w:World)(O:Lab)(w':World)(O':Lab):Prop where
  os:w'.os=w.os
  tape:w'.tape=w.tape
  output:w'.output=w.output
  size:w.heap.size<=w'.heap.size
  same:∀k,k<w.heap.size->¬T (O k)->w'.heap[k]?=w.heap[k]?/\O' k=O k
theorem St.refl(T:Nat->Prop)(w:World)(O:Lab):St T w O w O:=⟨rfl,rfl,rfl,W3 _,λ_ _ _=>⟨rfl,rfl⟩⟩
theorem St.comp{T c:Nat->Prop}{w w' a:World}{O O' b:Lab}(h:St T w O w' O')(k:St c w' O' a b)(f:∀i,c i->T i):St T w O a b :=
  ⟨k.os.trans h.os,k.tape.trans h.tape,k.output.trans h.output,V6 h.size k.size,λj hj d=>by
    obtain⟨g,h2⟩:=h.same j hj d;obtain⟨l,k2⟩:=k.same j (K5 hj h.size) (by rw[h2];exact λe=>d (f _ e));exact⟨l.trans g,k2.trans h2⟩⟩
theorem St.an{T c:Nat->Prop}{w w' a:World}{O O' b:Lab}(h:St T w O w' O')(k:St c w' O' a b):St (λj=>T j\/c j) w O a b :=
  ⟨k.os.trans h.os,k.tape.trans h.tape,k.output.trans h.output,V6 h.size k.size,λj hj d=>by
    obtain⟨f,h2⟩:=h.same j hj λe=>d (.inl e);obtain⟨g,k2⟩:=k.same j (K5 hj h.size) (by rw[h2];exact λe=>d (.inr e));exact⟨g.trans f,k2.trans h2⟩⟩
abbrev nT:Nat->Prop:=λ_=>False
abbrev eT(i:Nat):Nat->Prop:=λk=>k=i
def Fr(i:Nat)(w:World)(O:Lab):Nat->Prop:=λk=>k<w.heap.size/\O k=i
theorem Fr.lt{i:Nat}{w:World}{O:Lab}:∀k,Fr i w O k->k<w.heap.size:=λ_ h=>h.1
def upA(A:Nat->Prop)(w w':World):Nat->Prop:=λk=>A k\/w.heap.size<=k/\k<w'.heap.size
theorem Jd{w:World}{b o:Nat}{cs:List Value}(off n:Nat)(h:cellsAt w b o cs):cellsAt w b (o+off) ((cs.drop off).take n):=Hv λj v hv=>by
  rw[K7]at hv;split at hv
  . rw[K6]at hv;have:=DG h _ _ hv;rwa[Nat.add_assoc]
  . cases hv
section
variable {α:Type}[Rp α]{T:Nat → Prop}{i:Nat}{w w':World}{O O':Lab}{v:Value}{x:α}{xs:List α}{e:TypeId}
theorem St.fr(a:St T w O w' O')(hi:¬T i):∀k,Fr i w O k->Fr i w' O' k:=λk hk=>by
  have h:=a.same k hk.1 (by rw[hk.2];exact hi);exact⟨K5 hk.1 a.size,h.2.trans hk.2⟩
theorem St.agree(a:St T w O w' O')(hi:¬T i):Agree (Fr i w O) w w':=λk hk=>(a.same k hk.1 (by rw[hk.2];exact hi)).1
theorem Vb.st(h:Vb w (Fr i w O) v x)(a:St T w O w' O')(hi:¬T i:=by decide):Vb w' (Fr i w' O') v x:=(h.agree (a.agree hi)).mono (a.fr hi)
def Rw(i:Nat)(w:World)(O:Lab)(e:TypeId)(v:Value)(xs:List α):Prop:=Own w 0 (Fr 0 w O) e v xs/\(∀g,v.ownBlock=some g->O g=i)/\i≠0
theorem Rw.st(h:Rw i w O e v xs)(b:St T w O w' O')(c:¬T 0:=by decide)(hi:¬T i:=by decide):Rw i w' O' e v xs:=by
  obtain⟨d,h2,h3⟩:=h;have hl:∀g,v.ownBlock=some g->w'.heap[g]?=w.heap[g]?/\O' g=i:=λg a=>by
    have:=b.same g (d.lt g a).2 (by rw[h2 g a];exact hi);exact⟨this.1,this.2.trans (h2 g a)⟩
  exact⟨(d.agree (b.agree c) λg a=>(hl g a).1).mono (b.fr c) λg a hk=>h3 ((hl g a).2.symm.trans hk.2),λg a=>(hl g a).2,h3⟩
theorem Rw.nil(i:Nat)(hi:i≠0):Rw (α:=α) i w O e (.slice none 0 0) []:=⟨Own.nil _ _ _ _,λg h=>by simp[Value.ownBlock]at h,hi⟩
theorem Own.chunk{base:Nat}{F:Nat->Prop}(h:Own w base F e v xs):∃A c cells,v=.slice A xs.length c/\xs.length<=c/\c<=9223372036854775807/\Chunks w F cells xs/\(0<xs.length->∃b o,A=some ⟨b,o,none⟩/\cellsAt w b o cells):=by
  obtain⟨cells,a,h2,h3⟩:=h;rcases a.2 with⟨rfl,hn⟩|⟨g,cap,cur,rfl,hg,hh,hnc,hcm,hcs,hcur⟩
  . have:xs=[]:=B1 hn;subst this;exact⟨none,0,[],rfl,W3 _,by omega,rfl,λh=>by simp at h⟩
  . refine⟨_,cap,cells,rfl,hnc,by simpa[maxLen]using hcm,h2,λd=>⟨g,0,rfl,Hv λj u hu=>?_⟩⟩;have hj:j<xs.length*Rp.size α:=(by rw[<- h2.length];exact(C1.1 hu).1);have:cur[j]?=some u:=by
      rw[<- hcur,K7,if_pos hj]at hu;simpa using hu
    simp[World.cell?,hh,this]
def Rd(w:World)(F:Nat->Prop)(v:Value)(xs:List α):Prop :=
  ∃A c cells,v=.slice A xs.length c/\xs.length<=c/\c<=9223372036854775807/\Chunks w F cells xs/\(0<xs.length->∃b o,A=some ⟨b,o,none⟩/\cellsAt w b o cells)
theorem Rw.rd(h:Rw i w O e v xs):Rd w (Fr 0 w O) v xs:=h.1.chunk
theorem Vb.rd{F:Nat->Prop}(h:Vb w F v xs):Rd w F v xs:=by
  obtain⟨A,c,cells,h1,h2,h3,h4,h5⟩:=h.slice;exact⟨A,c,cells,h1,h2,h3,h4,λa=>by obtain⟨b,o,h6,_,h7⟩:=h5 a;exact⟨b,o,h6,h7⟩⟩
theorem Rw.form(h:Rw i w O e v xs):∃A c,v=.slice A xs.length c:=by
  obtain⟨A,c,_,h1,_⟩:=h.rd;exact⟨A,c,h1⟩
theorem Rw.len{A:Option Addr}{m c:Nat}(h:Rw i w O e (.slice A m c) xs):m=xs.length/\m<=c/\c<=9223372036854775807:=by
  obtain⟨d,c',_,h1,h2,h3,_⟩:=h.rd;injection h1 with f a b;subst a;subst b;exact⟨rfl,h2,h3⟩
theorem Rw.relen{A:Option Addr}{m c:Nat}(h:Rw i w O e (.slice A m c) xs):Rw i w O e (.slice A xs.length c) xs:=by
  have:=h.len.1;subst this;exact h
theorem Rw.elem{A:Option Addr}{m c:Nat}(h:Rw i w O e (.slice A m c) xs){k:Nat}{x:α}(d:xs[k]?=some x) :
    ∃b o cs,A=some ⟨b,o,none⟩/\k<m/\cellsAt w b (o+k*Rp.size α) cs/\Rp.R w (Fr 0 w O) cs x:=by
  obtain⟨n,c',cells,he,h1,h2,h3,h4⟩:=h.rd;injection he with f g j;subst f;subst g;subst j;have hk:k<xs.length:=(C1.1 d).1;obtain⟨b,o,h5,h7⟩:=h4 (by omega);obtain⟨l,cs,post,h8,h9,h10⟩:=h3.get d;rw[h8]at h7;have a:=(CK.1 (CK.1 h7).2).1;rw[h9]at a;exact⟨b,o,cs,h5,hk,a,h10⟩
theorem Rw.elemF{A:Option Addr}{m c:Nat}(h:Rw i w O e (.slice A m c) xs){k:Nat}{x:α}(f:xs[k]?=some x) :
    ∃b o cs,A=some ⟨b,o,none⟩/\Fr i w O b/\k<m/\cellsAt w b (o+k*Rp.size α) cs/\Rp.R w (Fr 0 w O) cs x:=by
  obtain⟨b,o,cs,h1,h2,h3,h4⟩:=h.elem f;refine⟨b,o,cs,h1,?_,h2,h3,h4⟩;subst h1;obtain⟨g,cap,cells,sp,hv,_⟩:=h.1.open (by have:=(C1.1 f).1;omega);injection hv with a;injection a with a;injection a with a d;subst d;exact⟨(h.1.lt b rfl).2,h.2.1 b rfl⟩
theorem Vb.elem'{F:Nat->Prop}{A:Option Addr}{m c:Nat}(h:Vb w F (.slice A m c) xs){k:Nat}{x:α}(a:xs[k]?=some x) :
    ∃b o cs,A=some ⟨b,o,none⟩/\k<m/\cellsAt w b (o+k*Rp.size α) cs/\Rp.R w F cs x:=by
  obtain⟨b,o,cs,h1,_,h3,h4,h5⟩:=h.elem a;exact⟨b,o,cs,h1,h3,h4,h5⟩
theorem vMo{α:Type}[Rp α]{w:World}{O:Lab}{v:Value}{x:α}(h:Vb w (Fr 0 w O) v x):Vb w (All w) v x:=h.mono Fr.lt
theorem X9(n:Int)(h:X2 n:=by decide):X2 n:=h
theorem Rw.all(h:Rw i w O e v xs):Vb w (All w) v xs:=h.1.vb.mono λk hk=>by
  rcases hk with hk|hk
  . exact hk.1
  . exact(h.1.lt k hk).2
def Lc(i:Nat)(w:World)(O:Lab)(g:Nat)(t:TypeId)(cs:List Value):Prop:=Blk w g t cs/\O g=i
theorem Lc.st{g:Nat}{t:TypeId}{cs:List Value}(h:Lc i w O g t cs)(a:St T w O w' O')(hi:¬T i:=by decide):Lc i w' O' g t cs:=by
  have:=a.same g h.1.lt (by rw[h.2];exact hi);exact⟨h.1.keep this.1,this.2.trans h.2⟩
structure Bs(w0:World)(A:Nat->Prop)(w:World)(O:Lab):Prop where
  ext:Ext w0 w
  lab:∀k,k<w0.heap.size->A k/\O k=0\/¬A k/\O k=1
theorem Bs.st{b:World}{A:Nat->Prop}(h:Bs b A w O)(a:St T w O w' O')(c:¬T 0:=by decide)(d:¬T 1:=by decide):Bs b A w' O':=by
  have hk:∀k,k<b.heap.size->w'.heap[k]?=w.heap[k]?/\O' k=O k:=λk hk =>
    a.same k (K5 hk h.ext.size) (by rcases h.lab k hk with⟨_,e⟩|⟨_,e⟩<;>rw[e]<;>assumption)
  exact⟨⟨a.os.trans h.ext.os,a.tape.trans h.ext.tape,a.output.trans h.ext.output,V6 h.ext.size a.size,λk hlt=>(hk k hlt).1.trans (h.ext.block k hlt)⟩,
    λk hlt=>by rw[(hk k hlt).2];exact h.lab k hlt⟩
theorem enter{A:Nat->Prop}(hA:∀k,A k->k<w.heap.size):∃O,Bs w A w O/\∀k,A k->Fr 0 w O k :=
  ⟨λk=>@ite _ (A k) (Classical.propDecidable _) 0 1,⟨W8 _ _,λk hk=>by
    by_cases h:A k
    . exact .inl ⟨h,if_pos h⟩
    . exact .inr ⟨h,if_neg h⟩⟩,λk hk=>⟨hA k hk,if_pos hk⟩⟩
theorem Vb.zs{A:Nat->Prop}(h:Vb w A v x)(hA:∀k,A k->k<w.heap.size)(a:Bs w A w' O'):Vb w' (Fr 0 w' O') v x :=
  (h.agree λk hk=>a.ext.block k (hA k hk)).mono λk hk=>⟨K5 (hA k hk) a.ext.size,by
    rcases a.lab k (hA k hk)with⟨_,e⟩|⟨e,_⟩
    . exact e
    . exact absurd hk e⟩
theorem Bs.out{a:World}{A:Nat->Prop}(h:Bs a A w O):∀k,Fr 0 w O k->upA A a w k:=λk hk=>by
  rcases U8 k a.heap.size with hlt|hge
  . rcases h.lab k hlt with⟨b,_⟩|⟨_,e⟩
    . exact .inl b
    . have:=hk.2;omega
  . exact .inr ⟨hge,hk.1⟩
def RowR(a w:World)(F:Nat->Prop)(e:TypeId)(v:Value)(xs:List α):Prop:=∃G:Nat->Prop,(∀k,G k->F k/\k<w.heap.size)/\Own w a.heap.size G e v xs
theorem Own.raise{base a:Nat}{F:Nat->Prop}(h:Own w base F e v xs)(hb:∀g,v.ownBlock=some g->a<=g):Own w a F e v xs:=by
  obtain⟨cells,b,h2,h3⟩:=h;refine⟨cells,⟨b.1,?_⟩,h2,h3⟩;rcases b.2 with h|⟨g,cap,cur,rfl,hg,r⟩
  . exact .inl h
  . exact .inr ⟨g,cap,cur,rfl,hb g rfl,r⟩
theorem Rw.out{a:World}{A:Nat->Prop}(h:Rw i w O e v xs)(b:Bs a A w O)(hi:i≠1):RowR a w (upA A a w) e v xs :=
  ⟨Fr 0 w O,λk hk=>⟨b.out k hk,hk.1⟩,h.1.raise λg c=>by
    rcases U8 g a.heap.size with hlt|hge
    . have:=h.2.1 g c;have:=h.2.2;rcases b.lab g hlt with⟨_,e⟩|⟨_,e⟩<;>omega
    . exact hge⟩
theorem RowR.nil{a:World}{F:Nat->Prop}:RowR (α:=α) a w F e (.slice none 0 0) []:=⟨λ_=>False,λ_ h=>h.elim,Own.nil _ _ _ _⟩
theorem Rw.freeze(h:Rw i w O e v xs):∃O',St (eT i) w O w O'/\Vb w (Fr 0 w O') v xs:=by
  refine⟨λk=>if O k=i then 0 else O k,⟨rfl,rfl,rfl,W3 _,λk _ hk=>⟨rfl,if_neg hk⟩⟩,h.1.vb.mono λk hk=>?_⟩;rcases hk with hk|hk
  . exact⟨hk.1,by simp[hk.2]⟩
  . exact⟨(h.1.lt k hk).2,if_pos (h.2.1 k hk)⟩
def Vall(w:World)(F:Nat->Prop):List Value->List α->Prop
  |[],[]=>True
  |v::vs,x::xs=>Vb w F v x/\Vall w F vs xs
  |_,_=>False
theorem Vall.chunks{F:Nat->Prop}:∀{vs:List Value}{xs:List α},Vall w F vs xs->vs.length=xs.length/\Chunks w F (vs.flatMap λv=>v.cells.toList) xs/\∀v∈vs,v.cells.toList.length=Rp.size α
  |[],[],_=>⟨rfl,rfl,λ_ h=>by cases h⟩
  |[],_::_,h=>h.elim
  |_::_,[],h=>h.elim
  |v::vs,x::xs,h=>by
    obtain⟨a,h2,h3⟩:=Vall.chunks h.2;refine⟨by simp[a],⟨v.cells.toList,_,by simp,h.1.cells,h2⟩,λu hu=>?_⟩;rcases T8.1 hu with rfl|hu
    . exact Rp.len h.1.cells
    . exact h3 u hu
theorem Vb.int{F:Nat->Prop}{n:Int}(h:Vb w F v n):v=.int .i64 n/\X2 n:=by
  obtain⟨a,h2⟩:=h;exact⟨by simpa using a,h2⟩
theorem Vb.bool{F:Nat->Prop}{b:Bool}(h:Vb w F v b):v=.bool b:=by
  have:[v]=[.bool b]:=h;simpa using this
theorem Vb.str{F:Nat->Prop}{s:ByteArray}(h:Vb w F v s):v=.string s/\s.size<=9223372036854775807:=by
  obtain⟨a,h2⟩:=h;exact⟨by simpa using a,h2⟩
theorem Vb.ofAgg{F:Nat->Prop}{cs:List Value}(hb:Rp.isAgg α=true)(h:Rp.R w F cs x):Vb w F (.agg cs.toArray) x:=by
  unfold Vb;rw[hb];exact⟨cs,rfl,h⟩
theorem vInt{F:Nat->Prop}{n:Int}(h:X2 n):Vb w F (.int .i64 n) n:=⟨rfl,h⟩
theorem vBool{F:Nat->Prop}{b:Bool}:Vb w F (.bool b) b:=rfl
theorem vStr{F:Nat->Prop}{s:ByteArray}(h:s.size<=9223372036854775807):Vb w F (.string s) s:=⟨rfl,h⟩
end
def T2{α β:Type}[Rp α][Rp β](w:World)(F:Nat->Prop)(v:Value)(r:α×β):Prop:=∃a b,v=.tuple #[a,b]/\Vb w F a r.1/\Vb w F b r.2
def T3{α β d:Type}[Rp α][Rp β][Rp d](w:World)(F:Nat->Prop)(v:Value)(r:α×β×d):Prop:=∃a b c,v=.tuple #[a,b,c]/\Vb w F a r.1/\Vb w F b r.2.1/\Vb w F c r.2.2
def upO(O:Lab)(n:Nat)(f:Lab):Lab:=λk=>if k<n then O k else f k
theorem Own.rw{α:Type}[Rp α]{i base:Nat}{w:World}{F:Nat->Prop}{O:Lab}{e:TypeId}{v:Value}{xs:List α}(h:Own w base F e v xs)(b:∀k,F k->Fr 0 w O k)(a:∀g,v.ownBlock=some g->O g=i)(hi:i≠0):Rw i w O e v xs :=
  ⟨(h.lower (W6 _)).mono b λg hv hf=>hi ((a g hv).symm.trans hf.2),a,hi⟩
theorem Hi{O:Lab}{n k:Nat}{f:Lab}(h:n<=k):upO O n f k=f k:=if_neg (by omega)
theorem Fm{O:Lab}{n k:Nat}{f:Lab}(h:k<n):upO O n f k=O k:=if_pos h
theorem Xy{w w':World}{O:Lab}(a:Ext w w'):upA (Fr 0 w O) w w'=Fr 0 w' (upO O w.heap.size λ_=>0):=by
  funext k;apply propext;constructor
  . rintro(h|h)
    . exact⟨K5 h.1 a.size,(Fm h.1).trans h.2⟩
    . exact⟨h.2,Hi h.1⟩
  . intro h;rcases U8 k w.heap.size with hlt|hge
    . exact .inl ⟨hlt,(Fm hlt).symm.trans h.2⟩
    . exact .inr ⟨hge,h.1⟩
theorem AcF(z:Value)(n:Nat)(hz:z.cells=#[z]):(madeCells z.cells (n*1)).toList=List.replicate n z:=by
  rw[hz,W7];apply List.ext_getElem
  . simp[madeCells]
  . intro i a b;simp[madeCells,Nat.mod_one]
theorem Ext.st{w w':World}(h:Ext w w')(O f:Lab):St nT w O w' (upO O w.heap.size f) :=
  ⟨h.os,h.tape,h.output,h.size,λk hk _=>⟨h.block k hk,Fm hk⟩⟩
theorem New.lc{w w':World}{t:TypeId}{cs:List Value}(h:New w w' t cs)(O:Lab)(i:Nat):St nT w O w' (upO O w.heap.size λ_=>i)/\Lc i w' (upO O w.heap.size λ_=>i) w.heap.size t cs :=
  ⟨h.ext.st O _,h.blk,Hi (W3 _)⟩
theorem Upd.st{w w':World}{g i:Nat}{t:TypeId}{cs:List Value}{O:Lab}(h:Upd w w' g t cs)(a:O g=i):St (eT i) w O w' O :=
  ⟨h.os,h.tape,h.output,V4 h.size.symm,λk _ hk=>⟨h.other k λe=>hk (by rw[e];exact a),rfl⟩⟩
section
variable {P:Program}{n:Nat}{ops:Array Oper}{Q:YX}{rest:List Oper}{l:Env}{w:World}{d d1 d2:Tmp}{ty ty2:TypeId}{pos pos2:String}{aft aft2:Array Edge}
theorem BF(i:Nat)(O:Lab){t:TypeId}{z:Value}{size bytes:Nat}[TInfo P t z size bytes]
    (h:∀g w' O',St nT w O w' O'->Lc i w' O' g t z.cells.toList->owp P n ops Q rest ((d,.pointer (some ⟨g,0,none⟩))::l) w') (hd:Nat.blt d n=true:=by exact rfl):owp P n ops Q (⟨some d,.alloc t,ty,pos,aft,none⟩::rest) l w :=
  GO hd λw' a=>h _ w' _ (a.lc O i).1 (a.lc O i).2
theorem EB(i:Nat)(O:Lab){t:TypeId}{x:Operand}{v:Value}(b:opv l x=some v)
    (h:∀g w' O',St nT w O w' O'->Lc i w' O' g t v.cells.toList->owp P n ops Q rest ((d,.pointer (some ⟨g,0,none⟩))::l) w') (hd:Nat.blt d n=true:=by exact rfl):owp P n ops Q (⟨some d,.box t x,ty,pos,aft,none⟩::rest) l w :=
  Gw b (hd:=hd) λw' a=>h _ w' _ (a.lc O i).1 (a.lc O i).2
theorem AO{i:Nat}{O:Lab}{t:TypeId}{z:Value}{size bytes:Nat}[TInfo P t z size bytes]{x y:Operand}{g o:Nat}{c:TypeId}{v:Value}{cs:List Value}(a:Lc i w O g c cs)(e:opv l x=some (.pointer (some ⟨g,o,none⟩)))(f:opv l y=some v)
    (b:v.cells.toList.length=size) (hl:o+size<=cs.length) (j:∀u∈v.cells.toList,u.oneCell'=true)
    (h:∀w',St (eT i) w O w' O->Lc i w' O g c (X8 cs o v.cells.toList)->owp P n ops Q rest l w'):owp P n ops Q (⟨none,.store t x y,ty,pos,aft,none⟩::rest) l w :=
  Do e f a.1 b hl j λw' d=>h w' (d.st a.2) ⟨d.blk,a.2⟩
theorem CC{α:Type}[Rp α](i:Nat)  (O:Lab) {t e:TypeId} [TSlice P t e] {z:Value} {size bytes a:Nat} [TInfo P e z size bytes] {ps:List (Nat×Operand)} {vs:List Value} {xs:List α} (b:size=Rp.size α)  (j:Y3 l (ps.map (·.2))=some vs) (c:a=xs.length)
    (hv:Vall w (Fr 0 w O) vs xs)
    (h:∀g w' O',St nT w O w' O'->Rw i w' O' e (.slice (some ⟨g,0,none⟩) xs.length a) xs->owp P n ops Q rest ((d,.slice (some ⟨g,0,none⟩) xs.length a)::l) w') (hi:i≠0:=by decide) (hk:Aar 0 ps=true:=by exact rfl) (hz:a*size<=16777216:=by decide) (hm:a<=9223372036854775807:=by decide) (hd:Nat.blt d n=true:=by exact rfl):owp P n ops Q (⟨some d,.buildSlice t a ps.toArray,ty,pos,aft,none⟩::rest) l w:=by
  subst b;subst c;obtain⟨k,h2,h3⟩:=hv.chunks;refine HS hk j k h3 (hz:=hz) hd λw' f=>h _ w' _ (f.ext.st O λ_=>i) ?_;have m:=f.ext.st O λ_=>i;have o:Own w' w.heap.size (Fr 0 w O) e (.slice (some ⟨w.heap.size,0,none⟩) xs.length xs.length) xs:=Own.made f (h2.agree (f.ext.agree Fr.lt)) rfl (λh=>T9 _ h.1) hm;exact o.rw (m.fr (λh=>h)) (λg p=>by
    have:w.heap.size=g:=(by simpa[Value.ownBlock]using p);subst this;exact Hi (W3 _)) hi
theorem LG{α:Type}[Rp α](i:Nat)  (O:Lab) {t e:TypeId} [TSlice P t e] {z:Value} {size bytes:Nat} [TInfo P e z size bytes] {x y:Operand} {k q:IntKind} {m:Nat} {a:Int} {z0:α} (b:size=Rp.size α) (r:Rp.size α=1) (hz1:z.cells=#[z]) (s:opv l x=some (.int k a)) (u:opv l y=some (.int q a)) (v:a=(m:Int))
    (hz0:Vb w (Fr 0 w O) z z0) (hm:bytes*m<=281474976710656) (c:m<=9223372036854775807) (hd:Nat.blt d n=true)
    (h:∀g w' O',St nT w O w' O'->Rw i w' O' e (.slice (some ⟨g,0,none⟩) (List.replicate m z0).length m) (List.replicate m z0)->owp P n ops Q rest ((d,.slice (some ⟨g,0,none⟩) (List.replicate m z0).length m)::l) w') (hi:i≠0:=by decide):owp P n ops Q (⟨some d,.makeSlice t x y,ty,pos,aft,none⟩::rest) l w:=by
  subst b;subst v;refine Rk s u hm c hd λw' f=>?_;have p:=f.ext.st O λ_=>i;have hc:(madeCells z.cells (m*Rp.size α)).toList=List.replicate m z:=(by rw[r];exact AcF z m hz1);rw[hc]at f;have A:Rp.R w (Fr 0 w O) [z] z0:=by
    have:=hz0.cells;rwa[hz1]at this
  have o:∀j,Chunks w (Fr 0 w O) (List.replicate j z) (List.replicate j z0):=λj=>by
    induction j with
    |zero=>rfl
    |succ j B=>exact⟨[z],List.replicate j z,rfl,A,B⟩
  have C:Own w' w.heap.size (Fr 0 w O) e (.slice (some ⟨w.heap.size,0,none⟩) m m) (List.replicate m z0):=Own.made f ((o m).agree (f.ext.agree Fr.lt)) (by simp) (λh=>T9 _ h.1) c;have:=h _ w' _ p (by
    rw[F9];exact C.rw (p.fr (λh=>h)) (λg D=>by
      have:w.heap.size=g:=(by simpa[Value.ownBlock]using D);subst this;exact Hi (W3 _)) hi)
  rwa[F9]at this
theorem CD{α:Type}[Rp α]{i:Nat}{O:Lab}{t e:TypeId}[TSlice P t e]{z:Value}{size bytes:Nat}[TInfo P e z size bytes](b:size=Rp.size α){x y:Operand}{v u:Value}{xs ys:List α}(j:Rw i w O e v xs)(hu:Rd w (Fr 0 w O) u ys)(p:opv l x=some v)(q:opv l y=some u)
     (hb:(xs.length+ys.length)*bytes<=140737488355328) (m:xs.length+ys.length<=9223372036854775807)
    (h:∀A c w' O',St (eT i) w O w' O'->Rw i w' O' e (.slice A (xs++ys).length c) (xs++ys)->owp P n ops Q rest ((d,.slice A (xs++ys).length c)::l) w') (hz0:0<size:=by decide) (hd:Nat.blt d n=true:=by exact rfl) :
    owp P n ops Q (⟨some d,.call { callee:=.builtin .append,args:=#[x,y],argTypes:=#[t,t] },ty,pos,aft,none⟩::rest) l w:=by
  subst b;obtain⟨A,c,cells,rfl,h1,h2,h3,h4⟩:=hu;refine Ma p q j.1 Fr.lt (W6 _) h3 h4 hz0 hb m hd λC w' o f hat=>?_;have r:St (eT i) w O w' (upO O w.heap.size λ_=>i):=⟨f.os,f.tape,f.output,f.size,λk hk s=>⟨f.block k hk λhe=>s (j.2.1 k he.symm),Fm hk⟩⟩;obtain⟨B,c',_,rfl,_⟩:=o.chunk;refine h B c' w' _ r (o.rw (λk hk=>⟨K5 hk.1 f.size,(Fm hk.1).trans hk.2⟩) (λg a=>?_) j.2.2);rcases hat with hat|hat
  . exact(Fm (j.1.lt g (hat▸a)).2).trans (j.2.1 g (hat▸a))
  . rw[hat]at a;injection a with a;subst a;exact Hi (W3 _)
theorem EC{α:Type}[Rp α]{i:Nat}{O:Lab}{t e:TypeId}[TSlice P t e]{z:Value}{size bytes:Nat}[TInfo P e z size bytes](f:size=Rp.size α){x y:Operand}{v u:Value}{xs:List α}{a:α}(o:Rw i w O e v xs)(hu:Vb w (Fr 0 w O) u a)
    (p:∀g,opv ((d1,.slice (some ⟨g,0,none⟩) 1 1)::l) x=some v) (q:opv l y=some u)
      (hb:(xs.length+[a].length)*bytes<=140737488355328) (j:xs.length+[a].length<=9223372036854775807) (hd:Nat.blt d1 n=true/\Nat.blt d2 n=true)
    (h:∀g A c w' O',St (eT i) w O w' O'->Rw i w' O' e (.slice A (xs++[a]).length c) (xs++[a])->owp P n ops Q rest ((d2,.slice A (xs++[a]).length c)::(d1,.slice (some ⟨g,0,none⟩) 1 1)::l) w') (hz0:0<size:=by decide) (hz1:size<=1000:=by decide) :
    owp P n ops Q (⟨some d1,.buildSlice t 1 #[(0,y)],ty,pos,aft,none⟩::⟨some d2,.call { callee:=.builtin .append,args:=#[x,.tmp d1],argTypes:=#[t,t] },ty2,pos2,aft2,none⟩::rest) l w:=by
  subst f;have hi:=o.2.2;refine CC (i+1) (hi:=(by omega)) O (ps:=[(0,y)]) (vs:=[u]) (xs:=[a]) rfl (by simp[Y3,q]) rfl ⟨hu,trivial⟩ (hz:=(by omega)) (hm:=(by omega)) (hd:=hd.1) λg G H b r=>?_;have m:=o.st b (λh=>h) (λh=>h);refine CD rfl m r.rd (p g) (by simp[opv,lk]) (hz0:=hz0) hb j (hd:=hd.2) λA c s B d C=>h g A c s B ?_ C;refine⟨d.os.trans b.os,d.tape.trans b.tape,d.output.trans b.output,V6 b.size d.size,λk hk D=>?_⟩;obtain⟨E,e2⟩:=b.same k hk (λh=>h);obtain⟨F,e4⟩:=d.same k (K5 hk b.size) (by rw[e2];exact D);exact⟨F.trans E,e4.trans e2⟩
theorem Ys{α:Type}[Rp α]{i:Nat}{O:Lab}{t e:TypeId}{z:Value}{size bytes:Nat}[TInfo P t z size bytes](f:size=Rp.size α){x y:Operand}{b o k m c:Nat}{u:Value}{a:α}{xs:List α}(g:Rw i w O e (.slice (some ⟨b,o,none⟩) m c) xs)(hu:Vb w (Fr 0 w O) u a)
    (r:opv l x=some (.pointer (some ⟨b,o+k*size,none⟩))) (s:opv l y=some u) (hk:k<xs.length)
    (h:∀w',St (eT i) w O w' O->Rw i w' O e (.slice (some ⟨b,o,none⟩) m c) (xs.set k a)->owp P n ops Q rest l w'):owp P n ops Q (⟨none,.store t x y,ty,pos,aft,none⟩::rest) l w:=by
  obtain⟨D,cap,cells,sp,hv,_⟩:=g.1.open (by omega);injection hv with d v A;injection d with d;injection d with d p;subst p;refine NX f r s g.1 hk hu λw' B j hz=>?_;have q:St (eT i) w O w' O:=⟨j.os,j.tape,j.output,j.size,λk hk C=>⟨j.block k hk λhe=>C (g.2.1 k he),rfl⟩⟩;exact h w' q (B.rw (q.fr (λh=>g.2.2 h.symm)) g.2.1 g.2.2)
theorem FS{α:Type}[Rp α]{i:Nat}{O:Lab}{t e:TypeId}{z:Value}{size bytes:Nat}[TInfo P t z size bytes](d:size=Rp.size α){x y:Operand}{b o k m c:Nat}{A:Option Addr}{u:Value}{a:α}{xs:List α}(f:Rw i w O e (.slice A m c) xs)(hu:Vb w (Fr 0 w O) u a)(hA:A=some ⟨b,o,none⟩)
    (g:opv l x=some (.pointer (some ⟨b,o+k*size,none⟩))) (j:opv l y=some u) (hk:k<xs.length)
    (h:∀w',St (eT i) w O w' O->Rw i w' O e (.slice A m c) (xs.set k a)->owp P n ops Q rest l w'):owp P n ops Q (⟨none,.store t x y,ty,pos,aft,none⟩::rest) l w:=by
  subst hA;exact Ys d f hu g j hk h
theorem MC:∀(vs c r:List Value)(k:Nat),X8 (c++r) (c.length+k) vs=c++X8 r k vs
  |[],_,_,_=>rfl
  |v::vs,c,r,k=>by
    simp only[X8];rw[List.set_append_right _ _ (by omega),show c.length+k-c.length=k from by omega,show c.length+k+1=c.length+(k+1)from by omega,MC vs]
theorem Qv{α:Type}[Rp α]{i:Nat}{O:Lab}{t e:TypeId}{z:Value}{size bytes:Nat}[TInfo P t z size bytes]{x y:Operand}{b o k off m c:Nat}{A:Option Addr}{u:Value}{a a':α}{xs:List α}(g:Rw i w O e (.slice A m c) xs)(hA:A=some ⟨b,o,none⟩)(hk:xs[k]?=some a)
    (M:opv l x=some (.pointer (some ⟨b,o+k*Rp.size α+off,none⟩))) (N:opv l y=some u) (q:u.cells.toList.length=size) (I:off+size<=Rp.size α) (S:∀v∈u.cells.toList,v.oneCell'=true)
    (j:∀J,Rp.R w (Fr 0 w O) J a->Rp.R w (Fr 0 w O) (X8 J off u.cells.toList) a')
    (h:∀w',St (eT i) w O w' O->Rw i w' O e (.slice A m c) (xs.set k a')->owp P n ops Q rest l w'):owp P n ops Q (⟨none,.store t x y,ty,pos,aft,none⟩::rest) l w:=by
  subst hA;have r:k<xs.length:=(C1.1 hk).1;obtain⟨V,cap,cells,sp,hv,hg,hF,hb,hc,hl,s,B,hlen⟩:=g.1.open (by omega);injection hv with d C D;injection d with d;injection d with d E;subst d;subst C;subst D;subst E;obtain⟨f,cs,post,e1,e2,K⟩:=hc.get hk;have T:=Rp.len K;have G:X8 (cells++sp) (0+k*Rp.size α+off) u.cells.toList=X8 cells (k*Rp.size α) (X8 cs off u.cells.toList)++sp:=by
    have U:X8 (f++(cs++post)) f.length (X8 cs off u.cells.toList)=f++(X8 cs off u.cells.toList++post):=FO _ _ _ _ (by rw[Hg]);rw[e1,<- e2,U,V0,M2,M2,MC,HI _ _ _ _ (by omega)];simp
  refine Do M N hb q (by rw[K4,e1,K4,K4];omega) S λw' p=>?_;rw[G]at p;have H:Agree (Fr 0 w O) w w':=p.agree hF;have L:St (eT i) w O w' O:=p.st (g.2.1 b rfl);refine h w' L (Own.rw (base:=0) (F:=Fr 0 w O) ?_ (L.fr (λh=>g.2.2 h.symm)) g.2.1 g.2.2);have:=Own.close (w:=w') (cap:=c) hg hF p.blk ((hc.set r (j cs K)).agree H) (by simpa using s) B (by rw[K4,Hg,<- K4];exact hlen);rwa[R6]at this
theorem EH{f:FuncId}[Callable P f]{xs:List Operand}{vs:List Value}{b:Array TypeId}{O:Lab}{R:World->(Nat->Prop)->Value->Prop}(hc:Fn P f vs w λv w'=>Ext w w'/\R w' (upA (Fr 0 w O) w w') v)(c:Y3 l xs=some vs)
    (h:∀v w' O',St nT w O w' O'->R w' (Fr 0 w' O') v->owp P n ops Q rest ((d,v)::l) w') (hd:Nat.blt d n=true:=by exact rfl):owp P n ops Q (⟨some d,.call { callee:=.value (.func f),args:=xs.toArray,argTypes:=b },ty,pos,aft,none⟩::rest) l w :=
  Cb c (hd:=hd) hc λv w' ⟨a,hR⟩=>h v w' (upO O w.heap.size λ_=>0) (a.st O _) (by rwa[Xy a]at hR)
theorem LH{α:Type}[Rp α]{r:α}{f:FuncId}[Callable P f]{xs:List Operand}{vs:List Value}{a:Array TypeId}{O:Lab}(hc:Fn P f vs w λv w'=>Ext w w'/\Vb w' (upA (Fr 0 w O) w w') v r)(b:Y3 l xs=some vs)(hd:Nat.blt d n=true)
    (h:∀v w' O',St nT w O w' O'->Vb w' (Fr 0 w' O') v r->owp P n ops Q rest ((d,v)::l) w'):owp P n ops Q (⟨some d,.call { callee:=.value (.func f),args:=xs.toArray,argTypes:=a },ty,pos,aft,none⟩::rest) l w :=
  EH (R:=λw' F v=>Vb w' F v r) hc b (hd:=hd) h
theorem LI{f:FuncId}[Callable P f]{xs:List Operand}{vs:List Value}{a:Array TypeId}{O:Lab}{A:Nat->Prop}{R:World->(Nat->Prop)->Value->Prop}(hc:Fn P f vs w λv w'=>Ext w w'/\R w' (upA A w w') v)(b:Y3 l xs=some vs)(hd:Nat.blt d n=true)
    (h:∀v w' O',St nT w O w' O'->R w' (upA A w w') v->owp P n ops Q rest ((d,v)::l) w'):owp P n ops Q (⟨some d,.call { callee:=.value (.func f),args:=xs.toArray,argTypes:=a },ty,pos,aft,none⟩::rest) l w :=
  Cb b (hd:=hd) hc λv w' ⟨c,hR⟩=>h v w' (upO O w.heap.size λ_=>0) (c.st O _) hR
theorem BO{α:Type}[Rp α]{r:α}{f:FuncId}[Callable P f]{xs:List Operand}{vs:List Value}{a:Array TypeId}{O:Lab}(hc:Fn P f vs w λv w'=>Ext w w'/\Vb w' (upA (All w) w w') v r)(b:Y3 l xs=some vs)
    (h:∀v w' O',St nT w O w' O'->Vb w' (upA (All w) w w') v r->owp P n ops Q rest ((d,v)::l) w') (hd:Nat.blt d n=true:=by exact rfl):owp P n ops Q (⟨some d,.call { callee:=.value (.func f),args:=xs.toArray,argTypes:=a },ty,pos,aft,none⟩::rest) l w :=
  LI (A:=All w) (R:=λw' F v=>Vb w' F v r) hc b hd h
theorem Ov{f:FuncId}[Callable P f]{y:Operand}{xs:List Operand}{vs:List Value}{b:Array TypeId}{O:Lab}{A:Nat->Prop}{R:World->(Nat->Prop)->Value->Prop}(hc:Fn P f vs w λv w'=>Ext w w'/\R w' (upA A w w') v)(c:opv l y=some (.func (.func f) #[] #[]))(e:Y3 l xs=some vs)(hd:Nat.blt d n=true)
    (h:∀v w' O',St nT w O w' O'->R w' (upA A w w') v->owp P n ops Q rest ((d,v)::l) w'):owp P n ops Q (⟨some d,.call { callee:=.value y,args:=xs.toArray,argTypes:=b },ty,pos,aft,none⟩::rest) l w :=
  JT (caps:=[]) (R:=λv w'=>Ext w w'/\R w' (upA A w w') v) c e hd (by rw[R4];exact hc) λv w' a=>h v w' (upO O w.heap.size λ_=>0) (a.1.st O _) a.2
theorem MR{f:FuncId}[Callable P f]{xs:List Operand}{vs:List Value}{a:Array TypeId}{O:Lab}{i:Nat}{R:World->Lab->Prop}(hc:Fn P f vs w λ_ w'=>∃O',St (eT i) w O w' O'/\R w' O')(b:Y3 l xs=some vs)(hd:Nat.blt d n=true)
    (h:∀v w' O',St (eT i) w O w' O'->R w' O'->owp P n ops Q rest ((d,v)::l) w'):owp P n ops Q (⟨some d,.call { callee:=.value (.func f),args:=xs.toArray,argTypes:=a },ty,pos,aft,none⟩::rest) l w :=
  Cb b (hd:=hd) hc λv w' ⟨O',hS,hR⟩=>h v w' O' hS hR
theorem ED{α:Type}[Rp α](i:Nat)  {f:FuncId} [Callable P f] {xs:List Operand} {vs:List Value} {m:Array TypeId} {O:Lab} {e:TypeId} {r:List α} (hc:Fn P f vs w λv w'=>Ext w w'/\RowR w w' (upA (Fr 0 w O) w w') e v r) (o:Y3 l xs=some vs)
    (h:∀A c w' O',St nT w O w' O'->Rw i w' O' e (.slice A r.length c) r->owp P n ops Q rest ((d,.slice A r.length c)::l) w') (hi:i≠0:=by decide) (hd:Nat.blt d n=true:=by exact rfl):owp P n ops Q (⟨some d,.call { callee:=.value (.func f),args:=xs.toArray,argTypes:=m },ty,pos,aft,none⟩::rest) l w :=
  Cb o (hd:=hd) hc λv w' ⟨p,G,b,ho⟩=>by
    obtain⟨A,c,_,rfl,_⟩:=ho.chunk;have q:=p.st O λk=>if(Value.slice A r.length c).ownBlock=some k then i else 0;refine h A c w' _ q ⟨(ho.lower (W6 _)).mono (λk hk=>⟨(b k hk).2,?_⟩) (λg a hf=>?_),λg a=>?_,hi⟩
    . obtain⟨_,_,_,hno⟩:=ho;rcases(b k hk).1 with h1|h1
      . exact(Fm h1.1).trans h1.2
      . rw[Hi h1.1,if_neg λhe=>hno k he hk]
    . have h1:=(ho.lt g a).1;have j:=hf.2;rw[Hi h1,if_pos a]at j;exact hi j
    . rw[Hi (ho.lt g a).1,if_pos a]
end
end
section
open Go Go.RowKit
def bnd{α β:Type}(x:Option α)(f:α->Option β):Option β:=match x with
  |some a=>f a
  |none=>none
theorem Ah{α β:Type}(a:α)(f:α->Option β):bnd (some a) f=f a:=rfl
theorem bs{α β:Type}{x:Option α}{f:α->Option β}{r:β}(h:bnd x f=some r):∃a,x=some a/\f a=some r:=by
  cases x with
  |none=>cases h
  |some a=>exact⟨a,rfl,h⟩
theorem iT{α:Type}{x y r:α}(h:(if true=true then x else y)=r):x=r:=h
theorem iF{α:Type}{x y r:α}(h:(if false=true then x else y)=r):y=r:=h
theorem ip{α:Type}{p:Prop}[Decidable p]{x y r:α}(h:(if p then x else y)=r)(a:p):x=r:=by rwa[if_pos a]at h
theorem im{α:Type}{p:Prop}[Decidable p]{x y r:α}(h:(if p then x else y)=r)(a:¬p):y=r:=by rwa[if_neg a]at h
theorem im'{α:Type}{b:Bool}{x y r:α}(h:(if b=true then x else y)=r)(a:b=false):y=r:=by rwa[a]at h
theorem Hw{α:Type}{p:Prop}[Decidable p]{x y:α}(h:(if p then some x else none)=some y):p/\x=y:=by
  by_cases a:p
  . rw[if_pos a]at h;exact⟨a,R1 h⟩
  . rw[if_neg a]at h;cases h
theorem sm{α:Type}{x y:α}(h:some x=some y):x=y:=R1 h
instance decI64(a:Int):Decidable (X2 a):=by unfold X2;exact inferInstance
def X7(a:Int):Option Int:=if X2 a then some a else none
theorem Ld{a r:Int}(h:X7 a=some r):a=r/\X2 a:=by
  unfold X7 at h;split at h
  . exact⟨sm h,by assumption⟩
  . cases h
theorem Bx{a r:Int}(h:X7 a=some r):X2 r:=by
  obtain⟨rfl,h2⟩:=Ld h;exact h2
theorem BQ{a:Int}(h:X2 a):X7 a=some a:=if_pos h
def wr(z:Int):Int:=IntKind.i64.wrap z
theorem Uk(z:Int):X2 (wr z):=by
  unfold wr;rw[IntKind.wrap_i64];unfold X2;omega
def atI{α:Type}(xs:List α)(i:Int):Option α:=if 0<=i then xs[i.toNat]? else none
theorem Jv{α:Type}{xs:List α}{i:Int}{x:α}(h:atI xs i=some x):∃j:Nat,i=(j:Int)/\xs[j]?=some x:=by
  unfold atI at h;split at h
  . exact⟨i.toNat,by omega,h⟩
  . cases h
theorem BJ{α:Type}{xs:List α}{i:Int}{x:α}(h:atI xs i=some x):i=(i.toNat:Int)/\xs[i.toNat]?=some x:=by
  unfold atI at h;split at h
  . exact⟨by omega,h⟩
  . cases h
theorem Az{α:Type}{xs:List α}{k:Nat}{x:α}(h:xs[k]?=some x):k<xs.length:=(C1.1 h).1
theorem BG{α:Type}{xs:List α}{j:Nat}:atI xs (j:Int)=xs[j]?:=by unfold atI;rw[if_pos (by omega)];simp
def Y0{α:Type}(bytes:Nat)(xs ys:List α):Option (List α):=if(xs.length+ys.length)*bytes<=140737488355328/\xs.length+ys.length<=9223372036854775807 then some (xs++ys)else none
theorem BH{α:Type}{bytes:Nat}{xs ys r:List α}(h:Y0 bytes xs ys=some r):r=xs++ys/\(xs.length+ys.length)*bytes<=140737488355328/\xs.length+ys.length<=9223372036854775807:=by
  unfold Y0 at h;split at h
  . rename_i hc;exact⟨(sm h).symm,hc⟩
  . cases h
theorem Cg{α:Type}{bytes:Nat}{xs ys:List α}(h:(xs.length+ys.length)*bytes<=140737488355328)(hb:xs.length+ys.length<=9223372036854775807):Y0 bytes xs ys=some (xs++ys):=if_pos ⟨h,hb⟩
def mkI{α:Type}(bytes:Nat)(z:α)(n:Int):Option (List α):=if 0<=n/\bytes*n.toNat<=281474976710656/\n<=9223372036854775807 then some (List.replicate n.toNat z)else none
theorem Jw{α:Type}{bytes:Nat}{z:α}{n:Int}{r:List α}(h:mkI bytes z n=some r):∃m:Nat,n=(m:Int)/\bytes*m<=281474976710656/\m<=9223372036854775807/\r=List.replicate m z:=by
  unfold mkI at h;split at h
  . rename_i hc;exact⟨n.toNat,by omega,hc.2.1,by omega,(sm h).symm⟩
  . cases h
theorem HT{α:Type}{bytes:Nat}{z:α}{m:Nat}(h:bytes*m<=281474976710656)(a:m<=9223372036854775807):mkI bytes z (m:Int)=some (List.replicate m z):=by unfold mkI;rw[if_pos ⟨by omega,by simpa using h,by omega⟩];simp
def AbT(a b:Int):Option Int:=if 0<=a/\0<b then some (a%b)else none
theorem Ul{a b r:Int}(h:AbT a b=some r):0<=a/\0<b/\r=a%b:=by
  unfold AbT at h;split at h
  . rename_i hc;exact⟨hc.1,hc.2,(sm h).symm⟩
  . cases h
theorem Vq{a b:Int}(c:0<=a)(d:0<b)(e:X2 a):X2 (a%b):=by
  have:=Int.emod_nonneg a (show b≠0 by omega);have f:a%b<=a:=by
    rcases Int.lt_or_le a b with h|h
    . rw[Int.emod_eq_of_lt c h];exact W5 _
    . have:=Int.emod_lt_of_pos a d;omega
  unfold X2 at *;omega
theorem WH{a b r:Int}(h:AbT a b=some r)(c:X2 a):X2 r:=by
  obtain⟨d,h2,rfl⟩:=Ul h;exact Vq d h2 c
def AbH(a b:Int):Option Int:=if 0<=a/\0<b then some (a/b)else none
theorem Um{a b r:Int}(h:AbH a b=some r):0<=a/\0<b/\r=a/b:=by
  unfold AbH at h;split at h
  . rename_i hc;exact⟨hc.1,hc.2,(sm h).symm⟩
  . cases h
theorem Vr{a b:Int}(c:0<=a)(d:X2 a)(hb:0<b):X2 (a/b):=by
  have:=Int.ediv_le_self b c;have:=Int.ediv_nonneg c (show 0<=b by omega);unfold X2 at *;omega
theorem WI{a b r:Int}(h:AbH a b=some r)(c:X2 a):X2 r:=by
  obtain⟨d,h2,rfl⟩:=Um h;exact Vr d c h2
def AbN(s:ByteArray)(q:Int):Option Int:=if h:0<=q/\q.toNat<s.size then some ((s[q.toNat]'h.2).toNat:Int)else none
theorem Un{s:ByteArray}{q c:Int}(h:AbN s q=some c):∃j:Nat,q=(j:Int)/\∃hlt:j<s.size,c=((s[j]'hlt).toNat:Int):=by
  unfold AbN at h;split at h
  . rename_i hc;exact⟨q.toNat,by omega,hc.2,(sm h).symm⟩
  . cases h
theorem Vs{s:ByteArray}{q c:Int}(h:AbN s q=some c):X2 c:=by
  obtain⟨j,_,hlt,rfl⟩:=Un h;have:=UInt8.toNat_lt (s[j]'hlt);unfold X2;omega
theorem PV{α:Type}{p:Option α}(h:p.isNone=false):∃a,p=some a:=by
  cases p with
  |none=>cases h
  |some a=>exact⟨a,rfl⟩
structure Byt where
  n:Int
  lo:0<=n
  hi:n<=255
theorem Byt.rng(x:Byt):X2 x.n:=by have:=x.lo;have:=x.hi;unfold X2;omega
instance:Rp Byt where
  isAgg:=false
  size:=1
  R _ _ cs x:=cs=[.int .u8 x.n]
  len:=by rintro w F cs x rfl;rfl
  one:=by
    rintro w F cs x rfl u hu;have:u=.int .u8 x.n:=(by simpa using hu);subst this;rfl
  agree:=λh _=>h
  mono:=λh _=>h
theorem vByte{w:World}{F:Nat->Prop}{x:Byt}:Vb w F (.int .u8 x.n) x:=rfl
class One1(α:Type)[Rp α]:Prop where
  ag:Rp.isAgg α=false
  sz:Rp.size α=1
instance:One1 Byt:=⟨rfl,rfl⟩
instance:One1 Int:=⟨rfl,rfl⟩
def AaG(a:Int):Option Nat:=if 0<=a then some a.toNat else none
theorem Uo{a:Int}{n:Nat}(h:AaG a=some n):a=(n:Int):=by
  unfold AaG at h;split at h
  . have:=sm h;omega
  . cases h
theorem Tc{n:Nat}:AaG (n:Int)=some n:=by unfold AaG;rw[if_pos (by omega)];simp
theorem rngNat'{n:Nat}(h:X2 (n:Int)):n<=9223372036854775807:=by unfold X2 at h;omega
def Zl{α:Type}(xs:List α)(lo hi:Int):Option (List α):=if 0<=lo/\lo<=hi/\hi<=xs.length then some ((xs.take hi.toNat).drop lo.toNat)else none
theorem Qw{α:Type}{xs r:List α}{lo hi:Int}(h:Zl xs lo hi=some r):∃a b:Nat,lo=(a:Int)/\hi=(b:Int)/\a<=b/\b<=xs.length/\r=(xs.take b).drop a:=by
  unfold Zl at h;split at h
  . rename_i hc;exact⟨lo.toNat,hi.toNat,by omega,by omega,by omega,by omega,(sm h).symm⟩
  . cases h
theorem Kx{α:Type}{xs:List α}{a b:Nat}(h:a<=b)(c:b<=xs.length):Zl xs (a:Int) (b:Int)=some ((xs.take b).drop a):=by unfold Zl;rw[if_pos ⟨by omega,by omega,by omega⟩];simp
theorem rngNat{n:Nat}(h:n<=9223372036854775807):X2 (n:Int):=by unfold X2;omega
theorem Y2{α:Type}{xs:List α}{k:Nat}{x:α}(h:xs[k]?=some x)(hl:xs.length<=9223372036854775807):X2 (k:Int):=by
  have:=Az h;unfold X2;omega
theorem Abk{k n:Nat}(h:k<n)(hl:n<=9223372036854775807):X2 (k:Int):=by unfold X2;omega
theorem rngMin{a b:Int}(h:X2 a)(k:X2 b):X2 (min a b):=by unfold X2 at *;omega
theorem rngMax{a b:Int}(h:X2 a)(k:X2 b):X2 (max a b):=by unfold X2 at *;omega
inductive Ctl(σ ρ:Type) where
  |next (s:σ)
  |brk (s:σ)
  |ret (r:ρ)
inductive Fin(σ ρ:Type) where
  |done (s:σ)
  |ret (r:ρ)
def fin{σ a:Type}(y:Fin σ a)(f:σ->Option a):Option a:=match y with
  |.done s=>f s
  |.ret c=>some c
theorem AS{σ a:Type}{s:σ}{f:σ->Option a}{r:Option a}(h:fin (.done s) f=r):f s=r:=h
theorem Ca{σ a:Type}{c:a}{f:σ->Option a}{r:Option a}(h:fin (.ret c) f=r):some c=r:=h
def rng{α σ ρ:Type}(f:Nat→α→σ→Option (Ctl σ ρ)):List α→Nat→σ→Option (Fin σ ρ)
  |[],_,s=>some (.done s)
  |x::xs,k,s=>match f k x s with
    |none=>none
    |some (.next a)=>rng f xs (k+1) a
    |some (.brk a)=>some (.done a)
    |some (.ret r)=>some (.ret r)
def Zk{σ ρ:Type}(f:Nat->σ->Option (Ctl σ ρ))(n:Nat)(s:σ):Option (Fin σ ρ):=rng (λ_ k s=>f k s) (List.range n) 0 s
def itr{σ ρ:Type}(f:σ→Option (Ctl σ ρ)):Nat→σ→Option (Fin σ ρ)
  |0,_=>none
  |n+1,s=>match f s with
    |none=>none
    |some (.next a)=>itr f n a
    |some (.brk a)=>some (.done a)
    |some (.ret r)=>some (.ret r)
theorem Ox{σ ρ:Type}(f:σ->Option (Ctl σ ρ)):∀(n m:Nat)(s:σ)(r:Fin σ ρ),n<=m->itr f n s=some r->itr f m s=some r
  |0,_,_,_,_,h=>by cases h
  |n+1,0,_,_,hl,_=>by omega
  |n  + 1,m+1,s,r,hl,h=>by
    simp only[itr]at h ⊢;cases hf:f s with
    |none=>rw[hf]at h;cases h
    |some c =>
      rw[hf]at h;cases c with
      |next a=>exact Ox f n m a r (by omega) h
      |brk a=>exact h
      |ret r'=>exact h
noncomputable def lop{σ ρ:Type}(f:σ->Option (Ctl σ ρ))(s:σ):Option (Fin σ ρ):=itr f (Classical.epsilon λn=>(itr f n s).isSome=true) s
theorem KG{σ ρ:Type}{f:σ->Option (Ctl σ ρ)}{s:σ}{r:Fin σ ρ}:lop f s=some r↔∃n,itr f n s=some r:=by
  constructor
  . intro h;exact⟨_,h⟩
  . rintro⟨n,hn⟩;have hs:(itr f (Classical.epsilon λn=>(itr f n s).isSome=true) s).isSome=true:=E7 (p:=λn=>(itr f n s).isSome=true) ⟨n,by rw[hn];rfl⟩;obtain⟨r',hr'⟩:=Option.isSome_iff_exists.1 hs;have a:=Ox f _ (n+Classical.epsilon λn=>(itr f n s).isSome=true) s r (by omega) hn;have b:=Ox f _ (n+Classical.epsilon λn=>(itr f n s).isSome=true) s r' (by omega) hr';unfold lop;rw[hr',<- b,a]
theorem Xz{σ ρ:Type}(f:σ→Option (Ctl σ ρ))(s:σ):lop f s=match f s with
    |none=>none
    |some (.next a)=>lop f a
    |some (.brk a)=>some (.done a)
    |some (.ret r)=>some (.ret r):=by
  apply Option.ext;intro r;rw[KG];cases hf:f s with
  |none =>
    constructor
    . rintro⟨n,hn⟩;cases n with
      |zero=>cases hn
      |succ n=>simp only[itr,hf]at hn;cases hn
    . intro h;cases h
  |some c =>
    cases c with
    |next a =>
      simp only;rw[KG];constructor
      . rintro⟨n,hn⟩;cases n with
        |zero=>cases hn
        |succ n=>simp only[itr,hf]at hn;exact⟨n,hn⟩
      . rintro⟨n,hn⟩;exact⟨n+1,by simp only[itr,hf];exact hn⟩
    |brk a =>
      simp only;constructor
      . rintro⟨n,hn⟩;cases n with
        |zero=>cases hn
        |succ n=>simp only[itr,hf]at hn;exact hn
      . intro h;exact⟨1,by simp only[itr,hf];exact h⟩
    |ret r' =>
      simp only;constructor
      . rintro⟨n,hn⟩;cases n with
        |zero=>cases hn
        |succ n=>simp only[itr,hf]at hn;exact hn
      . intro h;exact⟨1,by simp only[itr,hf];exact h⟩
def Aav(size:Nat)(A:Option Addr)(m c:Nat)(q a:Int)(b:Option Addr)(d e:Nat):Prop:=∃lo hi:Nat,q=(lo:Int)/\a=(hi:Int)/\lo<=hi/\hi<=m/\m<=c/\Value.slice b d e=.slice (if c=lo then A else A.map (·.add (lo*size))) (hi-lo) (c-lo)
theorem Abg{α:Type}[Rp α]{w:World}{F:Nat->Prop}{A:Option Addr}{m c:Nat}{q e:Int}{xs u:List α}(f:Vb w F (.slice A m c) xs)(he:Zl xs q e=some u):∃g h,Vb w F (.slice g u.length h) u/\Aav (Rp.size α) A m c q e g u.length h:=by
  obtain⟨a,b,rfl,rfl,h1,h2,rfl⟩:=Qw he;have hl:=f.len;have hv:=f.cut (lo:=a) (hi:=b) (mx:=c) h1 (by omega) (by omega) (W3 _);have d:((xs.take b).drop a).length=b-a:=(by rw[P8,P9];omega);exact⟨_,_,by rw[d];exact hv,a,b,rfl,rfl,h1,by omega,hl.2.1,by rw[d]⟩
section
variable {P:Program}{l:Env}{w:World}{dst:Option Tmp}{ty:TypeId}{pos:String}{aft:Array Edge}
theorem Td{t e:TypeId}[TSlice P t e]{z:Value}{size bytes:Nat}[TInfo P e z size bytes]{x y:Operand}{A a:Option Addr}{m c b d:Nat}{q:Int}{k:IntKind}(f:opv l x=some (.slice A m c))(g:opv l y=some (.int k q))(hc:Aav size A m c q (m:Int) a b d):Ev P ⟨dst,.slice t x (some y) none none,ty,pos,aft,none⟩ l w (.slice a b d):=by
  obtain⟨lo,hi,h1,h2,h3,h4,h5,h6⟩:=hc;have:hi=m:=(by omega);subst this;rw[h6];exact Mb f g h1 h3
theorem Te{t e:TypeId}[TSlice P t e]{z:Value}{size bytes:Nat}[TInfo P e z size bytes]{x y:Operand}{A a:Option Addr}{m c b d:Nat}{q:Int}{k:IntKind}(f:opv l x=some (.slice A m c))(g:opv l y=some (.int k q))(hc:Aav size A m c 0 q a b d):Ev P ⟨dst,.slice t x none (some y) none,ty,pos,aft,none⟩ l w (.slice a b d):=by
  obtain⟨lo,hi,h1,h2,h3,h4,h5,h6⟩:=hc;have:lo=0:=(by omega);subst this;rw[h6];exact Pd f g h2 (by omega)
end
def Aao(ops:Array Oper):Array Bool->List (Nat×Bool)->Bool
  |_,[]=>true
  |listed,(i,true)::r=>(Region.ready .any ops listed).contains i&&(Region.free .any ops listed i&&Aao ops (listed.setIfInBounds i true) r)
  |_,(_,false)::_=>false
def Aam:Array Bool->List (Nat×Bool)->Array Bool
  |listed,[]=>listed
  |listed,(i,_)::r=>Aam (listed.setIfInBounds i true) r
section
variable {P:Program}{m:Nat}{Qo:YX}{l:Env}{w:World}
theorem AZ{c:Code}{Q:YX}(b:Env->World->Prop)(h:ewp P m c (thn b Q) l w)(k:∀a w',b a w'->Q .normal a w'):ewp P m c Q l w :=
  HQ (λe l w q=>by cases e<;>first|exact k _ _ q|exact q) h
def aft{σ ρ X:Type}(a:Fin σ ρ)(b:σ->X->Env)(c:σ->X->World->Prop):Env->World->Prop:=λd w'=>∃s x,a=.done s/\X5 d (b s x)/\c s x w'
theorem PW{α σ ρ X:Type}{t i n inc:Tmp}{b b' r r2:Nat}{ty1 ty2 ty3 y1 y2 y3 y4:TypeId}{p1 p2 p3:String}{a1 a2 a3:Array Edge}{body:Code}{f:Nat→α→σ→Option (Ctl σ ρ)}{xs:List α}{s₀:σ}{d:Fin σ ρ}(N:Nat)(J:rng f xs 0 s₀=some d)(K:N=xs.length)(C:N≤9223372036854775807)
    (M:σ->X->Env) (D:σ->X->Env) (I E:σ->X->World->Prop) (p:X)
    (B:I s₀ p w) (hs:X5 l (rgE i n N 0 (M s₀ p)))
    (hf:∀s x,lk (M s x) i=none/\lk (M s x) inc=none) (F:∀s x,X5 ((t,.bool false)::rgE i n N N (M s x)) (D s x)) (G:∀s x w,I s x w->E s x w) (L:Nat.blt t m=true/\Nat.blt i m=true/\Nat.blt inc m=true) (H:Nat.beq i n=false/\Nat.beq inc n=false)
    (y:∀(k:Nat)(a:α)(s:σ)(x:X)(w:World)(c:Ctl σ ρ),xs[k]?=some a->I s x w->f k a s=some c->(∀r',c=.ret r'->d=.ret r')->(∀g,c=.brk g->d=.done g) ->
      ewp P m body (Y4 b' (thn (λv w'=>∃g o,c=.next g/\X5 v (rgE i n N k (M g o))/\I g o w') (Y4 b (thn (aft d D E) Qo)))) ((t,.bool true)::rgE i n N k (M s x)) w) :
    ewp P m (.loop (.seq (.region r #[⟨some t,.binOp .lss ty1 (.tmp i) (.tmp n) ty2,y1,p1,a1,none⟩] false) (.seq (.cond (.tmp t) .skip (.exit b)) (.seq (.block b' body)
      (.region r2 #[⟨some inc,.binOp .add ty3 (.tmp i) (.const (.int .i64 1)) y4,y2,p2,a2,none⟩,⟨some i,.move (.tmp inc),y3,p3,a3,none⟩] false))))) (Y4 b (thn (aft d D E) Qo)) l w:=by
  subst K;have z:∀k,(∃a,xs[k]?=some a/\xs.drop k=a::xs.drop (k+1))\/xs.length<=k:=λk=>by
    rcases U8 k xs.length with h|h
    . exact .inl ⟨xs[k],C9 h,C3 h⟩
    . exact .inr h
  refine CI (X:=σ×X) xs.length C (λu=>M u.1 u.2) (λk u w'=>I u.1 u.2 w'/\rng f (xs.drop k) k u.1=some d) (s₀,p) ⟨B,by simpa using J⟩ hs (λu=>hf u.1 u.2) L H ?_ ?_
  . rintro k ⟨s,x⟩ w1 hk ⟨hI,hr⟩;rcases z k with⟨a,ha,hd⟩|hge
    . dsimp only at hI hr ⊢;rw[hd]at hr;simp only[rng]at hr;cases A:f k a s with
      |none=>rw[A]at hr;cases hr
      |some c =>
        rw[A]at hr;refine HQ ?_ (y k a s x w1 c ha hI A (λr' hc=>?_) (λg hc=>?_))
        . have conv:∀v w',(∃g o,c=.next g/\X5 v (rgE i n xs.length k (M g o))/\I g o w')->∃o:σ×X,X5 v (rgE i n xs.length k (M o.1 o.2))/\I o.1 o.2 w'/\rng f (xs.drop (k+1)) (k+1) o.1=some d:=by
            rintro v w' ⟨g,o,rfl,h1,h2⟩;exact⟨(g,o),h1,h2,hr⟩
          intro e v w' q;cases e with
          |normal=>exact conv v w' q
          |exit j =>
            simp only[Y4]at q ⊢;cases hj:Nat.beq j b' with
            |true=>rw[hj]at q;exact conv v w' q
            |false=>rw[hj]at q;exact q
          |panic c=>exact q
          |outgrown=>exact q
          |goto j=>exact q
          |ret=>exact q
        . subst hc;exact(sm hr).symm
        . subst hc;exact(sm hr).symm
    . omega
  . rintro⟨s,x⟩ w1 ⟨hI,hr⟩;dsimp only at hI hr ⊢;rw[Q0]at hr;exact⟨s,x,(sm hr).symm,F s x,G s x _ hI⟩
theorem Vt{σ ρ X:Type}{t i n inc:Tmp}{b b' r r2:Nat}{ty1 ty2 ty3 y1 y2 y3 y4:TypeId}{p1 p2 p3:String}{a1 a2 a3:Array Edge}{body:Code}{f:Nat->σ->Option (Ctl σ ρ)}{s₀:σ}{d:Fin σ ρ}(N:Nat)(B:Zk f N s₀=some d)(q:N<=9223372036854775807)
    (H:σ->X->Env) (o:σ->X->Env) (I p:σ->X->World->Prop) (e:X)
    (j:I s₀ e w) (hs:X5 l (rgE i n N 0 (H s₀ e)))
    (hf:∀s x,lk (H s x) i=none/\lk (H s x) inc=none) (u:∀s x,X5 ((t,.bool false)::rgE i n N N (H s x)) (o s x)) (v:∀s x w,I s x w->p s x w) (C:Nat.blt t m=true/\Nat.blt i m=true/\Nat.blt inc m=true) (y:Nat.beq i n=false/\Nat.beq inc n=false)
    (g:∀(k:Nat)(s:σ)(x:X)(w:World)(c:Ctl σ ρ),k<N->I s x w->f k s=some c->(∀r',c=.ret r'->d=.ret r')->(∀h,c=.brk h->d=.done h) ->
      ewp P m body (Y4 b' (thn (λD w'=>∃h A,c=.next h/\X5 D (rgE i n N k (H h A))/\I h A w') (Y4 b (thn (aft d o p) Qo)))) ((t,.bool true)::rgE i n N k (H s x)) w) :
    ewp P m (.loop (.seq (.region r #[⟨some t,.binOp .lss ty1 (.tmp i) (.tmp n) ty2,y1,p1,a1,none⟩] false) (.seq (.cond (.tmp t) .skip (.exit b)) (.seq (.block b' body)
      (.region r2 #[⟨some inc,.binOp .add ty3 (.tmp i) (.const (.int .i64 1)) y4,y2,p2,a2,none⟩,⟨some i,.move (.tmp inc),y3,p3,a3,none⟩] false))))) (Y4 b (thn (aft d o p) Qo)) l w :=
  PW N B (by simp) q H o I p e j hs hf u v C y λk a s x w c hk E z F G=>by
    obtain⟨hlt,rfl⟩:=C1.1 hk;exact g k s x w c (by simpa using hlt) E (by simpa using z) F G
theorem Gy{σ ρ X:Type}{c:Code}{f:σ→Option (Ctl σ ρ)}{s₀:σ}{a:Fin σ ρ}{b:Nat}(z:lop f s₀=some a)(A:σ→X→Env)(u:σ→X→Env)(I v:σ→X→World→Prop)(d:X)(r:I s₀ d w)(hs:X5 l (A s₀ d))
    (i:∀(s:σ)(x:X)(w:World)(q:Ctl σ ρ),I s x w->f s=some q->(∀r',q=.ret r'->a=.ret r')->(∀g,q=.brk g->a=.done g) ->
      ewp P m c (thn (λy w'=>∃g t,q=.next g/\X5 y (A g t)/\I g t w') (Y4 b (thn (aft a u v) Qo))) (A s x) w) :
    ewp P m (.loop c) (Y4 b (thn (aft a u v) Qo)) l w:=by
  obtain⟨n,hn⟩:=KG.1 z;refine Ri (X:=σ×X×Nat) (λh=>A h.1 h.2.1) (λh w'=>I h.1 h.2.1 w'/\itr f h.2.2 h.1=some a) (λh=>h.2.2) (s₀,d,n) hs ⟨r,hn⟩ ?_;rintro⟨s,x,k⟩ w1 ⟨hI,hr⟩;dsimp only at hI hr ⊢;cases k with
  |zero=>cases hr
  |succ k =>
    simp only[itr]at hr;cases o:f s with
    |none=>rw[o]at hr;cases hr
    |some q =>
      rw[o]at hr;refine HQ ?_ (i s x w1 q hI o (λr' hc=>?_) (λg hc=>?_))
      . intro e y w' p;cases e with
        |normal =>
          obtain⟨g,t,rfl,h1,h2⟩:=p;exact⟨(g,t,k),h1,⟨h2,hr⟩,Q1 k⟩
        |exit j=>exact p
        |panic c=>exact p
        |outgrown=>exact p
        |goto j=>exact p
        |ret=>exact p
      . subst hc;exact(sm hr).symm
      . subst hc;exact(sm hr).symm
def inK(d:Nat):List Nat→Bool
  |[]=>false
  |k::r=>match Nat.beq k d with
    |true=>true
    |false=>inK d r
def kys:List Nat→Env→Bool
  |_,[]=>true
  |ks,(d,_)::r=>match inK d ks with
    |true=>false
    |false=>kys (d::ks) r
theorem TK{d:Nat}:∀{b:List Nat},inK d b=false->∀k∈b,Nat.beq k d=false
  |[],_,k,hk=>by simp at hk
  |a  :: r,h,k,hk=>by
    unfold inK at h;cases hb:Nat.beq a d with
    |true=>rw[hb]at h;cases h
    |false =>
      rw[hb]at h;rcases T8.1 hk with rfl|hk
      . exact hb
      . exact TK h k hk
theorem KH{d:Nat}:∀{l:Env}{b:List Nat},kys b l=true→d∈b→lk l d=none
  |[],_,_,_=>rfl
  |(a,  v)::r,b,h,hd=>by
    unfold kys at h;cases hb:inK a b with
    |true=>rw[hb]at h;cases h
    |false =>
      rw[hb]at h;have c:Nat.beq a d=false:=by
        have:=TK hb d hd;cases e:Nat.beq a d with
        |false=>rfl
        |true=>rw[F4 e,U7]at this;cases this
      show(match Nat.beq a d with|true=>some v|false=>lk r d)=none;rw[c];exact KH h (H1 _ hd)
theorem Up{d:Nat}:∀{p l:Env},(∀q∈p,Nat.beq q.1 d=false)->lk (p++l) d=lk l d
  |[],_,_=>rfl
  |(a,v)::p,l,h=>by
    show(match Nat.beq a d with|true=>some v|false=>lk (p++l) d)=lk l d;rw[h (a,v) L0];exact Up λq b=>h q (H1 _ b)
theorem PX:∀{l:Env}{b:List Nat}{p:Env},kys b l=true→(∀q∈p,q.1∈b)→X5 (p++l) l
  |[],_,_,_,_=>trivial
  |(a,  v)::r,b,p,h,hp=>by
    unfold kys at h;cases hb:inK a b with
    |true=>rw[hb]at h;cases h
    |false =>
      rw[hb]at h;refine⟨?_,?_⟩
      . rw[Up λq hq=>TK hb q.1 (hp q hq)];show(match Nat.beq a a with|true=>some v|false=>lk r a)=some v;rw[U7]
      . have:=PX (p:=p++[(a,v)]) h λq hq=>by
          rcases Q8.1 hq with hq|hq
          . exact H1 _ (hp q hq)
          . have:q=(a,v):=(by simpa using hq);rw[this];exact L0
        rwa[M2]at this
section
variable {σ ρ X:Type}{t i n inc:Tmp}{b b' r r2:Nat}{ty1 ty2 ty3 y1 y2 y3 y4:TypeId}{p1 p2 p3:String}{a1 a2 a3:Array Edge}{body:Code}{Q:YX}
theorem Cp{α:Type}{f:Nat->α->σ->Option (Ctl σ ρ)}{xs:List α}{s₀:σ}{d:Fin σ ρ}(N:Nat)(z:rng f xs 0 s₀=some d)(A:N=xs.length)(u:N<=9223372036854775807)(D:σ->X->Env)(I:σ->X->World->Prop)(e:X)(o:I s₀ e w)(hs:X5 l (rgE i n N 0 (D s₀ e)))(hk:∀s x,kys [t,i,n,inc] (D s x)=true)
    (g:∀(k:Nat)(a:α)(s:σ)(x:X)(w:World)(c:Ctl σ ρ),xs[k]?=some a->I s x w->f k a s=some c->(∀r',c=.ret r'->d=.ret r')->(∀j,c=.brk j->d=.done j) ->
      ewp P m body (Y4 b' (thn (λq w'=>∃j y,c=.next j/\X5 q (rgE i n N k (D j y))/\I j y w') (Y4 b (thn (aft d D I) Q)))) ((t,.bool true)::rgE i n N k (D s x)) w)
    (B:∀q w',aft d D I q w'->Q .normal q w') (C:Nat.blt t m=true/\Nat.blt i m=true/\Nat.blt inc m=true:=by exact⟨rfl,rfl,rfl⟩) (v:Nat.beq i n=false/\Nat.beq inc n=false:=by exact⟨rfl,rfl⟩) :
    ewp P m (.block b (.loop (.seq (.region r #[⟨some t,.binOp .lss ty1 (.tmp i) (.tmp n) ty2,y1,p1,a1,none⟩] false) (.seq (.cond (.tmp t) .skip (.exit b)) (.seq (.block b' body)
      (.region r2 #[⟨some inc,.binOp .add ty3 (.tmp i) (.const (.int .i64 1)) y4,y2,p2,a2,none⟩,⟨some i,.move (.tmp inc),y3,p3,a3,none⟩] false)))))) Q l w :=
  AZ (aft d D I) (BK (PW (Qo:=Q) N z A u D D I I e o hs (λs x=>⟨KH (hk s x) (by simp),KH (hk s x) (by simp)⟩) (λs x=>PX (p:=[(t,.bool false),(i,.int .i64 (N:Int)),(n,.int .i64 (N:Int))]) (hk s x) (by simp)) (λ_ _ _ h=>h) C v g)) B
theorem Rs{f:Nat->σ->Option (Ctl σ ρ)}{s₀:σ}{a:Fin σ ρ}(N:Nat)(y:Zk f N s₀=some a)(q:N<=9223372036854775807)(B:σ->X->Env)(I:σ->X->World->Prop)(d:X)(j:I s₀ d w)(hs:X5 l (rgE i n N 0 (B s₀ d)))(hk:∀s x,kys [t,i,n,inc] (B s x)=true)
    (e:∀(k:Nat)(s:σ)(x:X)(w:World)(c:Ctl σ ρ),k<N->I s x w->f k s=some c->(∀r',c=.ret r'->a=.ret r')->(∀g,c=.brk g->a=.done g) ->
      ewp P m body (Y4 b' (thn (λo w'=>∃g v,c=.next g/\X5 o (rgE i n N k (B g v))/\I g v w') (Y4 b (thn (aft a B I) Q)))) ((t,.bool true)::rgE i n N k (B s x)) w)
    (z:∀o w',aft a B I o w'->Q .normal o w') (A:Nat.blt t m=true/\Nat.blt i m=true/\Nat.blt inc m=true:=by exact⟨rfl,rfl,rfl⟩) (u:Nat.beq i n=false/\Nat.beq inc n=false:=by exact⟨rfl,rfl⟩) :
    ewp P m (.block b (.loop (.seq (.region r #[⟨some t,.binOp .lss ty1 (.tmp i) (.tmp n) ty2,y1,p1,a1,none⟩] false) (.seq (.cond (.tmp t) .skip (.exit b)) (.seq (.block b' body)
      (.region r2 #[⟨some inc,.binOp .add ty3 (.tmp i) (.const (.int .i64 1)) y4,y2,p2,a2,none⟩,⟨some i,.move (.tmp inc),y3,p3,a3,none⟩] false)))))) Q l w :=
  AZ (aft a B I) (BK (Vt (Qo:=Q) N y q B B I I d j hs (λs x=>⟨KH (hk s x) (by simp),KH (hk s x) (by simp)⟩) (λs x=>PX (p:=[(t,.bool false),(i,.int .i64 (N:Int)),(n,.int .i64 (N:Int))]) (hk s x) (by simp)) (λ_ _ _ h=>h) A u e)) z
end
end
end
section
open Go Go.RowKit
def Bm(w0:World)(O0:Lab)(w:World)(O:Lab):Prop:=St (λj=>j≠0/\j≠1) w0 O0 w O
section
variable {T:Nat → Prop}{w w' w0:World}{O O' O0:Lab}
theorem Bm.st(h:Bm w0 O0 w O)(a:St T w O w' O')(b:¬T 0:=by decide)(c:¬T 1:=by decide):Bm w0 O0 w' O' :=
  St.comp h a λj hj=>⟨λe=>b (e▸hj),λe=>c (e▸hj)⟩
theorem Vb.z{α:Type}[Rp α]{v:Value}{x:α}(h:Vb w0 (Fr 0 w0 O0) v x)(a:Bm w0 O0 w O):Vb w (Fr 0 w O) v x:=Vb.st h a λh=>h.1 rfl
theorem Bm.refl:Bm w O w O:=St.refl _ _ _
structure Lbl(f:Nat->Nat)(T:Nat->Prop):Prop where
  z:f 0=0
  nz:∀j,f j=0->j=0
  o:∀j,¬T j->f j=0\/f j=1
theorem Lbl.none:Lbl (λj=>if j=0 then 0 else 1) nT:=⟨rfl,λj h=>by by_cases hj:j=0<;>simp_all,λj _=>by by_cases hj:j=0<;>simp_all⟩
theorem Lbl.one{i:Nat}(hi:i≠0):Lbl (λj=>if j=0 then 0 else if j=i then 2 else 1) (eT i) :=
  ⟨rfl,λj h=>by by_cases hj:j=0<;>simp_all;split at h<;>simp_all,λj h=>by by_cases hj:j=0<;>by_cases hk:j=i<;>simp_all⟩
theorem Lbl.two{i k:Nat}(hi:i≠0)(hk:k≠0):Lbl (λj=>if j=0 then 0 else if j=i then 2 else if j=k then 3 else 1) (λj=>j=i\/j=k) :=
  ⟨rfl,λj h=>by
    by_cases hj:j=0
    . exact hj
    . by_cases a:j=i<;>by_cases b:j=k<;>simp_all,λj h=>by
    by_cases hj:j=0<;>by_cases a:j=i<;>by_cases b:j=k<;>simp_all⟩
theorem Lbl.fr0{f:Nat->Nat}(h:Lbl f T):∀k,Fr 0 w O k->Fr 0 w (λk=>f (O k)) k:=λk hk=>⟨hk.1,by show f (O k)=0;rw[hk.2];exact h.z⟩
theorem Bm.leave{f:Nat->Nat}(g:Nat->Nat)(hf:Lbl f T)(d:g 0=0)(h:Bm w (λk=>f (O k)) w' O') :
    ∃a,St T w O w' a/\(∀k,Fr 0 w' O' k->Fr 0 w' a k)/\∀j,j≠0->j≠1->∀k,Fr j w' O' k->Fr (g j) w' a k:=by
  classical
  have b:∀k,k<w.heap.size->¬T (O k)->w'.heap[k]?=w.heap[k]?/\O' k=f (O k):=λk hk c =>
    h.same k hk (by rcases hf.o _ c with e|e<;>simp[e])
  refine⟨λk=>if k<w.heap.size/\¬T (O k)then O k else g (O' k),⟨h.os,h.tape,h.output,h.size,λk hk c=>⟨(b k hk c).1,if_pos ⟨hk,c⟩⟩⟩,λk hk=>⟨hk.1,?_⟩,λj l m k hk=>⟨hk.1,?_⟩⟩
  . by_cases hc:k<w.heap.size/\¬T (O k)
    . show(if _ then _ else _)=_;rw[if_pos hc];exact hf.nz _ ((b k hc.1 hc.2).2.symm.trans hk.2)
    . show(if _ then _ else _)=_;rw[if_neg hc,hk.2,d]
  . by_cases hc:k<w.heap.size/\¬T (O k)
    . have i:=(b k hc.1 hc.2).2.symm.trans hk.2;rcases hf.o _ hc.2 with e|e<;>rw[e]at i<;>omega
    . show(if _ then _ else _)=_;rw[if_neg hc,hk.2]
theorem Cj{P:Program}{n:Nat}{ops:Array Oper}{Q:YX}{rest:List Oper}{l:Env}{w:World}{d:Tmp}{ty:TypeId}{pos:String}{aft:Array Edge}{f:FuncId}[Callable P f]{xs:List Operand}{vs:List Value}{a:Array TypeId}{O:Lab}{R:Value->World->Lab->Prop}
    (hc:Fn P f vs w λv w'=>∃O',St T w O w' O'/\R v w' O') (b:Y3 l xs=some vs)
    (h:∀v w' O',St T w O w' O'->R v w' O'->owp P n ops Q rest ((d,v)::l) w') (hd:Nat.blt d n=true:=by exact rfl):owp P n ops Q (⟨some d,.call { callee:=.value (.func f),args:=xs.toArray,argTypes:=a },ty,pos,aft,none⟩::rest) l w :=
  Cb b (hd:=hd) hc λv w' ⟨O',hS,hR⟩=>h v w' O' hS hR
end
def Ent(T:Nat->Prop)(O O0:Lab):Prop:=∃f,Lbl f T/\O0=λk=>f (O k)
theorem Acu{w:World}{O:Lab}:∃O0,Ent nT O O0/\∀k,Fr 0 w O k->Fr 0 w O0 k:=⟨_,⟨_,Lbl.none,rfl⟩,Lbl.none.fr0⟩
theorem ZB{w:World}{O:Lab}{i:Nat}(hi:i≠0):∃O0,Ent (eT i) O O0/\(∀k,Fr 0 w O k->Fr 0 w O0 k)/\∀k,Fr i w O k->Fr 2 w O0 k :=
  ⟨_,⟨_,Lbl.one hi,rfl⟩,(Lbl.one hi).fr0,λk hk=>⟨hk.1,by simp[hk.2,hi]⟩⟩
theorem AcN{w:World}{O:Lab}{i j:Nat}(a:i≠j)(hi:i≠0)(hj:j≠0):∃O0,Ent (λk=>k=i\/k=j) O O0/\(∀k,Fr 0 w O k->Fr 0 w O0 k)/\(∀k,Fr i w O k->Fr 2 w O0 k)/\∀k,Fr j w O k->Fr 3 w O0 k :=
  ⟨_,⟨_,Lbl.two hi hj,rfl⟩,(Lbl.two hi hj).fr0,λk hk=>⟨hk.1,by simp[hk.2,hi]⟩,λk hk=>⟨hk.1,by simp[hk.2,hj,X0 a]⟩⟩
theorem Ent.leave{T:Nat->Prop}{w w':World}{O O0 O':Lab}(h:Ent T O O0)(g:Nat->Nat)(b:g 0=0)(c:Bm w O0 w' O') :
    ∃a,St T w O w' a/\(∀k,Fr 0 w' O' k->Fr 0 w' a k)/\∀j,j≠0->j≠1->∀k,Fr j w' O' k->Fr (g j) w' a k:=by
  obtain⟨f,hf,rfl⟩:=h;exact Bm.leave g hf b c
theorem ZN{P:Program}{l:Env}{w:World}{b:Func}{R:Value->World->Prop}(hr:b.results=#[])(h:R (.tuple #[]) w):X6 P b R .normal l w:=⟨_,λn a d c=>by simp[Kj,hr],h⟩
class Ow(α:Type) where
  R:World->(Nat->Prop)->(Nat->Prop)->Value->α->Prop
  agree:∀{w w':World}{F M:Nat->Prop}{v:Value}{x:α},R w F M v x->Agree F w w'->Agree M w w'->R w' F M v x
  mono:∀{w:World}{F M F' M':Nat->Prop}{v:Value}{x:α},R w F M v x->(∀k,F k->F' k)->(∀k,M k->M' k)->(∀k,F' k->¬M' k)->R w F' M' v x
class OwP(α:Type)[Ow α]:Prop where
  ptr:∀{w:World}{F M:Nat->Prop}{v:Value}{x:α},Ow.R w F M v x->∃g,v=.pointer (some ⟨g,0,none⟩)
def Ob{α:Type}[Ow α](i:Nat)(w:World)(O:Lab)(v:Value)(x:α):Prop:=Ow.R w (Fr 0 w O) (Fr i w O) v x/\i≠0
theorem AcQ{i j:Nat}(h:i≠j){w:World}{O:Lab}:∀k,Fr i w O k->¬Fr j w O k:=λ_ a b=>h (a.2.symm.trans b.2)
theorem Y9{j:Nat}(h:j≠0){w:World}{O:Lab}:∀k,Fr 0 w O k->¬Fr j w O k:=AcQ (X0 h)
section
variable {α:Type}[Ow α]{T:Nat → Prop}{i:Nat}{w w':World}{O O':Lab}{v:Value}{x:α}
theorem Ob.st(h:Ob i w O v x)(a:St T w O w' O')(b:¬T 0:=by decide)(hi:¬T i:=by decide):Ob i w' O' v x :=
  ⟨Ow.mono (Ow.agree h.1 (a.agree b) (a.agree hi)) (a.fr b) (a.fr hi) (Y9 h.2),h.2⟩
theorem Ob.ptr[OwP α](h:Ob i w O v x):∃g,v=.pointer (some ⟨g,0,none⟩):=OwP.ptr h.1
theorem Ob.leave{j:Nat}(h:Ob i w O v x)(a:∀k,Fr 0 w O k->Fr 0 w O' k)(b:∀k,Fr i w O k->Fr j w O' k)(hj:j≠0):Ob j w O' v x:=⟨Ow.mono h.1 a b (Y9 hj),hj⟩
end
def Obo{α:Type}[Ow α](i:Nat)(w:World)(O:Lab)(v:Value):Option α->Prop
  |none=>v=.pointer none
  |some x=>Ob i w O v x
theorem Obo.st{α:Type}[Ow α]{T:Nat->Prop}{i:Nat}{w w':World}{O O':Lab}{v:Value}{x:Option α}(h:Obo i w O v x)(a:St T w O w' O')(b:¬T 0:=by decide)(hi:¬T i:=by decide):Obo i w' O' v x:=by
  cases x with
  |none=>exact h
  |some x=>exact Ob.st h a b hi
theorem Obo.ptrq{α:Type}[Ow α][OwP α]{i:Nat}{w:World}{O:Lab}{v:Value}:∀{x:Option α},Obo i w O v x->∃a,v=.pointer a/\a.isNone=x.isNone
  |none,h=>⟨none,h,rfl⟩
  |some _,h=>by obtain⟨g,rfl⟩:=Ob.ptr h;exact⟨_,rfl,rfl⟩
theorem Tf{a b:Option Addr}(h:Value.pointer a=.pointer b):a=b:=by injection h
def RwM{α:Type}[Rp α](w:World)(F M:Nat->Prop)(e:TypeId)(v:Value)(xs:List α):Prop:=Own w 0 F e v xs/\∀g,v.ownBlock=some g->M g
section
variable {α:Type}[Rp α]{i:Nat}{w w':World}{O O':Lab}{v:Value}{xs:List α}{e:TypeId}{F M F' M':Nat → Prop}
theorem RwM.agree(h:RwM w F M e v xs)(a:Agree F w w')(b:Agree M w w'):RwM w' F M e v xs:=⟨h.1.agree a λg c=>b g (h.2 g c),h.2⟩
theorem RwM.mono(h:RwM w F M e v xs)(c:∀k,F k->F' k)(b:∀k,M k->M' k)(d:∀k,F' k->¬M' k):RwM w F' M' e v xs :=
  ⟨h.1.mono c λg a hf=>d g hf (b g (h.2 g a)),λg a=>b g (h.2 g a)⟩
theorem RwM.rw(h:RwM w F M e v xs)(c:∀k,F k->Fr 0 w O k)(b:∀k,M k->Fr i w O k)(hi:i≠0):Rw i w O e v xs :=
  ⟨h.1.mono c λg a hf=>Y9 hi g hf (b g (h.2 g a)),λg a=>(b g (h.2 g a)).2,hi⟩
theorem Rw.m(h:Rw i w O e v xs)(c:∀k,Fr 0 w O k->F k)(b:∀k,Fr i w O k->M k)(d:∀k,F k->¬M k):RwM w F M e v xs :=
  ⟨h.1.mono c λg a hf=>d g hf (b g ⟨(h.1.lt g a).2,h.2.1 g a⟩),λg a=>b g ⟨(h.1.lt g a).2,h.2.1 g a⟩⟩
end
theorem Rw.leave{α:Type}[Rp α]{i j:Nat}{w:World}{O O':Lab}{e:TypeId}{v:Value}{xs:List α}(h:Rw i w O e v xs)(a:∀k,Fr 0 w O k->Fr 0 w O' k)(b:∀k,Fr i w O k->Fr j w O' k)(hj:j≠0):Rw j w O' e v xs:=(h.m (λ_ h=>h) (λ_ h=>h) (Y9 h.2.2)).rw a b hj
theorem Abi{α:Type}[Rp α]{i:Nat}{w:World}{O:Lab}{e:TypeId}{A:Option Addr}{m c:Nat}{q:Int}{xs u:List α}(h:Rw i w O e (.slice A m c) xs)(he:Zl xs 0 q=some u):Rw i w O e (.slice A u.length c) u/\Aav (Rp.size α) A m c 0 q A u.length c:=by
  obtain⟨a,b,ha,rfl,h1,h2,rfl⟩:=Qw he;obtain rfl:a=0:=(by omega);obtain⟨hm,hc,hc2⟩:=h.len;have hl:((xs.take b).drop 0).length=b:=(by simp;omega);rw[hl];have d:(Value.slice A b c).ownBlock=(Value.slice A m c).ownBlock:=(by cases A<;>rfl);refine⟨⟨?_,by rw[d];exact h.2.1,h.2.2⟩,0,b,rfl,rfl,W6 _,by omega,hc,?_⟩
  . obtain⟨cells,k,o2,o3⟩:=h.1;refine⟨cells.take (b*Rp.size α),⟨by rw[P9,o2.length,hl,R7 (G9 _ h2)],?_⟩,by simpa using o2.take b,by rw[d];exact o3⟩;rcases k.2 with⟨hv,hn⟩|⟨g,cap,cur,hv,hg,hh,hnc,hcm,hcs,hcur⟩
    . injection hv with f l j;have:b=0:=(by omega);subst this;exact .inl ⟨by rw[f,j],hl⟩
    . injection hv with f l j;refine .inr ⟨g,cap,cur,by rw[f,j,hl],hg,hh,by omega,hcm,hcs,?_⟩;rw[hl,<- hcur,List.take_take,R7 (G9 _ h2)]
  . have:(A.map (·.add (0*Rp.size α)))=A:=by
      cases A with
      |none=>rfl
      |some n=>obtain⟨o,o',p'⟩:=n;simp[Addr.add]
    split<;>simp_all
def part(O:Lab)(i:Nat)(L:Lab)(ls:List Nat):Lab:=λk=>if O k=i then ls.getD (L k) (ls.headD 2)else O k
def ZU(O:Lab)(i:Nat)(ls:List Nat):Lab:=λk=>if O k∈ls then i else O k
section
variable {i:Nat}{w:World}{O L:Lab}{ls:List Nat}
theorem Jx(h:i≠0):St (eT i) w O w (part O i L ls):=⟨rfl,rfl,rfl,W3 _,λ_ _ hk=>⟨rfl,if_neg hk⟩⟩
theorem Cq(h:i≠0):∀k,Fr 0 w O k->Fr 0 w (part O i L ls) k:=λk hk=>⟨hk.1,by unfold part;rw[if_neg (λe=>h (e.symm.trans hk.2))];exact hk.2⟩
theorem Eg{j q:Nat}(hj:ls[j]?=some q):∀k,(Fr i w O k/\L k=j)->Fr q w (part O i L ls) k:=λk hk=>⟨hk.1.1,by unfold part;rw[if_pos hk.1.2,hk.2];simp[hj]⟩
theorem IL(hl:ls≠[]):∀k,Fr i w O k->∃q,q∈ls/\Fr q w (part O i L ls) k:=λk hk=>by
  refine⟨part O i L ls k,?_,hk.1,rfl⟩;unfold part;rw[if_pos hk.2];cases h:ls[L k]? with
  |some q=>rw[B9,h];exact H2 h
  |none =>
    rw[B9,h];cases ls with
    |nil=>exact absurd rfl hl
    |cons a l=>simp
theorem IM:St (·∈ls) w O w (ZU O i ls):=⟨rfl,rfl,rfl,W3 _,λ_ _ hk=>⟨rfl,if_neg hk⟩⟩
theorem BL(h:¬0∈ls):∀k,Fr 0 w O k->Fr 0 w (ZU O i ls) k:=λk hk=>⟨hk.1,by unfold ZU;rw[if_neg (by rw[hk.2];exact h)];exact hk.2⟩
theorem HU:∀q,q∈ls->∀k,Fr q w O k->Fr i w (ZU O i ls) k:=λq a k hk=>⟨hk.1,by unfold ZU;rw[if_pos (by rw[hk.2];exact a)]⟩
theorem DB{j q:Nat}(hj:ls.idxOf q=j)(a:q∈ls):∀k,Fr q w O k->Fr i w (ZU O i ls) k/\ls.idxOf (O k)=j:=λk hk=>⟨⟨hk.1,by unfold ZU;rw[if_pos (by rw[hk.2];exact a)]⟩,by rw[hk.2];exact hj⟩
end
theorem Vb.cells1{α:Type}[Rp α]{w:World}{F:Nat->Prop}{v:Value}{x:α}(h:Vb w F v x)(a:Rp.isAgg α=false:=by rfl):Rp.R w F [v] x:=by
  unfold Vb at h;rw[a]at h;exact h
structure BxR(t e:TypeId)(α:Type) where
  l:List α
instance{t e:TypeId}{α:Type}[Rp α]:Ow (BxR t e α) where
  R w F M v x:=∃(g:Nat) (L:Lab) (c0:Value),v=.pointer (some ⟨g,0,none⟩)/\Blk w g t [c0]/\M g/\L g=0/\RwM w F (λk=>M k/\L k=1) e c0 x.l
  agree:=by rintro w w' F M v x ⟨g,L,c0,rfl,hb,hM,hL,h0⟩ a1 a2;exact⟨g,L,c0,rfl,hb.keep (a2 g hM),hM,hL,h0.agree a1 λk hk=>a2 k hk.1⟩
  mono:=by rintro w F M F' M' v x ⟨g,L,c0,rfl,hb,hM,hL,h0⟩ a1 a2 a3;exact⟨g,L,c0,rfl,hb,a2 g hM,hL,h0.mono a1 (λk hk=>⟨a2 k hk.1,hk.2⟩) λk hf hm=>a3 k hf hm.1⟩
theorem BxR.opn{t e:TypeId}{α:Type}[Rp α]{i:Nat}{w:World}{O:Lab}{p:Nat}{x:BxR t e α}(h:Ob i w O (.pointer (some ⟨p,0,none⟩)) x)(l0 l1:Nat)(hl:l0≠0/\l1≠0):∃(O':Lab) (c0:Value),St (eT i) w O w O'/\(∀k,Fr i w O k->∃q,q∈[l0,l1]/\Fr q w O' k)/\Lc l0 w O' p t [c0]/\Rw l1 w O' e c0 x.l:=by
  obtain⟨⟨g,L,c0,hv,hb,hM,hL,h0⟩,hi⟩:=h;obtain rfl:p=g:=(by injection hv with hv;injection hv with hv;injection hv);exact⟨part O i L [l0,l1],c0,Jx hi,IL (by simp),⟨hb,(Eg (j:=0) rfl p ⟨hM,hL⟩).2⟩,h0.rw (Cq hi) (Eg (j:=1) rfl) hl.2⟩
theorem BxR.shut{t e:TypeId}{α:Type}[Rp α]{w:World}{O:Lab}{p:Nat}{x:BxR t e α}{l0 l1:Nat}{c0:Value}(hd:¬0∈[l0,l1]/\[l0,l1].idxOf l0=0/\[l0,l1].idxOf l1=1)(hb:Lc l0 w O p t [c0])(f:Rw l1 w O e c0 x.l):∃O',St (·∈[l0,l1]) w O w O'/\(∀k,Fr 0 w O k->Fr 0 w O' k)/\(∀q,q∈[l0,l1]->∀k,Fr q w O k->Fr l0 w O' k)/\Ob l0 w O' (.pointer (some ⟨p,0,none⟩)) x:=by
  have c:l0≠0:=λe=>hd.1 (by simp[e]);have d:=DB (i:=l0) hd.2.1 (by simp) p ⟨hb.1.lt,hb.2⟩;exact⟨ZU O l0 [l0,l1],IM,BL hd.1,HU,⟨p,λk=>[l0,l1].idxOf (O k),c0,rfl,hb.1,d.1,d.2,f.m (BL hd.1) (DB hd.2.2 (by simp)) (λk a b=>Y9 c k a b.1)⟩,c⟩
section
variable {P:Program}{n:Nat}{ops:Array Oper}{Q:YX}{rest:List Oper}{l:Env}{w:World}{d:Tmp}{ty:TypeId}{pos:String}{aft:Array Edge}
theorem Oy{T:Nat->Prop}{f:FuncId}[Callable P f]{y:Operand}{xs:List Operand}{vs caps a:List Value}{b:Array TypeId}{O:Lab}{R:Value->World->Lab->Prop}
    (hc:Fn P f a w λv w'=>∃O',St T w O w' O'/\R v w' O') (c:opv l y=some (.func (.func f) #[] caps.toArray)) (e:Y3 l xs=some vs) (g:vs++caps=a) (hd:Nat.blt d n=true)
    (h:∀v w' O',St T w O w' O'->R v w' O'->owp P n ops Q rest ((d,v)::l) w'):owp P n ops Q (⟨some d,.call { callee:=.value y,args:=xs.toArray,argTypes:=b },ty,pos,aft,none⟩::rest) l w:=by
  subst g;exact JT c e hd hc λv w' ⟨O',hS,hR⟩=>h v w' O' hS hR
theorem Oz{f:FuncId}[Callable P f]{y:Operand}{xs:List Operand}{vs caps a:List Value}{c:Array TypeId}{O:Lab}{A:Nat->Prop}{R:World->(Nat->Prop)->Value->Prop}(hc:Fn P f a w λv w'=>Ext w w'/\R w' (upA A w w') v)(e:opv l y=some (.func (.func f) #[] caps.toArray))(g:Y3 l xs=some vs)(i:vs++caps=a)(hd:Nat.blt d n=true)
    (h:∀v w' O',St nT w O w' O'->R w' (upA A w w') v->owp P n ops Q rest ((d,v)::l) w'):owp P n ops Q (⟨some d,.call { callee:=.value y,args:=xs.toArray,argTypes:=c },ty,pos,aft,none⟩::rest) l w:=by
  subst i;exact JT (R:=λv w'=>Ext w w'/\R w' (upA A w w') v) e g hd hc λv w' b=>h v w' (upO O w.heap.size λ_=>0) (b.1.st O _) b.2
end
def FrS(ls:List Nat)(w:World)(O:Lab):Nat->Prop:=λk=>k<w.heap.size/\(O k=0\/O k∈ls)
section
variable {α:Type}[Rp α]{T:Nat → Prop}{i l:Nat}{ls ls' lo:List Nat}{w w':World}{O O':Lab}{v:Value}{x:α}{xs:List α}{e:TypeId}
theorem St.agreeS(a:St T w O w' O')(b:¬T 0)(hl:∀q∈ls,¬T q):Agree (FrS ls w O) w w':=λk hk=>(a.same k hk.1 (by rcases hk.2 with e|e;rw[e];exact b;exact hl _ e)).1
theorem Vb.stS(h:Vb w (FrS ls w O) v x)(a:St T w O w' O')(b:¬T 0:=by decide)(hl:∀q∈ls,¬T q:=by decide):Vb w' (FrS ls w' O') v x :=
  (h.agree (a.agreeS b hl)).mono λk hk=>by
    have:=(a.same k hk.1 (by rcases hk.2 with e|e;rw[e];exact b;exact hl _ e)).2;exact⟨K5 hk.1 a.size,by rw[this];exact hk.2⟩
theorem Rw.lend(h:Rw l w O e v xs)(ls:List Nat)(hl:l∈ls):Vb w (FrS ls w O) v xs:=h.1.vb.mono λk hk=>by
  rcases hk with hk|hk
  . exact⟨hk.1,.inl hk.2⟩
  . exact⟨(h.1.lt k hk).2,.inr (by rw[h.2.1 k hk];exact hl)⟩
theorem Vb.shutS(h:Vb w (FrS ls w O) v x)(b:St (·∈lo) w O w O')(hz:∀k,Fr 0 w O k->Fr 0 w O' k)(c:∀q,q∈lo->∀k,Fr q w O k->Fr i w O' k)(ls':List Nat)(hl:∀q∈ls,q∈lo/\i∈ls'\/¬q∈lo/\q∈ls'):Vb w (FrS ls' w O') v x:=h.mono λk hk=>by
  refine⟨hk.1,?_⟩;rcases hk.2 with e|e
  . exact .inl (hz k ⟨hk.1,e⟩).2
  . rcases hl _ e with⟨a,h2⟩|⟨a,h2⟩
    . right;rw[(c _ a k ⟨hk.1,rfl⟩).2];exact h2
    . right;rw[(b.same k hk.1 a).2];exact h2
theorem Vb.opnS(h:Vb w (FrS ls w O) v x)(b:St (eT i) w O w O')(hi:i≠0)(c:∀k,Fr i w O k->∃q,q∈lo/\Fr q w O' k)(ls':List Nat)(hl:(∀q∈ls,q≠i->q∈ls')/\∀q∈lo,q∈ls'):Vb w (FrS ls' w O') v x:=h.mono λk hk=>by
  refine⟨hk.1,?_⟩;by_cases a:O k=i
  . obtain⟨q,h1,h2⟩:=c k ⟨hk.1,a⟩;right;rw[h2.2];exact hl.2 q h1
  . rw[(b.same k hk.1 a).2];rcases hk.2 with e|e
    . exact .inl e
    . exact .inr (hl.1 _ e a)
end
end
section
open Go Go.RowKit
def Bc:List Nat->List (Nat×Bool)
  |[]=>[]
  |i::r=>(i,true)::Bc r
def Db(a:Nat):Nat->List Nat
  |0=>[]
  |n+1=>a::Db (a+1) n
def ZV(P:Program)(ops:Array Oper)(Q:Exit→Act→World→Prop)(S:Array Bool→World→Prop):Nat→Array Bool→Act→World→Prop
  |0,b,a,w=>Region.ready .any ops b=[]/\Q .normal a w
  |fuel+1,b,a,w =>
    (Region.ready .any ops b=[]->Q .normal a w) /\
    ∀i∈Region.ready .any ops b,wpOp P ops Q i (λa' w'=>(ZJ ops i=false->S (b.setIfInBounds i true) w')/\ZV P ops Q S fuel (b.setIfInBounds i true) a' w') a w
theorem Pk{P:Program}{ops:Array Oper}{Q:Exit->Act->World->Prop}{S:Array Bool->World->Prop}:∀(fuel:Nat)(b:Array Bool)(a:Act)(w:World),ZV P ops Q S fuel b a w->wpAny P .any ops Q fuel b a w
  |0,_,_,_,h=>h
  |fuel+1,_,_,_,h=>⟨h.1,λi hi=>wpOp_mono (λa' w' c=>Pk fuel _ a' w' c.2) (h.2 i hi)⟩
theorem Rt{P:Program}{ops:Array Oper}{Q:Exit→Act→World→Prop}{S:Array Bool→World→Prop}{O:World→Prop}{i:Nat}{s:Oper}{v:Value}(hi:ops[i]?=some s)(p:∀(j:Nat)(o:Oper) cs b,ops[j]?=some o→o.op≠.select cs b)
    (U:∀c a w,Q (.panic c) (a.put s.dst v) w->Q (.panic c) a w) (u:∀d w,S (d.setIfInBounds i true) w->S d w) (g:∀d w,S d w->S (d.setIfInBounds i true) w)
    (x:∀d w,Closed ops d->i∈Region.ready .any ops d->S d w->O w) :
    ∀(fuel:Nat)(d:Array Bool)(a:Act)(w:World),Closed ops d ->
      (∀j q,ops[j]?=some q->j≠i->d.getD j true=false->(∀e∈q.after,Region.binds .any e=true->e.on≠i)->s.apart ops q=true) ->
      i∈Region.ready .any ops d->YieldsIf P ops O s v a->S d w ->
      ZV P ops Q S fuel (d.setIfInBounds i true) (a.put s.dst v) w->ZV P ops Q S (fuel+1) d a w:=by
  intro fuel
  induction fuel with
  |zero =>
    intro d a w l _ hr E y X;refine⟨λh=>(by rw[h]at hr;cases hr),λj hj=>?_⟩;by_cases f:j=i
    . subst f;exact E.wpOp hi (x _ _ l hr y) ⟨λ_=>g _ _ y,X⟩
    . have:=ready_mono hj f;rw[X.1]at this;cases this
  |succ fuel V =>
    intro d a w l m hr E y X;refine⟨λh=>(by rw[h]at hr;cases hr),λj hj=>?_⟩;by_cases f:j=i
    . subst f;exact E.wpOp hi (x _ _ l hr y) ⟨λ_=>g _ _ y,X⟩
    . have t:=X.2 j (ready_mono hj f);obtain⟨r,q,hoj,hall⟩:=mem_ready.1 hj;have z:∀e∈q.after,Region.binds .any e=true->e.on≠i:=λe he hb G=>by
        have t:=hall e he hb;have R:=(mem_ready.1 hr).1;rw[G]at t;rcases U8 i d.size with h'|h'
        . simp[h']at R t;rw[R]at t;cases t
        . simp[E9 h']at t
      have H:=m j q hoj f r z;have I:i∈Region.ready .any ops (d.setIfInBounds j true):=ready_mono hr (X0 f);have J:i<ops.size:=by
        rcases U8 i ops.size with h|h
        . exact h
        . rw[E9 h]at hi;cases hi
      have K:ZJ ops j=false:=by
        cases hl:ZJ ops j with
        |false=>rfl
        |true =>
          exfalso;have h4:=P7.1 hl i (T4.2 J);rw[R2]at h4;rcases h4 with h4|h4
          . exact f (by simpa using h4:i=j).symm
          . have F:=IH l ops.size j i q hoj hall h4;have T:=(mem_ready.1 hr).1;rcases U8 i d.size with h'|h'
            . simp[h']at F T;rw[T]at F;cases F
            . simp[E9 h']at F
      have n:∀k A,ops[k]?=some A->k≠i->(d.setIfInBounds j true).getD k true=false ->
          (∀e∈A.after,Region.binds .any e=true->e.on≠i)->s.apart ops A=true:=λk A hk L B M=>by
        refine m k A hk L ?_ M;by_cases C:j=k
        . subst C;exact r
        . rw[getD_set_ne true C]at B;exact B
      have W:=wpOp_putIf hoj H (λcs b=>p i s cs b hi) (λcs b=>p j q cs b hoj) U E t;refine wpOp_mono (λa' w' N=>?_) W;have D:S (d.setIfInBounds j true) w':=u _ _ (by
        have:=N.2.1 K;rwa[D0 _ _ (X0 f)]at this)
      refine⟨λ_=>D,V (d.setIfInBounds j true) a' w' (l.set hj) n I N.1 D ?_⟩;rw[D0 _ _ f];exact N.2.2
theorem NY{P:Program}{ops:Array Oper}{Q:Exit->Act->World->Prop}{S e:Array Bool->World->Prop}(c:Array Bool->Prop)(d:∀b i,c b->c (b.setIfInBounds i true))(f:∀b w,c b->e b w->S b w) :
    ∀(fuel:Nat)(b:Array Bool)(a:Act)(w:World),c b->ZV P ops Q e fuel b a w->ZV P ops Q S fuel b a w
  |0,_,_,_,_,h=>h
  |fuel+1,b,_,_,hp,h=>⟨h.1,λi hi=>wpOp_mono (λa' w' g=>⟨λhl=>f _ _ (d _ i hp) (g.1 hl),NY c d f fuel _ a' w' (d _ i hp) g.2⟩) (h.2 i hi)⟩
def tcs(acts:List (Nat×List Nat))(a:Array Bool):List Nat:=(acts.filter λp=>a.getD p.1 false).flatMap (·.2)
def tci(ops:Array Oper)(acts:List (Nat×List Nat))(i:Nat):List Nat:=(acts.filter λp=>!comesB ops ops.size p.1 i).flatMap (·.2)
def Sx(acts:List (Nat×List Nat))(w0:World)(O0:Lab)(a:Array Bool)(w:World):Prop:=∃d b,St (·∈tcs acts a) w0 O0 (dr w d) b
theorem St.mono{d a:Nat->Prop}{w w':World}{O b:Lab}(h:St d w O w' b)(c:∀i,d i->a i):St a w O w' b :=
  ⟨h.os,h.tape,h.output,h.size,λk hk hn=>h.same k hk λe=>hn (c _ e)⟩
theorem St.lst{c:Nat->Prop}{w w':World}{O a:Lab}(h:St c w O w' a)(ls:List Nat)(b:∀i,c i->i∈ls):St (·∈ls) w O w' a:=h.mono b
theorem lZ{w w':World}{O a:Lab}(h:St nT w O w' a):St (·∈([]:List Nat)) w O w' a:=h.lst [] λ_ h=>h.elim
theorem St.cmp{g:Nat->Prop}{ls:List Nat}{w w' b:World}{O d c:Lab}(h:St (·∈ls) w O w' d)(k:St g w' d b c)(a:List Nat)(e:∀i,g i->i∈a)(hl:(ls.all (a.contains ·))=true):St (·∈a) w O b c :=
  St.comp (h.mono λq f=>by simpa using P7.1 hl q f) (k.mono e) λ_ h=>h
theorem Tg{acts:List (Nat×List Nat)}{i:Nat}(hi:(acts.any (·.1==i))=false)(a:Array Bool):tcs acts (a.setIfInBounds i true)=tcs acts a:=by
  unfold tcs;congr 1;apply M3;intro p c;have:p.1≠i:=λe=>by
    have b:(acts.any (·.1==i))=true:=List.any_eq_true.2 ⟨p,c,by simp[e]⟩;rw[hi]at b;cases b
  exact getD_set_ne false (X0 this)
theorem WJ{ops:Array Oper}{acts:List (Nat×List Nat)}{i:Nat}{a:Array Bool}(hb:(acts.all λp=>(ops[p.1]?).isSome)=true)(b:Closed ops a)(hr:i∈Region.ready .any ops a):∀q,q∈tcs acts a->q∈tci ops acts i:=by
  intro q c;unfold tcs at c;unfold tci;rw[Q2]at c ⊢;obtain⟨p,hp,c⟩:=c;rw[R8]at hp;refine⟨p,R8.2 ⟨hp.1,?_⟩,c⟩;cases hc:comesB ops ops.size p.1 i with
  |false=>rfl
  |true =>
    exfalso;have f:=hp.2;have hs:=P7.1 hb p hp.1;obtain⟨o,ho⟩:=Option.isSome_iff_exists.1 hs;have d:=IH b ops.size p.1 i o ho (λe he g=>b p.1 o f ho e he g) hc;have h:=(mem_ready.1 hr).1;rcases U8 i a.size with h'|h'
    . simp[h']at d h;rw[h]at d;cases d
    . simp[E9 h']at d
def hwx(P:Program)(n:Nat)(ops:Array Oper)(Q:YX)(acts:List (Nat×List Nat))(w0:World)(O0:Lab)(fuel:Nat)(b:Array Bool)(l:Env)(w:World):Prop :=
  Closed ops b->∀a d,Ok n a l->ZV P ops (ZE n Q) (Sx acts w0 O0) fuel b a (dr w d)
def Y6(P:Program)(n:Nat)(ops:Array Oper)(Q:YX)(acts:List (Nat×List Nat))(w0:World)(O0:Lab)(i:Nat)(fuel:Nat)(a:Array Bool):YX
  |.normal,l,w=>(ZJ ops i=false->Sx acts w0 O0 (a.setIfInBounds i true) w)/\hwx P n ops Q acts w0 O0 fuel (a.setIfInBounds i true) l w
  |_,_,_=>False
abbrev SS(w0:World)(O0:Lab)(ls:List Nat):World->Prop:=λw'=>∃O',St (·∈ls) w0 O0 w' O'
section
variable {ls:List Nat}{w:World}{O:Lab}{i j b o g:Nat}{t:TypeId}{cs:List Value}{v0:Value}
theorem OA(a:Fr i w O b)(hd:cellsAt w b o cs)(hi:¬i∈ls:=by decide):∀w',SS w O ls w'->cellsAt w' b o cs:=λ_ ⟨_,hq⟩=>Ct (hq.agree hi) a hd
theorem Kd(a:Fr i w O b)(hd:cellsAt w b o (v0::cs))(hi:¬i∈ls:=by decide):∀w',SS w O ls w'->w'.cell? ⟨b,o,none⟩=some v0:=λ_ ⟨_,hq⟩=>(Ct (hq.agree hi) a hd).1
theorem Mc(h:Lc j w O g t cs)(hj:¬j∈ls:=by decide):∀w',SS w O ls w'->cellsAt w' g 0 cs:=λ_ ⟨_,hq⟩=>((h.st hq hj).1).cellsAt
theorem BD(h:Lc j w O g t cs)(i:Nat)(hc:cs[i]?=some v0)(hj:¬j∈ls:=by decide):∀w',SS w O ls w'->w'.cell? ⟨g,i,none⟩=some v0:=λ_ ⟨_,hq⟩=>Blk.cell (i:=i) ((h.st hq hj).1) hc
end
theorem Bo{m x c:Nat}(h:m=x/\m<=c/\c<=9223372036854775807):m<=9223372036854775807:=V6 h.2.1 h.2.2
theorem Sx.dr{acts:List (Nat×List Nat)}{w0 w:World}{O0:Lab}{a:Array Bool}(h:Sx acts w0 O0 a w)(d:Nat):Sx acts w0 O0 a (dr w d):=by
  obtain⟨e,O',h⟩:=h;exact⟨e,O',h⟩
theorem Pm{P:Program}{ops:Array Oper}{Q l:Exit→Act→World→Prop}{acts:List (Nat×List Nat)}{w0:World}{O0:Lab}{fuel:Nat}(ls:List Nat)(hs:Region.noSelect ops=true)(hb:(acts.all λp=>(ops[p.1]?).isSome)=true)(m:∀c a w,¬Q (.panic c) a w) :
    ∀(e:List (Nat×Bool))(b:Array Bool)(a:Act)(w:World),Closed ops b->Aao ops b e=true->(e.all λp=>(tci ops acts p.1).all (ls.contains ·) && !acts.any (·.1==p.1))=true->Sx acts w0 O0 b w ->
      (∀a w,Closed ops (Aam b e)->l .normal a w->ZV P ops Q (Sx acts w0 O0) fuel (Aam b e) a w)->Z9 P ops l (λw'=>∃j,SS w0 O0 ls (dr w' j)) e a w->ZV P ops Q (Sx acts w0 O0) (e.length+fuel) b a w
  |[],b,a,w,hcl,_,_,_,hk,h=>by rw[R5,V0];exact hk a w hcl h
  |(i,  true)::r,b,a,w,hcl,hc,hl,g,hk,h=>by
    simp only[Aao,P6]at hc;rw[U0,P6,P6]at hl;obtain⟨o,v,ho,hy,hr⟩:=h;have hi:i∈Region.ready .any ops b:=(by simpa using hc.1);have f:(acts.any (·.1==i))=false:=(by simpa using hl.1.2);have s:∀b w,Sx acts w0 O0 (b.setIfInBounds i true) w->Sx acts w0 O0 b w:=λb w h=>(by unfold Sx at *;rwa[Tg f]at h);have n:∀b w,Sx acts w0 O0 b w->Sx acts w0 O0 (b.setIfInBounds i true) w:=λb w h=>(by unfold Sx at *;rwa[Tg f]);have:=Rt ho (G8 hs) (λc a w k=>(m c _ _ k).elim) s n (λb w hc hr ⟨d,O',g⟩=>(⟨d,O',g.mono λq k=>by
        have:=P7.1 hl.1.1 q (WJ hb hc hr q k);simpa using this⟩:∃j,SS w0 O0 ls (Proofs.YtonclmjaphieiaaGreat.dr w j))) (r.length+fuel) b a w hcl (Region.free_spec ho hc.2.1) hi hy g (Pm ls hs hb m r _ _ w (hcl.set hi) hc.2.2 hl.2 (n _ _ g) hk hr)
    rwa[P3,show r.length+1+fuel=r.length+fuel+1 from by omega]
  |(i,false)::r,b,a,w,hcl,hc,_,_,_,_=>by simp[Aao]at hc
section
variable {P:Program}{n:Nat}{ops:Array Oper}{Q:YX}{acts:List (Nat × List Nat)}{w0:World}{O0:Lab}{l:Env}{w:World}
theorem XA{fuel f:Nat}{b:Array Bool}(ls:List Nat)(d:List (Nat×Bool))(hs:(Region.noSelect ops&&(acts.all λp=>(ops[p.1]?).isSome)&&Aao ops b d&&(d.all λp=>(tci ops acts p.1).all (ls.contains ·) && !acts.any (·.1==p.1)))=true)(hl:d.length+fuel=f)
    (h:hwp P n ops (thn (hwx P n ops Q acts w O0 fuel (Aam b d)) λ_ _ _=>False) (SS w O0 ls) d l w):hwx P n ops Q acts w O0 f b l w:=λi a e j=>by
  subst hl;simp only[P6]at hs;obtain⟨⟨⟨k,h2⟩,h3⟩,h4⟩:=hs;refine Pm (P:=P) ls k h2 (Q:=ZE n Q) (λc a w m=>m.1) d b a (dr w e) i h3 (by simpa using h4) ⟨w.drawn,O0,St.refl _ _ _⟩ ?_ (h a e j);rintro a' w' g ⟨_,l',w₀,d',rfl,ho,hh⟩;exact hh g a' d' ho
theorem Jy{fuel i:Nat}{o:Oper}{b:Array Bool}(hi:ops[i]?=some o)(hr:i∈Region.ready .any ops b)(h:owp P n ops (Y6 P n ops Q acts w0 O0 i fuel b) [o] l w)(k:Closed ops b)(a:Act)(e:Nat)(s:Ok n a l) :
    wpOp P ops (ZE n Q) i (λa' w'=>(ZJ ops i=false->Sx acts w0 O0 (b.setIfInBounds i true) w')/\ZV P ops (ZE n Q) (Sx acts w0 O0) fuel (b.setIfInBounds i true) a' w') a (dr w e):=by
  have d:=h a e s;unfold wpList at d;unfold wpOp;simp only[hi];have conv:∀a' w',ZE n (Y6 P n ops Q acts w0 O0 i fuel b) .normal a' w'->(ZJ ops i=false->Sx acts w0 O0 (b.setIfInBounds i true) w')/\ZV P ops (ZE n Q) (Sx acts w0 O0) fuel (b.setIfInBounds i true) a' w':=by
    rintro a' w' ⟨_,l',w₀,m,rfl,r,hS,p⟩;exact⟨λhl=>(hS hl).dr m,p (k.set hr) a' m r⟩
  have f:∀g a' w',ZE n (Y6 P n ops Q acts w0 O0 i fuel b) g a' w'->g=.normal:=by
    rintro g a' w' ⟨hn,l',w₀,m,rfl,r,p⟩;cases g<;>first|rfl|exact p.elim
  by_cases j:Region.wanted o (yielded ops a.tmps)=true
  . rw[if_pos j]at d;rw[if_pos j];rcases d with d|⟨d,t,w0,h2⟩
    . refine .inl ?_;unfold Oper.wp at *
      generalize (execOp a.eval o).run P (dr w e)=q at *
      cases q with
      |ok u w'  =>
        cases u<;>simp only[Oper.upon]at d ⊢ <;>
          first
            |exact conv _ _ d
            |exact Calls.mono d (λy z he=>by
                cases y with
                |returned v=>exact conv _ _ he
                |panicked c=>exact absurd (f _ _ _ he) (by simp)
                |outgrown=>obtain⟨t,w0,hq⟩:=he;exact absurd (f _ _ _ hq) (by simp))
            |exact Rows.mono d (λ_ _ he=>conv _ _ he)
            |exact d.elim
      |halt x w'=>cases x<;>simp only[Oper.upon]at d ⊢<;>first|exact d.elim|exact absurd (f _ _ _ d) (by simp)
    . exact absurd (f _ _ _ h2) (by simp)
  . rw[if_neg j]at d;rw[if_neg j];exact conv _ _ d
theorem AH{fuel i:Nat}{f:Oper}{b:Array Bool}  (hi:ops[i]?=some f) (h:owp P n ops (Y6 P n ops Q acts w0 O0 i fuel b) [f] l w) (hr:Region.ready .any ops b=[i]:=by kernel_rfl):hwx P n ops Q acts w0 O0 (fuel+1) b l w:=λc a e j=>by
  refine⟨λg=>by rw[hr]at g;simp at g,λk hk=>?_⟩;have d:=hk;rw[hr]at hk;have:k=i:=(by simpa using hk);subst this;exact Jy hi d h c a e j
theorem Hx{fuel i j:Nat}{f g:Oper}{b:Array Bool}  (hi:ops[i]?=some f) (hj:ops[j]?=some g)
    (o:owp P n ops (Y6 P n ops Q acts w0 O0 i fuel b) [f] l w) (p:owp P n ops (Y6 P n ops Q acts w0 O0 j fuel b) [g] l w) (hr:Region.ready .any ops b=[i,j]:=by kernel_rfl):hwx P n ops Q acts w0 O0 (fuel+1) b l w:=λc a e h=>by
  refine⟨λm=>by rw[hr]at m;simp at m,λk hk=>?_⟩;have d:=hk;rw[hr]at hk;have:k=i\/k=j:=(by simpa using hk);rcases this with rfl|rfl
  . exact Jy hi d o c a e h
  . exact Jy hj d p c a e h
theorem Th{fuel i j k:Nat}{h m o:Oper}{b:Array Bool}  (hi:ops[i]?=some h) (hj:ops[j]?=some m) (hk:ops[k]?=some o)
    (r:owp P n ops (Y6 P n ops Q acts w0 O0 i fuel b) [h] l w) (s:owp P n ops (Y6 P n ops Q acts w0 O0 j fuel b) [m] l w) (t:owp P n ops (Y6 P n ops Q acts w0 O0 k fuel b) [o] l w) (hr:Region.ready .any ops b=[i,j,k]:=by kernel_rfl):hwx P n ops Q acts w0 O0 (fuel+1) b l w:=λc a e f=>by
  refine⟨λp=>by rw[hr]at p;simp at p,λq g=>?_⟩;have d:=g;rw[hr]at g;have:q=i\/q=j\/q=k:=(by simpa using g);rcases this with rfl|rfl|rfl
  . exact Jy hi d r c a e f
  . exact Jy hj d s c a e f
  . exact Jy hk d t c a e f
theorem BE{fuel i:Nat}{b:Array Bool}{ls:List Nat}{o:Lab}(f:List (Nat×List Nat))(t:St (·∈ls) w0 O0 w o)  (u:hwx P n ops Q f w o fuel (b.setIfInBounds i true) l w) (hs:(ls.all ((tcs acts (b.setIfInBounds i true)).contains ·)&&f.all (acts.contains ·))=true:=by kernel_rfl):owp P n ops (Y6 P n ops Q acts w0 O0 i fuel b) [] l w:=by
  rw[P6]at hs;have m:∀q,q∈ls->q∈tcs acts (b.setIfInBounds i true):=λq g=>(by simpa using P7.1 hs.1 q g);have r:∀p,p∈f->p∈acts:=λq g=>(by simpa using P7.1 hs.2 q g);refine Js ⟨λ_=>⟨w.drawn,o,t.mono m⟩,λs a d x=>?_⟩;refine NY (λc=>∀j,(b.setIfInBounds i true).getD j false=true->c.getD j false=true) (λc k h j hj=>getD_set_true (h j hj)) ?_ _ _ _ _ (λj hj=>hj) (u s a d x);rintro c v y ⟨e,O'',hS⟩;refine⟨e,O'',((t.mono λq g=>?_).comp (hS.mono λq g=>?_) λ_ h=>h:St (·∈tcs acts c) w0 O0 _ O'')⟩
  . have:=m q g;unfold tcs at this ⊢;rw[Q2]at this ⊢;obtain⟨p,h1,h3⟩:=this;rw[R8]at h1;exact⟨p,R8.2 ⟨h1.1,y _ h1.2⟩,h3⟩
  . unfold tcs at g ⊢;rw[Q2]at g ⊢;obtain⟨p,h1,h3⟩:=g;rw[R8]at h1;exact⟨p,R8.2 ⟨r _ h1.1,h1.2⟩,h3⟩
theorem XB{fuel i:Nat}{a:Array Bool}(hl:ZJ ops i=true)(b:hwx P n ops Q acts w0 O0 fuel (a.setIfInBounds i true) l w):owp P n ops (Y6 P n ops Q acts w0 O0 i fuel a) [] l w:=Js ⟨(λh=>by rw[hl]at h;exact Bool.noConfusion h),b⟩
theorem Bh{a:Array Bool}  (h:Q .normal l w) (hr:Region.ready .any ops a=[]:=by kernel_rfl):hwx P n ops Q acts w0 O0 0 a l w:=λ_ _ _ b=>⟨hr,Kv trivial b h⟩
def AaK(ms:List Nat)(o:Oper):Nat:=o.after.toList.foldl (λm e=>if Region.binds .any e=true then m|||(2 ^ e.on|||ms.getD e.on 0)else m) 0
def Zq:List Oper->List Nat->List Nat
  |[],ms=>ms
  |o::r,ms=>Zq r (ms++[AaK ms o])
def bef(ops:Array Oper)(j k:Nat):Bool:=((Zq ops.toList []).getD j 0).testBit k
theorem NZ{ops:Array Oper}:∀(f j k:Nat),comesB ops f j k=true->comesB ops (f+1) j k=true
  |0,j,k,h=>by simp[comesB]at h
  |f  + 1,j,k,h=>by
    rw[comesB]at h ⊢;cases hj:ops[j]? with
    |none=>rw[hj]at h;simp at h
    |some o =>
      rw[hj]at h;simp only[Option.any_some,K9]at h ⊢;obtain⟨e,he,h⟩:=h;refine⟨e,he,?_⟩;simp only[P6,R2]at h ⊢;refine⟨h.1,h.2.imp id λh=>NZ f e.on k h⟩
theorem Qx{ops:Array Oper}{f g j k:Nat}(h:comesB ops f j k=true)(hl:f<=g):comesB ops g j k=true:=by
  induction hl with
  |refl=>exact h
  |step _ a=>exact NZ _ _ _ a
theorem Qy{ms:List Nat}{k:Nat}:∀(l:List Edge)(m:Nat),(l.foldl (λm e=>if Region.binds .any e=true then m|||(2 ^ e.on|||ms.getD e.on 0)else m) m).testBit k=true→m.testBit k=true∨∃e∈l,Region.binds .any e=true∧(e.on=k∨(ms.getD e.on 0).testBit k=true)
  |[],m,h=>.inl h
  |e  :: l,m,h=>by
    rw[Q9]at h;rcases Qy l _ h with h|⟨a,h1,h2⟩
    . by_cases hb:Region.binds .any e=true
      . rw[if_pos hb,Nat.testBit_or,Nat.testBit_or,Nat.testBit_two_pow,R2,R2]at h;rcases h with h|h|h
        . exact .inl h
        . exact .inr ⟨e,L0,hb,.inl (by simpa using h)⟩
        . exact .inr ⟨e,L0,hb,.inr h⟩
      . rw[if_neg hb]at h;exact .inl h
    . exact .inr ⟨a,H1 _ h1,h2⟩
theorem Ru{ops:Array Oper}:∀(b d:List Oper)(c:List Nat),ops.toList=d++b→c.length=d.length→(∀a k,(c.getD a 0).testBit k=true→comesB ops (a+1) a k=true)→(Zq b c).length=ops.size∧∀a k,((Zq b c).getD a 0).testBit k=true→comesB ops (a+1) a k=true
  |[],d,c,h1,h2,h3=>⟨by rw[Zq,h2,<- I8,h1,R4],h3⟩
  |o  :: b,d,c,h1,h2,h3=>by
    refine Ru b (d++[o]) (c++[AaK c o]) (by rw[h1,M2];rfl) (by simp[h2]) λa k hk=>?_;by_cases g:a<c.length
    . rw[B9,C2 g,<- B9]at hk;exact h3 a k hk
    . by_cases f:a=c.length
      . subst f;have:(c++[AaK c o]).getD c.length 0=AaK c o:=(by simp);rw[this]at hk;rcases Qy _ _ hk with h|⟨e,he,hb,h⟩
        . simp at h
        . have i:ops[c.length]?=some o:=(by rw[<- G0,h1,h2];simp);rw[comesB,i];simp only[Option.any_some,K9,P6,R2];refine⟨e,by simpa using he,hb,?_⟩;rcases h with h|h
          . exact .inl (by simpa using h)
          . have hlt:e.on<c.length:=by
              rcases U8 e.on c.length with h'|h'
              . exact h'
              . rw[B9,F5 h']at h;simp at h
            exact .inr (Qx (h3 _ _ h) hlt)
      . rw[B9,F5 (by simp;omega)]at hk;simp at hk
theorem Qz{ops:Array Oper}{j k:Nat}(h:bef ops j k=true):comesB ops ops.size j k=true:=by
  obtain⟨b,h2⟩:=Ru (ops:=ops) ops.toList [] [] (by simp) rfl (λa k h=>by simp at h);refine Qx (h2 j k h) ?_;rcases U8 j ops.size with h'|h'
  . exact h'
  . unfold bef at h;rw[B9,F5 (by omega)]at h;simp at h
theorem AJ{fuel d:Nat}{b:Array Bool}(ls:List Nat)(c:List (Nat×Bool))  (hl:c.length+fuel=d)
    (h:hwp P n ops (thn (hwx P n ops Q acts w O0 fuel (Aam b c)) λ_ _ _=>False) (SS w O0 ls) c l w) (hs:(Region.noSelect ops&&(acts.all λp=>(ops[p.1]?).isSome)&&Aao ops b c&&(c.all λp=>(acts.all λq=>q.2.all (ls.contains ·)||bef ops q.1 p.1) && !acts.any (·.1==p.1)))=true:=by kernel_rfl):hwx P n ops Q acts w O0 d b l w:=by
  refine XA ls c ?_ hl h;simp only[P6]at hs ⊢;refine⟨hs.1,P7.2 λp g=>?_⟩;have e:=P7.1 hs.2 p g;rw[P6]at e ⊢;refine⟨P7.2 λq f=>?_,e.2⟩;unfold tci at f;rw[Q2]at f;obtain⟨a,ha,hqa⟩:=f;rw[R8]at ha;have h2:=P7.1 e.1 a ha.1;rw[R2]at h2;rcases h2 with h2|h2
  . exact P7.1 h2 q hqa
  . have:=ha.2;rw[Qz h2]at this;simp at this
theorem Cs{fuel i:Nat}{a:Array Bool}  (b:hwx P n ops Q acts w0 O0 fuel (a.setIfInBounds i true) l w) (hl:((List.range ops.size).all λk=>k==i||bef ops i k)=true:=by kernel_rfl):owp P n ops (Y6 P n ops Q acts w0 O0 i fuel a) [] l w:=by
  refine XB ?_ b;refine P7.2 λk hk=>?_;have:=P7.1 hl k hk;rw[R2]at this ⊢;exact this.imp id Qz
theorem BR[hm:Mixed P]{id:Nat}{e:List Oper}(acts:List (Nat×List Nat))(O:Lab)(h:hwx P n e.toArray Q acts w O e.toArray.size (Array.replicate e.toArray.size false) l w):ewp P n (.region id e.toArray true) Q l w:=λa d b =>
  wp_region_any hm.eq (Pk _ _ _ _ (h (λm c hm=>by
      simp only[B4,D1]at hm;split at hm<;>simp at hm) a (d+1) b))
end
end
section
open Go Go.RowKit
def ZH(n:Int):Value:=if n=0 then .nilIface else .iface 59 (.int .i64 n)
theorem JU:ZH 0=.nilIface:=by unfold ZH;rfl
theorem KI{n:Int}(h:n≠0):ZH n=.iface 59 (.int .i64 n):=by unfold ZH;rw[if_neg h]
theorem OB(n:Int):(ZH n).oneCell'=true:=by unfold ZH;split<;>rfl
structure Err where
  n:Int
instance:Rp Err where
  isAgg:=false
  size:=1
  R _ _ cs x:=cs=[ZH x.n]/\X2 x.n
  len:=by rintro w F cs x ⟨rfl,_⟩;rfl
  one:=by
    rintro w F cs x ⟨rfl,_⟩ u hu;have:u=ZH x.n:=(by simpa using hu);subst this;exact OB _
  agree:=λh _=>h
  mono:=λh _=>h
theorem Vb.err{w:World}{F:Nat->Prop}{v:Value}{x:Err}(h:Vb w F v x):v=ZH x.n/\X2 x.n:=by
  obtain⟨a,h2⟩:=h;exact⟨by simpa using a,h2⟩
theorem vErr{w:World}{F:Nat->Prop}{n:Int}(h:X2 n):Vb w F (ZH n) (⟨n⟩:Err):=⟨rfl,h⟩
theorem vErr0{w:World}{F:Nat->Prop}:Vb w F .nilIface (⟨0⟩:Err):=⟨by rw[JU],by decide⟩
end
section
open Go Go.RowKit
inductive Fa:Type 1
  |T
  |V {α:Type} [Rp α] (v:Value) (x:α)
  |R {α:Type} [Rp α] (i:Nat) (e:TypeId) (v:Value) (xs:List α)
  |L (i g:Nat) (t:TypeId) (cs:List Value)
  |C (i b o:Nat) (cs:List Value)
  |W {α:Type} [Rp α] (ls:List Nat) (v:Value) (x:α)
  |B {α:Type} [Ow α] (i:Nat) (v:Value) (x:α)
  |X (p:Prop)
  |S (w0:World) (O0:Lab) (ls:List Nat)
def Fa.P:Fa->World->Lab->Prop
  |.T,_,_=>True
  |@Fa.V _ _ v x,w,O=>Vb w (Fr 0 w O) v x
  |@Fa.R _ _ i e v xs,w,O=>Rw i w O e v xs
  |.L i g t cs,w,O=>Lc i w O g t cs
  |.C i b o cs,w,O=>Fr i w O b/\cellsAt w b o cs
  |@Fa.W _ _ a v x,w,O=>Vb w (FrS a w O) v x
  |@Fa.B _ _ i v x,w,O=>Ob i w O v x
  |.X p,_,_=>p
  |.S c d a,w,O=>St (·∈a) c d w O
def Fa.lab:Fa->List Nat
  |@Fa.R _ _ i _ _ _=>[i]
  |.L i _ _ _=>[i]
  |.C i _ _ _=>[i]
  |@Fa.W _ _ a _ _=>a
  |@Fa.B _ _ i _ _=>[i]
  |_=>[]
def Fa.own:Fa->Nat
  |@Fa.R _ _ i _ _ _=>i
  |.L i _ _ _=>i
  |@Fa.B _ _ i _ _=>i
  |_=>0
def Fa.may(i:Nat):Fa->Bool
  |.S _ _ a=>inK i a
  |_=>true
theorem Uq{i:Nat}:∀{l:List Nat},¬i∈l->inK i l=false
  |[],_=>rfl
  |a  :: l,h=>by
    unfold inK;have b:Nat.beq a i=false:=by
      cases hb:Nat.beq a i with
      |false=>rfl
      |true=>exact absurd (by rw[F4 hb];exact L0) h
    rw[b];exact Uq λhm=>h (H1 _ hm)
theorem Fa.st{m:Nat->Prop}{w w':World}{O O':Lab}:∀{f:Fa}(h:f.P w O)(a:St m w O w' O')(c:¬m 0)(hl:∀i∈f.lab,¬m i)(hs:∀i,m i->f.may i=true),f.P w' O'
  |.T,_,_,_,_,_=>trivial
  |.X _,h,_,_,_,_=>h
  |.S j k d,h,a,_,_,hs=>by
    change St (·∈d) j k _ _ at h;exact St.comp h a λi hi=>by
      have:=hs i hi;exact C4 λhn=>by simp[Fa.may,Uq hn]at this
  |@Fa.V _ _ v x,h,a,c,_,_=>by
    change Vb w (Fr 0 w O) v x at h;exact Vb.st h a c
  |@Fa.R _ _ i e v xs,h,a,c,hl,_=>by
    change Rw i w O e v xs at h;exact Rw.st h a c (hl i (L0 (l:=[])))
  |.L i g t cs,h,a,c,hl,_=>by
    change Lc i w O g t cs at h;exact Lc.st h a (hl i (L0 (l:=[])))
  |.C i b o cs,h,a,c,hl,_=>by
    change Fr i w O b/\cellsAt w b o cs at h;have hi:=hl i (L0 (l:=[]));exact⟨a.fr hi _ h.1,Ct (a.agree hi) h.1 h.2⟩
  |@Fa.W _ _ d v x,h,a,c,hl,_=>by
    change Vb w (FrS d w O) v x at h;exact Vb.stS h a c hl
  |@Fa.B _ _ i v x,h,a,c,hl,_=>by
    change Ob i w O v x at h;exact Ob.st h a c (hl i (L0 (l:=[])))
def Aag(i:Nat)(f':Fa):List Fa→Option (List Fa)
  |[]=>some []
  |f  :: Γ=>match Aag i f' Γ with
    |none=>none
    |some a=>match Nat.beq f.own i with
      |true=>some (f'::a)
      |false=>match inK i f.lab with
        |true=>some a
        |false=>match f.may i with
          |true=>some (f::a)
          |false=>some a
def AaL(i:Nat):List Fa→Option (List Fa)
  |[]=>some []
  |f  :: Γ=>match AaL i Γ with
    |none=>none
    |some a=>match inK i f.lab with
      |true=>some a
      |false=>match f.may i with
        |true=>some (f::a)
        |false=>some a
structure Bse where
  P:World->Lab->Prop
  st:∀{T:Nat->Prop}{w w':World}{O O':Lab},P w O->St T w O w' O'->¬T 0->¬T 1->P w' O'
def bS(a:World)(A:Nat->Prop):Bse:=⟨Bs a A,λh b c d=>h.st b c d⟩
def Al(B:Bse):List Fa->World->Lab->Prop
  |[],w,O=>B.P w O
  |f::Γ,w,O=>f.P w O/\Al B Γ w O
inductive In:List Fa->Fa->Prop
  |hd {f:Fa} {Γ:List Fa}:In (f::Γ) f
  |tl {f g:Fa} {Γ:List Fa} (h:In Γ f):In (g::Γ) f
section
variable {B:Bse}{Γ:List Fa}{w w':World}{O O':Lab}{i:Nat}{f:Fa}
theorem Al.at(h:Al B Γ w O)(hi:In Γ f):f.P w O:=by
  induction hi with
  |hd=>exact h.1
  |tl _ a=>exact a h.2
theorem Al.base:∀{Γ:List Fa},Al B Γ w O->B.P w O
  |[],h=>h
  |_::_,h=>Al.base h.2
theorem Ns{i:Nat}:∀{l:List Nat},inK i l=false->¬i∈l
  |[],_=>by simp
  |a  :: l,h=>by
    unfold inK at h;cases hb:Nat.beq a i with
    |true=>rw[hb]at h;cases h
    |false =>
      rw[hb]at h;intro hm;rcases T8.1 hm with rfl|hm
      . rw[U7]at hb;cases hb
      . exact Ns h hm
theorem Al.no:∀{Γ:List Fa},Al B Γ w O->St nT w O w' O'->Al B Γ w' O'
  |[],h,hS=>B.st h hS id id
  |_::_,h,hS=>⟨Fa.st h.1 hS id (λ_ _=>id) λ_ h=>h.elim,Al.no h.2 hS⟩
theorem Ix(h:Nat.ble 2 i=true):0≠i/\1≠i:=by
  have:=F8 h;omega
theorem Al.so{f':Fa}(hi:Nat.ble 2 i=true)(hf:f'.P w' O'):∀{Γ a:List Fa},Al B Γ w O→St (eT i) w O w' O'→Aag i f' Γ=some a→Al B a w' O'
  |[],a,h,hS,e=>by
    obtain rfl:=R1 e;exact B.st h hS (Ix hi).1 (Ix hi).2
  |g  :: Γ,a,h,hS,e=>by
    unfold Aag at e;cases hr:Aag i f' Γ with
    |none=>rw[hr]at e;cases e
    |some c =>
      rw[hr]at e;have b:=Al.so hi hf h.2 hS hr;cases hb:Nat.beq g.own i with
      |true=>rw[hb]at e;obtain rfl:=R1 e;exact⟨hf,b⟩
      |false =>
        rw[hb]at e;cases hk:inK i g.lab with
        |true=>rw[hk]at e;obtain rfl:=R1 e;exact b
        |false =>
          rw[hk]at e;cases hm:g.may i with
          |false=>rw[hm]at e;obtain rfl:=R1 e;exact b
          |true=>rw[hm]at e;obtain rfl:=R1 e;exact⟨Fa.st h.1 hS (Ix hi).1 (λj hj e=>Ns hk (e▸hj)) λj e=>by rw[e];exact hm,b⟩
theorem Al.ko(hi:Nat.ble 2 i=true):∀{Γ a:List Fa},Al B Γ w O→St (eT i) w O w' O'→AaL i Γ=some a→Al B a w' O'
  |[],a,h,hS,e=>by
    obtain rfl:=R1 e;exact B.st h hS (Ix hi).1 (Ix hi).2
  |g  :: Γ,a,h,hS,e=>by
    unfold AaL at e;cases hr:AaL i Γ with
    |none=>rw[hr]at e;cases e
    |some c =>
      rw[hr]at e;have b:=Al.ko hi h.2 hS hr;cases hk:inK i g.lab with
      |true=>rw[hk]at e;obtain rfl:=R1 e;exact b
      |false =>
        rw[hk]at e;cases hm:g.may i with
        |false=>rw[hm]at e;obtain rfl:=R1 e;exact b
        |true=>rw[hm]at e;obtain rfl:=R1 e;exact⟨Fa.st h.1 hS (Ix hi).1 (λj hj e=>Ns hk (e▸hj)) λj e=>by rw[e];exact hm,b⟩
inductive Sb:List Fa->List Fa->Prop
  |nil {Γ:List Fa}:Sb Γ []
  |t {Γ Δ:List Fa} (h:Sb Γ Δ):Sb Γ (.T::Δ)
  |cons {f:Fa} {Γ Δ:List Fa} (hf:In Γ f) (h:Sb Γ Δ):Sb Γ (f::Δ)
  |x {p:Prop} {Γ Δ:List Fa} (hp:p) (h:Sb Γ Δ):Sb Γ (.X p::Δ)
  |v {α:Type} [Rp α] {Γ Δ:List Fa} (h:Sb Γ Δ):Sb Γ (.V (.slice none 0 0) ([]:List α)::Δ)
  |n {α:Type} [Rp α] {i:Nat} {e:TypeId} {Γ Δ:List Fa} (hi:Nat.ble 1 i=true) (h:Sb Γ Δ):Sb Γ (.R i e (.slice none 0 0) ([]:List α)::Δ)
theorem Al.sub(h:Al B Γ w O):∀{a:List Fa},Sb Γ a->Al B a w O
  |_,.nil=>Al.base h
  |_,.t k=>⟨trivial,Al.sub h k⟩
  |_,.cons hf k=>⟨Al.at h hf,Al.sub h k⟩
  |_,.x hp k=>⟨hp,Al.sub h k⟩
  |_,@Sb.v _ _ _ _ k=>⟨Vb.nil _ _,Al.sub h k⟩
  |_,@Sb.n _ _ _ _ _ _ hi k=>⟨Rw.nil _ (by have:=F8 hi;omega),Al.sub h k⟩
end
class El(α:Type)[Rp α](K:outParam (Bse->List Fa->World->Lab->α->(Value->Prop)->Prop)):Prop where
  el:∀{B:Bse}{Γ:List Fa}{w:World}{O:Lab}{x:α}{v:Value}{G:Value->Prop},Al B Γ w O->Vb w (Fr 0 w O) v x->K B Γ w O x G->G v
instance:El Int λB Γ w O x G=>X2 x->Al B Γ w O->G (.int .i64 x):=⟨λa h k=>by
  obtain⟨rfl,hr⟩:=h.int;exact k hr a⟩
instance:El Bool λB Γ w O x G=>Al B Γ w O->G (.bool x):=⟨λa h k=>by
  obtain rfl:=h.bool;exact k a⟩
instance:El Err λB Γ w O x G=>X2 x.n->Al B Γ w O->G (ZH x.n):=⟨λa h k=>by
  obtain⟨rfl,hr⟩:=h.err;exact k hr a⟩
instance{α:Type}[Rp α]:El (List α) λB Γ w O x G=>∀A c,Al B (.V (.slice A x.length c) x::Γ) w O->G (.slice A x.length c):=⟨λa h k=>by
  obtain⟨A,c,rfl⟩:=h.form;exact k A c ⟨h,a⟩⟩
class Ec(α:Type)[Rp α](K:outParam (Bse->List Fa->World->Lab->Nat->Nat->Nat->α->Prop->Prop)):Prop where
  ec:∀{B:Bse}{Γ:List Fa}{w:World}{O:Lab}{i b o:Nat}{x:α}{cs:List Value}{G:Prop},Al B Γ w O->Fr i w O b->cellsAt w b o cs->Rp.R w (Fr 0 w O) cs x->K B Γ w O i b o x G->G
instance:Ec Int λB Γ w O i b o x G=>X2 x->Al B (.C i b o [.int .i64 x]::Γ) w O->G:=⟨λc a hc h k=>by
  obtain⟨rfl,hr⟩:=h;exact k hr ⟨⟨a,hc⟩,c⟩⟩
instance:Ec Bool λB Γ w O i b o x G=>Al B (.C i b o [.bool x]::Γ) w O->G:=⟨λc a hc h k=>by
  obtain rfl:=h;exact k ⟨⟨a,hc⟩,c⟩⟩
instance{α:Type}[Rp α]:Ec (List α) λB Γ w O i b o x G=>∀A c,Al B (.C i b o [.slice A x.length c] :: .V (.slice A x.length c) x::Γ) w O->G:=⟨λd a hc h k=>by
  obtain⟨v,rfl,h⟩:=h;replace h:=Vb.of_slice h;obtain⟨A,c,rfl⟩:=h.form;exact k A c ⟨⟨a,hc⟩,h,d⟩⟩
end
end Go.Proofs.YtonclmjaphieiaaGreat

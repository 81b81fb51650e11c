/- Own text: what the proof of orbitFinds_holds uses, part 1: rules, models and their proofs, plain laws. -/
import Derived.Tactics
import Derived.Below
import Derived.OrdersHeld
import Derived.KernelRfl
import Derived.OwnWalk
import Derived.Maps.AppendAt
import Derived.Laws.MakeOwn
import Derived.Test.YtdlhmdckakbboaaGreatDoorProg
import Derived.MapKept
import Derived.Laws.Strings
import Derived.Ground.SlsfProg
import Derived.Shelf.SlSortCmp.WholeK
import Derived.Shelf.SlSortCmp.NoneTotal
import Derived.Sort.AssemblyPlain
import Derived.Laws.CopyRow
import Derived.Laws.IdiomCopy
import Derived.Lib.AppendZerosOnto
import Derived.Shelf.Strconv.Itoa0
import Derived.Shelf.Strconv.Itoa1
import Derived.Shelf.LaysM
import Derived.Shelf.Strconv.Itoa2
import Derived.Shelf.Strconv.Itoa3
import Derived.Shelf.Sort.Plain
import Derived.Shelf.Bits.Mul64
import Derived.Shelf.Slices.In.SortNone
import Derived.Lib.ItoaLen
import Derived.Deep.Slices
import Derived.ChangeSame
import Derived.LaidSub
import Derived.Lib.LaidTab
import Derived.ProofKit
import Derived.ReadAgain
import Derived.ChangeStays
import Derived.Test.YtdlhmdckakbboaaGreatDoorTie
import Derived.Test.YtdlhmdckakbboaaGreatDoorCards
import Derived.LaidMore
import Derived.SevenTiedAt
set_option linter.unusedVariables false
set_option linter.unusedSimpArgs false
namespace Go.Proofs.YtdlhmdckakbboaaGreatDoor
open Go Go.RowKit Go.Proofs.Tryz
abbrev B0:=@List.eq_nil_of_length_eq_zero
abbrev B1:=@Array.getD_eq_getD_getElem?
abbrev B2:=@Array.getElem?_append_left
abbrev B3:=@List.getD_eq_getElem?_getD
abbrev B4:=@List.getElem?_append_right
abbrev B5:=@List.nodup_iff_pairwise_ne
abbrev B6:=@List.getElem?_eq_some_iff
abbrev B7:=@List.drop_eq_getElem_cons
abbrev B8:=@List.getElem?_append_left
abbrev B9:=@Classical.byContradiction
abbrev C0:=@List.pairwise_iff_getElem
abbrev C1:=@Array.getElem?_eq_getElem
abbrev C2:=@List.getElem_append_right
abbrev C3:=@List.mem_of_find?_eq_some
abbrev C4:=@List.getElem?_eq_getElem
abbrev C5:=@Array.setIfInBounds_comm
abbrev C6:=@Array.getElem?_replicate
abbrev C7:=@Option.isSome_iff_exists
abbrev C8:=@Bool.eq_false_or_eq_true
abbrev C9:=@List.getElem_append_left
abbrev D0:=@Int.eq_ofNat_of_zero_le
abbrev D1:=@Nat.le_mul_of_pos_right
abbrev D2:=@List.getElem?_replicate
abbrev D3:=@Classical.epsilon_spec
abbrev D4:=@List.take_of_length_le
abbrev D5:=@Array.getElem?_eq_none
abbrev D6:=@Option.map_eq_some_iff
abbrev D7:=@MapKept.run_getObj_map
abbrev D8:=@MapKept.run_setObj_map
abbrev D9:=@List.getElem?_set_self
abbrev E3:=@List.drop_of_length_le
abbrev E4:=@Nat.le_mul_of_pos_left
abbrev E5:=@Nat.eq_of_beq_eq_true
abbrev E6:=@List.getElem?_eq_none
abbrev E7:=@Array.getElem?_modify
abbrev E8:=@List.take_append_drop
abbrev E9:=@Nat.le_of_ble_eq_true
abbrev F0:=@List.length_replicate
abbrev F1:=@Array.getElem?_toList
abbrev F2:=@List.length_singleton
abbrev F3:=@ByteArray.size_append
abbrev F4:=@List.length_mergeSort
abbrev F5:=@List.length_filter_le
abbrev F6:=@Region.noSelect_spec
abbrev F7:=@Nat.mul_le_mul_right
abbrev F8:=@List.mem_cons_of_mem
abbrev F9:=@List.mem_of_getElem?
abbrev G0:=@MapKept.run_checkKey
abbrev G1:=@List.getElem?_modify
abbrev G2:=@List.getElem?_set_ne
abbrev G3:=@List.getElem?_of_mem
abbrev G4:=@List.getElem_toArray
abbrev G5:=@Array.getElem_mapIdx
abbrev G6:=@List.mem_of_mem_take
abbrev G7:=@Array.length_toList
abbrev G8:=@MapKept.run_findKey
abbrev G9:=@List.mergeSort_perm
abbrev H0:=@List.getElem?_range
abbrev H1:=@List.map_congr_left
abbrev H2:=@List.length_append
abbrev H3:=@Nat.lt_of_lt_of_le
abbrev H4:=@List.getElem?_take
abbrev H5:=@Nat.eq_zero_or_pos
abbrev H6:=@Array.any_eq_true'
abbrev H7:=@List.getElem?_drop
abbrev H8:=@List.mem_cons_self
abbrev H9:=@List.find?_eq_none
abbrev I0:=@Bool.false_eq_true
abbrev I1:=@List.append_assoc
abbrev I2:=@List.filter_congr
abbrev I3:=@List.ext_getElem?
abbrev I4:=@List.getElem?_map
abbrev I5:=@List.getElem?_set
abbrev I6:=@List.take_add_one
abbrev I7:=@List.flatMap_cons
abbrev I8:=@List.nodup_append
abbrev I9:=@Int.toNat_natCast
abbrev J0:=@Nat.lt_trichotomy
abbrev J1:=@List.length_range
abbrev J2:=@List.pairwise_map
abbrev J3:=@Option.getD_some
abbrev J4:=@Option.bind_some
abbrev J5:=@List.length_cons
abbrev J6:=@Array.toList_inj
abbrev J7:=@Bool.and_eq_true
abbrev J8:=@List.all_eq_true
abbrev J9:=@Nat.lt_succ_self
abbrev K0:=@List.length_take
abbrev K1:=@List.any_eq_true
abbrev K2:=@List.mem_flatMap
abbrev K3:=@MapKept.heap_set
abbrev K4:=@List.take_length
abbrev K5:=@Nat.le_of_not_lt
abbrev K6:=@Nat.mod_eq_of_lt
abbrev K7:=@List.filter_cons
abbrev K8:=@List.nodup_range
abbrev K9:=@List.mem_append
abbrev L0:=@List.foldl_cons
abbrev L1:=@Option.some.inj
abbrev L2:=@Bool.or_eq_true
abbrev L3:=@List.nil_append
abbrev L4:=@List.append_nil
abbrev L5:=@List.length_set
abbrev L6:=@List.mem_filter
abbrev L7:=@List.length_map
abbrev L8:=@Option.map_some
abbrev L9:=@List.map_append
abbrev M0:=@List.range_succ
abbrev M1:=@List.find?_some
abbrev M2:=@Bool.eq_iff_iff
abbrev M3:=@List.nodup_cons
abbrev M4:=@List.mem_range
abbrev M5:=@List.Perm.refl
abbrev M6:=@Nat.mul_le_mul
abbrev M7:=@List.map_cons
abbrev M8:=@List.mem_cons
abbrev M9:=@Nat.lt_irrefl
abbrev N0:=@Code.wp_mono
abbrev N1:=@Nat.beq_refl
abbrev N2:=@Nat.lt_or_ge
abbrev N3:=@Nat.add_zero
abbrev N4:=@Nat.zero_add
abbrev N5:=@Nat.sub_zero
abbrev N6:=@Nat.le_trans
abbrev N7:=@List.map_set
abbrev N8:=@List.mem_map
abbrev N9:=@List.map_map
abbrev O6:=@Int.add_comm
abbrev P1:=@Nat.le_refl
abbrev P2:=@Nat.add_mul
abbrev P3:=@Int.le_refl
abbrev P4:=@Nat.zero_le
abbrev P5:=@Nat.mul_one
abbrev P6:=@List.map_id
abbrev P7:=@Below.refl
abbrev P8:=@Ne.symm
section
open Go Go.RowKit
abbrev Env:=List (Nat×Value)
def lk:Env→Nat→Option Value
  | [],_=>none
  | (i,v) :: l,j=>match Nat.beq i j with
    | true=>some v
    | false=>lk l j
def opv (l:Env):Operand->Option Value
  | .tmp t=>lk l t
  | .const v=>some v
  | .global g=>some (.pointer (some ⟨g,0,none⟩))
  | .func f=>some (.func (.func f) #[] #[])
def R6 (l:Env):List Operand→Option (List Value)
  | []=>some []
  | x :: r=>match opv l x with
    | some v=>match R6 l r with
      | some vs=>some (v :: vs)
      | none=>none
    | none=>none
structure Ok (n:Nat) (a:Act) (l:Env):Prop where
  size:a.tmps.size=n
  defers:a.defers=[]
  knows:∀ i v,lk l i=some v->a.tmps.getD i undef=v
theorem Ok.put {n d:Nat} {a:Act} {l:Env} (e:Ok n a l) (hd:Nat.blt d n=true) (v:Value):Ok n (a.put (some d) v) ((d,v) :: l):=by
  have b:d < n:=by simpa using hd
  refine ⟨by simp [Act.put,e.size],e.defers,λ i u hu=>?_⟩
  simp only [lk] at hu
  cases hb:Nat.beq d i with
  | true =>
    rw [hb] at hu
    have:d=i:=E5 hb
    subst this
    have hlt:d < a.tmps.size:=by rw [e.size];exact b
    simp only [Act.put,B1,Array.getElem?_setIfInBounds,hlt,if_true,J3]
    simpa using hu
  | false =>
    rw [hb] at hu
    have c:d≠i:=Nat.ne_of_beq_eq_false hb
    have:=e.knows i u hu
    simp only [Act.put,B1,Array.getElem?_setIfInBounds,c,if_false] at this ⊢
    exact this
theorem Ok.eval {n:Nat} {a:Act} {l:Env} (c:Ok n a l) {x:Operand} {v:Value} (b:opv l x=some v):a.eval x=v:=by
  cases x with
  | tmp t=>exact c.knows t v b
  | const u=>simpa [opv,Act.eval] using b
  | global g=>simpa [opv,Act.eval] using b
  | func f=>simpa [opv,Act.eval] using b
theorem Ok.evals {n:Nat} {a:Act} {l:Env} (d:Ok n a l):∀ {xs:List Operand} {vs:List Value},R6 l xs=some vs→xs.map a.eval=vs
  | [],vs,hx=>by simpa [R6] using hx
  | x :: r,vs,hx=>by
    simp only [R6] at hx
    cases hv:opv l x with
    | none=>rw [hv] at hx;simp at hx
    | some v =>
      rw [hv] at hx
      cases hr:R6 l r with
      | none=>rw [hr] at hx;simp at hx
      | some c =>
        rw [hr] at hx
        have b:v :: c=vs:=by simpa using hx
        rw [M7,d.eval hv,d.evals hr,b]
def Q2 (l:Env):Env->Prop
  | []=>True
  | (i,v) :: r=>lk l i=some v/\Q2 l r
theorem BC {l:Env}:∀ {a:Env},Q2 l a->∀ i v,lk a i=some v->lk l i=some v
  | [],_,i,v,h=>by simp [lk] at h
  | (j,u) :: r,hs,i,v,h=>by
    simp only [lk] at h
    cases hb:Nat.beq j i with
    | true =>
      rw [hb] at h
      have:j=i:=E5 hb
      subst this
      have:u=v:=by simpa using h
      subst this
      exact hs.1
    | false=>rw [hb] at h;exact BC hs.2 i v h
theorem Ok.sub {n:Nat} {a:Act} {l b:Env} (c:Ok n a l) (hs:Q2 l b):Ok n a b:=⟨c.size,c.defers,λ i v hv=>c.knows i v (BC hs i v hv)⟩
def dr (w:World) (d:Nat):World:={ w with drawn:=d }
theorem WA (w:World):dr w w.drawn=w:=rfl
theorem JD (w:World) (d:Nat):(dr w d).heap=w.heap:=rfl
theorem LB (w:World) (d:Nat) (a:Addr):(dr w d).cell? a=w.cell? a:=rfl
abbrev Q8:=Exit->Env->World->Prop
def AaQ:Exit->Prop
  | .panic _=>False
  | .outgrown=>False
  | _=>True
def U3 (n:Nat) (Q:Q8) (e:Exit) (a:Act) (w:World):Prop:=AaQ e/\∃ l b d,w=dr b d/\Ok n a l/\Q e l b
theorem IE {n:Nat} {Q:Q8} {e:Exit} {a:Act} {w:World} {l:Env} {d:Nat} (he:AaQ e) (c:Ok n a l) (b:Q e l w):U3 n Q e a (dr w d):=⟨he,l,w,d,rfl,c,b⟩
def ewp (P:Program) (n:Nat) (c:Code) (Q:Q8) (l:Env) (w:World):Prop:=∀ a d,Ok n a l->c.wp P (U3 n Q) a (dr w d)
def owp (P:Program) (n:Nat) (ops:Array Oper) (Q:Q8) (rest:List Oper) (l:Env) (w:World):Prop:=∀ a d,Ok n a l->wpList P ops (U3 n Q) rest a (dr w d)
section code
variable {P : Program} {n : Nat} {Q : Q8} {l : Env} {w : World}
def thn (K:Env->World->Prop) (Q:Q8):Q8
  | .normal,l,w=>K l w
  | e,l,w=>Q e l w
theorem Gv {c:Code} {b:Q8} (f:∀ e l w,Q e l w->b e l w) (h:ewp P n c Q l w):ewp P n c b l w :=
  λ a d g=>N0 (λ _ _ _ ⟨hn,l,w,d,hw,ho,q⟩=>⟨hn,l,w,d,hw,ho,f _ _ _ q⟩) (h a d g)
theorem Am {x y:Code} (f:ewp P n x (thn (ewp P n y Q) Q) l w):ewp P n (.seq x y) Q l w:=λ a d b =>
  wp_seq (N0 (λ e a w hl=>by
    obtain ⟨hn,l',w',d',rfl,ho,hq⟩:=hl
    cases e with
    | normal=>exact hq a d' ho
    | panic c=>exact hn.elim
    | outgrown=>exact hn.elim
    | exit i=>exact ⟨trivial,l',w',d',rfl,ho,hq⟩
    | goto i=>exact ⟨trivial,l',w',d',rfl,ho,hq⟩
    | ret=>exact ⟨trivial,l',w',d',rfl,ho,hq⟩) (f a d b))
theorem RE {x y:Code} (M:Env->World->Prop) (b:ewp P n x (thn M Q) l w) (k:∀ a w',M a w'->ewp P n y Q a w'):ewp P n (.seq x y) Q l w :=
  Am (Gv (λ e l w q=>by cases e<;>first|exact k _ _ q|exact q) b)
theorem AN (b:Q .normal l w):ewp P n .skip Q l w:=λ _ _ a=>wp_skip (IE trivial a b)
theorem Cq {i:Nat} (b:Q (.exit i) l w):ewp P n (.exit i) Q l w:=λ _ _ a=>wp_exit (IE trivial a b)
theorem AM (b:Q .ret l w):ewp P n .ret Q l w:=λ _ _ a=>wp_ret (IE trivial a b)
theorem Aj {c:Operand} {x y:Code} (hc:opv l c=some (.bool true)) (e:ewp P n x Q l w):ewp P n (.cond c x y) Q l w:=λ a d b=>wp_cond_true (b.eval hc) (e a d b)
theorem Ae {c:Operand} {x y:Code} (hc:opv l c=some (.bool false)) (e:ewp P n y Q l w):ewp P n (.cond c x y) Q l w:=λ a d b=>wp_cond_false (b.eval hc) (e a d b)
theorem BP {c:Operand} {x y:Code} {b:Bool} (hc:opv l c=some (.bool b)) (a:b=true->ewp P n x Q l w) (hf:b=false->ewp P n y Q l w):ewp P n (.cond c x y) Q l w:=by
  cases b
  . exact Ae hc (hf rfl)
  . exact Aj hc (a rfl)
def S0 (id:Nat) (Q:Q8):Q8
  | .exit i,l,w=>match Nat.beq i id with
    | true=>Q .normal l w
    | false=>Q (.exit i) l w
  | e,l,w=>Q e l w
theorem Bx {id:Nat} {c:Code} (g:ewp P n c (S0 id Q) l w):ewp P n (.block id c) Q l w:=λ a d b =>
  wp_block (N0 (λ e a w hl=>by
    obtain ⟨hn,l',w',d',rfl,ho,hq⟩:=hl
    cases e with
    | exit i =>
      simp only [Exit.inBlock]
      simp only [S0] at hq
      by_cases hi:i=id
      . subst hi
        have hb:Nat.beq i i=true:=N1 i
        rw [hb] at hq
        rw [if_pos rfl]
        exact ⟨trivial,l',w',d',rfl,ho,hq⟩
      . have hb:Nat.beq i id=false:=by
          cases f:Nat.beq i id
          . rfl
          . exact absurd (E5 f) hi
        rw [hb] at hq
        rw [if_neg hi]
        exact ⟨trivial,l',w',d',rfl,ho,hq⟩
    | panic c=>exact hn.elim
    | outgrown=>exact hn.elim
    | normal=>exact ⟨trivial,l',w',d',rfl,ho,hq⟩
    | goto i=>exact ⟨trivial,l',w',d',rfl,ho,hq⟩
    | ret=>exact ⟨trivial,l',w',d',rfl,ho,hq⟩) (g a d b))
theorem Bg {c:Code} (b:Env) (hs:Q2 l b) (f:ewp P n c Q b w):ewp P n c Q l w:=λ a d e=>f a d (e.sub hs)
theorem Pz {c:Code} {X:Type} (E:X→Env) (I:X→World→Prop) (μ:X→Nat) (r:X) (hs:Q2 l (E r)) (z:I r w)
    (u:∀ x w,I x w->ewp P n c (thn (λ A w'=>∃ j,Q2 A (E j)/\I j w'/\μ j < μ x) Q) (E x) w):ewp P n (.loop c) Q l w:=by
  intro a d R
  have G:∀ (m:Nat) (x:X) (a:Act) (w:World) (d:Nat),μ x<=m->Ok n a (E x)->I x w->(Code.loop c).wp P (U3 n Q) a (dr w d):=by
    intro m x a w d hm H B
    refine wp_loop (λ a' w'=>∃ j b p,w'=dr b p/\Ok n a' (E j)/\I j b) (λ a' w'=>Classical.epsilon λ k=>∃ j b p,w'=dr b p/\Ok n a' (E j)/\I j b/\μ j=k /\
      ∀ g f o,w'=dr f o->Ok n a' (E g)->I g f->k<=μ g) ⟨x,w,d,rfl,H,B⟩ ?_
    have s:∀ a' w',(∃ j b p,w'=dr b p/\Ok n a' (E j)/\I j b)->∃ k,∃ j b p,w'=dr b p/\Ok n a' (E j)/\I j b/\μ j=k /\
        ∀ g f o,w'=dr f o->Ok n a' (E g)->I g f->k<=μ g:=by
      intro a' w' ⟨j,b,p,C,v,hI'⟩
      have:∀ m j b p,μ j<=m->w'=dr b p->Ok n a' (E j)->I j b->∃ k,∃ j b p,w'=dr b p/\Ok n a' (E j)/\I j b/\μ j=k /\
          ∀ g f o,w'=dr f o->Ok n a' (E g)->I g f->k<=μ g:=by
        intro m
        induction m with
        | zero=>exact λ j b p hm C v B=>⟨μ j,j,b,p,C,v,B,rfl,λ _ _ _ _ _ _=>by omega⟩
        | succ m S =>
          intro j b p hm C v B
          by_cases D:∃ g f o,w'=dr f o/\Ok n a' (E g)/\I g f/\μ g<=m
          . obtain ⟨g,f,o,J,K,L,h4⟩:=D
            exact S g f o h4 J K L
          . refine ⟨μ j,j,b,p,C,v,B,rfl,λ g f o J K L=>?_⟩
            rcases N2 (μ g) (μ j) with h|h
            . exact absurd ⟨g,f,o,J,K,L,by omega⟩ D
            . exact h
      exact this _ j b p (P1 _) C v hI'
    intro a' w' F
    have hk:=D3 (s a' w' F)
    obtain ⟨j,b,p,rfl,v,hI',hμ,hmin⟩:=hk
    refine N0 (λ e M T hl=>?_) (u j b hI' a' p v)
    obtain ⟨hn,A,f,d₁,rfl,ho',hq⟩:=hl
    cases e with
    | normal =>
      obtain ⟨t,hs₂,hI₂,hlt⟩:=hq
      have q:=ho'.sub hs₂
      refine ⟨⟨t,f,d₁,rfl,q,hI₂⟩,?_⟩
      have y:=D3 (s M (dr f d₁) ⟨t,f,d₁,rfl,q,hI₂⟩)
      obtain ⟨O,w₃,d₃,hw₃,ho₃,hI₃,hμ₃,hmin₃⟩:=y
      have N:=hmin₃ t f d₁ rfl q hI₂
      exact Nat.lt_of_le_of_lt N (Nat.lt_of_lt_of_eq hlt hμ)
    | panic c=>exact hn.elim
    | outgrown=>exact hn.elim
    | exit i=>exact ⟨trivial,A,f,d₁,rfl,ho',hq⟩
    | goto i=>exact ⟨trivial,A,f,d₁,rfl,ho',hq⟩
    | ret=>exact ⟨trivial,A,f,d₁,rfl,ho',hq⟩
  exact G _ r a w d (P1 _) (R.sub hs) z
theorem Ah {id:Nat} {c:List Oper} (e:owp P n c.toArray Q c l w):ewp P n (.region id c.toArray false) Q l w:=λ a d b=>wp_region_lit (e a d b)
end code
def Ev (P:Program) (o:Oper) (l:Env) (w:World) (v:Value):Prop:=∀ n a d,Ok n a l->(execOp a.eval o).run P (dr w d)=.ok (.value v) (dr w d)
def ZT (ops:Array Oper) (j:Nat):Option Tmp:=(ops[j]?).bind (·.dst)
theorem Ok.yielded {n:Nat} {a:Act} {l:Env} (e:Ok n a l) {ops:Array Oper} {j dj:Nat} {b:Bool} (hj:ZT ops j=some dj) (hl:lk l dj=some (.bool b)):Go.yielded ops a.tmps j=some b:=by
  have c:=e.knows dj _ hl
  unfold Go.yielded
  unfold ZT at hj
  rw [hj]
  simp only [J4]
  rw [B1] at c
  cases d:a.tmps[dj]? with
  | none=>rw [d] at c;simp [undef] at c
  | some u=>rw [d] at c;simp only [J3] at c;subst c;rfl
def isB:Value->Bool->Bool
  | .bool true,true=>true
  | .bool false,false=>true
  | _,_=>false
theorem Ok.unwanted {n:Nat} {a:Act} {l:Env} (f:Ok n a l) {ops:Array Oper} {j dj:Nat} {u:Value} {b:Bool} (hj:ZT ops j=some dj) (hl:lk l dj=some u) (hu:isB u b=false):(Go.yielded ops a.tmps j == some b)=false:=by
  have d:=f.knows dj _ hl
  unfold Go.yielded
  unfold ZT at hj
  rw [hj]
  simp only [J4]
  rw [B1] at d
  cases e:a.tmps[dj]? with
  | none=>rfl
  | some x =>
    rw [e] at d
    simp only [J3] at d
    subst d
    cases x<;>first|rfl|(rename_i c;cases c<;>cases b<;>first|rfl|(simp [isB] at hu))
section ops
variable {P : Program} {n : Nat} {ops : Array Oper} {Q : Q8} {rest : List Oper} {l : Env} {w : World}
theorem HE (b:Q .normal l w):owp P n ops Q [] l w:=λ _ _ a=>wpList_nil (IE trivial a b)
theorem JE {dst:Option Tmp} {b:Op} {ty:TypeId} {pos:String} {aft:Array Edge}
    (f:∀ a d,Ok n a l->∀ K:Act->World->Prop,(∀ a' w',wpList P ops (U3 n Q) rest a' w'->K a' w')->(⟨dst,b,ty,pos,aft,none⟩:Oper).wp P a (dr w d) K (U3 n Q)):owp P n ops Q (⟨dst,b,ty,pos,aft,none⟩ :: rest) l w :=
  λ a d c=>wpList_plain rfl λ K e=>f a d c K e
theorem Bp {d:Tmp} {b:Op} {ty:TypeId} {pos:String} {aft:Array Edge} {v:Value} (he:Ev P ⟨some d,b,ty,pos,aft,none⟩ l w v) (hd:Nat.blt d n=true)
    (g:owp P n ops Q rest ((d,v) :: l) w):owp P n ops Q (⟨some d,b,ty,pos,aft,none⟩ :: rest) l w :=
  JE λ a e c K f=>by
    unfold Oper.wp
    rw [he n a e c]
    exact f _ _ (g _ _ (c.put hd v))
theorem GE {dst:Option Tmp} {c:Op} {ty:TypeId} {pos:String} {aft:Array Edge} {f:Env} {w':World}
    (he:∀ a d,Ok n a l->(∃ v b,(execOp a.eval ⟨dst,c,ty,pos,aft,none⟩).run P (dr w d)=.ok (.value v) (dr w' b)/\Ok n (a.put dst v) f)\/(∃ b,(execOp a.eval ⟨dst,c,ty,pos,aft,none⟩).run P (dr w d)=.ok .skip (dr w' b)/\Ok n (a.put dst undef) f))
    (i:owp P n ops Q rest f w'):owp P n ops Q (⟨dst,c,ty,pos,aft,none⟩ :: rest) l w :=
  JE λ a e h K g=>by
    unfold Oper.wp
    rcases he a e h with ⟨v,b,hr,ho⟩|⟨b,hr,ho⟩
    . rw [hr];exact g _ _ (i _ _ ho)
    . rw [hr];exact g _ _ (i _ _ ho)
theorem AB {dst:Option Tmp} {e:Op} {ty:TypeId} {pos:String} {aft:Array Edge} {j dj:Nat} {b:Bool} (hj:ZT ops j=some dj) (hl:lk l dj=some (.bool b))
    (h:owp P n ops Q (⟨dst,e,ty,pos,aft,none⟩ :: rest) l w):owp P n ops Q (⟨dst,e,ty,pos,aft,some (j,b)⟩ :: rest) l w:=λ a d f=>by
  have c:=h a d f
  have g:=f.yielded hj hl
  unfold wpList at c ⊢
  rw [if_pos (by simp [Region.wanted])] at c
  rw [if_pos (by simp [Region.wanted,g])]
  exact c
theorem AA {d:Tmp} {f:Op} {ty:TypeId} {pos:String} {aft:Array Edge} {j dj:Nat} {b:Bool} {u:Value} (hj:ZT ops j=some dj) (hl:lk l dj=some u)  
    (h:owp P n ops Q rest ((d,undef) :: l) w) (hu:isB u b=false:=by exact rfl) (hd:Nat.blt d n=true:=by exact rfl):owp P n ops Q (⟨some d,f,ty,pos,aft,some (j,b)⟩ :: rest) l w:=λ a e c=>by
  have g:=c.unwanted (b:=b) hj hl hu
  unfold wpList
  rw [if_neg (by simpa [Region.wanted] using g)]
  exact h _ _ (c.put hd undef)
end ops
end
section
open Go Go.RowKit
class TSlice (P:Program) (t:TypeId) (e:outParam TypeId):Prop where eq:P.underlying t=some (.slice e)
class TStr (P:Program) (t:TypeId):Prop where eq:P.underlying t=some .string
class TPtr (P:Program) (t:TypeId) (e:outParam TypeId):Prop where eq:P.underlying t=some (.pointer e)
class TIface (P:Program) (t:TypeId):Prop where eq:∃ ms,P.underlying t=some (.interface ms)
class TInt (P:Program) (t:TypeId) (k:outParam IntKind):Prop where eq:P.underlying t=some (.int k)
class TOne (P:Program) (t:TypeId):Prop where eq:∃ d,P.underlying t=some d/\(match d with|.struct _|.array _ _=>false|_=>true)=true
class TAgg (P:Program) (t:TypeId):Prop where eq:∃ d,P.underlying t=some d/\(match d with|.struct _|.array _ _=>true|_=>false)=true
class TInfo (P:Program) (t:TypeId) (z:outParam Value) (size bytes:outParam Nat):Prop where
  eq:∃ i,P.info? t=some i/\i.zero=some z/\i.size=size/\i.bytes=bytes
  sz:z.cells.size=size
class TField (P:Program) (t:TypeId) (f:Nat) (off:outParam Nat):Prop where eq:∃ fs fd i,P.underlying t=some (.struct fs)/\fs[f]?=some fd/\fd.offset=off/\P.info? fd.type=some i/\i.size≠0
theorem Hr (b o k:Nat):(⟨b,o,none⟩:Addr).add k=⟨b,o + k,none⟩:=by
  unfold Addr.add
  by_cases a:k=0<;>simp [a]
section
variable {P : Program} {l : Env} {w : World} {dst : Option Tmp} {ty : TypeId} {pos : String} {aft : Array Edge}
theorem EV {t:TypeId} {z:Value} {size bytes:Nat} [a:TInfo P t z size bytes] (w:World):(sizeOf t).run P w=.ok size w:=by
  obtain ⟨i,hi,_,hs,_⟩:=a.eq
  simp [sizeOf,typeInfo,hi,hs]
theorem PA {t:TypeId} {i:TypeInfo} (hi:P.info? t=some i) (w:World):(typeInfo t).run P w=.ok i w:=by
  simp [typeInfo,hi]
theorem Hh {t:TypeId} {z:Value} {size bytes:Nat} [a:TInfo P t z size bytes] (w:World):(zeroValue t).run P w=.ok z w:=by
  obtain ⟨i,hi,hz,_,_⟩:=a.eq
  simp [zeroValue,typeInfo,hi,hz]
theorem FV {t:TypeId} [a:TOne P t] (w:World):(isAgg t).run P w=.ok false w:=by
  obtain ⟨d,hd,hm⟩:=a.eq
  cases d<;>simp_all [isAgg,run_underlying hd]
theorem Ip {t:TypeId} [a:TAgg P t] (w:World):(isAgg t).run P w=.ok true w:=by
  obtain ⟨d,hd,hm⟩:=a.eq
  cases d<;>simp_all [isAgg,run_underlying hd]
theorem LC {x:Operand} {v:Value} (b:opv l x=some v):Ev P ⟨dst,.move x,ty,pos,aft,none⟩ l w v:=λ _ a d c=>by simp [execOp,c.eval b]
theorem Ot {x:Operand} {v:Value} (b:opv l x=some v):Ev P ⟨dst,.assign x,ty,pos,aft,none⟩ l w v:=λ _ a d c=>by simp [execOp,c.eval b]
theorem Mk {c x y:Operand} {v:Value} (hc:opv l c=some (.bool true)) (e:opv l x=some v):Ev P ⟨dst,.pick c x y,ty,pos,aft,none⟩ l w v:=λ _ a d b=>by simp [execOp,b.eval e,b.eval hc,asBool]
theorem Ml {c x y:Operand} {v:Value} (hc:opv l c=some (.bool false)) (e:opv l y=some v):Ev P ⟨dst,.pick c x y,ty,pos,aft,none⟩ l w v:=λ _ a d b=>by simp [execOp,b.eval e,b.eval hc,asBool]
theorem KQ {t:TypeId} {x:Operand} {b:Bool} (c:opv l x=some (.bool b)):Ev P ⟨dst,.unOp .not t x,ty,pos,aft,none⟩ l w (.bool (!b)):=λ _ a d e=>by simp [execOp,e.eval c,Op.unary]
theorem NO {t:TypeId} {x:Operand} (a:opv l x=some (.bool true)):Ev P ⟨dst,.unOp .not t x,ty,pos,aft,none⟩ l w (.bool false):=KQ a
theorem NP {t:TypeId} {x:Operand} (a:opv l x=some (.bool false)):Ev P ⟨dst,.unOp .not t x,ty,pos,aft,none⟩ l w (.bool true):=KQ a
theorem Di {t u:TypeId} {x y:Operand} {k:IntKind} {a b:Int} (e:opv l x=some (.int k a)) (f:opv l y=some (.int k b)):Ev P ⟨dst,.binOp .lss t x y u,ty,pos,aft,none⟩ l w (.bool (decide (a < b))):=λ _ _ d c=>by simp [execOp,c.eval e,c.eval f,eqGuard,binOp,Op.intCmp]
theorem JF {t u:TypeId} {x y:Operand} {k:IntKind} {a b:Int} (e:opv l x=some (.int k a)) (f:opv l y=some (.int k b)):Ev P ⟨dst,.binOp .leq t x y u,ty,pos,aft,none⟩ l w (.bool (decide (a<=b))):=λ _ _ d c=>by simp [execOp,c.eval e,c.eval f,eqGuard,binOp,Op.intCmp]
theorem FW {t u:TypeId} {x y:Operand} {k:IntKind} {a b:Int} (e:opv l x=some (.int k a)) (f:opv l y=some (.int k b)):Ev P ⟨dst,.binOp .gtr t x y u,ty,pos,aft,none⟩ l w (.bool (decide (b < a))):=λ _ _ d c=>by simp [execOp,c.eval e,c.eval f,eqGuard,binOp,Op.intCmp]
theorem Bw {t u:TypeId} {x y:Operand} {k:IntKind} {a b:Int} (e:opv l x=some (.int k a)) (f:opv l y=some (.int k b)):Ev P ⟨dst,.binOp .geq t x y u,ty,pos,aft,none⟩ l w (.bool (decide (b<=a))):=λ _ _ d c=>by simp [execOp,c.eval e,c.eval f,eqGuard,binOp,Op.intCmp]
theorem IG {t u:TypeId} {x y:Operand} {k:IntKind} {a b:Int} (e:opv l x=some (.int k a)) (f:opv l y=some (.int k b)):Ev P ⟨dst,.binOp .eql t x y u,ty,pos,aft,none⟩ l w (.bool (decide (a=b))):=λ _ _ d c=>by
  simp [execOp,c.eval e,c.eval f,eqGuard,binOp,Op.intCmp]
  by_cases g:a=b<;>simp [g]
theorem XI {t u:TypeId} {x y:Operand} {k:IntKind} {a b:Int} (e:opv l x=some (.int k a)) (f:opv l y=some (.int k b)):Ev P ⟨dst,.binOp .neq t x y u,ty,pos,aft,none⟩ l w (.bool (!decide (a=b))):=λ _ _ d c=>by
  simp [execOp,c.eval e,c.eval f,eqGuard,binOp,Op.intCmp]
  by_cases g:a=b<;>simp [g]
theorem wrap_i64 {z:Int} (a:-9223372036854775808<=z) (b:z<=9223372036854775807):IntKind.i64.wrap z=z:=by
  rw [IntKind.wrap_i64];omega
theorem PB {t u:TypeId} {x y:Operand} {a b:Int} (e:opv l x=some (.int .i64 a)) (f:opv l y=some (.int .i64 b)) (g:-9223372036854775808<=a + b/\a + b<=9223372036854775807):Ev P ⟨dst,.binOp .add t x y u,ty,pos,aft,none⟩ l w (.int .i64 (a + b)):=λ _ _ d c=>by
  simp [execOp,c.eval e,c.eval f,eqGuard,binOp,Op.intArith,wrap_i64 g.1 g.2]
theorem Tg {t u:TypeId} {x y:Operand} {a b:Int} (e:opv l x=some (.int .i64 a)) (f:opv l y=some (.int .i64 b)) (g:-9223372036854775808<=a - b/\a - b<=9223372036854775807):Ev P ⟨dst,.binOp .sub t x y u,ty,pos,aft,none⟩ l w (.int .i64 (a - b)):=λ _ _ d c=>by
  simp [execOp,c.eval e,c.eval f,eqGuard,binOp,Op.intArith,wrap_i64 g.1 g.2]
theorem Th {t u:TypeId} {x y:Operand} {a b:Int} (e:opv l x=some (.int .i64 a)) (f:opv l y=some (.int .i64 b)) (g:-9223372036854775808<=a * b/\a * b<=9223372036854775807):Ev P ⟨dst,.binOp .mul t x y u,ty,pos,aft,none⟩ l w (.int .i64 (a * b)):=λ _ _ d c=>by
  simp [execOp,c.eval e,c.eval f,eqGuard,binOp,Op.intArith,wrap_i64 g.1 g.2]
theorem PC {t u:TypeId} {x:Operand} {a:Nat} (c:opv l x=some (.int .i64 (a:Int))) (e:a < 9223372036854775807):Ev P ⟨dst,.binOp .add t x (.const (.int .i64 1)) u,ty,pos,aft,none⟩ l w (.int .i64 ((a + 1:Nat):Int)):=λ _ _ d b=>by
  simp [execOp,b.eval c,b.eval (x:=.const (.int .i64 1)) rfl,eqGuard,binOp,Op.intArith,wrap_i64 (z:=(a:Int) + 1) (by omega) (by omega)]
theorem PD {t e:TypeId} [g:TSlice P t e] {x:Operand} {A:Option Addr} {m c:Nat} (b:opv l x=some (.slice A m c)):Ev P ⟨dst,.call { callee:=.builtin .len,args:=#[x],argTypes:=#[t] },ty,pos,aft,none⟩ l w (.int .i64 (m:Int)):=λ _ a d f=>by
  simp [execOp,resolve,invoke,builtin,f.eval b,Builtin.len_,run_underlying g.eq,goInt]
theorem Ti {t:TypeId} [e:TStr P t] {x:Operand} {s:ByteArray} (b:opv l x=some (.string s)):Ev P ⟨dst,.call { callee:=.builtin .len,args:=#[x],argTypes:=#[t] },ty,pos,aft,none⟩ l w (.int .i64 (s.size:Int)):=λ _ a d c=>by
  simp [execOp,resolve,invoke,builtin,c.eval b,Builtin.len_,run_underlying e.eq,goInt]
theorem XJ {e f:TypeId} {x y:Operand} {k:IntKind} {a b:Int} (g:opv l x=some (.int k a)) (h:opv l y=some (.int k b)):Ev P ⟨dst,.call { callee:=.builtin .min,args:=#[x,y],argTypes:=#[e,f] },ty,pos,aft,none⟩ l w (.int k (min a b)):=λ _ _ d c=>by
  simp [execOp,resolve,invoke,builtin,c.eval g,c.eval h,Builtin.min_,Builtin.min2]
  by_cases i:b < a<;>simp [i]<;>omega
theorem XK {e f:TypeId} {x y:Operand} {k:IntKind} {a b:Int} (g:opv l x=some (.int k a)) (h:opv l y=some (.int k b)):Ev P ⟨dst,.call { callee:=.builtin .max,args:=#[x,y],argTypes:=#[e,f] },ty,pos,aft,none⟩ l w (.int k (max a b)):=λ _ _ d c=>by
  simp [execOp,resolve,invoke,builtin,c.eval g,c.eval h,Builtin.max_,Builtin.max2]
  by_cases i:a < b<;>simp [i]<;>omega
theorem Ht {t e:TypeId} [n:TSlice P t e] {z:Value} {size bytes:Nat} [hi:TInfo P e z size bytes] {x i:Operand} {k:IntKind} {b o m c j:Nat} {q:Int} (g:opv l x=some (.slice (some ⟨b,o,none⟩) m c)) (h:opv l i=some (.int k q)) (hj:q=(j:Int)) (hlt:j < m) :
    Ev P ⟨dst,.indexAddr t x i,ty,pos,aft,none⟩ l w (.pointer (some ⟨b,o + j * size,none⟩)):=λ _ a d f=>by
  subst hj
  simp [execOp,f.eval g,f.eval h,Instr.indexAt,asIntOf,run_underlying n.eq,EV (P:=P) (t:=e),Hr,hlt]
theorem Fh {t:TypeId} {f off:Nat} [h:TField P t f off] {x:Operand} {b o:Nat} (c:opv l x=some (.pointer (some ⟨b,o,none⟩))):Ev P ⟨dst,.fieldAddr t x f,ty,pos,aft,none⟩ l w (.pointer (some ⟨b,o + off,none⟩)):=λ _ a d e=>by
  obtain ⟨g,fd,i,h1,h2,h3,h4,h5⟩:=h.eq
  simp [execOp,e.eval c,Instr.fieldAt,run_underlying h1,h2,Instr.sureAddr,fieldPlace,sizeOf,PA h4,h5,h3,Hr]
theorem Dy {t:TypeId} [TOne P t] {x:Operand} {b:Addr} {v:Value} (c:opv l x=some (.pointer (some b))) (hc:w.cell? b=some v):Ev P ⟨dst,.load t x,ty,pos,aft,none⟩ l w v:=λ _ a d e=>by
  simp [execOp,e.eval c,Instr.loadAt,Instr.sureAddr,loadVar,FV,load,Sem.run,LB,hc]
theorem FR (w:World) (b o:Nat):∀ (cs:List Value) (i:Nat) (a:Array Value),(∀ j v,cs[j]?=some v->w.cell? ⟨b,o + (i + j),none⟩=some v) ->
    (loadCellsFrom ⟨b,o,none⟩ i cs.length a).run P w=.ok (a ++ cs.toArray) w
  | [],i,a,_=>by simp [loadCellsFrom]
  | c :: cs,i,a,h=>by
    have d:=h 0 c rfl
    simp only [N3] at d
    have e:=FR w b o cs (i + 1) (a.push c) (λ j v hv=>by
      have:=h (j + 1) v (by simpa using hv)
      rwa [show o + (i + 1 + j)=o + (i + (j + 1)) from by omega])
    simp only [J5,loadCellsFrom]
    simp [load,Sem.run,Hr,d,e]
def cellsAt (w:World) (b o:Nat):List Value->Prop
  | []=>True
  | v :: r=>w.cell? ⟨b,o,none⟩=some v/\cellsAt w b (o + 1) r
theorem Eg {w:World} {b:Nat}:∀ {cs:List Value} {o:Nat},cellsAt w b o cs->∀ j v,cs[j]?=some v->w.cell? ⟨b,o + j,none⟩=some v
  | [],o,_,j,v,h=>by simp at h
  | c :: r,o,hc,0,v,h=>by        have:c=v:=by simpa using h
                                 subst this;exact hc.1
  | c :: r,o,hc,j + 1,v,h=>by
    have:=Eg hc.2 j v (by simpa using h)
    rwa [show o + (j + 1)=o + 1 + j from by omega]
theorem GF {w:World} {b:Nat}:∀ {cs:List Value} {o:Nat},(∀ j v,cs[j]?=some v->w.cell? ⟨b,o + j,none⟩=some v)->cellsAt w b o cs
  | [],_,_=>trivial
  | c :: r,o,h=>⟨h 0 c rfl,GF λ j v hv=>by
      have:=h (j + 1) v (by simpa using hv)
      rwa [show o + 1 + j=o + (j + 1) from by omega]⟩
theorem FB {t:TypeId} [TAgg P t] {z:Value} {size bytes:Nat} [TInfo P t z size bytes] {x:Operand} {b o:Nat} {cs:List Value} (c:opv l x=some (.pointer (some ⟨b,o,none⟩))) (hl:cs.length=size) (hc:cellsAt w b o cs) :
    Ev P ⟨dst,.load t x,ty,pos,aft,none⟩ l w (.agg cs.toArray):=λ _ a d e=>by
  subst hl
  have:=FR (P:=P) (dr w d) b o cs 0 #[] (λ j v hv=>by rw [N4];exact Eg hc j v hv)
  simp [execOp,e.eval c,Instr.loadAt,Instr.sureAddr,loadVar,Ip,EV (P:=P) (t:=t),loadCells,this]
theorem JW {x:Operand} {b:Addr} (c:opv l x=some (.pointer (some b))):Ev P ⟨dst,.nilCheck x,ty,pos,aft,none⟩ l w (.pointer (some b)):=λ _ a d e=>by
  simp [execOp,e.eval c]
theorem MY {x:Operand} {i:Nat} {vs:Array Value} {v:Value} (b:opv l x=some (.tuple vs)) (hi:vs[i]?=some v):Ev P ⟨dst,.extract x i,ty,pos,aft,none⟩ l w v:=λ _ a d c=>by
  simp [execOp,c.eval b,Instr.extract,hi]
theorem MZ {t:TypeId} {k:IntKind} [hk:TInt P t k] {x:Operand} {v:Value} (b:opv l x=some v):Ev P ⟨dst,.makeInterface t x,ty,pos,aft,none⟩ l w (.iface t v):=λ _ a d c=>by
  simp [execOp,c.eval b,Instr.makeInterface,run_underlying hk.eq]
theorem Mm {t e:TypeId} [a:TPtr P t e] (p:Option Addr) (w:World):(Op.equal t (.pointer p) (.pointer none)).run P w=.ok p.isNone w:=by
  have hd:∀ d:Nat,(Op.equalIn (d + 1) t (.pointer p) (.pointer none)).run P w=.ok p.isNone w:=λ d=>by
    cases p<;>simp [Op.equalIn,run_underlying a.eq]
  exact hd 9999
theorem IH {t:TypeId} [b:TIface P t] (w:World):(Op.equal t .nilIface .nilIface).run P w=.ok true w:=by
  obtain ⟨a,hm⟩:=b.eq
  have hd:∀ d:Nat,(Op.equalIn (d + 1) t .nilIface .nilIface).run P w=.ok true w:=λ d=>by
    simp [Op.equalIn,run_underlying hm]
  exact hd 9999
theorem Ic {t:TypeId} [b:TIface P t] (s:TypeId) (v:Value) (w:World):(Op.equal t (.iface s v) .nilIface).run P w=.ok false w:=by
  obtain ⟨a,hm⟩:=b.eq
  have hd:∀ d:Nat,(Op.equalIn (d + 1) t (.iface s v) .nilIface).run P w=.ok false w:=λ d=>by
    simp [Op.equalIn,run_underlying hm]
  exact hd 9999
theorem Tj {t e u:TypeId} [g:TPtr P t e] {x:Operand} {p:Option Addr} (c:opv l x=some (.pointer p)):Ev P ⟨dst,.binOp .eql t x (.const (.pointer none)) u,ty,pos,aft,none⟩ l w (.bool p.isNone):=λ _ a d b=>by
  have f:=b.eval (x:=.const (.pointer none)) (v:=.pointer none) rfl
  simp [execOp,b.eval c,f,eqGuard,binOp,Mm (P:=P) (t:=t)]
theorem Tk {t u:TypeId} [f:TIface P t] {x:Operand} (c:opv l x=some .nilIface):Ev P ⟨dst,.binOp .eql t x (.const .nilIface) u,ty,pos,aft,none⟩ l w (.bool true):=λ _ a d b=>by
  have e:=b.eval (x:=.const .nilIface) (v:=.nilIface) rfl
  simp [execOp,b.eval c,e,eqGuard,binOp,IH (P:=P) (t:=t)]
theorem Sr {t u:TypeId} [f:TIface P t] {x:Operand} {s:TypeId} {v:Value} (c:opv l x=some (.iface s v)):Ev P ⟨dst,.binOp .eql t x (.const .nilIface) u,ty,pos,aft,none⟩ l w (.bool false):=λ _ a d b=>by
  have e:=b.eval (x:=.const .nilIface) (v:=.nilIface) rfl
  simp [execOp,b.eval c,e,eqGuard,binOp,Ic (P:=P) (t:=t)]
theorem Na {t u:TypeId} [f:TIface P t] {x:Operand} (c:opv l x=some .nilIface):Ev P ⟨dst,.binOp .neq t x (.const .nilIface) u,ty,pos,aft,none⟩ l w (.bool false):=λ _ a d b=>by
  have e:=b.eval (x:=.const .nilIface) (v:=.nilIface) rfl
  simp [execOp,b.eval c,e,eqGuard,binOp,IH (P:=P) (t:=t)]
theorem Mc {t u:TypeId} [f:TIface P t] {x:Operand} {s:TypeId} {v:Value} (c:opv l x=some (.iface s v)):Ev P ⟨dst,.binOp .neq t x (.const .nilIface) u,ty,pos,aft,none⟩ l w (.bool true):=λ _ a d b=>by
  have e:=b.eval (x:=.const .nilIface) (v:=.nilIface) rfl
  simp [execOp,b.eval c,e,eqGuard,binOp,Ic (P:=P) (t:=t)]
theorem UK {t:TypeId} [f:TStr P t] {x i:Operand} {k:IntKind} {s:ByteArray} {j:Nat} (c:opv l x=some (.string s)) (e:opv l i=some (.int k (j:Int))) (hlt:j < s.size) :
    Ev P ⟨dst,.index t x i,ty,pos,aft,none⟩ l w (.int .u8 ((s[j]'hlt).toNat:Int)):=λ _ a d b=>by
  simp [execOp,b.eval c,b.eval e,Instr.index,asIntOf,run_underlying f.eq,hlt]
theorem Ou {b:Fn} {xs ys:List Operand} {vs c:List Value} (f:R6 l xs=some vs) (g:R6 l ys=some c):Ev P ⟨dst,.makeFunc b xs.toArray ys.toArray,ty,pos,aft,none⟩ l w (.func b vs.toArray c.toArray):=λ _ a d e=>by
  simp [execOp,Instr.makeFunc,e.evals f,e.evals g]
end
end
section
open Go Go.RowKit
def Agree (F:Nat->Prop) (w w':World):Prop:=∀ k,F k->w'.heap[k]?=w.heap[k]?
abbrev Ext (w w':World):Prop:=Below w.heap.size w w'
theorem Ext.agree {w w':World} (b:Ext w w') {F:Nat->Prop} (a:∀ k,F k->k < w.heap.size):Agree F w w':=λ k hk=>b.block k (a k hk)
theorem Ext.trans' {a b c:World} (d:Ext a b) (k:Ext b c):Ext a c:=d.trans (k.mono d.size)
theorem Agree.cell {F:Nat->Prop} {w w':World} (c:Agree F w w') {a:Addr} (b:F a.block):w'.cell? a=w.cell? a:=World.cell?_of_block (c _ b)
theorem Dq {F:Nat->Prop} {w w':World} (a:Agree F w w') {b:Nat} (hb:F b):∀ {cs:List Value} {o:Nat},cellsAt w b o cs->cellsAt w' b o cs
  | [],_,_=>trivial
  | _ :: _,_,hc=>⟨(a.cell hb).trans hc.1,Dq a hb hc.2⟩
theorem KR {w w':World} {b o:Nat} {cs:List Value} (c:cellsAt w b o cs) (hb:b < w.heap.size) (a:Ext w w'):cellsAt w' b o cs:=Dq (F:=(· < w.heap.size)) (a.agree λ _ c=>c) hb c
theorem FX {w:World} {b:Nat}:∀ {xs ys:List Value} {o:Nat},cellsAt w b o (xs ++ ys)↔cellsAt w b o xs/\cellsAt w b (o + xs.length) ys
  | [],ys,o=>by simp [cellsAt]
  | x :: xs,ys,o=>by
    simp only [List.cons_append,cellsAt,J5]
    rw [FX,show o + 1 + xs.length=o + (xs.length + 1) from by omega,and_assoc]
class Rp (α:Type) where
  isAgg:Bool
  size:Nat
  R:World->(Nat->Prop)->List Value->α->Prop
  len:∀ {w F cs x},R w F cs x->cs.length=size
  one:∀ {w F cs x},R w F cs x->∀ u∈cs,u.oneCell'=true
  agree:∀ {w w' F cs x},R w F cs x->Agree F w w'->R w' F cs x
  mono:∀ {w F G cs x},R w F cs x->(∀ k,F k->G k)->R w G cs x
def Chunks {α:Type} [Rp α] (w:World) (F:Nat->Prop):List Value->List α->Prop
  | cells,[]=>cells=[]
  | cells,x :: xs=>∃ cs a,cells=cs ++ a/\Rp.R w F cs x/\Chunks w F a xs
section
variable {α : Type} [Rp α] {w w' : World} {F G : Nat → Prop}
theorem Chunks.length:∀ {xs:List α} {cells:List Value},Chunks w F cells xs->cells.length=xs.length * Rp.size α
  | [],cells,h=>by     have:cells=[]:=h
                       simp [this]
  | x :: xs,cells,⟨cs,rest,he,hr,hc⟩=>by
    rw [he,H2,Rp.len hr,Chunks.length hc,J5,P2];omega
theorem Chunks.one:∀ {xs:List α} {cells:List Value},Chunks w F cells xs->∀ u∈cells,u.oneCell'=true
  | [],cells,h,u,hu=>by       have:cells=[]:=h
                              simp [this] at hu
  | x :: xs,cells,⟨cs,rest,he,hr,hc⟩,u,hu=>by
    rw [he,K9] at hu
    rcases hu with hu|hu
    . exact Rp.one hr u hu
    . exact Chunks.one hc u hu
theorem Chunks.agree (a:Agree F w w'):∀ {xs:List α} {cells:List Value},Chunks w F cells xs->Chunks w' F cells xs
  | [],_,hc=>hc
  | _ :: _,_,⟨cs,rest,he,hr,hc⟩=>⟨cs,rest,he,Rp.agree hr a,Chunks.agree a hc⟩
theorem Chunks.mono (a:∀ k,F k->G k):∀ {xs:List α} {cells:List Value},Chunks w F cells xs->Chunks w G cells xs
  | [],_,hc=>hc
  | _ :: _,_,⟨cs,rest,he,hr,hc⟩=>⟨cs,rest,he,Rp.mono hr a,Chunks.mono a hc⟩
theorem Chunks.append:∀ {xs ys:List α} {c d:List Value},Chunks w F c xs->Chunks w F d ys->Chunks w F (c ++ d) (xs ++ ys)
  | [],ys,c,d,h,k=>by        have:c=[]:=h
                             subst this;exact k
  | x :: xs,ys,c,d,⟨cs,rest,he,hr,hc⟩,k=>⟨cs,rest ++ d,by rw [he,I1],hr,Chunks.append hc k⟩
theorem Chunks.single {x:α} {cs:List Value} (a:Rp.R w F cs x):Chunks w F cs [x]:=⟨cs,[],by simp,a,rfl⟩
theorem Chunks.get:∀ {xs:List α} {cells:List Value},Chunks w F cells xs->∀ {i:Nat} {x:α},xs[i]?=some x->∃ b cs a,cells=b ++ (cs ++ a)/\b.length=i * Rp.size α/\Rp.R w F cs x
  | [],_,_,i,x,h=>by simp at h
  | y :: xs,cells,⟨cs,rest,he,hr,hc⟩,0,x,h=>by
    have:y=x:=by simpa using h
    subst this
    exact ⟨[],cs,rest,by simpa using he,by simp,hr⟩
  | y :: xs,cells,⟨cs,rest,he,hr,hc⟩,i + 1,x,h=>by
    obtain ⟨b,c',a,h1,h2,h3⟩:=Chunks.get hc (i:=i) (x:=x) (by simpa using h)
    exact ⟨cs ++ b,c',a,by rw [he,h1,I1],by rw [H2,h2,Rp.len hr,P2];omega,h3⟩
theorem Chunks.take:∀ {xs :   List α} {cells:List Value} (k:Nat),Chunks w F cells xs→Chunks w F (cells.take (k * Rp.size α)) (xs.take k)
  | xs,cells,0,h=>by simp [Chunks]
  | [],cells,k + 1,h=>by      have:cells=[]:=h
                              simp [this,Chunks]
  | x :: xs,cells,k + 1,⟨cs,rest,he,hr,hc⟩=>by
    refine ⟨cs,rest.take (k * Rp.size α),?_,hr,Chunks.take k hc⟩
    rw [he,List.take_append,Rp.len hr,show (k + 1) * Rp.size α - Rp.size α=k * Rp.size α from by rw [P2];omega,D4 (by rw [Rp.len hr,P2];omega)]
end
def SlR {α:Type} [Rp α] (w:World) (F:Nat->Prop) (v:Value) (xs:List α):Prop :=
  ∃ A c cells,v=.slice A xs.length c/\xs.length<=c/\c<=9223372036854775807/\Chunks w F cells xs/\(0 < xs.length->∃ b o,A=some ⟨b,o,none⟩/\F b/\cellsAt w b o cells)
instance {α:Type} [Rp α]:Rp (List α) where
  isAgg:=false
  size:=1
  R w F cs xs:=∃ v,cs=[v]/\SlR w F v xs
  len:=by rintro w F cs x ⟨v,rfl,_⟩;rfl
  one:=by
    rintro w F cs x ⟨v,rfl,A,c,cells,rfl,_⟩ u hu
    have:u=.slice A x.length c:=by simpa using hu
    subst this;rfl
  agree:=by
    rintro w w' F cs x ⟨v,rfl,A,c,cells,rfl,h1,h2,h3,h4⟩ h
    refine ⟨_,rfl,A,c,cells,rfl,h1,h2,h3.agree h,λ hn=>?_⟩
    obtain ⟨b,o,h5,h6,h7⟩:=h4 hn
    exact ⟨b,o,h5,h6,Dq h h6 h7⟩
  mono:=by
    rintro w F G cs x ⟨v,rfl,A,c,cells,rfl,h1,h2,h3,h4⟩ h
    refine ⟨_,rfl,A,c,cells,rfl,h1,h2,h3.mono h,λ hn=>?_⟩
    obtain ⟨b,o,h5,h6,h7⟩:=h4 hn
    exact ⟨b,o,h5,h _ h6,h7⟩
def P9 (n:Int):Prop:=-9223372036854775808<=n/\n<=9223372036854775807
instance:Rp Int where
  isAgg:=false
  size:=1
  R _ _ cs n:=cs=[.int .i64 n]/\P9 n
  len:=by rintro w F cs x ⟨rfl,_⟩;rfl
  one:=by
    rintro w F cs x ⟨rfl,_⟩ u hu
    have:u=.int .i64 x:=by simpa using hu
    subst this;rfl
  agree:=λ a _=>a
  mono:=λ a _=>a
instance:Rp Bool where
  isAgg:=false
  size:=1
  R _ _ cs b:=cs=[.bool b]
  len:=by rintro w F cs x rfl;rfl
  one:=by
    rintro w F cs x rfl u hu
    have:u=.bool x:=by simpa using hu
    subst this;rfl
  agree:=λ a _=>a
  mono:=λ a _=>a
instance:Rp ByteArray where
  isAgg:=false
  size:=1
  R _ _ cs s:=cs=[.string s]/\s.size<=9223372036854775807
  len:=by rintro w F cs x ⟨rfl,_⟩;rfl
  one:=by
    rintro w F cs x ⟨rfl,_⟩ u hu
    have:u=.string x:=by simpa using hu
    subst this;rfl
  agree:=λ a _=>a
  mono:=λ a _=>a
def Vb {α:Type} [Rp α] (w:World) (F:Nat->Prop) (v:Value) (x:α):Prop :=
  match Rp.isAgg α with
  | true=>∃ cs:List Value,v=.agg cs.toArray/\Rp.R w F cs x
  | false=>Rp.R w F [v] x
abbrev All (w:World):Nat->Prop:=λ k=>k < w.heap.size
abbrev V {α:Type} [Rp α] (w:World) (v:Value) (x:α):Prop:=Vb w (All w) v x
section
variable {α : Type} [Rp α] {w w' : World} {F G : Nat → Prop} {v : Value} {x : α} {xs : List α}
theorem Vb.agree (b:Vb w F v x) (a:Agree F w w'):Vb w' F v x:=by
  unfold Vb at *
  cases hb:Rp.isAgg α<;>simp only [hb] at b ⊢
  . exact Rp.agree b a
  . obtain ⟨cs,h1,h2⟩:=b;exact ⟨cs,h1,Rp.agree h2 a⟩
theorem Vb.mono (a:Vb w F v x) (hk:∀ k,F k->G k):Vb w G v x:=by
  unfold Vb at *
  cases hb:Rp.isAgg α<;>simp only [hb] at a ⊢
  . exact Rp.mono a hk
  . obtain ⟨cs,h1,h2⟩:=a;exact ⟨cs,h1,Rp.mono h2 hk⟩
theorem Vb.ext (a:V w v x) (he:Ext w w'):V w' v x:=(a.agree (he.agree λ _ a=>a)).mono λ _ hk=>H3 hk he.size
theorem Vb.below {B:Nat} (a:Vb w (· < B) v x) (he:Below B w w'):Vb w' (· < B) v x:=a.agree λ k hk=>he.block k hk
theorem Vb.cells (b:Vb w F v x):Rp.R w F v.cells.toList x:=by
  unfold Vb at b
  cases hb:Rp.isAgg α<;>simp only [hb] at b
  . have a:=Rp.one b v (by simp)
    have:v.cells.toList=[v]:=by cases v<;>first|rfl|(simp [Value.oneCell'] at a)
    rw [this];exact b
  . obtain ⟨cs,rfl,h2⟩:=b;exact h2
theorem Vb.slice (a:Vb w F v xs):SlR w F v xs:=by
  obtain ⟨u,hu,h'⟩:=a
  have:v=u:=by simpa using hu
  subst this;exact h'
theorem Vb.of_slice (a:SlR w F v xs):Vb w F v xs:=⟨v,rfl,a⟩
theorem Vb.nil (w:World) (F:Nat->Prop):Vb (α:=List α) w F (.slice none 0 0) []:=.of_slice ⟨none,0,[],rfl,P1 _,by omega,rfl,λ a=>by simp at a⟩
theorem Vb.elem {A:Option Addr} {m c:Nat} (h:Vb w F (.slice A m c) xs) {k:Nat} {x:α} (d:xs[k]?=some x) :
    ∃ b o cs,A=some ⟨b,o,none⟩/\F b/\k < m/\cellsAt w b (o + k * Rp.size α) cs/\Rp.R w F cs x:=by
  obtain ⟨j,c',cells,he,h1,h2,h3,h4⟩:=h.slice
  injection he with e f g
  subst e;subst f;subst g
  have hk:k < xs.length:=by
    rcases N2 k xs.length with h|h
    . exact h
    . rw [E6 h] at d;cases d
  obtain ⟨b,o,h5,h6,h7⟩:=h4 (by omega)
  obtain ⟨i,cs,post,h8,h9,h10⟩:=h3.get d
  rw [h8] at h7
  have a:=(FX.1 (FX.1 h7).2).1
  rw [h9] at a
  exact ⟨b,o,cs,h5,h6,hk,a,h10⟩
theorem Vb.len {A:Option Addr} {m c:Nat} (f:Vb w F (.slice A m c) xs):m=xs.length/\m<=c/\c<=9223372036854775807:=by
  obtain ⟨d,c',cells,he,h1,h2,h3,h4⟩:=f.slice
  injection he with e a b
  subst a;subst b;exact ⟨rfl,h1,h2⟩
theorem Vb.form (b:Vb w F v xs):∃ A c,v=.slice A xs.length c:=by
  obtain ⟨a,c',cells,he,_⟩:=b.slice
  exact ⟨a,c',he⟩
end
def Blk (w:World) (g:Nat) (t:TypeId) (cs:List Value):Prop:=w.heap[g]?=some (.cells cs.toArray t (0,0))
section
variable {w w' : World} {g : Nat} {t : TypeId} {cs : List Value}
theorem Blk.lt (a:Blk w g t cs):g < w.heap.size:=by
  rcases N2 g w.heap.size with hlt|hge
  . exact hlt
  . unfold Blk at a;rw [D5 hge] at a;cases a
theorem Blk.cell (a:Blk w g t cs) {i:Nat} {v:Value} (hi:cs[i]?=some v):w.cell? ⟨g,i,none⟩=some v:=by
  unfold Blk at a;simp [World.cell?,a,hi]
theorem Blk.cellsAt (a:Blk w g t cs):cellsAt w g 0 cs:=GF λ j v hv=>by rw [N4];exact a.cell hv
theorem Blk.frozen (a:Blk w g t cs) (i:Nat):w.frozen? ⟨g,i,none⟩=false:=by
  unfold Blk at a;simp [World.frozen?,a]
theorem Blk.keep (a:Blk w g t cs) (he:w'.heap[g]?=w.heap[g]?):Blk w' g t cs:=he.trans a
theorem Blk.ext (a:Blk w g t cs) (he:Ext w w'):Blk w' g t cs:=a.keep (he.block g a.lt)
end
structure New (w w':World) (t:TypeId) (cs:List Value):Prop where
  ext:Ext w w'
  size:w'.heap.size=w.heap.size + 1
  blk:Blk w' w.heap.size t cs
structure Upd (w w':World) (g:Nat) (t:TypeId) (cs:List Value):Prop where
  os:w'.os=w.os
  tape:w'.tape=w.tape
  output:w'.output=w.output
  size:w'.heap.size=w.heap.size
  blk:Blk w' g t cs
  other:∀ k,k≠g->w'.heap[k]?=w.heap[k]?
theorem Upd.below {w w':World} {g:Nat} {t:TypeId} {cs:List Value} (b:Upd w w' g t cs) {B:Nat} (a:B<=g):Below B w w' :=
  ⟨b.os,b.tape,b.output,Nat.le_of_eq b.size.symm,λ k hk=>b.other k (by omega)⟩
theorem Upd.agree {w w':World} {g:Nat} {t:TypeId} {cs:List Value} (b:Upd w w' g t cs) {F:Nat->Prop} (a:¬ F g):Agree F w w':=λ k hk=>b.other k (λ e=>a (e ▸ hk))
theorem New.mk' (w:World) (t:TypeId) (cs:List Value):New w (w.alloc (.cells cs.toArray t)) t cs :=
  ⟨(P7 _ _).alloc (P1 _) _,by simp,by unfold Blk;show (w.heap.push _)[_]?=_;simp⟩
theorem New.upd {w b c:World} {t:TypeId} {cs a:List Value} (d:New w b t cs) (k:Upd b c w.heap.size t a):New w c t a :=
  ⟨d.ext.trans (k.below (P1 _)),by rw [k.size,d.size],k.blk⟩
def Own {α:Type} [Rp α] (w:World) (base:Nat) (F:Nat->Prop) (e:TypeId) (v:Value) (xs:List α):Prop :=
  ∃ cells,w.ownsRow base e (Rp.size α) v xs.length cells/\Chunks w F cells xs/\∀ g,v.ownBlock=some g->¬ F g
section
variable {α : Type} [Rp α] {w w' : World} {F G : Nat → Prop} {base : Nat} {e : TypeId} {v : Value} {xs : List α}
theorem Own.nil (w:World) (base:Nat) (F:Nat->Prop) (e:TypeId):Own (α:=α) w base F e (.slice none 0 0) []:=⟨[],⟨by simp,.inl ⟨rfl,rfl⟩⟩,rfl,λ g a=>by simp [Value.ownBlock] at a⟩
theorem Own.vb (c:Own w base F e v xs):Vb w (λ k=>F k\/v.ownBlock=some k) v xs:=by
  obtain ⟨cells,a,h2,h3⟩:=c
  rcases a.2 with ⟨rfl,hn⟩|⟨g,cap,cur,rfl,hg,hh,hnc,hcm,hcs,hcur⟩
  . have:xs=[]:=B0 hn
    subst this;exact .nil _ _
  . refine .of_slice ⟨_,cap,cells,rfl,hnc,by simpa [maxLen] using hcm,h2.mono λ k hk=>.inl hk,λ b=>⟨g,0,rfl,.inr rfl,GF λ j u hu=>?_⟩⟩
    have hj:j < xs.length * Rp.size α:=by rw [<- h2.length];exact (B6.1 hu).1
    have:cur[j]?=some u:=by
      rw [<- hcur,H4,if_pos hj] at hu
      simpa using hu
    simp [World.cell?,hh,this]
theorem Own.agree (c:Own w base F e v xs) (b:Agree F w w') (hv:∀ g,v.ownBlock=some g->w'.heap[g]?=w.heap[g]?):Own w' base F e v xs:=by
  obtain ⟨cells,a,h2,h3⟩:=c
  refine ⟨cells,⟨a.1,?_⟩,h2.agree b,h3⟩
  rcases a.2 with c|⟨g,cap,cur,rfl,hg,hh,r⟩
  . exact .inl c
  . exact .inr ⟨g,cap,cur,rfl,hg,(hv g rfl).trans hh,r⟩
theorem Own.lt (h:Own w base F e v xs):∀ g,v.ownBlock=some g->base<=g/\g < w.heap.size:=by
  obtain ⟨cells,d,h2,h3⟩:=h
  rcases d.2 with ⟨rfl,hn⟩|⟨g,cap,cur,rfl,a,c,r⟩
  . intro g a;simp [Value.ownBlock] at a
  . intro f b
    have:g=f:=by simpa [Value.ownBlock] using b
    subst this
    refine ⟨a,?_⟩
    rcases N2 g w.heap.size with h|h
    . exact h
    . rw [D5 h] at c;cases c
theorem Own.ext (c:Own w base F e v xs) (he:Ext w w') (a:∀ k,F k->k < w.heap.size):Own w' base F e v xs :=
  c.agree (he.agree a) λ g b=>he.block g (c.lt g b).2
theorem Own.mono (b:Own w base F e v xs) (hk:∀ k,F k->G k) (a:∀ g,v.ownBlock=some g->¬ G g):Own w base G e v xs:=by
  obtain ⟨cells,h1,h2,h3⟩:=b
  exact ⟨cells,h1,h2.mono hk,a⟩
theorem Own.lower (c:Own w base F e v xs) {a:Nat} (hb:a<=base):Own w a F e v xs:=by
  obtain ⟨cells,b,h2,h3⟩:=c
  refine ⟨cells,⟨b.1,?_⟩,h2,h3⟩
  rcases b.2 with c|⟨g,cap,cur,hv,hg,r⟩
  . exact .inl c
  . exact .inr ⟨g,cap,cur,hv,by omega,r⟩
end
end
section
open Go Go.RowKit
class Callable (P : Program) (f : FuncId) : Prop where eq : ∃ fn, P.funcs[f]? = some fn ∧ fn.body.isNone = false ∧ (fn.name == "runtime.NumGoroutine") = false
def Fn (P:Program) (f:FuncId) (b:List Value) (w:World) (R:Value->World->Prop):Prop :=
  ∀ d,Calls P f b.toArray (dr w d) λ e w'=>∃ v a c,e=.returned v/\w'=dr a c/\R v a
theorem Fn.mono {P:Program} {f:FuncId} {a:List Value} {w:World} {R b:Value->World->Prop} (c:Fn P f a w R) (hr:∀ v w',R v w'->b v w'):Fn P f a w b :=
  λ d=>(c d).mono λ _ _ ⟨v,w₀,d',he,hw,hR⟩=>⟨v,w₀,d',he,hw,hr _ _ hR⟩
theorem II (w:World) (d:Nat) (o:Obj):(dr w d).alloc o=dr (w.alloc o) d:=rfl
theorem Is {P:Program} (w:World) (e:TypeId) (cs:Array Value):(newRow e cs).run P w=.ok ⟨w.heap.size,0,none⟩ (w.alloc (.cells cs e)):=by
  simp [newRow,newObj,Sem.run]
section
variable {P : Program} {n : Nat} {ops : Array Oper} {Q : Q8} {rest : List Oper} {l : Env} {w : World} {d : Tmp} {ty : TypeId} {pos : String} {aft : Array Edge}
theorem FC {t:TypeId} {z:Value} {size bytes:Nat} [TInfo P t z size bytes] (hd:Nat.blt d n=true)
    (c:∀ w',New w w' t z.cells.toList->owp P n ops Q rest ((d,.pointer (some ⟨w.heap.size,0,none⟩)) :: l) w'):owp P n ops Q (⟨some d,.alloc t,ty,pos,aft,none⟩ :: rest) l w :=
  GE (w':=w.alloc (.cells z.cells t)) (λ a e b=>.inl ⟨.pointer (some ⟨w.heap.size,0,none⟩),e,by
    simp [execOp,Instr.alloc,Hh (P:=P) (t:=t),newVar,Is,JD,II],b.put hd _⟩) (c _ (by simpa using New.mk' w t z.cells.toList))
theorem EI {t:TypeId} {x:Operand} {v:Value} (c:opv l x=some v) 
    (f:∀ w',New w w' t v.cells.toList->owp P n ops Q rest ((d,.pointer (some ⟨w.heap.size,0,none⟩)) :: l) w') (hd:Nat.blt d n=true:=by exact rfl):owp P n ops Q (⟨some d,.box t x,ty,pos,aft,none⟩ :: rest) l w :=
  GE (w':=w.alloc (.cells v.cells t)) (λ a e b=>.inl ⟨.pointer (some ⟨w.heap.size,0,none⟩),e,by
    simp [execOp,Instr.box,b.eval c,newVar,Is,JD,II],b.put hd _⟩) (f _ (by simpa using New.mk' w t v.cells.toList))
def Q6 (cs:List Value) (o:Nat):List Value->List Value
  | []=>cs
  | v :: r=>Q6 (cs.set o v) (o + 1) r
theorem JG (g:Nat) (t:TypeId) (o:Nat):∀ (vs:List Value) (i:Nat) (cs:List Value) (w:World),Blk w g t cs→o + i + vs.length≤cs.length→(∀ u∈vs,u.oneCell'=true) →
    ∃ w',(storeCells ⟨g,o,none⟩ vs i).run P w=.ok () w'/\Upd w w' g t (Q6 cs (o + i) vs)/\w'.drawn=w.drawn
  | [],i,cs,w,hb,_,_=>⟨w,by simp [storeCells],⟨rfl,rfl,rfl,rfl,hb,λ _ _=>rfl⟩,rfl⟩
  | v :: r,i,cs,w,hb,hl,h1=>by
    have a:o + i < cs.length:=by simp at hl;omega
    have hc:w.cell? ⟨g,o + i,none⟩=some (cs[o + i]):=hb.cell (C4 a)
    have hf:=hb.frozen (o + i)
    have b:Blk (w.setCell ⟨g,o + i,none⟩ v) g t (cs.set (o + i) v):=by
      unfold Blk at hb ⊢
      simp [World.setCell,E7,hb]
    obtain ⟨w',hr,hu,hd⟩:=JG g t o r (i + 1) (cs.set (o + i) v) (w.setCell ⟨g,o + i,none⟩ v) b (by simp at hl ⊢;omega) (λ u hu=>h1 u (by simp [hu]))
    have hv:v.oneCell'=true:=h1 v (by simp)
    refine ⟨w',?_,⟨hu.os,hu.tape,hu.output,by rw [hu.size];simp [World.setCell],?_,λ k hk=>?_⟩,hd⟩
    . simp only [storeCells]
      have hs:(store (⟨g,o + i,none⟩:Addr) v).run P w=.ok () (w.setCell ⟨g,o + i,none⟩ v):=by
        cases v<;>simp [Value.oneCell'] at hv<;>simp [store,Sem.run,hc,hf]
      simp [Hr,hs,hr]
    . have:=hu.blk
      rwa [show o + (i + 1)=o + i + 1 from by omega] at this
    . rw [hu.other k hk,Below.heap_setCell _ _ _ _ hk]
theorem CI {t:TypeId} {z:Value} {size bytes:Nat} [TInfo P t z size bytes] {x y:Operand} {g o:Nat} {b:TypeId} {v:Value} {cs:List Value} (j:opv l x=some (.pointer (some ⟨g,o,none⟩))) (k:opv l y=some v)
    (hb:Blk w g b cs) (d:v.cells.toList.length=size) (hl:o + size<=cs.length) (m:∀ u∈v.cells.toList,u.oneCell'=true)
    (q:∀ w',Upd w w' g b (Q6 cs o v.cells.toList)->owp P n ops Q rest l w'):owp P n ops Q (⟨none,.store t x y,ty,pos,aft,none⟩ :: rest) l w:=λ a e f=>by
  refine wpList_plain rfl λ K p=>?_
  have h:Blk (dr w e) g b cs:=hb
  obtain ⟨w',hr,hu,hd⟩:=JG (P:=P) g b o v.cells.toList 0 cs (dr w e) h (by omega) m
  have i:Upd w w' g b (Q6 cs o v.cells.toList):=⟨hu.os,hu.tape,hu.output,hu.size,hu.blk,hu.other⟩
  unfold Oper.wp
  have c:v.cells.size=size:=by simpa using d
  have:(execOp a.eval ⟨none,.store t x y,ty,pos,aft,none⟩).run P (dr w e)=.ok .skip w':=by
    simp [execOp,Instr.storeAt,Instr.sureAddr,f.eval j,f.eval k,storeVar,EV (P:=P) (t:=t),c,hr]
  rw [this]
  exact p _ _ (q w' i a w'.drawn f)
theorem FY:∀ (vs cs:List Value) (o:Nat),(Q6 cs o vs).length=cs.length
  | [],_,_=>rfl
  | _ :: r,cs,o=>by rw [Q6,FY r];simp
theorem GR:∀ (vs a c b:List Value),c.length=vs.length->Q6 (a ++ (c ++ b)) a.length vs=a ++ (vs ++ b)
  | [],a,c,b,h=>by
    have:c=[]:=B0 h
    simp [Q6,this]
  | v :: r,a,c,b,h=>by
    cases c with
    | nil=>simp at h
    | cons m c =>
      have d:=GR r (a ++ [v]) c b (by simpa using h)
      simp only [Q6]
      rw [show (a ++ (m :: c ++ b)).set a.length v=(a ++ [v]) ++ (c ++ b) from by simp,show a.length + 1=(a ++ [v]).length from by simp,d]
      simp
theorem Iq:∀ (vs:List Value) (k off:Nat) (a:Array Value),((vs.zipIdx k).foldl (λ cs (p:Value×Nat)=>cs.setIfInBounds (off + p.2) p.1) a).toList=Q6 a.toList (off + k) vs
  | [],_,_,_=>rfl
  | v :: r,k,off,a=>by
    simp only [List.zipIdx_cons,L0,Q6]
    rw [Iq r (k + 1) off]
    simp [Nat.add_assoc]
def ZW {β:Type}:Nat->List β->List (Nat×β)
  | _,[]=>[]
  | k,x :: r=>(k,x) :: ZW (k + 1) r
def Aad {β:Type}:Nat→List (Nat×β)→Bool
  | _,[]=>true
  | k,p :: r=>match Nat.beq p.1 k with
    | true=>Aad (k + 1) r
    | false=>false
theorem PE {β:Type}:∀ (ps:List (Nat×β)) (k:Nat),Aad k ps=true->ps=ZW k (ps.map (·.2))
  | [],_,_=>rfl
  | p :: r,k,h=>by
    simp only [Aad] at h
    cases hb:Nat.beq p.1 k with
    | false=>rw [hb] at h;simp at h
    | true =>
      rw [hb] at h
      have hk:p.1=k:=E5 hb
      obtain ⟨a,b⟩:=p
      simp only at hk
      subst hk
      simp only [M7,ZW]
      rw [<- PE r (a + 1) h]
theorem PF {β a:Type} (f:β->a):∀ (xs:List β) (k:Nat),(ZW k xs).map (λ p=>(p.1,f p.2))=ZW k (xs.map f)
  | [],_=>rfl
  | x :: r,k=>by simp [ZW,PF f r]
theorem PG {size:Nat}:∀ (vs:List Value) (k:Nat) (b:Array Value) (c a:List Value),b.toList=c ++ a->c.length=k * size->a.length=vs.length * size->(∀ v∈vs,v.cells.size=size) ->
    ∃ d,Instr.fill (λ i=>some (i * size,size)) b (ZW k vs)=some d/\d.toList=c ++ vs.flatMap (λ v=>v.cells.toList)
  | [],k,b,c,a,h,_,h2,_=>by
    have:a=[]:=B0 (by simpa using h2)
    subst this
    exact ⟨b,rfl,by simpa using h⟩
  | v :: r,k,b,c,a,h,h1,h2,hv=>by
    have e:v.cells.size=size:=hv v (by simp)
    have g:b.size=c.length + a.length:=by rw [<- G7,h,H2]
    have f:a=a.take size ++ a.drop size:=(E8 size a).symm
    have j:a.length=size + r.length * size:=by rw [h2,J5,P2];omega
    simp only [ZW,Instr.fill]
    rw [if_neg (by simp [e];omega)]
    have hf:=Iq v.cells.toList 0 (k * size) b
    rw [N3,h,<- h1,f,GR _ _ _ _ (by simp [e];omega)] at hf
    obtain ⟨d,ho1,ho2⟩:=PG r (k + 1) ((v.cells.toList.zipIdx 0).foldl (λ cs (p:Value×Nat)=>cs.setIfInBounds (c.length + p.2) p.1) b) (c ++ v.cells.toList) (a.drop size) (by rw [hf];simp)
      (by simp [e,h1,P2]) (by simp;omega) (λ u hu=>hv u (by simp [hu]))
    refine ⟨d,?_,by rw [ho2];simp⟩
    rw [<- ho1]
    congr 1
    rw [<- Array.foldl_toList,Array.toList_zipIdx,h1]
theorem Fc {t e:TypeId} [hs:TSlice P t e] {z:Value} {size bytes b:Nat} [TInfo P e z size bytes] {ps:List (Nat×Operand)} {vs:List Value}  (r:R6 l (ps.map (·.2))=some vs) (f:vs.length=b) (hv:∀ v∈vs,v.cells.toList.length=size)  (hd:Nat.blt d n=true)
    (u:∀ w',New w w' e (vs.flatMap λ v=>v.cells.toList)->owp P n ops Q rest ((d,.slice (some ⟨w.heap.size,0,none⟩) b b) :: l) w') (hk:Aad 0 ps=true:=by exact rfl) (hz:b * size<=16777216:=by decide):owp P n ops Q (⟨some d,.buildSlice t b ps.toArray,ty,pos,aft,none⟩ :: rest) l w :=
  GE (w':=w.alloc (.cells (vs.flatMap λ v=>v.cells.toList).toArray e)) (λ a q o=>.inl ⟨.slice (some ⟨w.heap.size,0,none⟩) b b,q,by
    have g:(ps.map λ p=>(p.1,a.eval p.2))=ZW 0 vs:=by
      rw [PE ps 0 hk,PF,o.evals r]
    have j:∀ v∈vs,v.cells.size=size:=λ v hm=>by simpa using hv v hm
    have k:¬ 16777216 < b * size:=by omega
    have hf:∀ c:Array Value,c.size=b * size->Instr.fill (λ i=>some (i * size,size)) c (ZW 0 vs)=some (vs.flatMap λ v=>v.cells.toList).toArray:=λ c h=>by
      obtain ⟨s,ho1,ho2⟩:=PG (size:=size) vs 0 c [] c.toList (by simp) (by simp) (by simp [h,f]) j
      rw [ho1]
      congr 1
      apply J6.1
      rw [ho2];simp
    simp only [execOp,Instr.buildSlice]
    by_cases m:b * size=0
    . simp [run_underlying hs.eq,EV (P:=P) (t:=e),m]
      rw [g,hf _ (by simp [m])]
      simp [Is,JD,II]
    . simp [run_underlying hs.eq,EV (P:=P) (t:=e),Hh (P:=P) (t:=e),m,k]
      rw [g,hf _ (by simp)]
      simp [Is,JD,II],o.put hd _⟩) (u _ (by simpa using New.mk' w e (vs.flatMap λ v=>v.cells.toList)))
theorem Mn {t e:TypeId} [hs:TSlice P t e] {z:Value} {size bytes:Nat} [hi:TInfo P e z size bytes] {x y:Operand} {k f:IntKind} {m:Nat} (g:opv l x=some (.int k (m:Int))) (h:opv l y=some (.int f (m:Int))) (hm:bytes * m<=281474976710656) (j:m<=9223372036854775807) (hd:Nat.blt d n=true)
    (o:∀ w',New w w' e (madeCells z.cells (m * size)).toList->owp P n ops Q rest ((d,.slice (some ⟨w.heap.size,0,none⟩) m m) :: l) w'):owp P n ops Q (⟨some d,.makeSlice t x y,ty,pos,aft,none⟩ :: rest) l w:=by
  obtain ⟨i,h1,h2,h3,h4⟩:=hi.eq
  have b:(i.bytes:Int) * (m:Int)<=281474976710656:=by
    rw [h4]
    have:((bytes * m:Nat):Int)<=281474976710656:=by omega
    rwa [Int.natCast_mul] at this
  refine GE (w':=w.alloc (.cells (madeCells z.cells (m * size)) e)) (λ a q c=>.inl ⟨.slice (some ⟨w.heap.size,0,none⟩) m m,q,?_,c.put hd _⟩) (o _ (by simpa using New.mk' w e (madeCells z.cells (m * size)).toList))
  have hr:=run_make (P:=P) (dr w q) t e i z hs.eq h1 h2 k f (m:Int) (m:Int) (by omega) (P3 _) b (by omega)
  simp [execOp,c.eval g,c.eval h,hr,h3,JD,II]
theorem BD {f:FuncId} [hf:Callable P f] {xs:List Operand} {vs:List Value} {h:Array TypeId} {R:Value->World->Prop} (j:R6 l xs=some vs)  (hc:Fn P f vs w R)
    (m:∀ v w',R v w'->owp P n ops Q rest ((d,v) :: l) w') (hd:Nat.blt d n=true:=by exact rfl):owp P n ops Q (⟨some d,.call { callee:=.value (.func f),args:=xs.toArray,argTypes:=h },ty,pos,aft,none⟩ :: rest) l w :=
  JE λ a e i K k=>by
    obtain ⟨fn,h1,h2,h3⟩:=hf.eq
    have b:¬ fn.body=none:=λ e=>by rw [e] at h2;simp at h2
    have c : ¬ fn.name = "runtime.NumGoroutine" := fun e => by rw [e] at h3; simp at h3
    unfold Oper.wp
    have g:a.eval (.func f)=.func (.func f) #[] #[]:=rfl
    have:(execOp a.eval ⟨some d,.call { callee:=.value (.func f),args:=xs.toArray,argTypes:=h },ty,pos,aft,none⟩).run P (dr w e)=.ok (.enter f vs.toArray) (dr w e):=by
      simp [execOp,resolve,g,Deferred.ofValue,invoke,callFunc,h1,b,c,i.evals j]
    rw [this]
    exact (hc e).mono λ _ _ ⟨v,w₀,d',he,hw,hR⟩=>by subst he;subst hw;exact k _ _ (m v w₀ hR _ _ (i.put hd v))
theorem Jc {f:FuncId} [hf:Callable P f] {y:Operand} {caps:List Value} {xs:List Operand} {vs:List Value} {h:Array TypeId} {R:Value->World->Prop} (i:opv l y=some (.func (.func f) #[] caps.toArray)) (j:R6 l xs=some vs) (hd:Nat.blt d n=true) (hc:Fn P f (vs ++ caps) w R)
    (m:∀ v w',R v w'->owp P n ops Q rest ((d,v) :: l) w'):owp P n ops Q (⟨some d,.call { callee:=.value y,args:=xs.toArray,argTypes:=h },ty,pos,aft,none⟩ :: rest) l w :=
  JE λ a e b K k=>by
    obtain ⟨fn,h1,h2,h3⟩:=hf.eq
    have c:¬ fn.body=none:=λ e=>by rw [e] at h2;simp at h2
    have g : ¬ fn.name = "runtime.NumGoroutine" := fun e => by rw [e] at h3; simp at h3
    unfold Oper.wp
    have:(execOp a.eval ⟨some d,.call { callee:=.value y,args:=xs.toArray,argTypes:=h },ty,pos,aft,none⟩).run P (dr w e)=.ok (.enter f (vs ++ caps).toArray) (dr w e):=by
      simp [execOp,resolve,b.eval i,Deferred.ofValue,invoke,callFunc,h1,c,g,b.evals j]
    rw [this]
    exact (hc e).mono λ _ _ ⟨v,w₀,d',he,hw,hR⟩=>by subst he;subst hw;exact k _ _ (m v w₀ hR _ _ (b.put hd v))
theorem GG {α:Type} [Rp α] {t e:TypeId} [hs:TSlice P t e] {z:Value} {bytes:Nat} [hi:TInfo P e z (Rp.size α) bytes] {x y:Operand} {v:Value} {xs ys:List α} {base:Nat} {F:Nat→Prop} {A:Option Addr} {c:Nat} {cells:List Value}
    (T:opv l x=some v) (U:opv l y=some (.slice A ys.length c)) (G:Own w base F e v xs) (O:∀ k,F k->k < w.heap.size) (r:base<=w.heap.size) (h:Chunks w F cells ys) (H:0 < ys.length->∃ b o,A=some ⟨b,o,none⟩/\cellsAt w b o cells)
    (hz0:0 < Rp.size α) (hb:(xs.length + ys.length) * bytes<=140737488355328) (I:xs.length + ys.length<=9223372036854775807) (hd:Nat.blt d n=true)
    (Y:∀ f w',Own w' base F e f (xs ++ ys)->w.grownBy w' v.ownBlock->(f.ownBlock=v.ownBlock\/f.ownBlock=some w.heap.size)->owp P n ops Q rest ((d,f) :: l) w') :
    owp P n ops Q (⟨some d,.call { callee:=.builtin .append,args:=#[x,y],argTypes:=#[t,t] },ty,pos,aft,none⟩ :: rest) l w:=λ a q J=>by
  refine wpList_plain rfl λ K V=>?_
  obtain ⟨i,i1,i2,i3,i4⟩:=hi.eq
  obtain ⟨cs,s,ho2,ho3⟩:=G
  unfold Oper.wp
  have L:∃ f w',(Builtin.append_ #[t,t] ty #[v,.slice A ys.length c]).run P (dr w q)=.ok f w'/\w'.ownsRow base e (Rp.size α) f (xs.length + ys.length) (cs ++ cells)/\(dr w q).grownBy w' v.ownBlock/\(f.ownBlock=v.ownBlock\/f.ownBlock=some (dr w q).heap.size):=by
    cases A with
    | none =>
      have M:ys.length=0:=by
        rcases H5 ys.length with h0|h0
        . exact h0
        . obtain ⟨b,o,hA,_⟩:=H h0;cases hA
      have B:ys=[]:=B0 M
      subst B
      have C:cells=[]:=h
      subst C
      refine ⟨v,dr w q,?_,by simpa using (show (dr w q).ownsRow base e (Rp.size α) v xs.length cs from s),World.grownBy.refl _ _,.inl rfl⟩
      rcases s.2 with ⟨rfl,hn⟩|⟨g,cap,cur,rfl,_,_,hnc,_⟩
      . have W:xs=[]:=B0 hn
        simp [Builtin.append_,run_underlying hs.eq,sizeOf,typeInfo,i1,Builtin.lenOf,Builtin.firstCells]
      . simp [Builtin.append_,run_underlying hs.eq,sizeOf,typeInfo,i1,Builtin.lenOf,Builtin.firstCells,hnc,storeCells]
    | some R =>
      have m:∀ j u,cells[j]?=some u->(dr w q).cell? (R.add j)=some u:=by
        intro j u hu
        rcases H5 ys.length with h0|h0
        . have B:ys=[]:=B0 h0
          subst B
          have C:cells=[]:=h
          subst C
          simp at hu
        . obtain ⟨b,o,hA,hc⟩:=H h0
          injection hA with hA
          subst hA
          rw [Hr]
          exact Eg hc j u hu
      obtain ⟨f,w',hrun,h2,h3,_,h5⟩:=run_append_own_at (P:=P) (dr w q) base t ty e i z (Rp.size α) bytes hs.eq i1 i2 i3 i4 hi.sz hz0 v xs.length cs s R ys.length c cells h.length m h.one (by simpa [maxLen] using I) hb r
      exact ⟨f,w',hrun,h2,h3,h5⟩
  obtain ⟨f,w',hrun,h2,h3,h5⟩:=L
  have N:(execOp a.eval ⟨some d,.call { callee:=.builtin .append,args:=#[x,y],argTypes:=#[t,t] },ty,pos,aft,none⟩).run P (dr w q)=.ok (.value f) w':=by
    simp [execOp,resolve,invoke,builtin,J.eval T,J.eval U,hrun]
  rw [N]
  have S:w.grownBy w' v.ownBlock:=⟨h3.os,h3.tape,h3.output,h3.size,h3.block⟩
  have p:Agree F w w':=λ k hk=>S.block k (O k hk) (λ he=>ho3 k he.symm hk)
  have D:Own w' base F e f (xs ++ ys):=by
    refine ⟨cs ++ cells,by rw [H2];exact h2,(ho2.append h).agree p,λ g E=>?_⟩
    rcases h5 with h5|h5
    . exact ho3 g (h5 ▸ E)
    . intro hk
      have X:g=w.heap.size:=by rw [h5] at E;exact (L1 E).symm
      have:=O g hk
      omega
  exact V _ _ (Y f w' D S h5 _ w'.drawn (J.put hd f))
end
def Res (P:Program) (fn:Func) (l:Env) (w:World) (v:Value):Prop:=∀ n a d,Ok n a l->(results fn a.tmps).run P (dr w d)=.ok v (dr w d)
def Q4 (P:Program) (fn:Func) (R:Value->World->Prop):Q8
  | .normal,l,w=>∃ v,Res P fn l w v/\R v w
  | .ret,l,w=>∃ v,Res P fn l w v/\R v w
  | _,_,_=>False
def ent:Nat->List Value->Env
  | _,[]=>[]
  | k,v :: r=>(k,v) :: ent (k + 1) r
theorem Tl:∀ (vs:List Value) (k i:Nat) (v:Value),lk (ent k vs) i=some v->k<=i/\vs[i - k]?=some v
  | [],_,_,_,h=>by simp [ent,lk] at h
  | u :: r,k,i,v,h=>by
    simp only [ent,lk] at h
    cases hb:Nat.beq k i with
    | true =>
      rw [hb] at h
      have:k=i:=E5 hb
      subst this
      simpa using h
    | false =>
      rw [hb] at h
      obtain ⟨a,h2⟩:=Tl r (k + 1) i v h
      refine ⟨by omega,?_⟩
      rw [show i - k=(i - (k + 1)) + 1 from by omega]
      simpa using h2
theorem AK {P:Program} {f:FuncId} {fn:Func} {c:Code} {vs:List Value} {w:World} {R:Value->World->Prop} {n:Nat} (hf:P.funcs[f]?=some fn) (hb:fn.body=some c) (hn:fn.ntmps=n) 
    (j:ewp P n c (Q4 P fn R) (ent 0 vs) w) (hl:Nat.ble vs.length n=true:=by exact rfl):Fn P f vs w R:=λ d=>by
  have g:vs.length<=n:=by simpa using hl
  refine calls_of_wp hf hb (N0 (λ e a w' h=>?_) (j _ d (?_:Ok n { tmps:=vs.toArray ++ Array.replicate (fn.ntmps - vs.toArray.size) undef,defers:=[] } (ent 0 vs))))
  . obtain ⟨b,l,w₀,d',rfl,ho,q⟩:=h
    cases e with
    | normal=>obtain ⟨v,hr,hR⟩:=q;exact ⟨ho.defers,v,hr n a d' ho,v,w₀,d',rfl,rfl,hR⟩
    | ret=>obtain ⟨v,hr,hR⟩:=q;exact ⟨ho.defers,v,hr n a d' ho,v,w₀,d',rfl,rfl,hR⟩
    | panic c=>exact b.elim
    | outgrown=>exact b.elim
    | exit i=>exact q.elim
    | goto i=>exact q.elim
  . refine ⟨by simp [hn];omega,rfl,λ i v hv=>?_⟩
    obtain ⟨_,h2⟩:=Tl vs 0 i v hv
    simp only [N5] at h2
    have hi:i < vs.length:=(B6.1 h2).1
    simp only [B1]
    rw [B2 (by simpa using hi)]
    simp [h2]
section
variable {P : Program} {fn : Func} {l : Env} {w : World}
def rv (a:Array Value):ResultVar->Sem Value
  | .tmp t=>pure (a.getD t undef)
  | .cell b t=>do loadVar t (<- asAddr (a.getD b undef))
theorem It (fn:Func) (a:Array Value):results fn a=(do let vs <- fn.results.mapM (rv a);pure (if b:vs.size=1 then vs[0] else .tuple vs)):=by
  unfold results
  congr 1
def Q9 (P:Program) (l:Env) (w:World) (r:ResultVar) (v:Value):Prop:=∀ n a d,Ok n a l->(rv a.tmps r).run P (dr w d)=.ok v (dr w d)
theorem Bc {t:Tmp} {v:Value} (c:lk l t=some v):Q9 P l w (.tmp t) v:=λ _ a d b=>by have:=b.knows t v c;simpa [rv] using this
theorem Tm {b:Tmp} {t:TypeId} [TOne P t] {c:Addr} {v:Value} (f:lk l b=some (.pointer (some c))) (hc:w.cell? c=some v):Q9 P l w (.cell b t) v:=λ _ a d e=>by
  have:=e.knows b _ f
  simp only [rv,this]
  simp [asAddr,loadVar,FV,load,Sem.run,LB,hc]
theorem Dc {b:Tmp} {t:TypeId} [TAgg P t] {z:Value} {size bytes:Nat} [TInfo P t z size bytes] {g o:Nat} {cs:List Value} (e:lk l b=some (.pointer (some ⟨g,o,none⟩))) (hl:cs.length=size) (hc:cellsAt w g o cs):Q9 P l w (.cell b t) (.agg cs.toArray):=λ _ a d c=>by
  have hk:=c.knows b _ e
  subst hl
  have:=FR (P:=P) (dr w d) g o cs 0 #[] (λ j v hv=>by rw [N4];exact Eg hc j v hv)
  simp only [rv,hk]
  simp [asAddr,loadVar,Ip,EV (P:=P) (t:=t),loadCells,this]
theorem AbU {r:ResultVar} {v:Value} (hr:fn.results=#[r]) (c:Q9 P l w r v):Res P fn l w v:=λ n a d b=>by
  simp [It,hr,c n a d b]
theorem Acj {r s:ResultVar} {v u:Value} (hr:fn.results=#[r,s]) (c:Q9 P l w r v) (k:Q9 P l w s u):Res P fn l w (.tuple #[v,u]):=λ n a d b=>by
  simp [It,hr,c n a d b,k n a d b]
theorem res3 {r s q:ResultVar} {v u x:Value} (hr:fn.results=#[r,s,q]) (c:Q9 P l w r v) (k:Q9 P l w s u) (j:Q9 P l w q x):Res P fn l w (.tuple #[v,u,x]):=λ n a d b=>by
  simp [It,hr,c n a d b,k n a d b,j n a d b]
end
end
section
open Go Go.RowKit
class Mixed (P:Program):Prop where eq:P.follows .mixedOrders=true
def comesB (ops:Array Oper):Nat->Nat->Nat->Bool
  | 0,_,_=>false
  | fuel + 1,j,k=>(ops[j]?).any λ o=>o.after.any λ e=>Region.binds .any e && (e.on == k || comesB ops fuel e.on k)
def V1 (ops:Array Oper) (j:Nat):Bool:=(List.range ops.size).all λ k=>k == j || comesB ops ops.size j k
def Closed (ops:Array Oper) (a:Array Bool):Prop:=∀ m b,a.getD m false=true->ops[m]?=some b->∀ e∈b.after,Region.binds .any e=true->a.getD e.on false=true
theorem He {ops:Array Oper} {a:Array Bool} (hc:Closed ops a):∀ (fuel j k:Nat) (b:Oper),ops[j]?=some b→(∀ e∈b.after,Region.binds .any e=true→a.getD e.on false=true)→comesB ops fuel j k=true→a.getD k false=true
  | 0,_,_,_,_,_,h=>by simp [comesB] at h
  | fuel + 1,j,k,b,hj,ha,h=>by
    simp only [comesB,hj,Option.any_some] at h
    obtain ⟨e,he,hb⟩:=H6.1 h
    rw [J7,L2] at hb
    have c:=ha e he hb.1
    rcases hb.2 with hk|hk
    . have:e.on=k:=by simpa using hk
      rw [<- this];exact c
    . cases hm:ops[e.on]? with
      | none =>
        exfalso
        cases fuel with
        | zero=>simp [comesB] at hk
        | succ f=>simp [comesB,hm] at hk
      | some d=>exact He hc fuel e.on k d hm (hc e.on d c hm) hk
theorem Closed.set {ops:Array Oper} {a:Array Bool} (hc:Closed ops a) {i:Nat} (hi:i∈Region.ready .any ops a):Closed ops (a.setIfInBounds i true):=by
  intro m f hm c e he hb
  obtain ⟨_,oi,b,hall⟩:=mem_ready.1 hi
  by_cases d:m=i
  . subst d
    rw [c] at b
    injection b with b
    subst b
    exact getD_set_true (hall e he hb)
  . have:a.getD m false=true:=by rwa [getD_set_ne false (P8 d)] at hm
    exact getD_set_true (hc m f this c e he hb)
def Y7 (P:Program) (ops:Array Oper) (Q:Exit→Act→World→Prop) (S:World→Prop):Nat→Array Bool→Act→World→Prop
  | 0,b,a,w=>Region.ready .any ops b=[]/\Q .normal a w
  | fuel + 1,b,a,w =>
    (Region.ready .any ops b=[]->Q .normal a w) /\
    ∀ i∈Region.ready .any ops b,wpOp P ops Q i (λ a' w'=>(V1 ops i=false->S w')/\Y7 P ops Q S fuel (b.setIfInBounds i true) a' w') a w
theorem JX {P:Program} {ops:Array Oper} {Q:Exit->Act->World->Prop} {S:World->Prop}:∀ (fuel:Nat) (b:Array Bool) (a:Act) (w:World),Y7 P ops Q S fuel b a w->wpAny P .any ops Q fuel b a w
  | 0,_,_,_,h=>h
  | fuel + 1,_,_,_,h=>⟨h.1,λ i hi=>wpOp_mono (λ a' w' c=>JX fuel _ a' w' c.2) (h.2 i hi)⟩
theorem KS {P:Program} {ops:Array Oper} {Q:Exit→Act→World→Prop} {S:World→Prop} {i:Nat} {q:Oper} {v:Value} (hi:ops[i]?=some q) (m:∀ (j:Nat) (o:Oper) cs b,ops[j]?=some o→o.op≠.select cs b)
    (N:∀ c a w,Q (.panic c) (a.put q.dst v) w->Q (.panic c) a w) :
    ∀ (fuel:Nat) (d:Array Bool) (a:Act) (w:World),Closed ops d ->
      (∀ j n,ops[j]?=some n->j≠i->d.getD j true=false->(∀ e∈n.after,Region.binds .any e=true->e.on≠i)->q.apart ops n=true) ->
      i∈Region.ready .any ops d->YieldsIf P ops S q v a->S w ->
      Y7 P ops Q S fuel (d.setIfInBounds i true) (a.put q.dst v) w->Y7 P ops Q S (fuel + 1) d a w:=by
  intro fuel
  induction fuel with
  | zero =>
    intro d a w _ _ hr B s T
    refine ⟨λ h=>(by rw [h] at hr;cases hr),λ j hj=>?_⟩
    by_cases f:j=i
    . subst f;exact B.wpOp hi s ⟨λ _=>s,T⟩
    . have:=ready_mono hj f
      rw [T.1] at this
      cases this
  | succ fuel O =>
    intro d a w t g hr B s T
    refine ⟨λ h=>(by rw [h] at hr;cases hr),λ j hj=>?_⟩
    by_cases f:j=i
    . subst f;exact B.wpOp hi s ⟨λ _=>s,T⟩
    . have r:=T.2 j (ready_mono hj f)
      obtain ⟨p,n,hoj,hall⟩:=mem_ready.1 hj
      have u:∀ e∈n.after,Region.binds .any e=true->e.on≠i:=λ e he hb D=>by
        have r:=hall e he hb
        have L:=(mem_ready.1 hr).1
        rw [D] at r
        rcases N2 i d.size with h'|h'
        . simp [h'] at L r;rw [L] at r;cases r
        . simp [D5 h'] at r
      have E:=g j n hoj f p u
      have F:i∈Region.ready .any ops (d.setIfInBounds j true):=ready_mono hr (P8 f)
      have G:i < ops.size:=by
        rcases N2 i ops.size with h|h
        . exact h
        . rw [D5 h] at hi;cases hi
      have H:V1 ops j=false:=by
        cases hl:V1 ops j with
        | false=>rfl
        | true =>
          exfalso
          have h4:=J8.1 hl i (M4.2 G)
          rw [L2] at h4
          rcases h4 with h4|h4
          . exact f (by simpa using h4:i=j).symm
          . have C:=He t ops.size j i n hoj hall h4
            have M:=(mem_ready.1 hr).1
            rcases N2 i d.size with h'|h'
            . simp [h'] at C M;rw [M] at C;cases C
            . simp [D5 h'] at C
      have l:∀ k x,ops[k]?=some x->k≠i->(d.setIfInBounds j true).getD k true=false ->
          (∀ e∈x.after,Region.binds .any e=true->e.on≠i)->q.apart ops x=true:=λ k x hk I y J=>by
        refine g k x hk I ?_ J
        by_cases z:j=k
        . subst z;exact p
        . rw [getD_set_ne true z] at y;exact y
      have R:=wpOp_putIf hoj E (λ cs b=>m i q cs b hi) (λ cs b=>m j n cs b hoj) N B r
      refine wpOp_mono (λ a' w' K=>?_) R
      have A:S w':=K.2.1 H
      refine ⟨λ _=>A,O (d.setIfInBounds j true) a' w' (t.set hj) l F K.1 A ?_⟩
      rw [C5 _ _ f]
      exact K.2.2
def Aah (P:Program) (ops:Array Oper) (Q:Exit->Act->World->Prop) (S:World->Prop):List (Nat×Bool)->Act->World->Prop
  | [],a,w=>Q .normal a w
  | (i,true) :: r,a,w=>∃ o v,ops[i]?=some o/\YieldsIf P ops S o v a/\Aah P ops Q S r (a.put o.dst v) w
  | (i,false) :: r,a,w=>wpOp P ops Q i (λ a' w'=>(r≠[]->S w')/\Aah P ops Q S r a' w') a w
def ordOk (ops:Array Oper):Array Bool->List (Nat×Bool)->Bool
  | listed,[]=>(Region.ready .any ops listed).isEmpty
  | listed,(i,true) :: r=>(Region.ready .any ops listed).contains i && (Region.free .any ops listed i && ordOk ops (listed.setIfInBounds i true) r)
  | listed,[(i,false)]=>(Region.ready .any ops listed == [i]) && (V1 ops i && ordOk ops (listed.setIfInBounds i true) [])
  | listed,(i,false) :: r=>(Region.ready .any ops listed == [i]) && ordOk ops (listed.setIfInBounds i true) r
theorem GS {P:Program} {ops:Array Oper} {Q:Exit->Act->World->Prop} {S:World->Prop} (hs:Region.noSelect ops=true) (h:∀ c a w,¬ Q (.panic c) a w) :
    ∀ (d:List (Nat×Bool)) (b:Array Bool) (a:Act) (w:World),Closed ops b->ordOk ops b d=true->(d≠[]->S w)->Aah P ops Q S d a w->Y7 P ops Q S d.length b a w
  | [],b,a,w,_,hc,_,l=>⟨by simpa [ordOk] using hc,l⟩
  | (i,true) :: r,b,a,w,hcl,hc,hS,l=>by
    simp only [ordOk,J7] at hc
    obtain ⟨o,v,ho,hy,hr⟩:=l
    have hi:i∈Region.ready .any ops b:=by simpa using hc.1
    exact KS ho (F6 hs) (λ c a w k=>(h c _ _ k).elim) r.length b a w hcl (Region.free_spec ho hc.2.1) hi hy (hS (by simp)) (GS hs h r _ _ w (hcl.set hi) hc.2.2 (λ _=>hS (by simp)) hr)
  | [(i,false)],b,a,w,hcl,hc,hS,l=>by
    simp only [ordOk,J7] at hc
    have hr:Region.ready .any ops b=[i]:=by simpa using hc.1
    refine ⟨λ f=>by rw [hr] at f;simp at f,λ j hj=>?_⟩
    rw [hr] at hj
    have:j=i:=by simpa using hj
    subst this
    have e:j∈Region.ready .any ops b:=by rw [hr];simp
    exact wpOp_mono (λ a' w' g=>⟨(λ hl=>by rw [hc.2.1] at hl;cases hl),GS hs h [] _ a' w' (hcl.set e) (by simpa [ordOk] using hc.2.2) (λ l=>absurd rfl l) g.2⟩) l
  | (i,false) :: x :: r,b,a,w,hcl,hc,hS,l=>by
    simp only [ordOk,J7] at hc
    have hr:Region.ready .any ops b=[i]:=by simpa using hc.1
    refine ⟨λ f=>by rw [hr] at f;simp at f,λ j hj=>?_⟩
    rw [hr] at hj
    have:j=i:=by simpa using hj
    subst this
    have e:j∈Region.ready .any ops b:=by rw [hr];simp
    exact wpOp_mono (λ a' w' g=>⟨λ _=>g.1 (by simp),GS hs h (x :: r) _ a' w' (hcl.set e) hc.2 g.1 g.2⟩) l
def hwp (P:Program) (n:Nat) (ops:Array Oper) (Q:Q8) (S:World->Prop) (b:List (Nat×Bool)) (l:Env) (w:World):Prop :=
  ∀ a d,Ok n a l->Aah P ops (U3 n Q) (λ w'=>∃ c,S (dr w' c)) b a (dr w d)
def Evg (P:Program) (ops:Array Oper) (o:Oper) (l:Env) (S:World->Prop) (v:Value):Prop :=
  ∀ n a,Ok n a l->YieldsIf P ops (λ w'=>∃ b,S (dr w' b)) o v a
section
variable {P : Program} {n : Nat} {ops : Array Oper} {Q : Q8} {S : World → Prop} {l : Env} {w : World} {d : Tmp} {op : Op} {ty : TypeId} {pos : String} {aft : Array Edge}
theorem evg {dst:Option Tmp} {v:Value} (d:∀ w,S w->Ev P ⟨dst,op,ty,pos,aft,none⟩ l w v):Evg P ops ⟨dst,op,ty,pos,aft,none⟩ l S v:=λ n a b =>
  .inl ⟨by simp [Region.wanted],λ w' ⟨c,hS⟩=>d _ hS n a w'.drawn b⟩
theorem XL {dst:Option Tmp} {j dj:Nat} {b:Bool} {u:Value} (hj:ZT ops j=some dj) (hl:lk l dj=some u) (hu:isB u b=false):Evg P ops ⟨dst,op,ty,pos,aft,some (j,b)⟩ l S undef:=λ n a c =>
  .inr ⟨by simpa [Region.wanted] using c.unwanted (b:=b) hj hl hu,rfl⟩
theorem RF (b:Q .normal l w):hwp P n ops Q S [] l w:=λ _ _ a=>IE trivial a b
theorem YH {i:Nat} {o:Oper} {r:List (Nat×Bool)} {v:Value} (hi:ops[i]?=some o) (hd:o.dst=some d) (hn:Nat.blt d n=true) (he:Evg P ops o l S v) (c:hwp P n ops Q S r ((d,v) :: l) w):hwp P n ops Q S ((i,true) :: r) l w:=λ a e b =>
  ⟨o,v,hi,he n a b,by rw [hd];exact c _ _ (b.put hn v)⟩
def R7 (P:Program) (n:Nat) (ops:Array Oper) (Q:Q8) (S:World->Prop) (r:List (Nat×Bool)):Q8
  | .normal,l,w=>(r≠[]->S w)/\hwp P n ops Q S r l w
  | _,_,_=>False
theorem Cr {i:Nat} {o:Oper} {r:List (Nat×Bool)} (hi:ops[i]?=some o) (u:owp P n ops (R7 P n ops Q S r) [o] l w):hwp P n ops Q S ((i,false) :: r) l w:=λ a e m=>by
  have b:=u a e m
  show wpOp P ops (U3 n Q) i _ a (dr w e)
  unfold wpList at b
  unfold wpOp
  simp only [hi]
  have conv:∀ a' w',U3 n (R7 P n ops Q S r) .normal a' w'->(r≠[]->∃ f,S (dr w' f))/\Aah P ops (U3 n Q) (λ w'=>∃ f,S (dr w' f)) r a' w':=by
    rintro a' w' ⟨_,l',w₀,f,rfl,ho,hS,j⟩
    exact ⟨λ hr=>⟨w₀.drawn,hS hr⟩,j a' f ho⟩
  have d:∀ g a' w',U3 n (R7 P n ops Q S r) g a' w'->g=.normal:=by
    rintro g a' w' ⟨hn,l',w₀,f,rfl,ho,j⟩
    cases g<;>first|rfl|exact j.elim
  by_cases h:Region.wanted o (yielded ops a.tmps)=true
  . rw [if_pos h] at b
    rw [if_pos h]
    rcases b with b|⟨b,p,w0,h2⟩
    . refine .inl ?_
      unfold Oper.wp at *
      generalize (execOp a.eval o).run P (dr w e)=k at *
      cases k with
      | ok q w' =>
        cases q<;>simp only [Oper.upon] at b ⊢ <;>
          first
            | exact conv _ _ b
            | exact Calls.mono b (λ s t he=>by
                cases s with
                | returned v=>exact conv _ _ he
                | panicked c=>exact absurd (d _ _ _ he) (by simp)
                | outgrown=>obtain ⟨p,w0,hq⟩:=he;exact absurd (d _ _ _ hq) (by simp))
            | exact Rows.mono b (λ _ _ he=>conv _ _ he)
            | exact b.elim
      | halt x w'=>cases x<;>simp only [Oper.upon] at b ⊢<;>first|exact b.elim|exact absurd (d _ _ _ b) (by simp)
    . exact absurd (d _ _ _ h2) (by simp)
  . rw [if_neg h] at b
    rw [if_neg h]
    exact conv _ _ b
theorem Dd [hm:Mixed P] {id:Nat} {j:List Oper} (S:World->Prop) (b:List (Nat×Bool))  (hl:b.length=j.toArray.size)  (e:S w)
    (k:hwp P n j.toArray Q S b l w) (hs:Region.noSelect j.toArray=true:=by kernel_rfl) (hc:ordOk j.toArray (Array.replicate j.toArray.size false) b=true:=by kernel_rfl):ewp P n (.region id j.toArray true) Q l w:=λ a d f =>
  wp_region_any hm.eq (by
    have:=GS (P:=P) hs (Q:=U3 n Q) (S:=λ w'=>∃ g,S (dr w' g)) (λ c a w h=>h.1) b (Array.replicate j.toArray.size false) a (dr w (d + 1)) (λ m i hm=>by
      simp only [B1,C6] at hm
      split at hm<;>simp at hm) hc (λ _=>⟨w.drawn,e⟩) (k a (d + 1) f)
    rw [hl] at this
    exact JX _ _ _ _ this)
end
end
section
open Go Go.RowKit
section
variable {P : Program} {n : Nat} {ops : Array Oper} {Q : Q8} {K : Env → World → Prop} {S : World → Prop} {rest : List Oper} {l : Env} {w : World} {d : Tmp} {op : Op} {ty : TypeId} {pos : String} {aft : Array Edge}
theorem Mo (a:K l w):owp P n ops (thn K Q) [] l w:=HE a
theorem AC (a:K l w):hwp P n ops (thn K Q) S [] l w:=RF a
theorem De {r:List (Nat×Bool)} (a:S w) (b:hwp P n ops Q S r l w):owp P n ops (R7 P n ops Q S r) [] l w:=HE ⟨λ _=>a,b⟩
theorem Hm (a:hwp P n ops Q S [] l w):owp P n ops (R7 P n ops Q S []) [] l w:=HE ⟨λ b=>absurd rfl b,a⟩
theorem Gh {p:Prop} [Decidable p] (he:Ev P ⟨some d,op,ty,pos,aft,none⟩ l w (.bool (decide p))) (hd:Nat.blt d n=true) (a:p->owp P n ops Q rest ((d,.bool true) :: l) w) (hf:¬ p->owp P n ops Q rest ((d,.bool false) :: l) w) :
    owp P n ops Q (⟨some d,op,ty,pos,aft,none⟩ :: rest) l w:=by
  by_cases b:p
  . exact Bp (by simpa [b] using he) hd (a b)
  . exact Bp (by simpa [b] using he) hd (hf b)
theorem IJ {p:Prop} [Decidable p] (he:Ev P ⟨some d,op,ty,pos,aft,none⟩ l w (.bool (decide p))) (hd:Nat.blt d n=true) (b:p) (a:owp P n ops Q rest ((d,.bool true) :: l) w):owp P n ops Q (⟨some d,op,ty,pos,aft,none⟩ :: rest) l w:=Bp (by simpa [b] using he) hd a
theorem IK {p:Prop} [Decidable p] (he:Ev P ⟨some d,op,ty,pos,aft,none⟩ l w (.bool (decide p))) (hd:Nat.blt d n=true) (a:¬ p) (hf:owp P n ops Q rest ((d,.bool false) :: l) w):owp P n ops Q (⟨some d,op,ty,pos,aft,none⟩ :: rest) l w:=Bp (by simpa [a] using he) hd hf
def hwq (P:Program) (n:Nat) (ops:Array Oper) (Q:Q8) (S:World->Prop) (o:Oper) (r:List (Nat×Bool)) (l:Env) (w:World):Prop :=
  ∃ d v,o.dst=some d/\Nat.blt d n=true/\Evg P ops o l S v/\hwp P n ops Q S r ((d,v) :: l) w
theorem Az {i:Nat} {o:Oper} {r:List (Nat×Bool)} (hi:ops[i]?=some o) (a:hwq P n ops Q S o r l w):hwp P n ops Q S ((i,true) :: r) l w:=by
  obtain ⟨d,v,h1,h2,h3,h4⟩:=a
  exact YH hi h1 h2 h3 h4
theorem Bh {r:List (Nat×Bool)} {v:Value} (he:∀ w',S w'->Ev P ⟨some d,op,ty,pos,aft,none⟩ l w' v) (hn:Nat.blt d n=true) (a:hwp P n ops Q S r ((d,v) :: l) w):hwq P n ops Q S ⟨some d,op,ty,pos,aft,none⟩ r l w:=⟨d,v,rfl,hn,evg he,a⟩
theorem Wc {a:World} {r:List (Nat×Bool)} {v:Value} (he:Ev P ⟨some d,op,ty,pos,aft,none⟩ l a v) (hn:Nat.blt d n=true) (b:hwp P n ops Q (·=a) r ((d,v) :: l) w):hwq P n ops Q (·=a) ⟨some d,op,ty,pos,aft,none⟩ r l w:=⟨d,v,rfl,hn,evg λ _ e=>e ▸ he,b⟩
theorem AE {r:List (Nat×Bool)} {j dj:Nat} {b:Bool} {u:Value} (hj:ZT ops j=some dj) (hl:lk l dj=some u)   (a:hwp P n ops Q S r ((d,undef) :: l) w) (hu:isB u b=false:=by exact rfl) (hn:Nat.blt d n=true:=by exact rfl):hwq P n ops Q S ⟨some d,op,ty,pos,aft,some (j,b)⟩ r l w:=⟨d,_,rfl,hn,XL hj hl hu,a⟩
theorem Aw {r:List (Nat×Bool)} {j dj:Nat} {b:Bool} (hj:ZT ops j=some dj) (hl:lk l dj=some (.bool b)) (h:hwq P n ops Q S ⟨some d,op,ty,pos,aft,none⟩ r l w):hwq P n ops Q S ⟨some d,op,ty,pos,aft,some (j,b)⟩ r l w:=by
  obtain ⟨e,v,h1,h2,f,h4⟩:=h
  refine ⟨e,v,h1,h2,λ m a c=>?_,h4⟩
  rcases f m a c with ⟨_,hv⟩|⟨g,_⟩
  . exact .inl ⟨by simp [Region.wanted,c.yielded hj hl],hv⟩
  . simp [Region.wanted] at g
theorem Bj {p:Prop} [Decidable p] {r:List (Nat×Bool)} (he:∀ w',S w'->Ev P ⟨some d,op,ty,pos,aft,none⟩ l w' (.bool (decide p)))  (a:p->hwp P n ops Q S r ((d,.bool true) :: l) w) (hf:¬ p->hwp P n ops Q S r ((d,.bool false) :: l) w) (hn:Nat.blt d n=true:=by exact rfl) :
    hwq P n ops Q S ⟨some d,op,ty,pos,aft,none⟩ r l w:=by
  by_cases b:p
  . exact Bh (by simpa [b] using he) hn (a b)
  . exact Bh (by simpa [b] using he) hn (hf b)
theorem Cm {p:Prop} [Decidable p] {r:List (Nat×Bool)} (he:∀ w',S w'->Ev P ⟨some d,op,ty,pos,aft,none⟩ l w' (.bool (decide p)))  (b:p) (a:hwp P n ops Q S r ((d,.bool true) :: l) w) (hn:Nat.blt d n=true:=by exact rfl):hwq P n ops Q S ⟨some d,op,ty,pos,aft,none⟩ r l w:=Bh (by simpa [b] using he) hn a
theorem Cn {p:Prop} [Decidable p] {r:List (Nat×Bool)} (he:∀ w',S w'->Ev P ⟨some d,op,ty,pos,aft,none⟩ l w' (.bool (decide p)))  (a:¬ p) (hf:hwp P n ops Q S r ((d,.bool false) :: l) w) (hn:Nat.blt d n=true:=by exact rfl):hwq P n ops Q S ⟨some d,op,ty,pos,aft,none⟩ r l w:=Bh (by simpa [a] using he) hn hf
def hws (P:Program) (n:Nat) (ops:Array Oper) (Q:Q8) (S:World->Prop) (fuel:Nat) (b:Array Bool) (l:Env) (w:World):Prop :=
  Closed ops b->∀ a d,Ok n a l->Y7 P ops (U3 n Q) (λ w'=>∃ c,S (dr w' c)) fuel b a (dr w d)
def R2 (P:Program) (n:Nat) (ops:Array Oper) (Q:Q8) (S:World->Prop) (i:Nat) (fuel:Nat) (a:Array Bool):Q8
  | .normal,l,w=>(V1 ops i=false->S w)/\hws P n ops Q S fuel (a.setIfInBounds i true) l w
  | _,_,_=>False
theorem LD {fuel i:Nat} {o:Oper} {v:Value} {b:Array Bool} (hi:ops[i]?=some o)    (hd:o.dst=some d) (hn:Nat.blt d n=true) (he:Evg P ops o l S v) (j:S w)
    (m:hws P n ops Q S fuel (b.setIfInBounds i true) ((d,v) :: l) w) (hs:Region.noSelect ops=true:=by kernel_rfl) (hf:Region.free .any ops b i=true:=by kernel_rfl) (hr:(Region.ready .any ops b).contains i=true:=by kernel_rfl):hws P n ops Q S (fuel + 1) b l w:=λ f a e h=>by
  have g:i∈Region.ready .any ops b:=by simpa using hr
  refine KS hi (F6 hs) (λ c a w k=>k.1.elim) fuel b a _ f (Region.free_spec hi hf) g (he n a h) ⟨w.drawn,j⟩ ?_
  rw [hd]
  exact m (f.set g) _ _ (h.put hn v)
theorem PH {fuel i:Nat} {o:Oper} {b:Array Bool} (hi:ops[i]?=some o) (hr:i∈Region.ready .any ops b) (z:owp P n ops (R2 P n ops Q S i fuel b) [o] l w) (k:Closed ops b) (a:Act) (e:Nat) (r:Ok n a l) :
    wpOp P ops (U3 n Q) i (λ a' w'=>(V1 ops i=false->∃ g,S (dr w' g))/\Y7 P ops (U3 n Q) (λ w'=>∃ g,S (dr w' g)) fuel (b.setIfInBounds i true) a' w') a (dr w e):=by
  have d:=z a e r
  unfold wpList at d
  unfold wpOp
  simp only [hi]
  have conv:∀ a' w',U3 n (R2 P n ops Q S i fuel b) .normal a' w'->(V1 ops i=false->∃ g,S (dr w' g))/\Y7 P ops (U3 n Q) (λ w'=>∃ g,S (dr w' g)) fuel (b.setIfInBounds i true) a' w':=by
    rintro a' w' ⟨_,l',w₀,g,rfl,q,hS,m⟩
    exact ⟨λ hl=>⟨w₀.drawn,hS hl⟩,m (k.set hr) a' g q⟩
  have f:∀ h a' w',U3 n (R2 P n ops Q S i fuel b) h a' w'->h=.normal:=by
    rintro h a' w' ⟨hn,l',w₀,g,rfl,q,m⟩
    cases h<;>first|rfl|exact m.elim
  by_cases j:Region.wanted o (yielded ops a.tmps)=true
  . rw [if_pos j] at d
    rw [if_pos j]
    rcases d with d|⟨d,s,w0,h2⟩
    . refine .inl ?_
      unfold Oper.wp at *
      generalize (execOp a.eval o).run P (dr w e)=p at *
      cases p with
      | ok t w' =>
        cases t<;>simp only [Oper.upon] at d ⊢ <;>
          first
            | exact conv _ _ d
            | exact Calls.mono d (λ u y he=>by
                cases u with
                | returned v=>exact conv _ _ he
                | panicked c=>exact absurd (f _ _ _ he) (by simp)
                | outgrown=>obtain ⟨s,w0,hq⟩:=he;exact absurd (f _ _ _ hq) (by simp))
            | exact Rows.mono d (λ _ _ he=>conv _ _ he)
            | exact d.elim
      | halt x w'=>cases x<;>simp only [Oper.upon] at d ⊢<;>first|exact d.elim|exact absurd (f _ _ _ d) (by simp)
    . exact absurd (f _ _ _ h2) (by simp)
  . rw [if_neg j] at d
    rw [if_neg j]
    exact conv _ _ d
theorem NQ {fuel i j:Nat} {f g:Oper} {b:Array Bool}  (hi:ops[i]?=some f) (hj:ops[j]?=some g)
    (o:owp P n ops (R2 P n ops Q S i fuel b) [f] l w) (p:owp P n ops (R2 P n ops Q S j fuel b) [g] l w) (hr:Region.ready .any ops b=[i,j]:=by kernel_rfl):hws P n ops Q S (fuel + 1) b l w:=λ c a e h=>by
  refine ⟨λ m=>by rw [hr] at m;simp at m,λ k hk=>?_⟩
  have d:=hk
  rw [hr] at hk
  have:k=i\/k=j:=by simpa using hk
  rcases this with rfl|rfl
  . exact PH hi d o c a e h
  . exact PH hj d p c a e h
theorem Hn {fuel i:Nat} {a:Array Bool} (b:S w) (c:hws P n ops Q S fuel (a.setIfInBounds i true) l w):owp P n ops (R2 P n ops Q S i fuel a) [] l w:=HE ⟨λ _=>b,c⟩
theorem LE {fuel:Nat} {b:Array Bool} (d:List (Nat×Bool))  (hl:d.length=fuel)  (g:S w) (k:hwp P n ops Q S d l w) (hs:Region.noSelect ops=true:=by kernel_rfl) (hc:ordOk ops b d=true:=by kernel_rfl):hws P n ops Q S fuel b l w:=λ f a e h=>by
  subst hl
  exact GS (P:=P) hs (Q:=U3 n Q) (S:=λ w'=>∃ i,S (dr w' i)) (λ c a w j=>j.1) d b a (dr w e) f hc (λ _=>⟨w.drawn,g⟩) (k a e h)
theorem Tn [hm:Mixed P] {id:Nat} {e:List Oper} (S:World->Prop) (f:hws P n e.toArray Q S e.toArray.size (Array.replicate e.toArray.size false) l w):ewp P n (.region id e.toArray true) Q l w:=λ a d b =>
  wp_region_any hm.eq (JX _ _ _ _ (f (λ m c hm=>by
      simp only [B1,C6] at hm
      split at hm<;>simp at hm) a (d + 1) b))
noncomputable def bof (p:Prop):Bool:=@decide p (Classical.propDecidable p)
theorem Bk {p:Prop} (a:p):bof p=true:=by unfold bof;exact @decide_eq_true p (Classical.propDecidable p) a
theorem AY {p:Prop} (a:¬ p):bof p=false:=by unfold bof;exact @decide_eq_false p (Classical.propDecidable p) a
theorem Nb {p q:Prop} (c:p↔q):bof p=bof q:=by
  by_cases a:p
  . rw [Bk a,Bk (c.1 a)]
  . rw [AY a,AY (λ b=>a (c.2 b))]
theorem Iu (b:Bool):bof (b=true)=b:=by
  cases b
  . exact AY (by simp)
  . exact Bk rfl
theorem DP {f:FuncId} [Callable P f] {xs:List Operand} {vs:List Value} {a:Array TypeId} {p:Prop} {R:World->Prop} (b:R6 l xs=some vs)  (hc:Fn P f vs w λ v w'=>v=.bool (bof p)/\R w')
    (c:∀ w',p->R w'->owp P n ops Q rest ((d,.bool true) :: l) w') (hf:∀ w',¬ p->R w'->owp P n ops Q rest ((d,.bool false) :: l) w') (hd:Nat.blt d n=true:=by exact rfl):owp P n ops Q (⟨some d,.call { callee:=.value (.func f),args:=xs.toArray,argTypes:=a },ty,pos,aft,none⟩ :: rest) l w :=
  BD b (hd:=hd) hc λ v w' ⟨hv,hR⟩=>by
    subst hv
    by_cases e:p
    . rw [Bk e];exact c w' e hR
    . rw [AY e];exact hf w' e hR
theorem CJ {t:TypeId} {z:Value} {size bytes:Nat} [hi:TInfo P t z size bytes] {c:TypeId} {a:String} {b:Array Edge} {y:Operand} {v:Value}  (k:opv ((d,.pointer (some ⟨w.heap.size,0,none⟩)) :: l) y=some v) (e:v.cells.toList.length=size) (m:∀ u∈v.cells.toList,u.oneCell'=true)
    (r:∀ w',New w w' t v.cells.toList->owp P n ops Q rest ((d,.pointer (some ⟨w.heap.size,0,none⟩)) :: l) w') (hd:Nat.blt d n=true:=by exact rfl) :
    owp P n ops Q (⟨some d,.alloc t,ty,pos,aft,none⟩ :: ⟨none,.store t (.tmp d) y,c,a,b,none⟩ :: rest) l w:=by
  have hz:z.cells.toList.length=size:=by simpa using hi.sz
  refine FC hd λ q f=>?_
  refine CI (g:=w.heap.size) (o:=0) (by simp [opv,lk]) k f.blk e (by omega) m λ p h=>r p ?_
  refine ⟨f.ext.trans (h.below (P1 _)),by rw [h.size,f.size],?_⟩
  have i:=GR v.cells.toList [] z.cells.toList [] (by omega)
  have j:=h.blk
  simp only [L3,L4,List.length_nil] at i
  rw [i] at j
  exact j
theorem Fs {dst:Option Tmp} {t u:TypeId} {x y:Operand} {k:IntKind} {a b:Int} (c:opv l x=some (.int k a)) (d:opv l y=some (.int k b)):Ev P ⟨dst,.binOp .neq t x y u,ty,pos,aft,none⟩ l w (.bool (decide (a≠b))):=by
  have:=XI (P:=P) (w:=w) (dst:=dst) (t:=t) (u:=u) (ty:=ty) (pos:=pos) (aft:=aft) c d
  by_cases e:a=b<;>simpa [e] using this
theorem Q5 {a:Func} {R:Value->World->Prop} {t:Tmp} {v:Value} (hr:a.results=#[.tmp t]) (hl:lk l t=some v) (b:R v w):Q4 P a R .ret l w:=⟨v,AbU hr (Bc hl),b⟩
theorem T8 {a:Func} {R:Value->World->Prop} {r:ResultVar} {v:Value} (hr:a.results=#[r]) (hl:Q9 P l w r v) (b:R v w):Q4 P a R .ret l w:=⟨v,AbU hr hl,b⟩
theorem T4 {a:Func} {R:Value->World->Prop} {r s:ResultVar} {v u:Value} (hr:a.results=#[r,s]) (b:Q9 P l w r v) (c:Q9 P l w s u) (d:R (.tuple #[v,u]) w):Q4 P a R .ret l w:=⟨_,Acj hr b c,d⟩
theorem Aca {a:Func} {R:Value->World->Prop} {r s q:ResultVar} {v u x:Value} (hr:a.results=#[r,s,q]) (b:Q9 P l w r v) (c:Q9 P l w s u) (d:Q9 P l w q x) (e:R (.tuple #[v,u,x]) w):Q4 P a R .ret l w:=⟨_,res3 hr b c d,e⟩
theorem Gs {c:Code} {X:Type} (E:X->Env) (I:X->World->Prop) (μ:X->Nat) (a:X) (d:I a w) (hs:Q2 l (E a))
    (b:∀ x w,I x w->ewp P n c (thn (λ f w'=>∃ e,Q2 f (E e)/\I e w'/\μ e < μ x) Q) (E x) w):ewp P n (.loop c) Q l w:=Pz E I μ a hs d b
end
class NilQ (Q:Q8) (K:outParam (Env->World->Prop)):Prop where of:∀ l w,K l w->Q .normal l w
instance nilThn {K:Env->World->Prop} {Q:Q8}:NilQ (thn K Q) K:=⟨λ _ _ a=>a⟩
instance nilBlk {i:Nat} {Q:Q8} {K:Env->World->Prop} [a:NilQ Q K]:NilQ (S0 i Q) K:=⟨λ l w hk=>a.of l w hk⟩
instance (priority:=low) nilAny {Q:Q8}:NilQ Q (Q .normal):=⟨λ _ _ a=>a⟩
theorem o_z {P:Program} {n:Nat} {ops:Array Oper} {Q:Q8} {K:Env->World->Prop} {l:Env} {w:World} [a:NilQ Q K] (hk:K l w):owp P n ops Q [] l w:=HE (a.of l w hk)
theorem h_z {P:Program} {n:Nat} {ops:Array Oper} {Q:Q8} {S:World->Prop} {K:Env->World->Prop} {l:Env} {w:World} [a:NilQ Q K] (hk:K l w):hwp P n ops Q S [] l w:=RF (a.of l w hk)
class Cgo (P:Program) (n:Nat) (c:Code) (Q:Q8) (l:Env) (w:World) (G:outParam Prop):Prop where go:G->ewp P n c Q l w
section
variable {P : Program} {n : Nat} {Q : Q8} {l : Env} {w : World}
instance cgoSeq {x y:Code}:Cgo P n (.seq x y) Q l w (ewp P n x (thn (ewp P n y Q) Q) l w):=⟨Am⟩
instance cgoBlock {id:Nat} {c:Code}:Cgo P n (.block id c) Q l w (ewp P n c (S0 id Q) l w):=⟨Bx⟩
instance cgoRegion {id:Nat} {a:List Oper}:Cgo P n (.region id a.toArray false) Q l w (owp P n a.toArray Q a l w):=⟨Ah⟩
instance cgoSkip:Cgo P n .skip Q l w (Q .normal l w):=⟨AN⟩
instance cgoExit {i:Nat}:Cgo P n (.exit i) Q l w (Q (.exit i) l w):=⟨Cq⟩
instance cgoRet:Cgo P n .ret Q l w (Q .ret l w):=⟨AM⟩
theorem Ay {c:Code} {G:Prop} [a:Cgo P n c Q l w G] (g:G):ewp P n c Q l w:=a.go g
end
end
section
open Go Go.RowKit
theorem KT {l:Env} {i:Nat} {v:Value}:∀ {e:Env},lk e i=none→Q2 l e→Q2 ((i,v) :: l) e
  | [],_,_=>trivial
  | (j, u) :: r,hn,h=>by
    simp only [lk] at hn
    cases hb:Nat.beq j i with
    | true=>rw [hb] at hn;simp at hn
    | false =>
      rw [hb] at hn
      refine ⟨?_,KT hn h.2⟩
      have:Nat.beq i j=false:=by
        cases a:Nat.beq i j
        . rfl
        . rw [E5 a,N1] at hb;cases hb
      simp only [lk,this]
      exact h.1
section
variable {P : Program} {m : Nat} {Q : Q8} {l : Env} {w : World}
def rgE (i n:Tmp) (N k:Nat) (e:Env):Env:=(i,.int .i64 (k:Int)) :: (n,.int .i64 (N:Int)) :: e
theorem Cf {X:Type} {t i n d:Tmp} {b D r J:Nat} {F G y U K L M:TypeId} {V O R:String} {W S T:Array Edge} {o:Code} (N:Nat) (Y:N≤9223372036854775807) (E:X→Env) (I:Nat→X→World→Prop) (f:X)
    (z:I 0 f w) (hs:Q2 l (rgE i n N 0 (E f)))
    (hf:∀ x,lk (E x) i=none/\lk (E x) d=none) (C:Nat.blt t m=true/\Nat.blt i m=true/\Nat.blt d m=true) (q:Nat.beq i n=false/\Nat.beq d n=false)
    (s:∀ k x w,k < N->I k x w->ewp P m o (S0 D (thn (λ g w'=>∃ a,Q2 g (rgE i n N k (E a))/\I (k + 1) a w') (S0 b Q))) ((t,.bool true) :: rgE i n N k (E x)) w)
    (u:∀ x w,I N x w->Q .normal ((t,.bool false) :: rgE i n N N (E x)) w) :
    ewp P m (.loop (.seq (.region r #[⟨some t,.binOp .lss F (.tmp i) (.tmp n) G,U,V,W,none⟩] false) (.seq (.cond (.tmp t) .skip (.exit b)) (.seq (.block D o)
      (.region J #[⟨some d,.binOp .add y (.tmp i) (.const (.int .i64 1)) M,K,O,S,none⟩,⟨some i,.move (.tmp d),L,R,T,none⟩] false))))) (S0 b Q) l w:=by
  have A:∀ k e,opv (rgE i n N k e) (.tmp i)=some (.int .i64 (k:Int)):=λ k e=>by simp [opv,rgE,lk]
  have B:∀ k e,opv (rgE i n N k e) (.tmp n)=some (.int .i64 (N:Int)):=λ k e=>by simp only [opv,rgE,lk,q.1];simp
  refine (Gs (X:=Nat×X) (λ p=>rgE i n N p.1 (E p.2)) (λ p w=>p.1<=N/\I p.1 p.2 w) (λ p=>N - p.1) (0,f) ⟨P4 _,z⟩ hs ?_)
  rintro ⟨k,x⟩ w1 ⟨hk,hI⟩
  dsimp only at hk hI ⊢
  refine Am (Ah ?_)
  by_cases hlt:k < N
  . refine IJ (Di (A k _) (B k _)) C.1 (by omega) (Mo ?_)
    refine Am (Aj (by simp [opv,lk]) (AN ?_))
    refine Am (Bx (Gv ?_ (s k x w1 hlt hI)))
    have conv:∀ g w',(∃ a,Q2 g (rgE i n N k (E a))/\I (k + 1) a w')->ewp P m (.region J #[⟨some d,.binOp .add y (.tmp i) (.const (.int .i64 1)) M,K,O,S,none⟩,⟨some i,.move (.tmp d),L,R,T,none⟩] false)
        (thn (λ g w'=>∃ a:Nat×X,Q2 g (rgE i n N a.1 (E a.2))/\(a.1<=N/\I a.1 a.2 w')/\N - a.1 < N - k) (S0 b Q)) g w':=by
      rintro g w' ⟨a,hsub,hI'⟩
      refine Ah ?_
      refine Bp (PC (show opv g (.tmp i)=_ from hsub.1) (by omega)) C.2.2 ?_
      refine Bp (LC (v:=.int .i64 ((k + 1:Nat):Int)) (by simp [opv,lk])) C.2.1 (Mo ?_)
      refine ⟨(k + 1,a),⟨by simp [lk],?_,?_⟩,⟨hlt,hI'⟩,by dsimp only;omega⟩
      . simp only [lk,q.1,q.2];exact hsub.2.1
      . exact KT (hf a).1 (KT (hf a).2 hsub.2.2)
    intro e g w' h
    cases e with
    | normal=>exact conv g w' h
    | exit j =>
      simp only [S0] at h ⊢
      cases hj:Nat.beq j D with
      | true=>rw [hj] at h;exact conv g w' h
      | false=>rw [hj] at h;exact h
    | panic c=>exact h
    | outgrown=>exact h
    | goto j=>exact h
    | ret=>exact h
  . have H:k=N:=by omega
    subst H
    refine IK (Di (A k _) (B k _)) C.1 (by omega) (Mo ?_)
    refine Am (Ae (by simp [opv,lk]) (Cq ?_))
    have hb:Nat.beq b b=true:=N1 b
    simp only [thn,S0,hb]
    exact u x w1 hI
end
class TPlaces (P:Program) (t:TypeId) (pl:outParam (List (Nat×Nat))):Prop where eq:∃ fs,P.underlying t=some (.struct fs)/\∀ w,(fs.mapM λ f=>Prod.mk f.offset <$> sizeOf f.type:Sem (Array (Nat×Nat))).run P w=.ok pl.toArray w
def U1:List Value->List (Nat×Value)->List Value
  | cs,[]=>cs
  | cs,(o,v) :: r=>U1 (Q6 cs o v.cells.toList) r
def X5 (a:List (Nat×Nat)) (m:Nat):List (Nat×Value)→Option (List (Nat×Value))
  | []=>some []
  | (i, v) :: r=>match a[i]? with
    | some (off,size)=>match Nat.beq v.cells.toList.length size && Nat.ble (off + size) m with
      | true=>match X5 a m r with
        | some k=>some ((off,v) :: k)
        | none=>none
      | false=>none
    | none=>none
theorem Nc (b:List (Nat×Nat)):∀ (ps:List (Nat×Value)) (a:Array Value) (k:List (Nat×Value)),X5 b a.size ps=some k→Instr.fill (b.toArray[·]?) a ps=some (U1 a.toList k).toArray
  | [],a,k,h=>by
    simp only [X5,Option.some.injEq] at h
    subst h
    simp [Instr.fill,U1]
  | (i, v) :: r,a,k,h=>by
    simp only [X5] at h
    cases c:b[i]? with
    | none=>rw [c] at h;simp at h
    | some q =>
      obtain ⟨off,size⟩:=q
      rw [c] at h
      simp only at h
      cases hb:Nat.beq v.cells.toList.length size && Nat.ble (off + size) a.size with
      | false=>rw [hb] at h;simp at h
      | true =>
        rw [hb] at h
        simp only at h
        cases hr:X5 b a.size r with
        | none=>rw [hr] at h;simp at h
        | some e =>
          rw [hr] at h
          simp only [Option.some.injEq] at h
          subst h
          rw [J7] at hb
          have f:v.cells.size=size:=by simpa using E5 hb.1
          have j:off + size<=a.size:=E9 hb.2
          simp only [Instr.fill,List.getElem?_toArray,c]
          rw [if_neg (by simp [f];omega)]
          have hf:=Iq v.cells.toList 0 off a
          rw [N3] at hf
          have he:Array.foldl (λ cs (x:Value×Nat)=>cs.setIfInBounds (off + x.2) x.1) a v.cells.zipIdx=(Q6 a.toList off v.cells.toList).toArray:=by
            rw [<- Array.foldl_toList,Array.toList_zipIdx]
            apply J6.1
            rw [hf]
          have d:(Q6 a.toList off v.cells.toList).toArray.size=a.size:=by simp [FY]
          have g:=Nc b r (Q6 a.toList off v.cells.toList).toArray e (by rw [d];exact hr)
          simp only [U1]
          rw [<- g]
          congr 1
          funext x
          simp
def ZO:List Nat->List Value->List (Nat×Value)
  | i :: r,v :: s=>(i,v) :: ZO r s
  | _,_=>[]
theorem Ov (f:Operand->Value):∀ (ps:List (Nat×Operand)),ps.map (λ p=>(p.1,f p.2))=ZO (ps.map (·.1)) ((ps.map (·.2)).map f)
  | []=>rfl
  | p :: r=>by simp [ZO,Ov f r]
theorem HF {P:Program} {l:Env} {w:World} {dst:Option Tmp} {ty:TypeId} {pos:String} {aft:Array Edge} {t:TypeId} {z:Value} {size bytes:Nat} [TInfo P t z size bytes] {b:List (Nat×Nat)} [f:TPlaces P t b] {ps:List (Nat×Operand)} {vs:List Value} {k:List (Nat×Value)}
    (g:R6 l (ps.map (·.2))=some vs) (hk:X5 b z.cells.size (ZO (ps.map (·.1)) vs)=some k):Ev P ⟨dst,.build t ps.toArray,ty,pos,aft,none⟩ l w (.agg (U1 z.cells.toList k).toArray):=λ _ a d h=>by
  obtain ⟨i,h1,h2⟩:=f.eq
  have c:(ps.map λ p=>(p.1,a.eval p.2))=ZO (ps.map (·.1)) vs:=by rw [Ov,h.evals g]
  have hf:=Nc b _ z.cells k hk
  simp only [execOp,Instr.build]
  simp [Hh (P:=P) (t:=t),run_underlying h1,h2 (dr w d)]
  have e:Instr.fill (λ x=>b[x]?) z.cells (ZO (ps.map (·.1)) vs)=some (U1 z.cells.toList k).toArray:=by
    rw [<- hf];congr 1;funext x;simp
  rw [c,e]
  simp
end
section
open Go Go.RowKit
structure Kept (w w':World) (v:Value):Prop where
  os:w'.os=w.os
  tape:w'.tape=w.tape
  output:w'.output=w.output
  size:w.heap.size<=w'.heap.size
  block:∀ k,k < w.heap.size->v.ownBlock≠some k->w'.heap[k]?=w.heap[k]?
theorem Kept.below {w w':World} {v:Value} (b:Kept w w' v) {B:Nat} (a:B<=w.heap.size) (hv:∀ g,v.ownBlock=some g->B<=g):Below B w w' :=
  ⟨b.os,b.tape,b.output,b.size,λ k hk=>b.block k (by omega) λ e=>by have:=hv k e;omega⟩
theorem Kept.blk {w w':World} {v:Value} (b:Kept w w' v) {g:Nat} {t:TypeId} {cs:List Value} (hb:Blk w g t cs) (a:v.ownBlock≠some g):Blk w' g t cs:=hb.keep (b.block g hb.lt a)
theorem Own.blk_ne {α:Type} [Rp α] {w:World} {base:Nat} {F:Nat->Prop} {e:TypeId} {v:Value} {xs:List α} (h:Own w base F e v xs) {g:Nat} {t:TypeId} {cs:List Value} (hb:Blk w g t cs) (b:t≠e):v.ownBlock≠some g:=by
  obtain ⟨cells,c,_⟩:=h
  rcases c.2 with ⟨rfl,_⟩|⟨d,cap,cur,rfl,_,a,_⟩
  . simp [Value.ownBlock]
  . intro he
    have:d=g:=by simpa [Value.ownBlock] using he
    subst this
    unfold Blk at hb
    rw [hb] at a
    injection a with a
    injection a with _ f
    exact b f
theorem Own.fits {α:Type} [Rp α] {w w':World} {base:Nat} {F:Nat->Prop} {e:TypeId} {v:Value} {xs:List α} (c:Own w base F e v xs) {B:Nat} (b:B<=base) (hb:B<=w.heap.size) (k:Kept w w' v):Below B w w':=k.below hb λ g a=>by have:=(c.lt g a).1;omega
theorem Own.made {α:Type} [Rp α] {w w':World} {F:Nat->Prop} {e:TypeId} {cells:List Value} {xs:List α} {n:Nat} (c:New w w' e cells) (hc:Chunks w' F cells xs) (hn:n=xs.length) (a:¬ F w.heap.size) (hm:n<=9223372036854775807):Own w' w.heap.size F e (.slice (some ⟨w.heap.size,0,none⟩) n n) xs:=by
  subst hn
  refine ⟨cells,⟨hc.length,.inr ⟨w.heap.size,xs.length,cells.toArray,rfl,P1 _,c.blk,P1 _,by simpa [maxLen] using hm,by simp [hc.length],?_⟩⟩,hc,λ g b=>?_⟩
  . rw [<- hc.length];simp
  . have:w.heap.size=g:=by simpa [Value.ownBlock] using b
    subst this;exact a
theorem Vb.made {α:Type} [Rp α] {w w':World} {F:Nat->Prop} {e:TypeId} {cells:List Value} {xs:List α} {n:Nat} (b:New w w' e cells) (hc:Chunks w' F cells xs) (hn:n=xs.length) (a:F w.heap.size) (hm:n<=9223372036854775807):Vb w' F (.slice (some ⟨w.heap.size,0,none⟩) n n) xs:=by
  subst hn
  exact .of_slice ⟨_,_,cells,rfl,P1 _,hm,hc,λ _=>⟨_,_,rfl,a,b.blk.cellsAt⟩⟩
section
variable {P : Program} {n : Nat} {ops : Array Oper} {Q : Q8} {rest : List Oper} {l : Env} {w : World} {d d1 d2 : Tmp} {ty ty2 : TypeId} {pos pos2 : String} {aft aft2 : Array Edge}
theorem Js {α:Type} [Rp α] {t e:TypeId} [TSlice P t e] {z:Value} {size bytes:Nat} [TInfo P e z size bytes] (a:size=Rp.size α) {x y:Operand} {v u:Value} {xs ys:List α} {base:Nat} {F:Nat->Prop}
    (p:opv l x=some v) (q:opv l y=some u) (g:Own w base F e v xs) (r:∀ k,F k->k < w.heap.size) (f:base<=w.heap.size) (hu:Vb w F u ys)
     (hb:(xs.length + ys.length) * bytes<=140737488355328) (j:xs.length + ys.length<=9223372036854775807) (hd:Nat.blt d n=true)
    (C:∀ i w',Own w' base F e i (xs ++ ys)->Kept w w' v->owp P n ops Q rest ((d,i) :: l) w') (hz0:0 < size:=by decide) :
    owp P n ops Q (⟨some d,.call { callee:=.builtin .append,args:=#[x,y],argTypes:=#[t,t] },ty,pos,aft,none⟩ :: rest) l w:=by
  subst a
  obtain ⟨A,c,cells,rfl,h1,h2,h3,h4⟩:=hu.slice
  exact GG p q g r f h3 (λ s=>by obtain ⟨b,o,h5,_,h6⟩:=h4 s;exact ⟨b,o,h5,h6⟩) hz0 hb j hd λ i w' B h _ =>
    C i w' B ⟨h.os,h.tape,h.output,h.size,λ k hk m=>h.block k hk (λ he=>m he.symm)⟩
theorem GT {α:Type} [Rp α] {t e:TypeId} [TSlice P t e] {z:Value} {size bytes:Nat} [TInfo P e z size bytes] (g:size=Rp.size α) {x y:Operand} {v u:Value} {xs:List α} {a:α} {base:Nat} {F:Nat->Prop}
    (r:opv ((d1,.slice (some ⟨w.heap.size,0,none⟩) 1 1) :: l) x=some v) (s:opv l y=some u) (i:Own w base F e v xs) (o:∀ k,F k->k < w.heap.size) (h:base<=w.heap.size) (hu:Vb w F u a)
      (hb:(xs.length + 1) * bytes<=140737488355328) (p:xs.length + 1<=9223372036854775807) (hd:Nat.blt d1 n=true/\Nat.blt d2 n=true)
    (D:∀ m w',Own w' base F e m (xs ++ [a])->Kept w w' v->owp P n ops Q rest ((d2,m) :: (d1,.slice (some ⟨w.heap.size,0,none⟩) 1 1) :: l) w') (hz0:0 < size:=by decide) (hz1:size<=1000:=by decide) :
    owp P n ops Q (⟨some d1,.buildSlice t 1 #[(0,y)],ty,pos,aft,none⟩ :: ⟨some d2,.call { callee:=.builtin .append,args:=#[x,.tmp d1],argTypes:=#[t,t] },ty2,pos2,aft2,none⟩ :: rest) l w:=by
  subst g
  have hc:=hu.cells
  refine Fc (ps:=[(0,y)]) (vs:=[u]) (by simp [R6,s]) rfl (λ v hv=>by simp at hv;subst hv;exact Rp.len hc) (hz:=(by omega)) hd.1 λ B b=>?_
  have d:([u].flatMap λ v=>v.cells.toList)=u.cells.toList:=by simp
  rw [d] at b
  have f:Agree F w B:=b.ext.agree o
  refine GG (A:=some ⟨w.heap.size,0,none⟩) (c:=1) (ys:=[a]) (cells:=u.cells.toList) r (by simp [opv,lk]) (i.ext b.ext o) (λ k hk=>H3 (o k hk) b.ext.size) (N6 h b.ext.size) (.single (Rp.agree hc f)) (λ _=>⟨_,_,rfl,b.blk.cellsAt⟩) hz0 hb p hd.2 λ m w' C j _=>?_
  refine D m w' C ⟨j.os.trans b.ext.os,j.tape.trans b.ext.tape,j.output.trans b.ext.output,N6 b.ext.size j.size,λ k hk q=>?_⟩
  rw [j.block k (H3 hk b.ext.size) (λ he=>q he.symm),b.ext.block k hk]
theorem PI {α:Type} [Rp α] {t e:TypeId} [TSlice P t e] {z:Value} {size bytes:Nat} [TInfo P e z size bytes] (h:size=Rp.size α) {x y:Operand} {v u:Value} {xs:List α} {a:α} {base:Nat} {F:Nat->Prop}
    (s:opv ((d1,.slice (some ⟨w.heap.size,0,none⟩) 1 1) :: l) x=some v) (B:opv l y=some u) (m:Own w base F e v xs) (p:∀ k,F k->k < w.heap.size) (i:base<=w.heap.size) (hu:Vb w F u a)
    (hz0:0 < size) (hz1:size<=1000) (hb:(xs.length + 1) * bytes<=140737488355328) (q:xs.length + 1<=9223372036854775807) (hd:Nat.blt d1 n=true/\Nat.blt d2 n=true)
    (E:∀ j w',Own w' base F e j (xs ++ [a])->Kept w w' v->(j.ownBlock=v.ownBlock\/∃ g,j.ownBlock=some g/\w.heap.size<=g)->owp P n ops Q rest ((d2,j) :: (d1,.slice (some ⟨w.heap.size,0,none⟩) 1 1) :: l) w') :
    owp P n ops Q (⟨some d1,.buildSlice t 1 #[(0,y)],ty,pos,aft,none⟩ :: ⟨some d2,.call { callee:=.builtin .append,args:=#[x,.tmp d1],argTypes:=#[t,t] },ty2,pos2,aft2,none⟩ :: rest) l w:=by
  subst h
  have hc:=hu.cells
  refine Fc (ps:=[(0,y)]) (vs:=[u]) (by simp [R6,B]) rfl (λ v hv=>by simp at hv;subst hv;exact Rp.len hc) (hz:=(by omega)) hd.1 λ C b=>?_
  have d:([u].flatMap λ v=>v.cells.toList)=u.cells.toList:=by simp
  rw [d] at b
  have f:Agree F w C:=b.ext.agree p
  refine GG (A:=some ⟨w.heap.size,0,none⟩) (c:=1) (ys:=[a]) (cells:=u.cells.toList) s (by simp [opv,lk]) (m.ext b.ext p) (λ k hk=>H3 (p k hk) b.ext.size) (N6 i b.ext.size) (.single (Rp.agree hc f)) (λ _=>⟨_,_,rfl,b.blk.cellsAt⟩) hz0 hb q hd.2 λ j w' D o hat=>?_
  refine E j w' D ⟨o.os.trans b.ext.os,o.tape.trans b.ext.tape,o.output.trans b.ext.output,N6 b.ext.size o.size,λ k hk r=>?_⟩ ?_
  . rw [o.block k (H3 hk b.ext.size) (λ he=>r he.symm),b.ext.block k hk]
  . rcases hat with hat|hat
    . exact .inl hat
    . exact .inr ⟨_,hat,b.ext.size⟩
end
end
section
open Go Go.RowKit
theorem Chunks.set {α:Type} [Rp α] {w:World} {F:Nat→Prop}:∀ {xs:List α} {cells:List Value} {i:Nat} {x:α} {cs:List Value},Chunks w F cells xs→i < xs.length→Rp.R w F cs x→Chunks w F (Q6 cells (i * Rp.size α) cs) (xs.set i x)
  | [],_,_,_,_,_,hi,_=>by simp at hi
  | y :: xs,cells,0,x,cs,⟨c,rest,he,hr,hc⟩,_,hx=>by
    refine ⟨cs,rest,?_,hx,hc⟩
    have:=GR cs [] c rest (by rw [Rp.len hr,Rp.len hx])
    simp only [L3,List.length_nil] at this
    rw [he,Nat.zero_mul,this]
  | y :: xs,cells,i + 1,x,cs,⟨c,rest,he,hr,hc⟩,hi,hx=>by
    have d:=Chunks.set (i:=i) hc (by simpa using hi) hx
    refine ⟨c,Q6 rest (i * Rp.size α) cs,?_,hr,d⟩
    have a:∀ (vs r:List Value) (k:Nat),Q6 (c ++ r) (c.length + k) vs=c ++ Q6 r k vs:=by
      intro vs
      induction vs with
      | nil=>intro r k;rfl
      | cons v vs b =>
        intro r k
        simp only [Q6]
        rw [List.set_append_right _ _ (by omega),show c.length + k - c.length=k from by omega,show c.length + k + 1=c.length + (k + 1) from by omega,b]
    rw [he,show (i + 1) * Rp.size α=c.length + i * Rp.size α from by rw [Rp.len hr,P2];omega,a]
theorem Gu:∀ (vs a b:List Value) (o:Nat),o + vs.length<=a.length->Q6 (a ++ b) o vs=Q6 a o vs ++ b
  | [],_,_,_,_=>rfl
  | v :: vs,a,b,o,h=>by
    simp only [Q6,J5] at *
    rw [List.set_append_left _ _ (by omega),Gu vs _ b (o + 1) (by simp;omega)]
theorem Own.open {α:Type} [Rp α] {w:World} {base:Nat} {F:Nat->Prop} {e:TypeId} {v:Value} {xs:List α} (f:Own w base F e v xs) (d:0 < xs.length) :
    ∃ g cap cells b,v=.slice (some ⟨g,0,none⟩) xs.length cap/\base<=g/\¬ F g/\Blk w g e (cells ++ b)/\Chunks w F cells xs/\cells.length=xs.length * Rp.size α/\xs.length<=cap/\cap<=9223372036854775807/\(cells ++ b).length=cap * Rp.size α:=by
  obtain ⟨cells,c,h2,h3⟩:=f
  rcases c.2 with ⟨rfl,hn⟩|⟨g,cap,cur,rfl,hg,hh,hnc,hcm,hcs,hcur⟩
  . omega
  . have a:cur.toList=cells ++ cur.toList.drop (xs.length * Rp.size α):=by rw [<- hcur];exact (E8 _ _).symm
    refine ⟨g,cap,cells,cur.toList.drop (xs.length * Rp.size α),rfl,hg,h3 g rfl,?_,h2,c.1,hnc,by simpa [maxLen] using hcm,?_⟩
    . unfold Blk;rw [<- a];simpa using hh
    . rw [<- a];simpa using hcs
theorem Own.close {α:Type} [Rp α] {w:World} {base:Nat} {F:Nat->Prop} {e:TypeId} {xs:List α} {g cap:Nat} {cells a:List Value} (c:base<=g) (d:¬ F g) (hb:Blk w g e (cells ++ a)) (hc:Chunks w F cells xs) (hn:xs.length<=cap) (hm:cap<=9223372036854775807) (hl:(cells ++ a).length=cap * Rp.size α) :
    Own w base F e (.slice (some ⟨g,0,none⟩) xs.length cap) xs:=by
  refine ⟨cells,⟨hc.length,.inr ⟨g,cap,(cells ++ a).toArray,rfl,c,hb,hn,by simpa [maxLen] using hm,by simpa using hl,?_⟩⟩,hc,λ f b=>?_⟩
  . rw [<- hc.length];simp
  . have:g=f:=by simpa [Value.ownBlock] using b
    subst this;exact d
section
variable {P : Program} {n : Nat} {ops : Array Oper} {Q : Q8} {rest : List Oper} {l : Env} {w : World} {ty : TypeId} {pos : String} {aft : Array Edge}
theorem Md {α:Type} [Rp α] {t e:TypeId} {z:Value} {size bytes:Nat} [TInfo P t z size bytes] (h:size=Rp.size α) {x y:Operand} {g i m c:Nat} {u:Value} {a:α} {xs:List α} {base:Nat} {F:Nat->Prop}
    (A:opv l x=some (.pointer (some ⟨g,0 + i * size,none⟩))) (B:opv l y=some u) (j:Own w base F e (.slice (some ⟨g,0,none⟩) m c) xs) (hi:i < xs.length) (hu:Vb w F u a)
    (E:∀ w',Own w' base F e (.slice (some ⟨g,0,none⟩) m c) (xs.set i a)->Kept w w' (.slice (some ⟨g,0,none⟩) m c)->w'.heap.size=w.heap.size->owp P n ops Q rest l w'):owp P n ops Q (⟨none,.store t x y,ty,pos,aft,none⟩ :: rest) l w:=by
  subst h
  obtain ⟨D,cap,cells,sp,hv,hg,hF,hb,hc,hl,o,p,hlen⟩:=j.open (by omega)
  injection hv with b q r
  injection b with b
  injection b with b
  subst b;subst q;subst r
  have d:=hu.cells
  have C:i * Rp.size α + Rp.size α<=cells.length:=by
    rw [hl]
    have:(i + 1) * Rp.size α<=xs.length * Rp.size α:=F7 _ hi
    rw [P2] at this;omega
  refine CI A B hb (Rp.len d) (by rw [H2];omega) (Rp.one d) λ w' f=>?_
  rw [N4,Gu _ _ _ _ (by rw [Rp.len d];omega)] at f
  have s:Agree F w w':=f.agree hF
  refine E w' ?_ ⟨f.os,f.tape,f.output,Nat.le_of_eq f.size.symm,λ k _ v=>f.other k λ he=>v (by simp [Value.ownBlock,he])⟩ f.size
  have:=Own.close (w:=w') (cap:=c) hg hF f.blk ((hc.set hi d).agree s) (by simpa using o) p (by rw [H2,FY,<- H2];exact hlen)
  rwa [L5] at this
theorem Jd {t e:TypeId} [a:TSlice P t e] (A:Option Addr) (m c:Nat) (w:World):(Op.equal t (.slice A m c) (.slice none 0 0)).run P w=.ok A.isNone w:=by
  have hd:∀ d:Nat,(Op.equalIn (d + 1) t (.slice A m c) (.slice none 0 0)).run P w=.ok A.isNone w:=λ d=>by
    cases A<;>simp [Op.equalIn,run_underlying a.eq]
  exact hd 9999
theorem UL {dst:Option Tmp} {t e u:TypeId} [TSlice P t e] {x:Operand} {A:Option Addr} {m c:Nat} (f:opv l x=some (.slice A m c)):Ev P ⟨dst,.binOp .eql t x (.const (.slice none 0 0)) u,ty,pos,aft,none⟩ l w (.bool A.isNone):=λ _ a d b=>by
  have g:=b.eval (x:=.const (.slice none 0 0)) (v:=.slice none 0 0) rfl
  simp [execOp,b.eval f,g,eqGuard,binOp,Jd (P:=P) (t:=t)]
theorem To {dst:Option Tmp} {t e u:TypeId} [TSlice P t e] {x:Operand} {A:Option Addr} {m c:Nat} (f:opv l x=some (.slice A m c)):Ev P ⟨dst,.binOp .neq t x (.const (.slice none 0 0)) u,ty,pos,aft,none⟩ l w (.bool (!A.isNone)):=λ _ a d b=>by
  have g:=b.eval (x:=.const (.slice none 0 0)) (v:=.slice none 0 0) rfl
  simp [execOp,b.eval f,g,eqGuard,binOp,Jd (P:=P) (t:=t)]
end
end
section
open Go Go.RowKit
section
variable {P : Program} {l : Env} {w : World} {dst : Option Tmp} {ty : TypeId} {pos : String} {aft : Array Edge}
theorem Ss {t e:TypeId} [j:TSlice P t e] {z:Value} {size bytes:Nat} [TInfo P e z size bytes] {x y:Operand} {k:IntKind} {A:Option Addr} {m c a:Nat} {q:Int} (g:opv l x=some (.slice A m c)) (h:opv l y=some (.int k q)) (i:q=(a:Int)) (b:a<=m) :
    Ev P ⟨dst,.slice t x (some y) none none,ty,pos,aft,none⟩ l w (.slice (if c=a then A else A.map (·.add (a * size))) (m - a) (c - a)):=λ _ _ d f=>by
  subst i
  simp [execOp,f.eval g,f.eval h,Instr.sliceAt,Instr.slice,run_underlying j.eq,Instr.sliceBounds,Instr.sliceBound,asIntOf,b,EV (P:=P) (t:=e)]
theorem Su {t e:TypeId} [i:TSlice P t e] {z:Value} {size bytes:Nat} [TInfo P e z size bytes] {x y:Operand} {k:IntKind} {A:Option Addr} {m c hi:Nat} {q:Int} (f:opv l x=some (.slice A m c)) (g:opv l y=some (.int k q)) (h:q=(hi:Int)) (a:hi<=c) :
    Ev P ⟨dst,.slice t x none (some y) none,ty,pos,aft,none⟩ l w (.slice (if c=0 then A else A.map (·.add (0 * size))) hi c):=λ _ _ d b=>by
  subst h
  simp [execOp,b.eval f,b.eval g,Instr.sliceAt,Instr.slice,run_underlying i.eq,Instr.sliceBounds,Instr.sliceBound,asIntOf,a,EV (P:=P) (t:=e)]
end
end
section
open Go Go.RowKit
section
variable {w : World} {b o : Nat} {v0 v1 v2 v3 v4 v5 v6 v7 v8 v9 : Value} {r : List Value}
theorem cat0 (a:cellsAt w b o (v0 :: r)):w.cell? ⟨b,o,none⟩=some v0:=a.1
theorem cat1 (a:cellsAt w b o (v0 :: v1 :: r)):w.cell? ⟨b,o + 1,none⟩=some v1:=a.2.1
theorem cat2 (a:cellsAt w b o (v0 :: v1 :: v2 :: r)):w.cell? ⟨b,o + 2,none⟩=some v2:=a.2.2.1
theorem cat3 (a:cellsAt w b o (v0 :: v1 :: v2 :: v3 :: r)):w.cell? ⟨b,o + 3,none⟩=some v3:=a.2.2.2.1
theorem cat4 (a:cellsAt w b o (v0 :: v1 :: v2 :: v3 :: v4 :: r)):w.cell? ⟨b,o + 4,none⟩=some v4:=a.2.2.2.2.1
theorem cat5 (a:cellsAt w b o (v0 :: v1 :: v2 :: v3 :: v4 :: v5 :: r)):w.cell? ⟨b,o + 5,none⟩=some v5:=a.2.2.2.2.2.1
theorem cat6 (a:cellsAt w b o (v0 :: v1 :: v2 :: v3 :: v4 :: v5 :: v6 :: r)):w.cell? ⟨b,o + 6,none⟩=some v6:=a.2.2.2.2.2.2.1
theorem cat7 (a:cellsAt w b o (v0 :: v1 :: v2 :: v3 :: v4 :: v5 :: v6 :: v7 :: r)):w.cell? ⟨b,o + 7,none⟩=some v7:=a.2.2.2.2.2.2.2.1
theorem cat8 (a:cellsAt w b o (v0 :: v1 :: v2 :: v3 :: v4 :: v5 :: v6 :: v7 :: v8 :: r)):w.cell? ⟨b,o + 8,none⟩=some v8:=a.2.2.2.2.2.2.2.2.1
theorem cat9 (a:cellsAt w b o (v0 :: v1 :: v2 :: v3 :: v4 :: v5 :: v6 :: v7 :: v8 :: v9 :: r)):w.cell? ⟨b,o + 9,none⟩=some v9:=a.2.2.2.2.2.2.2.2.2.1
end
section
variable {P : Program} {n : Nat} {ops : Array Oper} {Q : Q8} {rest : List Oper} {l : Env} {w : World} {d : Tmp} {ty : TypeId} {pos : String} {aft : Array Edge}
theorem At {x:Operand} {v:Value} (a:opv l x=some v)  (b:owp P n ops Q rest ((d,v) :: l) w)  (hd:Nat.blt d n=true:=by exact rfl):owp P n ops Q (⟨some d,.move x,ty,pos,aft,none⟩ :: rest) l w:=Bp (LC a) hd b
theorem Au {x:Operand} {v:Value} (a:opv l x=some v)  (b:owp P n ops Q rest ((d,v) :: l) w)  (hd:Nat.blt d n=true:=by exact rfl):owp P n ops Q (⟨some d,.assign x,ty,pos,aft,none⟩ :: rest) l w:=Bp (Ot a) hd b
theorem BJ {c x y:Operand} {v:Value} (hc:opv l c=some (.bool true)) (a:opv l x=some v)  (b:owp P n ops Q rest ((d,v) :: l) w)  (hd:Nat.blt d n=true:=by exact rfl):owp P n ops Q (⟨some d,.pick c x y,ty,pos,aft,none⟩ :: rest) l w:=Bp (Mk hc a) hd b
theorem BK {c x y:Operand} {v:Value} (hc:opv l c=some (.bool false)) (a:opv l y=some v)  (b:owp P n ops Q rest ((d,v) :: l) w)  (hd:Nat.blt d n=true:=by exact rfl):owp P n ops Q (⟨some d,.pick c x y,ty,pos,aft,none⟩ :: rest) l w:=Bp (Ml hc a) hd b
theorem AO {t:TypeId} {f off:Nat} [TField P t f off] {x:Operand} {b o:Nat} (a:opv l x=some (.pointer (some ⟨b,o,none⟩)))  (c:owp P n ops Q rest ((d,.pointer (some ⟨b,o + off,none⟩)) :: l) w)  (hd:Nat.blt d n=true:=by exact rfl):owp P n ops Q (⟨some d,.fieldAddr t x f,ty,pos,aft,none⟩ :: rest) l w:=Bp (Fh a) hd c
theorem CV {x:Operand} {a:Addr} (b:opv l x=some (.pointer (some a)))  (c:owp P n ops Q rest ((d,.pointer (some a)) :: l) w)  (hd:Nat.blt d n=true:=by exact rfl):owp P n ops Q (⟨some d,.nilCheck x,ty,pos,aft,none⟩ :: rest) l w:=Bp (JW b) hd c
theorem CK {x:Operand} {i:Nat} {vs:Array Value} {v:Value} (a:opv l x=some (.tuple vs)) (hv:vs[i]?=some v)  (b:owp P n ops Q rest ((d,v) :: l) w)  (hd:Nat.blt d n=true:=by exact rfl):owp P n ops Q (⟨some d,.extract x i,ty,pos,aft,none⟩ :: rest) l w:=Bp (MY a hv) hd b
theorem DA {t:TypeId} {x:Operand} (a:opv l x=some (.bool true))  (b:owp P n ops Q rest ((d,.bool false) :: l) w)  (hd:Nat.blt d n=true:=by exact rfl):owp P n ops Q (⟨some d,.unOp .not t x,ty,pos,aft,none⟩ :: rest) l w:=Bp (NO a) hd b
theorem DB {t:TypeId} {x:Operand} (a:opv l x=some (.bool false))  (b:owp P n ops Q rest ((d,.bool true) :: l) w)  (hd:Nat.blt d n=true:=by exact rfl):owp P n ops Q (⟨some d,.unOp .not t x,ty,pos,aft,none⟩ :: rest) l w:=Bp (NP a) hd b
theorem Eh {t:TypeId} {x:Operand} {b:Bool} (a:opv l x=some (.bool b))  (c:owp P n ops Q rest ((d,.bool (!b)) :: l) w)  (hd:Nat.blt d n=true:=by exact rfl):owp P n ops Q (⟨some d,.unOp .not t x,ty,pos,aft,none⟩ :: rest) l w:=Bp (KQ a) hd c
theorem AU {t e:TypeId} [TSlice P t e] {x:Operand} {A:Option Addr} {m c:Nat} (a:opv l x=some (.slice A m c))  (b:owp P n ops Q rest ((d,.int .i64 (m:Int)) :: l) w)  (hd:Nat.blt d n=true:=by exact rfl):owp P n ops Q (⟨some d,.call { callee:=.builtin .len,args:=#[x],argTypes:=#[t] },ty,pos,aft,none⟩ :: rest) l w:=Bp (PD a) hd b
theorem PJ {t:TypeId} [TStr P t] {x:Operand} {s:ByteArray} (a:opv l x=some (.string s)) (hd:Nat.blt d n=true) (b:owp P n ops Q rest ((d,.int .i64 (s.size:Int)) :: l) w)  : owp P n ops Q (⟨some d,.call { callee:=.builtin .len,args:=#[x],argTypes:=#[t] },ty,pos,aft,none⟩ :: rest) l w:=Bp (Ti a) hd b
theorem Sv {c e:TypeId} {x y:Operand} {k:IntKind} {a b:Int} (f:opv l x=some (.int k a)) (g:opv l y=some (.int k b)) (hd:Nat.blt d n=true) (h:owp P n ops Q rest ((d,.int k (min a b)) :: l) w)  : owp P n ops Q (⟨some d,.call { callee:=.builtin .min,args:=#[x,y],argTypes:=#[c,e] },ty,pos,aft,none⟩ :: rest) l w:=Bp (XJ f g) hd h
theorem We {c e:TypeId} {x y:Operand} {k:IntKind} {a b:Int} (f:opv l x=some (.int k a)) (g:opv l y=some (.int k b)) (hd:Nat.blt d n=true) (h:owp P n ops Q rest ((d,.int k (max a b)) :: l) w)  : owp P n ops Q (⟨some d,.call { callee:=.builtin .max,args:=#[x,y],argTypes:=#[c,e] },ty,pos,aft,none⟩ :: rest) l w:=Bp (XK f g) hd h
theorem Mp {t:TypeId} {k:IntKind} [TInt P t k] {x:Operand} {v:Value} (a:opv l x=some v)  (b:owp P n ops Q rest ((d,.iface t v) :: l) w)  (hd:Nat.blt d n=true:=by exact rfl):owp P n ops Q (⟨some d,.makeInterface t x,ty,pos,aft,none⟩ :: rest) l w:=Bp (MZ a) hd b
theorem Zn {a:Go.Fn} {xs ys:List Operand} {vs b:List Value} (c:R6 l xs=some vs) (e:R6 l ys=some b) (hd:Nat.blt d n=true) (f:owp P n ops Q rest ((d,.func a vs.toArray b.toArray) :: l) w)  : owp P n ops Q (⟨some d,.makeFunc a xs.toArray ys.toArray,ty,pos,aft,none⟩ :: rest) l w:=Bp (Ou c e) hd f
theorem DU {t:TypeId} {z:Value} {size bytes:Nat} [TInfo P t z size bytes] {a:List (Nat×Nat)} [TPlaces P t a] {ps:List (Nat×Operand)} {vs:List Value} {k:List (Nat×Value)} (b:R6 l (ps.map (·.2))=some vs) (hk:X5 a z.cells.size (ZO (ps.map (·.1)) vs)=some k)  (c:owp P n ops Q rest ((d,.agg (U1 z.cells.toList k).toArray) :: l) w)  (hd:Nat.blt d n=true:=by exact rfl):owp P n ops Q (⟨some d,.build t ps.toArray,ty,pos,aft,none⟩ :: rest) l w:=Bp (HF b hk) hd c
theorem PK {t e u:TypeId} [TPtr P t e] {x:Operand} {p:Option Addr} (a:opv l x=some (.pointer p)) (hd:Nat.blt d n=true) (b:owp P n ops Q rest ((d,.bool p.isNone) :: l) w)  : owp P n ops Q (⟨some d,.binOp .eql t x (.const (.pointer none)) u,ty,pos,aft,none⟩ :: rest) l w:=Bp (Tj a) hd b
theorem KU {t e u:TypeId} [TSlice P t e] {x:Operand} {A:Option Addr} {m c:Nat} (a:opv l x=some (.slice A m c))  (b:owp P n ops Q rest ((d,.bool A.isNone) :: l) w)  (hd:Nat.blt d n=true:=by exact rfl):owp P n ops Q (⟨some d,.binOp .eql t x (.const (.slice none 0 0)) u,ty,pos,aft,none⟩ :: rest) l w:=Bp (UL a) hd b
theorem Zo {t e u:TypeId} [TSlice P t e] {x:Operand} {A:Option Addr} {m c:Nat} (a:opv l x=some (.slice A m c)) (hd:Nat.blt d n=true) (b:owp P n ops Q rest ((d,.bool (!A.isNone)) :: l) w)  : owp P n ops Q (⟨some d,.binOp .neq t x (.const (.slice none 0 0)) u,ty,pos,aft,none⟩ :: rest) l w:=Bp (To a) hd b
theorem XM {t u:TypeId} [TIface P t] {x:Operand} (a:opv l x=some .nilIface) (hd:Nat.blt d n=true) (b:owp P n ops Q rest ((d,.bool false) :: l) w)  : owp P n ops Q (⟨some d,.binOp .neq t x (.const .nilIface) u,ty,pos,aft,none⟩ :: rest) l w:=Bp (Na a) hd b
theorem XN {t u:TypeId} [TIface P t] {x:Operand} {s:TypeId} {v:Value} (a:opv l x=some (.iface s v)) (hd:Nat.blt d n=true) (b:owp P n ops Q rest ((d,.bool true) :: l) w)  : owp P n ops Q (⟨some d,.binOp .neq t x (.const .nilIface) u,ty,pos,aft,none⟩ :: rest) l w:=Bp (Mc a) hd b
theorem HG {t u:TypeId} {x y:Operand} {a b:Int} (c:opv l x=some (.int .i64 a)) (e:opv l y=some (.int .i64 b))  (f:owp P n ops Q rest ((d,.int .i64 (a + b)) :: l) w) (hr:-9223372036854775808<=a + b/\a + b<=9223372036854775807:=by omega) (hd:Nat.blt d n=true:=by exact rfl):owp P n ops Q (⟨some d,.binOp .add t x y u,ty,pos,aft,none⟩ :: rest) l w:=Bp (PB c e hr) hd f
theorem Zp {t u:TypeId} {x y:Operand} {a b:Int} (c:opv l x=some (.int .i64 a)) (e:opv l y=some (.int .i64 b)) (hd:Nat.blt d n=true) (f:owp P n ops Q rest ((d,.int .i64 (a * b)) :: l) w) (hr:-9223372036854775808<=a * b/\a * b<=9223372036854775807:=by omega):owp P n ops Q (⟨some d,.binOp .mul t x y u,ty,pos,aft,none⟩ :: rest) l w:=Bp (Th c e hr) hd f
theorem HH {t u:TypeId} {x:Operand} {a:Nat} (b:opv l x=some (.int .i64 (a:Int)))  (c:owp P n ops Q rest ((d,.int .i64 ((a + 1:Nat):Int)) :: l) w) (hr:a < 9223372036854775807:=by omega) (hd:Nat.blt d n=true:=by exact rfl):owp P n ops Q (⟨some d,.binOp .add t x (.const (.int .i64 1)) u,ty,pos,aft,none⟩ :: rest) l w:=Bp (PC b hr) hd c
theorem DV {t e:TypeId} [TSlice P t e] {z:Value} {size bytes:Nat} [TInfo P e z size bytes] {x i:Operand} {k:IntKind} {b o m c j:Nat} {q:Int} (a:opv l x=some (.slice (some ⟨b,o,none⟩) m c)) (f:opv l i=some (.int k q))  (g:owp P n ops Q rest ((d,.pointer (some ⟨b,o + j * size,none⟩)) :: l) w) (hj:q=(j:Int):=by first|rfl|assumption) (hlt:j < m:=by omega) (hd:Nat.blt d n=true:=by exact rfl):owp P n ops Q (⟨some d,.indexAddr t x i,ty,pos,aft,none⟩ :: rest) l w:=Bp (Ht a f hj hlt) hd g
theorem Sw {t:TypeId} [TStr P t] {x i:Operand} {k:IntKind} {s:ByteArray} {j:Nat} (a:opv l x=some (.string s)) (b:opv l i=some (.int k (j:Int))) (hd:Nat.blt d n=true) (hlt:j < s.size:=by omega) (c:owp P n ops Q rest ((d,.int .u8 ((s[j]'hlt).toNat:Int)) :: l) w):owp P n ops Q (⟨some d,.index t x i,ty,pos,aft,none⟩ :: rest) l w:=Bp (UK a b hlt) hd c
theorem AQ {t:TypeId} [TOne P t] {x:Operand} {a:Addr} {v:Value} (b:opv l x=some (.pointer (some a)))  (c:owp P n ops Q rest ((d,v) :: l) w) (hc:w.cell? a=some v:=by first|assumption|exact Blk.cell (by assumption) rfl|exact cat0 (by assumption)|exact cat1 (by assumption)|exact cat2 (by assumption)|exact cat3 (by assumption)|exact cat4 (by assumption)|exact cat5 (by assumption)|exact cat6 (by assumption)|exact cat7 (by assumption)|exact cat8 (by assumption)|exact cat9 (by assumption)) (hd:Nat.blt d n=true:=by exact rfl):owp P n ops Q (⟨some d,.load t x,ty,pos,aft,none⟩ :: rest) l w:=Bp (Dy b hc) hd c
theorem BH {t:TypeId} [TAgg P t] {z:Value} {size bytes:Nat} [TInfo P t z size bytes] {x:Operand} {b o:Nat} {cs:List Value} (a:opv l x=some (.pointer (some ⟨b,o,none⟩)))  (c:owp P n ops Q rest ((d,.agg cs.toArray) :: l) w) (hc:cellsAt w b o cs:=by first|assumption|exact Blk.cellsAt (by assumption)) (hl:cs.length=size:=by rfl) (hd:Nat.blt d n=true:=by exact rfl):owp P n ops Q (⟨some d,.load t x,ty,pos,aft,none⟩ :: rest) l w:=Bp (FB a hl hc) hd c
theorem Ee {t u:TypeId} {x y:Operand} {k:IntKind} {a b:Int} (c:opv l x=some (.int k a)) (e:opv l y=some (.int k b))  (g:owp P n ops Q rest ((d,.bool true) :: l) w) (f:a < b:=by omega) (hd:Nat.blt d n=true:=by exact rfl):owp P n ops Q (⟨some d,.binOp .lss t x y u,ty,pos,aft,none⟩ :: rest) l w:=IJ (Di c e) hd f g
theorem Ef {t u:TypeId} {x y:Operand} {k:IntKind} {a b:Int} (c:opv l x=some (.int k a)) (e:opv l y=some (.int k b))  (g:owp P n ops Q rest ((d,.bool false) :: l) w) (f:¬ (a < b):=by omega) (hd:Nat.blt d n=true:=by exact rfl):owp P n ops Q (⟨some d,.binOp .lss t x y u,ty,pos,aft,none⟩ :: rest) l w:=IK (Di c e) hd f g
theorem Eq {t u:TypeId} {x y:Operand} {k:IntKind} {a b:Int} (c:opv l x=some (.int k a)) (e:opv l y=some (.int k b))  (f:a < b->owp P n ops Q rest ((d,.bool true) :: l) w) (hf:¬ (a < b)->owp P n ops Q rest ((d,.bool false) :: l) w) (hd:Nat.blt d n=true:=by exact rfl):owp P n ops Q (⟨some d,.binOp .lss t x y u,ty,pos,aft,none⟩ :: rest) l w:=Gh (Di c e) hd f hf
theorem Pu {t u:TypeId} {x y:Operand} {k:IntKind} {a b:Int} (c:opv l x=some (.int k a)) (e:opv l y=some (.int k b)) (hd:Nat.blt d n=true) (g:owp P n ops Q rest ((d,.bool true) :: l) w) (f:a<=b:=by omega):owp P n ops Q (⟨some d,.binOp .leq t x y u,ty,pos,aft,none⟩ :: rest) l w:=IJ (JF c e) hd f g
theorem Pv {t u:TypeId} {x y:Operand} {k:IntKind} {a b:Int} (c:opv l x=some (.int k a)) (e:opv l y=some (.int k b)) (hd:Nat.blt d n=true) (g:owp P n ops Q rest ((d,.bool false) :: l) w) (f:¬ (a<=b):=by omega):owp P n ops Q (⟨some d,.binOp .leq t x y u,ty,pos,aft,none⟩ :: rest) l w:=IK (JF c e) hd f g
theorem JY {t u:TypeId} {x y:Operand} {k:IntKind} {a b:Int} (c:opv l x=some (.int k a)) (e:opv l y=some (.int k b))  (f:a<=b->owp P n ops Q rest ((d,.bool true) :: l) w) (hf:¬ (a<=b)->owp P n ops Q rest ((d,.bool false) :: l) w) (hd:Nat.blt d n=true:=by exact rfl):owp P n ops Q (⟨some d,.binOp .leq t x y u,ty,pos,aft,none⟩ :: rest) l w:=Gh (JF c e) hd f hf
theorem EW {t u:TypeId} {x y:Operand} {k:IntKind} {a b:Int} (c:opv l x=some (.int k a)) (e:opv l y=some (.int k b))  (g:owp P n ops Q rest ((d,.bool true) :: l) w) (f:b < a:=by omega) (hd:Nat.blt d n=true:=by exact rfl):owp P n ops Q (⟨some d,.binOp .gtr t x y u,ty,pos,aft,none⟩ :: rest) l w:=IJ (FW c e) hd f g
theorem EX {t u:TypeId} {x y:Operand} {k:IntKind} {a b:Int} (c:opv l x=some (.int k a)) (e:opv l y=some (.int k b))  (g:owp P n ops Q rest ((d,.bool false) :: l) w) (f:¬ (b < a):=by omega) (hd:Nat.blt d n=true:=by exact rfl):owp P n ops Q (⟨some d,.binOp .gtr t x y u,ty,pos,aft,none⟩ :: rest) l w:=IK (FW c e) hd f g
theorem Er {t u:TypeId} {x y:Operand} {k:IntKind} {a b:Int} (c:opv l x=some (.int k a)) (e:opv l y=some (.int k b))  (f:b < a->owp P n ops Q rest ((d,.bool true) :: l) w) (hf:¬ (b < a)->owp P n ops Q rest ((d,.bool false) :: l) w) (hd:Nat.blt d n=true:=by exact rfl):owp P n ops Q (⟨some d,.binOp .gtr t x y u,ty,pos,aft,none⟩ :: rest) l w:=Gh (FW c e) hd f hf
theorem Nd {t u:TypeId} {x y:Operand} {k:IntKind} {a b:Int} (c:opv l x=some (.int k a)) (e:opv l y=some (.int k b)) (hd:Nat.blt d n=true) (g:owp P n ops Q rest ((d,.bool true) :: l) w) (f:b<=a:=by omega):owp P n ops Q (⟨some d,.binOp .geq t x y u,ty,pos,aft,none⟩ :: rest) l w:=IJ (Bw c e) hd f g
theorem Nf {t u:TypeId} {x y:Operand} {k:IntKind} {a b:Int} (c:opv l x=some (.int k a)) (e:opv l y=some (.int k b)) (hd:Nat.blt d n=true) (g:owp P n ops Q rest ((d,.bool false) :: l) w) (f:¬ (b<=a):=by omega):owp P n ops Q (⟨some d,.binOp .geq t x y u,ty,pos,aft,none⟩ :: rest) l w:=IK (Bw c e) hd f g
theorem GH {t u:TypeId} {x y:Operand} {k:IntKind} {a b:Int} (c:opv l x=some (.int k a)) (e:opv l y=some (.int k b))  (f:b<=a->owp P n ops Q rest ((d,.bool true) :: l) w) (hf:¬ (b<=a)->owp P n ops Q rest ((d,.bool false) :: l) w) (hd:Nat.blt d n=true:=by exact rfl):owp P n ops Q (⟨some d,.binOp .geq t x y u,ty,pos,aft,none⟩ :: rest) l w:=Gh (Bw c e) hd f hf
theorem Sz {t u:TypeId} {x y:Operand} {k:IntKind} {a b:Int} (c:opv l x=some (.int k a)) (e:opv l y=some (.int k b)) (hd:Nat.blt d n=true) (g:owp P n ops Q rest ((d,.bool true) :: l) w) (f:a=b:=by omega):owp P n ops Q (⟨some d,.binOp .eql t x y u,ty,pos,aft,none⟩ :: rest) l w:=IJ (IG c e) hd f g
theorem SA {t u:TypeId} {x y:Operand} {k:IntKind} {a b:Int} (c:opv l x=some (.int k a)) (e:opv l y=some (.int k b)) (hd:Nat.blt d n=true) (g:owp P n ops Q rest ((d,.bool false) :: l) w) (f:¬ (a=b):=by omega):owp P n ops Q (⟨some d,.binOp .eql t x y u,ty,pos,aft,none⟩ :: rest) l w:=IK (IG c e) hd f g
theorem FD {t u:TypeId} {x y:Operand} {k:IntKind} {a b:Int} (c:opv l x=some (.int k a)) (e:opv l y=some (.int k b))  (f:a=b->owp P n ops Q rest ((d,.bool true) :: l) w) (hf:¬ (a=b)->owp P n ops Q rest ((d,.bool false) :: l) w) (hd:Nat.blt d n=true:=by exact rfl):owp P n ops Q (⟨some d,.binOp .eql t x y u,ty,pos,aft,none⟩ :: rest) l w:=Gh (IG c e) hd f hf
theorem LF {t u:TypeId} {x y:Operand} {k:IntKind} {a b:Int} (c:opv l x=some (.int k a)) (e:opv l y=some (.int k b)) (hd:Nat.blt d n=true) (g:owp P n ops Q rest ((d,.bool true) :: l) w) (f:a≠b:=by omega):owp P n ops Q (⟨some d,.binOp .neq t x y u,ty,pos,aft,none⟩ :: rest) l w:=IJ (Fs c e) hd f g
theorem LG {t u:TypeId} {x y:Operand} {k:IntKind} {a b:Int} (c:opv l x=some (.int k a)) (e:opv l y=some (.int k b)) (hd:Nat.blt d n=true) (g:owp P n ops Q rest ((d,.bool false) :: l) w) (f:¬ (a≠b):=by omega):owp P n ops Q (⟨some d,.binOp .neq t x y u,ty,pos,aft,none⟩ :: rest) l w:=IK (Fs c e) hd f g
theorem JZ {t u:TypeId} {x y:Operand} {k:IntKind} {a b:Int} (c:opv l x=some (.int k a)) (e:opv l y=some (.int k b))  (f:a≠b->owp P n ops Q rest ((d,.bool true) :: l) w) (hf:¬ (a≠b)->owp P n ops Q rest ((d,.bool false) :: l) w) (hd:Nat.blt d n=true:=by exact rfl):owp P n ops Q (⟨some d,.binOp .neq t x y u,ty,pos,aft,none⟩ :: rest) l w:=Gh (Fs c e) hd f hf
variable {S : World → Prop} {r : List (Nat × Bool)} {i : Nat}
theorem AJ {x:Operand} {v:Value} (hi:ops[i]?=some ⟨some d,.move x,ty,pos,aft,none⟩) (a:opv l x=some v)  (b:hwp P n ops Q S r ((d,v) :: l) w)  (hd:Nat.blt d n=true:=by exact rfl):hwp P n ops Q S ((i,true) :: r) l w:=Az hi (Bh (λ _ _=>LC a) hd b)
theorem Ei {x:Operand} {v:Value} (hi:ops[i]?=some ⟨some d,.assign x,ty,pos,aft,none⟩) (a:opv l x=some v)  (b:hwp P n ops Q S r ((d,v) :: l) w)  (hd:Nat.blt d n=true:=by exact rfl):hwp P n ops Q S ((i,true) :: r) l w:=Az hi (Bh (λ _ _=>Ot a) hd b)
theorem CL {c x y:Operand} {v:Value} (hi:ops[i]?=some ⟨some d,.pick c x y,ty,pos,aft,none⟩) (hc:opv l c=some (.bool true)) (a:opv l x=some v)  (b:hwp P n ops Q S r ((d,v) :: l) w)  (hd:Nat.blt d n=true:=by exact rfl):hwp P n ops Q S ((i,true) :: r) l w:=Az hi (Bh (λ _ _=>Mk hc a) hd b)
theorem CE {c x y:Operand} {v:Value} (hi:ops[i]?=some ⟨some d,.pick c x y,ty,pos,aft,none⟩) (hc:opv l c=some (.bool false)) (a:opv l y=some v)  (b:hwp P n ops Q S r ((d,v) :: l) w)  (hd:Nat.blt d n=true:=by exact rfl):hwp P n ops Q S ((i,true) :: r) l w:=Az hi (Bh (λ _ _=>Ml hc a) hd b)
theorem AL {t:TypeId} {f off:Nat} [TField P t f off] {x:Operand} {b o:Nat} (hi:ops[i]?=some ⟨some d,.fieldAddr t x f,ty,pos,aft,none⟩) (a:opv l x=some (.pointer (some ⟨b,o,none⟩)))  (c:hwp P n ops Q S r ((d,.pointer (some ⟨b,o + off,none⟩)) :: l) w)  (hd:Nat.blt d n=true:=by exact rfl):hwp P n ops Q S ((i,true) :: r) l w:=Az hi (Bh (λ _ _=>Fh a) hd c)
theorem BG {x:Operand} {a:Addr} (hi:ops[i]?=some ⟨some d,.nilCheck x,ty,pos,aft,none⟩) (b:opv l x=some (.pointer (some a)))  (c:hwp P n ops Q S r ((d,.pointer (some a)) :: l) w)  (hd:Nat.blt d n=true:=by exact rfl):hwp P n ops Q S ((i,true) :: r) l w:=Az hi (Bh (λ _ _=>JW b) hd c)
theorem IL {x:Operand} {a:Nat} {vs:Array Value} {v:Value} (hi:ops[i]?=some ⟨some d,.extract x a,ty,pos,aft,none⟩) (b:opv l x=some (.tuple vs)) (hv:vs[a]?=some v)  (c:hwp P n ops Q S r ((d,v) :: l) w)  (hd:Nat.blt d n=true:=by exact rfl):hwp P n ops Q S ((i,true) :: r) l w:=Az hi (Bh (λ _ _=>MY b hv) hd c)
theorem PL {t:TypeId} {x:Operand} (hi:ops[i]?=some ⟨some d,.unOp .not t x,ty,pos,aft,none⟩) (a:opv l x=some (.bool true)) (hd:Nat.blt d n=true) (b:hwp P n ops Q S r ((d,.bool false) :: l) w)  : hwp P n ops Q S ((i,true) :: r) l w:=Az hi (Bh (λ _ _=>NO a) hd b)
theorem SB {t:TypeId} {x:Operand} (hi:ops[i]?=some ⟨some d,.unOp .not t x,ty,pos,aft,none⟩) (a:opv l x=some (.bool false)) (hd:Nat.blt d n=true) (b:hwp P n ops Q S r ((d,.bool true) :: l) w)  : hwp P n ops Q S ((i,true) :: r) l w:=Az hi (Bh (λ _ _=>NP a) hd b)
theorem XO {t:TypeId} {x:Operand} {b:Bool} (hi:ops[i]?=some ⟨some d,.unOp .not t x,ty,pos,aft,none⟩) (a:opv l x=some (.bool b)) (hd:Nat.blt d n=true) (c:hwp P n ops Q S r ((d,.bool (!b)) :: l) w)  : hwp P n ops Q S ((i,true) :: r) l w:=Az hi (Bh (λ _ _=>KQ a) hd c)
theorem Hu {t e:TypeId} [TSlice P t e] {x:Operand} {A:Option Addr} {m c:Nat} (hi:ops[i]?=some ⟨some d,.call { callee:=.builtin .len,args:=#[x],argTypes:=#[t] },ty,pos,aft,none⟩) (a:opv l x=some (.slice A m c))  (b:hwp P n ops Q S r ((d,.int .i64 (m:Int)) :: l) w)  (hd:Nat.blt d n=true:=by exact rfl):hwp P n ops Q S ((i,true) :: r) l w:=Az hi (Bh (λ _ _=>PD a) hd b)
theorem Ew {t:TypeId} {z:Value} {size bytes:Nat} [TInfo P t z size bytes] {a:List (Nat×Nat)} [TPlaces P t a] {ps:List (Nat×Operand)} {vs:List Value} {k:List (Nat×Value)} (hi:ops[i]?=some ⟨some d,.build t ps.toArray,ty,pos,aft,none⟩) (b:R6 l (ps.map (·.2))=some vs) (hk:X5 a z.cells.size (ZO (ps.map (·.1)) vs)=some k)  (c:hwp P n ops Q S r ((d,.agg (U1 z.cells.toList k).toArray) :: l) w)  (hd:Nat.blt d n=true:=by exact rfl):hwp P n ops Q S ((i,true) :: r) l w:=Az hi (Bh (λ _ _=>HF b hk) hd c)
theorem XP {t u:TypeId} {x y:Operand} {a b:Int} (hi:ops[i]?=some ⟨some d,.binOp .add t x y u,ty,pos,aft,none⟩) (c:opv l x=some (.int .i64 a)) (e:opv l y=some (.int .i64 b)) (hd:Nat.blt d n=true) (f:hwp P n ops Q S r ((d,.int .i64 (a + b)) :: l) w) (hr:-9223372036854775808<=a + b/\a + b<=9223372036854775807:=by omega):hwp P n ops Q S ((i,true) :: r) l w:=Az hi (Bh (λ _ _=>PB c e hr) hd f)
theorem XQ {t u:TypeId} {x:Operand} {a:Nat} (hi:ops[i]?=some ⟨some d,.binOp .add t x (.const (.int .i64 1)) u,ty,pos,aft,none⟩) (b:opv l x=some (.int .i64 (a:Int))) (hd:Nat.blt d n=true) (c:hwp P n ops Q S r ((d,.int .i64 ((a + 1:Nat):Int)) :: l) w) (hr:a < 9223372036854775807:=by omega):hwp P n ops Q S ((i,true) :: r) l w:=Az hi (Bh (λ _ _=>PC b hr) hd c)
theorem KV {t e:TypeId} [TSlice P t e] {z:Value} {size bytes:Nat} [TInfo P e z size bytes] {x a:Operand} {k:IntKind} {b o m c j:Nat} {q:Int} (hi:ops[i]?=some ⟨some d,.indexAddr t x a,ty,pos,aft,none⟩) (f:opv l x=some (.slice (some ⟨b,o,none⟩) m c)) (g:opv l a=some (.int k q))  (h:hwp P n ops Q S r ((d,.pointer (some ⟨b,o + j * size,none⟩)) :: l) w) (hj:q=(j:Int):=by first|rfl|assumption) (hlt:j < m:=by omega) (hd:Nat.blt d n=true:=by exact rfl):hwp P n ops Q S ((i,true) :: r) l w:=Az hi (Bh (λ _ _=>Ht f g hj hlt) hd h)
theorem CY {a:World} {t:TypeId} [TOne P t] {x:Operand} {b:Addr} {v:Value} (hi:ops[i]?=some ⟨some d,.load t x,ty,pos,aft,none⟩) (c:opv l x=some (.pointer (some b)))  (e:hwp P n ops Q (·=a) r ((d,v) :: l) w) (hc:a.cell? b=some v:=by first|assumption|exact Blk.cell (by assumption) rfl|exact cat0 (by assumption)|exact cat1 (by assumption)|exact cat2 (by assumption)|exact cat3 (by assumption)|exact cat4 (by assumption)|exact cat5 (by assumption)|exact cat6 (by assumption)|exact cat7 (by assumption)|exact cat8 (by assumption)|exact cat9 (by assumption)) (hd:Nat.blt d n=true:=by exact rfl):hwp P n ops Q (·=a) ((i,true) :: r) l w:=Az hi (Wc (Dy c hc) hd e)
theorem Iv {a:World} {t:TypeId} [TOne P t] {x:Operand} {g k:Nat} {b:TypeId} {cs:List Value} {v:Value} (hi:ops[i]?=some ⟨some d,.load t x,ty,pos,aft,none⟩) (c:opv l x=some (.pointer (some ⟨g,k,none⟩)))  (f:hwp P n ops Q (Ext a) r ((d,v) :: l) w) (hb:Blk a g b cs:=by assumption) (hc:cs[k]?=some v:=by rfl) (hd:Nat.blt d n=true:=by exact rfl):hwp P n ops Q (Ext a) ((i,true) :: r) l w:=Az hi (Bh (λ _ e=>Dy c ((hb.ext e).cell hc)) hd f)
theorem Gk {t:TypeId} [TOne P t] {x:Operand} {g k:Nat} {a:TypeId} {cs:List Value} {v:Value} (hi:ops[i]?=some ⟨some d,.load t x,ty,pos,aft,none⟩) (b:opv l x=some (.pointer (some ⟨g,k,none⟩)))  (e:hwp P n ops Q S r ((d,v) :: l) w) (hb:∀ w',S w'->Blk w' g a cs:=by assumption) (hc:cs[k]?=some v:=by rfl) (hd:Nat.blt d n=true:=by exact rfl):hwp P n ops Q S ((i,true) :: r) l w:=Az hi (Bh (λ _ c=>Dy b ((hb _ c).cell hc)) hd e)
theorem AZ {t:TypeId} [TOne P t] {x:Operand} {b:Addr} {v:Value} (hi:ops[i]?=some ⟨some d,.load t x,ty,pos,aft,none⟩) (c:opv l x=some (.pointer (some b)))  (e:hwp P n ops Q S r ((d,v) :: l) w) (hc:∀ w',S w'->w'.cell? b=some v:=by first|assumption|exact λ _ a=>cat0 ((by assumption:∀ w',_->cellsAt w' _ _ _) _ a)|exact λ _ a=>cat1 ((by assumption:∀ w',_->cellsAt w' _ _ _) _ a)|exact λ _ a=>cat2 ((by assumption:∀ w',_->cellsAt w' _ _ _) _ a)|exact λ _ a=>cat3 ((by assumption:∀ w',_->cellsAt w' _ _ _) _ a)|exact λ _ a=>cat4 ((by assumption:∀ w',_->cellsAt w' _ _ _) _ a)|exact λ _ a=>cat5 ((by assumption:∀ w',_->cellsAt w' _ _ _) _ a)|exact λ _ a=>cat6 ((by assumption:∀ w',_->cellsAt w' _ _ _) _ a)|exact λ _ a=>cat7 ((by assumption:∀ w',_->cellsAt w' _ _ _) _ a)|exact λ _ a=>cat8 ((by assumption:∀ w',_->cellsAt w' _ _ _) _ a)|exact λ _ a=>cat9 ((by assumption:∀ w',_->cellsAt w' _ _ _) _ a)) (hd:Nat.blt d n=true:=by exact rfl):hwp P n ops Q S ((i,true) :: r) l w:=Az hi (Bh (λ _ a=>Dy c (hc _ a)) hd e)
theorem Dm {t:TypeId} [TAgg P t] {z:Value} {size bytes:Nat} [TInfo P t z size bytes] {x:Operand} {b o:Nat} {cs:List Value} (hi:ops[i]?=some ⟨some d,.load t x,ty,pos,aft,none⟩) (c:opv l x=some (.pointer (some ⟨b,o,none⟩)))  (e:hwp P n ops Q S r ((d,.agg cs.toArray) :: l) w) (hb:∀ w',S w'->cellsAt w' b o cs:=by first|assumption|exact λ _ a=>Blk.cellsAt ((by assumption:∀ w',_->Blk w' _ _ _) _ a)) (hl:cs.length=size:=by rfl) (hd:Nat.blt d n=true:=by exact rfl):hwp P n ops Q S ((i,true) :: r) l w:=Az hi (Bh (λ _ a=>FB c hl (hb _ a)) hd e)
theorem HS {t u:TypeId} {x y:Operand} {k:IntKind} {a b:Int} (hi:ops[i]?=some ⟨some d,.binOp .lss t x y u,ty,pos,aft,none⟩) (c:opv l x=some (.int k a)) (e:opv l y=some (.int k b))  (g:hwp P n ops Q S r ((d,.bool true) :: l) w) (f:a < b:=by omega) (hd:Nat.blt d n=true:=by exact rfl):hwp P n ops Q S ((i,true) :: r) l w:=Az hi (Cm (λ _ _=>Di c e) (hn:=hd) f g)
theorem HT {t u:TypeId} {x y:Operand} {k:IntKind} {a b:Int} (hi:ops[i]?=some ⟨some d,.binOp .lss t x y u,ty,pos,aft,none⟩) (c:opv l x=some (.int k a)) (e:opv l y=some (.int k b))  (g:hwp P n ops Q S r ((d,.bool false) :: l) w) (f:¬ (a < b):=by omega) (hd:Nat.blt d n=true:=by exact rfl):hwp P n ops Q S ((i,true) :: r) l w:=Az hi (Cn (λ _ _=>Di c e) (hn:=hd) f g)
theorem GJ {t u:TypeId} {x y:Operand} {k:IntKind} {a b:Int} (hi:ops[i]?=some ⟨some d,.binOp .lss t x y u,ty,pos,aft,none⟩) (c:opv l x=some (.int k a)) (e:opv l y=some (.int k b))  (f:a < b->hwp P n ops Q S r ((d,.bool true) :: l) w) (hf:¬ (a < b)->hwp P n ops Q S r ((d,.bool false) :: l) w) (hd:Nat.blt d n=true:=by exact rfl):hwp P n ops Q S ((i,true) :: r) l w:=Az hi (Bj (λ _ _=>Di c e) (hn:=hd) f hf)
theorem Wg {t u:TypeId} {x y:Operand} {k:IntKind} {a b:Int} (hi:ops[i]?=some ⟨some d,.binOp .leq t x y u,ty,pos,aft,none⟩) (c:opv l x=some (.int k a)) (e:opv l y=some (.int k b)) (hd:Nat.blt d n=true) (g:hwp P n ops Q S r ((d,.bool true) :: l) w) (f:a<=b:=by omega):hwp P n ops Q S ((i,true) :: r) l w:=Az hi (Cm (λ _ _=>JF c e) (hn:=hd) f g)
theorem Wh {t u:TypeId} {x y:Operand} {k:IntKind} {a b:Int} (hi:ops[i]?=some ⟨some d,.binOp .leq t x y u,ty,pos,aft,none⟩) (c:opv l x=some (.int k a)) (e:opv l y=some (.int k b)) (hd:Nat.blt d n=true) (g:hwp P n ops Q S r ((d,.bool false) :: l) w) (f:¬ (a<=b):=by omega):hwp P n ops Q S ((i,true) :: r) l w:=Az hi (Cn (λ _ _=>JF c e) (hn:=hd) f g)
theorem Wi {t u:TypeId} {x y:Operand} {k:IntKind} {a b:Int} (hi:ops[i]?=some ⟨some d,.binOp .leq t x y u,ty,pos,aft,none⟩) (c:opv l x=some (.int k a)) (e:opv l y=some (.int k b)) (hd:Nat.blt d n=true) (f:a<=b->hwp P n ops Q S r ((d,.bool true) :: l) w) (hf:¬ (a<=b)->hwp P n ops Q S r ((d,.bool false) :: l) w):hwp P n ops Q S ((i,true) :: r) l w:=Az hi (Bj (λ _ _=>JF c e) (hn:=hd) f hf)
theorem YI {t u:TypeId} {x y:Operand} {k:IntKind} {a b:Int} (hi:ops[i]?=some ⟨some d,.binOp .gtr t x y u,ty,pos,aft,none⟩) (c:opv l x=some (.int k a)) (e:opv l y=some (.int k b)) (hd:Nat.blt d n=true) (f:b < a->hwp P n ops Q S r ((d,.bool true) :: l) w) (hf:¬ (b < a)->hwp P n ops Q S r ((d,.bool false) :: l) w):hwp P n ops Q S ((i,true) :: r) l w:=Az hi (Bj (λ _ _=>FW c e) (hn:=hd) f hf)
theorem Wj {t u:TypeId} {x y:Operand} {k:IntKind} {a b:Int} (hi:ops[i]?=some ⟨some d,.binOp .geq t x y u,ty,pos,aft,none⟩) (c:opv l x=some (.int k a)) (e:opv l y=some (.int k b)) (hd:Nat.blt d n=true) (f:b<=a->hwp P n ops Q S r ((d,.bool true) :: l) w) (hf:¬ (b<=a)->hwp P n ops Q S r ((d,.bool false) :: l) w):hwp P n ops Q S ((i,true) :: r) l w:=Az hi (Bj (λ _ _=>Bw c e) (hn:=hd) f hf)
theorem Wk {t u:TypeId} {x y:Operand} {k:IntKind} {a b:Int} (hi:ops[i]?=some ⟨some d,.binOp .eql t x y u,ty,pos,aft,none⟩) (c:opv l x=some (.int k a)) (e:opv l y=some (.int k b)) (hd:Nat.blt d n=true) (g:hwp P n ops Q S r ((d,.bool true) :: l) w) (f:a=b:=by omega):hwp P n ops Q S ((i,true) :: r) l w:=Az hi (Cm (λ _ _=>IG c e) (hn:=hd) f g)
theorem Wl {t u:TypeId} {x y:Operand} {k:IntKind} {a b:Int} (hi:ops[i]?=some ⟨some d,.binOp .eql t x y u,ty,pos,aft,none⟩) (c:opv l x=some (.int k a)) (e:opv l y=some (.int k b)) (hd:Nat.blt d n=true) (g:hwp P n ops Q S r ((d,.bool false) :: l) w) (f:¬ (a=b):=by omega):hwp P n ops Q S ((i,true) :: r) l w:=Az hi (Cn (λ _ _=>IG c e) (hn:=hd) f g)
theorem Wm {t u:TypeId} {x y:Operand} {k:IntKind} {a b:Int} (hi:ops[i]?=some ⟨some d,.binOp .eql t x y u,ty,pos,aft,none⟩) (c:opv l x=some (.int k a)) (e:opv l y=some (.int k b)) (hd:Nat.blt d n=true) (f:a=b->hwp P n ops Q S r ((d,.bool true) :: l) w) (hf:¬ (a=b)->hwp P n ops Q S r ((d,.bool false) :: l) w):hwp P n ops Q S ((i,true) :: r) l w:=Az hi (Bj (λ _ _=>IG c e) (hn:=hd) f hf)
theorem YJ {t u:TypeId} {x y:Operand} {k:IntKind} {a b:Int} (hi:ops[i]?=some ⟨some d,.binOp .neq t x y u,ty,pos,aft,none⟩) (c:opv l x=some (.int k a)) (e:opv l y=some (.int k b)) (hd:Nat.blt d n=true) (g:hwp P n ops Q S r ((d,.bool true) :: l) w) (f:a≠b:=by omega):hwp P n ops Q S ((i,true) :: r) l w:=Az hi (Cm (λ _ _=>Fs c e) (hn:=hd) f g)
theorem YK {t u:TypeId} {x y:Operand} {k:IntKind} {a b:Int} (hi:ops[i]?=some ⟨some d,.binOp .neq t x y u,ty,pos,aft,none⟩) (c:opv l x=some (.int k a)) (e:opv l y=some (.int k b)) (hd:Nat.blt d n=true) (g:hwp P n ops Q S r ((d,.bool false) :: l) w) (f:¬ (a≠b):=by omega):hwp P n ops Q S ((i,true) :: r) l w:=Az hi (Cn (λ _ _=>Fs c e) (hn:=hd) f g)
theorem SC {t u:TypeId} {x y:Operand} {k:IntKind} {a b:Int} (hi:ops[i]?=some ⟨some d,.binOp .neq t x y u,ty,pos,aft,none⟩) (c:opv l x=some (.int k a)) (e:opv l y=some (.int k b)) (hd:Nat.blt d n=true) (f:a≠b->hwp P n ops Q S r ((d,.bool true) :: l) w) (hf:¬ (a≠b)->hwp P n ops Q S r ((d,.bool false) :: l) w):hwp P n ops Q S ((i,true) :: r) l w:=Az hi (Bj (λ _ _=>Fs c e) (hn:=hd) f hf)
theorem Ce {x:Operand} {v:Value} (a:opv l x=some v)  (b:hwp P n ops Q S r ((d,v) :: l) w)  (hd:Nat.blt d n=true:=by exact rfl):hwq P n ops Q S ⟨some d,.move x,ty,pos,aft,none⟩ r l w:=Bh (λ _ _=>LC a) hd b
theorem UM {c x y:Operand} {v:Value} (hc:opv l c=some (.bool true)) (a:opv l x=some v) (hd:Nat.blt d n=true) (b:hwp P n ops Q S r ((d,v) :: l) w)  : hwq P n ops Q S ⟨some d,.pick c x y,ty,pos,aft,none⟩ r l w:=Bh (λ _ _=>Mk hc a) hd b
theorem UN {c x y:Operand} {v:Value} (hc:opv l c=some (.bool false)) (a:opv l y=some v) (hd:Nat.blt d n=true) (b:hwp P n ops Q S r ((d,v) :: l) w)  : hwq P n ops Q S ⟨some d,.pick c x y,ty,pos,aft,none⟩ r l w:=Bh (λ _ _=>Ml hc a) hd b
theorem BM {t:TypeId} {f off:Nat} [TField P t f off] {x:Operand} {b o:Nat} (a:opv l x=some (.pointer (some ⟨b,o,none⟩)))  (c:hwp P n ops Q S r ((d,.pointer (some ⟨b,o + off,none⟩)) :: l) w)  (hd:Nat.blt d n=true:=by exact rfl):hwq P n ops Q S ⟨some d,.fieldAddr t x f,ty,pos,aft,none⟩ r l w:=Bh (λ _ _=>Fh a) hd c
theorem Jt {x:Operand} {a:Addr} (b:opv l x=some (.pointer (some a)))  (c:hwp P n ops Q S r ((d,.pointer (some a)) :: l) w)  (hd:Nat.blt d n=true:=by exact rfl):hwq P n ops Q S ⟨some d,.nilCheck x,ty,pos,aft,none⟩ r l w:=Bh (λ _ _=>JW b) hd c
theorem Mq {t:TypeId} {x:Operand} (a:opv l x=some (.bool true))  (b:hwp P n ops Q S r ((d,.bool false) :: l) w)  (hd:Nat.blt d n=true:=by exact rfl):hwq P n ops Q S ⟨some d,.unOp .not t x,ty,pos,aft,none⟩ r l w:=Bh (λ _ _=>NO a) hd b
theorem Mr {t:TypeId} {x:Operand} (a:opv l x=some (.bool false))  (b:hwp P n ops Q S r ((d,.bool true) :: l) w)  (hd:Nat.blt d n=true:=by exact rfl):hwq P n ops Q S ⟨some d,.unOp .not t x,ty,pos,aft,none⟩ r l w:=Bh (λ _ _=>NP a) hd b
theorem UO {t:TypeId} {x:Operand} {b:Bool} (a:opv l x=some (.bool b)) (hd:Nat.blt d n=true) (c:hwp P n ops Q S r ((d,.bool (!b)) :: l) w)  : hwq P n ops Q S ⟨some d,.unOp .not t x,ty,pos,aft,none⟩ r l w:=Bh (λ _ _=>KQ a) hd c
theorem Ju {t e:TypeId} [TSlice P t e] {x:Operand} {A:Option Addr} {m c:Nat} (a:opv l x=some (.slice A m c))  (b:hwp P n ops Q S r ((d,.int .i64 (m:Int)) :: l) w)  (hd:Nat.blt d n=true:=by exact rfl):hwq P n ops Q S ⟨some d,.call { callee:=.builtin .len,args:=#[x],argTypes:=#[t] },ty,pos,aft,none⟩ r l w:=Bh (λ _ _=>PD a) hd b
theorem XR {a:Go.Fn} {xs ys:List Operand} {vs b:List Value} (c:R6 l xs=some vs) (e:R6 l ys=some b) (hd:Nat.blt d n=true) (f:hwp P n ops Q S r ((d,.func a vs.toArray b.toArray) :: l) w)  : hwq P n ops Q S ⟨some d,.makeFunc a xs.toArray ys.toArray,ty,pos,aft,none⟩ r l w:=Bh (λ _ _=>Ou c e) hd f
theorem UP {t u:TypeId} {x y:Operand} {a b:Int} (c:opv l x=some (.int .i64 a)) (e:opv l y=some (.int .i64 b)) (hd:Nat.blt d n=true) (f:hwp P n ops Q S r ((d,.int .i64 (a - b)) :: l) w) (hr:-9223372036854775808<=a - b/\a - b<=9223372036854775807:=by omega):hwq P n ops Q S ⟨some d,.binOp .sub t x y u,ty,pos,aft,none⟩ r l w:=Bh (λ _ _=>Tg c e hr) hd f
theorem Hv {t e:TypeId} [TSlice P t e] {z:Value} {size bytes:Nat} [TInfo P e z size bytes] {x a:Operand} {k:IntKind} {b o m c j:Nat} {q:Int} (f:opv l x=some (.slice (some ⟨b,o,none⟩) m c)) (g:opv l a=some (.int k q))  (h:hwp P n ops Q S r ((d,.pointer (some ⟨b,o + j * size,none⟩)) :: l) w) (hj:q=(j:Int):=by first|rfl|assumption) (hlt:j < m:=by omega) (hd:Nat.blt d n=true:=by exact rfl):hwq P n ops Q S ⟨some d,.indexAddr t x a,ty,pos,aft,none⟩ r l w:=Bh (λ _ _=>Ht f g hj hlt) hd h
theorem Bu {a:World} {t:TypeId} [TOne P t] {x:Operand} {b:Addr} {v:Value} (c:opv l x=some (.pointer (some b)))  (e:hwp P n ops Q (·=a) r ((d,v) :: l) w) (hc:a.cell? b=some v:=by first|assumption|exact Blk.cell (by assumption) rfl|exact cat0 (by assumption)|exact cat1 (by assumption)|exact cat2 (by assumption)|exact cat3 (by assumption)|exact cat4 (by assumption)|exact cat5 (by assumption)|exact cat6 (by assumption)|exact cat7 (by assumption)|exact cat8 (by assumption)|exact cat9 (by assumption)) (hd:Nat.blt d n=true:=by exact rfl):hwq P n ops Q (·=a) ⟨some d,.load t x,ty,pos,aft,none⟩ r l w:=Wc (Dy c hc) hd e
theorem SD {t:TypeId} [TOne P t] {x:Operand} {b:Addr} {v:Value} (c:opv l x=some (.pointer (some b))) (hd:Nat.blt d n=true) (e:hwp P n ops Q S r ((d,v) :: l) w) (hc:∀ w',S w'->w'.cell? b=some v:=by first|assumption|exact λ _ a=>cat0 ((by assumption:∀ w',_->cellsAt w' _ _ _) _ a)|exact λ _ a=>cat1 ((by assumption:∀ w',_->cellsAt w' _ _ _) _ a)|exact λ _ a=>cat2 ((by assumption:∀ w',_->cellsAt w' _ _ _) _ a)|exact λ _ a=>cat3 ((by assumption:∀ w',_->cellsAt w' _ _ _) _ a)|exact λ _ a=>cat4 ((by assumption:∀ w',_->cellsAt w' _ _ _) _ a)|exact λ _ a=>cat5 ((by assumption:∀ w',_->cellsAt w' _ _ _) _ a)|exact λ _ a=>cat6 ((by assumption:∀ w',_->cellsAt w' _ _ _) _ a)|exact λ _ a=>cat7 ((by assumption:∀ w',_->cellsAt w' _ _ _) _ a)|exact λ _ a=>cat8 ((by assumption:∀ w',_->cellsAt w' _ _ _) _ a)|exact λ _ a=>cat9 ((by assumption:∀ w',_->cellsAt w' _ _ _) _ a)):hwq P n ops Q S ⟨some d,.load t x,ty,pos,aft,none⟩ r l w:=Bh (λ _ a=>Dy c (hc _ a)) hd e
theorem Je {t:TypeId} [TAgg P t] {z:Value} {size bytes:Nat} [TInfo P t z size bytes] {x:Operand} {b o:Nat} {cs:List Value} (c:opv l x=some (.pointer (some ⟨b,o,none⟩)))  (e:hwp P n ops Q S r ((d,.agg cs.toArray) :: l) w) (hb:∀ w',S w'->cellsAt w' b o cs:=by first|assumption|exact λ _ a=>Blk.cellsAt ((by assumption:∀ w',_->Blk w' _ _ _) _ a)) (hl:cs.length=size:=by rfl) (hd:Nat.blt d n=true:=by exact rfl):hwq P n ops Q S ⟨some d,.load t x,ty,pos,aft,none⟩ r l w:=Bh (λ _ a=>FB c hl (hb _ a)) hd e
theorem AW {a:Op} {j dj:Nat} {b:Bool} {u:Value} (hi:ops[i]?=some ⟨some d,a,ty,pos,aft,some (j,b)⟩) (hj:ZT ops j=some dj) (hl:lk l dj=some u)   (c:hwp P n ops Q S r ((d,undef) :: l) w) (hu:isB u b=false:=by exact rfl) (hd:Nat.blt d n=true:=by exact rfl):hwp P n ops Q S ((i,true) :: r) l w:=Az hi (AE hj hl (hu:=hu) (hn:=hd) c)
end
end
section
open Go Go.RowKit
structure Fct where
  var:Int
  val:Int
structure Eff where
  cond:List Fct
  var:Int
  val:Int
structure Opr where
  name:ByteArray
  cost:Int
  pre:List Fct
  effs:List Eff
structure Tsk where
  vars:List Int
  init:List Int
  goal:List Fct
  ops:List Opr
theorem Vb.one {α:Type} [Rp α] (hb:Rp.isAgg α=false) {w:World} {F:Nat->Prop} {v:Value} {x:α} (a:Vb w F v x):v.oneCell'=true:=by
  unfold Vb at a;rw [hb] at a;exact Rp.one a v (by simp)
instance:Rp Fct where
  isAgg:=true
  size:=2
  R _ _ cs f:=cs=[.int .i64 f.var,.int .i64 f.val]/\P9 f.var/\P9 f.val
  len:=by rintro w F cs x ⟨rfl,_⟩;rfl
  one:=by rintro w F cs x ⟨rfl,_⟩ u hu;simp at hu;rcases hu with rfl|rfl<;>rfl
  agree:=λ a _=>a
  mono:=λ a _=>a
instance:Rp Eff where
  isAgg:=true
  size:=3
  R w F cs e:=∃ v,cs=[v,.int .i64 e.var,.int .i64 e.val]/\Vb w F v e.cond/\P9 e.var/\P9 e.val
  len:=by rintro w F cs x ⟨v,rfl,_⟩;rfl
  one:=by rintro w F cs x ⟨v,rfl,h,_⟩ u hu;simp at hu;rcases hu with rfl|rfl|rfl<;>first|rfl|exact Vb.one rfl (by assumption)
  agree:=by rintro w w' F cs x ⟨v,rfl,h,h2⟩ ha;exact ⟨v,rfl,h.agree ha,h2⟩
  mono:=by rintro w F G cs x ⟨v,rfl,h,h2⟩ ha;exact ⟨v,rfl,h.mono ha,h2⟩
instance:Rp Opr where
  isAgg:=true
  size:=4
  R w F cs o:=∃ p q,cs=[.string o.name,.int .i64 o.cost,p,q]/\Vb w F p o.pre/\Vb w F q o.effs/\P9 o.cost/\o.name.size<=9223372036854775807
  len:=by rintro w F cs x ⟨p,q,rfl,_⟩;rfl
  one:=by rintro w F cs x ⟨p,q,rfl,h,k,_⟩ u hu;simp at hu;rcases hu with rfl|rfl|rfl|rfl<;>first|rfl|exact Vb.one rfl (by assumption)
  agree:=by rintro w w' F cs x ⟨p,q,rfl,h,k,h2⟩ ha;exact ⟨p,q,rfl,h.agree ha,k.agree ha,h2⟩
  mono:=by rintro w F G cs x ⟨p,q,rfl,h,k,h2⟩ ha;exact ⟨p,q,rfl,h.mono ha,k.mono ha,h2⟩
instance:Rp Tsk where
  isAgg:=true
  size:=4
  R w F cs t:=∃ a b c d,cs=[a,b,c,d]/\Vb w F a t.vars/\Vb w F b t.init/\Vb w F c t.goal/\Vb w F d t.ops
  len:=by rintro w F cs x ⟨a,b,c,d,rfl,_⟩;rfl
  one:=by rintro w F cs x ⟨a,b,c,d,rfl,h1,h2,h3,h4⟩ u hu;simp at hu;rcases hu with rfl|rfl|rfl|rfl<;>first|rfl|exact Vb.one rfl (by assumption)
  agree:=by rintro w w' F cs x ⟨a,b,c,d,rfl,h1,h2,h3,h4⟩ ha;exact ⟨a,b,c,d,rfl,h1.agree ha,h2.agree ha,h3.agree ha,h4.agree ha⟩
  mono:=by rintro w F G cs x ⟨a,b,c,d,rfl,h1,h2,h3,h4⟩ ha;exact ⟨a,b,c,d,rfl,h1.mono ha,h2.mono ha,h3.mono ha,h4.mono ha⟩
end
section
open Go Go.RowKit
abbrev Lab:=Nat->Nat
theorem Bf {a b:Nat}  (c:Nat.ble a b=true:=by exact rfl):a<=b:=E9 c
theorem allOne {l:List Value}  (a:l.all (·.oneCell')=true:=by exact rfl):∀ u∈l,u.oneCell'=true:=J8.1 a
structure St (T:Nat->Prop) (w:World) (O:Lab) (w':World) (O':Lab):Prop where
  os:w'.os=w.os
  tape:w'.tape=w.tape
  output:w'.output=w.output
  size:w.heap.size<=w'.heap.size
  same:∀ k,k < w.heap.size->¬ T (O k)->w'.heap[k]?=w.heap[k]?/\O' k=O k
theorem St.refl (T:Nat->Prop) (w:World) (O:Lab):St T w O w O:=⟨rfl,rfl,rfl,P1 _,λ _ _ _=>⟨rfl,rfl⟩⟩
theorem St.comp {T c:Nat->Prop} {w w' a:World} {O O' b:Lab} (l:St T w O w' O') (k:St c w' O' a b) (f:∀ i,c i->T i):St T w O a b :=
  ⟨k.os.trans l.os,k.tape.trans l.tape,k.output.trans l.output,N6 l.size k.size,λ j hj d=>by
    obtain ⟨g,h2⟩:=l.same j hj d
    obtain ⟨h,k2⟩:=k.same j (H3 hj l.size) (by rw [h2];exact λ e=>d (f _ e))
    exact ⟨h.trans g,k2.trans h2⟩⟩
theorem St.an {T c:Nat->Prop} {w w' a:World} {O O' b:Lab} (h:St T w O w' O') (k:St c w' O' a b):St (λ j=>T j\/c j) w O a b :=
  ⟨k.os.trans h.os,k.tape.trans h.tape,k.output.trans h.output,N6 h.size k.size,λ j hj d=>by
    obtain ⟨f,h2⟩:=h.same j hj λ e=>d (.inl e)
    obtain ⟨g,k2⟩:=k.same j (H3 hj h.size) (by rw [h2];exact λ e=>d (.inr e))
    exact ⟨g.trans f,k2.trans h2⟩⟩
abbrev nT:Nat->Prop:=λ _=>False
abbrev eT (i:Nat):Nat->Prop:=λ k=>k=i
def Fr (i:Nat) (w:World) (O:Lab):Nat->Prop:=λ k=>k < w.heap.size/\O k=i
theorem Fr.lt {i:Nat} {w:World} {O:Lab}:∀ k,Fr i w O k->k < w.heap.size:=λ _ a=>a.1
def upA (A:Nat->Prop) (w w':World):Nat->Prop:=λ k=>A k\/w.heap.size<=k/\k < w'.heap.size
theorem FZ {w:World} {b o:Nat} {cs:List Value} (off n:Nat) (a:cellsAt w b o cs):cellsAt w b (o + off) ((cs.drop off).take n):=GF λ j v hv=>by
  rw [H4] at hv
  split at hv
  . rw [H7] at hv
    have:=Eg a _ _ hv
    rwa [Nat.add_assoc]
  . cases hv
section
variable {α : Type} [Rp α] {T : Nat → Prop} {i : Nat} {w w' : World} {O O' : Lab} {v : Value} {x : α} {xs : List α} {e : TypeId}
theorem St.fr (a:St T w O w' O') (hi:¬ T i):∀ k,Fr i w O k->Fr i w' O' k:=λ k hk=>by
  have b:=a.same k hk.1 (by rw [hk.2];exact hi)
  exact ⟨H3 hk.1 a.size,b.2.trans hk.2⟩
theorem St.agree (a:St T w O w' O') (hi:¬ T i):Agree (Fr i w O) w w':=λ k hk=>(a.same k hk.1 (by rw [hk.2];exact hi)).1
theorem Vb.st (b:Vb w (Fr i w O) v x) (a:St T w O w' O') (hi:¬ T i:=by decide):Vb w' (Fr i w' O') v x:=(b.agree (a.agree hi)).mono (a.fr hi)
def Rw (i:Nat) (w:World) (O:Lab) (e:TypeId) (v:Value) (xs:List α):Prop:=Own w 0 (Fr 0 w O) e v xs/\(∀ g,v.ownBlock=some g->O g=i)/\i≠0
theorem Rw.st (f:Rw i w O e v xs) (b:St T w O w' O') (c:¬ T 0:=by decide) (hi:¬ T i:=by decide):Rw i w' O' e v xs:=by
  obtain ⟨d,h2,h3⟩:=f
  have hl:∀ g,v.ownBlock=some g->w'.heap[g]?=w.heap[g]?/\O' g=i:=λ g a=>by
    have:=b.same g (d.lt g a).2 (by rw [h2 g a];exact hi)
    exact ⟨this.1,this.2.trans (h2 g a)⟩
  exact ⟨(d.agree (b.agree c) λ g a=>(hl g a).1).mono (b.fr c) λ g a hk=>h3 ((hl g a).2.symm.trans hk.2),λ g a=>(hl g a).2,h3⟩
theorem Rw.nil (i:Nat) (hi:i≠0):Rw (α:=α) i w O e (.slice none 0 0) []:=⟨Own.nil _ _ _ _,λ g a=>by simp [Value.ownBlock] at a,hi⟩
theorem Own.chunk {base:Nat} {F:Nat->Prop} (f:Own w base F e v xs):∃ A c cells,v=.slice A xs.length c/\xs.length<=c/\c<=9223372036854775807/\Chunks w F cells xs/\(0 < xs.length->∃ b o,A=some ⟨b,o,none⟩/\cellsAt w b o cells):=by
  obtain ⟨cells,a,h2,h3⟩:=f
  rcases a.2 with ⟨rfl,hn⟩|⟨g,cap,cur,rfl,hg,hh,hnc,hcm,hcs,hcur⟩
  . have:xs=[]:=B0 hn
    subst this
    exact ⟨none,0,[],rfl,P1 _,by omega,rfl,λ f=>by simp at f⟩
  . refine ⟨_,cap,cells,rfl,hnc,by simpa [maxLen] using hcm,h2,λ d=>⟨g,0,rfl,GF λ j u hu=>?_⟩⟩
    have hj:j < xs.length * Rp.size α:=by rw [<- h2.length];exact (B6.1 hu).1
    have:cur[j]?=some u:=by
      rw [<- hcur,H4,if_pos hj] at hu
      simpa using hu
    simp [World.cell?,hh,this]
def Rd (w:World) (F:Nat->Prop) (v:Value) (xs:List α):Prop :=
  ∃ A c cells,v=.slice A xs.length c/\xs.length<=c/\c<=9223372036854775807/\Chunks w F cells xs/\(0 < xs.length->∃ b o,A=some ⟨b,o,none⟩/\cellsAt w b o cells)
theorem Rw.rd (a:Rw i w O e v xs):Rd w (Fr 0 w O) v xs:=a.1.chunk
theorem Vb.rd {F:Nat->Prop} (d:Vb w F v xs):Rd w F v xs:=by
  obtain ⟨A,c,cells,h1,h2,h3,h4,h5⟩:=d.slice
  exact ⟨A,c,cells,h1,h2,h3,h4,λ a=>by obtain ⟨b,o,h6,_,h7⟩:=h5 a;exact ⟨b,o,h6,h7⟩⟩
theorem Rw.form (a:Rw i w O e v xs):∃ A c,v=.slice A xs.length c:=by
  obtain ⟨A,c,_,h1,_⟩:=a.rd
  exact ⟨A,c,h1⟩
theorem Rw.len {A:Option Addr} {m c:Nat} (g:Rw i w O e (.slice A m c) xs):m=xs.length/\m<=c/\c<=9223372036854775807:=by
  obtain ⟨d,c',_,h1,h2,h3,_⟩:=g.rd
  injection h1 with f a b
  subst a;subst b;exact ⟨rfl,h2,h3⟩
theorem Rw.relen {A:Option Addr} {m c:Nat} (a:Rw i w O e (.slice A m c) xs):Rw i w O e (.slice A xs.length c) xs:=by
  have:=a.len.1
  subst this
  exact a
theorem Rw.elem {A:Option Addr} {m c:Nat} (n:Rw i w O e (.slice A m c) xs) {k:Nat} {x:α} (d:xs[k]?=some x) :
    ∃ b o cs,A=some ⟨b,o,none⟩/\k < m/\cellsAt w b (o + k * Rp.size α) cs/\Rp.R w (Fr 0 w O) cs x:=by
  obtain ⟨l,c',cells,he,h1,h2,h3,h4⟩:=n.rd
  injection he with f g h
  subst f;subst g;subst h
  have hk:k < xs.length:=(B6.1 d).1
  obtain ⟨b,o,h5,h7⟩:=h4 (by omega)
  obtain ⟨j,cs,post,h8,h9,h10⟩:=h3.get d
  rw [h8] at h7
  have a:=(FX.1 (FX.1 h7).2).1
  rw [h9] at a
  exact ⟨b,o,cs,h5,hk,a,h10⟩
theorem Rw.elemF {A:Option Addr} {m c:Nat} (h:Rw i w O e (.slice A m c) xs) {k:Nat} {x:α} (f:xs[k]?=some x) :
    ∃ b o cs,A=some ⟨b,o,none⟩/\Fr i w O b/\k < m/\cellsAt w b (o + k * Rp.size α) cs/\Rp.R w (Fr 0 w O) cs x:=by
  obtain ⟨b,o,cs,h1,h2,h3,h4⟩:=h.elem f
  refine ⟨b,o,cs,h1,?_,h2,h3,h4⟩
  subst h1
  obtain ⟨g,cap,cells,sp,hv,_⟩:=h.1.open (by have:=(B6.1 f).1;omega)
  injection hv with a
  injection a with a
  injection a with a d
  subst d
  exact ⟨(h.1.lt b rfl).2,h.2.1 b rfl⟩
theorem Vb.elem' {F:Nat->Prop} {A:Option Addr} {m c:Nat} (d:Vb w F (.slice A m c) xs) {k:Nat} {x:α} (a:xs[k]?=some x) :
    ∃ b o cs,A=some ⟨b,o,none⟩/\k < m/\cellsAt w b (o + k * Rp.size α) cs/\Rp.R w F cs x:=by
  obtain ⟨b,o,cs,h1,_,h3,h4,h5⟩:=d.elem a
  exact ⟨b,o,cs,h1,h3,h4,h5⟩
theorem vMo {α:Type} [Rp α] {w:World} {O:Lab} {v:Value} {x:α} (a:Vb w (Fr 0 w O) v x):Vb w (All w) v x:=a.mono Fr.lt
theorem R0 (n:Int) (a:P9 n:=by decide):P9 n:=a
theorem Rw.all (a:Rw i w O e v xs):Vb w (All w) v xs:=a.1.vb.mono λ k hk=>by
  rcases hk with hk|hk
  . exact hk.1
  . exact (a.1.lt k hk).2
def Lc (i:Nat) (w:World) (O:Lab) (g:Nat) (t:TypeId) (cs:List Value):Prop:=Blk w g t cs/\O g=i
theorem Lc.st {g:Nat} {t:TypeId} {cs:List Value} (b:Lc i w O g t cs) (a:St T w O w' O') (hi:¬ T i:=by decide):Lc i w' O' g t cs:=by
  have:=a.same g b.1.lt (by rw [b.2];exact hi)
  exact ⟨b.1.keep this.1,this.2.trans b.2⟩
structure Bs (w0:World) (A:Nat->Prop) (w:World) (O:Lab):Prop where
  ext:Ext w0 w
  lab:∀ k,k < w0.heap.size->A k/\O k=0\/¬ A k/\O k=1
theorem Bs.st {b:World} {A:Nat->Prop} (f:Bs b A w O) (a:St T w O w' O') (c:¬ T 0:=by decide) (d:¬ T 1:=by decide):Bs b A w' O':=by
  have hk:∀ k,k < b.heap.size->w'.heap[k]?=w.heap[k]?/\O' k=O k:=λ k hk =>
    a.same k (H3 hk f.ext.size) (by rcases f.lab k hk with ⟨_,e⟩|⟨_,e⟩<;>rw [e]<;>assumption)
  exact ⟨⟨a.os.trans f.ext.os,a.tape.trans f.ext.tape,a.output.trans f.ext.output,N6 f.ext.size a.size,λ k hlt=>(hk k hlt).1.trans (f.ext.block k hlt)⟩,
    λ k hlt=>by rw [(hk k hlt).2];exact f.lab k hlt⟩
theorem enter {A:Nat->Prop} (hA:∀ k,A k->k < w.heap.size):∃ O,Bs w A w O/\∀ k,A k->Fr 0 w O k :=
  ⟨λ k=>@ite _ (A k) (Classical.propDecidable _) 0 1,⟨P7 _ _,λ k hk=>by
    by_cases a:A k
    . exact .inl ⟨a,if_pos a⟩
    . exact .inr ⟨a,if_neg a⟩⟩,λ k hk=>⟨hA k hk,if_pos hk⟩⟩
theorem Vb.zs {A:Nat->Prop} (b:Vb w A v x) (hA:∀ k,A k->k < w.heap.size) (a:Bs w A w' O'):Vb w' (Fr 0 w' O') v x :=
  (b.agree λ k hk=>a.ext.block k (hA k hk)).mono λ k hk=>⟨H3 (hA k hk) a.ext.size,by
    rcases a.lab k (hA k hk) with ⟨_,e⟩|⟨e,_⟩
    . exact e
    . exact absurd hk e⟩
theorem Bs.out {a:World} {A:Nat->Prop} (c:Bs a A w O):∀ k,Fr 0 w O k->upA A a w k:=λ k hk=>by
  rcases N2 k a.heap.size with hlt|hge
  . rcases c.lab k hlt with ⟨b,_⟩|⟨_,e⟩
    . exact .inl b
    . have:=hk.2;omega
  . exact .inr ⟨hge,hk.1⟩
def RowR (a w:World) (F:Nat->Prop) (e:TypeId) (v:Value) (xs:List α):Prop:=∃ G:Nat->Prop,(∀ k,G k->F k/\k < w.heap.size)/\Own w a.heap.size G e v xs
theorem Own.raise {base a:Nat} {F:Nat->Prop} (c:Own w base F e v xs) (hb:∀ g,v.ownBlock=some g->a<=g):Own w a F e v xs:=by
  obtain ⟨cells,b,h2,h3⟩:=c
  refine ⟨cells,⟨b.1,?_⟩,h2,h3⟩
  rcases b.2 with c|⟨g,cap,cur,rfl,hg,r⟩
  . exact .inl c
  . exact .inr ⟨g,cap,cur,rfl,hb g rfl,r⟩
theorem Rw.out {a:World} {A:Nat->Prop} (d:Rw i w O e v xs) (b:Bs a A w O) (hi:i≠1):RowR a w (upA A a w) e v xs :=
  ⟨Fr 0 w O,λ k hk=>⟨b.out k hk,hk.1⟩,d.1.raise λ g c=>by
    rcases N2 g a.heap.size with hlt|hge
    . have:=d.2.1 g c
      have:=d.2.2
      rcases b.lab g hlt with ⟨_,e⟩|⟨_,e⟩<;>omega
    . exact hge⟩
theorem RowR.nil {a:World} {F:Nat->Prop}:RowR (α:=α) a w F e (.slice none 0 0) []:=⟨λ _=>False,λ _ b=>b.elim,Own.nil _ _ _ _⟩
theorem Rw.freeze (a:Rw i w O e v xs):∃ O',St (eT i) w O w O'/\Vb w (Fr 0 w O') v xs:=by
  refine ⟨λ k=>if O k=i then 0 else O k,⟨rfl,rfl,rfl,P1 _,λ k _ hk=>⟨rfl,if_neg hk⟩⟩,a.1.vb.mono λ k hk=>?_⟩
  rcases hk with hk|hk
  . exact ⟨hk.1,by simp [hk.2]⟩
  . exact ⟨(a.1.lt k hk).2,if_pos (a.2.1 k hk)⟩
def Vall (w:World) (F:Nat->Prop):List Value->List α->Prop
  | [],[]=>True
  | v :: vs,x :: xs=>Vb w F v x/\Vall w F vs xs
  | _,_=>False
theorem Vall.chunks {F:Nat->Prop}:∀ {vs:List Value} {xs:List α},Vall w F vs xs->vs.length=xs.length/\Chunks w F (vs.flatMap λ v=>v.cells.toList) xs/\∀ v∈vs,v.cells.toList.length=Rp.size α
  | [],[],_=>⟨rfl,rfl,λ _ b=>by cases b⟩
  | [],_ :: _,b=>b.elim
  | _ :: _,[],b=>b.elim
  | v :: vs,x :: xs,b=>by
    obtain ⟨a,h2,h3⟩:=Vall.chunks b.2
    refine ⟨by simp [a],⟨v.cells.toList,_,by simp,b.1.cells,h2⟩,λ u hu=>?_⟩
    rcases M8.1 hu with rfl|hu
    . exact Rp.len b.1.cells
    . exact h3 u hu
theorem Vb.int {F:Nat->Prop} {n:Int} (b:Vb w F v n):v=.int .i64 n/\P9 n:=by
  obtain ⟨a,h2⟩:=b
  exact ⟨by simpa using a,h2⟩
theorem Vb.bool {F:Nat->Prop} {b:Bool} (a:Vb w F v b):v=.bool b:=by
  have:[v]=[.bool b]:=a
  simpa using this
theorem Vb.str {F:Nat->Prop} {s:ByteArray} (b:Vb w F v s):v=.string s/\s.size<=9223372036854775807:=by
  obtain ⟨a,h2⟩:=b
  exact ⟨by simpa using a,h2⟩
theorem Vb.ofAgg {F:Nat->Prop} {cs:List Value} (hb:Rp.isAgg α=true) (a:Rp.R w F cs x):Vb w F (.agg cs.toArray) x:=by
  unfold Vb;rw [hb];exact ⟨cs,rfl,a⟩
theorem vInt {F:Nat->Prop} {n:Int} (a:P9 n):Vb w F (.int .i64 n) n:=⟨rfl,a⟩
theorem vBool {F:Nat->Prop} {b:Bool}:Vb w F (.bool b) b:=rfl
theorem vStr {F:Nat->Prop} {s:ByteArray} (a:s.size<=9223372036854775807):Vb w F (.string s) s:=⟨rfl,a⟩
end
def T2 {α β:Type} [Rp α] [Rp β] (w:World) (F:Nat->Prop) (v:Value) (r:α×β):Prop:=∃ a b,v=.tuple #[a,b]/\Vb w F a r.1/\Vb w F b r.2
def T3 {α β d:Type} [Rp α] [Rp β] [Rp d] (w:World) (F:Nat->Prop) (v:Value) (r:α×β×d):Prop:=∃ a b c,v=.tuple #[a,b,c]/\Vb w F a r.1/\Vb w F b r.2.1/\Vb w F c r.2.2
def upO (O:Lab) (n:Nat) (f:Lab):Lab:=λ k=>if k < n then O k else f k
theorem Own.rw {α:Type} [Rp α] {i base:Nat} {w:World} {F:Nat->Prop} {O:Lab} {e:TypeId} {v:Value} {xs:List α} (c:Own w base F e v xs) (b:∀ k,F k->Fr 0 w O k) (a:∀ g,v.ownBlock=some g->O g=i) (hi:i≠0):Rw i w O e v xs :=
  ⟨(c.lower (P4 _)).mono b λ g hv hf=>hi ((a g hv).symm.trans hf.2),a,hi⟩
theorem Ff {O:Lab} {n k:Nat} {f:Lab} (a:n<=k):upO O n f k=f k:=if_neg (by omega)
theorem Fw {O:Lab} {n k:Nat} {f:Lab} (a:k < n):upO O n f k=O k:=if_pos a
theorem XS {w w':World} {O:Lab} (a:Ext w w'):upA (Fr 0 w O) w w'=Fr 0 w' (upO O w.heap.size λ _=>0):=by
  funext k
  apply propext
  constructor
  . rintro (h|h)
    . exact ⟨H3 h.1 a.size,(Fw h.1).trans h.2⟩
    . exact ⟨h.2,Ff h.1⟩
  . intro h
    rcases N2 k w.heap.size with hlt|hge
    . exact .inl ⟨hlt,(Fw hlt).symm.trans h.2⟩
    . exact .inr ⟨hge,h.1⟩
theorem Ab5 (z:Value) (n:Nat) (hz:z.cells=#[z]):(madeCells z.cells (n * 1)).toList=List.replicate n z:=by
  rw [hz,P5]
  apply List.ext_getElem
  . simp [madeCells]
  . intro i a b
    simp [madeCells,Nat.mod_one]
theorem Ext.st {w w':World} (a:Ext w w') (O f:Lab):St nT w O w' (upO O w.heap.size f) :=
  ⟨a.os,a.tape,a.output,a.size,λ k hk _=>⟨a.block k hk,Fw hk⟩⟩
theorem New.lc {w w':World} {t:TypeId} {cs:List Value} (a:New w w' t cs) (O:Lab) (i:Nat):St nT w O w' (upO O w.heap.size λ _=>i)/\Lc i w' (upO O w.heap.size λ _=>i) w.heap.size t cs :=
  ⟨a.ext.st O _,a.blk,Ff (P1 _)⟩
theorem Upd.st {w w':World} {g i:Nat} {t:TypeId} {cs:List Value} {O:Lab} (b:Upd w w' g t cs) (a:O g=i):St (eT i) w O w' O :=
  ⟨b.os,b.tape,b.output,Nat.le_of_eq b.size.symm,λ k _ hk=>⟨b.other k λ e=>hk (by rw [e];exact a),rfl⟩⟩
section
variable {P : Program} {n : Nat} {ops : Array Oper} {Q : Q8} {rest : List Oper} {l : Env} {w : World} {d d1 d2 : Tmp} {ty ty2 : TypeId} {pos pos2 : String} {aft aft2 : Array Edge}
theorem BL (i:Nat) (O:Lab) {t:TypeId} {z:Value} {size bytes:Nat} [TInfo P t z size bytes] 
    (b:∀ g w' O',St nT w O w' O'->Lc i w' O' g t z.cells.toList->owp P n ops Q rest ((d,.pointer (some ⟨g,0,none⟩)) :: l) w') (hd:Nat.blt d n=true:=by exact rfl):owp P n ops Q (⟨some d,.alloc t,ty,pos,aft,none⟩ :: rest) l w :=
  FC hd λ w' a=>b _ w' _ (a.lc O i).1 (a.lc O i).2
theorem Ft (i:Nat) (O:Lab) {t:TypeId} {x:Operand} {v:Value} (b:opv l x=some v) 
    (c:∀ g w' O',St nT w O w' O'->Lc i w' O' g t v.cells.toList->owp P n ops Q rest ((d,.pointer (some ⟨g,0,none⟩)) :: l) w') (hd:Nat.blt d n=true:=by exact rfl):owp P n ops Q (⟨some d,.box t x,ty,pos,aft,none⟩ :: rest) l w :=
  EI b (hd:=hd) λ w' a=>c _ w' _ (a.lc O i).1 (a.lc O i).2
theorem AT {i:Nat} {O:Lab} {t:TypeId} {z:Value} {size bytes:Nat} [TInfo P t z size bytes] {x y:Operand} {g o:Nat} {c:TypeId} {v:Value} {cs:List Value} (a:Lc i w O g c cs) (e:opv l x=some (.pointer (some ⟨g,o,none⟩))) (f:opv l y=some v)
    (b:v.cells.toList.length=size) (hl:o + size<=cs.length) (h:∀ u∈v.cells.toList,u.oneCell'=true)
    (j:∀ w',St (eT i) w O w' O->Lc i w' O g c (Q6 cs o v.cells.toList)->owp P n ops Q rest l w'):owp P n ops Q (⟨none,.store t x y,ty,pos,aft,none⟩ :: rest) l w :=
  CI e f a.1 b hl h λ w' d=>j w' (d.st a.2) ⟨d.blk,a.2⟩
theorem DW {α:Type} [Rp α] (i:Nat)  (O:Lab) {t e:TypeId} [TSlice P t e] {z:Value} {size bytes a:Nat} [TInfo P e z size bytes] {ps:List (Nat×Operand)} {vs:List Value} {xs:List α} (b:size=Rp.size α)  (h:R6 l (ps.map (·.2))=some vs) (c:a=xs.length)
    (hv:Vall w (Fr 0 w O) vs xs)   (hd:Nat.blt d n=true)
    (p:∀ g w' O',St nT w O w' O'->Rw i w' O' e (.slice (some ⟨g,0,none⟩) xs.length a) xs->owp P n ops Q rest ((d,.slice (some ⟨g,0,none⟩) xs.length a) :: l) w') (hi:i≠0:=by decide) (hk:Aad 0 ps=true:=by exact rfl) (hz:a * size<=16777216:=by decide) (hm:a<=9223372036854775807:=by decide):owp P n ops Q (⟨some d,.buildSlice t a ps.toArray,ty,pos,aft,none⟩ :: rest) l w:=by
  subst b;subst c
  obtain ⟨j,h2,h3⟩:=hv.chunks
  refine Fc (hk:=hk) h j h3 (hz:=hz) hd λ w' f=>p _ w' _ (f.ext.st O λ _=>i) ?_
  have k:=f.ext.st O λ _=>i
  have m:Own w' w.heap.size (Fr 0 w O) e (.slice (some ⟨w.heap.size,0,none⟩) xs.length xs.length) xs:=Own.made f (h2.agree (f.ext.agree Fr.lt)) rfl (λ p=>M9 _ p.1) hm
  exact m.rw (k.fr (λ p=>p)) (λ g o=>by
    have:w.heap.size=g:=by simpa [Value.ownBlock] using o
    subst this
    exact Ff (P1 _)) hi
theorem Gp {α:Type} [Rp α] (i:Nat)  (O:Lab) {t e:TypeId} [TSlice P t e] {z:Value} {size bytes:Nat} [TInfo P e z size bytes] {x y:Operand} {k p:IntKind} {m:Nat} {a:Int} {z0:α} (b:size=Rp.size α) (q:Rp.size α=1) (hz1:z.cells=#[z]) (r:opv l x=some (.int k a)) (s:opv l y=some (.int p a)) (u:a=(m:Int))
    (hz0:Vb w (Fr 0 w O) z z0) (hm:bytes * m<=281474976710656) (c:m<=9223372036854775807) 
    (D:∀ g w' O',St nT w O w' O'->Rw i w' O' e (.slice (some ⟨g,0,none⟩) (List.replicate m z0).length m) (List.replicate m z0)->owp P n ops Q rest ((d,.slice (some ⟨g,0,none⟩) (List.replicate m z0).length m) :: l) w') (hi:i≠0:=by decide) (hd:Nat.blt d n=true:=by exact rfl):owp P n ops Q (⟨some d,.makeSlice t x y,ty,pos,aft,none⟩ :: rest) l w:=by
  subst b;subst u
  refine Mn r s hm c hd λ w' f=>?_
  have o:=f.ext.st O λ _=>i
  have hc:(madeCells z.cells (m * Rp.size α)).toList=List.replicate m z:=by rw [q];exact Ab5 z m hz1
  rw [hc] at f
  have v:Rp.R w (Fr 0 w O) [z] z0:=by
    have:=hz0.cells
    rwa [hz1] at this
  have h:∀ j,Chunks w (Fr 0 w O) (List.replicate j z) (List.replicate j z0):=λ j=>by
    induction j with
    | zero=>rfl
    | succ j A=>exact ⟨[z],List.replicate j z,rfl,v,A⟩
  have B:Own w' w.heap.size (Fr 0 w O) e (.slice (some ⟨w.heap.size,0,none⟩) m m) (List.replicate m z0):=Own.made f ((h m).agree (f.ext.agree Fr.lt)) (by simp) (λ D=>M9 _ D.1) c
  have:=D _ w' _ o (by
    rw [F0]
    exact B.rw (o.fr (λ D=>D)) (λ g C=>by
      have:w.heap.size=g:=by simpa [Value.ownBlock] using C
      subst this
      exact Ff (P1 _)) hi)
  rwa [F0] at this
theorem EL {α:Type} [Rp α] {i:Nat} {O:Lab} {t e:TypeId} [TSlice P t e] {z:Value} {size bytes:Nat} [TInfo P e z size bytes] (b:size=Rp.size α) {x y:Operand} {v u:Value} {xs ys:List α} (h:Rw i w O e v xs) (hu:Rd w (Fr 0 w O) u ys) (o:opv l x=some v) (p:opv l y=some u)
     (hb:(xs.length + ys.length) * bytes<=140737488355328) (j:xs.length + ys.length<=9223372036854775807) (hd:Nat.blt d n=true)
    (C:∀ A c w' O',St (eT i) w O w' O'->Rw i w' O' e (.slice A (xs ++ ys).length c) (xs ++ ys)->owp P n ops Q rest ((d,.slice A (xs ++ ys).length c) :: l) w') (hz0:0 < size:=by decide) :
    owp P n ops Q (⟨some d,.call { callee:=.builtin .append,args:=#[x,y],argTypes:=#[t,t] },ty,pos,aft,none⟩ :: rest) l w:=by
  subst b
  obtain ⟨A,c,cells,rfl,h1,h2,h3,h4⟩:=hu
  refine GG o p h.1 Fr.lt (P4 _) h3 h4 hz0 hb j hd λ B w' m f hat=>?_
  have q:St (eT i) w O w' (upO O w.heap.size λ _=>i):=⟨f.os,f.tape,f.output,f.size,λ k hk r=>⟨f.block k hk λ he=>r (h.2.1 k he.symm),Fw hk⟩⟩
  obtain ⟨s,c',_,rfl,_⟩:=m.chunk
  refine C s c' w' _ q (m.rw (λ k hk=>⟨H3 hk.1 f.size,(Fw hk.1).trans hk.2⟩) (λ g a=>?_) h.2.2)
  rcases hat with hat|hat
  . exact (Fw (h.1.lt g (hat ▸ a)).2).trans (h.2.1 g (hat ▸ a))
  . rw [hat] at a
    injection a with a
    subst a
    exact Ff (P1 _)
theorem FE {α:Type} [Rp α] {i:Nat} {O:Lab} {t e:TypeId} [TSlice P t e] {z:Value} {size bytes:Nat} [TInfo P e z size bytes] (f:size=Rp.size α) {x y:Operand} {v u:Value} {xs:List α} {a:α} (m:Rw i w O e v xs) (hu:Vb w (Fr 0 w O) u a)
    (o:∀ g,opv ((d1,.slice (some ⟨g,0,none⟩) 1 1) :: l) x=some v) (p:opv l y=some u)
      (hb:(xs.length + [a].length) * bytes<=140737488355328) (h:xs.length + [a].length<=9223372036854775807) (hd:Nat.blt d1 n=true/\Nat.blt d2 n=true)
    (H:∀ g A c w' O',St (eT i) w O w' O'->Rw i w' O' e (.slice A (xs ++ [a]).length c) (xs ++ [a])->owp P n ops Q rest ((d2,.slice A (xs ++ [a]).length c) :: (d1,.slice (some ⟨g,0,none⟩) 1 1) :: l) w') (hz0:0 < size:=by decide) (hz1:size<=1000:=by decide) :
    owp P n ops Q (⟨some d1,.buildSlice t 1 #[(0,y)],ty,pos,aft,none⟩ :: ⟨some d2,.call { callee:=.builtin .append,args:=#[x,.tmp d1],argTypes:=#[t,t] },ty2,pos2,aft2,none⟩ :: rest) l w:=by
  subst f
  have hi:=m.2.2
  refine DW (i + 1) (hi:=(by omega)) O (ps:=[(0,y)]) (vs:=[u]) (xs:=[a]) rfl (by simp [R6,p]) rfl ⟨hu,trivial⟩ (hz:=(by omega)) (hm:=(by omega)) hd.1 λ g F G b q=>?_
  have j:=m.st b (λ H=>H) (λ H=>H)
  refine EL rfl j q.rd (o g) (by simp [opv,lk]) (hz0:=hz0) hb h hd.2 λ A c r s d B=>H g A c r s ?_ B
  refine ⟨d.os.trans b.os,d.tape.trans b.tape,d.output.trans b.output,N6 b.size d.size,λ k hk C=>?_⟩
  obtain ⟨D,e2⟩:=b.same k hk (λ H=>H)
  obtain ⟨E,e4⟩:=d.same k (H3 hk b.size) (by rw [e2];exact C)
  exact ⟨E.trans D,e4.trans e2⟩
theorem YL {α:Type} [Rp α] {i:Nat} {O:Lab} {t e:TypeId} {z:Value} {size bytes:Nat} [TInfo P t z size bytes] (f:size=Rp.size α) {x y:Operand} {b o k m c:Nat} {u:Value} {a:α} {xs:List α} (g:Rw i w O e (.slice (some ⟨b,o,none⟩) m c) xs) (hu:Vb w (Fr 0 w O) u a)
    (q:opv l x=some (.pointer (some ⟨b,o + k * size,none⟩))) (r:opv l y=some u) (hk:k < xs.length)
    (D:∀ w',St (eT i) w O w' O->Rw i w' O e (.slice (some ⟨b,o,none⟩) m c) (xs.set k a)->owp P n ops Q rest l w'):owp P n ops Q (⟨none,.store t x y,ty,pos,aft,none⟩ :: rest) l w:=by
  obtain ⟨C,cap,cells,sp,hv,_⟩:=g.1.open (by omega)
  injection hv with d s v
  injection d with d
  injection d with d j
  subst j
  refine Md f q r g.1 hk hu λ w' A h hz=>?_
  have p:St (eT i) w O w' O:=⟨h.os,h.tape,h.output,h.size,λ k hk B=>⟨h.block k hk λ he=>B (g.2.1 k he),rfl⟩⟩
  exact D w' p (A.rw (p.fr (λ D=>g.2.2 D.symm)) g.2.1 g.2.2)
theorem Fi {α:Type} [Rp α] {i:Nat} {O:Lab} {t e:TypeId} {z:Value} {size bytes:Nat} [TInfo P t z size bytes] (d:size=Rp.size α) {x y:Operand} {b o k m c:Nat} {A:Option Addr} {u:Value} {a:α} {xs:List α} (f:Rw i w O e (.slice A m c) xs) (hu:Vb w (Fr 0 w O) u a) (hA:A=some ⟨b,o,none⟩)
    (g:opv l x=some (.pointer (some ⟨b,o + k * size,none⟩))) (h:opv l y=some u) (hk:k < xs.length)
    (j:∀ w',St (eT i) w O w' O->Rw i w' O e (.slice A m c) (xs.set k a)->owp P n ops Q rest l w'):owp P n ops Q (⟨none,.store t x y,ty,pos,aft,none⟩ :: rest) l w:=by
  subst hA
  exact YL d f hu g h hk j
theorem KC:∀ (vs c r:List Value) (k:Nat),Q6 (c ++ r) (c.length + k) vs=c ++ Q6 r k vs
  | [],_,_,_=>rfl
  | v :: vs,c,r,k=>by
    simp only [Q6]
    rw [List.set_append_right _ _ (by omega),show c.length + k - c.length=k from by omega,show c.length + k + 1=c.length + (k + 1) from by omega,KC vs]
theorem Ox {α:Type} [Rp α] {i:Nat} {O:Lab} {t e:TypeId} {z:Value} {size bytes:Nat} [TInfo P t z size bytes] {x y:Operand} {b o k off m c:Nat} {A:Option Addr} {u:Value} {a a':α} {xs:List α} (g:Rw i w O e (.slice A m c) xs) (hA:A=some ⟨b,o,none⟩) (hk:xs[k]?=some a)
    (L:opv l x=some (.pointer (some ⟨b,o + k * Rp.size α + off,none⟩))) (M:opv l y=some u) (p:u.cells.toList.length=size) (H:off + size<=Rp.size α) (N:∀ v∈u.cells.toList,v.oneCell'=true)
    (h:∀ I,Rp.R w (Fr 0 w O) I a->Rp.R w (Fr 0 w O) (Q6 I off u.cells.toList) a')
    (V:∀ w',St (eT i) w O w' O->Rw i w' O e (.slice A m c) (xs.set k a')->owp P n ops Q rest l w'):owp P n ops Q (⟨none,.store t x y,ty,pos,aft,none⟩ :: rest) l w:=by
  subst hA
  have q:k < xs.length:=(B6.1 hk).1
  obtain ⟨U,cap,cells,sp,hv,hg,hF,hb,hc,hl,r,s,hlen⟩:=g.1.open (by omega)
  injection hv with d B C
  injection d with d
  injection d with d D
  subst d;subst B;subst C;subst D
  obtain ⟨f,cs,post,e1,e2,J⟩:=hc.get hk
  have S:=Rp.len J
  have E:Q6 (cells ++ sp) (0 + k * Rp.size α + off) u.cells.toList=Q6 cells (k * Rp.size α) (Q6 cs off u.cells.toList) ++ sp:=by
    have T:Q6 (f ++ (cs ++ post)) f.length (Q6 cs off u.cells.toList)=f ++ (Q6 cs off u.cells.toList ++ post):=GR _ _ _ _ (by rw [FY])
    rw [e1,<- e2,T,N4,I1,I1,KC,Gu _ _ _ _ (by omega)]
    simp
  refine CI L M hb p (by rw [H2,e1,H2,H2];omega) N λ w' j=>?_
  rw [E] at j
  have G:Agree (Fr 0 w O) w w':=j.agree hF
  have K:St (eT i) w O w' O:=j.st (g.2.1 b rfl)
  refine V w' K (Own.rw (base:=0) (F:=Fr 0 w O) ?_ (K.fr (λ V=>g.2.2 V.symm)) g.2.1 g.2.2)
  have:=Own.close (w:=w') (cap:=c) hg hF j.blk ((hc.set q (h cs J)).agree G) (by simpa using r) s (by rw [H2,FY,<- H2];exact hlen)
  rwa [L5] at this
theorem Gw {f:FuncId} [Callable P f] {xs:List Operand} {vs:List Value} {b:Array TypeId} {O:Lab} {R:World->(Nat->Prop)->Value->Prop} (hc:Fn P f vs w λ v w'=>Ext w w'/\R w' (upA (Fr 0 w O) w w') v) (c:R6 l xs=some vs) (hd:Nat.blt d n=true)
    (e:∀ v w' O',St nT w O w' O'->R w' (Fr 0 w' O') v->owp P n ops Q rest ((d,v) :: l) w'):owp P n ops Q (⟨some d,.call { callee:=.value (.func f),args:=xs.toArray,argTypes:=b },ty,pos,aft,none⟩ :: rest) l w :=
  BD c (hd:=hd) hc λ v w' ⟨a,hR⟩=>e v w' (upO O w.heap.size λ _=>0) (a.st O _) (by rwa [XS a] at hR)
theorem WB {α:Type} [Rp α] {r:α} {f:FuncId} [Callable P f] {xs:List Operand} {vs:List Value} {a:Array TypeId} {O:Lab} (hc:Fn P f vs w λ v w'=>Ext w w'/\Vb w' (upA (Fr 0 w O) w w') v r) (b:R6 l xs=some vs) (hd:Nat.blt d n=true)
    (c:∀ v w' O',St nT w O w' O'->Vb w' (Fr 0 w' O') v r->owp P n ops Q rest ((d,v) :: l) w'):owp P n ops Q (⟨some d,.call { callee:=.value (.func f),args:=xs.toArray,argTypes:=a },ty,pos,aft,none⟩ :: rest) l w :=
  Gw (R:=λ w' F v=>Vb w' F v r) hc b hd c
theorem LH {f:FuncId} [Callable P f] {xs:List Operand} {vs:List Value} {a:Array TypeId} {O:Lab} {A:Nat->Prop} {R:World->(Nat->Prop)->Value->Prop} (hc:Fn P f vs w λ v w'=>Ext w w'/\R w' (upA A w w') v) (b:R6 l xs=some vs) (hd:Nat.blt d n=true)
    (e:∀ v w' O',St nT w O w' O'->R w' (upA A w w') v->owp P n ops Q rest ((d,v) :: l) w'):owp P n ops Q (⟨some d,.call { callee:=.value (.func f),args:=xs.toArray,argTypes:=a },ty,pos,aft,none⟩ :: rest) l w :=
  BD b (hd:=hd) hc λ v w' ⟨c,hR⟩=>e v w' (upO O w.heap.size λ _=>0) (c.st O _) hR
theorem Du {α:Type} [Rp α] {r:α} {f:FuncId} [Callable P f] {xs:List Operand} {vs:List Value} {a:Array TypeId} {O:Lab} (hc:Fn P f vs w λ v w'=>Ext w w'/\Vb w' (upA (All w) w w') v r) (b:R6 l xs=some vs) 
    (c:∀ v w' O',St nT w O w' O'->Vb w' (upA (All w) w w') v r->owp P n ops Q rest ((d,v) :: l) w') (hd:Nat.blt d n=true:=by exact rfl):owp P n ops Q (⟨some d,.call { callee:=.value (.func f),args:=xs.toArray,argTypes:=a },ty,pos,aft,none⟩ :: rest) l w :=
  LH (A:=All w) (R:=λ w' F v=>Vb w' F v r) hc b hd c
theorem PM {f:FuncId} [Callable P f] {y:Operand} {xs:List Operand} {vs:List Value} {b:Array TypeId} {O:Lab} {A:Nat->Prop} {R:World->(Nat->Prop)->Value->Prop} (hc:Fn P f vs w λ v w'=>Ext w w'/\R w' (upA A w w') v) (c:opv l y=some (.func (.func f) #[] #[])) (e:R6 l xs=some vs) (hd:Nat.blt d n=true)
    (g:∀ v w' O',St nT w O w' O'->R w' (upA A w w') v->owp P n ops Q rest ((d,v) :: l) w'):owp P n ops Q (⟨some d,.call { callee:=.value y,args:=xs.toArray,argTypes:=b },ty,pos,aft,none⟩ :: rest) l w :=
  Jc (caps:=[]) (R:=λ v w'=>Ext w w'/\R w' (upA A w w') v) c e hd (by rw [L4];exact hc) λ v w' a=>g v w' (upO O w.heap.size λ _=>0) (a.1.st O _) a.2
theorem Tp {f:FuncId} [Callable P f] {xs:List Operand} {vs:List Value} {a:Array TypeId} {O:Lab} {i:Nat} {R:World->Lab->Prop} (hc:Fn P f vs w λ _ w'=>∃ O',St (eT i) w O w' O'/\R w' O') (b:R6 l xs=some vs) (hd:Nat.blt d n=true)
    (c:∀ v w' O',St (eT i) w O w' O'->R w' O'->owp P n ops Q rest ((d,v) :: l) w'):owp P n ops Q (⟨some d,.call { callee:=.value (.func f),args:=xs.toArray,argTypes:=a },ty,pos,aft,none⟩ :: rest) l w :=
  BD b (hd:=hd) hc λ v w' ⟨O',hS,hR⟩=>c v w' O' hS hR
theorem FF {α:Type} [Rp α] (i:Nat)  {f:FuncId} [Callable P f] {xs:List Operand} {vs:List Value} {j:Array TypeId} {O:Lab} {e:TypeId} {r:List α} (hc:Fn P f vs w λ v w'=>Ext w w'/\RowR w w' (upA (Fr 0 w O) w w') e v r) (m:R6 l xs=some vs) (hd:Nat.blt d n=true)
    (q:∀ A c w' O',St nT w O w' O'->Rw i w' O' e (.slice A r.length c) r->owp P n ops Q rest ((d,.slice A r.length c) :: l) w') (hi:i≠0:=by decide):owp P n ops Q (⟨some d,.call { callee:=.value (.func f),args:=xs.toArray,argTypes:=j },ty,pos,aft,none⟩ :: rest) l w :=
  BD m (hd:=hd) hc λ v w' ⟨o,G,b,ho⟩=>by
    obtain ⟨A,c,_,rfl,_⟩:=ho.chunk
    have p:=o.st O λ k=>if (Value.slice A r.length c).ownBlock=some k then i else 0
    refine q A c w' _ p ⟨(ho.lower (P4 _)).mono (λ k hk=>⟨(b k hk).2,?_⟩) (λ g a hf=>?_),λ g a=>?_,hi⟩
    . obtain ⟨_,_,_,hno⟩:=ho
      rcases (b k hk).1 with h1|h1
      . exact (Fw h1.1).trans h1.2
      . rw [Ff h1.1,if_neg λ he=>hno k he hk]
    . have h1:=(ho.lt g a).1
      have h:=hf.2
      rw [Ff h1,if_pos a] at h
      exact hi h
    . rw [Ff (ho.lt g a).1,if_pos a]
end
end
section
open Go Go.RowKit
def bnd {α β:Type} (x:Option α) (f:α->Option β):Option β:=match x with
  | some a=>f a
  | none=>none
theorem Ar {α β:Type} (a:α) (f:α->Option β):bnd (some a) f=f a:=rfl
theorem bs {α β:Type} {x:Option α} {f:α->Option β} {r:β} (b:bnd x f=some r):∃ a,x=some a/\f a=some r:=by
  cases x with
  | none=>cases b
  | some a=>exact ⟨a,rfl,b⟩
theorem iT {α:Type} {x y r:α} (a:(if true=true then x else y)=r):x=r:=a
theorem iF {α:Type} {x y r:α} (a:(if false=true then x else y)=r):y=r:=a
theorem ip {α:Type} {p:Prop} [Decidable p] {x y r:α} (b:(if p then x else y)=r) (a:p):x=r:=by rwa [if_pos a] at b
theorem im {α:Type} {p:Prop} [Decidable p] {x y r:α} (b:(if p then x else y)=r) (a:¬ p):y=r:=by rwa [if_neg a] at b
theorem im' {α:Type} {b:Bool} {x y r:α} (c:(if b=true then x else y)=r) (a:b=false):y=r:=by rwa [a] at c
theorem EM {α:Type} {p:Prop} [Decidable p] {x y:α} (b:(if p then some x else none)=some y):p/\x=y:=by
  by_cases a:p
  . rw [if_pos a] at b;exact ⟨a,L1 b⟩
  . rw [if_neg a] at b;cases b
theorem sm {α:Type} {x y:α} (a:some x=some y):x=y:=L1 a
instance decI64 (a:Int):Decidable (P9 a):=by unfold P9;exact inferInstance
def Q1 (a:Int):Option Int:=if P9 a then some a else none
theorem Jf {a r:Int} (b:Q1 a=some r):a=r/\P9 a:=by
  unfold Q1 at b
  split at b
  . exact ⟨sm b,by assumption⟩
  . cases b
theorem BE {a r:Int} (b:Q1 a=some r):P9 r:=by
  obtain ⟨rfl,h2⟩:=Jf b
  exact h2
theorem BZ {a:Int} (b:P9 a):Q1 a=some a:=if_pos b
def wr (z:Int):Int:=IntKind.i64.wrap z
theorem XT (z:Int):P9 (wr z):=by
  unfold wr
  rw [IntKind.wrap_i64]
  unfold P9
  omega
def atI {α:Type} (xs:List α) (i:Int):Option α:=if 0<=i then xs[i.toNat]? else none
theorem HI {α:Type} {xs:List α} {i:Int} {x:α} (a:atI xs i=some x):∃ j:Nat,i=(j:Int)/\xs[j]?=some x:=by
  unfold atI at a
  split at a
  . exact ⟨i.toNat,by omega,a⟩
  . cases a
theorem Br {α:Type} {xs:List α} {i:Int} {x:α} (a:atI xs i=some x):i=(i.toNat:Int)/\xs[i.toNat]?=some x:=by
  unfold atI at a
  split at a
  . exact ⟨by omega,a⟩
  . cases a
theorem AD {α:Type} {xs:List α} {k:Nat} {x:α} (a:xs[k]?=some x):k < xs.length:=(B6.1 a).1
theorem Bd {α:Type} {xs:List α} {j:Nat}:atI xs (j:Int)=xs[j]?:=by unfold atI;rw [if_pos (by omega)];simp
def R8 {α:Type} (bytes:Nat) (xs ys:List α):Option (List α):=if (xs.length + ys.length) * bytes<=140737488355328/\xs.length + ys.length<=9223372036854775807 then some (xs ++ ys) else none
theorem Bt {α:Type} {bytes:Nat} {xs ys r:List α} (a:R8 bytes xs ys=some r):r=xs ++ ys/\(xs.length + ys.length) * bytes<=140737488355328/\xs.length + ys.length<=9223372036854775807:=by
  unfold R8 at a
  split at a
  . rename_i hc
    exact ⟨(sm a).symm,hc⟩
  . cases a
theorem Cu {α:Type} {bytes:Nat} {xs ys:List α} (a:(xs.length + ys.length) * bytes<=140737488355328) (hb:xs.length + ys.length<=9223372036854775807):R8 bytes xs ys=some (xs ++ ys):=if_pos ⟨a,hb⟩
def mkI {α:Type} (bytes:Nat) (z:α) (n:Int):Option (List α):=if 0<=n/\bytes * n.toNat<=281474976710656/\n<=9223372036854775807 then some (List.replicate n.toNat z) else none
theorem EN {α:Type} {bytes:Nat} {z:α} {n:Int} {r:List α} (a:mkI bytes z n=some r):∃ m:Nat,n=(m:Int)/\bytes * m<=281474976710656/\m<=9223372036854775807/\r=List.replicate m z:=by
  unfold mkI at a
  split at a
  . rename_i hc
    exact ⟨n.toNat,by omega,hc.2.1,by omega,(sm a).symm⟩
  . cases a
theorem Ga {α:Type} {bytes:Nat} {z:α} {m:Nat} (b:bytes * m<=281474976710656) (a:m<=9223372036854775807):mkI bytes z (m:Int)=some (List.replicate m z):=by unfold mkI;rw [if_pos ⟨by omega,by simpa using b,by omega⟩];simp
def Aby (a b:Int):Option Int:=if 0<=a/\0 < b then some (a % b) else none
theorem Tq {a b r:Int} (c:Aby a b=some r):0<=a/\0 < b/\r=a % b:=by
  unfold Aby at c
  split at c
  . rename_i hc
    exact ⟨hc.1,hc.2,(sm c).symm⟩
  . cases c
theorem UQ {a b:Int} (c:0<=a) (d:0 < b) (e:P9 a):P9 (a % b):=by
  have:=Int.emod_nonneg a (show b≠0 by omega)
  have f:a % b<=a:=by
    rcases Int.lt_or_le a b with h|h
    . rw [Int.emod_eq_of_lt c h];exact P3 _
    . have:=Int.emod_lt_of_pos a d;omega
  unfold P9 at *;omega
theorem WC {a b r:Int} (e:Aby a b=some r) (c:P9 a):P9 r:=by
  obtain ⟨d,h2,rfl⟩:=Tq e
  exact UQ d h2 c
def Abx (a b:Int):Option Int:=if 0<=a/\0 < b then some (a / b) else none
theorem Ts {a b r:Int} (c:Abx a b=some r):0<=a/\0 < b/\r=a / b:=by
  unfold Abx at c
  split at c
  . rename_i hc
    exact ⟨hc.1,hc.2,(sm c).symm⟩
  . cases c
theorem UR {a b:Int} (c:0<=a) (d:P9 a) (hb:0 < b):P9 (a / b):=by
  have:=Int.ediv_le_self b c
  have:=Int.ediv_nonneg c (show 0<=b by omega)
  unfold P9 at *;omega
theorem WD {a b r:Int} (e:Abx a b=some r) (c:P9 a):P9 r:=by
  obtain ⟨d,h2,rfl⟩:=Ts e
  exact UR d c h2
def Abs (s:ByteArray) (q:Int):Option Int:=if h:0<=q/\q.toNat < s.size then some ((s[q.toNat]'h.2).toNat:Int) else none
theorem Tt {s:ByteArray} {q c:Int} (a:Abs s q=some c):∃ j:Nat,q=(j:Int)/\∃ hlt:j < s.size,c=((s[j]'hlt).toNat:Int):=by
  unfold Abs at a
  split at a
  . rename_i hc
    exact ⟨q.toNat,by omega,hc.2,(sm a).symm⟩
  . cases a
theorem US {s:ByteArray} {q c:Int} (a:Abs s q=some c):P9 c:=by
  obtain ⟨j,_,hlt,rfl⟩:=Tt a
  have:=UInt8.toNat_lt (s[j]'hlt)
  unfold P9;omega
theorem NT {α:Type} {p:Option α} (b:p.isNone=false):∃ a,p=some a:=by
  cases p with
  | none=>cases b
  | some a=>exact ⟨a,rfl⟩
structure Byt where
  n:Int
  lo:0<=n
  hi:n<=255
theorem Byt.rng (x:Byt):P9 x.n:=by have:=x.lo;have:=x.hi;unfold P9;omega
instance:Rp Byt where
  isAgg:=false
  size:=1
  R _ _ cs x:=cs=[.int .u8 x.n]
  len:=by rintro w F cs x rfl;rfl
  one:=by
    rintro w F cs x rfl u hu
    have:u=.int .u8 x.n:=by simpa using hu
    subst this;rfl
  agree:=λ a _=>a
  mono:=λ a _=>a
theorem vByte {w:World} {F:Nat->Prop} {x:Byt}:Vb w F (.int .u8 x.n) x:=rfl
def Aab (a:Int):Option Nat:=if 0<=a then some a.toNat else none
theorem KW {a:Int} {n:Nat} (b:Aab a=some n):a=(n:Int):=by
  unfold Aab at b
  split at b
  . have:=sm b;omega
  . cases b
theorem NU {n:Nat}:Aab (n:Int)=some n:=by unfold Aab;rw [if_pos (by omega)];simp
theorem LI {a:Int} {n:Nat} (c:a=(n:Int)) (b:P9 a):n<=9223372036854775807:=by unfold P9 at b;omega
theorem rngNat' {n:Nat} (a:P9 (n:Int)):n<=9223372036854775807:=by unfold P9 at a;omega
def Aau {α:Type} (xs:List α) (a hi:Int):Option (List α):=if 0<=a/\a<=hi/\hi<=xs.length then some ((xs.take hi.toNat).drop a.toNat) else none
theorem Tu {α:Type} {xs r:List α} {c hi:Int} (d:Aau xs c hi=some r):∃ a b:Nat,c=(a:Int)/\hi=(b:Int)/\a<=b/\b<=xs.length/\r=(xs.take b).drop a:=by
  unfold Aau at d
  split at d
  . rename_i hc
    exact ⟨c.toNat,hi.toNat,by omega,by omega,by omega,by omega,(sm d).symm⟩
  . cases d
theorem rngNat {n:Nat} (a:n<=9223372036854775807):P9 (n:Int):=by unfold P9;omega
theorem U9 {α:Type} {xs:List α} {k:Nat} {x:α} (a:xs[k]?=some x) (hl:xs.length<=9223372036854775807):P9 (k:Int):=by
  have:=AD a
  unfold P9;omega
theorem AaW {k n:Nat} (a:k < n) (hl:n<=9223372036854775807):P9 (k:Int):=by unfold P9;omega
theorem rngMin {a b:Int} (c:P9 a) (k:P9 b):P9 (min a b):=by unfold P9 at *;omega
theorem rngMax {a b:Int} (c:P9 a) (k:P9 b):P9 (max a b):=by unfold P9 at *;omega
inductive Ctl (σ ρ:Type) where
  | next (s:σ)
  | brk (s:σ)
  | ret (r:ρ)
inductive Fin (σ ρ:Type) where
  | done (s:σ)
  | ret (r:ρ)
def fin {σ a:Type} (y:Fin σ a) (f:σ->Option a):Option a:=match y with
  | .done s=>f s
  | .ret c=>some c
theorem BF {σ a:Type} {s:σ} {f:σ->Option a} {r:Option a} (b:fin (.done s) f=r):f s=r:=b
theorem Eb {σ a:Type} {c:a} {f:σ->Option a} {r:Option a} (b:fin (.ret c) f=r):some c=r:=b
def rng {α σ ρ:Type} (f:Nat→α→σ→Option (Ctl σ ρ)):List α→Nat→σ→Option (Fin σ ρ)
  | [],_,s=>some (.done s)
  | x :: xs,k,s=>match f k x s with
    | none=>none
    | some (.next a)=>rng f xs (k + 1) a
    | some (.brk a)=>some (.done a)
    | some (.ret r)=>some (.ret r)
def ZA {σ ρ:Type} (f:Nat->σ->Option (Ctl σ ρ)) (n:Nat) (s:σ):Option (Fin σ ρ):=rng (λ _ k s=>f k s) (List.range n) 0 s
def itr {σ ρ:Type} (f:σ→Option (Ctl σ ρ)):Nat→σ→Option (Fin σ ρ)
  | 0,_=>none
  | n + 1,s=>match f s with
    | none=>none
    | some (.next a)=>itr f n a
    | some (.brk a)=>some (.done a)
    | some (.ret r)=>some (.ret r)
theorem Ms {σ ρ:Type} (f:σ->Option (Ctl σ ρ)):∀ (n m:Nat) (s:σ) (r:Fin σ ρ),n<=m->itr f n s=some r->itr f m s=some r
  | 0,_,_,_,_,b=>by cases b
  | n + 1,0,_,_,hl,_=>by omega
  | n + 1,m + 1,s,r,hl,b=>by
    simp only [itr] at b ⊢
    cases hf:f s with
    | none=>rw [hf] at b;cases b
    | some c =>
      rw [hf] at b
      cases c with
      | next a=>exact Ms f n m a r (by omega) b
      | brk a=>exact b
      | ret r'=>exact b
noncomputable def lop {σ ρ:Type} (f:σ->Option (Ctl σ ρ)) (s:σ):Option (Fin σ ρ):=itr f (Classical.epsilon λ n=>(itr f n s).isSome=true) s
theorem Ka {σ ρ:Type} {f:σ->Option (Ctl σ ρ)} {s:σ} {r:Fin σ ρ}:lop f s=some r↔∃ n,itr f n s=some r:=by
  constructor
  . intro c;exact ⟨_,c⟩
  . rintro ⟨n,hn⟩
    have hs:(itr f (Classical.epsilon λ n=>(itr f n s).isSome=true) s).isSome=true:=D3 (p:=λ n=>(itr f n s).isSome=true) ⟨n,by rw [hn];rfl⟩
    obtain ⟨r',hr'⟩:=C7.1 hs
    have a:=Ms f _ (n + Classical.epsilon λ n=>(itr f n s).isSome=true) s r (by omega) hn
    have b:=Ms f _ (n + Classical.epsilon λ n=>(itr f n s).isSome=true) s r' (by omega) hr'
    unfold lop
    rw [hr',<- b,a]
theorem Dj {σ ρ:Type} (f:σ→Option (Ctl σ ρ)) (s:σ):lop f s=match f s with
    | none=>none
    | some (.next a)=>lop f a
    | some (.brk a)=>some (.done a)
    | some (.ret r)=>some (.ret r):=by
  apply Option.ext
  intro r
  rw [Ka]
  cases hf:f s with
  | none =>
    constructor
    . rintro ⟨n,hn⟩
      cases n with
      | zero=>cases hn
      | succ n=>simp only [itr,hf] at hn;cases hn
    . intro b;cases b
  | some c =>
    cases c with
    | next a =>
      simp only
      rw [Ka]
      constructor
      . rintro ⟨n,hn⟩
        cases n with
        | zero=>cases hn
        | succ n=>simp only [itr,hf] at hn;exact ⟨n,hn⟩
      . rintro ⟨n,hn⟩;exact ⟨n + 1,by simp only [itr,hf];exact hn⟩
    | brk a =>
      simp only
      constructor
      . rintro ⟨n,hn⟩
        cases n with
        | zero=>cases hn
        | succ n=>simp only [itr,hf] at hn;exact hn
      . intro b;exact ⟨1,by simp only [itr,hf];exact b⟩
    | ret r' =>
      simp only
      constructor
      . rintro ⟨n,hn⟩
        cases n with
        | zero=>cases hn
        | succ n=>simp only [itr,hf] at hn;exact hn
      . intro b;exact ⟨1,by simp only [itr,hf];exact b⟩
def ZS (size:Nat) (A:Option Addr) (m c:Nat) (q b:Int) (d:Option Addr) (e f:Nat):Prop:=∃ a hi:Nat,q=(a:Int)/\b=(hi:Int)/\a<=hi/\hi<=m/\m<=c/\Value.slice d e f=.slice (if c=a then A else A.map (·.add (a * size))) (hi - a) (c - a)
section
variable {P : Program} {l : Env} {w : World} {dst : Option Tmp} {ty : TypeId} {pos : String} {aft : Array Edge}
theorem WE {t e:TypeId} [TSlice P t e] {z:Value} {size bytes:Nat} [TInfo P e z size bytes] {x y:Operand} {A a:Option Addr} {m c b d:Nat} {q:Int} {k:IntKind} (f:opv l x=some (.slice A m c)) (g:opv l y=some (.int k q)) (hc:ZS size A m c q (m:Int) a b d):Ev P ⟨dst,.slice t x (some y) none none,ty,pos,aft,none⟩ l w (.slice a b d):=by
  obtain ⟨h,hi,h1,h2,h3,h4,h5,h6⟩:=hc
  have:hi=m:=by omega
  subst this
  rw [h6]
  exact Ss f g h1 h3
theorem RG {t e:TypeId} [TSlice P t e] {z:Value} {size bytes:Nat} [TInfo P e z size bytes] {x y:Operand} {A a:Option Addr} {m c b d:Nat} {q:Int} {k:IntKind} (f:opv l x=some (.slice A m c)) (g:opv l y=some (.int k q)) (hc:ZS size A m c 0 q a b d):Ev P ⟨dst,.slice t x none (some y) none,ty,pos,aft,none⟩ l w (.slice a b d):=by
  obtain ⟨h,hi,h1,h2,h3,h4,h5,h6⟩:=hc
  have:h=0:=by omega
  subst this
  rw [h6]
  exact Su f g h2 (by omega)
end
def Zx (ops:Array Oper):Array Bool->List (Nat×Bool)->Bool
  | _,[]=>true
  | listed,(i,true) :: r=>(Region.ready .any ops listed).contains i && (Region.free .any ops listed i && Zx ops (listed.setIfInBounds i true) r)
  | _,(_,false) :: _=>false
def ZY:Array Bool->List (Nat×Bool)->Array Bool
  | listed,[]=>listed
  | listed,(i,_) :: r=>ZY (listed.setIfInBounds i true) r
section
variable {P : Program} {m : Nat} {Qo : Q8} {l : Env} {w : World}
theorem Bi {c:Code} {Q:Q8} (M:Env->World->Prop) (b:ewp P m c (thn M Q) l w) (k:∀ a w',M a w'->Q .normal a w'):ewp P m c Q l w :=
  Gv (λ e l w q=>by cases e<;>first|exact k _ _ q|exact q) b
def aft {σ ρ X:Type} (a:Fin σ ρ) (b:σ->X->Env) (c:σ->X->World->Prop):Env->World->Prop:=λ d w'=>∃ s x,a=.done s/\Q2 d (b s x)/\c s x w'
theorem LJ {α σ ρ X:Type} {t i n inc:Tmp} {b b' r r2:Nat} {ty1 ty2 ty3 y1 y2 y3 y4:TypeId} {p1 p2 p3:String} {a1 a2 a3:Array Edge} {body:Code} {f:Nat→α→σ→Option (Ctl σ ρ)} {xs:List α} {s₀:σ} {d:Fin σ ρ} (N:Nat) (K:rng f xs 0 s₀=some d) (L:N=xs.length) (C:N≤9223372036854775807)
    (E:σ->X->Env) (D:σ->X->Env) (I F:σ->X->World->Prop) (p:X)
    (B:I s₀ p w) (hs:Q2 l (rgE i n N 0 (E s₀ p)))
    (hf:∀ s x,lk (E s x) i=none/\lk (E s x) inc=none) (G:∀ s x,Q2 ((t,.bool false) :: rgE i n N N (E s x)) (D s x)) (H:∀ s x w,I s x w->F s x w) (M:Nat.blt t m=true/\Nat.blt i m=true/\Nat.blt inc m=true) (J:Nat.beq i n=false/\Nat.beq inc n=false)
    (y:∀ (k:Nat) (a:α) (s:σ) (x:X) (w:World) (c:Ctl σ ρ),xs[k]?=some a->I s x w->f k a s=some c->(∀ r',c=.ret r'->d=.ret r')->(∀ g,c=.brk g->d=.done g) ->
      ewp P m body (S0 b' (thn (λ v w'=>∃ g o,c=.next g/\Q2 v (rgE i n N k (E g o))/\I g o w') (S0 b (thn (aft d D F) Qo)))) ((t,.bool true) :: rgE i n N k (E s x)) w) :
    ewp P m (.loop (.seq (.region r #[⟨some t,.binOp .lss ty1 (.tmp i) (.tmp n) ty2,y1,p1,a1,none⟩] false) (.seq (.cond (.tmp t) .skip (.exit b)) (.seq (.block b' body)
      (.region r2 #[⟨some inc,.binOp .add ty3 (.tmp i) (.const (.int .i64 1)) y4,y2,p2,a2,none⟩,⟨some i,.move (.tmp inc),y3,p3,a3,none⟩] false))))) (S0 b (thn (aft d D F) Qo)) l w:=by
  subst L
  have z:∀ k,(∃ a,xs[k]?=some a/\xs.drop k=a :: xs.drop (k + 1))\/xs.length<=k:=λ k=>by
    rcases N2 k xs.length with h|h
    . exact .inl ⟨xs[k],C4 h,B7 h⟩
    . exact .inr h
  refine Cf (X:=σ×X) xs.length C (λ u=>E u.1 u.2) (λ k u w'=>I u.1 u.2 w'/\rng f (xs.drop k) k u.1=some d) (s₀,p) ⟨B,by simpa using K⟩ hs (λ u=>hf u.1 u.2) M J ?_ ?_
  . rintro k ⟨s,x⟩ w1 hk ⟨hI,hr⟩
    rcases z k with ⟨a,ha,hd⟩|hge
    . dsimp only at hI hr ⊢
      rw [hd] at hr
      simp only [rng] at hr
      cases A:f k a s with
      | none=>rw [A] at hr;cases hr
      | some c =>
        rw [A] at hr
        refine Gv ?_ (y k a s x w1 c ha hI A (λ r' hc=>?_) (λ g hc=>?_))
        . have conv:∀ v w',(∃ g o,c=.next g/\Q2 v (rgE i n xs.length k (E g o))/\I g o w')->∃ o:σ×X,Q2 v (rgE i n xs.length k (E o.1 o.2))/\I o.1 o.2 w'/\rng f (xs.drop (k + 1)) (k + 1) o.1=some d:=by
            rintro v w' ⟨g,o,rfl,h1,h2⟩
            exact ⟨(g,o),h1,h2,hr⟩
          intro e v w' q
          cases e with
          | normal=>exact conv v w' q
          | exit j =>
            simp only [S0] at q ⊢
            cases hj:Nat.beq j b' with
            | true=>rw [hj] at q;exact conv v w' q
            | false=>rw [hj] at q;exact q
          | panic c=>exact q
          | outgrown=>exact q
          | goto j=>exact q
          | ret=>exact q
        . subst hc;exact (sm hr).symm
        . subst hc;exact (sm hr).symm
    . omega
  . rintro ⟨s,x⟩ w1 ⟨hI,hr⟩
    dsimp only at hI hr ⊢
    rw [List.drop_length] at hr
    exact ⟨s,x,(sm hr).symm,G s x,H s x _ hI⟩
theorem UT {σ ρ X:Type} {t i n inc:Tmp} {b b' r r2:Nat} {ty1 ty2 ty3 y1 y2 y3 y4:TypeId} {p1 p2 p3:String} {a1 a2 a3:Array Edge} {body:Code} {f:Nat->σ->Option (Ctl σ ρ)} {s₀:σ} {d:Fin σ ρ} (N:Nat) (B:ZA f N s₀=some d) (q:N<=9223372036854775807)
    (E:σ->X->Env) (o:σ->X->Env) (I p:σ->X->World->Prop) (e:X)
    (j:I s₀ e w) (hs:Q2 l (rgE i n N 0 (E s₀ e)))
    (hf:∀ s x,lk (E s x) i=none/\lk (E s x) inc=none) (u:∀ s x,Q2 ((t,.bool false) :: rgE i n N N (E s x)) (o s x)) (v:∀ s x w,I s x w->p s x w) (C:Nat.blt t m=true/\Nat.blt i m=true/\Nat.blt inc m=true) (y:Nat.beq i n=false/\Nat.beq inc n=false)
    (g:∀ (k:Nat) (s:σ) (x:X) (w:World) (c:Ctl σ ρ),k < N->I s x w->f k s=some c->(∀ r',c=.ret r'->d=.ret r')->(∀ h,c=.brk h->d=.done h) ->
      ewp P m body (S0 b' (thn (λ D w'=>∃ h A,c=.next h/\Q2 D (rgE i n N k (E h A))/\I h A w') (S0 b (thn (aft d o p) Qo)))) ((t,.bool true) :: rgE i n N k (E s x)) w) :
    ewp P m (.loop (.seq (.region r #[⟨some t,.binOp .lss ty1 (.tmp i) (.tmp n) ty2,y1,p1,a1,none⟩] false) (.seq (.cond (.tmp t) .skip (.exit b)) (.seq (.block b' body)
      (.region r2 #[⟨some inc,.binOp .add ty3 (.tmp i) (.const (.int .i64 1)) y4,y2,p2,a2,none⟩,⟨some i,.move (.tmp inc),y3,p3,a3,none⟩] false))))) (S0 b (thn (aft d o p) Qo)) l w :=
  LJ N B (by simp) q E o I p e j hs hf u v C y λ k a s x w c hk F z G H=>by
    obtain ⟨hlt,rfl⟩:=B6.1 hk
    exact g k s x w c (by simpa using hlt) F (by simpa using z) G H
theorem Ex {σ ρ X:Type} {c:Code} {f:σ→Option (Ctl σ ρ)} {s₀:σ} {a:Fin σ ρ} {b:Nat} (z:lop f s₀=some a) (E:σ→X→Env) (u:σ→X→Env) (I v:σ→X→World→Prop) (d:X) (r:I s₀ d w) (hs:Q2 l (E s₀ d))
    (i:∀ (s:σ) (x:X) (w:World) (q:Ctl σ ρ),I s x w->f s=some q->(∀ r',q=.ret r'->a=.ret r')->(∀ g,q=.brk g->a=.done g) ->
      ewp P m c (thn (λ y w'=>∃ g t,q=.next g/\Q2 y (E g t)/\I g t w') (S0 b (thn (aft a u v) Qo))) (E s x) w) :
    ewp P m (.loop c) (S0 b (thn (aft a u v) Qo)) l w:=by
  obtain ⟨n,hn⟩:=Ka.1 z
  refine Pz (X:=σ×X×Nat) (λ h=>E h.1 h.2.1) (λ h w'=>I h.1 h.2.1 w'/\itr f h.2.2 h.1=some a) (λ h=>h.2.2) (s₀,d,n) hs ⟨r,hn⟩ ?_
  rintro ⟨s,x,k⟩ w1 ⟨hI,hr⟩
  dsimp only at hI hr ⊢
  cases k with
  | zero=>cases hr
  | succ k =>
    simp only [itr] at hr
    cases o:f s with
    | none=>rw [o] at hr;cases hr
    | some q =>
      rw [o] at hr
      refine Gv ?_ (i s x w1 q hI o (λ r' hc=>?_) (λ g hc=>?_))
      . intro e y w' p
        cases e with
        | normal =>
          obtain ⟨g,t,rfl,h1,h2⟩:=p
          exact ⟨(g,t,k),h1,⟨h2,hr⟩,J9 k⟩
        | exit j=>exact p
        | panic c=>exact p
        | outgrown=>exact p
        | goto j=>exact p
        | ret=>exact p
      . subst hc;exact (sm hr).symm
      . subst hc;exact (sm hr).symm
def inK (d:Nat):List Nat→Bool
  | []=>false
  | k :: r=>match Nat.beq k d with
    | true=>true
    | false=>inK d r
def kys:List Nat→Env→Bool
  | _,[]=>true
  | ks,(d,_) :: r=>match inK d ks with
    | true=>false
    | false=>kys (d :: ks) r
theorem SE {d:Nat}:∀ {b:List Nat},inK d b=false->∀ k∈b,Nat.beq k d=false
  | [],_,k,hk=>by simp at hk
  | a :: r,c,k,hk=>by
    unfold inK at c
    cases hb:Nat.beq a d with
    | true=>rw [hb] at c;cases c
    | false =>
      rw [hb] at c
      rcases M8.1 hk with rfl|hk
      . exact hb
      . exact SE c k hk
theorem IN {d:Nat}:∀ {l:Env} {b:List Nat},kys b l=true→d∈b→lk l d=none
  | [],_,_,_=>rfl
  | (a, v) :: r,b,f,hd=>by
    unfold kys at f
    cases hb:inK a b with
    | true=>rw [hb] at f;cases f
    | false =>
      rw [hb] at f
      have c:Nat.beq a d=false:=by
        have:=SE hb d hd
        cases e:Nat.beq a d with
        | false=>rfl
        | true=>rw [E5 e,N1] at this;cases this
      show (match Nat.beq a d with|true=>some v|false=>lk r d)=none
      rw [c]
      exact IN f (F8 _ hd)
theorem Tv {d:Nat}:∀ {p l:Env},(∀ q∈p,Nat.beq q.1 d=false)->lk (p ++ l) d=lk l d
  | [],_,_=>rfl
  | (a,v) :: p,l,h=>by
    show (match Nat.beq a d with|true=>some v|false=>lk (p ++ l) d)=lk l d
    rw [h (a,v) H8]
    exact Tv λ q b=>h q (F8 _ b)
theorem NV:∀ {l:Env} {b:List Nat} {p:Env},kys b l=true→(∀ q∈p,q.1∈b)→Q2 (p ++ l) l
  | [],_,_,_,_=>trivial
  | (a, v) :: r,b,p,c,hp=>by
    unfold kys at c
    cases hb:inK a b with
    | true=>rw [hb] at c;cases c
    | false =>
      rw [hb] at c
      refine ⟨?_,?_⟩
      . rw [Tv λ q hq=>SE hb q.1 (hp q hq)]
        show (match Nat.beq a a with|true=>some v|false=>lk r a)=some v
        rw [N1]
      . have:=NV (p:=p ++ [(a,v)]) c λ q hq=>by
          rcases K9.1 hq with hq|hq
          . exact F8 _ (hp q hq)
          . have:q=(a,v):=by simpa using hq
            rw [this]
            exact H8
        rwa [I1] at this
section
variable {σ ρ X : Type} {t i n inc : Tmp} {b b' r r2 : Nat} {ty1 ty2 ty3 y1 y2 y3 y4 : TypeId} {p1 p2 p3 : String} {a1 a2 a3 : Array Edge} {body : Code} {Q : Q8}
theorem EB {α:Type} {f:Nat->α->σ->Option (Ctl σ ρ)} {xs:List α} {s₀:σ} {d:Fin σ ρ} (N:Nat) (y:rng f xs 0 s₀=some d) (z:N=xs.length) (q:N<=9223372036854775807) (E:σ->X->Env) (I:σ->X->World->Prop) (e:X) (j:I s₀ e w) (hs:Q2 l (rgE i n N 0 (E s₀ e))) (hk:∀ s x,kys [t,i,n,inc] (E s x)=true)
    (g:∀ (k:Nat) (a:α) (s:σ) (x:X) (w:World) (c:Ctl σ ρ),xs[k]?=some a->I s x w->f k a s=some c->(∀ r',c=.ret r'->d=.ret r')->(∀ h,c=.brk h->d=.done h) ->
      ewp P m body (S0 b' (thn (λ o w'=>∃ h v,c=.next h/\Q2 o (rgE i n N k (E h v))/\I h v w') (S0 b (thn (aft d E I) Q)))) ((t,.bool true) :: rgE i n N k (E s x)) w)
    (A:∀ o w',aft d E I o w'->Q .normal o w') (B:Nat.blt t m=true/\Nat.blt i m=true/\Nat.blt inc m=true:=by exact ⟨rfl,rfl,rfl⟩) (u:Nat.beq i n=false/\Nat.beq inc n=false:=by exact ⟨rfl,rfl⟩) :
    ewp P m (.block b (.loop (.seq (.region r #[⟨some t,.binOp .lss ty1 (.tmp i) (.tmp n) ty2,y1,p1,a1,none⟩] false) (.seq (.cond (.tmp t) .skip (.exit b)) (.seq (.block b' body)
      (.region r2 #[⟨some inc,.binOp .add ty3 (.tmp i) (.const (.int .i64 1)) y4,y2,p2,a2,none⟩,⟨some i,.move (.tmp inc),y3,p3,a3,none⟩] false)))))) Q l w :=
  Bi (aft d E I) (Bx (LJ (Qo:=Q) N y z q E E I I e j hs (λ s x=>⟨IN (hk s x) (by simp),IN (hk s x) (by simp)⟩) (λ s x=>NV (p:=[(t,.bool false),(i,.int .i64 (N:Int)),(n,.int .i64 (N:Int))]) (hk s x) (by simp)) (λ _ _ _ C=>C) B u g)) A
theorem PN {f:Nat->σ->Option (Ctl σ ρ)} {s₀:σ} {a:Fin σ ρ} (N:Nat) (v:ZA f N s₀=some a) (o:N<=9223372036854775807) (E:σ->X->Env) (I:σ->X->World->Prop) (d:X) (h:I s₀ d w) (hs:Q2 l (rgE i n N 0 (E s₀ d))) (hk:∀ s x,kys [t,i,n,inc] (E s x)=true)
    (e:∀ (k:Nat) (s:σ) (x:X) (w:World) (c:Ctl σ ρ),k < N->I s x w->f k s=some c->(∀ r',c=.ret r'->a=.ret r')->(∀ g,c=.brk g->a=.done g) ->
      ewp P m body (S0 b' (thn (λ j w'=>∃ g u,c=.next g/\Q2 j (rgE i n N k (E g u))/\I g u w') (S0 b (thn (aft a E I) Q)))) ((t,.bool true) :: rgE i n N k (E s x)) w)
    (y:∀ j w',aft a E I j w'->Q .normal j w') (z:Nat.blt t m=true/\Nat.blt i m=true/\Nat.blt inc m=true:=by exact ⟨rfl,rfl,rfl⟩) (q:Nat.beq i n=false/\Nat.beq inc n=false:=by exact ⟨rfl,rfl⟩) :
    ewp P m (.block b (.loop (.seq (.region r #[⟨some t,.binOp .lss ty1 (.tmp i) (.tmp n) ty2,y1,p1,a1,none⟩] false) (.seq (.cond (.tmp t) .skip (.exit b)) (.seq (.block b' body)
      (.region r2 #[⟨some inc,.binOp .add ty3 (.tmp i) (.const (.int .i64 1)) y4,y2,p2,a2,none⟩,⟨some i,.move (.tmp inc),y3,p3,a3,none⟩] false)))))) Q l w :=
  Bi (aft a E I) (Bx (UT (Qo:=Q) N v o E E I I d h hs (λ s x=>⟨IN (hk s x) (by simp),IN (hk s x) (by simp)⟩) (λ s x=>NV (p:=[(t,.bool false),(i,.int .i64 (N:Int)),(n,.int .i64 (N:Int))]) (hk s x) (by simp)) (λ _ _ _ A=>A) z q e)) y
end
end
end
section
open Go Go.RowKit
def Bm (w0:World) (O0:Lab) (w:World) (O:Lab):Prop:=St (λ j=>j≠0/\j≠1) w0 O0 w O
section
variable {T : Nat → Prop} {w w' w0 : World} {O O' O0 : Lab}
theorem Bm.st (d:Bm w0 O0 w O) (a:St T w O w' O') (b:¬ T 0:=by decide) (c:¬ T 1:=by decide):Bm w0 O0 w' O' :=
  St.comp d a λ j hj=>⟨λ e=>b (e ▸ hj),λ e=>c (e ▸ hj)⟩
theorem Vb.z {α:Type} [Rp α] {v:Value} {x:α} (b:Vb w0 (Fr 0 w0 O0) v x) (a:Bm w0 O0 w O):Vb w (Fr 0 w O) v x:=Vb.st b a λ b=>b.1 rfl
theorem Bm.refl:Bm w O w O:=St.refl _ _ _
structure Lbl (f:Nat->Nat) (T:Nat->Prop):Prop where
  z:f 0=0
  nz:∀ j,f j=0->j=0
  o:∀ j,¬ T j->f j=0\/f j=1
theorem Lbl.none:Lbl (λ j=>if j=0 then 0 else 1) nT:=⟨rfl,λ j a=>by by_cases hj:j=0<;>simp_all,λ j _=>by by_cases hj:j=0<;>simp_all⟩
theorem Lbl.one {i:Nat} (hi:i≠0):Lbl (λ j=>if j=0 then 0 else if j=i then 2 else 1) (eT i) :=
  ⟨rfl,λ j a=>by by_cases hj:j=0<;>simp_all;split at a<;>simp_all,λ j a=>by by_cases hj:j=0<;>by_cases hk:j=i<;>simp_all⟩
theorem Lbl.two {i k:Nat} (hi:i≠0) (hk:k≠0):Lbl (λ j=>if j=0 then 0 else if j=i then 2 else if j=k then 3 else 1) (λ j=>j=i\/j=k) :=
  ⟨rfl,λ j c=>by
    by_cases hj:j=0
    . exact hj
    . by_cases a:j=i<;>by_cases b:j=k<;>simp_all,λ j c=>by
    by_cases hj:j=0<;>by_cases a:j=i<;>by_cases b:j=k<;>simp_all⟩
theorem Lbl.fr0 {f:Nat->Nat} (a:Lbl f T):∀ k,Fr 0 w O k->Fr 0 w (λ k=>f (O k)) k:=λ k hk=>⟨hk.1,by show f (O k)=0;rw [hk.2];exact a.z⟩
theorem Bm.leave {f:Nat->Nat} (g:Nat->Nat) (hf:Lbl f T) (d:g 0=0) (m:Bm w (λ k=>f (O k)) w' O') :
    ∃ a,St T w O w' a/\(∀ k,Fr 0 w' O' k->Fr 0 w' a k)/\∀ j,j≠0->j≠1->∀ k,Fr j w' O' k->Fr (g j) w' a k:=by
  classical
  have b:∀ k,k < w.heap.size->¬ T (O k)->w'.heap[k]?=w.heap[k]?/\O' k=f (O k):=λ k hk c =>
    m.same k hk (by rcases hf.o _ c with e|e<;>simp [e])
  refine ⟨λ k=>if k < w.heap.size/\¬ T (O k) then O k else g (O' k),⟨m.os,m.tape,m.output,m.size,λ k hk c=>⟨(b k hk c).1,if_pos ⟨hk,c⟩⟩⟩,λ k hk=>⟨hk.1,?_⟩,λ j i l k hk=>⟨hk.1,?_⟩⟩
  . by_cases hc:k < w.heap.size/\¬ T (O k)
    . show (if _ then _ else _)=_
      rw [if_pos hc]
      exact hf.nz _ ((b k hc.1 hc.2).2.symm.trans hk.2)
    . show (if _ then _ else _)=_
      rw [if_neg hc,hk.2,d]
  . by_cases hc:k < w.heap.size/\¬ T (O k)
    . have h:=(b k hc.1 hc.2).2.symm.trans hk.2
      rcases hf.o _ hc.2 with e|e<;>rw [e] at h<;>omega
    . show (if _ then _ else _)=_
      rw [if_neg hc,hk.2]
theorem Cg {P:Program} {n:Nat} {ops:Array Oper} {Q:Q8} {rest:List Oper} {l:Env} {w:World} {d:Tmp} {ty:TypeId} {pos:String} {aft:Array Edge} {f:FuncId} [Callable P f] {xs:List Operand} {vs:List Value} {a:Array TypeId} {O:Lab} {R:Value->World->Lab->Prop}
    (hc:Fn P f vs w λ v w'=>∃ O',St T w O w' O'/\R v w' O') (b:R6 l xs=some vs) 
    (c:∀ v w' O',St T w O w' O'->R v w' O'->owp P n ops Q rest ((d,v) :: l) w') (hd:Nat.blt d n=true:=by exact rfl):owp P n ops Q (⟨some d,.call { callee:=.value (.func f),args:=xs.toArray,argTypes:=a },ty,pos,aft,none⟩ :: rest) l w :=
  BD b (hd:=hd) hc λ v w' ⟨O',hS,hR⟩=>c v w' O' hS hR
end
def Ent (T:Nat->Prop) (O O0:Lab):Prop:=∃ f,Lbl f T/\O0=λ k=>f (O k)
theorem AbR {w:World} {O:Lab}:∃ O0,Ent nT O O0/\∀ k,Fr 0 w O k->Fr 0 w O0 k:=⟨_,⟨_,Lbl.none,rfl⟩,Lbl.none.fr0⟩
theorem V0 {w:World} {O:Lab} {i:Nat} (hi:i≠0):∃ O0,Ent (eT i) O O0/\(∀ k,Fr 0 w O k->Fr 0 w O0 k)/\∀ k,Fr i w O k->Fr 2 w O0 k :=
  ⟨_,⟨_,Lbl.one hi,rfl⟩,(Lbl.one hi).fr0,λ k hk=>⟨hk.1,by simp [hk.2,hi]⟩⟩
theorem AbQ {w:World} {O:Lab} {i j:Nat} (a:i≠j) (hi:i≠0) (hj:j≠0):∃ O0,Ent (λ k=>k=i\/k=j) O O0/\(∀ k,Fr 0 w O k->Fr 0 w O0 k)/\(∀ k,Fr i w O k->Fr 2 w O0 k)/\∀ k,Fr j w O k->Fr 3 w O0 k :=
  ⟨_,⟨_,Lbl.two hi hj,rfl⟩,(Lbl.two hi hj).fr0,λ k hk=>⟨hk.1,by simp [hk.2,hi]⟩,λ k hk=>⟨hk.1,by simp [hk.2,hj,P8 a]⟩⟩
theorem Ent.leave {T:Nat->Prop} {w w':World} {O O0 O':Lab} (d:Ent T O O0) (g:Nat->Nat) (b:g 0=0) (c:Bm w O0 w' O') :
    ∃ a,St T w O w' a/\(∀ k,Fr 0 w' O' k->Fr 0 w' a k)/\∀ j,j≠0->j≠1->∀ k,Fr j w' O' k->Fr (g j) w' a k:=by
  obtain ⟨f,hf,rfl⟩:=d
  exact Bm.leave g hf b c
theorem W3 {P:Program} {l:Env} {w:World} {b:Func} {R:Value->World->Prop} (hr:b.results=#[]) (e:R (.tuple #[]) w):Q4 P b R .normal l w:=⟨_,λ n a d c=>by simp [It,hr],e⟩
class Ow (α:Type) where
  R:World->(Nat->Prop)->(Nat->Prop)->Value->α->Prop
  agree:∀ {w w':World} {F M:Nat->Prop} {v:Value} {x:α},R w F M v x->Agree F w w'->Agree M w w'->R w' F M v x
  mono:∀ {w:World} {F M F' M':Nat->Prop} {v:Value} {x:α},R w F M v x->(∀ k,F k->F' k)->(∀ k,M k->M' k)->(∀ k,F' k->¬ M' k)->R w F' M' v x
class OwP (α:Type) [Ow α]:Prop where
  ptr:∀ {w:World} {F M:Nat->Prop} {v:Value} {x:α},Ow.R w F M v x->∃ g,v=.pointer (some ⟨g,0,none⟩)
def Ob {α:Type} [Ow α] (i:Nat) (w:World) (O:Lab) (v:Value) (x:α):Prop:=Ow.R w (Fr 0 w O) (Fr i w O) v x/\i≠0
theorem Aci {i j:Nat} (c:i≠j) {w:World} {O:Lab}:∀ k,Fr i w O k->¬ Fr j w O k:=λ _ a b=>c (a.2.symm.trans b.2)
theorem S4 {j:Nat} (a:j≠0) {w:World} {O:Lab}:∀ k,Fr 0 w O k->¬ Fr j w O k:=Aci (P8 a)
section
variable {α : Type} [Ow α] {T : Nat → Prop} {i : Nat} {w w' : World} {O O' : Lab} {v : Value} {x : α}
theorem Ob.st (c:Ob i w O v x) (a:St T w O w' O') (b:¬ T 0:=by decide) (hi:¬ T i:=by decide):Ob i w' O' v x :=
  ⟨Ow.mono (Ow.agree c.1 (a.agree b) (a.agree hi)) (a.fr b) (a.fr hi) (S4 c.2),c.2⟩
theorem Ob.ptr [OwP α] (a:Ob i w O v x):∃ g,v=.pointer (some ⟨g,0,none⟩):=OwP.ptr a.1
theorem Ob.leave {j:Nat} (c:Ob i w O v x) (a:∀ k,Fr 0 w O k->Fr 0 w O' k) (b:∀ k,Fr i w O k->Fr j w O' k) (hj:j≠0):Ob j w O' v x:=⟨Ow.mono c.1 a b (S4 hj),hj⟩
end
def Obo {α:Type} [Ow α] (i:Nat) (w:World) (O:Lab) (v:Value):Option α->Prop
  | none=>v=.pointer none
  | some x=>Ob i w O v x
def RwM {α:Type} [Rp α] (w:World) (F M:Nat->Prop) (e:TypeId) (v:Value) (xs:List α):Prop:=Own w 0 F e v xs/\∀ g,v.ownBlock=some g->M g
section
variable {α : Type} [Rp α] {i : Nat} {w w' : World} {O O' : Lab} {v : Value} {xs : List α} {e : TypeId} {F M F' M' : Nat → Prop}
theorem RwM.agree (d:RwM w F M e v xs) (a:Agree F w w') (b:Agree M w w'):RwM w' F M e v xs:=⟨d.1.agree a λ g c=>b g (d.2 g c),d.2⟩
theorem RwM.mono (f:RwM w F M e v xs) (c:∀ k,F k->F' k) (b:∀ k,M k->M' k) (d:∀ k,F' k->¬ M' k):RwM w F' M' e v xs :=
  ⟨f.1.mono c λ g a hf=>d g hf (b g (f.2 g a)),λ g a=>b g (f.2 g a)⟩
theorem RwM.rw (d:RwM w F M e v xs) (c:∀ k,F k->Fr 0 w O k) (b:∀ k,M k->Fr i w O k) (hi:i≠0):Rw i w O e v xs :=
  ⟨d.1.mono c λ g a hf=>S4 hi g hf (b g (d.2 g a)),λ g a=>(b g (d.2 g a)).2,hi⟩
theorem Rw.m (f:Rw i w O e v xs) (c:∀ k,Fr 0 w O k->F k) (b:∀ k,Fr i w O k->M k) (d:∀ k,F k->¬ M k):RwM w F M e v xs :=
  ⟨f.1.mono c λ g a hf=>d g hf (b g ⟨(f.1.lt g a).2,f.2.1 g a⟩),λ g a=>b g ⟨(f.1.lt g a).2,f.2.1 g a⟩⟩
end
theorem Rw.leave {α:Type} [Rp α] {i j:Nat} {w:World} {O O':Lab} {e:TypeId} {v:Value} {xs:List α} (c:Rw i w O e v xs) (a:∀ k,Fr 0 w O k->Fr 0 w O' k) (b:∀ k,Fr i w O k->Fr j w O' k) (hj:j≠0):Rw j w O' e v xs:=(c.m (λ _ c=>c) (λ _ c=>c) (S4 c.2.2)).rw a b hj
theorem Ab6 {α:Type} [Rp α] {i:Nat} {w:World} {O:Lab} {e:TypeId} {A:Option Addr} {m c:Nat} {q:Int} {xs u:List α} (o:Rw i w O e (.slice A m c) xs) (he:Aau xs 0 q=some u):Rw i w O e (.slice A u.length c) u/\ZS (Rp.size α) A m c 0 q A u.length c:=by
  obtain ⟨a,b,ha,rfl,h1,h2,rfl⟩:=Tu he
  obtain rfl:a=0:=by omega
  obtain ⟨hm,hc,hc2⟩:=o.len
  have hl:((xs.take b).drop 0).length=b:=by simp;omega
  rw [hl]
  have d:(Value.slice A b c).ownBlock=(Value.slice A m c).ownBlock:=by cases A<;>rfl
  refine ⟨⟨?_,by rw [d];exact o.2.1,o.2.2⟩,0,b,rfl,rfl,P4 _,by omega,hc,?_⟩
  . obtain ⟨cells,j,o2,o3⟩:=o.1
    refine ⟨cells.take (b * Rp.size α),⟨by rw [K0,o2.length,hl,Nat.min_eq_left (F7 _ h2)],?_⟩,by simpa using o2.take b,by rw [d];exact o3⟩
    rcases j.2 with ⟨hv,hn⟩|⟨g,cap,cur,hv,hg,hh,hnc,hcm,hcs,hcur⟩
    . injection hv with f k h
      have:b=0:=by omega
      subst this
      exact .inl ⟨by rw [f,h],hl⟩
    . injection hv with f k h
      refine .inr ⟨g,cap,cur,by rw [f,h,hl],hg,hh,by omega,hcm,hcs,?_⟩
      rw [hl,<- hcur,List.take_take,Nat.min_eq_left (F7 _ h2)]
  . have:(A.map (·.add (0 * Rp.size α)))=A:=by
      cases A with
      | none=>rfl
      | some l=>obtain ⟨n,o',p'⟩:=l;simp [Addr.add]
    split<;>simp_all
def part (O:Lab) (i:Nat) (L:Lab) (ls:List Nat):Lab:=λ k=>if O k=i then ls.getD (L k) (ls.headD 2) else O k
def X2 (O:Lab) (i:Nat) (ls:List Nat):Lab:=λ k=>if O k∈ls then i else O k
section
variable {i : Nat} {w : World} {O L : Lab} {ls : List Nat}
theorem JH (a:i≠0):St (eT i) w O w (part O i L ls):=⟨rfl,rfl,rfl,P1 _,λ _ _ hk=>⟨rfl,if_neg hk⟩⟩
theorem CQ (a:i≠0):∀ k,Fr 0 w O k->Fr 0 w (part O i L ls) k:=λ k hk=>⟨hk.1,by unfold part;rw [if_neg (λ e=>a (e.symm.trans hk.2))];exact hk.2⟩
theorem Em {j q:Nat} (hj:ls[j]?=some q):∀ k,(Fr i w O k/\L k=j)->Fr q w (part O i L ls) k:=λ k hk=>⟨hk.1.1,by unfold part;rw [if_pos hk.1.2,hk.2];simp [hj]⟩
theorem IO (hl:ls≠[]):∀ k,Fr i w O k->∃ q,q∈ls/\Fr q w (part O i L ls) k:=λ k hk=>by
  refine ⟨part O i L ls k,?_,hk.1,rfl⟩
  unfold part
  rw [if_pos hk.2]
  cases b:ls[L k]? with
  | some q=>rw [B3,b];exact F9 b
  | none =>
    rw [B3,b]
    cases ls with
    | nil=>exact absurd rfl hl
    | cons a l=>simp
theorem IP:St (·∈ls) w O w (X2 O i ls):=⟨rfl,rfl,rfl,P1 _,λ _ _ hk=>⟨rfl,if_neg hk⟩⟩
theorem BX (a:¬ 0∈ls):∀ k,Fr 0 w O k->Fr 0 w (X2 O i ls) k:=λ k hk=>⟨hk.1,by unfold X2;rw [if_neg (by rw [hk.2];exact a)];exact hk.2⟩
theorem Id:∀ q,q∈ls->∀ k,Fr q w O k->Fr i w (X2 O i ls) k:=λ q a k hk=>⟨hk.1,by unfold X2;rw [if_pos (by rw [hk.2];exact a)]⟩
theorem DN {j q:Nat} (hj:ls.idxOf q=j) (a:q∈ls):∀ k,Fr q w O k->Fr i w (X2 O i ls) k/\ls.idxOf (O k)=j:=λ k hk=>⟨⟨hk.1,by unfold X2;rw [if_pos (by rw [hk.2];exact a)]⟩,by rw [hk.2];exact hj⟩
end
theorem Vb.cells1 {α:Type} [Rp α] {w:World} {F:Nat->Prop} {v:Value} {x:α} (b:Vb w F v x) (a:Rp.isAgg α=false:=by rfl):Rp.R w F [v] x:=by
  unfold Vb at b
  rw [a] at b
  exact b
structure BxR (t e:TypeId) (α:Type) where
  l:List α
instance {t e:TypeId} {α:Type} [Rp α]:Ow (BxR t e α) where
  R w F M v x:=∃ (g:Nat) (L:Lab) (c0:Value),v=.pointer (some ⟨g,0,none⟩)/\Blk w g t [c0]/\M g/\L g=0/\RwM w F (λ k=>M k/\L k=1) e c0 x.l
  agree:=by rintro w w' F M v x ⟨g,L,c0,rfl,hb,hM,hL,h0⟩ a1 a2;exact ⟨g,L,c0,rfl,hb.keep (a2 g hM),hM,hL,h0.agree a1 λ k hk=>a2 k hk.1⟩
  mono:=by rintro w F M F' M' v x ⟨g,L,c0,rfl,hb,hM,hL,h0⟩ a1 a2 a3;exact ⟨g,L,c0,rfl,hb,a2 g hM,hL,h0.mono a1 (λ k hk=>⟨a2 k hk.1,hk.2⟩) λ k hf hm=>a3 k hf hm.1⟩
theorem BxR.opn {t e:TypeId} {α:Type} [Rp α] {i:Nat} {w:World} {O:Lab} {p:Nat} {x:BxR t e α} (a:Ob i w O (.pointer (some ⟨p,0,none⟩)) x) (l0 l1:Nat) (hl:l0≠0/\l1≠0):∃ (O':Lab) (c0:Value),St (eT i) w O w O'/\(∀ k,Fr i w O k->∃ q,q∈[l0,l1]/\Fr q w O' k)/\Lc l0 w O' p t [c0]/\Rw l1 w O' e c0 x.l:=by
  obtain ⟨⟨g,L,c0,hv,hb,hM,hL,h0⟩,hi⟩:=a
  obtain rfl:p=g:=by injection hv with hv;injection hv with hv;injection hv
  exact ⟨part O i L [l0,l1],c0,JH hi,IO (by simp),⟨hb,(Em (j:=0) rfl p ⟨hM,hL⟩).2⟩,h0.rw (CQ hi) (Em (j:=1) rfl) hl.2⟩
theorem BxR.shut {t e:TypeId} {α:Type} [Rp α] {w:World} {O:Lab} {p:Nat} {x:BxR t e α} {l0 l1:Nat} {c0:Value} (hd:¬ 0∈[l0,l1]/\[l0,l1].idxOf l0=0/\[l0,l1].idxOf l1=1) (hb:Lc l0 w O p t [c0]) (f:Rw l1 w O e c0 x.l):∃ O',St (·∈[l0,l1]) w O w O'/\(∀ k,Fr 0 w O k->Fr 0 w O' k)/\(∀ q,q∈[l0,l1]->∀ k,Fr q w O k->Fr l0 w O' k)/\Ob l0 w O' (.pointer (some ⟨p,0,none⟩)) x:=by
  have c:l0≠0:=λ e=>hd.1 (by simp [e])
  have d:=DN (i:=l0) hd.2.1 (by simp) p ⟨hb.1.lt,hb.2⟩
  exact ⟨X2 O l0 [l0,l1],IP,BX hd.1,Id,⟨p,λ k=>[l0,l1].idxOf (O k),c0,rfl,hb.1,d.1,d.2,f.m (BX hd.1) (DN hd.2.2 (by simp)) (λ k a b=>S4 c k a b.1)⟩,c⟩
section
variable {P : Program} {n : Nat} {ops : Array Oper} {Q : Q8} {rest : List Oper} {l : Env} {w : World} {d : Tmp} {ty : TypeId} {pos : String} {aft : Array Edge}
theorem Mu {T:Nat->Prop} {f:FuncId} [Callable P f] {y:Operand} {xs:List Operand} {vs caps a:List Value} {b:Array TypeId} {O:Lab} {R:Value->World->Lab->Prop}
    (hc:Fn P f a w λ v w'=>∃ O',St T w O w' O'/\R v w' O') (c:opv l y=some (.func (.func f) #[] caps.toArray)) (e:R6 l xs=some vs) (g:vs ++ caps=a) (hd:Nat.blt d n=true)
    (h:∀ v w' O',St T w O w' O'->R v w' O'->owp P n ops Q rest ((d,v) :: l) w'):owp P n ops Q (⟨some d,.call { callee:=.value y,args:=xs.toArray,argTypes:=b },ty,pos,aft,none⟩ :: rest) l w:=by
  subst g
  exact Jc c e hd hc λ v w' ⟨O',hS,hR⟩=>h v w' O' hS hR
end
def FrS (ls:List Nat) (w:World) (O:Lab):Nat->Prop:=λ k=>k < w.heap.size/\(O k=0\/O k∈ls)
section
variable {α : Type} [Rp α] {T : Nat → Prop} {i l : Nat} {ls ls' lo : List Nat} {w w' : World} {O O' : Lab} {v : Value} {x : α} {xs : List α} {e : TypeId}
theorem FrS.lt:∀ k,FrS ls w O k->k < w.heap.size:=λ _ a=>a.1
theorem St.agreeS (a:St T w O w' O') (b:¬ T 0) (hl:∀ q∈ls,¬ T q):Agree (FrS ls w O) w w':=λ k hk=>(a.same k hk.1 (by rcases hk.2 with e|e;rw [e];exact b;exact hl _ e)).1
theorem Vb.stS (c:Vb w (FrS ls w O) v x) (a:St T w O w' O') (b:¬ T 0:=by decide) (hl:∀ q∈ls,¬ T q:=by decide):Vb w' (FrS ls w' O') v x :=
  (c.agree (a.agreeS b hl)).mono λ k hk=>by
    have:=(a.same k hk.1 (by rcases hk.2 with e|e;rw [e];exact b;exact hl _ e)).2
    exact ⟨H3 hk.1 a.size,by rw [this];exact hk.2⟩
theorem Vb.lend (a:Vb w (Fr 0 w O) v x) (ls:List Nat):Vb w (FrS ls w O) v x:=a.mono λ _ hk=>⟨hk.1,.inl hk.2⟩
theorem Rw.lend (a:Rw l w O e v xs) (ls:List Nat) (hl:l∈ls):Vb w (FrS ls w O) v xs:=a.1.vb.mono λ k hk=>by
  rcases hk with hk|hk
  . exact ⟨hk.1,.inl hk.2⟩
  . exact ⟨(a.1.lt k hk).2,.inr (by rw [a.2.1 k hk];exact hl)⟩
theorem Vb.shutS (d:Vb w (FrS ls w O) v x) (b:St (·∈lo) w O w O') (hz:∀ k,Fr 0 w O k->Fr 0 w O' k) (c:∀ q,q∈lo->∀ k,Fr q w O k->Fr i w O' k) (ls':List Nat) (hl:∀ q∈ls,q∈lo/\i∈ls'\/¬ q∈lo/\q∈ls'):Vb w (FrS ls' w O') v x:=d.mono λ k hk=>by
  refine ⟨hk.1,?_⟩
  rcases hk.2 with e|e
  . exact .inl (hz k ⟨hk.1,e⟩).2
  . rcases hl _ e with ⟨a,h2⟩|⟨a,h2⟩
    . right;rw [(c _ a k ⟨hk.1,rfl⟩).2];exact h2
    . right;rw [(b.same k hk.1 a).2];exact h2
theorem Vb.opnS (d:Vb w (FrS ls w O) v x) (b:St (eT i) w O w O') (hi:i≠0) (c:∀ k,Fr i w O k->∃ q,q∈lo/\Fr q w O' k) (ls':List Nat) (hl:(∀ q∈ls,q≠i->q∈ls')/\∀ q∈lo,q∈ls'):Vb w (FrS ls' w O') v x:=d.mono λ k hk=>by
  refine ⟨hk.1,?_⟩
  by_cases a:O k=i
  . obtain ⟨q,h1,h2⟩:=c k ⟨hk.1,a⟩
    right;rw [h2.2];exact hl.2 q h1
  . rw [(b.same k hk.1 a).2]
    rcases hk.2 with e|e
    . exact .inl e
    . exact .inr (hl.1 _ e a)
end
end
section
open Go Go.RowKit
def AX:List Nat->List (Nat×Bool)
  | []=>[]
  | i :: r=>(i,true) :: AX r
def CR (a:Nat):Nat->List Nat
  | 0=>[]
  | n + 1=>a :: CR (a + 1) n
def W5 (P:Program) (ops:Array Oper) (Q:Exit→Act→World→Prop) (S:Array Bool→World→Prop):Nat→Array Bool→Act→World→Prop
  | 0,b,a,w=>Region.ready .any ops b=[]/\Q .normal a w
  | fuel + 1,b,a,w =>
    (Region.ready .any ops b=[]->Q .normal a w) /\
    ∀ i∈Region.ready .any ops b,wpOp P ops Q i (λ a' w'=>(V1 ops i=false->S (b.setIfInBounds i true) w')/\W5 P ops Q S fuel (b.setIfInBounds i true) a' w') a w
theorem Ng {P:Program} {ops:Array Oper} {Q:Exit->Act->World->Prop} {S:Array Bool->World->Prop}:∀ (fuel:Nat) (b:Array Bool) (a:Act) (w:World),W5 P ops Q S fuel b a w->wpAny P .any ops Q fuel b a w
  | 0,_,_,_,h=>h
  | fuel + 1,_,_,_,h=>⟨h.1,λ i hi=>wpOp_mono (λ a' w' c=>Ng fuel _ a' w' c.2) (h.2 i hi)⟩
theorem PO {P:Program} {ops:Array Oper} {Q:Exit→Act→World→Prop} {S:Array Bool→World→Prop} {O:World→Prop} {i:Nat} {s:Oper} {v:Value} (hi:ops[i]?=some s) (p:∀ (j:Nat) (o:Oper) cs b,ops[j]?=some o→o.op≠.select cs b)
    (U:∀ c a w,Q (.panic c) (a.put s.dst v) w->Q (.panic c) a w) (u:∀ d w,S (d.setIfInBounds i true) w->S d w) (g:∀ d w,S d w->S (d.setIfInBounds i true) w)
    (x:∀ d w,Closed ops d->i∈Region.ready .any ops d->S d w->O w) :
    ∀ (fuel:Nat) (d:Array Bool) (a:Act) (w:World),Closed ops d ->
      (∀ j q,ops[j]?=some q->j≠i->d.getD j true=false->(∀ e∈q.after,Region.binds .any e=true->e.on≠i)->s.apart ops q=true) ->
      i∈Region.ready .any ops d->YieldsIf P ops O s v a->S d w ->
      W5 P ops Q S fuel (d.setIfInBounds i true) (a.put s.dst v) w->W5 P ops Q S (fuel + 1) d a w:=by
  intro fuel
  induction fuel with
  | zero =>
    intro d a w l _ hr E y X
    refine ⟨λ h=>(by rw [h] at hr;cases hr),λ j hj=>?_⟩
    by_cases f:j=i
    . subst f;exact E.wpOp hi (x _ _ l hr y) ⟨λ _=>g _ _ y,X⟩
    . have:=ready_mono hj f
      rw [X.1] at this
      cases this
  | succ fuel V =>
    intro d a w l m hr E y X
    refine ⟨λ h=>(by rw [h] at hr;cases hr),λ j hj=>?_⟩
    by_cases f:j=i
    . subst f;exact E.wpOp hi (x _ _ l hr y) ⟨λ _=>g _ _ y,X⟩
    . have t:=X.2 j (ready_mono hj f)
      obtain ⟨r,q,hoj,hall⟩:=mem_ready.1 hj
      have z:∀ e∈q.after,Region.binds .any e=true->e.on≠i:=λ e he hb G=>by
        have t:=hall e he hb
        have R:=(mem_ready.1 hr).1
        rw [G] at t
        rcases N2 i d.size with h'|h'
        . simp [h'] at R t;rw [R] at t;cases t
        . simp [D5 h'] at t
      have H:=m j q hoj f r z
      have I:i∈Region.ready .any ops (d.setIfInBounds j true):=ready_mono hr (P8 f)
      have J:i < ops.size:=by
        rcases N2 i ops.size with h|h
        . exact h
        . rw [D5 h] at hi;cases hi
      have K:V1 ops j=false:=by
        cases hl:V1 ops j with
        | false=>rfl
        | true =>
          exfalso
          have h4:=J8.1 hl i (M4.2 J)
          rw [L2] at h4
          rcases h4 with h4|h4
          . exact f (by simpa using h4:i=j).symm
          . have F:=He l ops.size j i q hoj hall h4
            have T:=(mem_ready.1 hr).1
            rcases N2 i d.size with h'|h'
            . simp [h'] at F T;rw [T] at F;cases F
            . simp [D5 h'] at F
      have n:∀ k A,ops[k]?=some A->k≠i->(d.setIfInBounds j true).getD k true=false ->
          (∀ e∈A.after,Region.binds .any e=true->e.on≠i)->s.apart ops A=true:=λ k A hk L B M=>by
        refine m k A hk L ?_ M
        by_cases C:j=k
        . subst C;exact r
        . rw [getD_set_ne true C] at B;exact B
      have W:=wpOp_putIf hoj H (λ cs b=>p i s cs b hi) (λ cs b=>p j q cs b hoj) U E t
      refine wpOp_mono (λ a' w' N=>?_) W
      have D:S (d.setIfInBounds j true) w':=u _ _ (by
        have:=N.2.1 K
        rwa [C5 _ _ (P8 f)] at this)
      refine ⟨λ _=>D,V (d.setIfInBounds j true) a' w' (l.set hj) n I N.1 D ?_⟩
      rw [C5 _ _ f]
      exact N.2.2
theorem Me {P:Program} {ops:Array Oper} {Q:Exit->Act->World->Prop} {S e:Array Bool->World->Prop} (c:Array Bool->Prop) (d:∀ b i,c b->c (b.setIfInBounds i true)) (f:∀ b w,c b->e b w->S b w) :
    ∀ (fuel:Nat) (b:Array Bool) (a:Act) (w:World),c b->W5 P ops Q e fuel b a w->W5 P ops Q S fuel b a w
  | 0,_,_,_,_,h=>h
  | fuel + 1,b,_,_,hp,h=>⟨h.1,λ i hi=>wpOp_mono (λ a' w' g=>⟨λ hl=>f _ _ (d _ i hp) (g.1 hl),Me c d f fuel _ a' w' (d _ i hp) g.2⟩) (h.2 i hi)⟩
def tcs (acts:List (Nat×List Nat)) (a:Array Bool):List Nat:=(acts.filter λ p=>a.getD p.1 false).flatMap (·.2)
def tci (ops:Array Oper) (acts:List (Nat×List Nat)) (i:Nat):List Nat:=(acts.filter λ p=>!comesB ops ops.size p.1 i).flatMap (·.2)
def Sx (acts:List (Nat×List Nat)) (w0:World) (O0:Lab) (a:Array Bool) (w:World):Prop:=∃ d b,St (·∈tcs acts a) w0 O0 (dr w d) b
theorem St.mono {T a:Nat->Prop} {w w':World} {O b:Lab} (d:St T w O w' b) (c:∀ i,T i->a i):St a w O w' b :=
  ⟨d.os,d.tape,d.output,d.size,λ k hk hn=>d.same k hk λ e=>hn (c _ e)⟩
theorem St.lst {T:Nat->Prop} {w w':World} {O a:Lab} (c:St T w O w' a) (ls:List Nat) (b:∀ i,T i->i∈ls):St (·∈ls) w O w' a:=c.mono b
theorem lZ {w w':World} {O a:Lab} (b:St nT w O w' a):St (·∈([]:List Nat)) w O w' a:=b.lst [] λ _ b=>b.elim
theorem St.cmp {T:Nat->Prop} {ls:List Nat} {w w' b:World} {O d c:Lab} (g:St (·∈ls) w O w' d) (k:St T w' d b c) (a:List Nat) (e:∀ i,T i->i∈a) (hl:(ls.all (a.contains ·))=true):St (·∈a) w O b c :=
  St.comp (g.mono λ q f=>by simpa using J8.1 hl q f) (k.mono e) λ _ g=>g
theorem RH {acts:List (Nat×List Nat)} {i:Nat} (hi:(acts.any (·.1 == i))=false) (a:Array Bool):tcs acts (a.setIfInBounds i true)=tcs acts a:=by
  unfold tcs
  congr 1
  apply I2
  intro p c
  have:p.1≠i:=λ e=>by
    have b:(acts.any (·.1 == i))=true:=K1.2 ⟨p,c,by simp [e]⟩
    rw [hi] at b;cases b
  exact getD_set_ne false (P8 this)
theorem WF {ops:Array Oper} {acts:List (Nat×List Nat)} {i:Nat} {a:Array Bool} (hb:(acts.all λ p=>(ops[p.1]?).isSome)=true) (b:Closed ops a) (hr:i∈Region.ready .any ops a):∀ q,q∈tcs acts a->q∈tci ops acts i:=by
  intro q c
  unfold tcs at c
  unfold tci
  rw [K2] at c ⊢
  obtain ⟨p,hp,c⟩:=c
  rw [L6] at hp
  refine ⟨p,L6.2 ⟨hp.1,?_⟩,c⟩
  cases hc:comesB ops ops.size p.1 i with
  | false=>rfl
  | true =>
    exfalso
    have f:=hp.2
    have hs:=J8.1 hb p hp.1
    obtain ⟨o,ho⟩:=C7.1 hs
    have d:=He b ops.size p.1 i o ho (λ e he g=>b p.1 o f ho e he g) hc
    have h:=(mem_ready.1 hr).1
    rcases N2 i a.size with h'|h'
    . simp [h'] at d h;rw [h] at d;cases d
    . simp [D5 h'] at d
def hwx (P:Program) (n:Nat) (ops:Array Oper) (Q:Q8) (acts:List (Nat×List Nat)) (w0:World) (O0:Lab) (fuel:Nat) (b:Array Bool) (l:Env) (w:World):Prop :=
  Closed ops b->∀ a d,Ok n a l->W5 P ops (U3 n Q) (Sx acts w0 O0) fuel b a (dr w d)
def U0 (P:Program) (n:Nat) (ops:Array Oper) (Q:Q8) (acts:List (Nat×List Nat)) (w0:World) (O0:Lab) (i:Nat) (fuel:Nat) (a:Array Bool):Q8
  | .normal,l,w=>(V1 ops i=false->Sx acts w0 O0 (a.setIfInBounds i true) w)/\hwx P n ops Q acts w0 O0 fuel (a.setIfInBounds i true) l w
  | _,_,_=>False
abbrev SS (w0:World) (O0:Lab) (ls:List Nat):World->Prop:=λ w'=>∃ O',St (·∈ls) w0 O0 w' O'
section
variable {ls : List Nat} {w : World} {O : Lab} {i j b o g : Nat} {t : TypeId} {cs : List Value} {v0 : Value}
theorem Hi (a:Fr i w O b) (hd:cellsAt w b o cs) (hi:¬ i∈ls:=by decide):∀ w',SS w O ls w'->cellsAt w' b o cs:=λ _ ⟨_,hq⟩=>Dq (hq.agree hi) a hd
theorem Jv (a:Fr i w O b) (hd:cellsAt w b o (v0 :: cs)) (hi:¬ i∈ls:=by decide):∀ w',SS w O ls w'->w'.cell? ⟨b,o,none⟩=some v0:=λ _ ⟨_,hq⟩=>(Dq (hq.agree hi) a hd).1
theorem Gl (a:Lc j w O g t cs) (hj:¬ j∈ls:=by decide):∀ w',SS w O ls w'->cellsAt w' g 0 cs:=λ _ ⟨_,hq⟩=>((a.st hq hj).1).cellsAt
theorem Bn (a:Lc j w O g t cs) (i:Nat) (hc:cs[i]?=some v0) (hj:¬ j∈ls:=by decide):∀ w',SS w O ls w'->w'.cell? ⟨g,i,none⟩=some v0:=λ _ ⟨_,hq⟩=>Blk.cell (i:=i) ((a.st hq hj).1) hc
end
theorem Cv {m x c:Nat} (a:m=x/\m<=c/\c<=9223372036854775807):m<=9223372036854775807:=N6 a.2.1 a.2.2
theorem Sx.dr {acts:List (Nat×List Nat)} {w0 w:World} {O0:Lab} {a:Array Bool} (b:Sx acts w0 O0 a w) (d:Nat):Sx acts w0 O0 a (dr w d):=by
  obtain ⟨e,O',b⟩:=b
  exact ⟨e,O',b⟩
theorem Nh {P:Program} {ops:Array Oper} {Q k:Exit→Act→World→Prop} {acts:List (Nat×List Nat)} {w0:World} {O0:Lab} {fuel:Nat} (ls:List Nat) (hs:Region.noSelect ops=true) (hb:(acts.all λ p=>(ops[p.1]?).isSome)=true) (l:∀ c a w,¬ Q (.panic c) a w) :
    ∀ (e:List (Nat×Bool)) (b:Array Bool) (a:Act) (w:World),Closed ops b->Zx ops b e=true->(e.all λ p=>(tci ops acts p.1).all (ls.contains ·) && !acts.any (·.1 == p.1))=true->Sx acts w0 O0 b w ->
      (∀ a w,Closed ops (ZY b e)->k .normal a w->W5 P ops Q (Sx acts w0 O0) fuel (ZY b e) a w)->Aah P ops k (λ w'=>∃ h,SS w0 O0 ls (dr w' h)) e a w->W5 P ops Q (Sx acts w0 O0) (e.length + fuel) b a w
  | [],b,a,w,hcl,_,_,_,hk,s=>by rw [List.length_nil,N4];exact hk a w hcl s
  | (i, true) :: r,b,a,w,hcl,hc,hl,g,hk,s=>by
    simp only [Zx,J7] at hc
    rw [List.all_cons,J7,J7] at hl
    obtain ⟨o,v,ho,hy,hr⟩:=s
    have hi:i∈Region.ready .any ops b:=by simpa using hc.1
    have f:(acts.any (·.1 == i))=false:=by simpa using hl.1.2
    have n:∀ b w,Sx acts w0 O0 (b.setIfInBounds i true) w->Sx acts w0 O0 b w:=λ b w s=>by unfold Sx at *;rwa [RH f] at s
    have m:∀ b w,Sx acts w0 O0 b w->Sx acts w0 O0 (b.setIfInBounds i true) w:=λ b w s=>by unfold Sx at *;rwa [RH f]
    have:=PO ho (F6 hs) (λ c a w j=>(l c _ _ j).elim) n m (λ b w hc hr ⟨d,O',g⟩=>(⟨d,O',g.mono λ q j=>by
        have:=J8.1 hl.1.1 q (WF hb hc hr q j)
        simpa using this⟩:∃ h,SS w0 O0 ls (Proofs.YtdlhmdckakbboaaGreatDoor.dr w h))) (r.length + fuel) b a w hcl (Region.free_spec ho hc.2.1) hi hy g (Nh ls hs hb l r _ _ w (hcl.set hi) hc.2.2 hl.2 (m _ _ g) hk hr)
    rwa [J5,show r.length + 1 + fuel=r.length + fuel + 1 from by omega]
  | (i,false) :: r,b,a,w,hcl,hc,_,_,_,_=>by simp [Zx] at hc
section
variable {P : Program} {n : Nat} {ops : Array Oper} {Q : Q8} {acts : List (Nat × List Nat)} {w0 : World} {O0 : Lab} {l : Env} {w : World}
theorem XU {fuel f:Nat} {b:Array Bool} (ls:List Nat) (d:List (Nat×Bool)) (hs:(Region.noSelect ops && (acts.all λ p=>(ops[p.1]?).isSome) && Zx ops b d && (d.all λ p=>(tci ops acts p.1).all (ls.contains ·) && !acts.any (·.1 == p.1)))=true) (hl:d.length + fuel=f)
    (m:hwp P n ops (thn (hwx P n ops Q acts w O0 fuel (ZY b d)) λ _ _ _=>False) (SS w O0 ls) d l w):hwx P n ops Q acts w O0 f b l w:=λ h a e i=>by
  subst hl
  simp only [J7] at hs
  obtain ⟨⟨⟨j,h2⟩,h3⟩,h4⟩:=hs
  refine Nh (P:=P) ls j h2 (Q:=U3 n Q) (λ c a w k=>k.1) d b a (dr w e) h h3 (by simpa using h4) ⟨w.drawn,O0,St.refl _ _ _⟩ ?_ (m a e i)
  rintro a' w' g ⟨_,l',w₀,d',rfl,ho,hh⟩
  exact hh g a' d' ho
theorem HJ {fuel i:Nat} {o:Oper} {b:Array Bool} (hi:ops[i]?=some o) (hr:i∈Region.ready .any ops b) (z:owp P n ops (U0 P n ops Q acts w0 O0 i fuel b) [o] l w) (j:Closed ops b) (a:Act) (e:Nat) (r:Ok n a l) :
    wpOp P ops (U3 n Q) i (λ a' w'=>(V1 ops i=false->Sx acts w0 O0 (b.setIfInBounds i true) w')/\W5 P ops (U3 n Q) (Sx acts w0 O0) fuel (b.setIfInBounds i true) a' w') a (dr w e):=by
  have d:=z a e r
  unfold wpList at d
  unfold wpOp
  simp only [hi]
  have conv:∀ a' w',U3 n (U0 P n ops Q acts w0 O0 i fuel b) .normal a' w'->(V1 ops i=false->Sx acts w0 O0 (b.setIfInBounds i true) w')/\W5 P ops (U3 n Q) (Sx acts w0 O0) fuel (b.setIfInBounds i true) a' w':=by
    rintro a' w' ⟨_,l',w₀,k,rfl,q,hS,m⟩
    exact ⟨λ hl=>(hS hl).dr k,m (j.set hr) a' k q⟩
  have f:∀ g a' w',U3 n (U0 P n ops Q acts w0 O0 i fuel b) g a' w'->g=.normal:=by
    rintro g a' w' ⟨hn,l',w₀,k,rfl,q,m⟩
    cases g<;>first|rfl|exact m.elim
  by_cases h:Region.wanted o (yielded ops a.tmps)=true
  . rw [if_pos h] at d
    rw [if_pos h]
    rcases d with d|⟨d,s,w0,h2⟩
    . refine .inl ?_
      unfold Oper.wp at *
      generalize (execOp a.eval o).run P (dr w e)=p at *
      cases p with
      | ok t w' =>
        cases t<;>simp only [Oper.upon] at d ⊢ <;>
          first
            | exact conv _ _ d
            | exact Calls.mono d (λ u y he=>by
                cases u with
                | returned v=>exact conv _ _ he
                | panicked c=>exact absurd (f _ _ _ he) (by simp)
                | outgrown=>obtain ⟨s,w0,hq⟩:=he;exact absurd (f _ _ _ hq) (by simp))
            | exact Rows.mono d (λ _ _ he=>conv _ _ he)
            | exact d.elim
      | halt x w'=>cases x<;>simp only [Oper.upon] at d ⊢<;>first|exact d.elim|exact absurd (f _ _ _ d) (by simp)
    . exact absurd (f _ _ _ h2) (by simp)
  . rw [if_neg h] at d
    rw [if_neg h]
    exact conv _ _ d
theorem AF {fuel i:Nat} {f:Oper} {b:Array Bool}  (hi:ops[i]?=some f) (h:owp P n ops (U0 P n ops Q acts w0 O0 i fuel b) [f] l w) (hr:Region.ready .any ops b=[i]:=by kernel_rfl):hwx P n ops Q acts w0 O0 (fuel + 1) b l w:=λ c a e j=>by
  refine ⟨λ g=>by rw [hr] at g;simp at g,λ k hk=>?_⟩
  have d:=hk
  rw [hr] at hk
  have:k=i:=by simpa using hk
  subst this
  exact HJ hi d h c a e j
theorem DQ {fuel i j:Nat} {f g:Oper} {b:Array Bool}  (hi:ops[i]?=some f) (hj:ops[j]?=some g)
    (o:owp P n ops (U0 P n ops Q acts w0 O0 i fuel b) [f] l w) (p:owp P n ops (U0 P n ops Q acts w0 O0 j fuel b) [g] l w) (hr:Region.ready .any ops b=[i,j]:=by kernel_rfl):hwx P n ops Q acts w0 O0 (fuel + 1) b l w:=λ c a e h=>by
  refine ⟨λ m=>by rw [hr] at m;simp at m,λ k hk=>?_⟩
  have d:=hk
  rw [hr] at hk
  have:k=i\/k=j:=by simpa using hk
  rcases this with rfl|rfl
  . exact HJ hi d o c a e h
  . exact HJ hj d p c a e h
theorem RI {fuel i j k:Nat} {h m o:Oper} {b:Array Bool}  (hi:ops[i]?=some h) (hj:ops[j]?=some m) (hk:ops[k]?=some o)
    (r:owp P n ops (U0 P n ops Q acts w0 O0 i fuel b) [h] l w) (s:owp P n ops (U0 P n ops Q acts w0 O0 j fuel b) [m] l w) (t:owp P n ops (U0 P n ops Q acts w0 O0 k fuel b) [o] l w) (hr:Region.ready .any ops b=[i,j,k]:=by kernel_rfl):hwx P n ops Q acts w0 O0 (fuel + 1) b l w:=λ c a e f=>by
  refine ⟨λ p=>by rw [hr] at p;simp at p,λ q g=>?_⟩
  have d:=g
  rw [hr] at g
  have:q=i\/q=j\/q=k:=by simpa using g
  rcases this with rfl|rfl|rfl
  . exact HJ hi d r c a e f
  . exact HJ hj d s c a e f
  . exact HJ hk d t c a e f
theorem AV {fuel i:Nat} {b:Array Bool} {ls:List Nat} {m:Lab} (f:List (Nat×List Nat)) (s:St (·∈ls) w0 O0 w m)  (t:hwx P n ops Q f w m fuel (b.setIfInBounds i true) l w) (hs:(ls.all ((tcs acts (b.setIfInBounds i true)).contains ·) && f.all (acts.contains ·))=true:=by kernel_rfl):owp P n ops (U0 P n ops Q acts w0 O0 i fuel b) [] l w:=by
  rw [J7] at hs
  have h:∀ q,q∈ls->q∈tcs acts (b.setIfInBounds i true):=λ q g=>by simpa using J8.1 hs.1 q g
  have o:∀ p,p∈f->p∈acts:=λ q g=>by simpa using J8.1 hs.2 q g
  refine HE ⟨λ _=>⟨w.drawn,m,s.mono h⟩,λ r a d u=>?_⟩
  refine Me (λ c=>∀ j,(b.setIfInBounds i true).getD j false=true->c.getD j false=true) (λ c k y j hj=>getD_set_true (y j hj)) ?_ _ _ _ _ (λ j hj=>hj) (t r a d u)
  rintro c v x ⟨e,O'',hS⟩
  refine ⟨e,O'',((s.mono λ q g=>?_).comp (hS.mono λ q g=>?_) λ _ y=>y:St (·∈tcs acts c) w0 O0 _ O'')⟩
  . have:=h q g
    unfold tcs at this ⊢
    rw [K2] at this ⊢
    obtain ⟨p,h1,h3⟩:=this
    rw [L6] at h1
    exact ⟨p,L6.2 ⟨h1.1,x _ h1.2⟩,h3⟩
  . unfold tcs at g ⊢
    rw [K2] at g ⊢
    obtain ⟨p,h1,h3⟩:=g
    rw [L6] at h1
    exact ⟨p,L6.2 ⟨o _ h1.1,h1.2⟩,h3⟩
theorem XV {fuel i:Nat} {a:Array Bool} (hl:V1 ops i=true) (b:hwx P n ops Q acts w0 O0 fuel (a.setIfInBounds i true) l w):owp P n ops (U0 P n ops Q acts w0 O0 i fuel a) [] l w:=HE ⟨(λ c=>by rw [hl] at c;exact Bool.noConfusion c),b⟩
theorem Ba {a:Array Bool}  (c:Q .normal l w) (hr:Region.ready .any ops a=[]:=by kernel_rfl):hwx P n ops Q acts w0 O0 0 a l w:=λ _ _ _ b=>⟨hr,IE trivial b c⟩
def Aap (ms:List Nat) (o:Oper):Nat:=o.after.toList.foldl (λ m e=>if Region.binds .any e=true then m ||| (2 ^ e.on ||| ms.getD e.on 0) else m) 0
def Y8:List Oper->List Nat->List Nat
  | [],ms=>ms
  | o :: r,ms=>Y8 r (ms ++ [Aap ms o])
def bef (ops:Array Oper) (j k:Nat):Bool:=((Y8 ops.toList []).getD j 0).testBit k
theorem Mf {ops:Array Oper}:∀ (f j k:Nat),comesB ops f j k=true->comesB ops (f + 1) j k=true
  | 0,j,k,a=>by simp [comesB] at a
  | f + 1,j,k,a=>by
    rw [comesB] at a ⊢
    cases hj:ops[j]? with
    | none=>rw [hj] at a;simp at a
    | some o =>
      rw [hj] at a
      simp only [Option.any_some,H6] at a ⊢
      obtain ⟨e,he,a⟩:=a
      refine ⟨e,he,?_⟩
      simp only [J7,L2] at a ⊢
      refine ⟨a.1,a.2.imp id λ a=>Mf f e.on k a⟩
theorem Oy {ops:Array Oper} {f g j k:Nat} (b:comesB ops f j k=true) (hl:f<=g):comesB ops g j k=true:=by
  induction hl with
  | refl=>exact b
  | step _ a=>exact Mf _ _ _ a
theorem Oz {ms:List Nat} {k:Nat}:∀ (l:List Edge) (m:Nat),(l.foldl (λ m e=>if Region.binds .any e=true then m ||| (2 ^ e.on ||| ms.getD e.on 0) else m) m).testBit k=true→m.testBit k=true∨∃ e∈l,Region.binds .any e=true∧(e.on=k∨(ms.getD e.on 0).testBit k=true)
  | [],m,h=>.inl h
  | e :: l,m,h=>by
    rw [L0] at h
    rcases Oz l _ h with h|⟨a,h1,h2⟩
    . by_cases hb:Region.binds .any e=true
      . rw [if_pos hb,Nat.testBit_or,Nat.testBit_or,Nat.testBit_two_pow,L2,L2] at h
        rcases h with h|h|h
        . exact .inl h
        . exact .inr ⟨e,H8,hb,.inl (by simpa using h)⟩
        . exact .inr ⟨e,H8,hb,.inr h⟩
      . rw [if_neg hb] at h;exact .inl h
    . exact .inr ⟨a,F8 _ h1,h2⟩
theorem PP {ops:Array Oper}:∀ (b d:List Oper) (c:List Nat),ops.toList=d ++ b→c.length=d.length→(∀ a k,(c.getD a 0).testBit k=true→comesB ops (a + 1) a k=true)→(Y8 b c).length=ops.size∧∀ a k,((Y8 b c).getD a 0).testBit k=true→comesB ops (a + 1) a k=true
  | [],d,c,h1,h2,h3=>⟨by rw [Y8,h2,<- G7,h1,L4],h3⟩
  | o :: b,d,c,h1,h2,h3=>by
    refine PP b (d ++ [o]) (c ++ [Aap c o]) (by rw [h1,I1];rfl) (by simp [h2]) λ a k hk=>?_
    by_cases g:a < c.length
    . rw [B3,B8 g,<- B3] at hk;exact h3 a k hk
    . by_cases f:a=c.length
      . subst f
        have:(c ++ [Aap c o]).getD c.length 0=Aap c o:=by simp
        rw [this] at hk
        rcases Oz _ _ hk with h|⟨e,he,hb,h⟩
        . simp at h
        . have i:ops[c.length]?=some o:=by rw [<- F1,h1,h2];simp
          rw [comesB,i]
          simp only [Option.any_some,H6,J7,L2]
          refine ⟨e,by simpa using he,hb,?_⟩
          rcases h with h|h
          . exact .inl (by simpa using h)
          . have hlt:e.on < c.length:=by
              rcases N2 e.on c.length with h'|h'
              . exact h'
              . rw [B3,E6 h'] at h;simp at h
            exact .inr (Oy (h3 _ _ h) hlt)
      . rw [B3,E6 (by simp;omega)] at hk;simp at hk
theorem OA {ops:Array Oper} {j k:Nat} (c:bef ops j k=true):comesB ops ops.size j k=true:=by
  obtain ⟨b,h2⟩:=PP (ops:=ops) ops.toList [] [] (by simp) rfl (λ a k c=>by simp at c)
  refine Oy (h2 j k c) ?_
  rcases N2 j ops.size with h'|h'
  . exact h'
  . unfold bef at c
    rw [B3,E6 (by omega)] at c;simp at c
theorem AH {fuel d:Nat} {b:Array Bool} (ls:List Nat) (c:List (Nat×Bool))  (hl:c.length + fuel=d)
    (h:hwp P n ops (thn (hwx P n ops Q acts w O0 fuel (ZY b c)) λ _ _ _=>False) (SS w O0 ls) c l w) (hs:(Region.noSelect ops && (acts.all λ p=>(ops[p.1]?).isSome) && Zx ops b c && (c.all λ p=>(acts.all λ q=>q.2.all (ls.contains ·) || bef ops q.1 p.1) && !acts.any (·.1 == p.1)))=true:=by kernel_rfl):hwx P n ops Q acts w O0 d b l w:=by
  refine XU ls c ?_ hl h
  simp only [J7] at hs ⊢
  refine ⟨hs.1,J8.2 λ p g=>?_⟩
  have e:=J8.1 hs.2 p g
  rw [J7] at e ⊢
  refine ⟨J8.2 λ q f=>?_,e.2⟩
  unfold tci at f
  rw [K2] at f
  obtain ⟨a,ha,hqa⟩:=f
  rw [L6] at ha
  have h2:=J8.1 e.1 a ha.1
  rw [L2] at h2
  rcases h2 with h2|h2
  . exact J8.1 h2 q hqa
  . have:=ha.2;rw [OA h2] at this;simp at this
theorem Bz {fuel i:Nat} {a:Array Bool}  (b:hwx P n ops Q acts w0 O0 fuel (a.setIfInBounds i true) l w) (hl:((List.range ops.size).all λ k=>k == i || bef ops i k)=true:=by kernel_rfl):owp P n ops (U0 P n ops Q acts w0 O0 i fuel a) [] l w:=by
  refine XV ?_ b
  refine J8.2 λ k hk=>?_
  have:=J8.1 hl k hk
  rw [L2] at this ⊢
  exact this.imp id OA
theorem Bl [hm:Mixed P] {id:Nat} {e:List Oper} (acts:List (Nat×List Nat)) (O:Lab) (f:hwx P n e.toArray Q acts w O e.toArray.size (Array.replicate e.toArray.size false) l w):ewp P n (.region id e.toArray true) Q l w:=λ a d b =>
  wp_region_any hm.eq (Ng _ _ _ _ (f (λ m c hm=>by
      simp only [B1,C6] at hm
      split at hm<;>simp at hm) a (d + 1) b))
end
end
section
open Go Go.RowKit
theorem Q3 {P:Program} {t f off s:Nat} {b:Array Field} {a:Field} (c:P.underlying t=some (.struct b)) (d:b[f]?=some a) (e:a.offset=off)   (g:(P.info? a.type).map (·.size)=some s:=by kernel_rfl) (h:s≠0:=by decide) :
    ∃ b a i,P.underlying t=some (.struct b)/\b[f]?=some a/\a.offset=off/\P.info? a.type=some i/\i.size≠0:=by
  obtain ⟨i,hi,hs⟩:=D6.1 g
  exact ⟨b,a,i,c,d,e,hi,by rw [hs];exact h⟩
instance:TInt prog 3 .i64:=⟨underlying3⟩
instance:TOne prog 3:=⟨⟨_,underlying3,rfl⟩⟩
instance:TInfo prog 3 (.int .i64 0) 1 8:=⟨info_parts (by kernel_rfl),rfl⟩
instance:TOne prog 4:=⟨⟨_,underlying4,rfl⟩⟩
instance:TInfo prog 4 (.bool false) 1 1:=⟨info_parts (by kernel_rfl),rfl⟩
instance:TInt prog 5 .u8:=⟨underlying5⟩
instance:TInfo prog 5 (.int .u8 0) 1 1:=⟨info_parts (by kernel_rfl),rfl⟩
instance:TStr prog 9:=⟨underlying9⟩
instance:TOne prog 9:=⟨⟨_,underlying9,rfl⟩⟩
instance:TInfo prog 9 (.string (ByteArray.mk #[])) 1 16:=⟨info_parts (by kernel_rfl),rfl⟩
instance:TSlice prog 22 3:=⟨underlying22⟩
instance:TOne prog 22:=⟨⟨_,underlying22,rfl⟩⟩
instance:TInfo prog 22 (.slice none 0 0) 1 24:=⟨info_parts (by kernel_rfl),rfl⟩
instance:TSlice prog 23 45:=⟨underlying23⟩
instance:TOne prog 23:=⟨⟨_,underlying23,rfl⟩⟩
instance:TInfo prog 23 (.slice none 0 0) 1 24:=⟨info_parts (by kernel_rfl),rfl⟩
instance:TSlice prog 24 43:=⟨underlying24⟩
instance:TOne prog 24:=⟨⟨_,underlying24,rfl⟩⟩
instance:TInfo prog 24 (.slice none 0 0) 1 24:=⟨info_parts (by kernel_rfl),rfl⟩
instance:TAgg prog 26:=⟨⟨_,underlying26,rfl⟩⟩
instance:TInfo prog 26 (.agg #[(.slice none 0 0),(.slice none 0 0),(.slice none 0 0),(.slice none 0 0)]) 4 96:=⟨info_parts (by kernel_rfl),rfl⟩
instance:TPlaces prog 26 [(0,1),(1,1),(2,1),(3,1)]:=⟨⟨_,underlying26,λ _=>by kernel_rfl⟩⟩
instance:TField prog 26 0 0:=⟨Q3 (s:=1) underlying26 rfl rfl⟩
instance:TField prog 26 1 1:=⟨Q3 (s:=1) underlying26 rfl rfl⟩
instance:TField prog 26 2 2:=⟨Q3 (s:=1) underlying26 rfl rfl⟩
instance:TField prog 26 3 3:=⟨Q3 (s:=1) underlying26 rfl rfl⟩
instance:TSlice prog 30 55:=⟨underlying30⟩
instance:TOne prog 30:=⟨⟨_,underlying30,rfl⟩⟩
instance:TIface prog 32:=⟨⟨_,underlying32⟩⟩
instance:TAgg prog 36:=⟨⟨_,underlying36,rfl⟩⟩
instance:TInfo prog 36 (.agg #[(.int .i64 0),(.slice none 0 0),(.int .i64 0),(.int .i64 0)]) 4 48:=⟨info_parts (by kernel_rfl),rfl⟩
instance:TPlaces prog 36 [(0,1),(1,1),(2,1),(3,1)]:=⟨⟨_,underlying36,λ _=>by kernel_rfl⟩⟩
instance:TField prog 36 0 0:=⟨Q3 (s:=1) underlying36 rfl rfl⟩
instance:TField prog 36 1 1:=⟨Q3 (s:=1) underlying36 rfl rfl⟩
instance:TField prog 36 2 2:=⟨Q3 (s:=1) underlying36 rfl rfl⟩
instance:TSlice prog 41 47:=⟨underlying41⟩
instance:TOne prog 41:=⟨⟨_,underlying41,rfl⟩⟩
instance:TInfo prog 41 (.slice none 0 0) 1 24:=⟨info_parts (by kernel_rfl),rfl⟩
instance:TAgg prog 43:=⟨⟨_,underlying43,rfl⟩⟩
instance:TInfo prog 43 (.agg #[(.string (ByteArray.mk #[])),(.int .i64 0),(.slice none 0 0),(.slice none 0 0)]) 4 72:=⟨info_parts (by kernel_rfl),rfl⟩
instance:TPlaces prog 43 [(0,1),(1,1),(2,1),(3,1)]:=⟨⟨_,underlying43,λ _=>by kernel_rfl⟩⟩
instance:TField prog 43 0 0:=⟨Q3 (s:=1) underlying43 rfl rfl⟩
instance:TField prog 43 1 1:=⟨Q3 (s:=1) underlying43 rfl rfl⟩
instance:TField prog 43 2 2:=⟨Q3 (s:=1) underlying43 rfl rfl⟩
instance:TField prog 43 3 3:=⟨Q3 (s:=1) underlying43 rfl rfl⟩
instance:TAgg prog 45:=⟨⟨_,underlying45,rfl⟩⟩
instance:TInfo prog 45 (.agg #[(.int .i64 0),(.int .i64 0)]) 2 16:=⟨info_parts (by kernel_rfl),rfl⟩
instance:TPlaces prog 45 [(0,1),(1,1)]:=⟨⟨_,underlying45,λ _=>by kernel_rfl⟩⟩
instance:TField prog 45 0 0:=⟨Q3 (s:=1) underlying45 rfl rfl⟩
instance:TField prog 45 1 1:=⟨Q3 (s:=1) underlying45 rfl rfl⟩
instance:TAgg prog 47:=⟨⟨_,underlying47,rfl⟩⟩
instance:TInfo prog 47 (.agg #[(.slice none 0 0),(.int .i64 0),(.int .i64 0)]) 3 40:=⟨info_parts (by kernel_rfl),rfl⟩
instance:TPlaces prog 47 [(0,1),(1,1),(2,1)]:=⟨⟨_,underlying47,λ _=>by kernel_rfl⟩⟩
instance:TField prog 47 0 0:=⟨Q3 (s:=1) underlying47 rfl rfl⟩
instance:TField prog 47 1 1:=⟨Q3 (s:=1) underlying47 rfl rfl⟩
instance:TField prog 47 2 2:=⟨Q3 (s:=1) underlying47 rfl rfl⟩
instance:TSlice prog 52 96:=⟨underlying52⟩
instance:TOne prog 52:=⟨⟨_,underlying52,rfl⟩⟩
instance:TInfo prog 52 (.slice none 0 0) 1 24:=⟨info_parts (by kernel_rfl),rfl⟩
instance:TSlice prog 53 22:=⟨underlying53⟩
instance:TOne prog 53:=⟨⟨_,underlying53,rfl⟩⟩
instance:TInfo prog 53 (.slice none 0 0) 1 24:=⟨info_parts (by kernel_rfl),rfl⟩
instance:TAgg prog 55:=⟨⟨_,underlying55,rfl⟩⟩
instance:TInfo prog 55 (.agg #[(.slice none 0 0),(.slice none 0 0),(.slice none 0 0)]) 3 72:=⟨info_parts (by kernel_rfl),rfl⟩
instance:TPlaces prog 55 [(0,1),(1,1),(2,1)]:=⟨⟨_,underlying55,λ _=>by kernel_rfl⟩⟩
instance:TField prog 55 0 0:=⟨Q3 (s:=1) underlying55 rfl rfl⟩
instance:TField prog 55 1 1:=⟨Q3 (s:=1) underlying55 rfl rfl⟩
instance:TField prog 55 2 2:=⟨Q3 (s:=1) underlying55 rfl rfl⟩
instance:TSlice prog 56 57:=⟨underlying56⟩
instance:TOne prog 56:=⟨⟨_,underlying56,rfl⟩⟩
instance:TInfo prog 56 (.slice none 0 0) 1 24:=⟨info_parts (by kernel_rfl),rfl⟩
instance:TSlice prog 57 4:=⟨underlying57⟩
instance:TOne prog 57:=⟨⟨_,underlying57,rfl⟩⟩
instance:TInfo prog 57 (.slice none 0 0) 1 24:=⟨info_parts (by kernel_rfl),rfl⟩
instance:TInfo prog 59 (.agg #[(.slice none 0 0),(.slice none 0 0),(.slice none 0 0),(.slice none 0 0),(.slice none 0 0),(.slice none 0 0),(.slice none 0 0),(.slice none 0 0),(.slice none 0 0),(.slice none 0 0),(.slice none 0 0),(.int .i64 0),(.int .i64 0),(.bool false)]) 14 288:=⟨info_parts (by kernel_rfl),rfl⟩
instance:TPlaces prog 59 [(0,4),(4,1),(5,1),(6,3),(9,1),(10,1),(11,1),(12,1),(13,1)]:=⟨⟨_,underlying59,λ _=>by kernel_rfl⟩⟩
instance:TField prog 59 0 0:=⟨Q3 (s:=4) underlying59 rfl rfl⟩
instance:TField prog 59 1 4:=⟨Q3 (s:=1) underlying59 rfl rfl⟩
instance:TField prog 59 2 5:=⟨Q3 (s:=1) underlying59 rfl rfl⟩
instance:TField prog 59 3 6:=⟨Q3 (s:=3) underlying59 rfl rfl⟩
instance:TField prog 59 4 9:=⟨Q3 (s:=1) underlying59 rfl rfl⟩
instance:TField prog 59 5 10:=⟨Q3 (s:=1) underlying59 rfl rfl⟩
instance:TField prog 59 6 11:=⟨Q3 (s:=1) underlying59 rfl rfl⟩
instance:TField prog 59 7 12:=⟨Q3 (s:=1) underlying59 rfl rfl⟩
instance:TField prog 59 8 13:=⟨Q3 (s:=1) underlying59 rfl rfl⟩
instance:TInt prog 61 .i64:=⟨underlying61⟩
instance:TPtr prog 64 111:=⟨underlying64⟩
instance:TOne prog 64:=⟨⟨_,underlying64,rfl⟩⟩
instance:TOne prog 68:=⟨⟨_,underlying68,rfl⟩⟩
instance:TSlice prog 69 82:=⟨underlying69⟩
instance:TOne prog 69:=⟨⟨_,underlying69,rfl⟩⟩
instance:TInfo prog 69 (.slice none 0 0) 1 24:=⟨info_parts (by kernel_rfl),rfl⟩
instance:TSlice prog 71 77:=⟨underlying71⟩
instance:TOne prog 71:=⟨⟨_,underlying71,rfl⟩⟩
instance:TInfo prog 71 (.slice none 0 0) 1 24:=⟨info_parts (by kernel_rfl),rfl⟩
instance:TInfo prog 73 (.agg #[(.slice none 0 0),(.slice none 0 0),(.slice none 0 0),(.slice none 0 0),(.slice none 0 0),(.slice none 0 0),(.map none),(.slice none 0 0),(.int .i64 0)]) 9 184:=⟨info_parts (by kernel_rfl),rfl⟩
instance:TPlaces prog 73 [(0,4),(4,1),(5,1),(6,1),(7,1),(8,1)]:=⟨⟨_,underlying73,λ _=>by kernel_rfl⟩⟩
instance:TField prog 73 0 0:=⟨Q3 (s:=4) underlying73 rfl rfl⟩
instance:TField prog 73 1 4:=⟨Q3 (s:=1) underlying73 rfl rfl⟩
instance:TField prog 73 2 5:=⟨Q3 (s:=1) underlying73 rfl rfl⟩
instance:TField prog 73 3 6:=⟨Q3 (s:=1) underlying73 rfl rfl⟩
instance:TField prog 73 4 7:=⟨Q3 (s:=1) underlying73 rfl rfl⟩
instance:TField prog 73 5 8:=⟨Q3 (s:=1) underlying73 rfl rfl⟩
instance:TAgg prog 77:=⟨⟨_,underlying77,rfl⟩⟩
instance:TInfo prog 77 (.agg #[(.int .i64 0),(.int .i64 0),(.int .i64 0)]) 3 24:=⟨info_parts (by kernel_rfl),rfl⟩
instance:TPlaces prog 77 [(0,1),(1,1),(2,1)]:=⟨⟨_,underlying77,λ _=>by kernel_rfl⟩⟩
instance:TField prog 77 0 0:=⟨Q3 (s:=1) underlying77 rfl rfl⟩
instance:TField prog 77 1 1:=⟨Q3 (s:=1) underlying77 rfl rfl⟩
instance:TField prog 77 2 2:=⟨Q3 (s:=1) underlying77 rfl rfl⟩
instance:TPtr prog 80 71:=⟨underlying80⟩
instance:TAgg prog 82:=⟨⟨_,underlying82,rfl⟩⟩
instance:TInfo prog 82 (.agg #[(.slice none 0 0),(.int .i64 0),(.int .i64 0),(.int .i64 0),(.slice none 0 0),(.bool false)]) 6 80:=⟨info_parts (by kernel_rfl),rfl⟩
instance:TPlaces prog 82 [(0,1),(1,1),(2,1),(3,1),(4,1),(5,1)]:=⟨⟨_,underlying82,λ _=>by kernel_rfl⟩⟩
instance:TField prog 82 0 0:=⟨Q3 (s:=1) underlying82 rfl rfl⟩
instance:TField prog 82 1 1:=⟨Q3 (s:=1) underlying82 rfl rfl⟩
instance:TField prog 82 2 2:=⟨Q3 (s:=1) underlying82 rfl rfl⟩
instance:TField prog 82 3 3:=⟨Q3 (s:=1) underlying82 rfl rfl⟩
instance:TField prog 82 4 4:=⟨Q3 (s:=1) underlying82 rfl rfl⟩
instance:TField prog 82 5 5:=⟨Q3 (s:=1) underlying82 rfl rfl⟩
instance:TSlice prog 86 89:=⟨underlying86⟩
instance:TAgg prog 89:=⟨⟨_,underlying89,rfl⟩⟩
instance:TInfo prog 89 (.agg #[(.int .i64 0),(.slice none 0 0)]) 2 32:=⟨info_parts (by kernel_rfl),rfl⟩
instance:TPlaces prog 89 [(0,1),(1,1)]:=⟨⟨_,underlying89,λ _=>by kernel_rfl⟩⟩
instance:TField prog 89 0 0:=⟨Q3 (s:=1) underlying89 rfl rfl⟩
instance:TField prog 89 1 1:=⟨Q3 (s:=1) underlying89 rfl rfl⟩
instance:TSlice prog 96 9:=⟨underlying96⟩
instance:TOne prog 96:=⟨⟨_,underlying96,rfl⟩⟩
instance:TInfo prog 96 (.slice none 0 0) 1 24:=⟨info_parts (by kernel_rfl),rfl⟩
instance:TSlice prog 105 23:=⟨underlying105⟩
instance:TPtr prog 109 163:=⟨underlying109⟩
instance:TOne prog 109:=⟨⟨_,underlying109,rfl⟩⟩
instance:TInfo prog 109 (.pointer none) 1 8:=⟨info_parts (by kernel_rfl),rfl⟩
instance:TInfo prog 111 (.agg #[(.slice none 0 0),(.slice none 0 0),(.slice none 0 0),(.slice none 0 0),(.pointer none)]) 5 104:=⟨info_parts (by kernel_rfl),rfl⟩
instance:TPlaces prog 111 [(0,4),(4,1)]:=⟨⟨_,underlying111,λ _=>by kernel_rfl⟩⟩
instance:TField prog 111 0 0:=⟨Q3 (s:=4) underlying111 rfl rfl⟩
instance:TField prog 111 1 4:=⟨Q3 (s:=1) underlying111 rfl rfl⟩
instance:TSlice prog 131 134:=⟨underlying131⟩
instance:TAgg prog 134:=⟨⟨_,underlying134,rfl⟩⟩
instance:TInfo prog 134 (.agg #[(.int .i64 0),(.int .i64 0),(.int .i64 0)]) 3 24:=⟨info_parts (by kernel_rfl),rfl⟩
instance:TPlaces prog 134 [(0,1),(1,1),(2,1)]:=⟨⟨_,underlying134,λ _=>by kernel_rfl⟩⟩
instance:TField prog 134 0 0:=⟨Q3 (s:=1) underlying134 rfl rfl⟩
instance:TField prog 134 1 1:=⟨Q3 (s:=1) underlying134 rfl rfl⟩
instance:TField prog 134 2 2:=⟨Q3 (s:=1) underlying134 rfl rfl⟩
instance:TInt prog 140 .u64:=⟨underlying140⟩
instance:TOne prog 148:=⟨⟨_,underlying148,rfl⟩⟩
instance:TInfo prog 148 (.map none) 1 8:=⟨info_parts (by kernel_rfl),rfl⟩
instance:TInfo prog 149 (.map none) 1 8:=⟨info_parts (by kernel_rfl),rfl⟩
instance:TSlice prog 161 109:=⟨underlying161⟩
instance:TOne prog 161:=⟨⟨_,underlying161,rfl⟩⟩
instance:TInfo prog 161 (.slice none 0 0) 1 24:=⟨info_parts (by kernel_rfl),rfl⟩
instance:TInfo prog 163 (.agg #[(.slice none 0 0),(.bool false),(.int .i64 0),(.slice none 0 0),(.pointer none)]) 5 72:=⟨info_parts (by kernel_rfl),rfl⟩
instance:TPlaces prog 163 [(0,1),(1,1),(2,1),(3,1),(4,1)]:=⟨⟨_,underlying163,λ _=>by kernel_rfl⟩⟩
instance:TField prog 163 0 0:=⟨Q3 (s:=1) underlying163 rfl rfl⟩
instance:TField prog 163 1 1:=⟨Q3 (s:=1) underlying163 rfl rfl⟩
instance:TField prog 163 2 2:=⟨Q3 (s:=1) underlying163 rfl rfl⟩
instance:TField prog 163 3 3:=⟨Q3 (s:=1) underlying163 rfl rfl⟩
instance:TField prog 163 4 4:=⟨Q3 (s:=1) underlying163 rfl rfl⟩
instance:TSlice prog 165 5:=⟨underlying165⟩
instance:Callable prog 4:=⟨⟨_,func4,rfl,by decide⟩⟩
instance:Callable prog 5:=⟨⟨_,func5,rfl,by decide⟩⟩
instance:Callable prog 6:=⟨⟨_,func6,rfl,by decide⟩⟩
instance:Callable prog 7:=⟨⟨_,func7,rfl,by decide⟩⟩
instance:Callable prog 8:=⟨⟨_,func8,rfl,by decide⟩⟩
instance:Callable prog 9:=⟨⟨_,func9,rfl,by decide⟩⟩
instance:Callable prog 10:=⟨⟨_,func10,rfl,by decide⟩⟩
instance:Callable prog 11:=⟨⟨_,func11,rfl,by decide⟩⟩
instance:Callable prog 12:=⟨⟨_,func12,rfl,by decide⟩⟩
instance:Callable prog 13:=⟨⟨_,func13,rfl,by decide⟩⟩
instance:Callable prog 14:=⟨⟨_,func14,rfl,by decide⟩⟩
instance:Callable prog 15:=⟨⟨_,func15,rfl,by decide⟩⟩
instance:Callable prog 16:=⟨⟨_,func16,rfl,by decide⟩⟩
instance:Callable prog 17:=⟨⟨_,func17,rfl,by decide⟩⟩
instance:Callable prog 18:=⟨⟨_,func18,rfl,by decide⟩⟩
instance:Callable prog 19:=⟨⟨_,func19,rfl,by decide⟩⟩
instance:Callable prog 20:=⟨⟨_,func20,rfl,by decide⟩⟩
instance:Callable prog 21:=⟨⟨_,func21,rfl,by decide⟩⟩
instance:Callable prog 22:=⟨⟨_,func22,rfl,by decide⟩⟩
instance:Callable prog 23:=⟨⟨_,func23,rfl,by decide⟩⟩
instance:Callable prog 24:=⟨⟨_,func24,rfl,by decide⟩⟩
instance:Callable prog 25:=⟨⟨_,func25,rfl,by decide⟩⟩
instance:Callable prog 26:=⟨⟨_,func26,rfl,by decide⟩⟩
instance:Callable prog 27:=⟨⟨_,func27,rfl,by decide⟩⟩
instance:Callable prog 28:=⟨⟨_,func28,rfl,by decide⟩⟩
instance:Callable prog 29:=⟨⟨_,func29,rfl,by decide⟩⟩
instance:Callable prog 30:=⟨⟨_,func30,rfl,by decide⟩⟩
instance:Callable prog 31:=⟨⟨_,func31,rfl,by decide⟩⟩
instance:Callable prog 32:=⟨⟨_,func32,rfl,by decide⟩⟩
instance:Callable prog 33:=⟨⟨_,func33,rfl,by decide⟩⟩
instance:Callable prog 34:=⟨⟨_,func34,rfl,by decide⟩⟩
instance:Callable prog 35:=⟨⟨_,func35,rfl,by decide⟩⟩
instance:Callable prog 36:=⟨⟨_,func36,rfl,by decide⟩⟩
instance:Callable prog 37:=⟨⟨_,func37,rfl,by decide⟩⟩
instance:Callable prog 38:=⟨⟨_,func38,rfl,by decide⟩⟩
instance:Callable prog 39:=⟨⟨_,func39,rfl,by decide⟩⟩
instance:Callable prog 40:=⟨⟨_,func40,rfl,by decide⟩⟩
instance:Callable prog 41:=⟨⟨_,func41,rfl,by decide⟩⟩
instance:Callable prog 42:=⟨⟨_,func42,rfl,by decide⟩⟩
instance:Callable prog 43:=⟨⟨_,func43,rfl,by decide⟩⟩
instance:Callable prog 44:=⟨⟨_,func44,rfl,by decide⟩⟩
instance:Callable prog 45:=⟨⟨_,func45,rfl,by decide⟩⟩
instance:Callable prog 46:=⟨⟨_,func46,rfl,by decide⟩⟩
instance:Callable prog 47:=⟨⟨_,func47,rfl,by decide⟩⟩
instance:Callable prog 48:=⟨⟨_,func48,rfl,by decide⟩⟩
instance:Callable prog 49:=⟨⟨_,func49,rfl,by decide⟩⟩
instance:Callable prog 50:=⟨⟨_,func50,rfl,by decide⟩⟩
instance:Callable prog 51:=⟨⟨_,func51,rfl,by decide⟩⟩
instance:Callable prog 52:=⟨⟨_,func52,rfl,by decide⟩⟩
instance:Callable prog 53:=⟨⟨_,func53,rfl,by decide⟩⟩
instance:Callable prog 54:=⟨⟨_,func54,rfl,by decide⟩⟩
instance:Callable prog 55:=⟨⟨_,func55,rfl,by decide⟩⟩
instance:Callable prog 56:=⟨⟨_,func56,rfl,by decide⟩⟩
instance:Callable prog 57:=⟨⟨_,func57,rfl,by decide⟩⟩
instance:Callable prog 58:=⟨⟨_,func58,rfl,by decide⟩⟩
instance:Callable prog 59:=⟨⟨_,func59,rfl,by decide⟩⟩
instance:Callable prog 60:=⟨⟨_,func60,rfl,by decide⟩⟩
instance:Callable prog 61:=⟨⟨_,func61,rfl,by decide⟩⟩
instance:Callable prog 62:=⟨⟨_,func62,rfl,by decide⟩⟩
instance:Callable prog 63:=⟨⟨_,func63,rfl,by decide⟩⟩
instance:Callable prog 64:=⟨⟨_,func64,rfl,by decide⟩⟩
instance:Callable prog 65:=⟨⟨_,func65,rfl,by decide⟩⟩
instance:Callable prog 66:=⟨⟨_,func66,rfl,by decide⟩⟩
instance:Callable prog 67:=⟨⟨_,func67,rfl,by decide⟩⟩
instance:Callable prog 68:=⟨⟨_,func68,rfl,by decide⟩⟩
instance:Callable prog 69:=⟨⟨_,func69,rfl,by decide⟩⟩
instance:Callable prog 70:=⟨⟨_,func70,rfl,by decide⟩⟩
instance:Callable prog 71:=⟨⟨_,func71,rfl,by decide⟩⟩
instance:Callable prog 72:=⟨⟨_,func72,rfl,by decide⟩⟩
instance:Callable prog 73:=⟨⟨_,func73,rfl,by decide⟩⟩
instance:Callable prog 74:=⟨⟨_,func74,rfl,by decide⟩⟩
instance:Callable prog 75:=⟨⟨_,func75,rfl,by decide⟩⟩
instance:Callable prog 76:=⟨⟨_,func76,rfl,by decide⟩⟩
instance:Callable prog 77:=⟨⟨_,func77,rfl,by decide⟩⟩
instance:Callable prog 78:=⟨⟨_,func78,rfl,by decide⟩⟩
instance:Callable prog 79:=⟨⟨_,func79,rfl,by decide⟩⟩
instance:Callable prog 80:=⟨⟨_,func80,rfl,by decide⟩⟩
instance:Callable prog 81:=⟨⟨_,func81,rfl,by decide⟩⟩
instance:Callable prog 82:=⟨⟨_,func82,rfl,by decide⟩⟩
instance:Callable prog 83:=⟨⟨_,func83,rfl,by decide⟩⟩
instance:Callable prog 84:=⟨⟨_,func84,rfl,by decide⟩⟩
instance:Callable prog 85:=⟨⟨_,func85,rfl,by decide⟩⟩
instance:Callable prog 86:=⟨⟨_,func86,rfl,by decide⟩⟩
instance:Callable prog 87:=⟨⟨_,func87,rfl,by decide⟩⟩
instance:Callable prog 88:=⟨⟨_,func88,rfl,by decide⟩⟩
instance:Callable prog 89:=⟨⟨_,func89,rfl,by decide⟩⟩
instance:Callable prog 90:=⟨⟨_,func90,rfl,by decide⟩⟩
instance:Callable prog 91:=⟨⟨_,func91,rfl,by decide⟩⟩
instance:Callable prog 93:=⟨⟨_,func93,rfl,by decide⟩⟩
instance:Callable prog 94:=⟨⟨_,func94,rfl,by decide⟩⟩
instance:Callable prog 97:=⟨⟨_,func97,rfl,by decide⟩⟩
instance:Callable prog 98:=⟨⟨_,func98,rfl,by decide⟩⟩
instance:Callable prog 102:=⟨⟨_,func102,rfl,by decide⟩⟩
instance:Callable prog 103:=⟨⟨_,func103,rfl,by decide⟩⟩
instance:Callable prog 104:=⟨⟨_,func104,rfl,by decide⟩⟩
instance:Callable prog 105:=⟨⟨_,func105,rfl,by decide⟩⟩
instance:Callable prog 106:=⟨⟨_,func106,rfl,by decide⟩⟩
instance:Callable prog 107:=⟨⟨_,func107,rfl,by decide⟩⟩
instance:Callable prog 109:=⟨⟨_,func109,rfl,by decide⟩⟩
instance:Callable prog 110:=⟨⟨_,func110,rfl,by decide⟩⟩
instance:Callable prog 186:=⟨⟨_,func186,rfl,by decide⟩⟩
instance:Callable prog 187:=⟨⟨_,func187,rfl,by decide⟩⟩
instance:Callable prog 188:=⟨⟨_,func188,rfl,by decide⟩⟩
instance:Callable prog 189:=⟨⟨_,func189,rfl,by decide⟩⟩
instance:Mixed prog:=⟨by kernel_rfl⟩
end
section
open Go Go.RowKit
def V6 (n:Int):Value:=if n=0 then .nilIface else .iface 61 (.int .i64 n)
theorem Jg:V6 0=.nilIface:=by unfold V6;rfl
theorem Kb {n:Int} (a:n≠0):V6 n=.iface 61 (.int .i64 n):=by unfold V6;rw [if_neg a]
theorem Mv (n:Int):(V6 n).oneCell'=true:=by unfold V6;split<;>rfl
structure Err where
  n:Int
instance:Rp Err where
  isAgg:=false
  size:=1
  R _ _ cs x:=cs=[V6 x.n]/\P9 x.n
  len:=by rintro w F cs x ⟨rfl,_⟩;rfl
  one:=by
    rintro w F cs x ⟨rfl,_⟩ u hu
    have:u=V6 x.n:=by simpa using hu
    subst this;exact Mv _
  agree:=λ a _=>a
  mono:=λ a _=>a
theorem Vb.err {w:World} {F:Nat->Prop} {v:Value} {x:Err} (b:Vb w F v x):v=V6 x.n/\P9 x.n:=by
  obtain ⟨a,h2⟩:=b
  exact ⟨by simpa using a,h2⟩
theorem vErr {w:World} {F:Nat->Prop} {n:Int} (a:P9 n):Vb w F (V6 n) (⟨n⟩:Err):=⟨rfl,a⟩
theorem vErr0 {w:World} {F:Nat->Prop}:Vb w F .nilIface (⟨0⟩:Err):=⟨by rw [Jg],by decide⟩
end
section
open Go Go.RowKit
inductive Fa:Type 1
  | T
  | V {α:Type} [Rp α] (v:Value) (x:α)
  | R {α:Type} [Rp α] (i:Nat) (e:TypeId) (v:Value) (xs:List α)
  | L (i g:Nat) (t:TypeId) (cs:List Value)
  | C (i b o:Nat) (cs:List Value)
  | W {α:Type} [Rp α] (ls:List Nat) (v:Value) (x:α)
  | B {α:Type} [Ow α] (i:Nat) (v:Value) (x:α)
  | X (p:Prop)
  | S (w0:World) (O0:Lab) (ls:List Nat)
def Fa.P:Fa->World->Lab->Prop
  | .T,_,_=>True
  | @Fa.V _ _ v x,w,O=>Vb w (Fr 0 w O) v x
  | @Fa.R _ _ i e v xs,w,O=>Rw i w O e v xs
  | .L i g t cs,w,O=>Lc i w O g t cs
  | .C i b o cs,w,O=>Fr i w O b/\cellsAt w b o cs
  | @Fa.W _ _ ls v x,w,O=>Vb w (FrS ls w O) v x
  | @Fa.B _ _ i v x,w,O=>Ob i w O v x
  | .X p,_,_=>p
  | .S a c ls,w,O=>St (·∈ls) a c w O
def Fa.lab:Fa->List Nat
  | @Fa.R _ _ i _ _ _=>[i]
  | .L i _ _ _=>[i]
  | .C i _ _ _=>[i]
  | @Fa.W _ _ ls _ _=>ls
  | @Fa.B _ _ i _ _=>[i]
  | _=>[]
def Fa.own:Fa->Nat
  | @Fa.R _ _ i _ _ _=>i
  | .L i _ _ _=>i
  | @Fa.B _ _ i _ _=>i
  | _=>0
def Fa.may (i:Nat):Fa->Bool
  | .S _ _ ls=>inK i ls
  | _=>true
theorem Tw {i:Nat}:∀ {l:List Nat},¬ i∈l->inK i l=false
  | [],_=>rfl
  | a :: l,h=>by
    unfold inK
    have b:Nat.beq a i=false:=by
      cases hb:Nat.beq a i with
      | false=>rfl
      | true=>exact absurd (by rw [E5 hb];exact H8) h
    rw [b]
    exact Tw λ hm=>h (F8 _ hm)
theorem Fa.st {T:Nat->Prop} {w w':World} {O O':Lab}:∀ {f:Fa} (j:f.P w O) (a:St T w O w' O') (c:¬ T 0) (hl:∀ i∈f.lab,¬ T i) (hs:∀ i,T i->f.may i=true),f.P w' O'
  | .T,_,_,_,_,_=>trivial
  | .X _,j,_,_,_,_=>j
  | .S d h ls,j,a,_,_,hs=>by
    change St (·∈ls) d h _ _ at j
    exact St.comp j a λ i hi=>by
      have:=hs i hi
      exact B9 λ hn=>by simp [Fa.may,Tw hn] at this
  | @Fa.V _ _ v x,j,a,c,_,_=>by
    change Vb w (Fr 0 w O) v x at j
    exact Vb.st j a c
  | @Fa.R _ _ i e v xs,j,a,c,hl,_=>by
    change Rw i w O e v xs at j
    exact Rw.st j a c (hl i (H8 (l:=[])))
  | .L i g t cs,j,a,c,hl,_=>by
    change Lc i w O g t cs at j
    exact Lc.st j a (hl i (H8 (l:=[])))
  | .C i b o cs,j,a,c,hl,_=>by
    change Fr i w O b/\cellsAt w b o cs at j
    have hi:=hl i (H8 (l:=[]))
    exact ⟨a.fr hi _ j.1,Dq (a.agree hi) j.1 j.2⟩
  | @Fa.W _ _ ls v x,j,a,c,hl,_=>by
    change Vb w (FrS ls w O) v x at j
    exact Vb.stS j a c hl
  | @Fa.B _ _ i v x,j,a,c,hl,_=>by
    change Ob i w O v x at j
    exact Ob.st j a c (hl i (H8 (l:=[])))
def Z2 (i:Nat) (f':Fa):List Fa→Option (List Fa)
  | []=>some []
  | f :: Γ=>match Z2 i f' Γ with
    | none=>none
    | some a=>match Nat.beq f.own i with
      | true=>some (f' :: a)
      | false=>match inK i f.lab with
        | true=>some a
        | false=>match f.may i with
          | true=>some (f :: a)
          | false=>some a
structure Bse where
  P:World->Lab->Prop
  st:∀ {T:Nat->Prop} {w w':World} {O O':Lab},P w O->St T w O w' O'->¬ T 0->¬ T 1->P w' O'
def bS (a:World) (A:Nat->Prop):Bse:=⟨Bs a A,λ e b c d=>e.st b c d⟩
def Al (B:Bse):List Fa->World->Lab->Prop
  | [],w,O=>B.P w O
  | f :: Γ,w,O=>f.P w O/\Al B Γ w O
inductive In:List Fa->Fa->Prop
  | hd {f:Fa} {Γ:List Fa}:In (f :: Γ) f
  | tl {f g:Fa} {Γ:List Fa} (h:In Γ f):In (g :: Γ) f
section
variable {B : Bse} {Γ : List Fa} {w w' : World} {O O' : Lab} {i : Nat} {f : Fa}
theorem Al.at (b:Al B Γ w O) (hi:In Γ f):f.P w O:=by
  induction hi with
  | hd=>exact b.1
  | tl _ a=>exact a b.2
theorem Al.base:∀ {Γ:List Fa},Al B Γ w O->B.P w O
  | [],h=>h
  | _ :: _,h=>Al.base h.2
theorem NW {i:Nat}:∀ {l:List Nat},inK i l=false->¬ i∈l
  | [],_=>by simp
  | a :: l,b=>by
    unfold inK at b
    cases hb:Nat.beq a i with
    | true=>rw [hb] at b;cases b
    | false =>
      rw [hb] at b
      intro hm
      rcases M8.1 hm with rfl|hm
      . rw [N1] at hb;cases hb
      . exact NW b hm
theorem Al.no:∀ {Γ:List Fa},Al B Γ w O->St nT w O w' O'->Al B Γ w' O'
  | [],a,hS=>B.st a hS id id
  | _ :: _,a,hS=>⟨Fa.st a.1 hS id (λ _ _=>id) λ _ a=>a.elim,Al.no a.2 hS⟩
theorem JI (a:Nat.ble 2 i=true):0≠i/\1≠i:=by
  have:=E9 a
  omega
theorem Al.so {f':Fa} (hi:Nat.ble 2 i=true) (hf:f'.P w' O'):∀ {Γ a:List Fa},Al B Γ w O→St (eT i) w O w' O'→Z2 i f' Γ=some a→Al B a w' O'
  | [],a,h,hS,e=>by
    obtain rfl:=L1 e
    exact B.st h hS (JI hi).1 (JI hi).2
  | g :: Γ,a,h,hS,e=>by
    unfold Z2 at e
    cases hr:Z2 i f' Γ with
    | none=>rw [hr] at e;cases e
    | some c =>
      rw [hr] at e
      have b:=Al.so hi hf h.2 hS hr
      cases hb:Nat.beq g.own i with
      | true=>rw [hb] at e;obtain rfl:=L1 e;exact ⟨hf,b⟩
      | false =>
        rw [hb] at e
        cases hk:inK i g.lab with
        | true=>rw [hk] at e;obtain rfl:=L1 e;exact b
        | false =>
          rw [hk] at e
          cases hm:g.may i with
          | false=>rw [hm] at e;obtain rfl:=L1 e;exact b
          | true=>rw [hm] at e;obtain rfl:=L1 e;exact ⟨Fa.st h.1 hS (JI hi).1 (λ j hj e=>NW hk (e ▸ hj)) λ j e=>by rw [e];exact hm,b⟩
inductive Sb:List Fa->List Fa->Prop
  | nil {Γ:List Fa}:Sb Γ []
  | t {Γ Δ:List Fa} (h:Sb Γ Δ):Sb Γ (.T :: Δ)
  | cons {f:Fa} {Γ Δ:List Fa} (hf:In Γ f) (h:Sb Γ Δ):Sb Γ (f :: Δ)
  | x {p:Prop} {Γ Δ:List Fa} (hp:p) (h:Sb Γ Δ):Sb Γ (.X p :: Δ)
  | v {α:Type} [Rp α] {Γ Δ:List Fa} (h:Sb Γ Δ):Sb Γ (.V (.slice none 0 0) ([]:List α) :: Δ)
  | n {α:Type} [Rp α] {i:Nat} {e:TypeId} {Γ Δ:List Fa} (hi:Nat.ble 1 i=true) (h:Sb Γ Δ):Sb Γ (.R i e (.slice none 0 0) ([]:List α) :: Δ)
theorem Al.sub (b:Al B Γ w O):∀ {a:List Fa},Sb Γ a->Al B a w O
  | _,.nil=>Al.base b
  | _,.t k=>⟨trivial,Al.sub b k⟩
  | _,.cons hf k=>⟨Al.at b hf,Al.sub b k⟩
  | _,.x hp k=>⟨hp,Al.sub b k⟩
  | _,@Sb.v _ _ _ _ k=>⟨Vb.nil _ _,Al.sub b k⟩
  | _,@Sb.n _ _ _ _ _ _ hi k=>⟨Rw.nil _ (by have:=E9 hi;omega),Al.sub b k⟩
end
class El (α:Type) [Rp α] (K:outParam (Bse->List Fa->World->Lab->α->(Value->Prop)->Prop)):Prop where
  el:∀ {B:Bse} {Γ:List Fa} {w:World} {O:Lab} {x:α} {v:Value} {G:Value->Prop},Al B Γ w O->Vb w (Fr 0 w O) v x->K B Γ w O x G->G v
instance:El Int λ B Γ w O x G=>P9 x->Al B Γ w O->G (.int .i64 x):=⟨λ a b k=>by
  obtain ⟨rfl,hr⟩:=b.int
  exact k hr a⟩
instance:El Bool λ B Γ w O x G=>Al B Γ w O->G (.bool x):=⟨λ a b k=>by
  obtain rfl:=b.bool
  exact k a⟩
instance:El Err λ B Γ w O x G=>P9 x.n->Al B Γ w O->G (V6 x.n):=⟨λ a b k=>by
  obtain ⟨rfl,hr⟩:=b.err
  exact k hr a⟩
instance {α:Type} [Rp α]:El (List α) λ B Γ w O x G=>∀ A c,Al B (.V (.slice A x.length c) x :: Γ) w O->G (.slice A x.length c):=⟨λ a b k=>by
  obtain ⟨A,c,rfl⟩:=b.form
  exact k A c ⟨b,a⟩⟩
class Ec (α:Type) [Rp α] (K:outParam (Bse->List Fa->World->Lab->Nat->Nat->Nat->α->Prop->Prop)):Prop where
  ec:∀ {B:Bse} {Γ:List Fa} {w:World} {O:Lab} {i b o:Nat} {x:α} {cs:List Value} {G:Prop},Al B Γ w O->Fr i w O b->cellsAt w b o cs->Rp.R w (Fr 0 w O) cs x->K B Γ w O i b o x G->G
instance:Ec Int λ B Γ w O i b o x G=>P9 x->Al B (.C i b o [.int .i64 x] :: Γ) w O->G:=⟨λ c a hc d k=>by
  obtain ⟨rfl,hr⟩:=d
  exact k hr ⟨⟨a,hc⟩,c⟩⟩
instance:Ec Bool λ B Γ w O i b o x G=>Al B (.C i b o [.bool x] :: Γ) w O->G:=⟨λ c a hc d k=>by
  obtain rfl:=d
  exact k ⟨⟨a,hc⟩,c⟩⟩
instance {α:Type} [Rp α]:Ec (List α) λ B Γ w O i b o x G=>∀ A c,Al B (.C i b o [.slice A x.length c] :: .V (.slice A x.length c) x :: Γ) w O->G:=⟨λ d a hc e k=>by
  obtain ⟨v,rfl,e⟩:=e
  replace e:=Vb.of_slice e
  obtain ⟨A,c,rfl⟩:=e.form
  exact k A c ⟨⟨a,hc⟩,e,d⟩⟩
end
section
open Go Go.RowKit
section
variable {P : Program} {l : Env} {w : World} {dst : Option Tmp} {ty : TypeId} {pos : String} {aft : Array Edge}
theorem Kc {t u:TypeId} {x y:Operand} {a b c:Int} (d:opv l x=some (.int .i64 a)) (e:opv l y=some (.int .i64 b)) (he:Q1 (a + b)=some c):Ev P ⟨dst,.binOp .add t x y u,ty,pos,aft,none⟩ l w (.int .i64 c):=by
  obtain ⟨rfl,h⟩:=Jf he
  exact PB d e h
theorem Kd {t u:TypeId} {x y:Operand} {a b c:Int} (d:opv l x=some (.int .i64 a)) (e:opv l y=some (.int .i64 b)) (he:Q1 (a - b)=some c):Ev P ⟨dst,.binOp .sub t x y u,ty,pos,aft,none⟩ l w (.int .i64 c):=by
  obtain ⟨rfl,h⟩:=Jf he
  exact Tg d e h
theorem Ni {t u:TypeId} {x y:Operand} {a b c:Int} (d:opv l x=some (.int .i64 a)) (e:opv l y=some (.int .i64 b)) (he:Q1 (a * b)=some c):Ev P ⟨dst,.binOp .mul t x y u,ty,pos,aft,none⟩ l w (.int .i64 c):=by
  obtain ⟨rfl,h⟩:=Jf he
  exact Th d e h
theorem Hw {t e:TypeId} [TSlice P t e] {z:Value} {size bytes:Nat} [TInfo P e z size bytes] {x i:Operand} {k:IntKind} {A:Option Addr} {b o m c j:Nat} {q:Int} (a:opv l x=some (.slice A m c)) (d:opv l i=some (.int k q)) (hA:A=some ⟨b,o,none⟩) (hj:q=(j:Int)) (hlt:j < m) :
    Ev P ⟨dst,.indexAddr t x i,ty,pos,aft,none⟩ l w (.pointer (some ⟨b,o + j * size,none⟩)):=by
  subst hA
  exact Ht a d hj hlt
theorem XW {t:TypeId} {f off:Nat} [TField P t f off] {x:Operand} {p:Option Addr} {b o:Nat} (a:opv l x=some (.pointer p)) (hA:p=some ⟨b,o,none⟩):Ev P ⟨dst,.fieldAddr t x f,ty,pos,aft,none⟩ l w (.pointer (some ⟨b,o + off,none⟩)):=by
  subst hA
  exact Fh a
theorem XX {x:Operand} {p:Option Addr} {a:Addr} (b:opv l x=some (.pointer p)) (hA:p=some a):Ev P ⟨dst,.nilCheck x,ty,pos,aft,none⟩ l w (.pointer p):=by
  subst hA
  exact JW b
theorem XY {x:Operand} {n:Int} [TInt P 61 .i64] (a:opv l x=some (.int .i64 n)) (hn:n≠0):Ev P ⟨dst,.makeInterface 61 x,ty,pos,aft,none⟩ l w (V6 n):=by
  rw [Kb hn]
  exact MZ a
theorem NX (a b c d:Int) (w:World):(Op.equal 45 (.agg #[.int .i64 a,.int .i64 b]) (.agg #[.int .i64 c,.int .i64 d])).run prog w=.ok (decide (a=c/\b=d)) w:=by
  have e:∀ (n:Nat) (x y:Int) (w:World),(Op.equalIn (n + 1) 3 (.int .i64 x) (.int .i64 y)).run prog w=.ok (x == y) w:=λ n x y w=>by simp [Op.equalIn,run_underlying underlying3]
  have hs:prog.stoodInHeld 45=false:=by kernel_rfl
  have hd:∀ n:Nat,(Op.equalIn (n + 2) 45 (.agg #[.int .i64 a,.int .i64 b]) (.agg #[.int .i64 c,.int .i64 d])).run prog w=.ok (decide (a=c/\b=d)) w:=λ n=>by
    rw [Op.equalIn]
    simp [run_underlying underlying45,hs,Go.part,FV (P:=prog) (t:=3),e]
    by_cases f:a=c<;>by_cases g:b=d<;>simp [f,g]
  exact hd 9998
theorem YM {u:TypeId} {x y:Operand} {a b c d:Int} (g:opv l x=some (.agg #[.int .i64 a,.int .i64 b])) (h:opv l y=some (.agg #[.int .i64 c,.int .i64 d])):Ev prog ⟨dst,.binOp .neq 45 x y u,ty,pos,aft,none⟩ l w (.bool (decide (¬ (a=c/\b=d)))):=λ _ _ e f=>by
  simp [execOp,f.eval g,f.eval h,eqGuard,binOp,NX]
theorem RJ {t u:TypeId} [TIface P t] {x:Operand} {n:Int} (a:opv l x=some (V6 n)):Ev P ⟨dst,.binOp .eql t x (.const .nilIface) u,ty,pos,aft,none⟩ l w (.bool (decide (n=0))):=by
  by_cases b:n=0
  . subst b
    rw [Jg] at a
    exact Tk a
  . rw [Kb b] at a
    simpa [b] using Sr (P:=P) (w:=w) (dst:=dst) (ty:=ty) (pos:=pos) (aft:=aft) (t:=t) (u:=u) a
theorem WG {t u:TypeId} [TIface P t] {x:Operand} {n:Int} (a:opv l x=some (V6 n)):Ev P ⟨dst,.binOp .neq t x (.const .nilIface) u,ty,pos,aft,none⟩ l w (.bool (decide (n≠0))):=by
  by_cases b:n=0
  . subst b
    rw [Jg] at a
    exact Na a
  . rw [Kb b] at a
    simpa [b] using Mc (P:=P) (w:=w) (dst:=dst) (ty:=ty) (pos:=pos) (aft:=aft) (t:=t) (u:=u) a
end
section
variable {P : Program} {n : Nat} {ops : Array Oper} {Q : Q8} {rest : List Oper} {l : Env} {w : World} {d : Tmp} {ty : TypeId} {pos : String} {aft : Array Edge}
theorem Fu {t u:TypeId} {x y:Operand} {a b c:Int} (e:opv l x=some (.int .i64 a)) (f:opv l y=some (.int .i64 b))  (g:owp P n ops Q rest ((d,.int .i64 c) :: l) w) (he:Q1 (a + b)=some c:=by assumption) (hd:Nat.blt d n=true:=by exact rfl):owp P n ops Q (⟨some d,.binOp .add t x y u,ty,pos,aft,none⟩ :: rest) l w:=Bp (Kc e f he) hd g
theorem Hf {t u:TypeId} {x y:Operand} {a b c:Int} (e:opv l x=some (.int .i64 a)) (f:opv l y=some (.int .i64 b))  (g:owp P n ops Q rest ((d,.int .i64 c) :: l) w) (he:Q1 (a - b)=some c:=by assumption) (hd:Nat.blt d n=true:=by exact rfl):owp P n ops Q (⟨some d,.binOp .sub t x y u,ty,pos,aft,none⟩ :: rest) l w:=Bp (Kd e f he) hd g
theorem Nj {t u:TypeId} {x y:Operand} {a b c:Int} (e:opv l x=some (.int .i64 a)) (f:opv l y=some (.int .i64 b)) (hd:Nat.blt d n=true) (g:owp P n ops Q rest ((d,.int .i64 c) :: l) w) (he:Q1 (a * b)=some c:=by assumption):owp P n ops Q (⟨some d,.binOp .mul t x y u,ty,pos,aft,none⟩ :: rest) l w:=Bp (Ni e f he) hd g
theorem CZ {t e:TypeId} [TSlice P t e] {z:Value} {size bytes:Nat} [TInfo P e z size bytes] {x i:Operand} {k:IntKind} {A:Option Addr} {b o m c j:Nat} {q:Int} (a:opv l x=some (.slice A m c)) (f:opv l i=some (.int k q))  (g:owp P n ops Q rest ((d,.pointer (some ⟨b,o + j * size,none⟩)) :: l) w) (hA:A=some ⟨b,o,none⟩:=by assumption) (hj:q=(j:Int):=by rfl) (hlt:j < m:=by assumption) (hd:Nat.blt d n=true:=by exact rfl):owp P n ops Q (⟨some d,.indexAddr t x i,ty,pos,aft,none⟩ :: rest) l w:=Bp (Hw a f hA hj hlt) hd g
theorem YN {t:TypeId} {f off:Nat} [TField P t f off] {x:Operand} {p:Option Addr} {b o:Nat} (a:opv l x=some (.pointer p)) (hd:Nat.blt d n=true) (c:owp P n ops Q rest ((d,.pointer (some ⟨b,o + off,none⟩)) :: l) w) (hA:p=some ⟨b,o,none⟩:=by assumption):owp P n ops Q (⟨some d,.fieldAddr t x f,ty,pos,aft,none⟩ :: rest) l w:=Bp (XW a hA) hd c
theorem YO {x:Operand} {p:Option Addr} {a:Addr} (b:opv l x=some (.pointer p)) (hd:Nat.blt d n=true) (c:owp P n ops Q rest ((d,.pointer p) :: l) w) (hA:p=some a:=by assumption):owp P n ops Q (⟨some d,.nilCheck x,ty,pos,aft,none⟩ :: rest) l w:=Bp (XX b hA) hd c
theorem XZ {t e:TypeId} [TSlice P t e] {z:Value} {size bytes:Nat} [TInfo P e z size bytes] {A a:Option Addr} {m c b f:Nat} {q:Int} {k:IntKind} {x y:Operand} (g:opv l x=some (.slice A m c)) (h:opv l y=some (.int k q)) (hd:Nat.blt d n=true) (i:owp P n ops Q rest ((d,.slice a b f) :: l) w) (hc:ZS size A m c 0 q a b f:=by assumption):owp P n ops Q (⟨some d,.slice t x none (some y) none,ty,pos,aft,none⟩ :: rest) l w:=Bp (RG g h hc) hd i
theorem Pw [TInt P 61 .i64] {x:Operand} {q:Int} (a:opv l x=some (.int .i64 q)) (hd:Nat.blt d n=true) (b:owp P n ops Q rest ((d,V6 q) :: l) w) (hn:q≠0:=by decide):owp P n ops Q (⟨some d,.makeInterface 61 x,ty,pos,aft,none⟩ :: rest) l w:=Bp (XY a hn) hd b
theorem Wn {t u:TypeId} [TIface P t] {x:Operand} {k:Int} (a:opv l x=some (V6 k)) (hd:Nat.blt d n=true) (b:k=0->owp P n ops Q rest ((d,.bool true) :: l) w) (hf:¬ (k=0)->owp P n ops Q rest ((d,.bool false) :: l) w):owp P n ops Q (⟨some d,.binOp .eql t x (.const .nilIface) u,ty,pos,aft,none⟩ :: rest) l w:=Gh (RJ a) hd b hf
theorem FS {t u:TypeId} [TIface P t] {x:Operand} {k:Int} (a:opv l x=some (V6 k))  (b:k≠0->owp P n ops Q rest ((d,.bool true) :: l) w) (hf:¬ (k≠0)->owp P n ops Q rest ((d,.bool false) :: l) w) (hd:Nat.blt d n=true:=by exact rfl):owp P n ops Q (⟨some d,.binOp .neq t x (.const .nilIface) u,ty,pos,aft,none⟩ :: rest) l w:=Gh (WG a) hd b hf
variable {S : World → Prop} {r : List (Nat × Bool)} {i : Nat}
theorem YP {u:TypeId} {x y:Operand} {a b c e:Int} (hi:ops[i]?=some ⟨some d,.binOp .neq 45 x y u,ty,pos,aft,none⟩) (f:opv l x=some (.agg #[.int .i64 a,.int .i64 b])) (g:opv l y=some (.agg #[.int .i64 c,.int .i64 e])) (hd:Nat.blt d n=true) (h:¬ (a=c/\b=e)->hwp prog n ops Q S r ((d,.bool true) :: l) w) (hf:¬ (¬ (a=c/\b=e))->hwp prog n ops Q S r ((d,.bool false) :: l) w):hwp prog n ops Q S ((i,true) :: r) l w:=Az hi (Bj (λ _ _=>YM f g) (hn:=hd) h hf)
theorem LK {t u:TypeId} {x y:Operand} {a b c:Int} (hi:ops[i]?=some ⟨some d,.binOp .add t x y u,ty,pos,aft,none⟩) (e:opv l x=some (.int .i64 a)) (f:opv l y=some (.int .i64 b)) (hd:Nat.blt d n=true) (g:hwp P n ops Q S r ((d,.int .i64 c) :: l) w) (he:Q1 (a + b)=some c:=by assumption):hwp P n ops Q S ((i,true) :: r) l w:=Az hi (Bh (λ _ _=>Kc e f he) hd g)
theorem YQ {t u:TypeId} {x y:Operand} {a b c:Int} (e:opv l x=some (.int .i64 a)) (f:opv l y=some (.int .i64 b)) (hd:Nat.blt d n=true) (g:hwp P n ops Q S r ((d,.int .i64 c) :: l) w) (he:Q1 (a + b)=some c:=by assumption):hwq P n ops Q S ⟨some d,.binOp .add t x y u,ty,pos,aft,none⟩ r l w:=Bh (λ _ _=>Kc e f he) hd g
theorem Wo {t u:TypeId} {x y:Operand} {a b c:Int} (hi:ops[i]?=some ⟨some d,.binOp .sub t x y u,ty,pos,aft,none⟩) (e:opv l x=some (.int .i64 a)) (f:opv l y=some (.int .i64 b)) (hd:Nat.blt d n=true) (g:hwp P n ops Q S r ((d,.int .i64 c) :: l) w) (he:Q1 (a - b)=some c:=by assumption):hwp P n ops Q S ((i,true) :: r) l w:=Az hi (Bh (λ _ _=>Kd e f he) hd g)
theorem YR {t u:TypeId} {x y:Operand} {a b c:Int} (e:opv l x=some (.int .i64 a)) (f:opv l y=some (.int .i64 b)) (hd:Nat.blt d n=true) (g:hwp P n ops Q S r ((d,.int .i64 c) :: l) w) (he:Q1 (a - b)=some c:=by assumption):hwq P n ops Q S ⟨some d,.binOp .sub t x y u,ty,pos,aft,none⟩ r l w:=Bh (λ _ _=>Kd e f he) hd g
theorem YS {t u:TypeId} {x y:Operand} {a b c:Int} (hi:ops[i]?=some ⟨some d,.binOp .mul t x y u,ty,pos,aft,none⟩) (e:opv l x=some (.int .i64 a)) (f:opv l y=some (.int .i64 b)) (hd:Nat.blt d n=true) (g:hwp P n ops Q S r ((d,.int .i64 c) :: l) w) (he:Q1 (a * b)=some c:=by assumption):hwp P n ops Q S ((i,true) :: r) l w:=Az hi (Bh (λ _ _=>Ni e f he) hd g)
theorem BT {t e:TypeId} [TSlice P t e] {z:Value} {size bytes:Nat} [TInfo P e z size bytes] {x a:Operand} {k:IntKind} {A:Option Addr} {b o m c j:Nat} {q:Int} (hi:ops[i]?=some ⟨some d,.indexAddr t x a,ty,pos,aft,none⟩) (f:opv l x=some (.slice A m c)) (g:opv l a=some (.int k q))  (h:hwp P n ops Q S r ((d,.pointer (some ⟨b,o + j * size,none⟩)) :: l) w) (hA:A=some ⟨b,o,none⟩:=by assumption) (hj:q=(j:Int):=by rfl) (hlt:j < m:=by assumption) (hd:Nat.blt d n=true:=by exact rfl):hwp P n ops Q S ((i,true) :: r) l w:=Az hi (Bh (λ _ _=>Hw f g hA hj hlt) hd h)
theorem Hx {t e:TypeId} [TSlice P t e] {z:Value} {size bytes:Nat} [TInfo P e z size bytes] {x a:Operand} {k:IntKind} {A:Option Addr} {b o m c j:Nat} {q:Int} (f:opv l x=some (.slice A m c)) (g:opv l a=some (.int k q))  (h:hwp P n ops Q S r ((d,.pointer (some ⟨b,o + j * size,none⟩)) :: l) w) (hA:A=some ⟨b,o,none⟩:=by assumption) (hj:q=(j:Int):=by rfl) (hlt:j < m:=by assumption) (hd:Nat.blt d n=true:=by exact rfl):hwq P n ops Q S ⟨some d,.indexAddr t x a,ty,pos,aft,none⟩ r l w:=Bh (λ _ _=>Hw f g hA hj hlt) hd h
theorem Ya {t e:TypeId} [TSlice P t e] {z:Value} {size bytes:Nat} [TInfo P e z size bytes] {A a:Option Addr} {m c b f:Nat} {q:Int} {k:IntKind} {x y:Operand} (hi:ops[i]?=some ⟨some d,.slice t x (some y) none none,ty,pos,aft,none⟩) (g:opv l x=some (.slice A m c)) (h:opv l y=some (.int k q)) (hd:Nat.blt d n=true) (j:hwp P n ops Q S r ((d,.slice a b f) :: l) w) (hc:ZS size A m c q (m:Int) a b f:=by assumption):hwp P n ops Q S ((i,true) :: r) l w:=Az hi (Bh (λ _ _=>WE g h hc) hd j)
theorem Yb {t e:TypeId} [TSlice P t e] {z:Value} {size bytes:Nat} [TInfo P e z size bytes] {A a:Option Addr} {m c b f:Nat} {q:Int} {k:IntKind} {x y:Operand} (hi:ops[i]?=some ⟨some d,.slice t x none (some y) none,ty,pos,aft,none⟩) (g:opv l x=some (.slice A m c)) (h:opv l y=some (.int k q)) (hd:Nat.blt d n=true) (j:hwp P n ops Q S r ((d,.slice a b f) :: l) w) (hc:ZS size A m c 0 q a b f:=by assumption):hwp P n ops Q S ((i,true) :: r) l w:=Az hi (Bh (λ _ _=>RG g h hc) hd j)
end
end
section
open Go Go.RowKit
abbrev U64:=BitVec 64
instance:Rp U64 where
  isAgg:=false
  size:=1
  R _ _ cs x:=cs=[.int .u64 (x.toNat:Int)]
  len:=by rintro w F cs x rfl;rfl
  one:=by
    rintro w F cs x rfl u hu
    have:u=.int .u64 (x.toNat:Int):=by simpa using hu
    subst this;rfl
  agree:=λ a _=>a
  mono:=λ a _=>a
theorem Vb.u64 {w:World} {F:Nat->Prop} {v:Value} {x:U64} (a:Vb w F v x):v=.int .u64 (x.toNat:Int):=by
  have:[v]=[.int .u64 (x.toNat:Int)]:=a
  simpa using this
theorem AbS {w:World} {F:Nat->Prop} {x:U64}:Vb w F (.int .u64 (x.toNat:Int)) x:=rfl
theorem Ab8 (a:Int):IntKind.u64.wrap a=a % 18446744073709551616:=by simp [IntKind.wrap,IntKind.bits,IntKind.signed]
section
variable {P : Program} {l : Env} {w : World} {dst : Option Tmp} {ty : TypeId} {pos : String} {aft : Array Edge}
theorem Yc {s t:TypeId} {k:IntKind} [hs:TInt P s k] [b:TInt P t .u64] {x:Operand} {a:Int} (c:opv l x=some (.int k a)):Ev P ⟨dst,.convert s t x,ty,pos,aft,none⟩ l w (.int .u64 ((BitVec.ofInt 64 a).toNat:Int)):=λ _ _ d e=>by
  have f:IntKind.u64.wrap a=((BitVec.ofInt 64 a).toNat:Int):=by
    rw [Ab8,BitVec.toNat_ofInt]
    have:(0:Int)<=a % 18446744073709551616:=by omega
    simp
    omega
  simp [execOp,e.eval c,convert,run_underlying hs.eq,run_underlying b.eq,Conv.intToInt,f]
theorem Yd {s t:TypeId} [hs:TInt P s .u64] [b:TInt P t .i64] {x:Operand} {a:U64} (c:opv l x=some (.int .u64 (a.toNat:Int))):Ev P ⟨dst,.convert s t x,ty,pos,aft,none⟩ l w (.int .i64 a.toInt):=λ _ _ d e=>by
  have f:IntKind.i64.wrap (a.toNat:Int)=a.toInt:=by
    rw [IntKind.wrap_i64,BitVec.toInt_eq_toNat_cond]
    have:=a.isLt
    split<;>omega
  simp [execOp,e.eval c,convert,run_underlying hs.eq,run_underlying b.eq,Conv.intToInt,f]
end
section
variable {P : Program} {n : Nat} {ops : Array Oper} {Q : Q8} {rest : List Oper} {l : Env} {w : World} {d : Tmp} {ty : TypeId} {pos : String} {aft : Array Edge}
theorem Wp {s t:TypeId} {k:IntKind} [TInt P s k] [TInt P t .u64] {x:Operand} {a:Int} (b:opv l x=some (.int k a)) (hd:Nat.blt d n=true) (c:owp P n ops Q rest ((d,.int .u64 ((BitVec.ofInt 64 a).toNat:Int)) :: l) w)  : owp P n ops Q (⟨some d,.convert s t x,ty,pos,aft,none⟩ :: rest) l w:=Bp (Yc b) hd c
theorem YT {s t:TypeId} [TInt P s .u64] [TInt P t .i64] {x:Operand} {a:U64} (b:opv l x=some (.int .u64 (a.toNat:Int))) (hd:Nat.blt d n=true) (c:owp P n ops Q rest ((d,.int .i64 a.toInt) :: l) w)  : owp P n ops Q (⟨some d,.convert s t x,ty,pos,aft,none⟩ :: rest) l w:=Bp (Yd b) hd c
variable {S : World → Prop} {r : List (Nat × Bool)} {i : Nat}
end
end
end Go.Proofs.YtdlhmdckakbboaaGreatDoor

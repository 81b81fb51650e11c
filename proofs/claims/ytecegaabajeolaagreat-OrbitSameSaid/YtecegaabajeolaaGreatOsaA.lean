/- Own text: what the proof of orbitSame_holds uses, part 1: rules, models and their proofs, plain laws. -/
import Derived.Tactics
import Derived.Below
import Derived.OrdersHeld
import Derived.KernelRfl
import Derived.OwnWalk
import Derived.Maps.AppendAt
import Derived.Laws.MakeOwn
import Derived.Deep.Slices
import Derived.ChangeSame
import Derived.Test.YtecegaabajeolaaGreatProg
import Derived.ProofKit
import Derived.ReadAgain
import Derived.ChangeStays
import Derived.MapKept
import Derived.Ground.SlsfProg
import Derived.Shelf.SlSortCmp.WholeK
import Derived.Shelf.SlSortCmp.NoneTotal
import Derived.Sort.AssemblyPlain
import Derived.Shelf.Sort.Plain
import Derived.Shelf.Slices.In.SortNone
set_option linter.unusedVariables false
set_option linter.unusedSimpArgs false
namespace Go.Proofs.YtecegaabajeolaaGreat
open Go Go.RowKit
section
open Go Go.RowKit
abbrev Env:=List (Nat×Value)
def lk:Env→Nat→Option Value
  | [],_=>none
  | (i,v) :: l,j=>match Nat.beq i j with
    | true=>some v
    | false=>lk l j
def opv (l:Env):Operand→Option Value
  | .tmp t=>lk l t
  | .const v=>some v
  | .global g=>some (.pointer (some ⟨g,0,none⟩))
  | .func f=>some (.func (.func f) #[] #[])
def opvs (l:Env):List Operand→Option (List Value)
  | []=>some []
  | x :: r=>match opv l x with
    | some v=>match opvs l r with
      | some vs=>some (v :: vs)
      | none=>none
    | none=>none
structure Ok (n:Nat) (a:Act) (l:Env):Prop where
  size:a.tmps.size=n
  defers:a.defers=[]
  knows:∀ i v,lk l i=some v→a.tmps.getD i undef=v
theorem Ok.put {n d:Nat} {a:Act} {l:Env} (h:Ok n a l) (hd:Nat.blt d n=true) (v:Value):Ok n (a.put (some d) v) ((d,v) :: l):=by
  have hd':d < n:=by simpa using hd
  refine ⟨by simp [Act.put,h.size],h.defers,fun i u hu=>?_⟩
  simp only [lk] at hu
  cases hb:Nat.beq d i with
  | true =>
    rw [hb] at hu
    have:d=i:=Nat.eq_of_beq_eq_true hb
    subst this
    have hlt:d < a.tmps.size:=by rw [h.size];exact hd'
    simp only [Act.put,Array.getD_eq_getD_getElem?,Array.getElem?_setIfInBounds,hlt,if_true,Option.getD_some]
    simpa using hu
  | false =>
    rw [hb] at hu
    have hne:d≠i:=Nat.ne_of_beq_eq_false hb
    have:=h.knows i u hu
    simp only [Act.put,Array.getD_eq_getD_getElem?,Array.getElem?_setIfInBounds,hne,if_false] at this ⊢
    exact this
theorem Ok.eval {n:Nat} {a:Act} {l:Env} (h:Ok n a l) {x:Operand} {v:Value} (hx:opv l x=some v):a.eval x=v:=by
  cases x with
  | tmp t=>exact h.knows t v hx
  | const u=>simpa [opv,Act.eval] using hx
  | global g=>simpa [opv,Act.eval] using hx
  | func f=>simpa [opv,Act.eval] using hx
theorem Ok.evals {n:Nat} {a:Act} {l:Env} (h:Ok n a l):∀ {xs:List Operand} {vs:List Value},opvs l xs=some vs→xs.map a.eval=vs
  | [],vs,hx=>by simpa [opvs] using hx
  | x :: r,vs,hx=>by
    simp only [opvs] at hx
    cases hv:opv l x with
    | none=>rw [hv] at hx;simp at hx
    | some v =>
      rw [hv] at hx
      cases hr:opvs l r with
      | none=>rw [hr] at hx;simp at hx
      | some us =>
        rw [hr] at hx
        have hx':v :: us=vs:=by simpa using hx
        rw [List.map_cons,h.eval hv,h.evals hr,hx']
def subs (l:Env):Env→Prop
  | []=>True
  | (i,v) :: r=>lk l i=some v∧subs l r
theorem Df {l:Env}:∀ {l':Env},subs l l'→∀ i v,lk l' i=some v→lk l i=some v
  | [],_,i,v,h=>by simp [lk] at h
  | (j,u) :: r,hs,i,v,h=>by
    simp only [lk] at h
    cases hb:Nat.beq j i with
    | true =>
      rw [hb] at h
      have:j=i:=Nat.eq_of_beq_eq_true hb
      subst this
      have:u=v:=by simpa using h
      subst this
      exact hs.1
    | false=>rw [hb] at h;exact Df hs.2 i v h
theorem Ok.sub {n:Nat} {a:Act} {l l':Env} (h:Ok n a l) (hs:subs l l'):Ok n a l':=⟨h.size,h.defers,fun i v hv=>h.knows i v (Df hs i v hv)⟩
def dr (w:World) (d:Nat):World:={ w with drawn:=d }
theorem Pg (w:World):dr w w.drawn=w:=rfl
theorem GO (w:World) (d:Nat):(dr w d).heap=w.heap:=rfl
theorem JK (w:World) (d:Nat) (a:Addr):(dr w d).cell? a=w.cell? a:=rfl
abbrev Post:=Exit→Env→World→Prop
def noPanic:Exit→Prop
  | .panic _=>False
  | .outgrown=>False
  | _=>True
def lift (n:Nat) (Q:Post) (e:Exit) (a:Act) (w:World):Prop:=noPanic e∧∃ l w₀ d,w=dr w₀ d∧Ok n a l∧Q e l w₀
theorem Ga {n:Nat} {Q:Post} {e:Exit} {a:Act} {w:World} {l:Env} {d:Nat} (he:noPanic e) (h:Ok n a l) (hq:Q e l w):lift n Q e a (dr w d):=⟨he,l,w,d,rfl,h,hq⟩
def ewp (P:Program) (n:Nat) (c:Code) (Q:Post) (l:Env) (w:World):Prop:=∀ a d,Ok n a l→c.wp P (lift n Q) a (dr w d)
def owp (P:Program) (n:Nat) (ops:Array Oper) (Q:Post) (rest:List Oper) (l:Env) (w:World):Prop:=∀ a d,Ok n a l→wpList P ops (lift n Q) rest a (dr w d)
section code
variable {P : Program} {n : Nat} {Q : Post} {l : Env} {w : World}
def thn (K:Env→World→Prop) (Q:Post):Post
  | .normal,l,w=>K l w
  | e,l,w=>Q e l w
theorem Ge {c:Code} {Q':Post} (hq:∀ e l w,Q e l w→Q' e l w) (h:ewp P n c Q l w):ewp P n c Q' l w :=
  fun a d ha=>Code.wp_mono (fun _ _ _ ⟨hn,l,w,d,hw,ho,q⟩=>⟨hn,l,w,d,hw,ho,hq _ _ _ q⟩) (h a d ha)
theorem Al {x y:Code} (h:ewp P n x (thn (ewp P n y Q) Q) l w):ewp P n (.seq x y) Q l w:=fun a d ha =>
  wp_seq (Code.wp_mono (fun e a w hl=>by
    obtain ⟨hn,l',w',d',rfl,ho,hq⟩:=hl
    cases e with
    | normal=>exact hq a d' ho
    | panic c=>exact hn.elim
    | outgrown=>exact hn.elim
    | exit i=>exact ⟨trivial,l',w',d',rfl,ho,hq⟩
    | goto i=>exact ⟨trivial,l',w',d',rfl,ho,hq⟩
    | ret=>exact ⟨trivial,l',w',d',rfl,ho,hq⟩) (h a d ha))
theorem LY {x y:Code} (M:Env→World→Prop) (h:ewp P n x (thn M Q) l w) (k:∀ l' w',M l' w'→ewp P n y Q l' w'):ewp P n (.seq x y) Q l w :=
  Al (Ge (fun e l w q=>by cases e<;>first|exact k _ _ q|exact q) h)
theorem AO (h:Q .normal l w):ewp P n .skip Q l w:=fun _ _ ha=>wp_skip (Ga trivial ha h)
theorem DM {i:Nat} (h:Q (.exit i) l w):ewp P n (.exit i) Q l w:=fun _ _ ha=>wp_exit (Ga trivial ha h)
theorem AH (h:Q .ret l w):ewp P n .ret Q l w:=fun _ _ ha=>wp_ret (Ga trivial ha h)
theorem Ah {c:Operand} {x y:Code} (hc:opv l c=some (.bool true)) (h:ewp P n x Q l w):ewp P n (.cond c x y) Q l w:=fun a d ha=>wp_cond_true (ha.eval hc) (h a d ha)
theorem Ae {c:Operand} {x y:Code} (hc:opv l c=some (.bool false)) (h:ewp P n y Q l w):ewp P n (.cond c x y) Q l w:=fun a d ha=>wp_cond_false (ha.eval hc) (h a d ha)
theorem BW {c:Operand} {x y:Code} {b:Bool} (hc:opv l c=some (.bool b)) (ht:b=true→ewp P n x Q l w) (hf:b=false→ewp P n y Q l w):ewp P n (.cond c x y) Q l w:=by
  cases b
  · exact Ae hc (hf rfl)
  · exact Ah hc (ht rfl)
def inBlk (id:Nat) (Q:Post):Post
  | .exit i,l,w=>match Nat.beq i id with
    | true=>Q .normal l w
    | false=>Q (.exit i) l w
  | e,l,w=>Q e l w
theorem Bb {id:Nat} {c:Code} (h:ewp P n c (inBlk id Q) l w):ewp P n (.block id c) Q l w:=fun a d ha =>
  wp_block (Code.wp_mono (fun e a w hl=>by
    obtain ⟨hn,l',w',d',rfl,ho,hq⟩:=hl
    cases e with
    | exit i =>
      simp only [Exit.inBlock]
      simp only [inBlk] at hq
      by_cases hi:i=id
      · subst hi
        have hb:Nat.beq i i=true:=Nat.beq_refl i
        rw [hb] at hq
        rw [if_pos rfl]
        exact ⟨trivial,l',w',d',rfl,ho,hq⟩
      · have hb:Nat.beq i id=false:=by
          cases hx:Nat.beq i id
          · rfl
          · exact absurd (Nat.eq_of_beq_eq_true hx) hi
        rw [hb] at hq
        rw [if_neg hi]
        exact ⟨trivial,l',w',d',rfl,ho,hq⟩
    | panic c=>exact hn.elim
    | outgrown=>exact hn.elim
    | normal=>exact ⟨trivial,l',w',d',rfl,ho,hq⟩
    | goto i=>exact ⟨trivial,l',w',d',rfl,ho,hq⟩
    | ret=>exact ⟨trivial,l',w',d',rfl,ho,hq⟩) (h a d ha))
theorem AQ {c:Code} (l':Env) (hs:subs l l') (h:ewp P n c Q l' w):ewp P n c Q l w:=fun a d ha=>h a d (ha.sub hs)
theorem KL {c:Code} {X:Type} (E:X→Env) (I:X→World→Prop) (μ:X→Nat) (x₀:X) (hs:subs l (E x₀)) (h₀:I x₀ w)
    (round:∀ x w,I x w→ewp P n c (thn (fun l' w'=>∃ x',subs l' (E x')∧I x' w'∧μ x' < μ x) Q) (E x) w):ewp P n (.loop c) Q l w:=by
  intro a d ha
  have key:∀ (m:Nat) (x:X) (a:Act) (w:World) (d:Nat),μ x≤m→Ok n a (E x)→I x w→(Code.loop c).wp P (lift n Q) a (dr w d):=by
    intro m x a w d hm hok hI
    refine wp_loop (fun a' w'=>∃ x' w₀ d',w'=dr w₀ d'∧Ok n a' (E x')∧I x' w₀) (fun a' w'=>Classical.epsilon fun k=>∃ x' w₀ d',w'=dr w₀ d'∧Ok n a' (E x')∧I x' w₀∧μ x'=k ∧
      ∀ x'' w₁ d'',w'=dr w₁ d''→Ok n a' (E x'')→I x'' w₁→k≤μ x'') ⟨x,w,d,rfl,hok,hI⟩ ?_
    have least:∀ a' w',(∃ x' w₀ d',w'=dr w₀ d'∧Ok n a' (E x')∧I x' w₀)→∃ k,∃ x' w₀ d',w'=dr w₀ d'∧Ok n a' (E x')∧I x' w₀∧μ x'=k ∧
        ∀ x'' w₁ d'',w'=dr w₁ d''→Ok n a' (E x'')→I x'' w₁→k≤μ x'':=by
      intro a' w' ⟨x',w₀,d',hw,ho,hI'⟩
      have:∀ m x' w₀ d',μ x'≤m→w'=dr w₀ d'→Ok n a' (E x')→I x' w₀→∃ k,∃ x' w₀ d',w'=dr w₀ d'∧Ok n a' (E x')∧I x' w₀∧μ x'=k ∧
          ∀ x'' w₁ d'',w'=dr w₁ d''→Ok n a' (E x'')→I x'' w₁→k≤μ x'':=by
        intro m
        induction m with
        | zero=>exact fun x' w₀ d' hm hw ho hI=>⟨μ x',x',w₀,d',hw,ho,hI,rfl,fun _ _ _ _ _ _=>by omega⟩
        | succ m ih =>
          intro x' w₀ d' hm hw ho hI
          by_cases hex:∃ x'' w₁ d'',w'=dr w₁ d''∧Ok n a' (E x'')∧I x'' w₁∧μ x''≤m
          · obtain ⟨x'',w₁,d'',h1,h2,h3,h4⟩:=hex
            exact ih x'' w₁ d'' h4 h1 h2 h3
          · refine ⟨μ x',x',w₀,d',hw,ho,hI,rfl,fun x'' w₁ d'' h1 h2 h3=>?_⟩
            rcases Nat.lt_or_ge (μ x'') (μ x') with h|h
            · exact absurd ⟨x'',w₁,d'',h1,h2,h3,by omega⟩ hex
            · exact h
      exact this _ x' w₀ d' (Nat.le_refl _) hw ho hI'
    intro a' w' hinv
    have hk:=Classical.epsilon_spec (least a' w' hinv)
    obtain ⟨x',w₀,d',rfl,ho,hI',hμ,hmin⟩:=hk
    refine Code.wp_mono (fun e a'' w'' hl=>?_) (round x' w₀ hI' a' d' ho)
    obtain ⟨hn,l',w₁,d₁,rfl,ho',hq⟩:=hl
    cases e with
    | normal =>
      obtain ⟨x₂,hs₂,hI₂,hlt⟩:=hq
      have ho₂:=ho'.sub hs₂
      refine ⟨⟨x₂,w₁,d₁,rfl,ho₂,hI₂⟩,?_⟩
      have hk₂:=Classical.epsilon_spec (least a'' (dr w₁ d₁) ⟨x₂,w₁,d₁,rfl,ho₂,hI₂⟩)
      obtain ⟨x₃,w₃,d₃,hw₃,ho₃,hI₃,hμ₃,hmin₃⟩:=hk₂
      have hle:=hmin₃ x₂ w₁ d₁ rfl ho₂ hI₂
      exact Nat.lt_of_le_of_lt hle (Nat.lt_of_lt_of_eq hlt hμ)
    | panic c=>exact hn.elim
    | outgrown=>exact hn.elim
    | exit i=>exact ⟨trivial,l',w₁,d₁,rfl,ho',hq⟩
    | goto i=>exact ⟨trivial,l',w₁,d₁,rfl,ho',hq⟩
    | ret=>exact ⟨trivial,l',w₁,d₁,rfl,ho',hq⟩
  exact key _ x₀ a w d (Nat.le_refl _) (ha.sub hs) h₀
theorem Aj {id:Nat} {L:List Oper} (h:owp P n L.toArray Q L l w):ewp P n (.region id L.toArray false) Q l w:=fun a d ha=>wp_region_lit (h a d ha)
end code
def Ev (P:Program) (o:Oper) (l:Env) (w:World) (v:Value):Prop:=∀ n a d,Ok n a l→(execOp a.eval o).run P (dr w d)=.ok (.value v) (dr w d)
def gdst (ops:Array Oper) (j:Nat):Option Tmp:=(ops[j]?).bind (·.dst)
theorem Ok.yielded {n:Nat} {a:Act} {l:Env} (h:Ok n a l) {ops:Array Oper} {j dj:Nat} {b:Bool} (hj:gdst ops j=some dj) (hl:lk l dj=some (.bool b)):Go.yielded ops a.tmps j=some b:=by
  have h1:=h.knows dj _ hl
  unfold Go.yielded
  unfold gdst at hj
  rw [hj]
  simp only [Option.bind_some]
  rw [Array.getD_eq_getD_getElem?] at h1
  cases hx:a.tmps[dj]? with
  | none=>rw [hx] at h1;simp [undef] at h1
  | some u=>rw [hx] at h1;simp only [Option.getD_some] at h1;subst h1;rfl
def isB:Value→Bool→Bool
  | .bool true,true=>true
  | .bool false,false=>true
  | _,_=>false
theorem Ok.unwanted {n:Nat} {a:Act} {l:Env} (h:Ok n a l) {ops:Array Oper} {j dj:Nat} {u:Value} {b:Bool} (hj:gdst ops j=some dj) (hl:lk l dj=some u) (hu:isB u b=false):(Go.yielded ops a.tmps j == some b)=false:=by
  have h1:=h.knows dj _ hl
  unfold Go.yielded
  unfold gdst at hj
  rw [hj]
  simp only [Option.bind_some]
  rw [Array.getD_eq_getD_getElem?] at h1
  cases hx:a.tmps[dj]? with
  | none=>rfl
  | some x =>
    rw [hx] at h1
    simp only [Option.getD_some] at h1
    subst h1
    cases x<;>first|rfl|(rename_i c;cases c<;>cases b<;>first|rfl|(simp [isB] at hu))
section ops
variable {P : Program} {n : Nat} {ops : Array Oper} {Q : Post} {rest : List Oper} {l : Env} {w : World}
theorem Fp (h:Q .normal l w):owp P n ops Q [] l w:=fun _ _ ha=>wpList_nil (Ga trivial ha h)
theorem GP {dst:Option Tmp} {op:Op} {ty:TypeId} {pos:String} {aft:Array Edge}
    (h:∀ a d,Ok n a l→∀ K:Act→World→Prop,(∀ a' w',wpList P ops (lift n Q) rest a' w'→K a' w')→(⟨dst,op,ty,pos,aft,none⟩:Oper).wp P a (dr w d) K (lift n Q)):owp P n ops Q (⟨dst,op,ty,pos,aft,none⟩ :: rest) l w :=
  fun a d ha=>wpList_plain rfl fun K hK=>h a d ha K hK
theorem Bz {d:Tmp} {op:Op} {ty:TypeId} {pos:String} {aft:Array Edge} {v:Value} (he:Ev P ⟨some d,op,ty,pos,aft,none⟩ l w v) (hd:Nat.blt d n=true)
    (h:owp P n ops Q rest ((d,v) :: l) w):owp P n ops Q (⟨some d,op,ty,pos,aft,none⟩ :: rest) l w :=
  GP fun a e ha K hK=>by
    unfold Oper.wp
    rw [he n a e ha]
    exact hK _ _ (h _ _ (ha.put hd v))
theorem GQ {dst:Option Tmp} {op:Op} {ty:TypeId} {pos:String} {aft:Array Edge} {l':Env} {w':World}
    (he:∀ a d,Ok n a l→(∃ v d',(execOp a.eval ⟨dst,op,ty,pos,aft,none⟩).run P (dr w d)=.ok (.value v) (dr w' d')∧Ok n (a.put dst v) l')∨(∃ d',(execOp a.eval ⟨dst,op,ty,pos,aft,none⟩).run P (dr w d)=.ok .skip (dr w' d')∧Ok n (a.put dst undef) l'))
    (h:owp P n ops Q rest l' w'):owp P n ops Q (⟨dst,op,ty,pos,aft,none⟩ :: rest) l w :=
  GP fun a e ha K hK=>by
    unfold Oper.wp
    rcases he a e ha with ⟨v,d',hr,ho⟩|⟨d',hr,ho⟩
    · rw [hr];exact hK _ _ (h _ _ ho)
    · rw [hr];exact hK _ _ (h _ _ ho)
theorem Az {dst:Option Tmp} {op:Op} {ty:TypeId} {pos:String} {aft:Array Edge} {j dj:Nat} {b:Bool} (hj:gdst ops j=some dj) (hl:lk l dj=some (.bool b))
    (h:owp P n ops Q (⟨dst,op,ty,pos,aft,none⟩ :: rest) l w):owp P n ops Q (⟨dst,op,ty,pos,aft,some (j,b)⟩ :: rest) l w:=fun a d ha=>by
  have h1:=h a d ha
  have hy:=ha.yielded hj hl
  unfold wpList at h1 ⊢
  rw [if_pos (by simp [Region.wanted])] at h1
  rw [if_pos (by simp [Region.wanted,hy])]
  exact h1
theorem Au {d:Tmp} {op:Op} {ty:TypeId} {pos:String} {aft:Array Edge} {j dj:Nat} {b:Bool} {u:Value} (hj:gdst ops j=some dj) (hl:lk l dj=some u) (hu:isB u b=false) (hd:Nat.blt d n=true)
    (h:owp P n ops Q rest ((d,undef) :: l) w):owp P n ops Q (⟨some d,op,ty,pos,aft,some (j,b)⟩ :: rest) l w:=fun a e ha=>by
  have hy:=ha.unwanted (b:=b) hj hl hu
  unfold wpList
  rw [if_neg (by simpa [Region.wanted] using hy)]
  exact h _ _ (ha.put hd undef)
end ops
end
section
open Go Go.RowKit
class TSlice (P:Program) (t:TypeId) (e:outParam TypeId):Prop where eq:P.underlying t=some (.slice e)
class TStr (P:Program) (t:TypeId):Prop where eq:P.underlying t=some .string
class TPtr (P:Program) (t:TypeId) (e:outParam TypeId):Prop where eq:P.underlying t=some (.pointer e)
class TIface (P:Program) (t:TypeId):Prop where eq:∃ ms,P.underlying t=some (.interface ms)
class TInt (P:Program) (t:TypeId) (k:outParam IntKind):Prop where eq:P.underlying t=some (.int k)
class TOne (P:Program) (t:TypeId):Prop where eq:∃ d,P.underlying t=some d∧(match d with|.struct _|.array _ _=>false|_=>true)=true
class TAgg (P:Program) (t:TypeId):Prop where eq:∃ d,P.underlying t=some d∧(match d with|.struct _|.array _ _=>true|_=>false)=true
class TInfo (P:Program) (t:TypeId) (z:outParam Value) (size bytes:outParam Nat):Prop where
  eq:∃ i,P.info? t=some i∧i.zero=some z∧i.size=size∧i.bytes=bytes
  sz:z.cells.size=size
class TField (P:Program) (t:TypeId) (f:Nat) (off:outParam Nat):Prop where eq:∃ fs fd i,P.underlying t=some (.struct fs)∧fs[f]?=some fd∧fd.offset=off∧P.info? fd.type=some i∧i.size≠0
theorem HF (b o k:Nat):(⟨b,o,none⟩:Addr).add k=⟨b,o + k,none⟩:=by
  unfold Addr.add
  by_cases h:k=0<;>simp [h]
section
variable {P : Program} {l : Env} {w : World} {dst : Option Tmp} {ty : TypeId} {pos : String} {aft : Array Edge}
theorem DG {t:TypeId} {z:Value} {size bytes:Nat} [h:TInfo P t z size bytes] (w:World):(sizeOf t).run P w=.ok size w:=by
  obtain ⟨i,hi,_,hs,_⟩:=h.eq
  simp [sizeOf,typeInfo,hi,hs]
theorem KM {t:TypeId} {i:TypeInfo} (hi:P.info? t=some i) (w:World):(typeInfo t).run P w=.ok i w:=by
  simp [typeInfo,hi]
theorem GY {t:TypeId} {z:Value} {size bytes:Nat} [h:TInfo P t z size bytes] (w:World):(zeroValue t).run P w=.ok z w:=by
  obtain ⟨i,hi,hz,_,_⟩:=h.eq
  simp [zeroValue,typeInfo,hi,hz]
theorem Gf {t:TypeId} [h:TOne P t] (w:World):(isAgg t).run P w=.ok false w:=by
  obtain ⟨d,hd,hm⟩:=h.eq
  cases d<;>simp_all [isAgg,run_underlying hd]
theorem FL {t:TypeId} [h:TAgg P t] (w:World):(isAgg t).run P w=.ok true w:=by
  obtain ⟨d,hd,hm⟩:=h.eq
  cases d<;>simp_all [isAgg,run_underlying hd]
theorem If {x:Operand} {v:Value} (hx:opv l x=some v):Ev P ⟨dst,.move x,ty,pos,aft,none⟩ l w v:=fun _ a d ha=>by simp [execOp,ha.eval hx]
theorem JZ {x:Operand} {v:Value} (hx:opv l x=some v):Ev P ⟨dst,.assign x,ty,pos,aft,none⟩ l w v:=fun _ a d ha=>by simp [execOp,ha.eval hx]
theorem IG {c x y:Operand} {v:Value} (hc:opv l c=some (.bool true)) (hx:opv l x=some v):Ev P ⟨dst,.pick c x y,ty,pos,aft,none⟩ l w v:=fun _ a d ha=>by simp [execOp,ha.eval hx,ha.eval hc,asBool]
theorem IH {c x y:Operand} {v:Value} (hc:opv l c=some (.bool false)) (hy:opv l y=some v):Ev P ⟨dst,.pick c x y,ty,pos,aft,none⟩ l w v:=fun _ a d ha=>by simp [execOp,ha.eval hy,ha.eval hc,asBool]
theorem Jl {t:TypeId} {x:Operand} {b:Bool} (hx:opv l x=some (.bool b)):Ev P ⟨dst,.unOp .not t x,ty,pos,aft,none⟩ l w (.bool (!b)):=fun _ a d ha=>by simp [execOp,ha.eval hx,Op.unary]
theorem JL {t:TypeId} {x:Operand} (hx:opv l x=some (.bool true)):Ev P ⟨dst,.unOp .not t x,ty,pos,aft,none⟩ l w (.bool false):=Jl hx
theorem JM {t:TypeId} {x:Operand} (hx:opv l x=some (.bool false)):Ev P ⟨dst,.unOp .not t x,ty,pos,aft,none⟩ l w (.bool true):=Jl hx
theorem Cy {t u:TypeId} {x y:Operand} {k:IntKind} {a b:Int} (hx:opv l x=some (.int k a)) (hy:opv l y=some (.int k b)):Ev P ⟨dst,.binOp .lss t x y u,ty,pos,aft,none⟩ l w (.bool (decide (a < b))):=fun _ _ d ha=>by simp [execOp,ha.eval hx,ha.eval hy,eqGuard,binOp,Op.intCmp]
theorem GR {t u:TypeId} {x y:Operand} {k:IntKind} {a b:Int} (hx:opv l x=some (.int k a)) (hy:opv l y=some (.int k b)):Ev P ⟨dst,.binOp .leq t x y u,ty,pos,aft,none⟩ l w (.bool (decide (a≤b))):=fun _ _ d ha=>by simp [execOp,ha.eval hx,ha.eval hy,eqGuard,binOp,Op.intCmp]
theorem En {t u:TypeId} {x y:Operand} {k:IntKind} {a b:Int} (hx:opv l x=some (.int k a)) (hy:opv l y=some (.int k b)):Ev P ⟨dst,.binOp .gtr t x y u,ty,pos,aft,none⟩ l w (.bool (decide (b < a))):=fun _ _ d ha=>by simp [execOp,ha.eval hx,ha.eval hy,eqGuard,binOp,Op.intCmp]
theorem Bv {t u:TypeId} {x y:Operand} {k:IntKind} {a b:Int} (hx:opv l x=some (.int k a)) (hy:opv l y=some (.int k b)):Ev P ⟨dst,.binOp .geq t x y u,ty,pos,aft,none⟩ l w (.bool (decide (b≤a))):=fun _ _ d ha=>by simp [execOp,ha.eval hx,ha.eval hy,eqGuard,binOp,Op.intCmp]
theorem GS {t u:TypeId} {x y:Operand} {k:IntKind} {a b:Int} (hx:opv l x=some (.int k a)) (hy:opv l y=some (.int k b)):Ev P ⟨dst,.binOp .eql t x y u,ty,pos,aft,none⟩ l w (.bool (decide (a=b))):=fun _ _ d ha=>by
  simp [execOp,ha.eval hx,ha.eval hy,eqGuard,binOp,Op.intCmp]
  by_cases h:a=b<;>simp [h]
theorem Qa {t u:TypeId} {x y:Operand} {k:IntKind} {a b:Int} (hx:opv l x=some (.int k a)) (hy:opv l y=some (.int k b)):Ev P ⟨dst,.binOp .neq t x y u,ty,pos,aft,none⟩ l w (.bool (!decide (a=b))):=fun _ _ d ha=>by
  simp [execOp,ha.eval hx,ha.eval hy,eqGuard,binOp,Op.intCmp]
  by_cases h:a=b<;>simp [h]
theorem wrap_i64 {z:Int} (h1:-9223372036854775808≤z) (h2:z≤9223372036854775807):IntKind.i64.wrap z=z:=by
  rw [IntKind.wrap_i64];omega
theorem KN {t u:TypeId} {x y:Operand} {a b:Int} (hx:opv l x=some (.int .i64 a)) (hy:opv l y=some (.int .i64 b)) (h:-9223372036854775808≤a + b∧a + b≤9223372036854775807):Ev P ⟨dst,.binOp .add t x y u,ty,pos,aft,none⟩ l w (.int .i64 (a + b)):=fun _ _ d ha=>by
  simp [execOp,ha.eval hx,ha.eval hy,eqGuard,binOp,Op.intArith,wrap_i64 h.1 h.2]
theorem MX {t u:TypeId} {x y:Operand} {a b:Int} (hx:opv l x=some (.int .i64 a)) (hy:opv l y=some (.int .i64 b)) (h:-9223372036854775808≤a - b∧a - b≤9223372036854775807):Ev P ⟨dst,.binOp .sub t x y u,ty,pos,aft,none⟩ l w (.int .i64 (a - b)):=fun _ _ d ha=>by
  simp [execOp,ha.eval hx,ha.eval hy,eqGuard,binOp,Op.intArith,wrap_i64 h.1 h.2]
theorem MY {t u:TypeId} {x y:Operand} {a b:Int} (hx:opv l x=some (.int .i64 a)) (hy:opv l y=some (.int .i64 b)) (h:-9223372036854775808≤a * b∧a * b≤9223372036854775807):Ev P ⟨dst,.binOp .mul t x y u,ty,pos,aft,none⟩ l w (.int .i64 (a * b)):=fun _ _ d ha=>by
  simp [execOp,ha.eval hx,ha.eval hy,eqGuard,binOp,Op.intArith,wrap_i64 h.1 h.2]
theorem KO {t u:TypeId} {x:Operand} {a:Nat} (hx:opv l x=some (.int .i64 (a:Int))) (h:a < 9223372036854775807):Ev P ⟨dst,.binOp .add t x (.const (.int .i64 1)) u,ty,pos,aft,none⟩ l w (.int .i64 ((a + 1:Nat):Int)):=fun _ _ d ha=>by
  simp [execOp,ha.eval hx,ha.eval (x:=.const (.int .i64 1)) rfl,eqGuard,binOp,Op.intArith,wrap_i64 (z:=(a:Int) + 1) (by omega) (by omega)]
theorem KP {t e:TypeId} [h:TSlice P t e] {x:Operand} {A:Option Addr} {m c:Nat} (hx:opv l x=some (.slice A m c)):Ev P ⟨dst,.call { callee:=.builtin .len,args:=#[x],argTypes:=#[t] },ty,pos,aft,none⟩ l w (.int .i64 (m:Int)):=fun _ a d ha=>by
  simp [execOp,resolve,invoke,builtin,ha.eval hx,Builtin.len_,run_underlying h.eq,goInt]
theorem MZ {t:TypeId} [h:TStr P t] {x:Operand} {s:ByteArray} (hx:opv l x=some (.string s)):Ev P ⟨dst,.call { callee:=.builtin .len,args:=#[x],argTypes:=#[t] },ty,pos,aft,none⟩ l w (.int .i64 (s.size:Int)):=fun _ a d ha=>by
  simp [execOp,resolve,invoke,builtin,ha.eval hx,Builtin.len_,run_underlying h.eq,goInt]
theorem Qb {t1 t2:TypeId} {x y:Operand} {k:IntKind} {a b:Int} (hx:opv l x=some (.int k a)) (hy:opv l y=some (.int k b)):Ev P ⟨dst,.call { callee:=.builtin .min,args:=#[x,y],argTypes:=#[t1,t2] },ty,pos,aft,none⟩ l w (.int k (min a b)):=fun _ _ d ha=>by
  simp [execOp,resolve,invoke,builtin,ha.eval hx,ha.eval hy,Builtin.min_,Builtin.min2]
  by_cases h:b < a<;>simp [h]<;>omega
theorem Qc {t1 t2:TypeId} {x y:Operand} {k:IntKind} {a b:Int} (hx:opv l x=some (.int k a)) (hy:opv l y=some (.int k b)):Ev P ⟨dst,.call { callee:=.builtin .max,args:=#[x,y],argTypes:=#[t1,t2] },ty,pos,aft,none⟩ l w (.int k (max a b)):=fun _ _ d ha=>by
  simp [execOp,resolve,invoke,builtin,ha.eval hx,ha.eval hy,Builtin.max_,Builtin.max2]
  by_cases h:a < b<;>simp [h]<;>omega
theorem Fj {t e:TypeId} [h:TSlice P t e] {z:Value} {size bytes:Nat} [hi:TInfo P e z size bytes] {x i:Operand} {k:IntKind} {b o m c j:Nat} {q:Int} (hx:opv l x=some (.slice (some ⟨b,o,none⟩) m c)) (hq:opv l i=some (.int k q)) (hj:q=(j:Int)) (hlt:j < m) :
    Ev P ⟨dst,.indexAddr t x i,ty,pos,aft,none⟩ l w (.pointer (some ⟨b,o + j * size,none⟩)):=fun _ a d ha=>by
  subst hj
  simp [execOp,ha.eval hx,ha.eval hq,Instr.indexAt,asIntOf,run_underlying h.eq,DG (P:=P) (t:=e),HF,hlt]
theorem Du {t:TypeId} {f off:Nat} [h:TField P t f off] {x:Operand} {b o:Nat} (hx:opv l x=some (.pointer (some ⟨b,o,none⟩))):Ev P ⟨dst,.fieldAddr t x f,ty,pos,aft,none⟩ l w (.pointer (some ⟨b,o + off,none⟩)):=fun _ a d ha=>by
  obtain ⟨fs,fd,i,h1,h2,h3,h4,h5⟩:=h.eq
  simp [execOp,ha.eval hx,Instr.fieldAt,run_underlying h1,h2,Instr.sureAddr,fieldPlace,sizeOf,KM h4,h5,h3,HF]
theorem DN {t:TypeId} [TOne P t] {x:Operand} {ad:Addr} {v:Value} (hx:opv l x=some (.pointer (some ad))) (hc:w.cell? ad=some v):Ev P ⟨dst,.load t x,ty,pos,aft,none⟩ l w v:=fun _ a d ha=>by
  simp [execOp,ha.eval hx,Instr.loadAt,Instr.sureAddr,loadVar,Gf,load,Sem.run,JK,hc]
theorem DP (w:World) (b o:Nat):∀ (cs:List Value) (i:Nat) (acc:Array Value),(∀ j v,cs[j]?=some v→w.cell? ⟨b,o + (i + j),none⟩=some v) →
    (loadCellsFrom ⟨b,o,none⟩ i cs.length acc).run P w=.ok (acc ++ cs.toArray) w
  | [],i,acc,_=>by simp [loadCellsFrom]
  | c :: cs,i,acc,h=>by
    have h0:=h 0 c rfl
    simp only [Nat.add_zero] at h0
    have ih:=DP w b o cs (i + 1) (acc.push c) (fun j v hv=>by
      have:=h (j + 1) v (by simpa using hv)
      rwa [show o + (i + 1 + j)=o + (i + (j + 1)) from by omega])
    simp only [List.length_cons,loadCellsFrom]
    simp [load,Sem.run,HF,h0,ih]
def cellsAt (w:World) (b o:Nat):List Value→Prop
  | []=>True
  | v :: r=>w.cell? ⟨b,o,none⟩=some v∧cellsAt w b (o + 1) r
theorem Es {w:World} {b:Nat}:∀ {cs:List Value} {o:Nat},cellsAt w b o cs→∀ j v,cs[j]?=some v→w.cell? ⟨b,o + j,none⟩=some v
  | [],o,_,j,v,h=>by simp at h
  | c :: r,o,hc,0,v,h=>by        have:c=v:=by simpa using h
                                 subst this;exact hc.1
  | c :: r,o,hc,j + 1,v,h=>by
    have:=Es hc.2 j v (by simpa using h)
    rwa [show o + (j + 1)=o + 1 + j from by omega]
theorem EG {w:World} {b:Nat}:∀ {cs:List Value} {o:Nat},(∀ j v,cs[j]?=some v→w.cell? ⟨b,o + j,none⟩=some v)→cellsAt w b o cs
  | [],_,_=>trivial
  | c :: r,o,h=>⟨h 0 c rfl,EG fun j v hv=>by
      have:=h (j + 1) v (by simpa using hv)
      rwa [show o + 1 + j=o + (j + 1) from by omega]⟩
theorem FR {t:TypeId} [TAgg P t] {z:Value} {size bytes:Nat} [TInfo P t z size bytes] {x:Operand} {b o:Nat} {cs:List Value} (hx:opv l x=some (.pointer (some ⟨b,o,none⟩))) (hl:cs.length=size) (hc:cellsAt w b o cs) :
    Ev P ⟨dst,.load t x,ty,pos,aft,none⟩ l w (.agg cs.toArray):=fun _ a d ha=>by
  subst hl
  have:=DP (P:=P) (dr w d) b o cs 0 #[] (fun j v hv=>by rw [Nat.zero_add];exact Es hc j v hv)
  simp [execOp,ha.eval hx,Instr.loadAt,Instr.sureAddr,loadVar,FL,DG (P:=P) (t:=t),loadCells,this]
theorem GZ {x:Operand} {ad:Addr} (hx:opv l x=some (.pointer (some ad))):Ev P ⟨dst,.nilCheck x,ty,pos,aft,none⟩ l w (.pointer (some ad)):=fun _ a d ha=>by
  simp [execOp,ha.eval hx]
theorem Jm {x:Operand} {i:Nat} {vs:Array Value} {v:Value} (hx:opv l x=some (.tuple vs)) (hi:vs[i]?=some v):Ev P ⟨dst,.extract x i,ty,pos,aft,none⟩ l w v:=fun _ a d ha=>by
  simp [execOp,ha.eval hx,Instr.extract,hi]
theorem Jn {t:TypeId} {k:IntKind} [hk:TInt P t k] {x:Operand} {v:Value} (hx:opv l x=some v):Ev P ⟨dst,.makeInterface t x,ty,pos,aft,none⟩ l w (.iface t v):=fun _ a d ha=>by
  simp [execOp,ha.eval hx,Instr.makeInterface,run_underlying hk.eq]
theorem II {t e:TypeId} [h:TPtr P t e] (p:Option Addr) (w:World):(Op.equal t (.pointer p) (.pointer none)).run P w=.ok p.isNone w:=by
  have hd:∀ d:Nat,(Op.equalIn (d + 1) t (.pointer p) (.pointer none)).run P w=.ok p.isNone w:=fun d=>by
    cases p<;>simp [Op.equalIn,run_underlying h.eq]
  exact hd 9999
theorem Gg {t:TypeId} [h:TIface P t] (w:World):(Op.equal t .nilIface .nilIface).run P w=.ok true w:=by
  obtain ⟨ms,hm⟩:=h.eq
  have hd:∀ d:Nat,(Op.equalIn (d + 1) t .nilIface .nilIface).run P w=.ok true w:=fun d=>by
    simp [Op.equalIn,run_underlying hm]
  exact hd 9999
theorem FE {t:TypeId} [h:TIface P t] (s:TypeId) (v:Value) (w:World):(Op.equal t (.iface s v) .nilIface).run P w=.ok false w:=by
  obtain ⟨ms,hm⟩:=h.eq
  have hd:∀ d:Nat,(Op.equalIn (d + 1) t (.iface s v) .nilIface).run P w=.ok false w:=fun d=>by
    simp [Op.equalIn,run_underlying hm]
  exact hd 9999
theorem Na {t e u:TypeId} [h:TPtr P t e] {x:Operand} {p:Option Addr} (hx:opv l x=some (.pointer p)):Ev P ⟨dst,.binOp .eql t x (.const (.pointer none)) u,ty,pos,aft,none⟩ l w (.bool p.isNone):=fun _ a d ha=>by
  have hy:=ha.eval (x:=.const (.pointer none)) (v:=.pointer none) rfl
  simp [execOp,ha.eval hx,hy,eqGuard,binOp,II (P:=P) (t:=t)]
theorem Nb {t u:TypeId} [h:TIface P t] {x:Operand} (hx:opv l x=some .nilIface):Ev P ⟨dst,.binOp .eql t x (.const .nilIface) u,ty,pos,aft,none⟩ l w (.bool true):=fun _ a d ha=>by
  have hy:=ha.eval (x:=.const .nilIface) (v:=.nilIface) rfl
  simp [execOp,ha.eval hx,hy,eqGuard,binOp,Gg (P:=P) (t:=t)]
theorem Mx {t u:TypeId} [h:TIface P t] {x:Operand} {s:TypeId} {v:Value} (hx:opv l x=some (.iface s v)):Ev P ⟨dst,.binOp .eql t x (.const .nilIface) u,ty,pos,aft,none⟩ l w (.bool false):=fun _ a d ha=>by
  have hy:=ha.eval (x:=.const .nilIface) (v:=.nilIface) rfl
  simp [execOp,ha.eval hx,hy,eqGuard,binOp,FE (P:=P) (t:=t)]
theorem Jo {t u:TypeId} [h:TIface P t] {x:Operand} (hx:opv l x=some .nilIface):Ev P ⟨dst,.binOp .neq t x (.const .nilIface) u,ty,pos,aft,none⟩ l w (.bool false):=fun _ a d ha=>by
  have hy:=ha.eval (x:=.const .nilIface) (v:=.nilIface) rfl
  simp [execOp,ha.eval hx,hy,eqGuard,binOp,Gg (P:=P) (t:=t)]
theorem Iz {t u:TypeId} [h:TIface P t] {x:Operand} {s:TypeId} {v:Value} (hx:opv l x=some (.iface s v)):Ev P ⟨dst,.binOp .neq t x (.const .nilIface) u,ty,pos,aft,none⟩ l w (.bool true):=fun _ a d ha=>by
  have hy:=ha.eval (x:=.const .nilIface) (v:=.nilIface) rfl
  simp [execOp,ha.eval hx,hy,eqGuard,binOp,FE (P:=P) (t:=t)]
theorem NR {t:TypeId} [h:TStr P t] {x i:Operand} {k:IntKind} {s:ByteArray} {j:Nat} (hx:opv l x=some (.string s)) (hq:opv l i=some (.int k (j:Int))) (hlt:j < s.size) :
    Ev P ⟨dst,.index t x i,ty,pos,aft,none⟩ l w (.int .u8 ((s[j]'hlt).toNat:Int)):=fun _ a d ha=>by
  simp [execOp,ha.eval hx,ha.eval hq,Instr.index,asIntOf,run_underlying h.eq,hlt]
theorem Nc {fn:Fn} {xs ys:List Operand} {vs us:List Value} (hx:opvs l xs=some vs) (hy:opvs l ys=some us):Ev P ⟨dst,.makeFunc fn xs.toArray ys.toArray,ty,pos,aft,none⟩ l w (.func fn vs.toArray us.toArray):=fun _ a d ha=>by
  simp [execOp,Instr.makeFunc,ha.evals hx,ha.evals hy]
end
end
section
open Go Go.RowKit
def Agree (F:Nat→Prop) (w w':World):Prop:=∀ k,F k→w'.heap[k]?=w.heap[k]?
abbrev Ext (w w':World):Prop:=Below w.heap.size w w'
theorem Ext.agree {w w':World} (h:Ext w w') {F:Nat→Prop} (hF:∀ k,F k→k < w.heap.size):Agree F w w':=fun k hk=>h.block k (hF k hk)
theorem Ext.trans' {a b c:World} (h:Ext a b) (k:Ext b c):Ext a c:=h.trans (k.mono h.size)
theorem Agree.cell {F:Nat→Prop} {w w':World} (h:Agree F w w') {a:Addr} (ha:F a.block):w'.cell? a=w.cell? a:=World.cell?_of_block (h _ ha)
theorem AU {F:Nat→Prop} {w w':World} (h:Agree F w w') {b:Nat} (hb:F b):∀ {cs:List Value} {o:Nat},cellsAt w b o cs→cellsAt w' b o cs
  | [],_,_=>trivial
  | _ :: _,_,hc=>⟨(h.cell hb).trans hc.1,AU h hb hc.2⟩
theorem HG {w w':World} {b o:Nat} {cs:List Value} (h:cellsAt w b o cs) (hb:b < w.heap.size) (hE:Ext w w'):cellsAt w' b o cs:=AU (F:=(· < w.heap.size)) (hE.agree fun _ h=>h) hb h
theorem DU {w:World} {b:Nat}:∀ {xs ys:List Value} {o:Nat},cellsAt w b o (xs ++ ys)↔cellsAt w b o xs∧cellsAt w b (o + xs.length) ys
  | [],ys,o=>by simp [cellsAt]
  | x :: xs,ys,o=>by
    simp only [List.cons_append,cellsAt,List.length_cons]
    rw [DU,show o + 1 + xs.length=o + (xs.length + 1) from by omega,and_assoc]
class Rp (α:Type) where
  isAgg:Bool
  size:Nat
  R:World→(Nat→Prop)→List Value→α→Prop
  len:∀ {w F cs x},R w F cs x→cs.length=size
  one:∀ {w F cs x},R w F cs x→∀ u∈cs,u.oneCell'=true
  agree:∀ {w w' F cs x},R w F cs x→Agree F w w'→R w' F cs x
  mono:∀ {w F G cs x},R w F cs x→(∀ k,F k→G k)→R w G cs x
def Chunks {α:Type} [Rp α] (w:World) (F:Nat→Prop):List Value→List α→Prop
  | cells,[]=>cells=[]
  | cells,x :: xs=>∃ cs rest,cells=cs ++ rest∧Rp.R w F cs x∧Chunks w F rest xs
section
variable {α : Type} [Rp α] {w w' : World} {F G : Nat → Prop}
theorem Chunks.length:∀ {xs:List α} {cells:List Value},Chunks w F cells xs→cells.length=xs.length * Rp.size α
  | [],cells,h=>by     have:cells=[]:=h
                       simp [this]
  | x :: xs,cells,⟨cs,rest,he,hr,hc⟩=>by
    rw [he,List.length_append,Rp.len hr,Chunks.length hc,List.length_cons,Nat.add_mul];omega
theorem Chunks.one:∀ {xs:List α} {cells:List Value},Chunks w F cells xs→∀ u∈cells,u.oneCell'=true
  | [],cells,h,u,hu=>by       have:cells=[]:=h
                              simp [this] at hu
  | x :: xs,cells,⟨cs,rest,he,hr,hc⟩,u,hu=>by
    rw [he,List.mem_append] at hu
    rcases hu with hu|hu
    · exact Rp.one hr u hu
    · exact Chunks.one hc u hu
theorem Chunks.agree (h:Agree F w w'):∀ {xs:List α} {cells:List Value},Chunks w F cells xs→Chunks w' F cells xs
  | [],_,hc=>hc
  | _ :: _,_,⟨cs,rest,he,hr,hc⟩=>⟨cs,rest,he,Rp.agree hr h,Chunks.agree h hc⟩
theorem Chunks.mono (h:∀ k,F k→G k):∀ {xs:List α} {cells:List Value},Chunks w F cells xs→Chunks w G cells xs
  | [],_,hc=>hc
  | _ :: _,_,⟨cs,rest,he,hr,hc⟩=>⟨cs,rest,he,Rp.mono hr h,Chunks.mono h hc⟩
theorem Chunks.append:∀ {xs ys:List α} {c d:List Value},Chunks w F c xs→Chunks w F d ys→Chunks w F (c ++ d) (xs ++ ys)
  | [],ys,c,d,h,k=>by        have:c=[]:=h
                             subst this;exact k
  | x :: xs,ys,c,d,⟨cs,rest,he,hr,hc⟩,k=>⟨cs,rest ++ d,by rw [he,List.append_assoc],hr,Chunks.append hc k⟩
theorem Chunks.single {x:α} {cs:List Value} (h:Rp.R w F cs x):Chunks w F cs [x]:=⟨cs,[],by simp,h,rfl⟩
theorem Chunks.get:∀ {xs:List α} {cells:List Value},Chunks w F cells xs→∀ {i:Nat} {x:α},xs[i]?=some x→∃ pre cs post,cells=pre ++ (cs ++ post)∧pre.length=i * Rp.size α∧Rp.R w F cs x
  | [],_,_,i,x,h=>by simp at h
  | y :: xs,cells,⟨cs,rest,he,hr,hc⟩,0,x,h=>by
    have:y=x:=by simpa using h
    subst this
    exact ⟨[],cs,rest,by simpa using he,by simp,hr⟩
  | y :: xs,cells,⟨cs,rest,he,hr,hc⟩,i + 1,x,h=>by
    obtain ⟨pre,c',post,h1,h2,h3⟩:=Chunks.get hc (i:=i) (x:=x) (by simpa using h)
    exact ⟨cs ++ pre,c',post,by rw [he,h1,List.append_assoc],by rw [List.length_append,h2,Rp.len hr,Nat.add_mul];omega,h3⟩
theorem Chunks.take:∀ {xs :   List α} {cells:List Value} (k:Nat),Chunks w F cells xs→Chunks w F (cells.take (k * Rp.size α)) (xs.take k)
  | xs,cells,0,h=>by simp [Chunks]
  | [],cells,k + 1,h=>by      have:cells=[]:=h
                              simp [this,Chunks]
  | x :: xs,cells,k + 1,⟨cs,rest,he,hr,hc⟩=>by
    refine ⟨cs,rest.take (k * Rp.size α),?_,hr,Chunks.take k hc⟩
    rw [he,List.take_append,Rp.len hr,show (k + 1) * Rp.size α - Rp.size α=k * Rp.size α from by rw [Nat.add_mul];omega,List.take_of_length_le (by rw [Rp.len hr,Nat.add_mul];omega)]
end
def SlR {α:Type} [Rp α] (w:World) (F:Nat→Prop) (v:Value) (xs:List α):Prop :=
  ∃ A c cells,v=.slice A xs.length c∧xs.length≤c∧c≤9223372036854775807∧Chunks w F cells xs∧(0 < xs.length→∃ b o,A=some ⟨b,o,none⟩∧F b∧cellsAt w b o cells)
instance {α:Type} [Rp α]:Rp (List α) where
  isAgg:=false
  size:=1
  R w F cs xs:=∃ v,cs=[v]∧SlR w F v xs
  len:=by rintro w F cs x ⟨v,rfl,_⟩;rfl
  one:=by
    rintro w F cs x ⟨v,rfl,A,c,cells,rfl,_⟩ u hu
    have:u=.slice A x.length c:=by simpa using hu
    subst this;rfl
  agree:=by
    rintro w w' F cs x ⟨v,rfl,A,c,cells,rfl,h1,h2,h3,h4⟩ h
    refine ⟨_,rfl,A,c,cells,rfl,h1,h2,h3.agree h,fun hn=>?_⟩
    obtain ⟨b,o,h5,h6,h7⟩:=h4 hn
    exact ⟨b,o,h5,h6,AU h h6 h7⟩
  mono:=by
    rintro w F G cs x ⟨v,rfl,A,c,cells,rfl,h1,h2,h3,h4⟩ h
    refine ⟨_,rfl,A,c,cells,rfl,h1,h2,h3.mono h,fun hn=>?_⟩
    obtain ⟨b,o,h5,h6,h7⟩:=h4 hn
    exact ⟨b,o,h5,h _ h6,h7⟩
def inI64 (n:Int):Prop:=-9223372036854775808≤n∧n≤9223372036854775807
instance:Rp Int where
  isAgg:=false
  size:=1
  R _ _ cs n:=cs=[.int .i64 n]∧inI64 n
  len:=by rintro w F cs x ⟨rfl,_⟩;rfl
  one:=by
    rintro w F cs x ⟨rfl,_⟩ u hu
    have:u=.int .i64 x:=by simpa using hu
    subst this;rfl
  agree:=fun h _=>h
  mono:=fun h _=>h
instance:Rp Bool where
  isAgg:=false
  size:=1
  R _ _ cs b:=cs=[.bool b]
  len:=by rintro w F cs x rfl;rfl
  one:=by
    rintro w F cs x rfl u hu
    have:u=.bool x:=by simpa using hu
    subst this;rfl
  agree:=fun h _=>h
  mono:=fun h _=>h
instance:Rp ByteArray where
  isAgg:=false
  size:=1
  R _ _ cs s:=cs=[.string s]∧s.size≤9223372036854775807
  len:=by rintro w F cs x ⟨rfl,_⟩;rfl
  one:=by
    rintro w F cs x ⟨rfl,_⟩ u hu
    have:u=.string x:=by simpa using hu
    subst this;rfl
  agree:=fun h _=>h
  mono:=fun h _=>h
def Vb {α:Type} [Rp α] (w:World) (F:Nat→Prop) (v:Value) (x:α):Prop :=
  match Rp.isAgg α with
  | true=>∃ cs:List Value,v=.agg cs.toArray∧Rp.R w F cs x
  | false=>Rp.R w F [v] x
abbrev All (w:World):Nat→Prop:=fun k=>k < w.heap.size
abbrev V {α:Type} [Rp α] (w:World) (v:Value) (x:α):Prop:=Vb w (All w) v x
section
variable {α : Type} [Rp α] {w w' : World} {F G : Nat → Prop} {v : Value} {x : α} {xs : List α}
theorem Vb.agree (h:Vb w F v x) (ha:Agree F w w'):Vb w' F v x:=by
  unfold Vb at *
  cases hb:Rp.isAgg α<;>simp only [hb] at h ⊢
  · exact Rp.agree h ha
  · obtain ⟨cs,h1,h2⟩:=h;exact ⟨cs,h1,Rp.agree h2 ha⟩
theorem Vb.mono (h:Vb w F v x) (hk:∀ k,F k→G k):Vb w G v x:=by
  unfold Vb at *
  cases hb:Rp.isAgg α<;>simp only [hb] at h ⊢
  · exact Rp.mono h hk
  · obtain ⟨cs,h1,h2⟩:=h;exact ⟨cs,h1,Rp.mono h2 hk⟩
theorem Vb.ext (h:V w v x) (he:Ext w w'):V w' v x:=(h.agree (he.agree fun _ h=>h)).mono fun _ hk=>Nat.lt_of_lt_of_le hk he.size
theorem Vb.below {B:Nat} (h:Vb w (· < B) v x) (he:Below B w w'):Vb w' (· < B) v x:=h.agree fun k hk=>he.block k hk
theorem Vb.cells (h:Vb w F v x):Rp.R w F v.cells.toList x:=by
  unfold Vb at h
  cases hb:Rp.isAgg α<;>simp only [hb] at h
  · have h1:=Rp.one h v (by simp)
    have:v.cells.toList=[v]:=by cases v<;>first|rfl|(simp [Value.oneCell'] at h1)
    rw [this];exact h
  · obtain ⟨cs,rfl,h2⟩:=h;exact h2
theorem Vb.slice (h:Vb w F v xs):SlR w F v xs:=by
  obtain ⟨u,hu,h'⟩:=h
  have:v=u:=by simpa using hu
  subst this;exact h'
theorem Vb.of_slice (h:SlR w F v xs):Vb w F v xs:=⟨v,rfl,h⟩
theorem Vb.nil (w:World) (F:Nat→Prop):Vb (α:=List α) w F (.slice none 0 0) []:=.of_slice ⟨none,0,[],rfl,Nat.le_refl _,by omega,rfl,fun h=>by simp at h⟩
theorem Vb.elem {A:Option Addr} {m c:Nat} (h:Vb w F (.slice A m c) xs) {k:Nat} {x:α} (hx:xs[k]?=some x) :
    ∃ b o cs,A=some ⟨b,o,none⟩∧F b∧k < m∧cellsAt w b (o + k * Rp.size α) cs∧Rp.R w F cs x:=by
  obtain ⟨A',c',cells,he,h1,h2,h3,h4⟩:=h.slice
  injection he with e1 e2 e3
  subst e1;subst e2;subst e3
  have hk:k < xs.length:=by
    rcases Nat.lt_or_ge k xs.length with h|h
    · exact h
    · rw [List.getElem?_eq_none h] at hx;cases hx
  obtain ⟨b,o,h5,h6,h7⟩:=h4 (by omega)
  obtain ⟨pre,cs,post,h8,h9,h10⟩:=h3.get hx
  rw [h8] at h7
  have h11:=(DU.1 (DU.1 h7).2).1
  rw [h9] at h11
  exact ⟨b,o,cs,h5,h6,hk,h11,h10⟩
theorem Vb.len {A:Option Addr} {m c:Nat} (h:Vb w F (.slice A m c) xs):m=xs.length∧m≤c∧c≤9223372036854775807:=by
  obtain ⟨A',c',cells,he,h1,h2,h3,h4⟩:=h.slice
  injection he with e1 e2 e3
  subst e2;subst e3;exact ⟨rfl,h1,h2⟩
theorem Vb.form (h:Vb w F v xs):∃ A c,v=.slice A xs.length c:=by
  obtain ⟨A',c',cells,he,_⟩:=h.slice
  exact ⟨A',c',he⟩
end
def Blk (w:World) (g:Nat) (t:TypeId) (cs:List Value):Prop:=w.heap[g]?=some (.cells cs.toArray t (0,0))
section
variable {w w' : World} {g : Nat} {t : TypeId} {cs : List Value}
theorem Blk.lt (h:Blk w g t cs):g < w.heap.size:=by
  rcases Nat.lt_or_ge g w.heap.size with hlt|hge
  · exact hlt
  · unfold Blk at h;rw [Array.getElem?_eq_none hge] at h;cases h
theorem Blk.cell (h:Blk w g t cs) {i:Nat} {v:Value} (hi:cs[i]?=some v):w.cell? ⟨g,i,none⟩=some v:=by
  unfold Blk at h;simp [World.cell?,h,hi]
theorem Blk.cellsAt (h:Blk w g t cs):cellsAt w g 0 cs:=EG fun j v hv=>by rw [Nat.zero_add];exact h.cell hv
theorem Blk.frozen (h:Blk w g t cs) (i:Nat):w.frozen? ⟨g,i,none⟩=false:=by
  unfold Blk at h;simp [World.frozen?,h]
theorem Blk.keep (h:Blk w g t cs) (he:w'.heap[g]?=w.heap[g]?):Blk w' g t cs:=he.trans h
theorem Blk.ext (h:Blk w g t cs) (he:Ext w w'):Blk w' g t cs:=h.keep (he.block g h.lt)
end
structure New (w w':World) (t:TypeId) (cs:List Value):Prop where
  ext:Ext w w'
  size:w'.heap.size=w.heap.size + 1
  blk:Blk w' w.heap.size t cs
structure Upd (w w':World) (g:Nat) (t:TypeId) (cs:List Value):Prop where
  os:w'.os=w.os
  tape:w'.tape=w.tape
  output:w'.output=w.output
  size:w'.heap.size=w.heap.size
  blk:Blk w' g t cs
  other:∀ k,k≠g→w'.heap[k]?=w.heap[k]?
theorem Upd.below {w w':World} {g:Nat} {t:TypeId} {cs:List Value} (h:Upd w w' g t cs) {B:Nat} (hB:B≤g):Below B w w' :=
  ⟨h.os,h.tape,h.output,Nat.le_of_eq h.size.symm,fun k hk=>h.other k (by omega)⟩
theorem Upd.agree {w w':World} {g:Nat} {t:TypeId} {cs:List Value} (h:Upd w w' g t cs) {F:Nat→Prop} (hF:¬ F g):Agree F w w':=fun k hk=>h.other k (fun e=>hF (e ▸ hk))
theorem New.mk' (w:World) (t:TypeId) (cs:List Value):New w (w.alloc (.cells cs.toArray t)) t cs :=
  ⟨(Below.refl _ _).alloc (Nat.le_refl _) _,by simp,by unfold Blk;show (w.heap.push _)[_]?=_;simp⟩
theorem New.upd {w w1 w2:World} {t:TypeId} {cs cs':List Value} (h:New w w1 t cs) (k:Upd w1 w2 w.heap.size t cs'):New w w2 t cs' :=
  ⟨h.ext.trans (k.below (Nat.le_refl _)),by rw [k.size,h.size],k.blk⟩
def Own {α:Type} [Rp α] (w:World) (base:Nat) (F:Nat→Prop) (e:TypeId) (v:Value) (xs:List α):Prop :=
  ∃ cells,w.ownsRow base e (Rp.size α) v xs.length cells∧Chunks w F cells xs∧∀ g,v.ownBlock=some g→¬ F g
section
variable {α : Type} [Rp α] {w w' : World} {F G : Nat → Prop} {base : Nat} {e : TypeId} {v : Value} {xs : List α}
theorem Own.nil (w:World) (base:Nat) (F:Nat→Prop) (e:TypeId):Own (α:=α) w base F e (.slice none 0 0) []:=⟨[],⟨by simp,.inl ⟨rfl,rfl⟩⟩,rfl,fun g h=>by simp [Value.ownBlock] at h⟩
theorem Own.vb (h:Own w base F e v xs):Vb w (fun k=>F k∨v.ownBlock=some k) v xs:=by
  obtain ⟨cells,h1,h2,h3⟩:=h
  rcases h1.2 with ⟨rfl,hn⟩|⟨g,cap,cur,rfl,hg,hh,hnc,hcm,hcs,hcur⟩
  · have:xs=[]:=List.eq_nil_of_length_eq_zero hn
    subst this;exact .nil _ _
  · refine .of_slice ⟨_,cap,cells,rfl,hnc,by simpa [maxLen] using hcm,h2.mono fun k hk=>.inl hk,fun hp=>⟨g,0,rfl,.inr rfl,EG fun j u hu=>?_⟩⟩
    have hj:j < xs.length * Rp.size α:=by rw [← h2.length];exact (List.getElem?_eq_some_iff.1 hu).1
    have:cur[j]?=some u:=by
      rw [← hcur,List.getElem?_take,if_pos hj] at hu
      simpa using hu
    simp [World.cell?,hh,this]
theorem Own.agree (h:Own w base F e v xs) (ha:Agree F w w') (hv:∀ g,v.ownBlock=some g→w'.heap[g]?=w.heap[g]?):Own w' base F e v xs:=by
  obtain ⟨cells,h1,h2,h3⟩:=h
  refine ⟨cells,⟨h1.1,?_⟩,h2.agree ha,h3⟩
  rcases h1.2 with h|⟨g,cap,cur,rfl,hg,hh,r⟩
  · exact .inl h
  · exact .inr ⟨g,cap,cur,rfl,hg,(hv g rfl).trans hh,r⟩
theorem Own.lt (h:Own w base F e v xs):∀ g,v.ownBlock=some g→base≤g∧g < w.heap.size:=by
  obtain ⟨cells,h1,h2,h3⟩:=h
  rcases h1.2 with ⟨rfl,hn⟩|⟨g,cap,cur,rfl,hg,hh,r⟩
  · intro g hg;simp [Value.ownBlock] at hg
  · intro g' hg'
    have:g=g':=by simpa [Value.ownBlock] using hg'
    subst this
    refine ⟨hg,?_⟩
    rcases Nat.lt_or_ge g w.heap.size with h|h
    · exact h
    · rw [Array.getElem?_eq_none h] at hh;cases hh
theorem Own.ext (h:Own w base F e v xs) (he:Ext w w') (hF:∀ k,F k→k < w.heap.size):Own w' base F e v xs :=
  h.agree (he.agree hF) fun g hg=>he.block g (h.lt g hg).2
theorem Own.mono (h:Own w base F e v xs) (hk:∀ k,F k→G k) (hG:∀ g,v.ownBlock=some g→¬ G g):Own w base G e v xs:=by
  obtain ⟨cells,h1,h2,h3⟩:=h
  exact ⟨cells,h1,h2.mono hk,hG⟩
theorem Own.lower (h:Own w base F e v xs) {base':Nat} (hb:base'≤base):Own w base' F e v xs:=by
  obtain ⟨cells,h1,h2,h3⟩:=h
  refine ⟨cells,⟨h1.1,?_⟩,h2,h3⟩
  rcases h1.2 with h|⟨g,cap,cur,hv,hg,r⟩
  · exact .inl h
  · exact .inr ⟨g,cap,cur,hv,by omega,r⟩
end
end
section
open Go Go.RowKit
class Callable (P : Program) (f : FuncId) : Prop where eq : ∃ fn, P.funcs[f]? = some fn ∧ fn.body.isNone = false ∧ (fn.name == "runtime.NumGoroutine") = false
def Fn (P:Program) (f:FuncId) (args:List Value) (w:World) (R:Value→World→Prop):Prop :=
  ∀ d,Calls P f args.toArray (dr w d) fun e w'=>∃ v w₀ d',e=.returned v∧w'=dr w₀ d'∧R v w₀
theorem Fn.mono {P:Program} {f:FuncId} {args:List Value} {w:World} {R R':Value→World→Prop} (h:Fn P f args w R) (hr:∀ v w',R v w'→R' v w'):Fn P f args w R' :=
  fun d=>(h d).mono fun _ _ ⟨v,w₀,d',he,hw,hR⟩=>⟨v,w₀,d',he,hw,hr _ _ hR⟩
theorem Gh (w:World) (d:Nat) (o:Obj):(dr w d).alloc o=dr (w.alloc o) d:=rfl
theorem FS {P:Program} (w:World) (e:TypeId) (cs:Array Value):(newRow e cs).run P w=.ok ⟨w.heap.size,0,none⟩ (w.alloc (.cells cs e)):=by
  simp [newRow,newObj,Sem.run]
section
variable {P : Program} {n : Nat} {ops : Array Oper} {Q : Post} {rest : List Oper} {l : Env} {w : World} {d : Tmp} {ty : TypeId} {pos : String} {aft : Array Edge}
theorem DH {t:TypeId} {z:Value} {size bytes:Nat} [TInfo P t z size bytes] (hd:Nat.blt d n=true)
    (h:∀ w',New w w' t z.cells.toList→owp P n ops Q rest ((d,.pointer (some ⟨w.heap.size,0,none⟩)) :: l) w'):owp P n ops Q (⟨some d,.alloc t,ty,pos,aft,none⟩ :: rest) l w :=
  GQ (w':=w.alloc (.cells z.cells t)) (fun a e ha=>.inl ⟨.pointer (some ⟨w.heap.size,0,none⟩),e,by
    simp [execOp,Instr.alloc,GY (P:=P) (t:=t),newVar,FS,GO,Gh],ha.put hd _⟩) (h _ (by simpa using New.mk' w t z.cells.toList))
theorem Dg {t:TypeId} {x:Operand} {v:Value} (hx:opv l x=some v) (hd:Nat.blt d n=true)
    (h:∀ w',New w w' t v.cells.toList→owp P n ops Q rest ((d,.pointer (some ⟨w.heap.size,0,none⟩)) :: l) w'):owp P n ops Q (⟨some d,.box t x,ty,pos,aft,none⟩ :: rest) l w :=
  GQ (w':=w.alloc (.cells v.cells t)) (fun a e ha=>.inl ⟨.pointer (some ⟨w.heap.size,0,none⟩),e,by
    simp [execOp,Instr.box,ha.eval hx,newVar,FS,GO,Gh],ha.put hd _⟩) (h _ (by simpa using New.mk' w t v.cells.toList))
def setFrom (cs:List Value) (o:Nat):List Value→List Value
  | []=>cs
  | v :: r=>setFrom (cs.set o v) (o + 1) r
theorem GT (g:Nat) (t:TypeId) (o:Nat):∀ (vs:List Value) (i:Nat) (cs:List Value) (w:World),Blk w g t cs→o + i + vs.length≤cs.length→(∀ u∈vs,u.oneCell'=true) →
    ∃ w',(storeCells ⟨g,o,none⟩ vs i).run P w=.ok () w'∧Upd w w' g t (setFrom cs (o + i) vs)∧w'.drawn=w.drawn
  | [],i,cs,w,hb,_,_=>⟨w,by simp [storeCells],⟨rfl,rfl,rfl,rfl,hb,fun _ _=>rfl⟩,rfl⟩
  | v :: r,i,cs,w,hb,hl,h1=>by
    have hlen:o + i < cs.length:=by simp at hl;omega
    have hc:w.cell? ⟨g,o + i,none⟩=some (cs[o + i]):=hb.cell (List.getElem?_eq_getElem hlen)
    have hf:=hb.frozen (o + i)
    have hb':Blk (w.setCell ⟨g,o + i,none⟩ v) g t (cs.set (o + i) v):=by
      unfold Blk at hb ⊢
      simp [World.setCell,Array.getElem?_modify,hb]
    obtain ⟨w',hr,hu,hd⟩:=GT g t o r (i + 1) (cs.set (o + i) v) (w.setCell ⟨g,o + i,none⟩ v) hb' (by simp at hl ⊢;omega) (fun u hu=>h1 u (by simp [hu]))
    have hv:v.oneCell'=true:=h1 v (by simp)
    refine ⟨w',?_,⟨hu.os,hu.tape,hu.output,by rw [hu.size];simp [World.setCell],?_,fun k hk=>?_⟩,hd⟩
    · simp only [storeCells]
      have hs:(store (⟨g,o + i,none⟩:Addr) v).run P w=.ok () (w.setCell ⟨g,o + i,none⟩ v):=by
        cases v<;>simp [Value.oneCell'] at hv<;>simp [store,Sem.run,hc,hf]
      simp [HF,hs,hr]
    · have:=hu.blk
      rwa [show o + (i + 1)=o + i + 1 from by omega] at this
    · rw [hu.other k hk,Below.heap_setCell _ _ _ _ hk]
theorem Cc {t:TypeId} {z:Value} {size bytes:Nat} [TInfo P t z size bytes] {x y:Operand} {g o:Nat} {te:TypeId} {v:Value} {cs:List Value} (hx:opv l x=some (.pointer (some ⟨g,o,none⟩))) (hy:opv l y=some v)
    (hb:Blk w g te cs) (hsz:v.cells.toList.length=size) (hl:o + size≤cs.length) (h1:∀ u∈v.cells.toList,u.oneCell'=true)
    (h:∀ w',Upd w w' g te (setFrom cs o v.cells.toList)→owp P n ops Q rest l w'):owp P n ops Q (⟨none,.store t x y,ty,pos,aft,none⟩ :: rest) l w:=fun a e ha=>by
  refine wpList_plain rfl fun K hK=>?_
  have hbd:Blk (dr w e) g te cs:=hb
  obtain ⟨w',hr,hu,hd⟩:=GT (P:=P) g te o v.cells.toList 0 cs (dr w e) hbd (by omega) h1
  have hu':Upd w w' g te (setFrom cs o v.cells.toList):=⟨hu.os,hu.tape,hu.output,hu.size,hu.blk,hu.other⟩
  unfold Oper.wp
  have hsz':v.cells.size=size:=by simpa using hsz
  have:(execOp a.eval ⟨none,.store t x y,ty,pos,aft,none⟩).run P (dr w e)=.ok .skip w':=by
    simp [execOp,Instr.storeAt,Instr.sureAddr,ha.eval hx,ha.eval hy,storeVar,DG (P:=P) (t:=t),hsz',hr]
  rw [this]
  exact hK _ _ (h w' hu' a w'.drawn ha)
theorem DV:∀ (vs cs:List Value) (o:Nat),(setFrom cs o vs).length=cs.length
  | [],_,_=>rfl
  | _ :: r,cs,o=>by rw [setFrom,DV r];simp
theorem ES:∀ (vs pre mid post:List Value),mid.length=vs.length→setFrom (pre ++ (mid ++ post)) pre.length vs=pre ++ (vs ++ post)
  | [],pre,mid,post,h=>by
    have:mid=[]:=List.eq_nil_of_length_eq_zero h
    simp [setFrom,this]
  | v :: r,pre,mid,post,h=>by
    cases mid with
    | nil=>simp at h
    | cons m mid =>
      have ih:=ES r (pre ++ [v]) mid post (by simpa using h)
      simp only [setFrom]
      rw [show (pre ++ (m :: mid ++ post)).set pre.length v=(pre ++ [v]) ++ (mid ++ post) from by simp,show pre.length + 1=(pre ++ [v]).length from by simp,ih]
      simp
theorem FM:∀ (vs:List Value) (k off:Nat) (acc:Array Value),((vs.zipIdx k).foldl (fun cs (p:Value×Nat)=>cs.setIfInBounds (off + p.2) p.1) acc).toList=setFrom acc.toList (off + k) vs
  | [],_,_,_=>rfl
  | v :: r,k,off,acc=>by
    simp only [List.zipIdx_cons,List.foldl_cons,setFrom]
    rw [FM r (k + 1) off]
    simp [Nat.add_assoc]
def idxs {β:Type}:Nat→List β→List (Nat×β)
  | _,[]=>[]
  | k,x :: r=>(k,x) :: idxs (k + 1) r
def idxOk {β:Type}:Nat→List (Nat×β)→Bool
  | _,[]=>true
  | k,p :: r=>match Nat.beq p.1 k with
    | true=>idxOk (k + 1) r
    | false=>false
theorem KQ {β:Type}:∀ (ps:List (Nat×β)) (k:Nat),idxOk k ps=true→ps=idxs k (ps.map (·.2))
  | [],_,_=>rfl
  | p :: r,k,h=>by
    simp only [idxOk] at h
    cases hb:Nat.beq p.1 k with
    | false=>rw [hb] at h;simp at h
    | true =>
      rw [hb] at h
      have hk:p.1=k:=Nat.eq_of_beq_eq_true hb
      obtain ⟨a,b⟩:=p
      simp only at hk
      subst hk
      simp only [List.map_cons,idxs]
      rw [← KQ r (a + 1) h]
theorem KR {β γ:Type} (f:β→γ):∀ (xs:List β) (k:Nat),(idxs k xs).map (fun p=>(p.1,f p.2))=idxs k (xs.map f)
  | [],_=>rfl
  | x :: r,k=>by simp [idxs,KR f r]
theorem KS {size:Nat}:∀ (vs:List Value) (k:Nat) (acc:Array Value) (pre post:List Value),acc.toList=pre ++ post→pre.length=k * size→post.length=vs.length * size→(∀ v∈vs,v.cells.size=size) →
    ∃ out,Instr.fill (fun i=>some (i * size,size)) acc (idxs k vs)=some out∧out.toList=pre ++ vs.flatMap (fun v=>v.cells.toList)
  | [],k,acc,pre,post,h,_,h2,_=>by
    have:post=[]:=List.eq_nil_of_length_eq_zero (by simpa using h2)
    subst this
    exact ⟨acc,rfl,by simpa using h⟩
  | v :: r,k,acc,pre,post,h,h1,h2,hv=>by
    have hvs:v.cells.size=size:=hv v (by simp)
    have hsz:acc.size=pre.length + post.length:=by rw [← Array.length_toList,h,List.length_append]
    have hps:post=post.take size ++ post.drop size:=(List.take_append_drop size post).symm
    have hl2:post.length=size + r.length * size:=by rw [h2,List.length_cons,Nat.add_mul];omega
    simp only [idxs,Instr.fill]
    rw [if_neg (by simp [hvs];omega)]
    have hf:=FM v.cells.toList 0 (k * size) acc
    rw [Nat.add_zero,h,← h1,hps,ES _ _ _ _ (by simp [hvs];omega)] at hf
    obtain ⟨out,ho1,ho2⟩:=KS r (k + 1) ((v.cells.toList.zipIdx 0).foldl (fun cs (p:Value×Nat)=>cs.setIfInBounds (pre.length + p.2) p.1) acc) (pre ++ v.cells.toList) (post.drop size) (by rw [hf];simp)
      (by simp [hvs,h1,Nat.add_mul]) (by simp;omega) (fun u hu=>hv u (by simp [hu]))
    refine ⟨out,?_,by rw [ho2];simp⟩
    rw [← ho1]
    congr 1
    rw [← Array.foldl_toList,Array.toList_zipIdx,h1]
theorem Ds {t e:TypeId} [hs:TSlice P t e] {z:Value} {size bytes len:Nat} [TInfo P e z size bytes] {ps:List (Nat×Operand)} {vs:List Value} (hk:idxOk 0 ps=true) (hx:opvs l (ps.map (·.2))=some vs) (hlen:vs.length=len) (hv:∀ v∈vs,v.cells.toList.length=size) (hz:len * size≤16777216) (hd:Nat.blt d n=true)
    (h:∀ w',New w w' e (vs.flatMap fun v=>v.cells.toList)→owp P n ops Q rest ((d,.slice (some ⟨w.heap.size,0,none⟩) len len) :: l) w'):owp P n ops Q (⟨some d,.buildSlice t len ps.toArray,ty,pos,aft,none⟩ :: rest) l w :=
  GQ (w':=w.alloc (.cells (vs.flatMap fun v=>v.cells.toList).toArray e)) (fun a q ha=>.inl ⟨.slice (some ⟨w.heap.size,0,none⟩) len len,q,by
    have hps:(ps.map fun p=>(p.1,a.eval p.2))=idxs 0 vs:=by
      rw [KQ ps 0 hk,KR,ha.evals hx]
    have hv':∀ v∈vs,v.cells.size=size:=fun v hm=>by simpa using hv v hm
    have h24:¬ 16777216 < len * size:=by omega
    have hf:∀ acc:Array Value,acc.size=len * size→Instr.fill (fun i=>some (i * size,size)) acc (idxs 0 vs)=some (vs.flatMap fun v=>v.cells.toList).toArray:=fun acc hacc=>by
      obtain ⟨out,ho1,ho2⟩:=KS (size:=size) vs 0 acc [] acc.toList (by simp) (by simp) (by simp [hacc,hlen]) hv'
      rw [ho1]
      congr 1
      apply Array.toList_inj.1
      rw [ho2];simp
    simp only [execOp,Instr.buildSlice]
    by_cases h0:len * size=0
    · simp [run_underlying hs.eq,DG (P:=P) (t:=e),h0]
      rw [hps,hf _ (by simp [h0])]
      simp [FS,GO,Gh]
    · simp [run_underlying hs.eq,DG (P:=P) (t:=e),GY (P:=P) (t:=e),h0,h24]
      rw [hps,hf _ (by simp)]
      simp [FS,GO,Gh],ha.put hd _⟩) (h _ (by simpa using New.mk' w e (vs.flatMap fun v=>v.cells.toList)))
theorem IJ {t e:TypeId} [hs:TSlice P t e] {z:Value} {size bytes:Nat} [hi:TInfo P e z size bytes] {x y:Operand} {k k':IntKind} {m:Nat} (hx:opv l x=some (.int k (m:Int))) (hy:opv l y=some (.int k' (m:Int))) (hm:bytes * m≤281474976710656) (h63:m≤9223372036854775807) (hd:Nat.blt d n=true)
    (h:∀ w',New w w' e (madeCells z.cells (m * size)).toList→owp P n ops Q rest ((d,.slice (some ⟨w.heap.size,0,none⟩) m m) :: l) w'):owp P n ops Q (⟨some d,.makeSlice t x y,ty,pos,aft,none⟩ :: rest) l w:=by
  obtain ⟨i,h1,h2,h3,h4⟩:=hi.eq
  have hbm:(i.bytes:Int) * (m:Int)≤281474976710656:=by
    rw [h4]
    have:((bytes * m:Nat):Int)≤281474976710656:=by omega
    rwa [Int.natCast_mul] at this
  refine GQ (w':=w.alloc (.cells (madeCells z.cells (m * size)) e)) (fun a q ha=>.inl ⟨.slice (some ⟨w.heap.size,0,none⟩) m m,q,?_,ha.put hd _⟩) (h _ (by simpa using New.mk' w e (madeCells z.cells (m * size)).toList))
  have hr:=run_make (P:=P) (dr w q) t e i z hs.eq h1 h2 k k' (m:Int) (m:Int) (by omega) (Int.le_refl _) hbm (by omega)
  simp [execOp,ha.eval hx,ha.eval hy,hr,h3,GO,Gh]
theorem By {f:FuncId} [hf:Callable P f] {xs:List Operand} {vs:List Value} {ts:Array TypeId} {R:Value→World→Prop} (hx:opvs l xs=some vs) (hd:Nat.blt d n=true) (hc:Fn P f vs w R)
    (h:∀ v w',R v w'→owp P n ops Q rest ((d,v) :: l) w'):owp P n ops Q (⟨some d,.call { callee:=.value (.func f),args:=xs.toArray,argTypes:=ts },ty,pos,aft,none⟩ :: rest) l w :=
  GP fun a e ha K hK=>by
    obtain ⟨fn,h1,h2,h3⟩:=hf.eq
    have h2':¬ fn.body=none:=fun e=>by rw [e] at h2;simp at h2
    have h3' : ¬ fn.name = "runtime.NumGoroutine" := fun e => by rw [e] at h3; simp at h3
    unfold Oper.wp
    have hev:a.eval (.func f)=.func (.func f) #[] #[]:=rfl
    have:(execOp a.eval ⟨some d,.call { callee:=.value (.func f),args:=xs.toArray,argTypes:=ts },ty,pos,aft,none⟩).run P (dr w e)=.ok (.enter f vs.toArray) (dr w e):=by
      simp [execOp,resolve,hev,Deferred.ofValue,invoke,callFunc,h1,h2',h3',ha.evals hx]
    rw [this]
    exact (hc e).mono fun _ _ ⟨v,w₀,d',he,hw,hR⟩=>by subst he;subst hw;exact hK _ _ (h v w₀ hR _ _ (ha.put hd v))
theorem HH {f:FuncId} [hf:Callable P f] {y:Operand} {caps:List Value} {xs:List Operand} {vs:List Value} {ts:Array TypeId} {R:Value→World→Prop} (hy:opv l y=some (.func (.func f) #[] caps.toArray)) (hx:opvs l xs=some vs) (hd:Nat.blt d n=true) (hc:Fn P f (vs ++ caps) w R)
    (h:∀ v w',R v w'→owp P n ops Q rest ((d,v) :: l) w'):owp P n ops Q (⟨some d,.call { callee:=.value y,args:=xs.toArray,argTypes:=ts },ty,pos,aft,none⟩ :: rest) l w :=
  GP fun a e ha K hK=>by
    obtain ⟨fn,h1,h2,h3⟩:=hf.eq
    have h2':¬ fn.body=none:=fun e=>by rw [e] at h2;simp at h2
    have h3' : ¬ fn.name = "runtime.NumGoroutine" := fun e => by rw [e] at h3; simp at h3
    unfold Oper.wp
    have:(execOp a.eval ⟨some d,.call { callee:=.value y,args:=xs.toArray,argTypes:=ts },ty,pos,aft,none⟩).run P (dr w e)=.ok (.enter f (vs ++ caps).toArray) (dr w e):=by
      simp [execOp,resolve,ha.eval hy,Deferred.ofValue,invoke,callFunc,h1,h2',h3',ha.evals hx]
    rw [this]
    exact (hc e).mono fun _ _ ⟨v,w₀,d',he,hw,hR⟩=>by subst he;subst hw;exact hK _ _ (h v w₀ hR _ _ (ha.put hd v))
theorem EH {α:Type} [Rp α] {t e:TypeId} [hs:TSlice P t e] {z:Value} {bytes:Nat} [hi:TInfo P e z (Rp.size α) bytes] {x y:Operand} {v:Value} {xs ys:List α} {base:Nat} {F:Nat→Prop} {A:Option Addr} {c:Nat} {cells:List Value}
    (hx:opv l x=some v) (hy:opv l y=some (.slice A ys.length c)) (hown:Own w base F e v xs) (hF:∀ k,F k→k < w.heap.size) (hbase:base≤w.heap.size) (hch:Chunks w F cells ys) (hat:0 < ys.length→∃ b o,A=some ⟨b,o,none⟩∧cellsAt w b o cells)
    (hz0:0 < Rp.size α) (hb:(xs.length + ys.length) * bytes≤140737488355328) (h63:xs.length + ys.length≤9223372036854775807) (hd:Nat.blt d n=true)
    (h:∀ v' w',Own w' base F e v' (xs ++ ys)→w.grownBy w' v.ownBlock→(v'.ownBlock=v.ownBlock∨v'.ownBlock=some w.heap.size)→owp P n ops Q rest ((d,v') :: l) w') :
    owp P n ops Q (⟨some d,.call { callee:=.builtin .append,args:=#[x,y],argTypes:=#[t,t] },ty,pos,aft,none⟩ :: rest) l w:=fun a q ha=>by
  refine wpList_plain rfl fun K hK=>?_
  obtain ⟨i,i1,i2,i3,i4⟩:=hi.eq
  obtain ⟨cs,ho1,ho2,ho3⟩:=hown
  unfold Oper.wp
  have key:∃ v' w',(Builtin.append_ #[t,t] ty #[v,.slice A ys.length c]).run P (dr w q)=.ok v' w'∧w'.ownsRow base e (Rp.size α) v' (xs.length + ys.length) (cs ++ cells)∧(dr w q).grownBy w' v.ownBlock∧(v'.ownBlock=v.ownBlock∨v'.ownBlock=some (dr w q).heap.size):=by
    cases A with
    | none =>
      have hy0:ys.length=0:=by
        rcases Nat.eq_zero_or_pos ys.length with h0|h0
        · exact h0
        · obtain ⟨b,o,hA,_⟩:=hat h0;cases hA
      have hyn:ys=[]:=List.eq_nil_of_length_eq_zero hy0
      subst hyn
      have hc0:cells=[]:=hch
      subst hc0
      refine ⟨v,dr w q,?_,by simpa using (show (dr w q).ownsRow base e (Rp.size α) v xs.length cs from ho1),World.grownBy.refl _ _,.inl rfl⟩
      rcases ho1.2 with ⟨rfl,hn⟩|⟨g,cap,cur,rfl,_,_,hnc,_⟩
      · have hxn:xs=[]:=List.eq_nil_of_length_eq_zero hn
        simp [Builtin.append_,run_underlying hs.eq,sizeOf,typeInfo,i1,Builtin.lenOf,Builtin.firstCells]
      · simp [Builtin.append_,run_underlying hs.eq,sizeOf,typeInfo,i1,Builtin.lenOf,Builtin.firstCells,hnc,storeCells]
    | some ad =>
      have hcells:∀ j u,cells[j]?=some u→(dr w q).cell? (ad.add j)=some u:=by
        intro j u hu
        rcases Nat.eq_zero_or_pos ys.length with h0|h0
        · have hyn:ys=[]:=List.eq_nil_of_length_eq_zero h0
          subst hyn
          have hc0:cells=[]:=hch
          subst hc0
          simp at hu
        · obtain ⟨b,o,hA,hc⟩:=hat h0
          injection hA with hA
          subst hA
          rw [HF]
          exact Es hc j u hu
      obtain ⟨v',w',hrun,h2,h3,_,h5⟩:=run_append_own_at (P:=P) (dr w q) base t ty e i z (Rp.size α) bytes hs.eq i1 i2 i3 i4 hi.sz hz0 v xs.length cs ho1 ad ys.length c cells hch.length hcells hch.one (by simpa [maxLen] using h63) hb hbase
      exact ⟨v',w',hrun,h2,h3,h5⟩
  obtain ⟨v',w',hrun,h2,h3,h5⟩:=key
  have hev:(execOp a.eval ⟨some d,.call { callee:=.builtin .append,args:=#[x,y],argTypes:=#[t,t] },ty,pos,aft,none⟩).run P (dr w q)=.ok (.value v') w':=by
    simp [execOp,resolve,invoke,builtin,ha.eval hx,ha.eval hy,hrun]
  rw [hev]
  have hg:w.grownBy w' v.ownBlock:=⟨h3.os,h3.tape,h3.output,h3.size,h3.block⟩
  have hagree:Agree F w w':=fun k hk=>hg.block k (hF k hk) (fun he=>ho3 k he.symm hk)
  have hown':Own w' base F e v' (xs ++ ys):=by
    refine ⟨cs ++ cells,by rw [List.length_append];exact h2,(ho2.append hch).agree hagree,fun g hg'=>?_⟩
    rcases h5 with h5|h5
    · exact ho3 g (h5 ▸ hg')
    · intro hk
      have h6:g=w.heap.size:=by rw [h5] at hg';exact (Option.some.inj hg').symm
      have:=hF g hk
      omega
  exact hK _ _ (h v' w' hown' hg h5 _ w'.drawn (ha.put hd v'))
end
def Res (P:Program) (fn:Func) (l:Env) (w:World) (v:Value):Prop:=∀ n a d,Ok n a l→(results fn a.tmps).run P (dr w d)=.ok v (dr w d)
def retPost (P:Program) (fn:Func) (R:Value→World→Prop):Post
  | .normal,l,w=>∃ v,Res P fn l w v∧R v w
  | .ret,l,w=>∃ v,Res P fn l w v∧R v w
  | _,_,_=>False
def ent:Nat→List Value→Env
  | _,[]=>[]
  | k,v :: r=>(k,v) :: ent (k + 1) r
theorem Nd:∀ (vs:List Value) (k i:Nat) (v:Value),lk (ent k vs) i=some v→k≤i∧vs[i - k]?=some v
  | [],_,_,_,h=>by simp [ent,lk] at h
  | u :: r,k,i,v,h=>by
    simp only [ent,lk] at h
    cases hb:Nat.beq k i with
    | true =>
      rw [hb] at h
      have:k=i:=Nat.eq_of_beq_eq_true hb
      subst this
      simpa using h
    | false =>
      rw [hb] at h
      obtain ⟨h1,h2⟩:=Nd r (k + 1) i v h
      refine ⟨by omega,?_⟩
      rw [show i - k=(i - (k + 1)) + 1 from by omega]
      simpa using h2
theorem AK {P:Program} {f:FuncId} {fn:Func} {c:Code} {vs:List Value} {w:World} {R:Value→World→Prop} {n:Nat} (hf:P.funcs[f]?=some fn) (hb:fn.body=some c) (hn:fn.ntmps=n) (hl:Nat.ble vs.length n=true)
    (h:ewp P n c (retPost P fn R) (ent 0 vs) w):Fn P f vs w R:=fun d=>by
  have hl':vs.length≤n:=by simpa using hl
  refine calls_of_wp hf hb (Code.wp_mono (fun e a w' hq=>?_) (h _ d (?_:Ok n { tmps:=vs.toArray ++ Array.replicate (fn.ntmps - vs.toArray.size) undef,defers:=[] } (ent 0 vs))))
  · obtain ⟨hp,l,w₀,d',rfl,ho,q⟩:=hq
    cases e with
    | normal=>obtain ⟨v,hr,hR⟩:=q;exact ⟨ho.defers,v,hr n a d' ho,v,w₀,d',rfl,rfl,hR⟩
    | ret=>obtain ⟨v,hr,hR⟩:=q;exact ⟨ho.defers,v,hr n a d' ho,v,w₀,d',rfl,rfl,hR⟩
    | panic c=>exact hp.elim
    | outgrown=>exact hp.elim
    | exit i=>exact q.elim
    | goto i=>exact q.elim
  · refine ⟨by simp [hn];omega,rfl,fun i v hv=>?_⟩
    obtain ⟨_,h2⟩:=Nd vs 0 i v hv
    simp only [Nat.sub_zero] at h2
    have hi:i < vs.length:=(List.getElem?_eq_some_iff.1 h2).1
    simp only [Array.getD_eq_getD_getElem?]
    rw [Array.getElem?_append_left (by simpa using hi)]
    simp [h2]
section
variable {P : Program} {fn : Func} {l : Env} {w : World}
def rv (tmps:Array Value):ResultVar→Sem Value
  | .tmp t=>pure (tmps.getD t undef)
  | .cell b t=>do loadVar t (← asAddr (tmps.getD b undef))
theorem FT (fn:Func) (tmps:Array Value):results fn tmps=(do let vs ← fn.results.mapM (rv tmps);pure (if h:vs.size=1 then vs[0] else .tuple vs)):=by
  unfold results
  congr 1
def Res1 (P:Program) (l:Env) (w:World) (r:ResultVar) (v:Value):Prop:=∀ n a d,Ok n a l→(rv a.tmps r).run P (dr w d)=.ok v (dr w d)
theorem AE {t:Tmp} {v:Value} (h:lk l t=some v):Res1 P l w (.tmp t) v:=fun _ a d ha=>by have:=ha.knows t v h;simpa [rv] using this
theorem Ck {b:Tmp} {t:TypeId} [TAgg P t] {z:Value} {size bytes:Nat} [TInfo P t z size bytes] {g o:Nat} {cs:List Value} (h:lk l b=some (.pointer (some ⟨g,o,none⟩))) (hl:cs.length=size) (hc:cellsAt w g o cs):Res1 P l w (.cell b t) (.agg cs.toArray):=fun _ a d ha=>by
  have hk:=ha.knows b _ h
  subst hl
  have:=DP (P:=P) (dr w d) g o cs 0 #[] (fun j v hv=>by rw [Nat.zero_add];exact Es hc j v hv)
  simp only [rv,hk]
  simp [asAddr,loadVar,FL,DG (P:=P) (t:=t),loadCells,this]
theorem res1 {r:ResultVar} {v:Value} (hr:fn.results=#[r]) (h:Res1 P l w r v):Res P fn l w v:=fun n a d ha=>by
  simp [FT,hr,h n a d ha]
theorem res2 {r s:ResultVar} {v u:Value} (hr:fn.results=#[r,s]) (h:Res1 P l w r v) (k:Res1 P l w s u):Res P fn l w (.tuple #[v,u]):=fun n a d ha=>by
  simp [FT,hr,h n a d ha,k n a d ha]
theorem res3 {r s q:ResultVar} {v u x:Value} (hr:fn.results=#[r,s,q]) (h:Res1 P l w r v) (k:Res1 P l w s u) (j:Res1 P l w q x):Res P fn l w (.tuple #[v,u,x]):=fun n a d ha=>by
  simp [FT,hr,h n a d ha,k n a d ha,j n a d ha]
end
end
section
open Go Go.RowKit
class Mixed (P:Program):Prop where eq:P.follows .mixedOrders=true
def comesB (ops:Array Oper):Nat→Nat→Nat→Bool
  | 0,_,_=>false
  | fuel + 1,j,k=>(ops[j]?).any fun o=>o.after.any fun e=>Region.binds .any e && (e.on == k || comesB ops fuel e.on k)
def isLast (ops:Array Oper) (j:Nat):Bool:=(List.range ops.size).all fun k=>k == j || comesB ops ops.size j k
def Closed (ops:Array Oper) (listed:Array Bool):Prop:=∀ m om,listed.getD m false=true→ops[m]?=some om→∀ e∈om.after,Region.binds .any e=true→listed.getD e.on false=true
theorem EY {ops:Array Oper} {listed:Array Bool} (hc:Closed ops listed):∀ (fuel j k:Nat) (oj:Oper),ops[j]?=some oj→(∀ e∈oj.after,Region.binds .any e=true→listed.getD e.on false=true)→comesB ops fuel j k=true→listed.getD k false=true
  | 0,_,_,_,_,_,h=>by simp [comesB] at h
  | fuel + 1,j,k,oj,hj,ha,h=>by
    simp only [comesB,hj,Option.any_some] at h
    obtain ⟨e,he,hb⟩:=Array.any_eq_true'.1 h
    rw [Bool.and_eq_true,Bool.or_eq_true] at hb
    have h1:=ha e he hb.1
    rcases hb.2 with hk|hk
    · have:e.on=k:=by simpa using hk
      rw [← this];exact h1
    · cases hm:ops[e.on]? with
      | none =>
        exfalso
        cases fuel with
        | zero=>simp [comesB] at hk
        | succ f=>simp [comesB,hm] at hk
      | some om=>exact EY hc fuel e.on k om hm (hc e.on om h1 hm) hk
theorem Closed.set {ops:Array Oper} {listed:Array Bool} (hc:Closed ops listed) {i:Nat} (hi:i∈Region.ready .any ops listed):Closed ops (listed.setIfInBounds i true):=by
  intro m om hm hom e he hb
  obtain ⟨_,oi,hoi,hall⟩:=mem_ready.1 hi
  by_cases hmi:m=i
  · subst hmi
    rw [hom] at hoi
    injection hoi with hoi
    subst hoi
    exact getD_set_true (hall e he hb)
  · have:listed.getD m false=true:=by rwa [getD_set_ne false (Ne.symm hmi)] at hm
    exact getD_set_true (hc m om this hom e he hb)
def wpAnyG (P:Program) (ops:Array Oper) (Q:Exit→Act→World→Prop) (S:World→Prop):Nat→Array Bool→Act→World→Prop
  | 0,listed,a,w=>Region.ready .any ops listed=[]∧Q .normal a w
  | fuel + 1,listed,a,w =>
    (Region.ready .any ops listed=[]→Q .normal a w) ∧
    ∀ i∈Region.ready .any ops listed,wpOp P ops Q i (fun a' w'=>(isLast ops i=false→S w')∧wpAnyG P ops Q S fuel (listed.setIfInBounds i true) a' w') a w
theorem Ha {P:Program} {ops:Array Oper} {Q:Exit→Act→World→Prop} {S:World→Prop}:∀ (fuel:Nat) (listed:Array Bool) (a:Act) (w:World),wpAnyG P ops Q S fuel listed a w→wpAny P .any ops Q fuel listed a w
  | 0,_,_,_,h=>h
  | fuel + 1,_,_,_,h=>⟨h.1,fun i hi=>wpOp_mono (fun a' w' h'=>Ha fuel _ a' w' h'.2) (h.2 i hi)⟩
theorem HI {P:Program} {ops:Array Oper} {Q:Exit→Act→World→Prop} {S:World→Prop} {i:Nat} {oi:Oper} {v:Value} (hi:ops[i]?=some oi) (hsel:∀ (j:Nat) (o:Oper) cs b,ops[j]?=some o→o.op≠.select cs b)
    (hQ:∀ c a w,Q (.panic c) (a.put oi.dst v) w→Q (.panic c) a w) :
    ∀ (fuel:Nat) (listed:Array Bool) (a:Act) (w:World),Closed ops listed →
      (∀ j oj,ops[j]?=some oj→j≠i→listed.getD j true=false→(∀ e∈oj.after,Region.binds .any e=true→e.on≠i)→oi.apart ops oj=true) →
      i∈Region.ready .any ops listed→YieldsIf P ops S oi v a→S w →
      wpAnyG P ops Q S fuel (listed.setIfInBounds i true) (a.put oi.dst v) w→wpAnyG P ops Q S (fuel + 1) listed a w:=by
  intro fuel
  induction fuel with
  | zero =>
    intro listed a w _ _ hr hy hS H
    refine ⟨fun h=>(by rw [h] at hr;cases hr),fun j hj=>?_⟩
    by_cases hji:j=i
    · subst hji;exact hy.wpOp hi hS ⟨fun _=>hS,H⟩
    · have:=ready_mono hj hji
      rw [H.1] at this
      cases this
  | succ fuel ih =>
    intro listed a w hcl hfree hr hy hS H
    refine ⟨fun h=>(by rw [h] at hr;cases hr),fun j hj=>?_⟩
    by_cases hji:j=i
    · subst hji;exact hy.wpOp hi hS ⟨fun _=>hS,H⟩
    · have h1:=H.2 j (ready_mono hj hji)
      obtain ⟨hjun,oj,hoj,hall⟩:=mem_ready.1 hj
      have hnot:∀ e∈oj.after,Region.binds .any e=true→e.on≠i:=fun e he hb heq=>by
        have h1:=hall e he hb
        have h0:=(mem_ready.1 hr).1
        rw [heq] at h1
        rcases Nat.lt_or_ge i listed.size with h'|h'
        · simp [h'] at h0 h1;rw [h0] at h1;cases h1
        · simp [Array.getElem?_eq_none h'] at h1
      have hap:=hfree j oj hoj hji hjun hnot
      have hrj:i∈Region.ready .any ops (listed.setIfInBounds j true):=ready_mono hr (Ne.symm hji)
      have hil:i < ops.size:=by
        rcases Nat.lt_or_ge i ops.size with h|h
        · exact h
        · rw [Array.getElem?_eq_none h] at hi;cases hi
      have hnl:isLast ops j=false:=by
        cases hl:isLast ops j with
        | false=>rfl
        | true =>
          exfalso
          have h4:=List.all_eq_true.1 hl i (List.mem_range.2 hil)
          rw [Bool.or_eq_true] at h4
          rcases h4 with h4|h4
          · exact hji (by simpa using h4:i=j).symm
          · have h5:=EY hcl ops.size j i oj hoj hall h4
            have h6:=(mem_ready.1 hr).1
            rcases Nat.lt_or_ge i listed.size with h'|h'
            · simp [h'] at h5 h6;rw [h6] at h5;cases h5
            · simp [Array.getElem?_eq_none h'] at h5
      have hfree':∀ k ok,ops[k]?=some ok→k≠i→(listed.setIfInBounds j true).getD k true=false →
          (∀ e∈ok.after,Region.binds .any e=true→e.on≠i)→oi.apart ops ok=true:=fun k ok hk hki hun hno=>by
        refine hfree k ok hk hki ?_ hno
        by_cases hjk:j=k
        · subst hjk;exact hjun
        · rw [getD_set_ne true hjk] at hun;exact hun
      have h2:=wpOp_putIf hoj hap (fun cs b=>hsel i oi cs b hi) (fun cs b=>hsel j oj cs b hoj) hQ hy h1
      refine wpOp_mono (fun a' w' h3=>?_) h2
      have hS':S w':=h3.2.1 hnl
      refine ⟨fun _=>hS',ih (listed.setIfInBounds j true) a' w' (hcl.set hj) hfree' hrj h3.1 hS' ?_⟩
      rw [Array.setIfInBounds_comm _ _ hji]
      exact h3.2.2
def wpOrd (P:Program) (ops:Array Oper) (Q:Exit→Act→World→Prop) (S:World→Prop):List (Nat×Bool)→Act→World→Prop
  | [],a,w=>Q .normal a w
  | (i,true) :: r,a,w=>∃ o v,ops[i]?=some o∧YieldsIf P ops S o v a∧wpOrd P ops Q S r (a.put o.dst v) w
  | (i,false) :: r,a,w=>wpOp P ops Q i (fun a' w'=>(r≠[]→S w')∧wpOrd P ops Q S r a' w') a w
def ordOk (ops:Array Oper):Array Bool→List (Nat×Bool)→Bool
  | listed,[]=>(Region.ready .any ops listed).isEmpty
  | listed,(i,true) :: r=>(Region.ready .any ops listed).contains i && (Region.free .any ops listed i && ordOk ops (listed.setIfInBounds i true) r)
  | listed,[(i,false)]=>(Region.ready .any ops listed == [i]) && (isLast ops i && ordOk ops (listed.setIfInBounds i true) [])
  | listed,(i,false) :: r=>(Region.ready .any ops listed == [i]) && ordOk ops (listed.setIfInBounds i true) r
theorem ET {P:Program} {ops:Array Oper} {Q:Exit→Act→World→Prop} {S:World→Prop} (hs:Region.noSelect ops=true) (hQ:∀ c a w,¬ Q (.panic c) a w) :
    ∀ (ord:List (Nat×Bool)) (listed:Array Bool) (a:Act) (w:World),Closed ops listed→ordOk ops listed ord=true→(ord≠[]→S w)→wpOrd P ops Q S ord a w→wpAnyG P ops Q S ord.length listed a w
  | [],listed,a,w,_,hc,_,h=>⟨by simpa [ordOk] using hc,h⟩
  | (i,true) :: r,listed,a,w,hcl,hc,hS,h=>by
    simp only [ordOk,Bool.and_eq_true] at hc
    obtain ⟨o,v,ho,hy,hr⟩:=h
    have hi:i∈Region.ready .any ops listed:=by simpa using hc.1
    exact HI ho (Region.noSelect_spec hs) (fun c a w hq=>(hQ c _ _ hq).elim) r.length listed a w hcl (Region.free_spec ho hc.2.1) hi hy (hS (by simp)) (ET hs hQ r _ _ w (hcl.set hi) hc.2.2 (fun _=>hS (by simp)) hr)
  | [(i,false)],listed,a,w,hcl,hc,hS,h=>by
    simp only [ordOk,Bool.and_eq_true] at hc
    have hr:Region.ready .any ops listed=[i]:=by simpa using hc.1
    refine ⟨fun h0=>by rw [hr] at h0;simp at h0,fun j hj=>?_⟩
    rw [hr] at hj
    have:j=i:=by simpa using hj
    subst this
    have hji:j∈Region.ready .any ops listed:=by rw [hr];simp
    exact wpOp_mono (fun a' w' hh=>⟨(fun hl=>by rw [hc.2.1] at hl;cases hl),ET hs hQ [] _ a' w' (hcl.set hji) (by simpa [ordOk] using hc.2.2) (fun h=>absurd rfl h) hh.2⟩) h
  | (i,false) :: x :: r,listed,a,w,hcl,hc,hS,h=>by
    simp only [ordOk,Bool.and_eq_true] at hc
    have hr:Region.ready .any ops listed=[i]:=by simpa using hc.1
    refine ⟨fun h0=>by rw [hr] at h0;simp at h0,fun j hj=>?_⟩
    rw [hr] at hj
    have:j=i:=by simpa using hj
    subst this
    have hji:j∈Region.ready .any ops listed:=by rw [hr];simp
    exact wpOp_mono (fun a' w' hh=>⟨fun _=>hh.1 (by simp),ET hs hQ (x :: r) _ a' w' (hcl.set hji) hc.2 hh.1 hh.2⟩) h
def hwp (P:Program) (n:Nat) (ops:Array Oper) (Q:Post) (S:World→Prop) (ord:List (Nat×Bool)) (l:Env) (w:World):Prop :=
  ∀ a d,Ok n a l→wpOrd P ops (lift n Q) (fun w'=>∃ d',S (dr w' d')) ord a (dr w d)
def Evg (P:Program) (ops:Array Oper) (o:Oper) (l:Env) (S:World→Prop) (v:Value):Prop :=
  ∀ n a,Ok n a l→YieldsIf P ops (fun w'=>∃ d',S (dr w' d')) o v a
section
variable {P : Program} {n : Nat} {ops : Array Oper} {Q : Post} {S : World → Prop} {l : Env} {w : World} {d : Tmp} {op : Op} {ty : TypeId} {pos : String} {aft : Array Edge}
theorem evg {dst:Option Tmp} {v:Value} (h:∀ w,S w→Ev P ⟨dst,op,ty,pos,aft,none⟩ l w v):Evg P ops ⟨dst,op,ty,pos,aft,none⟩ l S v:=fun n a ha =>
  .inl ⟨by simp [Region.wanted],fun w' ⟨d',hS⟩=>h _ hS n a w'.drawn ha⟩
theorem Qd {dst:Option Tmp} {j dj:Nat} {b:Bool} {u:Value} (hj:gdst ops j=some dj) (hl:lk l dj=some u) (hu:isB u b=false):Evg P ops ⟨dst,op,ty,pos,aft,some (j,b)⟩ l S undef:=fun n a ha =>
  .inr ⟨by simpa [Region.wanted] using ha.unwanted (b:=b) hj hl hu,rfl⟩
theorem LZ (h:Q .normal l w):hwp P n ops Q S [] l w:=fun _ _ ha=>Ga trivial ha h
theorem QM {i:Nat} {o:Oper} {r:List (Nat×Bool)} {v:Value} (hi:ops[i]?=some o) (hd:o.dst=some d) (hn:Nat.blt d n=true) (he:Evg P ops o l S v) (h:hwp P n ops Q S r ((d,v) :: l) w):hwp P n ops Q S ((i,true) :: r) l w:=fun a e ha =>
  ⟨o,v,hi,he n a ha,by rw [hd];exact h _ _ (ha.put hn v)⟩
def loud (P:Program) (n:Nat) (ops:Array Oper) (Q:Post) (S:World→Prop) (r:List (Nat×Bool)):Post
  | .normal,l,w=>(r≠[]→S w)∧hwp P n ops Q S r l w
  | _,_,_=>False
theorem BT {i:Nat} {o:Oper} {r:List (Nat×Bool)} (hi:ops[i]?=some o) (h:owp P n ops (loud P n ops Q S r) [o] l w):hwp P n ops Q S ((i,false) :: r) l w:=fun a e ha=>by
  have h1:=h a e ha
  show wpOp P ops (lift n Q) i _ a (dr w e)
  unfold wpList at h1
  unfold wpOp
  simp only [hi]
  have conv:∀ a' w',lift n (loud P n ops Q S r) .normal a' w'→(r≠[]→∃ d',S (dr w' d'))∧wpOrd P ops (lift n Q) (fun w'=>∃ d',S (dr w' d')) r a' w':=by
    rintro a' w' ⟨_,l',w₀,d',rfl,ho,hS,hh⟩
    exact ⟨fun hr=>⟨w₀.drawn,hS hr⟩,hh a' d' ho⟩
  have nope:∀ e' a' w',lift n (loud P n ops Q S r) e' a' w'→e'=.normal:=by
    rintro e' a' w' ⟨hn,l',w₀,d',rfl,ho,hh⟩
    cases e'<;>first|rfl|exact hh.elim
  by_cases hw:Region.wanted o (yielded ops a.tmps)=true
  · rw [if_pos hw] at h1
    rw [if_pos hw]
    rcases h1 with h1|⟨h1,a0,w0,h2⟩
    · refine .inl ?_
      unfold Oper.wp at *
      generalize (execOp a.eval o).run P (dr w e)=res at *
      cases res with
      | ok nx w' =>
        cases nx<;>simp only [Oper.upon] at h1 ⊢ <;>
          first
            | exact conv _ _ h1
            | exact Calls.mono h1 (fun en w'' he=>by
                cases en with
                | returned v=>exact conv _ _ he
                | panicked c=>exact absurd (nope _ _ _ he) (by simp)
                | outgrown=>obtain ⟨a0,w0,hq⟩:=he;exact absurd (nope _ _ _ hq) (by simp))
            | exact Rows.mono h1 (fun _ _ he=>conv _ _ he)
            | exact h1.elim
      | halt x w'=>cases x<;>simp only [Oper.upon] at h1 ⊢<;>first|exact h1.elim|exact absurd (nope _ _ _ h1) (by simp)
    · exact absurd (nope _ _ _ h2) (by simp)
  · rw [if_neg hw] at h1
    rw [if_neg hw]
    exact conv _ _ h1
theorem Cw [hm:Mixed P] {id:Nat} {L:List Oper} (S:World→Prop) (ord:List (Nat×Bool)) (hs:Region.noSelect L.toArray=true) (hl:ord.length=L.toArray.size) (hc:ordOk L.toArray (Array.replicate L.toArray.size false) ord=true) (hS:S w)
    (h:hwp P n L.toArray Q S ord l w):ewp P n (.region id L.toArray true) Q l w:=fun a d ha =>
  wp_region_any hm.eq (by
    have:=ET (P:=P) hs (Q:=lift n Q) (S:=fun w'=>∃ d',S (dr w' d')) (fun c a w hq=>hq.1) ord (Array.replicate L.toArray.size false) a (dr w (d + 1)) (fun m om hm=>by
      simp only [Array.getD_eq_getD_getElem?,Array.getElem?_replicate] at hm
      split at hm<;>simp at hm) hc (fun _=>⟨w.drawn,hS⟩) (h a (d + 1) ha)
    rw [hl] at this
    exact Ha _ _ _ _ this)
end
end
section
open Go Go.RowKit
section
variable {P : Program} {n : Nat} {ops : Array Oper} {Q : Post} {K : Env → World → Prop} {S : World → Prop} {rest : List Oper} {l : Env} {w : World} {d : Tmp} {op : Op} {ty : TypeId} {pos : String} {aft : Array Edge}
theorem IK (h:K l w):owp P n ops (thn K Q) [] l w:=Fp h
theorem AB (h:K l w):hwp P n ops (thn K Q) S [] l w:=LZ h
theorem Cl {r:List (Nat×Bool)} (h1:S w) (h2:hwp P n ops Q S r l w):owp P n ops (loud P n ops Q S r) [] l w:=Fp ⟨fun _=>h1,h2⟩
theorem Fc (h2:hwp P n ops Q S [] l w):owp P n ops (loud P n ops Q S []) [] l w:=Fp ⟨fun h=>absurd rfl h,h2⟩
theorem Ec {p:Prop} [Decidable p] (he:Ev P ⟨some d,op,ty,pos,aft,none⟩ l w (.bool (decide p))) (hd:Nat.blt d n=true) (ht:p→owp P n ops Q rest ((d,.bool true) :: l) w) (hf:¬ p→owp P n ops Q rest ((d,.bool false) :: l) w) :
    owp P n ops Q (⟨some d,op,ty,pos,aft,none⟩ :: rest) l w:=by
  by_cases h:p
  · exact Bz (by simpa [h] using he) hd (ht h)
  · exact Bz (by simpa [h] using he) hd (hf h)
theorem Gi {p:Prop} [Decidable p] (he:Ev P ⟨some d,op,ty,pos,aft,none⟩ l w (.bool (decide p))) (hd:Nat.blt d n=true) (h:p) (ht:owp P n ops Q rest ((d,.bool true) :: l) w):owp P n ops Q (⟨some d,op,ty,pos,aft,none⟩ :: rest) l w:=Bz (by simpa [h] using he) hd ht
theorem Gj {p:Prop} [Decidable p] (he:Ev P ⟨some d,op,ty,pos,aft,none⟩ l w (.bool (decide p))) (hd:Nat.blt d n=true) (h:¬ p) (hf:owp P n ops Q rest ((d,.bool false) :: l) w):owp P n ops Q (⟨some d,op,ty,pos,aft,none⟩ :: rest) l w:=Bz (by simpa [h] using he) hd hf
def hwq (P:Program) (n:Nat) (ops:Array Oper) (Q:Post) (S:World→Prop) (o:Oper) (r:List (Nat×Bool)) (l:Env) (w:World):Prop :=
  ∃ d v,o.dst=some d∧Nat.blt d n=true∧Evg P ops o l S v∧hwp P n ops Q S r ((d,v) :: l) w
theorem AA {i:Nat} {o:Oper} {r:List (Nat×Bool)} (hi:ops[i]?=some o) (h:hwq P n ops Q S o r l w):hwp P n ops Q S ((i,true) :: r) l w:=by
  obtain ⟨d,v,h1,h2,h3,h4⟩:=h
  exact QM hi h1 h2 h3 h4
theorem BC {r:List (Nat×Bool)} {v:Value} (he:∀ w',S w'→Ev P ⟨some d,op,ty,pos,aft,none⟩ l w' v) (hn:Nat.blt d n=true) (h:hwp P n ops Q S r ((d,v) :: l) w):hwq P n ops Q S ⟨some d,op,ty,pos,aft,none⟩ r l w:=⟨d,v,rfl,hn,evg he,h⟩
theorem My {w₀:World} {r:List (Nat×Bool)} {v:Value} (he:Ev P ⟨some d,op,ty,pos,aft,none⟩ l w₀ v) (hn:Nat.blt d n=true) (h:hwp P n ops Q (·=w₀) r ((d,v) :: l) w):hwq P n ops Q (·=w₀) ⟨some d,op,ty,pos,aft,none⟩ r l w:=⟨d,v,rfl,hn,evg fun _ e=>e ▸ he,h⟩
theorem AC {r:List (Nat×Bool)} {j dj:Nat} {b:Bool} {u:Value} (hj:gdst ops j=some dj) (hl:lk l dj=some u) (hu:isB u b=false) (hn:Nat.blt d n=true) (h:hwp P n ops Q S r ((d,undef) :: l) w):hwq P n ops Q S ⟨some d,op,ty,pos,aft,some (j,b)⟩ r l w:=⟨d,_,rfl,hn,Qd hj hl hu,h⟩
theorem Ay {r:List (Nat×Bool)} {j dj:Nat} {b:Bool} (hj:gdst ops j=some dj) (hl:lk l dj=some (.bool b)) (h:hwq P n ops Q S ⟨some d,op,ty,pos,aft,none⟩ r l w):hwq P n ops Q S ⟨some d,op,ty,pos,aft,some (j,b)⟩ r l w:=by
  obtain ⟨d',v,h1,h2,h3,h4⟩:=h
  refine ⟨d',v,h1,h2,fun m a ha=>?_,h4⟩
  rcases h3 m a ha with ⟨_,hv⟩|⟨hw,_⟩
  · exact .inl ⟨by simp [Region.wanted,ha.yielded hj hl],hv⟩
  · simp [Region.wanted] at hw
theorem Bu {p:Prop} [Decidable p] {r:List (Nat×Bool)} (he:∀ w',S w'→Ev P ⟨some d,op,ty,pos,aft,none⟩ l w' (.bool (decide p))) (hn:Nat.blt d n=true) (ht:p→hwp P n ops Q S r ((d,.bool true) :: l) w) (hf:¬ p→hwp P n ops Q S r ((d,.bool false) :: l) w) :
    hwq P n ops Q S ⟨some d,op,ty,pos,aft,none⟩ r l w:=by
  by_cases h:p
  · exact BC (by simpa [h] using he) hn (ht h)
  · exact BC (by simpa [h] using he) hn (hf h)
theorem Ce {p:Prop} [Decidable p] {r:List (Nat×Bool)} (he:∀ w',S w'→Ev P ⟨some d,op,ty,pos,aft,none⟩ l w' (.bool (decide p))) (hn:Nat.blt d n=true) (h:p) (ht:hwp P n ops Q S r ((d,.bool true) :: l) w):hwq P n ops Q S ⟨some d,op,ty,pos,aft,none⟩ r l w:=BC (by simpa [h] using he) hn ht
theorem Cf {p:Prop} [Decidable p] {r:List (Nat×Bool)} (he:∀ w',S w'→Ev P ⟨some d,op,ty,pos,aft,none⟩ l w' (.bool (decide p))) (hn:Nat.blt d n=true) (h:¬ p) (hf:hwp P n ops Q S r ((d,.bool false) :: l) w):hwq P n ops Q S ⟨some d,op,ty,pos,aft,none⟩ r l w:=BC (by simpa [h] using he) hn hf
def hws (P:Program) (n:Nat) (ops:Array Oper) (Q:Post) (S:World→Prop) (fuel:Nat) (listed:Array Bool) (l:Env) (w:World):Prop :=
  Closed ops listed→∀ a d,Ok n a l→wpAnyG P ops (lift n Q) (fun w'=>∃ d',S (dr w' d')) fuel listed a (dr w d)
def loudS (P:Program) (n:Nat) (ops:Array Oper) (Q:Post) (S:World→Prop) (i:Nat) (fuel:Nat) (listed:Array Bool):Post
  | .normal,l,w=>(isLast ops i=false→S w)∧hws P n ops Q S fuel (listed.setIfInBounds i true) l w
  | _,_,_=>False
theorem Ig {fuel i:Nat} {o:Oper} {v:Value} {listed:Array Bool} (hi:ops[i]?=some o) (hs:Region.noSelect ops=true) (hf:Region.free .any ops listed i=true) (hr:(Region.ready .any ops listed).contains i=true) (hd:o.dst=some d) (hn:Nat.blt d n=true) (he:Evg P ops o l S v) (hS:S w)
    (h:hws P n ops Q S fuel (listed.setIfInBounds i true) ((d,v) :: l) w):hws P n ops Q S (fuel + 1) listed l w:=fun hcl a e ha=>by
  have hr':i∈Region.ready .any ops listed:=by simpa using hr
  refine HI hi (Region.noSelect_spec hs) (fun c a w hq=>hq.1.elim) fuel listed a _ hcl (Region.free_spec hi hf) hr' (he n a ha) ⟨w.drawn,hS⟩ ?_
  rw [hd]
  exact h (hcl.set hr') _ _ (ha.put hn v)
theorem KT {fuel i:Nat} {o:Oper} {listed:Array Bool} (hi:ops[i]?=some o) (hr:i∈Region.ready .any ops listed) (h:owp P n ops (loudS P n ops Q S i fuel listed) [o] l w) (hcl:Closed ops listed) (a:Act) (e:Nat) (ha:Ok n a l) :
    wpOp P ops (lift n Q) i (fun a' w'=>(isLast ops i=false→∃ d',S (dr w' d'))∧wpAnyG P ops (lift n Q) (fun w'=>∃ d',S (dr w' d')) fuel (listed.setIfInBounds i true) a' w') a (dr w e):=by
  have h1:=h a e ha
  unfold wpList at h1
  unfold wpOp
  simp only [hi]
  have conv:∀ a' w',lift n (loudS P n ops Q S i fuel listed) .normal a' w'→(isLast ops i=false→∃ d',S (dr w' d'))∧wpAnyG P ops (lift n Q) (fun w'=>∃ d',S (dr w' d')) fuel (listed.setIfInBounds i true) a' w':=by
    rintro a' w' ⟨_,l',w₀,d',rfl,ho,hS,hh⟩
    exact ⟨fun hl=>⟨w₀.drawn,hS hl⟩,hh (hcl.set hr) a' d' ho⟩
  have nope:∀ e' a' w',lift n (loudS P n ops Q S i fuel listed) e' a' w'→e'=.normal:=by
    rintro e' a' w' ⟨hn,l',w₀,d',rfl,ho,hh⟩
    cases e'<;>first|rfl|exact hh.elim
  by_cases hw:Region.wanted o (yielded ops a.tmps)=true
  · rw [if_pos hw] at h1
    rw [if_pos hw]
    rcases h1 with h1|⟨h1,a0,w0,h2⟩
    · refine .inl ?_
      unfold Oper.wp at *
      generalize (execOp a.eval o).run P (dr w e)=res at *
      cases res with
      | ok nx w' =>
        cases nx<;>simp only [Oper.upon] at h1 ⊢ <;>
          first
            | exact conv _ _ h1
            | exact Calls.mono h1 (fun en w'' he=>by
                cases en with
                | returned v=>exact conv _ _ he
                | panicked c=>exact absurd (nope _ _ _ he) (by simp)
                | outgrown=>obtain ⟨a0,w0,hq⟩:=he;exact absurd (nope _ _ _ hq) (by simp))
            | exact Rows.mono h1 (fun _ _ he=>conv _ _ he)
            | exact h1.elim
      | halt x w'=>cases x<;>simp only [Oper.upon] at h1 ⊢<;>first|exact h1.elim|exact absurd (nope _ _ _ h1) (by simp)
    · exact absurd (nope _ _ _ h2) (by simp)
  · rw [if_neg hw] at h1
    rw [if_neg hw]
    exact conv _ _ h1
theorem JN {fuel i j:Nat} {oi oj:Oper} {listed:Array Bool} (hr:Region.ready .any ops listed=[i,j]) (hi:ops[i]?=some oi) (hj:ops[j]?=some oj)
    (h1:owp P n ops (loudS P n ops Q S i fuel listed) [oi] l w) (h2:owp P n ops (loudS P n ops Q S j fuel listed) [oj] l w):hws P n ops Q S (fuel + 1) listed l w:=fun hcl a e ha=>by
  refine ⟨fun h0=>by rw [hr] at h0;simp at h0,fun k hk=>?_⟩
  have hk':=hk
  rw [hr] at hk
  have:k=i∨k=j:=by simpa using hk
  rcases this with rfl|rfl
  · exact KT hi hk' h1 hcl a e ha
  · exact KT hj hk' h2 hcl a e ha
theorem Fd {fuel i:Nat} {listed:Array Bool} (h1:S w) (h2:hws P n ops Q S fuel (listed.setIfInBounds i true) l w):owp P n ops (loudS P n ops Q S i fuel listed) [] l w:=Fp ⟨fun _=>h1,h2⟩
theorem Ih {fuel:Nat} {listed:Array Bool} (ord:List (Nat×Bool)) (hs:Region.noSelect ops=true) (hl:ord.length=fuel) (hc:ordOk ops listed ord=true) (hS:S w) (h:hwp P n ops Q S ord l w):hws P n ops Q S fuel listed l w:=fun hcl a e ha=>by
  subst hl
  exact ET (P:=P) hs (Q:=lift n Q) (S:=fun w'=>∃ d',S (dr w' d')) (fun c a w hq=>hq.1) ord listed a (dr w e) hcl hc (fun _=>⟨w.drawn,hS⟩) (h a e ha)
theorem Nf [hm:Mixed P] {id:Nat} {L:List Oper} (S:World→Prop) (h:hws P n L.toArray Q S L.toArray.size (Array.replicate L.toArray.size false) l w):ewp P n (.region id L.toArray true) Q l w:=fun a d ha =>
  wp_region_any hm.eq (Ha _ _ _ _ (h (fun m om hm=>by
      simp only [Array.getD_eq_getD_getElem?,Array.getElem?_replicate] at hm
      split at hm<;>simp at hm) a (d + 1) ha))
noncomputable def bof (p:Prop):Bool:=@decide p (Classical.propDecidable p)
theorem Bd {p:Prop} (h:p):bof p=true:=by unfold bof;exact @decide_eq_true p (Classical.propDecidable p) h
theorem AM {p:Prop} (h:¬ p):bof p=false:=by unfold bof;exact @decide_eq_false p (Classical.propDecidable p) h
theorem HJ {p q:Prop} (h:p↔q):bof p=bof q:=by
  by_cases hp:p
  · rw [Bd hp,Bd (h.1 hp)]
  · rw [AM hp,AM (fun hq=>hp (h.2 hq))]
theorem Jp (b:Bool):bof (b=true)=b:=by
  cases b
  · exact AM (by simp)
  · exact Bd rfl
theorem CJ {f:FuncId} [Callable P f] {xs:List Operand} {vs:List Value} {ts:Array TypeId} {p:Prop} {R:World→Prop} (hx:opvs l xs=some vs) (hd:Nat.blt d n=true) (hc:Fn P f vs w fun v w'=>v=.bool (bof p)∧R w')
    (ht:∀ w',p→R w'→owp P n ops Q rest ((d,.bool true) :: l) w') (hf:∀ w',¬ p→R w'→owp P n ops Q rest ((d,.bool false) :: l) w'):owp P n ops Q (⟨some d,.call { callee:=.value (.func f),args:=xs.toArray,argTypes:=ts },ty,pos,aft,none⟩ :: rest) l w :=
  By hx hd hc fun v w' ⟨hv,hR⟩=>by
    subst hv
    by_cases h:p
    · rw [Bd h];exact ht w' h hR
    · rw [AM h];exact hf w' h hR
theorem Cg {t:TypeId} {z:Value} {size bytes:Nat} [hi:TInfo P t z size bytes] {ty2:TypeId} {pos2:String} {aft2:Array Edge} {y:Operand} {v:Value} (hd:Nat.blt d n=true) (hy:opv ((d,.pointer (some ⟨w.heap.size,0,none⟩)) :: l) y=some v) (hsz:v.cells.toList.length=size) (h1:∀ u∈v.cells.toList,u.oneCell'=true)
    (h:∀ w',New w w' t v.cells.toList→owp P n ops Q rest ((d,.pointer (some ⟨w.heap.size,0,none⟩)) :: l) w') :
    owp P n ops Q (⟨some d,.alloc t,ty,pos,aft,none⟩ :: ⟨none,.store t (.tmp d) y,ty2,pos2,aft2,none⟩ :: rest) l w:=by
  have hz:z.cells.toList.length=size:=by simpa using hi.sz
  refine DH hd fun w1 hN=>?_
  refine Cc (g:=w.heap.size) (o:=0) (by simp [opv,lk]) hy hN.blk hsz (by omega) h1 fun w2 hU=>h w2 ?_
  refine ⟨hN.ext.trans (hU.below (Nat.le_refl _)),by rw [hU.size,hN.size],?_⟩
  have h2:=ES v.cells.toList [] z.cells.toList [] (by omega)
  have h3:=hU.blk
  simp only [List.nil_append,List.append_nil,List.length_nil] at h2
  rw [h2] at h3
  exact h3
theorem EB {dst:Option Tmp} {t u:TypeId} {x y:Operand} {k:IntKind} {a b:Int} (hx:opv l x=some (.int k a)) (hy:opv l y=some (.int k b)):Ev P ⟨dst,.binOp .neq t x y u,ty,pos,aft,none⟩ l w (.bool (decide (a≠b))):=by
  have:=Qa (P:=P) (w:=w) (dst:=dst) (t:=t) (u:=u) (ty:=ty) (pos:=pos) (aft:=aft) hx hy
  by_cases h:a=b<;>simpa [h] using this
theorem ret1 {fn:Func} {R:Value→World→Prop} {t:Tmp} {v:Value} (hr:fn.results=#[.tmp t]) (hl:lk l t=some v) (h:R v w):retPost P fn R .ret l w:=⟨v,res1 hr (AE hl),h⟩
theorem ret1v {fn:Func} {R:Value→World→Prop} {r:ResultVar} {v:Value} (hr:fn.results=#[r]) (hl:Res1 P l w r v) (h:R v w):retPost P fn R .ret l w:=⟨v,res1 hr hl,h⟩
theorem ret2 {fn:Func} {R:Value→World→Prop} {r s:ResultVar} {v u:Value} (hr:fn.results=#[r,s]) (h1:Res1 P l w r v) (h2:Res1 P l w s u) (h:R (.tuple #[v,u]) w):retPost P fn R .ret l w:=⟨_,res2 hr h1 h2,h⟩
theorem ret3 {fn:Func} {R:Value→World→Prop} {r s q:ResultVar} {v u x:Value} (hr:fn.results=#[r,s,q]) (h1:Res1 P l w r v) (h2:Res1 P l w s u) (h3:Res1 P l w q x) (h:R (.tuple #[v,u,x]) w):retPost P fn R .ret l w:=⟨_,res3 hr h1 h2 h3,h⟩
theorem EI {c:Code} {X:Type} (E:X→Env) (I:X→World→Prop) (μ:X→Nat) (x₀:X) (h₀:I x₀ w) (hs:subs l (E x₀))
    (round:∀ x w,I x w→ewp P n c (thn (fun l' w'=>∃ x',subs l' (E x')∧I x' w'∧μ x' < μ x) Q) (E x) w):ewp P n (.loop c) Q l w:=KL E I μ x₀ hs h₀ round
end
class NilQ (Q:Post) (K:outParam (Env→World→Prop)):Prop where of:∀ l w,K l w→Q .normal l w
instance nilThn {K:Env→World→Prop} {Q:Post}:NilQ (thn K Q) K:=⟨fun _ _ h=>h⟩
instance nilBlk {i:Nat} {Q:Post} {K:Env→World→Prop} [h:NilQ Q K]:NilQ (inBlk i Q) K:=⟨fun l w hk=>h.of l w hk⟩
instance (priority:=low) nilAny {Q:Post}:NilQ Q (Q .normal):=⟨fun _ _ h=>h⟩
theorem o_z {P:Program} {n:Nat} {ops:Array Oper} {Q:Post} {K:Env→World→Prop} {l:Env} {w:World} [h:NilQ Q K] (hk:K l w):owp P n ops Q [] l w:=Fp (h.of l w hk)
theorem h_z {P:Program} {n:Nat} {ops:Array Oper} {Q:Post} {S:World→Prop} {K:Env→World→Prop} {l:Env} {w:World} [h:NilQ Q K] (hk:K l w):hwp P n ops Q S [] l w:=LZ (h.of l w hk)
class Cgo (P:Program) (n:Nat) (c:Code) (Q:Post) (l:Env) (w:World) (G:outParam Prop):Prop where go:G→ewp P n c Q l w
section
variable {P : Program} {n : Nat} {Q : Post} {l : Env} {w : World}
instance cgoSeq {x y:Code}:Cgo P n (.seq x y) Q l w (ewp P n x (thn (ewp P n y Q) Q) l w):=⟨Al⟩
instance cgoBlock {id:Nat} {c:Code}:Cgo P n (.block id c) Q l w (ewp P n c (inBlk id Q) l w):=⟨Bb⟩
instance cgoRegion {id:Nat} {L:List Oper}:Cgo P n (.region id L.toArray false) Q l w (owp P n L.toArray Q L l w):=⟨Aj⟩
instance cgoSkip:Cgo P n .skip Q l w (Q .normal l w):=⟨AO⟩
instance cgoExit {i:Nat}:Cgo P n (.exit i) Q l w (Q (.exit i) l w):=⟨DM⟩
instance cgoRet:Cgo P n .ret Q l w (Q .ret l w):=⟨AH⟩
theorem At {c:Code} {G:Prop} [h:Cgo P n c Q l w G] (g:G):ewp P n c Q l w:=h.go g
end
end
section
open Go Go.RowKit
theorem HK {l:Env} {i:Nat} {v:Value}:∀ {e:Env},lk e i=none→subs l e→subs ((i,v) :: l) e
  | [],_,_=>trivial
  | (j, u) :: r,hn,h=>by
    simp only [lk] at hn
    cases hb:Nat.beq j i with
    | true=>rw [hb] at hn;simp at hn
    | false =>
      rw [hb] at hn
      refine ⟨?_,HK hn h.2⟩
      have:Nat.beq i j=false:=by
        cases hx:Nat.beq i j
        · rfl
        · rw [Nat.eq_of_beq_eq_true hx,Nat.beq_refl] at hb;cases hb
      simp only [lk,this]
      exact h.1
section
variable {P : Program} {m : Nat} {Q : Post} {l : Env} {w : World}
def rgE (i n:Tmp) (N k:Nat) (e:Env):Env:=(i,.int .i64 (k:Int)) :: (n,.int .i64 (N:Int)) :: e
theorem BM {X:Type} {t i n inc:Tmp} {b b' r r2:Nat} {ty1 ty2 ty3 y1 y2 y3 y4:TypeId} {p1 p2 p3:String} {a1 a2 a3:Array Edge} {body:Code} (N:Nat) (hN:N≤9223372036854775807) (E:X→Env) (I:Nat→X→World→Prop) (x₀:X)
    (h₀:I 0 x₀ w) (hs:subs l (rgE i n N 0 (E x₀)))
    (hf:∀ x,lk (E x) i=none∧lk (E x) inc=none) (ht:Nat.blt t m=true∧Nat.blt i m=true∧Nat.blt inc m=true) (hne:Nat.beq i n=false∧Nat.beq inc n=false)
    (hbody:∀ k x w,k < N→I k x w→ewp P m body (inBlk b' (thn (fun l' w'=>∃ x',subs l' (rgE i n N k (E x'))∧I (k + 1) x' w') (inBlk b Q))) ((t,.bool true) :: rgE i n N k (E x)) w)
    (hdone:∀ x w,I N x w→Q .normal ((t,.bool false) :: rgE i n N N (E x)) w) :
    ewp P m (.loop (.seq (.region r #[⟨some t,.binOp .lss ty1 (.tmp i) (.tmp n) ty2,y1,p1,a1,none⟩] false) (.seq (.cond (.tmp t) .skip (.exit b)) (.seq (.block b' body)
      (.region r2 #[⟨some inc,.binOp .add ty3 (.tmp i) (.const (.int .i64 1)) y4,y2,p2,a2,none⟩,⟨some i,.move (.tmp inc),y3,p3,a3,none⟩] false))))) (inBlk b Q) l w:=by
  have lki:∀ k e,opv (rgE i n N k e) (.tmp i)=some (.int .i64 (k:Int)):=fun k e=>by simp [opv,rgE,lk]
  have lkn:∀ k e,opv (rgE i n N k e) (.tmp n)=some (.int .i64 (N:Int)):=fun k e=>by simp only [opv,rgE,lk,hne.1];simp
  refine (EI (X:=Nat×X) (fun kx=>rgE i n N kx.1 (E kx.2)) (fun kx w=>kx.1≤N∧I kx.1 kx.2 w) (fun kx=>N - kx.1) (0,x₀) ⟨Nat.zero_le _,h₀⟩ hs ?_)
  rintro ⟨k,x⟩ w1 ⟨hk,hI⟩
  dsimp only at hk hI ⊢
  refine Al (Aj ?_)
  by_cases hlt:k < N
  · refine Gi (Cy (lki k _) (lkn k _)) ht.1 (by omega) (IK ?_)
    refine Al (Ah (by simp [opv,lk]) (AO ?_))
    refine Al (Bb (Ge ?_ (hbody k x w1 hlt hI)))
    have conv:∀ l' w',(∃ x',subs l' (rgE i n N k (E x'))∧I (k + 1) x' w')→ewp P m (.region r2 #[⟨some inc,.binOp .add ty3 (.tmp i) (.const (.int .i64 1)) y4,y2,p2,a2,none⟩,⟨some i,.move (.tmp inc),y3,p3,a3,none⟩] false)
        (thn (fun l' w'=>∃ x':Nat×X,subs l' (rgE i n N x'.1 (E x'.2))∧(x'.1≤N∧I x'.1 x'.2 w')∧N - x'.1 < N - k) (inBlk b Q)) l' w':=by
      rintro l' w' ⟨x',hsub,hI'⟩
      refine Aj ?_
      refine Bz (KO (show opv l' (.tmp i)=_ from hsub.1) (by omega)) ht.2.2 ?_
      refine Bz (If (v:=.int .i64 ((k + 1:Nat):Int)) (by simp [opv,lk])) ht.2.1 (IK ?_)
      refine ⟨(k + 1,x'),⟨by simp [lk],?_,?_⟩,⟨hlt,hI'⟩,by dsimp only;omega⟩
      · simp only [lk,hne.1,hne.2];exact hsub.2.1
      · exact HK (hf x').1 (HK (hf x').2 hsub.2.2)
    intro e l' w' hq
    cases e with
    | normal=>exact conv l' w' hq
    | exit j =>
      simp only [inBlk] at hq ⊢
      cases hj:Nat.beq j b' with
      | true=>rw [hj] at hq;exact conv l' w' hq
      | false=>rw [hj] at hq;exact hq
    | panic c=>exact hq
    | outgrown=>exact hq
    | goto j=>exact hq
    | ret=>exact hq
  · have hkN:k=N:=by omega
    subst hkN
    refine Gj (Cy (lki k _) (lkn k _)) ht.1 (by omega) (IK ?_)
    refine Al (Ae (by simp [opv,lk]) (DM ?_))
    have hb:Nat.beq b b=true:=Nat.beq_refl b
    simp only [thn,inBlk,hb]
    exact hdone x w1 hI
end
class TPlaces (P:Program) (t:TypeId) (pl:outParam (List (Nat×Nat))):Prop where eq:∃ fs,P.underlying t=some (.struct fs)∧∀ w,(fs.mapM fun f=>Prod.mk f.offset <$> sizeOf f.type:Sem (Array (Nat×Nat))).run P w=.ok pl.toArray w
def setParts:List Value→List (Nat×Value)→List Value
  | cs,[]=>cs
  | cs,(o,v) :: r=>setParts (setFrom cs o v.cells.toList) r
def partsOk (pl:List (Nat×Nat)) (m:Nat):List (Nat×Value)→Option (List (Nat×Value))
  | []=>some []
  | (i, v) :: r=>match pl[i]? with
    | some (off,size)=>match Nat.beq v.cells.toList.length size && Nat.ble (off + size) m with
      | true=>match partsOk pl m r with
        | some k=>some ((off,v) :: k)
        | none=>none
      | false=>none
    | none=>none
theorem Jq (pl:List (Nat×Nat)):∀ (ps:List (Nat×Value)) (acc:Array Value) (k:List (Nat×Value)),partsOk pl acc.size ps=some k→Instr.fill (pl.toArray[·]?) acc ps=some (setParts acc.toList k).toArray
  | [],acc,k,h=>by
    simp only [partsOk,Option.some.injEq] at h
    subst h
    simp [Instr.fill,setParts]
  | (i, v) :: r,acc,k,h=>by
    simp only [partsOk] at h
    cases hp:pl[i]? with
    | none=>rw [hp] at h;simp at h
    | some q =>
      obtain ⟨off,size⟩:=q
      rw [hp] at h
      simp only at h
      cases hb:Nat.beq v.cells.toList.length size && Nat.ble (off + size) acc.size with
      | false=>rw [hb] at h;simp at h
      | true =>
        rw [hb] at h
        simp only at h
        cases hr:partsOk pl acc.size r with
        | none=>rw [hr] at h;simp at h
        | some k' =>
          rw [hr] at h
          simp only [Option.some.injEq] at h
          subst h
          rw [Bool.and_eq_true] at hb
          have h1:v.cells.size=size:=by simpa using Nat.eq_of_beq_eq_true hb.1
          have h2:off + size≤acc.size:=Nat.le_of_ble_eq_true hb.2
          simp only [Instr.fill,List.getElem?_toArray,hp]
          rw [if_neg (by simp [h1];omega)]
          have hf:=FM v.cells.toList 0 off acc
          rw [Nat.add_zero] at hf
          have he:Array.foldl (fun cs (x:Value×Nat)=>cs.setIfInBounds (off + x.2) x.1) acc v.cells.zipIdx=(setFrom acc.toList off v.cells.toList).toArray:=by
            rw [← Array.foldl_toList,Array.toList_zipIdx]
            apply Array.toList_inj.1
            rw [hf]
          have hsz:(setFrom acc.toList off v.cells.toList).toArray.size=acc.size:=by simp [DV]
          have ih:=Jq pl r (setFrom acc.toList off v.cells.toList).toArray k' (by rw [hsz];exact hr)
          simp only [setParts]
          rw [← ih]
          congr 1
          funext x
          simp
def zipIx:List Nat→List Value→List (Nat×Value)
  | i :: r,v :: s=>(i,v) :: zipIx r s
  | _,_=>[]
theorem Ka (f:Operand→Value):∀ (ps:List (Nat×Operand)),ps.map (fun p=>(p.1,f p.2))=zipIx (ps.map (·.1)) ((ps.map (·.2)).map f)
  | []=>rfl
  | p :: r=>by simp [zipIx,Ka f r]
theorem Fq {P:Program} {l:Env} {w:World} {dst:Option Tmp} {ty:TypeId} {pos:String} {aft:Array Edge} {t:TypeId} {z:Value} {size bytes:Nat} [TInfo P t z size bytes] {pl:List (Nat×Nat)} [hp:TPlaces P t pl] {ps:List (Nat×Operand)} {vs:List Value} {k:List (Nat×Value)}
    (hx:opvs l (ps.map (·.2))=some vs) (hk:partsOk pl z.cells.size (zipIx (ps.map (·.1)) vs)=some k):Ev P ⟨dst,.build t ps.toArray,ty,pos,aft,none⟩ l w (.agg (setParts z.cells.toList k).toArray):=fun _ a d ha=>by
  obtain ⟨fs,h1,h2⟩:=hp.eq
  have hps:(ps.map fun p=>(p.1,a.eval p.2))=zipIx (ps.map (·.1)) vs:=by rw [Ka,ha.evals hx]
  have hf:=Jq pl _ z.cells k hk
  simp only [execOp,Instr.build]
  simp [GY (P:=P) (t:=t),run_underlying h1,h2 (dr w d)]
  have hf':Instr.fill (fun x=>pl[x]?) z.cells (zipIx (ps.map (·.1)) vs)=some (setParts z.cells.toList k).toArray:=by
    rw [← hf];congr 1;funext x;simp
  rw [hps,hf']
  simp
end
section
open Go Go.RowKit
structure Kept (w w':World) (v:Value):Prop where
  os:w'.os=w.os
  tape:w'.tape=w.tape
  output:w'.output=w.output
  size:w.heap.size≤w'.heap.size
  block:∀ k,k < w.heap.size→v.ownBlock≠some k→w'.heap[k]?=w.heap[k]?
theorem Kept.below {w w':World} {v:Value} (h:Kept w w' v) {B:Nat} (hB:B≤w.heap.size) (hv:∀ g,v.ownBlock=some g→B≤g):Below B w w' :=
  ⟨h.os,h.tape,h.output,h.size,fun k hk=>h.block k (by omega) fun e=>by have:=hv k e;omega⟩
theorem Kept.blk {w w':World} {v:Value} (h:Kept w w' v) {g:Nat} {t:TypeId} {cs:List Value} (hb:Blk w g t cs) (hne:v.ownBlock≠some g):Blk w' g t cs:=hb.keep (h.block g hb.lt hne)
theorem Own.blk_ne {α:Type} [Rp α] {w:World} {base:Nat} {F:Nat→Prop} {e:TypeId} {v:Value} {xs:List α} (h:Own w base F e v xs) {g:Nat} {t:TypeId} {cs:List Value} (hb:Blk w g t cs) (hne:t≠e):v.ownBlock≠some g:=by
  obtain ⟨cells,h1,_⟩:=h
  rcases h1.2 with ⟨rfl,_⟩|⟨g',cap,cur,rfl,_,hh,_⟩
  · simp [Value.ownBlock]
  · intro he
    have:g'=g:=by simpa [Value.ownBlock] using he
    subst this
    unfold Blk at hb
    rw [hb] at hh
    injection hh with hh
    injection hh with _ ht
    exact hne ht
theorem Own.fits {α:Type} [Rp α] {w w':World} {base:Nat} {F:Nat→Prop} {e:TypeId} {v:Value} {xs:List α} (h:Own w base F e v xs) {B:Nat} (hB:B≤base) (hb:B≤w.heap.size) (k:Kept w w' v):Below B w w':=k.below hb fun g hg=>by have:=(h.lt g hg).1;omega
theorem Own.made {α:Type} [Rp α] {w w':World} {F:Nat→Prop} {e:TypeId} {cells:List Value} {xs:List α} {n:Nat} (h:New w w' e cells) (hc:Chunks w' F cells xs) (hn:n=xs.length) (hF:¬ F w.heap.size) (hm:n≤9223372036854775807):Own w' w.heap.size F e (.slice (some ⟨w.heap.size,0,none⟩) n n) xs:=by
  subst hn
  refine ⟨cells,⟨hc.length,.inr ⟨w.heap.size,xs.length,cells.toArray,rfl,Nat.le_refl _,h.blk,Nat.le_refl _,by simpa [maxLen] using hm,by simp [hc.length],?_⟩⟩,hc,fun g hg=>?_⟩
  · rw [← hc.length];simp
  · have:w.heap.size=g:=by simpa [Value.ownBlock] using hg
    subst this;exact hF
theorem Vb.made {α:Type} [Rp α] {w w':World} {F:Nat→Prop} {e:TypeId} {cells:List Value} {xs:List α} {n:Nat} (h:New w w' e cells) (hc:Chunks w' F cells xs) (hn:n=xs.length) (hF:F w.heap.size) (hm:n≤9223372036854775807):Vb w' F (.slice (some ⟨w.heap.size,0,none⟩) n n) xs:=by
  subst hn
  exact .of_slice ⟨_,_,cells,rfl,Nat.le_refl _,hm,hc,fun _=>⟨_,_,rfl,hF,h.blk.cellsAt⟩⟩
section
variable {P : Program} {n : Nat} {ops : Array Oper} {Q : Post} {rest : List Oper} {l : Env} {w : World} {d d1 d2 : Tmp} {ty ty2 : TypeId} {pos pos2 : String} {aft aft2 : Array Edge}
theorem GG {α:Type} [Rp α] {t e:TypeId} [TSlice P t e] {z:Value} {size bytes:Nat} [TInfo P e z size bytes] (hsize:size=Rp.size α) {x y:Operand} {v u:Value} {xs ys:List α} {base:Nat} {F:Nat→Prop}
    (hx:opv l x=some v) (hy:opv l y=some u) (hown:Own w base F e v xs) (hF:∀ k,F k→k < w.heap.size) (hbase:base≤w.heap.size) (hu:Vb w F u ys)
    (hz0:0 < size) (hb:(xs.length + ys.length) * bytes≤140737488355328) (h63:xs.length + ys.length≤9223372036854775807) (hd:Nat.blt d n=true)
    (h:∀ v' w',Own w' base F e v' (xs ++ ys)→Kept w w' v→owp P n ops Q rest ((d,v') :: l) w') :
    owp P n ops Q (⟨some d,.call { callee:=.builtin .append,args:=#[x,y],argTypes:=#[t,t] },ty,pos,aft,none⟩ :: rest) l w:=by
  subst hsize
  obtain ⟨A,c,cells,rfl,h1,h2,h3,h4⟩:=hu.slice
  exact EH hx hy hown hF hbase h3 (fun hp=>by obtain ⟨b,o,h5,_,h6⟩:=h4 hp;exact ⟨b,o,h5,h6⟩) hz0 hb h63 hd fun v' w' ho hg _ =>
    h v' w' ho ⟨hg.os,hg.tape,hg.output,hg.size,fun k hk hne=>hg.block k hk (fun he=>hne he.symm)⟩
theorem EU {α:Type} [Rp α] {t e:TypeId} [TSlice P t e] {z:Value} {size bytes:Nat} [TInfo P e z size bytes] (hsize:size=Rp.size α) {x y:Operand} {v u:Value} {xs:List α} {a:α} {base:Nat} {F:Nat→Prop}
    (hx:opv ((d1,.slice (some ⟨w.heap.size,0,none⟩) 1 1) :: l) x=some v) (hy:opv l y=some u) (hown:Own w base F e v xs) (hF:∀ k,F k→k < w.heap.size) (hbase:base≤w.heap.size) (hu:Vb w F u a)
    (hz0:0 < size) (hz1:size≤1000) (hb:(xs.length + 1) * bytes≤140737488355328) (h63:xs.length + 1≤9223372036854775807) (hd:Nat.blt d1 n=true∧Nat.blt d2 n=true)
    (h:∀ v' w',Own w' base F e v' (xs ++ [a])→Kept w w' v→owp P n ops Q rest ((d2,v') :: (d1,.slice (some ⟨w.heap.size,0,none⟩) 1 1) :: l) w') :
    owp P n ops Q (⟨some d1,.buildSlice t 1 #[(0,y)],ty,pos,aft,none⟩ :: ⟨some d2,.call { callee:=.builtin .append,args:=#[x,.tmp d1],argTypes:=#[t,t] },ty2,pos2,aft2,none⟩ :: rest) l w:=by
  subst hsize
  have hc:=hu.cells
  refine Ds (ps:=[(0,y)]) (vs:=[u]) rfl (by simp [opvs,hy]) rfl (fun v hv=>by simp at hv;subst hv;exact Rp.len hc) (by omega) hd.1 fun w1 hN=>?_
  have hcells:([u].flatMap fun v=>v.cells.toList)=u.cells.toList:=by simp
  rw [hcells] at hN
  have hagree:Agree F w w1:=hN.ext.agree hF
  refine EH (A:=some ⟨w.heap.size,0,none⟩) (c:=1) (ys:=[a]) (cells:=u.cells.toList) hx (by simp [opv,lk]) (hown.ext hN.ext hF) (fun k hk=>Nat.lt_of_lt_of_le (hF k hk) hN.ext.size) (Nat.le_trans hbase hN.ext.size) (.single (Rp.agree hc hagree)) (fun _=>⟨_,_,rfl,hN.blk.cellsAt⟩) hz0 hb h63 hd.2 fun v' w' ho hg _=>?_
  refine h v' w' ho ⟨hg.os.trans hN.ext.os,hg.tape.trans hN.ext.tape,hg.output.trans hN.ext.output,Nat.le_trans hN.ext.size hg.size,fun k hk hne=>?_⟩
  rw [hg.block k (Nat.lt_of_lt_of_le hk hN.ext.size) (fun he=>hne he.symm),hN.ext.block k hk]
theorem KU {α:Type} [Rp α] {t e:TypeId} [TSlice P t e] {z:Value} {size bytes:Nat} [TInfo P e z size bytes] (hsize:size=Rp.size α) {x y:Operand} {v u:Value} {xs:List α} {a:α} {base:Nat} {F:Nat→Prop}
    (hx:opv ((d1,.slice (some ⟨w.heap.size,0,none⟩) 1 1) :: l) x=some v) (hy:opv l y=some u) (hown:Own w base F e v xs) (hF:∀ k,F k→k < w.heap.size) (hbase:base≤w.heap.size) (hu:Vb w F u a)
    (hz0:0 < size) (hz1:size≤1000) (hb:(xs.length + 1) * bytes≤140737488355328) (h63:xs.length + 1≤9223372036854775807) (hd:Nat.blt d1 n=true∧Nat.blt d2 n=true)
    (h:∀ v' w',Own w' base F e v' (xs ++ [a])→Kept w w' v→(v'.ownBlock=v.ownBlock∨∃ g,v'.ownBlock=some g∧w.heap.size≤g)→owp P n ops Q rest ((d2,v') :: (d1,.slice (some ⟨w.heap.size,0,none⟩) 1 1) :: l) w') :
    owp P n ops Q (⟨some d1,.buildSlice t 1 #[(0,y)],ty,pos,aft,none⟩ :: ⟨some d2,.call { callee:=.builtin .append,args:=#[x,.tmp d1],argTypes:=#[t,t] },ty2,pos2,aft2,none⟩ :: rest) l w:=by
  subst hsize
  have hc:=hu.cells
  refine Ds (ps:=[(0,y)]) (vs:=[u]) rfl (by simp [opvs,hy]) rfl (fun v hv=>by simp at hv;subst hv;exact Rp.len hc) (by omega) hd.1 fun w1 hN=>?_
  have hcells:([u].flatMap fun v=>v.cells.toList)=u.cells.toList:=by simp
  rw [hcells] at hN
  have hagree:Agree F w w1:=hN.ext.agree hF
  refine EH (A:=some ⟨w.heap.size,0,none⟩) (c:=1) (ys:=[a]) (cells:=u.cells.toList) hx (by simp [opv,lk]) (hown.ext hN.ext hF) (fun k hk=>Nat.lt_of_lt_of_le (hF k hk) hN.ext.size) (Nat.le_trans hbase hN.ext.size) (.single (Rp.agree hc hagree)) (fun _=>⟨_,_,rfl,hN.blk.cellsAt⟩) hz0 hb h63 hd.2 fun v' w' ho hg hat=>?_
  refine h v' w' ho ⟨hg.os.trans hN.ext.os,hg.tape.trans hN.ext.tape,hg.output.trans hN.ext.output,Nat.le_trans hN.ext.size hg.size,fun k hk hne=>?_⟩ ?_
  · rw [hg.block k (Nat.lt_of_lt_of_le hk hN.ext.size) (fun he=>hne he.symm),hN.ext.block k hk]
  · rcases hat with hat|hat
    · exact .inl hat
    · exact .inr ⟨_,hat,hN.ext.size⟩
end
end
section
open Go Go.RowKit
theorem Chunks.set {α:Type} [Rp α] {w:World} {F:Nat→Prop}:∀ {xs:List α} {cells:List Value} {i:Nat} {x:α} {cs:List Value},Chunks w F cells xs→i < xs.length→Rp.R w F cs x→Chunks w F (setFrom cells (i * Rp.size α) cs) (xs.set i x)
  | [],_,_,_,_,_,hi,_=>by simp at hi
  | y :: xs,cells,0,x,cs,⟨c,rest,he,hr,hc⟩,_,hx=>by
    refine ⟨cs,rest,?_,hx,hc⟩
    have:=ES cs [] c rest (by rw [Rp.len hr,Rp.len hx])
    simp only [List.nil_append,List.length_nil] at this
    rw [he,Nat.zero_mul,this]
  | y :: xs,cells,i + 1,x,cs,⟨c,rest,he,hr,hc⟩,hi,hx=>by
    have ih:=Chunks.set (i:=i) hc (by simpa using hi) hx
    refine ⟨c,setFrom rest (i * Rp.size α) cs,?_,hr,ih⟩
    have key:∀ (vs r:List Value) (k:Nat),setFrom (c ++ r) (c.length + k) vs=c ++ setFrom r k vs:=by
      intro vs
      induction vs with
      | nil=>intro r k;rfl
      | cons v vs ihv =>
        intro r k
        simp only [setFrom]
        rw [List.set_append_right _ _ (by omega),show c.length + k - c.length=k from by omega,show c.length + k + 1=c.length + (k + 1) from by omega,ihv]
    rw [he,show (i + 1) * Rp.size α=c.length + i * Rp.size α from by rw [Rp.len hr,Nat.add_mul];omega,key]
theorem Ez:∀ (vs a b:List Value) (o:Nat),o + vs.length≤a.length→setFrom (a ++ b) o vs=setFrom a o vs ++ b
  | [],_,_,_,_=>rfl
  | v :: vs,a,b,o,h=>by
    simp only [setFrom,List.length_cons] at *
    rw [List.set_append_left _ _ (by omega),Ez vs _ b (o + 1) (by simp;omega)]
theorem Own.open {α:Type} [Rp α] {w:World} {base:Nat} {F:Nat→Prop} {e:TypeId} {v:Value} {xs:List α} (h:Own w base F e v xs) (hp:0 < xs.length) :
    ∃ g cap cells sp,v=.slice (some ⟨g,0,none⟩) xs.length cap∧base≤g∧¬ F g∧Blk w g e (cells ++ sp)∧Chunks w F cells xs∧cells.length=xs.length * Rp.size α∧xs.length≤cap∧cap≤9223372036854775807∧(cells ++ sp).length=cap * Rp.size α:=by
  obtain ⟨cells,h1,h2,h3⟩:=h
  rcases h1.2 with ⟨rfl,hn⟩|⟨g,cap,cur,rfl,hg,hh,hnc,hcm,hcs,hcur⟩
  · omega
  · have hsplit:cur.toList=cells ++ cur.toList.drop (xs.length * Rp.size α):=by rw [← hcur];exact (List.take_append_drop _ _).symm
    refine ⟨g,cap,cells,cur.toList.drop (xs.length * Rp.size α),rfl,hg,h3 g rfl,?_,h2,h1.1,hnc,by simpa [maxLen] using hcm,?_⟩
    · unfold Blk;rw [← hsplit];simpa using hh
    · rw [← hsplit];simpa using hcs
theorem Own.close {α:Type} [Rp α] {w:World} {base:Nat} {F:Nat→Prop} {e:TypeId} {xs:List α} {g cap:Nat} {cells sp:List Value} (hg:base≤g) (hF:¬ F g) (hb:Blk w g e (cells ++ sp)) (hc:Chunks w F cells xs) (hn:xs.length≤cap) (hm:cap≤9223372036854775807) (hl:(cells ++ sp).length=cap * Rp.size α) :
    Own w base F e (.slice (some ⟨g,0,none⟩) xs.length cap) xs:=by
  refine ⟨cells,⟨hc.length,.inr ⟨g,cap,(cells ++ sp).toArray,rfl,hg,hb,hn,by simpa [maxLen] using hm,by simpa using hl,?_⟩⟩,hc,fun g' hg'=>?_⟩
  · rw [← hc.length];simp
  · have:g=g':=by simpa [Value.ownBlock] using hg'
    subst this;exact hF
section
variable {P : Program} {n : Nat} {ops : Array Oper} {Q : Post} {rest : List Oper} {l : Env} {w : World} {ty : TypeId} {pos : String} {aft : Array Edge}
theorem IA {α:Type} [Rp α] {t e:TypeId} {z:Value} {size bytes:Nat} [TInfo P t z size bytes] (hsize:size=Rp.size α) {x y:Operand} {g i m c:Nat} {u:Value} {a:α} {xs:List α} {base:Nat} {F:Nat→Prop}
    (hx:opv l x=some (.pointer (some ⟨g,0 + i * size,none⟩))) (hy:opv l y=some u) (hown:Own w base F e (.slice (some ⟨g,0,none⟩) m c) xs) (hi:i < xs.length) (hu:Vb w F u a)
    (h:∀ w',Own w' base F e (.slice (some ⟨g,0,none⟩) m c) (xs.set i a)→Kept w w' (.slice (some ⟨g,0,none⟩) m c)→w'.heap.size=w.heap.size→owp P n ops Q rest l w'):owp P n ops Q (⟨none,.store t x y,ty,pos,aft,none⟩ :: rest) l w:=by
  subst hsize
  obtain ⟨g',cap,cells,sp,hv,hg,hF,hb,hc,hl,hnc,hcm,hlen⟩:=hown.open (by omega)
  injection hv with hv1 hv2 hv3
  injection hv1 with hv1
  injection hv1 with hv1
  subst hv1;subst hv2;subst hv3
  have hcu:=hu.cells
  have hle:i * Rp.size α + Rp.size α≤cells.length:=by
    rw [hl]
    have:(i + 1) * Rp.size α≤xs.length * Rp.size α:=Nat.mul_le_mul_right _ hi
    rw [Nat.add_mul] at this;omega
  refine Cc hx hy hb (Rp.len hcu) (by rw [List.length_append];omega) (Rp.one hcu) fun w' hU=>?_
  rw [Nat.zero_add,Ez _ _ _ _ (by rw [Rp.len hcu];omega)] at hU
  have hag:Agree F w w':=hU.agree hF
  refine h w' ?_ ⟨hU.os,hU.tape,hU.output,Nat.le_of_eq hU.size.symm,fun k _ hne=>hU.other k fun he=>hne (by simp [Value.ownBlock,he])⟩ hU.size
  have:=Own.close (w:=w') (cap:=c) hg hF hU.blk ((hc.set hi hcu).agree hag) (by simpa using hnc) hcm (by rw [List.length_append,DV,← List.length_append];exact hlen)
  rwa [List.length_set] at this
theorem Jr {t e:TypeId} [h:TSlice P t e] (A:Option Addr) (m c:Nat) (w:World):(Op.equal t (.slice A m c) (.slice none 0 0)).run P w=.ok A.isNone w:=by
  have hd:∀ d:Nat,(Op.equalIn (d + 1) t (.slice A m c) (.slice none 0 0)).run P w=.ok A.isNone w:=fun d=>by
    cases A<;>simp [Op.equalIn,run_underlying h.eq]
  exact hd 9999
theorem NS {dst:Option Tmp} {t e u:TypeId} [TSlice P t e] {x:Operand} {A:Option Addr} {m c:Nat} (hx:opv l x=some (.slice A m c)):Ev P ⟨dst,.binOp .eql t x (.const (.slice none 0 0)) u,ty,pos,aft,none⟩ l w (.bool A.isNone):=fun _ a d ha=>by
  have hy:=ha.eval (x:=.const (.slice none 0 0)) (v:=.slice none 0 0) rfl
  simp [execOp,ha.eval hx,hy,eqGuard,binOp,Jr (P:=P) (t:=t)]
end
end
section
open Go Go.RowKit
section
variable {P : Program} {l : Env} {w : World} {dst : Option Tmp} {ty : TypeId} {pos : String} {aft : Array Edge}
theorem Mz {t e:TypeId} [h:TSlice P t e] {z:Value} {size bytes:Nat} [TInfo P e z size bytes] {x y:Operand} {k:IntKind} {A:Option Addr} {m c hi:Nat} {q:Int} (hx:opv l x=some (.slice A m c)) (hy:opv l y=some (.int k q)) (hq:q=(hi:Int)) (hhi:hi≤c) :
    Ev P ⟨dst,.slice t x none (some y) none,ty,pos,aft,none⟩ l w (.slice (if c=0 then A else A.map (·.add (0 * size))) hi c):=fun _ _ d ha=>by
  subst hq
  simp [execOp,ha.eval hx,ha.eval hy,Instr.sliceAt,Instr.slice,run_underlying h.eq,Instr.sliceBounds,Instr.sliceBound,asIntOf,hhi,DG (P:=P) (t:=e)]
end
end
section
open Go Go.RowKit
section
variable {w : World} {b o : Nat} {v0 v1 v2 v3 v4 v5 v6 v7 v8 v9 : Value} {r : List Value}
theorem cat0 (h:cellsAt w b o (v0 :: r)):w.cell? ⟨b,o,none⟩=some v0:=h.1
theorem cat1 (h:cellsAt w b o (v0 :: v1 :: r)):w.cell? ⟨b,o + 1,none⟩=some v1:=h.2.1
theorem cat2 (h:cellsAt w b o (v0 :: v1 :: v2 :: r)):w.cell? ⟨b,o + 2,none⟩=some v2:=h.2.2.1
theorem cat3 (h:cellsAt w b o (v0 :: v1 :: v2 :: v3 :: r)):w.cell? ⟨b,o + 3,none⟩=some v3:=h.2.2.2.1
theorem cat4 (h:cellsAt w b o (v0 :: v1 :: v2 :: v3 :: v4 :: r)):w.cell? ⟨b,o + 4,none⟩=some v4:=h.2.2.2.2.1
theorem cat5 (h:cellsAt w b o (v0 :: v1 :: v2 :: v3 :: v4 :: v5 :: r)):w.cell? ⟨b,o + 5,none⟩=some v5:=h.2.2.2.2.2.1
theorem cat6 (h:cellsAt w b o (v0 :: v1 :: v2 :: v3 :: v4 :: v5 :: v6 :: r)):w.cell? ⟨b,o + 6,none⟩=some v6:=h.2.2.2.2.2.2.1
theorem cat7 (h:cellsAt w b o (v0 :: v1 :: v2 :: v3 :: v4 :: v5 :: v6 :: v7 :: r)):w.cell? ⟨b,o + 7,none⟩=some v7:=h.2.2.2.2.2.2.2.1
theorem cat8 (h:cellsAt w b o (v0 :: v1 :: v2 :: v3 :: v4 :: v5 :: v6 :: v7 :: v8 :: r)):w.cell? ⟨b,o + 8,none⟩=some v8:=h.2.2.2.2.2.2.2.2.1
theorem cat9 (h:cellsAt w b o (v0 :: v1 :: v2 :: v3 :: v4 :: v5 :: v6 :: v7 :: v8 :: v9 :: r)):w.cell? ⟨b,o + 9,none⟩=some v9:=h.2.2.2.2.2.2.2.2.2.1
end
section
variable {P : Program} {n : Nat} {ops : Array Oper} {Q : Post} {rest : List Oper} {l : Env} {w : World} {d : Tmp} {ty : TypeId} {pos : String} {aft : Array Edge}
theorem Ar {x:Operand} {v:Value} (hx:opv l x=some v) (hd:Nat.blt d n=true) (h:owp P n ops Q rest ((d,v) :: l) w)  : owp P n ops Q (⟨some d,.move x,ty,pos,aft,none⟩ :: rest) l w:=Bz (If hx) hd h
theorem Aw {x:Operand} {v:Value} (hx:opv l x=some v) (hd:Nat.blt d n=true) (h:owp P n ops Q rest ((d,v) :: l) w)  : owp P n ops Q (⟨some d,.assign x,ty,pos,aft,none⟩ :: rest) l w:=Bz (JZ hx) hd h
theorem Bq {c x y:Operand} {v:Value} (hc:opv l c=some (.bool true)) (hx:opv l x=some v) (hd:Nat.blt d n=true) (h:owp P n ops Q rest ((d,v) :: l) w)  : owp P n ops Q (⟨some d,.pick c x y,ty,pos,aft,none⟩ :: rest) l w:=Bz (IG hc hx) hd h
theorem Br {c x y:Operand} {v:Value} (hc:opv l c=some (.bool false)) (hx:opv l y=some v) (hd:Nat.blt d n=true) (h:owp P n ops Q rest ((d,v) :: l) w)  : owp P n ops Q (⟨some d,.pick c x y,ty,pos,aft,none⟩ :: rest) l w:=Bz (IH hc hx) hd h
theorem AJ {t:TypeId} {f off:Nat} [TField P t f off] {x:Operand} {b o:Nat} (hx:opv l x=some (.pointer (some ⟨b,o,none⟩))) (hd:Nat.blt d n=true) (h:owp P n ops Q rest ((d,.pointer (some ⟨b,o + off,none⟩)) :: l) w)  : owp P n ops Q (⟨some d,.fieldAddr t x f,ty,pos,aft,none⟩ :: rest) l w:=Bz (Du hx) hd h
theorem Do {x:Operand} {ad:Addr} (hx:opv l x=some (.pointer (some ad))) (hd:Nat.blt d n=true) (h:owp P n ops Q rest ((d,.pointer (some ad)) :: l) w)  : owp P n ops Q (⟨some d,.nilCheck x,ty,pos,aft,none⟩ :: rest) l w:=Bz (GZ hx) hd h
theorem CE {x:Operand} {i:Nat} {vs:Array Value} {v:Value} (hx:opv l x=some (.tuple vs)) (hv:vs[i]?=some v) (hd:Nat.blt d n=true) (h:owp P n ops Q rest ((d,v) :: l) w)  : owp P n ops Q (⟨some d,.extract x i,ty,pos,aft,none⟩ :: rest) l w:=Bz (Jm hx hv) hd h
theorem Cq {t:TypeId} {x:Operand} (hx:opv l x=some (.bool true)) (hd:Nat.blt d n=true) (h:owp P n ops Q rest ((d,.bool false) :: l) w)  : owp P n ops Q (⟨some d,.unOp .not t x,ty,pos,aft,none⟩ :: rest) l w:=Bz (JL hx) hd h
theorem Cr {t:TypeId} {x:Operand} (hx:opv l x=some (.bool false)) (hd:Nat.blt d n=true) (h:owp P n ops Q rest ((d,.bool true) :: l) w)  : owp P n ops Q (⟨some d,.unOp .not t x,ty,pos,aft,none⟩ :: rest) l w:=Bz (JM hx) hd h
theorem CU {t:TypeId} {x:Operand} {b:Bool} (hx:opv l x=some (.bool b)) (hd:Nat.blt d n=true) (h:owp P n ops Q rest ((d,.bool (!b)) :: l) w)  : owp P n ops Q (⟨some d,.unOp .not t x,ty,pos,aft,none⟩ :: rest) l w:=Bz (Jl hx) hd h
theorem AY {t e:TypeId} [TSlice P t e] {x:Operand} {A:Option Addr} {m c:Nat} (hx:opv l x=some (.slice A m c)) (hd:Nat.blt d n=true) (h:owp P n ops Q rest ((d,.int .i64 (m:Int)) :: l) w)  : owp P n ops Q (⟨some d,.call { callee:=.builtin .len,args:=#[x],argTypes:=#[t] },ty,pos,aft,none⟩ :: rest) l w:=Bz (KP hx) hd h
theorem JO {t:TypeId} [TStr P t] {x:Operand} {s:ByteArray} (hx:opv l x=some (.string s)) (hd:Nat.blt d n=true) (h:owp P n ops Q rest ((d,.int .i64 (s.size:Int)) :: l) w)  : owp P n ops Q (⟨some d,.call { callee:=.builtin .len,args:=#[x],argTypes:=#[t] },ty,pos,aft,none⟩ :: rest) l w:=Bz (MZ hx) hd h
theorem QN {t1 t2:TypeId} {x y:Operand} {k:IntKind} {a b:Int} (hx:opv l x=some (.int k a)) (hy:opv l y=some (.int k b)) (hd:Nat.blt d n=true) (h:owp P n ops Q rest ((d,.int k (min a b)) :: l) w)  : owp P n ops Q (⟨some d,.call { callee:=.builtin .min,args:=#[x,y],argTypes:=#[t1,t2] },ty,pos,aft,none⟩ :: rest) l w:=Bz (Qb hx hy) hd h
theorem QO {t1 t2:TypeId} {x y:Operand} {k:IntKind} {a b:Int} (hx:opv l x=some (.int k a)) (hy:opv l y=some (.int k b)) (hd:Nat.blt d n=true) (h:owp P n ops Q rest ((d,.int k (max a b)) :: l) w)  : owp P n ops Q (⟨some d,.call { callee:=.builtin .max,args:=#[x,y],argTypes:=#[t1,t2] },ty,pos,aft,none⟩ :: rest) l w:=Bz (Qc hx hy) hd h
theorem IL {t:TypeId} {k:IntKind} [TInt P t k] {x:Operand} {v:Value} (hx:opv l x=some v) (hd:Nat.blt d n=true) (h:owp P n ops Q rest ((d,.iface t v) :: l) w)  : owp P n ops Q (⟨some d,.makeInterface t x,ty,pos,aft,none⟩ :: rest) l w:=Bz (Jn hx) hd h
theorem Dd {t:TypeId} {z:Value} {size bytes:Nat} [TInfo P t z size bytes] {pl:List (Nat×Nat)} [TPlaces P t pl] {ps:List (Nat×Operand)} {vs:List Value} {k:List (Nat×Value)} (hx:opvs l (ps.map (·.2))=some vs) (hk:partsOk pl z.cells.size (zipIx (ps.map (·.1)) vs)=some k) (hd:Nat.blt d n=true) (h:owp P n ops Q rest ((d,.agg (setParts z.cells.toList k).toArray) :: l) w)  : owp P n ops Q (⟨some d,.build t ps.toArray,ty,pos,aft,none⟩ :: rest) l w:=Bz (Fq hx hk) hd h
theorem KV {t e u:TypeId} [TPtr P t e] {x:Operand} {p:Option Addr} (hx:opv l x=some (.pointer p)) (hd:Nat.blt d n=true) (h:owp P n ops Q rest ((d,.bool p.isNone) :: l) w)  : owp P n ops Q (⟨some d,.binOp .eql t x (.const (.pointer none)) u,ty,pos,aft,none⟩ :: rest) l w:=Bz (Na hx) hd h
theorem JP {t e u:TypeId} [TSlice P t e] {x:Operand} {A:Option Addr} {m c:Nat} (hx:opv l x=some (.slice A m c)) (hd:Nat.blt d n=true) (h:owp P n ops Q rest ((d,.bool A.isNone) :: l) w)  : owp P n ops Q (⟨some d,.binOp .eql t x (.const (.slice none 0 0)) u,ty,pos,aft,none⟩ :: rest) l w:=Bz (NS hx) hd h
theorem Qe {t u:TypeId} [TIface P t] {x:Operand} (hx:opv l x=some .nilIface) (hd:Nat.blt d n=true) (h:owp P n ops Q rest ((d,.bool false) :: l) w)  : owp P n ops Q (⟨some d,.binOp .neq t x (.const .nilIface) u,ty,pos,aft,none⟩ :: rest) l w:=Bz (Jo hx) hd h
theorem Qf {t u:TypeId} [TIface P t] {x:Operand} {s:TypeId} {v:Value} (hx:opv l x=some (.iface s v)) (hd:Nat.blt d n=true) (h:owp P n ops Q rest ((d,.bool true) :: l) w)  : owp P n ops Q (⟨some d,.binOp .neq t x (.const .nilIface) u,ty,pos,aft,none⟩ :: rest) l w:=Bz (Iz hx) hd h
theorem FN {t u:TypeId} {x y:Operand} {a b:Int} (hx:opv l x=some (.int .i64 a)) (hy:opv l y=some (.int .i64 b)) (hd:Nat.blt d n=true) (h:owp P n ops Q rest ((d,.int .i64 (a + b)) :: l) w) (hr:-9223372036854775808≤a + b∧a + b≤9223372036854775807:=by omega):owp P n ops Q (⟨some d,.binOp .add t x y u,ty,pos,aft,none⟩ :: rest) l w:=Bz (KN hx hy hr) hd h
theorem Rj {t u:TypeId} {x y:Operand} {a b:Int} (hx:opv l x=some (.int .i64 a)) (hy:opv l y=some (.int .i64 b)) (hd:Nat.blt d n=true) (h:owp P n ops Q rest ((d,.int .i64 (a * b)) :: l) w) (hr:-9223372036854775808≤a * b∧a * b≤9223372036854775807:=by omega):owp P n ops Q (⟨some d,.binOp .mul t x y u,ty,pos,aft,none⟩ :: rest) l w:=Bz (MY hx hy hr) hd h
theorem FO {t u:TypeId} {x:Operand} {a:Nat} (hx:opv l x=some (.int .i64 (a:Int))) (hd:Nat.blt d n=true) (h:owp P n ops Q rest ((d,.int .i64 ((a + 1:Nat):Int)) :: l) w) (hr:a < 9223372036854775807:=by omega):owp P n ops Q (⟨some d,.binOp .add t x (.const (.int .i64 1)) u,ty,pos,aft,none⟩ :: rest) l w:=Bz (KO hx hr) hd h
theorem CQ {t e:TypeId} [TSlice P t e] {z:Value} {size bytes:Nat} [TInfo P e z size bytes] {x i:Operand} {k:IntKind} {b o m c j:Nat} {q:Int} (hx:opv l x=some (.slice (some ⟨b,o,none⟩) m c)) (hq:opv l i=some (.int k q)) (hd:Nat.blt d n=true) (h:owp P n ops Q rest ((d,.pointer (some ⟨b,o + j * size,none⟩)) :: l) w) (hj:q=(j:Int):=by first|rfl|assumption) (hlt:j < m:=by omega):owp P n ops Q (⟨some d,.indexAddr t x i,ty,pos,aft,none⟩ :: rest) l w:=Bz (Fj hx hq hj hlt) hd h
theorem MA {t:TypeId} [TStr P t] {x i:Operand} {k:IntKind} {s:ByteArray} {j:Nat} (hx:opv l x=some (.string s)) (hq:opv l i=some (.int k (j:Int))) (hd:Nat.blt d n=true) (hlt:j < s.size:=by omega) (h:owp P n ops Q rest ((d,.int .u8 ((s[j]'hlt).toNat:Int)) :: l) w):owp P n ops Q (⟨some d,.index t x i,ty,pos,aft,none⟩ :: rest) l w:=Bz (NR hx hq hlt) hd h
theorem AG {t:TypeId} [TOne P t] {x:Operand} {ad:Addr} {v:Value} (hx:opv l x=some (.pointer (some ad))) (hd:Nat.blt d n=true) (h:owp P n ops Q rest ((d,v) :: l) w) (hc:w.cell? ad=some v:=by first|assumption|exact Blk.cell (by assumption) rfl|exact cat0 (by assumption)|exact cat1 (by assumption)|exact cat2 (by assumption)|exact cat3 (by assumption)|exact cat4 (by assumption)|exact cat5 (by assumption)|exact cat6 (by assumption)|exact cat7 (by assumption)|exact cat8 (by assumption)|exact cat9 (by assumption)):owp P n ops Q (⟨some d,.load t x,ty,pos,aft,none⟩ :: rest) l w:=Bz (DN hx hc) hd h
theorem Bi {t:TypeId} [TAgg P t] {z:Value} {size bytes:Nat} [TInfo P t z size bytes] {x:Operand} {b o:Nat} {cs:List Value} (hx:opv l x=some (.pointer (some ⟨b,o,none⟩))) (hd:Nat.blt d n=true) (h:owp P n ops Q rest ((d,.agg cs.toArray) :: l) w) (hc:cellsAt w b o cs:=by first|assumption|exact Blk.cellsAt (by assumption)) (hl:cs.length=size:=by rfl):owp P n ops Q (⟨some d,.load t x,ty,pos,aft,none⟩ :: rest) l w:=Bz (FR hx hl hc) hd h
theorem CV {t u:TypeId} {x y:Operand} {k:IntKind} {a b:Int} (hx:opv l x=some (.int k a)) (hy:opv l y=some (.int k b)) (hd:Nat.blt d n=true) (h:owp P n ops Q rest ((d,.bool true) :: l) w) (hp:a < b:=by omega):owp P n ops Q (⟨some d,.binOp .lss t x y u,ty,pos,aft,none⟩ :: rest) l w:=Gi (Cy hx hy) hd hp h
theorem CW {t u:TypeId} {x y:Operand} {k:IntKind} {a b:Int} (hx:opv l x=some (.int k a)) (hy:opv l y=some (.int k b)) (hd:Nat.blt d n=true) (h:owp P n ops Q rest ((d,.bool false) :: l) w) (hp:¬ (a < b):=by omega):owp P n ops Q (⟨some d,.binOp .lss t x y u,ty,pos,aft,none⟩ :: rest) l w:=Gj (Cy hx hy) hd hp h
theorem DI {t u:TypeId} {x y:Operand} {k:IntKind} {a b:Int} (hx:opv l x=some (.int k a)) (hy:opv l y=some (.int k b)) (hd:Nat.blt d n=true) (ht:a < b→owp P n ops Q rest ((d,.bool true) :: l) w) (hf:¬ (a < b)→owp P n ops Q rest ((d,.bool false) :: l) w):owp P n ops Q (⟨some d,.binOp .lss t x y u,ty,pos,aft,none⟩ :: rest) l w:=Ec (Cy hx hy) hd ht hf
theorem KH {t u:TypeId} {x y:Operand} {k:IntKind} {a b:Int} (hx:opv l x=some (.int k a)) (hy:opv l y=some (.int k b)) (hd:Nat.blt d n=true) (h:owp P n ops Q rest ((d,.bool true) :: l) w) (hp:a≤b:=by omega):owp P n ops Q (⟨some d,.binOp .leq t x y u,ty,pos,aft,none⟩ :: rest) l w:=Gi (GR hx hy) hd hp h
theorem KI {t u:TypeId} {x y:Operand} {k:IntKind} {a b:Int} (hx:opv l x=some (.int k a)) (hy:opv l y=some (.int k b)) (hd:Nat.blt d n=true) (h:owp P n ops Q rest ((d,.bool false) :: l) w) (hp:¬ (a≤b):=by omega):owp P n ops Q (⟨some d,.binOp .leq t x y u,ty,pos,aft,none⟩ :: rest) l w:=Gj (GR hx hy) hd hp h
theorem MB {t u:TypeId} {x y:Operand} {k:IntKind} {a b:Int} (hx:opv l x=some (.int k a)) (hy:opv l y=some (.int k b)) (hd:Nat.blt d n=true) (ht:a≤b→owp P n ops Q rest ((d,.bool true) :: l) w) (hf:¬ (a≤b)→owp P n ops Q rest ((d,.bool false) :: l) w):owp P n ops Q (⟨some d,.binOp .leq t x y u,ty,pos,aft,none⟩ :: rest) l w:=Ec (GR hx hy) hd ht hf
theorem Dp {t u:TypeId} {x y:Operand} {k:IntKind} {a b:Int} (hx:opv l x=some (.int k a)) (hy:opv l y=some (.int k b)) (hd:Nat.blt d n=true) (h:owp P n ops Q rest ((d,.bool true) :: l) w) (hp:b < a:=by omega):owp P n ops Q (⟨some d,.binOp .gtr t x y u,ty,pos,aft,none⟩ :: rest) l w:=Gi (En hx hy) hd hp h
theorem Dq {t u:TypeId} {x y:Operand} {k:IntKind} {a b:Int} (hx:opv l x=some (.int k a)) (hy:opv l y=some (.int k b)) (hd:Nat.blt d n=true) (h:owp P n ops Q rest ((d,.bool false) :: l) w) (hp:¬ (b < a):=by omega):owp P n ops Q (⟨some d,.binOp .gtr t x y u,ty,pos,aft,none⟩ :: rest) l w:=Gj (En hx hy) hd hp h
theorem CX {t u:TypeId} {x y:Operand} {k:IntKind} {a b:Int} (hx:opv l x=some (.int k a)) (hy:opv l y=some (.int k b)) (hd:Nat.blt d n=true) (ht:b < a→owp P n ops Q rest ((d,.bool true) :: l) w) (hf:¬ (b < a)→owp P n ops Q rest ((d,.bool false) :: l) w):owp P n ops Q (⟨some d,.binOp .gtr t x y u,ty,pos,aft,none⟩ :: rest) l w:=Ec (En hx hy) hd ht hf
theorem Js {t u:TypeId} {x y:Operand} {k:IntKind} {a b:Int} (hx:opv l x=some (.int k a)) (hy:opv l y=some (.int k b)) (hd:Nat.blt d n=true) (h:owp P n ops Q rest ((d,.bool true) :: l) w) (hp:b≤a:=by omega):owp P n ops Q (⟨some d,.binOp .geq t x y u,ty,pos,aft,none⟩ :: rest) l w:=Gi (Bv hx hy) hd hp h
theorem Jt {t u:TypeId} {x y:Operand} {k:IntKind} {a b:Int} (hx:opv l x=some (.int k a)) (hy:opv l y=some (.int k b)) (hd:Nat.blt d n=true) (h:owp P n ops Q rest ((d,.bool false) :: l) w) (hp:¬ (b≤a):=by omega):owp P n ops Q (⟨some d,.binOp .geq t x y u,ty,pos,aft,none⟩ :: rest) l w:=Gj (Bv hx hy) hd hp h
theorem FU {t u:TypeId} {x y:Operand} {k:IntKind} {a b:Int} (hx:opv l x=some (.int k a)) (hy:opv l y=some (.int k b)) (hd:Nat.blt d n=true) (ht:b≤a→owp P n ops Q rest ((d,.bool true) :: l) w) (hf:¬ (b≤a)→owp P n ops Q rest ((d,.bool false) :: l) w):owp P n ops Q (⟨some d,.binOp .geq t x y u,ty,pos,aft,none⟩ :: rest) l w:=Ec (Bv hx hy) hd ht hf
theorem MC {t u:TypeId} {x y:Operand} {k:IntKind} {a b:Int} (hx:opv l x=some (.int k a)) (hy:opv l y=some (.int k b)) (hd:Nat.blt d n=true) (h:owp P n ops Q rest ((d,.bool true) :: l) w) (hp:a=b:=by omega):owp P n ops Q (⟨some d,.binOp .eql t x y u,ty,pos,aft,none⟩ :: rest) l w:=Gi (GS hx hy) hd hp h
theorem MD {t u:TypeId} {x y:Operand} {k:IntKind} {a b:Int} (hx:opv l x=some (.int k a)) (hy:opv l y=some (.int k b)) (hd:Nat.blt d n=true) (h:owp P n ops Q rest ((d,.bool false) :: l) w) (hp:¬ (a=b):=by omega):owp P n ops Q (⟨some d,.binOp .eql t x y u,ty,pos,aft,none⟩ :: rest) l w:=Gj (GS hx hy) hd hp h
theorem EJ {t u:TypeId} {x y:Operand} {k:IntKind} {a b:Int} (hx:opv l x=some (.int k a)) (hy:opv l y=some (.int k b)) (hd:Nat.blt d n=true) (ht:a=b→owp P n ops Q rest ((d,.bool true) :: l) w) (hf:¬ (a=b)→owp P n ops Q rest ((d,.bool false) :: l) w):owp P n ops Q (⟨some d,.binOp .eql t x y u,ty,pos,aft,none⟩ :: rest) l w:=Ec (GS hx hy) hd ht hf
theorem Ii {t u:TypeId} {x y:Operand} {k:IntKind} {a b:Int} (hx:opv l x=some (.int k a)) (hy:opv l y=some (.int k b)) (hd:Nat.blt d n=true) (h:owp P n ops Q rest ((d,.bool true) :: l) w) (hp:a≠b:=by omega):owp P n ops Q (⟨some d,.binOp .neq t x y u,ty,pos,aft,none⟩ :: rest) l w:=Gi (EB hx hy) hd hp h
theorem Ij {t u:TypeId} {x y:Operand} {k:IntKind} {a b:Int} (hx:opv l x=some (.int k a)) (hy:opv l y=some (.int k b)) (hd:Nat.blt d n=true) (h:owp P n ops Q rest ((d,.bool false) :: l) w) (hp:¬ (a≠b):=by omega):owp P n ops Q (⟨some d,.binOp .neq t x y u,ty,pos,aft,none⟩ :: rest) l w:=Gj (EB hx hy) hd hp h
theorem EK {t u:TypeId} {x y:Operand} {k:IntKind} {a b:Int} (hx:opv l x=some (.int k a)) (hy:opv l y=some (.int k b)) (hd:Nat.blt d n=true) (ht:a≠b→owp P n ops Q rest ((d,.bool true) :: l) w) (hf:¬ (a≠b)→owp P n ops Q rest ((d,.bool false) :: l) w):owp P n ops Q (⟨some d,.binOp .neq t x y u,ty,pos,aft,none⟩ :: rest) l w:=Ec (EB hx hy) hd ht hf
variable {S : World → Prop} {r : List (Nat × Bool)} {i : Nat}
theorem AN {x:Operand} {v:Value} (hi:ops[i]?=some ⟨some d,.move x,ty,pos,aft,none⟩) (hx:opv l x=some v) (hd:Nat.blt d n=true) (h:hwp P n ops Q S r ((d,v) :: l) w)  : hwp P n ops Q S ((i,true) :: r) l w:=AA hi (BC (fun _ _=>If hx) hd h)
theorem Fa {x:Operand} {v:Value} (hi:ops[i]?=some ⟨some d,.assign x,ty,pos,aft,none⟩) (hx:opv l x=some v) (hd:Nat.blt d n=true) (h:hwp P n ops Q S r ((d,v) :: l) w)  : hwp P n ops Q S ((i,true) :: r) l w:=AA hi (BC (fun _ _=>JZ hx) hd h)
theorem Cm {c x y:Operand} {v:Value} (hi:ops[i]?=some ⟨some d,.pick c x y,ty,pos,aft,none⟩) (hc:opv l c=some (.bool true)) (hx:opv l x=some v) (hd:Nat.blt d n=true) (h:hwp P n ops Q S r ((d,v) :: l) w)  : hwp P n ops Q S ((i,true) :: r) l w:=AA hi (BC (fun _ _=>IG hc hx) hd h)
theorem BX {c x y:Operand} {v:Value} (hi:ops[i]?=some ⟨some d,.pick c x y,ty,pos,aft,none⟩) (hc:opv l c=some (.bool false)) (hx:opv l y=some v) (hd:Nat.blt d n=true) (h:hwp P n ops Q S r ((d,v) :: l) w)  : hwp P n ops Q S ((i,true) :: r) l w:=AA hi (BC (fun _ _=>IH hc hx) hd h)
theorem Be {t:TypeId} {f off:Nat} [TField P t f off] {x:Operand} {b o:Nat} (hi:ops[i]?=some ⟨some d,.fieldAddr t x f,ty,pos,aft,none⟩) (hx:opv l x=some (.pointer (some ⟨b,o,none⟩))) (hd:Nat.blt d n=true) (h:hwp P n ops Q S r ((d,.pointer (some ⟨b,o + off,none⟩)) :: l) w)  : hwp P n ops Q S ((i,true) :: r) l w:=AA hi (BC (fun _ _=>Du hx) hd h)
theorem Dr {x:Operand} {ad:Addr} (hi:ops[i]?=some ⟨some d,.nilCheck x,ty,pos,aft,none⟩) (hx:opv l x=some (.pointer (some ad))) (hd:Nat.blt d n=true) (h:hwp P n ops Q S r ((d,.pointer (some ad)) :: l) w)  : hwp P n ops Q S ((i,true) :: r) l w:=AA hi (BC (fun _ _=>GZ hx) hd h)
theorem Hb {x:Operand} {i':Nat} {vs:Array Value} {v:Value} (hi:ops[i]?=some ⟨some d,.extract x i',ty,pos,aft,none⟩) (hx:opv l x=some (.tuple vs)) (hv:vs[i']?=some v) (hd:Nat.blt d n=true) (h:hwp P n ops Q S r ((d,v) :: l) w)  : hwp P n ops Q S ((i,true) :: r) l w:=AA hi (BC (fun _ _=>Jm hx hv) hd h)
theorem KW {t:TypeId} {x:Operand} (hi:ops[i]?=some ⟨some d,.unOp .not t x,ty,pos,aft,none⟩) (hx:opv l x=some (.bool true)) (hd:Nat.blt d n=true) (h:hwp P n ops Q S r ((d,.bool false) :: l) w)  : hwp P n ops Q S ((i,true) :: r) l w:=AA hi (BC (fun _ _=>JL hx) hd h)
theorem ME {t:TypeId} {x:Operand} (hi:ops[i]?=some ⟨some d,.unOp .not t x,ty,pos,aft,none⟩) (hx:opv l x=some (.bool false)) (hd:Nat.blt d n=true) (h:hwp P n ops Q S r ((d,.bool true) :: l) w)  : hwp P n ops Q S ((i,true) :: r) l w:=AA hi (BC (fun _ _=>JM hx) hd h)
theorem IM {t e:TypeId} [TSlice P t e] {x:Operand} {A:Option Addr} {m c:Nat} (hi:ops[i]?=some ⟨some d,.call { callee:=.builtin .len,args:=#[x],argTypes:=#[t] },ty,pos,aft,none⟩) (hx:opv l x=some (.slice A m c)) (hd:Nat.blt d n=true) (h:hwp P n ops Q S r ((d,.int .i64 (m:Int)) :: l) w)  : hwp P n ops Q S ((i,true) :: r) l w:=AA hi (BC (fun _ _=>KP hx) hd h)
theorem Dj {t:TypeId} {z:Value} {size bytes:Nat} [TInfo P t z size bytes] {pl:List (Nat×Nat)} [TPlaces P t pl] {ps:List (Nat×Operand)} {vs:List Value} {k:List (Nat×Value)} (hi:ops[i]?=some ⟨some d,.build t ps.toArray,ty,pos,aft,none⟩) (hx:opvs l (ps.map (·.2))=some vs) (hk:partsOk pl z.cells.size (zipIx (ps.map (·.1)) vs)=some k) (hd:Nat.blt d n=true) (h:hwp P n ops Q S r ((d,.agg (setParts z.cells.toList k).toArray) :: l) w)  : hwp P n ops Q S ((i,true) :: r) l w:=AA hi (BC (fun _ _=>Fq hx hk) hd h)
theorem Qg {t u:TypeId} {x y:Operand} {a b:Int} (hi:ops[i]?=some ⟨some d,.binOp .add t x y u,ty,pos,aft,none⟩) (hx:opv l x=some (.int .i64 a)) (hy:opv l y=some (.int .i64 b)) (hd:Nat.blt d n=true) (h:hwp P n ops Q S r ((d,.int .i64 (a + b)) :: l) w) (hr:-9223372036854775808≤a + b∧a + b≤9223372036854775807:=by omega):hwp P n ops Q S ((i,true) :: r) l w:=AA hi (BC (fun _ _=>KN hx hy hr) hd h)
theorem Qh {t u:TypeId} {x:Operand} {a:Nat} (hi:ops[i]?=some ⟨some d,.binOp .add t x (.const (.int .i64 1)) u,ty,pos,aft,none⟩) (hx:opv l x=some (.int .i64 (a:Int))) (hd:Nat.blt d n=true) (h:hwp P n ops Q S r ((d,.int .i64 ((a + 1:Nat):Int)) :: l) w) (hr:a < 9223372036854775807:=by omega):hwp P n ops Q S ((i,true) :: r) l w:=AA hi (BC (fun _ _=>KO hx hr) hd h)
theorem HL {t e:TypeId} [TSlice P t e] {z:Value} {size bytes:Nat} [TInfo P e z size bytes] {x i':Operand} {k:IntKind} {b o m c j:Nat} {q:Int} (hi:ops[i]?=some ⟨some d,.indexAddr t x i',ty,pos,aft,none⟩) (hx:opv l x=some (.slice (some ⟨b,o,none⟩) m c)) (hq:opv l i'=some (.int k q)) (hd:Nat.blt d n=true) (h:hwp P n ops Q S r ((d,.pointer (some ⟨b,o + j * size,none⟩)) :: l) w) (hj:q=(j:Int):=by first|rfl|assumption) (hlt:j < m:=by omega):hwp P n ops Q S ((i,true) :: r) l w:=AA hi (BC (fun _ _=>Fj hx hq hj hlt) hd h)
theorem CY {w₀:World} {t:TypeId} [TOne P t] {x:Operand} {ad:Addr} {v:Value} (hi:ops[i]?=some ⟨some d,.load t x,ty,pos,aft,none⟩) (hx:opv l x=some (.pointer (some ad))) (hd:Nat.blt d n=true) (h:hwp P n ops Q (·=w₀) r ((d,v) :: l) w) (hc:w₀.cell? ad=some v:=by first|assumption|exact Blk.cell (by assumption) rfl|exact cat0 (by assumption)|exact cat1 (by assumption)|exact cat2 (by assumption)|exact cat3 (by assumption)|exact cat4 (by assumption)|exact cat5 (by assumption)|exact cat6 (by assumption)|exact cat7 (by assumption)|exact cat8 (by assumption)|exact cat9 (by assumption)):hwp P n ops Q (·=w₀) ((i,true) :: r) l w:=AA hi (My (DN hx hc) hd h)
theorem FV {w₀:World} {t:TypeId} [TOne P t] {x:Operand} {g k:Nat} {te:TypeId} {cs:List Value} {v:Value} (hi:ops[i]?=some ⟨some d,.load t x,ty,pos,aft,none⟩) (hx:opv l x=some (.pointer (some ⟨g,k,none⟩))) (hd:Nat.blt d n=true) (h:hwp P n ops Q (Ext w₀) r ((d,v) :: l) w) (hb:Blk w₀ g te cs:=by assumption) (hc:cs[k]?=some v:=by rfl):hwp P n ops Q (Ext w₀) ((i,true) :: r) l w:=AA hi (BC (fun _ hS=>DN hx ((hb.ext hS).cell hc)) hd h)
theorem Eg {t:TypeId} [TOne P t] {x:Operand} {g k:Nat} {te:TypeId} {cs:List Value} {v:Value} (hi:ops[i]?=some ⟨some d,.load t x,ty,pos,aft,none⟩) (hx:opv l x=some (.pointer (some ⟨g,k,none⟩))) (hd:Nat.blt d n=true) (h:hwp P n ops Q S r ((d,v) :: l) w) (hb:∀ w',S w'→Blk w' g te cs:=by assumption) (hc:cs[k]?=some v:=by rfl):hwp P n ops Q S ((i,true) :: r) l w:=AA hi (BC (fun _ hS=>DN hx ((hb _ hS).cell hc)) hd h)
theorem AW {t:TypeId} [TOne P t] {x:Operand} {ad:Addr} {v:Value} (hi:ops[i]?=some ⟨some d,.load t x,ty,pos,aft,none⟩) (hx:opv l x=some (.pointer (some ad))) (hd:Nat.blt d n=true) (h:hwp P n ops Q S r ((d,v) :: l) w) (hc:∀ w',S w'→w'.cell? ad=some v:=by first|assumption|exact fun _ hS=>cat0 ((by assumption:∀ w',_→cellsAt w' _ _ _) _ hS)|exact fun _ hS=>cat1 ((by assumption:∀ w',_→cellsAt w' _ _ _) _ hS)|exact fun _ hS=>cat2 ((by assumption:∀ w',_→cellsAt w' _ _ _) _ hS)|exact fun _ hS=>cat3 ((by assumption:∀ w',_→cellsAt w' _ _ _) _ hS)|exact fun _ hS=>cat4 ((by assumption:∀ w',_→cellsAt w' _ _ _) _ hS)|exact fun _ hS=>cat5 ((by assumption:∀ w',_→cellsAt w' _ _ _) _ hS)|exact fun _ hS=>cat6 ((by assumption:∀ w',_→cellsAt w' _ _ _) _ hS)|exact fun _ hS=>cat7 ((by assumption:∀ w',_→cellsAt w' _ _ _) _ hS)|exact fun _ hS=>cat8 ((by assumption:∀ w',_→cellsAt w' _ _ _) _ hS)|exact fun _ hS=>cat9 ((by assumption:∀ w',_→cellsAt w' _ _ _) _ hS)):hwp P n ops Q S ((i,true) :: r) l w:=AA hi (BC (fun _ hS=>DN hx (hc _ hS)) hd h)
theorem KJ {w₀:World} {t:TypeId} [TAgg P t] {z:Value} {size bytes:Nat} [TInfo P t z size bytes] {x:Operand} {b o:Nat} {cs:List Value} (hi:ops[i]?=some ⟨some d,.load t x,ty,pos,aft,none⟩) (hx:opv l x=some (.pointer (some ⟨b,o,none⟩))) (hd:Nat.blt d n=true) (h:hwp P n ops Q (·=w₀) r ((d,.agg cs.toArray) :: l) w) (hc:cellsAt w₀ b o cs:=by first|assumption|exact Blk.cellsAt (by assumption)) (hl:cs.length=size:=by rfl):hwp P n ops Q (·=w₀) ((i,true) :: r) l w:=AA hi (My (FR hx hl hc) hd h)
theorem CR {t:TypeId} [TAgg P t] {z:Value} {size bytes:Nat} [TInfo P t z size bytes] {x:Operand} {b o:Nat} {cs:List Value} (hi:ops[i]?=some ⟨some d,.load t x,ty,pos,aft,none⟩) (hx:opv l x=some (.pointer (some ⟨b,o,none⟩))) (hd:Nat.blt d n=true) (h:hwp P n ops Q S r ((d,.agg cs.toArray) :: l) w) (hb:∀ w',S w'→cellsAt w' b o cs:=by first|assumption|exact fun _ hS=>Blk.cellsAt ((by assumption:∀ w',_→Blk w' _ _ _) _ hS)) (hl:cs.length=size:=by rfl):hwp P n ops Q S ((i,true) :: r) l w:=AA hi (BC (fun _ hS=>FR hx hl (hb _ hS)) hd h)
theorem Gw {t u:TypeId} {x y:Operand} {k:IntKind} {a b:Int} (hi:ops[i]?=some ⟨some d,.binOp .lss t x y u,ty,pos,aft,none⟩) (hx:opv l x=some (.int k a)) (hy:opv l y=some (.int k b)) (hd:Nat.blt d n=true) (h:hwp P n ops Q S r ((d,.bool true) :: l) w) (hp:a < b:=by omega):hwp P n ops Q S ((i,true) :: r) l w:=AA hi (Ce (fun _ _=>Cy hx hy) hd hp h)
theorem Gx {t u:TypeId} {x y:Operand} {k:IntKind} {a b:Int} (hi:ops[i]?=some ⟨some d,.binOp .lss t x y u,ty,pos,aft,none⟩) (hx:opv l x=some (.int k a)) (hy:opv l y=some (.int k b)) (hd:Nat.blt d n=true) (h:hwp P n ops Q S r ((d,.bool false) :: l) w) (hp:¬ (a < b):=by omega):hwp P n ops Q S ((i,true) :: r) l w:=AA hi (Cf (fun _ _=>Cy hx hy) hd hp h)
theorem Fz {t u:TypeId} {x y:Operand} {k:IntKind} {a b:Int} (hi:ops[i]?=some ⟨some d,.binOp .lss t x y u,ty,pos,aft,none⟩) (hx:opv l x=some (.int k a)) (hy:opv l y=some (.int k b)) (hd:Nat.blt d n=true) (ht:a < b→hwp P n ops Q S r ((d,.bool true) :: l) w) (hf:¬ (a < b)→hwp P n ops Q S r ((d,.bool false) :: l) w):hwp P n ops Q S ((i,true) :: r) l w:=AA hi (Bu (fun _ _=>Cy hx hy) hd ht hf)
theorem OP {t u:TypeId} {x y:Operand} {k:IntKind} {a b:Int} (hi:ops[i]?=some ⟨some d,.binOp .leq t x y u,ty,pos,aft,none⟩) (hx:opv l x=some (.int k a)) (hy:opv l y=some (.int k b)) (hd:Nat.blt d n=true) (h:hwp P n ops Q S r ((d,.bool true) :: l) w) (hp:a≤b:=by omega):hwp P n ops Q S ((i,true) :: r) l w:=AA hi (Ce (fun _ _=>GR hx hy) hd hp h)
theorem OQ {t u:TypeId} {x y:Operand} {k:IntKind} {a b:Int} (hi:ops[i]?=some ⟨some d,.binOp .leq t x y u,ty,pos,aft,none⟩) (hx:opv l x=some (.int k a)) (hy:opv l y=some (.int k b)) (hd:Nat.blt d n=true) (h:hwp P n ops Q S r ((d,.bool false) :: l) w) (hp:¬ (a≤b):=by omega):hwp P n ops Q S ((i,true) :: r) l w:=AA hi (Cf (fun _ _=>GR hx hy) hd hp h)
theorem OS {t u:TypeId} {x y:Operand} {k:IntKind} {a b:Int} (hi:ops[i]?=some ⟨some d,.binOp .leq t x y u,ty,pos,aft,none⟩) (hx:opv l x=some (.int k a)) (hy:opv l y=some (.int k b)) (hd:Nat.blt d n=true) (ht:a≤b→hwp P n ops Q S r ((d,.bool true) :: l) w) (hf:¬ (a≤b)→hwp P n ops Q S r ((d,.bool false) :: l) w):hwp P n ops Q S ((i,true) :: r) l w:=AA hi (Bu (fun _ _=>GR hx hy) hd ht hf)
theorem OU {t u:TypeId} {x y:Operand} {k:IntKind} {a b:Int} (hi:ops[i]?=some ⟨some d,.binOp .eql t x y u,ty,pos,aft,none⟩) (hx:opv l x=some (.int k a)) (hy:opv l y=some (.int k b)) (hd:Nat.blt d n=true) (h:hwp P n ops Q S r ((d,.bool true) :: l) w) (hp:a=b:=by omega):hwp P n ops Q S ((i,true) :: r) l w:=AA hi (Ce (fun _ _=>GS hx hy) hd hp h)
theorem OV {t u:TypeId} {x y:Operand} {k:IntKind} {a b:Int} (hi:ops[i]?=some ⟨some d,.binOp .eql t x y u,ty,pos,aft,none⟩) (hx:opv l x=some (.int k a)) (hy:opv l y=some (.int k b)) (hd:Nat.blt d n=true) (h:hwp P n ops Q S r ((d,.bool false) :: l) w) (hp:¬ (a=b):=by omega):hwp P n ops Q S ((i,true) :: r) l w:=AA hi (Cf (fun _ _=>GS hx hy) hd hp h)
theorem OW {t u:TypeId} {x y:Operand} {k:IntKind} {a b:Int} (hi:ops[i]?=some ⟨some d,.binOp .eql t x y u,ty,pos,aft,none⟩) (hx:opv l x=some (.int k a)) (hy:opv l y=some (.int k b)) (hd:Nat.blt d n=true) (ht:a=b→hwp P n ops Q S r ((d,.bool true) :: l) w) (hf:¬ (a=b)→hwp P n ops Q S r ((d,.bool false) :: l) w):hwp P n ops Q S ((i,true) :: r) l w:=AA hi (Bu (fun _ _=>GS hx hy) hd ht hf)
theorem QP {t u:TypeId} {x y:Operand} {k:IntKind} {a b:Int} (hi:ops[i]?=some ⟨some d,.binOp .neq t x y u,ty,pos,aft,none⟩) (hx:opv l x=some (.int k a)) (hy:opv l y=some (.int k b)) (hd:Nat.blt d n=true) (h:hwp P n ops Q S r ((d,.bool true) :: l) w) (hp:a≠b:=by omega):hwp P n ops Q S ((i,true) :: r) l w:=AA hi (Ce (fun _ _=>EB hx hy) hd hp h)
theorem QQ {t u:TypeId} {x y:Operand} {k:IntKind} {a b:Int} (hi:ops[i]?=some ⟨some d,.binOp .neq t x y u,ty,pos,aft,none⟩) (hx:opv l x=some (.int k a)) (hy:opv l y=some (.int k b)) (hd:Nat.blt d n=true) (h:hwp P n ops Q S r ((d,.bool false) :: l) w) (hp:¬ (a≠b):=by omega):hwp P n ops Q S ((i,true) :: r) l w:=AA hi (Cf (fun _ _=>EB hx hy) hd hp h)
theorem Ik {t u:TypeId} {x y:Operand} {k:IntKind} {a b:Int} (hi:ops[i]?=some ⟨some d,.binOp .neq t x y u,ty,pos,aft,none⟩) (hx:opv l x=some (.int k a)) (hy:opv l y=some (.int k b)) (hd:Nat.blt d n=true) (ht:a≠b→hwp P n ops Q S r ((d,.bool true) :: l) w) (hf:¬ (a≠b)→hwp P n ops Q S r ((d,.bool false) :: l) w):hwp P n ops Q S ((i,true) :: r) l w:=AA hi (Bu (fun _ _=>EB hx hy) hd ht hf)
theorem Cs {x:Operand} {v:Value} (hx:opv l x=some v) (hd:Nat.blt d n=true) (h:hwp P n ops Q S r ((d,v) :: l) w)  : hwq P n ops Q S ⟨some d,.move x,ty,pos,aft,none⟩ r l w:=BC (fun _ _=>If hx) hd h
theorem NT {c x y:Operand} {v:Value} (hc:opv l c=some (.bool true)) (hx:opv l x=some v) (hd:Nat.blt d n=true) (h:hwp P n ops Q S r ((d,v) :: l) w)  : hwq P n ops Q S ⟨some d,.pick c x y,ty,pos,aft,none⟩ r l w:=BC (fun _ _=>IG hc hx) hd h
theorem NU {c x y:Operand} {v:Value} (hc:opv l c=some (.bool false)) (hx:opv l y=some v) (hd:Nat.blt d n=true) (h:hwp P n ops Q S r ((d,v) :: l) w)  : hwq P n ops Q S ⟨some d,.pick c x y,ty,pos,aft,none⟩ r l w:=BC (fun _ _=>IH hc hx) hd h
theorem BO {t:TypeId} {f off:Nat} [TField P t f off] {x:Operand} {b o:Nat} (hx:opv l x=some (.pointer (some ⟨b,o,none⟩))) (hd:Nat.blt d n=true) (h:hwp P n ops Q S r ((d,.pointer (some ⟨b,o + off,none⟩)) :: l) w)  : hwq P n ops Q S ⟨some d,.fieldAddr t x f,ty,pos,aft,none⟩ r l w:=BC (fun _ _=>Du hx) hd h
theorem Qi {x:Operand} {ad:Addr} (hx:opv l x=some (.pointer (some ad))) (hd:Nat.blt d n=true) (h:hwp P n ops Q S r ((d,.pointer (some ad)) :: l) w)  : hwq P n ops Q S ⟨some d,.nilCheck x,ty,pos,aft,none⟩ r l w:=BC (fun _ _=>GZ hx) hd h
theorem Gk {t:TypeId} {x:Operand} (hx:opv l x=some (.bool true)) (hd:Nat.blt d n=true) (h:hwp P n ops Q S r ((d,.bool false) :: l) w)  : hwq P n ops Q S ⟨some d,.unOp .not t x,ty,pos,aft,none⟩ r l w:=BC (fun _ _=>JL hx) hd h
theorem Gl {t:TypeId} {x:Operand} (hx:opv l x=some (.bool false)) (hd:Nat.blt d n=true) (h:hwp P n ops Q S r ((d,.bool true) :: l) w)  : hwq P n ops Q S ⟨some d,.unOp .not t x,ty,pos,aft,none⟩ r l w:=BC (fun _ _=>JM hx) hd h
theorem NV {t:TypeId} {x:Operand} {b:Bool} (hx:opv l x=some (.bool b)) (hd:Nat.blt d n=true) (h:hwp P n ops Q S r ((d,.bool (!b)) :: l) w)  : hwq P n ops Q S ⟨some d,.unOp .not t x,ty,pos,aft,none⟩ r l w:=BC (fun _ _=>Jl hx) hd h
theorem GH {t e:TypeId} [TSlice P t e] {x:Operand} {A:Option Addr} {m c:Nat} (hx:opv l x=some (.slice A m c)) (hd:Nat.blt d n=true) (h:hwp P n ops Q S r ((d,.int .i64 (m:Int)) :: l) w)  : hwq P n ops Q S ⟨some d,.call { callee:=.builtin .len,args:=#[x],argTypes:=#[t] },ty,pos,aft,none⟩ r l w:=BC (fun _ _=>KP hx) hd h
theorem Qj {fn:Go.Fn} {xs ys:List Operand} {vs us:List Value} (hx:opvs l xs=some vs) (hy:opvs l ys=some us) (hd:Nat.blt d n=true) (h:hwp P n ops Q S r ((d,.func fn vs.toArray us.toArray) :: l) w)  : hwq P n ops Q S ⟨some d,.makeFunc fn xs.toArray ys.toArray,ty,pos,aft,none⟩ r l w:=BC (fun _ _=>Nc hx hy) hd h
theorem NW {t u:TypeId} {x y:Operand} {a b:Int} (hx:opv l x=some (.int .i64 a)) (hy:opv l y=some (.int .i64 b)) (hd:Nat.blt d n=true) (h:hwp P n ops Q S r ((d,.int .i64 (a - b)) :: l) w) (hr:-9223372036854775808≤a - b∧a - b≤9223372036854775807:=by omega):hwq P n ops Q S ⟨some d,.binOp .sub t x y u,ty,pos,aft,none⟩ r l w:=BC (fun _ _=>MX hx hy hr) hd h
theorem FP {t e:TypeId} [TSlice P t e] {z:Value} {size bytes:Nat} [TInfo P e z size bytes] {x i':Operand} {k:IntKind} {b o m c j:Nat} {q:Int} (hx:opv l x=some (.slice (some ⟨b,o,none⟩) m c)) (hq:opv l i'=some (.int k q)) (hd:Nat.blt d n=true) (h:hwp P n ops Q S r ((d,.pointer (some ⟨b,o + j * size,none⟩)) :: l) w) (hj:q=(j:Int):=by first|rfl|assumption) (hlt:j < m:=by omega):hwq P n ops Q S ⟨some d,.indexAddr t x i',ty,pos,aft,none⟩ r l w:=BC (fun _ _=>Fj hx hq hj hlt) hd h
theorem BK {w₀:World} {t:TypeId} [TOne P t] {x:Operand} {ad:Addr} {v:Value} (hx:opv l x=some (.pointer (some ad))) (hd:Nat.blt d n=true) (h:hwp P n ops Q (·=w₀) r ((d,v) :: l) w) (hc:w₀.cell? ad=some v:=by first|assumption|exact Blk.cell (by assumption) rfl|exact cat0 (by assumption)|exact cat1 (by assumption)|exact cat2 (by assumption)|exact cat3 (by assumption)|exact cat4 (by assumption)|exact cat5 (by assumption)|exact cat6 (by assumption)|exact cat7 (by assumption)|exact cat8 (by assumption)|exact cat9 (by assumption)):hwq P n ops Q (·=w₀) ⟨some d,.load t x,ty,pos,aft,none⟩ r l w:=My (DN hx hc) hd h
theorem Dh {t:TypeId} [TOne P t] {x:Operand} {ad:Addr} {v:Value} (hx:opv l x=some (.pointer (some ad))) (hd:Nat.blt d n=true) (h:hwp P n ops Q S r ((d,v) :: l) w) (hc:∀ w',S w'→w'.cell? ad=some v:=by first|assumption|exact fun _ hS=>cat0 ((by assumption:∀ w',_→cellsAt w' _ _ _) _ hS)|exact fun _ hS=>cat1 ((by assumption:∀ w',_→cellsAt w' _ _ _) _ hS)|exact fun _ hS=>cat2 ((by assumption:∀ w',_→cellsAt w' _ _ _) _ hS)|exact fun _ hS=>cat3 ((by assumption:∀ w',_→cellsAt w' _ _ _) _ hS)|exact fun _ hS=>cat4 ((by assumption:∀ w',_→cellsAt w' _ _ _) _ hS)|exact fun _ hS=>cat5 ((by assumption:∀ w',_→cellsAt w' _ _ _) _ hS)|exact fun _ hS=>cat6 ((by assumption:∀ w',_→cellsAt w' _ _ _) _ hS)|exact fun _ hS=>cat7 ((by assumption:∀ w',_→cellsAt w' _ _ _) _ hS)|exact fun _ hS=>cat8 ((by assumption:∀ w',_→cellsAt w' _ _ _) _ hS)|exact fun _ hS=>cat9 ((by assumption:∀ w',_→cellsAt w' _ _ _) _ hS)):hwq P n ops Q S ⟨some d,.load t x,ty,pos,aft,none⟩ r l w:=BC (fun _ hS=>DN hx (hc _ hS)) hd h
theorem Il {t:TypeId} [TAgg P t] {z:Value} {size bytes:Nat} [TInfo P t z size bytes] {x:Operand} {b o:Nat} {cs:List Value} (hx:opv l x=some (.pointer (some ⟨b,o,none⟩))) (hd:Nat.blt d n=true) (h:hwp P n ops Q S r ((d,.agg cs.toArray) :: l) w) (hb:∀ w',S w'→cellsAt w' b o cs:=by first|assumption|exact fun _ hS=>Blk.cellsAt ((by assumption:∀ w',_→Blk w' _ _ _) _ hS)) (hl:cs.length=size:=by rfl):hwq P n ops Q S ⟨some d,.load t x,ty,pos,aft,none⟩ r l w:=BC (fun _ hS=>FR hx hl (hb _ hS)) hd h
theorem Bc {op:Op} {j dj:Nat} {b:Bool} {u:Value} (hi:ops[i]?=some ⟨some d,op,ty,pos,aft,some (j,b)⟩) (hj:gdst ops j=some dj) (hl:lk l dj=some u) (hu:isB u b=false) (hd:Nat.blt d n=true) (h:hwp P n ops Q S r ((d,undef) :: l) w):hwp P n ops Q S ((i,true) :: r) l w:=AA hi (AC hj hl hu hd h)
end
end
section
open Go Go.RowKit
structure Fct where
  var:Int
  val:Int
structure Eff where
  cond:List Fct
  var:Int
  val:Int
structure Opr where
  name:ByteArray
  cost:Int
  pre:List Fct
  effs:List Eff
structure Tsk where
  vars:List Int
  init:List Int
  goal:List Fct
  ops:List Opr
theorem Vb.one {α:Type} [Rp α] (hb:Rp.isAgg α=false) {w:World} {F:Nat→Prop} {v:Value} {x:α} (h:Vb w F v x):v.oneCell'=true:=by
  unfold Vb at h;rw [hb] at h;exact Rp.one h v (by simp)
instance:Rp Fct where
  isAgg:=true
  size:=2
  R _ _ cs f:=cs=[.int .i64 f.var,.int .i64 f.val]∧inI64 f.var∧inI64 f.val
  len:=by rintro w F cs x ⟨rfl,_⟩;rfl
  one:=by rintro w F cs x ⟨rfl,_⟩ u hu;simp at hu;rcases hu with rfl|rfl<;>rfl
  agree:=fun h _=>h
  mono:=fun h _=>h
instance:Rp Eff where
  isAgg:=true
  size:=3
  R w F cs e:=∃ v,cs=[v,.int .i64 e.var,.int .i64 e.val]∧Vb w F v e.cond∧inI64 e.var∧inI64 e.val
  len:=by rintro w F cs x ⟨v,rfl,_⟩;rfl
  one:=by rintro w F cs x ⟨v,rfl,h,_⟩ u hu;simp at hu;rcases hu with rfl|rfl|rfl<;>first|rfl|exact Vb.one rfl (by assumption)
  agree:=by rintro w w' F cs x ⟨v,rfl,h,h2⟩ ha;exact ⟨v,rfl,h.agree ha,h2⟩
  mono:=by rintro w F G cs x ⟨v,rfl,h,h2⟩ ha;exact ⟨v,rfl,h.mono ha,h2⟩
instance:Rp Opr where
  isAgg:=true
  size:=4
  R w F cs o:=∃ p q,cs=[.string o.name,.int .i64 o.cost,p,q]∧Vb w F p o.pre∧Vb w F q o.effs∧inI64 o.cost∧o.name.size≤9223372036854775807
  len:=by rintro w F cs x ⟨p,q,rfl,_⟩;rfl
  one:=by rintro w F cs x ⟨p,q,rfl,h,k,_⟩ u hu;simp at hu;rcases hu with rfl|rfl|rfl|rfl<;>first|rfl|exact Vb.one rfl (by assumption)
  agree:=by rintro w w' F cs x ⟨p,q,rfl,h,k,h2⟩ ha;exact ⟨p,q,rfl,h.agree ha,k.agree ha,h2⟩
  mono:=by rintro w F G cs x ⟨p,q,rfl,h,k,h2⟩ ha;exact ⟨p,q,rfl,h.mono ha,k.mono ha,h2⟩
instance:Rp Tsk where
  isAgg:=true
  size:=4
  R w F cs t:=∃ a b c d,cs=[a,b,c,d]∧Vb w F a t.vars∧Vb w F b t.init∧Vb w F c t.goal∧Vb w F d t.ops
  len:=by rintro w F cs x ⟨a,b,c,d,rfl,_⟩;rfl
  one:=by rintro w F cs x ⟨a,b,c,d,rfl,h1,h2,h3,h4⟩ u hu;simp at hu;rcases hu with rfl|rfl|rfl|rfl<;>first|rfl|exact Vb.one rfl (by assumption)
  agree:=by rintro w w' F cs x ⟨a,b,c,d,rfl,h1,h2,h3,h4⟩ ha;exact ⟨a,b,c,d,rfl,h1.agree ha,h2.agree ha,h3.agree ha,h4.agree ha⟩
  mono:=by rintro w F G cs x ⟨a,b,c,d,rfl,h1,h2,h3,h4⟩ ha;exact ⟨a,b,c,d,rfl,h1.mono ha,h2.mono ha,h3.mono ha,h4.mono ha⟩
end
section
open Go Go.RowKit Go.ChangeShapes Go.WideShapes Go.Deep
section
variable {H : Type} {enc : TypeId × Value → H} {P : Program} {w : World}
class Reads (P:Program) (t:TypeId) (α:Type) [Rp α]:Prop where
  of:∀ {H:Type} {enc:TypeId×Value→H} {w:World} {n:Nat} {cs:List Value} {x:DataW H×List MemPlace},DataW.trod enc P w 0 (fun _=>true) true n t cs=some x→∃ a:α,Rp.R w (All w) cs a
theorem wf64 {z:Int} (h:(Lit.int .i64 z).wf=true):inI64 z:=by
  simpa [Lit.wf,IntKind.min,IntKind.max,IntKind.signed,IntKind.bits,inI64] using h
theorem readsInt {t:TypeId} (ht:P.underlying t=some (.int .i64)):Reads P t Int:=⟨fun h=>by
  obtain ⟨z,rfl,_,hw⟩:=DataW.trod_int ht h
  exact ⟨z,rfl,wf64 hw⟩⟩
theorem Ph {a:Addr} {v:Value} (h:w.cell? a=some v):a.block < w.heap.size∧a.spot=none:=by
  unfold World.cell? at h
  split at h
  · next hb =>
    refine ⟨(Array.getElem?_eq_some_iff.1 hb).1,?_⟩
    cases hs:a.spot with
    | none=>rfl
    | some k=>rw [hs] at h;simp at h
  · cases h
theorem readsSlice {t e:TypeId} {α:Type} [Rp α] [hr:Reads P e α] (ht:P.underlying t=some (.slice e)) (hc:P.cellsOf e=Rp.size α) (hp:0 < Rp.size α):Reads P t (List α):=⟨fun {H enc w n cs x} h=>by
  rcases open_slice ht h with ⟨rfl,_⟩|⟨a,len,cap,m,n',D,Pl,rfl,_,hl,hm,hmm,_,hi⟩
  · exact ⟨[],_,rfl,none,0,[],rfl,Nat.le_refl _,by omega,rfl,fun h=>by simp at h⟩
  · have hlm:len≤m:=by rw [hmm];simpa using hl
    have key:∀ k,k≤len→∃ (xs:List α) (cells:List Value),xs.length=k∧Chunks w (All w) cells xs∧(0 < k→a.spot=none∧a.block < w.heap.size)∧∀ (j:Nat) v,cells[j]?=some v→w.cell? ⟨a.block,a.off + j,none⟩=some v:=by
      intro k
      induction k with
      | zero=>intro _;exact ⟨[],[],rfl,rfl,fun h=>by omega,fun j v h=>by simp at h⟩
      | succ k ih =>
        intro hk
        obtain ⟨xs,cells,h1,h2,h3,h4⟩:=ih (by omega)
        obtain ⟨cs',hcs,hel⟩:=hi k (by omega)
        obtain ⟨y,hy⟩:=hr.of hel
        obtain ⟨_,hlen,hat⟩:=World.cells?_some hcs
        rw [hc] at hlen hat
        have hcl:=h2.length
        have hadd:∀ j,j < Rp.size α→((a.add (k * Rp.size α)).add j).block=a.block∧((a.add (k * Rp.size α)).add j).off=a.off + (cells.length + j):=fun j hj=>by
          rw [hcl,h1]
          unfold Addr.add
          by_cases e1:k * Rp.size α=0
          · by_cases e2:j=0
            · simp [e1,e2]
            · simp [e1,e2]
          · by_cases e2:j=0
            · simp [e1,e2]
            · simp [e1,e2];omega
        have hcell:∀ (j:Nat) v,cs'[j]?=some v→w.cell? ⟨a.block,a.off + (cells.length + j),none⟩=some v∧a.block < w.heap.size∧((a.add (k * Rp.size α)).add j).spot=none:=fun j v hv=>by
          have hj:j < Rp.size α:=by rw [← hlen];exact (List.getElem?_eq_some_iff.1 hv).1
          have hw:=hat j hj
          rw [hv] at hw
          obtain ⟨q1,q2⟩:=Ph hw
          obtain ⟨e1,e2⟩:=hadd j hj
          have:(a.add (k * Rp.size α)).add j=⟨a.block,a.off + (cells.length + j),none⟩:=by
            cases hx:(a.add (k * Rp.size α)).add j with
            | mk b o s=>rw [hx] at e1 e2 q2;simp only at e1 e2 q2;subst e1;subst e2;subst q2;rfl
          rw [this] at hw q1
          exact ⟨hw,q1,q2⟩
        obtain ⟨v0,hv0⟩:∃ v,cs'[0]?=some v:=⟨cs'[0]'(by omega),List.getElem?_eq_getElem (by omega)⟩
        refine ⟨xs ++ [y],cells ++ cs',by simp [h1],h2.append (.single hy),fun _=>⟨?_,(hcell 0 v0 hv0).2.1⟩,fun j v hv=>?_⟩
        · by_cases hk0:k=0
          · subst hk0
            have:=(hcell 0 v0 hv0).2.2
            simpa [Addr.add] using this
          · exact (h3 (by omega)).1
        · by_cases hj:j < cells.length
          · rw [List.getElem?_append_left hj] at hv;exact h4 j v hv
          · rw [List.getElem?_append_right (by omega)] at hv
            have:=(hcell _ v hv).1
            rwa [show cells.length + (j - cells.length)=j from by omega] at this
    obtain ⟨xs,cells,h1,h2,h3,h4⟩:=key len (Nat.le_refl _)
    refine ⟨xs,_,rfl,some a,cap,cells,by rw [h1],by omega,by simpa [maxLen] using hm,h2,fun hpos=>?_⟩
    obtain ⟨q1,q2⟩:=h3 (by omega)
    refine ⟨a.block,a.off,?_,q2,EG h4⟩
    cases a;simp only at q1;subst q1;rfl⟩
end
end
section
open Go Go.RowKit
theorem tfield {P:Program} {t f off s:Nat} {fs:Array Field} {fd:Field} (h1:P.underlying t=some (.struct fs)) (h2:fs[f]?=some fd) (h3:fd.offset=off) (h4:(P.info? fd.type).map (·.size)=some s) (h5:s≠0) :
    ∃ fs fd i,P.underlying t=some (.struct fs)∧fs[f]?=some fd∧fd.offset=off∧P.info? fd.type=some i∧i.size≠0:=by
  obtain ⟨i,hi,hs⟩:=Option.map_eq_some_iff.1 h4
  exact ⟨fs,fd,i,h1,h2,h3,hi,by rw [hs];exact h5⟩
instance:TInt Tryz.prog 3 .i64:=⟨Tryz.underlying3⟩
instance:TOne Tryz.prog 3:=⟨⟨_,Tryz.underlying3,rfl⟩⟩
instance:TInfo Tryz.prog 3 (.int .i64 0) 1 8:=⟨info_parts (by kernel_rfl),rfl⟩
instance:TOne Tryz.prog 4:=⟨⟨_,Tryz.underlying4,rfl⟩⟩
instance:TInfo Tryz.prog 4 (.bool false) 1 1:=⟨info_parts (by kernel_rfl),rfl⟩
instance:TInt Tryz.prog 5 .u8:=⟨Tryz.underlying5⟩
instance:TInfo Tryz.prog 5 (.int .u8 0) 1 1:=⟨info_parts (by kernel_rfl),rfl⟩
instance:TStr Tryz.prog 9:=⟨Tryz.underlying9⟩
instance:TOne Tryz.prog 9:=⟨⟨_,Tryz.underlying9,rfl⟩⟩
instance:TInfo Tryz.prog 9 (.string (ByteArray.mk #[])) 1 16:=⟨info_parts (by kernel_rfl),rfl⟩
instance:TSlice Tryz.prog 22 3:=⟨Tryz.underlying22⟩
instance:TOne Tryz.prog 22:=⟨⟨_,Tryz.underlying22,rfl⟩⟩
instance:TInfo Tryz.prog 22 (.slice none 0 0) 1 24:=⟨info_parts (by kernel_rfl),rfl⟩
instance:TSlice Tryz.prog 23 45:=⟨Tryz.underlying23⟩
instance:TOne Tryz.prog 23:=⟨⟨_,Tryz.underlying23,rfl⟩⟩
instance:TInfo Tryz.prog 23 (.slice none 0 0) 1 24:=⟨info_parts (by kernel_rfl),rfl⟩
instance:TSlice Tryz.prog 24 50:=⟨Tryz.underlying24⟩
instance:TOne Tryz.prog 24:=⟨⟨_,Tryz.underlying24,rfl⟩⟩
instance:TInfo Tryz.prog 24 (.slice none 0 0) 1 24:=⟨info_parts (by kernel_rfl),rfl⟩
instance:TAgg Tryz.prog 26:=⟨⟨_,Tryz.underlying26,rfl⟩⟩
instance:TInfo Tryz.prog 26 (.agg #[(.slice none 0 0),(.slice none 0 0),(.slice none 0 0),(.slice none 0 0)]) 4 96:=⟨info_parts (by kernel_rfl),rfl⟩
instance:TPlaces Tryz.prog 26 [(0,1),(1,1),(2,1),(3,1)]:=⟨⟨_,Tryz.underlying26,fun _=>by kernel_rfl⟩⟩
instance:TField Tryz.prog 26 0 0:=⟨tfield (s:=1) Tryz.underlying26 rfl rfl (by kernel_rfl) (by decide)⟩
instance:TField Tryz.prog 26 1 1:=⟨tfield (s:=1) Tryz.underlying26 rfl rfl (by kernel_rfl) (by decide)⟩
instance:TField Tryz.prog 26 2 2:=⟨tfield (s:=1) Tryz.underlying26 rfl rfl (by kernel_rfl) (by decide)⟩
instance:TField Tryz.prog 26 3 3:=⟨tfield (s:=1) Tryz.underlying26 rfl rfl (by kernel_rfl) (by decide)⟩
instance:TSlice Tryz.prog 27 53:=⟨Tryz.underlying27⟩
instance:TOne Tryz.prog 27:=⟨⟨_,Tryz.underlying27,rfl⟩⟩
instance:TAgg Tryz.prog 32:=⟨⟨_,Tryz.underlying32,rfl⟩⟩
instance:TInfo Tryz.prog 32 (.agg #[(.int .i64 0),(.slice none 0 0),(.int .i64 0),(.int .i64 0)]) 4 48:=⟨info_parts (by kernel_rfl),rfl⟩
instance:TPlaces Tryz.prog 32 [(0,1),(1,1),(2,1),(3,1)]:=⟨⟨_,Tryz.underlying32,fun _=>by kernel_rfl⟩⟩
instance:TField Tryz.prog 32 0 0:=⟨tfield (s:=1) Tryz.underlying32 rfl rfl (by kernel_rfl) (by decide)⟩
instance:TField Tryz.prog 32 1 1:=⟨tfield (s:=1) Tryz.underlying32 rfl rfl (by kernel_rfl) (by decide)⟩
instance:TField Tryz.prog 32 2 2:=⟨tfield (s:=1) Tryz.underlying32 rfl rfl (by kernel_rfl) (by decide)⟩
instance:TField Tryz.prog 32 3 3:=⟨tfield (s:=1) Tryz.underlying32 rfl rfl (by kernel_rfl) (by decide)⟩
instance:TIface Tryz.prog 34:=⟨⟨_,Tryz.underlying34⟩⟩
instance:TSlice Tryz.prog 40 4:=⟨Tryz.underlying40⟩
instance:TAgg Tryz.prog 45:=⟨⟨_,Tryz.underlying45,rfl⟩⟩
instance:TInfo Tryz.prog 45 (.agg #[(.int .i64 0),(.int .i64 0)]) 2 16:=⟨info_parts (by kernel_rfl),rfl⟩
instance:TPlaces Tryz.prog 45 [(0,1),(1,1)]:=⟨⟨_,Tryz.underlying45,fun _=>by kernel_rfl⟩⟩
instance:TField Tryz.prog 45 0 0:=⟨tfield (s:=1) Tryz.underlying45 rfl rfl (by kernel_rfl) (by decide)⟩
instance:TField Tryz.prog 45 1 1:=⟨tfield (s:=1) Tryz.underlying45 rfl rfl (by kernel_rfl) (by decide)⟩
instance:TAgg Tryz.prog 47:=⟨⟨_,Tryz.underlying47,rfl⟩⟩
instance:TInfo Tryz.prog 47 (.agg #[(.slice none 0 0),(.int .i64 0),(.int .i64 0)]) 3 40:=⟨info_parts (by kernel_rfl),rfl⟩
instance:TPlaces Tryz.prog 47 [(0,1),(1,1),(2,1)]:=⟨⟨_,Tryz.underlying47,fun _=>by kernel_rfl⟩⟩
instance:TField Tryz.prog 47 0 0:=⟨tfield (s:=1) Tryz.underlying47 rfl rfl (by kernel_rfl) (by decide)⟩
instance:TField Tryz.prog 47 1 1:=⟨tfield (s:=1) Tryz.underlying47 rfl rfl (by kernel_rfl) (by decide)⟩
instance:TField Tryz.prog 47 2 2:=⟨tfield (s:=1) Tryz.underlying47 rfl rfl (by kernel_rfl) (by decide)⟩
instance:TSlice Tryz.prog 48 47:=⟨Tryz.underlying48⟩
instance:TOne Tryz.prog 48:=⟨⟨_,Tryz.underlying48,rfl⟩⟩
instance:TInfo Tryz.prog 48 (.slice none 0 0) 1 24:=⟨info_parts (by kernel_rfl),rfl⟩
instance:TAgg Tryz.prog 50:=⟨⟨_,Tryz.underlying50,rfl⟩⟩
instance:TInfo Tryz.prog 50 (.agg #[(.string (ByteArray.mk #[])),(.int .i64 0),(.slice none 0 0),(.slice none 0 0)]) 4 72:=⟨info_parts (by kernel_rfl),rfl⟩
instance:TPlaces Tryz.prog 50 [(0,1),(1,1),(2,1),(3,1)]:=⟨⟨_,Tryz.underlying50,fun _=>by kernel_rfl⟩⟩
instance:TField Tryz.prog 50 0 0:=⟨tfield (s:=1) Tryz.underlying50 rfl rfl (by kernel_rfl) (by decide)⟩
instance:TField Tryz.prog 50 1 1:=⟨tfield (s:=1) Tryz.underlying50 rfl rfl (by kernel_rfl) (by decide)⟩
instance:TField Tryz.prog 50 2 2:=⟨tfield (s:=1) Tryz.underlying50 rfl rfl (by kernel_rfl) (by decide)⟩
instance:TField Tryz.prog 50 3 3:=⟨tfield (s:=1) Tryz.underlying50 rfl rfl (by kernel_rfl) (by decide)⟩
instance:TSlice Tryz.prog 51 22:=⟨Tryz.underlying51⟩
instance:TOne Tryz.prog 51:=⟨⟨_,Tryz.underlying51,rfl⟩⟩
instance:TInfo Tryz.prog 51 (.slice none 0 0) 1 24:=⟨info_parts (by kernel_rfl),rfl⟩
instance:TAgg Tryz.prog 53:=⟨⟨_,Tryz.underlying53,rfl⟩⟩
instance:TInfo Tryz.prog 53 (.agg #[(.slice none 0 0),(.slice none 0 0),(.slice none 0 0)]) 3 72:=⟨info_parts (by kernel_rfl),rfl⟩
instance:TPlaces Tryz.prog 53 [(0,1),(1,1),(2,1)]:=⟨⟨_,Tryz.underlying53,fun _=>by kernel_rfl⟩⟩
instance:TField Tryz.prog 53 0 0:=⟨tfield (s:=1) Tryz.underlying53 rfl rfl (by kernel_rfl) (by decide)⟩
instance:TField Tryz.prog 53 1 1:=⟨tfield (s:=1) Tryz.underlying53 rfl rfl (by kernel_rfl) (by decide)⟩
instance:TField Tryz.prog 53 2 2:=⟨tfield (s:=1) Tryz.underlying53 rfl rfl (by kernel_rfl) (by decide)⟩
instance:TInt Tryz.prog 59 .i64:=⟨Tryz.underlying59⟩
instance:TPtr Tryz.prog 60 107:=⟨Tryz.underlying60⟩
instance:TOne Tryz.prog 60:=⟨⟨_,Tryz.underlying60,rfl⟩⟩
instance:TOne Tryz.prog 64:=⟨⟨_,Tryz.underlying64,rfl⟩⟩
instance:TSlice Tryz.prog 65 78:=⟨Tryz.underlying65⟩
instance:TOne Tryz.prog 65:=⟨⟨_,Tryz.underlying65,rfl⟩⟩
instance:TInfo Tryz.prog 65 (.slice none 0 0) 1 24:=⟨info_parts (by kernel_rfl),rfl⟩
instance:TSlice Tryz.prog 67 73:=⟨Tryz.underlying67⟩
instance:TOne Tryz.prog 67:=⟨⟨_,Tryz.underlying67,rfl⟩⟩
instance:TInfo Tryz.prog 67 (.slice none 0 0) 1 24:=⟨info_parts (by kernel_rfl),rfl⟩
instance:TInfo Tryz.prog 69 (.agg #[(.slice none 0 0),(.slice none 0 0),(.slice none 0 0),(.slice none 0 0),(.slice none 0 0),(.slice none 0 0),(.map none),(.slice none 0 0),(.int .i64 0)]) 9 184:=⟨info_parts (by kernel_rfl),rfl⟩
instance:TPlaces Tryz.prog 69 [(0,4),(4,1),(5,1),(6,1),(7,1),(8,1)]:=⟨⟨_,Tryz.underlying69,fun _=>by kernel_rfl⟩⟩
instance:TField Tryz.prog 69 0 0:=⟨tfield (s:=4) Tryz.underlying69 rfl rfl (by kernel_rfl) (by decide)⟩
instance:TField Tryz.prog 69 1 4:=⟨tfield (s:=1) Tryz.underlying69 rfl rfl (by kernel_rfl) (by decide)⟩
instance:TField Tryz.prog 69 2 5:=⟨tfield (s:=1) Tryz.underlying69 rfl rfl (by kernel_rfl) (by decide)⟩
instance:TField Tryz.prog 69 3 6:=⟨tfield (s:=1) Tryz.underlying69 rfl rfl (by kernel_rfl) (by decide)⟩
instance:TField Tryz.prog 69 4 7:=⟨tfield (s:=1) Tryz.underlying69 rfl rfl (by kernel_rfl) (by decide)⟩
instance:TField Tryz.prog 69 5 8:=⟨tfield (s:=1) Tryz.underlying69 rfl rfl (by kernel_rfl) (by decide)⟩
instance:TAgg Tryz.prog 73:=⟨⟨_,Tryz.underlying73,rfl⟩⟩
instance:TInfo Tryz.prog 73 (.agg #[(.int .i64 0),(.int .i64 0),(.int .i64 0)]) 3 24:=⟨info_parts (by kernel_rfl),rfl⟩
instance:TPlaces Tryz.prog 73 [(0,1),(1,1),(2,1)]:=⟨⟨_,Tryz.underlying73,fun _=>by kernel_rfl⟩⟩
instance:TField Tryz.prog 73 0 0:=⟨tfield (s:=1) Tryz.underlying73 rfl rfl (by kernel_rfl) (by decide)⟩
instance:TField Tryz.prog 73 1 1:=⟨tfield (s:=1) Tryz.underlying73 rfl rfl (by kernel_rfl) (by decide)⟩
instance:TField Tryz.prog 73 2 2:=⟨tfield (s:=1) Tryz.underlying73 rfl rfl (by kernel_rfl) (by decide)⟩
instance:TPtr Tryz.prog 76 67:=⟨Tryz.underlying76⟩
instance:TAgg Tryz.prog 78:=⟨⟨_,Tryz.underlying78,rfl⟩⟩
instance:TInfo Tryz.prog 78 (.agg #[(.slice none 0 0),(.int .i64 0),(.int .i64 0),(.int .i64 0),(.slice none 0 0),(.bool false)]) 6 80:=⟨info_parts (by kernel_rfl),rfl⟩
instance:TPlaces Tryz.prog 78 [(0,1),(1,1),(2,1),(3,1),(4,1),(5,1)]:=⟨⟨_,Tryz.underlying78,fun _=>by kernel_rfl⟩⟩
instance:TField Tryz.prog 78 0 0:=⟨tfield (s:=1) Tryz.underlying78 rfl rfl (by kernel_rfl) (by decide)⟩
instance:TField Tryz.prog 78 1 1:=⟨tfield (s:=1) Tryz.underlying78 rfl rfl (by kernel_rfl) (by decide)⟩
instance:TField Tryz.prog 78 2 2:=⟨tfield (s:=1) Tryz.underlying78 rfl rfl (by kernel_rfl) (by decide)⟩
instance:TField Tryz.prog 78 3 3:=⟨tfield (s:=1) Tryz.underlying78 rfl rfl (by kernel_rfl) (by decide)⟩
instance:TField Tryz.prog 78 4 4:=⟨tfield (s:=1) Tryz.underlying78 rfl rfl (by kernel_rfl) (by decide)⟩
instance:TField Tryz.prog 78 5 5:=⟨tfield (s:=1) Tryz.underlying78 rfl rfl (by kernel_rfl) (by decide)⟩
instance:TSlice Tryz.prog 82 85:=⟨Tryz.underlying82⟩
instance:TAgg Tryz.prog 85:=⟨⟨_,Tryz.underlying85,rfl⟩⟩
instance:TInfo Tryz.prog 85 (.agg #[(.int .i64 0),(.slice none 0 0)]) 2 32:=⟨info_parts (by kernel_rfl),rfl⟩
instance:TPlaces Tryz.prog 85 [(0,1),(1,1)]:=⟨⟨_,Tryz.underlying85,fun _=>by kernel_rfl⟩⟩
instance:TField Tryz.prog 85 0 0:=⟨tfield (s:=1) Tryz.underlying85 rfl rfl (by kernel_rfl) (by decide)⟩
instance:TField Tryz.prog 85 1 1:=⟨tfield (s:=1) Tryz.underlying85 rfl rfl (by kernel_rfl) (by decide)⟩
instance:TSlice Tryz.prog 101 23:=⟨Tryz.underlying101⟩
instance:TPtr Tryz.prog 105 144:=⟨Tryz.underlying105⟩
instance:TOne Tryz.prog 105:=⟨⟨_,Tryz.underlying105,rfl⟩⟩
instance:TInfo Tryz.prog 105 (.pointer none) 1 8:=⟨info_parts (by kernel_rfl),rfl⟩
instance:TInfo Tryz.prog 107 (.agg #[(.slice none 0 0),(.slice none 0 0),(.slice none 0 0),(.slice none 0 0),(.pointer none)]) 5 104:=⟨info_parts (by kernel_rfl),rfl⟩
instance:TPlaces Tryz.prog 107 [(0,4),(4,1)]:=⟨⟨_,Tryz.underlying107,fun _=>by kernel_rfl⟩⟩
instance:TField Tryz.prog 107 0 0:=⟨tfield (s:=4) Tryz.underlying107 rfl rfl (by kernel_rfl) (by decide)⟩
instance:TField Tryz.prog 107 1 4:=⟨tfield (s:=1) Tryz.underlying107 rfl rfl (by kernel_rfl) (by decide)⟩
instance:TSlice Tryz.prog 142 105:=⟨Tryz.underlying142⟩
instance:TOne Tryz.prog 142:=⟨⟨_,Tryz.underlying142,rfl⟩⟩
instance:TInfo Tryz.prog 142 (.slice none 0 0) 1 24:=⟨info_parts (by kernel_rfl),rfl⟩
instance:TInfo Tryz.prog 144 (.agg #[(.slice none 0 0),(.bool false),(.int .i64 0),(.slice none 0 0),(.pointer none)]) 5 72:=⟨info_parts (by kernel_rfl),rfl⟩
instance:TPlaces Tryz.prog 144 [(0,1),(1,1),(2,1),(3,1),(4,1)]:=⟨⟨_,Tryz.underlying144,fun _=>by kernel_rfl⟩⟩
instance:TField Tryz.prog 144 0 0:=⟨tfield (s:=1) Tryz.underlying144 rfl rfl (by kernel_rfl) (by decide)⟩
instance:TField Tryz.prog 144 1 1:=⟨tfield (s:=1) Tryz.underlying144 rfl rfl (by kernel_rfl) (by decide)⟩
instance:TField Tryz.prog 144 2 2:=⟨tfield (s:=1) Tryz.underlying144 rfl rfl (by kernel_rfl) (by decide)⟩
instance:TField Tryz.prog 144 3 3:=⟨tfield (s:=1) Tryz.underlying144 rfl rfl (by kernel_rfl) (by decide)⟩
instance:TField Tryz.prog 144 4 4:=⟨tfield (s:=1) Tryz.underlying144 rfl rfl (by kernel_rfl) (by decide)⟩
instance:TSlice Tryz.prog 146 5:=⟨Tryz.underlying146⟩
instance:Callable Tryz.prog 9:=⟨⟨_,Tryz.func9,rfl,by decide⟩⟩
instance:Callable Tryz.prog 10:=⟨⟨_,Tryz.func10,rfl,by decide⟩⟩
instance:Callable Tryz.prog 11:=⟨⟨_,Tryz.func11,rfl,by decide⟩⟩
instance:Callable Tryz.prog 12:=⟨⟨_,Tryz.func12,rfl,by decide⟩⟩
instance:Callable Tryz.prog 15:=⟨⟨_,Tryz.func15,rfl,by decide⟩⟩
instance:Callable Tryz.prog 17:=⟨⟨_,Tryz.func17,rfl,by decide⟩⟩
instance:Callable Tryz.prog 18:=⟨⟨_,Tryz.func18,rfl,by decide⟩⟩
instance:Callable Tryz.prog 21:=⟨⟨_,Tryz.func21,rfl,by decide⟩⟩
instance:Callable Tryz.prog 22:=⟨⟨_,Tryz.func22,rfl,by decide⟩⟩
instance:Callable Tryz.prog 23:=⟨⟨_,Tryz.func23,rfl,by decide⟩⟩
instance:Callable Tryz.prog 24:=⟨⟨_,Tryz.func24,rfl,by decide⟩⟩
instance:Callable Tryz.prog 25:=⟨⟨_,Tryz.func25,rfl,by decide⟩⟩
instance:Callable Tryz.prog 26:=⟨⟨_,Tryz.func26,rfl,by decide⟩⟩
instance:Callable Tryz.prog 27:=⟨⟨_,Tryz.func27,rfl,by decide⟩⟩
instance:Callable Tryz.prog 28:=⟨⟨_,Tryz.func28,rfl,by decide⟩⟩
instance:Callable Tryz.prog 29:=⟨⟨_,Tryz.func29,rfl,by decide⟩⟩
instance:Callable Tryz.prog 30:=⟨⟨_,Tryz.func30,rfl,by decide⟩⟩
instance:Callable Tryz.prog 38:=⟨⟨_,Tryz.func38,rfl,by decide⟩⟩
instance:Callable Tryz.prog 39:=⟨⟨_,Tryz.func39,rfl,by decide⟩⟩
instance:Callable Tryz.prog 40:=⟨⟨_,Tryz.func40,rfl,by decide⟩⟩
instance:Callable Tryz.prog 45:=⟨⟨_,Tryz.func45,rfl,by decide⟩⟩
instance:Callable Tryz.prog 46:=⟨⟨_,Tryz.func46,rfl,by decide⟩⟩
instance:Callable Tryz.prog 47:=⟨⟨_,Tryz.func47,rfl,by decide⟩⟩
instance:Callable Tryz.prog 48:=⟨⟨_,Tryz.func48,rfl,by decide⟩⟩
instance:Callable Tryz.prog 49:=⟨⟨_,Tryz.func49,rfl,by decide⟩⟩
instance:Callable Tryz.prog 50:=⟨⟨_,Tryz.func50,rfl,by decide⟩⟩
instance:Callable Tryz.prog 51:=⟨⟨_,Tryz.func51,rfl,by decide⟩⟩
instance:Callable Tryz.prog 52:=⟨⟨_,Tryz.func52,rfl,by decide⟩⟩
instance:Callable Tryz.prog 53:=⟨⟨_,Tryz.func53,rfl,by decide⟩⟩
instance:Callable Tryz.prog 54:=⟨⟨_,Tryz.func54,rfl,by decide⟩⟩
instance:Callable Tryz.prog 55:=⟨⟨_,Tryz.func55,rfl,by decide⟩⟩
instance:Callable Tryz.prog 56:=⟨⟨_,Tryz.func56,rfl,by decide⟩⟩
instance:Callable Tryz.prog 57:=⟨⟨_,Tryz.func57,rfl,by decide⟩⟩
instance:Callable Tryz.prog 58:=⟨⟨_,Tryz.func58,rfl,by decide⟩⟩
instance:Callable Tryz.prog 59:=⟨⟨_,Tryz.func59,rfl,by decide⟩⟩
instance:Callable Tryz.prog 60:=⟨⟨_,Tryz.func60,rfl,by decide⟩⟩
instance:Callable Tryz.prog 61:=⟨⟨_,Tryz.func61,rfl,by decide⟩⟩
instance:Callable Tryz.prog 62:=⟨⟨_,Tryz.func62,rfl,by decide⟩⟩
instance:Callable Tryz.prog 63:=⟨⟨_,Tryz.func63,rfl,by decide⟩⟩
instance:Callable Tryz.prog 64:=⟨⟨_,Tryz.func64,rfl,by decide⟩⟩
instance:Callable Tryz.prog 65:=⟨⟨_,Tryz.func65,rfl,by decide⟩⟩
instance:Callable Tryz.prog 66:=⟨⟨_,Tryz.func66,rfl,by decide⟩⟩
instance:Callable Tryz.prog 70:=⟨⟨_,Tryz.func70,rfl,by decide⟩⟩
instance:Callable Tryz.prog 71:=⟨⟨_,Tryz.func71,rfl,by decide⟩⟩
instance:Callable Tryz.prog 72:=⟨⟨_,Tryz.func72,rfl,by decide⟩⟩
instance:Callable Tryz.prog 73:=⟨⟨_,Tryz.func73,rfl,by decide⟩⟩
instance:Callable Tryz.prog 74:=⟨⟨_,Tryz.func74,rfl,by decide⟩⟩
instance:Callable Tryz.prog 75:=⟨⟨_,Tryz.func75,rfl,by decide⟩⟩
instance:Callable Tryz.prog 76:=⟨⟨_,Tryz.func76,rfl,by decide⟩⟩
instance:Callable Tryz.prog 77:=⟨⟨_,Tryz.func77,rfl,by decide⟩⟩
instance:Callable Tryz.prog 78:=⟨⟨_,Tryz.func78,rfl,by decide⟩⟩
instance:Callable Tryz.prog 79:=⟨⟨_,Tryz.func79,rfl,by decide⟩⟩
instance:Callable Tryz.prog 80:=⟨⟨_,Tryz.func80,rfl,by decide⟩⟩
instance:Callable Tryz.prog 81:=⟨⟨_,Tryz.func81,rfl,by decide⟩⟩
instance:Callable Tryz.prog 82:=⟨⟨_,Tryz.func82,rfl,by decide⟩⟩
instance:Callable Tryz.prog 83:=⟨⟨_,Tryz.func83,rfl,by decide⟩⟩
instance:Callable Tryz.prog 84:=⟨⟨_,Tryz.func84,rfl,by decide⟩⟩
instance:Callable Tryz.prog 85:=⟨⟨_,Tryz.func85,rfl,by decide⟩⟩
instance:Callable Tryz.prog 86:=⟨⟨_,Tryz.func86,rfl,by decide⟩⟩
instance:Callable Tryz.prog 87:=⟨⟨_,Tryz.func87,rfl,by decide⟩⟩
instance:Callable Tryz.prog 88:=⟨⟨_,Tryz.func88,rfl,by decide⟩⟩
instance:Callable Tryz.prog 89:=⟨⟨_,Tryz.func89,rfl,by decide⟩⟩
instance:Callable Tryz.prog 90:=⟨⟨_,Tryz.func90,rfl,by decide⟩⟩
instance:Callable Tryz.prog 91:=⟨⟨_,Tryz.func91,rfl,by decide⟩⟩
instance:Callable Tryz.prog 92:=⟨⟨_,Tryz.func92,rfl,by decide⟩⟩
instance:Callable Tryz.prog 93:=⟨⟨_,Tryz.func93,rfl,by decide⟩⟩
instance:Callable Tryz.prog 94:=⟨⟨_,Tryz.func94,rfl,by decide⟩⟩
instance:Callable Tryz.prog 95:=⟨⟨_,Tryz.func95,rfl,by decide⟩⟩
instance:Callable Tryz.prog 96:=⟨⟨_,Tryz.func96,rfl,by decide⟩⟩
instance:Callable Tryz.prog 98:=⟨⟨_,Tryz.func98,rfl,by decide⟩⟩
instance:Callable Tryz.prog 99:=⟨⟨_,Tryz.func99,rfl,by decide⟩⟩
instance:Callable Tryz.prog 100:=⟨⟨_,Tryz.func100,rfl,by decide⟩⟩
instance:Callable Tryz.prog 101:=⟨⟨_,Tryz.func101,rfl,by decide⟩⟩
instance:Callable Tryz.prog 102:=⟨⟨_,Tryz.func102,rfl,by decide⟩⟩
instance:Callable Tryz.prog 103:=⟨⟨_,Tryz.func103,rfl,by decide⟩⟩
instance:Callable Tryz.prog 106:=⟨⟨_,Tryz.func106,rfl,by decide⟩⟩
instance:Callable Tryz.prog 155:=⟨⟨_,Tryz.func155,rfl,by decide⟩⟩
instance:Callable Tryz.prog 156:=⟨⟨_,Tryz.func156,rfl,by decide⟩⟩
instance:Callable Tryz.prog 157:=⟨⟨_,Tryz.func157,rfl,by decide⟩⟩
instance:Callable Tryz.prog 158:=⟨⟨_,Tryz.func158,rfl,by decide⟩⟩
instance:Mixed Tryz.prog:=⟨by kernel_rfl⟩
end
section
open Go Go.RowKit Go.ChangeShapes Go.WideShapes Go.Deep
theorem len2 {cs:List Value} (h:cs.length=2):∃ a b,cs=[a,b]:=by
  match cs,h with
  | [a,b],_=>exact ⟨a,b,rfl⟩
theorem len3 {cs:List Value} (h:cs.length=3):∃ a b c,cs=[a,b,c]:=by
  match cs,h with
  | [a,b,c],_=>exact ⟨a,b,c,rfl⟩
theorem len4 {cs:List Value} (h:cs.length=4):∃ a b c d,cs=[a,b,c,d]:=by
  match cs,h with
  | [a,b,c,d],_=>exact ⟨a,b,c,d,rfl⟩
theorem Im:Tryz.prog.cellsOf 3=1:=by kernel_rfl
theorem QR:Tryz.prog.cellsOf 9=1:=by kernel_rfl
theorem KX:Tryz.prog.cellsOf 22=1:=by kernel_rfl
theorem JQ:Tryz.prog.cellsOf 23=1:=by kernel_rfl
theorem Qk:Tryz.prog.cellsOf 48=1:=by kernel_rfl
theorem QS:Tryz.prog.cellsOf 24=1:=by kernel_rfl
theorem Ng:Tryz.prog.cellsOf 45=2:=by kernel_rfl
theorem OX:Tryz.prog.cellsOf 47=3:=by kernel_rfl
theorem Ql:Tryz.prog.cellsOf 50=4:=by kernel_rfl
theorem Qm:Tryz.prog.cellsOf 26=4:=by kernel_rfl
theorem readsField {H:Type} {enc:TypeId×Value→H} {P:Program} {w:World} {t:TypeId} {fs:Array Field} {n:Nat} {cs:List Value} {x:DataW H×List MemPlace} (ht:P.underlying t=some (.struct fs)) (h:DataW.trod enc P w 0 (fun _=>true) true n t cs=some x) :
    cs.length=P.cellsOf t∧∃ m,∀ (j ty off c:Nat),(fs[j]?).map (fun f=>(f.type,f.offset))=some (ty,off)→P.cellsOf ty=c→∃ y,DataW.trod enc P w 0 (fun _=>true) true m ty ((cs.drop off).take c)=some y:=by
  obtain ⟨xs,m,_,_,hl,hx,hf⟩:=DataW.trod_struct ht h
  refine ⟨hl,m,fun j ty off c hj hc=>?_⟩
  obtain ⟨fd,h1,h2⟩:=Option.map_eq_some_iff.1 hj
  injection h2 with h3 h4
  subst h3;subst h4;subst hc
  have hj':j < xs.length:=by rw [hx];exact (Array.getElem?_eq_some_iff.1 h1).1
  exact ⟨xs[j],(hf j fd h1).trans (List.getElem?_eq_getElem hj')⟩
instance:Reads Tryz.prog 3 Int:=readsInt Tryz.underlying3
instance:Reads Tryz.prog 22 (List Int):=readsSlice Tryz.underlying22 Im (by decide)
instance:Reads Tryz.prog 45 Fct:=⟨fun {H enc w n cs x} h=>by
  obtain ⟨hl,m,hf⟩:=readsField Tryz.underlying45 h
  obtain ⟨v0,v1,rfl⟩:=len2 (hl.trans Ng)
  obtain ⟨x0,g0⟩:=hf 0 3 0 1 rfl Im
  replace g0:DataW.trod enc Tryz.prog w 0 (fun _=>true) true m 3 [v0]=some x0:=g0
  obtain ⟨x1,g1⟩:=hf 1 3 1 1 rfl Im
  replace g1:DataW.trod enc Tryz.prog w 0 (fun _=>true) true m 3 [v1]=some x1:=g1
  obtain ⟨z0,e0,q0⟩:=(inferInstance:Reads Tryz.prog 3 Int).of g0
  obtain rfl:v0=.int .i64 z0:=by simpa using e0
  obtain ⟨z1,e1,q1⟩:=(inferInstance:Reads Tryz.prog 3 Int).of g1
  obtain rfl:v1=.int .i64 z1:=by simpa using e1
  exact ⟨⟨z0,z1⟩,rfl,q0,q1⟩⟩
instance:Reads Tryz.prog 23 (List Fct):=readsSlice Tryz.underlying23 Ng (by decide)
instance:Reads Tryz.prog 47 Eff:=⟨fun {H enc w n cs x} h=>by
  obtain ⟨hl,m,hf⟩:=readsField Tryz.underlying47 h
  obtain ⟨v0,v1,v2,rfl⟩:=len3 (hl.trans OX)
  obtain ⟨x0,g0⟩:=hf 0 23 0 1 rfl JQ
  replace g0:DataW.trod enc Tryz.prog w 0 (fun _=>true) true m 23 [v0]=some x0:=g0
  obtain ⟨x1,g1⟩:=hf 1 3 1 1 rfl Im
  replace g1:DataW.trod enc Tryz.prog w 0 (fun _=>true) true m 3 [v1]=some x1:=g1
  obtain ⟨x2,g2⟩:=hf 2 3 2 1 rfl Im
  replace g2:DataW.trod enc Tryz.prog w 0 (fun _=>true) true m 3 [v2]=some x2:=g2
  obtain ⟨z0,q0⟩:=(inferInstance:Reads Tryz.prog 23 (List Fct)).of g0
  obtain ⟨z1,e1,q1⟩:=(inferInstance:Reads Tryz.prog 3 Int).of g1
  obtain rfl:v1=.int .i64 z1:=by simpa using e1
  obtain ⟨z2,e2,q2⟩:=(inferInstance:Reads Tryz.prog 3 Int).of g2
  obtain rfl:v2=.int .i64 z2:=by simpa using e2
  exact ⟨⟨z0,z1,z2⟩,v0,rfl,q0,q1,q2⟩⟩
instance:Reads Tryz.prog 48 (List Eff):=readsSlice Tryz.underlying48 OX (by decide)
instance:Reads Tryz.prog 50 Opr:=⟨fun {H enc w n cs x} h=>by
  obtain ⟨hl,m,hf⟩:=readsField Tryz.underlying50 h
  obtain ⟨v0,v1,v2,v3,rfl⟩:=len4 (hl.trans Ql)
  obtain ⟨x0,g0⟩:=hf 0 9 0 1 rfl QR
  replace g0:DataW.trod enc Tryz.prog w 0 (fun _=>true) true m 9 [v0]=some x0:=g0
  obtain ⟨x1,g1⟩:=hf 1 3 1 1 rfl Im
  replace g1:DataW.trod enc Tryz.prog w 0 (fun _=>true) true m 3 [v1]=some x1:=g1
  obtain ⟨x2,g2⟩:=hf 2 23 2 1 rfl JQ
  replace g2:DataW.trod enc Tryz.prog w 0 (fun _=>true) true m 23 [v2]=some x2:=g2
  obtain ⟨x3,g3⟩:=hf 3 48 3 1 rfl Qk
  replace g3:DataW.trod enc Tryz.prog w 0 (fun _=>true) true m 48 [v3]=some x3:=g3
  obtain ⟨z0,e0,_,q0⟩:=DataW.trod_string Tryz.underlying9 g0
  obtain rfl:v0=.string z0:=by simpa using e0
  obtain ⟨z1,e1,q1⟩:=(inferInstance:Reads Tryz.prog 3 Int).of g1
  obtain rfl:v1=.int .i64 z1:=by simpa using e1
  obtain ⟨z2,q2⟩:=(inferInstance:Reads Tryz.prog 23 (List Fct)).of g2
  obtain ⟨z3,q3⟩:=(inferInstance:Reads Tryz.prog 48 (List Eff)).of g3
  exact ⟨⟨z0,z1,z2,z3⟩,v2,v3,rfl,q2,q3,q1,by simpa [maxLen] using q0⟩⟩
instance:Reads Tryz.prog 24 (List Opr):=readsSlice Tryz.underlying24 Ql (by decide)
instance:Reads Tryz.prog 26 Tsk:=⟨fun {H enc w n cs x} h=>by
  obtain ⟨hl,m,hf⟩:=readsField Tryz.underlying26 h
  obtain ⟨v0,v1,v2,v3,rfl⟩:=len4 (hl.trans Qm)
  obtain ⟨x0,g0⟩:=hf 0 22 0 1 rfl KX
  replace g0:DataW.trod enc Tryz.prog w 0 (fun _=>true) true m 22 [v0]=some x0:=g0
  obtain ⟨x1,g1⟩:=hf 1 22 1 1 rfl KX
  replace g1:DataW.trod enc Tryz.prog w 0 (fun _=>true) true m 22 [v1]=some x1:=g1
  obtain ⟨x2,g2⟩:=hf 2 23 2 1 rfl JQ
  replace g2:DataW.trod enc Tryz.prog w 0 (fun _=>true) true m 23 [v2]=some x2:=g2
  obtain ⟨x3,g3⟩:=hf 3 24 3 1 rfl QS
  replace g3:DataW.trod enc Tryz.prog w 0 (fun _=>true) true m 24 [v3]=some x3:=g3
  obtain ⟨z0,q0⟩:=(inferInstance:Reads Tryz.prog 22 (List Int)).of g0
  obtain ⟨z1,q1⟩:=(inferInstance:Reads Tryz.prog 22 (List Int)).of g1
  obtain ⟨z2,q2⟩:=(inferInstance:Reads Tryz.prog 23 (List Fct)).of g2
  obtain ⟨z3,q3⟩:=(inferInstance:Reads Tryz.prog 24 (List Opr)).of g3
  exact ⟨⟨z0,z1,z2,z3⟩,v0,v1,v2,v3,rfl,q0,q1,q2,q3⟩⟩
theorem openV {H:Type} {enc:TypeId×Value→H} {P:Program} {w:World} {t:TypeId} {α:Type} [Rp α] [hr:Reads P t α] {v:Value} {d:DataW H} {p:List MemPlace} (hag:Rp.isAgg α=true→∃ cs,v=.agg cs) (hne:Rp.isAgg α=false→v.cells.toList=[v])
    (h:DataW.Trod enc P w 0 (fun _=>true) true t v d p):∃ a:α,V w v a:=by
  obtain ⟨n,h⟩:=h
  obtain ⟨a,ha⟩:=hr.of h
  refine ⟨a,?_⟩
  unfold V Vb
  cases hb:Rp.isAgg α with
  | true =>
    obtain ⟨cs,rfl⟩:=hag hb
    exact ⟨cs.toList,by simp,ha⟩
  | false =>
    rw [hne hb] at ha
    exact ha
end
section
open Go Go.RowKit Go.ChangeShapes Go.WideShapes Go.Deep
theorem oneCells {P:Program} {w:World} {t:TypeId} [ht:TOne P t] {base:Nat} {v:Value} (hv:Value.okWide P w .any base t v):v.cells.toList=[v]:=by
  obtain ⟨k,hk,hm⟩:=ht.eq
  cases v with
  | agg cs=>cases k<;>first|(simp at hm;done)|(simp only [Value.okWide,hk,Cell.okWide] at hv;simp_all [Cell.ok];done)
  | _=>rfl
theorem aggCells {P:Program} {w:World} {t:TypeId} [ht:TAgg P t] {base:Nat} {v:Value} (hv:Value.okWide P w .any base t v):∃ cs,v=.agg cs:=by
  obtain ⟨k,hk,hm⟩:=ht.eq
  cases k<;>first|(simp at hm;done)|(simp only [Value.okWide,hk] at hv;obtain ⟨cs,rfl,_⟩:=hv;exact ⟨cs,rfl⟩)
theorem openOne {H:Type} {enc:TypeId×Value→H} {P:Program} {w:World} {t:TypeId} {α:Type} [Rp α] [Reads P t α] [TOne P t] {base:Nat} {v:Value} {d:DataW H} {p:List MemPlace} (hb:Rp.isAgg α=false) (hv:Value.okWide P w .any base t v)
    (h:DataW.Trod enc P w 0 (fun _=>true) true t v d p):∃ a:α,V w v a :=
  openV (fun h => by rw [hb] at h; cases h) (fun _ => oneCells hv) h
theorem openAgg {H:Type} {enc:TypeId×Value→H} {P:Program} {w:World} {t:TypeId} {α:Type} [Rp α] [Reads P t α] [TAgg P t] {base:Nat} {v:Value} {d:DataW H} {p:List MemPlace} (hb:Rp.isAgg α=true) (hv:Value.okWide P w .any base t v)
    (h:DataW.Trod enc P w 0 (fun _=>true) true t v d p):∃ a:α,V w v a :=
  openV (fun _ => aggCells hv) (fun h => by rw [hb] at h; cases h) h
theorem ownTry:ownKnob Tryz.prog.godebug=none:=by kernel_rfl
theorem kidsTry:Kids Tryz.prog (· < Tryz.prog.types.size):=kids_rows (by kernel_rfl) (by kernel_rfl)
theorem fullTry:∀ t e,t < Tryz.prog.types.size→Tryz.prog.underlying t=some (.slice e)→0 < Tryz.prog.cellsOf e:=slices_full_of Tryz.prog (by kernel_rfl)
theorem readAgain {H:Type} {enc:TypeId×Value→H} {W W':World} (hE:Ext W W') {sp:Nat→Bool}:∀ {ts:List TypeId} {vs:List Value} {ds:List (DataW H)} {ps:List MemPlace},(∀ t∈ts,t < Tryz.prog.types.size) →
    DataW.TrodAll enc Tryz.prog W 0 (fun _=>true) true ts vs ds ps→(∀ p∈ps,sp p.block=true)→DataW.TrodAll enc Tryz.prog W' 0 sp true ts vs ds ps
  | [],_,_,_,_,h,_=>by
    obtain ⟨rfl,rfl,rfl⟩:=trodAll_nil h
    exact rfl
  | t :: ts,_,_,_,ht,h,hs=>by
    obtain ⟨v,vs1,d,ds1,a,b,rfl,rfl,rfl,⟨n,h1⟩,h2⟩:=trodAll_cons h
    refine ⟨a,b,⟨n,DataW.trod_stays kidsTry (fun {t e}=>fullTry t e) (fun h=>by cases h) (ht t List.mem_cons_self) h1 (fun p hp=>hE.same (DataW.trod_lt n _ _ _ h1 p hp)) (fun p hp=>hs p (List.mem_append_left _ hp))⟩,
      readAgain hE (fun t' ht'=>ht t' (List.mem_cons_of_mem _ ht')) h2 (fun p hp=>hs p (List.mem_append_right _ hp)),rfl⟩
set_option maxRecDepth 100000 in
theorem lawPost {H:Type} {enc:TypeId×Value→H} {f:FuncId} {fn:Func} {s:ChangeSpec} {again:Bool} {W:World} {args:Array Value} {ds gs:List (DataW H)} {before:List MemPlace}
    (hvars:s.vars=[]) (hrt:fn.resultTypes=#[4]) (hpt:∀ t∈fn.params.toList,t < Tryz.prog.types.size) (hW:DataW.Whole enc Tryz.prog fn.params.toList s.vars false W args.toList ds gs before)
    (hs:∀ p,DataW.TrodAll enc Tryz.prog W 0 (fun _=>true) true fn.params.toList args.toList ds p→s.fn H (ds ++ [])={ results:=[.lit (.bool true)],args:=ds })
    (hc:∀ p,DataW.TrodAll enc Tryz.prog W 0 (fun _=>true) true fn.params.toList args.toList ds p→Fn Tryz.prog f args.toList W fun v w'=>v=.bool true∧Ext W w') :
    Calls Tryz.prog f args W fun e W'=>∃ v,e=.returned v∧s.post enc Tryz.prog fn false true false again W args v W':=by
  have hW':=hW
  obtain ⟨p,q,hA,hV,rfl,hfz,hnd⟩:=hW
  rw [hvars] at hV
  obtain ⟨rfl,rfl⟩:=trodVars_none hV
  have h1:=hc p hA W.drawn
  rw [Pg] at h1
  refine h1.mono fun e W' ⟨v,w₀,d',he,hw,hv,hE⟩=>?_
  subst he;subst hv
  refine ⟨_,rfl,?_⟩
  have hE':Ext W W':=by
    subst hw
    exact ⟨hE.os,hE.tape,hE.output,hE.size,hE.block⟩
  clear hE h1 hw
  have hsp:=hs p hA
  have hlt:=hW'.lt
  have hold:∀ q∈p ++ [],(fun b=>decide (b < W.heap.size)) q.block=true:=fun q hq=>by simpa using hlt q hq
  have hargs:∀ sp:Nat→Bool,(∀ q∈p,sp q.block=true)→DataW.TrodAll enc Tryz.prog W' 0 sp true fn.params.toList args.toList ds p:=fun sp h=>readAgain hE' hpt hA h
  have hres:∀ (b:Nat) (sp:Nat→Bool) (hd:Bool),DataW.TrodAll enc Tryz.prog W' b sp hd fn.resultTypes.toList ((Value.bool true).resultList fn.resultTypes.size) [.lit (.bool true)] []:=fun _ _ _=>by
    rw [hrt];exact trodAll_mk1 (shut_bool Tryz.underlying4 _)
  have hk:W.keptBut W' (fun q=>q∈p ++ []∧(q∈([]:List MemPlace)∨q∈p∨q∈([]:List MemPlace))):=Below.frame hE' _
  have hok:∀ (j:Nat) (t:TypeId) (r:Value),fn.resultTypes[j]?=some t→((Value.bool true).resultList fn.resultTypes.size)[j]?=some r→Value.okWide Tryz.prog W' .any 0 t r:=by
    have h0:Value.okWide Tryz.prog W' .any 0 4 (.bool true):=okWide_bool_mk Tryz.underlying4 true
    have h2:(Value.bool true).resultList 1=[Value.bool true]:=by unfold Value.resultList;rfl
    exact ok_one (P:=Tryz.prog) (W':=W') (f:=fn) (v:=.bool true) (t:=4) hrt h2 h0
  refine ⟨ds,[],p ++ [],[],p,[],hW',?_,?_,?_,hk,fun _=>⟨hok,[.lit (.bool true)] ++ ds,[],([] ++ p) ++ [],⟨[] ++ p,[],?_,?_,rfl,?_,?_⟩,?_⟩⟩
  · rw [hsp];exact hres _ _ _
  · rw [hsp];exact hargs _ (fun q hq=>hold q (by simpa using hq))
  · rw [hsp,hvars];rfl
  · exact trodAll_append (hargs _ (fun _ _=>rfl)) (hres _ _ _)
  · rw [hvars];rfl
  · intro b off hp
    have hp':MemPlace.cell b off∈p ++ []:=by simpa using hp
    rw [hE'.frozen (p:=⟨b,off,none⟩) (hlt _ hp')]
    exact hfz b off hp'
  · intro ha;cases ha
  · intro q hq _;simpa using hq
end
section
open Go Go.RowKit
attribute [local irreducible] ewp owp hwp hwq hws Ev Evg Fn retPost loud loudS Res1
def hasB (s:List Int) (x:Fct):Bool:=decide (0≤x.var) && decide (s[x.var.toNat]?=some x.val)
def holdsB (f:List Fct) (s:List Int):Bool:=f.all (hasB s)
theorem Kb {f:List Fct} {s:List Int} {k:Nat} {x:Fct} (hx:f[k]?=some x) (h:hasB s x=false):holdsB f s=false:=by
  unfold holdsB
  rw [List.all_eq_false]
  exact ⟨x,List.mem_of_getElem? hx,by simp [h]⟩
theorem LL {f:List Fct} {s:List Int} {k:Nat} {x:Fct} (hx:f[k]?=some x) (h:hasB s x=true) (hh:holdsB (f.take k) s=true):holdsB (f.take (k + 1)) s=true:=by
  unfold holdsB at *
  rw [List.take_add_one,hx,List.all_append,hh]
  simp [h]
theorem Ma {s:List Int} {x:Fct} {j:Nat} {y:Int} (hj:x.var=(j:Int)) (hy:s[j]?=some y):hasB s x=decide (y=x.val):=by
  unfold hasB
  rw [hj];simp [hy]
theorem AD {α:Type} {l:List α} {k:Nat} (h:k < l.length):∃ x,l[k]?=some x:=⟨l[k],List.getElem?_eq_getElem h⟩
theorem BG {α:Type} {l:List α} {k:Nat} {x:α} (h:l[k]?=some x):k < l.length:=(List.getElem?_eq_some_iff.1 h).1
theorem taskHolds {w:World} {fv sv:Value} {f:List Fct} {s:List Int} (hf:V w fv f) (hs:V w sv s) :
    Fn Tryz.prog 28 [fv,sv] w fun v w'=>v=.bool (bof (holdsB f s=true))∧Ext w w':=by
  obtain ⟨Af,cf,rfl⟩:=hf.form
  obtain ⟨As,cs,rfl⟩:=hs.form
  have hfl:=hf.len
  refine AK Tryz.func28 rfl Tryz.ntmps28 rfl ?_
  ((repeat (first|refine At ?_|refine Ah rfl ?_|refine Ae rfl ?_))<;>(refine Aw rfl rfl ?_<;>(refine o_z ?_))<;>(repeat (first|refine At ?_|refine Ah rfl ?_|refine Ae rfl ?_))<;>(refine Ar rfl rfl ?_<;>refine AY rfl rfl ?_<;>refine Ar rfl rfl ?_<;>(refine o_z ?_))<;>(repeat (first|refine At ?_|refine Ah rfl ?_|refine Ae rfl ?_)))
  refine EI (fun k:Nat=>[(1,.slice As s.length cs),(7,.slice Af f.length cf),(8,.int .i64 (f.length:Int)),(9,.int .i64 (k:Int))])
    (fun k w'=>Ext w w'∧k≤f.length∧holdsB (f.take k) s=true) (fun k=>f.length - k) 0 ⟨Below.refl _ _,Nat.zero_le _,rfl⟩ ⟨rfl,rfl,rfl,rfl,trivial⟩ ?_
  rintro k w1 ⟨hE,hk,hh⟩
  by_cases hlt:k < f.length
  · obtain ⟨x,hx⟩:=AD hlt
    obtain ⟨b,o,ce,rfl,hb,_,hd1,rfl,hr1,hr2⟩:=(hf.ext hE).elem hx
    ((repeat (first|refine At ?_|refine Ah rfl ?_|refine Ae rfl ?_))<;>((first|refine CV rfl rfl rfl ?_|refine CW rfl rfl rfl ?_)<;>(refine o_z ?_))<;>(repeat (first|refine At ?_|refine Ah rfl ?_|refine Ae rfl ?_))<;>(refine CQ rfl rfl rfl ?_<;>refine Bi rfl rfl ?_)<;>(repeat (first|refine At ?_|refine Ah rfl ?_|refine Ae rfl ?_)))
    refine Cg rfl rfl rfl (by simp [Value.cells,Value.oneCell']) fun w3 hN=>?_
    have hb1:=hN.blk
    have hE3:Ext w w3:=hE.trans' hN.ext
    ((refine o_z ?_))
    repeat (first|refine At ?_|refine Ah rfl ?_|refine Ae rfl ?_)
    refine Cw (·=w3) [(0,true),(1,true),(2,true),(3,true),(4,true),(5,true),(6,true),(7,true),(8,true),(9,true),(10,true),(11,true),(12,true),(13,true),(14,true),(15,true),(16,true),(17,true),(18,true),(19,true)] (by kernel_rfl) rfl (by kernel_rfl) rfl ?_
    by_cases hv:0≤x.var∧x.var < s.length
    · obtain ⟨j,hj1⟩:=Int.eq_ofNat_of_zero_le hv.1
      obtain ⟨y,hy⟩:=AD (l:=s) (k:=j) (by omega)
      obtain ⟨b2,o2,ce2,rfl,_,_,hd2,rfl,_⟩:=(hs.ext hE3).elem hy
      have hq:=Ma (s:=s) hj1 hy
      (refine Be rfl rfl rfl ?_<;>refine CY rfl rfl rfl ?_<;>(first|refine Gw rfl rfl rfl rfl ?_|refine Gx rfl rfl rfl rfl ?_|refine Fz rfl rfl rfl rfl (fun _=>?_) fun _=>?_)<;>refine AN rfl rfl rfl ?_<;>(refine AA rfl ?_;(first|(refine Ay rfl rfl ?_;refine BO rfl rfl ?_)|refine AC rfl rfl rfl rfl ?_))<;>(refine AA rfl ?_;(first|(refine Ay rfl rfl ?_;refine BK rfl rfl ?_)|refine AC rfl rfl rfl rfl ?_))<;>(refine AA rfl ?_;(first|(refine Ay rfl rfl ?_;refine Cs rfl rfl ?_)|refine AC rfl rfl rfl rfl ?_))<;>(refine AA rfl ?_;(first|(refine Ay rfl rfl ?_;refine GH rfl rfl ?_)|refine AC rfl rfl rfl rfl ?_))<;>(refine AA rfl ?_;(first|(refine Ay rfl rfl ?_;(first|refine Ce (fun _ _=>Bv rfl rfl) rfl (by omega) ?_|refine Cf (fun _ _=>Bv rfl rfl) rfl (by omega) ?_|refine Bu (fun _ _=>Bv rfl rfl) rfl (fun _=>?_) (fun _=>?_)))|refine AC rfl rfl rfl rfl ?_))<;>(first|refine Cm rfl rfl rfl rfl ?_|refine BX rfl rfl rfl rfl ?_)<;>refine AN rfl rfl rfl ?_<;>(refine AA rfl ?_;(first|(refine Ay rfl rfl ?_;refine Cs rfl rfl ?_)|refine AC rfl rfl rfl rfl ?_))<;>(refine AA rfl ?_;(first|(refine Ay rfl rfl ?_;refine BO rfl rfl ?_)|refine AC rfl rfl rfl rfl ?_))<;>(refine AA rfl ?_;(first|(refine Ay rfl rfl ?_;refine BK rfl rfl ?_)|refine AC rfl rfl rfl rfl ?_))<;>(refine AA rfl ?_;(first|(refine Ay rfl rfl ?_;refine FP rfl rfl rfl ?_)|refine AC rfl rfl rfl rfl ?_))<;>(refine AA rfl ?_;(first|(refine Ay rfl rfl ?_;refine BK rfl rfl ?_)|refine AC rfl rfl rfl rfl ?_))<;>(refine AA rfl ?_;(first|(refine Ay rfl rfl ?_;refine BO rfl rfl ?_)|refine AC rfl rfl rfl rfl ?_))<;>(refine AA rfl ?_;(first|(refine Ay rfl rfl ?_;refine BK rfl rfl ?_)|refine AC rfl rfl rfl rfl ?_))<;>(refine AA rfl ?_;(first|(refine Ay rfl rfl ?_;(first|refine Ce (fun _ _=>EB rfl rfl) rfl (by omega) ?_|refine Cf (fun _ _=>EB rfl rfl) rfl (by omega) ?_|refine Bu (fun _ _=>EB rfl rfl) rfl (fun _=>?_) (fun _=>?_)))|refine AC rfl rfl rfl rfl ?_))<;>(first|refine Cm rfl rfl rfl rfl ?_|refine BX rfl rfl rfl rfl ?_)<;>(refine h_z ?_))<;>(repeat (first|refine At ?_|refine Ah rfl ?_|refine Ae rfl ?_))
      · ((repeat (first|refine At ?_|refine Ah rfl ?_|refine Ae rfl ?_))<;>(refine Aw rfl rfl ?_<;>(refine o_z ?_))<;>(repeat (first|refine At ?_|refine Ah rfl ?_|refine Ae rfl ?_)))
        refine ret1 rfl rfl ⟨?_,hE3⟩
        rw [Kb hx (by rw [hq];simpa using ‹_›),Jp]
      · ((first|refine FO rfl rfl ?_|refine FN rfl rfl rfl ?_)<;>refine Ar rfl rfl ?_<;>(refine o_z ?_))
        exact ⟨k + 1,⟨rfl,rfl,rfl,rfl,trivial⟩,⟨hE3,by omega,LL hx (by rw [hq];simp;omega) hh⟩,by omega⟩
    · have hq:hasB s x=false:=by
        unfold hasB
        by_cases h0:0≤x.var
        · have:s.length≤x.var.toNat:=by omega
          simp [List.getElem?_eq_none this]
        · simp [h0]
      (refine Be rfl rfl rfl ?_<;>refine CY rfl rfl rfl ?_<;>(first|refine Gw rfl rfl rfl rfl ?_|refine Gx rfl rfl rfl rfl ?_|refine Fz rfl rfl rfl rfl (fun _=>?_) fun _=>?_)<;>refine AN rfl rfl rfl ?_<;>(refine AA rfl ?_;(first|(refine Ay rfl rfl ?_;refine BO rfl rfl ?_)|refine AC rfl rfl rfl rfl ?_))<;>(refine AA rfl ?_;(first|(refine Ay rfl rfl ?_;refine BK rfl rfl ?_)|refine AC rfl rfl rfl rfl ?_))<;>(refine AA rfl ?_;(first|(refine Ay rfl rfl ?_;refine Cs rfl rfl ?_)|refine AC rfl rfl rfl rfl ?_))<;>(refine AA rfl ?_;(first|(refine Ay rfl rfl ?_;refine GH rfl rfl ?_)|refine AC rfl rfl rfl rfl ?_))<;>(refine AA rfl ?_;(first|(refine Ay rfl rfl ?_;(first|refine Ce (fun _ _=>Bv rfl rfl) rfl (by omega) ?_|refine Cf (fun _ _=>Bv rfl rfl) rfl (by omega) ?_|refine Bu (fun _ _=>Bv rfl rfl) rfl (fun _=>?_) (fun _=>?_)))|refine AC rfl rfl rfl rfl ?_))<;>(first|refine Cm rfl rfl rfl rfl ?_|refine BX rfl rfl rfl rfl ?_)<;>refine AN rfl rfl rfl ?_<;>(refine AA rfl ?_;(first|(refine Ay rfl rfl ?_;refine Cs rfl rfl ?_)|refine AC rfl rfl rfl rfl ?_))<;>(refine AA rfl ?_;(first|(refine Ay rfl rfl ?_;refine BO rfl rfl ?_)|refine AC rfl rfl rfl rfl ?_))<;>(refine AA rfl ?_;(first|(refine Ay rfl rfl ?_;refine BK rfl rfl ?_)|refine AC rfl rfl rfl rfl ?_))<;>(refine AA rfl ?_;(first|(refine Ay rfl rfl ?_;refine FP rfl rfl rfl ?_)|refine AC rfl rfl rfl rfl ?_))<;>(refine AA rfl ?_;(first|(refine Ay rfl rfl ?_;refine BK rfl rfl ?_)|refine AC rfl rfl rfl rfl ?_))<;>(refine AA rfl ?_;(first|(refine Ay rfl rfl ?_;refine BO rfl rfl ?_)|refine AC rfl rfl rfl rfl ?_))<;>(refine AA rfl ?_;(first|(refine Ay rfl rfl ?_;refine BK rfl rfl ?_)|refine AC rfl rfl rfl rfl ?_))<;>(refine AA rfl ?_;(first|(refine Ay rfl rfl ?_;(first|refine Ce (fun _ _=>EB rfl rfl) rfl (by omega) ?_|refine Cf (fun _ _=>EB rfl rfl) rfl (by omega) ?_|refine Bu (fun _ _=>EB rfl rfl) rfl (fun _=>?_) (fun _=>?_)))|refine AC rfl rfl rfl rfl ?_))<;>(first|refine Cm rfl rfl rfl rfl ?_|refine BX rfl rfl rfl rfl ?_)<;>(refine h_z ?_))<;>(repeat (first|refine At ?_|refine Ah rfl ?_|refine Ae rfl ?_))
      all_goals
        ((repeat (first|refine At ?_|refine Ah rfl ?_|refine Ae rfl ?_))<;>(refine Aw rfl rfl ?_<;>(refine o_z ?_))<;>(repeat (first|refine At ?_|refine Ah rfl ?_|refine Ae rfl ?_)))
        refine ret1 rfl rfl ⟨?_,hE3⟩
        rw [Kb hx hq,Jp]
  · ((repeat (first|refine At ?_|refine Ah rfl ?_|refine Ae rfl ?_))<;>((first|refine CV rfl rfl rfl ?_|refine CW rfl rfl rfl ?_)<;>(refine o_z ?_))<;>(repeat (first|refine At ?_|refine Ah rfl ?_|refine Ae rfl ?_))<;>(refine Aw rfl rfl ?_<;>(refine o_z ?_))<;>(repeat (first|refine At ?_|refine Ah rfl ?_|refine Ae rfl ?_)))
    refine ret1 rfl rfl ⟨?_,hE⟩
    rw [List.take_of_length_le (by omega)] at hh
    rw [hh,Jp]
theorem baseInts {w:World} {av bv:Value} {a b:List Int} (ha:V w av a) (hb:V w bv b) :
    Fn Tryz.prog 17 [av,bv] w fun v w'=>v=.bool (bof (a=b))∧Ext w w':=by
  obtain ⟨A,ca,rfl⟩:=ha.form
  obtain ⟨B,cb,rfl⟩:=hb.form
  have hal:=ha.len
  refine AK Tryz.func17 rfl Tryz.ntmps17 rfl ?_
  by_cases hl:a.length=b.length
  · ((repeat (first|refine At ?_|refine Ah rfl ?_|refine Ae rfl ?_))<;>(refine Aw rfl rfl ?_<;>(refine o_z ?_))<;>(repeat (first|refine At ?_|refine Ah rfl ?_|refine Ae rfl ?_))<;>(refine Ar rfl rfl ?_<;>refine AY rfl rfl ?_<;>refine Ar rfl rfl ?_<;>refine AY rfl rfl ?_<;>(first|refine Ii rfl rfl rfl ?_|refine Ij rfl rfl rfl ?_)<;>(refine o_z ?_))<;>(repeat (first|refine At ?_|refine Ah rfl ?_|refine Ae rfl ?_))<;>(refine Ar rfl rfl ?_<;>refine AY rfl rfl ?_<;>refine Ar rfl rfl ?_<;>(refine o_z ?_))<;>(repeat (first|refine At ?_|refine Ah rfl ?_|refine Ae rfl ?_)))
    refine EI (fun k:Nat=>[(0,.slice A a.length ca),(1,.slice B b.length cb),(12,.int .i64 (a.length:Int)),(13,.int .i64 (k:Int))])
      (fun k w'=>w'=w∧k≤a.length∧a.take k=b.take k) (fun k=>a.length - k) 0 ⟨rfl,Nat.zero_le _,rfl⟩ ⟨rfl,rfl,rfl,rfl,trivial⟩ ?_
    rintro k _ ⟨rfl,hk,hh⟩
    by_cases hlt:k < a.length
    · obtain ⟨x,hx⟩:=AD hlt
      obtain ⟨y,hy⟩:=AD (l:=b) (k:=k) (by omega)
      obtain ⟨b1,o1,ce,rfl,_,_,hd1,rfl,_⟩:=ha.elem hx
      obtain ⟨b2,o2,ce,rfl,_,_,hd2,rfl,_⟩:=hb.elem hy
      ((repeat (first|refine At ?_|refine Ah rfl ?_|refine Ae rfl ?_))<;>((first|refine CV rfl rfl rfl ?_|refine CW rfl rfl rfl ?_)<;>(refine o_z ?_))<;>(repeat (first|refine At ?_|refine Ah rfl ?_|refine Ae rfl ?_))<;>(refine Ar rfl rfl ?_<;>refine Aw rfl rfl ?_<;>(refine o_z ?_))<;>(repeat (first|refine At ?_|refine Ah rfl ?_|refine Ae rfl ?_)))
      refine Cw (·=_) [(0,true),(1,true),(2,true),(3,true),(4,true),(5,true),(6,true),(7,true),(8,true)] (by kernel_rfl) rfl (by kernel_rfl) rfl ?_
      (refine AN rfl rfl rfl ?_<;>refine AN rfl rfl rfl ?_<;>refine HL rfl rfl rfl rfl ?_<;>refine CY rfl rfl rfl ?_<;>refine AN rfl rfl rfl ?_<;>refine AN rfl rfl rfl ?_<;>refine HL rfl rfl rfl rfl ?_<;>refine CY rfl rfl rfl ?_<;>(first|refine QP rfl rfl rfl rfl ?_|refine QQ rfl rfl rfl rfl ?_|refine Ik rfl rfl rfl rfl (fun _=>?_) fun _=>?_)<;>(refine h_z ?_))<;>(repeat (first|refine At ?_|refine Ah rfl ?_|refine Ae rfl ?_))
      · ((repeat (first|refine At ?_|refine Ah rfl ?_|refine Ae rfl ?_))<;>(refine Aw rfl rfl ?_<;>(refine o_z ?_))<;>(repeat (first|refine At ?_|refine Ah rfl ?_|refine Ae rfl ?_)))
        refine ret1 rfl rfl ⟨?_,Below.refl _ _⟩
        rw [AM]
        rintro rfl
        exact absurd (Option.some.inj (hx.symm.trans hy)) (by assumption)
      · ((first|refine FO rfl rfl ?_|refine FN rfl rfl rfl ?_)<;>refine Ar rfl rfl ?_<;>(refine o_z ?_))
        exact ⟨k + 1,⟨rfl,rfl,rfl,rfl,trivial⟩,⟨rfl,by omega,by rw [List.take_add_one,List.take_add_one,hx,hy,hh,show x=y from by omega]⟩,by omega⟩
    · ((repeat (first|refine At ?_|refine Ah rfl ?_|refine Ae rfl ?_))<;>((first|refine CV rfl rfl rfl ?_|refine CW rfl rfl rfl ?_)<;>(refine o_z ?_))<;>(repeat (first|refine At ?_|refine Ah rfl ?_|refine Ae rfl ?_))<;>(refine Aw rfl rfl ?_<;>(refine o_z ?_))<;>(repeat (first|refine At ?_|refine Ah rfl ?_|refine Ae rfl ?_)))
      refine ret1 rfl rfl ⟨?_,Below.refl _ _⟩
      rw [List.take_of_length_le (by omega),List.take_of_length_le (by omega)] at hh
      rw [Bd hh]
  · ((repeat (first|refine At ?_|refine Ah rfl ?_|refine Ae rfl ?_))<;>(refine Aw rfl rfl ?_<;>(refine o_z ?_))<;>(repeat (first|refine At ?_|refine Ah rfl ?_|refine Ae rfl ?_))<;>(refine Ar rfl rfl ?_<;>refine AY rfl rfl ?_<;>refine Ar rfl rfl ?_<;>refine AY rfl rfl ?_<;>(first|refine Ii rfl rfl rfl ?_|refine Ij rfl rfl rfl ?_)<;>(refine o_z ?_))<;>(repeat (first|refine At ?_|refine Ah rfl ?_|refine Ae rfl ?_))<;>(refine Aw rfl rfl ?_<;>(refine o_z ?_))<;>(repeat (first|refine At ?_|refine Ah rfl ?_|refine Ae rfl ?_)))
    refine ret1 rfl rfl ⟨?_,Below.refl _ _⟩
    rw [AM (fun h=>hl (by rw [h]))]
def StateOk (vars s:List Int):Prop:=s.length=vars.length∧∀ (i:Nat) x y,s[i]?=some x→vars[i]?=some y→0≤x∧x < y
theorem baseState {w:World} {vv sv:Value} {vars s:List Int} (ha:V w vv vars) (hb:V w sv s) :
    Fn Tryz.prog 38 [vv,sv] w fun v w'=>v=.bool (bof (StateOk vars s))∧Ext w w':=by
  obtain ⟨A,ca,rfl⟩:=ha.form
  obtain ⟨B,cb,rfl⟩:=hb.form
  have hal:=hb.len
  refine AK Tryz.func38 rfl Tryz.ntmps38 rfl ?_
  by_cases hl:s.length=vars.length
  · ((repeat (first|refine At ?_|refine Ah rfl ?_|refine Ae rfl ?_))<;>(refine Aw rfl rfl ?_<;>(refine o_z ?_))<;>(repeat (first|refine At ?_|refine Ah rfl ?_|refine Ae rfl ?_))<;>(refine Ar rfl rfl ?_<;>refine AY rfl rfl ?_<;>refine Ar rfl rfl ?_<;>refine AY rfl rfl ?_<;>(first|refine Ii rfl rfl rfl ?_|refine Ij rfl rfl rfl ?_)<;>(refine o_z ?_))<;>(repeat (first|refine At ?_|refine Ah rfl ?_|refine Ae rfl ?_))<;>(refine Ar rfl rfl ?_<;>refine AY rfl rfl ?_<;>refine Ar rfl rfl ?_<;>(refine o_z ?_))<;>(repeat (first|refine At ?_|refine Ah rfl ?_|refine Ae rfl ?_)))
    refine EI (fun k:Nat=>[(0,.slice A vars.length ca),(1,.slice B s.length cb),(12,.int .i64 (s.length:Int)),(13,.int .i64 (k:Int))])
      (fun k w'=>w'=w∧k≤s.length∧∀ (i:Nat) x y,i < k→s[i]?=some x→vars[i]?=some y→0≤x∧x < y) (fun k=>s.length - k) 0 ⟨rfl,Nat.zero_le _,fun i _ _ h=>by omega⟩ ⟨rfl,rfl,rfl,rfl,trivial⟩ ?_
    rintro k _ ⟨rfl,hk,hh⟩
    by_cases hlt:k < s.length
    · obtain ⟨x,hx⟩:=AD hlt
      obtain ⟨y,hy⟩:=AD (l:=vars) (k:=k) (by omega)
      obtain ⟨b1,o1,ce,rfl,_,_,hd1,rfl,_⟩:=ha.elem hy
      obtain ⟨b2,o2,ce,rfl,_,_,hd2,rfl,_⟩:=hb.elem hx
      ((repeat (first|refine At ?_|refine Ah rfl ?_|refine Ae rfl ?_))<;>((first|refine CV rfl rfl rfl ?_|refine CW rfl rfl rfl ?_)<;>(refine o_z ?_))<;>(repeat (first|refine At ?_|refine Ah rfl ?_|refine Ae rfl ?_))<;>(refine Ar rfl rfl ?_<;>refine Aw rfl rfl ?_<;>(refine o_z ?_))<;>(repeat (first|refine At ?_|refine Ah rfl ?_|refine Ae rfl ?_)))
      refine Cw (·=_) [(0,true),(1,true),(2,true),(3,true),(4,true),(5,true),(6,true),(7,true),(8,true),(9,true),(10,true),(11,true),(12,true),(13,true),(14,true),(15,true)] (by kernel_rfl) rfl (by kernel_rfl) rfl ?_
      (refine AN rfl rfl rfl ?_<;>refine AN rfl rfl rfl ?_<;>refine HL rfl rfl rfl rfl ?_<;>refine CY rfl rfl rfl ?_<;>(first|refine Gw rfl rfl rfl rfl ?_|refine Gx rfl rfl rfl rfl ?_|refine Fz rfl rfl rfl rfl (fun _=>?_) fun _=>?_)<;>refine AN rfl rfl rfl ?_<;>(refine AA rfl ?_;(first|(refine Ay rfl rfl ?_;refine Cs rfl rfl ?_)|refine AC rfl rfl rfl rfl ?_))<;>(refine AA rfl ?_;(first|(refine Ay rfl rfl ?_;refine Cs rfl rfl ?_)|refine AC rfl rfl rfl rfl ?_))<;>(refine AA rfl ?_;(first|(refine Ay rfl rfl ?_;refine FP rfl rfl rfl ?_)|refine AC rfl rfl rfl rfl ?_))<;>(refine AA rfl ?_;(first|(refine Ay rfl rfl ?_;refine BK rfl rfl ?_)|refine AC rfl rfl rfl rfl ?_))<;>(refine AA rfl ?_;(first|(refine Ay rfl rfl ?_;refine Cs rfl rfl ?_)|refine AC rfl rfl rfl rfl ?_))<;>(refine AA rfl ?_;(first|(refine Ay rfl rfl ?_;refine Cs rfl rfl ?_)|refine AC rfl rfl rfl rfl ?_))<;>(refine AA rfl ?_;(first|(refine Ay rfl rfl ?_;refine FP rfl rfl rfl ?_)|refine AC rfl rfl rfl rfl ?_))<;>(refine AA rfl ?_;(first|(refine Ay rfl rfl ?_;refine BK rfl rfl ?_)|refine AC rfl rfl rfl rfl ?_))<;>(refine AA rfl ?_;(first|(refine Ay rfl rfl ?_;(first|refine Ce (fun _ _=>Bv rfl rfl) rfl (by omega) ?_|refine Cf (fun _ _=>Bv rfl rfl) rfl (by omega) ?_|refine Bu (fun _ _=>Bv rfl rfl) rfl (fun _=>?_) (fun _=>?_)))|refine AC rfl rfl rfl rfl ?_))<;>(first|refine Cm rfl rfl rfl rfl ?_|refine BX rfl rfl rfl rfl ?_)<;>(refine h_z ?_))<;>(repeat (first|refine At ?_|refine Ah rfl ?_|refine Ae rfl ?_))
      case refine_2.refine_2 =>
        ((first|refine FO rfl rfl ?_|refine FN rfl rfl rfl ?_)<;>refine Ar rfl rfl ?_<;>(refine o_z ?_))
        refine ⟨k + 1,⟨rfl,rfl,rfl,rfl,trivial⟩,⟨rfl,by omega,fun i x' y' hi h1 h2=>?_⟩,by omega⟩
        by_cases he:i=k
        · subst he
          rw [hx] at h1;rw [hy] at h2
          injection h1 with h1;injection h2 with h2
          omega
        · exact hh i x' y' (by omega) h1 h2
      all_goals
        ((repeat (first|refine At ?_|refine Ah rfl ?_|refine Ae rfl ?_))<;>(refine Aw rfl rfl ?_<;>(refine o_z ?_))<;>(repeat (first|refine At ?_|refine Ah rfl ?_|refine Ae rfl ?_)))
        refine ret1 rfl rfl ⟨?_,Below.refl _ _⟩
        rw [AM (fun h=>by have:=h.2 k x y hx hy;omega)]
    · ((repeat (first|refine At ?_|refine Ah rfl ?_|refine Ae rfl ?_))<;>((first|refine CV rfl rfl rfl ?_|refine CW rfl rfl rfl ?_)<;>(refine o_z ?_))<;>(repeat (first|refine At ?_|refine Ah rfl ?_|refine Ae rfl ?_))<;>(refine Aw rfl rfl ?_<;>(refine o_z ?_))<;>(repeat (first|refine At ?_|refine Ah rfl ?_|refine Ae rfl ?_)))
      refine ret1 rfl rfl ⟨?_,Below.refl _ _⟩
      rw [Bd ⟨hl,fun i x y h1 h2=>hh i x y (by have:=BG h1;omega) h1 h2⟩]
  · ((repeat (first|refine At ?_|refine Ah rfl ?_|refine Ae rfl ?_))<;>(refine Aw rfl rfl ?_<;>(refine o_z ?_))<;>(repeat (first|refine At ?_|refine Ah rfl ?_|refine Ae rfl ?_))<;>(refine Ar rfl rfl ?_<;>refine AY rfl rfl ?_<;>refine Ar rfl rfl ?_<;>refine AY rfl rfl ?_<;>(first|refine Ii rfl rfl rfl ?_|refine Ij rfl rfl rfl ?_)<;>(refine o_z ?_))<;>(repeat (first|refine At ?_|refine Ah rfl ?_|refine Ae rfl ?_))<;>(refine Aw rfl rfl ?_<;>(refine o_z ?_))<;>(repeat (first|refine At ?_|refine Ah rfl ?_|refine Ae rfl ?_)))
    refine ret1 rfl rfl ⟨?_,Below.refl _ _⟩
    rw [AM (fun h=>hl h.1)]
end
section
open Go Go.RowKit
attribute [local irreducible] ewp owp hwp hwq hws Ev Evg Fn retPost loud loudS Res1
theorem taskProper {w:World} {vv sv:Value} {vars s:List Int} (ha:V w vv vars) (hb:V w sv s) :
    Fn Tryz.prog 50 [vv,sv] w fun v w'=>v=.bool (bof (StateOk vars s))∧Ext w w':=by
  obtain ⟨A,ca,rfl⟩:=ha.form
  obtain ⟨B,cb,rfl⟩:=hb.form
  have hal:=hb.len
  refine AK Tryz.func50 rfl Tryz.ntmps50 rfl ?_
  by_cases hl:s.length=vars.length
  · ((repeat (first|refine At ?_|refine Ah rfl ?_|refine Ae rfl ?_))<;>(refine Aw rfl rfl ?_<;>(refine o_z ?_))<;>(repeat (first|refine At ?_|refine Ah rfl ?_|refine Ae rfl ?_))<;>(refine Ar rfl rfl ?_<;>refine AY rfl rfl ?_<;>refine Ar rfl rfl ?_<;>refine AY rfl rfl ?_<;>(first|refine Ii rfl rfl rfl ?_|refine Ij rfl rfl rfl ?_)<;>(refine o_z ?_))<;>(repeat (first|refine At ?_|refine Ah rfl ?_|refine Ae rfl ?_))<;>(refine Ar rfl rfl ?_<;>refine AY rfl rfl ?_<;>refine Ar rfl rfl ?_<;>(refine o_z ?_))<;>(repeat (first|refine At ?_|refine Ah rfl ?_|refine Ae rfl ?_)))
    refine EI (fun k:Nat=>[(0,.slice A vars.length ca),(12,.slice B s.length cb),(13,.int .i64 (s.length:Int)),(14,.int .i64 (k:Int))])
      (fun k w'=>w'=w∧k≤s.length∧∀ (i:Nat) x y,i < k→s[i]?=some x→vars[i]?=some y→0≤x∧x < y) (fun k=>s.length - k) 0 ⟨rfl,Nat.zero_le _,fun i _ _ h=>by omega⟩ ⟨rfl,rfl,rfl,rfl,trivial⟩ ?_
    rintro k _ ⟨rfl,hk,hh⟩
    by_cases hlt:k < s.length
    · obtain ⟨x,hx⟩:=AD hlt
      obtain ⟨y,hy⟩:=AD (l:=vars) (k:=k) (by omega)
      obtain ⟨b1,o1,ce,rfl,_,_,hd1,rfl,_⟩:=ha.elem hy
      obtain ⟨b2,o2,ce,rfl,_,_,hd2,rfl,_⟩:=hb.elem hx
      ((repeat (first|refine At ?_|refine Ah rfl ?_|refine Ae rfl ?_))<;>((first|refine CV rfl rfl rfl ?_|refine CW rfl rfl rfl ?_)<;>(refine o_z ?_))<;>(repeat (first|refine At ?_|refine Ah rfl ?_|refine Ae rfl ?_))<;>(refine Ar rfl rfl ?_<;>refine CQ rfl rfl rfl ?_<;>refine AG rfl rfl ?_<;>refine Aw rfl rfl ?_<;>refine Aw rfl rfl ?_<;>(refine o_z ?_))<;>(repeat (first|refine At ?_|refine Ah rfl ?_|refine Ae rfl ?_))<;>(refine Ar rfl rfl ?_<;>(first|refine CV rfl rfl rfl ?_|refine CW rfl rfl rfl ?_|refine DI rfl rfl rfl (fun _=>?_) fun _=>?_)<;>refine Ar rfl rfl ?_<;>(first|(refine Az rfl rfl ?_;refine Ar rfl rfl ?_)|refine Au rfl rfl rfl rfl ?_)<;>(first|(refine Az rfl rfl ?_;refine Ar rfl rfl ?_)|refine Au rfl rfl rfl rfl ?_)<;>(first|(refine Az rfl rfl ?_;refine Ar rfl rfl ?_)|refine Au rfl rfl rfl rfl ?_)<;>(first|(refine Az rfl rfl ?_;refine CQ rfl rfl rfl ?_)|refine Au rfl rfl rfl rfl ?_)<;>(first|(refine Az rfl rfl ?_;refine AG rfl rfl ?_)|refine Au rfl rfl rfl rfl ?_)<;>(first|(refine Az rfl rfl ?_;(first|refine Js rfl rfl rfl ?_|refine Jt rfl rfl rfl ?_|refine FU rfl rfl rfl (fun _=>?_) fun _=>?_))|refine Au rfl rfl rfl rfl ?_)<;>(first|refine Bq rfl rfl rfl ?_|refine Br rfl rfl rfl ?_)<;>(refine o_z ?_))<;>(repeat (first|refine At ?_|refine Ah rfl ?_|refine Ae rfl ?_)))
      case refine_2.refine_2 =>
        ((first|refine FO rfl rfl ?_|refine FN rfl rfl rfl ?_)<;>refine Ar rfl rfl ?_<;>(refine o_z ?_))
        refine ⟨k + 1,⟨rfl,rfl,rfl,rfl,trivial⟩,⟨rfl,by omega,fun i x' y' hi h1 h2=>?_⟩,by omega⟩
        by_cases he:i=k
        · subst he
          rw [hx] at h1;rw [hy] at h2
          injection h1 with h1;injection h2 with h2
          omega
        · exact hh i x' y' (by omega) h1 h2
      all_goals
        ((repeat (first|refine At ?_|refine Ah rfl ?_|refine Ae rfl ?_))<;>(refine Aw rfl rfl ?_<;>(refine o_z ?_))<;>(repeat (first|refine At ?_|refine Ah rfl ?_|refine Ae rfl ?_)))
        refine ret1 rfl rfl ⟨?_,Below.refl _ _⟩
        rw [AM (fun h=>by have:=h.2 k x y hx hy;omega)]
    · ((repeat (first|refine At ?_|refine Ah rfl ?_|refine Ae rfl ?_))<;>((first|refine CV rfl rfl rfl ?_|refine CW rfl rfl rfl ?_)<;>(refine o_z ?_))<;>(repeat (first|refine At ?_|refine Ah rfl ?_|refine Ae rfl ?_))<;>(refine Aw rfl rfl ?_<;>(refine o_z ?_))<;>(repeat (first|refine At ?_|refine Ah rfl ?_|refine Ae rfl ?_)))
      refine ret1 rfl rfl ⟨?_,Below.refl _ _⟩
      rw [Bd ⟨hl,fun i x y h1 h2=>hh i x y (by have:=BG h1;omega) h1 h2⟩]
  · ((repeat (first|refine At ?_|refine Ah rfl ?_|refine Ae rfl ?_))<;>(refine Aw rfl rfl ?_<;>(refine o_z ?_))<;>(repeat (first|refine At ?_|refine Ah rfl ?_|refine Ae rfl ?_))<;>(refine Ar rfl rfl ?_<;>refine AY rfl rfl ?_<;>refine Ar rfl rfl ?_<;>refine AY rfl rfl ?_<;>(first|refine Ii rfl rfl rfl ?_|refine Ij rfl rfl rfl ?_)<;>(refine o_z ?_))<;>(repeat (first|refine At ?_|refine Ah rfl ?_|refine Ae rfl ?_))<;>(refine Aw rfl rfl ?_<;>(refine o_z ?_))<;>(repeat (first|refine At ?_|refine Ah rfl ?_|refine Ae rfl ?_)))
    refine ret1 rfl rfl ⟨?_,Below.refl _ _⟩
    rw [AM (fun h=>hl h.1)]
def FactOk (vars:List Int) (x:Fct):Prop:=0≤x.var∧0≤x.val∧∃ y,vars[x.var.toNat]?=some y∧x.val < y
def FactsOk (vars:List Int) (f:List Fct):Prop:=(∀ (i:Nat) x,f[i]?=some x→FactOk vars x)∧∀ (i:Nat) x y,f[i]?=some x→f[i + 1]?=some y→x.var < y.var
def FactsTo (vars:List Int) (f:List Fct) (k:Nat):Prop:=(∀ (i:Nat) x,i < k→f[i]?=some x→FactOk vars x)∧∀ (i:Nat) x y,i + 1 < k→f[i]?=some x→f[i + 1]?=some y→x.var < y.var
theorem FactsTo.step {vars:List Int} {f:List Fct} {k:Nat} {x:Fct} (h:FactsTo vars f k) (hx:f[k]?=some x) (ho:FactOk vars x) (hp:∀ y,0 < k→f[k - 1]?=some y→y.var < x.var):FactsTo vars f (k + 1):=by
  refine ⟨fun i y hi hy=>?_,fun i y z hi hy hz=>?_⟩
  · by_cases he:i=k
    · subst he;rw [hx] at hy;injection hy with hy;exact hy ▸ ho
    · exact h.1 i y (by omega) hy
  · by_cases he:i + 1=k
    · rw [he,hx] at hz;injection hz with hz;subst hz
      exact hp y (by omega) (by rw [show k - 1=i from by omega];exact hy)
    · exact h.2 i y z (by omega) hy hz
theorem FactsTo.done {vars:List Int} {f:List Fct} {k:Nat} (h:FactsTo vars f k) (hk:f.length≤k):FactsOk vars f :=
  ⟨fun i x hx=>h.1 i x (by have:=BG hx;omega) hx,fun i x y hx hy=>h.2 i x y (by have:=BG hy;omega) hx hy⟩
theorem baseProper {w:World} {vv fv:Value} {vars:List Int} {f:List Fct} (hv:V w vv vars) (hf:V w fv f) :
    Fn Tryz.prog 39 [vv,fv] w fun v w'=>v=.bool (bof (FactsOk vars f))∧Ext w w':=by
  obtain ⟨A,ca,rfl⟩:=hv.form
  obtain ⟨B,cb,rfl⟩:=hf.form
  have hfl:=hf.len
  refine AK Tryz.func39 rfl Tryz.ntmps39 rfl ?_
  ((repeat (first|refine At ?_|refine Ah rfl ?_|refine Ae rfl ?_))<;>(refine Aw rfl rfl ?_<;>(refine o_z ?_))<;>(repeat (first|refine At ?_|refine Ah rfl ?_|refine Ae rfl ?_))<;>(refine Ar rfl rfl ?_<;>refine AY rfl rfl ?_<;>refine Ar rfl rfl ?_<;>(refine o_z ?_))<;>(repeat (first|refine At ?_|refine Ah rfl ?_|refine Ae rfl ?_)))
  refine EI (fun k:Nat=>[(0,.slice A vars.length ca),(1,.slice B f.length cb),(7,.slice B f.length cb),(8,.int .i64 (f.length:Int)),(9,.int .i64 (k:Int))])
    (fun k w'=>Ext w w'∧k≤f.length∧FactsTo vars f k) (fun k=>f.length - k) 0 ⟨Below.refl _ _,Nat.zero_le _,⟨fun i _ h=>by omega,fun i _ _ h=>by omega⟩⟩ ⟨rfl,rfl,rfl,rfl,rfl,trivial⟩ ?_
  rintro k w1 ⟨hE,hk,hh⟩
  by_cases hlt:k < f.length
  · obtain ⟨x,hx⟩:=AD hlt
    obtain ⟨b,o,ce,rfl,hb,_,hd1,rfl,hr1,hr2⟩:=(hf.ext hE).elem hx
    ((repeat (first|refine At ?_|refine Ah rfl ?_|refine Ae rfl ?_))<;>((first|refine CV rfl rfl rfl ?_|refine CW rfl rfl rfl ?_)<;>(refine o_z ?_))<;>(repeat (first|refine At ?_|refine Ah rfl ?_|refine Ae rfl ?_))<;>(refine Ar rfl rfl ?_<;>refine CQ rfl rfl rfl ?_<;>refine Bi rfl rfl ?_)<;>(repeat (first|refine At ?_|refine Ah rfl ?_|refine Ae rfl ?_)))
    refine DH rfl fun w2 hN=>?_
    (refine Aw rfl rfl ?_)
    refine Cc rfl rfl hN.blk rfl (Nat.le_refl _) (by simp [Value.cells,Value.oneCell']) fun w3 hU=>?_
    replace hN:=hN.upd hU
    have hb1:=hN.blk
    have hE3:Ext w w3:=hE.trans' hN.ext
    ((refine o_z ?_))
    repeat (first|refine At ?_|refine Ah rfl ?_|refine Ae rfl ?_)
    refine Cw (·=w3) [(0,true),(1,true),(2,true),(3,true),(4,true),(5,true),(6,true),(7,true),(8,true),(9,true),(10,true),(11,true),(12,true),(13,true),(14,true),(15,true),(16,true),(17,true),(18,true),(19,true),(20,true),(21,true),(22,true),(23,true),(24,true),(25,true),(26,true),(27,true),(28,true),(29,true),(30,true),(31,true),(32,true),(33,true),(34,true),(35,true),(36,true),(37,true),(38,true),(39,true)] (by kernel_rfl) rfl (by kernel_rfl) rfl ?_
    by_cases hvr:0≤x.var∧x.var < vars.length
    · obtain ⟨j,hj1⟩:=Int.eq_ofNat_of_zero_le hvr.1
      obtain ⟨y,hy⟩:=AD (l:=vars) (k:=j) (by omega)
      obtain ⟨b2,o2,ce2,rfl,_,_,hd2,rfl,_⟩:=(hv.ext hE3).elem hy
      have hjy:vars[x.var.toNat]?=some y:=by rw [hj1];simpa using hy
      have hok:0≤x.val→x.val < y→FactOk vars x:=fun h1 h2=>⟨hvr.1,h1,y,hjy,h2⟩
      have hno:¬ (0≤x.val∧x.val < y)→¬ FactsOk vars f:=fun h1 h2=>h1 (by
        obtain ⟨_,h3,y',h4,h5⟩:=h2.1 k x hx
        rw [hjy] at h4;injection h4 with h4;subst h4;exact ⟨h3,h5⟩)
      by_cases h0:0 < k
      · obtain ⟨z,hz⟩:=AD (l:=f) (k:=k - 1) (by omega)
        obtain ⟨b3,o3,ce3,he3,_,_,hd3,rfl,_⟩:=(hf.ext hE3).elem hz
        injection he3 with he3
        injection he3 with he3 he4
        subst he3;subst he4
        have hj2:(k:Int) - 1=((k - 1:Nat):Int):=by omega
        have hno2:¬ z.var < x.var→¬ FactsOk vars f:=fun h1 h2=>h1 (h2.2 (k - 1) z x hz (by rw [show k - 1 + 1=k from by omega];exact hx))
        (refine Be rfl rfl rfl ?_<;>refine CY rfl rfl rfl ?_<;>(first|refine Gw rfl rfl rfl rfl ?_|refine Gx rfl rfl rfl rfl ?_|refine Fz rfl rfl rfl rfl (fun _=>?_) fun _=>?_)<;>refine AN rfl rfl rfl ?_<;>(refine AA rfl ?_;(first|(refine Ay rfl rfl ?_;refine BO rfl rfl ?_)|refine AC rfl rfl rfl rfl ?_))<;>(refine AA rfl ?_;(first|(refine Ay rfl rfl ?_;refine BK rfl rfl ?_)|refine AC rfl rfl rfl rfl ?_))<;>(refine AA rfl ?_;(first|(refine Ay rfl rfl ?_;refine Cs rfl rfl ?_)|refine AC rfl rfl rfl rfl ?_))<;>(refine AA rfl ?_;(first|(refine Ay rfl rfl ?_;refine GH rfl rfl ?_)|refine AC rfl rfl rfl rfl ?_))<;>(refine AA rfl ?_;(first|(refine Ay rfl rfl ?_;(first|refine Ce (fun _ _=>Bv rfl rfl) rfl (by omega) ?_|refine Cf (fun _ _=>Bv rfl rfl) rfl (by omega) ?_|refine Bu (fun _ _=>Bv rfl rfl) rfl (fun _=>?_) (fun _=>?_)))|refine AC rfl rfl rfl rfl ?_))<;>(first|refine Cm rfl rfl rfl rfl ?_|refine BX rfl rfl rfl rfl ?_)<;>refine AN rfl rfl rfl ?_<;>(refine AA rfl ?_;(first|(refine Ay rfl rfl ?_;refine BO rfl rfl ?_)|refine AC rfl rfl rfl rfl ?_))<;>(refine AA rfl ?_;(first|(refine Ay rfl rfl ?_;refine BK rfl rfl ?_)|refine AC rfl rfl rfl rfl ?_))<;>(refine AA rfl ?_;(first|(refine Ay rfl rfl ?_;(first|refine Ce (fun _ _=>Cy rfl rfl) rfl (by omega) ?_|refine Cf (fun _ _=>Cy rfl rfl) rfl (by omega) ?_|refine Bu (fun _ _=>Cy rfl rfl) rfl (fun _=>?_) (fun _=>?_)))|refine AC rfl rfl rfl rfl ?_))<;>(first|refine Cm rfl rfl rfl rfl ?_|refine BX rfl rfl rfl rfl ?_)<;>refine AN rfl rfl rfl ?_<;>(refine AA rfl ?_;(first|(refine Ay rfl rfl ?_;refine BO rfl rfl ?_)|refine AC rfl rfl rfl rfl ?_))<;>(refine AA rfl ?_;(first|(refine Ay rfl rfl ?_;refine BK rfl rfl ?_)|refine AC rfl rfl rfl rfl ?_))<;>(refine AA rfl ?_;(first|(refine Ay rfl rfl ?_;refine Cs rfl rfl ?_)|refine AC rfl rfl rfl rfl ?_))<;>(refine AA rfl ?_;(first|(refine Ay rfl rfl ?_;refine BO rfl rfl ?_)|refine AC rfl rfl rfl rfl ?_))<;>(refine AA rfl ?_;(first|(refine Ay rfl rfl ?_;refine BK rfl rfl ?_)|refine AC rfl rfl rfl rfl ?_))<;>(refine AA rfl ?_;(first|(refine Ay rfl rfl ?_;refine FP rfl rfl rfl ?_)|refine AC rfl rfl rfl rfl ?_))<;>(refine AA rfl ?_;(first|(refine Ay rfl rfl ?_;refine BK rfl rfl ?_)|refine AC rfl rfl rfl rfl ?_))<;>(refine AA rfl ?_;(first|(refine Ay rfl rfl ?_;(first|refine Ce (fun _ _=>Bv rfl rfl) rfl (by omega) ?_|refine Cf (fun _ _=>Bv rfl rfl) rfl (by omega) ?_|refine Bu (fun _ _=>Bv rfl rfl) rfl (fun _=>?_) (fun _=>?_)))|refine AC rfl rfl rfl rfl ?_))<;>(first|refine Cm rfl rfl rfl rfl ?_|refine BX rfl rfl rfl rfl ?_)<;>refine AN rfl rfl rfl ?_<;>(refine AA rfl ?_;(first|(refine Ay rfl rfl ?_;refine Cs rfl rfl ?_)|refine AC rfl rfl rfl rfl ?_))<;>(refine AA rfl ?_;(first|(refine Ay rfl rfl ?_;(first|refine Ce (fun _ _=>En rfl rfl) rfl (by omega) ?_|refine Cf (fun _ _=>En rfl rfl) rfl (by omega) ?_|refine Bu (fun _ _=>En rfl rfl) rfl (fun _=>?_) (fun _=>?_)))|refine AC rfl rfl rfl rfl ?_))<;>(refine AA rfl ?_;(first|(refine Ay rfl rfl ?_;refine Cs rfl rfl ?_)|refine AC rfl rfl rfl rfl ?_))<;>(refine AA rfl ?_;(first|(refine Ay rfl rfl ?_;refine Cs rfl rfl ?_)|refine AC rfl rfl rfl rfl ?_))<;>(refine AA rfl ?_;(first|(refine Ay rfl rfl ?_;refine Cs rfl rfl ?_)|refine AC rfl rfl rfl rfl ?_))<;>(refine AA rfl ?_;(first|(refine Ay rfl rfl ?_;refine NW rfl rfl rfl ?_)|refine AC rfl rfl rfl rfl ?_))<;>(refine AA rfl ?_;(first|(refine Ay rfl rfl ?_;refine FP rfl rfl rfl ?_)|refine AC rfl rfl rfl rfl ?_))<;>(refine AA rfl ?_;(first|(refine Ay rfl rfl ?_;refine BO rfl rfl ?_)|refine AC rfl rfl rfl rfl ?_))<;>(refine AA rfl ?_;(first|(refine Ay rfl rfl ?_;refine BK rfl rfl ?_)|refine AC rfl rfl rfl rfl ?_))<;>(refine AA rfl ?_;(first|(refine Ay rfl rfl ?_;refine BO rfl rfl ?_)|refine AC rfl rfl rfl rfl ?_))<;>(refine AA rfl ?_;(first|(refine Ay rfl rfl ?_;refine BK rfl rfl ?_)|refine AC rfl rfl rfl rfl ?_))<;>(refine AA rfl ?_;(first|(refine Ay rfl rfl ?_;(first|refine Ce (fun _ _=>Bv rfl rfl) rfl (by omega) ?_|refine Cf (fun _ _=>Bv rfl rfl) rfl (by omega) ?_|refine Bu (fun _ _=>Bv rfl rfl) rfl (fun _=>?_) (fun _=>?_)))|refine AC rfl rfl rfl rfl ?_))<;>(refine AA rfl ?_;(first|(refine Ay rfl rfl ?_;(first|refine NT rfl rfl rfl ?_|refine NU rfl rfl rfl ?_))|refine AC rfl rfl rfl rfl ?_))<;>(first|refine Cm rfl rfl rfl rfl ?_|refine BX rfl rfl rfl rfl ?_)<;>(refine h_z ?_))<;>(repeat (first|refine At ?_|refine Ah rfl ?_|refine Ae rfl ?_))
        all_goals first
          | (((first|refine FO rfl rfl ?_|refine FN rfl rfl rfl ?_)<;>refine Ar rfl rfl ?_<;>(refine o_z ?_))
             exact ⟨k + 1,⟨rfl,rfl,rfl,rfl,rfl,trivial⟩,⟨hE3,by omega,hh.step hx (hok (by omega) (by omega)) (fun y' _ hy'=>by rw [hz] at hy';injection hy' with hy';subst hy';omega)⟩,by omega⟩)
          | (((repeat (first|refine At ?_|refine Ah rfl ?_|refine Ae rfl ?_))<;>(refine Aw rfl rfl ?_<;>(refine o_z ?_))<;>(repeat (first|refine At ?_|refine Ah rfl ?_|refine Ae rfl ?_)))
             refine ret1 rfl rfl ⟨?_,hE3⟩
             first|rw [AM (hno (by omega))]|rw [AM (hno2 (by omega))])
      · (refine Be rfl rfl rfl ?_<;>refine CY rfl rfl rfl ?_<;>(first|refine Gw rfl rfl rfl rfl ?_|refine Gx rfl rfl rfl rfl ?_|refine Fz rfl rfl rfl rfl (fun _=>?_) fun _=>?_)<;>refine AN rfl rfl rfl ?_<;>(refine AA rfl ?_;(first|(refine Ay rfl rfl ?_;refine BO rfl rfl ?_)|refine AC rfl rfl rfl rfl ?_))<;>(refine AA rfl ?_;(first|(refine Ay rfl rfl ?_;refine BK rfl rfl ?_)|refine AC rfl rfl rfl rfl ?_))<;>(refine AA rfl ?_;(first|(refine Ay rfl rfl ?_;refine Cs rfl rfl ?_)|refine AC rfl rfl rfl rfl ?_))<;>(refine AA rfl ?_;(first|(refine Ay rfl rfl ?_;refine GH rfl rfl ?_)|refine AC rfl rfl rfl rfl ?_))<;>(refine AA rfl ?_;(first|(refine Ay rfl rfl ?_;(first|refine Ce (fun _ _=>Bv rfl rfl) rfl (by omega) ?_|refine Cf (fun _ _=>Bv rfl rfl) rfl (by omega) ?_|refine Bu (fun _ _=>Bv rfl rfl) rfl (fun _=>?_) (fun _=>?_)))|refine AC rfl rfl rfl rfl ?_))<;>(first|refine Cm rfl rfl rfl rfl ?_|refine BX rfl rfl rfl rfl ?_)<;>refine AN rfl rfl rfl ?_<;>(refine AA rfl ?_;(first|(refine Ay rfl rfl ?_;refine BO rfl rfl ?_)|refine AC rfl rfl rfl rfl ?_))<;>(refine AA rfl ?_;(first|(refine Ay rfl rfl ?_;refine BK rfl rfl ?_)|refine AC rfl rfl rfl rfl ?_))<;>(refine AA rfl ?_;(first|(refine Ay rfl rfl ?_;(first|refine Ce (fun _ _=>Cy rfl rfl) rfl (by omega) ?_|refine Cf (fun _ _=>Cy rfl rfl) rfl (by omega) ?_|refine Bu (fun _ _=>Cy rfl rfl) rfl (fun _=>?_) (fun _=>?_)))|refine AC rfl rfl rfl rfl ?_))<;>(first|refine Cm rfl rfl rfl rfl ?_|refine BX rfl rfl rfl rfl ?_)<;>refine AN rfl rfl rfl ?_<;>(refine AA rfl ?_;(first|(refine Ay rfl rfl ?_;refine BO rfl rfl ?_)|refine AC rfl rfl rfl rfl ?_))<;>(refine AA rfl ?_;(first|(refine Ay rfl rfl ?_;refine BK rfl rfl ?_)|refine AC rfl rfl rfl rfl ?_))<;>(refine AA rfl ?_;(first|(refine Ay rfl rfl ?_;refine Cs rfl rfl ?_)|refine AC rfl rfl rfl rfl ?_))<;>(refine AA rfl ?_;(first|(refine Ay rfl rfl ?_;refine BO rfl rfl ?_)|refine AC rfl rfl rfl rfl ?_))<;>(refine AA rfl ?_;(first|(refine Ay rfl rfl ?_;refine BK rfl rfl ?_)|refine AC rfl rfl rfl rfl ?_))<;>(refine AA rfl ?_;(first|(refine Ay rfl rfl ?_;refine FP rfl rfl rfl ?_)|refine AC rfl rfl rfl rfl ?_))<;>(refine AA rfl ?_;(first|(refine Ay rfl rfl ?_;refine BK rfl rfl ?_)|refine AC rfl rfl rfl rfl ?_))<;>(refine AA rfl ?_;(first|(refine Ay rfl rfl ?_;(first|refine Ce (fun _ _=>Bv rfl rfl) rfl (by omega) ?_|refine Cf (fun _ _=>Bv rfl rfl) rfl (by omega) ?_|refine Bu (fun _ _=>Bv rfl rfl) rfl (fun _=>?_) (fun _=>?_)))|refine AC rfl rfl rfl rfl ?_))<;>(first|refine Cm rfl rfl rfl rfl ?_|refine BX rfl rfl rfl rfl ?_)<;>refine AN rfl rfl rfl ?_<;>(refine AA rfl ?_;(first|(refine Ay rfl rfl ?_;refine Cs rfl rfl ?_)|refine AC rfl rfl rfl rfl ?_))<;>(refine AA rfl ?_;(first|(refine Ay rfl rfl ?_;(first|refine Ce (fun _ _=>En rfl rfl) rfl (by omega) ?_|refine Cf (fun _ _=>En rfl rfl) rfl (by omega) ?_|refine Bu (fun _ _=>En rfl rfl) rfl (fun _=>?_) (fun _=>?_)))|refine AC rfl rfl rfl rfl ?_))<;>(refine AA rfl ?_;(first|(refine Ay rfl rfl ?_;refine Cs rfl rfl ?_)|refine AC rfl rfl rfl rfl ?_))<;>(refine AA rfl ?_;(first|(refine Ay rfl rfl ?_;refine Cs rfl rfl ?_)|refine AC rfl rfl rfl rfl ?_))<;>(refine AA rfl ?_;(first|(refine Ay rfl rfl ?_;refine Cs rfl rfl ?_)|refine AC rfl rfl rfl rfl ?_))<;>(refine AA rfl ?_;(first|(refine Ay rfl rfl ?_;refine NW rfl rfl rfl ?_)|refine AC rfl rfl rfl rfl ?_))<;>(refine AA rfl ?_;(first|(refine Ay rfl rfl ?_;refine FP rfl rfl rfl ?_)|refine AC rfl rfl rfl rfl ?_))<;>(refine AA rfl ?_;(first|(refine Ay rfl rfl ?_;refine BO rfl rfl ?_)|refine AC rfl rfl rfl rfl ?_))<;>(refine AA rfl ?_;(first|(refine Ay rfl rfl ?_;refine BK rfl rfl ?_)|refine AC rfl rfl rfl rfl ?_))<;>(refine AA rfl ?_;(first|(refine Ay rfl rfl ?_;refine BO rfl rfl ?_)|refine AC rfl rfl rfl rfl ?_))<;>(refine AA rfl ?_;(first|(refine Ay rfl rfl ?_;refine BK rfl rfl ?_)|refine AC rfl rfl rfl rfl ?_))<;>(refine AA rfl ?_;(first|(refine Ay rfl rfl ?_;(first|refine Ce (fun _ _=>Bv rfl rfl) rfl (by omega) ?_|refine Cf (fun _ _=>Bv rfl rfl) rfl (by omega) ?_|refine Bu (fun _ _=>Bv rfl rfl) rfl (fun _=>?_) (fun _=>?_)))|refine AC rfl rfl rfl rfl ?_))<;>(refine AA rfl ?_;(first|(refine Ay rfl rfl ?_;(first|refine NT rfl rfl rfl ?_|refine NU rfl rfl rfl ?_))|refine AC rfl rfl rfl rfl ?_))<;>(first|refine Cm rfl rfl rfl rfl ?_|refine BX rfl rfl rfl rfl ?_)<;>(refine h_z ?_))<;>(repeat (first|refine At ?_|refine Ah rfl ?_|refine Ae rfl ?_))
        all_goals first
          | (((first|refine FO rfl rfl ?_|refine FN rfl rfl rfl ?_)<;>refine Ar rfl rfl ?_<;>(refine o_z ?_))
             exact ⟨k + 1,⟨rfl,rfl,rfl,rfl,rfl,trivial⟩,⟨hE3,by omega,hh.step hx (hok (by omega) (by omega)) (fun y' _ hy'=>by omega)⟩,by omega⟩)
          | (((repeat (first|refine At ?_|refine Ah rfl ?_|refine Ae rfl ?_))<;>(refine Aw rfl rfl ?_<;>(refine o_z ?_))<;>(repeat (first|refine At ?_|refine Ah rfl ?_|refine Ae rfl ?_)))
             refine ret1 rfl rfl ⟨?_,hE3⟩
             rw [AM (hno (by omega))])
    · have hno:¬ FactsOk vars f:=fun h=>by
        obtain ⟨h1,h2,y,h3,_⟩:=h.1 k x hx
        have:=BG h3
        omega
      (refine Be rfl rfl rfl ?_<;>refine CY rfl rfl rfl ?_<;>(first|refine Gw rfl rfl rfl rfl ?_|refine Gx rfl rfl rfl rfl ?_|refine Fz rfl rfl rfl rfl (fun _=>?_) fun _=>?_)<;>refine AN rfl rfl rfl ?_<;>(refine AA rfl ?_;(first|(refine Ay rfl rfl ?_;refine BO rfl rfl ?_)|refine AC rfl rfl rfl rfl ?_))<;>(refine AA rfl ?_;(first|(refine Ay rfl rfl ?_;refine BK rfl rfl ?_)|refine AC rfl rfl rfl rfl ?_))<;>(refine AA rfl ?_;(first|(refine Ay rfl rfl ?_;refine Cs rfl rfl ?_)|refine AC rfl rfl rfl rfl ?_))<;>(refine AA rfl ?_;(first|(refine Ay rfl rfl ?_;refine GH rfl rfl ?_)|refine AC rfl rfl rfl rfl ?_))<;>(refine AA rfl ?_;(first|(refine Ay rfl rfl ?_;(first|refine Ce (fun _ _=>Bv rfl rfl) rfl (by omega) ?_|refine Cf (fun _ _=>Bv rfl rfl) rfl (by omega) ?_|refine Bu (fun _ _=>Bv rfl rfl) rfl (fun _=>?_) (fun _=>?_)))|refine AC rfl rfl rfl rfl ?_))<;>(first|refine Cm rfl rfl rfl rfl ?_|refine BX rfl rfl rfl rfl ?_)<;>refine AN rfl rfl rfl ?_<;>(refine AA rfl ?_;(first|(refine Ay rfl rfl ?_;refine BO rfl rfl ?_)|refine AC rfl rfl rfl rfl ?_))<;>(refine AA rfl ?_;(first|(refine Ay rfl rfl ?_;refine BK rfl rfl ?_)|refine AC rfl rfl rfl rfl ?_))<;>(refine AA rfl ?_;(first|(refine Ay rfl rfl ?_;(first|refine Ce (fun _ _=>Cy rfl rfl) rfl (by omega) ?_|refine Cf (fun _ _=>Cy rfl rfl) rfl (by omega) ?_|refine Bu (fun _ _=>Cy rfl rfl) rfl (fun _=>?_) (fun _=>?_)))|refine AC rfl rfl rfl rfl ?_))<;>(first|refine Cm rfl rfl rfl rfl ?_|refine BX rfl rfl rfl rfl ?_)<;>refine AN rfl rfl rfl ?_<;>(refine AA rfl ?_;(first|(refine Ay rfl rfl ?_;refine BO rfl rfl ?_)|refine AC rfl rfl rfl rfl ?_))<;>(refine AA rfl ?_;(first|(refine Ay rfl rfl ?_;refine BK rfl rfl ?_)|refine AC rfl rfl rfl rfl ?_))<;>(refine AA rfl ?_;(first|(refine Ay rfl rfl ?_;refine Cs rfl rfl ?_)|refine AC rfl rfl rfl rfl ?_))<;>(refine AA rfl ?_;(first|(refine Ay rfl rfl ?_;refine BO rfl rfl ?_)|refine AC rfl rfl rfl rfl ?_))<;>(refine AA rfl ?_;(first|(refine Ay rfl rfl ?_;refine BK rfl rfl ?_)|refine AC rfl rfl rfl rfl ?_))<;>(refine AA rfl ?_;(first|(refine Ay rfl rfl ?_;refine FP rfl rfl rfl ?_)|refine AC rfl rfl rfl rfl ?_))<;>(refine AA rfl ?_;(first|(refine Ay rfl rfl ?_;refine BK rfl rfl ?_)|refine AC rfl rfl rfl rfl ?_))<;>(refine AA rfl ?_;(first|(refine Ay rfl rfl ?_;(first|refine Ce (fun _ _=>Bv rfl rfl) rfl (by omega) ?_|refine Cf (fun _ _=>Bv rfl rfl) rfl (by omega) ?_|refine Bu (fun _ _=>Bv rfl rfl) rfl (fun _=>?_) (fun _=>?_)))|refine AC rfl rfl rfl rfl ?_))<;>(first|refine Cm rfl rfl rfl rfl ?_|refine BX rfl rfl rfl rfl ?_)<;>refine AN rfl rfl rfl ?_<;>(refine AA rfl ?_;(first|(refine Ay rfl rfl ?_;refine Cs rfl rfl ?_)|refine AC rfl rfl rfl rfl ?_))<;>(refine AA rfl ?_;(first|(refine Ay rfl rfl ?_;(first|refine Ce (fun _ _=>En rfl rfl) rfl (by omega) ?_|refine Cf (fun _ _=>En rfl rfl) rfl (by omega) ?_|refine Bu (fun _ _=>En rfl rfl) rfl (fun _=>?_) (fun _=>?_)))|refine AC rfl rfl rfl rfl ?_))<;>(refine AA rfl ?_;(first|(refine Ay rfl rfl ?_;refine Cs rfl rfl ?_)|refine AC rfl rfl rfl rfl ?_))<;>(refine AA rfl ?_;(first|(refine Ay rfl rfl ?_;refine Cs rfl rfl ?_)|refine AC rfl rfl rfl rfl ?_))<;>(refine AA rfl ?_;(first|(refine Ay rfl rfl ?_;refine Cs rfl rfl ?_)|refine AC rfl rfl rfl rfl ?_))<;>(refine AA rfl ?_;(first|(refine Ay rfl rfl ?_;refine NW rfl rfl rfl ?_)|refine AC rfl rfl rfl rfl ?_))<;>(refine AA rfl ?_;(first|(refine Ay rfl rfl ?_;refine FP rfl rfl rfl ?_)|refine AC rfl rfl rfl rfl ?_))<;>(refine AA rfl ?_;(first|(refine Ay rfl rfl ?_;refine BO rfl rfl ?_)|refine AC rfl rfl rfl rfl ?_))<;>(refine AA rfl ?_;(first|(refine Ay rfl rfl ?_;refine BK rfl rfl ?_)|refine AC rfl rfl rfl rfl ?_))<;>(refine AA rfl ?_;(first|(refine Ay rfl rfl ?_;refine BO rfl rfl ?_)|refine AC rfl rfl rfl rfl ?_))<;>(refine AA rfl ?_;(first|(refine Ay rfl rfl ?_;refine BK rfl rfl ?_)|refine AC rfl rfl rfl rfl ?_))<;>(refine AA rfl ?_;(first|(refine Ay rfl rfl ?_;(first|refine Ce (fun _ _=>Bv rfl rfl) rfl (by omega) ?_|refine Cf (fun _ _=>Bv rfl rfl) rfl (by omega) ?_|refine Bu (fun _ _=>Bv rfl rfl) rfl (fun _=>?_) (fun _=>?_)))|refine AC rfl rfl rfl rfl ?_))<;>(refine AA rfl ?_;(first|(refine Ay rfl rfl ?_;(first|refine NT rfl rfl rfl ?_|refine NU rfl rfl rfl ?_))|refine AC rfl rfl rfl rfl ?_))<;>(first|refine Cm rfl rfl rfl rfl ?_|refine BX rfl rfl rfl rfl ?_)<;>(refine h_z ?_))<;>(repeat (first|refine At ?_|refine Ah rfl ?_|refine Ae rfl ?_))
      all_goals
        ((repeat (first|refine At ?_|refine Ah rfl ?_|refine Ae rfl ?_))<;>(refine Aw rfl rfl ?_<;>(refine o_z ?_))<;>(repeat (first|refine At ?_|refine Ah rfl ?_|refine Ae rfl ?_)))
        refine ret1 rfl rfl ⟨?_,hE3⟩
        rw [AM hno]
  · ((repeat (first|refine At ?_|refine Ah rfl ?_|refine Ae rfl ?_))<;>((first|refine CV rfl rfl rfl ?_|refine CW rfl rfl rfl ?_)<;>(refine o_z ?_))<;>(repeat (first|refine At ?_|refine Ah rfl ?_|refine Ae rfl ?_))<;>(refine Aw rfl rfl ?_<;>(refine o_z ?_))<;>(repeat (first|refine At ?_|refine Ah rfl ?_|refine Ae rfl ?_)))
    refine ret1 rfl rfl ⟨?_,hE⟩
    rw [Bd (hh.done (by omega))]
theorem taskFacts {w:World} {vv fv:Value} {vars:List Int} {f:List Fct} (hv:V w vv vars) (hf:V w fv f) :
    Fn Tryz.prog 52 [vv,fv] w fun v w'=>v=.bool (bof (FactsOk vars f))∧Ext w w':=by
  obtain ⟨A,ca,rfl⟩:=hv.form
  obtain ⟨B,cb,rfl⟩:=hf.form
  have hfl:=hf.len
  refine AK Tryz.func52 rfl Tryz.ntmps52 rfl ?_
  ((repeat (first|refine At ?_|refine Ah rfl ?_|refine Ae rfl ?_))<;>(refine Aw rfl rfl ?_<;>(refine o_z ?_))<;>(repeat (first|refine At ?_|refine Ah rfl ?_|refine Ae rfl ?_))<;>(refine Aw rfl rfl ?_<;>(refine o_z ?_))<;>(repeat (first|refine At ?_|refine Ah rfl ?_|refine Ae rfl ?_))<;>(refine Ar rfl rfl ?_<;>refine AY rfl rfl ?_<;>refine Ar rfl rfl ?_<;>(refine o_z ?_))<;>(repeat (first|refine At ?_|refine Ah rfl ?_|refine Ae rfl ?_)))
  refine EI (X:=Nat×Int) (fun k=>[(0,.slice A vars.length ca),(5,.int .i64 k.2),(8,.slice B f.length cb),(9,.int .i64 (f.length:Int)),(10,.int .i64 (k.1:Int))])
    (fun k w'=>Ext w w'∧k.1≤f.length∧FactsTo vars f k.1∧(k.1=0→k.2=-1)∧∀ y,0 < k.1→f[k.1 - 1]?=some y→y.var=k.2) (fun k=>f.length - k.1) (0,-1) ⟨Below.refl _ _,Nat.zero_le _,⟨fun i _ h=>by simp at h,fun i _ _ h=>by simp at h⟩,fun _=>rfl,fun y h=>by simp at h⟩ ⟨rfl,rfl,rfl,rfl,rfl,trivial⟩ ?_
  rintro ⟨k,m⟩ w1 ⟨hE,hk,hh,hm0,hm⟩
  dsimp only at hk hh hm0 hm ⊢
  by_cases hlt:k < f.length
  · obtain ⟨x,hx⟩:=AD hlt
    obtain ⟨b,o,ce,rfl,hb,_,hd1,rfl,hr1,hr2⟩:=(hf.ext hE).elem hx
    ((repeat (first|refine At ?_|refine Ah rfl ?_|refine Ae rfl ?_))<;>((first|refine CV rfl rfl rfl ?_|refine CW rfl rfl rfl ?_)<;>(refine o_z ?_))<;>(repeat (first|refine At ?_|refine Ah rfl ?_|refine Ae rfl ?_))<;>(refine CQ rfl rfl rfl ?_<;>refine Bi rfl rfl ?_)<;>(repeat (first|refine At ?_|refine Ah rfl ?_|refine Ae rfl ?_)))
    refine Cg rfl rfl rfl (by simp [Value.cells,Value.oneCell']) fun w3 hN=>?_
    have hb1:=hN.blk
    have hE3:Ext w w3:=hE.trans' hN.ext
    ((refine o_z ?_))
    repeat (first|refine At ?_|refine Ah rfl ?_|refine Ae rfl ?_)
    refine Cw (·=w3) [(0,true),(1,true),(2,true),(3,true),(4,true),(5,true),(6,true),(7,true),(8,true),(9,true),(10,true),(11,true),(12,true),(13,true),(14,true),(15,true),(16,true),(17,true),(18,true),(19,true),(20,true),(21,true),(22,true),(23,true),(24,true),(25,true)] (by kernel_rfl) rfl (by kernel_rfl) rfl ?_
    have hm1:0 < k→∃ z,f[k - 1]?=some z∧z.var=m:=fun h0=>by
      obtain ⟨z,hz⟩:=AD (l:=f) (k:=k - 1) (by omega)
      exact ⟨z,hz,hm z h0 hz⟩
    have hge:0 < k→0≤m:=fun h0=>by
      obtain ⟨z,hz,he⟩:=hm1 h0
      have:=(hh.1 (k - 1) z (by omega) hz).1
      omega
    have hge':-1≤m:=by
      by_cases h0:0 < k
      · have:=hge h0;omega
      · have:=hm0 (by omega);omega
    have hno0:¬ m < x.var→¬ FactsOk vars f:=fun h1 h2=>by
      by_cases h0:0 < k
      · obtain ⟨z,hz,he⟩:=hm1 h0
        have:=h2.2 (k - 1) z x hz (by rw [show k - 1 + 1=k from by omega];exact hx)
        omega
      · have:=hm0 (by omega)
        have:=(h2.1 k x hx).1
        omega
    by_cases hvr:0≤x.var∧x.var < vars.length
    · obtain ⟨j,hj1⟩:=Int.eq_ofNat_of_zero_le hvr.1
      obtain ⟨y,hy⟩:=AD (l:=vars) (k:=j) (by omega)
      obtain ⟨b2,o2,ce2,rfl,_,_,hd2,rfl,_⟩:=(hv.ext hE3).elem hy
      have hjy:vars[x.var.toNat]?=some y:=by rw [hj1];simpa using hy
      have hok:0≤x.val→x.val < y→FactOk vars x:=fun h1 h2=>⟨hvr.1,h1,y,hjy,h2⟩
      have hno:¬ (0≤x.val∧x.val < y)→¬ FactsOk vars f:=fun h1 h2=>h1 (by
        obtain ⟨_,h3,y',h4,h5⟩:=h2.1 k x hx
        rw [hjy] at h4;injection h4 with h4;subst h4;exact ⟨h3,h5⟩)
      (refine Be rfl rfl rfl ?_<;>refine CY rfl rfl rfl ?_<;>refine AN rfl rfl rfl ?_<;>(first|refine OP rfl rfl rfl rfl ?_|refine OQ rfl rfl rfl rfl ?_|refine OS rfl rfl rfl rfl (fun _=>?_) fun _=>?_)<;>refine AN rfl rfl rfl ?_<;>(refine AA rfl ?_;(first|(refine Ay rfl rfl ?_;refine BO rfl rfl ?_)|refine AC rfl rfl rfl rfl ?_))<;>(refine AA rfl ?_;(first|(refine Ay rfl rfl ?_;refine BK rfl rfl ?_)|refine AC rfl rfl rfl rfl ?_))<;>(refine AA rfl ?_;(first|(refine Ay rfl rfl ?_;refine Cs rfl rfl ?_)|refine AC rfl rfl rfl rfl ?_))<;>(refine AA rfl ?_;(first|(refine Ay rfl rfl ?_;refine GH rfl rfl ?_)|refine AC rfl rfl rfl rfl ?_))<;>(refine AA rfl ?_;(first|(refine Ay rfl rfl ?_;(first|refine Ce (fun _ _=>Bv rfl rfl) rfl (by omega) ?_|refine Cf (fun _ _=>Bv rfl rfl) rfl (by omega) ?_|refine Bu (fun _ _=>Bv rfl rfl) rfl (fun _=>?_) (fun _=>?_)))|refine AC rfl rfl rfl rfl ?_))<;>(first|refine Cm rfl rfl rfl rfl ?_|refine BX rfl rfl rfl rfl ?_)<;>refine AN rfl rfl rfl ?_<;>(refine AA rfl ?_;(first|(refine Ay rfl rfl ?_;refine BO rfl rfl ?_)|refine AC rfl rfl rfl rfl ?_))<;>(refine AA rfl ?_;(first|(refine Ay rfl rfl ?_;refine BK rfl rfl ?_)|refine AC rfl rfl rfl rfl ?_))<;>(refine AA rfl ?_;(first|(refine Ay rfl rfl ?_;(first|refine Ce (fun _ _=>Cy rfl rfl) rfl (by omega) ?_|refine Cf (fun _ _=>Cy rfl rfl) rfl (by omega) ?_|refine Bu (fun _ _=>Cy rfl rfl) rfl (fun _=>?_) (fun _=>?_)))|refine AC rfl rfl rfl rfl ?_))<;>(first|refine Cm rfl rfl rfl rfl ?_|refine BX rfl rfl rfl rfl ?_)<;>refine AN rfl rfl rfl ?_<;>(refine AA rfl ?_;(first|(refine Ay rfl rfl ?_;refine BO rfl rfl ?_)|refine AC rfl rfl rfl rfl ?_))<;>(refine AA rfl ?_;(first|(refine Ay rfl rfl ?_;refine BK rfl rfl ?_)|refine AC rfl rfl rfl rfl ?_))<;>(refine AA rfl ?_;(first|(refine Ay rfl rfl ?_;refine Cs rfl rfl ?_)|refine AC rfl rfl rfl rfl ?_))<;>(refine AA rfl ?_;(first|(refine Ay rfl rfl ?_;refine BO rfl rfl ?_)|refine AC rfl rfl rfl rfl ?_))<;>(refine AA rfl ?_;(first|(refine Ay rfl rfl ?_;refine BK rfl rfl ?_)|refine AC rfl rfl rfl rfl ?_))<;>(refine AA rfl ?_;(first|(refine Ay rfl rfl ?_;refine FP rfl rfl rfl ?_)|refine AC rfl rfl rfl rfl ?_))<;>(refine AA rfl ?_;(first|(refine Ay rfl rfl ?_;refine BK rfl rfl ?_)|refine AC rfl rfl rfl rfl ?_))<;>(refine AA rfl ?_;(first|(refine Ay rfl rfl ?_;(first|refine Ce (fun _ _=>Bv rfl rfl) rfl (by omega) ?_|refine Cf (fun _ _=>Bv rfl rfl) rfl (by omega) ?_|refine Bu (fun _ _=>Bv rfl rfl) rfl (fun _=>?_) (fun _=>?_)))|refine AC rfl rfl rfl rfl ?_))<;>(first|refine Cm rfl rfl rfl rfl ?_|refine BX rfl rfl rfl rfl ?_)<;>(refine h_z ?_))<;>(repeat (first|refine At ?_|refine Ah rfl ?_|refine Ae rfl ?_))
      all_goals try (
        ((repeat (first|refine At ?_|refine Ah rfl ?_|refine Ae rfl ?_))<;>(refine Aw rfl rfl ?_<;>(refine o_z ?_))<;>(repeat (first|refine At ?_|refine Ah rfl ?_|refine Ae rfl ?_)))
        refine ret1 rfl rfl ⟨?_,hE3⟩
        first|rw [AM (hno (by omega))]|rw [AM (hno0 (by omega))])
      ((repeat (first|refine At ?_|refine Ah rfl ?_|refine Ae rfl ?_))<;>(refine AJ rfl rfl ?_<;>refine AG rfl rfl ?_<;>refine Aw rfl rfl ?_<;>(refine o_z ?_))<;>(repeat (first|refine At ?_|refine Ah rfl ?_|refine Ae rfl ?_)))
      ((first|refine FO rfl rfl ?_|refine FN rfl rfl rfl ?_)<;>refine Ar rfl rfl ?_<;>(refine o_z ?_))
      refine ⟨(k + 1,x.var),⟨rfl,rfl,rfl,rfl,rfl,trivial⟩,⟨hE3,hlt,hh.step hx (hok (by omega) (by omega)) (fun y' h0 hy'=>by have:=hm y' h0 hy';omega),fun h=>absurd h (Nat.succ_ne_zero k),fun y' _ hy'=>?_⟩,Nat.sub_lt_sub_left hlt (Nat.lt_succ_self k)⟩
      rw [show k + 1 - 1=k from rfl,hx] at hy'
      exact congrArg Fct.var (Option.some.inj hy').symm
    · have hno:¬ FactsOk vars f:=fun h=>by
        obtain ⟨h1,h2,y,h3,_⟩:=h.1 k x hx
        have:=BG h3
        omega
      (refine Be rfl rfl rfl ?_<;>refine CY rfl rfl rfl ?_<;>refine AN rfl rfl rfl ?_<;>(first|refine OP rfl rfl rfl rfl ?_|refine OQ rfl rfl rfl rfl ?_|refine OS rfl rfl rfl rfl (fun _=>?_) fun _=>?_)<;>refine AN rfl rfl rfl ?_<;>(refine AA rfl ?_;(first|(refine Ay rfl rfl ?_;refine BO rfl rfl ?_)|refine AC rfl rfl rfl rfl ?_))<;>(refine AA rfl ?_;(first|(refine Ay rfl rfl ?_;refine BK rfl rfl ?_)|refine AC rfl rfl rfl rfl ?_))<;>(refine AA rfl ?_;(first|(refine Ay rfl rfl ?_;refine Cs rfl rfl ?_)|refine AC rfl rfl rfl rfl ?_))<;>(refine AA rfl ?_;(first|(refine Ay rfl rfl ?_;refine GH rfl rfl ?_)|refine AC rfl rfl rfl rfl ?_))<;>(refine AA rfl ?_;(first|(refine Ay rfl rfl ?_;(first|refine Ce (fun _ _=>Bv rfl rfl) rfl (by omega) ?_|refine Cf (fun _ _=>Bv rfl rfl) rfl (by omega) ?_|refine Bu (fun _ _=>Bv rfl rfl) rfl (fun _=>?_) (fun _=>?_)))|refine AC rfl rfl rfl rfl ?_))<;>(first|refine Cm rfl rfl rfl rfl ?_|refine BX rfl rfl rfl rfl ?_)<;>refine AN rfl rfl rfl ?_<;>(refine AA rfl ?_;(first|(refine Ay rfl rfl ?_;refine BO rfl rfl ?_)|refine AC rfl rfl rfl rfl ?_))<;>(refine AA rfl ?_;(first|(refine Ay rfl rfl ?_;refine BK rfl rfl ?_)|refine AC rfl rfl rfl rfl ?_))<;>(refine AA rfl ?_;(first|(refine Ay rfl rfl ?_;(first|refine Ce (fun _ _=>Cy rfl rfl) rfl (by omega) ?_|refine Cf (fun _ _=>Cy rfl rfl) rfl (by omega) ?_|refine Bu (fun _ _=>Cy rfl rfl) rfl (fun _=>?_) (fun _=>?_)))|refine AC rfl rfl rfl rfl ?_))<;>(first|refine Cm rfl rfl rfl rfl ?_|refine BX rfl rfl rfl rfl ?_)<;>refine AN rfl rfl rfl ?_<;>(refine AA rfl ?_;(first|(refine Ay rfl rfl ?_;refine BO rfl rfl ?_)|refine AC rfl rfl rfl rfl ?_))<;>(refine AA rfl ?_;(first|(refine Ay rfl rfl ?_;refine BK rfl rfl ?_)|refine AC rfl rfl rfl rfl ?_))<;>(refine AA rfl ?_;(first|(refine Ay rfl rfl ?_;refine Cs rfl rfl ?_)|refine AC rfl rfl rfl rfl ?_))<;>(refine AA rfl ?_;(first|(refine Ay rfl rfl ?_;refine BO rfl rfl ?_)|refine AC rfl rfl rfl rfl ?_))<;>(refine AA rfl ?_;(first|(refine Ay rfl rfl ?_;refine BK rfl rfl ?_)|refine AC rfl rfl rfl rfl ?_))<;>(refine AA rfl ?_;(first|(refine Ay rfl rfl ?_;refine FP rfl rfl rfl ?_)|refine AC rfl rfl rfl rfl ?_))<;>(refine AA rfl ?_;(first|(refine Ay rfl rfl ?_;refine BK rfl rfl ?_)|refine AC rfl rfl rfl rfl ?_))<;>(refine AA rfl ?_;(first|(refine Ay rfl rfl ?_;(first|refine Ce (fun _ _=>Bv rfl rfl) rfl (by omega) ?_|refine Cf (fun _ _=>Bv rfl rfl) rfl (by omega) ?_|refine Bu (fun _ _=>Bv rfl rfl) rfl (fun _=>?_) (fun _=>?_)))|refine AC rfl rfl rfl rfl ?_))<;>(first|refine Cm rfl rfl rfl rfl ?_|refine BX rfl rfl rfl rfl ?_)<;>(refine h_z ?_))<;>(repeat (first|refine At ?_|refine Ah rfl ?_|refine Ae rfl ?_))
      all_goals
        ((repeat (first|refine At ?_|refine Ah rfl ?_|refine Ae rfl ?_))<;>(refine Aw rfl rfl ?_<;>(refine o_z ?_))<;>(repeat (first|refine At ?_|refine Ah rfl ?_|refine Ae rfl ?_)))
        refine ret1 rfl rfl ⟨?_,hE3⟩
        rw [AM hno]
  · ((repeat (first|refine At ?_|refine Ah rfl ?_|refine Ae rfl ?_))<;>((first|refine CV rfl rfl rfl ?_|refine CW rfl rfl rfl ?_)<;>(refine o_z ?_))<;>(repeat (first|refine At ?_|refine Ah rfl ?_|refine Ae rfl ?_))<;>(refine Aw rfl rfl ?_<;>(refine o_z ?_))<;>(repeat (first|refine At ?_|refine Ah rfl ?_|refine Ae rfl ?_)))
    refine ret1 rfl rfl ⟨?_,hE⟩
    rw [Bd (hh.done (by omega))]
def NameOk (s:ByteArray):Prop:=s.size≤256∧∀ (i:Nat) (h:i < s.size),32≤(s[i]'h).toNat∧(s[i]'h).toNat≤126
theorem taskNamed {w:World} {s:ByteArray} (hs:s.size≤9223372036854775807) :
    Fn Tryz.prog 53 [.string s] w fun v w'=>v=.bool (bof (NameOk s))∧Ext w w':=by
  refine AK Tryz.func53 rfl Tryz.ntmps53 rfl ?_
  ((repeat (first|refine At ?_|refine Ah rfl ?_|refine Ae rfl ?_))<;>(refine Aw rfl rfl ?_<;>(refine o_z ?_))<;>(repeat (first|refine At ?_|refine Ah rfl ?_|refine Ae rfl ?_))<;>(refine Ar rfl rfl ?_<;>refine JO rfl rfl ?_<;>refine Ar rfl rfl ?_<;>(refine o_z ?_))<;>(repeat (first|refine At ?_|refine Ah rfl ?_|refine Ae rfl ?_)))
  refine EI (fun k:Nat=>[(0,.string s),(5,.int .i64 (s.size:Int)),(6,.int .i64 (k:Int))])
    (fun k w'=>w'=w∧k≤s.size∧∀ (i:Nat) (h:i < s.size),i < k→32≤(s[i]'h).toNat∧(s[i]'h).toNat≤126) (fun k=>s.size - k) 0 ⟨rfl,Nat.zero_le _,fun i _ h=>by omega⟩ ⟨rfl,rfl,rfl,trivial⟩ ?_
  rintro k _ ⟨rfl,hk,hh⟩
  by_cases hlt:k < s.size
  · ((repeat (first|refine At ?_|refine Ah rfl ?_|refine Ae rfl ?_))<;>((first|refine CV rfl rfl rfl ?_|refine CW rfl rfl rfl ?_)<;>(refine o_z ?_))<;>(repeat (first|refine At ?_|refine Ah rfl ?_|refine Ae rfl ?_))<;>(refine Ar rfl rfl ?_<;>refine Aw rfl rfl ?_<;>(refine o_z ?_))<;>(repeat (first|refine At ?_|refine Ah rfl ?_|refine Ae rfl ?_))<;>(refine Ar rfl rfl ?_<;>refine Ar rfl rfl ?_<;>refine MA rfl rfl rfl (by omega) ?_<;>(first|refine CV rfl rfl rfl ?_|refine CW rfl rfl rfl ?_|refine DI rfl rfl rfl (fun _=>?_) fun _=>?_)<;>refine Ar rfl rfl ?_<;>(first|(refine Az rfl rfl ?_;refine Ar rfl rfl ?_)|refine Au rfl rfl rfl rfl ?_)<;>(first|(refine Az rfl rfl ?_;refine Ar rfl rfl ?_)|refine Au rfl rfl rfl rfl ?_)<;>(first|(refine Az rfl rfl ?_;refine MA rfl rfl rfl (by omega) ?_)|refine Au rfl rfl rfl rfl ?_)<;>(first|(refine Az rfl rfl ?_;(first|refine Dp rfl rfl rfl ?_|refine Dq rfl rfl rfl ?_|refine CX rfl rfl rfl (fun _=>?_) fun _=>?_))|refine Au rfl rfl rfl rfl ?_)<;>(first|refine Bq rfl rfl rfl ?_|refine Br rfl rfl rfl ?_)<;>(refine o_z ?_))<;>(repeat (first|refine At ?_|refine Ah rfl ?_|refine Ae rfl ?_)))
    all_goals first
      | (((first|refine FO rfl rfl ?_|refine FN rfl rfl rfl ?_)<;>refine Ar rfl rfl ?_<;>(refine o_z ?_))
         refine ⟨k + 1,⟨rfl,rfl,rfl,trivial⟩,⟨rfl,by omega,fun i h hi=>?_⟩,by omega⟩
         by_cases he:i=k
         · subst he;omega
         · exact hh i h (by omega))
      | (((repeat (first|refine At ?_|refine Ah rfl ?_|refine Ae rfl ?_))<;>(refine Aw rfl rfl ?_<;>(refine o_z ?_))<;>(repeat (first|refine At ?_|refine Ah rfl ?_|refine Ae rfl ?_)))
         refine ret1 rfl rfl ⟨?_,Below.refl _ _⟩
         rw [AM (fun h=>by have:=h.2 k hlt;omega)])
  · by_cases h256:s.size≤256
    · ((repeat (first|refine At ?_|refine Ah rfl ?_|refine Ae rfl ?_))<;>((first|refine CV rfl rfl rfl ?_|refine CW rfl rfl rfl ?_)<;>(refine o_z ?_))<;>(repeat (first|refine At ?_|refine Ah rfl ?_|refine Ae rfl ?_))<;>(refine Ar rfl rfl ?_<;>refine JO rfl rfl ?_<;>(first|refine KH rfl rfl rfl ?_|refine KI rfl rfl rfl ?_)<;>refine Aw rfl rfl ?_<;>(refine o_z ?_))<;>(repeat (first|refine At ?_|refine Ah rfl ?_|refine Ae rfl ?_)))
      refine ret1 rfl rfl ⟨?_,Below.refl _ _⟩
      rw [Bd ⟨h256,fun i h=>hh i h (by omega)⟩]
    · ((repeat (first|refine At ?_|refine Ah rfl ?_|refine Ae rfl ?_))<;>((first|refine CV rfl rfl rfl ?_|refine CW rfl rfl rfl ?_)<;>(refine o_z ?_))<;>(repeat (first|refine At ?_|refine Ah rfl ?_|refine Ae rfl ?_))<;>(refine Ar rfl rfl ?_<;>refine JO rfl rfl ?_<;>(first|refine KH rfl rfl rfl ?_|refine KI rfl rfl rfl ?_)<;>refine Aw rfl rfl ?_<;>(refine o_z ?_))<;>(repeat (first|refine At ?_|refine Ah rfl ?_|refine Ae rfl ?_)))
      refine ret1 rfl rfl ⟨?_,Below.refl _ _⟩
      rw [AM (fun h=>h256 h.1)]
end
section
open Go Go.RowKit
attribute [local irreducible] ewp owp hwp hwq hws Ev Evg Fn retPost loud loudS Res1
theorem FA {vars:List Int} {x:Fct}:FactsOk vars [x]↔FactOk vars x:=by
  constructor
  · intro h;exact h.1 0 x rfl
  · intro h
    refine ⟨fun i y hy=>?_,fun i y z _ hz=>by simp at hz⟩
    cases i with
    | zero=>simp at hy;exact hy ▸ h
    | succ i=>simp at hy
def EffOk (vars:List Int) (e:Eff):Prop:=FactsOk vars e.cond∧FactOk vars ⟨e.var,e.val⟩
def OpOk (vars:List Int) (o:Opr):Prop:=0≤o.cost∧o.cost≤1048576∧o.effs.length≤64∧NameOk o.name∧FactsOk vars o.pre∧∀ (i:Nat) e,o.effs[i]?=some e→EffOk vars e
def TaskOk (t:Tsk):Prop:=t.vars.length≤64∧t.ops.length≤4096∧(∀ (i:Nat) n,t.vars[i]?=some n→1≤n∧n≤64)∧StateOk t.vars t.init∧FactsOk t.vars t.goal∧∀ (i:Nat) o,t.ops[i]?=some o→OpOk t.vars o
theorem Cv {p:Nat→Prop} {k:Nat} (h:∀ i,i < k→p i) (hk:p k):∀ i,i < k + 1→p i:=fun i hi=>by
  by_cases he:i=k
  · subst he;exact hk
  · exact h i (by omega)
theorem baseOperator {w:World} {vv ov:Value} {vars:List Int} {o:Opr} (hv:V w vv vars) (ho:V w ov o) :
    Fn Tryz.prog 40 [vv,ov] w fun v w'=>v=.bool (bof (OpOk vars o))∧Ext w w':=by
  obtain ⟨Av,cv,rfl⟩:=hv.form
  obtain ⟨cs,rfl,p,q,rfl,hp,hq,hc,hn⟩:=ho
  obtain ⟨Ap,cp,rfl⟩:=hp.form
  obtain ⟨Aq,cq,rfl⟩:=hq.form
  have hql:=hq.len
  refine AK Tryz.func40 rfl Tryz.ntmps40 rfl ?_
  repeat (first|refine At ?_|refine Ah rfl ?_|refine Ae rfl ?_)
  refine Dg rfl rfl fun w1 hN=>?_
  have hb1:=hN.blk
  have hE1:Ext w w1:=hN.ext
  (refine Aw rfl rfl ?_<;>(refine o_z ?_))
  repeat (first|refine At ?_|refine Ah rfl ?_|refine Ae rfl ?_)
  (refine AJ rfl rfl ?_<;>refine AG rfl rfl ?_<;>(first|refine CV rfl rfl rfl ?_|refine CW rfl rfl rfl ?_|refine DI rfl rfl rfl (fun _=>?_) fun _=>?_)<;>refine Ar rfl rfl ?_<;>(first|(refine Az rfl rfl ?_;refine AJ rfl rfl ?_)|refine Au rfl rfl rfl rfl ?_)<;>(first|(refine Az rfl rfl ?_;refine AG rfl rfl ?_)|refine Au rfl rfl rfl rfl ?_)<;>(first|(refine Az rfl rfl ?_;(first|refine Dp rfl rfl rfl ?_|refine Dq rfl rfl rfl ?_|refine CX rfl rfl rfl (fun _=>?_) fun _=>?_))|refine Au rfl rfl rfl rfl ?_)<;>(first|refine Bq rfl rfl rfl ?_|refine Br rfl rfl rfl ?_)<;>refine Ar rfl rfl ?_<;>(first|(refine Az rfl rfl ?_;refine AJ rfl rfl ?_)|refine Au rfl rfl rfl rfl ?_)<;>(first|(refine Az rfl rfl ?_;refine AG rfl rfl ?_)|refine Au rfl rfl rfl rfl ?_)<;>(first|(refine Az rfl rfl ?_;refine AY rfl rfl ?_)|refine Au rfl rfl rfl rfl ?_)<;>(first|(refine Az rfl rfl ?_;(first|refine Dp rfl rfl rfl ?_|refine Dq rfl rfl rfl ?_|refine CX rfl rfl rfl (fun _=>?_) fun _=>?_))|refine Au rfl rfl rfl rfl ?_)<;>(first|refine Bq rfl rfl rfl ?_|refine Br rfl rfl rfl ?_)<;>refine Ar rfl rfl ?_<;>(first|(refine Az rfl rfl ?_;refine AJ rfl rfl ?_)|refine Au rfl rfl rfl rfl ?_)<;>(first|(refine Az rfl rfl ?_;refine AG rfl rfl ?_)|refine Au rfl rfl rfl rfl ?_)<;>(first|(refine Az rfl rfl ?_;refine JO rfl rfl ?_)|refine Au rfl rfl rfl rfl ?_)<;>(first|(refine Az rfl rfl ?_;(first|refine Dp rfl rfl rfl ?_|refine Dq rfl rfl rfl ?_|refine CX rfl rfl rfl (fun _=>?_) fun _=>?_))|refine Au rfl rfl rfl rfl ?_)<;>(first|refine Bq rfl rfl rfl ?_|refine Br rfl rfl rfl ?_)<;>refine Ar rfl rfl ?_<;>(first|(refine Az rfl rfl ?_;refine Ar rfl rfl ?_)|refine Au rfl rfl rfl rfl ?_)<;>(first|(refine Az rfl rfl ?_;refine AJ rfl rfl ?_)|refine Au rfl rfl rfl rfl ?_)<;>(first|(refine Az rfl rfl ?_;refine AG rfl rfl ?_)|refine Au rfl rfl rfl rfl ?_))
  all_goals try (
    refine Au rfl rfl rfl rfl ?_
    ((first|(refine Az rfl rfl ?_;(first|refine Cq rfl rfl ?_|refine Cr rfl rfl ?_|refine CU rfl rfl ?_))|refine Au rfl rfl rfl rfl ?_)<;>(first|refine Bq rfl rfl rfl ?_|refine Br rfl rfl rfl ?_)<;>(refine o_z ?_))
    repeat (first|refine At ?_|refine Ah rfl ?_|refine Ae rfl ?_)
    ((repeat (first|refine At ?_|refine Ah rfl ?_|refine Ae rfl ?_))<;>(refine Aw rfl rfl ?_<;>(refine o_z ?_))<;>(repeat (first|refine At ?_|refine Ah rfl ?_|refine Ae rfl ?_)))
    refine ret1 rfl rfl ⟨?_,hE1⟩
    rw [AM (fun h=>by obtain ⟨h1,h2,h3,⟨h4,_⟩,_⟩:=h;omega)])
  refine Az rfl rfl ?_
  refine CJ rfl rfl (baseProper (hv.ext hE1) (hp.ext hE1)) ?_ ?_
  case refine_2 =>
    intro w2 hP hE2
    ((first|(refine Az rfl rfl ?_;(first|refine Cq rfl rfl ?_|refine Cr rfl rfl ?_|refine CU rfl rfl ?_))|refine Au rfl rfl rfl rfl ?_)<;>(first|refine Bq rfl rfl rfl ?_|refine Br rfl rfl rfl ?_)<;>(refine o_z ?_))
    repeat (first|refine At ?_|refine Ah rfl ?_|refine Ae rfl ?_)
    ((repeat (first|refine At ?_|refine Ah rfl ?_|refine Ae rfl ?_))<;>(refine Aw rfl rfl ?_<;>(refine o_z ?_))<;>(repeat (first|refine At ?_|refine Ah rfl ?_|refine Ae rfl ?_)))
    refine ret1 rfl rfl ⟨?_,hE1.trans' hE2⟩
    rw [AM (fun h=>hP h.2.2.2.2.1)]
  intro w2 hpre hE2
  replace hb1:=hb1.ext hE2
  have hE2:Ext w w2:=hE1.trans' hE2
  ((first|(refine Az rfl rfl ?_;(first|refine Cq rfl rfl ?_|refine Cr rfl rfl ?_|refine CU rfl rfl ?_))|refine Au rfl rfl rfl rfl ?_)<;>(first|refine Bq rfl rfl rfl ?_|refine Br rfl rfl rfl ?_)<;>(refine o_z ?_))
  repeat (first|refine At ?_|refine Ah rfl ?_|refine Ae rfl ?_)
  (refine AJ rfl rfl ?_<;>refine AG rfl rfl ?_<;>refine JO rfl rfl ?_<;>refine Ar rfl rfl ?_<;>(refine o_z ?_))
  repeat (first|refine At ?_|refine Ah rfl ?_|refine Ae rfl ?_)
  refine BM o.name.size hn (fun _:Unit=>[(0,.slice Av vars.length cv),(3,.pointer (some ⟨w.heap.size,0,none⟩))]) (fun k _ w'=>w'=w2∧∀ i,i < k→∀ h:i < o.name.size,32≤(o.name[i]'h).toNat∧(o.name[i]'h).toNat≤126) ()
    ⟨rfl,fun i hi=>by omega⟩ ⟨rfl,rfl,rfl,rfl,trivial⟩ (fun _=>⟨rfl,rfl⟩) ⟨rfl,rfl,rfl⟩ ⟨rfl,rfl⟩ ?_ ?_
  · rintro k _ _ hk ⟨rfl,hh⟩
    ((repeat (first|refine At ?_|refine Ah rfl ?_|refine Ae rfl ?_))<;>(refine Ar rfl rfl ?_<;>refine Aw rfl rfl ?_<;>(refine o_z ?_))<;>(repeat (first|refine At ?_|refine Ah rfl ?_|refine Ae rfl ?_))<;>(refine AJ rfl rfl ?_<;>refine AG rfl rfl ?_<;>refine Ar rfl rfl ?_<;>refine MA rfl rfl rfl (by omega) ?_<;>(first|refine CV rfl rfl rfl ?_|refine CW rfl rfl rfl ?_|refine DI rfl rfl rfl (fun _=>?_) fun _=>?_)<;>refine Ar rfl rfl ?_<;>(first|(refine Az rfl rfl ?_;refine AJ rfl rfl ?_)|refine Au rfl rfl rfl rfl ?_)<;>(first|(refine Az rfl rfl ?_;refine AG rfl rfl ?_)|refine Au rfl rfl rfl rfl ?_)<;>(first|(refine Az rfl rfl ?_;refine Ar rfl rfl ?_)|refine Au rfl rfl rfl rfl ?_)<;>(first|(refine Az rfl rfl ?_;refine MA rfl rfl rfl (by omega) ?_)|refine Au rfl rfl rfl rfl ?_)<;>(first|(refine Az rfl rfl ?_;(first|refine Dp rfl rfl rfl ?_|refine Dq rfl rfl rfl ?_|refine CX rfl rfl rfl (fun _=>?_) fun _=>?_))|refine Au rfl rfl rfl rfl ?_)<;>(first|refine Bq rfl rfl rfl ?_|refine Br rfl rfl rfl ?_)<;>(refine o_z ?_))<;>(repeat (first|refine At ?_|refine Ah rfl ?_|refine Ae rfl ?_)))
    all_goals try (
      ((repeat (first|refine At ?_|refine Ah rfl ?_|refine Ae rfl ?_))<;>(refine Aw rfl rfl ?_<;>(refine o_z ?_))<;>(repeat (first|refine At ?_|refine Ah rfl ?_|refine Ae rfl ?_)))
      refine ret1 rfl rfl ⟨?_,hE2⟩
      rw [AM (fun h=>by have:=h.2.2.2.1.2 k hk;omega)])
    exact ⟨(),⟨rfl,rfl,rfl,rfl,trivial⟩,rfl,Cv hh fun _=>by omega⟩
  rintro _ _ ⟨rfl,hname⟩
  have hnok:NameOk o.name:=⟨by omega,fun i h=>hname i h h⟩
  repeat (first|refine At ?_|refine Ah rfl ?_|refine Ae rfl ?_)
  ((repeat (first|refine At ?_|refine Ah rfl ?_|refine Ae rfl ?_))<;>(refine AJ rfl rfl ?_<;>refine AG rfl rfl ?_<;>refine AY rfl rfl ?_<;>refine Ar rfl rfl ?_<;>(refine o_z ?_))<;>(repeat (first|refine At ?_|refine Ah rfl ?_|refine Ae rfl ?_)))
  refine BM o.effs.length (by omega) (fun _:Unit=>[(0,.slice Av vars.length cv),(3,.pointer (some ⟨w.heap.size,0,none⟩)),(55,.slice Aq o.effs.length cq)]) (fun k _ w'=>Ext w w'∧∀ i,i < k→∀ e,o.effs[i]?=some e→EffOk vars e) ()
    ⟨hE2,fun i hi=>by omega⟩ ⟨rfl,rfl,rfl,rfl,rfl,trivial⟩ (fun _=>⟨rfl,rfl⟩) ⟨rfl,rfl,rfl⟩ ⟨rfl,rfl⟩ ?_ ?_
  · rintro k _ w3 hk ⟨hE3,hh⟩
    obtain ⟨e,he⟩:=AD hk
    obtain ⟨b2,o2,ce,rfl,_,_,hd1,cv',rfl,hcond,hr1,hr2⟩:=(hq.ext hE3).elem he
    obtain ⟨Ac,cc,rfl⟩:=hcond.form
    ((repeat (first|refine At ?_|refine Ah rfl ?_|refine Ae rfl ?_))<;>(refine CQ rfl rfl rfl ?_<;>refine Bi rfl rfl ?_)<;>(repeat (first|refine At ?_|refine Ah rfl ?_|refine Ae rfl ?_)))
    refine Cg rfl rfl rfl (by simp [Value.cells,Value.oneCell']) fun w4 hN4=>?_
    have hb2:=hN4.blk
    have hE4:Ext w w4:=hE3.trans' hN4.ext
    ((refine o_z ?_))
    repeat (first|refine At ?_|refine Ah rfl ?_|refine Ae rfl ?_)
    (refine Ar rfl rfl ?_<;>refine AJ rfl rfl ?_<;>refine AG rfl rfl ?_)
    refine CJ rfl rfl (baseProper (hv.ext hE4) (hcond.ext hN4.ext)) ?_ ?_
    case refine_2 =>
      intro w5 hP hE5
      ((first|refine Cq rfl rfl ?_|refine Cr rfl rfl ?_|refine CU rfl rfl ?_)<;>refine Ar rfl rfl ?_<;>(first|(refine Az rfl rfl ?_;refine Ar rfl rfl ?_)|refine Au rfl rfl rfl rfl ?_)<;>(first|(refine Az rfl rfl ?_;refine AJ rfl rfl ?_)|refine Au rfl rfl rfl rfl ?_)<;>(first|(refine Az rfl rfl ?_;refine AG rfl rfl ?_)|refine Au rfl rfl rfl rfl ?_)<;>(first|(refine Az rfl rfl ?_;refine AJ rfl rfl ?_)|refine Au rfl rfl rfl rfl ?_)<;>(first|(refine Az rfl rfl ?_;refine AG rfl rfl ?_)|refine Au rfl rfl rfl rfl ?_)<;>(first|(refine Az rfl rfl ?_;refine Dd rfl rfl rfl ?_)|refine Au rfl rfl rfl rfl ?_))
      refine Au rfl rfl rfl rfl ?_
      refine Au rfl rfl rfl rfl ?_
      ((first|(refine Az rfl rfl ?_;(first|refine Cq rfl rfl ?_|refine Cr rfl rfl ?_|refine CU rfl rfl ?_))|refine Au rfl rfl rfl rfl ?_)<;>(first|refine Bq rfl rfl rfl ?_|refine Br rfl rfl rfl ?_)<;>(refine o_z ?_))
      repeat (first|refine At ?_|refine Ah rfl ?_|refine Ae rfl ?_)
      ((repeat (first|refine At ?_|refine Ah rfl ?_|refine Ae rfl ?_))<;>(refine Aw rfl rfl ?_<;>(refine o_z ?_))<;>(repeat (first|refine At ?_|refine Ah rfl ?_|refine Ae rfl ?_)))
      refine ret1 rfl rfl ⟨?_,hE4.trans' hE5⟩
      rw [AM (fun h=>hP (h.2.2.2.2.2 k e he).1)]
    intro w5 hcok hE5
    replace hb2:=hb2.ext hE5
    ((first|refine Cq rfl rfl ?_|refine Cr rfl rfl ?_|refine CU rfl rfl ?_)<;>refine Ar rfl rfl ?_<;>(first|(refine Az rfl rfl ?_;refine Ar rfl rfl ?_)|refine Au rfl rfl rfl rfl ?_)<;>(first|(refine Az rfl rfl ?_;refine AJ rfl rfl ?_)|refine Au rfl rfl rfl rfl ?_)<;>(first|(refine Az rfl rfl ?_;refine AG rfl rfl ?_)|refine Au rfl rfl rfl rfl ?_)<;>(first|(refine Az rfl rfl ?_;refine AJ rfl rfl ?_)|refine Au rfl rfl rfl rfl ?_)<;>(first|(refine Az rfl rfl ?_;refine AG rfl rfl ?_)|refine Au rfl rfl rfl rfl ?_)<;>(first|(refine Az rfl rfl ?_;refine Dd rfl rfl rfl ?_)|refine Au rfl rfl rfl rfl ?_))
    refine Az rfl rfl ?_
    refine Ds rfl rfl rfl (by simp [Value.cells];rfl) (by decide) rfl fun w6 hN6=>?_
    have hE6:Ext w w6:=hE4.trans' (hE5.trans' hN6.ext)
    refine Az rfl rfl ?_
    have hone:V w6 (.slice (some ⟨w5.heap.size,0,none⟩) 1 1) [(⟨e.var,e.val⟩:Fct)] :=
      .of_slice ⟨_,1,[.int .i64 e.var,.int .i64 e.val],rfl,Nat.le_refl _,by omega,.single ⟨rfl,hr1,hr2⟩,fun _=>⟨_,_,rfl,hN6.blk.lt,hN6.blk.cellsAt⟩⟩
    refine CJ rfl rfl (baseProper (hv.ext hE6) hone) ?_ ?_
    case refine_2 =>
      intro w7 hP hE7
      ((first|(refine Az rfl rfl ?_;(first|refine Cq rfl rfl ?_|refine Cr rfl rfl ?_|refine CU rfl rfl ?_))|refine Au rfl rfl rfl rfl ?_)<;>(first|refine Bq rfl rfl rfl ?_|refine Br rfl rfl rfl ?_)<;>(refine o_z ?_))
      repeat (first|refine At ?_|refine Ah rfl ?_|refine Ae rfl ?_)
      ((repeat (first|refine At ?_|refine Ah rfl ?_|refine Ae rfl ?_))<;>(refine Aw rfl rfl ?_<;>(refine o_z ?_))<;>(repeat (first|refine At ?_|refine Ah rfl ?_|refine Ae rfl ?_)))
      refine ret1 rfl rfl ⟨?_,hE6.trans' hE7⟩
      rw [AM (fun h=>hP (FA.2 (h.2.2.2.2.2 k e he).2))]
    intro w7 hfok hE7
    ((first|(refine Az rfl rfl ?_;(first|refine Cq rfl rfl ?_|refine Cr rfl rfl ?_|refine CU rfl rfl ?_))|refine Au rfl rfl rfl rfl ?_)<;>(first|refine Bq rfl rfl rfl ?_|refine Br rfl rfl rfl ?_)<;>(refine o_z ?_))
    repeat (first|refine At ?_|refine Ah rfl ?_|refine Ae rfl ?_)
    exact ⟨(),⟨rfl,rfl,rfl,rfl,rfl,trivial⟩,hE6.trans' hE7,Cv hh fun e' he'=>by
      rw [he] at he';injection he' with he';subst he';exact ⟨hcok,FA.1 hfok⟩⟩
  rintro _ w3 ⟨hE3,hh⟩
  repeat (first|refine At ?_|refine Ah rfl ?_|refine Ae rfl ?_)
  ((repeat (first|refine At ?_|refine Ah rfl ?_|refine Ae rfl ?_))<;>(refine Aw rfl rfl ?_<;>(refine o_z ?_))<;>(repeat (first|refine At ?_|refine Ah rfl ?_|refine Ae rfl ?_)))
  refine ret1 rfl rfl ⟨?_,hE3⟩
  rw [Bd ⟨by omega,by omega,by omega,hnok,hpre,fun i e he=>hh i (BG he) e he⟩]
theorem baseGood {w:World} {tv:Value} {t:Tsk} (ht:V w tv t) :
    Fn Tryz.prog 18 [tv] w fun v w'=>v=.bool (bof (TaskOk t))∧Ext w w':=by
  obtain ⟨cs,rfl,a,b,c,d,rfl,hvars,hinit,hgoal,hops⟩:=ht
  obtain ⟨Av,cv,rfl⟩:=hvars.form
  obtain ⟨Ai,ci,rfl⟩:=hinit.form
  obtain ⟨Ag,cg,rfl⟩:=hgoal.form
  obtain ⟨Ao,co,rfl⟩:=hops.form
  have hvl:=hvars.len
  have hol:=hops.len
  refine AK Tryz.func18 rfl Tryz.ntmps18 rfl ?_
  repeat (first|refine At ?_|refine Ah rfl ?_|refine Ae rfl ?_)
  refine Dg rfl rfl fun w1 hN=>?_
  have hb1:=hN.blk
  have hE1:Ext w w1:=hN.ext
  (refine Aw rfl rfl ?_<;>(refine o_z ?_))
  repeat (first|refine At ?_|refine Ah rfl ?_|refine Ae rfl ?_)
  ((repeat (first|refine At ?_|refine Ah rfl ?_|refine Ae rfl ?_))<;>(refine AJ rfl rfl ?_<;>refine AG rfl rfl ?_<;>refine AY rfl rfl ?_<;>(first|refine Dp rfl rfl rfl ?_|refine Dq rfl rfl rfl ?_|refine CX rfl rfl rfl (fun _=>?_) fun _=>?_)<;>refine Ar rfl rfl ?_<;>(first|(refine Az rfl rfl ?_;refine AJ rfl rfl ?_)|refine Au rfl rfl rfl rfl ?_)<;>(first|(refine Az rfl rfl ?_;refine AG rfl rfl ?_)|refine Au rfl rfl rfl rfl ?_)<;>(first|(refine Az rfl rfl ?_;refine AY rfl rfl ?_)|refine Au rfl rfl rfl rfl ?_)<;>(first|(refine Az rfl rfl ?_;(first|refine Dp rfl rfl rfl ?_|refine Dq rfl rfl rfl ?_|refine CX rfl rfl rfl (fun _=>?_) fun _=>?_))|refine Au rfl rfl rfl rfl ?_)<;>(first|refine Bq rfl rfl rfl ?_|refine Br rfl rfl rfl ?_)<;>(refine o_z ?_))<;>(repeat (first|refine At ?_|refine Ah rfl ?_|refine Ae rfl ?_)))
  all_goals try (
    ((repeat (first|refine At ?_|refine Ah rfl ?_|refine Ae rfl ?_))<;>(refine Aw rfl rfl ?_<;>(refine o_z ?_))<;>(repeat (first|refine At ?_|refine Ah rfl ?_|refine Ae rfl ?_)))
    refine ret1 rfl rfl ⟨?_,hE1⟩
    rw [AM (fun h=>by obtain ⟨h1,h2,_⟩:=h;omega)])
  (refine AJ rfl rfl ?_<;>refine AG rfl rfl ?_<;>refine AY rfl rfl ?_<;>refine Ar rfl rfl ?_<;>(refine o_z ?_))
  repeat (first|refine At ?_|refine Ah rfl ?_|refine Ae rfl ?_)
  refine BM t.vars.length (by omega) (fun _:Unit=>[(1,.pointer (some ⟨w.heap.size,0,none⟩)),(18,.slice Av t.vars.length cv)]) (fun k _ w'=>w'=w1∧∀ i,i < k→∀ n,t.vars[i]?=some n→1≤n∧n≤64) ()
    ⟨rfl,fun i hi=>by omega⟩ ⟨rfl,rfl,rfl,rfl,trivial⟩ (fun _=>⟨rfl,rfl⟩) ⟨rfl,rfl,rfl⟩ ⟨rfl,rfl⟩ ?_ ?_
  · rintro k _ _ hk ⟨rfl,hh⟩
    obtain ⟨n,hn⟩:=AD hk
    obtain ⟨b2,o2,ce,rfl,_,_,hd1,rfl,_⟩:=(hvars.ext hE1).elem hn
    ((repeat (first|refine At ?_|refine Ah rfl ?_|refine Ae rfl ?_))<;>(refine CQ rfl rfl rfl ?_<;>refine AG rfl rfl ?_<;>refine Aw rfl rfl ?_<;>(refine o_z ?_))<;>(repeat (first|refine At ?_|refine Ah rfl ?_|refine Ae rfl ?_))<;>(refine Ar rfl rfl ?_<;>(first|refine CV rfl rfl rfl ?_|refine CW rfl rfl rfl ?_|refine DI rfl rfl rfl (fun _=>?_) fun _=>?_)<;>refine Ar rfl rfl ?_<;>(first|(refine Az rfl rfl ?_;refine Ar rfl rfl ?_)|refine Au rfl rfl rfl rfl ?_)<;>(first|(refine Az rfl rfl ?_;(first|refine Dp rfl rfl rfl ?_|refine Dq rfl rfl rfl ?_|refine CX rfl rfl rfl (fun _=>?_) fun _=>?_))|refine Au rfl rfl rfl rfl ?_)<;>(first|refine Bq rfl rfl rfl ?_|refine Br rfl rfl rfl ?_)<;>(refine o_z ?_))<;>(repeat (first|refine At ?_|refine Ah rfl ?_|refine Ae rfl ?_)))
    all_goals try (
      ((repeat (first|refine At ?_|refine Ah rfl ?_|refine Ae rfl ?_))<;>(refine Aw rfl rfl ?_<;>(refine o_z ?_))<;>(repeat (first|refine At ?_|refine Ah rfl ?_|refine Ae rfl ?_)))
      refine ret1 rfl rfl ⟨?_,hE1⟩
      rw [AM (fun h=>by have:=h.2.2.1 k n hn;omega)])
    exact ⟨(),⟨rfl,rfl,rfl,rfl,trivial⟩,rfl,Cv hh fun n' hn'=>by rw [hn] at hn';injection hn' with hn';omega⟩
  rintro _ _ ⟨rfl,hdom⟩
  repeat (first|refine At ?_|refine Ah rfl ?_|refine Ae rfl ?_)
  (refine AJ rfl rfl ?_<;>refine AG rfl rfl ?_<;>refine AJ rfl rfl ?_<;>refine AG rfl rfl ?_)
  refine CJ rfl rfl (baseState (hvars.ext hE1) (hinit.ext hE1)) ?_ ?_
  case refine_2 =>
    intro w2 hP hE2
    ((first|refine Cq rfl rfl ?_|refine Cr rfl rfl ?_|refine CU rfl rfl ?_)<;>refine Ar rfl rfl ?_<;>(first|(refine Az rfl rfl ?_;refine AJ rfl rfl ?_)|refine Au rfl rfl rfl rfl ?_)<;>(first|(refine Az rfl rfl ?_;refine AG rfl rfl ?_)|refine Au rfl rfl rfl rfl ?_)<;>(first|(refine Az rfl rfl ?_;refine AJ rfl rfl ?_)|refine Au rfl rfl rfl rfl ?_)<;>(first|(refine Az rfl rfl ?_;refine AG rfl rfl ?_)|refine Au rfl rfl rfl rfl ?_))
    refine Au rfl rfl rfl rfl ?_
    ((first|(refine Az rfl rfl ?_;(first|refine Cq rfl rfl ?_|refine Cr rfl rfl ?_|refine CU rfl rfl ?_))|refine Au rfl rfl rfl rfl ?_)<;>(first|refine Bq rfl rfl rfl ?_|refine Br rfl rfl rfl ?_)<;>(refine o_z ?_))
    repeat (first|refine At ?_|refine Ah rfl ?_|refine Ae rfl ?_)
    ((repeat (first|refine At ?_|refine Ah rfl ?_|refine Ae rfl ?_))<;>(refine Aw rfl rfl ?_<;>(refine o_z ?_))<;>(repeat (first|refine At ?_|refine Ah rfl ?_|refine Ae rfl ?_)))
    refine ret1 rfl rfl ⟨?_,hE1.trans' hE2⟩
    rw [AM (fun h=>hP h.2.2.2.1)]
  intro w2 hst hE2
  replace hb1:=hb1.ext hE2
  replace hE2:Ext w w2:=hE1.trans' hE2
  ((first|refine Cq rfl rfl ?_|refine Cr rfl rfl ?_|refine CU rfl rfl ?_)<;>refine Ar rfl rfl ?_<;>(first|(refine Az rfl rfl ?_;refine AJ rfl rfl ?_)|refine Au rfl rfl rfl rfl ?_)<;>(first|(refine Az rfl rfl ?_;refine AG rfl rfl ?_)|refine Au rfl rfl rfl rfl ?_)<;>(first|(refine Az rfl rfl ?_;refine AJ rfl rfl ?_)|refine Au rfl rfl rfl rfl ?_)<;>(first|(refine Az rfl rfl ?_;refine AG rfl rfl ?_)|refine Au rfl rfl rfl rfl ?_))
  refine Az rfl rfl ?_
  refine CJ rfl rfl (baseProper (hvars.ext hE2) (hgoal.ext hE2)) ?_ ?_
  case refine_2 =>
    intro w3 hP hE3
    ((first|(refine Az rfl rfl ?_;(first|refine Cq rfl rfl ?_|refine Cr rfl rfl ?_|refine CU rfl rfl ?_))|refine Au rfl rfl rfl rfl ?_)<;>(first|refine Bq rfl rfl rfl ?_|refine Br rfl rfl rfl ?_)<;>(refine o_z ?_))
    repeat (first|refine At ?_|refine Ah rfl ?_|refine Ae rfl ?_)
    ((repeat (first|refine At ?_|refine Ah rfl ?_|refine Ae rfl ?_))<;>(refine Aw rfl rfl ?_<;>(refine o_z ?_))<;>(repeat (first|refine At ?_|refine Ah rfl ?_|refine Ae rfl ?_)))
    refine ret1 rfl rfl ⟨?_,hE2.trans' hE3⟩
    rw [AM (fun h=>hP h.2.2.2.2.1)]
  intro w3 hgo hE3
  replace hb1:=hb1.ext hE3
  replace hE3:Ext w w3:=hE2.trans' hE3
  ((first|(refine Az rfl rfl ?_;(first|refine Cq rfl rfl ?_|refine Cr rfl rfl ?_|refine CU rfl rfl ?_))|refine Au rfl rfl rfl rfl ?_)<;>(first|refine Bq rfl rfl rfl ?_|refine Br rfl rfl rfl ?_)<;>(refine o_z ?_))
  repeat (first|refine At ?_|refine Ah rfl ?_|refine Ae rfl ?_)
  ((repeat (first|refine At ?_|refine Ah rfl ?_|refine Ae rfl ?_))<;>(refine AJ rfl rfl ?_<;>refine AG rfl rfl ?_<;>refine AY rfl rfl ?_<;>refine Ar rfl rfl ?_<;>(refine o_z ?_))<;>(repeat (first|refine At ?_|refine Ah rfl ?_|refine Ae rfl ?_)))
  refine BM t.ops.length (by omega) (fun _:Unit=>[(1,.pointer (some ⟨w.heap.size,0,none⟩)),(46,.slice Ao t.ops.length co)]) (fun k _ w'=>Ext w3 w'∧∀ i,i < k→∀ o,t.ops[i]?=some o→OpOk t.vars o) ()
    ⟨Below.refl _ _,fun i hi=>by omega⟩ ⟨rfl,rfl,rfl,rfl,trivial⟩ (fun _=>⟨rfl,rfl⟩) ⟨rfl,rfl,rfl⟩ ⟨rfl,rfl⟩ ?_ ?_
  · rintro k _ w4 hk ⟨hE4,hh⟩
    obtain ⟨o,ho⟩:=AD hk
    replace hb1:=hb1.ext hE4
    have hE34:=hE4
    replace hE4:Ext w w4:=hE3.trans' hE4
    obtain ⟨b2,o2,ce,rfl,_,_,hd1,hRo⟩:=(hops.ext hE4).elem ho
    obtain ⟨p,q,rfl,hp,hq,hc,hn⟩:=id hRo
    obtain ⟨Ap,cp,rfl⟩:=hp.form
    obtain ⟨Aq,cq,rfl⟩:=hq.form
    ((repeat (first|refine At ?_|refine Ah rfl ?_|refine Ae rfl ?_))<;>(refine CQ rfl rfl rfl ?_<;>refine Bi rfl rfl ?_)<;>(repeat (first|refine At ?_|refine Ah rfl ?_|refine Ae rfl ?_)))
    refine Cg rfl rfl rfl (by simp [Value.cells,Value.oneCell']) fun w5 hN5=>?_
    have hb2:=hN5.blk
    replace hb1:=hb1.ext hN5.ext
    have hE5:Ext w w5:=hE4.trans' hN5.ext
    ((refine o_z ?_))
    repeat (first|refine At ?_|refine Ah rfl ?_|refine Ae rfl ?_)
    (refine AJ rfl rfl ?_<;>refine AG rfl rfl ?_<;>refine Bi rfl rfl ?_)
    have hVo:V w4 (.agg #[.string o.name,.int .i64 o.cost,.slice Ap o.pre.length cp,.slice Aq o.effs.length cq]) o:=⟨_,rfl,hRo⟩
    refine CJ rfl rfl (baseOperator (hvars.ext hE5) (hVo.ext hN5.ext)) ?_ ?_
    · intro w6 hP hE6
      ((first|refine Cq rfl rfl ?_|refine Cr rfl rfl ?_|refine CU rfl rfl ?_)<;>(refine o_z ?_))
      repeat (first|refine At ?_|refine Ah rfl ?_|refine Ae rfl ?_)
      refine ⟨(),⟨rfl,rfl,rfl,rfl,trivial⟩,?_,Cv hh fun o' ho'=>by rw [ho] at ho';injection ho' with ho';exact ho' ▸ hP⟩
      exact hE34.trans' (hN5.ext.trans' hE6)
    · intro w6 hP hE6
      ((first|refine Cq rfl rfl ?_|refine Cr rfl rfl ?_|refine CU rfl rfl ?_)<;>(refine o_z ?_))
      repeat (first|refine At ?_|refine Ah rfl ?_|refine Ae rfl ?_)
      ((repeat (first|refine At ?_|refine Ah rfl ?_|refine Ae rfl ?_))<;>(refine Aw rfl rfl ?_<;>(refine o_z ?_))<;>(repeat (first|refine At ?_|refine Ah rfl ?_|refine Ae rfl ?_)))
      refine ret1 rfl rfl ⟨?_,hE5.trans' hE6⟩
      rw [AM (fun h=>hP (h.2.2.2.2.2 k o ho))]
  rintro _ w4 ⟨hE4,hh⟩
  repeat (first|refine At ?_|refine Ah rfl ?_|refine Ae rfl ?_)
  ((repeat (first|refine At ?_|refine Ah rfl ?_|refine Ae rfl ?_))<;>(refine Aw rfl rfl ?_<;>(refine o_z ?_))<;>(repeat (first|refine At ?_|refine Ah rfl ?_|refine Ae rfl ?_)))
  refine ret1 rfl rfl ⟨?_,hE3.trans' hE4⟩
  rw [Bd ⟨by omega,by omega,fun i n hn=>hdom i (BG hn) n hn,hst,hgo,fun i o ho=>hh i (BG ho) o ho⟩]
def manyF (most:Int):List Int→Int→Int
  | [],n=>n
  | k :: r,n=>if most < n * min (max k 0) (most + 1) then most + 1 else manyF most r (n * min (max k 0) (most + 1))
theorem baseMany {w:World} {vv:Value} {vars:List Int} {most:Int} (hv:V w vv vars) (h1:1≤most) (h2:most≤1048576) :
    Fn Tryz.prog 15 [vv,.int .i64 most] w fun v w'=>v=.int .i64 (manyF most vars 1)∧Ext w w':=by
  obtain ⟨A,ca,rfl⟩:=hv.form
  have hvl:=hv.len
  refine AK Tryz.func15 rfl Tryz.ntmps15 rfl ?_
  ((repeat (first|refine At ?_|refine Ah rfl ?_|refine Ae rfl ?_))<;>(refine Aw rfl rfl ?_<;>(refine o_z ?_))<;>(repeat (first|refine At ?_|refine Ah rfl ?_|refine Ae rfl ?_))<;>(refine Aw rfl rfl ?_<;>(refine o_z ?_))<;>(repeat (first|refine At ?_|refine Ah rfl ?_|refine Ae rfl ?_))<;>(refine Ar rfl rfl ?_<;>refine AY rfl rfl ?_<;>refine Ar rfl rfl ?_<;>(refine o_z ?_))<;>(repeat (first|refine At ?_|refine Ah rfl ?_|refine Ae rfl ?_)))
  refine BM vars.length (by omega) (fun n:Int=>[(1,.int .i64 most),(5,.int .i64 n),(8,.slice A vars.length ca)]) (fun k n w'=>w'=w∧0≤n∧n≤most∧manyF most (vars.drop k) n=manyF most vars 1) 1
    ⟨rfl,by omega,h1,rfl⟩ ⟨rfl,rfl,rfl,rfl,rfl,trivial⟩ (fun _=>⟨rfl,rfl⟩) ⟨rfl,rfl,rfl⟩ ⟨rfl,rfl⟩ ?_ ?_
  · rintro k n _ hk ⟨rfl,hn0,hn1,hh⟩
    obtain ⟨x,hx⟩:=AD hk
    obtain ⟨b2,o2,ce,rfl,_,_,hd1,rfl,_⟩:=hv.elem hx
    have hd:vars.drop k=x :: vars.drop (k + 1):=by
      rw [List.drop_eq_getElem_cons hk];congr 1
      rw [List.getElem?_eq_getElem hk] at hx;exact Option.some.inj hx
    rw [hd] at hh
    simp only [manyF] at hh
    have hm0:0≤min (max x 0) (most + 1):=by omega
    have hm1:min (max x 0) (most + 1)≤most + 1:=by omega
    have hp0:0≤n * min (max x 0) (most + 1):=Int.mul_nonneg hn0 hm0
    have hp1:n * min (max x 0) (most + 1)≤1048576 * 1048577:=Int.le_trans (Int.mul_le_mul_of_nonneg_right (Int.le_trans hn1 h2) hm0) (Int.mul_le_mul_of_nonneg_left (by omega) (by omega))
    ((repeat (first|refine At ?_|refine Ah rfl ?_|refine Ae rfl ?_))<;>(refine CQ rfl rfl rfl ?_<;>refine AG rfl rfl ?_<;>refine Aw rfl rfl ?_<;>(refine o_z ?_))<;>(repeat (first|refine At ?_|refine Ah rfl ?_|refine Ae rfl ?_))<;>(refine Ar rfl rfl ?_<;>refine Ar rfl rfl ?_<;>refine QO rfl rfl rfl ?_<;>refine Ar rfl rfl ?_<;>(first|refine FO rfl rfl ?_|refine FN rfl rfl rfl ?_)<;>refine QN rfl rfl rfl ?_<;>refine Rj rfl rfl rfl ?_<;>refine Aw rfl rfl ?_<;>(refine o_z ?_))<;>(repeat (first|refine At ?_|refine Ah rfl ?_|refine Ae rfl ?_))<;>(refine Ar rfl rfl ?_<;>refine Ar rfl rfl ?_<;>(first|refine Dp rfl rfl rfl ?_|refine Dq rfl rfl rfl ?_|refine CX rfl rfl rfl (fun _=>?_) fun _=>?_)<;>(refine o_z ?_))<;>(repeat (first|refine At ?_|refine Ah rfl ?_|refine Ae rfl ?_)))
    · ((repeat (first|refine At ?_|refine Ah rfl ?_|refine Ae rfl ?_))<;>(refine Ar rfl rfl ?_<;>(first|refine FO rfl rfl ?_|refine FN rfl rfl rfl ?_)<;>refine Aw rfl rfl ?_<;>(refine o_z ?_))<;>(repeat (first|refine At ?_|refine Ah rfl ?_|refine Ae rfl ?_)))
      refine ret1 rfl rfl ⟨?_,Below.refl _ _⟩
      rw [if_pos (by assumption)] at hh
      rw [← hh]
    · rw [if_neg (by assumption)] at hh
      exact ⟨n * min (max x 0) (most + 1),⟨rfl,rfl,rfl,rfl,rfl,trivial⟩,rfl,hp0,by omega,hh⟩
  rintro n _ ⟨rfl,_,_,hh⟩
  repeat (first|refine At ?_|refine Ah rfl ?_|refine Ae rfl ?_)
  ((repeat (first|refine At ?_|refine Ah rfl ?_|refine Ae rfl ?_))<;>(refine Ar rfl rfl ?_<;>refine Aw rfl rfl ?_<;>(refine o_z ?_))<;>(repeat (first|refine At ?_|refine Ah rfl ?_|refine Ae rfl ?_)))
  refine ret1 rfl rfl ⟨?_,Below.refl _ _⟩
  rw [← hh,List.drop_length];rfl
def SmallOk (t:Tsk):Prop:=t.vars.length≤12∧t.ops.length≤20∧(∀ (i:Nat) o,t.ops[i]?=some o→o.effs.length≤8)∧TaskOk t∧manyF 512 t.vars 1≤512
theorem baseSmall {w:World} {tv:Value} {t:Tsk} (ht:V w tv t) :
    Fn Tryz.prog 9 [tv] w fun v w'=>v=.bool (bof (SmallOk t))∧Ext w w':=by
  have ht0:=ht
  obtain ⟨cs,rfl,a,b,c,d,rfl,hvars,hinit,hgoal,hops⟩:=ht
  obtain ⟨Av,cv,rfl⟩:=hvars.form
  obtain ⟨Ai,ci,rfl⟩:=hinit.form
  obtain ⟨Ag,cg,rfl⟩:=hgoal.form
  obtain ⟨Ao,co,rfl⟩:=hops.form
  have hvl:=hvars.len
  have hol:=hops.len
  refine AK Tryz.func9 rfl Tryz.ntmps9 rfl ?_
  repeat (first|refine At ?_|refine Ah rfl ?_|refine Ae rfl ?_)
  refine Dg rfl rfl fun w1 hN=>?_
  have hb1:=hN.blk
  have hE1:Ext w w1:=hN.ext
  (refine Aw rfl rfl ?_<;>(refine o_z ?_))
  repeat (first|refine At ?_|refine Ah rfl ?_|refine Ae rfl ?_)
  ((repeat (first|refine At ?_|refine Ah rfl ?_|refine Ae rfl ?_))<;>(refine AJ rfl rfl ?_<;>refine AG rfl rfl ?_<;>refine AY rfl rfl ?_<;>(first|refine Dp rfl rfl rfl ?_|refine Dq rfl rfl rfl ?_|refine CX rfl rfl rfl (fun _=>?_) fun _=>?_)<;>refine Ar rfl rfl ?_<;>(first|(refine Az rfl rfl ?_;refine AJ rfl rfl ?_)|refine Au rfl rfl rfl rfl ?_)<;>(first|(refine Az rfl rfl ?_;refine AG rfl rfl ?_)|refine Au rfl rfl rfl rfl ?_)<;>(first|(refine Az rfl rfl ?_;refine AY rfl rfl ?_)|refine Au rfl rfl rfl rfl ?_)<;>(first|(refine Az rfl rfl ?_;(first|refine Dp rfl rfl rfl ?_|refine Dq rfl rfl rfl ?_|refine CX rfl rfl rfl (fun _=>?_) fun _=>?_))|refine Au rfl rfl rfl rfl ?_)<;>(first|refine Bq rfl rfl rfl ?_|refine Br rfl rfl rfl ?_)<;>(refine o_z ?_))<;>(repeat (first|refine At ?_|refine Ah rfl ?_|refine Ae rfl ?_)))
  all_goals try (
    ((repeat (first|refine At ?_|refine Ah rfl ?_|refine Ae rfl ?_))<;>(refine Aw rfl rfl ?_<;>(refine o_z ?_))<;>(repeat (first|refine At ?_|refine Ah rfl ?_|refine Ae rfl ?_)))
    refine ret1 rfl rfl ⟨?_,hE1⟩
    rw [AM (fun h=>by obtain ⟨h1,h2,_⟩:=h;omega)])
  ((repeat (first|refine At ?_|refine Ah rfl ?_|refine Ae rfl ?_))<;>(refine AJ rfl rfl ?_<;>refine AG rfl rfl ?_<;>refine AY rfl rfl ?_<;>refine Ar rfl rfl ?_<;>(refine o_z ?_))<;>(repeat (first|refine At ?_|refine Ah rfl ?_|refine Ae rfl ?_)))
  refine BM t.ops.length (by omega) (fun _:Unit=>[(1,.pointer (some ⟨w.heap.size,0,none⟩)),(16,.slice Ao t.ops.length co)]) (fun k _ w'=>Ext w1 w'∧∀ i,i < k→∀ o,t.ops[i]?=some o→o.effs.length≤8) ()
    ⟨Below.refl _ _,fun i hi=>by omega⟩ ⟨rfl,rfl,rfl,rfl,trivial⟩ (fun _=>⟨rfl,rfl⟩) ⟨rfl,rfl,rfl⟩ ⟨rfl,rfl⟩ ?_ ?_
  · rintro k _ w4 hk ⟨hE4,hh⟩
    obtain ⟨o,ho⟩:=AD hk
    obtain ⟨b2,o2,ce,rfl,_,_,hd1,p,q,rfl,hp,hq,hc,hn⟩:=(hops.ext (hE1.trans' hE4)).elem ho
    obtain ⟨Ap,cp,rfl⟩:=hp.form
    obtain ⟨Aq,cq,rfl⟩:=hq.form
    ((repeat (first|refine At ?_|refine Ah rfl ?_|refine Ae rfl ?_))<;>(refine CQ rfl rfl rfl ?_<;>refine Bi rfl rfl ?_)<;>(repeat (first|refine At ?_|refine Ah rfl ?_|refine Ae rfl ?_)))
    refine Cg rfl rfl rfl (by simp [Value.cells,Value.oneCell']) fun w5 hN5=>?_
    have hb2:=hN5.blk
    have hE5:Ext w1 w5:=hE4.trans' hN5.ext
    ((refine o_z ?_))
    repeat (first|refine At ?_|refine Ah rfl ?_|refine Ae rfl ?_)
    ((repeat (first|refine At ?_|refine Ah rfl ?_|refine Ae rfl ?_))<;>(refine AJ rfl rfl ?_<;>refine AG rfl rfl ?_<;>refine AY rfl rfl ?_<;>(first|refine Dp rfl rfl rfl ?_|refine Dq rfl rfl rfl ?_|refine CX rfl rfl rfl (fun _=>?_) fun _=>?_)<;>(refine o_z ?_))<;>(repeat (first|refine At ?_|refine Ah rfl ?_|refine Ae rfl ?_)))
    · ((repeat (first|refine At ?_|refine Ah rfl ?_|refine Ae rfl ?_))<;>(refine Aw rfl rfl ?_<;>(refine o_z ?_))<;>(repeat (first|refine At ?_|refine Ah rfl ?_|refine Ae rfl ?_)))
      refine ret1 rfl rfl ⟨?_,hE1.trans' hE5⟩
      rw [AM (fun h=>by have:=h.2.2.1 k o ho;omega)]
    · exact ⟨(),⟨rfl,rfl,rfl,rfl,trivial⟩,hE5,Cv hh fun o' ho'=>by rw [ho] at ho';injection ho' with ho';subst ho';omega⟩
  rintro _ w4 ⟨hE4,hh⟩
  replace hb1:=hb1.ext hE4
  replace hE4:Ext w w4:=hE1.trans' hE4
  repeat (first|refine At ?_|refine Ah rfl ?_|refine Ae rfl ?_)
  (refine Bi rfl rfl ?_)
  refine CJ rfl rfl (baseGood (ht0.ext hE4)) ?_ ?_
  · intro w5 hgood hE5
    replace hb1:=hb1.ext hE5
    replace hE5:Ext w w5:=hE4.trans' hE5
    (refine Ar rfl rfl ?_<;>(first|(refine Az rfl rfl ?_;refine AJ rfl rfl ?_)|refine Au rfl rfl rfl rfl ?_)<;>(first|(refine Az rfl rfl ?_;refine AG rfl rfl ?_)|refine Au rfl rfl rfl rfl ?_))
    refine Az rfl rfl ?_
    refine By rfl rfl (baseMany (hvars.ext hE5) (by decide) (by decide)) ?_
    rintro _ w6 ⟨rfl,hE6⟩
    ((first|(refine Az rfl rfl ?_;(first|refine KH rfl rfl rfl ?_|refine KI rfl rfl rfl ?_|refine MB rfl rfl rfl (fun _=>?_) fun _=>?_))|refine Au rfl rfl rfl rfl ?_)<;>(first|refine Bq rfl rfl rfl ?_|refine Br rfl rfl rfl ?_)<;>refine Aw rfl rfl ?_<;>(refine o_z ?_))
    all_goals
      repeat (first|refine At ?_|refine Ah rfl ?_|refine Ae rfl ?_)
      refine ret1 rfl rfl ⟨?_,hE5.trans' hE6⟩
    · rw [Bd ⟨by omega,by omega,fun i o ho=>hh i (BG ho) o ho,hgood,by assumption⟩]
    · rw [AM (fun h=>absurd h.2.2.2.2 (by assumption))]
  · intro w5 hgood hE5
    (refine Ar rfl rfl ?_<;>(first|(refine Az rfl rfl ?_;refine AJ rfl rfl ?_)|refine Au rfl rfl rfl rfl ?_)<;>(first|(refine Az rfl rfl ?_;refine AG rfl rfl ?_)|refine Au rfl rfl rfl rfl ?_))
    refine Au rfl rfl rfl rfl ?_
    ((first|(refine Az rfl rfl ?_;(first|refine KH rfl rfl rfl ?_|refine KI rfl rfl rfl ?_|refine MB rfl rfl rfl (fun _=>?_) fun _=>?_))|refine Au rfl rfl rfl rfl ?_)<;>(first|refine Bq rfl rfl rfl ?_|refine Br rfl rfl rfl ?_)<;>refine Aw rfl rfl ?_<;>(refine o_z ?_))
    repeat (first|refine At ?_|refine Ah rfl ?_|refine Ae rfl ?_)
    refine ret1 rfl rfl ⟨?_,hE4.trans' hE5⟩
    rw [AM (fun h=>hgood h.2.2.2.1)]
end
end Go.Proofs.YtecegaabajeolaaGreat

/- Own text: what the proof of compileWaits_holds uses, part 6: rules, models and their proofs, plain laws. -/
import Derived.Test.YtjohlgjklmagnaaGreatDoorCWE
set_option linter.unusedVariables false
set_option linter.unusedSimpArgs false
namespace Go.Proofs.YtjohlgjklmagnaaGreatDoor
open Go Go.RowKit
section
open Go Go.RowKit
theorem KX {R:Fct→Fct→Prop}:∀ {a b:List Fct},a.Perm b→a.Pairwise R→b.Pairwise R→(∀ x y,R x y→¬ R y x)→a=b
  | [],b,h,_,_,_=>(List.nil_perm.1 h).symm
  | x :: a,[],h,_,_,_=>by simp at h
  | x :: a,y :: b,h,ha,hb,hR=>by
    obtain ⟨ha1,ha2⟩:=List.pairwise_cons.1 ha
    obtain ⟨hb1,hb2⟩:=List.pairwise_cons.1 hb
    have hx:x∈y :: b:=h.mem_iff.1 List.mem_cons_self
    have hy:y∈x :: a:=h.mem_iff.2 List.mem_cons_self
    have e:x=y:=by
      rcases List.mem_cons.1 hx with rfl|hx
      · rfl
      · rcases List.mem_cons.1 hy with rfl|hy
        · rfl
        · exact absurd (hb1 x hx) (hR x y (ha1 y hy))
    subst e
    rw [KX ((List.perm_cons x).1 h) ha2 hb2 hR]
theorem Np {u v:List Fct} (h:u.Perm v) (hv:v.Pairwise fun x y=>x.var < y.var):AG u=v:=by
  have hp:=(Ja u).trans h
  have hn:(v.map (·.var)).Nodup:=by
    rw [List.nodup_iff_pairwise_ne,List.pairwise_map]
    exact hv.imp fun h=>by omega
  have hn2:((AG u).map (·.var)).Nodup:=((hp.map (·.var)).nodup_iff).2 hn
  rw [List.nodup_iff_pairwise_ne,List.pairwise_map] at hn2
  have hs:=Py u
  exact KX hp (hs.imp₂ (fun a b h1 h2=>by omega) hn2) hv fun x y h1 h2=>by omega
def insF1 (a:Fct):List Fct→List Fct
  | []=>[a]
  | b :: r=>if a.var < b.var then a :: b :: r else b :: insF1 a r
def insF:List Fct→List Fct
  | []=>[]
  | a :: r=>insF1 a (insF r)
theorem MU (a:Fct):∀ r,(insF1 a r).Perm (a :: r)
  | []=>.refl _
  | b :: r=>by
    simp only [insF1]
    split
    · exact .refl _
    · exact ((MU a r).cons b).trans (.swap a b r)
theorem NR:∀ l,(insF l).Perm l
  | []=>.refl _
  | a :: r=>(MU a _).trans ((NR r).cons a)
def ltF1:List Fct→Bool
  | a :: b :: r=>decide (a.var < b.var) && ltF1 (b :: r)
  | _=>true
theorem PR:∀ {l:List Fct},ltF1 l=true→l.Pairwise fun x y=>x.var < y.var
  | [],_=>.nil
  | [a],_=>List.pairwise_singleton _ _
  | a :: b :: r,h=>by
    simp only [ltF1,Bool.and_eq_true,decide_eq_true_eq] at h
    have ih:=PR h.2
    refine List.pairwise_cons.2 ⟨fun c hc=>?_,ih⟩
    rcases List.mem_cons.1 hc with rfl|hc
    · exact h.1
    · have:=(List.pairwise_cons.1 ih).1 c hc;omega
def srtE (u:List Fct):Option (List Fct):=if u.length < 4611686018427387904∧ltF1 (insF u)=true then some (insF u) else none
theorem TS {u r:List Fct} (h:srtE u=some r):(if u.length < 4611686018427387904 then some (AG u) else none)=some r:=by
  obtain ⟨⟨h1,h2⟩,rfl⟩:=Di h
  rw [if_pos h1,Np (NR u).symm (PR h2)]
theorem PS (x:Int):Ek x=if 0≤x∧x < 100 then some (itoaB x.toNat) else none:=by
  unfold Ek Ee Ej
  by_cases h:0≤x∧x < 100
  · rw [if_pos h,if_pos ⟨rfl,h⟩];rfl
  · rw [if_neg h,if_neg (fun q=>h q.2)];rfl
end
section
open Go Go.RowKit
def lift1 (n:Nat) (Q:Post) (e:Exit) (a:Act) (w:World):Prop:=noPanic e∧∃ l,Ok n a l∧Q e l w
def ewp1 (P:Program) (n:Nat) (c:Code) (Q:Post) (l:Env) (w:World):Prop:=∀ a,Ok n a l→c.wp P (lift1 n Q) a w
def owp1 (P:Program) (n:Nat) (ops:Array Oper) (Q:Post) (rest:List Oper) (l:Env) (w:World):Prop:=∀ a,Ok n a l→wpList P ops (lift1 n Q) rest a w
section
variable {P : Program} {n : Nat} {Q : Post} {l : Env} {w : World}
theorem EP {x y:Code} (h:ewp1 P n x (thn (ewp1 P n y Q) Q) l w):ewp1 P n (.seq x y) Q l w:=fun a ha =>
  wp_seq (Code.wp_mono (fun e a w hl=>by
    obtain ⟨hn,l',ho,hq⟩:=hl
    cases e with
    | normal=>exact hq a ho
    | panic c=>exact hn.elim
    | outgrown=>exact hn.elim
    | exit i=>exact ⟨trivial,l',ho,hq⟩
    | goto i=>exact ⟨trivial,l',ho,hq⟩
    | ret=>exact ⟨trivial,l',ho,hq⟩) (h a ha))
theorem Pa (h:Q .normal l w):ewp1 P n .skip Q l w:=fun _ ha=>wp_skip ⟨trivial,l,ha,h⟩
theorem Sz {i:Nat} (h:Q (.exit i) l w):ewp1 P n (.exit i) Q l w:=fun _ ha=>wp_exit ⟨trivial,l,ha,h⟩
theorem Nq (h:Q .ret l w):ewp1 P n .ret Q l w:=fun _ ha=>wp_ret ⟨trivial,l,ha,h⟩
theorem Pb {c:Operand} {x y:Code} (hc:opv l c=some (.bool true)) (h:ewp1 P n x Q l w):ewp1 P n (.cond c x y) Q l w:=fun a ha=>wp_cond_true (ha.eval hc) (h a ha)
theorem NS {c:Operand} {x y:Code} (hc:opv l c=some (.bool false)) (h:ewp1 P n y Q l w):ewp1 P n (.cond c x y) Q l w:=fun a ha=>wp_cond_false (ha.eval hc) (h a ha)
theorem NT {id:Nat} {c:Code} (h:ewp1 P n c (inBlk id Q) l w):ewp1 P n (.block id c) Q l w:=fun a ha =>
  wp_block (Code.wp_mono (fun e a w hl=>by
    obtain ⟨hn,l',ho,hq⟩:=hl
    cases e with
    | exit i =>
      simp only [Exit.inBlock]
      simp only [inBlk] at hq
      by_cases hi:i=id
      · subst hi
        have hb:Nat.beq i i=true:=Nat.beq_refl i
        rw [hb] at hq
        rw [if_pos rfl]
        exact ⟨trivial,l',ho,hq⟩
      · have hb:Nat.beq i id=false:=by
          cases hx:Nat.beq i id
          · rfl
          · exact absurd (Nat.eq_of_beq_eq_true hx) hi
        rw [hb] at hq
        rw [if_neg hi]
        exact ⟨trivial,l',ho,hq⟩
    | panic c=>exact hn.elim
    | outgrown=>exact hn.elim
    | normal=>exact ⟨trivial,l',ho,hq⟩
    | goto i=>exact ⟨trivial,l',ho,hq⟩
    | ret=>exact ⟨trivial,l',ho,hq⟩) (h a ha))
theorem Eq {id:Nat} {L:List Oper} (h:owp1 P n L.toArray Q L l w):ewp1 P n (.region id L.toArray false) Q l w:=fun a ha=>wp_region_lit (h a ha)
theorem SA {c:Code} (E:Nat→Env) (I:Nat→Prop) (N k₀:Nat) (hs:subs l (E k₀)) (h₀:I k₀)
    (round:∀ k,I k→k≤N∧ewp1 P n c (thn (fun l' w'=>w'=w∧subs l' (E (k + 1))∧I (k + 1)) Q) (E k) w):ewp1 P n (.loop c) Q l w:=by
  intro a ha
  have hex:∀ a' w',(∃ k,w'=w∧Ok n a' (E k)∧I k)→∃ m,(∃ k,w'=w∧Ok n a' (E k)∧I k∧N - k=m)∧∀ k,Ok n a' (E k)→I k→m≤N - k:=by
    intro a' w' ⟨k,h1,h2,h3⟩
    have:∀ (q k:Nat),N - k≤q→Ok n a' (E k)→I k→∃ m,(∃ k,w'=w∧Ok n a' (E k)∧I k∧N - k=m)∧∀ k,Ok n a' (E k)→I k→m≤N - k:=by
      intro q
      induction q with
      | zero=>intro k hq ho hI;exact ⟨N - k,⟨k,h1,ho,hI,rfl⟩,fun _ _ _=>by omega⟩
      | succ q ih =>
        intro k hq ho hI
        by_cases hx:∃ k',Ok n a' (E k')∧I k'∧N - k'≤q
        · obtain ⟨k',g1,g2,g3⟩:=hx
          exact ih k' g3 g1 g2
        · refine ⟨N - k,⟨k,h1,ho,hI,rfl⟩,fun k' g1 g2=>?_⟩
          rcases Nat.lt_or_ge (N - k') (N - k) with h|h
          · exact absurd ⟨k',g1,g2,by omega⟩ hx
          · exact h
    exact this _ k (Nat.le_refl _) h2 h3
  refine wp_loop (fun a' w'=>∃ k,w'=w∧Ok n a' (E k)∧I k) (fun a' w'=>Classical.epsilon fun m=>(∃ k,w'=w∧Ok n a' (E k)∧I k∧N - k=m)∧∀ k,Ok n a' (E k)→I k→m≤N - k) ⟨k₀,rfl,ha.sub hs,h₀⟩ ?_
  intro a' w' hinv
  obtain ⟨⟨k,rfl,ho,hI,hk⟩,_⟩:=Classical.epsilon_spec (hex a' w' hinv)
  obtain ⟨hkN,hr⟩:=round k hI
  refine Code.wp_mono (fun e a'' w'' hl=>?_) (hr a' ho)
  obtain ⟨hn,l',ho',hq⟩:=hl
  cases e with
  | normal =>
    obtain ⟨rfl,hs₂,hI₂⟩:=hq
    have ho₂:=ho'.sub hs₂
    refine ⟨⟨k + 1,rfl,ho₂,hI₂⟩,?_⟩
    obtain ⟨_,hmin⟩:=Classical.epsilon_spec (hex a'' w'' ⟨k + 1,rfl,ho₂,hI₂⟩)
    have h1:=hmin (k + 1) ho₂ hI₂
    have h2:=(round (k + 1) hI₂).1
    exact Nat.lt_of_le_of_lt h1 (Nat.lt_of_lt_of_eq (by omega) hk)
  | panic c=>exact hn.elim
  | outgrown=>exact hn.elim
  | exit i=>exact ⟨trivial,l',ho',hq⟩
  | goto i=>exact ⟨trivial,l',ho',hq⟩
  | ret=>exact ⟨trivial,l',ho',hq⟩
variable {ops : Array Oper} {rest : List Oper} {d : Tmp} {ty : TypeId} {pos : String} {aft : Array Edge}
theorem HM {K:Env→World→Prop} [h:NilQ Q K] (hk:K l w):owp1 P n ops Q [] l w:=fun _ ha=>wpList_nil ⟨trivial,l,ha,h.of l w hk⟩
theorem DT {op:Op} {v:Value} (he:Ev P ⟨some d,op,ty,pos,aft,none⟩ l w v) (hd:Nat.blt d n=true) (h:owp1 P n ops Q rest ((d,v) :: l) w):owp1 P n ops Q (⟨some d,op,ty,pos,aft,none⟩ :: rest) l w :=
  fun a ha=>wpList_plain rfl fun K hK=>by
    unfold Oper.wp
    have:=he n a w.drawn ha
    rw [Hc] at this
    rw [this]
    exact hK _ _ (h _ (ha.put hd v))
theorem Ml {f:FuncId} [hf:Callable P f] {xs:List Operand} {vs:List Value} {ts:Array TypeId} {v:Value} (hx:opvs l xs=some vs) (hd:Nat.blt d n=true) (hc:Calls P f vs.toArray w fun e w'=>e=.returned v∧w'=w)
    (h:owp1 P n ops Q rest ((d,v) :: l) w):owp1 P n ops Q (⟨some d,.call { callee:=.value (.func f),args:=xs.toArray,argTypes:=ts },ty,pos,aft,none⟩ :: rest) l w :=
  fun a ha=>wpList_plain rfl fun K hK=>by
    obtain ⟨fn,h1,h2,h3⟩:=hf.eq
    have h2':¬ fn.body=none:=fun e=>by rw [e] at h2;simp at h2
    have h3' : ¬ fn.name = "runtime.NumGoroutine" := fun e => by rw [e] at h3; simp at h3
    unfold Oper.wp
    have hev:a.eval (.func f)=.func (.func f) #[] #[]:=rfl
    have:(execOp a.eval ⟨some d,.call { callee:=.value (.func f),args:=xs.toArray,argTypes:=ts },ty,pos,aft,none⟩).run P w=.ok (.enter f vs.toArray) w:=by
      simp [execOp,resolve,hev,Deferred.ofValue,invoke,callFunc,h1,h2',h3',ha.evals hx]
    rw [this]
    exact hc.mono fun _ _ ⟨he,hw⟩=>by subst he;subst hw;exact hK _ _ (h _ (ha.put hd v))
end
theorem Ry {P:Program} {f:FuncId} {fn:Func} {c:Code} {vs:List Value} {w:World} {v:Value} {n:Nat} (hf:P.funcs[f]?=some fn) (hb:fn.body=some c) (hn:fn.ntmps=n) (hl:Nat.ble vs.length n=true)
    (h:ewp1 P n c (retPost P fn fun u w'=>u=v∧w'=w) (ent 0 vs) w):Calls P f vs.toArray w fun e w'=>e=.returned v∧w'=w:=by
  have hl':vs.length≤n:=by simpa using hl
  refine calls_of_wp hf hb (Code.wp_mono (fun e a w' hq=>?_) (h _ (?_:Ok n { tmps:=vs.toArray ++ Array.replicate (fn.ntmps - vs.toArray.size) undef,defers:=[] } (ent 0 vs))))
  · obtain ⟨hp,l,ho,q⟩:=hq
    cases e with
    | normal=>obtain ⟨v',hr,hv,hw⟩:=q;subst hv hw;have:=hr n a w'.drawn ho;rw [Hc] at this;exact ⟨ho.defers,v',this,rfl,rfl⟩
    | ret=>obtain ⟨v',hr,hv,hw⟩:=q;subst hv hw;have:=hr n a w'.drawn ho;rw [Hc] at this;exact ⟨ho.defers,v',this,rfl,rfl⟩
    | panic c=>exact hp.elim
    | outgrown=>exact hp.elim
    | exit i=>exact q.elim
    | goto i=>exact q.elim
  · refine ⟨by simp [hn];omega,rfl,fun i v hv=>?_⟩
    obtain ⟨_,h2⟩:=Mx vs 0 i v hv
    simp only [Nat.sub_zero] at h2
    have hi:i < vs.length:=(List.getElem?_eq_some_iff.1 h2).1
    simp only [Array.getD_eq_getD_getElem?]
    rw [Array.getElem?_append_left (by simpa using hi)]
    simp [h2]
end
section
open Go Go.RowKit
section
variable {P : Program} {n : Nat} {Q : Post} {ops : Array Oper} {rest : List Oper} {l : Env} {w : World} {d : Tmp} {ty : TypeId} {pos : String} {aft : Array Edge} {S : World → Prop}
theorem Lp (h:Q .normal l w):owp1 P n ops Q [] l w:=fun _ ha=>wpList_nil ⟨trivial,l,ha,h⟩
theorem PT {op:Op} {v:Value} {w':World} (he:∀ a,Ok n a l→(execOp a.eval ⟨some d,op,ty,pos,aft,none⟩).run P w=.ok (.value v) w') (hd:Nat.blt d n=true) (h:owp1 P n ops Q rest ((d,v) :: l) w'):owp1 P n ops Q (⟨some d,op,ty,pos,aft,none⟩ :: rest) l w :=
  fun a ha=>wpList_plain rfl fun K hK=>by
    unfold Oper.wp
    rw [he a ha]
    exact hK _ _ (h _ (ha.put hd v))
theorem PU {t:TypeId} {x:Operand} {v:Value} (hx:opv l x=some v) (hd:Nat.blt d n=true) (h:owp1 P n ops Q rest ((d,.pointer (some ⟨w.heap.size,0,none⟩)) :: l) (w.alloc (.cells v.cells t))):owp1 P n ops Q (⟨some d,.box t x,ty,pos,aft,none⟩ :: rest) l w :=
  PT (fun a ha=>by simp [execOp,Instr.box,ha.eval hx,newVar,FN]) hd h
theorem QC {t e:TypeId} [hs:TSlice P t e] {z:Value} {size bytes len:Nat} [TInfo P e z size bytes] {ps:List (Nat×Operand)} {vs:List Value} (hk:idxOk 0 ps=true) (hx:opvs l (ps.map (·.2))=some vs) (hlen:vs.length=len) (hv:∀ v∈vs,v.cells.toList.length=size) (hz:len * size≤16777216) (hd:Nat.blt d n=true)
    (h:owp1 P n ops Q rest ((d,.slice (some ⟨w.heap.size,0,none⟩) len len) :: l) (w.alloc (.cells (vs.flatMap fun v=>v.cells.toList).toArray e))):owp1 P n ops Q (⟨some d,.buildSlice t len ps.toArray,ty,pos,aft,none⟩ :: rest) l w :=
  PT (fun a ha=>by
    have hps:(ps.map fun p=>(p.1,a.eval p.2))=idxs 0 vs:=by
      rw [LN ps 0 hk,LO,ha.evals hx]
    have hv':∀ v∈vs,v.cells.size=size:=fun v hm=>by simpa using hv v hm
    have h24:¬ 16777216 < len * size:=by omega
    have hf:∀ acc:Array Value,acc.size=len * size→Instr.fill (fun i=>some (i * size,size)) acc (idxs 0 vs)=some (vs.flatMap fun v=>v.cells.toList).toArray:=fun acc hacc=>by
      obtain ⟨out,ho1,ho2⟩:=LP (size:=size) vs 0 acc [] acc.toList (by simp) (by simp) (by simp [hacc,hlen]) hv'
      rw [ho1]
      congr 1
      apply Array.toList_inj.1
      rw [ho2];simp
    simp only [execOp,Instr.buildSlice]
    by_cases h0:len * size=0
    · simp [run_underlying hs.eq,DN (P:=P) (t:=e),h0]
      rw [hps,hf _ (by simp [h0])]
      simp [FN]
    · simp [run_underlying hs.eq,DN (P:=P) (t:=e),Iu (P:=P) (t:=e),h0,h24]
      rw [hps,hf _ (by simp)]
      simp [FN]) hd h
def hwp1 (P:Program) (n:Nat) (ops:Array Oper) (Q:Post) (S:World→Prop) (ord:List (Nat×Bool)) (l:Env) (w:World):Prop:=∀ a,Ok n a l→wpOrd P ops (lift1 n Q) S ord a w
theorem TT (h:Q .normal l w):hwp1 P n ops Q S [] l w:=fun _ ha=>⟨trivial,l,ha,h⟩
theorem Ig {i:Nat} {op:Op} {r:List (Nat×Bool)} {v:Value} (hi:ops[i]?=some ⟨some d,op,ty,pos,aft,none⟩) (he:∀ w',S w'→Ev P ⟨some d,op,ty,pos,aft,none⟩ l w' v) (hn:Nat.blt d n=true) (h:hwp1 P n ops Q S r ((d,v) :: l) w):hwp1 P n ops Q S ((i,true) :: r) l w:=fun a ha =>
  ⟨_,v,hi,.inl ⟨by simp [Region.wanted],fun w' hS=>by have:=he w' hS n a w'.drawn ha;rwa [Hc] at this⟩,h _ (ha.put hn v)⟩
def loud1 (P:Program) (n:Nat) (ops:Array Oper) (Q:Post) (S:World→Prop) (r:List (Nat×Bool)):Post
  | .normal,l,w=>(r≠[]→S w)∧hwp1 P n ops Q S r l w
  | _,_,_=>False
theorem Kd {i:Nat} {o:Oper} {r:List (Nat×Bool)} (hi:ops[i]?=some o) (h:owp1 P n ops (loud1 P n ops Q S r) [o] l w):hwp1 P n ops Q S ((i,false) :: r) l w:=fun a ha=>by
  have h1:=h a ha
  show wpOp P ops (lift1 n Q) i _ a w
  unfold wpList at h1
  unfold wpOp
  simp only [hi]
  have conv:∀ a' w',lift1 n (loud1 P n ops Q S r) .normal a' w'→(r≠[]→S w')∧wpOrd P ops (lift1 n Q) S r a' w':=by
    rintro a' w' ⟨_,l',ho,hS,hh⟩
    exact ⟨hS,hh a' ho⟩
  have nope:∀ e' a' w',lift1 n (loud1 P n ops Q S r) e' a' w'→e'=.normal:=by
    rintro e' a' w' ⟨hn,l',ho,hh⟩
    cases e'<;>first|rfl|exact hh.elim
  by_cases hw:Region.wanted o (yielded ops a.tmps)=true
  · rw [if_pos hw] at h1
    rw [if_pos hw]
    rcases h1 with h1|⟨h1,a0,w0,h2⟩
    · refine .inl ?_
      unfold Oper.wp at *
      generalize (execOp a.eval o).run P w=res at *
      cases res with
      | ok nx w' =>
        cases nx<;>simp only [Oper.upon] at h1 ⊢ <;>
          first
            | exact conv _ _ h1
            | exact Calls.mono h1 (fun en w'' he=>by
                cases en with
                | returned v=>exact conv _ _ he
                | panicked c=>exact absurd (nope _ _ _ he) (by simp)
                | outgrown=>obtain ⟨a0,w0,hq⟩:=he;exact absurd (nope _ _ _ hq) (by simp))
            | exact Rows.mono h1 (fun _ _ he=>conv _ _ he)
            | exact h1.elim
      | halt x w'=>cases x<;>simp only [Oper.upon] at h1 ⊢<;>first|exact h1.elim|exact absurd (nope _ _ _ h1) (by simp)
    · exact absurd (nope _ _ _ h2) (by simp)
  · rw [if_neg hw] at h1
    rw [if_neg hw]
    exact conv _ _ h1
theorem SB [hm:Mixed P] {id:Nat} {L:List Oper} (S:World→Prop) (ord:List (Nat×Bool)) (hs:Region.noSelect L.toArray=true) (hl:ord.length=L.toArray.size) (hc:ordOk L.toArray (Array.replicate L.toArray.size false) ord=true) (hS:S (dr w (w.drawn + 1)))
    (h:hwp1 P n L.toArray Q S ord l (dr w (w.drawn + 1))):ewp1 P n (.region id L.toArray true) Q l w:=fun a ha =>
  wp_region_any hm.eq (by
    have:=GH (P:=P) hs (Q:=lift1 n Q) (S:=S) (fun c a w hq=>hq.1) ord (Array.replicate L.toArray.size false) a (dr w (w.drawn + 1)) (fun m om hm=>by
      simp only [Array.getD_eq_getD_getElem?,Array.getElem?_replicate] at hm
      split at hm<;>simp at hm) hc (fun _=>hS) (h a ha)
    rw [hl] at this
    exact JJ _ _ _ _ this)
end
theorem QD {P:Program} {f:FuncId} {fn:Func} {c:Code} {vs:List Value} {w:World} {R:Value→World→Prop} {n:Nat} (hf:P.funcs[f]?=some fn) (hb:fn.body=some c) (hn:fn.ntmps=n) (hl:Nat.ble vs.length n=true)
    (h:ewp1 P n c (retPost P fn R) (ent 0 vs) w):Calls P f vs.toArray w fun e w'=>∃ v,e=.returned v∧R v w':=by
  have hl':vs.length≤n:=by simpa using hl
  refine calls_of_wp hf hb (Code.wp_mono (fun e a w' hq=>?_) (h _ (?_:Ok n { tmps:=vs.toArray ++ Array.replicate (fn.ntmps - vs.toArray.size) undef,defers:=[] } (ent 0 vs))))
  · obtain ⟨hp,l,ho,q⟩:=hq
    cases e with
    | normal=>obtain ⟨v',hr,hv⟩:=q;have:=hr n a w'.drawn ho;rw [Hc] at this;exact ⟨ho.defers,v',this,v',rfl,hv⟩
    | ret=>obtain ⟨v',hr,hv⟩:=q;have:=hr n a w'.drawn ho;rw [Hc] at this;exact ⟨ho.defers,v',this,v',rfl,hv⟩
    | panic c=>exact hp.elim
    | outgrown=>exact hp.elim
    | exit i=>exact q.elim
    | goto i=>exact q.elim
  · refine ⟨by simp [hn];omega,rfl,fun i v hv=>?_⟩
    obtain ⟨_,h2⟩:=Mx vs 0 i v hv
    simp only [Nat.sub_zero] at h2
    have hi:i < vs.length:=(List.getElem?_eq_some_iff.1 h2).1
    simp only [Array.getD_eq_getD_getElem?]
    rw [Array.getElem?_append_left (by simpa using hi)]
    simp [h2]
end
section
open Go Go.RowKit Go.Lib Go.Sort
def orL:List Int→Int
  | []=>0
  | x :: xs=>if x≠0 then x else orL xs
theorem SC {xs:List Int} {k:Nat} {x:Int} (h:xs[k]?=some x):orL (xs.drop k)=if x≠0 then x else orL (xs.drop (k + 1)):=by
  have:xs.drop k=x :: xs.drop (k + 1):=by
    rw [List.drop_eq_getElem_cons (Bj h)]
    rw [List.getElem?_eq_getElem (Bj h)] at h
    rw [Option.some.inj h]
  rw [this];rfl
theorem SD {W:World} {F:Nat→Prop} {v:Value} {xs:List Int} (h1:Vb W F v xs):Calls Tryz.prog 114 [v].toArray W fun e w'=>e=.returned (.int .i64 (orL xs))∧w'=W:=by
  obtain ⟨A1,c1,rfl⟩:=h1.form
  have l1:xs.length≤9223372036854775807:=Nat.le_trans h1.len.2.1 h1.len.2.2
  refine Ry Tryz.func114 rfl Tryz.ntmps114 rfl ?_
  refine EP (Eq (DT (Fc rfl) rfl (HM ?_)))
  refine EP (Eq (DT (Fc rfl) rfl (HM ?_)))
  refine EP (EP (Eq (DT (Fq rfl) rfl (DT (Mu rfl) rfl (DT (Fq rfl) rfl (HM ?_))))))
  refine NT (SA (fun k=>[(3,.int .i64 0),(6,.slice A1 xs.length c1),(7,.int .i64 (xs.length:Int)),(8,.int .i64 (k:Int))]) (fun k=>k≤xs.length∧orL xs=orL (xs.drop k)) xs.length 0 ⟨rfl,rfl,rfl,rfl,trivial⟩ ⟨Nat.zero_le _,rfl⟩ fun k hk=>⟨hk.1,?_⟩)
  obtain ⟨k1,k3⟩:=hk
  refine EP (Eq (DT (Eu rfl rfl) rfl (HM ?_)))
  refine EP ?_
  by_cases hlt:(k:Int) < (xs.length:Int)
  · rw [decide_eq_true hlt]
    refine Pb rfl (Pa ?_)
    obtain ⟨x,hx⟩:∃ x,xs[k]?=some x:=⟨xs[k],List.getElem?_eq_getElem (by omega)⟩
    obtain ⟨b1,o1,ce1,hA1,hl1,hd1,rfl,r1⟩:=h1.elem' hx
    have hst:=SC hx
    refine EP (NT ?_)
    refine EP (Eq (DT (MG rfl rfl hA1 rfl hl1) rfl (DT (FM rfl (cat0 hd1)) rfl (DT (Fc rfl) rfl (HM ?_)))))
    refine EP (Eq (DT (Fq rfl) rfl (DT (Fq rfl) rfl (DT (ED rfl rfl) rfl (HM ?_)))))
    by_cases hc:x≠0
    · rw [decide_eq_true hc]
      rw [if_pos hc] at hst
      refine Pb rfl (EP (Eq (DT (Fq rfl) rfl (DT (Fc rfl) rfl (HM ?_)))))
      refine Nq ?_
      exact ⟨_,res1 rfl (At rfl),by rw [k3,hst],rfl⟩
    · rw [decide_eq_false hc]
      rw [if_neg hc] at hst
      refine NS rfl (Pa ?_)
      refine Eq (DT (Ov rfl rfl (by omega)) rfl (DT (Fq rfl) rfl (HM ?_)))
      exact ⟨rfl,⟨rfl,rfl,rfl,rfl,trivial⟩,by omega,by rw [k3,hst]⟩
  · rw [decide_eq_false hlt]
    refine NS rfl (Sz ?_)
    refine EP (Eq (DT (Fq rfl) rfl (DT (Fc rfl) rfl (HM ?_))))
    have hkx:k=xs.length:=by omega
    refine Nq ?_
    exact ⟨_,res1 rfl (At rfl),by rw [k3,hkx,List.drop_length];rfl,rfl⟩
def encU (x:Lch):List Value:=[.int .i64 x.tm,.int .i64 x.job]
def cfU (x y:Lch):Int:=orL [Lib.compareInt x.tm y.tm,Lib.compareInt x.job y.job]
theorem PV (a b:Int):inI64 (Lib.compareInt a b):=by unfold Lib.compareInt inI64;split<;>(try split)<;>omega
theorem closureU (x y:Lch) (W:World):Calls Tryz.prog 113 #[.agg #[.int .i64 x.tm,.int .i64 x.job],.agg #[.int .i64 y.tm,.int .i64 y.job]] W fun e w'=>e=.returned (.int .i64 (cfU x y))∧∃ q os',w'=grow (W.drewN q) os':=by
  have main:=QD (P:=Tryz.prog) (f:=113) (vs:=[.agg #[.int .i64 x.tm,.int .i64 x.job],.agg #[.int .i64 y.tm,.int .i64 y.job]]) (w:=W) (R:=fun v w'=>v=.int .i64 (cfU x y)∧∃ q os',w'=grow (W.drewN q) os') Tryz.func113 rfl Tryz.ntmps113 rfl ?_
  · exact main.mono fun e w' ⟨v,he,hv,hg⟩=>⟨by rw [he,hv],hg⟩
  refine EP (Eq (PU rfl rfl (PU rfl rfl (DT (Fc rfl) rfl (HM ?_)))))
  have hB1:Blk ((W.alloc (.cells (encU x).toArray 52)).alloc (.cells (encU y).toArray 52)) W.heap.size 52 (encU x) :=
    (New.mk' W _ (encU x)).blk.keep ((New.mk' _ _ (encU y)).ext.block _ (New.mk' W _ (encU x)).blk.lt)
  have hB2:Blk ((W.alloc (.cells (encU x).toArray 52)).alloc (.cells (encU y).toArray 52)) (W.alloc (.cells (encU x).toArray 52)).heap.size 52 (encU y):=(New.mk' _ _ (encU y)).blk
  generalize hW:(W.alloc (.cells (encU x).toArray 52)).alloc (.cells (encU y).toArray 52)=W2 at hB1 hB2
  have hW':(W.alloc (.cells (Value.agg #[.int .i64 x.tm,.int .i64 x.job]).cells 52)).alloc (.cells (Value.agg #[.int .i64 y.tm,.int .i64 y.job]).cells 52)=W2:=hW
  rw [hW']
  generalize hb1:W.heap.size=b1 at hB1
  generalize hb2:(W.alloc (.cells (encU x).toArray 52)).heap.size=b2 at hB2
  have hb2':(W.alloc (.cells (Value.agg #[.int .i64 x.tm,.int .i64 x.job]).cells 52)).heap.size=b2:=hb2
  rw [hb2']
  refine EP (SB (fun w'=>Blk w' b1 52 (encU x)∧Blk w' b2 52 (encU y)) [(0,true),(1,true),(2,true),(3,true),(5,true),(6,true),(7,true),(8,true),(4,false),(9,false),(10,false),(11,false),(12,true)] (by kernel_rfl) rfl (by kernel_rfl) ⟨hB1,hB2⟩ ?_)
  refine Ig rfl (fun _ _=>ER rfl) rfl ?_
  refine Ig rfl (fun _ hS=>FM rfl (hS.1.cell (i:=0) rfl)) rfl ?_
  refine Ig rfl (fun _ _=>ER rfl) rfl ?_
  refine Ig rfl (fun _ hS=>FM rfl (hS.2.cell (i:=0) rfl)) rfl ?_
  refine Ig rfl (fun _ _=>ER rfl) rfl ?_
  refine Ig rfl (fun _ hS=>FM rfl (hS.1.cell (i:=1) rfl)) rfl ?_
  refine Ig rfl (fun _ _=>ER rfl) rfl ?_
  refine Ig rfl (fun _ hS=>FM rfl (hS.2.cell (i:=1) rfl)) rfl ?_
  refine Kd rfl (Ml rfl rfl (compareI x.tm y.tm _) (Lp ⟨fun _=>⟨hB1,hB2⟩,?_⟩))
  refine Kd rfl (Ml rfl rfl (compareI x.job y.job _) (Lp ⟨fun _=>⟨hB1,hB2⟩,?_⟩))
  have hN:=New.mk' (dr W2 (W2.drawn + 1)) 3 [.int .i64 (Lib.compareInt x.tm y.tm),.int .i64 (Lib.compareInt x.job y.job)]
  have hB3:=hB1.keep (hN.ext.block b1 hB1.lt)
  have hB4:=hB2.keep (hN.ext.block b2 hB2.lt)
  have hV:Vb ((dr W2 (W2.drawn + 1)).alloc (.cells [.int .i64 (Lib.compareInt x.tm y.tm),.int .i64 (Lib.compareInt x.job y.job)].toArray 3)) (fun _=>True) (.slice (some ⟨(dr W2 (W2.drawn + 1)).heap.size,0,none⟩) 2 2) [Lib.compareInt x.tm y.tm,Lib.compareInt x.job y.job] :=
    Vb.made hN ⟨[_],_,rfl,⟨rfl,PV _ _⟩,[_],_,rfl,⟨rfl,PV _ _⟩,rfl⟩ rfl trivial (by decide)
  refine Kd rfl (QC rfl rfl rfl (fun v hv=>by simp at hv;rcases hv with rfl|rfl<;>rfl) (by decide) rfl (Lp ⟨fun _=>⟨hB3,hB4⟩,?_⟩))
  refine Kd rfl (Ml rfl rfl (SD hV) (Lp ⟨fun _=>⟨hB3,hB4⟩,?_⟩))
  refine Ig rfl (fun _ _=>Fc rfl) rfl ?_
  refine TT ?_
  refine Nq ?_
  refine ⟨_,res1 rfl (At rfl),rfl,1,#[.cells (encU x).toArray 52,.cells (encU y).toArray 52,.cells [.int .i64 (Lib.compareInt x.tm y.tm),.int .i64 (Lib.compareInt x.job y.job)].toArray 3],?_⟩
  subst hW
  have hd:∀ os d,dr (grow W os) d=grow (dr W d) os:=fun _ _=>rfl
  rw [alloc_eq_grow,alloc_eq_grow,alloc_eq_grow,grow_grow,hd,grow_grow]
  rfl
end
section
open Go.Shelf
def Tryz.laysS_f144_ren:Go.Shelf.Ren:=⟨fun|6=>144|15=>139|14=>176|28=>169|29=>170|20=>201|21=>202|22=>203|23=>204|24=>205|25=>206|26=>207|27=>208|46=>216|47=>193|48=>194|49=>217|50=>218|57=>220|n=>n,fun|22=>50|24=>52|25=>179|3=>3|39=>224|0=>0|53=>258|55=>239|4=>4|46=>252|45=>251|50=>48|5=>5|9=>9|66=>280|70=>283|76=>296|77=>297|n=>n,fun|n=>n⟩
theorem Tryz.laysS_f144:Go.Proofs.SlLaysF0.n6 Tryz.prog Tryz.laysS_f144_ren:={
  mixed:=by kernel_rfl
  f6:=⟨Tryz.f144.name,by decide,Tryz.func144.trans (congrArg some (by kernel_rfl))⟩
  f14:=⟨Tryz.f176.name,by decide,Tryz.func176.trans (congrArg some (by kernel_rfl))⟩
  f15:=Tryz.func139.trans (congrArg some (by kernel_rfl))
  f20:=⟨Tryz.f201.name,by decide,Tryz.func201.trans (congrArg some (by kernel_rfl))⟩
  f21:=⟨Tryz.f202.name,by decide,Tryz.func202.trans (congrArg some (by kernel_rfl))⟩
  f22:=⟨Tryz.f203.name,by decide,Tryz.func203.trans (congrArg some (by kernel_rfl))⟩
  f23:=⟨Tryz.f204.name,by decide,Tryz.func204.trans (congrArg some (by kernel_rfl))⟩
  f24:=⟨Tryz.f205.name,by decide,Tryz.func205.trans (congrArg some (by kernel_rfl))⟩
  f25:=⟨Tryz.f206.name,by decide,Tryz.func206.trans (congrArg some (by kernel_rfl))⟩
  f26:=⟨Tryz.f207.name,by decide,Tryz.func207.trans (congrArg some (by kernel_rfl))⟩
  f27:=⟨Tryz.f208.name,by decide,Tryz.func208.trans (congrArg some (by kernel_rfl))⟩
  f28:=Tryz.func169.trans (congrArg some (by kernel_rfl))
  f29:=Tryz.func170.trans (congrArg some (by kernel_rfl))
  f46:=⟨Tryz.f216.name,by decide,Tryz.func216.trans (congrArg some (by kernel_rfl))⟩
  f47:=Tryz.func193.trans (congrArg some (by kernel_rfl))
  f48:=Tryz.func194.trans (congrArg some (by kernel_rfl))
  f49:=⟨Tryz.f217.name,by decide,Tryz.func217.trans (congrArg some (by kernel_rfl))⟩
  f50:=⟨Tryz.f218.name,by decide,Tryz.func218.trans (congrArg some (by kernel_rfl))⟩
  f57:=⟨Tryz.f220.name,by decide,Tryz.func220.trans (congrArg some (by kernel_rfl))⟩
  t0:=Tryz.underlying0
  a0:=Tryz.isAgg0
  z0:=Tryz.sizeOf0
  v0:=Tryz.zeroValue0
  t3:=Tryz.underlying3
  a3:=Tryz.isAgg3
  z3:=Tryz.sizeOf3
  v3:=Tryz.zeroValue3
  t4:=Tryz.underlying4
  a4:=Tryz.isAgg4
  z4:=Tryz.sizeOf4
  v4:=Tryz.zeroValue4
  t5:=Tryz.underlying5
  a5:=Tryz.isAgg5
  z5:=Tryz.sizeOf5
  v5:=Tryz.zeroValue5
  t9:=Tryz.underlying9
  a9:=Tryz.isAgg9
  z9:=Tryz.sizeOf9
  v9:=Tryz.zeroValue9
  t22:=Tryz.underlying50
  a22:=Tryz.isAgg50
  z22:=Tryz.sizeOf50
  v22:=Tryz.zeroValue50
  t25:=Tryz.underlying179
  a25:=Tryz.isAgg179
  z25:=Tryz.sizeOf179
  v25:=Tryz.zeroValue179
  t39:=Tryz.underlying224
  a39:=Tryz.isAgg224
  z39:=Tryz.sizeOf224
  v39:=Tryz.zeroValue224
  t45:=Tryz.underlying251
  a45:=Tryz.isAgg251
  z45:=Tryz.sizeOf251
  v45:=Tryz.zeroValue251
  t46:=Tryz.underlying252
  a46:=Tryz.isAgg252
  z46:=Tryz.sizeOf252
  v46:=Tryz.zeroValue252
  t50:=Tryz.underlying48
  a50:=Tryz.isAgg48
  z50:=Tryz.sizeOf48
  v50:=Tryz.zeroValue48
  t53:=Tryz.underlying258
  a53:=Tryz.isAgg258
  z53:=Tryz.sizeOf258
  v53:=Tryz.zeroValue258
  t55:=Tryz.underlying239
  a55:=Tryz.isAgg239
  z55:=Tryz.sizeOf239
  v55:=Tryz.zeroValue239
  t66:=Tryz.underlying280
  a66:=Tryz.isAgg280
  z66:=Tryz.sizeOf280
  v66:=Tryz.zeroValue280
  t70:=Tryz.underlying283
  a70:=Tryz.isAgg283
  z70:=Tryz.sizeOf283
  v70:=Tryz.zeroValue283
  t76:=Tryz.underlying296
  a76:=Tryz.isAgg296
  z76:=Tryz.sizeOf296
  v76:=Tryz.zeroValue296
  t77:=Tryz.underlying297
  a77:=Tryz.isAgg297
  z77:=Tryz.sizeOf297
  v77:=Tryz.zeroValue297 }
open Go.RowKit Go.Lib Go.Sort in
theorem Tryz.sortU_eq {α:Type} [Inhabited α] (k:Nat) (aE:∀ w,(isAgg 52).run Tryz.prog w=.ok true w) (zE:∀ w,(Go.sizeOf 52).run Tryz.prog w=.ok k w) (enc:α→List Value) (hk:∀ x,(enc x).length=k) (h1:∀ x,∀ v∈enc x,v.oneCell'=true) (cf:α→α→Int) (hO:SWO (ltOf cf)) (g:Nat) (cb:Array Value) (blk off cap:Nat) (d:Array α) (w:World) (eg:∀ args w,(callFunc g args).run Tryz.prog w=.ok (.enter g args) w) (hcmp:CmpLays Tryz.prog g cb enc k cf blk off d.size w) (hH:HoldsK enc k w blk off d) (hblk:blk < w.heap.size) (hsz:d.size < 4611686018427387904) :
    Calls Tryz.prog 144 #[.slice (some ⟨blk,off,none⟩) d.size cap,.func (.func g) #[] cb] w fun e w' =>
      e=.returned (.tuple #[])∧∃ n os,w'=sortWorldK enc k w blk off n (pdq (ltOf cf) d 0 d.size (Lib.bitLen d.size) true true) os:=AnyQ.slices_SortFunc_eq Tryz.laysS_f144 k aE zE enc hk h1 cf hO g cb blk off cap d w eg hcmp hH hblk hsz
open Go.RowKit Go.Lib Go.Sort in
theorem Tryz.sortU_none {α:Type} [Inhabited α] (p:Option Addr) (cap:Nat) (fv:Value) (w:World) :
    Calls Tryz.prog 144 #[.slice p 0 cap,fv] w fun e w'=>e=.returned (.tuple #[])∧w'=w:=AnyF.slices_SortFunc_none Tryz.laysS_f144 p cap fv w
end
section
open Go Go.RowKit Go.Lib Go.Sort
instance:Inhabited Lch:=⟨⟨0,0⟩⟩
def lexU (x y:Lch):Prop:=x.tm < y.tm∨(x.tm=y.tm∧x.job < y.job)
instance (x y:Lch):Decidable (lexU x y):=by unfold lexU;infer_instance
theorem cmp3 (a b:Int):(a < b∧Lib.compareInt a b=-1)∨(a=b∧Lib.compareInt a b=0)∨(b < a∧Lib.compareInt a b=1):=by
  unfold Lib.compareInt
  by_cases h:a < b
  · simp [h]
  · by_cases h2:b < a
    · simp [h,h2]
    · right;left;simp [h,h2];omega
theorem UL (a b:Int):orL [a,b] < 0↔a < 0∨(a=0∧b < 0):=by
  simp only [orL]
  by_cases h1:a=0
  · rw [if_neg (by simp [h1])]
    by_cases h2:b=0
    · rw [if_neg (by simp [h2])];omega
    · rw [if_pos h2];omega
  · rw [if_pos h1];omega
theorem ltU (x y:Lch):ltOf cfU x y=decide (lexU x y):=by
  unfold ltOf cfU
  rw [Bool.eq_iff_iff]
  simp only [decide_eq_true_eq]
  rw [UL]
  unfold lexU
  have h1:=cmp3 x.tm y.tm
  have h2:=cmp3 x.job y.job
  omega
theorem swoU:SWO (ltOf cfU) where
  irrefl x:=by rw [ltU];simp [lexU]
  trans x y z h1 h2:=by rw [ltU] at *;simp only [decide_eq_true_eq] at *;unfold lexU at *;omega
  ntrans x y z h1 h2:=by rw [ltU] at *;simp only [decide_eq_false_iff_not] at *;unfold lexU at *;omega
theorem cmpLaysU (blk off size:Nat) (w:World):CmpLays Tryz.prog 113 #[] encU 2 cfU blk off size w:=fun _ _ _ _ x y=>closureU x y _
def AY (xs:List Lch):List Lch:=(pdq (ltOf cfU) xs.toArray 0 xs.length (Lib.bitLen xs.length) true true).toList
theorem PW (xs:List Lch):PermIn 0 xs.toArray.size xs.toArray (AY xs).toArray∧SortedIn (ltOf cfU) 0 xs.toArray.size (AY xs).toArray:=by
  have:=pdq_sorts (ltOf cfU) swoU xs.toArray 0 xs.toArray.size (Lib.bitLen xs.length) true true (Nat.zero_le _) (Nat.le_refl _) (Or.inl rfl)
  simpa [AY] using this
theorem DD (xs:List Lch):(AY xs).Perm xs:=by
  obtain ⟨⟨hsz,_,hperm⟩,_⟩:=PW xs
  have e1:(AY xs).toArray.extract 0 xs.toArray.size=(AY xs).toArray:=by rw [← hsz];exact Array.extract_size
  rw [e1,Array.extract_size] at hperm
  simpa using hperm
theorem DG (xs:List Lch):(AY xs).length=xs.length:=(DD xs).length_eq
theorem GJ (xs:List Lch):(AY xs).Pairwise fun x y=>¬ lexU y x:=by
  obtain ⟨_,hs⟩:=PW xs
  have hl:=DG xs
  rw [List.pairwise_iff_getElem]
  intro i j hi hj hij
  have:=hs i j (Nat.zero_le _) hij (by simp;omega)
  rw [getElem!_pos _ j (by simpa using hj),getElem!_pos _ i (by simpa using hi),ltU] at this
  simpa using this
theorem flatU:∀ (xs:List Lch),(flatK encU 2 xs.toArray).toList=xs.flatMap encU:=fun xs=>by
  apply List.ext_getElem?
  intro t
  have key:∀ (l:List Lch) (t:Nat),(l.flatMap encU)[t]?=(l[t / 2]?).bind fun x=>(encU x)[t % 2]?:=by
    intro l
    induction l with
    | nil=>intro t;simp
    | cons x l ih =>
      intro t
      rw [List.flatMap_cons]
      match t with
      | 0=>rfl
      | 1=>rfl
      | t + 2 =>
        rw [List.getElem?_append_right (by simp [encU]),show t + 2 - (encU x).length=t from by simp [encU],ih]
        rw [show (t + 2) / 2=t / 2 + 1 from by omega,show (t + 2) % 2=t % 2 from by omega]
        simp
  rw [key]
  by_cases ht:t < xs.length * 2
  · have h1:t / 2 < xs.length:=by omega
    have hsz:t < (flatK encU 2 xs.toArray).size:=by simpa using ht
    rw [Array.getElem?_toList,Array.getElem?_eq_getElem hsz,List.getElem?_eq_getElem h1,Option.bind_some]
    have:=get_flatK encU 2 xs.toArray t (by simpa using ht)
    rw [getElem!_pos (flatK encU 2 xs.toArray) t hsz,getElem!_pos xs.toArray (t / 2) (by simpa using h1)] at this
    rw [this]
    have h2:t % 2 < (encU xs[t / 2]).length:=by simp [encU];omega
    rw [List.getElem?_eq_getElem h2,List.getElem_toArray,getElem!_pos (encU xs[t / 2]) (t % 2) h2]
  · have h1:(flatK encU 2 xs.toArray).size≤t:=by rw [size_flatK];simpa using (by omega:xs.length * 2≤t)
    have h2:xs[t / 2]?=none:=List.getElem?_eq_none (by omega)
    rw [Array.getElem?_toList,Array.getElem?_eq_none h1,h2]
    rfl
theorem Ih {w:World} {F:Nat→Prop}:∀ {xs:List Lch} {cells:List Value},Chunks w F cells xs→cells=xs.flatMap encU∧∀ x∈xs,inI64 x.tm∧inI64 x.job
  | [],_,h=>⟨h,fun _ hx=>by simp at hx⟩
  | x :: xs,cells,⟨cs,rest,he,hr,hc⟩=>by
    obtain ⟨h1,h2⟩:=Ih hc
    obtain ⟨h3,h4⟩:=hr
    refine ⟨by rw [he,h3,h1];rfl,fun y hy=>?_⟩
    rcases List.mem_cons.1 hy with rfl|hy
    · exact h4
    · exact h2 y hy
theorem Hp {w:World} {F:Nat→Prop}:∀ {xs:List Lch},(∀ x∈xs,inI64 x.tm∧inI64 x.job)→Chunks w F (xs.flatMap encU) xs
  | [],_=>rfl
  | x :: xs,h=>⟨encU x,xs.flatMap encU,rfl,⟨rfl,h x (by simp)⟩,Hp fun y hy=>h y (by simp [hy])⟩
theorem FK (xs:List Lch):(xs.flatMap encU).length=xs.length * 2:=by rw [← flatU,Array.length_toList,size_flatK];simp
theorem Kz {i:Nat} {w:World} {O:Lab} {v:Value} {xs:List Lch} (hR:Rw i w O 52 v xs) (hl:xs.length < 4611686018427387904) :
    Fn Tryz.prog 144 [v,.func (.func 113) #[] #[]] w fun _ w'=>∃ O',St (eT i) w O w' O'∧Rw i w' O' 52 v (AY xs):=by
  intro d
  rcases Nat.eq_zero_or_pos xs.length with h0|h0
  · have hx:xs=[]:=List.eq_nil_of_length_eq_zero h0
    subst hx
    obtain ⟨p,c,rfl⟩:=hR.form
    have hs:AY []=[]:=List.eq_nil_of_length_eq_zero (DG [])
    exact (Tryz.sortU_none (α:=Lch) p c _ (dr w d)).mono fun e w' ⟨he,hw⟩=>⟨_,w,d,he,hw,O,St.refl _ _ _,by rw [hs];exact hR⟩
  · obtain ⟨g,cap,cells,sp,rfl,hg,hFg,hb,hc,hlen,hnc,hcm,htot⟩:=hR.1.open h0
    obtain ⟨rfl,hin⟩:=Ih hc
    have hfl:=flatU xs
    have hH:HoldsK encU 2 (dr w d) g 0 xs.toArray:=fun j hj=>by
      have hj':j < xs.length * 2:=by simpa using hj
      refine ⟨?_,by rw [Nat.zero_add];exact hb.frozen j⟩
      rw [Nat.zero_add]
      refine hb.cell ?_
      rw [List.getElem?_append_left (by rw [FK];exact hj'),← hfl,Array.getElem?_toList,Array.getElem?_eq_getElem hj,getElem!_pos _ j hj]
      rfl
    have aE:∀ w,(isAgg 52).run Tryz.prog w=.ok true w:=fun w=>GN w
    have zE:∀ w,(Go.sizeOf 52).run Tryz.prog w=.ok 2 w:=fun w=>DN w
    have eg:∀ args w,(callFunc 113 args).run Tryz.prog w=.ok (.enter 113 args) w:=enters_of Tryz.func113 (by kernel_rfl) rfl
    have hcall:=Tryz.sortU_eq 2 aE zE encU (fun _=>rfl) (fun x v hv=>by simp [encU] at hv;rcases hv with rfl|rfl<;>rfl) cfU swoU 113 #[] g 0 cap xs.toArray (dr w d) eg (cmpLaysU g 0 _ _) hH hb.lt (by simpa using hl)
    have e1:xs.toArray.size=xs.length:=by simp
    rw [e1] at hcall
    refine hcall.mono fun e w' ⟨he,n,os,hw⟩=>⟨_,w',w'.drawn,he,rfl,upO O w.heap.size (fun _=>0),?_,?_⟩
    · subst hw
      refine ⟨rfl,rfl,rfl,?_,fun k hk hne=>⟨?_,EO hk⟩⟩
      · show w.heap.size≤((w.heap.modify g _) ++ os).size
        simp
      · have hkg:g≠k:=fun e=>hne (by rw [← e];exact hR.2.1 g rfl)
        show ((w.heap.modify g _) ++ os)[k]?=_
        rw [Array.getElem?_append_left (by simpa using hk),Array.getElem?_modify,if_neg hkg]
    · have hpd:pdq (ltOf cfU) xs.toArray 0 xs.length (Lib.bitLen xs.length) true true=(AY xs).toArray:=by simp [AY]
      rw [hpd] at hw
      have hsl:=DG xs
      have hf2:=flatU (AY xs)
      have hblk:Blk w' g 52 ((AY xs).flatMap encU ++ sp):=by
        subst hw
        unfold Blk at hb ⊢
        have hsz:g < w.heap.size:=Blk.lt hb
        show ((w.heap.modify g _) ++ os)[g]?=_
        rw [Array.getElem?_append_left (by simpa using hsz),Array.getElem?_modify,if_pos rfl,hb]
        simp only [Option.map_some,Go.Sort.onCells]
        congr 2
        apply Array.ext
        · simp only [Go.Sort.putCells,Array.size_mapIdx,List.size_toArray,List.length_append,FK,hsl]
        · intro i h1 h2
          simp only [Go.Sort.putCells,Array.getElem_mapIdx,Nat.zero_add,Nat.sub_zero,Nat.zero_le,true_and]
          have e2:(flatK encU 2 (AY xs).toArray).size=xs.length * 2:=by rw [size_flatK];simp [hsl]
          by_cases hi:i < xs.length * 2
          · rw [if_pos (by rw [e2];exact hi)]
            simp only [List.getElem_toArray]
            rw [List.getElem_append_left (by rw [FK,hsl];exact hi)]
            rw [getElem!_pos _ _ (by rw [e2];exact hi)]
            have:=congrArg (·[i]?) hf2
            simp only [Array.getElem?_toList] at this
            rw [Array.getElem?_eq_getElem (by rw [e2];exact hi),List.getElem?_eq_getElem (by rw [FK,hsl];exact hi)] at this
            exact Option.some.inj this
          · rw [if_neg (by rw [e2];exact hi)]
            simp only [List.getElem_toArray]
            rw [List.getElem_append_right (by rw [FK];omega),List.getElem_append_right (by rw [FK,hsl];omega)]
            simp only [FK,hsl]
      have hS:∀ k,Fr 0 w O k→Fr 0 w' (upO O w.heap.size fun _=>0) k:=fun k hk=>⟨by subst hw;show k < ((w.heap.modify g _) ++ os).size;have:=hk.1;simp;omega,(EO hk.1).trans hk.2⟩
      have:=Own.close (w:=w') (base:=0) (F:=Fr 0 w O) (cap:=cap) (Nat.zero_le _) hFg hblk (Hp (F:=Fr 0 w O) (w:=w') fun x hx=>hin x ((DD xs).mem_iff.1 hx)) (by rw [hsl];exact hnc) hcm (by rw [List.length_append,FK] at htot ⊢;rw [hsl];exact htot)
      rw [hsl] at this
      exact this.rw hS (fun g' hg'=>by
        have:g=g':=by simpa [Value.ownBlock] using hg'
        subst this
        exact (EO hb.lt).trans (hR.2.1 g rfl)) hR.2.2
theorem LI {α:Type} {R:α→α→Prop}:∀ {a b:List α},a.Perm b→a.Pairwise R→b.Pairwise R→(∀ x y,R x y→R y x→x=y)→a=b
  | [],b,h,_,_,_=>(List.nil_perm.1 h).symm
  | x :: a,[],h,_,_,_=>by simp at h
  | x :: a,y :: b,h,ha,hb,hR=>by
    obtain ⟨ha1,ha2⟩:=List.pairwise_cons.1 ha
    obtain ⟨hb1,hb2⟩:=List.pairwise_cons.1 hb
    have hx:x∈y :: b:=h.mem_iff.1 List.mem_cons_self
    have hy:y∈x :: a:=h.mem_iff.2 List.mem_cons_self
    have e:x=y:=by
      rcases List.mem_cons.1 hx with rfl|hx
      · rfl
      · rcases List.mem_cons.1 hy with rfl|hy
        · rfl
        · exact hR x y (ha1 y hy) (hb1 x hx)
    subst e
    rw [LI ((List.perm_cons x).1 h) ha2 hb2 hR]
theorem PX {xs:List Lch} (h:xs.Pairwise fun x y=>¬ lexU y x):AY xs=xs :=
  LI (DD xs) (GJ xs) h fun x y h1 h2=>by
    obtain ⟨a,b⟩:=x
    obtain ⟨a',b'⟩:=y
    unfold lexU at h1 h2
    dsimp only at h1 h2
    have e1:a=a':=by omega
    have e2:b=b':=by omega
    rw [e1,e2]
end
section
open Go Go.RowKit Go.Shelf Go.Proofs
attribute [local go_sem] Oper.semAt_some
def aggU (x:Lch):Value:=.agg #[.int .i64 x.tm,.int .i64 x.job]
set_option maxRecDepth 100000 in
set_option maxHeartbeats 2000000 in
theorem QE (F:Fence) (n:Nat) (h145:F.fn 145) (hro:F.round=none) (hn:1≤n) (l Bs n₀ b off cap:Nat) (zs:List Lch) (hreach:zs.length * 16≤140737488351232) (hb:b < n₀) (J Jx:List Lch→World→Prop)
    (hY:∀ pre x W,J pre W→pre.length < zs.length→YieldAt F (n - 1) Tryz.prog l #[aggU x] W fun e W' =>
      (e=.returned (.bool true)∧J (pre ++ [x]) W'∧Below n₀ W W')∨(e=.returned (.bool false)∧Jx (pre ++ [x]) W'))
    (W:World) (hJ:AbidesFrom W.heap.size J) (hn0:n₀≤W.heap.size) (hBs:W.cell? ⟨Bs,0,none⟩=some (.slice (some ⟨b,off,none⟩) zs.length cap)) (hc:∀ j x,zs[j]?=some x→W.cell? ⟨b,off + j * 2,none⟩=some (.int .i64 x.tm)∧W.cell? ⟨b,off + j * 2 + 1,none⟩=some (.int .i64 x.job)) (h0:J [] W) :
    CallsIn F n Tryz.prog 145 #[.func (.yield l) #[] #[],.pointer (some ⟨Bs,0,none⟩)] W fun e W'=>(∃ v,e=.returned v) ∧
      (J zs W'∨(∃ pre,pre <+: zs∧Jx pre W')):=by
  refine callsIn_of_wp Tryz.func145 rfl h145 ?_ hro
  simp only [Tryz.ntmps145,List.size_toArray,List.length_cons,List.length_nil,Nat.reduceAdd,Nat.reduceSub,Array.replicate_succ,Array.replicate_zero,List.push_toArray,List.append_toArray,List.nil_append,List.cons_append]
  gi_wp2
  gi_loopw [7] (fun i wr=>∃ k:Nat,k≤zs.length∧i=.int .i64 k∧J (zs.take k) wr∧Below n₀ W wr∧W.heap.size≤wr.heap.size)
    (fun i _=>zs.length - (intOf i).toNat)
  case atStart=>exact ⟨0,Nat.zero_le _,rfl,by simpa using h0,Below.refl _ _,Nat.le_refl _⟩
  case round =>
    obtain ⟨k,hk,rfl,hJs,hnx,hsz⟩:=hrel
    by_cases hlt:k < zs.length
    · have hx:zs[k]?=some zs[k]:=List.getElem?_eq_getElem hlt
      have hcx:=(hnx.cell (p:=⟨b,off + k * 2,none⟩) hb).trans (hc k _ hx).1
      have hcy:=(hnx.cell (p:=⟨b,off + k * 2 + 1,none⟩) hb).trans (hc k _ hx).2
      have hJ2:=hJ _ wr (wr.alloc (.cells #[.int .i64 zs[k].tm,.int .i64 zs[k].job] 52)) none hJs (World.grownBy_alloc wr _ none) (fun r e=>by cases e)
      obtain ⟨fn,tmps,assign,body,hy,hR⟩:=hY _ zs[k] _ hJ2 (by simp;omega)
      dsimp only [aggU] at hy
      gi_wp2
      refine hR.mono ?_
      have htk:zs.take k ++ [zs[k]]=zs.take (k + 1):=by rw [List.take_add_one,hx];rfl
      rintro e W3 (⟨rfl,hJ3,hk3⟩|⟨rfl,hJx3⟩)
      · gi_wp2
        go_roundw
        case rel=>exact ⟨k + 1,by omega,by simp,by rw [← htk];exact hJ3,(hnx.alloc (Nat.le_trans hn0 hsz) _).trans hk3,by have:=hk3.size;simp at this;omega⟩
        case measure=>simp [intOf];omega
      · gi_wp2
        refine bodyPost_ret (results_none rfl _ _ _) rfl ?_
        exact ⟨⟨_,rfl⟩,.inr ⟨_,by rw [htk];exact List.take_prefix _ _,hJx3⟩⟩
    · obtain rfl:k=zs.length:=by omega
      gi_wp2
      go_end0
      exact ⟨⟨_,rfl⟩,.inl (by simpa using hJs)⟩
theorem Pz (F:Fence) (n:Nat) (h145:F.fn 145) (hro:F.round=none) (l Bs:Nat) (J:List Lch→World→Prop) (W:World) {A:Option Addr} {c:Nat} (hBs:W.cell? ⟨Bs,0,none⟩=some (.slice A 0 c)) (h0:J [] W) :
    CallsIn F n Tryz.prog 145 #[.func (.yield l) #[] #[],.pointer (some ⟨Bs,0,none⟩)] W fun e W'=>(∃ v,e=.returned v)∧J [] W':=by
  refine callsIn_of_wp Tryz.func145 rfl h145 ?_ hro
  simp only [Tryz.ntmps145,List.size_toArray,List.length_cons,List.length_nil,Nat.reduceAdd,Nat.reduceSub,Array.replicate_succ,Array.replicate_zero,List.push_toArray,List.append_toArray,List.nil_append,List.cons_append]
  gi_wp2
  gi_loopw [7] (fun i wr=>i=.int .i64 0∧J [] wr) (fun _ _=>0)
  case atStart=>exact ⟨rfl,h0⟩
  case round =>
    obtain ⟨rfl,hJs⟩:=hrel
    gi_wp2
    go_end0
    exact ⟨⟨_,rfl⟩,hJs⟩
def LchAt (n₀:Nat) (W:World) (sv:Value) (zs:List Lch):Prop :=
  ((∃ A c,sv=.slice A 0 c)∧zs=[])∨∃ b off cap,sv=.slice (some ⟨b,off,none⟩) zs.length cap∧b < n₀∧∀ j x,zs[j]?=some x→W.cell? ⟨b,off + j * 2,none⟩=some (.int .i64 x.tm)∧W.cell? ⟨b,off + j * 2 + 1,none⟩=some (.int .i64 x.job)
theorem LchAt.below {n₀:Nat} {A B:World} (h:Below n₀ A B) {sv:Value} {zs:List Lch}:LchAt n₀ A sv zs→LchAt n₀ B sv zs
  | .inl e=>.inl e
  | .inr ⟨b,off,cap,e,hb,hc⟩=>.inr ⟨b,off,cap,e,hb,fun j x hj=>⟨(h.cell (p:=⟨b,off + j * 2,none⟩) hb).trans (hc j x hj).1,(h.cell (p:=⟨b,off + j * 2 + 1,none⟩) hb).trans (hc j x hj).2⟩⟩
theorem Pc (F:Fence) (n:Nat) (h145:F.fn 145) (hro:F.round=none) (hn:1≤n) (Bs n₀:Nat) (sv:Value) (zs:List Lch) (hreach:zs.length * 16≤140737488351232) (w:World) (hBs:Bs < w.heap.size) (hn₀:n₀≤w.heap.size)
    (hc:w.cell? ⟨Bs,0,none⟩=some sv) (hI:LchAt n₀ w sv zs) :
    SeqStopsK F n Tryz.prog 145 #[.pointer (some ⟨Bs,0,none⟩)] (fun x:Lch=>#[aggU x]) (Below n₀) (fun ys=>ys=zs) (fun pre=>pre <+: zs) zs.length w:=fun l J Jx W hW hJ _ hY h0=>by
  have hc':=(hW.cell (p:=⟨Bs,0,none⟩) hBs).trans hc
  rcases hI.below (hW.mono hn₀) with ⟨⟨A,c,rfl⟩,rfl⟩|⟨b,off,cap,rfl,hb,hcs⟩
  · exact (Pz F n h145 hro l Bs J W hc' h0).mono fun e W' ⟨he,hj⟩=>⟨he,.inl ⟨_,rfl,hj⟩⟩
  · refine (QE F n h145 hro hn l Bs n₀ b off cap zs hreach hb J Jx hY W hJ (Nat.le_trans hn₀ hW.size) hc' hcs h0).mono ?_
    rintro e W' ⟨he,hj|⟨pre,hp,hj⟩⟩
    · exact ⟨he,.inl ⟨_,rfl,hj⟩⟩
    · exact ⟨he,.inr ⟨_,hp,hj⟩⟩
def Two (W:World) (B:Nat) (x:Lch):Prop:=W.heap[B]?=some (.cells #[.int .i64 x.tm,.int .i64 x.job] 52 (0,0))
theorem Two.lt {W:World} {B:Nat} {x:Lch} (h:Two W B x):B < W.heap.size:=(Array.getElem?_eq_some_iff.1 h).1
theorem TU (B:Nat) (x:Lch) {X Y:World} {row:Option Nat} (h:Two X B x) (hg:X.grownBy Y row) (hrow:∀ r,row=some r→∃ o:Obj,X.heap[r]?=some o∧o.isCells=false):Two Y B x :=
  (hg.block B h.lt fun e=>by obtain ⟨o,ho,hc⟩:=hrow B e.symm;rw [show X.heap[B]?=_ from h] at ho;cases ho;cases hc).trans h
theorem TV (w:World) (x:Lch):∀ j u,(encU x)[j]?=some u→(w.alloc (.cells #[.int .i64 x.tm,.int .i64 x.job] 52)).cell? ((⟨w.heap.size,0,none⟩:Addr).add j)=some u:=by
  intro j u hj
  have hb:(w.alloc (.cells #[.int .i64 x.tm,.int .i64 x.job] 52)).heap[w.heap.size]?=some (.cells #[.int .i64 x.tm,.int .i64 x.job] 52 (0,0)):=World.alloc_heap_new w _
  rw [It,Nat.zero_add]
  match j,hj with
  | 0,hj=>simp only [World.cell?,hb];simpa [encU] using hj
  | 1,hj=>simp only [World.cell?,hb];simpa [encU] using hj
  | j + 2,hj=>simp [encU] at hj
set_option maxRecDepth 100000 in
set_option maxHeartbeats 4000000 in
theorem appendSeq (zs:List Lch) (Bs:Nat) (sv:Value) (hreach:zs.length * 16≤140737488351232) (w:World) (hBs:Bs < w.heap.size) (hc:w.cell? ⟨Bs,0,none⟩=some sv) (hI:LchAt w.heap.size w sv zs) :
    Calls Tryz.prog 175 #[.slice none 0 0,.func (.func 145) #[] #[.pointer (some ⟨Bs,0,none⟩)]] w fun e w' =>
      ∃ v,e=.returned v∧w'.ownsRow w.heap.size 52 2 v zs.length (zs.flatMap encU)∧Below w.heap.size w w':=by
  refine (callsIn_wide (n:=6)).1 ?_
  have h1:1≤6:=by omega
  refine callsIn_of_wp_marks Tryz.func175 rfl trivial ?_ rfl
  simp only [Tryz.ntmps175,List.size_toArray,List.length_cons,List.length_nil,Nat.reduceAdd,Nat.reduceSub,Array.replicate_succ,Array.replicate_zero,List.push_toArray,List.append_toArray,List.nil_append,List.cons_append]
  gi_wp2
  have bS:=Boxed.new w 50 (.slice none 0 0)
  have hB0:Below w.heap.size w (w.alloc (.cells #[.slice none 0 0] 50)):=(Below.refl _ w).alloc (Nat.le_refl _) _
  have hsz:(w.alloc (.cells #[.slice none 0 0] 50)).heap.size=w.heap.size + 1:=by simp
  have hc0:(w.alloc (.cells #[.slice none 0 0] 50)).cell? ⟨Bs,0,none⟩=some sv:=(hB0.cell (p:=⟨Bs,0,none⟩) hBs).trans hc
  obtain ⟨W0,hW0⟩:∃ W0,w.alloc (.cells #[.slice none 0 0] 50)=W0:=⟨_,rfl⟩
  rw [hW0] at bS hB0 hsz hc0 ⊢
  clear hW0
  refine wpIn_rangeFunc_ownH rfl h1 (gf:=145) (lb:=#[.pointer (some ⟨Bs,0,none⟩)]) rfl trivial (enters_of Tryz.func145 (by kernel_rfl) rfl)
    (Pc Fence.wide 5 trivial rfl (by omega) Bs w.heap.size sv zs hreach W0 (by omega) (by omega) hc0 (hI.below hB0)) belowK_t (belowK_b (by omega)) (Below.refl _ _) (fun _=>rfl)
    (fun pre W=>(∃ v,Boxed W w.heap.size 50 v∧W.ownsRow w.heap.size 52 2 v pre.length (pre.flatMap encU)∧True)∧Below w.heap.size w W)
    (fun _ _ _=>False)
    (OwnFrom.and (Own.from (holdsRow_own w.heap.size w.heap.size 50 52 2 (fun pre:List Lch=>pre.length) (fun pre=>pre.flatMap encU) (fun _ _=>True)) _) (ownFrom_below (Nat.le_refl _) (by omega)))
    (fun _ _ _ _ _ hs _ _=>hs)
    ⟨⟨_,bS,World.ownsRow_nil _ _ _ _,trivial⟩,hB0⟩
    (fun x a' W=>∃ Bx,w.heap.size < Bx∧Two W Bx x∧a'={ tmps:=#[.slice none 0 0,.func (.func 145) #[] #[.pointer (some ⟨Bs,0,none⟩)],.pointer (some ⟨w.heap.size,0,none⟩),undef,.slice none 0 0,.pointer (some ⟨Bx,0,none⟩),.func (.func 145) #[] #[.pointer (some ⟨Bs,0,none⟩)],aggU x,undef,undef,undef,undef,undef],defers:=[] })
    (fun x a' _ X Y row hs hg hr=>by obtain ⟨Bx,h1,h2,h3⟩:=hs;exact ⟨Bx,h1,TU Bx x h2 hg (fun r e=>(hr r e).2),h3⟩)
    ?assign ?body ?done ?stop
  case assign =>
    rintro l pre x W K ⟨⟨v,bS1,hr1,_⟩,hB1⟩ hK
    unfold aggU
    gi_wp2
    have hlt:=bS1.lt
    exact hK _ _ ((KeepsOthers.alloc _ _).from _) ((Below.refl _ W).alloc hB1.size _) ⟨⟨v,bS1.alloc _,hr1.alloc _,trivial⟩,hB1.alloc hB1.size _⟩ ⟨W.heap.size,hlt,World.alloc_heap_new W _,rfl⟩
  case body =>
    rintro l pre x a' W hl ⟨r,hr⟩ ⟨⟨v,bS1,hrow,_⟩,hB1⟩ ⟨Bx,hBx,bX,rfl⟩ hlt
    have cS:=bS1.cell
    have fS:=bS1.frozen
    have cX0:W.cell? ⟨Bx,0,none⟩=some (.int .i64 x.tm):=by simp [World.cell?,show W.heap[Bx]?=_ from bX]
    have cX1:W.cell? ⟨Bx,1,none⟩=some (.int .i64 x.job):=by simp [World.cell?,show W.heap[Bx]?=_ from bX]
    obtain ⟨i0,hi,hz0,hz1,hz2⟩:=(inferInstance:TInfo Tryz.prog 52 (.agg #[.int .i64 0,.int .i64 0]) 2 16).eq
    have hpl:pre.length < zs.length:=hlt
    gi_wp2_with (
      gi_at_builtin
      refine wpListIn_append_own _ rfl _ _ 50 rfl w.heap.size 52 i0 (.agg #[.int .i64 0,.int .i64 0]) 2 16 Tryz.underlying50 hi hz0 hz1 hz2 rfl (by decide) v pre.length (pre.flatMap encU) rfl (hrow.alloc _) ⟨W.heap.size,0,none⟩ 1 1 (encU x) rfl rfl (TV W x) (by intro u hu;simp [encU] at hu;rcases hu with rfl|rfl<;>rfl) (by unfold maxLen;omega) (by omega) (by have:=hB1.size;simp;omega) ?_
      intro v' w3 hown' hg3 hnil3
      obtain ⟨h1a,h2a,h3a,h4a,h5a⟩:=bS1.appended (by decide) hrow hB1.size (Nat.le_refl _) hown' hg3
      have hc3:=h1a.cell
      have hf3:=h1a.frozen
      obtain ⟨g',cap',rfl⟩:=ownsRow_succ hown')
    exact ⟨h4a.from _,h5a,⟨_,h2a,by simpa [List.flatMap_append] using h3a,trivial⟩,hB1.trans h5a⟩
  case done =>
    rintro D ys W hD rfl ⟨⟨v,bS1,hrow,_⟩,hB1⟩ hK
    have cS:=bS1.cell
    gi_wp2
    refine ⟨by simp,.inl ⟨_,_,rfl,run_takeDeferred hK,?_⟩⟩
    exact ⟨_,results_tmp rfl _ _ _,v,rfl,ownsRow_putObj hrow _ hK rfl,hB1.trans (belowK_b (w:=w) (Nat.le_refl _) W D _ _ (by omega) hK rfl rfl)⟩
  case stop =>
    rintro D c pre W _ _ h _
    exact h.elim
theorem LchAt.of {w:World} {A:Nat→Prop} (hA:∀ k,A k→k < w.heap.size) {v:Value} {zs:List Lch} (h:Vb w A v zs):LchAt w.heap.size w v zs:=by
  obtain ⟨Ad,c,rfl⟩:=h.form
  cases zs with
  | nil=>exact .inl ⟨⟨Ad,c,rfl⟩,rfl⟩
  | cons z zs =>
    obtain ⟨b,o,cs,rfl,hb,_,_,_⟩:=h.elem (k:=0) (x:=z) rfl
    refine .inr ⟨b,o,c,rfl,hA b hb,fun j x hx=>?_⟩
    obtain ⟨b',o',cs',e,_,_,hd,hr⟩:=h.elem hx
    injection e with e
    injection e with e1 e2
    subst e1;subst e2
    obtain ⟨rfl,_,_⟩:=hr
    exact ⟨cat0 hd,cat1 hd⟩
theorem LchAt.up {n m:Nat} {W:World} {sv:Value} {zs:List Lch} (h:LchAt n W sv zs) (hnm:n≤m):LchAt m W sv zs:=by
  rcases h with h|⟨b,off,cap,e,hb,hc⟩
  · exact .inl h
  · exact .inr ⟨b,off,cap,e,Nat.lt_of_lt_of_le hb hnm,hc⟩
theorem Pd {w:World} {zs:List Lch} {Bs:Nat} {sv:Value} (hreach:zs.length * 16≤140737488351232) (hin:∀ x∈zs,inI64 x.tm∧inI64 x.job) (hBs:Bs < w.heap.size) (hc:w.cell? ⟨Bs,0,none⟩=some sv) (hI:LchAt w.heap.size w sv zs) :
    Fn Tryz.prog 175 [.slice none 0 0,.func (.func 145) #[] #[.pointer (some ⟨Bs,0,none⟩)]] w fun v w'=>Ext w w'∧Own w' w.heap.size (fun k=>k < w.heap.size) 52 v zs:=by
  intro d
  refine (appendSeq zs Bs sv hreach (dr w d) hBs hc hI).mono fun e w' ⟨v,he,hr,hb⟩=>⟨v,w',w'.drawn,he,rfl,⟨hb.os,hb.tape,hb.output,hb.size,hb.block⟩,⟨_,hr,Hp hin,fun g hg hlt=>?_⟩⟩
  have:=(hr.lt g hg).1
  exact Nat.lt_irrefl _ (Nat.lt_of_lt_of_le hlt this)
attribute [local irreducible] ewp owp hwp hwq Ev Evg Fn retPost Res1
attribute [local irreducible] hwx loudX
theorem Rz {w:World} (sv:Value) (h1:sv.cells.toList=[sv]:=by rfl) :
    Fn Tryz.prog 112 [sv] w fun v w'=>v=.func (.func 145) #[] #[.pointer (some ⟨w.heap.size,0,none⟩)]∧New w w' 50 [sv]:=by
  refine AH Tryz.func112 rfl Tryz.ntmps112 rfl ?_
  repeat (first|refine Ar ?_|refine Aj rfl ?_|refine Ah rfl ?_)
  refine Jl rfl rfl fun w1 hN=>?_
  refine Al rfl rfl (o_z ?_)
  repeat (first|refine Ar ?_|refine Aj rfl ?_|refine Ah rfl ?_)
  refine LS rfl rfl rfl (Al rfl rfl (o_z ?_))
  repeat (first|refine Ar ?_|refine Aj rfl ?_|refine Ah rfl ?_)
  rw [h1] at hN
  exact ret1v rfl (At rfl) ⟨rfl,hN⟩
theorem QF {w:World} {zs:List Lch} {Bs:Nat} {sv:Value} (hreach:zs.length * 16≤140737488351232) (hin:∀ x∈zs,inI64 x.tm∧inI64 x.job) (hBs:Bs < w.heap.size) (hc:w.cell? ⟨Bs,0,none⟩=some sv) (hI:LchAt w.heap.size w sv zs) :
    Fn Tryz.prog 143 [.func (.func 145) #[] #[.pointer (some ⟨Bs,0,none⟩)]] w fun v w'=>Ext w w'∧Own w' w.heap.size (fun k=>k < w.heap.size) 52 v zs:=by
  refine AH Tryz.func143 rfl Tryz.ntmps143 rfl ?_
  repeat (first|refine Ar ?_|refine Aj rfl ?_|refine Ah rfl ?_)
  refine Al rfl rfl (o_z ?_)
  repeat (first|refine Ar ?_|refine Aj rfl ?_|refine Ah rfl ?_)
  refine Ak rfl rfl ?_
  refine Dq rfl rfl (Pd hreach hin hBs hc hI) fun v w' ⟨hE,hv⟩=>?_
  refine Al rfl rfl (o_z ?_)
  repeat (first|refine Ar ?_|refine Aj rfl ?_|refine Ah rfl ?_)
  exact ret1v rfl (At rfl) ⟨hE,hv⟩
theorem Oe {w:World} {zs:List Lch} {Bs:Nat} {sv:Value} (hreach:zs.length * 16≤140737488351232) (hl:zs.length < 4611686018427387904) (hin:∀ x∈zs,inI64 x.tm∧inI64 x.job) (hBs:Bs < w.heap.size) (hc:w.cell? ⟨Bs,0,none⟩=some sv) (hI:LchAt w.heap.size w sv zs) :
    Fn Tryz.prog 111 [.func (.func 145) #[] #[.pointer (some ⟨Bs,0,none⟩)],.func (.func 113) #[] #[]] w fun v w'=>Ext w w'∧Own w' w.heap.size (fun k=>k < w.heap.size) 52 v (AY zs):=by
  refine AH Tryz.func111 rfl Tryz.ntmps111 rfl ?_
  repeat (first|refine Ar ?_|refine Aj rfl ?_|refine Ah rfl ?_)
  refine Al rfl rfl (o_z ?_)
  repeat (first|refine Ar ?_|refine Aj rfl ?_|refine Ah rfl ?_)
  refine Ak rfl rfl ?_
  refine Dq rfl rfl (QF hreach hin hBs hc hI) fun v w' ⟨hE,hv⟩=>?_
  refine Al rfl rfl (o_z ?_)
  repeat (first|refine Ar ?_|refine Aj rfl ?_|refine Ah rfl ?_)
  refine Ak rfl rfl (Ak rfl rfl ?_)
  have hR:Rw 1 w' (fun k=>if k < w.heap.size then 0 else 1) 52 v zs:=by
    obtain ⟨cells,h1,h2,h3⟩:=hv
    refine ⟨⟨cells,⟨h1.1,?_⟩,h2.mono (fun k hk=>⟨Nat.lt_of_lt_of_le hk hE.size,if_pos hk⟩),fun g hg hq=>?_⟩,fun g hg=>?_,by decide⟩
    · rcases h1.2 with h|⟨g,cap,cur,e,_,r⟩
      · exact .inl h
      · exact .inr ⟨g,cap,cur,e,Nat.zero_le _,r⟩
    · have:=(h1.lt g hg).1
      have h4:(if g < w.heap.size then 0 else 1)=0:=hq.2
      rw [if_neg (by omega)] at h4
      exact absurd h4 (by decide)
    · have:=(h1.lt g hg).1
      exact if_neg (by omega)
  refine Dq rfl rfl (Kz hR hl) fun u w2 ⟨O',hS,hR2⟩=>?_
  refine o_z ?_
  repeat (first|refine Ar ?_|refine Aj rfl ?_|refine Ah rfl ?_)
  refine Ak rfl rfl (Al rfl rfl (o_z ?_))
  repeat (first|refine Ar ?_|refine Aj rfl ?_|refine Ah rfl ?_)
  refine ret1v rfl (At rfl) ⟨⟨hS.os.trans hE.os,hS.tape.trans hE.tape,hS.output.trans hE.output,Nat.le_trans hE.size hS.size,fun k hk=>?_⟩,?_⟩
  · refine (hS.same k (Nat.lt_of_lt_of_le hk hE.size) ?_).1.trans (hE.block k hk)
    rw [if_pos hk];decide
  · obtain ⟨c0,g1,_,_⟩:=hv
    obtain ⟨c1,k1,k2,_⟩:=hR2.1
    obtain ⟨rfl,hin'⟩:=Ih k2
    refine ⟨_,⟨k1.1,?_⟩,Hp hin',fun g hg hlt=>?_⟩
    · rcases k1.2 with h|⟨g,cap,cur,e,_,r⟩
      · exact .inl h
      · exact .inr ⟨g,cap,cur,e,(g1.lt g (by rw [e];rfl)).1,r⟩
    · have:=(g1.lt g hg).1
      exact Nat.lt_irrefl _ (Nat.lt_of_lt_of_le hlt this)
noncomputable def Dm (x0:List Lch):Option (List Lch):=if x0.length * 16≤140737488351232 then some (AY x0) else none
theorem IF {w:World} {A:Nat→Prop} (hA:∀ k,A k→k < w.heap.size) {vx0:Value} {x0:List Lch} (a0:Vb w A vx0 x0) {r:List Lch} (hm:Dm x0=some r) :
    Fn Tryz.prog 66 [vx0] w fun v w'=>Ext w w'∧Vb w' (upA A w w') v r:=by
  obtain ⟨hl,rfl⟩:=Di hm
  obtain ⟨Ad,c,rfl⟩:=a0.form
  have hin:∀ x∈x0,inI64 x.tm∧inI64 x.job:=fun x hx=>by
    obtain ⟨j,hj⟩:=List.getElem?_of_mem hx
    obtain ⟨_,_,cs,_,_,_,_,hr⟩:=a0.elem hj
    exact ⟨hr.2.1,hr.2.2⟩
  have hat:=LchAt.of hA a0
  refine AH Tryz.func66 rfl Tryz.ntmps66 rfl ?_
  repeat (first|refine Ar ?_|refine Aj rfl ?_|refine Ah rfl ?_)
  refine Al rfl rfl (o_z ?_)
  repeat (first|refine Ar ?_|refine Aj rfl ?_|refine Ah rfl ?_)
  refine Ak rfl rfl ?_
  refine Dq rfl rfl (Rz (.slice Ad x0.length c)) fun v w1 ⟨hv,hN⟩=>?_
  subst hv
  have hB1:Ext w w1:=hN.ext
  refine Dq rfl rfl (Oe hl (by omega) hin (Bs:=w.heap.size) (sv:=.slice Ad x0.length c) (by rw [hN.size];omega) (hN.blk.cell (i:=0) rfl) ((hat.below hB1).up hB1.size)) fun u w2 ⟨hE,ho⟩=>?_
  refine Al rfl rfl (o_z ?_)
  repeat (first|refine Ar ?_|refine Aj rfl ?_|refine Ah rfl ?_)
  refine ret1v rfl (At rfl) ⟨hB1.trans (hE.mono hB1.size),?_⟩
  obtain ⟨cells,k1,k2,k3⟩:=ho
  obtain ⟨rfl,hin'⟩:=Ih k2
  have ho':Own w2 w1.heap.size (fun _=>False) 52 u (AY x0):=⟨_,k1,Hp hin',fun _ _ h=>h⟩
  refine ho'.vb.mono fun k hk=>?_
  rcases hk with h|h
  · exact h.elim
  · exact .inr ⟨Nat.le_trans hB1.size (ho'.lt k h).1,(ho'.lt k h).2⟩
end
section
open Go Go.RowKit
attribute [local irreducible] ewp owp hwp hwq Ev Evg Fn retPost Res1
attribute [local irreducible] hwx loudX
structure Wtr where
  t:Tpl
  first:List Int
  last:Int
  left:List Int
  out:List Int
instance:Ow Wtr where
  R w F M v x:=∃ (g:Nat) (L:Lab) (c0 c1 c2 c3 c4 c5 c6:Value),v=.pointer (some ⟨g,0,none⟩)∧Blk w g 110 [c0,c1,c2,c3,c4,.int .i64 x.last,c5,c6]∧M g∧L g=0∧Vb w F c0 x.t.vars∧Vb w F c1 x.t.init∧Vb w F c2 x.t.goal∧Vb w F c3 x.t.jobs∧RwM w F (fun k=>M k∧L k=1) 3 c4 x.first∧inI64 x.last∧RwM w F (fun k=>M k∧L k=2) 3 c5 x.left∧RwM w F (fun k=>M k∧L k=3) 3 c6 x.out
  agree:=by rintro w w' F M v x ⟨g,L,c0,c1,c2,c3,c4,c5,c6,rfl,hb,hM,hL,h0,h1,h2,h3,h4,h5,h6,h7⟩ a1 a2;exact ⟨g,L,c0,c1,c2,c3,c4,c5,c6,rfl,hb.keep (a2 g hM),hM,hL,h0.agree a1,h1.agree a1,h2.agree a1,h3.agree a1,h4.agree a1 fun k hk=>a2 k hk.1,h5,h6.agree a1 fun k hk=>a2 k hk.1,h7.agree a1 fun k hk=>a2 k hk.1⟩
  mono:=by rintro w F M F' M' v x ⟨g,L,c0,c1,c2,c3,c4,c5,c6,rfl,hb,hM,hL,h0,h1,h2,h3,h4,h5,h6,h7⟩ a1 a2 a3;exact ⟨g,L,c0,c1,c2,c3,c4,c5,c6,rfl,hb,a2 g hM,hL,h0.mono a1,h1.mono a1,h2.mono a1,h3.mono a1,h4.mono a1 (fun k hk=>⟨a2 k hk.1,hk.2⟩) fun k hf hm=>a3 k hf hm.1,h5,h6.mono a1 (fun k hk=>⟨a2 k hk.1,hk.2⟩) fun k hf hm=>a3 k hf hm.1,h7.mono a1 (fun k hk=>⟨a2 k hk.1,hk.2⟩) fun k hf hm=>a3 k hf hm.1⟩
theorem Wtr.opn {i:Nat} {w:World} {O:Lab} {p:Nat} {x:Wtr} (h:Ob i w O (.pointer (some ⟨p,0,none⟩)) x) (l0 l1 l2 l3:Nat) (hl:l0≠0∧l1≠0∧l2≠0∧l3≠0):∃ (O':Lab) (c0 c1 c2 c3 c4 c5 c6:Value),St (eT i) w O w O'∧(∀ k,Fr i w O k→∃ q,q∈[l0,l1,l2,l3]∧Fr q w O' k)∧Lc l0 w O' p 110 [c0,c1,c2,c3,c4,.int .i64 x.last,c5,c6]∧Vb w (Fr 0 w O') c0 x.t.vars∧Vb w (Fr 0 w O') c1 x.t.init∧Vb w (Fr 0 w O') c2 x.t.goal∧Vb w (Fr 0 w O') c3 x.t.jobs∧Rw l1 w O' 3 c4 x.first∧inI64 x.last∧Rw l2 w O' 3 c5 x.left∧Rw l3 w O' 3 c6 x.out:=by
  obtain ⟨⟨g,L,c0,c1,c2,c3,c4,c5,c6,hv,hb,hM,hL,h0,h1,h2,h3,h4,h5,h6,h7⟩,hi⟩:=h
  obtain rfl:p=g:=by injection hv with hv;injection hv with hv;injection hv
  exact ⟨part O i L [l0,l1,l2,l3],c0,c1,c2,c3,c4,c5,c6,Tq hi,RP (by simp),⟨hb,(Ll (j:=0) rfl p ⟨hM,hL⟩).2⟩,h0.mono (GT hi),h1.mono (GT hi),h2.mono (GT hi),h3.mono (GT hi),h4.rw (GT hi) (Ll (j:=1) rfl) hl.2.1,h5,h6.rw (GT hi) (Ll (j:=2) rfl) hl.2.2.1,h7.rw (GT hi) (Ll (j:=3) rfl) hl.2.2.2⟩
theorem Wtr.shut {w:World} {O:Lab} {p:Nat} {x:Wtr} {l0 l1 l2 l3:Nat} {c0 c1 c2 c3 c4 c5 c6:Value} (hd:¬ 0∈[l0,l1,l2,l3]∧[l0,l1,l2,l3].idxOf l0=0∧[l0,l1,l2,l3].idxOf l1=1∧[l0,l1,l2,l3].idxOf l2=2∧[l0,l1,l2,l3].idxOf l3=3) (hb:Lc l0 w O p 110 [c0,c1,c2,c3,c4,.int .i64 x.last,c5,c6]) (h0:Vb w (Fr 0 w O) c0 x.t.vars) (h1:Vb w (Fr 0 w O) c1 x.t.init) (h2:Vb w (Fr 0 w O) c2 x.t.goal) (h3:Vb w (Fr 0 w O) c3 x.t.jobs) (h4:Rw l1 w O 3 c4 x.first) (h5:inI64 x.last) (h6:Rw l2 w O 3 c5 x.left) (h7:Rw l3 w O 3 c6 x.out):∃ O',St (·∈[l0,l1,l2,l3]) w O w O'∧(∀ k,Fr 0 w O k→Fr 0 w O' k)∧(∀ q,q∈[l0,l1,l2,l3]→∀ k,Fr q w O k→Fr l0 w O' k)∧Ob l0 w O' (.pointer (some ⟨p,0,none⟩)) x:=by
  have hb1:l0≠0:=fun e=>hd.1 (by simp [e])
  have hg:=JM (i:=l0) hd.2.1 (by simp) p ⟨hb.1.lt,hb.2⟩
  exact ⟨whole O l0 [l0,l1,l2,l3],RQ,FG hd.1,QV,⟨p,fun k=>[l0,l1,l2,l3].idxOf (O k),c0,c1,c2,c3,c4,c5,c6,rfl,hb.1,hg.1,hg.2,h0.mono (FG hd.1),h1.mono (FG hd.1),h2.mono (FG hd.1),h3.mono (FG hd.1),h4.m (FG hd.1) (JM hd.2.2.1 (by simp)) (fun k a b=>frNe0 hb1 k a b.1),h5,h6.m (FG hd.1) (JM hd.2.2.2.1 (by simp)) (fun k a b=>frNe0 hb1 k a b.1),h7.m (FG hd.1) (JM hd.2.2.2.2 (by simp)) (fun k a b=>frNe0 hb1 k a b.1)⟩,hb1⟩
noncomputable def Er (x0:Tsk) (x1:List Int) (x2:List Int):Option ((List Int)×Int×Err) :=
  bnd (DO x0) fun q30=>if q30.n≠0 then (some (([]:List Int),0,(⟨q30.n⟩:Err))) else (bnd (CS x0.vars x1) fun q39=>if q39=true then if 65536 < (x2.length:Int) then (some (([]:List Int),0,(⟨5⟩:Err))) else (bnd (Bu x1) fun q49=>bnd (rng (ρ:=(List Int)×Int×Err) (fun (k65:Nat) (a66:Int) (s63:(List Int)×Int)=>bnd (Dl x0 s63.1 a66) fun q90=>if q90.2.n≠0 then (some (.ret (([]:List Int),0,(⟨q90.2.n⟩:Err)))) else (bnd (atI x0.ops a66) fun a105=>bnd (chkI (s63.2 + a105.cost)) fun n126=>some (.next (q90.1,n126)))) x2 0 (q49,0)) fun res61=>fin res61 fun (s133:(List Int)×Int)=>some (s133.1,s133.2,(⟨0⟩:Err))) else some (([]:List Int),0,(⟨2⟩:Err)))
theorem QG {w:World} {A:Nat→Prop} (hA:∀ k,A k→k < w.heap.size) {vx0:Value} {x0:Tsk} (l1:Vb w A vx0 x0) {vx1:Value} {x1:List Int} (l0:Vb w A vx1 x1) {vx2:Value} {x2:List Int} (b0:Vb w A vx2 x2) {r:(List Int)×Int×Err} (hm:Er x0 x1 x2=some r) :
    Fn Tryz.prog 29 [vx0,vx1,vx2] w fun v w'=>Ext w w'∧T3 w' (upA A w w') v r:=by
 obtain ⟨O,hB,m1⟩:=enter hA
 replace l1:=l1.mono m1
 obtain ⟨e4,rfl,v5,v6,v7,v8,rfl,h9,h0,i0,d0⟩:=l1
 obtain ⟨r0,s0,rfl⟩:=h9.form
 obtain ⟨t0,u0,rfl⟩:=h0.form
 obtain ⟨v0,w0,rfl⟩:=i0.form
 obtain ⟨y0,z0,rfl⟩:=d0.form
 replace l0:=l0.mono m1
 obtain ⟨f4,g4,rfl⟩:=l0.form
 replace b0:=b0.mono m1
 obtain ⟨n2,o2,rfl⟩:=b0.form
 refine AH Tryz.func29 rfl Tryz.ntmps29 rfl ?_
 unfold Er at hm
 refine Ab (Aa (Cd 2 O rfl rfl fun n1 o1 p1 j0 c0=>?_))
 replace c0:Lc 2 o1 p1 n1 31 [(.slice r0 x0.vars.length s0),(.slice t0 x0.init.length u0),(.slice v0 x0.goal.length w0),(.slice y0 x0.ops.length z0)]:=c0
 refine Al rfl rfl (Al rfl rfl (Al rfl rfl (o_z ?_)))
 refine Ab (Ab (Aa (Bv (hl:=rfl) (hc:=(c0.1).cellsAt) rfl rfl ?_)))
 obtain ⟨u2,v2,hm⟩:=bs hm
 replace h9:=h9.st j0
 replace h0:=h0.st j0
 replace i0:=i0.st j0
 replace d0:=d0.st j0
 refine AI (O:=p1) (A:=All o1) (R:=fun w' F v=>Vb w' F v u2) (KL (fun _ h=>h) (Vb.mono (F:=Fr 0 o1 p1) (Vb.ofAgg (cs:=[(.slice r0 x0.vars.length s0),(.slice t0 x0.init.length u0),(.slice v0 x0.goal.length w0),(.slice y0 x0.ops.length z0)]) (x:=x0) rfl ⟨_,_,_,_,rfl,h9,h0,i0,d0⟩) Fr.lt) v2) rfl rfl fun h4 i1 j1 f0 w2=>?_
 obtain ⟨rfl,y2⟩:=w2.err
 refine Al rfl rfl (o_z ?_)
 refine Ab (Aa (Ak rfl rfl (Gf rfl rfl (fun q1=>?_) fun q1=>?_)))
 ·
  replace hm:=ip hm q1
  refine o_z ?_
  refine Aj rfl (Ab (Aa (Ak rfl rfl (Al rfl rfl (Al rfl rfl (Al rfl rfl (o_z ?_)))))))
  refine AD ?_
  obtain rfl:=sm hm
  replace hB:=(hB.st j0).st f0
  exact ret3 rfl (At rfl) (At rfl) (At rfl) ⟨hB.ext,_,_,_,rfl,(Vb.mono (F:=Fr 0 i1 j1) (Vb.nil _ _) hB.out),(vInt (show inI64 (0) from by decide)),(vErr y2)⟩
 replace hm:=im hm q1
 refine o_z ?_
 refine Ah rfl (AM (Ab (Ab (Aa (AC rfl rfl ?_)))))
 replace c0:=c0.st f0
 refine AA (hc:=Blk.cell (i:=0) (c0.1) rfl) rfl rfl ?_
 refine Ak rfl rfl ?_
 obtain ⟨p2,z2,hm⟩:=bs hm
 replace l0:=(l0.st j0).st f0
 replace h9:=h9.st f0
 refine AI (O:=j1) (A:=All i1) (R:=fun w' F v=>Vb w' F v p2) (HX (fun _ h=>h) (Vb.mono (F:=Fr 0 i1 j1) h9 Fr.lt) (Vb.mono (F:=Fr 0 i1 j1) l0 Fr.lt) z2) rfl rfl fun i4 q2 r1 k0 a3=>?_
 obtain rfl:=a3.bool
 cases p2
 case false =>
  replace hm:=iF hm
  refine Fu rfl rfl (o_z ?_)
  refine Aj rfl (Ab (Aa (EY rfl rfl ?_)))
  refine Al rfl rfl (Al rfl rfl (Al rfl rfl (o_z ?_)))
  refine AD ?_
  obtain rfl:=sm hm
  replace hB:=((hB.st j0).st f0).st k0
  exact ret3 rfl (At rfl) (At rfl) (At rfl) ⟨hB.ext,_,_,_,rfl,(Vb.mono (F:=Fr 0 q2 r1) (Vb.nil _ _) hB.out),(vInt (show inI64 (0) from by decide)),(vErr (by decide))⟩
 replace hm:=iT hm
 refine Ft rfl rfl (o_z ?_)
 refine Ah rfl (AM (Ab (Ab (Aa (Ak rfl rfl (AV rfl rfl ?_))))))
 replace b0:=((b0.st j0).st f0).st k0
 have b3:x2.length≤9223372036854775807:=Nat.le_trans b0.len.2.1 b0.len.2.2
 have j4:inI64 (x2.length:Int):=rngNat b3
 refine Dg rfl rfl rfl (fun s1=>?_) fun s1=>?_
 ·
  replace hm:=ip hm s1
  refine o_z ?_
  refine Aj rfl (Ab (Aa (EY rfl rfl ?_)))
  refine Al rfl rfl (Al rfl rfl (Al rfl rfl (o_z ?_)))
  refine AD ?_
  obtain rfl:=sm hm
  replace hB:=((hB.st j0).st f0).st k0
  exact ret3 rfl (At rfl) (At rfl) (At rfl) ⟨hB.ext,_,_,_,rfl,(Vb.mono (F:=Fr 0 q2 r1) (Vb.nil _ _) hB.out),(vInt (show inI64 (0) from by decide)),(vErr (by decide))⟩
 replace hm:=im hm s1
 refine o_z ?_
 refine Ah rfl (AM (Ab (Aa (Al rfl rfl (o_z ?_)))))
 refine Ab (Aa (Ak rfl rfl ?_))
 obtain ⟨k4,c3,hm⟩:=bs hm
 replace l0:=l0.st k0
 refine Dh 3 (by decide) (O:=r1) (Dp Fr.lt l0 c3) rfl rfl fun d3 e3 l4 m4 m0 t1=>?_
 refine Al rfl rfl (o_z ?_)
 refine Ab (Ab (Aa (Ak rfl rfl (AV rfl rfl ?_))))
 replace b0:=b0.st m0
 have u1:x2.length≤9223372036854775807:=Nat.le_trans b0.len.2.1 b0.len.2.2
 have n4:inI64 (x2.length:Int):=rngNat u1
 refine Ak rfl rfl (o_z ?_)
 obtain ⟨a1,v1,hm⟩:=bs hm
 refine Az (aft a1 (fun (e0:(List Int)×Int) (g0:(Option Addr×Nat))=>[(1,(.slice g0.1 e0.1.length g0.2)),(10,(.int .i64 e0.2))]) (fun e0 g0 w'=>∃ O':Lab,Bs w A w' O'∧Vb w' (Fr 0 w' O') (.slice g0.1 e0.1.length g0.2) e0.1∧inI64 e0.2)) ?_ ?_
 ·
  refine AK ?_
  obtain ⟨f3,o0,t1⟩:=t1.freeze
  replace hB:=((((hB.st j0).st f0).st k0).st m0).st o0
  replace b0:=b0.st o0
  replace h9:=((h9.st k0).st m0).st o0
  replace h0:=(((h0.st f0).st k0).st m0).st o0
  replace i0:=(((i0.st f0).st k0).st m0).st o0
  replace d0:=(((d0.st f0).st k0).st m0).st o0
  replace c0:=((c0.st k0).st m0).st o0
  refine Bq (σ:=(List Int)×Int) (X:=(Option Addr×Nat)) (x2.length) v1 rfl u1 (fun (e0:(List Int)×Int) (g0:(Option Addr×Nat))=>[(1,(.slice g0.1 e0.1.length g0.2)),(3,(.pointer (some ⟨n1,0,none⟩))),(10,(.int .i64 e0.2)),(32,(.slice n2 x2.length o2))]) _ (fun e0 g0 w'=>∃ O':Lab,Bs w A w' O'∧Vb w' (Fr 0 w' O') (.slice g0.1 e0.1.length g0.2) e0.1∧Lc 2 w' O' n1 31 [(.slice r0 x0.vars.length s0),(.slice t0 x0.init.length u0),(.slice v0 x0.goal.length w0),(.slice y0 x0.ops.length z0)]∧Vb w' (Fr 0 w' O') (.slice r0 x0.vars.length s0) x0.vars∧Vb w' (Fr 0 w' O') (.slice t0 x0.init.length u0) x0.init∧Vb w' (Fr 0 w' O') (.slice v0 x0.goal.length w0) x0.goal∧Vb w' (Fr 0 w' O') (.slice y0 x0.ops.length z0) x0.ops∧Vb w' (Fr 0 w' O') (.slice n2 x2.length o2) x2∧inI64 e0.2) _ (d3,e3) ⟨f3,hB,t1,c0,h9,h0,i0,d0,b0,(show inI64 (0) from by decide)⟩ ⟨rfl,rfl,rfl,rfl,rfl,rfl,trivial⟩ (fun _ _=>⟨rfl,rfl⟩) (fun _ _=>⟨rfl,rfl,trivial⟩) (fun _ _ _ ⟨O',hB,b1,c0,h9,h0,i0,d0,b0,k1⟩=>⟨O',hB,b1,k1⟩) ⟨rfl,rfl,rfl⟩ ⟨rfl,rfl⟩ ?_
  rintro g3 o4 e0 g0 p4 h3 c1 ⟨i3,hB,b1,c0,h9,h0,i0,d0,b0,k1⟩ a0 p0 w1
  have rk65:inI64 (g3:Int):=rngK c1 u1
  refine Ab (Aa ?_)
  obtain ⟨q4,r4,j3,y1,z1,a2,rfl,k3⟩:=b0.elem' c1
  refine BB (hA:=y1) (hj:=rfl) (hlt:=z1) rfl rfl rfl ?_
  refine AA (hc:=cat0 a2) rfl rfl ?_
  refine Al rfl rfl (o_z ?_)
  refine Ab (Aa (Bv (hl:=rfl) (hc:=(c0.1).cellsAt) rfl rfl ?_))
  refine Ak rfl rfl (Ak rfl rfl ?_)
  obtain ⟨l3,m3,a0⟩:=bs a0
  refine Ce (O:=i3) (R:=fun w' F v=>T2 w' F v l3) (OJ Fr.lt (Vb.ofAgg (cs:=[(.slice r0 x0.vars.length s0),(.slice t0 x0.init.length u0),(.slice v0 x0.goal.length w0),(.slice y0 x0.ops.length z0)]) (x:=x0) rfl ⟨_,_,_,_,rfl,h9,h0,i0,d0⟩) b1 k3 m3) rfl rfl fun s4 r2 n3 n0 o3=>?_
  obtain ⟨t4,u4,rfl,s2,b2⟩:=o3
  obtain ⟨c2,d2,rfl⟩:=s2.form
  obtain ⟨rfl,e2⟩:=b2.err
  refine Ak rfl rfl (Db rfl rfl rfl (Db rfl rfl rfl (Al rfl rfl (Al rfl rfl (o_z ?_)))))
  refine Ab (Ab (Aa (Ak rfl rfl (Gf rfl rfl (fun q0=>?_) fun q0=>?_))))
  ·
   replace a0:=ip a0 q0
   refine o_z ?_
   refine Aj rfl (Ab (Aa (Ak rfl rfl (Al rfl rfl (Al rfl rfl (Al rfl rfl (o_z ?_)))))))
   refine AD ?_
   obtain rfl:=sm a0
   obtain rfl:=p0 _ rfl
   obtain rfl:=sm (CF hm)
   replace hB:=hB.st n0
   exact ret3 rfl (At rfl) (At rfl) (At rfl) ⟨hB.ext,_,_,_,rfl,(Vb.mono (F:=Fr 0 r2 n3) (Vb.nil _ _) hB.out),(vInt (show inI64 (0) from by decide)),(vErr e2)⟩
  replace a0:=im a0 q0
  refine o_z ?_
  refine Ah rfl (AM (FO (·=r2) [(0,true),(1,true),(2,true),(3,true),(4,true),(5,true),(6,true),(7,true),(8,true),(9,true),(10,true)] (by kernel_rfl) rfl (by kernel_rfl) rfl ?_))
  refine Bo rfl rfl rfl (Bo rfl rfl rfl (Bn rfl rfl rfl ?_))
  replace c0:=c0.st n0
  refine Fm (hc:=Blk.cell (i:=3) (c0.1) rfl) rfl rfl rfl ?_
  refine Bo rfl rfl rfl ?_
  obtain ⟨p3,f2,a0⟩:=bs a0
  obtain ⟨g2,h2⟩:=BQ f2
  replace d0:=d0.st n0
  obtain ⟨q3,r3,t2,d1,e1,f1,s3,t3,rfl,i2,j2,u3,v3⟩:=d0.elem' h2
  obtain ⟨w3,x3,rfl⟩:=i2.form
  obtain ⟨y3,z3,rfl⟩:=j2.form
  refine EZ (hA:=d1) (hj:=(Int.toNat_of_nonneg g2).symm) (hlt:=e1) rfl rfl rfl rfl ?_
  refine Bn rfl rfl rfl (Fm (hc:=cat1 f1) rfl rfl rfl ?_)
  obtain ⟨a4,g1,a0⟩:=bs a0
  have k2:=(Bb g1)
  refine Ln (he:=g1) rfl rfl rfl rfl ?_
  refine KH rfl rfl rfl (KH rfl rfl rfl (h_z ?_))
  obtain rfl:=sm a0
  exact show Exists _ from ⟨_,(c2,d2),rfl,⟨rfl,rfl,rfl,rfl,rfl,rfl,trivial⟩,_,hB.st n0,s2,c0,h9.st n0,h0.st n0,i0.st n0,d0,b0.st n0,k2⟩
 replace hB:=(((hB.st j0).st f0).st k0).st m0
 rintro b4 l2 ⟨c4,d4,rfl,h1,m2,hB,b1,k1⟩
 replace hm:=AW hm
 refine AF _ h1 ?_
 refine Ab (Aa (Ak rfl rfl (Ak rfl rfl (Al rfl rfl (Al rfl rfl (Al rfl rfl (o_z ?_)))))))
 refine AD ?_
 obtain rfl:=sm hm
 exact ret3 rfl (At rfl) (At rfl) (At rfl) ⟨hB.ext,_,_,_,rfl,(Vb.mono (F:=Fr 0 l2 m2) b1 hB.out),(vInt k1),(vErr (show inI64 0 from by decide))⟩
noncomputable def DE (x0:Tpl) (x1:List Int):Option ((List Lch)×Err) :=
  bnd (BK x0) fun q27=>if q27.2.n≠0 then (some (([]:List Lch),(⟨q27.2.n⟩:Err))) else (bnd (Er q27.1 q27.1.init x1) fun q64=>if q64.2.2.n≠0 then (some (([]:List Lch),(⟨q64.2.2.n⟩:Err))) else (bnd (rng (ρ:=(List Lch)×Err) (fun (k88:Nat) (a89:Int) (s86:(List Lch)×Int)=>bnd (bnd (chkI (2 * (x0.jobs.length:Int))) fun n119=>if a89 < n119 then (bnd (remI a89 2) fun n123=>if n123=0 then (some true) else (some false)) else (some false):Option Bool) fun y113=>if y113=true then (bnd (quoI a89 2) fun n132=>bnd (appI 16 s86.1 [(⟨s86.2,n132⟩:Lch)]) fun u135=>some (.next (u135,s86.2))) else (bnd (chkI ((q27.1.ops.length:Int) - 1)) fun n149=>if a89=n149 then (bnd (chkI (s86.2 + 1)) fun n153=>some (.next (s86.1,n153))) else (some (.next (s86.1,s86.2))))) x1 0 (([]:List Lch),0)) fun res84=>fin res84 fun (s160:(List Lch)×Int)=>bnd (Dm s160.1) fun q164=>some (q164,(⟨0⟩:Err))))
theorem KY {w:World} {A:Nat→Prop} (hA:∀ k,A k→k < w.heap.size) {vx0:Value} {x0:Tpl} (n2:Vb w A vx0 x0) {vx1:Value} {x1:List Int} (f0:Vb w A vx1 x1) {r:(List Lch)×Err} (hm:DE x0 x1=some r) :
    Fn Tryz.prog 26 [vx0,vx1] w fun v w'=>Ext w w'∧T2 w' (upA A w w') v r:=by
 obtain ⟨O,hB,m3⟩:=enter hA
 replace n2:=n2.mono m3
 obtain ⟨l5,rfl,v4,v5,v6,v7,rfl,h8,m0,n0,j0⟩:=n2
 obtain ⟨A9,f1,rfl⟩:=h8.form
 obtain ⟨g1,h1,rfl⟩:=m0.form
 obtain ⟨i1,j1,rfl⟩:=n0.form
 obtain ⟨k1,l1,rfl⟩:=j0.form
 replace f0:=f0.mono m3
 obtain ⟨l2,m2,rfl⟩:=f0.form
 refine AH Tryz.func26 rfl Tryz.ntmps26 rfl ?_
 unfold DE at hm
 refine Ab (Aa (Cd 2 O rfl rfl fun u1 s3 n3 w0 o0=>?_))
 replace o0:Lc 2 s3 n3 u1 26 [(.slice A9 x0.vars.length f1),(.slice g1 x0.init.length h1),(.slice i1 x0.goal.length j1),(.slice k1 x0.jobs.length l1)]:=o0
 refine Al rfl rfl (Al rfl rfl (o_z ?_))
 refine Ab (Aa (Bv (hl:=rfl) (hc:=(o0.1).cellsAt) rfl rfl ?_))
 obtain ⟨c0,t3,hm⟩:=bs hm
 replace h8:=h8.st w0
 replace m0:=m0.st w0
 replace n0:=n0.st w0
 replace j0:=j0.st w0
 refine Ce (O:=n3) (R:=fun w' F v=>T2 w' F v c0) (Fo Fr.lt (Vb.ofAgg (cs:=[(.slice A9 x0.vars.length f1),(.slice g1 x0.init.length h1),(.slice i1 x0.goal.length j1),(.slice k1 x0.jobs.length l1)]) (x:=x0) rfl ⟨_,_,_,_,rfl,h8,m0,n0,j0⟩) t3) rfl rfl fun m5 n5 u3 v0 v3=>?_
 obtain ⟨o5,p5,rfl,w3,x3⟩:=v3
 obtain ⟨y3,rfl,q5,r5,s5,t5,rfl,p0,l0,q0,k0⟩:=w3
 obtain ⟨m1,n1,rfl⟩:=p0.form
 obtain ⟨o1,p1,rfl⟩:=l0.form
 obtain ⟨q1,r1,rfl⟩:=q0.form
 obtain ⟨s1,t1,rfl⟩:=k0.form
 obtain ⟨rfl,z3⟩:=x3.err
 refine Ak rfl rfl (Db rfl rfl rfl (Db rfl rfl rfl (AR 3 u3 rfl fun v1 u5 o2 r0 i0=>?_)))
 refine AB i0 rfl rfl rfl (AJ rfl) (allOne rfl) fun o3 s0 i0=>?_
 replace i0:Lc 3 o3 o2 v1 31 [(.slice m1 c0.1.vars.length n1),(.slice o1 c0.1.init.length p1),(.slice q1 c0.1.goal.length r1),(.slice s1 c0.1.ops.length t1)]:=i0
 refine Al rfl rfl (o_z ?_)
 refine Ab (Ab (Aa (Ak rfl rfl (Gf rfl rfl (fun p2=>?_) fun p2=>?_))))
 ·
  replace hm:=ip hm p2
  refine o_z ?_
  refine Aj rfl (Ab (Aa (Ak rfl rfl (Al rfl rfl (Al rfl rfl (o_z ?_))))))
  refine AD ?_
  obtain rfl:=sm hm
  replace hB:=(((hB.st w0).st v0).st r0).st s0
  exact ret2 rfl (At rfl) (At rfl) ⟨hB.ext,_,_,rfl,(Vb.mono (F:=Fr 0 o3 o2) (Vb.nil _ _) hB.out),(vErr z3)⟩
 replace hm:=im hm p2
 refine o_z ?_
 refine Ah rfl (AM (Ab (Ab (Aa (Bv (hl:=rfl) (hc:=(i0.1).cellsAt) rfl rfl ?_)))))
 refine AC rfl rfl (AA (hc:=Blk.cell (i:=1) (i0.1) rfl) rfl rfl ?_)
 refine Ak rfl rfl ?_
 obtain ⟨a4,b4,hm⟩:=bs hm
 replace f0:=(((f0.st w0).st v0).st r0).st s0
 replace p0:=(p0.st r0).st s0
 replace l0:=(l0.st r0).st s0
 replace q0:=(q0.st r0).st s0
 replace k0:=(k0.st r0).st s0
 refine Ce (O:=o2) (R:=fun w' F v=>T3 w' F v a4) (QG Fr.lt (Vb.ofAgg (cs:=[(.slice m1 c0.1.vars.length n1),(.slice o1 c0.1.init.length p1),(.slice q1 c0.1.goal.length r1),(.slice s1 c0.1.ops.length t1)]) (x:=c0.1) rfl ⟨_,_,_,_,rfl,p0,l0,q0,k0⟩) l0 f0 b4) rfl rfl fun w5 c4 p3 t0 d4=>?_
 obtain ⟨x5,y5,z5,rfl,e4,f4,g4⟩:=d4
 obtain ⟨a6,b6,rfl⟩:=e4.form
 obtain ⟨rfl,c6⟩:=f4.int
 obtain ⟨rfl,h4⟩:=g4.err
 refine Ak rfl rfl (Db rfl rfl rfl (Db rfl rfl rfl (Db rfl rfl rfl (Al rfl rfl (Al rfl rfl (Al rfl rfl (o_z ?_)))))))
 refine Ab (Aa (Ak rfl rfl (Gf rfl rfl (fun q2=>?_) fun q2=>?_)))
 ·
  replace hm:=ip hm q2
  refine o_z ?_
  refine Aj rfl (Ab (Aa (Ak rfl rfl (Al rfl rfl (Al rfl rfl (o_z ?_))))))
  refine AD ?_
  obtain rfl:=sm hm
  replace hB:=((((hB.st w0).st v0).st r0).st s0).st t0
  exact ret2 rfl (At rfl) (At rfl) ⟨hB.ext,_,_,rfl,(Vb.mono (F:=Fr 0 c4 p3) (Vb.nil _ _) hB.out),(vErr h4)⟩
 replace hm:=im hm q2
 refine o_z ?_
 refine Ah rfl (AM (Ab (Aa (Al rfl rfl (o_z ?_)))))
 refine Ab (Aa (Al rfl rfl (o_z ?_)))
 refine Ab (Ab (Aa (Ak rfl rfl (AV rfl rfl ?_))))
 replace f0:=f0.st t0
 have r2:x1.length≤9223372036854775807:=Nat.le_trans f0.len.2.1 f0.len.2.2
 have d6:inI64 (x1.length:Int):=rngNat r2
 refine Ak rfl rfl (o_z ?_)
 obtain ⟨w1,s2,hm⟩:=bs hm
 refine Az (aft w1 (fun (g0:(List Lch)×Int) (h0:(Option Addr×Nat))=>[(11,(.slice h0.1 g0.1.length h0.2))]) (fun g0 h0 w'=>∃ O':Lab,Bs w A w' O'∧Rw 4 w' O' 52 (.slice h0.1 g0.1.length h0.2) g0.1∧inI64 g0.2)) ?_ ?_
 ·
  refine AK ?_
  replace hB:=((((hB.st w0).st v0).st r0).st s0).st t0
  replace h8:=(((h8.st v0).st r0).st s0).st t0
  replace m0:=(((m0.st v0).st r0).st s0).st t0
  replace n0:=(((n0.st v0).st r0).st s0).st t0
  replace j0:=(((j0.st v0).st r0).st s0).st t0
  replace o0:=(((o0.st v0).st r0).st s0).st t0
  replace p0:=p0.st t0
  replace l0:=l0.st t0
  replace q0:=q0.st t0
  replace k0:=k0.st t0
  replace i0:=i0.st t0
  refine Bq (σ:=(List Lch)×Int) (X:=(Option Addr×Nat)) (x1.length) s2 rfl r2 (fun (g0:(List Lch)×Int) (h0:(Option Addr×Nat))=>[(2,(.pointer (some ⟨u1,0,none⟩))),(6,(.pointer (some ⟨v1,0,none⟩))),(11,(.slice h0.1 g0.1.length h0.2)),(12,(.int .i64 g0.2)),(35,(.slice l2 x1.length m2))]) _ (fun g0 h0 w'=>∃ O':Lab,Bs w A w' O'∧Lc 2 w' O' u1 26 [(.slice A9 x0.vars.length f1),(.slice g1 x0.init.length h1),(.slice i1 x0.goal.length j1),(.slice k1 x0.jobs.length l1)]∧Vb w' (Fr 0 w' O') (.slice A9 x0.vars.length f1) x0.vars∧Vb w' (Fr 0 w' O') (.slice g1 x0.init.length h1) x0.init∧Vb w' (Fr 0 w' O') (.slice i1 x0.goal.length j1) x0.goal∧Vb w' (Fr 0 w' O') (.slice k1 x0.jobs.length l1) x0.jobs∧Lc 3 w' O' v1 31 [(.slice m1 c0.1.vars.length n1),(.slice o1 c0.1.init.length p1),(.slice q1 c0.1.goal.length r1),(.slice s1 c0.1.ops.length t1)]∧Vb w' (Fr 0 w' O') (.slice m1 c0.1.vars.length n1) c0.1.vars∧Vb w' (Fr 0 w' O') (.slice o1 c0.1.init.length p1) c0.1.init∧Vb w' (Fr 0 w' O') (.slice q1 c0.1.goal.length r1) c0.1.goal∧Vb w' (Fr 0 w' O') (.slice s1 c0.1.ops.length t1) c0.1.ops∧Rw 4 w' O' 52 (.slice h0.1 g0.1.length h0.2) g0.1∧Vb w' (Fr 0 w' O') (.slice l2 x1.length m2) x1∧inI64 g0.2) _ (none,0) ⟨p3,hB,o0,h8,m0,n0,j0,i0,p0,l0,q0,k0,(Rw.nil 4 (by decide)),f0,(show inI64 (0) from by decide)⟩ ⟨rfl,rfl,rfl,rfl,rfl,rfl,rfl,trivial⟩ (fun _ _=>⟨rfl,rfl⟩) (fun _ _=>⟨rfl,trivial⟩) (fun _ _ _ ⟨O',hB,o0,h8,m0,n0,j0,i0,p0,l0,q0,k0,d0,f0,u0⟩=>⟨O',hB,d0,u0⟩) ⟨rfl,rfl,rfl⟩ ⟨rfl,rfl⟩ ?_
  rintro q3 i4 g0 h0 e6 j4 y1 ⟨f6,hB,o0,h8,m0,n0,j0,i0,p0,l0,q0,k0,d0,f0,u0⟩ b0 t2 u2
  have rk88:inI64 (q3:Int):=rngK y1 r2
  refine Ab (Aa ?_)
  obtain ⟨k4,l4,r3,z1,a2,b2,rfl,y0⟩:=f0.elem' y1
  refine BB (hA:=z1) (hj:=rfl) (hlt:=a2) rfl rfl rfl ?_
  refine AA (hc:=cat0 b2) rfl rfl ?_
  refine Al rfl rfl (o_z ?_)
  refine AK (Ab ?_)
  obtain ⟨v2,a0,b0⟩:=bs b0
  refine Az (fun l' w'=>∃ (w2:Unit) (O':Lab),subs l' [(2,(.pointer (some ⟨u1,0,none⟩))),(6,(.pointer (some ⟨v1,0,none⟩))),(11,(.slice h0.1 g0.1.length h0.2)),(12,(.int .i64 g0.2)),(14,(.int .i64 i4)),(35,(.slice l2 x1.length m2)),(36,(.int .i64 (x1.length:Int))),(37,(.int .i64 (q3:Int))),(41,(.bool v2))]∧Bs w A w' O'∧Lc 2 w' O' u1 26 [(.slice A9 x0.vars.length f1),(.slice g1 x0.init.length h1),(.slice i1 x0.goal.length j1),(.slice k1 x0.jobs.length l1)]∧Vb w' (Fr 0 w' O') (.slice A9 x0.vars.length f1) x0.vars∧Vb w' (Fr 0 w' O') (.slice g1 x0.init.length h1) x0.init∧Vb w' (Fr 0 w' O') (.slice i1 x0.goal.length j1) x0.goal∧Vb w' (Fr 0 w' O') (.slice k1 x0.jobs.length l1) x0.jobs∧Lc 3 w' O' v1 31 [(.slice m1 c0.1.vars.length n1),(.slice o1 c0.1.init.length p1),(.slice q1 c0.1.goal.length r1),(.slice s1 c0.1.ops.length t1)]∧Vb w' (Fr 0 w' O') (.slice m1 c0.1.vars.length n1) c0.1.vars∧Vb w' (Fr 0 w' O') (.slice o1 c0.1.init.length p1) c0.1.init∧Vb w' (Fr 0 w' O') (.slice q1 c0.1.goal.length r1) c0.1.goal∧Vb w' (Fr 0 w' O') (.slice s1 c0.1.ops.length t1) c0.1.ops∧Rw 4 w' O' 52 (.slice h0.1 g0.1.length h0.2) g0.1∧Vb w' (Fr 0 w' O') (.slice l2 x1.length m2) x1) ?_ ?_
  ·
   refine Aa (Ak rfl rfl (AC rfl rfl (AA (hc:=Blk.cell (i:=3) (o0.1) rfl) rfl rfl ?_)))
   refine AV rfl rfl ?_
   have x2:x0.jobs.length≤9223372036854775807:=Nat.le_trans j0.len.2.1 j0.len.2.2
   have m4:inI64 (x0.jobs.length:Int):=rngNat x2
   obtain ⟨n4,c2,a0⟩:=bs a0
   have o4:=(Bb c2)
   refine Hl (he:=c2) rfl rfl rfl ?_
   refine EE rfl rfl rfl (fun z0=>?_) fun z0=>?_
   ·
    replace a0:=ip a0 z0
    refine Ak rfl rfl (An rfl rfl (Ak rfl rfl (An rfl rfl ?_)))
    obtain ⟨p4,d2,a0⟩:=bs a0
    have q4:=Tl d2 y0
    refine Ve (he:=d2) rfl rfl rfl ?_
    refine An rfl rfl (Id rfl rfl rfl (fun a1=>?_) fun a1=>?_)
    ·
     replace a0:=ip a0 a1
     refine BN rfl rfl rfl (Al rfl rfl (o_z ?_))
     obtain rfl:=sm a0
     exact ⟨(),_,⟨rfl,rfl,rfl,rfl,rfl,rfl,rfl,rfl,rfl,trivial⟩,hB,o0,h8,m0,n0,j0,i0,p0,l0,q0,k0,d0,f0⟩
    replace a0:=im a0 a1
    refine BN rfl rfl rfl (Al rfl rfl (o_z ?_))
    obtain rfl:=sm a0
    exact ⟨(),_,⟨rfl,rfl,rfl,rfl,rfl,rfl,rfl,rfl,rfl,trivial⟩,hB,o0,h8,m0,n0,j0,i0,p0,l0,q0,k0,d0,f0⟩
   replace a0:=im a0 z0
   refine Ak rfl rfl (Am rfl rfl rfl rfl (Am rfl rfl rfl rfl (Am rfl rfl rfl rfl (BI rfl rfl rfl (Al rfl rfl (o_z ?_))))))
   obtain rfl:=sm a0
   exact ⟨(),_,⟨rfl,rfl,rfl,rfl,rfl,rfl,rfl,rfl,rfl,trivial⟩,hB,o0,h8,m0,n0,j0,i0,p0,l0,q0,k0,d0,f0⟩
  rintro r4 s4 ⟨w2,t4,e2,hB,o0,h8,m0,n0,j0,i0,p0,l0,q0,k0,d0,f0⟩
  refine AF _ e2 ?_
  refine CD rfl (fun b1=>?_) (fun b1=>?_)
  ·
   replace b0:=ip b0 b1
   refine Aa (Ak rfl rfl (Ak rfl rfl (Ak rfl rfl ?_)))
   obtain ⟨c1,f2,b0⟩:=bs b0
   have y2:=Tn f2 y0
   refine Vf (he:=f2) (hr:=y0) rfl rfl rfl ?_
   refine Ez rfl rfl rfl ?_
   obtain ⟨u4,d1,b0⟩:=bs b0
   obtain ⟨d1,z2,a3⟩:=AP d1
   refine CB rfl (a:=(⟨g0.2,c1⟩:Lch)) d0 (Vb.ofAgg (cs:=[(.int .i64 g0.2),(.int .i64 c1)]) (x:=(⟨g0.2,c1⟩:Lch)) rfl ⟨rfl,u0,y2⟩) (fun _=>rfl) rfl (by decide) (by decide) z2 a3 ⟨rfl,rfl⟩ fun w4 b3 c3 x4 y4 e0 g2=>?_
   rw [← d1] at g2 ⊢
   refine Al rfl rfl (o_z ?_)
   obtain rfl:=sm b0
   exact show Exists _ from ⟨_,(b3,c3),rfl,⟨rfl,rfl,rfl,rfl,rfl,rfl,rfl,trivial⟩,_,hB.st e0,o0.st e0,h8.st e0,m0.st e0,n0.st e0,j0.st e0,i0.st e0,p0.st e0,l0.st e0,q0.st e0,k0.st e0,g2,f0.st e0,u0⟩
  replace b0:=im' b0 b1
  refine Ab (Aa (Ak rfl rfl (AC rfl rfl (AA (hc:=Blk.cell (i:=3) (i0.1) rfl) rfl rfl ?_))))
  refine AV rfl rfl ?_
  have d3:c0.1.ops.length≤9223372036854775807:=Nat.le_trans k0.len.2.1 k0.len.2.2
  have z4:inI64 (c0.1.ops.length:Int):=rngNat d3
  obtain ⟨a5,h2,b0⟩:=bs b0
  have b5:=(Bb h2)
  refine JP (he:=h2) rfl rfl rfl ?_
  refine Id rfl rfl rfl (fun e1=>?_) fun e1=>?_
  ·
   replace b0:=ip b0 e1
   refine Al rfl rfl (o_z ?_)
   refine Aj rfl (Aa (Ak rfl rfl ?_))
   obtain ⟨c5,i2,b0⟩:=bs b0
   have e3:=(Bb i2)
   refine Dx (he:=i2) rfl rfl rfl ?_
   refine Al rfl rfl (o_z ?_)
   obtain rfl:=sm b0
   exact show Exists _ from ⟨_,(h0.1,h0.2),rfl,⟨rfl,rfl,rfl,rfl,rfl,rfl,rfl,trivial⟩,_,hB,o0,h8,m0,n0,j0,i0,p0,l0,q0,k0,d0,f0,e3⟩
  replace b0:=im b0 e1
  refine Al rfl rfl (o_z ?_)
  refine Ah rfl (AM ?_)
  obtain rfl:=sm b0
  exact show Exists _ from ⟨_,(h0.1,h0.2),rfl,⟨rfl,rfl,rfl,rfl,rfl,rfl,rfl,trivial⟩,_,hB,o0,h8,m0,n0,j0,i0,p0,l0,q0,k0,d0,f0,u0⟩
 replace hB:=((((hB.st w0).st v0).st r0).st s0).st t0
 rintro d5 e5 ⟨f5,g5,rfl,j2,h5,hB,d0,u0⟩
 replace hm:=AW hm
 refine AF _ j2 ?_
 refine Ab (Aa (Ak rfl rfl ?_))
 obtain ⟨f3,g3,d0⟩:=d0.freeze
 obtain ⟨h3,i3,hm⟩:=bs hm
 refine Ce (O:=f3) (R:=fun w' F v=>Vb w' F v h3) (IF Fr.lt d0 i3) rfl rfl fun i5 j3 k3 l3 k2=>?_
 obtain ⟨j5,k5,rfl⟩:=k2.form
 refine Al rfl rfl (Al rfl rfl (o_z ?_))
 refine AD ?_
 obtain rfl:=sm hm
 replace hB:=(hB.st g3).st l3
 exact ret2 rfl (At rfl) (At rfl) ⟨hB.ext,_,_,rfl,(Vb.mono (F:=Fr 0 j3 k3) k2 hB.out),(vErr (show inI64 0 from by decide))⟩
noncomputable def BP (x0:List Lch) (x1:Lch):Option Int :=
  bnd (rng (ρ:=Int) (fun (k19:Nat) (a20:Lch) (s17:Unit)=>if x1.tm=a20.tm∧x1.job=a20.job then (some (.ret (k19:Int))) else (some (.next ()))) x0 0 ()) fun res15=>fin res15 fun (s44:Unit)=>some (-1)
theorem Gh {w:World} {A:Nat→Prop} (hA:∀ k,A k→k < w.heap.size) {vx0:Value} {x0:List Lch} (b0:Vb w A vx0 x0) {vx1:Value} {x1:Lch} (i0:Vb w A vx1 x1) {r:Int} (hm:BP x0 x1=some r) :
    Fn Tryz.prog 115 [vx0,vx1] w fun v w'=>Ext w w'∧Vb w' (upA A w w') v r:=by
 obtain ⟨O,hB,s0⟩:=enter hA
 replace b0:=b0.mono s0
 obtain ⟨A3,c4,rfl⟩:=b0.form
 replace i0:=i0.mono s0
 obtain ⟨z0,rfl,rfl,r6,r7⟩:=i0
 refine AH Tryz.func115 rfl Tryz.ntmps115 rfl ?_
 unfold BP at hm
 refine Ab (Aa (Cd 2 O rfl rfl fun g8 w9 t0 j0 c0=>?_))
 replace c0:Lc 2 w9 t0 g8 52 [(.int .i64 x1.tm),(.int .i64 x1.job)]:=c0
 refine Al rfl rfl (o_z ?_)
 refine Ab (Ab (Aa (Ak rfl rfl (AV rfl rfl ?_))))
 replace b0:=b0.st j0
 have k0:x0.length≤9223372036854775807:=Nat.le_trans b0.len.2.1 b0.len.2.2
 have a1:inI64 (x0.length:Int):=rngNat k0
 refine Ak rfl rfl (o_z ?_)
 obtain ⟨e0,l0,hm⟩:=bs hm
 refine Az (aft e0 (fun (g0:Unit) (h0:Unit)=>[]) (fun g0 h0 w'=>∃ O':Lab,Bs w A w' O')) ?_ ?_
 ·
  refine AK ?_
  replace hB:=hB.st j0
  refine Bq (σ:=Unit) (X:=Unit) (x0.length) l0 rfl k0 (fun (g0:Unit) (h0:Unit)=>[(0,(.slice A3 x0.length c4)),(3,(.pointer (some ⟨g8,0,none⟩)))]) _ (fun g0 h0 w'=>∃ O':Lab,Bs w A w' O'∧Vb w' (Fr 0 w' O') (.slice A3 x0.length c4) x0∧Lc 2 w' O' g8 52 [(.int .i64 x1.tm),(.int .i64 x1.job)]) _ () ⟨t0,hB,b0,c0⟩ ⟨rfl,rfl,rfl,rfl,trivial⟩ (fun _ _=>⟨rfl,rfl⟩) (fun _ _=>trivial) (fun _ _ _ ⟨O',hB,b0,c0⟩=>⟨O',hB⟩) ⟨rfl,rfl,rfl⟩ ⟨rfl,rfl⟩ ?_
  rintro u0 b1 g0 h0 v0 w0 f0 ⟨c1,hB,b0,c0⟩ a0 d0 m0
  have rk19:inI64 (u0:Int):=rngK f0 k0
  refine Ab (Aa (Ak rfl rfl (Al rfl rfl (o_z ?_))))
  refine Ab (FO (·=v0) [(0,true),(1,true),(2,true),(3,true),(4,true),(5,true)] (by kernel_rfl) rfl (by kernel_rfl) rfl ?_)
  refine ST (hl:=rfl) (hc:=(c0.1).cellsAt) rfl rfl rfl ?_
  refine Bo rfl rfl rfl (Bo rfl rfl rfl ?_)
  obtain ⟨d1,e1,y0,n0,o0,p0,rfl,f1,g1⟩:=b0.elem' f0
  refine EZ (hA:=n0) (hj:=rfl) (hlt:=o0) rfl rfl rfl rfl ?_
  refine ST (hl:=rfl) (hc:=p0) rfl rfl rfl ?_
  refine Vi rfl rfl rfl rfl (fun q0=>?_) fun q0=>?_
  ·
   replace a0:=ip a0 q0
   refine h_z ?_
   refine Aj rfl (Ab (Aa (Ak rfl rfl (Al rfl rfl (o_z ?_)))))
   refine AD ?_
   obtain rfl:=sm a0
   obtain rfl:=d0 _ rfl
   obtain rfl:=sm (CF hm)
   exact ret1v rfl (At rfl) ⟨hB.ext,(vInt rk19)⟩
  replace a0:=im a0 q0
  refine h_z ?_
  refine Ah rfl (AM ?_)
  obtain rfl:=sm a0
  exact show Exists _ from ⟨_,(),rfl,⟨rfl,rfl,rfl,rfl,trivial⟩,_,hB,b0,c0⟩
 replace hB:=hB.st j0
 rintro h1 i1 ⟨j1,k1,rfl,r0,l1,hB⟩
 replace hm:=AW hm
 refine AF _ r0 ?_
 refine Ab (Aa (Al rfl rfl (o_z ?_)))
 refine AD ?_
 obtain rfl:=sm hm
 exact ret1v rfl (At rfl) ⟨hB.ext,(vInt (show inI64 (-1) from by decide))⟩
noncomputable def Bp (x0:List Lch) (x1:Lch):Option Bool :=
  bnd (bnd (BP x0 x1) fun q17=>if 0≤q17 then (some true) else (some false):Option Bool) fun y13=>some y13
theorem FQ {w:World} {A:Nat→Prop} (hA:∀ k,A k→k < w.heap.size) {vx0:Value} {x0:List Lch} (b0:Vb w A vx0 x0) {vx1:Value} {x1:Lch} (e0:Vb w A vx1 x1) {r:Bool} (hm:Bp x0 x1=some r) :
    Fn Tryz.prog 67 [vx0,vx1] w fun v w'=>Ext w w'∧Vb w' (upA A w w') v r:=by
 obtain ⟨O,hB,i0⟩:=enter hA
 replace b0:=b0.mono i0
 obtain ⟨A3,c4,rfl⟩:=b0.form
 replace e0:=e0.mono i0
 obtain ⟨p0,rfl,rfl,r6,r7⟩:=e0
 refine AH Tryz.func67 rfl Tryz.ntmps67 rfl ?_
 unfold Bp at hm
 refine Ab (Aa (Cd 2 O rfl rfl fun g8 w9 c0 d0 f0=>?_))
 replace f0:Lc 2 w9 c0 g8 52 [(.int .i64 x1.tm),(.int .i64 x1.job)]:=f0
 refine Al rfl rfl (o_z ?_)
 refine Ab ?_
 obtain ⟨k0,a0,hm⟩:=bs hm
 refine Az (fun l' w'=>∃ (l0:Unit) (O':Lab),subs l' [(4,(.bool k0))]∧Bs w A w' O') ?_ ?_
 ·
  refine Aa (Ak rfl rfl (Bv (hl:=rfl) (hc:=(f0.1).cellsAt) rfl rfl ?_))
  obtain ⟨m0,n0,a0⟩:=bs a0
  replace b0:=b0.st d0
  refine AI (O:=c0) (A:=All w9) (R:=fun w' F v=>Vb w' F v m0) (Gh (fun _ h=>h) (Vb.mono (F:=Fr 0 w9 c0) b0 Fr.lt) (Vb.mono (F:=Fr 0 w9 c0) (Vb.ofAgg (cs:=[(.int .i64 x1.tm),(.int .i64 x1.job)]) (x:=x1) rfl ⟨rfl,r6,r7⟩) Fr.lt) n0) rfl rfl fun q0 r0 s0 j0 o0=>?_
  obtain ⟨rfl,t0⟩:=o0.int
  refine Fl rfl rfl rfl (fun g0=>?_) fun g0=>?_
  ·
   replace a0:=ip a0 g0
   refine Al rfl rfl (o_z ?_)
   obtain rfl:=sm a0
   exact ⟨(),_,⟨rfl,trivial⟩,(hB.st d0).st j0⟩
  replace a0:=im a0 g0
  refine Al rfl rfl (o_z ?_)
  obtain rfl:=sm a0
  exact ⟨(),_,⟨rfl,trivial⟩,(hB.st d0).st j0⟩
 replace hB:=hB.st d0
 rintro u0 v0 ⟨l0,w0,h0,hB⟩
 refine AF _ h0 ?_
 refine AD ?_
 obtain rfl:=sm hm
 exact ret1v rfl (At rfl) ⟨hB.ext,vBool⟩
noncomputable def CN (x0:Wtr):Option Wtr :=
  bnd (chkI (2 * (x0.t.jobs.length:Int))) fun n40=>bnd (appI 8 x0.out ([n40]:List Int)) fun u49=>bnd (rng (ρ:=Wtr) (fun (k73:Nat) (a74:Job) (s71:Wtr)=>bnd (s71.first[k73]?) fun a122=>bnd (s71.left[k73]?) fun a132=>bnd (chkI (a122 + a132)) fun n142=>bnd (appI 8 s71.out ([n142]:List Int)) fun u151=>bnd (s71.left[k73]?) fun a164=>bnd (chkI (a164 - 1)) fun n174=>bnd (s71.left[k73]?) fun a177=>some (.next (⟨(⟨s71.t.vars,s71.t.init,s71.t.goal,s71.t.jobs⟩:Tpl),s71.first,s71.last,(s71.left.set k73 (max 0 n174)),u151⟩:Wtr))) x0.t.jobs 0 (⟨(⟨x0.t.vars,x0.t.init,x0.t.goal,x0.t.jobs⟩:Tpl),x0.first,x0.last,x0.left,u49⟩:Wtr)) fun res69=>fin res69 fun (s198:Wtr)=>bnd (appI 8 s198.out ([s198.last]:List Int)) fun u242=>some (⟨(⟨s198.t.vars,s198.t.init,s198.t.goal,s198.t.jobs⟩:Tpl),s198.first,s198.last,s198.left,u242⟩:Wtr)
theorem JB {w:World} {O:Lab} {p0 i0:Nat} {x0:Wtr} (m1:Ob i0 w O (.pointer (some ⟨p0,0,none⟩)) x0) {r:Wtr} (hm:CN x0=some r) :
    Fn Tryz.prog 68 [(.pointer (some ⟨p0,0,none⟩))] w fun v w'=>∃ O',St (eT i0) w O w' O'∧Ob i0 w' O' (.pointer (some ⟨p0,0,none⟩)) r:=by
 obtain ⟨O0,hE,n5,o5⟩:=ent1 (w:=w) (O:=O) m1.2
 have m1':=Ob.leave m1 n5 o5 (j:=2) (by decide)
 have hB:Bm w O0 w O0:=Bm.refl
 refine AH Tryz.func68 rfl Tryz.ntmps68 rfl ?_
 unfold CN at hm
 refine Ab ?_
 obtain ⟨O2,v6,r8,s8,t8,u8,v8,w8,S3,x8,h4,h7,m2,n2,g1,o2,p5,p2,q2⟩:=Wtr.opn m1' 2 3 4 5 (by decide)
 obtain ⟨A8,c9,rfl⟩:=h7.form
 obtain ⟨q5,r5,rfl⟩:=m2.form
 obtain ⟨s5,t5,rfl⟩:=n2.form
 obtain ⟨u5,v5,rfl⟩:=g1.form
 obtain ⟨w5,x5,rfl⟩:=o2.form
 obtain ⟨y5,z5,rfl⟩:=p2.form
 obtain ⟨y8,z8,rfl⟩:=q2.form
 refine BO [(13,[5])] O2 ?_
 refine AL (fuel:=6) [] [(1,true),(2,true),(3,true),(4,true),(5,true),(6,true),(7,true),(8,true),(9,true),(10,true),(11,true)] (by kernel_rfl) rfl ?_
 refine Bo rfl rfl rfl (GS rfl rfl rfl (Bn rfl rfl rfl (BJ (hc:=fun w' ⟨O',hq⟩=>Blk.cell (i:=7) ((h4.st hq (by decide)).1) rfl) rfl rfl rfl ?_)))
 refine Bo rfl rfl rfl (GS rfl rfl rfl (Bn rfl rfl rfl (Bn rfl rfl rfl (BJ (hc:=fun w' ⟨O',hq⟩=>Blk.cell (i:=3) ((h4.st hq (by decide)).1) rfl) rfl rfl rfl ?_))))
 refine Nf rfl rfl rfl ?_
 have a6:x0.t.jobs.length≤9223372036854775807:=Nat.le_trans g1.len.2.1 g1.len.2.2
 have a9:inI64 (x0.t.jobs.length:Int):=rngNat a6
 obtain ⟨b6,y4,hm⟩:=bs hm
 have c6:=(Bb y4)
 refine Tb (he:=y4) rfl rfl rfl rfl ?_
 refine Ax ?_
 refine AL (fuel:=5) [5] [(0,true)] (by kernel_rfl) rfl ?_
 refine Bo rfl rfl rfl (Ax ?_)
 refine Aw (i:=12) (by kernel_rfl) rfl ?_
 refine AN 6 (by decide) O2 (xs:=(([b6]:List Int):List Int)) rfl rfl rfl rfl ⟨(vInt c6),trivial⟩ (by decide) (by decide) rfl fun b9 d9 e9 q0 d6=>?_
 have hZ:=q0.lst [] (fun _ h=>h.elim)
 refine AE [(13,[5])] hZ (by kernel_rfl) ?_
 refine Aw (i:=13) (by kernel_rfl) rfl ?_
 obtain ⟨z4,w2,hm⟩:=bs hm
 obtain ⟨w2,e6,f6⟩:=AP w2
 replace q2:=q2.st q0
 refine BA rfl q2 (d6.rd) rfl rfl (by decide) e6 f6 rfl fun g6 h6 f9 i6 s0 r2=>?_
 rw [← w2] at r2 ⊢
 have hZ:=s0.lst [5] (fun _ h=>by cases h;decide)
 refine AE [] hZ (by kernel_rfl) ?_
 refine AL (fuel:=1) [] [(14,true),(15,true)] (by kernel_rfl) rfl ?_
 refine GS rfl rfl rfl (Bn rfl rfl rfl (Ax ?_))
 refine Aw (i:=16) (by kernel_rfl) rfl ?_
 replace h4:=(h4.st q0).st s0
 refine AB h4 rfl rfl rfl (AJ rfl) (allOne rfl) fun j6 t0 h4=>?_
 replace h4:Lc 2 j6 i6 p0 110 [(.slice A8 x0.t.vars.length c9),(.slice q5 x0.t.init.length r5),(.slice s5 x0.t.goal.length t5),(.slice u5 x0.t.jobs.length v5),(.slice w5 x0.first.length x5),(.int .i64 x0.last),(.slice y5 x0.left.length z5),(.slice g6 z4.length h6)]:=h4
 refine BL (by kernel_rfl) ?_
 refine BF (by kernel_rfl) ?_
 refine Ab (Ab (Aa (Ak rfl rfl (Na rfl rfl (AC rfl rfl (AC rfl rfl (AA (hc:=Blk.cell (i:=3) (h4.1) rfl) rfl rfl ?_)))))))
 refine AV rfl rfl ?_
 replace g1:=((g1.st q0).st s0).st t0
 have x2:x0.t.jobs.length≤9223372036854775807:=Nat.le_trans g1.len.2.1 g1.len.2.2
 have g9:inI64 (x0.t.jobs.length:Int):=rngNat x2
 refine Ak rfl rfl (o_z ?_)
 replace h7:=((h7.st q0).st s0).st t0
 replace m2:=((m2.st q0).st s0).st t0
 replace n2:=((n2.st q0).st s0).st t0
 replace o2:=((o2.st q0).st s0).st t0
 replace p2:=((p2.st q0).st s0).st t0
 replace r2:=r2.st t0
 obtain ⟨k6,a5,l6,m6,n6⟩:=Wtr.shut (x:=(⟨(⟨x0.t.vars,x0.t.init,x0.t.goal,x0.t.jobs⟩:Tpl),x0.first,x0.last,x0.left,z4⟩:Wtr)) (l0:=2) (l1:=3) (l2:=4) (l3:=5) (by decide) h4 h7 m2 n2 g1 o2 p5 p2 r2
 obtain ⟨n1,y2,hm⟩:=bs hm
 refine Az (aft n1 (fun (c0:Wtr) (s2:Unit)=>[(0,(.pointer (some ⟨p0,0,none⟩)))]) (fun c0 s2 w'=>∃ O':Lab,Bm w O0 w' O'∧Ob 2 w' O' (.pointer (some ⟨p0,0,none⟩)) c0)) ?_ ?_
 ·
  refine AK ?_
  replace hB:=((((hB.st S3).st q0).st s0).st t0).st a5
  refine Bq (σ:=Wtr) (X:=Unit) (x0.t.jobs.length) y2 rfl x2 (fun (c0:Wtr) (s2:Unit)=>[(0,(.pointer (some ⟨p0,0,none⟩)))]) _ (fun c0 s2 w'=>∃ O':Lab,Bm w O0 w' O'∧Ob 2 w' O' (.pointer (some ⟨p0,0,none⟩)) c0) _ () ⟨k6,hB,n6⟩ ⟨rfl,rfl,rfl,trivial⟩ (fun _ _=>⟨rfl,rfl⟩) (fun _ _=>⟨rfl,trivial⟩) (fun _ _ _ ⟨O',hB,o1⟩=>⟨O',hB,o1⟩) ⟨rfl,rfl,rfl⟩ ⟨rfl,rfl⟩ ?_
  rintro z2 h9 c0 s2 i9 o6 a3 ⟨j9,hB,o1⟩ a0 b3 c3
  have rk73:inI64 (z2:Int):=rngK a3 x2
  refine Ab (Aa (Ak rfl rfl (Al rfl rfl (o_z ?_))))
  refine Ab ?_
  obtain ⟨b5,k9,l9,m9,p6,q6,r6,s6,t6,u6,o0,t2,u2,v2,u0,r0,d3,f0,v0⟩:=Wtr.opn o1 2 3 4 5 (by decide)
  obtain ⟨w6,x6,rfl⟩:=t2.form
  obtain ⟨y6,z6,rfl⟩:=u2.form
  obtain ⟨e3,f3,rfl⟩:=v2.form
  obtain ⟨g3,h3,rfl⟩:=u0.form
  obtain ⟨i3,j3,rfl⟩:=r0.form
  obtain ⟨k3,m3,rfl⟩:=f0.form
  obtain ⟨a7,b7,rfl⟩:=v0.form
  refine BO [(21,[5])] b5 ?_
  refine AL (fuel:=6) [] [(1,true),(2,true),(3,true),(4,true),(5,true),(6,true),(7,true),(8,true),(9,true),(10,true),(11,true),(12,true),(13,true),(14,true),(15,true),(16,true),(17,true),(18,true),(19,true)] (by kernel_rfl) rfl ?_
  refine Bo rfl rfl rfl (GS rfl rfl rfl (Bn rfl rfl rfl (BJ (hc:=fun w' ⟨O',hq⟩=>Blk.cell (i:=7) ((o0.st hq (by decide)).1) rfl) rfl rfl rfl ?_)))
  refine Bo rfl rfl rfl (GS rfl rfl rfl (Bn rfl rfl rfl (BJ (hc:=fun w' ⟨O',hq⟩=>Blk.cell (i:=4) ((o0.st hq (by decide)).1) rfl) rfl rfl rfl ?_)))
  refine Bo rfl rfl rfl ?_
  obtain ⟨c7,n3,a0⟩:=bs a0
  obtain ⟨d7,e7,c5,p1,q1,r1,s1,rfl,f7⟩:=r0.elemF n3
  refine EZ (hA:=p1) (hj:=rfl) (hlt:=r1) rfl rfl rfl rfl ?_
  refine BJ (hc:=fun w' ⟨O',hq⟩=>cat0 (CL (hq.agree (i:=3) (by decide)) q1 s1)) rfl rfl rfl ?_
  refine Bo rfl rfl rfl (GS rfl rfl rfl (Bn rfl rfl rfl (BJ (hc:=fun w' ⟨O',hq⟩=>Blk.cell (i:=6) ((o0.st hq (by decide)).1) rfl) rfl rfl rfl ?_)))
  refine Bo rfl rfl rfl ?_
  obtain ⟨g7,o3,a0⟩:=bs a0
  obtain ⟨i7,j7,d5,t1,u1,v1,w1,rfl,k7⟩:=f0.elemF o3
  refine EZ (hA:=t1) (hj:=rfl) (hlt:=v1) rfl rfl rfl rfl ?_
  refine BJ (hc:=fun w' ⟨O',hq⟩=>cat0 (CL (hq.agree (i:=4) (by decide)) u1 w1)) rfl rfl rfl ?_
  obtain ⟨p3,x1,a0⟩:=bs a0
  have q3:=(Bb x1)
  refine Ln (he:=x1) rfl rfl rfl rfl ?_
  refine Ax ?_
  refine AL (fuel:=5) [5] [(0,true)] (by kernel_rfl) rfl ?_
  refine Bo rfl rfl rfl (Ax ?_)
  refine Aw (i:=20) (by kernel_rfl) rfl ?_
  refine AN 7 (by decide) b5 (xs:=(([p3]:List Int):List Int)) rfl rfl rfl rfl ⟨(vInt q3),trivial⟩ (by decide) (by decide) rfl fun l7 m7 n7 d0 r3=>?_
  have hZ:=d0.lst [] (fun _ h=>h.elim)
  refine AE [(21,[5])] hZ (by kernel_rfl) ?_
  refine Aw (i:=21) (by kernel_rfl) rfl ?_
  obtain ⟨y1,i1,a0⟩:=bs a0
  obtain ⟨i1,s3,t3⟩:=AP i1
  replace v0:=v0.st d0
  refine BA rfl v0 (r3.rd) rfl rfl (by decide) s3 t3 rfl fun u3 v3 o7 z1 g0 w0=>?_
  rw [← i1] at w0 ⊢
  have hZ:=g0.lst [5] (fun _ h=>by cases h;decide)
  refine AE [] hZ (by kernel_rfl) ?_
  refine AL (fuel:=1) [] [(22,true),(23,true)] (by kernel_rfl) rfl ?_
  refine GS rfl rfl rfl (Bn rfl rfl rfl (Ax ?_))
  refine Aw (i:=24) (by kernel_rfl) rfl ?_
  replace o0:=(o0.st d0).st g0
  refine AB o0 rfl rfl rfl (AJ rfl) (allOne rfl) fun w3 k0 o0=>?_
  replace o0:Lc 2 w3 z1 p0 110 [(.slice w6 c0.t.vars.length x6),(.slice y6 c0.t.init.length z6),(.slice e3 c0.t.goal.length f3),(.slice g3 c0.t.jobs.length h3),(.slice i3 c0.first.length j3),(.int .i64 c0.last),(.slice k3 c0.left.length m3),(.slice u3 y1.length v3)]:=o0
  refine BL (by kernel_rfl) ?_
  refine BF (by kernel_rfl) ?_
  refine BO [] z1 ?_
  refine AL (fuel:=1) [] [(0,true),(1,true),(2,true),(3,true),(4,true),(5,true),(6,true),(7,true),(8,true),(9,true),(10,true),(11,true),(12,true),(13,true),(14,true)] (by kernel_rfl) rfl ?_
  refine Bo rfl rfl rfl (GS rfl rfl rfl (Bn rfl rfl rfl (BJ (hc:=fun w' ⟨O',hq⟩=>Blk.cell (i:=6) ((o0.st hq (by decide)).1) rfl) rfl rfl rfl ?_)))
  refine Bo rfl rfl rfl (Bo rfl rfl rfl (GS rfl rfl rfl (Bn rfl rfl rfl (BJ (hc:=fun w' ⟨O',hq⟩=>Blk.cell (i:=6) ((o0.st hq (by decide)).1) rfl) rfl rfl rfl ?_))))
  refine Bo rfl rfl rfl ?_
  obtain ⟨p7,x3,a0⟩:=bs a0
  replace f0:=((f0.st d0).st g0).st k0
  obtain ⟨q7,r7,e5,a2,b2,c2,d2,rfl,s7⟩:=f0.elemF x3
  refine EZ (hA:=a2) (hj:=rfl) (hlt:=c2) rfl rfl rfl rfl ?_
  refine BJ (hc:=fun w' ⟨O',hq⟩=>cat0 (CL (hq.agree (i:=4) (by decide)) b2 d2)) rfl rfl rfl ?_
  obtain ⟨j1,e2,a0⟩:=bs a0
  have y3:=(Bb e2)
  refine MH (he:=e2) rfl rfl rfl rfl ?_
  refine UW rfl rfl rfl rfl ?_
  obtain ⟨t7,f2,a0⟩:=bs a0
  obtain ⟨u7,v7,f5,h1,g5,g2,h5,rfl,w7⟩:=f0.elemF f2
  refine EZ (hA:=h1) (hj:=rfl) (hlt:=g2) rfl rfl rfl rfl ?_
  refine Ax ?_
  refine Aw (i:=15) (by kernel_rfl) rfl ?_
  refine Ix rfl f0 (a:=(max 0 j1)) (vInt (rngMax (show inI64 (0) from by decide) y3)) h1 rfl rfl (Bj f2) fun x7 m0 f0=>?_
  refine BL (by kernel_rfl) ?_
  refine BF (by kernel_rfl) ?_
  replace o0:=o0.st m0
  replace t2:=(((t2.st d0).st g0).st k0).st m0
  replace u2:=(((u2.st d0).st g0).st k0).st m0
  replace v2:=(((v2.st d0).st g0).st k0).st m0
  replace u0:=(((u0.st d0).st g0).st k0).st m0
  replace r0:=(((r0.st d0).st g0).st k0).st m0
  replace w0:=(w0.st k0).st m0
  obtain ⟨y7,z3,i5,j5,a4⟩:=Wtr.shut (x:=(⟨(⟨c0.t.vars,c0.t.init,c0.t.goal,c0.t.jobs⟩:Tpl),c0.first,c0.last,(c0.left.set z2 (max 0 j1)),y1⟩:Wtr)) (l0:=2) (l1:=3) (l2:=4) (l3:=5) (by decide) (by have q:=o0;rw [← ((by simp:(c0.left.set z2 (max 0 j1)).length=c0.left.length).trans rfl)] at q;exact q) t2 u2 v2 u0 r0 d3 f0.relen w0
  obtain rfl:=sm a0
  exact show Exists _ from ⟨_,(),rfl,⟨rfl,rfl,rfl,trivial⟩,_,(((((hB.st t6).st d0).st g0).st k0).st m0).st z3,a4⟩
 replace hB:=((((hB.st S3).st q0).st s0).st t0).st a5
 rintro z7 a8 ⟨b0,b8,rfl,h2,c8,hB,o1⟩
 replace hm:=AW hm
 refine AF _ h2 ?_
 obtain ⟨i2,d8,e8,f8,g8,h8,i8,j8,b4,k5,h0,y0,z0,a1,b1,c1,j2,d1,e1⟩:=Wtr.opn o1 2 3 4 5 (by decide)
 obtain ⟨c4,d4,rfl⟩:=y0.form
 obtain ⟨e4,f4,rfl⟩:=z0.form
 obtain ⟨g4,i4,rfl⟩:=a1.form
 obtain ⟨j4,k4,rfl⟩:=b1.form
 obtain ⟨l4,m4,rfl⟩:=c1.form
 obtain ⟨n4,o4,rfl⟩:=d1.form
 obtain ⟨k8,l8,rfl⟩:=e1.form
 refine BO [(10,[5])] i2 ?_
 refine AL (fuel:=6) [] [(1,true),(2,true),(3,true),(4,true),(5,true),(6,true),(7,true),(8,true)] (by kernel_rfl) rfl ?_
 refine Bo rfl rfl rfl (GS rfl rfl rfl (Bn rfl rfl rfl (BJ (hc:=fun w' ⟨O',hq⟩=>Blk.cell (i:=7) ((h0.st hq (by decide)).1) rfl) rfl rfl rfl ?_)))
 refine Bo rfl rfl rfl (GS rfl rfl rfl (Bn rfl rfl rfl (BJ (hc:=fun w' ⟨O',hq⟩=>Blk.cell (i:=5) ((h0.st hq (by decide)).1) rfl) rfl rfl rfl ?_)))
 refine Ax ?_
 refine AL (fuel:=5) [5] [(0,true)] (by kernel_rfl) rfl ?_
 refine Bo rfl rfl rfl (Ax ?_)
 refine Aw (i:=9) (by kernel_rfl) rfl ?_
 refine AN 8 (by decide) i2 (xs:=(([b0.last]:List Int):List Int)) rfl rfl rfl rfl ⟨(vInt j2),trivial⟩ (by decide) (by decide) rfl fun m8 n8 o8 e0 p4=>?_
 have hZ:=e0.lst [] (fun _ h=>h.elim)
 refine AE [(10,[5])] hZ (by kernel_rfl) ?_
 refine Aw (i:=10) (by kernel_rfl) rfl ?_
 obtain ⟨k2,k1,hm⟩:=bs hm
 obtain ⟨k1,q4,r4⟩:=AP k1
 replace e1:=e1.st e0
 refine BA rfl e1 (p4.rd) rfl rfl (by decide) q4 r4 rfl fun s4 t4 p8 u4 j0 f1=>?_
 rw [← k1] at f1 ⊢
 have hZ:=j0.lst [5] (fun _ h=>by cases h;decide)
 refine AE [] hZ (by kernel_rfl) ?_
 refine AL (fuel:=1) [] [(11,true),(12,true)] (by kernel_rfl) rfl ?_
 refine GS rfl rfl rfl (Bn rfl rfl rfl (Ax ?_))
 refine Aw (i:=13) (by kernel_rfl) rfl ?_
 replace h0:=(h0.st e0).st j0
 refine AB h0 rfl rfl rfl (AJ rfl) (allOne rfl) fun v4 n0 h0=>?_
 replace h0:Lc 2 v4 u4 p0 110 [(.slice c4 b0.t.vars.length d4),(.slice e4 b0.t.init.length f4),(.slice g4 b0.t.goal.length i4),(.slice j4 b0.t.jobs.length k4),(.slice l4 b0.first.length m4),(.int .i64 b0.last),(.slice n4 b0.left.length o4),(.slice s4 k2.length t4)]:=h0
 refine BL (by kernel_rfl) ?_
 refine BF (by kernel_rfl) ?_
 replace y0:=((y0.st e0).st j0).st n0
 replace z0:=((z0.st e0).st j0).st n0
 replace a1:=((a1.st e0).st j0).st n0
 replace b1:=((b1.st e0).st j0).st n0
 replace c1:=((c1.st e0).st j0).st n0
 replace d1:=((d1.st e0).st j0).st n0
 replace f1:=f1.st n0
 obtain ⟨q8,w4,l5,m5,x4⟩:=Wtr.shut (x:=(⟨(⟨b0.t.vars,b0.t.init,b0.t.goal,b0.t.jobs⟩:Tpl),b0.first,b0.last,b0.left,k2⟩:Wtr)) (l0:=2) (l1:=3) (l2:=4) (l3:=5) (by decide) h0 y0 z0 a1 b1 c1 j2 d1 f1
 obtain rfl:=sm hm
 replace hB:=((((hB.st b4).st e0).st j0).st n0).st w4
 obtain ⟨O',hS',hz,hl⟩:=hE.leave (fun q=>if q=2 then i0 else 0) rfl hB
 exact ret0n rfl  ⟨O',hS',(Ob.leave x4 hz (hl 2 (by decide) (by decide)) m1.2)⟩
noncomputable def Ct (x0:Tpl) (x1:List Lch):Option ((List Int)×Err) :=
  bnd (Cu x0 x1) fun q27=>if q27.2.n≠0 then (some (([]:List Int),(⟨q27.2.n⟩:Err))) else (bnd (BK x0) fun q41=>if q41.2.n≠0 then (some (([]:List Int),(⟨q41.2.n⟩:Err))) else (bnd (chkI (2 * (x1.length:Int))) fun n80=>bnd (chkI ((x0.jobs.length:Int) + 2)) fun n85=>bnd (chkI (q27.1 * n85)) fun n88=>bnd (chkI (n80 + n88)) fun n91=>if 65536 < n91 then (some (([]:List Int),(⟨5⟩:Err))) else (bnd (chkI ((q41.1.ops.length:Int) - 1)) fun n97=>bnd (mkI 8 (0:Int) (x0.jobs.length:Int)) fun u102=>bnd (chkI (2 * (x0.jobs.length:Int))) fun n122=>bnd (chkI (n122 + 1)) fun n125=>bnd (rng (ρ:=(List Int)×Err) (fun (k143:Nat) (a144:Job) (s141:Int×Wtr)=>bnd (appI 8 s141.2.first [s141.1]) fun u230=>bnd (chkI (a144.dur + 1)) fun n244=>bnd (chkI (s141.1 + n244)) fun n247=>some (.next (n247,(⟨(⟨s141.2.t.vars,s141.2.t.init,s141.2.t.goal,s141.2.t.jobs⟩:Tpl),u230,s141.2.last,s141.2.left,s141.2.out⟩:Wtr)))) x0.jobs 0 (n125,(⟨(⟨x0.vars,x0.init,x0.goal,x0.jobs⟩:Tpl),([]:List Int),n97,u102,([]:List Int)⟩:Wtr))) fun res139=>fin res139 fun (s259:Int×Wtr)=>bnd (Dm x1) fun q261=>bnd (chkI (q27.1 + 1)) fun n270=>bnd (natI n270) fun N286=>bnd (rngN (ρ:=(List Int)×Err) (fun (k277:Nat) (s275:Wtr)=>bnd (rng (ρ:=Ctl Wtr ((List Int)×Err)) (fun (k296:Nat) (a297:Job) (s294:Wtr)=>bnd (chkI ((k277:Int) - a297.dur)) fun n345=>bnd (Bp x1 (⟨n345,(k296:Int)⟩:Lch)) fun q348=>if q348=true then bnd (chkI (2 * (k296:Int))) fun n391=>bnd (chkI (n391 + 1)) fun n394=>bnd (appI 8 s294.out [n394]) fun u397=>some (.next (⟨(⟨s294.t.vars,s294.t.init,s294.t.goal,s294.t.jobs⟩:Tpl),s294.first,s294.last,s294.left,u397⟩:Wtr)) else some (.next s294)) x0.jobs 0 s275) fun res292=>fin res292 fun (s420:Wtr)=>bnd (rng (ρ:=Ctl Wtr ((List Int)×Err)) (fun (k428:Nat) (a429:Lch) (s426:Wtr)=>if a429.tm=(k277:Int) then (bnd (chkI (2 * a429.job)) fun n494=>bnd (appI 8 s426.out ([n494]:List Int)) fun u503=>bnd (atI x0.jobs a429.job) fun a516=>bnd (atI s426.left a429.job) fun a549=>some (.next (⟨(⟨s426.t.vars,s426.t.init,s426.t.goal,s426.t.jobs⟩:Tpl),s426.first,s426.last,(s426.left.set (a429.job:Int).toNat a516.dur),u503⟩:Wtr))) else (some (.next s426))) q261 0 s420) fun res424=>fin res424 fun (s572:Wtr)=>if (k277:Int) < q27.1 then (bnd (CN s572) fun q575=>some (.next q575)) else (some (.next s572))) N286 s259.2) fun res273=>fin res273 fun (s587:Wtr)=>some (s587.out,(⟨0⟩:Err)))))
theorem JC {w:World} {A:Nat→Prop} (hA:∀ k,A k→k < w.heap.size) {vx0:Value} {x0:Tpl} (o7:Vb w A vx0 x0) {vx1:Value} {x1:List Lch} (g0:Vb w A vx1 x1) {r:(List Int)×Err} (hm:Ct x0 x1=some r) :
    Fn Tryz.prog 20 [vx0,vx1] w fun v w'=>Ext w w'∧T2 w' (upA A w w') v r:=by
 obtain ⟨O,hB,wD⟩:=enter hA
 replace o7:=o7.mono wD
 obtain ⟨eM,rfl,v4,v5,v6,v7,rfl,h8,j0,k0,a0⟩:=o7
 obtain ⟨A9,u1,rfl⟩:=h8.form
 obtain ⟨v1,w1,rfl⟩:=j0.form
 obtain ⟨y1,z1,rfl⟩:=k0.form
 obtain ⟨n1,o1,rfl⟩:=a0.form
 replace g0:=g0.mono wD
 obtain ⟨s2,t2,rfl⟩:=g0.form
 refine AH Tryz.func20 rfl Tryz.ntmps20 rfl ?_
 unfold Ct at hm
 refine Ab (Aa (Cd 2 O rfl rfl fun m2 e7 f7 b3 b0=>?_))
 replace b0:Lc 2 e7 f7 m2 26 [(.slice A9 x0.vars.length u1),(.slice v1 x0.init.length w1),(.slice y1 x0.goal.length z1),(.slice n1 x0.jobs.length o1)]:=b0
 refine Al rfl rfl (Al rfl rfl (o_z ?_))
 refine Ab (Aa (Bv (hl:=rfl) (hc:=(b0.1).cellsAt) rfl rfl ?_))
 refine Ak rfl rfl ?_
 obtain ⟨j4,bF,hm⟩:=bs hm
 replace g0:=g0.st b3
 replace h8:=h8.st b3
 replace j0:=j0.st b3
 replace k0:=k0.st b3
 replace a0:=a0.st b3
 refine AI (O:=f7) (A:=All e7) (R:=fun w' F v=>T2 w' F v j4) (Kx (fun _ h=>h) (Vb.mono (F:=Fr 0 e7 f7) (Vb.ofAgg (cs:=[(.slice A9 x0.vars.length u1),(.slice v1 x0.init.length w1),(.slice y1 x0.goal.length z1),(.slice n1 x0.jobs.length o1)]) (x:=x0) rfl ⟨_,_,_,_,rfl,h8,j0,k0,a0⟩) Fr.lt) (Vb.mono (F:=Fr 0 e7 f7) g0 Fr.lt) bF) rfl rfl fun fM cF xD v2 dF=>?_
 obtain ⟨gM,hM,rfl,eF,fF⟩:=dF
 obtain ⟨rfl,iM⟩:=eF.int
 obtain ⟨rfl,gF⟩:=fF.err
 refine Ak rfl rfl (Db rfl rfl rfl (Db rfl rfl rfl (Al rfl rfl (Al rfl rfl (o_z ?_)))))
 refine Ab (Ab (Aa (Ak rfl rfl (Gf rfl rfl (fun p7=>?_) fun p7=>?_))))
 ·
  replace hm:=ip hm p7
  refine o_z ?_
  refine Aj rfl (Ab (Aa (Ak rfl rfl (Al rfl rfl (Al rfl rfl (o_z ?_))))))
  refine AD ?_
  obtain rfl:=sm hm
  replace hB:=(hB.st b3).st v2
  exact ret2 rfl (At rfl) (At rfl) ⟨hB.ext,_,_,rfl,(Vb.mono (F:=Fr 0 cF xD) (Vb.nil _ _) hB.out),(vErr gF)⟩
 replace hm:=im hm p7
 refine o_z ?_
 refine Ah rfl (AM (Ab (Aa ?_)))
 replace b0:=b0.st v2
 refine Bv (hl:=rfl) (hc:=(b0.1).cellsAt) rfl rfl ?_
 obtain ⟨o4,hF,hm⟩:=bs hm
 replace h8:=h8.st v2
 replace j0:=j0.st v2
 replace k0:=k0.st v2
 replace a0:=a0.st v2
 refine Ce (O:=xD) (R:=fun w' F v=>T2 w' F v o4) (Fo Fr.lt (Vb.ofAgg (cs:=[(.slice A9 x0.vars.length u1),(.slice v1 x0.init.length w1),(.slice y1 x0.goal.length z1),(.slice n1 x0.jobs.length o1)]) (x:=x0) rfl ⟨_,_,_,_,rfl,h8,j0,k0,a0⟩) hF) rfl rfl fun jM kM jF c3 kF=>?_
 obtain ⟨lM,mM,rfl,lF,mF⟩:=kF
 obtain ⟨nF,rfl,nM,oM,pM,qM,rfl,oF,pF,qF,h5⟩:=lF
 obtain ⟨rF,sF,rfl⟩:=oF.form
 obtain ⟨tF,uF,rfl⟩:=pF.form
 obtain ⟨vF,wF,rfl⟩:=qF.form
 obtain ⟨xF,yF,rfl⟩:=h5.form
 obtain ⟨rfl,zF⟩:=mF.err
 refine Ak rfl rfl (Db rfl rfl rfl (Db rfl rfl rfl (AR 3 jF rfl fun aG rM i5 w2 j5=>?_)))
 refine AB j5 rfl rfl rfl (AJ rfl) (allOne rfl) fun q7 x2 j5=>?_
 replace j5:Lc 3 q7 i5 aG 31 [(.slice rF o4.1.vars.length sF),(.slice tF o4.1.init.length uF),(.slice vF o4.1.goal.length wF),(.slice xF o4.1.ops.length yF)]:=j5
 refine Al rfl rfl (o_z ?_)
 refine Ab (Ab (Aa (Ak rfl rfl (Gf rfl rfl (fun r7=>?_) fun r7=>?_))))
 ·
  replace hm:=ip hm r7
  refine o_z ?_
  refine Aj rfl (Ab (Aa (Ak rfl rfl (Al rfl rfl (Al rfl rfl (o_z ?_))))))
  refine AD ?_
  obtain rfl:=sm hm
  replace hB:=((((hB.st b3).st v2).st c3).st w2).st x2
  exact ret2 rfl (At rfl) (At rfl) ⟨hB.ext,_,_,rfl,(Vb.mono (F:=Fr 0 q7 i5) (Vb.nil _ _) hB.out),(vErr zF)⟩
 replace hm:=im hm r7
 refine o_z ?_
 refine Ah rfl (AM (Ab (Ab (Aa (Ak rfl rfl (AV rfl rfl ?_))))))
 replace g0:=(((g0.st v2).st c3).st w2).st x2
 have bG:x1.length≤9223372036854775807:=Nat.le_trans g0.len.2.1 g0.len.2.2
 have sM:inI64 (x1.length:Int):=rngNat bG
 obtain ⟨tM,yD,hm⟩:=bs hm
 have uM:=(Bb yD)
 refine Hl (he:=yD) rfl rfl rfl ?_
 refine Ak rfl rfl (AC rfl rfl ?_)
 replace b0:=((b0.st c3).st w2).st x2
 refine AA (hc:=Blk.cell (i:=3) (b0.1) rfl) rfl rfl ?_
 refine AV rfl rfl ?_
 replace a0:=((a0.st c3).st w2).st x2
 have cG:x0.jobs.length≤9223372036854775807:=Nat.le_trans a0.len.2.1 a0.len.2.2
 have vM:inI64 (x0.jobs.length:Int):=rngNat cG
 obtain ⟨wM,zD,hm⟩:=bs hm
 have xM:=(Bb zD)
 refine Dx (he:=zD) rfl rfl rfl ?_
 obtain ⟨yM,aE,hm⟩:=bs hm
 have zM:=(Bb aE)
 refine Hl (he:=aE) rfl rfl rfl ?_
 obtain ⟨aN,bE,hm⟩:=bs hm
 have bN:=(Bb bE)
 refine Dx (he:=bE) rfl rfl rfl ?_
 refine Dg rfl rfl rfl (fun s7=>?_) fun s7=>?_
 ·
  replace hm:=ip hm s7
  refine o_z ?_
  refine Aj rfl (Ab (Aa (EY rfl rfl ?_)))
  refine Al rfl rfl (Al rfl rfl (o_z ?_))
  refine AD ?_
  obtain rfl:=sm hm
  replace hB:=((((hB.st b3).st v2).st c3).st w2).st x2
  exact ret2 rfl (At rfl) (At rfl) ⟨hB.ext,_,_,rfl,(Vb.mono (F:=Fr 0 q7 i5) (Vb.nil _ _) hB.out),(vErr (by decide))⟩
 replace hm:=im hm s7
 refine o_z ?_
 refine Ah rfl (AM (Ab (BO [] i5 ?_)))
 refine AL (fuel:=4) [] [(0,true),(1,true),(2,true),(3,true),(4,true),(5,true),(6,true),(7,true)] (by kernel_rfl) rfl ?_
 refine CO (hl:=rfl) (hb:=fun w' ⟨O',hq⟩=>((b0.st hq (by decide)).1).cellsAt) rfl rfl rfl ?_
 refine Bn rfl rfl rfl (BJ (hc:=fun w' ⟨O',hq⟩=>Blk.cell (i:=3) ((j5.st hq (by decide)).1) rfl) rfl rfl rfl ?_)
 refine Nf rfl rfl rfl ?_
 replace h5:=(h5.st w2).st x2
 have dG:o4.1.ops.length≤9223372036854775807:=Nat.le_trans h5.len.2.1 h5.len.2.2
 have cN:inI64 (o4.1.ops.length:Int):=rngNat dG
 obtain ⟨cE,dE,hm⟩:=bs hm
 have eG:=(Bb dE)
 refine MH (he:=dE) rfl rfl rfl rfl ?_
 refine Bn rfl rfl rfl (BJ (hc:=fun w' ⟨O',hq⟩=>Blk.cell (i:=3) ((b0.st hq (by decide)).1) rfl) rfl rfl rfl ?_)
 refine Nf rfl rfl rfl ?_
 have t7:x0.jobs.length≤9223372036854775807:=Nat.le_trans a0.len.2.1 a0.len.2.2
 have fG:inI64 (x0.jobs.length:Int):=rngNat t7
 refine Ax ?_
 refine Aw (i:=8) (by kernel_rfl) rfl ?_
 obtain ⟨k5,u7,hm⟩:=bs hm
 obtain ⟨w7,x7,y7,z7,a8⟩:=Hz u7
 refine Jp 4 (by decide) i5 (z0:=(0:Int)) rfl rfl rfl rfl rfl x7 (vInt (show inI64 0 from by decide)) y7 z7 rfl fun b8 gG c8 m1 d3=>?_
 rw [← a8] at d3 ⊢
 have hZ:=m1.lst [] (fun _ h=>h.elim)
 refine AE [] hZ (by kernel_rfl) ?_
 refine AL (fuel:=2) [] [(9,true)] (by kernel_rfl) rfl ?_
 refine CE rfl rfl rfl rfl ?_
 refine Ax ?_
 refine Aw (i:=10) (by kernel_rfl) rfl ?_
 refine Cd 5 c8 rfl rfl fun m0 p4 q4 g1 r4=>?_
 replace r4:Lc 5 p4 q4 m0 110 [(.slice A9 x0.vars.length u1),(.slice v1 x0.init.length w1),(.slice y1 x0.goal.length z1),(.slice n1 x0.jobs.length o1),(.slice none 0 0),(.int .i64 cE),(.slice (some ⟨b8,0,none⟩) k5.length w7),(.slice none 0 0)]:=r4
 have hZ:=g1.lst [] (fun _ h=>h.elim)
 refine AE [] hZ (by kernel_rfl) ?_
 refine AL (fuel:=0) [] [(11,true)] (by kernel_rfl) rfl ?_
 refine KH rfl rfl rfl (Ax ?_)
 refine BF (by kernel_rfl) ?_
 refine Ab (Aa (AC rfl rfl ?_))
 replace b0:=(b0.st m1).st g1
 refine AA (hc:=Blk.cell (i:=3) (b0.1) rfl) rfl rfl ?_
 refine AV rfl rfl ?_
 replace a0:=(a0.st m1).st g1
 have d8:x0.jobs.length≤9223372036854775807:=Nat.le_trans a0.len.2.1 a0.len.2.2
 have hG:inI64 (x0.jobs.length:Int):=rngNat d8
 obtain ⟨iG,l5,hm⟩:=bs hm
 have jG:=(Bb l5)
 refine Hl (he:=l5) rfl rfl rfl ?_
 obtain ⟨kG,m5,hm⟩:=bs hm
 have e8:=(Bb m5)
 refine Dx (he:=m5) rfl rfl rfl ?_
 refine Al rfl rfl (o_z ?_)
 refine Ab (Ab (Aa (AC rfl rfl (AA (hc:=Blk.cell (i:=3) (b0.1) rfl) rfl rfl ?_))))
 refine AV rfl rfl ?_
 have s4:x0.jobs.length≤9223372036854775807:=Nat.le_trans a0.len.2.1 a0.len.2.2
 have lG:inI64 (x0.jobs.length:Int):=rngNat s4
 refine Ak rfl rfl (o_z ?_)
 have f8:Rw 6 p4 q4 3 (.slice none 0 0) ([]:List Int):=Rw.nil 6 (by decide)
 have g8:Rw 7 p4 q4 3 (.slice none 0 0) ([]:List Int):=Rw.nil 7 (by decide)
 replace h8:=((((h8.st c3).st w2).st x2).st m1).st g1
 replace j0:=((((j0.st c3).st w2).st x2).st m1).st g1
 replace k0:=((((k0.st c3).st w2).st x2).st m1).st g1
 replace d3:=d3.st g1
 obtain ⟨i8,e1,eE,fE,j8⟩:=Wtr.shut (x:=(⟨(⟨x0.vars,x0.init,x0.goal,x0.jobs⟩:Tpl),([]:List Int),cE,k5,([]:List Int)⟩:Wtr)) (l0:=5) (l1:=6) (l2:=4) (l3:=7) (by decide) r4 h8 j0 k0 a0 f8 eG d3 g8
 obtain ⟨t4,n5,hm⟩:=bs hm
 refine Az (aft t4 (fun (e0:Int×Wtr) (e3:Unit)=>[(1,(.slice s2 x1.length t2)),(2,(.pointer (some ⟨m2,0,none⟩))),(6,(.int .i64 j4.1)),(9,(.pointer (some ⟨m0,0,none⟩)))]) (fun e0 e3 w'=>∃ O':Lab,Bs w A w' O'∧Vb w' (Fr 0 w' O') (.slice s2 x1.length t2) x1∧Lc 2 w' O' m2 26 [(.slice A9 x0.vars.length u1),(.slice v1 x0.init.length w1),(.slice y1 x0.goal.length z1),(.slice n1 x0.jobs.length o1)]∧Vb w' (Fr 0 w' O') (.slice A9 x0.vars.length u1) x0.vars∧Vb w' (Fr 0 w' O') (.slice v1 x0.init.length w1) x0.init∧Vb w' (Fr 0 w' O') (.slice y1 x0.goal.length z1) x0.goal∧Vb w' (Fr 0 w' O') (.slice n1 x0.jobs.length o1) x0.jobs∧Ob 5 w' O' (.pointer (some ⟨m0,0,none⟩)) e0.2∧inI64 e0.1)) ?_ ?_
 ·
  refine AK ?_
  replace hB:=(((((((hB.st b3).st v2).st c3).st w2).st x2).st m1).st g1).st e1
  replace g0:=((g0.st m1).st g1).st e1
  replace h8:=h8.st e1
  replace j0:=j0.st e1
  replace k0:=k0.st e1
  replace a0:=a0.st e1
  replace b0:=b0.st e1
  refine Bq (σ:=Int×Wtr) (X:=Unit) (x0.jobs.length) n5 rfl s4 (fun (e0:Int×Wtr) (e3:Unit)=>[(1,(.slice s2 x1.length t2)),(2,(.pointer (some ⟨m2,0,none⟩))),(6,(.int .i64 j4.1)),(9,(.pointer (some ⟨m0,0,none⟩))),(10,(.int .i64 e0.1)),(65,(.slice n1 x0.jobs.length o1))]) _ (fun e0 e3 w'=>∃ O':Lab,Bs w A w' O'∧Vb w' (Fr 0 w' O') (.slice s2 x1.length t2) x1∧Lc 2 w' O' m2 26 [(.slice A9 x0.vars.length u1),(.slice v1 x0.init.length w1),(.slice y1 x0.goal.length z1),(.slice n1 x0.jobs.length o1)]∧Vb w' (Fr 0 w' O') (.slice A9 x0.vars.length u1) x0.vars∧Vb w' (Fr 0 w' O') (.slice v1 x0.init.length w1) x0.init∧Vb w' (Fr 0 w' O') (.slice y1 x0.goal.length z1) x0.goal∧Vb w' (Fr 0 w' O') (.slice n1 x0.jobs.length o1) x0.jobs∧Ob 5 w' O' (.pointer (some ⟨m0,0,none⟩)) e0.2∧inI64 e0.1) _ () ⟨i8,hB,g0,b0,h8,j0,k0,a0,j8,e8⟩ ⟨rfl,rfl,rfl,rfl,rfl,rfl,rfl,rfl,trivial⟩ (fun _ _=>⟨rfl,rfl⟩) (fun _ _=>⟨rfl,rfl,rfl,rfl,trivial⟩) (fun _ _ _ ⟨O',hB,g0,b0,h8,j0,k0,a0,p1,f3⟩=>⟨O',hB,g0,b0,h8,j0,k0,a0,p1,f3⟩) ⟨rfl,rfl,rfl⟩ ⟨rfl,rfl⟩ ?_
  rintro k8 n2 e0 e3 mG gE k4 ⟨l8,hB,g0,b0,h8,j0,k0,a0,p1,f3⟩ h1 g7 h7
  have rk143:inI64 (k8:Int):=rngK k4 s4
  refine Ab (Aa ?_)
  obtain ⟨nG,oG,hE,o5,p5,q5,pG,qG,rG,sG,tG,rfl,m8,n8,o8,p8,q8,uG,vG⟩:=a0.elem' k4
  obtain ⟨r8,s8,rfl⟩:=m8.form
  obtain ⟨t8,u8,rfl⟩:=n8.form
  obtain ⟨v8,w8,rfl⟩:=o8.form
  obtain ⟨x8,y8,rfl⟩:=p8.form
  obtain ⟨z8,a9,rfl⟩:=q8.form
  refine BB (hA:=o5) (hj:=rfl) (hlt:=p5) rfl rfl rfl ?_
  refine Bv (hl:=rfl) (hc:=q5) rfl rfl ?_
  refine AR 8 l8 rfl fun b9 wG c9 a2 o2=>?_
  refine AB o2 rfl rfl rfl (AJ rfl) (allOne rfl) fun d9 b2 o2=>?_
  replace o2:Lc 8 d9 c9 b9 66 [(.string n2.name),(.int .i64 n2.dur),(.slice r8 n2.start.length s8),(.slice t8 n2.over.length u8),(.slice v8 n2.fin.length w8),(.slice x8 n2.atStart.length y8),(.slice z8 n2.atEnd.length a9)]:=o2
  refine o_z ?_
  refine Ab (Aa (Ak rfl rfl (Ak rfl rfl (Na rfl rfl ?_))))
  replace p1:=(p1.st a2).st b2
  obtain ⟨xG,yG,zG,aH,bH,cH,dH,eH,c2,iE,d2,g3,h3,i3,j3,r5,e9,k3,m3⟩:=Wtr.opn p1 5 9 10 11 (by decide)
  obtain ⟨f9,g9,rfl⟩:=g3.form
  obtain ⟨h9,i9,rfl⟩:=h3.form
  obtain ⟨j9,k9,rfl⟩:=i3.form
  obtain ⟨l9,m9,rfl⟩:=j3.form
  obtain ⟨fH,gH,rfl⟩:=r5.form
  obtain ⟨n9,o9,rfl⟩:=k3.form
  obtain ⟨p9,q9,rfl⟩:=m3.form
  refine AC rfl rfl (AA (hc:=Blk.cell (i:=4) (d2.1) rfl) rfl rfl ?_)
  refine Ak rfl rfl ?_
  obtain ⟨s5,u4,h1⟩:=bs h1
  obtain ⟨u4,r9,s9⟩:=AP u4
  refine CB rfl (a:=e0.1) r5 (vInt f3) (fun _=>rfl) rfl (by decide) (by decide) r9 s9 ⟨rfl,rfl⟩ fun hH t9 u9 iH v9 y0 n3=>?_
  rw [← u4] at n3 ⊢
  refine Na rfl rfl (AC rfl rfl ?_)
  replace d2:=d2.st y0
  refine AB d2 rfl rfl rfl (AJ rfl) (allOne rfl) fun w9 a1 d2=>?_
  replace d2:Lc 5 w9 v9 m0 110 [(.slice f9 e0.2.t.vars.length g9),(.slice h9 e0.2.t.init.length i9),(.slice j9 e0.2.t.goal.length k9),(.slice l9 e0.2.t.jobs.length m9),(.slice t9 s5.length u9),(.int .i64 e0.2.last),(.slice n9 e0.2.left.length o9),(.slice p9 e0.2.out.length q9)]:=d2
  refine o_z ?_
  refine Aa (Ak rfl rfl (AC rfl rfl ?_))
  replace o2:=((o2.st c2).st y0).st a1
  refine AA (hc:=Blk.cell (i:=1) (o2.1) rfl) rfl rfl ?_
  obtain ⟨jH,t5,h1⟩:=bs h1
  have kH:=(Bb t5)
  refine Dx (he:=t5) rfl rfl rfl ?_
  obtain ⟨lH,u5,h1⟩:=bs h1
  have x9:=(Bb u5)
  refine Dx (he:=u5) rfl rfl rfl ?_
  refine Al rfl rfl (o_z ?_)
  replace g3:=(g3.st y0).st a1
  replace h3:=(h3.st y0).st a1
  replace i3:=(i3.st y0).st a1
  replace j3:=(j3.st y0).st a1
  replace k3:=(k3.st y0).st a1
  replace m3:=(m3.st y0).st a1
  replace n3:=n3.st a1
  obtain ⟨mH,p2,jE,kE,y9⟩:=Wtr.shut (x:=(⟨(⟨e0.2.t.vars,e0.2.t.init,e0.2.t.goal,e0.2.t.jobs⟩:Tpl),s5,e0.2.last,e0.2.left,e0.2.out⟩:Wtr)) (l0:=5) (l1:=9) (l2:=10) (l3:=11) (by decide) d2 g3 h3 i3 j3 n3 e9 k3 m3
  obtain rfl:=sm h1
  exact show Exists _ from ⟨_,(),rfl,⟨rfl,rfl,rfl,rfl,rfl,rfl,rfl,rfl,trivial⟩,_,(((((hB.st a2).st b2).st c2).st y0).st a1).st p2,(((((g0.st a2).st b2).st c2).st y0).st a1).st p2,(((((b0.st a2).st b2).st c2).st y0).st a1).st p2,(((((h8.st a2).st b2).st c2).st y0).st a1).st p2,(((((j0.st a2).st b2).st c2).st y0).st a1).st p2,(((((k0.st a2).st b2).st c2).st y0).st a1).st p2,(((((a0.st a2).st b2).st c2).st y0).st a1).st p2,y9,x9⟩
 replace hB:=(((((((hB.st b3).st v2).st c3).st w2).st x2).st m1).st g1).st e1
 replace g0:=((g0.st m1).st g1).st e1
 replace h8:=h8.st e1
 replace j0:=j0.st e1
 replace k0:=k0.st e1
 replace a0:=a0.st e1
 replace b0:=b0.st e1
 rintro nH oH ⟨pH,qH,rfl,w5,z9,hB,g0,b0,h8,j0,k0,a0,p1,f3⟩
 replace hm:=AW hm
 refine AF _ w5 ?_
 refine Ab (Aa (Ak rfl rfl ?_))
 obtain ⟨n0,aA,hm⟩:=bs hm
 refine Ce (O:=z9) (R:=fun w' F v=>Vb w' F v n0) (IF Fr.lt g0 aA) rfl rfl fun rH sH bA q1 f0=>?_
 obtain ⟨i1,j1,rfl⟩:=f0.form
 refine Al rfl rfl (o_z ?_)
 refine Ab (Ab (Aa (Ak rfl rfl ?_)))
 obtain ⟨tH,x5,hm⟩:=bs hm
 have y5:=(Bb x5)
 refine Dx (he:=x5) rfl rfl rfl ?_
 refine Ak rfl rfl (o_z ?_)
 obtain ⟨y2,e2,hm⟩:=bs hm
 replace e2:=KJ e2
 obtain ⟨w4,z5,hm⟩:=bs hm
 refine Az (aft w4 (fun (u2:Wtr) (o3:Unit)=>[(9,(.pointer (some ⟨m0,0,none⟩)))]) (fun u2 o3 w'=>∃ O':Lab,Bs w A w' O'∧Ob 5 w' O' (.pointer (some ⟨m0,0,none⟩)) u2)) ?_ ?_
 ·
  refine AK ?_
  replace hB:=hB.st q1
  replace g0:=g0.st q1
  replace h8:=h8.st q1
  replace j0:=j0.st q1
  replace k0:=k0.st q1
  replace a0:=a0.st q1
  replace b0:=b0.st q1
  replace p1:=p1.st q1
  refine HA (σ:=Wtr) (X:=Unit) y2 z5 (Iq e2 y5) (fun (u2:Wtr) (o3:Unit)=>[(1,(.slice s2 x1.length t2)),(2,(.pointer (some ⟨m2,0,none⟩))),(6,(.int .i64 j4.1)),(9,(.pointer (some ⟨m0,0,none⟩))),(13,(.slice i1 n0.length j1))]) _ (fun u2 o3 w'=>∃ O':Lab,Bs w A w' O'∧Vb w' (Fr 0 w' O') (.slice s2 x1.length t2) x1∧Lc 2 w' O' m2 26 [(.slice A9 x0.vars.length u1),(.slice v1 x0.init.length w1),(.slice y1 x0.goal.length z1),(.slice n1 x0.jobs.length o1)]∧Vb w' (Fr 0 w' O') (.slice A9 x0.vars.length u1) x0.vars∧Vb w' (Fr 0 w' O') (.slice v1 x0.init.length w1) x0.init∧Vb w' (Fr 0 w' O') (.slice y1 x0.goal.length z1) x0.goal∧Vb w' (Fr 0 w' O') (.slice n1 x0.jobs.length o1) x0.jobs∧Ob 5 w' O' (.pointer (some ⟨m0,0,none⟩)) u2∧Vb w' (Fr 0 w' O') (.slice i1 n0.length j1) n0) _ () ⟨bA,hB,g0,b0,h8,j0,k0,a0,p1,f0⟩ ⟨rfl,(congrArg (fun z=>some (Value.int .i64 z)) e2),rfl,rfl,rfl,rfl,rfl,trivial⟩ (fun _ _=>⟨rfl,rfl⟩) (fun _ _=>⟨rfl,trivial⟩) (fun _ _ _ ⟨O',hB,g0,b0,h8,j0,k0,a0,z2,f0⟩=>⟨O',hB,z2⟩) ⟨rfl,rfl,rfl⟩ ⟨rfl,rfl⟩ ?_
  rintro r1 u2 o3 uH lE a6 ⟨cA,hB,g0,b0,h8,j0,k0,a0,z2,f0⟩ c0 i7 j7
  have rk277:inI64 (r1:Int):=rngKN a6 (Iq e2 y5)
  refine Ab (Aa (Ak rfl rfl (Al rfl rfl (o_z ?_))))
  refine Ab (Ab (Aa (AC rfl rfl (AA (hc:=Blk.cell (i:=3) (b0.1) rfl) rfl rfl ?_))))
  refine AV rfl rfl ?_
  have x4:x0.jobs.length≤9223372036854775807:=Nat.le_trans a0.len.2.1 a0.len.2.2
  have vH:inI64 (x0.jobs.length:Int):=rngNat x4
  refine Ak rfl rfl (o_z ?_)
  obtain ⟨y4,b6,c0⟩:=bs c0
  refine Az (aft y4 (fun (o0:Wtr) (p3:Unit)=>[(1,(.slice s2 x1.length t2)),(2,(.pointer (some ⟨m2,0,none⟩))),(6,(.int .i64 j4.1)),(9,(.pointer (some ⟨m0,0,none⟩))),(13,(.slice i1 n0.length j1)),(14,(.int .i64 (r1:Int))),(90,(.int .i64 (y2:Int))),(91,(.int .i64 (r1:Int)))]) (fun o0 p3 w'=>∃ O':Lab,Bs w A w' O'∧Vb w' (Fr 0 w' O') (.slice s2 x1.length t2) x1∧Lc 2 w' O' m2 26 [(.slice A9 x0.vars.length u1),(.slice v1 x0.init.length w1),(.slice y1 x0.goal.length z1),(.slice n1 x0.jobs.length o1)]∧Vb w' (Fr 0 w' O') (.slice A9 x0.vars.length u1) x0.vars∧Vb w' (Fr 0 w' O') (.slice v1 x0.init.length w1) x0.init∧Vb w' (Fr 0 w' O') (.slice y1 x0.goal.length z1) x0.goal∧Vb w' (Fr 0 w' O') (.slice n1 x0.jobs.length o1) x0.jobs∧Ob 5 w' O' (.pointer (some ⟨m0,0,none⟩)) o0∧Vb w' (Fr 0 w' O') (.slice i1 n0.length j1) n0)) ?_ ?_
  ·
   refine AK (Bq (σ:=Wtr) (X:=Unit) (x0.jobs.length) b6 rfl x4 (fun (o0:Wtr) (p3:Unit)=>[(1,(.slice s2 x1.length t2)),(2,(.pointer (some ⟨m2,0,none⟩))),(6,(.int .i64 j4.1)),(9,(.pointer (some ⟨m0,0,none⟩))),(13,(.slice i1 n0.length j1)),(14,(.int .i64 (r1:Int))),(90,(.int .i64 (y2:Int))),(91,(.int .i64 (r1:Int))),(95,(.slice n1 x0.jobs.length o1))]) _ (fun o0 p3 w'=>∃ O':Lab,Bs w A w' O'∧Vb w' (Fr 0 w' O') (.slice s2 x1.length t2) x1∧Lc 2 w' O' m2 26 [(.slice A9 x0.vars.length u1),(.slice v1 x0.init.length w1),(.slice y1 x0.goal.length z1),(.slice n1 x0.jobs.length o1)]∧Vb w' (Fr 0 w' O') (.slice A9 x0.vars.length u1) x0.vars∧Vb w' (Fr 0 w' O') (.slice v1 x0.init.length w1) x0.init∧Vb w' (Fr 0 w' O') (.slice y1 x0.goal.length z1) x0.goal∧Vb w' (Fr 0 w' O') (.slice n1 x0.jobs.length o1) x0.jobs∧Ob 5 w' O' (.pointer (some ⟨m0,0,none⟩)) o0∧Vb w' (Fr 0 w' O') (.slice i1 n0.length j1) n0) _ () ⟨cA,hB,g0,b0,h8,j0,k0,a0,z2,f0⟩ ⟨rfl,rfl,rfl,rfl,rfl,rfl,rfl,rfl,rfl,rfl,rfl,trivial⟩ (fun _ _=>⟨rfl,rfl⟩) (fun _ _=>⟨rfl,rfl,rfl,rfl,rfl,rfl,rfl,rfl,trivial⟩) (fun _ _ _ ⟨O',hB,g0,b0,h8,j0,k0,a0,f2,f0⟩=>⟨O',hB,g0,b0,h8,j0,k0,a0,f2,f0⟩) ⟨rfl,rfl,rfl⟩ ⟨rfl,rfl⟩ ?_)
   rintro z4 q2 o0 p3 wH mE l4 ⟨dA,hB,g0,b0,h8,j0,k0,a0,f2,f0⟩ d0 k7 l7
   have rk296:inI64 (z4:Int):=rngK l4 x4
   refine Ab (Aa (Ak rfl rfl ?_))
   obtain ⟨xH,yH,nE,c6,d6,e6,zH,aI,bI,cI,dI,rfl,eA,fA,gA,iA,jA,eI,fI⟩:=a0.elem' l4
   obtain ⟨kA,lA,rfl⟩:=eA.form
   obtain ⟨mA,nA,rfl⟩:=fA.form
   obtain ⟨oA,pA,rfl⟩:=gA.form
   obtain ⟨qA,rA,rfl⟩:=iA.form
   obtain ⟨sA,tA,rfl⟩:=jA.form
   refine BB (hA:=c6) (hj:=rfl) (hlt:=d6) rfl rfl rfl ?_
   refine Bv (hl:=rfl) (hc:=e6) rfl rfl ?_
   refine AR 12 dA rfl fun uA gI q3 t0 a3=>?_
   refine Al rfl rfl (AB a3 rfl rfl rfl (AJ rfl) (allOne rfl) fun r3 u0 a3=>?_)
   replace a3:Lc 12 r3 q3 uA 66 [(.string q2.name),(.int .i64 q2.dur),(.slice kA q2.start.length lA),(.slice mA q2.over.length nA),(.slice oA q2.fin.length pA),(.slice qA q2.atStart.length rA),(.slice sA q2.atEnd.length tA)]:=a3
   refine o_z ?_
   refine Ab (Aa (Ak rfl rfl (Ak rfl rfl (AC rfl rfl (AA (hc:=Blk.cell (i:=1) (a3.1) rfl) rfl rfl ?_)))))
   obtain ⟨f6,g6,d0⟩:=bs d0
   have vA:=(Bb g6)
   refine JP (he:=g6) rfl rfl rfl ?_
   refine Ak rfl rfl (Ez rfl rfl rfl ?_)
   obtain ⟨h6,wA,d0⟩:=bs d0
   replace g0:=(g0.st t0).st u0
   refine AI (O:=q3) (A:=All r3) (R:=fun w' F v=>Vb w' F v h6) (FQ (fun _ h=>h) (Vb.mono (F:=Fr 0 r3 q3) g0 Fr.lt) (Vb.mono (F:=Fr 0 r3 q3) (Vb.ofAgg (cs:=[(.int .i64 f6),(.int .i64 (z4:Int))]) (x:=(⟨f6,(z4:Int)⟩:Lch)) rfl ⟨rfl,vA,rk296⟩) Fr.lt) wA) rfl rfl fun hI iI jI p0 xA=>?_
   obtain rfl:=xA.bool
   cases h6
   case false =>
    replace d0:=iF d0
    refine o_z ?_
    refine Ah rfl (AM ?_)
    obtain rfl:=sm d0
    exact show Exists _ from ⟨_,(),rfl,⟨rfl,rfl,rfl,rfl,rfl,rfl,rfl,rfl,rfl,rfl,rfl,trivial⟩,_,((hB.st t0).st u0).st p0,g0.st p0,((b0.st t0).st u0).st p0,((h8.st t0).st u0).st p0,((j0.st t0).st u0).st p0,((k0.st t0).st u0).st p0,((a0.st t0).st u0).st p0,((f2.st t0).st u0).st p0,((f0.st t0).st u0).st p0⟩
   replace d0:=iT d0
   refine o_z ?_
   refine Aj rfl (Aa (Ak rfl rfl (Ak rfl rfl (Na rfl rfl ?_))))
   replace f2:=((f2.st t0).st u0).st p0
   obtain ⟨kI,lI,mI,nI,oI,pI,qI,rI,g2,oE,h2,s3,t3,u3,v3,w3,yA,x3,i6⟩:=Wtr.opn f2 5 9 10 11 (by decide)
   obtain ⟨zA,aB,rfl⟩:=s3.form
   obtain ⟨bB,cB,rfl⟩:=t3.form
   obtain ⟨dB,eB,rfl⟩:=u3.form
   obtain ⟨fB,gB,rfl⟩:=v3.form
   obtain ⟨iB,jB,rfl⟩:=w3.form
   obtain ⟨kB,lB,rfl⟩:=x3.form
   obtain ⟨sI,tI,rfl⟩:=i6.form
   refine AC rfl rfl (AA (hc:=Blk.cell (i:=7) (h2.1) rfl) rfl rfl ?_)
   refine Ak rfl rfl ?_
   obtain ⟨uI,j6,d0⟩:=bs d0
   have vI:=(Bb j6)
   refine Hl (he:=j6) rfl rfl rfl ?_
   obtain ⟨mB,k6,d0⟩:=bs d0
   have nB:=(Bb k6)
   refine Dx (he:=k6) rfl rfl rfl ?_
   obtain ⟨l6,a5,d0⟩:=bs d0
   obtain ⟨a5,oB,pB⟩:=AP a5
   refine CB rfl (a:=mB) i6 (vInt nB) (fun _=>rfl) rfl (by decide) (by decide) oB pB ⟨rfl,rfl⟩ fun wI qB rB xI sB b1 y3=>?_
   rw [← a5] at y3 ⊢
   refine Na rfl rfl (AC rfl rfl ?_)
   replace h2:=h2.st b1
   refine AB h2 rfl rfl rfl (AJ rfl) (allOne rfl) fun tB c1 h2=>?_
   replace h2:Lc 5 tB sB m0 110 [(.slice zA o0.t.vars.length aB),(.slice bB o0.t.init.length cB),(.slice dB o0.t.goal.length eB),(.slice fB o0.t.jobs.length gB),(.slice iB o0.first.length jB),(.int .i64 o0.last),(.slice kB o0.left.length lB),(.slice qB l6.length rB)]:=h2
   refine o_z ?_
   replace s3:=(s3.st b1).st c1
   replace t3:=(t3.st b1).st c1
   replace u3:=(u3.st b1).st c1
   replace v3:=(v3.st b1).st c1
   replace w3:=(w3.st b1).st c1
   replace x3:=(x3.st b1).st c1
   replace y3:=y3.st c1
   obtain ⟨yI,i2,pE,qE,uB⟩:=Wtr.shut (x:=(⟨(⟨o0.t.vars,o0.t.init,o0.t.goal,o0.t.jobs⟩:Tpl),o0.first,o0.last,o0.left,l6⟩:Wtr)) (l0:=5) (l1:=9) (l2:=10) (l3:=11) (by decide) h2 s3 t3 u3 v3 w3 yA x3 y3
   obtain rfl:=sm d0
   exact show Exists _ from ⟨_,(),rfl,⟨rfl,rfl,rfl,rfl,rfl,rfl,rfl,rfl,rfl,rfl,rfl,trivial⟩,_,((((((hB.st t0).st u0).st p0).st g2).st b1).st c1).st i2,((((g0.st p0).st g2).st b1).st c1).st i2,((((((b0.st t0).st u0).st p0).st g2).st b1).st c1).st i2,((((((h8.st t0).st u0).st p0).st g2).st b1).st c1).st i2,((((((j0.st t0).st u0).st p0).st g2).st b1).st c1).st i2,((((((k0.st t0).st u0).st p0).st g2).st b1).st c1).st i2,((((((a0.st t0).st u0).st p0).st g2).st b1).st c1).st i2,uB,((((((f0.st t0).st u0).st p0).st g2).st b1).st c1).st i2⟩
  rintro zI aJ ⟨bJ,cJ,rfl,m6,vB,hB,g0,b0,h8,j0,k0,a0,f2,f0⟩
  replace c0:=AW c0
  refine AF _ m6 ?_
  refine Ab (Ab (Aa (Ak rfl rfl (AV rfl rfl ?_))))
  have b5:n0.length≤9223372036854775807:=Nat.le_trans f0.len.2.1 f0.len.2.2
  have dJ:inI64 (n0.length:Int):=rngNat b5
  refine Ak rfl rfl (o_z ?_)
  obtain ⟨c5,n6,c0⟩:=bs c0
  refine Az (aft c5 (fun (h0:Wtr) (z3:Unit)=>[(1,(.slice s2 x1.length t2)),(2,(.pointer (some ⟨m2,0,none⟩))),(6,(.int .i64 j4.1)),(9,(.pointer (some ⟨m0,0,none⟩))),(13,(.slice i1 n0.length j1)),(14,(.int .i64 (r1:Int))),(90,(.int .i64 (y2:Int))),(91,(.int .i64 (r1:Int)))]) (fun h0 z3 w'=>∃ O':Lab,Bs w A w' O'∧Vb w' (Fr 0 w' O') (.slice s2 x1.length t2) x1∧Lc 2 w' O' m2 26 [(.slice A9 x0.vars.length u1),(.slice v1 x0.init.length w1),(.slice y1 x0.goal.length z1),(.slice n1 x0.jobs.length o1)]∧Vb w' (Fr 0 w' O') (.slice A9 x0.vars.length u1) x0.vars∧Vb w' (Fr 0 w' O') (.slice v1 x0.init.length w1) x0.init∧Vb w' (Fr 0 w' O') (.slice y1 x0.goal.length z1) x0.goal∧Vb w' (Fr 0 w' O') (.slice n1 x0.jobs.length o1) x0.jobs∧Ob 5 w' O' (.pointer (some ⟨m0,0,none⟩)) h0∧Vb w' (Fr 0 w' O') (.slice i1 n0.length j1) n0)) ?_ ?_
  ·
   refine AK (Bq (σ:=Wtr) (X:=Unit) (n0.length) n6 rfl b5 (fun (h0:Wtr) (z3:Unit)=>[(1,(.slice s2 x1.length t2)),(2,(.pointer (some ⟨m2,0,none⟩))),(6,(.int .i64 j4.1)),(9,(.pointer (some ⟨m0,0,none⟩))),(13,(.slice i1 n0.length j1)),(14,(.int .i64 (r1:Int))),(90,(.int .i64 (y2:Int))),(91,(.int .i64 (r1:Int))),(123,(.slice i1 n0.length j1))]) _ (fun h0 z3 w'=>∃ O':Lab,Bs w A w' O'∧Vb w' (Fr 0 w' O') (.slice s2 x1.length t2) x1∧Lc 2 w' O' m2 26 [(.slice A9 x0.vars.length u1),(.slice v1 x0.init.length w1),(.slice y1 x0.goal.length z1),(.slice n1 x0.jobs.length o1)]∧Vb w' (Fr 0 w' O') (.slice A9 x0.vars.length u1) x0.vars∧Vb w' (Fr 0 w' O') (.slice v1 x0.init.length w1) x0.init∧Vb w' (Fr 0 w' O') (.slice y1 x0.goal.length z1) x0.goal∧Vb w' (Fr 0 w' O') (.slice n1 x0.jobs.length o1) x0.jobs∧Ob 5 w' O' (.pointer (some ⟨m0,0,none⟩)) h0∧Vb w' (Fr 0 w' O') (.slice i1 n0.length j1) n0) _ () ⟨vB,hB,g0,b0,h8,j0,k0,a0,f2,f0⟩ ⟨rfl,rfl,rfl,rfl,rfl,rfl,rfl,rfl,rfl,rfl,rfl,trivial⟩ (fun _ _=>⟨rfl,rfl⟩) (fun _ _=>⟨rfl,rfl,rfl,rfl,rfl,rfl,rfl,rfl,trivial⟩) (fun _ _ _ ⟨O',hB,g0,b0,h8,j0,k0,a0,s1,f0⟩=>⟨O',hB,g0,b0,h8,j0,k0,a0,s1,f0⟩) ⟨rfl,rfl,rfl⟩ ⟨rfl,rfl⟩ ?_)
   rintro wB a4 h0 z3 eJ rE m4 ⟨xB,hB,g0,b0,h8,j0,k0,a0,s1,f0⟩ i0 m7 n7
   have rk428:inI64 (wB:Int):=rngK m4 b5
   refine Ab (Aa ?_)
   obtain ⟨fJ,gJ,sE,o6,p6,q6,rfl,hJ,iJ⟩:=f0.elem' m4
   refine BB (hA:=o6) (hj:=rfl) (hlt:=p6) rfl rfl rfl ?_
   refine Bv (hl:=rfl) (hc:=q6) rfl rfl ?_
   refine AR 13 xB rfl fun yB jJ zB q0 f1=>?_
   refine AB f1 rfl rfl rfl (AJ rfl) (allOne rfl) fun aC r0 f1=>?_
   replace f1:Lc 13 aC zB yB 52 [(.int .i64 a4.tm),(.int .i64 a4.job)]:=f1
   refine o_z ?_
   refine Ab (Aa (AC rfl rfl (AA (hc:=Blk.cell (i:=0) (f1.1) rfl) rfl rfl ?_)))
   refine Ak rfl rfl (Id rfl rfl rfl (fun d5=>?_) fun d5=>?_)
   ·
    replace i0:=ip i0 d5
    refine o_z ?_
    refine Aj rfl (Ab ?_)
    replace s1:=(s1.st q0).st r0
    obtain ⟨r6,kJ,lJ,mJ,nJ,oJ,pJ,qJ,t1,tE,k1,b4,c4,d4,e4,f4,bC,r2,g4⟩:=Wtr.opn s1 5 9 10 11 (by decide)
    obtain ⟨cC,dC,rfl⟩:=b4.form
    obtain ⟨eC,fC,rfl⟩:=c4.form
    obtain ⟨gC,hC,rfl⟩:=d4.form
    obtain ⟨iC,jC,rfl⟩:=e4.form
    obtain ⟨kC,lC,rfl⟩:=f4.form
    obtain ⟨mC,nC,rfl⟩:=r2.form
    obtain ⟨rJ,sJ,rfl⟩:=g4.form
    refine BO [(9,[11])] r6 ?_
    refine AL (fuel:=6) [] [(1,true),(2,true),(3,true),(4,true),(5,true),(6,true),(7,true)] (by kernel_rfl) rfl ?_
    refine Bo rfl rfl rfl (GS rfl rfl rfl (Bn rfl rfl rfl (BJ (hc:=fun w' ⟨O',hq⟩=>Blk.cell (i:=7) ((k1.st hq (by decide)).1) rfl) rfl rfl rfl ?_)))
    refine Bn rfl rfl rfl ?_
    replace f1:=f1.st t1
    refine BJ (hc:=fun w' ⟨O',hq⟩=>Blk.cell (i:=1) ((f1.st hq (by decide)).1) rfl) rfl rfl rfl ?_
    obtain ⟨oC,s6,i0⟩:=bs i0
    have pC:=(Bb s6)
    refine Tb (he:=s6) rfl rfl rfl rfl ?_
    refine Ax ?_
    refine AL (fuel:=5) [11] [(0,true)] (by kernel_rfl) rfl ?_
    refine Bo rfl rfl rfl (Ax ?_)
    refine Aw (i:=8) (by kernel_rfl) rfl ?_
    refine AN 14 (by decide) r6 (xs:=(([oC]:List Int):List Int)) rfl rfl rfl rfl ⟨(vInt pC),trivial⟩ (by decide) (by decide) rfl fun tJ uJ vJ s0 qC=>?_
    have hZ:=s0.lst [] (fun _ h=>h.elim)
    refine AE [(9,[11])] hZ (by kernel_rfl) ?_
    refine Aw (i:=9) (by kernel_rfl) rfl ?_
    obtain ⟨t6,e5,i0⟩:=bs i0
    obtain ⟨e5,rC,sC⟩:=AP e5
    replace g4:=g4.st s0
    refine BA rfl g4 (qC.rd) rfl rfl (by decide) rC sC rfl fun tC uC wJ u6 v0 h4=>?_
    rw [← e5] at h4 ⊢
    have hZ:=v0.lst [11] (fun _ h=>by cases h;decide)
    refine AE [] hZ (by kernel_rfl) ?_
    refine AL (fuel:=1) [] [(10,true),(11,true)] (by kernel_rfl) rfl ?_
    refine GS rfl rfl rfl (Bn rfl rfl rfl (Ax ?_))
    refine Aw (i:=12) (by kernel_rfl) rfl ?_
    replace k1:=(k1.st s0).st v0
    refine AB k1 rfl rfl rfl (AJ rfl) (allOne rfl) fun vC w0 k1=>?_
    replace k1:Lc 5 vC u6 m0 110 [(.slice cC h0.t.vars.length dC),(.slice eC h0.t.init.length fC),(.slice gC h0.t.goal.length hC),(.slice iC h0.t.jobs.length jC),(.slice kC h0.first.length lC),(.int .i64 h0.last),(.slice mC h0.left.length nC),(.slice tC t6.length uC)]:=k1
    refine BL (by kernel_rfl) ?_
    refine BF (by kernel_rfl) ?_
    refine BO [] u6 ?_
    refine AL (fuel:=1) [] [(0,true),(1,true),(2,true),(3,true),(4,true),(5,true),(6,true),(7,true),(8,true),(9,true),(10,true),(11,true),(12,true),(13,true)] (by kernel_rfl) rfl ?_
    refine Bo rfl rfl rfl (GS rfl rfl rfl (Bn rfl rfl rfl (BJ (hc:=fun w' ⟨O',hq⟩=>Blk.cell (i:=6) ((k1.st hq (by decide)).1) rfl) rfl rfl rfl ?_)))
    refine Bn rfl rfl rfl ?_
    replace f1:=((f1.st s0).st v0).st w0
    refine BJ (hc:=fun w' ⟨O',hq⟩=>Blk.cell (i:=1) ((f1.st hq (by decide)).1) rfl) rfl rfl rfl ?_
    refine Bn rfl rfl rfl ?_
    replace b0:=(((((b0.st q0).st r0).st t1).st s0).st v0).st w0
    refine BJ (hc:=fun w' ⟨O',hq⟩=>Blk.cell (i:=3) ((b0.st hq (by decide)).1) rfl) rfl rfl rfl ?_
    refine Bn rfl rfl rfl (BJ (hc:=fun w' ⟨O',hq⟩=>Blk.cell (i:=1) ((f1.st hq (by decide)).1) rfl) rfl rfl rfl ?_)
    obtain ⟨f5,wC,i0⟩:=bs i0
    obtain ⟨xC,yC⟩:=BQ wC
    replace a0:=(((((a0.st q0).st r0).st t1).st s0).st v0).st w0
    obtain ⟨xJ,yJ,uE,w6,x6,y6,z6,zJ,aK,bK,cK,dK,rfl,zC,aD,bD,cD,dD,eK,eD⟩:=a0.elem yC
    obtain ⟨fK,gK,rfl⟩:=zC.form
    obtain ⟨hK,iK,rfl⟩:=aD.form
    obtain ⟨jK,kK,rfl⟩:=bD.form
    obtain ⟨lK,mK,rfl⟩:=cD.form
    obtain ⟨nK,oK,rfl⟩:=dD.form
    refine EZ (hA:=w6) (hj:=(Int.toNat_of_nonneg xC).symm) (hlt:=y6) rfl rfl rfl rfl ?_
    refine Bn rfl rfl rfl (BJ (hc:=fun w' ⟨O',hq⟩=>cat1 (CL (hq.agree (i:=0) (by decide)) x6 z6)) rfl rfl rfl ?_)
    obtain ⟨pK,fD,i0⟩:=bs i0
    obtain ⟨gD,a7⟩:=BQ fD
    replace r2:=((r2.st s0).st v0).st w0
    obtain ⟨qK,rK,vE,n4,wE,b7,xE,rfl,sK⟩:=r2.elemF a7
    refine EZ (hA:=n4) (hj:=(Int.toNat_of_nonneg gD).symm) (hlt:=b7) rfl rfl rfl rfl ?_
    refine Ax ?_
    refine Aw (i:=14) (by kernel_rfl) rfl ?_
    refine Ix rfl r2 (a:=f5.dur) (vInt eD) n4 rfl rfl (Bj a7) fun tK d1 r2=>?_
    refine BL (by kernel_rfl) ?_
    refine BF (by kernel_rfl) ?_
    replace k1:=k1.st d1
    replace b4:=(((b4.st s0).st v0).st w0).st d1
    replace c4:=(((c4.st s0).st v0).st w0).st d1
    replace d4:=(((d4.st s0).st v0).st w0).st d1
    replace e4:=(((e4.st s0).st v0).st w0).st d1
    replace f4:=(((f4.st s0).st v0).st w0).st d1
    replace h4:=(h4.st w0).st d1
    obtain ⟨uK,j2,yE,zE,hD⟩:=Wtr.shut (x:=(⟨(⟨h0.t.vars,h0.t.init,h0.t.goal,h0.t.jobs⟩:Tpl),h0.first,h0.last,(h0.left.set (a4.job:Int).toNat f5.dur),t6⟩:Wtr)) (l0:=5) (l1:=9) (l2:=10) (l3:=11) (by decide) (by have q:=k1;rw [← ((by simp:(h0.left.set (a4.job:Int).toNat f5.dur).length=h0.left.length).trans rfl)] at q;exact q) b4 c4 d4 e4 f4 bC r2.relen h4
    obtain rfl:=sm i0
    exact show Exists _ from ⟨_,(),rfl,⟨rfl,rfl,rfl,rfl,rfl,rfl,rfl,rfl,rfl,rfl,rfl,trivial⟩,_,(((((((hB.st q0).st r0).st t1).st s0).st v0).st w0).st d1).st j2,(((((((g0.st q0).st r0).st t1).st s0).st v0).st w0).st d1).st j2,(b0.st d1).st j2,(((((((h8.st q0).st r0).st t1).st s0).st v0).st w0).st d1).st j2,(((((((j0.st q0).st r0).st t1).st s0).st v0).st w0).st d1).st j2,(((((((k0.st q0).st r0).st t1).st s0).st v0).st w0).st d1).st j2,(a0.st d1).st j2,hD,(((((((f0.st q0).st r0).st t1).st s0).st v0).st w0).st d1).st j2⟩
   replace i0:=im i0 d5
   refine o_z ?_
   refine Ah rfl (AM ?_)
   obtain rfl:=sm i0
   exact show Exists _ from ⟨_,(),rfl,⟨rfl,rfl,rfl,rfl,rfl,rfl,rfl,rfl,rfl,rfl,rfl,trivial⟩,_,(hB.st q0).st r0,(g0.st q0).st r0,(b0.st q0).st r0,(h8.st q0).st r0,(j0.st q0).st r0,(k0.st q0).st r0,(a0.st q0).st r0,(s1.st q0).st r0,(f0.st q0).st r0⟩
  rintro vK wK ⟨xK,yK,rfl,c7,iD,hB,g0,b0,h8,j0,k0,a0,s1,f0⟩
  replace c0:=AW c0
  refine AF _ c7 ?_
  refine Ab (Aa (Ak rfl rfl (Ak rfl rfl (EE rfl rfl rfl (fun g5=>?_) fun g5=>?_))))
  ·
   replace c0:=ip c0 g5
   refine o_z ?_
   refine Aj rfl (Aa (Ak rfl rfl ?_))
   obtain ⟨zK,jD,c0⟩:=bs c0
   refine Ni (O:=iD) (JB s1 jD) rfl rfl fun aL bL cL k2 kD=>?_
   refine o_z ?_
   obtain rfl:=sm c0
   exact show Exists _ from ⟨_,(),rfl,⟨rfl,rfl,rfl,rfl,rfl,rfl,rfl,trivial⟩,_,hB.st k2,g0.st k2,b0.st k2,h8.st k2,j0.st k2,k0.st k2,a0.st k2,kD,f0.st k2⟩
  replace c0:=im c0 g5
  refine o_z ?_
  refine Ah rfl (AM ?_)
  obtain rfl:=sm c0
  exact show Exists _ from ⟨_,(),rfl,⟨rfl,rfl,rfl,rfl,rfl,rfl,rfl,trivial⟩,_,hB,g0,b0,h8,j0,k0,a0,s1,f0⟩
 replace hB:=hB.st q1
 rintro dL lD ⟨eL,fL,rfl,d7,gL,hB,z2⟩
 replace hm:=AW hm
 refine AF _ d7 ?_
 refine Ab (Aa (Ak rfl rfl (Na rfl rfl ?_)))
 obtain ⟨hL,iL,jL,kL,lL,mL,nL,oL,mD,aF,nD,oD,pD,qD,rD,sD,pL,tD,i4⟩:=Wtr.opn z2 5 9 10 11 (by decide)
 obtain ⟨qL,rL,rfl⟩:=oD.form
 obtain ⟨sL,tL,rfl⟩:=pD.form
 obtain ⟨uL,vL,rfl⟩:=qD.form
 obtain ⟨wL,xL,rfl⟩:=rD.form
 obtain ⟨yL,zL,rfl⟩:=sD.form
 obtain ⟨aM,bM,rfl⟩:=tD.form
 obtain ⟨cM,dM,rfl⟩:=i4.form
 refine AC rfl rfl (AA (hc:=Blk.cell (i:=7) (nD.1) rfl) rfl rfl ?_)
 refine Al rfl rfl (Al rfl rfl (o_z ?_))
 refine AD ?_
 obtain ⟨uD,vD,i4⟩:=i4.freeze
 obtain rfl:=sm hm
 replace hB:=(hB.st mD).st vD
 exact ret2 rfl (At rfl) (At rfl) ⟨hB.ext,_,_,rfl,(Vb.mono (F:=Fr 0 lD uD) i4 hB.out),(vErr (show inI64 0 from by decide))⟩
end
section
open Go Go.RowKit
attribute [local irreducible] ewp owp hwp hwq Ev Evg Fn retPost Res1
attribute [local irreducible] hwx loudX
noncomputable def Fy (x0:List Lch):Option (List Lch) :=
  bnd (appI 16 ([]:List Lch) x0) fun u10=>bnd (rngN (ρ:=(List Lch)) (fun (k27:Nat) (s25:(List Lch))=>bnd (lop (ρ:=Ctl (List Lch) (List Lch)) (fun (s48:(List Lch)×Int)=>bnd (if 0 < s48.2 then (bnd (atI s48.1 s48.2) fun a72=>bnd (chkI (s48.2 - 1)) fun n85=>bnd (atI s48.1 n85) fun a88=>if a72.tm < a88.tm then (some true) else (bnd (atI s48.1 s48.2) fun a102=>bnd (chkI (s48.2 - 1)) fun n115=>bnd (atI s48.1 n115) fun a118=>if a102.tm=a118.tm then (bnd (atI s48.1 s48.2) fun a132=>bnd (chkI (s48.2 - 1)) fun n145=>bnd (atI s48.1 n145) fun a148=>if a132.job < a148.job then (some true) else (some false)) else (some false))) else (some false):Option Bool) fun y67=>if y67=true then (bnd (chkI (s48.2 - 1)) fun n167=>bnd (atI s48.1 n167) fun a170=>bnd (atI s48.1 s48.2) fun a183=>bnd (atI s48.1 s48.2) fun a196=>bnd (chkI (s48.2 - 1)) fun n209=>bnd (atI (s48.1.set (s48.2:Int).toNat a170) n209) fun a214=>bnd (chkI (s48.2 - 1)) fun n229=>some (.next (((s48.1.set (s48.2:Int).toNat a170).set (n209:Int).toNat a183),n229))) else (some (.brk (s48.1,s48.2)))) (s25,(k27:Int))) fun res46=>fin res46 fun (s236:(List Lch)×Int)=>some (.next s236.1)) u10.length u10) fun res23=>fin res23 fun (s242:(List Lch))=>some s242
theorem Nr {w:World} {A:Nat→Prop} (hA:∀ k,A k→k < w.heap.size) {vx0:Value} {x0:List Lch} (t0:Vb w A vx0 x0) {r:(List Lch)} (hm:Fy x0=some r) :
    Fn Tryz.prog 28 [vx0] w fun v w'=>Ext w w'∧Vb w' (upA A w w') v r:=by
 obtain ⟨O,hB,u4⟩:=enter hA
 replace t0:=t0.mono u4
 obtain ⟨A2,c3,rfl⟩:=t0.form
 refine AH Tryz.func28 rfl Tryz.ntmps28 rfl ?_
 unfold Fy at hm
 refine Ab (Aa (Al rfl rfl (o_z ?_)))
 refine Ab (Aa (AN 2 (by decide) O (xs:=(([]:List Lch):List Lch)) rfl rfl rfl rfl trivial (by decide) (by decide) rfl fun g4 w5 O6 S7 h8=>?_))
 refine Ak rfl rfl ?_
 obtain ⟨d0,i2,hm⟩:=bs hm
 obtain ⟨i2,v4,w4⟩:=AP i2
 replace t0:=t0.st S7
 refine BA rfl h8 (t0.rd) rfl rfl (by decide) v4 w4 rfl fun h0 i0 s7 x4 e4 e2=>?_
 rw [← i2] at e2 ⊢
 refine Al rfl rfl (o_z ?_)
 refine Ab (Ab (Aa (Ak rfl rfl (AV rfl rfl ?_))))
 have j2:d0.length≤9223372036854775807:=Nat.le_trans e2.len.2.1 e2.len.2.2
 have t7:inI64 (d0.length:Int):=rngNat j2
 refine Ak rfl rfl (o_z ?_)
 obtain ⟨v0,k2,hm⟩:=bs hm
 refine Az (aft v0 (fun (u0:(List Lch)) (f2:Unit)=>[(3,(.slice h0 d0.length i0))]) (fun u0 f2 w'=>∃ O':Lab,Bs w A w' O'∧Rw 2 w' O' 52 (.slice h0 d0.length i0) u0)) ?_ ?_
 ·
  refine AK ?_
  replace hB:=(hB.st S7).st e4
  refine HA (σ:=(List Lch)) (X:=Unit) (d0.length) k2 j2 (fun (u0:(List Lch)) (f2:Unit)=>[(3,(.slice h0 d0.length i0))]) _ (fun u0 f2 w'=>∃ O':Lab,Bs w A w' O'∧Rw 2 w' O' 52 (.slice h0 d0.length i0) u0) _ () ⟨x4,hB,e2⟩ ⟨rfl,rfl,rfl,trivial⟩ (fun _ _=>⟨rfl,rfl⟩) (fun _ _=>⟨rfl,trivial⟩) (fun _ _ _ ⟨O',hB,n0⟩=>⟨O',hB,n0⟩) ⟨rfl,rfl,rfl⟩ ⟨rfl,rfl⟩ ?_
  rintro g2 u0 f2 u7 y4 l2 ⟨z4,hB,n0⟩ e0 m2 n2
  have rk27:inI64 (g2:Int):=rngKN l2 j2
  refine Ab (Aa (Ak rfl rfl (Al rfl rfl (o_z ?_))))
  refine Ab (Aa (Ak rfl rfl (Al rfl rfl (o_z ?_))))
  obtain ⟨w0,o2,e0⟩:=bs e0
  refine Az (aft w0 (fun (f0:(List Lch)×Int) (h2:Unit)=>[(3,(.slice h0 d0.length i0)),(10,(.int .i64 (d0.length:Int))),(11,(.int .i64 (g2:Int)))]) (fun f0 h2 w'=>∃ O':Lab,Bs w A w' O'∧Rw 2 w' O' 52 (.slice h0 d0.length i0) f0.1∧inI64 f0.2)) ?_ ?_
  ·
   refine AK (Tp (σ:=(List Lch)×Int) (X:=Unit) o2 (fun (f0:(List Lch)×Int) (h2:Unit)=>[(3,(.slice h0 d0.length i0)),(5,(.int .i64 f0.2)),(10,(.int .i64 (d0.length:Int))),(11,(.int .i64 (g2:Int)))]) _ (fun f0 h2 w'=>∃ O':Lab,Bs w A w' O'∧Rw 2 w' O' 52 (.slice h0 d0.length i0) f0.1∧inI64 f0.2) _ () ⟨z4,hB,n0,rk27⟩ ⟨rfl,rfl,rfl,rfl,trivial⟩ ?_)
   rintro f0 h2 a5 b5 ⟨v7,hB,c0,f4⟩ b0 p2 o0
   refine Ab (Ab ?_)
   obtain ⟨c5,a0,b0⟩:=bs b0
   refine Az (fun l' w'=>∃ (d5:Unit) (O':Lab),subs l' [(3,(.slice h0 d0.length i0)),(5,(.int .i64 f0.2)),(10,(.int .i64 (d0.length:Int))),(11,(.int .i64 (g2:Int))),(58,(.bool c5))]∧Bs w A w' O'∧Rw 2 w' O' 52 (.slice h0 d0.length i0) f0.1) ?_ ?_
   ·
    refine FO (·=a5) [(0,true),(1,true),(2,true),(3,true),(4,true),(5,true),(6,true),(7,true),(8,true),(9,true),(10,true),(11,true),(12,true),(13,true),(14,true),(15,true),(16,true),(17,true),(18,true),(19,true),(20,true),(21,true),(22,true),(23,true),(24,true),(25,true),(26,true),(27,true),(28,true),(29,true),(30,true),(31,true),(32,true),(33,true),(34,true),(35,true),(36,true),(37,true),(38,true),(39,true),(40,true),(41,true),(42,true),(43,true)] (by kernel_rfl) rfl (by kernel_rfl) rfl ?_
    refine Bo rfl rfl rfl (UX rfl rfl rfl rfl (fun q2=>?_) fun q2=>?_)
    ·
     replace a0:=ip a0 q2
     refine Bo rfl rfl rfl (Ay rfl (Au rfl rfl (DH rfl rfl (Ay rfl (Au rfl rfl (DH rfl rfl (Ay rfl (Au rfl rfl ?_))))))))
     obtain ⟨w7,e5,a0⟩:=bs a0
     obtain ⟨f5,g5⟩:=BQ e5
     obtain ⟨x7,y7,h5,r2,s2,t2,rfl,z7,a8⟩:=c0.elem g5
     refine JQ (hA:=r2) (hj:=(Int.toNat_of_nonneg f5).symm) (hlt:=s2) rfl rfl rfl ?_
     refine Ay rfl (Au rfl rfl (DX rfl rfl (Ay rfl (Au rfl rfl (CJ (hc:=cat0 t2) rfl rfl ?_)))))
     refine Ay rfl (Au rfl rfl (DH rfl rfl (Ay rfl (Au rfl rfl (DH rfl rfl (Ay rfl (Au rfl rfl ?_)))))))
     obtain ⟨b8,h4,a0⟩:=bs a0
     have c8:=(Bb h4)
     refine Qy (he:=h4) rfl rfl rfl ?_
     refine Ay rfl (Au rfl rfl ?_)
     obtain ⟨d8,i5,a0⟩:=bs a0
     obtain ⟨j5,k5⟩:=BQ i5
     obtain ⟨e8,f8,l5,u2,v2,w2,rfl,g8,m5⟩:=c0.elem k5
     refine JQ (hA:=u2) (hj:=(Int.toNat_of_nonneg j5).symm) (hlt:=v2) rfl rfl rfl ?_
     refine Ay rfl (Au rfl rfl (DX rfl rfl (Ay rfl (Au rfl rfl (CJ (hc:=cat0 w2) rfl rfl ?_)))))
     refine Ay rfl (Au rfl rfl (Cl (fun _ _=>Eu rfl rfl) rfl (fun p0=>?_) (fun p0=>?_)))
     ·
      replace a0:=ip a0 p0
      refine Ay rfl (Au rfl rfl (DH rfl rfl (Bf rfl rfl rfl rfl rfl (Bf rfl rfl rfl rfl rfl (Bf rfl rfl rfl rfl rfl (Bf rfl rfl rfl rfl rfl (Bf rfl rfl rfl rfl rfl (Bf rfl rfl rfl rfl rfl (Bf rfl rfl rfl rfl rfl (Bf rfl rfl rfl rfl rfl (Bf rfl rfl rfl rfl rfl (Bf rfl rfl rfl rfl rfl (Bf rfl rfl rfl rfl rfl (Bf rfl rfl rfl rfl rfl ?_))))))))))))))
      refine Bf rfl rfl rfl rfl rfl (Bf rfl rfl rfl rfl rfl (Bf rfl rfl rfl rfl rfl (Bf rfl rfl rfl rfl rfl (Bf rfl rfl rfl rfl rfl (Bf rfl rfl rfl rfl rfl (Bf rfl rfl rfl rfl rfl (Bf rfl rfl rfl rfl rfl (Bf rfl rfl rfl rfl rfl (Bf rfl rfl rfl rfl rfl (Bf rfl rfl rfl rfl rfl (Bf rfl rfl rfl rfl rfl (Bf rfl rfl rfl rfl rfl (Bf rfl rfl rfl rfl rfl (Ay rfl ?_))))))))))))))
      refine Au rfl rfl (RL rfl rfl rfl (Fa rfl rfl rfl rfl (h_z ?_)))
      obtain rfl:=sm a0
      exact ⟨(),_,⟨rfl,rfl,rfl,rfl,rfl,trivial⟩,hB,c0⟩
     replace a0:=im a0 p0
     refine Ay rfl (Au rfl rfl (DH rfl rfl (Ay rfl (Au rfl rfl (DH rfl rfl (Ay rfl (Au rfl rfl (DH rfl rfl (Ay rfl (Au rfl rfl ?_))))))))))
     obtain ⟨n5,x2,a0⟩:=bs a0
     obtain ⟨y2,z2⟩:=BQ x2
     obtain ⟨o5,p5,i4,y0,z0,a1,rfl,q5,r5⟩:=c0.elem z2
     refine JQ (hA:=y0) (hj:=(Int.toNat_of_nonneg y2).symm) (hlt:=z0) rfl rfl rfl ?_
     refine Ay rfl (Au rfl rfl (DX rfl rfl (Ay rfl (Au rfl rfl (CJ (hc:=cat0 a1) rfl rfl ?_)))))
     refine Ay rfl (Au rfl rfl (DH rfl rfl (Ay rfl (Au rfl rfl (DH rfl rfl (Ay rfl (Au rfl rfl ?_)))))))
     obtain ⟨s5,b1,a0⟩:=bs a0
     have t5:=(Bb b1)
     refine Qy (he:=b1) rfl rfl rfl ?_
     refine Ay rfl (Au rfl rfl ?_)
     obtain ⟨u5,a3,a0⟩:=bs a0
     obtain ⟨b3,d3⟩:=BQ a3
     obtain ⟨v5,x5,j4,c1,d1,e1,rfl,y5,z5⟩:=c0.elem d3
     refine JQ (hA:=c1) (hj:=(Int.toNat_of_nonneg b3).symm) (hlt:=d1) rfl rfl rfl ?_
     refine Ay rfl (Au rfl rfl (DX rfl rfl (Ay rfl (Au rfl rfl (CJ (hc:=cat0 e1) rfl rfl ?_)))))
     refine Ay rfl (Au rfl rfl (Cl (fun _ _=>QM rfl rfl) rfl (fun q0=>?_) (fun q0=>?_)))
     ·
      replace a0:=ip a0 q0
      refine Ay rfl (Au rfl rfl (DH rfl rfl (Ay rfl (Au rfl rfl (DH rfl rfl (Ay rfl (Au rfl rfl (DH rfl rfl (Ay rfl (Au rfl rfl ?_))))))))))
      obtain ⟨a6,e3,a0⟩:=bs a0
      obtain ⟨f3,g3⟩:=BQ e3
      obtain ⟨b6,c6,k4,f1,g1,h1,rfl,d6,e6⟩:=c0.elem g3
      refine JQ (hA:=f1) (hj:=(Int.toNat_of_nonneg f3).symm) (hlt:=g1) rfl rfl rfl ?_
      refine Ay rfl (Au rfl rfl (DX rfl rfl (Ay rfl (Au rfl rfl (CJ (hc:=cat1 h1) rfl rfl ?_)))))
      refine Ay rfl (Au rfl rfl (DH rfl rfl (Ay rfl (Au rfl rfl (DH rfl rfl (Ay rfl (Au rfl rfl ?_)))))))
      obtain ⟨f6,i1,a0⟩:=bs a0
      have g6:=(Bb i1)
      refine Qy (he:=i1) rfl rfl rfl ?_
      refine Ay rfl (Au rfl rfl ?_)
      obtain ⟨h6,h3,a0⟩:=bs a0
      obtain ⟨i3,j3⟩:=BQ h3
      obtain ⟨i6,j6,l4,j1,k1,l1,rfl,k6,l6⟩:=c0.elem j3
      refine JQ (hA:=j1) (hj:=(Int.toNat_of_nonneg i3).symm) (hlt:=k1) rfl rfl rfl ?_
      refine Ay rfl (Au rfl rfl (DX rfl rfl (Ay rfl (Au rfl rfl (CJ (hc:=cat1 l1) rfl rfl ?_)))))
      refine Ay rfl (Au rfl rfl (Cl (fun _ _=>Eu rfl rfl) rfl (fun r0=>?_) (fun r0=>?_)))
      ·
       replace a0:=ip a0 r0
       refine Ay rfl (Au rfl rfl (RL rfl rfl rfl (Ay rfl (Au rfl rfl (Qr rfl rfl rfl (Fa rfl rfl rfl rfl (h_z ?_)))))))
       obtain rfl:=sm a0
       exact ⟨(),_,⟨rfl,rfl,rfl,rfl,rfl,trivial⟩,hB,c0⟩
      replace a0:=im a0 r0
      refine Ay rfl (Au rfl rfl (RL rfl rfl rfl (Ay rfl (Au rfl rfl (Qr rfl rfl rfl (Fa rfl rfl rfl rfl (h_z ?_)))))))
      obtain rfl:=sm a0
      exact ⟨(),_,⟨rfl,rfl,rfl,rfl,rfl,trivial⟩,hB,c0⟩
     replace a0:=im a0 q0
     refine Ay rfl (Au rfl rfl (DH rfl rfl (Bf rfl rfl rfl rfl rfl (Bf rfl rfl rfl rfl rfl (Bf rfl rfl rfl rfl rfl (Bf rfl rfl rfl rfl rfl (Bf rfl rfl rfl rfl rfl (Bf rfl rfl rfl rfl rfl (Bf rfl rfl rfl rfl rfl (Bf rfl rfl rfl rfl rfl (Bf rfl rfl rfl rfl rfl (Bf rfl rfl rfl rfl rfl (Bf rfl rfl rfl rfl rfl (Bf rfl rfl rfl rfl rfl ?_))))))))))))))
     refine Ay rfl (Au rfl rfl (Qr rfl rfl rfl (Ay rfl (Au rfl rfl (Qr rfl rfl rfl (Fa rfl rfl rfl rfl (h_z ?_)))))))
     obtain rfl:=sm a0
     exact ⟨(),_,⟨rfl,rfl,rfl,rfl,rfl,trivial⟩,hB,c0⟩
    replace a0:=im a0 q2
    refine Bo rfl rfl rfl (Bf rfl rfl rfl rfl rfl (Bf rfl rfl rfl rfl rfl (Bf rfl rfl rfl rfl rfl (Bf rfl rfl rfl rfl rfl (Bf rfl rfl rfl rfl rfl (Bf rfl rfl rfl rfl rfl (Bf rfl rfl rfl rfl rfl (Bf rfl rfl rfl rfl rfl (Bf rfl rfl rfl rfl rfl (Bf rfl rfl rfl rfl rfl (Bf rfl rfl rfl rfl rfl (Bf rfl rfl rfl rfl rfl (Bf rfl rfl rfl rfl rfl (Bf rfl rfl rfl rfl rfl ?_))))))))))))))
    refine Bf rfl rfl rfl rfl rfl (Bf rfl rfl rfl rfl rfl (Bf rfl rfl rfl rfl rfl (Bf rfl rfl rfl rfl rfl (Bf rfl rfl rfl rfl rfl (Bf rfl rfl rfl rfl rfl (Bf rfl rfl rfl rfl rfl (Bf rfl rfl rfl rfl rfl (Bf rfl rfl rfl rfl rfl (Bf rfl rfl rfl rfl rfl (Bf rfl rfl rfl rfl rfl (Bf rfl rfl rfl rfl rfl (Bf rfl rfl rfl rfl rfl (Bf rfl rfl rfl rfl rfl (Bf rfl rfl rfl rfl rfl ?_))))))))))))))
    refine Bf rfl rfl rfl rfl rfl (Bf rfl rfl rfl rfl rfl (Bf rfl rfl rfl rfl rfl (Bf rfl rfl rfl rfl rfl (Bf rfl rfl rfl rfl rfl (Bf rfl rfl rfl rfl rfl (Bf rfl rfl rfl rfl rfl (Bf rfl rfl rfl rfl rfl (Bf rfl rfl rfl rfl rfl (Bf rfl rfl rfl rfl rfl (Bf rfl rfl rfl rfl rfl (Fi rfl rfl rfl rfl (h_z ?_))))))))))))
    obtain rfl:=sm a0
    exact ⟨(),_,⟨rfl,rfl,rfl,rfl,rfl,trivial⟩,hB,c0⟩
   rintro m6 n6 ⟨d5,k3,m1,hB,c0⟩
   refine AF _ m1 ?_
   refine CD rfl (fun s0=>?_) (fun s0=>?_)
   ·
    replace b0:=ip b0 s0
    refine AM (Ab (AK (BO [(15,[2])] k3 ?_)))
    refine AL (fuel:=6) [] [(0,true),(1,true),(5,true),(6,true),(7,true),(8,true),(9,true),(10,true),(11,true),(12,true),(13,true),(14,true)] (by kernel_rfl) rfl ?_
    refine Bo rfl rfl rfl (Bo rfl rfl rfl (Bo rfl rfl rfl (Bo rfl rfl rfl ?_)))
    obtain ⟨o6,n1,b0⟩:=bs b0
    have p6:=(Bb n1)
    refine MH (he:=n1) rfl rfl rfl rfl ?_
    obtain ⟨j0,l3,b0⟩:=bs b0
    obtain ⟨m3,n3⟩:=BQ l3
    obtain ⟨q6,r6,m4,o1,p1,q1,r1,rfl,o3,p3⟩:=c0.elemF n3
    refine EZ (hA:=o1) (hj:=(Int.toNat_of_nonneg m3).symm) (hlt:=q1) rfl rfl rfl rfl ?_
    refine CO (hl:=rfl) (hb:=fun w' ⟨O',hq⟩=>(CL (hq.agree (i:=2) (by decide)) p1 r1)) rfl rfl rfl ?_
    refine Bo rfl rfl rfl (Bo rfl rfl rfl ?_)
    obtain ⟨k0,q3,b0⟩:=bs b0
    obtain ⟨r3,s3⟩:=BQ q3
    obtain ⟨s6,t6,n4,s1,t1,u1,v1,rfl,t3,u3⟩:=c0.elemF s3
    refine EZ (hA:=s1) (hj:=(Int.toNat_of_nonneg r3).symm) (hlt:=u1) rfl rfl rfl rfl ?_
    refine CO (hl:=rfl) (hb:=fun w' ⟨O',hq⟩=>(CL (hq.agree (i:=2) (by decide)) t1 v1)) rfl rfl rfl ?_
    obtain ⟨u6,v3,b0⟩:=bs b0
    obtain ⟨w3,w1⟩:=BQ v3
    obtain ⟨v6,w6,o4,l0,p4,x1,q4,rfl,x6,y6⟩:=c0.elemF w1
    refine EZ (hA:=l0) (hj:=(Int.toNat_of_nonneg w3).symm) (hlt:=x1) rfl rfl rfl rfl ?_
    refine Ax ?_
    refine AL (fuel:=3) [2] [(2,true),(3,true),(4,true)] (by kernel_rfl) rfl ?_
    refine Bo rfl rfl rfl (Bo rfl rfl rfl ?_)
    obtain ⟨z6,y1,b0⟩:=bs b0
    have a7:=(Bb y1)
    refine MH (he:=y1) rfl rfl rfl rfl ?_
    refine Ax ?_
    refine Aw (i:=15) (by kernel_rfl) rfl ?_
    refine Ix rfl c0 (a:=j0) (Vb.ofAgg (cs:=[(.int .i64 j0.tm),(.int .i64 j0.job)]) (x:=j0) rfl ⟨rfl,o3,p3⟩) l0 rfl rfl (Bj w1) fun b7 z1 c0=>?_
    have hZ:=z1.lst [2] (fun _ h=>by cases h;decide)
    refine AE [] hZ (by kernel_rfl) ?_
    refine AL (fuel:=1) [] [(16,true)] (by kernel_rfl) rfl ?_
    obtain ⟨c7,x3,b0⟩:=bs b0
    obtain ⟨y3,a2⟩:=BQ x3
    obtain ⟨d7,e7,r4,m0,s4,b2,t4,rfl,f7,g7⟩:=c0.elemF a2
    refine EZ (hA:=m0) (hj:=(Int.toNat_of_nonneg y3).symm) (hlt:=b2) rfl rfl rfl rfl ?_
    refine Ax ?_
    refine Aw (i:=17) (by kernel_rfl) rfl ?_
    refine Ix rfl c0 (a:=k0) (Vb.ofAgg (cs:=[(.int .i64 k0.tm),(.int .i64 k0.job)]) (x:=k0) rfl ⟨rfl,t3,u3⟩) m0 rfl rfl (Bj a2) fun h7 z3 c0=>?_
    refine BL (by kernel_rfl) ?_
    refine BF (by kernel_rfl) ?_
    refine Aa (Ak rfl rfl ?_)
    obtain ⟨i7,c2,b0⟩:=bs b0
    have a4:=(Bb c2)
    refine JP (he:=c2) rfl rfl rfl ?_
    refine Al rfl rfl (o_z ?_)
    obtain rfl:=sm b0
    exact show Exists _ from ⟨_,(),rfl,⟨rfl,rfl,rfl,rfl,trivial⟩,_,(hB.st z1).st z3,c0,a4⟩
   replace b0:=im' b0 s0
   refine Hv ?_
   obtain rfl:=sm b0
   exact show Exists _ from ⟨_,(),o0 _ rfl,⟨rfl,rfl,rfl,trivial⟩,_,hB,c0,f4⟩
  rintro j7 k7 ⟨l7,m7,rfl,g0,n7,hB,c0,f4⟩
  replace e0:=AW e0
  obtain rfl:=sm e0
  exact show Exists _ from ⟨_,(),rfl,⟨(Bl g0 _ _ rfl),(Bl g0 _ _ rfl),(Bl g0 _ _ rfl),trivial⟩,_,hB,c0⟩
 replace hB:=(hB.st S7).st e4
 rintro o7 b4 ⟨p7,q7,rfl,d2,r7,hB,n0⟩
 replace hm:=AW hm
 refine AF _ d2 ?_
 refine Ab (Aa (Ak rfl rfl (Al rfl rfl (o_z ?_))))
 refine AD ?_
 obtain ⟨c4,d4,n0⟩:=n0.freeze
 obtain rfl:=sm hm
 replace hB:=hB.st d4
 exact ret1v rfl (At rfl) ⟨hB.ext,(Vb.mono (F:=Fr 0 b4 c4) n0 hB.out)⟩
noncomputable def EU (x0:Tpl) (x1:Int) (x2:Int):Option Int :=
  bnd (chkI (2 * (x0.jobs.length:Int))) fun n28=>bnd (chkI (n28 + 1)) fun n31=>bnd (natI x1) fun N47=>bnd (rngN (ρ:=Int) (fun (k38:Nat) (s36:Int)=>bnd (x0.jobs[k38]?) fun a51=>bnd (chkI (a51.dur + 1)) fun n82=>bnd (chkI (s36 + n82)) fun n85=>some (.next n85)) N47 n31) fun res34=>fin res34 fun (s92:Int)=>bnd (chkI (s92 + x2)) fun n94=>some n94
noncomputable def IG (x0:Tpl) (x1:List Lch):Option (List Int) :=
  bnd (ID x0 x1) fun q27=>bnd (lop (ρ:=(List Int)) (fun (s37:(List Int)×Int)=>if s37.2≤q27 then (bnd (If x0 x1 s37.2) fun q57=>bnd (rng (ρ:=Ctl ((List Int)×Int) (List Int)) (fun (k72:Nat) (a73:Hp5) (s70:(List Int))=>bnd (atI x1 a73.launch) fun a102=>bnd (chkI (2 * a102.job)) fun n115=>bnd (if a73.fin=true then (bnd (chkI (n115 + 1)) fun n124=>some n124) else (some n115):Option Int) fun y118=>bnd (appI 8 s70 [y118]) fun u131=>some (.next u131)) q57 0 s37.1) fun res68=>fin res68 fun (s147:(List Int))=>if s37.2=q27 then (some (.brk (s147,s37.2))) else (bnd (chkI (2 * (x0.jobs.length:Int))) fun n152=>bnd (appI 8 s147 [n152]) fun u155=>bnd (rng (ρ:=Ctl ((List Int)×Int) (List Int)) (fun (k173:Nat) (a174:Job) (s171:(List Int))=>bnd (rng (ρ:=Ctl (List Int) (Ctl ((List Int)×Int) (List Int))) (fun (k194:Nat) (a195:Lch) (s192:Int)=>bnd (if a195.job=(k173:Int) then (if a195.tm≤s37.2 then (bnd (CH x0 a195) fun q229=>if s37.2 < q229 then (some true) else (some false)) else (some false)) else (some false):Option Bool) fun y223=>if y223=true then (bnd (CH x0 a195) fun q243=>bnd (chkI (q243 - s37.2)) fun n251=>some (.next n251)) else (some (.next s192))) x1 0 0) fun res190=>fin res190 fun (s258:Int)=>bnd (EU x0 (k173:Int) s258) fun q260=>bnd (appI 8 s171 [q260]) fun u268=>some (.next u268)) x0.jobs 0 u155) fun res169=>fin res169 fun (s284:(List Int))=>bnd (EU x0 (x0.jobs.length:Int) 0) fun q288=>bnd (appI 8 s284 [q288]) fun u296=>bnd (chkI (s37.2 + 1)) fun n308=>some (.next (u296,n308)))) else (some (.brk (s37.1,s37.2)))) (([]:List Int),0)) fun res35=>fin res35 fun (s315:(List Int)×Int)=>some s315.1
end
section
open Go Go.RowKit
attribute [local irreducible] ewp owp hwp hwq Ev Evg Fn retPost Res1
attribute [local irreducible] hwx loudX
noncomputable def Fz  : Option Tpl :=
  some (⟨([2]:List Int),([0]:List Int),[(⟨0,0⟩:Fct)],[(⟨(⟨#[108,105,103,104,116]⟩:ByteArray),3,[(⟨0,0⟩:Fct)],[(⟨0,1⟩:Fct)],([]:List Fct),[(⟨0,1⟩:Fct)],[(⟨0,0⟩:Fct)]⟩:Job)]⟩:Tpl)
theorem KZ {w:World} {A:Nat→Prop} (hA:∀ k,A k→k < w.heap.size)  {r:Tpl} (hm:Fz  = some r) :
    Fn Tryz.prog 34 [] w fun v w'=>Ext w w'∧Vb w' (upA A w w') v r:=by
 obtain ⟨O,hB,z0⟩:=enter hA
 refine AH Tryz.func34 rfl Tryz.ntmps34 rfl ?_
 unfold Fz at hm
 refine Ab (Aa (AR 2 O rfl fun g1 w2 O3 S4 h5=>?_))
 refine o_z ?_
 refine Ab (Aa (Ez rfl rfl rfl ?_))
 refine AN 3 (by decide) O3 (xs:=([(⟨0,0⟩:Fct)]:List Fct)) rfl rfl rfl rfl ⟨(Vb.ofAgg (cs:=[(.int .i64 0),(.int .i64 0)]) (x:=(⟨0,0⟩:Fct)) rfl ⟨rfl,(show inI64 0 from by decide),(show inI64 (0) from by decide)⟩),trivial⟩ (by decide) (by decide) rfl fun g6 w7 O8 S9 a0=>?_
 refine Ez rfl rfl rfl ?_
 refine AN 4 (by decide) O8 (xs:=([(⟨0,1⟩:Fct)]:List Fct)) rfl rfl rfl rfl ⟨(Vb.ofAgg (cs:=[(.int .i64 0),(.int .i64 1)]) (x:=(⟨0,1⟩:Fct)) rfl ⟨rfl,(show inI64 0 from by decide),(show inI64 (1) from by decide)⟩),trivial⟩ (by decide) (by decide) rfl fun s0 a1 u0 o0 d0=>?_
 refine Al rfl rfl (Al rfl rfl (o_z ?_))
 refine Ab (Aa (AN 5 (by decide) u0 (xs:=(([2]:List Int):List Int)) rfl rfl rfl rfl ⟨(vInt (show inI64 (2) from by decide)),trivial⟩ (by decide) (by decide) rfl fun p0 b1 v0 n0 b0=>?_))
 refine AN 6 (by decide) v0 (xs:=(([0]:List Int):List Int)) rfl rfl rfl rfl ⟨(vInt (show inI64 (0) from by decide)),trivial⟩ (by decide) (by decide) rfl fun q0 c1 d1 e0 c0=>?_
 refine Ak rfl rfl (Ak rfl rfl (Ak rfl rfl (Ak rfl rfl (Ak rfl rfl (Ez rfl rfl rfl ?_)))))
 replace a0:=((a0.st o0).st n0).st e0
 obtain ⟨e1,f0,a0⟩:=a0.freeze
 replace d0:=((d0.st n0).st e0).st f0
 obtain ⟨w0,g0,d0⟩:=d0.freeze
 replace a0:=a0.st g0
 refine AN 7 (by decide) w0 (xs:=([(⟨(⟨#[108,105,103,104,116]⟩:ByteArray),3,[(⟨0,0⟩:Fct)],[(⟨0,1⟩:Fct)],([]:List Fct),[(⟨0,1⟩:Fct)],[(⟨0,0⟩:Fct)]⟩:Job)]:List Job)) rfl rfl rfl rfl ⟨(Vb.ofAgg (cs:=[(.string (⟨#[108,105,103,104,116]⟩:ByteArray)),(.int .i64 3),(.slice (some ⟨g6,0,none⟩) [(⟨0,0⟩:Fct)].length 1),(.slice (some ⟨s0,0,none⟩) [(⟨0,1⟩:Fct)].length 1),(.slice none 0 0),(.slice (some ⟨s0,0,none⟩) [(⟨0,1⟩:Fct)].length 1),(.slice (some ⟨g6,0,none⟩) [(⟨0,0⟩:Fct)].length 1)]) (x:=(⟨(⟨#[108,105,103,104,116]⟩:ByteArray),3,[(⟨0,0⟩:Fct)],[(⟨0,1⟩:Fct)],([]:List Fct),[(⟨0,1⟩:Fct)],[(⟨0,0⟩:Fct)]⟩:Job)) rfl ⟨_,_,_,_,_,rfl,a0,d0,(Vb.nil _ _),d0,a0,(show (⟨#[108,105,103,104,116]⟩:ByteArray).size≤9223372036854775807 from by decide),(show inI64 (3) from by decide)⟩),trivial⟩ (by decide) (by decide) rfl fun r0 f1 x0 h0 i0=>?_
 refine Ez rfl rfl rfl ?_
 replace h5:=((((((h5.st S9).st o0).st n0).st e0).st f0).st g0).st h0
 refine AB h5 rfl rfl rfl (AJ rfl) (allOne rfl) fun t0 j0 h5=>?_
 replace h5:Lc 2 t0 x0 g1 26 [(.slice (some ⟨p0,0,none⟩) ([2]:List Int).length 1),(.slice (some ⟨q0,0,none⟩) ([0]:List Int).length 1),(.slice (some ⟨g6,0,none⟩) [(⟨0,0⟩:Fct)].length 1),(.slice (some ⟨r0,0,none⟩) [(⟨(⟨#[108,105,103,104,116]⟩:ByteArray),3,[(⟨0,0⟩:Fct)],[(⟨0,1⟩:Fct)],([]:List Fct),[(⟨0,1⟩:Fct)],[(⟨0,0⟩:Fct)]⟩:Job)].length 1)]:=h5
 refine o_z ?_
 refine AD ?_
 replace b0:=((((b0.st e0).st f0).st g0).st h0).st j0
 obtain ⟨h1,k0,b0⟩:=b0.freeze
 replace c0:=((((c0.st f0).st g0).st h0).st j0).st k0
 obtain ⟨i1,l0,c0⟩:=c0.freeze
 replace i0:=((i0.st j0).st k0).st l0
 obtain ⟨y0,m0,i0⟩:=i0.freeze
 obtain rfl:=sm hm
 replace hB:=(((((((((((hB.st S4).st S9).st o0).st n0).st e0).st f0).st g0).st h0).st j0).st k0).st l0).st m0
 replace h5:=((h5.st k0).st l0).st m0
 replace a0:=((((a0.st h0).st j0).st k0).st l0).st m0
 replace b0:=(b0.st l0).st m0
 replace c0:=c0.st m0
 exact ret1v rfl (Gj (cs:=[(.slice (some ⟨p0,0,none⟩) ([2]:List Int).length 1),(.slice (some ⟨q0,0,none⟩) ([0]:List Int).length 1),(.slice (some ⟨g6,0,none⟩) [(⟨0,0⟩:Fct)].length 1),(.slice (some ⟨r0,0,none⟩) [(⟨(⟨#[108,105,103,104,116]⟩:ByteArray),3,[(⟨0,0⟩:Fct)],[(⟨0,1⟩:Fct)],([]:List Fct),[(⟨0,1⟩:Fct)],[(⟨0,0⟩:Fct)]⟩:Job)].length 1)]) rfl rfl h5.1.cellsAt) ⟨hB.ext,(Vb.mono (F:=Fr 0 t0 y0) (Vb.ofAgg (cs:=[(.slice (some ⟨p0,0,none⟩) ([2]:List Int).length 1),(.slice (some ⟨q0,0,none⟩) ([0]:List Int).length 1),(.slice (some ⟨g6,0,none⟩) [(⟨0,0⟩:Fct)].length 1),(.slice (some ⟨r0,0,none⟩) [(⟨(⟨#[108,105,103,104,116]⟩:ByteArray),3,[(⟨0,0⟩:Fct)],[(⟨0,1⟩:Fct)],([]:List Fct),[(⟨0,1⟩:Fct)],[(⟨0,0⟩:Fct)]⟩:Job)].length 1)]) (x:=(⟨([2]:List Int),([0]:List Int),[(⟨0,0⟩:Fct)],[(⟨(⟨#[108,105,103,104,116]⟩:ByteArray),3,[(⟨0,0⟩:Fct)],[(⟨0,1⟩:Fct)],([]:List Fct),[(⟨0,1⟩:Fct)],[(⟨0,0⟩:Fct)]⟩:Job)]⟩:Tpl)) rfl ⟨_,_,_,_,rfl,b0,c0,a0,i0⟩) hB.out)⟩
noncomputable def EF  : Option Bool :=
  bnd (Fz) fun q1=>bnd (BK q1) fun q25=>bnd (Fz) fun q61=>bnd (Ct q61 [(⟨0,0⟩:Lch)]) fun q93=>bnd (if q25.2.n=0 then (if q93.2.n=0 then (bnd (GI q25.1.vars ([2,5,2,2,2,3]:List Int)) fun q119=>if q119=true then bnd (GI q93.1 ([0,2,6,7,2,5,7,2,4,7,1]:List Int)) fun q132=>if q132=true then some true else some false else some false) else (some false)) else (some false):Option Bool) fun y107=>some y107
theorem Kp {w:World} {A:Nat→Prop} (hA:∀ k,A k→k < w.heap.size)  {r:Bool} (hm:EF  = some r) :
    Fn Tryz.prog 10 [] w fun v w'=>Ext w w'∧Vb w' (upA A w w') v r:=by
 obtain ⟨O,hB,e4⟩:=enter hA
 refine AH Tryz.func10 rfl Tryz.ntmps10 rfl ?_
 unfold EF at hm
 refine Ab (Aa (Al rfl rfl (o_z ?_)))
 refine Ab (Aa ?_)
 obtain ⟨q1,e2,hm⟩:=bs hm
 refine Ce (O:=O) (R:=fun w' F v=>Vb w' F v q1) (KZ Fr.lt  e2) rfl rfl fun v7 w3 O4 S5 h6=>?_
 obtain ⟨f4,rfl,v9,g4,h4,i4,rfl,p1,r1,s1,t1⟩:=h6
 obtain ⟨v1,w1,rfl⟩:=p1.form
 obtain ⟨x1,y1,rfl⟩:=r1.form
 obtain ⟨z1,a2,rfl⟩:=s1.form
 obtain ⟨b2,c2,rfl⟩:=t1.form
 obtain ⟨q0,d2,hm⟩:=bs hm
 refine Ce (O:=O4) (R:=fun w' F v=>T2 w' F v q0) (Fo Fr.lt (Vb.ofAgg (cs:=[(.slice v1 q1.vars.length w1),(.slice x1 q1.init.length y1),(.slice z1 q1.goal.length a2),(.slice b2 q1.jobs.length c2)]) (x:=q1) rfl ⟨_,_,_,_,rfl,p1,r1,s1,t1⟩) d2) rfl rfl fun j4 k4 f2 o0 g2=>?_
 obtain ⟨l4,m4,rfl,h2,i2⟩:=g2
 obtain ⟨j2,rfl,n4,o4,p4,q4,rfl,z0,k2,l2,m2⟩:=h2
 obtain ⟨n2,o2,rfl⟩:=z0.form
 obtain ⟨p2,q2,rfl⟩:=k2.form
 obtain ⟨r2,s2,rfl⟩:=l2.form
 obtain ⟨t2,u2,rfl⟩:=m2.form
 obtain ⟨rfl,r4⟩:=i2.err
 refine Ak rfl rfl (Db rfl rfl rfl (Db rfl rfl rfl (AR 2 f2 rfl fun v2 s4 u1 i0 j0=>?_)))
 refine AB j0 rfl rfl rfl (AJ rfl) (allOne rfl) fun w2 k0 j0=>?_
 replace j0:Lc 2 w2 u1 v2 31 [(.slice n2 q0.1.vars.length o2),(.slice p2 q0.1.init.length q2),(.slice r2 q0.1.goal.length s2),(.slice t2 q0.1.ops.length u2)]:=j0
 refine Al rfl rfl (o_z ?_)
 refine Ab (Aa ?_)
 obtain ⟨p0,x2,hm⟩:=bs hm
 refine Ce (O:=u1) (R:=fun w' F v=>Vb w' F v p0) (KZ Fr.lt  x2) rfl rfl fun t4 u4 y2 g0 z2=>?_
 obtain ⟨a3,rfl,v4,w4,x4,y4,rfl,a1,b1,c1,d1⟩:=z2
 obtain ⟨b3,c3,rfl⟩:=a1.form
 obtain ⟨d3,e3,rfl⟩:=b1.form
 obtain ⟨f3,g3,rfl⟩:=c1.form
 obtain ⟨h3,i3,rfl⟩:=d1.form
 refine Ez rfl rfl rfl ?_
 refine AN 3 (by decide) y2 (xs:=([(⟨0,0⟩:Lch)]:List Lch)) rfl rfl rfl rfl ⟨(Vb.ofAgg (cs:=[(.int .i64 0),(.int .i64 0)]) (x:=(⟨0,0⟩:Lch)) rfl ⟨rfl,(show inI64 0 from by decide),(show inI64 0 from by decide)⟩),trivial⟩ (by decide) (by decide) rfl fun z4 a5 b5 b0 e1=>?_
 obtain ⟨j3,c0,e1⟩:=e1.freeze
 obtain ⟨k3,l3,hm⟩:=bs hm
 replace a1:=(a1.st b0).st c0
 replace b1:=(b1.st b0).st c0
 replace c1:=(c1.st b0).st c0
 replace d1:=(d1.st b0).st c0
 refine Ce (O:=j3) (R:=fun w' F v=>T2 w' F v k3) (JC Fr.lt (Vb.ofAgg (cs:=[(.slice b3 p0.vars.length c3),(.slice d3 p0.init.length e3),(.slice f3 p0.goal.length g3),(.slice h3 p0.jobs.length i3)]) (x:=p0) rfl ⟨_,_,_,_,rfl,a1,b1,c1,d1⟩) e1 l3) rfl rfl fun c5 d5 m3 h0 n3=>?_
 obtain ⟨o3,p3,rfl,e0,f1⟩:=n3
 obtain ⟨q3,r3,rfl⟩:=e0.form
 obtain ⟨rfl,s3⟩:=f1.err
 refine Ak rfl rfl (Db rfl rfl rfl (Db rfl rfl rfl (Al rfl rfl (Al rfl rfl (o_z ?_)))))
 refine Ab ?_
 obtain ⟨g1,a0,hm⟩:=bs hm
 refine Az (fun l' w'=>∃ (h1:Unit) (O':Lab),subs l' [(0,(.bool g1))]∧Bs w A w' O') ?_ ?_
 ·
  refine Aa (Ak rfl rfl (Ta rfl rfl (fun l0=>?_) fun l0=>?_))
  ·
   replace a0:=ip a0 l0
   refine Ak rfl rfl (An rfl rfl (Ak rfl rfl (An rfl rfl (Ta rfl rfl (fun m0=>?_) fun m0=>?_))))
   ·
    replace a0:=ip a0 m0
    refine BN rfl rfl rfl (Ak rfl rfl (An rfl rfl (AC rfl rfl (An rfl rfl ?_))))
    replace j0:=(((j0.st g0).st b0).st c0).st h0
    refine AA (hc:=Blk.cell (i:=0) (j0.1) rfl) rfl rfl ?_
    refine An rfl rfl (AN 4 (by decide) m3 (xs:=(([2,5,2,2,2,3]:List Int):List Int)) rfl rfl rfl rfl ⟨(vInt (show inI64 (2) from by decide)),(vInt (show inI64 (5) from by decide)),(vInt (show inI64 (2) from by decide)),(vInt (show inI64 (2) from by decide)),(vInt (show inI64 (2) from by decide)),(vInt (show inI64 (3) from by decide)),trivial⟩ (by decide) (by decide) rfl fun t3 r0 s0 d0 i1=>?_)
    refine An rfl rfl ?_
    obtain ⟨t0,j1,a0⟩:=bs a0
    replace z0:=((((((z0.st i0).st k0).st g0).st b0).st c0).st h0).st d0
    refine AI (O:=s0) (A:=All r0) (R:=fun w' F v=>Vb w' F v t0) (LG (fun _ h=>h) (Vb.mono (F:=Fr 0 r0 s0) z0 Fr.lt) (i1).all j1) rfl rfl fun u3 v3 k1 f0 l1=>?_
    obtain rfl:=l1.bool
    cases t0
    case false =>
     replace a0:=iF a0
     refine BN rfl rfl rfl (Ak rfl rfl (Am rfl rfl rfl rfl (Am rfl rfl rfl rfl (Am rfl rfl rfl rfl (BI rfl rfl rfl (Al rfl rfl (o_z ?_)))))))
     obtain rfl:=sm a0
     exact ⟨(),_,⟨rfl,trivial⟩,(((((((((hB.st S5).st o0).st i0).st k0).st g0).st b0).st c0).st h0).st d0).st f0⟩
    replace a0:=iT a0
    refine BN rfl rfl rfl (Ak rfl rfl (An rfl rfl (Ak rfl rfl (An rfl rfl (AN 5 (by decide) k1 (xs:=(([0,2,6,7,2,5,7,2,4,7,1]:List Int):List Int)) rfl rfl rfl rfl ⟨(vInt (show inI64 (0) from by decide)),(vInt (show inI64 (2) from by decide)),(vInt (show inI64 (6) from by decide)),(vInt (show inI64 (7) from by decide)),(vInt (show inI64 (2) from by decide)),(vInt (show inI64 (5) from by decide)),(vInt (show inI64 (7) from by decide)),(vInt (show inI64 (2) from by decide)),(vInt (show inI64 (4) from by decide)),(vInt (show inI64 (7) from by decide)),(vInt (show inI64 (1) from by decide)),trivial⟩ (by decide) (by decide) rfl fun x3 u0 v0 n0 m1=>?_)))))
    refine An rfl rfl ?_
    obtain ⟨w0,n1,a0⟩:=bs a0
    replace e0:=((e0.st d0).st f0).st n0
    refine AI (O:=v0) (A:=All u0) (R:=fun w' F v=>Vb w' F v w0) (LG (fun _ h=>h) (Vb.mono (F:=Fr 0 u0 v0) e0 Fr.lt) (m1).all n1) rfl rfl fun y3 z3 a4 x0 o1=>?_
    obtain rfl:=o1.bool
    cases w0
    case false =>
     replace a0:=iF a0
     refine BN rfl rfl rfl (Al rfl rfl (o_z ?_))
     obtain rfl:=sm a0
     exact ⟨(),_,⟨rfl,trivial⟩,(((((((((((hB.st S5).st o0).st i0).st k0).st g0).st b0).st c0).st h0).st d0).st f0).st n0).st x0⟩
    replace a0:=iT a0
    refine BN rfl rfl rfl (Al rfl rfl (o_z ?_))
    obtain rfl:=sm a0
    exact ⟨(),_,⟨rfl,trivial⟩,(((((((((((hB.st S5).st o0).st i0).st k0).st g0).st b0).st c0).st h0).st d0).st f0).st n0).st x0⟩
   replace a0:=im a0 m0
   refine BN rfl rfl rfl (Ak rfl rfl (Am rfl rfl rfl rfl (Am rfl rfl rfl rfl (Am rfl rfl rfl rfl (Am rfl rfl rfl rfl (BI rfl rfl rfl (Ak rfl rfl (Am rfl rfl rfl rfl (Am rfl rfl rfl rfl (Am rfl rfl rfl rfl (BI rfl rfl rfl (Al rfl rfl (o_z ?_)))))))))))))
   obtain rfl:=sm a0
   exact ⟨(),_,⟨rfl,trivial⟩,(((((((hB.st S5).st o0).st i0).st k0).st g0).st b0).st c0).st h0⟩
  replace a0:=im a0 l0
  refine Ak rfl rfl (Am rfl rfl rfl rfl (Am rfl rfl rfl rfl (BI rfl rfl rfl (Ak rfl rfl (Am rfl rfl rfl rfl (Am rfl rfl rfl rfl (Am rfl rfl rfl rfl (Am rfl rfl rfl rfl (BI rfl rfl rfl (Ak rfl rfl (Am rfl rfl rfl rfl (Am rfl rfl rfl rfl (Am rfl rfl rfl rfl (BI rfl rfl rfl ?_))))))))))))))
  refine Al rfl rfl (o_z ?_)
  obtain rfl:=sm a0
  exact ⟨(),_,⟨rfl,trivial⟩,(((((((hB.st S5).st o0).st i0).st k0).st g0).st b0).st c0).st h0⟩
 replace hB:=(((((((hB.st S5).st o0).st i0).st k0).st g0).st b0).st c0).st h0
 rintro b4 c4 ⟨h1,d4,y0,hB⟩
 refine AF _ y0 ?_
 refine AD ?_
 obtain rfl:=sm hm
 exact ret1v rfl (At rfl) ⟨hB.ext,vBool⟩
noncomputable def GK (x0:Tpl) (x1:List Lch):Option Bool :=
  bnd (if 70 < (x0.vars.length:Int) then (some true) else (if 30 < (x0.jobs.length:Int) then (some true) else (if 12 < (x1.length:Int) then (some true) else (if 80 < (x0.goal.length:Int) then (some true) else (some false)))):Option Bool) fun y27=>if y27=true then (some false) else (bnd (rng (ρ:=Bool) (fun (k54:Nat) (a55:Job) (s52:Unit)=>bnd (if 100 < (wr ((wr ((wr ((wr ((a55.start.length:Int) + (a55.over.length:Int))) + (a55.fin.length:Int))) + (a55.atStart.length:Int))) + (a55.atEnd.length:Int))) then (some true) else (if 300 < (a55.name.size:Int) then (some true) else (some false)):Option Bool) fun y101=>if y101=true then (some (.ret false)) else (some (.next ()))) x0.jobs 0 ()) fun res50=>fin res50 fun (s127:Unit)=>some true)
theorem PA {w:World} {A:Nat→Prop} (hA:∀ k,A k→k < w.heap.size) {vx0:Value} {x0:Tpl} (f1:Vb w A vx0 x0) {vx1:Value} {x1:List Lch} (m0:Vb w A vx1 x1) {r:Bool} (hm:GK x0 x1=some r) :
    Fn Tryz.prog 11 [vx0,vx1] w fun v w'=>Ext w w'∧Vb w' (upA A w w') v r:=by
 obtain ⟨O,hB,g2⟩:=enter hA
 replace f1:=f1.mono g2
 obtain ⟨w3,rfl,v4,v5,v6,v7,rfl,h8,l0,h0,d0⟩:=f1
 obtain ⟨A9,g1,rfl⟩:=h8.form
 obtain ⟨h1,i1,rfl⟩:=l0.form
 obtain ⟨j1,k1,rfl⟩:=h0.form
 obtain ⟨n0,o0,rfl⟩:=d0.form
 replace m0:=m0.mono g2
 obtain ⟨x3,y3,rfl⟩:=m0.form
 refine AH Tryz.func11 rfl Tryz.ntmps11 rfl ?_
 unfold GK at hm
 refine Ab (Aa (Cd 2 O rfl rfl fun l1 i2 j2 e0 j0=>?_))
 replace j0:Lc 2 i2 j2 l1 26 [(.slice A9 x0.vars.length g1),(.slice h1 x0.init.length i1),(.slice j1 x0.goal.length k1),(.slice n0 x0.jobs.length o0)]:=j0
 refine Al rfl rfl (o_z ?_)
 refine Ab (Ab ?_)
 obtain ⟨k2,a0,hm⟩:=bs hm
 refine Az (fun l' w'=>∃ (l2:Unit) (O':Lab),subs l' [(2,(.pointer (some ⟨l1,0,none⟩))),(27,(.bool k2))]∧Bs w A w' O'∧Lc 2 w' O' l1 26 [(.slice A9 x0.vars.length g1),(.slice h1 x0.init.length i1),(.slice j1 x0.goal.length k1),(.slice n0 x0.jobs.length o0)]∧Vb w' (Fr 0 w' O') (.slice A9 x0.vars.length g1) x0.vars∧Vb w' (Fr 0 w' O') (.slice h1 x0.init.length i1) x0.init∧Vb w' (Fr 0 w' O') (.slice j1 x0.goal.length k1) x0.goal∧Vb w' (Fr 0 w' O') (.slice n0 x0.jobs.length o0) x0.jobs) ?_ ?_
 ·
  refine Aa (AC rfl rfl (AA (hc:=Blk.cell (i:=0) (j0.1) rfl) rfl rfl ?_))
  refine AV rfl rfl ?_
  replace h8:=h8.st e0
  have m2:x0.vars.length≤9223372036854775807:=Nat.le_trans h8.len.2.1 h8.len.2.2
  have z3:inI64 (x0.vars.length:Int):=rngNat m2
  refine Dg rfl rfl rfl (fun m1=>?_) fun m1=>?_
  ·
   replace a0:=ip a0 m1
   refine Ak rfl rfl (Am rfl rfl rfl rfl (Am rfl rfl rfl rfl (Am rfl rfl rfl rfl (Am rfl rfl rfl rfl (BN rfl rfl rfl (Ak rfl rfl (Am rfl rfl rfl rfl (Am rfl rfl rfl rfl (Am rfl rfl rfl rfl (BN rfl rfl rfl (Ak rfl rfl (Am rfl rfl rfl rfl (Am rfl rfl rfl rfl (Am rfl rfl rfl rfl ?_))))))))))))))
   refine Am rfl rfl rfl rfl (BN rfl rfl rfl (o_z ?_))
   obtain rfl:=sm a0
   exact ⟨(),_,⟨rfl,rfl,trivial⟩,hB.st e0,j0,h8,l0.st e0,h0.st e0,d0.st e0⟩
  replace a0:=im a0 m1
  refine Ak rfl rfl (An rfl rfl (AC rfl rfl (An rfl rfl (AA (hc:=Blk.cell (i:=3) (j0.1) rfl) rfl rfl ?_))))
  refine An rfl rfl (AV rfl rfl ?_)
  replace d0:=d0.st e0
  have n2:x0.jobs.length≤9223372036854775807:=Nat.le_trans d0.len.2.1 d0.len.2.2
  have a4:inI64 (x0.jobs.length:Int):=rngNat n2
  refine An rfl rfl (Dg rfl rfl rfl (fun n1=>?_) fun n1=>?_)
  ·
   replace a0:=ip a0 n1
   refine BI rfl rfl rfl (Ak rfl rfl (Am rfl rfl rfl rfl (Am rfl rfl rfl rfl (Am rfl rfl rfl rfl (BN rfl rfl rfl (Ak rfl rfl (Am rfl rfl rfl rfl (Am rfl rfl rfl rfl (Am rfl rfl rfl rfl (Am rfl rfl rfl rfl (BN rfl rfl rfl (o_z ?_))))))))))))
   obtain rfl:=sm a0
   exact ⟨(),_,⟨rfl,rfl,trivial⟩,hB.st e0,j0,h8,l0.st e0,h0.st e0,d0⟩
  replace a0:=im a0 n1
  refine BI rfl rfl rfl (Ak rfl rfl (An rfl rfl (Ak rfl rfl (An rfl rfl (AV rfl rfl ?_)))))
  replace m0:=m0.st e0
  have o2:x1.length≤9223372036854775807:=Nat.le_trans m0.len.2.1 m0.len.2.2
  have b4:inI64 (x1.length:Int):=rngNat o2
  refine An rfl rfl (Dg rfl rfl rfl (fun o1=>?_) fun o1=>?_)
  ·
   replace a0:=ip a0 o1
   refine BI rfl rfl rfl (Ak rfl rfl (Am rfl rfl rfl rfl (Am rfl rfl rfl rfl (Am rfl rfl rfl rfl (Am rfl rfl rfl rfl (BN rfl rfl rfl (o_z ?_)))))))
   obtain rfl:=sm a0
   exact ⟨(),_,⟨rfl,rfl,trivial⟩,hB.st e0,j0,h8,l0.st e0,h0.st e0,d0⟩
  replace a0:=im a0 o1
  refine BI rfl rfl rfl (Ak rfl rfl (An rfl rfl (AC rfl rfl (An rfl rfl (AA (hc:=Blk.cell (i:=2) (j0.1) rfl) rfl rfl ?_)))))
  refine An rfl rfl (AV rfl rfl ?_)
  replace h0:=h0.st e0
  have p2:x0.goal.length≤9223372036854775807:=Nat.le_trans h0.len.2.1 h0.len.2.2
  have c4:inI64 (x0.goal.length:Int):=rngNat p2
  refine An rfl rfl (Dg rfl rfl rfl (fun p1=>?_) fun p1=>?_)
  ·
   replace a0:=ip a0 p1
   refine BI rfl rfl rfl (o_z ?_)
   obtain rfl:=sm a0
   exact ⟨(),_,⟨rfl,rfl,trivial⟩,hB.st e0,j0,h8,l0.st e0,h0,d0⟩
  replace a0:=im a0 p1
  refine BI rfl rfl rfl (o_z ?_)
  obtain rfl:=sm a0
  exact ⟨(),_,⟨rfl,rfl,trivial⟩,hB.st e0,j0,h8,l0.st e0,h0,d0⟩
 replace hB:=hB.st e0
 replace h8:=h8.st e0
 replace l0:=l0.st e0
 replace h0:=h0.st e0
 replace d0:=d0.st e0
 rintro d4 e4 ⟨l2,q2,q1,hB,j0,h8,l0,h0,d0⟩
 refine AF _ q1 ?_
 refine CD rfl (fun r1=>?_) (fun r1=>?_)
 ·
  replace hm:=ip hm r1
  refine Ab (Aa (Al rfl rfl (o_z ?_)))
  refine AD ?_
  obtain rfl:=sm hm
  exact ret1v rfl (At rfl) ⟨hB.ext,vBool⟩
 replace hm:=im' hm r1
 refine AM (Ab (Ab (Aa (AC rfl rfl (AA (hc:=Blk.cell (i:=3) (j0.1) rfl) rfl rfl ?_)))))
 refine AV rfl rfl ?_
 have s1:x0.jobs.length≤9223372036854775807:=Nat.le_trans d0.len.2.1 d0.len.2.2
 have f4:inI64 (x0.jobs.length:Int):=rngNat s1
 refine Ak rfl rfl (o_z ?_)
 obtain ⟨t0,t1,hm⟩:=bs hm
 refine Az (aft t0 (fun (d1:Unit) (e1:Unit)=>[]) (fun d1 e1 w'=>∃ O':Lab,Bs w A w' O')) ?_ ?_
 ·
  refine AK (Bq (σ:=Unit) (X:=Unit) (x0.jobs.length) t1 rfl s1 (fun (d1:Unit) (e1:Unit)=>[(29,(.slice n0 x0.jobs.length o0))]) _ (fun d1 e1 w'=>∃ O':Lab,Bs w A w' O'∧Vb w' (Fr 0 w' O') (.slice n0 x0.jobs.length o0) x0.jobs) _ () ⟨q2,hB,d0⟩ ⟨rfl,rfl,rfl,trivial⟩ (fun _ _=>⟨rfl,rfl⟩) (fun _ _=>trivial) (fun _ _ _ ⟨O',hB,d0⟩=>⟨O',hB⟩) ⟨rfl,rfl,rfl⟩ ⟨rfl,rfl⟩ ?_)
  rintro h2 f0 d1 e1 g4 r2 u0 ⟨s2,hB,d0⟩ g0 p0 u1
  have rk54:inI64 (h2:Int):=rngK u0 s1
  refine Ab (Aa ?_)
  obtain ⟨h4,i4,t2,v1,w1,y1,j4,k4,l4,m4,n4,rfl,v0,w0,y0,z0,a1,u2,o4⟩:=d0.elem' u0
  obtain ⟨v2,w2,rfl⟩:=v0.form
  obtain ⟨x2,y2,rfl⟩:=w0.form
  obtain ⟨z2,a3,rfl⟩:=y0.form
  obtain ⟨b3,c3,rfl⟩:=z0.form
  obtain ⟨d3,e3,rfl⟩:=a1.form
  refine BB (hA:=v1) (hj:=rfl) (hlt:=w1) rfl rfl rfl ?_
  refine Bv (hl:=rfl) (hc:=y1) rfl rfl ?_
  refine AR 3 s2 rfl fun f3 p4 g3 i0 k0=>?_
  refine AB k0 rfl rfl rfl (AJ rfl) (allOne rfl) fun h3 c0 k0=>?_
  replace k0:Lc 3 h3 g3 f3 66 [(.string f0.name),(.int .i64 f0.dur),(.slice v2 f0.start.length w2),(.slice x2 f0.over.length y2),(.slice z2 f0.fin.length a3),(.slice b3 f0.atStart.length c3),(.slice d3 f0.atEnd.length e3)]:=k0
  refine o_z ?_
  refine Ab ?_
  obtain ⟨z1,b0,g0⟩:=bs g0
  refine Az (fun l' w'=>∃ (a2:Unit) (O':Lab),subs l' [(29,(.slice n0 x0.jobs.length o0)),(30,(.int .i64 (x0.jobs.length:Int))),(31,(.int .i64 (h2:Int))),(60,(.bool z1))]∧Bs w A w' O'∧Vb w' (Fr 0 w' O') (.slice n0 x0.jobs.length o0) x0.jobs) ?_ ?_
  ·
   refine Aa (AC rfl rfl (AA (hc:=Blk.cell (i:=2) (k0.1) rfl) rfl rfl ?_))
   refine AV rfl rfl ?_
   replace v0:=(v0.st i0).st c0
   have b2:f0.start.length≤9223372036854775807:=Nat.le_trans v0.len.2.1 v0.len.2.2
   have i3:inI64 (f0.start.length:Int):=rngNat b2
   refine AC rfl rfl (AA (hc:=Blk.cell (i:=3) (k0.1) rfl) rfl rfl ?_)
   refine AV rfl rfl ?_
   replace w0:=(w0.st i0).st c0
   have c2:f0.over.length≤9223372036854775807:=Nat.le_trans w0.len.2.1 w0.len.2.2
   have j3:inI64 (f0.over.length:Int):=rngNat c2
   refine Oo rfl rfl rfl ?_
   refine AC rfl rfl (AA (hc:=Blk.cell (i:=4) (k0.1) rfl) rfl rfl ?_)
   refine AV rfl rfl ?_
   replace y0:=(y0.st i0).st c0
   have d2:f0.fin.length≤9223372036854775807:=Nat.le_trans y0.len.2.1 y0.len.2.2
   have k3:inI64 (f0.fin.length:Int):=rngNat d2
   refine Oo rfl rfl rfl ?_
   refine AC rfl rfl (AA (hc:=Blk.cell (i:=5) (k0.1) rfl) rfl rfl ?_)
   refine AV rfl rfl ?_
   replace z0:=(z0.st i0).st c0
   have e2:f0.atStart.length≤9223372036854775807:=Nat.le_trans z0.len.2.1 z0.len.2.2
   have l3:inI64 (f0.atStart.length:Int):=rngNat e2
   refine Oo rfl rfl rfl ?_
   refine AC rfl rfl (AA (hc:=Blk.cell (i:=6) (k0.1) rfl) rfl rfl ?_)
   refine AV rfl rfl ?_
   replace a1:=(a1.st i0).st c0
   have f2:f0.atEnd.length≤9223372036854775807:=Nat.le_trans a1.len.2.1 a1.len.2.2
   have m3:inI64 (f0.atEnd.length:Int):=rngNat f2
   refine Oo rfl rfl rfl ?_
   refine Dg rfl rfl rfl (fun q0=>?_) fun q0=>?_
   ·
    replace b0:=ip b0 q0
    refine Ak rfl rfl (Am rfl rfl rfl rfl (Am rfl rfl rfl rfl (Am rfl rfl rfl rfl (Am rfl rfl rfl rfl (BN rfl rfl rfl (o_z ?_))))))
    obtain rfl:=sm b0
    exact ⟨(),_,⟨rfl,rfl,rfl,rfl,trivial⟩,(hB.st i0).st c0,(d0.st i0).st c0⟩
   replace b0:=im b0 q0
   refine Ak rfl rfl (An rfl rfl (AC rfl rfl (An rfl rfl (AA (hc:=Blk.cell (i:=0) (k0.1) rfl) rfl rfl ?_))))
   refine An rfl rfl (Nb rfl rfl ?_)
   have n3:inI64 (f0.name.size:Int):=rngNat u2
   refine An rfl rfl (Dg rfl rfl rfl (fun r0=>?_) fun r0=>?_)
   ·
    replace b0:=ip b0 r0
    refine BI rfl rfl rfl (o_z ?_)
    obtain rfl:=sm b0
    exact ⟨(),_,⟨rfl,rfl,rfl,rfl,trivial⟩,(hB.st i0).st c0,(d0.st i0).st c0⟩
   replace b0:=im b0 r0
   refine BI rfl rfl rfl (o_z ?_)
   obtain rfl:=sm b0
   exact ⟨(),_,⟨rfl,rfl,rfl,rfl,trivial⟩,(hB.st i0).st c0,(d0.st i0).st c0⟩
  replace hB:=(hB.st i0).st c0
  replace d0:=(d0.st i0).st c0
  rintro o3 p3 ⟨a2,q3,b1,hB,d0⟩
  refine AF _ b1 ?_
  refine CD rfl (fun s0=>?_) (fun s0=>?_)
  ·
   replace g0:=ip g0 s0
   refine Ab (Aa (Al rfl rfl (o_z ?_)))
   refine AD ?_
   obtain rfl:=sm g0
   obtain rfl:=p0 _ rfl
   obtain rfl:=sm (CF hm)
   exact ret1v rfl (At rfl) ⟨hB.ext,vBool⟩
  replace g0:=im' g0 s0
  refine AM ?_
  obtain rfl:=sm g0
  exact show Exists _ from ⟨_,(),rfl,⟨rfl,rfl,rfl,trivial⟩,_,hB,d0⟩
 rintro r3 s3 ⟨t3,u3,rfl,c1,v3,hB⟩
 replace hm:=AW hm
 refine AF _ c1 ?_
 refine Ab (Aa (Al rfl rfl (o_z ?_)))
 refine AD ?_
 obtain rfl:=sm hm
 exact ret1v rfl (At rfl) ⟨hB.ext,vBool⟩
noncomputable def EM (x0:Tpl) (x1:List Lch):Option Bool :=
  bnd (bnd (EF) fun q31=>if q31=true then bnd (GK x0 x1) fun q38=>if q38=true then if (x0.jobs.length:Int)=0 then (some true) else (some false) else some true else some true:Option Bool) fun y27=>if y27=true then (bnd (bnd (EF) fun q57=>if q57=true then some true else some false:Option Bool) fun y53=>some y53) else (bnd (rng (ρ:=Bool) (fun (k74:Nat) (a75:Lch) (s72:Unit)=>if 200 < a75.tm then (some (.ret true)) else (some (.next ()))) x1 0 ()) fun res70=>fin res70 fun (s106:Unit)=>bnd (Ct x0 x1) fun q108=>if q108.2.n≠0 then (some true) else (bnd (BK x0) fun q123=>if q123.2.n≠0 then (some false) else (bnd (chkI (2 * (x0.jobs.length:Int))) fun n162=>bnd (chkI (2 * (x0.jobs.length:Int))) fun n173=>bnd (chkI (n173 + 1)) fun n176=>bnd (rng (ρ:=Bool) (fun (k185:Nat) (a186:Job) (s183:(List Int)×Int)=>bnd (appI 8 s183.1 [s183.2]) fun u238=>bnd (chkI (a186.dur + 1)) fun n250=>bnd (chkI (s183.2 + n250)) fun n253=>some (.next (u238,n253))) x0.jobs 0 (([n162]:List Int),n176)) fun res181=>fin res181 fun (s260:(List Int)×Int)=>bnd (appI 8 s260.1 [s260.2]) fun u262=>bnd (appI 8 u262 q108.1) fun u274=>bnd (FW q123.1 q123.1.init q108.1) fun q285=>bnd (FW q123.1 q123.1.init u274) fun q297=>bnd (DE x0 u274) fun q311=>bnd (if (!q285.2)=true then (some true) else (if (!q297.2)=true then (some true) else (bnd (chkI (q285.1 + 1)) fun n331=>if q297.1≠n331 then (some true) else (if q311.2.n≠0 then (some true) else (if (q311.1.length:Int)≠(x1.length:Int) then (some true) else (some false))))):Option Bool) fun y325=>if y325=true then (some false) else (bnd (Fy x1) fun q346=>bnd (rng (ρ:=Bool) (fun (k361:Nat) (a362:Lch) (s359:Unit)=>bnd (bnd (q311.1[k361]?) fun a392=>if a392.job≠a362.job then (some true) else (bnd (q311.1[k361]?) fun a404=>bnd (chkI (a362.tm + 1)) fun n415=>if a404.tm≠n415 then (some true) else (some false)):Option Bool) fun y388=>if y388=true then (some (.ret false)) else (some (.next ()))) q346 0 ()) fun res357=>fin res357 fun (s428:Unit)=>some true))))
theorem Ke {w:World} {A:Nat→Prop} (hA:∀ k,A k→k < w.heap.size) {vx0:Value} {x0:Tpl} (y5:Vb w A vx0 x0) {vx1:Value} {x1:List Lch} (i0:Vb w A vx1 x1) {r:Bool} (hm:EM x0 x1=some r) :
    Fn Tryz.prog 8 [vx0,vx1] w fun v w'=>Ext w w'∧Vb w' (upA A w w') v r:=by
 obtain ⟨O,hB,l9⟩:=enter hA
 replace y5:=y5.mono l9
 obtain ⟨aF,rfl,v4,v5,v6,v7,rfl,h8,w0,y0,l0⟩:=y5
 obtain ⟨A9,w1,rfl⟩:=h8.form
 obtain ⟨y1,z1,rfl⟩:=w0.form
 obtain ⟨a2,b2,rfl⟩:=y0.form
 obtain ⟨t1,u1,rfl⟩:=l0.form
 replace i0:=i0.mono l9
 obtain ⟨o2,p2,rfl⟩:=i0.form
 refine AH Tryz.func8 rfl Tryz.ntmps8 rfl ?_
 unfold EM at hm
 refine Ab (Aa (Cd 2 O rfl rfl fun u2 m9 n9 o1 o0=>?_))
 replace o0:Lc 2 m9 n9 u2 26 [(.slice A9 x0.vars.length w1),(.slice y1 x0.init.length z1),(.slice a2 x0.goal.length b2),(.slice t1 x0.jobs.length u1)]:=o0
 refine Al rfl rfl (o_z ?_)
 refine Ab (Ab ?_)
 obtain ⟨bA,n0,hm⟩:=bs hm
 refine Az (fun l' w'=>∃ (cA:Unit) (O':Lab),subs l' [(1,(.slice o2 x1.length p2)),(2,(.pointer (some ⟨u2,0,none⟩))),(34,(.bool bA))]∧Bs w A w' O'∧Vb w' (Fr 0 w' O') (.slice o2 x1.length p2) x1∧Lc 2 w' O' u2 26 [(.slice A9 x0.vars.length w1),(.slice y1 x0.init.length z1),(.slice a2 x0.goal.length b2),(.slice t1 x0.jobs.length u1)]∧Vb w' (Fr 0 w' O') (.slice A9 x0.vars.length w1) x0.vars∧Vb w' (Fr 0 w' O') (.slice y1 x0.init.length z1) x0.init∧Vb w' (Fr 0 w' O') (.slice a2 x0.goal.length b2) x0.goal∧Vb w' (Fr 0 w' O') (.slice t1 x0.jobs.length u1) x0.jobs) ?_ ?_
 ·
  refine Aa ?_
  obtain ⟨o9,dA,n0⟩:=bs n0
  refine AI (O:=n9) (A:=All m9) (R:=fun w' F v=>Vb w' F v o9) (Kp (fun _ h=>h)  dA) rfl rfl fun bF z5 a6 v1 eA=>?_
  obtain rfl:=eA.bool
  cases o9
  case false =>
   replace n0:=iF n0
   refine Fu rfl rfl (Ak rfl rfl (Am rfl rfl rfl rfl (Am rfl rfl rfl rfl (Am rfl rfl rfl rfl (Am rfl rfl rfl rfl (BN rfl rfl rfl (Ak rfl rfl (Am rfl rfl rfl rfl (Am rfl rfl rfl rfl (Am rfl rfl rfl rfl (Am rfl rfl rfl rfl (BN rfl rfl rfl (o_z ?_)))))))))))))
   obtain rfl:=sm n0
   exact ⟨(),_,⟨rfl,rfl,rfl,trivial⟩,(hB.st o1).st v1,(i0.st o1).st v1,o0.st v1,(h8.st o1).st v1,(w0.st o1).st v1,(y0.st o1).st v1,(l0.st o1).st v1⟩
  replace n0:=iT n0
  refine Ft rfl rfl (Ak rfl rfl (An rfl rfl ?_))
  replace o0:=o0.st v1
  refine Bv (hl:=rfl) (hc:=(o0.1).cellsAt) rfl rfl ?_
  refine An rfl rfl (Ak rfl rfl (An rfl rfl ?_))
  obtain ⟨p9,fA,n0⟩:=bs n0
  replace i0:=(i0.st o1).st v1
  replace h8:=(h8.st o1).st v1
  replace w0:=(w0.st o1).st v1
  replace y0:=(y0.st o1).st v1
  replace l0:=(l0.st o1).st v1
  refine AI (O:=a6) (A:=All z5) (R:=fun w' F v=>Vb w' F v p9) (PA (fun _ h=>h) (Vb.mono (F:=Fr 0 z5 a6) (Vb.ofAgg (cs:=[(.slice A9 x0.vars.length w1),(.slice y1 x0.init.length z1),(.slice a2 x0.goal.length b2),(.slice t1 x0.jobs.length u1)]) (x:=x0) rfl ⟨_,_,_,_,rfl,h8,w0,y0,l0⟩) Fr.lt) (Vb.mono (F:=Fr 0 z5 a6) i0 Fr.lt) fA) rfl rfl fun cF dF eF p1 gA=>?_
  obtain rfl:=gA.bool
  cases p9
  case false =>
   replace n0:=iF n0
   refine An rfl rfl (Fu rfl rfl (BI rfl rfl rfl (Ak rfl rfl (Am rfl rfl rfl rfl (Am rfl rfl rfl rfl (Am rfl rfl rfl rfl (Am rfl rfl rfl rfl (BN rfl rfl rfl (o_z ?_)))))))))
   obtain rfl:=sm n0
   exact ⟨(),_,⟨rfl,rfl,rfl,trivial⟩,((hB.st o1).st v1).st p1,i0.st p1,o0.st p1,h8.st p1,w0.st p1,y0.st p1,l0.st p1⟩
  replace n0:=iT n0
  refine An rfl rfl (Ft rfl rfl (BI rfl rfl rfl (Ak rfl rfl (An rfl rfl (AC rfl rfl (An rfl rfl ?_))))))
  replace o0:=o0.st p1
  refine AA (hc:=Blk.cell (i:=3) (o0.1) rfl) rfl rfl ?_
  refine An rfl rfl (AV rfl rfl ?_)
  replace l0:=l0.st p1
  have iA:x0.jobs.length≤9223372036854775807:=Nat.le_trans l0.len.2.1 l0.len.2.2
  have fF:inI64 (x0.jobs.length:Int):=rngNat iA
  refine An rfl rfl (Id rfl rfl rfl (fun b6=>?_) fun b6=>?_)
  ·
   replace n0:=ip n0 b6
   refine BI rfl rfl rfl (o_z ?_)
   obtain rfl:=sm n0
   exact ⟨(),_,⟨rfl,rfl,rfl,trivial⟩,((hB.st o1).st v1).st p1,i0.st p1,o0,h8.st p1,w0.st p1,y0.st p1,l0⟩
  replace n0:=im n0 b6
  refine BI rfl rfl rfl (o_z ?_)
  obtain rfl:=sm n0
  exact ⟨(),_,⟨rfl,rfl,rfl,trivial⟩,((hB.st o1).st v1).st p1,i0.st p1,o0,h8.st p1,w0.st p1,y0.st p1,l0⟩
 replace hB:=hB.st o1
 replace i0:=i0.st o1
 replace h8:=h8.st o1
 replace w0:=w0.st o1
 replace y0:=y0.st o1
 replace l0:=l0.st o1
 rintro gF jA ⟨cA,q9,c6,hB,i0,o0,h8,w0,y0,l0⟩
 refine AF _ c6 ?_
 refine CD rfl (fun d6=>?_) (fun d6=>?_)
 ·
  replace hm:=ip hm d6
  refine Ab ?_
  obtain ⟨kA,r1,hm⟩:=bs hm
  refine Az (fun l' w'=>∃ (lA:Unit) (O':Lab),subs l' [(4,(.bool kA))]∧Bs w A w' O') ?_ ?_
  ·
   refine Aa ?_
   obtain ⟨r9,mA,r1⟩:=bs r1
   refine AI (O:=q9) (A:=All jA) (R:=fun w' F v=>Vb w' F v r9) (Kp (fun _ h=>h)  mA) rfl rfl fun hF jF kF s9 nA=>?_
   obtain rfl:=nA.bool
   cases r9
   case false =>
    replace r1:=iF r1
    refine Al rfl rfl (o_z ?_)
    obtain rfl:=sm r1
    exact ⟨(),_,⟨rfl,trivial⟩,hB.st s9⟩
   replace r1:=iT r1
   refine Al rfl rfl (o_z ?_)
   obtain rfl:=sm r1
   exact ⟨(),_,⟨rfl,trivial⟩,hB.st s9⟩
  rintro lF mF ⟨lA,nF,e6,hB⟩
  refine AF _ e6 ?_
  refine AD ?_
  obtain rfl:=sm hm
  exact ret1v rfl (At rfl) ⟨hB.ext,vBool⟩
 replace hm:=im' hm d6
 refine AM (Ab (Ab (Aa (Ak rfl rfl (AV rfl rfl ?_)))))
 have f6:x1.length≤9223372036854775807:=Nat.le_trans i0.len.2.1 i0.len.2.2
 have oF:inI64 (x1.length:Int):=rngNat f6
 refine Ak rfl rfl (o_z ?_)
 obtain ⟨g4,g6,hm⟩:=bs hm
 refine Az (aft g4 (fun (s5:Unit) (t5:Unit)=>[(1,(.slice o2 x1.length p2)),(2,(.pointer (some ⟨u2,0,none⟩)))]) (fun s5 t5 w'=>∃ O':Lab,Bs w A w' O'∧Vb w' (Fr 0 w' O') (.slice o2 x1.length p2) x1∧Lc 2 w' O' u2 26 [(.slice A9 x0.vars.length w1),(.slice y1 x0.init.length z1),(.slice a2 x0.goal.length b2),(.slice t1 x0.jobs.length u1)]∧Vb w' (Fr 0 w' O') (.slice A9 x0.vars.length w1) x0.vars∧Vb w' (Fr 0 w' O') (.slice y1 x0.init.length z1) x0.init∧Vb w' (Fr 0 w' O') (.slice a2 x0.goal.length b2) x0.goal∧Vb w' (Fr 0 w' O') (.slice t1 x0.jobs.length u1) x0.jobs)) ?_ ?_
 ·
  refine AK (Bq (σ:=Unit) (X:=Unit) (x1.length) g6 rfl f6 (fun (s5:Unit) (t5:Unit)=>[(1,(.slice o2 x1.length p2)),(2,(.pointer (some ⟨u2,0,none⟩))),(36,(.slice o2 x1.length p2))]) _ (fun s5 t5 w'=>∃ O':Lab,Bs w A w' O'∧Vb w' (Fr 0 w' O') (.slice o2 x1.length p2) x1∧Lc 2 w' O' u2 26 [(.slice A9 x0.vars.length w1),(.slice y1 x0.init.length z1),(.slice a2 x0.goal.length b2),(.slice t1 x0.jobs.length u1)]∧Vb w' (Fr 0 w' O') (.slice A9 x0.vars.length w1) x0.vars∧Vb w' (Fr 0 w' O') (.slice y1 x0.init.length z1) x0.init∧Vb w' (Fr 0 w' O') (.slice a2 x0.goal.length b2) x0.goal∧Vb w' (Fr 0 w' O') (.slice t1 x0.jobs.length u1) x0.jobs) _ () ⟨q9,hB,i0,o0,h8,w0,y0,l0⟩ ⟨rfl,rfl,rfl,rfl,rfl,trivial⟩ (fun _ _=>⟨rfl,rfl⟩) (fun _ _=>⟨rfl,rfl,trivial⟩) (fun _ _ _ ⟨O',hB,i0,o0,h8,w0,y0,l0⟩=>⟨O',hB,i0,o0,h8,w0,y0,l0⟩) ⟨rfl,rfl,rfl⟩ ⟨rfl,rfl⟩ ?_)
  rintro oA t9 s5 t5 pF pA h4 ⟨qA,hB,i0,o0,h8,w0,y0,l0⟩ q2 l3 h6
  have rk74:inI64 (oA:Int):=rngK h4 f6
  refine Ab (Aa ?_)
  obtain ⟨qF,rF,rA,i6,j6,k6,rfl,sF,tF⟩:=i0.elem' h4
  refine BB (hA:=i6) (hj:=rfl) (hlt:=j6) rfl rfl rfl ?_
  refine Bv (hl:=rfl) (hc:=k6) rfl rfl ?_
  refine AR 3 qA rfl fun sA uF tA i3 i4=>?_
  refine AB i4 rfl rfl rfl (AJ rfl) (allOne rfl) fun uA s1 i4=>?_
  replace i4:Lc 3 uA tA sA 52 [(.int .i64 t9.tm),(.int .i64 t9.job)]:=i4
  refine o_z ?_
  refine Ab (Aa (AC rfl rfl (AA (hc:=Blk.cell (i:=0) (i4.1) rfl) rfl rfl ?_)))
  refine Dg rfl rfl rfl (fun m3=>?_) fun m3=>?_
  ·
   replace q2:=ip q2 m3
   refine o_z ?_
   refine Aj rfl (Ab (Aa (Al rfl rfl (o_z ?_))))
   refine AD ?_
   obtain rfl:=sm q2
   obtain rfl:=l3 _ rfl
   obtain rfl:=sm (CF hm)
   replace hB:=(hB.st i3).st s1
   exact ret1v rfl (At rfl) ⟨hB.ext,vBool⟩
  replace q2:=im q2 m3
  refine o_z ?_
  refine Ah rfl (AM ?_)
  obtain rfl:=sm q2
  exact show Exists _ from ⟨_,(),rfl,⟨rfl,rfl,rfl,rfl,rfl,trivial⟩,_,(hB.st i3).st s1,(i0.st i3).st s1,(o0.st i3).st s1,(h8.st i3).st s1,(w0.st i3).st s1,(y0.st i3).st s1,(l0.st i3).st s1⟩
 rintro vA wA ⟨xA,yA,rfl,j4,l6,hB,i0,o0,h8,w0,y0,l0⟩
 replace hm:=AW hm
 refine AF _ j4 ?_
 refine Ab (Aa (Bv (hl:=rfl) (hc:=(o0.1).cellsAt) rfl rfl ?_))
 refine Ak rfl rfl ?_
 obtain ⟨c2,m6,hm⟩:=bs hm
 refine Ce (O:=l6) (R:=fun w' F v=>T2 w' F v c2) (JC Fr.lt (Vb.ofAgg (cs:=[(.slice A9 x0.vars.length w1),(.slice y1 x0.init.length z1),(.slice a2 x0.goal.length b2),(.slice t1 x0.jobs.length u1)]) (x:=x0) rfl ⟨_,_,_,_,rfl,h8,w0,y0,l0⟩) i0 m6) rfl rfl fun zA aB n6 j1 o6=>?_
 obtain ⟨bB,cB,rfl,r0,p6⟩:=o6
 obtain ⟨z2,a3,rfl⟩:=r0.form
 obtain ⟨rfl,dB⟩:=p6.err
 refine Ak rfl rfl (Db rfl rfl rfl (Db rfl rfl rfl (Al rfl rfl (Al rfl rfl (o_z ?_)))))
 refine Ab (Ab (Aa (Ak rfl rfl (Gf rfl rfl (fun n3=>?_) fun n3=>?_))))
 ·
  replace hm:=ip hm n3
  refine o_z ?_
  refine Aj rfl (Ab (Aa (Al rfl rfl (o_z ?_))))
  refine AD ?_
  obtain rfl:=sm hm
  replace hB:=hB.st j1
  exact ret1v rfl (At rfl) ⟨hB.ext,vBool⟩
 replace hm:=im hm n3
 refine o_z ?_
 refine Ah rfl (AM (Ab (Aa ?_)))
 replace o0:=o0.st j1
 refine Bv (hl:=rfl) (hc:=(o0.1).cellsAt) rfl rfl ?_
 obtain ⟨b0,q6,hm⟩:=bs hm
 replace h8:=h8.st j1
 replace w0:=w0.st j1
 replace y0:=y0.st j1
 replace l0:=l0.st j1
 refine Ce (O:=n6) (R:=fun w' F v=>T2 w' F v b0) (Fo Fr.lt (Vb.ofAgg (cs:=[(.slice A9 x0.vars.length w1),(.slice y1 x0.init.length z1),(.slice a2 x0.goal.length b2),(.slice t1 x0.jobs.length u1)]) (x:=x0) rfl ⟨_,_,_,_,rfl,h8,w0,y0,l0⟩) q6) rfl rfl fun eB fB r6 z0 s6=>?_
 obtain ⟨gB,iB,rfl,t6,u6⟩:=s6
 obtain ⟨u9,rfl,jB,kB,lB,mB,rfl,s0,p0,t0,u0⟩:=t6
 obtain ⟨d2,e2,rfl⟩:=s0.form
 obtain ⟨f2,g2,rfl⟩:=p0.form
 obtain ⟨h2,i2,rfl⟩:=t0.form
 obtain ⟨j2,k2,rfl⟩:=u0.form
 obtain ⟨rfl,nB⟩:=u6.err
 refine Ak rfl rfl (Db rfl rfl rfl (Db rfl rfl rfl (AR 4 r6 rfl fun v2 oB k4 j0 m0=>?_)))
 refine AB m0 rfl rfl rfl (AJ rfl) (allOne rfl) fun w6 k0 m0=>?_
 replace m0:Lc 4 w6 k4 v2 31 [(.slice d2 b0.1.vars.length e2),(.slice f2 b0.1.init.length g2),(.slice h2 b0.1.goal.length i2),(.slice j2 b0.1.ops.length k2)]:=m0
 refine Al rfl rfl (o_z ?_)
 refine Ab (Ab (Aa (Ak rfl rfl (Gf rfl rfl (fun o3=>?_) fun o3=>?_))))
 ·
  replace hm:=ip hm o3
  refine o_z ?_
  refine Aj rfl (Ab (Aa (Al rfl rfl (o_z ?_))))
  refine AD ?_
  obtain rfl:=sm hm
  replace hB:=(((hB.st j1).st z0).st j0).st k0
  exact ret1v rfl (At rfl) ⟨hB.ext,vBool⟩
 replace hm:=im hm o3
 refine o_z ?_
 refine Ah rfl (AM (Ab (Aa (AC rfl rfl ?_))))
 replace o0:=((o0.st z0).st j0).st k0
 refine AA (hc:=Blk.cell (i:=3) (o0.1) rfl) rfl rfl ?_
 refine AV rfl rfl ?_
 replace l0:=((l0.st z0).st j0).st k0
 have x6:x0.jobs.length≤9223372036854775807:=Nat.le_trans l0.len.2.1 l0.len.2.2
 have pB:inI64 (x0.jobs.length:Int):=rngNat x6
 obtain ⟨y6,l4,hm⟩:=bs hm
 have z6:=(Bb l4)
 refine Hl (he:=l4) rfl rfl rfl ?_
 refine AN 5 (by decide) k4 (xs:=(([y6]:List Int):List Int)) rfl rfl rfl rfl ⟨(vInt z6),trivial⟩ (by decide) (by decide) rfl fun a7 qB b7 e0 c7=>?_
 refine Al rfl rfl (o_z ?_)
 refine Ab (Aa (AC rfl rfl ?_))
 replace o0:=o0.st e0
 refine AA (hc:=Blk.cell (i:=3) (o0.1) rfl) rfl rfl ?_
 refine AV rfl rfl ?_
 replace l0:=l0.st e0
 have d7:x0.jobs.length≤9223372036854775807:=Nat.le_trans l0.len.2.1 l0.len.2.2
 have rB:inI64 (x0.jobs.length:Int):=rngNat d7
 obtain ⟨sB,m4,hm⟩:=bs hm
 have tB:=(Bb m4)
 refine Hl (he:=m4) rfl rfl rfl ?_
 obtain ⟨uB,n4,hm⟩:=bs hm
 have e7:=(Bb n4)
 refine Dx (he:=n4) rfl rfl rfl ?_
 refine Al rfl rfl (o_z ?_)
 refine Ab (Ab (Aa (AC rfl rfl (AA (hc:=Blk.cell (i:=3) (o0.1) rfl) rfl rfl ?_))))
 refine AV rfl rfl ?_
 have p3:x0.jobs.length≤9223372036854775807:=Nat.le_trans l0.len.2.1 l0.len.2.2
 have vB:inI64 (x0.jobs.length:Int):=rngNat p3
 refine Ak rfl rfl (o_z ?_)
 obtain ⟨q3,o4,hm⟩:=bs hm
 refine Az (aft q3 (fun (a1:(List Int)×Int) (h1:(Option Addr×Nat))=>[(1,(.slice o2 x1.length p2)),(2,(.pointer (some ⟨u2,0,none⟩))),(7,(.slice z2 c2.1.length a3)),(9,(.pointer (some ⟨v2,0,none⟩))),(10,(.slice h1.1 a1.1.length h1.2)),(11,(.int .i64 a1.2))]) (fun a1 h1 w'=>∃ O':Lab,Bs w A w' O'∧Vb w' (Fr 0 w' O') (.slice o2 x1.length p2) x1∧Lc 2 w' O' u2 26 [(.slice A9 x0.vars.length w1),(.slice y1 x0.init.length z1),(.slice a2 x0.goal.length b2),(.slice t1 x0.jobs.length u1)]∧Vb w' (Fr 0 w' O') (.slice A9 x0.vars.length w1) x0.vars∧Vb w' (Fr 0 w' O') (.slice y1 x0.init.length z1) x0.init∧Vb w' (Fr 0 w' O') (.slice a2 x0.goal.length b2) x0.goal∧Vb w' (Fr 0 w' O') (.slice t1 x0.jobs.length u1) x0.jobs∧Vb w' (Fr 0 w' O') (.slice z2 c2.1.length a3) c2.1∧Lc 4 w' O' v2 31 [(.slice d2 b0.1.vars.length e2),(.slice f2 b0.1.init.length g2),(.slice h2 b0.1.goal.length i2),(.slice j2 b0.1.ops.length k2)]∧Vb w' (Fr 0 w' O') (.slice d2 b0.1.vars.length e2) b0.1.vars∧Vb w' (Fr 0 w' O') (.slice f2 b0.1.init.length g2) b0.1.init∧Vb w' (Fr 0 w' O') (.slice h2 b0.1.goal.length i2) b0.1.goal∧Vb w' (Fr 0 w' O') (.slice j2 b0.1.ops.length k2) b0.1.ops∧Rw 5 w' O' 3 (.slice h1.1 a1.1.length h1.2) a1.1∧inI64 a1.2)) ?_ ?_
 ·
  refine AK ?_
  replace hB:=((((hB.st j1).st z0).st j0).st k0).st e0
  replace i0:=((((i0.st j1).st z0).st j0).st k0).st e0
  replace h8:=(((h8.st z0).st j0).st k0).st e0
  replace w0:=(((w0.st z0).st j0).st k0).st e0
  replace y0:=(((y0.st z0).st j0).st k0).st e0
  replace r0:=(((r0.st z0).st j0).st k0).st e0
  replace s0:=((s0.st j0).st k0).st e0
  replace p0:=((p0.st j0).st k0).st e0
  replace t0:=((t0.st j0).st k0).st e0
  replace u0:=((u0.st j0).st k0).st e0
  replace m0:=m0.st e0
  refine Bq (σ:=(List Int)×Int) (X:=(Option Addr×Nat)) (x0.jobs.length) o4 rfl p3 (fun (a1:(List Int)×Int) (h1:(Option Addr×Nat))=>[(1,(.slice o2 x1.length p2)),(2,(.pointer (some ⟨u2,0,none⟩))),(7,(.slice z2 c2.1.length a3)),(9,(.pointer (some ⟨v2,0,none⟩))),(10,(.slice h1.1 a1.1.length h1.2)),(11,(.int .i64 a1.2)),(72,(.slice t1 x0.jobs.length u1))]) _ (fun a1 h1 w'=>∃ O':Lab,Bs w A w' O'∧Vb w' (Fr 0 w' O') (.slice o2 x1.length p2) x1∧Lc 2 w' O' u2 26 [(.slice A9 x0.vars.length w1),(.slice y1 x0.init.length z1),(.slice a2 x0.goal.length b2),(.slice t1 x0.jobs.length u1)]∧Vb w' (Fr 0 w' O') (.slice A9 x0.vars.length w1) x0.vars∧Vb w' (Fr 0 w' O') (.slice y1 x0.init.length z1) x0.init∧Vb w' (Fr 0 w' O') (.slice a2 x0.goal.length b2) x0.goal∧Vb w' (Fr 0 w' O') (.slice t1 x0.jobs.length u1) x0.jobs∧Vb w' (Fr 0 w' O') (.slice z2 c2.1.length a3) c2.1∧Lc 4 w' O' v2 31 [(.slice d2 b0.1.vars.length e2),(.slice f2 b0.1.init.length g2),(.slice h2 b0.1.goal.length i2),(.slice j2 b0.1.ops.length k2)]∧Vb w' (Fr 0 w' O') (.slice d2 b0.1.vars.length e2) b0.1.vars∧Vb w' (Fr 0 w' O') (.slice f2 b0.1.init.length g2) b0.1.init∧Vb w' (Fr 0 w' O') (.slice h2 b0.1.goal.length i2) b0.1.goal∧Vb w' (Fr 0 w' O') (.slice j2 b0.1.ops.length k2) b0.1.ops∧Rw 5 w' O' 3 (.slice h1.1 a1.1.length h1.2) a1.1∧inI64 a1.2) _ ((some ⟨a7,0,none⟩),1) ⟨b7,hB,i0,o0,h8,w0,y0,l0,r0,m0,s0,p0,t0,u0,c7,e7⟩ ⟨rfl,rfl,rfl,rfl,rfl,rfl,rfl,rfl,rfl,trivial⟩ (fun _ _=>⟨rfl,rfl⟩) (fun _ _=>⟨rfl,rfl,rfl,rfl,rfl,rfl,trivial⟩) (fun _ _ _ ⟨O',hB,i0,o0,h8,w0,y0,l0,r0,m0,s0,p0,t0,u0,l2,w2⟩=>⟨O',hB,i0,o0,h8,w0,y0,l0,r0,m0,s0,p0,t0,u0,l2,w2⟩) ⟨rfl,rfl,rfl⟩ ⟨rfl,rfl⟩ ?_
  rintro f7 m2 a1 h1 wB v9 j3 ⟨g7,hB,i0,o0,h8,w0,y0,l0,r0,m0,s0,p0,t0,u0,l2,w2⟩ k1 u5 w5
  have rk185:inI64 (f7:Int):=rngK j3 p3
  refine Ab (Aa ?_)
  obtain ⟨xB,yB,w9,p4,q4,r4,zB,aC,bC,cC,dC,rfl,h7,i7,j7,k7,l7,eC,fC⟩:=l0.elem' j3
  obtain ⟨m7,n7,rfl⟩:=h7.form
  obtain ⟨o7,p7,rfl⟩:=i7.form
  obtain ⟨q7,r7,rfl⟩:=j7.form
  obtain ⟨s7,t7,rfl⟩:=k7.form
  obtain ⟨u7,w7,rfl⟩:=l7.form
  refine BB (hA:=p4) (hj:=rfl) (hlt:=q4) rfl rfl rfl ?_
  refine Bv (hl:=rfl) (hc:=r4) rfl rfl ?_
  refine AR 6 g7 rfl fun x7 gC y7 b1 n2=>?_
  refine AB n2 rfl rfl rfl (AJ rfl) (allOne rfl) fun z7 c1 n2=>?_
  replace n2:Lc 6 z7 y7 x7 66 [(.string m2.name),(.int .i64 m2.dur),(.slice m7 m2.start.length n7),(.slice o7 m2.over.length p7),(.slice q7 m2.fin.length r7),(.slice s7 m2.atStart.length t7),(.slice u7 m2.atEnd.length w7)]:=n2
  refine o_z ?_
  refine Ab (Aa (Ak rfl rfl (Ak rfl rfl ?_)))
  obtain ⟨hC,r3,k1⟩:=bs k1
  obtain ⟨r3,a8,b8⟩:=AP r3
  replace l2:=(l2.st b1).st c1
  refine CB rfl (a:=a1.2) l2 (vInt w2) (fun _=>rfl) rfl (by decide) (by decide) a8 b8 ⟨rfl,rfl⟩ fun iC c8 d8 jC kC d1 s4=>?_
  rw [← r3] at s4 ⊢
  refine Al rfl rfl (o_z ?_)
  refine Aa (Ak rfl rfl (AC rfl rfl ?_))
  replace n2:=n2.st d1
  refine AA (hc:=Blk.cell (i:=1) (n2.1) rfl) rfl rfl ?_
  obtain ⟨lC,t4,k1⟩:=bs k1
  have mC:=(Bb t4)
  refine Dx (he:=t4) rfl rfl rfl ?_
  obtain ⟨nC,u4,k1⟩:=bs k1
  have e8:=(Bb u4)
  refine Dx (he:=u4) rfl rfl rfl ?_
  refine Al rfl rfl (o_z ?_)
  obtain rfl:=sm k1
  exact show Exists _ from ⟨_,(c8,d8),rfl,⟨rfl,rfl,rfl,rfl,rfl,rfl,rfl,rfl,rfl,trivial⟩,_,((hB.st b1).st c1).st d1,((i0.st b1).st c1).st d1,((o0.st b1).st c1).st d1,((h8.st b1).st c1).st d1,((w0.st b1).st c1).st d1,((y0.st b1).st c1).st d1,((l0.st b1).st c1).st d1,((r0.st b1).st c1).st d1,((m0.st b1).st c1).st d1,((s0.st b1).st c1).st d1,((p0.st b1).st c1).st d1,((t0.st b1).st c1).st d1,((u0.st b1).st c1).st d1,s4,e8⟩
 replace hB:=((((hB.st j1).st z0).st j0).st k0).st e0
 replace i0:=((((i0.st j1).st z0).st j0).st k0).st e0
 replace h8:=(((h8.st z0).st j0).st k0).st e0
 replace w0:=(((w0.st z0).st j0).st k0).st e0
 replace y0:=(((y0.st z0).st j0).st k0).st e0
 replace r0:=(((r0.st z0).st j0).st k0).st e0
 replace s0:=((s0.st j0).st k0).st e0
 replace p0:=((p0.st j0).st k0).st e0
 replace t0:=((t0.st j0).st k0).st e0
 replace u0:=((u0.st j0).st k0).st e0
 replace m0:=m0.st e0
 rintro oC pC ⟨f8,qC,rfl,w4,rC,hB,i0,o0,h8,w0,y0,l0,r0,m0,s0,p0,t0,u0,l2,w2⟩
 replace hm:=AW hm
 refine AF _ w4 ?_
 refine Ab (Aa (Ak rfl rfl (Ak rfl rfl ?_)))
 obtain ⟨sC,s3,hm⟩:=bs hm
 obtain ⟨s3,g8,i8⟩:=AP s3
 refine CB rfl (a:=f8.2) l2 (vInt w2) (fun _=>rfl) rfl (by decide) (by decide) g8 i8 ⟨rfl,rfl⟩ fun tC uC vC wC xC f0 x4=>?_
 rw [← s3] at x4 ⊢
 refine Ak rfl rfl ?_
 obtain ⟨yC,t3,hm⟩:=bs hm
 obtain ⟨t3,j8,k8⟩:=AP t3
 replace r0:=r0.st f0
 refine BA rfl x4 (r0.rd) rfl rfl (by decide) j8 k8 rfl fun zC aD b3 c3 g0 q1=>?_
 rw [← t3] at q1 ⊢
 refine Al rfl rfl (o_z ?_)
 refine Ab (Aa ?_)
 replace m0:=(m0.st f0).st g0
 refine Bv (hl:=rfl) (hc:=(m0.1).cellsAt) rfl rfl ?_
 refine AC rfl rfl (AA (hc:=Blk.cell (i:=1) (m0.1) rfl) rfl rfl ?_)
 refine Ak rfl rfl ?_
 obtain ⟨y4,l8,hm⟩:=bs hm
 replace r0:=r0.st g0
 replace s0:=(s0.st f0).st g0
 replace p0:=(p0.st f0).st g0
 replace t0:=(t0.st f0).st g0
 replace u0:=(u0.st f0).st g0
 refine AI (O:=c3) (A:=All b3) (R:=fun w' F v=>T2 w' F v y4) (LH (fun _ h=>h) (Vb.mono (F:=Fr 0 b3 c3) (Vb.ofAgg (cs:=[(.slice d2 b0.1.vars.length e2),(.slice f2 b0.1.init.length g2),(.slice h2 b0.1.goal.length i2),(.slice j2 b0.1.ops.length k2)]) (x:=b0.1) rfl ⟨_,_,_,_,rfl,s0,p0,t0,u0⟩) Fr.lt) (Vb.mono (F:=Fr 0 b3 c3) p0 Fr.lt) (Vb.mono (F:=Fr 0 b3 c3) r0 Fr.lt) l8) rfl rfl fun bD u3 v3 h0 m8=>?_
 obtain ⟨cD,dD,rfl,n8,o8⟩:=m8
 obtain ⟨rfl,eD⟩:=n8.int
 obtain rfl:=o8.bool
 refine Ak rfl rfl (Db rfl rfl rfl (Db rfl rfl rfl (Al rfl rfl (Al rfl rfl (o_z ?_)))))
 refine Ab (Aa ?_)
 replace m0:=m0.st h0
 refine Bv (hl:=rfl) (hc:=(m0.1).cellsAt) rfl rfl ?_
 refine AC rfl rfl (AA (hc:=Blk.cell (i:=1) (m0.1) rfl) rfl rfl ?_)
 refine Ak rfl rfl ?_
 obtain ⟨z4,p8,hm⟩:=bs hm
 replace s0:=s0.st h0
 replace p0:=p0.st h0
 replace t0:=t0.st h0
 replace u0:=u0.st h0
 replace q1:=q1.st h0
 refine AI (O:=v3) (A:=All u3) (R:=fun w' F v=>T2 w' F v z4) (LH (fun _ h=>h) (Vb.mono (F:=Fr 0 u3 v3) (Vb.ofAgg (cs:=[(.slice d2 b0.1.vars.length e2),(.slice f2 b0.1.init.length g2),(.slice h2 b0.1.goal.length i2),(.slice j2 b0.1.ops.length k2)]) (x:=b0.1) rfl ⟨_,_,_,_,rfl,s0,p0,t0,u0⟩) Fr.lt) (Vb.mono (F:=Fr 0 u3 v3) p0 Fr.lt) (q1).all p8) rfl rfl fun fD gD hD q0 q8=>?_
 obtain ⟨iD,jD,rfl,r8,s8⟩:=q8
 obtain ⟨rfl,kD⟩:=r8.int
 obtain rfl:=s8.bool
 refine Ak rfl rfl (Db rfl rfl rfl (Db rfl rfl rfl (Al rfl rfl (Al rfl rfl (o_z ?_)))))
 refine Ab (Aa ?_)
 replace o0:=(((o0.st f0).st g0).st h0).st q0
 refine Bv (hl:=rfl) (hc:=(o0.1).cellsAt) rfl rfl ?_
 refine Ak rfl rfl ?_
 replace q1:=q1.st q0
 obtain ⟨t8,v0,q1⟩:=q1.freeze
 obtain ⟨i1,u8,hm⟩:=bs hm
 replace h8:=((((h8.st f0).st g0).st h0).st q0).st v0
 replace w0:=((((w0.st f0).st g0).st h0).st q0).st v0
 replace y0:=((((y0.st f0).st g0).st h0).st q0).st v0
 replace l0:=((((l0.st f0).st g0).st h0).st q0).st v0
 refine Ce (O:=t8) (R:=fun w' F v=>T2 w' F v i1) (KY Fr.lt (Vb.ofAgg (cs:=[(.slice A9 x0.vars.length w1),(.slice y1 x0.init.length z1),(.slice a2 x0.goal.length b2),(.slice t1 x0.jobs.length u1)]) (x:=x0) rfl ⟨_,_,_,_,rfl,h8,w0,y0,l0⟩) q1 u8) rfl rfl fun lD mD nD f1 v8=>?_
 obtain ⟨oD,pD,rfl,c0,w8⟩:=v8
 obtain ⟨r2,s2,rfl⟩:=c0.form
 obtain ⟨rfl,qD⟩:=w8.err
 refine Ak rfl rfl (Db rfl rfl rfl (Db rfl rfl rfl (Al rfl rfl (Al rfl rfl (o_z ?_)))))
 refine Ab (Ab ?_)
 obtain ⟨x8,a0,hm⟩:=bs hm
 refine Az (fun l' w'=>∃ (y8:Unit) (O':Lab),subs l' [(1,(.slice o2 x1.length p2)),(18,(.slice r2 i1.1.length s2)),(138,(.bool x8))]∧Bs w A w' O'∧Vb w' (Fr 0 w' O') (.slice o2 x1.length p2) x1∧Vb w' (Fr 0 w' O') (.slice r2 i1.1.length s2) i1.1) ?_ ?_
 ·
  refine Aa (Ak rfl rfl (Iw rfl rfl (Ak rfl rfl ?_)))
  rcases Bool.eq_false_or_eq_true (!y4.2) with x2|x2
  ·
   try simp only [x2]
   replace a0:=ip a0 x2
   refine Am rfl rfl rfl rfl (Am rfl rfl rfl rfl (BN rfl rfl rfl (Ak rfl rfl (Am rfl rfl rfl rfl (Am rfl rfl rfl rfl (Am rfl rfl rfl rfl (Am rfl rfl rfl rfl (BN rfl rfl rfl (Ak rfl rfl (Am rfl rfl rfl rfl (Am rfl rfl rfl rfl (BN rfl rfl rfl (Ak rfl rfl (Am rfl rfl rfl rfl ?_))))))))))))))
   refine Am rfl rfl rfl rfl (Am rfl rfl rfl rfl (Am rfl rfl rfl rfl (Am rfl rfl rfl rfl (BN rfl rfl rfl (o_z ?_)))))
   obtain rfl:=sm a0
   exact ⟨(),_,⟨rfl,rfl,rfl,trivial⟩,(((((hB.st f0).st g0).st h0).st q0).st v0).st f1,(((((i0.st f0).st g0).st h0).st q0).st v0).st f1,c0⟩
  try simp only [x2]
  replace a0:=im' a0 x2
  refine An rfl rfl (Ak rfl rfl (An rfl rfl (Iw rfl rfl (BI rfl rfl rfl (Ak rfl rfl ?_)))))
  rcases Bool.eq_false_or_eq_true (!z4.2) with y2|y2
  ·
   try simp only [y2]
   replace a0:=ip a0 y2
   refine Am rfl rfl rfl rfl (Am rfl rfl rfl rfl (Am rfl rfl rfl rfl (Am rfl rfl rfl rfl (BN rfl rfl rfl (Ak rfl rfl (Am rfl rfl rfl rfl (Am rfl rfl rfl rfl (BN rfl rfl rfl (Ak rfl rfl (Am rfl rfl rfl rfl (Am rfl rfl rfl rfl (Am rfl rfl rfl rfl (Am rfl rfl rfl rfl (Am rfl rfl rfl rfl ?_))))))))))))))
   refine BN rfl rfl rfl (o_z ?_)
   obtain rfl:=sm a0
   exact ⟨(),_,⟨rfl,rfl,rfl,trivial⟩,(((((hB.st f0).st g0).st h0).st q0).st v0).st f1,(((((i0.st f0).st g0).st h0).st q0).st v0).st f1,c0⟩
  try simp only [y2]
  replace a0:=im' a0 y2
  refine An rfl rfl (Ak rfl rfl (An rfl rfl (Ak rfl rfl (An rfl rfl ?_))))
  obtain ⟨rD,a5,a0⟩:=bs a0
  have sD:=(Bb a5)
  refine Dx (he:=a5) rfl rfl rfl ?_
  refine An rfl rfl (MB rfl rfl rfl (fun w3=>?_) fun w3=>?_)
  ·
   replace a0:=ip a0 w3
   refine BI rfl rfl rfl (Ak rfl rfl (Am rfl rfl rfl rfl (Am rfl rfl rfl rfl (BN rfl rfl rfl (Ak rfl rfl (Am rfl rfl rfl rfl (Am rfl rfl rfl rfl (Am rfl rfl rfl rfl (Am rfl rfl rfl rfl (Am rfl rfl rfl rfl (BN rfl rfl rfl (o_z ?_))))))))))))
   obtain rfl:=sm a0
   exact ⟨(),_,⟨rfl,rfl,rfl,trivial⟩,(((((hB.st f0).st g0).st h0).st q0).st v0).st f1,(((((i0.st f0).st g0).st h0).st q0).st v0).st f1,c0⟩
  replace a0:=im a0 w3
  refine BI rfl rfl rfl (Ak rfl rfl (An rfl rfl (Ak rfl rfl (An rfl rfl (Gf rfl rfl (fun x3=>?_) fun x3=>?_)))))
  ·
   replace a0:=ip a0 x3
   refine BI rfl rfl rfl (Ak rfl rfl (Am rfl rfl rfl rfl (Am rfl rfl rfl rfl (Am rfl rfl rfl rfl (Am rfl rfl rfl rfl (Am rfl rfl rfl rfl (BN rfl rfl rfl (o_z ?_))))))))
   obtain rfl:=sm a0
   exact ⟨(),_,⟨rfl,rfl,rfl,trivial⟩,(((((hB.st f0).st g0).st h0).st q0).st v0).st f1,(((((i0.st f0).st g0).st h0).st q0).st v0).st f1,c0⟩
  replace a0:=im a0 x3
  refine BI rfl rfl rfl (Ak rfl rfl (An rfl rfl (Ak rfl rfl (An rfl rfl (AV rfl rfl ?_)))))
  have z8:i1.1.length≤9223372036854775807:=Nat.le_trans c0.len.2.1 c0.len.2.2
  have tD:inI64 (i1.1.length:Int):=rngNat z8
  refine An rfl rfl (Ak rfl rfl (An rfl rfl (AV rfl rfl ?_)))
  replace i0:=(((((i0.st f0).st g0).st h0).st q0).st v0).st f1
  have a9:x1.length≤9223372036854775807:=Nat.le_trans i0.len.2.1 i0.len.2.2
  have uD:inI64 (x1.length:Int):=rngNat a9
  refine An rfl rfl (MB rfl rfl rfl (fun y3=>?_) fun y3=>?_)
  ·
   replace a0:=ip a0 y3
   refine BI rfl rfl rfl (o_z ?_)
   obtain rfl:=sm a0
   exact ⟨(),_,⟨rfl,rfl,rfl,trivial⟩,(((((hB.st f0).st g0).st h0).st q0).st v0).st f1,i0,c0⟩
  replace a0:=im a0 y3
  refine BI rfl rfl rfl (o_z ?_)
  obtain rfl:=sm a0
  exact ⟨(),_,⟨rfl,rfl,rfl,trivial⟩,(((((hB.st f0).st g0).st h0).st q0).st v0).st f1,i0,c0⟩
 replace hB:=(((((hB.st f0).st g0).st h0).st q0).st v0).st f1
 replace i0:=(((((i0.st f0).st g0).st h0).st q0).st v0).st f1
 rintro vD wD ⟨y8,b9,b5,hB,i0,c0⟩
 refine AF _ b5 ?_
 refine CD rfl (fun z3=>?_) (fun z3=>?_)
 ·
  replace hm:=ip hm z3
  refine Ab (Aa (Al rfl rfl (o_z ?_)))
  refine AD ?_
  obtain rfl:=sm hm
  exact ret1v rfl (At rfl) ⟨hB.ext,vBool⟩
 replace hm:=im' hm z3
 refine AM (Ab (Ab (Aa (Ak rfl rfl ?_))))
 obtain ⟨l1,c9,hm⟩:=bs hm
 refine Ce (O:=b9) (R:=fun w' F v=>Vb w' F v l1) (Nr Fr.lt i0 c9) rfl rfl fun xD yD d9 a4 e1=>?_
 obtain ⟨d3,e3,rfl⟩:=e1.form
 refine AV rfl rfl ?_
 have b4:l1.length≤9223372036854775807:=Nat.le_trans e1.len.2.1 e1.len.2.2
 have zD:inI64 (l1.length:Int):=rngNat b4
 refine Ak rfl rfl (o_z ?_)
 obtain ⟨c4,c5,hm⟩:=bs hm
 refine Az (aft c4 (fun (f3:Unit) (g3:Unit)=>[]) (fun f3 g3 w'=>∃ O':Lab,Bs w A w' O')) ?_ ?_
 ·
  refine AK ?_
  replace hB:=hB.st a4
  replace c0:=c0.st a4
  refine Bq (σ:=Unit) (X:=Unit) (l1.length) c5 rfl b4 (fun (f3:Unit) (g3:Unit)=>[(18,(.slice r2 i1.1.length s2)),(140,(.slice d3 l1.length e3))]) _ (fun f3 g3 w'=>∃ O':Lab,Bs w A w' O'∧Vb w' (Fr 0 w' O') (.slice r2 i1.1.length s2) i1.1∧Vb w' (Fr 0 w' O') (.slice d3 l1.length e3) l1) _ () ⟨d9,hB,c0,e1⟩ ⟨rfl,rfl,rfl,rfl,trivial⟩ (fun _ _=>⟨rfl,rfl⟩) (fun _ _=>trivial) (fun _ _ _ ⟨O',hB,c0,e1⟩=>⟨O',hB⟩) ⟨rfl,rfl,rfl⟩ ⟨rfl,rfl⟩ ?_
  rintro d5 e5 f3 g3 aE x9 k3 ⟨e9,hB,c0,e1⟩ g1 h3 x5
  have rk361:inI64 (d5:Int):=rngK k3 b4
  refine Ab (Aa (Ak rfl rfl ?_))
  obtain ⟨bE,cE,y9,f5,g5,h5,rfl,dE,eE⟩:=e1.elem' k3
  refine BB (hA:=f5) (hj:=rfl) (hlt:=g5) rfl rfl rfl ?_
  refine Bv (hl:=rfl) (hc:=h5) rfl rfl ?_
  refine AR 7 e9 rfl fun f9 fE g9 m1 t2=>?_
  refine Al rfl rfl (AB t2 rfl rfl rfl (AJ rfl) (allOne rfl) fun i5 n1 t2=>?_)
  replace t2:Lc 7 i5 g9 f9 52 [(.int .i64 e5.tm),(.int .i64 e5.job)]:=t2
  refine o_z ?_
  refine Ab ?_
  obtain ⟨h9,d0,g1⟩:=bs g1
  refine Az (fun l' w'=>∃ (i9:Unit) (O':Lab),subs l' [(18,(.slice r2 i1.1.length s2)),(140,(.slice d3 l1.length e3)),(141,(.int .i64 (l1.length:Int))),(142,(.int .i64 (d5:Int))),(165,(.bool h9))]∧Bs w A w' O'∧Vb w' (Fr 0 w' O') (.slice r2 i1.1.length s2) i1.1∧Vb w' (Fr 0 w' O') (.slice d3 l1.length e3) l1) ?_ ?_
  ·
   refine FO (·=i5) [(0,true),(1,true),(2,true),(3,true),(4,true),(5,true),(6,true),(7,true),(8,true),(9,true),(10,true),(11,true),(12,true),(13,true),(14,true),(15,true),(16,true),(17,true),(18,true)] (by kernel_rfl) rfl (by kernel_rfl) rfl ?_
   refine Bo rfl rfl rfl (Bo rfl rfl rfl ?_)
   obtain ⟨gE,j9,d0⟩:=bs d0
   replace c0:=(c0.st m1).st n1
   obtain ⟨hE,iE,z9,j5,k5,l5,rfl,jE,kE⟩:=c0.elem' j9
   refine EZ (hA:=j5) (hj:=rfl) (hlt:=k5) rfl rfl rfl rfl ?_
   refine Bn rfl rfl rfl (Fm (hc:=cat1 l5) rfl rfl rfl ?_)
   refine Bn rfl rfl rfl (Fm (hc:=Blk.cell (i:=1) (t2.1) rfl) rfl rfl rfl ?_)
   refine SX rfl rfl rfl rfl (fun d4=>?_) fun d4=>?_
   ·
    replace d0:=ip d0 d4
    refine Bo rfl rfl rfl (Bf rfl rfl rfl rfl rfl (Bf rfl rfl rfl rfl rfl (Bf rfl rfl rfl rfl rfl (Bf rfl rfl rfl rfl rfl (Bf rfl rfl rfl rfl rfl (Bf rfl rfl rfl rfl rfl (Bf rfl rfl rfl rfl rfl (Bf rfl rfl rfl rfl rfl (Bf rfl rfl rfl rfl rfl (Fa rfl rfl rfl rfl (h_z ?_)))))))))))
    obtain rfl:=sm d0
    exact ⟨(),_,⟨rfl,rfl,rfl,rfl,rfl,trivial⟩,(hB.st m1).st n1,c0,(e1.st m1).st n1⟩
   replace d0:=im d0 d4
   refine Bo rfl rfl rfl (Ay rfl (Au rfl rfl (DH rfl rfl (Ay rfl (Au rfl rfl (DH rfl rfl (Ay rfl (Au rfl rfl ?_))))))))
   obtain ⟨lE,k9,d0⟩:=bs d0
   obtain ⟨mE,nE,aA,m5,n5,o5,rfl,oE,pE⟩:=c0.elem' k9
   refine JQ (hA:=m5) (hj:=rfl) (hlt:=n5) rfl rfl rfl ?_
   refine Ay rfl (Au rfl rfl (DX rfl rfl (Ay rfl (Au rfl rfl (CJ (hc:=cat0 o5) rfl rfl ?_)))))
   refine Ay rfl (Au rfl rfl (DX rfl rfl (Ay rfl (Au rfl rfl (CJ (hc:=Blk.cell (i:=0) (t2.1) rfl) rfl rfl ?_)))))
   refine Ay rfl (Au rfl rfl ?_)
   obtain ⟨qE,p5,d0⟩:=bs d0
   have rE:=(Bb p5)
   refine Vg (he:=p5) rfl rfl rfl ?_
   refine Ay rfl (Au rfl rfl (Cl (fun _ _=>ED rfl rfl) rfl (fun e4=>?_) (fun e4=>?_)))
   ·
    replace d0:=ip d0 e4
    refine Fi rfl rfl rfl rfl (h_z ?_)
    obtain rfl:=sm d0
    exact ⟨(),_,⟨rfl,rfl,rfl,rfl,rfl,trivial⟩,(hB.st m1).st n1,c0,(e1.st m1).st n1⟩
   replace d0:=im d0 e4
   refine Fi rfl rfl rfl rfl (h_z ?_)
   obtain rfl:=sm d0
   exact ⟨(),_,⟨rfl,rfl,rfl,rfl,rfl,trivial⟩,(hB.st m1).st n1,c0,(e1.st m1).st n1⟩
  replace hB:=(hB.st m1).st n1
  replace c0:=(c0.st m1).st n1
  replace e1:=(e1.st m1).st n1
  rintro sE tE ⟨i9,uE,q5,hB,c0,e1⟩
  refine AF _ q5 ?_
  refine CD rfl (fun f4=>?_) (fun f4=>?_)
  ·
   replace g1:=ip g1 f4
   refine Ab (Aa (Al rfl rfl (o_z ?_)))
   refine AD ?_
   obtain rfl:=sm g1
   obtain rfl:=h3 _ rfl
   obtain rfl:=sm (CF hm)
   exact ret1v rfl (At rfl) ⟨hB.ext,vBool⟩
  replace g1:=im' g1 f4
  refine AM ?_
  obtain rfl:=sm g1
  exact show Exists _ from ⟨_,(),rfl,⟨rfl,rfl,rfl,rfl,trivial⟩,_,hB,c0,e1⟩
 replace hB:=hB.st a4
 rintro vE wE ⟨xE,yE,rfl,r5,zE,hB⟩
 replace hm:=AW hm
 refine AF _ r5 ?_
 refine Ab (Aa (Al rfl rfl (o_z ?_)))
 refine AD ?_
 obtain rfl:=sm hm
 exact ret1v rfl (At rfl) ⟨hB.ext,vBool⟩
end
section
open Go Go.RowKit
def Le {α:Type} (x y:Option α):Prop:=∀ r,x=some r→y=some r
theorem Le.rf {α:Type} {x:Option α}:Le x x:=fun _ h=>h
theorem Le.bnd {α β:Type} {x x':Option α} {f f':α→Option β} (h:Le x x') (hf:∀ a,Le (f a) (f' a)):Le (bnd x f) (bnd x' f'):=fun r hr=>by
  obtain ⟨a,ha,hb⟩:=bs hr
  rw [h a ha,Ae]
  exact hf a r hb
theorem Le.ite {α:Type} {p:Prop} [Decidable p] {x x' y y':Option α} (h:Le x x') (k:Le y y'):Le (if p then x else y) (if p then x' else y'):=by
  by_cases hp:p
  · rw [if_pos hp,if_pos hp];exact h
  · rw [if_neg hp,if_neg hp];exact k
theorem Le.fin {σ κ:Type} {y:Fin σ κ} {f f':σ→Option κ} (hf:∀ a,Le (f a) (f' a)):Le (fin y f) (fin y f'):=by
  cases y with
  | done s=>exact hf s
  | ret c=>exact Le.rf
theorem Le.rng {α σ ρ:Type} {f f':Nat→α→σ→Option (Ctl σ ρ)} (hf:∀ k a s,Le (f k a s) (f' k a s)):∀ {xs:List α} {k:Nat} {s:σ},Le (rng f xs k s) (rng f' xs k s)
  | [],_,_=>Le.rf
  | x :: xs,k,s=>fun r hr=>by
    simp only [Proofs.YtjohlgjklmagnaaGreatDoor.rng] at hr ⊢
    cases hc:f k x s with
    | none=>rw [hc] at hr;cases hr
    | some c =>
      rw [hc] at hr
      rw [hf k x s c hc]
      cases c with
      | next s'=>exact Le.rng hf r hr
      | brk s'=>exact hr
      | ret q=>exact hr
theorem Le.rngN {σ ρ:Type} {f f':Nat→σ→Option (Ctl σ ρ)} {n:Nat} {s:σ} (hf:∀ k s,Le (f k s) (f' k s)):Le (rngN f n s) (rngN f' n s):=Le.rng fun _ k s=>hf k s
theorem Le.itr {σ ρ:Type} {f f':σ→Option (Ctl σ ρ)} (hf:∀ s,Le (f s) (f' s)):∀ (n:Nat) (s:σ),Le (itr f n s) (itr f' n s)
  | 0,_=>Le.rf
  | n + 1,s=>fun r hr=>by
    simp only [Proofs.YtjohlgjklmagnaaGreatDoor.itr] at hr ⊢
    cases hc:f s with
    | none=>rw [hc] at hr;cases hr
    | some c =>
      rw [hc] at hr
      rw [hf s c hc]
      cases c with
      | next s'=>exact Le.itr hf n s' r hr
      | brk s'=>exact hr
      | ret q=>exact hr
def lopE {σ ρ:Type} (f:σ→Option (Ctl σ ρ)) (s:σ):Option (Fin σ ρ):=itr f 600 s
theorem Le.lop {σ ρ:Type} {f f':σ→Option (Ctl σ ρ)} {s:σ} (hf:∀ s,Le (f s) (f' s)):Le (lopE f s) (lop f' s):=fun r hr=>JL.2 ⟨600,Le.itr hf 600 s r hr⟩
end
section
open Go Go.RowKit
def factB (vars:List Int) (x:Fct):Bool:=decide (0≤x.var) && (decide (0≤x.val) && (match vars[x.var.toNat]? with|some y=>decide (x.val < y)|none=>false))
theorem Pe {vars:List Int} {x:Fct} (h:factB vars x=true):FactOk vars x:=by
  unfold factB at h
  simp only [Bool.and_eq_true,decide_eq_true_eq] at h
  obtain ⟨h1,h2,h3⟩:=h
  cases hv:vars[x.var.toNat]? with
  | none=>rw [hv] at h3;cases h3
  | some y=>rw [hv] at h3;exact ⟨h1,h2,y,hv,by simpa using h3⟩
def ascB:List Fct→Bool
  | x :: y :: r=>decide (x.var < y.var) && ascB (y :: r)
  | _=>true
theorem PY:∀ {f:List Fct},ascB f=true→∀ (i:Nat) x y,f[i]?=some x→f[i + 1]?=some y→x.var < y.var
  | [],_,i,x,y,h,_=>by simp at h
  | [_],_,i,x,y,_,h=>by simp at h
  | a :: b :: r,h,i,x,y,h1,h2=>by
    simp only [ascB,Bool.and_eq_true,decide_eq_true_eq] at h
    cases i with
    | zero=>simp at h1 h2;subst h1;subst h2;exact h.1
    | succ i=>exact PY h.2 i x y (by simpa using h1) (by simpa using h2)
def factsB (vars:List Int) (f:List Fct):Bool:=f.all (factB vars) && ascB f
theorem Jb {vars:List Int} {f:List Fct} (h:factsB vars f=true):FactsOk vars f:=by
  unfold factsB at h
  rw [Bool.and_eq_true,List.all_eq_true] at h
  exact ⟨fun i x hx=>Pe (h.1 x (List.mem_of_getElem? hx)),PY h.2⟩
def stateB:List Int→List Int→Bool
  | [],[]=>true
  | y :: vars,x :: s=>decide (0≤x) && (decide (x < y) && stateB vars s)
  | _,_=>false
theorem La:∀ {vars s:List Int},stateB vars s=true→StateOk vars s
  | [],[],_=>⟨rfl,fun i x y h=>by simp at h⟩
  | y :: vars,x :: s,h=>by
    simp only [stateB,Bool.and_eq_true,decide_eq_true_eq] at h
    obtain ⟨h1,h2⟩:=La h.2.2
    refine ⟨by simp [h1],fun i a b ha hb=>?_⟩
    cases i with
    | zero=>simp at ha hb;subst ha;subst hb;exact ⟨h.1,h.2.1⟩
    | succ i=>exact h2 i a b (by simpa using ha) (by simpa using hb)
  | [],_ :: _,h=>by simp [stateB] at h
  | _ :: _,[],h=>by simp [stateB] at h
def nameB (s:ByteArray):Bool:=decide (s.size≤256) && s.data.toList.all fun c=>decide (32≤c.toNat) && decide (c.toNat≤126)
theorem SE {s:ByteArray} (h:nameB s=true):NameOk s:=by
  unfold nameB at h
  simp only [Bool.and_eq_true,decide_eq_true_eq,List.all_eq_true] at h
  refine ⟨h.1,fun i hi=>h.2 _ ?_⟩
  show s.data[i]∈_
  simp
def opB (vars:List Int) (o:Opr):Bool:=decide (0≤o.cost) && (decide (o.cost≤1048576) && (decide (o.effs.length≤64) && (nameB o.name && (factsB vars o.pre && o.effs.all fun e=>factsB vars e.cond && factB vars ⟨e.var,e.val⟩))))
theorem UM {vars:List Int} {o:Opr} (h:opB vars o=true):OpOk vars o:=by
  unfold opB at h
  simp only [Bool.and_eq_true,decide_eq_true_eq,List.all_eq_true] at h
  obtain ⟨h1,h2,h3,h4,h5,h6⟩:=h
  exact ⟨h1,h2,h3,SE h4,Jb h5,fun i e he=>⟨Jb (h6 e (List.mem_of_getElem? he)).1,Pe (h6 e (List.mem_of_getElem? he)).2⟩⟩
def taskB (t:Tsk):Bool:=decide (t.vars.length≤64) && (decide (t.ops.length≤4096) && ((t.vars.all fun n=>decide (1≤n) && decide (n≤64)) && (stateB t.vars t.init && (factsB t.vars t.goal && t.ops.all (opB t.vars)))))
theorem SF {t:Tsk} (h:taskB t=true):TaskOk t:=by
  unfold taskB at h
  simp only [Bool.and_eq_true,decide_eq_true_eq,List.all_eq_true] at h
  obtain ⟨h1,h2,h3,h4,h5,h6⟩:=h
  exact ⟨h1,h2,fun i n hn=>h3 n (List.mem_of_getElem? hn),La h4,Jb h5,fun i o ho=>UM (h6 o (List.mem_of_getElem? ho))⟩
def Lb (t:Tsk):Option Err:=if taskB t=true then some ⟨0⟩ else none
theorem Of (t:Tsk):Le (Lb t) (DO t):=fun r h=>by
  obtain ⟨h1,rfl⟩:=Di h
  unfold DO
  rw [FP.2 (SF h1)]
def Kq (x y:List Int):Option Bool:=if stateB x y=true then some true else none
theorem Ns (x y:List Int):Le (Kq x y) (CS x y):=fun r h=>by
  obtain ⟨h1,rfl⟩:=Di h
  unfold CS
  rw [Df (La h1)]
def HN (x y:List Int):Option Bool:=some (decide (x=y))
theorem Pf (x y:List Int):Le (HN x y) (GI x y):=fun r h=>by
  unfold HN at h
  unfold GI
  rw [← h]
  by_cases hx:x=y
  · rw [Df hx];simp [hx]
  · rw [Dw hx];simp [hx]
def Hq (f:List Fct) (s:List Int):Option Bool:=Cn f s
theorem Kr (f:List Fct) (s:List Int):Le (Hq f s) (Cn f s):=Le.rf
def Fb (x:List Int):Option (List Int):=Bu x
theorem Gw (x:List Int):Le (Fb x) (Bu x):=Le.rf
end
section
open Go Go.RowKit
set_option maxRecDepth 20000
attribute [local irreducible] bnd fin rng rngN chkI mkI appI atI natI quoI remI catI keysI BH Bu Ek
def Fj (xs:List Int):Option (List Int):=if xs.length≤1000000 then some (insS xs) else none
theorem IL (xs:List Int):Le (Fj xs) (BS xs):=fun r h=>by
  unfold Fj at h
  unfold BS
  rw [NH];exact h
def Dv (x:List Fct):Option (List Fct):=BH x
theorem EL (x:List Fct):Le (Dv x) (BH x):=Le.rf
def JD (x:Int):Option ByteArray:=if 0≤x∧x < 100 then some (itoaB x.toNat) else none
theorem MV (x:Int):Le (JD x) (Ek x):=fun r h=>by rw [PS];exact h
def EV (x:Int):Option (List Fct):=Cz x
theorem GL (x:Int):Le (EV x) (Cz x):=Le.rf
def EC (x:Int):Option (List Eff):=Cm x
theorem Gi (x:Int):Le (EC x) (Cm x):=Le.rf
def IH (x:List Lch):Option (List Lch):=if x.length≤1 then some x else none
theorem Ls (x:List Lch):Le (IH x) (Dm x):=fun r h=>by
  obtain ⟨h1,rfl⟩:=Di h
  unfold Dm
  rw [if_pos (by omega)]
  congr 1
  refine PX ?_
  match x,h1 with
  | [],_=>exact .nil
  | [a],_=>exact List.pairwise_singleton _ _
noncomputable def Dr (x0:List (List Fct)):Option (List Fct) :=
  bnd (rng (ρ:=(List Fct)) (fun (k10:Nat) (a11:List Fct) (s8:Int)=>bnd (chkI (s8 + (a11.length:Int))) fun n36=>if n36 < 0 then (none) else (some (.next n36))) x0 0 0) fun res6=>fin res6 fun (s44:Int)=>bnd (EV s44) fun q46=>bnd (rng (ρ:=(List Fct)) (fun (k62:Nat) (a63:List Fct) (s60:(List Fct))=>bnd (appI 16 s60 a63) fun u88=>some (.next u88)) x0 0 q46) fun res58=>fin res58 fun (s103:(List Fct))=>some s103
theorem GA (x0:List (List Fct)):Le (Dr x0) (BM x0):=by
  unfold Dr BM
  repeat' (first|apply GL|apply Le.ite|apply Le.bnd|apply Le.fin|apply Le.rng|apply Le.rngN|apply Le.lop|exact Le.rf|intro _)
noncomputable def CY (x0:List (List Eff)):Option (List Eff) :=
  bnd (rng (ρ:=(List Eff)) (fun (k10:Nat) (a11:List Eff) (s8:Int)=>bnd (chkI (s8 + (a11.length:Int))) fun n36=>if n36 < 0 then (none) else (some (.next n36))) x0 0 0) fun res6=>fin res6 fun (s44:Int)=>bnd (EC s44) fun q46=>bnd (rng (ρ:=(List Eff)) (fun (k62:Nat) (a63:List Eff) (s60:(List Eff))=>bnd (appI 40 s60 a63) fun u88=>some (.next u88)) x0 0 q46) fun res58=>fin res58 fun (s103:(List Eff))=>some s103
theorem FU (x0:List (List Eff)):Le (CY x0) (BG x0):=by
  unfold CY BG
  repeat' (first|apply Gi|apply Le.ite|apply Le.bnd|apply Le.fin|apply Le.rng|apply Le.rngN|apply Le.lop|exact Le.rf|intro _)
noncomputable def GX (x0:Tpl):Option (List (List Fct)) :=
  bnd (rng (ρ:=(List (List Fct))) (fun (k36:Nat) (a37:Job) (s34:(List (List Fct)))=>bnd (appI 24 s34 [a37.start,a37.over,a37.fin,a37.atStart,a37.atEnd]) fun u93=>some (.next u93)) x0.jobs 0 [x0.goal]) fun res32=>fin res32 fun (s108:(List (List Fct)))=>some s108
theorem Lt (x0:Tpl):Le (GX x0) (DA x0):=by
  unfold GX DA
  repeat' (first|apply Le.ite|apply Le.bnd|apply Le.fin|apply Le.rng|apply Le.rngN|apply Le.lop|exact Le.rf|intro _)
noncomputable def FZ (x0:List Fct):Option Bool :=
  bnd (if 64 < (x0.length:Int) then (some true) else (some false):Option Bool) fun y4=>some y4
theorem Kf (x0:List Fct):Le (FZ x0) (Dt x0):=by
  unfold FZ Dt
  repeat' (first|apply Le.ite|apply Le.bnd|apply Le.fin|apply Le.rng|apply Le.rngN|apply Le.lop|exact Le.rf|intro _)
noncomputable def Cf (x0:List (List Fct)):Option Int :=
  bnd (rng (ρ:=Int) (fun (k11:Nat) (a12:List Fct) (s9:Unit)=>bnd (FZ a12) fun q33=>if q33=true then some (.ret (k11:Int)) else some (.next ())) x0 0 ()) fun res7=>fin res7 fun (s44:Unit)=>some (-1)
theorem Ea (x0:List (List Fct)):Le (Cf x0) (Bg x0):=by
  unfold Cf Bg
  repeat' (first|apply Kf|apply Le.ite|apply Le.bnd|apply Le.fin|apply Le.rng|apply Le.rngN|apply Le.lop|exact Le.rf|intro _)
noncomputable def BU (x0:List (List Fct)):Option Bool :=
  bnd (bnd (Cf x0) fun q9=>if 0≤q9 then (some true) else (some false):Option Bool) fun y5=>some y5
theorem DK (x0:List (List Fct)):Le (BU x0) (AS x0):=by
  unfold BU AS
  repeat' (first|apply Ea|apply Le.ite|apply Le.bnd|apply Le.fin|apply Le.rng|apply Le.rngN|apply Le.lop|exact Le.rf|intro _)
def Ld (x:List Int) (f:List Fct):Option Bool:=if factsB x f=true then some true else none
theorem Og (x:List Int) (f:List Fct):Le (Ld x f) (Gm x f):=fun r h=>by
  obtain ⟨h1,rfl⟩:=Di h
  unfold Gm
  rw [Df (Jb h1)]
noncomputable def Ga (x0:List Fct) (y0:Tpl):Option Bool :=
  bnd (bnd (Ld y0.vars x0) fun q24=>if q24=true then some false else some true:Option Bool) fun y20=>some y20
theorem Kg (x0:List Fct) (y0:Tpl):Le (Ga x0 y0) (Du x0 y0):=by
  unfold Ga Du
  repeat' (first|apply Og|apply Le.ite|apply Le.bnd|apply Le.fin|apply Le.rng|apply Le.rngN|apply Le.lop|exact Le.rf|intro _)
noncomputable def Cg (x0:List (List Fct)) (y0:Tpl):Option Int :=
  bnd (rng (ρ:=Int) (fun (k27:Nat) (a28:List Fct) (s25:Unit)=>bnd (Ga a28 y0) fun q49=>if q49=true then some (.ret (k27:Int)) else some (.next ())) x0 0 ()) fun res23=>fin res23 fun (s60:Unit)=>some (-1)
theorem Eb (x0:List (List Fct)) (y0:Tpl):Le (Cg x0 y0) (Bh x0 y0):=by
  unfold Cg Bh
  repeat' (first|apply Kg|apply Le.ite|apply Le.bnd|apply Le.fin|apply Le.rng|apply Le.rngN|apply Le.lop|exact Le.rf|intro _)
noncomputable def BV (x0:List (List Fct)) (y0:Tpl):Option Bool :=
  bnd (bnd (Cg x0 y0) fun q25=>if 0≤q25 then (some true) else (some false):Option Bool) fun y21=>some y21
theorem DL (x0:List (List Fct)) (y0:Tpl):Le (BV x0 y0) (AT x0 y0):=by
  unfold BV AT
  repeat' (first|apply Eb|apply Le.ite|apply Le.bnd|apply Le.fin|apply Le.rng|apply Le.rngN|apply Le.lop|exact Le.rf|intro _)
noncomputable def GY (x0:ByteArray):Option Bool :=
  bnd (rngN (ρ:=Bool) (fun (k7:Nat) (s5:Unit)=>bnd (bnd (bytI x0 (k7:Int)) fun n22=>if n22 < 32 then (some true) else (bnd (bytI x0 (k7:Int)) fun n26=>if 126 < n26 then (some true) else (some false)):Option Bool) fun y18=>if y18=true then (some (.ret false)) else (some (.next ()))) x0.size ()) fun res3=>fin res3 fun (s39:Unit)=>bnd (if (x0.size:Int)≤256 then (some true) else (some false):Option Bool) fun y41=>some y41
theorem Lu (x0:ByteArray):Le (GY x0) (CQ x0):=by
  unfold GY CQ
  repeat' (first|apply Le.ite|apply Le.bnd|apply Le.fin|apply Le.rng|apply Le.rngN|apply Le.lop|exact Le.rf|intro _)
noncomputable def FR (x0:Tpl):Option Err :=
  bnd (GX x0) fun q24=>bnd (if 64 < (x0.vars.length:Int) then (some true) else (if 24 < (x0.jobs.length:Int) then (some true) else (bnd (BU q24) fun q43=>if q43=true then some true else some false)):Option Bool) fun y33=>if y33=true then (some (⟨5⟩:Err)) else (bnd (rng (ρ:=Err) (fun (k61:Nat) (a62:Int) (s59:Unit)=>bnd (if a62 < 1 then (some true) else (if 64 < a62 then (some true) else (some false)):Option Bool) fun y80=>if y80=true then (some (.ret (⟨1⟩:Err))) else (some (.next ()))) x0.vars 0 ()) fun res57=>fin res57 fun (s95:Unit)=>bnd (rng (ρ:=Err) (fun (k103:Nat) (a104:Job) (s101:Unit)=>bnd (if a104.dur < 1 then (some true) else (if 62 < a104.dur then (some true) else (some false)):Option Bool) fun y150=>if y150=true then (some (.ret (⟨1⟩:Err))) else (some (.next ()))) x0.jobs 0 ()) fun res99=>fin res99 fun (s165:Unit)=>bnd (bnd (Kq x0.vars x0.init) fun q171=>if q171=true then bnd (BV q24 x0) fun q178=>if q178=true then some true else some false else some true:Option Bool) fun y167=>if y167=true then (some (⟨2⟩:Err)) else (bnd (rng (ρ:=Err) (fun (k196:Nat) (a197:Job) (s194:Unit)=>bnd (GY a197.name) fun q243=>if q243=true then some (.next ()) else some (.ret (⟨8⟩:Err))) x0.jobs 0 ()) fun res192=>fin res192 fun (s254:Unit)=>some (⟨0⟩:Err)))
theorem HZ (x0:Tpl):Le (FR x0) (Dj x0):=by
  unfold FR Dj
  repeat' (first|apply DK|apply DL|apply Ns|apply Lt|apply Lu|apply Le.ite|apply Le.bnd|apply Le.fin|apply Le.rng|apply Le.rngN|apply Le.lop|exact Le.rf|intro _)
noncomputable def GF (x0:Tpl) (x1:List Lch):Option Err :=
  bnd (FR x0) fun q27=>if q27.n≠0 then (some (⟨q27.n⟩:Err)) else (if 4096 < (x1.length:Int) then (some (⟨5⟩:Err)) else (bnd (rng (ρ:=Err) (fun (k45:Nat) (a46:Lch) (s43:Unit)=>bnd (if a46.job < 0 then (some true) else (if (x0.jobs.length:Int)≤a46.job then (some true) else (if a46.tm < 0 then (some true) else (if 1048576 < a46.tm then (some true) else (some false)))):Option Bool) fun y72=>if y72=true then (some (.ret (⟨1⟩:Err))) else (some (.next ()))) x1 0 ()) fun res41=>fin res41 fun (s91:Unit)=>some (⟨0⟩:Err)))
theorem Lf (x0:Tpl) (x1:List Lch):Le (GF x0 x1) (CT x0 x1):=by
  unfold GF CT
  repeat' (first|apply HZ|apply Le.ite|apply Le.bnd|apply Le.fin|apply Le.rng|apply Le.rngN|apply Le.lop|exact Le.rf|intro _)
noncomputable def EQ (x0:Tpl) (x1:Lch):Option Int :=
  bnd (atI x0.jobs x1.job) fun a33=>bnd (chkI (x1.tm + a33.dur)) fun n66=>some n66
theorem Gg (x0:Tpl) (x1:Lch):Le (EQ x0 x1) (Cr x0 x1):=by
  unfold EQ Cr
  repeat' (first|apply Le.ite|apply Le.bnd|apply Le.fin|apply Le.rng|apply Le.rngN|apply Le.lop|exact Le.rf|intro _)
noncomputable def FA (x0:Tpl) (x1:List Lch):Option ((MapR 182 Int Hap)×(List Int)) :=
  bnd (rng (ρ:=(MapR 182 Int Hap)×(List Int)) (fun (k38:Nat) (a39:Lch) (s36:(MapR 182 Int Hap))=>bnd (appI 16 (mget ([]:List Hap) s36.l a39.tm) [(⟨a39.job,false⟩:Hap)]) fun u82=>bnd (EQ x0 a39) fun q97=>bnd (appI 16 (mget ([]:List Hap) (⟨mput s36.l a39.tm u82⟩:MapR 182 Int Hap).l q97) [(⟨a39.job,true⟩:Hap)]) fun u99=>some (.next (⟨mput (⟨mput s36.l a39.tm u82⟩:MapR 182 Int Hap).l q97 u99⟩:MapR 182 Int Hap))) x1 0 (⟨[]⟩:MapR 182 Int Hap)) fun res34=>fin res34 fun (s219:(MapR 182 Int Hap))=>bnd (keysI s219) fun u221=>bnd (Fj u221) fun q235=>some (s219,q235)
theorem Jg (x0:Tpl) (x1:List Lch):Le (FA x0 x1) (Cc x0 x1):=by
  unfold FA Cc
  repeat' (first|apply IL|apply Gg|apply Le.ite|apply Le.bnd|apply Le.fin|apply Le.rng|apply Le.rngN|apply Le.lop|exact Le.rf|intro _)
noncomputable def Gb (x0:Tpl) (x1:List Lch) (x2:Int):Option Bool :=
  bnd (rng (ρ:=Bool) (fun (k34:Nat) (a35:Lch) (s32:Unit)=>if a35.tm≠x2 then (some (.next ())) else (bnd (rng (ρ:=Ctl Unit Bool) (fun (k68:Nat) (a69:Lch) (s66:Unit)=>bnd (if (k34:Int)≠(k68:Int) then (if a35.job=a69.job then (if a69.tm≤x2 then (bnd (EQ x0 a69) fun q102=>if x2≤q102 then (some true) else (some false)) else (some false)) else (some false)) else (some false):Option Bool) fun y95=>if y95=true then (some (.ret (.ret true))) else (some (.next ()))) x1 0 ()) fun res64=>fin res64 fun (s120:Unit)=>some (.next ()))) x1 0 ()) fun res30=>fin res30 fun (s126:Unit)=>some false
theorem Kh (x0:Tpl) (x1:List Lch) (x2:Int):Le (Gb x0 x1 x2) (CV x0 x1 x2):=by
  unfold Gb CV
  repeat' (first|apply Gg|apply Le.ite|apply Le.bnd|apply Le.fin|apply Le.rng|apply Le.rngN|apply Le.lop|exact Le.rf|intro _)
noncomputable def Ds (x0:Tpl) (x1:Hap):Option (List Fct) :=
  if x1.fin=true then (bnd (atI x0.jobs x1.job) fun a33=>some a33.atEnd) else (bnd (atI x0.jobs x1.job) fun a66=>some a66.atStart)
theorem HS (x0:Tpl) (x1:Hap):Le (Ds x0 x1) (BX x0 x1):=by
  unfold Ds BX
  repeat' (first|apply Le.ite|apply Le.bnd|apply Le.fin|apply Le.rng|apply Le.rngN|apply Le.lop|exact Le.rf|intro _)
noncomputable def FB (x0:Fct) (y0:Fct):Option Bool :=
  bnd (if y0.var=x0.var then (some true) else (some false):Option Bool) fun y12=>some y12
theorem Jh (x0:Fct) (y0:Fct):Le (FB x0 y0) (Dd x0 y0):=by
  unfold FB Dd
  repeat' (first|apply Le.ite|apply Le.bnd|apply Le.fin|apply Le.rng|apply Le.rngN|apply Le.lop|exact Le.rf|intro _)
noncomputable def BZ (x0:List Fct) (y0:Fct):Option Int :=
  bnd (rng (ρ:=Int) (fun (k13:Nat) (a14:Fct) (s11:Unit)=>bnd (FB a14 y0) fun q33=>if q33=true then some (.ret (k13:Int)) else some (.next ())) x0 0 ()) fun res9=>fin res9 fun (s44:Unit)=>some (-1)
theorem DV (x0:List Fct) (y0:Fct):Le (BZ x0 y0) (Bd x0 y0):=by
  unfold BZ Bd
  repeat' (first|apply Jh|apply Le.ite|apply Le.bnd|apply Le.fin|apply Le.rng|apply Le.rngN|apply Le.lop|exact Le.rf|intro _)
noncomputable def BR (x0:List Fct) (y0:Fct):Option Bool :=
  bnd (bnd (BZ x0 y0) fun q11=>if 0≤q11 then (some true) else (some false):Option Bool) fun y7=>some y7
theorem DI (x0:List Fct) (y0:Fct):Le (BR x0 y0) (Ba x0 y0):=by
  unfold BR Ba
  repeat' (first|apply DV|apply Le.ite|apply Le.bnd|apply Le.fin|apply Le.rng|apply Le.rngN|apply Le.lop|exact Le.rf|intro _)
noncomputable def Gx (x0:Fct) (y0:List Fct):Option Bool :=
  bnd (bnd (BR y0 x0) fun q18=>if q18=true then some true else some false:Option Bool) fun y14=>some y14
theorem KA (x0:Fct) (y0:List Fct):Le (Gx x0 y0) (Dk x0 y0):=by
  unfold Gx Dk
  repeat' (first|apply DI|apply Le.ite|apply Le.bnd|apply Le.fin|apply Le.rng|apply Le.rngN|apply Le.lop|exact Le.rf|intro _)
noncomputable def Cj (x0:List Fct) (y0:List Fct):Option Int :=
  bnd (rng (ρ:=Int) (fun (k15:Nat) (a16:Fct) (s13:Unit)=>bnd (Gx a16 y0) fun q35=>if q35=true then some (.ret (k15:Int)) else some (.next ())) x0 0 ()) fun res11=>fin res11 fun (s46:Unit)=>some (-1)
theorem En (x0:List Fct) (y0:List Fct):Le (Cj x0 y0) (Bk x0 y0):=by
  unfold Cj Bk
  repeat' (first|apply KA|apply Le.ite|apply Le.bnd|apply Le.fin|apply Le.rng|apply Le.rngN|apply Le.lop|exact Le.rf|intro _)
noncomputable def Ca (x0:List Fct) (y0:List Fct):Option Bool :=
  bnd (bnd (Cj x0 y0) fun q13=>if 0≤q13 then (some true) else (some false):Option Bool) fun y9=>some y9
theorem DW (x0:List Fct) (y0:List Fct):Le (Ca x0 y0) (Be x0 y0):=by
  unfold Ca Be
  repeat' (first|apply En|apply Le.ite|apply Le.bnd|apply Le.fin|apply Le.rng|apply Le.rngN|apply Le.lop|exact Le.rf|intro _)
noncomputable def Fh (x0:List Fct) (x1:List Fct):Option Bool :=
  bnd (bnd (Ca x0 x1) fun q16=>if q16=true then some true else some false:Option Bool) fun y12=>some y12
theorem Mm (x0:List Fct) (x1:List Fct):Le (Fh x0 x1) (CZ x0 x1):=by
  unfold Fh CZ
  repeat' (first|apply DW|apply Le.ite|apply Le.bnd|apply Le.fin|apply Le.rng|apply Le.rngN|apply Le.lop|exact Le.rf|intro _)
noncomputable def EW (x0:Tpl) (x1:Hap):Option (List Fct) :=
  if x1.fin=true then (bnd (atI x0.jobs x1.job) fun a33=>some a33.fin) else (bnd (atI x0.jobs x1.job) fun a66=>some a66.start)
theorem Ia (x0:Tpl) (x1:Hap):Le (EW x0 x1) (CG x0 x1):=by
  unfold EW CG
  repeat' (first|apply Le.ite|apply Le.bnd|apply Le.fin|apply Le.rng|apply Le.rngN|apply Le.lop|exact Le.rf|intro _)
noncomputable def FS (x0:Tpl) (x1:Hap) (x2:Hap):Option Bool :=
  bnd (bnd (Ds x0 x1) fun q44=>bnd (Ds x0 x2) fun q53=>bnd (Fh q44 q53) fun q62=>if q62=true then some true else bnd (Ds x0 x1) fun q69=>bnd (EW x0 x2) fun q78=>bnd (Fh q69 q78) fun q87=>if q87=true then some true else bnd (EW x0 x1) fun q94=>bnd (Ds x0 x2) fun q103=>bnd (Fh q94 q103) fun q112=>if q112=true then some true else some false:Option Bool) fun y40=>some y40
theorem JE (x0:Tpl) (x1:Hap) (x2:Hap):Le (FS x0 x1 x2) (BT x0 x1 x2):=by
  unfold FS BT
  repeat' (first|apply Mm|apply Ia|apply HS|apply Le.ite|apply Le.bnd|apply Le.fin|apply Le.rng|apply Le.rngN|apply Le.lop|exact Le.rf|intro _)
noncomputable def GZ (x0:Tpl) (x1:List Int) (x2:List Hap):Option (List Int) :=
  bnd (Fb x1) fun q30=>bnd (rng (ρ:=(List Int)) (fun (k52:Nat) (a53:Bool) (s50:(List Int))=>bnd (rng (ρ:=Ctl (List Int) (List Int)) (fun (k80:Nat) (a81:Job) (s78:(List Int)×Bool)=>bnd (rng (ρ:=Ctl ((List Int)×Bool) (Ctl (List Int) (List Int))) (fun (k101:Nat) (a102:Hap) (s99:(List Int)×Bool)=>bnd (if a102.job≠(k80:Int) then (some (s99.2,true,a102.fin)) else (if a102.fin=true then (if s99.2=true then (some (true,false,true)) else (some (false,true,true))) else (if s99.2=true then (some (true,true,false)) else (some (false,false,false)))):Option (Bool×Bool×Bool)) fun y131=>if y131.2.1=true then (some (.next (s99.1,y131.1))) else (bnd (Ds x0 (⟨a102.job,y131.2.2⟩:Hap)) fun q144=>bnd (rng (ρ:=Ctl ((List Int)×Bool) (Ctl ((List Int)×Bool) (Ctl (List Int) (List Int)))) (fun (k159:Nat) (a160:Fct) (s157:(List Int))=>bnd (atI s157 a160.var) fun a190=>some (.next (s157.set (a160.var:Int).toNat a160.val))) q144 0 s99.1) fun res155=>fin res155 fun (s208:(List Int))=>some (.next (s208,y131.1)))) x2 0 (s78.1,s78.2)) fun res97=>fin res97 fun (s214:(List Int)×Bool)=>some (.next (s214.1,s214.2))) x0.jobs 0 (s50,a53)) fun res76=>fin res76 fun (s220:(List Int)×Bool)=>some (.next s220.1)) [true,false] 0 q30) fun res48=>fin res48 fun (s226:(List Int))=>some s226
theorem Lv (x0:Tpl) (x1:List Int) (x2:List Hap):Le (GZ x0 x1 x2) (DB x0 x1 x2):=by
  unfold GZ DB
  repeat' (first|apply Gw|apply HS|apply Le.ite|apply Le.bnd|apply Le.fin|apply Le.rng|apply Le.rngN|apply Le.lop|exact Le.rf|intro _)
noncomputable def Hr (x0:Tpl) (x1:List Lch) (x2:Int) (x3:List Int) (x4:List Hap):Option ((List Int)×Err) :=
  bnd (Gb x0 x1 x2) fun q34=>if q34=true then some (([]:List Int),(⟨18⟩:Err)) else bnd (rng (ρ:=(List Int)×Err) (fun (k47:Nat) (a48:Hap) (s45:Unit)=>bnd (rngN (ρ:=Ctl Unit ((List Int)×Err)) (fun (k62:Nat) (s60:Unit)=>bnd (x4[k62]?) fun a81=>bnd (FS x0 a48 a81) fun q91=>if q91=true then some (.ret (.ret (([]:List Int),(⟨17⟩:Err)))) else some (.next ())) k47 ()) fun res58=>fin res58 fun (s102:Unit)=>some (.next ())) x4 0 ()) fun res43=>fin res43 fun (s108:Unit)=>bnd (rng (ρ:=(List Int)×Err) (fun (k116:Nat) (a117:Hap) (s114:Unit)=>bnd (EW x0 a117) fun q142=>bnd (Hq q142 x3) fun q151=>if q151=true then some (.next ()) else some (.ret (([]:List Int),(⟨12⟩:Err)))) x4 0 ()) fun res112=>fin res112 fun (s162:Unit)=>bnd (GZ x0 x3 x4) fun q164=>bnd (rng (ρ:=(List Int)×Err) (fun (k179:Nat) (a180:Lch) (s177:Unit)=>bnd (if a180.tm≤x2 then (bnd (EQ x0 a180) fun q211=>if x2 < q211 then (bnd (atI x0.jobs a180.job) fun a220=>bnd (Hq a220.over q164) fun q253=>if q253=true then some false else some true) else (some false)) else (some false):Option Bool) fun y206=>if y206=true then (some (.ret (([]:List Int),(⟨16⟩:Err)))) else (some (.next ()))) x1 0 ()) fun res175=>fin res175 fun (s269:Unit)=>some (q164,(⟨0⟩:Err))
theorem Mn (x0:Tpl) (x1:List Lch) (x2:Int) (x3:List Int) (x4:List Hap):Le (Hr x0 x1 x2 x3 x4) (Da x0 x1 x2 x3 x4):=by
  unfold Hr Da
  repeat' (first|apply Kr|apply Lv|apply Gg|apply JE|apply Kh|apply Ia|apply Le.ite|apply Le.bnd|apply Le.fin|apply Le.rng|apply Le.rngN|apply Le.lop|exact Le.rf|intro _)
noncomputable def Gc (x0:Tpl) (x1:List Lch):Option Int :=
  bnd (rng (ρ:=Int) (fun (k33:Nat) (a34:Lch) (s31:Int)=>bnd (EQ x0 a34) fun q62=>some (.next (max s31 q62))) x1 0 0) fun res29=>fin res29 fun (s74:Int)=>some s74
theorem Ki (x0:Tpl) (x1:List Lch):Le (Gc x0 x1) (CK x0 x1):=by
  unfold Gc CK
  repeat' (first|apply Gg|apply Le.ite|apply Le.bnd|apply Le.fin|apply Le.rng|apply Le.rngN|apply Le.lop|exact Le.rf|intro _)
noncomputable def Gd (x0:Tpl) (x1:List Lch):Option (Int×Err) :=
  bnd (GF x0 x1) fun q27=>if q27.n≠0 then (some (0,(⟨q27.n⟩:Err))) else (bnd (FA x0 x1) fun q36=>bnd (rng (ρ:=Int×Err) (fun (k58:Nat) (a59:Int) (s56:(List Int))=>bnd (Hr x0 x1 a59 s56 (mget ([]:List Hap) q36.1.l a59)) fun q83=>if q83.2.n≠0 then (some (.ret (0,(⟨q83.2.n⟩:Err)))) else (some (.next q83.1))) q36.2 0 x0.init) fun res54=>fin res54 fun (s102:(List Int))=>bnd (Hq x0.goal s102) fun q104=>if q104=true then bnd (Gc x0 x1) fun q111=>some (q111,(⟨0⟩:Err)) else some (0,(⟨13⟩:Err)))
theorem Kj (x0:Tpl) (x1:List Lch):Le (Gd x0 x1) (Cu x0 x1):=by
  unfold Gd Cu
  repeat' (first|apply Kr|apply Lf|apply Jg|apply Ki|apply Mn|apply Le.ite|apply Le.bnd|apply Le.fin|apply Le.rng|apply Le.rngN|apply Le.lop|exact Le.rf|intro _)
noncomputable def FT (x0:Fct) (y0:Int):Option Bool :=
  bnd (if x0.var=y0 then (some true) else (some false):Option Bool) fun y11=>some y11
theorem JF (x0:Fct) (y0:Int):Le (FT x0 y0) (Do x0 y0):=by
  unfold FT Do
  repeat' (first|apply Le.ite|apply Le.bnd|apply Le.fin|apply Le.rng|apply Le.rngN|apply Le.lop|exact Le.rf|intro _)
noncomputable def Ch (x0:List Fct) (y0:Int):Option Int :=
  bnd (rng (ρ:=Int) (fun (k12:Nat) (a13:Fct) (s10:Unit)=>bnd (FT a13 y0) fun q32=>if q32=true then some (.ret (k12:Int)) else some (.next ())) x0 0 ()) fun res8=>fin res8 fun (s43:Unit)=>some (-1)
theorem Ec (x0:List Fct) (y0:Int):Le (Ch x0 y0) (Bi x0 y0):=by
  unfold Ch Bi
  repeat' (first|apply JF|apply Le.ite|apply Le.bnd|apply Le.fin|apply Le.rng|apply Le.rngN|apply Le.lop|exact Le.rf|intro _)
noncomputable def BW (x0:List Fct) (y0:Int):Option Bool :=
  bnd (bnd (Ch x0 y0) fun q10=>if 0≤q10 then (some true) else (some false):Option Bool) fun y6=>some y6
theorem DM (x0:List Fct) (y0:Int):Le (BW x0 y0) (Bc x0 y0):=by
  unfold BW Bc
  repeat' (first|apply Ec|apply Le.ite|apply Le.bnd|apply Le.fin|apply Le.rng|apply Le.rngN|apply Le.lop|exact Le.rf|intro _)
noncomputable def CU (x0:List Fct) (x1:Int):Option Bool :=
  bnd (bnd (BW x0 x1) fun q14=>if q14=true then some true else some false:Option Bool) fun y10=>some y10
theorem Gy (x0:List Fct) (x1:Int):Le (CU x0 x1) (Ci x0 x1):=by
  unfold CU Ci
  repeat' (first|apply DM|apply Le.ite|apply Le.bnd|apply Le.fin|apply Le.rng|apply Le.rngN|apply Le.lop|exact Le.rf|intro _)
noncomputable def Ha (x0:Job) (y0:Int):Option Bool :=
  bnd (bnd (CU x0.atStart y0) fun q35=>if q35=true then some true else bnd (CU x0.atEnd y0) fun q42=>if q42=true then some true else some false:Option Bool) fun y31=>some y31
theorem Lw (x0:Job) (y0:Int):Le (Ha x0 y0) (El x0 y0):=by
  unfold Ha El
  repeat' (first|apply Gy|apply Le.ite|apply Le.bnd|apply Le.fin|apply Le.rng|apply Le.rngN|apply Le.lop|exact Le.rf|intro _)
noncomputable def Cw (x0:List Job) (y0:Int):Option Int :=
  bnd (rng (ρ:=Int) (fun (k12:Nat) (a13:Job) (s10:Unit)=>bnd (Ha a13 y0) fun q52=>if q52=true then some (.ret (k12:Int)) else some (.next ())) x0 0 ()) fun res8=>fin res8 fun (s63:Unit)=>some (-1)
theorem EG (x0:List Job) (y0:Int):Le (Cw x0 y0) (Br x0 y0):=by
  unfold Cw Br
  repeat' (first|apply Lw|apply Le.ite|apply Le.bnd|apply Le.fin|apply Le.rng|apply Le.rngN|apply Le.lop|exact Le.rf|intro _)
noncomputable def Cp (x0:List Job) (y0:Int):Option Bool :=
  bnd (bnd (Cw x0 y0) fun q10=>if 0≤q10 then (some true) else (some false):Option Bool) fun y6=>some y6
theorem Es (x0:List Job) (y0:Int):Le (Cp x0 y0) (AQ x0 y0):=by
  unfold Cp AQ
  repeat' (first|apply EG|apply Le.ite|apply Le.bnd|apply Le.fin|apply Le.rng|apply Le.rngN|apply Le.lop|exact Le.rf|intro _)
noncomputable def Hb (x0:Job) (y0:Int):Option Bool :=
  bnd (bnd (CU x0.start y0) fun q35=>if q35=true then some true else bnd (CU x0.fin y0) fun q42=>if q42=true then some true else some false:Option Bool) fun y31=>some y31
theorem Lx (x0:Job) (y0:Int):Le (Hb x0 y0) (Em x0 y0):=by
  unfold Hb Em
  repeat' (first|apply Gy|apply Le.ite|apply Le.bnd|apply Le.fin|apply Le.rng|apply Le.rngN|apply Le.lop|exact Le.rf|intro _)
noncomputable def Cx (x0:List Job) (y0:Int):Option Int :=
  bnd (rng (ρ:=Int) (fun (k12:Nat) (a13:Job) (s10:Unit)=>bnd (Hb a13 y0) fun q52=>if q52=true then some (.ret (k12:Int)) else some (.next ())) x0 0 ()) fun res8=>fin res8 fun (s63:Unit)=>some (-1)
theorem EH (x0:List Job) (y0:Int):Le (Cx x0 y0) (Bt x0 y0):=by
  unfold Cx Bt
  repeat' (first|apply Lx|apply Le.ite|apply Le.bnd|apply Le.fin|apply Le.rng|apply Le.rngN|apply Le.lop|exact Le.rf|intro _)
noncomputable def Cq (x0:List Job) (y0:Int):Option Bool :=
  bnd (bnd (Cx x0 y0) fun q10=>if 0≤q10 then (some true) else (some false):Option Bool) fun y6=>some y6
theorem Et (x0:List Job) (y0:Int):Le (Cq x0 y0) (AZ x0 y0):=by
  unfold Cq AZ
  repeat' (first|apply EH|apply Le.ite|apply Le.bnd|apply Le.fin|apply Le.rng|apply Le.rngN|apply Le.lop|exact Le.rf|intro _)
noncomputable def HY (x0:Tpl):Option Lay :=
  bnd (Fb x0.vars) fun q29=>bnd (some q29:Option (List Int)) fun y31=>bnd (rng (ρ:=Lay) (fun (k81:Nat) (a82:Job) (s79:(List Int))=>bnd (chkI (a82.dur + 2)) fun n132=>bnd (appI 8 s79 ([n132,2]:List Int)) fun u141=>some (.next u141)) x0.jobs 0 y31) fun res77=>fin res77 fun (s158:(List Int))=>bnd (rng (ρ:=Lay) (fun (k166:Nat) (a167:Int) (s164:(List Int)×(List Int)×(List Int))=>bnd (bnd (Cp x0.jobs (k166:Int)) fun q204=>if q204=true then bnd (appI 8 s164.2.2 [2]) fun u213=>bnd (Cq x0.jobs (k166:Int)) fun q227=>if q227=true then bnd (appI 8 u213 [2]) fun u236=>some ((s164.2.2.length:Int),(u213.length:Int),u236) else some ((s164.2.2.length:Int),(-1),u213) else some ((-1),(-1),s164.2.2):Option (Int×Int×(List Int))) fun y196=>bnd (appI 8 s164.1 ([y196.1]:List Int)) fun u254=>bnd (appI 8 s164.2.1 ([y196.2.1]:List Int)) fun u256=>some (.next (u254,u256,y196.2.2))) x0.vars 0 (([]:List Int),([]:List Int),s158)) fun res162=>fin res162 fun (s358:(List Int)×(List Int)×(List Int))=>bnd (chkI ((x0.jobs.length:Int) + 2)) fun n366=>bnd (appI 8 s358.2.2 [n366]) fun u369=>some (⟨(x0.vars.length:Int),s358.1,s358.2.1,(s358.2.2.length:Int),u369⟩:Lay)
theorem Nt (x0:Tpl):Le (HY x0) (Dy x0):=by
  unfold HY Dy
  repeat' (first|apply Gw|apply Es|apply Et|apply Le.ite|apply Le.bnd|apply Le.fin|apply Le.rng|apply Le.rngN|apply Le.lop|exact Le.rf|intro _)
noncomputable def Ck (x0:Lay) (x1:Int):Option Int :=
  bnd (chkI (2 * x1)) fun n23=>bnd (chkI (x0.jobs + n23)) fun n26=>some n26
theorem GC (x0:Lay) (x1:Int):Le (Ck x0 x1) (BE x0 x1):=by
  unfold Ck BE
  repeat' (first|apply Le.ite|apply Le.bnd|apply Le.fin|apply Le.rng|apply Le.rngN|apply Le.lop|exact Le.rf|intro _)
noncomputable def DF (x0:Lay) (x1:Int):Option Int :=
  bnd (chkI (2 * x1)) fun n23=>bnd (chkI (x0.jobs + n23)) fun n26=>bnd (chkI (n26 + 1)) fun n29=>some n29
theorem GM (x0:Lay) (x1:Int):Le (DF x0 x1) (Cs x0 x1):=by
  unfold DF Cs
  repeat' (first|apply Le.ite|apply Le.bnd|apply Le.fin|apply Le.rng|apply Le.rngN|apply Le.lop|exact Le.rf|intro _)
noncomputable def Fk (x0:Lay) (x1:List Fct) (x2:List Fct):Option ((List Fct)×(List Eff)) :=
  bnd (rng (ρ:=(List Fct)×(List Eff)) (fun (k34:Nat) (a35:Int) (s32:(List Fct)×(List Eff))=>bnd (CU x2 (k34:Int)) fun q53=>if q53=true then bnd (appI 16 s32.1 [(⟨a35,0⟩:Fct)]) fun u135=>bnd (bnd (x0.read[k34]?) fun a153=>if 0≤a153 then (bnd (x0.read[k34]?) fun a164=>bnd (appI 16 u135 [(⟨a164,0⟩:Fct)]) fun u174=>some u174) else (some u135):Option (List Fct)) fun y147=>bnd (appI 40 s32.2 [(⟨([]:List Fct),a35,1⟩:Eff)]) fun u198=>some (.next (y147,u198)) else bnd (bnd (CU x1 (k34:Int)) fun q64=>if q64=true then if 0≤a35 then (some true) else (some false) else some false:Option Bool) fun y60=>if y60=true then (bnd (appI 16 s32.1 [(⟨a35,0⟩:Fct)]) fun u93=>bnd (x0.read[k34]?) fun a105=>bnd (appI 40 s32.2 [(⟨([]:List Fct),a105,1⟩:Eff)]) fun u115=>some (.next (u93,u115))) else (some (.next (s32.1,s32.2)))) x0.write 0 (([]:List Fct),([]:List Eff))) fun res30=>fin res30 fun (s214:(List Fct)×(List Eff))=>some (s214.1,s214.2)
theorem IM (x0:Lay) (x1:List Fct) (x2:List Fct):Le (Fk x0 x1 x2) (CI x0 x1 x2):=by
  unfold Fk CI
  repeat' (first|apply Gy|apply Le.ite|apply Le.bnd|apply Le.fin|apply Le.rng|apply Le.rngN|apply Le.lop|exact Le.rf|intro _)
noncomputable def Dz (x0:Lay) (x1:ByteArray) (x2:List Fct) (x3:List Fct) (x4:List Fct) (x5:List Eff):Option Opr :=
  bnd (Dr [x2,x4,[(⟨x0.phase,0⟩:Fct)]]) fun q56=>bnd (rng (ρ:=Opr) (fun (k79:Nat) (a80:Fct) (s77:(List Eff))=>bnd (appI 40 s77 [(⟨([]:List Fct),a80.var,a80.val⟩:Eff)]) fun u110=>some (.next u110)) x3 0 ([]:List Eff)) fun res75=>fin res75 fun (s128:(List Eff))=>bnd (Fk x0 x2 x3) fun q130=>bnd (appI 16 q56 q130.1) fun u145=>bnd (CY [s128,x5,q130.2]) fun q168=>bnd (srtE u145) fun u185=>some (⟨x1,0,u185,q168⟩:Opr)
theorem HT (x0:Lay) (x1:ByteArray) (x2:List Fct) (x3:List Fct) (x4:List Fct) (x5:List Eff):Le (Dz x0 x1 x2 x3 x4 x5) (BY x0 x1 x2 x3 x4 x5):=by
  unfold Dz BY
  repeat' (first|apply GA|apply FU|apply IM|exact fun r h=>TS h|apply Le.bnd|apply Le.fin|apply Le.rng|apply Le.ite|exact Le.rf|intro _)
noncomputable def FC (x0:Lay) (x1:Job) (x2:Int) (x3:Int):Option Opr :=
  bnd (catI (⟨#[119,97,105,116,32]⟩:ByteArray) x1.name) fun n58=>bnd (catI n58 (⟨#[32]⟩:ByteArray)) fun n60=>bnd (JD x3) fun q62=>bnd (catI n60 q62) fun n64=>bnd (some ():Option Unit) fun y66=>bnd (if 0 < x3 then (bnd (Dv x1.over) fun q108=>some q108) else (some ([]:List Fct)):Option (List Fct)) fun y101=>bnd (chkI (x2 + 1)) fun n124=>bnd (Ck x0 x2) fun q127=>bnd (appI 16 y101 [(⟨q127,x3⟩:Fct),(⟨x0.phase,n124⟩:Fct)]) fun u141=>bnd (if 1 < x3 then (bnd (chkI (x3 - 1)) fun n161=>bnd (Ck x0 x2) fun q164=>bnd (appI 40 ([]:List Eff) [(⟨([]:List Fct),q164,n161⟩:Eff)]) fun u180=>some u180) else (if x3=1 then (bnd (chkI (x1.dur + 1)) fun n194=>bnd (Ck x0 x2) fun q197=>bnd (appI 40 ([]:List Eff) [(⟨([]:List Fct),q197,n194⟩:Eff)]) fun u213=>some u213) else (some ([]:List Eff))):Option (List Eff)) fun y154=>bnd (chkI (x2 + 2)) fun n230=>bnd (appI 40 y154 [(⟨([]:List Fct),x0.phase,n230⟩:Eff)]) fun u233=>some (⟨n64,0,u141,u233⟩:Opr)
theorem Ji (x0:Lay) (x1:Job) (x2:Int) (x3:Int):Le (FC x0 x1 x2 x3) (CC x0 x1 x2 x3):=by
  unfold FC CC
  repeat' (first|apply GC|apply EL|apply MV|apply Le.ite|apply Le.bnd|apply Le.fin|apply Le.rng|apply Le.rngN|apply Le.lop|exact Le.rf|intro _)
noncomputable def EX (x0:Lay) (x1:Int):Option Opr :=
  bnd (chkI (x1 + 1)) fun n28=>bnd (natI x1) fun N57=>bnd (rngN (ρ:=Opr) (fun (k48:Nat) (s46:(List Eff))=>bnd (DF x0 (k48:Int)) fun q63=>bnd (appI 40 s46 [(⟨([]:List Fct),q63,0⟩:Eff)]) fun u77=>some (.next u77)) N57 ([]:List Eff)) fun res44=>fin res44 fun (s94:(List Eff))=>bnd (rng (ρ:=Opr) (fun (k102:Nat) (a103:Int) (s100:(List Eff))=>bnd (if 0≤a103 then (bnd (appI 40 s100 [(⟨([]:List Fct),a103,0⟩:Eff)]) fun u146=>some u146) else (some s100):Option (List Eff)) fun y117=>bnd (x0.read[k102]?) fun a163=>if 0≤a163 then (bnd (x0.read[k102]?) fun a174=>bnd (appI 40 y117 [(⟨([]:List Fct),a174,0⟩:Eff)]) fun u190=>some (.next u190)) else (some (.next y117))) x0.write 0 s94) fun res98=>fin res98 fun (s207:(List Eff))=>bnd (appI 40 s207 [(⟨([]:List Fct),x0.phase,0⟩:Eff)]) fun u209=>some (⟨(⟨#[97,100,118,97,110,99,101]⟩:ByteArray),1,[(⟨x0.phase,n28⟩:Fct)],u209⟩:Opr)
theorem Ii (x0:Lay) (x1:Int):Le (EX x0 x1) (Co x0 x1):=by
  unfold EX Co
  repeat' (first|apply GM|apply Le.ite|apply Le.bnd|apply Le.fin|apply Le.rng|apply Le.rngN|apply Le.lop|exact Le.rf|intro _)
noncomputable def Fp (x0:Tpl):Option (Tsk×Err) :=
  bnd (FR x0) fun q29=>if q29.n≠0 then (some ((⟨([]:List Int),([]:List Int),([]:List Fct),([]:List Opr)⟩:Tsk),(⟨q29.n⟩:Err))) else (bnd (HY x0) fun q40=>bnd (mkI 8 (0:Int) (q40.vars.length:Int)) fun u69=>bnd (Dv x0.goal) fun q71=>bnd (some (u69,q71):Option ((List Int)×(List Fct))) fun y73=>bnd (rng (ρ:=Tsk×Err) (fun (k228:Nat) (a229:Job) (s226:(List Fct)×(List Opr))=>bnd (Ck q40 (k228:Int)) fun q283=>bnd (DF q40 (k228:Int)) fun q285=>bnd (some ():Option Unit) fun y287=>bnd (catI (⟨#[115,116,97,114,116,32]⟩:ByteArray) a229.name) fun n533=>bnd (Ck q40 (k228:Int)) fun q535=>bnd (Dz q40 n533 a229.start a229.atStart [(⟨q283,0⟩:Fct),(⟨q285,0⟩:Fct)] [(⟨([]:List Fct),q535,a229.dur⟩:Eff)]) fun q537=>bnd (appI 72 s226.2 [q537]) fun u539=>bnd (some u539:Option (List Opr)) fun y541=>bnd (chkI (a229.dur + 1)) fun n710=>bnd (Ck q40 (k228:Int)) fun q712=>bnd (some ():Option Unit) fun y714=>bnd (catI (⟨#[101,110,100,32]⟩:ByteArray) a229.name) fun n752=>bnd (Ck q40 (k228:Int)) fun q754=>bnd (DF q40 (k228:Int)) fun q756=>bnd (Dz q40 n752 a229.fin a229.atEnd [(⟨q712,n710⟩:Fct)] [(⟨([]:List Fct),q754,0⟩:Eff),(⟨([]:List Fct),q756,1⟩:Eff)]) fun q758=>bnd (appI 72 y541 [q758]) fun u760=>bnd (some u760:Option (List Opr)) fun y762=>bnd (appI 16 s226.1 [(⟨q283,0⟩:Fct)]) fun u998=>some (.next (u998,y762))) x0.jobs 0 (y73.2,([]:List Opr))) fun res224=>fin res224 fun (s1016:(List Fct)×(List Opr))=>bnd (appI 16 s1016.1 [(⟨q40.phase,0⟩:Fct)]) fun u1018=>bnd (if 0 < (x0.jobs.length:Int) then (bnd (appI 72 s1016.2 [(⟨(⟨#[116,105,99,107]⟩:ByteArray),0,[(⟨q40.phase,0⟩:Fct)],[(⟨([]:List Fct),q40.phase,1⟩:Eff)]⟩:Opr)]) fun u1057=>bnd (rng (ρ:=(List Opr)) (fun (k1077:Nat) (a1078:Job) (s1075:(List Opr))=>bnd (chkI (a1078.dur + 1)) fun n1128=>bnd (natI n1128) fun N1144=>bnd (rngN (ρ:=Ctl (List Opr) (List Opr)) (fun (k1135:Nat) (s1133:(List Opr))=>bnd (FC q40 a1078 (k1077:Int) (k1135:Int)) fun q1150=>bnd (appI 72 s1133 [q1150]) fun u1174=>some (.next u1174)) N1144 s1075) fun res1131=>fin res1131 fun (s1191:(List Opr))=>some (.next s1191)) x0.jobs 0 u1057) fun res1073=>fin res1073 fun (s1197:(List Opr))=>bnd (EX q40 (x0.jobs.length:Int)) fun q1201=>bnd (appI 72 s1197 [q1201]) fun u1225=>some u1225) else (some s1016.2):Option (List Opr)) fun y1032=>bnd (Lb (⟨q40.vars,(cpyL y73.1 x0.init),u1018,y1032⟩:Tsk)) fun q1248=>if q1248.n≠0 then (some ((⟨([]:List Int),([]:List Int),([]:List Fct),([]:List Opr)⟩:Tsk),(⟨q1248.n⟩:Err))) else (some ((⟨q40.vars,(cpyL y73.1 x0.init),u1018,y1032⟩:Tsk),(⟨0⟩:Err))))
theorem HU (x0:Tpl):Le (Fp x0) (BK x0):=by
  unfold Fp BK
  repeat' (first|apply Nt|apply Ii|apply GM|apply HT|apply GC|apply Ji|apply EL|apply Of|apply HZ|apply Le.ite|apply Le.bnd|apply Le.fin|apply Le.rng|apply Le.rngN|apply Le.lop|exact Le.rf|intro _)
noncomputable def Dc (x0:List Lch) (x1:Lch):Option Int :=
  bnd (rng (ρ:=Int) (fun (k19:Nat) (a20:Lch) (s17:Unit)=>if x1.tm=a20.tm∧x1.job=a20.job then (some (.ret (k19:Int))) else (some (.next ()))) x0 0 ()) fun res15=>fin res15 fun (s44:Unit)=>some (-1)
theorem Ge (x0:List Lch) (x1:Lch):Le (Dc x0 x1) (BP x0 x1):=by
  unfold Dc BP
  repeat' (first|apply Le.ite|apply Le.bnd|apply Le.fin|apply Le.rng|apply Le.rngN|apply Le.lop|exact Le.rf|intro _)
noncomputable def CR (x0:List Lch) (x1:Lch):Option Bool :=
  bnd (bnd (Dc x0 x1) fun q17=>if 0≤q17 then (some true) else (some false):Option Bool) fun y13=>some y13
theorem FE (x0:List Lch) (x1:Lch):Le (CR x0 x1) (Bp x0 x1):=by
  unfold CR Bp
  repeat' (first|apply Ge|apply Le.ite|apply Le.bnd|apply Le.fin|apply Le.rng|apply Le.rngN|apply Le.lop|exact Le.rf|intro _)
noncomputable def FD (x0:Wtr):Option Wtr :=
  bnd (chkI (2 * (x0.t.jobs.length:Int))) fun n40=>bnd (appI 8 x0.out ([n40]:List Int)) fun u49=>bnd (rng (ρ:=Wtr) (fun (k73:Nat) (a74:Job) (s71:Wtr)=>bnd (s71.first[k73]?) fun a122=>bnd (s71.left[k73]?) fun a132=>bnd (chkI (a122 + a132)) fun n142=>bnd (appI 8 s71.out ([n142]:List Int)) fun u151=>bnd (s71.left[k73]?) fun a164=>bnd (chkI (a164 - 1)) fun n174=>bnd (s71.left[k73]?) fun a177=>some (.next (⟨(⟨s71.t.vars,s71.t.init,s71.t.goal,s71.t.jobs⟩:Tpl),s71.first,s71.last,(s71.left.set k73 (max 0 n174)),u151⟩:Wtr))) x0.t.jobs 0 (⟨(⟨x0.t.vars,x0.t.init,x0.t.goal,x0.t.jobs⟩:Tpl),x0.first,x0.last,x0.left,u49⟩:Wtr)) fun res69=>fin res69 fun (s198:Wtr)=>bnd (appI 8 s198.out ([s198.last]:List Int)) fun u242=>some (⟨(⟨s198.t.vars,s198.t.init,s198.t.goal,s198.t.jobs⟩:Tpl),s198.first,s198.last,s198.left,u242⟩:Wtr)
theorem Jj (x0:Wtr):Le (FD x0) (CN x0):=by
  unfold FD CN
  repeat' (first|apply Le.ite|apply Le.bnd|apply Le.fin|apply Le.rng|apply Le.rngN|apply Le.lop|exact Le.rf|intro _)
noncomputable def HG (x0:Tpl) (x1:List Lch):Option ((List Int)×Err) :=
  bnd (Gd x0 x1) fun q27=>if q27.2.n≠0 then (some (([]:List Int),(⟨q27.2.n⟩:Err))) else (bnd (Fp x0) fun q41=>if q41.2.n≠0 then (some (([]:List Int),(⟨q41.2.n⟩:Err))) else (bnd (chkI (2 * (x1.length:Int))) fun n80=>bnd (chkI ((x0.jobs.length:Int) + 2)) fun n85=>bnd (chkI (q27.1 * n85)) fun n88=>bnd (chkI (n80 + n88)) fun n91=>if 65536 < n91 then (some (([]:List Int),(⟨5⟩:Err))) else (bnd (chkI ((q41.1.ops.length:Int) - 1)) fun n97=>bnd (mkI 8 (0:Int) (x0.jobs.length:Int)) fun u102=>bnd (chkI (2 * (x0.jobs.length:Int))) fun n122=>bnd (chkI (n122 + 1)) fun n125=>bnd (rng (ρ:=(List Int)×Err) (fun (k143:Nat) (a144:Job) (s141:Int×Wtr)=>bnd (appI 8 s141.2.first [s141.1]) fun u230=>bnd (chkI (a144.dur + 1)) fun n244=>bnd (chkI (s141.1 + n244)) fun n247=>some (.next (n247,(⟨(⟨s141.2.t.vars,s141.2.t.init,s141.2.t.goal,s141.2.t.jobs⟩:Tpl),u230,s141.2.last,s141.2.left,s141.2.out⟩:Wtr)))) x0.jobs 0 (n125,(⟨(⟨x0.vars,x0.init,x0.goal,x0.jobs⟩:Tpl),([]:List Int),n97,u102,([]:List Int)⟩:Wtr))) fun res139=>fin res139 fun (s259:Int×Wtr)=>bnd (IH x1) fun q261=>bnd (chkI (q27.1 + 1)) fun n270=>bnd (natI n270) fun N286=>bnd (rngN (ρ:=(List Int)×Err) (fun (k277:Nat) (s275:Wtr)=>bnd (rng (ρ:=Ctl Wtr ((List Int)×Err)) (fun (k296:Nat) (a297:Job) (s294:Wtr)=>bnd (chkI ((k277:Int) - a297.dur)) fun n345=>bnd (CR x1 (⟨n345,(k296:Int)⟩:Lch)) fun q348=>if q348=true then bnd (chkI (2 * (k296:Int))) fun n391=>bnd (chkI (n391 + 1)) fun n394=>bnd (appI 8 s294.out [n394]) fun u397=>some (.next (⟨(⟨s294.t.vars,s294.t.init,s294.t.goal,s294.t.jobs⟩:Tpl),s294.first,s294.last,s294.left,u397⟩:Wtr)) else some (.next s294)) x0.jobs 0 s275) fun res292=>fin res292 fun (s420:Wtr)=>bnd (rng (ρ:=Ctl Wtr ((List Int)×Err)) (fun (k428:Nat) (a429:Lch) (s426:Wtr)=>if a429.tm=(k277:Int) then (bnd (chkI (2 * a429.job)) fun n494=>bnd (appI 8 s426.out ([n494]:List Int)) fun u503=>bnd (atI x0.jobs a429.job) fun a516=>bnd (atI s426.left a429.job) fun a549=>some (.next (⟨(⟨s426.t.vars,s426.t.init,s426.t.goal,s426.t.jobs⟩:Tpl),s426.first,s426.last,(s426.left.set (a429.job:Int).toNat a516.dur),u503⟩:Wtr))) else (some (.next s426))) q261 0 s420) fun res424=>fin res424 fun (s572:Wtr)=>if (k277:Int) < q27.1 then (bnd (FD s572) fun q575=>some (.next q575)) else (some (.next s572))) N286 s259.2) fun res273=>fin res273 fun (s587:Wtr)=>some (s587.out,(⟨0⟩:Err)))))
theorem MW (x0:Tpl) (x1:List Lch):Le (HG x0 x1) (Ct x0 x1):=by
  unfold HG Ct
  repeat' (first|apply HU|apply Ls|apply Jj|apply FE|apply Kj|apply Le.ite|apply Le.bnd|apply Le.fin|apply Le.rng|apply Le.rngN|apply Le.lop|exact Le.rf|intro _)
noncomputable def Hs  : Option Tpl :=
  some (⟨([2]:List Int),([0]:List Int),[(⟨0,0⟩:Fct)],[(⟨(⟨#[108,105,103,104,116]⟩:ByteArray),3,[(⟨0,0⟩:Fct)],[(⟨0,1⟩:Fct)],([]:List Fct),[(⟨0,1⟩:Fct)],[(⟨0,0⟩:Fct)]⟩:Job)]⟩:Tpl)
theorem Oh  : Le (Hs ) (Fz ):=by
  unfold Hs Fz
  repeat' (first|apply Le.ite|apply Le.bnd|apply Le.fin|apply Le.rng|apply Le.rngN|apply Le.lop|exact Le.rf|intro _)
noncomputable def Ks  : Option Bool :=
  bnd (Hs) fun q1=>bnd (Fp q1) fun q25=>bnd (Hs) fun q61=>bnd (HG q61 [(⟨0,0⟩:Lch)]) fun q93=>bnd (if q25.2.n=0 then (if q93.2.n=0 then (bnd (HN q25.1.vars ([2,5,2,2,2,3]:List Int)) fun q119=>if q119=true then bnd (HN q93.1 ([0,2,6,7,2,5,7,2,4,7,1]:List Int)) fun q132=>if q132=true then some true else some false else some false) else (some false)) else (some false):Option Bool) fun y107=>some y107
theorem Nu  : Le (Ks ) (EF ):=by
  unfold Ks EF
  repeat' (first|apply Pf|apply HU|apply MW|apply Oh|apply Le.ite|apply Le.bnd|apply Le.fin|apply Le.rng|apply Le.rngN|apply Le.lop|exact Le.rf|intro _)
set_option maxRecDepth 100000 in
theorem awake56:EF=some true:=Nu true (by kernel_rfl)
end
section
open Go Go.RowKit
theorem HH {α σ ρ:Type} {f:Nat→α→σ→Option (Ctl σ ρ)} {k:Nat} {s:σ}:rng f [] k s=some (.done s):=by rw [rng]
theorem TW (t:Tpl) (l:List Lch):∃ b,GK t l=some b∧(b=true→t.vars.length≤70∧t.jobs.length≤30∧l.length≤12∧t.goal.length≤80∧∀ j∈t.jobs,j.name.size≤300):=by
  unfold GK
  by_cases h1:70 < (t.vars.length:Int)
  · rw [if_pos h1,Ae,ET];exact ⟨_,rfl,fun h=>by cases h⟩
  rw [if_neg h1]
  by_cases h2:30 < (t.jobs.length:Int)
  · rw [if_pos h2,Ae,ET];exact ⟨_,rfl,fun h=>by cases h⟩
  rw [if_neg h2]
  by_cases h3:12 < (l.length:Int)
  · rw [if_pos h3,Ae,ET];exact ⟨_,rfl,fun h=>by cases h⟩
  rw [if_neg h3]
  by_cases h4:80 < (t.goal.length:Int)
  · rw [if_pos h4,Ae,ET];exact ⟨_,rfl,fun h=>by cases h⟩
  rw [if_neg h4,Ae,Gn]
  rw [Jr (fun j:Job=>decide (100 < wr (wr (wr (wr ((j.start.length:Int) + (j.over.length:Int)) + (j.fin.length:Int)) + (j.atStart.length:Int)) + (j.atEnd.length:Int))) || decide (300 < (j.name.size:Int))) false (fun k a hk=>by rw [Oq,Ae])]
  split
  · exact ⟨_,rfl,fun h=>by cases h⟩
  · rename_i h5
    refine ⟨_,rfl,fun _=>⟨by omega,by omega,by omega,by omega,fun j hj=>?_⟩⟩
    simp only [List.any_eq_true,not_exists,not_and,Bool.or_eq_true,decide_eq_true_eq,not_or] at h5
    have:=(h5 j hj).2
    omega
theorem PZ {l:List Int} (h:l.length≤1000):Bu l=some l:=if_pos ⟨by omega,by omega⟩
theorem Mo {l:List Fct} (h:l.length≤1000):BH l=some l:=if_pos ⟨by omega,by omega⟩
theorem noJob1 (v:Int):AQ [] v=some false:=rfl
def tpl0 (t:Tpl):Tpl:=⟨t.vars,t.init,t.goal,[]⟩
theorem lay0 {t:Tpl} (h:t.vars.length≤64):Dy (tpl0 t)=some ⟨(t.vars.length:Int),List.replicate t.vars.length (-1),List.replicate t.vars.length (-1),(t.vars.length:Int),t.vars ++ [2]⟩:=by
  unfold Dy tpl0
  dsimp only
  rw [PZ (by omega),Ae,Ae]
  rw [HH,Ae,BD]
  rw [CA (fun k=>(List.replicate k (-1),List.replicate k (-1),t.vars)) (by simp) (fun k x hk=>by
    have hlt:=Bj hk
    rw [noJob1,Ae,Gn,Ae]
    rw [AX (by simp;omega) (by simp;omega),Ae,Ae]
    simp [List.replicate_succ'])]
  rw [Ae,BD]
  show bnd (chkI ((0:Int) + 2)) _=_
  rw [show chkI ((0:Int) + 2)=some 2 from rfl,Ae,AX (by simp;omega) (by simp;omega),Ae]
def out0 (t:Tpl):Tsk:=⟨t.vars ++ [2],t.init ++ [0],t.goal ++ [⟨(t.vars.length:Int),0⟩],[]⟩
theorem TX {t:Tpl} (h:TplOk t):TplOk (tpl0 t):=⟨h.nv,by simp [tpl0],h.doms,fun j hj=>(by cases hj),h.init,fun l hl=>(by
    have:l=t.goal:=by simpa [lsts,tpl0] using hl
    subst this;exact h.goal)⟩
theorem UN {t:Tpl} (h:TplOk t) (hn:∀ j∈t.jobs,nmB j.name=true):tck t=0:=by
  unfold tck
  rw [if_neg (by
    simp only [Bool.or_eq_true,decide_eq_true_eq,List.any_eq_true,not_or,not_exists,not_and]
    exact ⟨Nat.not_lt.2 h.nv,Nat.not_lt.2 h.nj,fun l hl=>Nat.not_lt.2 (h.lists l hl).1⟩)]
  rw [if_neg (by
    simp only [Bool.or_eq_true,decide_eq_true_eq,List.any_eq_true,not_exists,not_and]
    intro n hn2 hq;have:=h.doms n hn2;omega)]
  rw [if_neg (by
    simp only [Bool.or_eq_true,decide_eq_true_eq,List.any_eq_true,not_exists,not_and]
    intro n hn2 hq;have:=h.durs n hn2;omega)]
  rw [if_pos (Df h.init)]
  rw [if_neg (by
    simp only [List.any_eq_true,not_exists,not_and]
    intro l hl;rw [Df (h.lists l hl).2];decide)]
  rw [if_neg (by
    simp only [List.any_eq_true,not_exists,not_and]
    intro j hj;rw [hn j hj];decide)]
theorem tck0 {t:Tpl} (h:TplOk t):tck (tpl0 t)=0:=UN (TX h) fun j hj=>by cases hj
theorem cpy0 {l:List Int} {n:Nat} (h:l.length=n):cpyL (List.replicate (n + 1) (0:Int)) l=l ++ [0]:=by
  unfold cpyL
  subst h
  rw [List.length_replicate,List.take_of_length_le (by omega),List.drop_replicate,show l.length + 1 - l.length=1 from by omega]
  rfl
theorem compile0 {t:Tpl} (h:TplOk t):BK (tpl0 t)=some (if checkN (out0 t)≠0 then (⟨[],[],[],[]⟩,⟨checkN (out0 t)⟩) else (out0 t,⟨0⟩)):=by
  have hn:=h.nv
  have hg:=h.goal.1
  unfold BK
  rw [HR (by simp [tpl0]),tck0 h,Ae,if_neg (by simp),lay0 hn,Ae]
  dsimp only
  rw [OB (by simp;omega) (by simp;omega),Ae]
  rw [show (tpl0 t).goal=t.goal from rfl,Mo (by omega),Ae,Ae]
  rw [show (tpl0 t).jobs=[] from rfl,HH,Ae,BD]
  dsimp only
  rw [AX (by simp;omega) (by simp;omega),Ae,if_neg (by simp),Ae]
  rw [show (tpl0 t).init=t.init from rfl,show (t.vars ++ [(2:Int)]).length=t.vars.length + 1 from by simp,cpy0 h.init.1]
  unfold DO
  rw [Ae]
  show (if checkN (out0 t)≠0 then _ else _)=_
  by_cases hc:checkN (out0 t)≠0
  · rw [if_pos hc,if_pos hc];rfl
  · rw [if_neg hc,if_neg hc];rfl
theorem QH {t:Tpl} (h:TplOk t):(t.vars.length < 64→checkN (out0 t)=0)∧(64≤t.vars.length→checkN (out0 t)=5):=by
  constructor
  · intro hl
    refine FP.2 ⟨by simp [out0];omega,by simp [out0],fun i n hn=>?_,⟨?_,fun i x y hx hy=>?_⟩,factsPw.2 ⟨fun x hx=>?_,?_⟩,fun i o ho=>by simp [out0] at ho⟩
    · rcases List.mem_append.1 (List.mem_of_getElem? hn) with hm|hm
      · exact h.doms n hm
      · have:n=2:=by simpa using hm
        omega
    · have:=h.init.1;simp [out0];exact this
    · have hi:=h.init.1
      by_cases hlt:i < t.vars.length
      · have hx':t.init[i]?=some x:=by rw [← hx];exact (List.getElem?_append_left (by omega)).symm
        have hy':t.vars[i]?=some y:=by rw [← hy];exact (List.getElem?_append_left hlt).symm
        exact h.init.2 i x y hx' hy'
      · have hlt2:=Bj hy
        have hie:i=t.vars.length:=by simp [out0] at hlt2;omega
        subst hie
        have e1:x=0:=by
          have:(t.init ++ [0])[t.vars.length]?=some x:=hx
          rw [List.getElem?_append_right (by omega),hi] at this
          simpa using this.symm
        have e2:y=2:=by
          have:(t.vars ++ [2])[t.vars.length]?=some y:=hy
          simpa using this.symm
        omega
    · rcases List.mem_append.1 hx with hm|hm
      · exact Sb ((factsPw.1 h.goal.2).1 x hm)
      · have:x=(⟨(t.vars.length:Int),0⟩:Fct):=by simpa using hm
        subst this
        exact ⟨by simp,by simp,2,by simp [out0],by simp⟩
    · show (t.goal ++ [(⟨(t.vars.length:Int),0⟩:Fct)]).Pairwise _
      rw [List.pairwise_append]
      refine ⟨(factsPw.1 h.goal.2).2,List.pairwise_singleton _ _,fun a ha b hb=>?_⟩
      have:b=(⟨(t.vars.length:Int),0⟩:Fct):=by simpa using hb
      subst this
      exact (Fx ((factsPw.1 h.goal.2).1 a ha)).2
  · intro hl
    unfold checkN
    rw [if_pos (Df (.inl (by simp [out0];omega)))]
theorem validate0 {t:Tpl} (h:TplOk t):Cu (tpl0 t) []=some (if holdsB t.goal t.init=true then (0,⟨0⟩) else (0,⟨13⟩)):=by
  unfold Cu CT
  rw [HR (by simp [tpl0]),tck0 h,Ae,if_neg (by simp),if_neg (by simp)]
  have e1:Cc (tpl0 t) []=some (⟨[]⟩,[]):=by
    unfold Cc
    rw [HH,Ae,BD]
    have:keysI (⟨[]⟩:MapR 182 Int Hap)=some []:=if_pos ⟨fun a ha=>(by cases ha),by decide⟩
    rw [this,Ae]
    have h2:BS []=some []:=by unfold BS;rw [if_pos (by simp),NH];rfl
    rw [h2,Ae]
  rw [HH,Ae,BD,Ae,if_neg (by simp),e1,Ae]
  dsimp only
  rw [HH,Ae,BD]
  unfold Cn
  rw [Ae]
  show (if holdsB t.goal t.init=true then _ else _)=_
  cases holdsB t.goal t.init with
  | false=>rfl
  | true =>
    rw [ET,ET]
    unfold CK
    rw [HH,Ae,BD,Ae]
set_option maxRecDepth 100000 in
theorem plan0 {t:Tpl} (h:TplOk t) (hl:t.vars.length < 64):Ct (tpl0 t) []=some (if holdsB t.goal t.init=true then ([],⟨0⟩) else ([],⟨13⟩)):=by
  unfold Ct
  rw [validate0 h,Ae]
  cases hh:holdsB t.goal t.init with
  | false=>rw [Gn,Gn];rfl
  | true =>
    rw [ET,ET,compile0 h,Ae,(QH h).1 hl,if_neg (by simp)]
    have s0:Dm []=some []:=by unfold Dm;rw [if_pos (by simp),PX .nil]
    have hj:(tpl0 t).jobs=[]:=rfl
    rw [show (if (0:Int)≠0 then ((⟨[],[],[],[]⟩:Tsk),(⟨0⟩:Err)) else (out0 t,⟨0⟩))=(out0 t,⟨0⟩) from if_neg (by simp),if_neg (by simp)]
    have k5:(((out0 t).ops.length:Nat):Int) - 1=-1:=by simp [out0]
    simp only [hj,s0,List.length_nil,k5]
    rw [show chkI (2 * ((0:Nat):Int))=some 0 from rfl]
    simp only [Ae]
    rw [show chkI (((0:Nat):Int) + 2)=some 2 from rfl]
    simp only [Ae]
    rw [show chkI ((0:Int) * 2)=some 0 from rfl]
    simp only [Ae]
    rw [show chkI ((0:Int) + 0)=some 0 from rfl]
    simp only [Ae]
    rw [if_neg (by decide),show chkI (-1:Int)=some (-1) from rfl]
    simp only [Ae]
    rw [show mkI 8 (0:Int) ((0:Nat):Int)=some [] from rfl]
    simp only [Ae,HH,BD]
    rw [show chkI ((0:Int) + 1)=some 1 from rfl]
    simp only [Ae]
    rw [show natI (1:Int)=some 1 from rfl]
    simp only [Ae]
    rw [HQ (fun _=>_) rfl (fun k hk=>by
      rw [if_neg (by omega)])]
    rfl
end
end Go.Proofs.YtjohlgjklmagnaaGreatDoor

/- CompileEmpty returns true for every temporal task, and it reads behind the call as before. No conditions. -/
import Derived.Test.YtjohlgjklmagnaaGreatDoorCED
import Derived.Test.YtjohlgjklmagnaaGreatDoorRows
set_option linter.unusedVariables false
set_option linter.unusedSimpArgs false
namespace Go.Proofs.YtjohlgjklmagnaaGreatDoor
open Go Go.RowKit
section
open Go Go.RowKit
def lift1 (n:Nat) (Q:Post) (e:Exit) (a:Act) (w:World):Prop:=noPanic e∧∃ l,Ok n a l∧Q e l w
def ewp1 (P:Program) (n:Nat) (c:Code) (Q:Post) (l:Env) (w:World):Prop:=∀ a,Ok n a l→c.wp P (lift1 n Q) a w
def owp1 (P:Program) (n:Nat) (ops:Array Oper) (Q:Post) (rest:List Oper) (l:Env) (w:World):Prop:=∀ a,Ok n a l→wpList P ops (lift1 n Q) rest a w
section
variable {P : Program} {n : Nat} {Q : Post} {l : Env} {w : World}
theorem Em {x y:Code} (h:ewp1 P n x (thn (ewp1 P n y Q) Q) l w):ewp1 P n (.seq x y) Q l w:=fun a ha =>
  wp_seq (Code.wp_mono (fun e a w hl=>by
    obtain ⟨hn,l',ho,hq⟩:=hl
    cases e with
    | normal=>exact hq a ho
    | panic c=>exact hn.elim
    | outgrown=>exact hn.elim
    | exit i=>exact ⟨trivial,l',ho,hq⟩
    | goto i=>exact ⟨trivial,l',ho,hq⟩
    | ret=>exact ⟨trivial,l',ho,hq⟩) (h a ha))
theorem LT (h:Q .normal l w):ewp1 P n .skip Q l w:=fun _ ha=>wp_skip ⟨trivial,l,ha,h⟩
theorem NF {i:Nat} (h:Q (.exit i) l w):ewp1 P n (.exit i) Q l w:=fun _ ha=>wp_exit ⟨trivial,l,ha,h⟩
theorem KQ (h:Q .ret l w):ewp1 P n .ret Q l w:=fun _ ha=>wp_ret ⟨trivial,l,ha,h⟩
theorem LU {c:Operand} {x y:Code} (hc:opv l c=some (.bool true)) (h:ewp1 P n x Q l w):ewp1 P n (.cond c x y) Q l w:=fun a ha=>wp_cond_true (ha.eval hc) (h a ha)
theorem Lh {c:Operand} {x y:Code} (hc:opv l c=some (.bool false)) (h:ewp1 P n y Q l w):ewp1 P n (.cond c x y) Q l w:=fun a ha=>wp_cond_false (ha.eval hc) (h a ha)
theorem Li {id:Nat} {c:Code} (h:ewp1 P n c (inBlk id Q) l w):ewp1 P n (.block id c) Q l w:=fun a ha =>
  wp_block (Code.wp_mono (fun e a w hl=>by
    obtain ⟨hn,l',ho,hq⟩:=hl
    cases e with
    | exit i =>
      simp only [Exit.inBlock]
      simp only [inBlk] at hq
      by_cases hi:i=id
      · subst hi
        have hb:Nat.beq i i=true:=Nat.beq_refl i
        rw [hb] at hq
        rw [if_pos rfl]
        exact ⟨trivial,l',ho,hq⟩
      · have hb:Nat.beq i id=false:=by
          cases hx:Nat.beq i id
          · rfl
          · exact absurd (Nat.eq_of_beq_eq_true hx) hi
        rw [hb] at hq
        rw [if_neg hi]
        exact ⟨trivial,l',ho,hq⟩
    | panic c=>exact hn.elim
    | outgrown=>exact hn.elim
    | normal=>exact ⟨trivial,l',ho,hq⟩
    | goto i=>exact ⟨trivial,l',ho,hq⟩
    | ret=>exact ⟨trivial,l',ho,hq⟩) (h a ha))
theorem DO {id:Nat} {L:List Oper} (h:owp1 P n L.toArray Q L l w):ewp1 P n (.region id L.toArray false) Q l w:=fun a ha=>wp_region_lit (h a ha)
theorem NG {c:Code} (E:Nat→Env) (I:Nat→Prop) (N k₀:Nat) (hs:subs l (E k₀)) (h₀:I k₀)
    (round:∀ k,I k→k≤N∧ewp1 P n c (thn (fun l' w'=>w'=w∧subs l' (E (k + 1))∧I (k + 1)) Q) (E k) w):ewp1 P n (.loop c) Q l w:=by
  intro a ha
  have hex:∀ a' w',(∃ k,w'=w∧Ok n a' (E k)∧I k)→∃ m,(∃ k,w'=w∧Ok n a' (E k)∧I k∧N - k=m)∧∀ k,Ok n a' (E k)→I k→m≤N - k:=by
    intro a' w' ⟨k,h1,h2,h3⟩
    have:∀ (q k:Nat),N - k≤q→Ok n a' (E k)→I k→∃ m,(∃ k,w'=w∧Ok n a' (E k)∧I k∧N - k=m)∧∀ k,Ok n a' (E k)→I k→m≤N - k:=by
      intro q
      induction q with
      | zero=>intro k hq ho hI;exact ⟨N - k,⟨k,h1,ho,hI,rfl⟩,fun _ _ _=>by omega⟩
      | succ q ih =>
        intro k hq ho hI
        by_cases hx:∃ k',Ok n a' (E k')∧I k'∧N - k'≤q
        · obtain ⟨k',g1,g2,g3⟩:=hx
          exact ih k' g3 g1 g2
        · refine ⟨N - k,⟨k,h1,ho,hI,rfl⟩,fun k' g1 g2=>?_⟩
          rcases Nat.lt_or_ge (N - k') (N - k) with h|h
          · exact absurd ⟨k',g1,g2,by omega⟩ hx
          · exact h
    exact this _ k (Nat.le_refl _) h2 h3
  refine wp_loop (fun a' w'=>∃ k,w'=w∧Ok n a' (E k)∧I k) (fun a' w'=>Classical.epsilon fun m=>(∃ k,w'=w∧Ok n a' (E k)∧I k∧N - k=m)∧∀ k,Ok n a' (E k)→I k→m≤N - k) ⟨k₀,rfl,ha.sub hs,h₀⟩ ?_
  intro a' w' hinv
  obtain ⟨⟨k,rfl,ho,hI,hk⟩,_⟩:=Classical.epsilon_spec (hex a' w' hinv)
  obtain ⟨hkN,hr⟩:=round k hI
  refine Code.wp_mono (fun e a'' w'' hl=>?_) (hr a' ho)
  obtain ⟨hn,l',ho',hq⟩:=hl
  cases e with
  | normal =>
    obtain ⟨rfl,hs₂,hI₂⟩:=hq
    have ho₂:=ho'.sub hs₂
    refine ⟨⟨k + 1,rfl,ho₂,hI₂⟩,?_⟩
    obtain ⟨_,hmin⟩:=Classical.epsilon_spec (hex a'' w'' ⟨k + 1,rfl,ho₂,hI₂⟩)
    have h1:=hmin (k + 1) ho₂ hI₂
    have h2:=(round (k + 1) hI₂).1
    exact Nat.lt_of_le_of_lt h1 (Nat.lt_of_lt_of_eq (by omega) hk)
  | panic c=>exact hn.elim
  | outgrown=>exact hn.elim
  | exit i=>exact ⟨trivial,l',ho',hq⟩
  | goto i=>exact ⟨trivial,l',ho',hq⟩
  | ret=>exact ⟨trivial,l',ho',hq⟩
variable {ops : Array Oper} {rest : List Oper} {d : Tmp} {ty : TypeId} {pos : String} {aft : Array Edge}
theorem GQ {K:Env→World→Prop} [h:NilQ Q K] (hk:K l w):owp1 P n ops Q [] l w:=fun _ ha=>wpList_nil ⟨trivial,l,ha,h.of l w hk⟩
theorem Dr {op:Op} {v:Value} (he:Ev P ⟨some d,op,ty,pos,aft,none⟩ l w v) (hd:Nat.blt d n=true) (h:owp1 P n ops Q rest ((d,v) :: l) w):owp1 P n ops Q (⟨some d,op,ty,pos,aft,none⟩ :: rest) l w :=
  fun a ha=>wpList_plain rfl fun K hK=>by
    unfold Oper.wp
    have:=he n a w.drawn ha
    rw [Gq] at this
    rw [this]
    exact hK _ _ (h _ (ha.put hd v))
theorem JY {f:FuncId} [hf:Callable P f] {xs:List Operand} {vs:List Value} {ts:Array TypeId} {v:Value} (hx:opvs l xs=some vs) (hd:Nat.blt d n=true) (hc:Calls P f vs.toArray w fun e w'=>e=.returned v∧w'=w)
    (h:owp1 P n ops Q rest ((d,v) :: l) w):owp1 P n ops Q (⟨some d,.call { callee:=.value (.func f),args:=xs.toArray,argTypes:=ts },ty,pos,aft,none⟩ :: rest) l w :=
  fun a ha=>wpList_plain rfl fun K hK=>by
    obtain ⟨fn,h1,h2,h3⟩:=hf.eq
    have h2':¬ fn.body=none:=fun e=>by rw [e] at h2;simp at h2
    have h3' : ¬ fn.name = "runtime.NumGoroutine" := fun e => by rw [e] at h3; simp at h3
    unfold Oper.wp
    have hev:a.eval (.func f)=.func (.func f) #[] #[]:=rfl
    have:(execOp a.eval ⟨some d,.call { callee:=.value (.func f),args:=xs.toArray,argTypes:=ts },ty,pos,aft,none⟩).run P w=.ok (.enter f vs.toArray) w:=by
      simp [execOp,resolve,hev,Deferred.ofValue,invoke,callFunc,h1,h2',h3',ha.evals hx]
    rw [this]
    exact hc.mono fun _ _ ⟨he,hw⟩=>by subst he;subst hw;exact hK _ _ (h _ (ha.put hd v))
end
theorem Nm {P:Program} {f:FuncId} {fn:Func} {c:Code} {vs:List Value} {w:World} {v:Value} {n:Nat} (hf:P.funcs[f]?=some fn) (hb:fn.body=some c) (hn:fn.ntmps=n) (hl:Nat.ble vs.length n=true)
    (h:ewp1 P n c (retPost P fn fun u w'=>u=v∧w'=w) (ent 0 vs) w):Calls P f vs.toArray w fun e w'=>e=.returned v∧w'=w:=by
  have hl':vs.length≤n:=by simpa using hl
  refine calls_of_wp hf hb (Code.wp_mono (fun e a w' hq=>?_) (h _ (?_:Ok n { tmps:=vs.toArray ++ Array.replicate (fn.ntmps - vs.toArray.size) undef,defers:=[] } (ent 0 vs))))
  · obtain ⟨hp,l,ho,q⟩:=hq
    cases e with
    | normal=>obtain ⟨v',hr,hv,hw⟩:=q;subst hv hw;have:=hr n a w'.drawn ho;rw [Gq] at this;exact ⟨ho.defers,v',this,rfl,rfl⟩
    | ret=>obtain ⟨v',hr,hv,hw⟩:=q;subst hv hw;have:=hr n a w'.drawn ho;rw [Gq] at this;exact ⟨ho.defers,v',this,rfl,rfl⟩
    | panic c=>exact hp.elim
    | outgrown=>exact hp.elim
    | exit i=>exact q.elim
    | goto i=>exact q.elim
  · refine ⟨by simp [hn];omega,rfl,fun i v hv=>?_⟩
    obtain ⟨_,h2⟩:=Kg vs 0 i v hv
    simp only [Nat.sub_zero] at h2
    have hi:i < vs.length:=(List.getElem?_eq_some_iff.1 h2).1
    simp only [Array.getD_eq_getD_getElem?]
    rw [Array.getElem?_append_left (by simpa using hi)]
    simp [h2]
end
section
open Go Go.RowKit
section
variable {P : Program} {n : Nat} {Q : Post} {ops : Array Oper} {rest : List Oper} {l : Env} {w : World} {d : Tmp} {ty : TypeId} {pos : String} {aft : Array Edge} {S : World → Prop}
theorem Jq (h:Q .normal l w):owp1 P n ops Q [] l w:=fun _ ha=>wpList_nil ⟨trivial,l,ha,h⟩
theorem Mq {op:Op} {v:Value} {w':World} (he:∀ a,Ok n a l→(execOp a.eval ⟨some d,op,ty,pos,aft,none⟩).run P w=.ok (.value v) w') (hd:Nat.blt d n=true) (h:owp1 P n ops Q rest ((d,v) :: l) w'):owp1 P n ops Q (⟨some d,op,ty,pos,aft,none⟩ :: rest) l w :=
  fun a ha=>wpList_plain rfl fun K hK=>by
    unfold Oper.wp
    rw [he a ha]
    exact hK _ _ (h _ (ha.put hd v))
theorem Mr {t:TypeId} {x:Operand} {v:Value} (hx:opv l x=some v) (hd:Nat.blt d n=true) (h:owp1 P n ops Q rest ((d,.pointer (some ⟨w.heap.size,0,none⟩)) :: l) (w.alloc (.cells v.cells t))):owp1 P n ops Q (⟨some d,.box t x,ty,pos,aft,none⟩ :: rest) l w :=
  Mq (fun a ha=>by simp [execOp,Instr.box,ha.eval hx,newVar,Fe]) hd h
theorem MQ {t e:TypeId} [hs:TSlice P t e] {z:Value} {size bytes len:Nat} [TInfo P e z size bytes] {ps:List (Nat×Operand)} {vs:List Value} (hk:idxOk 0 ps=true) (hx:opvs l (ps.map (·.2))=some vs) (hlen:vs.length=len) (hv:∀ v∈vs,v.cells.toList.length=size) (hz:len * size≤16777216) (hd:Nat.blt d n=true)
    (h:owp1 P n ops Q rest ((d,.slice (some ⟨w.heap.size,0,none⟩) len len) :: l) (w.alloc (.cells (vs.flatMap fun v=>v.cells.toList).toArray e))):owp1 P n ops Q (⟨some d,.buildSlice t len ps.toArray,ty,pos,aft,none⟩ :: rest) l w :=
  Mq (fun a ha=>by
    have hps:(ps.map fun p=>(p.1,a.eval p.2))=idxs 0 vs:=by
      rw [JK ps 0 hk,JL,ha.evals hx]
    have hv':∀ v∈vs,v.cells.size=size:=fun v hm=>by simpa using hv v hm
    have h24:¬ 16777216 < len * size:=by omega
    have hf:∀ acc:Array Value,acc.size=len * size→Instr.fill (fun i=>some (i * size,size)) acc (idxs 0 vs)=some (vs.flatMap fun v=>v.cells.toList).toArray:=fun acc hacc=>by
      obtain ⟨out,ho1,ho2⟩:=JM (size:=size) vs 0 acc [] acc.toList (by simp) (by simp) (by simp [hacc,hlen]) hv'
      rw [ho1]
      congr 1
      apply Array.toList_inj.1
      rw [ho2];simp
    simp only [execOp,Instr.buildSlice]
    by_cases h0:len * size=0
    · simp [run_underlying hs.eq,Dk (P:=P) (t:=e),h0]
      rw [hps,hf _ (by simp [h0])]
      simp [Fe]
    · simp [run_underlying hs.eq,Dk (P:=P) (t:=e),Ht (P:=P) (t:=e),h0,h24]
      rw [hps,hf _ (by simp)]
      simp [Fe]) hd h
def hwp1 (P:Program) (n:Nat) (ops:Array Oper) (Q:Post) (S:World→Prop) (ord:List (Nat×Bool)) (l:Env) (w:World):Prop:=∀ a,Ok n a l→wpOrd P ops (lift1 n Q) S ord a w
theorem Oq (h:Q .normal l w):hwp1 P n ops Q S [] l w:=fun _ ha=>⟨trivial,l,ha,h⟩
theorem Hi {i:Nat} {op:Op} {r:List (Nat×Bool)} {v:Value} (hi:ops[i]?=some ⟨some d,op,ty,pos,aft,none⟩) (he:∀ w',S w'→Ev P ⟨some d,op,ty,pos,aft,none⟩ l w' v) (hn:Nat.blt d n=true) (h:hwp1 P n ops Q S r ((d,v) :: l) w):hwp1 P n ops Q S ((i,true) :: r) l w:=fun a ha =>
  ⟨_,v,hi,.inl ⟨by simp [Region.wanted],fun w' hS=>by have:=he w' hS n a w'.drawn ha;rwa [Gq] at this⟩,h _ (ha.put hn v)⟩
def loud1 (P:Program) (n:Nat) (ops:Array Oper) (Q:Post) (S:World→Prop) (r:List (Nat×Bool)):Post
  | .normal,l,w=>(r≠[]→S w)∧hwp1 P n ops Q S r l w
  | _,_,_=>False
theorem Ix {i:Nat} {o:Oper} {r:List (Nat×Bool)} (hi:ops[i]?=some o) (h:owp1 P n ops (loud1 P n ops Q S r) [o] l w):hwp1 P n ops Q S ((i,false) :: r) l w:=fun a ha=>by
  have h1:=h a ha
  show wpOp P ops (lift1 n Q) i _ a w
  unfold wpList at h1
  unfold wpOp
  simp only [hi]
  have conv:∀ a' w',lift1 n (loud1 P n ops Q S r) .normal a' w'→(r≠[]→S w')∧wpOrd P ops (lift1 n Q) S r a' w':=by
    rintro a' w' ⟨_,l',ho,hS,hh⟩
    exact ⟨hS,hh a' ho⟩
  have nope:∀ e' a' w',lift1 n (loud1 P n ops Q S r) e' a' w'→e'=.normal:=by
    rintro e' a' w' ⟨hn,l',ho,hh⟩
    cases e'<;>first|rfl|exact hh.elim
  by_cases hw:Region.wanted o (yielded ops a.tmps)=true
  · rw [if_pos hw] at h1
    rw [if_pos hw]
    rcases h1 with h1|⟨h1,a0,w0,h2⟩
    · refine .inl ?_
      unfold Oper.wp at *
      generalize (execOp a.eval o).run P w=res at *
      cases res with
      | ok nx w' =>
        cases nx<;>simp only [Oper.upon] at h1 ⊢ <;>
          first
            | exact conv _ _ h1
            | exact Calls.mono h1 (fun en w'' he=>by
                cases en with
                | returned v=>exact conv _ _ he
                | panicked c=>exact absurd (nope _ _ _ he) (by simp)
                | outgrown=>obtain ⟨a0,w0,hq⟩:=he;exact absurd (nope _ _ _ hq) (by simp))
            | exact Rows.mono h1 (fun _ _ he=>conv _ _ he)
            | exact h1.elim
      | halt x w'=>cases x<;>simp only [Oper.upon] at h1 ⊢<;>first|exact h1.elim|exact absurd (nope _ _ _ h1) (by simp)
    · exact absurd (nope _ _ _ h2) (by simp)
  · rw [if_neg hw] at h1
    rw [if_neg hw]
    exact conv _ _ h1
theorem NH [hm:Mixed P] {id:Nat} {L:List Oper} (S:World→Prop) (ord:List (Nat×Bool)) (hs:Region.noSelect L.toArray=true) (hl:ord.length=L.toArray.size) (hc:ordOk L.toArray (Array.replicate L.toArray.size false) ord=true) (hS:S (dr w (w.drawn + 1)))
    (h:hwp1 P n L.toArray Q S ord l (dr w (w.drawn + 1))):ewp1 P n (.region id L.toArray true) Q l w:=fun a ha =>
  wp_region_any hm.eq (by
    have:=FT (P:=P) hs (Q:=lift1 n Q) (S:=S) (fun c a w hq=>hq.1) ord (Array.replicate L.toArray.size false) a (dr w (w.drawn + 1)) (fun m om hm=>by
      simp only [Array.getD_eq_getD_getElem?,Array.getElem?_replicate] at hm
      split at hm<;>simp at hm) hc (fun _=>hS) (h a ha)
    rw [hl] at this
    exact Ip _ _ _ _ this)
end
theorem MR {P:Program} {f:FuncId} {fn:Func} {c:Code} {vs:List Value} {w:World} {R:Value→World→Prop} {n:Nat} (hf:P.funcs[f]?=some fn) (hb:fn.body=some c) (hn:fn.ntmps=n) (hl:Nat.ble vs.length n=true)
    (h:ewp1 P n c (retPost P fn R) (ent 0 vs) w):Calls P f vs.toArray w fun e w'=>∃ v,e=.returned v∧R v w':=by
  have hl':vs.length≤n:=by simpa using hl
  refine calls_of_wp hf hb (Code.wp_mono (fun e a w' hq=>?_) (h _ (?_:Ok n { tmps:=vs.toArray ++ Array.replicate (fn.ntmps - vs.toArray.size) undef,defers:=[] } (ent 0 vs))))
  · obtain ⟨hp,l,ho,q⟩:=hq
    cases e with
    | normal=>obtain ⟨v',hr,hv⟩:=q;have:=hr n a w'.drawn ho;rw [Gq] at this;exact ⟨ho.defers,v',this,v',rfl,hv⟩
    | ret=>obtain ⟨v',hr,hv⟩:=q;have:=hr n a w'.drawn ho;rw [Gq] at this;exact ⟨ho.defers,v',this,v',rfl,hv⟩
    | panic c=>exact hp.elim
    | outgrown=>exact hp.elim
    | exit i=>exact q.elim
    | goto i=>exact q.elim
  · refine ⟨by simp [hn];omega,rfl,fun i v hv=>?_⟩
    obtain ⟨_,h2⟩:=Kg vs 0 i v hv
    simp only [Nat.sub_zero] at h2
    have hi:i < vs.length:=(List.getElem?_eq_some_iff.1 h2).1
    simp only [Array.getD_eq_getD_getElem?]
    rw [Array.getElem?_append_left (by simpa using hi)]
    simp [h2]
end
section
open Go Go.RowKit Go.Lib Go.Sort
def orL:List Int→Int
  | []=>0
  | x :: xs=>if x≠0 then x else orL xs
theorem NI {xs:List Int} {k:Nat} {x:Int} (h:xs[k]?=some x):orL (xs.drop k)=if x≠0 then x else orL (xs.drop (k + 1)):=by
  have:xs.drop k=x :: xs.drop (k + 1):=by
    rw [List.drop_eq_getElem_cons (CM h)]
    rw [List.getElem?_eq_getElem (CM h)] at h
    rw [Option.some.inj h]
  rw [this];rfl
theorem NJ {W:World} {F:Nat→Prop} {v:Value} {xs:List Int} (h1:Vb W F v xs):Calls Tryz.prog 114 [v].toArray W fun e w'=>e=.returned (.int .i64 (orL xs))∧w'=W:=by
  obtain ⟨A1,c1,rfl⟩:=h1.form
  have l1:xs.length≤9223372036854775807:=Nat.le_trans h1.len.2.1 h1.len.2.2
  refine Nm Tryz.func114 rfl Tryz.ntmps114 rfl ?_
  refine Em (DO (Dr (EE rfl) rfl (GQ ?_)))
  refine Em (DO (Dr (EE rfl) rfl (GQ ?_)))
  refine Em (Em (DO (Dr (EO rfl) rfl (Dr (Kc rfl) rfl (Dr (EO rfl) rfl (GQ ?_))))))
  refine Li (NG (fun k=>[(3,.int .i64 0),(6,.slice A1 xs.length c1),(7,.int .i64 (xs.length:Int)),(8,.int .i64 (k:Int))]) (fun k=>k≤xs.length∧orL xs=orL (xs.drop k)) xs.length 0 ⟨rfl,rfl,rfl,rfl,trivial⟩ ⟨Nat.zero_le _,rfl⟩ fun k hk=>⟨hk.1,?_⟩)
  obtain ⟨k1,k3⟩:=hk
  refine Em (DO (Dr (Ep rfl rfl) rfl (GQ ?_)))
  refine Em ?_
  by_cases hlt:(k:Int) < (xs.length:Int)
  · rw [decide_eq_true hlt]
    refine LU rfl (LT ?_)
    obtain ⟨x,hx⟩:∃ x,xs[k]?=some x:=⟨xs[k],List.getElem?_eq_getElem (by omega)⟩
    obtain ⟨b1,o1,ce1,hA1,hl1,hd1,rfl,r1⟩:=h1.elem' hx
    have hst:=NI hx
    refine Em (Li ?_)
    refine Em (DO (Dr (LN rfl rfl hA1 rfl hl1) rfl (Dr (Fd rfl (cat0 hd1)) rfl (Dr (EE rfl) rfl (GQ ?_)))))
    refine Em (DO (Dr (EO rfl) rfl (Dr (EO rfl) rfl (Dr (Eh rfl rfl) rfl (GQ ?_)))))
    by_cases hc:x≠0
    · rw [decide_eq_true hc]
      rw [if_pos hc] at hst
      refine LU rfl (Em (DO (Dr (EO rfl) rfl (Dr (EE rfl) rfl (GQ ?_)))))
      refine KQ ?_
      exact ⟨_,res1 rfl (Au rfl),by rw [k3,hst],rfl⟩
    · rw [decide_eq_false hc]
      rw [if_neg hc] at hst
      refine Lh rfl (LT ?_)
      refine DO (Dr (LE rfl rfl (by omega)) rfl (Dr (EO rfl) rfl (GQ ?_)))
      exact ⟨rfl,⟨rfl,rfl,rfl,rfl,trivial⟩,by omega,by rw [k3,hst]⟩
  · rw [decide_eq_false hlt]
    refine Lh rfl (NF ?_)
    refine Em (DO (Dr (EO rfl) rfl (Dr (EE rfl) rfl (GQ ?_))))
    have hkx:k=xs.length:=by omega
    refine KQ ?_
    exact ⟨_,res1 rfl (Au rfl),by rw [k3,hkx,List.drop_length];rfl,rfl⟩
def encU (x:Lch):List Value:=[.int .i64 x.tm,.int .i64 x.job]
def cfU (x y:Lch):Int:=orL [Lib.compareInt x.tm y.tm,Lib.compareInt x.job y.job]
theorem Ms (a b:Int):inI64 (Lib.compareInt a b):=by unfold Lib.compareInt inI64;split<;>(try split)<;>omega
theorem closureU (x y:Lch) (W:World):Calls Tryz.prog 113 #[.agg #[.int .i64 x.tm,.int .i64 x.job],.agg #[.int .i64 y.tm,.int .i64 y.job]] W fun e w'=>e=.returned (.int .i64 (cfU x y))∧∃ q os',w'=grow (W.drewN q) os':=by
  have main:=MR (P:=Tryz.prog) (f:=113) (vs:=[.agg #[.int .i64 x.tm,.int .i64 x.job],.agg #[.int .i64 y.tm,.int .i64 y.job]]) (w:=W) (R:=fun v w'=>v=.int .i64 (cfU x y)∧∃ q os',w'=grow (W.drewN q) os') Tryz.func113 rfl Tryz.ntmps113 rfl ?_
  · exact main.mono fun e w' ⟨v,he,hv,hg⟩=>⟨by rw [he,hv],hg⟩
  refine Em (DO (Mr rfl rfl (Mr rfl rfl (Dr (EE rfl) rfl (GQ ?_)))))
  have hB1:Blk ((W.alloc (.cells (encU x).toArray 52)).alloc (.cells (encU y).toArray 52)) W.heap.size 52 (encU x) :=
    (New.mk' W _ (encU x)).blk.keep ((New.mk' _ _ (encU y)).ext.block _ (New.mk' W _ (encU x)).blk.lt)
  have hB2:Blk ((W.alloc (.cells (encU x).toArray 52)).alloc (.cells (encU y).toArray 52)) (W.alloc (.cells (encU x).toArray 52)).heap.size 52 (encU y):=(New.mk' _ _ (encU y)).blk
  generalize hW:(W.alloc (.cells (encU x).toArray 52)).alloc (.cells (encU y).toArray 52)=W2 at hB1 hB2
  have hW':(W.alloc (.cells (Value.agg #[.int .i64 x.tm,.int .i64 x.job]).cells 52)).alloc (.cells (Value.agg #[.int .i64 y.tm,.int .i64 y.job]).cells 52)=W2:=hW
  rw [hW']
  generalize hb1:W.heap.size=b1 at hB1
  generalize hb2:(W.alloc (.cells (encU x).toArray 52)).heap.size=b2 at hB2
  have hb2':(W.alloc (.cells (Value.agg #[.int .i64 x.tm,.int .i64 x.job]).cells 52)).heap.size=b2:=hb2
  rw [hb2']
  refine Em (NH (fun w'=>Blk w' b1 52 (encU x)∧Blk w' b2 52 (encU y)) [(0,true),(1,true),(2,true),(3,true),(5,true),(6,true),(7,true),(8,true),(4,false),(9,false),(10,false),(11,false),(12,true)] (by kernel_rfl) rfl (by kernel_rfl) ⟨hB1,hB2⟩ ?_)
  refine Hi rfl (fun _ _=>Eq rfl) rfl ?_
  refine Hi rfl (fun _ hS=>Fd rfl (hS.1.cell (i:=0) rfl)) rfl ?_
  refine Hi rfl (fun _ _=>Eq rfl) rfl ?_
  refine Hi rfl (fun _ hS=>Fd rfl (hS.2.cell (i:=0) rfl)) rfl ?_
  refine Hi rfl (fun _ _=>Eq rfl) rfl ?_
  refine Hi rfl (fun _ hS=>Fd rfl (hS.1.cell (i:=1) rfl)) rfl ?_
  refine Hi rfl (fun _ _=>Eq rfl) rfl ?_
  refine Hi rfl (fun _ hS=>Fd rfl (hS.2.cell (i:=1) rfl)) rfl ?_
  refine Ix rfl (JY rfl rfl (compareI x.tm y.tm _) (Jq ⟨fun _=>⟨hB1,hB2⟩,?_⟩))
  refine Ix rfl (JY rfl rfl (compareI x.job y.job _) (Jq ⟨fun _=>⟨hB1,hB2⟩,?_⟩))
  have hN:=New.mk' (dr W2 (W2.drawn + 1)) 3 [.int .i64 (Lib.compareInt x.tm y.tm),.int .i64 (Lib.compareInt x.job y.job)]
  have hB3:=hB1.keep (hN.ext.block b1 hB1.lt)
  have hB4:=hB2.keep (hN.ext.block b2 hB2.lt)
  have hV:Vb ((dr W2 (W2.drawn + 1)).alloc (.cells [.int .i64 (Lib.compareInt x.tm y.tm),.int .i64 (Lib.compareInt x.job y.job)].toArray 3)) (fun _=>True) (.slice (some ⟨(dr W2 (W2.drawn + 1)).heap.size,0,none⟩) 2 2) [Lib.compareInt x.tm y.tm,Lib.compareInt x.job y.job] :=
    Vb.made hN ⟨[_],_,rfl,⟨rfl,Ms _ _⟩,[_],_,rfl,⟨rfl,Ms _ _⟩,rfl⟩ rfl trivial (by decide)
  refine Ix rfl (MQ rfl rfl rfl (fun v hv=>by simp at hv;rcases hv with rfl|rfl<;>rfl) (by decide) rfl (Jq ⟨fun _=>⟨hB3,hB4⟩,?_⟩))
  refine Ix rfl (JY rfl rfl (NJ hV) (Jq ⟨fun _=>⟨hB3,hB4⟩,?_⟩))
  refine Hi rfl (fun _ _=>EE rfl) rfl ?_
  refine Oq ?_
  refine KQ ?_
  refine ⟨_,res1 rfl (Au rfl),rfl,1,#[.cells (encU x).toArray 52,.cells (encU y).toArray 52,.cells [.int .i64 (Lib.compareInt x.tm y.tm),.int .i64 (Lib.compareInt x.job y.job)].toArray 3],?_⟩
  subst hW
  have hd:∀ os d,dr (grow W os) d=grow (dr W d) os:=fun _ _=>rfl
  rw [alloc_eq_grow,alloc_eq_grow,alloc_eq_grow,grow_grow,hd,grow_grow]
  rfl
end
section
open Go.Shelf
def Tryz.laysS_f144_ren:Go.Shelf.Ren:=⟨fun|6=>144|15=>139|14=>176|28=>169|29=>170|20=>201|21=>202|22=>203|23=>204|24=>205|25=>206|26=>207|27=>208|46=>216|47=>193|48=>194|49=>217|50=>218|57=>220|n=>n,fun|22=>50|24=>52|25=>179|3=>3|39=>224|0=>0|53=>258|55=>239|4=>4|46=>252|45=>251|50=>48|5=>5|9=>9|66=>280|70=>283|76=>296|77=>297|n=>n,fun|n=>n⟩
theorem Tryz.laysS_f144:Go.Proofs.SlLaysF0.n6 Tryz.prog Tryz.laysS_f144_ren:={
  mixed:=by kernel_rfl
  f6:=⟨Tryz.f144.name,by decide,Tryz.func144.trans (congrArg some (by kernel_rfl))⟩
  f14:=⟨Tryz.f176.name,by decide,Tryz.func176.trans (congrArg some (by kernel_rfl))⟩
  f15:=Tryz.func139.trans (congrArg some (by kernel_rfl))
  f20:=⟨Tryz.f201.name,by decide,Tryz.func201.trans (congrArg some (by kernel_rfl))⟩
  f21:=⟨Tryz.f202.name,by decide,Tryz.func202.trans (congrArg some (by kernel_rfl))⟩
  f22:=⟨Tryz.f203.name,by decide,Tryz.func203.trans (congrArg some (by kernel_rfl))⟩
  f23:=⟨Tryz.f204.name,by decide,Tryz.func204.trans (congrArg some (by kernel_rfl))⟩
  f24:=⟨Tryz.f205.name,by decide,Tryz.func205.trans (congrArg some (by kernel_rfl))⟩
  f25:=⟨Tryz.f206.name,by decide,Tryz.func206.trans (congrArg some (by kernel_rfl))⟩
  f26:=⟨Tryz.f207.name,by decide,Tryz.func207.trans (congrArg some (by kernel_rfl))⟩
  f27:=⟨Tryz.f208.name,by decide,Tryz.func208.trans (congrArg some (by kernel_rfl))⟩
  f28:=Tryz.func169.trans (congrArg some (by kernel_rfl))
  f29:=Tryz.func170.trans (congrArg some (by kernel_rfl))
  f46:=⟨Tryz.f216.name,by decide,Tryz.func216.trans (congrArg some (by kernel_rfl))⟩
  f47:=Tryz.func193.trans (congrArg some (by kernel_rfl))
  f48:=Tryz.func194.trans (congrArg some (by kernel_rfl))
  f49:=⟨Tryz.f217.name,by decide,Tryz.func217.trans (congrArg some (by kernel_rfl))⟩
  f50:=⟨Tryz.f218.name,by decide,Tryz.func218.trans (congrArg some (by kernel_rfl))⟩
  f57:=⟨Tryz.f220.name,by decide,Tryz.func220.trans (congrArg some (by kernel_rfl))⟩
  t0:=Tryz.underlying0
  a0:=Tryz.isAgg0
  z0:=Tryz.sizeOf0
  v0:=Tryz.zeroValue0
  t3:=Tryz.underlying3
  a3:=Tryz.isAgg3
  z3:=Tryz.sizeOf3
  v3:=Tryz.zeroValue3
  t4:=Tryz.underlying4
  a4:=Tryz.isAgg4
  z4:=Tryz.sizeOf4
  v4:=Tryz.zeroValue4
  t5:=Tryz.underlying5
  a5:=Tryz.isAgg5
  z5:=Tryz.sizeOf5
  v5:=Tryz.zeroValue5
  t9:=Tryz.underlying9
  a9:=Tryz.isAgg9
  z9:=Tryz.sizeOf9
  v9:=Tryz.zeroValue9
  t22:=Tryz.underlying50
  a22:=Tryz.isAgg50
  z22:=Tryz.sizeOf50
  v22:=Tryz.zeroValue50
  t25:=Tryz.underlying179
  a25:=Tryz.isAgg179
  z25:=Tryz.sizeOf179
  v25:=Tryz.zeroValue179
  t39:=Tryz.underlying224
  a39:=Tryz.isAgg224
  z39:=Tryz.sizeOf224
  v39:=Tryz.zeroValue224
  t45:=Tryz.underlying251
  a45:=Tryz.isAgg251
  z45:=Tryz.sizeOf251
  v45:=Tryz.zeroValue251
  t46:=Tryz.underlying252
  a46:=Tryz.isAgg252
  z46:=Tryz.sizeOf252
  v46:=Tryz.zeroValue252
  t50:=Tryz.underlying48
  a50:=Tryz.isAgg48
  z50:=Tryz.sizeOf48
  v50:=Tryz.zeroValue48
  t53:=Tryz.underlying258
  a53:=Tryz.isAgg258
  z53:=Tryz.sizeOf258
  v53:=Tryz.zeroValue258
  t55:=Tryz.underlying239
  a55:=Tryz.isAgg239
  z55:=Tryz.sizeOf239
  v55:=Tryz.zeroValue239
  t66:=Tryz.underlying280
  a66:=Tryz.isAgg280
  z66:=Tryz.sizeOf280
  v66:=Tryz.zeroValue280
  t70:=Tryz.underlying283
  a70:=Tryz.isAgg283
  z70:=Tryz.sizeOf283
  v70:=Tryz.zeroValue283
  t76:=Tryz.underlying296
  a76:=Tryz.isAgg296
  z76:=Tryz.sizeOf296
  v76:=Tryz.zeroValue296
  t77:=Tryz.underlying297
  a77:=Tryz.isAgg297
  z77:=Tryz.sizeOf297
  v77:=Tryz.zeroValue297 }
open Go.RowKit Go.Lib Go.Sort in
theorem Tryz.sortU_eq {α:Type} [Inhabited α] (k:Nat) (aE:∀ w,(isAgg 52).run Tryz.prog w=.ok true w) (zE:∀ w,(Go.sizeOf 52).run Tryz.prog w=.ok k w) (enc:α→List Value) (hk:∀ x,(enc x).length=k) (h1:∀ x,∀ v∈enc x,v.oneCell'=true) (cf:α→α→Int) (hO:SWO (ltOf cf)) (g:Nat) (cb:Array Value) (blk off cap:Nat) (d:Array α) (w:World) (eg:∀ args w,(callFunc g args).run Tryz.prog w=.ok (.enter g args) w) (hcmp:CmpLays Tryz.prog g cb enc k cf blk off d.size w) (hH:HoldsK enc k w blk off d) (hblk:blk < w.heap.size) (hsz:d.size < 4611686018427387904) :
    Calls Tryz.prog 144 #[.slice (some ⟨blk,off,none⟩) d.size cap,.func (.func g) #[] cb] w fun e w' =>
      e=.returned (.tuple #[])∧∃ n os,w'=sortWorldK enc k w blk off n (pdq (ltOf cf) d 0 d.size (Lib.bitLen d.size) true true) os:=AnyQ.slices_SortFunc_eq Tryz.laysS_f144 k aE zE enc hk h1 cf hO g cb blk off cap d w eg hcmp hH hblk hsz
open Go.RowKit Go.Lib Go.Sort in
theorem Tryz.sortU_none {α:Type} [Inhabited α] (p:Option Addr) (cap:Nat) (fv:Value) (w:World) :
    Calls Tryz.prog 144 #[.slice p 0 cap,fv] w fun e w'=>e=.returned (.tuple #[])∧w'=w:=AnyF.slices_SortFunc_none Tryz.laysS_f144 p cap fv w
end
section
open Go Go.RowKit Go.Lib Go.Sort
instance:Inhabited Lch:=⟨⟨0,0⟩⟩
def lexU (x y:Lch):Prop:=x.tm < y.tm∨(x.tm=y.tm∧x.job < y.job)
instance (x y:Lch):Decidable (lexU x y):=by unfold lexU;infer_instance
theorem cmp3 (a b:Int):(a < b∧Lib.compareInt a b=-1)∨(a=b∧Lib.compareInt a b=0)∨(b < a∧Lib.compareInt a b=1):=by
  unfold Lib.compareInt
  by_cases h:a < b
  · simp [h]
  · by_cases h2:b < a
    · simp [h,h2]
    · right;left;simp [h,h2];omega
theorem OY (a b:Int):orL [a,b] < 0↔a < 0∨(a=0∧b < 0):=by
  simp only [orL]
  by_cases h1:a=0
  · rw [if_neg (by simp [h1])]
    by_cases h2:b=0
    · rw [if_neg (by simp [h2])];omega
    · rw [if_pos h2];omega
  · rw [if_pos h1];omega
theorem ltU (x y:Lch):ltOf cfU x y=decide (lexU x y):=by
  unfold ltOf cfU
  rw [Bool.eq_iff_iff]
  simp only [decide_eq_true_eq]
  rw [OY]
  unfold lexU
  have h1:=cmp3 x.tm y.tm
  have h2:=cmp3 x.job y.job
  omega
theorem swoU:SWO (ltOf cfU) where
  irrefl x:=by rw [ltU];simp [lexU]
  trans x y z h1 h2:=by rw [ltU] at *;simp only [decide_eq_true_eq] at *;unfold lexU at *;omega
  ntrans x y z h1 h2:=by rw [ltU] at *;simp only [decide_eq_false_iff_not] at *;unfold lexU at *;omega
theorem cmpLaysU (blk off size:Nat) (w:World):CmpLays Tryz.prog 113 #[] encU 2 cfU blk off size w:=fun _ _ _ _ x y=>closureU x y _
def AU (xs:List Lch):List Lch:=(pdq (ltOf cfU) xs.toArray 0 xs.length (Lib.bitLen xs.length) true true).toList
theorem Mt (xs:List Lch):PermIn 0 xs.toArray.size xs.toArray (AU xs).toArray∧SortedIn (ltOf cfU) 0 xs.toArray.size (AU xs).toArray:=by
  have:=pdq_sorts (ltOf cfU) swoU xs.toArray 0 xs.toArray.size (Lib.bitLen xs.length) true true (Nat.zero_le _) (Nat.le_refl _) (Or.inl rfl)
  simpa [AU] using this
theorem Jb (xs:List Lch):(AU xs).Perm xs:=by
  obtain ⟨⟨hsz,_,hperm⟩,_⟩:=Mt xs
  have e1:(AU xs).toArray.extract 0 xs.toArray.size=(AU xs).toArray:=by rw [← hsz];exact Array.extract_size
  rw [e1,Array.extract_size] at hperm
  simpa using hperm
theorem Ei (xs:List Lch):(AU xs).length=xs.length:=(Jb xs).length_eq
theorem Mh (xs:List Lch):(AU xs).Pairwise fun x y=>¬ lexU y x:=by
  obtain ⟨_,hs⟩:=Mt xs
  have hl:=Ei xs
  rw [List.pairwise_iff_getElem]
  intro i j hi hj hij
  have:=hs i j (Nat.zero_le _) hij (by simp;omega)
  rw [getElem!_pos _ j (by simpa using hj),getElem!_pos _ i (by simpa using hi),ltU] at this
  simpa using this
theorem flatU:∀ (xs:List Lch),(flatK encU 2 xs.toArray).toList=xs.flatMap encU:=fun xs=>by
  apply List.ext_getElem?
  intro t
  have key:∀ (l:List Lch) (t:Nat),(l.flatMap encU)[t]?=(l[t / 2]?).bind fun x=>(encU x)[t % 2]?:=by
    intro l
    induction l with
    | nil=>intro t;simp
    | cons x l ih =>
      intro t
      rw [List.flatMap_cons]
      match t with
      | 0=>rfl
      | 1=>rfl
      | t + 2 =>
        rw [List.getElem?_append_right (by simp [encU]),show t + 2 - (encU x).length=t from by simp [encU],ih]
        rw [show (t + 2) / 2=t / 2 + 1 from by omega,show (t + 2) % 2=t % 2 from by omega]
        simp
  rw [key]
  by_cases ht:t < xs.length * 2
  · have h1:t / 2 < xs.length:=by omega
    have hsz:t < (flatK encU 2 xs.toArray).size:=by simpa using ht
    rw [Array.getElem?_toList,Array.getElem?_eq_getElem hsz,List.getElem?_eq_getElem h1,Option.bind_some]
    have:=get_flatK encU 2 xs.toArray t (by simpa using ht)
    rw [getElem!_pos (flatK encU 2 xs.toArray) t hsz,getElem!_pos xs.toArray (t / 2) (by simpa using h1)] at this
    rw [this]
    have h2:t % 2 < (encU xs[t / 2]).length:=by simp [encU];omega
    rw [List.getElem?_eq_getElem h2,List.getElem_toArray,getElem!_pos (encU xs[t / 2]) (t % 2) h2]
  · have h1:(flatK encU 2 xs.toArray).size≤t:=by rw [size_flatK];simpa using (by omega:xs.length * 2≤t)
    have h2:xs[t / 2]?=none:=List.getElem?_eq_none (by omega)
    rw [Array.getElem?_toList,Array.getElem?_eq_none h1,h2]
    rfl
theorem Hj {w:World} {F:Nat→Prop}:∀ {xs:List Lch} {cells:List Value},Chunks w F cells xs→cells=xs.flatMap encU∧∀ x∈xs,inI64 x.tm∧inI64 x.job
  | [],_,h=>⟨h,fun _ hx=>by simp at hx⟩
  | x :: xs,cells,⟨cs,rest,he,hr,hc⟩=>by
    obtain ⟨h1,h2⟩:=Hj hc
    obtain ⟨h3,h4⟩:=hr
    refine ⟨by rw [he,h3,h1];rfl,fun y hy=>?_⟩
    rcases List.mem_cons.1 hy with rfl|hy
    · exact h4
    · exact h2 y hy
theorem Gy {w:World} {F:Nat→Prop}:∀ {xs:List Lch},(∀ x∈xs,inI64 x.tm∧inI64 x.job)→Chunks w F (xs.flatMap encU) xs
  | [],_=>rfl
  | x :: xs,h=>⟨encU x,xs.flatMap encU,rfl,⟨rfl,h x (by simp)⟩,Gy fun y hy=>h y (by simp [hy])⟩
theorem Fc (xs:List Lch):(xs.flatMap encU).length=xs.length * 2:=by rw [← flatU,Array.length_toList,size_flatK];simp
theorem IO {i:Nat} {w:World} {O:Lab} {v:Value} {xs:List Lch} (hR:Rw i w O 52 v xs) (hl:xs.length < 4611686018427387904) :
    Fn Tryz.prog 144 [v,.func (.func 113) #[] #[]] w fun _ w'=>∃ O',St (eT i) w O w' O'∧Rw i w' O' 52 v (AU xs):=by
  intro d
  rcases Nat.eq_zero_or_pos xs.length with h0|h0
  · have hx:xs=[]:=List.eq_nil_of_length_eq_zero h0
    subst hx
    obtain ⟨p,c,rfl⟩:=hR.form
    have hs:AU []=[]:=List.eq_nil_of_length_eq_zero (Ei [])
    exact (Tryz.sortU_none (α:=Lch) p c _ (dr w d)).mono fun e w' ⟨he,hw⟩=>⟨_,w,d,he,hw,O,St.refl _ _ _,by rw [hs];exact hR⟩
  · obtain ⟨g,cap,cells,sp,rfl,hg,hFg,hb,hc,hlen,hnc,hcm,htot⟩:=hR.1.open h0
    obtain ⟨rfl,hin⟩:=Hj hc
    have hfl:=flatU xs
    have hH:HoldsK encU 2 (dr w d) g 0 xs.toArray:=fun j hj=>by
      have hj':j < xs.length * 2:=by simpa using hj
      refine ⟨?_,by rw [Nat.zero_add];exact hb.frozen j⟩
      rw [Nat.zero_add]
      refine hb.cell ?_
      rw [List.getElem?_append_left (by rw [Fc];exact hj'),← hfl,Array.getElem?_toList,Array.getElem?_eq_getElem hj,getElem!_pos _ j hj]
      rfl
    have aE:∀ w,(isAgg 52).run Tryz.prog w=.ok true w:=fun w=>FY w
    have zE:∀ w,(Go.sizeOf 52).run Tryz.prog w=.ok 2 w:=fun w=>Dk w
    have eg:∀ args w,(callFunc 113 args).run Tryz.prog w=.ok (.enter 113 args) w:=enters_of Tryz.func113 (by kernel_rfl) rfl
    have hcall:=Tryz.sortU_eq 2 aE zE encU (fun _=>rfl) (fun x v hv=>by simp [encU] at hv;rcases hv with rfl|rfl<;>rfl) cfU swoU 113 #[] g 0 cap xs.toArray (dr w d) eg (cmpLaysU g 0 _ _) hH hb.lt (by simpa using hl)
    have e1:xs.toArray.size=xs.length:=by simp
    rw [e1] at hcall
    refine hcall.mono fun e w' ⟨he,n,os,hw⟩=>⟨_,w',w'.drawn,he,rfl,upO O w.heap.size (fun _=>0),?_,?_⟩
    · subst hw
      refine ⟨rfl,rfl,rfl,?_,fun k hk hne=>⟨?_,El hk⟩⟩
      · show w.heap.size≤((w.heap.modify g _) ++ os).size
        simp
      · have hkg:g≠k:=fun e=>hne (by rw [← e];exact hR.2.1 g rfl)
        show ((w.heap.modify g _) ++ os)[k]?=_
        rw [Array.getElem?_append_left (by simpa using hk),Array.getElem?_modify,if_neg hkg]
    · have hpd:pdq (ltOf cfU) xs.toArray 0 xs.length (Lib.bitLen xs.length) true true=(AU xs).toArray:=by simp [AU]
      rw [hpd] at hw
      have hsl:=Ei xs
      have hf2:=flatU (AU xs)
      have hblk:Blk w' g 52 ((AU xs).flatMap encU ++ sp):=by
        subst hw
        unfold Blk at hb ⊢
        have hsz:g < w.heap.size:=Blk.lt hb
        show ((w.heap.modify g _) ++ os)[g]?=_
        rw [Array.getElem?_append_left (by simpa using hsz),Array.getElem?_modify,if_pos rfl,hb]
        simp only [Option.map_some,Go.Sort.onCells]
        congr 2
        apply Array.ext
        · simp only [Go.Sort.putCells,Array.size_mapIdx,List.size_toArray,List.length_append,Fc,hsl]
        · intro i h1 h2
          simp only [Go.Sort.putCells,Array.getElem_mapIdx,Nat.zero_add,Nat.sub_zero,Nat.zero_le,true_and]
          have e2:(flatK encU 2 (AU xs).toArray).size=xs.length * 2:=by rw [size_flatK];simp [hsl]
          by_cases hi:i < xs.length * 2
          · rw [if_pos (by rw [e2];exact hi)]
            simp only [List.getElem_toArray]
            rw [List.getElem_append_left (by rw [Fc,hsl];exact hi)]
            rw [getElem!_pos _ _ (by rw [e2];exact hi)]
            have:=congrArg (·[i]?) hf2
            simp only [Array.getElem?_toList] at this
            rw [Array.getElem?_eq_getElem (by rw [e2];exact hi),List.getElem?_eq_getElem (by rw [Fc,hsl];exact hi)] at this
            exact Option.some.inj this
          · rw [if_neg (by rw [e2];exact hi)]
            simp only [List.getElem_toArray]
            rw [List.getElem_append_right (by rw [Fc];omega),List.getElem_append_right (by rw [Fc,hsl];omega)]
            simp only [Fc,hsl]
      have hS:∀ k,Fr 0 w O k→Fr 0 w' (upO O w.heap.size fun _=>0) k:=fun k hk=>⟨by subst hw;show k < ((w.heap.modify g _) ++ os).size;have:=hk.1;simp;omega,(El hk.1).trans hk.2⟩
      have:=Own.close (w:=w') (base:=0) (F:=Fr 0 w O) (cap:=cap) (Nat.zero_le _) hFg hblk (Gy (F:=Fr 0 w O) (w:=w') fun x hx=>hin x ((Jb xs).mem_iff.1 hx)) (by rw [hsl];exact hnc) hcm (by rw [List.length_append,Fc] at htot ⊢;rw [hsl];exact htot)
      rw [hsl] at this
      exact this.rw hS (fun g' hg'=>by
        have:g=g':=by simpa [Value.ownBlock] using hg'
        subst this
        exact (El hb.lt).trans (hR.2.1 g rfl)) hR.2.2
theorem JI {α:Type} {R:α→α→Prop}:∀ {a b:List α},a.Perm b→a.Pairwise R→b.Pairwise R→(∀ x y,R x y→R y x→x=y)→a=b
  | [],b,h,_,_,_=>(List.nil_perm.1 h).symm
  | x :: a,[],h,_,_,_=>by simp at h
  | x :: a,y :: b,h,ha,hb,hR=>by
    obtain ⟨ha1,ha2⟩:=List.pairwise_cons.1 ha
    obtain ⟨hb1,hb2⟩:=List.pairwise_cons.1 hb
    have hx:x∈y :: b:=h.mem_iff.1 List.mem_cons_self
    have hy:y∈x :: a:=h.mem_iff.2 List.mem_cons_self
    have e:x=y:=by
      rcases List.mem_cons.1 hx with rfl|hx
      · rfl
      · rcases List.mem_cons.1 hy with rfl|hy
        · rfl
        · exact hR x y (ha1 y hy) (hb1 x hx)
    subst e
    rw [JI ((List.perm_cons x).1 h) ha2 hb2 hR]
theorem Mu {xs:List Lch} (h:xs.Pairwise fun x y=>¬ lexU y x):AU xs=xs :=
  JI (Jb xs) (Mh xs) h fun x y h1 h2=>by
    obtain ⟨a,b⟩:=x
    obtain ⟨a',b'⟩:=y
    unfold lexU at h1 h2
    dsimp only at h1 h2
    have e1:a=a':=by omega
    have e2:b=b':=by omega
    rw [e1,e2]
end
section
open Go Go.RowKit Go.Shelf Go.Proofs
attribute [local go_sem] Oper.semAt_some
def aggU (x:Lch):Value:=.agg #[.int .i64 x.tm,.int .i64 x.job]
set_option maxRecDepth 100000 in
set_option maxHeartbeats 2000000 in
theorem MS (F:Fence) (n:Nat) (h145:F.fn 145) (hro:F.round=none) (hn:1≤n) (l Bs n₀ b off cap:Nat) (zs:List Lch) (hreach:zs.length * 16≤140737488351232) (hb:b < n₀) (J Jx:List Lch→World→Prop)
    (hY:∀ pre x W,J pre W→pre.length < zs.length→YieldAt F (n - 1) Tryz.prog l #[aggU x] W fun e W' =>
      (e=.returned (.bool true)∧J (pre ++ [x]) W'∧Below n₀ W W')∨(e=.returned (.bool false)∧Jx (pre ++ [x]) W'))
    (W:World) (hJ:AbidesFrom W.heap.size J) (hn0:n₀≤W.heap.size) (hBs:W.cell? ⟨Bs,0,none⟩=some (.slice (some ⟨b,off,none⟩) zs.length cap)) (hc:∀ j x,zs[j]?=some x→W.cell? ⟨b,off + j * 2,none⟩=some (.int .i64 x.tm)∧W.cell? ⟨b,off + j * 2 + 1,none⟩=some (.int .i64 x.job)) (h0:J [] W) :
    CallsIn F n Tryz.prog 145 #[.func (.yield l) #[] #[],.pointer (some ⟨Bs,0,none⟩)] W fun e W'=>(∃ v,e=.returned v) ∧
      (J zs W'∨(∃ pre,pre <+: zs∧Jx pre W')):=by
  refine callsIn_of_wp Tryz.func145 rfl h145 ?_ hro
  simp only [Tryz.ntmps145,List.size_toArray,List.length_cons,List.length_nil,Nat.reduceAdd,Nat.reduceSub,Array.replicate_succ,Array.replicate_zero,List.push_toArray,List.append_toArray,List.nil_append,List.cons_append]
  gi_wp2
  gi_loopw [7] (fun i wr=>∃ k:Nat,k≤zs.length∧i=.int .i64 k∧J (zs.take k) wr∧Below n₀ W wr∧W.heap.size≤wr.heap.size)
    (fun i _=>zs.length - (intOf i).toNat)
  case atStart=>exact ⟨0,Nat.zero_le _,rfl,by simpa using h0,Below.refl _ _,Nat.le_refl _⟩
  case round =>
    obtain ⟨k,hk,rfl,hJs,hnx,hsz⟩:=hrel
    by_cases hlt:k < zs.length
    · have hx:zs[k]?=some zs[k]:=List.getElem?_eq_getElem hlt
      have hcx:=(hnx.cell (p:=⟨b,off + k * 2,none⟩) hb).trans (hc k _ hx).1
      have hcy:=(hnx.cell (p:=⟨b,off + k * 2 + 1,none⟩) hb).trans (hc k _ hx).2
      have hJ2:=hJ _ wr (wr.alloc (.cells #[.int .i64 zs[k].tm,.int .i64 zs[k].job] 52)) none hJs (World.grownBy_alloc wr _ none) (fun r e=>by cases e)
      obtain ⟨fn,tmps,assign,body,hy,hR⟩:=hY _ zs[k] _ hJ2 (by simp;omega)
      dsimp only [aggU] at hy
      gi_wp2
      refine hR.mono ?_
      have htk:zs.take k ++ [zs[k]]=zs.take (k + 1):=by rw [List.take_add_one,hx];rfl
      rintro e W3 (⟨rfl,hJ3,hk3⟩|⟨rfl,hJx3⟩)
      · gi_wp2
        go_roundw
        case rel=>exact ⟨k + 1,by omega,by simp,by rw [← htk];exact hJ3,(hnx.alloc (Nat.le_trans hn0 hsz) _).trans hk3,by have:=hk3.size;simp at this;omega⟩
        case measure=>simp [intOf];omega
      · gi_wp2
        refine bodyPost_ret (results_none rfl _ _ _) rfl ?_
        exact ⟨⟨_,rfl⟩,.inr ⟨_,by rw [htk];exact List.take_prefix _ _,hJx3⟩⟩
    · obtain rfl:k=zs.length:=by omega
      gi_wp2
      go_end0
      exact ⟨⟨_,rfl⟩,.inl (by simpa using hJs)⟩
theorem Mi (F:Fence) (n:Nat) (h145:F.fn 145) (hro:F.round=none) (l Bs:Nat) (J:List Lch→World→Prop) (W:World) {A:Option Addr} {c:Nat} (hBs:W.cell? ⟨Bs,0,none⟩=some (.slice A 0 c)) (h0:J [] W) :
    CallsIn F n Tryz.prog 145 #[.func (.yield l) #[] #[],.pointer (some ⟨Bs,0,none⟩)] W fun e W'=>(∃ v,e=.returned v)∧J [] W':=by
  refine callsIn_of_wp Tryz.func145 rfl h145 ?_ hro
  simp only [Tryz.ntmps145,List.size_toArray,List.length_cons,List.length_nil,Nat.reduceAdd,Nat.reduceSub,Array.replicate_succ,Array.replicate_zero,List.push_toArray,List.append_toArray,List.nil_append,List.cons_append]
  gi_wp2
  gi_loopw [7] (fun i wr=>i=.int .i64 0∧J [] wr) (fun _ _=>0)
  case atStart=>exact ⟨rfl,h0⟩
  case round =>
    obtain ⟨rfl,hJs⟩:=hrel
    gi_wp2
    go_end0
    exact ⟨⟨_,rfl⟩,hJs⟩
def LchAt (n₀:Nat) (W:World) (sv:Value) (zs:List Lch):Prop :=
  ((∃ A c,sv=.slice A 0 c)∧zs=[])∨∃ b off cap,sv=.slice (some ⟨b,off,none⟩) zs.length cap∧b < n₀∧∀ j x,zs[j]?=some x→W.cell? ⟨b,off + j * 2,none⟩=some (.int .i64 x.tm)∧W.cell? ⟨b,off + j * 2 + 1,none⟩=some (.int .i64 x.job)
theorem LchAt.below {n₀:Nat} {A B:World} (h:Below n₀ A B) {sv:Value} {zs:List Lch}:LchAt n₀ A sv zs→LchAt n₀ B sv zs
  | .inl e=>.inl e
  | .inr ⟨b,off,cap,e,hb,hc⟩=>.inr ⟨b,off,cap,e,hb,fun j x hj=>⟨(h.cell (p:=⟨b,off + j * 2,none⟩) hb).trans (hc j x hj).1,(h.cell (p:=⟨b,off + j * 2 + 1,none⟩) hb).trans (hc j x hj).2⟩⟩
theorem LV (F:Fence) (n:Nat) (h145:F.fn 145) (hro:F.round=none) (hn:1≤n) (Bs n₀:Nat) (sv:Value) (zs:List Lch) (hreach:zs.length * 16≤140737488351232) (w:World) (hBs:Bs < w.heap.size) (hn₀:n₀≤w.heap.size)
    (hc:w.cell? ⟨Bs,0,none⟩=some sv) (hI:LchAt n₀ w sv zs) :
    SeqStopsK F n Tryz.prog 145 #[.pointer (some ⟨Bs,0,none⟩)] (fun x:Lch=>#[aggU x]) (Below n₀) (fun ys=>ys=zs) (fun pre=>pre <+: zs) zs.length w:=fun l J Jx W hW hJ _ hY h0=>by
  have hc':=(hW.cell (p:=⟨Bs,0,none⟩) hBs).trans hc
  rcases hI.below (hW.mono hn₀) with ⟨⟨A,c,rfl⟩,rfl⟩|⟨b,off,cap,rfl,hb,hcs⟩
  · exact (Mi F n h145 hro l Bs J W hc' h0).mono fun e W' ⟨he,hj⟩=>⟨he,.inl ⟨_,rfl,hj⟩⟩
  · refine (MS F n h145 hro hn l Bs n₀ b off cap zs hreach hb J Jx hY W hJ (Nat.le_trans hn₀ hW.size) hc' hcs h0).mono ?_
    rintro e W' ⟨he,hj|⟨pre,hp,hj⟩⟩
    · exact ⟨he,.inl ⟨_,rfl,hj⟩⟩
    · exact ⟨he,.inr ⟨_,hp,hj⟩⟩
def Two (W:World) (B:Nat) (x:Lch):Prop:=W.heap[B]?=some (.cells #[.int .i64 x.tm,.int .i64 x.job] 52 (0,0))
theorem Two.lt {W:World} {B:Nat} {x:Lch} (h:Two W B x):B < W.heap.size:=(Array.getElem?_eq_some_iff.1 h).1
theorem Ot (B:Nat) (x:Lch) {X Y:World} {row:Option Nat} (h:Two X B x) (hg:X.grownBy Y row) (hrow:∀ r,row=some r→∃ o:Obj,X.heap[r]?=some o∧o.isCells=false):Two Y B x :=
  (hg.block B h.lt fun e=>by obtain ⟨o,ho,hc⟩:=hrow B e.symm;rw [show X.heap[B]?=_ from h] at ho;cases ho;cases hc).trans h
theorem Ou (w:World) (x:Lch):∀ j u,(encU x)[j]?=some u→(w.alloc (.cells #[.int .i64 x.tm,.int .i64 x.job] 52)).cell? ((⟨w.heap.size,0,none⟩:Addr).add j)=some u:=by
  intro j u hj
  have hb:(w.alloc (.cells #[.int .i64 x.tm,.int .i64 x.job] 52)).heap[w.heap.size]?=some (.cells #[.int .i64 x.tm,.int .i64 x.job] 52 (0,0)):=World.alloc_heap_new w _
  rw [Hs,Nat.zero_add]
  match j,hj with
  | 0,hj=>simp only [World.cell?,hb];simpa [encU] using hj
  | 1,hj=>simp only [World.cell?,hb];simpa [encU] using hj
  | j + 2,hj=>simp [encU] at hj
set_option maxRecDepth 100000 in
set_option maxHeartbeats 4000000 in
theorem appendSeq (zs:List Lch) (Bs:Nat) (sv:Value) (hreach:zs.length * 16≤140737488351232) (w:World) (hBs:Bs < w.heap.size) (hc:w.cell? ⟨Bs,0,none⟩=some sv) (hI:LchAt w.heap.size w sv zs) :
    Calls Tryz.prog 175 #[.slice none 0 0,.func (.func 145) #[] #[.pointer (some ⟨Bs,0,none⟩)]] w fun e w' =>
      ∃ v,e=.returned v∧w'.ownsRow w.heap.size 52 2 v zs.length (zs.flatMap encU)∧Below w.heap.size w w':=by
  refine (callsIn_wide (n:=6)).1 ?_
  have h1:1≤6:=by omega
  refine callsIn_of_wp_marks Tryz.func175 rfl trivial ?_ rfl
  simp only [Tryz.ntmps175,List.size_toArray,List.length_cons,List.length_nil,Nat.reduceAdd,Nat.reduceSub,Array.replicate_succ,Array.replicate_zero,List.push_toArray,List.append_toArray,List.nil_append,List.cons_append]
  gi_wp2
  have bS:=Boxed.new w 50 (.slice none 0 0)
  have hB0:Below w.heap.size w (w.alloc (.cells #[.slice none 0 0] 50)):=(Below.refl _ w).alloc (Nat.le_refl _) _
  have hsz:(w.alloc (.cells #[.slice none 0 0] 50)).heap.size=w.heap.size + 1:=by simp
  have hc0:(w.alloc (.cells #[.slice none 0 0] 50)).cell? ⟨Bs,0,none⟩=some sv:=(hB0.cell (p:=⟨Bs,0,none⟩) hBs).trans hc
  obtain ⟨W0,hW0⟩:∃ W0,w.alloc (.cells #[.slice none 0 0] 50)=W0:=⟨_,rfl⟩
  rw [hW0] at bS hB0 hsz hc0 ⊢
  clear hW0
  refine wpIn_rangeFunc_ownH rfl h1 (gf:=145) (lb:=#[.pointer (some ⟨Bs,0,none⟩)]) rfl trivial (enters_of Tryz.func145 (by kernel_rfl) rfl)
    (LV Fence.wide 5 trivial rfl (by omega) Bs w.heap.size sv zs hreach W0 (by omega) (by omega) hc0 (hI.below hB0)) belowK_t (belowK_b (by omega)) (Below.refl _ _) (fun _=>rfl)
    (fun pre W=>(∃ v,Boxed W w.heap.size 50 v∧W.ownsRow w.heap.size 52 2 v pre.length (pre.flatMap encU)∧True)∧Below w.heap.size w W)
    (fun _ _ _=>False)
    (OwnFrom.and (Own.from (holdsRow_own w.heap.size w.heap.size 50 52 2 (fun pre:List Lch=>pre.length) (fun pre=>pre.flatMap encU) (fun _ _=>True)) _) (ownFrom_below (Nat.le_refl _) (by omega)))
    (fun _ _ _ _ _ hs _ _=>hs)
    ⟨⟨_,bS,World.ownsRow_nil _ _ _ _,trivial⟩,hB0⟩
    (fun x a' W=>∃ Bx,w.heap.size < Bx∧Two W Bx x∧a'={ tmps:=#[.slice none 0 0,.func (.func 145) #[] #[.pointer (some ⟨Bs,0,none⟩)],.pointer (some ⟨w.heap.size,0,none⟩),undef,.slice none 0 0,.pointer (some ⟨Bx,0,none⟩),.func (.func 145) #[] #[.pointer (some ⟨Bs,0,none⟩)],aggU x,undef,undef,undef,undef,undef],defers:=[] })
    (fun x a' _ X Y row hs hg hr=>by obtain ⟨Bx,h1,h2,h3⟩:=hs;exact ⟨Bx,h1,Ot Bx x h2 hg (fun r e=>(hr r e).2),h3⟩)
    ?assign ?body ?done ?stop
  case assign =>
    rintro l pre x W K ⟨⟨v,bS1,hr1,_⟩,hB1⟩ hK
    unfold aggU
    gi_wp2
    have hlt:=bS1.lt
    exact hK _ _ ((KeepsOthers.alloc _ _).from _) ((Below.refl _ W).alloc hB1.size _) ⟨⟨v,bS1.alloc _,hr1.alloc _,trivial⟩,hB1.alloc hB1.size _⟩ ⟨W.heap.size,hlt,World.alloc_heap_new W _,rfl⟩
  case body =>
    rintro l pre x a' W hl ⟨r,hr⟩ ⟨⟨v,bS1,hrow,_⟩,hB1⟩ ⟨Bx,hBx,bX,rfl⟩ hlt
    have cS:=bS1.cell
    have fS:=bS1.frozen
    have cX0:W.cell? ⟨Bx,0,none⟩=some (.int .i64 x.tm):=by simp [World.cell?,show W.heap[Bx]?=_ from bX]
    have cX1:W.cell? ⟨Bx,1,none⟩=some (.int .i64 x.job):=by simp [World.cell?,show W.heap[Bx]?=_ from bX]
    obtain ⟨i0,hi,hz0,hz1,hz2⟩:=(inferInstance:TInfo Tryz.prog 52 (.agg #[.int .i64 0,.int .i64 0]) 2 16).eq
    have hpl:pre.length < zs.length:=hlt
    gi_wp2_with (
      gi_at_builtin
      refine wpListIn_append_own _ rfl _ _ 50 rfl w.heap.size 52 i0 (.agg #[.int .i64 0,.int .i64 0]) 2 16 Tryz.underlying50 hi hz0 hz1 hz2 rfl (by decide) v pre.length (pre.flatMap encU) rfl (hrow.alloc _) ⟨W.heap.size,0,none⟩ 1 1 (encU x) rfl rfl (Ou W x) (by intro u hu;simp [encU] at hu;rcases hu with rfl|rfl<;>rfl) (by unfold maxLen;omega) (by omega) (by have:=hB1.size;simp;omega) ?_
      intro v' w3 hown' hg3 hnil3
      obtain ⟨h1a,h2a,h3a,h4a,h5a⟩:=bS1.appended (by decide) hrow hB1.size (Nat.le_refl _) hown' hg3
      have hc3:=h1a.cell
      have hf3:=h1a.frozen
      obtain ⟨g',cap',rfl⟩:=ownsRow_succ hown')
    exact ⟨h4a.from _,h5a,⟨_,h2a,by simpa [List.flatMap_append] using h3a,trivial⟩,hB1.trans h5a⟩
  case done =>
    rintro D ys W hD rfl ⟨⟨v,bS1,hrow,_⟩,hB1⟩ hK
    have cS:=bS1.cell
    gi_wp2
    refine ⟨by simp,.inl ⟨_,_,rfl,run_takeDeferred hK,?_⟩⟩
    exact ⟨_,results_tmp rfl _ _ _,v,rfl,ownsRow_putObj hrow _ hK rfl,hB1.trans (belowK_b (w:=w) (Nat.le_refl _) W D _ _ (by omega) hK rfl rfl)⟩
  case stop =>
    rintro D c pre W _ _ h _
    exact h.elim
theorem LchAt.of {w:World} {A:Nat→Prop} (hA:∀ k,A k→k < w.heap.size) {v:Value} {zs:List Lch} (h:Vb w A v zs):LchAt w.heap.size w v zs:=by
  obtain ⟨Ad,c,rfl⟩:=h.form
  cases zs with
  | nil=>exact .inl ⟨⟨Ad,c,rfl⟩,rfl⟩
  | cons z zs =>
    obtain ⟨b,o,cs,rfl,hb,_,_,_⟩:=h.elem (k:=0) (x:=z) rfl
    refine .inr ⟨b,o,c,rfl,hA b hb,fun j x hx=>?_⟩
    obtain ⟨b',o',cs',e,_,_,hd,hr⟩:=h.elem hx
    injection e with e
    injection e with e1 e2
    subst e1;subst e2
    obtain ⟨rfl,_,_⟩:=hr
    exact ⟨cat0 hd,cat1 hd⟩
theorem LchAt.up {n m:Nat} {W:World} {sv:Value} {zs:List Lch} (h:LchAt n W sv zs) (hnm:n≤m):LchAt m W sv zs:=by
  rcases h with h|⟨b,off,cap,e,hb,hc⟩
  · exact .inl h
  · exact .inr ⟨b,off,cap,e,Nat.lt_of_lt_of_le hb hnm,hc⟩
theorem LW {w:World} {zs:List Lch} {Bs:Nat} {sv:Value} (hreach:zs.length * 16≤140737488351232) (hin:∀ x∈zs,inI64 x.tm∧inI64 x.job) (hBs:Bs < w.heap.size) (hc:w.cell? ⟨Bs,0,none⟩=some sv) (hI:LchAt w.heap.size w sv zs) :
    Fn Tryz.prog 175 [.slice none 0 0,.func (.func 145) #[] #[.pointer (some ⟨Bs,0,none⟩)]] w fun v w'=>Ext w w'∧Own w' w.heap.size (fun k=>k < w.heap.size) 52 v zs:=by
  intro d
  refine (appendSeq zs Bs sv hreach (dr w d) hBs hc hI).mono fun e w' ⟨v,he,hr,hb⟩=>⟨v,w',w'.drawn,he,rfl,⟨hb.os,hb.tape,hb.output,hb.size,hb.block⟩,⟨_,hr,Gy hin,fun g hg hlt=>?_⟩⟩
  have:=(hr.lt g hg).1
  exact Nat.lt_irrefl _ (Nat.lt_of_lt_of_le hlt this)
attribute [local irreducible] ewp owp hwp hwq Ev Evg Fn retPost Res1
attribute [local irreducible] hwx loudX
theorem Nn {w:World} (sv:Value) (h1:sv.cells.toList=[sv]:=by rfl) :
    Fn Tryz.prog 112 [sv] w fun v w'=>v=.func (.func 145) #[] #[.pointer (some ⟨w.heap.size,0,none⟩)]∧New w w' 50 [sv]:=by
  refine AD Tryz.func112 rfl Tryz.ntmps112 rfl ?_
  repeat (first|refine An ?_|refine Ah rfl ?_|refine Ae rfl ?_)
  refine HZ rfl rfl fun w1 hN=>?_
  refine Al rfl rfl (o_z ?_)
  repeat (first|refine An ?_|refine Ah rfl ?_|refine Ae rfl ?_)
  refine JP rfl rfl rfl (Al rfl rfl (o_z ?_))
  repeat (first|refine An ?_|refine Ah rfl ?_|refine Ae rfl ?_)
  rw [h1] at hN
  exact ret1v rfl (Au rfl) ⟨rfl,hN⟩
theorem MT {w:World} {zs:List Lch} {Bs:Nat} {sv:Value} (hreach:zs.length * 16≤140737488351232) (hin:∀ x∈zs,inI64 x.tm∧inI64 x.job) (hBs:Bs < w.heap.size) (hc:w.cell? ⟨Bs,0,none⟩=some sv) (hI:LchAt w.heap.size w sv zs) :
    Fn Tryz.prog 143 [.func (.func 145) #[] #[.pointer (some ⟨Bs,0,none⟩)]] w fun v w'=>Ext w w'∧Own w' w.heap.size (fun k=>k < w.heap.size) 52 v zs:=by
  refine AD Tryz.func143 rfl Tryz.ntmps143 rfl ?_
  repeat (first|refine An ?_|refine Ah rfl ?_|refine Ae rfl ?_)
  refine Al rfl rfl (o_z ?_)
  repeat (first|refine An ?_|refine Ah rfl ?_|refine Ae rfl ?_)
  refine Aj rfl rfl ?_
  refine CH rfl rfl (LW hreach hin hBs hc hI) fun v w' ⟨hE,hv⟩=>?_
  refine Al rfl rfl (o_z ?_)
  repeat (first|refine An ?_|refine Ah rfl ?_|refine Ae rfl ?_)
  exact ret1v rfl (Au rfl) ⟨hE,hv⟩
theorem Lm {w:World} {zs:List Lch} {Bs:Nat} {sv:Value} (hreach:zs.length * 16≤140737488351232) (hl:zs.length < 4611686018427387904) (hin:∀ x∈zs,inI64 x.tm∧inI64 x.job) (hBs:Bs < w.heap.size) (hc:w.cell? ⟨Bs,0,none⟩=some sv) (hI:LchAt w.heap.size w sv zs) :
    Fn Tryz.prog 111 [.func (.func 145) #[] #[.pointer (some ⟨Bs,0,none⟩)],.func (.func 113) #[] #[]] w fun v w'=>Ext w w'∧Own w' w.heap.size (fun k=>k < w.heap.size) 52 v (AU zs):=by
  refine AD Tryz.func111 rfl Tryz.ntmps111 rfl ?_
  repeat (first|refine An ?_|refine Ah rfl ?_|refine Ae rfl ?_)
  refine Al rfl rfl (o_z ?_)
  repeat (first|refine An ?_|refine Ah rfl ?_|refine Ae rfl ?_)
  refine Aj rfl rfl ?_
  refine CH rfl rfl (MT hreach hin hBs hc hI) fun v w' ⟨hE,hv⟩=>?_
  refine Al rfl rfl (o_z ?_)
  repeat (first|refine An ?_|refine Ah rfl ?_|refine Ae rfl ?_)
  refine Aj rfl rfl (Aj rfl rfl ?_)
  have hR:Rw 1 w' (fun k=>if k < w.heap.size then 0 else 1) 52 v zs:=by
    obtain ⟨cells,h1,h2,h3⟩:=hv
    refine ⟨⟨cells,⟨h1.1,?_⟩,h2.mono (fun k hk=>⟨Nat.lt_of_lt_of_le hk hE.size,if_pos hk⟩),fun g hg hq=>?_⟩,fun g hg=>?_,by decide⟩
    · rcases h1.2 with h|⟨g,cap,cur,e,_,r⟩
      · exact .inl h
      · exact .inr ⟨g,cap,cur,e,Nat.zero_le _,r⟩
    · have:=(h1.lt g hg).1
      have h4:(if g < w.heap.size then 0 else 1)=0:=hq.2
      rw [if_neg (by omega)] at h4
      exact absurd h4 (by decide)
    · have:=(h1.lt g hg).1
      exact if_neg (by omega)
  refine CH rfl rfl (IO hR hl) fun u w2 ⟨O',hS,hR2⟩=>?_
  refine o_z ?_
  repeat (first|refine An ?_|refine Ah rfl ?_|refine Ae rfl ?_)
  refine Aj rfl rfl (Al rfl rfl (o_z ?_))
  repeat (first|refine An ?_|refine Ah rfl ?_|refine Ae rfl ?_)
  refine ret1v rfl (Au rfl) ⟨⟨hS.os.trans hE.os,hS.tape.trans hE.tape,hS.output.trans hE.output,Nat.le_trans hE.size hS.size,fun k hk=>?_⟩,?_⟩
  · refine (hS.same k (Nat.lt_of_lt_of_le hk hE.size) ?_).1.trans (hE.block k hk)
    rw [if_pos hk];decide
  · obtain ⟨c0,g1,_,_⟩:=hv
    obtain ⟨c1,k1,k2,_⟩:=hR2.1
    obtain ⟨rfl,hin'⟩:=Hj k2
    refine ⟨_,⟨k1.1,?_⟩,Gy hin',fun g hg hlt=>?_⟩
    · rcases k1.2 with h|⟨g,cap,cur,e,_,r⟩
      · exact .inl h
      · exact .inr ⟨g,cap,cur,e,(g1.lt g (by rw [e];rfl)).1,r⟩
    · have:=(g1.lt g hg).1
      exact Nat.lt_irrefl _ (Nat.lt_of_lt_of_le hlt this)
noncomputable def DK (x0:List Lch):Option (List Lch):=if x0.length * 16≤140737488351232 then some (AU x0) else none
theorem JZ {w:World} {A:Nat→Prop} (hA:∀ k,A k→k < w.heap.size) {vx0:Value} {x0:List Lch} (a0:Vb w A vx0 x0) {r:List Lch} (hm:DK x0=some r) :
    Fn Tryz.prog 66 [vx0] w fun v w'=>Ext w w'∧Vb w' (upA A w w') v r:=by
  obtain ⟨hl,rfl⟩:=CC hm
  obtain ⟨Ad,c,rfl⟩:=a0.form
  have hin:∀ x∈x0,inI64 x.tm∧inI64 x.job:=fun x hx=>by
    obtain ⟨j,hj⟩:=List.getElem?_of_mem hx
    obtain ⟨_,_,cs,_,_,_,_,hr⟩:=a0.elem hj
    exact ⟨hr.2.1,hr.2.2⟩
  have hat:=LchAt.of hA a0
  refine AD Tryz.func66 rfl Tryz.ntmps66 rfl ?_
  repeat (first|refine An ?_|refine Ah rfl ?_|refine Ae rfl ?_)
  refine Al rfl rfl (o_z ?_)
  repeat (first|refine An ?_|refine Ah rfl ?_|refine Ae rfl ?_)
  refine Aj rfl rfl ?_
  refine CH rfl rfl (Nn (.slice Ad x0.length c)) fun v w1 ⟨hv,hN⟩=>?_
  subst hv
  have hB1:Ext w w1:=hN.ext
  refine CH rfl rfl (Lm hl (by omega) hin (Bs:=w.heap.size) (sv:=.slice Ad x0.length c) (by rw [hN.size];omega) (hN.blk.cell (i:=0) rfl) ((hat.below hB1).up hB1.size)) fun u w2 ⟨hE,ho⟩=>?_
  refine Al rfl rfl (o_z ?_)
  repeat (first|refine An ?_|refine Ah rfl ?_|refine Ae rfl ?_)
  refine ret1v rfl (Au rfl) ⟨hB1.trans (hE.mono hB1.size),?_⟩
  obtain ⟨cells,k1,k2,k3⟩:=ho
  obtain ⟨rfl,hin'⟩:=Hj k2
  have ho':Own w2 w1.heap.size (fun _=>False) 52 u (AU x0):=⟨_,k1,Gy hin',fun _ _ h=>h⟩
  refine ho'.vb.mono fun k hk=>?_
  rcases hk with h|h
  · exact h.elim
  · exact .inr ⟨Nat.le_trans hB1.size (ho'.lt k h).1,(ho'.lt k h).2⟩
end
section
open Go Go.RowKit
attribute [local irreducible] ewp owp hwp hwq Ev Evg Fn retPost Res1
attribute [local irreducible] hwx loudX
structure Wtr where
  t:Tpl
  first:List Int
  last:Int
  left:List Int
  out:List Int
instance:Ow Wtr where
  R w F M v x:=∃ (g:Nat) (L:Lab) (c0 c1 c2 c3 c4 c5 c6:Value),v=.pointer (some ⟨g,0,none⟩)∧Blk w g 110 [c0,c1,c2,c3,c4,.int .i64 x.last,c5,c6]∧M g∧L g=0∧Vb w F c0 x.t.vars∧Vb w F c1 x.t.init∧Vb w F c2 x.t.goal∧Vb w F c3 x.t.jobs∧RwM w F (fun k=>M k∧L k=1) 3 c4 x.first∧inI64 x.last∧RwM w F (fun k=>M k∧L k=2) 3 c5 x.left∧RwM w F (fun k=>M k∧L k=3) 3 c6 x.out
  agree:=by rintro w w' F M v x ⟨g,L,c0,c1,c2,c3,c4,c5,c6,rfl,hb,hM,hL,h0,h1,h2,h3,h4,h5,h6,h7⟩ a1 a2;exact ⟨g,L,c0,c1,c2,c3,c4,c5,c6,rfl,hb.keep (a2 g hM),hM,hL,h0.agree a1,h1.agree a1,h2.agree a1,h3.agree a1,h4.agree a1 fun k hk=>a2 k hk.1,h5,h6.agree a1 fun k hk=>a2 k hk.1,h7.agree a1 fun k hk=>a2 k hk.1⟩
  mono:=by rintro w F M F' M' v x ⟨g,L,c0,c1,c2,c3,c4,c5,c6,rfl,hb,hM,hL,h0,h1,h2,h3,h4,h5,h6,h7⟩ a1 a2 a3;exact ⟨g,L,c0,c1,c2,c3,c4,c5,c6,rfl,hb,a2 g hM,hL,h0.mono a1,h1.mono a1,h2.mono a1,h3.mono a1,h4.mono a1 (fun k hk=>⟨a2 k hk.1,hk.2⟩) fun k hf hm=>a3 k hf hm.1,h5,h6.mono a1 (fun k hk=>⟨a2 k hk.1,hk.2⟩) fun k hf hm=>a3 k hf hm.1,h7.mono a1 (fun k hk=>⟨a2 k hk.1,hk.2⟩) fun k hf hm=>a3 k hf hm.1⟩
theorem Wtr.opn {i:Nat} {w:World} {O:Lab} {p:Nat} {x:Wtr} (h:Ob i w O (.pointer (some ⟨p,0,none⟩)) x) (l0 l1 l2 l3:Nat) (hl:l0≠0∧l1≠0∧l2≠0∧l3≠0):∃ (O':Lab) (c0 c1 c2 c3 c4 c5 c6:Value),St (eT i) w O w O'∧(∀ k,Fr i w O k→∃ q,q∈[l0,l1,l2,l3]∧Fr q w O' k)∧Lc l0 w O' p 110 [c0,c1,c2,c3,c4,.int .i64 x.last,c5,c6]∧Vb w (Fr 0 w O') c0 x.t.vars∧Vb w (Fr 0 w O') c1 x.t.init∧Vb w (Fr 0 w O') c2 x.t.goal∧Vb w (Fr 0 w O') c3 x.t.jobs∧Rw l1 w O' 3 c4 x.first∧inI64 x.last∧Rw l2 w O' 3 c5 x.left∧Rw l3 w O' 3 c6 x.out:=by
  obtain ⟨⟨g,L,c0,c1,c2,c3,c4,c5,c6,hv,hb,hM,hL,h0,h1,h2,h3,h4,h5,h6,h7⟩,hi⟩:=h
  obtain rfl:p=g:=by injection hv with hv;injection hv with hv;injection hv
  exact ⟨part O i L [l0,l1,l2,l3],c0,c1,c2,c3,c4,c5,c6,Oh hi,Nw (by simp),⟨hb,(Jn (j:=0) rfl p ⟨hM,hL⟩).2⟩,h0.mono (Gg hi),h1.mono (Gg hi),h2.mono (Gg hi),h3.mono (Gg hi),h4.rw (Gg hi) (Jn (j:=1) rfl) hl.2.1,h5,h6.rw (Gg hi) (Jn (j:=2) rfl) hl.2.2.1,h7.rw (Gg hi) (Jn (j:=3) rfl) hl.2.2.2⟩
theorem Wtr.shut {w:World} {O:Lab} {p:Nat} {x:Wtr} {l0 l1 l2 l3:Nat} {c0 c1 c2 c3 c4 c5 c6:Value} (hd:¬ 0∈[l0,l1,l2,l3]∧[l0,l1,l2,l3].idxOf l0=0∧[l0,l1,l2,l3].idxOf l1=1∧[l0,l1,l2,l3].idxOf l2=2∧[l0,l1,l2,l3].idxOf l3=3) (hb:Lc l0 w O p 110 [c0,c1,c2,c3,c4,.int .i64 x.last,c5,c6]) (h0:Vb w (Fr 0 w O) c0 x.t.vars) (h1:Vb w (Fr 0 w O) c1 x.t.init) (h2:Vb w (Fr 0 w O) c2 x.t.goal) (h3:Vb w (Fr 0 w O) c3 x.t.jobs) (h4:Rw l1 w O 3 c4 x.first) (h5:inI64 x.last) (h6:Rw l2 w O 3 c5 x.left) (h7:Rw l3 w O 3 c6 x.out):∃ O',St (·∈[l0,l1,l2,l3]) w O w O'∧(∀ k,Fr 0 w O k→Fr 0 w O' k)∧(∀ q,q∈[l0,l1,l2,l3]→∀ k,Fr q w O k→Fr l0 w O' k)∧Ob l0 w O' (.pointer (some ⟨p,0,none⟩)) x:=by
  have hb1:l0≠0:=fun e=>hd.1 (by simp [e])
  have hg:=Is (i:=l0) hd.2.1 (by simp) p ⟨hb.1.lt,hb.2⟩
  exact ⟨whole O l0 [l0,l1,l2,l3],Nx,EY hd.1,Nb,⟨p,fun k=>[l0,l1,l2,l3].idxOf (O k),c0,c1,c2,c3,c4,c5,c6,rfl,hb.1,hg.1,hg.2,h0.mono (EY hd.1),h1.mono (EY hd.1),h2.mono (EY hd.1),h3.mono (EY hd.1),h4.m (EY hd.1) (Is hd.2.2.1 (by simp)) (fun k a b=>frNe0 hb1 k a b.1),h5,h6.m (EY hd.1) (Is hd.2.2.2.1 (by simp)) (fun k a b=>frNe0 hb1 k a b.1),h7.m (EY hd.1) (Is hd.2.2.2.2 (by simp)) (fun k a b=>frNe0 hb1 k a b.1)⟩,hb1⟩
noncomputable def BR (x0:List Lch) (x1:Lch):Option Int :=
  bnd (rng (ρ:=Int) (fun (k19:Nat) (a20:Lch) (s17:Unit)=>if x1.tm=a20.tm∧x1.job=a20.job then (some (.ret (k19:Int))) else (some (.next ()))) x0 0 ()) fun res15=>fin res15 fun (s44:Unit)=>some (-1)
theorem Fy {w:World} {A:Nat→Prop} (hA:∀ k,A k→k < w.heap.size) {vx0:Value} {x0:List Lch} (b0:Vb w A vx0 x0) {vx1:Value} {x1:Lch} (i0:Vb w A vx1 x1) {r:Int} (hm:BR x0 x1=some r) :
    Fn Tryz.prog 115 [vx0,vx1] w fun v w'=>Ext w w'∧Vb w' (upA A w w') v r:=by
 obtain ⟨O,hB,s0⟩:=enter hA
 replace b0:=b0.mono s0
 obtain ⟨A3,c4,rfl⟩:=b0.form
 replace i0:=i0.mono s0
 obtain ⟨z0,rfl,rfl,r6,r7⟩:=i0
 refine AD Tryz.func115 rfl Tryz.ntmps115 rfl ?_
 unfold BR at hm
 refine Ab (Aa (BX 2 O rfl rfl fun g8 w9 t0 j0 c0=>?_))
 replace c0:Lc 2 w9 t0 g8 52 [(.int .i64 x1.tm),(.int .i64 x1.job)]:=c0
 refine Al rfl rfl (o_z ?_)
 refine Ab (Ab (Aa (Aj rfl rfl (AT rfl rfl ?_))))
 replace b0:=b0.st j0
 have k0:x0.length≤9223372036854775807:=Nat.le_trans b0.len.2.1 b0.len.2.2
 have a1:inI64 (x0.length:Int):=rngNat k0
 refine Aj rfl rfl (o_z ?_)
 obtain ⟨e0,l0,hm⟩:=bs hm
 refine Ax (aft e0 (fun (g0:Unit) (h0:Unit)=>[]) (fun g0 h0 w'=>∃ O':Lab,Bs w A w' O')) ?_ ?_
 ·
  refine AN ?_
  replace hB:=hB.st j0
  refine Bn (σ:=Unit) (X:=Unit) (x0.length) l0 rfl k0 (fun (g0:Unit) (h0:Unit)=>[(0,(.slice A3 x0.length c4)),(3,(.pointer (some ⟨g8,0,none⟩)))]) _ (fun g0 h0 w'=>∃ O':Lab,Bs w A w' O'∧Vb w' (Fr 0 w' O') (.slice A3 x0.length c4) x0∧Lc 2 w' O' g8 52 [(.int .i64 x1.tm),(.int .i64 x1.job)]) _ () ⟨t0,hB,b0,c0⟩ ⟨rfl,rfl,rfl,rfl,trivial⟩ (fun _ _=>⟨rfl,rfl⟩) (fun _ _=>trivial) (fun _ _ _ ⟨O',hB,b0,c0⟩=>⟨O',hB⟩) ⟨rfl,rfl,rfl⟩ ⟨rfl,rfl⟩ ?_
  rintro u0 b1 g0 h0 v0 w0 f0 ⟨c1,hB,b0,c0⟩ a0 d0 m0
  have rk19:inI64 (u0:Int):=rngK f0 k0
  refine Ab (Aa (Aj rfl rfl (Al rfl rfl (o_z ?_))))
  refine Ab (GG (·=v0) [(0,true),(1,true),(2,true),(3,true),(4,true),(5,true)] (by kernel_rfl) rfl (by kernel_rfl) rfl ?_)
  refine NT (hl:=rfl) (hc:=(c0.1).cellsAt) rfl rfl rfl ?_
  refine Bt rfl rfl rfl (Bt rfl rfl rfl ?_)
  obtain ⟨d1,e1,y0,n0,o0,p0,rfl,f1,g1⟩:=b0.elem' f0
  refine Gd (hA:=n0) (hj:=rfl) (hlt:=o0) rfl rfl rfl rfl ?_
  refine NT (hl:=rfl) (hc:=p0) rfl rfl rfl ?_
  refine Pp rfl rfl rfl rfl (fun q0=>?_) fun q0=>?_
  ·
   replace a0:=ip a0 q0
   refine h_z ?_
   refine Ah rfl (Ab (Aa (Aj rfl rfl (Al rfl rfl (o_z ?_)))))
   refine AB ?_
   obtain rfl:=sm a0
   obtain rfl:=d0 _ rfl
   obtain rfl:=sm (Cq hm)
   exact ret1v rfl (Au rfl) ⟨hB.ext,(vInt rk19)⟩
  replace a0:=im a0 q0
  refine h_z ?_
  refine Ae rfl (AQ ?_)
  obtain rfl:=sm a0
  exact show Exists _ from ⟨_,(),rfl,⟨rfl,rfl,rfl,rfl,trivial⟩,_,hB,b0,c0⟩
 replace hB:=hB.st j0
 rintro h1 i1 ⟨j1,k1,rfl,r0,l1,hB⟩
 replace hm:=AX hm
 refine AC _ r0 ?_
 refine Ab (Aa (Al rfl rfl (o_z ?_)))
 refine AB ?_
 obtain rfl:=sm hm
 exact ret1v rfl (Au rfl) ⟨hB.ext,(vInt (show inI64 (-1) from by decide))⟩
noncomputable def BG (x0:List Lch) (x1:Lch):Option Bool :=
  bnd (bnd (BR x0 x1) fun q17=>if 0≤q17 then (some true) else (some false):Option Bool) fun y13=>some y13
theorem Ff {w:World} {A:Nat→Prop} (hA:∀ k,A k→k < w.heap.size) {vx0:Value} {x0:List Lch} (b0:Vb w A vx0 x0) {vx1:Value} {x1:Lch} (e0:Vb w A vx1 x1) {r:Bool} (hm:BG x0 x1=some r) :
    Fn Tryz.prog 67 [vx0,vx1] w fun v w'=>Ext w w'∧Vb w' (upA A w w') v r:=by
 obtain ⟨O,hB,i0⟩:=enter hA
 replace b0:=b0.mono i0
 obtain ⟨A3,c4,rfl⟩:=b0.form
 replace e0:=e0.mono i0
 obtain ⟨p0,rfl,rfl,r6,r7⟩:=e0
 refine AD Tryz.func67 rfl Tryz.ntmps67 rfl ?_
 unfold BG at hm
 refine Ab (Aa (BX 2 O rfl rfl fun g8 w9 c0 d0 f0=>?_))
 replace f0:Lc 2 w9 c0 g8 52 [(.int .i64 x1.tm),(.int .i64 x1.job)]:=f0
 refine Al rfl rfl (o_z ?_)
 refine Ab ?_
 obtain ⟨k0,a0,hm⟩:=bs hm
 refine Ax (fun l' w'=>∃ (l0:Unit) (O':Lab),subs l' [(4,(.bool k0))]∧Bs w A w' O') ?_ ?_
 ·
  refine Aa (Aj rfl rfl (Bp (hl:=rfl) (hc:=(f0.1).cellsAt) rfl rfl ?_))
  obtain ⟨m0,n0,a0⟩:=bs a0
  replace b0:=b0.st d0
  refine AF (O:=c0) (A:=All w9) (R:=fun w' F v=>Vb w' F v m0) (Fy (fun _ h=>h) (Vb.mono (F:=Fr 0 w9 c0) b0 Fr.lt) (Vb.mono (F:=Fr 0 w9 c0) (Vb.ofAgg (cs:=[(.int .i64 x1.tm),(.int .i64 x1.job)]) (x:=x1) rfl ⟨rfl,r6,r7⟩) Fr.lt) n0) rfl rfl fun q0 r0 s0 j0 o0=>?_
  obtain ⟨rfl,t0⟩:=o0.int
  refine EM rfl rfl rfl (fun g0=>?_) fun g0=>?_
  ·
   replace a0:=ip a0 g0
   refine Al rfl rfl (o_z ?_)
   obtain rfl:=sm a0
   exact ⟨(),_,⟨rfl,trivial⟩,(hB.st d0).st j0⟩
  replace a0:=im a0 g0
  refine Al rfl rfl (o_z ?_)
  obtain rfl:=sm a0
  exact ⟨(),_,⟨rfl,trivial⟩,(hB.st d0).st j0⟩
 replace hB:=hB.st d0
 rintro u0 v0 ⟨l0,w0,h0,hB⟩
 refine AC _ h0 ?_
 refine AB ?_
 obtain rfl:=sm hm
 exact ret1v rfl (Au rfl) ⟨hB.ext,vBool⟩
noncomputable def Dc (x0:Wtr):Option Wtr :=
  bnd (chkI (2 * (x0.t.jobs.length:Int))) fun n40=>bnd (appI 8 x0.out ([n40]:List Int)) fun u49=>bnd (rng (ρ:=Wtr) (fun (k73:Nat) (a74:Job) (s71:Wtr)=>bnd (s71.first[k73]?) fun a122=>bnd (s71.left[k73]?) fun a132=>bnd (chkI (a122 + a132)) fun n142=>bnd (appI 8 s71.out ([n142]:List Int)) fun u151=>bnd (s71.left[k73]?) fun a164=>bnd (chkI (a164 - 1)) fun n174=>bnd (s71.left[k73]?) fun a177=>some (.next (⟨(⟨s71.t.vars,s71.t.init,s71.t.goal,s71.t.jobs⟩:Tpl),s71.first,s71.last,(s71.left.set k73 (max 0 n174)),u151⟩:Wtr))) x0.t.jobs 0 (⟨(⟨x0.t.vars,x0.t.init,x0.t.goal,x0.t.jobs⟩:Tpl),x0.first,x0.last,x0.left,u49⟩:Wtr)) fun res69=>fin res69 fun (s198:Wtr)=>bnd (appI 8 s198.out ([s198.last]:List Int)) fun u242=>some (⟨(⟨s198.t.vars,s198.t.init,s198.t.goal,s198.t.jobs⟩:Tpl),s198.first,s198.last,s198.left,u242⟩:Wtr)
theorem Ii {w:World} {O:Lab} {p0 i0:Nat} {x0:Wtr} (m1:Ob i0 w O (.pointer (some ⟨p0,0,none⟩)) x0) {r:Wtr} (hm:Dc x0=some r) :
    Fn Tryz.prog 68 [(.pointer (some ⟨p0,0,none⟩))] w fun v w'=>∃ O',St (eT i0) w O w' O'∧Ob i0 w' O' (.pointer (some ⟨p0,0,none⟩)) r:=by
 obtain ⟨O0,hE,n5,o5⟩:=ent1 (w:=w) (O:=O) m1.2
 have m1':=Ob.leave m1 n5 o5 (j:=2) (by decide)
 have hB:Bm w O0 w O0:=Bm.refl
 refine AD Tryz.func68 rfl Tryz.ntmps68 rfl ?_
 unfold Dc at hm
 refine Ab ?_
 obtain ⟨O2,v6,r8,s8,t8,u8,v8,w8,S3,x8,h4,h7,m2,n2,g1,o2,p5,p2,q2⟩:=Wtr.opn m1' 2 3 4 5 (by decide)
 obtain ⟨A8,c9,rfl⟩:=h7.form
 obtain ⟨q5,r5,rfl⟩:=m2.form
 obtain ⟨s5,t5,rfl⟩:=n2.form
 obtain ⟨u5,v5,rfl⟩:=g1.form
 obtain ⟨w5,x5,rfl⟩:=o2.form
 obtain ⟨y5,z5,rfl⟩:=p2.form
 obtain ⟨y8,z8,rfl⟩:=q2.form
 refine BD [(13,[5])] O2 ?_
 refine AK (fuel:=6) [] [(1,true),(2,true),(3,true),(4,true),(5,true),(6,true),(7,true),(8,true),(9,true),(10,true),(11,true)] (by kernel_rfl) rfl ?_
 refine Bt rfl rfl rfl (Gf rfl rfl rfl (Ba rfl rfl rfl (By (hc:=fun w' ⟨O',hq⟩=>Blk.cell (i:=7) ((h4.st hq (by decide)).1) rfl) rfl rfl rfl ?_)))
 refine Bt rfl rfl rfl (Gf rfl rfl rfl (Ba rfl rfl rfl (Ba rfl rfl rfl (By (hc:=fun w' ⟨O',hq⟩=>Blk.cell (i:=3) ((h4.st hq (by decide)).1) rfl) rfl rfl rfl ?_))))
 refine KL rfl rfl rfl ?_
 have a6:x0.t.jobs.length≤9223372036854775807:=Nat.le_trans g1.len.2.1 g1.len.2.2
 have a9:inI64 (x0.t.jobs.length:Int):=rngNat a6
 obtain ⟨b6,y4,hm⟩:=bs hm
 have c6:=(Bw y4)
 refine NZ (he:=y4) rfl rfl rfl rfl ?_
 refine At ?_
 refine AK (fuel:=5) [5] [(0,true)] (by kernel_rfl) rfl ?_
 refine Bt rfl rfl rfl (At ?_)
 refine Ar (i:=12) (by kernel_rfl) rfl ?_
 refine AL 6 (by decide) O2 (xs:=(([b6]:List Int):List Int)) rfl rfl rfl rfl ⟨(vInt c6),trivial⟩ (by decide) (by decide) rfl fun b9 d9 e9 q0 d6=>?_
 have hZ:=q0.lst [] (fun _ h=>h.elim)
 refine Az [(13,[5])] hZ (by kernel_rfl) ?_
 refine Ar (i:=13) (by kernel_rfl) rfl ?_
 obtain ⟨z4,w2,hm⟩:=bs hm
 obtain ⟨w2,e6,f6⟩:=AR w2
 replace q2:=q2.st q0
 refine Bo rfl q2 (d6.rd) rfl rfl (by decide) e6 f6 rfl fun g6 h6 f9 i6 s0 r2=>?_
 rw [← w2] at r2 ⊢
 have hZ:=s0.lst [5] (fun _ h=>by cases h;decide)
 refine Az [] hZ (by kernel_rfl) ?_
 refine AK (fuel:=1) [] [(14,true),(15,true)] (by kernel_rfl) rfl ?_
 refine Gf rfl rfl rfl (Ba rfl rfl rfl (At ?_))
 refine Ar (i:=16) (by kernel_rfl) rfl ?_
 replace h4:=(h4.st q0).st s0
 refine Ay h4 rfl rfl rfl (AJ rfl) (allOne rfl) fun j6 t0 h4=>?_
 replace h4:Lc 2 j6 i6 p0 110 [(.slice A8 x0.t.vars.length c9),(.slice q5 x0.t.init.length r5),(.slice s5 x0.t.goal.length t5),(.slice u5 x0.t.jobs.length v5),(.slice w5 x0.first.length x5),(.int .i64 x0.last),(.slice y5 x0.left.length z5),(.slice g6 z4.length h6)]:=h4
 refine BA (by kernel_rfl) ?_
 refine Bu (by kernel_rfl) ?_
 refine Ab (Ab (Aa (Aj rfl rfl (KF rfl rfl (AA rfl rfl (AA rfl rfl (Aw (hc:=Blk.cell (i:=3) (h4.1) rfl) rfl rfl ?_)))))))
 refine AT rfl rfl ?_
 replace g1:=((g1.st q0).st s0).st t0
 have x2:x0.t.jobs.length≤9223372036854775807:=Nat.le_trans g1.len.2.1 g1.len.2.2
 have g9:inI64 (x0.t.jobs.length:Int):=rngNat x2
 refine Aj rfl rfl (o_z ?_)
 replace h7:=((h7.st q0).st s0).st t0
 replace m2:=((m2.st q0).st s0).st t0
 replace n2:=((n2.st q0).st s0).st t0
 replace o2:=((o2.st q0).st s0).st t0
 replace p2:=((p2.st q0).st s0).st t0
 replace r2:=r2.st t0
 obtain ⟨k6,a5,l6,m6,n6⟩:=Wtr.shut (x:=(⟨(⟨x0.t.vars,x0.t.init,x0.t.goal,x0.t.jobs⟩:Tpl),x0.first,x0.last,x0.left,z4⟩:Wtr)) (l0:=2) (l1:=3) (l2:=4) (l3:=5) (by decide) h4 h7 m2 n2 g1 o2 p5 p2 r2
 obtain ⟨n1,y2,hm⟩:=bs hm
 refine Ax (aft n1 (fun (c0:Wtr) (s2:Unit)=>[(0,(.pointer (some ⟨p0,0,none⟩)))]) (fun c0 s2 w'=>∃ O':Lab,Bm w O0 w' O'∧Ob 2 w' O' (.pointer (some ⟨p0,0,none⟩)) c0)) ?_ ?_
 ·
  refine AN ?_
  replace hB:=((((hB.st S3).st q0).st s0).st t0).st a5
  refine Bn (σ:=Wtr) (X:=Unit) (x0.t.jobs.length) y2 rfl x2 (fun (c0:Wtr) (s2:Unit)=>[(0,(.pointer (some ⟨p0,0,none⟩)))]) _ (fun c0 s2 w'=>∃ O':Lab,Bm w O0 w' O'∧Ob 2 w' O' (.pointer (some ⟨p0,0,none⟩)) c0) _ () ⟨k6,hB,n6⟩ ⟨rfl,rfl,rfl,trivial⟩ (fun _ _=>⟨rfl,rfl⟩) (fun _ _=>⟨rfl,trivial⟩) (fun _ _ _ ⟨O',hB,o1⟩=>⟨O',hB,o1⟩) ⟨rfl,rfl,rfl⟩ ⟨rfl,rfl⟩ ?_
  rintro z2 h9 c0 s2 i9 o6 a3 ⟨j9,hB,o1⟩ a0 b3 c3
  have rk73:inI64 (z2:Int):=rngK a3 x2
  refine Ab (Aa (Aj rfl rfl (Al rfl rfl (o_z ?_))))
  refine Ab ?_
  obtain ⟨b5,k9,l9,m9,p6,q6,r6,s6,t6,u6,o0,t2,u2,v2,u0,r0,d3,f0,v0⟩:=Wtr.opn o1 2 3 4 5 (by decide)
  obtain ⟨w6,x6,rfl⟩:=t2.form
  obtain ⟨y6,z6,rfl⟩:=u2.form
  obtain ⟨e3,f3,rfl⟩:=v2.form
  obtain ⟨g3,h3,rfl⟩:=u0.form
  obtain ⟨i3,j3,rfl⟩:=r0.form
  obtain ⟨k3,m3,rfl⟩:=f0.form
  obtain ⟨a7,b7,rfl⟩:=v0.form
  refine BD [(21,[5])] b5 ?_
  refine AK (fuel:=6) [] [(1,true),(2,true),(3,true),(4,true),(5,true),(6,true),(7,true),(8,true),(9,true),(10,true),(11,true),(12,true),(13,true),(14,true),(15,true),(16,true),(17,true),(18,true),(19,true)] (by kernel_rfl) rfl ?_
  refine Bt rfl rfl rfl (Gf rfl rfl rfl (Ba rfl rfl rfl (By (hc:=fun w' ⟨O',hq⟩=>Blk.cell (i:=7) ((o0.st hq (by decide)).1) rfl) rfl rfl rfl ?_)))
  refine Bt rfl rfl rfl (Gf rfl rfl rfl (Ba rfl rfl rfl (By (hc:=fun w' ⟨O',hq⟩=>Blk.cell (i:=4) ((o0.st hq (by decide)).1) rfl) rfl rfl rfl ?_)))
  refine Bt rfl rfl rfl ?_
  obtain ⟨c7,n3,a0⟩:=bs a0
  obtain ⟨d7,e7,c5,p1,q1,r1,s1,rfl,f7⟩:=r0.elemF n3
  refine Gd (hA:=p1) (hj:=rfl) (hlt:=r1) rfl rfl rfl rfl ?_
  refine By (hc:=fun w' ⟨O',hq⟩=>cat0 (CE (hq.agree (i:=3) (by decide)) q1 s1)) rfl rfl rfl ?_
  refine Bt rfl rfl rfl (Gf rfl rfl rfl (Ba rfl rfl rfl (By (hc:=fun w' ⟨O',hq⟩=>Blk.cell (i:=6) ((o0.st hq (by decide)).1) rfl) rfl rfl rfl ?_)))
  refine Bt rfl rfl rfl ?_
  obtain ⟨g7,o3,a0⟩:=bs a0
  obtain ⟨i7,j7,d5,t1,u1,v1,w1,rfl,k7⟩:=f0.elemF o3
  refine Gd (hA:=t1) (hj:=rfl) (hlt:=v1) rfl rfl rfl rfl ?_
  refine By (hc:=fun w' ⟨O',hq⟩=>cat0 (CE (hq.agree (i:=4) (by decide)) u1 w1)) rfl rfl rfl ?_
  obtain ⟨p3,x1,a0⟩:=bs a0
  have q3:=(Bw x1)
  refine Ks (he:=x1) rfl rfl rfl rfl ?_
  refine At ?_
  refine AK (fuel:=5) [5] [(0,true)] (by kernel_rfl) rfl ?_
  refine Bt rfl rfl rfl (At ?_)
  refine Ar (i:=20) (by kernel_rfl) rfl ?_
  refine AL 7 (by decide) b5 (xs:=(([p3]:List Int):List Int)) rfl rfl rfl rfl ⟨(vInt q3),trivial⟩ (by decide) (by decide) rfl fun l7 m7 n7 d0 r3=>?_
  have hZ:=d0.lst [] (fun _ h=>h.elim)
  refine Az [(21,[5])] hZ (by kernel_rfl) ?_
  refine Ar (i:=21) (by kernel_rfl) rfl ?_
  obtain ⟨y1,i1,a0⟩:=bs a0
  obtain ⟨i1,s3,t3⟩:=AR i1
  replace v0:=v0.st d0
  refine Bo rfl v0 (r3.rd) rfl rfl (by decide) s3 t3 rfl fun u3 v3 o7 z1 g0 w0=>?_
  rw [← i1] at w0 ⊢
  have hZ:=g0.lst [5] (fun _ h=>by cases h;decide)
  refine Az [] hZ (by kernel_rfl) ?_
  refine AK (fuel:=1) [] [(22,true),(23,true)] (by kernel_rfl) rfl ?_
  refine Gf rfl rfl rfl (Ba rfl rfl rfl (At ?_))
  refine Ar (i:=24) (by kernel_rfl) rfl ?_
  replace o0:=(o0.st d0).st g0
  refine Ay o0 rfl rfl rfl (AJ rfl) (allOne rfl) fun w3 k0 o0=>?_
  replace o0:Lc 2 w3 z1 p0 110 [(.slice w6 c0.t.vars.length x6),(.slice y6 c0.t.init.length z6),(.slice e3 c0.t.goal.length f3),(.slice g3 c0.t.jobs.length h3),(.slice i3 c0.first.length j3),(.int .i64 c0.last),(.slice k3 c0.left.length m3),(.slice u3 y1.length v3)]:=o0
  refine BA (by kernel_rfl) ?_
  refine Bu (by kernel_rfl) ?_
  refine BD [] z1 ?_
  refine AK (fuel:=1) [] [(0,true),(1,true),(2,true),(3,true),(4,true),(5,true),(6,true),(7,true),(8,true),(9,true),(10,true),(11,true),(12,true),(13,true),(14,true)] (by kernel_rfl) rfl ?_
  refine Bt rfl rfl rfl (Gf rfl rfl rfl (Ba rfl rfl rfl (By (hc:=fun w' ⟨O',hq⟩=>Blk.cell (i:=6) ((o0.st hq (by decide)).1) rfl) rfl rfl rfl ?_)))
  refine Bt rfl rfl rfl (Bt rfl rfl rfl (Gf rfl rfl rfl (Ba rfl rfl rfl (By (hc:=fun w' ⟨O',hq⟩=>Blk.cell (i:=6) ((o0.st hq (by decide)).1) rfl) rfl rfl rfl ?_))))
  refine Bt rfl rfl rfl ?_
  obtain ⟨p7,x3,a0⟩:=bs a0
  replace f0:=((f0.st d0).st g0).st k0
  obtain ⟨q7,r7,e5,a2,b2,c2,d2,rfl,s7⟩:=f0.elemF x3
  refine Gd (hA:=a2) (hj:=rfl) (hlt:=c2) rfl rfl rfl rfl ?_
  refine By (hc:=fun w' ⟨O',hq⟩=>cat0 (CE (hq.agree (i:=4) (by decide)) b2 d2)) rfl rfl rfl ?_
  obtain ⟨j1,e2,a0⟩:=bs a0
  have y3:=(Bw e2)
  refine MN (he:=e2) rfl rfl rfl rfl ?_
  refine Pf rfl rfl rfl rfl ?_
  obtain ⟨t7,f2,a0⟩:=bs a0
  obtain ⟨u7,v7,f5,h1,g5,g2,h5,rfl,w7⟩:=f0.elemF f2
  refine Gd (hA:=h1) (hj:=rfl) (hlt:=g2) rfl rfl rfl rfl ?_
  refine At ?_
  refine Ar (i:=15) (by kernel_rfl) rfl ?_
  refine Kk rfl f0 (a:=(max 0 j1)) (vInt (rngMax (show inI64 (0) from by decide) y3)) h1 rfl rfl (CM f2) fun x7 m0 f0=>?_
  refine BA (by kernel_rfl) ?_
  refine Bu (by kernel_rfl) ?_
  replace o0:=o0.st m0
  replace t2:=(((t2.st d0).st g0).st k0).st m0
  replace u2:=(((u2.st d0).st g0).st k0).st m0
  replace v2:=(((v2.st d0).st g0).st k0).st m0
  replace u0:=(((u0.st d0).st g0).st k0).st m0
  replace r0:=(((r0.st d0).st g0).st k0).st m0
  replace w0:=(w0.st k0).st m0
  obtain ⟨y7,z3,i5,j5,a4⟩:=Wtr.shut (x:=(⟨(⟨c0.t.vars,c0.t.init,c0.t.goal,c0.t.jobs⟩:Tpl),c0.first,c0.last,(c0.left.set z2 (max 0 j1)),y1⟩:Wtr)) (l0:=2) (l1:=3) (l2:=4) (l3:=5) (by decide) (by have q:=o0;rw [← ((by simp:(c0.left.set z2 (max 0 j1)).length=c0.left.length).trans rfl)] at q;exact q) t2 u2 v2 u0 r0 d3 f0.relen w0
  obtain rfl:=sm a0
  exact show Exists _ from ⟨_,(),rfl,⟨rfl,rfl,rfl,trivial⟩,_,(((((hB.st t6).st d0).st g0).st k0).st m0).st z3,a4⟩
 replace hB:=((((hB.st S3).st q0).st s0).st t0).st a5
 rintro z7 a8 ⟨b0,b8,rfl,h2,c8,hB,o1⟩
 replace hm:=AX hm
 refine AC _ h2 ?_
 obtain ⟨i2,d8,e8,f8,g8,h8,i8,j8,b4,k5,h0,y0,z0,a1,b1,c1,j2,d1,e1⟩:=Wtr.opn o1 2 3 4 5 (by decide)
 obtain ⟨c4,d4,rfl⟩:=y0.form
 obtain ⟨e4,f4,rfl⟩:=z0.form
 obtain ⟨g4,i4,rfl⟩:=a1.form
 obtain ⟨j4,k4,rfl⟩:=b1.form
 obtain ⟨l4,m4,rfl⟩:=c1.form
 obtain ⟨n4,o4,rfl⟩:=d1.form
 obtain ⟨k8,l8,rfl⟩:=e1.form
 refine BD [(10,[5])] i2 ?_
 refine AK (fuel:=6) [] [(1,true),(2,true),(3,true),(4,true),(5,true),(6,true),(7,true),(8,true)] (by kernel_rfl) rfl ?_
 refine Bt rfl rfl rfl (Gf rfl rfl rfl (Ba rfl rfl rfl (By (hc:=fun w' ⟨O',hq⟩=>Blk.cell (i:=7) ((h0.st hq (by decide)).1) rfl) rfl rfl rfl ?_)))
 refine Bt rfl rfl rfl (Gf rfl rfl rfl (Ba rfl rfl rfl (By (hc:=fun w' ⟨O',hq⟩=>Blk.cell (i:=5) ((h0.st hq (by decide)).1) rfl) rfl rfl rfl ?_)))
 refine At ?_
 refine AK (fuel:=5) [5] [(0,true)] (by kernel_rfl) rfl ?_
 refine Bt rfl rfl rfl (At ?_)
 refine Ar (i:=9) (by kernel_rfl) rfl ?_
 refine AL 8 (by decide) i2 (xs:=(([b0.last]:List Int):List Int)) rfl rfl rfl rfl ⟨(vInt j2),trivial⟩ (by decide) (by decide) rfl fun m8 n8 o8 e0 p4=>?_
 have hZ:=e0.lst [] (fun _ h=>h.elim)
 refine Az [(10,[5])] hZ (by kernel_rfl) ?_
 refine Ar (i:=10) (by kernel_rfl) rfl ?_
 obtain ⟨k2,k1,hm⟩:=bs hm
 obtain ⟨k1,q4,r4⟩:=AR k1
 replace e1:=e1.st e0
 refine Bo rfl e1 (p4.rd) rfl rfl (by decide) q4 r4 rfl fun s4 t4 p8 u4 j0 f1=>?_
 rw [← k1] at f1 ⊢
 have hZ:=j0.lst [5] (fun _ h=>by cases h;decide)
 refine Az [] hZ (by kernel_rfl) ?_
 refine AK (fuel:=1) [] [(11,true),(12,true)] (by kernel_rfl) rfl ?_
 refine Gf rfl rfl rfl (Ba rfl rfl rfl (At ?_))
 refine Ar (i:=13) (by kernel_rfl) rfl ?_
 replace h0:=(h0.st e0).st j0
 refine Ay h0 rfl rfl rfl (AJ rfl) (allOne rfl) fun v4 n0 h0=>?_
 replace h0:Lc 2 v4 u4 p0 110 [(.slice c4 b0.t.vars.length d4),(.slice e4 b0.t.init.length f4),(.slice g4 b0.t.goal.length i4),(.slice j4 b0.t.jobs.length k4),(.slice l4 b0.first.length m4),(.int .i64 b0.last),(.slice n4 b0.left.length o4),(.slice s4 k2.length t4)]:=h0
 refine BA (by kernel_rfl) ?_
 refine Bu (by kernel_rfl) ?_
 replace y0:=((y0.st e0).st j0).st n0
 replace z0:=((z0.st e0).st j0).st n0
 replace a1:=((a1.st e0).st j0).st n0
 replace b1:=((b1.st e0).st j0).st n0
 replace c1:=((c1.st e0).st j0).st n0
 replace d1:=((d1.st e0).st j0).st n0
 replace f1:=f1.st n0
 obtain ⟨q8,w4,l5,m5,x4⟩:=Wtr.shut (x:=(⟨(⟨b0.t.vars,b0.t.init,b0.t.goal,b0.t.jobs⟩:Tpl),b0.first,b0.last,b0.left,k2⟩:Wtr)) (l0:=2) (l1:=3) (l2:=4) (l3:=5) (by decide) h0 y0 z0 a1 b1 c1 j2 d1 f1
 obtain rfl:=sm hm
 replace hB:=((((hB.st b4).st e0).st j0).st n0).st w4
 obtain ⟨O',hS',hz,hl⟩:=hE.leave (fun q=>if q=2 then i0 else 0) rfl hB
 exact ret0n rfl  ⟨O',hS',(Ob.leave x4 hz (hl 2 (by decide) (by decide)) m1.2)⟩
noncomputable def CG (x0:Tpl) (x1:List Lch):Option ((List Int)×Err) :=
  bnd (Cy x0 x1) fun q27=>if q27.2.n≠0 then (some (([]:List Int),(⟨q27.2.n⟩:Err))) else (bnd (Ce x0) fun q41=>if q41.2.n≠0 then (some (([]:List Int),(⟨q41.2.n⟩:Err))) else (bnd (chkI (2 * (x1.length:Int))) fun n80=>bnd (chkI ((x0.jobs.length:Int) + 2)) fun n85=>bnd (chkI (q27.1 * n85)) fun n88=>bnd (chkI (n80 + n88)) fun n91=>if 65536 < n91 then (some (([]:List Int),(⟨5⟩:Err))) else (bnd (chkI ((q41.1.ops.length:Int) - 1)) fun n97=>bnd (mkI 8 (0:Int) (x0.jobs.length:Int)) fun u102=>bnd (chkI (2 * (x0.jobs.length:Int))) fun n122=>bnd (chkI (n122 + 1)) fun n125=>bnd (rng (ρ:=(List Int)×Err) (fun (k143:Nat) (a144:Job) (s141:Int×Wtr)=>bnd (appI 8 s141.2.first [s141.1]) fun u230=>bnd (chkI (a144.dur + 1)) fun n244=>bnd (chkI (s141.1 + n244)) fun n247=>some (.next (n247,(⟨(⟨s141.2.t.vars,s141.2.t.init,s141.2.t.goal,s141.2.t.jobs⟩:Tpl),u230,s141.2.last,s141.2.left,s141.2.out⟩:Wtr)))) x0.jobs 0 (n125,(⟨(⟨x0.vars,x0.init,x0.goal,x0.jobs⟩:Tpl),([]:List Int),n97,u102,([]:List Int)⟩:Wtr))) fun res139=>fin res139 fun (s259:Int×Wtr)=>bnd (DK x1) fun q261=>bnd (chkI (q27.1 + 1)) fun n270=>bnd (natI n270) fun N286=>bnd (rngN (ρ:=(List Int)×Err) (fun (k277:Nat) (s275:Wtr)=>bnd (rng (ρ:=Ctl Wtr ((List Int)×Err)) (fun (k296:Nat) (a297:Job) (s294:Wtr)=>bnd (chkI ((k277:Int) - a297.dur)) fun n345=>bnd (BG x1 (⟨n345,(k296:Int)⟩:Lch)) fun q348=>if q348=true then bnd (chkI (2 * (k296:Int))) fun n391=>bnd (chkI (n391 + 1)) fun n394=>bnd (appI 8 s294.out [n394]) fun u397=>some (.next (⟨(⟨s294.t.vars,s294.t.init,s294.t.goal,s294.t.jobs⟩:Tpl),s294.first,s294.last,s294.left,u397⟩:Wtr)) else some (.next s294)) x0.jobs 0 s275) fun res292=>fin res292 fun (s420:Wtr)=>bnd (rng (ρ:=Ctl Wtr ((List Int)×Err)) (fun (k428:Nat) (a429:Lch) (s426:Wtr)=>if a429.tm=(k277:Int) then (bnd (chkI (2 * a429.job)) fun n494=>bnd (appI 8 s426.out ([n494]:List Int)) fun u503=>bnd (atI x0.jobs a429.job) fun a516=>bnd (atI s426.left a429.job) fun a549=>some (.next (⟨(⟨s426.t.vars,s426.t.init,s426.t.goal,s426.t.jobs⟩:Tpl),s426.first,s426.last,(s426.left.set (a429.job:Int).toNat a516.dur),u503⟩:Wtr))) else (some (.next s426))) q261 0 s420) fun res424=>fin res424 fun (s572:Wtr)=>if (k277:Int) < q27.1 then (bnd (Dc s572) fun q575=>some (.next q575)) else (some (.next s572))) N286 s259.2) fun res273=>fin res273 fun (s587:Wtr)=>some (s587.out,(⟨0⟩:Err)))))
theorem Ij {w:World} {A:Nat→Prop} (hA:∀ k,A k→k < w.heap.size) {vx0:Value} {x0:Tpl} (o7:Vb w A vx0 x0) {vx1:Value} {x1:List Lch} (g0:Vb w A vx1 x1) {r:(List Int)×Err} (hm:CG x0 x1=some r) :
    Fn Tryz.prog 20 [vx0,vx1] w fun v w'=>Ext w w'∧T2 w' (upA A w w') v r:=by
 obtain ⟨O,hB,wD⟩:=enter hA
 replace o7:=o7.mono wD
 obtain ⟨eM,rfl,v4,v5,v6,v7,rfl,h8,j0,k0,a0⟩:=o7
 obtain ⟨A9,u1,rfl⟩:=h8.form
 obtain ⟨v1,w1,rfl⟩:=j0.form
 obtain ⟨y1,z1,rfl⟩:=k0.form
 obtain ⟨n1,o1,rfl⟩:=a0.form
 replace g0:=g0.mono wD
 obtain ⟨s2,t2,rfl⟩:=g0.form
 refine AD Tryz.func20 rfl Tryz.ntmps20 rfl ?_
 unfold CG at hm
 refine Ab (Aa (BX 2 O rfl rfl fun m2 e7 f7 b3 b0=>?_))
 replace b0:Lc 2 e7 f7 m2 26 [(.slice A9 x0.vars.length u1),(.slice v1 x0.init.length w1),(.slice y1 x0.goal.length z1),(.slice n1 x0.jobs.length o1)]:=b0
 refine Al rfl rfl (Al rfl rfl (o_z ?_))
 refine Ab (Aa (Bp (hl:=rfl) (hc:=(b0.1).cellsAt) rfl rfl ?_))
 refine Aj rfl rfl ?_
 obtain ⟨j4,bF,hm⟩:=bs hm
 replace g0:=g0.st b3
 replace h8:=h8.st b3
 replace j0:=j0.st b3
 replace k0:=k0.st b3
 replace a0:=a0.st b3
 refine AF (O:=f7) (A:=All e7) (R:=fun w' F v=>T2 w' F v j4) (IN (fun _ h=>h) (Vb.mono (F:=Fr 0 e7 f7) (Vb.ofAgg (cs:=[(.slice A9 x0.vars.length u1),(.slice v1 x0.init.length w1),(.slice y1 x0.goal.length z1),(.slice n1 x0.jobs.length o1)]) (x:=x0) rfl ⟨_,_,_,_,rfl,h8,j0,k0,a0⟩) Fr.lt) (Vb.mono (F:=Fr 0 e7 f7) g0 Fr.lt) bF) rfl rfl fun fM cF xD v2 dF=>?_
 obtain ⟨gM,hM,rfl,eF,fF⟩:=dF
 obtain ⟨rfl,iM⟩:=eF.int
 obtain ⟨rfl,gF⟩:=fF.err
 refine Aj rfl rfl (DH rfl rfl rfl (DH rfl rfl rfl (Al rfl rfl (Al rfl rfl (o_z ?_)))))
 refine Ab (Ab (Aa (Aj rfl rfl (GP rfl rfl (fun p7=>?_) fun p7=>?_))))
 ·
  replace hm:=ip hm p7
  refine o_z ?_
  refine Ah rfl (Ab (Aa (Aj rfl rfl (Al rfl rfl (Al rfl rfl (o_z ?_))))))
  refine AB ?_
  obtain rfl:=sm hm
  replace hB:=(hB.st b3).st v2
  exact ret2 rfl (Au rfl) (Au rfl) ⟨hB.ext,_,_,rfl,(Vb.mono (F:=Fr 0 cF xD) (Vb.nil _ _) hB.out),(vErr gF)⟩
 replace hm:=im hm p7
 refine o_z ?_
 refine Ae rfl (AQ (Ab (Aa ?_)))
 replace b0:=b0.st v2
 refine Bp (hl:=rfl) (hc:=(b0.1).cellsAt) rfl rfl ?_
 obtain ⟨o4,hF,hm⟩:=bs hm
 replace h8:=h8.st v2
 replace j0:=j0.st v2
 replace k0:=k0.st v2
 replace a0:=a0.st v2
 refine Cc (O:=xD) (R:=fun w' F v=>T2 w' F v o4) (FQ Fr.lt (Vb.ofAgg (cs:=[(.slice A9 x0.vars.length u1),(.slice v1 x0.init.length w1),(.slice y1 x0.goal.length z1),(.slice n1 x0.jobs.length o1)]) (x:=x0) rfl ⟨_,_,_,_,rfl,h8,j0,k0,a0⟩) hF) rfl rfl fun jM kM jF c3 kF=>?_
 obtain ⟨lM,mM,rfl,lF,mF⟩:=kF
 obtain ⟨nF,rfl,nM,oM,pM,qM,rfl,oF,pF,qF,h5⟩:=lF
 obtain ⟨rF,sF,rfl⟩:=oF.form
 obtain ⟨tF,uF,rfl⟩:=pF.form
 obtain ⟨vF,wF,rfl⟩:=qF.form
 obtain ⟨xF,yF,rfl⟩:=h5.form
 obtain ⟨rfl,zF⟩:=mF.err
 refine Aj rfl rfl (DH rfl rfl rfl (DH rfl rfl rfl (AS 3 jF rfl fun aG rM i5 w2 j5=>?_)))
 refine Ay j5 rfl rfl rfl (AJ rfl) (allOne rfl) fun q7 x2 j5=>?_
 replace j5:Lc 3 q7 i5 aG 31 [(.slice rF o4.1.vars.length sF),(.slice tF o4.1.init.length uF),(.slice vF o4.1.goal.length wF),(.slice xF o4.1.ops.length yF)]:=j5
 refine Al rfl rfl (o_z ?_)
 refine Ab (Ab (Aa (Aj rfl rfl (GP rfl rfl (fun r7=>?_) fun r7=>?_))))
 ·
  replace hm:=ip hm r7
  refine o_z ?_
  refine Ah rfl (Ab (Aa (Aj rfl rfl (Al rfl rfl (Al rfl rfl (o_z ?_))))))
  refine AB ?_
  obtain rfl:=sm hm
  replace hB:=((((hB.st b3).st v2).st c3).st w2).st x2
  exact ret2 rfl (Au rfl) (Au rfl) ⟨hB.ext,_,_,rfl,(Vb.mono (F:=Fr 0 q7 i5) (Vb.nil _ _) hB.out),(vErr zF)⟩
 replace hm:=im hm r7
 refine o_z ?_
 refine Ae rfl (AQ (Ab (Ab (Aa (Aj rfl rfl (AT rfl rfl ?_))))))
 replace g0:=(((g0.st v2).st c3).st w2).st x2
 have bG:x1.length≤9223372036854775807:=Nat.le_trans g0.len.2.1 g0.len.2.2
 have sM:inI64 (x1.length:Int):=rngNat bG
 obtain ⟨tM,yD,hm⟩:=bs hm
 have uM:=(Bw yD)
 refine HM (he:=yD) rfl rfl rfl ?_
 refine Aj rfl rfl (AA rfl rfl ?_)
 replace b0:=((b0.st c3).st w2).st x2
 refine Aw (hc:=Blk.cell (i:=3) (b0.1) rfl) rfl rfl ?_
 refine AT rfl rfl ?_
 replace a0:=((a0.st c3).st w2).st x2
 have cG:x0.jobs.length≤9223372036854775807:=Nat.le_trans a0.len.2.1 a0.len.2.2
 have vM:inI64 (x0.jobs.length:Int):=rngNat cG
 obtain ⟨wM,zD,hm⟩:=bs hm
 have xM:=(Bw zD)
 refine DM (he:=zD) rfl rfl rfl ?_
 obtain ⟨yM,aE,hm⟩:=bs hm
 have zM:=(Bw aE)
 refine HM (he:=aE) rfl rfl rfl ?_
 obtain ⟨aN,bE,hm⟩:=bs hm
 have bN:=(Bw bE)
 refine DM (he:=bE) rfl rfl rfl ?_
 refine CK rfl rfl rfl (fun s7=>?_) fun s7=>?_
 ·
  replace hm:=ip hm s7
  refine o_z ?_
  refine Ah rfl (Ab (Aa (FL rfl rfl ?_)))
  refine Al rfl rfl (Al rfl rfl (o_z ?_))
  refine AB ?_
  obtain rfl:=sm hm
  replace hB:=((((hB.st b3).st v2).st c3).st w2).st x2
  exact ret2 rfl (Au rfl) (Au rfl) ⟨hB.ext,_,_,rfl,(Vb.mono (F:=Fr 0 q7 i5) (Vb.nil _ _) hB.out),(vErr (by decide))⟩
 replace hm:=im hm s7
 refine o_z ?_
 refine Ae rfl (AQ (Ab (BD [] i5 ?_)))
 refine AK (fuel:=4) [] [(0,true),(1,true),(2,true),(3,true),(4,true),(5,true),(6,true),(7,true)] (by kernel_rfl) rfl ?_
 refine Cw (hl:=rfl) (hb:=fun w' ⟨O',hq⟩=>((b0.st hq (by decide)).1).cellsAt) rfl rfl rfl ?_
 refine Ba rfl rfl rfl (By (hc:=fun w' ⟨O',hq⟩=>Blk.cell (i:=3) ((j5.st hq (by decide)).1) rfl) rfl rfl rfl ?_)
 refine KL rfl rfl rfl ?_
 replace h5:=(h5.st w2).st x2
 have dG:o4.1.ops.length≤9223372036854775807:=Nat.le_trans h5.len.2.1 h5.len.2.2
 have cN:inI64 (o4.1.ops.length:Int):=rngNat dG
 obtain ⟨cE,dE,hm⟩:=bs hm
 have eG:=(Bw dE)
 refine MN (he:=dE) rfl rfl rfl rfl ?_
 refine Ba rfl rfl rfl (By (hc:=fun w' ⟨O',hq⟩=>Blk.cell (i:=3) ((b0.st hq (by decide)).1) rfl) rfl rfl rfl ?_)
 refine KL rfl rfl rfl ?_
 have t7:x0.jobs.length≤9223372036854775807:=Nat.le_trans a0.len.2.1 a0.len.2.2
 have fG:inI64 (x0.jobs.length:Int):=rngNat t7
 refine At ?_
 refine Ar (i:=8) (by kernel_rfl) rfl ?_
 obtain ⟨k5,u7,hm⟩:=bs hm
 obtain ⟨w7,x7,y7,z7,a8⟩:=GI u7
 refine Id 4 (by decide) i5 (z0:=(0:Int)) rfl rfl rfl rfl rfl x7 (vInt (show inI64 0 from by decide)) y7 z7 rfl fun b8 gG c8 m1 d3=>?_
 rw [← a8] at d3 ⊢
 have hZ:=m1.lst [] (fun _ h=>h.elim)
 refine Az [] hZ (by kernel_rfl) ?_
 refine AK (fuel:=2) [] [(9,true)] (by kernel_rfl) rfl ?_
 refine Cf rfl rfl rfl rfl ?_
 refine At ?_
 refine Ar (i:=10) (by kernel_rfl) rfl ?_
 refine BX 5 c8 rfl rfl fun m0 p4 q4 g1 r4=>?_
 replace r4:Lc 5 p4 q4 m0 110 [(.slice A9 x0.vars.length u1),(.slice v1 x0.init.length w1),(.slice y1 x0.goal.length z1),(.slice n1 x0.jobs.length o1),(.slice none 0 0),(.int .i64 cE),(.slice (some ⟨b8,0,none⟩) k5.length w7),(.slice none 0 0)]:=r4
 have hZ:=g1.lst [] (fun _ h=>h.elim)
 refine Az [] hZ (by kernel_rfl) ?_
 refine AK (fuel:=0) [] [(11,true)] (by kernel_rfl) rfl ?_
 refine KK rfl rfl rfl (At ?_)
 refine Bu (by kernel_rfl) ?_
 refine Ab (Aa (AA rfl rfl ?_))
 replace b0:=(b0.st m1).st g1
 refine Aw (hc:=Blk.cell (i:=3) (b0.1) rfl) rfl rfl ?_
 refine AT rfl rfl ?_
 replace a0:=(a0.st m1).st g1
 have d8:x0.jobs.length≤9223372036854775807:=Nat.le_trans a0.len.2.1 a0.len.2.2
 have hG:inI64 (x0.jobs.length:Int):=rngNat d8
 obtain ⟨iG,l5,hm⟩:=bs hm
 have jG:=(Bw l5)
 refine HM (he:=l5) rfl rfl rfl ?_
 obtain ⟨kG,m5,hm⟩:=bs hm
 have e8:=(Bw m5)
 refine DM (he:=m5) rfl rfl rfl ?_
 refine Al rfl rfl (o_z ?_)
 refine Ab (Ab (Aa (AA rfl rfl (Aw (hc:=Blk.cell (i:=3) (b0.1) rfl) rfl rfl ?_))))
 refine AT rfl rfl ?_
 have s4:x0.jobs.length≤9223372036854775807:=Nat.le_trans a0.len.2.1 a0.len.2.2
 have lG:inI64 (x0.jobs.length:Int):=rngNat s4
 refine Aj rfl rfl (o_z ?_)
 have f8:Rw 6 p4 q4 3 (.slice none 0 0) ([]:List Int):=Rw.nil 6 (by decide)
 have g8:Rw 7 p4 q4 3 (.slice none 0 0) ([]:List Int):=Rw.nil 7 (by decide)
 replace h8:=((((h8.st c3).st w2).st x2).st m1).st g1
 replace j0:=((((j0.st c3).st w2).st x2).st m1).st g1
 replace k0:=((((k0.st c3).st w2).st x2).st m1).st g1
 replace d3:=d3.st g1
 obtain ⟨i8,e1,eE,fE,j8⟩:=Wtr.shut (x:=(⟨(⟨x0.vars,x0.init,x0.goal,x0.jobs⟩:Tpl),([]:List Int),cE,k5,([]:List Int)⟩:Wtr)) (l0:=5) (l1:=6) (l2:=4) (l3:=7) (by decide) r4 h8 j0 k0 a0 f8 eG d3 g8
 obtain ⟨t4,n5,hm⟩:=bs hm
 refine Ax (aft t4 (fun (e0:Int×Wtr) (e3:Unit)=>[(1,(.slice s2 x1.length t2)),(2,(.pointer (some ⟨m2,0,none⟩))),(6,(.int .i64 j4.1)),(9,(.pointer (some ⟨m0,0,none⟩)))]) (fun e0 e3 w'=>∃ O':Lab,Bs w A w' O'∧Vb w' (Fr 0 w' O') (.slice s2 x1.length t2) x1∧Lc 2 w' O' m2 26 [(.slice A9 x0.vars.length u1),(.slice v1 x0.init.length w1),(.slice y1 x0.goal.length z1),(.slice n1 x0.jobs.length o1)]∧Vb w' (Fr 0 w' O') (.slice A9 x0.vars.length u1) x0.vars∧Vb w' (Fr 0 w' O') (.slice v1 x0.init.length w1) x0.init∧Vb w' (Fr 0 w' O') (.slice y1 x0.goal.length z1) x0.goal∧Vb w' (Fr 0 w' O') (.slice n1 x0.jobs.length o1) x0.jobs∧Ob 5 w' O' (.pointer (some ⟨m0,0,none⟩)) e0.2∧inI64 e0.1)) ?_ ?_
 ·
  refine AN ?_
  replace hB:=(((((((hB.st b3).st v2).st c3).st w2).st x2).st m1).st g1).st e1
  replace g0:=((g0.st m1).st g1).st e1
  replace h8:=h8.st e1
  replace j0:=j0.st e1
  replace k0:=k0.st e1
  replace a0:=a0.st e1
  replace b0:=b0.st e1
  refine Bn (σ:=Int×Wtr) (X:=Unit) (x0.jobs.length) n5 rfl s4 (fun (e0:Int×Wtr) (e3:Unit)=>[(1,(.slice s2 x1.length t2)),(2,(.pointer (some ⟨m2,0,none⟩))),(6,(.int .i64 j4.1)),(9,(.pointer (some ⟨m0,0,none⟩))),(10,(.int .i64 e0.1)),(65,(.slice n1 x0.jobs.length o1))]) _ (fun e0 e3 w'=>∃ O':Lab,Bs w A w' O'∧Vb w' (Fr 0 w' O') (.slice s2 x1.length t2) x1∧Lc 2 w' O' m2 26 [(.slice A9 x0.vars.length u1),(.slice v1 x0.init.length w1),(.slice y1 x0.goal.length z1),(.slice n1 x0.jobs.length o1)]∧Vb w' (Fr 0 w' O') (.slice A9 x0.vars.length u1) x0.vars∧Vb w' (Fr 0 w' O') (.slice v1 x0.init.length w1) x0.init∧Vb w' (Fr 0 w' O') (.slice y1 x0.goal.length z1) x0.goal∧Vb w' (Fr 0 w' O') (.slice n1 x0.jobs.length o1) x0.jobs∧Ob 5 w' O' (.pointer (some ⟨m0,0,none⟩)) e0.2∧inI64 e0.1) _ () ⟨i8,hB,g0,b0,h8,j0,k0,a0,j8,e8⟩ ⟨rfl,rfl,rfl,rfl,rfl,rfl,rfl,rfl,trivial⟩ (fun _ _=>⟨rfl,rfl⟩) (fun _ _=>⟨rfl,rfl,rfl,rfl,trivial⟩) (fun _ _ _ ⟨O',hB,g0,b0,h8,j0,k0,a0,p1,f3⟩=>⟨O',hB,g0,b0,h8,j0,k0,a0,p1,f3⟩) ⟨rfl,rfl,rfl⟩ ⟨rfl,rfl⟩ ?_
  rintro k8 n2 e0 e3 mG gE k4 ⟨l8,hB,g0,b0,h8,j0,k0,a0,p1,f3⟩ h1 g7 h7
  have rk143:inI64 (k8:Int):=rngK k4 s4
  refine Ab (Aa ?_)
  obtain ⟨nG,oG,hE,o5,p5,q5,pG,qG,rG,sG,tG,rfl,m8,n8,o8,p8,q8,uG,vG⟩:=a0.elem' k4
  obtain ⟨r8,s8,rfl⟩:=m8.form
  obtain ⟨t8,u8,rfl⟩:=n8.form
  obtain ⟨v8,w8,rfl⟩:=o8.form
  obtain ⟨x8,y8,rfl⟩:=p8.form
  obtain ⟨z8,a9,rfl⟩:=q8.form
  refine Bz (hA:=o5) (hj:=rfl) (hlt:=p5) rfl rfl rfl ?_
  refine Bp (hl:=rfl) (hc:=q5) rfl rfl ?_
  refine AS 8 l8 rfl fun b9 wG c9 a2 o2=>?_
  refine Ay o2 rfl rfl rfl (AJ rfl) (allOne rfl) fun d9 b2 o2=>?_
  replace o2:Lc 8 d9 c9 b9 66 [(.string n2.name),(.int .i64 n2.dur),(.slice r8 n2.start.length s8),(.slice t8 n2.over.length u8),(.slice v8 n2.fin.length w8),(.slice x8 n2.atStart.length y8),(.slice z8 n2.atEnd.length a9)]:=o2
  refine o_z ?_
  refine Ab (Aa (Aj rfl rfl (Aj rfl rfl (KF rfl rfl ?_))))
  replace p1:=(p1.st a2).st b2
  obtain ⟨xG,yG,zG,aH,bH,cH,dH,eH,c2,iE,d2,g3,h3,i3,j3,r5,e9,k3,m3⟩:=Wtr.opn p1 5 9 10 11 (by decide)
  obtain ⟨f9,g9,rfl⟩:=g3.form
  obtain ⟨h9,i9,rfl⟩:=h3.form
  obtain ⟨j9,k9,rfl⟩:=i3.form
  obtain ⟨l9,m9,rfl⟩:=j3.form
  obtain ⟨fH,gH,rfl⟩:=r5.form
  obtain ⟨n9,o9,rfl⟩:=k3.form
  obtain ⟨p9,q9,rfl⟩:=m3.form
  refine AA rfl rfl (Aw (hc:=Blk.cell (i:=4) (d2.1) rfl) rfl rfl ?_)
  refine Aj rfl rfl ?_
  obtain ⟨s5,u4,h1⟩:=bs h1
  obtain ⟨u4,r9,s9⟩:=AR u4
  refine Cp rfl (a:=e0.1) r5 (vInt f3) (fun _=>rfl) rfl (by decide) (by decide) r9 s9 ⟨rfl,rfl⟩ fun hH t9 u9 iH v9 y0 n3=>?_
  rw [← u4] at n3 ⊢
  refine KF rfl rfl (AA rfl rfl ?_)
  replace d2:=d2.st y0
  refine Ay d2 rfl rfl rfl (AJ rfl) (allOne rfl) fun w9 a1 d2=>?_
  replace d2:Lc 5 w9 v9 m0 110 [(.slice f9 e0.2.t.vars.length g9),(.slice h9 e0.2.t.init.length i9),(.slice j9 e0.2.t.goal.length k9),(.slice l9 e0.2.t.jobs.length m9),(.slice t9 s5.length u9),(.int .i64 e0.2.last),(.slice n9 e0.2.left.length o9),(.slice p9 e0.2.out.length q9)]:=d2
  refine o_z ?_
  refine Aa (Aj rfl rfl (AA rfl rfl ?_))
  replace o2:=((o2.st c2).st y0).st a1
  refine Aw (hc:=Blk.cell (i:=1) (o2.1) rfl) rfl rfl ?_
  obtain ⟨jH,t5,h1⟩:=bs h1
  have kH:=(Bw t5)
  refine DM (he:=t5) rfl rfl rfl ?_
  obtain ⟨lH,u5,h1⟩:=bs h1
  have x9:=(Bw u5)
  refine DM (he:=u5) rfl rfl rfl ?_
  refine Al rfl rfl (o_z ?_)
  replace g3:=(g3.st y0).st a1
  replace h3:=(h3.st y0).st a1
  replace i3:=(i3.st y0).st a1
  replace j3:=(j3.st y0).st a1
  replace k3:=(k3.st y0).st a1
  replace m3:=(m3.st y0).st a1
  replace n3:=n3.st a1
  obtain ⟨mH,p2,jE,kE,y9⟩:=Wtr.shut (x:=(⟨(⟨e0.2.t.vars,e0.2.t.init,e0.2.t.goal,e0.2.t.jobs⟩:Tpl),s5,e0.2.last,e0.2.left,e0.2.out⟩:Wtr)) (l0:=5) (l1:=9) (l2:=10) (l3:=11) (by decide) d2 g3 h3 i3 j3 n3 e9 k3 m3
  obtain rfl:=sm h1
  exact show Exists _ from ⟨_,(),rfl,⟨rfl,rfl,rfl,rfl,rfl,rfl,rfl,rfl,trivial⟩,_,(((((hB.st a2).st b2).st c2).st y0).st a1).st p2,(((((g0.st a2).st b2).st c2).st y0).st a1).st p2,(((((b0.st a2).st b2).st c2).st y0).st a1).st p2,(((((h8.st a2).st b2).st c2).st y0).st a1).st p2,(((((j0.st a2).st b2).st c2).st y0).st a1).st p2,(((((k0.st a2).st b2).st c2).st y0).st a1).st p2,(((((a0.st a2).st b2).st c2).st y0).st a1).st p2,y9,x9⟩
 replace hB:=(((((((hB.st b3).st v2).st c3).st w2).st x2).st m1).st g1).st e1
 replace g0:=((g0.st m1).st g1).st e1
 replace h8:=h8.st e1
 replace j0:=j0.st e1
 replace k0:=k0.st e1
 replace a0:=a0.st e1
 replace b0:=b0.st e1
 rintro nH oH ⟨pH,qH,rfl,w5,z9,hB,g0,b0,h8,j0,k0,a0,p1,f3⟩
 replace hm:=AX hm
 refine AC _ w5 ?_
 refine Ab (Aa (Aj rfl rfl ?_))
 obtain ⟨n0,aA,hm⟩:=bs hm
 refine Cc (O:=z9) (R:=fun w' F v=>Vb w' F v n0) (JZ Fr.lt g0 aA) rfl rfl fun rH sH bA q1 f0=>?_
 obtain ⟨i1,j1,rfl⟩:=f0.form
 refine Al rfl rfl (o_z ?_)
 refine Ab (Ab (Aa (Aj rfl rfl ?_)))
 obtain ⟨tH,x5,hm⟩:=bs hm
 have y5:=(Bw x5)
 refine DM (he:=x5) rfl rfl rfl ?_
 refine Aj rfl rfl (o_z ?_)
 obtain ⟨y2,e2,hm⟩:=bs hm
 replace e2:=IV e2
 obtain ⟨w4,z5,hm⟩:=bs hm
 refine Ax (aft w4 (fun (u2:Wtr) (o3:Unit)=>[(9,(.pointer (some ⟨m0,0,none⟩)))]) (fun u2 o3 w'=>∃ O':Lab,Bs w A w' O'∧Ob 5 w' O' (.pointer (some ⟨m0,0,none⟩)) u2)) ?_ ?_
 ·
  refine AN ?_
  replace hB:=hB.st q1
  replace g0:=g0.st q1
  replace h8:=h8.st q1
  replace j0:=j0.st q1
  replace k0:=k0.st q1
  replace a0:=a0.st q1
  replace b0:=b0.st q1
  replace p1:=p1.st q1
  refine Hv (σ:=Wtr) (X:=Unit) y2 z5 (Hp e2 y5) (fun (u2:Wtr) (o3:Unit)=>[(1,(.slice s2 x1.length t2)),(2,(.pointer (some ⟨m2,0,none⟩))),(6,(.int .i64 j4.1)),(9,(.pointer (some ⟨m0,0,none⟩))),(13,(.slice i1 n0.length j1))]) _ (fun u2 o3 w'=>∃ O':Lab,Bs w A w' O'∧Vb w' (Fr 0 w' O') (.slice s2 x1.length t2) x1∧Lc 2 w' O' m2 26 [(.slice A9 x0.vars.length u1),(.slice v1 x0.init.length w1),(.slice y1 x0.goal.length z1),(.slice n1 x0.jobs.length o1)]∧Vb w' (Fr 0 w' O') (.slice A9 x0.vars.length u1) x0.vars∧Vb w' (Fr 0 w' O') (.slice v1 x0.init.length w1) x0.init∧Vb w' (Fr 0 w' O') (.slice y1 x0.goal.length z1) x0.goal∧Vb w' (Fr 0 w' O') (.slice n1 x0.jobs.length o1) x0.jobs∧Ob 5 w' O' (.pointer (some ⟨m0,0,none⟩)) u2∧Vb w' (Fr 0 w' O') (.slice i1 n0.length j1) n0) _ () ⟨bA,hB,g0,b0,h8,j0,k0,a0,p1,f0⟩ ⟨rfl,(congrArg (fun z=>some (Value.int .i64 z)) e2),rfl,rfl,rfl,rfl,rfl,trivial⟩ (fun _ _=>⟨rfl,rfl⟩) (fun _ _=>⟨rfl,trivial⟩) (fun _ _ _ ⟨O',hB,g0,b0,h8,j0,k0,a0,z2,f0⟩=>⟨O',hB,z2⟩) ⟨rfl,rfl,rfl⟩ ⟨rfl,rfl⟩ ?_
  rintro r1 u2 o3 uH lE a6 ⟨cA,hB,g0,b0,h8,j0,k0,a0,z2,f0⟩ c0 i7 j7
  have rk277:inI64 (r1:Int):=rngKN a6 (Hp e2 y5)
  refine Ab (Aa (Aj rfl rfl (Al rfl rfl (o_z ?_))))
  refine Ab (Ab (Aa (AA rfl rfl (Aw (hc:=Blk.cell (i:=3) (b0.1) rfl) rfl rfl ?_))))
  refine AT rfl rfl ?_
  have x4:x0.jobs.length≤9223372036854775807:=Nat.le_trans a0.len.2.1 a0.len.2.2
  have vH:inI64 (x0.jobs.length:Int):=rngNat x4
  refine Aj rfl rfl (o_z ?_)
  obtain ⟨y4,b6,c0⟩:=bs c0
  refine Ax (aft y4 (fun (o0:Wtr) (p3:Unit)=>[(1,(.slice s2 x1.length t2)),(2,(.pointer (some ⟨m2,0,none⟩))),(6,(.int .i64 j4.1)),(9,(.pointer (some ⟨m0,0,none⟩))),(13,(.slice i1 n0.length j1)),(14,(.int .i64 (r1:Int))),(90,(.int .i64 (y2:Int))),(91,(.int .i64 (r1:Int)))]) (fun o0 p3 w'=>∃ O':Lab,Bs w A w' O'∧Vb w' (Fr 0 w' O') (.slice s2 x1.length t2) x1∧Lc 2 w' O' m2 26 [(.slice A9 x0.vars.length u1),(.slice v1 x0.init.length w1),(.slice y1 x0.goal.length z1),(.slice n1 x0.jobs.length o1)]∧Vb w' (Fr 0 w' O') (.slice A9 x0.vars.length u1) x0.vars∧Vb w' (Fr 0 w' O') (.slice v1 x0.init.length w1) x0.init∧Vb w' (Fr 0 w' O') (.slice y1 x0.goal.length z1) x0.goal∧Vb w' (Fr 0 w' O') (.slice n1 x0.jobs.length o1) x0.jobs∧Ob 5 w' O' (.pointer (some ⟨m0,0,none⟩)) o0∧Vb w' (Fr 0 w' O') (.slice i1 n0.length j1) n0)) ?_ ?_
  ·
   refine AN (Bn (σ:=Wtr) (X:=Unit) (x0.jobs.length) b6 rfl x4 (fun (o0:Wtr) (p3:Unit)=>[(1,(.slice s2 x1.length t2)),(2,(.pointer (some ⟨m2,0,none⟩))),(6,(.int .i64 j4.1)),(9,(.pointer (some ⟨m0,0,none⟩))),(13,(.slice i1 n0.length j1)),(14,(.int .i64 (r1:Int))),(90,(.int .i64 (y2:Int))),(91,(.int .i64 (r1:Int))),(95,(.slice n1 x0.jobs.length o1))]) _ (fun o0 p3 w'=>∃ O':Lab,Bs w A w' O'∧Vb w' (Fr 0 w' O') (.slice s2 x1.length t2) x1∧Lc 2 w' O' m2 26 [(.slice A9 x0.vars.length u1),(.slice v1 x0.init.length w1),(.slice y1 x0.goal.length z1),(.slice n1 x0.jobs.length o1)]∧Vb w' (Fr 0 w' O') (.slice A9 x0.vars.length u1) x0.vars∧Vb w' (Fr 0 w' O') (.slice v1 x0.init.length w1) x0.init∧Vb w' (Fr 0 w' O') (.slice y1 x0.goal.length z1) x0.goal∧Vb w' (Fr 0 w' O') (.slice n1 x0.jobs.length o1) x0.jobs∧Ob 5 w' O' (.pointer (some ⟨m0,0,none⟩)) o0∧Vb w' (Fr 0 w' O') (.slice i1 n0.length j1) n0) _ () ⟨cA,hB,g0,b0,h8,j0,k0,a0,z2,f0⟩ ⟨rfl,rfl,rfl,rfl,rfl,rfl,rfl,rfl,rfl,rfl,rfl,trivial⟩ (fun _ _=>⟨rfl,rfl⟩) (fun _ _=>⟨rfl,rfl,rfl,rfl,rfl,rfl,rfl,rfl,trivial⟩) (fun _ _ _ ⟨O',hB,g0,b0,h8,j0,k0,a0,f2,f0⟩=>⟨O',hB,g0,b0,h8,j0,k0,a0,f2,f0⟩) ⟨rfl,rfl,rfl⟩ ⟨rfl,rfl⟩ ?_)
   rintro z4 q2 o0 p3 wH mE l4 ⟨dA,hB,g0,b0,h8,j0,k0,a0,f2,f0⟩ d0 k7 l7
   have rk296:inI64 (z4:Int):=rngK l4 x4
   refine Ab (Aa (Aj rfl rfl ?_))
   obtain ⟨xH,yH,nE,c6,d6,e6,zH,aI,bI,cI,dI,rfl,eA,fA,gA,iA,jA,eI,fI⟩:=a0.elem' l4
   obtain ⟨kA,lA,rfl⟩:=eA.form
   obtain ⟨mA,nA,rfl⟩:=fA.form
   obtain ⟨oA,pA,rfl⟩:=gA.form
   obtain ⟨qA,rA,rfl⟩:=iA.form
   obtain ⟨sA,tA,rfl⟩:=jA.form
   refine Bz (hA:=c6) (hj:=rfl) (hlt:=d6) rfl rfl rfl ?_
   refine Bp (hl:=rfl) (hc:=e6) rfl rfl ?_
   refine AS 12 dA rfl fun uA gI q3 t0 a3=>?_
   refine Al rfl rfl (Ay a3 rfl rfl rfl (AJ rfl) (allOne rfl) fun r3 u0 a3=>?_)
   replace a3:Lc 12 r3 q3 uA 66 [(.string q2.name),(.int .i64 q2.dur),(.slice kA q2.start.length lA),(.slice mA q2.over.length nA),(.slice oA q2.fin.length pA),(.slice qA q2.atStart.length rA),(.slice sA q2.atEnd.length tA)]:=a3
   refine o_z ?_
   refine Ab (Aa (Aj rfl rfl (Aj rfl rfl (AA rfl rfl (Aw (hc:=Blk.cell (i:=1) (a3.1) rfl) rfl rfl ?_)))))
   obtain ⟨f6,g6,d0⟩:=bs d0
   have vA:=(Bw g6)
   refine Kr (he:=g6) rfl rfl rfl ?_
   refine Aj rfl rfl (DY rfl rfl rfl ?_)
   obtain ⟨h6,wA,d0⟩:=bs d0
   replace g0:=(g0.st t0).st u0
   refine AF (O:=q3) (A:=All r3) (R:=fun w' F v=>Vb w' F v h6) (Ff (fun _ h=>h) (Vb.mono (F:=Fr 0 r3 q3) g0 Fr.lt) (Vb.mono (F:=Fr 0 r3 q3) (Vb.ofAgg (cs:=[(.int .i64 f6),(.int .i64 (z4:Int))]) (x:=(⟨f6,(z4:Int)⟩:Lch)) rfl ⟨rfl,vA,rk296⟩) Fr.lt) wA) rfl rfl fun hI iI jI p0 xA=>?_
   obtain rfl:=xA.bool
   cases h6
   case false =>
    replace d0:=iF d0
    refine o_z ?_
    refine Ae rfl (AQ ?_)
    obtain rfl:=sm d0
    exact show Exists _ from ⟨_,(),rfl,⟨rfl,rfl,rfl,rfl,rfl,rfl,rfl,rfl,rfl,rfl,rfl,trivial⟩,_,((hB.st t0).st u0).st p0,g0.st p0,((b0.st t0).st u0).st p0,((h8.st t0).st u0).st p0,((j0.st t0).st u0).st p0,((k0.st t0).st u0).st p0,((a0.st t0).st u0).st p0,((f2.st t0).st u0).st p0,((f0.st t0).st u0).st p0⟩
   replace d0:=iT d0
   refine o_z ?_
   refine Ah rfl (Aa (Aj rfl rfl (Aj rfl rfl (KF rfl rfl ?_))))
   replace f2:=((f2.st t0).st u0).st p0
   obtain ⟨kI,lI,mI,nI,oI,pI,qI,rI,g2,oE,h2,s3,t3,u3,v3,w3,yA,x3,i6⟩:=Wtr.opn f2 5 9 10 11 (by decide)
   obtain ⟨zA,aB,rfl⟩:=s3.form
   obtain ⟨bB,cB,rfl⟩:=t3.form
   obtain ⟨dB,eB,rfl⟩:=u3.form
   obtain ⟨fB,gB,rfl⟩:=v3.form
   obtain ⟨iB,jB,rfl⟩:=w3.form
   obtain ⟨kB,lB,rfl⟩:=x3.form
   obtain ⟨sI,tI,rfl⟩:=i6.form
   refine AA rfl rfl (Aw (hc:=Blk.cell (i:=7) (h2.1) rfl) rfl rfl ?_)
   refine Aj rfl rfl ?_
   obtain ⟨uI,j6,d0⟩:=bs d0
   have vI:=(Bw j6)
   refine HM (he:=j6) rfl rfl rfl ?_
   obtain ⟨mB,k6,d0⟩:=bs d0
   have nB:=(Bw k6)
   refine DM (he:=k6) rfl rfl rfl ?_
   obtain ⟨l6,a5,d0⟩:=bs d0
   obtain ⟨a5,oB,pB⟩:=AR a5
   refine Cp rfl (a:=mB) i6 (vInt nB) (fun _=>rfl) rfl (by decide) (by decide) oB pB ⟨rfl,rfl⟩ fun wI qB rB xI sB b1 y3=>?_
   rw [← a5] at y3 ⊢
   refine KF rfl rfl (AA rfl rfl ?_)
   replace h2:=h2.st b1
   refine Ay h2 rfl rfl rfl (AJ rfl) (allOne rfl) fun tB c1 h2=>?_
   replace h2:Lc 5 tB sB m0 110 [(.slice zA o0.t.vars.length aB),(.slice bB o0.t.init.length cB),(.slice dB o0.t.goal.length eB),(.slice fB o0.t.jobs.length gB),(.slice iB o0.first.length jB),(.int .i64 o0.last),(.slice kB o0.left.length lB),(.slice qB l6.length rB)]:=h2
   refine o_z ?_
   replace s3:=(s3.st b1).st c1
   replace t3:=(t3.st b1).st c1
   replace u3:=(u3.st b1).st c1
   replace v3:=(v3.st b1).st c1
   replace w3:=(w3.st b1).st c1
   replace x3:=(x3.st b1).st c1
   replace y3:=y3.st c1
   obtain ⟨yI,i2,pE,qE,uB⟩:=Wtr.shut (x:=(⟨(⟨o0.t.vars,o0.t.init,o0.t.goal,o0.t.jobs⟩:Tpl),o0.first,o0.last,o0.left,l6⟩:Wtr)) (l0:=5) (l1:=9) (l2:=10) (l3:=11) (by decide) h2 s3 t3 u3 v3 w3 yA x3 y3
   obtain rfl:=sm d0
   exact show Exists _ from ⟨_,(),rfl,⟨rfl,rfl,rfl,rfl,rfl,rfl,rfl,rfl,rfl,rfl,rfl,trivial⟩,_,((((((hB.st t0).st u0).st p0).st g2).st b1).st c1).st i2,((((g0.st p0).st g2).st b1).st c1).st i2,((((((b0.st t0).st u0).st p0).st g2).st b1).st c1).st i2,((((((h8.st t0).st u0).st p0).st g2).st b1).st c1).st i2,((((((j0.st t0).st u0).st p0).st g2).st b1).st c1).st i2,((((((k0.st t0).st u0).st p0).st g2).st b1).st c1).st i2,((((((a0.st t0).st u0).st p0).st g2).st b1).st c1).st i2,uB,((((((f0.st t0).st u0).st p0).st g2).st b1).st c1).st i2⟩
  rintro zI aJ ⟨bJ,cJ,rfl,m6,vB,hB,g0,b0,h8,j0,k0,a0,f2,f0⟩
  replace c0:=AX c0
  refine AC _ m6 ?_
  refine Ab (Ab (Aa (Aj rfl rfl (AT rfl rfl ?_))))
  have b5:n0.length≤9223372036854775807:=Nat.le_trans f0.len.2.1 f0.len.2.2
  have dJ:inI64 (n0.length:Int):=rngNat b5
  refine Aj rfl rfl (o_z ?_)
  obtain ⟨c5,n6,c0⟩:=bs c0
  refine Ax (aft c5 (fun (h0:Wtr) (z3:Unit)=>[(1,(.slice s2 x1.length t2)),(2,(.pointer (some ⟨m2,0,none⟩))),(6,(.int .i64 j4.1)),(9,(.pointer (some ⟨m0,0,none⟩))),(13,(.slice i1 n0.length j1)),(14,(.int .i64 (r1:Int))),(90,(.int .i64 (y2:Int))),(91,(.int .i64 (r1:Int)))]) (fun h0 z3 w'=>∃ O':Lab,Bs w A w' O'∧Vb w' (Fr 0 w' O') (.slice s2 x1.length t2) x1∧Lc 2 w' O' m2 26 [(.slice A9 x0.vars.length u1),(.slice v1 x0.init.length w1),(.slice y1 x0.goal.length z1),(.slice n1 x0.jobs.length o1)]∧Vb w' (Fr 0 w' O') (.slice A9 x0.vars.length u1) x0.vars∧Vb w' (Fr 0 w' O') (.slice v1 x0.init.length w1) x0.init∧Vb w' (Fr 0 w' O') (.slice y1 x0.goal.length z1) x0.goal∧Vb w' (Fr 0 w' O') (.slice n1 x0.jobs.length o1) x0.jobs∧Ob 5 w' O' (.pointer (some ⟨m0,0,none⟩)) h0∧Vb w' (Fr 0 w' O') (.slice i1 n0.length j1) n0)) ?_ ?_
  ·
   refine AN (Bn (σ:=Wtr) (X:=Unit) (n0.length) n6 rfl b5 (fun (h0:Wtr) (z3:Unit)=>[(1,(.slice s2 x1.length t2)),(2,(.pointer (some ⟨m2,0,none⟩))),(6,(.int .i64 j4.1)),(9,(.pointer (some ⟨m0,0,none⟩))),(13,(.slice i1 n0.length j1)),(14,(.int .i64 (r1:Int))),(90,(.int .i64 (y2:Int))),(91,(.int .i64 (r1:Int))),(123,(.slice i1 n0.length j1))]) _ (fun h0 z3 w'=>∃ O':Lab,Bs w A w' O'∧Vb w' (Fr 0 w' O') (.slice s2 x1.length t2) x1∧Lc 2 w' O' m2 26 [(.slice A9 x0.vars.length u1),(.slice v1 x0.init.length w1),(.slice y1 x0.goal.length z1),(.slice n1 x0.jobs.length o1)]∧Vb w' (Fr 0 w' O') (.slice A9 x0.vars.length u1) x0.vars∧Vb w' (Fr 0 w' O') (.slice v1 x0.init.length w1) x0.init∧Vb w' (Fr 0 w' O') (.slice y1 x0.goal.length z1) x0.goal∧Vb w' (Fr 0 w' O') (.slice n1 x0.jobs.length o1) x0.jobs∧Ob 5 w' O' (.pointer (some ⟨m0,0,none⟩)) h0∧Vb w' (Fr 0 w' O') (.slice i1 n0.length j1) n0) _ () ⟨vB,hB,g0,b0,h8,j0,k0,a0,f2,f0⟩ ⟨rfl,rfl,rfl,rfl,rfl,rfl,rfl,rfl,rfl,rfl,rfl,trivial⟩ (fun _ _=>⟨rfl,rfl⟩) (fun _ _=>⟨rfl,rfl,rfl,rfl,rfl,rfl,rfl,rfl,trivial⟩) (fun _ _ _ ⟨O',hB,g0,b0,h8,j0,k0,a0,s1,f0⟩=>⟨O',hB,g0,b0,h8,j0,k0,a0,s1,f0⟩) ⟨rfl,rfl,rfl⟩ ⟨rfl,rfl⟩ ?_)
   rintro wB a4 h0 z3 eJ rE m4 ⟨xB,hB,g0,b0,h8,j0,k0,a0,s1,f0⟩ i0 m7 n7
   have rk428:inI64 (wB:Int):=rngK m4 b5
   refine Ab (Aa ?_)
   obtain ⟨fJ,gJ,sE,o6,p6,q6,rfl,hJ,iJ⟩:=f0.elem' m4
   refine Bz (hA:=o6) (hj:=rfl) (hlt:=p6) rfl rfl rfl ?_
   refine Bp (hl:=rfl) (hc:=q6) rfl rfl ?_
   refine AS 13 xB rfl fun yB jJ zB q0 f1=>?_
   refine Ay f1 rfl rfl rfl (AJ rfl) (allOne rfl) fun aC r0 f1=>?_
   replace f1:Lc 13 aC zB yB 52 [(.int .i64 a4.tm),(.int .i64 a4.job)]:=f1
   refine o_z ?_
   refine Ab (Aa (AA rfl rfl (Aw (hc:=Blk.cell (i:=0) (f1.1) rfl) rfl rfl ?_)))
   refine Aj rfl rfl (Ga rfl rfl rfl (fun d5=>?_) fun d5=>?_)
   ·
    replace i0:=ip i0 d5
    refine o_z ?_
    refine Ah rfl (Ab ?_)
    replace s1:=(s1.st q0).st r0
    obtain ⟨r6,kJ,lJ,mJ,nJ,oJ,pJ,qJ,t1,tE,k1,b4,c4,d4,e4,f4,bC,r2,g4⟩:=Wtr.opn s1 5 9 10 11 (by decide)
    obtain ⟨cC,dC,rfl⟩:=b4.form
    obtain ⟨eC,fC,rfl⟩:=c4.form
    obtain ⟨gC,hC,rfl⟩:=d4.form
    obtain ⟨iC,jC,rfl⟩:=e4.form
    obtain ⟨kC,lC,rfl⟩:=f4.form
    obtain ⟨mC,nC,rfl⟩:=r2.form
    obtain ⟨rJ,sJ,rfl⟩:=g4.form
    refine BD [(9,[11])] r6 ?_
    refine AK (fuel:=6) [] [(1,true),(2,true),(3,true),(4,true),(5,true),(6,true),(7,true)] (by kernel_rfl) rfl ?_
    refine Bt rfl rfl rfl (Gf rfl rfl rfl (Ba rfl rfl rfl (By (hc:=fun w' ⟨O',hq⟩=>Blk.cell (i:=7) ((k1.st hq (by decide)).1) rfl) rfl rfl rfl ?_)))
    refine Ba rfl rfl rfl ?_
    replace f1:=f1.st t1
    refine By (hc:=fun w' ⟨O',hq⟩=>Blk.cell (i:=1) ((f1.st hq (by decide)).1) rfl) rfl rfl rfl ?_
    obtain ⟨oC,s6,i0⟩:=bs i0
    have pC:=(Bw s6)
    refine NZ (he:=s6) rfl rfl rfl rfl ?_
    refine At ?_
    refine AK (fuel:=5) [11] [(0,true)] (by kernel_rfl) rfl ?_
    refine Bt rfl rfl rfl (At ?_)
    refine Ar (i:=8) (by kernel_rfl) rfl ?_
    refine AL 14 (by decide) r6 (xs:=(([oC]:List Int):List Int)) rfl rfl rfl rfl ⟨(vInt pC),trivial⟩ (by decide) (by decide) rfl fun tJ uJ vJ s0 qC=>?_
    have hZ:=s0.lst [] (fun _ h=>h.elim)
    refine Az [(9,[11])] hZ (by kernel_rfl) ?_
    refine Ar (i:=9) (by kernel_rfl) rfl ?_
    obtain ⟨t6,e5,i0⟩:=bs i0
    obtain ⟨e5,rC,sC⟩:=AR e5
    replace g4:=g4.st s0
    refine Bo rfl g4 (qC.rd) rfl rfl (by decide) rC sC rfl fun tC uC wJ u6 v0 h4=>?_
    rw [← e5] at h4 ⊢
    have hZ:=v0.lst [11] (fun _ h=>by cases h;decide)
    refine Az [] hZ (by kernel_rfl) ?_
    refine AK (fuel:=1) [] [(10,true),(11,true)] (by kernel_rfl) rfl ?_
    refine Gf rfl rfl rfl (Ba rfl rfl rfl (At ?_))
    refine Ar (i:=12) (by kernel_rfl) rfl ?_
    replace k1:=(k1.st s0).st v0
    refine Ay k1 rfl rfl rfl (AJ rfl) (allOne rfl) fun vC w0 k1=>?_
    replace k1:Lc 5 vC u6 m0 110 [(.slice cC h0.t.vars.length dC),(.slice eC h0.t.init.length fC),(.slice gC h0.t.goal.length hC),(.slice iC h0.t.jobs.length jC),(.slice kC h0.first.length lC),(.int .i64 h0.last),(.slice mC h0.left.length nC),(.slice tC t6.length uC)]:=k1
    refine BA (by kernel_rfl) ?_
    refine Bu (by kernel_rfl) ?_
    refine BD [] u6 ?_
    refine AK (fuel:=1) [] [(0,true),(1,true),(2,true),(3,true),(4,true),(5,true),(6,true),(7,true),(8,true),(9,true),(10,true),(11,true),(12,true),(13,true)] (by kernel_rfl) rfl ?_
    refine Bt rfl rfl rfl (Gf rfl rfl rfl (Ba rfl rfl rfl (By (hc:=fun w' ⟨O',hq⟩=>Blk.cell (i:=6) ((k1.st hq (by decide)).1) rfl) rfl rfl rfl ?_)))
    refine Ba rfl rfl rfl ?_
    replace f1:=((f1.st s0).st v0).st w0
    refine By (hc:=fun w' ⟨O',hq⟩=>Blk.cell (i:=1) ((f1.st hq (by decide)).1) rfl) rfl rfl rfl ?_
    refine Ba rfl rfl rfl ?_
    replace b0:=(((((b0.st q0).st r0).st t1).st s0).st v0).st w0
    refine By (hc:=fun w' ⟨O',hq⟩=>Blk.cell (i:=3) ((b0.st hq (by decide)).1) rfl) rfl rfl rfl ?_
    refine Ba rfl rfl rfl (By (hc:=fun w' ⟨O',hq⟩=>Blk.cell (i:=1) ((f1.st hq (by decide)).1) rfl) rfl rfl rfl ?_)
    obtain ⟨f5,wC,i0⟩:=bs i0
    obtain ⟨xC,yC⟩:=CX wC
    replace a0:=(((((a0.st q0).st r0).st t1).st s0).st v0).st w0
    obtain ⟨xJ,yJ,uE,w6,x6,y6,z6,zJ,aK,bK,cK,dK,rfl,zC,aD,bD,cD,dD,eK,eD⟩:=a0.elem yC
    obtain ⟨fK,gK,rfl⟩:=zC.form
    obtain ⟨hK,iK,rfl⟩:=aD.form
    obtain ⟨jK,kK,rfl⟩:=bD.form
    obtain ⟨lK,mK,rfl⟩:=cD.form
    obtain ⟨nK,oK,rfl⟩:=dD.form
    refine Gd (hA:=w6) (hj:=(Int.toNat_of_nonneg xC).symm) (hlt:=y6) rfl rfl rfl rfl ?_
    refine Ba rfl rfl rfl (By (hc:=fun w' ⟨O',hq⟩=>cat1 (CE (hq.agree (i:=0) (by decide)) x6 z6)) rfl rfl rfl ?_)
    obtain ⟨pK,fD,i0⟩:=bs i0
    obtain ⟨gD,a7⟩:=CX fD
    replace r2:=((r2.st s0).st v0).st w0
    obtain ⟨qK,rK,vE,n4,wE,b7,xE,rfl,sK⟩:=r2.elemF a7
    refine Gd (hA:=n4) (hj:=(Int.toNat_of_nonneg gD).symm) (hlt:=b7) rfl rfl rfl rfl ?_
    refine At ?_
    refine Ar (i:=14) (by kernel_rfl) rfl ?_
    refine Kk rfl r2 (a:=f5.dur) (vInt eD) n4 rfl rfl (CM a7) fun tK d1 r2=>?_
    refine BA (by kernel_rfl) ?_
    refine Bu (by kernel_rfl) ?_
    replace k1:=k1.st d1
    replace b4:=(((b4.st s0).st v0).st w0).st d1
    replace c4:=(((c4.st s0).st v0).st w0).st d1
    replace d4:=(((d4.st s0).st v0).st w0).st d1
    replace e4:=(((e4.st s0).st v0).st w0).st d1
    replace f4:=(((f4.st s0).st v0).st w0).st d1
    replace h4:=(h4.st w0).st d1
    obtain ⟨uK,j2,yE,zE,hD⟩:=Wtr.shut (x:=(⟨(⟨h0.t.vars,h0.t.init,h0.t.goal,h0.t.jobs⟩:Tpl),h0.first,h0.last,(h0.left.set (a4.job:Int).toNat f5.dur),t6⟩:Wtr)) (l0:=5) (l1:=9) (l2:=10) (l3:=11) (by decide) (by have q:=k1;rw [← ((by simp:(h0.left.set (a4.job:Int).toNat f5.dur).length=h0.left.length).trans rfl)] at q;exact q) b4 c4 d4 e4 f4 bC r2.relen h4
    obtain rfl:=sm i0
    exact show Exists _ from ⟨_,(),rfl,⟨rfl,rfl,rfl,rfl,rfl,rfl,rfl,rfl,rfl,rfl,rfl,trivial⟩,_,(((((((hB.st q0).st r0).st t1).st s0).st v0).st w0).st d1).st j2,(((((((g0.st q0).st r0).st t1).st s0).st v0).st w0).st d1).st j2,(b0.st d1).st j2,(((((((h8.st q0).st r0).st t1).st s0).st v0).st w0).st d1).st j2,(((((((j0.st q0).st r0).st t1).st s0).st v0).st w0).st d1).st j2,(((((((k0.st q0).st r0).st t1).st s0).st v0).st w0).st d1).st j2,(a0.st d1).st j2,hD,(((((((f0.st q0).st r0).st t1).st s0).st v0).st w0).st d1).st j2⟩
   replace i0:=im i0 d5
   refine o_z ?_
   refine Ae rfl (AQ ?_)
   obtain rfl:=sm i0
   exact show Exists _ from ⟨_,(),rfl,⟨rfl,rfl,rfl,rfl,rfl,rfl,rfl,rfl,rfl,rfl,rfl,trivial⟩,_,(hB.st q0).st r0,(g0.st q0).st r0,(b0.st q0).st r0,(h8.st q0).st r0,(j0.st q0).st r0,(k0.st q0).st r0,(a0.st q0).st r0,(s1.st q0).st r0,(f0.st q0).st r0⟩
  rintro vK wK ⟨xK,yK,rfl,c7,iD,hB,g0,b0,h8,j0,k0,a0,s1,f0⟩
  replace c0:=AX c0
  refine AC _ c7 ?_
  refine Ab (Aa (Aj rfl rfl (Aj rfl rfl (EB rfl rfl rfl (fun g5=>?_) fun g5=>?_))))
  ·
   replace c0:=ip c0 g5
   refine o_z ?_
   refine Ah rfl (Aa (Aj rfl rfl ?_))
   obtain ⟨zK,jD,c0⟩:=bs c0
   refine KO (O:=iD) (Ii s1 jD) rfl rfl fun aL bL cL k2 kD=>?_
   refine o_z ?_
   obtain rfl:=sm c0
   exact show Exists _ from ⟨_,(),rfl,⟨rfl,rfl,rfl,rfl,rfl,rfl,rfl,trivial⟩,_,hB.st k2,g0.st k2,b0.st k2,h8.st k2,j0.st k2,k0.st k2,a0.st k2,kD,f0.st k2⟩
  replace c0:=im c0 g5
  refine o_z ?_
  refine Ae rfl (AQ ?_)
  obtain rfl:=sm c0
  exact show Exists _ from ⟨_,(),rfl,⟨rfl,rfl,rfl,rfl,rfl,rfl,rfl,trivial⟩,_,hB,g0,b0,h8,j0,k0,a0,s1,f0⟩
 replace hB:=hB.st q1
 rintro dL lD ⟨eL,fL,rfl,d7,gL,hB,z2⟩
 replace hm:=AX hm
 refine AC _ d7 ?_
 refine Ab (Aa (Aj rfl rfl (KF rfl rfl ?_)))
 obtain ⟨hL,iL,jL,kL,lL,mL,nL,oL,mD,aF,nD,oD,pD,qD,rD,sD,pL,tD,i4⟩:=Wtr.opn z2 5 9 10 11 (by decide)
 obtain ⟨qL,rL,rfl⟩:=oD.form
 obtain ⟨sL,tL,rfl⟩:=pD.form
 obtain ⟨uL,vL,rfl⟩:=qD.form
 obtain ⟨wL,xL,rfl⟩:=rD.form
 obtain ⟨yL,zL,rfl⟩:=sD.form
 obtain ⟨aM,bM,rfl⟩:=tD.form
 obtain ⟨cM,dM,rfl⟩:=i4.form
 refine AA rfl rfl (Aw (hc:=Blk.cell (i:=7) (nD.1) rfl) rfl rfl ?_)
 refine Al rfl rfl (Al rfl rfl (o_z ?_))
 refine AB ?_
 obtain ⟨uD,vD,i4⟩:=i4.freeze
 obtain rfl:=sm hm
 replace hB:=(hB.st mD).st vD
 exact ret2 rfl (Au rfl) (Au rfl) ⟨hB.ext,_,_,rfl,(Vb.mono (F:=Fr 0 lD uD) i4 hB.out),(vErr (show inI64 0 from by decide))⟩
end
section
open Go Go.RowKit
attribute [local irreducible] ewp owp hwp hwq Ev Evg Fn retPost Res1
noncomputable def HB (x0:Tsk) (x1:List Int) (x2:Int):Option ((List Int)×Bool) :=
  bnd (if x2 < 0 then (some true) else (if (x0.ops.length:Int)≤x2 then (some true) else (bnd (atI x0.ops x2) fun a36=>bnd (Es a36.pre x1) fun q57=>if q57=true then some false else some true)):Option Bool) fun y28=>if y28=true then (some (([]:List Int),false)) else (bnd (appI 8 ([]:List Int) x1) fun u75=>bnd (atI x0.ops x2) fun a86=>bnd (rng (ρ:=(List Int)×Bool) (fun (k113:Nat) (a114:Eff) (s111:(List Int))=>bnd (Es a114.cond x1) fun q148=>if q148=true then bnd (atI s111 a114.var) fun a155=>some (.next (s111.set (a114.var:Int).toNat a114.val)) else some (.next s111)) a86.effs 0 u75) fun res109=>fin res109 fun (s173:(List Int))=>some (s173,true))
theorem LX {w:World} {A:Nat→Prop} (hA:∀ k,A k→k < w.heap.size) {vx0:Value} {x0:Tsk} (y1:Vb w A vx0 x0) {vx1:Value} {x1:List Int} (e0:Vb w A vx1 x1) {x2:Int} (rx2:inI64 x2) {r:(List Int)×Bool} (hm:HB x0 x1 x2=some r) :
    Fn Tryz.prog 69 [vx0,vx1,(.int .i64 x2)] w fun v w'=>Ext w w'∧T2 w' (upA A w w') v r:=by
 obtain ⟨O,hB,h3⟩:=enter hA
 replace y1:=y1.mono h3
 obtain ⟨h5,rfl,v5,v6,v7,v8,rfl,h9,t0,u0,k0⟩:=y1
 obtain ⟨z1,a2,rfl⟩:=h9.form
 obtain ⟨b2,c2,rfl⟩:=t0.form
 obtain ⟨d2,e2,rfl⟩:=u0.form
 obtain ⟨f2,g2,rfl⟩:=k0.form
 replace e0:=e0.mono h3
 obtain ⟨o1,p1,rfl⟩:=e0.form
 refine AD Tryz.func69 rfl Tryz.ntmps69 rfl ?_
 unfold HB at hm
 refine Ab (Aa (BX 2 O rfl rfl fun h2 q1 r1 c0 n0=>?_))
 replace n0:Lc 2 q1 r1 h2 31 [(.slice z1 x0.vars.length a2),(.slice b2 x0.init.length c2),(.slice d2 x0.goal.length e2),(.slice f2 x0.ops.length g2)]:=n0
 refine Al rfl rfl (Al rfl rfl (o_z ?_))
 refine Ab (Ab ?_)
 obtain ⟨q3,a0,hm⟩:=bs hm
 refine Ax (fun l' w'=>∃ (r3:Unit) (O':Lab),subs l' [(1,(.slice o1 x1.length p1)),(2,(.int .i64 x2)),(3,(.pointer (some ⟨h2,0,none⟩))),(30,(.bool q3))]∧Bs w A w' O'∧Vb w' (Fr 0 w' O') (.slice o1 x1.length p1) x1∧Lc 2 w' O' h2 31 [(.slice z1 x0.vars.length a2),(.slice b2 x0.init.length c2),(.slice d2 x0.goal.length e2),(.slice f2 x0.ops.length g2)]∧Vb w' (Fr 0 w' O') (.slice z1 x0.vars.length a2) x0.vars∧Vb w' (Fr 0 w' O') (.slice b2 x0.init.length c2) x0.init∧Vb w' (Fr 0 w' O') (.slice d2 x0.goal.length e2) x0.goal∧Vb w' (Fr 0 w' O') (.slice f2 x0.ops.length g2) x0.ops) ?_ ?_
 ·
  refine Aa (Aj rfl rfl (EB rfl rfl rfl (fun i2=>?_) fun i2=>?_))
  ·
   replace a0:=ip a0 i2
   refine Aj rfl rfl (Ak rfl rfl rfl rfl (Ak rfl rfl rfl rfl (Ak rfl rfl rfl rfl (Ak rfl rfl rfl rfl (Ak rfl rfl rfl rfl (Bv rfl rfl rfl (Aj rfl rfl (Ak rfl rfl rfl rfl (Ak rfl rfl rfl rfl (Ak rfl rfl rfl rfl (Ak rfl rfl rfl rfl (Ak rfl rfl rfl rfl (Ak rfl rfl rfl rfl (Ak rfl rfl rfl rfl ?_))))))))))))))
   refine Ak rfl rfl rfl rfl (Ak rfl rfl rfl rfl (Bv rfl rfl rfl (o_z ?_)))
   obtain rfl:=sm a0
   exact ⟨(),_,⟨rfl,rfl,rfl,rfl,trivial⟩,hB.st c0,e0.st c0,n0,h9.st c0,t0.st c0,u0.st c0,k0.st c0⟩
  replace a0:=im a0 i2
  refine Aj rfl rfl (Am rfl rfl (Aj rfl rfl (Am rfl rfl (AA rfl rfl (Am rfl rfl (Aw (hc:=Blk.cell (i:=3) (n0.1) rfl) rfl rfl ?_))))))
  refine Am rfl rfl (AT rfl rfl ?_)
  replace k0:=k0.st c0
  have s3:x0.ops.length≤9223372036854775807:=Nat.le_trans k0.len.2.1 k0.len.2.2
  have i5:inI64 (x0.ops.length:Int):=rngNat s3
  refine Am rfl rfl (EM rfl rfl rfl (fun j2=>?_) fun j2=>?_)
  ·
   replace a0:=ip a0 j2
   refine Bg rfl rfl rfl (Aj rfl rfl (Ak rfl rfl rfl rfl (Ak rfl rfl rfl rfl (Ak rfl rfl rfl rfl (Ak rfl rfl rfl rfl (Ak rfl rfl rfl rfl (Ak rfl rfl rfl rfl (Ak rfl rfl rfl rfl (Ak rfl rfl rfl rfl (Ak rfl rfl rfl rfl (Bv rfl rfl rfl (o_z ?_))))))))))))
   obtain rfl:=sm a0
   exact ⟨(),_,⟨rfl,rfl,rfl,rfl,trivial⟩,hB.st c0,e0.st c0,n0,h9.st c0,t0.st c0,u0.st c0,k0⟩
  replace a0:=im a0 j2
  refine Bg rfl rfl rfl (Aj rfl rfl (Am rfl rfl (AA rfl rfl (Am rfl rfl (Aw (hc:=Blk.cell (i:=3) (n0.1) rfl) rfl rfl ?_)))))
  refine Am rfl rfl (Aj rfl rfl (Am rfl rfl ?_))
  obtain ⟨j5,t3,a0⟩:=bs a0
  obtain ⟨u3,v3⟩:=CX t3
  obtain ⟨k5,l5,w3,k2,l2,m2,m5,n5,rfl,i3,x3,o5,p5⟩:=k0.elem' v3
  obtain ⟨q5,r5,rfl⟩:=i3.form
  obtain ⟨s5,t5,rfl⟩:=x3.form
  refine Bz (hA:=k2) (hj:=(Int.toNat_of_nonneg u3).symm) (hlt:=l2) rfl rfl rfl ?_
  refine Am rfl rfl (AA rfl rfl (Am rfl rfl (Aw (hc:=cat2 m2) rfl rfl ?_)))
  refine Am rfl rfl (Aj rfl rfl (Am rfl rfl ?_))
  obtain ⟨j3,y3,a0⟩:=bs a0
  replace e0:=e0.st c0
  refine AF (O:=r1) (A:=All q1) (R:=fun w' F v=>Vb w' F v j3) (Gw (fun _ h=>h) (Vb.mono (F:=Fr 0 q1 r1) i3 Fr.lt) (Vb.mono (F:=Fr 0 q1 r1) e0 Fr.lt) y3) rfl rfl fun u5 w5 x5 l0 z3=>?_
  obtain rfl:=z3.bool
  cases j3
  case false =>
   replace a0:=iF a0
   refine Am rfl rfl (FC rfl rfl (Bg rfl rfl rfl (o_z ?_)))
   obtain rfl:=sm a0
   exact ⟨(),_,⟨rfl,rfl,rfl,rfl,trivial⟩,(hB.st c0).st l0,e0.st l0,n0.st l0,(h9.st c0).st l0,(t0.st c0).st l0,(u0.st c0).st l0,k0.st l0⟩
  replace a0:=iT a0
  refine Am rfl rfl (FB rfl rfl (Bg rfl rfl rfl (o_z ?_)))
  obtain rfl:=sm a0
  exact ⟨(),_,⟨rfl,rfl,rfl,rfl,trivial⟩,(hB.st c0).st l0,e0.st l0,n0.st l0,(h9.st c0).st l0,(t0.st c0).st l0,(u0.st c0).st l0,k0.st l0⟩
 replace hB:=hB.st c0
 replace e0:=e0.st c0
 replace h9:=h9.st c0
 replace t0:=t0.st c0
 replace u0:=u0.st c0
 replace k0:=k0.st c0
 rintro y5 a4 ⟨r3,k3,n2,hB,e0,n0,h9,t0,u0,k0⟩
 refine AC _ n2 ?_
 refine CB rfl (fun o2=>?_) (fun o2=>?_)
 ·
  replace hm:=ip hm o2
  refine Ab (Aa (Al rfl rfl (Al rfl rfl (o_z ?_))))
  refine AB ?_
  obtain rfl:=sm hm
  exact ret2 rfl (Au rfl) (Au rfl) ⟨hB.ext,_,_,rfl,(Vb.mono (F:=Fr 0 a4 k3) (Vb.nil _ _) hB.out),vBool⟩
 replace hm:=im' hm o2
 refine AQ (Ab (Aa (AL 3 (by decide) k3 (xs:=(([]:List Int):List Int)) rfl rfl rfl rfl trivial (by decide) (by decide) rfl fun z5 a6 b6 c1 b4=>?_)))
 refine Aj rfl rfl ?_
 obtain ⟨s1,p2,hm⟩:=bs hm
 obtain ⟨p2,c4,d4⟩:=AR p2
 replace e0:=e0.st c1
 refine Bo rfl b4 (e0.rd) rfl rfl (by decide) c4 d4 rfl fun t1 u1 c6 e4 d1 l3=>?_
 rw [← p2] at l3 ⊢
 refine Al rfl rfl (o_z ?_)
 refine Ab (Ab (Aa (AA rfl rfl ?_)))
 replace n0:=(n0.st c1).st d1
 refine Aw (hc:=Blk.cell (i:=3) (n0.1) rfl) rfl rfl ?_
 refine Aj rfl rfl ?_
 obtain ⟨b1,f4,hm⟩:=bs hm
 obtain ⟨g4,h4⟩:=CX f4
 replace k0:=(k0.st c1).st d1
 obtain ⟨d6,e6,i4,q2,r2,s2,f6,g6,rfl,j4,f0,k4,l4⟩:=k0.elem' h4
 obtain ⟨m4,n4,rfl⟩:=j4.form
 obtain ⟨e1,f1,rfl⟩:=f0.form
 refine Bz (hA:=q2) (hj:=(Int.toNat_of_nonneg g4).symm) (hlt:=r2) rfl rfl rfl ?_
 refine AA rfl rfl (Aw (hc:=cat3 s2) rfl rfl ?_)
 refine AT rfl rfl ?_
 have y0:b1.effs.length≤9223372036854775807:=Nat.le_trans f0.len.2.1 f0.len.2.2
 have o4:inI64 (b1.effs.length:Int):=rngNat y0
 refine Aj rfl rfl (o_z ?_)
 obtain ⟨z0,g1,hm⟩:=bs hm
 refine Ax (aft z0 (fun (m0:(List Int)) (o0:Unit)=>[(8,(.slice t1 s1.length u1))]) (fun m0 o0 w'=>∃ O':Lab,Bs w A w' O'∧Rw 3 w' O' 3 (.slice t1 s1.length u1) m0)) ?_ ?_
 ·
  refine AN ?_
  replace hB:=(hB.st c1).st d1
  replace e0:=e0.st d1
  refine Bn (σ:=(List Int)) (X:=Unit) (b1.effs.length) g1 rfl y0 (fun (m0:(List Int)) (o0:Unit)=>[(1,(.slice o1 x1.length p1)),(8,(.slice t1 s1.length u1)),(39,(.slice e1 b1.effs.length f1))]) _ (fun m0 o0 w'=>∃ O':Lab,Bs w A w' O'∧Vb w' (Fr 0 w' O') (.slice o1 x1.length p1) x1∧Rw 3 w' O' 3 (.slice t1 s1.length u1) m0∧Vb w' (Fr 0 w' O') (.slice e1 b1.effs.length f1) b1.effs) _ () ⟨e4,hB,e0,l3,f0⟩ ⟨rfl,rfl,rfl,rfl,rfl,trivial⟩ (fun _ _=>⟨rfl,rfl⟩) (fun _ _=>⟨rfl,trivial⟩) (fun _ _ _ ⟨O',hB,e0,d0,f0⟩=>⟨O',hB,d0⟩) ⟨rfl,rfl,rfl⟩ ⟨rfl,rfl⟩ ?_
  rintro t2 p0 m0 o0 p4 m3 v0 ⟨u2,hB,e0,d0,f0⟩ b0 v1 w1
  have rk113:inI64 (t2:Int):=rngK v0 y0
  refine Ab (Aa ?_)
  obtain ⟨q4,r4,n3,h1,i1,j1,s4,rfl,q0,t4,v2⟩:=f0.elem' v0
  obtain ⟨w2,y2,rfl⟩:=q0.form
  refine Bz (hA:=h1) (hj:=rfl) (hlt:=i1) rfl rfl rfl ?_
  refine Bp (hl:=rfl) (hc:=j1) rfl rfl ?_
  refine AS 4 u2 rfl fun z2 u4 r0 i0 g0=>?_
  refine Ay g0 rfl rfl rfl (AJ rfl) (allOne rfl) fun s0 j0 g0=>?_
  replace g0:Lc 4 s0 r0 z2 85 [(.slice w2 p0.cond.length y2),(.int .i64 p0.var),(.int .i64 p0.val)]:=g0
  refine o_z ?_
  refine Ab (Aa (AA rfl rfl (Aw (hc:=Blk.cell (i:=0) (g0.1) rfl) rfl rfl ?_)))
  refine Aj rfl rfl ?_
  obtain ⟨k1,a3,b0⟩:=bs b0
  replace e0:=(e0.st i0).st j0
  replace q0:=(q0.st i0).st j0
  refine AF (O:=r0) (A:=All s0) (R:=fun w' F v=>Vb w' F v k1) (Gw (fun _ h=>h) (Vb.mono (F:=Fr 0 s0 r0) q0 Fr.lt) (Vb.mono (F:=Fr 0 s0 r0) e0 Fr.lt) a3) rfl rfl fun v4 w4 x4 h0 b3=>?_
  obtain rfl:=b3.bool
  cases k1
  case false =>
   replace b0:=iF b0
   refine o_z ?_
   refine Ae rfl (AQ ?_)
   obtain rfl:=sm b0
   exact show Exists _ from ⟨_,(),rfl,⟨rfl,rfl,rfl,rfl,rfl,trivial⟩,_,((hB.st i0).st j0).st h0,e0.st h0,((d0.st i0).st j0).st h0,((f0.st i0).st j0).st h0⟩
  replace b0:=iT b0
  refine o_z ?_
  refine Ah rfl (Aa (Aj rfl rfl (AA rfl rfl ?_)))
  replace g0:=g0.st h0
  refine Aw (hc:=Blk.cell (i:=1) (g0.1) rfl) rfl rfl ?_
  refine AA rfl rfl (Aw (hc:=Blk.cell (i:=2) (g0.1) rfl) rfl rfl ?_)
  obtain ⟨y4,c3,b0⟩:=bs b0
  obtain ⟨d3,l1⟩:=CX c3
  replace d0:=((d0.st i0).st j0).st h0
  obtain ⟨z4,a5,o3,w0,m1,p3,rfl,b5⟩:=d0.elem l1
  refine Bz (hA:=w0) (hj:=(Int.toNat_of_nonneg d3).symm) (hlt:=m1) rfl rfl rfl ?_
  refine Kk rfl d0 (a:=p0.val) (vInt v2) w0 rfl rfl (CM l1) fun c5 a1 d0=>?_
  refine o_z ?_
  obtain rfl:=sm b0
  exact show Exists _ from ⟨_,(),rfl,⟨rfl,rfl,rfl,rfl,rfl,trivial⟩,_,(((hB.st i0).st j0).st h0).st a1,(e0.st h0).st a1,d0,(((f0.st i0).st j0).st h0).st a1⟩
 replace hB:=(hB.st c1).st d1
 rintro d5 e3 ⟨e5,f5,rfl,n1,g5,hB,d0⟩
 replace hm:=AX hm
 refine AC _ n1 ?_
 refine Ab (Aa (Aj rfl rfl (Al rfl rfl (Al rfl rfl (o_z ?_)))))
 refine AB ?_
 obtain ⟨f3,g3,d0⟩:=d0.freeze
 obtain rfl:=sm hm
 replace hB:=hB.st g3
 exact ret2 rfl (Au rfl) (Au rfl) ⟨hB.ext,_,_,rfl,(Vb.mono (F:=Fr 0 e3 f3) d0 hB.out),vBool⟩
noncomputable def GR (x0:Tsk) (x1:List Int) (x2:List Int):Option (Int×Bool) :=
  bnd (rng (ρ:=Int×Bool) (fun (k36:Nat) (a37:Int) (s34:(List Int)×Int)=>bnd (HB x0 s34.1 a37) fun q59=>if (!q59.2)=true then (some (.ret (0,false))) else (bnd (atI x0.ops a37) fun a73=>bnd (chkI (s34.2 + a73.cost)) fun n94=>some (.next (q59.1,n94)))) x2 0 (x1,0)) fun res32=>fin res32 fun (s101:(List Int)×Int)=>bnd (bnd (Es x0.goal s101.1) fun q107=>if q107=true then some true else some false:Option Bool) fun y103=>some (s101.2,y103)
theorem Mj {w:World} {A:Nat→Prop} (hA:∀ k,A k→k < w.heap.size) {vx0:Value} {x0:Tsk} (f1:Vb w A vx0 x0) {vx1:Value} {x1:List Int} (m0:Vb w A vx1 x1) {vx2:Value} {x2:List Int} (g0:Vb w A vx2 x2) {r:Int×Bool} (hm:GR x0 x1 x2=some r) :
    Fn Tryz.prog 22 [vx0,vx1,vx2] w fun v w'=>Ext w w'∧T2 w' (upA A w w') v r:=by
 obtain ⟨O,hB,g1⟩:=enter hA
 replace f1:=f1.mono g1
 obtain ⟨h3,rfl,v5,v6,v7,v8,rfl,h9,h0,e0,c0⟩:=f1
 obtain ⟨n0,o0,rfl⟩:=h9.form
 obtain ⟨p0,q0,rfl⟩:=h0.form
 obtain ⟨r0,s0,rfl⟩:=e0.form
 obtain ⟨t0,u0,rfl⟩:=c0.form
 replace m0:=m0.mono g1
 obtain ⟨e2,f2,rfl⟩:=m0.form
 replace g0:=g0.mono g1
 obtain ⟨z1,a2,rfl⟩:=g0.form
 refine AD Tryz.func22 rfl Tryz.ntmps22 rfl ?_
 unfold GR at hm
 refine Ab (Aa (BX 2 O rfl rfl fun v0 g2 b2 i0 f0=>?_))
 replace f0:Lc 2 g2 b2 v0 31 [(.slice n0 x0.vars.length o0),(.slice p0 x0.init.length q0),(.slice r0 x0.goal.length s0),(.slice t0 x0.ops.length u0)]:=f0
 refine Al rfl rfl (Al rfl rfl (o_z ?_))
 refine Ab (Aa (Al rfl rfl (o_z ?_)))
 refine Ab (Ab (Aa (Aj rfl rfl (AT rfl rfl ?_))))
 replace g0:=g0.st i0
 have h1:x2.length≤9223372036854775807:=Nat.le_trans g0.len.2.1 g0.len.2.2
 have i3:inI64 (x2.length:Int):=rngNat h1
 refine Aj rfl rfl (o_z ?_)
 obtain ⟨w0,i1,hm⟩:=bs hm
 refine Ax (aft w0 (fun (d0:(List Int)×Int) (j0:(Option Addr×Nat))=>[(1,(.slice j0.1 d0.1.length j0.2)),(3,(.pointer (some ⟨v0,0,none⟩))),(8,(.int .i64 d0.2))]) (fun d0 j0 w'=>∃ O':Lab,Bs w A w' O'∧Vb w' (Fr 0 w' O') (.slice j0.1 d0.1.length j0.2) d0.1∧Lc 2 w' O' v0 31 [(.slice n0 x0.vars.length o0),(.slice p0 x0.init.length q0),(.slice r0 x0.goal.length s0),(.slice t0 x0.ops.length u0)]∧Vb w' (Fr 0 w' O') (.slice n0 x0.vars.length o0) x0.vars∧Vb w' (Fr 0 w' O') (.slice p0 x0.init.length q0) x0.init∧Vb w' (Fr 0 w' O') (.slice r0 x0.goal.length s0) x0.goal∧Vb w' (Fr 0 w' O') (.slice t0 x0.ops.length u0) x0.ops∧inI64 d0.2)) ?_ ?_
 ·
  refine AN ?_
  replace hB:=hB.st i0
  replace m0:=m0.st i0
  replace h9:=h9.st i0
  replace h0:=h0.st i0
  replace e0:=e0.st i0
  replace c0:=c0.st i0
  refine Bn (σ:=(List Int)×Int) (X:=(Option Addr×Nat)) (x2.length) i1 rfl h1 (fun (d0:(List Int)×Int) (j0:(Option Addr×Nat))=>[(1,(.slice j0.1 d0.1.length j0.2)),(3,(.pointer (some ⟨v0,0,none⟩))),(8,(.int .i64 d0.2)),(13,(.slice z1 x2.length a2))]) _ (fun d0 j0 w'=>∃ O':Lab,Bs w A w' O'∧Vb w' (Fr 0 w' O') (.slice j0.1 d0.1.length j0.2) d0.1∧Lc 2 w' O' v0 31 [(.slice n0 x0.vars.length o0),(.slice p0 x0.init.length q0),(.slice r0 x0.goal.length s0),(.slice t0 x0.ops.length u0)]∧Vb w' (Fr 0 w' O') (.slice n0 x0.vars.length o0) x0.vars∧Vb w' (Fr 0 w' O') (.slice p0 x0.init.length q0) x0.init∧Vb w' (Fr 0 w' O') (.slice r0 x0.goal.length s0) x0.goal∧Vb w' (Fr 0 w' O') (.slice t0 x0.ops.length u0) x0.ops∧Vb w' (Fr 0 w' O') (.slice z1 x2.length a2) x2∧inI64 d0.2) _ (e2,f2) ⟨b2,hB,m0,f0,h9,h0,e0,c0,g0,(show inI64 (0) from by decide)⟩ ⟨rfl,rfl,rfl,rfl,rfl,rfl,trivial⟩ (fun _ _=>⟨rfl,rfl⟩) (fun _ _=>⟨rfl,rfl,rfl,trivial⟩) (fun _ _ _ ⟨O',hB,y0,f0,h9,h0,e0,c0,g0,e1⟩=>⟨O',hB,y0,f0,h9,h0,e0,c0,e1⟩) ⟨rfl,rfl,rfl⟩ ⟨rfl,rfl⟩ ?_
  rintro h2 j3 d0 j0 k3 i2 z0 ⟨j2,hB,y0,f0,h9,h0,e0,c0,g0,e1⟩ b0 l0 j1
  have rk36:inI64 (h2:Int):=rngK z0 h1
  refine Ab (Aa ?_)
  obtain ⟨l3,m3,k2,k1,l1,m1,rfl,l2⟩:=g0.elem' z0
  refine Bz (hA:=k1) (hj:=rfl) (hlt:=l1) rfl rfl rfl ?_
  refine Aw (hc:=cat0 m1) rfl rfl ?_
  refine Al rfl rfl (o_z ?_)
  refine Ab (Aa (Bp (hl:=rfl) (hc:=(f0.1).cellsAt) rfl rfl ?_))
  refine Aj rfl rfl (Aj rfl rfl ?_)
  obtain ⟨m2,n2,b0⟩:=bs b0
  refine Cc (O:=j2) (R:=fun w' F v=>T2 w' F v m2) (LX Fr.lt (Vb.ofAgg (cs:=[(.slice n0 x0.vars.length o0),(.slice p0 x0.init.length q0),(.slice r0 x0.goal.length s0),(.slice t0 x0.ops.length u0)]) (x:=x0) rfl ⟨_,_,_,_,rfl,h9,h0,e0,c0⟩) y0 l2 n2) rfl rfl fun n3 o3 p3 k0 o2=>?_
  obtain ⟨q3,r3,rfl,c2,p2⟩:=o2
  obtain ⟨q2,r2,rfl⟩:=c2.form
  obtain rfl:=p2.bool
  refine Aj rfl rfl (DH rfl rfl rfl (DH rfl rfl rfl (Al rfl rfl (Al rfl rfl (o_z ?_)))))
  refine Ab (Ab (Aa (Aj rfl rfl (Ir rfl rfl (o_z ?_)))))
  refine CB rfl (fun n1=>?_) (fun n1=>?_)
  ·
   replace b0:=ip b0 n1
   refine Ab (Aa (Al rfl rfl (Al rfl rfl (o_z ?_))))
   refine AB ?_
   obtain rfl:=sm b0
   obtain rfl:=l0 _ rfl
   obtain rfl:=sm (Cq hm)
   replace hB:=hB.st k0
   exact ret2 rfl (Au rfl) (Au rfl) ⟨hB.ext,_,_,rfl,(vInt (show inI64 (0) from by decide)),vBool⟩
  replace b0:=im' b0 n1
  refine AQ (Ab (Aa (Aj rfl rfl (Al rfl rfl (o_z ?_)))))
  refine Aa (Aj rfl rfl (AA rfl rfl ?_))
  replace f0:=f0.st k0
  refine Aw (hc:=Blk.cell (i:=3) (f0.1) rfl) rfl rfl ?_
  refine Aj rfl rfl ?_
  obtain ⟨s3,s2,b0⟩:=bs b0
  obtain ⟨t2,u2⟩:=CX s2
  replace c0:=c0.st k0
  obtain ⟨t3,u3,v2,o1,p1,q1,v3,w3,rfl,w2,y2,x3,y3⟩:=c0.elem' u2
  obtain ⟨z3,a4,rfl⟩:=w2.form
  obtain ⟨b4,c4,rfl⟩:=y2.form
  refine Bz (hA:=o1) (hj:=(Int.toNat_of_nonneg t2).symm) (hlt:=p1) rfl rfl rfl ?_
  refine AA rfl rfl (Aw (hc:=cat1 q1) rfl rfl ?_)
  obtain ⟨d4,d2,b0⟩:=bs b0
  have z2:=(Bw d2)
  refine DM (he:=d2) rfl rfl rfl ?_
  refine Al rfl rfl (o_z ?_)
  obtain rfl:=sm b0
  exact show Exists _ from ⟨_,(q2,r2),rfl,⟨rfl,rfl,rfl,rfl,rfl,rfl,trivial⟩,_,hB.st k0,c2,f0,h9.st k0,h0.st k0,e0.st k0,c0,g0.st k0,z2⟩
 replace hB:=hB.st i0
 replace h9:=h9.st i0
 replace h0:=h0.st i0
 replace e0:=e0.st i0
 replace c0:=c0.st i0
 rintro e4 r1 ⟨s1,a3,rfl,a1,t1,hB,y0,f0,h9,h0,e0,c0,e1⟩
 replace hm:=AX hm
 refine AC _ a1 ?_
 refine Ab ?_
 obtain ⟨u1,a0,hm⟩:=bs hm
 refine Ax (fun l' w'=>∃ (v1:Unit) (O':Lab),subs l' [(6,(.int .i64 s1.2)),(7,(.bool u1))]∧Bs w A w' O') ?_ ?_
 ·
  refine Aa (Aj rfl rfl (AA rfl rfl (Aw (hc:=Blk.cell (i:=2) (f0.1) rfl) rfl rfl ?_)))
  refine Aj rfl rfl ?_
  obtain ⟨b1,w1,a0⟩:=bs a0
  refine AF (O:=t1) (A:=All r1) (R:=fun w' F v=>Vb w' F v b1) (Gw (fun _ h=>h) (Vb.mono (F:=Fr 0 r1 t1) e0 Fr.lt) (Vb.mono (F:=Fr 0 r1 t1) y0 Fr.lt) w1) rfl rfl fun b3 c3 d3 c1 y1=>?_
  obtain rfl:=y1.bool
  cases b1
  case false =>
   replace a0:=iF a0
   refine Al rfl rfl (Al rfl rfl (o_z ?_))
   obtain rfl:=sm a0
   exact ⟨(),_,⟨rfl,rfl,trivial⟩,hB.st c1⟩
  replace a0:=iT a0
  refine Al rfl rfl (Al rfl rfl (o_z ?_))
  obtain rfl:=sm a0
  exact ⟨(),_,⟨rfl,rfl,trivial⟩,hB.st c1⟩
 rintro e3 f3 ⟨v1,g3,d1,hB⟩
 refine AC _ d1 ?_
 refine AB ?_
 obtain rfl:=sm hm
 exact ret2 rfl (Au rfl) (Au rfl) ⟨hB.ext,_,_,rfl,(vInt e1),vBool⟩
end
section
open Go Go.RowKit
attribute [local irreducible] ewp owp hwp hwq Ev Evg Fn retPost Res1
noncomputable def HP (x0:Err) (x1:Int):Option Bool :=
  bnd (if x0.n≠0 then (bnd (Kw (⟨x0.n⟩:Err)) fun q8=>if q8=x1 then (some true) else (some false)) else (some false):Option Bool) fun y3=>some y3
theorem No {w:World} {A:Nat→Prop} (hA:∀ k,A k→k < w.heap.size) {x0:Err} (rx0:inI64 x0.n) {x1:Int} (rx1:inI64 x1) {r:Bool} (hm:HP x0 x1=some r) :
    Fn Tryz.prog 19 [(errV x0.n),(.int .i64 x1)] w fun v w'=>Ext w w'∧Vb w' (upA A w w') v r:=by
 obtain ⟨O,hB,f0⟩:=enter hA
 refine AD Tryz.func19 rfl Tryz.ntmps19 rfl ?_
 unfold HP at hm
 refine Ab (Aa (Al rfl rfl (o_z ?_)))
 refine Ab ?_
 obtain ⟨y3,a0,hm⟩:=bs hm
 refine Ax (fun l' w'=>∃ (x6:Unit) (O':Lab),subs l' [(4,(.bool y3))]∧Bs w A w' O') ?_ ?_
 ·
  refine Aa (Aj rfl rfl (GP rfl rfl (fun c7=>?_) fun c7=>?_))
  ·
   replace a0:=ip a0 c7
   refine Aj rfl rfl (Am rfl rfl (Aj rfl rfl (Am rfl rfl ?_)))
   obtain ⟨q8,e9,a0⟩:=bs a0
   refine AF (O:=O) (A:=All w) (R:=fun w' F v=>Vb w' F v q8) (MP (fun _ h=>h) rx0 e9) rfl rfl fun g0 h0 i0 d0 e0=>?_
   obtain ⟨rfl,j0⟩:=e0.int
   refine Am rfl rfl (Aj rfl rfl (Am rfl rfl (Ga rfl rfl rfl (fun b0=>?_) fun b0=>?_)))
   ·
    replace a0:=ip a0 b0
    refine Bv rfl rfl rfl (Al rfl rfl (o_z ?_))
    obtain rfl:=sm a0
    exact ⟨(),_,⟨rfl,trivial⟩,hB.st d0⟩
   replace a0:=im a0 b0
   refine Bv rfl rfl rfl (Al rfl rfl (o_z ?_))
   obtain rfl:=sm a0
   exact ⟨(),_,⟨rfl,trivial⟩,hB.st d0⟩
  replace a0:=im a0 c7
  refine Aj rfl rfl (Ak rfl rfl rfl rfl (Ak rfl rfl rfl rfl (Ak rfl rfl rfl rfl (Ak rfl rfl rfl rfl (Bg rfl rfl rfl (Al rfl rfl (o_z ?_)))))))
  obtain rfl:=sm a0
  exact ⟨(),_,⟨rfl,trivial⟩,hB⟩
 rintro k0 l0 ⟨x6,m0,c0,hB⟩
 refine AC _ c0 ?_
 refine AB ?_
 obtain rfl:=sm hm
 exact ret1v rfl (Au rfl) ⟨hB.ext,vBool⟩
end
section
open Go Go.RowKit
attribute [local irreducible] ewp owp hwp hwq Ev Evg Fn retPost Res1
attribute [local irreducible] hwx loudX
noncomputable def ER  : Option Tpl :=
  some (⟨([2]:List Int),([0]:List Int),[(⟨0,0⟩:Fct)],[(⟨(⟨#[108,105,103,104,116]⟩:ByteArray),3,[(⟨0,0⟩:Fct)],[(⟨0,1⟩:Fct)],([]:List Fct),[(⟨0,1⟩:Fct)],[(⟨0,0⟩:Fct)]⟩:Job)]⟩:Tpl)
theorem Jc {w:World} {A:Nat→Prop} (hA:∀ k,A k→k < w.heap.size)  {r:Tpl} (hm:ER  = some r) :
    Fn Tryz.prog 34 [] w fun v w'=>Ext w w'∧Vb w' (upA A w w') v r:=by
 obtain ⟨O,hB,z0⟩:=enter hA
 refine AD Tryz.func34 rfl Tryz.ntmps34 rfl ?_
 unfold ER at hm
 refine Ab (Aa (AS 2 O rfl fun g1 w2 O3 S4 h5=>?_))
 refine o_z ?_
 refine Ab (Aa (DY rfl rfl rfl ?_))
 refine AL 3 (by decide) O3 (xs:=([(⟨0,0⟩:Fct)]:List Fct)) rfl rfl rfl rfl ⟨(Vb.ofAgg (cs:=[(.int .i64 0),(.int .i64 0)]) (x:=(⟨0,0⟩:Fct)) rfl ⟨rfl,(show inI64 0 from by decide),(show inI64 (0) from by decide)⟩),trivial⟩ (by decide) (by decide) rfl fun g6 w7 O8 S9 a0=>?_
 refine DY rfl rfl rfl ?_
 refine AL 4 (by decide) O8 (xs:=([(⟨0,1⟩:Fct)]:List Fct)) rfl rfl rfl rfl ⟨(Vb.ofAgg (cs:=[(.int .i64 0),(.int .i64 1)]) (x:=(⟨0,1⟩:Fct)) rfl ⟨rfl,(show inI64 0 from by decide),(show inI64 (1) from by decide)⟩),trivial⟩ (by decide) (by decide) rfl fun s0 a1 u0 o0 d0=>?_
 refine Al rfl rfl (Al rfl rfl (o_z ?_))
 refine Ab (Aa (AL 5 (by decide) u0 (xs:=(([2]:List Int):List Int)) rfl rfl rfl rfl ⟨(vInt (show inI64 (2) from by decide)),trivial⟩ (by decide) (by decide) rfl fun p0 b1 v0 n0 b0=>?_))
 refine AL 6 (by decide) v0 (xs:=(([0]:List Int):List Int)) rfl rfl rfl rfl ⟨(vInt (show inI64 (0) from by decide)),trivial⟩ (by decide) (by decide) rfl fun q0 c1 d1 e0 c0=>?_
 refine Aj rfl rfl (Aj rfl rfl (Aj rfl rfl (Aj rfl rfl (Aj rfl rfl (DY rfl rfl rfl ?_)))))
 replace a0:=((a0.st o0).st n0).st e0
 obtain ⟨e1,f0,a0⟩:=a0.freeze
 replace d0:=((d0.st n0).st e0).st f0
 obtain ⟨w0,g0,d0⟩:=d0.freeze
 replace a0:=a0.st g0
 refine AL 7 (by decide) w0 (xs:=([(⟨(⟨#[108,105,103,104,116]⟩:ByteArray),3,[(⟨0,0⟩:Fct)],[(⟨0,1⟩:Fct)],([]:List Fct),[(⟨0,1⟩:Fct)],[(⟨0,0⟩:Fct)]⟩:Job)]:List Job)) rfl rfl rfl rfl ⟨(Vb.ofAgg (cs:=[(.string (⟨#[108,105,103,104,116]⟩:ByteArray)),(.int .i64 3),(.slice (some ⟨g6,0,none⟩) [(⟨0,0⟩:Fct)].length 1),(.slice (some ⟨s0,0,none⟩) [(⟨0,1⟩:Fct)].length 1),(.slice none 0 0),(.slice (some ⟨s0,0,none⟩) [(⟨0,1⟩:Fct)].length 1),(.slice (some ⟨g6,0,none⟩) [(⟨0,0⟩:Fct)].length 1)]) (x:=(⟨(⟨#[108,105,103,104,116]⟩:ByteArray),3,[(⟨0,0⟩:Fct)],[(⟨0,1⟩:Fct)],([]:List Fct),[(⟨0,1⟩:Fct)],[(⟨0,0⟩:Fct)]⟩:Job)) rfl ⟨_,_,_,_,_,rfl,a0,d0,(Vb.nil _ _),d0,a0,(show (⟨#[108,105,103,104,116]⟩:ByteArray).size≤9223372036854775807 from by decide),(show inI64 (3) from by decide)⟩),trivial⟩ (by decide) (by decide) rfl fun r0 f1 x0 h0 i0=>?_
 refine DY rfl rfl rfl ?_
 replace h5:=((((((h5.st S9).st o0).st n0).st e0).st f0).st g0).st h0
 refine Ay h5 rfl rfl rfl (AJ rfl) (allOne rfl) fun t0 j0 h5=>?_
 replace h5:Lc 2 t0 x0 g1 26 [(.slice (some ⟨p0,0,none⟩) ([2]:List Int).length 1),(.slice (some ⟨q0,0,none⟩) ([0]:List Int).length 1),(.slice (some ⟨g6,0,none⟩) [(⟨0,0⟩:Fct)].length 1),(.slice (some ⟨r0,0,none⟩) [(⟨(⟨#[108,105,103,104,116]⟩:ByteArray),3,[(⟨0,0⟩:Fct)],[(⟨0,1⟩:Fct)],([]:List Fct),[(⟨0,1⟩:Fct)],[(⟨0,0⟩:Fct)]⟩:Job)].length 1)]:=h5
 refine o_z ?_
 refine AB ?_
 replace b0:=((((b0.st e0).st f0).st g0).st h0).st j0
 obtain ⟨h1,k0,b0⟩:=b0.freeze
 replace c0:=((((c0.st f0).st g0).st h0).st j0).st k0
 obtain ⟨i1,l0,c0⟩:=c0.freeze
 replace i0:=((i0.st j0).st k0).st l0
 obtain ⟨y0,m0,i0⟩:=i0.freeze
 obtain rfl:=sm hm
 replace hB:=(((((((((((hB.st S4).st S9).st o0).st n0).st e0).st f0).st g0).st h0).st j0).st k0).st l0).st m0
 replace h5:=((h5.st k0).st l0).st m0
 replace a0:=((((a0.st h0).st j0).st k0).st l0).st m0
 replace b0:=(b0.st l0).st m0
 replace c0:=c0.st m0
 exact ret1v rfl (FA (cs:=[(.slice (some ⟨p0,0,none⟩) ([2]:List Int).length 1),(.slice (some ⟨q0,0,none⟩) ([0]:List Int).length 1),(.slice (some ⟨g6,0,none⟩) [(⟨0,0⟩:Fct)].length 1),(.slice (some ⟨r0,0,none⟩) [(⟨(⟨#[108,105,103,104,116]⟩:ByteArray),3,[(⟨0,0⟩:Fct)],[(⟨0,1⟩:Fct)],([]:List Fct),[(⟨0,1⟩:Fct)],[(⟨0,0⟩:Fct)]⟩:Job)].length 1)]) rfl rfl h5.1.cellsAt) ⟨hB.ext,(Vb.mono (F:=Fr 0 t0 y0) (Vb.ofAgg (cs:=[(.slice (some ⟨p0,0,none⟩) ([2]:List Int).length 1),(.slice (some ⟨q0,0,none⟩) ([0]:List Int).length 1),(.slice (some ⟨g6,0,none⟩) [(⟨0,0⟩:Fct)].length 1),(.slice (some ⟨r0,0,none⟩) [(⟨(⟨#[108,105,103,104,116]⟩:ByteArray),3,[(⟨0,0⟩:Fct)],[(⟨0,1⟩:Fct)],([]:List Fct),[(⟨0,1⟩:Fct)],[(⟨0,0⟩:Fct)]⟩:Job)].length 1)]) (x:=(⟨([2]:List Int),([0]:List Int),[(⟨0,0⟩:Fct)],[(⟨(⟨#[108,105,103,104,116]⟩:ByteArray),3,[(⟨0,0⟩:Fct)],[(⟨0,1⟩:Fct)],([]:List Fct),[(⟨0,1⟩:Fct)],[(⟨0,0⟩:Fct)]⟩:Job)]⟩:Tpl)) rfl ⟨_,_,_,_,rfl,b0,c0,a0,i0⟩) hB.out)⟩
noncomputable def Ea  : Option Bool :=
  bnd (ER) fun q1=>bnd (Ce q1) fun q25=>bnd (ER) fun q61=>bnd (CG q61 [(⟨0,0⟩:Lch)]) fun q93=>bnd (if q25.2.n=0 then (if q93.2.n=0 then (bnd (FU q25.1.vars ([2,5,2,2,2,3]:List Int)) fun q119=>if q119=true then bnd (FU q93.1 ([0,2,6,7,2,5,7,2,4,7,1]:List Int)) fun q132=>if q132=true then some true else some false else some false) else (some false)) else (some false):Option Bool) fun y107=>some y107
theorem IF {w:World} {A:Nat→Prop} (hA:∀ k,A k→k < w.heap.size)  {r:Bool} (hm:Ea  = some r) :
    Fn Tryz.prog 10 [] w fun v w'=>Ext w w'∧Vb w' (upA A w w') v r:=by
 obtain ⟨O,hB,e4⟩:=enter hA
 refine AD Tryz.func10 rfl Tryz.ntmps10 rfl ?_
 unfold Ea at hm
 refine Ab (Aa (Al rfl rfl (o_z ?_)))
 refine Ab (Aa ?_)
 obtain ⟨q1,e2,hm⟩:=bs hm
 refine Cc (O:=O) (R:=fun w' F v=>Vb w' F v q1) (Jc Fr.lt  e2) rfl rfl fun v7 w3 O4 S5 h6=>?_
 obtain ⟨f4,rfl,v9,g4,h4,i4,rfl,p1,r1,s1,t1⟩:=h6
 obtain ⟨v1,w1,rfl⟩:=p1.form
 obtain ⟨x1,y1,rfl⟩:=r1.form
 obtain ⟨z1,a2,rfl⟩:=s1.form
 obtain ⟨b2,c2,rfl⟩:=t1.form
 obtain ⟨q0,d2,hm⟩:=bs hm
 refine Cc (O:=O4) (R:=fun w' F v=>T2 w' F v q0) (FQ Fr.lt (Vb.ofAgg (cs:=[(.slice v1 q1.vars.length w1),(.slice x1 q1.init.length y1),(.slice z1 q1.goal.length a2),(.slice b2 q1.jobs.length c2)]) (x:=q1) rfl ⟨_,_,_,_,rfl,p1,r1,s1,t1⟩) d2) rfl rfl fun j4 k4 f2 o0 g2=>?_
 obtain ⟨l4,m4,rfl,h2,i2⟩:=g2
 obtain ⟨j2,rfl,n4,o4,p4,q4,rfl,z0,k2,l2,m2⟩:=h2
 obtain ⟨n2,o2,rfl⟩:=z0.form
 obtain ⟨p2,q2,rfl⟩:=k2.form
 obtain ⟨r2,s2,rfl⟩:=l2.form
 obtain ⟨t2,u2,rfl⟩:=m2.form
 obtain ⟨rfl,r4⟩:=i2.err
 refine Aj rfl rfl (DH rfl rfl rfl (DH rfl rfl rfl (AS 2 f2 rfl fun v2 s4 u1 i0 j0=>?_)))
 refine Ay j0 rfl rfl rfl (AJ rfl) (allOne rfl) fun w2 k0 j0=>?_
 replace j0:Lc 2 w2 u1 v2 31 [(.slice n2 q0.1.vars.length o2),(.slice p2 q0.1.init.length q2),(.slice r2 q0.1.goal.length s2),(.slice t2 q0.1.ops.length u2)]:=j0
 refine Al rfl rfl (o_z ?_)
 refine Ab (Aa ?_)
 obtain ⟨p0,x2,hm⟩:=bs hm
 refine Cc (O:=u1) (R:=fun w' F v=>Vb w' F v p0) (Jc Fr.lt  x2) rfl rfl fun t4 u4 y2 g0 z2=>?_
 obtain ⟨a3,rfl,v4,w4,x4,y4,rfl,a1,b1,c1,d1⟩:=z2
 obtain ⟨b3,c3,rfl⟩:=a1.form
 obtain ⟨d3,e3,rfl⟩:=b1.form
 obtain ⟨f3,g3,rfl⟩:=c1.form
 obtain ⟨h3,i3,rfl⟩:=d1.form
 refine DY rfl rfl rfl ?_
 refine AL 3 (by decide) y2 (xs:=([(⟨0,0⟩:Lch)]:List Lch)) rfl rfl rfl rfl ⟨(Vb.ofAgg (cs:=[(.int .i64 0),(.int .i64 0)]) (x:=(⟨0,0⟩:Lch)) rfl ⟨rfl,(show inI64 0 from by decide),(show inI64 0 from by decide)⟩),trivial⟩ (by decide) (by decide) rfl fun z4 a5 b5 b0 e1=>?_
 obtain ⟨j3,c0,e1⟩:=e1.freeze
 obtain ⟨k3,l3,hm⟩:=bs hm
 replace a1:=(a1.st b0).st c0
 replace b1:=(b1.st b0).st c0
 replace c1:=(c1.st b0).st c0
 replace d1:=(d1.st b0).st c0
 refine Cc (O:=j3) (R:=fun w' F v=>T2 w' F v k3) (Ij Fr.lt (Vb.ofAgg (cs:=[(.slice b3 p0.vars.length c3),(.slice d3 p0.init.length e3),(.slice f3 p0.goal.length g3),(.slice h3 p0.jobs.length i3)]) (x:=p0) rfl ⟨_,_,_,_,rfl,a1,b1,c1,d1⟩) e1 l3) rfl rfl fun c5 d5 m3 h0 n3=>?_
 obtain ⟨o3,p3,rfl,e0,f1⟩:=n3
 obtain ⟨q3,r3,rfl⟩:=e0.form
 obtain ⟨rfl,s3⟩:=f1.err
 refine Aj rfl rfl (DH rfl rfl rfl (DH rfl rfl rfl (Al rfl rfl (Al rfl rfl (o_z ?_)))))
 refine Ab ?_
 obtain ⟨g1,a0,hm⟩:=bs hm
 refine Ax (fun l' w'=>∃ (h1:Unit) (O':Lab),subs l' [(0,(.bool g1))]∧Bs w A w' O') ?_ ?_
 ·
  refine Aa (Aj rfl rfl (MM rfl rfl (fun l0=>?_) fun l0=>?_))
  ·
   replace a0:=ip a0 l0
   refine Aj rfl rfl (Am rfl rfl (Aj rfl rfl (Am rfl rfl (MM rfl rfl (fun m0=>?_) fun m0=>?_))))
   ·
    replace a0:=ip a0 m0
    refine Bv rfl rfl rfl (Aj rfl rfl (Am rfl rfl (AA rfl rfl (Am rfl rfl ?_))))
    replace j0:=(((j0.st g0).st b0).st c0).st h0
    refine Aw (hc:=Blk.cell (i:=0) (j0.1) rfl) rfl rfl ?_
    refine Am rfl rfl (AL 4 (by decide) m3 (xs:=(([2,5,2,2,2,3]:List Int):List Int)) rfl rfl rfl rfl ⟨(vInt (show inI64 (2) from by decide)),(vInt (show inI64 (5) from by decide)),(vInt (show inI64 (2) from by decide)),(vInt (show inI64 (2) from by decide)),(vInt (show inI64 (2) from by decide)),(vInt (show inI64 (3) from by decide)),trivial⟩ (by decide) (by decide) rfl fun t3 r0 s0 d0 i1=>?_)
    refine Am rfl rfl ?_
    obtain ⟨t0,j1,a0⟩:=bs a0
    replace z0:=((((((z0.st i0).st k0).st g0).st b0).st c0).st h0).st d0
    refine AF (O:=s0) (A:=All r0) (R:=fun w' F v=>Vb w' F v t0) (JH (fun _ h=>h) (Vb.mono (F:=Fr 0 r0 s0) z0 Fr.lt) (i1).all j1) rfl rfl fun u3 v3 k1 f0 l1=>?_
    obtain rfl:=l1.bool
    cases t0
    case false =>
     replace a0:=iF a0
     refine Bv rfl rfl rfl (Aj rfl rfl (Ak rfl rfl rfl rfl (Ak rfl rfl rfl rfl (Ak rfl rfl rfl rfl (Bg rfl rfl rfl (Al rfl rfl (o_z ?_)))))))
     obtain rfl:=sm a0
     exact ⟨(),_,⟨rfl,trivial⟩,(((((((((hB.st S5).st o0).st i0).st k0).st g0).st b0).st c0).st h0).st d0).st f0⟩
    replace a0:=iT a0
    refine Bv rfl rfl rfl (Aj rfl rfl (Am rfl rfl (Aj rfl rfl (Am rfl rfl (AL 5 (by decide) k1 (xs:=(([0,2,6,7,2,5,7,2,4,7,1]:List Int):List Int)) rfl rfl rfl rfl ⟨(vInt (show inI64 (0) from by decide)),(vInt (show inI64 (2) from by decide)),(vInt (show inI64 (6) from by decide)),(vInt (show inI64 (7) from by decide)),(vInt (show inI64 (2) from by decide)),(vInt (show inI64 (5) from by decide)),(vInt (show inI64 (7) from by decide)),(vInt (show inI64 (2) from by decide)),(vInt (show inI64 (4) from by decide)),(vInt (show inI64 (7) from by decide)),(vInt (show inI64 (1) from by decide)),trivial⟩ (by decide) (by decide) rfl fun x3 u0 v0 n0 m1=>?_)))))
    refine Am rfl rfl ?_
    obtain ⟨w0,n1,a0⟩:=bs a0
    replace e0:=((e0.st d0).st f0).st n0
    refine AF (O:=v0) (A:=All u0) (R:=fun w' F v=>Vb w' F v w0) (JH (fun _ h=>h) (Vb.mono (F:=Fr 0 u0 v0) e0 Fr.lt) (m1).all n1) rfl rfl fun y3 z3 a4 x0 o1=>?_
    obtain rfl:=o1.bool
    cases w0
    case false =>
     replace a0:=iF a0
     refine Bv rfl rfl rfl (Al rfl rfl (o_z ?_))
     obtain rfl:=sm a0
     exact ⟨(),_,⟨rfl,trivial⟩,(((((((((((hB.st S5).st o0).st i0).st k0).st g0).st b0).st c0).st h0).st d0).st f0).st n0).st x0⟩
    replace a0:=iT a0
    refine Bv rfl rfl rfl (Al rfl rfl (o_z ?_))
    obtain rfl:=sm a0
    exact ⟨(),_,⟨rfl,trivial⟩,(((((((((((hB.st S5).st o0).st i0).st k0).st g0).st b0).st c0).st h0).st d0).st f0).st n0).st x0⟩
   replace a0:=im a0 m0
   refine Bv rfl rfl rfl (Aj rfl rfl (Ak rfl rfl rfl rfl (Ak rfl rfl rfl rfl (Ak rfl rfl rfl rfl (Ak rfl rfl rfl rfl (Bg rfl rfl rfl (Aj rfl rfl (Ak rfl rfl rfl rfl (Ak rfl rfl rfl rfl (Ak rfl rfl rfl rfl (Bg rfl rfl rfl (Al rfl rfl (o_z ?_)))))))))))))
   obtain rfl:=sm a0
   exact ⟨(),_,⟨rfl,trivial⟩,(((((((hB.st S5).st o0).st i0).st k0).st g0).st b0).st c0).st h0⟩
  replace a0:=im a0 l0
  refine Aj rfl rfl (Ak rfl rfl rfl rfl (Ak rfl rfl rfl rfl (Bg rfl rfl rfl (Aj rfl rfl (Ak rfl rfl rfl rfl (Ak rfl rfl rfl rfl (Ak rfl rfl rfl rfl (Ak rfl rfl rfl rfl (Bg rfl rfl rfl (Aj rfl rfl (Ak rfl rfl rfl rfl (Ak rfl rfl rfl rfl (Ak rfl rfl rfl rfl (Bg rfl rfl rfl ?_))))))))))))))
  refine Al rfl rfl (o_z ?_)
  obtain rfl:=sm a0
  exact ⟨(),_,⟨rfl,trivial⟩,(((((((hB.st S5).st o0).st i0).st k0).st g0).st b0).st c0).st h0⟩
 replace hB:=(((((((hB.st S5).st o0).st i0).st k0).st g0).st b0).st c0).st h0
 rintro b4 c4 ⟨h1,d4,y0,hB⟩
 refine AC _ y0 ?_
 refine AB ?_
 obtain rfl:=sm hm
 exact ret1v rfl (Au rfl) ⟨hB.ext,vBool⟩
noncomputable def FV (x0:Tpl) (x1:List Lch):Option Bool :=
  bnd (if 70 < (x0.vars.length:Int) then (some true) else (if 30 < (x0.jobs.length:Int) then (some true) else (if 12 < (x1.length:Int) then (some true) else (if 80 < (x0.goal.length:Int) then (some true) else (some false)))):Option Bool) fun y27=>if y27=true then (some false) else (bnd (rng (ρ:=Bool) (fun (k54:Nat) (a55:Job) (s52:Unit)=>bnd (if 100 < (wr ((wr ((wr ((wr ((a55.start.length:Int) + (a55.over.length:Int))) + (a55.fin.length:Int))) + (a55.atStart.length:Int))) + (a55.atEnd.length:Int))) then (some true) else (if 300 < (a55.name.size:Int) then (some true) else (some false)):Option Bool) fun y101=>if y101=true then (some (.ret false)) else (some (.next ()))) x0.jobs 0 ()) fun res50=>fin res50 fun (s127:Unit)=>some true)
theorem Mk {w:World} {A:Nat→Prop} (hA:∀ k,A k→k < w.heap.size) {vx0:Value} {x0:Tpl} (f1:Vb w A vx0 x0) {vx1:Value} {x1:List Lch} (m0:Vb w A vx1 x1) {r:Bool} (hm:FV x0 x1=some r) :
    Fn Tryz.prog 11 [vx0,vx1] w fun v w'=>Ext w w'∧Vb w' (upA A w w') v r:=by
 obtain ⟨O,hB,g2⟩:=enter hA
 replace f1:=f1.mono g2
 obtain ⟨w3,rfl,v4,v5,v6,v7,rfl,h8,l0,h0,d0⟩:=f1
 obtain ⟨A9,g1,rfl⟩:=h8.form
 obtain ⟨h1,i1,rfl⟩:=l0.form
 obtain ⟨j1,k1,rfl⟩:=h0.form
 obtain ⟨n0,o0,rfl⟩:=d0.form
 replace m0:=m0.mono g2
 obtain ⟨x3,y3,rfl⟩:=m0.form
 refine AD Tryz.func11 rfl Tryz.ntmps11 rfl ?_
 unfold FV at hm
 refine Ab (Aa (BX 2 O rfl rfl fun l1 i2 j2 e0 j0=>?_))
 replace j0:Lc 2 i2 j2 l1 26 [(.slice A9 x0.vars.length g1),(.slice h1 x0.init.length i1),(.slice j1 x0.goal.length k1),(.slice n0 x0.jobs.length o0)]:=j0
 refine Al rfl rfl (o_z ?_)
 refine Ab (Ab ?_)
 obtain ⟨k2,a0,hm⟩:=bs hm
 refine Ax (fun l' w'=>∃ (l2:Unit) (O':Lab),subs l' [(2,(.pointer (some ⟨l1,0,none⟩))),(27,(.bool k2))]∧Bs w A w' O'∧Lc 2 w' O' l1 26 [(.slice A9 x0.vars.length g1),(.slice h1 x0.init.length i1),(.slice j1 x0.goal.length k1),(.slice n0 x0.jobs.length o0)]∧Vb w' (Fr 0 w' O') (.slice A9 x0.vars.length g1) x0.vars∧Vb w' (Fr 0 w' O') (.slice h1 x0.init.length i1) x0.init∧Vb w' (Fr 0 w' O') (.slice j1 x0.goal.length k1) x0.goal∧Vb w' (Fr 0 w' O') (.slice n0 x0.jobs.length o0) x0.jobs) ?_ ?_
 ·
  refine Aa (AA rfl rfl (Aw (hc:=Blk.cell (i:=0) (j0.1) rfl) rfl rfl ?_))
  refine AT rfl rfl ?_
  replace h8:=h8.st e0
  have m2:x0.vars.length≤9223372036854775807:=Nat.le_trans h8.len.2.1 h8.len.2.2
  have z3:inI64 (x0.vars.length:Int):=rngNat m2
  refine CK rfl rfl rfl (fun m1=>?_) fun m1=>?_
  ·
   replace a0:=ip a0 m1
   refine Aj rfl rfl (Ak rfl rfl rfl rfl (Ak rfl rfl rfl rfl (Ak rfl rfl rfl rfl (Ak rfl rfl rfl rfl (Bv rfl rfl rfl (Aj rfl rfl (Ak rfl rfl rfl rfl (Ak rfl rfl rfl rfl (Ak rfl rfl rfl rfl (Bv rfl rfl rfl (Aj rfl rfl (Ak rfl rfl rfl rfl (Ak rfl rfl rfl rfl (Ak rfl rfl rfl rfl ?_))))))))))))))
   refine Ak rfl rfl rfl rfl (Bv rfl rfl rfl (o_z ?_))
   obtain rfl:=sm a0
   exact ⟨(),_,⟨rfl,rfl,trivial⟩,hB.st e0,j0,h8,l0.st e0,h0.st e0,d0.st e0⟩
  replace a0:=im a0 m1
  refine Aj rfl rfl (Am rfl rfl (AA rfl rfl (Am rfl rfl (Aw (hc:=Blk.cell (i:=3) (j0.1) rfl) rfl rfl ?_))))
  refine Am rfl rfl (AT rfl rfl ?_)
  replace d0:=d0.st e0
  have n2:x0.jobs.length≤9223372036854775807:=Nat.le_trans d0.len.2.1 d0.len.2.2
  have a4:inI64 (x0.jobs.length:Int):=rngNat n2
  refine Am rfl rfl (CK rfl rfl rfl (fun n1=>?_) fun n1=>?_)
  ·
   replace a0:=ip a0 n1
   refine Bg rfl rfl rfl (Aj rfl rfl (Ak rfl rfl rfl rfl (Ak rfl rfl rfl rfl (Ak rfl rfl rfl rfl (Bv rfl rfl rfl (Aj rfl rfl (Ak rfl rfl rfl rfl (Ak rfl rfl rfl rfl (Ak rfl rfl rfl rfl (Ak rfl rfl rfl rfl (Bv rfl rfl rfl (o_z ?_))))))))))))
   obtain rfl:=sm a0
   exact ⟨(),_,⟨rfl,rfl,trivial⟩,hB.st e0,j0,h8,l0.st e0,h0.st e0,d0⟩
  replace a0:=im a0 n1
  refine Bg rfl rfl rfl (Aj rfl rfl (Am rfl rfl (Aj rfl rfl (Am rfl rfl (AT rfl rfl ?_)))))
  replace m0:=m0.st e0
  have o2:x1.length≤9223372036854775807:=Nat.le_trans m0.len.2.1 m0.len.2.2
  have b4:inI64 (x1.length:Int):=rngNat o2
  refine Am rfl rfl (CK rfl rfl rfl (fun o1=>?_) fun o1=>?_)
  ·
   replace a0:=ip a0 o1
   refine Bg rfl rfl rfl (Aj rfl rfl (Ak rfl rfl rfl rfl (Ak rfl rfl rfl rfl (Ak rfl rfl rfl rfl (Ak rfl rfl rfl rfl (Bv rfl rfl rfl (o_z ?_)))))))
   obtain rfl:=sm a0
   exact ⟨(),_,⟨rfl,rfl,trivial⟩,hB.st e0,j0,h8,l0.st e0,h0.st e0,d0⟩
  replace a0:=im a0 o1
  refine Bg rfl rfl rfl (Aj rfl rfl (Am rfl rfl (AA rfl rfl (Am rfl rfl (Aw (hc:=Blk.cell (i:=2) (j0.1) rfl) rfl rfl ?_)))))
  refine Am rfl rfl (AT rfl rfl ?_)
  replace h0:=h0.st e0
  have p2:x0.goal.length≤9223372036854775807:=Nat.le_trans h0.len.2.1 h0.len.2.2
  have c4:inI64 (x0.goal.length:Int):=rngNat p2
  refine Am rfl rfl (CK rfl rfl rfl (fun p1=>?_) fun p1=>?_)
  ·
   replace a0:=ip a0 p1
   refine Bg rfl rfl rfl (o_z ?_)
   obtain rfl:=sm a0
   exact ⟨(),_,⟨rfl,rfl,trivial⟩,hB.st e0,j0,h8,l0.st e0,h0,d0⟩
  replace a0:=im a0 p1
  refine Bg rfl rfl rfl (o_z ?_)
  obtain rfl:=sm a0
  exact ⟨(),_,⟨rfl,rfl,trivial⟩,hB.st e0,j0,h8,l0.st e0,h0,d0⟩
 replace hB:=hB.st e0
 replace h8:=h8.st e0
 replace l0:=l0.st e0
 replace h0:=h0.st e0
 replace d0:=d0.st e0
 rintro d4 e4 ⟨l2,q2,q1,hB,j0,h8,l0,h0,d0⟩
 refine AC _ q1 ?_
 refine CB rfl (fun r1=>?_) (fun r1=>?_)
 ·
  replace hm:=ip hm r1
  refine Ab (Aa (Al rfl rfl (o_z ?_)))
  refine AB ?_
  obtain rfl:=sm hm
  exact ret1v rfl (Au rfl) ⟨hB.ext,vBool⟩
 replace hm:=im' hm r1
 refine AQ (Ab (Ab (Aa (AA rfl rfl (Aw (hc:=Blk.cell (i:=3) (j0.1) rfl) rfl rfl ?_)))))
 refine AT rfl rfl ?_
 have s1:x0.jobs.length≤9223372036854775807:=Nat.le_trans d0.len.2.1 d0.len.2.2
 have f4:inI64 (x0.jobs.length:Int):=rngNat s1
 refine Aj rfl rfl (o_z ?_)
 obtain ⟨t0,t1,hm⟩:=bs hm
 refine Ax (aft t0 (fun (d1:Unit) (e1:Unit)=>[]) (fun d1 e1 w'=>∃ O':Lab,Bs w A w' O')) ?_ ?_
 ·
  refine AN (Bn (σ:=Unit) (X:=Unit) (x0.jobs.length) t1 rfl s1 (fun (d1:Unit) (e1:Unit)=>[(29,(.slice n0 x0.jobs.length o0))]) _ (fun d1 e1 w'=>∃ O':Lab,Bs w A w' O'∧Vb w' (Fr 0 w' O') (.slice n0 x0.jobs.length o0) x0.jobs) _ () ⟨q2,hB,d0⟩ ⟨rfl,rfl,rfl,trivial⟩ (fun _ _=>⟨rfl,rfl⟩) (fun _ _=>trivial) (fun _ _ _ ⟨O',hB,d0⟩=>⟨O',hB⟩) ⟨rfl,rfl,rfl⟩ ⟨rfl,rfl⟩ ?_)
  rintro h2 f0 d1 e1 g4 r2 u0 ⟨s2,hB,d0⟩ g0 p0 u1
  have rk54:inI64 (h2:Int):=rngK u0 s1
  refine Ab (Aa ?_)
  obtain ⟨h4,i4,t2,v1,w1,y1,j4,k4,l4,m4,n4,rfl,v0,w0,y0,z0,a1,u2,o4⟩:=d0.elem' u0
  obtain ⟨v2,w2,rfl⟩:=v0.form
  obtain ⟨x2,y2,rfl⟩:=w0.form
  obtain ⟨z2,a3,rfl⟩:=y0.form
  obtain ⟨b3,c3,rfl⟩:=z0.form
  obtain ⟨d3,e3,rfl⟩:=a1.form
  refine Bz (hA:=v1) (hj:=rfl) (hlt:=w1) rfl rfl rfl ?_
  refine Bp (hl:=rfl) (hc:=y1) rfl rfl ?_
  refine AS 3 s2 rfl fun f3 p4 g3 i0 k0=>?_
  refine Ay k0 rfl rfl rfl (AJ rfl) (allOne rfl) fun h3 c0 k0=>?_
  replace k0:Lc 3 h3 g3 f3 66 [(.string f0.name),(.int .i64 f0.dur),(.slice v2 f0.start.length w2),(.slice x2 f0.over.length y2),(.slice z2 f0.fin.length a3),(.slice b3 f0.atStart.length c3),(.slice d3 f0.atEnd.length e3)]:=k0
  refine o_z ?_
  refine Ab ?_
  obtain ⟨z1,b0,g0⟩:=bs g0
  refine Ax (fun l' w'=>∃ (a2:Unit) (O':Lab),subs l' [(29,(.slice n0 x0.jobs.length o0)),(30,(.int .i64 (x0.jobs.length:Int))),(31,(.int .i64 (h2:Int))),(60,(.bool z1))]∧Bs w A w' O'∧Vb w' (Fr 0 w' O') (.slice n0 x0.jobs.length o0) x0.jobs) ?_ ?_
  ·
   refine Aa (AA rfl rfl (Aw (hc:=Blk.cell (i:=2) (k0.1) rfl) rfl rfl ?_))
   refine AT rfl rfl ?_
   replace v0:=(v0.st i0).st c0
   have b2:f0.start.length≤9223372036854775807:=Nat.le_trans v0.len.2.1 v0.len.2.2
   have i3:inI64 (f0.start.length:Int):=rngNat b2
   refine AA rfl rfl (Aw (hc:=Blk.cell (i:=3) (k0.1) rfl) rfl rfl ?_)
   refine AT rfl rfl ?_
   replace w0:=(w0.st i0).st c0
   have c2:f0.over.length≤9223372036854775807:=Nat.le_trans w0.len.2.1 w0.len.2.2
   have j3:inI64 (f0.over.length:Int):=rngNat c2
   refine Lw rfl rfl rfl ?_
   refine AA rfl rfl (Aw (hc:=Blk.cell (i:=4) (k0.1) rfl) rfl rfl ?_)
   refine AT rfl rfl ?_
   replace y0:=(y0.st i0).st c0
   have d2:f0.fin.length≤9223372036854775807:=Nat.le_trans y0.len.2.1 y0.len.2.2
   have k3:inI64 (f0.fin.length:Int):=rngNat d2
   refine Lw rfl rfl rfl ?_
   refine AA rfl rfl (Aw (hc:=Blk.cell (i:=5) (k0.1) rfl) rfl rfl ?_)
   refine AT rfl rfl ?_
   replace z0:=(z0.st i0).st c0
   have e2:f0.atStart.length≤9223372036854775807:=Nat.le_trans z0.len.2.1 z0.len.2.2
   have l3:inI64 (f0.atStart.length:Int):=rngNat e2
   refine Lw rfl rfl rfl ?_
   refine AA rfl rfl (Aw (hc:=Blk.cell (i:=6) (k0.1) rfl) rfl rfl ?_)
   refine AT rfl rfl ?_
   replace a1:=(a1.st i0).st c0
   have f2:f0.atEnd.length≤9223372036854775807:=Nat.le_trans a1.len.2.1 a1.len.2.2
   have m3:inI64 (f0.atEnd.length:Int):=rngNat f2
   refine Lw rfl rfl rfl ?_
   refine CK rfl rfl rfl (fun q0=>?_) fun q0=>?_
   ·
    replace b0:=ip b0 q0
    refine Aj rfl rfl (Ak rfl rfl rfl rfl (Ak rfl rfl rfl rfl (Ak rfl rfl rfl rfl (Ak rfl rfl rfl rfl (Bv rfl rfl rfl (o_z ?_))))))
    obtain rfl:=sm b0
    exact ⟨(),_,⟨rfl,rfl,rfl,rfl,trivial⟩,(hB.st i0).st c0,(d0.st i0).st c0⟩
   replace b0:=im b0 q0
   refine Aj rfl rfl (Am rfl rfl (AA rfl rfl (Am rfl rfl (Aw (hc:=Blk.cell (i:=0) (k0.1) rfl) rfl rfl ?_))))
   refine Am rfl rfl (KG rfl rfl ?_)
   have n3:inI64 (f0.name.size:Int):=rngNat u2
   refine Am rfl rfl (CK rfl rfl rfl (fun r0=>?_) fun r0=>?_)
   ·
    replace b0:=ip b0 r0
    refine Bg rfl rfl rfl (o_z ?_)
    obtain rfl:=sm b0
    exact ⟨(),_,⟨rfl,rfl,rfl,rfl,trivial⟩,(hB.st i0).st c0,(d0.st i0).st c0⟩
   replace b0:=im b0 r0
   refine Bg rfl rfl rfl (o_z ?_)
   obtain rfl:=sm b0
   exact ⟨(),_,⟨rfl,rfl,rfl,rfl,trivial⟩,(hB.st i0).st c0,(d0.st i0).st c0⟩
  replace hB:=(hB.st i0).st c0
  replace d0:=(d0.st i0).st c0
  rintro o3 p3 ⟨a2,q3,b1,hB,d0⟩
  refine AC _ b1 ?_
  refine CB rfl (fun s0=>?_) (fun s0=>?_)
  ·
   replace g0:=ip g0 s0
   refine Ab (Aa (Al rfl rfl (o_z ?_)))
   refine AB ?_
   obtain rfl:=sm g0
   obtain rfl:=p0 _ rfl
   obtain rfl:=sm (Cq hm)
   exact ret1v rfl (Au rfl) ⟨hB.ext,vBool⟩
  replace g0:=im' g0 s0
  refine AQ ?_
  obtain rfl:=sm g0
  exact show Exists _ from ⟨_,(),rfl,⟨rfl,rfl,rfl,trivial⟩,_,hB,d0⟩
 rintro r3 s3 ⟨t3,u3,rfl,c1,v3,hB⟩
 replace hm:=AX hm
 refine AC _ c1 ?_
 refine Ab (Aa (Al rfl rfl (o_z ?_)))
 refine AB ?_
 obtain rfl:=sm hm
 exact ret1v rfl (Au rfl) ⟨hB.ext,vBool⟩
noncomputable def Ej (x0:Tpl):Option Bool :=
  bnd (bnd (Ea) fun q28=>if q28=true then bnd (FV x0 ([]:List Lch)) fun q35=>if q35=true then bnd (Cu x0) fun q42=>if q42.n≠0 then (some true) else (some false) else some true else some true:Option Bool) fun y24=>if y24=true then (bnd (bnd (Ea) fun q60=>if q60=true then some true else some false:Option Bool) fun y56=>some y56) else (bnd (Ce (⟨x0.vars,x0.init,x0.goal,([]:List Job)⟩:Tpl)) fun q73=>if q73.2.n≠0 then (bnd (bnd (HP (⟨q73.2.n⟩:Err) 5) fun q114=>if q114=true then if 64≤(x0.vars.length:Int) then (some true) else (some false) else some false:Option Bool) fun y110=>some y110) else (bnd (CG (⟨x0.vars,x0.init,x0.goal,([]:List Job)⟩:Tpl) ([]:List Lch)) fun q128=>bnd (bnd (Es x0.goal x0.init) fun q146=>if q146=true then some true else some false:Option Bool) fun y142=>bnd (GR q73.1 q73.1.init ([]:List Int)) fun q157=>bnd (if (q73.1.ops.length:Int)=0 then (bnd (chkI ((x0.vars.length:Int) + 1)) fun n180=>if (q73.1.vars.length:Int)=n180 then (if (q128.1.length:Int)=0 then (if q128.2.n=0 then (if y142=true then (if q157.2=true then (if q157.1=0 then (some true) else (some false)) else (some false)) else (some false)) else (if y142=true then (some false) else (if q157.2=true then (some false) else (if q157.1=0 then (some true) else (some false))))) else (some false)) else (some false)) else (some false):Option Bool) fun y169=>some y169))
theorem Iy {w:World} {A:Nat→Prop} (hA:∀ k,A k→k < w.heap.size) {vx0:Value} {x0:Tpl} (w2:Vb w A vx0 x0) {r:Bool} (hm:Ej x0=some r) :
    Fn Tryz.prog 4 [vx0] w fun v w'=>Ext w w'∧Vb w' (upA A w w') v r:=by
 obtain ⟨O,hB,j4⟩:=enter hA
 replace w2:=w2.mono j4
 obtain ⟨m6,rfl,v3,v4,v5,v6,rfl,h7,k0,l0,s0⟩:=w2
 obtain ⟨A8,c9,rfl⟩:=h7.form
 obtain ⟨f1,g1,rfl⟩:=k0.form
 obtain ⟨h1,i1,rfl⟩:=l0.form
 obtain ⟨e2,f2,rfl⟩:=s0.form
 refine AD Tryz.func4 rfl Tryz.ntmps4 rfl ?_
 unfold Ej at hm
 refine Ab (Aa (BX 2 O rfl rfl fun d2 z3 a4 o0 i0=>?_))
 replace i0:Lc 2 z3 a4 d2 26 [(.slice A8 x0.vars.length c9),(.slice f1 x0.init.length g1),(.slice h1 x0.goal.length i1),(.slice e2 x0.jobs.length f2)]:=i0
 refine Al rfl rfl (o_z ?_)
 refine Ab (Ab ?_)
 obtain ⟨k4,e0,hm⟩:=bs hm
 refine Ax (fun l' w'=>∃ (l4:Unit) (O':Lab),subs l' [(1,(.pointer (some ⟨d2,0,none⟩))),(21,(.bool k4))]∧Bs w A w' O'∧Lc 2 w' O' d2 26 [(.slice A8 x0.vars.length c9),(.slice f1 x0.init.length g1),(.slice h1 x0.goal.length i1),(.slice e2 x0.jobs.length f2)]∧Vb w' (Fr 0 w' O') (.slice A8 x0.vars.length c9) x0.vars∧Vb w' (Fr 0 w' O') (.slice f1 x0.init.length g1) x0.init∧Vb w' (Fr 0 w' O') (.slice h1 x0.goal.length i1) x0.goal∧Vb w' (Fr 0 w' O') (.slice e2 x0.jobs.length f2) x0.jobs) ?_ ?_
 ·
  refine Aa ?_
  obtain ⟨b4,m4,e0⟩:=bs e0
  refine AF (O:=a4) (A:=All z3) (R:=fun w' F v=>Vb w' F v b4) (IF (fun _ h=>h)  m4) rfl rfl fun n6 c4 d4 t0 n4=>?_
  obtain rfl:=n4.bool
  cases b4
  case false =>
   replace e0:=iF e0
   refine FC rfl rfl (Aj rfl rfl (Ak rfl rfl rfl rfl (Ak rfl rfl rfl rfl (Ak rfl rfl rfl rfl (Bv rfl rfl rfl (Aj rfl rfl (Ak rfl rfl rfl rfl (Ak rfl rfl rfl rfl (Ak rfl rfl rfl rfl (Bv rfl rfl rfl (o_z ?_)))))))))))
   obtain rfl:=sm e0
   exact ⟨(),_,⟨rfl,rfl,trivial⟩,(hB.st o0).st t0,i0.st t0,(h7.st o0).st t0,(k0.st o0).st t0,(l0.st o0).st t0,(s0.st o0).st t0⟩
  replace e0:=iT e0
  refine FB rfl rfl (Aj rfl rfl (Am rfl rfl ?_))
  replace i0:=i0.st t0
  refine Bp (hl:=rfl) (hc:=(i0.1).cellsAt) rfl rfl ?_
  refine Am rfl rfl ?_
  obtain ⟨e4,o4,e0⟩:=bs e0
  replace h7:=(h7.st o0).st t0
  replace k0:=(k0.st o0).st t0
  replace l0:=(l0.st o0).st t0
  replace s0:=(s0.st o0).st t0
  refine AF (O:=d4) (A:=All c4) (R:=fun w' F v=>Vb w' F v e4) (Mk (fun _ h=>h) (Vb.mono (F:=Fr 0 c4 d4) (Vb.ofAgg (cs:=[(.slice A8 x0.vars.length c9),(.slice f1 x0.init.length g1),(.slice h1 x0.goal.length i1),(.slice e2 x0.jobs.length f2)]) (x:=x0) rfl ⟨_,_,_,_,rfl,h7,k0,l0,s0⟩) Fr.lt) (Vb.nil _ _) o4) rfl rfl fun o6 f4 g4 u0 p4=>?_
  obtain rfl:=p4.bool
  cases e4
  case false =>
   replace e0:=iF e0
   refine Am rfl rfl (FC rfl rfl (Bg rfl rfl rfl (Aj rfl rfl (Ak rfl rfl rfl rfl (Ak rfl rfl rfl rfl (Ak rfl rfl rfl rfl (Bv rfl rfl rfl (o_z ?_))))))))
   obtain rfl:=sm e0
   exact ⟨(),_,⟨rfl,rfl,trivial⟩,((hB.st o0).st t0).st u0,i0.st u0,h7.st u0,k0.st u0,l0.st u0,s0.st u0⟩
  replace e0:=iT e0
  refine Am rfl rfl (FB rfl rfl (Bg rfl rfl rfl (Aj rfl rfl (Am rfl rfl ?_))))
  replace i0:=i0.st u0
  refine Bp (hl:=rfl) (hc:=(i0.1).cellsAt) rfl rfl ?_
  refine Am rfl rfl ?_
  obtain ⟨q4,r4,e0⟩:=bs e0
  replace h7:=h7.st u0
  replace k0:=k0.st u0
  replace l0:=l0.st u0
  replace s0:=s0.st u0
  refine AF (O:=g4) (A:=All f4) (R:=fun w' F v=>Vb w' F v q4) (Gi (fun _ h=>h) (Vb.mono (F:=Fr 0 f4 g4) (Vb.ofAgg (cs:=[(.slice A8 x0.vars.length c9),(.slice f1 x0.init.length g1),(.slice h1 x0.goal.length i1),(.slice e2 x0.jobs.length f2)]) (x:=x0) rfl ⟨_,_,_,_,rfl,h7,k0,l0,s0⟩) Fr.lt) r4) rfl rfl fun p6 q6 r6 w0 s4=>?_
  obtain ⟨rfl,s6⟩:=s4.err
  refine Am rfl rfl (GP rfl rfl (fun x2=>?_) fun x2=>?_)
  ·
   replace e0:=ip e0 x2
   refine Bg rfl rfl rfl (o_z ?_)
   obtain rfl:=sm e0
   exact ⟨(),_,⟨rfl,rfl,trivial⟩,(((hB.st o0).st t0).st u0).st w0,i0.st w0,h7.st w0,k0.st w0,l0.st w0,s0.st w0⟩
  replace e0:=im e0 x2
  refine Bg rfl rfl rfl (o_z ?_)
  obtain rfl:=sm e0
  exact ⟨(),_,⟨rfl,rfl,trivial⟩,(((hB.st o0).st t0).st u0).st w0,i0.st w0,h7.st w0,k0.st w0,l0.st w0,s0.st w0⟩
 replace hB:=hB.st o0
 replace h7:=h7.st o0
 replace k0:=k0.st o0
 replace l0:=l0.st o0
 replace s0:=s0.st o0
 rintro t6 t4 ⟨l4,y2,z2,hB,i0,h7,k0,l0,s0⟩
 refine AC _ z2 ?_
 refine CB rfl (fun a3=>?_) (fun a3=>?_)
 ·
  replace hm:=ip hm a3
  refine Ab ?_
  obtain ⟨u4,p0,hm⟩:=bs hm
  refine Ax (fun l' w'=>∃ (w4:Unit) (O':Lab),subs l' [(2,(.bool u4))]∧Bs w A w' O') ?_ ?_
  ·
   refine Aa ?_
   obtain ⟨h4,x4,p0⟩:=bs p0
   refine AF (O:=y2) (A:=All t4) (R:=fun w' F v=>Vb w' F v h4) (IF (fun _ h=>h)  x4) rfl rfl fun u6 w6 x6 i4 y4=>?_
   obtain rfl:=y4.bool
   cases h4
   case false =>
    replace p0:=iF p0
    refine Al rfl rfl (o_z ?_)
    obtain rfl:=sm p0
    exact ⟨(),_,⟨rfl,trivial⟩,hB.st i4⟩
   replace p0:=iT p0
   refine Al rfl rfl (o_z ?_)
   obtain rfl:=sm p0
   exact ⟨(),_,⟨rfl,trivial⟩,hB.st i4⟩
  rintro y6 z6 ⟨w4,a7,b3,hB⟩
  refine AC _ b3 ?_
  refine AB ?_
  obtain rfl:=sm hm
  exact ret1v rfl (Au rfl) ⟨hB.ext,vBool⟩
 replace hm:=im' hm a3
 refine AQ (Ab (Aa (AA rfl rfl (Ay i0 rfl rfl rfl (AJ rfl) (allOne rfl) fun z4 j1 i0=>?_))))
 replace i0:Lc 2 z4 y2 d2 26 [(.slice A8 x0.vars.length c9),(.slice f1 x0.init.length g1),(.slice h1 x0.goal.length i1),(.slice none 0 0)]:=i0
 refine o_z ?_
 refine Ab (Aa (Bp (hl:=rfl) (hc:=(i0.1).cellsAt) rfl rfl ?_))
 obtain ⟨m0,a5,hm⟩:=bs hm
 replace h7:=h7.st j1
 replace k0:=k0.st j1
 replace l0:=l0.st j1
 refine Cc (O:=y2) (R:=fun w' F v=>T2 w' F v m0) (FQ Fr.lt (Vb.ofAgg (cs:=[(.slice A8 x0.vars.length c9),(.slice f1 x0.init.length g1),(.slice h1 x0.goal.length i1),(.slice none 0 0)]) (x:=(⟨x0.vars,x0.init,x0.goal,([]:List Job)⟩:Tpl)) rfl ⟨_,_,_,_,rfl,h7,k0,l0,(Vb.nil _ _)⟩) a5) rfl rfl fun b7 c7 b5 v0 c5=>?_
 obtain ⟨d7,e7,rfl,d5,e5⟩:=c5
 obtain ⟨f5,rfl,f7,g7,i7,j7,rfl,y0,l1,m1,z0⟩:=d5
 obtain ⟨p2,q2,rfl⟩:=y0.form
 obtain ⟨r2,s2,rfl⟩:=l1.form
 obtain ⟨t2,u2,rfl⟩:=m1.form
 obtain ⟨v2,k1,rfl⟩:=z0.form
 obtain ⟨rfl,c3⟩:=e5.err
 refine Aj rfl rfl (DH rfl rfl rfl (DH rfl rfl rfl (AS 3 b5 rfl fun n1 g5 o1 c0 j0=>?_)))
 refine Ay j0 rfl rfl rfl (AJ rfl) (allOne rfl) fun g2 d0 j0=>?_
 replace j0:Lc 3 g2 o1 n1 31 [(.slice p2 m0.1.vars.length q2),(.slice r2 m0.1.init.length s2),(.slice t2 m0.1.goal.length u2),(.slice v2 m0.1.ops.length k1)]:=j0
 refine Al rfl rfl (o_z ?_)
 refine Ab (Ab (Aa (Aj rfl rfl (GP rfl rfl (fun p1=>?_) fun p1=>?_))))
 ·
  replace hm:=ip hm p1
  refine o_z ?_
  refine Ah rfl (Ab ?_)
  obtain ⟨d3,g0,hm⟩:=bs hm
  refine Ax (fun l' w'=>∃ (e3:Unit) (O':Lab),subs l' [(2,(.bool d3))]∧Bs w A w' O') ?_ ?_
  ·
   refine Aa (Aj rfl rfl ?_)
   obtain ⟨h2,f3,g0⟩:=bs g0
   refine AF (O:=o1) (A:=All g2) (R:=fun w' F v=>Vb w' F v h2) (No (fun _ h=>h) c3 (show inI64 (5) from by decide) f3) rfl rfl fun h5 i5 j5 a1 g3=>?_
   obtain rfl:=g3.bool
   cases h2
   case false =>
    replace g0:=iF g0
    refine Aj rfl rfl (Ak rfl rfl rfl rfl (Ak rfl rfl rfl rfl (Ak rfl rfl rfl rfl (Ak rfl rfl rfl rfl (Bg rfl rfl rfl (Al rfl rfl (o_z ?_)))))))
    obtain rfl:=sm g0
    exact ⟨(),_,⟨rfl,trivial⟩,((((hB.st j1).st v0).st c0).st d0).st a1⟩
   replace g0:=iT g0
   refine Aj rfl rfl (Am rfl rfl (AA rfl rfl (Am rfl rfl ?_)))
   replace i0:=(((i0.st v0).st c0).st d0).st a1
   refine Aw (hc:=Blk.cell (i:=0) (i0.1) rfl) rfl rfl ?_
   refine Am rfl rfl (AT rfl rfl ?_)
   replace h7:=(((h7.st v0).st c0).st d0).st a1
   have h3:x0.vars.length≤9223372036854775807:=Nat.le_trans h7.len.2.1 h7.len.2.2
   have k5:inI64 (x0.vars.length:Int):=rngNat h3
   refine Am rfl rfl (EM rfl rfl rfl (fun q1=>?_) fun q1=>?_)
   ·
    replace g0:=ip g0 q1
    refine Bv rfl rfl rfl (Al rfl rfl (o_z ?_))
    obtain rfl:=sm g0
    exact ⟨(),_,⟨rfl,trivial⟩,((((hB.st j1).st v0).st c0).st d0).st a1⟩
   replace g0:=im g0 q1
   refine Bv rfl rfl rfl (Al rfl rfl (o_z ?_))
   obtain rfl:=sm g0
   exact ⟨(),_,⟨rfl,trivial⟩,((((hB.st j1).st v0).st c0).st d0).st a1⟩
  replace hB:=(((hB.st j1).st v0).st c0).st d0
  rintro l5 m5 ⟨e3,n5,i2,hB⟩
  refine AC _ i2 ?_
  refine AB ?_
  obtain rfl:=sm hm
  exact ret1v rfl (Au rfl) ⟨hB.ext,vBool⟩
 replace hm:=im hm p1
 refine o_z ?_
 refine Ae rfl (AQ (Ab (Aa ?_)))
 replace i0:=((i0.st v0).st c0).st d0
 refine Bp (hl:=rfl) (hc:=(i0.1).cellsAt) rfl rfl ?_
 obtain ⟨r0,i3,hm⟩:=bs hm
 replace h7:=((h7.st v0).st c0).st d0
 replace k0:=((k0.st v0).st c0).st d0
 replace l0:=((l0.st v0).st c0).st d0
 refine Cc (O:=o1) (R:=fun w' F v=>T2 w' F v r0) (Ij Fr.lt (Vb.ofAgg (cs:=[(.slice A8 x0.vars.length c9),(.slice f1 x0.init.length g1),(.slice h1 x0.goal.length i1),(.slice none 0 0)]) (x:=(⟨x0.vars,x0.init,x0.goal,([]:List Job)⟩:Tpl)) rfl ⟨_,_,_,_,rfl,h7,k0,l0,(Vb.nil _ _)⟩) (Vb.nil _ _) i3) rfl rfl fun o5 r1 s1 b0 j3=>?_
 obtain ⟨p5,q5,rfl,q0,k3⟩:=j3
 obtain ⟨j2,k2,rfl⟩:=q0.form
 obtain ⟨rfl,r5⟩:=k3.err
 refine Aj rfl rfl (DH rfl rfl rfl (DH rfl rfl rfl (Al rfl rfl (Al rfl rfl (o_z ?_)))))
 refine Ab ?_
 obtain ⟨t1,n0,hm⟩:=bs hm
 refine Ax (fun l' w'=>∃ (l3:Unit) (O':Lab),subs l' [(1,(.pointer (some ⟨d2,0,none⟩))),(3,(.pointer (some ⟨n1,0,none⟩))),(5,(.slice j2 r0.1.length k2)),(6,(errV r0.2.n)),(7,(.bool t1))]∧Bs w A w' O'∧Lc 2 w' O' d2 26 [(.slice A8 x0.vars.length c9),(.slice f1 x0.init.length g1),(.slice h1 x0.goal.length i1),(.slice none 0 0)]∧Vb w' (Fr 0 w' O') (.slice A8 x0.vars.length c9) x0.vars∧Vb w' (Fr 0 w' O') (.slice f1 x0.init.length g1) x0.init∧Vb w' (Fr 0 w' O') (.slice h1 x0.goal.length i1) x0.goal∧Lc 3 w' O' n1 31 [(.slice p2 m0.1.vars.length q2),(.slice r2 m0.1.init.length s2),(.slice t2 m0.1.goal.length u2),(.slice v2 m0.1.ops.length k1)]∧Vb w' (Fr 0 w' O') (.slice p2 m0.1.vars.length q2) m0.1.vars∧Vb w' (Fr 0 w' O') (.slice r2 m0.1.init.length s2) m0.1.init∧Vb w' (Fr 0 w' O') (.slice t2 m0.1.goal.length u2) m0.1.goal∧Vb w' (Fr 0 w' O') (.slice v2 m0.1.ops.length k1) m0.1.ops∧Vb w' (Fr 0 w' O') (.slice j2 r0.1.length k2) r0.1) ?_ ?_
 ·
  refine Aa (AA rfl rfl ?_)
  replace i0:=i0.st b0
  refine Aw (hc:=Blk.cell (i:=2) (i0.1) rfl) rfl rfl ?_
  refine AA rfl rfl (Aw (hc:=Blk.cell (i:=1) (i0.1) rfl) rfl rfl ?_)
  obtain ⟨l2,m3,n0⟩:=bs n0
  replace k0:=k0.st b0
  replace l0:=l0.st b0
  refine AF (O:=s1) (A:=All r1) (R:=fun w' F v=>Vb w' F v l2) (Gw (fun _ h=>h) (Vb.mono (F:=Fr 0 r1 s1) l0 Fr.lt) (Vb.mono (F:=Fr 0 r1 s1) k0 Fr.lt) m3) rfl rfl fun s5 t5 u5 f0 n3=>?_
  obtain rfl:=n3.bool
  cases l2
  case false =>
   replace n0:=iF n0
   refine Al rfl rfl (o_z ?_)
   obtain rfl:=sm n0
   exact ⟨(),_,⟨rfl,rfl,rfl,rfl,rfl,trivial⟩,(((((hB.st j1).st v0).st c0).st d0).st b0).st f0,i0.st f0,(h7.st b0).st f0,k0.st f0,l0.st f0,(j0.st b0).st f0,(((y0.st c0).st d0).st b0).st f0,(((l1.st c0).st d0).st b0).st f0,(((m1.st c0).st d0).st b0).st f0,(((z0.st c0).st d0).st b0).st f0,q0.st f0⟩
  replace n0:=iT n0
  refine Al rfl rfl (o_z ?_)
  obtain rfl:=sm n0
  exact ⟨(),_,⟨rfl,rfl,rfl,rfl,rfl,trivial⟩,(((((hB.st j1).st v0).st c0).st d0).st b0).st f0,i0.st f0,(h7.st b0).st f0,k0.st f0,l0.st f0,(j0.st b0).st f0,(((y0.st c0).st d0).st b0).st f0,(((l1.st c0).st d0).st b0).st f0,(((m1.st c0).st d0).st b0).st f0,(((z0.st c0).st d0).st b0).st f0,q0.st f0⟩
 replace hB:=((((hB.st j1).st v0).st c0).st d0).st b0
 replace h7:=h7.st b0
 replace k0:=k0.st b0
 replace l0:=l0.st b0
 replace i0:=i0.st b0
 replace y0:=((y0.st c0).st d0).st b0
 replace l1:=((l1.st c0).st d0).st b0
 replace m1:=((m1.st c0).st d0).st b0
 replace z0:=((z0.st c0).st d0).st b0
 replace j0:=j0.st b0
 rintro w5 u1 ⟨l3,v1,m2,hB,i0,h7,k0,l0,j0,y0,l1,m1,z0,q0⟩
 refine AC _ m2 ?_
 refine Ab (Aa (Bp (hl:=rfl) (hc:=(j0.1).cellsAt) rfl rfl ?_))
 refine AA rfl rfl (Aw (hc:=Blk.cell (i:=1) (j0.1) rfl) rfl rfl ?_)
 obtain ⟨w1,o3,hm⟩:=bs hm
 refine AF (O:=v1) (A:=All u1) (R:=fun w' F v=>T2 w' F v w1) (Mj (fun _ h=>h) (Vb.mono (F:=Fr 0 u1 v1) (Vb.ofAgg (cs:=[(.slice p2 m0.1.vars.length q2),(.slice r2 m0.1.init.length s2),(.slice t2 m0.1.goal.length u2),(.slice v2 m0.1.ops.length k1)]) (x:=m0.1) rfl ⟨_,_,_,_,rfl,y0,l1,m1,z0⟩) Fr.lt) (Vb.mono (F:=Fr 0 u1 v1) l1 Fr.lt) (Vb.nil _ _) o3) rfl rfl fun x5 y5 z5 h0 p3=>?_
 obtain ⟨a6,b6,rfl,q3,r3⟩:=p3
 obtain ⟨rfl,c6⟩:=q3.int
 obtain rfl:=r3.bool
 refine Aj rfl rfl (DH rfl rfl rfl (DH rfl rfl rfl (Al rfl rfl (Al rfl rfl (o_z ?_)))))
 refine Ab ?_
 obtain ⟨s3,a0,hm⟩:=bs hm
 refine Ax (fun l' w'=>∃ (t3:Unit) (O':Lab),subs l' [(2,(.bool s3))]∧Bs w A w' O') ?_ ?_
 ·
  refine Aa (AA rfl rfl ?_)
  replace j0:=j0.st h0
  refine Aw (hc:=Blk.cell (i:=3) (j0.1) rfl) rfl rfl ?_
  refine AT rfl rfl ?_
  replace z0:=z0.st h0
  have u3:m0.1.ops.length≤9223372036854775807:=Nat.le_trans z0.len.2.1 z0.len.2.2
  have d6:inI64 (m0.1.ops.length:Int):=rngNat u3
  refine Ga rfl rfl rfl (fun x1=>?_) fun x1=>?_
  ·
   replace a0:=ip a0 x1
   refine Aj rfl rfl (Am rfl rfl (AA rfl rfl (Am rfl rfl (Aw (hc:=Blk.cell (i:=0) (j0.1) rfl) rfl rfl ?_))))
   refine Am rfl rfl (AT rfl rfl ?_)
   replace y0:=y0.st h0
   have w3:m0.1.vars.length≤9223372036854775807:=Nat.le_trans y0.len.2.1 y0.len.2.2
   have e6:inI64 (m0.1.vars.length:Int):=rngNat w3
   refine Am rfl rfl (AA rfl rfl (Am rfl rfl ?_))
   replace i0:=i0.st h0
   refine Aw (hc:=Blk.cell (i:=0) (i0.1) rfl) rfl rfl ?_
   refine Am rfl rfl (AT rfl rfl ?_)
   replace h7:=h7.st h0
   have x3:x0.vars.length≤9223372036854775807:=Nat.le_trans h7.len.2.1 h7.len.2.2
   have f6:inI64 (x0.vars.length:Int):=rngNat x3
   refine Am rfl rfl ?_
   obtain ⟨g6,n2,a0⟩:=bs a0
   have h6:=(Bw n2)
   refine DM (he:=n2) rfl rfl rfl ?_
   refine Am rfl rfl (Ga rfl rfl rfl (fun y1=>?_) fun y1=>?_)
   ·
    replace a0:=ip a0 y1
    refine Bv rfl rfl rfl (Aj rfl rfl (Am rfl rfl (Aj rfl rfl (Am rfl rfl (AT rfl rfl ?_)))))
    replace q0:=q0.st h0
    have y3:r0.1.length≤9223372036854775807:=Nat.le_trans q0.len.2.1 q0.len.2.2
    have i6:inI64 (r0.1.length:Int):=rngNat y3
    refine Am rfl rfl (Ga rfl rfl rfl (fun z1=>?_) fun z1=>?_)
    ·
     replace a0:=ip a0 z1
     refine Bv rfl rfl rfl (Aj rfl rfl (Am rfl rfl (Aj rfl rfl (Am rfl rfl (Aj rfl rfl (Am rfl rfl (MM rfl rfl (fun a2=>?_) fun a2=>?_)))))))
     ·
      replace a0:=ip a0 a2
      refine Am rfl rfl ?_
      rcases Bool.eq_false_or_eq_true t1 with b1|b1
      ·
       try rw [b1]
       replace a0:=ip a0 b1
       refine IY rfl rfl rfl (Bv rfl rfl rfl (Aj rfl rfl (Am rfl rfl (Aj rfl rfl (Am rfl rfl (Aj rfl rfl (Am rfl rfl ?_)))))))
       rcases Bool.eq_false_or_eq_true w1.2 with c1|c1
       ·
        try simp only [c1]
        replace a0:=ip a0 c1
        refine IY rfl rfl rfl (Bv rfl rfl rfl (Aj rfl rfl (Am rfl rfl (Aj rfl rfl (Am rfl rfl (Ga rfl rfl rfl (fun b2=>?_) fun b2=>?_))))))
        ·
         replace a0:=ip a0 b2
         refine Bv rfl rfl rfl (Al rfl rfl (o_z ?_))
         obtain rfl:=sm a0
         exact ⟨(),_,⟨rfl,trivial⟩,hB.st h0⟩
        replace a0:=im a0 b2
        refine Bv rfl rfl rfl (Al rfl rfl (o_z ?_))
        obtain rfl:=sm a0
        exact ⟨(),_,⟨rfl,trivial⟩,hB.st h0⟩
       try simp only [c1]
       replace a0:=im' a0 c1
       refine IY rfl rfl rfl (Bv rfl rfl rfl (Aj rfl rfl (Ak rfl rfl rfl rfl (Ak rfl rfl rfl rfl (Bg rfl rfl rfl (Al rfl rfl (o_z ?_)))))))
       obtain rfl:=sm a0
       exact ⟨(),_,⟨rfl,trivial⟩,hB.st h0⟩
      try rw [b1]
      replace a0:=im' a0 b1
      refine IY rfl rfl rfl (Bv rfl rfl rfl (Aj rfl rfl (Ak rfl rfl rfl rfl (Ak rfl rfl rfl rfl (Ak rfl rfl rfl rfl (Bg rfl rfl rfl (Aj rfl rfl (Ak rfl rfl rfl rfl (Ak rfl rfl rfl rfl (Bg rfl rfl rfl (Al rfl rfl (o_z ?_))))))))))))
      obtain rfl:=sm a0
      exact ⟨(),_,⟨rfl,trivial⟩,hB.st h0⟩
     replace a0:=im a0 a2
     refine Am rfl rfl ?_
     rcases Bool.eq_false_or_eq_true t1 with d1|d1
     ·
      try rw [d1]
      replace a0:=ip a0 d1
      refine IY rfl rfl rfl (Bv rfl rfl rfl (Aj rfl rfl (Ak rfl rfl rfl rfl (Ak rfl rfl rfl rfl (Ak rfl rfl rfl rfl (Bg rfl rfl rfl (Aj rfl rfl (Ak rfl rfl rfl rfl (Ak rfl rfl rfl rfl (Bg rfl rfl rfl (Al rfl rfl (o_z ?_))))))))))))
      obtain rfl:=sm a0
      exact ⟨(),_,⟨rfl,trivial⟩,hB.st h0⟩
     try rw [d1]
     replace a0:=im' a0 d1
     refine IY rfl rfl rfl (Bv rfl rfl rfl (Aj rfl rfl (Am rfl rfl (Aj rfl rfl (Am rfl rfl (Aj rfl rfl (Am rfl rfl ?_)))))))
     rcases Bool.eq_false_or_eq_true w1.2 with e1|e1
     ·
      try simp only [e1]
      replace a0:=ip a0 e1
      refine IY rfl rfl rfl (Bv rfl rfl rfl (Aj rfl rfl (Ak rfl rfl rfl rfl (Ak rfl rfl rfl rfl (Bg rfl rfl rfl (Al rfl rfl (o_z ?_)))))))
      obtain rfl:=sm a0
      exact ⟨(),_,⟨rfl,trivial⟩,hB.st h0⟩
     try simp only [e1]
     replace a0:=im' a0 e1
     refine IY rfl rfl rfl (Bv rfl rfl rfl (Aj rfl rfl (Am rfl rfl (Aj rfl rfl (Am rfl rfl (Ga rfl rfl rfl (fun c2=>?_) fun c2=>?_))))))
     ·
      replace a0:=ip a0 c2
      refine Bv rfl rfl rfl (Al rfl rfl (o_z ?_))
      obtain rfl:=sm a0
      exact ⟨(),_,⟨rfl,trivial⟩,hB.st h0⟩
     replace a0:=im a0 c2
     refine Bv rfl rfl rfl (Al rfl rfl (o_z ?_))
     obtain rfl:=sm a0
     exact ⟨(),_,⟨rfl,trivial⟩,hB.st h0⟩
    replace a0:=im a0 z1
    refine Bv rfl rfl rfl (Aj rfl rfl (Ak rfl rfl rfl rfl (Ak rfl rfl rfl rfl (Ak rfl rfl rfl rfl (Ak rfl rfl rfl rfl (Bg rfl rfl rfl (Aj rfl rfl (Ak rfl rfl rfl rfl (Ak rfl rfl rfl rfl (Ak rfl rfl rfl rfl (Bg rfl rfl rfl (Aj rfl rfl (Ak rfl rfl rfl rfl (Ak rfl rfl rfl rfl ?_))))))))))))))
    refine Bg rfl rfl rfl (Al rfl rfl (o_z ?_))
    obtain rfl:=sm a0
    exact ⟨(),_,⟨rfl,trivial⟩,hB.st h0⟩
   replace a0:=im a0 y1
   refine Bv rfl rfl rfl (Aj rfl rfl (Ak rfl rfl rfl rfl (Ak rfl rfl rfl rfl (Ak rfl rfl rfl rfl (Bg rfl rfl rfl (Aj rfl rfl (Ak rfl rfl rfl rfl (Ak rfl rfl rfl rfl (Ak rfl rfl rfl rfl (Ak rfl rfl rfl rfl (Bg rfl rfl rfl (Aj rfl rfl (Ak rfl rfl rfl rfl (Ak rfl rfl rfl rfl ?_))))))))))))))
   refine Ak rfl rfl rfl rfl (Bg rfl rfl rfl (Aj rfl rfl (Ak rfl rfl rfl rfl (Ak rfl rfl rfl rfl (Bg rfl rfl rfl (Al rfl rfl (o_z ?_)))))))
   obtain rfl:=sm a0
   exact ⟨(),_,⟨rfl,trivial⟩,hB.st h0⟩
  replace a0:=im a0 x1
  refine Aj rfl rfl (Ak rfl rfl rfl rfl (Ak rfl rfl rfl rfl (Ak rfl rfl rfl rfl (Ak rfl rfl rfl rfl (Ak rfl rfl rfl rfl (Ak rfl rfl rfl rfl (Ak rfl rfl rfl rfl (Ak rfl rfl rfl rfl (Bg rfl rfl rfl (Aj rfl rfl (Ak rfl rfl rfl rfl (Ak rfl rfl rfl rfl (Ak rfl rfl rfl rfl (Bg rfl rfl rfl ?_))))))))))))))
  refine Aj rfl rfl (Ak rfl rfl rfl rfl (Ak rfl rfl rfl rfl (Ak rfl rfl rfl rfl (Ak rfl rfl rfl rfl (Bg rfl rfl rfl (Aj rfl rfl (Ak rfl rfl rfl rfl (Ak rfl rfl rfl rfl (Ak rfl rfl rfl rfl (Bg rfl rfl rfl (Aj rfl rfl (Ak rfl rfl rfl rfl (Ak rfl rfl rfl rfl (Bg rfl rfl rfl ?_))))))))))))))
  refine Al rfl rfl (o_z ?_)
  obtain rfl:=sm a0
  exact ⟨(),_,⟨rfl,trivial⟩,hB.st h0⟩
 replace hB:=hB.st h0
 rintro j6 k6 ⟨t3,l6,o2,hB⟩
 refine AC _ o2 ?_
 refine AB ?_
 obtain rfl:=sm hm
 exact ret1v rfl (Au rfl) ⟨hB.ext,vBool⟩
end
section
section
variable {α σ ρ : Type}
theorem Fw {s:σ} {f:σ→Option ρ}:fin (.done s) f=f s:=rfl
theorem Pr {c:ρ} {f:σ→Option ρ}:fin (.ret c) f=some c:=rfl
theorem GM {x y:α}:(if true=true then x else y)=x:=rfl
theorem Jd {x y:α}:(if false=true then x else y)=y:=rfl
theorem Je {f:Nat→α→σ→Option (Ctl σ ρ)} {I:Nat→σ→Prop} {R:ρ→Prop}:∀ (ys:List α) (j:Nat) (s:σ),I j s →
    (∀ k x s,ys[k]?=some x→I (j + k) s→(∃ s',f (j + k) x s=some (.next s')∧I (j + k + 1) s')∨(∃ r,f (j + k) x s=some (.ret r)∧R r)) →
    (∃ s',rng f ys j s=some (.done s')∧I (j + ys.length) s')∨∃ r,rng f ys j s=some (.ret r)∧R r
  | [],j,s,h0,_=>.inl ⟨s,rfl,h0⟩
  | y :: ys,j,s,h0,h=>by
    rcases h 0 y s rfl h0 with ⟨s',h1,h2⟩|⟨r,h1,h2⟩
    · have h1':f j y s=some (.next s'):=h1
      simp only [rng,h1']
      rcases Je (I:=I) (R:=R) ys (j + 1) s' h2 (fun k x s hk hI=>by
        have:=h (k + 1) x s (by simpa using hk) (by rwa [show j + (k + 1)=j + 1 + k from by omega])
        rwa [show j + (k + 1)=j + 1 + k from by omega] at this) with ⟨s2,h3,h4⟩|h3
      · exact .inl ⟨s2,h3,by rw [List.length_cons,show j + (ys.length + 1)=j + 1 + ys.length from by omega];exact h4⟩
      · exact .inr h3
    · have h1':f j y s=some (.ret r):=h1
      simp only [rng,h1']
      exact .inr ⟨r,rfl,h2⟩
theorem Ov {f:Nat→α→σ→Option (Ctl σ ρ)} {xs:List α} {s₀:σ} (I:Nat→σ→Prop) (R:ρ→Prop) (h0:I 0 s₀)
    (h:∀ k x s,xs[k]?=some x→I k s→(∃ s',f k x s=some (.next s')∧I (k + 1) s')∨(∃ r,f k x s=some (.ret r)∧R r)) :
    (∃ s',rng f xs 0 s₀=some (.done s')∧I xs.length s')∨∃ r,rng f xs 0 s₀=some (.ret r)∧R r:=by
  have:=Je (f:=f) (I:=I) (R:=R) xs 0 s₀ h0 (fun k x s hk hI=>by rw [Nat.zero_add] at hI ⊢;exact h k x s hk hI)
  rwa [Nat.zero_add] at this
theorem Ox {f:Nat→α→σ→Option (Ctl σ ρ)} {xs:List α} {s₀:σ} (I:Nat→σ→Prop) (h0:I 0 s₀) (h:∀ k x s,xs[k]?=some x→I k s→∃ s',f k x s=some (.next s')∧I (k + 1) s') :
    ∃ s',rng f xs 0 s₀=some (.done s')∧I xs.length s':=by
  rcases Ov I (fun _=>False) h0 (fun k x s hk hI=>.inl (h k x s hk hI)) with h|⟨_,_,h⟩
  · exact h
  · exact h.elim
theorem Mv {f:Nat→α→σ→Option (Ctl σ ρ)} {xs:List α} (g:Nat→σ) (h:∀ k x,xs[k]?=some x→f k x (g k)=some (.next (g (k + 1)))):rng f xs 0 (g 0)=some (.done (g xs.length)):=by
  obtain ⟨s',h1,h2⟩:=Ox (f:=f) (xs:=xs) (s₀:=g 0) (fun k s=>s=g k) rfl (fun k x s hk hI=>⟨_,by rw [hI];exact h k x hk,rfl⟩)
  rw [h1,h2]
theorem LY {f:Nat→α→σ→Option (Ctl σ ρ)} {xs:List α} {s₀:σ} (g:Nat→σ) (h0:s₀=g 0) (h:∀ k x,xs[k]?=some x→f k x (g k)=some (.next (g (k + 1)))):rng f xs 0 s₀=some (.done (g xs.length)):=by
  rw [h0];exact Mv g h
theorem NK {f:Nat→σ→Option (Ctl σ ρ)} {N:Nat} (g:Nat→σ) (h:∀ k,k < N→f k (g k)=some (.next (g (k + 1)))):rngN f N (g 0)=some (.done (g N)):=by
  have:=Mv (f:=fun _ k s=>f k s) (xs:=List.range N) g (fun k x hk=>by
    obtain ⟨hlt,rfl⟩:=List.getElem?_eq_some_iff.1 hk
    simpa using h k (by simpa using hlt))
  rwa [List.length_range] at this
theorem Np {f:Nat→σ→Option (Ctl σ ρ)} {N:Nat} {s₀:σ} (g:Nat→σ) (h0:s₀=g 0) (h:∀ k,k < N→f k (g k)=some (.next (g (k + 1)))):rngN f N s₀=some (.done (g N)):=by
  rw [h0];exact NK g h
end
end
section
open Go Go.RowKit
def Le {α:Type} (x y:Option α):Prop:=∀ r,x=some r→y=some r
theorem Le.rf {α:Type} {x:Option α}:Le x x:=fun _ h=>h
theorem Le.bnd {α β:Type} {x x':Option α} {f f':α→Option β} (h:Le x x') (hf:∀ a,Le (f a) (f' a)):Le (bnd x f) (bnd x' f'):=fun r hr=>by
  obtain ⟨a,ha,hb⟩:=bs hr
  rw [h a ha,AE]
  exact hf a r hb
theorem Le.ite {α:Type} {p:Prop} [Decidable p] {x x' y y':Option α} (h:Le x x') (k:Le y y'):Le (if p then x else y) (if p then x' else y'):=by
  by_cases hp:p
  · rw [if_pos hp,if_pos hp];exact h
  · rw [if_neg hp,if_neg hp];exact k
theorem Le.fin {σ κ:Type} {y:Fin σ κ} {f f':σ→Option κ} (hf:∀ a,Le (f a) (f' a)):Le (fin y f) (fin y f'):=by
  cases y with
  | done s=>exact hf s
  | ret c=>exact Le.rf
theorem Le.rng {α σ ρ:Type} {f f':Nat→α→σ→Option (Ctl σ ρ)} (hf:∀ k a s,Le (f k a s) (f' k a s)):∀ {xs:List α} {k:Nat} {s:σ},Le (rng f xs k s) (rng f' xs k s)
  | [],_,_=>Le.rf
  | x :: xs,k,s=>fun r hr=>by
    simp only [Proofs.YtjohlgjklmagnaaGreatDoor.rng] at hr ⊢
    cases hc:f k x s with
    | none=>rw [hc] at hr;cases hr
    | some c =>
      rw [hc] at hr
      rw [hf k x s c hc]
      cases c with
      | next s'=>exact Le.rng hf r hr
      | brk s'=>exact hr
      | ret q=>exact hr
theorem Le.rngN {σ ρ:Type} {f f':Nat→σ→Option (Ctl σ ρ)} {n:Nat} {s:σ} (hf:∀ k s,Le (f k s) (f' k s)):Le (rngN f n s) (rngN f' n s):=Le.rng fun _ k s=>hf k s
theorem Le.itr {σ ρ:Type} {f f':σ→Option (Ctl σ ρ)} (hf:∀ s,Le (f s) (f' s)):∀ (n:Nat) (s:σ),Le (itr f n s) (itr f' n s)
  | 0,_=>Le.rf
  | n + 1,s=>fun r hr=>by
    simp only [Proofs.YtjohlgjklmagnaaGreatDoor.itr] at hr ⊢
    cases hc:f s with
    | none=>rw [hc] at hr;cases hr
    | some c =>
      rw [hc] at hr
      rw [hf s c hc]
      cases c with
      | next s'=>exact Le.itr hf n s' r hr
      | brk s'=>exact hr
      | ret q=>exact hr
def lopE {σ ρ:Type} (f:σ→Option (Ctl σ ρ)) (s:σ):Option (Fin σ ρ):=itr f 600 s
theorem Le.lop {σ ρ:Type} {f f':σ→Option (Ctl σ ρ)} {s:σ} (hf:∀ s,Le (f s) (f' s)):Le (lopE f s) (lop f' s):=fun r hr=>Nv.2 ⟨600,Le.itr hf 600 s r hr⟩
end
section
open Go Go.RowKit
def factB (vars:List Int) (x:Fct):Bool:=decide (0≤x.var) && (decide (0≤x.val) && (match vars[x.var.toNat]? with|some y=>decide (x.val < y)|none=>false))
theorem LZ {vars:List Int} {x:Fct} (h:factB vars x=true):FactOk vars x:=by
  unfold factB at h
  simp only [Bool.and_eq_true,decide_eq_true_eq] at h
  obtain ⟨h1,h2,h3⟩:=h
  cases hv:vars[x.var.toNat]? with
  | none=>rw [hv] at h3;cases h3
  | some y=>rw [hv] at h3;exact ⟨h1,h2,y,hv,by simpa using h3⟩
def ascB:List Fct→Bool
  | x :: y :: r=>decide (x.var < y.var) && ascB (y :: r)
  | _=>true
theorem Mw:∀ {f:List Fct},ascB f=true→∀ (i:Nat) x y,f[i]?=some x→f[i + 1]?=some y→x.var < y.var
  | [],_,i,x,y,h,_=>by simp at h
  | [_],_,i,x,y,_,h=>by simp at h
  | a :: b :: r,h,i,x,y,h1,h2=>by
    simp only [ascB,Bool.and_eq_true,decide_eq_true_eq] at h
    cases i with
    | zero=>simp at h1 h2;subst h1;subst h2;exact h.1
    | succ i=>exact Mw h.2 i x y (by simpa using h1) (by simpa using h2)
def factsB (vars:List Int) (f:List Fct):Bool:=f.all (factB vars) && ascB f
theorem HQ {vars:List Int} {f:List Fct} (h:factsB vars f=true):FactsOk vars f:=by
  unfold factsB at h
  rw [Bool.and_eq_true,List.all_eq_true] at h
  exact ⟨fun i x hx=>LZ (h.1 x (List.mem_of_getElem? hx)),Mw h.2⟩
def stateB:List Int→List Int→Bool
  | [],[]=>true
  | y :: vars,x :: s=>decide (0≤x) && (decide (x < y) && stateB vars s)
  | _,_=>false
theorem Jf:∀ {vars s:List Int},stateB vars s=true→StateOk vars s
  | [],[],_=>⟨rfl,fun i x y h=>by simp at h⟩
  | y :: vars,x :: s,h=>by
    simp only [stateB,Bool.and_eq_true,decide_eq_true_eq] at h
    obtain ⟨h1,h2⟩:=Jf h.2.2
    refine ⟨by simp [h1],fun i a b ha hb=>?_⟩
    cases i with
    | zero=>simp at ha hb;subst ha;subst hb;exact ⟨h.1,h.2.1⟩
    | succ i=>exact h2 i a b (by simpa using ha) (by simpa using hb)
  | [],_ :: _,h=>by simp [stateB] at h
  | _ :: _,[],h=>by simp [stateB] at h
def nameB (s:ByteArray):Bool:=decide (s.size≤256) && s.data.toList.all fun c=>decide (32≤c.toNat) && decide (c.toNat≤126)
theorem NL {s:ByteArray} (h:nameB s=true):NameOk s:=by
  unfold nameB at h
  simp only [Bool.and_eq_true,decide_eq_true_eq,List.all_eq_true] at h
  refine ⟨h.1,fun i hi=>h.2 _ ?_⟩
  show s.data[i]∈_
  simp
def opB (vars:List Int) (o:Opr):Bool:=decide (0≤o.cost) && (decide (o.cost≤1048576) && (decide (o.effs.length≤64) && (nameB o.name && (factsB vars o.pre && o.effs.all fun e=>factsB vars e.cond && factB vars ⟨e.var,e.val⟩))))
theorem OZ {vars:List Int} {o:Opr} (h:opB vars o=true):OpOk vars o:=by
  unfold opB at h
  simp only [Bool.and_eq_true,decide_eq_true_eq,List.all_eq_true] at h
  obtain ⟨h1,h2,h3,h4,h5,h6⟩:=h
  exact ⟨h1,h2,h3,NL h4,HQ h5,fun i e he=>⟨HQ (h6 e (List.mem_of_getElem? he)).1,LZ (h6 e (List.mem_of_getElem? he)).2⟩⟩
def taskB (t:Tsk):Bool:=decide (t.vars.length≤64) && (decide (t.ops.length≤4096) && ((t.vars.all fun n=>decide (1≤n) && decide (n≤64)) && (stateB t.vars t.init && (factsB t.vars t.goal && t.ops.all (opB t.vars)))))
theorem NM {t:Tsk} (h:taskB t=true):TaskOk t:=by
  unfold taskB at h
  simp only [Bool.and_eq_true,decide_eq_true_eq,List.all_eq_true] at h
  obtain ⟨h1,h2,h3,h4,h5,h6⟩:=h
  exact ⟨h1,h2,fun i n hn=>h3 n (List.mem_of_getElem? hn),Jf h4,HQ h5,fun i o ho=>OZ (h6 o (List.mem_of_getElem? ho))⟩
def Jg (t:Tsk):Option Err:=if taskB t=true then some ⟨0⟩ else none
theorem Ln (t:Tsk):Le (Jg t) (FG t):=fun r h=>by
  obtain ⟨h1,rfl⟩:=CC h
  unfold FG
  rw [LP.2 (NM h1)]
def IG (x y:List Int):Option Bool:=if stateB x y=true then some true else none
theorem KR (x y:List Int):Le (IG x y) (Fj x y):=fun r h=>by
  obtain ⟨h1,rfl⟩:=CC h
  unfold Fj
  rw [De (Jf h1)]
def GS (x y:List Int):Option Bool:=some (decide (x=y))
theorem Ma (x y:List Int):Le (GS x y) (FU x y):=fun r h=>by
  unfold GS at h
  unfold FU
  rw [← h]
  by_cases hx:x=y
  · rw [De hx];simp [hx]
  · rw [CS hx];simp [hx]
def Gz (f:List Fct) (s:List Int):Option Bool:=Et f s
theorem IH (f:List Fct) (s:List Int):Le (Gz f s) (Et f s):=Le.rf
def ED (x:List Int):Option (List Int):=Cg x
theorem FH (x:List Int):Le (ED x) (Cg x):=Le.rf
end
section
open Go Go.RowKit
theorem Jh {R:Fct→Fct→Prop}:∀ {a b:List Fct},a.Perm b→a.Pairwise R→b.Pairwise R→(∀ x y,R x y→¬ R y x)→a=b
  | [],b,h,_,_,_=>(List.nil_perm.1 h).symm
  | x :: a,[],h,_,_,_=>by simp at h
  | x :: a,y :: b,h,ha,hb,hR=>by
    obtain ⟨ha1,ha2⟩:=List.pairwise_cons.1 ha
    obtain ⟨hb1,hb2⟩:=List.pairwise_cons.1 hb
    have hx:x∈y :: b:=h.mem_iff.1 List.mem_cons_self
    have hy:y∈x :: a:=h.mem_iff.2 List.mem_cons_self
    have e:x=y:=by
      rcases List.mem_cons.1 hx with rfl|hx
      · rfl
      · rcases List.mem_cons.1 hy with rfl|hy
        · rfl
        · exact absurd (hb1 x hx) (hR x y (ha1 y hy))
    subst e
    rw [Jh ((List.perm_cons x).1 h) ha2 hb2 hR]
theorem Oy {u v:List Fct} (h:u.Perm v) (hv:v.Pairwise fun x y=>x.var < y.var):AI u=v:=by
  have hp:=(Ja u).trans h
  have hn:(v.map (·.var)).Nodup:=by
    rw [List.nodup_iff_pairwise_ne,List.pairwise_map]
    exact hv.imp fun h=>by omega
  have hn2:((AI u).map (·.var)).Nodup:=((hp.map (·.var)).nodup_iff).2 hn
  rw [List.nodup_iff_pairwise_ne,List.pairwise_map] at hn2
  have hs:=Mg u
  exact Jh hp (hs.imp₂ (fun a b h1 h2=>by omega) hn2) hv fun x y h1 h2=>by omega
def insF1 (a:Fct):List Fct→List Fct
  | []=>[a]
  | b :: r=>if a.var < b.var then a :: b :: r else b :: insF1 a r
def insF:List Fct→List Fct
  | []=>[]
  | a :: r=>insF1 a (insF r)
theorem KC (a:Fct):∀ r,(insF1 a r).Perm (a :: r)
  | []=>.refl _
  | b :: r=>by
    simp only [insF1]
    split
    · exact .refl _
    · exact ((KC a r).cons b).trans (.swap a b r)
theorem Lj:∀ l,(insF l).Perm l
  | []=>.refl _
  | a :: r=>(KC a _).trans ((Lj r).cons a)
def ltF1:List Fct→Bool
  | a :: b :: r=>decide (a.var < b.var) && ltF1 (b :: r)
  | _=>true
theorem Mx:∀ {l:List Fct},ltF1 l=true→l.Pairwise fun x y=>x.var < y.var
  | [],_=>.nil
  | [a],_=>List.pairwise_singleton _ _
  | a :: b :: r,h=>by
    simp only [ltF1,Bool.and_eq_true,decide_eq_true_eq] at h
    have ih:=Mx h.2
    refine List.pairwise_cons.2 ⟨fun c hc=>?_,ih⟩
    rcases List.mem_cons.1 hc with rfl|hc
    · exact h.1
    · have:=(List.pairwise_cons.1 ih).1 c hc;omega
def srtE (u:List Fct):Option (List Fct):=if u.length < 4611686018427387904∧ltF1 (insF u)=true then some (insF u) else none
theorem Oz {u r:List Fct} (h:srtE u=some r):(if u.length < 4611686018427387904 then some (AI u) else none)=some r:=by
  obtain ⟨⟨h1,h2⟩,rfl⟩:=CC h
  rw [if_pos h1,Oy (Lj u).symm (Mx h2)]
theorem OA (x:Int):DJ x=if 0≤x∧x < 100 then some (itoaB x.toNat) else none:=by
  unfold DJ DC DI
  by_cases h:0≤x∧x < 100
  · rw [if_pos h,if_pos ⟨rfl,h⟩];rfl
  · rw [if_neg h,if_neg (fun q=>h q.2)];rfl
end
section
open Go Go.RowKit
set_option maxRecDepth 20000
attribute [local irreducible] bnd fin rng rngN chkI mkI appI atI natI catI keysI BB Cg DJ
def EK (xs:List Int):Option (List Int):=if xs.length≤1000000 then some (insS xs) else none
theorem HE (xs:List Int):Le (EK xs) (BS xs):=fun r h=>by
  unfold EK at h
  unfold BS
  rw [Ld];exact h
def CR (x:List Fct):Option (List Fct):=BB x
theorem Eg (x:List Fct):Le (CR x) (BB x):=Le.rf
def Ik (x:Int):Option ByteArray:=if 0≤x∧x < 100 then some (itoaB x.toNat) else none
theorem KD (x:Int):Le (Ik x) (DJ x):=fun r h=>by rw [OA];exact h
def Ey (x:Int):Option (List Fct):=Cr x
theorem FW (x:Int):Le (Ey x) (Cr x):=Le.rf
def DX (x:Int):Option (List Eff):=Ci x
theorem Fz (x:Int):Le (DX x) (Ci x):=Le.rf
def HC (x:List Lch):Option (List Lch):=if x.length≤1 then some x else none
theorem Js (x:List Lch):Le (HC x) (DK x):=fun r h=>by
  obtain ⟨h1,rfl⟩:=CC h
  unfold DK
  rw [if_pos (by omega)]
  congr 1
  refine Mu ?_
  match x,h1 with
  | [],_=>exact .nil
  | [a],_=>exact List.pairwise_singleton _ _
noncomputable def CI (x0:List (List Fct)):Option (List Fct) :=
  bnd (rng (ρ:=(List Fct)) (fun (k10:Nat) (a11:List Fct) (s8:Int)=>bnd (chkI (s8 + (a11.length:Int))) fun n36=>if n36 < 0 then (none) else (some (.next n36))) x0 0 0) fun res6=>fin res6 fun (s44:Int)=>bnd (Ey s44) fun q46=>bnd (rng (ρ:=(List Fct)) (fun (k62:Nat) (a63:List Fct) (s60:(List Fct))=>bnd (appI 16 s60 a63) fun u88=>some (.next u88)) x0 0 q46) fun res58=>fin res58 fun (s103:(List Fct))=>some s103
theorem FM (x0:List (List Fct)):Le (CI x0) (BZ x0):=by
  unfold CI BZ
  repeat' (first|apply FW|apply Le.ite|apply Le.bnd|apply Le.fin|apply Le.rng|apply Le.rngN|apply Le.lop|exact Le.rf|intro _)
noncomputable def Cz (x0:List (List Eff)):Option (List Eff) :=
  bnd (rng (ρ:=(List Eff)) (fun (k10:Nat) (a11:List Eff) (s8:Int)=>bnd (chkI (s8 + (a11.length:Int))) fun n36=>if n36 < 0 then (none) else (some (.next n36))) x0 0 0) fun res6=>fin res6 fun (s44:Int)=>bnd (DX s44) fun q46=>bnd (rng (ρ:=(List Eff)) (fun (k62:Nat) (a63:List Eff) (s60:(List Eff))=>bnd (appI 40 s60 a63) fun u88=>some (.next u88)) x0 0 q46) fun res58=>fin res58 fun (s103:(List Eff))=>some s103
theorem Fk (x0:List (List Eff)):Le (Cz x0) (BN x0):=by
  unfold Cz BN
  repeat' (first|apply Fz|apply Le.ite|apply Le.bnd|apply Le.fin|apply Le.rng|apply Le.rngN|apply Le.lop|exact Le.rf|intro _)
noncomputable def Gk (x0:Tpl):Option (List (List Fct)) :=
  bnd (rng (ρ:=(List (List Fct))) (fun (k36:Nat) (a37:Job) (s34:(List (List Fct)))=>bnd (appI 24 s34 [a37.start,a37.over,a37.fin,a37.atStart,a37.atEnd]) fun u93=>some (.next u93)) x0.jobs 0 [x0.goal]) fun res32=>fin res32 fun (s108:(List (List Fct)))=>some s108
theorem Jt (x0:Tpl):Le (Gk x0) (CU x0):=by
  unfold Gk CU
  repeat' (first|apply Le.ite|apply Le.bnd|apply Le.fin|apply Le.rng|apply Le.rngN|apply Le.lop|exact Le.rf|intro _)
noncomputable def Fp (x0:List Fct):Option Bool :=
  bnd (if 64 < (x0.length:Int) then (some true) else (some false):Option Bool) fun y4=>some y4
theorem Iz (x0:List Fct):Le (Fp x0) (CN x0):=by
  unfold Fp CN
  repeat' (first|apply Le.ite|apply Le.bnd|apply Le.fin|apply Le.rng|apply Le.rngN|apply Le.lop|exact Le.rf|intro _)
noncomputable def BO (x0:List (List Fct)):Option Int :=
  bnd (rng (ρ:=Int) (fun (k11:Nat) (a12:List Fct) (s9:Unit)=>bnd (Fp a12) fun q33=>if q33=true then some (.ret (k11:Int)) else some (.next ())) x0 0 ()) fun res7=>fin res7 fun (s44:Unit)=>some (-1)
theorem Dy (x0:List (List Fct)):Le (BO x0) (AV x0):=by
  unfold BO AV
  repeat' (first|apply Iz|apply Le.ite|apply Le.bnd|apply Le.fin|apply Le.rng|apply Le.rngN|apply Le.lop|exact Le.rf|intro _)
noncomputable def BH (x0:List (List Fct)):Option Bool :=
  bnd (bnd (BO x0) fun q9=>if 0≤q9 then (some true) else (some false):Option Bool) fun y5=>some y5
theorem Dh (x0:List (List Fct)):Le (BH x0) (AO x0):=by
  unfold BH AO
  repeat' (first|apply Dy|apply Le.ite|apply Le.bnd|apply Le.fin|apply Le.rng|apply Le.rngN|apply Le.lop|exact Le.rf|intro _)
def Ji (x:List Int) (f:List Fct):Option Bool:=if factsB x f=true then some true else none
theorem Lo (x:List Int) (f:List Fct):Le (Ji x f) (FF x f):=fun r h=>by
  obtain ⟨h1,rfl⟩:=CC h
  unfold FF
  rw [De (HQ h1)]
noncomputable def Fq (x0:List Fct) (y0:Tpl):Option Bool :=
  bnd (bnd (Ji y0.vars x0) fun q24=>if q24=true then some false else some true:Option Bool) fun y20=>some y20
theorem IA (x0:List Fct) (y0:Tpl):Le (Fq x0 y0) (CO x0 y0):=by
  unfold Fq CO
  repeat' (first|apply Lo|apply Le.ite|apply Le.bnd|apply Le.fin|apply Le.rng|apply Le.rngN|apply Le.lop|exact Le.rf|intro _)
noncomputable def BP (x0:List (List Fct)) (y0:Tpl):Option Int :=
  bnd (rng (ρ:=Int) (fun (k27:Nat) (a28:List Fct) (s25:Unit)=>bnd (Fq a28 y0) fun q49=>if q49=true then some (.ret (k27:Int)) else some (.next ())) x0 0 ()) fun res23=>fin res23 fun (s60:Unit)=>some (-1)
theorem Dz (x0:List (List Fct)) (y0:Tpl):Le (BP x0 y0) (AW x0 y0):=by
  unfold BP AW
  repeat' (first|apply IA|apply Le.ite|apply Le.bnd|apply Le.fin|apply Le.rng|apply Le.rngN|apply Le.lop|exact Le.rf|intro _)
noncomputable def BI (x0:List (List Fct)) (y0:Tpl):Option Bool :=
  bnd (bnd (BP x0 y0) fun q25=>if 0≤q25 then (some true) else (some false):Option Bool) fun y21=>some y21
theorem Di (x0:List (List Fct)) (y0:Tpl):Le (BI x0 y0) (AP x0 y0):=by
  unfold BI AP
  repeat' (first|apply Dz|apply Le.ite|apply Le.bnd|apply Le.fin|apply Le.rng|apply Le.rngN|apply Le.lop|exact Le.rf|intro _)
noncomputable def Gl (x0:ByteArray):Option Bool :=
  bnd (rngN (ρ:=Bool) (fun (k7:Nat) (s5:Unit)=>bnd (bnd (bytI x0 (k7:Int)) fun n22=>if n22 < 32 then (some true) else (bnd (bytI x0 (k7:Int)) fun n26=>if 126 < n26 then (some true) else (some false)):Option Bool) fun y18=>if y18=true then (some (.ret false)) else (some (.next ()))) x0.size ()) fun res3=>fin res3 fun (s39:Unit)=>bnd (if (x0.size:Int)≤256 then (some true) else (some false):Option Bool) fun y41=>some y41
theorem Ju (x0:ByteArray):Le (Gl x0) (Ct x0):=by
  unfold Gl Ct
  repeat' (first|apply Le.ite|apply Le.bnd|apply Le.fin|apply Le.rng|apply Le.rngN|apply Le.lop|exact Le.rf|intro _)
noncomputable def Fg (x0:Tpl):Option Err :=
  bnd (Gk x0) fun q24=>bnd (if 64 < (x0.vars.length:Int) then (some true) else (if 24 < (x0.jobs.length:Int) then (some true) else (bnd (BH q24) fun q43=>if q43=true then some true else some false)):Option Bool) fun y33=>if y33=true then (some (⟨5⟩:Err)) else (bnd (rng (ρ:=Err) (fun (k61:Nat) (a62:Int) (s59:Unit)=>bnd (if a62 < 1 then (some true) else (if 64 < a62 then (some true) else (some false)):Option Bool) fun y80=>if y80=true then (some (.ret (⟨1⟩:Err))) else (some (.next ()))) x0.vars 0 ()) fun res57=>fin res57 fun (s95:Unit)=>bnd (rng (ρ:=Err) (fun (k103:Nat) (a104:Job) (s101:Unit)=>bnd (if a104.dur < 1 then (some true) else (if 62 < a104.dur then (some true) else (some false)):Option Bool) fun y150=>if y150=true then (some (.ret (⟨1⟩:Err))) else (some (.next ()))) x0.jobs 0 ()) fun res99=>fin res99 fun (s165:Unit)=>bnd (bnd (IG x0.vars x0.init) fun q171=>if q171=true then bnd (BI q24 x0) fun q178=>if q178=true then some true else some false else some true:Option Bool) fun y167=>if y167=true then (some (⟨2⟩:Err)) else (bnd (rng (ρ:=Err) (fun (k196:Nat) (a197:Job) (s194:Unit)=>bnd (Gl a197.name) fun q243=>if q243=true then some (.next ()) else some (.ret (⟨8⟩:Err))) x0.jobs 0 ()) fun res192=>fin res192 fun (s254:Unit)=>some (⟨0⟩:Err)))
theorem Hd (x0:Tpl):Le (Fg x0) (Cu x0):=by
  unfold Fg Cu
  repeat' (first|apply Dh|apply Di|apply KR|apply Jt|apply Ju|apply Le.ite|apply Le.bnd|apply Le.fin|apply Le.rng|apply Le.rngN|apply Le.lop|exact Le.rf|intro _)
noncomputable def FR (x0:Tpl) (x1:List Lch):Option Err :=
  bnd (Fg x0) fun q27=>if q27.n≠0 then (some (⟨q27.n⟩:Err)) else (if 4096 < (x1.length:Int) then (some (⟨5⟩:Err)) else (bnd (rng (ρ:=Err) (fun (k45:Nat) (a46:Lch) (s43:Unit)=>bnd (if a46.job < 0 then (some true) else (if (x0.jobs.length:Int)≤a46.job then (some true) else (if a46.tm < 0 then (some true) else (if 1048576 < a46.tm then (some true) else (some false)))):Option Bool) fun y72=>if y72=true then (some (.ret (⟨1⟩:Err))) else (some (.next ()))) x1 0 ()) fun res41=>fin res41 fun (s91:Unit)=>some (⟨0⟩:Err)))
theorem Jj (x0:Tpl) (x1:List Lch):Le (FR x0 x1) (Ds x0 x1):=by
  unfold FR Ds
  repeat' (first|apply Hd|apply Le.ite|apply Le.bnd|apply Le.fin|apply Le.rng|apply Le.rngN|apply Le.lop|exact Le.rf|intro _)
noncomputable def En (x0:Tpl) (x1:Lch):Option Int :=
  bnd (atI x0.jobs x1.job) fun a33=>bnd (chkI (x1.tm + a33.dur)) fun n66=>some n66
theorem Fx (x0:Tpl) (x1:Lch):Le (En x0 x1) (CY x0 x1):=by
  unfold En CY
  repeat' (first|apply Le.ite|apply Le.bnd|apply Le.fin|apply Le.rng|apply Le.rngN|apply Le.lop|exact Le.rf|intro _)
noncomputable def ES (x0:Tpl) (x1:List Lch):Option ((MapR 182 Int Hap)×(List Int)) :=
  bnd (rng (ρ:=(MapR 182 Int Hap)×(List Int)) (fun (k38:Nat) (a39:Lch) (s36:(MapR 182 Int Hap))=>bnd (appI 16 (mget ([]:List Hap) s36.l a39.tm) [(⟨a39.job,false⟩:Hap)]) fun u82=>bnd (En x0 a39) fun q97=>bnd (appI 16 (mget ([]:List Hap) (⟨mput s36.l a39.tm u82⟩:MapR 182 Int Hap).l q97) [(⟨a39.job,true⟩:Hap)]) fun u99=>some (.next (⟨mput (⟨mput s36.l a39.tm u82⟩:MapR 182 Int Hap).l q97 u99⟩:MapR 182 Int Hap))) x1 0 (⟨[]⟩:MapR 182 Int Hap)) fun res34=>fin res34 fun (s219:(MapR 182 Int Hap))=>bnd (keysI s219) fun u221=>bnd (EK u221) fun q235=>some (s219,q235)
theorem HU (x0:Tpl) (x1:List Lch):Le (ES x0 x1) (Cn x0 x1):=by
  unfold ES Cn
  repeat' (first|apply HE|apply Fx|apply Le.ite|apply Le.bnd|apply Le.fin|apply Le.rng|apply Le.rngN|apply Le.lop|exact Le.rf|intro _)
noncomputable def Fs (x0:Tpl) (x1:List Lch) (x2:Int):Option Bool :=
  bnd (rng (ρ:=Bool) (fun (k34:Nat) (a35:Lch) (s32:Unit)=>if a35.tm≠x2 then (some (.next ())) else (bnd (rng (ρ:=Ctl Unit Bool) (fun (k68:Nat) (a69:Lch) (s66:Unit)=>bnd (if (k34:Int)≠(k68:Int) then (if a35.job=a69.job then (if a69.tm≤x2 then (bnd (En x0 a69) fun q102=>if x2≤q102 then (some true) else (some false)) else (some false)) else (some false)) else (some false):Option Bool) fun y95=>if y95=true then (some (.ret (.ret true))) else (some (.next ()))) x1 0 ()) fun res64=>fin res64 fun (s120:Unit)=>some (.next ()))) x1 0 ()) fun res30=>fin res30 fun (s126:Unit)=>some false
theorem IB (x0:Tpl) (x1:List Lch) (x2:Int):Le (Fs x0 x1 x2) (DF x0 x1 x2):=by
  unfold Fs DF
  repeat' (first|apply Fx|apply Le.ite|apply Le.bnd|apply Le.fin|apply Le.rng|apply Le.rngN|apply Le.lop|exact Le.rf|intro _)
noncomputable def CJ (x0:Tpl) (x1:Hap):Option (List Fct) :=
  if x1.fin=true then (bnd (atI x0.jobs x1.job) fun a33=>some a33.atEnd) else (bnd (atI x0.jobs x1.job) fun a66=>some a66.atStart)
theorem GV (x0:Tpl) (x1:Hap):Le (CJ x0 x1) (Ck x0 x1):=by
  unfold CJ Ck
  repeat' (first|apply Le.ite|apply Le.bnd|apply Le.fin|apply Le.rng|apply Le.rngN|apply Le.lop|exact Le.rf|intro _)
noncomputable def ET (x0:Fct) (y0:Fct):Option Bool :=
  bnd (if y0.var=x0.var then (some true) else (some false):Option Bool) fun y12=>some y12
theorem HV (x0:Fct) (y0:Fct):Le (ET x0 y0) (Da x0 y0):=by
  unfold ET Da
  repeat' (first|apply Le.ite|apply Le.bnd|apply Le.fin|apply Le.rng|apply Le.rngN|apply Le.lop|exact Le.rf|intro _)
noncomputable def BK (x0:List Fct) (y0:Fct):Option Int :=
  bnd (rng (ρ:=Int) (fun (k13:Nat) (a14:Fct) (s11:Unit)=>bnd (ET a14 y0) fun q33=>if q33=true then some (.ret (k13:Int)) else some (.next ())) x0 0 ()) fun res9=>fin res9 fun (s44:Unit)=>some (-1)
theorem Du (x0:List Fct) (y0:Fct):Le (BK x0 y0) (Bd x0 y0):=by
  unfold BK Bd
  repeat' (first|apply HV|apply Le.ite|apply Le.bnd|apply Le.fin|apply Le.rng|apply Le.rngN|apply Le.lop|exact Le.rf|intro _)
noncomputable def BF (x0:List Fct) (y0:Fct):Option Bool :=
  bnd (bnd (BK x0 y0) fun q11=>if 0≤q11 then (some true) else (some false):Option Bool) fun y7=>some y7
theorem Df (x0:List Fct) (y0:Fct):Le (BF x0 y0) (AZ x0 y0):=by
  unfold BF AZ
  repeat' (first|apply Du|apply Le.ite|apply Le.bnd|apply Le.fin|apply Le.rng|apply Le.rngN|apply Le.lop|exact Le.rf|intro _)
noncomputable def FI (x0:Fct) (y0:List Fct):Option Bool :=
  bnd (bnd (BF y0 x0) fun q18=>if q18=true then some true else some false:Option Bool) fun y14=>some y14
theorem IP (x0:Fct) (y0:List Fct):Le (FI x0 y0) (DU x0 y0):=by
  unfold FI DU
  repeat' (first|apply Df|apply Le.ite|apply Le.bnd|apply Le.fin|apply Le.rng|apply Le.rngN|apply Le.lop|exact Le.rf|intro _)
noncomputable def BT (x0:List Fct) (y0:List Fct):Option Int :=
  bnd (rng (ρ:=Int) (fun (k15:Nat) (a16:Fct) (s13:Unit)=>bnd (FI a16 y0) fun q35=>if q35=true then some (.ret (k15:Int)) else some (.next ())) x0 0 ()) fun res11=>fin res11 fun (s46:Unit)=>some (-1)
theorem DL (x0:List Fct) (y0:List Fct):Le (BT x0 y0) (Bi x0 y0):=by
  unfold BT Bi
  repeat' (first|apply IP|apply Le.ite|apply Le.bnd|apply Le.fin|apply Le.rng|apply Le.rngN|apply Le.lop|exact Le.rf|intro _)
noncomputable def BL (x0:List Fct) (y0:List Fct):Option Bool :=
  bnd (bnd (BT x0 y0) fun q13=>if 0≤q13 then (some true) else (some false):Option Bool) fun y9=>some y9
theorem Dv (x0:List Fct) (y0:List Fct):Le (BL x0 y0) (Be x0 y0):=by
  unfold BL Be
  repeat' (first|apply DL|apply Le.ite|apply Le.bnd|apply Le.fin|apply Le.rng|apply Le.rngN|apply Le.lop|exact Le.rf|intro _)
noncomputable def EJ (x0:List Fct) (x1:List Fct):Option Bool :=
  bnd (bnd (BL x0 x1) fun q16=>if q16=true then some true else some false:Option Bool) fun y12=>some y12
theorem Ka (x0:List Fct) (x1:List Fct):Le (EJ x0 x1) (Dn x0 x1):=by
  unfold EJ Dn
  repeat' (first|apply Dv|apply Le.ite|apply Le.bnd|apply Le.fin|apply Le.rng|apply Le.rngN|apply Le.lop|exact Le.rf|intro _)
noncomputable def Ez (x0:Tpl) (x1:Hap):Option (List Fct) :=
  if x1.fin=true then (bnd (atI x0.jobs x1.job) fun a33=>some a33.fin) else (bnd (atI x0.jobs x1.job) fun a66=>some a66.start)
theorem He (x0:Tpl) (x1:Hap):Le (Ez x0 x1) (CV x0 x1):=by
  unfold Ez CV
  repeat' (first|apply Le.ite|apply Le.bnd|apply Le.fin|apply Le.rng|apply Le.rngN|apply Le.lop|exact Le.rf|intro _)
noncomputable def Fh (x0:Tpl) (x1:Hap) (x2:Hap):Option Bool :=
  bnd (bnd (CJ x0 x1) fun q44=>bnd (CJ x0 x2) fun q53=>bnd (EJ q44 q53) fun q62=>if q62=true then some true else bnd (CJ x0 x1) fun q69=>bnd (Ez x0 x2) fun q78=>bnd (EJ q69 q78) fun q87=>if q87=true then some true else bnd (Ez x0 x1) fun q94=>bnd (CJ x0 x2) fun q103=>bnd (EJ q94 q103) fun q112=>if q112=true then some true else some false:Option Bool) fun y40=>some y40
theorem Il (x0:Tpl) (x1:Hap) (x2:Hap):Le (Fh x0 x1 x2) (Do x0 x1 x2):=by
  unfold Fh Do
  repeat' (first|apply Ka|apply He|apply GV|apply Le.ite|apply Le.bnd|apply Le.fin|apply Le.rng|apply Le.rngN|apply Le.lop|exact Le.rf|intro _)
noncomputable def Gm (x0:Tpl) (x1:List Int) (x2:List Hap):Option (List Int) :=
  bnd (ED x1) fun q30=>bnd (rng (ρ:=(List Int)) (fun (k52:Nat) (a53:Bool) (s50:(List Int))=>bnd (rng (ρ:=Ctl (List Int) (List Int)) (fun (k80:Nat) (a81:Job) (s78:(List Int)×Bool)=>bnd (rng (ρ:=Ctl ((List Int)×Bool) (Ctl (List Int) (List Int))) (fun (k101:Nat) (a102:Hap) (s99:(List Int)×Bool)=>bnd (if a102.job≠(k80:Int) then (some (s99.2,true,a102.fin)) else (if a102.fin=true then (if s99.2=true then (some (true,false,true)) else (some (false,true,true))) else (if s99.2=true then (some (true,true,false)) else (some (false,false,false)))):Option (Bool×Bool×Bool)) fun y131=>if y131.2.1=true then (some (.next (s99.1,y131.1))) else (bnd (CJ x0 (⟨a102.job,y131.2.2⟩:Hap)) fun q144=>bnd (rng (ρ:=Ctl ((List Int)×Bool) (Ctl ((List Int)×Bool) (Ctl (List Int) (List Int)))) (fun (k159:Nat) (a160:Fct) (s157:(List Int))=>bnd (atI s157 a160.var) fun a190=>some (.next (s157.set (a160.var:Int).toNat a160.val))) q144 0 s99.1) fun res155=>fin res155 fun (s208:(List Int))=>some (.next (s208,y131.1)))) x2 0 (s78.1,s78.2)) fun res97=>fin res97 fun (s214:(List Int)×Bool)=>some (.next (s214.1,s214.2))) x0.jobs 0 (s50,a53)) fun res76=>fin res76 fun (s220:(List Int)×Bool)=>some (.next s220.1)) [true,false] 0 q30) fun res48=>fin res48 fun (s226:(List Int))=>some s226
theorem Jv (x0:Tpl) (x1:List Int) (x2:List Hap):Le (Gm x0 x1 x2) (Eu x0 x1 x2):=by
  unfold Gm Eu
  repeat' (first|apply FH|apply GV|apply Le.ite|apply Le.bnd|apply Le.fin|apply Le.rng|apply Le.rngN|apply Le.lop|exact Le.rf|intro _)
noncomputable def GA (x0:Tpl) (x1:List Lch) (x2:Int) (x3:List Int) (x4:List Hap):Option ((List Int)×Err) :=
  bnd (Fs x0 x1 x2) fun q34=>if q34=true then some (([]:List Int),(⟨18⟩:Err)) else bnd (rng (ρ:=(List Int)×Err) (fun (k47:Nat) (a48:Hap) (s45:Unit)=>bnd (rngN (ρ:=Ctl Unit ((List Int)×Err)) (fun (k62:Nat) (s60:Unit)=>bnd (x4[k62]?) fun a81=>bnd (Fh x0 a48 a81) fun q91=>if q91=true then some (.ret (.ret (([]:List Int),(⟨17⟩:Err)))) else some (.next ())) k47 ()) fun res58=>fin res58 fun (s102:Unit)=>some (.next ())) x4 0 ()) fun res43=>fin res43 fun (s108:Unit)=>bnd (rng (ρ:=(List Int)×Err) (fun (k116:Nat) (a117:Hap) (s114:Unit)=>bnd (Ez x0 a117) fun q142=>bnd (Gz q142 x3) fun q151=>if q151=true then some (.next ()) else some (.ret (([]:List Int),(⟨12⟩:Err)))) x4 0 ()) fun res112=>fin res112 fun (s162:Unit)=>bnd (Gm x0 x3 x4) fun q164=>bnd (rng (ρ:=(List Int)×Err) (fun (k179:Nat) (a180:Lch) (s177:Unit)=>bnd (if a180.tm≤x2 then (bnd (En x0 a180) fun q211=>if x2 < q211 then (bnd (atI x0.jobs a180.job) fun a220=>bnd (Gz a220.over q164) fun q253=>if q253=true then some false else some true) else (some false)) else (some false):Option Bool) fun y206=>if y206=true then (some (.ret (([]:List Int),(⟨16⟩:Err)))) else (some (.next ()))) x1 0 ()) fun res175=>fin res175 fun (s269:Unit)=>some (q164,(⟨0⟩:Err))
theorem Kb (x0:Tpl) (x1:List Lch) (x2:Int) (x3:List Int) (x4:List Hap):Le (GA x0 x1 x2 x3 x4) (EI x0 x1 x2 x3 x4):=by
  unfold GA EI
  repeat' (first|apply IH|apply Jv|apply Fx|apply Il|apply IB|apply He|apply Le.ite|apply Le.bnd|apply Le.fin|apply Le.rng|apply Le.rngN|apply Le.lop|exact Le.rf|intro _)
noncomputable def Ft (x0:Tpl) (x1:List Lch):Option Int :=
  bnd (rng (ρ:=Int) (fun (k33:Nat) (a34:Lch) (s31:Int)=>bnd (En x0 a34) fun q62=>some (.next (max s31 q62))) x1 0 0) fun res29=>fin res29 fun (s74:Int)=>some s74
theorem IC (x0:Tpl) (x1:List Lch):Le (Ft x0 x1) (CP x0 x1):=by
  unfold Ft CP
  repeat' (first|apply Fx|apply Le.ite|apply Le.bnd|apply Le.fin|apply Le.rng|apply Le.rngN|apply Le.lop|exact Le.rf|intro _)
noncomputable def Fu (x0:Tpl) (x1:List Lch):Option (Int×Err) :=
  bnd (FR x0 x1) fun q27=>if q27.n≠0 then (some (0,(⟨q27.n⟩:Err))) else (bnd (ES x0 x1) fun q36=>bnd (rng (ρ:=Int×Err) (fun (k58:Nat) (a59:Int) (s56:(List Int))=>bnd (GA x0 x1 a59 s56 (mget ([]:List Hap) q36.1.l a59)) fun q83=>if q83.2.n≠0 then (some (.ret (0,(⟨q83.2.n⟩:Err)))) else (some (.next q83.1))) q36.2 0 x0.init) fun res54=>fin res54 fun (s102:(List Int))=>bnd (Gz x0.goal s102) fun q104=>if q104=true then bnd (Ft x0 x1) fun q111=>some (q111,(⟨0⟩:Err)) else some (0,(⟨13⟩:Err)))
theorem ID (x0:Tpl) (x1:List Lch):Le (Fu x0 x1) (Cy x0 x1):=by
  unfold Fu Cy
  repeat' (first|apply IH|apply Jj|apply HU|apply IC|apply Kb|apply Le.ite|apply Le.bnd|apply Le.fin|apply Le.rng|apply Le.rngN|apply Le.lop|exact Le.rf|intro _)
noncomputable def Fi (x0:Fct) (y0:Int):Option Bool :=
  bnd (if x0.var=y0 then (some true) else (some false):Option Bool) fun y11=>some y11
theorem Im (x0:Fct) (y0:Int):Le (Fi x0 y0) (Dp x0 y0):=by
  unfold Fi Dp
  repeat' (first|apply Le.ite|apply Le.bnd|apply Le.fin|apply Le.rng|apply Le.rngN|apply Le.lop|exact Le.rf|intro _)
noncomputable def BQ (x0:List Fct) (y0:Int):Option Int :=
  bnd (rng (ρ:=Int) (fun (k12:Nat) (a13:Fct) (s10:Unit)=>bnd (Fi a13 y0) fun q32=>if q32=true then some (.ret (k12:Int)) else some (.next ())) x0 0 ()) fun res8=>fin res8 fun (s43:Unit)=>some (-1)
theorem DA (x0:List Fct) (y0:Int):Le (BQ x0 y0) (Bf x0 y0):=by
  unfold BQ Bf
  repeat' (first|apply Im|apply Le.ite|apply Le.bnd|apply Le.fin|apply Le.rng|apply Le.rngN|apply Le.lop|exact Le.rf|intro _)
noncomputable def BJ (x0:List Fct) (y0:Int):Option Bool :=
  bnd (bnd (BQ x0 y0) fun q10=>if 0≤q10 then (some true) else (some false):Option Bool) fun y6=>some y6
theorem Dj (x0:List Fct) (y0:Int):Le (BJ x0 y0) (Bb x0 y0):=by
  unfold BJ Bb
  repeat' (first|apply DA|apply Le.ite|apply Le.bnd|apply Le.fin|apply Le.rng|apply Le.rngN|apply Le.lop|exact Le.rf|intro _)
noncomputable def Cx (x0:List Fct) (x1:Int):Option Bool :=
  bnd (bnd (BJ x0 x1) fun q14=>if q14=true then some true else some false:Option Bool) fun y10=>some y10
theorem FJ (x0:List Fct) (x1:Int):Le (Cx x0 x1) (Cd x0 x1):=by
  unfold Cx Cd
  repeat' (first|apply Dj|apply Le.ite|apply Le.bnd|apply Le.fin|apply Le.rng|apply Le.rngN|apply Le.lop|exact Le.rf|intro _)
noncomputable def Gn (x0:Job) (y0:Int):Option Bool :=
  bnd (bnd (Cx x0.atStart y0) fun q35=>if q35=true then some true else bnd (Cx x0.atEnd y0) fun q42=>if q42=true then some true else some false:Option Bool) fun y31=>some y31
theorem Jw (x0:Job) (y0:Int):Le (Gn x0 y0) (Ew x0 y0):=by
  unfold Gn Ew
  repeat' (first|apply FJ|apply Le.ite|apply Le.bnd|apply Le.fin|apply Le.rng|apply Le.rngN|apply Le.lop|exact Le.rf|intro _)
noncomputable def Ca (x0:List Job) (y0:Int):Option Int :=
  bnd (rng (ρ:=Int) (fun (k12:Nat) (a13:Job) (s10:Unit)=>bnd (Gn a13 y0) fun q52=>if q52=true then some (.ret (k12:Int)) else some (.next ())) x0 0 ()) fun res8=>fin res8 fun (s63:Unit)=>some (-1)
theorem Eb (x0:List Job) (y0:Int):Le (Ca x0 y0) (Bq x0 y0):=by
  unfold Ca Bq
  repeat' (first|apply Jw|apply Le.ite|apply Le.bnd|apply Le.fin|apply Le.rng|apply Le.rngN|apply Le.lop|exact Le.rf|intro _)
noncomputable def BV (x0:List Job) (y0:Int):Option Bool :=
  bnd (bnd (Ca x0 y0) fun q10=>if 0≤q10 then (some true) else (some false):Option Bool) fun y6=>some y6
theorem DP (x0:List Job) (y0:Int):Le (BV x0 y0) (AY x0 y0):=by
  unfold BV AY
  repeat' (first|apply Eb|apply Le.ite|apply Le.bnd|apply Le.fin|apply Le.rng|apply Le.rngN|apply Le.lop|exact Le.rf|intro _)
noncomputable def Gp (x0:Job) (y0:Int):Option Bool :=
  bnd (bnd (Cx x0.start y0) fun q35=>if q35=true then some true else bnd (Cx x0.fin y0) fun q42=>if q42=true then some true else some false:Option Bool) fun y31=>some y31
theorem Jy (x0:Job) (y0:Int):Le (Gp x0 y0) (Ex x0 y0):=by
  unfold Gp Ex
  repeat' (first|apply FJ|apply Le.ite|apply Le.bnd|apply Le.fin|apply Le.rng|apply Le.rngN|apply Le.lop|exact Le.rf|intro _)
noncomputable def Cb (x0:List Job) (y0:Int):Option Int :=
  bnd (rng (ρ:=Int) (fun (k12:Nat) (a13:Job) (s10:Unit)=>bnd (Gp a13 y0) fun q52=>if q52=true then some (.ret (k12:Int)) else some (.next ())) x0 0 ()) fun res8=>fin res8 fun (s63:Unit)=>some (-1)
theorem Ec (x0:List Job) (y0:Int):Le (Cb x0 y0) (Br x0 y0):=by
  unfold Cb Br
  repeat' (first|apply Jy|apply Le.ite|apply Le.bnd|apply Le.fin|apply Le.rng|apply Le.rngN|apply Le.lop|exact Le.rf|intro _)
noncomputable def BW (x0:List Job) (y0:Int):Option Bool :=
  bnd (bnd (Cb x0 y0) fun q10=>if 0≤q10 then (some true) else (some false):Option Bool) fun y6=>some y6
theorem DQ (x0:List Job) (y0:Int):Le (BW x0 y0) (Bl x0 y0):=by
  unfold BW Bl
  repeat' (first|apply Ec|apply Le.ite|apply Le.bnd|apply Le.fin|apply Le.rng|apply Le.rngN|apply Le.lop|exact Le.rf|intro _)
noncomputable def Hc (x0:Tpl):Option Lay :=
  bnd (ED x0.vars) fun q29=>bnd (some q29:Option (List Int)) fun y31=>bnd (rng (ρ:=Lay) (fun (k81:Nat) (a82:Job) (s79:(List Int))=>bnd (chkI (a82.dur + 2)) fun n132=>bnd (appI 8 s79 ([n132,2]:List Int)) fun u141=>some (.next u141)) x0.jobs 0 y31) fun res77=>fin res77 fun (s158:(List Int))=>bnd (rng (ρ:=Lay) (fun (k166:Nat) (a167:Int) (s164:(List Int)×(List Int)×(List Int))=>bnd (bnd (BV x0.jobs (k166:Int)) fun q204=>if q204=true then bnd (appI 8 s164.2.2 [2]) fun u213=>bnd (BW x0.jobs (k166:Int)) fun q227=>if q227=true then bnd (appI 8 u213 [2]) fun u236=>some ((s164.2.2.length:Int),(u213.length:Int),u236) else some ((s164.2.2.length:Int),(-1),u213) else some ((-1),(-1),s164.2.2):Option (Int×Int×(List Int))) fun y196=>bnd (appI 8 s164.1 ([y196.1]:List Int)) fun u254=>bnd (appI 8 s164.2.1 ([y196.2.1]:List Int)) fun u256=>some (.next (u254,u256,y196.2.2))) x0.vars 0 (([]:List Int),([]:List Int),s158)) fun res162=>fin res162 fun (s358:(List Int)×(List Int)×(List Int))=>bnd (chkI ((x0.jobs.length:Int) + 2)) fun n366=>bnd (appI 8 s358.2.2 [n366]) fun u369=>some (⟨(x0.vars.length:Int),s358.1,s358.2.1,(s358.2.2.length:Int),u369⟩:Lay)
theorem KS (x0:Tpl):Le (Hc x0) (DZ x0):=by
  unfold Hc DZ
  repeat' (first|apply FH|apply DP|apply DQ|apply Le.ite|apply Le.bnd|apply Le.fin|apply Le.rng|apply Le.rngN|apply Le.lop|exact Le.rf|intro _)
noncomputable def BU (x0:Lay) (x1:Int):Option Int :=
  bnd (chkI (2 * x1)) fun n23=>bnd (chkI (x0.jobs + n23)) fun n26=>some n26
theorem FN (x0:Lay) (x1:Int):Le (BU x0 x1) (BC x0 x1):=by
  unfold BU BC
  repeat' (first|apply Le.ite|apply Le.bnd|apply Le.fin|apply Le.rng|apply Le.rngN|apply Le.lop|exact Le.rf|intro _)
noncomputable def Dd (x0:Lay) (x1:Int):Option Int :=
  bnd (chkI (2 * x1)) fun n23=>bnd (chkI (x0.jobs + n23)) fun n26=>bnd (chkI (n26 + 1)) fun n29=>some n29
theorem FX (x0:Lay) (x1:Int):Le (Dd x0 x1) (Co x0 x1):=by
  unfold Dd Co
  repeat' (first|apply Le.ite|apply Le.bnd|apply Le.fin|apply Le.rng|apply Le.rngN|apply Le.lop|exact Le.rf|intro _)
noncomputable def EL (x0:Lay) (x1:List Fct) (x2:List Fct):Option ((List Fct)×(List Eff)) :=
  bnd (rng (ρ:=(List Fct)×(List Eff)) (fun (k34:Nat) (a35:Int) (s32:(List Fct)×(List Eff))=>bnd (Cx x2 (k34:Int)) fun q53=>if q53=true then bnd (appI 16 s32.1 [(⟨a35,0⟩:Fct)]) fun u135=>bnd (bnd (x0.read[k34]?) fun a153=>if 0≤a153 then (bnd (x0.read[k34]?) fun a164=>bnd (appI 16 u135 [(⟨a164,0⟩:Fct)]) fun u174=>some u174) else (some u135):Option (List Fct)) fun y147=>bnd (appI 40 s32.2 [(⟨([]:List Fct),a35,1⟩:Eff)]) fun u198=>some (.next (y147,u198)) else bnd (bnd (Cx x1 (k34:Int)) fun q64=>if q64=true then if 0≤a35 then (some true) else (some false) else some false:Option Bool) fun y60=>if y60=true then (bnd (appI 16 s32.1 [(⟨a35,0⟩:Fct)]) fun u93=>bnd (x0.read[k34]?) fun a105=>bnd (appI 40 s32.2 [(⟨([]:List Fct),a105,1⟩:Eff)]) fun u115=>some (.next (u93,u115))) else (some (.next (s32.1,s32.2)))) x0.write 0 (([]:List Fct),([]:List Eff))) fun res30=>fin res30 fun (s214:(List Fct)×(List Eff))=>some (s214.1,s214.2)
theorem HF (x0:Lay) (x1:List Fct) (x2:List Fct):Le (EL x0 x1 x2) (CQ x0 x1 x2):=by
  unfold EL CQ
  repeat' (first|apply FJ|apply Le.ite|apply Le.bnd|apply Le.fin|apply Le.rng|apply Le.rngN|apply Le.lop|exact Le.rf|intro _)
noncomputable def CT (x0:Lay) (x1:ByteArray) (x2:List Fct) (x3:List Fct) (x4:List Fct) (x5:List Eff):Option Opr :=
  bnd (CI [x2,x4,[(⟨x0.phase,0⟩:Fct)]]) fun q56=>bnd (rng (ρ:=Opr) (fun (k79:Nat) (a80:Fct) (s77:(List Eff))=>bnd (appI 40 s77 [(⟨([]:List Fct),a80.var,a80.val⟩:Eff)]) fun u110=>some (.next u110)) x3 0 ([]:List Eff)) fun res75=>fin res75 fun (s128:(List Eff))=>bnd (EL x0 x2 x3) fun q130=>bnd (appI 16 q56 q130.1) fun u145=>bnd (Cz [s128,x5,q130.2]) fun q168=>bnd (srtE u145) fun u185=>some (⟨x1,0,u185,q168⟩:Opr)
theorem GW (x0:Lay) (x1:ByteArray) (x2:List Fct) (x3:List Fct) (x4:List Fct) (x5:List Eff):Le (CT x0 x1 x2 x3 x4 x5) (Ch x0 x1 x2 x3 x4 x5):=by
  unfold CT Ch
  repeat' (first|apply FM|apply Fk|apply HF|exact fun r h=>Oz h|apply Le.bnd|apply Le.fin|apply Le.rng|apply Le.ite|exact Le.rf|intro _)
noncomputable def EU (x0:Lay) (x1:Job) (x2:Int) (x3:Int):Option Opr :=
  bnd (catI (⟨#[119,97,105,116,32]⟩:ByteArray) x1.name) fun n58=>bnd (catI n58 (⟨#[32]⟩:ByteArray)) fun n60=>bnd (Ik x3) fun q62=>bnd (catI n60 q62) fun n64=>bnd (some ():Option Unit) fun y66=>bnd (if 0 < x3 then (bnd (CR x1.over) fun q108=>some q108) else (some ([]:List Fct)):Option (List Fct)) fun y101=>bnd (chkI (x2 + 1)) fun n124=>bnd (BU x0 x2) fun q127=>bnd (appI 16 y101 [(⟨q127,x3⟩:Fct),(⟨x0.phase,n124⟩:Fct)]) fun u141=>bnd (if 1 < x3 then (bnd (chkI (x3 - 1)) fun n161=>bnd (BU x0 x2) fun q164=>bnd (appI 40 ([]:List Eff) [(⟨([]:List Fct),q164,n161⟩:Eff)]) fun u180=>some u180) else (if x3=1 then (bnd (chkI (x1.dur + 1)) fun n194=>bnd (BU x0 x2) fun q197=>bnd (appI 40 ([]:List Eff) [(⟨([]:List Fct),q197,n194⟩:Eff)]) fun u213=>some u213) else (some ([]:List Eff))):Option (List Eff)) fun y154=>bnd (chkI (x2 + 2)) fun n230=>bnd (appI 40 y154 [(⟨([]:List Fct),x0.phase,n230⟩:Eff)]) fun u233=>some (⟨n64,0,u141,u233⟩:Opr)
theorem HW (x0:Lay) (x1:Job) (x2:Int) (x3:Int):Le (EU x0 x1 x2 x3) (Db x0 x1 x2 x3):=by
  unfold EU Db
  repeat' (first|apply FN|apply Eg|apply KD|apply Le.ite|apply Le.bnd|apply Le.fin|apply Le.rng|apply Le.rngN|apply Le.lop|exact Le.rf|intro _)
noncomputable def EA (x0:Lay) (x1:Int):Option Opr :=
  bnd (chkI (x1 + 1)) fun n28=>bnd (natI x1) fun N57=>bnd (rngN (ρ:=Opr) (fun (k48:Nat) (s46:(List Eff))=>bnd (Dd x0 (k48:Int)) fun q63=>bnd (appI 40 s46 [(⟨([]:List Fct),q63,0⟩:Eff)]) fun u77=>some (.next u77)) N57 ([]:List Eff)) fun res44=>fin res44 fun (s94:(List Eff))=>bnd (rng (ρ:=Opr) (fun (k102:Nat) (a103:Int) (s100:(List Eff))=>bnd (if 0≤a103 then (bnd (appI 40 s100 [(⟨([]:List Fct),a103,0⟩:Eff)]) fun u146=>some u146) else (some s100):Option (List Eff)) fun y117=>bnd (x0.read[k102]?) fun a163=>if 0≤a163 then (bnd (x0.read[k102]?) fun a174=>bnd (appI 40 y117 [(⟨([]:List Fct),a174,0⟩:Eff)]) fun u190=>some (.next u190)) else (some (.next y117))) x0.write 0 s94) fun res98=>fin res98 fun (s207:(List Eff))=>bnd (appI 40 s207 [(⟨([]:List Fct),x0.phase,0⟩:Eff)]) fun u209=>some (⟨(⟨#[97,100,118,97,110,99,101]⟩:ByteArray),1,[(⟨x0.phase,n28⟩:Fct)],u209⟩:Opr)
theorem Hk (x0:Lay) (x1:Int):Le (EA x0 x1) (CD x0 x1):=by
  unfold EA CD
  repeat' (first|apply FX|apply Le.ite|apply Le.bnd|apply Le.fin|apply Le.rng|apply Le.rngN|apply Le.lop|exact Le.rf|intro _)
noncomputable def EN (x0:Tpl):Option (Tsk×Err) :=
  bnd (Fg x0) fun q29=>if q29.n≠0 then (some ((⟨([]:List Int),([]:List Int),([]:List Fct),([]:List Opr)⟩:Tsk),(⟨q29.n⟩:Err))) else (bnd (Hc x0) fun q40=>bnd (mkI 8 (0:Int) (q40.vars.length:Int)) fun u69=>bnd (CR x0.goal) fun q71=>bnd (some (u69,q71):Option ((List Int)×(List Fct))) fun y73=>bnd (rng (ρ:=Tsk×Err) (fun (k228:Nat) (a229:Job) (s226:(List Fct)×(List Opr))=>bnd (BU q40 (k228:Int)) fun q283=>bnd (Dd q40 (k228:Int)) fun q285=>bnd (some ():Option Unit) fun y287=>bnd (catI (⟨#[115,116,97,114,116,32]⟩:ByteArray) a229.name) fun n533=>bnd (BU q40 (k228:Int)) fun q535=>bnd (CT q40 n533 a229.start a229.atStart [(⟨q283,0⟩:Fct),(⟨q285,0⟩:Fct)] [(⟨([]:List Fct),q535,a229.dur⟩:Eff)]) fun q537=>bnd (appI 72 s226.2 [q537]) fun u539=>bnd (some u539:Option (List Opr)) fun y541=>bnd (chkI (a229.dur + 1)) fun n710=>bnd (BU q40 (k228:Int)) fun q712=>bnd (some ():Option Unit) fun y714=>bnd (catI (⟨#[101,110,100,32]⟩:ByteArray) a229.name) fun n752=>bnd (BU q40 (k228:Int)) fun q754=>bnd (Dd q40 (k228:Int)) fun q756=>bnd (CT q40 n752 a229.fin a229.atEnd [(⟨q712,n710⟩:Fct)] [(⟨([]:List Fct),q754,0⟩:Eff),(⟨([]:List Fct),q756,1⟩:Eff)]) fun q758=>bnd (appI 72 y541 [q758]) fun u760=>bnd (some u760:Option (List Opr)) fun y762=>bnd (appI 16 s226.1 [(⟨q283,0⟩:Fct)]) fun u998=>some (.next (u998,y762))) x0.jobs 0 (y73.2,([]:List Opr))) fun res224=>fin res224 fun (s1016:(List Fct)×(List Opr))=>bnd (appI 16 s1016.1 [(⟨q40.phase,0⟩:Fct)]) fun u1018=>bnd (if 0 < (x0.jobs.length:Int) then (bnd (appI 72 s1016.2 [(⟨(⟨#[116,105,99,107]⟩:ByteArray),0,[(⟨q40.phase,0⟩:Fct)],[(⟨([]:List Fct),q40.phase,1⟩:Eff)]⟩:Opr)]) fun u1057=>bnd (rng (ρ:=(List Opr)) (fun (k1077:Nat) (a1078:Job) (s1075:(List Opr))=>bnd (chkI (a1078.dur + 1)) fun n1128=>bnd (natI n1128) fun N1144=>bnd (rngN (ρ:=Ctl (List Opr) (List Opr)) (fun (k1135:Nat) (s1133:(List Opr))=>bnd (EU q40 a1078 (k1077:Int) (k1135:Int)) fun q1150=>bnd (appI 72 s1133 [q1150]) fun u1174=>some (.next u1174)) N1144 s1075) fun res1131=>fin res1131 fun (s1191:(List Opr))=>some (.next s1191)) x0.jobs 0 u1057) fun res1073=>fin res1073 fun (s1197:(List Opr))=>bnd (EA q40 (x0.jobs.length:Int)) fun q1201=>bnd (appI 72 s1197 [q1201]) fun u1225=>some u1225) else (some s1016.2):Option (List Opr)) fun y1032=>bnd (Jg (⟨q40.vars,(cpyL y73.1 x0.init),u1018,y1032⟩:Tsk)) fun q1248=>if q1248.n≠0 then (some ((⟨([]:List Int),([]:List Int),([]:List Fct),([]:List Opr)⟩:Tsk),(⟨q1248.n⟩:Err))) else (some ((⟨q40.vars,(cpyL y73.1 x0.init),u1018,y1032⟩:Tsk),(⟨0⟩:Err))))
theorem GX (x0:Tpl):Le (EN x0) (Ce x0):=by
  unfold EN Ce
  repeat' (first|apply KS|apply Hk|apply FX|apply GW|apply FN|apply HW|apply Eg|apply Ln|apply Hd|apply Le.ite|apply Le.bnd|apply Le.fin|apply Le.rng|apply Le.rngN|apply Le.lop|exact Le.rf|intro _)
noncomputable def CA (x0:List Lch) (x1:Lch):Option Int :=
  bnd (rng (ρ:=Int) (fun (k19:Nat) (a20:Lch) (s17:Unit)=>if x1.tm=a20.tm∧x1.job=a20.job then (some (.ret (k19:Int))) else (some (.next ()))) x0 0 ()) fun res15=>fin res15 fun (s44:Unit)=>some (-1)
theorem Fv (x0:List Lch) (x1:Lch):Le (CA x0 x1) (BR x0 x1):=by
  unfold CA BR
  repeat' (first|apply Le.ite|apply Le.bnd|apply Le.fin|apply Le.rng|apply Le.rngN|apply Le.lop|exact Le.rf|intro _)
noncomputable def Cv (x0:List Lch) (x1:Lch):Option Bool :=
  bnd (bnd (CA x0 x1) fun q17=>if 0≤q17 then (some true) else (some false):Option Bool) fun y13=>some y13
theorem EW (x0:List Lch) (x1:Lch):Le (Cv x0 x1) (BG x0 x1):=by
  unfold Cv BG
  repeat' (first|apply Fv|apply Le.ite|apply Le.bnd|apply Le.fin|apply Le.rng|apply Le.rngN|apply Le.lop|exact Le.rf|intro _)
noncomputable def EV (x0:Wtr):Option Wtr :=
  bnd (chkI (2 * (x0.t.jobs.length:Int))) fun n40=>bnd (appI 8 x0.out ([n40]:List Int)) fun u49=>bnd (rng (ρ:=Wtr) (fun (k73:Nat) (a74:Job) (s71:Wtr)=>bnd (s71.first[k73]?) fun a122=>bnd (s71.left[k73]?) fun a132=>bnd (chkI (a122 + a132)) fun n142=>bnd (appI 8 s71.out ([n142]:List Int)) fun u151=>bnd (s71.left[k73]?) fun a164=>bnd (chkI (a164 - 1)) fun n174=>bnd (s71.left[k73]?) fun a177=>some (.next (⟨(⟨s71.t.vars,s71.t.init,s71.t.goal,s71.t.jobs⟩:Tpl),s71.first,s71.last,(s71.left.set k73 (max 0 n174)),u151⟩:Wtr))) x0.t.jobs 0 (⟨(⟨x0.t.vars,x0.t.init,x0.t.goal,x0.t.jobs⟩:Tpl),x0.first,x0.last,x0.left,u49⟩:Wtr)) fun res69=>fin res69 fun (s198:Wtr)=>bnd (appI 8 s198.out ([s198.last]:List Int)) fun u242=>some (⟨(⟨s198.t.vars,s198.t.init,s198.t.goal,s198.t.jobs⟩:Tpl),s198.first,s198.last,s198.left,u242⟩:Wtr)
theorem HX (x0:Wtr):Le (EV x0) (Dc x0):=by
  unfold EV Dc
  repeat' (first|apply Le.ite|apply Le.bnd|apply Le.fin|apply Le.rng|apply Le.rngN|apply Le.lop|exact Le.rf|intro _)
noncomputable def GN (x0:Tpl) (x1:List Lch):Option ((List Int)×Err) :=
  bnd (Fu x0 x1) fun q27=>if q27.2.n≠0 then (some (([]:List Int),(⟨q27.2.n⟩:Err))) else (bnd (EN x0) fun q41=>if q41.2.n≠0 then (some (([]:List Int),(⟨q41.2.n⟩:Err))) else (bnd (chkI (2 * (x1.length:Int))) fun n80=>bnd (chkI ((x0.jobs.length:Int) + 2)) fun n85=>bnd (chkI (q27.1 * n85)) fun n88=>bnd (chkI (n80 + n88)) fun n91=>if 65536 < n91 then (some (([]:List Int),(⟨5⟩:Err))) else (bnd (chkI ((q41.1.ops.length:Int) - 1)) fun n97=>bnd (mkI 8 (0:Int) (x0.jobs.length:Int)) fun u102=>bnd (chkI (2 * (x0.jobs.length:Int))) fun n122=>bnd (chkI (n122 + 1)) fun n125=>bnd (rng (ρ:=(List Int)×Err) (fun (k143:Nat) (a144:Job) (s141:Int×Wtr)=>bnd (appI 8 s141.2.first [s141.1]) fun u230=>bnd (chkI (a144.dur + 1)) fun n244=>bnd (chkI (s141.1 + n244)) fun n247=>some (.next (n247,(⟨(⟨s141.2.t.vars,s141.2.t.init,s141.2.t.goal,s141.2.t.jobs⟩:Tpl),u230,s141.2.last,s141.2.left,s141.2.out⟩:Wtr)))) x0.jobs 0 (n125,(⟨(⟨x0.vars,x0.init,x0.goal,x0.jobs⟩:Tpl),([]:List Int),n97,u102,([]:List Int)⟩:Wtr))) fun res139=>fin res139 fun (s259:Int×Wtr)=>bnd (HC x1) fun q261=>bnd (chkI (q27.1 + 1)) fun n270=>bnd (natI n270) fun N286=>bnd (rngN (ρ:=(List Int)×Err) (fun (k277:Nat) (s275:Wtr)=>bnd (rng (ρ:=Ctl Wtr ((List Int)×Err)) (fun (k296:Nat) (a297:Job) (s294:Wtr)=>bnd (chkI ((k277:Int) - a297.dur)) fun n345=>bnd (Cv x1 (⟨n345,(k296:Int)⟩:Lch)) fun q348=>if q348=true then bnd (chkI (2 * (k296:Int))) fun n391=>bnd (chkI (n391 + 1)) fun n394=>bnd (appI 8 s294.out [n394]) fun u397=>some (.next (⟨(⟨s294.t.vars,s294.t.init,s294.t.goal,s294.t.jobs⟩:Tpl),s294.first,s294.last,s294.left,u397⟩:Wtr)) else some (.next s294)) x0.jobs 0 s275) fun res292=>fin res292 fun (s420:Wtr)=>bnd (rng (ρ:=Ctl Wtr ((List Int)×Err)) (fun (k428:Nat) (a429:Lch) (s426:Wtr)=>if a429.tm=(k277:Int) then (bnd (chkI (2 * a429.job)) fun n494=>bnd (appI 8 s426.out ([n494]:List Int)) fun u503=>bnd (atI x0.jobs a429.job) fun a516=>bnd (atI s426.left a429.job) fun a549=>some (.next (⟨(⟨s426.t.vars,s426.t.init,s426.t.goal,s426.t.jobs⟩:Tpl),s426.first,s426.last,(s426.left.set (a429.job:Int).toNat a516.dur),u503⟩:Wtr))) else (some (.next s426))) q261 0 s420) fun res424=>fin res424 fun (s572:Wtr)=>if (k277:Int) < q27.1 then (bnd (EV s572) fun q575=>some (.next q575)) else (some (.next s572))) N286 s259.2) fun res273=>fin res273 fun (s587:Wtr)=>some (s587.out,(⟨0⟩:Err)))))
theorem KE (x0:Tpl) (x1:List Lch):Le (GN x0 x1) (CG x0 x1):=by
  unfold GN CG
  repeat' (first|apply GX|apply Js|apply HX|apply EW|apply ID|apply Le.ite|apply Le.bnd|apply Le.fin|apply Le.rng|apply Le.rngN|apply Le.lop|exact Le.rf|intro _)
noncomputable def GB  : Option Tpl :=
  some (⟨([2]:List Int),([0]:List Int),[(⟨0,0⟩:Fct)],[(⟨(⟨#[108,105,103,104,116]⟩:ByteArray),3,[(⟨0,0⟩:Fct)],[(⟨0,1⟩:Fct)],([]:List Fct),[(⟨0,1⟩:Fct)],[(⟨0,0⟩:Fct)]⟩:Job)]⟩:Tpl)
theorem Lp  : Le (GB ) (ER ):=by
  unfold GB ER
  repeat' (first|apply Le.ite|apply Le.bnd|apply Le.fin|apply Le.rng|apply Le.rngN|apply Le.lop|exact Le.rf|intro _)
noncomputable def II  : Option Bool :=
  bnd (GB) fun q1=>bnd (EN q1) fun q25=>bnd (GB) fun q61=>bnd (GN q61 [(⟨0,0⟩:Lch)]) fun q93=>bnd (if q25.2.n=0 then (if q93.2.n=0 then (bnd (GS q25.1.vars ([2,5,2,2,2,3]:List Int)) fun q119=>if q119=true then bnd (GS q93.1 ([0,2,6,7,2,5,7,2,4,7,1]:List Int)) fun q132=>if q132=true then some true else some false else some false) else (some false)) else (some false):Option Bool) fun y107=>some y107
theorem KT  : Le (II ) (Ea ):=by
  unfold II Ea
  repeat' (first|apply Ma|apply GX|apply KE|apply Lp|apply Le.ite|apply Le.bnd|apply Le.fin|apply Le.rng|apply Le.rngN|apply Le.lop|exact Le.rf|intro _)
set_option maxRecDepth 100000 in
theorem awake56:Ea=some true:=KT true (by kernel_rfl)
end
section
open Go Go.RowKit
theorem Jk {α ρ:Type} {f:Nat→α→Unit→Option (Ctl Unit ρ)} (p:α→Bool) (c:Nat→ρ):∀ (xs:List α) (k0:Nat),(∀ k a,xs[k]?=some a→f (k0 + k) a ()=if p a=true then some (.ret (c (k0 + k))) else some (.next ())) →
    (xs.any p=true→∃ k,rng f xs k0 ()=some (.ret (c k))∧k0≤k)∧(xs.any p=false→rng f xs k0 ()=some (.done ()))
  | [],k0,_=>⟨fun h=>by simp at h,fun _=>rfl⟩
  | x :: xs,k0,h=>by
    have h0:=h 0 x rfl
    rw [Nat.add_zero] at h0
    have ih:=Jk p c xs (k0 + 1) fun k a hk=>by
      have:=h (k + 1) a (by simpa using hk)
      rwa [show k0 + (k + 1)=k0 + 1 + k from by omega] at this
    by_cases hp:p x=true
    · rw [if_pos hp] at h0
      refine ⟨fun _=>⟨k0,by rw [rng,h0],Nat.le_refl _⟩,fun hf=>?_⟩
      simp [hp] at hf
    · rw [if_neg hp] at h0
      have hp':p x=false:=by simpa using hp
      refine ⟨fun ha=>?_,fun hf=>?_⟩
      · obtain ⟨k,h1,h2⟩:=ih.1 (by simpa [hp'] using ha)
        exact ⟨k,by rw [rng,h0];exact h1,by omega⟩
      · rw [rng,h0];exact ih.2 (by simpa [hp'] using hf)
theorem In {α ρ β:Type} {f:Nat→α→Unit→Option (Ctl Unit ρ)} {xs:List α} {K:Fin Unit ρ→Option β} (p:α→Bool) (c:ρ) (h:∀ k a,xs[k]?=some a→f k a ()=if p a=true then some (.ret c) else some (.next ())) :
    bnd (rng f xs 0 ()) K=if xs.any p=true then K (.ret c) else K (.done ()):=by
  have:=Jk (f:=f) p (fun _=>c) xs 0 (fun k a hk=>by rw [Nat.zero_add];exact h k a hk)
  by_cases ha:xs.any p=true
  · obtain ⟨k,h1,_⟩:=this.1 ha
    rw [h1,AE,if_pos ha]
  · rw [this.2 (by simpa using ha),AE,if_neg ha]
theorem Lx {p q:Prop} [Decidable p] [Decidable q]:(if p then some true else if q then some true else some false:Option Bool)=some (decide p || decide q):=by
  by_cases hp:p
  · simp [hp]
  · by_cases hq:q<;>simp [hp,hq]
def lstJ (j:Job):List (List Fct):=[j.start,j.over,j.fin,j.atStart,j.atEnd]
def lsts (t:Tpl):List (List Fct):=t.goal :: t.jobs.flatMap lstJ
theorem NN {t:Tpl} (h:t.jobs.length≤30):CU t=some (lsts t):=by
  unfold CU
  have hl:∀ k,((t.jobs.take k).flatMap lstJ).length≤150:=fun k=>by
    have:∀ js:List Job,(js.flatMap lstJ).length=5 * js.length:=fun js=>by
      induction js with
      | nil=>rfl
      | cons j js ih=>rw [List.flatMap_cons,List.length_append,ih];simp [lstJ];omega
    rw [this,List.length_take];omega
  rw [LY (fun k=>t.goal :: (t.jobs.take k).flatMap lstJ) (by simp) (fun k x hk=>by
    have h1:=hl k
    rw [Jm (by rw [List.length_cons];simp only [List.length_cons,List.length_nil];omega) (by rw [List.length_cons];simp only [List.length_cons,List.length_nil];omega),AE,List.take_add_one,hk]
    simp [lstJ]),AE,Fw,List.take_length]
  rfl
theorem Nq (s:ByteArray):∃ b,Ct s=some b:=by
  unfold Ct
  unfold rngN
  rw [In (fun k:Nat=>match bytI s (k:Int) with|some n=>decide (n < 32) || decide (126 < n)|none=>false) false (fun k a hk=>by
    have ha:a < s.size:=by
      have:=List.mem_of_getElem? hk
      simpa using this
    simp only [Og ha,AE,Lx])]
  split
  · exact ⟨_,rfl⟩
  · rw [Fw]
    split
    · exact ⟨_,rfl⟩
    · exact ⟨_,rfl⟩
noncomputable def nmB (s:ByteArray):Bool:=(Ct s).getD false
theorem Pa (s:ByteArray):Ct s=some (nmB s):=by
  obtain ⟨b,hb⟩:=Nq s
  unfold nmB
  rw [hb];rfl
noncomputable def tck (t:Tpl):Int :=
  if (decide (64 < t.vars.length) || (decide (24 < t.jobs.length) || (lsts t).any fun l=>decide (64 < l.length)))=true then 5
  else if (t.vars.any fun n=>decide (n < 1) || decide (64 < n))=true then 1
  else if (t.jobs.any fun j=>decide (j.dur < 1) || decide (62 < j.dur))=true then 1
  else if bof (StateOk t.vars t.init)=true then
    (if ((lsts t).any fun l=>!bof (FactsOk t.vars l))=true then 2
     else if (t.jobs.any fun j=>!nmB j.name)=true then 8 else 0)
  else 2
theorem Mb {α:Type} {f:Nat→α→Unit→Option (Ctl Unit Int)} {xs:List α} (p:α→Bool) (h:∀ k a,xs[k]?=some a→f k a ()=if p a=true then some (.ret (k:Int)) else some (.next ())) :
    (bnd (bnd (bnd (rng f xs 0 ()) fun res=>fin res fun _=>some (-1)) fun q=>if 0≤q then (some true) else (some false):Option Bool) fun y=>some y)=some (xs.any p):=by
  have:=Jk (f:=f) p (fun k=>(k:Int)) xs 0 (fun k a hk=>by rw [Nat.zero_add];exact h k a hk)
  by_cases ha:xs.any p=true
  · obtain ⟨k,h1,_⟩:=this.1 ha
    rw [h1,AE,Pr,AE,if_pos (by omega),AE,ha]
  · rw [this.2 (by simpa using ha),AE,Fw,AE,if_neg (by omega),AE]
    rw [Bool.not_eq_true] at ha
    rw [ha]
theorem contains1 (q:List (List Fct)):AO q=some (q.any fun l=>decide (64 < l.length)):=by
  unfold AO AV
  exact Mb _ fun k a hk=>by
    unfold CN
    by_cases h:64 < a.length
    · rw [if_pos (by omega:(64:Int) < (a.length:Int))];simp [h,AE]
    · rw [if_neg (by omega:¬ (64:Int) < (a.length:Int))];simp [h,AE]
theorem contains2 (q:List (List Fct)) (t:Tpl):AP q t=some (q.any fun l=>!bof (FactsOk t.vars l)):=by
  unfold AP AW
  exact Mb _ fun k a hk=>by
    unfold CO FF
    rw [AE]
    cases bof (FactsOk t.vars a)<;>rfl
theorem Jl {t:Tpl} (h:t.jobs.length≤30):Cu t=some ⟨tck t⟩:=by
  unfold Cu
  rw [NN h,AE,contains1,AE]
  have e1:(if 64 < (t.vars.length:Int) then (some true) else (if 24 < (t.jobs.length:Int) then (some true) else (if ((lsts t).any fun l=>decide (64 < l.length))=true then some true else some false)):Option Bool)=some (decide (64 < t.vars.length) || (decide (24 < t.jobs.length) || (lsts t).any fun l=>decide (64 < l.length))):=by
    by_cases h1:64 < t.vars.length
    · rw [if_pos (by omega)];simp [h1]
    · rw [if_neg (by omega)]
      by_cases h2:24 < t.jobs.length
      · rw [if_pos (by omega)];simp [h2]
      · rw [if_neg (by omega)]
        cases (lsts t).any fun l=>decide (64 < l.length)<;>simp [h1,h2]
  rw [e1,AE]
  unfold tck
  split
  · rfl
  rw [In (fun n:Int=>decide (n < 1) || decide (64 < n)) ⟨1⟩ (fun k a hk=>by rw [Lx,AE])]
  split
  · rfl
  rw [Fw,In (fun j:Job=>decide (j.dur < 1) || decide (62 < j.dur)) ⟨1⟩ (fun k a hk=>by rw [Lx,AE])]
  split
  · rfl
  rw [Fw]
  unfold Fj
  rw [AE]
  cases bof (StateOk t.vars t.init) with
  | false=>rfl
  | true =>
    rw [GM,GM,contains2,AE]
    cases (lsts t).any fun l=>!bof (FactsOk t.vars l) with
    | true=>rfl
    | false =>
      rw [Jd,Jd,AE,Jd]
      rw [In (fun j:Job=>!nmB j.name) ⟨8⟩ (fun k a hk=>by
        rw [Pa,AE]
        cases nmB a.name<;>rfl)]
      split<;>rfl
structure TplOk (t:Tpl):Prop where
  nv:t.vars.length≤64
  nj:t.jobs.length≤24
  doms:∀ n∈t.vars,1≤n∧n≤64
  durs:∀ j∈t.jobs,1≤j.dur∧j.dur≤62
  init:StateOk t.vars t.init
  lists:∀ l∈lsts t,l.length≤64∧FactsOk t.vars l
theorem Pb {t:Tpl} (h:tck t=0):TplOk t:=by
  unfold tck at h
  split at h
  · cases h
  rename_i h1
  split at h
  · cases h
  rename_i h2
  split at h
  · cases h
  rename_i h3
  split at h
  · rename_i h4
    split at h
    · cases h
    rename_i h5
    simp only [Bool.or_eq_true,decide_eq_true_eq,List.any_eq_true,not_or,not_exists,not_and] at h1 h2 h3
    simp only [List.any_eq_true,not_exists,not_and,Bool.not_eq_true',Bool.not_eq_false] at h5
    refine ⟨by omega,by omega,fun n hn=>?_,fun j hj=>?_,Hq.1 h4,fun l hl=>⟨?_,Hq.1 (h5 l hl)⟩⟩
    · have:=h2 n hn;omega
    · have:=h3 j hj;omega
    · have:=h1.2.2 l hl;omega
  · cases h
end
section
open Go Go.RowKit
def hasV (l:List Fct) (v:Int):Bool:=l.any fun f=>decide (f.var=v)
def wrT (t:Tpl) (v:Int):Bool:=t.jobs.any fun j=>hasV j.atStart v || hasV j.atEnd v
def rdT (t:Tpl) (v:Int):Bool:=t.jobs.any fun j=>hasV j.start v || hasV j.fin v
abbrev Ky:=Nat×Nat
def mkK (t:Tpl) (v:Nat):List Ky:=if wrT t (v:Int)=true then (3,v) :: (if rdT t (v:Int)=true then [(4,v)] else []) else []
def ksM (t:Tpl) (n:Nat):List Ky:=(List.range n).flatMap (mkK t)
def ksJ (n:Nat):List Ky:=(List.range n).flatMap fun i=>[(1,i),(2,i)]
def keys (t:Tpl):List Ky:=(List.range t.vars.length).map (fun v=>(0,v)) ++ (ksJ t.jobs.length ++ (ksM t t.vars.length ++ [(5,0)]))
abbrev KSt:=Ky→Int
def enc (t:Tpl) (σ:KSt):List Int:=(keys t).map σ
end
section
open Go Go.RowKit
theorem factsPw {vars:List Int} {f:List Fct}:FactsOk vars f↔(∀ x∈f,FactOk vars x)∧f.Pairwise fun x y=>x.var < y.var:=by
  constructor
  · intro h
    refine ⟨fun x hx=>?_,List.pairwise_iff_getElem.2 fun i j hi hj hij=>Ku h j i _ _ hij (List.getElem?_eq_getElem hi) (List.getElem?_eq_getElem hj)⟩
    obtain ⟨i,hi,rfl⟩:=List.getElem_of_mem hx
    exact h.1 i _ (List.getElem?_eq_getElem hi)
  · rintro ⟨h1,h2⟩
    refine ⟨fun i x hx=>h1 x (List.mem_of_getElem? hx),fun i x y hx hy=>?_⟩
    obtain ⟨hi,rfl⟩:=List.getElem?_eq_some_iff.1 hx
    obtain ⟨hj,rfl⟩:=List.getElem?_eq_some_iff.1 hy
    exact List.pairwise_iff_getElem.1 h2 i (i + 1) hi hj (Nat.lt_succ_self i)
theorem OB {vars:List Int} {x:Fct} (h:FactOk vars x):0≤x.var∧x.var < vars.length:=by
  obtain ⟨h1,_,y,h3,_⟩:=h
  have:=CM h3
  omega
theorem NO {vars vs:List Int} {x:Fct} (h:FactOk vars x):FactOk (vars ++ vs) x:=by
  obtain ⟨h1,h2,y,h3,h4⟩:=h
  exact ⟨h1,h2,y,by rw [List.getElem?_append_left (CM h3)];exact h3,h4⟩
theorem TplOk.goal {t:Tpl} (h:TplOk t):t.goal.length≤64∧FactsOk t.vars t.goal:=h.lists _ List.mem_cons_self
def jb (t:Tpl) (i:Nat):Job:=match t.jobs[i]? with|some j=>j|none=>⟨⟨#[]⟩,1,[],[],[],[],[]⟩
abbrev Hh:=Nat×Bool
def hW (t:Tpl) (h:Hh):List Fct:=if h.2=true then (jb t h.1).atEnd else (jb t h.1).atStart
end
section
open Go Go.RowKit
theorem Gt {α σ ρ:Type} {f:Nat→α→σ→Option (Ctl σ ρ)} {k:Nat} {s:σ}:rng f [] k s=some (.done s):=by rw [rng]
theorem OC (t:Tpl) (l:List Lch):∃ b,FV t l=some b∧(b=true→t.vars.length≤70∧t.jobs.length≤30∧l.length≤12∧t.goal.length≤80∧∀ j∈t.jobs,j.name.size≤300):=by
  unfold FV
  by_cases h1:70 < (t.vars.length:Int)
  · rw [if_pos h1,AE,GM];exact ⟨_,rfl,fun h=>by cases h⟩
  rw [if_neg h1]
  by_cases h2:30 < (t.jobs.length:Int)
  · rw [if_pos h2,AE,GM];exact ⟨_,rfl,fun h=>by cases h⟩
  rw [if_neg h2]
  by_cases h3:12 < (l.length:Int)
  · rw [if_pos h3,AE,GM];exact ⟨_,rfl,fun h=>by cases h⟩
  rw [if_neg h3]
  by_cases h4:80 < (t.goal.length:Int)
  · rw [if_pos h4,AE,GM];exact ⟨_,rfl,fun h=>by cases h⟩
  rw [if_neg h4,AE,Jd]
  rw [In (fun j:Job=>decide (100 < wr (wr (wr (wr ((j.start.length:Int) + (j.over.length:Int)) + (j.fin.length:Int)) + (j.atStart.length:Int)) + (j.atEnd.length:Int))) || decide (300 < (j.name.size:Int))) false (fun k a hk=>by rw [Lx,AE])]
  split
  · exact ⟨_,rfl,fun h=>by cases h⟩
  · rename_i h5
    refine ⟨_,rfl,fun _=>⟨by omega,by omega,by omega,by omega,fun j hj=>?_⟩⟩
    simp only [List.any_eq_true,not_exists,not_and,Bool.or_eq_true,decide_eq_true_eq,not_or] at h5
    have:=(h5 j hj).2
    omega
theorem OD {l:List Int} (h:l.length≤1000):Cg l=some l:=if_pos ⟨by omega,by omega⟩
theorem NP {l:List Fct} (h:l.length≤1000):BB l=some l:=if_pos ⟨by omega,by omega⟩
theorem noJob1 (v:Int):AY [] v=some false:=rfl
def tpl0 (t:Tpl):Tpl:=⟨t.vars,t.init,t.goal,[]⟩
theorem lay0 {t:Tpl} (h:t.vars.length≤64):DZ (tpl0 t)=some ⟨(t.vars.length:Int),List.replicate t.vars.length (-1),List.replicate t.vars.length (-1),(t.vars.length:Int),t.vars ++ [2]⟩:=by
  unfold DZ tpl0
  dsimp only
  rw [OD (by omega),AE,AE]
  rw [Gt,AE,Fw]
  rw [LY (fun k=>(List.replicate k (-1),List.replicate k (-1),t.vars)) (by simp) (fun k x hk=>by
    have hlt:=CM hk
    rw [noJob1,AE,Jd,AE]
    rw [Jm (by simp;omega) (by simp;omega),AE,AE]
    simp [List.replicate_succ'])]
  rw [AE,Fw]
  show bnd (chkI ((0:Int) + 2)) _=_
  rw [show chkI ((0:Int) + 2)=some 2 from rfl,AE,Jm (by simp;omega) (by simp;omega),AE]
def out0 (t:Tpl):Tsk:=⟨t.vars ++ [2],t.init ++ [0],t.goal ++ [⟨(t.vars.length:Int),0⟩],[]⟩
theorem OE {t:Tpl} (h:TplOk t):TplOk (tpl0 t):=⟨h.nv,by simp [tpl0],h.doms,fun j hj=>(by cases hj),h.init,fun l hl=>(by
    have:l=t.goal:=by simpa [lsts,tpl0] using hl
    subst this;exact h.goal)⟩
theorem Pc {t:Tpl} (h:TplOk t) (hn:∀ j∈t.jobs,nmB j.name=true):tck t=0:=by
  unfold tck
  rw [if_neg (by
    simp only [Bool.or_eq_true,decide_eq_true_eq,List.any_eq_true,not_or,not_exists,not_and]
    exact ⟨Nat.not_lt.2 h.nv,Nat.not_lt.2 h.nj,fun l hl=>Nat.not_lt.2 (h.lists l hl).1⟩)]
  rw [if_neg (by
    simp only [Bool.or_eq_true,decide_eq_true_eq,List.any_eq_true,not_exists,not_and]
    intro n hn2 hq;have:=h.doms n hn2;omega)]
  rw [if_neg (by
    simp only [Bool.or_eq_true,decide_eq_true_eq,List.any_eq_true,not_exists,not_and]
    intro n hn2 hq;have:=h.durs n hn2;omega)]
  rw [if_pos (De h.init)]
  rw [if_neg (by
    simp only [List.any_eq_true,not_exists,not_and]
    intro l hl;rw [De (h.lists l hl).2];decide)]
  rw [if_neg (by
    simp only [List.any_eq_true,not_exists,not_and]
    intro j hj;rw [hn j hj];decide)]
theorem tck0 {t:Tpl} (h:TplOk t):tck (tpl0 t)=0:=Pc (OE h) fun j hj=>by cases hj
theorem cpy0 {l:List Int} {n:Nat} (h:l.length=n):cpyL (List.replicate (n + 1) (0:Int)) l=l ++ [0]:=by
  unfold cpyL
  subst h
  rw [List.length_replicate,List.take_of_length_le (by omega),List.drop_replicate,show l.length + 1 - l.length=1 from by omega]
  rfl
theorem compile0 {t:Tpl} (h:TplOk t):Ce (tpl0 t)=some (if checkN (out0 t)≠0 then (⟨[],[],[],[]⟩,⟨checkN (out0 t)⟩) else (out0 t,⟨0⟩)):=by
  have hn:=h.nv
  have hg:=h.goal.1
  unfold Ce
  rw [Jl (by simp [tpl0]),tck0 h,AE,if_neg (by simp),lay0 hn,AE]
  dsimp only
  rw [OQ (by simp;omega) (by simp;omega),AE]
  rw [show (tpl0 t).goal=t.goal from rfl,NP (by omega),AE,AE]
  rw [show (tpl0 t).jobs=[] from rfl,Gt,AE,Fw]
  dsimp only
  rw [Jm (by simp;omega) (by simp;omega),AE,if_neg (by simp),AE]
  rw [show (tpl0 t).init=t.init from rfl,show (t.vars ++ [(2:Int)]).length=t.vars.length + 1 from by simp,cpy0 h.init.1]
  unfold FG
  rw [AE]
  show (if checkN (out0 t)≠0 then _ else _)=_
  by_cases hc:checkN (out0 t)≠0
  · rw [if_pos hc,if_pos hc];rfl
  · rw [if_neg hc,if_neg hc];rfl
theorem IE {t:Tpl} (h:TplOk t):(t.vars.length < 64→checkN (out0 t)=0)∧(64≤t.vars.length→checkN (out0 t)=5):=by
  constructor
  · intro hl
    refine LP.2 ⟨by simp [out0];omega,by simp [out0],fun i n hn=>?_,⟨?_,fun i x y hx hy=>?_⟩,factsPw.2 ⟨fun x hx=>?_,?_⟩,fun i o ho=>by simp [out0] at ho⟩
    · rcases List.mem_append.1 (List.mem_of_getElem? hn) with hm|hm
      · exact h.doms n hm
      · have:n=2:=by simpa using hm
        omega
    · have:=h.init.1;simp [out0];exact this
    · have hi:=h.init.1
      by_cases hlt:i < t.vars.length
      · have hx':t.init[i]?=some x:=by rw [← hx];exact (List.getElem?_append_left (by omega)).symm
        have hy':t.vars[i]?=some y:=by rw [← hy];exact (List.getElem?_append_left hlt).symm
        exact h.init.2 i x y hx' hy'
      · have hlt2:=CM hy
        have hie:i=t.vars.length:=by simp [out0] at hlt2;omega
        subst hie
        have e1:x=0:=by
          have:(t.init ++ [0])[t.vars.length]?=some x:=hx
          rw [List.getElem?_append_right (by omega),hi] at this
          simpa using this.symm
        have e2:y=2:=by
          have:(t.vars ++ [2])[t.vars.length]?=some y:=hy
          simpa using this.symm
        omega
    · rcases List.mem_append.1 hx with hm|hm
      · exact NO ((factsPw.1 h.goal.2).1 x hm)
      · have:x=(⟨(t.vars.length:Int),0⟩:Fct):=by simpa using hm
        subst this
        exact ⟨by simp,by simp,2,by simp [out0],by simp⟩
    · show (t.goal ++ [(⟨(t.vars.length:Int),0⟩:Fct)]).Pairwise _
      rw [List.pairwise_append]
      refine ⟨(factsPw.1 h.goal.2).2,List.pairwise_singleton _ _,fun a ha b hb=>?_⟩
      have:b=(⟨(t.vars.length:Int),0⟩:Fct):=by simpa using hb
      subst this
      exact (OB ((factsPw.1 h.goal.2).1 a ha)).2
  · intro hl
    unfold checkN
    rw [if_pos (De (.inl (by simp [out0];omega)))]
theorem NQ {vars x:List Int} {f:Fct} (hf:FactOk vars f) (hx:x.length=vars.length) (p:List Int):hasB (x ++ p) f=hasB x f:=by
  obtain ⟨h1,_,y,h3,_⟩:=hf
  have:=CM h3
  unfold hasB
  rw [List.getElem?_append_left (by omega)]
theorem holds0 {t:Tpl} (h:TplOk t):holdsB (out0 t).goal (out0 t).init=holdsB t.goal t.init:=by
  show (t.goal ++ [(⟨(t.vars.length:Int),0⟩:Fct)]).all (hasB (t.init ++ [0]))=t.goal.all (hasB t.init)
  have key:∀ l:List Fct,(∀ f∈l,FactOk t.vars f)→l.all (hasB (t.init ++ [0]))=l.all (hasB t.init):=fun l hl=>by
    induction l with
    | nil=>rfl
    | cons f l ih=>rw [List.all_cons,List.all_cons,NQ (hl f List.mem_cons_self) h.init.1,ih fun g hg=>hl g (List.mem_cons_of_mem _ hg)]
  rw [List.all_append,key _ (factsPw.1 h.goal.2).1,List.all_cons,List.all_nil]
  have hi:=h.init.1
  have:hasB (t.init ++ [0]) (⟨(t.vars.length:Int),0⟩:Fct)=true:=by
    unfold hasB
    rw [← hi];simp
  rw [this];simp
theorem validate0 {t:Tpl} (h:TplOk t):Cy (tpl0 t) []=some (if holdsB t.goal t.init=true then (0,⟨0⟩) else (0,⟨13⟩)):=by
  unfold Cy Ds
  rw [Jl (by simp [tpl0]),tck0 h,AE,if_neg (by simp),if_neg (by simp)]
  have e1:Cn (tpl0 t) []=some (⟨[]⟩,[]):=by
    unfold Cn
    rw [Gt,AE,Fw]
    have:keysI (⟨[]⟩:MapR 182 Int Hap)=some []:=if_pos ⟨fun a ha=>(by cases ha),by decide⟩
    rw [this,AE]
    have h2:BS []=some []:=by unfold BS;rw [if_pos (by simp),Ld];rfl
    rw [h2,AE]
  rw [Gt,AE,Fw,AE,if_neg (by simp),e1,AE]
  dsimp only
  rw [Gt,AE,Fw]
  unfold Et
  rw [AE]
  show (if holdsB t.goal t.init=true then _ else _)=_
  cases holdsB t.goal t.init with
  | false=>rfl
  | true =>
    rw [GM,GM]
    unfold CP
    rw [Gt,AE,Fw,AE]
set_option maxRecDepth 100000 in
theorem plan0 {t:Tpl} (h:TplOk t) (hl:t.vars.length < 64):CG (tpl0 t) []=some (if holdsB t.goal t.init=true then ([],⟨0⟩) else ([],⟨13⟩)):=by
  unfold CG
  rw [validate0 h,AE]
  cases hh:holdsB t.goal t.init with
  | false=>rw [Jd,Jd];rfl
  | true =>
    rw [GM,GM,compile0 h,AE,(IE h).1 hl,if_neg (by simp)]
    have s0:DK []=some []:=by unfold DK;rw [if_pos (by simp),Mu .nil]
    have hj:(tpl0 t).jobs=[]:=rfl
    rw [show (if (0:Int)≠0 then ((⟨[],[],[],[]⟩:Tsk),(⟨0⟩:Err)) else (out0 t,⟨0⟩))=(out0 t,⟨0⟩) from if_neg (by simp),if_neg (by simp)]
    have k5:(((out0 t).ops.length:Nat):Int) - 1=-1:=by simp [out0]
    simp only [hj,s0,List.length_nil,k5]
    rw [show chkI (2 * ((0:Nat):Int))=some 0 from rfl]
    simp only [AE]
    rw [show chkI (((0:Nat):Int) + 2)=some 2 from rfl]
    simp only [AE]
    rw [show chkI ((0:Int) * 2)=some 0 from rfl]
    simp only [AE]
    rw [show chkI ((0:Int) + 0)=some 0 from rfl]
    simp only [AE]
    rw [if_neg (by decide),show chkI (-1:Int)=some (-1) from rfl]
    simp only [AE]
    rw [show mkI 8 (0:Int) ((0:Nat):Int)=some [] from rfl]
    simp only [AE,Gt,Fw]
    rw [show chkI ((0:Int) + 1)=some 1 from rfl]
    simp only [AE]
    rw [show natI (1:Int)=some 1 from rfl]
    simp only [AE]
    rw [Np (fun _=>_) rfl (fun k hk=>by
      rw [if_neg (by omega)])]
    rfl
theorem Nr (t:Tpl):Ej t=some true:=by
  unfold Ej
  rw [awake56,AE,GM]
  obtain ⟨b,hb,hf⟩:=OC t []
  rw [hb,AE]
  cases b with
  | false=>rfl
  | true =>
    obtain ⟨f1,f2,_⟩:=hf rfl
    rw [GM,Jl f2,AE]
    by_cases h0:tck t=0
    · have h:=Pb h0
      have hn:=h.nv
      rw [h0,if_neg (by simp),AE,Jd]
      show bnd (Ce (tpl0 t)) _=_
      rw [compile0 h,AE]
      by_cases hl:t.vars.length < 64
      · rw [(IE h).1 hl,if_neg (by simp),if_neg (by simp)]
        show bnd (CG (tpl0 t) []) _=_
        rw [plan0 h hl,AE]
        unfold Es GR
        simp only [AE,Gt,Fw]
        unfold Es
        rw [holds0 h,Of (by unfold inI64;omega)]
        have e1:(((out0 t).vars.length:Nat):Int)=(t.vars.length:Int) + 1:=by simp [out0]
        have e2:(((out0 t).ops.length:Nat):Int)=0:=by simp [out0]
        simp only [AE,e1,e2]
        cases hh:holdsB t.goal t.init<;>simp [AE,hh]
      · rw [(IE h).2 (by omega),if_pos (by simp),if_pos (by simp)]
        have e1:HP ⟨5⟩ 5=some true:=rfl
        simp only [e1,AE]
        rw [if_pos trivial,if_pos (show (64:Int)≤(t.vars.length:Int) by omega),AE]
    · rw [if_pos h0,AE,GM];rfl
end
section
open Go Go.RowKit Go.ChangeShapes Go.WideShapes Go.Deep
theorem lawCEmpty {w:World} {v0:Value} {a0:Tpl} (h0:V w v0 a0):Fn Tryz.prog 4 [v0] w fun v w'=>v=.bool true∧Ext w w' :=
  (Iy (fun _ h=>h) h0 (Nr a0)).mono fun _ _ h=>⟨h.2.bool,h.1⟩
set_option maxRecDepth 100000 in
theorem doorMet (os:Os) (args:Array Value):laidMetH Tryz.prog Rows.compileEmptyRow.laid ((World.doorLaid Tryz.prog 4000 os).forCall (fun _ _=>0) ⟨#[],args,[]⟩).memory :=
  laidMetH_of_parts3 (fuel:=8) (laidMet_of_run' 8 (by kernel_rfl) (by kernel_rfl)) (by kernel_rfl) (by kernel_rfl)
set_option maxRecDepth 100000 in
theorem IQ (os:Os) (started:os.Started) (H:Type) (enc:TypeId×Value→H) :
    ReturnsInHanded {} Tryz.checked os 4 .any (fun w args=>(Rows.compileEmptySpec.pre enc Tryz.prog Tryz.f4 Rows.compileEmptyRow.domain false w args∧laidMetH Tryz.prog Rows.compileEmptyRow.laid w)∧sizedMet enc Tryz.prog Tryz.f4 (OpenSpec.ofChange Rows.compileEmptySpec) false w args) (Rows.compileEmptySpec.post enc Tryz.prog Tryz.f4 false true false false):=by
  refine returnsInHanded_of_change_and (C:=Tryz.checked) (X:=fun w _=>laidMetH Tryz.prog Rows.compileEmptyRow.laid w) (fun _ _ _ hh h=>h.of_heap hh) ownTry started (by kernel_rfl) Tryz.func4 (ChangeSpec.witness_shaped (enc:=enc) (C:=Tryz.checked) (os:=os) (X:=fun w _=>laidMetH Tryz.prog Rows.compileEmptyRow.laid w) false (World.doorLaid Tryz.prog 4000 os) #[(.agg #[.slice none 0 0,.slice none 0 0,.slice none 0 0,.slice none 0 0])] 8 rfl (World.shaped_of_RefB (by kernel_rfl) (by kernel_rfl)) (by kernel_rfl) (by kernel_rfl) (by kernel_rfl) (doorMet os _)) ?_
  intro W base args ds gs before hval hW _ _ _ _
  have hopen:∀ p,DataW.TrodAll enc Tryz.prog W 0 (fun _=>true) true Tryz.f4.params.toList args.toList ds p→∃ v0 d0,args=#[v0]∧ds=[d0]∧(∃ a:Tpl,V W v0 a):=by
    intro p hA
    rw [Tryz.params4] at hA
    replace hval:∀ (j:Nat) t v,(#[26]:Array TypeId)[j]?=some t→args[j]?=some v→Value.okWide Tryz.prog W .any base t v:=by rw [← Tryz.params4];exact hval
    obtain ⟨v0,vs0,d0,ds0,p0,q0,g0,e0,_,h0,r0⟩:=trodAll_cons hA
    obtain ⟨g,e,_⟩:=trodAll_nil r0
    rw [g] at g0;rw [e] at e0
    obtain rfl:args=#[v0]:=by cases args;simp_all
    exact ⟨v0,d0,rfl,e0,(by first|exact openAgg rfl (hval 0 26 v0 rfl rfl) h0|exact openOne rfl (hval 0 26 v0 rfl rfl) h0)⟩
  refine lawPost rfl (by kernel_rfl) (by rw [Tryz.params4];exact of_decide_eq_true (by kernel_rfl)) hW ?_ ?_
  · intro p hA
    obtain ⟨v0,d0,_,rfl,_⟩:=hopen p hA
    rfl
  · intro p hA
    obtain ⟨v0,d0,rfl,_,⟨a0,h0⟩⟩:=hopen p hA
    exact lawCEmpty h0
theorem Jz:Rows.CompileEmptySaid :=
  OpenClaim.holds_of_wide 4 Tryz.f4 rfl rfl rfl rfl rfl rfl rfl ⟨rfl,rfl,rfl,rfl,rfl⟩ rfl rfl rfl rfl rfl (by kernel_rfl) Tryz.func4 (by kernel_rfl)
    (of_decide_eq_true (by kernel_rfl)) (by unfold Func.isWrapper;first|(rw [if_pos (by decide +kernel)];kernel_rfl)|(rw [if_neg (by decide +kernel)];exact ⟨rfl,rfl⟩))
    (fun os started H enc _=>IQ os started H enc)
theorem compileEmpty_holds:Rows.CompileEmptyCardSaid :=
  Claim7.holds_tied_plain_at .later [] [.data, .data, .data] true (true, "34bf7b83ccd1ea9b6c8ba645e64f1db955c21e4cca4b8b45735daa4898591402") true
    Jz (fun _ h=>by cases h) (by kernel_rfl) (fun _ h=>by cases h) compileEmpty_row_tie rfl ⟨rfl,rfl⟩ (by kernel_rfl) rfl
    (fun f fn hf hfn=>by
      obtain rfl : f = 4 := Option.some.inj ((show Tryz.prog.funcNamed "stratagem/stratagemlaw56.CompileEmpty" = some 4 by kernel_rfl).symm.trans hf) |>.symm
      obtain rfl:fn=Tryz.f4:=(Option.some.inj (Tryz.func4.symm.trans hfn)).symm
      exact ⟨by kernel_rfl,fun j t ht=>by
        rw [Tryz.params4] at ht
        have hm:t∈[26]:=by simpa using Array.mem_of_getElem? ht
        have hall:([26].all fun u=>!Tryz.prog.wantsStandIn u)=true:=by kernel_rfl
        exact (show Tryz.prog.wantsStandIn t=false by simpa using List.all_eq_true.1 hall t hm)⟩)
    (by kernel_rfl)
#print axioms compileEmpty_holds
end
end Go.Proofs.YtjohlgjklmagnaaGreatDoor

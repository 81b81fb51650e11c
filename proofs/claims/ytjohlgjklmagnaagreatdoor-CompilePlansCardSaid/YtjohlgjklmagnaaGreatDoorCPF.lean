/- Own text: what the proof of compilePlans_holds uses, part 6: rules, models and their proofs, plain laws. -/
import Derived.Test.YtjohlgjklmagnaaGreatDoorCPE
set_option linter.unusedVariables false
set_option linter.unusedSimpArgs false
namespace Go.Proofs.YtjohlgjklmagnaaGreatDoor
open Go Go.RowKit
section
open Go Go.RowKit
def lift1 (n:Nat) (Q:Post) (e:Exit) (a:Act) (w:World):Prop:=noPanic e∧∃ l,Ok n a l∧Q e l w
def ewp1 (P:Program) (n:Nat) (c:Code) (Q:Post) (l:Env) (w:World):Prop:=∀ a,Ok n a l→c.wp P (lift1 n Q) a w
def owp1 (P:Program) (n:Nat) (ops:Array Oper) (Q:Post) (rest:List Oper) (l:Env) (w:World):Prop:=∀ a,Ok n a l→wpList P ops (lift1 n Q) rest a w
section
variable {P : Program} {n : Nat} {Q : Post} {l : Env} {w : World}
theorem ES {x y:Code} (h:ewp1 P n x (thn (ewp1 P n y Q) Q) l w):ewp1 P n (.seq x y) Q l w:=fun a ha =>
  wp_seq (Code.wp_mono (fun e a w hl=>by
    obtain ⟨hn,l',ho,hq⟩:=hl
    cases e with
    | normal=>exact hq a ho
    | panic c=>exact hn.elim
    | outgrown=>exact hn.elim
    | exit i=>exact ⟨trivial,l',ho,hq⟩
    | goto i=>exact ⟨trivial,l',ho,hq⟩
    | ret=>exact ⟨trivial,l',ho,hq⟩) (h a ha))
theorem Pe (h:Q .normal l w):ewp1 P n .skip Q l w:=fun _ ha=>wp_skip ⟨trivial,l,ha,h⟩
theorem SJ {i:Nat} (h:Q (.exit i) l w):ewp1 P n (.exit i) Q l w:=fun _ ha=>wp_exit ⟨trivial,l,ha,h⟩
theorem Nv (h:Q .ret l w):ewp1 P n .ret Q l w:=fun _ ha=>wp_ret ⟨trivial,l,ha,h⟩
theorem Pf {c:Operand} {x y:Code} (hc:opv l c=some (.bool true)) (h:ewp1 P n x Q l w):ewp1 P n (.cond c x y) Q l w:=fun a ha=>wp_cond_true (ha.eval hc) (h a ha)
theorem NW {c:Operand} {x y:Code} (hc:opv l c=some (.bool false)) (h:ewp1 P n y Q l w):ewp1 P n (.cond c x y) Q l w:=fun a ha=>wp_cond_false (ha.eval hc) (h a ha)
theorem NX {id:Nat} {c:Code} (h:ewp1 P n c (inBlk id Q) l w):ewp1 P n (.block id c) Q l w:=fun a ha =>
  wp_block (Code.wp_mono (fun e a w hl=>by
    obtain ⟨hn,l',ho,hq⟩:=hl
    cases e with
    | exit i =>
      simp only [Exit.inBlock]
      simp only [inBlk] at hq
      by_cases hi:i=id
      · subst hi
        have hb:Nat.beq i i=true:=Nat.beq_refl i
        rw [hb] at hq
        rw [if_pos rfl]
        exact ⟨trivial,l',ho,hq⟩
      · have hb:Nat.beq i id=false:=by
          cases hx:Nat.beq i id
          · rfl
          · exact absurd (Nat.eq_of_beq_eq_true hx) hi
        rw [hb] at hq
        rw [if_neg hi]
        exact ⟨trivial,l',ho,hq⟩
    | panic c=>exact hn.elim
    | outgrown=>exact hn.elim
    | normal=>exact ⟨trivial,l',ho,hq⟩
    | goto i=>exact ⟨trivial,l',ho,hq⟩
    | ret=>exact ⟨trivial,l',ho,hq⟩) (h a ha))
theorem Er {id:Nat} {L:List Oper} (h:owp1 P n L.toArray Q L l w):ewp1 P n (.region id L.toArray false) Q l w:=fun a ha=>wp_region_lit (h a ha)
theorem SK {c:Code} (E:Nat→Env) (I:Nat→Prop) (N k₀:Nat) (hs:subs l (E k₀)) (h₀:I k₀)
    (round:∀ k,I k→k≤N∧ewp1 P n c (thn (fun l' w'=>w'=w∧subs l' (E (k + 1))∧I (k + 1)) Q) (E k) w):ewp1 P n (.loop c) Q l w:=by
  intro a ha
  have hex:∀ a' w',(∃ k,w'=w∧Ok n a' (E k)∧I k)→∃ m,(∃ k,w'=w∧Ok n a' (E k)∧I k∧N - k=m)∧∀ k,Ok n a' (E k)→I k→m≤N - k:=by
    intro a' w' ⟨k,h1,h2,h3⟩
    have:∀ (q k:Nat),N - k≤q→Ok n a' (E k)→I k→∃ m,(∃ k,w'=w∧Ok n a' (E k)∧I k∧N - k=m)∧∀ k,Ok n a' (E k)→I k→m≤N - k:=by
      intro q
      induction q with
      | zero=>intro k hq ho hI;exact ⟨N - k,⟨k,h1,ho,hI,rfl⟩,fun _ _ _=>by omega⟩
      | succ q ih =>
        intro k hq ho hI
        by_cases hx:∃ k',Ok n a' (E k')∧I k'∧N - k'≤q
        · obtain ⟨k',g1,g2,g3⟩:=hx
          exact ih k' g3 g1 g2
        · refine ⟨N - k,⟨k,h1,ho,hI,rfl⟩,fun k' g1 g2=>?_⟩
          rcases Nat.lt_or_ge (N - k') (N - k) with h|h
          · exact absurd ⟨k',g1,g2,by omega⟩ hx
          · exact h
    exact this _ k (Nat.le_refl _) h2 h3
  refine wp_loop (fun a' w'=>∃ k,w'=w∧Ok n a' (E k)∧I k) (fun a' w'=>Classical.epsilon fun m=>(∃ k,w'=w∧Ok n a' (E k)∧I k∧N - k=m)∧∀ k,Ok n a' (E k)→I k→m≤N - k) ⟨k₀,rfl,ha.sub hs,h₀⟩ ?_
  intro a' w' hinv
  obtain ⟨⟨k,rfl,ho,hI,hk⟩,_⟩:=Classical.epsilon_spec (hex a' w' hinv)
  obtain ⟨hkN,hr⟩:=round k hI
  refine Code.wp_mono (fun e a'' w'' hl=>?_) (hr a' ho)
  obtain ⟨hn,l',ho',hq⟩:=hl
  cases e with
  | normal =>
    obtain ⟨rfl,hs₂,hI₂⟩:=hq
    have ho₂:=ho'.sub hs₂
    refine ⟨⟨k + 1,rfl,ho₂,hI₂⟩,?_⟩
    obtain ⟨_,hmin⟩:=Classical.epsilon_spec (hex a'' w'' ⟨k + 1,rfl,ho₂,hI₂⟩)
    have h1:=hmin (k + 1) ho₂ hI₂
    have h2:=(round (k + 1) hI₂).1
    exact Nat.lt_of_le_of_lt h1 (Nat.lt_of_lt_of_eq (by omega) hk)
  | panic c=>exact hn.elim
  | outgrown=>exact hn.elim
  | exit i=>exact ⟨trivial,l',ho',hq⟩
  | goto i=>exact ⟨trivial,l',ho',hq⟩
  | ret=>exact ⟨trivial,l',ho',hq⟩
variable {ops : Array Oper} {rest : List Oper} {d : Tmp} {ty : TypeId} {pos : String} {aft : Array Edge}
theorem HT {K:Env→World→Prop} [h:NilQ Q K] (hk:K l w):owp1 P n ops Q [] l w:=fun _ ha=>wpList_nil ⟨trivial,l,ha,h.of l w hk⟩
theorem DR {op:Op} {v:Value} (he:Ev P ⟨some d,op,ty,pos,aft,none⟩ l w v)  (h:owp1 P n ops Q rest ((d,v) :: l) w) (hd:Nat.blt d n=true:=by exact rfl):owp1 P n ops Q (⟨some d,op,ty,pos,aft,none⟩ :: rest) l w :=
  fun a ha=>wpList_plain rfl fun K hK=>by
    unfold Oper.wp
    have:=he n a w.drawn ha
    rw [Hj] at this
    rw [this]
    exact hK _ _ (h _ (ha.put hd v))
theorem Mq {f:FuncId} [hf:Callable P f] {xs:List Operand} {vs:List Value} {ts:Array TypeId} {v:Value} (hx:opvs l xs=some vs) (hd:Nat.blt d n=true) (hc:Calls P f vs.toArray w fun e w'=>e=.returned v∧w'=w)
    (h:owp1 P n ops Q rest ((d,v) :: l) w):owp1 P n ops Q (⟨some d,.call { callee:=.value (.func f),args:=xs.toArray,argTypes:=ts },ty,pos,aft,none⟩ :: rest) l w :=
  fun a ha=>wpList_plain rfl fun K hK=>by
    obtain ⟨fn,h1,h2,h3⟩:=hf.eq
    have h2':¬ fn.body=none:=fun e=>by rw [e] at h2;simp at h2
    have h3' : ¬ fn.name = "runtime.NumGoroutine" := fun e => by rw [e] at h3; simp at h3
    unfold Oper.wp
    have hev:a.eval (.func f)=.func (.func f) #[] #[]:=rfl
    have:(execOp a.eval ⟨some d,.call { callee:=.value (.func f),args:=xs.toArray,argTypes:=ts },ty,pos,aft,none⟩).run P w=.ok (.enter f vs.toArray) w:=by
      simp [execOp,resolve,hev,Deferred.ofValue,invoke,callFunc,h1,h2',h3',ha.evals hx]
    rw [this]
    exact hc.mono fun _ _ ⟨he,hw⟩=>by subst he;subst hw;exact hK _ _ (h _ (ha.put hd v))
end
theorem RE {P:Program} {f:FuncId} {fn:Func} {c:Code} {vs:List Value} {w:World} {v:Value} {n:Nat} (hf:P.funcs[f]?=some fn) (hb:fn.body=some c) (hn:fn.ntmps=n) (hl:Nat.ble vs.length n=true)
    (h:ewp1 P n c (retPost P fn fun u w'=>u=v∧w'=w) (ent 0 vs) w):Calls P f vs.toArray w fun e w'=>e=.returned v∧w'=w:=by
  have hl':vs.length≤n:=by simpa using hl
  refine calls_of_wp hf hb (Code.wp_mono (fun e a w' hq=>?_) (h _ (?_:Ok n { tmps:=vs.toArray ++ Array.replicate (fn.ntmps - vs.toArray.size) undef,defers:=[] } (ent 0 vs))))
  · obtain ⟨hp,l,ho,q⟩:=hq
    cases e with
    | normal=>obtain ⟨v',hr,hv,hw⟩:=q;subst hv hw;have:=hr n a w'.drawn ho;rw [Hj] at this;exact ⟨ho.defers,v',this,rfl,rfl⟩
    | ret=>obtain ⟨v',hr,hv,hw⟩:=q;subst hv hw;have:=hr n a w'.drawn ho;rw [Hj] at this;exact ⟨ho.defers,v',this,rfl,rfl⟩
    | panic c=>exact hp.elim
    | outgrown=>exact hp.elim
    | exit i=>exact q.elim
    | goto i=>exact q.elim
  · refine ⟨by simp [hn];omega,rfl,fun i v hv=>?_⟩
    obtain ⟨_,h2⟩:=MD vs 0 i v hv
    simp only [Nat.sub_zero] at h2
    have hi:i < vs.length:=(List.getElem?_eq_some_iff.1 h2).1
    simp only [Array.getD_eq_getD_getElem?]
    rw [Array.getElem?_append_left (by simpa using hi)]
    simp [h2]
end
section
open Go Go.RowKit
section
variable {P : Program} {n : Nat} {Q : Post} {ops : Array Oper} {rest : List Oper} {l : Env} {w : World} {d : Tmp} {ty : TypeId} {pos : String} {aft : Array Edge} {S : World → Prop}
theorem Lx (h:Q .normal l w):owp1 P n ops Q [] l w:=fun _ ha=>wpList_nil ⟨trivial,l,ha,h⟩
theorem PX {op:Op} {v:Value} {w':World} (he:∀ a,Ok n a l→(execOp a.eval ⟨some d,op,ty,pos,aft,none⟩).run P w=.ok (.value v) w') (hd:Nat.blt d n=true) (h:owp1 P n ops Q rest ((d,v) :: l) w'):owp1 P n ops Q (⟨some d,op,ty,pos,aft,none⟩ :: rest) l w :=
  fun a ha=>wpList_plain rfl fun K hK=>by
    unfold Oper.wp
    rw [he a ha]
    exact hK _ _ (h _ (ha.put hd v))
theorem PY {t:TypeId} {x:Operand} {v:Value} (hx:opv l x=some v) (hd:Nat.blt d n=true) (h:owp1 P n ops Q rest ((d,.pointer (some ⟨w.heap.size,0,none⟩)) :: l) (w.alloc (.cells v.cells t))):owp1 P n ops Q (⟨some d,.box t x,ty,pos,aft,none⟩ :: rest) l w :=
  PX (fun a ha=>by simp [execOp,Instr.box,ha.eval hx,newVar,FP]) hd h
theorem QJ {t e:TypeId} [hs:TSlice P t e] {z:Value} {size bytes len:Nat} [TInfo P e z size bytes] {ps:List (Nat×Operand)} {vs:List Value} (hk:idxOk 0 ps=true) (hx:opvs l (ps.map (·.2))=some vs) (hlen:vs.length=len) (hv:∀ v∈vs,v.cells.toList.length=size) (hz:len * size≤16777216) (hd:Nat.blt d n=true)
    (h:owp1 P n ops Q rest ((d,.slice (some ⟨w.heap.size,0,none⟩) len len) :: l) (w.alloc (.cells (vs.flatMap fun v=>v.cells.toList).toArray e))):owp1 P n ops Q (⟨some d,.buildSlice t len ps.toArray,ty,pos,aft,none⟩ :: rest) l w :=
  PX (fun a ha=>by
    have hps:(ps.map fun p=>(p.1,a.eval p.2))=idxs 0 vs:=by
      rw [LT ps 0 hk,LU,ha.evals hx]
    have hv':∀ v∈vs,v.cells.size=size:=fun v hm=>by simpa using hv v hm
    have h24:¬ 16777216 < len * size:=by omega
    have hf:∀ acc:Array Value,acc.size=len * size→Instr.fill (fun i=>some (i * size,size)) acc (idxs 0 vs)=some (vs.flatMap fun v=>v.cells.toList).toArray:=fun acc hacc=>by
      obtain ⟨out,ho1,ho2⟩:=LV (size:=size) vs 0 acc [] acc.toList (by simp) (by simp) (by simp [hacc,hlen]) hv'
      rw [ho1]
      congr 1
      apply Array.toList_inj.1
      rw [ho2];simp
    simp only [execOp,Instr.buildSlice]
    by_cases h0:len * size=0
    · simp [run_underlying hs.eq,DL (P:=P) (t:=e),h0]
      rw [hps,hf _ (by simp [h0])]
      simp [FP]
    · simp [run_underlying hs.eq,DL (P:=P) (t:=e),Iy (P:=P) (t:=e),h0,h24]
      rw [hps,hf _ (by simp)]
      simp [FP]) hd h
def hwp1 (P:Program) (n:Nat) (ops:Array Oper) (Q:Post) (S:World→Prop) (ord:List (Nat×Bool)) (l:Env) (w:World):Prop:=∀ a,Ok n a l→wpOrd P ops (lift1 n Q) S ord a w
theorem Uc (h:Q .normal l w):hwp1 P n ops Q S [] l w:=fun _ ha=>⟨trivial,l,ha,h⟩
theorem In {i:Nat} {op:Op} {r:List (Nat×Bool)} {v:Value} (hi:ops[i]?=some ⟨some d,op,ty,pos,aft,none⟩) (he:∀ w',S w'→Ev P ⟨some d,op,ty,pos,aft,none⟩ l w' v)  (h:hwp1 P n ops Q S r ((d,v) :: l) w) (hn:Nat.blt d n=true:=by exact rfl):hwp1 P n ops Q S ((i,true) :: r) l w:=fun a ha =>
  ⟨_,v,hi,.inl ⟨by simp [Region.wanted],fun w' hS=>by have:=he w' hS n a w'.drawn ha;rwa [Hj] at this⟩,h _ (ha.put hn v)⟩
def loud1 (P:Program) (n:Nat) (ops:Array Oper) (Q:Post) (S:World→Prop) (r:List (Nat×Bool)):Post
  | .normal,l,w=>(r≠[]→S w)∧hwp1 P n ops Q S r l w
  | _,_,_=>False
theorem Kl {i:Nat} {o:Oper} {r:List (Nat×Bool)} (hi:ops[i]?=some o) (h:owp1 P n ops (loud1 P n ops Q S r) [o] l w):hwp1 P n ops Q S ((i,false) :: r) l w:=fun a ha=>by
  have h1:=h a ha
  show wpOp P ops (lift1 n Q) i _ a w
  unfold wpList at h1
  unfold wpOp
  simp only [hi]
  have conv:∀ a' w',lift1 n (loud1 P n ops Q S r) .normal a' w'→(r≠[]→S w')∧wpOrd P ops (lift1 n Q) S r a' w':=by
    rintro a' w' ⟨_,l',ho,hS,hh⟩
    exact ⟨hS,hh a' ho⟩
  have nope:∀ e' a' w',lift1 n (loud1 P n ops Q S r) e' a' w'→e'=.normal:=by
    rintro e' a' w' ⟨hn,l',ho,hh⟩
    cases e'<;>first|rfl|exact hh.elim
  by_cases hw:Region.wanted o (yielded ops a.tmps)=true
  · rw [if_pos hw] at h1
    rw [if_pos hw]
    rcases h1 with h1|⟨h1,a0,w0,h2⟩
    · refine .inl ?_
      unfold Oper.wp at *
      generalize (execOp a.eval o).run P w=res at *
      cases res with
      | ok nx w' =>
        cases nx<;>simp only [Oper.upon] at h1 ⊢ <;>
          first
            | exact conv _ _ h1
            | exact Calls.mono h1 (fun en w'' he=>by
                cases en with
                | returned v=>exact conv _ _ he
                | panicked c=>exact absurd (nope _ _ _ he) (by simp)
                | outgrown=>obtain ⟨a0,w0,hq⟩:=he;exact absurd (nope _ _ _ hq) (by simp))
            | exact Rows.mono h1 (fun _ _ he=>conv _ _ he)
            | exact h1.elim
      | halt x w'=>cases x<;>simp only [Oper.upon] at h1 ⊢<;>first|exact h1.elim|exact absurd (nope _ _ _ h1) (by simp)
    · exact absurd (nope _ _ _ h2) (by simp)
  · rw [if_neg hw] at h1
    rw [if_neg hw]
    exact conv _ _ h1
theorem SL [hm:Mixed P] {id:Nat} {L:List Oper} (S:World→Prop) (ord:List (Nat×Bool)) (hs:Region.noSelect L.toArray=true) (hl:ord.length=L.toArray.size) (hc:ordOk L.toArray (Array.replicate L.toArray.size false) ord=true) (hS:S (dr w (w.drawn + 1)))
    (h:hwp1 P n L.toArray Q S ord l (dr w (w.drawn + 1))):ewp1 P n (.region id L.toArray true) Q l w:=fun a ha =>
  wp_region_any hm.eq (by
    have:=GM (P:=P) hs (Q:=lift1 n Q) (S:=S) (fun c a w hq=>hq.1) ord (Array.replicate L.toArray.size false) a (dr w (w.drawn + 1)) (fun m om hm=>by
      simp only [Array.getD_eq_getD_getElem?,Array.getElem?_replicate] at hm
      split at hm<;>simp at hm) hc (fun _=>hS) (h a ha)
    rw [hl] at this
    exact JQ _ _ _ _ this)
end
theorem QK {P:Program} {f:FuncId} {fn:Func} {c:Code} {vs:List Value} {w:World} {R:Value→World→Prop} {n:Nat} (hf:P.funcs[f]?=some fn) (hb:fn.body=some c) (hn:fn.ntmps=n) (hl:Nat.ble vs.length n=true)
    (h:ewp1 P n c (retPost P fn R) (ent 0 vs) w):Calls P f vs.toArray w fun e w'=>∃ v,e=.returned v∧R v w':=by
  have hl':vs.length≤n:=by simpa using hl
  refine calls_of_wp hf hb (Code.wp_mono (fun e a w' hq=>?_) (h _ (?_:Ok n { tmps:=vs.toArray ++ Array.replicate (fn.ntmps - vs.toArray.size) undef,defers:=[] } (ent 0 vs))))
  · obtain ⟨hp,l,ho,q⟩:=hq
    cases e with
    | normal=>obtain ⟨v',hr,hv⟩:=q;have:=hr n a w'.drawn ho;rw [Hj] at this;exact ⟨ho.defers,v',this,v',rfl,hv⟩
    | ret=>obtain ⟨v',hr,hv⟩:=q;have:=hr n a w'.drawn ho;rw [Hj] at this;exact ⟨ho.defers,v',this,v',rfl,hv⟩
    | panic c=>exact hp.elim
    | outgrown=>exact hp.elim
    | exit i=>exact q.elim
    | goto i=>exact q.elim
  · refine ⟨by simp [hn];omega,rfl,fun i v hv=>?_⟩
    obtain ⟨_,h2⟩:=MD vs 0 i v hv
    simp only [Nat.sub_zero] at h2
    have hi:i < vs.length:=(List.getElem?_eq_some_iff.1 h2).1
    simp only [Array.getD_eq_getD_getElem?]
    rw [Array.getElem?_append_left (by simpa using hi)]
    simp [h2]
end
section
open Go Go.RowKit Go.Lib Go.Sort
def orL:List Int→Int
  | []=>0
  | x :: xs=>if x≠0 then x else orL xs
theorem SM {xs:List Int} {k:Nat} {x:Int} (h:xs[k]?=some x):orL (xs.drop k)=if x≠0 then x else orL (xs.drop (k + 1)):=by
  have:xs.drop k=x :: xs.drop (k + 1):=by
    rw [List.drop_eq_getElem_cons (Bl h)]
    rw [List.getElem?_eq_getElem (Bl h)] at h
    rw [Option.some.inj h]
  rw [this];rfl
theorem SN {W:World} {F:Nat→Prop} {v:Value} {xs:List Int} (h1:Vb W F v xs):Calls Tryz.prog 114 [v].toArray W fun e w'=>e=.returned (.int .i64 (orL xs))∧w'=W:=by
  obtain ⟨A1,c1,rfl⟩:=h1.form
  have l1:xs.length≤9223372036854775807:=Nat.le_trans h1.len.2.1 h1.len.2.2
  refine RE Tryz.func114 rfl Tryz.ntmps114 rfl ?_
  refine ES (Er (DR (Ff rfl) (HT ?_)))
  refine ES (Er (DR (Ff rfl) (HT ?_)))
  refine ES (ES (Er (DR (Fv rfl) (DR (Mz rfl) (DR (Fv rfl) (HT ?_))))))
  refine NX (SK (fun k=>[(3,.int .i64 0),(6,.slice A1 xs.length c1),(7,.int .i64 (xs.length:Int)),(8,.int .i64 (k:Int))]) (fun k=>k≤xs.length∧orL xs=orL (xs.drop k)) xs.length 0 ⟨rfl,rfl,rfl,rfl,trivial⟩ ⟨Nat.zero_le _,rfl⟩ fun k hk=>⟨hk.1,?_⟩)
  obtain ⟨k1,k3⟩:=hk
  refine ES (Er (DR (Ew rfl rfl) (HT ?_)))
  refine ES ?_
  by_cases hlt:(k:Int) < (xs.length:Int)
  · rw [decide_eq_true hlt]
    refine Pf rfl (Pe ?_)
    obtain ⟨x,hx⟩:∃ x,xs[k]?=some x:=⟨xs[k],List.getElem?_eq_getElem (by omega)⟩
    obtain ⟨b1,o1,ce1,hA1,hl1,hd1,rfl,r1⟩:=h1.elem' hx
    have hst:=SM hx
    refine ES (NX ?_)
    refine ES (Er (DR (ML rfl rfl hA1 rfl hl1) (DR (FO rfl (cat0 hd1)) (DR (Ff rfl) (HT ?_)))))
    refine ES (Er (DR (Fv rfl) (DR (Fv rfl) (DR (EO rfl rfl) (HT ?_)))))
    by_cases hc:x≠0
    · rw [decide_eq_true hc]
      rw [if_pos hc] at hst
      refine Pf rfl (ES (Er (DR (Fv rfl) (DR (Ff rfl) (HT ?_)))))
      refine Nv ?_
      exact ⟨_,res1 rfl (At rfl),by rw [k3,hst],rfl⟩
    · rw [decide_eq_false hc]
      rw [if_neg hc] at hst
      refine NW rfl (Pe ?_)
      refine Er (DR (OB rfl rfl (by omega)) (DR (Fv rfl) (HT ?_)))
      exact ⟨rfl,⟨rfl,rfl,rfl,rfl,trivial⟩,by omega,by rw [k3,hst]⟩
  · rw [decide_eq_false hlt]
    refine NW rfl (SJ ?_)
    refine ES (Er (DR (Fv rfl) (DR (Ff rfl) (HT ?_))))
    have hkx:k=xs.length:=by omega
    refine Nv ?_
    exact ⟨_,res1 rfl (At rfl),by rw [k3,hkx,List.drop_length];rfl,rfl⟩
def encU (x:Lch):List Value:=[.int .i64 x.tm,.int .i64 x.job]
def cfU (x y:Lch):Int:=orL [Lib.compareInt x.tm y.tm,Lib.compareInt x.job y.job]
theorem PZ (a b:Int):inI64 (Lib.compareInt a b):=by unfold Lib.compareInt inI64;split<;>(try split)<;>omega
theorem closureU (x y:Lch) (W:World):Calls Tryz.prog 113 #[.agg #[.int .i64 x.tm,.int .i64 x.job],.agg #[.int .i64 y.tm,.int .i64 y.job]] W fun e w'=>e=.returned (.int .i64 (cfU x y))∧∃ q os',w'=grow (W.drewN q) os':=by
  have main:=QK (P:=Tryz.prog) (f:=113) (vs:=[.agg #[.int .i64 x.tm,.int .i64 x.job],.agg #[.int .i64 y.tm,.int .i64 y.job]]) (w:=W) (R:=fun v w'=>v=.int .i64 (cfU x y)∧∃ q os',w'=grow (W.drewN q) os') Tryz.func113 rfl Tryz.ntmps113 rfl ?_
  · exact main.mono fun e w' ⟨v,he,hv,hg⟩=>⟨by rw [he,hv],hg⟩
  refine ES (Er (PY rfl rfl (PY rfl rfl (DR (Ff rfl) (HT ?_)))))
  have hB1:Blk ((W.alloc (.cells (encU x).toArray 52)).alloc (.cells (encU y).toArray 52)) W.heap.size 52 (encU x) :=
    (New.mk' W _ (encU x)).blk.keep ((New.mk' _ _ (encU y)).ext.block _ (New.mk' W _ (encU x)).blk.lt)
  have hB2:Blk ((W.alloc (.cells (encU x).toArray 52)).alloc (.cells (encU y).toArray 52)) (W.alloc (.cells (encU x).toArray 52)).heap.size 52 (encU y):=(New.mk' _ _ (encU y)).blk
  generalize hW:(W.alloc (.cells (encU x).toArray 52)).alloc (.cells (encU y).toArray 52)=W2 at hB1 hB2
  have hW':(W.alloc (.cells (Value.agg #[.int .i64 x.tm,.int .i64 x.job]).cells 52)).alloc (.cells (Value.agg #[.int .i64 y.tm,.int .i64 y.job]).cells 52)=W2:=hW
  rw [hW']
  generalize hb1:W.heap.size=b1 at hB1
  generalize hb2:(W.alloc (.cells (encU x).toArray 52)).heap.size=b2 at hB2
  have hb2':(W.alloc (.cells (Value.agg #[.int .i64 x.tm,.int .i64 x.job]).cells 52)).heap.size=b2:=hb2
  rw [hb2']
  refine ES (SL (fun w'=>Blk w' b1 52 (encU x)∧Blk w' b2 52 (encU y)) [(0,true),(1,true),(2,true),(3,true),(5,true),(6,true),(7,true),(8,true),(4,false),(9,false),(10,false),(11,false),(12,true)] (by kernel_rfl) rfl (by kernel_rfl) ⟨hB1,hB2⟩ ?_)
  refine In rfl (fun _ _=>EU rfl) ?_
  refine In rfl (fun _ hS=>FO rfl (hS.1.cell (i:=0) rfl)) ?_
  refine In rfl (fun _ _=>EU rfl) ?_
  refine In rfl (fun _ hS=>FO rfl (hS.2.cell (i:=0) rfl)) ?_
  refine In rfl (fun _ _=>EU rfl) ?_
  refine In rfl (fun _ hS=>FO rfl (hS.1.cell (i:=1) rfl)) ?_
  refine In rfl (fun _ _=>EU rfl) ?_
  refine In rfl (fun _ hS=>FO rfl (hS.2.cell (i:=1) rfl)) ?_
  refine Kl rfl (Mq rfl rfl (compareI x.tm y.tm _) (Lx ⟨fun _=>⟨hB1,hB2⟩,?_⟩))
  refine Kl rfl (Mq rfl rfl (compareI x.job y.job _) (Lx ⟨fun _=>⟨hB1,hB2⟩,?_⟩))
  have hN:=New.mk' (dr W2 (W2.drawn + 1)) 3 [.int .i64 (Lib.compareInt x.tm y.tm),.int .i64 (Lib.compareInt x.job y.job)]
  have hB3:=hB1.keep (hN.ext.block b1 hB1.lt)
  have hB4:=hB2.keep (hN.ext.block b2 hB2.lt)
  have hV:Vb ((dr W2 (W2.drawn + 1)).alloc (.cells [.int .i64 (Lib.compareInt x.tm y.tm),.int .i64 (Lib.compareInt x.job y.job)].toArray 3)) (fun _=>True) (.slice (some ⟨(dr W2 (W2.drawn + 1)).heap.size,0,none⟩) 2 2) [Lib.compareInt x.tm y.tm,Lib.compareInt x.job y.job] :=
    Vb.made hN ⟨[_],_,rfl,⟨rfl,PZ _ _⟩,[_],_,rfl,⟨rfl,PZ _ _⟩,rfl⟩ rfl trivial (by decide)
  refine Kl rfl (QJ rfl rfl rfl (fun v hv=>by simp at hv;rcases hv with rfl|rfl<;>rfl) (by decide) rfl (Lx ⟨fun _=>⟨hB3,hB4⟩,?_⟩))
  refine Kl rfl (Mq rfl rfl (SN hV) (Lx ⟨fun _=>⟨hB3,hB4⟩,?_⟩))
  refine In rfl (fun _ _=>Ff rfl) ?_
  refine Uc ?_
  refine Nv ?_
  refine ⟨_,res1 rfl (At rfl),rfl,1,#[.cells (encU x).toArray 52,.cells (encU y).toArray 52,.cells [.int .i64 (Lib.compareInt x.tm y.tm),.int .i64 (Lib.compareInt x.job y.job)].toArray 3],?_⟩
  subst hW
  have hd:∀ os d,dr (grow W os) d=grow (dr W d) os:=fun _ _=>rfl
  rw [alloc_eq_grow,alloc_eq_grow,alloc_eq_grow,grow_grow,hd,grow_grow]
  rfl
end
section
open Go.Shelf
def Tryz.laysS_f144_ren:Go.Shelf.Ren:=⟨fun|6=>144|15=>139|14=>176|28=>169|29=>170|20=>201|21=>202|22=>203|23=>204|24=>205|25=>206|26=>207|27=>208|46=>216|47=>193|48=>194|49=>217|50=>218|57=>220|n=>n,fun|22=>50|24=>52|25=>179|3=>3|39=>224|0=>0|53=>258|55=>239|4=>4|46=>252|45=>251|50=>48|5=>5|9=>9|66=>280|70=>283|76=>296|77=>297|n=>n,fun|n=>n⟩
theorem Tryz.laysS_f144:Go.Proofs.SlLaysF0.n6 Tryz.prog Tryz.laysS_f144_ren:={
  mixed:=by kernel_rfl
  f6:=⟨Tryz.f144.name,by decide,Tryz.func144.trans (congrArg some (by kernel_rfl))⟩
  f14:=⟨Tryz.f176.name,by decide,Tryz.func176.trans (congrArg some (by kernel_rfl))⟩
  f15:=Tryz.func139.trans (congrArg some (by kernel_rfl))
  f20:=⟨Tryz.f201.name,by decide,Tryz.func201.trans (congrArg some (by kernel_rfl))⟩
  f21:=⟨Tryz.f202.name,by decide,Tryz.func202.trans (congrArg some (by kernel_rfl))⟩
  f22:=⟨Tryz.f203.name,by decide,Tryz.func203.trans (congrArg some (by kernel_rfl))⟩
  f23:=⟨Tryz.f204.name,by decide,Tryz.func204.trans (congrArg some (by kernel_rfl))⟩
  f24:=⟨Tryz.f205.name,by decide,Tryz.func205.trans (congrArg some (by kernel_rfl))⟩
  f25:=⟨Tryz.f206.name,by decide,Tryz.func206.trans (congrArg some (by kernel_rfl))⟩
  f26:=⟨Tryz.f207.name,by decide,Tryz.func207.trans (congrArg some (by kernel_rfl))⟩
  f27:=⟨Tryz.f208.name,by decide,Tryz.func208.trans (congrArg some (by kernel_rfl))⟩
  f28:=Tryz.func169.trans (congrArg some (by kernel_rfl))
  f29:=Tryz.func170.trans (congrArg some (by kernel_rfl))
  f46:=⟨Tryz.f216.name,by decide,Tryz.func216.trans (congrArg some (by kernel_rfl))⟩
  f47:=Tryz.func193.trans (congrArg some (by kernel_rfl))
  f48:=Tryz.func194.trans (congrArg some (by kernel_rfl))
  f49:=⟨Tryz.f217.name,by decide,Tryz.func217.trans (congrArg some (by kernel_rfl))⟩
  f50:=⟨Tryz.f218.name,by decide,Tryz.func218.trans (congrArg some (by kernel_rfl))⟩
  f57:=⟨Tryz.f220.name,by decide,Tryz.func220.trans (congrArg some (by kernel_rfl))⟩
  t0:=Tryz.underlying0
  a0:=Tryz.isAgg0
  z0:=Tryz.sizeOf0
  v0:=Tryz.zeroValue0
  t3:=Tryz.underlying3
  a3:=Tryz.isAgg3
  z3:=Tryz.sizeOf3
  v3:=Tryz.zeroValue3
  t4:=Tryz.underlying4
  a4:=Tryz.isAgg4
  z4:=Tryz.sizeOf4
  v4:=Tryz.zeroValue4
  t5:=Tryz.underlying5
  a5:=Tryz.isAgg5
  z5:=Tryz.sizeOf5
  v5:=Tryz.zeroValue5
  t9:=Tryz.underlying9
  a9:=Tryz.isAgg9
  z9:=Tryz.sizeOf9
  v9:=Tryz.zeroValue9
  t22:=Tryz.underlying50
  a22:=Tryz.isAgg50
  z22:=Tryz.sizeOf50
  v22:=Tryz.zeroValue50
  t25:=Tryz.underlying179
  a25:=Tryz.isAgg179
  z25:=Tryz.sizeOf179
  v25:=Tryz.zeroValue179
  t39:=Tryz.underlying224
  a39:=Tryz.isAgg224
  z39:=Tryz.sizeOf224
  v39:=Tryz.zeroValue224
  t45:=Tryz.underlying251
  a45:=Tryz.isAgg251
  z45:=Tryz.sizeOf251
  v45:=Tryz.zeroValue251
  t46:=Tryz.underlying252
  a46:=Tryz.isAgg252
  z46:=Tryz.sizeOf252
  v46:=Tryz.zeroValue252
  t50:=Tryz.underlying48
  a50:=Tryz.isAgg48
  z50:=Tryz.sizeOf48
  v50:=Tryz.zeroValue48
  t53:=Tryz.underlying258
  a53:=Tryz.isAgg258
  z53:=Tryz.sizeOf258
  v53:=Tryz.zeroValue258
  t55:=Tryz.underlying239
  a55:=Tryz.isAgg239
  z55:=Tryz.sizeOf239
  v55:=Tryz.zeroValue239
  t66:=Tryz.underlying280
  a66:=Tryz.isAgg280
  z66:=Tryz.sizeOf280
  v66:=Tryz.zeroValue280
  t70:=Tryz.underlying283
  a70:=Tryz.isAgg283
  z70:=Tryz.sizeOf283
  v70:=Tryz.zeroValue283
  t76:=Tryz.underlying296
  a76:=Tryz.isAgg296
  z76:=Tryz.sizeOf296
  v76:=Tryz.zeroValue296
  t77:=Tryz.underlying297
  a77:=Tryz.isAgg297
  z77:=Tryz.sizeOf297
  v77:=Tryz.zeroValue297 }
open Go.RowKit Go.Lib Go.Sort in
theorem Tryz.sortU_eq {α:Type} [Inhabited α] (k:Nat) (aE:∀ w,(isAgg 52).run Tryz.prog w=.ok true w) (zE:∀ w,(Go.sizeOf 52).run Tryz.prog w=.ok k w) (enc:α→List Value) (hk:∀ x,(enc x).length=k) (h1:∀ x,∀ v∈enc x,v.oneCell'=true) (cf:α→α→Int) (hO:SWO (ltOf cf)) (g:Nat) (cb:Array Value) (blk off cap:Nat) (d:Array α) (w:World) (eg:∀ args w,(callFunc g args).run Tryz.prog w=.ok (.enter g args) w) (hcmp:CmpLays Tryz.prog g cb enc k cf blk off d.size w) (hH:HoldsK enc k w blk off d) (hblk:blk < w.heap.size) (hsz:d.size < 4611686018427387904) :
    Calls Tryz.prog 144 #[.slice (some ⟨blk,off,none⟩) d.size cap,.func (.func g) #[] cb] w fun e w' =>
      e=.returned (.tuple #[])∧∃ n os,w'=sortWorldK enc k w blk off n (pdq (ltOf cf) d 0 d.size (Lib.bitLen d.size) true true) os:=AnyQ.slices_SortFunc_eq Tryz.laysS_f144 k aE zE enc hk h1 cf hO g cb blk off cap d w eg hcmp hH hblk hsz
open Go.RowKit Go.Lib Go.Sort in
theorem Tryz.sortU_none {α:Type} [Inhabited α] (p:Option Addr) (cap:Nat) (fv:Value) (w:World) :
    Calls Tryz.prog 144 #[.slice p 0 cap,fv] w fun e w'=>e=.returned (.tuple #[])∧w'=w:=AnyF.slices_SortFunc_none Tryz.laysS_f144 p cap fv w
end
section
open Go Go.RowKit Go.Lib Go.Sort
instance:Inhabited Lch:=⟨⟨0,0⟩⟩
def lexU (x y:Lch):Prop:=x.tm < y.tm∨(x.tm=y.tm∧x.job < y.job)
instance (x y:Lch):Decidable (lexU x y):=by unfold lexU;infer_instance
theorem cmp3 (a b:Int):(a < b∧Lib.compareInt a b=-1)∨(a=b∧Lib.compareInt a b=0)∨(b < a∧Lib.compareInt a b=1):=by
  unfold Lib.compareInt
  by_cases h:a < b
  · simp [h]
  · by_cases h2:b < a
    · simp [h,h2]
    · right;left;simp [h,h2];omega
theorem UW (a b:Int):orL [a,b] < 0↔a < 0∨(a=0∧b < 0):=by
  simp only [orL]
  by_cases h1:a=0
  · rw [if_neg (by simp [h1])]
    by_cases h2:b=0
    · rw [if_neg (by simp [h2])];omega
    · rw [if_pos h2];omega
  · rw [if_pos h1];omega
theorem ltU (x y:Lch):ltOf cfU x y=decide (lexU x y):=by
  unfold ltOf cfU
  rw [Bool.eq_iff_iff]
  simp only [decide_eq_true_eq]
  rw [UW]
  unfold lexU
  have h1:=cmp3 x.tm y.tm
  have h2:=cmp3 x.job y.job
  omega
theorem swoU:SWO (ltOf cfU) where
  irrefl x:=by rw [ltU];simp [lexU]
  trans x y z h1 h2:=by rw [ltU] at *;simp only [decide_eq_true_eq] at *;unfold lexU at *;omega
  ntrans x y z h1 h2:=by rw [ltU] at *;simp only [decide_eq_false_iff_not] at *;unfold lexU at *;omega
theorem cmpLaysU (blk off size:Nat) (w:World):CmpLays Tryz.prog 113 #[] encU 2 cfU blk off size w:=fun _ _ _ _ x y=>closureU x y _
def AY (xs:List Lch):List Lch:=(pdq (ltOf cfU) xs.toArray 0 xs.length (Lib.bitLen xs.length) true true).toList
theorem Qa (xs:List Lch):PermIn 0 xs.toArray.size xs.toArray (AY xs).toArray∧SortedIn (ltOf cfU) 0 xs.toArray.size (AY xs).toArray:=by
  have:=pdq_sorts (ltOf cfU) swoU xs.toArray 0 xs.toArray.size (Lib.bitLen xs.length) true true (Nat.zero_le _) (Nat.le_refl _) (Or.inl rfl)
  simpa [AY] using this
theorem ED (xs:List Lch):(AY xs).Perm xs:=by
  obtain ⟨⟨hsz,_,hperm⟩,_⟩:=Qa xs
  have e1:(AY xs).toArray.extract 0 xs.toArray.size=(AY xs).toArray:=by rw [← hsz];exact Array.extract_size
  rw [e1,Array.extract_size] at hperm
  simpa using hperm
theorem DF (xs:List Lch):(AY xs).length=xs.length:=(ED xs).length_eq
theorem HU (xs:List Lch):(AY xs).Pairwise fun x y=>¬ lexU y x:=by
  obtain ⟨_,hs⟩:=Qa xs
  have hl:=DF xs
  rw [List.pairwise_iff_getElem]
  intro i j hi hj hij
  have:=hs i j (Nat.zero_le _) hij (by simp;omega)
  rw [getElem!_pos _ j (by simpa using hj),getElem!_pos _ i (by simpa using hi),ltU] at this
  simpa using this
theorem flatU:∀ (xs:List Lch),(flatK encU 2 xs.toArray).toList=xs.flatMap encU:=fun xs=>by
  apply List.ext_getElem?
  intro t
  have key:∀ (l:List Lch) (t:Nat),(l.flatMap encU)[t]?=(l[t / 2]?).bind fun x=>(encU x)[t % 2]?:=by
    intro l
    induction l with
    | nil=>intro t;simp
    | cons x l ih =>
      intro t
      rw [List.flatMap_cons]
      match t with
      | 0=>rfl
      | 1=>rfl
      | t + 2 =>
        rw [List.getElem?_append_right (by simp [encU]),show t + 2 - (encU x).length=t from by simp [encU],ih]
        rw [show (t + 2) / 2=t / 2 + 1 from by omega,show (t + 2) % 2=t % 2 from by omega]
        simp
  rw [key]
  by_cases ht:t < xs.length * 2
  · have h1:t / 2 < xs.length:=by omega
    have hsz:t < (flatK encU 2 xs.toArray).size:=by simpa using ht
    rw [Array.getElem?_toList,Array.getElem?_eq_getElem hsz,List.getElem?_eq_getElem h1,Option.bind_some]
    have:=get_flatK encU 2 xs.toArray t (by simpa using ht)
    rw [getElem!_pos (flatK encU 2 xs.toArray) t hsz,getElem!_pos xs.toArray (t / 2) (by simpa using h1)] at this
    rw [this]
    have h2:t % 2 < (encU xs[t / 2]).length:=by simp [encU];omega
    rw [List.getElem?_eq_getElem h2,List.getElem_toArray,getElem!_pos (encU xs[t / 2]) (t % 2) h2]
  · have h1:(flatK encU 2 xs.toArray).size≤t:=by rw [size_flatK];simpa using (by omega:xs.length * 2≤t)
    have h2:xs[t / 2]?=none:=List.getElem?_eq_none (by omega)
    rw [Array.getElem?_toList,Array.getElem?_eq_none h1,h2]
    rfl
theorem Ip {w:World} {F:Nat→Prop}:∀ {xs:List Lch} {cells:List Value},Chunks w F cells xs→cells=xs.flatMap encU∧∀ x∈xs,inI64 x.tm∧inI64 x.job
  | [],_,h=>⟨h,fun _ hx=>by simp at hx⟩
  | x :: xs,cells,⟨cs,rest,he,hr,hc⟩=>by
    obtain ⟨h1,h2⟩:=Ip hc
    obtain ⟨h3,h4⟩:=hr
    refine ⟨by rw [he,h3,h1];rfl,fun y hy=>?_⟩
    rcases List.mem_cons.1 hy with rfl|hy
    · exact h4
    · exact h2 y hy
theorem Hx {w:World} {F:Nat→Prop}:∀ {xs:List Lch},(∀ x∈xs,inI64 x.tm∧inI64 x.job)→Chunks w F (xs.flatMap encU) xs
  | [],_=>rfl
  | x :: xs,h=>⟨encU x,xs.flatMap encU,rfl,⟨rfl,h x (by simp)⟩,Hx fun y hy=>h y (by simp [hy])⟩
theorem FN (xs:List Lch):(xs.flatMap encU).length=xs.length * 2:=by rw [← flatU,Array.length_toList,size_flatK];simp
theorem KJ {i:Nat} {w:World} {O:Lab} {v:Value} {xs:List Lch} (hR:Rw i w O 52 v xs) (hl:xs.length < 4611686018427387904) :
    Fn Tryz.prog 144 [v,.func (.func 113) #[] #[]] w fun _ w'=>∃ O',St (eT i) w O w' O'∧Rw i w' O' 52 v (AY xs):=by
  intro d
  rcases Nat.eq_zero_or_pos xs.length with h0|h0
  · have hx:xs=[]:=List.eq_nil_of_length_eq_zero h0
    subst hx
    obtain ⟨p,c,rfl⟩:=hR.form
    have hs:AY []=[]:=List.eq_nil_of_length_eq_zero (DF [])
    exact (Tryz.sortU_none (α:=Lch) p c _ (dr w d)).mono fun e w' ⟨he,hw⟩=>⟨_,w,d,he,hw,O,St.refl _ _ _,by rw [hs];exact hR⟩
  · obtain ⟨g,cap,cells,sp,rfl,hg,hFg,hb,hc,hlen,hnc,hcm,htot⟩:=hR.1.open h0
    obtain ⟨rfl,hin⟩:=Ip hc
    have hfl:=flatU xs
    have hH:HoldsK encU 2 (dr w d) g 0 xs.toArray:=fun j hj=>by
      have hj':j < xs.length * 2:=by simpa using hj
      refine ⟨?_,by rw [Nat.zero_add];exact hb.frozen j⟩
      rw [Nat.zero_add]
      refine hb.cell ?_
      rw [List.getElem?_append_left (by rw [FN];exact hj'),← hfl,Array.getElem?_toList,Array.getElem?_eq_getElem hj,getElem!_pos _ j hj]
      rfl
    have aE:∀ w,(isAgg 52).run Tryz.prog w=.ok true w:=fun w=>GR w
    have zE:∀ w,(Go.sizeOf 52).run Tryz.prog w=.ok 2 w:=fun w=>DL w
    have eg:∀ args w,(callFunc 113 args).run Tryz.prog w=.ok (.enter 113 args) w:=enters_of Tryz.func113 (by kernel_rfl) rfl
    have hcall:=Tryz.sortU_eq 2 aE zE encU (fun _=>rfl) (fun x v hv=>by simp [encU] at hv;rcases hv with rfl|rfl<;>rfl) cfU swoU 113 #[] g 0 cap xs.toArray (dr w d) eg (cmpLaysU g 0 _ _) hH hb.lt (by simpa using hl)
    have e1:xs.toArray.size=xs.length:=by simp
    rw [e1] at hcall
    refine hcall.mono fun e w' ⟨he,n,os,hw⟩=>⟨_,w',w'.drawn,he,rfl,upO O w.heap.size (fun _=>0),?_,?_⟩
    · subst hw
      refine ⟨rfl,rfl,rfl,?_,fun k hk hne=>⟨?_,ER hk⟩⟩
      · show w.heap.size≤((w.heap.modify g _) ++ os).size
        simp
      · have hkg:g≠k:=fun e=>hne (by rw [← e];exact hR.2.1 g rfl)
        show ((w.heap.modify g _) ++ os)[k]?=_
        rw [Array.getElem?_append_left (by simpa using hk),Array.getElem?_modify,if_neg hkg]
    · have hpd:pdq (ltOf cfU) xs.toArray 0 xs.length (Lib.bitLen xs.length) true true=(AY xs).toArray:=by simp [AY]
      rw [hpd] at hw
      have hsl:=DF xs
      have hf2:=flatU (AY xs)
      have hblk:Blk w' g 52 ((AY xs).flatMap encU ++ sp):=by
        subst hw
        unfold Blk at hb ⊢
        have hsz:g < w.heap.size:=Blk.lt hb
        show ((w.heap.modify g _) ++ os)[g]?=_
        rw [Array.getElem?_append_left (by simpa using hsz),Array.getElem?_modify,if_pos rfl,hb]
        simp only [Option.map_some,Go.Sort.onCells]
        congr 2
        apply Array.ext
        · simp only [Go.Sort.putCells,Array.size_mapIdx,List.size_toArray,List.length_append,FN,hsl]
        · intro i h1 h2
          simp only [Go.Sort.putCells,Array.getElem_mapIdx,Nat.zero_add,Nat.sub_zero,Nat.zero_le,true_and]
          have e2:(flatK encU 2 (AY xs).toArray).size=xs.length * 2:=by rw [size_flatK];simp [hsl]
          by_cases hi:i < xs.length * 2
          · rw [if_pos (by rw [e2];exact hi)]
            simp only [List.getElem_toArray]
            rw [List.getElem_append_left (by rw [FN,hsl];exact hi)]
            rw [getElem!_pos _ _ (by rw [e2];exact hi)]
            have:=congrArg (·[i]?) hf2
            simp only [Array.getElem?_toList] at this
            rw [Array.getElem?_eq_getElem (by rw [e2];exact hi),List.getElem?_eq_getElem (by rw [FN,hsl];exact hi)] at this
            exact Option.some.inj this
          · rw [if_neg (by rw [e2];exact hi)]
            simp only [List.getElem_toArray]
            rw [List.getElem_append_right (by rw [FN];omega),List.getElem_append_right (by rw [FN,hsl];omega)]
            simp only [FN,hsl]
      have hS:∀ k,Fr 0 w O k→Fr 0 w' (upO O w.heap.size fun _=>0) k:=fun k hk=>⟨by subst hw;show k < ((w.heap.modify g _) ++ os).size;have:=hk.1;simp;omega,(ER hk.1).trans hk.2⟩
      have:=Own.close (w:=w') (base:=0) (F:=Fr 0 w O) (cap:=cap) (Nat.zero_le _) hFg hblk (Hx (F:=Fr 0 w O) (w:=w') fun x hx=>hin x ((ED xs).mem_iff.1 hx)) (by rw [hsl];exact hnc) hcm (by rw [List.length_append,FN] at htot ⊢;rw [hsl];exact htot)
      rw [hsl] at this
      exact this.rw hS (fun g' hg'=>by
        have:g=g':=by simpa [Value.ownBlock] using hg'
        subst this
        exact (ER hb.lt).trans (hR.2.1 g rfl)) hR.2.2
theorem LO {α:Type} {R:α→α→Prop}:∀ {a b:List α},a.Perm b→a.Pairwise R→b.Pairwise R→(∀ x y,R x y→R y x→x=y)→a=b
  | [],b,h,_,_,_=>(List.nil_perm.1 h).symm
  | x :: a,[],h,_,_,_=>by simp at h
  | x :: a,y :: b,h,ha,hb,hR=>by
    obtain ⟨ha1,ha2⟩:=List.pairwise_cons.1 ha
    obtain ⟨hb1,hb2⟩:=List.pairwise_cons.1 hb
    have hx:x∈y :: b:=h.mem_iff.1 List.mem_cons_self
    have hy:y∈x :: a:=h.mem_iff.2 List.mem_cons_self
    have e:x=y:=by
      rcases List.mem_cons.1 hx with rfl|hx
      · rfl
      · rcases List.mem_cons.1 hy with rfl|hy
        · rfl
        · exact hR x y (ha1 y hy) (hb1 x hx)
    subst e
    rw [LO ((List.perm_cons x).1 h) ha2 hb2 hR]
theorem Qb {xs:List Lch} (h:xs.Pairwise fun x y=>¬ lexU y x):AY xs=xs :=
  LO (ED xs) (HU xs) h fun x y h1 h2=>by
    obtain ⟨a,b⟩:=x
    obtain ⟨a',b'⟩:=y
    unfold lexU at h1 h2
    dsimp only at h1 h2
    have e1:a=a':=by omega
    have e2:b=b':=by omega
    rw [e1,e2]
end
section
open Go Go.RowKit Go.Shelf Go.Proofs
attribute [local go_sem] Oper.semAt_some
def aggU (x:Lch):Value:=.agg #[.int .i64 x.tm,.int .i64 x.job]
set_option maxRecDepth 100000 in
set_option maxHeartbeats 2000000 in
theorem QL (F:Fence) (n:Nat) (h145:F.fn 145) (hro:F.round=none) (hn:1≤n) (l Bs n₀ b off cap:Nat) (zs:List Lch) (hreach:zs.length * 16≤140737488351232) (hb:b < n₀) (J Jx:List Lch→World→Prop)
    (hY:∀ pre x W,J pre W→pre.length < zs.length→YieldAt F (n - 1) Tryz.prog l #[aggU x] W fun e W' =>
      (e=.returned (.bool true)∧J (pre ++ [x]) W'∧Below n₀ W W')∨(e=.returned (.bool false)∧Jx (pre ++ [x]) W'))
    (W:World) (hJ:AbidesFrom W.heap.size J) (hn0:n₀≤W.heap.size) (hBs:W.cell? ⟨Bs,0,none⟩=some (.slice (some ⟨b,off,none⟩) zs.length cap)) (hc:∀ j x,zs[j]?=some x→W.cell? ⟨b,off + j * 2,none⟩=some (.int .i64 x.tm)∧W.cell? ⟨b,off + j * 2 + 1,none⟩=some (.int .i64 x.job)) (h0:J [] W) :
    CallsIn F n Tryz.prog 145 #[.func (.yield l) #[] #[],.pointer (some ⟨Bs,0,none⟩)] W fun e W'=>(∃ v,e=.returned v) ∧
      (J zs W'∨(∃ pre,pre <+: zs∧Jx pre W')):=by
  refine callsIn_of_wp Tryz.func145 rfl h145 ?_ hro
  simp only [Tryz.ntmps145,List.size_toArray,List.length_cons,List.length_nil,Nat.reduceAdd,Nat.reduceSub,Array.replicate_succ,Array.replicate_zero,List.push_toArray,List.append_toArray,List.nil_append,List.cons_append]
  gi_wp2
  gi_loopw [7] (fun i wr=>∃ k:Nat,k≤zs.length∧i=.int .i64 k∧J (zs.take k) wr∧Below n₀ W wr∧W.heap.size≤wr.heap.size)
    (fun i _=>zs.length - (intOf i).toNat)
  case atStart=>exact ⟨0,Nat.zero_le _,rfl,by simpa using h0,Below.refl _ _,Nat.le_refl _⟩
  case round =>
    obtain ⟨k,hk,rfl,hJs,hnx,hsz⟩:=hrel
    by_cases hlt:k < zs.length
    · have hx:zs[k]?=some zs[k]:=List.getElem?_eq_getElem hlt
      have hcx:=(hnx.cell (p:=⟨b,off + k * 2,none⟩) hb).trans (hc k _ hx).1
      have hcy:=(hnx.cell (p:=⟨b,off + k * 2 + 1,none⟩) hb).trans (hc k _ hx).2
      have hJ2:=hJ _ wr (wr.alloc (.cells #[.int .i64 zs[k].tm,.int .i64 zs[k].job] 52)) none hJs (World.grownBy_alloc wr _ none) (fun r e=>by cases e)
      obtain ⟨fn,tmps,assign,body,hy,hR⟩:=hY _ zs[k] _ hJ2 (by simp;omega)
      dsimp only [aggU] at hy
      gi_wp2
      refine hR.mono ?_
      have htk:zs.take k ++ [zs[k]]=zs.take (k + 1):=by rw [List.take_add_one,hx];rfl
      rintro e W3 (⟨rfl,hJ3,hk3⟩|⟨rfl,hJx3⟩)
      · gi_wp2
        go_roundw
        case rel=>exact ⟨k + 1,by omega,by simp,by rw [← htk];exact hJ3,(hnx.alloc (Nat.le_trans hn0 hsz) _).trans hk3,by have:=hk3.size;simp at this;omega⟩
        case measure=>simp [intOf];omega
      · gi_wp2
        refine bodyPost_ret (results_none rfl _ _ _) rfl ?_
        exact ⟨⟨_,rfl⟩,.inr ⟨_,by rw [htk];exact List.take_prefix _ _,hJx3⟩⟩
    · obtain rfl:k=zs.length:=by omega
      gi_wp2
      go_end0
      exact ⟨⟨_,rfl⟩,.inl (by simpa using hJs)⟩
theorem PC (F:Fence) (n:Nat) (h145:F.fn 145) (hro:F.round=none) (l Bs:Nat) (J:List Lch→World→Prop) (W:World) {A:Option Addr} {c:Nat} (hBs:W.cell? ⟨Bs,0,none⟩=some (.slice A 0 c)) (h0:J [] W) :
    CallsIn F n Tryz.prog 145 #[.func (.yield l) #[] #[],.pointer (some ⟨Bs,0,none⟩)] W fun e W'=>(∃ v,e=.returned v)∧J [] W':=by
  refine callsIn_of_wp Tryz.func145 rfl h145 ?_ hro
  simp only [Tryz.ntmps145,List.size_toArray,List.length_cons,List.length_nil,Nat.reduceAdd,Nat.reduceSub,Array.replicate_succ,Array.replicate_zero,List.push_toArray,List.append_toArray,List.nil_append,List.cons_append]
  gi_wp2
  gi_loopw [7] (fun i wr=>i=.int .i64 0∧J [] wr) (fun _ _=>0)
  case atStart=>exact ⟨rfl,h0⟩
  case round =>
    obtain ⟨rfl,hJs⟩:=hrel
    gi_wp2
    go_end0
    exact ⟨⟨_,rfl⟩,hJs⟩
def LchAt (n₀:Nat) (W:World) (sv:Value) (zs:List Lch):Prop :=
  ((∃ A c,sv=.slice A 0 c)∧zs=[])∨∃ b off cap,sv=.slice (some ⟨b,off,none⟩) zs.length cap∧b < n₀∧∀ j x,zs[j]?=some x→W.cell? ⟨b,off + j * 2,none⟩=some (.int .i64 x.tm)∧W.cell? ⟨b,off + j * 2 + 1,none⟩=some (.int .i64 x.job)
theorem LchAt.below {n₀:Nat} {A B:World} (h:Below n₀ A B) {sv:Value} {zs:List Lch}:LchAt n₀ A sv zs→LchAt n₀ B sv zs
  | .inl e=>.inl e
  | .inr ⟨b,off,cap,e,hb,hc⟩=>.inr ⟨b,off,cap,e,hb,fun j x hj=>⟨(h.cell (p:=⟨b,off + j * 2,none⟩) hb).trans (hc j x hj).1,(h.cell (p:=⟨b,off + j * 2 + 1,none⟩) hb).trans (hc j x hj).2⟩⟩
theorem Pg (F:Fence) (n:Nat) (h145:F.fn 145) (hro:F.round=none) (hn:1≤n) (Bs n₀:Nat) (sv:Value) (zs:List Lch) (hreach:zs.length * 16≤140737488351232) (w:World) (hBs:Bs < w.heap.size) (hn₀:n₀≤w.heap.size)
    (hc:w.cell? ⟨Bs,0,none⟩=some sv) (hI:LchAt n₀ w sv zs) :
    SeqStopsK F n Tryz.prog 145 #[.pointer (some ⟨Bs,0,none⟩)] (fun x:Lch=>#[aggU x]) (Below n₀) (fun ys=>ys=zs) (fun pre=>pre <+: zs) zs.length w:=fun l J Jx W hW hJ _ hY h0=>by
  have hc':=(hW.cell (p:=⟨Bs,0,none⟩) hBs).trans hc
  rcases hI.below (hW.mono hn₀) with ⟨⟨A,c,rfl⟩,rfl⟩|⟨b,off,cap,rfl,hb,hcs⟩
  · exact (PC F n h145 hro l Bs J W hc' h0).mono fun e W' ⟨he,hj⟩=>⟨he,.inl ⟨_,rfl,hj⟩⟩
  · refine (QL F n h145 hro hn l Bs n₀ b off cap zs hreach hb J Jx hY W hJ (Nat.le_trans hn₀ hW.size) hc' hcs h0).mono ?_
    rintro e W' ⟨he,hj|⟨pre,hp,hj⟩⟩
    · exact ⟨he,.inl ⟨_,rfl,hj⟩⟩
    · exact ⟨he,.inr ⟨_,hp,hj⟩⟩
def Two (W:World) (B:Nat) (x:Lch):Prop:=W.heap[B]?=some (.cells #[.int .i64 x.tm,.int .i64 x.job] 52 (0,0))
theorem Two.lt {W:World} {B:Nat} {x:Lch} (h:Two W B x):B < W.heap.size:=(Array.getElem?_eq_some_iff.1 h).1
theorem Ud (B:Nat) (x:Lch) {X Y:World} {row:Option Nat} (h:Two X B x) (hg:X.grownBy Y row) (hrow:∀ r,row=some r→∃ o:Obj,X.heap[r]?=some o∧o.isCells=false):Two Y B x :=
  (hg.block B h.lt fun e=>by obtain ⟨o,ho,hc⟩:=hrow B e.symm;rw [show X.heap[B]?=_ from h] at ho;cases ho;cases hc).trans h
theorem Ue (w:World) (x:Lch):∀ j u,(encU x)[j]?=some u→(w.alloc (.cells #[.int .i64 x.tm,.int .i64 x.job] 52)).cell? ((⟨w.heap.size,0,none⟩:Addr).add j)=some u:=by
  intro j u hj
  have hb:(w.alloc (.cells #[.int .i64 x.tm,.int .i64 x.job] 52)).heap[w.heap.size]?=some (.cells #[.int .i64 x.tm,.int .i64 x.job] 52 (0,0)):=World.alloc_heap_new w _
  rw [Ix,Nat.zero_add]
  match j,hj with
  | 0,hj=>simp only [World.cell?,hb];simpa [encU] using hj
  | 1,hj=>simp only [World.cell?,hb];simpa [encU] using hj
  | j + 2,hj=>simp [encU] at hj
set_option maxRecDepth 100000 in
set_option maxHeartbeats 4000000 in
theorem appendSeq (zs:List Lch) (Bs:Nat) (sv:Value) (hreach:zs.length * 16≤140737488351232) (w:World) (hBs:Bs < w.heap.size) (hc:w.cell? ⟨Bs,0,none⟩=some sv) (hI:LchAt w.heap.size w sv zs) :
    Calls Tryz.prog 175 #[.slice none 0 0,.func (.func 145) #[] #[.pointer (some ⟨Bs,0,none⟩)]] w fun e w' =>
      ∃ v,e=.returned v∧w'.ownsRow w.heap.size 52 2 v zs.length (zs.flatMap encU)∧Below w.heap.size w w':=by
  refine (callsIn_wide (n:=6)).1 ?_
  have h1:1≤6:=by omega
  refine callsIn_of_wp_marks Tryz.func175 rfl trivial ?_ rfl
  simp only [Tryz.ntmps175,List.size_toArray,List.length_cons,List.length_nil,Nat.reduceAdd,Nat.reduceSub,Array.replicate_succ,Array.replicate_zero,List.push_toArray,List.append_toArray,List.nil_append,List.cons_append]
  gi_wp2
  have bS:=Boxed.new w 50 (.slice none 0 0)
  have hB0:Below w.heap.size w (w.alloc (.cells #[.slice none 0 0] 50)):=(Below.refl _ w).alloc (Nat.le_refl _) _
  have hsz:(w.alloc (.cells #[.slice none 0 0] 50)).heap.size=w.heap.size + 1:=by simp
  have hc0:(w.alloc (.cells #[.slice none 0 0] 50)).cell? ⟨Bs,0,none⟩=some sv:=(hB0.cell (p:=⟨Bs,0,none⟩) hBs).trans hc
  obtain ⟨W0,hW0⟩:∃ W0,w.alloc (.cells #[.slice none 0 0] 50)=W0:=⟨_,rfl⟩
  rw [hW0] at bS hB0 hsz hc0 ⊢
  clear hW0
  refine wpIn_rangeFunc_ownH rfl h1 (gf:=145) (lb:=#[.pointer (some ⟨Bs,0,none⟩)]) rfl trivial (enters_of Tryz.func145 (by kernel_rfl) rfl)
    (Pg Fence.wide 5 trivial rfl (by omega) Bs w.heap.size sv zs hreach W0 (by omega) (by omega) hc0 (hI.below hB0)) belowK_t (belowK_b (by omega)) (Below.refl _ _) (fun _=>rfl)
    (fun pre W=>(∃ v,Boxed W w.heap.size 50 v∧W.ownsRow w.heap.size 52 2 v pre.length (pre.flatMap encU)∧True)∧Below w.heap.size w W)
    (fun _ _ _=>False)
    (OwnFrom.and (Own.from (holdsRow_own w.heap.size w.heap.size 50 52 2 (fun pre:List Lch=>pre.length) (fun pre=>pre.flatMap encU) (fun _ _=>True)) _) (ownFrom_below (Nat.le_refl _) (by omega)))
    (fun _ _ _ _ _ hs _ _=>hs)
    ⟨⟨_,bS,World.ownsRow_nil _ _ _ _,trivial⟩,hB0⟩
    (fun x a' W=>∃ Bx,w.heap.size < Bx∧Two W Bx x∧a'={ tmps:=#[.slice none 0 0,.func (.func 145) #[] #[.pointer (some ⟨Bs,0,none⟩)],.pointer (some ⟨w.heap.size,0,none⟩),undef,.slice none 0 0,.pointer (some ⟨Bx,0,none⟩),.func (.func 145) #[] #[.pointer (some ⟨Bs,0,none⟩)],aggU x,undef,undef,undef,undef,undef],defers:=[] })
    (fun x a' _ X Y row hs hg hr=>by obtain ⟨Bx,h1,h2,h3⟩:=hs;exact ⟨Bx,h1,Ud Bx x h2 hg (fun r e=>(hr r e).2),h3⟩)
    ?assign ?body ?done ?stop
  case assign =>
    rintro l pre x W K ⟨⟨v,bS1,hr1,_⟩,hB1⟩ hK
    unfold aggU
    gi_wp2
    have hlt:=bS1.lt
    exact hK _ _ ((KeepsOthers.alloc _ _).from _) ((Below.refl _ W).alloc hB1.size _) ⟨⟨v,bS1.alloc _,hr1.alloc _,trivial⟩,hB1.alloc hB1.size _⟩ ⟨W.heap.size,hlt,World.alloc_heap_new W _,rfl⟩
  case body =>
    rintro l pre x a' W hl ⟨r,hr⟩ ⟨⟨v,bS1,hrow,_⟩,hB1⟩ ⟨Bx,hBx,bX,rfl⟩ hlt
    have cS:=bS1.cell
    have fS:=bS1.frozen
    have cX0:W.cell? ⟨Bx,0,none⟩=some (.int .i64 x.tm):=by simp [World.cell?,show W.heap[Bx]?=_ from bX]
    have cX1:W.cell? ⟨Bx,1,none⟩=some (.int .i64 x.job):=by simp [World.cell?,show W.heap[Bx]?=_ from bX]
    obtain ⟨i0,hi,hz0,hz1,hz2⟩:=(inferInstance:TInfo Tryz.prog 52 (.agg #[.int .i64 0,.int .i64 0]) 2 16).eq
    have hpl:pre.length < zs.length:=hlt
    gi_wp2_with (
      gi_at_builtin
      refine wpListIn_append_own _ rfl _ _ 50 rfl w.heap.size 52 i0 (.agg #[.int .i64 0,.int .i64 0]) 2 16 Tryz.underlying50 hi hz0 hz1 hz2 rfl (by decide) v pre.length (pre.flatMap encU) rfl (hrow.alloc _) ⟨W.heap.size,0,none⟩ 1 1 (encU x) rfl rfl (Ue W x) (by intro u hu;simp [encU] at hu;rcases hu with rfl|rfl<;>rfl) (by unfold maxLen;omega) (by omega) (by have:=hB1.size;simp;omega) ?_
      intro v' w3 hown' hg3 hnil3
      obtain ⟨h1a,h2a,h3a,h4a,h5a⟩:=bS1.appended (by decide) hrow hB1.size (Nat.le_refl _) hown' hg3
      have hc3:=h1a.cell
      have hf3:=h1a.frozen
      obtain ⟨g',cap',rfl⟩:=ownsRow_succ hown')
    exact ⟨h4a.from _,h5a,⟨_,h2a,by simpa [List.flatMap_append] using h3a,trivial⟩,hB1.trans h5a⟩
  case done =>
    rintro D ys W hD rfl ⟨⟨v,bS1,hrow,_⟩,hB1⟩ hK
    have cS:=bS1.cell
    gi_wp2
    refine ⟨by simp,.inl ⟨_,_,rfl,run_takeDeferred hK,?_⟩⟩
    exact ⟨_,results_tmp rfl _ _ _,v,rfl,ownsRow_putObj hrow _ hK rfl,hB1.trans (belowK_b (w:=w) (Nat.le_refl _) W D _ _ (by omega) hK rfl rfl)⟩
  case stop =>
    rintro D c pre W _ _ h _
    exact h.elim
theorem LchAt.of {w:World} {A:Nat→Prop} (hA:∀ k,A k→k < w.heap.size) {v:Value} {zs:List Lch} (h:Vb w A v zs):LchAt w.heap.size w v zs:=by
  obtain ⟨Ad,c,rfl⟩:=h.form
  cases zs with
  | nil=>exact .inl ⟨⟨Ad,c,rfl⟩,rfl⟩
  | cons z zs =>
    obtain ⟨b,o,cs,rfl,hb,_,_,_⟩:=h.elem (k:=0) (x:=z) rfl
    refine .inr ⟨b,o,c,rfl,hA b hb,fun j x hx=>?_⟩
    obtain ⟨b',o',cs',e,_,_,hd,hr⟩:=h.elem hx
    injection e with e
    injection e with e1 e2
    subst e1;subst e2
    obtain ⟨rfl,_,_⟩:=hr
    exact ⟨cat0 hd,cat1 hd⟩
theorem LchAt.up {n m:Nat} {W:World} {sv:Value} {zs:List Lch} (h:LchAt n W sv zs) (hnm:n≤m):LchAt m W sv zs:=by
  rcases h with h|⟨b,off,cap,e,hb,hc⟩
  · exact .inl h
  · exact .inr ⟨b,off,cap,e,Nat.lt_of_lt_of_le hb hnm,hc⟩
theorem Ph {w:World} {zs:List Lch} {Bs:Nat} {sv:Value} (hreach:zs.length * 16≤140737488351232) (hin:∀ x∈zs,inI64 x.tm∧inI64 x.job) (hBs:Bs < w.heap.size) (hc:w.cell? ⟨Bs,0,none⟩=some sv) (hI:LchAt w.heap.size w sv zs) :
    Fn Tryz.prog 175 [.slice none 0 0,.func (.func 145) #[] #[.pointer (some ⟨Bs,0,none⟩)]] w fun v w'=>Ext w w'∧Own w' w.heap.size (fun k=>k < w.heap.size) 52 v zs:=by
  intro d
  refine (appendSeq zs Bs sv hreach (dr w d) hBs hc hI).mono fun e w' ⟨v,he,hr,hb⟩=>⟨v,w',w'.drawn,he,rfl,⟨hb.os,hb.tape,hb.output,hb.size,hb.block⟩,⟨_,hr,Hx hin,fun g hg hlt=>?_⟩⟩
  have:=(hr.lt g hg).1
  exact Nat.lt_irrefl _ (Nat.lt_of_lt_of_le hlt this)
attribute [local irreducible] ewp owp hwp hwq Ev Evg Fn retPost Res1
attribute [local irreducible] hwx loudX
theorem RF {w:World} (sv:Value) (h1:sv.cells.toList=[sv]:=by rfl) :
    Fn Tryz.prog 112 [sv] w fun v w'=>v=.func (.func 145) #[] #[.pointer (some ⟨w.heap.size,0,none⟩)]∧New w w' 50 [sv]:=by
  refine AH Tryz.func112 rfl Tryz.ntmps112 ?_
  repeat (first|refine Ar ?_|refine Aj rfl ?_|refine Ah rfl ?_)
  refine Js rfl rfl fun w1 hN=>?_
  refine Al rfl (o_z ?_)
  repeat (first|refine Ar ?_|refine Aj rfl ?_|refine Ah rfl ?_)
  refine LY rfl rfl (Al rfl (o_z ?_))
  repeat (first|refine Ar ?_|refine Aj rfl ?_|refine Ah rfl ?_)
  rw [h1] at hN
  exact ret1v rfl (At rfl) ⟨rfl,hN⟩
theorem QM {w:World} {zs:List Lch} {Bs:Nat} {sv:Value} (hreach:zs.length * 16≤140737488351232) (hin:∀ x∈zs,inI64 x.tm∧inI64 x.job) (hBs:Bs < w.heap.size) (hc:w.cell? ⟨Bs,0,none⟩=some sv) (hI:LchAt w.heap.size w sv zs) :
    Fn Tryz.prog 143 [.func (.func 145) #[] #[.pointer (some ⟨Bs,0,none⟩)]] w fun v w'=>Ext w w'∧Own w' w.heap.size (fun k=>k < w.heap.size) 52 v zs:=by
  refine AH Tryz.func143 rfl Tryz.ntmps143 ?_
  repeat (first|refine Ar ?_|refine Aj rfl ?_|refine Ah rfl ?_)
  refine Al rfl (o_z ?_)
  repeat (first|refine Ar ?_|refine Aj rfl ?_|refine Ah rfl ?_)
  refine Ak rfl ?_
  refine Dr rfl rfl (Ph hreach hin hBs hc hI) fun v w' ⟨hE,hv⟩=>?_
  refine Al rfl (o_z ?_)
  repeat (first|refine Ar ?_|refine Aj rfl ?_|refine Ah rfl ?_)
  exact ret1v rfl (At rfl) ⟨hE,hv⟩
theorem Og {w:World} {zs:List Lch} {Bs:Nat} {sv:Value} (hreach:zs.length * 16≤140737488351232) (hl:zs.length < 4611686018427387904) (hin:∀ x∈zs,inI64 x.tm∧inI64 x.job) (hBs:Bs < w.heap.size) (hc:w.cell? ⟨Bs,0,none⟩=some sv) (hI:LchAt w.heap.size w sv zs) :
    Fn Tryz.prog 111 [.func (.func 145) #[] #[.pointer (some ⟨Bs,0,none⟩)],.func (.func 113) #[] #[]] w fun v w'=>Ext w w'∧Own w' w.heap.size (fun k=>k < w.heap.size) 52 v (AY zs):=by
  refine AH Tryz.func111 rfl Tryz.ntmps111 ?_
  repeat (first|refine Ar ?_|refine Aj rfl ?_|refine Ah rfl ?_)
  refine Al rfl (o_z ?_)
  repeat (first|refine Ar ?_|refine Aj rfl ?_|refine Ah rfl ?_)
  refine Ak rfl ?_
  refine Dr rfl rfl (QM hreach hin hBs hc hI) fun v w' ⟨hE,hv⟩=>?_
  refine Al rfl (o_z ?_)
  repeat (first|refine Ar ?_|refine Aj rfl ?_|refine Ah rfl ?_)
  refine Ak rfl (Ak rfl ?_)
  have hR:Rw 1 w' (fun k=>if k < w.heap.size then 0 else 1) 52 v zs:=by
    obtain ⟨cells,h1,h2,h3⟩:=hv
    refine ⟨⟨cells,⟨h1.1,?_⟩,h2.mono (fun k hk=>⟨Nat.lt_of_lt_of_le hk hE.size,if_pos hk⟩),fun g hg hq=>?_⟩,fun g hg=>?_,by decide⟩
    · rcases h1.2 with h|⟨g,cap,cur,e,_,r⟩
      · exact .inl h
      · exact .inr ⟨g,cap,cur,e,Nat.zero_le _,r⟩
    · have:=(h1.lt g hg).1
      have h4:(if g < w.heap.size then 0 else 1)=0:=hq.2
      rw [if_neg (by omega)] at h4
      exact absurd h4 (by decide)
    · have:=(h1.lt g hg).1
      exact if_neg (by omega)
  refine Dr rfl rfl (KJ hR hl) fun u w2 ⟨O',hS,hR2⟩=>?_
  refine o_z ?_
  repeat (first|refine Ar ?_|refine Aj rfl ?_|refine Ah rfl ?_)
  refine Ak rfl (Al rfl (o_z ?_))
  repeat (first|refine Ar ?_|refine Aj rfl ?_|refine Ah rfl ?_)
  refine ret1v rfl (At rfl) ⟨⟨hS.os.trans hE.os,hS.tape.trans hE.tape,hS.output.trans hE.output,Nat.le_trans hE.size hS.size,fun k hk=>?_⟩,?_⟩
  · refine (hS.same k (Nat.lt_of_lt_of_le hk hE.size) ?_).1.trans (hE.block k hk)
    rw [if_pos hk];decide
  · obtain ⟨c0,g1,_,_⟩:=hv
    obtain ⟨c1,k1,k2,_⟩:=hR2.1
    obtain ⟨rfl,hin'⟩:=Ip k2
    refine ⟨_,⟨k1.1,?_⟩,Hx hin',fun g hg hlt=>?_⟩
    · rcases k1.2 with h|⟨g,cap,cur,e,_,r⟩
      · exact .inl h
      · exact .inr ⟨g,cap,cur,e,(g1.lt g (by rw [e];rfl)).1,r⟩
    · have:=(g1.lt g hg).1
      exact Nat.lt_irrefl _ (Nat.lt_of_lt_of_le hlt this)
noncomputable def Dm (x0:List Lch):Option (List Lch):=if x0.length * 16≤140737488351232 then some (AY x0) else none
theorem II {w:World} {A:Nat→Prop} (hA:∀ k,A k→k < w.heap.size) {vx0:Value} {x0:List Lch} (a0:Vb w A vx0 x0) {r:List Lch} (hm:Dm x0=some r) :
    Fn Tryz.prog 66 [vx0] w fun v w'=>Ext w w'∧Vb w' (upA A w w') v r:=by
  obtain ⟨hl,rfl⟩:=Di hm
  obtain ⟨Ad,c,rfl⟩:=a0.form
  have hin:∀ x∈x0,inI64 x.tm∧inI64 x.job:=fun x hx=>by
    obtain ⟨j,hj⟩:=List.getElem?_of_mem hx
    obtain ⟨_,_,cs,_,_,_,_,hr⟩:=a0.elem hj
    exact ⟨hr.2.1,hr.2.2⟩
  have hat:=LchAt.of hA a0
  refine AH Tryz.func66 rfl Tryz.ntmps66 ?_
  repeat (first|refine Ar ?_|refine Aj rfl ?_|refine Ah rfl ?_)
  refine Al rfl (o_z ?_)
  repeat (first|refine Ar ?_|refine Aj rfl ?_|refine Ah rfl ?_)
  refine Ak rfl ?_
  refine Dr rfl rfl (RF (.slice Ad x0.length c)) fun v w1 ⟨hv,hN⟩=>?_
  subst hv
  have hB1:Ext w w1:=hN.ext
  refine Dr rfl rfl (Og hl (by omega) hin (Bs:=w.heap.size) (sv:=.slice Ad x0.length c) (by rw [hN.size];omega) (hN.blk.cell (i:=0) rfl) ((hat.below hB1).up hB1.size)) fun u w2 ⟨hE,ho⟩=>?_
  refine Al rfl (o_z ?_)
  repeat (first|refine Ar ?_|refine Aj rfl ?_|refine Ah rfl ?_)
  refine ret1v rfl (At rfl) ⟨hB1.trans (hE.mono hB1.size),?_⟩
  obtain ⟨cells,k1,k2,k3⟩:=ho
  obtain ⟨rfl,hin'⟩:=Ip k2
  have ho':Own w2 w1.heap.size (fun _=>False) 52 u (AY x0):=⟨_,k1,Hx hin',fun _ _ h=>h⟩
  refine ho'.vb.mono fun k hk=>?_
  rcases hk with h|h
  · exact h.elim
  · exact .inr ⟨Nat.le_trans hB1.size (ho'.lt k h).1,(ho'.lt k h).2⟩
end
section
open Go Go.RowKit
attribute [local irreducible] ewp owp hwp hwq Ev Evg Fn retPost Res1
attribute [local irreducible] hwx loudX
structure Wtr where
  t:Tpl
  first:List Int
  last:Int
  left:List Int
  out:List Int
instance:Ow Wtr where
  R w F M v x:=∃ (g:Nat) (L:Lab) (c0 c1 c2 c3 c4 c5 c6:Value),v=.pointer (some ⟨g,0,none⟩)∧Blk w g 110 [c0,c1,c2,c3,c4,.int .i64 x.last,c5,c6]∧M g∧L g=0∧Vb w F c0 x.t.vars∧Vb w F c1 x.t.init∧Vb w F c2 x.t.goal∧Vb w F c3 x.t.jobs∧RwM w F (fun k=>M k∧L k=1) 3 c4 x.first∧inI64 x.last∧RwM w F (fun k=>M k∧L k=2) 3 c5 x.left∧RwM w F (fun k=>M k∧L k=3) 3 c6 x.out
  agree:=by rintro w w' F M v x ⟨g,L,c0,c1,c2,c3,c4,c5,c6,rfl,hb,hM,hL,h0,h1,h2,h3,h4,h5,h6,h7⟩ a1 a2;exact ⟨g,L,c0,c1,c2,c3,c4,c5,c6,rfl,hb.keep (a2 g hM),hM,hL,h0.agree a1,h1.agree a1,h2.agree a1,h3.agree a1,h4.agree a1 fun k hk=>a2 k hk.1,h5,h6.agree a1 fun k hk=>a2 k hk.1,h7.agree a1 fun k hk=>a2 k hk.1⟩
  mono:=by rintro w F M F' M' v x ⟨g,L,c0,c1,c2,c3,c4,c5,c6,rfl,hb,hM,hL,h0,h1,h2,h3,h4,h5,h6,h7⟩ a1 a2 a3;exact ⟨g,L,c0,c1,c2,c3,c4,c5,c6,rfl,hb,a2 g hM,hL,h0.mono a1,h1.mono a1,h2.mono a1,h3.mono a1,h4.mono a1 (fun k hk=>⟨a2 k hk.1,hk.2⟩) fun k hf hm=>a3 k hf hm.1,h5,h6.mono a1 (fun k hk=>⟨a2 k hk.1,hk.2⟩) fun k hf hm=>a3 k hf hm.1,h7.mono a1 (fun k hk=>⟨a2 k hk.1,hk.2⟩) fun k hf hm=>a3 k hf hm.1⟩
theorem Wtr.opn {i:Nat} {w:World} {O:Lab} {p:Nat} {x:Wtr} (h:Ob i w O (.pointer (some ⟨p,0,none⟩)) x) (l0 l1 l2 l3:Nat) (hl:l0≠0∧l1≠0∧l2≠0∧l3≠0):∃ (O':Lab) (c0 c1 c2 c3 c4 c5 c6:Value),St (eT i) w O w O'∧(∀ k,Fr i w O k→∃ q,q∈[l0,l1,l2,l3]∧Fr q w O' k)∧Lc l0 w O' p 110 [c0,c1,c2,c3,c4,.int .i64 x.last,c5,c6]∧Vb w (Fr 0 w O') c0 x.t.vars∧Vb w (Fr 0 w O') c1 x.t.init∧Vb w (Fr 0 w O') c2 x.t.goal∧Vb w (Fr 0 w O') c3 x.t.jobs∧Rw l1 w O' 3 c4 x.first∧inI64 x.last∧Rw l2 w O' 3 c5 x.left∧Rw l3 w O' 3 c6 x.out:=by
  obtain ⟨⟨g,L,c0,c1,c2,c3,c4,c5,c6,hv,hb,hM,hL,h0,h1,h2,h3,h4,h5,h6,h7⟩,hi⟩:=h
  obtain rfl:p=g:=by injection hv with hv;injection hv with hv;injection hv
  exact ⟨part O i L [l0,l1,l2,l3],c0,c1,c2,c3,c4,c5,c6,Tz hi,RY (by simp),⟨hb,(Lt (j:=0) rfl p ⟨hM,hL⟩).2⟩,h0.mono (GZ hi),h1.mono (GZ hi),h2.mono (GZ hi),h3.mono (GZ hi),h4.rw (GZ hi) (Lt (j:=1) rfl) hl.2.1,h5,h6.rw (GZ hi) (Lt (j:=2) rfl) hl.2.2.1,h7.rw (GZ hi) (Lt (j:=3) rfl) hl.2.2.2⟩
theorem Wtr.shut {w:World} {O:Lab} {p:Nat} {x:Wtr} {l0 l1 l2 l3:Nat} {c0 c1 c2 c3 c4 c5 c6:Value} (hd:¬ 0∈[l0,l1,l2,l3]∧[l0,l1,l2,l3].idxOf l0=0∧[l0,l1,l2,l3].idxOf l1=1∧[l0,l1,l2,l3].idxOf l2=2∧[l0,l1,l2,l3].idxOf l3=3) (hb:Lc l0 w O p 110 [c0,c1,c2,c3,c4,.int .i64 x.last,c5,c6]) (h0:Vb w (Fr 0 w O) c0 x.t.vars) (h1:Vb w (Fr 0 w O) c1 x.t.init) (h2:Vb w (Fr 0 w O) c2 x.t.goal) (h3:Vb w (Fr 0 w O) c3 x.t.jobs) (h4:Rw l1 w O 3 c4 x.first) (h5:inI64 x.last) (h6:Rw l2 w O 3 c5 x.left) (h7:Rw l3 w O 3 c6 x.out):∃ O',St (·∈[l0,l1,l2,l3]) w O w O'∧(∀ k,Fr 0 w O k→Fr 0 w O' k)∧(∀ q,q∈[l0,l1,l2,l3]→∀ k,Fr q w O k→Fr l0 w O' k)∧Ob l0 w O' (.pointer (some ⟨p,0,none⟩)) x:=by
  have hb1:l0≠0:=fun e=>hd.1 (by simp [e])
  have hg:=JV (i:=l0) hd.2.1 (by simp) p ⟨hb.1.lt,hb.2⟩
  exact ⟨whole O l0 [l0,l1,l2,l3],RZ,FJ hd.1,Ra,⟨p,fun k=>[l0,l1,l2,l3].idxOf (O k),c0,c1,c2,c3,c4,c5,c6,rfl,hb.1,hg.1,hg.2,h0.mono (FJ hd.1),h1.mono (FJ hd.1),h2.mono (FJ hd.1),h3.mono (FJ hd.1),h4.m (FJ hd.1) (JV hd.2.2.1 (by simp)) (fun k a b=>frNe0 hb1 k a b.1),h5,h6.m (FJ hd.1) (JV hd.2.2.2.1 (by simp)) (fun k a b=>frNe0 hb1 k a b.1),h7.m (FJ hd.1) (JV hd.2.2.2.2 (by simp)) (fun k a b=>frNe0 hb1 k a b.1)⟩,hb1⟩
noncomputable def Es (x0:Tsk) (x1:List Int) (x2:List Int):Option ((List Int)×Int×Err) :=
  bnd (DM x0) fun q30=>if q30.n≠0 then (some (([]:List Int),0,(⟨q30.n⟩:Err))) else (bnd (CT x0.vars x1) fun q39=>if q39=true then if 65536 < (x2.length:Int) then (some (([]:List Int),0,(⟨5⟩:Err))) else (bnd (Bw x1) fun q49=>bnd (rng (ρ:=(List Int)×Int×Err) (fun (k65:Nat) (a66:Int) (s63:(List Int)×Int)=>bnd (Dl x0 s63.1 a66) fun q90=>if q90.2.n≠0 then (some (.ret (([]:List Int),0,(⟨q90.2.n⟩:Err)))) else (bnd (atI x0.ops a66) fun a105=>bnd (chkI (s63.2 + a105.cost)) fun n126=>some (.next (q90.1,n126)))) x2 0 (q49,0)) fun res61=>fin res61 fun (s133:(List Int)×Int)=>some (s133.1,s133.2,(⟨0⟩:Err))) else some (([]:List Int),0,(⟨2⟩:Err)))
theorem QN {w:World} {A:Nat→Prop} (hA:∀ k,A k→k < w.heap.size) {vx0:Value} {x0:Tsk} (l1:Vb w A vx0 x0) {vx1:Value} {x1:List Int} (l0:Vb w A vx1 x1) {vx2:Value} {x2:List Int} (b0:Vb w A vx2 x2) {r:(List Int)×Int×Err} (hm:Es x0 x1 x2=some r) :
    Fn Tryz.prog 29 [vx0,vx1,vx2] w fun v w'=>Ext w w'∧T3 w' (upA A w w') v r:=by
 obtain ⟨O,hB,m1⟩:=enter hA
 replace l1:=l1.mono m1
 obtain ⟨e4,rfl,v5,v6,v7,v8,rfl,h9,h0,i0,d0⟩:=l1
 obtain ⟨r0,s0,rfl⟩:=h9.form
 obtain ⟨t0,u0,rfl⟩:=h0.form
 obtain ⟨v0,w0,rfl⟩:=i0.form
 obtain ⟨y0,z0,rfl⟩:=d0.form
 replace l0:=l0.mono m1
 obtain ⟨f4,g4,rfl⟩:=l0.form
 replace b0:=b0.mono m1
 obtain ⟨n2,o2,rfl⟩:=b0.form
 refine AH Tryz.func29 rfl Tryz.ntmps29 ?_
 unfold Es at hm
 refine Ab (Aa (BQ 2 O rfl fun n1 o1 p1 j0 c0=>?_))
 replace c0:Lc 2 o1 p1 n1 31 [(.slice r0 x0.vars.length s0),(.slice t0 x0.init.length u0),(.slice v0 x0.goal.length w0),(.slice y0 x0.ops.length z0)]:=c0
 refine Al rfl (Al rfl (Al rfl (o_z ?_)))
 refine Ab (Ab (Aa (Bg (hl:=rfl) (hc:=(c0.1).cellsAt) rfl ?_)))
 obtain ⟨u2,v2,hm⟩:=bs hm
 replace h9:=h9.st j0
 replace h0:=h0.st j0
 replace i0:=i0.st j0
 replace d0:=d0.st j0
 refine AG (O:=p1) (A:=All o1) (R:=fun w' F v=>Vb w' F v u2) (KT (fun _ h=>h) (Vb.mono (F:=Fr 0 o1 p1) (Vb.ofAgg (cs:=[(.slice r0 x0.vars.length s0),(.slice t0 x0.init.length u0),(.slice v0 x0.goal.length w0),(.slice y0 x0.ops.length z0)]) (x:=x0) rfl ⟨_,_,_,_,rfl,h9,h0,i0,d0⟩) Fr.lt) v2) rfl fun h4 i1 j1 f0 w2=>?_
 obtain ⟨rfl,y2⟩:=w2.err
 refine Al rfl (o_z ?_)
 refine Ab (Aa (Ak rfl (Gi rfl (fun q1=>?_) fun q1=>?_)))
 ·
  replace hm:=ip hm q1
  refine o_z ?_
  refine Aj rfl (Ab (Aa (Ak rfl (Al rfl (Al rfl (Al rfl (o_z ?_)))))))
  refine AC ?_
  obtain rfl:=sm hm
  replace hB:=(hB.st j0).st f0
  exact ret3 rfl (At rfl) (At rfl) (At rfl) ⟨hB.ext,_,_,_,rfl,(Vb.mono (F:=Fr 0 i1 j1) (Vb.nil _ _) hB.out),(vInt (show inI64 (0) from by decide)),(vErr y2)⟩
 replace hm:=im hm q1
 refine o_z ?_
 refine Ah rfl (AK (Ab (Ab (Aa (AB rfl ?_)))))
 replace c0:=c0.st f0
 refine Az (hc:=Blk.cell (i:=0) (c0.1) rfl) rfl ?_
 refine Ak rfl ?_
 obtain ⟨p2,z2,hm⟩:=bs hm
 replace l0:=(l0.st j0).st f0
 replace h9:=h9.st f0
 refine AG (O:=j1) (A:=All i1) (R:=fun w' F v=>Vb w' F v p2) (If (fun _ h=>h) (Vb.mono (F:=Fr 0 i1 j1) h9 Fr.lt) (Vb.mono (F:=Fr 0 i1 j1) l0 Fr.lt) z2) rfl fun i4 q2 r1 k0 a3=>?_
 obtain rfl:=a3.bool
 cases p2
 case false =>
  replace hm:=iF hm
  refine Fd rfl (o_z ?_)
  refine Aj rfl (Ab (Aa (Fb rfl ?_)))
  refine Al rfl (Al rfl (Al rfl (o_z ?_)))
  refine AC ?_
  obtain rfl:=sm hm
  replace hB:=((hB.st j0).st f0).st k0
  exact ret3 rfl (At rfl) (At rfl) (At rfl) ⟨hB.ext,_,_,_,rfl,(Vb.mono (F:=Fr 0 q2 r1) (Vb.nil _ _) hB.out),(vInt (show inI64 (0) from by decide)),(vErr (by decide))⟩
 replace hm:=iT hm
 refine Fc rfl (o_z ?_)
 refine Ah rfl (AK (Ab (Ab (Aa (Ak rfl (AR rfl ?_))))))
 replace b0:=((b0.st j0).st f0).st k0
 have b3:x2.length≤9223372036854775807:=Nat.le_trans b0.len.2.1 b0.len.2.2
 have j4:inI64 (x2.length:Int):=rngNat b3
 refine Dg rfl rfl (fun s1=>?_) fun s1=>?_
 ·
  replace hm:=ip hm s1
  refine o_z ?_
  refine Aj rfl (Ab (Aa (Fb rfl ?_)))
  refine Al rfl (Al rfl (Al rfl (o_z ?_)))
  refine AC ?_
  obtain rfl:=sm hm
  replace hB:=((hB.st j0).st f0).st k0
  exact ret3 rfl (At rfl) (At rfl) (At rfl) ⟨hB.ext,_,_,_,rfl,(Vb.mono (F:=Fr 0 q2 r1) (Vb.nil _ _) hB.out),(vInt (show inI64 (0) from by decide)),(vErr (by decide))⟩
 replace hm:=im hm s1
 refine o_z ?_
 refine Ah rfl (AK (Ab (Aa (Al rfl (o_z ?_)))))
 refine Ab (Aa (Ak rfl ?_))
 obtain ⟨k4,c3,hm⟩:=bs hm
 replace l0:=l0.st k0
 refine Dh 3 (O:=r1) (Dq Fr.lt l0 c3) rfl fun d3 e3 l4 m4 m0 t1=>?_
 refine Al rfl (o_z ?_)
 refine Ab (Ab (Aa (Ak rfl (AR rfl ?_))))
 replace b0:=b0.st m0
 have u1:x2.length≤9223372036854775807:=Nat.le_trans b0.len.2.1 b0.len.2.2
 have n4:inI64 (x2.length:Int):=rngNat u1
 refine Ak rfl (o_z ?_)
 obtain ⟨a1,v1,hm⟩:=bs hm
 refine Au (aft a1 (fun (e0:(List Int)×Int) (g0:(Option Addr×Nat))=>[(1,(.slice g0.1 e0.1.length g0.2)),(10,(.int .i64 e0.2))]) (fun e0 g0 w'=>∃ O':Lab,Bs w A w' O'∧Vb w' (Fr 0 w' O') (.slice g0.1 e0.1.length g0.2) e0.1∧inI64 e0.2)) ?_ ?_
 ·
  refine AJ ?_
  obtain ⟨f3,o0,t1⟩:=t1.freeze
  replace hB:=((((hB.st j0).st f0).st k0).st m0).st o0
  replace b0:=b0.st o0
  replace h9:=((h9.st k0).st m0).st o0
  replace h0:=(((h0.st f0).st k0).st m0).st o0
  replace i0:=(((i0.st f0).st k0).st m0).st o0
  replace d0:=(((d0.st f0).st k0).st m0).st o0
  replace c0:=((c0.st k0).st m0).st o0
  refine Bh (σ:=(List Int)×Int) (X:=(Option Addr×Nat)) (x2.length) v1 rfl u1 (fun (e0:(List Int)×Int) (g0:(Option Addr×Nat))=>[(1,(.slice g0.1 e0.1.length g0.2)),(3,(.pointer (some ⟨n1,0,none⟩))),(10,(.int .i64 e0.2)),(32,(.slice n2 x2.length o2))]) _ (fun e0 g0 w'=>∃ O':Lab,Bs w A w' O'∧Vb w' (Fr 0 w' O') (.slice g0.1 e0.1.length g0.2) e0.1∧Lc 2 w' O' n1 31 [(.slice r0 x0.vars.length s0),(.slice t0 x0.init.length u0),(.slice v0 x0.goal.length w0),(.slice y0 x0.ops.length z0)]∧Vb w' (Fr 0 w' O') (.slice r0 x0.vars.length s0) x0.vars∧Vb w' (Fr 0 w' O') (.slice t0 x0.init.length u0) x0.init∧Vb w' (Fr 0 w' O') (.slice v0 x0.goal.length w0) x0.goal∧Vb w' (Fr 0 w' O') (.slice y0 x0.ops.length z0) x0.ops∧Vb w' (Fr 0 w' O') (.slice n2 x2.length o2) x2∧inI64 e0.2) _ (d3,e3) ⟨f3,hB,t1,c0,h9,h0,i0,d0,b0,(show inI64 (0) from by decide)⟩ ⟨rfl,rfl,rfl,rfl,rfl,rfl,trivial⟩ (fun _ _=>⟨rfl,rfl⟩) (fun _ _=>⟨rfl,rfl,trivial⟩) (fun _ _ _ ⟨O',hB,b1,c0,h9,h0,i0,d0,b0,k1⟩=>⟨O',hB,b1,k1⟩) ⟨rfl,rfl,rfl⟩ ⟨rfl,rfl⟩ ?_
  rintro g3 o4 e0 g0 p4 h3 c1 ⟨i3,hB,b1,c0,h9,h0,i0,d0,b0,k1⟩ a0 p0 w1
  have rk65:inI64 (g3:Int):=rngK c1 u1
  refine Ab (Aa ?_)
  obtain ⟨q4,r4,j3,y1,z1,a2,rfl,k3⟩:=b0.elem' c1
  refine Bv (hA:=y1) (hj:=rfl) (hlt:=z1) rfl rfl ?_
  refine Az (hc:=cat0 a2) rfl ?_
  refine Al rfl (o_z ?_)
  refine Ab (Aa (Bg (hl:=rfl) (hc:=(c0.1).cellsAt) rfl ?_))
  refine Ak rfl (Ak rfl ?_)
  obtain ⟨l3,m3,a0⟩:=bs a0
  refine BU (O:=i3) (R:=fun w' F v=>T2 w' F v l3) (OO Fr.lt (Vb.ofAgg (cs:=[(.slice r0 x0.vars.length s0),(.slice t0 x0.init.length u0),(.slice v0 x0.goal.length w0),(.slice y0 x0.ops.length z0)]) (x:=x0) rfl ⟨_,_,_,_,rfl,h9,h0,i0,d0⟩) b1 k3 m3) rfl fun s4 r2 n3 n0 o3=>?_
  obtain ⟨t4,u4,rfl,s2,b2⟩:=o3
  obtain ⟨c2,d2,rfl⟩:=s2.form
  obtain ⟨rfl,e2⟩:=b2.err
  refine Ak rfl (CS rfl rfl (CS rfl rfl (Al rfl (Al rfl (o_z ?_)))))
  refine Ab (Ab (Aa (Ak rfl (Gi rfl (fun q0=>?_) fun q0=>?_))))
  ·
   replace a0:=ip a0 q0
   refine o_z ?_
   refine Aj rfl (Ab (Aa (Ak rfl (Al rfl (Al rfl (Al rfl (o_z ?_)))))))
   refine AC ?_
   obtain rfl:=sm a0
   obtain rfl:=p0 _ rfl
   obtain rfl:=sm (CG hm)
   replace hB:=hB.st n0
   exact ret3 rfl (At rfl) (At rfl) (At rfl) ⟨hB.ext,_,_,_,rfl,(Vb.mono (F:=Fr 0 r2 n3) (Vb.nil _ _) hB.out),(vInt (show inI64 (0) from by decide)),(vErr e2)⟩
  replace a0:=im a0 q0
  refine o_z ?_
  refine Ah rfl (AK (Fl (·=r2) [(0,true),(1,true),(2,true),(3,true),(4,true),(5,true),(6,true),(7,true),(8,true),(9,true),(10,true)] rfl rfl ?_))
  refine Bp rfl rfl (Bp rfl rfl (Bo rfl rfl ?_))
  replace c0:=c0.st n0
  refine Fa (hc:=Blk.cell (i:=3) (c0.1) rfl) rfl rfl ?_
  refine Bp rfl rfl ?_
  obtain ⟨p3,f2,a0⟩:=bs a0
  obtain ⟨g2,h2⟩:=BO f2
  replace d0:=d0.st n0
  obtain ⟨q3,r3,t2,d1,e1,f1,s3,t3,rfl,i2,j2,u3,v3⟩:=d0.elem' h2
  obtain ⟨w3,x3,rfl⟩:=i2.form
  obtain ⟨y3,z3,rfl⟩:=j2.form
  refine EF (hA:=d1) (hj:=(Int.toNat_of_nonneg g2).symm) (hlt:=e1) rfl rfl rfl ?_
  refine Bo rfl rfl (Fa (hc:=cat1 f1) rfl rfl ?_)
  obtain ⟨a4,g1,a0⟩:=bs a0
  have k2:=(AX g1)
  refine JY (he:=g1) rfl rfl rfl ?_
  refine JT rfl rfl (JT rfl rfl (h_z ?_))
  obtain rfl:=sm a0
  exact show Exists _ from ⟨_,(c2,d2),rfl,⟨rfl,rfl,rfl,rfl,rfl,rfl,trivial⟩,_,hB.st n0,s2,c0,h9.st n0,h0.st n0,i0.st n0,d0,b0.st n0,k2⟩
 replace hB:=(((hB.st j0).st f0).st k0).st m0
 rintro b4 l2 ⟨c4,d4,rfl,h1,m2,hB,b1,k1⟩
 replace hm:=AP hm
 refine AE _ h1 ?_
 refine Ab (Aa (Ak rfl (Ak rfl (Al rfl (Al rfl (Al rfl (o_z ?_)))))))
 refine AC ?_
 obtain rfl:=sm hm
 exact ret3 rfl (At rfl) (At rfl) (At rfl) ⟨hB.ext,_,_,_,rfl,(Vb.mono (F:=Fr 0 l2 m2) b1 hB.out),(vInt k1),(vErr (show inI64 0 from by decide))⟩
noncomputable def DD (x0:Tpl) (x1:List Int):Option ((List Lch)×Err) :=
  bnd (BN x0) fun q27=>if q27.2.n≠0 then (some (([]:List Lch),(⟨q27.2.n⟩:Err))) else (bnd (Es q27.1 q27.1.init x1) fun q64=>if q64.2.2.n≠0 then (some (([]:List Lch),(⟨q64.2.2.n⟩:Err))) else (bnd (rng (ρ:=(List Lch)×Err) (fun (k88:Nat) (a89:Int) (s86:(List Lch)×Int)=>bnd (bnd (chkI (2 * (x0.jobs.length:Int))) fun n119=>if a89 < n119 then (bnd (remI a89 2) fun n123=>if n123=0 then (some true) else (some false)) else (some false):Option Bool) fun y113=>if y113=true then (bnd (quoI a89 2) fun n132=>bnd (appI 16 s86.1 [(⟨s86.2,n132⟩:Lch)]) fun u135=>some (.next (u135,s86.2))) else (bnd (chkI ((q27.1.ops.length:Int) - 1)) fun n149=>if a89=n149 then (bnd (chkI (s86.2 + 1)) fun n153=>some (.next (s86.1,n153))) else (some (.next (s86.1,s86.2))))) x1 0 (([]:List Lch),0)) fun res84=>fin res84 fun (s160:(List Lch)×Int)=>bnd (Dm s160.1) fun q164=>some (q164,(⟨0⟩:Err))))
theorem Lh {w:World} {A:Nat→Prop} (hA:∀ k,A k→k < w.heap.size) {vx0:Value} {x0:Tpl} (n2:Vb w A vx0 x0) {vx1:Value} {x1:List Int} (f0:Vb w A vx1 x1) {r:(List Lch)×Err} (hm:DD x0 x1=some r) :
    Fn Tryz.prog 26 [vx0,vx1] w fun v w'=>Ext w w'∧T2 w' (upA A w w') v r:=by
 obtain ⟨O,hB,m3⟩:=enter hA
 replace n2:=n2.mono m3
 obtain ⟨l5,rfl,v4,v5,v6,v7,rfl,h8,m0,n0,j0⟩:=n2
 obtain ⟨A9,f1,rfl⟩:=h8.form
 obtain ⟨g1,h1,rfl⟩:=m0.form
 obtain ⟨i1,j1,rfl⟩:=n0.form
 obtain ⟨k1,l1,rfl⟩:=j0.form
 replace f0:=f0.mono m3
 obtain ⟨l2,m2,rfl⟩:=f0.form
 refine AH Tryz.func26 rfl Tryz.ntmps26 ?_
 unfold DD at hm
 refine Ab (Aa (BQ 2 O rfl fun u1 s3 n3 w0 o0=>?_))
 replace o0:Lc 2 s3 n3 u1 26 [(.slice A9 x0.vars.length f1),(.slice g1 x0.init.length h1),(.slice i1 x0.goal.length j1),(.slice k1 x0.jobs.length l1)]:=o0
 refine Al rfl (Al rfl (o_z ?_))
 refine Ab (Aa (Bg (hl:=rfl) (hc:=(o0.1).cellsAt) rfl ?_))
 obtain ⟨c0,t3,hm⟩:=bs hm
 replace h8:=h8.st w0
 replace m0:=m0.st w0
 replace n0:=n0.st w0
 replace j0:=j0.st w0
 refine BU (O:=n3) (R:=fun w' F v=>T2 w' F v c0) (Ft Fr.lt (Vb.ofAgg (cs:=[(.slice A9 x0.vars.length f1),(.slice g1 x0.init.length h1),(.slice i1 x0.goal.length j1),(.slice k1 x0.jobs.length l1)]) (x:=x0) rfl ⟨_,_,_,_,rfl,h8,m0,n0,j0⟩) t3) rfl fun m5 n5 u3 v0 v3=>?_
 obtain ⟨o5,p5,rfl,w3,x3⟩:=v3
 obtain ⟨y3,rfl,q5,r5,s5,t5,rfl,p0,l0,q0,k0⟩:=w3
 obtain ⟨m1,n1,rfl⟩:=p0.form
 obtain ⟨o1,p1,rfl⟩:=l0.form
 obtain ⟨q1,r1,rfl⟩:=q0.form
 obtain ⟨s1,t1,rfl⟩:=k0.form
 obtain ⟨rfl,z3⟩:=x3.err
 refine Ak rfl (CS rfl rfl (CS rfl rfl (AT 3 u3 fun v1 u5 o2 r0 i0=>?_)))
 refine AD i0 rfl rfl rfl (AL) (allOne) fun o3 s0 i0=>?_
 replace i0:Lc 3 o3 o2 v1 31 [(.slice m1 c0.1.vars.length n1),(.slice o1 c0.1.init.length p1),(.slice q1 c0.1.goal.length r1),(.slice s1 c0.1.ops.length t1)]:=i0
 refine Al rfl (o_z ?_)
 refine Ab (Ab (Aa (Ak rfl (Gi rfl (fun p2=>?_) fun p2=>?_))))
 ·
  replace hm:=ip hm p2
  refine o_z ?_
  refine Aj rfl (Ab (Aa (Ak rfl (Al rfl (Al rfl (o_z ?_))))))
  refine AC ?_
  obtain rfl:=sm hm
  replace hB:=(((hB.st w0).st v0).st r0).st s0
  exact ret2 rfl (At rfl) (At rfl) ⟨hB.ext,_,_,rfl,(Vb.mono (F:=Fr 0 o3 o2) (Vb.nil _ _) hB.out),(vErr z3)⟩
 replace hm:=im hm p2
 refine o_z ?_
 refine Ah rfl (AK (Ab (Ab (Aa (Bg (hl:=rfl) (hc:=(i0.1).cellsAt) rfl ?_)))))
 refine AB rfl (Az (hc:=Blk.cell (i:=1) (i0.1) rfl) rfl ?_)
 refine Ak rfl ?_
 obtain ⟨a4,b4,hm⟩:=bs hm
 replace f0:=(((f0.st w0).st v0).st r0).st s0
 replace p0:=(p0.st r0).st s0
 replace l0:=(l0.st r0).st s0
 replace q0:=(q0.st r0).st s0
 replace k0:=(k0.st r0).st s0
 refine BU (O:=o2) (R:=fun w' F v=>T3 w' F v a4) (QN Fr.lt (Vb.ofAgg (cs:=[(.slice m1 c0.1.vars.length n1),(.slice o1 c0.1.init.length p1),(.slice q1 c0.1.goal.length r1),(.slice s1 c0.1.ops.length t1)]) (x:=c0.1) rfl ⟨_,_,_,_,rfl,p0,l0,q0,k0⟩) l0 f0 b4) rfl fun w5 c4 p3 t0 d4=>?_
 obtain ⟨x5,y5,z5,rfl,e4,f4,g4⟩:=d4
 obtain ⟨a6,b6,rfl⟩:=e4.form
 obtain ⟨rfl,c6⟩:=f4.int
 obtain ⟨rfl,h4⟩:=g4.err
 refine Ak rfl (CS rfl rfl (CS rfl rfl (CS rfl rfl (Al rfl (Al rfl (Al rfl (o_z ?_)))))))
 refine Ab (Aa (Ak rfl (Gi rfl (fun q2=>?_) fun q2=>?_)))
 ·
  replace hm:=ip hm q2
  refine o_z ?_
  refine Aj rfl (Ab (Aa (Ak rfl (Al rfl (Al rfl (o_z ?_))))))
  refine AC ?_
  obtain rfl:=sm hm
  replace hB:=((((hB.st w0).st v0).st r0).st s0).st t0
  exact ret2 rfl (At rfl) (At rfl) ⟨hB.ext,_,_,rfl,(Vb.mono (F:=Fr 0 c4 p3) (Vb.nil _ _) hB.out),(vErr h4)⟩
 replace hm:=im hm q2
 refine o_z ?_
 refine Ah rfl (AK (Ab (Aa (Al rfl (o_z ?_)))))
 refine Ab (Aa (Al rfl (o_z ?_)))
 refine Ab (Ab (Aa (Ak rfl (AR rfl ?_))))
 replace f0:=f0.st t0
 have r2:x1.length≤9223372036854775807:=Nat.le_trans f0.len.2.1 f0.len.2.2
 have d6:inI64 (x1.length:Int):=rngNat r2
 refine Ak rfl (o_z ?_)
 obtain ⟨w1,s2,hm⟩:=bs hm
 refine Au (aft w1 (fun (g0:(List Lch)×Int) (h0:(Option Addr×Nat))=>[(11,(.slice h0.1 g0.1.length h0.2))]) (fun g0 h0 w'=>∃ O':Lab,Bs w A w' O'∧Rw 4 w' O' 52 (.slice h0.1 g0.1.length h0.2) g0.1∧inI64 g0.2)) ?_ ?_
 ·
  refine AJ ?_
  replace hB:=((((hB.st w0).st v0).st r0).st s0).st t0
  replace h8:=(((h8.st v0).st r0).st s0).st t0
  replace m0:=(((m0.st v0).st r0).st s0).st t0
  replace n0:=(((n0.st v0).st r0).st s0).st t0
  replace j0:=(((j0.st v0).st r0).st s0).st t0
  replace o0:=(((o0.st v0).st r0).st s0).st t0
  replace p0:=p0.st t0
  replace l0:=l0.st t0
  replace q0:=q0.st t0
  replace k0:=k0.st t0
  replace i0:=i0.st t0
  refine Bh (σ:=(List Lch)×Int) (X:=(Option Addr×Nat)) (x1.length) s2 rfl r2 (fun (g0:(List Lch)×Int) (h0:(Option Addr×Nat))=>[(2,(.pointer (some ⟨u1,0,none⟩))),(6,(.pointer (some ⟨v1,0,none⟩))),(11,(.slice h0.1 g0.1.length h0.2)),(12,(.int .i64 g0.2)),(35,(.slice l2 x1.length m2))]) _ (fun g0 h0 w'=>∃ O':Lab,Bs w A w' O'∧Lc 2 w' O' u1 26 [(.slice A9 x0.vars.length f1),(.slice g1 x0.init.length h1),(.slice i1 x0.goal.length j1),(.slice k1 x0.jobs.length l1)]∧Vb w' (Fr 0 w' O') (.slice A9 x0.vars.length f1) x0.vars∧Vb w' (Fr 0 w' O') (.slice g1 x0.init.length h1) x0.init∧Vb w' (Fr 0 w' O') (.slice i1 x0.goal.length j1) x0.goal∧Vb w' (Fr 0 w' O') (.slice k1 x0.jobs.length l1) x0.jobs∧Lc 3 w' O' v1 31 [(.slice m1 c0.1.vars.length n1),(.slice o1 c0.1.init.length p1),(.slice q1 c0.1.goal.length r1),(.slice s1 c0.1.ops.length t1)]∧Vb w' (Fr 0 w' O') (.slice m1 c0.1.vars.length n1) c0.1.vars∧Vb w' (Fr 0 w' O') (.slice o1 c0.1.init.length p1) c0.1.init∧Vb w' (Fr 0 w' O') (.slice q1 c0.1.goal.length r1) c0.1.goal∧Vb w' (Fr 0 w' O') (.slice s1 c0.1.ops.length t1) c0.1.ops∧Rw 4 w' O' 52 (.slice h0.1 g0.1.length h0.2) g0.1∧Vb w' (Fr 0 w' O') (.slice l2 x1.length m2) x1∧inI64 g0.2) _ (none,0) ⟨p3,hB,o0,h8,m0,n0,j0,i0,p0,l0,q0,k0,(Rw.nil 4 (by decide)),f0,(show inI64 (0) from by decide)⟩ ⟨rfl,rfl,rfl,rfl,rfl,rfl,rfl,trivial⟩ (fun _ _=>⟨rfl,rfl⟩) (fun _ _=>⟨rfl,trivial⟩) (fun _ _ _ ⟨O',hB,o0,h8,m0,n0,j0,i0,p0,l0,q0,k0,d0,f0,u0⟩=>⟨O',hB,d0,u0⟩) ⟨rfl,rfl,rfl⟩ ⟨rfl,rfl⟩ ?_
  rintro q3 i4 g0 h0 e6 j4 y1 ⟨f6,hB,o0,h8,m0,n0,j0,i0,p0,l0,q0,k0,d0,f0,u0⟩ b0 t2 u2
  have rk88:inI64 (q3:Int):=rngK y1 r2
  refine Ab (Aa ?_)
  obtain ⟨k4,l4,r3,z1,a2,b2,rfl,y0⟩:=f0.elem' y1
  refine Bv (hA:=z1) (hj:=rfl) (hlt:=a2) rfl rfl ?_
  refine Az (hc:=cat0 b2) rfl ?_
  refine Al rfl (o_z ?_)
  refine AJ (Ab ?_)
  obtain ⟨v2,a0,b0⟩:=bs b0
  refine Au (fun l' w'=>∃ (w2:Unit) (O':Lab),subs l' [(2,(.pointer (some ⟨u1,0,none⟩))),(6,(.pointer (some ⟨v1,0,none⟩))),(11,(.slice h0.1 g0.1.length h0.2)),(12,(.int .i64 g0.2)),(14,(.int .i64 i4)),(35,(.slice l2 x1.length m2)),(36,(.int .i64 (x1.length:Int))),(37,(.int .i64 (q3:Int))),(41,(.bool v2))]∧Bs w A w' O'∧Lc 2 w' O' u1 26 [(.slice A9 x0.vars.length f1),(.slice g1 x0.init.length h1),(.slice i1 x0.goal.length j1),(.slice k1 x0.jobs.length l1)]∧Vb w' (Fr 0 w' O') (.slice A9 x0.vars.length f1) x0.vars∧Vb w' (Fr 0 w' O') (.slice g1 x0.init.length h1) x0.init∧Vb w' (Fr 0 w' O') (.slice i1 x0.goal.length j1) x0.goal∧Vb w' (Fr 0 w' O') (.slice k1 x0.jobs.length l1) x0.jobs∧Lc 3 w' O' v1 31 [(.slice m1 c0.1.vars.length n1),(.slice o1 c0.1.init.length p1),(.slice q1 c0.1.goal.length r1),(.slice s1 c0.1.ops.length t1)]∧Vb w' (Fr 0 w' O') (.slice m1 c0.1.vars.length n1) c0.1.vars∧Vb w' (Fr 0 w' O') (.slice o1 c0.1.init.length p1) c0.1.init∧Vb w' (Fr 0 w' O') (.slice q1 c0.1.goal.length r1) c0.1.goal∧Vb w' (Fr 0 w' O') (.slice s1 c0.1.ops.length t1) c0.1.ops∧Rw 4 w' O' 52 (.slice h0.1 g0.1.length h0.2) g0.1∧Vb w' (Fr 0 w' O') (.slice l2 x1.length m2) x1) ?_ ?_
  ·
   refine Aa (Ak rfl (AB rfl (Az (hc:=Blk.cell (i:=3) (o0.1) rfl) rfl ?_)))
   refine AR rfl ?_
   have x2:x0.jobs.length≤9223372036854775807:=Nat.le_trans j0.len.2.1 j0.len.2.2
   have m4:inI64 (x0.jobs.length:Int):=rngNat x2
   obtain ⟨n4,c2,a0⟩:=bs a0
   have o4:=(AX c2)
   refine GU (he:=c2) rfl rfl ?_
   refine Ep rfl rfl (fun z0=>?_) fun z0=>?_
   ·
    replace a0:=ip a0 z0
    refine Ak rfl (An rfl rfl (Ak rfl (An rfl rfl ?_)))
    obtain ⟨p4,d2,a0⟩:=bs a0
    have q4:=Tv d2 y0
    refine Vp (he:=d2) rfl rfl rfl ?_
    refine An rfl rfl (EZ rfl rfl (fun a1=>?_) fun a1=>?_)
    ·
     replace a0:=ip a0 a1
     refine BD rfl rfl (Al rfl (o_z ?_))
     obtain rfl:=sm a0
     exact ⟨(),_,⟨rfl,rfl,rfl,rfl,rfl,rfl,rfl,rfl,rfl,trivial⟩,hB,o0,h8,m0,n0,j0,i0,p0,l0,q0,k0,d0,f0⟩
    replace a0:=im a0 a1
    refine BD rfl rfl (Al rfl (o_z ?_))
    obtain rfl:=sm a0
    exact ⟨(),_,⟨rfl,rfl,rfl,rfl,rfl,rfl,rfl,rfl,rfl,trivial⟩,hB,o0,h8,m0,n0,j0,i0,p0,l0,q0,k0,d0,f0⟩
   replace a0:=im a0 z0
   refine Ak rfl (Am rfl rfl (Am rfl rfl (Am rfl rfl (By rfl rfl (Al rfl (o_z ?_))))))
   obtain rfl:=sm a0
   exact ⟨(),_,⟨rfl,rfl,rfl,rfl,rfl,rfl,rfl,rfl,rfl,trivial⟩,hB,o0,h8,m0,n0,j0,i0,p0,l0,q0,k0,d0,f0⟩
  rintro r4 s4 ⟨w2,t4,e2,hB,o0,h8,m0,n0,j0,i0,p0,l0,q0,k0,d0,f0⟩
  refine AE _ e2 ?_
  refine Cw rfl (fun b1=>?_) (fun b1=>?_)
  ·
   replace b0:=ip b0 b1
   refine Aa (Ak rfl (Ak rfl (Ak rfl ?_)))
   obtain ⟨c1,f2,b0⟩:=bs b0
   have y2:=Tx f2 y0
   refine Vq (he:=f2) (hr:=y0) rfl rfl rfl ?_
   refine Eh rfl rfl ?_
   obtain ⟨u4,d1,b0⟩:=bs b0
   obtain ⟨d1,z2,a3⟩:=AO d1
   refine Co rfl (a:=(⟨g0.2,c1⟩:Lch)) d0 (Vb.ofAgg (cs:=[(.int .i64 g0.2),(.int .i64 c1)]) (x:=(⟨g0.2,c1⟩:Lch)) rfl ⟨rfl,u0,y2⟩) (fun _=>rfl) rfl z2 a3 ⟨rfl,rfl⟩ fun w4 b3 c3 x4 y4 e0 g2=>?_
   rw [← d1] at g2 ⊢
   refine Al rfl (o_z ?_)
   obtain rfl:=sm b0
   exact show Exists _ from ⟨_,(b3,c3),rfl,⟨rfl,rfl,rfl,rfl,rfl,rfl,rfl,trivial⟩,_,hB.st e0,o0.st e0,h8.st e0,m0.st e0,n0.st e0,j0.st e0,i0.st e0,p0.st e0,l0.st e0,q0.st e0,k0.st e0,g2,f0.st e0,u0⟩
  replace b0:=im' b0 b1
  refine Ab (Aa (Ak rfl (AB rfl (Az (hc:=Blk.cell (i:=3) (i0.1) rfl) rfl ?_))))
  refine AR rfl ?_
  have d3:c0.1.ops.length≤9223372036854775807:=Nat.le_trans k0.len.2.1 k0.len.2.2
  have z4:inI64 (c0.1.ops.length:Int):=rngNat d3
  obtain ⟨a5,h2,b0⟩:=bs b0
  have b5:=(AX h2)
  refine IY (he:=h2) rfl rfl ?_
  refine EZ rfl rfl (fun e1=>?_) fun e1=>?_
  ·
   replace b0:=ip b0 e1
   refine Al rfl (o_z ?_)
   refine Aj rfl (Aa (Ak rfl ?_))
   obtain ⟨c5,i2,b0⟩:=bs b0
   have e3:=(AX i2)
   refine Dn (he:=i2) rfl rfl ?_
   refine Al rfl (o_z ?_)
   obtain rfl:=sm b0
   exact show Exists _ from ⟨_,(h0.1,h0.2),rfl,⟨rfl,rfl,rfl,rfl,rfl,rfl,rfl,trivial⟩,_,hB,o0,h8,m0,n0,j0,i0,p0,l0,q0,k0,d0,f0,e3⟩
  replace b0:=im b0 e1
  refine Al rfl (o_z ?_)
  refine Ah rfl (AK ?_)
  obtain rfl:=sm b0
  exact show Exists _ from ⟨_,(h0.1,h0.2),rfl,⟨rfl,rfl,rfl,rfl,rfl,rfl,rfl,trivial⟩,_,hB,o0,h8,m0,n0,j0,i0,p0,l0,q0,k0,d0,f0,u0⟩
 replace hB:=((((hB.st w0).st v0).st r0).st s0).st t0
 rintro d5 e5 ⟨f5,g5,rfl,j2,h5,hB,d0,u0⟩
 replace hm:=AP hm
 refine AE _ j2 ?_
 refine Ab (Aa (Ak rfl ?_))
 obtain ⟨f3,g3,d0⟩:=d0.freeze
 obtain ⟨h3,i3,hm⟩:=bs hm
 refine BU (O:=f3) (R:=fun w' F v=>Vb w' F v h3) (II Fr.lt d0 i3) rfl fun i5 j3 k3 l3 k2=>?_
 obtain ⟨j5,k5,rfl⟩:=k2.form
 refine Al rfl (Al rfl (o_z ?_))
 refine AC ?_
 obtain rfl:=sm hm
 replace hB:=(hB.st g3).st l3
 exact ret2 rfl (At rfl) (At rfl) ⟨hB.ext,_,_,rfl,(Vb.mono (F:=Fr 0 j3 k3) k2 hB.out),(vErr (show inI64 0 from by decide))⟩
noncomputable def BR (x0:List Lch) (x1:Lch):Option Int :=
  bnd (rng (ρ:=Int) (fun (k19:Nat) (a20:Lch) (s17:Unit)=>if x1.tm=a20.tm∧x1.job=a20.job then (some (.ret (k19:Int))) else (some (.next ()))) x0 0 ()) fun res15=>fin res15 fun (s44:Unit)=>some (-1)
theorem Gk {w:World} {A:Nat→Prop} (hA:∀ k,A k→k < w.heap.size) {vx0:Value} {x0:List Lch} (b0:Vb w A vx0 x0) {vx1:Value} {x1:Lch} (i0:Vb w A vx1 x1) {r:Int} (hm:BR x0 x1=some r) :
    Fn Tryz.prog 115 [vx0,vx1] w fun v w'=>Ext w w'∧Vb w' (upA A w w') v r:=by
 obtain ⟨O,hB,s0⟩:=enter hA
 replace b0:=b0.mono s0
 obtain ⟨A3,c4,rfl⟩:=b0.form
 replace i0:=i0.mono s0
 obtain ⟨z0,rfl,rfl,r6,r7⟩:=i0
 refine AH Tryz.func115 rfl Tryz.ntmps115 ?_
 unfold BR at hm
 refine Ab (Aa (BQ 2 O rfl fun g8 w9 t0 j0 c0=>?_))
 replace c0:Lc 2 w9 t0 g8 52 [(.int .i64 x1.tm),(.int .i64 x1.job)]:=c0
 refine Al rfl (o_z ?_)
 refine Ab (Ab (Aa (Ak rfl (AR rfl ?_))))
 replace b0:=b0.st j0
 have k0:x0.length≤9223372036854775807:=Nat.le_trans b0.len.2.1 b0.len.2.2
 have a1:inI64 (x0.length:Int):=rngNat k0
 refine Ak rfl (o_z ?_)
 obtain ⟨e0,l0,hm⟩:=bs hm
 refine Au (aft e0 (fun (g0:Unit) (h0:Unit)=>[]) (fun g0 h0 w'=>∃ O':Lab,Bs w A w' O')) ?_ ?_
 ·
  refine AJ ?_
  replace hB:=hB.st j0
  refine Bh (σ:=Unit) (X:=Unit) (x0.length) l0 rfl k0 (fun (g0:Unit) (h0:Unit)=>[(0,(.slice A3 x0.length c4)),(3,(.pointer (some ⟨g8,0,none⟩)))]) _ (fun g0 h0 w'=>∃ O':Lab,Bs w A w' O'∧Vb w' (Fr 0 w' O') (.slice A3 x0.length c4) x0∧Lc 2 w' O' g8 52 [(.int .i64 x1.tm),(.int .i64 x1.job)]) _ () ⟨t0,hB,b0,c0⟩ ⟨rfl,rfl,rfl,rfl,trivial⟩ (fun _ _=>⟨rfl,rfl⟩) (fun _ _=>trivial) (fun _ _ _ ⟨O',hB,b0,c0⟩=>⟨O',hB⟩) ⟨rfl,rfl,rfl⟩ ⟨rfl,rfl⟩ ?_
  rintro u0 b1 g0 h0 v0 w0 f0 ⟨c1,hB,b0,c0⟩ a0 d0 m0
  have rk19:inI64 (u0:Int):=rngK f0 k0
  refine Ab (Aa (Ak rfl (Al rfl (o_z ?_))))
  refine Ab (Fl (·=v0) [(0,true),(1,true),(2,true),(3,true),(4,true),(5,true)] rfl rfl ?_)
  refine Oq (hl:=rfl) (hc:=(c0.1).cellsAt) rfl rfl rfl ?_
  refine Bp rfl rfl (Bp rfl rfl ?_)
  obtain ⟨d1,e1,y0,n0,o0,p0,rfl,f1,g1⟩:=b0.elem' f0
  refine EF (hA:=n0) (hj:=rfl) (hlt:=o0) rfl rfl rfl ?_
  refine Oq (hl:=rfl) (hc:=p0) rfl rfl rfl ?_
  refine Vt rfl rfl rfl rfl (fun q0=>?_) fun q0=>?_
  ·
   replace a0:=ip a0 q0
   refine h_z ?_
   refine Aj rfl (Ab (Aa (Ak rfl (Al rfl (o_z ?_)))))
   refine AC ?_
   obtain rfl:=sm a0
   obtain rfl:=d0 _ rfl
   obtain rfl:=sm (CG hm)
   exact ret1v rfl (At rfl) ⟨hB.ext,(vInt rk19)⟩
  replace a0:=im a0 q0
  refine h_z ?_
  refine Ah rfl (AK ?_)
  obtain rfl:=sm a0
  exact show Exists _ from ⟨_,(),rfl,⟨rfl,rfl,rfl,rfl,trivial⟩,_,hB,b0,c0⟩
 replace hB:=hB.st j0
 rintro h1 i1 ⟨j1,k1,rfl,r0,l1,hB⟩
 replace hm:=AP hm
 refine AE _ r0 ?_
 refine Ab (Aa (Al rfl (o_z ?_)))
 refine AC ?_
 obtain rfl:=sm hm
 exact ret1v rfl (At rfl) ⟨hB.ext,(vInt (show inI64 (-1) from by decide))⟩
noncomputable def Br (x0:List Lch) (x1:Lch):Option Bool :=
  bnd (bnd (BR x0 x1) fun q17=>if 0≤q17 then (some true) else (some false):Option Bool) fun y13=>some y13
theorem FT {w:World} {A:Nat→Prop} (hA:∀ k,A k→k < w.heap.size) {vx0:Value} {x0:List Lch} (b0:Vb w A vx0 x0) {vx1:Value} {x1:Lch} (e0:Vb w A vx1 x1) {r:Bool} (hm:Br x0 x1=some r) :
    Fn Tryz.prog 67 [vx0,vx1] w fun v w'=>Ext w w'∧Vb w' (upA A w w') v r:=by
 obtain ⟨O,hB,i0⟩:=enter hA
 replace b0:=b0.mono i0
 obtain ⟨A3,c4,rfl⟩:=b0.form
 replace e0:=e0.mono i0
 obtain ⟨p0,rfl,rfl,r6,r7⟩:=e0
 refine AH Tryz.func67 rfl Tryz.ntmps67 ?_
 unfold Br at hm
 refine Ab (Aa (BQ 2 O rfl fun g8 w9 c0 d0 f0=>?_))
 replace f0:Lc 2 w9 c0 g8 52 [(.int .i64 x1.tm),(.int .i64 x1.job)]:=f0
 refine Al rfl (o_z ?_)
 refine Ab ?_
 obtain ⟨k0,a0,hm⟩:=bs hm
 refine Au (fun l' w'=>∃ (l0:Unit) (O':Lab),subs l' [(4,(.bool k0))]∧Bs w A w' O') ?_ ?_
 ·
  refine Aa (Ak rfl (Bg (hl:=rfl) (hc:=(f0.1).cellsAt) rfl ?_))
  obtain ⟨m0,n0,a0⟩:=bs a0
  replace b0:=b0.st d0
  refine AG (O:=c0) (A:=All w9) (R:=fun w' F v=>Vb w' F v m0) (Gk (fun _ h=>h) (Vb.mono (F:=Fr 0 w9 c0) b0 Fr.lt) (Vb.mono (F:=Fr 0 w9 c0) (Vb.ofAgg (cs:=[(.int .i64 x1.tm),(.int .i64 x1.job)]) (x:=x1) rfl ⟨rfl,r6,r7⟩) Fr.lt) n0) rfl fun q0 r0 s0 j0 o0=>?_
  obtain ⟨rfl,t0⟩:=o0.int
  refine Fs rfl rfl (fun g0=>?_) fun g0=>?_
  ·
   replace a0:=ip a0 g0
   refine Al rfl (o_z ?_)
   obtain rfl:=sm a0
   exact ⟨(),_,⟨rfl,trivial⟩,(hB.st d0).st j0⟩
  replace a0:=im a0 g0
  refine Al rfl (o_z ?_)
  obtain rfl:=sm a0
  exact ⟨(),_,⟨rfl,trivial⟩,(hB.st d0).st j0⟩
 replace hB:=hB.st d0
 rintro u0 v0 ⟨l0,w0,h0,hB⟩
 refine AE _ h0 ?_
 refine AC ?_
 obtain rfl:=sm hm
 exact ret1v rfl (At rfl) ⟨hB.ext,vBool⟩
noncomputable def CM (x0:Wtr):Option Wtr :=
  bnd (chkI (2 * (x0.t.jobs.length:Int))) fun n40=>bnd (appI 8 x0.out ([n40]:List Int)) fun u49=>bnd (rng (ρ:=Wtr) (fun (k73:Nat) (a74:Job) (s71:Wtr)=>bnd (s71.first[k73]?) fun a122=>bnd (s71.left[k73]?) fun a132=>bnd (chkI (a122 + a132)) fun n142=>bnd (appI 8 s71.out ([n142]:List Int)) fun u151=>bnd (s71.left[k73]?) fun a164=>bnd (chkI (a164 - 1)) fun n174=>bnd (s71.left[k73]?) fun a177=>some (.next (⟨(⟨s71.t.vars,s71.t.init,s71.t.goal,s71.t.jobs⟩:Tpl),s71.first,s71.last,(s71.left.set k73 (max 0 n174)),u151⟩:Wtr))) x0.t.jobs 0 (⟨(⟨x0.t.vars,x0.t.init,x0.t.goal,x0.t.jobs⟩:Tpl),x0.first,x0.last,x0.left,u49⟩:Wtr)) fun res69=>fin res69 fun (s198:Wtr)=>bnd (appI 8 s198.out ([s198.last]:List Int)) fun u242=>some (⟨(⟨s198.t.vars,s198.t.init,s198.t.goal,s198.t.jobs⟩:Tpl),s198.first,s198.last,s198.left,u242⟩:Wtr)
theorem JI {w:World} {O:Lab} {p0 i0:Nat} {x0:Wtr} (m1:Ob i0 w O (.pointer (some ⟨p0,0,none⟩)) x0) {r:Wtr} (hm:CM x0=some r) :
    Fn Tryz.prog 68 [(.pointer (some ⟨p0,0,none⟩))] w fun v w'=>∃ O',St (eT i0) w O w' O'∧Ob i0 w' O' (.pointer (some ⟨p0,0,none⟩)) r:=by
 obtain ⟨O0,hE,n5,o5⟩:=ent1 (w:=w) (O:=O) m1.2
 have m1':=Ob.leave m1 n5 o5 (j:=2) (by decide)
 have hB:Bm w O0 w O0:=Bm.refl
 refine AH Tryz.func68 rfl Tryz.ntmps68 ?_
 unfold CM at hm
 refine Ab ?_
 obtain ⟨O2,v6,r8,s8,t8,u8,v8,w8,S3,x8,h4,h7,m2,n2,g1,o2,p5,p2,q2⟩:=Wtr.opn m1' 2 3 4 5 (by decide)
 obtain ⟨A8,c9,rfl⟩:=h7.form
 obtain ⟨q5,r5,rfl⟩:=m2.form
 obtain ⟨s5,t5,rfl⟩:=n2.form
 obtain ⟨u5,v5,rfl⟩:=g1.form
 obtain ⟨w5,x5,rfl⟩:=o2.form
 obtain ⟨y5,z5,rfl⟩:=p2.form
 obtain ⟨y8,z8,rfl⟩:=q2.form
 refine BP [(13,[5])] O2 ?_
 refine AM (fuel:=6) [] [(1,true),(2,true),(3,true),(4,true),(5,true),(6,true),(7,true),(8,true),(9,true),(10,true),(11,true)] rfl ?_
 refine Bp rfl rfl (GX rfl rfl (Bo rfl rfl (BK (hc:=fun w' ⟨O',hq⟩=>Blk.cell (i:=7) ((h4.st hq (by decide)).1) rfl) rfl rfl ?_)))
 refine Bp rfl rfl (GX rfl rfl (Bo rfl rfl (Bo rfl rfl (BK (hc:=fun w' ⟨O',hq⟩=>Blk.cell (i:=3) ((h4.st hq (by decide)).1) rfl) rfl rfl ?_))))
 refine Nk rfl rfl rfl ?_
 have a6:x0.t.jobs.length≤9223372036854775807:=Nat.le_trans g1.len.2.1 g1.len.2.2
 have a9:inI64 (x0.t.jobs.length:Int):=rngNat a6
 obtain ⟨b6,y4,hm⟩:=bs hm
 have c6:=(AX y4)
 refine Tk (he:=y4) rfl rfl rfl rfl ?_
 refine Ay ?_
 refine AM (fuel:=5) [5] [(0,true)] rfl ?_
 refine Bp rfl rfl (Ay ?_)
 refine Ax (i:=12) rfl ?_
 refine AN 6 (by decide) O2 (xs:=(([b6]:List Int):List Int)) rfl rfl rfl ⟨(vInt c6),trivial⟩ (by decide) (by decide) rfl fun b9 d9 e9 q0 d6=>?_
 have hZ:=q0.lst [] (fun _ h=>h.elim)
 refine AF [(13,[5])] hZ ?_
 refine Ax (i:=13) rfl ?_
 obtain ⟨z4,w2,hm⟩:=bs hm
 obtain ⟨w2,e6,f6⟩:=AO w2
 replace q2:=q2.st q0
 refine BE rfl q2 (d6.rd) rfl rfl (by decide) e6 f6 rfl fun g6 h6 f9 i6 s0 r2=>?_
 rw [← w2] at r2 ⊢
 have hZ:=s0.lst [5] (fun _ h=>by cases h;decide)
 refine AF [] hZ ?_
 refine AM (fuel:=1) [] [(14,true),(15,true)] rfl ?_
 refine GX rfl rfl (Bo rfl rfl (Ay ?_))
 refine Ax (i:=16) rfl ?_
 replace h4:=(h4.st q0).st s0
 refine AD h4 rfl rfl rfl (AL) (allOne) fun j6 t0 h4=>?_
 replace h4:Lc 2 j6 i6 p0 110 [(.slice A8 x0.t.vars.length c9),(.slice q5 x0.t.init.length r5),(.slice s5 x0.t.goal.length t5),(.slice u5 x0.t.jobs.length v5),(.slice w5 x0.first.length x5),(.int .i64 x0.last),(.slice y5 x0.left.length z5),(.slice g6 z4.length h6)]:=h4
 refine BL ?_
 refine BG ?_
 refine Ab (Ab (Aa (Ak rfl (Ng rfl rfl (AB rfl (AB rfl (Az (hc:=Blk.cell (i:=3) (h4.1) rfl) rfl ?_)))))))
 refine AR rfl ?_
 replace g1:=((g1.st q0).st s0).st t0
 have x2:x0.t.jobs.length≤9223372036854775807:=Nat.le_trans g1.len.2.1 g1.len.2.2
 have g9:inI64 (x0.t.jobs.length:Int):=rngNat x2
 refine Ak rfl (o_z ?_)
 replace h7:=((h7.st q0).st s0).st t0
 replace m2:=((m2.st q0).st s0).st t0
 replace n2:=((n2.st q0).st s0).st t0
 replace o2:=((o2.st q0).st s0).st t0
 replace p2:=((p2.st q0).st s0).st t0
 replace r2:=r2.st t0
 obtain ⟨k6,a5,l6,m6,n6⟩:=Wtr.shut (x:=(⟨(⟨x0.t.vars,x0.t.init,x0.t.goal,x0.t.jobs⟩:Tpl),x0.first,x0.last,x0.left,z4⟩:Wtr)) (l0:=2) (l1:=3) (l2:=4) (l3:=5) (by decide) h4 h7 m2 n2 g1 o2 p5 p2 r2
 obtain ⟨n1,y2,hm⟩:=bs hm
 refine Au (aft n1 (fun (c0:Wtr) (s2:Unit)=>[(0,(.pointer (some ⟨p0,0,none⟩)))]) (fun c0 s2 w'=>∃ O':Lab,Bm w O0 w' O'∧Ob 2 w' O' (.pointer (some ⟨p0,0,none⟩)) c0)) ?_ ?_
 ·
  refine AJ ?_
  replace hB:=((((hB.st S3).st q0).st s0).st t0).st a5
  refine Bh (σ:=Wtr) (X:=Unit) (x0.t.jobs.length) y2 rfl x2 (fun (c0:Wtr) (s2:Unit)=>[(0,(.pointer (some ⟨p0,0,none⟩)))]) _ (fun c0 s2 w'=>∃ O':Lab,Bm w O0 w' O'∧Ob 2 w' O' (.pointer (some ⟨p0,0,none⟩)) c0) _ () ⟨k6,hB,n6⟩ ⟨rfl,rfl,rfl,trivial⟩ (fun _ _=>⟨rfl,rfl⟩) (fun _ _=>⟨rfl,trivial⟩) (fun _ _ _ ⟨O',hB,o1⟩=>⟨O',hB,o1⟩) ⟨rfl,rfl,rfl⟩ ⟨rfl,rfl⟩ ?_
  rintro z2 h9 c0 s2 i9 o6 a3 ⟨j9,hB,o1⟩ a0 b3 c3
  have rk73:inI64 (z2:Int):=rngK a3 x2
  refine Ab (Aa (Ak rfl (Al rfl (o_z ?_))))
  refine Ab ?_
  obtain ⟨b5,k9,l9,m9,p6,q6,r6,s6,t6,u6,o0,t2,u2,v2,u0,r0,d3,f0,v0⟩:=Wtr.opn o1 2 3 4 5 (by decide)
  obtain ⟨w6,x6,rfl⟩:=t2.form
  obtain ⟨y6,z6,rfl⟩:=u2.form
  obtain ⟨e3,f3,rfl⟩:=v2.form
  obtain ⟨g3,h3,rfl⟩:=u0.form
  obtain ⟨i3,j3,rfl⟩:=r0.form
  obtain ⟨k3,m3,rfl⟩:=f0.form
  obtain ⟨a7,b7,rfl⟩:=v0.form
  refine BP [(21,[5])] b5 ?_
  refine AM (fuel:=6) [] [(1,true),(2,true),(3,true),(4,true),(5,true),(6,true),(7,true),(8,true),(9,true),(10,true),(11,true),(12,true),(13,true),(14,true),(15,true),(16,true),(17,true),(18,true),(19,true)] rfl ?_
  refine Bp rfl rfl (GX rfl rfl (Bo rfl rfl (BK (hc:=fun w' ⟨O',hq⟩=>Blk.cell (i:=7) ((o0.st hq (by decide)).1) rfl) rfl rfl ?_)))
  refine Bp rfl rfl (GX rfl rfl (Bo rfl rfl (BK (hc:=fun w' ⟨O',hq⟩=>Blk.cell (i:=4) ((o0.st hq (by decide)).1) rfl) rfl rfl ?_)))
  refine Bp rfl rfl ?_
  obtain ⟨c7,n3,a0⟩:=bs a0
  obtain ⟨d7,e7,c5,p1,q1,r1,s1,rfl,f7⟩:=r0.elemF n3
  refine EF (hA:=p1) (hj:=rfl) (hlt:=r1) rfl rfl rfl ?_
  refine BK (hc:=fun w' ⟨O',hq⟩=>cat0 (CK (hq.agree (i:=3) (by decide)) q1 s1)) rfl rfl ?_
  refine Bp rfl rfl (GX rfl rfl (Bo rfl rfl (BK (hc:=fun w' ⟨O',hq⟩=>Blk.cell (i:=6) ((o0.st hq (by decide)).1) rfl) rfl rfl ?_)))
  refine Bp rfl rfl ?_
  obtain ⟨g7,o3,a0⟩:=bs a0
  obtain ⟨i7,j7,d5,t1,u1,v1,w1,rfl,k7⟩:=f0.elemF o3
  refine EF (hA:=t1) (hj:=rfl) (hlt:=v1) rfl rfl rfl ?_
  refine BK (hc:=fun w' ⟨O',hq⟩=>cat0 (CK (hq.agree (i:=4) (by decide)) u1 w1)) rfl rfl ?_
  obtain ⟨p3,x1,a0⟩:=bs a0
  have q3:=(AX x1)
  refine JY (he:=x1) rfl rfl rfl ?_
  refine Ay ?_
  refine AM (fuel:=5) [5] [(0,true)] rfl ?_
  refine Bp rfl rfl (Ay ?_)
  refine Ax (i:=20) rfl ?_
  refine AN 7 (by decide) b5 (xs:=(([p3]:List Int):List Int)) rfl rfl rfl ⟨(vInt q3),trivial⟩ (by decide) (by decide) rfl fun l7 m7 n7 d0 r3=>?_
  have hZ:=d0.lst [] (fun _ h=>h.elim)
  refine AF [(21,[5])] hZ ?_
  refine Ax (i:=21) rfl ?_
  obtain ⟨y1,i1,a0⟩:=bs a0
  obtain ⟨i1,s3,t3⟩:=AO i1
  replace v0:=v0.st d0
  refine BE rfl v0 (r3.rd) rfl rfl (by decide) s3 t3 rfl fun u3 v3 o7 z1 g0 w0=>?_
  rw [← i1] at w0 ⊢
  have hZ:=g0.lst [5] (fun _ h=>by cases h;decide)
  refine AF [] hZ ?_
  refine AM (fuel:=1) [] [(22,true),(23,true)] rfl ?_
  refine GX rfl rfl (Bo rfl rfl (Ay ?_))
  refine Ax (i:=24) rfl ?_
  replace o0:=(o0.st d0).st g0
  refine AD o0 rfl rfl rfl (AL) (allOne) fun w3 k0 o0=>?_
  replace o0:Lc 2 w3 z1 p0 110 [(.slice w6 c0.t.vars.length x6),(.slice y6 c0.t.init.length z6),(.slice e3 c0.t.goal.length f3),(.slice g3 c0.t.jobs.length h3),(.slice i3 c0.first.length j3),(.int .i64 c0.last),(.slice k3 c0.left.length m3),(.slice u3 y1.length v3)]:=o0
  refine BL ?_
  refine BG ?_
  refine BP [] z1 ?_
  refine AM (fuel:=1) [] [(0,true),(1,true),(2,true),(3,true),(4,true),(5,true),(6,true),(7,true),(8,true),(9,true),(10,true),(11,true),(12,true),(13,true),(14,true)] rfl ?_
  refine Bp rfl rfl (GX rfl rfl (Bo rfl rfl (BK (hc:=fun w' ⟨O',hq⟩=>Blk.cell (i:=6) ((o0.st hq (by decide)).1) rfl) rfl rfl ?_)))
  refine Bp rfl rfl (Bp rfl rfl (GX rfl rfl (Bo rfl rfl (BK (hc:=fun w' ⟨O',hq⟩=>Blk.cell (i:=6) ((o0.st hq (by decide)).1) rfl) rfl rfl ?_))))
  refine Bp rfl rfl ?_
  obtain ⟨p7,x3,a0⟩:=bs a0
  replace f0:=((f0.st d0).st g0).st k0
  obtain ⟨q7,r7,e5,a2,b2,c2,d2,rfl,s7⟩:=f0.elemF x3
  refine EF (hA:=a2) (hj:=rfl) (hlt:=c2) rfl rfl rfl ?_
  refine BK (hc:=fun w' ⟨O',hq⟩=>cat0 (CK (hq.agree (i:=4) (by decide)) b2 d2)) rfl rfl ?_
  obtain ⟨j1,e2,a0⟩:=bs a0
  have y3:=(AX e2)
  refine MM (he:=e2) rfl rfl rfl rfl ?_
  refine Vh rfl rfl rfl rfl ?_
  obtain ⟨t7,f2,a0⟩:=bs a0
  obtain ⟨u7,v7,f5,h1,g5,g2,h5,rfl,w7⟩:=f0.elemF f2
  refine EF (hA:=h1) (hj:=rfl) (hlt:=g2) rfl rfl rfl ?_
  refine Ay ?_
  refine Ax (i:=15) rfl ?_
  refine IA rfl f0 (a:=(max 0 j1)) (vInt (rngMax (show inI64 (0) from by decide) y3)) h1 rfl rfl (Bl f2) fun x7 m0 f0=>?_
  refine BL ?_
  refine BG ?_
  replace o0:=o0.st m0
  replace t2:=(((t2.st d0).st g0).st k0).st m0
  replace u2:=(((u2.st d0).st g0).st k0).st m0
  replace v2:=(((v2.st d0).st g0).st k0).st m0
  replace u0:=(((u0.st d0).st g0).st k0).st m0
  replace r0:=(((r0.st d0).st g0).st k0).st m0
  replace w0:=(w0.st k0).st m0
  obtain ⟨y7,z3,i5,j5,a4⟩:=Wtr.shut (x:=(⟨(⟨c0.t.vars,c0.t.init,c0.t.goal,c0.t.jobs⟩:Tpl),c0.first,c0.last,(c0.left.set z2 (max 0 j1)),y1⟩:Wtr)) (l0:=2) (l1:=3) (l2:=4) (l3:=5) (by decide) (by have q:=o0;rw [← ((by simp:(c0.left.set z2 (max 0 j1)).length=c0.left.length).trans rfl)] at q;exact q) t2 u2 v2 u0 r0 d3 f0.relen w0
  obtain rfl:=sm a0
  exact show Exists _ from ⟨_,(),rfl,⟨rfl,rfl,rfl,trivial⟩,_,(((((hB.st t6).st d0).st g0).st k0).st m0).st z3,a4⟩
 replace hB:=((((hB.st S3).st q0).st s0).st t0).st a5
 rintro z7 a8 ⟨b0,b8,rfl,h2,c8,hB,o1⟩
 replace hm:=AP hm
 refine AE _ h2 ?_
 obtain ⟨i2,d8,e8,f8,g8,h8,i8,j8,b4,k5,h0,y0,z0,a1,b1,c1,j2,d1,e1⟩:=Wtr.opn o1 2 3 4 5 (by decide)
 obtain ⟨c4,d4,rfl⟩:=y0.form
 obtain ⟨e4,f4,rfl⟩:=z0.form
 obtain ⟨g4,i4,rfl⟩:=a1.form
 obtain ⟨j4,k4,rfl⟩:=b1.form
 obtain ⟨l4,m4,rfl⟩:=c1.form
 obtain ⟨n4,o4,rfl⟩:=d1.form
 obtain ⟨k8,l8,rfl⟩:=e1.form
 refine BP [(10,[5])] i2 ?_
 refine AM (fuel:=6) [] [(1,true),(2,true),(3,true),(4,true),(5,true),(6,true),(7,true),(8,true)] rfl ?_
 refine Bp rfl rfl (GX rfl rfl (Bo rfl rfl (BK (hc:=fun w' ⟨O',hq⟩=>Blk.cell (i:=7) ((h0.st hq (by decide)).1) rfl) rfl rfl ?_)))
 refine Bp rfl rfl (GX rfl rfl (Bo rfl rfl (BK (hc:=fun w' ⟨O',hq⟩=>Blk.cell (i:=5) ((h0.st hq (by decide)).1) rfl) rfl rfl ?_)))
 refine Ay ?_
 refine AM (fuel:=5) [5] [(0,true)] rfl ?_
 refine Bp rfl rfl (Ay ?_)
 refine Ax (i:=9) rfl ?_
 refine AN 8 (by decide) i2 (xs:=(([b0.last]:List Int):List Int)) rfl rfl rfl ⟨(vInt j2),trivial⟩ (by decide) (by decide) rfl fun m8 n8 o8 e0 p4=>?_
 have hZ:=e0.lst [] (fun _ h=>h.elim)
 refine AF [(10,[5])] hZ ?_
 refine Ax (i:=10) rfl ?_
 obtain ⟨k2,k1,hm⟩:=bs hm
 obtain ⟨k1,q4,r4⟩:=AO k1
 replace e1:=e1.st e0
 refine BE rfl e1 (p4.rd) rfl rfl (by decide) q4 r4 rfl fun s4 t4 p8 u4 j0 f1=>?_
 rw [← k1] at f1 ⊢
 have hZ:=j0.lst [5] (fun _ h=>by cases h;decide)
 refine AF [] hZ ?_
 refine AM (fuel:=1) [] [(11,true),(12,true)] rfl ?_
 refine GX rfl rfl (Bo rfl rfl (Ay ?_))
 refine Ax (i:=13) rfl ?_
 replace h0:=(h0.st e0).st j0
 refine AD h0 rfl rfl rfl (AL) (allOne) fun v4 n0 h0=>?_
 replace h0:Lc 2 v4 u4 p0 110 [(.slice c4 b0.t.vars.length d4),(.slice e4 b0.t.init.length f4),(.slice g4 b0.t.goal.length i4),(.slice j4 b0.t.jobs.length k4),(.slice l4 b0.first.length m4),(.int .i64 b0.last),(.slice n4 b0.left.length o4),(.slice s4 k2.length t4)]:=h0
 refine BL ?_
 refine BG ?_
 replace y0:=((y0.st e0).st j0).st n0
 replace z0:=((z0.st e0).st j0).st n0
 replace a1:=((a1.st e0).st j0).st n0
 replace b1:=((b1.st e0).st j0).st n0
 replace c1:=((c1.st e0).st j0).st n0
 replace d1:=((d1.st e0).st j0).st n0
 replace f1:=f1.st n0
 obtain ⟨q8,w4,l5,m5,x4⟩:=Wtr.shut (x:=(⟨(⟨b0.t.vars,b0.t.init,b0.t.goal,b0.t.jobs⟩:Tpl),b0.first,b0.last,b0.left,k2⟩:Wtr)) (l0:=2) (l1:=3) (l2:=4) (l3:=5) (by decide) h0 y0 z0 a1 b1 c1 j2 d1 f1
 obtain rfl:=sm hm
 replace hB:=((((hB.st b4).st e0).st j0).st n0).st w4
 obtain ⟨O',hS',hz,hl⟩:=hE.leave (fun q=>if q=2 then i0 else 0) rfl hB
 exact ret0n rfl  ⟨O',hS',(Ob.leave x4 hz (hl 2 (by decide) (by decide)) m1.2)⟩
noncomputable def Cj (x0:Tpl) (x1:List Lch):Option ((List Int)×Err) :=
  bnd (Cf x0 x1) fun q27=>if q27.2.n≠0 then (some (([]:List Int),(⟨q27.2.n⟩:Err))) else (bnd (BN x0) fun q41=>if q41.2.n≠0 then (some (([]:List Int),(⟨q41.2.n⟩:Err))) else (bnd (chkI (2 * (x1.length:Int))) fun n80=>bnd (chkI ((x0.jobs.length:Int) + 2)) fun n85=>bnd (chkI (q27.1 * n85)) fun n88=>bnd (chkI (n80 + n88)) fun n91=>if 65536 < n91 then (some (([]:List Int),(⟨5⟩:Err))) else (bnd (chkI ((q41.1.ops.length:Int) - 1)) fun n97=>bnd (mkI 8 (0:Int) (x0.jobs.length:Int)) fun u102=>bnd (chkI (2 * (x0.jobs.length:Int))) fun n122=>bnd (chkI (n122 + 1)) fun n125=>bnd (rng (ρ:=(List Int)×Err) (fun (k143:Nat) (a144:Job) (s141:Int×Wtr)=>bnd (appI 8 s141.2.first [s141.1]) fun u230=>bnd (chkI (a144.dur + 1)) fun n244=>bnd (chkI (s141.1 + n244)) fun n247=>some (.next (n247,(⟨(⟨s141.2.t.vars,s141.2.t.init,s141.2.t.goal,s141.2.t.jobs⟩:Tpl),u230,s141.2.last,s141.2.left,s141.2.out⟩:Wtr)))) x0.jobs 0 (n125,(⟨(⟨x0.vars,x0.init,x0.goal,x0.jobs⟩:Tpl),([]:List Int),n97,u102,([]:List Int)⟩:Wtr))) fun res139=>fin res139 fun (s259:Int×Wtr)=>bnd (Dm x1) fun q261=>bnd (chkI (q27.1 + 1)) fun n270=>bnd (natI n270) fun N286=>bnd (rngN (ρ:=(List Int)×Err) (fun (k277:Nat) (s275:Wtr)=>bnd (rng (ρ:=Ctl Wtr ((List Int)×Err)) (fun (k296:Nat) (a297:Job) (s294:Wtr)=>bnd (chkI ((k277:Int) - a297.dur)) fun n345=>bnd (Br x1 (⟨n345,(k296:Int)⟩:Lch)) fun q348=>if q348=true then bnd (chkI (2 * (k296:Int))) fun n391=>bnd (chkI (n391 + 1)) fun n394=>bnd (appI 8 s294.out [n394]) fun u397=>some (.next (⟨(⟨s294.t.vars,s294.t.init,s294.t.goal,s294.t.jobs⟩:Tpl),s294.first,s294.last,s294.left,u397⟩:Wtr)) else some (.next s294)) x0.jobs 0 s275) fun res292=>fin res292 fun (s420:Wtr)=>bnd (rng (ρ:=Ctl Wtr ((List Int)×Err)) (fun (k428:Nat) (a429:Lch) (s426:Wtr)=>if a429.tm=(k277:Int) then (bnd (chkI (2 * a429.job)) fun n494=>bnd (appI 8 s426.out ([n494]:List Int)) fun u503=>bnd (atI x0.jobs a429.job) fun a516=>bnd (atI s426.left a429.job) fun a549=>some (.next (⟨(⟨s426.t.vars,s426.t.init,s426.t.goal,s426.t.jobs⟩:Tpl),s426.first,s426.last,(s426.left.set (a429.job:Int).toNat a516.dur),u503⟩:Wtr))) else (some (.next s426))) q261 0 s420) fun res424=>fin res424 fun (s572:Wtr)=>if (k277:Int) < q27.1 then (bnd (CM s572) fun q575=>some (.next q575)) else (some (.next s572))) N286 s259.2) fun res273=>fin res273 fun (s587:Wtr)=>some (s587.out,(⟨0⟩:Err)))))
theorem JJ {w:World} {A:Nat→Prop} (hA:∀ k,A k→k < w.heap.size) {vx0:Value} {x0:Tpl} (o7:Vb w A vx0 x0) {vx1:Value} {x1:List Lch} (g0:Vb w A vx1 x1) {r:(List Int)×Err} (hm:Cj x0 x1=some r) :
    Fn Tryz.prog 20 [vx0,vx1] w fun v w'=>Ext w w'∧T2 w' (upA A w w') v r:=by
 obtain ⟨O,hB,wD⟩:=enter hA
 replace o7:=o7.mono wD
 obtain ⟨eM,rfl,v4,v5,v6,v7,rfl,h8,j0,k0,a0⟩:=o7
 obtain ⟨A9,u1,rfl⟩:=h8.form
 obtain ⟨v1,w1,rfl⟩:=j0.form
 obtain ⟨y1,z1,rfl⟩:=k0.form
 obtain ⟨n1,o1,rfl⟩:=a0.form
 replace g0:=g0.mono wD
 obtain ⟨s2,t2,rfl⟩:=g0.form
 refine AH Tryz.func20 rfl Tryz.ntmps20 ?_
 unfold Cj at hm
 refine Ab (Aa (BQ 2 O rfl fun m2 e7 f7 b3 b0=>?_))
 replace b0:Lc 2 e7 f7 m2 26 [(.slice A9 x0.vars.length u1),(.slice v1 x0.init.length w1),(.slice y1 x0.goal.length z1),(.slice n1 x0.jobs.length o1)]:=b0
 refine Al rfl (Al rfl (o_z ?_))
 refine Ab (Aa (Bg (hl:=rfl) (hc:=(b0.1).cellsAt) rfl ?_))
 refine Ak rfl ?_
 obtain ⟨j4,bF,hm⟩:=bs hm
 replace g0:=g0.st b3
 replace h8:=h8.st b3
 replace j0:=j0.st b3
 replace k0:=k0.st b3
 replace a0:=a0.st b3
 refine AG (O:=f7) (A:=All e7) (R:=fun w' F v=>T2 w' F v j4) (HD (fun _ h=>h) (Vb.mono (F:=Fr 0 e7 f7) (Vb.ofAgg (cs:=[(.slice A9 x0.vars.length u1),(.slice v1 x0.init.length w1),(.slice y1 x0.goal.length z1),(.slice n1 x0.jobs.length o1)]) (x:=x0) rfl ⟨_,_,_,_,rfl,h8,j0,k0,a0⟩) Fr.lt) (Vb.mono (F:=Fr 0 e7 f7) g0 Fr.lt) bF) rfl fun fM cF xD v2 dF=>?_
 obtain ⟨gM,hM,rfl,eF,fF⟩:=dF
 obtain ⟨rfl,iM⟩:=eF.int
 obtain ⟨rfl,gF⟩:=fF.err
 refine Ak rfl (CS rfl rfl (CS rfl rfl (Al rfl (Al rfl (o_z ?_)))))
 refine Ab (Ab (Aa (Ak rfl (Gi rfl (fun p7=>?_) fun p7=>?_))))
 ·
  replace hm:=ip hm p7
  refine o_z ?_
  refine Aj rfl (Ab (Aa (Ak rfl (Al rfl (Al rfl (o_z ?_))))))
  refine AC ?_
  obtain rfl:=sm hm
  replace hB:=(hB.st b3).st v2
  exact ret2 rfl (At rfl) (At rfl) ⟨hB.ext,_,_,rfl,(Vb.mono (F:=Fr 0 cF xD) (Vb.nil _ _) hB.out),(vErr gF)⟩
 replace hm:=im hm p7
 refine o_z ?_
 refine Ah rfl (AK (Ab (Aa ?_)))
 replace b0:=b0.st v2
 refine Bg (hl:=rfl) (hc:=(b0.1).cellsAt) rfl ?_
 obtain ⟨o4,hF,hm⟩:=bs hm
 replace h8:=h8.st v2
 replace j0:=j0.st v2
 replace k0:=k0.st v2
 replace a0:=a0.st v2
 refine BU (O:=xD) (R:=fun w' F v=>T2 w' F v o4) (Ft Fr.lt (Vb.ofAgg (cs:=[(.slice A9 x0.vars.length u1),(.slice v1 x0.init.length w1),(.slice y1 x0.goal.length z1),(.slice n1 x0.jobs.length o1)]) (x:=x0) rfl ⟨_,_,_,_,rfl,h8,j0,k0,a0⟩) hF) rfl fun jM kM jF c3 kF=>?_
 obtain ⟨lM,mM,rfl,lF,mF⟩:=kF
 obtain ⟨nF,rfl,nM,oM,pM,qM,rfl,oF,pF,qF,h5⟩:=lF
 obtain ⟨rF,sF,rfl⟩:=oF.form
 obtain ⟨tF,uF,rfl⟩:=pF.form
 obtain ⟨vF,wF,rfl⟩:=qF.form
 obtain ⟨xF,yF,rfl⟩:=h5.form
 obtain ⟨rfl,zF⟩:=mF.err
 refine Ak rfl (CS rfl rfl (CS rfl rfl (AT 3 jF fun aG rM i5 w2 j5=>?_)))
 refine AD j5 rfl rfl rfl (AL) (allOne) fun q7 x2 j5=>?_
 replace j5:Lc 3 q7 i5 aG 31 [(.slice rF o4.1.vars.length sF),(.slice tF o4.1.init.length uF),(.slice vF o4.1.goal.length wF),(.slice xF o4.1.ops.length yF)]:=j5
 refine Al rfl (o_z ?_)
 refine Ab (Ab (Aa (Ak rfl (Gi rfl (fun r7=>?_) fun r7=>?_))))
 ·
  replace hm:=ip hm r7
  refine o_z ?_
  refine Aj rfl (Ab (Aa (Ak rfl (Al rfl (Al rfl (o_z ?_))))))
  refine AC ?_
  obtain rfl:=sm hm
  replace hB:=((((hB.st b3).st v2).st c3).st w2).st x2
  exact ret2 rfl (At rfl) (At rfl) ⟨hB.ext,_,_,rfl,(Vb.mono (F:=Fr 0 q7 i5) (Vb.nil _ _) hB.out),(vErr zF)⟩
 replace hm:=im hm r7
 refine o_z ?_
 refine Ah rfl (AK (Ab (Ab (Aa (Ak rfl (AR rfl ?_))))))
 replace g0:=(((g0.st v2).st c3).st w2).st x2
 have bG:x1.length≤9223372036854775807:=Nat.le_trans g0.len.2.1 g0.len.2.2
 have sM:inI64 (x1.length:Int):=rngNat bG
 obtain ⟨tM,yD,hm⟩:=bs hm
 have uM:=(AX yD)
 refine GU (he:=yD) rfl rfl ?_
 refine Ak rfl (AB rfl ?_)
 replace b0:=((b0.st c3).st w2).st x2
 refine Az (hc:=Blk.cell (i:=3) (b0.1) rfl) rfl ?_
 refine AR rfl ?_
 replace a0:=((a0.st c3).st w2).st x2
 have cG:x0.jobs.length≤9223372036854775807:=Nat.le_trans a0.len.2.1 a0.len.2.2
 have vM:inI64 (x0.jobs.length:Int):=rngNat cG
 obtain ⟨wM,zD,hm⟩:=bs hm
 have xM:=(AX zD)
 refine Dn (he:=zD) rfl rfl ?_
 obtain ⟨yM,aE,hm⟩:=bs hm
 have zM:=(AX aE)
 refine GU (he:=aE) rfl rfl ?_
 obtain ⟨aN,bE,hm⟩:=bs hm
 have bN:=(AX bE)
 refine Dn (he:=bE) rfl rfl ?_
 refine Dg rfl rfl (fun s7=>?_) fun s7=>?_
 ·
  replace hm:=ip hm s7
  refine o_z ?_
  refine Aj rfl (Ab (Aa (Fb rfl ?_)))
  refine Al rfl (Al rfl (o_z ?_))
  refine AC ?_
  obtain rfl:=sm hm
  replace hB:=((((hB.st b3).st v2).st c3).st w2).st x2
  exact ret2 rfl (At rfl) (At rfl) ⟨hB.ext,_,_,rfl,(Vb.mono (F:=Fr 0 q7 i5) (Vb.nil _ _) hB.out),(vErr (by decide))⟩
 replace hm:=im hm s7
 refine o_z ?_
 refine Ah rfl (AK (Ab (BP [] i5 ?_)))
 refine AM (fuel:=4) [] [(0,true),(1,true),(2,true),(3,true),(4,true),(5,true),(6,true),(7,true)] rfl ?_
 refine CN (hl:=rfl) (hb:=fun w' ⟨O',hq⟩=>((b0.st hq (by decide)).1).cellsAt) rfl rfl ?_
 refine Bo rfl rfl (BK (hc:=fun w' ⟨O',hq⟩=>Blk.cell (i:=3) ((j5.st hq (by decide)).1) rfl) rfl rfl ?_)
 refine Nk rfl rfl rfl ?_
 replace h5:=(h5.st w2).st x2
 have dG:o4.1.ops.length≤9223372036854775807:=Nat.le_trans h5.len.2.1 h5.len.2.2
 have cN:inI64 (o4.1.ops.length:Int):=rngNat dG
 obtain ⟨cE,dE,hm⟩:=bs hm
 have eG:=(AX dE)
 refine MM (he:=dE) rfl rfl rfl rfl ?_
 refine Bo rfl rfl (BK (hc:=fun w' ⟨O',hq⟩=>Blk.cell (i:=3) ((b0.st hq (by decide)).1) rfl) rfl rfl ?_)
 refine Nk rfl rfl rfl ?_
 have t7:x0.jobs.length≤9223372036854775807:=Nat.le_trans a0.len.2.1 a0.len.2.2
 have fG:inI64 (x0.jobs.length:Int):=rngNat t7
 refine Ay ?_
 refine Ax (i:=8) rfl ?_
 obtain ⟨k5,u7,hm⟩:=bs hm
 obtain ⟨w7,x7,y7,z7,a8⟩:=HH u7
 refine Jw 4 i5 (z0:=(0:Int)) rfl rfl rfl rfl rfl x7 (vInt (show inI64 0 from by decide)) y7 z7 rfl fun b8 gG c8 m1 d3=>?_
 rw [← a8] at d3 ⊢
 have hZ:=m1.lst [] (fun _ h=>h.elim)
 refine AF [] hZ ?_
 refine AM (fuel:=2) [] [(9,true)] rfl ?_
 refine CE rfl rfl rfl ?_
 refine Ay ?_
 refine Ax (i:=10) rfl ?_
 refine BQ 5 c8 rfl fun m0 p4 q4 g1 r4=>?_
 replace r4:Lc 5 p4 q4 m0 110 [(.slice A9 x0.vars.length u1),(.slice v1 x0.init.length w1),(.slice y1 x0.goal.length z1),(.slice n1 x0.jobs.length o1),(.slice none 0 0),(.int .i64 cE),(.slice (some ⟨b8,0,none⟩) k5.length w7),(.slice none 0 0)]:=r4
 have hZ:=g1.lst [] (fun _ h=>h.elim)
 refine AF [] hZ ?_
 refine AM (fuel:=0) [] [(11,true)] rfl ?_
 refine JT rfl rfl (Ay ?_)
 refine BG ?_
 refine Ab (Aa (AB rfl ?_))
 replace b0:=(b0.st m1).st g1
 refine Az (hc:=Blk.cell (i:=3) (b0.1) rfl) rfl ?_
 refine AR rfl ?_
 replace a0:=(a0.st m1).st g1
 have d8:x0.jobs.length≤9223372036854775807:=Nat.le_trans a0.len.2.1 a0.len.2.2
 have hG:inI64 (x0.jobs.length:Int):=rngNat d8
 obtain ⟨iG,l5,hm⟩:=bs hm
 have jG:=(AX l5)
 refine GU (he:=l5) rfl rfl ?_
 obtain ⟨kG,m5,hm⟩:=bs hm
 have e8:=(AX m5)
 refine Dn (he:=m5) rfl rfl ?_
 refine Al rfl (o_z ?_)
 refine Ab (Ab (Aa (AB rfl (Az (hc:=Blk.cell (i:=3) (b0.1) rfl) rfl ?_))))
 refine AR rfl ?_
 have s4:x0.jobs.length≤9223372036854775807:=Nat.le_trans a0.len.2.1 a0.len.2.2
 have lG:inI64 (x0.jobs.length:Int):=rngNat s4
 refine Ak rfl (o_z ?_)
 have f8:Rw 6 p4 q4 3 (.slice none 0 0) ([]:List Int):=Rw.nil 6 (by decide)
 have g8:Rw 7 p4 q4 3 (.slice none 0 0) ([]:List Int):=Rw.nil 7 (by decide)
 replace h8:=((((h8.st c3).st w2).st x2).st m1).st g1
 replace j0:=((((j0.st c3).st w2).st x2).st m1).st g1
 replace k0:=((((k0.st c3).st w2).st x2).st m1).st g1
 replace d3:=d3.st g1
 obtain ⟨i8,e1,eE,fE,j8⟩:=Wtr.shut (x:=(⟨(⟨x0.vars,x0.init,x0.goal,x0.jobs⟩:Tpl),([]:List Int),cE,k5,([]:List Int)⟩:Wtr)) (l0:=5) (l1:=6) (l2:=4) (l3:=7) (by decide) r4 h8 j0 k0 a0 f8 eG d3 g8
 obtain ⟨t4,n5,hm⟩:=bs hm
 refine Au (aft t4 (fun (e0:Int×Wtr) (e3:Unit)=>[(1,(.slice s2 x1.length t2)),(2,(.pointer (some ⟨m2,0,none⟩))),(6,(.int .i64 j4.1)),(9,(.pointer (some ⟨m0,0,none⟩)))]) (fun e0 e3 w'=>∃ O':Lab,Bs w A w' O'∧Vb w' (Fr 0 w' O') (.slice s2 x1.length t2) x1∧Lc 2 w' O' m2 26 [(.slice A9 x0.vars.length u1),(.slice v1 x0.init.length w1),(.slice y1 x0.goal.length z1),(.slice n1 x0.jobs.length o1)]∧Vb w' (Fr 0 w' O') (.slice A9 x0.vars.length u1) x0.vars∧Vb w' (Fr 0 w' O') (.slice v1 x0.init.length w1) x0.init∧Vb w' (Fr 0 w' O') (.slice y1 x0.goal.length z1) x0.goal∧Vb w' (Fr 0 w' O') (.slice n1 x0.jobs.length o1) x0.jobs∧Ob 5 w' O' (.pointer (some ⟨m0,0,none⟩)) e0.2∧inI64 e0.1)) ?_ ?_
 ·
  refine AJ ?_
  replace hB:=(((((((hB.st b3).st v2).st c3).st w2).st x2).st m1).st g1).st e1
  replace g0:=((g0.st m1).st g1).st e1
  replace h8:=h8.st e1
  replace j0:=j0.st e1
  replace k0:=k0.st e1
  replace a0:=a0.st e1
  replace b0:=b0.st e1
  refine Bh (σ:=Int×Wtr) (X:=Unit) (x0.jobs.length) n5 rfl s4 (fun (e0:Int×Wtr) (e3:Unit)=>[(1,(.slice s2 x1.length t2)),(2,(.pointer (some ⟨m2,0,none⟩))),(6,(.int .i64 j4.1)),(9,(.pointer (some ⟨m0,0,none⟩))),(10,(.int .i64 e0.1)),(65,(.slice n1 x0.jobs.length o1))]) _ (fun e0 e3 w'=>∃ O':Lab,Bs w A w' O'∧Vb w' (Fr 0 w' O') (.slice s2 x1.length t2) x1∧Lc 2 w' O' m2 26 [(.slice A9 x0.vars.length u1),(.slice v1 x0.init.length w1),(.slice y1 x0.goal.length z1),(.slice n1 x0.jobs.length o1)]∧Vb w' (Fr 0 w' O') (.slice A9 x0.vars.length u1) x0.vars∧Vb w' (Fr 0 w' O') (.slice v1 x0.init.length w1) x0.init∧Vb w' (Fr 0 w' O') (.slice y1 x0.goal.length z1) x0.goal∧Vb w' (Fr 0 w' O') (.slice n1 x0.jobs.length o1) x0.jobs∧Ob 5 w' O' (.pointer (some ⟨m0,0,none⟩)) e0.2∧inI64 e0.1) _ () ⟨i8,hB,g0,b0,h8,j0,k0,a0,j8,e8⟩ ⟨rfl,rfl,rfl,rfl,rfl,rfl,rfl,rfl,trivial⟩ (fun _ _=>⟨rfl,rfl⟩) (fun _ _=>⟨rfl,rfl,rfl,rfl,trivial⟩) (fun _ _ _ ⟨O',hB,g0,b0,h8,j0,k0,a0,p1,f3⟩=>⟨O',hB,g0,b0,h8,j0,k0,a0,p1,f3⟩) ⟨rfl,rfl,rfl⟩ ⟨rfl,rfl⟩ ?_
  rintro k8 n2 e0 e3 mG gE k4 ⟨l8,hB,g0,b0,h8,j0,k0,a0,p1,f3⟩ h1 g7 h7
  have rk143:inI64 (k8:Int):=rngK k4 s4
  refine Ab (Aa ?_)
  obtain ⟨nG,oG,hE,o5,p5,q5,pG,qG,rG,sG,tG,rfl,m8,n8,o8,p8,q8,uG,vG⟩:=a0.elem' k4
  obtain ⟨r8,s8,rfl⟩:=m8.form
  obtain ⟨t8,u8,rfl⟩:=n8.form
  obtain ⟨v8,w8,rfl⟩:=o8.form
  obtain ⟨x8,y8,rfl⟩:=p8.form
  obtain ⟨z8,a9,rfl⟩:=q8.form
  refine Bv (hA:=o5) (hj:=rfl) (hlt:=p5) rfl rfl ?_
  refine Bg (hl:=rfl) (hc:=q5) rfl ?_
  refine AT 8 l8 fun b9 wG c9 a2 o2=>?_
  refine AD o2 rfl rfl rfl (AL) (allOne) fun d9 b2 o2=>?_
  replace o2:Lc 8 d9 c9 b9 66 [(.string n2.name),(.int .i64 n2.dur),(.slice r8 n2.start.length s8),(.slice t8 n2.over.length u8),(.slice v8 n2.fin.length w8),(.slice x8 n2.atStart.length y8),(.slice z8 n2.atEnd.length a9)]:=o2
  refine o_z ?_
  refine Ab (Aa (Ak rfl (Ak rfl (Ng rfl rfl ?_))))
  replace p1:=(p1.st a2).st b2
  obtain ⟨xG,yG,zG,aH,bH,cH,dH,eH,c2,iE,d2,g3,h3,i3,j3,r5,e9,k3,m3⟩:=Wtr.opn p1 5 9 10 11 (by decide)
  obtain ⟨f9,g9,rfl⟩:=g3.form
  obtain ⟨h9,i9,rfl⟩:=h3.form
  obtain ⟨j9,k9,rfl⟩:=i3.form
  obtain ⟨l9,m9,rfl⟩:=j3.form
  obtain ⟨fH,gH,rfl⟩:=r5.form
  obtain ⟨n9,o9,rfl⟩:=k3.form
  obtain ⟨p9,q9,rfl⟩:=m3.form
  refine AB rfl (Az (hc:=Blk.cell (i:=4) (d2.1) rfl) rfl ?_)
  refine Ak rfl ?_
  obtain ⟨s5,u4,h1⟩:=bs h1
  obtain ⟨u4,r9,s9⟩:=AO u4
  refine Co rfl (a:=e0.1) r5 (vInt f3) (fun _=>rfl) rfl r9 s9 ⟨rfl,rfl⟩ fun hH t9 u9 iH v9 y0 n3=>?_
  rw [← u4] at n3 ⊢
  refine Ng rfl rfl (AB rfl ?_)
  replace d2:=d2.st y0
  refine AD d2 rfl rfl rfl (AL) (allOne) fun w9 a1 d2=>?_
  replace d2:Lc 5 w9 v9 m0 110 [(.slice f9 e0.2.t.vars.length g9),(.slice h9 e0.2.t.init.length i9),(.slice j9 e0.2.t.goal.length k9),(.slice l9 e0.2.t.jobs.length m9),(.slice t9 s5.length u9),(.int .i64 e0.2.last),(.slice n9 e0.2.left.length o9),(.slice p9 e0.2.out.length q9)]:=d2
  refine o_z ?_
  refine Aa (Ak rfl (AB rfl ?_))
  replace o2:=((o2.st c2).st y0).st a1
  refine Az (hc:=Blk.cell (i:=1) (o2.1) rfl) rfl ?_
  obtain ⟨jH,t5,h1⟩:=bs h1
  have kH:=(AX t5)
  refine Dn (he:=t5) rfl rfl ?_
  obtain ⟨lH,u5,h1⟩:=bs h1
  have x9:=(AX u5)
  refine Dn (he:=u5) rfl rfl ?_
  refine Al rfl (o_z ?_)
  replace g3:=(g3.st y0).st a1
  replace h3:=(h3.st y0).st a1
  replace i3:=(i3.st y0).st a1
  replace j3:=(j3.st y0).st a1
  replace k3:=(k3.st y0).st a1
  replace m3:=(m3.st y0).st a1
  replace n3:=n3.st a1
  obtain ⟨mH,p2,jE,kE,y9⟩:=Wtr.shut (x:=(⟨(⟨e0.2.t.vars,e0.2.t.init,e0.2.t.goal,e0.2.t.jobs⟩:Tpl),s5,e0.2.last,e0.2.left,e0.2.out⟩:Wtr)) (l0:=5) (l1:=9) (l2:=10) (l3:=11) (by decide) d2 g3 h3 i3 j3 n3 e9 k3 m3
  obtain rfl:=sm h1
  exact show Exists _ from ⟨_,(),rfl,⟨rfl,rfl,rfl,rfl,rfl,rfl,rfl,rfl,trivial⟩,_,(((((hB.st a2).st b2).st c2).st y0).st a1).st p2,(((((g0.st a2).st b2).st c2).st y0).st a1).st p2,(((((b0.st a2).st b2).st c2).st y0).st a1).st p2,(((((h8.st a2).st b2).st c2).st y0).st a1).st p2,(((((j0.st a2).st b2).st c2).st y0).st a1).st p2,(((((k0.st a2).st b2).st c2).st y0).st a1).st p2,(((((a0.st a2).st b2).st c2).st y0).st a1).st p2,y9,x9⟩
 replace hB:=(((((((hB.st b3).st v2).st c3).st w2).st x2).st m1).st g1).st e1
 replace g0:=((g0.st m1).st g1).st e1
 replace h8:=h8.st e1
 replace j0:=j0.st e1
 replace k0:=k0.st e1
 replace a0:=a0.st e1
 replace b0:=b0.st e1
 rintro nH oH ⟨pH,qH,rfl,w5,z9,hB,g0,b0,h8,j0,k0,a0,p1,f3⟩
 replace hm:=AP hm
 refine AE _ w5 ?_
 refine Ab (Aa (Ak rfl ?_))
 obtain ⟨n0,aA,hm⟩:=bs hm
 refine BU (O:=z9) (R:=fun w' F v=>Vb w' F v n0) (II Fr.lt g0 aA) rfl fun rH sH bA q1 f0=>?_
 obtain ⟨i1,j1,rfl⟩:=f0.form
 refine Al rfl (o_z ?_)
 refine Ab (Ab (Aa (Ak rfl ?_)))
 obtain ⟨tH,x5,hm⟩:=bs hm
 have y5:=(AX x5)
 refine Dn (he:=x5) rfl rfl ?_
 refine Ak rfl (o_z ?_)
 obtain ⟨y2,e2,hm⟩:=bs hm
 replace e2:=IX e2
 obtain ⟨w4,z5,hm⟩:=bs hm
 refine Au (aft w4 (fun (u2:Wtr) (o3:Unit)=>[(9,(.pointer (some ⟨m0,0,none⟩)))]) (fun u2 o3 w'=>∃ O':Lab,Bs w A w' O'∧Ob 5 w' O' (.pointer (some ⟨m0,0,none⟩)) u2)) ?_ ?_
 ·
  refine AJ ?_
  replace hB:=hB.st q1
  replace g0:=g0.st q1
  replace h8:=h8.st q1
  replace j0:=j0.st q1
  replace k0:=k0.st q1
  replace a0:=a0.st q1
  replace b0:=b0.st q1
  replace p1:=p1.st q1
  refine GY (σ:=Wtr) (X:=Unit) y2 z5 (Hl e2 y5) (fun (u2:Wtr) (o3:Unit)=>[(1,(.slice s2 x1.length t2)),(2,(.pointer (some ⟨m2,0,none⟩))),(6,(.int .i64 j4.1)),(9,(.pointer (some ⟨m0,0,none⟩))),(13,(.slice i1 n0.length j1))]) _ (fun u2 o3 w'=>∃ O':Lab,Bs w A w' O'∧Vb w' (Fr 0 w' O') (.slice s2 x1.length t2) x1∧Lc 2 w' O' m2 26 [(.slice A9 x0.vars.length u1),(.slice v1 x0.init.length w1),(.slice y1 x0.goal.length z1),(.slice n1 x0.jobs.length o1)]∧Vb w' (Fr 0 w' O') (.slice A9 x0.vars.length u1) x0.vars∧Vb w' (Fr 0 w' O') (.slice v1 x0.init.length w1) x0.init∧Vb w' (Fr 0 w' O') (.slice y1 x0.goal.length z1) x0.goal∧Vb w' (Fr 0 w' O') (.slice n1 x0.jobs.length o1) x0.jobs∧Ob 5 w' O' (.pointer (some ⟨m0,0,none⟩)) u2∧Vb w' (Fr 0 w' O') (.slice i1 n0.length j1) n0) _ () ⟨bA,hB,g0,b0,h8,j0,k0,a0,p1,f0⟩ ⟨rfl,(congrArg (fun z=>some (Value.int .i64 z)) e2),rfl,rfl,rfl,rfl,rfl,trivial⟩ (fun _ _=>⟨rfl,rfl⟩) (fun _ _=>⟨rfl,trivial⟩) (fun _ _ _ ⟨O',hB,g0,b0,h8,j0,k0,a0,z2,f0⟩=>⟨O',hB,z2⟩) ⟨rfl,rfl,rfl⟩ ⟨rfl,rfl⟩ ?_
  rintro r1 u2 o3 uH lE a6 ⟨cA,hB,g0,b0,h8,j0,k0,a0,z2,f0⟩ c0 i7 j7
  have rk277:inI64 (r1:Int):=rngKN a6 (Hl e2 y5)
  refine Ab (Aa (Ak rfl (Al rfl (o_z ?_))))
  refine Ab (Ab (Aa (AB rfl (Az (hc:=Blk.cell (i:=3) (b0.1) rfl) rfl ?_))))
  refine AR rfl ?_
  have x4:x0.jobs.length≤9223372036854775807:=Nat.le_trans a0.len.2.1 a0.len.2.2
  have vH:inI64 (x0.jobs.length:Int):=rngNat x4
  refine Ak rfl (o_z ?_)
  obtain ⟨y4,b6,c0⟩:=bs c0
  refine Au (aft y4 (fun (o0:Wtr) (p3:Unit)=>[(1,(.slice s2 x1.length t2)),(2,(.pointer (some ⟨m2,0,none⟩))),(6,(.int .i64 j4.1)),(9,(.pointer (some ⟨m0,0,none⟩))),(13,(.slice i1 n0.length j1)),(14,(.int .i64 (r1:Int))),(90,(.int .i64 (y2:Int))),(91,(.int .i64 (r1:Int)))]) (fun o0 p3 w'=>∃ O':Lab,Bs w A w' O'∧Vb w' (Fr 0 w' O') (.slice s2 x1.length t2) x1∧Lc 2 w' O' m2 26 [(.slice A9 x0.vars.length u1),(.slice v1 x0.init.length w1),(.slice y1 x0.goal.length z1),(.slice n1 x0.jobs.length o1)]∧Vb w' (Fr 0 w' O') (.slice A9 x0.vars.length u1) x0.vars∧Vb w' (Fr 0 w' O') (.slice v1 x0.init.length w1) x0.init∧Vb w' (Fr 0 w' O') (.slice y1 x0.goal.length z1) x0.goal∧Vb w' (Fr 0 w' O') (.slice n1 x0.jobs.length o1) x0.jobs∧Ob 5 w' O' (.pointer (some ⟨m0,0,none⟩)) o0∧Vb w' (Fr 0 w' O') (.slice i1 n0.length j1) n0)) ?_ ?_
  ·
   refine AJ (Bh (σ:=Wtr) (X:=Unit) (x0.jobs.length) b6 rfl x4 (fun (o0:Wtr) (p3:Unit)=>[(1,(.slice s2 x1.length t2)),(2,(.pointer (some ⟨m2,0,none⟩))),(6,(.int .i64 j4.1)),(9,(.pointer (some ⟨m0,0,none⟩))),(13,(.slice i1 n0.length j1)),(14,(.int .i64 (r1:Int))),(90,(.int .i64 (y2:Int))),(91,(.int .i64 (r1:Int))),(95,(.slice n1 x0.jobs.length o1))]) _ (fun o0 p3 w'=>∃ O':Lab,Bs w A w' O'∧Vb w' (Fr 0 w' O') (.slice s2 x1.length t2) x1∧Lc 2 w' O' m2 26 [(.slice A9 x0.vars.length u1),(.slice v1 x0.init.length w1),(.slice y1 x0.goal.length z1),(.slice n1 x0.jobs.length o1)]∧Vb w' (Fr 0 w' O') (.slice A9 x0.vars.length u1) x0.vars∧Vb w' (Fr 0 w' O') (.slice v1 x0.init.length w1) x0.init∧Vb w' (Fr 0 w' O') (.slice y1 x0.goal.length z1) x0.goal∧Vb w' (Fr 0 w' O') (.slice n1 x0.jobs.length o1) x0.jobs∧Ob 5 w' O' (.pointer (some ⟨m0,0,none⟩)) o0∧Vb w' (Fr 0 w' O') (.slice i1 n0.length j1) n0) _ () ⟨cA,hB,g0,b0,h8,j0,k0,a0,z2,f0⟩ ⟨rfl,rfl,rfl,rfl,rfl,rfl,rfl,rfl,rfl,rfl,rfl,trivial⟩ (fun _ _=>⟨rfl,rfl⟩) (fun _ _=>⟨rfl,rfl,rfl,rfl,rfl,rfl,rfl,rfl,trivial⟩) (fun _ _ _ ⟨O',hB,g0,b0,h8,j0,k0,a0,f2,f0⟩=>⟨O',hB,g0,b0,h8,j0,k0,a0,f2,f0⟩) ⟨rfl,rfl,rfl⟩ ⟨rfl,rfl⟩ ?_)
   rintro z4 q2 o0 p3 wH mE l4 ⟨dA,hB,g0,b0,h8,j0,k0,a0,f2,f0⟩ d0 k7 l7
   have rk296:inI64 (z4:Int):=rngK l4 x4
   refine Ab (Aa (Ak rfl ?_))
   obtain ⟨xH,yH,nE,c6,d6,e6,zH,aI,bI,cI,dI,rfl,eA,fA,gA,iA,jA,eI,fI⟩:=a0.elem' l4
   obtain ⟨kA,lA,rfl⟩:=eA.form
   obtain ⟨mA,nA,rfl⟩:=fA.form
   obtain ⟨oA,pA,rfl⟩:=gA.form
   obtain ⟨qA,rA,rfl⟩:=iA.form
   obtain ⟨sA,tA,rfl⟩:=jA.form
   refine Bv (hA:=c6) (hj:=rfl) (hlt:=d6) rfl rfl ?_
   refine Bg (hl:=rfl) (hc:=e6) rfl ?_
   refine AT 12 dA fun uA gI q3 t0 a3=>?_
   refine Al rfl (AD a3 rfl rfl rfl (AL) (allOne) fun r3 u0 a3=>?_)
   replace a3:Lc 12 r3 q3 uA 66 [(.string q2.name),(.int .i64 q2.dur),(.slice kA q2.start.length lA),(.slice mA q2.over.length nA),(.slice oA q2.fin.length pA),(.slice qA q2.atStart.length rA),(.slice sA q2.atEnd.length tA)]:=a3
   refine o_z ?_
   refine Ab (Aa (Ak rfl (Ak rfl (AB rfl (Az (hc:=Blk.cell (i:=1) (a3.1) rfl) rfl ?_)))))
   obtain ⟨f6,g6,d0⟩:=bs d0
   have vA:=(AX g6)
   refine IY (he:=g6) rfl rfl ?_
   refine Ak rfl (Eh rfl rfl ?_)
   obtain ⟨h6,wA,d0⟩:=bs d0
   replace g0:=(g0.st t0).st u0
   refine AG (O:=q3) (A:=All r3) (R:=fun w' F v=>Vb w' F v h6) (FT (fun _ h=>h) (Vb.mono (F:=Fr 0 r3 q3) g0 Fr.lt) (Vb.mono (F:=Fr 0 r3 q3) (Vb.ofAgg (cs:=[(.int .i64 f6),(.int .i64 (z4:Int))]) (x:=(⟨f6,(z4:Int)⟩:Lch)) rfl ⟨rfl,vA,rk296⟩) Fr.lt) wA) rfl fun hI iI jI p0 xA=>?_
   obtain rfl:=xA.bool
   cases h6
   case false =>
    replace d0:=iF d0
    refine o_z ?_
    refine Ah rfl (AK ?_)
    obtain rfl:=sm d0
    exact show Exists _ from ⟨_,(),rfl,⟨rfl,rfl,rfl,rfl,rfl,rfl,rfl,rfl,rfl,rfl,rfl,trivial⟩,_,((hB.st t0).st u0).st p0,g0.st p0,((b0.st t0).st u0).st p0,((h8.st t0).st u0).st p0,((j0.st t0).st u0).st p0,((k0.st t0).st u0).st p0,((a0.st t0).st u0).st p0,((f2.st t0).st u0).st p0,((f0.st t0).st u0).st p0⟩
   replace d0:=iT d0
   refine o_z ?_
   refine Aj rfl (Aa (Ak rfl (Ak rfl (Ng rfl rfl ?_))))
   replace f2:=((f2.st t0).st u0).st p0
   obtain ⟨kI,lI,mI,nI,oI,pI,qI,rI,g2,oE,h2,s3,t3,u3,v3,w3,yA,x3,i6⟩:=Wtr.opn f2 5 9 10 11 (by decide)
   obtain ⟨zA,aB,rfl⟩:=s3.form
   obtain ⟨bB,cB,rfl⟩:=t3.form
   obtain ⟨dB,eB,rfl⟩:=u3.form
   obtain ⟨fB,gB,rfl⟩:=v3.form
   obtain ⟨iB,jB,rfl⟩:=w3.form
   obtain ⟨kB,lB,rfl⟩:=x3.form
   obtain ⟨sI,tI,rfl⟩:=i6.form
   refine AB rfl (Az (hc:=Blk.cell (i:=7) (h2.1) rfl) rfl ?_)
   refine Ak rfl ?_
   obtain ⟨uI,j6,d0⟩:=bs d0
   have vI:=(AX j6)
   refine GU (he:=j6) rfl rfl ?_
   obtain ⟨mB,k6,d0⟩:=bs d0
   have nB:=(AX k6)
   refine Dn (he:=k6) rfl rfl ?_
   obtain ⟨l6,a5,d0⟩:=bs d0
   obtain ⟨a5,oB,pB⟩:=AO a5
   refine Co rfl (a:=mB) i6 (vInt nB) (fun _=>rfl) rfl oB pB ⟨rfl,rfl⟩ fun wI qB rB xI sB b1 y3=>?_
   rw [← a5] at y3 ⊢
   refine Ng rfl rfl (AB rfl ?_)
   replace h2:=h2.st b1
   refine AD h2 rfl rfl rfl (AL) (allOne) fun tB c1 h2=>?_
   replace h2:Lc 5 tB sB m0 110 [(.slice zA o0.t.vars.length aB),(.slice bB o0.t.init.length cB),(.slice dB o0.t.goal.length eB),(.slice fB o0.t.jobs.length gB),(.slice iB o0.first.length jB),(.int .i64 o0.last),(.slice kB o0.left.length lB),(.slice qB l6.length rB)]:=h2
   refine o_z ?_
   replace s3:=(s3.st b1).st c1
   replace t3:=(t3.st b1).st c1
   replace u3:=(u3.st b1).st c1
   replace v3:=(v3.st b1).st c1
   replace w3:=(w3.st b1).st c1
   replace x3:=(x3.st b1).st c1
   replace y3:=y3.st c1
   obtain ⟨yI,i2,pE,qE,uB⟩:=Wtr.shut (x:=(⟨(⟨o0.t.vars,o0.t.init,o0.t.goal,o0.t.jobs⟩:Tpl),o0.first,o0.last,o0.left,l6⟩:Wtr)) (l0:=5) (l1:=9) (l2:=10) (l3:=11) (by decide) h2 s3 t3 u3 v3 w3 yA x3 y3
   obtain rfl:=sm d0
   exact show Exists _ from ⟨_,(),rfl,⟨rfl,rfl,rfl,rfl,rfl,rfl,rfl,rfl,rfl,rfl,rfl,trivial⟩,_,((((((hB.st t0).st u0).st p0).st g2).st b1).st c1).st i2,((((g0.st p0).st g2).st b1).st c1).st i2,((((((b0.st t0).st u0).st p0).st g2).st b1).st c1).st i2,((((((h8.st t0).st u0).st p0).st g2).st b1).st c1).st i2,((((((j0.st t0).st u0).st p0).st g2).st b1).st c1).st i2,((((((k0.st t0).st u0).st p0).st g2).st b1).st c1).st i2,((((((a0.st t0).st u0).st p0).st g2).st b1).st c1).st i2,uB,((((((f0.st t0).st u0).st p0).st g2).st b1).st c1).st i2⟩
  rintro zI aJ ⟨bJ,cJ,rfl,m6,vB,hB,g0,b0,h8,j0,k0,a0,f2,f0⟩
  replace c0:=AP c0
  refine AE _ m6 ?_
  refine Ab (Ab (Aa (Ak rfl (AR rfl ?_))))
  have b5:n0.length≤9223372036854775807:=Nat.le_trans f0.len.2.1 f0.len.2.2
  have dJ:inI64 (n0.length:Int):=rngNat b5
  refine Ak rfl (o_z ?_)
  obtain ⟨c5,n6,c0⟩:=bs c0
  refine Au (aft c5 (fun (h0:Wtr) (z3:Unit)=>[(1,(.slice s2 x1.length t2)),(2,(.pointer (some ⟨m2,0,none⟩))),(6,(.int .i64 j4.1)),(9,(.pointer (some ⟨m0,0,none⟩))),(13,(.slice i1 n0.length j1)),(14,(.int .i64 (r1:Int))),(90,(.int .i64 (y2:Int))),(91,(.int .i64 (r1:Int)))]) (fun h0 z3 w'=>∃ O':Lab,Bs w A w' O'∧Vb w' (Fr 0 w' O') (.slice s2 x1.length t2) x1∧Lc 2 w' O' m2 26 [(.slice A9 x0.vars.length u1),(.slice v1 x0.init.length w1),(.slice y1 x0.goal.length z1),(.slice n1 x0.jobs.length o1)]∧Vb w' (Fr 0 w' O') (.slice A9 x0.vars.length u1) x0.vars∧Vb w' (Fr 0 w' O') (.slice v1 x0.init.length w1) x0.init∧Vb w' (Fr 0 w' O') (.slice y1 x0.goal.length z1) x0.goal∧Vb w' (Fr 0 w' O') (.slice n1 x0.jobs.length o1) x0.jobs∧Ob 5 w' O' (.pointer (some ⟨m0,0,none⟩)) h0∧Vb w' (Fr 0 w' O') (.slice i1 n0.length j1) n0)) ?_ ?_
  ·
   refine AJ (Bh (σ:=Wtr) (X:=Unit) (n0.length) n6 rfl b5 (fun (h0:Wtr) (z3:Unit)=>[(1,(.slice s2 x1.length t2)),(2,(.pointer (some ⟨m2,0,none⟩))),(6,(.int .i64 j4.1)),(9,(.pointer (some ⟨m0,0,none⟩))),(13,(.slice i1 n0.length j1)),(14,(.int .i64 (r1:Int))),(90,(.int .i64 (y2:Int))),(91,(.int .i64 (r1:Int))),(123,(.slice i1 n0.length j1))]) _ (fun h0 z3 w'=>∃ O':Lab,Bs w A w' O'∧Vb w' (Fr 0 w' O') (.slice s2 x1.length t2) x1∧Lc 2 w' O' m2 26 [(.slice A9 x0.vars.length u1),(.slice v1 x0.init.length w1),(.slice y1 x0.goal.length z1),(.slice n1 x0.jobs.length o1)]∧Vb w' (Fr 0 w' O') (.slice A9 x0.vars.length u1) x0.vars∧Vb w' (Fr 0 w' O') (.slice v1 x0.init.length w1) x0.init∧Vb w' (Fr 0 w' O') (.slice y1 x0.goal.length z1) x0.goal∧Vb w' (Fr 0 w' O') (.slice n1 x0.jobs.length o1) x0.jobs∧Ob 5 w' O' (.pointer (some ⟨m0,0,none⟩)) h0∧Vb w' (Fr 0 w' O') (.slice i1 n0.length j1) n0) _ () ⟨vB,hB,g0,b0,h8,j0,k0,a0,f2,f0⟩ ⟨rfl,rfl,rfl,rfl,rfl,rfl,rfl,rfl,rfl,rfl,rfl,trivial⟩ (fun _ _=>⟨rfl,rfl⟩) (fun _ _=>⟨rfl,rfl,rfl,rfl,rfl,rfl,rfl,rfl,trivial⟩) (fun _ _ _ ⟨O',hB,g0,b0,h8,j0,k0,a0,s1,f0⟩=>⟨O',hB,g0,b0,h8,j0,k0,a0,s1,f0⟩) ⟨rfl,rfl,rfl⟩ ⟨rfl,rfl⟩ ?_)
   rintro wB a4 h0 z3 eJ rE m4 ⟨xB,hB,g0,b0,h8,j0,k0,a0,s1,f0⟩ i0 m7 n7
   have rk428:inI64 (wB:Int):=rngK m4 b5
   refine Ab (Aa ?_)
   obtain ⟨fJ,gJ,sE,o6,p6,q6,rfl,hJ,iJ⟩:=f0.elem' m4
   refine Bv (hA:=o6) (hj:=rfl) (hlt:=p6) rfl rfl ?_
   refine Bg (hl:=rfl) (hc:=q6) rfl ?_
   refine AT 13 xB fun yB jJ zB q0 f1=>?_
   refine AD f1 rfl rfl rfl (AL) (allOne) fun aC r0 f1=>?_
   replace f1:Lc 13 aC zB yB 52 [(.int .i64 a4.tm),(.int .i64 a4.job)]:=f1
   refine o_z ?_
   refine Ab (Aa (AB rfl (Az (hc:=Blk.cell (i:=0) (f1.1) rfl) rfl ?_)))
   refine Ak rfl (EZ rfl rfl (fun d5=>?_) fun d5=>?_)
   ·
    replace i0:=ip i0 d5
    refine o_z ?_
    refine Aj rfl (Ab ?_)
    replace s1:=(s1.st q0).st r0
    obtain ⟨r6,kJ,lJ,mJ,nJ,oJ,pJ,qJ,t1,tE,k1,b4,c4,d4,e4,f4,bC,r2,g4⟩:=Wtr.opn s1 5 9 10 11 (by decide)
    obtain ⟨cC,dC,rfl⟩:=b4.form
    obtain ⟨eC,fC,rfl⟩:=c4.form
    obtain ⟨gC,hC,rfl⟩:=d4.form
    obtain ⟨iC,jC,rfl⟩:=e4.form
    obtain ⟨kC,lC,rfl⟩:=f4.form
    obtain ⟨mC,nC,rfl⟩:=r2.form
    obtain ⟨rJ,sJ,rfl⟩:=g4.form
    refine BP [(9,[11])] r6 ?_
    refine AM (fuel:=6) [] [(1,true),(2,true),(3,true),(4,true),(5,true),(6,true),(7,true)] rfl ?_
    refine Bp rfl rfl (GX rfl rfl (Bo rfl rfl (BK (hc:=fun w' ⟨O',hq⟩=>Blk.cell (i:=7) ((k1.st hq (by decide)).1) rfl) rfl rfl ?_)))
    refine Bo rfl rfl ?_
    replace f1:=f1.st t1
    refine BK (hc:=fun w' ⟨O',hq⟩=>Blk.cell (i:=1) ((f1.st hq (by decide)).1) rfl) rfl rfl ?_
    obtain ⟨oC,s6,i0⟩:=bs i0
    have pC:=(AX s6)
    refine Tk (he:=s6) rfl rfl rfl rfl ?_
    refine Ay ?_
    refine AM (fuel:=5) [11] [(0,true)] rfl ?_
    refine Bp rfl rfl (Ay ?_)
    refine Ax (i:=8) rfl ?_
    refine AN 14 (by decide) r6 (xs:=(([oC]:List Int):List Int)) rfl rfl rfl ⟨(vInt pC),trivial⟩ (by decide) (by decide) rfl fun tJ uJ vJ s0 qC=>?_
    have hZ:=s0.lst [] (fun _ h=>h.elim)
    refine AF [(9,[11])] hZ ?_
    refine Ax (i:=9) rfl ?_
    obtain ⟨t6,e5,i0⟩:=bs i0
    obtain ⟨e5,rC,sC⟩:=AO e5
    replace g4:=g4.st s0
    refine BE rfl g4 (qC.rd) rfl rfl (by decide) rC sC rfl fun tC uC wJ u6 v0 h4=>?_
    rw [← e5] at h4 ⊢
    have hZ:=v0.lst [11] (fun _ h=>by cases h;decide)
    refine AF [] hZ ?_
    refine AM (fuel:=1) [] [(10,true),(11,true)] rfl ?_
    refine GX rfl rfl (Bo rfl rfl (Ay ?_))
    refine Ax (i:=12) rfl ?_
    replace k1:=(k1.st s0).st v0
    refine AD k1 rfl rfl rfl (AL) (allOne) fun vC w0 k1=>?_
    replace k1:Lc 5 vC u6 m0 110 [(.slice cC h0.t.vars.length dC),(.slice eC h0.t.init.length fC),(.slice gC h0.t.goal.length hC),(.slice iC h0.t.jobs.length jC),(.slice kC h0.first.length lC),(.int .i64 h0.last),(.slice mC h0.left.length nC),(.slice tC t6.length uC)]:=k1
    refine BL ?_
    refine BG ?_
    refine BP [] u6 ?_
    refine AM (fuel:=1) [] [(0,true),(1,true),(2,true),(3,true),(4,true),(5,true),(6,true),(7,true),(8,true),(9,true),(10,true),(11,true),(12,true),(13,true)] rfl ?_
    refine Bp rfl rfl (GX rfl rfl (Bo rfl rfl (BK (hc:=fun w' ⟨O',hq⟩=>Blk.cell (i:=6) ((k1.st hq (by decide)).1) rfl) rfl rfl ?_)))
    refine Bo rfl rfl ?_
    replace f1:=((f1.st s0).st v0).st w0
    refine BK (hc:=fun w' ⟨O',hq⟩=>Blk.cell (i:=1) ((f1.st hq (by decide)).1) rfl) rfl rfl ?_
    refine Bo rfl rfl ?_
    replace b0:=(((((b0.st q0).st r0).st t1).st s0).st v0).st w0
    refine BK (hc:=fun w' ⟨O',hq⟩=>Blk.cell (i:=3) ((b0.st hq (by decide)).1) rfl) rfl rfl ?_
    refine Bo rfl rfl (BK (hc:=fun w' ⟨O',hq⟩=>Blk.cell (i:=1) ((f1.st hq (by decide)).1) rfl) rfl rfl ?_)
    obtain ⟨f5,wC,i0⟩:=bs i0
    obtain ⟨xC,yC⟩:=BO wC
    replace a0:=(((((a0.st q0).st r0).st t1).st s0).st v0).st w0
    obtain ⟨xJ,yJ,uE,w6,x6,y6,z6,zJ,aK,bK,cK,dK,rfl,zC,aD,bD,cD,dD,eK,eD⟩:=a0.elem yC
    obtain ⟨fK,gK,rfl⟩:=zC.form
    obtain ⟨hK,iK,rfl⟩:=aD.form
    obtain ⟨jK,kK,rfl⟩:=bD.form
    obtain ⟨lK,mK,rfl⟩:=cD.form
    obtain ⟨nK,oK,rfl⟩:=dD.form
    refine EF (hA:=w6) (hj:=(Int.toNat_of_nonneg xC).symm) (hlt:=y6) rfl rfl rfl ?_
    refine Bo rfl rfl (BK (hc:=fun w' ⟨O',hq⟩=>cat1 (CK (hq.agree (i:=0) (by decide)) x6 z6)) rfl rfl ?_)
    obtain ⟨pK,fD,i0⟩:=bs i0
    obtain ⟨gD,a7⟩:=BO fD
    replace r2:=((r2.st s0).st v0).st w0
    obtain ⟨qK,rK,vE,n4,wE,b7,xE,rfl,sK⟩:=r2.elemF a7
    refine EF (hA:=n4) (hj:=(Int.toNat_of_nonneg gD).symm) (hlt:=b7) rfl rfl rfl ?_
    refine Ay ?_
    refine Ax (i:=14) rfl ?_
    refine IA rfl r2 (a:=f5.dur) (vInt eD) n4 rfl rfl (Bl a7) fun tK d1 r2=>?_
    refine BL ?_
    refine BG ?_
    replace k1:=k1.st d1
    replace b4:=(((b4.st s0).st v0).st w0).st d1
    replace c4:=(((c4.st s0).st v0).st w0).st d1
    replace d4:=(((d4.st s0).st v0).st w0).st d1
    replace e4:=(((e4.st s0).st v0).st w0).st d1
    replace f4:=(((f4.st s0).st v0).st w0).st d1
    replace h4:=(h4.st w0).st d1
    obtain ⟨uK,j2,yE,zE,hD⟩:=Wtr.shut (x:=(⟨(⟨h0.t.vars,h0.t.init,h0.t.goal,h0.t.jobs⟩:Tpl),h0.first,h0.last,(h0.left.set (a4.job:Int).toNat f5.dur),t6⟩:Wtr)) (l0:=5) (l1:=9) (l2:=10) (l3:=11) (by decide) (by have q:=k1;rw [← ((by simp:(h0.left.set (a4.job:Int).toNat f5.dur).length=h0.left.length).trans rfl)] at q;exact q) b4 c4 d4 e4 f4 bC r2.relen h4
    obtain rfl:=sm i0
    exact show Exists _ from ⟨_,(),rfl,⟨rfl,rfl,rfl,rfl,rfl,rfl,rfl,rfl,rfl,rfl,rfl,trivial⟩,_,(((((((hB.st q0).st r0).st t1).st s0).st v0).st w0).st d1).st j2,(((((((g0.st q0).st r0).st t1).st s0).st v0).st w0).st d1).st j2,(b0.st d1).st j2,(((((((h8.st q0).st r0).st t1).st s0).st v0).st w0).st d1).st j2,(((((((j0.st q0).st r0).st t1).st s0).st v0).st w0).st d1).st j2,(((((((k0.st q0).st r0).st t1).st s0).st v0).st w0).st d1).st j2,(a0.st d1).st j2,hD,(((((((f0.st q0).st r0).st t1).st s0).st v0).st w0).st d1).st j2⟩
   replace i0:=im i0 d5
   refine o_z ?_
   refine Ah rfl (AK ?_)
   obtain rfl:=sm i0
   exact show Exists _ from ⟨_,(),rfl,⟨rfl,rfl,rfl,rfl,rfl,rfl,rfl,rfl,rfl,rfl,rfl,trivial⟩,_,(hB.st q0).st r0,(g0.st q0).st r0,(b0.st q0).st r0,(h8.st q0).st r0,(j0.st q0).st r0,(k0.st q0).st r0,(a0.st q0).st r0,(s1.st q0).st r0,(f0.st q0).st r0⟩
  rintro vK wK ⟨xK,yK,rfl,c7,iD,hB,g0,b0,h8,j0,k0,a0,s1,f0⟩
  replace c0:=AP c0
  refine AE _ c7 ?_
  refine Ab (Aa (Ak rfl (Ak rfl (Ep rfl rfl (fun g5=>?_) fun g5=>?_))))
  ·
   replace c0:=ip c0 g5
   refine o_z ?_
   refine Aj rfl (Aa (Ak rfl ?_))
   obtain ⟨zK,jD,c0⟩:=bs c0
   refine Nn (O:=iD) (JI s1 jD) rfl rfl fun aL bL cL k2 kD=>?_
   refine o_z ?_
   obtain rfl:=sm c0
   exact show Exists _ from ⟨_,(),rfl,⟨rfl,rfl,rfl,rfl,rfl,rfl,rfl,trivial⟩,_,hB.st k2,g0.st k2,b0.st k2,h8.st k2,j0.st k2,k0.st k2,a0.st k2,kD,f0.st k2⟩
  replace c0:=im c0 g5
  refine o_z ?_
  refine Ah rfl (AK ?_)
  obtain rfl:=sm c0
  exact show Exists _ from ⟨_,(),rfl,⟨rfl,rfl,rfl,rfl,rfl,rfl,rfl,trivial⟩,_,hB,g0,b0,h8,j0,k0,a0,s1,f0⟩
 replace hB:=hB.st q1
 rintro dL lD ⟨eL,fL,rfl,d7,gL,hB,z2⟩
 replace hm:=AP hm
 refine AE _ d7 ?_
 refine Ab (Aa (Ak rfl (Ng rfl rfl ?_)))
 obtain ⟨hL,iL,jL,kL,lL,mL,nL,oL,mD,aF,nD,oD,pD,qD,rD,sD,pL,tD,i4⟩:=Wtr.opn z2 5 9 10 11 (by decide)
 obtain ⟨qL,rL,rfl⟩:=oD.form
 obtain ⟨sL,tL,rfl⟩:=pD.form
 obtain ⟨uL,vL,rfl⟩:=qD.form
 obtain ⟨wL,xL,rfl⟩:=rD.form
 obtain ⟨yL,zL,rfl⟩:=sD.form
 obtain ⟨aM,bM,rfl⟩:=tD.form
 obtain ⟨cM,dM,rfl⟩:=i4.form
 refine AB rfl (Az (hc:=Blk.cell (i:=7) (nD.1) rfl) rfl ?_)
 refine Al rfl (Al rfl (o_z ?_))
 refine AC ?_
 obtain ⟨uD,vD,i4⟩:=i4.freeze
 obtain rfl:=sm hm
 replace hB:=(hB.st mD).st vD
 exact ret2 rfl (At rfl) (At rfl) ⟨hB.ext,_,_,rfl,(Vb.mono (F:=Fr 0 lD uD) i4 hB.out),(vErr (show inI64 0 from by decide))⟩
end
section
open Go Go.RowKit
attribute [local irreducible] ewp owp hwp hwq Ev Evg Fn retPost Res1
attribute [local irreducible] hwx loudX
noncomputable def FA (x0:List Lch):Option (List Lch) :=
  bnd (appI 16 ([]:List Lch) x0) fun u10=>bnd (rngN (ρ:=(List Lch)) (fun (k27:Nat) (s25:(List Lch))=>bnd (lop (ρ:=Ctl (List Lch) (List Lch)) (fun (s48:(List Lch)×Int)=>bnd (if 0 < s48.2 then (bnd (atI s48.1 s48.2) fun a72=>bnd (chkI (s48.2 - 1)) fun n85=>bnd (atI s48.1 n85) fun a88=>if a72.tm < a88.tm then (some true) else (bnd (atI s48.1 s48.2) fun a102=>bnd (chkI (s48.2 - 1)) fun n115=>bnd (atI s48.1 n115) fun a118=>if a102.tm=a118.tm then (bnd (atI s48.1 s48.2) fun a132=>bnd (chkI (s48.2 - 1)) fun n145=>bnd (atI s48.1 n145) fun a148=>if a132.job < a148.job then (some true) else (some false)) else (some false))) else (some false):Option Bool) fun y67=>if y67=true then (bnd (chkI (s48.2 - 1)) fun n167=>bnd (atI s48.1 n167) fun a170=>bnd (atI s48.1 s48.2) fun a183=>bnd (atI s48.1 s48.2) fun a196=>bnd (chkI (s48.2 - 1)) fun n209=>bnd (atI (s48.1.set (s48.2:Int).toNat a170) n209) fun a214=>bnd (chkI (s48.2 - 1)) fun n229=>some (.next (((s48.1.set (s48.2:Int).toNat a170).set (n209:Int).toNat a183),n229))) else (some (.brk (s48.1,s48.2)))) (s25,(k27:Int))) fun res46=>fin res46 fun (s236:(List Lch)×Int)=>some (.next s236.1)) u10.length u10) fun res23=>fin res23 fun (s242:(List Lch))=>some s242
theorem Nw {w:World} {A:Nat→Prop} (hA:∀ k,A k→k < w.heap.size) {vx0:Value} {x0:List Lch} (t0:Vb w A vx0 x0) {r:(List Lch)} (hm:FA x0=some r) :
    Fn Tryz.prog 28 [vx0] w fun v w'=>Ext w w'∧Vb w' (upA A w w') v r:=by
 obtain ⟨O,hB,u4⟩:=enter hA
 replace t0:=t0.mono u4
 obtain ⟨A2,c3,rfl⟩:=t0.form
 refine AH Tryz.func28 rfl Tryz.ntmps28 ?_
 unfold FA at hm
 refine Ab (Aa (Al rfl (o_z ?_)))
 refine Ab (Aa (AN 2 (by decide) O (xs:=(([]:List Lch):List Lch)) rfl rfl rfl trivial (by decide) (by decide) rfl fun g4 w5 O6 S7 h8=>?_))
 refine Ak rfl ?_
 obtain ⟨d0,i2,hm⟩:=bs hm
 obtain ⟨i2,v4,w4⟩:=AO i2
 replace t0:=t0.st S7
 refine BE rfl h8 (t0.rd) rfl rfl (by decide) v4 w4 rfl fun h0 i0 s7 x4 e4 e2=>?_
 rw [← i2] at e2 ⊢
 refine Al rfl (o_z ?_)
 refine Ab (Ab (Aa (Ak rfl (AR rfl ?_))))
 have j2:d0.length≤9223372036854775807:=Nat.le_trans e2.len.2.1 e2.len.2.2
 have t7:inI64 (d0.length:Int):=rngNat j2
 refine Ak rfl (o_z ?_)
 obtain ⟨v0,k2,hm⟩:=bs hm
 refine Au (aft v0 (fun (u0:(List Lch)) (f2:Unit)=>[(3,(.slice h0 d0.length i0))]) (fun u0 f2 w'=>∃ O':Lab,Bs w A w' O'∧Rw 2 w' O' 52 (.slice h0 d0.length i0) u0)) ?_ ?_
 ·
  refine AJ ?_
  replace hB:=(hB.st S7).st e4
  refine GY (σ:=(List Lch)) (X:=Unit) (d0.length) k2 j2 (fun (u0:(List Lch)) (f2:Unit)=>[(3,(.slice h0 d0.length i0))]) _ (fun u0 f2 w'=>∃ O':Lab,Bs w A w' O'∧Rw 2 w' O' 52 (.slice h0 d0.length i0) u0) _ () ⟨x4,hB,e2⟩ ⟨rfl,rfl,rfl,trivial⟩ (fun _ _=>⟨rfl,rfl⟩) (fun _ _=>⟨rfl,trivial⟩) (fun _ _ _ ⟨O',hB,n0⟩=>⟨O',hB,n0⟩) ⟨rfl,rfl,rfl⟩ ⟨rfl,rfl⟩ ?_
  rintro g2 u0 f2 u7 y4 l2 ⟨z4,hB,n0⟩ e0 m2 n2
  have rk27:inI64 (g2:Int):=rngKN l2 j2
  refine Ab (Aa (Ak rfl (Al rfl (o_z ?_))))
  refine Ab (Aa (Ak rfl (Al rfl (o_z ?_))))
  obtain ⟨w0,o2,e0⟩:=bs e0
  refine Au (aft w0 (fun (f0:(List Lch)×Int) (h2:Unit)=>[(3,(.slice h0 d0.length i0)),(10,(.int .i64 (d0.length:Int))),(11,(.int .i64 (g2:Int)))]) (fun f0 h2 w'=>∃ O':Lab,Bs w A w' O'∧Rw 2 w' O' 52 (.slice h0 d0.length i0) f0.1∧inI64 f0.2)) ?_ ?_
  ·
   refine AJ (PK (σ:=(List Lch)×Int) (X:=Unit) o2 (fun (f0:(List Lch)×Int) (h2:Unit)=>[(3,(.slice h0 d0.length i0)),(5,(.int .i64 f0.2)),(10,(.int .i64 (d0.length:Int))),(11,(.int .i64 (g2:Int)))]) _ (fun f0 h2 w'=>∃ O':Lab,Bs w A w' O'∧Rw 2 w' O' 52 (.slice h0 d0.length i0) f0.1∧inI64 f0.2) _ () ⟨z4,hB,n0,rk27⟩ ⟨rfl,rfl,rfl,rfl,trivial⟩ ?_)
   rintro f0 h2 a5 b5 ⟨v7,hB,c0,f4⟩ b0 p2 o0
   refine Ab (Ab ?_)
   obtain ⟨c5,a0,b0⟩:=bs b0
   refine Au (fun l' w'=>∃ (d5:Unit) (O':Lab),subs l' [(3,(.slice h0 d0.length i0)),(5,(.int .i64 f0.2)),(10,(.int .i64 (d0.length:Int))),(11,(.int .i64 (g2:Int))),(58,(.bool c5))]∧Bs w A w' O'∧Rw 2 w' O' 52 (.slice h0 d0.length i0) f0.1) ?_ ?_
   ·
    refine Fl (·=a5) [(0,true),(1,true),(2,true),(3,true),(4,true),(5,true),(6,true),(7,true),(8,true),(9,true),(10,true),(11,true),(12,true),(13,true),(14,true),(15,true),(16,true),(17,true),(18,true),(19,true),(20,true),(21,true),(22,true),(23,true),(24,true),(25,true),(26,true),(27,true),(28,true),(29,true),(30,true),(31,true),(32,true),(33,true),(34,true),(35,true),(36,true),(37,true),(38,true),(39,true),(40,true),(41,true),(42,true),(43,true)] rfl rfl ?_
    refine Bp rfl rfl (Vi rfl rfl rfl rfl (fun q2=>?_) fun q2=>?_)
    ·
     replace a0:=ip a0 q2
     refine Bp rfl rfl (AA rfl (Aw rfl rfl (DW rfl (AA rfl (Aw rfl rfl (DW rfl (AA rfl (Aw rfl rfl ?_))))))))
     obtain ⟨w7,e5,a0⟩:=bs a0
     obtain ⟨f5,g5⟩:=BO e5
     obtain ⟨x7,y7,h5,r2,s2,t2,rfl,z7,a8⟩:=c0.elem g5
     refine Lv (hA:=r2) (hj:=(Int.toNat_of_nonneg f5).symm) (hlt:=s2) rfl rfl rfl ?_
     refine AA rfl (Aw rfl rfl (EA rfl (AA rfl (Aw rfl rfl (CO (hc:=cat0 t2) rfl ?_)))))
     refine AA rfl (Aw rfl rfl (DW rfl (AA rfl (Aw rfl rfl (DW rfl (AA rfl (Aw rfl rfl ?_)))))))
     obtain ⟨b8,h4,a0⟩:=bs a0
     have c8:=(AX h4)
     refine QE (he:=h4) rfl rfl rfl ?_
     refine AA rfl (Aw rfl rfl ?_)
     obtain ⟨d8,i5,a0⟩:=bs a0
     obtain ⟨j5,k5⟩:=BO i5
     obtain ⟨e8,f8,l5,u2,v2,w2,rfl,g8,m5⟩:=c0.elem k5
     refine Lv (hA:=u2) (hj:=(Int.toNat_of_nonneg j5).symm) (hlt:=v2) rfl rfl rfl ?_
     refine AA rfl (Aw rfl rfl (EA rfl (AA rfl (Aw rfl rfl (CO (hc:=cat0 w2) rfl ?_)))))
     refine AA rfl (Aw rfl rfl (Cn (fun _ _=>Ew rfl rfl) rfl (fun p0=>?_) (fun p0=>?_)))
     ·
      replace a0:=ip a0 p0
      refine AA rfl (Aw rfl rfl (DW rfl (Bq rfl rfl rfl (Bq rfl rfl rfl (Bq rfl rfl rfl (Bq rfl rfl rfl (Bq rfl rfl rfl (Bq rfl rfl rfl (Bq rfl rfl rfl (Bq rfl rfl rfl (Bq rfl rfl rfl (Bq rfl rfl rfl (Bq rfl rfl rfl (Bq rfl rfl rfl ?_))))))))))))))
      refine Bq rfl rfl rfl (Bq rfl rfl rfl (Bq rfl rfl rfl (Bq rfl rfl rfl (Bq rfl rfl rfl (Bq rfl rfl rfl (Bq rfl rfl rfl (Bq rfl rfl rfl (Bq rfl rfl rfl (Bq rfl rfl rfl (Bq rfl rfl rfl (Bq rfl rfl rfl (Bq rfl rfl rfl (Bq rfl rfl rfl (AA rfl ?_))))))))))))))
      refine Aw rfl rfl (RU rfl rfl rfl (Fm rfl rfl rfl (h_z ?_)))
      obtain rfl:=sm a0
      exact ⟨(),_,⟨rfl,rfl,rfl,rfl,rfl,trivial⟩,hB,c0⟩
     replace a0:=im a0 p0
     refine AA rfl (Aw rfl rfl (DW rfl (AA rfl (Aw rfl rfl (DW rfl (AA rfl (Aw rfl rfl (DW rfl (AA rfl (Aw rfl rfl ?_))))))))))
     obtain ⟨n5,x2,a0⟩:=bs a0
     obtain ⟨y2,z2⟩:=BO x2
     obtain ⟨o5,p5,i4,y0,z0,a1,rfl,q5,r5⟩:=c0.elem z2
     refine Lv (hA:=y0) (hj:=(Int.toNat_of_nonneg y2).symm) (hlt:=z0) rfl rfl rfl ?_
     refine AA rfl (Aw rfl rfl (EA rfl (AA rfl (Aw rfl rfl (CO (hc:=cat0 a1) rfl ?_)))))
     refine AA rfl (Aw rfl rfl (DW rfl (AA rfl (Aw rfl rfl (DW rfl (AA rfl (Aw rfl rfl ?_)))))))
     obtain ⟨s5,b1,a0⟩:=bs a0
     have t5:=(AX b1)
     refine QE (he:=b1) rfl rfl rfl ?_
     refine AA rfl (Aw rfl rfl ?_)
     obtain ⟨u5,a3,a0⟩:=bs a0
     obtain ⟨b3,d3⟩:=BO a3
     obtain ⟨v5,x5,j4,c1,d1,e1,rfl,y5,z5⟩:=c0.elem d3
     refine Lv (hA:=c1) (hj:=(Int.toNat_of_nonneg b3).symm) (hlt:=d1) rfl rfl rfl ?_
     refine AA rfl (Aw rfl rfl (EA rfl (AA rfl (Aw rfl rfl (CO (hc:=cat0 e1) rfl ?_)))))
     refine AA rfl (Aw rfl rfl (Cn (fun _ _=>QS rfl rfl) rfl (fun q0=>?_) (fun q0=>?_)))
     ·
      replace a0:=ip a0 q0
      refine AA rfl (Aw rfl rfl (DW rfl (AA rfl (Aw rfl rfl (DW rfl (AA rfl (Aw rfl rfl (DW rfl (AA rfl (Aw rfl rfl ?_))))))))))
      obtain ⟨a6,e3,a0⟩:=bs a0
      obtain ⟨f3,g3⟩:=BO e3
      obtain ⟨b6,c6,k4,f1,g1,h1,rfl,d6,e6⟩:=c0.elem g3
      refine Lv (hA:=f1) (hj:=(Int.toNat_of_nonneg f3).symm) (hlt:=g1) rfl rfl rfl ?_
      refine AA rfl (Aw rfl rfl (EA rfl (AA rfl (Aw rfl rfl (CO (hc:=cat1 h1) rfl ?_)))))
      refine AA rfl (Aw rfl rfl (DW rfl (AA rfl (Aw rfl rfl (DW rfl (AA rfl (Aw rfl rfl ?_)))))))
      obtain ⟨f6,i1,a0⟩:=bs a0
      have g6:=(AX i1)
      refine QE (he:=i1) rfl rfl rfl ?_
      refine AA rfl (Aw rfl rfl ?_)
      obtain ⟨h6,h3,a0⟩:=bs a0
      obtain ⟨i3,j3⟩:=BO h3
      obtain ⟨i6,j6,l4,j1,k1,l1,rfl,k6,l6⟩:=c0.elem j3
      refine Lv (hA:=j1) (hj:=(Int.toNat_of_nonneg i3).symm) (hlt:=k1) rfl rfl rfl ?_
      refine AA rfl (Aw rfl rfl (EA rfl (AA rfl (Aw rfl rfl (CO (hc:=cat1 l1) rfl ?_)))))
      refine AA rfl (Aw rfl rfl (Cn (fun _ _=>Ew rfl rfl) rfl (fun r0=>?_) (fun r0=>?_)))
      ·
       replace a0:=ip a0 r0
       refine AA rfl (Aw rfl rfl (RU rfl rfl rfl (AA rfl (Aw rfl rfl (Qw rfl rfl rfl (Fm rfl rfl rfl (h_z ?_)))))))
       obtain rfl:=sm a0
       exact ⟨(),_,⟨rfl,rfl,rfl,rfl,rfl,trivial⟩,hB,c0⟩
      replace a0:=im a0 r0
      refine AA rfl (Aw rfl rfl (RU rfl rfl rfl (AA rfl (Aw rfl rfl (Qw rfl rfl rfl (Fm rfl rfl rfl (h_z ?_)))))))
      obtain rfl:=sm a0
      exact ⟨(),_,⟨rfl,rfl,rfl,rfl,rfl,trivial⟩,hB,c0⟩
     replace a0:=im a0 q0
     refine AA rfl (Aw rfl rfl (DW rfl (Bq rfl rfl rfl (Bq rfl rfl rfl (Bq rfl rfl rfl (Bq rfl rfl rfl (Bq rfl rfl rfl (Bq rfl rfl rfl (Bq rfl rfl rfl (Bq rfl rfl rfl (Bq rfl rfl rfl (Bq rfl rfl rfl (Bq rfl rfl rfl (Bq rfl rfl rfl ?_))))))))))))))
     refine AA rfl (Aw rfl rfl (Qw rfl rfl rfl (AA rfl (Aw rfl rfl (Qw rfl rfl rfl (Fm rfl rfl rfl (h_z ?_)))))))
     obtain rfl:=sm a0
     exact ⟨(),_,⟨rfl,rfl,rfl,rfl,rfl,trivial⟩,hB,c0⟩
    replace a0:=im a0 q2
    refine Bp rfl rfl (Bq rfl rfl rfl (Bq rfl rfl rfl (Bq rfl rfl rfl (Bq rfl rfl rfl (Bq rfl rfl rfl (Bq rfl rfl rfl (Bq rfl rfl rfl (Bq rfl rfl rfl (Bq rfl rfl rfl (Bq rfl rfl rfl (Bq rfl rfl rfl (Bq rfl rfl rfl (Bq rfl rfl rfl (Bq rfl rfl rfl ?_))))))))))))))
    refine Bq rfl rfl rfl (Bq rfl rfl rfl (Bq rfl rfl rfl (Bq rfl rfl rfl (Bq rfl rfl rfl (Bq rfl rfl rfl (Bq rfl rfl rfl (Bq rfl rfl rfl (Bq rfl rfl rfl (Bq rfl rfl rfl (Bq rfl rfl rfl (Bq rfl rfl rfl (Bq rfl rfl rfl (Bq rfl rfl rfl (Bq rfl rfl rfl ?_))))))))))))))
    refine Bq rfl rfl rfl (Bq rfl rfl rfl (Bq rfl rfl rfl (Bq rfl rfl rfl (Bq rfl rfl rfl (Bq rfl rfl rfl (Bq rfl rfl rfl (Bq rfl rfl rfl (Bq rfl rfl rfl (Bq rfl rfl rfl (Bq rfl rfl rfl (FQ rfl rfl rfl (h_z ?_))))))))))))
    obtain rfl:=sm a0
    exact ⟨(),_,⟨rfl,rfl,rfl,rfl,rfl,trivial⟩,hB,c0⟩
   rintro m6 n6 ⟨d5,k3,m1,hB,c0⟩
   refine AE _ m1 ?_
   refine Cw rfl (fun s0=>?_) (fun s0=>?_)
   ·
    replace b0:=ip b0 s0
    refine AK (Ab (AJ (BP [(15,[2])] k3 ?_)))
    refine AM (fuel:=6) [] [(0,true),(1,true),(5,true),(6,true),(7,true),(8,true),(9,true),(10,true),(11,true),(12,true),(13,true),(14,true)] rfl ?_
    refine Bp rfl rfl (Bp rfl rfl (Bp rfl rfl (Bp rfl rfl ?_)))
    obtain ⟨o6,n1,b0⟩:=bs b0
    have p6:=(AX n1)
    refine MM (he:=n1) rfl rfl rfl rfl ?_
    obtain ⟨j0,l3,b0⟩:=bs b0
    obtain ⟨m3,n3⟩:=BO l3
    obtain ⟨q6,r6,m4,o1,p1,q1,r1,rfl,o3,p3⟩:=c0.elemF n3
    refine EF (hA:=o1) (hj:=(Int.toNat_of_nonneg m3).symm) (hlt:=q1) rfl rfl rfl ?_
    refine CN (hl:=rfl) (hb:=fun w' ⟨O',hq⟩=>(CK (hq.agree (i:=2) (by decide)) p1 r1)) rfl rfl ?_
    refine Bp rfl rfl (Bp rfl rfl ?_)
    obtain ⟨k0,q3,b0⟩:=bs b0
    obtain ⟨r3,s3⟩:=BO q3
    obtain ⟨s6,t6,n4,s1,t1,u1,v1,rfl,t3,u3⟩:=c0.elemF s3
    refine EF (hA:=s1) (hj:=(Int.toNat_of_nonneg r3).symm) (hlt:=u1) rfl rfl rfl ?_
    refine CN (hl:=rfl) (hb:=fun w' ⟨O',hq⟩=>(CK (hq.agree (i:=2) (by decide)) t1 v1)) rfl rfl ?_
    obtain ⟨u6,v3,b0⟩:=bs b0
    obtain ⟨w3,w1⟩:=BO v3
    obtain ⟨v6,w6,o4,l0,p4,x1,q4,rfl,x6,y6⟩:=c0.elemF w1
    refine EF (hA:=l0) (hj:=(Int.toNat_of_nonneg w3).symm) (hlt:=x1) rfl rfl rfl ?_
    refine Ay ?_
    refine AM (fuel:=3) [2] [(2,true),(3,true),(4,true)] rfl ?_
    refine Bp rfl rfl (Bp rfl rfl ?_)
    obtain ⟨z6,y1,b0⟩:=bs b0
    have a7:=(AX y1)
    refine MM (he:=y1) rfl rfl rfl rfl ?_
    refine Ay ?_
    refine Ax (i:=15) rfl ?_
    refine IA rfl c0 (a:=j0) (Vb.ofAgg (cs:=[(.int .i64 j0.tm),(.int .i64 j0.job)]) (x:=j0) rfl ⟨rfl,o3,p3⟩) l0 rfl rfl (Bl w1) fun b7 z1 c0=>?_
    have hZ:=z1.lst [2] (fun _ h=>by cases h;decide)
    refine AF [] hZ ?_
    refine AM (fuel:=1) [] [(16,true)] rfl ?_
    obtain ⟨c7,x3,b0⟩:=bs b0
    obtain ⟨y3,a2⟩:=BO x3
    obtain ⟨d7,e7,r4,m0,s4,b2,t4,rfl,f7,g7⟩:=c0.elemF a2
    refine EF (hA:=m0) (hj:=(Int.toNat_of_nonneg y3).symm) (hlt:=b2) rfl rfl rfl ?_
    refine Ay ?_
    refine Ax (i:=17) rfl ?_
    refine IA rfl c0 (a:=k0) (Vb.ofAgg (cs:=[(.int .i64 k0.tm),(.int .i64 k0.job)]) (x:=k0) rfl ⟨rfl,t3,u3⟩) m0 rfl rfl (Bl a2) fun h7 z3 c0=>?_
    refine BL ?_
    refine BG ?_
    refine Aa (Ak rfl ?_)
    obtain ⟨i7,c2,b0⟩:=bs b0
    have a4:=(AX c2)
    refine IY (he:=c2) rfl rfl ?_
    refine Al rfl (o_z ?_)
    obtain rfl:=sm b0
    exact show Exists _ from ⟨_,(),rfl,⟨rfl,rfl,rfl,rfl,trivial⟩,_,(hB.st z1).st z3,c0,a4⟩
   replace b0:=im' b0 s0
   refine Gm ?_
   obtain rfl:=sm b0
   exact show Exists _ from ⟨_,(),o0 _ rfl,⟨rfl,rfl,rfl,trivial⟩,_,hB,c0,f4⟩
  rintro j7 k7 ⟨l7,m7,rfl,g0,n7,hB,c0,f4⟩
  replace e0:=AP e0
  obtain rfl:=sm e0
  exact show Exists _ from ⟨_,(),rfl,⟨(AS g0 _ _ rfl),(AS g0 _ _ rfl),(AS g0 _ _ rfl),trivial⟩,_,hB,c0⟩
 replace hB:=(hB.st S7).st e4
 rintro o7 b4 ⟨p7,q7,rfl,d2,r7,hB,n0⟩
 replace hm:=AP hm
 refine AE _ d2 ?_
 refine Ab (Aa (Ak rfl (Al rfl (o_z ?_))))
 refine AC ?_
 obtain ⟨c4,d4,n0⟩:=n0.freeze
 obtain rfl:=sm hm
 replace hB:=hB.st d4
 exact ret1v rfl (At rfl) ⟨hB.ext,(Vb.mono (F:=Fr 0 b4 c4) n0 hB.out)⟩
noncomputable def DS (x0:Tpl) (x1:Int) (x2:Int):Option Int :=
  bnd (chkI (2 * (x0.jobs.length:Int))) fun n28=>bnd (chkI (n28 + 1)) fun n31=>bnd (natI x1) fun N47=>bnd (rngN (ρ:=Int) (fun (k38:Nat) (s36:Int)=>bnd (x0.jobs[k38]?) fun a51=>bnd (chkI (a51.dur + 1)) fun n82=>bnd (chkI (s36 + n82)) fun n85=>some (.next n85)) N47 n31) fun res34=>fin res34 fun (s92:Int)=>bnd (chkI (s92 + x2)) fun n94=>some n94
theorem Li {w:World} {A:Nat→Prop} (hA:∀ k,A k→k < w.heap.size) {vx0:Value} {x0:Tpl} (k0:Vb w A vx0 x0) {x1:Int} (rx1:inI64 x1) {x2:Int} (rx2:inI64 x2) {r:Int} (hm:DS x0 x1 x2=some r) :
    Fn Tryz.prog 78 [vx0,(.int .i64 x1),(.int .i64 x2)] w fun v w'=>Ext w w'∧Vb w' (upA A w w') v r:=by
 obtain ⟨O,hB,k1⟩:=enter hA
 replace k0:=k0.mono k1
 obtain ⟨b2,rfl,v5,v6,v7,v8,rfl,h9,f0,g0,c0⟩:=k0
 obtain ⟨l0,m0,rfl⟩:=h9.form
 obtain ⟨n0,o0,rfl⟩:=f0.form
 obtain ⟨p0,q0,rfl⟩:=g0.form
 obtain ⟨r0,s0,rfl⟩:=c0.form
 refine AH Tryz.func78 rfl Tryz.ntmps78 ?_
 unfold DS at hm
 refine Ab (Aa (BQ 2 O rfl fun t0 l1 e1 h0 d0=>?_))
 replace d0:Lc 2 l1 e1 t0 26 [(.slice l0 x0.vars.length m0),(.slice n0 x0.init.length o0),(.slice p0 x0.goal.length q0),(.slice r0 x0.jobs.length s0)]:=d0
 refine Al rfl (o_z ?_)
 refine Ab (Aa (AB rfl (Az (hc:=Blk.cell (i:=3) (d0.1) rfl) rfl ?_)))
 refine AR rfl ?_
 replace c0:=c0.st h0
 have m1:x0.jobs.length≤9223372036854775807:=Nat.le_trans c0.len.2.1 c0.len.2.2
 have c2:inI64 (x0.jobs.length:Int):=rngNat m1
 obtain ⟨d2,f1,hm⟩:=bs hm
 have e2:=(AX f1)
 refine GU (he:=f1) rfl rfl ?_
 obtain ⟨f2,g1,hm⟩:=bs hm
 have n1:=(AX g1)
 refine Dn (he:=g1) rfl rfl ?_
 refine Al rfl (o_z ?_)
 refine Ab (Ab (Aa (Ak rfl (Ak rfl (o_z ?_)))))
 obtain ⟨o1,b0,hm⟩:=bs hm
 replace b0:=IX b0
 obtain ⟨i0,u0,hm⟩:=bs hm
 refine Au (aft i0 (fun (e0:Int) (j0:Unit)=>[(2,(.int .i64 x2)),(7,(.int .i64 e0))]) (fun e0 j0 w'=>∃ O':Lab,Bs w A w' O'∧inI64 e0)) ?_ ?_
 ·
  refine AJ ?_
  replace hB:=hB.st h0
  replace h9:=h9.st h0
  replace f0:=f0.st h0
  replace g0:=g0.st h0
  refine GY (σ:=Int) (X:=Unit) o1 u0 (Hl b0 rx1) (fun (e0:Int) (j0:Unit)=>[(2,(.int .i64 x2)),(3,(.pointer (some ⟨t0,0,none⟩))),(7,(.int .i64 e0))]) _ (fun e0 j0 w'=>∃ O':Lab,Bs w A w' O'∧Lc 2 w' O' t0 26 [(.slice l0 x0.vars.length m0),(.slice n0 x0.init.length o0),(.slice p0 x0.goal.length q0),(.slice r0 x0.jobs.length s0)]∧Vb w' (Fr 0 w' O') (.slice l0 x0.vars.length m0) x0.vars∧Vb w' (Fr 0 w' O') (.slice n0 x0.init.length o0) x0.init∧Vb w' (Fr 0 w' O') (.slice p0 x0.goal.length q0) x0.goal∧Vb w' (Fr 0 w' O') (.slice r0 x0.jobs.length s0) x0.jobs∧inI64 e0) _ () ⟨e1,hB,d0,h9,f0,g0,c0,n1⟩ ⟨rfl,(congrArg (fun z=>some (Value.int .i64 z)) b0),rfl,rfl,rfl,trivial⟩ (fun _ _=>⟨rfl,rfl⟩) (fun _ _=>⟨rfl,rfl,trivial⟩) (fun _ _ _ ⟨O',hB,d0,h9,f0,g0,c0,v0⟩=>⟨O',hB,v0⟩) ⟨rfl,rfl,rfl⟩ ⟨rfl,rfl⟩ ?_
  rintro p1 e0 j0 g2 q1 w0 ⟨h2,hB,d0,h9,f0,g0,c0,v0⟩ a0 y0 z0
  have rk38:inI64 (p1:Int):=rngKN w0 (Hl b0 rx1)
  refine Ab (Aa (Ak rfl (Al rfl (o_z ?_))))
  refine Aa (Ak rfl (AB rfl (Az (hc:=Blk.cell (i:=3) (d0.1) rfl) rfl ?_)))
  refine Ak rfl ?_
  obtain ⟨i2,r1,a0⟩:=bs a0
  obtain ⟨j2,k2,s1,a1,b1,c1,l2,m2,n2,o2,p2,rfl,t1,u1,v1,w1,y1,q2,r2⟩:=c0.elem' r1
  obtain ⟨s2,t2,rfl⟩:=t1.form
  obtain ⟨u2,v2,rfl⟩:=u1.form
  obtain ⟨w2,y2,rfl⟩:=v1.form
  obtain ⟨z2,a3,rfl⟩:=w1.form
  obtain ⟨b3,c3,rfl⟩:=y1.form
  refine Bv (hA:=a1) (hj:=rfl) (hlt:=b1) rfl rfl ?_
  refine AB rfl (Az (hc:=cat1 c1) rfl ?_)
  obtain ⟨d3,h1,a0⟩:=bs a0
  have e3:=(AX h1)
  refine Dn (he:=h1) rfl rfl ?_
  obtain ⟨f3,i1,a0⟩:=bs a0
  have z1:=(AX i1)
  refine Dn (he:=i1) rfl rfl ?_
  refine Al rfl (o_z ?_)
  obtain rfl:=sm a0
  exact show Exists _ from ⟨_,(),rfl,⟨rfl,rfl,rfl,rfl,rfl,trivial⟩,_,hB,d0,h9,f0,g0,c0,z1⟩
 replace hB:=hB.st h0
 rintro g3 h3 ⟨i3,j3,rfl,d1,k3,hB,v0⟩
 replace hm:=AP hm
 refine AE _ d1 ?_
 refine Ab (Aa (Ak rfl (Ak rfl ?_)))
 obtain ⟨l3,j1,hm⟩:=bs hm
 have a2:=(AX j1)
 refine Dn (he:=j1) rfl rfl ?_
 refine Al rfl (o_z ?_)
 refine AC ?_
 obtain rfl:=sm hm
 exact ret1v rfl (At rfl) ⟨hB.ext,(vInt a2)⟩
noncomputable def FB (x0:Tpl) (x1:List Lch):Option (List Int) :=
  bnd (FS x0 x1) fun q27=>bnd (lop (ρ:=(List Int)) (fun (s37:(List Int)×Int)=>if s37.2≤q27 then (bnd (GD x0 x1 s37.2) fun q57=>bnd (rng (ρ:=Ctl ((List Int)×Int) (List Int)) (fun (k72:Nat) (a73:Hp5) (s70:(List Int))=>bnd (atI x1 a73.launch) fun a102=>bnd (chkI (2 * a102.job)) fun n115=>bnd (if a73.fin=true then (bnd (chkI (n115 + 1)) fun n124=>some n124) else (some n115):Option Int) fun y118=>bnd (appI 8 s70 [y118]) fun u131=>some (.next u131)) q57 0 s37.1) fun res68=>fin res68 fun (s147:(List Int))=>if s37.2=q27 then (some (.brk (s147,s37.2))) else (bnd (chkI (2 * (x0.jobs.length:Int))) fun n152=>bnd (appI 8 s147 [n152]) fun u155=>bnd (rng (ρ:=Ctl ((List Int)×Int) (List Int)) (fun (k173:Nat) (a174:Job) (s171:(List Int))=>bnd (rng (ρ:=Ctl (List Int) (Ctl ((List Int)×Int) (List Int))) (fun (k194:Nat) (a195:Lch) (s192:Int)=>bnd (if a195.job=(k173:Int) then (if a195.tm≤s37.2 then (bnd (CA x0 a195) fun q229=>if s37.2 < q229 then (some true) else (some false)) else (some false)) else (some false):Option Bool) fun y223=>if y223=true then (bnd (CA x0 a195) fun q243=>bnd (chkI (q243 - s37.2)) fun n251=>some (.next n251)) else (some (.next s192))) x1 0 0) fun res190=>fin res190 fun (s258:Int)=>bnd (DS x0 (k173:Int) s258) fun q260=>bnd (appI 8 s171 [q260]) fun u268=>some (.next u268)) x0.jobs 0 u155) fun res169=>fin res169 fun (s284:(List Int))=>bnd (DS x0 (x0.jobs.length:Int) 0) fun q288=>bnd (appI 8 s284 [q288]) fun u296=>bnd (chkI (s37.2 + 1)) fun n308=>some (.next (u296,n308)))) else (some (.brk (s37.1,s37.2)))) (([]:List Int),0)) fun res35=>fin res35 fun (s315:(List Int)×Int)=>some s315.1
theorem Pi {w:World} {A:Nat→Prop} (hA:∀ k,A k→k < w.heap.size) {vx0:Value} {x0:Tpl} (w4:Vb w A vx0 x0) {vx1:Value} {x1:List Lch} (f0:Vb w A vx1 x1) {r:(List Int)} (hm:FB x0 x1=some r) :
    Fn Tryz.prog 25 [vx0,vx1] w fun v w'=>Ext w w'∧Vb w' (upA A w w') v r:=by
 obtain ⟨O,hB,i7⟩:=enter hA
 replace w4:=w4.mono i7
 obtain ⟨rA,rfl,v4,v5,v6,v7,rfl,h8,g0,h0,d0⟩:=w4
 obtain ⟨A9,s0,rfl⟩:=h8.form
 obtain ⟨t0,u0,rfl⟩:=g0.form
 obtain ⟨v0,w0,rfl⟩:=h0.form
 obtain ⟨y0,z0,rfl⟩:=d0.form
 replace f0:=f0.mono i7
 obtain ⟨e1,f1,rfl⟩:=f0.form
 refine AH Tryz.func25 rfl Tryz.ntmps25 ?_
 unfold FB at hm
 refine Ab (Aa (BQ 2 O rfl fun g1 m4 n4 h2 i0=>?_))
 replace i0:Lc 2 m4 n4 g1 26 [(.slice A9 x0.vars.length s0),(.slice t0 x0.init.length u0),(.slice v0 x0.goal.length w0),(.slice y0 x0.jobs.length z0)]:=i0
 refine Al rfl (o_z ?_)
 refine Ab (Aa (Al rfl (o_z ?_)))
 refine Ab (Aa (Bg (hl:=rfl) (hc:=(i0.1).cellsAt) rfl ?_))
 refine Ak rfl ?_
 obtain ⟨a2,p7,hm⟩:=bs hm
 replace f0:=f0.st h2
 replace h8:=h8.st h2
 replace g0:=g0.st h2
 replace h0:=h0.st h2
 replace d0:=d0.st h2
 refine AG (O:=n4) (A:=All m4) (R:=fun w' F v=>Vb w' F v a2) (Mk (fun _ h=>h) (Vb.mono (F:=Fr 0 m4 n4) (Vb.ofAgg (cs:=[(.slice A9 x0.vars.length s0),(.slice t0 x0.init.length u0),(.slice v0 x0.goal.length w0),(.slice y0 x0.jobs.length z0)]) (x:=x0) rfl ⟨_,_,_,_,rfl,h8,g0,h0,d0⟩) Fr.lt) (Vb.mono (F:=Fr 0 m4 n4) f0 Fr.lt) p7) rfl fun sA tA q7 e2 r7=>?_
 obtain ⟨rfl,uA⟩:=r7.int
 refine Al rfl (o_z ?_)
 refine Ab (Ab (Aa (Al rfl (o_z ?_))))
 obtain ⟨b3,x4,hm⟩:=bs hm
 refine Au (aft b3 (fun (c1:(List Int)×Int) (n1:(Option Addr×Nat))=>[(5,(.slice n1.1 c1.1.length n1.2))]) (fun c1 n1 w'=>∃ O':Lab,Bs w A w' O'∧Rw 4 w' O' 3 (.slice n1.1 c1.1.length n1.2) c1.1∧inI64 c1.2)) ?_ ?_
 ·
  refine AJ ?_
  replace hB:=(hB.st h2).st e2
  replace f0:=f0.st e2
  replace h8:=h8.st e2
  replace g0:=g0.st e2
  replace h0:=h0.st e2
  replace d0:=d0.st e2
  replace i0:=i0.st e2
  refine PK (σ:=(List Int)×Int) (X:=(Option Addr×Nat)) x4 (fun (c1:(List Int)×Int) (n1:(Option Addr×Nat))=>[(1,(.slice e1 x1.length f1)),(2,(.pointer (some ⟨g1,0,none⟩))),(5,(.slice n1.1 c1.1.length n1.2)),(6,(.int .i64 a2)),(7,(.int .i64 c1.2))]) _ (fun c1 n1 w'=>∃ O':Lab,Bs w A w' O'∧Vb w' (Fr 0 w' O') (.slice e1 x1.length f1) x1∧Lc 2 w' O' g1 26 [(.slice A9 x0.vars.length s0),(.slice t0 x0.init.length u0),(.slice v0 x0.goal.length w0),(.slice y0 x0.jobs.length z0)]∧Vb w' (Fr 0 w' O') (.slice A9 x0.vars.length s0) x0.vars∧Vb w' (Fr 0 w' O') (.slice t0 x0.init.length u0) x0.init∧Vb w' (Fr 0 w' O') (.slice v0 x0.goal.length w0) x0.goal∧Vb w' (Fr 0 w' O') (.slice y0 x0.jobs.length z0) x0.jobs∧Rw 4 w' O' 3 (.slice n1.1 c1.1.length n1.2) c1.1∧inI64 c1.2) _ (none,0) ⟨q7,hB,f0,i0,h8,g0,h0,d0,(Rw.nil 4 (by decide)),(show inI64 (0) from by decide)⟩ ⟨rfl,rfl,rfl,rfl,rfl,trivial⟩ ?_
  rintro c1 n1 vA s7 ⟨t7,hB,f0,i0,h8,g0,h0,d0,f2,o4⟩ c0 y4 v1
  refine Ab (Ab (Aa (Ak rfl (Ak rfl (IS rfl rfl (fun z4=>?_) fun z4=>?_)))))
  ·
   replace c0:=ip c0 z4
   refine o_z ?_
   refine Aj rfl (AK (Ab (AJ (Ab (Ab (Aa (Bg (hl:=rfl) (hc:=(i0.1).cellsAt) rfl ?_)))))))
   refine Ak rfl (Ak rfl ?_)
   obtain ⟨w1,u7,c0⟩:=bs c0
   refine BU (O:=t7) (R:=fun w' F v=>Vb w' F v w1) (QI Fr.lt (Vb.ofAgg (cs:=[(.slice A9 x0.vars.length s0),(.slice t0 x0.init.length u0),(.slice v0 x0.goal.length w0),(.slice y0 x0.jobs.length z0)]) (x:=x0) rfl ⟨_,_,_,_,rfl,h8,g0,h0,d0⟩) f0 o4 u7) rfl fun wA xA w7 p1 t1=>?_
   obtain ⟨p4,q4,rfl⟩:=t1.form
   refine AR rfl ?_
   have a5:w1.length≤9223372036854775807:=Nat.le_trans t1.len.2.1 t1.len.2.2
   have yA:inI64 (w1.length:Int):=rngNat a5
   refine Ak rfl (o_z ?_)
   obtain ⟨c3,b5,c0⟩:=bs c0
   refine Au (aft c3 (fun (u1:(List Int)) (o1:(Option Addr×Nat))=>[(1,(.slice e1 x1.length f1)),(2,(.pointer (some ⟨g1,0,none⟩))),(5,(.slice o1.1 u1.length o1.2)),(6,(.int .i64 a2)),(7,(.int .i64 c1.2))]) (fun u1 o1 w'=>∃ O':Lab,Bs w A w' O'∧Vb w' (Fr 0 w' O') (.slice e1 x1.length f1) x1∧Lc 2 w' O' g1 26 [(.slice A9 x0.vars.length s0),(.slice t0 x0.init.length u0),(.slice v0 x0.goal.length w0),(.slice y0 x0.jobs.length z0)]∧Vb w' (Fr 0 w' O') (.slice A9 x0.vars.length s0) x0.vars∧Vb w' (Fr 0 w' O') (.slice t0 x0.init.length u0) x0.init∧Vb w' (Fr 0 w' O') (.slice v0 x0.goal.length w0) x0.goal∧Vb w' (Fr 0 w' O') (.slice y0 x0.jobs.length z0) x0.jobs∧Rw 4 w' O' 3 (.slice o1.1 u1.length o1.2) u1)) ?_ ?_
   ·
    refine AJ ?_
    replace hB:=hB.st p1
    replace f0:=f0.st p1
    replace h8:=h8.st p1
    replace g0:=g0.st p1
    replace h0:=h0.st p1
    replace d0:=d0.st p1
    replace i0:=i0.st p1
    replace f2:=f2.st p1
    refine Bh (σ:=(List Int)) (X:=(Option Addr×Nat)) (w1.length) b5 rfl a5 (fun (u1:(List Int)) (o1:(Option Addr×Nat))=>[(1,(.slice e1 x1.length f1)),(2,(.pointer (some ⟨g1,0,none⟩))),(5,(.slice o1.1 u1.length o1.2)),(6,(.int .i64 a2)),(7,(.int .i64 c1.2)),(26,(.slice p4 w1.length q4))]) _ (fun u1 o1 w'=>∃ O':Lab,Bs w A w' O'∧Vb w' (Fr 0 w' O') (.slice e1 x1.length f1) x1∧Lc 2 w' O' g1 26 [(.slice A9 x0.vars.length s0),(.slice t0 x0.init.length u0),(.slice v0 x0.goal.length w0),(.slice y0 x0.jobs.length z0)]∧Vb w' (Fr 0 w' O') (.slice A9 x0.vars.length s0) x0.vars∧Vb w' (Fr 0 w' O') (.slice t0 x0.init.length u0) x0.init∧Vb w' (Fr 0 w' O') (.slice v0 x0.goal.length w0) x0.goal∧Vb w' (Fr 0 w' O') (.slice y0 x0.jobs.length z0) x0.jobs∧Rw 4 w' O' 3 (.slice o1.1 u1.length o1.2) u1∧Vb w' (Fr 0 w' O') (.slice p4 w1.length q4) w1) _ (n1.1,n1.2) ⟨w7,hB,f0,i0,h8,g0,h0,d0,f2,t1⟩ ⟨rfl,rfl,rfl,rfl,rfl,rfl,rfl,rfl,trivial⟩ (fun _ _=>⟨rfl,rfl⟩) (fun _ _=>⟨rfl,rfl,rfl,rfl,rfl,trivial⟩) (fun _ _ _ ⟨O',hB,f0,i0,h8,g0,h0,d0,y1,t1⟩=>⟨O',hB,f0,i0,h8,g0,h0,d0,y1⟩) ⟨rfl,rfl,rfl⟩ ⟨rfl,rfl⟩ ?_
    rintro j7 k7 u1 o1 zA x7 d3 ⟨y7,hB,f0,i0,h8,g0,h0,d0,y1,t1⟩ h1 c5 d5
    have rk72:inI64 (j7:Int):=rngK d3 a5
    refine Ab (Aa ?_)
    obtain ⟨aB,bB,z7,e5,f5,g5,rfl,cB⟩:=t1.elem' d3
    refine Bv (hA:=e5) (hj:=rfl) (hlt:=f5) rfl rfl ?_
    refine Bg (hl:=rfl) (hc:=g5) rfl ?_
    refine AT 3 y7 fun a8 dB b8 a1 a3=>?_
    refine AD a3 rfl rfl rfl (AL) (allOne) fun h5 j0 a3=>?_
    replace a3:Lc 3 h5 b8 a8 124 [(.int .i64 k7.launch),(.bool k7.fin)]:=a3
    refine o_z ?_
    refine Ab (Aa (Ak rfl (AB rfl (Az (hc:=Blk.cell (i:=0) (a3.1) rfl) rfl ?_))))
    obtain ⟨c8,i5,h1⟩:=bs h1
    obtain ⟨j5,k5⟩:=BO i5
    replace f0:=(f0.st a1).st j0
    obtain ⟨d8,e8,l7,e3,f3,g3,rfl,f8,g8⟩:=f0.elem' k5
    refine Bv (hA:=e3) (hj:=(Int.toNat_of_nonneg j5).symm) (hlt:=f3) rfl rfl ?_
    refine AB rfl (Az (hc:=cat1 g3) rfl ?_)
    obtain ⟨i8,h3,h1⟩:=bs h1
    have l5:=(AX h3)
    refine GU (he:=h3) rfl rfl ?_
    refine Al rfl (o_z ?_)
    refine Ab ?_
    obtain ⟨i2,r0,h1⟩:=bs h1
    refine Au (fun l' w'=>∃ (m5:Unit) (O':Lab),subs l' [(1,(.slice e1 x1.length f1)),(2,(.pointer (some ⟨g1,0,none⟩))),(5,(.slice o1.1 u1.length o1.2)),(6,(.int .i64 a2)),(7,(.int .i64 c1.2)),(10,(.int .i64 i2)),(26,(.slice p4 w1.length q4)),(27,(.int .i64 (w1.length:Int))),(28,(.int .i64 (j7:Int)))]∧Bs w A w' O'∧Vb w' (Fr 0 w' O') (.slice e1 x1.length f1) x1∧Lc 2 w' O' g1 26 [(.slice A9 x0.vars.length s0),(.slice t0 x0.init.length u0),(.slice v0 x0.goal.length w0),(.slice y0 x0.jobs.length z0)]∧Vb w' (Fr 0 w' O') (.slice A9 x0.vars.length s0) x0.vars∧Vb w' (Fr 0 w' O') (.slice t0 x0.init.length u0) x0.init∧Vb w' (Fr 0 w' O') (.slice v0 x0.goal.length w0) x0.goal∧Vb w' (Fr 0 w' O') (.slice y0 x0.jobs.length z0) x0.jobs∧Rw 4 w' O' 3 (.slice o1.1 u1.length o1.2) u1∧Vb w' (Fr 0 w' O') (.slice p4 w1.length q4) w1∧inI64 i2) ?_ ?_
    ·
     refine Ab (Aa (AB rfl (Az (hc:=Blk.cell (i:=1) (a3.1) rfl) rfl ?_)))
     refine o_z ?_
     refine Cw rfl (fun j2=>?_) (fun j2=>?_)
     ·
      replace r0:=ip r0 j2
      refine Aa (Ak rfl ?_)
      obtain ⟨j8,i3,r0⟩:=bs r0
      have n5:=(AX i3)
      refine Dn (he:=i3) rfl rfl ?_
      refine Al rfl (o_z ?_)
      obtain rfl:=sm r0
      exact ⟨(),_,⟨rfl,rfl,rfl,rfl,rfl,rfl,rfl,rfl,rfl,trivial⟩,(hB.st a1).st j0,f0,(i0.st a1).st j0,(h8.st a1).st j0,(g0.st a1).st j0,(h0.st a1).st j0,(d0.st a1).st j0,(y1.st a1).st j0,(t1.st a1).st j0,n5⟩
     replace r0:=im' r0 j2
     refine AK ?_
     obtain rfl:=sm r0
     exact ⟨(),_,⟨rfl,rfl,rfl,rfl,rfl,rfl,rfl,rfl,rfl,trivial⟩,(hB.st a1).st j0,f0,(i0.st a1).st j0,(h8.st a1).st j0,(g0.st a1).st j0,(h0.st a1).st j0,(d0.st a1).st j0,(y1.st a1).st j0,(t1.st a1).st j0,l5⟩
    replace hB:=(hB.st a1).st j0
    replace h8:=(h8.st a1).st j0
    replace g0:=(g0.st a1).st j0
    replace h0:=(h0.st a1).st j0
    replace d0:=(d0.st a1).st j0
    replace i0:=(i0.st a1).st j0
    replace t1:=(t1.st a1).st j0
    replace y1:=(y1.st a1).st j0
    rintro k8 l8 ⟨m5,m8,j3,hB,f0,i0,h8,g0,h0,d0,y1,t1,o5⟩
    refine AE _ j3 ?_
    refine Aa (Ak rfl (Ak rfl ?_))
    obtain ⟨n8,k2,h1⟩:=bs h1
    obtain ⟨k2,p5,q5⟩:=AO k2
    refine Co rfl (a:=i2) y1 (vInt o5) (fun _=>rfl) rfl p5 q5 ⟨rfl,rfl⟩ fun o8 r5 s5 p8 q8 j1 k3=>?_
    rw [← k2] at k3 ⊢
    refine Al rfl (o_z ?_)
    obtain rfl:=sm h1
    exact show Exists _ from ⟨_,(r5,s5),rfl,⟨rfl,rfl,rfl,rfl,rfl,rfl,rfl,rfl,trivial⟩,_,hB.st j1,f0.st j1,i0.st j1,h8.st j1,g0.st j1,h0.st j1,d0.st j1,k3,t1.st j1⟩
   replace hB:=hB.st p1
   replace f0:=f0.st p1
   replace h8:=h8.st p1
   replace g0:=g0.st p1
   replace h0:=h0.st p1
   replace d0:=d0.st p1
   replace i0:=i0.st p1
   rintro r8 s8 ⟨t8,l3,rfl,m3,u8,hB,f0,i0,h8,g0,h0,d0,y1⟩
   replace c0:=AP c0
   refine AE _ m3 ?_
   refine Ab (Ab (Aa (Ak rfl (Ak rfl (EZ rfl rfl (fun l2=>?_) fun l2=>?_)))))
   ·
    replace c0:=ip c0 l2
    refine o_z ?_
    refine Aj rfl (Gm ?_)
    obtain rfl:=sm c0
    exact show Exists _ from ⟨_,(l3.1,l3.2),v1 _ rfl,⟨rfl,trivial⟩,_,hB,y1,o4⟩
   replace c0:=im c0 l2
   refine o_z ?_
   refine Ah rfl (AK (Ab (Aa (Ak rfl (AB rfl (Az (hc:=Blk.cell (i:=3) (i0.1) rfl) rfl ?_))))))
   refine AR rfl ?_
   have t5:x0.jobs.length≤9223372036854775807:=Nat.le_trans d0.len.2.1 d0.len.2.2
   have v8:inI64 (x0.jobs.length:Int):=rngNat t5
   obtain ⟨u5,n3,c0⟩:=bs c0
   have w5:=(AX n3)
   refine GU (he:=n3) rfl rfl ?_
   obtain ⟨w8,m2,c0⟩:=bs c0
   obtain ⟨m2,x5,y5⟩:=AO m2
   refine Co rfl (a:=u5) y1 (vInt w5) (fun _=>rfl) rfl x5 y5 ⟨rfl,rfl⟩ fun x8 z5 a6 y8 b6 b1 o3=>?_
   rw [← m2] at o3 ⊢
   refine Al rfl (o_z ?_)
   refine Ab (Ab (Aa (AB rfl ?_)))
   replace i0:=i0.st b1
   refine Az (hc:=Blk.cell (i:=3) (i0.1) rfl) rfl ?_
   refine AR rfl ?_
   replace d0:=d0.st b1
   have n2:x0.jobs.length≤9223372036854775807:=Nat.le_trans d0.len.2.1 d0.len.2.2
   have z8:inI64 (x0.jobs.length:Int):=rngNat n2
   refine Ak rfl (o_z ?_)
   obtain ⟨o2,p3,c0⟩:=bs c0
   refine Au (aft o2 (fun (m0:(List Int)) (k0:(Option Addr×Nat))=>[(1,(.slice e1 x1.length f1)),(2,(.pointer (some ⟨g1,0,none⟩))),(5,(.slice k0.1 m0.length k0.2)),(6,(.int .i64 a2)),(7,(.int .i64 c1.2))]) (fun m0 k0 w'=>∃ O':Lab,Bs w A w' O'∧Vb w' (Fr 0 w' O') (.slice e1 x1.length f1) x1∧Lc 2 w' O' g1 26 [(.slice A9 x0.vars.length s0),(.slice t0 x0.init.length u0),(.slice v0 x0.goal.length w0),(.slice y0 x0.jobs.length z0)]∧Vb w' (Fr 0 w' O') (.slice A9 x0.vars.length s0) x0.vars∧Vb w' (Fr 0 w' O') (.slice t0 x0.init.length u0) x0.init∧Vb w' (Fr 0 w' O') (.slice v0 x0.goal.length w0) x0.goal∧Vb w' (Fr 0 w' O') (.slice y0 x0.jobs.length z0) x0.jobs∧Rw 4 w' O' 3 (.slice k0.1 m0.length k0.2) m0)) ?_ ?_
   ·
    refine AJ ?_
    replace hB:=hB.st b1
    replace f0:=f0.st b1
    replace h8:=h8.st b1
    replace g0:=g0.st b1
    replace h0:=h0.st b1
    refine Bh (σ:=(List Int)) (X:=(Option Addr×Nat)) (x0.jobs.length) p3 rfl n2 (fun (m0:(List Int)) (k0:(Option Addr×Nat))=>[(1,(.slice e1 x1.length f1)),(2,(.pointer (some ⟨g1,0,none⟩))),(5,(.slice k0.1 m0.length k0.2)),(6,(.int .i64 a2)),(7,(.int .i64 c1.2))]) _ (fun m0 k0 w'=>∃ O':Lab,Bs w A w' O'∧Vb w' (Fr 0 w' O') (.slice e1 x1.length f1) x1∧Lc 2 w' O' g1 26 [(.slice A9 x0.vars.length s0),(.slice t0 x0.init.length u0),(.slice v0 x0.goal.length w0),(.slice y0 x0.jobs.length z0)]∧Vb w' (Fr 0 w' O') (.slice A9 x0.vars.length s0) x0.vars∧Vb w' (Fr 0 w' O') (.slice t0 x0.init.length u0) x0.init∧Vb w' (Fr 0 w' O') (.slice v0 x0.goal.length w0) x0.goal∧Vb w' (Fr 0 w' O') (.slice y0 x0.jobs.length z0) x0.jobs∧Rw 4 w' O' 3 (.slice k0.1 m0.length k0.2) m0) _ (z5,a6) ⟨b6,hB,f0,i0,h8,g0,h0,d0,o3⟩ ⟨rfl,rfl,rfl,rfl,rfl,rfl,rfl,trivial⟩ (fun _ _=>⟨rfl,rfl⟩) (fun _ _=>⟨rfl,rfl,rfl,rfl,rfl,trivial⟩) (fun _ _ _ ⟨O',hB,f0,i0,h8,g0,h0,d0,l0⟩=>⟨O',hB,f0,i0,h8,g0,h0,d0,l0⟩) ⟨rfl,rfl,rfl⟩ ⟨rfl,rfl⟩ ?_
    rintro q1 a9 m0 k0 b9 m7 q3 ⟨c6,hB,f0,i0,h8,g0,h0,d0,l0⟩ p0 r4 s4
    have rk173:inI64 (q1:Int):=rngK q3 n2
    refine Ab (Aa (Ak rfl (Al rfl (o_z ?_))))
    refine Ab (Aa (Al rfl (o_z ?_)))
    refine Ab (Ab (Aa (Ak rfl (AR rfl ?_))))
    have p2:x1.length≤9223372036854775807:=Nat.le_trans f0.len.2.1 f0.len.2.2
    have c9:inI64 (x1.length:Int):=rngNat p2
    refine Ak rfl (o_z ?_)
    obtain ⟨q2,r3,p0⟩:=bs p0
    refine Au (aft q2 (fun (i1:Int) (b2:Unit)=>[(1,(.slice e1 x1.length f1)),(2,(.pointer (some ⟨g1,0,none⟩))),(5,(.slice k0.1 m0.length k0.2)),(6,(.int .i64 a2)),(7,(.int .i64 c1.2)),(11,(.int .i64 (q1:Int))),(12,(.int .i64 i1)),(60,(.int .i64 (x0.jobs.length:Int))),(61,(.int .i64 (q1:Int)))]) (fun i1 b2 w'=>∃ O':Lab,Bs w A w' O'∧Vb w' (Fr 0 w' O') (.slice e1 x1.length f1) x1∧Lc 2 w' O' g1 26 [(.slice A9 x0.vars.length s0),(.slice t0 x0.init.length u0),(.slice v0 x0.goal.length w0),(.slice y0 x0.jobs.length z0)]∧Vb w' (Fr 0 w' O') (.slice A9 x0.vars.length s0) x0.vars∧Vb w' (Fr 0 w' O') (.slice t0 x0.init.length u0) x0.init∧Vb w' (Fr 0 w' O') (.slice v0 x0.goal.length w0) x0.goal∧Vb w' (Fr 0 w' O') (.slice y0 x0.jobs.length z0) x0.jobs∧Rw 4 w' O' 3 (.slice k0.1 m0.length k0.2) m0∧inI64 i1)) ?_ ?_
    ·
     refine AJ (Bh (σ:=Int) (X:=Unit) (x1.length) r3 rfl p2 (fun (i1:Int) (b2:Unit)=>[(1,(.slice e1 x1.length f1)),(2,(.pointer (some ⟨g1,0,none⟩))),(5,(.slice k0.1 m0.length k0.2)),(6,(.int .i64 a2)),(7,(.int .i64 c1.2)),(11,(.int .i64 (q1:Int))),(12,(.int .i64 i1)),(60,(.int .i64 (x0.jobs.length:Int))),(61,(.int .i64 (q1:Int))),(64,(.slice e1 x1.length f1))]) _ (fun i1 b2 w'=>∃ O':Lab,Bs w A w' O'∧Vb w' (Fr 0 w' O') (.slice e1 x1.length f1) x1∧Lc 2 w' O' g1 26 [(.slice A9 x0.vars.length s0),(.slice t0 x0.init.length u0),(.slice v0 x0.goal.length w0),(.slice y0 x0.jobs.length z0)]∧Vb w' (Fr 0 w' O') (.slice A9 x0.vars.length s0) x0.vars∧Vb w' (Fr 0 w' O') (.slice t0 x0.init.length u0) x0.init∧Vb w' (Fr 0 w' O') (.slice v0 x0.goal.length w0) x0.goal∧Vb w' (Fr 0 w' O') (.slice y0 x0.jobs.length z0) x0.jobs∧Rw 4 w' O' 3 (.slice k0.1 m0.length k0.2) m0∧inI64 i1) _ () ⟨c6,hB,f0,i0,h8,g0,h0,d0,l0,(show inI64 (0) from by decide)⟩ ⟨rfl,rfl,rfl,rfl,rfl,rfl,rfl,rfl,rfl,rfl,rfl,rfl,trivial⟩ (fun _ _=>⟨rfl,rfl⟩) (fun _ _=>⟨rfl,rfl,rfl,rfl,rfl,rfl,rfl,rfl,rfl,trivial⟩) (fun _ _ _ ⟨O',hB,f0,i0,h8,g0,h0,d0,l0,z1⟩=>⟨O',hB,f0,i0,h8,g0,h0,d0,l0,z1⟩) ⟨rfl,rfl,rfl⟩ ⟨rfl,rfl⟩ ?_)
     rintro s3 d1 i1 b2 d9 n7 g2 ⟨d6,hB,f0,i0,h8,g0,h0,d0,l0,z1⟩ n0 t4 u4
     have rk194:inI64 (s3:Int):=rngK g2 p2
     refine Ab (Aa ?_)
     obtain ⟨e9,f9,o7,t3,u3,v3,rfl,w3,x3⟩:=f0.elem' g2
     refine Bv (hA:=t3) (hj:=rfl) (hlt:=u3) rfl rfl ?_
     refine Bg (hl:=rfl) (hc:=v3) rfl ?_
     refine AT 5 d6 fun r2 g9 c2 a0 q0=>?_
     refine AD q0 rfl rfl rfl (AL) (allOne) fun d2 b0 q0=>?_
     replace q0:Lc 5 d2 c2 r2 52 [(.int .i64 d1.tm),(.int .i64 d1.job)]:=q0
     refine o_z ?_
     refine Ab ?_
     obtain ⟨e6,e0,n0⟩:=bs n0
     refine Au (fun l' w'=>∃ (f6:Unit) (O':Lab),subs l' [(1,(.slice e1 x1.length f1)),(2,(.pointer (some ⟨g1,0,none⟩))),(5,(.slice k0.1 m0.length k0.2)),(6,(.int .i64 a2)),(7,(.int .i64 c1.2)),(11,(.int .i64 (q1:Int))),(12,(.int .i64 i1)),(14,(.pointer (some ⟨r2,0,none⟩))),(60,(.int .i64 (x0.jobs.length:Int))),(61,(.int .i64 (q1:Int))),(64,(.slice e1 x1.length f1)),(65,(.int .i64 (x1.length:Int))),(66,(.int .i64 (s3:Int))),(86,(.bool e6))]∧Bs w A w' O'∧Vb w' (Fr 0 w' O') (.slice e1 x1.length f1) x1∧Lc 2 w' O' g1 26 [(.slice A9 x0.vars.length s0),(.slice t0 x0.init.length u0),(.slice v0 x0.goal.length w0),(.slice y0 x0.jobs.length z0)]∧Vb w' (Fr 0 w' O') (.slice A9 x0.vars.length s0) x0.vars∧Vb w' (Fr 0 w' O') (.slice t0 x0.init.length u0) x0.init∧Vb w' (Fr 0 w' O') (.slice v0 x0.goal.length w0) x0.goal∧Vb w' (Fr 0 w' O') (.slice y0 x0.jobs.length z0) x0.jobs∧Rw 4 w' O' 3 (.slice k0.1 m0.length k0.2) m0∧Lc 5 w' O' r2 52 [(.int .i64 d1.tm),(.int .i64 d1.job)]) ?_ ?_
     ·
      refine Aa (AB rfl (Az (hc:=Blk.cell (i:=1) (q0.1) rfl) rfl ?_))
      refine Ak rfl (EZ rfl rfl (fun s2=>?_) fun s2=>?_)
      ·
       replace e0:=ip e0 s2
       refine Ak rfl (An rfl rfl (AB rfl (An rfl rfl (Az (hc:=Blk.cell (i:=0) (q0.1) rfl) rfl ?_))))
       refine An rfl rfl (Ak rfl (An rfl rfl (IS rfl rfl (fun t2=>?_) fun t2=>?_)))
       ·
        replace e0:=ip e0 t2
        refine BD rfl rfl (Ak rfl (An rfl rfl (Ak rfl (An rfl rfl ?_))))
        replace i0:=(i0.st a0).st b0
        refine Bg (hl:=rfl) (hc:=(i0.1).cellsAt) rfl ?_
        refine An rfl rfl (Bg (hl:=rfl) (hc:=(q0.1).cellsAt) rfl ?_)
        refine An rfl rfl ?_
        obtain ⟨g6,h6,e0⟩:=bs e0
        replace h8:=(h8.st a0).st b0
        replace g0:=(g0.st a0).st b0
        replace h0:=(h0.st a0).st b0
        replace d0:=(d0.st a0).st b0
        refine AG (O:=c2) (A:=All d2) (R:=fun w' F v=>Vb w' F v g6) (HS (fun _ h=>h) (Vb.mono (F:=Fr 0 d2 c2) (Vb.ofAgg (cs:=[(.slice A9 x0.vars.length s0),(.slice t0 x0.init.length u0),(.slice v0 x0.goal.length w0),(.slice y0 x0.jobs.length z0)]) (x:=x0) rfl ⟨_,_,_,_,rfl,h8,g0,h0,d0⟩) Fr.lt) (Vb.mono (F:=Fr 0 d2 c2) (Vb.ofAgg (cs:=[(.int .i64 d1.tm),(.int .i64 d1.job)]) (x:=d1) rfl ⟨rfl,w3,x3⟩) Fr.lt) h6) rfl fun h9 i9 j9 o0 i6=>?_
        obtain ⟨rfl,k9⟩:=i6.int
        refine An rfl rfl (Ep rfl rfl (fun u2=>?_) fun u2=>?_)
        ·
         replace e0:=ip e0 u2
         refine BD rfl rfl (o_z ?_)
         obtain rfl:=sm e0
         exact ⟨(),_,⟨rfl,rfl,rfl,rfl,rfl,rfl,rfl,rfl,rfl,rfl,rfl,rfl,rfl,rfl,trivial⟩,((hB.st a0).st b0).st o0,((f0.st a0).st b0).st o0,i0.st o0,h8.st o0,g0.st o0,h0.st o0,d0.st o0,((l0.st a0).st b0).st o0,q0.st o0⟩
        replace e0:=im e0 u2
        refine BD rfl rfl (o_z ?_)
        obtain rfl:=sm e0
        exact ⟨(),_,⟨rfl,rfl,rfl,rfl,rfl,rfl,rfl,rfl,rfl,rfl,rfl,rfl,rfl,rfl,trivial⟩,((hB.st a0).st b0).st o0,((f0.st a0).st b0).st o0,i0.st o0,h8.st o0,g0.st o0,h0.st o0,d0.st o0,((l0.st a0).st b0).st o0,q0.st o0⟩
       replace e0:=im e0 t2
       refine BD rfl rfl (Ak rfl (Am rfl rfl (Am rfl rfl (Am rfl rfl (Am rfl rfl (Am rfl rfl (By rfl rfl (o_z ?_))))))))
       obtain rfl:=sm e0
       exact ⟨(),_,⟨rfl,rfl,rfl,rfl,rfl,rfl,rfl,rfl,rfl,rfl,rfl,rfl,rfl,rfl,trivial⟩,(hB.st a0).st b0,(f0.st a0).st b0,(i0.st a0).st b0,(h8.st a0).st b0,(g0.st a0).st b0,(h0.st a0).st b0,(d0.st a0).st b0,(l0.st a0).st b0,q0⟩
      replace e0:=im e0 s2
      refine Ak rfl (Am rfl rfl (Am rfl rfl (Am rfl rfl (Am rfl rfl (By rfl rfl (Ak rfl (Am rfl rfl (Am rfl rfl (Am rfl rfl (Am rfl rfl (Am rfl rfl (By rfl rfl (o_z ?_)))))))))))))
      obtain rfl:=sm e0
      exact ⟨(),_,⟨rfl,rfl,rfl,rfl,rfl,rfl,rfl,rfl,rfl,rfl,rfl,rfl,rfl,rfl,trivial⟩,(hB.st a0).st b0,(f0.st a0).st b0,(i0.st a0).st b0,(h8.st a0).st b0,(g0.st a0).st b0,(h0.st a0).st b0,(d0.st a0).st b0,(l0.st a0).st b0,q0⟩
     replace hB:=(hB.st a0).st b0
     replace f0:=(f0.st a0).st b0
     replace h8:=(h8.st a0).st b0
     replace g0:=(g0.st a0).st b0
     replace h0:=(h0.st a0).st b0
     replace d0:=(d0.st a0).st b0
     replace i0:=(i0.st a0).st b0
     replace l0:=(l0.st a0).st b0
     rintro l9 v2 ⟨f6,w2,y3,hB,f0,i0,h8,g0,h0,d0,l0,q0⟩
     refine AE _ y3 ?_
     refine Cw rfl (fun x2=>?_) (fun x2=>?_)
     ·
      replace n0:=ip n0 x2
      refine Aa (Bg (hl:=rfl) (hc:=(i0.1).cellsAt) rfl ?_)
      refine Bg (hl:=rfl) (hc:=(q0.1).cellsAt) rfl ?_
      obtain ⟨j6,k6,n0⟩:=bs n0
      refine AG (O:=w2) (A:=All v2) (R:=fun w' F v=>Vb w' F v j6) (HS (fun _ h=>h) (Vb.mono (F:=Fr 0 v2 w2) (Vb.ofAgg (cs:=[(.slice A9 x0.vars.length s0),(.slice t0 x0.init.length u0),(.slice v0 x0.goal.length w0),(.slice y0 x0.jobs.length z0)]) (x:=x0) rfl ⟨_,_,_,_,rfl,h8,g0,h0,d0⟩) Fr.lt) (Vb.mono (F:=Fr 0 v2 w2) (Vb.ofAgg (cs:=[(.int .i64 d1.tm),(.int .i64 d1.job)]) (x:=d1) rfl ⟨rfl,w3,x3⟩) Fr.lt) k6) rfl fun m9 n9 o9 k1 l6=>?_
      obtain ⟨rfl,p9⟩:=l6.int
      refine Ak rfl ?_
      obtain ⟨q9,z3,n0⟩:=bs n0
      have m6:=(AX z3)
      refine IY (he:=z3) rfl rfl ?_
      refine Al rfl (o_z ?_)
      obtain rfl:=sm n0
      exact show Exists _ from ⟨_,(),rfl,⟨rfl,rfl,rfl,rfl,rfl,rfl,rfl,rfl,rfl,rfl,rfl,rfl,trivial⟩,_,hB.st k1,f0.st k1,i0.st k1,h8.st k1,g0.st k1,h0.st k1,d0.st k1,l0.st k1,m6⟩
     replace n0:=im' n0 x2
     refine AK ?_
     obtain rfl:=sm n0
     exact show Exists _ from ⟨_,(),rfl,⟨rfl,rfl,rfl,rfl,rfl,rfl,rfl,rfl,rfl,rfl,rfl,rfl,trivial⟩,_,hB,f0,i0,h8,g0,h0,d0,l0,z1⟩
    rintro r9 a4 ⟨s9,t9,rfl,b4,c4,hB,f0,i0,h8,g0,h0,d0,l0,z1⟩
    replace p0:=AP p0
    refine AE _ b4 ?_
    refine Aa (Ak rfl (Bg (hl:=rfl) (hc:=(i0.1).cellsAt) rfl ?_))
    refine Ak rfl (Ak rfl ?_)
    obtain ⟨d4,n6,p0⟩:=bs p0
    refine AG (O:=c4) (A:=All a4) (R:=fun w' F v=>Vb w' F v d4) (Li (fun _ h=>h) (Vb.mono (F:=Fr 0 a4 c4) (Vb.ofAgg (cs:=[(.slice A9 x0.vars.length s0),(.slice t0 x0.init.length u0),(.slice v0 x0.goal.length w0),(.slice y0 x0.jobs.length z0)]) (x:=x0) rfl ⟨_,_,_,_,rfl,h8,g0,h0,d0⟩) Fr.lt) rk173 z1 n6) rfl fun u9 v9 w9 l1 o6=>?_
    obtain ⟨rfl,p6⟩:=o6.int
    obtain ⟨x9,y2,p0⟩:=bs p0
    obtain ⟨y2,q6,r6⟩:=AO y2
    replace l0:=l0.st l1
    refine Co rfl (a:=d4) l0 (vInt p6) (fun _=>rfl) rfl q6 r6 ⟨rfl,rfl⟩ fun y9 s6 t6 z9 aA r1 e4=>?_
    rw [← y2] at e4 ⊢
    refine Al rfl (o_z ?_)
    obtain rfl:=sm p0
    exact show Exists _ from ⟨_,(s6,t6),rfl,⟨rfl,rfl,rfl,rfl,rfl,rfl,rfl,trivial⟩,_,(hB.st l1).st r1,(f0.st l1).st r1,(i0.st l1).st r1,(h8.st l1).st r1,(g0.st l1).st r1,(h0.st l1).st r1,(d0.st l1).st r1,e4⟩
   replace hB:=hB.st b1
   replace f0:=f0.st b1
   replace h8:=h8.st b1
   replace g0:=g0.st b1
   replace h0:=h0.st b1
   rintro bA f4 ⟨cA,dA,rfl,g4,h4,hB,f0,i0,h8,g0,h0,d0,l0⟩
   replace c0:=AP c0
   refine AE _ g4 ?_
   refine Aa (Ak rfl (Bg (hl:=rfl) (hc:=(i0.1).cellsAt) rfl ?_))
   refine AB rfl (Az (hc:=Blk.cell (i:=3) (i0.1) rfl) rfl ?_)
   refine AR rfl ?_
   have u6:x0.jobs.length≤9223372036854775807:=Nat.le_trans d0.len.2.1 d0.len.2.2
   have w6:inI64 (x0.jobs.length:Int):=rngNat u6
   obtain ⟨i4,x6,c0⟩:=bs c0
   refine AG (O:=h4) (A:=All f4) (R:=fun w' F v=>Vb w' F v i4) (Li (fun _ h=>h) (Vb.mono (F:=Fr 0 f4 h4) (Vb.ofAgg (cs:=[(.slice A9 x0.vars.length s0),(.slice t0 x0.init.length u0),(.slice v0 x0.goal.length w0),(.slice y0 x0.jobs.length z0)]) (x:=x0) rfl ⟨_,_,_,_,rfl,h8,g0,h0,d0⟩) Fr.lt) w6 (show inI64 (0) from by decide) x6) rfl fun eA fA gA m1 y6=>?_
   obtain ⟨rfl,z6⟩:=y6.int
   obtain ⟨iA,z2,c0⟩:=bs c0
   obtain ⟨z2,a7,b7⟩:=AO z2
   replace l0:=l0.st m1
   refine Co rfl (a:=i4) l0 (vInt z6) (fun _=>rfl) rfl a7 b7 ⟨rfl,rfl⟩ fun jA c7 d7 kA lA s1 j4=>?_
   rw [← z2] at j4 ⊢
   refine Al rfl (o_z ?_)
   refine Aa (Ak rfl ?_)
   obtain ⟨mA,k4,c0⟩:=bs c0
   have e7:=(AX k4)
   refine Dn (he:=k4) rfl rfl ?_
   refine Al rfl (o_z ?_)
   obtain rfl:=sm c0
   exact show Exists _ from ⟨_,(c7,d7),rfl,⟨rfl,rfl,rfl,rfl,rfl,trivial⟩,_,(hB.st m1).st s1,(f0.st m1).st s1,(i0.st m1).st s1,(h8.st m1).st s1,(g0.st m1).st s1,(h0.st m1).st s1,(d0.st m1).st s1,j4,e7⟩
  replace c0:=im c0 z4
  refine o_z ?_
  refine Ah rfl (Gm ?_)
  obtain rfl:=sm c0
  exact show Exists _ from ⟨_,(n1.1,n1.2),v1 _ rfl,⟨rfl,trivial⟩,_,hB,f2,o4⟩
 replace hB:=(hB.st h2).st e2
 rintro nA f7 ⟨oA,pA,rfl,l4,qA,hB,f2,o4⟩
 replace hm:=AP hm
 refine AE _ l4 ?_
 refine Ab (Aa (Ak rfl (Al rfl (o_z ?_))))
 refine AC ?_
 obtain ⟨g7,h7,f2⟩:=f2.freeze
 obtain rfl:=sm hm
 replace hB:=hB.st h7
 exact ret1v rfl (At rfl) ⟨hB.ext,(Vb.mono (F:=Fr 0 f7 g7) f2 hB.out)⟩
end
section
open Go Go.RowKit
attribute [local irreducible] ewp owp hwp hwq Ev Evg Fn retPost Res1
attribute [local irreducible] hwx loudX
noncomputable def FC  : Option Tpl :=
  some (⟨([2]:List Int),([0]:List Int),[(⟨0,0⟩:Fct)],[(⟨(⟨#[108,105,103,104,116]⟩:ByteArray),3,[(⟨0,0⟩:Fct)],[(⟨0,1⟩:Fct)],([]:List Fct),[(⟨0,1⟩:Fct)],[(⟨0,0⟩:Fct)]⟩:Job)]⟩:Tpl)
theorem Lj {w:World} {A:Nat→Prop} (hA:∀ k,A k→k < w.heap.size)  {r:Tpl} (hm:FC  = some r) :
    Fn Tryz.prog 34 [] w fun v w'=>Ext w w'∧Vb w' (upA A w w') v r:=by
 obtain ⟨O,hB,z0⟩:=enter hA
 refine AH Tryz.func34 rfl Tryz.ntmps34 ?_
 unfold FC at hm
 refine Ab (Aa (AT 2 O fun g1 w2 O3 S4 h5=>?_))
 refine o_z ?_
 refine Ab (Aa (Eh rfl rfl ?_))
 refine AN 3 (by decide) O3 (xs:=([(⟨0,0⟩:Fct)]:List Fct)) rfl rfl rfl ⟨(Vb.ofAgg (cs:=[(.int .i64 0),(.int .i64 0)]) (x:=(⟨0,0⟩:Fct)) rfl ⟨rfl,(show inI64 0 from by decide),(show inI64 (0) from by decide)⟩),trivial⟩ (by decide) (by decide) rfl fun g6 w7 O8 S9 a0=>?_
 refine Eh rfl rfl ?_
 refine AN 4 (by decide) O8 (xs:=([(⟨0,1⟩:Fct)]:List Fct)) rfl rfl rfl ⟨(Vb.ofAgg (cs:=[(.int .i64 0),(.int .i64 1)]) (x:=(⟨0,1⟩:Fct)) rfl ⟨rfl,(show inI64 0 from by decide),(show inI64 (1) from by decide)⟩),trivial⟩ (by decide) (by decide) rfl fun s0 a1 u0 o0 d0=>?_
 refine Al rfl (Al rfl (o_z ?_))
 refine Ab (Aa (AN 5 (by decide) u0 (xs:=(([2]:List Int):List Int)) rfl rfl rfl ⟨(vInt (show inI64 (2) from by decide)),trivial⟩ (by decide) (by decide) rfl fun p0 b1 v0 n0 b0=>?_))
 refine AN 6 (by decide) v0 (xs:=(([0]:List Int):List Int)) rfl rfl rfl ⟨(vInt (show inI64 (0) from by decide)),trivial⟩ (by decide) (by decide) rfl fun q0 c1 d1 e0 c0=>?_
 refine Ak rfl (Ak rfl (Ak rfl (Ak rfl (Ak rfl (Eh rfl rfl ?_)))))
 replace a0:=((a0.st o0).st n0).st e0
 obtain ⟨e1,f0,a0⟩:=a0.freeze
 replace d0:=((d0.st n0).st e0).st f0
 obtain ⟨w0,g0,d0⟩:=d0.freeze
 replace a0:=a0.st g0
 refine AN 7 (by decide) w0 (xs:=([(⟨(⟨#[108,105,103,104,116]⟩:ByteArray),3,[(⟨0,0⟩:Fct)],[(⟨0,1⟩:Fct)],([]:List Fct),[(⟨0,1⟩:Fct)],[(⟨0,0⟩:Fct)]⟩:Job)]:List Job)) rfl rfl rfl ⟨(Vb.ofAgg (cs:=[(.string (⟨#[108,105,103,104,116]⟩:ByteArray)),(.int .i64 3),(.slice (some ⟨g6,0,none⟩) [(⟨0,0⟩:Fct)].length 1),(.slice (some ⟨s0,0,none⟩) [(⟨0,1⟩:Fct)].length 1),(.slice none 0 0),(.slice (some ⟨s0,0,none⟩) [(⟨0,1⟩:Fct)].length 1),(.slice (some ⟨g6,0,none⟩) [(⟨0,0⟩:Fct)].length 1)]) (x:=(⟨(⟨#[108,105,103,104,116]⟩:ByteArray),3,[(⟨0,0⟩:Fct)],[(⟨0,1⟩:Fct)],([]:List Fct),[(⟨0,1⟩:Fct)],[(⟨0,0⟩:Fct)]⟩:Job)) rfl ⟨_,_,_,_,_,rfl,a0,d0,(Vb.nil _ _),d0,a0,(show (⟨#[108,105,103,104,116]⟩:ByteArray).size≤9223372036854775807 from by decide),(show inI64 (3) from by decide)⟩),trivial⟩ (by decide) (by decide) rfl fun r0 f1 x0 h0 i0=>?_
 refine Eh rfl rfl ?_
 replace h5:=((((((h5.st S9).st o0).st n0).st e0).st f0).st g0).st h0
 refine AD h5 rfl rfl rfl (AL) (allOne) fun t0 j0 h5=>?_
 replace h5:Lc 2 t0 x0 g1 26 [(.slice (some ⟨p0,0,none⟩) ([2]:List Int).length 1),(.slice (some ⟨q0,0,none⟩) ([0]:List Int).length 1),(.slice (some ⟨g6,0,none⟩) [(⟨0,0⟩:Fct)].length 1),(.slice (some ⟨r0,0,none⟩) [(⟨(⟨#[108,105,103,104,116]⟩:ByteArray),3,[(⟨0,0⟩:Fct)],[(⟨0,1⟩:Fct)],([]:List Fct),[(⟨0,1⟩:Fct)],[(⟨0,0⟩:Fct)]⟩:Job)].length 1)]:=h5
 refine o_z ?_
 refine AC ?_
 replace b0:=((((b0.st e0).st f0).st g0).st h0).st j0
 obtain ⟨h1,k0,b0⟩:=b0.freeze
 replace c0:=((((c0.st f0).st g0).st h0).st j0).st k0
 obtain ⟨i1,l0,c0⟩:=c0.freeze
 replace i0:=((i0.st j0).st k0).st l0
 obtain ⟨y0,m0,i0⟩:=i0.freeze
 obtain rfl:=sm hm
 replace hB:=(((((((((((hB.st S4).st S9).st o0).st n0).st e0).st f0).st g0).st h0).st j0).st k0).st l0).st m0
 replace h5:=((h5.st k0).st l0).st m0
 replace a0:=((((a0.st h0).st j0).st k0).st l0).st m0
 replace b0:=(b0.st l0).st m0
 replace c0:=c0.st m0
 exact ret1v rfl (Gn (cs:=[(.slice (some ⟨p0,0,none⟩) ([2]:List Int).length 1),(.slice (some ⟨q0,0,none⟩) ([0]:List Int).length 1),(.slice (some ⟨g6,0,none⟩) [(⟨0,0⟩:Fct)].length 1),(.slice (some ⟨r0,0,none⟩) [(⟨(⟨#[108,105,103,104,116]⟩:ByteArray),3,[(⟨0,0⟩:Fct)],[(⟨0,1⟩:Fct)],([]:List Fct),[(⟨0,1⟩:Fct)],[(⟨0,0⟩:Fct)]⟩:Job)].length 1)]) rfl rfl h5.1.cellsAt) ⟨hB.ext,(Vb.mono (F:=Fr 0 t0 y0) (Vb.ofAgg (cs:=[(.slice (some ⟨p0,0,none⟩) ([2]:List Int).length 1),(.slice (some ⟨q0,0,none⟩) ([0]:List Int).length 1),(.slice (some ⟨g6,0,none⟩) [(⟨0,0⟩:Fct)].length 1),(.slice (some ⟨r0,0,none⟩) [(⟨(⟨#[108,105,103,104,116]⟩:ByteArray),3,[(⟨0,0⟩:Fct)],[(⟨0,1⟩:Fct)],([]:List Fct),[(⟨0,1⟩:Fct)],[(⟨0,0⟩:Fct)]⟩:Job)].length 1)]) (x:=(⟨([2]:List Int),([0]:List Int),[(⟨0,0⟩:Fct)],[(⟨(⟨#[108,105,103,104,116]⟩:ByteArray),3,[(⟨0,0⟩:Fct)],[(⟨0,1⟩:Fct)],([]:List Fct),[(⟨0,1⟩:Fct)],[(⟨0,0⟩:Fct)]⟩:Job)]⟩:Tpl)) rfl ⟨_,_,_,_,rfl,b0,c0,a0,i0⟩) hB.out)⟩
noncomputable def EH  : Option Bool :=
  bnd (FC) fun q1=>bnd (BN q1) fun q25=>bnd (FC) fun q61=>bnd (Cj q61 [(⟨0,0⟩:Lch)]) fun q93=>bnd (if q25.2.n=0 then (if q93.2.n=0 then (bnd (Fo q25.1.vars ([2,5,2,2,2,3]:List Int)) fun q119=>if q119=true then bnd (Fo q93.1 ([0,2,6,7,2,5,7,2,4,7,1]:List Int)) fun q132=>if q132=true then some true else some false else some false) else (some false)) else (some false):Option Bool) fun y107=>some y107
theorem Kz {w:World} {A:Nat→Prop} (hA:∀ k,A k→k < w.heap.size)  {r:Bool} (hm:EH  = some r) :
    Fn Tryz.prog 10 [] w fun v w'=>Ext w w'∧Vb w' (upA A w w') v r:=by
 obtain ⟨O,hB,e4⟩:=enter hA
 refine AH Tryz.func10 rfl Tryz.ntmps10 ?_
 unfold EH at hm
 refine Ab (Aa (Al rfl (o_z ?_)))
 refine Ab (Aa ?_)
 obtain ⟨q1,e2,hm⟩:=bs hm
 refine BU (O:=O) (R:=fun w' F v=>Vb w' F v q1) (Lj Fr.lt  e2) rfl fun v7 w3 O4 S5 h6=>?_
 obtain ⟨f4,rfl,v9,g4,h4,i4,rfl,p1,r1,s1,t1⟩:=h6
 obtain ⟨v1,w1,rfl⟩:=p1.form
 obtain ⟨x1,y1,rfl⟩:=r1.form
 obtain ⟨z1,a2,rfl⟩:=s1.form
 obtain ⟨b2,c2,rfl⟩:=t1.form
 obtain ⟨q0,d2,hm⟩:=bs hm
 refine BU (O:=O4) (R:=fun w' F v=>T2 w' F v q0) (Ft Fr.lt (Vb.ofAgg (cs:=[(.slice v1 q1.vars.length w1),(.slice x1 q1.init.length y1),(.slice z1 q1.goal.length a2),(.slice b2 q1.jobs.length c2)]) (x:=q1) rfl ⟨_,_,_,_,rfl,p1,r1,s1,t1⟩) d2) rfl fun j4 k4 f2 o0 g2=>?_
 obtain ⟨l4,m4,rfl,h2,i2⟩:=g2
 obtain ⟨j2,rfl,n4,o4,p4,q4,rfl,z0,k2,l2,m2⟩:=h2
 obtain ⟨n2,o2,rfl⟩:=z0.form
 obtain ⟨p2,q2,rfl⟩:=k2.form
 obtain ⟨r2,s2,rfl⟩:=l2.form
 obtain ⟨t2,u2,rfl⟩:=m2.form
 obtain ⟨rfl,r4⟩:=i2.err
 refine Ak rfl (CS rfl rfl (CS rfl rfl (AT 2 f2 fun v2 s4 u1 i0 j0=>?_)))
 refine AD j0 rfl rfl rfl (AL) (allOne) fun w2 k0 j0=>?_
 replace j0:Lc 2 w2 u1 v2 31 [(.slice n2 q0.1.vars.length o2),(.slice p2 q0.1.init.length q2),(.slice r2 q0.1.goal.length s2),(.slice t2 q0.1.ops.length u2)]:=j0
 refine Al rfl (o_z ?_)
 refine Ab (Aa ?_)
 obtain ⟨p0,x2,hm⟩:=bs hm
 refine BU (O:=u1) (R:=fun w' F v=>Vb w' F v p0) (Lj Fr.lt  x2) rfl fun t4 u4 y2 g0 z2=>?_
 obtain ⟨a3,rfl,v4,w4,x4,y4,rfl,a1,b1,c1,d1⟩:=z2
 obtain ⟨b3,c3,rfl⟩:=a1.form
 obtain ⟨d3,e3,rfl⟩:=b1.form
 obtain ⟨f3,g3,rfl⟩:=c1.form
 obtain ⟨h3,i3,rfl⟩:=d1.form
 refine Eh rfl rfl ?_
 refine AN 3 (by decide) y2 (xs:=([(⟨0,0⟩:Lch)]:List Lch)) rfl rfl rfl ⟨(Vb.ofAgg (cs:=[(.int .i64 0),(.int .i64 0)]) (x:=(⟨0,0⟩:Lch)) rfl ⟨rfl,(show inI64 0 from by decide),(show inI64 0 from by decide)⟩),trivial⟩ (by decide) (by decide) rfl fun z4 a5 b5 b0 e1=>?_
 obtain ⟨j3,c0,e1⟩:=e1.freeze
 obtain ⟨k3,l3,hm⟩:=bs hm
 replace a1:=(a1.st b0).st c0
 replace b1:=(b1.st b0).st c0
 replace c1:=(c1.st b0).st c0
 replace d1:=(d1.st b0).st c0
 refine BU (O:=j3) (R:=fun w' F v=>T2 w' F v k3) (JJ Fr.lt (Vb.ofAgg (cs:=[(.slice b3 p0.vars.length c3),(.slice d3 p0.init.length e3),(.slice f3 p0.goal.length g3),(.slice h3 p0.jobs.length i3)]) (x:=p0) rfl ⟨_,_,_,_,rfl,a1,b1,c1,d1⟩) e1 l3) rfl fun c5 d5 m3 h0 n3=>?_
 obtain ⟨o3,p3,rfl,e0,f1⟩:=n3
 obtain ⟨q3,r3,rfl⟩:=e0.form
 obtain ⟨rfl,s3⟩:=f1.err
 refine Ak rfl (CS rfl rfl (CS rfl rfl (Al rfl (Al rfl (o_z ?_)))))
 refine Ab ?_
 obtain ⟨g1,a0,hm⟩:=bs hm
 refine Au (fun l' w'=>∃ (h1:Unit) (O':Lab),subs l' [(0,(.bool g1))]∧Bs w A w' O') ?_ ?_
 ·
  refine Aa (Ak rfl (QD rfl rfl (fun l0=>?_) fun l0=>?_))
  ·
   replace a0:=ip a0 l0
   refine Ak rfl (An rfl rfl (Ak rfl (An rfl rfl (QD rfl rfl (fun m0=>?_) fun m0=>?_))))
   ·
    replace a0:=ip a0 m0
    refine BD rfl rfl (Ak rfl (An rfl rfl (AB rfl (An rfl rfl ?_))))
    replace j0:=(((j0.st g0).st b0).st c0).st h0
    refine Az (hc:=Blk.cell (i:=0) (j0.1) rfl) rfl ?_
    refine An rfl rfl (AN 4 (by decide) m3 (xs:=(([2,5,2,2,2,3]:List Int):List Int)) rfl rfl rfl ⟨(vInt (show inI64 (2) from by decide)),(vInt (show inI64 (5) from by decide)),(vInt (show inI64 (2) from by decide)),(vInt (show inI64 (2) from by decide)),(vInt (show inI64 (2) from by decide)),(vInt (show inI64 (3) from by decide)),trivial⟩ (by decide) (by decide) rfl fun t3 r0 s0 d0 i1=>?_)
    refine An rfl rfl ?_
    obtain ⟨t0,j1,a0⟩:=bs a0
    replace z0:=((((((z0.st i0).st k0).st g0).st b0).st c0).st h0).st d0
    refine AG (O:=s0) (A:=All r0) (R:=fun w' F v=>Vb w' F v t0) (Jl (fun _ h=>h) (Vb.mono (F:=Fr 0 r0 s0) z0 Fr.lt) (i1).all j1) rfl fun u3 v3 k1 f0 l1=>?_
    obtain rfl:=l1.bool
    cases t0
    case false =>
     replace a0:=iF a0
     refine BD rfl rfl (Ak rfl (Am rfl rfl (Am rfl rfl (Am rfl rfl (By rfl rfl (Al rfl (o_z ?_)))))))
     obtain rfl:=sm a0
     exact ⟨(),_,⟨rfl,trivial⟩,(((((((((hB.st S5).st o0).st i0).st k0).st g0).st b0).st c0).st h0).st d0).st f0⟩
    replace a0:=iT a0
    refine BD rfl rfl (Ak rfl (An rfl rfl (Ak rfl (An rfl rfl (AN 5 (by decide) k1 (xs:=(([0,2,6,7,2,5,7,2,4,7,1]:List Int):List Int)) rfl rfl rfl ⟨(vInt (show inI64 (0) from by decide)),(vInt (show inI64 (2) from by decide)),(vInt (show inI64 (6) from by decide)),(vInt (show inI64 (7) from by decide)),(vInt (show inI64 (2) from by decide)),(vInt (show inI64 (5) from by decide)),(vInt (show inI64 (7) from by decide)),(vInt (show inI64 (2) from by decide)),(vInt (show inI64 (4) from by decide)),(vInt (show inI64 (7) from by decide)),(vInt (show inI64 (1) from by decide)),trivial⟩ (by decide) (by decide) rfl fun x3 u0 v0 n0 m1=>?_)))))
    refine An rfl rfl ?_
    obtain ⟨w0,n1,a0⟩:=bs a0
    replace e0:=((e0.st d0).st f0).st n0
    refine AG (O:=v0) (A:=All u0) (R:=fun w' F v=>Vb w' F v w0) (Jl (fun _ h=>h) (Vb.mono (F:=Fr 0 u0 v0) e0 Fr.lt) (m1).all n1) rfl fun y3 z3 a4 x0 o1=>?_
    obtain rfl:=o1.bool
    cases w0
    case false =>
     replace a0:=iF a0
     refine BD rfl rfl (Al rfl (o_z ?_))
     obtain rfl:=sm a0
     exact ⟨(),_,⟨rfl,trivial⟩,(((((((((((hB.st S5).st o0).st i0).st k0).st g0).st b0).st c0).st h0).st d0).st f0).st n0).st x0⟩
    replace a0:=iT a0
    refine BD rfl rfl (Al rfl (o_z ?_))
    obtain rfl:=sm a0
    exact ⟨(),_,⟨rfl,trivial⟩,(((((((((((hB.st S5).st o0).st i0).st k0).st g0).st b0).st c0).st h0).st d0).st f0).st n0).st x0⟩
   replace a0:=im a0 m0
   refine BD rfl rfl (Ak rfl (Am rfl rfl (Am rfl rfl (Am rfl rfl (Am rfl rfl (By rfl rfl (Ak rfl (Am rfl rfl (Am rfl rfl (Am rfl rfl (By rfl rfl (Al rfl (o_z ?_)))))))))))))
   obtain rfl:=sm a0
   exact ⟨(),_,⟨rfl,trivial⟩,(((((((hB.st S5).st o0).st i0).st k0).st g0).st b0).st c0).st h0⟩
  replace a0:=im a0 l0
  refine Ak rfl (Am rfl rfl (Am rfl rfl (By rfl rfl (Ak rfl (Am rfl rfl (Am rfl rfl (Am rfl rfl (Am rfl rfl (By rfl rfl (Ak rfl (Am rfl rfl (Am rfl rfl (Am rfl rfl (By rfl rfl ?_))))))))))))))
  refine Al rfl (o_z ?_)
  obtain rfl:=sm a0
  exact ⟨(),_,⟨rfl,trivial⟩,(((((((hB.st S5).st o0).st i0).st k0).st g0).st b0).st c0).st h0⟩
 replace hB:=(((((((hB.st S5).st o0).st i0).st k0).st g0).st b0).st c0).st h0
 rintro b4 c4 ⟨h1,d4,y0,hB⟩
 refine AE _ y0 ?_
 refine AC ?_
 obtain rfl:=sm hm
 exact ret1v rfl (At rfl) ⟨hB.ext,vBool⟩
noncomputable def GO (x0:Tpl) (x1:List Lch):Option Bool :=
  bnd (if 70 < (x0.vars.length:Int) then (some true) else (if 30 < (x0.jobs.length:Int) then (some true) else (if 12 < (x1.length:Int) then (some true) else (if 80 < (x0.goal.length:Int) then (some true) else (some false)))):Option Bool) fun y27=>if y27=true then (some false) else (bnd (rng (ρ:=Bool) (fun (k54:Nat) (a55:Job) (s52:Unit)=>bnd (if 100 < (wr ((wr ((wr ((wr ((a55.start.length:Int) + (a55.over.length:Int))) + (a55.fin.length:Int))) + (a55.atStart.length:Int))) + (a55.atEnd.length:Int))) then (some true) else (if 300 < (a55.name.size:Int) then (some true) else (some false)):Option Bool) fun y101=>if y101=true then (some (.ret false)) else (some (.next ()))) x0.jobs 0 ()) fun res50=>fin res50 fun (s127:Unit)=>some true)
theorem PD {w:World} {A:Nat→Prop} (hA:∀ k,A k→k < w.heap.size) {vx0:Value} {x0:Tpl} (f1:Vb w A vx0 x0) {vx1:Value} {x1:List Lch} (m0:Vb w A vx1 x1) {r:Bool} (hm:GO x0 x1=some r) :
    Fn Tryz.prog 11 [vx0,vx1] w fun v w'=>Ext w w'∧Vb w' (upA A w w') v r:=by
 obtain ⟨O,hB,g2⟩:=enter hA
 replace f1:=f1.mono g2
 obtain ⟨w3,rfl,v4,v5,v6,v7,rfl,h8,l0,h0,d0⟩:=f1
 obtain ⟨A9,g1,rfl⟩:=h8.form
 obtain ⟨h1,i1,rfl⟩:=l0.form
 obtain ⟨j1,k1,rfl⟩:=h0.form
 obtain ⟨n0,o0,rfl⟩:=d0.form
 replace m0:=m0.mono g2
 obtain ⟨x3,y3,rfl⟩:=m0.form
 refine AH Tryz.func11 rfl Tryz.ntmps11 ?_
 unfold GO at hm
 refine Ab (Aa (BQ 2 O rfl fun l1 i2 j2 e0 j0=>?_))
 replace j0:Lc 2 i2 j2 l1 26 [(.slice A9 x0.vars.length g1),(.slice h1 x0.init.length i1),(.slice j1 x0.goal.length k1),(.slice n0 x0.jobs.length o0)]:=j0
 refine Al rfl (o_z ?_)
 refine Ab (Ab ?_)
 obtain ⟨k2,a0,hm⟩:=bs hm
 refine Au (fun l' w'=>∃ (l2:Unit) (O':Lab),subs l' [(2,(.pointer (some ⟨l1,0,none⟩))),(27,(.bool k2))]∧Bs w A w' O'∧Lc 2 w' O' l1 26 [(.slice A9 x0.vars.length g1),(.slice h1 x0.init.length i1),(.slice j1 x0.goal.length k1),(.slice n0 x0.jobs.length o0)]∧Vb w' (Fr 0 w' O') (.slice A9 x0.vars.length g1) x0.vars∧Vb w' (Fr 0 w' O') (.slice h1 x0.init.length i1) x0.init∧Vb w' (Fr 0 w' O') (.slice j1 x0.goal.length k1) x0.goal∧Vb w' (Fr 0 w' O') (.slice n0 x0.jobs.length o0) x0.jobs) ?_ ?_
 ·
  refine Aa (AB rfl (Az (hc:=Blk.cell (i:=0) (j0.1) rfl) rfl ?_))
  refine AR rfl ?_
  replace h8:=h8.st e0
  have m2:x0.vars.length≤9223372036854775807:=Nat.le_trans h8.len.2.1 h8.len.2.2
  have z3:inI64 (x0.vars.length:Int):=rngNat m2
  refine Dg rfl rfl (fun m1=>?_) fun m1=>?_
  ·
   replace a0:=ip a0 m1
   refine Ak rfl (Am rfl rfl (Am rfl rfl (Am rfl rfl (Am rfl rfl (BD rfl rfl (Ak rfl (Am rfl rfl (Am rfl rfl (Am rfl rfl (BD rfl rfl (Ak rfl (Am rfl rfl (Am rfl rfl (Am rfl rfl ?_))))))))))))))
   refine Am rfl rfl (BD rfl rfl (o_z ?_))
   obtain rfl:=sm a0
   exact ⟨(),_,⟨rfl,rfl,trivial⟩,hB.st e0,j0,h8,l0.st e0,h0.st e0,d0.st e0⟩
  replace a0:=im a0 m1
  refine Ak rfl (An rfl rfl (AB rfl (An rfl rfl (Az (hc:=Blk.cell (i:=3) (j0.1) rfl) rfl ?_))))
  refine An rfl rfl (AR rfl ?_)
  replace d0:=d0.st e0
  have n2:x0.jobs.length≤9223372036854775807:=Nat.le_trans d0.len.2.1 d0.len.2.2
  have a4:inI64 (x0.jobs.length:Int):=rngNat n2
  refine An rfl rfl (Dg rfl rfl (fun n1=>?_) fun n1=>?_)
  ·
   replace a0:=ip a0 n1
   refine By rfl rfl (Ak rfl (Am rfl rfl (Am rfl rfl (Am rfl rfl (BD rfl rfl (Ak rfl (Am rfl rfl (Am rfl rfl (Am rfl rfl (Am rfl rfl (BD rfl rfl (o_z ?_))))))))))))
   obtain rfl:=sm a0
   exact ⟨(),_,⟨rfl,rfl,trivial⟩,hB.st e0,j0,h8,l0.st e0,h0.st e0,d0⟩
  replace a0:=im a0 n1
  refine By rfl rfl (Ak rfl (An rfl rfl (Ak rfl (An rfl rfl (AR rfl ?_)))))
  replace m0:=m0.st e0
  have o2:x1.length≤9223372036854775807:=Nat.le_trans m0.len.2.1 m0.len.2.2
  have b4:inI64 (x1.length:Int):=rngNat o2
  refine An rfl rfl (Dg rfl rfl (fun o1=>?_) fun o1=>?_)
  ·
   replace a0:=ip a0 o1
   refine By rfl rfl (Ak rfl (Am rfl rfl (Am rfl rfl (Am rfl rfl (Am rfl rfl (BD rfl rfl (o_z ?_)))))))
   obtain rfl:=sm a0
   exact ⟨(),_,⟨rfl,rfl,trivial⟩,hB.st e0,j0,h8,l0.st e0,h0.st e0,d0⟩
  replace a0:=im a0 o1
  refine By rfl rfl (Ak rfl (An rfl rfl (AB rfl (An rfl rfl (Az (hc:=Blk.cell (i:=2) (j0.1) rfl) rfl ?_)))))
  refine An rfl rfl (AR rfl ?_)
  replace h0:=h0.st e0
  have p2:x0.goal.length≤9223372036854775807:=Nat.le_trans h0.len.2.1 h0.len.2.2
  have c4:inI64 (x0.goal.length:Int):=rngNat p2
  refine An rfl rfl (Dg rfl rfl (fun p1=>?_) fun p1=>?_)
  ·
   replace a0:=ip a0 p1
   refine By rfl rfl (o_z ?_)
   obtain rfl:=sm a0
   exact ⟨(),_,⟨rfl,rfl,trivial⟩,hB.st e0,j0,h8,l0.st e0,h0,d0⟩
  replace a0:=im a0 p1
  refine By rfl rfl (o_z ?_)
  obtain rfl:=sm a0
  exact ⟨(),_,⟨rfl,rfl,trivial⟩,hB.st e0,j0,h8,l0.st e0,h0,d0⟩
 replace hB:=hB.st e0
 replace h8:=h8.st e0
 replace l0:=l0.st e0
 replace h0:=h0.st e0
 replace d0:=d0.st e0
 rintro d4 e4 ⟨l2,q2,q1,hB,j0,h8,l0,h0,d0⟩
 refine AE _ q1 ?_
 refine Cw rfl (fun r1=>?_) (fun r1=>?_)
 ·
  replace hm:=ip hm r1
  refine Ab (Aa (Al rfl (o_z ?_)))
  refine AC ?_
  obtain rfl:=sm hm
  exact ret1v rfl (At rfl) ⟨hB.ext,vBool⟩
 replace hm:=im' hm r1
 refine AK (Ab (Ab (Aa (AB rfl (Az (hc:=Blk.cell (i:=3) (j0.1) rfl) rfl ?_)))))
 refine AR rfl ?_
 have s1:x0.jobs.length≤9223372036854775807:=Nat.le_trans d0.len.2.1 d0.len.2.2
 have f4:inI64 (x0.jobs.length:Int):=rngNat s1
 refine Ak rfl (o_z ?_)
 obtain ⟨t0,t1,hm⟩:=bs hm
 refine Au (aft t0 (fun (d1:Unit) (e1:Unit)=>[]) (fun d1 e1 w'=>∃ O':Lab,Bs w A w' O')) ?_ ?_
 ·
  refine AJ (Bh (σ:=Unit) (X:=Unit) (x0.jobs.length) t1 rfl s1 (fun (d1:Unit) (e1:Unit)=>[(29,(.slice n0 x0.jobs.length o0))]) _ (fun d1 e1 w'=>∃ O':Lab,Bs w A w' O'∧Vb w' (Fr 0 w' O') (.slice n0 x0.jobs.length o0) x0.jobs) _ () ⟨q2,hB,d0⟩ ⟨rfl,rfl,rfl,trivial⟩ (fun _ _=>⟨rfl,rfl⟩) (fun _ _=>trivial) (fun _ _ _ ⟨O',hB,d0⟩=>⟨O',hB⟩) ⟨rfl,rfl,rfl⟩ ⟨rfl,rfl⟩ ?_)
  rintro h2 f0 d1 e1 g4 r2 u0 ⟨s2,hB,d0⟩ g0 p0 u1
  have rk54:inI64 (h2:Int):=rngK u0 s1
  refine Ab (Aa ?_)
  obtain ⟨h4,i4,t2,v1,w1,y1,j4,k4,l4,m4,n4,rfl,v0,w0,y0,z0,a1,u2,o4⟩:=d0.elem' u0
  obtain ⟨v2,w2,rfl⟩:=v0.form
  obtain ⟨x2,y2,rfl⟩:=w0.form
  obtain ⟨z2,a3,rfl⟩:=y0.form
  obtain ⟨b3,c3,rfl⟩:=z0.form
  obtain ⟨d3,e3,rfl⟩:=a1.form
  refine Bv (hA:=v1) (hj:=rfl) (hlt:=w1) rfl rfl ?_
  refine Bg (hl:=rfl) (hc:=y1) rfl ?_
  refine AT 3 s2 fun f3 p4 g3 i0 k0=>?_
  refine AD k0 rfl rfl rfl (AL) (allOne) fun h3 c0 k0=>?_
  replace k0:Lc 3 h3 g3 f3 66 [(.string f0.name),(.int .i64 f0.dur),(.slice v2 f0.start.length w2),(.slice x2 f0.over.length y2),(.slice z2 f0.fin.length a3),(.slice b3 f0.atStart.length c3),(.slice d3 f0.atEnd.length e3)]:=k0
  refine o_z ?_
  refine Ab ?_
  obtain ⟨z1,b0,g0⟩:=bs g0
  refine Au (fun l' w'=>∃ (a2:Unit) (O':Lab),subs l' [(29,(.slice n0 x0.jobs.length o0)),(30,(.int .i64 (x0.jobs.length:Int))),(31,(.int .i64 (h2:Int))),(60,(.bool z1))]∧Bs w A w' O'∧Vb w' (Fr 0 w' O') (.slice n0 x0.jobs.length o0) x0.jobs) ?_ ?_
  ·
   refine Aa (AB rfl (Az (hc:=Blk.cell (i:=2) (k0.1) rfl) rfl ?_))
   refine AR rfl ?_
   replace v0:=(v0.st i0).st c0
   have b2:f0.start.length≤9223372036854775807:=Nat.le_trans v0.len.2.1 v0.len.2.2
   have i3:inI64 (f0.start.length:Int):=rngNat b2
   refine AB rfl (Az (hc:=Blk.cell (i:=3) (k0.1) rfl) rfl ?_)
   refine AR rfl ?_
   replace w0:=(w0.st i0).st c0
   have c2:f0.over.length≤9223372036854775807:=Nat.le_trans w0.len.2.1 w0.len.2.2
   have j3:inI64 (f0.over.length:Int):=rngNat c2
   refine Ox rfl rfl rfl ?_
   refine AB rfl (Az (hc:=Blk.cell (i:=4) (k0.1) rfl) rfl ?_)
   refine AR rfl ?_
   replace y0:=(y0.st i0).st c0
   have d2:f0.fin.length≤9223372036854775807:=Nat.le_trans y0.len.2.1 y0.len.2.2
   have k3:inI64 (f0.fin.length:Int):=rngNat d2
   refine Ox rfl rfl rfl ?_
   refine AB rfl (Az (hc:=Blk.cell (i:=5) (k0.1) rfl) rfl ?_)
   refine AR rfl ?_
   replace z0:=(z0.st i0).st c0
   have e2:f0.atStart.length≤9223372036854775807:=Nat.le_trans z0.len.2.1 z0.len.2.2
   have l3:inI64 (f0.atStart.length:Int):=rngNat e2
   refine Ox rfl rfl rfl ?_
   refine AB rfl (Az (hc:=Blk.cell (i:=6) (k0.1) rfl) rfl ?_)
   refine AR rfl ?_
   replace a1:=(a1.st i0).st c0
   have f2:f0.atEnd.length≤9223372036854775807:=Nat.le_trans a1.len.2.1 a1.len.2.2
   have m3:inI64 (f0.atEnd.length:Int):=rngNat f2
   refine Ox rfl rfl rfl ?_
   refine Dg rfl rfl (fun q0=>?_) fun q0=>?_
   ·
    replace b0:=ip b0 q0
    refine Ak rfl (Am rfl rfl (Am rfl rfl (Am rfl rfl (Am rfl rfl (BD rfl rfl (o_z ?_))))))
    obtain rfl:=sm b0
    exact ⟨(),_,⟨rfl,rfl,rfl,rfl,trivial⟩,(hB.st i0).st c0,(d0.st i0).st c0⟩
   replace b0:=im b0 q0
   refine Ak rfl (An rfl rfl (AB rfl (An rfl rfl (Az (hc:=Blk.cell (i:=0) (k0.1) rfl) rfl ?_))))
   refine An rfl rfl (Nh rfl rfl ?_)
   have n3:inI64 (f0.name.size:Int):=rngNat u2
   refine An rfl rfl (Dg rfl rfl (fun r0=>?_) fun r0=>?_)
   ·
    replace b0:=ip b0 r0
    refine By rfl rfl (o_z ?_)
    obtain rfl:=sm b0
    exact ⟨(),_,⟨rfl,rfl,rfl,rfl,trivial⟩,(hB.st i0).st c0,(d0.st i0).st c0⟩
   replace b0:=im b0 r0
   refine By rfl rfl (o_z ?_)
   obtain rfl:=sm b0
   exact ⟨(),_,⟨rfl,rfl,rfl,rfl,trivial⟩,(hB.st i0).st c0,(d0.st i0).st c0⟩
  replace hB:=(hB.st i0).st c0
  replace d0:=(d0.st i0).st c0
  rintro o3 p3 ⟨a2,q3,b1,hB,d0⟩
  refine AE _ b1 ?_
  refine Cw rfl (fun s0=>?_) (fun s0=>?_)
  ·
   replace g0:=ip g0 s0
   refine Ab (Aa (Al rfl (o_z ?_)))
   refine AC ?_
   obtain rfl:=sm g0
   obtain rfl:=p0 _ rfl
   obtain rfl:=sm (CG hm)
   exact ret1v rfl (At rfl) ⟨hB.ext,vBool⟩
  replace g0:=im' g0 s0
  refine AK ?_
  obtain rfl:=sm g0
  exact show Exists _ from ⟨_,(),rfl,⟨rfl,rfl,rfl,trivial⟩,_,hB,d0⟩
 rintro r3 s3 ⟨t3,u3,rfl,c1,v3,hB⟩
 replace hm:=AP hm
 refine AE _ c1 ?_
 refine Ab (Aa (Al rfl (o_z ?_)))
 refine AC ?_
 obtain rfl:=sm hm
 exact ret1v rfl (At rfl) ⟨hB.ext,vBool⟩
noncomputable def FX (x0:List Lch) (x1:List Lch):Option Bool :=
  if (x0.length:Int)≠(x1.length:Int) then (some false) else (bnd (rng (ρ:=Bool) (fun (k18:Nat) (a19:Lch) (s16:Unit)=>bnd (x1[k18]?) fun a38=>if ¬ (a19.tm=a38.tm∧a19.job=a38.job) then (some (.ret false)) else (some (.next ()))) x0 0 ()) fun res14=>fin res14 fun (s54:Unit)=>some true)
theorem Oh {w:World} {A:Nat→Prop} (hA:∀ k,A k→k < w.heap.size) {vx0:Value} {x0:List Lch} (b0:Vb w A vx0 x0) {vx1:Value} {x1:List Lch} (c0:Vb w A vx1 x1) {r:Bool} (hm:FX x0 x1=some r) :
    Fn Tryz.prog 27 [vx0,vx1] w fun v w'=>Ext w w'∧Vb w' (upA A w w') v r:=by
 obtain ⟨O,hB,u0⟩:=enter hA
 replace b0:=b0.mono u0
 obtain ⟨A3,c4,rfl⟩:=b0.form
 replace c0:=c0.mono u0
 obtain ⟨A5,c6,rfl⟩:=c0.form
 refine AH Tryz.func27 rfl Tryz.ntmps27 ?_
 unfold FX at hm
 refine Ab (Aa (Al rfl (o_z ?_)))
 refine Ab (Ab (Aa (Ak rfl (AR rfl ?_))))
 have l8:x0.length≤9223372036854775807:=Nat.le_trans b0.len.2.1 b0.len.2.2
 have r7:inI64 (x0.length:Int):=rngNat l8
 refine Ak rfl (AR rfl ?_)
 have v0:x1.length≤9223372036854775807:=Nat.le_trans c0.len.2.1 c0.len.2.2
 have r9:inI64 (x1.length:Int):=rngNat v0
 refine Oo rfl rfl rfl (fun i0=>?_) fun i0=>?_
 ·
  replace hm:=ip hm i0
  refine o_z ?_
  refine Aj rfl (Ab (Aa (Al rfl (o_z ?_))))
  refine AC ?_
  obtain rfl:=sm hm
  exact ret1v rfl (At rfl) ⟨hB.ext,vBool⟩
 replace hm:=im hm i0
 refine o_z ?_
 refine Ah rfl (AK (Ab (Ab (Aa (Ak rfl (AR rfl ?_))))))
 have j0:x0.length≤9223372036854775807:=Nat.le_trans b0.len.2.1 b0.len.2.2
 have d1:inI64 (x0.length:Int):=rngNat j0
 refine Ak rfl (o_z ?_)
 obtain ⟨e0,k0,hm⟩:=bs hm
 refine Au (aft e0 (fun (g0:Unit) (h0:Unit)=>[]) (fun g0 h0 w'=>∃ O':Lab,Bs w A w' O')) ?_ ?_
 ·
  refine AJ (Bh (σ:=Unit) (X:=Unit) (x0.length) k0 rfl j0 (fun (g0:Unit) (h0:Unit)=>[(0,(.slice A3 x0.length c4)),(1,(.slice A5 x1.length c6))]) _ (fun g0 h0 w'=>∃ O':Lab,Bs w A w' O'∧Vb w' (Fr 0 w' O') (.slice A3 x0.length c4) x0∧Vb w' (Fr 0 w' O') (.slice A5 x1.length c6) x1) _ () ⟨O,hB,b0,c0⟩ ⟨rfl,rfl,rfl,rfl,trivial⟩ (fun _ _=>⟨rfl,rfl⟩) (fun _ _=>trivial) (fun _ _ _ ⟨O',hB,b0,c0⟩=>⟨O',hB⟩) ⟨rfl,rfl,rfl⟩ ⟨rfl,rfl⟩ ?_)
  rintro w0 e1 g0 h0 y0 z0 f0 ⟨f1,hB,b0,c0⟩ a0 d0 l0
  have rk18:inI64 (w0:Int):=rngK f0 j0
  refine Ab (Aa (Ak rfl (Al rfl (o_z ?_))))
  refine Ab (Fl (·=y0) [(0,true),(1,true),(2,true),(3,true),(4,true),(5,true),(6,true),(7,true),(8,true)] rfl rfl ?_)
  refine Bp rfl rfl (Bp rfl rfl ?_)
  obtain ⟨g1,h1,a1,m0,n0,o0,rfl,i1,j1⟩:=b0.elem' f0
  refine EF (hA:=m0) (hj:=rfl) (hlt:=n0) rfl rfl rfl ?_
  refine Oq (hl:=rfl) (hc:=o0) rfl rfl rfl ?_
  refine Bp rfl rfl (Bp rfl rfl ?_)
  obtain ⟨k1,b1,a0⟩:=bs a0
  obtain ⟨l1,m1,c1,p0,q0,r0,rfl,n1,o1⟩:=c0.elem' b1
  refine EF (hA:=p0) (hj:=rfl) (hlt:=q0) rfl rfl rfl ?_
  refine Oq (hl:=rfl) (hc:=r0) rfl rfl rfl ?_
  refine Vu rfl rfl rfl rfl (fun s0=>?_) fun s0=>?_
  ·
   replace a0:=ip a0 s0
   refine h_z ?_
   refine Aj rfl (Ab (Aa (Al rfl (o_z ?_))))
   refine AC ?_
   obtain rfl:=sm a0
   obtain rfl:=d0 _ rfl
   obtain rfl:=sm (CG hm)
   exact ret1v rfl (At rfl) ⟨hB.ext,vBool⟩
  replace a0:=im a0 s0
  refine h_z ?_
  refine Ah rfl (AK ?_)
  obtain rfl:=sm a0
  exact show Exists _ from ⟨_,(),rfl,⟨rfl,rfl,rfl,rfl,trivial⟩,_,hB,b0,c0⟩
 rintro p1 q1 ⟨r1,s1,rfl,t0,t1,hB⟩
 replace hm:=AP hm
 refine AE _ t0 ?_
 refine Ab (Aa (Al rfl (o_z ?_)))
 refine AC ?_
 obtain rfl:=sm hm
 exact ret1v rfl (At rfl) ⟨hB.ext,vBool⟩
noncomputable def EP (x0:Tpl) (x1:List Lch):Option Bool :=
  bnd (bnd (EH) fun q31=>if q31=true then bnd (GO x0 x1) fun q38=>if q38=true then some false else some true else some true:Option Bool) fun y27=>if y27=true then (bnd (bnd (EH) fun q54=>if q54=true then some true else some false:Option Bool) fun y50=>some y50) else (bnd (rng (ρ:=Bool) (fun (k71:Nat) (a72:Lch) (s69:Unit)=>bnd (if 200 < a72.tm then (if a72.tm≤1048576 then (some true) else (some false)) else (some false):Option Bool) fun y98=>if y98=true then (some (.ret true)) else (some (.next ()))) x1 0 ()) fun res67=>fin res67 fun (s113:Unit)=>bnd (Cf x0 x1) fun q115=>bnd (Cj x0 x1) fun q128=>if q115.2.n≠0 then (bnd (if (q128.1.length:Int)=0 then (bnd (GC (⟨q115.2.n⟩:Err)) fun q150=>bnd (GC (⟨q128.2.n⟩:Err)) fun q158=>if q150=q158 then (some true) else (some false)) else (some false):Option Bool) fun y143=>some y143) else (bnd (BN x0) fun q171=>if q171.2.n≠0 then (bnd (if (q128.1.length:Int)=0 then (bnd (GC (⟨q171.2.n⟩:Err)) fun q215=>bnd (GC (⟨q128.2.n⟩:Err)) fun q223=>if q215=q223 then (some true) else (some false)) else (some false):Option Bool) fun y208=>some y208) else (bnd (if q128.2.n≠0 then (some true) else (bnd (FB x0 x1) fun q241=>bnd (Fo q128.1 q241) fun q250=>if q250=true then some false else some true):Option Bool) fun y236=>if y236=true then (some false) else (bnd (GN q171.1 q171.1.init q128.1) fun q262=>bnd (DD x0 q128.1) fun q274=>bnd (if q262.2=true then (if q262.1=q115.1 then (if q274.2.n=0 then (bnd (FA x1) fun q295=>bnd (FX q274.1 q295) fun q304=>if q304=true then some true else some false) else (some false)) else (some false)) else (some false):Option Bool) fun y288=>some y288))))
theorem Km {w:World} {A:Nat→Prop} (hA:∀ k,A k→k < w.heap.size) {vx0:Value} {x0:Tpl} (f4:Vb w A vx0 x0) {vx1:Value} {x1:List Lch} (k0:Vb w A vx1 x1) {r:Bool} (hm:EP x0 x1=some r) :
    Fn Tryz.prog 5 [vx0,vx1] w fun v w'=>Ext w w'∧Vb w' (upA A w w') v r:=by
 obtain ⟨O,hB,d7⟩:=enter hA
 replace f4:=f4.mono d7
 obtain ⟨cB,rfl,v4,v5,v6,v7,rfl,h8,l0,m0,n0⟩:=f4
 obtain ⟨A9,b1,rfl⟩:=h8.form
 obtain ⟨c1,d1,rfl⟩:=l0.form
 obtain ⟨e1,f1,rfl⟩:=m0.form
 obtain ⟨g1,h1,rfl⟩:=n0.form
 replace k0:=k0.mono d7
 obtain ⟨r1,s1,rfl⟩:=k0.form
 refine AH Tryz.func5 rfl Tryz.ntmps5 ?_
 unfold EP at hm
 refine Ab (Aa (BQ 2 O rfl fun t1 e7 f7 z0 q0=>?_))
 replace q0:Lc 2 e7 f7 t1 26 [(.slice A9 x0.vars.length b1),(.slice c1 x0.init.length d1),(.slice e1 x0.goal.length f1),(.slice g1 x0.jobs.length h1)]:=q0
 refine Al rfl (o_z ?_)
 refine Ab (Ab ?_)
 obtain ⟨o7,s0,hm⟩:=bs hm
 refine Au (fun l' w'=>∃ (p7:Unit) (O':Lab),subs l' [(1,(.slice r1 x1.length s1)),(2,(.pointer (some ⟨t1,0,none⟩))),(22,(.bool o7))]∧Bs w A w' O'∧Vb w' (Fr 0 w' O') (.slice r1 x1.length s1) x1∧Lc 2 w' O' t1 26 [(.slice A9 x0.vars.length b1),(.slice c1 x0.init.length d1),(.slice e1 x0.goal.length f1),(.slice g1 x0.jobs.length h1)]∧Vb w' (Fr 0 w' O') (.slice A9 x0.vars.length b1) x0.vars∧Vb w' (Fr 0 w' O') (.slice c1 x0.init.length d1) x0.init∧Vb w' (Fr 0 w' O') (.slice e1 x0.goal.length f1) x0.goal∧Vb w' (Fr 0 w' O') (.slice g1 x0.jobs.length h1) x0.jobs) ?_ ?_
 ·
  refine Aa ?_
  obtain ⟨g7,q7,s0⟩:=bs s0
  refine AG (O:=f7) (A:=All e7) (R:=fun w' F v=>Vb w' F v g7) (Kz (fun _ h=>h)  q7) rfl fun dB g4 h4 o1 r7=>?_
  obtain rfl:=r7.bool
  cases g7
  case false =>
   replace s0:=iF s0
   refine Fd rfl (Ak rfl (Am rfl rfl (Am rfl rfl (Am rfl rfl (Am rfl rfl (BD rfl rfl (o_z ?_)))))))
   obtain rfl:=sm s0
   exact ⟨(),_,⟨rfl,rfl,rfl,trivial⟩,(hB.st z0).st o1,(k0.st z0).st o1,q0.st o1,(h8.st z0).st o1,(l0.st z0).st o1,(m0.st z0).st o1,(n0.st z0).st o1⟩
  replace s0:=iT s0
  refine Fc rfl (Ak rfl (An rfl rfl ?_))
  replace q0:=q0.st o1
  refine Bg (hl:=rfl) (hc:=(q0.1).cellsAt) rfl ?_
  refine An rfl rfl (Ak rfl (An rfl rfl ?_))
  obtain ⟨h7,s7,s0⟩:=bs s0
  replace k0:=(k0.st z0).st o1
  replace h8:=(h8.st z0).st o1
  replace l0:=(l0.st z0).st o1
  replace m0:=(m0.st z0).st o1
  replace n0:=(n0.st z0).st o1
  refine AG (O:=h4) (A:=All g4) (R:=fun w' F v=>Vb w' F v h7) (PD (fun _ h=>h) (Vb.mono (F:=Fr 0 g4 h4) (Vb.ofAgg (cs:=[(.slice A9 x0.vars.length b1),(.slice c1 x0.init.length d1),(.slice e1 x0.goal.length f1),(.slice g1 x0.jobs.length h1)]) (x:=x0) rfl ⟨_,_,_,_,rfl,h8,l0,m0,n0⟩) Fr.lt) (Vb.mono (F:=Fr 0 g4 h4) k0 Fr.lt) s7) rfl fun eB fB gB q1 t7=>?_
  obtain rfl:=t7.bool
  cases h7
  case false =>
   replace s0:=iF s0
   refine An rfl rfl (Fd rfl (By rfl rfl (o_z ?_)))
   obtain rfl:=sm s0
   exact ⟨(),_,⟨rfl,rfl,rfl,trivial⟩,((hB.st z0).st o1).st q1,k0.st q1,q0.st q1,h8.st q1,l0.st q1,m0.st q1,n0.st q1⟩
  replace s0:=iT s0
  refine An rfl rfl (Fc rfl (By rfl rfl (o_z ?_)))
  obtain rfl:=sm s0
  exact ⟨(),_,⟨rfl,rfl,rfl,trivial⟩,((hB.st z0).st o1).st q1,k0.st q1,q0.st q1,h8.st q1,l0.st q1,m0.st q1,n0.st q1⟩
 replace hB:=hB.st z0
 replace k0:=k0.st z0
 replace h8:=h8.st z0
 replace l0:=l0.st z0
 replace m0:=m0.st z0
 replace n0:=n0.st z0
 rintro iB u7 ⟨p7,i7,i4,hB,k0,q0,h8,l0,m0,n0⟩
 refine AE _ i4 ?_
 refine Cw rfl (fun j4=>?_) (fun j4=>?_)
 ·
  replace hm:=ip hm j4
  refine Ab ?_
  obtain ⟨w7,i1,hm⟩:=bs hm
  refine Au (fun l' w'=>∃ (x7:Unit) (O':Lab),subs l' [(4,(.bool w7))]∧Bs w A w' O') ?_ ?_
  ·
   refine Aa ?_
   obtain ⟨j7,y7,i1⟩:=bs i1
   refine AG (O:=i7) (A:=All u7) (R:=fun w' F v=>Vb w' F v j7) (Kz (fun _ h=>h)  y7) rfl fun jB kB lB k7 z7=>?_
   obtain rfl:=z7.bool
   cases j7
   case false =>
    replace i1:=iF i1
    refine Al rfl (o_z ?_)
    obtain rfl:=sm i1
    exact ⟨(),_,⟨rfl,trivial⟩,hB.st k7⟩
   replace i1:=iT i1
   refine Al rfl (o_z ?_)
   obtain rfl:=sm i1
   exact ⟨(),_,⟨rfl,trivial⟩,hB.st k7⟩
  rintro mB nB ⟨x7,oB,k4,hB⟩
  refine AE _ k4 ?_
  refine AC ?_
  obtain rfl:=sm hm
  exact ret1v rfl (At rfl) ⟨hB.ext,vBool⟩
 replace hm:=im' hm j4
 refine AK (Ab (Ab (Aa (Ak rfl (AR rfl ?_)))))
 have l4:x1.length≤9223372036854775807:=Nat.le_trans k0.len.2.1 k0.len.2.2
 have pB:inI64 (x1.length:Int):=rngNat l4
 refine Ak rfl (o_z ?_)
 obtain ⟨f3,m4,hm⟩:=bs hm
 refine Au (aft f3 (fun (d4:Unit) (e4:Unit)=>[(1,(.slice r1 x1.length s1)),(2,(.pointer (some ⟨t1,0,none⟩)))]) (fun d4 e4 w'=>∃ O':Lab,Bs w A w' O'∧Vb w' (Fr 0 w' O') (.slice r1 x1.length s1) x1∧Lc 2 w' O' t1 26 [(.slice A9 x0.vars.length b1),(.slice c1 x0.init.length d1),(.slice e1 x0.goal.length f1),(.slice g1 x0.jobs.length h1)]∧Vb w' (Fr 0 w' O') (.slice A9 x0.vars.length b1) x0.vars∧Vb w' (Fr 0 w' O') (.slice c1 x0.init.length d1) x0.init∧Vb w' (Fr 0 w' O') (.slice e1 x0.goal.length f1) x0.goal∧Vb w' (Fr 0 w' O') (.slice g1 x0.jobs.length h1) x0.jobs)) ?_ ?_
 ·
  refine AJ (Bh (σ:=Unit) (X:=Unit) (x1.length) m4 rfl l4 (fun (d4:Unit) (e4:Unit)=>[(1,(.slice r1 x1.length s1)),(2,(.pointer (some ⟨t1,0,none⟩))),(24,(.slice r1 x1.length s1))]) _ (fun d4 e4 w'=>∃ O':Lab,Bs w A w' O'∧Vb w' (Fr 0 w' O') (.slice r1 x1.length s1) x1∧Lc 2 w' O' t1 26 [(.slice A9 x0.vars.length b1),(.slice c1 x0.init.length d1),(.slice e1 x0.goal.length f1),(.slice g1 x0.jobs.length h1)]∧Vb w' (Fr 0 w' O') (.slice A9 x0.vars.length b1) x0.vars∧Vb w' (Fr 0 w' O') (.slice c1 x0.init.length d1) x0.init∧Vb w' (Fr 0 w' O') (.slice e1 x0.goal.length f1) x0.goal∧Vb w' (Fr 0 w' O') (.slice g1 x0.jobs.length h1) x0.jobs) _ () ⟨i7,hB,k0,q0,h8,l0,m0,n0⟩ ⟨rfl,rfl,rfl,rfl,rfl,trivial⟩ (fun _ _=>⟨rfl,rfl⟩) (fun _ _=>⟨rfl,rfl,trivial⟩) (fun _ _ _ ⟨O',hB,k0,q0,h8,l0,m0,n0⟩=>⟨O',hB,k0,q0,h8,l0,m0,n0⟩) ⟨rfl,rfl,rfl⟩ ⟨rfl,rfl⟩ ?_)
  rintro l7 m7 d4 e4 qB a8 g3 ⟨b8,hB,k0,q0,h8,l0,m0,n0⟩ j1 h2 n4
  have rk71:inI64 (l7:Int):=rngK g3 l4
  refine Ab (Aa ?_)
  obtain ⟨rB,sB,c8,o4,p4,q4,rfl,tB,uB⟩:=k0.elem' g3
  refine Bv (hA:=o4) (hj:=rfl) (hlt:=p4) rfl rfl ?_
  refine Bg (hl:=rfl) (hc:=q4) rfl ?_
  refine AT 3 b8 fun d8 vB e8 t0 e3=>?_
  refine AD e3 rfl rfl rfl (AL) (allOne) fun f8 u0 e3=>?_
  replace e3:Lc 3 f8 e8 d8 52 [(.int .i64 m7.tm),(.int .i64 m7.job)]:=e3
  refine o_z ?_
  refine Ab ?_
  obtain ⟨g8,w0,j1⟩:=bs j1
  refine Au (fun l' w'=>∃ (r4:Unit) (O':Lab),subs l' [(1,(.slice r1 x1.length s1)),(2,(.pointer (some ⟨t1,0,none⟩))),(24,(.slice r1 x1.length s1)),(25,(.int .i64 (x1.length:Int))),(26,(.int .i64 (l7:Int))),(37,(.bool g8))]∧Bs w A w' O'∧Vb w' (Fr 0 w' O') (.slice r1 x1.length s1) x1∧Lc 2 w' O' t1 26 [(.slice A9 x0.vars.length b1),(.slice c1 x0.init.length d1),(.slice e1 x0.goal.length f1),(.slice g1 x0.jobs.length h1)]∧Vb w' (Fr 0 w' O') (.slice A9 x0.vars.length b1) x0.vars∧Vb w' (Fr 0 w' O') (.slice c1 x0.init.length d1) x0.init∧Vb w' (Fr 0 w' O') (.slice e1 x0.goal.length f1) x0.goal∧Vb w' (Fr 0 w' O') (.slice g1 x0.jobs.length h1) x0.jobs) ?_ ?_
  ·
   refine Aa (AB rfl (Az (hc:=Blk.cell (i:=0) (e3.1) rfl) rfl ?_))
   refine Dg rfl rfl (fun i2=>?_) fun i2=>?_
   ·
    replace w0:=ip w0 i2
    refine Ak rfl (An rfl rfl (AB rfl (An rfl rfl (Az (hc:=Blk.cell (i:=0) (e3.1) rfl) rfl ?_))))
    refine An rfl rfl (IS rfl rfl (fun j2=>?_) fun j2=>?_)
    ·
     replace w0:=ip w0 j2
     refine BD rfl rfl (o_z ?_)
     obtain rfl:=sm w0
     exact ⟨(),_,⟨rfl,rfl,rfl,rfl,rfl,rfl,trivial⟩,(hB.st t0).st u0,(k0.st t0).st u0,(q0.st t0).st u0,(h8.st t0).st u0,(l0.st t0).st u0,(m0.st t0).st u0,(n0.st t0).st u0⟩
    replace w0:=im w0 j2
    refine BD rfl rfl (o_z ?_)
    obtain rfl:=sm w0
    exact ⟨(),_,⟨rfl,rfl,rfl,rfl,rfl,rfl,trivial⟩,(hB.st t0).st u0,(k0.st t0).st u0,(q0.st t0).st u0,(h8.st t0).st u0,(l0.st t0).st u0,(m0.st t0).st u0,(n0.st t0).st u0⟩
   replace w0:=im w0 i2
   refine Ak rfl (Am rfl rfl (Am rfl rfl (Am rfl rfl (By rfl rfl (o_z ?_)))))
   obtain rfl:=sm w0
   exact ⟨(),_,⟨rfl,rfl,rfl,rfl,rfl,rfl,trivial⟩,(hB.st t0).st u0,(k0.st t0).st u0,(q0.st t0).st u0,(h8.st t0).st u0,(l0.st t0).st u0,(m0.st t0).st u0,(n0.st t0).st u0⟩
  replace hB:=(hB.st t0).st u0
  replace k0:=(k0.st t0).st u0
  replace h8:=(h8.st t0).st u0
  replace l0:=(l0.st t0).st u0
  replace m0:=(m0.st t0).st u0
  replace n0:=(n0.st t0).st u0
  replace q0:=(q0.st t0).st u0
  rintro i8 j8 ⟨r4,k8,h3,hB,k0,q0,h8,l0,m0,n0⟩
  refine AE _ h3 ?_
  refine Cw rfl (fun k2=>?_) (fun k2=>?_)
  ·
   replace j1:=ip j1 k2
   refine Ab (Aa (Al rfl (o_z ?_)))
   refine AC ?_
   obtain rfl:=sm j1
   obtain rfl:=h2 _ rfl
   obtain rfl:=sm (CG hm)
   exact ret1v rfl (At rfl) ⟨hB.ext,vBool⟩
  replace j1:=im' j1 k2
  refine AK ?_
  obtain rfl:=sm j1
  exact show Exists _ from ⟨_,(),rfl,⟨rfl,rfl,rfl,rfl,rfl,trivial⟩,_,hB,k0,q0,h8,l0,m0,n0⟩
 rintro l8 l2 ⟨m8,n8,rfl,i3,m2,hB,k0,q0,h8,l0,m0,n0⟩
 replace hm:=AP hm
 refine AE _ i3 ?_
 refine Ab (Aa (Bg (hl:=rfl) (hc:=(q0.1).cellsAt) rfl ?_))
 refine Ak rfl ?_
 obtain ⟨j3,s4,hm⟩:=bs hm
 refine AG (O:=m2) (A:=All l2) (R:=fun w' F v=>T2 w' F v j3) (HD (fun _ h=>h) (Vb.mono (F:=Fr 0 l2 m2) (Vb.ofAgg (cs:=[(.slice A9 x0.vars.length b1),(.slice c1 x0.init.length d1),(.slice e1 x0.goal.length f1),(.slice g1 x0.jobs.length h1)]) (x:=x0) rfl ⟨_,_,_,_,rfl,h8,l0,m0,n0⟩) Fr.lt) (Vb.mono (F:=Fr 0 l2 m2) k0 Fr.lt) s4) rfl fun o8 p8 t4 r0 u4=>?_
 obtain ⟨q8,r8,rfl,w4,x4⟩:=u4
 obtain ⟨rfl,s8⟩:=w4.int
 obtain ⟨rfl,y4⟩:=x4.err
 refine Ak rfl (CS rfl rfl (CS rfl rfl (Al rfl (Al rfl (o_z ?_)))))
 refine Ab (Aa ?_)
 replace q0:=q0.st r0
 refine Bg (hl:=rfl) (hc:=(q0.1).cellsAt) rfl ?_
 refine Ak rfl ?_
 obtain ⟨k1,z4,hm⟩:=bs hm
 replace k0:=k0.st r0
 replace h8:=h8.st r0
 replace l0:=l0.st r0
 replace m0:=m0.st r0
 replace n0:=n0.st r0
 refine BU (O:=t4) (R:=fun w' F v=>T2 w' F v k1) (JJ Fr.lt (Vb.ofAgg (cs:=[(.slice A9 x0.vars.length b1),(.slice c1 x0.init.length d1),(.slice e1 x0.goal.length f1),(.slice g1 x0.jobs.length h1)]) (x:=x0) rfl ⟨_,_,_,_,rfl,h8,l0,m0,n0⟩) k0 z4) rfl fun t8 a5 k3 o0 b5=>?_
 obtain ⟨u8,v8,rfl,p0,c5⟩:=b5
 obtain ⟨l3,m3,rfl⟩:=p0.form
 obtain ⟨rfl,n3⟩:=c5.err
 refine Ak rfl (CS rfl rfl (CS rfl rfl (Al rfl (Al rfl (o_z ?_)))))
 refine Ab (Ab (Aa (Ak rfl (Gi rfl (fun n2=>?_) fun n2=>?_))))
 ·
  replace hm:=ip hm n2
  refine o_z ?_
  refine Aj rfl (Ab ?_)
  obtain ⟨d5,g0,hm⟩:=bs hm
  refine Au (fun l' w'=>∃ (e5:Unit) (O':Lab),subs l' [(4,(.bool d5))]∧Bs w A w' O') ?_ ?_
  ·
   refine Aa (Ak rfl (AR rfl ?_))
   have f5:k1.1.length≤9223372036854775807:=Nat.le_trans p0.len.2.1 p0.len.2.2
   have w8:inI64 (k1.1.length:Int):=rngNat f5
   refine EZ rfl rfl (fun o2=>?_) fun o2=>?_
   ·
    replace g0:=ip g0 o2
    refine Ak rfl (An rfl rfl (Ak rfl (An rfl rfl ?_)))
    obtain ⟨g5,h5,g0⟩:=bs g0
    refine AG (O:=k3) (A:=All a5) (R:=fun w' F v=>Vb w' F v g5) (Il (fun _ h=>h) y4 h5) rfl fun x8 i5 j5 o3 k5=>?_
    obtain ⟨rfl,y8⟩:=k5.int
    refine An rfl rfl (Ak rfl (An rfl rfl ?_))
    obtain ⟨l5,m5,g0⟩:=bs g0
    refine AG (O:=j5) (A:=All i5) (R:=fun w' F v=>Vb w' F v l5) (Il (fun _ h=>h) n3 m5) rfl fun z8 a9 b9 p3 n5=>?_
    obtain ⟨rfl,c9⟩:=n5.int
    refine An rfl rfl (EZ rfl rfl (fun p2=>?_) fun p2=>?_)
    ·
     replace g0:=ip g0 p2
     refine BD rfl rfl (Al rfl (o_z ?_))
     obtain rfl:=sm g0
     exact ⟨(),_,⟨rfl,trivial⟩,(((hB.st r0).st o0).st o3).st p3⟩
    replace g0:=im g0 p2
    refine BD rfl rfl (Al rfl (o_z ?_))
    obtain rfl:=sm g0
    exact ⟨(),_,⟨rfl,trivial⟩,(((hB.st r0).st o0).st o3).st p3⟩
   replace g0:=im g0 o2
   refine Ak rfl (Am rfl rfl (Am rfl rfl (Am rfl rfl (Am rfl rfl (Am rfl rfl (By rfl rfl (Al rfl (o_z ?_))))))))
   obtain rfl:=sm g0
   exact ⟨(),_,⟨rfl,trivial⟩,(hB.st r0).st o0⟩
  replace hB:=(hB.st r0).st o0
  rintro d9 e9 ⟨e5,f9,q3,hB⟩
  refine AE _ q3 ?_
  refine AC ?_
  obtain rfl:=sm hm
  exact ret1v rfl (At rfl) ⟨hB.ext,vBool⟩
 replace hm:=im hm n2
 refine o_z ?_
 refine Ah rfl (AK (Ab (Aa ?_)))
 replace q0:=q0.st o0
 refine Bg (hl:=rfl) (hc:=(q0.1).cellsAt) rfl ?_
 obtain ⟨j0,o5,hm⟩:=bs hm
 replace h8:=h8.st o0
 replace l0:=l0.st o0
 replace m0:=m0.st o0
 replace n0:=n0.st o0
 refine BU (O:=k3) (R:=fun w' F v=>T2 w' F v j0) (Ft Fr.lt (Vb.ofAgg (cs:=[(.slice A9 x0.vars.length b1),(.slice c1 x0.init.length d1),(.slice e1 x0.goal.length f1),(.slice g1 x0.jobs.length h1)]) (x:=x0) rfl ⟨_,_,_,_,rfl,h8,l0,m0,n0⟩) o5) rfl fun g9 h9 p5 d0 q5=>?_
 obtain ⟨i9,j9,rfl,r5,s5⟩:=q5
 obtain ⟨n7,rfl,k9,l9,m9,n9,rfl,l1,a1,m1,n1⟩:=r5
 obtain ⟨v1,w1,rfl⟩:=l1.form
 obtain ⟨y1,z1,rfl⟩:=a1.form
 obtain ⟨a2,b2,rfl⟩:=m1.form
 obtain ⟨c2,d2,rfl⟩:=n1.form
 obtain ⟨rfl,t5⟩:=s5.err
 refine Ak rfl (CS rfl rfl (CS rfl rfl (AT 4 p5 fun q2 o9 r2 a0 y0=>?_)))
 refine AD y0 rfl rfl rfl (AL) (allOne) fun r3 b0 y0=>?_
 replace y0:Lc 4 r3 r2 q2 31 [(.slice v1 j0.1.vars.length w1),(.slice y1 j0.1.init.length z1),(.slice a2 j0.1.goal.length b2),(.slice c2 j0.1.ops.length d2)]:=y0
 refine Al rfl (o_z ?_)
 refine Ab (Ab (Aa (Ak rfl (Gi rfl (fun s2=>?_) fun s2=>?_))))
 ·
  replace hm:=ip hm s2
  refine o_z ?_
  refine Aj rfl (Ab ?_)
  obtain ⟨u5,h0,hm⟩:=bs hm
  refine Au (fun l' w'=>∃ (w5:Unit) (O':Lab),subs l' [(4,(.bool u5))]∧Bs w A w' O') ?_ ?_
  ·
   refine Aa (Ak rfl (AR rfl ?_))
   replace p0:=((p0.st d0).st a0).st b0
   have x5:k1.1.length≤9223372036854775807:=Nat.le_trans p0.len.2.1 p0.len.2.2
   have p9:inI64 (k1.1.length:Int):=rngNat x5
   refine EZ rfl rfl (fun t2=>?_) fun t2=>?_
   ·
    replace h0:=ip h0 t2
    refine Ak rfl (An rfl rfl (Ak rfl (An rfl rfl ?_)))
    obtain ⟨y5,z5,h0⟩:=bs h0
    refine AG (O:=r2) (A:=All r3) (R:=fun w' F v=>Vb w' F v y5) (Il (fun _ h=>h) t5 z5) rfl fun q9 a6 b6 s3 c6=>?_
    obtain ⟨rfl,r9⟩:=c6.int
    refine An rfl rfl (Ak rfl (An rfl rfl ?_))
    obtain ⟨d6,e6,h0⟩:=bs h0
    refine AG (O:=b6) (A:=All a6) (R:=fun w' F v=>Vb w' F v d6) (Il (fun _ h=>h) n3 e6) rfl fun s9 t9 u9 t3 f6=>?_
    obtain ⟨rfl,v9⟩:=f6.int
    refine An rfl rfl (EZ rfl rfl (fun u2=>?_) fun u2=>?_)
    ·
     replace h0:=ip h0 u2
     refine BD rfl rfl (Al rfl (o_z ?_))
     obtain rfl:=sm h0
     exact ⟨(),_,⟨rfl,trivial⟩,((((((hB.st r0).st o0).st d0).st a0).st b0).st s3).st t3⟩
    replace h0:=im h0 u2
    refine BD rfl rfl (Al rfl (o_z ?_))
    obtain rfl:=sm h0
    exact ⟨(),_,⟨rfl,trivial⟩,((((((hB.st r0).st o0).st d0).st a0).st b0).st s3).st t3⟩
   replace h0:=im h0 t2
   refine Ak rfl (Am rfl rfl (Am rfl rfl (Am rfl rfl (Am rfl rfl (Am rfl rfl (By rfl rfl (Al rfl (o_z ?_))))))))
   obtain rfl:=sm h0
   exact ⟨(),_,⟨rfl,trivial⟩,((((hB.st r0).st o0).st d0).st a0).st b0⟩
  replace hB:=((((hB.st r0).st o0).st d0).st a0).st b0
  rintro w9 x9 ⟨w5,y9,u3,hB⟩
  refine AE _ u3 ?_
  refine AC ?_
  obtain rfl:=sm hm
  exact ret1v rfl (At rfl) ⟨hB.ext,vBool⟩
 replace hm:=im hm s2
 refine o_z ?_
 refine Ah rfl (AK (Ab (Ab ?_)))
 obtain ⟨g6,i0,hm⟩:=bs hm
 refine Au (fun l' w'=>∃ (h6:Unit) (O':Lab),subs l' [(1,(.slice r1 x1.length s1)),(2,(.pointer (some ⟨t1,0,none⟩))),(7,(.int .i64 j3.1)),(9,(.slice l3 k1.1.length m3)),(11,(.pointer (some ⟨q2,0,none⟩))),(89,(.bool g6))]∧Bs w A w' O'∧Vb w' (Fr 0 w' O') (.slice r1 x1.length s1) x1∧Lc 2 w' O' t1 26 [(.slice A9 x0.vars.length b1),(.slice c1 x0.init.length d1),(.slice e1 x0.goal.length f1),(.slice g1 x0.jobs.length h1)]∧Vb w' (Fr 0 w' O') (.slice A9 x0.vars.length b1) x0.vars∧Vb w' (Fr 0 w' O') (.slice c1 x0.init.length d1) x0.init∧Vb w' (Fr 0 w' O') (.slice e1 x0.goal.length f1) x0.goal∧Vb w' (Fr 0 w' O') (.slice g1 x0.jobs.length h1) x0.jobs∧Vb w' (Fr 0 w' O') (.slice l3 k1.1.length m3) k1.1∧Lc 4 w' O' q2 31 [(.slice v1 j0.1.vars.length w1),(.slice y1 j0.1.init.length z1),(.slice a2 j0.1.goal.length b2),(.slice c2 j0.1.ops.length d2)]∧Vb w' (Fr 0 w' O') (.slice v1 j0.1.vars.length w1) j0.1.vars∧Vb w' (Fr 0 w' O') (.slice y1 j0.1.init.length z1) j0.1.init∧Vb w' (Fr 0 w' O') (.slice a2 j0.1.goal.length b2) j0.1.goal∧Vb w' (Fr 0 w' O') (.slice c2 j0.1.ops.length d2) j0.1.ops) ?_ ?_
 ·
  refine Aa (Ak rfl (Gi rfl (fun v2=>?_) fun v2=>?_))
  ·
   replace i0:=ip i0 v2
   refine Ak rfl (Am rfl rfl (Am rfl rfl (Am rfl rfl (Am rfl rfl (Am rfl rfl (Am rfl rfl (BD rfl rfl (o_z ?_))))))))
   obtain rfl:=sm i0
   exact ⟨(),_,⟨rfl,rfl,rfl,rfl,rfl,rfl,trivial⟩,((((hB.st r0).st o0).st d0).st a0).st b0,(((k0.st o0).st d0).st a0).st b0,((q0.st d0).st a0).st b0,((h8.st d0).st a0).st b0,((l0.st d0).st a0).st b0,((m0.st d0).st a0).st b0,((n0.st d0).st a0).st b0,((p0.st d0).st a0).st b0,y0,(l1.st a0).st b0,(a1.st a0).st b0,(m1.st a0).st b0,(n1.st a0).st b0⟩
  replace i0:=im i0 v2
  refine Ak rfl (An rfl rfl (Ak rfl (An rfl rfl ?_)))
  replace q0:=((q0.st d0).st a0).st b0
  refine Bg (hl:=rfl) (hc:=(q0.1).cellsAt) rfl ?_
  refine An rfl rfl (Ak rfl (An rfl rfl ?_))
  obtain ⟨i6,j6,i0⟩:=bs i0
  replace k0:=(((k0.st o0).st d0).st a0).st b0
  replace h8:=((h8.st d0).st a0).st b0
  replace l0:=((l0.st d0).st a0).st b0
  replace m0:=((m0.st d0).st a0).st b0
  replace n0:=((n0.st d0).st a0).st b0
  refine BU (O:=r2) (R:=fun w' F v=>Vb w' F v i6) (Pi Fr.lt (Vb.ofAgg (cs:=[(.slice A9 x0.vars.length b1),(.slice c1 x0.init.length d1),(.slice e1 x0.goal.length f1),(.slice g1 x0.jobs.length h1)]) (x:=x0) rfl ⟨_,_,_,_,rfl,h8,l0,m0,n0⟩) k0 j6) rfl fun z9 w2 x2 f0 v3=>?_
  obtain ⟨aA,bA,rfl⟩:=v3.form
  refine An rfl rfl ?_
  obtain ⟨w3,k6,i0⟩:=bs i0
  replace p0:=(((p0.st d0).st a0).st b0).st f0
  refine AG (O:=x2) (A:=All w2) (R:=fun w' F v=>Vb w' F v w3) (Jl (fun _ h=>h) (Vb.mono (F:=Fr 0 w2 x2) p0 Fr.lt) (Vb.mono (F:=Fr 0 w2 x2) v3 Fr.lt) k6) rfl fun cA dA eA e0 l6=>?_
  obtain rfl:=l6.bool
  cases w3
  case false =>
   replace i0:=iF i0
   refine An rfl rfl (Fd rfl (By rfl rfl (o_z ?_)))
   obtain rfl:=sm i0
   exact ⟨(),_,⟨rfl,rfl,rfl,rfl,rfl,rfl,trivial⟩,((((((hB.st r0).st o0).st d0).st a0).st b0).st f0).st e0,(k0.st f0).st e0,(q0.st f0).st e0,(h8.st f0).st e0,(l0.st f0).st e0,(m0.st f0).st e0,(n0.st f0).st e0,p0.st e0,(y0.st f0).st e0,(((l1.st a0).st b0).st f0).st e0,(((a1.st a0).st b0).st f0).st e0,(((m1.st a0).st b0).st f0).st e0,(((n1.st a0).st b0).st f0).st e0⟩
  replace i0:=iT i0
  refine An rfl rfl (Fc rfl (By rfl rfl (o_z ?_)))
  obtain rfl:=sm i0
  exact ⟨(),_,⟨rfl,rfl,rfl,rfl,rfl,rfl,trivial⟩,((((((hB.st r0).st o0).st d0).st a0).st b0).st f0).st e0,(k0.st f0).st e0,(q0.st f0).st e0,(h8.st f0).st e0,(l0.st f0).st e0,(m0.st f0).st e0,(n0.st f0).st e0,p0.st e0,(y0.st f0).st e0,(((l1.st a0).st b0).st f0).st e0,(((a1.st a0).st b0).st f0).st e0,(((m1.st a0).st b0).st f0).st e0,(((n1.st a0).st b0).st f0).st e0⟩
 replace hB:=((((hB.st r0).st o0).st d0).st a0).st b0
 replace k0:=(((k0.st o0).st d0).st a0).st b0
 replace h8:=((h8.st d0).st a0).st b0
 replace l0:=((l0.st d0).st a0).st b0
 replace m0:=((m0.st d0).st a0).st b0
 replace n0:=((n0.st d0).st a0).st b0
 replace q0:=((q0.st d0).st a0).st b0
 replace p0:=((p0.st d0).st a0).st b0
 replace l1:=(l1.st a0).st b0
 replace a1:=(a1.st a0).st b0
 replace m1:=(m1.st a0).st b0
 replace n1:=(n1.st a0).st b0
 rintro fA e2 ⟨h6,f2,x3,hB,k0,q0,h8,l0,m0,n0,p0,y0,l1,a1,m1,n1⟩
 refine AE _ x3 ?_
 refine Cw rfl (fun y2=>?_) (fun y2=>?_)
 ·
  replace hm:=ip hm y2
  refine Ab (Aa (Al rfl (o_z ?_)))
  refine AC ?_
  obtain rfl:=sm hm
  exact ret1v rfl (At rfl) ⟨hB.ext,vBool⟩
 replace hm:=im' hm y2
 refine AK (Ab (Aa (Bg (hl:=rfl) (hc:=(y0.1).cellsAt) rfl ?_)))
 refine AB rfl (Az (hc:=Blk.cell (i:=1) (y0.1) rfl) rfl ?_)
 refine Ak rfl ?_
 obtain ⟨y3,m6,hm⟩:=bs hm
 refine AG (O:=f2) (A:=All e2) (R:=fun w' F v=>T2 w' F v y3) (Pz (fun _ h=>h) (Vb.mono (F:=Fr 0 e2 f2) (Vb.ofAgg (cs:=[(.slice v1 j0.1.vars.length w1),(.slice y1 j0.1.init.length z1),(.slice a2 j0.1.goal.length b2),(.slice c2 j0.1.ops.length d2)]) (x:=j0.1) rfl ⟨_,_,_,_,rfl,l1,a1,m1,n1⟩) Fr.lt) (Vb.mono (F:=Fr 0 e2 f2) a1 Fr.lt) (Vb.mono (F:=Fr 0 e2 f2) p0 Fr.lt) m6) rfl fun gA iA n6 v0 o6=>?_
 obtain ⟨jA,kA,rfl,p6,q6⟩:=o6
 obtain ⟨rfl,lA⟩:=p6.int
 obtain rfl:=q6.bool
 refine Ak rfl (CS rfl rfl (CS rfl rfl (Al rfl (Al rfl (o_z ?_)))))
 refine Ab (Aa ?_)
 replace q0:=q0.st v0
 refine Bg (hl:=rfl) (hc:=(q0.1).cellsAt) rfl ?_
 refine Ak rfl ?_
 obtain ⟨r6,s6,hm⟩:=bs hm
 replace h8:=h8.st v0
 replace l0:=l0.st v0
 replace m0:=m0.st v0
 replace n0:=n0.st v0
 replace p0:=p0.st v0
 refine BU (O:=n6) (R:=fun w' F v=>T2 w' F v r6) (Lh Fr.lt (Vb.ofAgg (cs:=[(.slice A9 x0.vars.length b1),(.slice c1 x0.init.length d1),(.slice e1 x0.goal.length f1),(.slice g1 x0.jobs.length h1)]) (x:=x0) rfl ⟨_,_,_,_,rfl,h8,l0,m0,n0⟩) p0 s6) rfl fun mA nA t6 p1 u6=>?_
 obtain ⟨oA,pA,rfl,g2,w6⟩:=u6
 obtain ⟨qA,rA,rfl⟩:=g2.form
 obtain ⟨rfl,sA⟩:=w6.err
 refine Ak rfl (CS rfl rfl (CS rfl rfl (Al rfl (Al rfl (o_z ?_)))))
 refine Ab ?_
 obtain ⟨x6,c0,hm⟩:=bs hm
 refine Au (fun l' w'=>∃ (y6:Unit) (O':Lab),subs l' [(4,(.bool x6))]∧Bs w A w' O') ?_ ?_
 ·
  refine Aa (Ak rfl (Ak rfl ?_))
  rcases Bool.eq_false_or_eq_true y3.2 with u1|u1
  ·
   try simp only [u1]
   replace c0:=ip c0 u1
   refine An rfl rfl (Ak rfl (An rfl rfl (Ak rfl (An rfl rfl (EZ rfl rfl (fun z2=>?_) fun z2=>?_)))))
   ·
    replace c0:=ip c0 z2
    refine BD rfl rfl (Ak rfl (An rfl rfl (Ak rfl (An rfl rfl (QD rfl rfl (fun a3=>?_) fun a3=>?_)))))
    ·
     replace c0:=ip c0 a3
     refine BD rfl rfl (Ak rfl (An rfl rfl (Ak rfl (An rfl rfl (Ak rfl (An rfl rfl ?_))))))
     obtain ⟨z6,a7,c0⟩:=bs c0
     replace k0:=(k0.st v0).st p1
     refine BU (O:=t6) (R:=fun w' F v=>Vb w' F v z6) (Nw Fr.lt k0 a7) rfl fun tA b3 c3 d3 z3=>?_
     obtain ⟨uA,vA,rfl⟩:=z3.form
     refine An rfl rfl ?_
     obtain ⟨a4,b7,c0⟩:=bs c0
     replace g2:=g2.st d3
     refine AG (O:=c3) (A:=All b3) (R:=fun w' F v=>Vb w' F v a4) (Oh (fun _ h=>h) (Vb.mono (F:=Fr 0 b3 c3) g2 Fr.lt) (Vb.mono (F:=Fr 0 b3 c3) z3 Fr.lt) b7) rfl fun wA xA yA b4 c7=>?_
     obtain rfl:=c7.bool
     cases a4
     case false =>
      replace c0:=iF c0
      refine BD rfl rfl (Al rfl (o_z ?_))
      obtain rfl:=sm c0
      exact ⟨(),_,⟨rfl,trivial⟩,(((hB.st v0).st p1).st d3).st b4⟩
     replace c0:=iT c0
     refine BD rfl rfl (Al rfl (o_z ?_))
     obtain rfl:=sm c0
     exact ⟨(),_,⟨rfl,trivial⟩,(((hB.st v0).st p1).st d3).st b4⟩
    replace c0:=im c0 a3
    refine BD rfl rfl (Ak rfl (Am rfl rfl (Am rfl rfl (Am rfl rfl (Am rfl rfl (By rfl rfl (Al rfl (o_z ?_))))))))
    obtain rfl:=sm c0
    exact ⟨(),_,⟨rfl,trivial⟩,(hB.st v0).st p1⟩
   replace c0:=im c0 z2
   refine BD rfl rfl (Ak rfl (Am rfl rfl (Am rfl rfl (By rfl rfl (Ak rfl (Am rfl rfl (Am rfl rfl (Am rfl rfl (Am rfl rfl (By rfl rfl (Al rfl (o_z ?_))))))))))))
   obtain rfl:=sm c0
   exact ⟨(),_,⟨rfl,trivial⟩,(hB.st v0).st p1⟩
  try simp only [u1]
  replace c0:=im' c0 u1
  refine Am rfl rfl (Am rfl rfl (Am rfl rfl (By rfl rfl (Ak rfl (Am rfl rfl (Am rfl rfl (By rfl rfl (Ak rfl (Am rfl rfl (Am rfl rfl (Am rfl rfl (Am rfl rfl (By rfl rfl (Al rfl ?_))))))))))))))
  refine o_z ?_
  obtain rfl:=sm c0
  exact ⟨(),_,⟨rfl,trivial⟩,(hB.st v0).st p1⟩
 replace hB:=(hB.st v0).st p1
 rintro zA aB ⟨y6,bB,c4,hB⟩
 refine AE _ c4 ?_
 refine AC ?_
 obtain rfl:=sm hm
 exact ret1v rfl (At rfl) ⟨hB.ext,vBool⟩
end
section
open Go Go.RowKit
def Le {α:Type} (x y:Option α):Prop:=∀ r,x=some r→y=some r
theorem Le.rf {α:Type} {x:Option α}:Le x x:=fun _ h=>h
theorem Le.bnd {α β:Type} {x x':Option α} {f f':α→Option β} (h:Le x x') (hf:∀ a,Le (f a) (f' a)):Le (bnd x f) (bnd x' f'):=fun r hr=>by
  obtain ⟨a,ha,hb⟩:=bs hr
  rw [h a ha,Ae]
  exact hf a r hb
theorem Le.ite {α:Type} {p:Prop} [Decidable p] {x x' y y':Option α} (h:Le x x') (k:Le y y'):Le (if p then x else y) (if p then x' else y'):=by
  by_cases hp:p
  · rw [if_pos hp,if_pos hp];exact h
  · rw [if_neg hp,if_neg hp];exact k
theorem Le.fin {σ κ:Type} {y:Fin σ κ} {f f':σ→Option κ} (hf:∀ a,Le (f a) (f' a)):Le (fin y f) (fin y f'):=by
  cases y with
  | done s=>exact hf s
  | ret c=>exact Le.rf
theorem Le.rng {α σ ρ:Type} {f f':Nat→α→σ→Option (Ctl σ ρ)} (hf:∀ k a s,Le (f k a s) (f' k a s)):∀ {xs:List α} {k:Nat} {s:σ},Le (rng f xs k s) (rng f' xs k s)
  | [],_,_=>Le.rf
  | x :: xs,k,s=>fun r hr=>by
    simp only [Proofs.YtjohlgjklmagnaaGreatDoor.rng] at hr ⊢
    cases hc:f k x s with
    | none=>rw [hc] at hr;cases hr
    | some c =>
      rw [hc] at hr
      rw [hf k x s c hc]
      cases c with
      | next s'=>exact Le.rng hf r hr
      | brk s'=>exact hr
      | ret q=>exact hr
theorem Le.rngN {σ ρ:Type} {f f':Nat→σ→Option (Ctl σ ρ)} {n:Nat} {s:σ} (hf:∀ k s,Le (f k s) (f' k s)):Le (rngN f n s) (rngN f' n s):=Le.rng fun _ k s=>hf k s
theorem Le.itr {σ ρ:Type} {f f':σ→Option (Ctl σ ρ)} (hf:∀ s,Le (f s) (f' s)):∀ (n:Nat) (s:σ),Le (itr f n s) (itr f' n s)
  | 0,_=>Le.rf
  | n + 1,s=>fun r hr=>by
    simp only [Proofs.YtjohlgjklmagnaaGreatDoor.itr] at hr ⊢
    cases hc:f s with
    | none=>rw [hc] at hr;cases hr
    | some c =>
      rw [hc] at hr
      rw [hf s c hc]
      cases c with
      | next s'=>exact Le.itr hf n s' r hr
      | brk s'=>exact hr
      | ret q=>exact hr
def lopE {σ ρ:Type} (f:σ→Option (Ctl σ ρ)) (s:σ):Option (Fin σ ρ):=itr f 600 s
theorem Le.lop {σ ρ:Type} {f f':σ→Option (Ctl σ ρ)} {s:σ} (hf:∀ s,Le (f s) (f' s)):Le (lopE f s) (lop f' s):=fun r hr=>JU.2 ⟨600,Le.itr hf 600 s r hr⟩
end
section
open Go Go.RowKit
def factB (vars:List Int) (x:Fct):Bool:=decide (0≤x.var) && (decide (0≤x.val) && (match vars[x.var.toNat]? with|some y=>decide (x.val < y)|none=>false))
theorem Pj {vars:List Int} {x:Fct} (h:factB vars x=true):FactOk vars x:=by
  unfold factB at h
  simp only [Bool.and_eq_true,decide_eq_true_eq] at h
  obtain ⟨h1,h2,h3⟩:=h
  cases hv:vars[x.var.toNat]? with
  | none=>rw [hv] at h3;cases h3
  | some y=>rw [hv] at h3;exact ⟨h1,h2,y,hv,by simpa using h3⟩
def ascB:List Fct→Bool
  | x :: y :: r=>decide (x.var < y.var) && ascB (y :: r)
  | _=>true
theorem Qd:∀ {f:List Fct},ascB f=true→∀ (i:Nat) x y,f[i]?=some x→f[i + 1]?=some y→x.var < y.var
  | [],_,i,x,y,h,_=>by simp at h
  | [_],_,i,x,y,_,h=>by simp at h
  | a :: b :: r,h,i,x,y,h1,h2=>by
    simp only [ascB,Bool.and_eq_true,decide_eq_true_eq] at h
    cases i with
    | zero=>simp at h1 h2;subst h1;subst h2;exact h.1
    | succ i=>exact Qd h.2 i x y (by simpa using h1) (by simpa using h2)
def factsB (vars:List Int) (f:List Fct):Bool:=f.all (factB vars) && ascB f
theorem Jh {vars:List Int} {f:List Fct} (h:factsB vars f=true):FactsOk vars f:=by
  unfold factsB at h
  rw [Bool.and_eq_true,List.all_eq_true] at h
  exact ⟨fun i x hx=>Pj (h.1 x (List.mem_of_getElem? hx)),Qd h.2⟩
def stateB:List Int→List Int→Bool
  | [],[]=>true
  | y :: vars,x :: s=>decide (0≤x) && (decide (x < y) && stateB vars s)
  | _,_=>false
theorem Lk:∀ {vars s:List Int},stateB vars s=true→StateOk vars s
  | [],[],_=>⟨rfl,fun i x y h=>by simp at h⟩
  | y :: vars,x :: s,h=>by
    simp only [stateB,Bool.and_eq_true,decide_eq_true_eq] at h
    obtain ⟨h1,h2⟩:=Lk h.2.2
    refine ⟨by simp [h1],fun i a b ha hb=>?_⟩
    cases i with
    | zero=>simp at ha hb;subst ha;subst hb;exact ⟨h.1,h.2.1⟩
    | succ i=>exact h2 i a b (by simpa using ha) (by simpa using hb)
  | [],_ :: _,h=>by simp [stateB] at h
  | _ :: _,[],h=>by simp [stateB] at h
def nameB (s:ByteArray):Bool:=decide (s.size≤256) && s.data.toList.all fun c=>decide (32≤c.toNat) && decide (c.toNat≤126)
theorem SO {s:ByteArray} (h:nameB s=true):NameOk s:=by
  unfold nameB at h
  simp only [Bool.and_eq_true,decide_eq_true_eq,List.all_eq_true] at h
  refine ⟨h.1,fun i hi=>h.2 _ ?_⟩
  show s.data[i]∈_
  simp
def opB (vars:List Int) (o:Opr):Bool:=decide (0≤o.cost) && (decide (o.cost≤1048576) && (decide (o.effs.length≤64) && (nameB o.name && (factsB vars o.pre && o.effs.all fun e=>factsB vars e.cond && factB vars ⟨e.var,e.val⟩))))
theorem UX {vars:List Int} {o:Opr} (h:opB vars o=true):OpOk vars o:=by
  unfold opB at h
  simp only [Bool.and_eq_true,decide_eq_true_eq,List.all_eq_true] at h
  obtain ⟨h1,h2,h3,h4,h5,h6⟩:=h
  exact ⟨h1,h2,h3,SO h4,Jh h5,fun i e he=>⟨Jh (h6 e (List.mem_of_getElem? he)).1,Pj (h6 e (List.mem_of_getElem? he)).2⟩⟩
def taskB (t:Tsk):Bool:=decide (t.vars.length≤64) && (decide (t.ops.length≤4096) && ((t.vars.all fun n=>decide (1≤n) && decide (n≤64)) && (stateB t.vars t.init && (factsB t.vars t.goal && t.ops.all (opB t.vars)))))
theorem SP {t:Tsk} (h:taskB t=true):TaskOk t:=by
  unfold taskB at h
  simp only [Bool.and_eq_true,decide_eq_true_eq,List.all_eq_true] at h
  obtain ⟨h1,h2,h3,h4,h5,h6⟩:=h
  exact ⟨h1,h2,fun i n hn=>h3 n (List.mem_of_getElem? hn),Lk h4,Jh h5,fun i o ho=>UX (h6 o (List.mem_of_getElem? ho))⟩
def Ll (t:Tsk):Option Err:=if taskB t=true then some ⟨0⟩ else none
theorem Oi (t:Tsk):Le (Ll t) (DM t):=fun r h=>by
  obtain ⟨h1,rfl⟩:=Di h
  unfold DM
  rw [FR.2 (SP h1)]
def KA (x y:List Int):Option Bool:=if stateB x y=true then some true else none
theorem Nx (x y:List Int):Le (KA x y) (CT x y):=fun r h=>by
  obtain ⟨h1,rfl⟩:=Di h
  unfold CT
  rw [Da (Lk h1)]
def HV (x y:List Int):Option Bool:=some (decide (x=y))
theorem Pk (x y:List Int):Le (HV x y) (Fo x y):=fun r h=>by
  unfold HV at h
  unfold Fo
  rw [← h]
  by_cases hx:x=y
  · rw [Da hx];simp [hx]
  · rw [Dx hx];simp [hx]
def Hy (f:List Fct) (s:List Int):Option Bool:=Cq f s
theorem KB (f:List Fct) (s:List Int):Le (Hy f s) (Cq f s):=Le.rf
def Fe (x:List Int):Option (List Int):=Bw x
theorem Gx (x:List Int):Le (Fe x) (Bw x):=Le.rf
end
section
open Go Go.RowKit
set_option maxRecDepth 20000
attribute [local irreducible] bnd fin rng rngN chkI mkI appI atI natI quoI remI catI keysI BJ Bw Ek
def Fp (xs:List Int):Option (List Int):=if xs.length≤1000000 then some (insS xs) else none
theorem IO (xs:List Int):Le (Fp xs) (BT xs):=fun r h=>by
  unfold Fp at h
  unfold BT
  rw [NM];exact h
def Dw (x:List Fct):Option (List Fct):=BJ x
theorem EN (x:List Fct):Le (Dw x) (BJ x):=Le.rf
def JK (x:Int):Option ByteArray:=if 0≤x∧x < 100 then some (itoaB x.toNat) else none
theorem Na (x:Int):Le (JK x) (Ek x):=fun r h=>by rw [PW];exact h
def EW (x:Int):Option (List Fct):=CC x
theorem GP (x:Int):Le (EW x) (CC x):=Le.rf
def EE (x:Int):Option (List Eff):=Cp x
theorem Gl (x:Int):Le (EE x) (Cp x):=Le.rf
def IJ (x:List Lch):Option (List Lch):=if x.length≤1 then some x else none
theorem LA (x:List Lch):Le (IJ x) (Dm x):=fun r h=>by
  obtain ⟨h1,rfl⟩:=Di h
  unfold Dm
  rw [if_pos (by omega)]
  congr 1
  refine Qb ?_
  match x,h1 with
  | [],_=>exact .nil
  | [a],_=>exact List.pairwise_singleton _ _
noncomputable def Ds (x0:List (List Fct)):Option (List Fct) :=
  bnd (rng (ρ:=(List Fct)) (fun (k10:Nat) (a11:List Fct) (s8:Int)=>bnd (chkI (s8 + (a11.length:Int))) fun n36=>if n36 < 0 then (none) else (some (.next n36))) x0 0 0) fun res6=>fin res6 fun (s44:Int)=>bnd (EW s44) fun q46=>bnd (rng (ρ:=(List Fct)) (fun (k62:Nat) (a63:List Fct) (s60:(List Fct))=>bnd (appI 16 s60 a63) fun u88=>some (.next u88)) x0 0 q46) fun res58=>fin res58 fun (s103:(List Fct))=>some s103
theorem GE (x0:List (List Fct)):Le (Ds x0) (BM x0):=by
  unfold Ds BM
  repeat' (first|apply GP|apply Le.ite|apply Le.bnd|apply Le.fin|apply Le.rng|apply Le.rngN|apply Le.lop|exact Le.rf|intro _)
noncomputable def CZ (x0:List (List Eff)):Option (List Eff) :=
  bnd (rng (ρ:=(List Eff)) (fun (k10:Nat) (a11:List Eff) (s8:Int)=>bnd (chkI (s8 + (a11.length:Int))) fun n36=>if n36 < 0 then (none) else (some (.next n36))) x0 0 0) fun res6=>fin res6 fun (s44:Int)=>bnd (EE s44) fun q46=>bnd (rng (ρ:=(List Eff)) (fun (k62:Nat) (a63:List Eff) (s60:(List Eff))=>bnd (appI 40 s60 a63) fun u88=>some (.next u88)) x0 0 q46) fun res58=>fin res58 fun (s103:(List Eff))=>some s103
theorem FY (x0:List (List Eff)):Le (CZ x0) (BI x0):=by
  unfold CZ BI
  repeat' (first|apply Gl|apply Le.ite|apply Le.bnd|apply Le.fin|apply Le.rng|apply Le.rngN|apply Le.lop|exact Le.rf|intro _)
noncomputable def Hd (x0:Tpl):Option (List (List Fct)) :=
  bnd (rng (ρ:=(List (List Fct))) (fun (k36:Nat) (a37:Job) (s34:(List (List Fct)))=>bnd (appI 24 s34 [a37.start,a37.over,a37.fin,a37.atStart,a37.atEnd]) fun u93=>some (.next u93)) x0.jobs 0 [x0.goal]) fun res32=>fin res32 fun (s108:(List (List Fct)))=>some s108
theorem LB (x0:Tpl):Le (Hd x0) (DA x0):=by
  unfold Hd DA
  repeat' (first|apply Le.ite|apply Le.bnd|apply Le.fin|apply Le.rng|apply Le.rngN|apply Le.lop|exact Le.rf|intro _)
noncomputable def Gc (x0:List Fct):Option Bool :=
  bnd (if 64 < (x0.length:Int) then (some true) else (some false):Option Bool) fun y4=>some y4
theorem Kn (x0:List Fct):Le (Gc x0) (Du x0):=by
  unfold Gc Du
  repeat' (first|apply Le.ite|apply Le.bnd|apply Le.fin|apply Le.rng|apply Le.rngN|apply Le.lop|exact Le.rf|intro _)
noncomputable def Cg (x0:List (List Fct)):Option Int :=
  bnd (rng (ρ:=Int) (fun (k11:Nat) (a12:List Fct) (s9:Unit)=>bnd (Gc a12) fun q33=>if q33=true then some (.ret (k11:Int)) else some (.next ())) x0 0 ()) fun res7=>fin res7 fun (s44:Unit)=>some (-1)
theorem DZ (x0:List (List Fct)):Le (Cg x0) (Bi x0):=by
  unfold Cg Bi
  repeat' (first|apply Kn|apply Le.ite|apply Le.bnd|apply Le.fin|apply Le.rng|apply Le.rngN|apply Le.lop|exact Le.rf|intro _)
noncomputable def BW (x0:List (List Fct)):Option Bool :=
  bnd (bnd (Cg x0) fun q9=>if 0≤q9 then (some true) else (some false):Option Bool) fun y5=>some y5
theorem DI (x0:List (List Fct)):Le (BW x0) (AV x0):=by
  unfold BW AV
  repeat' (first|apply DZ|apply Le.ite|apply Le.bnd|apply Le.fin|apply Le.rng|apply Le.rngN|apply Le.lop|exact Le.rf|intro _)
def Lm (x:List Int) (f:List Fct):Option Bool:=if factsB x f=true then some true else none
theorem Oj (x:List Int) (f:List Fct):Le (Lm x f) (Gr x f):=fun r h=>by
  obtain ⟨h1,rfl⟩:=Di h
  unfold Gr
  rw [Da (Jh h1)]
noncomputable def Gd (x0:List Fct) (y0:Tpl):Option Bool :=
  bnd (bnd (Lm y0.vars x0) fun q24=>if q24=true then some false else some true:Option Bool) fun y20=>some y20
theorem Ko (x0:List Fct) (y0:Tpl):Le (Gd x0 y0) (Dv x0 y0):=by
  unfold Gd Dv
  repeat' (first|apply Oj|apply Le.ite|apply Le.bnd|apply Le.fin|apply Le.rng|apply Le.rngN|apply Le.lop|exact Le.rf|intro _)
noncomputable def Ch (x0:List (List Fct)) (y0:Tpl):Option Int :=
  bnd (rng (ρ:=Int) (fun (k27:Nat) (a28:List Fct) (s25:Unit)=>bnd (Gd a28 y0) fun q49=>if q49=true then some (.ret (k27:Int)) else some (.next ())) x0 0 ()) fun res23=>fin res23 fun (s60:Unit)=>some (-1)
theorem Ea (x0:List (List Fct)) (y0:Tpl):Le (Ch x0 y0) (Bj x0 y0):=by
  unfold Ch Bj
  repeat' (first|apply Ko|apply Le.ite|apply Le.bnd|apply Le.fin|apply Le.rng|apply Le.rngN|apply Le.lop|exact Le.rf|intro _)
noncomputable def BX (x0:List (List Fct)) (y0:Tpl):Option Bool :=
  bnd (bnd (Ch x0 y0) fun q25=>if 0≤q25 then (some true) else (some false):Option Bool) fun y21=>some y21
theorem DJ (x0:List (List Fct)) (y0:Tpl):Le (BX x0 y0) (AW x0 y0):=by
  unfold BX AW
  repeat' (first|apply Ea|apply Le.ite|apply Le.bnd|apply Le.fin|apply Le.rng|apply Le.rngN|apply Le.lop|exact Le.rf|intro _)
noncomputable def He (x0:ByteArray):Option Bool :=
  bnd (rngN (ρ:=Bool) (fun (k7:Nat) (s5:Unit)=>bnd (bnd (bytI x0 (k7:Int)) fun n22=>if n22 < 32 then (some true) else (bnd (bytI x0 (k7:Int)) fun n26=>if 126 < n26 then (some true) else (some false)):Option Bool) fun y18=>if y18=true then (some (.ret false)) else (some (.next ()))) x0.size ()) fun res3=>fin res3 fun (s39:Unit)=>bnd (if (x0.size:Int)≤256 then (some true) else (some false):Option Bool) fun y41=>some y41
theorem LC (x0:ByteArray):Le (He x0) (CQ x0):=by
  unfold He CQ
  repeat' (first|apply Le.ite|apply Le.bnd|apply Le.fin|apply Le.rng|apply Le.rngN|apply Le.lop|exact Le.rf|intro _)
noncomputable def FU (x0:Tpl):Option Err :=
  bnd (Hd x0) fun q24=>bnd (if 64 < (x0.vars.length:Int) then (some true) else (if 24 < (x0.jobs.length:Int) then (some true) else (bnd (BW q24) fun q43=>if q43=true then some true else some false)):Option Bool) fun y33=>if y33=true then (some (⟨5⟩:Err)) else (bnd (rng (ρ:=Err) (fun (k61:Nat) (a62:Int) (s59:Unit)=>bnd (if a62 < 1 then (some true) else (if 64 < a62 then (some true) else (some false)):Option Bool) fun y80=>if y80=true then (some (.ret (⟨1⟩:Err))) else (some (.next ()))) x0.vars 0 ()) fun res57=>fin res57 fun (s95:Unit)=>bnd (rng (ρ:=Err) (fun (k103:Nat) (a104:Job) (s101:Unit)=>bnd (if a104.dur < 1 then (some true) else (if 62 < a104.dur then (some true) else (some false)):Option Bool) fun y150=>if y150=true then (some (.ret (⟨1⟩:Err))) else (some (.next ()))) x0.jobs 0 ()) fun res99=>fin res99 fun (s165:Unit)=>bnd (bnd (KA x0.vars x0.init) fun q171=>if q171=true then bnd (BX q24 x0) fun q178=>if q178=true then some true else some false else some true:Option Bool) fun y167=>if y167=true then (some (⟨2⟩:Err)) else (bnd (rng (ρ:=Err) (fun (k196:Nat) (a197:Job) (s194:Unit)=>bnd (He a197.name) fun q243=>if q243=true then some (.next ()) else some (.ret (⟨8⟩:Err))) x0.jobs 0 ()) fun res192=>fin res192 fun (s254:Unit)=>some (⟨0⟩:Err)))
theorem Ih (x0:Tpl):Le (FU x0) (Dj x0):=by
  unfold FU Dj
  repeat' (first|apply DI|apply DJ|apply Nx|apply LB|apply LC|apply Le.ite|apply Le.bnd|apply Le.fin|apply Le.rng|apply Le.rngN|apply Le.lop|exact Le.rf|intro _)
noncomputable def GK (x0:Tpl) (x1:List Lch):Option Err :=
  bnd (FU x0) fun q27=>if q27.n≠0 then (some (⟨q27.n⟩:Err)) else (if 4096 < (x1.length:Int) then (some (⟨5⟩:Err)) else (bnd (rng (ρ:=Err) (fun (k45:Nat) (a46:Lch) (s43:Unit)=>bnd (if a46.job < 0 then (some true) else (if (x0.jobs.length:Int)≤a46.job then (some true) else (if a46.tm < 0 then (some true) else (if 1048576 < a46.tm then (some true) else (some false)))):Option Bool) fun y72=>if y72=true then (some (.ret (⟨1⟩:Err))) else (some (.next ()))) x1 0 ()) fun res41=>fin res41 fun (s91:Unit)=>some (⟨0⟩:Err)))
theorem Ln (x0:Tpl) (x1:List Lch):Le (GK x0 x1) (CU x0 x1):=by
  unfold GK CU
  repeat' (first|apply Ih|apply Le.ite|apply Le.bnd|apply Le.fin|apply Le.rng|apply Le.rngN|apply Le.lop|exact Le.rf|intro _)
noncomputable def ET (x0:Tpl) (x1:Lch):Option Int :=
  bnd (atI x0.jobs x1.job) fun a33=>bnd (chkI (x1.tm + a33.dur)) fun n66=>some n66
theorem Gj (x0:Tpl) (x1:Lch):Le (ET x0 x1) (Cu x0 x1):=by
  unfold ET Cu
  repeat' (first|apply Le.ite|apply Le.bnd|apply Le.fin|apply Le.rng|apply Le.rngN|apply Le.lop|exact Le.rf|intro _)
noncomputable def FD (x0:Tpl) (x1:List Lch):Option ((MapR 182 Int Hap)×(List Int)) :=
  bnd (rng (ρ:=(MapR 182 Int Hap)×(List Int)) (fun (k38:Nat) (a39:Lch) (s36:(MapR 182 Int Hap))=>bnd (appI 16 (mget ([]:List Hap) s36.l a39.tm) [(⟨a39.job,false⟩:Hap)]) fun u82=>bnd (ET x0 a39) fun q97=>bnd (appI 16 (mget ([]:List Hap) (⟨mput s36.l a39.tm u82⟩:MapR 182 Int Hap).l q97) [(⟨a39.job,true⟩:Hap)]) fun u99=>some (.next (⟨mput (⟨mput s36.l a39.tm u82⟩:MapR 182 Int Hap).l q97 u99⟩:MapR 182 Int Hap))) x1 0 (⟨[]⟩:MapR 182 Int Hap)) fun res34=>fin res34 fun (s219:(MapR 182 Int Hap))=>bnd (keysI s219) fun u221=>bnd (Fp u221) fun q235=>some (s219,q235)
theorem Jn (x0:Tpl) (x1:List Lch):Le (FD x0 x1) (Ce x0 x1):=by
  unfold FD Ce
  repeat' (first|apply IO|apply Gj|apply Le.ite|apply Le.bnd|apply Le.fin|apply Le.rng|apply Le.rngN|apply Le.lop|exact Le.rf|intro _)
noncomputable def Ge (x0:Tpl) (x1:List Lch) (x2:Int):Option Bool :=
  bnd (rng (ρ:=Bool) (fun (k34:Nat) (a35:Lch) (s32:Unit)=>if a35.tm≠x2 then (some (.next ())) else (bnd (rng (ρ:=Ctl Unit Bool) (fun (k68:Nat) (a69:Lch) (s66:Unit)=>bnd (if (k34:Int)≠(k68:Int) then (if a35.job=a69.job then (if a69.tm≤x2 then (bnd (ET x0 a69) fun q102=>if x2≤q102 then (some true) else (some false)) else (some false)) else (some false)) else (some false):Option Bool) fun y95=>if y95=true then (some (.ret (.ret true))) else (some (.next ()))) x1 0 ()) fun res64=>fin res64 fun (s120:Unit)=>some (.next ()))) x1 0 ()) fun res30=>fin res30 fun (s126:Unit)=>some false
theorem Kp (x0:Tpl) (x1:List Lch) (x2:Int):Le (Ge x0 x1 x2) (CW x0 x1 x2):=by
  unfold Ge CW
  repeat' (first|apply Gj|apply Le.ite|apply Le.bnd|apply Le.fin|apply Le.rng|apply Le.rngN|apply Le.lop|exact Le.rf|intro _)
noncomputable def Dt (x0:Tpl) (x1:Hap):Option (List Fct) :=
  if x1.fin=true then (bnd (atI x0.jobs x1.job) fun a33=>some a33.atEnd) else (bnd (atI x0.jobs x1.job) fun a66=>some a66.atStart)
theorem Ia (x0:Tpl) (x1:Hap):Le (Dt x0 x1) (BZ x0 x1):=by
  unfold Dt BZ
  repeat' (first|apply Le.ite|apply Le.bnd|apply Le.fin|apply Le.rng|apply Le.rngN|apply Le.lop|exact Le.rf|intro _)
noncomputable def FE (x0:Fct) (y0:Fct):Option Bool :=
  bnd (if y0.var=x0.var then (some true) else (some false):Option Bool) fun y12=>some y12
theorem Jo (x0:Fct) (y0:Fct):Le (FE x0 y0) (De x0 y0):=by
  unfold FE De
  repeat' (first|apply Le.ite|apply Le.bnd|apply Le.fin|apply Le.rng|apply Le.rngN|apply Le.lop|exact Le.rf|intro _)
noncomputable def Cb (x0:List Fct) (y0:Fct):Option Int :=
  bnd (rng (ρ:=Int) (fun (k13:Nat) (a14:Fct) (s11:Unit)=>bnd (FE a14 y0) fun q33=>if q33=true then some (.ret (k13:Int)) else some (.next ())) x0 0 ()) fun res9=>fin res9 fun (s44:Unit)=>some (-1)
theorem DU (x0:List Fct) (y0:Fct):Le (Cb x0 y0) (Be x0 y0):=by
  unfold Cb Be
  repeat' (first|apply Jo|apply Le.ite|apply Le.bnd|apply Le.fin|apply Le.rng|apply Le.rngN|apply Le.lop|exact Le.rf|intro _)
noncomputable def BS (x0:List Fct) (y0:Fct):Option Bool :=
  bnd (bnd (Cb x0 y0) fun q11=>if 0≤q11 then (some true) else (some false):Option Bool) fun y7=>some y7
theorem DG (x0:List Fct) (y0:Fct):Le (BS x0 y0) (Bc x0 y0):=by
  unfold BS Bc
  repeat' (first|apply DU|apply Le.ite|apply Le.bnd|apply Le.fin|apply Le.rng|apply Le.rngN|apply Le.lop|exact Le.rf|intro _)
noncomputable def Gy (x0:Fct) (y0:List Fct):Option Bool :=
  bnd (bnd (BS y0 x0) fun q18=>if q18=true then some true else some false:Option Bool) fun y14=>some y14
theorem KK (x0:Fct) (y0:List Fct):Le (Gy x0 y0) (Dk x0 y0):=by
  unfold Gy Dk
  repeat' (first|apply DG|apply Le.ite|apply Le.bnd|apply Le.fin|apply Le.rng|apply Le.rngN|apply Le.lop|exact Le.rf|intro _)
noncomputable def Cl (x0:List Fct) (y0:List Fct):Option Int :=
  bnd (rng (ρ:=Int) (fun (k15:Nat) (a16:Fct) (s13:Unit)=>bnd (Gy a16 y0) fun q35=>if q35=true then some (.ret (k15:Int)) else some (.next ())) x0 0 ()) fun res11=>fin res11 fun (s46:Unit)=>some (-1)
theorem En (x0:List Fct) (y0:List Fct):Le (Cl x0 y0) (Bn x0 y0):=by
  unfold Cl Bn
  repeat' (first|apply KK|apply Le.ite|apply Le.bnd|apply Le.fin|apply Le.rng|apply Le.rngN|apply Le.lop|exact Le.rf|intro _)
noncomputable def Cc (x0:List Fct) (y0:List Fct):Option Bool :=
  bnd (bnd (Cl x0 y0) fun q13=>if 0≤q13 then (some true) else (some false):Option Bool) fun y9=>some y9
theorem DV (x0:List Fct) (y0:List Fct):Le (Cc x0 y0) (Bf x0 y0):=by
  unfold Cc Bf
  repeat' (first|apply En|apply Le.ite|apply Le.bnd|apply Le.fin|apply Le.rng|apply Le.rngN|apply Le.lop|exact Le.rf|intro _)
noncomputable def Fk (x0:List Fct) (x1:List Fct):Option Bool :=
  bnd (bnd (Cc x0 x1) fun q16=>if q16=true then some true else some false:Option Bool) fun y12=>some y12
theorem Mr (x0:List Fct) (x1:List Fct):Le (Fk x0 x1) (Db x0 x1):=by
  unfold Fk Db
  repeat' (first|apply DV|apply Le.ite|apply Le.bnd|apply Le.fin|apply Le.rng|apply Le.rngN|apply Le.lop|exact Le.rf|intro _)
noncomputable def EX (x0:Tpl) (x1:Hap):Option (List Fct) :=
  if x1.fin=true then (bnd (atI x0.jobs x1.job) fun a33=>some a33.fin) else (bnd (atI x0.jobs x1.job) fun a66=>some a66.start)
theorem Ii (x0:Tpl) (x1:Hap):Le (EX x0 x1) (CH x0 x1):=by
  unfold EX CH
  repeat' (first|apply Le.ite|apply Le.bnd|apply Le.fin|apply Le.rng|apply Le.rngN|apply Le.lop|exact Le.rf|intro _)
noncomputable def FV (x0:Tpl) (x1:Hap) (x2:Hap):Option Bool :=
  bnd (bnd (Dt x0 x1) fun q44=>bnd (Dt x0 x2) fun q53=>bnd (Fk q44 q53) fun q62=>if q62=true then some true else bnd (Dt x0 x1) fun q69=>bnd (EX x0 x2) fun q78=>bnd (Fk q69 q78) fun q87=>if q87=true then some true else bnd (EX x0 x1) fun q94=>bnd (Dt x0 x2) fun q103=>bnd (Fk q94 q103) fun q112=>if q112=true then some true else some false:Option Bool) fun y40=>some y40
theorem JL (x0:Tpl) (x1:Hap) (x2:Hap):Le (FV x0 x1 x2) (BV x0 x1 x2):=by
  unfold FV BV
  repeat' (first|apply Mr|apply Ii|apply Ia|apply Le.ite|apply Le.bnd|apply Le.fin|apply Le.rng|apply Le.rngN|apply Le.lop|exact Le.rf|intro _)
noncomputable def Hf (x0:Tpl) (x1:List Int) (x2:List Hap):Option (List Int) :=
  bnd (Fe x1) fun q30=>bnd (rng (ρ:=(List Int)) (fun (k52:Nat) (a53:Bool) (s50:(List Int))=>bnd (rng (ρ:=Ctl (List Int) (List Int)) (fun (k80:Nat) (a81:Job) (s78:(List Int)×Bool)=>bnd (rng (ρ:=Ctl ((List Int)×Bool) (Ctl (List Int) (List Int))) (fun (k101:Nat) (a102:Hap) (s99:(List Int)×Bool)=>bnd (if a102.job≠(k80:Int) then (some (s99.2,true,a102.fin)) else (if a102.fin=true then (if s99.2=true then (some (true,false,true)) else (some (false,true,true))) else (if s99.2=true then (some (true,true,false)) else (some (false,false,false)))):Option (Bool×Bool×Bool)) fun y131=>if y131.2.1=true then (some (.next (s99.1,y131.1))) else (bnd (Dt x0 (⟨a102.job,y131.2.2⟩:Hap)) fun q144=>bnd (rng (ρ:=Ctl ((List Int)×Bool) (Ctl ((List Int)×Bool) (Ctl (List Int) (List Int)))) (fun (k159:Nat) (a160:Fct) (s157:(List Int))=>bnd (atI s157 a160.var) fun a190=>some (.next (s157.set (a160.var:Int).toNat a160.val))) q144 0 s99.1) fun res155=>fin res155 fun (s208:(List Int))=>some (.next (s208,y131.1)))) x2 0 (s78.1,s78.2)) fun res97=>fin res97 fun (s214:(List Int)×Bool)=>some (.next (s214.1,s214.2))) x0.jobs 0 (s50,a53)) fun res76=>fin res76 fun (s220:(List Int)×Bool)=>some (.next s220.1)) [true,false] 0 q30) fun res48=>fin res48 fun (s226:(List Int))=>some s226
theorem LD (x0:Tpl) (x1:List Int) (x2:List Hap):Le (Hf x0 x1 x2) (DB x0 x1 x2):=by
  unfold Hf DB
  repeat' (first|apply Gx|apply Ia|apply Le.ite|apply Le.bnd|apply Le.fin|apply Le.rng|apply Le.rngN|apply Le.lop|exact Le.rf|intro _)
noncomputable def Hz (x0:Tpl) (x1:List Lch) (x2:Int) (x3:List Int) (x4:List Hap):Option ((List Int)×Err) :=
  bnd (Ge x0 x1 x2) fun q34=>if q34=true then some (([]:List Int),(⟨18⟩:Err)) else bnd (rng (ρ:=(List Int)×Err) (fun (k47:Nat) (a48:Hap) (s45:Unit)=>bnd (rngN (ρ:=Ctl Unit ((List Int)×Err)) (fun (k62:Nat) (s60:Unit)=>bnd (x4[k62]?) fun a81=>bnd (FV x0 a48 a81) fun q91=>if q91=true then some (.ret (.ret (([]:List Int),(⟨17⟩:Err)))) else some (.next ())) k47 ()) fun res58=>fin res58 fun (s102:Unit)=>some (.next ())) x4 0 ()) fun res43=>fin res43 fun (s108:Unit)=>bnd (rng (ρ:=(List Int)×Err) (fun (k116:Nat) (a117:Hap) (s114:Unit)=>bnd (EX x0 a117) fun q142=>bnd (Hy q142 x3) fun q151=>if q151=true then some (.next ()) else some (.ret (([]:List Int),(⟨12⟩:Err)))) x4 0 ()) fun res112=>fin res112 fun (s162:Unit)=>bnd (Hf x0 x3 x4) fun q164=>bnd (rng (ρ:=(List Int)×Err) (fun (k179:Nat) (a180:Lch) (s177:Unit)=>bnd (if a180.tm≤x2 then (bnd (ET x0 a180) fun q211=>if x2 < q211 then (bnd (atI x0.jobs a180.job) fun a220=>bnd (Hy a220.over q164) fun q253=>if q253=true then some false else some true) else (some false)) else (some false):Option Bool) fun y206=>if y206=true then (some (.ret (([]:List Int),(⟨16⟩:Err)))) else (some (.next ()))) x1 0 ()) fun res175=>fin res175 fun (s269:Unit)=>some (q164,(⟨0⟩:Err))
theorem Ms (x0:Tpl) (x1:List Lch) (x2:Int) (x3:List Int) (x4:List Hap):Le (Hz x0 x1 x2 x3 x4) (Dc x0 x1 x2 x3 x4):=by
  unfold Hz Dc
  repeat' (first|apply KB|apply LD|apply Gj|apply JL|apply Kp|apply Ii|apply Le.ite|apply Le.bnd|apply Le.fin|apply Le.rng|apply Le.rngN|apply Le.lop|exact Le.rf|intro _)
noncomputable def Gf (x0:Tpl) (x1:List Lch):Option Int :=
  bnd (rng (ρ:=Int) (fun (k33:Nat) (a34:Lch) (s31:Int)=>bnd (ET x0 a34) fun q62=>some (.next (max s31 q62))) x1 0 0) fun res29=>fin res29 fun (s74:Int)=>some s74
theorem Kq (x0:Tpl) (x1:List Lch):Le (Gf x0 x1) (CJ x0 x1):=by
  unfold Gf CJ
  repeat' (first|apply Gj|apply Le.ite|apply Le.bnd|apply Le.fin|apply Le.rng|apply Le.rngN|apply Le.lop|exact Le.rf|intro _)
noncomputable def Gg (x0:Tpl) (x1:List Lch):Option (Int×Err) :=
  bnd (GK x0 x1) fun q27=>if q27.n≠0 then (some (0,(⟨q27.n⟩:Err))) else (bnd (FD x0 x1) fun q36=>bnd (rng (ρ:=Int×Err) (fun (k58:Nat) (a59:Int) (s56:(List Int))=>bnd (Hz x0 x1 a59 s56 (mget ([]:List Hap) q36.1.l a59)) fun q83=>if q83.2.n≠0 then (some (.ret (0,(⟨q83.2.n⟩:Err)))) else (some (.next q83.1))) q36.2 0 x0.init) fun res54=>fin res54 fun (s102:(List Int))=>bnd (Hy x0.goal s102) fun q104=>if q104=true then bnd (Gf x0 x1) fun q111=>some (q111,(⟨0⟩:Err)) else some (0,(⟨13⟩:Err)))
theorem Kr (x0:Tpl) (x1:List Lch):Le (Gg x0 x1) (Cf x0 x1):=by
  unfold Gg Cf
  repeat' (first|apply KB|apply Ln|apply Jn|apply Kq|apply Ms|apply Le.ite|apply Le.bnd|apply Le.fin|apply Le.rng|apply Le.rngN|apply Le.lop|exact Le.rf|intro _)
noncomputable def FW (x0:Fct) (y0:Int):Option Bool :=
  bnd (if x0.var=y0 then (some true) else (some false):Option Bool) fun y11=>some y11
theorem JM (x0:Fct) (y0:Int):Le (FW x0 y0) (Dp x0 y0):=by
  unfold FW Dp
  repeat' (first|apply Le.ite|apply Le.bnd|apply Le.fin|apply Le.rng|apply Le.rngN|apply Le.lop|exact Le.rf|intro _)
noncomputable def Ci (x0:List Fct) (y0:Int):Option Int :=
  bnd (rng (ρ:=Int) (fun (k12:Nat) (a13:Fct) (s10:Unit)=>bnd (FW a13 y0) fun q32=>if q32=true then some (.ret (k12:Int)) else some (.next ())) x0 0 ()) fun res8=>fin res8 fun (s43:Unit)=>some (-1)
theorem Eb (x0:List Fct) (y0:Int):Le (Ci x0 y0) (Bk x0 y0):=by
  unfold Ci Bk
  repeat' (first|apply JM|apply Le.ite|apply Le.bnd|apply Le.fin|apply Le.rng|apply Le.rngN|apply Le.lop|exact Le.rf|intro _)
noncomputable def BY (x0:List Fct) (y0:Int):Option Bool :=
  bnd (bnd (Ci x0 y0) fun q10=>if 0≤q10 then (some true) else (some false):Option Bool) fun y6=>some y6
theorem DK (x0:List Fct) (y0:Int):Le (BY x0 y0) (Bd x0 y0):=by
  unfold BY Bd
  repeat' (first|apply Eb|apply Le.ite|apply Le.bnd|apply Le.fin|apply Le.rng|apply Le.rngN|apply Le.lop|exact Le.rf|intro _)
noncomputable def CV (x0:List Fct) (x1:Int):Option Bool :=
  bnd (bnd (BY x0 x1) fun q14=>if q14=true then some true else some false:Option Bool) fun y10=>some y10
theorem Gz (x0:List Fct) (x1:Int):Le (CV x0 x1) (Ck x0 x1):=by
  unfold CV Ck
  repeat' (first|apply DK|apply Le.ite|apply Le.bnd|apply Le.fin|apply Le.rng|apply Le.rngN|apply Le.lop|exact Le.rf|intro _)
noncomputable def Hg (x0:Job) (y0:Int):Option Bool :=
  bnd (bnd (CV x0.atStart y0) fun q35=>if q35=true then some true else bnd (CV x0.atEnd y0) fun q42=>if q42=true then some true else some false:Option Bool) fun y31=>some y31
theorem LE (x0:Job) (y0:Int):Le (Hg x0 y0) (El x0 y0):=by
  unfold Hg El
  repeat' (first|apply Gz|apply Le.ite|apply Le.bnd|apply Le.fin|apply Le.rng|apply Le.rngN|apply Le.lop|exact Le.rf|intro _)
noncomputable def Cy (x0:List Job) (y0:Int):Option Int :=
  bnd (rng (ρ:=Int) (fun (k12:Nat) (a13:Job) (s10:Unit)=>bnd (Hg a13 y0) fun q52=>if q52=true then some (.ret (k12:Int)) else some (.next ())) x0 0 ()) fun res8=>fin res8 fun (s63:Unit)=>some (-1)
theorem EI (x0:List Job) (y0:Int):Le (Cy x0 y0) (Bt x0 y0):=by
  unfold Cy Bt
  repeat' (first|apply LE|apply Le.ite|apply Le.bnd|apply Le.fin|apply Le.rng|apply Le.rngN|apply Le.lop|exact Le.rf|intro _)
noncomputable def Cs (x0:List Job) (y0:Int):Option Bool :=
  bnd (bnd (Cy x0 y0) fun q10=>if 0≤q10 then (some true) else (some false):Option Bool) fun y6=>some y6
theorem Et (x0:List Job) (y0:Int):Le (Cs x0 y0) (AU x0 y0):=by
  unfold Cs AU
  repeat' (first|apply EI|apply Le.ite|apply Le.bnd|apply Le.fin|apply Le.rng|apply Le.rngN|apply Le.lop|exact Le.rf|intro _)
noncomputable def Hi (x0:Job) (y0:Int):Option Bool :=
  bnd (bnd (CV x0.start y0) fun q35=>if q35=true then some true else bnd (CV x0.fin y0) fun q42=>if q42=true then some true else some false:Option Bool) fun y31=>some y31
theorem LF (x0:Job) (y0:Int):Le (Hi x0 y0) (Em x0 y0):=by
  unfold Hi Em
  repeat' (first|apply Gz|apply Le.ite|apply Le.bnd|apply Le.fin|apply Le.rng|apply Le.rngN|apply Le.lop|exact Le.rf|intro _)
noncomputable def Cz (x0:List Job) (y0:Int):Option Int :=
  bnd (rng (ρ:=Int) (fun (k12:Nat) (a13:Job) (s10:Unit)=>bnd (Hi a13 y0) fun q52=>if q52=true then some (.ret (k12:Int)) else some (.next ())) x0 0 ()) fun res8=>fin res8 fun (s63:Unit)=>some (-1)
theorem EJ (x0:List Job) (y0:Int):Le (Cz x0 y0) (Bu x0 y0):=by
  unfold Cz Bu
  repeat' (first|apply LF|apply Le.ite|apply Le.bnd|apply Le.fin|apply Le.rng|apply Le.rngN|apply Le.lop|exact Le.rf|intro _)
noncomputable def Ct (x0:List Job) (y0:Int):Option Bool :=
  bnd (bnd (Cz x0 y0) fun q10=>if 0≤q10 then (some true) else (some false):Option Bool) fun y6=>some y6
theorem Eu (x0:List Job) (y0:Int):Le (Ct x0 y0) (AZ x0 y0):=by
  unfold Ct AZ
  repeat' (first|apply EJ|apply Le.ite|apply Le.bnd|apply Le.fin|apply Le.rng|apply Le.rngN|apply Le.lop|exact Le.rf|intro _)
noncomputable def Ig (x0:Tpl):Option Lay :=
  bnd (Fe x0.vars) fun q29=>bnd (some q29:Option (List Int)) fun y31=>bnd (rng (ρ:=Lay) (fun (k81:Nat) (a82:Job) (s79:(List Int))=>bnd (chkI (a82.dur + 2)) fun n132=>bnd (appI 8 s79 ([n132,2]:List Int)) fun u141=>some (.next u141)) x0.jobs 0 y31) fun res77=>fin res77 fun (s158:(List Int))=>bnd (rng (ρ:=Lay) (fun (k166:Nat) (a167:Int) (s164:(List Int)×(List Int)×(List Int))=>bnd (bnd (Cs x0.jobs (k166:Int)) fun q204=>if q204=true then bnd (appI 8 s164.2.2 [2]) fun u213=>bnd (Ct x0.jobs (k166:Int)) fun q227=>if q227=true then bnd (appI 8 u213 [2]) fun u236=>some ((s164.2.2.length:Int),(u213.length:Int),u236) else some ((s164.2.2.length:Int),(-1),u213) else some ((-1),(-1),s164.2.2):Option (Int×Int×(List Int))) fun y196=>bnd (appI 8 s164.1 ([y196.1]:List Int)) fun u254=>bnd (appI 8 s164.2.1 ([y196.2.1]:List Int)) fun u256=>some (.next (u254,u256,y196.2.2))) x0.vars 0 (([]:List Int),([]:List Int),s158)) fun res162=>fin res162 fun (s358:(List Int)×(List Int)×(List Int))=>bnd (chkI ((x0.jobs.length:Int) + 2)) fun n366=>bnd (appI 8 s358.2.2 [n366]) fun u369=>some (⟨(x0.vars.length:Int),s358.1,s358.2.1,(s358.2.2.length:Int),u369⟩:Lay)
theorem Ny (x0:Tpl):Le (Ig x0) (Dy x0):=by
  unfold Ig Dy
  repeat' (first|apply Gx|apply Et|apply Eu|apply Le.ite|apply Le.bnd|apply Le.fin|apply Le.rng|apply Le.rngN|apply Le.lop|exact Le.rf|intro _)
noncomputable def Cm (x0:Lay) (x1:Int):Option Int :=
  bnd (chkI (2 * x1)) fun n23=>bnd (chkI (x0.jobs + n23)) fun n26=>some n26
theorem GG (x0:Lay) (x1:Int):Le (Cm x0 x1) (BF x0 x1):=by
  unfold Cm BF
  repeat' (first|apply Le.ite|apply Le.bnd|apply Le.fin|apply Le.rng|apply Le.rngN|apply Le.lop|exact Le.rf|intro _)
noncomputable def DE (x0:Lay) (x1:Int):Option Int :=
  bnd (chkI (2 * x1)) fun n23=>bnd (chkI (x0.jobs + n23)) fun n26=>bnd (chkI (n26 + 1)) fun n29=>some n29
theorem GQ (x0:Lay) (x1:Int):Le (DE x0 x1) (Cv x0 x1):=by
  unfold DE Cv
  repeat' (first|apply Le.ite|apply Le.bnd|apply Le.fin|apply Le.rng|apply Le.rngN|apply Le.lop|exact Le.rf|intro _)
noncomputable def Fq (x0:Lay) (x1:List Fct) (x2:List Fct):Option ((List Fct)×(List Eff)) :=
  bnd (rng (ρ:=(List Fct)×(List Eff)) (fun (k34:Nat) (a35:Int) (s32:(List Fct)×(List Eff))=>bnd (CV x2 (k34:Int)) fun q53=>if q53=true then bnd (appI 16 s32.1 [(⟨a35,0⟩:Fct)]) fun u135=>bnd (bnd (x0.read[k34]?) fun a153=>if 0≤a153 then (bnd (x0.read[k34]?) fun a164=>bnd (appI 16 u135 [(⟨a164,0⟩:Fct)]) fun u174=>some u174) else (some u135):Option (List Fct)) fun y147=>bnd (appI 40 s32.2 [(⟨([]:List Fct),a35,1⟩:Eff)]) fun u198=>some (.next (y147,u198)) else bnd (bnd (CV x1 (k34:Int)) fun q64=>if q64=true then if 0≤a35 then (some true) else (some false) else some false:Option Bool) fun y60=>if y60=true then (bnd (appI 16 s32.1 [(⟨a35,0⟩:Fct)]) fun u93=>bnd (x0.read[k34]?) fun a105=>bnd (appI 40 s32.2 [(⟨([]:List Fct),a105,1⟩:Eff)]) fun u115=>some (.next (u93,u115))) else (some (.next (s32.1,s32.2)))) x0.write 0 (([]:List Fct),([]:List Eff))) fun res30=>fin res30 fun (s214:(List Fct)×(List Eff))=>some (s214.1,s214.2)
theorem IP (x0:Lay) (x1:List Fct) (x2:List Fct):Le (Fq x0 x1 x2) (CI x0 x1 x2):=by
  unfold Fq CI
  repeat' (first|apply Gz|apply Le.ite|apply Le.bnd|apply Le.fin|apply Le.rng|apply Le.rngN|apply Le.lop|exact Le.rf|intro _)
noncomputable def Dz (x0:Lay) (x1:ByteArray) (x2:List Fct) (x3:List Fct) (x4:List Fct) (x5:List Eff):Option Opr :=
  bnd (Ds [x2,x4,[(⟨x0.phase,0⟩:Fct)]]) fun q56=>bnd (rng (ρ:=Opr) (fun (k79:Nat) (a80:Fct) (s77:(List Eff))=>bnd (appI 40 s77 [(⟨([]:List Fct),a80.var,a80.val⟩:Eff)]) fun u110=>some (.next u110)) x3 0 ([]:List Eff)) fun res75=>fin res75 fun (s128:(List Eff))=>bnd (Fq x0 x2 x3) fun q130=>bnd (appI 16 q56 q130.1) fun u145=>bnd (CZ [s128,x5,q130.2]) fun q168=>bnd (srtE u145) fun u185=>some (⟨x1,0,u185,q168⟩:Opr)
theorem Ib (x0:Lay) (x1:ByteArray) (x2:List Fct) (x3:List Fct) (x4:List Fct) (x5:List Eff):Le (Dz x0 x1 x2 x3 x4 x5) (Ca x0 x1 x2 x3 x4 x5):=by
  unfold Dz Ca
  repeat' (first|apply GE|apply FY|apply IP|exact fun r h=>Ub h|apply Le.bnd|apply Le.fin|apply Le.rng|apply Le.ite|exact Le.rf|intro _)
noncomputable def FF (x0:Lay) (x1:Job) (x2:Int) (x3:Int):Option Opr :=
  bnd (catI (⟨#[119,97,105,116,32]⟩:ByteArray) x1.name) fun n58=>bnd (catI n58 (⟨#[32]⟩:ByteArray)) fun n60=>bnd (JK x3) fun q62=>bnd (catI n60 q62) fun n64=>bnd (some ():Option Unit) fun y66=>bnd (if 0 < x3 then (bnd (Dw x1.over) fun q108=>some q108) else (some ([]:List Fct)):Option (List Fct)) fun y101=>bnd (chkI (x2 + 1)) fun n124=>bnd (Cm x0 x2) fun q127=>bnd (appI 16 y101 [(⟨q127,x3⟩:Fct),(⟨x0.phase,n124⟩:Fct)]) fun u141=>bnd (if 1 < x3 then (bnd (chkI (x3 - 1)) fun n161=>bnd (Cm x0 x2) fun q164=>bnd (appI 40 ([]:List Eff) [(⟨([]:List Fct),q164,n161⟩:Eff)]) fun u180=>some u180) else (if x3=1 then (bnd (chkI (x1.dur + 1)) fun n194=>bnd (Cm x0 x2) fun q197=>bnd (appI 40 ([]:List Eff) [(⟨([]:List Fct),q197,n194⟩:Eff)]) fun u213=>some u213) else (some ([]:List Eff))):Option (List Eff)) fun y154=>bnd (chkI (x2 + 2)) fun n230=>bnd (appI 40 y154 [(⟨([]:List Fct),x0.phase,n230⟩:Eff)]) fun u233=>some (⟨n64,0,u141,u233⟩:Opr)
theorem Jp (x0:Lay) (x1:Job) (x2:Int) (x3:Int):Le (FF x0 x1 x2 x3) (CD x0 x1 x2 x3):=by
  unfold FF CD
  repeat' (first|apply GG|apply EN|apply Na|apply Le.ite|apply Le.bnd|apply Le.fin|apply Le.rng|apply Le.rngN|apply Le.lop|exact Le.rf|intro _)
noncomputable def EY (x0:Lay) (x1:Int):Option Opr :=
  bnd (chkI (x1 + 1)) fun n28=>bnd (natI x1) fun N57=>bnd (rngN (ρ:=Opr) (fun (k48:Nat) (s46:(List Eff))=>bnd (DE x0 (k48:Int)) fun q63=>bnd (appI 40 s46 [(⟨([]:List Fct),q63,0⟩:Eff)]) fun u77=>some (.next u77)) N57 ([]:List Eff)) fun res44=>fin res44 fun (s94:(List Eff))=>bnd (rng (ρ:=Opr) (fun (k102:Nat) (a103:Int) (s100:(List Eff))=>bnd (if 0≤a103 then (bnd (appI 40 s100 [(⟨([]:List Fct),a103,0⟩:Eff)]) fun u146=>some u146) else (some s100):Option (List Eff)) fun y117=>bnd (x0.read[k102]?) fun a163=>if 0≤a163 then (bnd (x0.read[k102]?) fun a174=>bnd (appI 40 y117 [(⟨([]:List Fct),a174,0⟩:Eff)]) fun u190=>some (.next u190)) else (some (.next y117))) x0.write 0 s94) fun res98=>fin res98 fun (s207:(List Eff))=>bnd (appI 40 s207 [(⟨([]:List Fct),x0.phase,0⟩:Eff)]) fun u209=>some (⟨(⟨#[97,100,118,97,110,99,101]⟩:ByteArray),1,[(⟨x0.phase,n28⟩:Fct)],u209⟩:Opr)
theorem Iq (x0:Lay) (x1:Int):Le (EY x0 x1) (Cr x0 x1):=by
  unfold EY Cr
  repeat' (first|apply GQ|apply Le.ite|apply Le.bnd|apply Le.fin|apply Le.rng|apply Le.rngN|apply Le.lop|exact Le.rf|intro _)
noncomputable def Fu (x0:Tpl):Option (Tsk×Err) :=
  bnd (FU x0) fun q29=>if q29.n≠0 then (some ((⟨([]:List Int),([]:List Int),([]:List Fct),([]:List Opr)⟩:Tsk),(⟨q29.n⟩:Err))) else (bnd (Ig x0) fun q40=>bnd (mkI 8 (0:Int) (q40.vars.length:Int)) fun u69=>bnd (Dw x0.goal) fun q71=>bnd (some (u69,q71):Option ((List Int)×(List Fct))) fun y73=>bnd (rng (ρ:=Tsk×Err) (fun (k228:Nat) (a229:Job) (s226:(List Fct)×(List Opr))=>bnd (Cm q40 (k228:Int)) fun q283=>bnd (DE q40 (k228:Int)) fun q285=>bnd (some ():Option Unit) fun y287=>bnd (catI (⟨#[115,116,97,114,116,32]⟩:ByteArray) a229.name) fun n533=>bnd (Cm q40 (k228:Int)) fun q535=>bnd (Dz q40 n533 a229.start a229.atStart [(⟨q283,0⟩:Fct),(⟨q285,0⟩:Fct)] [(⟨([]:List Fct),q535,a229.dur⟩:Eff)]) fun q537=>bnd (appI 72 s226.2 [q537]) fun u539=>bnd (some u539:Option (List Opr)) fun y541=>bnd (chkI (a229.dur + 1)) fun n710=>bnd (Cm q40 (k228:Int)) fun q712=>bnd (some ():Option Unit) fun y714=>bnd (catI (⟨#[101,110,100,32]⟩:ByteArray) a229.name) fun n752=>bnd (Cm q40 (k228:Int)) fun q754=>bnd (DE q40 (k228:Int)) fun q756=>bnd (Dz q40 n752 a229.fin a229.atEnd [(⟨q712,n710⟩:Fct)] [(⟨([]:List Fct),q754,0⟩:Eff),(⟨([]:List Fct),q756,1⟩:Eff)]) fun q758=>bnd (appI 72 y541 [q758]) fun u760=>bnd (some u760:Option (List Opr)) fun y762=>bnd (appI 16 s226.1 [(⟨q283,0⟩:Fct)]) fun u998=>some (.next (u998,y762))) x0.jobs 0 (y73.2,([]:List Opr))) fun res224=>fin res224 fun (s1016:(List Fct)×(List Opr))=>bnd (appI 16 s1016.1 [(⟨q40.phase,0⟩:Fct)]) fun u1018=>bnd (if 0 < (x0.jobs.length:Int) then (bnd (appI 72 s1016.2 [(⟨(⟨#[116,105,99,107]⟩:ByteArray),0,[(⟨q40.phase,0⟩:Fct)],[(⟨([]:List Fct),q40.phase,1⟩:Eff)]⟩:Opr)]) fun u1057=>bnd (rng (ρ:=(List Opr)) (fun (k1077:Nat) (a1078:Job) (s1075:(List Opr))=>bnd (chkI (a1078.dur + 1)) fun n1128=>bnd (natI n1128) fun N1144=>bnd (rngN (ρ:=Ctl (List Opr) (List Opr)) (fun (k1135:Nat) (s1133:(List Opr))=>bnd (FF q40 a1078 (k1077:Int) (k1135:Int)) fun q1150=>bnd (appI 72 s1133 [q1150]) fun u1174=>some (.next u1174)) N1144 s1075) fun res1131=>fin res1131 fun (s1191:(List Opr))=>some (.next s1191)) x0.jobs 0 u1057) fun res1073=>fin res1073 fun (s1197:(List Opr))=>bnd (EY q40 (x0.jobs.length:Int)) fun q1201=>bnd (appI 72 s1197 [q1201]) fun u1225=>some u1225) else (some s1016.2):Option (List Opr)) fun y1032=>bnd (Ll (⟨q40.vars,(cpyL y73.1 x0.init),u1018,y1032⟩:Tsk)) fun q1248=>if q1248.n≠0 then (some ((⟨([]:List Int),([]:List Int),([]:List Fct),([]:List Opr)⟩:Tsk),(⟨q1248.n⟩:Err))) else (some ((⟨q40.vars,(cpyL y73.1 x0.init),u1018,y1032⟩:Tsk),(⟨0⟩:Err))))
theorem Ic (x0:Tpl):Le (Fu x0) (BN x0):=by
  unfold Fu BN
  repeat' (first|apply Ny|apply Iq|apply GQ|apply Ib|apply GG|apply Jp|apply EN|apply Oi|apply Ih|apply Le.ite|apply Le.bnd|apply Le.fin|apply Le.rng|apply Le.rngN|apply Le.lop|exact Le.rf|intro _)
noncomputable def Dd (x0:List Lch) (x1:Lch):Option Int :=
  bnd (rng (ρ:=Int) (fun (k19:Nat) (a20:Lch) (s17:Unit)=>if x1.tm=a20.tm∧x1.job=a20.job then (some (.ret (k19:Int))) else (some (.next ()))) x0 0 ()) fun res15=>fin res15 fun (s44:Unit)=>some (-1)
theorem Gh (x0:List Lch) (x1:Lch):Le (Dd x0 x1) (BR x0 x1):=by
  unfold Dd BR
  repeat' (first|apply Le.ite|apply Le.bnd|apply Le.fin|apply Le.rng|apply Le.rngN|apply Le.lop|exact Le.rf|intro _)
noncomputable def CR (x0:List Lch) (x1:Lch):Option Bool :=
  bnd (bnd (Dd x0 x1) fun q17=>if 0≤q17 then (some true) else (some false):Option Bool) fun y13=>some y13
theorem FH (x0:List Lch) (x1:Lch):Le (CR x0 x1) (Br x0 x1):=by
  unfold CR Br
  repeat' (first|apply Gh|apply Le.ite|apply Le.bnd|apply Le.fin|apply Le.rng|apply Le.rngN|apply Le.lop|exact Le.rf|intro _)
noncomputable def FG (x0:Wtr):Option Wtr :=
  bnd (chkI (2 * (x0.t.jobs.length:Int))) fun n40=>bnd (appI 8 x0.out ([n40]:List Int)) fun u49=>bnd (rng (ρ:=Wtr) (fun (k73:Nat) (a74:Job) (s71:Wtr)=>bnd (s71.first[k73]?) fun a122=>bnd (s71.left[k73]?) fun a132=>bnd (chkI (a122 + a132)) fun n142=>bnd (appI 8 s71.out ([n142]:List Int)) fun u151=>bnd (s71.left[k73]?) fun a164=>bnd (chkI (a164 - 1)) fun n174=>bnd (s71.left[k73]?) fun a177=>some (.next (⟨(⟨s71.t.vars,s71.t.init,s71.t.goal,s71.t.jobs⟩:Tpl),s71.first,s71.last,(s71.left.set k73 (max 0 n174)),u151⟩:Wtr))) x0.t.jobs 0 (⟨(⟨x0.t.vars,x0.t.init,x0.t.goal,x0.t.jobs⟩:Tpl),x0.first,x0.last,x0.left,u49⟩:Wtr)) fun res69=>fin res69 fun (s198:Wtr)=>bnd (appI 8 s198.out ([s198.last]:List Int)) fun u242=>some (⟨(⟨s198.t.vars,s198.t.init,s198.t.goal,s198.t.jobs⟩:Tpl),s198.first,s198.last,s198.left,u242⟩:Wtr)
theorem Jq (x0:Wtr):Le (FG x0) (CM x0):=by
  unfold FG CM
  repeat' (first|apply Le.ite|apply Le.bnd|apply Le.fin|apply Le.rng|apply Le.rngN|apply Le.lop|exact Le.rf|intro _)
noncomputable def HN (x0:Tpl) (x1:List Lch):Option ((List Int)×Err) :=
  bnd (Gg x0 x1) fun q27=>if q27.2.n≠0 then (some (([]:List Int),(⟨q27.2.n⟩:Err))) else (bnd (Fu x0) fun q41=>if q41.2.n≠0 then (some (([]:List Int),(⟨q41.2.n⟩:Err))) else (bnd (chkI (2 * (x1.length:Int))) fun n80=>bnd (chkI ((x0.jobs.length:Int) + 2)) fun n85=>bnd (chkI (q27.1 * n85)) fun n88=>bnd (chkI (n80 + n88)) fun n91=>if 65536 < n91 then (some (([]:List Int),(⟨5⟩:Err))) else (bnd (chkI ((q41.1.ops.length:Int) - 1)) fun n97=>bnd (mkI 8 (0:Int) (x0.jobs.length:Int)) fun u102=>bnd (chkI (2 * (x0.jobs.length:Int))) fun n122=>bnd (chkI (n122 + 1)) fun n125=>bnd (rng (ρ:=(List Int)×Err) (fun (k143:Nat) (a144:Job) (s141:Int×Wtr)=>bnd (appI 8 s141.2.first [s141.1]) fun u230=>bnd (chkI (a144.dur + 1)) fun n244=>bnd (chkI (s141.1 + n244)) fun n247=>some (.next (n247,(⟨(⟨s141.2.t.vars,s141.2.t.init,s141.2.t.goal,s141.2.t.jobs⟩:Tpl),u230,s141.2.last,s141.2.left,s141.2.out⟩:Wtr)))) x0.jobs 0 (n125,(⟨(⟨x0.vars,x0.init,x0.goal,x0.jobs⟩:Tpl),([]:List Int),n97,u102,([]:List Int)⟩:Wtr))) fun res139=>fin res139 fun (s259:Int×Wtr)=>bnd (IJ x1) fun q261=>bnd (chkI (q27.1 + 1)) fun n270=>bnd (natI n270) fun N286=>bnd (rngN (ρ:=(List Int)×Err) (fun (k277:Nat) (s275:Wtr)=>bnd (rng (ρ:=Ctl Wtr ((List Int)×Err)) (fun (k296:Nat) (a297:Job) (s294:Wtr)=>bnd (chkI ((k277:Int) - a297.dur)) fun n345=>bnd (CR x1 (⟨n345,(k296:Int)⟩:Lch)) fun q348=>if q348=true then bnd (chkI (2 * (k296:Int))) fun n391=>bnd (chkI (n391 + 1)) fun n394=>bnd (appI 8 s294.out [n394]) fun u397=>some (.next (⟨(⟨s294.t.vars,s294.t.init,s294.t.goal,s294.t.jobs⟩:Tpl),s294.first,s294.last,s294.left,u397⟩:Wtr)) else some (.next s294)) x0.jobs 0 s275) fun res292=>fin res292 fun (s420:Wtr)=>bnd (rng (ρ:=Ctl Wtr ((List Int)×Err)) (fun (k428:Nat) (a429:Lch) (s426:Wtr)=>if a429.tm=(k277:Int) then (bnd (chkI (2 * a429.job)) fun n494=>bnd (appI 8 s426.out ([n494]:List Int)) fun u503=>bnd (atI x0.jobs a429.job) fun a516=>bnd (atI s426.left a429.job) fun a549=>some (.next (⟨(⟨s426.t.vars,s426.t.init,s426.t.goal,s426.t.jobs⟩:Tpl),s426.first,s426.last,(s426.left.set (a429.job:Int).toNat a516.dur),u503⟩:Wtr))) else (some (.next s426))) q261 0 s420) fun res424=>fin res424 fun (s572:Wtr)=>if (k277:Int) < q27.1 then (bnd (FG s572) fun q575=>some (.next q575)) else (some (.next s572))) N286 s259.2) fun res273=>fin res273 fun (s587:Wtr)=>some (s587.out,(⟨0⟩:Err)))))
theorem Nb (x0:Tpl) (x1:List Lch):Le (HN x0 x1) (Cj x0 x1):=by
  unfold HN Cj
  repeat' (first|apply Ic|apply LA|apply Jq|apply FH|apply Kr|apply Le.ite|apply Le.bnd|apply Le.fin|apply Le.rng|apply Le.rngN|apply Le.lop|exact Le.rf|intro _)
noncomputable def HA  : Option Tpl :=
  some (⟨([2]:List Int),([0]:List Int),[(⟨0,0⟩:Fct)],[(⟨(⟨#[108,105,103,104,116]⟩:ByteArray),3,[(⟨0,0⟩:Fct)],[(⟨0,1⟩:Fct)],([]:List Fct),[(⟨0,1⟩:Fct)],[(⟨0,0⟩:Fct)]⟩:Job)]⟩:Tpl)
theorem Ol  : Le (HA ) (FC ):=by
  unfold HA FC
  repeat' (first|apply Le.ite|apply Le.bnd|apply Le.fin|apply Le.rng|apply Le.rngN|apply Le.lop|exact Le.rf|intro _)
noncomputable def KC  : Option Bool :=
  bnd (HA) fun q1=>bnd (Fu q1) fun q25=>bnd (HA) fun q61=>bnd (HN q61 [(⟨0,0⟩:Lch)]) fun q93=>bnd (if q25.2.n=0 then (if q93.2.n=0 then (bnd (HV q25.1.vars ([2,5,2,2,2,3]:List Int)) fun q119=>if q119=true then bnd (HV q93.1 ([0,2,6,7,2,5,7,2,4,7,1]:List Int)) fun q132=>if q132=true then some true else some false else some false) else (some false)) else (some false):Option Bool) fun y107=>some y107
theorem Nz  : Le (KC ) (EH ):=by
  unfold KC EH
  repeat' (first|apply Pk|apply Ic|apply Nb|apply Ol|apply Le.ite|apply Le.bnd|apply Le.fin|apply Le.rng|apply Le.rngN|apply Le.lop|exact Le.rf|intro _)
set_option maxRecDepth 100000 in
theorem awake56:EH=some true:=Nz true (by kernel_rfl)
end
section
open Go Go.RowKit
theorem HO {α σ ρ:Type} {f:Nat→α→σ→Option (Ctl σ ρ)} {k:Nat} {s:σ}:rng f [] k s=some (.done s):=by rw [rng]
theorem Uf (t:Tpl) (l:List Lch):∃ b,GO t l=some b∧(b=true→t.vars.length≤70∧t.jobs.length≤30∧l.length≤12∧t.goal.length≤80∧∀ j∈t.jobs,j.name.size≤300):=by
  unfold GO
  by_cases h1:70 < (t.vars.length:Int)
  · rw [if_pos h1,Ae,EG];exact ⟨_,rfl,fun h=>by cases h⟩
  rw [if_neg h1]
  by_cases h2:30 < (t.jobs.length:Int)
  · rw [if_pos h2,Ae,EG];exact ⟨_,rfl,fun h=>by cases h⟩
  rw [if_neg h2]
  by_cases h3:12 < (l.length:Int)
  · rw [if_pos h3,Ae,EG];exact ⟨_,rfl,fun h=>by cases h⟩
  rw [if_neg h3]
  by_cases h4:80 < (t.goal.length:Int)
  · rw [if_pos h4,Ae,EG];exact ⟨_,rfl,fun h=>by cases h⟩
  rw [if_neg h4,Ae,GI]
  rw [Jz (fun j:Job=>decide (100 < wr (wr (wr (wr ((j.start.length:Int) + (j.over.length:Int)) + (j.fin.length:Int)) + (j.atStart.length:Int)) + (j.atEnd.length:Int))) || decide (300 < (j.name.size:Int))) false (fun k a hk=>by rw [Oy,Ae])]
  split
  · exact ⟨_,rfl,fun h=>by cases h⟩
  · rename_i h5
    refine ⟨_,rfl,fun _=>⟨by omega,by omega,by omega,by omega,fun j hj=>?_⟩⟩
    simp only [List.any_eq_true,not_exists,not_and,Bool.or_eq_true,decide_eq_true_eq,not_or] at h5
    have:=(h5 j hj).2
    omega
theorem Qe {l:List Int} (h:l.length≤1000):Bw l=some l:=if_pos ⟨by omega,by omega⟩
theorem Mt {l:List Fct} (h:l.length≤1000):BJ l=some l:=if_pos ⟨by omega,by omega⟩
theorem noJob1 (v:Int):AU [] v=some false:=rfl
def tpl0 (t:Tpl):Tpl:=⟨t.vars,t.init,t.goal,[]⟩
theorem lay0 {t:Tpl} (h:t.vars.length≤64):Dy (tpl0 t)=some ⟨(t.vars.length:Int),List.replicate t.vars.length (-1),List.replicate t.vars.length (-1),(t.vars.length:Int),t.vars ++ [2]⟩:=by
  unfold Dy tpl0
  dsimp only
  rw [Qe (by omega),Ae,Ae]
  rw [HO,Ae,BH]
  rw [CF (fun k=>(List.replicate k (-1),List.replicate k (-1),t.vars)) (by simp) (fun k x hk=>by
    have hlt:=Bl hk
    rw [noJob1,Ae,GI,Ae]
    rw [Bb (by simp;omega) (by simp;omega),Ae,Ae]
    simp [List.replicate_succ'])]
  rw [Ae,BH]
  show bnd (chkI ((0:Int) + 2)) _=_
  rw [show chkI ((0:Int) + 2)=some 2 from rfl,Ae,Bb (by simp;omega) (by simp;omega),Ae]
def out0 (t:Tpl):Tsk:=⟨t.vars ++ [2],t.init ++ [0],t.goal ++ [⟨(t.vars.length:Int),0⟩],[]⟩
theorem Ug {t:Tpl} (h:TplOk t):TplOk (tpl0 t):=⟨h.nv,by simp [tpl0],h.doms,fun j hj=>(by cases hj),h.init,fun l hl=>(by
    have:l=t.goal:=by simpa [lsts,tpl0] using hl
    subst this;exact h.goal)⟩
theorem UY {t:Tpl} (h:TplOk t) (hn:∀ j∈t.jobs,nmB j.name=true):tck t=0:=by
  unfold tck
  rw [if_neg (by
    simp only [Bool.or_eq_true,decide_eq_true_eq,List.any_eq_true,not_or,not_exists,not_and]
    exact ⟨Nat.not_lt.2 h.nv,Nat.not_lt.2 h.nj,fun l hl=>Nat.not_lt.2 (h.lists l hl).1⟩)]
  rw [if_neg (by
    simp only [Bool.or_eq_true,decide_eq_true_eq,List.any_eq_true,not_exists,not_and]
    intro n hn2 hq;have:=h.doms n hn2;omega)]
  rw [if_neg (by
    simp only [Bool.or_eq_true,decide_eq_true_eq,List.any_eq_true,not_exists,not_and]
    intro n hn2 hq;have:=h.durs n hn2;omega)]
  rw [if_pos (Da h.init)]
  rw [if_neg (by
    simp only [List.any_eq_true,not_exists,not_and]
    intro l hl;rw [Da (h.lists l hl).2];decide)]
  rw [if_neg (by
    simp only [List.any_eq_true,not_exists,not_and]
    intro j hj;rw [hn j hj];decide)]
theorem tck0 {t:Tpl} (h:TplOk t):tck (tpl0 t)=0:=UY (Ug h) fun j hj=>by cases hj
theorem cpy0 {l:List Int} {n:Nat} (h:l.length=n):cpyL (List.replicate (n + 1) (0:Int)) l=l ++ [0]:=by
  unfold cpyL
  subst h
  rw [List.length_replicate,List.take_of_length_le (by omega),List.drop_replicate,show l.length + 1 - l.length=1 from by omega]
  rfl
theorem compile0 {t:Tpl} (h:TplOk t):BN (tpl0 t)=some (if checkN (out0 t)≠0 then (⟨[],[],[],[]⟩,⟨checkN (out0 t)⟩) else (out0 t,⟨0⟩)):=by
  have hn:=h.nv
  have hg:=h.goal.1
  unfold BN
  rw [HZ (by simp [tpl0]),tck0 h,Ae,if_neg (by simp),lay0 hn,Ae]
  dsimp only
  rw [OG (by simp;omega) (by simp;omega),Ae]
  rw [show (tpl0 t).goal=t.goal from rfl,Mt (by omega),Ae,Ae]
  rw [show (tpl0 t).jobs=[] from rfl,HO,Ae,BH]
  dsimp only
  rw [Bb (by simp;omega) (by simp;omega),Ae,if_neg (by simp),Ae]
  rw [show (tpl0 t).init=t.init from rfl,show (t.vars ++ [(2:Int)]).length=t.vars.length + 1 from by simp,cpy0 h.init.1]
  unfold DM
  rw [Ae]
  show (if checkN (out0 t)≠0 then _ else _)=_
  by_cases hc:checkN (out0 t)≠0
  · rw [if_pos hc,if_pos hc];rfl
  · rw [if_neg hc,if_neg hc];rfl
theorem QO {t:Tpl} (h:TplOk t):(t.vars.length < 64→checkN (out0 t)=0)∧(64≤t.vars.length→checkN (out0 t)=5):=by
  constructor
  · intro hl
    refine FR.2 ⟨by simp [out0];omega,by simp [out0],fun i n hn=>?_,⟨?_,fun i x y hx hy=>?_⟩,factsPw.2 ⟨fun x hx=>?_,?_⟩,fun i o ho=>by simp [out0] at ho⟩
    · rcases List.mem_append.1 (List.mem_of_getElem? hn) with hm|hm
      · exact h.doms n hm
      · have:n=2:=by simpa using hm
        omega
    · have:=h.init.1;simp [out0];exact this
    · have hi:=h.init.1
      by_cases hlt:i < t.vars.length
      · have hx':t.init[i]?=some x:=by rw [← hx];exact (List.getElem?_append_left (by omega)).symm
        have hy':t.vars[i]?=some y:=by rw [← hy];exact (List.getElem?_append_left hlt).symm
        exact h.init.2 i x y hx' hy'
      · have hlt2:=Bl hy
        have hie:i=t.vars.length:=by simp [out0] at hlt2;omega
        subst hie
        have e1:x=0:=by
          have:(t.init ++ [0])[t.vars.length]?=some x:=hx
          rw [List.getElem?_append_right (by omega),hi] at this
          simpa using this.symm
        have e2:y=2:=by
          have:(t.vars ++ [2])[t.vars.length]?=some y:=hy
          simpa using this.symm
        omega
    · rcases List.mem_append.1 hx with hm|hm
      · exact Sl ((factsPw.1 h.goal.2).1 x hm)
      · have:x=(⟨(t.vars.length:Int),0⟩:Fct):=by simpa using hm
        subst this
        exact ⟨by simp,by simp,2,by simp [out0],by simp⟩
    · show (t.goal ++ [(⟨(t.vars.length:Int),0⟩:Fct)]).Pairwise _
      rw [List.pairwise_append]
      refine ⟨(factsPw.1 h.goal.2).2,List.pairwise_singleton _ _,fun a ha b hb=>?_⟩
      have:b=(⟨(t.vars.length:Int),0⟩:Fct):=by simpa using hb
      subst this
      exact (Fz ((factsPw.1 h.goal.2).1 a ha)).2
  · intro hl
    unfold checkN
    rw [if_pos (Da (.inl (by simp [out0];omega)))]
theorem validate0 {t:Tpl} (h:TplOk t):Cf (tpl0 t) []=some (if holdsB t.goal t.init=true then (0,⟨0⟩) else (0,⟨13⟩)):=by
  unfold Cf CU
  rw [HZ (by simp [tpl0]),tck0 h,Ae,if_neg (by simp),if_neg (by simp)]
  have e1:Ce (tpl0 t) []=some (⟨[]⟩,[]):=by
    unfold Ce
    rw [HO,Ae,BH]
    have:keysI (⟨[]⟩:MapR 182 Int Hap)=some []:=if_pos ⟨fun a ha=>(by cases ha),by decide⟩
    rw [this,Ae]
    have h2:BT []=some []:=by unfold BT;rw [if_pos (by simp),NM];rfl
    rw [h2,Ae]
  rw [HO,Ae,BH,Ae,if_neg (by simp),e1,Ae]
  dsimp only
  rw [HO,Ae,BH]
  unfold Cq
  rw [Ae]
  show (if holdsB t.goal t.init=true then _ else _)=_
  cases holdsB t.goal t.init with
  | false=>rfl
  | true =>
    rw [EG,EG]
    unfold CJ
    rw [HO,Ae,BH,Ae]
set_option maxRecDepth 100000 in
theorem plan0 {t:Tpl} (h:TplOk t) (hl:t.vars.length < 64):Cj (tpl0 t) []=some (if holdsB t.goal t.init=true then ([],⟨0⟩) else ([],⟨13⟩)):=by
  unfold Cj
  rw [validate0 h,Ae]
  cases hh:holdsB t.goal t.init with
  | false=>rw [GI,GI];rfl
  | true =>
    rw [EG,EG,compile0 h,Ae,(QO h).1 hl,if_neg (by simp)]
    have s0:Dm []=some []:=by unfold Dm;rw [if_pos (by simp),Qb .nil]
    have hj:(tpl0 t).jobs=[]:=rfl
    rw [show (if (0:Int)≠0 then ((⟨[],[],[],[]⟩:Tsk),(⟨0⟩:Err)) else (out0 t,⟨0⟩))=(out0 t,⟨0⟩) from if_neg (by simp),if_neg (by simp)]
    have k5:(((out0 t).ops.length:Nat):Int) - 1=-1:=by simp [out0]
    simp only [hj,s0,List.length_nil,k5]
    rw [show chkI (2 * ((0:Nat):Int))=some 0 from rfl]
    simp only [Ae]
    rw [show chkI (((0:Nat):Int) + 2)=some 2 from rfl]
    simp only [Ae]
    rw [show chkI ((0:Int) * 2)=some 0 from rfl]
    simp only [Ae]
    rw [show chkI ((0:Int) + 0)=some 0 from rfl]
    simp only [Ae]
    rw [if_neg (by decide),show chkI (-1:Int)=some (-1) from rfl]
    simp only [Ae]
    rw [show mkI 8 (0:Int) ((0:Nat):Int)=some [] from rfl]
    simp only [Ae,HO,BH]
    rw [show chkI ((0:Int) + 1)=some 1 from rfl]
    simp only [Ae]
    rw [show natI (1:Int)=some 1 from rfl]
    simp only [Ae]
    rw [HY (fun _=>_) rfl (fun k hk=>by
      rw [if_neg (by omega)])]
    rfl
end
end Go.Proofs.YtjohlgjklmagnaaGreatDoor

/- Own text: what the proof of compileTasks_holds uses, part 2: rules, models and their proofs, plain laws. -/
import Derived.Test.YtjohlgjklmagnaaGreatDoorCTA
set_option linter.unusedVariables false
set_option linter.unusedSimpArgs false
namespace Go.Proofs.YtjohlgjklmagnaaGreatDoor
open Go Go.RowKit Go.Proofs.Tryz
section
open Go Go.RowKit
section
variable {P : Program}
theorem Pq {w:World} (ty:TypeId) {b bm since c0:Nat} {seen:Array Nat} {es:Array MapEntry} {clock:Nat} (hi:w.heap[b]?=some (.mapIter (some bm) since seen c0)) (hb:w.heap[bm]?=some (.map es clock)) (hold:∀ x∈es.toList,x.born < since) (hsc:since≤c0) :
    ((leftOf es seen).size=0∧(Instr.next (.pointer (some ⟨b,0,none⟩)) false ty).run P w=.ok (.tuple #[.bool false]) w) ∨
    ∃ e∈(leftOf es seen).toList,∃ d,(Instr.next (.pointer (some ⟨b,0,none⟩)) false ty).run P w=.ok (.tuple #[.bool true,e.key,e.val]) (dr { w with heap:=w.heap.setIfInBounds b (.mapIter (some bm) since (seen.push e.born) clock) } d):=by
  simp only [Instr.next,getObj,Sem.run_bind,Sem.run,hi,hb,Result.andThen,next_test_false seen es since c0 hold hsc,Bool.false_eq_true,if_false]
  unfold leftOf
  have hmem:∀ x∈(Array.filter (fun e=>!seen.contains e.born) es).toList,x.born < since:=fun x hx=>hold x (by simp at hx ⊢;exact hx.1)
  generalize Array.filter (fun e=>!seen.contains e.born) es=L at hmem ⊢
  have e1:L.filter (fun x=>decide (x.born < since))=L:=Array.filter_eq_self.2 (fun x hx=>by simpa using hmem x (by simpa using hx))
  have e2:L.filter (fun x=>decide (x.born ≥ since))=#[]:=by
    rw [Array.filter_eq_empty_iff]
    intro x hx
    have:=hmem x (by simpa using hx)
    simp
    omega
  simp only [e1,e2,Array.append_empty]
  by_cases h0:L.size=0
  · left
    have:L=#[]:=Array.eq_empty_of_size_eq_zero h0
    subst this
    refine ⟨rfl,?_⟩
    simp [choose,Sem.run,Question.forced]
  · right
    have hne:L.isEmpty=false:=by simp [Array.isEmpty,h0]
    simp only [hne,Bool.false_eq_true,if_false,Array.empty_append,Array.size_map]
    have hch:∃ (j:Nat) (d:Nat),j < L.size∧(choose (Question.mapNext L.size)).run P w=.ok j (dr w d):=by
      by_cases hf:L.size≤1
      · exact ⟨0,w.drawn,by omega,by simp [choose,Sem.run,Question.forced,hf,GM]⟩
      · exact ⟨_,w.drew.drawn,Nat.mod_lt _ (by omega),by
          simp only [choose,Sem.run,Question.forced,decide_eq_true_eq,hf,if_false,Question.cut]
          rfl⟩
    obtain ⟨j,d,hj,hrun⟩:=hch
    refine ⟨L[j],by simp,d,?_⟩
    have hset:∀ (o':Obj),(setObj b o').run P (dr w d)=.ok () (dr { w with heap:=w.heap.setIfInBounds b o' } d):=fun o'=>by
      have hi':(dr w d).heap[b]?=some (.mapIter (some bm) since seen c0):=hi
      simp only [setObj,Sem.run,hi']
      rfl
    simp only [hrun,Array.getElem?_map,Array.getElem?_eq_getElem hj,Option.map_some,Sem.run_bind,hset,Result.andThen]
    rfl
theorem OO {w:World} {b bm since:Nat} {seen:Array Nat} {es:Array MapEntry} {clock:Nat} {e:MapEntry} (hi:w.heap[b]?=some (.mapIter (some bm) since (seen.push e.born) clock)) (hb:w.heap[bm]?=some (.map es clock)) (he:e∈es.toList) (hn:(es.toList.map (·.born)).Nodup) :
    (Instr.entry (.pointer (some ⟨b,0,none⟩))).run P w=.ok (.tuple #[e.key,e.val]) w:=by
  have hf:es.find? (·.born == e.born)=some e:=by rw [← Array.find?_toList];exact find_born e es.toList hn he
  simp only [Instr.entry,getObj,Sem.run_bind,Sem.run,hi,hb,Result.andThen,Array.back?_push,bne_self_eq_false,Bool.false_eq_true,if_false,hf]
  rfl
end
theorem LE (e:MapEntry):∀ (l:List MapEntry),(l.map (·.born)).Nodup→e∈l→l.Perm (e :: l.filter fun x=>!(x.born == e.born))
  | x :: l,hn,he=>by
    rw [List.map_cons,List.nodup_cons] at hn
    by_cases hx:x.born=e.born
    · have hxe:x=e:=by
        rcases List.mem_cons.1 he with h|h
        · exact h.symm
        · exact absurd (List.mem_map.2 ⟨e,h,hx.symm⟩) hn.1
      subst hxe
      have:l.filter (fun y=>!(y.born == x.born))=l:=List.filter_eq_self.2 fun y hy=>by
        have:y.born≠x.born:=fun h=>hn.1 (List.mem_map.2 ⟨y,hy,h⟩)
        simpa using this
      simp [this]
    · have h:e∈l:=by
        rcases List.mem_cons.1 he with h|h
        · exact absurd (by rw [h]) hx
        · exact h
      have ih:=LE e l hn.2 h
      rw [List.filter_cons,if_pos (by simpa using hx)]
      exact (ih.cons x).trans (.swap e x _)
theorem NY (es:Array MapEntry) (seen:Array Nat) (k:Nat):(leftOf es (seen.push k)).toList=(leftOf es seen).toList.filter fun x=>!(x.born == k):=by
  unfold leftOf
  simp only [Array.toList_filter,List.filter_filter]
  congr 1
  funext x
  by_cases h:x.born=k<;>simp [h]
def decI:Value→Int
  | .int _ a=>a
  | _=>0
theorem Nw (l:List Int):(l.map fun a=>(MKey.enc a:Value)).map decI=l:=by
  rw [List.map_map]
  have:(decI ∘ fun a:Int=>(MKey.enc a:Value))=id:=by funext a;rfl
  rw [this,List.map_id]
def mkeys {e:TypeId} {V:Type} (x:MapR e Int V):List Int:=x.l.map (·.1)
theorem MapR.all {e:TypeId} {K V:Type} [MKey K] [Rp V] {i:Nat} {w:World} {O:Lab} {r:Nat} {x:MapR e K V} (h:Ob i w O (.map (some r)) x):∃ (es:List MapEntry) (ck:Nat),w.heap[r]?=some (.map es.toArray ck)∧KeyB es ck x.l∧O r=i:=by
  obtain ⟨⟨r',L,es,ck,hv,hb,hM,_,hk,_⟩,_⟩:=h
  injection hv with hv
  injection hv with hv
  subst hv
  exact ⟨es,ck,hb,hk,hM.2⟩
structure KI (j q:Nat) (ty:TypeId) (w:World) (O:Lab) (b r ck:Nat) (es:List MapEntry) (s:List Int×Option Addr×Nat×List MapEntry) (w':World):Prop where
  ex:∃ (O':Lab) (seen:Array Nat) (c0:Nat) (don:List MapEntry),St (fun k=>k=q∨k=j) w O w' O'∧w.heap.size≤b∧b < w'.heap.size∧w'.heap[b]?=some (.mapIter (some r) ck seen c0)∧ck≤c0∧O' b=j ∧
    (don ++ s.2.2.2).Perm es∧s.2.2.2=(leftOf es.toArray seen).toList∧don.map (·.key)=s.1.map (fun a=>(MKey.enc a:Value))∧Rw q w' O' ty (.slice s.2.1 s.1.length s.2.2.1) s.1
section
variable {n : Nat} {Q : Post} {w : World} {O : Lab} {l : Env} {i q j : Nat}
theorem OP {P:Program} {t k e d ty:TypeId} {pos:String} {aft:Array Edge} {ops:Array Oper} {rest:List Oper} [ht:TMap P t k e] {x:Operand} {r:Nat} {es:Array MapEntry} {ck:Nat} (hx:opv l x=some (.map (some r))) (hb:w.heap[r]?=some (.map es ck)) (hd:Nat.blt d n=true)
    (h:∀ w',Ext w w'→w'.heap.size=w.heap.size + 1→w'.heap[w.heap.size]?=some (.mapIter (some r) ck #[] ck)→owp P n ops Q rest ((d,.pointer (some ⟨w.heap.size,0,none⟩)) :: l) w'):owp P n ops Q (⟨some d,.range t x,ty,pos,aft,none⟩ :: rest) l w :=
  GN (w':=w.alloc (.mapIter (some r) ck #[] ck)) (fun a e ha=>.inl ⟨.pointer (some ⟨w.heap.size,0,none⟩),e,by
    have hb':(dr w e).heap[r]?=some (.map es ck):=hb
    simp [execOp,ha.eval hx,run_range_map (dr w e) t k _ r es ck ht.eq hb',HR,Hf],ha.put hd _⟩)
    (h _ ((Below.refl _ _).alloc (Nat.le_refl _) _) (by simp) (by show (w.heap.push _)[_]?=_;simp))
theorem PZ {P:Program} {d ty:TypeId} {pos:String} {aft:Array Edge} {ops:Array Oper} {rest:List Oper} {x:Operand} {b bm since c0:Nat} {seen:Array Nat} {es:Array MapEntry} {clock:Nat} (hx:opv l x=some (.pointer (some ⟨b,0,none⟩))) (hi:w.heap[b]?=some (.mapIter (some bm) since seen c0)) (hb:w.heap[bm]?=some (.map es clock)) (hold:∀ x∈es.toList,x.born < since) (hsc:since≤c0) (hd:Nat.blt d n=true)
    (h0:(leftOf es seen).size=0→owp P n ops Q rest ((d,.tuple #[.bool false]) :: l) w)
    (h1:∀ e∈(leftOf es seen).toList,owp P n ops Q rest ((d,.tuple #[.bool true,e.key,e.val]) :: l) { w with heap:=w.heap.setIfInBounds b (.mapIter (some bm) since (seen.push e.born) clock) }):owp P n ops Q (⟨some d,.next x false,ty,pos,aft,none⟩ :: rest) l w :=
  HT fun a z ha K hK=>by
    unfold Oper.wp
    have hi':(dr w z).heap[b]?=some (.mapIter (some bm) since seen c0):=hi
    have hb':(dr w z).heap[bm]?=some (.map es clock):=hb
    have hex:(execOp a.eval ⟨some d,.next x false,ty,pos,aft,none⟩).run P (dr w z)=(do let v ← Instr.next (.pointer (some ⟨b,0,none⟩)) false ty;pure (Next.value v):Sem Next).run P (dr w z):=by
      simp [execOp,ha.eval hx]
    rw [hex]
    rcases Pq (P:=P) ty hi' hb' hold hsc with ⟨hz,hr⟩|⟨e,he,d',hr⟩
    · simp only [Sem.run_bind,hr,Result.andThen]
      exact hK _ _ (h0 hz _ _ (ha.put hd _))
    · simp only [Sem.run_bind,hr,Result.andThen]
      exact hK _ _ (h1 e he _ _ (ha.put hd _))
theorem Pr {P:Program} {dst:Option Tmp} {ty:TypeId} {pos:String} {aft:Array Edge} {x:Operand} {b bm since:Nat} {seen:Array Nat} {es:Array MapEntry} {clock:Nat} {e:MapEntry} (hx:opv l x=some (.pointer (some ⟨b,0,none⟩))) (hi:w.heap[b]?=some (.mapIter (some bm) since (seen.push e.born) clock)) (hb:w.heap[bm]?=some (.map es clock)) (he:e∈es.toList) (hn:(es.toList.map (·.born)).Nodup) :
    Ev P ⟨dst,.entry x,ty,pos,aft,none⟩ l w (.tuple #[e.key,e.val]):=fun n a z ha=>by
  have hi':(dr w z).heap[b]?=some (.mapIter (some bm) since (seen.push e.born) clock):=hi
  have hb':(dr w z).heap[bm]?=some (.map es clock):=hb
  simp [execOp,ha.eval hx,OO hi' hb' he hn,Result.andThen]
theorem Ps {P:Program} {e0 ts te t k e:TypeId} {V:Type} [Rp V] [ht:TMap P t k e] [TSlice P ts te] {z:Value} {bytes:Nat} [TInfo P te z 1 bytes] {r:Nat} {x:MapR e0 Int V}
    {i9 i10 i11 i12:Nat} {y1 y2 y3 y4 y5 y6 y7 y8 y9 y10 y11 y12:TypeId} {p1 p2 p3 p4 p5 p6 p7 p8 p9 p10 p11 p12:String} {a1 a2 a3 a4 a5 a6 a7 a8 a9 a10 a11 a12:Array Edge}
    (hM:Ob i w O (.map (some r)) x) (hin:(∀ a∈mkeys x,inI64 a)∧(mkeys x).length≤1000000) (hq:q≠0) (hj:j≠0) (hjq:j≠q) (hji:j≠i) (hqi:q≠i) (h6:lk l 6=some (.map (some r))) (h9:lk l 9=some (.slice none 0 0)) (hby:bytes≤64:=by decide)
    (h:∀ (ks:List Int) (A:Option Addr) (c:Nat) (w':World) (O':Lab) (l':Env),ks.Perm (mkeys x)→St (fun k=>k=q∨k=j) w O w' O'→Rw q w' O' te (.slice A ks.length c) ks→subs l' [(6,.map (some r)),(9,.slice A ks.length c)]→Q .normal l' w') :
    ewp P 59 (.seq (.region i9 #[⟨some 45,.move (.tmp 6),y1,p1,a1,none⟩,⟨some 46,.range t (.tmp 45),y2,p2,a2,none⟩] false)
      (.block 2 (.loop (.seq (.region i10 #[⟨some 47,.next (.tmp 46) false,y3,p3,a3,none⟩,⟨some 48,.extract (.tmp 47) 0,y4,p4,a4,none⟩] false)
        (.seq (.cond (.tmp 48) .skip (.exit 2)) (.block 3 (.seq (.region i11 #[⟨some 49,.entry (.tmp 46),y5,p5,a5,none⟩,⟨some 50,.extract (.tmp 49) 0,y6,p6,a6,none⟩,⟨some 10,.assign (.tmp 50),y7,p7,a7,none⟩] false)
          (.region i12 #[⟨some 51,.move (.tmp 9),y8,p8,a8,none⟩,⟨some 52,.move (.tmp 10),y9,p9,a9,none⟩,⟨some 53,.buildSlice ts 1 #[(0,.tmp 52)],y10,p10,a10,none⟩,
            ⟨some 54,.call { callee:=.builtin .append,args:=#[.tmp 51,.tmp 53],argTypes:=#[ts,ts] },y11,p11,a11,none⟩,⟨some 9,.assign (.tmp 54),y12,p12,a12,none⟩] false)))))))) Q l w:=by
  obtain ⟨es,ck,hb,hk,hOr⟩:=MapR.all hM
  have hrw:r < w.heap.size:=(Array.getElem?_eq_some_iff.1 hb).1
  have hlen:es.length=(mkeys x).length:=by have:=congrArg List.length hk.keys;simpa [mkeys] using this
  refine Ab ?_
  refine Aa ?_
  refine Ak h6 ?_
  refine OP (x:=.tmp 45) rfl hb rfl fun w1 hE hs hi=>?_
  refine Bo ?_
  have hS1:=hE.st O fun _=>j
  generalize hbk:w.heap.size=b at *
  refine AK ?_
  refine Ni (X:=List Int×Option Addr×Nat×List MapEntry) (fun s=>[(9,.slice s.2.1 s.1.length s.2.2.1),(6,.map (some r)),(46,.pointer (some ⟨b,0,none⟩))]) (fun s w'=>KI j q te w O b r ck es s w') (fun s=>s.2.2.2.length) ([],none,0,es) ⟨h9,h6,rfl,trivial⟩ ?_ ?_
  · refine ⟨⟨_,#[],ck,[],(St.refl _ w O).comp hS1 (fun _ h=>h.elim),by omega,by omega,hi,Nat.le_refl _,FG (by omega),by simp,?_,rfl,Rw.nil q hq⟩⟩
    simp [leftOf]
    exact (List.filter_eq_self.2 (fun _ _=>rfl)).symm
  rintro ⟨ks,A,c,left⟩ w' ⟨O',seen,c0,don,hS,hb0,hb1,hit,hcc,hOb,hperm,hleft,hkeys,hR⟩
  change left=_ at hleft
  change (don ++ left).Perm es at hperm
  change don.map (·.key)=ks.map _ at hkeys
  have hbm:w'.heap[r]?=some (.map es.toArray ck):=(hS.same r (by omega) (by rw [hOr];rintro (h|h);exact hqi h.symm;exact hji h.symm)).1.trans hb
  have hks:ks.length=don.length:=by have:=congrArg List.length hkeys;simpa using this.symm
  have hpl:don.length + left.length=es.length:=by have:=hperm.length_eq;simpa using this
  refine Ab ?_
  refine Aa ?_
  refine PZ (x:=.tmp 46) rfl hit hbm (by simpa using hk.old) hcc rfl (fun h0=>?_) fun e1 he1=>?_
  · refine DU rfl rfl ?_
    refine Bo ?_
    refine Ab ?_
    refine Ae rfl ?_
    refine HX ?_
    have hl0:left=[]:=List.eq_nil_of_length_eq_zero (by rw [hleft];simpa using h0)
    subst hl0
    refine h ks A c w' O' _ ?_ hS hR ⟨rfl,rfl,trivial⟩
    have h1:(don.map (·.key)).Perm (es.map (·.key)):=by have:=hperm.map (·.key);simpa using this
    rw [hkeys,hk.keys] at h1
    have h2:=h1.map decI
    rw [Nw] at h2
    have h3:(x.l.map fun p=>(MKey.enc p.1:Value))=(mkeys x).map fun a=>(MKey.enc a:Value):=by simp [mkeys]
    rw [h3,Nw] at h2
    exact h2
  · have he2:e1∈left:=by rw [hleft];exact he1
    have hee:e1∈es:=hperm.mem_iff.1 (List.mem_append_right _ he2)
    have hlp:0 < left.length:=List.length_pos_of_mem he2
    refine DU rfl rfl ?_
    refine Bo ?_
    refine Ab ?_
    refine Ah rfl ?_
    refine AO ?_
    refine AK ?_
    refine Ab ?_
    refine Aa ?_
    have hit2:({ w' with heap:=w'.heap.setIfInBounds b (.mapIter (some r) ck (seen.push e1.born) ck) }:World).heap[b]?=some (.mapIter (some r) ck (seen.push e1.born) ck):=by
      simp [hb1]
    have hbr:b≠r:=fun e=>by omega
    have hbm2:({ w' with heap:=w'.heap.setIfInBounds b (.mapIter (some r) ck (seen.push e1.born) ck) }:World).heap[r]?=some (.map es.toArray ck):=by
      rw [← hbm];simp [hbr]
    obtain ⟨a,ha⟩:∃ a,a∈mkeys x∧e1.key=.int .i64 a:=by
      have:e1.key∈es.map (·.key):=List.mem_map.2 ⟨e1,hee,rfl⟩
      rw [hk.keys] at this
      obtain ⟨p,hp,hpe⟩:=List.mem_map.1 this
      exact ⟨p.1,List.mem_map.2 ⟨p,hp,rfl⟩,hpe.symm⟩
    have hS2:St (eT j) w' O' ({ w' with heap:=w'.heap.setIfInBounds b (.mapIter (some r) ck (seen.push e1.born) ck) }:World) O':=⟨rfl,rfl,rfl,by simp,fun k hk hT=>⟨by
      have:b≠k:=fun e=>hT (by rw [← e];exact hOb)
      simp [this],rfl⟩⟩
    refine Bw (Pr (x:=.tmp 46) rfl hit2 hbm2 (by simpa using hee) (by simpa using hk.nodup)) rfl ?_
    refine DU rfl rfl ?_
    refine Am rfl ?_
    refine Bo ?_
    refine Aa ?_
    refine Ak rfl ?_
    refine Ak rfl ?_
    have hR2:Rw q _ O' te (.slice A ks.length c) ks:=hR.st hS2 (fun e=>hj e.symm) (fun e=>hjq e.symm)
    rw [ha.2]
    refine BC (α:=Int) (i:=q) (bytes:=bytes) rfl (a:=a) (xs:=ks) hR2 (vInt (hin.1 a ha.1)) (fun _=>rfl) rfl ?_ (by show ks.length + 1≤_;omega) ⟨rfl,rfl⟩ fun g A2 c2 w3 O3 hS3 hR3=>?_
    · have:(ks.length + 1)≤1000000:=by omega
      show (ks.length + 1) * bytes≤_
      have h2:(ks.length + 1) * bytes≤1000000 * 64:=Nat.mul_le_mul this hby
      omega
    refine Am rfl ?_
    refine Bo ?_
    have hbs:=LE e1 left (by
      have:=(hperm.map (·.born)).nodup_iff.2 hk.nodup
      rw [List.map_append] at this
      exact (List.nodup_append.1 this).2.1) he2
    refine ⟨(ks ++ [a],A2,c2,left.filter fun y=>!(y.born == e1.born)),⟨rfl,rfl,rfl,trivial⟩,⟨⟨O3,seen.push e1.born,ck,don ++ [e1],?_,hb0,?_,?_,Nat.le_refl _,?_,?_,?_,?_,hR3⟩⟩,?_⟩
    · exact (hS.comp hS2 fun _ h=>.inr h).comp hS3 fun _ h=>.inl h
    · exact Nat.lt_of_lt_of_le (by simpa using hb1) hS3.size
    · exact (hS3.same b (by simpa using hb1) (by rw [hOb];exact hjq)).1.trans hit2
    · exact (hS3.same b (by simpa using hb1) (by rw [hOb];exact hjq)).2.trans hOb
    · rw [List.append_assoc];exact (hbs.symm.append_left don).trans hperm
    · rw [NY,hleft]
    · simp [hkeys,ha.2];rfl
    · have:=hbs.length_eq;show (left.filter _).length < left.length;rw [this,List.length_cons];exact Nat.lt_succ_self _
end
def keysI {e:TypeId} {V:Type} (x:MapR e Int V):Option (List Int):=if (∀ a∈mkeys x,inI64 a)∧(mkeys x).length≤1000000 then some (mkeys x) else none
theorem OQ {e:TypeId} {V:Type} {x:MapR e Int V} {ks:List Int} (h:keysI x=some ks):((∀ a∈mkeys x,inI64 a)∧(mkeys x).length≤1000000)∧mkeys x=ks:=by
  obtain ⟨h1,h2⟩:=CL h
  exact ⟨h1,h2⟩
theorem Pt {ks l:List Int} (h:ks.Perm l):Cy l=Cy ks:=by
  unfold Cy
  rw [h.length_eq,IF (Ic l) (Ic ks) ((Jh l).trans (h.symm.trans (Jh ks).symm))]
def MapZ {K V:Type} [MKey K] [Rp V] (w:World) (O:Lab) (r:Nat) (e:TypeId) (x:MapR e K V):Prop :=
  ∃ (es:List MapEntry) (ck:Nat),w.heap[r]?=some (.map es.toArray ck)∧Fr 0 w O r∧KeyB es ck x.l∧∀ (j:Nat) (en:MapEntry) (p:K×List V),es[j]?=some en→x.l[j]?=some p→Vb w (Fr 0 w O) en.val p.2
section
variable {e : TypeId} {K V : Type} [MKey K] [Rp V] {i : Nat} {T : Nat → Prop} {w w' : World} {O O' : Lab} {r : Nat} {x : MapR e K V}
theorem MapR.freeze (h:Ob i w O (.map (some r)) x):∃ O',St (eT i) w O w O'∧MapZ w O' r e x:=by
  obtain ⟨⟨r',L,es,ck,hv,hb,hM,hL,hk,hra⟩,hi⟩:=h
  injection hv with hv
  injection hv with hv
  subst hv
  refine ⟨fun k=>if O k=i then 0 else O k,⟨rfl,rfl,rfl,Nat.le_refl _,fun k _ hk=>⟨rfl,if_neg fun h=>hk h⟩⟩,es,ck,hb,⟨hM.1,if_pos hM.2⟩,hk,fun j en p h1 h2=>?_⟩
  have h3:=hra j en p h1 h2 (by simp)
  have h4:Rw i w O e en.val p.2:=h3.rw (fun _ h=>h) (fun _ h=>h.1) hi
  refine (h4.lend [i] (by simp)).mono fun k hk=>⟨hk.1,?_⟩
  show (if _ then _ else _)=_
  by_cases hki:O k=i
  · rw [if_pos hki]
  · rw [if_neg hki]
    rcases hk.2 with h|h
    · exact h
    · exact absurd (by simpa using h) hki
theorem MapZ.st (h:MapZ w O r e x) (hS:St T w O w' O') (h0:¬ T 0:=by decide) (_:¬ T 0:=by decide):MapZ w' O' r e x:=by
  obtain ⟨es,ck,hb,hM,hk,hv⟩:=h
  exact ⟨es,ck,(hS.agree h0 r hM).trans hb,hS.fr h0 r hM,hk,fun j en p h1 h2=>(hv j en p h1 h2).st hS h0⟩
theorem MapZ.get (h:MapZ w O r e x) (a:K):∃ A c,LkV (MKey.desc K) (.slice none 0 0) w r (MKey.enc a) (.slice A (mget ([]:List V) x.l a).length c) (mhas x.l a)∧Vb w (Fr 0 w O) (.slice A (mget ([]:List V) x.l a).length c) (mget ([]:List V) x.l a):=by
  obtain ⟨es,ck,hb,hM,hk,hra⟩:=h
  rcases EK a es x.l 0 hk.keys with ⟨g0,g1,g2,g3,g4⟩|⟨q,e',p,g0,g1,g2,g3,g4,g5,g6,g7⟩
  · rw [g3,g2]
    exact ⟨none,0,⟨_,ck,none,hb,by simpa using g1,rfl,rfl⟩,Vb.nil _ _⟩
  · rw [g6,g5]
    have h1:=hra q e' p g1 g2
    obtain ⟨A,c,hA⟩:=h1.form
    refine ⟨A,c,⟨_,ck,some (0 + q,e'.val),hb,by simpa using g3,hA.symm,rfl⟩,?_⟩
    rw [← hA]
    exact h1
end
end
section
open Go Go.RowKit
theorem Pu (a b:ByteArray):(a.toList == b.toList)=decide (a=b):=by
  rw [ByteArray.toList_eq,ByteArray.toList_eq]
  by_cases h:a=b
  · subst h;simp
  · rw [decide_eq_false h]
    have:a.data.toList≠b.data.toList:=fun e=>h (by cases a;cases b;simp only [ByteArray.mk.injEq];exact Array.toList_inj.1 e)
    simpa using this
section
variable {P : Program} {l : Env} {w : World} {dst : Option Tmp} {ty : TypeId} {pos : String} {aft : Array Edge}
theorem RZ {t u:TypeId} [h:TStr P t] {x y:Operand} {a b:ByteArray} (hx:opv l x=some (.string a)) (hy:opv l y=some (.string b)):Ev P ⟨dst,.binOp .neq t x y u,ty,pos,aft,none⟩ l w (.bool (decide (a≠b))):=fun _ _ e ha=>by
  simp [execOp,ha.eval hx,ha.eval hy,eqGuard,binOp,Op.stringOp,Pu]
end
section
variable {P : Program} {n : Nat} {ops : Array Oper} {Q : Post} {rest : List Oper} {l : Env} {w : World} {d : Tmp} {ty : TypeId} {pos : String} {aft : Array Edge}
theorem Sa {t u:TypeId} [TStr P t] {x y:Operand} {a b:ByteArray} (hx:opv l x=some (.string a)) (hy:opv l y=some (.string b)) (hd:Nat.blt d n=true) (ht:a≠b→owp P n ops Q rest ((d,.bool true) :: l) w) (hf:¬ (a≠b)→owp P n ops Q rest ((d,.bool false) :: l) w):owp P n ops Q (⟨some d,.binOp .neq t x y u,ty,pos,aft,none⟩ :: rest) l w:=EG (RZ hx hy) hd ht hf
variable {S : World → Prop} {r : List (Nat × Bool)} {i : Nat}
end
end
section
open Go Go.RowKit
def errV (n:Int):Value:=if n=0 then .nilIface else .iface 44 (.int .i64 n)
theorem JS:errV 0=.nilIface:=by unfold errV;rfl
theorem Ji {n:Int} (h:n≠0):errV n=.iface 44 (.int .i64 n):=by unfold errV;rw [if_neg h]
theorem Qa (n:Int):(errV n).oneCell'=true:=by unfold errV;split<;>rfl
structure Err where
  n:Int
instance:Rp Err where
  isAgg:=false
  size:=1
  R _ _ cs x:=cs=[errV x.n]∧inI64 x.n
  len:=by rintro w F cs x ⟨rfl,_⟩;rfl
  one:=by
    rintro w F cs x ⟨rfl,_⟩ u hu
    have:u=errV x.n:=by simpa using hu
    subst this;exact Qa _
  agree:=fun h _=>h
  mono:=fun h _=>h
theorem Vb.err {w:World} {F:Nat→Prop} {v:Value} {x:Err} (h:Vb w F v x):v=errV x.n∧inI64 x.n:=by
  obtain ⟨h1,h2⟩:=h
  exact ⟨by simpa using h1,h2⟩
theorem vErr {w:World} {F:Nat→Prop} {n:Int}  (h:inI64 n:=by decide):Vb w F (errV n) (⟨n⟩:Err):=⟨rfl,h⟩
end
section
open Go Go.RowKit
section
variable {P : Program} {l : Env} {w : World} {dst : Option Tmp} {ty : TypeId} {pos : String} {aft : Array Edge}
theorem LF {t u:TypeId} {x y:Operand} {a b c:Int} (hx:opv l x=some (.int .i64 a)) (hy:opv l y=some (.int .i64 b)) (he:chkI (a + b)=some c):Ev P ⟨dst,.binOp .add t x y u,ty,pos,aft,none⟩ l w (.int .i64 c):=by
  obtain ⟨rfl,h⟩:=Iy he
  exact Nl hx hy h
theorem LG {t u:TypeId} {x y:Operand} {a b c:Int} (hx:opv l x=some (.int .i64 a)) (hy:opv l y=some (.int .i64 b)) (he:chkI (a - b)=some c):Ev P ⟨dst,.binOp .sub t x y u,ty,pos,aft,none⟩ l w (.int .i64 c):=by
  obtain ⟨rfl,h⟩:=Iy he
  exact Pd hx hy h
theorem LH {t u:TypeId} {x y:Operand} {a b c:Int} (hx:opv l x=some (.int .i64 a)) (hy:opv l y=some (.int .i64 b)) (he:chkI (a * b)=some c):Ev P ⟨dst,.binOp .mul t x y u,ty,pos,aft,none⟩ l w (.int .i64 c):=by
  obtain ⟨rfl,h⟩:=Iy he
  exact Rx hx hy h
theorem Pv {t u:TypeId} {x y:Operand} {a b:Int} (hx:opv l x=some (.int .i64 a)) (hy:opv l y=some (.int .i64 b)):Ev P ⟨dst,.binOp .add t x y u,ty,pos,aft,none⟩ l w (.int .i64 (wr (a + b))):=fun _ _ d ha=>by
  simp [execOp,ha.eval hx,ha.eval hy,eqGuard,binOp,Op.intArith,wr]
theorem LI {t e:TypeId} [TSlice P t e] {z:Value} {size bytes:Nat} [TInfo P e z size bytes] {x i:Operand} {k:IntKind} {A:Option Addr} {b o m c j:Nat} {q:Int} (hx:opv l x=some (.slice A m c)) (hq:opv l i=some (.int k q)) (hA:A=some ⟨b,o,none⟩) (hj:q=(j:Int)) (hlt:j < m) :
    Ev P ⟨dst,.indexAddr t x i,ty,pos,aft,none⟩ l w (.pointer (some ⟨b,o + j * size,none⟩)):=by
  subst hA
  exact GR hx hq hj hlt
theorem RG {t:TypeId} [TStr P t] {x i:Operand} {k:IntKind} {s:ByteArray} {q c:Int} (hx:opv l x=some (.string s)) (hq:opv l i=some (.int k q)) (he:bytI s q=some c):Ev P ⟨dst,.index t x i,ty,pos,aft,none⟩ l w (.int .u8 c):=by
  obtain ⟨j,rfl,hlt,rfl⟩:=My he
  exact Nn hx hq hlt
theorem RH {x:Operand} {n:Int} [TInt P 44 .i64] (hx:opv l x=some (.int .i64 n)) (hn:n≠0):Ev P ⟨dst,.makeInterface 44 x,ty,pos,aft,none⟩ l w (errV n):=by
  rw [Ji hn]
  exact Lw hx
theorem Sb {t u:TypeId} [h:TBool P t] {x y:Operand} {a b:Bool} (hx:opv l x=some (.bool a)) (hy:opv l y=some (.bool b)):Ev P ⟨dst,.binOp .neq t x y u,ty,pos,aft,none⟩ l w (.bool (!(a == b))):=fun _ _ e ha=>by
  have hd:∀ n:Nat,(Op.equalIn (n + 1) t (.bool a) (.bool b)).run P (dr w e)=.ok (a == b) (dr w e):=fun n=>by simp [Op.equalIn,run_underlying h.eq]
  have h2:(Op.equal t (.bool a) (.bool b)).run P (dr w e)=.ok (a == b) (dr w e):=hd 9999
  simp [execOp,ha.eval hx,ha.eval hy,eqGuard,binOp,h2]
theorem Mi (a b c d:Int) (w:World):(Op.equal 78 (.agg #[.int .i64 a,.int .i64 b]) (.agg #[.int .i64 c,.int .i64 d])).run prog w=.ok (decide (a=c∧b=d)) w:=by
  have h1:∀ (n:Nat) (x y:Int) (w:World),(Op.equalIn (n + 1) 3 (.int .i64 x) (.int .i64 y)).run prog w=.ok (x == y) w:=fun n x y w=>by simp [Op.equalIn,run_underlying underlying3]
  have hs:prog.stoodInHeld 78=false:=by kernel_rfl
  have hd:∀ n:Nat,(Op.equalIn (n + 2) 78 (.agg #[.int .i64 a,.int .i64 b]) (.agg #[.int .i64 c,.int .i64 d])).run prog w=.ok (decide (a=c∧b=d)) w:=fun n=>by
    rw [Op.equalIn]
    simp [run_underlying underlying78,hs,Go.part,Ia (P:=prog) (t:=3),h1]
    by_cases hx:a=c<;>by_cases hy:b=d<;>simp [hx,hy]
  exact hd 9998
theorem Sc {u:TypeId} {x y:Operand} {a b c d:Int} (hx:opv l x=some (.agg #[.int .i64 a,.int .i64 b])) (hy:opv l y=some (.agg #[.int .i64 c,.int .i64 d])):Ev prog ⟨dst,.binOp .neq 78 x y u,ty,pos,aft,none⟩ l w (.bool (decide (¬ (a=c∧b=d)))):=fun _ _ e ha=>by
  simp [execOp,ha.eval hx,ha.eval hy,eqGuard,binOp,Mi]
theorem QS {t u:TypeId} [TIface P t] {x:Operand} {n:Int} (hx:opv l x=some (errV n)):Ev P ⟨dst,.binOp .eql t x (.const .nilIface) u,ty,pos,aft,none⟩ l w (.bool (decide (n=0))):=by
  by_cases h:n=0
  · subst h
    rw [JS] at hx
    exact Mw hx
  · rw [Ji h] at hx
    simpa [h] using Lx (P:=P) (w:=w) (dst:=dst) (ty:=ty) (pos:=pos) (aft:=aft) (t:=t) (u:=u) hx
theorem QT {t u:TypeId} [TIface P t] {x:Operand} {n:Int} (hx:opv l x=some (errV n)):Ev P ⟨dst,.binOp .neq t x (.const .nilIface) u,ty,pos,aft,none⟩ l w (.bool (decide (n≠0))):=by
  by_cases h:n=0
  · subst h
    rw [JS] at hx
    exact OG hx
  · rw [Ji h] at hx
    simpa [h] using NV (P:=P) (w:=w) (dst:=dst) (ty:=ty) (pos:=pos) (aft:=aft) (t:=t) (u:=u) hx
end
section
variable {P : Program} {n : Nat} {ops : Array Oper} {Q : Post} {rest : List Oper} {l : Env} {w : World} {d : Tmp} {ty : TypeId} {pos : String} {aft : Array Edge}
theorem Dn {t u:TypeId} {x y:Operand} {a b c:Int} (hx:opv l x=some (.int .i64 a)) (hy:opv l y=some (.int .i64 b))  (h:owp P n ops Q rest ((d,.int .i64 c) :: l) w) (he:chkI (a + b)=some c:=by assumption) (hd:Nat.blt d n=true:=by exact rfl):owp P n ops Q (⟨some d,.binOp .add t x y u,ty,pos,aft,none⟩ :: rest) l w:=Bw (LF hx hy he) hd h
theorem Kq {t u:TypeId} {x y:Operand} {a b c:Int} (hx:opv l x=some (.int .i64 a)) (hy:opv l y=some (.int .i64 b)) (hd:Nat.blt d n=true) (h:owp P n ops Q rest ((d,.int .i64 c) :: l) w) (he:chkI (a - b)=some c:=by assumption):owp P n ops Q (⟨some d,.binOp .sub t x y u,ty,pos,aft,none⟩ :: rest) l w:=Bw (LG hx hy he) hd h
theorem Iz {t u:TypeId} {x y:Operand} {a b c:Int} (hx:opv l x=some (.int .i64 a)) (hy:opv l y=some (.int .i64 b))  (h:owp P n ops Q rest ((d,.int .i64 c) :: l) w) (he:chkI (a * b)=some c:=by assumption) (hd:Nat.blt d n=true:=by exact rfl):owp P n ops Q (⟨some d,.binOp .mul t x y u,ty,pos,aft,none⟩ :: rest) l w:=Bw (LH hx hy he) hd h
theorem Nf {t u:TypeId} {x y:Operand} {a b:Int} (hx:opv l x=some (.int .i64 a)) (hy:opv l y=some (.int .i64 b)) (hd:Nat.blt d n=true) (h:owp P n ops Q rest ((d,.int .i64 (wr (a + b))) :: l) w)  : owp P n ops Q (⟨some d,.binOp .add t x y u,ty,pos,aft,none⟩ :: rest) l w:=Bw (Pv hx hy) hd h
theorem Bi {t e:TypeId} [TSlice P t e] {z:Value} {size bytes:Nat} [TInfo P e z size bytes] {x i:Operand} {k:IntKind} {A:Option Addr} {b o m c j:Nat} {q:Int} (hx:opv l x=some (.slice A m c)) (hq:opv l i=some (.int k q))  (h:owp P n ops Q rest ((d,.pointer (some ⟨b,o + j * size,none⟩)) :: l) w) (hA:A=some ⟨b,o,none⟩:=by assumption) (hj:q=(j:Int):=by rfl) (hlt:j < m:=by assumption) (hd:Nat.blt d n=true:=by exact rfl):owp P n ops Q (⟨some d,.indexAddr t x i,ty,pos,aft,none⟩ :: rest) l w:=Bw (LI hx hq hA hj hlt) hd h
theorem Kr {t:TypeId} [TStr P t] {x i:Operand} {k:IntKind} {s:ByteArray} {q c:Int} (hx:opv l x=some (.string s)) (hq:opv l i=some (.int k q)) (hd:Nat.blt d n=true) (h:owp P n ops Q rest ((d,.int .u8 c) :: l) w) (he:bytI s q=some c:=by assumption):owp P n ops Q (⟨some d,.index t x i,ty,pos,aft,none⟩ :: rest) l w:=Bw (RG hx hq he) hd h
theorem OR {t u:TypeId} [TBool P t] {x y:Operand} {a b:Bool} (hx:opv l x=some (.bool a)) (hy:opv l y=some (.bool b)) (hd:Nat.blt d n=true) (h:owp P n ops Q rest ((d,.bool (!(a == b))) :: l) w)  : owp P n ops Q (⟨some d,.binOp .neq t x y u,ty,pos,aft,none⟩ :: rest) l w:=Bw (Sb hx hy) hd h
theorem Gd [TInt P 44 .i64] {x:Operand} {q:Int} (hx:opv l x=some (.int .i64 q))  (h:owp P n ops Q rest ((d,errV q) :: l) w) (hn:q≠0:=by decide) (hd:Nat.blt d n=true:=by exact rfl):owp P n ops Q (⟨some d,.makeInterface 44 x,ty,pos,aft,none⟩ :: rest) l w:=Bw (RH hx hn) hd h
theorem OS {t u:TypeId} [TIface P t] {x:Operand} {k:Int} (hx:opv l x=some (errV k)) (hd:Nat.blt d n=true) (ht:k=0→owp P n ops Q rest ((d,.bool true) :: l) w) (hf:¬ (k=0)→owp P n ops Q rest ((d,.bool false) :: l) w):owp P n ops Q (⟨some d,.binOp .eql t x (.const .nilIface) u,ty,pos,aft,none⟩ :: rest) l w:=EG (QS hx) hd ht hf
theorem Jj {t u:TypeId} [TIface P t] {x:Operand} {k:Int} (hx:opv l x=some (errV k))  (ht:k≠0→owp P n ops Q rest ((d,.bool true) :: l) w) (hf:¬ (k≠0)→owp P n ops Q rest ((d,.bool false) :: l) w) (hd:Nat.blt d n=true:=by exact rfl):owp P n ops Q (⟨some d,.binOp .neq t x (.const .nilIface) u,ty,pos,aft,none⟩ :: rest) l w:=EG (QT hx) hd ht hf
variable {S : World → Prop} {r : List (Nat × Bool)} {i : Nat}
theorem Sd {u:TypeId} {x y:Operand} {a b c e:Int} (hi:ops[i]?=some ⟨some d,.binOp .neq 78 x y u,ty,pos,aft,none⟩) (hx:opv l x=some (.agg #[.int .i64 a,.int .i64 b])) (hy:opv l y=some (.agg #[.int .i64 c,.int .i64 e])) (hd:Nat.blt d n=true) (ht:¬ (a=c∧b=e)→hwp prog n ops Q S r ((d,.bool true) :: l) w) (hf:¬ (¬ (a=c∧b=e))→hwp prog n ops Q S r ((d,.bool false) :: l) w):hwp prog n ops Q S ((i,true) :: r) l w:=AB hi (BB (fun _ _=>Sc hx hy) (hn:=hd) ht hf)
theorem Hp {t u:TypeId} {x y:Operand} {a b c:Int} (hi:ops[i]?=some ⟨some d,.binOp .add t x y u,ty,pos,aft,none⟩) (hx:opv l x=some (.int .i64 a)) (hy:opv l y=some (.int .i64 b))  (h:hwp P n ops Q S r ((d,.int .i64 c) :: l) w) (he:chkI (a + b)=some c:=by assumption) (hd:Nat.blt d n=true:=by exact rfl):hwp P n ops Q S ((i,true) :: r) l w:=AB hi (Ck (fun _ _=>LF hx hy he) hd h)
theorem OT {t u:TypeId} {x y:Operand} {a b c:Int} (hi:ops[i]?=some ⟨some d,.binOp .sub t x y u,ty,pos,aft,none⟩) (hx:opv l x=some (.int .i64 a)) (hy:opv l y=some (.int .i64 b)) (hd:Nat.blt d n=true) (h:hwp P n ops Q S r ((d,.int .i64 c) :: l) w) (he:chkI (a - b)=some c:=by assumption):hwp P n ops Q S ((i,true) :: r) l w:=AB hi (Ck (fun _ _=>LG hx hy he) hd h)
theorem QM {t u:TypeId} {x y:Operand} {a b c:Int} (hi:ops[i]?=some ⟨some d,.binOp .mul t x y u,ty,pos,aft,none⟩) (hx:opv l x=some (.int .i64 a)) (hy:opv l y=some (.int .i64 b)) (hd:Nat.blt d n=true) (h:hwp P n ops Q S r ((d,.int .i64 c) :: l) w) (he:chkI (a * b)=some c:=by assumption):hwp P n ops Q S ((i,true) :: r) l w:=AB hi (Ck (fun _ _=>LH hx hy he) hd h)
theorem CK {t e:TypeId} [TSlice P t e] {z:Value} {size bytes:Nat} [TInfo P e z size bytes] {x i':Operand} {k:IntKind} {A:Option Addr} {b o m c j:Nat} {q:Int} (hi:ops[i]?=some ⟨some d,.indexAddr t x i',ty,pos,aft,none⟩) (hx:opv l x=some (.slice A m c)) (hq:opv l i'=some (.int k q))  (h:hwp P n ops Q S r ((d,.pointer (some ⟨b,o + j * size,none⟩)) :: l) w) (hA:A=some ⟨b,o,none⟩:=by assumption) (hj:q=(j:Int):=by rfl) (hlt:j < m:=by assumption) (hd:Nat.blt d n=true:=by exact rfl):hwp P n ops Q S ((i,true) :: r) l w:=AB hi (Ck (fun _ _=>LI hx hq hA hj hlt) hd h)
theorem Ng {t e:TypeId} [TSlice P t e] {z:Value} {size bytes:Nat} [TInfo P e z size bytes] {x i':Operand} {k:IntKind} {A:Option Addr} {b o m c j:Nat} {q:Int} (hx:opv l x=some (.slice A m c)) (hq:opv l i'=some (.int k q)) (hd:Nat.blt d n=true) (h:hwp P n ops Q S r ((d,.pointer (some ⟨b,o + j * size,none⟩)) :: l) w) (hA:A=some ⟨b,o,none⟩:=by assumption) (hj:q=(j:Int):=by rfl) (hlt:j < m:=by assumption):hwq P n ops Q S ⟨some d,.indexAddr t x i',ty,pos,aft,none⟩ r l w:=Ck (fun _ _=>LI hx hq hA hj hlt) hd h
end
end
section
open Go Go.RowKit
def catI (a b:ByteArray):Option ByteArray:=if a.size + b.size≤9223372036854775807 then some (a ++ b) else none
theorem GP {a b r:ByteArray} (h:catI a b=some r):r.size≤9223372036854775807:=by
  obtain ⟨h1,rfl⟩:=CL h
  rw [ByteArray.size_append];exact h1
def cpyL {α:Type} (a b:List α):List α:=b.take a.length ++ a.drop b.length
theorem Lh {α:Type} (a b:List α):(cpyL a b).length=a.length:=by unfold cpyL;simp;omega
section
variable {P : Program} {l : Env} {w : World} {dst : Option Tmp} {ty : TypeId} {pos : String} {aft : Array Edge}
theorem Pw {t u:TypeId} {x y:Operand} {a b c:ByteArray} (he:catI a b=some c) (hx:opv l x=some (.string a)) (hy:opv l y=some (.string b)):Ev P ⟨dst,.binOp .add t x y u,ty,pos,aft,none⟩ l w (.string c):=fun _ _ e ha=>by
  obtain ⟨h1,rfl⟩:=CL he
  simp [execOp,ha.eval hx,ha.eval hy,eqGuard,binOp,Op.stringOp]
  omega
theorem Li (a b c d:Int) (w:World):(Op.equal 52 (.agg #[.int .i64 a,.int .i64 b]) (.agg #[.int .i64 c,.int .i64 d])).run prog w=.ok (decide (a=c∧b=d)) w:=by
  have h1:∀ (n:Nat) (x y:Int) (w:World),(Op.equalIn (n + 1) 3 (.int .i64 x) (.int .i64 y)).run prog w=.ok (x == y) w:=fun n x y w=>by simp [Op.equalIn,run_underlying underlying3]
  have hs:prog.stoodInHeld 52=false:=by kernel_rfl
  have hd:∀ n:Nat,(Op.equalIn (n + 2) 52 (.agg #[.int .i64 a,.int .i64 b]) (.agg #[.int .i64 c,.int .i64 d])).run prog w=.ok (decide (a=c∧b=d)) w:=fun n=>by
    rw [Op.equalIn]
    simp [run_underlying underlying52,hs,Go.part,Ia (P:=prog) (t:=3),h1]
    by_cases hx:a=c<;>by_cases hy:b=d<;>simp [hx,hy]
  exact hd 9998
theorem Se {u:TypeId} {x y:Operand} {a b c d:Int} (hx:opv l x=some (.agg #[.int .i64 a,.int .i64 b])) (hy:opv l y=some (.agg #[.int .i64 c,.int .i64 d])):Ev prog ⟨dst,.binOp .eql 52 x y u,ty,pos,aft,none⟩ l w (.bool (decide (a=c∧b=d))):=fun _ _ e ha=>by
  simp [execOp,ha.eval hx,ha.eval hy,eqGuard,binOp,Li]
end
section
variable {P : Program} {n : Nat} {ops : Array Oper} {Q : Post} {rest : List Oper} {l : Env} {w : World} {d : Tmp} {ty : TypeId} {pos : String} {aft : Array Edge}
theorem Sf {t u:TypeId} {x y:Operand} {a b c:ByteArray} (he:catI a b=some c) (hx:opv l x=some (.string a)) (hy:opv l y=some (.string b)) (hd:Nat.blt d n=true) (h:owp P n ops Q rest ((d,.string c) :: l) w):owp P n ops Q (⟨some d,.binOp .add t x y u,ty,pos,aft,none⟩ :: rest) l w:=Bw (Pw he hx hy) hd h
theorem Px {i:Nat} {O:Lab} {t1 t2 e:TypeId} [ht:TSlice P t1 e] {z:Value} {bytes:Nat} [hi:TInfo P e z 1 bytes] {x y:Operand} {A:Option Addr} {m c:Nat} {v:Value} {xs ys:List Int} (hR:Rw i w O e (.slice A m c) xs) (hv:Vb w (Fr 0 w O) v ys) (hx:opv l x=some (.slice A m c)) (hy:opv l y=some v) (hd:Nat.blt d n=true)
    (h:∀ w',St (eT i) w O w' O→Rw i w' O e (.slice A m c) (cpyL xs ys)→∀ u,owp P n ops Q rest ((d,u) :: l) w'):owp P n ops Q (⟨some d,.call { callee:=.builtin .copy,args:=#[x,y],argTypes:=#[t1,t2] },ty,pos,aft,none⟩ :: rest) l w:=by
  obtain rfl:=hR.len.1
  obtain ⟨A',c',cells,rfl,h1,h2,h3,h4⟩:=hv.rd
  obtain ⟨rfl,hin⟩:=Gy h3
  have hsz:((P.info? e).map (·.size))=some 1:=by obtain ⟨inf,e1,_,e3,_⟩:=hi.eq;rw [e1];simp [e3]
  by_cases h0:xs.length=0∨ys.length=0
  · have hc:cpyL xs ys=xs:=by
      unfold cpyL
      rcases h0 with h0|h0
      · rw [List.eq_nil_of_length_eq_zero h0];simp
      · rw [List.eq_nil_of_length_eq_zero h0];simp
    refine GN (w':=w) (fun a z ha=>.inl ⟨goInt 0,z,?_,ha.put hd _⟩) (h w (St.refl _ _ _) (by rw [hc];exact hR) _)
    have hr:=run_copy_none (P:=P) (dr w z) t1 t2 ty e A A' xs.length c ys.length c' ht.eq hsz (by rcases h0 with h0|h0<;>simp [h0])
    simp [execOp,resolve,invoke,builtin,ha.eval hx,ha.eval hy,hr]
  · have hp1:0 < xs.length:=by omega
    have hp2:0 < ys.length:=by omega
    obtain ⟨b,o,rfl,hat⟩:=h4 hp2
    obtain ⟨g,cap,cells2,sp,hv2,hg,hF,hblk,hch,hl2,hn2,hm2,ht2⟩:=hR.1.open hp1
    injection hv2 with e1 e2 e3
    subst e1;subst e3
    obtain ⟨rfl,hin2⟩:=Gy hch
    have hcs:((ys.take xs.length).map (Value.int .i64)).length=Nat.min ys.length xs.length:=by simp [Nat.min_comm]
    have hbl:w.heap[g]?=some (.cells (xs.map (Value.int .i64) ++ sp).toArray e (0,0)):=hblk
    have hrun:∀ z,(Builtin.copy_ #[t1,t2] ty #[.slice (some ⟨g,0,none⟩) xs.length c,.slice (some ⟨b,o,none⟩) ys.length c']).run P (dr w z)=.ok (goInt ((ys.take xs.length).map (Value.int .i64)).length) (dr (w.setRow g ((xs.map (Value.int .i64) ++ sp).take 0 ++ (ys.take xs.length).map (Value.int .i64) ++ (xs.map (Value.int .i64) ++ sp).drop (0 + ((ys.take xs.length).map (Value.int .i64)).length)).toArray) z):=fun z=>by
      have hbl':(dr w z).heap[g]?=some (.cells (xs.map (Value.int .i64) ++ sp).toArray e (0,0)):=hbl
      have:=run_copy_row (P:=P) (dr w z) t1 t2 ty e g 0 xs.length c ⟨b,o,none⟩ ys.length c' _ e ((ys.take xs.length).map (Value.int .i64)) ht.eq hsz hbl' hcs (fun j v hj=>by
        rw [HY,Oe]
        refine Gr hat j v ?_
        rw [List.getElem?_map] at hj ⊢
        rw [List.getElem?_take] at hj
        split at hj
        · exact hj
        · simp at hj) (by simp;omega) (fun v hv=>by
        obtain ⟨a,_,rfl⟩:=List.mem_map.1 hv
        rfl)
      rw [this]
      rfl
    refine GN (w':=w.setRow g ((xs.map (Value.int .i64) ++ sp).take 0 ++ (ys.take xs.length).map (Value.int .i64) ++ (xs.map (Value.int .i64) ++ sp).drop (0 + ((ys.take xs.length).map (Value.int .i64)).length)).toArray) (fun a z ha=>.inl ⟨goInt ((ys.take xs.length).map (Value.int .i64)).length,z,?_,ha.put hd _⟩) ?_
    · simp [execOp,resolve,invoke,builtin,ha.eval hx,ha.eval hy,hrun z]
    · have hK:∀ cs,St (eT i) w O (w.setRow g cs) O:=fun cs=>⟨rfl,rfl,rfl,by simp,fun k hk hT=>⟨setRow_other w g k cs fun e=>hT (by rw [e];exact hR.2.1 g rfl),rfl⟩⟩
      have hcp:((xs.map (Value.int .i64) ++ sp).take 0 ++ (ys.take xs.length).map (Value.int .i64) ++ (xs.map (Value.int .i64) ++ sp).drop (0 + ((ys.take xs.length).map (Value.int .i64)).length))=(cpyL xs ys).map (Value.int .i64) ++ sp:=by
        have hle:((ys.take xs.length).map (Value.int .i64)).length≤xs.length:=by simp;omega
        rw [Nat.zero_add,List.drop_append_of_le_length (by simpa using hle)]
        unfold cpyL
        simp only [List.take_zero,List.nil_append,List.map_append,List.append_assoc,List.map_drop,List.length_map,List.length_take]
        congr 2
        by_cases hx2:xs.length≤ys.length
        · rw [Nat.min_eq_left hx2,List.drop_of_length_le (by simp),List.drop_of_length_le (by simpa using hx2)]
        · rw [Nat.min_eq_right (by omega)]
      refine h _ (hK _) ?_ _
      have hb2:Blk (w.setRow g ((xs.map (Value.int .i64) ++ sp).take 0 ++ (ys.take xs.length).map (Value.int .i64) ++ (xs.map (Value.int .i64) ++ sp).drop (0 + ((ys.take xs.length).map (Value.int .i64)).length)).toArray) g e ((cpyL xs ys).map (Value.int .i64) ++ sp):=by
        rw [hcp];exact setRow_heap w g _ _ e (0,0) hbl
      have hall:∀ a∈cpyL xs ys,inI64 a:=fun a ha=>by
        rcases List.mem_append.1 ha with h|h
        · exact hin a (List.mem_of_mem_take h)
        · exact hin2 a (List.mem_of_mem_drop h)
      have:=Own.close (base:=0) (cap:=c) (F:=Fr 0 (w.setRow g ((xs.map (Value.int .i64) ++ sp).take 0 ++ (ys.take xs.length).map (Value.int .i64) ++ (xs.map (Value.int .i64) ++ sp).drop (0 + ((ys.take xs.length).map (Value.int .i64)).length)).toArray) O) (Nat.zero_le g) (fun hq=>hR.2.2 ((hR.2.1 g rfl).symm.trans hq.2)) hb2 (HH hall) (by rw [Lh];exact hn2) hm2 (by
        have:=ht2
        simp only [List.length_append,List.length_map,Lh] at this ⊢
        exact this)
      rw [Lh] at this
      exact ⟨this,hR.2.1,hR.2.2⟩
variable {S : World → Prop} {r : List (Nat × Bool)} {i : Nat}
theorem Hq {t u:TypeId} {x y:Operand} {a b c:ByteArray} (he:catI a b=some c) (hi:ops[i]?=some ⟨some d,.binOp .add t x y u,ty,pos,aft,none⟩) (hx:opv l x=some (.string a)) (hy:opv l y=some (.string b))  (h:hwp P n ops Q S r ((d,.string c) :: l) w) (hd:Nat.blt d n=true:=by exact rfl):hwp P n ops Q S ((i,true) :: r) l w:=AB hi (Ck (fun _ _=>Pw he hx hy) hd h)
theorem Sg {u:TypeId} {x y:Operand} {a b c e:Int} (hi:ops[i]?=some ⟨some d,.binOp .eql 52 x y u,ty,pos,aft,none⟩) (hx:opv l x=some (.agg #[.int .i64 a,.int .i64 b])) (hy:opv l y=some (.agg #[.int .i64 c,.int .i64 e])) (hd:Nat.blt d n=true) (ht:a=c∧b=e→hwp prog n ops Q S r ((d,.bool true) :: l) w) (hf:¬ (a=c∧b=e)→hwp prog n ops Q S r ((d,.bool false) :: l) w):hwp prog n ops Q S ((i,true) :: r) l w:=AB hi (BB (fun _ _=>Se hx hy) (hn:=hd) ht hf)
theorem LJ {t e:TypeId} [h:TSlice P t e] {dst:Option Tmp} {x:Operand} {A:Option Addr} {m c:Nat} (hx:opv l x=some (.slice A m c)):Ev P ⟨dst,.call { callee:=.builtin .cap,args:=#[x],argTypes:=#[t] },ty,pos,aft,none⟩ l w (.int .i64 (c:Int)):=fun _ a d ha=>by
  simp [execOp,resolve,invoke,builtin,ha.eval hx,Builtin.cap_,run_underlying h.eq,goInt]
theorem MC {t e:TypeId} [h:TSlice P t e] {z:Value} {size bytes:Nat} [TInfo P e z size bytes] {dst:Option Tmp} {x y:Operand} {k:IntKind} {g m c:Nat} (hx:opv l x=some (.slice (some ⟨g,0,none⟩) m c)) (hy:opv l y=some (.int k ((0:Nat):Int))) :
    Ev P ⟨dst,.slice t x none (some y) none,ty,pos,aft,none⟩ l w (.slice (some ⟨g,0,none⟩) 0 c):=by
  have:=Je (P:=P) (w:=w) (dst:=dst) (ty:=ty) (pos:=pos) (aft:=aft) (t:=t) hx hy rfl (Nat.zero_le c)
  simpa [Addr.add] using this
theorem Nx {t tn e:TypeId} [ht:TSlice P t e] {kn:IntKind} [htn:TInt P tn kn] {z:Value} {size bytes:Nat} [hi:TInfo P e z size bytes] {x y:Operand} {m:Nat} (hx:opv l x=some (.slice none 0 0)) (hy:opv l y=some (.int .i64 (m:Int))) (hm0:0 < m)  (h48:m * bytes≤140737488355328) (h63:m≤4611686018427387904) (hd:Nat.blt d n=true)
    (h:∀ w' c,Ext w w'→w'.heap.size=w.heap.size + 1→m≤c→c≤9223372036854775807→(∃ sp:List Value,sp.length=c * size∧Blk w' w.heap.size e sp)→owp P n ops Q rest ((d,.slice (some ⟨w.heap.size,0,none⟩) m c) :: l) w') (hs:0 < size:=by decide):owp P n ops Q (⟨some d,.call { callee:=.builtin .append,args:=#[x,y],argTypes:=#[t,tn] },ty,pos,aft,none⟩ :: rest) l w :=
  HT fun a q ha K hK=>by
    obtain ⟨inf,i1,i2,i3,i4⟩:=hi.eq
    have hr:=Lib.run_append_nil_zeros (P:=P) (dr w q) t tn ty e inf z .i64 kn ht.eq htn.eq i1 i2 m hm0 (by omega) (by omega) (by rw [i4];omega)
    have hev:(execOp a.eval ⟨some d,.call { callee:=.builtin .append,args:=#[x,y],argTypes:=#[t,tn] },ty,pos,aft,none⟩).run P (dr w q)=.ok (.value (.slice (some ⟨(dr w q).heap.size,0,none⟩) m (grownCap (dr w q) m 0 e))) ((dr w q).drew.alloc (.cells (Builtin.zeroCells z.cells m ++ Builtin.zeroCells z.cells (grownCap (dr w q) m 0 e - m)) e)):=by
      simp [execOp,resolve,invoke,builtin,ha.eval hx,ha.eval hy,hr]
    unfold Oper.wp
    rw [hev]
    have hge:m≤grownCap (dr w q) m 0 e:=grownCap_ge _ _ _ _
    have hle:grownCap (dr w q) m 0 e≤maxLen:=grownCap_le_maxLen _ _ _ _ (by unfold maxLen;omega)
    have hsz:((dr w q).heap.size)=w.heap.size:=rfl
    rw [hsz]
    have hz:∀ k,(Builtin.zeroCells z.cells k).size=k * size:=fun k=>by simp [Builtin.zeroCells,hi.sz]
    have hlen:(Builtin.zeroCells z.cells m ++ Builtin.zeroCells z.cells (grownCap (dr w q) m 0 e - m)).toList.length=grownCap (dr w q) m 0 e * size:=by
      simp [hz]
      rw [← Nat.add_mul]
      congr 1
      omega
    generalize hG:grownCap (dr w q) m 0 e=G at *
    generalize Builtin.zeroCells z.cells m ++ Builtin.zeroCells z.cells (G - m)=cs at *
    refine hK _ ((dr w q).drew.alloc (.cells cs e)) (h (w.alloc (.cells cs e)) G ((Below.refl _ _).alloc (Nat.le_refl _) _) (by simp) hge (by simpa [maxLen] using hle) ⟨cs.toList,hlen,?_⟩ _ _ (ha.put hd _))
    show (w.heap.push _)[_]?=_
    simp
end
attribute [local irreducible] ewp owp hwp hwq Ev Evg Fn retPost Res1
attribute [local irreducible] hwx loudX
def Cr (k:Int):Option (List Fct):=if 0≤k∧k * 64≤140737488355328 then some [] else none
theorem GF {w:World} {A:Nat→Prop} (hA:∀ k,A k→k < w.heap.size) {x1:Int} (rx1:inI64 x1) {r:List Fct} (hm:Cr x1=some r) :
    Fn prog 136 [.slice none 0 0,.int .i64 x1] w fun v w'=>Ext w w'∧RowR w w' (upA A w w') 78 v r:=by
  obtain ⟨⟨hk0,hk⟩,rfl⟩:=CL hm
  obtain ⟨k,rfl⟩:∃ k:Nat,x1=(k:Int):=⟨x1.toNat,by omega⟩
  obtain ⟨O,hB,a0⟩:=enter hA
  refine AL func136 rfl ntmps136 ?_
  have hk2:chkI ((0:Nat) - (0:Nat):Int)=some 0:=rfl
  have hk3:chkI ((k:Int) - 0)=some (k:Int):=by rw [Int.sub_zero];exact if_pos rx1
  repeat (first|refine Au ?_|refine Ah rfl ?_|refine Ae rfl ?_)
  refine Am rfl (o_z ?_)
  repeat (first|refine Au ?_|refine Ah rfl ?_|refine Ae rfl ?_)
  refine Ak rfl (Dm rfl rfl (fun h=>absurd h (by omega)) fun _=>o_z ?_)
  repeat (first|refine Au ?_|refine Ah rfl ?_|refine Ae rfl ?_)
  refine Ak rfl (Ak rfl (Bw (LJ rfl) rfl (Ak rfl (AS rfl ?_))))
  refine Kq rfl rfl rfl ?_ hk2
  refine Kq rfl rfl rfl ?_ hk3
  refine Am rfl (o_z ?_)
  repeat (first|refine Au ?_|refine Ah rfl ?_|refine Ae rfl ?_)
  refine Ak rfl (BW rfl rfl (fun h=>?_) fun h=>?_)
  · refine o_z ?_
    repeat (first|refine Au ?_|refine Ah rfl ?_|refine Ae rfl ?_)
    refine Ak rfl (Ak rfl (Bw (LJ rfl) rfl ?_))
    refine Bw (Je (hi:=0) rfl rfl rfl (Nat.le_refl 0)) rfl ?_
    refine Ak rfl ?_
    refine Nx (m:=k) rfl rfl (by omega) (by omega) (by omega) rfl fun w1 c hE hs h1 h2 h3=>?_
    obtain ⟨sp,hsl,hb⟩:=h3
    refine Ak rfl (AS rfl ?_)
    refine Bw (MC rfl rfl) rfl ?_
    refine Am rfl (o_z ?_)
    repeat (first|refine Au ?_|refine Ah rfl ?_|refine Ae rfl ?_)
    refine Ak rfl (Am rfl (o_z ?_))
    repeat (first|refine Au ?_|refine Ah rfl ?_|refine Ae rfl ?_)
    refine ret1v rfl (AA rfl) ⟨hE,fun _=>False,fun _ h=>h.elim,?_⟩
    exact Own.close (xs:=([]:List Fct)) (cells:=[]) (sp:=sp) (Nat.le_refl _) (fun h=>h) hb rfl (Nat.zero_le c) h2 hsl
  · refine o_z ?_
    repeat (first|refine Au ?_|refine Ah rfl ?_|refine Ae rfl ?_)
    refine Ak rfl (Am rfl (o_z ?_))
    repeat (first|refine Au ?_|refine Ah rfl ?_|refine Ae rfl ?_)
    exact ret1v rfl (AA rfl) ⟨Below.refl _ _,RowR.nil⟩
def Ce (k:Int):Option (List Eff):=if 0≤k∧k * 64≤140737488355328 then some [] else none
theorem FV {w:World} {A:Nat→Prop} (hA:∀ k,A k→k < w.heap.size) {x1:Int} (rx1:inI64 x1) {r:List Eff} (hm:Ce x1=some r) :
    Fn prog 137 [.slice none 0 0,.int .i64 x1] w fun v w'=>Ext w w'∧RowR w w' (upA A w w') 85 v r:=by
  obtain ⟨⟨hk0,hk⟩,rfl⟩:=CL hm
  obtain ⟨k,rfl⟩:∃ k:Nat,x1=(k:Int):=⟨x1.toNat,by omega⟩
  obtain ⟨O,hB,a0⟩:=enter hA
  refine AL func137 rfl ntmps137 ?_
  have hk2:chkI ((0:Nat) - (0:Nat):Int)=some 0:=rfl
  have hk3:chkI ((k:Int) - 0)=some (k:Int):=by rw [Int.sub_zero];exact if_pos rx1
  repeat (first|refine Au ?_|refine Ah rfl ?_|refine Ae rfl ?_)
  refine Am rfl (o_z ?_)
  repeat (first|refine Au ?_|refine Ah rfl ?_|refine Ae rfl ?_)
  refine Ak rfl (Dm rfl rfl (fun h=>absurd h (by omega)) fun _=>o_z ?_)
  repeat (first|refine Au ?_|refine Ah rfl ?_|refine Ae rfl ?_)
  refine Ak rfl (Ak rfl (Bw (LJ rfl) rfl (Ak rfl (AS rfl ?_))))
  refine Kq rfl rfl rfl ?_ hk2
  refine Kq rfl rfl rfl ?_ hk3
  refine Am rfl (o_z ?_)
  repeat (first|refine Au ?_|refine Ah rfl ?_|refine Ae rfl ?_)
  refine Ak rfl (BW rfl rfl (fun h=>?_) fun h=>?_)
  · refine o_z ?_
    repeat (first|refine Au ?_|refine Ah rfl ?_|refine Ae rfl ?_)
    refine Ak rfl (Ak rfl (Bw (LJ rfl) rfl ?_))
    refine Bw (Je (hi:=0) rfl rfl rfl (Nat.le_refl 0)) rfl ?_
    refine Ak rfl ?_
    refine Nx (m:=k) rfl rfl (by omega) (by omega) (by omega) rfl fun w1 c hE hs h1 h2 h3=>?_
    obtain ⟨sp,hsl,hb⟩:=h3
    refine Ak rfl (AS rfl ?_)
    refine Bw (MC rfl rfl) rfl ?_
    refine Am rfl (o_z ?_)
    repeat (first|refine Au ?_|refine Ah rfl ?_|refine Ae rfl ?_)
    refine Ak rfl (Am rfl (o_z ?_))
    repeat (first|refine Au ?_|refine Ah rfl ?_|refine Ae rfl ?_)
    refine ret1v rfl (AA rfl) ⟨hE,fun _=>False,fun _ h=>h.elim,?_⟩
    exact Own.close (xs:=([]:List Eff)) (cells:=[]) (sp:=sp) (Nat.le_refl _) (fun h=>h) hb rfl (Nat.zero_le c) h2 hsl
  · refine o_z ?_
    repeat (first|refine Au ?_|refine Ah rfl ?_|refine Ae rfl ?_)
    refine Ak rfl (Am rfl (o_z ?_))
    repeat (first|refine Au ?_|refine Ah rfl ?_|refine Ae rfl ?_)
    exact ret1v rfl (AA rfl) ⟨Below.refl _ _,RowR.nil⟩
end
section
open Go Go.RowKit
attribute [local irreducible] ewp owp hwp hwq Ev Evg Fn retPost Res1
def hasB (s:List Int) (x:Fct):Bool:=decide (0≤x.var) && decide (s[x.var.toNat]?=some x.val)
def holdsB (f:List Fct) (s:List Int):Bool:=f.all (hasB s)
theorem MD {f:List Fct} {s:List Int} {k:Nat} {x:Fct} (hx:f[k]?=some x) (h:hasB s x=false):holdsB f s=false:=by
  unfold holdsB
  rw [List.all_eq_false]
  exact ⟨x,List.mem_of_getElem? hx,by simp [h]⟩
theorem NZ {f:List Fct} {s:List Int} {k:Nat} {x:Fct} (hx:f[k]?=some x) (h:hasB s x=true) (hh:holdsB (f.take k) s=true):holdsB (f.take (k + 1)) s=true:=by
  unfold holdsB at *
  rw [List.take_add_one,hx,List.all_append,hh]
  simp [h]
theorem QU {s:List Int} {x:Fct} {j:Nat} {y:Int} (hj:x.var=(j:Int)) (hy:s[j]?=some y):hasB s x=decide (y=x.val):=by
  unfold hasB
  rw [hj];simp [hy]
theorem BG {α:Type} {l:List α} {k:Nat} (h:k < l.length):∃ x,l[k]?=some x:=⟨l[k],List.getElem?_eq_getElem h⟩
theorem Cx {α:Type} {l:List α} {k:Nat} {x:α} (h:l[k]?=some x):k < l.length:=(List.getElem?_eq_some_iff.1 h).1
theorem taskHolds {w:World} {fv sv:Value} {f:List Fct} {s:List Int} (hf:V w fv f) (hs:V w sv s) :
    Fn prog 73 [fv,sv] w fun v w'=>v=.bool (bof (holdsB f s=true))∧Ext w w':=by
  obtain ⟨Af,cf,rfl⟩:=hf.form
  obtain ⟨As,cs,rfl⟩:=hs.form
  have hfl:=hf.len
  refine AL func73 rfl ntmps73 ?_
  ((repeat (first|refine Au ?_|refine Ah rfl ?_|refine Ae rfl ?_))<;>(refine Am rfl ?_<;>(refine o_z ?_))<;>(repeat (first|refine Au ?_|refine Ah rfl ?_|refine Ae rfl ?_))<;>(refine Ak rfl ?_<;>refine AS rfl ?_<;>refine Ak rfl ?_<;>(refine o_z ?_))<;>(repeat (first|refine Au ?_|refine Ah rfl ?_|refine Ae rfl ?_)))
  refine GO (fun k:Nat=>[(1,.slice As s.length cs),(7,.slice Af f.length cf),(8,.int .i64 (f.length:Int)),(9,.int .i64 (k:Int))])
    (fun k w'=>Ext w w'∧k≤f.length∧holdsB (f.take k) s=true) (fun k=>f.length - k) 0 ⟨Below.refl _ _,Nat.zero_le _,rfl⟩ ⟨rfl,rfl,rfl,rfl,trivial⟩ ?_
  rintro k w1 ⟨hE,hk,hh⟩
  by_cases hlt:k < f.length
  · obtain ⟨x,hx⟩:=BG hlt
    obtain ⟨b,o,ce,rfl,hb,_,hd1,rfl,hr1,hr2⟩:=(hf.ext hE).elem hx
    ((repeat (first|refine Au ?_|refine Ah rfl ?_|refine Ae rfl ?_))<;>((first|refine Ef rfl rfl ?_|refine Eg rfl rfl ?_)<;>(refine o_z ?_))<;>(repeat (first|refine Au ?_|refine Ah rfl ?_|refine Ae rfl ?_))<;>(refine GB rfl rfl ?_<;>refine Bd rfl ?_)<;>(repeat (first|refine Au ?_|refine Ah rfl ?_|refine Ae rfl ?_)))
    refine EH rfl rfl (by simp [Value.cells,Value.oneCell']) fun w3 hN=>?_
    have hb1:=hN.blk
    have hE3:Ext w w3:=hE.trans' hN.ext
    ((refine o_z ?_))
    repeat (first|refine Au ?_|refine Ah rfl ?_|refine Ae rfl ?_)
    refine FU (·=w3) [(0,true),(1,true),(2,true),(3,true),(4,true),(5,true),(6,true),(7,true),(8,true),(9,true),(10,true),(11,true),(12,true),(13,true),(14,true),(15,true),(16,true),(17,true),(18,true),(19,true)] rfl rfl ?_
    by_cases hv:0≤x.var∧x.var < s.length
    · obtain ⟨j,hj1⟩:=Int.eq_ofNat_of_zero_le hv.1
      obtain ⟨y,hy⟩:=BG (l:=s) (k:=j) (by omega)
      obtain ⟨b2,o2,ce2,rfl,_,_,hd2,rfl,_⟩:=(hs.ext hE3).elem hy
      have hq:=QU (s:=s) hj1 hy
      (refine AT rfl rfl ?_<;>refine FQ rfl rfl ?_<;>(first|refine Kl rfl rfl rfl rfl ?_|refine Km rfl rfl rfl rfl ?_|refine Kn rfl rfl rfl rfl (fun _=>?_) fun _=>?_)<;>refine AX rfl rfl ?_<;>(refine AB rfl ?_;(first|(refine Aw rfl rfl ?_;refine CH rfl ?_)|refine AE rfl rfl ?_))<;>(refine AB rfl ?_;(first|(refine Aw rfl rfl ?_;refine Ci rfl ?_)|refine AE rfl rfl ?_))<;>(refine AB rfl ?_;(first|(refine Aw rfl rfl ?_;refine CC rfl ?_)|refine AE rfl rfl ?_))<;>(refine AB rfl ?_;(first|(refine Aw rfl rfl ?_;refine Ld rfl ?_)|refine AE rfl rfl ?_))<;>(refine AB rfl ?_;(first|(refine Aw rfl rfl ?_;(first|refine Cv (fun _ _=>By rfl rfl) (by omega) ?_|refine Cw (fun _ _=>By rfl rfl) (by omega) ?_|refine BB (fun _ _=>By rfl rfl) (fun _=>?_) (fun _=>?_)))|refine AE rfl rfl ?_))<;>(first|refine DN rfl rfl rfl ?_|refine DE rfl rfl rfl ?_)<;>refine AX rfl rfl ?_<;>(refine AB rfl ?_;(first|(refine Aw rfl rfl ?_;refine CC rfl ?_)|refine AE rfl rfl ?_))<;>(refine AB rfl ?_;(first|(refine Aw rfl rfl ?_;refine CH rfl ?_)|refine AE rfl rfl ?_))<;>(refine AB rfl ?_;(first|(refine Aw rfl rfl ?_;refine Ci rfl ?_)|refine AE rfl rfl ?_))<;>(refine AB rfl ?_;(first|(refine Aw rfl rfl ?_;refine HG rfl rfl ?_)|refine AE rfl rfl ?_))<;>(refine AB rfl ?_;(first|(refine Aw rfl rfl ?_;refine Ci rfl ?_)|refine AE rfl rfl ?_))<;>(refine AB rfl ?_;(first|(refine Aw rfl rfl ?_;refine CH rfl ?_)|refine AE rfl rfl ?_))<;>(refine AB rfl ?_;(first|(refine Aw rfl rfl ?_;refine Ci rfl ?_)|refine AE rfl rfl ?_))<;>(refine AB rfl ?_;(first|(refine Aw rfl rfl ?_;(first|refine Cv (fun _ _=>FP rfl rfl) (by omega) ?_|refine Cw (fun _ _=>FP rfl rfl) (by omega) ?_|refine BB (fun _ _=>FP rfl rfl) (fun _=>?_) (fun _=>?_)))|refine AE rfl rfl ?_))<;>(first|refine DN rfl rfl rfl ?_|refine DE rfl rfl rfl ?_)<;>(refine h_z ?_))<;>(repeat (first|refine Au ?_|refine Ah rfl ?_|refine Ae rfl ?_))
      · ((repeat (first|refine Au ?_|refine Ah rfl ?_|refine Ae rfl ?_))<;>(refine Am rfl ?_<;>(refine o_z ?_))<;>(repeat (first|refine Au ?_|refine Ah rfl ?_|refine Ae rfl ?_)))
        refine ret1 rfl rfl ⟨?_,hE3⟩
        rw [MD hx (by rw [hq];simpa using ‹_›),Na]
      · ((first|refine JP rfl ?_|refine JO rfl rfl ?_)<;>refine Ak rfl ?_<;>(refine o_z ?_))
        exact ⟨k + 1,⟨rfl,rfl,rfl,rfl,trivial⟩,⟨hE3,by omega,NZ hx (by rw [hq];simp;omega) hh⟩,by omega⟩
    · have hq:hasB s x=false:=by
        unfold hasB
        by_cases h0:0≤x.var
        · have:s.length≤x.var.toNat:=by omega
          simp [List.getElem?_eq_none this]
        · simp [h0]
      (refine AT rfl rfl ?_<;>refine FQ rfl rfl ?_<;>(first|refine Kl rfl rfl rfl rfl ?_|refine Km rfl rfl rfl rfl ?_|refine Kn rfl rfl rfl rfl (fun _=>?_) fun _=>?_)<;>refine AX rfl rfl ?_<;>(refine AB rfl ?_;(first|(refine Aw rfl rfl ?_;refine CH rfl ?_)|refine AE rfl rfl ?_))<;>(refine AB rfl ?_;(first|(refine Aw rfl rfl ?_;refine Ci rfl ?_)|refine AE rfl rfl ?_))<;>(refine AB rfl ?_;(first|(refine Aw rfl rfl ?_;refine CC rfl ?_)|refine AE rfl rfl ?_))<;>(refine AB rfl ?_;(first|(refine Aw rfl rfl ?_;refine Ld rfl ?_)|refine AE rfl rfl ?_))<;>(refine AB rfl ?_;(first|(refine Aw rfl rfl ?_;(first|refine Cv (fun _ _=>By rfl rfl) (by omega) ?_|refine Cw (fun _ _=>By rfl rfl) (by omega) ?_|refine BB (fun _ _=>By rfl rfl) (fun _=>?_) (fun _=>?_)))|refine AE rfl rfl ?_))<;>(first|refine DN rfl rfl rfl ?_|refine DE rfl rfl rfl ?_)<;>refine AX rfl rfl ?_<;>(refine AB rfl ?_;(first|(refine Aw rfl rfl ?_;refine CC rfl ?_)|refine AE rfl rfl ?_))<;>(refine AB rfl ?_;(first|(refine Aw rfl rfl ?_;refine CH rfl ?_)|refine AE rfl rfl ?_))<;>(refine AB rfl ?_;(first|(refine Aw rfl rfl ?_;refine Ci rfl ?_)|refine AE rfl rfl ?_))<;>(refine AB rfl ?_;(first|(refine Aw rfl rfl ?_;refine HG rfl rfl ?_)|refine AE rfl rfl ?_))<;>(refine AB rfl ?_;(first|(refine Aw rfl rfl ?_;refine Ci rfl ?_)|refine AE rfl rfl ?_))<;>(refine AB rfl ?_;(first|(refine Aw rfl rfl ?_;refine CH rfl ?_)|refine AE rfl rfl ?_))<;>(refine AB rfl ?_;(first|(refine Aw rfl rfl ?_;refine Ci rfl ?_)|refine AE rfl rfl ?_))<;>(refine AB rfl ?_;(first|(refine Aw rfl rfl ?_;(first|refine Cv (fun _ _=>FP rfl rfl) (by omega) ?_|refine Cw (fun _ _=>FP rfl rfl) (by omega) ?_|refine BB (fun _ _=>FP rfl rfl) (fun _=>?_) (fun _=>?_)))|refine AE rfl rfl ?_))<;>(first|refine DN rfl rfl rfl ?_|refine DE rfl rfl rfl ?_)<;>(refine h_z ?_))<;>(repeat (first|refine Au ?_|refine Ah rfl ?_|refine Ae rfl ?_))
      all_goals
        ((repeat (first|refine Au ?_|refine Ah rfl ?_|refine Ae rfl ?_))<;>(refine Am rfl ?_<;>(refine o_z ?_))<;>(repeat (first|refine Au ?_|refine Ah rfl ?_|refine Ae rfl ?_)))
        refine ret1 rfl rfl ⟨?_,hE3⟩
        rw [MD hx hq,Na]
  · ((repeat (first|refine Au ?_|refine Ah rfl ?_|refine Ae rfl ?_))<;>((first|refine Ef rfl rfl ?_|refine Eg rfl rfl ?_)<;>(refine o_z ?_))<;>(repeat (first|refine Au ?_|refine Ah rfl ?_|refine Ae rfl ?_))<;>(refine Am rfl ?_<;>(refine o_z ?_))<;>(repeat (first|refine Au ?_|refine Ah rfl ?_|refine Ae rfl ?_)))
    refine ret1 rfl rfl ⟨?_,hE⟩
    rw [List.take_of_length_le (by omega)] at hh
    rw [hh,Na]
theorem baseInts {w:World} {av bv:Value} {a b:List Int} (ha:V w av a) (hb:V w bv b) :
    Fn prog 24 [av,bv] w fun v w'=>v=.bool (bof (a=b))∧Ext w w':=by
  obtain ⟨A,ca,rfl⟩:=ha.form
  obtain ⟨B,cb,rfl⟩:=hb.form
  have hal:=ha.len
  refine AL func24 rfl ntmps24 ?_
  by_cases hl:a.length=b.length
  · ((repeat (first|refine Au ?_|refine Ah rfl ?_|refine Ae rfl ?_))<;>(refine Am rfl ?_<;>(refine o_z ?_))<;>(repeat (first|refine Au ?_|refine Ah rfl ?_|refine Ae rfl ?_))<;>(refine Ak rfl ?_<;>refine AS rfl ?_<;>refine Ak rfl ?_<;>refine AS rfl ?_<;>(first|refine Kj rfl rfl rfl ?_|refine Kk rfl rfl rfl ?_)<;>(refine o_z ?_))<;>(repeat (first|refine Au ?_|refine Ah rfl ?_|refine Ae rfl ?_))<;>(refine Ak rfl ?_<;>refine AS rfl ?_<;>refine Ak rfl ?_<;>(refine o_z ?_))<;>(repeat (first|refine Au ?_|refine Ah rfl ?_|refine Ae rfl ?_)))
    refine GO (fun k:Nat=>[(0,.slice A a.length ca),(1,.slice B b.length cb),(12,.int .i64 (a.length:Int)),(13,.int .i64 (k:Int))])
      (fun k w'=>w'=w∧k≤a.length∧a.take k=b.take k) (fun k=>a.length - k) 0 ⟨rfl,Nat.zero_le _,rfl⟩ ⟨rfl,rfl,rfl,rfl,trivial⟩ ?_
    rintro k _ ⟨rfl,hk,hh⟩
    by_cases hlt:k < a.length
    · obtain ⟨x,hx⟩:=BG hlt
      obtain ⟨y,hy⟩:=BG (l:=b) (k:=k) (by omega)
      obtain ⟨b1,o1,ce,rfl,_,_,hd1,rfl,_⟩:=ha.elem hx
      obtain ⟨b2,o2,ce,rfl,_,_,hd2,rfl,_⟩:=hb.elem hy
      ((repeat (first|refine Au ?_|refine Ah rfl ?_|refine Ae rfl ?_))<;>((first|refine Ef rfl rfl ?_|refine Eg rfl rfl ?_)<;>(refine o_z ?_))<;>(repeat (first|refine Au ?_|refine Ah rfl ?_|refine Ae rfl ?_))<;>(refine Ak rfl ?_<;>refine Am rfl ?_<;>(refine o_z ?_))<;>(repeat (first|refine Au ?_|refine Ah rfl ?_|refine Ae rfl ?_)))
      refine FU (·=_) [(0,true),(1,true),(2,true),(3,true),(4,true),(5,true),(6,true),(7,true),(8,true)] rfl rfl ?_
      (refine AX rfl rfl ?_<;>refine AX rfl rfl ?_<;>refine PP rfl rfl rfl rfl ?_<;>refine FQ rfl rfl ?_<;>refine AX rfl rfl ?_<;>refine AX rfl rfl ?_<;>refine PP rfl rfl rfl rfl ?_<;>refine FQ rfl rfl ?_<;>(first|refine RV rfl rfl rfl rfl ?_|refine RW rfl rfl rfl rfl ?_|refine QK rfl rfl rfl rfl (fun _=>?_) fun _=>?_)<;>(refine h_z ?_))<;>(repeat (first|refine Au ?_|refine Ah rfl ?_|refine Ae rfl ?_))
      · ((repeat (first|refine Au ?_|refine Ah rfl ?_|refine Ae rfl ?_))<;>(refine Am rfl ?_<;>(refine o_z ?_))<;>(repeat (first|refine Au ?_|refine Ah rfl ?_|refine Ae rfl ?_)))
        refine ret1 rfl rfl ⟨?_,Below.refl _ _⟩
        rw [BK]
        rintro rfl
        exact absurd (Option.some.inj (hx.symm.trans hy)) (by assumption)
      · ((first|refine JP rfl ?_|refine JO rfl rfl ?_)<;>refine Ak rfl ?_<;>(refine o_z ?_))
        exact ⟨k + 1,⟨rfl,rfl,rfl,rfl,trivial⟩,⟨rfl,by omega,by rw [List.take_add_one,List.take_add_one,hx,hy,hh,show x=y from by omega]⟩,by omega⟩
    · ((repeat (first|refine Au ?_|refine Ah rfl ?_|refine Ae rfl ?_))<;>((first|refine Ef rfl rfl ?_|refine Eg rfl rfl ?_)<;>(refine o_z ?_))<;>(repeat (first|refine Au ?_|refine Ah rfl ?_|refine Ae rfl ?_))<;>(refine Am rfl ?_<;>(refine o_z ?_))<;>(repeat (first|refine Au ?_|refine Ah rfl ?_|refine Ae rfl ?_)))
      refine ret1 rfl rfl ⟨?_,Below.refl _ _⟩
      rw [List.take_of_length_le (by omega),List.take_of_length_le (by omega)] at hh
      rw [BI hh]
  · ((repeat (first|refine Au ?_|refine Ah rfl ?_|refine Ae rfl ?_))<;>(refine Am rfl ?_<;>(refine o_z ?_))<;>(repeat (first|refine Au ?_|refine Ah rfl ?_|refine Ae rfl ?_))<;>(refine Ak rfl ?_<;>refine AS rfl ?_<;>refine Ak rfl ?_<;>refine AS rfl ?_<;>(first|refine Kj rfl rfl rfl ?_|refine Kk rfl rfl rfl ?_)<;>(refine o_z ?_))<;>(repeat (first|refine Au ?_|refine Ah rfl ?_|refine Ae rfl ?_))<;>(refine Am rfl ?_<;>(refine o_z ?_))<;>(repeat (first|refine Au ?_|refine Ah rfl ?_|refine Ae rfl ?_)))
    refine ret1 rfl rfl ⟨?_,Below.refl _ _⟩
    rw [BK (fun h=>hl (by rw [h]))]
def StateOk (vars s:List Int):Prop:=s.length=vars.length∧∀ (i:Nat) x y,s[i]?=some x→vars[i]?=some y→0≤x∧x < y
theorem baseState {w:World} {vv sv:Value} {vars s:List Int} (ha:V w vv vars) (hb:V w sv s) :
    Fn prog 44 [vv,sv] w fun v w'=>v=.bool (bof (StateOk vars s))∧Ext w w':=by
  obtain ⟨A,ca,rfl⟩:=ha.form
  obtain ⟨B,cb,rfl⟩:=hb.form
  have hal:=hb.len
  refine AL func44 rfl ntmps44 ?_
  by_cases hl:s.length=vars.length
  · ((repeat (first|refine Au ?_|refine Ah rfl ?_|refine Ae rfl ?_))<;>(refine Am rfl ?_<;>(refine o_z ?_))<;>(repeat (first|refine Au ?_|refine Ah rfl ?_|refine Ae rfl ?_))<;>(refine Ak rfl ?_<;>refine AS rfl ?_<;>refine Ak rfl ?_<;>refine AS rfl ?_<;>(first|refine Kj rfl rfl rfl ?_|refine Kk rfl rfl rfl ?_)<;>(refine o_z ?_))<;>(repeat (first|refine Au ?_|refine Ah rfl ?_|refine Ae rfl ?_))<;>(refine Ak rfl ?_<;>refine AS rfl ?_<;>refine Ak rfl ?_<;>(refine o_z ?_))<;>(repeat (first|refine Au ?_|refine Ah rfl ?_|refine Ae rfl ?_)))
    refine GO (fun k:Nat=>[(0,.slice A vars.length ca),(1,.slice B s.length cb),(12,.int .i64 (s.length:Int)),(13,.int .i64 (k:Int))])
      (fun k w'=>w'=w∧k≤s.length∧∀ (i:Nat) x y,i < k→s[i]?=some x→vars[i]?=some y→0≤x∧x < y) (fun k=>s.length - k) 0 ⟨rfl,Nat.zero_le _,fun i _ _ h=>by omega⟩ ⟨rfl,rfl,rfl,rfl,trivial⟩ ?_
    rintro k _ ⟨rfl,hk,hh⟩
    by_cases hlt:k < s.length
    · obtain ⟨x,hx⟩:=BG hlt
      obtain ⟨y,hy⟩:=BG (l:=vars) (k:=k) (by omega)
      obtain ⟨b1,o1,ce,rfl,_,_,hd1,rfl,_⟩:=ha.elem hy
      obtain ⟨b2,o2,ce,rfl,_,_,hd2,rfl,_⟩:=hb.elem hx
      ((repeat (first|refine Au ?_|refine Ah rfl ?_|refine Ae rfl ?_))<;>((first|refine Ef rfl rfl ?_|refine Eg rfl rfl ?_)<;>(refine o_z ?_))<;>(repeat (first|refine Au ?_|refine Ah rfl ?_|refine Ae rfl ?_))<;>(refine Ak rfl ?_<;>refine Am rfl ?_<;>(refine o_z ?_))<;>(repeat (first|refine Au ?_|refine Ah rfl ?_|refine Ae rfl ?_)))
      refine FU (·=_) [(0,true),(1,true),(2,true),(3,true),(4,true),(5,true),(6,true),(7,true),(8,true),(9,true),(10,true),(11,true),(12,true),(13,true),(14,true),(15,true)] rfl rfl ?_
      (refine AX rfl rfl ?_<;>refine AX rfl rfl ?_<;>refine PP rfl rfl rfl rfl ?_<;>refine FQ rfl rfl ?_<;>(first|refine Kl rfl rfl rfl rfl ?_|refine Km rfl rfl rfl rfl ?_|refine Kn rfl rfl rfl rfl (fun _=>?_) fun _=>?_)<;>refine AX rfl rfl ?_<;>(refine AB rfl ?_;(first|(refine Aw rfl rfl ?_;refine CC rfl ?_)|refine AE rfl rfl ?_))<;>(refine AB rfl ?_;(first|(refine Aw rfl rfl ?_;refine CC rfl ?_)|refine AE rfl rfl ?_))<;>(refine AB rfl ?_;(first|(refine Aw rfl rfl ?_;refine HG rfl rfl ?_)|refine AE rfl rfl ?_))<;>(refine AB rfl ?_;(first|(refine Aw rfl rfl ?_;refine Ci rfl ?_)|refine AE rfl rfl ?_))<;>(refine AB rfl ?_;(first|(refine Aw rfl rfl ?_;refine CC rfl ?_)|refine AE rfl rfl ?_))<;>(refine AB rfl ?_;(first|(refine Aw rfl rfl ?_;refine CC rfl ?_)|refine AE rfl rfl ?_))<;>(refine AB rfl ?_;(first|(refine Aw rfl rfl ?_;refine HG rfl rfl ?_)|refine AE rfl rfl ?_))<;>(refine AB rfl ?_;(first|(refine Aw rfl rfl ?_;refine Ci rfl ?_)|refine AE rfl rfl ?_))<;>(refine AB rfl ?_;(first|(refine Aw rfl rfl ?_;(first|refine Cv (fun _ _=>By rfl rfl) (by omega) ?_|refine Cw (fun _ _=>By rfl rfl) (by omega) ?_|refine BB (fun _ _=>By rfl rfl) (fun _=>?_) (fun _=>?_)))|refine AE rfl rfl ?_))<;>(first|refine DN rfl rfl rfl ?_|refine DE rfl rfl rfl ?_)<;>(refine h_z ?_))<;>(repeat (first|refine Au ?_|refine Ah rfl ?_|refine Ae rfl ?_))
      case refine_2.refine_2 =>
        ((first|refine JP rfl ?_|refine JO rfl rfl ?_)<;>refine Ak rfl ?_<;>(refine o_z ?_))
        refine ⟨k + 1,⟨rfl,rfl,rfl,rfl,trivial⟩,⟨rfl,by omega,fun i x' y' hi h1 h2=>?_⟩,by omega⟩
        by_cases he:i=k
        · subst he
          rw [hx] at h1;rw [hy] at h2
          injection h1 with h1;injection h2 with h2
          omega
        · exact hh i x' y' (by omega) h1 h2
      all_goals
        ((repeat (first|refine Au ?_|refine Ah rfl ?_|refine Ae rfl ?_))<;>(refine Am rfl ?_<;>(refine o_z ?_))<;>(repeat (first|refine Au ?_|refine Ah rfl ?_|refine Ae rfl ?_)))
        refine ret1 rfl rfl ⟨?_,Below.refl _ _⟩
        rw [BK (fun h=>by have:=h.2 k x y hx hy;omega)]
    · ((repeat (first|refine Au ?_|refine Ah rfl ?_|refine Ae rfl ?_))<;>((first|refine Ef rfl rfl ?_|refine Eg rfl rfl ?_)<;>(refine o_z ?_))<;>(repeat (first|refine Au ?_|refine Ah rfl ?_|refine Ae rfl ?_))<;>(refine Am rfl ?_<;>(refine o_z ?_))<;>(repeat (first|refine Au ?_|refine Ah rfl ?_|refine Ae rfl ?_)))
      refine ret1 rfl rfl ⟨?_,Below.refl _ _⟩
      rw [BI ⟨hl,fun i x y h1 h2=>hh i x y (by have:=Cx h1;omega) h1 h2⟩]
  · ((repeat (first|refine Au ?_|refine Ah rfl ?_|refine Ae rfl ?_))<;>(refine Am rfl ?_<;>(refine o_z ?_))<;>(repeat (first|refine Au ?_|refine Ah rfl ?_|refine Ae rfl ?_))<;>(refine Ak rfl ?_<;>refine AS rfl ?_<;>refine Ak rfl ?_<;>refine AS rfl ?_<;>(first|refine Kj rfl rfl rfl ?_|refine Kk rfl rfl rfl ?_)<;>(refine o_z ?_))<;>(repeat (first|refine Au ?_|refine Ah rfl ?_|refine Ae rfl ?_))<;>(refine Am rfl ?_<;>(refine o_z ?_))<;>(repeat (first|refine Au ?_|refine Ah rfl ?_|refine Ae rfl ?_)))
    refine ret1 rfl rfl ⟨?_,Below.refl _ _⟩
    rw [BK (fun h=>hl h.1)]
end
section
open Go Go.RowKit
attribute [local irreducible] ewp owp hwp hwq Ev Evg Fn retPost Res1
theorem taskProper {w:World} {vv sv:Value} {vars s:List Int} (ha:V w vv vars) (hb:V w sv s) :
    Fn prog 62 [vv,sv] w fun v w'=>v=.bool (bof (StateOk vars s))∧Ext w w':=by
  obtain ⟨A,ca,rfl⟩:=ha.form
  obtain ⟨B,cb,rfl⟩:=hb.form
  have hal:=hb.len
  refine AL func62 rfl ntmps62 ?_
  by_cases hl:s.length=vars.length
  · ((repeat (first|refine Au ?_|refine Ah rfl ?_|refine Ae rfl ?_))<;>(refine Am rfl ?_<;>(refine o_z ?_))<;>(repeat (first|refine Au ?_|refine Ah rfl ?_|refine Ae rfl ?_))<;>(refine Ak rfl ?_<;>refine AS rfl ?_<;>refine Ak rfl ?_<;>refine AS rfl ?_<;>(first|refine Kj rfl rfl rfl ?_|refine Kk rfl rfl rfl ?_)<;>(refine o_z ?_))<;>(repeat (first|refine Au ?_|refine Ah rfl ?_|refine Ae rfl ?_))<;>(refine Ak rfl ?_<;>refine AS rfl ?_<;>refine Ak rfl ?_<;>(refine o_z ?_))<;>(repeat (first|refine Au ?_|refine Ah rfl ?_|refine Ae rfl ?_)))
    refine GO (fun k:Nat=>[(0,.slice A vars.length ca),(12,.slice B s.length cb),(13,.int .i64 (s.length:Int)),(14,.int .i64 (k:Int))])
      (fun k w'=>w'=w∧k≤s.length∧∀ (i:Nat) x y,i < k→s[i]?=some x→vars[i]?=some y→0≤x∧x < y) (fun k=>s.length - k) 0 ⟨rfl,Nat.zero_le _,fun i _ _ h=>by omega⟩ ⟨rfl,rfl,rfl,rfl,trivial⟩ ?_
    rintro k _ ⟨rfl,hk,hh⟩
    by_cases hlt:k < s.length
    · obtain ⟨x,hx⟩:=BG hlt
      obtain ⟨y,hy⟩:=BG (l:=vars) (k:=k) (by omega)
      obtain ⟨b1,o1,ce,rfl,_,_,hd1,rfl,_⟩:=ha.elem hy
      obtain ⟨b2,o2,ce,rfl,_,_,hd2,rfl,_⟩:=hb.elem hx
      ((repeat (first|refine Au ?_|refine Ah rfl ?_|refine Ae rfl ?_))<;>((first|refine Ef rfl rfl ?_|refine Eg rfl rfl ?_)<;>(refine o_z ?_))<;>(repeat (first|refine Au ?_|refine Ah rfl ?_|refine Ae rfl ?_))<;>(refine Ak rfl ?_<;>refine GB rfl rfl ?_<;>refine At rfl ?_<;>refine Am rfl ?_<;>refine Am rfl ?_<;>(refine o_z ?_))<;>(repeat (first|refine Au ?_|refine Ah rfl ?_|refine Ae rfl ?_))<;>(refine Ak rfl ?_<;>(first|refine Ef rfl rfl ?_|refine Eg rfl rfl ?_|refine Dm rfl rfl (fun _=>?_) fun _=>?_)<;>refine Ak rfl ?_<;>(first|(refine An rfl rfl ?_;refine Ak rfl ?_)|refine Al rfl rfl ?_)<;>(first|(refine An rfl rfl ?_;refine Ak rfl ?_)|refine Al rfl rfl ?_)<;>(first|(refine An rfl rfl ?_;refine Ak rfl ?_)|refine Al rfl rfl ?_)<;>(first|(refine An rfl rfl ?_;refine GB rfl rfl ?_)|refine Al rfl rfl ?_)<;>(first|(refine An rfl rfl ?_;refine At rfl ?_)|refine Al rfl rfl ?_)<;>(first|(refine An rfl rfl ?_;(first|refine OK rfl rfl rfl ?_|refine OL rfl rfl rfl ?_|refine ET rfl rfl (fun _=>?_) fun _=>?_))|refine Al rfl rfl ?_)<;>(first|refine Bn rfl rfl ?_|refine Bc rfl rfl ?_)<;>(refine o_z ?_))<;>(repeat (first|refine Au ?_|refine Ah rfl ?_|refine Ae rfl ?_)))
      case refine_2.refine_2 =>
        ((first|refine JP rfl ?_|refine JO rfl rfl ?_)<;>refine Ak rfl ?_<;>(refine o_z ?_))
        refine ⟨k + 1,⟨rfl,rfl,rfl,rfl,trivial⟩,⟨rfl,by omega,fun i x' y' hi h1 h2=>?_⟩,by omega⟩
        by_cases he:i=k
        · subst he
          rw [hx] at h1;rw [hy] at h2
          injection h1 with h1;injection h2 with h2
          omega
        · exact hh i x' y' (by omega) h1 h2
      all_goals
        ((repeat (first|refine Au ?_|refine Ah rfl ?_|refine Ae rfl ?_))<;>(refine Am rfl ?_<;>(refine o_z ?_))<;>(repeat (first|refine Au ?_|refine Ah rfl ?_|refine Ae rfl ?_)))
        refine ret1 rfl rfl ⟨?_,Below.refl _ _⟩
        rw [BK (fun h=>by have:=h.2 k x y hx hy;omega)]
    · ((repeat (first|refine Au ?_|refine Ah rfl ?_|refine Ae rfl ?_))<;>((first|refine Ef rfl rfl ?_|refine Eg rfl rfl ?_)<;>(refine o_z ?_))<;>(repeat (first|refine Au ?_|refine Ah rfl ?_|refine Ae rfl ?_))<;>(refine Am rfl ?_<;>(refine o_z ?_))<;>(repeat (first|refine Au ?_|refine Ah rfl ?_|refine Ae rfl ?_)))
      refine ret1 rfl rfl ⟨?_,Below.refl _ _⟩
      rw [BI ⟨hl,fun i x y h1 h2=>hh i x y (by have:=Cx h1;omega) h1 h2⟩]
  · ((repeat (first|refine Au ?_|refine Ah rfl ?_|refine Ae rfl ?_))<;>(refine Am rfl ?_<;>(refine o_z ?_))<;>(repeat (first|refine Au ?_|refine Ah rfl ?_|refine Ae rfl ?_))<;>(refine Ak rfl ?_<;>refine AS rfl ?_<;>refine Ak rfl ?_<;>refine AS rfl ?_<;>(first|refine Kj rfl rfl rfl ?_|refine Kk rfl rfl rfl ?_)<;>(refine o_z ?_))<;>(repeat (first|refine Au ?_|refine Ah rfl ?_|refine Ae rfl ?_))<;>(refine Am rfl ?_<;>(refine o_z ?_))<;>(repeat (first|refine Au ?_|refine Ah rfl ?_|refine Ae rfl ?_)))
    refine ret1 rfl rfl ⟨?_,Below.refl _ _⟩
    rw [BK (fun h=>hl h.1)]
def FactOk (vars:List Int) (x:Fct):Prop:=0≤x.var∧0≤x.val∧∃ y,vars[x.var.toNat]?=some y∧x.val < y
def FactsOk (vars:List Int) (f:List Fct):Prop:=(∀ (i:Nat) x,f[i]?=some x→FactOk vars x)∧∀ (i:Nat) x y,f[i]?=some x→f[i + 1]?=some y→x.var < y.var
def FactsTo (vars:List Int) (f:List Fct) (k:Nat):Prop:=(∀ (i:Nat) x,i < k→f[i]?=some x→FactOk vars x)∧∀ (i:Nat) x y,i + 1 < k→f[i]?=some x→f[i + 1]?=some y→x.var < y.var
theorem FactsTo.step {vars:List Int} {f:List Fct} {k:Nat} {x:Fct} (h:FactsTo vars f k) (hx:f[k]?=some x) (ho:FactOk vars x) (hp:∀ y,0 < k→f[k - 1]?=some y→y.var < x.var):FactsTo vars f (k + 1):=by
  refine ⟨fun i y hi hy=>?_,fun i y z hi hy hz=>?_⟩
  · by_cases he:i=k
    · subst he;rw [hx] at hy;injection hy with hy;exact hy ▸ ho
    · exact h.1 i y (by omega) hy
  · by_cases he:i + 1=k
    · rw [he,hx] at hz;injection hz with hz;subst hz
      exact hp y (by omega) (by rw [show k - 1=i from by omega];exact hy)
    · exact h.2 i y z (by omega) hy hz
theorem FactsTo.done {vars:List Int} {f:List Fct} {k:Nat} (h:FactsTo vars f k) (hk:f.length≤k):FactsOk vars f :=
  ⟨fun i x hx=>h.1 i x (by have:=Cx hx;omega) hx,fun i x y hx hy=>h.2 i x y (by have:=Cx hy;omega) hx hy⟩
theorem baseProper {w:World} {vv fv:Value} {vars:List Int} {f:List Fct} (hv:V w vv vars) (hf:V w fv f) :
    Fn prog 45 [vv,fv] w fun v w'=>v=.bool (bof (FactsOk vars f))∧Ext w w':=by
  obtain ⟨A,ca,rfl⟩:=hv.form
  obtain ⟨B,cb,rfl⟩:=hf.form
  have hfl:=hf.len
  refine AL func45 rfl ntmps45 ?_
  ((repeat (first|refine Au ?_|refine Ah rfl ?_|refine Ae rfl ?_))<;>(refine Am rfl ?_<;>(refine o_z ?_))<;>(repeat (first|refine Au ?_|refine Ah rfl ?_|refine Ae rfl ?_))<;>(refine Ak rfl ?_<;>refine AS rfl ?_<;>refine Ak rfl ?_<;>(refine o_z ?_))<;>(repeat (first|refine Au ?_|refine Ah rfl ?_|refine Ae rfl ?_)))
  refine GO (fun k:Nat=>[(0,.slice A vars.length ca),(1,.slice B f.length cb),(7,.slice B f.length cb),(8,.int .i64 (f.length:Int)),(9,.int .i64 (k:Int))])
    (fun k w'=>Ext w w'∧k≤f.length∧FactsTo vars f k) (fun k=>f.length - k) 0 ⟨Below.refl _ _,Nat.zero_le _,⟨fun i _ h=>by omega,fun i _ _ h=>by omega⟩⟩ ⟨rfl,rfl,rfl,rfl,rfl,trivial⟩ ?_
  rintro k w1 ⟨hE,hk,hh⟩
  by_cases hlt:k < f.length
  · obtain ⟨x,hx⟩:=BG hlt
    obtain ⟨b,o,ce,rfl,hb,_,hd1,rfl,hr1,hr2⟩:=(hf.ext hE).elem hx
    ((repeat (first|refine Au ?_|refine Ah rfl ?_|refine Ae rfl ?_))<;>((first|refine Ef rfl rfl ?_|refine Eg rfl rfl ?_)<;>(refine o_z ?_))<;>(repeat (first|refine Au ?_|refine Ah rfl ?_|refine Ae rfl ?_))<;>(refine Ak rfl ?_<;>refine GB rfl rfl ?_<;>refine Bd rfl ?_)<;>(repeat (first|refine Au ?_|refine Ah rfl ?_|refine Ae rfl ?_)))
    refine JK rfl fun w2 hN=>?_
    (refine Am rfl ?_)
    refine Iu rfl rfl hN.blk rfl (Nat.le_refl _) (by simp [Value.cells,Value.oneCell']) fun w3 hU=>?_
    replace hN:=hN.upd hU
    have hb1:=hN.blk
    have hE3:Ext w w3:=hE.trans' hN.ext
    ((refine o_z ?_))
    repeat (first|refine Au ?_|refine Ah rfl ?_|refine Ae rfl ?_)
    refine FU (·=w3) [(0,true),(1,true),(2,true),(3,true),(4,true),(5,true),(6,true),(7,true),(8,true),(9,true),(10,true),(11,true),(12,true),(13,true),(14,true),(15,true),(16,true),(17,true),(18,true),(19,true),(20,true),(21,true),(22,true),(23,true),(24,true),(25,true),(26,true),(27,true),(28,true),(29,true),(30,true),(31,true),(32,true),(33,true),(34,true),(35,true),(36,true),(37,true),(38,true),(39,true)] rfl rfl ?_
    by_cases hvr:0≤x.var∧x.var < vars.length
    · obtain ⟨j,hj1⟩:=Int.eq_ofNat_of_zero_le hvr.1
      obtain ⟨y,hy⟩:=BG (l:=vars) (k:=j) (by omega)
      obtain ⟨b2,o2,ce2,rfl,_,_,hd2,rfl,_⟩:=(hv.ext hE3).elem hy
      have hjy:vars[x.var.toNat]?=some y:=by rw [hj1];simpa using hy
      have hok:0≤x.val→x.val < y→FactOk vars x:=fun h1 h2=>⟨hvr.1,h1,y,hjy,h2⟩
      have hno:¬ (0≤x.val∧x.val < y)→¬ FactsOk vars f:=fun h1 h2=>h1 (by
        obtain ⟨_,h3,y',h4,h5⟩:=h2.1 k x hx
        rw [hjy] at h4;injection h4 with h4;subst h4;exact ⟨h3,h5⟩)
      by_cases h0:0 < k
      · obtain ⟨z,hz⟩:=BG (l:=f) (k:=k - 1) (by omega)
        obtain ⟨b3,o3,ce3,he3,_,_,hd3,rfl,_⟩:=(hf.ext hE3).elem hz
        injection he3 with he3
        injection he3 with he3 he4
        subst he3;subst he4
        have hj2:(k:Int) - 1=((k - 1:Nat):Int):=by omega
        have hno2:¬ z.var < x.var→¬ FactsOk vars f:=fun h1 h2=>h1 (h2.2 (k - 1) z x hz (by rw [show k - 1 + 1=k from by omega];exact hx))
        (refine AT rfl rfl ?_<;>refine FQ rfl rfl ?_<;>(first|refine Kl rfl rfl rfl rfl ?_|refine Km rfl rfl rfl rfl ?_|refine Kn rfl rfl rfl rfl (fun _=>?_) fun _=>?_)<;>refine AX rfl rfl ?_<;>(refine AB rfl ?_;(first|(refine Aw rfl rfl ?_;refine CH rfl ?_)|refine AE rfl rfl ?_))<;>(refine AB rfl ?_;(first|(refine Aw rfl rfl ?_;refine Ci rfl ?_)|refine AE rfl rfl ?_))<;>(refine AB rfl ?_;(first|(refine Aw rfl rfl ?_;refine CC rfl ?_)|refine AE rfl rfl ?_))<;>(refine AB rfl ?_;(first|(refine Aw rfl rfl ?_;refine Ld rfl ?_)|refine AE rfl rfl ?_))<;>(refine AB rfl ?_;(first|(refine Aw rfl rfl ?_;(first|refine Cv (fun _ _=>By rfl rfl) (by omega) ?_|refine Cw (fun _ _=>By rfl rfl) (by omega) ?_|refine BB (fun _ _=>By rfl rfl) (fun _=>?_) (fun _=>?_)))|refine AE rfl rfl ?_))<;>(first|refine DN rfl rfl rfl ?_|refine DE rfl rfl rfl ?_)<;>refine AX rfl rfl ?_<;>(refine AB rfl ?_;(first|(refine Aw rfl rfl ?_;refine CH rfl ?_)|refine AE rfl rfl ?_))<;>(refine AB rfl ?_;(first|(refine Aw rfl rfl ?_;refine Ci rfl ?_)|refine AE rfl rfl ?_))<;>(refine AB rfl ?_;(first|(refine Aw rfl rfl ?_;(first|refine Cv (fun _ _=>CG rfl rfl) (by omega) ?_|refine Cw (fun _ _=>CG rfl rfl) (by omega) ?_|refine BB (fun _ _=>CG rfl rfl) (fun _=>?_) (fun _=>?_)))|refine AE rfl rfl ?_))<;>(first|refine DN rfl rfl rfl ?_|refine DE rfl rfl rfl ?_)<;>refine AX rfl rfl ?_<;>(refine AB rfl ?_;(first|(refine Aw rfl rfl ?_;refine CH rfl ?_)|refine AE rfl rfl ?_))<;>(refine AB rfl ?_;(first|(refine Aw rfl rfl ?_;refine Ci rfl ?_)|refine AE rfl rfl ?_))<;>(refine AB rfl ?_;(first|(refine Aw rfl rfl ?_;refine CC rfl ?_)|refine AE rfl rfl ?_))<;>(refine AB rfl ?_;(first|(refine Aw rfl rfl ?_;refine CH rfl ?_)|refine AE rfl rfl ?_))<;>(refine AB rfl ?_;(first|(refine Aw rfl rfl ?_;refine Ci rfl ?_)|refine AE rfl rfl ?_))<;>(refine AB rfl ?_;(first|(refine Aw rfl rfl ?_;refine HG rfl rfl ?_)|refine AE rfl rfl ?_))<;>(refine AB rfl ?_;(first|(refine Aw rfl rfl ?_;refine Ci rfl ?_)|refine AE rfl rfl ?_))<;>(refine AB rfl ?_;(first|(refine Aw rfl rfl ?_;(first|refine Cv (fun _ _=>By rfl rfl) (by omega) ?_|refine Cw (fun _ _=>By rfl rfl) (by omega) ?_|refine BB (fun _ _=>By rfl rfl) (fun _=>?_) (fun _=>?_)))|refine AE rfl rfl ?_))<;>(first|refine DN rfl rfl rfl ?_|refine DE rfl rfl rfl ?_)<;>refine AX rfl rfl ?_<;>(refine AB rfl ?_;(first|(refine Aw rfl rfl ?_;refine CC rfl ?_)|refine AE rfl rfl ?_))<;>(refine AB rfl ?_;(first|(refine Aw rfl rfl ?_;(first|refine Cv (fun _ _=>Fx rfl rfl) (by omega) ?_|refine Cw (fun _ _=>Fx rfl rfl) (by omega) ?_|refine BB (fun _ _=>Fx rfl rfl) (fun _=>?_) (fun _=>?_)))|refine AE rfl rfl ?_))<;>(refine AB rfl ?_;(first|(refine Aw rfl rfl ?_;refine CC rfl ?_)|refine AE rfl rfl ?_))<;>(refine AB rfl ?_;(first|(refine Aw rfl rfl ?_;refine CC rfl ?_)|refine AE rfl rfl ?_))<;>(refine AB rfl ?_;(first|(refine Aw rfl rfl ?_;refine CC rfl ?_)|refine AE rfl rfl ?_))<;>(refine AB rfl ?_;(first|(refine Aw rfl rfl ?_;refine PS rfl rfl rfl ?_)|refine AE rfl rfl ?_))<;>(refine AB rfl ?_;(first|(refine Aw rfl rfl ?_;refine HG rfl rfl ?_)|refine AE rfl rfl ?_))<;>(refine AB rfl ?_;(first|(refine Aw rfl rfl ?_;refine CH rfl ?_)|refine AE rfl rfl ?_))<;>(refine AB rfl ?_;(first|(refine Aw rfl rfl ?_;refine Ci rfl ?_)|refine AE rfl rfl ?_))<;>(refine AB rfl ?_;(first|(refine Aw rfl rfl ?_;refine CH rfl ?_)|refine AE rfl rfl ?_))<;>(refine AB rfl ?_;(first|(refine Aw rfl rfl ?_;refine Ci rfl ?_)|refine AE rfl rfl ?_))<;>(refine AB rfl ?_;(first|(refine Aw rfl rfl ?_;(first|refine Cv (fun _ _=>By rfl rfl) (by omega) ?_|refine Cw (fun _ _=>By rfl rfl) (by omega) ?_|refine BB (fun _ _=>By rfl rfl) (fun _=>?_) (fun _=>?_)))|refine AE rfl rfl ?_))<;>(refine AB rfl ?_;(first|(refine Aw rfl rfl ?_;(first|refine PQ rfl rfl rfl ?_|refine PR rfl rfl rfl ?_))|refine AE rfl rfl ?_))<;>(first|refine DN rfl rfl rfl ?_|refine DE rfl rfl rfl ?_)<;>(refine h_z ?_))<;>(repeat (first|refine Au ?_|refine Ah rfl ?_|refine Ae rfl ?_))
        all_goals first
          | (((first|refine JP rfl ?_|refine JO rfl rfl ?_)<;>refine Ak rfl ?_<;>(refine o_z ?_))
             exact ⟨k + 1,⟨rfl,rfl,rfl,rfl,rfl,trivial⟩,⟨hE3,by omega,hh.step hx (hok (by omega) (by omega)) (fun y' _ hy'=>by rw [hz] at hy';injection hy' with hy';subst hy';omega)⟩,by omega⟩)
          | (((repeat (first|refine Au ?_|refine Ah rfl ?_|refine Ae rfl ?_))<;>(refine Am rfl ?_<;>(refine o_z ?_))<;>(repeat (first|refine Au ?_|refine Ah rfl ?_|refine Ae rfl ?_)))
             refine ret1 rfl rfl ⟨?_,hE3⟩
             first|rw [BK (hno (by omega))]|rw [BK (hno2 (by omega))])
      · (refine AT rfl rfl ?_<;>refine FQ rfl rfl ?_<;>(first|refine Kl rfl rfl rfl rfl ?_|refine Km rfl rfl rfl rfl ?_|refine Kn rfl rfl rfl rfl (fun _=>?_) fun _=>?_)<;>refine AX rfl rfl ?_<;>(refine AB rfl ?_;(first|(refine Aw rfl rfl ?_;refine CH rfl ?_)|refine AE rfl rfl ?_))<;>(refine AB rfl ?_;(first|(refine Aw rfl rfl ?_;refine Ci rfl ?_)|refine AE rfl rfl ?_))<;>(refine AB rfl ?_;(first|(refine Aw rfl rfl ?_;refine CC rfl ?_)|refine AE rfl rfl ?_))<;>(refine AB rfl ?_;(first|(refine Aw rfl rfl ?_;refine Ld rfl ?_)|refine AE rfl rfl ?_))<;>(refine AB rfl ?_;(first|(refine Aw rfl rfl ?_;(first|refine Cv (fun _ _=>By rfl rfl) (by omega) ?_|refine Cw (fun _ _=>By rfl rfl) (by omega) ?_|refine BB (fun _ _=>By rfl rfl) (fun _=>?_) (fun _=>?_)))|refine AE rfl rfl ?_))<;>(first|refine DN rfl rfl rfl ?_|refine DE rfl rfl rfl ?_)<;>refine AX rfl rfl ?_<;>(refine AB rfl ?_;(first|(refine Aw rfl rfl ?_;refine CH rfl ?_)|refine AE rfl rfl ?_))<;>(refine AB rfl ?_;(first|(refine Aw rfl rfl ?_;refine Ci rfl ?_)|refine AE rfl rfl ?_))<;>(refine AB rfl ?_;(first|(refine Aw rfl rfl ?_;(first|refine Cv (fun _ _=>CG rfl rfl) (by omega) ?_|refine Cw (fun _ _=>CG rfl rfl) (by omega) ?_|refine BB (fun _ _=>CG rfl rfl) (fun _=>?_) (fun _=>?_)))|refine AE rfl rfl ?_))<;>(first|refine DN rfl rfl rfl ?_|refine DE rfl rfl rfl ?_)<;>refine AX rfl rfl ?_<;>(refine AB rfl ?_;(first|(refine Aw rfl rfl ?_;refine CH rfl ?_)|refine AE rfl rfl ?_))<;>(refine AB rfl ?_;(first|(refine Aw rfl rfl ?_;refine Ci rfl ?_)|refine AE rfl rfl ?_))<;>(refine AB rfl ?_;(first|(refine Aw rfl rfl ?_;refine CC rfl ?_)|refine AE rfl rfl ?_))<;>(refine AB rfl ?_;(first|(refine Aw rfl rfl ?_;refine CH rfl ?_)|refine AE rfl rfl ?_))<;>(refine AB rfl ?_;(first|(refine Aw rfl rfl ?_;refine Ci rfl ?_)|refine AE rfl rfl ?_))<;>(refine AB rfl ?_;(first|(refine Aw rfl rfl ?_;refine HG rfl rfl ?_)|refine AE rfl rfl ?_))<;>(refine AB rfl ?_;(first|(refine Aw rfl rfl ?_;refine Ci rfl ?_)|refine AE rfl rfl ?_))<;>(refine AB rfl ?_;(first|(refine Aw rfl rfl ?_;(first|refine Cv (fun _ _=>By rfl rfl) (by omega) ?_|refine Cw (fun _ _=>By rfl rfl) (by omega) ?_|refine BB (fun _ _=>By rfl rfl) (fun _=>?_) (fun _=>?_)))|refine AE rfl rfl ?_))<;>(first|refine DN rfl rfl rfl ?_|refine DE rfl rfl rfl ?_)<;>refine AX rfl rfl ?_<;>(refine AB rfl ?_;(first|(refine Aw rfl rfl ?_;refine CC rfl ?_)|refine AE rfl rfl ?_))<;>(refine AB rfl ?_;(first|(refine Aw rfl rfl ?_;(first|refine Cv (fun _ _=>Fx rfl rfl) (by omega) ?_|refine Cw (fun _ _=>Fx rfl rfl) (by omega) ?_|refine BB (fun _ _=>Fx rfl rfl) (fun _=>?_) (fun _=>?_)))|refine AE rfl rfl ?_))<;>(refine AB rfl ?_;(first|(refine Aw rfl rfl ?_;refine CC rfl ?_)|refine AE rfl rfl ?_))<;>(refine AB rfl ?_;(first|(refine Aw rfl rfl ?_;refine CC rfl ?_)|refine AE rfl rfl ?_))<;>(refine AB rfl ?_;(first|(refine Aw rfl rfl ?_;refine CC rfl ?_)|refine AE rfl rfl ?_))<;>(refine AB rfl ?_;(first|(refine Aw rfl rfl ?_;refine PS rfl rfl rfl ?_)|refine AE rfl rfl ?_))<;>(refine AB rfl ?_;(first|(refine Aw rfl rfl ?_;refine HG rfl rfl ?_)|refine AE rfl rfl ?_))<;>(refine AB rfl ?_;(first|(refine Aw rfl rfl ?_;refine CH rfl ?_)|refine AE rfl rfl ?_))<;>(refine AB rfl ?_;(first|(refine Aw rfl rfl ?_;refine Ci rfl ?_)|refine AE rfl rfl ?_))<;>(refine AB rfl ?_;(first|(refine Aw rfl rfl ?_;refine CH rfl ?_)|refine AE rfl rfl ?_))<;>(refine AB rfl ?_;(first|(refine Aw rfl rfl ?_;refine Ci rfl ?_)|refine AE rfl rfl ?_))<;>(refine AB rfl ?_;(first|(refine Aw rfl rfl ?_;(first|refine Cv (fun _ _=>By rfl rfl) (by omega) ?_|refine Cw (fun _ _=>By rfl rfl) (by omega) ?_|refine BB (fun _ _=>By rfl rfl) (fun _=>?_) (fun _=>?_)))|refine AE rfl rfl ?_))<;>(refine AB rfl ?_;(first|(refine Aw rfl rfl ?_;(first|refine PQ rfl rfl rfl ?_|refine PR rfl rfl rfl ?_))|refine AE rfl rfl ?_))<;>(first|refine DN rfl rfl rfl ?_|refine DE rfl rfl rfl ?_)<;>(refine h_z ?_))<;>(repeat (first|refine Au ?_|refine Ah rfl ?_|refine Ae rfl ?_))
        all_goals first
          | (((first|refine JP rfl ?_|refine JO rfl rfl ?_)<;>refine Ak rfl ?_<;>(refine o_z ?_))
             exact ⟨k + 1,⟨rfl,rfl,rfl,rfl,rfl,trivial⟩,⟨hE3,by omega,hh.step hx (hok (by omega) (by omega)) (fun y' _ hy'=>by omega)⟩,by omega⟩)
          | (((repeat (first|refine Au ?_|refine Ah rfl ?_|refine Ae rfl ?_))<;>(refine Am rfl ?_<;>(refine o_z ?_))<;>(repeat (first|refine Au ?_|refine Ah rfl ?_|refine Ae rfl ?_)))
             refine ret1 rfl rfl ⟨?_,hE3⟩
             rw [BK (hno (by omega))])
    · have hno:¬ FactsOk vars f:=fun h=>by
        obtain ⟨h1,h2,y,h3,_⟩:=h.1 k x hx
        have:=Cx h3
        omega
      (refine AT rfl rfl ?_<;>refine FQ rfl rfl ?_<;>(first|refine Kl rfl rfl rfl rfl ?_|refine Km rfl rfl rfl rfl ?_|refine Kn rfl rfl rfl rfl (fun _=>?_) fun _=>?_)<;>refine AX rfl rfl ?_<;>(refine AB rfl ?_;(first|(refine Aw rfl rfl ?_;refine CH rfl ?_)|refine AE rfl rfl ?_))<;>(refine AB rfl ?_;(first|(refine Aw rfl rfl ?_;refine Ci rfl ?_)|refine AE rfl rfl ?_))<;>(refine AB rfl ?_;(first|(refine Aw rfl rfl ?_;refine CC rfl ?_)|refine AE rfl rfl ?_))<;>(refine AB rfl ?_;(first|(refine Aw rfl rfl ?_;refine Ld rfl ?_)|refine AE rfl rfl ?_))<;>(refine AB rfl ?_;(first|(refine Aw rfl rfl ?_;(first|refine Cv (fun _ _=>By rfl rfl) (by omega) ?_|refine Cw (fun _ _=>By rfl rfl) (by omega) ?_|refine BB (fun _ _=>By rfl rfl) (fun _=>?_) (fun _=>?_)))|refine AE rfl rfl ?_))<;>(first|refine DN rfl rfl rfl ?_|refine DE rfl rfl rfl ?_)<;>refine AX rfl rfl ?_<;>(refine AB rfl ?_;(first|(refine Aw rfl rfl ?_;refine CH rfl ?_)|refine AE rfl rfl ?_))<;>(refine AB rfl ?_;(first|(refine Aw rfl rfl ?_;refine Ci rfl ?_)|refine AE rfl rfl ?_))<;>(refine AB rfl ?_;(first|(refine Aw rfl rfl ?_;(first|refine Cv (fun _ _=>CG rfl rfl) (by omega) ?_|refine Cw (fun _ _=>CG rfl rfl) (by omega) ?_|refine BB (fun _ _=>CG rfl rfl) (fun _=>?_) (fun _=>?_)))|refine AE rfl rfl ?_))<;>(first|refine DN rfl rfl rfl ?_|refine DE rfl rfl rfl ?_)<;>refine AX rfl rfl ?_<;>(refine AB rfl ?_;(first|(refine Aw rfl rfl ?_;refine CH rfl ?_)|refine AE rfl rfl ?_))<;>(refine AB rfl ?_;(first|(refine Aw rfl rfl ?_;refine Ci rfl ?_)|refine AE rfl rfl ?_))<;>(refine AB rfl ?_;(first|(refine Aw rfl rfl ?_;refine CC rfl ?_)|refine AE rfl rfl ?_))<;>(refine AB rfl ?_;(first|(refine Aw rfl rfl ?_;refine CH rfl ?_)|refine AE rfl rfl ?_))<;>(refine AB rfl ?_;(first|(refine Aw rfl rfl ?_;refine Ci rfl ?_)|refine AE rfl rfl ?_))<;>(refine AB rfl ?_;(first|(refine Aw rfl rfl ?_;refine HG rfl rfl ?_)|refine AE rfl rfl ?_))<;>(refine AB rfl ?_;(first|(refine Aw rfl rfl ?_;refine Ci rfl ?_)|refine AE rfl rfl ?_))<;>(refine AB rfl ?_;(first|(refine Aw rfl rfl ?_;(first|refine Cv (fun _ _=>By rfl rfl) (by omega) ?_|refine Cw (fun _ _=>By rfl rfl) (by omega) ?_|refine BB (fun _ _=>By rfl rfl) (fun _=>?_) (fun _=>?_)))|refine AE rfl rfl ?_))<;>(first|refine DN rfl rfl rfl ?_|refine DE rfl rfl rfl ?_)<;>refine AX rfl rfl ?_<;>(refine AB rfl ?_;(first|(refine Aw rfl rfl ?_;refine CC rfl ?_)|refine AE rfl rfl ?_))<;>(refine AB rfl ?_;(first|(refine Aw rfl rfl ?_;(first|refine Cv (fun _ _=>Fx rfl rfl) (by omega) ?_|refine Cw (fun _ _=>Fx rfl rfl) (by omega) ?_|refine BB (fun _ _=>Fx rfl rfl) (fun _=>?_) (fun _=>?_)))|refine AE rfl rfl ?_))<;>(refine AB rfl ?_;(first|(refine Aw rfl rfl ?_;refine CC rfl ?_)|refine AE rfl rfl ?_))<;>(refine AB rfl ?_;(first|(refine Aw rfl rfl ?_;refine CC rfl ?_)|refine AE rfl rfl ?_))<;>(refine AB rfl ?_;(first|(refine Aw rfl rfl ?_;refine CC rfl ?_)|refine AE rfl rfl ?_))<;>(refine AB rfl ?_;(first|(refine Aw rfl rfl ?_;refine PS rfl rfl rfl ?_)|refine AE rfl rfl ?_))<;>(refine AB rfl ?_;(first|(refine Aw rfl rfl ?_;refine HG rfl rfl ?_)|refine AE rfl rfl ?_))<;>(refine AB rfl ?_;(first|(refine Aw rfl rfl ?_;refine CH rfl ?_)|refine AE rfl rfl ?_))<;>(refine AB rfl ?_;(first|(refine Aw rfl rfl ?_;refine Ci rfl ?_)|refine AE rfl rfl ?_))<;>(refine AB rfl ?_;(first|(refine Aw rfl rfl ?_;refine CH rfl ?_)|refine AE rfl rfl ?_))<;>(refine AB rfl ?_;(first|(refine Aw rfl rfl ?_;refine Ci rfl ?_)|refine AE rfl rfl ?_))<;>(refine AB rfl ?_;(first|(refine Aw rfl rfl ?_;(first|refine Cv (fun _ _=>By rfl rfl) (by omega) ?_|refine Cw (fun _ _=>By rfl rfl) (by omega) ?_|refine BB (fun _ _=>By rfl rfl) (fun _=>?_) (fun _=>?_)))|refine AE rfl rfl ?_))<;>(refine AB rfl ?_;(first|(refine Aw rfl rfl ?_;(first|refine PQ rfl rfl rfl ?_|refine PR rfl rfl rfl ?_))|refine AE rfl rfl ?_))<;>(first|refine DN rfl rfl rfl ?_|refine DE rfl rfl rfl ?_)<;>(refine h_z ?_))<;>(repeat (first|refine Au ?_|refine Ah rfl ?_|refine Ae rfl ?_))
      all_goals
        ((repeat (first|refine Au ?_|refine Ah rfl ?_|refine Ae rfl ?_))<;>(refine Am rfl ?_<;>(refine o_z ?_))<;>(repeat (first|refine Au ?_|refine Ah rfl ?_|refine Ae rfl ?_)))
        refine ret1 rfl rfl ⟨?_,hE3⟩
        rw [BK hno]
  · ((repeat (first|refine Au ?_|refine Ah rfl ?_|refine Ae rfl ?_))<;>((first|refine Ef rfl rfl ?_|refine Eg rfl rfl ?_)<;>(refine o_z ?_))<;>(repeat (first|refine Au ?_|refine Ah rfl ?_|refine Ae rfl ?_))<;>(refine Am rfl ?_<;>(refine o_z ?_))<;>(repeat (first|refine Au ?_|refine Ah rfl ?_|refine Ae rfl ?_)))
    refine ret1 rfl rfl ⟨?_,hE⟩
    rw [BI (hh.done (by omega))]
theorem taskFacts {w:World} {vv fv:Value} {vars:List Int} {f:List Fct} (hv:V w vv vars) (hf:V w fv f) :
    Fn prog 64 [vv,fv] w fun v w'=>v=.bool (bof (FactsOk vars f))∧Ext w w':=by
  obtain ⟨A,ca,rfl⟩:=hv.form
  obtain ⟨B,cb,rfl⟩:=hf.form
  have hfl:=hf.len
  refine AL func64 rfl ntmps64 ?_
  ((repeat (first|refine Au ?_|refine Ah rfl ?_|refine Ae rfl ?_))<;>(refine Am rfl ?_<;>(refine o_z ?_))<;>(repeat (first|refine Au ?_|refine Ah rfl ?_|refine Ae rfl ?_))<;>(refine Am rfl ?_<;>(refine o_z ?_))<;>(repeat (first|refine Au ?_|refine Ah rfl ?_|refine Ae rfl ?_))<;>(refine Ak rfl ?_<;>refine AS rfl ?_<;>refine Ak rfl ?_<;>(refine o_z ?_))<;>(repeat (first|refine Au ?_|refine Ah rfl ?_|refine Ae rfl ?_)))
  refine GO (X:=Nat×Int) (fun k=>[(0,.slice A vars.length ca),(5,.int .i64 k.2),(8,.slice B f.length cb),(9,.int .i64 (f.length:Int)),(10,.int .i64 (k.1:Int))])
    (fun k w'=>Ext w w'∧k.1≤f.length∧FactsTo vars f k.1∧(k.1=0→k.2=-1)∧∀ y,0 < k.1→f[k.1 - 1]?=some y→y.var=k.2) (fun k=>f.length - k.1) (0,-1) ⟨Below.refl _ _,Nat.zero_le _,⟨fun i _ h=>by simp at h,fun i _ _ h=>by simp at h⟩,fun _=>rfl,fun y h=>by simp at h⟩ ⟨rfl,rfl,rfl,rfl,rfl,trivial⟩ ?_
  rintro ⟨k,m⟩ w1 ⟨hE,hk,hh,hm0,hm⟩
  dsimp only at hk hh hm0 hm ⊢
  by_cases hlt:k < f.length
  · obtain ⟨x,hx⟩:=BG hlt
    obtain ⟨b,o,ce,rfl,hb,_,hd1,rfl,hr1,hr2⟩:=(hf.ext hE).elem hx
    ((repeat (first|refine Au ?_|refine Ah rfl ?_|refine Ae rfl ?_))<;>((first|refine Ef rfl rfl ?_|refine Eg rfl rfl ?_)<;>(refine o_z ?_))<;>(repeat (first|refine Au ?_|refine Ah rfl ?_|refine Ae rfl ?_))<;>(refine GB rfl rfl ?_<;>refine Bd rfl ?_)<;>(repeat (first|refine Au ?_|refine Ah rfl ?_|refine Ae rfl ?_)))
    refine EH rfl rfl (by simp [Value.cells,Value.oneCell']) fun w3 hN=>?_
    have hb1:=hN.blk
    have hE3:Ext w w3:=hE.trans' hN.ext
    ((refine o_z ?_))
    repeat (first|refine Au ?_|refine Ah rfl ?_|refine Ae rfl ?_)
    refine FU (·=w3) [(0,true),(1,true),(2,true),(3,true),(4,true),(5,true),(6,true),(7,true),(8,true),(9,true),(10,true),(11,true),(12,true),(13,true),(14,true),(15,true),(16,true),(17,true),(18,true),(19,true),(20,true),(21,true),(22,true),(23,true),(24,true),(25,true)] rfl rfl ?_
    have hm1:0 < k→∃ z,f[k - 1]?=some z∧z.var=m:=fun h0=>by
      obtain ⟨z,hz⟩:=BG (l:=f) (k:=k - 1) (by omega)
      exact ⟨z,hz,hm z h0 hz⟩
    have hge:0 < k→0≤m:=fun h0=>by
      obtain ⟨z,hz,he⟩:=hm1 h0
      have:=(hh.1 (k - 1) z (by omega) hz).1
      omega
    have hge':-1≤m:=by
      by_cases h0:0 < k
      · have:=hge h0;omega
      · have:=hm0 (by omega);omega
    have hno0:¬ m < x.var→¬ FactsOk vars f:=fun h1 h2=>by
      by_cases h0:0 < k
      · obtain ⟨z,hz,he⟩:=hm1 h0
        have:=h2.2 (k - 1) z x hz (by rw [show k - 1 + 1=k from by omega];exact hx)
        omega
      · have:=hm0 (by omega)
        have:=(h2.1 k x hx).1
        omega
    by_cases hvr:0≤x.var∧x.var < vars.length
    · obtain ⟨j,hj1⟩:=Int.eq_ofNat_of_zero_le hvr.1
      obtain ⟨y,hy⟩:=BG (l:=vars) (k:=j) (by omega)
      obtain ⟨b2,o2,ce2,rfl,_,_,hd2,rfl,_⟩:=(hv.ext hE3).elem hy
      have hjy:vars[x.var.toNat]?=some y:=by rw [hj1];simpa using hy
      have hok:0≤x.val→x.val < y→FactOk vars x:=fun h1 h2=>⟨hvr.1,h1,y,hjy,h2⟩
      have hno:¬ (0≤x.val∧x.val < y)→¬ FactsOk vars f:=fun h1 h2=>h1 (by
        obtain ⟨_,h3,y',h4,h5⟩:=h2.1 k x hx
        rw [hjy] at h4;injection h4 with h4;subst h4;exact ⟨h3,h5⟩)
      (refine AT rfl rfl ?_<;>refine FQ rfl rfl ?_<;>refine AX rfl rfl ?_<;>(first|refine QH rfl rfl rfl rfl ?_|refine QI rfl rfl rfl rfl ?_|refine QJ rfl rfl rfl rfl (fun _=>?_) fun _=>?_)<;>refine AX rfl rfl ?_<;>(refine AB rfl ?_;(first|(refine Aw rfl rfl ?_;refine CH rfl ?_)|refine AE rfl rfl ?_))<;>(refine AB rfl ?_;(first|(refine Aw rfl rfl ?_;refine Ci rfl ?_)|refine AE rfl rfl ?_))<;>(refine AB rfl ?_;(first|(refine Aw rfl rfl ?_;refine CC rfl ?_)|refine AE rfl rfl ?_))<;>(refine AB rfl ?_;(first|(refine Aw rfl rfl ?_;refine Ld rfl ?_)|refine AE rfl rfl ?_))<;>(refine AB rfl ?_;(first|(refine Aw rfl rfl ?_;(first|refine Cv (fun _ _=>By rfl rfl) (by omega) ?_|refine Cw (fun _ _=>By rfl rfl) (by omega) ?_|refine BB (fun _ _=>By rfl rfl) (fun _=>?_) (fun _=>?_)))|refine AE rfl rfl ?_))<;>(first|refine DN rfl rfl rfl ?_|refine DE rfl rfl rfl ?_)<;>refine AX rfl rfl ?_<;>(refine AB rfl ?_;(first|(refine Aw rfl rfl ?_;refine CH rfl ?_)|refine AE rfl rfl ?_))<;>(refine AB rfl ?_;(first|(refine Aw rfl rfl ?_;refine Ci rfl ?_)|refine AE rfl rfl ?_))<;>(refine AB rfl ?_;(first|(refine Aw rfl rfl ?_;(first|refine Cv (fun _ _=>CG rfl rfl) (by omega) ?_|refine Cw (fun _ _=>CG rfl rfl) (by omega) ?_|refine BB (fun _ _=>CG rfl rfl) (fun _=>?_) (fun _=>?_)))|refine AE rfl rfl ?_))<;>(first|refine DN rfl rfl rfl ?_|refine DE rfl rfl rfl ?_)<;>refine AX rfl rfl ?_<;>(refine AB rfl ?_;(first|(refine Aw rfl rfl ?_;refine CH rfl ?_)|refine AE rfl rfl ?_))<;>(refine AB rfl ?_;(first|(refine Aw rfl rfl ?_;refine Ci rfl ?_)|refine AE rfl rfl ?_))<;>(refine AB rfl ?_;(first|(refine Aw rfl rfl ?_;refine CC rfl ?_)|refine AE rfl rfl ?_))<;>(refine AB rfl ?_;(first|(refine Aw rfl rfl ?_;refine CH rfl ?_)|refine AE rfl rfl ?_))<;>(refine AB rfl ?_;(first|(refine Aw rfl rfl ?_;refine Ci rfl ?_)|refine AE rfl rfl ?_))<;>(refine AB rfl ?_;(first|(refine Aw rfl rfl ?_;refine HG rfl rfl ?_)|refine AE rfl rfl ?_))<;>(refine AB rfl ?_;(first|(refine Aw rfl rfl ?_;refine Ci rfl ?_)|refine AE rfl rfl ?_))<;>(refine AB rfl ?_;(first|(refine Aw rfl rfl ?_;(first|refine Cv (fun _ _=>By rfl rfl) (by omega) ?_|refine Cw (fun _ _=>By rfl rfl) (by omega) ?_|refine BB (fun _ _=>By rfl rfl) (fun _=>?_) (fun _=>?_)))|refine AE rfl rfl ?_))<;>(first|refine DN rfl rfl rfl ?_|refine DE rfl rfl rfl ?_)<;>(refine h_z ?_))<;>(repeat (first|refine Au ?_|refine Ah rfl ?_|refine Ae rfl ?_))
      all_goals try (
        ((repeat (first|refine Au ?_|refine Ah rfl ?_|refine Ae rfl ?_))<;>(refine Am rfl ?_<;>(refine o_z ?_))<;>(repeat (first|refine Au ?_|refine Ah rfl ?_|refine Ae rfl ?_)))
        refine ret1 rfl rfl ⟨?_,hE3⟩
        first|rw [BK (hno (by omega))]|rw [BK (hno0 (by omega))])
      ((repeat (first|refine Au ?_|refine Ah rfl ?_|refine Ae rfl ?_))<;>(refine Ax rfl ?_<;>refine At rfl ?_<;>refine Am rfl ?_<;>(refine o_z ?_))<;>(repeat (first|refine Au ?_|refine Ah rfl ?_|refine Ae rfl ?_)))
      ((first|refine JP rfl ?_|refine JO rfl rfl ?_)<;>refine Ak rfl ?_<;>(refine o_z ?_))
      refine ⟨(k + 1,x.var),⟨rfl,rfl,rfl,rfl,rfl,trivial⟩,⟨hE3,hlt,hh.step hx (hok (by omega) (by omega)) (fun y' h0 hy'=>by have:=hm y' h0 hy';omega),fun h=>absurd h (Nat.succ_ne_zero k),fun y' _ hy'=>?_⟩,Nat.sub_lt_sub_left hlt (Nat.lt_succ_self k)⟩
      rw [show k + 1 - 1=k from rfl,hx] at hy'
      exact congrArg Fct.var (Option.some.inj hy').symm
    · have hno:¬ FactsOk vars f:=fun h=>by
        obtain ⟨h1,h2,y,h3,_⟩:=h.1 k x hx
        have:=Cx h3
        omega
      (refine AT rfl rfl ?_<;>refine FQ rfl rfl ?_<;>refine AX rfl rfl ?_<;>(first|refine QH rfl rfl rfl rfl ?_|refine QI rfl rfl rfl rfl ?_|refine QJ rfl rfl rfl rfl (fun _=>?_) fun _=>?_)<;>refine AX rfl rfl ?_<;>(refine AB rfl ?_;(first|(refine Aw rfl rfl ?_;refine CH rfl ?_)|refine AE rfl rfl ?_))<;>(refine AB rfl ?_;(first|(refine Aw rfl rfl ?_;refine Ci rfl ?_)|refine AE rfl rfl ?_))<;>(refine AB rfl ?_;(first|(refine Aw rfl rfl ?_;refine CC rfl ?_)|refine AE rfl rfl ?_))<;>(refine AB rfl ?_;(first|(refine Aw rfl rfl ?_;refine Ld rfl ?_)|refine AE rfl rfl ?_))<;>(refine AB rfl ?_;(first|(refine Aw rfl rfl ?_;(first|refine Cv (fun _ _=>By rfl rfl) (by omega) ?_|refine Cw (fun _ _=>By rfl rfl) (by omega) ?_|refine BB (fun _ _=>By rfl rfl) (fun _=>?_) (fun _=>?_)))|refine AE rfl rfl ?_))<;>(first|refine DN rfl rfl rfl ?_|refine DE rfl rfl rfl ?_)<;>refine AX rfl rfl ?_<;>(refine AB rfl ?_;(first|(refine Aw rfl rfl ?_;refine CH rfl ?_)|refine AE rfl rfl ?_))<;>(refine AB rfl ?_;(first|(refine Aw rfl rfl ?_;refine Ci rfl ?_)|refine AE rfl rfl ?_))<;>(refine AB rfl ?_;(first|(refine Aw rfl rfl ?_;(first|refine Cv (fun _ _=>CG rfl rfl) (by omega) ?_|refine Cw (fun _ _=>CG rfl rfl) (by omega) ?_|refine BB (fun _ _=>CG rfl rfl) (fun _=>?_) (fun _=>?_)))|refine AE rfl rfl ?_))<;>(first|refine DN rfl rfl rfl ?_|refine DE rfl rfl rfl ?_)<;>refine AX rfl rfl ?_<;>(refine AB rfl ?_;(first|(refine Aw rfl rfl ?_;refine CH rfl ?_)|refine AE rfl rfl ?_))<;>(refine AB rfl ?_;(first|(refine Aw rfl rfl ?_;refine Ci rfl ?_)|refine AE rfl rfl ?_))<;>(refine AB rfl ?_;(first|(refine Aw rfl rfl ?_;refine CC rfl ?_)|refine AE rfl rfl ?_))<;>(refine AB rfl ?_;(first|(refine Aw rfl rfl ?_;refine CH rfl ?_)|refine AE rfl rfl ?_))<;>(refine AB rfl ?_;(first|(refine Aw rfl rfl ?_;refine Ci rfl ?_)|refine AE rfl rfl ?_))<;>(refine AB rfl ?_;(first|(refine Aw rfl rfl ?_;refine HG rfl rfl ?_)|refine AE rfl rfl ?_))<;>(refine AB rfl ?_;(first|(refine Aw rfl rfl ?_;refine Ci rfl ?_)|refine AE rfl rfl ?_))<;>(refine AB rfl ?_;(first|(refine Aw rfl rfl ?_;(first|refine Cv (fun _ _=>By rfl rfl) (by omega) ?_|refine Cw (fun _ _=>By rfl rfl) (by omega) ?_|refine BB (fun _ _=>By rfl rfl) (fun _=>?_) (fun _=>?_)))|refine AE rfl rfl ?_))<;>(first|refine DN rfl rfl rfl ?_|refine DE rfl rfl rfl ?_)<;>(refine h_z ?_))<;>(repeat (first|refine Au ?_|refine Ah rfl ?_|refine Ae rfl ?_))
      all_goals
        ((repeat (first|refine Au ?_|refine Ah rfl ?_|refine Ae rfl ?_))<;>(refine Am rfl ?_<;>(refine o_z ?_))<;>(repeat (first|refine Au ?_|refine Ah rfl ?_|refine Ae rfl ?_)))
        refine ret1 rfl rfl ⟨?_,hE3⟩
        rw [BK hno]
  · ((repeat (first|refine Au ?_|refine Ah rfl ?_|refine Ae rfl ?_))<;>((first|refine Ef rfl rfl ?_|refine Eg rfl rfl ?_)<;>(refine o_z ?_))<;>(repeat (first|refine Au ?_|refine Ah rfl ?_|refine Ae rfl ?_))<;>(refine Am rfl ?_<;>(refine o_z ?_))<;>(repeat (first|refine Au ?_|refine Ah rfl ?_|refine Ae rfl ?_)))
    refine ret1 rfl rfl ⟨?_,hE⟩
    rw [BI (hh.done (by omega))]
def NameOk (s:ByteArray):Prop:=s.size≤256∧∀ (i:Nat) (h:i < s.size),32≤(s[i]'h).toNat∧(s[i]'h).toNat≤126
theorem taskNamed {w:World} {s:ByteArray} (hs:s.size≤9223372036854775807) :
    Fn prog 106 [.string s] w fun v w'=>v=.bool (bof (NameOk s))∧Ext w w':=by
  refine AL func106 rfl ntmps106 ?_
  ((repeat (first|refine Au ?_|refine Ah rfl ?_|refine Ae rfl ?_))<;>(refine Am rfl ?_<;>(refine o_z ?_))<;>(repeat (first|refine Au ?_|refine Ah rfl ?_|refine Ae rfl ?_))<;>(refine Ak rfl ?_<;>refine ID rfl ?_<;>refine Ak rfl ?_<;>(refine o_z ?_))<;>(repeat (first|refine Au ?_|refine Ah rfl ?_|refine Ae rfl ?_)))
  refine GO (fun k:Nat=>[(0,.string s),(5,.int .i64 (s.size:Int)),(6,.int .i64 (k:Int))])
    (fun k w'=>w'=w∧k≤s.size∧∀ (i:Nat) (h:i < s.size),i < k→32≤(s[i]'h).toNat∧(s[i]'h).toNat≤126) (fun k=>s.size - k) 0 ⟨rfl,Nat.zero_le _,fun i _ h=>by omega⟩ ⟨rfl,rfl,rfl,trivial⟩ ?_
  rintro k _ ⟨rfl,hk,hh⟩
  by_cases hlt:k < s.size
  · ((repeat (first|refine Au ?_|refine Ah rfl ?_|refine Ae rfl ?_))<;>((first|refine Ef rfl rfl ?_|refine Eg rfl rfl ?_)<;>(refine o_z ?_))<;>(repeat (first|refine Au ?_|refine Ah rfl ?_|refine Ae rfl ?_))<;>(refine Ak rfl ?_<;>refine Am rfl ?_<;>(refine o_z ?_))<;>(repeat (first|refine Au ?_|refine Ah rfl ?_|refine Ae rfl ?_))<;>(refine Ak rfl ?_<;>refine Ak rfl ?_<;>refine RC rfl rfl rfl (by omega) ?_<;>(first|refine Ef rfl rfl ?_|refine Eg rfl rfl ?_|refine Dm rfl rfl (fun _=>?_) fun _=>?_)<;>refine Ak rfl ?_<;>(first|(refine An rfl rfl ?_;refine Ak rfl ?_)|refine Al rfl rfl ?_)<;>(first|(refine An rfl rfl ?_;refine Ak rfl ?_)|refine Al rfl rfl ?_)<;>(first|(refine An rfl rfl ?_;refine RC rfl rfl rfl (by omega) ?_)|refine Al rfl rfl ?_)<;>(first|(refine An rfl rfl ?_;(first|refine Iw rfl rfl ?_|refine Ix rfl rfl ?_|refine BW rfl rfl (fun _=>?_) fun _=>?_))|refine Al rfl rfl ?_)<;>(first|refine Bn rfl rfl ?_|refine Bc rfl rfl ?_)<;>(refine o_z ?_))<;>(repeat (first|refine Au ?_|refine Ah rfl ?_|refine Ae rfl ?_)))
    all_goals first
      | (((first|refine JP rfl ?_|refine JO rfl rfl ?_)<;>refine Ak rfl ?_<;>(refine o_z ?_))
         refine ⟨k + 1,⟨rfl,rfl,rfl,trivial⟩,⟨rfl,by omega,fun i h hi=>?_⟩,by omega⟩
         by_cases he:i=k
         · subst he;omega
         · exact hh i h (by omega))
      | (((repeat (first|refine Au ?_|refine Ah rfl ?_|refine Ae rfl ?_))<;>(refine Am rfl ?_<;>(refine o_z ?_))<;>(repeat (first|refine Au ?_|refine Ah rfl ?_|refine Ae rfl ?_)))
         refine ret1 rfl rfl ⟨?_,Below.refl _ _⟩
         rw [BK (fun h=>by have:=h.2 k hlt;omega)])
  · by_cases h256:s.size≤256
    · ((repeat (first|refine Au ?_|refine Ah rfl ?_|refine Ae rfl ?_))<;>((first|refine Ef rfl rfl ?_|refine Eg rfl rfl ?_)<;>(refine o_z ?_))<;>(repeat (first|refine Au ?_|refine Ah rfl ?_|refine Ae rfl ?_))<;>(refine Ak rfl ?_<;>refine ID rfl ?_<;>(first|refine QF rfl rfl rfl ?_|refine QG rfl rfl rfl ?_)<;>refine Am rfl ?_<;>(refine o_z ?_))<;>(repeat (first|refine Au ?_|refine Ah rfl ?_|refine Ae rfl ?_)))
      refine ret1 rfl rfl ⟨?_,Below.refl _ _⟩
      rw [BI ⟨h256,fun i h=>hh i h (by omega)⟩]
    · ((repeat (first|refine Au ?_|refine Ah rfl ?_|refine Ae rfl ?_))<;>((first|refine Ef rfl rfl ?_|refine Eg rfl rfl ?_)<;>(refine o_z ?_))<;>(repeat (first|refine Au ?_|refine Ah rfl ?_|refine Ae rfl ?_))<;>(refine Ak rfl ?_<;>refine ID rfl ?_<;>(first|refine QF rfl rfl rfl ?_|refine QG rfl rfl rfl ?_)<;>refine Am rfl ?_<;>(refine o_z ?_))<;>(repeat (first|refine Au ?_|refine Ah rfl ?_|refine Ae rfl ?_)))
      refine ret1 rfl rfl ⟨?_,Below.refl _ _⟩
      rw [BK (fun h=>h256 h.1)]
end
section
open Go Go.RowKit
attribute [local irreducible] ewp owp hwp hwq Ev Evg Fn retPost Res1
theorem Hr {vars:List Int} {x:Fct}:FactsOk vars [x]↔FactOk vars x:=by
  constructor
  · intro h;exact h.1 0 x rfl
  · intro h
    refine ⟨fun i y hy=>?_,fun i y z _ hz=>by simp at hz⟩
    cases i with
    | zero=>simp at hy;exact hy ▸ h
    | succ i=>simp at hy
def EffOk (vars:List Int) (e:Eff):Prop:=FactsOk vars e.cond∧FactOk vars ⟨e.var,e.val⟩
def OpOk (vars:List Int) (o:Opr):Prop:=0≤o.cost∧o.cost≤1048576∧o.effs.length≤64∧NameOk o.name∧FactsOk vars o.pre∧∀ (i:Nat) e,o.effs[i]?=some e→EffOk vars e
def TaskOk (t:Tsk):Prop:=t.vars.length≤64∧t.ops.length≤4096∧(∀ (i:Nat) n,t.vars[i]?=some n→1≤n∧n≤64)∧StateOk t.vars t.init∧FactsOk t.vars t.goal∧∀ (i:Nat) o,t.ops[i]?=some o→OpOk t.vars o
theorem Fj {p:Nat→Prop} {k:Nat} (h:∀ i,i < k→p i) (hk:p k):∀ i,i < k + 1→p i:=fun i hi=>by
  by_cases he:i=k
  · subst he;exact hk
  · exact h i (by omega)
end
section
open Go Go.RowKit
attribute [local irreducible] ewp owp hwp hwq Ev Evg Fn retPost Res1
def opConds (o:Opr):List (List Fct):=o.pre :: o.effs.map (·.cond)
def conds (t:Tsk):List (List Fct):=t.goal :: t.ops.flatMap opConds
theorem ME {α β:Type} (f:α→List β) {l:List α} {k:Nat} {x:α} (h:l[k]?=some x):(l.take (k + 1)).flatMap f=(l.take k).flatMap f ++ f x:=by
  rw [List.take_add_one,h];simp
theorem Qb {α β:Type} (f:α→β) {l:List α} {k:Nat} {x:α} (h:l[k]?=some x):(l.take (k + 1)).map f=(l.take k).map f ++ [f x]:=by
  rw [List.take_add_one,h];simp
theorem QV {t:Tsk} (h:∀ (i:Nat) o,t.ops[i]?=some o→o.effs.length≤64) (k:Nat):((t.ops.take k).flatMap opConds).length≤k * 65:=by
  induction k with
  | zero=>simp
  | succ k ih =>
    cases hx:t.ops[k]? with
    | none =>
      have hl:=List.getElem?_eq_none_iff.1 hx
      rw [List.take_of_length_le hl] at ih
      rw [List.take_of_length_le (by omega)]
      omega
    | some o =>
      rw [ME opConds hx,List.length_append]
      have:=h k o hx
      simp only [opConds,List.length_cons,List.length_map] at *
      omega
theorem taskConditions {w:World} {tv:Value} {t:Tsk} (ht:V w tv t) (hn:t.ops.length≤4096) (hm:∀ (i:Nat) o,t.ops[i]?=some o→o.effs.length≤64) :
    Fn prog 105 [tv] w fun v w'=>V w' v (conds t)∧Ext w w':=by
  obtain ⟨cs,rfl,a,b,c,d,rfl,hvars,hinit,hgoal,hops⟩:=ht
  obtain ⟨Av,cv,rfl⟩:=hvars.form
  obtain ⟨Ai,ci,rfl⟩:=hinit.form
  obtain ⟨Ag,cg,rfl⟩:=hgoal.form
  obtain ⟨Ao,co,rfl⟩:=hops.form
  have hF:∀ {w'},Ext w w'→∀ k,All w k→k < w'.heap.size:=fun hE k hk=>Nat.lt_of_lt_of_le hk hE.size
  refine AL func105 rfl ntmps105 ?_
  repeat (first|refine Au ?_|refine Ah rfl ?_|refine Ae rfl ?_)
  refine IP rfl rfl fun w1 hN=>?_
  have hb1:=hN.blk
  have hE1:Ext w w1:=hN.ext
  (refine Am rfl ?_<;>(refine o_z ?_))
  repeat (first|refine Au ?_|refine Ah rfl ?_|refine Ae rfl ?_)
  (refine Ax rfl ?_<;>refine At rfl ?_)
  refine Iv rfl rfl rfl (by simp [Value.cells]) (by decide) rfl fun w2 hN2=>?_
  replace hb1:=hb1.ext hN2.ext
  have hE2:Ext w w2:=hE1.trans' hN2.ext
  have hown:Own w2 w.heap.size (All w) 23 (.slice (some ⟨w1.heap.size,0,none⟩) 1 1) [t.goal] :=
    (Own.made hN2 (xs:=[t.goal]) (.single (Vb.agree hgoal (hE2.agree fun _ h=>h))) rfl (fun h=>by have:w1.heap.size < w.heap.size:=h;have:=hE1.size;omega) (by simp)).lower hE1.size
  (refine Am rfl ?_<;>(refine o_z ?_))
  repeat (first|refine Au ?_|refine Ah rfl ?_|refine Ae rfl ?_)
  ((repeat (first|refine Au ?_|refine Ah rfl ?_|refine Ae rfl ?_))<;>(refine Ax rfl ?_<;>refine At rfl ?_<;>refine AS rfl ?_<;>refine Ak rfl ?_<;>(refine o_z ?_))<;>(repeat (first|refine Au ?_|refine Ah rfl ?_|refine Ae rfl ?_)))
  refine DM t.ops.length (by omega) (fun v:Value=>[(1,.pointer (some ⟨w.heap.size,0,none⟩)),(3,v),(12,.slice Ao t.ops.length co)]) (fun k v w'=>Ext w w'∧Blk w' w.heap.size 31 [.slice Av t.vars.length cv,.slice Ai t.init.length ci,.slice Ag t.goal.length cg,.slice Ao t.ops.length co]∧Own w' w.heap.size (All w) 23 v (t.goal :: (t.ops.take k).flatMap opConds)) _
    ⟨hE2,hb1,hown⟩ ⟨rfl,rfl,rfl,rfl,rfl,trivial⟩ (fun _=>⟨rfl,rfl⟩) ⟨rfl,rfl,rfl⟩ ⟨rfl,rfl⟩ ?_ ?_
  · rintro k v w3 hk ⟨hE3,hb1,hown⟩
    have hlk:=QV hm k
    obtain ⟨o,ho⟩:=BG hk
    obtain ⟨b2,o2,ce,rfl,_,_,hd1,p,q,rfl,hp,hq,hc,hnm⟩:=Vb.elem (Vb.agree hops (hE3.agree fun _ h=>h)) ho
    obtain ⟨Ap,cp,rfl⟩:=hp.form
    obtain ⟨Aq,cq,rfl⟩:=hq.form
    have hql:=hm k o ho
    ((repeat (first|refine Au ?_|refine Ah rfl ?_|refine Ae rfl ?_))<;>(refine GB rfl rfl ?_<;>refine Bd rfl ?_)<;>(repeat (first|refine Au ?_|refine Ah rfl ?_|refine Ae rfl ?_)))
    refine EH rfl rfl (by simp [Value.cells,Value.oneCell']) fun w4 hN4=>?_
    have hb2:=hN4.blk
    replace hb1:=hb1.ext hN4.ext
    have hE4:Ext w w4:=hE3.trans' hN4.ext
    replace hown:=hown.ext hN4.ext (hF hE3)
    replace hp:=hp.agree (hN4.ext.agree (hF hE3))
    replace hq:=hq.agree (hN4.ext.agree (hF hE3))
    ((refine o_z ?_))
    repeat (first|refine Au ?_|refine Ah rfl ?_|refine Ae rfl ?_)
    (refine Ak rfl ?_<;>refine Ax rfl ?_<;>refine At rfl ?_)
    refine KM rfl rfl rfl hown (hF hE4) hE4.size hp (by simp only [List.length_cons,List.length_append,List.length_map,List.length_take];omega) (by simp only [List.length_cons,List.length_append,List.length_map,List.length_take];omega) ⟨rfl,rfl⟩ fun v' w5 hown5 hK=>?_
    replace hb1:=hK.blk hb1 (hown.blk_ne hb1 (by decide))
    replace hb2:=hK.blk hb2 (hown.blk_ne hb2 (by decide))
    have hB5:Below w.heap.size w4 w5:=hown.fits (Nat.le_refl _) hE4.size hK
    have hE5:Ext w w5:=hE4.trans hB5
    replace hq:=hq.below hB5
    (refine Am rfl ?_<;>(refine o_z ?_))
    repeat (first|refine Au ?_|refine Ah rfl ?_|refine Ae rfl ?_)
    ((repeat (first|refine Au ?_|refine Ah rfl ?_|refine Ae rfl ?_))<;>(refine Ax rfl ?_<;>refine At rfl ?_<;>refine AS rfl ?_<;>refine Ak rfl ?_<;>(refine o_z ?_))<;>(repeat (first|refine Au ?_|refine Ah rfl ?_|refine Ae rfl ?_)))
    refine DM o.effs.length (by omega) (fun v:Value=>[(1,.pointer (some ⟨w.heap.size,0,none⟩)),(3,v),(12,.slice (some ⟨b2,o2,none⟩) t.ops.length co),(13,.int .i64 (t.ops.length:Int)),(14,.int .i64 (k:Int)),(24,.slice Aq o.effs.length cq)]) (fun j v w'=>Ext w w'∧Blk w' w.heap.size 31 [.slice Av t.vars.length cv,.slice Ai t.init.length ci,.slice Ag t.goal.length cg,.slice (some ⟨b2,o2,none⟩) t.ops.length co]∧Vb w' (All w) (.slice Aq o.effs.length cq) o.effs∧Own w' w.heap.size (All w) 23 v ((t.goal :: (t.ops.take k).flatMap opConds) ++ o.pre :: (o.effs.take j).map (·.cond))) _
      ⟨hE5,hb1,hq,by simpa using hown5⟩ ⟨rfl,rfl,rfl,rfl,rfl,rfl,rfl,rfl,trivial⟩ (fun _=>⟨rfl,rfl⟩) ⟨rfl,rfl,rfl⟩ ⟨rfl,rfl⟩ ?_ ?_
    · rintro j v6 w6 hj ⟨hE6,hb1,hq,hown⟩
      obtain ⟨e,he⟩:=BG hj
      obtain ⟨b3,o3,ce,rfl,_,_,hd1,cv',rfl,hcond,hr1,hr2⟩:=hq.elem he
      obtain ⟨Ac,cc,rfl⟩:=hcond.form
      ((repeat (first|refine Au ?_|refine Ah rfl ?_|refine Ae rfl ?_))<;>(refine GB rfl rfl ?_<;>refine Bd rfl ?_)<;>(repeat (first|refine Au ?_|refine Ah rfl ?_|refine Ae rfl ?_)))
      refine EH rfl rfl (by simp [Value.cells,Value.oneCell']) fun w7 hN7=>?_
      have hb2:=hN7.blk
      replace hb1:=hb1.ext hN7.ext
      have hE7:Ext w w7:=hE6.trans' hN7.ext
      replace hown:=hown.ext hN7.ext (hF hE6)
      replace hcond:=hcond.agree (hN7.ext.agree (hF hE6))
      replace hq:=hq.agree (hN7.ext.agree (hF hE6))
      ((refine o_z ?_))
      repeat (first|refine Au ?_|refine Ah rfl ?_|refine Ae rfl ?_)
      (refine Ak rfl ?_<;>refine Ax rfl ?_<;>refine At rfl ?_)
      refine KM rfl rfl rfl hown (hF hE7) hE7.size hcond (by simp only [List.length_cons,List.length_append,List.length_map,List.length_take];omega) (by simp only [List.length_cons,List.length_append,List.length_map,List.length_take];omega) ⟨rfl,rfl⟩ fun v' w8 hown8 hK=>?_
      have hB8:Below w.heap.size w7 w8:=hown.fits (Nat.le_refl _) hE7.size hK
      (refine Am rfl ?_<;>(refine o_z ?_))
      exact ⟨v',⟨rfl,rfl,rfl,rfl,rfl,rfl,rfl,rfl,trivial⟩,hE7.trans hB8,hK.blk hb1 (hown.blk_ne hb1 (by decide)),hq.below hB8,by rw [Qb _ he];simpa using hown8⟩
    rintro v6 w6 ⟨hE6,hb1,hq,hown⟩
    repeat (first|refine Au ?_|refine Ah rfl ?_|refine Ae rfl ?_)
    exact ⟨v6,⟨rfl,rfl,rfl,rfl,rfl,trivial⟩,hE6,hb1,by rw [ME opConds ho];simpa [opConds] using hown⟩
  rintro v w3 ⟨hE3,hb1,hown⟩
  repeat (first|refine Au ?_|refine Ah rfl ?_|refine Ae rfl ?_)
  ((repeat (first|refine Au ?_|refine Ah rfl ?_|refine Ae rfl ?_))<;>(refine Ak rfl ?_<;>refine Am rfl ?_<;>(refine o_z ?_))<;>(repeat (first|refine Au ?_|refine Ah rfl ?_|refine Ae rfl ?_)))
  refine ret1 rfl rfl ⟨?_,hE3⟩
  rw [List.take_length] at hown
  exact hown.vb.mono fun k hk=>by
    rcases hk with hk|hk
    · exact hF hE3 k hk
    · exact (hown.lt k hk).2
theorem indexFuncFacts {w:World} {sv:Value} {xs:List (List Fct)} {g:FuncId} [Callable prog g] {caps:List Value} {p:List Fct→Prop} (hs:V w sv xs)
    (hg:∀ v x w',x∈xs→Ext w w'→V w' v x→Fn prog g ([v] ++ caps) w' fun r w''=>r=.bool (bof (p x))∧Ext w' w'') :
    Fn prog 110 [sv,.func (.func g) #[] caps.toArray] w fun v w'=>((∃ k:Nat,v=.int .i64 (k:Int)∧∃ x∈xs,p x)∨(v=.int .i64 (-1)∧∀ x∈xs,¬ p x))∧Ext w w':=by
  obtain ⟨A,c,rfl⟩:=hs.form
  have hl:=hs.len
  refine AL func110 rfl ntmps110 ?_
  ((repeat (first|refine Au ?_|refine Ah rfl ?_|refine Ae rfl ?_))<;>(refine Am rfl ?_<;>(refine o_z ?_))<;>(repeat (first|refine Au ?_|refine Ah rfl ?_|refine Ae rfl ?_))<;>(refine Ak rfl ?_<;>refine AS rfl ?_<;>refine Ak rfl ?_<;>(refine o_z ?_))<;>(repeat (first|refine Au ?_|refine Ah rfl ?_|refine Ae rfl ?_)))
  refine DM xs.length (by omega) (fun _:Unit=>[(0,.slice A xs.length c),(1,.func (.func g) #[] caps.toArray)]) (fun k _ w'=>Ext w w'∧∀ i,i < k→∀ x,xs[i]?=some x→¬ p x) ()
    ⟨Below.refl _ _,fun i hi=>by omega⟩ ⟨rfl,rfl,rfl,rfl,trivial⟩ (fun _=>⟨rfl,rfl⟩) ⟨rfl,rfl,rfl⟩ ⟨rfl,rfl⟩ ?_ ?_
  · rintro k _ w1 hk ⟨hE,hh⟩
    obtain ⟨x,hx⟩:=BG hk
    obtain ⟨b,o,ce,rfl,_,_,hd1,hR⟩:=(hs.ext hE).elem hx
    obtain ⟨v,rfl⟩:=List.length_eq_one_iff.1 (Rp.len hR)
    ((repeat (first|refine Au ?_|refine Ah rfl ?_|refine Ae rfl ?_))<;>(refine Ak rfl ?_<;>refine Am rfl ?_<;>(refine o_z ?_))<;>(repeat (first|refine Au ?_|refine Ah rfl ?_|refine Ae rfl ?_))<;>(refine Ak rfl ?_<;>refine Ak rfl ?_<;>refine Ak rfl ?_<;>refine GB rfl rfl ?_<;>refine At rfl ?_)<;>(repeat (first|refine Au ?_|refine Ah rfl ?_|refine Ae rfl ?_)))
    refine JL rfl rfl rfl (hg v x w1 (List.mem_of_getElem? hx) hE hR) ?_
    rintro _ w2 ⟨rfl,hE2⟩
    by_cases hp:p x
    · rw [BI hp]
      ((refine o_z ?_))
      repeat (first|refine Au ?_|refine Ah rfl ?_|refine Ae rfl ?_)
      ((repeat (first|refine Au ?_|refine Ah rfl ?_|refine Ae rfl ?_))<;>(refine Ak rfl ?_<;>refine Am rfl ?_<;>(refine o_z ?_))<;>(repeat (first|refine Au ?_|refine Ah rfl ?_|refine Ae rfl ?_)))
      exact ret1 rfl rfl ⟨.inl ⟨k,rfl,x,List.mem_of_getElem? hx,hp⟩,hE.trans' hE2⟩
    · rw [BK hp]
      ((refine o_z ?_))
      repeat (first|refine Au ?_|refine Ah rfl ?_|refine Ae rfl ?_)
      exact ⟨(),⟨rfl,rfl,rfl,rfl,trivial⟩,hE.trans' hE2,Fj hh fun x' hx'=>by rw [hx] at hx';injection hx' with hx';exact hx' ▸ hp⟩
  rintro _ w1 ⟨hE,hh⟩
  repeat (first|refine Au ?_|refine Ah rfl ?_|refine Ae rfl ?_)
  ((repeat (first|refine Au ?_|refine Ah rfl ?_|refine Ae rfl ?_))<;>(refine Am rfl ?_<;>(refine o_z ?_))<;>(repeat (first|refine Au ?_|refine Ah rfl ?_|refine Ae rfl ?_)))
  refine ret1 rfl rfl ⟨.inr ⟨rfl,fun x hx=>?_⟩,hE⟩
  obtain ⟨i,hi⟩:=List.getElem?_of_mem hx
  exact hh i (Cx hi) x hi
theorem containsFuncFacts {w:World} {sv:Value} {xs:List (List Fct)} {g:FuncId} [Callable prog g] {caps:List Value} {p:List Fct→Prop} (hs:V w sv xs)
    (hg:∀ v x w',x∈xs→Ext w w'→V w' v x→Fn prog g ([v] ++ caps) w' fun r w''=>r=.bool (bof (p x))∧Ext w' w'') :
    Fn prog 60 [sv,.func (.func g) #[] caps.toArray] w fun v w'=>v=.bool (bof (∃ x∈xs,p x))∧Ext w w':=by
  refine AL func60 rfl ntmps60 ?_
  ((repeat (first|refine Au ?_|refine Ah rfl ?_|refine Ae rfl ?_))<;>(refine Am rfl ?_<;>(refine o_z ?_))<;>(repeat (first|refine Au ?_|refine Ah rfl ?_|refine Ae rfl ?_))<;>(refine Ak rfl ?_<;>refine Ak rfl ?_)<;>(repeat (first|refine Au ?_|refine Ah rfl ?_|refine Ae rfl ?_)))
  refine CQ rfl rfl (indexFuncFacts hs hg) ?_
  rintro v w1 ⟨h,hE⟩
  rcases h with ⟨k,rfl,h⟩|⟨rfl,h⟩
  · ((first|refine OK rfl rfl rfl ?_|refine OL rfl rfl rfl ?_)<;>refine Am rfl ?_<;>(refine o_z ?_))
    repeat (first|refine Au ?_|refine Ah rfl ?_|refine Ae rfl ?_)
    exact ret1 rfl rfl ⟨by rw [BI h],hE⟩
  · ((first|refine OK rfl rfl rfl ?_|refine OL rfl rfl rfl ?_)<;>refine Am rfl ?_<;>(refine o_z ?_))
    repeat (first|refine Au ?_|refine Ah rfl ?_|refine Ae rfl ?_)
    exact ret1 rfl rfl ⟨by rw [BK (fun ⟨x,hx,hp⟩=>h x hx hp)],hE⟩
theorem taskLarge1 {w:World} {v:Value} {f:List Fct} (hf:V w v f):Fn prog 141 ([v] ++ []) w fun r w'=>r=.bool (bof (64 < f.length))∧Ext w w':=by
  obtain ⟨A,c,rfl⟩:=hf.form
  refine AL func141 rfl ntmps141 ?_
  by_cases h:64 < f.length
  · ((repeat (first|refine Au ?_|refine Ah rfl ?_|refine Ae rfl ?_))<;>(refine Am rfl ?_<;>(refine o_z ?_))<;>(repeat (first|refine Au ?_|refine Ah rfl ?_|refine Ae rfl ?_))<;>(refine Ak rfl ?_<;>refine AS rfl ?_<;>(first|refine Iw rfl rfl ?_|refine Ix rfl rfl ?_)<;>refine Am rfl ?_<;>(refine o_z ?_))<;>(repeat (first|refine Au ?_|refine Ah rfl ?_|refine Ae rfl ?_)))
    exact ret1 rfl rfl ⟨by rw [BI h],Below.refl _ _⟩
  · ((repeat (first|refine Au ?_|refine Ah rfl ?_|refine Ae rfl ?_))<;>(refine Am rfl ?_<;>(refine o_z ?_))<;>(repeat (first|refine Au ?_|refine Ah rfl ?_|refine Ae rfl ?_))<;>(refine Ak rfl ?_<;>refine AS rfl ?_<;>(first|refine Iw rfl rfl ?_|refine Ix rfl rfl ?_)<;>refine Am rfl ?_<;>(refine o_z ?_))<;>(repeat (first|refine Au ?_|refine Ah rfl ?_|refine Ae rfl ?_)))
    exact ret1 rfl rfl ⟨by rw [BK h],Below.refl _ _⟩
def Large (t:Tsk):Prop:=64 < t.vars.length∨4096 < t.ops.length∨(∃ (i:Nat) (o:Opr),t.ops[i]?=some o∧64 < o.effs.length)∨∃ f∈conds t,64 < f.length
theorem taskLarge {w:World} {tv:Value} {t:Tsk} (ht:V w tv t):Fn prog 104 [tv] w fun v w'=>v=.bool (bof (Large t))∧Ext w w':=by
  have ht0:=ht
  obtain ⟨cs,rfl,a,b,c,d,rfl,hvars,hinit,hgoal,hops⟩:=ht
  obtain ⟨Av,cv,rfl⟩:=hvars.form
  obtain ⟨Ai,ci,rfl⟩:=hinit.form
  obtain ⟨Ag,cg,rfl⟩:=hgoal.form
  obtain ⟨Ao,co,rfl⟩:=hops.form
  have hol:=hops.len
  refine AL func104 rfl ntmps104 ?_
  repeat (first|refine Au ?_|refine Ah rfl ?_|refine Ae rfl ?_)
  refine IP rfl rfl fun w1 hN=>?_
  have hb1:=hN.blk
  have hE1:Ext w w1:=hN.ext
  (refine Am rfl ?_<;>(refine o_z ?_))
  repeat (first|refine Au ?_|refine Ah rfl ?_|refine Ae rfl ?_)
  ((repeat (first|refine Au ?_|refine Ah rfl ?_|refine Ae rfl ?_))<;>(refine Ax rfl ?_<;>refine At rfl ?_<;>refine AS rfl ?_<;>(first|refine Iw rfl rfl ?_|refine Ix rfl rfl ?_|refine BW rfl rfl (fun _=>?_) fun _=>?_)<;>refine Ak rfl ?_<;>(first|(refine An rfl rfl ?_;refine Ax rfl ?_)|refine Al rfl rfl ?_)<;>(first|(refine An rfl rfl ?_;refine At rfl ?_)|refine Al rfl rfl ?_)<;>(first|(refine An rfl rfl ?_;refine AS rfl ?_)|refine Al rfl rfl ?_)<;>(first|(refine An rfl rfl ?_;(first|refine Iw rfl rfl ?_|refine Ix rfl rfl ?_|refine BW rfl rfl (fun _=>?_) fun _=>?_))|refine Al rfl rfl ?_)<;>(first|refine Bn rfl rfl ?_|refine Bc rfl rfl ?_)<;>(refine o_z ?_))<;>(repeat (first|refine Au ?_|refine Ah rfl ?_|refine Ae rfl ?_)))
  all_goals try (
    ((repeat (first|refine Au ?_|refine Ah rfl ?_|refine Ae rfl ?_))<;>(refine Am rfl ?_<;>(refine o_z ?_))<;>(repeat (first|refine Au ?_|refine Ah rfl ?_|refine Ae rfl ?_)))
    refine ret1 rfl rfl ⟨?_,hE1⟩
    rw [BI (by first|exact .inl (by omega)|exact .inr (.inl (by omega)))])
  ((repeat (first|refine Au ?_|refine Ah rfl ?_|refine Ae rfl ?_))<;>(refine Ax rfl ?_<;>refine At rfl ?_<;>refine AS rfl ?_<;>refine Ak rfl ?_<;>(refine o_z ?_))<;>(repeat (first|refine Au ?_|refine Ah rfl ?_|refine Ae rfl ?_)))
  refine DM t.ops.length (by omega) (fun _:Unit=>[(1,.pointer (some ⟨w.heap.size,0,none⟩)),(16,.slice Ao t.ops.length co)]) (fun k _ w'=>Ext w1 w'∧∀ i,i < k→∀ o,t.ops[i]?=some o→o.effs.length≤64) ()
    ⟨Below.refl _ _,fun i hi=>by omega⟩ ⟨rfl,rfl,rfl,rfl,trivial⟩ (fun _=>⟨rfl,rfl⟩) ⟨rfl,rfl,rfl⟩ ⟨rfl,rfl⟩ ?_ ?_
  · rintro k _ w4 hk ⟨hE4,hh⟩
    obtain ⟨o,ho⟩:=BG hk
    obtain ⟨b2,o2,ce,rfl,_,_,hd1,p,q,rfl,hp,hq,hc,hn⟩:=(hops.ext (hE1.trans' hE4)).elem ho
    obtain ⟨Ap,cp,rfl⟩:=hp.form
    obtain ⟨Aq,cq,rfl⟩:=hq.form
    ((repeat (first|refine Au ?_|refine Ah rfl ?_|refine Ae rfl ?_))<;>(refine GB rfl rfl ?_<;>refine Bd rfl ?_)<;>(repeat (first|refine Au ?_|refine Ah rfl ?_|refine Ae rfl ?_)))
    refine EH rfl rfl (by simp [Value.cells,Value.oneCell']) fun w5 hN5=>?_
    have hb2:=hN5.blk
    have hE5:Ext w1 w5:=hE4.trans' hN5.ext
    ((refine o_z ?_))
    repeat (first|refine Au ?_|refine Ah rfl ?_|refine Ae rfl ?_)
    ((repeat (first|refine Au ?_|refine Ah rfl ?_|refine Ae rfl ?_))<;>(refine Ax rfl ?_<;>refine At rfl ?_<;>refine AS rfl ?_<;>(first|refine Iw rfl rfl ?_|refine Ix rfl rfl ?_|refine BW rfl rfl (fun _=>?_) fun _=>?_)<;>(refine o_z ?_))<;>(repeat (first|refine Au ?_|refine Ah rfl ?_|refine Ae rfl ?_)))
    · ((repeat (first|refine Au ?_|refine Ah rfl ?_|refine Ae rfl ?_))<;>(refine Am rfl ?_<;>(refine o_z ?_))<;>(repeat (first|refine Au ?_|refine Ah rfl ?_|refine Ae rfl ?_)))
      refine ret1 rfl rfl ⟨?_,hE1.trans' hE5⟩
      rw [BI (.inr (.inr (.inl ⟨k,o,ho,by omega⟩)))]
    · exact ⟨(),⟨rfl,rfl,rfl,rfl,trivial⟩,hE5,Fj hh fun o' ho'=>by rw [ho] at ho';injection ho' with ho';subst ho';omega⟩
  rintro _ w4 ⟨hE4,hh⟩
  replace hb1:=hb1.ext hE4
  replace hE4:Ext w w4:=hE1.trans' hE4
  have hm:∀ (i:Nat) o,t.ops[i]?=some o→o.effs.length≤64:=fun i o ho=>hh i (Cx ho) o ho
  repeat (first|refine Au ?_|refine Ah rfl ?_|refine Ae rfl ?_)
  (refine Bd rfl ?_)
  refine CQ rfl rfl (taskConditions (ht0.ext hE4) (by omega) hm) ?_
  rintro v5 w5 ⟨hv5,hE5⟩
  refine CQ rfl rfl (containsFuncFacts (p:=fun f=>64 < f.length) (caps:=[]) hv5 (fun v x w' _ _ hx=>taskLarge1 hx)) ?_
  rintro v6 w6 ⟨rfl,hE6⟩
  (refine Am rfl ?_<;>(refine o_z ?_))
  repeat (first|refine Au ?_|refine Ah rfl ?_|refine Ae rfl ?_)
  refine ret1 rfl rfl ⟨?_,hE4.trans' (hE5.trans' hE6)⟩
  congr 1
  refine GT ⟨fun h=>.inr (.inr (.inr h)),fun h=>?_⟩
  rcases h with h|h|⟨i,o,ho,h⟩|h
  · omega
  · omega
  · have:=hm i o ho;omega
  · exact h
end
section
open Go Go.RowKit
attribute [local irreducible] ewp owp hwp hwq Ev Evg Fn retPost Res1
def VarsOk (t:Tsk):Prop:=∀ (i:Nat) n,t.vars[i]?=some n→1≤n∧n≤64
def CostsOk (t:Tsk):Prop:=∀ (i:Nat) o,t.ops[i]?=some o→0≤o.cost∧o.cost≤1048576
def CondsOk (t:Tsk):Prop:=∀ (i:Nat) f,(conds t)[i]?=some f→FactsOk t.vars f
def EffsOk (t:Tsk):Prop:=∀ (i:Nat) o,t.ops[i]?=some o→∀ (j:Nat) e,o.effs[j]?=some e→FactOk t.vars ⟨e.var,e.val⟩
def NamesOk (t:Tsk):Prop:=∀ (i:Nat) o,t.ops[i]?=some o→NameOk o.name
noncomputable def checkN (t:Tsk):Int :=
  if bof (Large t)=true then 5 else if bof (VarsOk t∧CostsOk t)=false then 1 else if bof (StateOk t.vars t.init∧CondsOk t∧EffsOk t)=false then 2 else if bof (NamesOk t)=false then 8 else 0
theorem taskCheck {w:World} {tv:Value} {t:Tsk} (ht:V w tv t):Fn prog 42 [tv] w fun v w'=>v=errV (checkN t)∧Ext w w':=by
  have ht0:=ht
  obtain ⟨cs,rfl,a,b,c,d,rfl,hvars,hinit,hgoal,hops⟩:=ht
  obtain ⟨Av,cv,rfl⟩:=hvars.form
  obtain ⟨Ai,ci,rfl⟩:=hinit.form
  obtain ⟨Ag,cg,rfl⟩:=hgoal.form
  obtain ⟨Ao,co,rfl⟩:=hops.form
  have hvl:=hvars.len
  have hol:=hops.len
  refine AL func42 rfl ntmps42 ?_
  repeat (first|refine Au ?_|refine Ah rfl ?_|refine Ae rfl ?_)
  refine IP rfl rfl fun w1 hN=>?_
  have hb1:=hN.blk
  have hE1:Ext w w1:=hN.ext
  (refine Am rfl ?_<;>(refine o_z ?_))
  repeat (first|refine Au ?_|refine Ah rfl ?_|refine Ae rfl ?_)
  (refine Bd rfl ?_)
  refine Hw rfl rfl (taskLarge (ht0.ext hE1)) ?_ ?_
  case refine_1 =>
    intro w2 hP hE2
    ((refine o_z ?_))
    repeat (first|refine Au ?_|refine Ah rfl ?_|refine Ae rfl ?_)
    ((repeat (first|refine Au ?_|refine Ah rfl ?_|refine Ae rfl ?_))<;>(refine Lb rfl ?_<;>refine Am rfl ?_<;>(refine o_z ?_))<;>(repeat (first|refine Au ?_|refine Ah rfl ?_|refine Ae rfl ?_)))
    refine ret1 rfl rfl ⟨?_,hE1.trans' hE2⟩
    rw [checkN,BI hP];rfl
  intro w2 hlarge hE2
  replace hb1:=hb1.ext hE2
  replace hE2:Ext w w2:=hE1.trans' hE2
  have hm:∀ (i:Nat) o,t.ops[i]?=some o→o.effs.length≤64:=fun i o ho=>Nat.le_of_not_lt fun h=>hlarge (.inr (.inr (.inl ⟨i,o,ho,h⟩)))
  have hn4:t.ops.length≤4096:=Nat.le_of_not_lt fun h=>hlarge (.inr (.inl h))
  have c1:checkN t=if bof (VarsOk t∧CostsOk t)=false then 1 else if bof (StateOk t.vars t.init∧CondsOk t∧EffsOk t)=false then 2 else if bof (NamesOk t)=false then 8 else 0:=by rw [checkN,BK hlarge];rfl
  ((refine o_z ?_))
  repeat (first|refine Au ?_|refine Ah rfl ?_|refine Ae rfl ?_)
  ((repeat (first|refine Au ?_|refine Ah rfl ?_|refine Ae rfl ?_))<;>(refine Ax rfl ?_<;>refine At rfl ?_<;>refine AS rfl ?_<;>refine Ak rfl ?_<;>(refine o_z ?_))<;>(repeat (first|refine Au ?_|refine Ah rfl ?_|refine Ae rfl ?_)))
  refine DM t.vars.length (by omega) (fun _:Unit=>[(1,.pointer (some ⟨w.heap.size,0,none⟩)),(19,.slice Av t.vars.length cv)]) (fun k _ w'=>w'=w2∧∀ i,i < k→∀ n,t.vars[i]?=some n→1≤n∧n≤64) ()
    ⟨rfl,fun i hi=>by omega⟩ ⟨rfl,rfl,rfl,rfl,trivial⟩ (fun _=>⟨rfl,rfl⟩) ⟨rfl,rfl,rfl⟩ ⟨rfl,rfl⟩ ?_ ?_
  · rintro k _ _ hk ⟨rfl,hh⟩
    obtain ⟨n,hn⟩:=BG hk
    obtain ⟨b2,o2,ce,rfl,_,_,hd1,rfl,_⟩:=(hvars.ext hE2).elem hn
    ((repeat (first|refine Au ?_|refine Ah rfl ?_|refine Ae rfl ?_))<;>(refine GB rfl rfl ?_<;>refine At rfl ?_<;>refine Am rfl ?_<;>(refine o_z ?_))<;>(repeat (first|refine Au ?_|refine Ah rfl ?_|refine Ae rfl ?_))<;>(refine Ak rfl ?_<;>(first|refine Ef rfl rfl ?_|refine Eg rfl rfl ?_|refine Dm rfl rfl (fun _=>?_) fun _=>?_)<;>refine Ak rfl ?_<;>(first|(refine An rfl rfl ?_;refine Ak rfl ?_)|refine Al rfl rfl ?_)<;>(first|(refine An rfl rfl ?_;(first|refine Iw rfl rfl ?_|refine Ix rfl rfl ?_|refine BW rfl rfl (fun _=>?_) fun _=>?_))|refine Al rfl rfl ?_)<;>(first|refine Bn rfl rfl ?_|refine Bc rfl rfl ?_)<;>(refine o_z ?_))<;>(repeat (first|refine Au ?_|refine Ah rfl ?_|refine Ae rfl ?_)))
    all_goals try (
      ((repeat (first|refine Au ?_|refine Ah rfl ?_|refine Ae rfl ?_))<;>(refine Lb rfl ?_<;>refine Am rfl ?_<;>(refine o_z ?_))<;>(repeat (first|refine Au ?_|refine Ah rfl ?_|refine Ae rfl ?_)))
      refine ret1 rfl rfl ⟨?_,hE2⟩
      rw [c1,BK (fun h=>by have:=h.1 k n hn;omega)];rfl)
    exact ⟨(),⟨rfl,rfl,rfl,rfl,trivial⟩,rfl,Fj hh fun n' hn'=>by rw [hn] at hn';injection hn' with hn';omega⟩
  rintro _ _ ⟨rfl,hdom⟩
  replace hdom:VarsOk t:=fun i n hn=>hdom i (Cx hn) n hn
  repeat (first|refine Au ?_|refine Ah rfl ?_|refine Ae rfl ?_)
  ((repeat (first|refine Au ?_|refine Ah rfl ?_|refine Ae rfl ?_))<;>(refine Ax rfl ?_<;>refine At rfl ?_<;>refine AS rfl ?_<;>refine Ak rfl ?_<;>(refine o_z ?_))<;>(repeat (first|refine Au ?_|refine Ah rfl ?_|refine Ae rfl ?_)))
  refine DM t.ops.length (by omega) (fun _:Unit=>[(1,.pointer (some ⟨w.heap.size,0,none⟩)),(34,.slice Ao t.ops.length co)]) (fun k _ w'=>Ext w w'∧Blk w' w.heap.size 31 [.slice Av t.vars.length cv,.slice Ai t.init.length ci,.slice Ag t.goal.length cg,.slice Ao t.ops.length co]∧∀ i,i < k→∀ o,t.ops[i]?=some o→0≤o.cost∧o.cost≤1048576) ()
    ⟨hE2,hb1,fun i hi=>by omega⟩ ⟨rfl,rfl,rfl,rfl,trivial⟩ (fun _=>⟨rfl,rfl⟩) ⟨rfl,rfl,rfl⟩ ⟨rfl,rfl⟩ ?_ ?_
  · rintro k _ w4 hk ⟨hE4,hb1,hh⟩
    obtain ⟨o,ho⟩:=BG hk
    obtain ⟨b2,o2,ce,rfl,_,_,hd1,p,q,rfl,hp,hq,hc,hn⟩:=(hops.ext hE4).elem ho
    obtain ⟨Ap,cp,rfl⟩:=hp.form
    obtain ⟨Aq,cq,rfl⟩:=hq.form
    ((repeat (first|refine Au ?_|refine Ah rfl ?_|refine Ae rfl ?_))<;>(refine GB rfl rfl ?_<;>refine Bd rfl ?_)<;>(repeat (first|refine Au ?_|refine Ah rfl ?_|refine Ae rfl ?_)))
    refine EH rfl rfl (by simp [Value.cells,Value.oneCell']) fun w5 hN5=>?_
    replace hb1:=hb1.ext hN5.ext
    have hb2:=hN5.blk
    have hE5:Ext w w5:=hE4.trans' hN5.ext
    ((refine o_z ?_))
    repeat (first|refine Au ?_|refine Ah rfl ?_|refine Ae rfl ?_)
    ((repeat (first|refine Au ?_|refine Ah rfl ?_|refine Ae rfl ?_))<;>(refine Ax rfl ?_<;>refine At rfl ?_<;>(first|refine Ef rfl rfl ?_|refine Eg rfl rfl ?_|refine Dm rfl rfl (fun _=>?_) fun _=>?_)<;>refine Ak rfl ?_<;>(first|(refine An rfl rfl ?_;refine Ax rfl ?_)|refine Al rfl rfl ?_)<;>(first|(refine An rfl rfl ?_;refine At rfl ?_)|refine Al rfl rfl ?_)<;>(first|(refine An rfl rfl ?_;(first|refine Iw rfl rfl ?_|refine Ix rfl rfl ?_|refine BW rfl rfl (fun _=>?_) fun _=>?_))|refine Al rfl rfl ?_)<;>(first|refine Bn rfl rfl ?_|refine Bc rfl rfl ?_)<;>(refine o_z ?_))<;>(repeat (first|refine Au ?_|refine Ah rfl ?_|refine Ae rfl ?_)))
    all_goals try (
      ((repeat (first|refine Au ?_|refine Ah rfl ?_|refine Ae rfl ?_))<;>(refine Lb rfl ?_<;>refine Am rfl ?_<;>(refine o_z ?_))<;>(repeat (first|refine Au ?_|refine Ah rfl ?_|refine Ae rfl ?_)))
      refine ret1 rfl rfl ⟨?_,hE5⟩
      rw [c1,BK (fun h=>by have:=h.2 k o ho;omega)];rfl)
    exact ⟨(),⟨rfl,rfl,rfl,rfl,trivial⟩,hE5,hb1,Fj hh fun o' ho'=>by rw [ho] at ho';injection ho' with ho';subst ho';omega⟩
  rintro _ w3 ⟨hE3,hb1,hcost⟩
  replace hcost:CostsOk t:=fun i o ho=>hcost i (Cx ho) o ho
  have c2:checkN t=if bof (StateOk t.vars t.init∧CondsOk t∧EffsOk t)=false then 2 else if bof (NamesOk t)=false then 8 else 0:=by rw [c1,BI ⟨hdom,hcost⟩];rfl
  repeat (first|refine Au ?_|refine Ah rfl ?_|refine Ae rfl ?_)
  (refine Ax rfl ?_<;>refine At rfl ?_<;>refine Ax rfl ?_<;>refine At rfl ?_)
  refine Hw rfl rfl (taskProper (hvars.ext hE3) (hinit.ext hE3)) ?_ ?_
  case refine_2 =>
    intro w4 hP hE4
    ((first|refine Dk rfl ?_|refine Dl rfl ?_|refine JN rfl ?_)<;>(refine o_z ?_))
    repeat (first|refine Au ?_|refine Ah rfl ?_|refine Ae rfl ?_)
    ((repeat (first|refine Au ?_|refine Ah rfl ?_|refine Ae rfl ?_))<;>(refine Lb rfl ?_<;>refine Am rfl ?_<;>(refine o_z ?_))<;>(repeat (first|refine Au ?_|refine Ah rfl ?_|refine Ae rfl ?_)))
    refine ret1 rfl rfl ⟨?_,hE3.trans' hE4⟩
    rw [c2,BK (fun h=>hP h.1)];rfl
  intro w4 hst hE4
  replace hb1:=hb1.ext hE4
  replace hE4:Ext w w4:=hE3.trans' hE4
  ((first|refine Dk rfl ?_|refine Dl rfl ?_|refine JN rfl ?_)<;>(refine o_z ?_))
  repeat (first|refine Au ?_|refine Ah rfl ?_|refine Ae rfl ?_)
  (refine Bd rfl ?_)
  refine CQ rfl rfl (taskConditions (ht0.ext hE4) hn4 hm) ?_
  rintro v5 w5 ⟨hv5,hE5⟩
  obtain ⟨Ac,cc,rfl⟩:=hv5.form
  have hcl:=hv5.len
  replace hb1:=hb1.ext hE5
  replace hE5:Ext w w5:=hE4.trans' hE5
  (refine AS rfl ?_<;>refine Ak rfl ?_<;>(refine o_z ?_))
  repeat (first|refine Au ?_|refine Ah rfl ?_|refine Ae rfl ?_)
  refine DM (conds t).length (by omega) (fun _:Unit=>[(1,.pointer (some ⟨w.heap.size,0,none⟩)),(58,.slice Ac (conds t).length cc)]) (fun k _ w'=>Ext w5 w'∧∀ i,i < k→∀ f,(conds t)[i]?=some f→FactsOk t.vars f) ()
    ⟨Below.refl _ _,fun i hi=>by omega⟩ ⟨rfl,rfl,rfl,rfl,trivial⟩ (fun _=>⟨rfl,rfl⟩) ⟨rfl,rfl,rfl⟩ ⟨rfl,rfl⟩ ?_ ?_
  · rintro k _ w6 hk ⟨hE6,hh⟩
    obtain ⟨f,hf⟩:=BG hk
    have hb1:=hb1.ext hE6
    obtain ⟨b2,o2,ce,rfl,_,_,hd1,v,rfl,hR⟩:=(hv5.ext hE6).elem hf
    ((repeat (first|refine Au ?_|refine Ah rfl ?_|refine Ae rfl ?_))<;>(refine GB rfl rfl ?_<;>refine At rfl ?_<;>refine Am rfl ?_<;>(refine o_z ?_))<;>(repeat (first|refine Au ?_|refine Ah rfl ?_|refine Ae rfl ?_))<;>(refine Ax rfl ?_<;>refine At rfl ?_<;>refine Ak rfl ?_)<;>(repeat (first|refine Au ?_|refine Ah rfl ?_|refine Ae rfl ?_)))
    refine Hw rfl rfl (taskFacts (hvars.ext (hE5.trans' hE6)) (Vb.of_slice hR)) ?_ ?_
    · intro w7 hP hE7
      ((first|refine Dk rfl ?_|refine Dl rfl ?_|refine JN rfl ?_)<;>(refine o_z ?_))
      repeat (first|refine Au ?_|refine Ah rfl ?_|refine Ae rfl ?_)
      exact ⟨(),⟨rfl,rfl,rfl,rfl,trivial⟩,hE6.trans' hE7,Fj hh fun f' hf'=>by rw [hf] at hf';injection hf' with hf';exact hf' ▸ hP⟩
    · intro w7 hP hE7
      ((first|refine Dk rfl ?_|refine Dl rfl ?_|refine JN rfl ?_)<;>(refine o_z ?_))
      repeat (first|refine Au ?_|refine Ah rfl ?_|refine Ae rfl ?_)
      ((repeat (first|refine Au ?_|refine Ah rfl ?_|refine Ae rfl ?_))<;>(refine Lb rfl ?_<;>refine Am rfl ?_<;>(refine o_z ?_))<;>(repeat (first|refine Au ?_|refine Ah rfl ?_|refine Ae rfl ?_)))
      refine ret1 rfl rfl ⟨?_,hE5.trans' (hE6.trans' hE7)⟩
      rw [c2,BK (fun h=>hP (h.2.1 k f hf))];rfl
  rintro _ w6 ⟨hE6,hcond⟩
  replace hcond:CondsOk t:=fun i f hf=>hcond i (Cx hf) f hf
  replace hb1:=hb1.ext hE6
  replace hE6:Ext w w6:=hE5.trans' hE6
  repeat (first|refine Au ?_|refine Ah rfl ?_|refine Ae rfl ?_)
  ((repeat (first|refine Au ?_|refine Ah rfl ?_|refine Ae rfl ?_))<;>(refine Ax rfl ?_<;>refine At rfl ?_<;>refine AS rfl ?_<;>refine Ak rfl ?_<;>(refine o_z ?_))<;>(repeat (first|refine Au ?_|refine Ah rfl ?_|refine Ae rfl ?_)))
  refine DM t.ops.length (by omega) (fun _:Unit=>[(1,.pointer (some ⟨w.heap.size,0,none⟩)),(72,.slice Ao t.ops.length co)]) (fun k _ w'=>Ext w6 w'∧∀ i,i < k→∀ o,t.ops[i]?=some o→∀ (j:Nat) e,o.effs[j]?=some e→FactOk t.vars ⟨e.var,e.val⟩) ()
    ⟨Below.refl _ _,fun i hi=>by omega⟩ ⟨rfl,rfl,rfl,rfl,trivial⟩ (fun _=>⟨rfl,rfl⟩) ⟨rfl,rfl,rfl⟩ ⟨rfl,rfl⟩ ?_ ?_
  · rintro k _ w7 hk ⟨hE7,hh⟩
    obtain ⟨o,ho⟩:=BG hk
    have hb1:=hb1.ext hE7
    obtain ⟨b2,o2,ce,rfl,_,_,hd1,p,q,rfl,hp,hq,hc,hn⟩:=(hops.ext (hE6.trans' hE7)).elem ho
    obtain ⟨Ap,cp,rfl⟩:=hp.form
    obtain ⟨Aq,cq,rfl⟩:=hq.form
    have hql:=hq.len
    ((repeat (first|refine Au ?_|refine Ah rfl ?_|refine Ae rfl ?_))<;>(refine GB rfl rfl ?_<;>refine Bd rfl ?_)<;>(repeat (first|refine Au ?_|refine Ah rfl ?_|refine Ae rfl ?_)))
    refine EH rfl rfl (by simp [Value.cells,Value.oneCell']) fun w8 hN8=>?_
    replace hb1:=hb1.ext hN8.ext
    have hb2:=hN8.blk
    have hE8:Ext w6 w8:=hE7.trans' hN8.ext
    replace hq:=hq.ext hN8.ext
    ((refine o_z ?_))
    repeat (first|refine Au ?_|refine Ah rfl ?_|refine Ae rfl ?_)
    ((repeat (first|refine Au ?_|refine Ah rfl ?_|refine Ae rfl ?_))<;>(refine Ax rfl ?_<;>refine At rfl ?_<;>refine AS rfl ?_<;>refine Ak rfl ?_<;>(refine o_z ?_))<;>(repeat (first|refine Au ?_|refine Ah rfl ?_|refine Ae rfl ?_)))
    refine DM o.effs.length (by omega) (fun _:Unit=>[(1,.pointer (some ⟨w.heap.size,0,none⟩)),(72,.slice (some ⟨b2,o2,none⟩) t.ops.length co),(73,.int .i64 (t.ops.length:Int)),(74,.int .i64 (k:Int)),(79,.slice Aq o.effs.length cq)]) (fun j _ w'=>Ext w8 w'∧∀ i,i < j→∀ e,o.effs[i]?=some e→FactOk t.vars ⟨e.var,e.val⟩) ()
      ⟨Below.refl _ _,fun i hi=>by omega⟩ ⟨rfl,rfl,rfl,rfl,rfl,rfl,rfl,trivial⟩ (fun _=>⟨rfl,rfl⟩) ⟨rfl,rfl,rfl⟩ ⟨rfl,rfl⟩ ?_ ?_
    · rintro j _ w9 hj ⟨hE9,hh9⟩
      obtain ⟨e,he⟩:=BG hj
      have hb1:=hb1.ext hE9
      obtain ⟨b3,o3,ce,rfl,_,_,hd1,cv',rfl,hcn,hr1,hr2⟩:=(hq.ext hE9).elem he
      obtain ⟨Acn,ccn,rfl⟩:=hcn.form
      ((repeat (first|refine Au ?_|refine Ah rfl ?_|refine Ae rfl ?_))<;>(refine GB rfl rfl ?_<;>refine Bd rfl ?_)<;>(repeat (first|refine Au ?_|refine Ah rfl ?_|refine Ae rfl ?_)))
      refine EH rfl rfl (by simp [Value.cells,Value.oneCell']) fun w10 hN10=>?_
      have hb3:=hN10.blk
      replace hb1:=hb1.ext hN10.ext
      have hE10:Ext w w10:=hE6.trans' (hE8.trans' (hE9.trans' hN10.ext))
      ((refine o_z ?_))
      repeat (first|refine Au ?_|refine Ah rfl ?_|refine Ae rfl ?_)
      (refine Ax rfl ?_<;>refine At rfl ?_<;>refine Ax rfl ?_<;>refine At rfl ?_<;>refine Ax rfl ?_<;>refine At rfl ?_<;>refine Cl rfl rfl ?_)
      refine Iv rfl rfl rfl (by simp [Value.cells];rfl) (by decide) rfl fun w11 hN11=>?_
      have hE11:Ext w w11:=hE10.trans' hN11.ext
      have hone:V w11 (.slice (some ⟨w10.heap.size,0,none⟩) 1 1) [(⟨e.var,e.val⟩:Fct)]:=Vb.made hN11 (.single ⟨rfl,hr1,hr2⟩) rfl hN11.blk.lt (by decide)
      refine Hw rfl rfl (taskFacts (hvars.ext hE11) hone) ?_ ?_
      · intro w12 hP hE12
        ((first|refine Dk rfl ?_|refine Dl rfl ?_|refine JN rfl ?_)<;>(refine o_z ?_))
        repeat (first|refine Au ?_|refine Ah rfl ?_|refine Ae rfl ?_)
        exact ⟨(),⟨rfl,rfl,rfl,rfl,rfl,rfl,rfl,trivial⟩,hE9.trans' (hN10.ext.trans' (hN11.ext.trans' hE12)),Fj hh9 fun e' he'=>by rw [he] at he';injection he' with he';subst he';exact Hr.1 hP⟩
      · intro w12 hP hE12
        ((first|refine Dk rfl ?_|refine Dl rfl ?_|refine JN rfl ?_)<;>(refine o_z ?_))
        repeat (first|refine Au ?_|refine Ah rfl ?_|refine Ae rfl ?_)
        ((repeat (first|refine Au ?_|refine Ah rfl ?_|refine Ae rfl ?_))<;>(refine Lb rfl ?_<;>refine Am rfl ?_<;>(refine o_z ?_))<;>(repeat (first|refine Au ?_|refine Ah rfl ?_|refine Ae rfl ?_)))
        refine ret1 rfl rfl ⟨?_,hE11.trans' hE12⟩
        rw [c2,BK (fun h=>hP (Hr.2 (h.2.2 k o ho j e he)))];rfl
    rintro _ w9 ⟨hE9,hh9⟩
    repeat (first|refine Au ?_|refine Ah rfl ?_|refine Ae rfl ?_)
    exact ⟨(),⟨rfl,rfl,rfl,rfl,trivial⟩,hE8.trans' hE9,Fj hh fun o' ho' j e he=>by rw [ho] at ho';injection ho' with ho';subst ho';exact hh9 j (Cx he) e he⟩
  rintro _ w7 ⟨hE7,heff⟩
  replace heff:EffsOk t:=fun i o ho=>heff i (Cx ho) o ho
  have c3:checkN t=if bof (NamesOk t)=false then 8 else 0:=by rw [c2,BI ⟨hst,hcond,heff⟩];rfl
  replace hb1:=hb1.ext hE7
  replace hE7:Ext w w7:=hE6.trans' hE7
  repeat (first|refine Au ?_|refine Ah rfl ?_|refine Ae rfl ?_)
  ((repeat (first|refine Au ?_|refine Ah rfl ?_|refine Ae rfl ?_))<;>(refine Ax rfl ?_<;>refine At rfl ?_<;>refine AS rfl ?_<;>refine Ak rfl ?_<;>(refine o_z ?_))<;>(repeat (first|refine Au ?_|refine Ah rfl ?_|refine Ae rfl ?_)))
  refine DM t.ops.length (by omega) (fun _:Unit=>[(1,.pointer (some ⟨w.heap.size,0,none⟩)),(99,.slice Ao t.ops.length co)]) (fun k _ w'=>Ext w w'∧∀ i,i < k→∀ o,t.ops[i]?=some o→NameOk o.name) ()
    ⟨hE7,fun i hi=>by omega⟩ ⟨rfl,rfl,rfl,rfl,trivial⟩ (fun _=>⟨rfl,rfl⟩) ⟨rfl,rfl,rfl⟩ ⟨rfl,rfl⟩ ?_ ?_
  · rintro k _ w8 hk ⟨hE8,hh⟩
    obtain ⟨o,ho⟩:=BG hk
    obtain ⟨b2,o2,ce,rfl,_,_,hd1,p,q,rfl,hp,hq,hc,hn⟩:=(hops.ext hE8).elem ho
    obtain ⟨Ap,cp,rfl⟩:=hp.form
    obtain ⟨Aq,cq,rfl⟩:=hq.form
    ((repeat (first|refine Au ?_|refine Ah rfl ?_|refine Ae rfl ?_))<;>(refine GB rfl rfl ?_<;>refine Bd rfl ?_)<;>(repeat (first|refine Au ?_|refine Ah rfl ?_|refine Ae rfl ?_)))
    refine EH rfl rfl (by simp [Value.cells,Value.oneCell']) fun w9 hN9=>?_
    have hb2:=hN9.blk
    have hE9:Ext w w9:=hE8.trans' hN9.ext
    ((refine o_z ?_))
    repeat (first|refine Au ?_|refine Ah rfl ?_|refine Ae rfl ?_)
    (refine Ax rfl ?_<;>refine At rfl ?_)
    refine Hw rfl rfl (taskNamed hn) ?_ ?_
    · intro w10 hP hE10
      ((first|refine Dk rfl ?_|refine Dl rfl ?_|refine JN rfl ?_)<;>(refine o_z ?_))
      repeat (first|refine Au ?_|refine Ah rfl ?_|refine Ae rfl ?_)
      exact ⟨(),⟨rfl,rfl,rfl,rfl,trivial⟩,hE9.trans' hE10,Fj hh fun o' ho'=>by rw [ho] at ho';injection ho' with ho';exact ho' ▸ hP⟩
    · intro w10 hP hE10
      ((first|refine Dk rfl ?_|refine Dl rfl ?_|refine JN rfl ?_)<;>(refine o_z ?_))
      repeat (first|refine Au ?_|refine Ah rfl ?_|refine Ae rfl ?_)
      ((repeat (first|refine Au ?_|refine Ah rfl ?_|refine Ae rfl ?_))<;>(refine Lb rfl ?_<;>refine Am rfl ?_<;>(refine o_z ?_))<;>(repeat (first|refine Au ?_|refine Ah rfl ?_|refine Ae rfl ?_)))
      refine ret1 rfl rfl ⟨?_,hE9.trans' hE10⟩
      rw [c3,BK (fun h=>hP (h k o ho))];rfl
  rintro _ w8 ⟨hE8,hnames⟩
  repeat (first|refine Au ?_|refine Ah rfl ?_|refine Ae rfl ?_)
  ((repeat (first|refine Au ?_|refine Ah rfl ?_|refine Ae rfl ?_))<;>(refine Am rfl ?_<;>(refine o_z ?_))<;>(repeat (first|refine Au ?_|refine Ah rfl ?_|refine Ae rfl ?_)))
  refine ret1 rfl rfl ⟨?_,hE8⟩
  rw [c3,BI (show NamesOk t from fun i o ho=>hnames i (Cx ho) o ho)];rfl
end
section
theorem HV {p:Prop}:bof p=true↔p:=⟨fun h=>Classical.byContradiction fun hn=>(by rw [BK hn] at h;exact Bool.noConfusion h),BI⟩
theorem Fk {p:Prop}:bof p=false↔¬ p:=by
  rw [← Bool.not_eq_true,HV]
theorem LL {vars:List Int} {f:List Fct} (h:FactsOk vars f):∀ (j i:Nat) (x y:Fct),i < j→f[i]?=some x→f[j]?=some y→x.var < y.var
  | 0,i,_,_,hij,_,_=>by omega
  | j + 1,i,x,y,hij,hx,hy=>by
    by_cases he:i=j
    · subst he;exact h.2 i x y hx hy
    · obtain ⟨z,hz⟩:=BG (l:=f) (k:=j) (by have:=Cx hy;omega)
      have h1:=LL h j i x z (by omega) hx hz
      have h2:=h.2 j z y hz hy
      omega
theorem LM {vars:List Int} {f:List Fct} (h:FactsOk vars f):∀ (i:Nat) (x:Fct),f[i]?=some x→(i:Int)≤x.var
  | 0,x,hx=>(h.1 0 x hx).1
  | i + 1,x,hx=>by
    obtain ⟨z,hz⟩:=BG (l:=f) (k:=i) (by have:=Cx hx;omega)
    have h1:=LM h i z hz
    have h2:=h.2 i z x hz hx
    omega
theorem EP {vars:List Int} {f:List Fct} (h:FactsOk vars f):f.length≤vars.length:=by
  rcases Nat.eq_zero_or_pos f.length with h0|h0
  · omega
  · obtain ⟨x,hx⟩:=BG (l:=f) (k:=f.length - 1) (by omega)
    have h1:=LM h _ x hx
    obtain ⟨h2,h3,y,hy,_⟩:=h.1 _ x hx
    have:=Cx hy
    omega
theorem DO {t:Tsk} {f:List Fct}:f∈conds t↔f=t.goal∨∃ (i:Nat) (o:Opr),t.ops[i]?=some o∧(f=o.pre∨∃ (j:Nat) (e:Eff),o.effs[j]?=some e∧f=e.cond):=by
  unfold conds opConds
  rw [List.mem_cons,List.mem_flatMap]
  constructor
  · rintro (h|⟨o,ho,hf⟩)
    · exact .inl h
    · obtain ⟨i,hi⟩:=List.getElem?_of_mem ho
      refine .inr ⟨i,o,hi,?_⟩
      rcases List.mem_cons.1 hf with h|h
      · exact .inl h
      · obtain ⟨e,he,rfl⟩:=List.mem_map.1 h
        obtain ⟨j,hj⟩:=List.getElem?_of_mem he
        exact .inr ⟨j,e,hj,rfl⟩
  · rintro (h|⟨i,o,ho,h⟩)
    · exact .inl h
    · refine .inr ⟨o,List.mem_of_getElem? ho,?_⟩
      rcases h with rfl|⟨j,e,he,rfl⟩
      · exact List.mem_cons_self
      · exact List.mem_cons_of_mem _ (List.mem_map.2 ⟨e,List.mem_of_getElem? he,rfl⟩)
theorem Qc {t:Tsk}:checkN t=0↔TaskOk t:=by
  unfold checkN
  constructor
  · intro h
    by_cases h1:Large t
    · rw [if_pos (HV.2 h1)] at h;cases h
    rw [if_neg (fun hh=>h1 (HV.1 hh))] at h
    by_cases h2:VarsOk t∧CostsOk t
    case neg=>rw [if_pos (Fk.2 h2)] at h;cases h
    rw [if_neg (fun hh=>Fk.1 hh h2)] at h
    by_cases h3:StateOk t.vars t.init∧CondsOk t∧EffsOk t
    case neg=>rw [if_pos (Fk.2 h3)] at h;cases h
    rw [if_neg (fun hh=>Fk.1 hh h3)] at h
    by_cases h4:NamesOk t
    case neg=>rw [if_pos (Fk.2 h4)] at h;cases h
    have hc:∀ f∈conds t,FactsOk t.vars f:=fun f hf=>by
      obtain ⟨i,hi⟩:=List.getElem?_of_mem hf
      exact h3.2.1 i f hi
    have hl:t.vars.length≤64∧t.ops.length≤4096∧(∀ (i:Nat) (o:Opr),t.ops[i]?=some o→o.effs.length≤64):=by
      unfold Large at h1
      refine ⟨Nat.le_of_not_lt fun h=>h1 (.inl h),Nat.le_of_not_lt fun h=>h1 (.inr (.inl h)),fun i o ho=>Nat.le_of_not_lt fun h=>h1 (.inr (.inr (.inl ⟨i,o,ho,h⟩)))⟩
    exact ⟨hl.1,hl.2.1,h2.1,h3.1,hc _ (DO.2 (.inl rfl)),fun i o ho=>⟨(h2.2 i o ho).1,(h2.2 i o ho).2,hl.2.2 i o ho,h4 i o ho,hc _ (DO.2 (.inr ⟨i,o,ho,.inl rfl⟩)),fun j e he=>⟨hc _ (DO.2 (.inr ⟨i,o,ho,.inr ⟨j,e,he,rfl⟩⟩)),h3.2.2 i o ho j e he⟩⟩⟩
  · rintro ⟨h1,h2,h3,h4,h5,h6⟩
    have hc:∀ f∈conds t,FactsOk t.vars f:=fun f hf=>by
      rcases DO.1 hf with rfl|⟨i,o,ho,rfl|⟨j,e,he,rfl⟩⟩
      · exact h5
      · exact (h6 i o ho).2.2.2.2.1
      · exact ((h6 i o ho).2.2.2.2.2 j e he).1
    have hL:¬ Large t:=by
      rintro (h|h|⟨i,o,ho,h⟩|⟨f,hf,h⟩)
      · omega
      · omega
      · have:=(h6 i o ho).2.2.1;omega
      · have:=EP (hc f hf);omega
    have hV:VarsOk t∧CostsOk t:=⟨h3,fun i o ho=>⟨(h6 i o ho).1,(h6 i o ho).2.1⟩⟩
    have hS:StateOk t.vars t.init∧CondsOk t∧EffsOk t:=⟨h4,fun i f hf=>hc f (List.mem_of_getElem? hf),fun i o ho j e he=>((h6 i o ho).2.2.2.2.2 j e he).2⟩
    have hN:NamesOk t:=fun i o ho=>(h6 i o ho).2.2.2.1
    rw [if_neg (fun hh=>hL (HV.1 hh)),if_neg (fun hh=>Fk.1 hh hV),if_neg (fun hh=>Fk.1 hh hS),if_neg (fun hh=>Fk.1 hh hN)]
end
section
open Go Go.RowKit
attribute [local irreducible] ewp owp hwp hwq Ev Evg Fn retPost Res1
section
variable {w : World} {A : Nat → Prop} (hA : ∀ k, A k → k < w.heap.size) {v0 v1 : Value}
include hA
omit hA in
def EX (f:List Fct) (s:List Int):Option Bool:=some (holdsB f s)
theorem Id {x0:List Fct} (h0:Vb w A v0 x0) {x1:List Int} (h1:Vb w A v1 x1) {r:Bool} (hm:EX x0 x1=some r):Fn prog 73 [v0,v1] w fun v w'=>Ext w w'∧Vb w' (upA A w w') v r:=by
  obtain rfl:=sm hm
  refine (taskHolds (h0.mono hA) (h1.mono hA)).mono fun v w' h=>⟨h.2,?_⟩
  rw [h.1,Na];exact vBool
omit hA in
noncomputable def Ej (x:List Int) (y:List Int):Option Bool:=some (bof (x=y))
theorem Hs {x0:List Int} (h0:Vb w A v0 x0) {x1:List Int} (h1:Vb w A v1 x1) {r:Bool} (hm:Ej x0 x1=some r):Fn prog 24 [v0,v1] w fun v w'=>Ext w w'∧Vb w' (upA A w w') v r:=by
  obtain rfl:=sm hm
  refine (baseInts (h0.mono hA) (h1.mono hA)).mono fun v w' h=>⟨h.2,?_⟩
  rw [h.1];exact vBool
omit hA in
noncomputable def FW (x:List Int) (y:List Int):Option Bool:=some (bof (StateOk x y))
theorem JT {x0:List Int} (h0:Vb w A v0 x0) {x1:List Int} (h1:Vb w A v1 x1) {r:Bool} (hm:FW x0 x1=some r):Fn prog 44 [v0,v1] w fun v w'=>Ext w w'∧Vb w' (upA A w w') v r:=by
  obtain rfl:=sm hm
  refine (baseState (h0.mono hA) (h1.mono hA)).mono fun v w' h=>⟨h.2,?_⟩
  rw [h.1];exact vBool
omit hA in
noncomputable def Dt (x:List Int) (y:List Fct):Option Bool:=some (bof (FactsOk x y))
theorem Fy {x0:List Int} (h0:Vb w A v0 x0) {x1:List Fct} (h1:Vb w A v1 x1) {r:Bool} (hm:Dt x0 x1=some r):Fn prog 45 [v0,v1] w fun v w'=>Ext w w'∧Vb w' (upA A w w') v r:=by
  obtain rfl:=sm hm
  refine (baseProper (h0.mono hA) (h1.mono hA)).mono fun v w' h=>⟨h.2,?_⟩
  rw [h.1];exact vBool
omit hA in
noncomputable def Fz (x:List Int) (y:List Int):Option Bool:=some (bof (StateOk x y))
theorem MO {x0:List Int} (h0:Vb w A v0 x0) {x1:List Int} (h1:Vb w A v1 x1) {r:Bool} (hm:Fz x0 x1=some r):Fn prog 62 [v0,v1] w fun v w'=>Ext w w'∧Vb w' (upA A w w') v r:=by
  obtain rfl:=sm hm
  refine (taskProper (h0.mono hA) (h1.mono hA)).mono fun v w' h=>⟨h.2,?_⟩
  rw [h.1];exact vBool
omit hA in
noncomputable def FX (x:List Int) (y:List Fct):Option Bool:=some (bof (FactsOk x y))
theorem Ny {x0:List Int} (h0:Vb w A v0 x0) {x1:List Fct} (h1:Vb w A v1 x1) {r:Bool} (hm:FX x0 x1=some r):Fn prog 64 [v0,v1] w fun v w'=>Ext w w'∧Vb w' (upA A w w') v r:=by
  obtain rfl:=sm hm
  refine (taskFacts (h0.mono hA) (h1.mono hA)).mono fun v w' h=>⟨h.2,?_⟩
  rw [h.1];exact vBool
end
noncomputable def FY (t:Tsk):Option Err:=some ⟨checkN t⟩
theorem OU (t:Tsk):inI64 (checkN t):=by unfold checkN;(repeat' split)<;>decide
theorem Nz {w:World} {A:Nat→Prop} (hA:∀ k,A k→k < w.heap.size) {v0:Value} {x0:Tsk} (h0:Vb w A v0 x0) {r:Err} (hm:FY x0=some r):Fn prog 42 [v0] w fun v w'=>Ext w w'∧Vb w' (upA A w w') v r:=by
  obtain rfl:=sm hm
  refine (taskCheck (h0.mono hA)).mono fun v w' h=>⟨h.2,?_⟩
  rw [h.1]
  exact vErr (h:=(OU _))
def HM (x:Err):Option Int:=some x.n
theorem LN {w:World} {A:Nat→Prop} (hA:∀ k,A k→k < w.heap.size) {x0:Err} (r0:inI64 x0.n) {r:Int} (hm:HM x0=some r):Fn prog 15 [errV x0.n] w fun v w'=>Ext w w'∧Vb w' (upA A w w') v r:=by
  obtain rfl:=sm hm
  refine AL func15 rfl ntmps15 ?_
  by_cases h:x0.n=0
  · rw [h,JS]
    ((repeat (first|refine Au ?_|refine Ah rfl ?_|refine Ae rfl ?_))<;>(refine Am rfl ?_<;>(refine o_z ?_))<;>(repeat (first|refine Au ?_|refine Ah rfl ?_|refine Ae rfl ?_))<;>(refine Ak rfl ?_<;>(first|refine Rz rfl rfl ?_|refine RB rfl rfl ?_)<;>(refine o_z ?_))<;>(repeat (first|refine Au ?_|refine Ah rfl ?_|refine Ae rfl ?_))<;>(refine Am rfl ?_<;>(refine o_z ?_))<;>(repeat (first|refine Au ?_|refine Ah rfl ?_|refine Ae rfl ?_)))
    exact ret1 rfl rfl ⟨Below.refl _ _,vInt (by decide)⟩
  · rw [Ji h]
    have h2:-9223372036854775808≤x0.n∧x0.n≤9223372036854775807:=r0
    ((repeat (first|refine Au ?_|refine Ah rfl ?_|refine Ae rfl ?_))<;>(refine Am rfl ?_<;>(refine o_z ?_))<;>(repeat (first|refine Au ?_|refine Ah rfl ?_|refine Ae rfl ?_))<;>(refine Ak rfl ?_<;>(first|refine Rz rfl rfl ?_|refine RB rfl rfl ?_)<;>(refine o_z ?_))<;>(repeat (first|refine Au ?_|refine Ah rfl ?_|refine Ae rfl ?_))<;>(refine Ak rfl ?_<;>refine Sl rfl rfl ?_<;>refine Ak rfl ?_<;>refine DU rfl rfl ?_<;>refine DU rfl rfl ?_<;>refine Am rfl ?_<;>refine Am rfl ?_<;>(refine o_z ?_))<;>(repeat (first|refine Au ?_|refine Ah rfl ?_|refine Ae rfl ?_))<;>(refine Ak rfl ?_<;>(refine o_z ?_))<;>(repeat (first|refine Au ?_|refine Ah rfl ?_|refine Ae rfl ?_))<;>(refine Ak rfl ?_<;>refine Am rfl ?_<;>(refine o_z ?_))<;>(repeat (first|refine Au ?_|refine Ah rfl ?_|refine Ae rfl ?_)))
    exact ret1 rfl rfl ⟨Below.refl _ _,vInt r0⟩
def Ct (xs:List Int):Option (List Int):=if xs.length * 8≤140737488355328∧xs.length≤9223372036854775807 then some xs else none
theorem Gj {w:World} {A:Nat→Prop} (hA:∀ k,A k→k < w.heap.size) {v0:Value} {x0:List Int} (h0:Vb w A v0 x0) {r:List Int} (hm:Ct x0=some r) :
    Fn prog 79 [v0] w fun v w'=>Ext w w'∧RowR w w' (upA A w w') 3 v r:=by
  obtain ⟨⟨hl,a0⟩,rfl⟩:=CL hm
  obtain ⟨O,hB,b0⟩:=enter hA
  replace h0:=h0.mono b0
  obtain ⟨Ad,c,rfl⟩:=h0.form
  refine AL func79 rfl ntmps79 ?_
  cases Ad with
  | none =>
    have hx:x0=[]:=by
      cases x0 with
      | nil=>rfl
      | cons x xs=>obtain ⟨_,_,_,h,_⟩:=h0.elem (k:=0) (x:=x) rfl;cases h
    subst hx
    ((repeat (first|refine Au ?_|refine Ah rfl ?_|refine Ae rfl ?_))<;>(refine Am rfl ?_<;>(refine o_z ?_))<;>(repeat (first|refine Au ?_|refine Ah rfl ?_|refine Ae rfl ?_))<;>(refine Ak rfl ?_<;>refine OJ rfl rfl ?_<;>(refine o_z ?_))<;>(repeat (first|refine Au ?_|refine Ah rfl ?_|refine Ae rfl ?_))<;>(refine Am rfl ?_<;>(refine o_z ?_))<;>(repeat (first|refine Au ?_|refine Ah rfl ?_|refine Ae rfl ?_)))
    exact ret1 rfl rfl ⟨Below.refl _ _,RowR.nil⟩
  | some ad =>
    ((repeat (first|refine Au ?_|refine Ah rfl ?_|refine Ae rfl ?_))<;>(refine Am rfl ?_<;>(refine o_z ?_))<;>(repeat (first|refine Au ?_|refine Ah rfl ?_|refine Ae rfl ?_))<;>(refine Ak rfl ?_<;>refine OJ rfl rfl ?_<;>(refine o_z ?_))<;>(repeat (first|refine Au ?_|refine Ah rfl ?_|refine Ae rfl ?_)))
    refine AQ 2 O (xs:=([]:List Int)) rfl rfl rfl trivial fun g w1 O1 S1 h1=>?_
    replace hB:=hB.st S1 (fun h=>h) (fun h=>h)
    replace h0:=h0.st S1 (fun h=>h)
    (refine Ak rfl ?_)
    refine AZ rfl h1 h0.rd rfl rfl (by simpa using hl) (by simpa using a0) fun A2 c2 w2 O2 S2 h2=>?_
    replace hB:=hB.st S2 (by decide) (by decide)
    rw [List.nil_append] at h2 ⊢
    (refine Am rfl ?_<;>(refine o_z ?_))
    repeat (first|refine Au ?_|refine Ah rfl ?_|refine Ae rfl ?_)
    exact ret1 rfl rfl ⟨hB.ext,h2.out hB (by decide)⟩
end
section
open Go Go.RowKit
attribute [local irreducible] ewp owp hwp hwq Ev Evg Fn retPost Res1
attribute [local irreducible] hwx loudX
def BD (xs:List Fct):Option (List Fct):=if xs.length * 16≤140737488355328∧xs.length≤9223372036854775807 then some xs else none
theorem Ek {w:World} {A:Nat→Prop} (hA:∀ k,A k→k < w.heap.size) {v0:Value} {x0:List Fct} (h0:Vb w A v0 x0) {r:List Fct} (hm:BD x0=some r) :
    Fn prog 36 [v0] w fun v w'=>Ext w w'∧RowR w w' (upA A w w') 78 v r:=by
  obtain ⟨⟨hl,a0⟩,rfl⟩:=CL hm
  obtain ⟨O,hB,b0⟩:=enter hA
  replace h0:=h0.mono b0
  obtain ⟨Ad,c,rfl⟩:=h0.form
  refine AL func36 rfl ntmps36 ?_
  cases Ad with
  | none =>
    have hx:x0=[]:=by
      cases x0 with
      | nil=>rfl
      | cons x xs=>obtain ⟨_,_,_,h,_⟩:=h0.elem (k:=0) (x:=x) rfl;cases h
    subst hx
    ((repeat (first|refine Au ?_|refine Ah rfl ?_|refine Ae rfl ?_))<;>(refine Am rfl ?_<;>(refine o_z ?_))<;>(repeat (first|refine Au ?_|refine Ah rfl ?_|refine Ae rfl ?_))<;>(refine Ak rfl ?_<;>refine OJ rfl rfl ?_<;>(refine o_z ?_))<;>(repeat (first|refine Au ?_|refine Ah rfl ?_|refine Ae rfl ?_))<;>(refine Am rfl ?_<;>(refine o_z ?_))<;>(repeat (first|refine Au ?_|refine Ah rfl ?_|refine Ae rfl ?_)))
    exact ret1 rfl rfl ⟨Below.refl _ _,RowR.nil⟩
  | some ad =>
    ((repeat (first|refine Au ?_|refine Ah rfl ?_|refine Ae rfl ?_))<;>(refine Am rfl ?_<;>(refine o_z ?_))<;>(repeat (first|refine Au ?_|refine Ah rfl ?_|refine Ae rfl ?_))<;>(refine Ak rfl ?_<;>refine OJ rfl rfl ?_<;>(refine o_z ?_))<;>(repeat (first|refine Au ?_|refine Ah rfl ?_|refine Ae rfl ?_)))
    refine AQ 2 O (xs:=([]:List Fct)) rfl rfl rfl trivial fun g w1 O1 S1 h1=>?_
    replace hB:=hB.st S1 (fun h=>h) (fun h=>h)
    replace h0:=h0.st S1 (fun h=>h)
    (refine Ak rfl ?_)
    refine AZ rfl h1 h0.rd rfl rfl (by simpa using hl) (by simpa using a0) fun A2 c2 w2 O2 S2 h2=>?_
    replace hB:=hB.st S2 (by decide) (by decide)
    rw [List.nil_append] at h2 ⊢
    (refine Am rfl ?_<;>(refine o_z ?_))
    repeat (first|refine Au ?_|refine Ah rfl ?_|refine Ae rfl ?_)
    exact ret1 rfl rfl ⟨hB.ext,h2.out hB (by decide)⟩
end
end Go.Proofs.YtjohlgjklmagnaaGreatDoor

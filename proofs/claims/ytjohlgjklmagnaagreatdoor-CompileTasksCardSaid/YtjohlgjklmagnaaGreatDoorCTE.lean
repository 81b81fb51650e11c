/- Own text: what the proof of compileTasks_holds uses, part 5: rules, models and their proofs, plain laws. -/
import Derived.Test.YtjohlgjklmagnaaGreatDoorCTD
set_option linter.unusedVariables false
set_option linter.unusedSimpArgs false
namespace Go.Proofs.YtjohlgjklmagnaaGreatDoor
open Go Go.RowKit Go.Proofs.Tryz
section
open Go Go.RowKit Go.Shelf Go.Proofs
attribute [local go_sem] Oper.semAt_some
def aggU (x:Lch):Value:=.agg #[.int .i64 x.tm,.int .i64 x.job]
set_option maxRecDepth 100000 in
set_option maxHeartbeats 2000000 in
theorem OZ (F:Fence) (n:Nat) (h145:F.fn 145) (hro:F.round=none) (hn:1≤n) (l Bs n₀ b off cap:Nat) (zs:List Lch) (hreach:zs.length * 16≤140737488351232) (hb:b < n₀) (J Jx:List Lch→World→Prop)
    (hY:∀ pre x W,J pre W→pre.length < zs.length→YieldAt F (n - 1) prog l #[aggU x] W fun e W' =>
      (e=.returned (.bool true)∧J (pre ++ [x]) W'∧Below n₀ W W')∨(e=.returned (.bool false)∧Jx (pre ++ [x]) W'))
    (W:World) (hJ:AbidesFrom W.heap.size J) (hn0:n₀≤W.heap.size) (hBs:W.cell? ⟨Bs,0,none⟩=some (.slice (some ⟨b,off,none⟩) zs.length cap)) (hc:∀ j x,zs[j]?=some x→W.cell? ⟨b,off + j * 2,none⟩=some (.int .i64 x.tm)∧W.cell? ⟨b,off + j * 2 + 1,none⟩=some (.int .i64 x.job)) (h0:J [] W) :
    CallsIn F n prog 145 #[.func (.yield l) #[] #[],.pointer (some ⟨Bs,0,none⟩)] W fun e W'=>(∃ v,e=.returned v) ∧
      (J zs W'∨(∃ pre,pre <+: zs∧Jx pre W')):=by
  refine callsIn_of_wp func145 rfl h145 ?_ hro
  simp only [ntmps145,List.size_toArray,List.length_cons,List.length_nil,Nat.reduceAdd,Nat.reduceSub,Array.replicate_succ,Array.replicate_zero,List.push_toArray,List.append_toArray,List.nil_append,List.cons_append]
  gi_wp2
  gi_loopw [7] (fun i wr=>∃ k:Nat,k≤zs.length∧i=.int .i64 k∧J (zs.take k) wr∧Below n₀ W wr∧W.heap.size≤wr.heap.size)
    (fun i _=>zs.length - (intOf i).toNat)
  case atStart=>exact ⟨0,Nat.zero_le _,rfl,by simpa using h0,Below.refl _ _,Nat.le_refl _⟩
  case round =>
    obtain ⟨k,hk,rfl,hJs,hnx,hsz⟩:=hrel
    by_cases hlt:k < zs.length
    · have hx:zs[k]?=some zs[k]:=List.getElem?_eq_getElem hlt
      have hcx:=(hnx.cell (p:=⟨b,off + k * 2,none⟩) hb).trans (hc k _ hx).1
      have hcy:=(hnx.cell (p:=⟨b,off + k * 2 + 1,none⟩) hb).trans (hc k _ hx).2
      have hJ2:=hJ _ wr (wr.alloc (.cells #[.int .i64 zs[k].tm,.int .i64 zs[k].job] 52)) none hJs (World.grownBy_alloc wr _ none) (fun r e=>by cases e)
      obtain ⟨fn,tmps,assign,body,hy,hR⟩:=hY _ zs[k] _ hJ2 (by simp;omega)
      dsimp only [aggU] at hy
      gi_wp2
      refine hR.mono ?_
      have htk:zs.take k ++ [zs[k]]=zs.take (k + 1):=by rw [List.take_add_one,hx];rfl
      rintro e W3 (⟨rfl,hJ3,hk3⟩|⟨rfl,hJx3⟩)
      · gi_wp2
        go_roundw
        case rel=>exact ⟨k + 1,by omega,by simp,by rw [← htk];exact hJ3,(hnx.alloc (Nat.le_trans hn0 hsz) _).trans hk3,by have:=hk3.size;simp at this;omega⟩
        case measure=>simp [intOf];omega
      · gi_wp2
        refine bodyPost_ret (results_none rfl _ _ _) rfl ?_
        exact ⟨⟨_,rfl⟩,.inr ⟨_,by rw [htk];exact List.take_prefix _ _,hJx3⟩⟩
    · obtain rfl:k=zs.length:=by omega
      gi_wp2
      go_end0
      exact ⟨⟨_,rfl⟩,.inl (by simpa using hJs)⟩
theorem Oc (F:Fence) (n:Nat) (h145:F.fn 145) (hro:F.round=none) (l Bs:Nat) (J:List Lch→World→Prop) (W:World) {A:Option Addr} {c:Nat} (hBs:W.cell? ⟨Bs,0,none⟩=some (.slice A 0 c)) (h0:J [] W) :
    CallsIn F n prog 145 #[.func (.yield l) #[] #[],.pointer (some ⟨Bs,0,none⟩)] W fun e W'=>(∃ v,e=.returned v)∧J [] W':=by
  refine callsIn_of_wp func145 rfl h145 ?_ hro
  simp only [ntmps145,List.size_toArray,List.length_cons,List.length_nil,Nat.reduceAdd,Nat.reduceSub,Array.replicate_succ,Array.replicate_zero,List.push_toArray,List.append_toArray,List.nil_append,List.cons_append]
  gi_wp2
  gi_loopw [7] (fun i wr=>i=.int .i64 0∧J [] wr) (fun _ _=>0)
  case atStart=>exact ⟨rfl,h0⟩
  case round =>
    obtain ⟨rfl,hJs⟩:=hrel
    gi_wp2
    go_end0
    exact ⟨⟨_,rfl⟩,hJs⟩
def LchAt (n₀:Nat) (W:World) (sv:Value) (zs:List Lch):Prop :=
  ((∃ A c,sv=.slice A 0 c)∧zs=[])∨∃ b off cap,sv=.slice (some ⟨b,off,none⟩) zs.length cap∧b < n₀∧∀ j x,zs[j]?=some x→W.cell? ⟨b,off + j * 2,none⟩=some (.int .i64 x.tm)∧W.cell? ⟨b,off + j * 2 + 1,none⟩=some (.int .i64 x.job)
theorem LchAt.below {n₀:Nat} {A B:World} (h:Below n₀ A B) {sv:Value} {zs:List Lch}:LchAt n₀ A sv zs→LchAt n₀ B sv zs
  | .inl e=>.inl e
  | .inr ⟨b,off,cap,e,hb,hc⟩=>.inr ⟨b,off,cap,e,hb,fun j x hj=>⟨(h.cell (p:=⟨b,off + j * 2,none⟩) hb).trans (hc j x hj).1,(h.cell (p:=⟨b,off + j * 2 + 1,none⟩) hb).trans (hc j x hj).2⟩⟩
theorem NG (F:Fence) (n:Nat) (h145:F.fn 145) (hro:F.round=none) (hn:1≤n) (Bs n₀:Nat) (sv:Value) (zs:List Lch) (hreach:zs.length * 16≤140737488351232) (w:World) (hBs:Bs < w.heap.size) (hn₀:n₀≤w.heap.size)
    (hc:w.cell? ⟨Bs,0,none⟩=some sv) (hI:LchAt n₀ w sv zs) :
    SeqStopsK F n prog 145 #[.pointer (some ⟨Bs,0,none⟩)] (fun x:Lch=>#[aggU x]) (Below n₀) (fun ys=>ys=zs) (fun pre=>pre <+: zs) zs.length w:=fun l J Jx W hW hJ _ hY h0=>by
  have hc':=(hW.cell (p:=⟨Bs,0,none⟩) hBs).trans hc
  rcases hI.below (hW.mono hn₀) with ⟨⟨A,c,rfl⟩,rfl⟩|⟨b,off,cap,rfl,hb,hcs⟩
  · exact (Oc F n h145 hro l Bs J W hc' h0).mono fun e W' ⟨he,hj⟩=>⟨he,.inl ⟨_,rfl,hj⟩⟩
  · refine (OZ F n h145 hro hn l Bs n₀ b off cap zs hreach hb J Jx hY W hJ (Nat.le_trans hn₀ hW.size) hc' hcs h0).mono ?_
    rintro e W' ⟨he,hj|⟨pre,hp,hj⟩⟩
    · exact ⟨he,.inl ⟨_,rfl,hj⟩⟩
    · exact ⟨he,.inr ⟨_,hp,hj⟩⟩
def Two (W:World) (B:Nat) (x:Lch):Prop:=W.heap[B]?=some (.cells #[.int .i64 x.tm,.int .i64 x.job] 52 (0,0))
theorem Two.lt {W:World} {B:Nat} {x:Lch} (h:Two W B x):B < W.heap.size:=(Array.getElem?_eq_some_iff.1 h).1
theorem Ra (B:Nat) (x:Lch) {X Y:World} {row:Option Nat} (h:Two X B x) (hg:X.grownBy Y row) (hrow:∀ r,row=some r→∃ o:Obj,X.heap[r]?=some o∧o.isCells=false):Two Y B x :=
  (hg.block B h.lt fun e=>by obtain ⟨o,ho,hc⟩:=hrow B e.symm;rw [show X.heap[B]?=_ from h] at ho;cases ho;cases hc).trans h
theorem Rb (w:World) (x:Lch):∀ j u,(encU x)[j]?=some u→(w.alloc (.cells #[.int .i64 x.tm,.int .i64 x.job] 52)).cell? ((⟨w.heap.size,0,none⟩:Addr).add j)=some u:=by
  intro j u hj
  have hb:(w.alloc (.cells #[.int .i64 x.tm,.int .i64 x.job] 52)).heap[w.heap.size]?=some (.cells #[.int .i64 x.tm,.int .i64 x.job] 52 (0,0)):=World.alloc_heap_new w _
  rw [HY,Nat.zero_add]
  match j,hj with
  | 0,hj=>simp only [World.cell?,hb];simpa [encU] using hj
  | 1,hj=>simp only [World.cell?,hb];simpa [encU] using hj
  | j + 2,hj=>simp [encU] at hj
set_option maxRecDepth 100000 in
set_option maxHeartbeats 4000000 in
theorem appendSeq (zs:List Lch) (Bs:Nat) (sv:Value) (hreach:zs.length * 16≤140737488351232) (w:World) (hBs:Bs < w.heap.size) (hc:w.cell? ⟨Bs,0,none⟩=some sv) (hI:LchAt w.heap.size w sv zs) :
    Calls prog 175 #[.slice none 0 0,.func (.func 145) #[] #[.pointer (some ⟨Bs,0,none⟩)]] w fun e w' =>
      ∃ v,e=.returned v∧w'.ownsRow w.heap.size 52 2 v zs.length (zs.flatMap encU)∧Below w.heap.size w w':=by
  refine (callsIn_wide (n:=6)).1 ?_
  have h1:1≤6:=by omega
  refine callsIn_of_wp_marks func175 rfl trivial ?_ rfl
  simp only [ntmps175,List.size_toArray,List.length_cons,List.length_nil,Nat.reduceAdd,Nat.reduceSub,Array.replicate_succ,Array.replicate_zero,List.push_toArray,List.append_toArray,List.nil_append,List.cons_append]
  gi_wp2
  have bS:=Boxed.new w 50 (.slice none 0 0)
  have hB0:Below w.heap.size w (w.alloc (.cells #[.slice none 0 0] 50)):=(Below.refl _ w).alloc (Nat.le_refl _) _
  have hsz:(w.alloc (.cells #[.slice none 0 0] 50)).heap.size=w.heap.size + 1:=by simp
  have hc0:(w.alloc (.cells #[.slice none 0 0] 50)).cell? ⟨Bs,0,none⟩=some sv:=(hB0.cell (p:=⟨Bs,0,none⟩) hBs).trans hc
  obtain ⟨W0,hW0⟩:∃ W0,w.alloc (.cells #[.slice none 0 0] 50)=W0:=⟨_,rfl⟩
  rw [hW0] at bS hB0 hsz hc0 ⊢
  clear hW0
  refine wpIn_rangeFunc_ownH rfl h1 (gf:=145) (lb:=#[.pointer (some ⟨Bs,0,none⟩)]) rfl trivial (enters_of func145 (by kernel_rfl) rfl)
    (NG Fence.wide 5 trivial rfl (by omega) Bs w.heap.size sv zs hreach W0 (by omega) (by omega) hc0 (hI.below hB0)) belowK_t (belowK_b (by omega)) (Below.refl _ _) (fun _=>rfl)
    (fun pre W=>(∃ v,Boxed W w.heap.size 50 v∧W.ownsRow w.heap.size 52 2 v pre.length (pre.flatMap encU)∧True)∧Below w.heap.size w W)
    (fun _ _ _=>False)
    (OwnFrom.and (Own.from (holdsRow_own w.heap.size w.heap.size 50 52 2 (fun pre:List Lch=>pre.length) (fun pre=>pre.flatMap encU) (fun _ _=>True)) _) (ownFrom_below (Nat.le_refl _) (by omega)))
    (fun _ _ _ _ _ hs _ _=>hs)
    ⟨⟨_,bS,World.ownsRow_nil _ _ _ _,trivial⟩,hB0⟩
    (fun x a' W=>∃ Bx,w.heap.size < Bx∧Two W Bx x∧a'={ tmps:=#[.slice none 0 0,.func (.func 145) #[] #[.pointer (some ⟨Bs,0,none⟩)],.pointer (some ⟨w.heap.size,0,none⟩),undef,.slice none 0 0,.pointer (some ⟨Bx,0,none⟩),.func (.func 145) #[] #[.pointer (some ⟨Bs,0,none⟩)],aggU x,undef,undef,undef,undef,undef],defers:=[] })
    (fun x a' _ X Y row hs hg hr=>by obtain ⟨Bx,h1,h2,h3⟩:=hs;exact ⟨Bx,h1,Ra Bx x h2 hg (fun r e=>(hr r e).2),h3⟩)
    ?assign ?body ?done ?stop
  case assign =>
    rintro l pre x W K ⟨⟨v,bS1,hr1,_⟩,hB1⟩ hK
    unfold aggU
    gi_wp2
    have hlt:=bS1.lt
    exact hK _ _ ((KeepsOthers.alloc _ _).from _) ((Below.refl _ W).alloc hB1.size _) ⟨⟨v,bS1.alloc _,hr1.alloc _,trivial⟩,hB1.alloc hB1.size _⟩ ⟨W.heap.size,hlt,World.alloc_heap_new W _,rfl⟩
  case body =>
    rintro l pre x a' W hl ⟨r,hr⟩ ⟨⟨v,bS1,hrow,_⟩,hB1⟩ ⟨Bx,hBx,bX,rfl⟩ hlt
    have cS:=bS1.cell
    have fS:=bS1.frozen
    have cX0:W.cell? ⟨Bx,0,none⟩=some (.int .i64 x.tm):=by simp [World.cell?,show W.heap[Bx]?=_ from bX]
    have cX1:W.cell? ⟨Bx,1,none⟩=some (.int .i64 x.job):=by simp [World.cell?,show W.heap[Bx]?=_ from bX]
    obtain ⟨i0,hi,hz0,hz1,hz2⟩:=(inferInstance:TInfo prog 52 (.agg #[.int .i64 0,.int .i64 0]) 2 16).eq
    have hpl:pre.length < zs.length:=hlt
    gi_wp2_with (
      gi_at_builtin
      refine wpListIn_append_own _ rfl _ _ 50 rfl w.heap.size 52 i0 (.agg #[.int .i64 0,.int .i64 0]) 2 16 underlying50 hi hz0 hz1 hz2 rfl (by decide) v pre.length (pre.flatMap encU) rfl (hrow.alloc _) ⟨W.heap.size,0,none⟩ 1 1 (encU x) rfl rfl (Rb W x) (by intro u hu;simp [encU] at hu;rcases hu with rfl|rfl<;>rfl) (by unfold maxLen;omega) (by omega) (by have:=hB1.size;simp;omega) ?_
      intro v' w3 hown' hg3 hnil3
      obtain ⟨h1a,h2a,h3a,h4a,h5a⟩:=bS1.appended (by decide) hrow hB1.size (Nat.le_refl _) hown' hg3
      have hc3:=h1a.cell
      have hf3:=h1a.frozen
      obtain ⟨g',cap',rfl⟩:=ownsRow_succ hown')
    exact ⟨h4a.from _,h5a,⟨_,h2a,by simpa [List.flatMap_append] using h3a,trivial⟩,hB1.trans h5a⟩
  case done =>
    rintro D ys W hD rfl ⟨⟨v,bS1,hrow,_⟩,hB1⟩ hK
    have cS:=bS1.cell
    gi_wp2
    refine ⟨by simp,.inl ⟨_,_,rfl,run_takeDeferred hK,?_⟩⟩
    exact ⟨_,results_tmp rfl _ _ _,v,rfl,ownsRow_putObj hrow _ hK rfl,hB1.trans (belowK_b (w:=w) (Nat.le_refl _) W D _ _ (by omega) hK rfl rfl)⟩
  case stop =>
    rintro D c pre W _ _ h _
    exact h.elim
theorem LchAt.of {w:World} {A:Nat→Prop} (hA:∀ k,A k→k < w.heap.size) {v:Value} {zs:List Lch} (h:Vb w A v zs):LchAt w.heap.size w v zs:=by
  obtain ⟨Ad,c,rfl⟩:=h.form
  cases zs with
  | nil=>exact .inl ⟨⟨Ad,c,rfl⟩,rfl⟩
  | cons z zs =>
    obtain ⟨b,o,cs,rfl,hb,_,_,_⟩:=h.elem (k:=0) (x:=z) rfl
    refine .inr ⟨b,o,c,rfl,hA b hb,fun j x hx=>?_⟩
    obtain ⟨b',o',cs',e,_,_,hd,hr⟩:=h.elem hx
    injection e with e
    injection e with e1 e2
    subst e1;subst e2
    obtain ⟨rfl,_,_⟩:=hr
    exact ⟨cat0 hd,cat1 hd⟩
theorem LchAt.up {n m:Nat} {W:World} {sv:Value} {zs:List Lch} (h:LchAt n W sv zs) (hnm:n≤m):LchAt m W sv zs:=by
  rcases h with h|⟨b,off,cap,e,hb,hc⟩
  · exact .inl h
  · exact .inr ⟨b,off,cap,e,Nat.lt_of_lt_of_le hb hnm,hc⟩
theorem NH {w:World} {zs:List Lch} {Bs:Nat} {sv:Value} (hreach:zs.length * 16≤140737488351232) (hin:∀ x∈zs,inI64 x.tm∧inI64 x.job) (hBs:Bs < w.heap.size) (hc:w.cell? ⟨Bs,0,none⟩=some sv) (hI:LchAt w.heap.size w sv zs) :
    Fn prog 175 [.slice none 0 0,.func (.func 145) #[] #[.pointer (some ⟨Bs,0,none⟩)]] w fun v w'=>Ext w w'∧Own w' w.heap.size (fun k=>k < w.heap.size) 52 v zs:=by
  intro d
  refine (appendSeq zs Bs sv hreach (dr w d) hBs hc hI).mono fun e w' ⟨v,he,hr,hb⟩=>⟨v,w',w'.drawn,he,rfl,⟨hb.os,hb.tape,hb.output,hb.size,hb.block⟩,⟨_,hr,GY hin,fun g hg hlt=>?_⟩⟩
  have:=(hr.lt g hg).1
  exact Nat.lt_irrefl _ (Nat.lt_of_lt_of_le hlt this)
attribute [local irreducible] ewp owp hwp hwq Ev Evg Fn retPost Res1
attribute [local irreducible] hwx loudX
theorem PE {w:World} (sv:Value) (h1:sv.cells.toList=[sv]:=by rfl) :
    Fn prog 112 [sv] w fun v w'=>v=.func (.func 145) #[] #[.pointer (some ⟨w.heap.size,0,none⟩)]∧New w w' 50 [sv]:=by
  refine AL func112 rfl ntmps112 ?_
  repeat (first|refine Au ?_|refine Ah rfl ?_|refine Ae rfl ?_)
  refine IP rfl rfl fun w1 hN=>?_
  refine Am rfl (o_z ?_)
  repeat (first|refine Au ?_|refine Ah rfl ?_|refine Ae rfl ?_)
  refine Nq rfl rfl rfl (Am rfl (o_z ?_))
  repeat (first|refine Au ?_|refine Ah rfl ?_|refine Ae rfl ?_)
  rw [h1] at hN
  exact ret1v rfl (AA rfl) ⟨rfl,hN⟩
theorem Pa {w:World} {zs:List Lch} {Bs:Nat} {sv:Value} (hreach:zs.length * 16≤140737488351232) (hin:∀ x∈zs,inI64 x.tm∧inI64 x.job) (hBs:Bs < w.heap.size) (hc:w.cell? ⟨Bs,0,none⟩=some sv) (hI:LchAt w.heap.size w sv zs) :
    Fn prog 143 [.func (.func 145) #[] #[.pointer (some ⟨Bs,0,none⟩)]] w fun v w'=>Ext w w'∧Own w' w.heap.size (fun k=>k < w.heap.size) 52 v zs:=by
  refine AL func143 rfl ntmps143 ?_
  repeat (first|refine Au ?_|refine Ah rfl ?_|refine Ae rfl ?_)
  refine Am rfl (o_z ?_)
  repeat (first|refine Au ?_|refine Ah rfl ?_|refine Ae rfl ?_)
  refine Ak rfl ?_
  refine CQ rfl rfl (NH hreach hin hBs hc hI) fun v w' ⟨hE,hv⟩=>?_
  refine Am rfl (o_z ?_)
  repeat (first|refine Au ?_|refine Ah rfl ?_|refine Ae rfl ?_)
  exact ret1v rfl (AA rfl) ⟨hE,hv⟩
theorem MT {w:World} {zs:List Lch} {Bs:Nat} {sv:Value} (hreach:zs.length * 16≤140737488351232) (hl:zs.length < 4611686018427387904) (hin:∀ x∈zs,inI64 x.tm∧inI64 x.job) (hBs:Bs < w.heap.size) (hc:w.cell? ⟨Bs,0,none⟩=some sv) (hI:LchAt w.heap.size w sv zs) :
    Fn prog 111 [.func (.func 145) #[] #[.pointer (some ⟨Bs,0,none⟩)],.func (.func 113) #[] #[]] w fun v w'=>Ext w w'∧Own w' w.heap.size (fun k=>k < w.heap.size) 52 v (Bh zs):=by
  refine AL func111 rfl ntmps111 ?_
  repeat (first|refine Au ?_|refine Ah rfl ?_|refine Ae rfl ?_)
  refine Am rfl (o_z ?_)
  repeat (first|refine Au ?_|refine Ah rfl ?_|refine Ae rfl ?_)
  refine Ak rfl ?_
  refine CQ rfl rfl (Pa hreach hin hBs hc hI) fun v w' ⟨hE,hv⟩=>?_
  refine Am rfl (o_z ?_)
  repeat (first|refine Au ?_|refine Ah rfl ?_|refine Ae rfl ?_)
  refine Ak rfl (Ak rfl ?_)
  have hR:Rw 1 w' (fun k=>if k < w.heap.size then 0 else 1) 52 v zs:=by
    obtain ⟨cells,h1,h2,h3⟩:=hv
    refine ⟨⟨cells,⟨h1.1,?_⟩,h2.mono (fun k hk=>⟨Nat.lt_of_lt_of_le hk hE.size,if_pos hk⟩),fun g hg hq=>?_⟩,fun g hg=>?_,by decide⟩
    · rcases h1.2 with h|⟨g,cap,cur,e,_,r⟩
      · exact .inl h
      · exact .inr ⟨g,cap,cur,e,Nat.zero_le _,r⟩
    · have:=(h1.lt g hg).1
      have h4:(if g < w.heap.size then 0 else 1)=0:=hq.2
      rw [if_neg (by omega)] at h4
      exact absurd h4 (by decide)
    · have:=(h1.lt g hg).1
      exact if_neg (by omega)
  refine CQ rfl rfl (JI hR hl) fun u w2 ⟨O',hS,hR2⟩=>?_
  refine o_z ?_
  repeat (first|refine Au ?_|refine Ah rfl ?_|refine Ae rfl ?_)
  refine Ak rfl (Am rfl (o_z ?_))
  repeat (first|refine Au ?_|refine Ah rfl ?_|refine Ae rfl ?_)
  refine ret1v rfl (AA rfl) ⟨⟨hS.os.trans hE.os,hS.tape.trans hE.tape,hS.output.trans hE.output,Nat.le_trans hE.size hS.size,fun k hk=>?_⟩,?_⟩
  · refine (hS.same k (Nat.lt_of_lt_of_le hk hE.size) ?_).1.trans (hE.block k hk)
    rw [if_pos hk];decide
  · obtain ⟨c0,g1,_,_⟩:=hv
    obtain ⟨c1,k1,k2,_⟩:=hR2.1
    obtain ⟨rfl,hin'⟩:=HO k2
    refine ⟨_,⟨k1.1,?_⟩,GY hin',fun g hg hlt=>?_⟩
    · rcases k1.2 with h|⟨g,cap,cur,e,_,r⟩
      · exact .inl h
      · exact .inr ⟨g,cap,cur,e,(g1.lt g (by rw [e];rfl)).1,r⟩
    · have:=(g1.lt g hg).1
      exact Nat.lt_irrefl _ (Nat.lt_of_lt_of_le hlt this)
noncomputable def Fs (x0:List Lch):Option (List Lch):=if x0.length * 16≤140737488351232 then some (Bh x0) else none
theorem Lq {w:World} {A:Nat→Prop} (hA:∀ k,A k→k < w.heap.size) {vx0:Value} {x0:List Lch} (a0:Vb w A vx0 x0) {r:List Lch} (hm:Fs x0=some r) :
    Fn prog 66 [vx0] w fun v w'=>Ext w w'∧Vb w' (upA A w w') v r:=by
  obtain ⟨hl,rfl⟩:=CL hm
  obtain ⟨Ad,c,rfl⟩:=a0.form
  have hin:∀ x∈x0,inI64 x.tm∧inI64 x.job:=fun x hx=>by
    obtain ⟨j,hj⟩:=List.getElem?_of_mem hx
    obtain ⟨_,_,cs,_,_,_,_,hr⟩:=a0.elem hj
    exact ⟨hr.2.1,hr.2.2⟩
  have hat:=LchAt.of hA a0
  refine AL func66 rfl ntmps66 ?_
  repeat (first|refine Au ?_|refine Ah rfl ?_|refine Ae rfl ?_)
  refine Am rfl (o_z ?_)
  repeat (first|refine Au ?_|refine Ah rfl ?_|refine Ae rfl ?_)
  refine Ak rfl ?_
  refine CQ rfl rfl (PE (.slice Ad x0.length c)) fun v w1 ⟨hv,hN⟩=>?_
  subst hv
  have hB1:Ext w w1:=hN.ext
  refine CQ rfl rfl (MT hl (by omega) hin (Bs:=w.heap.size) (sv:=.slice Ad x0.length c) (by rw [hN.size];omega) (hN.blk.cell (i:=0) rfl) ((hat.below hB1).up hB1.size)) fun u w2 ⟨hE,ho⟩=>?_
  refine Am rfl (o_z ?_)
  repeat (first|refine Au ?_|refine Ah rfl ?_|refine Ae rfl ?_)
  refine ret1v rfl (AA rfl) ⟨hB1.trans (hE.mono hB1.size),?_⟩
  obtain ⟨cells,k1,k2,k3⟩:=ho
  obtain ⟨rfl,hin'⟩:=HO k2
  have ho':Own w2 w1.heap.size (fun _=>False) 52 u (Bh x0):=⟨_,k1,GY hin',fun _ _ h=>h⟩
  refine ho'.vb.mono fun k hk=>?_
  rcases hk with h|h
  · exact h.elim
  · exact .inr ⟨Nat.le_trans hB1.size (ho'.lt k h).1,(ho'.lt k h).2⟩
end
section
open Go Go.RowKit
attribute [local irreducible] ewp owp hwp hwq Ev Evg Fn retPost Res1
attribute [local irreducible] hwx loudX
structure Wtr where
  t:Tpl
  first:List Int
  last:Int
  left:List Int
  out:List Int
instance:Ow Wtr where
  R w F M v x:=∃ (g:Nat) (L:Lab) (c0 c1 c2 c3 c4 c5 c6:Value),v=.pointer (some ⟨g,0,none⟩)∧Blk w g 110 [c0,c1,c2,c3,c4,.int .i64 x.last,c5,c6]∧M g∧L g=0∧Vb w F c0 x.t.vars∧Vb w F c1 x.t.init∧Vb w F c2 x.t.goal∧Vb w F c3 x.t.jobs∧RwM w F (fun k=>M k∧L k=1) 3 c4 x.first∧inI64 x.last∧RwM w F (fun k=>M k∧L k=2) 3 c5 x.left∧RwM w F (fun k=>M k∧L k=3) 3 c6 x.out
  agree:=by rintro w w' F M v x ⟨g,L,c0,c1,c2,c3,c4,c5,c6,rfl,hb,hM,hL,h0,h1,h2,h3,h4,h5,h6,h7⟩ a1 a2;exact ⟨g,L,c0,c1,c2,c3,c4,c5,c6,rfl,hb.keep (a2 g hM),hM,hL,h0.agree a1,h1.agree a1,h2.agree a1,h3.agree a1,h4.agree a1 fun k hk=>a2 k hk.1,h5,h6.agree a1 fun k hk=>a2 k hk.1,h7.agree a1 fun k hk=>a2 k hk.1⟩
  mono:=by rintro w F M F' M' v x ⟨g,L,c0,c1,c2,c3,c4,c5,c6,rfl,hb,hM,hL,h0,h1,h2,h3,h4,h5,h6,h7⟩ a1 a2 a3;exact ⟨g,L,c0,c1,c2,c3,c4,c5,c6,rfl,hb,a2 g hM,hL,h0.mono a1,h1.mono a1,h2.mono a1,h3.mono a1,h4.mono a1 (fun k hk=>⟨a2 k hk.1,hk.2⟩) fun k hf hm=>a3 k hf hm.1,h5,h6.mono a1 (fun k hk=>⟨a2 k hk.1,hk.2⟩) fun k hf hm=>a3 k hf hm.1,h7.mono a1 (fun k hk=>⟨a2 k hk.1,hk.2⟩) fun k hf hm=>a3 k hf hm.1⟩
theorem Wtr.opn {i:Nat} {w:World} {O:Lab} {p:Nat} {x:Wtr} (h:Ob i w O (.pointer (some ⟨p,0,none⟩)) x) (l0 l1 l2 l3:Nat) (hl:l0≠0∧l1≠0∧l2≠0∧l3≠0):∃ (O':Lab) (c0 c1 c2 c3 c4 c5 c6:Value),St (eT i) w O w O'∧(∀ k,Fr i w O k→∃ q,q∈[l0,l1,l2,l3]∧Fr q w O' k)∧Lc l0 w O' p 110 [c0,c1,c2,c3,c4,.int .i64 x.last,c5,c6]∧Vb w (Fr 0 w O') c0 x.t.vars∧Vb w (Fr 0 w O') c1 x.t.init∧Vb w (Fr 0 w O') c2 x.t.goal∧Vb w (Fr 0 w O') c3 x.t.jobs∧Rw l1 w O' 3 c4 x.first∧inI64 x.last∧Rw l2 w O' 3 c5 x.left∧Rw l3 w O' 3 c6 x.out:=by
  obtain ⟨⟨g,L,c0,c1,c2,c3,c4,c5,c6,hv,hb,hM,hL,h0,h1,h2,h3,h4,h5,h6,h7⟩,hi⟩:=h
  obtain rfl:p=g:=by injection hv with hv;injection hv with hv;injection hv
  exact ⟨part O i L [l0,l1,l2,l3],c0,c1,c2,c3,c4,c5,c6,QQ hi,PV (by simp),⟨hb,(Ko (j:=0) rfl p ⟨hM,hL⟩).2⟩,h0.mono (GD hi),h1.mono (GD hi),h2.mono (GD hi),h3.mono (GD hi),h4.rw (GD hi) (Ko (j:=1) rfl) hl.2.1,h5,h6.rw (GD hi) (Ko (j:=2) rfl) hl.2.2.1,h7.rw (GD hi) (Ko (j:=3) rfl) hl.2.2.2⟩
theorem Wtr.shut {w:World} {O:Lab} {p:Nat} {x:Wtr} {l0 l1 l2 l3:Nat} {c0 c1 c2 c3 c4 c5 c6:Value} (hd:¬ 0∈[l0,l1,l2,l3]∧[l0,l1,l2,l3].idxOf l0=0∧[l0,l1,l2,l3].idxOf l1=1∧[l0,l1,l2,l3].idxOf l2=2∧[l0,l1,l2,l3].idxOf l3=3) (hb:Lc l0 w O p 110 [c0,c1,c2,c3,c4,.int .i64 x.last,c5,c6]) (h0:Vb w (Fr 0 w O) c0 x.t.vars) (h1:Vb w (Fr 0 w O) c1 x.t.init) (h2:Vb w (Fr 0 w O) c2 x.t.goal) (h3:Vb w (Fr 0 w O) c3 x.t.jobs) (h4:Rw l1 w O 3 c4 x.first) (h5:inI64 x.last) (h6:Rw l2 w O 3 c5 x.left) (h7:Rw l3 w O 3 c6 x.out):∃ O',St (·∈[l0,l1,l2,l3]) w O w O'∧(∀ k,Fr 0 w O k→Fr 0 w O' k)∧(∀ q,q∈[l0,l1,l2,l3]→∀ k,Fr q w O k→Fr l0 w O' k)∧Ob l0 w O' (.pointer (some ⟨p,0,none⟩)) x:=by
  have hb1:l0≠0:=fun e=>hd.1 (by simp [e])
  have hg:=Jf (i:=l0) hd.2.1 (by simp) p ⟨hb.1.lt,hb.2⟩
  exact ⟨whole O l0 [l0,l1,l2,l3],PW,Fi hd.1,Pn,⟨p,fun k=>[l0,l1,l2,l3].idxOf (O k),c0,c1,c2,c3,c4,c5,c6,rfl,hb.1,hg.1,hg.2,h0.mono (Fi hd.1),h1.mono (Fi hd.1),h2.mono (Fi hd.1),h3.mono (Fi hd.1),h4.m (Fi hd.1) (Jf hd.2.2.1 (by simp)) (fun k a b=>frNe0 hb1 k a b.1),h5,h6.m (Fi hd.1) (Jf hd.2.2.2.1 (by simp)) (fun k a b=>frNe0 hb1 k a b.1),h7.m (Fi hd.1) (Jf hd.2.2.2.2 (by simp)) (fun k a b=>frNe0 hb1 k a b.1)⟩,hb1⟩
noncomputable def BZ (x0:List Lch) (x1:Lch):Option Int :=
  bnd (rng (ρ:=Int) (fun (k19:Nat) (a20:Lch) (s17:Unit)=>if x1.tm=a20.tm∧x1.job=a20.job then (some (.ret (k19:Int))) else (some (.next ()))) x0 0 ()) fun res15=>fin res15 fun (s44:Unit)=>some (-1)
theorem FS {w:World} {A:Nat→Prop} (hA:∀ k,A k→k < w.heap.size) {vx0:Value} {x0:List Lch} (b0:Vb w A vx0 x0) {vx1:Value} {x1:Lch} (i0:Vb w A vx1 x1) {r:Int} (hm:BZ x0 x1=some r) :
    Fn prog 115 [vx0,vx1] w fun v w'=>Ext w w'∧Vb w' (upA A w w') v r:=by
 obtain ⟨O,hB,s0⟩:=enter hA
 replace b0:=b0.mono s0
 obtain ⟨A3,c4,rfl⟩:=b0.form
 replace i0:=i0.mono s0
 obtain ⟨z0,rfl,rfl,r6,r7⟩:=i0
 refine AL func115 rfl ntmps115 ?_
 unfold BZ at hm
 refine Ab (Aa (BL 2 O rfl fun g8 w9 t0 j0 c0=>?_))
 replace c0:Lc 2 w9 t0 g8 52 [(.int .i64 x1.tm),(.int .i64 x1.job)]:=c0
 refine Am rfl (o_z ?_)
 refine Ab (Ab (Aa (Ak rfl (AS rfl ?_))))
 replace b0:=b0.st j0
 have k0:x0.length≤9223372036854775807:=Nat.le_trans b0.len.2.1 b0.len.2.2
 have a1:inI64 (x0.length:Int):=rngNat k0
 refine Ak rfl (o_z ?_)
 obtain ⟨e0,l0,hm⟩:=bs hm
 refine Ay (aft e0 (fun (g0:Unit) (h0:Unit)=>[]) (fun g0 h0 w'=>∃ O':Lab,Bs w A w' O')) ?_ ?_
 ·
  refine AK ?_
  replace hB:=hB.st j0
  refine AY (σ:=Unit) (X:=Unit) (x0.length) l0 rfl k0 (fun (g0:Unit) (h0:Unit)=>[(0,(.slice A3 x0.length c4)),(3,(.pointer (some ⟨g8,0,none⟩)))]) _ (fun g0 h0 w'=>∃ O':Lab,Bs w A w' O'∧Vb w' (Fr 0 w' O') (.slice A3 x0.length c4) x0∧Lc 2 w' O' g8 52 [(.int .i64 x1.tm),(.int .i64 x1.job)]) _ () ⟨t0,hB,b0,c0⟩ ⟨rfl,rfl,rfl,rfl,trivial⟩ (fun _ _=>⟨rfl,rfl⟩) (fun _ _=>trivial) (fun _ _ _ ⟨O',hB,b0,c0⟩=>⟨O',hB⟩) ⟨rfl,rfl,rfl⟩ ⟨rfl,rfl⟩ ?_
  rintro u0 b1 g0 h0 v0 w0 f0 ⟨c1,hB,b0,c0⟩ a0 d0 m0
  have rk19:inI64 (u0:Int):=rngK f0 k0
  refine Ab (Aa (Ak rfl (Am rfl (o_z ?_))))
  refine Ab (FU (·=v0) [(0,true),(1,true),(2,true),(3,true),(4,true),(5,true)] rfl rfl ?_)
  refine Nb (hl:=rfl) (hc:=(c0.1).cellsAt) rfl rfl rfl ?_
  refine AX rfl rfl (AX rfl rfl ?_)
  obtain ⟨d1,e1,y0,n0,o0,p0,rfl,f1,g1⟩:=b0.elem' f0
  refine CK (hA:=n0) (hj:=rfl) (hlt:=o0) rfl rfl rfl ?_
  refine Nb (hl:=rfl) (hc:=p0) rfl rfl rfl ?_
  refine Sg rfl rfl rfl rfl (fun q0=>?_) fun q0=>?_
  ·
   replace a0:=ip a0 q0
   refine h_z ?_
   refine Ah rfl (Ab (Aa (Ak rfl (Am rfl (o_z ?_)))))
   refine AF ?_
   obtain rfl:=sm a0
   obtain rfl:=d0 _ rfl
   obtain rfl:=sm (BY hm)
   exact ret1v rfl (AA rfl) ⟨hB.ext,(vInt rk19)⟩
  replace a0:=im a0 q0
  refine h_z ?_
  refine Ae rfl (AO ?_)
  obtain rfl:=sm a0
  exact show Exists _ from ⟨_,(),rfl,⟨rfl,rfl,rfl,rfl,trivial⟩,_,hB,b0,c0⟩
 replace hB:=hB.st j0
 rintro h1 i1 ⟨j1,k1,rfl,r0,l1,hB⟩
 replace hm:=AR hm
 refine AH _ r0 ?_
 refine Ab (Aa (Am rfl (o_z ?_)))
 refine AF ?_
 obtain rfl:=sm hm
 exact ret1v rfl (AA rfl) ⟨hB.ext,(vInt (iI64 (-1)))⟩
noncomputable def BM (x0:List Lch) (x1:Lch):Option Bool :=
  bnd (bnd (BZ x0 x1) fun q17=>if 0≤q17 then (some true) else (some false):Option Bool) fun y13=>some y13
theorem Ft {w:World} {A:Nat→Prop} (hA:∀ k,A k→k < w.heap.size) {vx0:Value} {x0:List Lch} (b0:Vb w A vx0 x0) {vx1:Value} {x1:Lch} (d0:Vb w A vx1 x1) {r:Bool} (hm:BM x0 x1=some r) :
    Fn prog 67 [vx0,vx1] w fun v w'=>Ext w w'∧Vb w' (upA A w w') v r:=by
 obtain ⟨O,hB,i0⟩:=enter hA
 replace b0:=b0.mono i0
 obtain ⟨A3,c4,rfl⟩:=b0.form
 replace d0:=d0.mono i0
 obtain ⟨o0,rfl,rfl,r6,r7⟩:=d0
 refine AL func67 rfl ntmps67 ?_
 unfold BM at hm
 refine Ab (Aa (BL 2 O rfl fun g8 w9 e0 c0 f0=>?_))
 replace f0:Lc 2 w9 e0 g8 52 [(.int .i64 x1.tm),(.int .i64 x1.job)]:=f0
 refine Am rfl (o_z ?_)
 refine Ab ?_
 obtain ⟨k0,a0,hm⟩:=bs hm
 refine Ay (fun l' w'=>∃ (l0:Unit) (O':Lab),subs l' [(4,(.bool k0))]∧Bs w A w' O') ?_ ?_
 ·
  refine Aa (Ak rfl (Bd (hl:=rfl) (hc:=(f0.1).cellsAt) rfl ?_))
  obtain ⟨p0,m0,a0⟩:=bs a0
  replace b0:=b0.st c0
  refine AM (O:=e0) (FS (fun _ h=>h) (vMo b0) (Vb.mono (F:=Fr 0 w9 e0) (Vb.ofAgg (cs:=[(.int .i64 x1.tm),(.int .i64 x1.job)]) (x:=x1) rfl ⟨rfl,r6,r7⟩) Fr.lt) m0) rfl fun q0 r0 s0 j0 n0=>?_
  obtain ⟨rfl,t0⟩:=n0.int
  refine ET rfl rfl (fun g0=>?_) fun g0=>?_
  ·
   replace a0:=ip a0 g0
   refine Am rfl (o_z ?_)
   obtain rfl:=sm a0
   exact ⟨(),_,⟨rfl,trivial⟩,(hB.st c0).st j0⟩
  replace a0:=im a0 g0
  refine Am rfl (o_z ?_)
  obtain rfl:=sm a0
  exact ⟨(),_,⟨rfl,trivial⟩,(hB.st c0).st j0⟩
 replace hB:=hB.st c0
 rintro u0 v0 ⟨l0,w0,h0,hB⟩
 refine AH _ h0 ?_
 refine AF ?_
 obtain rfl:=sm hm
 exact ret1v rfl (AA rfl) ⟨hB.ext,vBool⟩
noncomputable def De (x0:Wtr):Option Wtr :=
  bnd (chkI (2 * (x0.t.jobs.length:Int))) fun n40=>bnd (appI 8 x0.out ([n40]:List Int)) fun u49=>bnd (rng (ρ:=Wtr) (fun (k73:Nat) (a74:Job) (s71:Wtr)=>bnd (s71.first[k73]?) fun a122=>bnd (s71.left[k73]?) fun a132=>bnd (chkI (a122 + a132)) fun n142=>bnd (appI 8 s71.out ([n142]:List Int)) fun u151=>bnd (s71.left[k73]?) fun a164=>bnd (chkI (a164 - 1)) fun n174=>bnd (s71.left[k73]?) fun a177=>some (.next (⟨(⟨s71.t.vars,s71.t.init,s71.t.goal,s71.t.jobs⟩:Tpl),s71.first,s71.last,(s71.left.set k73 (max 0 n174)),u151⟩:Wtr))) x0.t.jobs 0 (⟨(⟨x0.t.vars,x0.t.init,x0.t.goal,x0.t.jobs⟩:Tpl),x0.first,x0.last,x0.left,u49⟩:Wtr)) fun res69=>fin res69 fun (s198:Wtr)=>bnd (appI 8 s198.out ([s198.last]:List Int)) fun u242=>some (⟨(⟨s198.t.vars,s198.t.init,s198.t.goal,s198.t.jobs⟩:Tpl),s198.first,s198.last,s198.left,u242⟩:Wtr)
theorem IW {w:World} {O:Lab} {p0 i0:Nat} {x0:Wtr} (m1:Ob i0 w O (.pointer (some ⟨p0,0,none⟩)) x0) {r:Wtr} (hm:De x0=some r) :
    Fn prog 68 [(.pointer (some ⟨p0,0,none⟩))] w fun v w'=>∃ O',St (eT i0) w O w' O'∧Ob i0 w' O' (.pointer (some ⟨p0,0,none⟩)) r:=by
 obtain ⟨O0,hE,n5,o5⟩:=ent1 (w:=w) (O:=O) m1.2
 have m1':=Ob.leave m1 n5 o5 (j:=2) (by decide)
 have hB:Bm w O0 w O0:=Bm.refl
 refine AL func68 rfl ntmps68 ?_
 unfold De at hm
 refine Ab ?_
 obtain ⟨O2,v6,r8,s8,t8,u8,v8,w8,S3,x8,h4,h7,m2,n2,g1,o2,p5,p2,q2⟩:=Wtr.opn m1' 2 3 4 5 (by decide)
 obtain ⟨A8,c9,rfl⟩:=h7.form
 obtain ⟨q5,r5,rfl⟩:=m2.form
 obtain ⟨s5,t5,rfl⟩:=n2.form
 obtain ⟨u5,v5,rfl⟩:=g1.form
 obtain ⟨w5,x5,rfl⟩:=o2.form
 obtain ⟨y5,z5,rfl⟩:=p2.form
 obtain ⟨y8,z8,rfl⟩:=q2.form
 refine Br [(13,[5])] O2 ?_
 refine AP (fuel:=6) [] [(1,true),(2,true),(3,true),(4,true),(5,true),(6,true),(7,true),(8,true),(9,true),(10,true),(11,true)] rfl ?_
 refine AX rfl rfl (GC rfl rfl (AT rfl rfl (AV (hc:=bCell h4 7 rfl) rfl rfl ?_)))
 refine AX rfl rfl (GC rfl rfl (AT rfl rfl (AT rfl rfl (AV (hc:=bCell h4 3 rfl) rfl rfl ?_))))
 refine JQ rfl rfl ?_
 have a6:x0.t.jobs.length≤9223372036854775807:=Nat.le_trans g1.len.2.1 g1.len.2.2
 have a9:inI64 (x0.t.jobs.length:Int):=rngNat a6
 obtain ⟨b6,y4,hm⟩:=bs hm
 have c6:=(Bq y4)
 refine QM (he:=y4) rfl rfl rfl rfl ?_
 refine AC ?_
 refine AP (fuel:=5) [5] [(0,true)] rfl ?_
 refine AX rfl rfl (AC ?_)
 refine AD (i:=12) rfl ?_
 refine AQ 6 O2 (xs:=(([b6]:List Int):List Int)) rfl rfl rfl ⟨(vInt c6),trivial⟩ fun b9 d9 e9 q0 d6=>?_
 have hZ:=lZ q0
 refine AN [(13,[5])] hZ ?_
 refine AD (i:=13) rfl ?_
 obtain ⟨z4,w2,hm⟩:=bs hm
 obtain ⟨w2,e6,f6⟩:=AI w2
 replace q2:=q2.st q0
 refine AZ rfl q2 (d6.rd) rfl rfl e6 f6 fun g6 h6 f9 i6 s0 r2=>?_
 rw [← w2] at r2 ⊢
 have hZ:=s0.lst [5] (fun _ h=>by cases h;decide)
 refine AN [] hZ ?_
 refine AP (fuel:=1) [] [(14,true),(15,true)] rfl ?_
 refine GC rfl rfl (AT rfl rfl (AC ?_))
 refine AD (i:=16) rfl ?_
 replace h4:=(h4.st q0).st s0
 refine Az h4 rfl rfl rfl (AJ) (allOne) fun j6 t0 h4=>?_
 replace h4:Lc 2 j6 i6 p0 110 [(.slice A8 x0.t.vars.length c9),(.slice q5 x0.t.init.length r5),(.slice s5 x0.t.goal.length t5),(.slice u5 x0.t.jobs.length v5),(.slice w5 x0.first.length x5),(.int .i64 x0.last),(.slice y5 x0.left.length z5),(.slice g6 z4.length h6)]:=h4
 refine BF ?_
 refine Bv ?_
 refine Ab (Ab (Aa (Ak rfl (Mg rfl rfl (Ax rfl (Ax rfl (At (hc:=Blk.cell (i:=3) (h4.1) rfl) rfl ?_)))))))
 refine AS rfl ?_
 replace g1:=((g1.st q0).st s0).st t0
 have x2:x0.t.jobs.length≤9223372036854775807:=Nat.le_trans g1.len.2.1 g1.len.2.2
 have g9:inI64 (x0.t.jobs.length:Int):=rngNat x2
 refine Ak rfl (o_z ?_)
 replace h7:=((h7.st q0).st s0).st t0
 replace m2:=((m2.st q0).st s0).st t0
 replace n2:=((n2.st q0).st s0).st t0
 replace o2:=((o2.st q0).st s0).st t0
 replace p2:=((p2.st q0).st s0).st t0
 replace r2:=r2.st t0
 obtain ⟨k6,a5,l6,m6,n6⟩:=Wtr.shut (x:=(⟨(⟨x0.t.vars,x0.t.init,x0.t.goal,x0.t.jobs⟩:Tpl),x0.first,x0.last,x0.left,z4⟩:Wtr)) (l0:=2) (l1:=3) (l2:=4) (l3:=5) (by decide) h4 h7 m2 n2 g1 o2 p5 p2 r2
 obtain ⟨n1,y2,hm⟩:=bs hm
 refine Ay (aft n1 (fun (c0:Wtr) (s2:Unit)=>[(0,(.pointer (some ⟨p0,0,none⟩)))]) (fun c0 s2 w'=>∃ O':Lab,Bm w O0 w' O'∧Ob 2 w' O' (.pointer (some ⟨p0,0,none⟩)) c0)) ?_ ?_
 ·
  refine AK ?_
  replace hB:=((((hB.st S3).st q0).st s0).st t0).st a5
  refine AY (σ:=Wtr) (X:=Unit) (x0.t.jobs.length) y2 rfl x2 (fun (c0:Wtr) (s2:Unit)=>[(0,(.pointer (some ⟨p0,0,none⟩)))]) _ (fun c0 s2 w'=>∃ O':Lab,Bm w O0 w' O'∧Ob 2 w' O' (.pointer (some ⟨p0,0,none⟩)) c0) _ () ⟨k6,hB,n6⟩ ⟨rfl,rfl,rfl,trivial⟩ (fun _ _=>⟨rfl,rfl⟩) (fun _ _=>⟨rfl,trivial⟩) (fun _ _ _ ⟨O',hB,o1⟩=>⟨O',hB,o1⟩) ⟨rfl,rfl,rfl⟩ ⟨rfl,rfl⟩ ?_
  rintro z2 h9 c0 s2 i9 o6 a3 ⟨j9,hB,o1⟩ a0 b3 c3
  have rk73:inI64 (z2:Int):=rngK a3 x2
  refine Ab (Aa (Ak rfl (Am rfl (o_z ?_))))
  refine Ab ?_
  obtain ⟨b5,k9,l9,m9,p6,q6,r6,s6,t6,u6,o0,t2,u2,v2,u0,r0,d3,f0,v0⟩:=Wtr.opn o1 2 3 4 5 (by decide)
  obtain ⟨w6,x6,rfl⟩:=t2.form
  obtain ⟨y6,z6,rfl⟩:=u2.form
  obtain ⟨e3,f3,rfl⟩:=v2.form
  obtain ⟨g3,h3,rfl⟩:=u0.form
  obtain ⟨i3,j3,rfl⟩:=r0.form
  obtain ⟨k3,m3,rfl⟩:=f0.form
  obtain ⟨a7,b7,rfl⟩:=v0.form
  refine Br [(21,[5])] b5 ?_
  refine AP (fuel:=6) [] [(1,true),(2,true),(3,true),(4,true),(5,true),(6,true),(7,true),(8,true),(9,true),(10,true),(11,true),(12,true),(13,true),(14,true),(15,true),(16,true),(17,true),(18,true),(19,true)] rfl ?_
  refine AX rfl rfl (GC rfl rfl (AT rfl rfl (AV (hc:=bCell o0 7 rfl) rfl rfl ?_)))
  refine AX rfl rfl (GC rfl rfl (AT rfl rfl (AV (hc:=bCell o0 4 rfl) rfl rfl ?_)))
  refine AX rfl rfl ?_
  obtain ⟨c7,n3,a0⟩:=bs a0
  obtain ⟨d7,e7,c5,p1,q1,r1,s1,rfl,f7⟩:=r0.elemF n3
  refine CK (hA:=p1) (hj:=rfl) (hlt:=r1) rfl rfl rfl ?_
  refine AV (hc:=fun w' ⟨O',hq⟩=>cat0 (Bp (hq.agree (i:=3) (by decide)) q1 s1)) rfl rfl ?_
  refine AX rfl rfl (GC rfl rfl (AT rfl rfl (AV (hc:=bCell o0 6 rfl) rfl rfl ?_)))
  refine AX rfl rfl ?_
  obtain ⟨g7,o3,a0⟩:=bs a0
  obtain ⟨i7,j7,d5,t1,u1,v1,w1,rfl,k7⟩:=f0.elemF o3
  refine CK (hA:=t1) (hj:=rfl) (hlt:=v1) rfl rfl rfl ?_
  refine AV (hc:=fun w' ⟨O',hq⟩=>cat0 (Bp (hq.agree (i:=4) (by decide)) u1 w1)) rfl rfl ?_
  obtain ⟨p3,x1,a0⟩:=bs a0
  have q3:=(Bq x1)
  refine Hp (he:=x1) rfl rfl rfl ?_
  refine AC ?_
  refine AP (fuel:=5) [5] [(0,true)] rfl ?_
  refine AX rfl rfl (AC ?_)
  refine AD (i:=20) rfl ?_
  refine AQ 7 b5 (xs:=(([p3]:List Int):List Int)) rfl rfl rfl ⟨(vInt q3),trivial⟩ fun l7 m7 n7 d0 r3=>?_
  have hZ:=lZ d0
  refine AN [(21,[5])] hZ ?_
  refine AD (i:=21) rfl ?_
  obtain ⟨y1,i1,a0⟩:=bs a0
  obtain ⟨i1,s3,t3⟩:=AI i1
  replace v0:=v0.st d0
  refine AZ rfl v0 (r3.rd) rfl rfl s3 t3 fun u3 v3 o7 z1 g0 w0=>?_
  rw [← i1] at w0 ⊢
  have hZ:=g0.lst [5] (fun _ h=>by cases h;decide)
  refine AN [] hZ ?_
  refine AP (fuel:=1) [] [(22,true),(23,true)] rfl ?_
  refine GC rfl rfl (AT rfl rfl (AC ?_))
  refine AD (i:=24) rfl ?_
  replace o0:=(o0.st d0).st g0
  refine Az o0 rfl rfl rfl (AJ) (allOne) fun w3 k0 o0=>?_
  replace o0:Lc 2 w3 z1 p0 110 [(.slice w6 c0.t.vars.length x6),(.slice y6 c0.t.init.length z6),(.slice e3 c0.t.goal.length f3),(.slice g3 c0.t.jobs.length h3),(.slice i3 c0.first.length j3),(.int .i64 c0.last),(.slice k3 c0.left.length m3),(.slice u3 y1.length v3)]:=o0
  refine BF ?_
  refine Bv ?_
  refine Br [] z1 ?_
  refine AP (fuel:=1) [] [(0,true),(1,true),(2,true),(3,true),(4,true),(5,true),(6,true),(7,true),(8,true),(9,true),(10,true),(11,true),(12,true),(13,true),(14,true)] rfl ?_
  refine AX rfl rfl (GC rfl rfl (AT rfl rfl (AV (hc:=bCell o0 6 rfl) rfl rfl ?_)))
  refine AX rfl rfl (AX rfl rfl (GC rfl rfl (AT rfl rfl (AV (hc:=bCell o0 6 rfl) rfl rfl ?_))))
  refine AX rfl rfl ?_
  obtain ⟨p7,x3,a0⟩:=bs a0
  replace f0:=((f0.st d0).st g0).st k0
  obtain ⟨q7,r7,e5,a2,b2,c2,d2,rfl,s7⟩:=f0.elemF x3
  refine CK (hA:=a2) (hj:=rfl) (hlt:=c2) rfl rfl rfl ?_
  refine AV (hc:=fun w' ⟨O',hq⟩=>cat0 (Bp (hq.agree (i:=4) (by decide)) b2 d2)) rfl rfl ?_
  obtain ⟨j1,e2,a0⟩:=bs a0
  have y3:=(Bq e2)
  refine OT (he:=e2) rfl rfl rfl rfl ?_
  refine RU rfl rfl rfl rfl ?_
  obtain ⟨t7,f2,a0⟩:=bs a0
  obtain ⟨u7,v7,f5,h1,g5,g2,h5,rfl,w7⟩:=f0.elemF f2
  refine CK (hA:=h1) (hj:=rfl) (hlt:=g2) rfl rfl rfl ?_
  refine AC ?_
  refine AD (i:=15) rfl ?_
  refine Nt rfl f0 (a:=(max 0 j1)) (vInt (rngMax (iI64 0) y3)) h1 rfl rfl (BR f2) fun x7 m0 f0=>?_
  refine BF ?_
  refine Bv ?_
  replace o0:=o0.st m0
  replace t2:=(((t2.st d0).st g0).st k0).st m0
  replace u2:=(((u2.st d0).st g0).st k0).st m0
  replace v2:=(((v2.st d0).st g0).st k0).st m0
  replace u0:=(((u0.st d0).st g0).st k0).st m0
  replace r0:=(((r0.st d0).st g0).st k0).st m0
  replace w0:=(w0.st k0).st m0
  obtain ⟨y7,z3,i5,j5,a4⟩:=Wtr.shut (x:=(⟨(⟨c0.t.vars,c0.t.init,c0.t.goal,c0.t.jobs⟩:Tpl),c0.first,c0.last,(c0.left.set z2 (max 0 j1)),y1⟩:Wtr)) (l0:=2) (l1:=3) (l2:=4) (l3:=5) (by decide) (by have q:=o0;rw [← ((by simp:(c0.left.set z2 (max 0 j1)).length=c0.left.length).trans rfl)] at q;exact q) t2 u2 v2 u0 r0 d3 f0.relen w0
  obtain rfl:=sm a0
  exact show Exists _ from ⟨_,(),rfl,⟨rfl,rfl,rfl,trivial⟩,_,(((((hB.st t6).st d0).st g0).st k0).st m0).st z3,a4⟩
 replace hB:=((((hB.st S3).st q0).st s0).st t0).st a5
 rintro z7 a8 ⟨b0,b8,rfl,h2,c8,hB,o1⟩
 replace hm:=AR hm
 refine AH _ h2 ?_
 obtain ⟨i2,d8,e8,f8,g8,h8,i8,j8,b4,k5,h0,y0,z0,a1,b1,c1,j2,d1,e1⟩:=Wtr.opn o1 2 3 4 5 (by decide)
 obtain ⟨c4,d4,rfl⟩:=y0.form
 obtain ⟨e4,f4,rfl⟩:=z0.form
 obtain ⟨g4,i4,rfl⟩:=a1.form
 obtain ⟨j4,k4,rfl⟩:=b1.form
 obtain ⟨l4,m4,rfl⟩:=c1.form
 obtain ⟨n4,o4,rfl⟩:=d1.form
 obtain ⟨k8,l8,rfl⟩:=e1.form
 refine Br [(10,[5])] i2 ?_
 refine AP (fuel:=6) [] [(1,true),(2,true),(3,true),(4,true),(5,true),(6,true),(7,true),(8,true)] rfl ?_
 refine AX rfl rfl (GC rfl rfl (AT rfl rfl (AV (hc:=bCell h0 7 rfl) rfl rfl ?_)))
 refine AX rfl rfl (GC rfl rfl (AT rfl rfl (AV (hc:=bCell h0 5 rfl) rfl rfl ?_)))
 refine AC ?_
 refine AP (fuel:=5) [5] [(0,true)] rfl ?_
 refine AX rfl rfl (AC ?_)
 refine AD (i:=9) rfl ?_
 refine AQ 8 i2 (xs:=(([b0.last]:List Int):List Int)) rfl rfl rfl ⟨(vInt j2),trivial⟩ fun m8 n8 o8 e0 p4=>?_
 have hZ:=lZ e0
 refine AN [(10,[5])] hZ ?_
 refine AD (i:=10) rfl ?_
 obtain ⟨k2,k1,hm⟩:=bs hm
 obtain ⟨k1,q4,r4⟩:=AI k1
 replace e1:=e1.st e0
 refine AZ rfl e1 (p4.rd) rfl rfl q4 r4 fun s4 t4 p8 u4 j0 f1=>?_
 rw [← k1] at f1 ⊢
 have hZ:=j0.lst [5] (fun _ h=>by cases h;decide)
 refine AN [] hZ ?_
 refine AP (fuel:=1) [] [(11,true),(12,true)] rfl ?_
 refine GC rfl rfl (AT rfl rfl (AC ?_))
 refine AD (i:=13) rfl ?_
 replace h0:=(h0.st e0).st j0
 refine Az h0 rfl rfl rfl (AJ) (allOne) fun v4 n0 h0=>?_
 replace h0:Lc 2 v4 u4 p0 110 [(.slice c4 b0.t.vars.length d4),(.slice e4 b0.t.init.length f4),(.slice g4 b0.t.goal.length i4),(.slice j4 b0.t.jobs.length k4),(.slice l4 b0.first.length m4),(.int .i64 b0.last),(.slice n4 b0.left.length o4),(.slice s4 k2.length t4)]:=h0
 refine BF ?_
 refine Bv ?_
 replace y0:=((y0.st e0).st j0).st n0
 replace z0:=((z0.st e0).st j0).st n0
 replace a1:=((a1.st e0).st j0).st n0
 replace b1:=((b1.st e0).st j0).st n0
 replace c1:=((c1.st e0).st j0).st n0
 replace d1:=((d1.st e0).st j0).st n0
 replace f1:=f1.st n0
 obtain ⟨q8,w4,l5,m5,x4⟩:=Wtr.shut (x:=(⟨(⟨b0.t.vars,b0.t.init,b0.t.goal,b0.t.jobs⟩:Tpl),b0.first,b0.last,b0.left,k2⟩:Wtr)) (l0:=2) (l1:=3) (l2:=4) (l3:=5) (by decide) h0 y0 z0 a1 b1 c1 j2 d1 f1
 obtain rfl:=sm hm
 replace hB:=((((hB.st b4).st e0).st j0).st n0).st w4
 obtain ⟨O',hS',hz,hl⟩:=hE.leave (fun q=>if q=2 then i0 else 0) rfl hB
 exact ret0n rfl  ⟨O',hS',(Ob.leave x4 hz (hl 2 (by decide) (by decide)) m1.2)⟩
noncomputable def EY (x0:Tpl) (x1:List Lch):Option ((List Int)×Err) :=
  bnd (DC x0 x1) fun q27=>if q27.2.n≠0 then (some (([]:List Int),(⟨q27.2.n⟩:Err))) else (bnd (Cm x0) fun q41=>if q41.2.n≠0 then (some (([]:List Int),(⟨q41.2.n⟩:Err))) else (bnd (chkI (2 * (x1.length:Int))) fun n80=>bnd (chkI ((x0.jobs.length:Int) + 2)) fun n85=>bnd (chkI (q27.1 * n85)) fun n88=>bnd (chkI (n80 + n88)) fun n91=>if 65536 < n91 then (some (([]:List Int),(⟨5⟩:Err))) else (bnd (chkI ((q41.1.ops.length:Int) - 1)) fun n97=>bnd (mkI 8 (0:Int) (x0.jobs.length:Int)) fun u102=>bnd (chkI (2 * (x0.jobs.length:Int))) fun n122=>bnd (chkI (n122 + 1)) fun n125=>bnd (rng (ρ:=(List Int)×Err) (fun (k143:Nat) (a144:Job) (s141:Int×Wtr)=>bnd (appI 8 s141.2.first [s141.1]) fun u230=>bnd (chkI (a144.dur + 1)) fun n244=>bnd (chkI (s141.1 + n244)) fun n247=>some (.next (n247,(⟨(⟨s141.2.t.vars,s141.2.t.init,s141.2.t.goal,s141.2.t.jobs⟩:Tpl),u230,s141.2.last,s141.2.left,s141.2.out⟩:Wtr)))) x0.jobs 0 (n125,(⟨(⟨x0.vars,x0.init,x0.goal,x0.jobs⟩:Tpl),([]:List Int),n97,u102,([]:List Int)⟩:Wtr))) fun res139=>fin res139 fun (s259:Int×Wtr)=>bnd (Fs x1) fun q261=>bnd (chkI (q27.1 + 1)) fun n270=>bnd (natI n270) fun N286=>bnd (rngN (ρ:=(List Int)×Err) (fun (k277:Nat) (s275:Wtr)=>bnd (rng (ρ:=Ctl Wtr ((List Int)×Err)) (fun (k296:Nat) (a297:Job) (s294:Wtr)=>bnd (chkI ((k277:Int) - a297.dur)) fun n345=>bnd (BM x1 (⟨n345,(k296:Int)⟩:Lch)) fun q348=>if q348=true then bnd (chkI (2 * (k296:Int))) fun n391=>bnd (chkI (n391 + 1)) fun n394=>bnd (appI 8 s294.out [n394]) fun u397=>some (.next (⟨(⟨s294.t.vars,s294.t.init,s294.t.goal,s294.t.jobs⟩:Tpl),s294.first,s294.last,s294.left,u397⟩:Wtr)) else some (.next s294)) x0.jobs 0 s275) fun res292=>fin res292 fun (s420:Wtr)=>bnd (rng (ρ:=Ctl Wtr ((List Int)×Err)) (fun (k428:Nat) (a429:Lch) (s426:Wtr)=>if a429.tm=(k277:Int) then (bnd (chkI (2 * a429.job)) fun n494=>bnd (appI 8 s426.out ([n494]:List Int)) fun u503=>bnd (atI x0.jobs a429.job) fun a516=>bnd (atI s426.left a429.job) fun a549=>some (.next (⟨(⟨s426.t.vars,s426.t.init,s426.t.goal,s426.t.jobs⟩:Tpl),s426.first,s426.last,(s426.left.set (a429.job:Int).toNat a516.dur),u503⟩:Wtr))) else (some (.next s426))) q261 0 s420) fun res424=>fin res424 fun (s572:Wtr)=>if (k277:Int) < q27.1 then (bnd (De s572) fun q575=>some (.next q575)) else (some (.next s572))) N286 s259.2) fun res273=>fin res273 fun (s587:Wtr)=>some (s587.out,(⟨0⟩:Err)))))
theorem Mn {w:World} {A:Nat→Prop} (hA:∀ k,A k→k < w.heap.size) {vx0:Value} {x0:Tpl} (l7:Vb w A vx0 x0) {vx1:Value} {x1:List Lch} (g0:Vb w A vx1 x1) {r:(List Int)×Err} (hm:EY x0 x1=some r) :
    Fn prog 20 [vx0,vx1] w fun v w'=>Ext w w'∧T2 w' (upA A w w') v r:=by
 obtain ⟨O,hB,wD⟩:=enter hA
 replace l7:=l7.mono wD
 obtain ⟨eM,rfl,v4,v5,v6,v7,rfl,h8,j0,k0,a0⟩:=l7
 obtain ⟨A9,u1,rfl⟩:=h8.form
 obtain ⟨v1,w1,rfl⟩:=j0.form
 obtain ⟨y1,z1,rfl⟩:=k0.form
 obtain ⟨n1,o1,rfl⟩:=a0.form
 replace g0:=g0.mono wD
 obtain ⟨s2,t2,rfl⟩:=g0.form
 refine AL func20 rfl ntmps20 ?_
 unfold EY at hm
 refine Ab (Aa (BL 2 O rfl fun m2 m7 n7 b3 b0=>?_))
 replace b0:Lc 2 m7 n7 m2 26 [(.slice A9 x0.vars.length u1),(.slice v1 x0.init.length w1),(.slice y1 x0.goal.length z1),(.slice n1 x0.jobs.length o1)]:=b0
 refine Am rfl (Am rfl (o_z ?_))
 refine Ab (Aa (Bd (hl:=rfl) (hc:=(b0.1).cellsAt) rfl ?_))
 refine Ak rfl ?_
 obtain ⟨h4,bF,hm⟩:=bs hm
 replace g0:=g0.st b3
 replace h8:=h8.st b3
 replace j0:=j0.st b3
 replace k0:=k0.st b3
 replace a0:=a0.st b3
 refine Oi (O:=n7) (A:=All m7) (R:=fun w' F v=>T2 w' F v h4) (JH (fun _ h=>h) (Vb.mono (F:=Fr 0 m7 n7) (Vb.ofAgg (cs:=[(.slice A9 x0.vars.length u1),(.slice v1 x0.init.length w1),(.slice y1 x0.goal.length z1),(.slice n1 x0.jobs.length o1)]) (x:=x0) rfl ⟨_,_,_,_,rfl,h8,j0,k0,a0⟩) Fr.lt) (vMo g0) bF) rfl rfl fun fM cF xD v2 dF=>?_
 obtain ⟨gM,hM,rfl,eF,fF⟩:=dF
 obtain ⟨rfl,iM⟩:=eF.int
 obtain ⟨rfl,gF⟩:=fF.err
 refine Ak rfl (DU rfl rfl (DU rfl rfl (Am rfl (Am rfl (o_z ?_)))))
 refine Ab (Ab (Aa (Ak rfl (Jj rfl (fun o7=>?_) fun o7=>?_))))
 ·
  replace hm:=ip hm o7
  refine o_z ?_
  refine Ah rfl (Ab (Aa (Ak rfl (Am rfl (Am rfl (o_z ?_))))))
  refine AF ?_
  obtain rfl:=sm hm
  replace hB:=(hB.st b3).st v2
  exact ret2 rfl (AA rfl) (AA rfl) ⟨hB.ext,_,_,rfl,(Vb.mono (F:=Fr 0 cF xD) (Vb.nil _ _) hB.out),(vErr (h:=gF))⟩
 replace hm:=im hm o7
 refine o_z ?_
 refine Ae rfl (AO (Ab (Aa ?_)))
 replace b0:=b0.st v2
 refine Bd (hl:=rfl) (hc:=(b0.1).cellsAt) rfl ?_
 obtain ⟨m4,hF,hm⟩:=bs hm
 replace h8:=h8.st v2
 replace j0:=j0.st v2
 replace k0:=k0.st v2
 replace a0:=a0.st v2
 refine GV (O:=xD) (R:=fun w' F v=>T2 w' F v m4) (Gn Fr.lt (Vb.ofAgg (cs:=[(.slice A9 x0.vars.length u1),(.slice v1 x0.init.length w1),(.slice y1 x0.goal.length z1),(.slice n1 x0.jobs.length o1)]) (x:=x0) rfl ⟨_,_,_,_,rfl,h8,j0,k0,a0⟩) hF) rfl rfl fun jM kM jF c3 kF=>?_
 obtain ⟨lM,mM,rfl,lF,mF⟩:=kF
 obtain ⟨nF,rfl,nM,oM,pM,qM,rfl,oF,pF,qF,g5⟩:=lF
 obtain ⟨rF,sF,rfl⟩:=oF.form
 obtain ⟨tF,uF,rfl⟩:=pF.form
 obtain ⟨vF,wF,rfl⟩:=qF.form
 obtain ⟨xF,yF,rfl⟩:=g5.form
 obtain ⟨rfl,zF⟩:=mF.err
 refine Ak rfl (DU rfl rfl (DU rfl rfl (AU 3 jF fun aG rM h5 w2 i5=>?_)))
 refine Az i5 rfl rfl rfl (AJ) (allOne) fun p7 x2 i5=>?_
 replace i5:Lc 3 p7 h5 aG 31 [(.slice rF m4.1.vars.length sF),(.slice tF m4.1.init.length uF),(.slice vF m4.1.goal.length wF),(.slice xF m4.1.ops.length yF)]:=i5
 refine Am rfl (o_z ?_)
 refine Ab (Ab (Aa (Ak rfl (Jj rfl (fun q7=>?_) fun q7=>?_))))
 ·
  replace hm:=ip hm q7
  refine o_z ?_
  refine Ah rfl (Ab (Aa (Ak rfl (Am rfl (Am rfl (o_z ?_))))))
  refine AF ?_
  obtain rfl:=sm hm
  replace hB:=((((hB.st b3).st v2).st c3).st w2).st x2
  exact ret2 rfl (AA rfl) (AA rfl) ⟨hB.ext,_,_,rfl,(Vb.mono (F:=Fr 0 p7 h5) (Vb.nil _ _) hB.out),(vErr (h:=zF))⟩
 replace hm:=im hm q7
 refine o_z ?_
 refine Ae rfl (AO (Ab (Ab (Aa (Ak rfl (AS rfl ?_))))))
 replace g0:=(((g0.st v2).st c3).st w2).st x2
 have bG:x1.length≤9223372036854775807:=Nat.le_trans g0.len.2.1 g0.len.2.2
 have sM:inI64 (x1.length:Int):=rngNat bG
 obtain ⟨tM,yD,hm⟩:=bs hm
 have uM:=(Bq yD)
 refine Iz (he:=yD) rfl rfl ?_
 refine Ak rfl (Ax rfl ?_)
 replace b0:=((b0.st c3).st w2).st x2
 refine At (hc:=Blk.cell (i:=3) (b0.1) rfl) rfl ?_
 refine AS rfl ?_
 replace a0:=((a0.st c3).st w2).st x2
 have cG:x0.jobs.length≤9223372036854775807:=Nat.le_trans a0.len.2.1 a0.len.2.2
 have vM:inI64 (x0.jobs.length:Int):=rngNat cG
 obtain ⟨wM,zD,hm⟩:=bs hm
 have xM:=(Bq zD)
 refine Dn (he:=zD) rfl rfl ?_
 obtain ⟨yM,aE,hm⟩:=bs hm
 have zM:=(Bq aE)
 refine Iz (he:=aE) rfl rfl ?_
 obtain ⟨aN,bE,hm⟩:=bs hm
 have bN:=(Bq bE)
 refine Dn (he:=bE) rfl rfl ?_
 refine BW rfl rfl (fun r7=>?_) fun r7=>?_
 ·
  replace hm:=ip hm r7
  refine o_z ?_
  refine Ah rfl (Ab (Aa (Gd rfl ?_)))
  refine Am rfl (Am rfl (o_z ?_))
  refine AF ?_
  obtain rfl:=sm hm
  replace hB:=((((hB.st b3).st v2).st c3).st w2).st x2
  exact ret2 rfl (AA rfl) (AA rfl) ⟨hB.ext,_,_,rfl,(Vb.mono (F:=Fr 0 p7 h5) (Vb.nil _ _) hB.out),(vErr)⟩
 replace hm:=im hm r7
 refine o_z ?_
 refine Ae rfl (AO (Ab (Br [] h5 ?_)))
 refine AP (fuel:=4) [] [(0,true),(1,true),(2,true),(3,true),(4,true),(5,true),(6,true),(7,true)] rfl ?_
 refine CJ (hl:=rfl) (hb:=fun w' ⟨O',hq⟩=>((b0.st hq (by decide)).1).cellsAt) rfl rfl ?_
 refine AT rfl rfl (AV (hc:=bCell i5 3 rfl) rfl rfl ?_)
 refine JQ rfl rfl ?_
 replace g5:=(g5.st w2).st x2
 have dG:m4.1.ops.length≤9223372036854775807:=Nat.le_trans g5.len.2.1 g5.len.2.2
 have cN:inI64 (m4.1.ops.length:Int):=rngNat dG
 obtain ⟨cE,dE,hm⟩:=bs hm
 have eG:=(Bq dE)
 refine OT (he:=dE) rfl rfl rfl rfl ?_
 refine AT rfl rfl (AV (hc:=bCell b0 3 rfl) rfl rfl ?_)
 refine JQ rfl rfl ?_
 have s7:x0.jobs.length≤9223372036854775807:=Nat.le_trans a0.len.2.1 a0.len.2.2
 have fG:inI64 (x0.jobs.length:Int):=rngNat s7
 refine AC ?_
 refine AD (i:=8) rfl ?_
 obtain ⟨j5,t7,hm⟩:=bs hm
 obtain ⟨u7,w7,x7,y7,z7⟩:=Lf t7
 refine Ns 4 h5 (z0:=(0:Int)) rfl rfl rfl rfl rfl w7 (vInt (iI64 0)) x7 y7 rfl fun a8 gG b8 m1 d3=>?_
 rw [← z7] at d3 ⊢
 have hZ:=lZ m1
 refine AN [] hZ ?_
 refine AP (fuel:=2) [] [(9,true)] rfl ?_
 refine Cq rfl rfl rfl ?_
 refine AC ?_
 refine AD (i:=10) rfl ?_
 refine BL 5 b8 rfl fun m0 n4 o4 g1 p4=>?_
 replace p4:Lc 5 n4 o4 m0 110 [(.slice A9 x0.vars.length u1),(.slice v1 x0.init.length w1),(.slice y1 x0.goal.length z1),(.slice n1 x0.jobs.length o1),(.slice none 0 0),(.int .i64 cE),(.slice (some ⟨a8,0,none⟩) j5.length u7),(.slice none 0 0)]:=p4
 have hZ:=lZ g1
 refine AN [] hZ ?_
 refine AP (fuel:=0) [] [(11,true)] rfl ?_
 refine Nr rfl rfl rfl (AC ?_)
 refine Bv ?_
 refine Ab (Aa (Ax rfl ?_))
 replace b0:=(b0.st m1).st g1
 refine At (hc:=Blk.cell (i:=3) (b0.1) rfl) rfl ?_
 refine AS rfl ?_
 replace a0:=(a0.st m1).st g1
 have c8:x0.jobs.length≤9223372036854775807:=Nat.le_trans a0.len.2.1 a0.len.2.2
 have hG:inI64 (x0.jobs.length:Int):=rngNat c8
 obtain ⟨iG,k5,hm⟩:=bs hm
 have jG:=(Bq k5)
 refine Iz (he:=k5) rfl rfl ?_
 obtain ⟨kG,l5,hm⟩:=bs hm
 have d8:=(Bq l5)
 refine Dn (he:=l5) rfl rfl ?_
 refine Am rfl (o_z ?_)
 refine Ab (Ab (Aa (Ax rfl (At (hc:=Blk.cell (i:=3) (b0.1) rfl) rfl ?_))))
 refine AS rfl ?_
 have q4:x0.jobs.length≤9223372036854775807:=Nat.le_trans a0.len.2.1 a0.len.2.2
 have lG:inI64 (x0.jobs.length:Int):=rngNat q4
 refine Ak rfl (o_z ?_)
 have e8:Rw 6 n4 o4 3 (.slice none 0 0) ([]:List Int):=Rw.nil 6 (by decide)
 have f8:Rw 7 n4 o4 3 (.slice none 0 0) ([]:List Int):=Rw.nil 7 (by decide)
 replace h8:=((((h8.st c3).st w2).st x2).st m1).st g1
 replace j0:=((((j0.st c3).st w2).st x2).st m1).st g1
 replace k0:=((((k0.st c3).st w2).st x2).st m1).st g1
 replace d3:=d3.st g1
 obtain ⟨g8,e1,eE,fE,i8⟩:=Wtr.shut (x:=(⟨(⟨x0.vars,x0.init,x0.goal,x0.jobs⟩:Tpl),([]:List Int),cE,j5,([]:List Int)⟩:Wtr)) (l0:=5) (l1:=6) (l2:=4) (l3:=7) (by decide) p4 h8 j0 k0 a0 e8 eG d3 f8
 obtain ⟨r4,m5,hm⟩:=bs hm
 refine Ay (aft r4 (fun (e0:Int×Wtr) (e3:Unit)=>[(1,(.slice s2 x1.length t2)),(2,(.pointer (some ⟨m2,0,none⟩))),(6,(.int .i64 h4.1)),(9,(.pointer (some ⟨m0,0,none⟩)))]) (fun e0 e3 w'=>∃ O':Lab,Bs w A w' O'∧Vb w' (Fr 0 w' O') (.slice s2 x1.length t2) x1∧Lc 2 w' O' m2 26 [(.slice A9 x0.vars.length u1),(.slice v1 x0.init.length w1),(.slice y1 x0.goal.length z1),(.slice n1 x0.jobs.length o1)]∧Vb w' (Fr 0 w' O') (.slice A9 x0.vars.length u1) x0.vars∧Vb w' (Fr 0 w' O') (.slice v1 x0.init.length w1) x0.init∧Vb w' (Fr 0 w' O') (.slice y1 x0.goal.length z1) x0.goal∧Vb w' (Fr 0 w' O') (.slice n1 x0.jobs.length o1) x0.jobs∧Ob 5 w' O' (.pointer (some ⟨m0,0,none⟩)) e0.2∧inI64 e0.1)) ?_ ?_
 ·
  refine AK ?_
  replace hB:=(((((((hB.st b3).st v2).st c3).st w2).st x2).st m1).st g1).st e1
  replace g0:=((g0.st m1).st g1).st e1
  replace h8:=h8.st e1
  replace j0:=j0.st e1
  replace k0:=k0.st e1
  replace a0:=a0.st e1
  replace b0:=b0.st e1
  refine AY (σ:=Int×Wtr) (X:=Unit) (x0.jobs.length) m5 rfl q4 (fun (e0:Int×Wtr) (e3:Unit)=>[(1,(.slice s2 x1.length t2)),(2,(.pointer (some ⟨m2,0,none⟩))),(6,(.int .i64 h4.1)),(9,(.pointer (some ⟨m0,0,none⟩))),(10,(.int .i64 e0.1)),(65,(.slice n1 x0.jobs.length o1))]) _ (fun e0 e3 w'=>∃ O':Lab,Bs w A w' O'∧Vb w' (Fr 0 w' O') (.slice s2 x1.length t2) x1∧Lc 2 w' O' m2 26 [(.slice A9 x0.vars.length u1),(.slice v1 x0.init.length w1),(.slice y1 x0.goal.length z1),(.slice n1 x0.jobs.length o1)]∧Vb w' (Fr 0 w' O') (.slice A9 x0.vars.length u1) x0.vars∧Vb w' (Fr 0 w' O') (.slice v1 x0.init.length w1) x0.init∧Vb w' (Fr 0 w' O') (.slice y1 x0.goal.length z1) x0.goal∧Vb w' (Fr 0 w' O') (.slice n1 x0.jobs.length o1) x0.jobs∧Ob 5 w' O' (.pointer (some ⟨m0,0,none⟩)) e0.2∧inI64 e0.1) _ () ⟨g8,hB,g0,b0,h8,j0,k0,a0,i8,d8⟩ ⟨rfl,rfl,rfl,rfl,rfl,rfl,rfl,rfl,trivial⟩ (fun _ _=>⟨rfl,rfl⟩) (fun _ _=>⟨rfl,rfl,rfl,rfl,trivial⟩) (fun _ _ _ ⟨O',hB,g0,b0,h8,j0,k0,a0,p1,f3⟩=>⟨O',hB,g0,b0,h8,j0,k0,a0,p1,f3⟩) ⟨rfl,rfl,rfl⟩ ⟨rfl,rfl⟩ ?_
  rintro j8 n2 e0 e3 mG gE i4 ⟨k8,hB,g0,b0,h8,j0,k0,a0,p1,f3⟩ h1 d7 e7
  have rk143:inI64 (j8:Int):=rngK i4 q4
  refine Ab (Aa ?_)
  obtain ⟨nG,oG,hE,n5,o5,p5,pG,qG,rG,sG,tG,rfl,l8,m8,n8,o8,p8,uG,vG⟩:=a0.elem' i4
  obtain ⟨q8,r8,rfl⟩:=l8.form
  obtain ⟨s8,t8,rfl⟩:=m8.form
  obtain ⟨u8,v8,rfl⟩:=n8.form
  obtain ⟨w8,x8,rfl⟩:=o8.form
  obtain ⟨y8,z8,rfl⟩:=p8.form
  refine Bi (hA:=n5) (hj:=rfl) (hlt:=o5) rfl rfl ?_
  refine Bd (hl:=rfl) (hc:=p5) rfl ?_
  refine AU 8 k8 fun a9 wG b9 a2 o2=>?_
  refine Az o2 rfl rfl rfl (AJ) (allOne) fun c9 b2 o2=>?_
  replace o2:Lc 8 c9 b9 a9 66 [(.string n2.name),(.int .i64 n2.dur),(.slice q8 n2.start.length r8),(.slice s8 n2.over.length t8),(.slice u8 n2.fin.length v8),(.slice w8 n2.atStart.length x8),(.slice y8 n2.atEnd.length z8)]:=o2
  refine o_z ?_
  refine Ab (Aa (Ak rfl (Ak rfl (Mg rfl rfl ?_))))
  replace p1:=(p1.st a2).st b2
  obtain ⟨xG,yG,zG,aH,bH,cH,dH,eH,c2,iE,d2,g3,h3,i3,j3,q5,d9,k3,m3⟩:=Wtr.opn p1 5 9 10 11 (by decide)
  obtain ⟨e9,f9,rfl⟩:=g3.form
  obtain ⟨g9,h9,rfl⟩:=h3.form
  obtain ⟨i9,j9,rfl⟩:=i3.form
  obtain ⟨k9,l9,rfl⟩:=j3.form
  obtain ⟨fH,gH,rfl⟩:=q5.form
  obtain ⟨m9,n9,rfl⟩:=k3.form
  obtain ⟨o9,p9,rfl⟩:=m3.form
  refine Ax rfl (At (hc:=Blk.cell (i:=4) (d2.1) rfl) rfl ?_)
  refine Ak rfl ?_
  obtain ⟨r5,s4,h1⟩:=bs h1
  obtain ⟨s4,q9,r9⟩:=AI s4
  refine BC rfl (a:=e0.1) q5 (vInt f3) (fun _=>rfl) rfl q9 r9 ⟨rfl,rfl⟩ fun hH s9 t9 iH u9 y0 n3=>?_
  rw [← s4] at n3 ⊢
  refine Mg rfl rfl (Ax rfl ?_)
  replace d2:=d2.st y0
  refine Az d2 rfl rfl rfl (AJ) (allOne) fun v9 a1 d2=>?_
  replace d2:Lc 5 v9 u9 m0 110 [(.slice e9 e0.2.t.vars.length f9),(.slice g9 e0.2.t.init.length h9),(.slice i9 e0.2.t.goal.length j9),(.slice k9 e0.2.t.jobs.length l9),(.slice s9 r5.length t9),(.int .i64 e0.2.last),(.slice m9 e0.2.left.length n9),(.slice o9 e0.2.out.length p9)]:=d2
  refine o_z ?_
  refine Aa (Ak rfl (Ax rfl ?_))
  replace o2:=((o2.st c2).st y0).st a1
  refine At (hc:=Blk.cell (i:=1) (o2.1) rfl) rfl ?_
  obtain ⟨jH,s5,h1⟩:=bs h1
  have kH:=(Bq s5)
  refine Dn (he:=s5) rfl rfl ?_
  obtain ⟨lH,t5,h1⟩:=bs h1
  have w9:=(Bq t5)
  refine Dn (he:=t5) rfl rfl ?_
  refine Am rfl (o_z ?_)
  replace g3:=(g3.st y0).st a1
  replace h3:=(h3.st y0).st a1
  replace i3:=(i3.st y0).st a1
  replace j3:=(j3.st y0).st a1
  replace k3:=(k3.st y0).st a1
  replace m3:=(m3.st y0).st a1
  replace n3:=n3.st a1
  obtain ⟨mH,p2,jE,kE,x9⟩:=Wtr.shut (x:=(⟨(⟨e0.2.t.vars,e0.2.t.init,e0.2.t.goal,e0.2.t.jobs⟩:Tpl),r5,e0.2.last,e0.2.left,e0.2.out⟩:Wtr)) (l0:=5) (l1:=9) (l2:=10) (l3:=11) (by decide) d2 g3 h3 i3 j3 n3 d9 k3 m3
  obtain rfl:=sm h1
  exact show Exists _ from ⟨_,(),rfl,⟨rfl,rfl,rfl,rfl,rfl,rfl,rfl,rfl,trivial⟩,_,(((((hB.st a2).st b2).st c2).st y0).st a1).st p2,(((((g0.st a2).st b2).st c2).st y0).st a1).st p2,(((((b0.st a2).st b2).st c2).st y0).st a1).st p2,(((((h8.st a2).st b2).st c2).st y0).st a1).st p2,(((((j0.st a2).st b2).st c2).st y0).st a1).st p2,(((((k0.st a2).st b2).st c2).st y0).st a1).st p2,(((((a0.st a2).st b2).st c2).st y0).st a1).st p2,x9,w9⟩
 replace hB:=(((((((hB.st b3).st v2).st c3).st w2).st x2).st m1).st g1).st e1
 replace g0:=((g0.st m1).st g1).st e1
 replace h8:=h8.st e1
 replace j0:=j0.st e1
 replace k0:=k0.st e1
 replace a0:=a0.st e1
 replace b0:=b0.st e1
 rintro nH oH ⟨pH,qH,rfl,u5,y9,hB,g0,b0,h8,j0,k0,a0,p1,f3⟩
 replace hm:=AR hm
 refine AH _ u5 ?_
 refine Ab (Aa (Ak rfl ?_))
 obtain ⟨o0,z9,hm⟩:=bs hm
 refine Cc (O:=y9) (Lq Fr.lt g0 z9) rfl fun rH sH aA q1 f0=>?_
 obtain ⟨i1,j1,rfl⟩:=f0.form
 refine Am rfl (o_z ?_)
 refine Ab (Ab (Aa (Ak rfl ?_)))
 obtain ⟨tH,w5,hm⟩:=bs hm
 have x5:=(Bq w5)
 refine Dn (he:=w5) rfl rfl ?_
 refine Ak rfl (o_z ?_)
 obtain ⟨y2,e2,hm⟩:=bs hm
 replace e2:=Hx e2
 obtain ⟨t4,y5,hm⟩:=bs hm
 refine Ay (aft t4 (fun (u2:Wtr) (o3:Unit)=>[(9,(.pointer (some ⟨m0,0,none⟩)))]) (fun u2 o3 w'=>∃ O':Lab,Bs w A w' O'∧Ob 5 w' O' (.pointer (some ⟨m0,0,none⟩)) u2)) ?_ ?_
 ·
  refine AK ?_
  replace hB:=hB.st q1
  replace g0:=g0.st q1
  replace h8:=h8.st q1
  replace j0:=j0.st q1
  replace k0:=k0.st q1
  replace a0:=a0.st q1
  replace b0:=b0.st q1
  replace p1:=p1.st q1
  refine Fp (σ:=Wtr) (X:=Unit) y2 y5 (FH e2 x5) (fun (u2:Wtr) (o3:Unit)=>[(1,(.slice s2 x1.length t2)),(2,(.pointer (some ⟨m2,0,none⟩))),(6,(.int .i64 h4.1)),(9,(.pointer (some ⟨m0,0,none⟩))),(13,(.slice i1 o0.length j1))]) _ (fun u2 o3 w'=>∃ O':Lab,Bs w A w' O'∧Vb w' (Fr 0 w' O') (.slice s2 x1.length t2) x1∧Lc 2 w' O' m2 26 [(.slice A9 x0.vars.length u1),(.slice v1 x0.init.length w1),(.slice y1 x0.goal.length z1),(.slice n1 x0.jobs.length o1)]∧Vb w' (Fr 0 w' O') (.slice A9 x0.vars.length u1) x0.vars∧Vb w' (Fr 0 w' O') (.slice v1 x0.init.length w1) x0.init∧Vb w' (Fr 0 w' O') (.slice y1 x0.goal.length z1) x0.goal∧Vb w' (Fr 0 w' O') (.slice n1 x0.jobs.length o1) x0.jobs∧Ob 5 w' O' (.pointer (some ⟨m0,0,none⟩)) u2∧Vb w' (Fr 0 w' O') (.slice i1 o0.length j1) o0) _ () ⟨aA,hB,g0,b0,h8,j0,k0,a0,p1,f0⟩ ⟨rfl,(congrArg (fun z=>some (Value.int .i64 z)) e2),rfl,rfl,rfl,rfl,rfl,trivial⟩ (fun _ _=>⟨rfl,rfl⟩) (fun _ _=>⟨rfl,trivial⟩) (fun _ _ _ ⟨O',hB,g0,b0,h8,j0,k0,a0,z2,f0⟩=>⟨O',hB,z2⟩) ⟨rfl,rfl,rfl⟩ ⟨rfl,rfl⟩ ?_
  rintro r1 u2 o3 uH lE z5 ⟨bA,hB,g0,b0,h8,j0,k0,a0,z2,f0⟩ c0 f7 g7
  have rk277:inI64 (r1:Int):=rngKN z5 (FH e2 x5)
  refine Ab (Aa (Ak rfl (Am rfl (o_z ?_))))
  refine Ab (Ab (Aa (Ax rfl (At (hc:=Blk.cell (i:=3) (b0.1) rfl) rfl ?_))))
  refine AS rfl ?_
  have u4:x0.jobs.length≤9223372036854775807:=Nat.le_trans a0.len.2.1 a0.len.2.2
  have vH:inI64 (x0.jobs.length:Int):=rngNat u4
  refine Ak rfl (o_z ?_)
  obtain ⟨w4,a6,c0⟩:=bs c0
  refine Ay (aft w4 (fun (n0:Wtr) (p3:Unit)=>[(1,(.slice s2 x1.length t2)),(2,(.pointer (some ⟨m2,0,none⟩))),(6,(.int .i64 h4.1)),(9,(.pointer (some ⟨m0,0,none⟩))),(13,(.slice i1 o0.length j1)),(14,(.int .i64 (r1:Int))),(90,(.int .i64 (y2:Int))),(91,(.int .i64 (r1:Int)))]) (fun n0 p3 w'=>∃ O':Lab,Bs w A w' O'∧Vb w' (Fr 0 w' O') (.slice s2 x1.length t2) x1∧Lc 2 w' O' m2 26 [(.slice A9 x0.vars.length u1),(.slice v1 x0.init.length w1),(.slice y1 x0.goal.length z1),(.slice n1 x0.jobs.length o1)]∧Vb w' (Fr 0 w' O') (.slice A9 x0.vars.length u1) x0.vars∧Vb w' (Fr 0 w' O') (.slice v1 x0.init.length w1) x0.init∧Vb w' (Fr 0 w' O') (.slice y1 x0.goal.length z1) x0.goal∧Vb w' (Fr 0 w' O') (.slice n1 x0.jobs.length o1) x0.jobs∧Ob 5 w' O' (.pointer (some ⟨m0,0,none⟩)) n0∧Vb w' (Fr 0 w' O') (.slice i1 o0.length j1) o0)) ?_ ?_
  ·
   refine AK (AY (σ:=Wtr) (X:=Unit) (x0.jobs.length) a6 rfl u4 (fun (n0:Wtr) (p3:Unit)=>[(1,(.slice s2 x1.length t2)),(2,(.pointer (some ⟨m2,0,none⟩))),(6,(.int .i64 h4.1)),(9,(.pointer (some ⟨m0,0,none⟩))),(13,(.slice i1 o0.length j1)),(14,(.int .i64 (r1:Int))),(90,(.int .i64 (y2:Int))),(91,(.int .i64 (r1:Int))),(95,(.slice n1 x0.jobs.length o1))]) _ (fun n0 p3 w'=>∃ O':Lab,Bs w A w' O'∧Vb w' (Fr 0 w' O') (.slice s2 x1.length t2) x1∧Lc 2 w' O' m2 26 [(.slice A9 x0.vars.length u1),(.slice v1 x0.init.length w1),(.slice y1 x0.goal.length z1),(.slice n1 x0.jobs.length o1)]∧Vb w' (Fr 0 w' O') (.slice A9 x0.vars.length u1) x0.vars∧Vb w' (Fr 0 w' O') (.slice v1 x0.init.length w1) x0.init∧Vb w' (Fr 0 w' O') (.slice y1 x0.goal.length z1) x0.goal∧Vb w' (Fr 0 w' O') (.slice n1 x0.jobs.length o1) x0.jobs∧Ob 5 w' O' (.pointer (some ⟨m0,0,none⟩)) n0∧Vb w' (Fr 0 w' O') (.slice i1 o0.length j1) o0) _ () ⟨bA,hB,g0,b0,h8,j0,k0,a0,z2,f0⟩ ⟨rfl,rfl,rfl,rfl,rfl,rfl,rfl,rfl,rfl,rfl,rfl,trivial⟩ (fun _ _=>⟨rfl,rfl⟩) (fun _ _=>⟨rfl,rfl,rfl,rfl,rfl,rfl,rfl,rfl,trivial⟩) (fun _ _ _ ⟨O',hB,g0,b0,h8,j0,k0,a0,f2,f0⟩=>⟨O',hB,g0,b0,h8,j0,k0,a0,f2,f0⟩) ⟨rfl,rfl,rfl⟩ ⟨rfl,rfl⟩ ?_)
   rintro x4 q2 n0 p3 wH mE j4 ⟨cA,hB,g0,b0,h8,j0,k0,a0,f2,f0⟩ d0 h7 i7
   have rk296:inI64 (x4:Int):=rngK j4 u4
   refine Ab (Aa (Ak rfl ?_))
   obtain ⟨xH,yH,nE,b6,c6,d6,zH,aI,bI,cI,dI,rfl,dA,eA,fA,gA,iA,eI,fI⟩:=a0.elem' j4
   obtain ⟨jA,kA,rfl⟩:=dA.form
   obtain ⟨lA,mA,rfl⟩:=eA.form
   obtain ⟨nA,oA,rfl⟩:=fA.form
   obtain ⟨pA,qA,rfl⟩:=gA.form
   obtain ⟨rA,sA,rfl⟩:=iA.form
   refine Bi (hA:=b6) (hj:=rfl) (hlt:=c6) rfl rfl ?_
   refine Bd (hl:=rfl) (hc:=d6) rfl ?_
   refine AU 12 cA fun tA gI y4 t0 a3=>?_
   refine Am rfl (Az a3 rfl rfl rfl (AJ) (allOne) fun e6 u0 a3=>?_)
   replace a3:Lc 12 e6 y4 tA 66 [(.string q2.name),(.int .i64 q2.dur),(.slice jA q2.start.length kA),(.slice lA q2.over.length mA),(.slice nA q2.fin.length oA),(.slice pA q2.atStart.length qA),(.slice rA q2.atEnd.length sA)]:=a3
   refine o_z ?_
   refine Ab (Aa (Ak rfl (Ak rfl (Ax rfl (At (hc:=Blk.cell (i:=1) (a3.1) rfl) rfl ?_)))))
   obtain ⟨f6,g6,d0⟩:=bs d0
   have uA:=(Bq g6)
   refine Kq (he:=g6) rfl rfl rfl ?_
   refine Ak rfl (Cl rfl rfl ?_)
   obtain ⟨vA,wA,d0⟩:=bs d0
   replace g0:=(g0.st t0).st u0
   refine AM (O:=y4) (Ft (fun _ h=>h) (vMo g0) (Vb.mono (F:=Fr 0 e6 y4) (Vb.ofAgg (cs:=[(.int .i64 f6),(.int .i64 (x4:Int))]) (x:=(⟨f6,(x4:Int)⟩:Lch)) rfl ⟨rfl,uA,rk296⟩) Fr.lt) wA) rfl fun hI iI jI p0 xA=>?_
   obtain rfl:=xA.bool
   cases vA
   case false =>
    replace d0:=iF d0
    refine o_z ?_
    refine Ae rfl (AO ?_)
    obtain rfl:=sm d0
    exact show Exists _ from ⟨_,(),rfl,⟨rfl,rfl,rfl,rfl,rfl,rfl,rfl,rfl,rfl,rfl,rfl,trivial⟩,_,((hB.st t0).st u0).st p0,g0.st p0,((b0.st t0).st u0).st p0,((h8.st t0).st u0).st p0,((j0.st t0).st u0).st p0,((k0.st t0).st u0).st p0,((a0.st t0).st u0).st p0,((f2.st t0).st u0).st p0,((f0.st t0).st u0).st p0⟩
   replace d0:=iT d0
   refine o_z ?_
   refine Ah rfl (Aa (Ak rfl (Ak rfl (Mg rfl rfl ?_))))
   replace f2:=((f2.st t0).st u0).st p0
   obtain ⟨kI,lI,mI,nI,oI,pI,qI,rI,g2,oE,h2,q3,r3,s3,t3,u3,yA,v3,h6⟩:=Wtr.opn f2 5 9 10 11 (by decide)
   obtain ⟨zA,aB,rfl⟩:=q3.form
   obtain ⟨bB,cB,rfl⟩:=r3.form
   obtain ⟨dB,eB,rfl⟩:=s3.form
   obtain ⟨fB,gB,rfl⟩:=t3.form
   obtain ⟨iB,jB,rfl⟩:=u3.form
   obtain ⟨kB,lB,rfl⟩:=v3.form
   obtain ⟨sI,tI,rfl⟩:=h6.form
   refine Ax rfl (At (hc:=Blk.cell (i:=7) (h2.1) rfl) rfl ?_)
   refine Ak rfl ?_
   obtain ⟨uI,i6,d0⟩:=bs d0
   have vI:=(Bq i6)
   refine Iz (he:=i6) rfl rfl ?_
   obtain ⟨mB,j6,d0⟩:=bs d0
   have nB:=(Bq j6)
   refine Dn (he:=j6) rfl rfl ?_
   obtain ⟨k6,z4,d0⟩:=bs d0
   obtain ⟨z4,oB,pB⟩:=AI z4
   refine BC rfl (a:=mB) h6 (vInt nB) (fun _=>rfl) rfl oB pB ⟨rfl,rfl⟩ fun wI qB rB xI sB b1 w3=>?_
   rw [← z4] at w3 ⊢
   refine Mg rfl rfl (Ax rfl ?_)
   replace h2:=h2.st b1
   refine Az h2 rfl rfl rfl (AJ) (allOne) fun tB c1 h2=>?_
   replace h2:Lc 5 tB sB m0 110 [(.slice zA n0.t.vars.length aB),(.slice bB n0.t.init.length cB),(.slice dB n0.t.goal.length eB),(.slice fB n0.t.jobs.length gB),(.slice iB n0.first.length jB),(.int .i64 n0.last),(.slice kB n0.left.length lB),(.slice qB k6.length rB)]:=h2
   refine o_z ?_
   replace q3:=(q3.st b1).st c1
   replace r3:=(r3.st b1).st c1
   replace s3:=(s3.st b1).st c1
   replace t3:=(t3.st b1).st c1
   replace u3:=(u3.st b1).st c1
   replace v3:=(v3.st b1).st c1
   replace w3:=w3.st c1
   obtain ⟨yI,i2,pE,qE,uB⟩:=Wtr.shut (x:=(⟨(⟨n0.t.vars,n0.t.init,n0.t.goal,n0.t.jobs⟩:Tpl),n0.first,n0.last,n0.left,k6⟩:Wtr)) (l0:=5) (l1:=9) (l2:=10) (l3:=11) (by decide) h2 q3 r3 s3 t3 u3 yA v3 w3
   obtain rfl:=sm d0
   exact show Exists _ from ⟨_,(),rfl,⟨rfl,rfl,rfl,rfl,rfl,rfl,rfl,rfl,rfl,rfl,rfl,trivial⟩,_,((((((hB.st t0).st u0).st p0).st g2).st b1).st c1).st i2,((((g0.st p0).st g2).st b1).st c1).st i2,((((((b0.st t0).st u0).st p0).st g2).st b1).st c1).st i2,((((((h8.st t0).st u0).st p0).st g2).st b1).st c1).st i2,((((((j0.st t0).st u0).st p0).st g2).st b1).st c1).st i2,((((((k0.st t0).st u0).st p0).st g2).st b1).st c1).st i2,((((((a0.st t0).st u0).st p0).st g2).st b1).st c1).st i2,uB,((((((f0.st t0).st u0).st p0).st g2).st b1).st c1).st i2⟩
  rintro zI aJ ⟨bJ,cJ,rfl,l6,vB,hB,g0,b0,h8,j0,k0,a0,f2,f0⟩
  replace c0:=AR c0
  refine AH _ l6 ?_
  refine Ab (Ab (Aa (Ak rfl (AS rfl ?_))))
  have a5:o0.length≤9223372036854775807:=Nat.le_trans f0.len.2.1 f0.len.2.2
  have dJ:inI64 (o0.length:Int):=rngNat a5
  refine Ak rfl (o_z ?_)
  obtain ⟨b5,m6,c0⟩:=bs c0
  refine Ay (aft b5 (fun (h0:Wtr) (x3:Unit)=>[(1,(.slice s2 x1.length t2)),(2,(.pointer (some ⟨m2,0,none⟩))),(6,(.int .i64 h4.1)),(9,(.pointer (some ⟨m0,0,none⟩))),(13,(.slice i1 o0.length j1)),(14,(.int .i64 (r1:Int))),(90,(.int .i64 (y2:Int))),(91,(.int .i64 (r1:Int)))]) (fun h0 x3 w'=>∃ O':Lab,Bs w A w' O'∧Vb w' (Fr 0 w' O') (.slice s2 x1.length t2) x1∧Lc 2 w' O' m2 26 [(.slice A9 x0.vars.length u1),(.slice v1 x0.init.length w1),(.slice y1 x0.goal.length z1),(.slice n1 x0.jobs.length o1)]∧Vb w' (Fr 0 w' O') (.slice A9 x0.vars.length u1) x0.vars∧Vb w' (Fr 0 w' O') (.slice v1 x0.init.length w1) x0.init∧Vb w' (Fr 0 w' O') (.slice y1 x0.goal.length z1) x0.goal∧Vb w' (Fr 0 w' O') (.slice n1 x0.jobs.length o1) x0.jobs∧Ob 5 w' O' (.pointer (some ⟨m0,0,none⟩)) h0∧Vb w' (Fr 0 w' O') (.slice i1 o0.length j1) o0)) ?_ ?_
  ·
   refine AK (AY (σ:=Wtr) (X:=Unit) (o0.length) m6 rfl a5 (fun (h0:Wtr) (x3:Unit)=>[(1,(.slice s2 x1.length t2)),(2,(.pointer (some ⟨m2,0,none⟩))),(6,(.int .i64 h4.1)),(9,(.pointer (some ⟨m0,0,none⟩))),(13,(.slice i1 o0.length j1)),(14,(.int .i64 (r1:Int))),(90,(.int .i64 (y2:Int))),(91,(.int .i64 (r1:Int))),(123,(.slice i1 o0.length j1))]) _ (fun h0 x3 w'=>∃ O':Lab,Bs w A w' O'∧Vb w' (Fr 0 w' O') (.slice s2 x1.length t2) x1∧Lc 2 w' O' m2 26 [(.slice A9 x0.vars.length u1),(.slice v1 x0.init.length w1),(.slice y1 x0.goal.length z1),(.slice n1 x0.jobs.length o1)]∧Vb w' (Fr 0 w' O') (.slice A9 x0.vars.length u1) x0.vars∧Vb w' (Fr 0 w' O') (.slice v1 x0.init.length w1) x0.init∧Vb w' (Fr 0 w' O') (.slice y1 x0.goal.length z1) x0.goal∧Vb w' (Fr 0 w' O') (.slice n1 x0.jobs.length o1) x0.jobs∧Ob 5 w' O' (.pointer (some ⟨m0,0,none⟩)) h0∧Vb w' (Fr 0 w' O') (.slice i1 o0.length j1) o0) _ () ⟨vB,hB,g0,b0,h8,j0,k0,a0,f2,f0⟩ ⟨rfl,rfl,rfl,rfl,rfl,rfl,rfl,rfl,rfl,rfl,rfl,trivial⟩ (fun _ _=>⟨rfl,rfl⟩) (fun _ _=>⟨rfl,rfl,rfl,rfl,rfl,rfl,rfl,rfl,trivial⟩) (fun _ _ _ ⟨O',hB,g0,b0,h8,j0,k0,a0,s1,f0⟩=>⟨O',hB,g0,b0,h8,j0,k0,a0,s1,f0⟩) ⟨rfl,rfl,rfl⟩ ⟨rfl,rfl⟩ ?_)
   rintro wB y3 h0 x3 eJ rE k4 ⟨xB,hB,g0,b0,h8,j0,k0,a0,s1,f0⟩ i0 j7 k7
   have rk428:inI64 (wB:Int):=rngK k4 a5
   refine Ab (Aa ?_)
   obtain ⟨fJ,gJ,sE,n6,o6,p6,rfl,hJ,iJ⟩:=f0.elem' k4
   refine Bi (hA:=n6) (hj:=rfl) (hlt:=o6) rfl rfl ?_
   refine Bd (hl:=rfl) (hc:=p6) rfl ?_
   refine AU 13 xB fun yB jJ zB q0 f1=>?_
   refine Az f1 rfl rfl rfl (AJ) (allOne) fun aC r0 f1=>?_
   replace f1:Lc 13 aC zB yB 52 [(.int .i64 y3.tm),(.int .i64 y3.job)]:=f1
   refine o_z ?_
   refine Ab (Aa (Ax rfl (At (hc:=Blk.cell (i:=0) (f1.1) rfl) rfl ?_)))
   refine Ak rfl (GU rfl rfl (fun c5=>?_) fun c5=>?_)
   ·
    replace i0:=ip i0 c5
    refine o_z ?_
    refine Ah rfl (Ab ?_)
    replace s1:=(s1.st q0).st r0
    obtain ⟨q6,kJ,lJ,mJ,nJ,oJ,pJ,qJ,t1,tE,k1,z3,a4,b4,c4,d4,bC,r2,e4⟩:=Wtr.opn s1 5 9 10 11 (by decide)
    obtain ⟨cC,dC,rfl⟩:=z3.form
    obtain ⟨eC,fC,rfl⟩:=a4.form
    obtain ⟨gC,hC,rfl⟩:=b4.form
    obtain ⟨iC,jC,rfl⟩:=c4.form
    obtain ⟨kC,lC,rfl⟩:=d4.form
    obtain ⟨mC,nC,rfl⟩:=r2.form
    obtain ⟨rJ,sJ,rfl⟩:=e4.form
    refine Br [(9,[11])] q6 ?_
    refine AP (fuel:=6) [] [(1,true),(2,true),(3,true),(4,true),(5,true),(6,true),(7,true)] rfl ?_
    refine AX rfl rfl (GC rfl rfl (AT rfl rfl (AV (hc:=bCell k1 7 rfl) rfl rfl ?_)))
    refine AT rfl rfl ?_
    replace f1:=f1.st t1
    refine AV (hc:=bCell f1 1 rfl) rfl rfl ?_
    obtain ⟨oC,r6,i0⟩:=bs i0
    have pC:=(Bq r6)
    refine QM (he:=r6) rfl rfl rfl rfl ?_
    refine AC ?_
    refine AP (fuel:=5) [11] [(0,true)] rfl ?_
    refine AX rfl rfl (AC ?_)
    refine AD (i:=8) rfl ?_
    refine AQ 14 q6 (xs:=(([oC]:List Int):List Int)) rfl rfl rfl ⟨(vInt pC),trivial⟩ fun tJ uJ vJ s0 qC=>?_
    have hZ:=lZ s0
    refine AN [(9,[11])] hZ ?_
    refine AD (i:=9) rfl ?_
    obtain ⟨s6,d5,i0⟩:=bs i0
    obtain ⟨d5,rC,sC⟩:=AI d5
    replace e4:=e4.st s0
    refine AZ rfl e4 (qC.rd) rfl rfl rC sC fun tC uC wJ t6 v0 f4=>?_
    rw [← d5] at f4 ⊢
    have hZ:=v0.lst [11] (fun _ h=>by cases h;decide)
    refine AN [] hZ ?_
    refine AP (fuel:=1) [] [(10,true),(11,true)] rfl ?_
    refine GC rfl rfl (AT rfl rfl (AC ?_))
    refine AD (i:=12) rfl ?_
    replace k1:=(k1.st s0).st v0
    refine Az k1 rfl rfl rfl (AJ) (allOne) fun vC w0 k1=>?_
    replace k1:Lc 5 vC t6 m0 110 [(.slice cC h0.t.vars.length dC),(.slice eC h0.t.init.length fC),(.slice gC h0.t.goal.length hC),(.slice iC h0.t.jobs.length jC),(.slice kC h0.first.length lC),(.int .i64 h0.last),(.slice mC h0.left.length nC),(.slice tC s6.length uC)]:=k1
    refine BF ?_
    refine Bv ?_
    refine Br [] t6 ?_
    refine AP (fuel:=1) [] [(0,true),(1,true),(2,true),(3,true),(4,true),(5,true),(6,true),(7,true),(8,true),(9,true),(10,true),(11,true),(12,true),(13,true)] rfl ?_
    refine AX rfl rfl (GC rfl rfl (AT rfl rfl (AV (hc:=bCell k1 6 rfl) rfl rfl ?_)))
    refine AT rfl rfl ?_
    replace f1:=((f1.st s0).st v0).st w0
    refine AV (hc:=bCell f1 1 rfl) rfl rfl ?_
    refine AT rfl rfl ?_
    replace b0:=(((((b0.st q0).st r0).st t1).st s0).st v0).st w0
    refine AV (hc:=bCell b0 3 rfl) rfl rfl ?_
    refine AT rfl rfl (AV (hc:=bCell f1 1 rfl) rfl rfl ?_)
    obtain ⟨e5,wC,i0⟩:=bs i0
    obtain ⟨xC,yC⟩:=EI wC
    replace a0:=(((((a0.st q0).st r0).st t1).st s0).st v0).st w0
    obtain ⟨xJ,yJ,uE,u6,w6,x6,y6,zJ,aK,bK,cK,dK,rfl,zC,aD,bD,cD,dD,eK,eD⟩:=a0.elem yC
    obtain ⟨fK,gK,rfl⟩:=zC.form
    obtain ⟨hK,iK,rfl⟩:=aD.form
    obtain ⟨jK,kK,rfl⟩:=bD.form
    obtain ⟨lK,mK,rfl⟩:=cD.form
    obtain ⟨nK,oK,rfl⟩:=dD.form
    refine CK (hA:=u6) (hj:=(Int.toNat_of_nonneg xC).symm) (hlt:=x6) rfl rfl rfl ?_
    refine AT rfl rfl (AV (hc:=fun w' ⟨O',hq⟩=>cat1 (Bp (hq.agree (i:=0) (by decide)) w6 y6)) rfl rfl ?_)
    obtain ⟨pK,fD,i0⟩:=bs i0
    obtain ⟨gD,z6⟩:=EI fD
    replace r2:=((r2.st s0).st v0).st w0
    obtain ⟨qK,rK,vE,l4,wE,a7,xE,rfl,sK⟩:=r2.elemF z6
    refine CK (hA:=l4) (hj:=(Int.toNat_of_nonneg gD).symm) (hlt:=a7) rfl rfl rfl ?_
    refine AC ?_
    refine AD (i:=14) rfl ?_
    refine Nt rfl r2 (a:=e5.dur) (vInt eD) l4 rfl rfl (BR z6) fun tK d1 r2=>?_
    refine BF ?_
    refine Bv ?_
    replace k1:=k1.st d1
    replace z3:=(((z3.st s0).st v0).st w0).st d1
    replace a4:=(((a4.st s0).st v0).st w0).st d1
    replace b4:=(((b4.st s0).st v0).st w0).st d1
    replace c4:=(((c4.st s0).st v0).st w0).st d1
    replace d4:=(((d4.st s0).st v0).st w0).st d1
    replace f4:=(f4.st w0).st d1
    obtain ⟨uK,j2,yE,zE,hD⟩:=Wtr.shut (x:=(⟨(⟨h0.t.vars,h0.t.init,h0.t.goal,h0.t.jobs⟩:Tpl),h0.first,h0.last,(h0.left.set (y3.job:Int).toNat e5.dur),s6⟩:Wtr)) (l0:=5) (l1:=9) (l2:=10) (l3:=11) (by decide) (by have q:=k1;rw [← ((by simp:(h0.left.set (y3.job:Int).toNat e5.dur).length=h0.left.length).trans rfl)] at q;exact q) z3 a4 b4 c4 d4 bC r2.relen f4
    obtain rfl:=sm i0
    exact show Exists _ from ⟨_,(),rfl,⟨rfl,rfl,rfl,rfl,rfl,rfl,rfl,rfl,rfl,rfl,rfl,trivial⟩,_,(((((((hB.st q0).st r0).st t1).st s0).st v0).st w0).st d1).st j2,(((((((g0.st q0).st r0).st t1).st s0).st v0).st w0).st d1).st j2,(b0.st d1).st j2,(((((((h8.st q0).st r0).st t1).st s0).st v0).st w0).st d1).st j2,(((((((j0.st q0).st r0).st t1).st s0).st v0).st w0).st d1).st j2,(((((((k0.st q0).st r0).st t1).st s0).st v0).st w0).st d1).st j2,(a0.st d1).st j2,hD,(((((((f0.st q0).st r0).st t1).st s0).st v0).st w0).st d1).st j2⟩
   replace i0:=im i0 c5
   refine o_z ?_
   refine Ae rfl (AO ?_)
   obtain rfl:=sm i0
   exact show Exists _ from ⟨_,(),rfl,⟨rfl,rfl,rfl,rfl,rfl,rfl,rfl,rfl,rfl,rfl,rfl,trivial⟩,_,(hB.st q0).st r0,(g0.st q0).st r0,(b0.st q0).st r0,(h8.st q0).st r0,(j0.st q0).st r0,(k0.st q0).st r0,(a0.st q0).st r0,(s1.st q0).st r0,(f0.st q0).st r0⟩
  rintro vK wK ⟨xK,yK,rfl,b7,iD,hB,g0,b0,h8,j0,k0,a0,s1,f0⟩
  replace c0:=AR c0
  refine AH _ b7 ?_
  refine Ab (Aa (Ak rfl (Ak rfl (Dm rfl rfl (fun f5=>?_) fun f5=>?_))))
  ·
   replace c0:=ip c0 f5
   refine o_z ?_
   refine Ah rfl (Aa (Ak rfl ?_))
   obtain ⟨zK,jD,c0⟩:=bs c0
   refine Mh (O:=iD) (IW s1 jD) rfl rfl fun aL bL cL k2 kD=>?_
   refine o_z ?_
   obtain rfl:=sm c0
   exact show Exists _ from ⟨_,(),rfl,⟨rfl,rfl,rfl,rfl,rfl,rfl,rfl,trivial⟩,_,hB.st k2,g0.st k2,b0.st k2,h8.st k2,j0.st k2,k0.st k2,a0.st k2,kD,f0.st k2⟩
  replace c0:=im c0 f5
  refine o_z ?_
  refine Ae rfl (AO ?_)
  obtain rfl:=sm c0
  exact show Exists _ from ⟨_,(),rfl,⟨rfl,rfl,rfl,rfl,rfl,rfl,rfl,trivial⟩,_,hB,g0,b0,h8,j0,k0,a0,s1,f0⟩
 replace hB:=hB.st q1
 rintro dL lD ⟨eL,fL,rfl,c7,gL,hB,z2⟩
 replace hm:=AR hm
 refine AH _ c7 ?_
 refine Ab (Aa (Ak rfl (Mg rfl rfl ?_)))
 obtain ⟨hL,iL,jL,kL,lL,mL,nL,oL,mD,aF,nD,oD,pD,qD,rD,sD,pL,tD,g4⟩:=Wtr.opn z2 5 9 10 11 (by decide)
 obtain ⟨qL,rL,rfl⟩:=oD.form
 obtain ⟨sL,tL,rfl⟩:=pD.form
 obtain ⟨uL,vL,rfl⟩:=qD.form
 obtain ⟨wL,xL,rfl⟩:=rD.form
 obtain ⟨yL,zL,rfl⟩:=sD.form
 obtain ⟨aM,bM,rfl⟩:=tD.form
 obtain ⟨cM,dM,rfl⟩:=g4.form
 refine Ax rfl (At (hc:=Blk.cell (i:=7) (nD.1) rfl) rfl ?_)
 refine Am rfl (Am rfl (o_z ?_))
 refine AF ?_
 obtain ⟨uD,vD,g4⟩:=g4.freeze
 obtain rfl:=sm hm
 replace hB:=(hB.st mD).st vD
 exact ret2 rfl (AA rfl) (AA rfl) ⟨hB.ext,_,_,rfl,(Vb.mono (F:=Fr 0 lD uD) g4 hB.out),(vErr (h:=(iI64 0)))⟩
end
section
open Go Go.RowKit
attribute [local irreducible] ewp owp hwp hwq Ev Evg Fn retPost Res1
attribute [local irreducible] hwx loudX
noncomputable def EZ  : Option Tpl :=
  some (⟨([2]:List Int),([0]:List Int),[(⟨0,0⟩:Fct)],[(⟨(⟨#[108,105,103,104,116]⟩:ByteArray),3,[(⟨0,0⟩:Fct)],[(⟨0,1⟩:Fct)],([]:List Fct),[(⟨0,1⟩:Fct)],[(⟨0,0⟩:Fct)]⟩:Job)]⟩:Tpl)
theorem JV {w:World} {A:Nat→Prop} (hA:∀ k,A k→k < w.heap.size)  {r:Tpl} (hm:EZ  = some r) :
    Fn prog 34 [] w fun v w'=>Ext w w'∧Vb w' (upA A w w') v r:=by
 obtain ⟨O,hB,z0⟩:=enter hA
 refine AL func34 rfl ntmps34 ?_
 unfold EZ at hm
 refine Ab (Aa (AU 2 O fun g1 w2 O3 S4 h5=>?_))
 refine o_z ?_
 refine Ab (Aa (Cl rfl rfl ?_))
 refine AQ 3 O3 (xs:=([(⟨0,0⟩:Fct)]:List Fct)) rfl rfl rfl ⟨(Vb.ofAgg (cs:=[(.int .i64 0),(.int .i64 0)]) (x:=(⟨0,0⟩:Fct)) rfl ⟨rfl,(iI64 0),(iI64 0)⟩),trivial⟩ fun g6 w7 O8 S9 a0=>?_
 refine Cl rfl rfl ?_
 refine AQ 4 O8 (xs:=([(⟨0,1⟩:Fct)]:List Fct)) rfl rfl rfl ⟨(Vb.ofAgg (cs:=[(.int .i64 0),(.int .i64 1)]) (x:=(⟨0,1⟩:Fct)) rfl ⟨rfl,(iI64 0),(iI64 1)⟩),trivial⟩ fun s0 a1 u0 o0 d0=>?_
 refine Am rfl (Am rfl (o_z ?_))
 refine Ab (Aa (AQ 5 u0 (xs:=(([2]:List Int):List Int)) rfl rfl rfl ⟨(vInt (iI64 2)),trivial⟩ fun p0 b1 v0 n0 b0=>?_))
 refine AQ 6 v0 (xs:=(([0]:List Int):List Int)) rfl rfl rfl ⟨(vInt (iI64 0)),trivial⟩ fun q0 c1 d1 e0 c0=>?_
 refine Ak rfl (Ak rfl (Ak rfl (Ak rfl (Ak rfl (Cl rfl rfl ?_)))))
 replace a0:=((a0.st o0).st n0).st e0
 obtain ⟨e1,f0,a0⟩:=a0.freeze
 replace d0:=((d0.st n0).st e0).st f0
 obtain ⟨w0,g0,d0⟩:=d0.freeze
 replace a0:=a0.st g0
 refine AQ 7 w0 (xs:=([(⟨(⟨#[108,105,103,104,116]⟩:ByteArray),3,[(⟨0,0⟩:Fct)],[(⟨0,1⟩:Fct)],([]:List Fct),[(⟨0,1⟩:Fct)],[(⟨0,0⟩:Fct)]⟩:Job)]:List Job)) rfl rfl rfl ⟨(Vb.ofAgg (cs:=[(.string (⟨#[108,105,103,104,116]⟩:ByteArray)),(.int .i64 3),(.slice (some ⟨g6,0,none⟩) [(⟨0,0⟩:Fct)].length 1),(.slice (some ⟨s0,0,none⟩) [(⟨0,1⟩:Fct)].length 1),(.slice none 0 0),(.slice (some ⟨s0,0,none⟩) [(⟨0,1⟩:Fct)].length 1),(.slice (some ⟨g6,0,none⟩) [(⟨0,0⟩:Fct)].length 1)]) (x:=(⟨(⟨#[108,105,103,104,116]⟩:ByteArray),3,[(⟨0,0⟩:Fct)],[(⟨0,1⟩:Fct)],([]:List Fct),[(⟨0,1⟩:Fct)],[(⟨0,0⟩:Fct)]⟩:Job)) rfl ⟨_,_,_,_,_,rfl,a0,d0,(Vb.nil _ _),d0,a0,(show (⟨#[108,105,103,104,116]⟩:ByteArray).size≤9223372036854775807 from by decide),(iI64 3)⟩),trivial⟩ fun r0 f1 x0 h0 i0=>?_
 refine Cl rfl rfl ?_
 replace h5:=((((((h5.st S9).st o0).st n0).st e0).st f0).st g0).st h0
 refine Az h5 rfl rfl rfl (AJ) (allOne) fun t0 j0 h5=>?_
 replace h5:Lc 2 t0 x0 g1 26 [(.slice (some ⟨p0,0,none⟩) ([2]:List Int).length 1),(.slice (some ⟨q0,0,none⟩) ([0]:List Int).length 1),(.slice (some ⟨g6,0,none⟩) [(⟨0,0⟩:Fct)].length 1),(.slice (some ⟨r0,0,none⟩) [(⟨(⟨#[108,105,103,104,116]⟩:ByteArray),3,[(⟨0,0⟩:Fct)],[(⟨0,1⟩:Fct)],([]:List Fct),[(⟨0,1⟩:Fct)],[(⟨0,0⟩:Fct)]⟩:Job)].length 1)]:=h5
 refine o_z ?_
 refine AF ?_
 replace b0:=((((b0.st e0).st f0).st g0).st h0).st j0
 obtain ⟨h1,k0,b0⟩:=b0.freeze
 replace c0:=((((c0.st f0).st g0).st h0).st j0).st k0
 obtain ⟨i1,l0,c0⟩:=c0.freeze
 replace i0:=((i0.st j0).st k0).st l0
 obtain ⟨y0,m0,i0⟩:=i0.freeze
 obtain rfl:=sm hm
 replace hB:=(((((((((((hB.st S4).st S9).st o0).st n0).st e0).st f0).st g0).st h0).st j0).st k0).st l0).st m0
 replace h5:=((h5.st k0).st l0).st m0
 replace a0:=((((a0.st h0).st j0).st k0).st l0).st m0
 replace b0:=(b0.st l0).st m0
 replace c0:=c0.st m0
 exact ret1v rfl (Er (cs:=[(.slice (some ⟨p0,0,none⟩) ([2]:List Int).length 1),(.slice (some ⟨q0,0,none⟩) ([0]:List Int).length 1),(.slice (some ⟨g6,0,none⟩) [(⟨0,0⟩:Fct)].length 1),(.slice (some ⟨r0,0,none⟩) [(⟨(⟨#[108,105,103,104,116]⟩:ByteArray),3,[(⟨0,0⟩:Fct)],[(⟨0,1⟩:Fct)],([]:List Fct),[(⟨0,1⟩:Fct)],[(⟨0,0⟩:Fct)]⟩:Job)].length 1)]) rfl rfl h5.1.cellsAt) ⟨hB.ext,(Vb.mono (F:=Fr 0 t0 y0) (Vb.ofAgg (cs:=[(.slice (some ⟨p0,0,none⟩) ([2]:List Int).length 1),(.slice (some ⟨q0,0,none⟩) ([0]:List Int).length 1),(.slice (some ⟨g6,0,none⟩) [(⟨0,0⟩:Fct)].length 1),(.slice (some ⟨r0,0,none⟩) [(⟨(⟨#[108,105,103,104,116]⟩:ByteArray),3,[(⟨0,0⟩:Fct)],[(⟨0,1⟩:Fct)],([]:List Fct),[(⟨0,1⟩:Fct)],[(⟨0,0⟩:Fct)]⟩:Job)].length 1)]) (x:=(⟨([2]:List Int),([0]:List Int),[(⟨0,0⟩:Fct)],[(⟨(⟨#[108,105,103,104,116]⟩:ByteArray),3,[(⟨0,0⟩:Fct)],[(⟨0,1⟩:Fct)],([]:List Fct),[(⟨0,1⟩:Fct)],[(⟨0,0⟩:Fct)]⟩:Job)]⟩:Tpl)) rfl ⟨_,_,_,_,rfl,b0,c0,a0,i0⟩) hB.out)⟩
noncomputable def DW  : Option Bool :=
  bnd (EZ) fun q1=>bnd (Cm q1) fun q25=>bnd (EZ) fun q61=>bnd (EY q61 [(⟨0,0⟩:Lch)]) fun q93=>bnd (if q25.2.n=0 then (if q93.2.n=0 then (bnd (Ej q25.1.vars ([2,5,2,2,2,3]:List Int)) fun q119=>if q119=true then bnd (Ej q93.1 ([0,2,6,7,2,5,7,2,4,7,1]:List Int)) fun q132=>if q132=true then some true else some false else some false) else (some false)) else (some false):Option Bool) fun y107=>some y107
theorem Jy {w:World} {A:Nat→Prop} (hA:∀ k,A k→k < w.heap.size)  {r:Bool} (hm:DW  = some r) :
    Fn prog 10 [] w fun v w'=>Ext w w'∧Vb w' (upA A w w') v r:=by
 obtain ⟨O,hB,e4⟩:=enter hA
 refine AL func10 rfl ntmps10 ?_
 unfold DW at hm
 refine Ab (Aa (Am rfl (o_z ?_)))
 refine Ab (Aa ?_)
 obtain ⟨q1,e2,hm⟩:=bs hm
 refine Cc (O:=O) (JV Fr.lt  e2) rfl fun v7 w3 O4 S5 h6=>?_
 obtain ⟨f4,rfl,v9,g4,h4,i4,rfl,n1,o1,p1,r1⟩:=h6
 obtain ⟨t1,u1,rfl⟩:=n1.form
 obtain ⟨v1,w1,rfl⟩:=o1.form
 obtain ⟨x1,y1,rfl⟩:=p1.form
 obtain ⟨z1,a2,rfl⟩:=r1.form
 obtain ⟨p0,b2,hm⟩:=bs hm
 refine GV (O:=O4) (R:=fun w' F v=>T2 w' F v p0) (Gn Fr.lt (Vb.ofAgg (cs:=[(.slice t1 q1.vars.length u1),(.slice v1 q1.init.length w1),(.slice x1 q1.goal.length y1),(.slice z1 q1.jobs.length a2)]) (x:=q1) rfl ⟨_,_,_,_,rfl,n1,o1,p1,r1⟩) b2) rfl rfl fun j4 k4 c2 o0 d2=>?_
 obtain ⟨l4,m4,rfl,f2,g2⟩:=d2
 obtain ⟨h2,rfl,n4,o4,p4,q4,rfl,t0,i2,j2,k2⟩:=f2
 obtain ⟨l2,m2,rfl⟩:=t0.form
 obtain ⟨n2,o2,rfl⟩:=i2.form
 obtain ⟨p2,q2,rfl⟩:=j2.form
 obtain ⟨r2,s2,rfl⟩:=k2.form
 obtain ⟨rfl,r4⟩:=g2.err
 refine Ak rfl (DU rfl rfl (DU rfl rfl (AU 2 c2 fun t2 s4 s1 i0 j0=>?_)))
 refine Az j0 rfl rfl rfl (AJ) (allOne) fun u2 k0 j0=>?_
 replace j0:Lc 2 u2 s1 t2 31 [(.slice l2 p0.1.vars.length m2),(.slice n2 p0.1.init.length o2),(.slice p2 p0.1.goal.length q2),(.slice r2 p0.1.ops.length s2)]:=j0
 refine Am rfl (o_z ?_)
 refine Ab (Aa ?_)
 obtain ⟨q0,v2,hm⟩:=bs hm
 refine Cc (O:=s1) (JV Fr.lt  v2) rfl fun t4 u4 w2 g0 x2=>?_
 obtain ⟨y2,rfl,v4,w4,x4,y4,rfl,u0,v0,w0,x0⟩:=x2
 obtain ⟨z2,a3,rfl⟩:=u0.form
 obtain ⟨b3,c3,rfl⟩:=v0.form
 obtain ⟨d3,e3,rfl⟩:=w0.form
 obtain ⟨f3,g3,rfl⟩:=x0.form
 refine Cl rfl rfl ?_
 refine AQ 3 w2 (xs:=([(⟨0,0⟩:Lch)]:List Lch)) rfl rfl rfl ⟨(Vb.ofAgg (cs:=[(.int .i64 0),(.int .i64 0)]) (x:=(⟨0,0⟩:Lch)) rfl ⟨rfl,(iI64 0),(iI64 0)⟩),trivial⟩ fun z4 a5 b5 b0 y0=>?_
 obtain ⟨h3,c0,y0⟩:=y0.freeze
 obtain ⟨i3,j3,hm⟩:=bs hm
 replace u0:=(u0.st b0).st c0
 replace v0:=(v0.st b0).st c0
 replace w0:=(w0.st b0).st c0
 replace x0:=(x0.st b0).st c0
 refine GV (O:=h3) (R:=fun w' F v=>T2 w' F v i3) (Mn Fr.lt (Vb.ofAgg (cs:=[(.slice z2 q0.vars.length a3),(.slice b3 q0.init.length c3),(.slice d3 q0.goal.length e3),(.slice f3 q0.jobs.length g3)]) (x:=q0) rfl ⟨_,_,_,_,rfl,u0,v0,w0,x0⟩) y0 j3) rfl rfl fun c5 d5 k3 h0 l3=>?_
 obtain ⟨m3,n3,rfl,e0,z0⟩:=l3
 obtain ⟨o3,p3,rfl⟩:=e0.form
 obtain ⟨rfl,q3⟩:=z0.err
 refine Ak rfl (DU rfl rfl (DU rfl rfl (Am rfl (Am rfl (o_z ?_)))))
 refine Ab ?_
 obtain ⟨a1,a0,hm⟩:=bs hm
 refine Ay (fun l' w'=>∃ (b1:Unit) (O':Lab),subs l' [(0,(.bool a1))]∧Bs w A w' O') ?_ ?_
 ·
  refine Aa (Ak rfl (OS rfl rfl (fun l0=>?_) fun l0=>?_))
  ·
   replace a0:=ip a0 l0
   refine Ak rfl (An rfl rfl (Ak rfl (An rfl rfl (OS rfl rfl (fun m0=>?_) fun m0=>?_))))
   ·
    replace a0:=ip a0 m0
    refine Bn rfl rfl (Ak rfl (An rfl rfl (Ax rfl (An rfl rfl ?_))))
    replace j0:=(((j0.st g0).st b0).st c0).st h0
    refine At (hc:=Blk.cell (i:=0) (j0.1) rfl) rfl ?_
    refine An rfl rfl (AQ 4 k3 (xs:=(([2,5,2,2,2,3]:List Int):List Int)) rfl rfl rfl ⟨(vInt (iI64 2)),(vInt (iI64 5)),(vInt (iI64 2)),(vInt (iI64 2)),(vInt (iI64 2)),(vInt (iI64 3)),trivial⟩ fun r3 s3 c1 d0 d1=>?_)
    refine An rfl rfl ?_
    obtain ⟨e1,f1,a0⟩:=bs a0
    replace t0:=((((((t0.st i0).st k0).st g0).st b0).st c0).st h0).st d0
    refine AM (O:=c1) (Hs (fun _ h=>h) (vMo t0) (d1).all f1) rfl fun t3 u3 g1 f0 h1=>?_
    obtain rfl:=h1.bool
    cases e1
    case false =>
     replace a0:=iF a0
     refine Bn rfl rfl (Ak rfl (Al rfl rfl (Al rfl rfl (Al rfl rfl (Bc rfl rfl (Am rfl (o_z ?_)))))))
     obtain rfl:=sm a0
     exact ⟨(),_,⟨rfl,trivial⟩,(((((((((hB.st S5).st o0).st i0).st k0).st g0).st b0).st c0).st h0).st d0).st f0⟩
    replace a0:=iT a0
    refine Bn rfl rfl (Ak rfl (An rfl rfl (Ak rfl (An rfl rfl (AQ 5 g1 (xs:=(([0,2,6,7,2,5,7,2,4,7,1]:List Int):List Int)) rfl rfl rfl ⟨(vInt (iI64 0)),(vInt (iI64 2)),(vInt (iI64 6)),(vInt (iI64 7)),(vInt (iI64 2)),(vInt (iI64 5)),(vInt (iI64 7)),(vInt (iI64 2)),(vInt (iI64 4)),(vInt (iI64 7)),(vInt (iI64 1)),trivial⟩ fun v3 x3 i1 n0 j1=>?_)))))
    refine An rfl rfl ?_
    obtain ⟨k1,l1,a0⟩:=bs a0
    replace e0:=((e0.st d0).st f0).st n0
    refine AM (O:=i1) (Hs (fun _ h=>h) (vMo e0) (j1).all l1) rfl fun y3 z3 a4 r0 m1=>?_
    obtain rfl:=m1.bool
    cases k1
    case false =>
     replace a0:=iF a0
     refine Bn rfl rfl (Am rfl (o_z ?_))
     obtain rfl:=sm a0
     exact ⟨(),_,⟨rfl,trivial⟩,(((((((((((hB.st S5).st o0).st i0).st k0).st g0).st b0).st c0).st h0).st d0).st f0).st n0).st r0⟩
    replace a0:=iT a0
    refine Bn rfl rfl (Am rfl (o_z ?_))
    obtain rfl:=sm a0
    exact ⟨(),_,⟨rfl,trivial⟩,(((((((((((hB.st S5).st o0).st i0).st k0).st g0).st b0).st c0).st h0).st d0).st f0).st n0).st r0⟩
   replace a0:=im a0 m0
   refine Bn rfl rfl (Ak rfl (Al rfl rfl (Al rfl rfl (Al rfl rfl (Al rfl rfl (Bc rfl rfl (Ak rfl (Al rfl rfl (Al rfl rfl (Al rfl rfl (Bc rfl rfl (Am rfl (o_z ?_)))))))))))))
   obtain rfl:=sm a0
   exact ⟨(),_,⟨rfl,trivial⟩,(((((((hB.st S5).st o0).st i0).st k0).st g0).st b0).st c0).st h0⟩
  replace a0:=im a0 l0
  refine Ak rfl (Al rfl rfl (Al rfl rfl (Bc rfl rfl (Ak rfl (Al rfl rfl (Al rfl rfl (Al rfl rfl (Al rfl rfl (Bc rfl rfl (Ak rfl (Al rfl rfl (Al rfl rfl (Al rfl rfl (Bc rfl rfl ?_))))))))))))))
  refine Am rfl (o_z ?_)
  obtain rfl:=sm a0
  exact ⟨(),_,⟨rfl,trivial⟩,(((((((hB.st S5).st o0).st i0).st k0).st g0).st b0).st c0).st h0⟩
 replace hB:=(((((((hB.st S5).st o0).st i0).st k0).st g0).st b0).st c0).st h0
 rintro b4 c4 ⟨b1,d4,s0,hB⟩
 refine AH _ s0 ?_
 refine AF ?_
 obtain rfl:=sm hm
 exact ret1v rfl (AA rfl) ⟨hB.ext,vBool⟩
noncomputable def Gt (x0:Tpl) (x1:List Lch):Option Bool :=
  bnd (if 70 < (x0.vars.length:Int) then (some true) else (if 30 < (x0.jobs.length:Int) then (some true) else (if 12 < (x1.length:Int) then (some true) else (if 80 < (x0.goal.length:Int) then (some true) else (some false)))):Option Bool) fun y27=>if y27=true then (some false) else (bnd (rng (ρ:=Bool) (fun (k54:Nat) (a55:Job) (s52:Unit)=>bnd (if 100 < (wr ((wr ((wr ((wr ((a55.start.length:Int) + (a55.over.length:Int))) + (a55.fin.length:Int))) + (a55.atStart.length:Int))) + (a55.atEnd.length:Int))) then (some true) else (if 300 < (a55.name.size:Int) then (some true) else (some false)):Option Bool) fun y101=>if y101=true then (some (.ret false)) else (some (.next ()))) x0.jobs 0 ()) fun res50=>fin res50 fun (s127:Unit)=>some true)
theorem Od {w:World} {A:Nat→Prop} (hA:∀ k,A k→k < w.heap.size) {vx0:Value} {x0:Tpl} (f1:Vb w A vx0 x0) {vx1:Value} {x1:List Lch} (m0:Vb w A vx1 x1) {r:Bool} (hm:Gt x0 x1=some r) :
    Fn prog 11 [vx0,vx1] w fun v w'=>Ext w w'∧Vb w' (upA A w w') v r:=by
 obtain ⟨O,hB,g2⟩:=enter hA
 replace f1:=f1.mono g2
 obtain ⟨w3,rfl,v4,v5,v6,v7,rfl,h8,l0,h0,d0⟩:=f1
 obtain ⟨A9,g1,rfl⟩:=h8.form
 obtain ⟨h1,i1,rfl⟩:=l0.form
 obtain ⟨j1,k1,rfl⟩:=h0.form
 obtain ⟨n0,o0,rfl⟩:=d0.form
 replace m0:=m0.mono g2
 obtain ⟨x3,y3,rfl⟩:=m0.form
 refine AL func11 rfl ntmps11 ?_
 unfold Gt at hm
 refine Ab (Aa (BL 2 O rfl fun l1 i2 j2 e0 j0=>?_))
 replace j0:Lc 2 i2 j2 l1 26 [(.slice A9 x0.vars.length g1),(.slice h1 x0.init.length i1),(.slice j1 x0.goal.length k1),(.slice n0 x0.jobs.length o0)]:=j0
 refine Am rfl (o_z ?_)
 refine Ab (Ab ?_)
 obtain ⟨k2,a0,hm⟩:=bs hm
 refine Ay (fun l' w'=>∃ (l2:Unit) (O':Lab),subs l' [(2,(.pointer (some ⟨l1,0,none⟩))),(27,(.bool k2))]∧Bs w A w' O'∧Lc 2 w' O' l1 26 [(.slice A9 x0.vars.length g1),(.slice h1 x0.init.length i1),(.slice j1 x0.goal.length k1),(.slice n0 x0.jobs.length o0)]∧Vb w' (Fr 0 w' O') (.slice A9 x0.vars.length g1) x0.vars∧Vb w' (Fr 0 w' O') (.slice h1 x0.init.length i1) x0.init∧Vb w' (Fr 0 w' O') (.slice j1 x0.goal.length k1) x0.goal∧Vb w' (Fr 0 w' O') (.slice n0 x0.jobs.length o0) x0.jobs) ?_ ?_
 ·
  refine Aa (Ax rfl (At (hc:=Blk.cell (i:=0) (j0.1) rfl) rfl ?_))
  refine AS rfl ?_
  replace h8:=h8.st e0
  have m2:x0.vars.length≤9223372036854775807:=Nat.le_trans h8.len.2.1 h8.len.2.2
  have z3:inI64 (x0.vars.length:Int):=rngNat m2
  refine BW rfl rfl (fun m1=>?_) fun m1=>?_
  ·
   replace a0:=ip a0 m1
   refine Ak rfl (Al rfl rfl (Al rfl rfl (Al rfl rfl (Al rfl rfl (Bn rfl rfl (Ak rfl (Al rfl rfl (Al rfl rfl (Al rfl rfl (Bn rfl rfl (Ak rfl (Al rfl rfl (Al rfl rfl (Al rfl rfl ?_))))))))))))))
   refine Al rfl rfl (Bn rfl rfl (o_z ?_))
   obtain rfl:=sm a0
   exact ⟨(),_,⟨rfl,rfl,trivial⟩,hB.st e0,j0,h8,l0.st e0,h0.st e0,d0.st e0⟩
  replace a0:=im a0 m1
  refine Ak rfl (An rfl rfl (Ax rfl (An rfl rfl (At (hc:=Blk.cell (i:=3) (j0.1) rfl) rfl ?_))))
  refine An rfl rfl (AS rfl ?_)
  replace d0:=d0.st e0
  have n2:x0.jobs.length≤9223372036854775807:=Nat.le_trans d0.len.2.1 d0.len.2.2
  have a4:inI64 (x0.jobs.length:Int):=rngNat n2
  refine An rfl rfl (BW rfl rfl (fun n1=>?_) fun n1=>?_)
  ·
   replace a0:=ip a0 n1
   refine Bc rfl rfl (Ak rfl (Al rfl rfl (Al rfl rfl (Al rfl rfl (Bn rfl rfl (Ak rfl (Al rfl rfl (Al rfl rfl (Al rfl rfl (Al rfl rfl (Bn rfl rfl (o_z ?_))))))))))))
   obtain rfl:=sm a0
   exact ⟨(),_,⟨rfl,rfl,trivial⟩,hB.st e0,j0,h8,l0.st e0,h0.st e0,d0⟩
  replace a0:=im a0 n1
  refine Bc rfl rfl (Ak rfl (An rfl rfl (Ak rfl (An rfl rfl (AS rfl ?_)))))
  replace m0:=m0.st e0
  have o2:x1.length≤9223372036854775807:=Nat.le_trans m0.len.2.1 m0.len.2.2
  have b4:inI64 (x1.length:Int):=rngNat o2
  refine An rfl rfl (BW rfl rfl (fun o1=>?_) fun o1=>?_)
  ·
   replace a0:=ip a0 o1
   refine Bc rfl rfl (Ak rfl (Al rfl rfl (Al rfl rfl (Al rfl rfl (Al rfl rfl (Bn rfl rfl (o_z ?_)))))))
   obtain rfl:=sm a0
   exact ⟨(),_,⟨rfl,rfl,trivial⟩,hB.st e0,j0,h8,l0.st e0,h0.st e0,d0⟩
  replace a0:=im a0 o1
  refine Bc rfl rfl (Ak rfl (An rfl rfl (Ax rfl (An rfl rfl (At (hc:=Blk.cell (i:=2) (j0.1) rfl) rfl ?_)))))
  refine An rfl rfl (AS rfl ?_)
  replace h0:=h0.st e0
  have p2:x0.goal.length≤9223372036854775807:=Nat.le_trans h0.len.2.1 h0.len.2.2
  have c4:inI64 (x0.goal.length:Int):=rngNat p2
  refine An rfl rfl (BW rfl rfl (fun p1=>?_) fun p1=>?_)
  ·
   replace a0:=ip a0 p1
   refine Bc rfl rfl (o_z ?_)
   obtain rfl:=sm a0
   exact ⟨(),_,⟨rfl,rfl,trivial⟩,hB.st e0,j0,h8,l0.st e0,h0,d0⟩
  replace a0:=im a0 p1
  refine Bc rfl rfl (o_z ?_)
  obtain rfl:=sm a0
  exact ⟨(),_,⟨rfl,rfl,trivial⟩,hB.st e0,j0,h8,l0.st e0,h0,d0⟩
 replace hB:=hB.st e0
 replace h8:=h8.st e0
 replace l0:=l0.st e0
 replace h0:=h0.st e0
 replace d0:=d0.st e0
 rintro d4 e4 ⟨l2,q2,q1,hB,j0,h8,l0,h0,d0⟩
 refine AH _ q1 ?_
 refine Cd rfl (fun r1=>?_) (fun r1=>?_)
 ·
  replace hm:=ip hm r1
  refine Ab (Aa (Am rfl (o_z ?_)))
  refine AF ?_
  obtain rfl:=sm hm
  exact ret1v rfl (AA rfl) ⟨hB.ext,vBool⟩
 replace hm:=im' hm r1
 refine AO (Ab (Ab (Aa (Ax rfl (At (hc:=Blk.cell (i:=3) (j0.1) rfl) rfl ?_)))))
 refine AS rfl ?_
 have s1:x0.jobs.length≤9223372036854775807:=Nat.le_trans d0.len.2.1 d0.len.2.2
 have f4:inI64 (x0.jobs.length:Int):=rngNat s1
 refine Ak rfl (o_z ?_)
 obtain ⟨t0,t1,hm⟩:=bs hm
 refine Ay (aft t0 (fun (d1:Unit) (e1:Unit)=>[]) (fun d1 e1 w'=>∃ O':Lab,Bs w A w' O')) ?_ ?_
 ·
  refine AK (AY (σ:=Unit) (X:=Unit) (x0.jobs.length) t1 rfl s1 (fun (d1:Unit) (e1:Unit)=>[(29,(.slice n0 x0.jobs.length o0))]) _ (fun d1 e1 w'=>∃ O':Lab,Bs w A w' O'∧Vb w' (Fr 0 w' O') (.slice n0 x0.jobs.length o0) x0.jobs) _ () ⟨q2,hB,d0⟩ ⟨rfl,rfl,rfl,trivial⟩ (fun _ _=>⟨rfl,rfl⟩) (fun _ _=>trivial) (fun _ _ _ ⟨O',hB,d0⟩=>⟨O',hB⟩) ⟨rfl,rfl,rfl⟩ ⟨rfl,rfl⟩ ?_)
  rintro h2 f0 d1 e1 g4 r2 u0 ⟨s2,hB,d0⟩ g0 p0 u1
  have rk54:inI64 (h2:Int):=rngK u0 s1
  refine Ab (Aa ?_)
  obtain ⟨h4,i4,t2,v1,w1,y1,j4,k4,l4,m4,n4,rfl,v0,w0,y0,z0,a1,u2,o4⟩:=d0.elem' u0
  obtain ⟨v2,w2,rfl⟩:=v0.form
  obtain ⟨x2,y2,rfl⟩:=w0.form
  obtain ⟨z2,a3,rfl⟩:=y0.form
  obtain ⟨b3,c3,rfl⟩:=z0.form
  obtain ⟨d3,e3,rfl⟩:=a1.form
  refine Bi (hA:=v1) (hj:=rfl) (hlt:=w1) rfl rfl ?_
  refine Bd (hl:=rfl) (hc:=y1) rfl ?_
  refine AU 3 s2 fun f3 p4 g3 i0 k0=>?_
  refine Az k0 rfl rfl rfl (AJ) (allOne) fun h3 c0 k0=>?_
  replace k0:Lc 3 h3 g3 f3 66 [(.string f0.name),(.int .i64 f0.dur),(.slice v2 f0.start.length w2),(.slice x2 f0.over.length y2),(.slice z2 f0.fin.length a3),(.slice b3 f0.atStart.length c3),(.slice d3 f0.atEnd.length e3)]:=k0
  refine o_z ?_
  refine Ab ?_
  obtain ⟨z1,b0,g0⟩:=bs g0
  refine Ay (fun l' w'=>∃ (a2:Unit) (O':Lab),subs l' [(29,(.slice n0 x0.jobs.length o0)),(30,(.int .i64 (x0.jobs.length:Int))),(31,(.int .i64 (h2:Int))),(60,(.bool z1))]∧Bs w A w' O'∧Vb w' (Fr 0 w' O') (.slice n0 x0.jobs.length o0) x0.jobs) ?_ ?_
  ·
   refine Aa (Ax rfl (At (hc:=Blk.cell (i:=2) (k0.1) rfl) rfl ?_))
   refine AS rfl ?_
   replace v0:=(v0.st i0).st c0
   have b2:f0.start.length≤9223372036854775807:=Nat.le_trans v0.len.2.1 v0.len.2.2
   have i3:inI64 (f0.start.length:Int):=rngNat b2
   refine Ax rfl (At (hc:=Blk.cell (i:=3) (k0.1) rfl) rfl ?_)
   refine AS rfl ?_
   replace w0:=(w0.st i0).st c0
   have c2:f0.over.length≤9223372036854775807:=Nat.le_trans w0.len.2.1 w0.len.2.2
   have j3:inI64 (f0.over.length:Int):=rngNat c2
   refine Nf rfl rfl rfl ?_
   refine Ax rfl (At (hc:=Blk.cell (i:=4) (k0.1) rfl) rfl ?_)
   refine AS rfl ?_
   replace y0:=(y0.st i0).st c0
   have d2:f0.fin.length≤9223372036854775807:=Nat.le_trans y0.len.2.1 y0.len.2.2
   have k3:inI64 (f0.fin.length:Int):=rngNat d2
   refine Nf rfl rfl rfl ?_
   refine Ax rfl (At (hc:=Blk.cell (i:=5) (k0.1) rfl) rfl ?_)
   refine AS rfl ?_
   replace z0:=(z0.st i0).st c0
   have e2:f0.atStart.length≤9223372036854775807:=Nat.le_trans z0.len.2.1 z0.len.2.2
   have l3:inI64 (f0.atStart.length:Int):=rngNat e2
   refine Nf rfl rfl rfl ?_
   refine Ax rfl (At (hc:=Blk.cell (i:=6) (k0.1) rfl) rfl ?_)
   refine AS rfl ?_
   replace a1:=(a1.st i0).st c0
   have f2:f0.atEnd.length≤9223372036854775807:=Nat.le_trans a1.len.2.1 a1.len.2.2
   have m3:inI64 (f0.atEnd.length:Int):=rngNat f2
   refine Nf rfl rfl rfl ?_
   refine BW rfl rfl (fun q0=>?_) fun q0=>?_
   ·
    replace b0:=ip b0 q0
    refine Ak rfl (Al rfl rfl (Al rfl rfl (Al rfl rfl (Al rfl rfl (Bn rfl rfl (o_z ?_))))))
    obtain rfl:=sm b0
    exact ⟨(),_,⟨rfl,rfl,rfl,rfl,trivial⟩,(hB.st i0).st c0,(d0.st i0).st c0⟩
   replace b0:=im b0 q0
   refine Ak rfl (An rfl rfl (Ax rfl (An rfl rfl (At (hc:=Blk.cell (i:=0) (k0.1) rfl) rfl ?_))))
   refine An rfl rfl (ID rfl ?_)
   have n3:inI64 (f0.name.size:Int):=rngNat u2
   refine An rfl rfl (BW rfl rfl (fun r0=>?_) fun r0=>?_)
   ·
    replace b0:=ip b0 r0
    refine Bc rfl rfl (o_z ?_)
    obtain rfl:=sm b0
    exact ⟨(),_,⟨rfl,rfl,rfl,rfl,trivial⟩,(hB.st i0).st c0,(d0.st i0).st c0⟩
   replace b0:=im b0 r0
   refine Bc rfl rfl (o_z ?_)
   obtain rfl:=sm b0
   exact ⟨(),_,⟨rfl,rfl,rfl,rfl,trivial⟩,(hB.st i0).st c0,(d0.st i0).st c0⟩
  replace hB:=(hB.st i0).st c0
  replace d0:=(d0.st i0).st c0
  rintro o3 p3 ⟨a2,q3,b1,hB,d0⟩
  refine AH _ b1 ?_
  refine Cd rfl (fun s0=>?_) (fun s0=>?_)
  ·
   replace g0:=ip g0 s0
   refine Ab (Aa (Am rfl (o_z ?_)))
   refine AF ?_
   obtain rfl:=sm g0
   obtain rfl:=p0 _ rfl
   obtain rfl:=sm (BY hm)
   exact ret1v rfl (AA rfl) ⟨hB.ext,vBool⟩
  replace g0:=im' g0 s0
  refine AO ?_
  obtain rfl:=sm g0
  exact show Exists _ from ⟨_,(),rfl,⟨rfl,rfl,rfl,trivial⟩,_,hB,d0⟩
 rintro r3 s3 ⟨t3,u3,rfl,c1,v3,hB⟩
 replace hm:=AR hm
 refine AH _ c1 ?_
 refine Ab (Aa (Am rfl (o_z ?_)))
 refine AF ?_
 obtain rfl:=sm hm
 exact ret1v rfl (AA rfl) ⟨hB.ext,vBool⟩
end
section
open Go Go.RowKit
attribute [local irreducible] ewp owp hwp hwq Ev Evg Fn retPost Res1
attribute [local irreducible] hwx loudX
structure Plc where
  state:List Int
  flag:List Int
  write:List Int
  read:List Int
  phase:Int
  vars:List Int
instance:Rp Plc where
  isAgg:=true
  size:=6
  R w F cs x:=∃ v0 v1 v2 v3 v4,cs=[v0,v1,v2,v3,.int .i64 x.phase,v4]∧Vb w F v0 x.state∧Vb w F v1 x.flag∧Vb w F v2 x.write∧Vb w F v3 x.read∧Vb w F v4 x.vars∧inI64 x.phase
  len:=by rintro w F cs x ⟨v0,v1,v2,v3,v4,rfl,h0,h1,h2,h3,h4,h5⟩;rfl
  one:=by rintro w F cs x ⟨v0,v1,v2,v3,v4,rfl,h0,h1,h2,h3,h4,h5⟩ u hu;simp at hu;rcases hu with rfl|rfl|rfl|rfl|rfl|rfl<;>first|rfl|exact Vb.one rfl (by assumption)
  agree:=by rintro w w' F cs x ⟨v0,v1,v2,v3,v4,rfl,h0,h1,h2,h3,h4,h5⟩ ha;exact ⟨v0,v1,v2,v3,v4,rfl,h0.agree ha,h1.agree ha,h2.agree ha,h3.agree ha,h4.agree ha,h5⟩
  mono:=by rintro w F G cs x ⟨v0,v1,v2,v3,v4,rfl,h0,h1,h2,h3,h4,h5⟩ ha;exact ⟨v0,v1,v2,v3,v4,rfl,h0.mono ha,h1.mono ha,h2.mono ha,h3.mono ha,h4.mono ha,h5⟩
noncomputable def EQ (x0:List Fct) (x1:Int):Option Bool :=
  bnd (rng (ρ:=Bool) (fun (k11:Nat) (a12:Fct) (s9:Unit)=>if a12.var=x1 then (some (.ret true)) else (some (.next ()))) x0 0 ()) fun res7=>fin res7 fun (s43:Unit)=>some false
theorem II {w:World} {A:Nat→Prop} (hA:∀ k,A k→k < w.heap.size) {vx0:Value} {x0:List Fct} (b0:Vb w A vx0 x0) {x1:Int} (rx1:inI64 x1) {r:Bool} (hm:EQ x0 x1=some r) :
    Fn prog 108 [vx0,(.int .i64 x1)] w fun v w'=>Ext w w'∧Vb w' (upA A w w') v r:=by
 obtain ⟨O,hB,q0⟩:=enter hA
 replace b0:=b0.mono q0
 obtain ⟨A3,c4,rfl⟩:=b0.form
 refine AL func108 rfl ntmps108 ?_
 unfold EQ at hm
 refine Ab (Aa (Am rfl (o_z ?_)))
 refine Ab (Ab (Aa (Ak rfl (AS rfl ?_))))
 have l6:x0.length≤9223372036854775807:=Nat.le_trans b0.len.2.1 b0.len.2.2
 have r5:inI64 (x0.length:Int):=rngNat l6
 refine Ak rfl (o_z ?_)
 obtain ⟨g0,r0,hm⟩:=bs hm
 refine Ay (aft g0 (fun (s9:Unit) (f0:Unit)=>[]) (fun s9 f0 w'=>∃ O':Lab,Bs w A w' O')) ?_ ?_
 ·
  refine AK (AY (σ:=Unit) (X:=Unit) (x0.length) r0 rfl l6 (fun (s9:Unit) (f0:Unit)=>[(1,(.int .i64 x1)),(7,(.slice A3 x0.length c4))]) _ (fun s9 f0 w'=>∃ O':Lab,Bs w A w' O'∧Vb w' (Fr 0 w' O') (.slice A3 x0.length c4) x0) _ () ⟨O,hB,b0⟩ ⟨rfl,rfl,rfl,rfl,trivial⟩ (fun _ _=>⟨rfl,rfl⟩) (fun _ _=>trivial) (fun _ _ _ ⟨O',hB,b0⟩=>⟨O',hB⟩) ⟨rfl,rfl,rfl⟩ ⟨rfl,rfl⟩ ?_)
  rintro s0 p0 s9 f0 a1 t0 d0 ⟨u0,hB,b0⟩ a0 c0 h0
  have rk11:inI64 (s0:Int):=rngK d0 l6
  refine Ab (Aa ?_)
  obtain ⟨b1,c1,v0,i0,j0,k0,rfl,d1,e1⟩:=b0.elem' d0
  refine Bi (hA:=i0) (hj:=rfl) (hlt:=j0) rfl rfl ?_
  refine Bd (hl:=rfl) (hc:=k0) rfl ?_
  refine AU 2 u0 fun w0 f1 y0 l0 e0=>?_
  refine Az e0 rfl rfl rfl (AJ) (allOne) fun z0 m0 e0=>?_
  replace e0:Lc 2 z0 y0 w0 78 [(.int .i64 p0.var),(.int .i64 p0.val)]:=e0
  refine o_z ?_
  refine Ab (Aa (Ax rfl (At (hc:=Blk.cell (i:=0) (e0.1) rfl) rfl ?_)))
  refine Ak rfl (GU rfl rfl (fun n0=>?_) fun n0=>?_)
  ·
   replace a0:=ip a0 n0
   refine o_z ?_
   refine Ah rfl (Ab (Aa (Am rfl (o_z ?_))))
   refine AF ?_
   obtain rfl:=sm a0
   obtain rfl:=c0 _ rfl
   obtain rfl:=sm (BY hm)
   replace hB:=(hB.st l0).st m0
   exact ret1v rfl (AA rfl) ⟨hB.ext,vBool⟩
  replace a0:=im a0 n0
  refine o_z ?_
  refine Ae rfl (AO ?_)
  obtain rfl:=sm a0
  exact show Exists _ from ⟨_,(),rfl,⟨rfl,rfl,rfl,rfl,trivial⟩,_,(hB.st l0).st m0,(b0.st l0).st m0⟩
 rintro g1 h1 ⟨i1,j1,rfl,o0,k1,hB⟩
 replace hm:=AR hm
 refine AH _ o0 ?_
 refine Ab (Aa (Am rfl (o_z ?_)))
 refine AF ?_
 obtain rfl:=sm hm
 exact ret1v rfl (AA rfl) ⟨hB.ext,vBool⟩
noncomputable def DS (x0:Tpl) (x1:Int) (x2:Bool):Option Bool :=
  bnd (rng (ρ:=Bool) (fun (k32:Nat) (a33:Job) (s30:Unit)=>bnd (rng (ρ:=Ctl Unit Bool) (fun (k91:Nat) (a92:Bool) (s89:Unit)=>bnd (GA a33 a92) fun q109=>bnd (if x2=true then (bnd (Ge a33 a92) fun q124=>some q124) else (some q109):Option (List Fct)) fun y118=>bnd (EQ y118 x1) fun q137=>if q137=true then some (.ret (.ret true)) else some (.next ())) [false,true] 0 ()) fun res87=>fin res87 fun (s148:Unit)=>some (.next ())) x0.jobs 0 ()) fun res28=>fin res28 fun (s154:Unit)=>some false
theorem IA {w:World} {A:Nat→Prop} (hA:∀ k,A k→k < w.heap.size) {vx0:Value} {x0:Tpl} (e2:Vb w A vx0 x0) {x1:Int} (rx1:inI64 x1) {x2:Bool} {r:Bool} (hm:DS x0 x1 x2=some r) :
    Fn prog 107 [vx0,(.int .i64 x1),(.bool x2)] w fun v w'=>Ext w w'∧Vb w' (upA A w w') v r:=by
 obtain ⟨O,hB,j3⟩:=enter hA
 replace e2:=e2.mono j3
 obtain ⟨z4,rfl,v5,v6,v7,v8,rfl,h9,k3,l3,d0⟩:=e2
 obtain ⟨m3,n3,rfl⟩:=h9.form
 obtain ⟨o3,p3,rfl⟩:=k3.form
 obtain ⟨q3,r3,rfl⟩:=l3.form
 obtain ⟨s0,t0,rfl⟩:=d0.form
 refine AL func107 rfl ntmps107 ?_
 unfold DS at hm
 refine Ab (Aa (BL 2 O rfl fun s3 t3 d3 f2 g2=>?_))
 replace g2:Lc 2 t3 d3 s3 26 [(.slice m3 x0.vars.length n3),(.slice o3 x0.init.length p3),(.slice q3 x0.goal.length r3),(.slice s0 x0.jobs.length t0)]:=g2
 refine Am rfl (o_z ?_)
 refine Ab (Ab (Aa (Ax rfl (At (hc:=Blk.cell (i:=3) (g2.1) rfl) rfl ?_))))
 refine AS rfl ?_
 replace d0:=d0.st f2
 have h2:x0.jobs.length≤9223372036854775807:=Nat.le_trans d0.len.2.1 d0.len.2.2
 have a5:inI64 (x0.jobs.length:Int):=rngNat h2
 refine Ak rfl (o_z ?_)
 obtain ⟨l1,i2,hm⟩:=bs hm
 refine Ay (aft l1 (fun (y1:Unit) (z1:Unit)=>[]) (fun y1 z1 w'=>∃ O':Lab,Bs w A w' O')) ?_ ?_
 ·
  refine AK ?_
  replace hB:=hB.st f2
  refine AY (σ:=Unit) (X:=Unit) (x0.jobs.length) i2 rfl h2 (fun (y1:Unit) (z1:Unit)=>[(1,(.int .i64 x1)),(2,(.bool x2)),(13,(.slice s0 x0.jobs.length t0))]) _ (fun y1 z1 w'=>∃ O':Lab,Bs w A w' O'∧Vb w' (Fr 0 w' O') (.slice s0 x0.jobs.length t0) x0.jobs) _ () ⟨d3,hB,d0⟩ ⟨rfl,rfl,rfl,rfl,rfl,trivial⟩ (fun _ _=>⟨rfl,rfl⟩) (fun _ _=>trivial) (fun _ _ _ ⟨O',hB,d0⟩=>⟨O',hB⟩) ⟨rfl,rfl,rfl⟩ ⟨rfl,rfl⟩ ?_
  rintro a2 a0 y1 z1 b5 u3 m1 ⟨v3,hB,d0⟩ o0 w0 j2
  have rk32:inI64 (a2:Int):=rngK m1 h2
  refine Ab (Aa ?_)
  obtain ⟨c5,d5,w3,k2,l2,m2,e5,f5,g5,h5,i5,rfl,j0,k0,l0,m0,n0,e3,f3⟩:=d0.elem' m1
  obtain ⟨y0,z0,rfl⟩:=j0.form
  obtain ⟨a1,b1,rfl⟩:=k0.form
  obtain ⟨c1,d1,rfl⟩:=l0.form
  obtain ⟨e1,f1,rfl⟩:=m0.form
  obtain ⟨g1,h1,rfl⟩:=n0.form
  refine Bi (hA:=k2) (hj:=rfl) (hlt:=l2) rfl rfl ?_
  refine Bd (hl:=rfl) (hc:=m2) rfl ?_
  refine AU 3 v3 fun n1 j5 g3 u0 g0=>?_
  refine Az g0 rfl rfl rfl (AJ) (allOne) fun x3 v0 g0=>?_
  replace g0:Lc 3 x3 g3 n1 66 [(.string a0.name),(.int .i64 a0.dur),(.slice y0 a0.start.length z0),(.slice a1 a0.over.length b1),(.slice c1 a0.fin.length d1),(.slice e1 a0.atStart.length f1),(.slice g1 a0.atEnd.length h1)]:=g0
  refine o_z ?_
  refine Ab (Aa (AQ 4 g3 (xs:=([false,true]:List Bool)) rfl rfl rfl ⟨vBool,vBool,trivial⟩ fun b2 k5 y3 r0 p0=>?_))
  refine AS rfl ?_
  have n2:[false,true].length≤9223372036854775807:=Nat.le_trans p0.len.2.1 p0.len.2.2
  have l5:inI64 ([false,true].length:Int):=rngNat n2
  refine Ak rfl (o_z ?_)
  obtain ⟨o1,o2,o0⟩:=bs o0
  refine Ay (aft o1 (fun (c2:Unit) (d2:Unit)=>[(1,(.int .i64 x1)),(2,(.bool x2)),(13,(.slice s0 x0.jobs.length t0)),(14,(.int .i64 (x0.jobs.length:Int))),(15,(.int .i64 (a2:Int)))]) (fun c2 d2 w'=>∃ O':Lab,Bs w A w' O'∧Vb w' (Fr 0 w' O') (.slice s0 x0.jobs.length t0) x0.jobs)) ?_ ?_
  ·
   refine AK ?_
   replace hB:=((hB.st u0).st v0).st r0
   replace d0:=((d0.st u0).st v0).st r0
   replace j0:=((j0.st u0).st v0).st r0
   replace k0:=((k0.st u0).st v0).st r0
   replace l0:=((l0.st u0).st v0).st r0
   replace m0:=((m0.st u0).st v0).st r0
   replace n0:=((n0.st u0).st v0).st r0
   replace g0:=g0.st r0
   refine AY (σ:=Unit) (X:=Unit) ([false,true].length) o2 rfl n2 (fun (c2:Unit) (d2:Unit)=>[(1,(.int .i64 x1)),(2,(.bool x2)),(8,(.pointer (some ⟨n1,0,none⟩))),(13,(.slice s0 x0.jobs.length t0)),(14,(.int .i64 (x0.jobs.length:Int))),(15,(.int .i64 (a2:Int))),(19,(.slice (some ⟨b2,0,none⟩) [false,true].length 2))]) _ (fun c2 d2 w'=>∃ O':Lab,Bs w A w' O'∧Lc 3 w' O' n1 66 [(.string a0.name),(.int .i64 a0.dur),(.slice y0 a0.start.length z0),(.slice a1 a0.over.length b1),(.slice c1 a0.fin.length d1),(.slice e1 a0.atStart.length f1),(.slice g1 a0.atEnd.length h1)]∧Vb w' (Fr 0 w' O') (.slice y0 a0.start.length z0) a0.start∧Vb w' (Fr 0 w' O') (.slice a1 a0.over.length b1) a0.over∧Vb w' (Fr 0 w' O') (.slice c1 a0.fin.length d1) a0.fin∧Vb w' (Fr 0 w' O') (.slice e1 a0.atStart.length f1) a0.atStart∧Vb w' (Fr 0 w' O') (.slice g1 a0.atEnd.length h1) a0.atEnd∧Vb w' (Fr 0 w' O') (.slice s0 x0.jobs.length t0) x0.jobs∧Rw 4 w' O' 4 (.slice (some ⟨b2,0,none⟩) [false,true].length 2) [false,true]) _ () ⟨y3,hB,g0,j0,k0,l0,m0,n0,d0,p0⟩ ⟨rfl,rfl,rfl,rfl,rfl,rfl,rfl,rfl,rfl,trivial⟩ (fun _ _=>⟨rfl,rfl⟩) (fun _ _=>⟨rfl,rfl,rfl,rfl,rfl,trivial⟩) (fun _ _ _ ⟨O',hB,g0,j0,k0,l0,m0,n0,d0,p0⟩=>⟨O',hB,d0⟩) ⟨rfl,rfl,rfl⟩ ⟨rfl,rfl⟩ ?_
   rintro h3 m5 c2 d2 n5 z3 p1 ⟨a4,hB,g0,j0,k0,l0,m0,n0,d0,p0⟩ e0 i1 p2
   have rk91:inI64 (h3:Int):=rngK p1 n2
   refine Ab (Aa ?_)
   obtain ⟨b4,c4,i3,q1,r1,s1,rfl⟩:=p0.elem p1
   refine Bi (hA:=q1) (hj:=rfl) (hlt:=r1) rfl rfl ?_
   refine At (hc:=cat0 s1) rfl ?_
   refine Am rfl (o_z ?_)
   refine Ab (Aa (Bd (hl:=rfl) (hc:=(g0.1).cellsAt) rfl ?_))
   refine Ak rfl ?_
   obtain ⟨d4,q2,e0⟩:=bs e0
   refine Cc (O:=a4) (MR Fr.lt (Vb.ofAgg (cs:=[(.string a0.name),(.int .i64 a0.dur),(.slice y0 a0.start.length z0),(.slice a1 a0.over.length b1),(.slice c1 a0.fin.length d1),(.slice e1 a0.atStart.length f1),(.slice g1 a0.atEnd.length h1)]) (x:=a0) rfl ⟨_,_,_,_,_,rfl,j0,k0,l0,m0,n0,e3,f3⟩) q2) rfl fun e4 f4 r2 b0 t1=>?_
   obtain ⟨s2,t2,rfl⟩:=t1.form
   refine Am rfl (o_z ?_)
   refine Ab ?_
   obtain ⟨j1,c0,e0⟩:=bs e0
   refine Ay (fun l' w'=>∃ (q0:(Option Addr×Nat)) (O':Lab),subs l' [(1,(.int .i64 x1)),(2,(.bool x2)),(8,(.pointer (some ⟨n1,0,none⟩))),(11,(.slice q0.1 j1.length q0.2)),(13,(.slice s0 x0.jobs.length t0)),(14,(.int .i64 (x0.jobs.length:Int))),(15,(.int .i64 (a2:Int))),(19,(.slice (some ⟨b2,0,none⟩) [false,true].length 2)),(20,(.int .i64 ([false,true].length:Int))),(21,(.int .i64 (h3:Int)))]∧Bs w A w' O'∧Lc 3 w' O' n1 66 [(.string a0.name),(.int .i64 a0.dur),(.slice y0 a0.start.length z0),(.slice a1 a0.over.length b1),(.slice c1 a0.fin.length d1),(.slice e1 a0.atStart.length f1),(.slice g1 a0.atEnd.length h1)]∧Vb w' (Fr 0 w' O') (.slice y0 a0.start.length z0) a0.start∧Vb w' (Fr 0 w' O') (.slice a1 a0.over.length b1) a0.over∧Vb w' (Fr 0 w' O') (.slice c1 a0.fin.length d1) a0.fin∧Vb w' (Fr 0 w' O') (.slice e1 a0.atStart.length f1) a0.atStart∧Vb w' (Fr 0 w' O') (.slice g1 a0.atEnd.length h1) a0.atEnd∧Vb w' (Fr 0 w' O') (.slice q0.1 j1.length q0.2) j1∧Vb w' (Fr 0 w' O') (.slice s0 x0.jobs.length t0) x0.jobs∧Rw 4 w' O' 4 (.slice (some ⟨b2,0,none⟩) [false,true].length 2) [false,true]) ?_ ?_
   ·
    refine Ab (Aa (Ak rfl (o_z ?_)))
    refine Cd rfl (fun k1=>?_) (fun k1=>?_)
    ·
     replace c0:=ip c0 k1
     refine Aa ?_
     replace g0:=g0.st b0
     refine Bd (hl:=rfl) (hc:=(g0.1).cellsAt) rfl ?_
     refine Ak rfl ?_
     obtain ⟨g4,u2,c0⟩:=bs c0
     replace j0:=j0.st b0
     replace k0:=k0.st b0
     replace l0:=l0.st b0
     replace m0:=m0.st b0
     replace n0:=n0.st b0
     refine Cc (O:=r2) (Mj Fr.lt (Vb.ofAgg (cs:=[(.string a0.name),(.int .i64 a0.dur),(.slice y0 a0.start.length z0),(.slice a1 a0.over.length b1),(.slice c1 a0.fin.length d1),(.slice e1 a0.atStart.length f1),(.slice g1 a0.atEnd.length h1)]) (x:=a0) rfl ⟨_,_,_,_,_,rfl,j0,k0,l0,m0,n0,e3,f3⟩) u2) rfl fun h4 i4 j4 h0 u1=>?_
     obtain ⟨v2,w2,rfl⟩:=u1.form
     refine Am rfl (o_z ?_)
     obtain rfl:=sm c0
     exact ⟨(v2,w2),_,⟨rfl,rfl,rfl,rfl,rfl,rfl,rfl,rfl,rfl,rfl,trivial⟩,(hB.st b0).st h0,g0.st h0,j0.st h0,k0.st h0,l0.st h0,m0.st h0,n0.st h0,u1,(d0.st b0).st h0,(p0.st b0).st h0⟩
    replace c0:=im' c0 k1
    refine AO ?_
    obtain rfl:=sm c0
    exact ⟨(s2,t2),_,⟨rfl,rfl,rfl,rfl,rfl,rfl,rfl,rfl,rfl,rfl,trivial⟩,hB.st b0,g0.st b0,j0.st b0,k0.st b0,l0.st b0,m0.st b0,n0.st b0,t1,d0.st b0,p0.st b0⟩
   replace hB:=hB.st b0
   replace d0:=d0.st b0
   replace j0:=j0.st b0
   replace k0:=k0.st b0
   replace l0:=l0.st b0
   replace m0:=m0.st b0
   replace n0:=n0.st b0
   replace g0:=g0.st b0
   replace p0:=p0.st b0
   rintro k4 l4 ⟨q0,y2,v1,hB,g0,j0,k0,l0,m0,n0,z2,d0,p0⟩
   refine AH _ v1 ?_
   refine Ab (Aa (Ak rfl (Ak rfl ?_)))
   obtain ⟨a3,b3,e0⟩:=bs e0
   refine AM (O:=y2) (II (fun _ h=>h) (vMo z2) rx1 b3) rfl fun m4 n4 o4 f0 c3=>?_
   obtain rfl:=c3.bool
   cases a3
   case false =>
    replace e0:=iF e0
    refine o_z ?_
    refine Ae rfl (AO ?_)
    obtain rfl:=sm e0
    exact show Exists _ from ⟨_,(),rfl,⟨rfl,rfl,rfl,rfl,rfl,rfl,rfl,rfl,rfl,trivial⟩,_,hB.st f0,g0.st f0,j0.st f0,k0.st f0,l0.st f0,m0.st f0,n0.st f0,d0.st f0,p0.st f0⟩
   replace e0:=iT e0
   refine o_z ?_
   refine Ah rfl (Ab (Aa (Am rfl (o_z ?_))))
   refine AF ?_
   obtain rfl:=sm e0
   obtain rfl:=i1 _ rfl
   obtain rfl:=sm (BY o0)
   obtain rfl:=w0 _ rfl
   obtain rfl:=sm (BY hm)
   replace hB:=hB.st f0
   exact ret1v rfl (AA rfl) ⟨hB.ext,vBool⟩
  replace hB:=((hB.st u0).st v0).st r0
  replace d0:=((d0.st u0).st v0).st r0
  rintro p4 q4 ⟨r4,s4,rfl,i0,t4,hB,d0⟩
  replace o0:=AR o0
  obtain rfl:=sm o0
  exact show Exists _ from ⟨_,(),rfl,⟨(Ar i0 _ _ rfl),(Ar i0 _ _ rfl),(Ar i0 _ _ rfl),(Ar i0 _ _ rfl),(Ar i0 _ _ rfl),trivial⟩,_,hB,d0⟩
 replace hB:=hB.st f2
 rintro u4 v4 ⟨w4,x4,rfl,w1,y4,hB⟩
 replace hm:=AR hm
 refine AH _ w1 ?_
 refine Ab (Aa (Am rfl (o_z ?_)))
 refine AF ?_
 obtain rfl:=sm hm
 exact ret1v rfl (AA rfl) ⟨hB.ext,vBool⟩
noncomputable def Fa (x0:Tpl):Option Plc :=
  bnd (appI 8 ([]:List Int) x0.vars) fun u35=>bnd (rng (ρ:=Plc) (fun (k59:Nat) (a60:Job) (s57:(List Int)×(List Int)×(List Int))=>bnd (chkI ((s57.2.2.length:Int) + 1)) fun n118=>bnd (appI 8 s57.1 ([(s57.2.2.length:Int)]:List Int)) fun u120=>bnd (appI 8 s57.2.1 ([n118]:List Int)) fun u122=>bnd (some (u120,u122):Option ((List Int)×(List Int))) fun y124=>bnd (chkI (a60.dur + 2)) fun n237=>bnd (appI 8 s57.2.2 ([n237,2]:List Int)) fun u246=>some (.next (y124.1,y124.2,u246))) x0.jobs 0 (([]:List Int),([]:List Int),u35)) fun res55=>fin res55 fun (s263:(List Int)×(List Int)×(List Int))=>bnd (rng (ρ:=Plc) (fun (k271:Nat) (a272:Int) (s269:(List Int)×(List Int)×(List Int))=>bnd (bnd (DS x0 (k271:Int) true) fun q302=>if q302=true then bnd (appI 8 s269.2.2 [2]) fun u311=>bnd (DS x0 (k271:Int) false) fun q325=>if q325=true then bnd (appI 8 u311 [2]) fun u334=>some ((s269.2.2.length:Int),(u311.length:Int),u334) else some ((s269.2.2.length:Int),(-1),u311) else some ((-1),(-1),s269.2.2):Option (Int×Int×(List Int))) fun y294=>bnd (appI 8 s269.1 ([y294.1]:List Int)) fun u352=>bnd (appI 8 s269.2.1 ([y294.2.1]:List Int)) fun u354=>some (.next (u352,u354,y294.2.2))) x0.vars 0 (([]:List Int),([]:List Int),s263.2.2)) fun res267=>fin res267 fun (s456:(List Int)×(List Int)×(List Int))=>bnd (chkI ((x0.jobs.length:Int) + 2)) fun n464=>bnd (appI 8 s456.2.2 [n464]) fun u467=>some (⟨s263.1,s263.2.1,s456.1,s456.2.1,(s456.2.2.length:Int),u467⟩:Plc)
theorem Mo {w:World} {A:Nat→Prop} (hA:∀ k,A k→k < w.heap.size) {vx0:Value} {x0:Tpl} (o8:Vb w A vx0 x0) {r:Plc} (hm:Fa x0=some r) :
    Fn prog 49 [vx0] w fun v w'=>Ext w w'∧Vb w' (upA A w w') v r:=by
 obtain ⟨O,hB,vC⟩:=enter hA
 replace o8:=o8.mono vC
 obtain ⟨hG,rfl,v3,v4,v5,v6,rfl,h7,o1,p1,y0⟩:=o8
 obtain ⟨A8,c9,rfl⟩:=h7.form
 obtain ⟨f3,g3,rfl⟩:=o1.form
 obtain ⟨h3,i3,rfl⟩:=p1.form
 obtain ⟨c3,d3,rfl⟩:=y0.form
 refine AL func49 rfl ntmps49 ?_
 unfold Fa at hm
 refine Ab (Aa (BL 2 O rfl fun p3 wC pC n4 s0=>?_))
 replace s0:Lc 2 wC pC p3 26 [(.slice A8 x0.vars.length c9),(.slice f3 x0.init.length g3),(.slice h3 x0.goal.length i3),(.slice c3 x0.jobs.length d3)]:=s0
 refine AU 3 pC fun q3 iG xC h4 z0=>?_
 refine o_z ?_
 refine Ab (Aa (AQ 4 xC (xs:=(([]:List Int):List Int)) rfl rfl rfl trivial fun jG kG lG e4 yC=>?_))
 refine Ax rfl ?_
 replace s0:=(s0.st h4).st e4
 refine At (hc:=Blk.cell (i:=0) (s0.1) rfl) rfl ?_
 obtain ⟨zC,p8,hm⟩:=bs hm
 obtain ⟨p8,aD,bD⟩:=AI p8
 replace h7:=((h7.st n4).st h4).st e4
 refine AZ rfl yC (h7.rd) rfl rfl aD bD fun qC rC mG cD d4 l8=>?_
 rw [← p8] at l8 ⊢
 refine Cl rfl rfl ?_
 refine AU 5 cD fun x1 nG sC r3 b0=>?_
 refine Az b0 rfl rfl rfl (AJ) (allOne) fun dD s3 b0=>?_
 replace b0:Lc 5 dD sC x1 97 [(.slice none 0 0),(.slice none 0 0),(.slice none 0 0),(.slice none 0 0),(.int .i64 0),(.slice qC zC.length rC)]:=b0
 refine o_z ?_
 refine Ab (Ab (Aa (Ax rfl ?_)))
 replace s0:=((s0.st d4).st r3).st s3
 refine At (hc:=Blk.cell (i:=3) (s0.1) rfl) rfl ?_
 refine AS rfl ?_
 replace y0:=(((((y0.st n4).st h4).st e4).st d4).st r3).st s3
 have q8:x0.jobs.length≤9223372036854775807:=Nat.le_trans y0.len.2.1 y0.len.2.2
 have oG:inI64 (x0.jobs.length:Int):=rngNat q8
 refine Ak rfl (o_z ?_)
 obtain ⟨e6,r8,hm⟩:=bs hm
 refine Ay (aft e6 (fun (t0:(List Int)×(List Int)×(List Int)) (m0:(Option Addr×Nat)×(Option Addr×Nat)×(Option Addr×Nat))=>[(1,(.pointer (some ⟨p3,0,none⟩))),(2,(.pointer (some ⟨q3,0,none⟩))),(3,(.pointer (some ⟨x1,0,none⟩)))]) (fun t0 m0 w'=>∃ O':Lab,Bs w A w' O'∧Lc 2 w' O' p3 26 [(.slice A8 x0.vars.length c9),(.slice f3 x0.init.length g3),(.slice h3 x0.goal.length i3),(.slice c3 x0.jobs.length d3)]∧Vb w' (Fr 0 w' O') (.slice A8 x0.vars.length c9) x0.vars∧Vb w' (Fr 0 w' O') (.slice f3 x0.init.length g3) x0.init∧Vb w' (Fr 0 w' O') (.slice h3 x0.goal.length i3) x0.goal∧Vb w' (Fr 0 w' O') (.slice c3 x0.jobs.length d3) x0.jobs∧Lc 3 w' O' q3 97 [(.slice none 0 0),(.slice none 0 0),(.slice none 0 0),(.slice none 0 0),(.int .i64 0),(.slice none 0 0)]∧Lc 5 w' O' x1 97 [(.slice m0.1.1 t0.1.length m0.1.2),(.slice m0.2.1.1 t0.2.1.length m0.2.1.2),(.slice none 0 0),(.slice none 0 0),(.int .i64 0),(.slice m0.2.2.1 t0.2.2.length m0.2.2.2)]∧Rw 8 w' O' 3 (.slice m0.1.1 t0.1.length m0.1.2) t0.1∧Rw 10 w' O' 3 (.slice m0.2.1.1 t0.2.1.length m0.2.1.2) t0.2.1∧Rw 4 w' O' 3 (.slice m0.2.2.1 t0.2.2.length m0.2.2.2) t0.2.2)) ?_ ?_
 ·
  refine AK ?_
  replace hB:=(((((hB.st n4).st h4).st e4).st d4).st r3).st s3
  replace h7:=((h7.st d4).st r3).st s3
  replace o1:=(((((o1.st n4).st h4).st e4).st d4).st r3).st s3
  replace p1:=(((((p1.st n4).st h4).st e4).st d4).st r3).st s3
  replace z0:=(((z0.st e4).st d4).st r3).st s3
  replace l8:=(l8.st r3).st s3
  refine AY (σ:=(List Int)×(List Int)×(List Int)) (X:=(Option Addr×Nat)×(Option Addr×Nat)×(Option Addr×Nat)) (x0.jobs.length) r8 rfl q8 (fun (t0:(List Int)×(List Int)×(List Int)) (m0:(Option Addr×Nat)×(Option Addr×Nat)×(Option Addr×Nat))=>[(1,(.pointer (some ⟨p3,0,none⟩))),(2,(.pointer (some ⟨q3,0,none⟩))),(3,(.pointer (some ⟨x1,0,none⟩))),(15,(.slice c3 x0.jobs.length d3))]) _ (fun t0 m0 w'=>∃ O':Lab,Bs w A w' O'∧Lc 2 w' O' p3 26 [(.slice A8 x0.vars.length c9),(.slice f3 x0.init.length g3),(.slice h3 x0.goal.length i3),(.slice c3 x0.jobs.length d3)]∧Vb w' (Fr 0 w' O') (.slice A8 x0.vars.length c9) x0.vars∧Vb w' (Fr 0 w' O') (.slice f3 x0.init.length g3) x0.init∧Vb w' (Fr 0 w' O') (.slice h3 x0.goal.length i3) x0.goal∧Vb w' (Fr 0 w' O') (.slice c3 x0.jobs.length d3) x0.jobs∧Lc 3 w' O' q3 97 [(.slice none 0 0),(.slice none 0 0),(.slice none 0 0),(.slice none 0 0),(.int .i64 0),(.slice none 0 0)]∧Lc 5 w' O' x1 97 [(.slice m0.1.1 t0.1.length m0.1.2),(.slice m0.2.1.1 t0.2.1.length m0.2.1.2),(.slice none 0 0),(.slice none 0 0),(.int .i64 0),(.slice m0.2.2.1 t0.2.2.length m0.2.2.2)]∧Rw 8 w' O' 3 (.slice m0.1.1 t0.1.length m0.1.2) t0.1∧Rw 10 w' O' 3 (.slice m0.2.1.1 t0.2.1.length m0.2.1.2) t0.2.1∧Rw 4 w' O' 3 (.slice m0.2.2.1 t0.2.2.length m0.2.2.2) t0.2.2) _ ((none,0),(none,0),(qC,rC)) ⟨sC,hB,s0,h7,o1,p1,y0,z0,b0,(Rw.nil 8 (by decide)),(Rw.nil 10 (by decide)),l8⟩ ⟨rfl,rfl,rfl,rfl,rfl,rfl,trivial⟩ (fun _ _=>⟨rfl,rfl⟩) (fun _ _=>⟨rfl,rfl,rfl,trivial⟩) (fun _ _ _ ⟨O',hB,s0,h7,o1,p1,y0,z0,b0,t1,u1,v2⟩=>⟨O',hB,s0,h7,o1,p1,y0,z0,b0,t1,u1,v2⟩) ⟨rfl,rfl,rfl⟩ ⟨rfl,rfl⟩ ?_
  rintro tC r2 t0 m0 pG eD f6 ⟨fD,hB,s0,h7,o1,p1,y0,z0,b0,t1,u1,v2⟩ e2 s8 t8
  have rk59:inI64 (tC:Int):=rngK f6 q8
  refine Ab (Aa ?_)
  obtain ⟨qG,rG,gD,u8,v8,w8,sG,tG,uG,vG,wG,rfl,o4,p4,j3,k3,l3,hD,iD⟩:=y0.elem' f6
  obtain ⟨x8,y8,rfl⟩:=o4.form
  obtain ⟨z8,a9,rfl⟩:=p4.form
  obtain ⟨q4,r4,rfl⟩:=j3.form
  obtain ⟨s4,t4,rfl⟩:=k3.form
  obtain ⟨u4,w4,rfl⟩:=l3.form
  refine Bi (hA:=u8) (hj:=rfl) (hlt:=v8) rfl rfl ?_
  refine Bd (hl:=rfl) (hc:=w8) rfl ?_
  refine AU 6 fD fun x4 jD i4 c0 w2=>?_
  refine Az w2 rfl rfl rfl (AJ) (allOne) fun b9 d0 w2=>?_
  replace w2:Lc 6 b9 i4 x4 66 [(.string r2.name),(.int .i64 r2.dur),(.slice x8 r2.start.length y8),(.slice z8 r2.over.length a9),(.slice q4 r2.fin.length r4),(.slice s4 r2.atStart.length t4),(.slice u4 r2.atEnd.length w4)]:=w2
  refine o_z ?_
  refine Ab ?_
  obtain ⟨y4,g6,e2⟩:=bs e2
  obtain ⟨t3,x2,e2⟩:=bs e2
  obtain ⟨z4,y2,e2⟩:=bs e2
  obtain ⟨e3,f4,e2⟩:=bs e2
  refine Ay (fun l' w'=>∃ (g1:(Option Addr×Nat)×(Option Addr×Nat)) (O':Lab),subs l' [(1,(.pointer (some ⟨p3,0,none⟩))),(2,(.pointer (some ⟨q3,0,none⟩))),(3,(.pointer (some ⟨x1,0,none⟩))),(5,(.pointer (some ⟨x4,0,none⟩))),(15,(.slice c3 x0.jobs.length d3)),(16,(.int .i64 (x0.jobs.length:Int))),(17,(.int .i64 (tC:Int)))]∧Bs w A w' O'∧Lc 2 w' O' p3 26 [(.slice A8 x0.vars.length c9),(.slice f3 x0.init.length g3),(.slice h3 x0.goal.length i3),(.slice c3 x0.jobs.length d3)]∧Vb w' (Fr 0 w' O') (.slice A8 x0.vars.length c9) x0.vars∧Vb w' (Fr 0 w' O') (.slice f3 x0.init.length g3) x0.init∧Vb w' (Fr 0 w' O') (.slice h3 x0.goal.length i3) x0.goal∧Vb w' (Fr 0 w' O') (.slice c3 x0.jobs.length d3) x0.jobs∧Lc 3 w' O' q3 97 [(.slice none 0 0),(.slice none 0 0),(.slice none 0 0),(.slice none 0 0),(.int .i64 0),(.slice none 0 0)]∧Lc 5 w' O' x1 97 [(.slice g1.1.1 e3.1.length g1.1.2),(.slice g1.2.1 e3.2.length g1.2.2),(.slice none 0 0),(.slice none 0 0),(.int .i64 0),(.slice m0.2.2.1 t0.2.2.length m0.2.2.2)]∧Rw 8 w' O' 3 (.slice g1.1.1 e3.1.length g1.1.2) e3.1∧Rw 10 w' O' 3 (.slice g1.2.1 e3.2.length g1.2.2) e3.2∧Rw 4 w' O' 3 (.slice m0.2.2.1 t0.2.2.length m0.2.2.2) t0.2.2∧Lc 6 w' O' x4 66 [(.string r2.name),(.int .i64 r2.dur),(.slice x8 r2.start.length y8),(.slice z8 r2.over.length a9),(.slice q4 r2.fin.length r4),(.slice s4 r2.atStart.length t4),(.slice u4 r2.atEnd.length w4)]∧Vb w' (Fr 0 w' O') (.slice x8 r2.start.length y8) r2.start∧Vb w' (Fr 0 w' O') (.slice z8 r2.over.length a9) r2.over∧Vb w' (Fr 0 w' O') (.slice q4 r2.fin.length r4) r2.fin∧Vb w' (Fr 0 w' O') (.slice s4 r2.atStart.length t4) r2.atStart∧Vb w' (Fr 0 w' O') (.slice u4 r2.atEnd.length w4) r2.atEnd) ?_ ?_
  ·
   refine Br [(6,[8]),(14,[10]),(16,[5])] i4 ?_
   refine AP (fuel:=14) [] [(0,true),(1,true),(2,true),(3,true),(4,true)] rfl ?_
   refine AT rfl rfl ?_
   replace b0:=(b0.st c0).st d0
   refine AV (hc:=bCell b0 0 rfl) rfl rfl ?_
   refine AT rfl rfl (AV (hc:=bCell b0 5 rfl) rfl rfl ?_)
   refine JQ rfl rfl ?_
   replace v2:=(v2.st c0).st d0
   have d9:t0.2.2.length≤9223372036854775807:=Nat.le_trans v2.len.2.1 v2.len.2.2
   have h6:inI64 (t0.2.2.length:Int):=rngNat d9
   refine AC ?_
   refine AP (fuel:=8) [8] [(7,true),(8,true),(9,true),(10,true),(11,true),(12,true)] rfl ?_
   refine AT rfl rfl (AV (hc:=bCell b0 1 rfl) rfl rfl ?_)
   refine AT rfl rfl (AV (hc:=bCell b0 5 rfl) rfl rfl ?_)
   refine JQ rfl rfl ?_
   have e9:t0.2.2.length≤9223372036854775807:=Nat.le_trans v2.len.2.1 v2.len.2.2
   have kD:inI64 (t0.2.2.length:Int):=rngNat e9
   have a5:=(Bq g6)
   refine Hp (he:=g6) rfl rfl rfl ?_
   refine AC ?_
   refine EJ (i:=5) (j:=13) rfl rfl ?_ ?_
   ·
    refine AQ 7 i4 (xs:=(([(t0.2.2.length:Int)]:List Int):List Int)) rfl rfl rfl ⟨(vInt h6),trivial⟩ fun lD mD f9 h0 j4=>?_
    have hZ:=lZ h0
    refine AN [(6,[8]),(14,[10]),(16,[5])] hZ ?_
    refine EJ (i:=6) (j:=13) rfl rfl ?_ ?_
    ·
     obtain ⟨x2,g9,h9⟩:=AI x2
     replace t1:=((t1.st c0).st d0).st h0
     refine AZ rfl t1 (j4.rd) rfl rfl g9 h9 fun b5 c5 nD i9 h1 i6=>?_
     rw [← x2] at i6 ⊢
     have hZ:=h1.lst [8] (fun _ h=>by cases h;decide)
     refine AN [(14,[10]),(16,[5])] hZ ?_
     refine AP (fuel:=5) [10] [(15,true)] rfl ?_
     refine AT rfl rfl (AC ?_)
     refine AD (i:=13) rfl ?_
     refine AQ 9 i9 (xs:=(([y4]:List Int):List Int)) rfl rfl rfl ⟨(vInt a5),trivial⟩ fun oD pD qD a1 j9=>?_
     have hZ:=lZ a1
     refine AN [(14,[10]),(16,[5])] hZ ?_
     refine AD (i:=14) rfl ?_
     obtain ⟨y2,k9,l9⟩:=AI y2
     replace u1:=((((u1.st c0).st d0).st h0).st h1).st a1
     refine AZ rfl u1 (j9.rd) rfl rfl k9 l9 fun j6 k6 rD l6 i1 m6=>?_
     rw [← y2] at m6 ⊢
     have hZ:=i1.lst [10] (fun _ h=>by cases h;decide)
     refine AN [(16,[5])] hZ ?_
     refine AD (i:=16) rfl ?_
     replace b0:=(((b0.st h0).st h1).st a1).st i1
     refine Az b0 rfl rfl rfl (AJ) (allOne) fun m9 j1 b0=>?_
     replace b0:Lc 5 m9 l6 x1 97 [(.slice b5 t3.length c5),(.slice m0.2.1.1 t0.2.1.length m0.2.1.2),(.slice none 0 0),(.slice none 0 0),(.int .i64 0),(.slice m0.2.2.1 t0.2.2.length m0.2.2.2)]:=b0
     have hZ:=j1.lst [5] (fun _ h=>by cases h;decide)
     refine AN [] hZ ?_
     refine AP (fuel:=1) [] [(17,true)] rfl ?_
     refine AT rfl rfl (AC ?_)
     refine AD (i:=18) rfl ?_
     refine Az b0 rfl rfl rfl (AJ) (allOne) fun n9 q1 b0=>?_
     replace b0:Lc 5 n9 l6 x1 97 [(.slice b5 t3.length c5),(.slice j6 z4.length k6),(.slice none 0 0),(.slice none 0 0),(.int .i64 0),(.slice m0.2.2.1 t0.2.2.length m0.2.2.2)]:=b0
     refine BF ?_
     refine Bv ?_
     obtain rfl:=sm f4
     exact ⟨((b5,c5),(j6,k6)),_,⟨rfl,rfl,rfl,rfl,rfl,rfl,rfl,trivial⟩,(((((((hB.st c0).st d0).st h0).st h1).st a1).st i1).st j1).st q1,(((((((s0.st c0).st d0).st h0).st h1).st a1).st i1).st j1).st q1,(((((((h7.st c0).st d0).st h0).st h1).st a1).st i1).st j1).st q1,(((((((o1.st c0).st d0).st h0).st h1).st a1).st i1).st j1).st q1,(((((((p1.st c0).st d0).st h0).st h1).st a1).st i1).st j1).st q1,(((((((y0.st c0).st d0).st h0).st h1).st a1).st i1).st j1).st q1,(((((((z0.st c0).st d0).st h0).st h1).st a1).st i1).st j1).st q1,b0,(((i6.st a1).st i1).st j1).st q1,(m6.st j1).st q1,(((((v2.st h0).st h1).st a1).st i1).st j1).st q1,(((((w2.st h0).st h1).st a1).st i1).st j1).st q1,(((((((o4.st c0).st d0).st h0).st h1).st a1).st i1).st j1).st q1,(((((((p4.st c0).st d0).st h0).st h1).st a1).st i1).st j1).st q1,(((((((j3.st c0).st d0).st h0).st h1).st a1).st i1).st j1).st q1,(((((((k3.st c0).st d0).st h0).st h1).st a1).st i1).st j1).st q1,(((((((l3.st c0).st d0).st h0).st h1).st a1).st i1).st j1).st q1⟩
    refine AQ 9 f9 (xs:=(([y4]:List Int):List Int)) rfl rfl rfl ⟨(vInt a5),trivial⟩ fun sD tD uD u0 d5=>?_
    have hZ:=lZ u0
    refine AN [(6,[8]),(14,[10]),(16,[5])] hZ ?_
    refine AD (i:=6) rfl ?_
    obtain ⟨x2,o9,p9⟩:=AI x2
    replace t1:=(((t1.st c0).st d0).st h0).st u0
    replace j4:=j4.st u0
    refine AZ rfl t1 (j4.rd) rfl rfl o9 p9 fun e5 f5 vD wD b1 n6=>?_
    rw [← x2] at n6 ⊢
    have hZ:=b1.lst [8] (fun _ h=>by cases h;decide)
    refine AN [(14,[10]),(16,[5])] hZ ?_
    refine AP (fuel:=4) [10] [(15,true)] rfl ?_
    refine AT rfl rfl (AC ?_)
    refine AD (i:=14) rfl ?_
    obtain ⟨y2,q9,r9⟩:=AI y2
    replace u1:=((((u1.st c0).st d0).st h0).st u0).st b1
    replace d5:=d5.st b1
    refine AZ rfl u1 (d5.rd) rfl rfl q9 r9 fun o6 p6 xD q6 k1 r6=>?_
    rw [← y2] at r6 ⊢
    have hZ:=k1.lst [10] (fun _ h=>by cases h;decide)
    refine AN [(16,[5])] hZ ?_
    refine AD (i:=16) rfl ?_
    replace b0:=(((b0.st h0).st u0).st b1).st k1
    refine Az b0 rfl rfl rfl (AJ) (allOne) fun s9 l1 b0=>?_
    replace b0:Lc 5 s9 q6 x1 97 [(.slice e5 t3.length f5),(.slice m0.2.1.1 t0.2.1.length m0.2.1.2),(.slice none 0 0),(.slice none 0 0),(.int .i64 0),(.slice m0.2.2.1 t0.2.2.length m0.2.2.2)]:=b0
    have hZ:=l1.lst [5] (fun _ h=>by cases h;decide)
    refine AN [] hZ ?_
    refine AP (fuel:=1) [] [(17,true)] rfl ?_
    refine AT rfl rfl (AC ?_)
    refine AD (i:=18) rfl ?_
    refine Az b0 rfl rfl rfl (AJ) (allOne) fun t9 r1 b0=>?_
    replace b0:Lc 5 t9 q6 x1 97 [(.slice e5 t3.length f5),(.slice o6 z4.length p6),(.slice none 0 0),(.slice none 0 0),(.int .i64 0),(.slice m0.2.2.1 t0.2.2.length m0.2.2.2)]:=b0
    refine BF ?_
    refine Bv ?_
    obtain rfl:=sm f4
    exact ⟨((e5,f5),(o6,p6)),_,⟨rfl,rfl,rfl,rfl,rfl,rfl,rfl,trivial⟩,(((((((hB.st c0).st d0).st h0).st u0).st b1).st k1).st l1).st r1,(((((((s0.st c0).st d0).st h0).st u0).st b1).st k1).st l1).st r1,(((((((h7.st c0).st d0).st h0).st u0).st b1).st k1).st l1).st r1,(((((((o1.st c0).st d0).st h0).st u0).st b1).st k1).st l1).st r1,(((((((p1.st c0).st d0).st h0).st u0).st b1).st k1).st l1).st r1,(((((((y0.st c0).st d0).st h0).st u0).st b1).st k1).st l1).st r1,(((((((z0.st c0).st d0).st h0).st u0).st b1).st k1).st l1).st r1,b0,((n6.st k1).st l1).st r1,(r6.st l1).st r1,(((((v2.st h0).st u0).st b1).st k1).st l1).st r1,(((((w2.st h0).st u0).st b1).st k1).st l1).st r1,(((((((o4.st c0).st d0).st h0).st u0).st b1).st k1).st l1).st r1,(((((((p4.st c0).st d0).st h0).st u0).st b1).st k1).st l1).st r1,(((((((j3.st c0).st d0).st h0).st u0).st b1).st k1).st l1).st r1,(((((((k3.st c0).st d0).st h0).st u0).st b1).st k1).st l1).st r1,(((((((l3.st c0).st d0).st h0).st u0).st b1).st k1).st l1).st r1⟩
   refine AQ 9 i4 (xs:=(([y4]:List Int):List Int)) rfl rfl rfl ⟨(vInt a5),trivial⟩ fun yD zD u9 c1 g5=>?_
   have hZ:=lZ c1
   refine AN [(6,[8]),(14,[10]),(16,[5])] hZ ?_
   refine AD (i:=5) rfl ?_
   refine AQ 7 u9 (xs:=(([(t0.2.2.length:Int)]:List Int):List Int)) rfl rfl rfl ⟨(vInt h6),trivial⟩ fun aE bE cE v0 v9=>?_
   have hZ:=lZ v0
   refine AN [(6,[8]),(14,[10]),(16,[5])] hZ ?_
   refine AD (i:=6) rfl ?_
   obtain ⟨x2,w9,x9⟩:=AI x2
   replace t1:=(((t1.st c0).st d0).st c1).st v0
   refine AZ rfl t1 (v9.rd) rfl rfl w9 x9 fun h5 i5 dE eE d1 s6=>?_
   rw [← x2] at s6 ⊢
   have hZ:=d1.lst [8] (fun _ h=>by cases h;decide)
   refine AN [(14,[10]),(16,[5])] hZ ?_
   refine AP (fuel:=4) [10] [(15,true)] rfl ?_
   refine AT rfl rfl (AC ?_)
   refine AD (i:=14) rfl ?_
   obtain ⟨y2,y9,z9⟩:=AI y2
   replace u1:=((((u1.st c0).st d0).st c1).st v0).st d1
   replace g5:=(g5.st v0).st d1
   refine AZ rfl u1 (g5.rd) rfl rfl y9 z9 fun t6 u6 fE w6 m1 x6=>?_
   rw [← y2] at x6 ⊢
   have hZ:=m1.lst [10] (fun _ h=>by cases h;decide)
   refine AN [(16,[5])] hZ ?_
   refine AD (i:=16) rfl ?_
   replace b0:=(((b0.st c1).st v0).st d1).st m1
   refine Az b0 rfl rfl rfl (AJ) (allOne) fun aA n1 b0=>?_
   replace b0:Lc 5 aA w6 x1 97 [(.slice h5 t3.length i5),(.slice m0.2.1.1 t0.2.1.length m0.2.1.2),(.slice none 0 0),(.slice none 0 0),(.int .i64 0),(.slice m0.2.2.1 t0.2.2.length m0.2.2.2)]:=b0
   have hZ:=n1.lst [5] (fun _ h=>by cases h;decide)
   refine AN [] hZ ?_
   refine AP (fuel:=1) [] [(17,true)] rfl ?_
   refine AT rfl rfl (AC ?_)
   refine AD (i:=18) rfl ?_
   refine Az b0 rfl rfl rfl (AJ) (allOne) fun bA s1 b0=>?_
   replace b0:Lc 5 bA w6 x1 97 [(.slice h5 t3.length i5),(.slice t6 z4.length u6),(.slice none 0 0),(.slice none 0 0),(.int .i64 0),(.slice m0.2.2.1 t0.2.2.length m0.2.2.2)]:=b0
   refine BF ?_
   refine Bv ?_
   obtain rfl:=sm f4
   exact ⟨((h5,i5),(t6,u6)),_,⟨rfl,rfl,rfl,rfl,rfl,rfl,rfl,trivial⟩,(((((((hB.st c0).st d0).st c1).st v0).st d1).st m1).st n1).st s1,(((((((s0.st c0).st d0).st c1).st v0).st d1).st m1).st n1).st s1,(((((((h7.st c0).st d0).st c1).st v0).st d1).st m1).st n1).st s1,(((((((o1.st c0).st d0).st c1).st v0).st d1).st m1).st n1).st s1,(((((((p1.st c0).st d0).st c1).st v0).st d1).st m1).st n1).st s1,(((((((y0.st c0).st d0).st c1).st v0).st d1).st m1).st n1).st s1,(((((((z0.st c0).st d0).st c1).st v0).st d1).st m1).st n1).st s1,b0,((s6.st m1).st n1).st s1,(x6.st n1).st s1,(((((v2.st c1).st v0).st d1).st m1).st n1).st s1,(((((w2.st c1).st v0).st d1).st m1).st n1).st s1,(((((((o4.st c0).st d0).st c1).st v0).st d1).st m1).st n1).st s1,(((((((p4.st c0).st d0).st c1).st v0).st d1).st m1).st n1).st s1,(((((((j3.st c0).st d0).st c1).st v0).st d1).st m1).st n1).st s1,(((((((k3.st c0).st d0).st c1).st v0).st d1).st m1).st n1).st s1,(((((((l3.st c0).st d0).st c1).st v0).st d1).st m1).st n1).st s1⟩
  replace hB:=(hB.st c0).st d0
  replace h7:=(h7.st c0).st d0
  replace o1:=(o1.st c0).st d0
  replace p1:=(p1.st c0).st d0
  replace y0:=(y0.st c0).st d0
  replace s0:=(s0.st c0).st d0
  replace z0:=(z0.st c0).st d0
  replace b0:=(b0.st c0).st d0
  replace v2:=(v2.st c0).st d0
  replace o4:=(o4.st c0).st d0
  replace p4:=(p4.st c0).st d0
  replace j3:=(j3.st c0).st d0
  replace k3:=(k3.st c0).st d0
  replace l3:=(l3.st c0).st d0
  rintro gE hE ⟨g1,cA,y6,hB,s0,h7,o1,p1,y0,z0,b0,dA,eA,v2,w2,o4,p4,j3,k3,l3⟩
  refine AH _ y6 ?_
  refine Aa (Ax rfl (At (hc:=Blk.cell (i:=5) (b0.1) rfl) rfl ?_))
  refine Ax rfl (At (hc:=Blk.cell (i:=1) (w2.1) rfl) rfl ?_)
  obtain ⟨fA,z6,e2⟩:=bs e2
  have gA:=(Bq z6)
  refine Dn (he:=z6) rfl rfl ?_
  refine AQ 11 cA (xs:=(([fA,2]:List Int):List Int)) rfl rfl rfl ⟨(vInt gA),(vInt (iI64 2)),trivial⟩ fun iE jE kE s2 iA=>?_
  obtain ⟨jA,j5,e2⟩:=bs e2
  obtain ⟨j5,kA,lA⟩:=AI j5
  replace v2:=v2.st s2
  refine AZ rfl v2 (iA.rd) rfl rfl kA lA fun a7 b7 lE mA t2 c7=>?_
  rw [← j5] at c7 ⊢
  refine Ax rfl ?_
  replace b0:=(b0.st s2).st t2
  refine Az b0 rfl rfl rfl (AJ) (allOne) fun nA u2 b0=>?_
  replace b0:Lc 5 nA mA x1 97 [(.slice g1.1.1 e3.1.length g1.1.2),(.slice g1.2.1 e3.2.length g1.2.2),(.slice none 0 0),(.slice none 0 0),(.int .i64 0),(.slice a7 jA.length b7)]:=b0
  refine o_z ?_
  obtain rfl:=sm e2
  exact show Exists _ from ⟨_,((g1.1.1,g1.1.2),(g1.2.1,g1.2.2),(a7,b7)),rfl,⟨rfl,rfl,rfl,rfl,rfl,rfl,trivial⟩,_,((hB.st s2).st t2).st u2,((s0.st s2).st t2).st u2,((h7.st s2).st t2).st u2,((o1.st s2).st t2).st u2,((p1.st s2).st t2).st u2,((y0.st s2).st t2).st u2,((z0.st s2).st t2).st u2,b0,((dA.st s2).st t2).st u2,((eA.st s2).st t2).st u2,c7.st u2⟩
 replace hB:=(((((hB.st n4).st h4).st e4).st d4).st r3).st s3
 replace h7:=((h7.st d4).st r3).st s3
 replace o1:=(((((o1.st n4).st h4).st e4).st d4).st r3).st s3
 replace p1:=(((((p1.st n4).st h4).st e4).st d4).st r3).st s3
 replace z0:=(((z0.st e4).st d4).st r3).st s3
 rintro mE nE ⟨f0,a0,rfl,d7,oA,hB,s0,h7,o1,p1,y0,z0,b0,t1,u1,v2⟩
 replace hm:=AR hm
 refine AH _ d7 ?_
 refine Ab (Ab (Aa (Ax rfl (At (hc:=Blk.cell (i:=0) (s0.1) rfl) rfl ?_))))
 refine AS rfl ?_
 have k5:x0.vars.length≤9223372036854775807:=Nat.le_trans h7.len.2.1 h7.len.2.2
 have oE:inI64 (x0.vars.length:Int):=rngNat k5
 refine Ak rfl (o_z ?_)
 obtain ⟨l5,e7,hm⟩:=bs hm
 refine Ay (aft l5 (fun (g0:(List Int)×(List Int)×(List Int)) (e0:(Option Addr×Nat)×(Option Addr×Nat)×(Option Addr×Nat))=>[(1,(.pointer (some ⟨p3,0,none⟩))),(2,(.pointer (some ⟨q3,0,none⟩))),(3,(.pointer (some ⟨x1,0,none⟩)))]) (fun g0 e0 w'=>∃ O':Lab,Bs w A w' O'∧Lc 2 w' O' p3 26 [(.slice A8 x0.vars.length c9),(.slice f3 x0.init.length g3),(.slice h3 x0.goal.length i3),(.slice c3 x0.jobs.length d3)]∧Vb w' (Fr 0 w' O') (.slice A8 x0.vars.length c9) x0.vars∧Vb w' (Fr 0 w' O') (.slice f3 x0.init.length g3) x0.init∧Vb w' (Fr 0 w' O') (.slice h3 x0.goal.length i3) x0.goal∧Vb w' (Fr 0 w' O') (.slice c3 x0.jobs.length d3) x0.jobs∧Lc 3 w' O' q3 97 [(.slice none 0 0),(.slice none 0 0),(.slice none 0 0),(.slice none 0 0),(.int .i64 0),(.slice none 0 0)]∧Lc 5 w' O' x1 97 [(.slice a0.1.1 f0.1.length a0.1.2),(.slice a0.2.1.1 f0.2.1.length a0.2.1.2),(.slice e0.1.1 g0.1.length e0.1.2),(.slice e0.2.1.1 g0.2.1.length e0.2.1.2),(.int .i64 0),(.slice e0.2.2.1 g0.2.2.length e0.2.2.2)]∧Rw 8 w' O' 3 (.slice a0.1.1 f0.1.length a0.1.2) f0.1∧Rw 10 w' O' 3 (.slice a0.2.1.1 f0.2.1.length a0.2.1.2) f0.2.1∧Rw 13 w' O' 3 (.slice e0.1.1 g0.1.length e0.1.2) g0.1∧Rw 15 w' O' 3 (.slice e0.2.1.1 g0.2.1.length e0.2.1.2) g0.2.1∧Rw 4 w' O' 3 (.slice e0.2.2.1 g0.2.2.length e0.2.2.2) g0.2.2)) ?_ ?_
 ·
  refine AK (AY (σ:=(List Int)×(List Int)×(List Int)) (X:=(Option Addr×Nat)×(Option Addr×Nat)×(Option Addr×Nat)) (x0.vars.length) e7 rfl k5 (fun (g0:(List Int)×(List Int)×(List Int)) (e0:(Option Addr×Nat)×(Option Addr×Nat)×(Option Addr×Nat))=>[(1,(.pointer (some ⟨p3,0,none⟩))),(2,(.pointer (some ⟨q3,0,none⟩))),(3,(.pointer (some ⟨x1,0,none⟩)))]) _ (fun g0 e0 w'=>∃ O':Lab,Bs w A w' O'∧Lc 2 w' O' p3 26 [(.slice A8 x0.vars.length c9),(.slice f3 x0.init.length g3),(.slice h3 x0.goal.length i3),(.slice c3 x0.jobs.length d3)]∧Vb w' (Fr 0 w' O') (.slice A8 x0.vars.length c9) x0.vars∧Vb w' (Fr 0 w' O') (.slice f3 x0.init.length g3) x0.init∧Vb w' (Fr 0 w' O') (.slice h3 x0.goal.length i3) x0.goal∧Vb w' (Fr 0 w' O') (.slice c3 x0.jobs.length d3) x0.jobs∧Lc 3 w' O' q3 97 [(.slice none 0 0),(.slice none 0 0),(.slice none 0 0),(.slice none 0 0),(.int .i64 0),(.slice none 0 0)]∧Lc 5 w' O' x1 97 [(.slice a0.1.1 f0.1.length a0.1.2),(.slice a0.2.1.1 f0.2.1.length a0.2.1.2),(.slice e0.1.1 g0.1.length e0.1.2),(.slice e0.2.1.1 g0.2.1.length e0.2.1.2),(.int .i64 0),(.slice e0.2.2.1 g0.2.2.length e0.2.2.2)]∧Rw 8 w' O' 3 (.slice a0.1.1 f0.1.length a0.1.2) f0.1∧Rw 10 w' O' 3 (.slice a0.2.1.1 f0.2.1.length a0.2.1.2) f0.2.1∧Rw 13 w' O' 3 (.slice e0.1.1 g0.1.length e0.1.2) g0.1∧Rw 15 w' O' 3 (.slice e0.2.1.1 g0.2.1.length e0.2.1.2) g0.2.1∧Rw 4 w' O' 3 (.slice e0.2.2.1 g0.2.2.length e0.2.2.2) g0.2.2) _ ((none,0),(none,0),(a0.2.2.1,a0.2.2.2)) ⟨oA,hB,s0,h7,o1,p1,y0,z0,b0,t1,u1,(Rw.nil 13 (by decide)),(Rw.nil 15 (by decide)),v2⟩ ⟨rfl,rfl,rfl,rfl,rfl,trivial⟩ (fun _ _=>⟨rfl,rfl⟩) (fun _ _=>⟨rfl,rfl,rfl,trivial⟩) (fun _ _ _ ⟨O',hB,s0,h7,o1,p1,y0,z0,b0,t1,u1,n0,o0,y1⟩=>⟨O',hB,s0,h7,o1,p1,y0,z0,b0,t1,u1,n0,o0,y1⟩) ⟨rfl,rfl,rfl⟩ ⟨rfl,rfl⟩ ?_)
  rintro f7 pE g0 e0 pA uC g7 ⟨i7,hB,s0,h7,o1,p1,y0,z0,b0,t1,u1,n0,o0,y1⟩ z1 m8 n8
  have rk271:inI64 (f7:Int):=rngK g7 k5
  refine Ab (Aa (Ak rfl (Am rfl (o_z ?_))))
  refine Ab (Aa (Am rfl (Am rfl (o_z ?_))))
  refine Ab ?_
  obtain ⟨e1,j0,z1⟩:=bs z1
  refine Ay (fun l' w'=>∃ (p0:(Option Addr×Nat)) (O':Lab),subs l' [(1,(.pointer (some ⟨p3,0,none⟩))),(2,(.pointer (some ⟨q3,0,none⟩))),(3,(.pointer (some ⟨x1,0,none⟩))),(7,(.int .i64 e1.1)),(8,(.int .i64 e1.2.1)),(49,(.int .i64 (x0.vars.length:Int))),(50,(.int .i64 (f7:Int)))]∧Bs w A w' O'∧Lc 2 w' O' p3 26 [(.slice A8 x0.vars.length c9),(.slice f3 x0.init.length g3),(.slice h3 x0.goal.length i3),(.slice c3 x0.jobs.length d3)]∧Vb w' (Fr 0 w' O') (.slice A8 x0.vars.length c9) x0.vars∧Vb w' (Fr 0 w' O') (.slice f3 x0.init.length g3) x0.init∧Vb w' (Fr 0 w' O') (.slice h3 x0.goal.length i3) x0.goal∧Vb w' (Fr 0 w' O') (.slice c3 x0.jobs.length d3) x0.jobs∧Lc 3 w' O' q3 97 [(.slice none 0 0),(.slice none 0 0),(.slice none 0 0),(.slice none 0 0),(.int .i64 0),(.slice none 0 0)]∧Lc 5 w' O' x1 97 [(.slice a0.1.1 f0.1.length a0.1.2),(.slice a0.2.1.1 f0.2.1.length a0.2.1.2),(.slice e0.1.1 g0.1.length e0.1.2),(.slice e0.2.1.1 g0.2.1.length e0.2.1.2),(.int .i64 0),(.slice p0.1 e1.2.2.length p0.2)]∧Rw 8 w' O' 3 (.slice a0.1.1 f0.1.length a0.1.2) f0.1∧Rw 10 w' O' 3 (.slice a0.2.1.1 f0.2.1.length a0.2.1.2) f0.2.1∧Rw 13 w' O' 3 (.slice e0.1.1 g0.1.length e0.1.2) g0.1∧Rw 15 w' O' 3 (.slice e0.2.1.1 g0.2.1.length e0.2.1.2) g0.2.1∧Rw 4 w' O' 3 (.slice p0.1 e1.2.2.length p0.2) e1.2.2∧inI64 e1.1∧inI64 e1.2.1) ?_ ?_
  ·
   refine Ab (Aa (Bd (hl:=rfl) (hc:=(s0.1).cellsAt) rfl ?_))
   refine Ak rfl ?_
   obtain ⟨qA,rA,j0⟩:=bs j0
   refine AM (O:=i7) (IA (fun _ h=>h) (Vb.mono (F:=Fr 0 pA i7) (Vb.ofAgg (cs:=[(.slice A8 x0.vars.length c9),(.slice f3 x0.init.length g3),(.slice h3 x0.goal.length i3),(.slice c3 x0.jobs.length d3)]) (x:=x0) rfl ⟨_,_,_,_,rfl,h7,o1,p1,y0⟩) Fr.lt) rk271 rA) rfl fun qE rE sE i0 sA=>?_
   obtain rfl:=sA.bool
   cases qA
   case false =>
    replace j0:=iF j0
    refine o_z ?_
    refine Ae rfl (AO ?_)
    obtain rfl:=sm j0
    exact ⟨(e0.2.2.1,e0.2.2.2),_,⟨rfl,rfl,rfl,rfl,rfl,rfl,rfl,trivial⟩,hB.st i0,s0.st i0,h7.st i0,o1.st i0,p1.st i0,y0.st i0,z0.st i0,b0.st i0,t1.st i0,u1.st i0,n0.st i0,o0.st i0,y1.st i0,(iI64 (-1)),(iI64 (-1))⟩
   replace j0:=iT j0
   refine o_z ?_
   refine Ah rfl (Ab (Aa (Ax rfl ?_)))
   replace b0:=b0.st i0
   refine At (hc:=Blk.cell (i:=5) (b0.1) rfl) rfl ?_
   refine AS rfl ?_
   replace y1:=y1.st i0
   have tA:g0.2.2.length≤9223372036854775807:=Nat.le_trans y1.len.2.1 y1.len.2.2
   have j7:inI64 (g0.2.2.length:Int):=rngNat tA
   refine Am rfl (o_z ?_)
   refine Ab (Aa (Ax rfl (At (hc:=Blk.cell (i:=5) (b0.1) rfl) rfl ?_)))
   obtain ⟨m5,n5,j0⟩:=bs j0
   obtain ⟨n5,uA,vA⟩:=AI n5
   refine BC rfl (a:=2) y1 (vInt (iI64 2)) (fun _=>rfl) rfl uA vA ⟨rfl,rfl⟩ fun tE k7 l7 uE o5 f1 m3=>?_
   rw [← n5] at m3 ⊢
   refine Ax rfl ?_
   replace b0:=b0.st f1
   refine Az b0 rfl rfl rfl (AJ) (allOne) fun m7 w0 b0=>?_
   replace b0:Lc 5 m7 o5 x1 97 [(.slice a0.1.1 f0.1.length a0.1.2),(.slice a0.2.1.1 f0.2.1.length a0.2.1.2),(.slice e0.1.1 g0.1.length e0.1.2),(.slice e0.2.1.1 g0.2.1.length e0.2.1.2),(.int .i64 0),(.slice k7 m5.length l7)]:=b0
   refine o_z ?_
   refine Ab (Aa ?_)
   replace s0:=((s0.st i0).st f1).st w0
   refine Bd (hl:=rfl) (hc:=(s0.1).cellsAt) rfl ?_
   refine Ak rfl ?_
   obtain ⟨wA,xA,j0⟩:=bs j0
   replace h7:=((h7.st i0).st f1).st w0
   replace o1:=((o1.st i0).st f1).st w0
   replace p1:=((p1.st i0).st f1).st w0
   replace y0:=((y0.st i0).st f1).st w0
   refine AM (O:=o5) (IA (fun _ h=>h) (Vb.mono (F:=Fr 0 m7 o5) (Vb.ofAgg (cs:=[(.slice A8 x0.vars.length c9),(.slice f3 x0.init.length g3),(.slice h3 x0.goal.length i3),(.slice c3 x0.jobs.length d3)]) (x:=x0) rfl ⟨_,_,_,_,rfl,h7,o1,p1,y0⟩) Fr.lt) rk271 xA) rfl fun vE wE xE l0 yA=>?_
   obtain rfl:=yA.bool
   cases wA
   case false =>
    replace j0:=iF j0
    refine o_z ?_
    refine Ae rfl (AO ?_)
    obtain rfl:=sm j0
    exact ⟨(k7,l7),_,⟨rfl,rfl,rfl,rfl,rfl,rfl,rfl,trivial⟩,(((hB.st i0).st f1).st w0).st l0,s0.st l0,h7.st l0,o1.st l0,p1.st l0,y0.st l0,(((z0.st i0).st f1).st w0).st l0,b0.st l0,(((t1.st i0).st f1).st w0).st l0,(((u1.st i0).st f1).st w0).st l0,(((n0.st i0).st f1).st w0).st l0,(((o0.st i0).st f1).st w0).st l0,(m3.st w0).st l0,j7,(iI64 (-1))⟩
   replace j0:=iT j0
   refine o_z ?_
   refine Ah rfl (Ab (Aa (Ax rfl ?_)))
   replace b0:=b0.st l0
   refine At (hc:=Blk.cell (i:=5) (b0.1) rfl) rfl ?_
   refine AS rfl ?_
   replace m3:=(m3.st w0).st l0
   have zA:m5.length≤9223372036854775807:=Nat.le_trans m3.len.2.1 m3.len.2.2
   have aB:inI64 (m5.length:Int):=rngNat zA
   refine Am rfl (o_z ?_)
   refine Aa (Ax rfl (At (hc:=Blk.cell (i:=5) (b0.1) rfl) rfl ?_))
   obtain ⟨bB,p5,j0⟩:=bs j0
   obtain ⟨p5,cB,dB⟩:=AI p5
   refine BC rfl (a:=2) m3 (vInt (iI64 2)) (fun _=>rfl) rfl cB dB ⟨rfl,rfl⟩ fun yE n7 o7 zE eB m2 p7=>?_
   rw [← p5] at p7 ⊢
   refine Ax rfl ?_
   replace b0:=b0.st m2
   refine Az b0 rfl rfl rfl (AJ) (allOne) fun fB n2 b0=>?_
   replace b0:Lc 5 fB eB x1 97 [(.slice a0.1.1 f0.1.length a0.1.2),(.slice a0.2.1.1 f0.2.1.length a0.2.1.2),(.slice e0.1.1 g0.1.length e0.1.2),(.slice e0.2.1.1 g0.2.1.length e0.2.1.2),(.int .i64 0),(.slice n7 bB.length o7)]:=b0
   refine o_z ?_
   obtain rfl:=sm j0
   exact ⟨(n7,o7),_,⟨rfl,rfl,rfl,rfl,rfl,rfl,rfl,trivial⟩,(((((hB.st i0).st f1).st w0).st l0).st m2).st n2,((s0.st l0).st m2).st n2,((h7.st l0).st m2).st n2,((o1.st l0).st m2).st n2,((p1.st l0).st m2).st n2,((y0.st l0).st m2).st n2,(((((z0.st i0).st f1).st w0).st l0).st m2).st n2,b0,(((((t1.st i0).st f1).st w0).st l0).st m2).st n2,(((((u1.st i0).st f1).st w0).st l0).st m2).st n2,(((((n0.st i0).st f1).st w0).st l0).st m2).st n2,(((((o0.st i0).st f1).st w0).st l0).st m2).st n2,p7.st n2,j7,aB⟩
  rintro aF bF ⟨p0,q5,q7,hB,s0,h7,o1,p1,y0,z0,b0,t1,u1,n0,o0,r5,r7,s5⟩
  refine AH _ q7 ?_
  obtain ⟨u3,z2,z1⟩:=bs z1
  obtain ⟨t5,a3,z1⟩:=bs z1
  refine Br [(4,[13]),(9,[15]),(11,[5])] q5 ?_
  refine AP (fuel:=11) [] [(0,true),(1,true),(2,true)] rfl ?_
  refine AT rfl rfl (AV (hc:=bCell b0 2 rfl) rfl rfl ?_)
  refine AX rfl rfl (AC ?_)
  refine AP (fuel:=8) [13] [(5,true),(6,true),(7,true)] rfl ?_
  refine AT rfl rfl (AV (hc:=bCell b0 3 rfl) rfl rfl ?_)
  refine AX rfl rfl (AC ?_)
  refine EJ (i:=3) (j:=8) rfl rfl ?_ ?_
  ·
   refine AQ 12 q5 (xs:=(([e1.1]:List Int):List Int)) rfl rfl rfl ⟨(vInt r7),trivial⟩ fun cF dF gB k0 k4=>?_
   have hZ:=lZ k0
   refine AN [(4,[13]),(9,[15]),(11,[5])] hZ ?_
   refine EJ (i:=4) (j:=8) rfl rfl ?_ ?_
   ·
    obtain ⟨z2,iB,jB⟩:=AI z2
    replace n0:=n0.st k0
    refine AZ rfl n0 (k4.rd) rfl rfl iB jB fun u5 w5 eF kB f2 s7=>?_
    rw [← z2] at s7 ⊢
    have hZ:=f2.lst [13] (fun _ h=>by cases h;decide)
    refine AN [(9,[15]),(11,[5])] hZ ?_
    refine AP (fuel:=5) [15] [(10,true)] rfl ?_
    refine AT rfl rfl (AC ?_)
    refine AD (i:=8) rfl ?_
    refine AQ 14 kB (xs:=(([e1.2.1]:List Int):List Int)) rfl rfl rfl ⟨(vInt s5),trivial⟩ fun fF gF hF a2 lB=>?_
    have hZ:=lZ a2
    refine AN [(9,[15]),(11,[5])] hZ ?_
    refine AD (i:=9) rfl ?_
    obtain ⟨a3,mB,nB⟩:=AI a3
    replace o0:=((o0.st k0).st f2).st a2
    refine AZ rfl o0 (lB.rd) rfl rfl mB nB fun t7 u7 jF v7 g2 w7=>?_
    rw [← a3] at w7 ⊢
    have hZ:=g2.lst [15] (fun _ h=>by cases h;decide)
    refine AN [(11,[5])] hZ ?_
    refine AD (i:=11) rfl ?_
    replace b0:=(((b0.st k0).st f2).st a2).st g2
    refine Az b0 rfl rfl rfl (AJ) (allOne) fun oB h2 b0=>?_
    replace b0:Lc 5 oB v7 x1 97 [(.slice a0.1.1 f0.1.length a0.1.2),(.slice a0.2.1.1 f0.2.1.length a0.2.1.2),(.slice u5 u3.length w5),(.slice e0.2.1.1 g0.2.1.length e0.2.1.2),(.int .i64 0),(.slice p0.1 e1.2.2.length p0.2)]:=b0
    have hZ:=h2.lst [5] (fun _ h=>by cases h;decide)
    refine AN [] hZ ?_
    refine AP (fuel:=1) [] [(12,true)] rfl ?_
    refine AT rfl rfl (AC ?_)
    refine AD (i:=13) rfl ?_
    refine Az b0 rfl rfl rfl (AJ) (allOne) fun pB o2 b0=>?_
    replace b0:Lc 5 pB v7 x1 97 [(.slice a0.1.1 f0.1.length a0.1.2),(.slice a0.2.1.1 f0.2.1.length a0.2.1.2),(.slice u5 u3.length w5),(.slice t7 t5.length u7),(.int .i64 0),(.slice p0.1 e1.2.2.length p0.2)]:=b0
    refine BF ?_
    refine Bv ?_
    obtain rfl:=sm z1
    exact show Exists _ from ⟨_,((u5,w5),(t7,u7),(p0.1,p0.2)),rfl,⟨rfl,rfl,rfl,rfl,rfl,trivial⟩,_,(((((hB.st k0).st f2).st a2).st g2).st h2).st o2,(((((s0.st k0).st f2).st a2).st g2).st h2).st o2,(((((h7.st k0).st f2).st a2).st g2).st h2).st o2,(((((o1.st k0).st f2).st a2).st g2).st h2).st o2,(((((p1.st k0).st f2).st a2).st g2).st h2).st o2,(((((y0.st k0).st f2).st a2).st g2).st h2).st o2,(((((z0.st k0).st f2).st a2).st g2).st h2).st o2,b0,(((((t1.st k0).st f2).st a2).st g2).st h2).st o2,(((((u1.st k0).st f2).st a2).st g2).st h2).st o2,(((s7.st a2).st g2).st h2).st o2,(w7.st h2).st o2,(((((r5.st k0).st f2).st a2).st g2).st h2).st o2⟩
   refine AQ 14 gB (xs:=(([e1.2.1]:List Int):List Int)) rfl rfl rfl ⟨(vInt s5),trivial⟩ fun kF lF mF v1 x5=>?_
   have hZ:=lZ v1
   refine AN [(4,[13]),(9,[15]),(11,[5])] hZ ?_
   refine AD (i:=4) rfl ?_
   obtain ⟨z2,qB,rB⟩:=AI z2
   replace n0:=(n0.st k0).st v1
   replace k4:=k4.st v1
   refine AZ rfl n0 (k4.rd) rfl rfl qB rB fun y5 z5 nF oF b2 x7=>?_
   rw [← z2] at x7 ⊢
   have hZ:=b2.lst [13] (fun _ h=>by cases h;decide)
   refine AN [(9,[15]),(11,[5])] hZ ?_
   refine AP (fuel:=4) [15] [(10,true)] rfl ?_
   refine AT rfl rfl (AC ?_)
   refine AD (i:=9) rfl ?_
   obtain ⟨a3,sB,tB⟩:=AI a3
   replace o0:=((o0.st k0).st v1).st b2
   replace x5:=x5.st b2
   refine AZ rfl o0 (x5.rd) rfl rfl sB tB fun y7 z7 pF a8 i2 b8=>?_
   rw [← a3] at b8 ⊢
   have hZ:=i2.lst [15] (fun _ h=>by cases h;decide)
   refine AN [(11,[5])] hZ ?_
   refine AD (i:=11) rfl ?_
   replace b0:=(((b0.st k0).st v1).st b2).st i2
   refine Az b0 rfl rfl rfl (AJ) (allOne) fun uB j2 b0=>?_
   replace b0:Lc 5 uB a8 x1 97 [(.slice a0.1.1 f0.1.length a0.1.2),(.slice a0.2.1.1 f0.2.1.length a0.2.1.2),(.slice y5 u3.length z5),(.slice e0.2.1.1 g0.2.1.length e0.2.1.2),(.int .i64 0),(.slice p0.1 e1.2.2.length p0.2)]:=b0
   have hZ:=j2.lst [5] (fun _ h=>by cases h;decide)
   refine AN [] hZ ?_
   refine AP (fuel:=1) [] [(12,true)] rfl ?_
   refine AT rfl rfl (AC ?_)
   refine AD (i:=13) rfl ?_
   refine Az b0 rfl rfl rfl (AJ) (allOne) fun vB p2 b0=>?_
   replace b0:Lc 5 vB a8 x1 97 [(.slice a0.1.1 f0.1.length a0.1.2),(.slice a0.2.1.1 f0.2.1.length a0.2.1.2),(.slice y5 u3.length z5),(.slice y7 t5.length z7),(.int .i64 0),(.slice p0.1 e1.2.2.length p0.2)]:=b0
   refine BF ?_
   refine Bv ?_
   obtain rfl:=sm z1
   exact show Exists _ from ⟨_,((y5,z5),(y7,z7),(p0.1,p0.2)),rfl,⟨rfl,rfl,rfl,rfl,rfl,trivial⟩,_,(((((hB.st k0).st v1).st b2).st i2).st j2).st p2,(((((s0.st k0).st v1).st b2).st i2).st j2).st p2,(((((h7.st k0).st v1).st b2).st i2).st j2).st p2,(((((o1.st k0).st v1).st b2).st i2).st j2).st p2,(((((p1.st k0).st v1).st b2).st i2).st j2).st p2,(((((y0.st k0).st v1).st b2).st i2).st j2).st p2,(((((z0.st k0).st v1).st b2).st i2).st j2).st p2,b0,(((((t1.st k0).st v1).st b2).st i2).st j2).st p2,(((((u1.st k0).st v1).st b2).st i2).st j2).st p2,((x7.st i2).st j2).st p2,(b8.st j2).st p2,(((((r5.st k0).st v1).st b2).st i2).st j2).st p2⟩
  refine AQ 14 q5 (xs:=(([e1.2.1]:List Int):List Int)) rfl rfl rfl ⟨(vInt s5),trivial⟩ fun qF rF wB c2 a6=>?_
  have hZ:=lZ c2
  refine AN [(4,[13]),(9,[15]),(11,[5])] hZ ?_
  refine AD (i:=3) rfl ?_
  refine AQ 12 wB (xs:=(([e1.1]:List Int):List Int)) rfl rfl rfl ⟨(vInt r7),trivial⟩ fun sF tF uF w1 xB=>?_
  have hZ:=lZ w1
  refine AN [(4,[13]),(9,[15]),(11,[5])] hZ ?_
  refine AD (i:=4) rfl ?_
  obtain ⟨z2,yB,zB⟩:=AI z2
  replace n0:=(n0.st c2).st w1
  refine AZ rfl n0 (xB.rd) rfl rfl yB zB fun b6 c6 vF wF d2 c8=>?_
  rw [← z2] at c8 ⊢
  have hZ:=d2.lst [13] (fun _ h=>by cases h;decide)
  refine AN [(9,[15]),(11,[5])] hZ ?_
  refine AP (fuel:=4) [15] [(10,true)] rfl ?_
  refine AT rfl rfl (AC ?_)
  refine AD (i:=9) rfl ?_
  obtain ⟨a3,aC,bC⟩:=AI a3
  replace o0:=((o0.st c2).st w1).st d2
  replace a6:=(a6.st w1).st d2
  refine AZ rfl o0 (a6.rd) rfl rfl aC bC fun d8 e8 xF f8 k2 g8=>?_
  rw [← a3] at g8 ⊢
  have hZ:=k2.lst [15] (fun _ h=>by cases h;decide)
  refine AN [(11,[5])] hZ ?_
  refine AD (i:=11) rfl ?_
  replace b0:=(((b0.st c2).st w1).st d2).st k2
  refine Az b0 rfl rfl rfl (AJ) (allOne) fun cC l2 b0=>?_
  replace b0:Lc 5 cC f8 x1 97 [(.slice a0.1.1 f0.1.length a0.1.2),(.slice a0.2.1.1 f0.2.1.length a0.2.1.2),(.slice b6 u3.length c6),(.slice e0.2.1.1 g0.2.1.length e0.2.1.2),(.int .i64 0),(.slice p0.1 e1.2.2.length p0.2)]:=b0
  have hZ:=l2.lst [5] (fun _ h=>by cases h;decide)
  refine AN [] hZ ?_
  refine AP (fuel:=1) [] [(12,true)] rfl ?_
  refine AT rfl rfl (AC ?_)
  refine AD (i:=13) rfl ?_
  refine Az b0 rfl rfl rfl (AJ) (allOne) fun dC q2 b0=>?_
  replace b0:Lc 5 dC f8 x1 97 [(.slice a0.1.1 f0.1.length a0.1.2),(.slice a0.2.1.1 f0.2.1.length a0.2.1.2),(.slice b6 u3.length c6),(.slice d8 t5.length e8),(.int .i64 0),(.slice p0.1 e1.2.2.length p0.2)]:=b0
  refine BF ?_
  refine Bv ?_
  obtain rfl:=sm z1
  exact show Exists _ from ⟨_,((b6,c6),(d8,e8),(p0.1,p0.2)),rfl,⟨rfl,rfl,rfl,rfl,rfl,trivial⟩,_,(((((hB.st c2).st w1).st d2).st k2).st l2).st q2,(((((s0.st c2).st w1).st d2).st k2).st l2).st q2,(((((h7.st c2).st w1).st d2).st k2).st l2).st q2,(((((o1.st c2).st w1).st d2).st k2).st l2).st q2,(((((p1.st c2).st w1).st d2).st k2).st l2).st q2,(((((y0.st c2).st w1).st d2).st k2).st l2).st q2,(((((z0.st c2).st w1).st d2).st k2).st l2).st q2,b0,(((((t1.st c2).st w1).st d2).st k2).st l2).st q2,(((((u1.st c2).st w1).st d2).st k2).st l2).st q2,((c8.st k2).st l2).st q2,(g8.st l2).st q2,(((((r5.st c2).st w1).st d2).st k2).st l2).st q2⟩
 rintro yF zF ⟨r0,q0,rfl,h8,eC,hB,s0,h7,o1,p1,y0,z0,b0,t1,u1,n0,o0,y1⟩
 replace hm:=AR hm
 refine AH _ h8 ?_
 refine Ab (Aa (Ax rfl (At (hc:=Blk.cell (i:=5) (b0.1) rfl) rfl ?_)))
 refine AS rfl ?_
 have fC:r0.2.2.length≤9223372036854775807:=Nat.le_trans y1.len.2.1 y1.len.2.2
 have gC:inI64 (r0.2.2.length:Int):=rngNat fC
 refine Ax rfl (Az b0 rfl rfl rfl (AJ) (allOne) fun hC b3 b0=>?_)
 replace b0:Lc 5 hC eC x1 97 [(.slice a0.1.1 f0.1.length a0.1.2),(.slice a0.2.1.1 f0.2.1.length a0.2.1.2),(.slice q0.1.1 r0.1.length q0.1.2),(.slice q0.2.1.1 r0.2.1.length q0.2.1.2),(.int .i64 (r0.2.2.length:Int)),(.slice q0.2.2.1 r0.2.2.length q0.2.2.2)]:=b0
 refine o_z ?_
 refine Ab (Aa (Ax rfl (At (hc:=Blk.cell (i:=5) (b0.1) rfl) rfl ?_)))
 refine Ax rfl ?_
 replace s0:=s0.st b3
 refine At (hc:=Blk.cell (i:=3) (s0.1) rfl) rfl ?_
 refine AS rfl ?_
 replace y0:=y0.st b3
 have iC:x0.jobs.length≤9223372036854775807:=Nat.le_trans y0.len.2.1 y0.len.2.2
 have aG:inI64 (x0.jobs.length:Int):=rngNat iC
 obtain ⟨jC,i8,hm⟩:=bs hm
 have kC:=(Bq i8)
 refine Dn (he:=i8) rfl rfl ?_
 obtain ⟨g4,d6,hm⟩:=bs hm
 obtain ⟨d6,lC,mC⟩:=AI d6
 replace y1:=y1.st b3
 refine BC rfl (a:=jC) y1 (vInt kC) (fun _=>rfl) rfl lC mC ⟨rfl,rfl⟩ fun bG l4 m4 cG j8 n3 w3=>?_
 rw [← d6] at w3 ⊢
 refine Ax rfl ?_
 replace b0:=b0.st n3
 refine Az b0 rfl rfl rfl (AJ) (allOne) fun nC o3 b0=>?_
 replace b0:Lc 5 nC j8 x1 97 [(.slice a0.1.1 f0.1.length a0.1.2),(.slice a0.2.1.1 f0.2.1.length a0.2.1.2),(.slice q0.1.1 r0.1.length q0.1.2),(.slice q0.2.1.1 r0.2.1.length q0.2.1.2),(.int .i64 (r0.2.2.length:Int)),(.slice l4 g4.length m4)]:=b0
 refine o_z ?_
 refine Ab (Aa (Bd (hl:=rfl) (hc:=(b0.1).cellsAt) rfl ?_))
 replace z0:=((z0.st b3).st n3).st o3
 refine Az z0 rfl rfl rfl (AJ) (allOne) fun k8 x3 z0=>?_
 replace z0:Lc 3 k8 j8 q3 97 [(.slice a0.1.1 f0.1.length a0.1.2),(.slice a0.2.1.1 f0.2.1.length a0.2.1.2),(.slice q0.1.1 r0.1.length q0.1.2),(.slice q0.2.1.1 r0.2.1.length q0.2.1.2),(.int .i64 (r0.2.2.length:Int)),(.slice l4 g4.length m4)]:=z0
 refine o_z ?_
 refine AF ?_
 replace t1:=(((t1.st b3).st n3).st o3).st x3
 obtain ⟨dG,y3,t1⟩:=t1.freeze
 replace u1:=((((u1.st b3).st n3).st o3).st x3).st y3
 obtain ⟨eG,z3,u1⟩:=u1.freeze
 replace n0:=(((((n0.st b3).st n3).st o3).st x3).st y3).st z3
 obtain ⟨fG,a4,n0⟩:=n0.freeze
 replace o0:=((((((o0.st b3).st n3).st o3).st x3).st y3).st z3).st a4
 obtain ⟨gG,b4,o0⟩:=o0.freeze
 replace w3:=(((((w3.st o3).st x3).st y3).st z3).st a4).st b4
 obtain ⟨oC,c4,w3⟩:=w3.freeze
 obtain rfl:=sm hm
 replace hB:=((((((((hB.st b3).st n3).st o3).st x3).st y3).st z3).st a4).st b4).st c4
 replace z0:=((((z0.st y3).st z3).st a4).st b4).st c4
 replace t1:=(((t1.st z3).st a4).st b4).st c4
 replace u1:=((u1.st a4).st b4).st c4
 replace n0:=(n0.st b4).st c4
 replace o0:=o0.st c4
 exact ret1v rfl (Er (cs:=[(.slice a0.1.1 f0.1.length a0.1.2),(.slice a0.2.1.1 f0.2.1.length a0.2.1.2),(.slice q0.1.1 r0.1.length q0.1.2),(.slice q0.2.1.1 r0.2.1.length q0.2.1.2),(.int .i64 (r0.2.2.length:Int)),(.slice l4 g4.length m4)]) rfl rfl z0.1.cellsAt) ⟨hB.ext,(Vb.mono (F:=Fr 0 k8 oC) (Vb.ofAgg (cs:=[(.slice a0.1.1 f0.1.length a0.1.2),(.slice a0.2.1.1 f0.2.1.length a0.2.1.2),(.slice q0.1.1 r0.1.length q0.1.2),(.slice q0.2.1.1 r0.2.1.length q0.2.1.2),(.int .i64 (r0.2.2.length:Int)),(.slice l4 g4.length m4)]) (x:=(⟨f0.1,f0.2.1,r0.1,r0.2.1,(r0.2.2.length:Int),g4⟩:Plc)) rfl ⟨_,_,_,_,_,rfl,t1,u1,n0,o0,w3,gC⟩) hB.out)⟩
noncomputable def Cn (x0:List (List Fct)):Option (List Fct) :=
  bnd (rng (ρ:=(List Fct)) (fun (k10:Nat) (a11:List Fct) (s8:(List Fct))=>bnd (appI 16 s8 a11) fun u36=>some (.next u36)) x0 0 ([]:List Fct)) fun res6=>fin res6 fun (s51:(List Fct))=>some s51
theorem Fb {w:World} {A:Nat→Prop} (hA:∀ k,A k→k < w.heap.size) {vx0:Value} {x0:List (List Fct)} (a0:Vb w A vx0 x0) {r:(List Fct)} (hm:Cn x0=some r) :
    Fn prog 50 [vx0] w fun v w'=>Ext w w'∧RowR w w' (upA A w w') 78 v r:=by
 obtain ⟨O,hB,p0⟩:=enter hA
 replace a0:=a0.mono p0
 obtain ⟨A2,c3,rfl⟩:=a0.form
 refine AL func50 rfl ntmps50 ?_
 unfold Cn at hm
 refine Ab (Aa (Am rfl (o_z ?_)))
 refine Ab (Aa (Am rfl (o_z ?_)))
 refine Ab (Ab (Aa (Ak rfl (AS rfl ?_))))
 have l5:x0.length≤9223372036854775807:=Nat.le_trans a0.len.2.1 a0.len.2.2
 have r4:inI64 (x0.length:Int):=rngNat l5
 refine Ak rfl (o_z ?_)
 obtain ⟨f0,q0,hm⟩:=bs hm
 refine Ay (aft f0 (fun (s8:(List Fct)) (x9:(Option Addr×Nat))=>[(3,(.slice x9.1 s8.length x9.2))]) (fun s8 x9 w'=>∃ O':Lab,Bs w A w' O'∧Rw 2 w' O' 78 (.slice x9.1 s8.length x9.2) s8)) ?_ ?_
 ·
  refine AK (AY (σ:=(List Fct)) (X:=(Option Addr×Nat)) (x0.length) q0 rfl l5 (fun (s8:(List Fct)) (x9:(Option Addr×Nat))=>[(3,(.slice x9.1 s8.length x9.2)),(6,(.slice A2 x0.length c3))]) _ (fun s8 x9 w'=>∃ O':Lab,Bs w A w' O'∧Rw 2 w' O' 78 (.slice x9.1 s8.length x9.2) s8∧Vb w' (Fr 0 w' O') (.slice A2 x0.length c3) x0) _ (none,0) ⟨O,hB,(Rw.nil 2 (by decide)),a0⟩ ⟨rfl,rfl,rfl,rfl,trivial⟩ (fun _ _=>⟨rfl,rfl⟩) (fun _ _=>⟨rfl,trivial⟩) (fun _ _ _ ⟨O',hB,c0,a0⟩=>⟨O',hB,c0⟩) ⟨rfl,rfl,rfl⟩ ⟨rfl,rfl⟩ ?_)
  rintro r0 z0 s8 x9 a1 s0 d0 ⟨b1,hB,c0,a0⟩ b0 g0 h0
  have rk10:inI64 (r0:Int):=rngK d0 l5
  refine Ab (Aa ?_)
  obtain ⟨c1,d1,t0,i0,j0,k0,e1,rfl,e0⟩:=a0.elem' d0
  replace e0:=Vb.of_slice e0
  obtain ⟨f1,g1,rfl⟩:=e0.form
  refine Bi (hA:=i0) (hj:=rfl) (hlt:=j0) rfl rfl ?_
  refine At (hc:=cat0 k0) rfl ?_
  refine Am rfl (o_z ?_)
  refine Aa (Ak rfl (Ak rfl ?_))
  obtain ⟨h1,l0,b0⟩:=bs b0
  obtain ⟨l0,u0,v0⟩:=AI l0
  refine AZ rfl c0 (e0.rd) rfl rfl u0 v0 fun w0 y0 i1 j1 n0 o0=>?_
  rw [← l0] at o0 ⊢
  refine Am rfl (o_z ?_)
  obtain rfl:=sm b0
  exact show Exists _ from ⟨_,(w0,y0),rfl,⟨rfl,rfl,rfl,rfl,trivial⟩,_,hB.st n0,o0,a0.st n0⟩
 rintro k1 l1 ⟨m1,n1,rfl,m0,o1,hB,c0⟩
 replace hm:=AR hm
 refine AH _ m0 ?_
 refine Ab (Aa (Ak rfl (Am rfl (o_z ?_))))
 refine AF ?_
 obtain rfl:=sm hm
 exact ret1v rfl (AA rfl) ⟨hB.ext,(c0.out hB (by decide))⟩
noncomputable def EC (x0:Plc) (x1:List Fct) (x2:List Fct):Option ((List Fct)×(List Fct)) :=
  bnd (rng (ρ:=(List Fct)×(List Fct)) (fun (k41:Nat) (a42:Int) (s39:(List Fct)×(List Fct))=>bnd (EQ x2 (k41:Int)) fun q60=>if q60=true then bnd (appI 16 s39.1 [(⟨a42,0⟩:Fct)]) fun u142=>bnd (bnd (x0.read[k41]?) fun a160=>if 0≤a160 then (bnd (x0.read[k41]?) fun a171=>bnd (appI 16 u142 [(⟨a171,0⟩:Fct)]) fun u181=>some u181) else (some u142):Option (List Fct)) fun y154=>bnd (appI 16 s39.2 [(⟨a42,1⟩:Fct)]) fun u205=>some (.next (y154,u205)) else bnd (bnd (EQ x1 (k41:Int)) fun q71=>if q71=true then if 0≤a42 then (some true) else (some false) else some false:Option Bool) fun y67=>if y67=true then (bnd (appI 16 s39.1 [(⟨a42,0⟩:Fct)]) fun u100=>bnd (x0.read[k41]?) fun a112=>bnd (appI 16 s39.2 [(⟨a112,1⟩:Fct)]) fun u122=>some (.next (u100,u122))) else (some (.next (s39.1,s39.2)))) x0.write 0 (([]:List Fct),([]:List Fct))) fun res37=>fin res37 fun (s221:(List Fct)×(List Fct))=>some (s221.1,s221.2)
theorem Jz {w:World} {A:Nat→Prop} (hA:∀ k,A k→k < w.heap.size) {vx0:Value} {x0:Plc} (d3:Vb w A vx0 x0) {vx1:Value} {x1:List Fct} (k0:Vb w A vx1 x1) {vx2:Value} {x2:List Fct} (n0:Vb w A vx2 x2) {r:(List Fct)×(List Fct)} (hm:EC x0 x1 x2=some r) :
    Fn prog 51 [vx0,vx1,vx2] w fun v w'=>Ext w w'∧T2 w' (upA A w w') v r:=by
 obtain ⟨O,hB,e3⟩:=enter hA
 replace d3:=d3.mono e3
 obtain ⟨f7,rfl,v5,v6,v7,v8,v9,rfl,s0,t0,h0,i0,u0,g7⟩:=d3
 obtain ⟨b1,c1,rfl⟩:=s0.form
 obtain ⟨d1,e1,rfl⟩:=t0.form
 obtain ⟨f1,g1,rfl⟩:=h0.form
 obtain ⟨h1,i1,rfl⟩:=i0.form
 obtain ⟨j1,k1,rfl⟩:=u0.form
 replace k0:=k0.mono e3
 obtain ⟨w1,y1,rfl⟩:=k0.form
 replace n0:=n0.mono e3
 obtain ⟨z1,a2,rfl⟩:=n0.form
 refine AL func51 rfl ntmps51 ?_
 unfold EC at hm
 refine Ab (Aa (BL 2 O rfl fun l1 a5 u4 z0 f0=>?_))
 replace f0:Lc 2 a5 u4 l1 97 [(.slice b1 x0.state.length c1),(.slice d1 x0.flag.length e1),(.slice f1 x0.write.length g1),(.slice h1 x0.read.length i1),(.int .i64 x0.phase),(.slice j1 x0.vars.length k1)]:=f0
 refine Am rfl (Am rfl (o_z ?_))
 refine Ab (Aa (Am rfl (Am rfl (o_z ?_))))
 refine Ab (Ab (Aa (Ax rfl (At (hc:=Blk.cell (i:=2) (f0.1) rfl) rfl ?_))))
 refine AS rfl ?_
 replace h0:=h0.st z0
 have f3:x0.write.length≤9223372036854775807:=Nat.le_trans h0.len.2.1 h0.len.2.2
 have h7:inI64 (x0.write.length:Int):=rngNat f3
 refine Ak rfl (o_z ?_)
 obtain ⟨b2,g3,hm⟩:=bs hm
 refine Ay (aft b2 (fun (l0:(List Fct)×(List Fct)) (e0:(Option Addr×Nat)×(Option Addr×Nat))=>[(8,(.slice e0.1.1 l0.1.length e0.1.2)),(9,(.slice e0.2.1 l0.2.length e0.2.2))]) (fun l0 e0 w'=>∃ O':Lab,Bs w A w' O'∧Rw 3 w' O' 78 (.slice e0.1.1 l0.1.length e0.1.2) l0.1∧Rw 4 w' O' 78 (.slice e0.2.1 l0.2.length e0.2.2) l0.2)) ?_ ?_
 ·
  refine AK ?_
  replace hB:=hB.st z0
  replace k0:=k0.st z0
  replace n0:=n0.st z0
  replace s0:=s0.st z0
  replace t0:=t0.st z0
  replace i0:=i0.st z0
  replace u0:=u0.st z0
  refine AY (σ:=(List Fct)×(List Fct)) (X:=(Option Addr×Nat)×(Option Addr×Nat)) (x0.write.length) g3 rfl f3 (fun (l0:(List Fct)×(List Fct)) (e0:(Option Addr×Nat)×(Option Addr×Nat))=>[(1,(.slice w1 x1.length y1)),(2,(.slice z1 x2.length a2)),(3,(.pointer (some ⟨l1,0,none⟩))),(8,(.slice e0.1.1 l0.1.length e0.1.2)),(9,(.slice e0.2.1 l0.2.length e0.2.2))]) _ (fun l0 e0 w'=>∃ O':Lab,Bs w A w' O'∧Vb w' (Fr 0 w' O') (.slice w1 x1.length y1) x1∧Vb w' (Fr 0 w' O') (.slice z1 x2.length a2) x2∧Lc 2 w' O' l1 97 [(.slice b1 x0.state.length c1),(.slice d1 x0.flag.length e1),(.slice f1 x0.write.length g1),(.slice h1 x0.read.length i1),(.int .i64 x0.phase),(.slice j1 x0.vars.length k1)]∧Vb w' (Fr 0 w' O') (.slice b1 x0.state.length c1) x0.state∧Vb w' (Fr 0 w' O') (.slice d1 x0.flag.length e1) x0.flag∧Vb w' (Fr 0 w' O') (.slice f1 x0.write.length g1) x0.write∧Vb w' (Fr 0 w' O') (.slice h1 x0.read.length i1) x0.read∧Vb w' (Fr 0 w' O') (.slice j1 x0.vars.length k1) x0.vars∧Rw 3 w' O' 78 (.slice e0.1.1 l0.1.length e0.1.2) l0.1∧Rw 4 w' O' 78 (.slice e0.2.1 l0.2.length e0.2.2) l0.2) _ ((none,0),(none,0)) ⟨u4,hB,k0,n0,f0,s0,t0,h0,i0,u0,(Rw.nil 3 (by decide)),(Rw.nil 4 (by decide))⟩ ⟨rfl,rfl,rfl,rfl,rfl,rfl,rfl,trivial⟩ (fun _ _=>⟨rfl,rfl⟩) (fun _ _=>⟨rfl,rfl,trivial⟩) (fun _ _ _ ⟨O',hB,k0,n0,f0,s0,t0,h0,i0,u0,v0,m0⟩=>⟨O',hB,v0,m0⟩) ⟨rfl,rfl,rfl⟩ ⟨rfl,rfl⟩ ?_
  rintro c2 a1 l0 e0 i7 b5 y0 ⟨c5,hB,k0,n0,f0,s0,t0,h0,i0,u0,v0,m0⟩ c0 h3 i3
  have rk41:inI64 (c2:Int):=rngK y0 f3
  refine Ab (Aa (Ak rfl (Am rfl (o_z ?_))))
  refine AK (Ab (Aa (Ak rfl (Ak rfl ?_))))
  obtain ⟨d5,e5,c0⟩:=bs c0
  refine AM (O:=c5) (II (fun _ h=>h) (vMo n0) rk41 e5) rfl fun j7 k7 f5 a0 g5=>?_
  obtain rfl:=g5.bool
  cases d5
  case false =>
   replace c0:=iF c0
   refine Am rfl (o_z ?_)
   refine Ae rfl (Ab ?_)
   obtain ⟨h5,j0,c0⟩:=bs c0
   refine Ay (fun l' w'=>∃ (i5:Unit) (O':Lab),subs l' [(1,(.slice w1 x1.length y1)),(2,(.slice z1 x2.length a2)),(3,(.pointer (some ⟨l1,0,none⟩))),(8,(.slice e0.1.1 l0.1.length e0.1.2)),(9,(.slice e0.2.1 l0.2.length e0.2.2)),(10,(.int .i64 (c2:Int))),(13,(.int .i64 (x0.write.length:Int))),(14,(.int .i64 (c2:Int))),(54,(.bool h5))]∧Bs w A w' O'∧Vb w' (Fr 0 w' O') (.slice w1 x1.length y1) x1∧Vb w' (Fr 0 w' O') (.slice z1 x2.length a2) x2∧Lc 2 w' O' l1 97 [(.slice b1 x0.state.length c1),(.slice d1 x0.flag.length e1),(.slice f1 x0.write.length g1),(.slice h1 x0.read.length i1),(.int .i64 x0.phase),(.slice j1 x0.vars.length k1)]∧Vb w' (Fr 0 w' O') (.slice b1 x0.state.length c1) x0.state∧Vb w' (Fr 0 w' O') (.slice d1 x0.flag.length e1) x0.flag∧Vb w' (Fr 0 w' O') (.slice f1 x0.write.length g1) x0.write∧Vb w' (Fr 0 w' O') (.slice h1 x0.read.length i1) x0.read∧Vb w' (Fr 0 w' O') (.slice j1 x0.vars.length k1) x0.vars∧Rw 3 w' O' 78 (.slice e0.1.1 l0.1.length e0.1.2) l0.1∧Rw 4 w' O' 78 (.slice e0.2.1 l0.2.length e0.2.2) l0.2) ?_ ?_
   ·
    refine Aa (Ak rfl (Ak rfl ?_))
    obtain ⟨j5,k5,j0⟩:=bs j0
    replace k0:=k0.st a0
    refine AM (O:=f5) (II (fun _ h=>h) (vMo k0) rk41 k5) rfl fun l7 m7 n7 g0 l5=>?_
    obtain rfl:=l5.bool
    cases j5
    case false =>
     replace j0:=iF j0
     refine Ak rfl (Al rfl rfl (Al rfl rfl (Al rfl rfl (Al rfl rfl (Al rfl rfl (Al rfl rfl (Bc rfl rfl (Am rfl (o_z ?_)))))))))
     obtain rfl:=sm j0
     exact ⟨(),_,⟨rfl,rfl,rfl,rfl,rfl,rfl,rfl,rfl,rfl,trivial⟩,(hB.st a0).st g0,k0.st g0,(n0.st a0).st g0,(f0.st a0).st g0,(s0.st a0).st g0,(t0.st a0).st g0,(h0.st a0).st g0,(i0.st a0).st g0,(u0.st a0).st g0,(v0.st a0).st g0,(m0.st a0).st g0⟩
    replace j0:=iT j0
    refine Ak rfl (An rfl rfl (Ax rfl (An rfl rfl ?_)))
    replace f0:=(f0.st a0).st g0
    refine At (hc:=Blk.cell (i:=2) (f0.1) rfl) rfl ?_
    refine An rfl rfl (Ak rfl (An rfl rfl ?_))
    replace h0:=(h0.st a0).st g0
    obtain ⟨o7,p7,m5,j3,k3,l3,rfl,q7⟩:=h0.elem' y0
    refine Bi (hA:=j3) (hj:=rfl) (hlt:=k3) rfl rfl ?_
    refine An rfl rfl (At (hc:=cat0 l3) rfl ?_)
    refine An rfl rfl (ET rfl rfl (fun m3=>?_) fun m3=>?_)
    ·
     replace j0:=ip j0 m3
     refine Bn rfl rfl (Am rfl (o_z ?_))
     obtain rfl:=sm j0
     exact ⟨(),_,⟨rfl,rfl,rfl,rfl,rfl,rfl,rfl,rfl,rfl,trivial⟩,(hB.st a0).st g0,k0.st g0,(n0.st a0).st g0,f0,(s0.st a0).st g0,(t0.st a0).st g0,h0,(i0.st a0).st g0,(u0.st a0).st g0,(v0.st a0).st g0,(m0.st a0).st g0⟩
    replace j0:=im j0 m3
    refine Bn rfl rfl (Am rfl (o_z ?_))
    obtain rfl:=sm j0
    exact ⟨(),_,⟨rfl,rfl,rfl,rfl,rfl,rfl,rfl,rfl,rfl,trivial⟩,(hB.st a0).st g0,k0.st g0,(n0.st a0).st g0,f0,(s0.st a0).st g0,(t0.st a0).st g0,h0,(i0.st a0).st g0,(u0.st a0).st g0,(v0.st a0).st g0,(m0.st a0).st g0⟩
   replace hB:=hB.st a0
   replace k0:=k0.st a0
   replace n0:=n0.st a0
   replace s0:=s0.st a0
   replace t0:=t0.st a0
   replace h0:=h0.st a0
   replace i0:=i0.st a0
   replace u0:=u0.st a0
   replace f0:=f0.st a0
   replace v0:=v0.st a0
   replace m0:=m0.st a0
   rintro r7 s7 ⟨i5,t7,n3,hB,k0,n0,f0,s0,t0,h0,i0,u0,v0,m0⟩
   refine AH _ n3 ?_
   refine Cd rfl (fun o3=>?_) (fun o3=>?_)
   ·
    replace c0:=ip c0 o3
    refine Ab (Aa (Ak rfl (Ax rfl (At (hc:=Blk.cell (i:=2) (f0.1) rfl) rfl ?_))))
    refine Ak rfl ?_
    obtain ⟨u7,w7,n5,p3,q3,r3,rfl,o5⟩:=h0.elem' y0
    refine Bi (hA:=p3) (hj:=rfl) (hlt:=q3) rfl rfl ?_
    refine At (hc:=cat0 r3) rfl ?_
    refine Cl rfl rfl ?_
    obtain ⟨p5,m1,c0⟩:=bs c0
    obtain ⟨m1,s3,t3⟩:=AI m1
    refine BC rfl (a:=(⟨a1,0⟩:Fct)) v0 (Vb.ofAgg (cs:=[(.int .i64 a1),(.int .i64 0)]) (x:=(⟨a1,0⟩:Fct)) rfl ⟨rfl,o5,(iI64 0)⟩) (fun _=>rfl) rfl s3 t3 ⟨rfl,rfl⟩ fun q5 u3 v3 r5 s5 o0 d2=>?_
    rw [← m1] at d2 ⊢
    refine Am rfl (o_z ?_)
    refine Aa (Ak rfl (Ax rfl ?_))
    replace f0:=f0.st o0
    refine At (hc:=Blk.cell (i:=3) (f0.1) rfl) rfl ?_
    refine Ak rfl ?_
    obtain ⟨n1,w3,c0⟩:=bs c0
    replace i0:=i0.st o0
    obtain ⟨t5,u5,v4,e2,f2,g2,rfl,x3⟩:=i0.elem' w3
    refine Bi (hA:=e2) (hj:=rfl) (hlt:=f2) rfl rfl ?_
    refine At (hc:=cat0 g2) rfl ?_
    refine Cl rfl rfl ?_
    obtain ⟨w5,o1,c0⟩:=bs c0
    obtain ⟨o1,y3,z3⟩:=AI o1
    replace m0:=m0.st o0
    refine BC rfl (a:=(⟨n1,1⟩:Fct)) m0 (Vb.ofAgg (cs:=[(.int .i64 n1),(.int .i64 1)]) (x:=(⟨n1,1⟩:Fct)) rfl ⟨rfl,x3,(iI64 1)⟩) (fun _=>rfl) rfl y3 z3 ⟨rfl,rfl⟩ fun x5 a4 b4 y5 z5 p0 h2=>?_
    rw [← o1] at h2 ⊢
    refine Am rfl (o_z ?_)
    obtain rfl:=sm c0
    exact show Exists _ from ⟨_,((u3,v3),(a4,b4)),rfl,⟨rfl,rfl,rfl,rfl,rfl,rfl,rfl,trivial⟩,_,(hB.st o0).st p0,(k0.st o0).st p0,(n0.st o0).st p0,f0.st p0,(s0.st o0).st p0,(t0.st o0).st p0,(h0.st o0).st p0,i0.st p0,(u0.st o0).st p0,d2.st p0,h2⟩
   replace c0:=im' c0 o3
   refine AO ?_
   obtain rfl:=sm c0
   exact show Exists _ from ⟨_,((e0.1.1,e0.1.2),(e0.2.1,e0.2.2)),rfl,⟨rfl,rfl,rfl,rfl,rfl,rfl,rfl,trivial⟩,_,hB,k0,n0,f0,s0,t0,h0,i0,u0,v0,m0⟩
  replace c0:=iT c0
  refine Am rfl (o_z ?_)
  refine Ah rfl (Ab (Aa (Ak rfl (Ax rfl ?_))))
  replace f0:=f0.st a0
  refine At (hc:=Blk.cell (i:=2) (f0.1) rfl) rfl ?_
  refine Ak rfl ?_
  replace h0:=h0.st a0
  obtain ⟨a6,b6,w4,i2,j2,k2,rfl,c4⟩:=h0.elem' y0
  refine Bi (hA:=i2) (hj:=rfl) (hlt:=j2) rfl rfl ?_
  refine At (hc:=cat0 k2) rfl ?_
  refine Cl rfl rfl ?_
  obtain ⟨c6,p1,c0⟩:=bs c0
  obtain ⟨p1,d4,e4⟩:=AI p1
  replace v0:=v0.st a0
  refine BC rfl (a:=(⟨a1,0⟩:Fct)) v0 (Vb.ofAgg (cs:=[(.int .i64 a1),(.int .i64 0)]) (x:=(⟨a1,0⟩:Fct)) rfl ⟨rfl,c4,(iI64 0)⟩) (fun _=>rfl) rfl d4 e4 ⟨rfl,rfl⟩ fun d6 f4 g4 e6 f6 b0 q1=>?_
  rw [← p1] at q1 ⊢
  refine Am rfl (o_z ?_)
  refine Ab ?_
  obtain ⟨r1,d0,c0⟩:=bs c0
  refine Ay (fun l' w'=>∃ (w0:(Option Addr×Nat)) (O':Lab),subs l' [(1,(.slice w1 x1.length y1)),(2,(.slice z1 x2.length a2)),(3,(.pointer (some ⟨l1,0,none⟩))),(8,(.slice w0.1 r1.length w0.2)),(9,(.slice e0.2.1 l0.2.length e0.2.2)),(10,(.int .i64 (c2:Int))),(13,(.int .i64 (x0.write.length:Int))),(14,(.int .i64 (c2:Int)))]∧Bs w A w' O'∧Vb w' (Fr 0 w' O') (.slice w1 x1.length y1) x1∧Vb w' (Fr 0 w' O') (.slice z1 x2.length a2) x2∧Lc 2 w' O' l1 97 [(.slice b1 x0.state.length c1),(.slice d1 x0.flag.length e1),(.slice f1 x0.write.length g1),(.slice h1 x0.read.length i1),(.int .i64 x0.phase),(.slice j1 x0.vars.length k1)]∧Vb w' (Fr 0 w' O') (.slice b1 x0.state.length c1) x0.state∧Vb w' (Fr 0 w' O') (.slice d1 x0.flag.length e1) x0.flag∧Vb w' (Fr 0 w' O') (.slice f1 x0.write.length g1) x0.write∧Vb w' (Fr 0 w' O') (.slice h1 x0.read.length i1) x0.read∧Vb w' (Fr 0 w' O') (.slice j1 x0.vars.length k1) x0.vars∧Rw 3 w' O' 78 (.slice w0.1 r1.length w0.2) r1∧Rw 4 w' O' 78 (.slice e0.2.1 l0.2.length e0.2.2) l0.2) ?_ ?_
  ·
   refine Ab (Aa (Ax rfl ?_))
   replace f0:=f0.st b0
   refine At (hc:=Blk.cell (i:=3) (f0.1) rfl) rfl ?_
   refine Ak rfl ?_
   obtain ⟨g6,h4,d0⟩:=bs d0
   replace i0:=(i0.st a0).st b0
   obtain ⟨h6,i6,x4,l2,m2,n2,rfl,j6⟩:=i0.elem' h4
   refine Bi (hA:=l2) (hj:=rfl) (hlt:=m2) rfl rfl ?_
   refine At (hc:=cat0 n2) rfl ?_
   refine ET rfl rfl (fun s1=>?_) fun s1=>?_
   ·
    replace d0:=ip d0 s1
    refine o_z ?_
    refine Ah rfl (Aa (Ak rfl (Ax rfl (At (hc:=Blk.cell (i:=3) (f0.1) rfl) rfl ?_))))
    refine Ak rfl ?_
    obtain ⟨t1,i4,d0⟩:=bs d0
    obtain ⟨k6,l6,y4,o2,p2,q2,rfl,j4⟩:=i0.elem' i4
    refine Bi (hA:=o2) (hj:=rfl) (hlt:=p2) rfl rfl ?_
    refine At (hc:=cat0 q2) rfl ?_
    refine Cl rfl rfl ?_
    obtain ⟨m6,u1,d0⟩:=bs d0
    obtain ⟨u1,k4,l4⟩:=AI u1
    refine BC rfl (a:=(⟨t1,0⟩:Fct)) q1 (Vb.ofAgg (cs:=[(.int .i64 t1),(.int .i64 0)]) (x:=(⟨t1,0⟩:Fct)) rfl ⟨rfl,j4,(iI64 0)⟩) (fun _=>rfl) rfl k4 l4 ⟨rfl,rfl⟩ fun n6 m4 n4 o6 p6 q0 r2=>?_
    rw [← u1] at r2 ⊢
    refine Am rfl (o_z ?_)
    obtain rfl:=sm d0
    exact ⟨(m4,n4),_,⟨rfl,rfl,rfl,rfl,rfl,rfl,rfl,rfl,trivial⟩,((hB.st a0).st b0).st q0,((k0.st a0).st b0).st q0,((n0.st a0).st b0).st q0,f0.st q0,((s0.st a0).st b0).st q0,((t0.st a0).st b0).st q0,(h0.st b0).st q0,i0.st q0,((u0.st a0).st b0).st q0,r2,((m0.st a0).st b0).st q0⟩
   replace d0:=im d0 s1
   refine o_z ?_
   refine Ae rfl (AO ?_)
   obtain rfl:=sm d0
   exact ⟨(f4,g4),_,⟨rfl,rfl,rfl,rfl,rfl,rfl,rfl,rfl,trivial⟩,(hB.st a0).st b0,(k0.st a0).st b0,(n0.st a0).st b0,f0,(s0.st a0).st b0,(t0.st a0).st b0,h0.st b0,i0,(u0.st a0).st b0,q1,(m0.st a0).st b0⟩
  replace hB:=(hB.st a0).st b0
  replace k0:=(k0.st a0).st b0
  replace n0:=(n0.st a0).st b0
  replace s0:=(s0.st a0).st b0
  replace t0:=(t0.st a0).st b0
  replace h0:=h0.st b0
  replace i0:=(i0.st a0).st b0
  replace u0:=(u0.st a0).st b0
  replace f0:=f0.st b0
  replace m0:=(m0.st a0).st b0
  rintro q6 r6 ⟨w0,s6,s2,hB,k0,n0,f0,s0,t0,h0,i0,u0,o4,m0⟩
  refine AH _ s2 ?_
  refine Aa (Ak rfl (Ax rfl (At (hc:=Blk.cell (i:=2) (f0.1) rfl) rfl ?_)))
  refine Ak rfl ?_
  obtain ⟨t6,u6,z4,t2,u2,v2,rfl,p4⟩:=h0.elem' y0
  refine Bi (hA:=t2) (hj:=rfl) (hlt:=u2) rfl rfl ?_
  refine At (hc:=cat0 v2) rfl ?_
  refine Cl rfl rfl ?_
  obtain ⟨w6,v1,c0⟩:=bs c0
  obtain ⟨v1,q4,r4⟩:=AI v1
  refine BC rfl (a:=(⟨a1,1⟩:Fct)) m0 (Vb.ofAgg (cs:=[(.int .i64 a1),(.int .i64 1)]) (x:=(⟨a1,1⟩:Fct)) rfl ⟨rfl,p4,(iI64 1)⟩) (fun _=>rfl) rfl q4 r4 ⟨rfl,rfl⟩ fun x6 s4 t4 y6 z6 r0 w2=>?_
  rw [← v1] at w2 ⊢
  refine Am rfl (o_z ?_)
  obtain rfl:=sm c0
  exact show Exists _ from ⟨_,((w0.1,w0.2),(s4,t4)),rfl,⟨rfl,rfl,rfl,rfl,rfl,rfl,rfl,trivial⟩,_,hB.st r0,k0.st r0,n0.st r0,f0.st r0,s0.st r0,t0.st r0,h0.st r0,i0.st r0,u0.st r0,o4.st r0,w2⟩
 replace hB:=hB.st z0
 rintro a7 y2 ⟨b7,c7,rfl,z2,d7,hB,v0,m0⟩
 replace hm:=AR hm
 refine AH _ z2 ?_
 refine Ab (Aa (Ak rfl (Ak rfl (Am rfl (Am rfl (o_z ?_))))))
 refine AF ?_
 obtain ⟨e7,a3,v0⟩:=v0.freeze
 replace m0:=m0.st a3
 obtain ⟨b3,c3,m0⟩:=m0.freeze
 obtain rfl:=sm hm
 replace hB:=(hB.st a3).st c3
 replace v0:=v0.st c3
 exact ret2 rfl (AA rfl) (AA rfl) ⟨hB.ext,_,_,rfl,(Vb.mono (F:=Fr 0 y2 b3) v0 hB.out),(Vb.mono (F:=Fr 0 y2 b3) m0 hB.out)⟩
noncomputable def Cu (x0:List Fct) (x1:Int):Option (List Fct) :=
  bnd (natI x1) fun N18=>bnd (rngN (ρ:=(List Fct)) (fun (k9:Nat) (s7:(List Fct))=>bnd (rng (ρ:=Ctl (List Fct) (List Fct)) (fun (k30:Nat) (a31:Fct) (s28:(List Fct))=>if a31.var=(k9:Int) then (bnd (appI 16 s28 [a31]) fun u62=>some (.next u62)) else (some (.next s28))) x0 0 s7) fun res26=>fin res26 fun (s78:(List Fct))=>some (.next s78)) N18 ([]:List Fct)) fun res5=>fin res5 fun (s84:(List Fct))=>some s84
theorem En {w:World} {A:Nat→Prop} (hA:∀ k,A k→k < w.heap.size) {vx0:Value} {x0:List Fct} (a0:Vb w A vx0 x0) {x1:Int} (rx1:inI64 x1) {r:(List Fct)} (hm:Cu x0 x1=some r) :
    Fn prog 52 [vx0,(.int .i64 x1)] w fun v w'=>Ext w w'∧Vb w' (upA A w w') v r:=by
 obtain ⟨O,hB,i1⟩:=enter hA
 replace a0:=a0.mono i1
 obtain ⟨A3,c4,rfl⟩:=a0.form
 refine AL func52 rfl ntmps52 ?_
 unfold Cu at hm
 refine Ab (Aa (Am rfl (o_z ?_)))
 refine Ab (Aa (Am rfl (o_z ?_)))
 refine Ab (Ab (Aa (Ak rfl (Ak rfl (o_z ?_)))))
 obtain ⟨p0,d0,hm⟩:=bs hm
 replace d0:=Hx d0
 obtain ⟨q0,j1,hm⟩:=bs hm
 refine Ay (aft q0 (fun (s7:(List Fct)) (x8:(Option Addr×Nat))=>[(5,(.slice x8.1 s7.length x8.2))]) (fun s7 x8 w'=>∃ O':Lab,Bs w A w' O'∧Rw 3 w' O' 78 (.slice x8.1 s7.length x8.2) s7)) ?_ ?_
 ·
  refine AK (Fp (σ:=(List Fct)) (X:=(Option Addr×Nat)) p0 j1 (FH d0 rx1) (fun (s7:(List Fct)) (x8:(Option Addr×Nat))=>[(0,(.slice A3 x0.length c4)),(5,(.slice x8.1 s7.length x8.2))]) _ (fun s7 x8 w'=>∃ O':Lab,Bs w A w' O'∧Vb w' (Fr 0 w' O') (.slice A3 x0.length c4) x0∧Rw 3 w' O' 78 (.slice x8.1 s7.length x8.2) s7) _ (none,0) ⟨O,hB,a0,(Rw.nil 3 (by decide))⟩ ⟨rfl,(congrArg (fun z=>some (Value.int .i64 z)) d0),rfl,rfl,trivial⟩ (fun _ _=>⟨rfl,rfl⟩) (fun _ _=>⟨rfl,trivial⟩) (fun _ _ _ ⟨O',hB,a0,i0⟩=>⟨O',hB,i0⟩) ⟨rfl,rfl,rfl⟩ ⟨rfl,rfl⟩ ?_)
  rintro k9 s7 x8 d2 k1 r0 ⟨l1,hB,a0,i0⟩ e0 s0 t0
  have rk9:inI64 (k9:Int):=rngKN r0 (FH d0 rx1)
  refine Ab (Aa (Ak rfl (Am rfl (o_z ?_))))
  refine Ab (Aa (Ak rfl (AS rfl ?_)))
  have u0:x0.length≤9223372036854775807:=Nat.le_trans a0.len.2.1 a0.len.2.2
  have e2:inI64 (x0.length:Int):=rngNat u0
  refine Ak rfl (o_z ?_)
  obtain ⟨n0,v0,e0⟩:=bs e0
  refine Ay (aft n0 (fun (f0:(List Fct)) (c0:(Option Addr×Nat))=>[(0,(.slice A3 x0.length c4)),(5,(.slice c0.1 f0.length c0.2)),(9,(.int .i64 (p0:Int))),(10,(.int .i64 (k9:Int)))]) (fun f0 c0 w'=>∃ O':Lab,Bs w A w' O'∧Vb w' (Fr 0 w' O') (.slice A3 x0.length c4) x0∧Rw 3 w' O' 78 (.slice c0.1 f0.length c0.2) f0)) ?_ ?_
  ·
   refine AK (AY (σ:=(List Fct)) (X:=(Option Addr×Nat)) (x0.length) v0 rfl u0 (fun (f0:(List Fct)) (c0:(Option Addr×Nat))=>[(0,(.slice A3 x0.length c4)),(5,(.slice c0.1 f0.length c0.2)),(6,(.int .i64 (k9:Int))),(9,(.int .i64 (p0:Int))),(10,(.int .i64 (k9:Int))),(13,(.slice A3 x0.length c4))]) _ (fun f0 c0 w'=>∃ O':Lab,Bs w A w' O'∧Vb w' (Fr 0 w' O') (.slice A3 x0.length c4) x0∧Rw 3 w' O' 78 (.slice c0.1 f0.length c0.2) f0) _ (x8.1,x8.2) ⟨l1,hB,a0,i0⟩ ⟨rfl,rfl,rfl,rfl,rfl,rfl,rfl,rfl,trivial⟩ (fun _ _=>⟨rfl,rfl⟩) (fun _ _=>⟨rfl,rfl,rfl,rfl,trivial⟩) (fun _ _ _ ⟨O',hB,a0,h0⟩=>⟨O',hB,a0,h0⟩) ⟨rfl,rfl,rfl⟩ ⟨rfl,rfl⟩ ?_)
   rintro m1 j0 f0 c0 f2 n1 o0 ⟨o1,hB,a0,h0⟩ b0 w0 y0
   have rk30:inI64 (m1:Int):=rngK o0 u0
   refine Ab (Aa ?_)
   obtain ⟨g2,h2,p1,z0,a1,b1,rfl,q1,r1⟩:=a0.elem' o0
   refine Bi (hA:=z0) (hj:=rfl) (hlt:=a1) rfl rfl ?_
   refine Bd (hl:=rfl) (hc:=b1) rfl ?_
   refine AU 2 o1 fun s1 i2 t1 k0 l0=>?_
   refine Az l0 rfl rfl rfl (AJ) (allOne) fun u1 m0 l0=>?_
   replace l0:Lc 2 u1 t1 s1 78 [(.int .i64 j0.var),(.int .i64 j0.val)]:=l0
   refine o_z ?_
   refine Ab (Aa (Ax rfl (At (hc:=Blk.cell (i:=0) (l0.1) rfl) rfl ?_)))
   refine Ak rfl (GU rfl rfl (fun c1=>?_) fun c1=>?_)
   ·
    replace b0:=ip b0 c1
    refine o_z ?_
    refine Ah rfl (Aa (Ak rfl (Bd (hl:=rfl) (hc:=(l0.1).cellsAt) rfl ?_)))
    obtain ⟨j2,d1,b0⟩:=bs b0
    obtain ⟨d1,v1,w1⟩:=AI d1
    replace h0:=(h0.st k0).st m0
    refine BC rfl (a:=j0) h0 (Vb.ofAgg (cs:=[(.int .i64 j0.var),(.int .i64 j0.val)]) (x:=j0) rfl ⟨rfl,q1,r1⟩) (fun _=>rfl) rfl v1 w1 ⟨rfl,rfl⟩ fun k2 y1 z1 l2 m2 f1 g1=>?_
    rw [← d1] at g1 ⊢
    refine Am rfl (o_z ?_)
    obtain rfl:=sm b0
    exact show Exists _ from ⟨_,(y1,z1),rfl,⟨rfl,rfl,rfl,rfl,rfl,rfl,rfl,rfl,trivial⟩,_,((hB.st k0).st m0).st f1,((a0.st k0).st m0).st f1,g1⟩
   replace b0:=im b0 c1
   refine o_z ?_
   refine Ae rfl (AO ?_)
   obtain rfl:=sm b0
   exact show Exists _ from ⟨_,(c0.1,c0.2),rfl,⟨rfl,rfl,rfl,rfl,rfl,rfl,rfl,rfl,trivial⟩,_,(hB.st k0).st m0,(a0.st k0).st m0,(h0.st k0).st m0⟩
  rintro n2 o2 ⟨p2,h1,rfl,g0,q2,hB,a0,h0⟩
  replace e0:=AR e0
  obtain rfl:=sm e0
  exact show Exists _ from ⟨_,(h1.1,h1.2),rfl,⟨(Ar g0 _ _ rfl),(Ar g0 _ _ rfl),(Ar g0 _ _ rfl),(Ar g0 _ _ rfl),trivial⟩,_,hB,a0,h0⟩
 rintro r2 a2 ⟨s2,t2,rfl,e1,u2,hB,i0⟩
 replace hm:=AR hm
 refine AH _ e1 ?_
 refine Ab (Aa (Ak rfl (Am rfl (o_z ?_))))
 refine AF ?_
 obtain ⟨b2,c2,i0⟩:=i0.freeze
 obtain rfl:=sm hm
 replace hB:=hB.st c2
 exact ret1v rfl (AA rfl) ⟨hB.ext,(Vb.mono (F:=Fr 0 a2 b2) i0 hB.out)⟩
noncomputable def CX (x0:List Fct):Option (List Eff) :=
  bnd (rng (ρ:=(List Eff)) (fun (k10:Nat) (a11:Fct) (s8:(List Eff))=>bnd (appI 40 s8 [(⟨([]:List Fct),a11.var,a11.val⟩:Eff)]) fun u41=>some (.next u41)) x0 0 ([]:List Eff)) fun res6=>fin res6 fun (s57:(List Eff))=>some s57
theorem ED {w:World} {A:Nat→Prop} (hA:∀ k,A k→k < w.heap.size) {vx0:Value} {x0:List Fct} (a0:Vb w A vx0 x0) {r:(List Eff)} (hm:CX x0=some r) :
    Fn prog 53 [vx0] w fun v w'=>Ext w w'∧Vb w' (upA A w w') v r:=by
 obtain ⟨O,hB,s0⟩:=enter hA
 replace a0:=a0.mono s0
 obtain ⟨A2,c3,rfl⟩:=a0.form
 refine AL func53 rfl ntmps53 ?_
 unfold CX at hm
 refine Ab (Aa (Am rfl (o_z ?_)))
 refine Ab (Aa (Am rfl (o_z ?_)))
 refine Ab (Ab (Aa (Ak rfl (AS rfl ?_))))
 have l5:x0.length≤9223372036854775807:=Nat.le_trans a0.len.2.1 a0.len.2.2
 have r4:inI64 (x0.length:Int):=rngNat l5
 refine Ak rfl (o_z ?_)
 obtain ⟨g0,t0,hm⟩:=bs hm
 refine Ay (aft g0 (fun (s8:(List Eff)) (x9:(Option Addr×Nat))=>[(3,(.slice x9.1 s8.length x9.2))]) (fun s8 x9 w'=>∃ O':Lab,Bs w A w' O'∧Rw 3 w' O' 85 (.slice x9.1 s8.length x9.2) s8)) ?_ ?_
 ·
  refine AK (AY (σ:=(List Eff)) (X:=(Option Addr×Nat)) (x0.length) t0 rfl l5 (fun (s8:(List Eff)) (x9:(Option Addr×Nat))=>[(3,(.slice x9.1 s8.length x9.2)),(6,(.slice A2 x0.length c3))]) _ (fun s8 x9 w'=>∃ O':Lab,Bs w A w' O'∧Rw 3 w' O' 85 (.slice x9.1 s8.length x9.2) s8∧Vb w' (Fr 0 w' O') (.slice A2 x0.length c3) x0) _ (none,0) ⟨O,hB,(Rw.nil 3 (by decide)),a0⟩ ⟨rfl,rfl,rfl,rfl,trivial⟩ (fun _ _=>⟨rfl,rfl⟩) (fun _ _=>⟨rfl,trivial⟩) (fun _ _ _ ⟨O',hB,b0,a0⟩=>⟨O',hB,b0⟩) ⟨rfl,rfl,rfl⟩ ⟨rfl,rfl⟩ ?_)
  rintro u0 c0 s8 x9 l1 v0 f0 ⟨w0,hB,b0,a0⟩ d0 h0 i0
  have rk10:inI64 (u0:Int):=rngK f0 l5
  refine Ab (Aa ?_)
  obtain ⟨m1,n1,y0,j0,k0,l0,rfl,z0,a1⟩:=a0.elem' f0
  refine Bi (hA:=j0) (hj:=rfl) (hlt:=k0) rfl rfl ?_
  refine Bd (hl:=rfl) (hc:=l0) rfl ?_
  refine AU 2 w0 fun b1 o1 c1 m0 e0=>?_
  refine Az e0 rfl rfl rfl (AJ) (allOne) fun d1 n0 e0=>?_
  replace e0:Lc 2 d1 c1 b1 78 [(.int .i64 c0.var),(.int .i64 c0.val)]:=e0
  refine o_z ?_
  refine Aa (Ak rfl (Ax rfl (At (hc:=Blk.cell (i:=0) (e0.1) rfl) rfl ?_)))
  refine Ax rfl (At (hc:=Blk.cell (i:=1) (e0.1) rfl) rfl ?_)
  refine Cl rfl rfl ?_
  obtain ⟨p1,o0,d0⟩:=bs d0
  obtain ⟨o0,e1,f1⟩:=AI o0
  replace b0:=(b0.st m0).st n0
  refine BC rfl (a:=(⟨([]:List Fct),c0.var,c0.val⟩:Eff)) b0 (Vb.ofAgg (cs:=[(.slice none 0 0),(.int .i64 c0.var),(.int .i64 c0.val)]) (x:=(⟨([]:List Fct),c0.var,c0.val⟩:Eff)) rfl ⟨_,rfl,(Vb.nil _ _),z0,a1⟩) (fun _=>rfl) rfl e1 f1 ⟨rfl,rfl⟩ fun q1 g1 h1 r1 s1 q0 r0=>?_
  rw [← o0] at r0 ⊢
  refine Am rfl (o_z ?_)
  obtain rfl:=sm d0
  exact show Exists _ from ⟨_,(g1,h1),rfl,⟨rfl,rfl,rfl,rfl,trivial⟩,_,((hB.st m0).st n0).st q0,r0,((a0.st m0).st n0).st q0⟩
 rintro t1 i1 ⟨u1,v1,rfl,p0,w1,hB,b0⟩
 replace hm:=AR hm
 refine AH _ p0 ?_
 refine Ab (Aa (Ak rfl (Am rfl (o_z ?_))))
 refine AF ?_
 obtain ⟨j1,k1,b0⟩:=b0.freeze
 obtain rfl:=sm hm
 replace hB:=hB.st k1
 exact ret1v rfl (AA rfl) ⟨hB.ext,(Vb.mono (F:=Fr 0 i1 j1) b0 hB.out)⟩
end
end Go.Proofs.YtjohlgjklmagnaaGreatDoor

/- Own text: what the proof of compileWaits_holds uses, part 4: rules, models and their proofs, plain laws. -/
import Derived.Test.YtjohlgjklmagnaaGreatDoorCWC
set_option linter.unusedVariables false
set_option linter.unusedSimpArgs false
namespace Go.Proofs.YtjohlgjklmagnaaGreatDoor
open Go Go.RowKit
section
open Go Go.RowKit
section
variable {t : Tpl} {s : List Int} {q : Nat → Int} {l : List Lch}
def en (t:Tpl) (x:Lch):Int:=x.tm + (jb t x.job.toNat).dur
def hap1 (t:Tpl) (τ:Nat) (x:Lch):List Hh:=(if x.tm=(τ:Int) then [(x.job.toNat,false)] else []) ++ (if en t x=(τ:Int) then [(x.job.toNat,true)] else [])
def hapA (t:Tpl) (l:List Lch) (τ:Nat):List Hh:=l.flatMap (hap1 t τ)
theorem CX {τ:Nat} {h:Hh}:h∈hapA t l τ↔∃ x∈l,x.job.toNat=h.1∧(if h.2=true then en t x=(τ:Int) else x.tm=(τ:Int)):=by
  unfold hapA hap1
  simp only [List.mem_flatMap,List.mem_append]
  obtain ⟨i,e⟩:=h
  constructor
  · rintro ⟨x,hx,h|h⟩
    · split at h
      · rename_i hh
        have:=List.mem_singleton.1 h
        injection this with h1 h2
        subst h1;subst h2
        exact ⟨x,hx,rfl,by simpa using hh⟩
      · cases h
    · split at h
      · rename_i hh
        have:=List.mem_singleton.1 h
        injection this with h1 h2
        subst h1;subst h2
        exact ⟨x,hx,rfl,by simpa using hh⟩
      · cases h
  · rintro ⟨x,hx,h1,h2⟩
    simp only at h1 h2
    subst h1
    cases e
    · simp only [Bool.false_eq_true,if_false] at h2
      exact ⟨x,hx,.inl (by rw [if_pos h2];simp)⟩
    · simp only [if_true] at h2
      exact ⟨x,hx,.inr (by rw [if_pos h2];simp)⟩
def LRng (t:Tpl) (l:List Lch):Prop:=∀ x∈l,0≤x.tm∧0≤x.job∧x.job < t.jobs.length
def Nov (t:Tpl) (l:List Lch) (τ:Nat):Prop:=∀ a∈l,∀ b∈l,a≠b→a.job=b.job→a.tm < (τ:Int)→b.tm < (τ:Int)→en t b < a.tm∨en t a < b.tm
def cd (t:Tpl) (x:Lch) (τ:Nat):Int:=if en t x=(τ:Int) then (jb t x.job.toNat).dur + 1 else en t x - τ
def Qc (t:Tpl) (l:List Lch) (τ:Nat) (q:Nat→Int):Prop:=∀ i,i < t.jobs.length→(q i=0∧∀ x∈l,x.job=(i:Int)→x.tm < (τ:Int)→en t x < (τ:Int))∨∃ x∈l,x.job=(i:Int)∧x.tm < (τ:Int)∧(τ:Int)≤en t x∧q i=cd t x τ
def Mc (t:Tpl) (l:List Lch) (τ:Nat) (q:Nat→Int):Prop:=∀ i,i < t.jobs.length→(q i=0∧∀ x∈l,x.job=(i:Int)→x.tm≤(τ:Int)→en t x≤(τ:Int))∨∃ x∈l,x.job=(i:Int)∧x.tm≤(τ:Int)∧(τ:Int) < en t x∧q i=en t x - τ
theorem Vo (ht:TplOk t) {τ:Nat} (h:Mc t l τ q):Qc t l (τ + 1) (nxq t q):=fun i hi=>by
  rcases h i hi with ⟨h1,h2⟩|⟨x,hx,h1,h2,h3,h4⟩
  · refine .inl ⟨by unfold nxq nxc;rw [h1];rfl,fun x hx hj ht=>?_⟩
    have:=h2 x hx hj (by omega);omega
  · refine .inr ⟨x,hx,h1,by omega,by omega,?_⟩
    have e:x.job.toNat=i:=by omega
    unfold nxq nxc cd
    rw [h4,e]
    by_cases h5:1 < en t x - τ
    · rw [if_pos h5,if_neg (by omega)];omega
    · rw [if_neg h5,if_pos (by omega),if_pos (by omega)]
theorem Vp {hs:List Hh} (hn:(hs.map (·.1)).Nodup) {a b:Hh} (ha:a∈hs) (hb:b∈hs) (h:a.1=b.1):a=b:=by
  obtain ⟨i,hi,rfl⟩:=List.getElem_of_mem ha
  obtain ⟨j,hj,rfl⟩:=List.getElem_of_mem hb
  have:=(List.getElem_inj (h₀:=by simpa using hi) (h₁:=by simpa using hj) hn).1 (by simpa using h)
  subst this;rfl
theorem TN (ht:TplOk t) (hr:LRng t l) {τ:Nat} {hs:List Hh} (hv:Nov t l τ) (hq:Qc t l τ q) (hb:HBok t s q hs)
    (hst:∀ i,(i,false)∈hs↔∃ x∈l,x.job=((i:Nat):Int)∧x.tm=(τ:Int)) (hdue:∀ i,i < t.jobs.length→q i=(jb t i).dur + 1→(i,true)∈hs) :
    Nov t l (τ + 1)∧(∀ h,h∈hs↔h∈hapA t l τ)∧Mc t l τ (stA t q hs):=by
  have hlen:∀ x∈l,x.job.toNat < t.jobs.length:=fun x hx=>by have:=hr x hx;omega
  -- whose end is due
  have due:∀ i,(i,true)∈hs↔∃ x∈l,x.job=((i:Nat):Int)∧en t x=(τ:Int):=by
    intro i
    constructor
    · intro hm
      have hi:=hb.jobs _ hm
      have hown:=hb.own _ hm
      simp only [if_true] at hown hi
      have hd:=ht.dur i
      rcases hq i hi with ⟨h1,_⟩|⟨x,hx,h1,h2,h3,h4⟩
      · omega
      · refine ⟨x,hx,h1,?_⟩
        have e:x.job.toNat=i:=by omega
        unfold cd at h4
        rw [e] at h4
        split at h4
        · assumption
        · have:en t x=x.tm + (jb t i).dur:=by unfold en;rw [e]
          omega
    · rintro ⟨x,hx,h1,h2⟩
      have hi:=hlen x hx
      have e:x.job.toNat=i:=by omega
      have hd:=ht.dur i
      have he:en t x=x.tm + (jb t i).dur:=by unfold en;rw [e]
      refine hdue i (by omega) ?_
      rcases hq i (by omega) with ⟨_,g2⟩|⟨y,hy,g1,g2,g3,g4⟩
      · have:=g2 x hx h1 (by omega);omega
      · have e':y.job.toNat=i:=by omega
        by_cases hxy:y=x
        · subst hxy
          rw [g4];unfold cd;rw [if_pos h2,e]
        · rcases hv x hx y hy (Ne.symm hxy) (by omega) (by omega) g2 with h|h
          · omega
          · omega
  -- those that start were idle
  have idle:∀ i,(i,false)∈hs→∀ x∈l,x.job=(i:Int)→x.tm < (τ:Int)→en t x < (τ:Int):=by
    intro i hm x hx h1 h2
    have hi:=hb.jobs _ hm
    have hown:=hb.own _ hm
    simp only [Bool.false_eq_true,if_false] at hown hi
    have hd:=ht.dur i
    rcases hq i hi with ⟨_,g2⟩|⟨y,hy,g1,g2,g3,g4⟩
    · exact g2 x hx h1 h2
    · have e':y.job.toNat=i:=by omega
      have he:en t y=y.tm + (jb t i).dur:=by unfold en;rw [e']
      rw [hown] at g4
      unfold cd at g4
      rw [e'] at g4
      split at g4<;>omega
  refine ⟨?_,?_,?_⟩
  · intro a ha b hbm hne hj h1 h2
    have ja:=hr a ha
    have jb':=hr b hbm
    have ea:((a.job.toNat:Nat):Int)=a.job:=by omega
    by_cases g1:a.tm < (τ:Int)
    · by_cases g2:b.tm < (τ:Int)
      · exact hv a ha b hbm hne hj g1 g2
      · have e2:b.tm=(τ:Int):=by omega
        have:=idle a.job.toNat ((hst _).2 ⟨b,hbm,by omega,e2⟩) a ha (by omega) g1
        exact .inr (by omega)
    · have e1:a.tm=(τ:Int):=by omega
      by_cases g2:b.tm < (τ:Int)
      · have:=idle a.job.toNat ((hst _).2 ⟨a,ha,by omega,e1⟩) b hbm (by omega) g2
        exact .inl (by omega)
      · have e2:b.tm=(τ:Int):=by omega
        refine absurd ?_ hne
        obtain ⟨a1,a2⟩:=a
        obtain ⟨b1,b2⟩:=b
        simp only at e1 e2 hj
        rw [e1,e2,hj]
  · rintro ⟨i,e⟩
    rw [CX]
    cases e
    · rw [hst]
      constructor
      · rintro ⟨x,hx,h1,h2⟩
        exact ⟨x,hx,by simp only;omega,by simpa using h2⟩
      · rintro ⟨x,hx,h1,h2⟩
        have:=hr x hx
        exact ⟨x,hx,by simp only at h1;omega,by simpa using h2⟩
    · rw [due]
      constructor
      · rintro ⟨x,hx,h1,h2⟩
        exact ⟨x,hx,by simp only;omega,by simpa using h2⟩
      · rintro ⟨x,hx,h1,h2⟩
        have:=hr x hx
        exact ⟨x,hx,by simp only at h1;omega,by simpa using h2⟩
  · intro i hi
    have hd:=ht.dur i
    by_cases hm:∃ e,(i,e)∈hs
    · obtain ⟨e,hm⟩:=hm
      have hsa:=KS (t:=t) (q:=q) hb.nod hm
      simp only at hsa
      cases e
      · simp only [Bool.false_eq_true,if_false] at hsa
        obtain ⟨x,hx,h1,h2⟩:=(hst i).1 hm
        have e':x.job.toNat=i:=by omega
        have he:en t x=x.tm + (jb t i).dur:=by unfold en;rw [e']
        exact .inr ⟨x,hx,h1,by omega,by omega,by omega⟩
      · simp only [if_true] at hsa
        refine .inl ⟨hsa,fun x hx h1 h2=>?_⟩
        obtain ⟨y,hy,g1,g2⟩:=(due i).1 hm
        have e':y.job.toNat=i:=by omega
        have he:en t y=y.tm + (jb t i).dur:=by unfold en;rw [e']
        by_cases hxy:x=y
        · subst hxy;omega
        · by_cases hxt:x.tm < (τ:Int)
          · rcases hv x hx y hy hxy (by omega) hxt (by omega) with h|h
            · omega
            · omega
          · have h3:(i,false)∈hs:=(hst i).2 ⟨x,hx,h1,by omega⟩
            have:=Vp hb.nod hm h3 rfl
            cases this
    · have hno:∀ h∈hs,h.1≠i:=fun h hh e=>hm ⟨h.2,by subst e;exact hh⟩
      rw [Hn hno]
      rcases hq i hi with ⟨h1,h2⟩|⟨x,hx,h1,h2,h3,h4⟩
      · refine .inl ⟨h1,fun x hx hj hx2=>?_⟩
        by_cases hxt:x.tm < (τ:Int)
        · have:=h2 x hx hj hxt;omega
        · exact absurd ⟨false,(hst i).2 ⟨x,hx,hj,by omega⟩⟩ hm
      · by_cases he:en t x=(τ:Int)
        · exact absurd ⟨true,(due i).2 ⟨x,hx,h1,he⟩⟩ hm
        · refine .inr ⟨x,hx,h1,by omega,by omega,?_⟩
          rw [h4];unfold cd;rw [if_neg he]
def cano (n:Nat) (H:List Hh):List Hh:=[true,false].flatMap fun e=>(List.range n).flatMap fun i=>H.filter fun h=>decide (h=(i,e))
theorem OT {n:Nat} {H:List Hh} (hn:∀ h∈H,h.1 < n) {h:Hh}:h∈cano n H↔h∈H:=by
  unfold cano
  simp only [List.mem_flatMap,List.mem_range,List.mem_filter,decide_eq_true_eq,List.mem_cons,List.not_mem_nil,or_false]
  constructor
  · rintro ⟨e,_,i,_,hm,_⟩;exact hm
  · intro hm
    refine ⟨h.2,?_,h.1,hn h hm,hm,rfl⟩
    cases h.2
    · exact .inr rfl
    · exact .inl rfl
theorem MQ {n:Nat} {H:List Hh} (hd:H.Nodup):(cano n H).Nodup:=by
  unfold cano List.Nodup
  rw [List.pairwise_flatMap]
  constructor
  · intro e _
    rw [List.pairwise_flatMap]
    refine ⟨fun i _=>List.Pairwise.filter _ hd,?_⟩
    refine List.Pairwise.imp ?_ List.nodup_range
    intro i j hij x hx y hy
    have h1:=(List.mem_filter.1 hx).2
    have h2:=(List.mem_filter.1 hy).2
    simp only [decide_eq_true_eq] at h1 h2
    rw [h1,h2]
    intro hh;injection hh with hh;exact hij hh
  · refine List.Pairwise.cons (fun e he x hx y hy=>?_) (List.pairwise_singleton _ _)
    have:e=false:=by simpa using he
    subst this
    obtain ⟨i,_,hx⟩:=List.mem_flatMap.1 hx
    obtain ⟨j,_,hy⟩:=List.mem_flatMap.1 hy
    have h1:=(List.mem_filter.1 hx).2
    have h2:=(List.mem_filter.1 hy).2
    simp only [decide_eq_true_eq] at h1 h2
    rw [h1,h2]
    intro hh;injection hh with _ hh;cases hh
def Sv (t:Tpl) (l:List Lch):Nat→List Int
  | 0=>t.init
  | τ + 1=>afH t (Sv t l τ) (cano t.jobs.length (hapA t l τ))
theorem MR (ht:TplOk t) (l:List Lch):∀ τ,(Sv t l τ).length=t.vars.length
  | 0=>ht.init.1
  | τ + 1=>by rw [Sv,Hf,MR ht l τ]
structure TickC (t:Tpl) (l:List Lch) (τ:Nat):Prop where
  non:(hapA t l τ).Pairwise fun a b=>¬ IntF t a b
  reads:∀ h∈hapA t l τ,holdsB (hR t h) (Sv t l τ)=true
  over:∀ x∈l,x.tm≤(τ:Int)→(τ:Int) < en t x→holdsB (jb t x.job.toNat).over (Sv t l (τ + 1))=true
structure VOk (t:Tpl) (l:List Lch):Prop where
  rng:LRng t l
  nd:l.Nodup
  nov:∀ a∈l,∀ b∈l,a≠b→a.job=b.job→en t b < a.tm∨en t a < b.tm
  tick:∀ τ,TickC t l τ
  goal:∀ τ:Nat,(∀ x∈l,en t x < (τ:Int))→holdsB t.goal (Sv t l τ)=true
theorem GQ (ht:TplOk t) (x:Lch):x.tm < en t x:=by
  have:=ht.dur x.job.toNat
  unfold en;omega
theorem Fg (ht:TplOk t) (hr:LRng t l) (hd:l.Nodup) {τ:Nat} (hv:Nov t l (τ + 1)):(hapA t l τ).Nodup:=by
  unfold hapA List.Nodup
  rw [List.pairwise_flatMap]
  constructor
  · intro x _
    have:=GQ ht x
    unfold hap1
    by_cases h1:x.tm=(τ:Int)
    · rw [if_pos h1,if_neg (by omega),List.append_nil];exact List.pairwise_singleton _ _
    · rw [if_neg h1,List.nil_append]
      split
      · exact List.pairwise_singleton _ _
      · exact .nil
  · refine List.Pairwise.imp_of_mem ?_ hd
    intro a b ha hb hne x hx y hy hxy
    subst hxy
    have ra:=hr a ha
    have rb:=hr b hb
    have ga:=GQ ht a
    have gb:=GQ ht b
    have m1:=(CX (l:=[a]) (t:=t) (τ:=τ) (h:=x)).1 (by unfold hapA;simpa using hx)
    have m2:=(CX (l:=[b]) (t:=t) (τ:=τ) (h:=x)).1 (by unfold hapA;simpa using hy)
    obtain ⟨a',ha',e1,e2⟩:=m1
    obtain ⟨b',hb',e3,e4⟩:=m2
    have:a'=a:=by simpa using ha'
    subst this
    have:b'=b:=by simpa using hb'
    subst this
    split at e2
    · rename_i h
      rw [if_pos h] at e4
      rcases hv a' ha b' hb hne (by omega) (by omega) (by omega) with h|h<;>omega
    · rename_i h
      rw [if_neg h] at e4
      rcases hv a' ha b' hb hne (by omega) (by omega) (by omega) with h|h<;>omega
theorem HBok.nodup {hs:List Hh} (h:HBok t s q hs):hs.Nodup:=by
  have:=h.nod
  unfold List.Nodup at this ⊢
  rw [List.pairwise_map] at this
  exact this.imp fun hne e=>hne (by rw [e])
theorem OU (hr:LRng t l) {τ:Nat}:∀ h∈hapA t l τ,h.1 < t.jobs.length:=fun h hh=>by
  obtain ⟨x,hx,e,_⟩:=CX.1 hh
  have:=hr x hx;omega
theorem PM:∀ {x y:Hh},(¬ IntF t x y)→¬ IntF t y x:=fun h hh=>h hh.symm
def lau (τ:Nat):List (List Hh)→List Lch
  | []=>[]
  | b :: bs=>(b.filter fun h=>!h.2).map (fun h=>(⟨(τ:Int),(h.1:Int)⟩:Lch)) ++ lau (τ + 1) bs
theorem No {x:Lch}:∀ {bs:List (List Hh)} {τ:Nat},x∈lau τ bs↔∃ (k:Nat) (b:List Hh) (i:Nat),bs[k]?=some b∧(i,false)∈b∧x=⟨((τ + k:Nat):Int),(i:Int)⟩
  | [],τ=>by simp [lau]
  | b :: bs,τ=>by
    rw [lau,List.mem_append,No (bs:=bs)]
    constructor
    · rintro (h|⟨k,b',i,h1,h2,h3⟩)
      · obtain ⟨g,hh,rfl⟩:=List.mem_map.1 h
        obtain ⟨h1,h2⟩:=List.mem_filter.1 hh
        obtain ⟨i,e⟩:=g
        have:e=false:=by simpa using h2
        subst this
        exact ⟨0,b,i,rfl,h1,rfl⟩
      · exact ⟨k + 1,b',i,by simpa using h1,h2,by rw [h3];congr 2;omega⟩
    · rintro ⟨k,b',i,h1,h2,h3⟩
      cases k with
      | zero =>
        have:b=b':=by simpa using h1
        subst this
        exact .inl (List.mem_map.2 ⟨(i,false),List.mem_filter.2 ⟨h2,rfl⟩,h3.symm⟩)
      | succ k=>exact .inr ⟨k,b',i,by simpa using h1,h2,by rw [h3];congr 2;omega⟩
theorem UF {bs:List (List Hh)} {τ:Nat} {x:Lch} (h:x∈lau τ bs):(τ:Int)≤x.tm:=by
  obtain ⟨k,b,i,_,_,rfl⟩:=No.1 h
  simp only;omega
theorem Rq {n:Nat} {H b:List Hh} (hn:∀ h∈H,h.1 < n) (hd:H.Nodup) (hb:b.Nodup) (h:∀ x,x∈b↔x∈H):b.Perm (cano n H) :=
  (List.perm_ext_iff_of_nodup hb (MQ hd)).2 fun x=>(h x).trans (OT hn).symm
theorem Rr {a b:List Hh} (h:a.Perm b) (hp:a.Pairwise fun x y=>¬ IntF t x y):b.Pairwise fun x y=>¬ IntF t x y:=(h.pairwise_iff (fun hh=>PM hh)).1 hp
end
end
section
open Go Go.RowKit
section
variable {t : Tpl} {l : List Lch} {u : Tsk}
def blk (t:Tpl) (l:List Lch) (τ:Nat):List Hh:=cano t.jobs.length (hapA t l τ)
def qsV (t:Tpl) (l:List Lch):Nat→(Nat→Int)
  | 0=>fun _=>0
  | τ + 1=>nxq t (stA t (qsV t l τ) (blk t l τ))
theorem VOk.novs (h:VOk t l) (τ:Nat):Nov t l τ:=fun a ha b hb hne hj _ _=>h.nov a ha b hb hne hj
theorem FX (h:VOk t l) {τ:Nat} {x:Hh}:x∈blk t l τ↔x∈hapA t l τ:=OT (OU h.rng)
theorem Sp (ht:TplOk t) (h:VOk t l) (τ:Nat):(hapA t l τ).Perm (blk t l τ):=by
  have hd:=Fg ht h.rng h.nd (h.novs (τ + 1))
  exact Rq (OU h.rng) hd hd fun x=>Iff.rfl
theorem TO (ht:TplOk t) (h:VOk t l) (τ:Nat) (hq:Qc t l τ (qsV t l τ)):HBok t (Sv t l τ) (qsV t l τ) (blk t l τ):=by
  refine ⟨fun x hx=>OU h.rng x ((FX h).1 hx),Rr (Sp ht h τ) (h.tick τ).non,?_,fun x hx=>?_,fun x hx=>(h.tick τ).reads x ((FX h).1 hx)⟩
  · have hd:(blk t l τ).Nodup:=MQ (Fg ht h.rng h.nd (h.novs (τ + 1)))
    unfold List.Nodup
    rw [List.pairwise_map]
    refine List.Pairwise.imp_of_mem (fun {a b} ha hb hne e=>?_) hd
    obtain ⟨x,hx,x1,x2⟩:=CX.1 ((FX h).1 ha)
    obtain ⟨y,hy,y1,y2⟩:=CX.1 ((FX h).1 hb)
    have rx:=h.rng x hx
    have ry:=h.rng y hy
    have gx:=GQ ht x
    have gy:=GQ ht y
    have hj:x.job=y.job:=by omega
    obtain ⟨a1,a2⟩:=a
    obtain ⟨b1,b2⟩:=b
    simp only at e x1 x2 y1 y2
    by_cases hxy:x=y
    · subst hxy
      cases a2<;>cases b2<;>simp only [Bool.false_eq_true,if_false,if_true] at x2 y2
      · exact hne (by rw [e])
      · omega
      · omega
      · exact hne (by rw [e])
    · have:=h.nov x hx y hy hxy hj
      cases a2<;>cases b2<;>simp only [Bool.false_eq_true,if_false,if_true] at x2 y2<;>omega
  · obtain ⟨i,e⟩:=x
    obtain ⟨x,hx',x1,x2⟩:=CX.1 ((FX h).1 hx)
    have rx:=h.rng x hx'
    have gx:=GQ ht x
    simp only at x1 x2
    have hi:i < t.jobs.length:=by omega
    rcases hq i hi with ⟨q1,q2⟩|⟨y,hy,y1,y2,y3,y4⟩
    · cases e
      · simp only [Bool.false_eq_true,if_false];exact q1
      · simp only [if_true] at x2
        have:=q2 x hx' (by omega) (by omega);omega
    · by_cases hxy:x=y
      · subst hxy
        cases e
        · simp only [Bool.false_eq_true,if_false] at x2;omega
        · simp only [if_true] at x2 ⊢
          rw [y4];unfold cd;rw [if_pos x2,x1]
      · have:=h.nov x hx' y hy hxy (by omega)
        have gy:=GQ ht y
        cases e<;>simp only [Bool.false_eq_true,if_false,if_true] at x2<;>omega
theorem IC (ht:TplOk t) (h:VOk t l):∀ τ,Qc t l τ (qsV t l τ)∧HBok t (Sv t l τ) (qsV t l τ) (blk t l τ)∧Mc t l τ (stA t (qsV t l τ) (blk t l τ))
  | τ => by
    have hq:Qc t l τ (qsV t l τ):=by
      cases τ with
      | zero=>exact fun i hi=>.inl ⟨rfl,fun x hx _ h1=>by have:=h.rng x hx;omega⟩
      | succ τ=>exact Vo ht (IC ht h τ).2.2
    have hb:=TO ht h τ hq
    refine ⟨hq,hb,(TN ht h.rng (h.novs τ) hq hb (fun i=>?_) (fun i hi e=>?_)).2.2⟩
    · rw [FX h,CX]
      constructor
      · rintro ⟨x,hx,h1,h2⟩
        have:=h.rng x hx
        exact ⟨x,hx,by simp only at h1;omega,by simpa using h2⟩
      · rintro ⟨x,hx,h1,h2⟩
        exact ⟨x,hx,by simp only;omega,by simpa using h2⟩
    · have hd:=ht.dur i
      rcases hq i hi with ⟨q1,q2⟩|⟨y,hy,y1,y2,y3,y4⟩
      · omega
      · rw [FX h,CX]
        refine ⟨y,hy,by simp only;omega,?_⟩
        simp only [if_true]
        have e':y.job.toNat=i:=by omega
        have he:en t y=y.tm + (jb t i).dur:=by unfold en;rw [e']
        unfold cd at y4
        rw [e'] at y4
        split at y4
        · assumption
        · omega
def blks (t:Tpl) (l:List Lch) (τ m:Nat):List (List Hh):=(List.range' τ m).map (blk t l)
theorem OV (ht:TplOk t) (h:VOk t l) (hn:0 < t.jobs.length) (τ:Nat):Pass t (afH t (Sv t l τ) (blk t l τ)) (stA t (qsV t l τ) (blk t l τ)):=by
  refine ⟨hn,fun i hi=>?_⟩
  have hd:=ht.dur i
  rcases (IC ht h τ).2.2 i hi with ⟨h1,_⟩|⟨x,hx,h1,h2,h3,h4⟩
  · rw [h1];exact ⟨by omega,by omega,fun h=>by omega⟩
  · have e:x.job.toNat=i:=by omega
    have he:en t x=x.tm + (jb t i).dur:=by unfold en;rw [e]
    refine ⟨by omega,by omega,fun _=>?_⟩
    have:=(h.tick τ).over x hx h2 h3
    rw [e] at this;exact this
theorem Mf (ht:TplOk t) (h:VOk t l):∀ (m τ:Nat),(m=0∨0 < t.jobs.length)→Trc t (Sv t l τ) (qsV t l τ) (blk t l τ) (blks t l (τ + 1) m) (Sv t l (τ + m + 1)) (stA t (qsV t l (τ + m)) (blk t l (τ + m)))
  | 0,τ,_=>.last (IC ht h τ).2.1
  | m + 1,τ,hm=>by
    have hn:0 < t.jobs.length:=by omega
    have:=Mf ht h m (τ + 1) (.inr hn)
    rw [show τ + 1 + m=τ + (m + 1) from by omega] at this
    unfold blks
    rw [List.range'_succ,List.map_cons]
    exact .more (IC ht h τ).2.1 (OV ht h hn τ) this
theorem TP (ht:TplOk t) (h:VOk t l) {M:Nat} (hM:∀ x∈l,en t x≤(M:Int)):∀ i,i < t.jobs.length→stA t (qsV t l M) (blk t l M) i=0:=fun i hi=>by
  rcases (IC ht h M).2.2 i hi with ⟨h1,_⟩|⟨x,hx,h1,h2,h3,h4⟩
  · exact h1
  · have:=hM x hx;omega
def planV (t:Tpl) (l:List Lch) (M:Nat):List Int:=pl t (fun _=>0) (blk t l 0) (blks t l 1 M)
theorem NP (c:Cmd t u) (ht:TplOk t) (h:VOk t l) {M:Nat} (hM:∀ x∈l,en t x≤(M:Int)) (hn:M=0∨0 < t.jobs.length) :
    ∃ x,PlanR u u.init (planV t l M) x M∧holdsB u.goal x=true:=by
  have h1:=Mf ht h M 0 hn
  simp only [Nat.zero_add] at h1
  obtain ⟨hl,h2⟩:=TM c ht h1 (MR ht l 0)
  have e:(((blks t l 1 M).length:Nat):Int)=(M:Int):=by unfold blks;simp
  rw [e] at h2
  refine ⟨_,by rw [c.init];exact h2,(So c ht (MR ht l _)).2 ⟨h.goal (M + 1) fun x hx=>by have:=hM x hx;omega,TP ht h hM,rfl⟩⟩
end
end
section
open Go Go.RowKit
attribute [local irreducible] ewp owp hwp hwq Ev Evg Fn retPost Res1
attribute [local irreducible] hwx loudX
noncomputable def Cc (x0:Tpl) (x1:List Lch):Option ((MapR 182 Int Hap)×(List Int)) :=
  bnd (rng (ρ:=(MapR 182 Int Hap)×(List Int)) (fun (k38:Nat) (a39:Lch) (s36:(MapR 182 Int Hap))=>bnd (appI 16 (mget ([]:List Hap) s36.l a39.tm) [(⟨a39.job,false⟩:Hap)]) fun u82=>bnd (Cr x0 a39) fun q97=>bnd (appI 16 (mget ([]:List Hap) (⟨mput s36.l a39.tm u82⟩:MapR 182 Int Hap).l q97) [(⟨a39.job,true⟩:Hap)]) fun u99=>some (.next (⟨mput (⟨mput s36.l a39.tm u82⟩:MapR 182 Int Hap).l q97 u99⟩:MapR 182 Int Hap))) x1 0 (⟨[]⟩:MapR 182 Int Hap)) fun res34=>fin res34 fun (s219:(MapR 182 Int Hap))=>bnd (keysI s219) fun u221=>bnd (BS u221) fun q235=>some (s219,q235)
theorem Jy {w:World} {O:Lab} {vx0:Value} {x0:Tpl} (j3:Vb w (Fr 0 w O) vx0 x0) {vx1:Value} {x1:List Lch} (i1:Vb w (Fr 0 w O) vx1 x1) (j0:Nat) (hj0:j0≠0) {r:(MapR 182 Int Hap)×(List Int)} (hm:Cc x0 x1=some r) :
    Fn Tryz.prog 71 [vx0,vx1] w fun v w'=>∃ O',St nT w O w' O'∧∃ v0 v1:Value,v=.tuple #[v0,v1]∧Ob j0 w' O' v0 (r.1:MapR 182 Int Hap)∧Vb w' (Fr 0 w' O') v1 r.2:=by
 obtain ⟨O0,hE,u4⟩:=ent0 (w:=w) (O:=O)
 have hB:Bm w O0 w O0:=Bm.refl
 replace j3:=j3.mono u4
 obtain ⟨d8,rfl,v4,v5,v6,v7,rfl,h8,c0,d0,e0⟩:=j3
 obtain ⟨A9,q1,rfl⟩:=h8.form
 obtain ⟨r1,s1,rfl⟩:=c0.form
 obtain ⟨t1,u1,rfl⟩:=d0.form
 obtain ⟨w1,y1,rfl⟩:=e0.form
 replace i1:=i1.mono u4
 obtain ⟨w4,x4,rfl⟩:=i1.form
 refine AH Tryz.func71 rfl Tryz.ntmps71 rfl ?_
 unfold Cc at hm
 refine Ab (Aa (Cd 2 O0 rfl rfl fun k3 b5 y4 c2 j1=>?_))
 replace j1:Lc 2 b5 y4 k3 26 [(.slice A9 x0.vars.length q1),(.slice r1 x0.init.length s1),(.slice t1 x0.goal.length u1),(.slice w1 x0.jobs.length y1)]:=j1
 refine Al rfl rfl (Al rfl rfl (o_z ?_))
 refine Ab (Aa (RS (K:=Int) (V:=Hap) 182 3 (by decide) y4 rfl fun h3 e8 c5 z1 d5=>?_))
 refine Al rfl rfl (o_z ?_)
 refine Ab (Ab (Aa (Ak rfl rfl (AV rfl rfl ?_))))
 replace i1:=(i1.st c2).st z1
 have l3:x1.length≤9223372036854775807:=Nat.le_trans i1.len.2.1 i1.len.2.2
 have f8:inI64 (x1.length:Int):=rngNat l3
 refine Ak rfl rfl (o_z ?_)
 obtain ⟨s2,m3,hm⟩:=bs hm
 refine Az (aft s2 (fun (r2:(MapR 182 Int Hap)) (i3:Unit)=>[(6,(.map (some h3)))]) (fun r2 i3 w'=>∃ O':Lab,Bm w O0 w' O'∧Ob 3 w' O' (.map (some h3)) r2)) ?_ ?_
 ·
  refine AK ?_
  replace hB:=(hB.st c2).st z1
  replace h8:=(h8.st c2).st z1
  replace c0:=(c0.st c2).st z1
  replace d0:=(d0.st c2).st z1
  replace e0:=(e0.st c2).st z1
  replace j1:=j1.st z1
  refine Bq (σ:=(MapR 182 Int Hap)) (X:=Unit) (x1.length) m3 rfl l3 (fun (r2:(MapR 182 Int Hap)) (i3:Unit)=>[(2,(.pointer (some ⟨k3,0,none⟩))),(6,(.map (some h3))),(12,(.slice w4 x1.length x4))]) _ (fun r2 i3 w'=>∃ O':Lab,Bm w O0 w' O'∧Lc 2 w' O' k3 26 [(.slice A9 x0.vars.length q1),(.slice r1 x0.init.length s1),(.slice t1 x0.goal.length u1),(.slice w1 x0.jobs.length y1)]∧Vb w' (Fr 0 w' O') (.slice A9 x0.vars.length q1) x0.vars∧Vb w' (Fr 0 w' O') (.slice r1 x0.init.length s1) x0.init∧Vb w' (Fr 0 w' O') (.slice t1 x0.goal.length u1) x0.goal∧Vb w' (Fr 0 w' O') (.slice w1 x0.jobs.length y1) x0.jobs∧Ob 3 w' O' (.map (some h3)) r2∧Vb w' (Fr 0 w' O') (.slice w4 x1.length x4) x1) _ () ⟨c5,hB,j1,h8,c0,d0,e0,d5,i1⟩ ⟨rfl,rfl,rfl,rfl,rfl,trivial⟩ (fun _ _=>⟨rfl,rfl⟩) (fun _ _=>⟨rfl,trivial⟩) (fun _ _ _ ⟨O',hB,j1,h8,c0,d0,e0,e1,i1⟩=>⟨O',hB,e1⟩) ⟨rfl,rfl,rfl⟩ ⟨rfl,rfl⟩ ?_
  rintro e5 b0 r2 i3 g8 f5 t2 ⟨g5,hB,j1,h8,c0,d0,e0,e1,i1⟩ l0 n3 o3
  have rk38:inI64 (e5:Int):=rngK t2 l3
  refine Ab (Aa ?_)
  obtain ⟨i8,j8,h5,p3,q3,r3,rfl,u2,n1⟩:=i1.elem' t2
  refine BB (hA:=p3) (hj:=rfl) (hlt:=q3) rfl rfl rfl ?_
  refine Bv (hl:=rfl) (hc:=r3) rfl rfl ?_
  refine AR 4 g5 rfl fun i5 k8 s3 b1 l1=>?_
  refine AB l1 rfl rfl rfl (AJ rfl) (allOne rfl) fun j5 c1 l1=>?_
  replace l1:Lc 4 j5 s3 i5 52 [(.int .i64 b0.tm),(.int .i64 b0.job)]:=l1
  refine o_z ?_
  refine Ab (BO [(11,[3,6])] s3 ?_)
  refine AL (fuel:=6) [] [(3,true),(4,true),(5,true),(6,true),(7,true),(8,true),(9,true)] (by kernel_rfl) rfl ?_
  refine Bo rfl rfl rfl (Bn rfl rfl rfl (BJ (hc:=fun w' ⟨O',hq⟩=>Blk.cell (i:=0) ((l1.st hq (by decide)).1) rfl) rfl rfl rfl ?_))
  replace e1:=(e1.st b1).st c1
  obtain ⟨l8,m8,o1,z4⟩:=MapR.get e1 b0.tm
  refine Qt b0.tm (fun w' ⟨O',hq⟩=>o1.keep (hq.agree (i:=3) (by decide) _ (MapR.at e1))) rfl rfl rfl rfl ?_
  refine Bn rfl rfl rfl (BJ (hc:=fun w' ⟨O',hq⟩=>Blk.cell (i:=1) ((l1.st hq (by decide)).1) rfl) rfl rfl rfl ?_)
  refine CE rfl rfl rfl rfl ?_
  refine Ax ?_
  refine AL (fuel:=3) [3,6] [(0,true),(1,true),(2,true)] (by kernel_rfl) rfl ?_
  refine Bo rfl rfl rfl (Bn rfl rfl rfl (BJ (hc:=fun w' ⟨O',hq⟩=>Blk.cell (i:=0) ((l1.st hq (by decide)).1) rfl) rfl rfl rfl ?_))
  refine Ax ?_
  refine Aw (i:=10) (by kernel_rfl) rfl ?_
  refine AN 5 (by decide) s3 (xs:=([(⟨b0.job,false⟩:Hap)]:List Hap)) rfl rfl rfl rfl ⟨(Vb.ofAgg (cs:=[(.int .i64 b0.job),(.bool false)]) (x:=(⟨b0.job,false⟩:Hap)) rfl ⟨rfl,n1⟩),trivial⟩ (by decide) (by decide) rfl fun n8 o8 p8 k0 t3=>?_
  have hZ:=k0.lst [] (fun _ h=>h.elim)
  replace o1:=o1.keep (k0.agree (i:=3) id _ (MapR.at e1))
  replace z4:=z4.stS k0 id (fun _ _=>id)
  refine AE [(11,[3,6])] hZ (by kernel_rfl) ?_
  refine Aw (i:=11) (by kernel_rfl) rfl ?_
  replace e1:=e1.st k0
  obtain ⟨q8,y0,u3,k5⟩:=MapR.take e1 o1 6 (by decide) (by decide)
  have hZ:=y0.lst [3] (fun _ h=>by cases h;decide)
  obtain ⟨r8,v3,l0⟩:=bs l0
  obtain ⟨v3,l5,m5⟩:=AP v3
  replace t3:=t3.st y0
  refine BA rfl k5 (t3.rd) rfl rfl (by decide) l5 m5 rfl fun s8 t8 u8 v8 z0 a5=>?_
  rw [← v3] at a5 ⊢
  replace hZ:=hZ.cmp z0 [3,6] (fun _ h=>by cases h;decide) rfl
  refine AE [] hZ (by kernel_rfl) ?_
  refine Aw (i:=12) (by kernel_rfl) rfl ?_
  replace u3:=u3.st z0
  refine Lm u3 a5 (by decide) rfl rfl rfl fun w3 v2 d1 a1=>?_
  refine BL (by kernel_rfl) ?_
  refine BF (by kernel_rfl) ?_
  obtain ⟨m1,w2,l0⟩:=bs l0
  obtain ⟨w8,m0,l0⟩:=bs l0
  refine BO [(13,[3,6])] v2 ?_
  refine AL (fuel:=7) [] [(1,true),(2,true),(4,true),(5,true),(6,true),(9,true),(10,true),(11,true)] (by kernel_rfl) rfl ?_
  replace j1:=(((((j1.st b1).st c1).st k0).st y0).st z0).st d1
  refine CO (hl:=rfl) (hb:=fun w' ⟨O',hq⟩=>((j1.st hq (by decide)).1).cellsAt) rfl rfl rfl ?_
  replace l1:=(((l1.st k0).st y0).st z0).st d1
  refine CO (hl:=rfl) (hb:=fun w' ⟨O',hq⟩=>((l1.st hq (by decide)).1).cellsAt) rfl rfl rfl ?_
  refine Bo rfl rfl rfl (CO (hl:=rfl) (hb:=fun w' ⟨O',hq⟩=>((j1.st hq (by decide)).1).cellsAt) rfl rfl rfl ?_)
  refine CO (hl:=rfl) (hb:=fun w' ⟨O',hq⟩=>((l1.st hq (by decide)).1).cellsAt) rfl rfl rfl ?_
  refine Bn rfl rfl rfl (BJ (hc:=fun w' ⟨O',hq⟩=>Blk.cell (i:=1) ((l1.st hq (by decide)).1) rfl) rfl rfl rfl ?_)
  refine CE rfl rfl rfl rfl ?_
  refine Ax ?_
  refine AL (fuel:=6) [3,6] [(0,true)] (by kernel_rfl) rfl ?_
  refine Bo rfl rfl rfl (Ax ?_)
  refine Ed (i:=3) (j:=12) (by kernel_rfl) rfl rfl ?_ ?_
  ·
   replace h8:=(((((h8.st b1).st c1).st k0).st y0).st z0).st d1
   replace c0:=(((((c0.st b1).st c1).st k0).st y0).st z0).st d1
   replace d0:=(((((d0.st b1).st c1).st k0).st y0).st z0).st d1
   replace e0:=(((((e0.st b1).st c1).st k0).st y0).st z0).st d1
   refine AI (O:=v2) (A:=All w3) (R:=fun w' F v=>Vb w' F v m1) (DC (fun _ h=>h) (Vb.mono (F:=Fr 0 w3 v2) (Vb.ofAgg (cs:=[(.slice A9 x0.vars.length q1),(.slice r1 x0.init.length s1),(.slice t1 x0.goal.length u1),(.slice w1 x0.jobs.length y1)]) (x:=x0) rfl ⟨_,_,_,_,rfl,h8,c0,d0,e0⟩) Fr.lt) (Vb.mono (F:=Fr 0 w3 v2) (Vb.ofAgg (cs:=[(.int .i64 b0.tm),(.int .i64 b0.job)]) (x:=b0) rfl ⟨rfl,u2,n1⟩) Fr.lt) w2) rfl rfl fun n5 d2 p1 a0 x3=>?_
   obtain ⟨rfl,o5⟩:=x3.int
   have hZ:=a0.lst [] (fun _ h=>h.elim)
   refine AE [(13,[3,6])] hZ (by kernel_rfl) ?_
   refine Ed (i:=7) (j:=12) (by kernel_rfl) rfl rfl ?_ ?_
   ·
    replace h8:=h8.st a0
    replace c0:=c0.st a0
    replace d0:=d0.st a0
    replace e0:=e0.st a0
    refine AI (O:=p1) (A:=All d2) (R:=fun w' F v=>Vb w' F v m1) (DC (fun _ h=>h) (Vb.mono (F:=Fr 0 d2 p1) (Vb.ofAgg (cs:=[(.slice A9 x0.vars.length q1),(.slice r1 x0.init.length s1),(.slice t1 x0.goal.length u1),(.slice w1 x0.jobs.length y1)]) (x:=x0) rfl ⟨_,_,_,_,rfl,h8,c0,d0,e0⟩) Fr.lt) (Vb.mono (F:=Fr 0 d2 p1) (Vb.ofAgg (cs:=[(.int .i64 b0.tm),(.int .i64 b0.job)]) (x:=b0) rfl ⟨rfl,u2,n1⟩) Fr.lt) w2) rfl rfl fun p5 q5 y3 n0 z3=>?_
    obtain ⟨rfl,r5⟩:=z3.int
    have hZ:=n0.lst [] (fun _ h=>h.elim)
    refine AE [(13,[3,6])] hZ (by kernel_rfl) ?_
    refine AL (fuel:=3) [] [(8,true)] (by kernel_rfl) rfl ?_
    replace a1:=(a1.st a0).st n0
    obtain ⟨s5,t5,k1,x2⟩:=MapR.get a1 m1
    refine Qt m1 (fun w' ⟨O',hq⟩=>k1.keep (hq.agree (i:=3) (by decide) _ (MapR.at a1))) rfl rfl rfl rfl ?_
    refine Ax ?_
    refine Aw (i:=12) (by kernel_rfl) rfl ?_
    refine AN 7 (by decide) y3 (xs:=([(⟨b0.job,true⟩:Hap)]:List Hap)) rfl rfl rfl rfl ⟨(Vb.ofAgg (cs:=[(.int .i64 b0.job),(.bool true)]) (x:=(⟨b0.job,true⟩:Hap)) rfl ⟨rfl,n1⟩),trivial⟩ (by decide) (by decide) rfl fun u5 w5 x5 f0 e2=>?_
    have hZ:=f0.lst [] (fun _ h=>h.elim)
    replace k1:=k1.keep (f0.agree (i:=3) id _ (MapR.at a1))
    replace x2:=x2.stS f0 id (fun _ _=>id)
    refine AE [(13,[3,6])] hZ (by kernel_rfl) ?_
    refine Aw (i:=13) (by kernel_rfl) rfl ?_
    replace a1:=a1.st f0
    obtain ⟨y5,o0,f2,a4⟩:=MapR.take a1 k1 6 (by decide) (by decide)
    have hZ:=o0.lst [3] (fun _ h=>by cases h;decide)
    obtain ⟨m0,b4,c4⟩:=AP m0
    replace e2:=e2.st o0
    refine BA rfl a4 (e2.rd) rfl rfl (by decide) b4 c4 rfl fun z5 a6 b6 c6 p0 y2=>?_
    rw [← m0] at y2 ⊢
    replace hZ:=hZ.cmp p0 [3,6] (fun _ h=>by cases h;decide) rfl
    refine AE [] hZ (by kernel_rfl) ?_
    refine Aw (i:=14) (by kernel_rfl) rfl ?_
    replace f2:=f2.st p0
    refine Lm f2 y2 (by decide) rfl rfl rfl fun d6 e6 f1 d4=>?_
    refine BL (by kernel_rfl) ?_
    refine BF (by kernel_rfl) ?_
    obtain rfl:=sm l0
    exact show Exists _ from ⟨_,(),rfl,⟨rfl,rfl,rfl,rfl,rfl,trivial⟩,_,(((((((((((hB.st b1).st c1).st k0).st y0).st z0).st d1).st a0).st n0).st f0).st o0).st p0).st f1,(((((j1.st a0).st n0).st f0).st o0).st p0).st f1,((((h8.st n0).st f0).st o0).st p0).st f1,((((c0.st n0).st f0).st o0).st p0).st f1,((((d0.st n0).st f0).st o0).st p0).st f1,((((e0.st n0).st f0).st o0).st p0).st f1,d4,(((((((((((i1.st b1).st c1).st k0).st y0).st z0).st d1).st a0).st n0).st f0).st o0).st p0).st f1⟩
   refine AN 7 (by decide) p1 (xs:=([(⟨b0.job,true⟩:Hap)]:List Hap)) rfl rfl rfl rfl ⟨(Vb.ofAgg (cs:=[(.int .i64 b0.job),(.bool true)]) (x:=(⟨b0.job,true⟩:Hap)) rfl ⟨rfl,n1⟩),trivial⟩ (by decide) (by decide) rfl fun f6 g2 h2 q0 i2=>?_
   have hZ:=q0.lst [] (fun _ h=>h.elim)
   refine AE [(13,[3,6])] hZ (by kernel_rfl) ?_
   refine Aw (i:=7) (by kernel_rfl) rfl ?_
   replace h8:=(h8.st a0).st q0
   replace c0:=(c0.st a0).st q0
   replace d0:=(d0.st a0).st q0
   replace e0:=(e0.st a0).st q0
   refine AI (O:=h2) (A:=All g2) (R:=fun w' F v=>Vb w' F v m1) (DC (fun _ h=>h) (Vb.mono (F:=Fr 0 g2 h2) (Vb.ofAgg (cs:=[(.slice A9 x0.vars.length q1),(.slice r1 x0.init.length s1),(.slice t1 x0.goal.length u1),(.slice w1 x0.jobs.length y1)]) (x:=x0) rfl ⟨_,_,_,_,rfl,h8,c0,d0,e0⟩) Fr.lt) (Vb.mono (F:=Fr 0 g2 h2) (Vb.ofAgg (cs:=[(.int .i64 b0.tm),(.int .i64 b0.job)]) (x:=b0) rfl ⟨rfl,u2,n1⟩) Fr.lt) w2) rfl rfl fun g6 h6 i6 g0 e4=>?_
   obtain ⟨rfl,j6⟩:=e4.int
   have hZ:=g0.lst [] (fun _ h=>h.elim)
   refine AE [(13,[3,6])] hZ (by kernel_rfl) ?_
   refine AL (fuel:=2) [] [(8,true)] (by kernel_rfl) rfl ?_
   replace a1:=((a1.st a0).st q0).st g0
   obtain ⟨k6,l6,a2,m6⟩:=MapR.get a1 m1
   refine Qt m1 (fun w' ⟨O',hq⟩=>a2.keep (hq.agree (i:=3) (by decide) _ (MapR.at a1))) rfl rfl rfl rfl ?_
   refine Ax ?_
   refine Aw (i:=13) (by kernel_rfl) rfl ?_
   obtain ⟨n6,r0,j2,f4⟩:=MapR.take a1 a2 6 (by decide) (by decide)
   have hZ:=r0.lst [3] (fun _ h=>by cases h;decide)
   obtain ⟨m0,g4,h4⟩:=AP m0
   replace i2:=(i2.st g0).st r0
   refine BA rfl f4 (i2.rd) rfl rfl (by decide) g4 h4 rfl fun o6 p6 q6 r6 s0 z2=>?_
   rw [← m0] at z2 ⊢
   replace hZ:=hZ.cmp s0 [3,6] (fun _ h=>by cases h;decide) rfl
   refine AE [] hZ (by kernel_rfl) ?_
   refine Aw (i:=14) (by kernel_rfl) rfl ?_
   replace j2:=j2.st s0
   refine Lm j2 z2 (by decide) rfl rfl rfl fun s6 t6 g1 i4=>?_
   refine BL (by kernel_rfl) ?_
   refine BF (by kernel_rfl) ?_
   obtain rfl:=sm l0
   exact show Exists _ from ⟨_,(),rfl,⟨rfl,rfl,rfl,rfl,rfl,trivial⟩,_,(((((((((((hB.st b1).st c1).st k0).st y0).st z0).st d1).st a0).st q0).st g0).st r0).st s0).st g1,(((((j1.st a0).st q0).st g0).st r0).st s0).st g1,(((h8.st g0).st r0).st s0).st g1,(((c0.st g0).st r0).st s0).st g1,(((d0.st g0).st r0).st s0).st g1,(((e0.st g0).st r0).st s0).st g1,i4,(((((((((((i1.st b1).st c1).st k0).st y0).st z0).st d1).st a0).st q0).st g0).st r0).st s0).st g1⟩
  refine AN 7 (by decide) v2 (xs:=([(⟨b0.job,true⟩:Hap)]:List Hap)) rfl rfl rfl rfl ⟨(Vb.ofAgg (cs:=[(.int .i64 b0.job),(.bool true)]) (x:=(⟨b0.job,true⟩:Hap)) rfl ⟨rfl,n1⟩),trivial⟩ (by decide) (by decide) rfl fun u6 k2 l2 t0 m2=>?_
  have hZ:=t0.lst [] (fun _ h=>h.elim)
  refine AE [(13,[3,6])] hZ (by kernel_rfl) ?_
  refine Aw (i:=3) (by kernel_rfl) rfl ?_
  replace h8:=((((((h8.st b1).st c1).st k0).st y0).st z0).st d1).st t0
  replace c0:=((((((c0.st b1).st c1).st k0).st y0).st z0).st d1).st t0
  replace d0:=((((((d0.st b1).st c1).st k0).st y0).st z0).st d1).st t0
  replace e0:=((((((e0.st b1).st c1).st k0).st y0).st z0).st d1).st t0
  refine AI (O:=l2) (A:=All k2) (R:=fun w' F v=>Vb w' F v m1) (DC (fun _ h=>h) (Vb.mono (F:=Fr 0 k2 l2) (Vb.ofAgg (cs:=[(.slice A9 x0.vars.length q1),(.slice r1 x0.init.length s1),(.slice t1 x0.goal.length u1),(.slice w1 x0.jobs.length y1)]) (x:=x0) rfl ⟨_,_,_,_,rfl,h8,c0,d0,e0⟩) Fr.lt) (Vb.mono (F:=Fr 0 k2 l2) (Vb.ofAgg (cs:=[(.int .i64 b0.tm),(.int .i64 b0.job)]) (x:=b0) rfl ⟨rfl,u2,n1⟩) Fr.lt) w2) rfl rfl fun w6 n2 o2 h0 j4=>?_
  obtain ⟨rfl,x6⟩:=j4.int
  have hZ:=h0.lst [] (fun _ h=>h.elim)
  refine AE [(13,[3,6])] hZ (by kernel_rfl) ?_
  refine Aw (i:=7) (by kernel_rfl) rfl ?_
  replace h8:=h8.st h0
  replace c0:=c0.st h0
  replace d0:=d0.st h0
  replace e0:=e0.st h0
  refine AI (O:=o2) (A:=All n2) (R:=fun w' F v=>Vb w' F v m1) (DC (fun _ h=>h) (Vb.mono (F:=Fr 0 n2 o2) (Vb.ofAgg (cs:=[(.slice A9 x0.vars.length q1),(.slice r1 x0.init.length s1),(.slice t1 x0.goal.length u1),(.slice w1 x0.jobs.length y1)]) (x:=x0) rfl ⟨_,_,_,_,rfl,h8,c0,d0,e0⟩) Fr.lt) (Vb.mono (F:=Fr 0 n2 o2) (Vb.ofAgg (cs:=[(.int .i64 b0.tm),(.int .i64 b0.job)]) (x:=b0) rfl ⟨rfl,u2,n1⟩) Fr.lt) w2) rfl rfl fun y6 z6 a7 i0 k4=>?_
  obtain ⟨rfl,b7⟩:=k4.int
  have hZ:=i0.lst [] (fun _ h=>h.elim)
  refine AE [(13,[3,6])] hZ (by kernel_rfl) ?_
  refine AL (fuel:=2) [] [(8,true)] (by kernel_rfl) rfl ?_
  replace a1:=((a1.st t0).st h0).st i0
  obtain ⟨c7,d7,b2,e7⟩:=MapR.get a1 m1
  refine Qt m1 (fun w' ⟨O',hq⟩=>b2.keep (hq.agree (i:=3) (by decide) _ (MapR.at a1))) rfl rfl rfl rfl ?_
  refine Ax ?_
  refine Aw (i:=13) (by kernel_rfl) rfl ?_
  obtain ⟨f7,u0,p2,l4⟩:=MapR.take a1 b2 6 (by decide) (by decide)
  have hZ:=u0.lst [3] (fun _ h=>by cases h;decide)
  obtain ⟨m0,m4,n4⟩:=AP m0
  replace m2:=((m2.st h0).st i0).st u0
  refine BA rfl l4 (m2.rd) rfl rfl (by decide) m4 n4 rfl fun g7 h7 i7 j7 w0 a3=>?_
  rw [← m0] at a3 ⊢
  replace hZ:=hZ.cmp w0 [3,6] (fun _ h=>by cases h;decide) rfl
  refine AE [] hZ (by kernel_rfl) ?_
  refine Aw (i:=14) (by kernel_rfl) rfl ?_
  replace p2:=p2.st w0
  refine Lm p2 a3 (by decide) rfl rfl rfl fun k7 l7 h1 o4=>?_
  refine BL (by kernel_rfl) ?_
  refine BF (by kernel_rfl) ?_
  obtain rfl:=sm l0
  exact show Exists _ from ⟨_,(),rfl,⟨rfl,rfl,rfl,rfl,rfl,trivial⟩,_,(((((((((((hB.st b1).st c1).st k0).st y0).st z0).st d1).st t0).st h0).st i0).st u0).st w0).st h1,(((((j1.st t0).st h0).st i0).st u0).st w0).st h1,(((h8.st i0).st u0).st w0).st h1,(((c0.st i0).st u0).st w0).st h1,(((d0.st i0).st u0).st w0).st h1,(((e0.st i0).st u0).st w0).st h1,o4,(((((((((((i1.st b1).st c1).st k0).st y0).st z0).st d1).st t0).st h0).st i0).st u0).st w0).st h1⟩
 replace hB:=(hB.st c2).st z1
 rintro m7 n7 ⟨o7,p7,rfl,b3,q7,hB,e1⟩
 replace hm:=AW hm
 refine AF _ b3 ?_
 refine Ab (Aa (Al rfl rfl (o_z ?_)))
 refine Ab ?_
 obtain ⟨r7,p4,hm⟩:=bs hm
 obtain ⟨q4,rfl⟩:=Qw p4
 refine QZ (q:=8) (j:=10) e1 q4 (by decide) (by decide) (by decide) (by decide) (by decide) rfl rfl (h:=fun s7 t7 u7 w7 r4 x7 c3 d3 s4 e3=>?_)
 rw [Ra c3] at hm
 refine AF _ e3 ?_
 refine Ab (Aa (Ak rfl rfl ?_))
 obtain ⟨y7,t4,hm⟩:=bs hm
 refine Ni (O:=r4) (Je s4 t4) rfl rfl fun z7 a8 b8 f3 q2=>?_
 refine o_z ?_
 refine Ab (Aa (Ak rfl rfl (Ak rfl rfl (Al rfl rfl (Al rfl rfl (o_z ?_))))))
 refine AD ?_
 obtain ⟨c8,g3,q2⟩:=q2.freeze
 obtain rfl:=sm hm
 replace hB:=((hB.st d3).st f3).st g3
 obtain ⟨O',hS',hz,hl⟩:=hE.leave (fun q=>if q=3 then j0 else 0) rfl hB
 replace e1:=((e1.st d3).st f3).st g3
 exact ret2 rfl (At rfl) (At rfl) ⟨O',hS',_,_,rfl,(Ob.leave e1 hz (hl 3 (by decide) (by decide)) hj0),(Vb.mono q2 hz)⟩
noncomputable def Cu (x0:Tpl) (x1:List Lch):Option (Int×Err) :=
  bnd (CT x0 x1) fun q27=>if q27.n≠0 then (some (0,(⟨q27.n⟩:Err))) else (bnd (Cc x0 x1) fun q36=>bnd (rng (ρ:=Int×Err) (fun (k58:Nat) (a59:Int) (s56:(List Int))=>bnd (Da x0 x1 a59 s56 (mget ([]:List Hap) q36.1.l a59)) fun q83=>if q83.2.n≠0 then (some (.ret (0,(⟨q83.2.n⟩:Err)))) else (some (.next q83.1))) q36.2 0 x0.init) fun res54=>fin res54 fun (s102:(List Int))=>bnd (Cn x0.goal s102) fun q104=>if q104=true then bnd (CK x0 x1) fun q111=>some (q111,(⟨0⟩:Err)) else some (0,(⟨13⟩:Err)))
theorem Kx {w:World} {A:Nat→Prop} (hA:∀ k,A k→k < w.heap.size) {vx0:Value} {x0:Tpl} (n1:Vb w A vx0 x0) {vx1:Value} {x1:List Lch} (a0:Vb w A vx1 x1) {r:Int×Err} (hm:Cu x0 x1=some r) :
    Fn Tryz.prog 23 [vx0,vx1] w fun v w'=>Ext w w'∧T2 w' (upA A w w') v r:=by
 obtain ⟨O,hB,g2⟩:=enter hA
 replace n1:=n1.mono g2
 obtain ⟨n3,rfl,v4,v5,v6,v7,rfl,h8,b0,c0,e0⟩:=n1
 obtain ⟨A9,p0,rfl⟩:=h8.form
 obtain ⟨k0,l0,rfl⟩:=b0.form
 obtain ⟨q0,r0,rfl⟩:=c0.form
 obtain ⟨s0,t0,rfl⟩:=e0.form
 replace a0:=a0.mono g2
 obtain ⟨j1,k1,rfl⟩:=a0.form
 refine AH Tryz.func23 rfl Tryz.ntmps23 rfl ?_
 unfold Cu at hm
 refine Ab (Aa (Cd 2 O rfl rfl fun d1 l1 m1 v0 d0=>?_))
 replace d0:Lc 2 l1 m1 d1 26 [(.slice A9 x0.vars.length p0),(.slice k0 x0.init.length l0),(.slice q0 x0.goal.length r0),(.slice s0 x0.jobs.length t0)]:=d0
 refine Al rfl rfl (Al rfl rfl (o_z ?_))
 refine Ab (Ab (Aa (Bv (hl:=rfl) (hc:=(d0.1).cellsAt) rfl rfl ?_)))
 refine Ak rfl rfl ?_
 obtain ⟨m2,n2,hm⟩:=bs hm
 replace a0:=a0.st v0
 replace h8:=h8.st v0
 replace b0:=b0.st v0
 replace c0:=c0.st v0
 replace e0:=e0.st v0
 refine AI (O:=m1) (A:=All l1) (R:=fun w' F v=>Vb w' F v m2) (Lr (fun _ h=>h) (Vb.mono (F:=Fr 0 l1 m1) (Vb.ofAgg (cs:=[(.slice A9 x0.vars.length p0),(.slice k0 x0.init.length l0),(.slice q0 x0.goal.length r0),(.slice s0 x0.jobs.length t0)]) (x:=x0) rfl ⟨_,_,_,_,rfl,h8,b0,c0,e0⟩) Fr.lt) (Vb.mono (F:=Fr 0 l1 m1) a0 Fr.lt) n2) rfl rfl fun o3 p3 o2 u0 p2=>?_
 obtain ⟨rfl,q2⟩:=p2.err
 refine Al rfl rfl (o_z ?_)
 refine Ab (Aa (Ak rfl rfl (Gf rfl rfl (fun o1=>?_) fun o1=>?_)))
 ·
  replace hm:=ip hm o1
  refine o_z ?_
  refine Aj rfl (Ab (Aa (Ak rfl rfl (Al rfl rfl (Al rfl rfl (o_z ?_))))))
  refine AD ?_
  obtain rfl:=sm hm
  replace hB:=(hB.st v0).st u0
  exact ret2 rfl (At rfl) (At rfl) ⟨hB.ext,_,_,rfl,(vInt (show inI64 (0) from by decide)),(vErr q2)⟩
 replace hm:=im hm o1
 refine o_z ?_
 refine Ah rfl (AM (Ab (Aa (AC rfl rfl ?_))))
 replace d0:=d0.st u0
 refine AA (hc:=Blk.cell (i:=1) (d0.1) rfl) rfl rfl ?_
 refine Al rfl rfl (o_z ?_)
 refine Ab (Aa (Bv (hl:=rfl) (hc:=(d0.1).cellsAt) rfl rfl ?_))
 refine Ak rfl rfl ?_
 obtain ⟨y0,r2,hm⟩:=bs hm
 replace a0:=a0.st u0
 replace h8:=h8.st u0
 replace b0:=b0.st u0
 replace c0:=c0.st u0
 replace e0:=e0.st u0
 refine Ni (O:=o2) (Jy (Vb.ofAgg (cs:=[(.slice A9 x0.vars.length p0),(.slice k0 x0.init.length l0),(.slice q0 x0.goal.length r0),(.slice s0 x0.jobs.length t0)]) (x:=x0) rfl ⟨_,_,_,_,rfl,h8,b0,c0,e0⟩) a0 3 (by decide) r2) rfl rfl fun q3 r3 s3 i0 s2=>?_
 obtain ⟨t3,u3,rfl,w0,m0⟩:=s2
 obtain ⟨h2,rfl⟩:=w0.mptr
 obtain ⟨i2,j2,rfl⟩:=m0.form
 obtain ⟨t2,h0,w0⟩:=MapR.freeze w0
 refine Ak rfl rfl (Db rfl rfl rfl (Db rfl rfl rfl (Al rfl rfl (Al rfl rfl (o_z ?_)))))
 refine Ab (Ab (Aa (Ak rfl rfl (AV rfl rfl ?_))))
 replace m0:=m0.st h0
 have p1:y0.2.length≤9223372036854775807:=Nat.le_trans m0.len.2.1 m0.len.2.2
 have v3:inI64 (y0.2.length:Int):=rngNat p1
 refine Ak rfl rfl (o_z ?_)
 obtain ⟨e1,q1,hm⟩:=bs hm
 refine Az (aft e1 (fun (n0:(List Int)) (j0:(Option Addr×Nat))=>[(1,(.slice j1 x1.length k1)),(2,(.pointer (some ⟨d1,0,none⟩))),(7,(.slice j0.1 n0.length j0.2))]) (fun n0 j0 w'=>∃ O':Lab,Bs w A w' O'∧Vb w' (Fr 0 w' O') (.slice j1 x1.length k1) x1∧Lc 2 w' O' d1 26 [(.slice A9 x0.vars.length p0),(.slice k0 x0.init.length l0),(.slice q0 x0.goal.length r0),(.slice s0 x0.jobs.length t0)]∧Vb w' (Fr 0 w' O') (.slice A9 x0.vars.length p0) x0.vars∧Vb w' (Fr 0 w' O') (.slice k0 x0.init.length l0) x0.init∧Vb w' (Fr 0 w' O') (.slice q0 x0.goal.length r0) x0.goal∧Vb w' (Fr 0 w' O') (.slice s0 x0.jobs.length t0) x0.jobs∧Vb w' (Fr 0 w' O') (.slice j0.1 n0.length j0.2) n0)) ?_ ?_
 ·
  refine AK ?_
  replace hB:=(((hB.st v0).st u0).st i0).st h0
  replace a0:=(a0.st i0).st h0
  replace h8:=(h8.st i0).st h0
  replace b0:=(b0.st i0).st h0
  replace c0:=(c0.st i0).st h0
  replace e0:=(e0.st i0).st h0
  replace d0:=(d0.st i0).st h0
  refine Bq (σ:=(List Int)) (X:=(Option Addr×Nat)) (y0.2.length) q1 rfl p1 (fun (n0:(List Int)) (j0:(Option Addr×Nat))=>[(1,(.slice j1 x1.length k1)),(2,(.pointer (some ⟨d1,0,none⟩))),(7,(.slice j0.1 n0.length j0.2)),(8,(.map (some h2))),(28,(.slice i2 y0.2.length j2))]) _ (fun n0 j0 w'=>∃ O':Lab,Bs w A w' O'∧Vb w' (Fr 0 w' O') (.slice j1 x1.length k1) x1∧Lc 2 w' O' d1 26 [(.slice A9 x0.vars.length p0),(.slice k0 x0.init.length l0),(.slice q0 x0.goal.length r0),(.slice s0 x0.jobs.length t0)]∧Vb w' (Fr 0 w' O') (.slice A9 x0.vars.length p0) x0.vars∧Vb w' (Fr 0 w' O') (.slice k0 x0.init.length l0) x0.init∧Vb w' (Fr 0 w' O') (.slice q0 x0.goal.length r0) x0.goal∧Vb w' (Fr 0 w' O') (.slice s0 x0.jobs.length t0) x0.jobs∧Vb w' (Fr 0 w' O') (.slice j0.1 n0.length j0.2) n0∧MapZ w' O' h2 182 y0.1∧Vb w' (Fr 0 w' O') (.slice i2 y0.2.length j2) y0.2) _ (k0,l0) ⟨t2,hB,a0,d0,h8,b0,c0,e0,b0,w0,m0⟩ ⟨rfl,rfl,rfl,rfl,rfl,rfl,rfl,trivial⟩ (fun _ _=>⟨rfl,rfl⟩) (fun _ _=>⟨rfl,rfl,rfl,trivial⟩) (fun _ _ _ ⟨O',hB,a0,d0,h8,b0,c0,e0,f1,w0,m0⟩=>⟨O',hB,a0,d0,h8,b0,c0,e0,f1⟩) ⟨rfl,rfl,rfl⟩ ⟨rfl,rfl⟩ ?_
  rintro u2 k2 n0 j0 w3 v2 g1 ⟨w2,hB,a0,d0,h8,b0,c0,e0,f1,w0,m0⟩ f0 z0 r1
  have rk58:inI64 (u2:Int):=rngK g1 p1
  refine Ab (Aa ?_)
  obtain ⟨x3,y3,x2,s1,t1,u1,rfl,y2⟩:=m0.elem' g1
  refine BB (hA:=s1) (hj:=rfl) (hlt:=t1) rfl rfl rfl ?_
  refine AA (hc:=cat0 u1) rfl rfl ?_
  refine Al rfl rfl (o_z ?_)
  refine Ab (Aa (Bv (hl:=rfl) (hc:=(d0.1).cellsAt) rfl rfl ?_))
  refine Ak rfl rfl (Ak rfl rfl (Ak rfl rfl (Ak rfl rfl (Ak rfl rfl ?_))))
  obtain ⟨z3,a4,v1,z2⟩:=MapZ.get w0 k2
  refine Vq k2 v1 rfl rfl rfl ?_
  obtain ⟨a3,b3,f0⟩:=bs f0
  refine Ce (O:=w2) (R:=fun w' F v=>T2 w' F v a3) (ML Fr.lt (Vb.ofAgg (cs:=[(.slice A9 x0.vars.length p0),(.slice k0 x0.init.length l0),(.slice q0 x0.goal.length r0),(.slice s0 x0.jobs.length t0)]) (x:=x0) rfl ⟨_,_,_,_,rfl,h8,b0,c0,e0⟩) a0 y2 f1 z2 b3) rfl rfl fun b4 c4 d4 o0 c3=>?_
  obtain ⟨e4,f4,rfl,l2,d3⟩:=c3
  obtain ⟨e3,f3,rfl⟩:=l2.form
  obtain ⟨rfl,g3⟩:=d3.err
  refine Ak rfl rfl (Db rfl rfl rfl (Db rfl rfl rfl (Al rfl rfl (Al rfl rfl (o_z ?_)))))
  refine Ab (Ab (Aa (Ak rfl rfl (Gf rfl rfl (fun w1=>?_) fun w1=>?_))))
  ·
   replace f0:=ip f0 w1
   refine o_z ?_
   refine Aj rfl (Ab (Aa (Ak rfl rfl (Al rfl rfl (Al rfl rfl (o_z ?_))))))
   refine AD ?_
   obtain rfl:=sm f0
   obtain rfl:=z0 _ rfl
   obtain rfl:=sm (CF hm)
   replace hB:=hB.st o0
   exact ret2 rfl (At rfl) (At rfl) ⟨hB.ext,_,_,rfl,(vInt (show inI64 (0) from by decide)),(vErr g3)⟩
  replace f0:=im f0 w1
  refine o_z ?_
  refine Ah rfl (AM (Aa (Ak rfl rfl (Al rfl rfl (o_z ?_)))))
  obtain rfl:=sm f0
  exact show Exists _ from ⟨_,(e3,f3),rfl,⟨rfl,rfl,rfl,rfl,rfl,rfl,rfl,trivial⟩,_,hB.st o0,a0.st o0,d0.st o0,h8.st o0,b0.st o0,c0.st o0,e0.st o0,l2,w0.st o0,m0.st o0⟩
 replace hB:=(((hB.st v0).st u0).st i0).st h0
 replace a0:=(a0.st i0).st h0
 replace h8:=(h8.st i0).st h0
 replace b0:=(b0.st i0).st h0
 replace c0:=(c0.st i0).st h0
 replace e0:=(e0.st i0).st h0
 replace d0:=(d0.st i0).st h0
 rintro g4 y1 ⟨h3,i3,rfl,h1,a1,hB,a0,d0,h8,b0,c0,e0,f1⟩
 replace hm:=AW hm
 refine AF _ h1 ?_
 refine Ab (Ab (Aa (AC rfl rfl (AA (hc:=Blk.cell (i:=2) (d0.1) rfl) rfl rfl ?_))))
 refine Ak rfl rfl ?_
 obtain ⟨i1,z1,hm⟩:=bs hm
 refine AI (O:=a1) (A:=All y1) (R:=fun w' F v=>Vb w' F v i1) (Gl (fun _ h=>h) (Vb.mono (F:=Fr 0 y1 a1) c0 Fr.lt) (Vb.mono (F:=Fr 0 y1 a1) f1 Fr.lt) z1) rfl rfl fun j3 b1 c1 g0 a2=>?_
 obtain rfl:=a2.bool
 cases i1
 case false =>
  replace hm:=iF hm
  refine Fu rfl rfl (o_z ?_)
  refine Aj rfl (Ab (Aa (EY rfl rfl ?_)))
  refine Al rfl rfl (Al rfl rfl (o_z ?_))
  refine AD ?_
  obtain rfl:=sm hm
  replace hB:=hB.st g0
  exact ret2 rfl (At rfl) (At rfl) ⟨hB.ext,_,_,rfl,(vInt (show inI64 (0) from by decide)),(vErr (by decide))⟩
 replace hm:=iT hm
 refine Ft rfl rfl (o_z ?_)
 refine Ah rfl (AM (Ab (Aa ?_)))
 replace d0:=d0.st g0
 refine Bv (hl:=rfl) (hc:=(d0.1).cellsAt) rfl rfl ?_
 refine Ak rfl rfl ?_
 obtain ⟨b2,c2,hm⟩:=bs hm
 replace a0:=a0.st g0
 replace h8:=h8.st g0
 replace b0:=b0.st g0
 replace c0:=c0.st g0
 replace e0:=e0.st g0
 refine AI (O:=c1) (A:=All b1) (R:=fun w' F v=>Vb w' F v b2) (Kw (fun _ h=>h) (Vb.mono (F:=Fr 0 b1 c1) (Vb.ofAgg (cs:=[(.slice A9 x0.vars.length p0),(.slice k0 x0.init.length l0),(.slice q0 x0.goal.length r0),(.slice s0 x0.jobs.length t0)]) (x:=x0) rfl ⟨_,_,_,_,rfl,h8,b0,c0,e0⟩) Fr.lt) (Vb.mono (F:=Fr 0 b1 c1) a0 Fr.lt) c2) rfl rfl fun k3 l3 m3 d2 e2=>?_
 obtain ⟨rfl,f2⟩:=e2.int
 refine Al rfl rfl (Al rfl rfl (o_z ?_))
 refine AD ?_
 obtain rfl:=sm hm
 replace hB:=(hB.st g0).st d2
 exact ret2 rfl (At rfl) (At rfl) ⟨hB.ext,_,_,rfl,(vInt f2),(vErr (show inI64 0 from by decide))⟩
noncomputable def CH (x0:Tpl) (x1:Lch):Option Int :=
  bnd (atI x0.jobs x1.job) fun a33=>bnd (chkI (x1.tm + a33.dur)) fun n66=>some n66
noncomputable def ID (x0:Tpl) (x1:List Lch):Option Int :=
  bnd (rng (ρ:=Int) (fun (k33:Nat) (a34:Lch) (s31:Int)=>bnd (CH x0 a34) fun q62=>some (.next (max s31 q62))) x1 0 0) fun res29=>fin res29 fun (s74:Int)=>some s74
noncomputable def If (x0:Tpl) (x1:List Lch) (x2:Int):Option (List Hp5) :=
  bnd (rng (ρ:=(List Hp5)) (fun (k40:Nat) (a41:Bool) (s38:(List Hp5))=>bnd (rng (ρ:=Ctl (List Hp5) (List Hp5)) (fun (k68:Nat) (a69:Job) (s66:(List Hp5)×Bool)=>bnd (rng (ρ:=Ctl ((List Hp5)×Bool) (Ctl (List Hp5) (List Hp5))) (fun (k89:Nat) (a90:Lch) (s87:(List Hp5)×Bool)=>bnd (if a90.job=(k68:Int) then (if s87.2=true then (bnd (CH x0 a90) fun q126=>if q126=x2 then (some (true,true)) else (some (true,false))) else (if a90.tm=x2 then (some (false,true)) else (some (false,false)))) else (some (s87.2,false)):Option (Bool×Bool)) fun y120=>if y120.2=true then (bnd (appI 16 s87.1 [(⟨(k89:Int),y120.1⟩:Hp5)]) fun u141=>some (.next (u141,y120.1))) else (some (.next (s87.1,y120.1)))) x1 0 (s66.1,s66.2)) fun res85=>fin res85 fun (s157:(List Hp5)×Bool)=>some (.next (s157.1,s157.2))) x0.jobs 0 (s38,a41)) fun res64=>fin res64 fun (s163:(List Hp5)×Bool)=>some (.next s163.1)) [true,false] 0 ([]:List Hp5)) fun res36=>fin res36 fun (s169:(List Hp5))=>some s169
end
section
open Go Go.RowKit
theorem PN {α ρ:Type} {f:Nat→α→Unit→Option (Ctl Unit ρ)} (P:Nat→α→Prop) (c:ρ):∀ (xs:List α) (k0:Nat),(∀ k a,xs[k]?=some a→(P (k0 + k) a∧f (k0 + k) a ()=some (.ret c))∨(¬ P (k0 + k) a∧f (k0 + k) a ()=some (.next ()))) →
    ((∃ k a,xs[k]?=some a∧P (k0 + k) a)∧rng f xs k0 ()=some (.ret c))∨((∀ k a,xs[k]?=some a→¬ P (k0 + k) a)∧rng f xs k0 ()=some (.done ()))
  | [],k0,_=>.inr ⟨fun k a h=>by simp at h,rfl⟩
  | x :: xs,k0,h=>by
    rcases h 0 x rfl with ⟨h1,h2⟩|⟨h1,h2⟩
    · exact .inl ⟨⟨0,x,rfl,h1⟩,by rw [Nat.add_zero] at h2;rw [rng,h2]⟩
    · rw [Nat.add_zero] at h2
      have ih:=PN P c xs (k0 + 1) fun k a hk=>by
        have:=h (k + 1) a (by simpa using hk)
        rwa [show k0 + (k + 1)=k0 + 1 + k from by omega] at this
      rcases ih with ⟨⟨k,a,g1,g2⟩,g3⟩|⟨g1,g2⟩
      · exact .inl ⟨⟨k + 1,a,by simpa using g1,by rwa [show k0 + (k + 1)=k0 + 1 + k from by omega]⟩,by rw [rng,h2];exact g3⟩
      · refine .inr ⟨fun k a hk=>?_,by rw [rng,h2];exact g2⟩
        cases k with
        | zero=>simp at hk;subst hk;exact h1
        | succ k=>rw [show k0 + (k + 1)=k0 + 1 + k from by omega];exact g1 k a (by simpa using hk)
theorem Gv {α ρ:Type} {f:Nat→α→Unit→Option (Ctl Unit ρ)} (P:Nat→α→Prop) (c:ρ) {xs:List α} (h:∀ k a,xs[k]?=some a→(P k a∧f k a ()=some (.ret c))∨(¬ P k a∧f k a ()=some (.next ()))) :
    ((∃ k a,xs[k]?=some a∧P k a)∧rng f xs 0 ()=some (.ret c))∨((∀ k a,xs[k]?=some a→¬ P k a)∧rng f xs 0 ()=some (.done ())):=by
  have:=PN (f:=f) P c xs 0 fun k a hk=>by rw [Nat.zero_add];exact h k a hk
  simpa only [Nat.zero_add] using this
def meetB (a b:List Fct):Bool:=a.any fun x=>b.any fun y=>decide (x.var=y.var)
theorem KT {a b:List Fct}:meetB a b=true↔∃ v,hasV a v=true∧hasV b v=true:=by
  unfold meetB
  rw [List.any_eq_true]
  constructor
  · rintro ⟨x,hx,h⟩
    rw [List.any_eq_true] at h
    obtain ⟨y,hy,e⟩:=h
    exact ⟨x.var,Gr.2 ⟨x,hx,rfl⟩,Gr.2 ⟨y,hy,(of_decide_eq_true e).symm⟩⟩
  · rintro ⟨v,h1,h2⟩
    obtain ⟨x,hx,rfl⟩:=Gr.1 h1
    obtain ⟨y,hy,e⟩:=Gr.1 h2
    exact ⟨x,hx,List.any_eq_true.2 ⟨y,hy,decide_eq_true e.symm⟩⟩
theorem PO (b:Bool):(if b=true then some true else some false:Option Bool)=some b:=by cases b<;>rfl
theorem TQ (a b:List Fct):CZ a b=some (meetB a b):=by
  unfold CZ Be Bk
  have inner:∀ x:Fct,Dk x b=some (b.any fun y=>decide (x.var=y.var)):=fun x=>by
    unfold Dk Ba Bd
    rw [Gp (fun y:Fct=>decide (x.var=y.var)) fun k y hk=>by
      unfold Dd
      by_cases h:x.var=y.var<;>simp [h,Ae]]
    rw [Ae,PO,Ae]
  rw [Gp (fun x:Fct=>b.any fun y=>decide (x.var=y.var)) fun k x hk=>by
    rw [inner,Ae]]
  rw [Ae,PO,Ae]
  rfl
def hO (h:Hap):Hh:=(h.job.toNat,h.fin)
section
variable {t : Tpl} {l : List Lch}
theorem KU {j:Int} (h0:0≤j) (h1:j < t.jobs.length):atI t.jobs j=some (jb t j.toNat):=by
  unfold atI
  rw [if_pos h0,Rj (by omega)]
theorem KV {h:Hap} (h0:0≤h.job) (h1:h.job < t.jobs.length):BX t h=some (hW t (hO h)):=by
  unfold BX hW hO
  rw [KU h0 h1,Ae,Ae]
  cases h.fin<;>rfl
theorem Mg {h:Hap} (h0:0≤h.job) (h1:h.job < t.jobs.length):CG t h=some (hR t (hO h)):=by
  unfold CG hR hO
  rw [KU h0 h1,Ae,Ae]
  cases h.fin<;>rfl
theorem Rs {a b:Hap} (a0:0≤a.job) (a1:a.job < t.jobs.length) (b0:0≤b.job) (b1:b.job < t.jobs.length):∃ x,BT t a b=some x∧(x=true↔IntF t (hO a) (hO b)):=by
  refine ⟨meetB (hW t (hO a)) (hW t (hO b)) || (meetB (hW t (hO a)) (hR t (hO b)) || meetB (hR t (hO a)) (hW t (hO b))),?_,?_⟩
  · unfold BT
    simp only [KV a0 a1,KV b0 b1,Mg a0 a1,Mg b0 b1,TQ,Ae]
    cases meetB (hW t (hO a)) (hW t (hO b))<;>cases meetB (hW t (hO a)) (hR t (hO b))<;>cases meetB (hR t (hO a)) (hW t (hO b))<;>rfl
  · rw [Bool.or_eq_true,Bool.or_eq_true,KT,KT,KT]
    unfold IntF
    constructor
    · rintro (⟨v,h1,h2⟩|⟨v,h1,h2⟩|⟨v,h1,h2⟩)
      · exact ⟨v,.inl ⟨h1,.inl h2⟩⟩
      · exact ⟨v,.inl ⟨h1,.inr h2⟩⟩
      · exact ⟨v,.inr ⟨h1,h2⟩⟩
    · rintro ⟨v,⟨h1,h2|h2⟩|⟨h1,h2⟩⟩
      · exact .inl ⟨v,h1,h2⟩
      · exact .inr (.inl ⟨v,h1,h2⟩)
      · exact .inr (.inr ⟨v,h1,h2⟩)
def LIn (t:Tpl) (l:List Lch):Prop:=∀ x∈l,(0≤x.tm∧0≤x.job∧x.job < t.jobs.length)∧x.tm≤1048576
theorem LIn.rng (h:LIn t l):LRng t l:=fun x hx=>(h x hx).1
theorem Jz (ht:TplOk t) {x:Lch} (h:(0≤x.tm∧0≤x.job∧x.job < t.jobs.length)∧x.tm≤1048576):Cr t x=some (en t x):=by
  have hd:=ht.dur x.job.toNat
  unfold Cr
  rw [KU h.1.2.1 h.1.2.2,Ae,AU (by unfold inI64;omega),Ae]
  rfl
theorem Rt (hj:t.jobs.length≤30) (l:List Lch):∃ e,CT t l=some ⟨e⟩∧(e=0↔tck t=0∧l.length≤4096∧LIn t l):=by
  unfold CT
  rw [HR hj,Ae]
  by_cases h1:tck t=0
  · rw [h1,if_neg (by simp)]
    by_cases h2:4096 < (l.length:Int)
    · rw [if_pos h2]
      exact ⟨5,rfl,⟨fun h=>(by cases h),fun h=>(by omega)⟩⟩
    · rw [if_neg h2]
      have hl:=Gv (ρ:=Err) (f:=fun (k45:Nat) (a46:Lch) (s43:Unit)=>bnd (if a46.job < 0 then (some true) else (if (t.jobs.length:Int)≤a46.job then (some true) else (if a46.tm < 0 then (some true) else (if 1048576 < a46.tm then (some true) else (some false)))):Option Bool) fun y72=>if y72=true then (some (.ret (⟨1⟩:Err))) else (some (.next ()))) (xs:=l) (fun _ a=>¬ ((0≤a.tm∧0≤a.job∧a.job < t.jobs.length)∧a.tm≤1048576)) ⟨1⟩ fun k a hk=>by
        by_cases g1:a.job < 0
        · exact .inl ⟨by omega,by rw [if_pos g1];rfl⟩
        by_cases g2:(t.jobs.length:Int)≤a.job
        · exact .inl ⟨by omega,by rw [if_neg g1,if_pos g2];rfl⟩
        by_cases g3:a.tm < 0
        · exact .inl ⟨by omega,by rw [if_neg g1,if_neg g2,if_pos g3];rfl⟩
        by_cases g4:1048576 < a.tm
        · exact .inl ⟨by omega,by rw [if_neg g1,if_neg g2,if_neg g3,if_pos g4];rfl⟩
        · exact .inr ⟨by omega,by rw [if_neg g1,if_neg g2,if_neg g3,if_neg g4];rfl⟩
      rcases hl with ⟨⟨k,a,h3,h4⟩,h5⟩|⟨h3,h4⟩
      · rw [h5,Ae]
        exact ⟨1,rfl,⟨fun h=>(by cases h),fun h=>absurd (h.2.2 a (List.mem_of_getElem? h3)) h4⟩⟩
      · rw [h4,Ae]
        refine ⟨0,rfl,⟨fun _=>⟨rfl,by omega,fun x hx=>?_⟩,fun _=>rfl⟩⟩
        obtain ⟨k,hk⟩:=List.getElem?_of_mem hx
        exact Classical.byContradiction fun hn=>h3 k x hk hn
  · rw [if_pos h1]
    exact ⟨tck t,rfl,⟨fun h=>absurd h h1,fun h=>absurd h.1 h1⟩⟩
def hapI1 (t:Tpl) (τ:Int) (x:Lch):List Hap:=(if x.tm=τ then [⟨x.job,false⟩] else []) ++ (if en t x=τ then [⟨x.job,true⟩] else [])
def hapI (t:Tpl) (l:List Lch) (τ:Int):List Hap:=l.flatMap (hapI1 t τ)
theorem Sq (τ:Nat):(hapI t l (τ:Int)).map hO=hapA t l τ:=by
  unfold hapI hapA
  rw [List.map_flatMap]
  refine congrArg (fun f=>List.flatMap f l) (funext fun x=>?_)
  unfold hapI1 hap1
  rw [List.map_append]
  congr 1<;>split<;>rfl
theorem Sr (h:LIn t l) {τ:Int}:∀ x∈hapI t l τ,0≤x.job∧x.job < t.jobs.length:=fun x hx=>by
  unfold hapI at hx
  obtain ⟨y,hy,hx⟩:=List.mem_flatMap.1 hx
  have:=(h y hy).1
  unfold hapI1 at hx
  rcases List.mem_append.1 hx with hx|hx
  · split at hx
    · have:x=⟨y.job,false⟩:=by simpa using hx
      subst this;exact ⟨this.2.1,this.2.2⟩
    · cases hx
  · split at hx
    · have:x=⟨y.job,true⟩:=by simpa using hx
      subst this;exact ⟨this.2.1,this.2.2⟩
    · cases hx
theorem IY {V:Type} (z:V) (k:Int) (v:V) (k':Int):∀ l:List (Int×V),mget z (mput l k v) k'=if k=k' then v else mget z l k'
  | []=>rfl
  | p :: r=>by
    have ih:=IY z k v k' r
    unfold mput
    by_cases h:p.1=k
    · rw [if_pos h]
      show (if k=k' then v else mget z r k')=_
      by_cases h2:k=k'
      · rw [if_pos h2,if_pos h2]
      · rw [if_neg h2,if_neg h2]
        show _=if p.1=k' then p.2 else mget z r k'
        rw [if_neg (by rw [h];exact h2)]
    · rw [if_neg h]
      show (if p.1=k' then p.2 else mget z (mput r k v) k')=_
      rw [ih]
      show _=if k=k' then v else if p.1=k' then p.2 else mget z r k'
      by_cases h2:k=k'
      · subst h2;rw [if_neg h,if_pos rfl,if_pos rfl]
      · rw [if_neg h2,if_neg h2]
theorem Ka {V:Type} {k k':Int} {v:V}:∀ {l:List (Int×V)},k'∈(mput l k v).map (·.1)↔k'=k∨k'∈l.map (·.1)
  | []=>by simp [mput]
  | p :: r=>by
    have ih:=Ka (k:=k) (k':=k') (v:=v) (l:=r)
    unfold mput
    by_cases h:p.1=k
    · rw [if_pos h];simp [h]
    · rw [if_neg h,List.map_cons,List.mem_cons,ih,List.map_cons,List.mem_cons]
      constructor
      · rintro (a|a|a)
        · exact .inr (.inl a)
        · exact .inl a
        · exact .inr (.inr a)
      · rintro (a|a|a)
        · exact .inr (.inl a)
        · exact .inl a
        · exact .inr (.inr a)
theorem Kb {V:Type} {k:Int} {v:V}:∀ {l:List (Int×V)},(l.map (·.1)).Nodup→((mput l k v).map (·.1)).Nodup
  | [],_=>by simp [mput]
  | p :: r,h=>by
    rw [List.map_cons,List.nodup_cons] at h
    unfold mput
    by_cases hk:p.1=k
    · rw [if_pos hk,List.map_cons,List.nodup_cons]
      exact ⟨by rw [← hk];exact h.1,h.2⟩
    · rw [if_neg hk,List.map_cons,List.nodup_cons,Ka]
      exact ⟨fun hh=>hh.elim hk h.1,Kb h.2⟩
theorem Mh {V:Type} {k:Int} {v:V}:∀ {l:List (Int×V)},(mput l k v).length≤l.length + 1
  | []=>by simp [mput]
  | p :: r=>by
    have:=Mh (k:=k) (v:=v) (l:=r)
    unfold mput
    split<;>simp;omega
theorem OW (t:Tpl) (τ:Int):∀ l:List Lch,(hapI t l τ).length≤2 * l.length
  | []=>by simp [hapI]
  | x :: l=>by
    have:=OW t τ l
    unfold hapI at *
    rw [List.flatMap_cons,List.length_append]
    have:(hapI1 t τ x).length≤2:=by unfold hapI1;split<;>split<;>simp
    simp only [List.length_cons];omega
theorem Ru (t:Tpl) (l:List Lch) (x:Lch) (τ:Int):hapI t (l ++ [x]) τ=hapI t l τ ++ hapI1 t τ x:=by
  unfold hapI;rw [List.flatMap_append];simp
theorem TR (ht:TplOk t) (hl:LIn t l) (hn:l.length≤4096):∃ M ks,Cc t l=some (M,ks)∧(∀ τ,mget [] M.l τ=hapI t l τ)∧(∀ τ,τ∈ks↔∃ x∈l,x.tm=τ∨en t x=τ)∧ks.Pairwise fun a b=>a < b:=by
  have h : ∃ r,Cc t l=some r∧((∀ τ,mget [] r.1.l τ=hapI t l τ)∧(∀ τ,τ∈r.2↔∃ x∈l,x.tm=τ∨en t x=τ)∧r.2.Pairwise fun a b=>a < b):=by
   unfold Cc
   refine UD (I:=fun k (s:MapR 182 Int Hap)=>(∀ τ,mget [] s.l τ=hapI t (l.take k) τ)∧(∀ τ,τ∈mkeys s↔∃ x∈l.take k,x.tm=τ∨en t x=τ)∧(mkeys s).Nodup∧s.l.length≤2 * k) (R:=fun _=>False) ?_ ?_ ?_ (fun q h=>h.elim)
   · exact ⟨fun τ=>rfl,fun τ=>by simp [mkeys],by simp [mkeys],by simp⟩
   · rintro i x s hx ⟨h1,h2,h3,h4⟩
     have hxl:=hl x (List.mem_of_getElem? hx)
     have hd:=ht.dur x.job.toNat
     have hi:=Bj hx
     have hlen:∀ τ,(hapI t (l.take i) τ).length≤10000:=fun τ=>by
       have:=OW t τ (l.take i)
       rw [List.length_take] at this;omega
     refine .inl ⟨(⟨mput (mput s.l x.tm (hapI t (l.take i) x.tm ++ [(⟨x.job,false⟩:Hap)])) (en t x) (hapI t (l.take i) (en t x) ++ [(⟨x.job,true⟩:Hap)])⟩:MapR 182 Int Hap),?_,?_,?_,?_,?_⟩
     · rw [h1,AX (by have:=hlen x.tm;simp;omega) (by have:=hlen x.tm;simp;omega),Ae,Jz ht hxl,Ae]
       rw [IY,if_neg (by unfold en;omega),h1,AX (by have:=hlen (en t x);simp;omega) (by have:=hlen (en t x);simp;omega),Ae]
     · intro τ
       dsimp only
       rw [IY,IY,List.take_add_one,hx,h1]
       show _=hapI t (l.take i ++ [x]) τ
       rw [Ru]
       unfold hapI1
       have he:en t x=x.tm + (jb t x.job.toNat).dur:=rfl
       by_cases g1:en t x=τ
       · rw [if_pos g1,if_pos g1,if_neg (by omega),g1];rfl
       · rw [if_neg g1,if_neg g1]
         by_cases g2:x.tm=τ
         · rw [if_pos g2,if_pos g2,g2];rfl
         · rw [if_neg g2,if_neg g2];simp
     · intro τ
       unfold mkeys
       dsimp only
       rw [Ka,Ka,List.take_add_one,hx]
       have:=h2 τ
       unfold mkeys at this
       rw [this]
       constructor
       · rintro (a|a|⟨y,hy,a⟩)
         · exact ⟨x,by simp,.inr a.symm⟩
         · exact ⟨x,by simp,.inl a.symm⟩
         · exact ⟨y,List.mem_append_left _ hy,a⟩
       · rintro ⟨y,hy,a⟩
         rcases List.mem_append.1 hy with hy|hy
         · exact .inr (.inr ⟨y,hy,a⟩)
         · have:y=x:=by simpa using hy
           subst this
           rcases a with a|a
           · exact .inr (.inl a.symm)
           · exact .inl a.symm
     · unfold mkeys at *
       exact Kb (Kb h3)
     · dsimp only
       have a1:=Mh (k:=en t x) (v:=hapI t (l.take i) (en t x) ++ [(⟨x.job,true⟩:Hap)]) (l:=mput s.l x.tm (hapI t (l.take i) x.tm ++ [(⟨x.job,false⟩:Hap)]))
       have a2:=Mh (k:=x.tm) (v:=hapI t (l.take i) x.tm ++ [(⟨x.job,false⟩:Hap)]) (l:=s.l)
       omega
   · rintro s ⟨h1,h2,h3,h4⟩
     rw [List.take_length] at h1 h2
     have hk:keysI s=some (mkeys s):=if_pos ⟨fun a ha=>by
       obtain ⟨x,hx,e⟩:=(h2 a).1 ha
       have:=hl x hx
       have hd:=ht.dur x.job.toNat
       have he:en t x=x.tm + (jb t x.job.toNat).dur:=rfl
       unfold inI64
       rcases e with e|e<;>omega,by unfold mkeys;rw [List.length_map];omega⟩
     rw [BD,hk,Ae]
     unfold BS
     rw [if_pos (by unfold mkeys;rw [List.length_map];omega),Ae]
     refine ⟨_,rfl,h1,fun τ=>?_,?_⟩
     · rw [← h2];exact (Hk _).mem_iff
     · have hs:=Hj (mkeys s)
       have hd:(sortL (mkeys s)).Nodup:=(Hk _).nodup_iff.2 h3
       refine List.Pairwise.imp₂ (fun a b h1 h2=>?_) hs hd
       have:a≠b:=h2
       omega
  obtain ⟨⟨M,ks⟩,h1,h2⟩:=h
  exact ⟨M,ks,h1,h2⟩
end
end
section
open Go Go.RowKit
section
variable {t : Tpl} {l : List Lch}
def OvC (t:Tpl) (l:List Lch) (τ:Int):Prop:=∀ (i k:Nat) a b,l[i]?=some a→l[k]?=some b→i≠k→a.tm=τ→a.job=b.job→b.tm≤τ→τ≤en t b→False
theorem Ss (ht:TplOk t) (hl:LIn t l) (τ:Int):∃ b,CV t l τ=some b∧(b=true↔¬ OvC t l τ):=by
  unfold CV
  have inner:∀ (k:Nat) (a:Lch),l[k]?=some a→((∃ (j:Nat) (b:Lch),l[j]?=some b∧(k≠j∧a.job=b.job∧b.tm≤τ∧τ≤en t b))∧rng (ρ:=Ctl Unit Bool) (fun (k68:Nat) (a69:Lch) (s66:Unit)=>bnd (if (k:Int)≠(k68:Int) then (if a.job=a69.job then (if a69.tm≤τ then (bnd (Cr t a69) fun q102=>if τ≤q102 then (some true) else (some false)) else (some false)) else (some false)) else (some false):Option Bool) fun y95=>if y95=true then (some (.ret (.ret true))) else (some (.next ()))) l 0 ()=some (.ret (.ret true)))∨((∀ (j:Nat) (b:Lch),l[j]?=some b→¬ (k≠j∧a.job=b.job∧b.tm≤τ∧τ≤en t b))∧rng (ρ:=Ctl Unit Bool) (fun (k68:Nat) (a69:Lch) (s66:Unit)=>bnd (if (k:Int)≠(k68:Int) then (if a.job=a69.job then (if a69.tm≤τ then (bnd (Cr t a69) fun q102=>if τ≤q102 then (some true) else (some false)) else (some false)) else (some false)) else (some false):Option Bool) fun y95=>if y95=true then (some (.ret (.ret true))) else (some (.next ()))) l 0 ()=some (.done ())):=fun k a _ =>
    Gv (P:=fun j b=>k≠j∧a.job=b.job∧b.tm≤τ∧τ≤en t b) (c:=Ctl.ret true) fun j b hj=>by
      rw [Jz ht (hl b (List.mem_of_getElem? hj)),Ae]
      by_cases g1:k=j
      · exact .inr ⟨fun h=>h.1 g1,by rw [if_neg (by omega)];rfl⟩
      by_cases g2:a.job=b.job
      · by_cases g3:b.tm≤τ
        · by_cases g4:τ≤en t b
          · exact .inl ⟨⟨g1,g2,g3,g4⟩,by rw [if_pos (by omega),if_pos g2,if_pos g3,if_pos g4];rfl⟩
          · exact .inr ⟨fun h=>g4 h.2.2.2,by rw [if_pos (by omega),if_pos g2,if_pos g3,if_neg g4];rfl⟩
        · exact .inr ⟨fun h=>g3 h.2.2.1,by rw [if_pos (by omega),if_pos g2,if_neg g3];rfl⟩
      · exact .inr ⟨fun h=>g2 h.2.1,by rw [if_pos (by omega),if_neg g2];rfl⟩
  have outer:=Gv (ρ:=Bool) (xs:=l) (f:=fun (k34:Nat) (a35:Lch) (s32:Unit)=>if a35.tm≠τ then (some (.next ())) else (bnd (rng (ρ:=Ctl Unit Bool) (fun (k68:Nat) (a69:Lch) (s66:Unit)=>bnd (if (k34:Int)≠(k68:Int) then (if a35.job=a69.job then (if a69.tm≤τ then (bnd (Cr t a69) fun q102=>if τ≤q102 then (some true) else (some false)) else (some false)) else (some false)) else (some false):Option Bool) fun y95=>if y95=true then (some (.ret (.ret true))) else (some (.next ()))) l 0 ()) fun res64=>fin res64 fun (s120:Unit)=>some (.next ())))
    (P:=fun k a=>a.tm=τ∧∃ (j:Nat) (b:Lch),l[j]?=some b∧(k≠j∧a.job=b.job∧b.tm≤τ∧τ≤en t b)) (c:=true) fun k a hk=>by
      by_cases g:a.tm=τ
      · rcases inner k a hk with ⟨h1,h2⟩|⟨h1,h2⟩
        · exact .inl ⟨⟨g,h1⟩,by rw [if_neg (by omega),h2];rfl⟩
        · exact .inr ⟨fun ⟨_,j,b,h3,h4⟩=>h1 j b h3 h4,by rw [if_neg (by omega),h2];rfl⟩
      · exact .inr ⟨fun h=>g h.1,by rw [if_pos g]⟩
  rcases outer with ⟨⟨k,a,h1,h2,j,b,h3,h4⟩,h5⟩|⟨h1,h2⟩
  · rw [h5]
    exact ⟨true,rfl,⟨fun _ hn=>hn k j a b h1 h3 h4.1 h2 h4.2.1 h4.2.2.1 h4.2.2.2,fun _=>rfl⟩⟩
  · rw [h2]
    refine ⟨false,rfl,⟨fun h=>(by cases h),fun hn=>absurd ?_ hn⟩⟩
    intro i k a b ha hb hik g1 g2 g3 g4
    exact h1 i a ha ⟨g1,k,b,hb,hik,g2,g3,g4⟩
theorem PP {ρ:Type} (ht:TplOk t) (h:Hh):∀ (w:List Fct) (s:List Int) (j:Nat),(∀ f∈w,FactOk t.vars f)→s.length=t.vars.length →
    rng (ρ:=ρ) (fun (_:Nat) (a160:Fct) (s157:(List Int))=>bnd (atI s157 a160.var) fun a190=>some (.next (s157.set (a160.var:Int).toNat a160.val))) w j s=some (.done (wrL s w))
  | [],s,j,_,_=>rfl
  | f :: w,s,j,hf,hs=>by
    have h1:=Fx (hf f List.mem_cons_self)
    obtain ⟨x,hx⟩:=By (l:=s) (k:=f.var.toNat) (by omega)
    rw [rng,show atI s f.var=some x from by unfold atI;rw [if_pos h1.1];exact hx]
    exact PP ht h w _ _ (fun g hg=>hf g (List.mem_cons_of_mem _ hg)) (by rw [List.length_set];exact hs)
theorem NQ {ρ:Type} (ht:TplOk t) (i:Nat) (e:Bool):∀ (H:List Hap) (s:List Int) (j:Nat),(∀ h∈H,0≤h.job∧h.job < t.jobs.length)→s.length=t.vars.length →
    rng (ρ:=Ctl ((List Int)×Bool) ρ) (fun (k101:Nat) (a102:Hap) (s99:(List Int)×Bool)=>bnd (if a102.job≠(i:Int) then (some (s99.2,true,a102.fin)) else (if a102.fin=true then (if s99.2=true then (some (true,false,true)) else (some (false,true,true))) else (if s99.2=true then (some (true,true,false)) else (some (false,false,false)))):Option (Bool×Bool×Bool)) fun y131=>if y131.2.1=true then (some (.next (s99.1,y131.1))) else (bnd (BX t (⟨a102.job,y131.2.2⟩:Hap)) fun q144=>bnd (rng (ρ:=Ctl ((List Int)×Bool) (Ctl ((List Int)×Bool) ρ)) (fun (k159:Nat) (a160:Fct) (s157:(List Int))=>bnd (atI s157 a160.var) fun a190=>some (.next (s157.set (a160.var:Int).toNat a160.val))) q144 0 s99.1) fun res155=>fin res155 fun (s208:(List Int))=>some (.next (s208,y131.1)))) H j (s,e)=some (.done (afH t s ((H.map hO).filter fun h=>decide (h=(i,e))),e))
  | [],s,j,_,_=>rfl
  | h :: H,s,j,hj,hs=>by
    obtain ⟨h0,h1⟩:=hj h List.mem_cons_self
    have ih:=fun s j hs=>NQ (ρ:=ρ) ht i e H s j (fun g hg=>hj g (List.mem_cons_of_mem _ hg)) hs
    rw [rng,List.map_cons,List.filter_cons]
    by_cases g1:h.job=(i:Int)
    · by_cases g2:h.fin=e
      · have eh:hO h=(i,e):=by unfold hO;rw [g1,g2];rfl
        have ehh:(⟨h.job,e⟩:Hap)=h:=by rw [← g2]
        rw [if_neg (show ¬ h.job≠(i:Int) by omega),if_pos (decide_eq_true eh)]
        have key:(if h.fin=true then (if e=true then (some (true,false,true)) else (some (false,true,true))) else (if e=true then (some (true,true,false)) else (some (false,false,false))):Option (Bool×Bool×Bool))=some (e,false,e):=by rw [g2];cases e<;>rfl
        dsimp only
        rw [key,Ae]
        dsimp only
        rw [if_neg (by simp),ehh,KV h0 h1,Ae,PP ht (hO h) _ _ _ (fun f hf=>(factsPw.1 (ht.hW (hO h))).1 f hf) hs]
        show rng _ H (j + 1) (wrL s (hW t (hO h)),e)=_
        rw [ih _ _ (by rw [Nm];exact hs)]
        rfl
      · have eh:hO h≠(i,e):=by unfold hO;intro hh;injection hh with _ hh;exact g2 hh
        rw [if_neg (show ¬ h.job≠(i:Int) by omega),if_neg (fun hh:decide (hO h=(i,e))=true=>eh (of_decide_eq_true hh))]
        have key:(if h.fin=true then (if e=true then (some (true,false,true)) else (some (false,true,true))) else (if e=true then (some (true,true,false)) else (some (false,false,false))):Option (Bool×Bool×Bool))=some (e,true,h.fin):=by cases hf:h.fin<;>cases e<;>simp_all
        dsimp only
        rw [key,Ae]
        dsimp only
        rw [if_pos rfl]
        exact ih s (j + 1) hs
    · have eh:hO h≠(i,e):=by unfold hO;intro hh;injection hh with hh _;omega
      rw [if_pos g1,if_neg (fun hh:decide (hO h=(i,e))=true=>eh (of_decide_eq_true hh)),Ae]
      dsimp only
      rw [if_pos rfl]
      exact ih s (j + 1) hs
theorem OX {ρ:Type} (ht:TplOk t) (H:List Hap) (hj:∀ h∈H,0≤h.job∧h.job < t.jobs.length) (e:Bool) (s:List Int) (hs:s.length=t.vars.length) :
    rng (ρ:=ρ) (fun (k80:Nat) (a81:Job) (s78:(List Int)×Bool)=>bnd (rng (ρ:=Ctl ((List Int)×Bool) ρ) (fun (k101:Nat) (a102:Hap) (s99:(List Int)×Bool)=>bnd (if a102.job≠(k80:Int) then (some (s99.2,true,a102.fin)) else (if a102.fin=true then (if s99.2=true then (some (true,false,true)) else (some (false,true,true))) else (if s99.2=true then (some (true,true,false)) else (some (false,false,false)))):Option (Bool×Bool×Bool)) fun y131=>if y131.2.1=true then (some (.next (s99.1,y131.1))) else (bnd (BX t (⟨a102.job,y131.2.2⟩:Hap)) fun q144=>bnd (rng (ρ:=Ctl ((List Int)×Bool) (Ctl ((List Int)×Bool) ρ)) (fun (k159:Nat) (a160:Fct) (s157:(List Int))=>bnd (atI s157 a160.var) fun a190=>some (.next (s157.set (a160.var:Int).toNat a160.val))) q144 0 s99.1) fun res155=>fin res155 fun (s208:(List Int))=>some (.next (s208,y131.1)))) H 0 (s78.1,s78.2)) fun res97=>fin res97 fun (s214:(List Int)×Bool)=>some (.next (s214.1,s214.2))) t.jobs 0 (s,e)=some (.done (afH t s ((List.range t.jobs.length).flatMap fun i=>(H.map hO).filter fun h=>decide (h=(i,e))),e)):=by
  exact CA (fun k=>(afH t s ((List.range k).flatMap fun i=>(H.map hO).filter fun h=>decide (h=(i,e))),e)) rfl fun k x hk=>by
    rw [NQ ht k e H _ 0 hj (by rw [Hf];exact hs),Ae,BD]
    rw [List.range_succ,List.flatMap_append,Nn]
    simp
theorem Su (ht:TplOk t) {H:List Hap} (hj:∀ h∈H,0≤h.job∧h.job < t.jobs.length) {s:List Int} (hs:s.length=t.vars.length):DB t s H=some (afH t s (cano t.jobs.length (H.map hO))):=by
  have hn:=ht.nv
  unfold DB
  rw [show Bu s=some s from if_pos ⟨by omega,by omega⟩,Ae]
  simp only [rng]
  rw [OX ht H hj true s hs,Ae,BD]
  dsimp only
  rw [OX ht H hj false _ (by rw [Hf];exact hs),Ae,BD,Ae,BD]
  unfold cano
  rw [List.flatMap_cons,List.flatMap_cons,List.flatMap_nil,List.append_nil,Nn]
theorem UG {α:Type} {R:α→α→Prop} {H:List α} (sym:∀ {x y},R x y→R y x):H.Pairwise R↔∀ (i:Nat) a,H[i]?=some a→∀ (k:Nat) b,k < i→H[k]?=some b→R a b:=by
  rw [List.pairwise_iff_getElem]
  constructor
  · intro h i a ha k b hk hb
    obtain ⟨h1,rfl⟩:=List.getElem?_eq_some_iff.1 ha
    obtain ⟨h2,rfl⟩:=List.getElem?_eq_some_iff.1 hb
    exact sym (h k i h2 h1 hk)
  · intro h i j hi hj hij
    exact sym (h j _ (List.getElem?_eq_getElem hj) i _ hij (List.getElem?_eq_getElem hi))
theorem Rv (ht:TplOk t) {H:List Hap} (hj:∀ h∈H,0≤h.job∧h.job < t.jobs.length) :
    ((¬ (H.map hO).Pairwise fun a b=>¬ IntF t a b)∧rng (ρ:=(List Int)×Err) (fun (k47:Nat) (a48:Hap) (s45:Unit)=>bnd (rngN (ρ:=Ctl Unit ((List Int)×Err)) (fun (k62:Nat) (s60:Unit)=>bnd (H[k62]?) fun a81=>bnd (BT t a48 a81) fun q91=>if q91=true then some (.ret (.ret (([]:List Int),(⟨17⟩:Err)))) else some (.next ())) k47 ()) fun res58=>fin res58 fun (s102:Unit)=>some (.next ())) H 0 ()=some (.ret (([]:List Int),(⟨17⟩:Err)))) ∨
    (((H.map hO).Pairwise fun a b=>¬ IntF t a b)∧rng (ρ:=(List Int)×Err) (fun (k47:Nat) (a48:Hap) (s45:Unit)=>bnd (rngN (ρ:=Ctl Unit ((List Int)×Err)) (fun (k62:Nat) (s60:Unit)=>bnd (H[k62]?) fun a81=>bnd (BT t a48 a81) fun q91=>if q91=true then some (.ret (.ret (([]:List Int),(⟨17⟩:Err)))) else some (.next ())) k47 ()) fun res58=>fin res58 fun (s102:Unit)=>some (.next ())) H 0 ()=some (.done ())):=by
  have hpw:=UG (R:=fun a b:Hh=>¬ IntF t a b) (H:=H.map hO) (fun h=>PM h)
  have outer:=Gv (ρ:=(List Int)×Err) (xs:=H) (f:=fun (k47:Nat) (a48:Hap) (s45:Unit)=>bnd (rngN (ρ:=Ctl Unit ((List Int)×Err)) (fun (k62:Nat) (s60:Unit)=>bnd (H[k62]?) fun a81=>bnd (BT t a48 a81) fun q91=>if q91=true then some (.ret (.ret (([]:List Int),(⟨17⟩:Err)))) else some (.next ())) k47 ()) fun res58=>fin res58 fun (s102:Unit)=>some (.next ()))
    (P := fun i a=>∃ (k:Nat) (b:Hap),k < i∧H[k]?=some b∧IntF t (hO a) (hO b)) (c:=(([]:List Int),(⟨17⟩:Err))) fun i a hi=>by
      have inner:=Gv (ρ:=Ctl Unit ((List Int)×Err)) (xs:=List.range i) (f:=fun (_:Nat) (k62:Nat) (s60:Unit)=>bnd (H[k62]?) fun a81=>bnd (BT t a a81) fun q91=>if q91=true then some (.ret (.ret (([]:List Int),(⟨17⟩:Err)))) else some (.next ()))
        (P:=fun _ k=>∃ b,H[k]?=some b∧IntF t (hO a) (hO b)) (c:=Ctl.ret (([]:List Int),(⟨17⟩:Err))) fun k' k hk=>by
          have hki:k < i:=List.mem_range.1 (List.mem_of_getElem? hk)
          obtain ⟨b,hb⟩:=By (l:=H) (k:=k) (by have:=Bj hi;omega)
          have ha':=hj a (List.mem_of_getElem? hi)
          have hb':=hj b (List.mem_of_getElem? hb)
          obtain ⟨x,x1,x2⟩:=Rs (t:=t) ha'.1 ha'.2 hb'.1 hb'.2
          rw [hb,Ae,x1,Ae]
          cases x
          · exact .inr ⟨fun ⟨b',h1,h2⟩=>(by cases h1;exact absurd (x2.2 h2) (by decide)),rfl⟩
          · exact .inl ⟨⟨b,rfl,x2.1 rfl⟩,rfl⟩
      unfold rngN
      rcases inner with ⟨⟨k',k,h1,b,h2,h3⟩,h4⟩|⟨h1,h2⟩
      · exact .inl ⟨⟨k,b,List.mem_range.1 (List.mem_of_getElem? h1),h2,h3⟩,by rw [h4];rfl⟩
      · refine .inr ⟨fun ⟨k,b,g1,g2,g3⟩=>?_,by rw [h2];rfl⟩
        obtain ⟨k',hk'⟩:=List.getElem?_of_mem (List.mem_range.2 g1)
        exact h1 k' k hk' ⟨b,g2,g3⟩
  rcases outer with ⟨⟨i,a,h1,k,b,h2,h3,h4⟩,h5⟩|⟨h1,h2⟩
  · refine .inl ⟨fun hp=>?_,h5⟩
    exact hpw.1 hp i (hO a) (by rw [List.getElem?_map,h1];rfl) k (hO b) h2 (by rw [List.getElem?_map,h3];rfl) h4
  · refine .inr ⟨hpw.2 fun i a ha k b hk hb hI=>?_,h2⟩
    rw [List.getElem?_map] at ha hb
    obtain ⟨a',ha',rfl⟩:=Option.map_eq_some_iff.1 ha
    obtain ⟨b',hb',rfl⟩:=Option.map_eq_some_iff.1 hb
    exact h1 i a' ha' ⟨k,b',hk,hb',hI⟩
theorem Sw (ht:TplOk t) (hl:LIn t l) (τ:Int) {H:List Hap} (hj:∀ h∈H,0≤h.job∧h.job < t.jobs.length) {s:List Int} (hs:s.length=t.vars.length):∃ r e,Da t l τ s H=some (r,⟨e⟩) ∧
    (e=0↔OvC t l τ∧((H.map hO).Pairwise fun a b=>¬ IntF t a b)∧(∀ h∈H.map hO,holdsB (hR t h) s=true)∧∀ x∈l,x.tm≤τ→τ < en t x→holdsB (jb t x.job.toNat).over (afH t s (cano t.jobs.length (H.map hO)))=true) ∧
    (e=0→r=afH t s (cano t.jobs.length (H.map hO))):=by
  unfold Da
  obtain ⟨b,b1,b2⟩:=Ss ht hl τ
  rw [b1,Ae]
  cases b with
  | true=>exact ⟨[],18,rfl,⟨fun h=>(by cases h),fun h=>absurd h.1 (b2.1 rfl)⟩,fun h=>by cases h⟩
  | false =>
    have hov:OvC t l τ:=Classical.byContradiction fun h=>by have:=b2.2 h;cases this
    rw [Gn]
    rcases Rv ht hj with ⟨h1,h2⟩|⟨h1,h2⟩
    · rw [h2,Ae]
      exact ⟨[],17,rfl,⟨fun h=>(by cases h),fun h=>absurd h.2.1 h1⟩,fun h=>by cases h⟩
    · rw [h2, Ae,BD]
      have l2:=Gv (ρ:=(List Int)×Err) (xs:=H) (f:=fun (k116:Nat) (a117:Hap) (s114:Unit)=>bnd (CG t a117) fun q142=>bnd (Cn q142 s) fun q151=>if q151=true then some (.next ()) else some (.ret (([]:List Int),(⟨12⟩:Err))))
        (P:=fun _ a=>holdsB (hR t (hO a)) s=false) (c:=(([]:List Int),(⟨12⟩:Err))) fun k a hk=>by
          have ha':=hj a (List.mem_of_getElem? hk)
          rw [Mg ha'.1 ha'.2,Ae]
          unfold Cn
          rw [Ae]
          cases holdsB (hR t (hO a)) s
          · exact .inl ⟨rfl,rfl⟩
          · exact .inr ⟨(by decide),rfl⟩
      rcases l2 with ⟨⟨k,a,g1,g2⟩,g3⟩|⟨g1,g2⟩
      · rw [g3,Ae]
        refine ⟨[],12,rfl,⟨fun h=>(by cases h),fun h=>?_⟩,fun h=>by cases h⟩
        have:=h.2.2.1 (hO a) (List.mem_map_of_mem (List.mem_of_getElem? g1))
        rw [g2] at this;cases this
      · rw [g2, Ae,BD,Su ht hj hs,Ae]
        have hrd:∀ h∈H.map hO,holdsB (hR t h) s=true:=fun h hh=>by
          obtain ⟨a,ha,rfl⟩:=List.mem_map.1 hh
          obtain ⟨k,hk⟩:=List.getElem?_of_mem ha
          cases hb:holdsB (hR t (hO a)) s with
          | true=>rfl
          | false=>exact absurd hb (g1 k a hk)
        have l3 := Gv (ρ:=(List Int)×Err) (xs:=l) (f:=fun (k179:Nat) (a180:Lch) (s177:Unit)=>bnd (if a180.tm≤τ then (bnd (Cr t a180) fun q211=>if τ < q211 then (bnd (atI t.jobs a180.job) fun a220=>bnd (Cn a220.over (afH t s (cano t.jobs.length (H.map hO)))) fun q253=>if q253=true then some false else some true) else (some false)) else (some false):Option Bool) fun y206=>if y206=true then (some (.ret (([]:List Int),(⟨16⟩:Err)))) else (some (.next ())))
          (P := fun _ x=>¬ (x.tm≤τ→τ < en t x→holdsB (jb t x.job.toNat).over (afH t s (cano t.jobs.length (H.map hO)))=true)) (c:=(([]:List Int),(⟨16⟩:Err))) fun k x hk=>by
            have hx:=hl x (List.mem_of_getElem? hk)
            rw [Jz ht hx,Ae,KU hx.1.2.1 hx.1.2.2,Ae]
            unfold Cn
            rw [Ae]
            by_cases p1:x.tm≤τ
            · rw [if_pos p1]
              by_cases p2:τ < en t x
              · rw [if_pos p2]
                cases hb:holdsB (jb t x.job.toNat).over (afH t s (cano t.jobs.length (H.map hO)))
                · exact .inl ⟨fun h=>(by have:=h p1 p2;cases this),rfl⟩
                · exact .inr ⟨fun h=>h fun _ _=>rfl,rfl⟩
              · rw [if_neg p2]
                exact .inr ⟨fun h=>h fun _ h2=>absurd h2 p2,rfl⟩
            · rw [if_neg p1]
              exact .inr ⟨fun h=>h fun h1 _=>absurd h1 p1,rfl⟩
        rcases l3 with ⟨⟨k,x,p1,p2⟩,p3⟩|⟨p1,p2⟩
        · rw [p3,Ae]
          exact ⟨[],16,rfl,⟨fun h=>(by cases h),fun h=>absurd (h.2.2.2 x (List.mem_of_getElem? p1)) p2⟩,fun h=>by cases h⟩
        · rw [p2,Ae,BD]
          refine ⟨_,0,rfl,⟨fun _=>⟨hov,h1,hrd,fun x hx=>?_⟩,fun _=>rfl⟩,fun _=>rfl⟩
          obtain ⟨k,hk⟩:=List.getElem?_of_mem hx
          exact Classical.byContradiction fun hn=>p1 k x hk hn
def mks (t:Tpl) (l:List Lch):Int:=l.foldl (fun m x=>max m (en t x)) 0
theorem IZ (t:Tpl):∀ (l:List Lch) (m:Int),m≤l.foldl (fun m x=>max m (en t x)) m∧(∀ x∈l,en t x≤l.foldl (fun m x=>max m (en t x)) m)∧(l.foldl (fun m x=>max m (en t x)) m=m∨∃ x∈l,l.foldl (fun m x=>max m (en t x)) m=en t x)
  | [],m=>⟨Int.le_refl _,fun x hx=>(by cases hx),.inl rfl⟩
  | y :: l,m=>by
    obtain ⟨h1,h2,h3⟩:=IZ t l (max m (en t y))
    show m≤l.foldl _ (max m (en t y))∧_∧_
    refine ⟨by omega,fun x hx=>?_,?_⟩
    · show en t x≤l.foldl _ (max m (en t y))
      rcases List.mem_cons.1 hx with rfl|hx
      · omega
      · exact h2 x hx
    · show l.foldl _ (max m (en t y))=m∨_
      rcases h3 with h3|⟨x,hx,h3⟩
      · by_cases hm:en t y≤m
        · exact .inl (by rw [h3];omega)
        · exact .inr ⟨y,List.mem_cons_self,by show l.foldl _ (max m (en t y))=_;rw [h3];omega⟩
      · exact .inr ⟨x,List.mem_cons_of_mem _ hx,h3⟩
theorem UH (t:Tpl) (l:List Lch):∀ x∈l,en t x≤mks t l:=(IZ t l 0).2.1
theorem UI (t:Tpl) (l:List Lch):0≤mks t l:=(IZ t l 0).1
theorem UJ (t:Tpl) (l:List Lch):mks t l=0∨∃ x∈l,mks t l=en t x:=(IZ t l 0).2.2
theorem Rx (ht:TplOk t) (hl:LIn t l):CK t l=some (mks t l):=by
  unfold CK
  rw [CA (fun k=>(l.take k).foldl (fun m x=>max m (en t x)) 0) (by rfl) fun k x hk=>by
    rw [Jz ht (hl x (List.mem_of_getElem? hk)),Ae,List.take_add_one,hk]
    simp]
  rw [Ae,BD,List.take_length]
  rfl
theorem Mi {a b:Nat} (hab:a≤b) (h:∀ τ:Nat,a≤τ→τ < b→hapA t l τ=[]):Sv t l b=Sv t l a:=by
  obtain ⟨k,rfl⟩:=Nat.exists_eq_add_of_le hab
  induction k with
  | zero=>rfl
  | succ k ih =>
    show afH t (Sv t l (a + k)) (cano t.jobs.length (hapA t l (a + k)))=_
    rw [ih (by omega) (fun τ h1 h2=>h τ h1 (by omega)),h (a + k) (by omega) (by omega)]
    have:cano t.jobs.length []=[]:=by unfold cano;simp
    rw [this];rfl
theorem KW {τ:Nat} (h:∀ x∈l,x.tm≠(τ:Int)∧en t x≠(τ:Int)):hapA t l τ=[]:=by
  refine List.eq_nil_iff_forall_not_mem.2 fun y hy=>?_
  obtain ⟨x,hx,_,e⟩:=CX.1 hy
  have:=h x hx
  split at e
  · exact this.2 e
  · exact this.1 e
def TickP (t:Tpl) (l:List Lch) (τ:Nat):Prop:=OvC t l (τ:Int)∧TickC t l τ
theorem UK (ht:TplOk t) (hl:LIn t l) (hT:∀ τ:Nat,(∃ x∈l,x.tm=(τ:Int)∨en t x=(τ:Int))→TickP t l τ) (hg:∀ τ:Nat,(∀ x∈l,en t x < (τ:Int))→holdsB t.goal (Sv t l τ)=true):VOk t l:=by
  have hov:∀ (i k:Nat) a b,l[i]?=some a→l[k]?=some b→i≠k→a.job=b.job→b.tm≤a.tm→a.tm≤en t b→False:=fun i k a b ha hb hik hj h1 h2=>by
    have ra:=hl a (List.mem_of_getElem? ha)
    have e:((a.tm.toNat:Nat):Int)=a.tm:=by omega
    exact (hT a.tm.toNat ⟨a,List.mem_of_getElem? ha,.inl e.symm⟩).1 i k a b ha hb hik e.symm hj (by omega) (by omega)
  refine ⟨hl.rng,?_,fun a ha b hb hne hj=>?_,fun τ=>?_,hg⟩
  · unfold List.Nodup
    rw [List.pairwise_iff_getElem]
    intro i j hi hj hij e
    have:=GQ ht l[j]
    refine hov i j l[i] l[j] (List.getElem?_eq_getElem hi) (List.getElem?_eq_getElem hj) (by omega) (by rw [e]) (by rw [e];exact Int.le_refl _) (by rw [e];omega)
  · obtain ⟨i,hi⟩:=List.getElem?_of_mem ha
    obtain ⟨k,hk⟩:=List.getElem?_of_mem hb
    have hik:i≠k:=by rintro rfl;rw [hi] at hk;exact hne (Option.some.inj hk)
    refine Classical.byContradiction fun hno=>?_
    by_cases h1:b.tm≤a.tm
    · exact hov i k a b hi hk hik hj h1 (by omega)
    · exact hov k i b a hk hi (Ne.symm hik) hj.symm (by omega) (by omega)
  · by_cases h:∃ x∈l,x.tm=(τ:Int)∨en t x=(τ:Int)
    · exact (hT τ h).2
    · have hno:∀ τ':Nat,(¬ ∃ x∈l,x.tm=(τ':Int)∨en t x=(τ':Int))→hapA t l τ'=[]:=fun τ' h=>KW fun x hx=>⟨fun e=>h ⟨x,hx,.inl e⟩,fun e=>h ⟨x,hx,.inr e⟩⟩
      refine ⟨(by rw [hno τ h];exact .nil),fun y hy=>(by rw [hno τ h] at hy;cases hy),?_⟩
      -- what runs was tested when something happened last
      induction τ with
      | zero =>
        intro x hx h1 h2
        have:=hl x hx
        exact absurd ⟨x,hx,.inl (by omega)⟩ h
      | succ τ ih =>
        intro x hx h1 h2
        have hS:Sv t l (τ + 1 + 1)=Sv t l (τ + 1):=Mi (by omega) fun τ' g1 g2=>by
          have:τ'=τ + 1:=by omega
          subst this;exact hno _ h
        have hx1:x.tm≤(τ:Int):=by
          have:x.tm≠((τ + 1:Nat):Int):=fun e=>h ⟨x,hx,.inl e⟩
          omega
        rw [hS]
        by_cases hτ:∃ x∈l,x.tm=(τ:Int)∨en t x=(τ:Int)
        · exact (hT τ hτ).2.over x hx hx1 (by omega)
        · exact ih hτ x hx hx1 (by omega)
theorem Sy (ht:TplOk t) (h:VOk t l) (τ:Nat):TickP t l τ:=⟨fun i k a b ha hb hik h1 hj h2 h3=>by
  by_cases he:a=b
  · subst he
    have hn:=h.nd
    unfold List.Nodup at hn
    rw [List.pairwise_iff_getElem] at hn
    obtain ⟨g1,e1⟩:=List.getElem?_eq_some_iff.1 ha
    obtain ⟨g2,e2⟩:=List.getElem?_eq_some_iff.1 hb
    rcases Nat.lt_or_gt_of_ne hik with g|g
    · exact hn i k g1 g2 g (by rw [e1,e2])
    · exact hn k i g2 g1 g (by rw [e1,e2])
  · rcases h.nov a (List.mem_of_getElem? ha) b (List.mem_of_getElem? hb) he hj with g|g
    · omega
    · have:=GQ ht a;omega,h.tick τ⟩
theorem OY (ht:TplOk t) (hl:LIn t l) {M:MapR 182 Int Hap} (hM:∀ τ,mget [] M.l τ=hapI t l τ):∀ (ks:List Int) (j:Nat) (τ₀:Nat),(ks.Pairwise fun a b=>a < b)→(∀ a∈ks,(τ₀:Int)≤a∧∃ x∈l,x.tm=a∨en t x=a)→(∀ a:Int,(τ₀:Int)≤a→(∃ x∈l,x.tm=a∨en t x=a)→a∈ks) →
    (∃ τ₁:Nat,τ₀≤τ₁∧(∀ x∈l,en t x < (τ₁:Int))∧rng (ρ:=Int×Err) (fun (k58:Nat) (a59:Int) (s56:(List Int))=>bnd (Da t l a59 s56 (mget ([]:List Hap) M.l a59)) fun q83=>if q83.2.n≠0 then (some (.ret (0,(⟨q83.2.n⟩:Err)))) else (some (.next q83.1))) ks j (Sv t l τ₀)=some (.done (Sv t l τ₁))∧∀ τ:Nat,τ₀≤τ→(∃ x∈l,x.tm=(τ:Int)∨en t x=(τ:Int))→TickP t l τ) ∨
    ∃ e:Int,e≠0∧rng (ρ:=Int×Err) (fun (k58:Nat) (a59:Int) (s56:(List Int))=>bnd (Da t l a59 s56 (mget ([]:List Hap) M.l a59)) fun q83=>if q83.2.n≠0 then (some (.ret (0,(⟨q83.2.n⟩:Err)))) else (some (.next q83.1))) ks j (Sv t l τ₀)=some (.ret (0,⟨e⟩))∧∃ τ:Nat,¬ TickP t l τ
  | [],j,τ₀,_,_,h3=>by
    refine .inl ⟨τ₀,Nat.le_refl _,fun x hx=>?_,rfl,fun τ h1 h2=>absurd (h3 _ (by omega) h2) (by simp)⟩
    refine Classical.byContradiction fun hn=>?_
    have:=h3 (en t x) (by omega) ⟨x,hx,.inr rfl⟩
    cases this
  | a :: ks,j,τ₀,h1,h2,h3=>by
    obtain ⟨g1,g2⟩:=h2 a List.mem_cons_self
    obtain ⟨n,rfl⟩:∃ n:Nat,a=(n:Int):=⟨a.toNat,by omega⟩
    rw [List.pairwise_cons] at h1
    have hS:Sv t l n=Sv t l τ₀:=Mi (by omega) fun τ p1 p2=>KW fun x hx=>by
      have key:∀ b:Int,b=(τ:Int)→¬ ∃ x∈l,x.tm=b∨en t x=b:=fun b hb hh=>by
        have:=h3 b (by omega) hh
        rcases List.mem_cons.1 this with e|e
        · omega
        · have:=h1.1 b e;omega
      exact ⟨fun e=>key _ rfl ⟨x,hx,.inl e⟩,fun e=>key _ rfl ⟨x,hx,.inr e⟩⟩
    obtain ⟨r,e,q1,q2,q3⟩:=Sw ht hl (n:Int) (H:=hapI t l (n:Int)) (Sr hl) (s:=Sv t l n) (MR ht l n)
    rw [Sq] at q2 q3
    have hTP:e=0↔TickP t l n:=by
      rw [q2]
      constructor
      · rintro ⟨p1,p2,p3,p4⟩
        exact ⟨p1,p2,p3,p4⟩
      · rintro ⟨p1,p2,p3,p4⟩
        exact ⟨p1,p2,p3,p4⟩
    rw [rng,← hS,hM,q1,Ae]
    dsimp only
    by_cases he:e=0
    · have hr:=q3 he
      rw [if_neg (by simpa using he),hr]
      show (∃ τ₁,_∧_∧rng _ ks (j + 1) (Sv t l (n + 1))=_∧_)∨∃ e',_∧rng _ ks (j + 1) (Sv t l (n + 1))=_∧_
      rcases OY ht hl hM ks (j + 1) (n + 1) h1.2 (fun b hb=>⟨by have:=h1.1 b hb;omega,(h2 b (List.mem_cons_of_mem _ hb)).2⟩) (fun b hb hh=>by
        rcases List.mem_cons.1 (h3 b (by omega) hh) with p|p
        · omega
        · exact p) with ⟨τ₁,p1,p2,p3,p4⟩|⟨e',p1,p2,p3⟩
      · refine .inl ⟨τ₁,by omega,p2,p3,fun τ w1 w2=>?_⟩
        by_cases hτ:τ=n
        · subst hτ;exact hTP.1 he
        · by_cases hτ2:n < τ
          · exact p4 τ (by omega) w2
          · rcases List.mem_cons.1 (h3 _ (by omega) w2) with p|p
            · omega
            · have:=h1.1 _ p;omega
      · exact .inr ⟨e',p1,p2,p3⟩
    · rw [if_pos (by simpa using he)]
      exact .inr ⟨e,he,rfl,n,fun h=>he (hTP.2 h)⟩
theorem OZ (hj:t.jobs.length≤30) (l:List Lch):∃ m e,Cu t l=some (m,⟨e⟩)∧(e=0↔tck t=0∧l.length≤4096∧LIn t l∧VOk t l)∧(e=0→m=mks t l)∧(e≠0→m=0):=by
  unfold Cu
  obtain ⟨e,e1,e2⟩:=Rt hj l
  rw [e1,Ae]
  dsimp only
  by_cases he:e=0
  · obtain ⟨h1,h2,h3⟩:=e2.1 he
    have ht:=Js h1
    rw [if_neg (by simpa using he)]
    obtain ⟨M,ks,k1,k2,k3,k4⟩:=TR ht h3 h2
    rw [k1,Ae]
    dsimp only
    rcases OY ht h3 k2 ks 0 0 k4 (fun a ha=>⟨by
      obtain ⟨x,hx,e⟩:=(k3 a).1 ha
      have:=h3 x hx
      have:=GQ ht x
      rcases e with e|e<;>omega,(k3 a).1 ha⟩) (fun a _ ha=>(k3 a).2 ha) with ⟨τ₁,p1,p2,p3,p4⟩|⟨e',p1,p2,τ,p3⟩
    · rw [show t.init=Sv t l 0 from rfl,p3,Ae,BD]
      unfold Cn
      rw [Ae]
      -- behind the last end nothing changes
      have hSg:∀ τ:Nat,(∀ x∈l,en t x < (τ:Int))→Sv t l τ=Sv t l τ₁:=fun τ hτ=>by
        have emp:∀ a b:Nat,(∀ x∈l,en t x < (a:Int))→a≤b→Sv t l b=Sv t l a:=fun a b ha hab=>Mi hab fun τ' w1 w2=>KW fun x hx=>by
          have:=ha x hx
          have:=GQ ht x
          constructor<;>omega
        rcases Nat.le_total τ τ₁ with h|h
        · exact (emp τ τ₁ hτ h).symm
        · exact emp τ₁ τ p2 h
      cases hg:holdsB t.goal (Sv t l τ₁) with
      | true =>
        rw [ET,Rx ht h3,Ae]
        exact ⟨_,0,rfl,⟨fun _=>⟨h1,h2,h3,UK ht h3 (fun τ w=>p4 τ (Nat.zero_le _) w) fun τ hτ=>by rw [hSg τ hτ];exact hg⟩,fun _=>rfl⟩,fun _=>rfl,fun h=>absurd rfl h⟩
      | false =>
        rw [Gn]
        refine ⟨0,13,rfl,⟨fun h=>(by cases h),fun h=>?_⟩,fun h=>(by cases h),fun _=>rfl⟩
        have:=h.2.2.2.goal τ₁ p2
        rw [hg] at this;cases this
    · rw [show t.init=Sv t l 0 from rfl,p2,Ae]
      exact ⟨0,e',rfl,⟨fun h=>absurd h p1,fun h=>absurd (Sy ht h.2.2.2 τ) p3⟩,fun h=>absurd h p1,fun _=>rfl⟩
  · rw [if_pos (by simpa using he)]
    exact ⟨0,e,rfl,⟨fun h=>absurd h he,fun h=>absurd (e2.2 ⟨h.1,h.2.1,h.2.2.1⟩) he⟩,fun h=>absurd h he,fun _=>rfl⟩
end
end
section
open Go.Shelf
def Tryz.laysS_f101_ren:Go.Shelf.Ren:=⟨fun|6=>101|15=>139|14=>138|28=>169|29=>170|20=>161|21=>162|22=>163|23=>164|24=>165|25=>166|26=>167|27=>168|46=>192|47=>193|48=>194|49=>195|50=>196|57=>213|n=>n,fun|22=>23|24=>78|25=>170|3=>3|39=>224|0=>0|53=>258|55=>239|4=>4|46=>252|45=>251|50=>48|5=>5|9=>9|66=>280|70=>283|76=>296|77=>297|n=>n,fun|n=>n⟩
theorem Tryz.laysS_f101:Go.Proofs.SlLaysF0.n6 Tryz.prog Tryz.laysS_f101_ren:={
  mixed:=by kernel_rfl
  f6:=⟨Tryz.f101.name,by decide,Tryz.func101.trans (congrArg some (by kernel_rfl))⟩
  f14:=⟨Tryz.f138.name,by decide,Tryz.func138.trans (congrArg some (by kernel_rfl))⟩
  f15:=Tryz.func139.trans (congrArg some (by kernel_rfl))
  f20:=⟨Tryz.f161.name,by decide,Tryz.func161.trans (congrArg some (by kernel_rfl))⟩
  f21:=⟨Tryz.f162.name,by decide,Tryz.func162.trans (congrArg some (by kernel_rfl))⟩
  f22:=⟨Tryz.f163.name,by decide,Tryz.func163.trans (congrArg some (by kernel_rfl))⟩
  f23:=⟨Tryz.f164.name,by decide,Tryz.func164.trans (congrArg some (by kernel_rfl))⟩
  f24:=⟨Tryz.f165.name,by decide,Tryz.func165.trans (congrArg some (by kernel_rfl))⟩
  f25:=⟨Tryz.f166.name,by decide,Tryz.func166.trans (congrArg some (by kernel_rfl))⟩
  f26:=⟨Tryz.f167.name,by decide,Tryz.func167.trans (congrArg some (by kernel_rfl))⟩
  f27:=⟨Tryz.f168.name,by decide,Tryz.func168.trans (congrArg some (by kernel_rfl))⟩
  f28:=Tryz.func169.trans (congrArg some (by kernel_rfl))
  f29:=Tryz.func170.trans (congrArg some (by kernel_rfl))
  f46:=⟨Tryz.f192.name,by decide,Tryz.func192.trans (congrArg some (by kernel_rfl))⟩
  f47:=Tryz.func193.trans (congrArg some (by kernel_rfl))
  f48:=Tryz.func194.trans (congrArg some (by kernel_rfl))
  f49:=⟨Tryz.f195.name,by decide,Tryz.func195.trans (congrArg some (by kernel_rfl))⟩
  f50:=⟨Tryz.f196.name,by decide,Tryz.func196.trans (congrArg some (by kernel_rfl))⟩
  f57:=⟨Tryz.f213.name,by decide,Tryz.func213.trans (congrArg some (by kernel_rfl))⟩
  t0:=Tryz.underlying0
  a0:=Tryz.isAgg0
  z0:=Tryz.sizeOf0
  v0:=Tryz.zeroValue0
  t3:=Tryz.underlying3
  a3:=Tryz.isAgg3
  z3:=Tryz.sizeOf3
  v3:=Tryz.zeroValue3
  t4:=Tryz.underlying4
  a4:=Tryz.isAgg4
  z4:=Tryz.sizeOf4
  v4:=Tryz.zeroValue4
  t5:=Tryz.underlying5
  a5:=Tryz.isAgg5
  z5:=Tryz.sizeOf5
  v5:=Tryz.zeroValue5
  t9:=Tryz.underlying9
  a9:=Tryz.isAgg9
  z9:=Tryz.sizeOf9
  v9:=Tryz.zeroValue9
  t22:=Tryz.underlying23
  a22:=Tryz.isAgg23
  z22:=Tryz.sizeOf23
  v22:=Tryz.zeroValue23
  t25:=Tryz.underlying170
  a25:=Tryz.isAgg170
  z25:=Tryz.sizeOf170
  v25:=Tryz.zeroValue170
  t39:=Tryz.underlying224
  a39:=Tryz.isAgg224
  z39:=Tryz.sizeOf224
  v39:=Tryz.zeroValue224
  t45:=Tryz.underlying251
  a45:=Tryz.isAgg251
  z45:=Tryz.sizeOf251
  v45:=Tryz.zeroValue251
  t46:=Tryz.underlying252
  a46:=Tryz.isAgg252
  z46:=Tryz.sizeOf252
  v46:=Tryz.zeroValue252
  t50:=Tryz.underlying48
  a50:=Tryz.isAgg48
  z50:=Tryz.sizeOf48
  v50:=Tryz.zeroValue48
  t53:=Tryz.underlying258
  a53:=Tryz.isAgg258
  z53:=Tryz.sizeOf258
  v53:=Tryz.zeroValue258
  t55:=Tryz.underlying239
  a55:=Tryz.isAgg239
  z55:=Tryz.sizeOf239
  v55:=Tryz.zeroValue239
  t66:=Tryz.underlying280
  a66:=Tryz.isAgg280
  z66:=Tryz.sizeOf280
  v66:=Tryz.zeroValue280
  t70:=Tryz.underlying283
  a70:=Tryz.isAgg283
  z70:=Tryz.sizeOf283
  v70:=Tryz.zeroValue283
  t76:=Tryz.underlying296
  a76:=Tryz.isAgg296
  z76:=Tryz.sizeOf296
  v76:=Tryz.zeroValue296
  t77:=Tryz.underlying297
  a77:=Tryz.isAgg297
  z77:=Tryz.sizeOf297
  v77:=Tryz.zeroValue297 }
open Go.RowKit Go.Lib Go.Sort in
theorem Tryz.sortF_eq {α:Type} [Inhabited α] (k:Nat) (aE:∀ w,(isAgg 78).run Tryz.prog w=.ok true w) (zE:∀ w,(Go.sizeOf 78).run Tryz.prog w=.ok k w) (enc:α→List Value) (hk:∀ x,(enc x).length=k) (h1:∀ x,∀ v∈enc x,v.oneCell'=true) (cf:α→α→Int) (hO:SWO (ltOf cf)) (g:Nat) (cb:Array Value) (blk off cap:Nat) (d:Array α) (w:World) (eg:∀ args w,(callFunc g args).run Tryz.prog w=.ok (.enter g args) w) (hcmp:CmpLays Tryz.prog g cb enc k cf blk off d.size w) (hH:HoldsK enc k w blk off d) (hblk:blk < w.heap.size) (hsz:d.size < 4611686018427387904) :
    Calls Tryz.prog 101 #[.slice (some ⟨blk,off,none⟩) d.size cap,.func (.func g) #[] cb] w fun e w' =>
      e=.returned (.tuple #[])∧∃ n os,w'=sortWorldK enc k w blk off n (pdq (ltOf cf) d 0 d.size (Lib.bitLen d.size) true true) os:=AnyQ.slices_SortFunc_eq Tryz.laysS_f101 k aE zE enc hk h1 cf hO g cb blk off cap d w eg hcmp hH hblk hsz
open Go.RowKit Go.Lib Go.Sort in
theorem Tryz.sortF_none {α:Type} [Inhabited α] (p:Option Addr) (cap:Nat) (fv:Value) (w:World) :
    Calls Tryz.prog 101 #[.slice p 0 cap,fv] w fun e w'=>e=.returned (.tuple #[])∧w'=w:=AnyF.slices_SortFunc_none Tryz.laysS_f101 p cap fv w
end
section
open Go Go.RowKit Go.Lib Go.Sort
instance:Inhabited Fct:=⟨⟨0,0⟩⟩
def encF (x:Fct):List Value:=[.int .i64 x.var,.int .i64 x.val]
def cfF (x y:Fct):Int:=Lib.compareInt x.var y.var
theorem ltF (x y:Fct):ltOf cfF x y=decide (x.var < y.var):=by
  unfold ltOf cfF Lib.compareInt
  by_cases h:x.var < y.var
  · simp [h]
  · by_cases h2:y.var < x.var<;>simp [h,h2]
theorem swoF:SWO (ltOf cfF) where
  irrefl x:=by rw [ltF];simp
  trans x y z h1 h2:=by rw [ltF] at *;simp at *;omega
  ntrans x y z h1 h2:=by rw [ltF] at *;simp at *;omega
theorem compareI (a b:Int) (W:World):Calls Tryz.prog 103 #[.int .i64 a,.int .i64 b] W fun e w'=>e=.returned (.int .i64 (Lib.compareInt a b))∧w'=W:=by
  go_enter Tryz.func103,Tryz.ntmps103
  go_wp2
  · go_ret
    have h:a < b:=by assumption
    exact ⟨by simp [Lib.compareInt,h],rfl⟩
  · go_ret
    have h:b < a:=by assumption
    have h2:¬ a < b:=by omega
    exact ⟨by simp [Lib.compareInt,h,h2],rfl⟩
  · go_ret
    have h1:b≤a:=by assumption
    have h2:a≤b:=by assumption
    have h3:¬ a < b:=by omega
    have h4:¬ b < a:=by omega
    exact ⟨by simp [Lib.compareInt,h3,h4],rfl⟩
theorem closureF (x y:Fct) (W:World):Calls Tryz.prog 102 #[.agg #[.int .i64 x.var,.int .i64 x.val],.agg #[.int .i64 y.var,.int .i64 y.val]] W fun e w'=>e=.returned (.int .i64 (cfF x y))∧∃ q os',w'=grow (W.drewN q) os':=by
  have hcon:=fun W'=>compareI x.var y.var W'
  unfold cfF
  generalize Lib.compareInt x.var y.var=r at hcon ⊢
  go_enter Tryz.func102,Tryz.ntmps102
  go_wp2_with (go_at_call 103;refine (hcon _).mono ?_;rintro e w' ⟨rfl,rfl⟩)
  go_ret
  exact ⟨rfl,0,_,by rw [alloc_eq_grow,alloc_eq_grow,grow_grow];rfl⟩
theorem cmpLaysF (blk off size:Nat) (w:World):CmpLays Tryz.prog 102 #[] encF 2 cfF blk off size w:=fun _ _ _ _ x y=>closureF x y _
def AG (xs:List Fct):List Fct:=(pdq (ltOf cfF) xs.toArray 0 xs.length (Lib.bitLen xs.length) true true).toList
theorem PQ (xs:List Fct):PermIn 0 xs.toArray.size xs.toArray (AG xs).toArray∧SortedIn (ltOf cfF) 0 xs.toArray.size (AG xs).toArray:=by
  have:=pdq_sorts (ltOf cfF) swoF xs.toArray 0 xs.toArray.size (Lib.bitLen xs.length) true true (Nat.zero_le _) (Nat.le_refl _) (Or.inl rfl)
  simpa [AG] using this
theorem Ja (xs:List Fct):(AG xs).Perm xs:=by
  obtain ⟨⟨hsz,_,hperm⟩,_⟩:=PQ xs
  have e1:(AG xs).toArray.extract 0 xs.toArray.size=(AG xs).toArray:=by rw [← hsz];exact Array.extract_size
  rw [e1,Array.extract_size] at hperm
  simpa using hperm
theorem Dn (xs:List Fct):(AG xs).length=xs.length:=(Ja xs).length_eq
theorem Py (xs:List Fct):(AG xs).Pairwise fun x y=>x.var≤y.var:=by
  obtain ⟨_,hs⟩:=PQ xs
  have hl:=Dn xs
  rw [List.pairwise_iff_getElem]
  intro i j hi hj hij
  have:=hs i j (Nat.zero_le _) hij (by simp;omega)
  rw [getElem!_pos _ j (by simpa using hj),getElem!_pos _ i (by simpa using hi),ltF] at this
  simpa using this
theorem flatF:∀ (xs:List Fct),(flatK encF 2 xs.toArray).toList=xs.flatMap encF:=fun xs=>by
  apply List.ext_getElem?
  intro t
  have key:∀ (l:List Fct) (t:Nat),(l.flatMap encF)[t]?=(l[t / 2]?).bind fun x=>(encF x)[t % 2]?:=by
    intro l
    induction l with
    | nil=>intro t;simp
    | cons x l ih =>
      intro t
      rw [List.flatMap_cons]
      match t with
      | 0=>rfl
      | 1=>rfl
      | t + 2 =>
        rw [List.getElem?_append_right (by simp [encF]),show t + 2 - (encF x).length=t from by simp [encF],ih]
        rw [show (t + 2) / 2=t / 2 + 1 from by omega,show (t + 2) % 2=t % 2 from by omega]
        simp
  rw [key]
  by_cases ht:t < xs.length * 2
  · have h1:t / 2 < xs.length:=by omega
    have hsz:t < (flatK encF 2 xs.toArray).size:=by simpa using ht
    rw [Array.getElem?_toList,Array.getElem?_eq_getElem hsz,List.getElem?_eq_getElem h1,Option.bind_some]
    have:=get_flatK encF 2 xs.toArray t (by simpa using ht)
    rw [getElem!_pos (flatK encF 2 xs.toArray) t hsz,getElem!_pos xs.toArray (t / 2) (by simpa using h1)] at this
    rw [this]
    have h2:t % 2 < (encF xs[t / 2]).length:=by simp [encF];omega
    rw [List.getElem?_eq_getElem h2,List.getElem_toArray,getElem!_pos (encF xs[t / 2]) (t % 2) h2]
  · have h1:(flatK encF 2 xs.toArray).size≤t:=by rw [size_flatK];simpa using (by omega:xs.length * 2≤t)
    have h2:xs[t / 2]?=none:=List.getElem?_eq_none (by omega)
    rw [Array.getElem?_toList,Array.getElem?_eq_none h1,h2]
    rfl
theorem MS {w:World} {F:Nat→Prop}:∀ {xs:List Fct} {cells:List Value},Chunks w F cells xs→cells=xs.flatMap encF∧∀ x∈xs,inI64 x.var∧inI64 x.val
  | [],_,h=>⟨h,fun _ hx=>by simp at hx⟩
  | x :: xs,cells,⟨cs,rest,he,hr,hc⟩=>by
    obtain ⟨h1,h2⟩:=MS hc
    obtain ⟨h3,h4⟩:=hr
    refine ⟨by rw [he,h3,h1];rfl,fun y hy=>?_⟩
    rcases List.mem_cons.1 hy with rfl|hy
    · exact h4
    · exact h2 y hy
theorem MT {w:World} {F:Nat→Prop}:∀ {xs:List Fct},(∀ x∈xs,inI64 x.var∧inI64 x.val)→Chunks w F (xs.flatMap encF) xs
  | [],_=>rfl
  | x :: xs,h=>⟨encF x,xs.flatMap encF,rfl,⟨rfl,h x (by simp)⟩,MT fun y hy=>h y (by simp [hy])⟩
theorem FJ (xs:List Fct):(xs.flatMap encF).length=xs.length * 2:=by rw [← flatF,Array.length_toList,size_flatK];simp
theorem Ht {i:Nat} {w:World} {O:Lab} {v:Value} {xs:List Fct} (hR:Rw i w O 78 v xs) (hl:xs.length < 4611686018427387904) :
    Fn Tryz.prog 101 [v,.func (.func 102) #[] #[]] w fun _ w'=>∃ O',St (eT i) w O w' O'∧Rw i w' O' 78 v (AG xs):=by
  intro d
  rcases Nat.eq_zero_or_pos xs.length with h0|h0
  · have hx:xs=[]:=List.eq_nil_of_length_eq_zero h0
    subst hx
    obtain ⟨p,c,rfl⟩:=hR.form
    have hs:AG []=[]:=List.eq_nil_of_length_eq_zero (Dn [])
    exact (Tryz.sortF_none (α:=Fct) p c _ (dr w d)).mono fun e w' ⟨he,hw⟩=>⟨_,w,d,he,hw,O,St.refl _ _ _,by rw [hs];exact hR⟩
  · obtain ⟨g,cap,cells,sp,rfl,hg,hFg,hb,hc,hlen,hnc,hcm,htot⟩:=hR.1.open h0
    obtain ⟨rfl,hin⟩:=MS hc
    have hfl:=flatF xs
    have hH:HoldsK encF 2 (dr w d) g 0 xs.toArray:=fun j hj=>by
      have hj':j < xs.length * 2:=by simpa using hj
      refine ⟨?_,by rw [Nat.zero_add];exact hb.frozen j⟩
      rw [Nat.zero_add]
      refine hb.cell ?_
      rw [List.getElem?_append_left (by rw [FJ];exact hj'),← hfl,Array.getElem?_toList,Array.getElem?_eq_getElem hj,getElem!_pos _ j hj]
      rfl
    have aE:∀ w,(isAgg 78).run Tryz.prog w=.ok true w:=fun w=>GN w
    have zE:∀ w,(Go.sizeOf 78).run Tryz.prog w=.ok 2 w:=fun w=>DN w
    have eg:∀ args w,(callFunc 102 args).run Tryz.prog w=.ok (.enter 102 args) w:=enters_of Tryz.func102 (by kernel_rfl) rfl
    have hcall:=Tryz.sortF_eq 2 aE zE encF (fun _=>rfl) (fun x v hv=>by simp [encF] at hv;rcases hv with rfl|rfl<;>rfl) cfF swoF 102 #[] g 0 cap xs.toArray (dr w d) eg (cmpLaysF g 0 _ _) hH hb.lt (by simpa using hl)
    have e1:xs.toArray.size=xs.length:=by simp
    rw [e1] at hcall
    refine hcall.mono fun e w' ⟨he,n,os,hw⟩=>⟨_,w',w'.drawn,he,rfl,upO O w.heap.size (fun _=>0),?_,?_⟩
    · subst hw
      refine ⟨rfl,rfl,rfl,?_,fun k hk hne=>⟨?_,EO hk⟩⟩
      · show w.heap.size≤((w.heap.modify g _) ++ os).size
        simp
      · have hkg:g≠k:=fun e=>hne (by rw [← e];exact hR.2.1 g rfl)
        show ((w.heap.modify g _) ++ os)[k]?=_
        rw [Array.getElem?_append_left (by simpa using hk),Array.getElem?_modify,if_neg hkg]
    · have hpd:pdq (ltOf cfF) xs.toArray 0 xs.length (Lib.bitLen xs.length) true true=(AG xs).toArray:=by simp [AG]
      rw [hpd] at hw
      have hsl:=Dn xs
      have hf2:=flatF (AG xs)
      have hblk:Blk w' g 78 ((AG xs).flatMap encF ++ sp):=by
        subst hw
        unfold Blk at hb ⊢
        have hsz:g < w.heap.size:=Blk.lt hb
        show ((w.heap.modify g _) ++ os)[g]?=_
        rw [Array.getElem?_append_left (by simpa using hsz),Array.getElem?_modify,if_pos rfl,hb]
        simp only [Option.map_some,Go.Sort.onCells]
        congr 2
        apply Array.ext
        · simp only [Go.Sort.putCells,Array.size_mapIdx,List.size_toArray,List.length_append,FJ,hsl]
        · intro i h1 h2
          simp only [Go.Sort.putCells,Array.getElem_mapIdx,Nat.zero_add,Nat.sub_zero,Nat.zero_le,true_and]
          have e2:(flatK encF 2 (AG xs).toArray).size=xs.length * 2:=by rw [size_flatK];simp [hsl]
          by_cases hi:i < xs.length * 2
          · rw [if_pos (by rw [e2];exact hi)]
            simp only [List.getElem_toArray]
            rw [List.getElem_append_left (by rw [FJ,hsl];exact hi)]
            rw [getElem!_pos _ _ (by rw [e2];exact hi)]
            have:=congrArg (·[i]?) hf2
            simp only [Array.getElem?_toList] at this
            rw [Array.getElem?_eq_getElem (by rw [e2];exact hi),List.getElem?_eq_getElem (by rw [FJ,hsl];exact hi)] at this
            exact Option.some.inj this
          · rw [if_neg (by rw [e2];exact hi)]
            simp only [List.getElem_toArray]
            rw [List.getElem_append_right (by rw [FJ];omega),List.getElem_append_right (by rw [FJ,hsl];omega)]
            simp only [FJ,hsl]
      have hS:∀ k,Fr 0 w O k→Fr 0 w' (upO O w.heap.size fun _=>0) k:=fun k hk=>⟨by subst hw;show k < ((w.heap.modify g _) ++ os).size;have:=hk.1;simp;omega,(EO hk.1).trans hk.2⟩
      have:=Own.close (w:=w') (base:=0) (F:=Fr 0 w O) (cap:=cap) (Nat.zero_le _) hFg hblk (MT (F:=Fr 0 w O) (w:=w') fun x hx=>hin x ((Ja xs).mem_iff.1 hx)) (by rw [hsl];exact hnc) hcm (by rw [List.length_append,FJ] at htot ⊢;rw [hsl];exact htot)
      rw [hsl] at this
      exact this.rw hS (fun g' hg'=>by
        have:g=g':=by simpa [Value.ownBlock] using hg'
        subst this
        exact (EO hb.lt).trans (hR.2.1 g rfl)) hR.2.2
end
end Go.Proofs.YtjohlgjklmagnaaGreatDoor

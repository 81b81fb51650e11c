/- Own text: what the proof of repairCompiles_holds uses, part 4: rules, models and their proofs, plain laws. -/
import Derived.Test.YtafdmfhdjfkooaaGreatZCC
set_option linter.unusedVariables false
set_option linter.unusedSimpArgs false
namespace Go.Proofs.YtafdmfhdjfkooaaGreat
open Go Go.RowKit
section
open Go Go.RowKit
attribute [local irreducible] ewp owp hwp hwq hws Ev Evg Fn retPost loud loudS Res1
def GenR (w:World) (F:Nat→Prop) (gv:Value) (t:Tsk) (T:Tr):Prop :=
  ∃ gb a b c d r,gv=.pointer (some ⟨gb,0,none⟩)∧F gb∧Blk w gb 151 [a,b,c,d,r]∧Vb w F a t.vars∧Vb w F b t.init∧Vb w F c t.goal∧Vb w F d t.ops∧TrR w F T r
theorem Jv (z:Value) (n:Nat) (hz:z.cells=#[z]):(madeCells z.cells (n * 1)).toList=List.replicate n z:=by
  rw [hz,Nat.mul_one]
  apply List.ext_getElem
  · simp [madeCells]
  · intro i h1 h2
    simp [madeCells,Nat.mod_one]
theorem Hj {w:World} {F:Nat→Prop}:∀ n,Chunks w F (List.replicate n (.bool false)) (List.replicate n false)
  | 0=>rfl
  | n + 1=>⟨[.bool false],List.replicate n (.bool false),rfl,rfl,Hj n⟩
noncomputable def findL (t:Tsk) (T:Tr) (s:List Int):List Int:=if bof (StateOk t.vars s)=true then sortL (coll s T) else []
noncomputable def findN (t:Tsk) (T:Tr) (s:List Int):Nat:=if bof (StateOk t.vars s)=true then (look s T (List.replicate s.length false)).count true else 0
theorem Kq {l:List Bool} {k:Nat} {b:Bool} (h:l[k]?=some b):(l.take (k + 1)).count true=(l.take k).count true + if b=true then 1 else 0:=by
  rw [List.take_add_one,h,List.count_append]
  cases b<;>simp
theorem genFind {w:World} {gv sv:Value} {t:Tsk} {T:Tr} {s:List Int} (hg:GenR w (All w) gv t T) (hs:V w sv s) (hfit:StateOk t.vars s→Fits s T) (hlen:(coll s T).length≤1000000) (hsl:s.length≤1000000) :
    Fn Tryz.prog 94 [gv,sv] w fun v w'=>Ext w w'∧∃ u,v=.tuple #[u,.int .i64 (findN t T s:Int)]∧Own w' w.heap.size (All w) 3 u (findL t T s):=by
  obtain ⟨gb,a,b,c,d,r,rfl,hgb,hb1,hvars,hinit,hgoal,hops,hT⟩:=hg
  obtain ⟨Av,cv,rfl⟩:=hvars.form
  obtain ⟨As,cs,rfl⟩:=hs.form
  obtain ⟨rp,rfl⟩:=hT.form
  refine AJ Tryz.func94 rfl Tryz.ntmps94 rfl ?_
  ((repeat (first|refine Ah ?_|refine Al ?_|refine Ae ?_|refine Am ?_|refine Au ?_|refine At ?_|refine Ar rfl ?_|refine Aj rfl ?_))<;>(refine o_as rfl rfl ?_<;>refine o_as rfl rfl ?_<;>(first|refine Ay ?_|refine Az ?_|refine Aw ?_|refine AA ?_))<;>(repeat (first|refine Ah ?_|refine Al ?_|refine Ae ?_|refine Am ?_|refine Au ?_|refine At ?_|refine Ar rfl ?_|refine Aj rfl ?_))<;>(refine o_mv rfl rfl ?_<;>refine o_pn rfl rfl ?_<;>refine o_mv rfl rfl ?_<;>(first|(refine AC rfl rfl ?_;refine o_mv rfl rfl ?_)|refine AB rfl rfl rfl rfl ?_)<;>(first|(refine AC rfl rfl ?_;refine o_nc rfl rfl ?_)|refine AB rfl rfl rfl rfl ?_)<;>(first|(refine AC rfl rfl ?_;refine o_fa rfl rfl ?_)|refine AB rfl rfl rfl rfl ?_)<;>(first|(refine AC rfl rfl ?_;refine o_fa rfl rfl ?_)|refine AB rfl rfl rfl rfl ?_)<;>(first|(refine AC rfl rfl ?_;refine o_ld rfl rfl ?_)|refine AB rfl rfl rfl rfl ?_)<;>(first|(refine AC rfl rfl ?_;refine o_mv rfl rfl ?_)|refine AB rfl rfl rfl rfl ?_))<;>(repeat (first|refine Ah ?_|refine Al ?_|refine Ae ?_|refine Am ?_|refine Au ?_|refine At ?_|refine Ar rfl ?_|refine Aj rfl ?_)))
  refine AC rfl rfl ?_
  refine DU rfl rfl (taskProper hvars hs) ?_ ?_
  case refine_2 =>
    intro w1 hP hE1
    ((first|(refine AC rfl rfl ?_;(first|refine o_nt rfl rfl ?_|refine o_nf rfl rfl ?_|refine o_nn rfl rfl ?_))|refine AB rfl rfl rfl rfl ?_)<;>(first|refine o_pt rfl rfl rfl ?_|refine o_pf rfl rfl rfl ?_)<;>(first|refine Ay ?_|refine Az ?_|refine Aw ?_|refine AA ?_))
    repeat (first|refine Ah ?_|refine Al ?_|refine Ae ?_|refine Am ?_|refine Au ?_|refine At ?_|refine Ar rfl ?_|refine Aj rfl ?_)
    ((repeat (first|refine Ah ?_|refine Al ?_|refine Ae ?_|refine Am ?_|refine Au ?_|refine At ?_|refine Ar rfl ?_|refine Aj rfl ?_))<;>(refine o_as rfl rfl ?_<;>refine o_as rfl rfl ?_<;>(first|refine Ay ?_|refine Az ?_|refine Aw ?_|refine AA ?_))<;>(repeat (first|refine Ah ?_|refine Al ?_|refine Ae ?_|refine Am ?_|refine Au ?_|refine At ?_|refine Ar rfl ?_|refine Aj rfl ?_)))
    refine ret2 rfl (AF rfl) (AF rfl) ⟨hE1,.slice none 0 0,?_,?_⟩
    · rw [findN,bof_f hP];rfl
    · rw [findL,bof_f hP];exact Own.nil _ _ _ _
  intro w1 hok hE1
  replace hb1:=hb1.ext hE1
  ((first|(refine AC rfl rfl ?_;(first|refine o_nt rfl rfl ?_|refine o_nf rfl rfl ?_|refine o_nn rfl rfl ?_))|refine AB rfl rfl rfl rfl ?_)<;>(first|refine o_pt rfl rfl rfl ?_|refine o_pf rfl rfl rfl ?_)<;>(first|refine Ay ?_|refine Az ?_|refine Aw ?_|refine AA ?_))
  repeat (first|refine Ah ?_|refine Al ?_|refine Ae ?_|refine Am ?_|refine Au ?_|refine At ?_|refine Ar rfl ?_|refine Aj rfl ?_)
  (refine o_mv rfl rfl ?_<;>refine o_ln rfl rfl ?_)
  refine HI rfl rfl (by omega) (by omega) rfl fun w2 hN2=>?_
  replace hb1:=hb1.ext hN2.ext
  have hE2:Ext w w2:=hE1.trans' hN2.ext
  have hl2:Own w2 w.heap.size (· < w.heap.size) 4 (.slice (some ⟨w1.heap.size,0,none⟩) s.length s.length) (List.replicate s.length false) :=
    (Own.made hN2 (by rw [Jv _ _ rfl];exact Hj _) (by simp) (by have:=hE1.size;omega) (by omega)).lower hE1.size
  (refine o_as rfl rfl ?_<;>(first|refine Ay ?_|refine Az ?_|refine Aw ?_|refine AA ?_))
  repeat (first|refine Ah ?_|refine Al ?_|refine Ae ?_|refine Am ?_|refine Au ?_|refine At ?_|refine Ar rfl ?_|refine Aj rfl ?_)
  (refine o_mv rfl rfl ?_<;>refine o_nc rfl rfl ?_<;>refine o_fa rfl rfl ?_<;>refine o_ld rfl rfl ?_<;>refine o_mv rfl rfl ?_<;>refine o_mv rfl rfl ?_)
  refine AZ rfl rfl (collect w.heap.size s T w2 (.pointer rp) (.slice none 0 0) _ _ [] _ hE2.size (TrR.agree (hE2.agree fun _ h=>h) hT) (Vb.agree hs (hE2.agree fun _ h=>h)) (Own.nil _ _ _ _) hl2 (hfit hok) (by simp) (by simpa using hlen)) ?_
  rintro v3 w3 ⟨ho3,hl3,hB3⟩
  have hE3:Ext w w3:=hE2.trans hB3
  rw [List.nil_append] at ho3
  (refine o_as rfl rfl ?_<;>(first|refine Ay ?_|refine Az ?_|refine Aw ?_|refine AA ?_))
  repeat (first|refine Ah ?_|refine Al ?_|refine Ae ?_|refine Am ?_|refine Au ?_|refine At ?_|refine Ar rfl ?_|refine Aj rfl ?_)
  (refine o_mv rfl rfl ?_)
  refine AZ rfl rfl (sortInts ho3 hlen) ?_
  rintro _ w4 ⟨rfl,ho4,hK4⟩
  have hE4:Ext w w4:=hE3.trans (ho3.fits (Nat.le_refl _) hE3.size hK4)
  have hl4:=hl3.kept hK4 (fun k hk=>⟨Nat.lt_of_lt_of_le hk hE3.size,fun he=>by have:=(ho3.lt k he).1;have:k < w.heap.size:=hk;omega⟩) (fun g hg=>hl3.own_ne ho3 (by decide) g hg)
  have hlv:Vb w4 _ (.slice (some ⟨w1.heap.size,0,none⟩) s.length s.length) (look s T (List.replicate s.length false)):=hl4.vb
  have hll:(look s T (List.replicate s.length false)).length=s.length:=by rw [EV];simp
  ((first|refine Ay ?_|refine Az ?_|refine Aw ?_|refine AA ?_))
  repeat (first|refine Ah ?_|refine Al ?_|refine Ae ?_|refine Am ?_|refine Au ?_|refine At ?_|refine Ar rfl ?_|refine Aj rfl ?_)
  ((repeat (first|refine Ah ?_|refine Al ?_|refine Ae ?_|refine Am ?_|refine Au ?_|refine At ?_|refine Ar rfl ?_|refine Aj rfl ?_))<;>(refine o_as rfl rfl ?_<;>(first|refine Ay ?_|refine Az ?_|refine Aw ?_|refine AA ?_))<;>(repeat (first|refine Ah ?_|refine Al ?_|refine Ae ?_|refine Am ?_|refine Au ?_|refine At ?_|refine Ar rfl ?_|refine Aj rfl ?_))<;>(refine o_mv rfl rfl ?_<;>refine o_ln rfl rfl ?_<;>refine o_mv rfl rfl ?_<;>(first|refine Ay ?_|refine Az ?_|refine Aw ?_|refine AA ?_))<;>(repeat (first|refine Ah ?_|refine Al ?_|refine Ae ?_|refine Am ?_|refine Au ?_|refine At ?_|refine Ar rfl ?_|refine Aj rfl ?_)))
  refine Bu s.length (by omega) (fun n:Nat=>[(7,v3),(8,.int .i64 (n:Int)),(35,.slice (some ⟨w1.heap.size,0,none⟩) s.length s.length)]) (fun k n w'=>w'=w4∧n=((look s T (List.replicate s.length false)).take k).count true) 0
    ⟨rfl,by simp⟩ ⟨rfl,rfl,rfl,rfl,rfl,trivial⟩ (fun _=>⟨rfl,rfl⟩) ⟨rfl,rfl,rfl⟩ ⟨rfl,rfl⟩ ?_ ?_
  · rintro k n _ hk ⟨rfl,hn⟩
    obtain ⟨x,hx⟩:=AN (l:=look s T (List.replicate s.length false)) (k:=k) (by omega)
    obtain ⟨b2,o2,ce,he,_,_,hd1,rfl⟩:=hlv.elem hx
    injection he with he
    injection he with he1 he2
    subst he1;subst he2
    have hnl:n≤k:=by
      rw [hn]
      exact Nat.le_trans List.count_le_length (by rw [List.length_take];omega)
    have hst:=Kq hx
    cases x
    · ((repeat (first|refine Ah ?_|refine Al ?_|refine Ae ?_|refine Am ?_|refine Au ?_|refine At ?_|refine Ar rfl ?_|refine Aj rfl ?_))<;>(refine o_ia rfl rfl rfl ?_<;>refine o_ld rfl rfl ?_<;>refine o_as rfl rfl ?_<;>(first|refine Ay ?_|refine Az ?_|refine Aw ?_|refine AA ?_))<;>(repeat (first|refine Ah ?_|refine Al ?_|refine Ae ?_|refine Am ?_|refine Au ?_|refine At ?_|refine Ar rfl ?_|refine Aj rfl ?_))<;>(refine o_mv rfl rfl ?_<;>(first|refine Ay ?_|refine Az ?_|refine Aw ?_|refine AA ?_))<;>(repeat (first|refine Ah ?_|refine Al ?_|refine Ae ?_|refine Am ?_|refine Au ?_|refine At ?_|refine Ar rfl ?_|refine Aj rfl ?_)))
      exact ⟨n,⟨rfl,rfl,rfl,rfl,rfl,trivial⟩,rfl,by rw [hst,hn];simp⟩
    · ((repeat (first|refine Ah ?_|refine Al ?_|refine Ae ?_|refine Am ?_|refine Au ?_|refine At ?_|refine Ar rfl ?_|refine Aj rfl ?_))<;>(refine o_ia rfl rfl rfl ?_<;>refine o_ld rfl rfl ?_<;>refine o_as rfl rfl ?_<;>(first|refine Ay ?_|refine Az ?_|refine Aw ?_|refine AA ?_))<;>(repeat (first|refine Ah ?_|refine Al ?_|refine Ae ?_|refine Am ?_|refine Au ?_|refine At ?_|refine Ar rfl ?_|refine Aj rfl ?_))<;>(refine o_mv rfl rfl ?_<;>(first|refine Ay ?_|refine Az ?_|refine Aw ?_|refine AA ?_))<;>(repeat (first|refine Ah ?_|refine Al ?_|refine Ae ?_|refine Am ?_|refine Au ?_|refine At ?_|refine Ar rfl ?_|refine Aj rfl ?_))<;>(refine o_mv rfl rfl ?_<;>(first|refine o_ic rfl rfl ?_|refine o_ad rfl rfl rfl ?_)<;>refine o_as rfl rfl ?_<;>(first|refine Ay ?_|refine Az ?_|refine Aw ?_|refine AA ?_))<;>(repeat (first|refine Ah ?_|refine Al ?_|refine Ae ?_|refine Am ?_|refine Au ?_|refine At ?_|refine Ar rfl ?_|refine Aj rfl ?_)))
      exact ⟨n + 1,⟨rfl,rfl,rfl,rfl,rfl,trivial⟩,rfl,by rw [hst,hn];simp⟩
  rintro n _ ⟨rfl,hn⟩
  repeat (first|refine Ah ?_|refine Al ?_|refine Ae ?_|refine Am ?_|refine Au ?_|refine At ?_|refine Ar rfl ?_|refine Aj rfl ?_)
  ((repeat (first|refine Ah ?_|refine Al ?_|refine Ae ?_|refine Am ?_|refine Au ?_|refine At ?_|refine Ar rfl ?_|refine Aj rfl ?_))<;>(refine o_mv rfl rfl ?_<;>refine o_mv rfl rfl ?_<;>refine o_as rfl rfl ?_<;>refine o_as rfl rfl ?_<;>(first|refine Ay ?_|refine Az ?_|refine Aw ?_|refine AA ?_))<;>(repeat (first|refine Ah ?_|refine Al ?_|refine Ae ?_|refine Am ?_|refine Au ?_|refine At ?_|refine Ar rfl ?_|refine Aj rfl ?_)))
  refine ret2 rfl (AF rfl) (AF rfl) ⟨hE4,v3,?_,?_⟩
  · rw [findN,bof_t hok,if_pos rfl,hn,List.take_of_length_le (by omega)]
  · rw [findL,bof_t hok,if_pos rfl]
    exact ho4
section
variable {w : World} {gv sv : Value} {t : Tsk} {T : Tr} {s : List Int}
theorem genApplicable (hg:GenR w (All w) gv t T) (hs:V w sv s) (hfit:StateOk t.vars s→Fits s T) (hlen:(coll s T).length≤1000000) (hsl:s.length≤1000000) :
    Fn Tryz.prog 82 [gv,sv] w fun v w'=>Ext w w'∧Own w' w.heap.size (All w) 3 v (findL t T s):=by
  refine AJ Tryz.func82 rfl Tryz.ntmps82 rfl ?_
  ((repeat (first|refine Ah ?_|refine Al ?_|refine Ae ?_|refine Am ?_|refine Au ?_|refine At ?_|refine Ar rfl ?_|refine Aj rfl ?_))<;>(refine o_as rfl rfl ?_<;>(first|refine Ay ?_|refine Az ?_|refine Aw ?_|refine AA ?_))<;>(repeat (first|refine Ah ?_|refine Al ?_|refine Ae ?_|refine Am ?_|refine Au ?_|refine At ?_|refine Ar rfl ?_|refine Aj rfl ?_))<;>(refine o_mv rfl rfl ?_<;>refine o_mv rfl rfl ?_)<;>(repeat (first|refine Ah ?_|refine Al ?_|refine Ae ?_|refine Am ?_|refine Au ?_|refine At ?_|refine Ar rfl ?_|refine Aj rfl ?_)))
  refine AZ rfl rfl (genFind hg hs hfit hlen hsl) ?_
  rintro _ w1 ⟨hE,u,rfl,ho⟩
  (refine o_mv rfl rfl ?_<;>refine o_ex rfl rfl rfl ?_<;>refine o_ex rfl rfl rfl ?_<;>refine o_as rfl rfl ?_<;>refine o_as rfl rfl ?_<;>(first|refine Ay ?_|refine Az ?_|refine Aw ?_|refine AA ?_))
  repeat (first|refine Ah ?_|refine Al ?_|refine Ae ?_|refine Am ?_|refine Au ?_|refine At ?_|refine Ar rfl ?_|refine Aj rfl ?_)
  ((repeat (first|refine Ah ?_|refine Al ?_|refine Ae ?_|refine Am ?_|refine Au ?_|refine At ?_|refine Ar rfl ?_|refine Aj rfl ?_))<;>(refine o_mv rfl rfl ?_<;>refine o_as rfl rfl ?_<;>(first|refine Ay ?_|refine Az ?_|refine Aw ?_|refine AA ?_))<;>(repeat (first|refine Ah ?_|refine Al ?_|refine Ae ?_|refine Am ?_|refine Au ?_|refine At ?_|refine Ar rfl ?_|refine Aj rfl ?_)))
  exact ret1 rfl rfl ⟨hE,ho⟩
theorem Own.form {α:Type} [Rp α] {w:World} {base:Nat} {F:Nat→Prop} {e:TypeId} {v:Value} {xs:List α} (h:Own w base F e v xs):∃ A c,v=.slice A xs.length c:=h.vb.form
end
structure Suc where
  op:Int
  state:List Int
instance:Rp Suc where
  isAgg:=true
  size:=2
  R w F cs x:=∃ v,cs=[.int .i64 x.op,v]∧Vb w F v x.state∧inI64 x.op
  len:=by rintro w F cs x ⟨v,rfl,_⟩;rfl
  one:=by rintro w F cs x ⟨v,rfl,h,_⟩ u hu;simp at hu;rcases hu with rfl|rfl<;>first|rfl|exact Vb.one rfl (by assumption)
  agree:=by rintro w w' F cs x ⟨v,rfl,h,h2⟩ ha;exact ⟨v,rfl,h.agree ha,h2⟩
  mono:=by rintro w F G cs x ⟨v,rfl,h,h2⟩ ha;exact ⟨v,rfl,h.mono ha,h2⟩
end
section
open Go Go.RowKit
attribute [local irreducible] ewp owp hwp hwq hws Ev Evg Fn retPost loud loudS Res1
def GenB (w:World) (F:Nat→Prop) (gv:Value) (t:Tsk):Prop :=
  ∃ gb a b c d rp,gv=.pointer (some ⟨gb,0,none⟩)∧F gb∧Blk w gb 151 [a,b,c,d,.pointer rp]∧Vb w F a t.vars∧Vb w F b t.init∧Vb w F c t.goal∧Vb w F d t.ops
theorem GenB.agree {w w':World} {F:Nat→Prop} {gv:Value} {t:Tsk} (h:GenB w F gv t) (ha:Agree F w w'):GenB w' F gv t:=by
  obtain ⟨gb,a,b,c,d,r,h1,h2,h3,h4,h5,h6,h7⟩:=h
  exact ⟨gb,a,b,c,d,r,h1,h2,h3.keep (ha gb h2),h4.agree ha,h5.agree ha,h6.agree ha,h7.agree ha⟩
theorem GenB.mono {w:World} {F G:Nat→Prop} {gv:Value} {t:Tsk} (h:GenB w F gv t) (ha:∀ k,F k→G k):GenB w G gv t:=by
  obtain ⟨gb,a,b,c,d,r,h1,h2,h3,h4,h5,h6,h7⟩:=h
  exact ⟨gb,a,b,c,d,r,h1,ha _ h2,h3,h4.mono ha,h5.mono ha,h6.mono ha,h7.mono ha⟩
theorem GenB.ext {w w':World} {gv:Value} {t:Tsk} (h:GenB w (All w) gv t) (hE:Ext w w'):GenB w' (All w') gv t:=(h.agree (hE.agree fun _ h=>h)).mono fun k hk=>Nat.lt_of_lt_of_le hk hE.size
def factOn (l:List Fct) (v:Int):Option Fct:=l.find? fun f=>decide (f.var=v)
def factV:Option Fct→Value
  | some f=>.tuple #[.agg #[.int .i64 f.var,.int .i64 f.val],.bool true]
  | none=>.tuple #[.agg #[.int .i64 0,.int .i64 0],.bool false]
theorem IS {α:Type} (p:α→Bool):∀ {l:List α} {k:Nat} {x:α},l[k]?=some x→p x=true→(∀ i,i < k→∀ y,l[i]?=some y→p y=false)→l.find? p=some x
  | [],_,_,h,_,_=>by simp at h
  | y :: l,0,x,h,hp,_=>by
    have:y=x:=by simpa using h
    subst this;simp [hp]
  | y :: l,k + 1,x,h,hp,hn=>by
    have hy:=hn 0 (by omega) y rfl
    rw [List.find?_cons,hy]
    exact IS p (k:=k) (by simpa using h) hp fun i hi z hz=>hn (i + 1) (by omega) z (by simpa using hz)
theorem KP {α:Type} (p:α→Bool) {l:List α} (hn:∀ i,i < l.length→∀ y,l[i]?=some y→p y=false):l.find? p=none:=by
  rw [List.find?_eq_none]
  intro x hx
  obtain ⟨i,hi⟩:=List.getElem?_of_mem hx
  simp [hn i (Bj hi) x hi]
theorem genFact {w:World} {gv:Value} {t:Tsk} {j:Nat} {o:Opr} {v:Int} (hg:GenB w (All w) gv t) (ho:t.ops[j]?=some o) :
    Fn Tryz.prog 101 [gv,.int .i64 (j:Int),.int .i64 v] w fun r w'=>r=factV (factOn o.pre v)∧Ext w w':=by
  obtain ⟨gb,a,b,c,d,rp,rfl,hgb,hb0,hvars,hinit,hgoal,hops⟩:=hg
  obtain ⟨Ao,co,rfl⟩:=hops.form
  obtain ⟨b2,o2,ce,rfl,hbl,hjl,hd0,p,q,rfl,hp,hq,hc,hnm⟩:=hops.elem ho
  obtain ⟨Ap,cp,rfl⟩:=hp.form
  have hpl:=hp.len
  refine AJ Tryz.func101 rfl Tryz.ntmps101 rfl ?_
  repeat (first|refine Ah ?_|refine Al ?_|refine Ae ?_|refine Am ?_|refine Au ?_|refine At ?_|refine Ar rfl ?_|refine Aj rfl ?_)
  refine Df rfl fun w1 hN1=>?_
  have hres:=hN1.blk
  have hE1:Ext w w1:=hN1.ext
  have hb1:=hb0.ext hE1
  have hd1:=GX hd0 hbl hE1
  (refine o_as rfl rfl ?_<;>(first|refine Ay ?_|refine Az ?_|refine Aw ?_|refine AA ?_))
  repeat (first|refine Ah ?_|refine Al ?_|refine Ae ?_|refine Am ?_|refine Au ?_|refine At ?_|refine Ar rfl ?_|refine Aj rfl ?_)
  ((repeat (first|refine Ah ?_|refine Al ?_|refine Ae ?_|refine Am ?_|refine Au ?_|refine At ?_|refine Ar rfl ?_|refine Aj rfl ?_))<;>(refine o_mv rfl rfl ?_<;>refine o_nc rfl rfl ?_<;>refine o_fa rfl rfl ?_<;>refine o_fa rfl rfl ?_<;>refine o_ld rfl rfl ?_<;>refine o_mv rfl rfl ?_<;>refine o_ia rfl rfl rfl ?_<;>refine o_fa rfl rfl ?_<;>refine o_ld rfl rfl ?_<;>refine o_ln rfl rfl ?_<;>refine o_mv rfl rfl ?_<;>(first|refine Ay ?_|refine Az ?_|refine Aw ?_|refine AA ?_))<;>(repeat (first|refine Ah ?_|refine Al ?_|refine Ae ?_|refine Am ?_|refine Au ?_|refine At ?_|refine Ar rfl ?_|refine Aj rfl ?_)))
  refine Bu o.pre.length (by omega) (fun _:Unit=>[(2,.int .i64 v),(6,.pointer (some ⟨w.heap.size,0,none⟩)),(18,.slice Ap o.pre.length cp)]) (fun k _ w'=>Ext w1 w'∧∀ i,i < k→∀ f,o.pre[i]?=some f→decide (f.var=v)=false) ()
    ⟨Below.refl _ _,fun i hi=>by omega⟩ ⟨rfl,rfl,rfl,rfl,rfl,trivial⟩ (fun _=>⟨rfl,rfl⟩) ⟨rfl,rfl,rfl⟩ ⟨rfl,rfl⟩ ?_ ?_
  · rintro k _ w2 hk ⟨hE2,hh⟩
    obtain ⟨f,hf⟩:=AN hk
    obtain ⟨b3,o3,ce,rfl,_,_,hd1,rfl,hr1,hr2⟩:=(hp.ext (hE1.trans' hE2)).elem hf
    ((repeat (first|refine Ah ?_|refine Al ?_|refine Ae ?_|refine Am ?_|refine Au ?_|refine At ?_|refine Ar rfl ?_|refine Aj rfl ?_))<;>(refine o_ia rfl rfl rfl ?_<;>refine o_la rfl rfl ?_)<;>(repeat (first|refine Ah ?_|refine Al ?_|refine Ae ?_|refine Am ?_|refine Au ?_|refine At ?_|refine Ar rfl ?_|refine Aj rfl ?_)))
    refine BL rfl rfl rfl (by simp [Value.cells,Value.oneCell']) fun w3 hN3=>?_
    have hb2:=hN3.blk
    have hE3:Ext w1 w3:=hE2.trans' hN3.ext
    replace hres:=hres.ext hE3
    ((first|refine Ay ?_|refine Az ?_|refine Aw ?_|refine AA ?_))
    repeat (first|refine Ah ?_|refine Al ?_|refine Ae ?_|refine Am ?_|refine Au ?_|refine At ?_|refine Ar rfl ?_|refine Aj rfl ?_)
    ((repeat (first|refine Ah ?_|refine Al ?_|refine Ae ?_|refine Am ?_|refine Au ?_|refine At ?_|refine Ar rfl ?_|refine Aj rfl ?_))<;>(refine o_fa rfl rfl ?_<;>refine o_ld rfl rfl ?_<;>refine o_mv rfl rfl ?_<;>(first|refine o_eeT rfl rfl rfl ?_|refine o_eeF rfl rfl rfl ?_|refine o_eeS rfl rfl rfl (fun _=>?_) fun _=>?_)<;>(first|refine Ay ?_|refine Az ?_|refine Aw ?_|refine AA ?_))<;>(repeat (first|refine Ah ?_|refine Al ?_|refine Ae ?_|refine Am ?_|refine Au ?_|refine At ?_|refine Ar rfl ?_|refine Aj rfl ?_)))
    · (refine o_la rfl rfl ?_)
      refine Bp rfl rfl hres rfl (Nat.le_refl _) (by simp [Value.cells,Value.oneCell']) fun w4 hU=>?_
      (refine o_as rfl rfl ?_<;>(first|refine Ay ?_|refine Az ?_|refine Aw ?_|refine AA ?_))
      repeat (first|refine Ah ?_|refine Al ?_|refine Ae ?_|refine Am ?_|refine Au ?_|refine At ?_|refine Ar rfl ?_|refine Aj rfl ?_)
      refine ret2 rfl (Bf rfl rfl hU.blk.cellsAt) (AF rfl) ⟨?_,hE1.trans ((hE3.mono hE1.size).trans (hU.below (Nat.le_refl _)))⟩
      rw [factOn,IS _ hf (by simpa using ‹f.var=v›) hh]
      rfl
    · exact ⟨(),⟨rfl,rfl,rfl,rfl,rfl,trivial⟩,hE3,CO hh fun f' hf'=>by rw [hf] at hf';injection hf' with hf';subst hf';simpa using ‹¬ f.var=v›⟩
  rintro _ w2 ⟨hE2,hh⟩
  replace hres:=hres.ext hE2
  repeat (first|refine Ah ?_|refine Al ?_|refine Ae ?_|refine Am ?_|refine Au ?_|refine At ?_|refine Ar rfl ?_|refine Aj rfl ?_)
  (refine o_bd rfl rfl rfl ?_)
  refine Bp rfl rfl hres rfl (Nat.le_refl _) (by simp [Value.cells,Value.oneCell',setParts]) fun w4 hU=>?_
  (refine o_as rfl rfl ?_<;>(first|refine Ay ?_|refine Az ?_|refine Aw ?_|refine AA ?_))
  repeat (first|refine Ah ?_|refine Al ?_|refine Ae ?_|refine Am ?_|refine Au ?_|refine At ?_|refine Ar rfl ?_|refine Aj rfl ?_)
  refine ret2 rfl (Bf rfl rfl hU.blk.cellsAt) (AF rfl) ⟨?_,hE1.trans ((hE2.mono hE1.size).trans (hU.below (Nat.le_refl _)))⟩
  rw [factOn,KP _ hh]
  rfl
theorem genBuild1 {w:World} {gv:Value} {t:Tsk} {j:Nat} {o:Opr} {v:Int} {g1 g2:Nat} {r1 r2:TypeId} (hg:GenB w (All w) gv t) (ho:t.ops[j]?=some o) (h1:Blk w g1 r1 [gv]) (h2:Blk w g2 r2 [.int .i64 v]) :
    Fn Tryz.prog 100 ([.int .i64 (j:Int)] ++ [.pointer (some ⟨g1,0,none⟩),.pointer (some ⟨g2,0,none⟩)]) w fun r w'=>r=.bool (factOn o.pre v).isSome∧Ext w w':=by
  have hb1:=h1
  have hb2:=h2
  refine AJ Tryz.func100 rfl Tryz.ntmps100 rfl ?_
  ((repeat (first|refine Ah ?_|refine Al ?_|refine Ae ?_|refine Am ?_|refine Au ?_|refine At ?_|refine Ar rfl ?_|refine Aj rfl ?_))<;>(refine o_as rfl rfl ?_<;>(first|refine Ay ?_|refine Az ?_|refine Aw ?_|refine AA ?_))<;>(repeat (first|refine Ah ?_|refine Al ?_|refine Ae ?_|refine Am ?_|refine Au ?_|refine At ?_|refine Ar rfl ?_|refine Aj rfl ?_))<;>(refine o_ld rfl rfl ?_<;>refine o_mv rfl rfl ?_<;>refine o_ld rfl rfl ?_)<;>(repeat (first|refine Ah ?_|refine Al ?_|refine Ae ?_|refine Am ?_|refine Au ?_|refine At ?_|refine Ar rfl ?_|refine Aj rfl ?_)))
  refine AZ rfl rfl (genFact hg ho) ?_
  rintro _ w1 ⟨rfl,hE1⟩
  cases hf:factOn o.pre v with
  | none =>
    simp only [factV]
    (refine o_mv rfl rfl ?_<;>refine o_ex rfl rfl rfl ?_<;>refine o_ex rfl rfl rfl ?_)
    refine BL rfl rfl rfl (by simp [Value.cells,Value.oneCell']) fun w2 hN2=>?_
    (refine o_as rfl rfl ?_<;>(first|refine Ay ?_|refine Az ?_|refine Aw ?_|refine AA ?_))
    repeat (first|refine Ah ?_|refine Al ?_|refine Ae ?_|refine Am ?_|refine Au ?_|refine At ?_|refine Ar rfl ?_|refine Aj rfl ?_)
    ((repeat (first|refine Ah ?_|refine Al ?_|refine Ae ?_|refine Am ?_|refine Au ?_|refine At ?_|refine Ar rfl ?_|refine Aj rfl ?_))<;>(refine o_mv rfl rfl ?_<;>refine o_as rfl rfl ?_<;>(first|refine Ay ?_|refine Az ?_|refine Aw ?_|refine AA ?_))<;>(repeat (first|refine Ah ?_|refine Al ?_|refine Ae ?_|refine Am ?_|refine Au ?_|refine At ?_|refine Ar rfl ?_|refine Aj rfl ?_)))
    exact ret1 rfl rfl ⟨rfl,hE1.trans' hN2.ext⟩
  | some f =>
    simp only [factV]
    (refine o_mv rfl rfl ?_<;>refine o_ex rfl rfl rfl ?_<;>refine o_ex rfl rfl rfl ?_)
    refine BL rfl rfl rfl (by simp [Value.cells,Value.oneCell']) fun w2 hN2=>?_
    (refine o_as rfl rfl ?_<;>(first|refine Ay ?_|refine Az ?_|refine Aw ?_|refine AA ?_))
    repeat (first|refine Ah ?_|refine Al ?_|refine Ae ?_|refine Am ?_|refine Au ?_|refine At ?_|refine Ar rfl ?_|refine Aj rfl ?_)
    ((repeat (first|refine Ah ?_|refine Al ?_|refine Ae ?_|refine Am ?_|refine Au ?_|refine At ?_|refine Ar rfl ?_|refine Aj rfl ?_))<;>(refine o_mv rfl rfl ?_<;>refine o_as rfl rfl ?_<;>(first|refine Ay ?_|refine Az ?_|refine Aw ?_|refine AA ?_))<;>(repeat (first|refine Ah ?_|refine Al ?_|refine Ae ?_|refine Am ?_|refine Au ?_|refine At ?_|refine Ar rfl ?_|refine Aj rfl ?_)))
    exact ret1 rfl rfl ⟨rfl,hE1.trans' hN2.ext⟩
end
section
open Go Go.RowKit
attribute [local irreducible] ewp owp hwp hwq hws Ev Evg Fn retPost loud loudS Res1
theorem indexFuncInts {w:World} {sv:Value} {xs:List (Int)} {g:FuncId} [Callable Tryz.prog g] {caps:List Value} {p:Int→Prop} (hs:V w sv xs)
    (hg:∀ v x w',x∈xs→Ext w w'→V w' v x→Fn Tryz.prog g ([v] ++ caps) w' fun r w''=>r=.bool (bof (p x))∧Ext w' w'') :
    Fn Tryz.prog 104 [sv,.func (.func g) #[] caps.toArray] w fun v w'=>((∃ k:Nat,v=.int .i64 (k:Int)∧∃ x∈xs,p x)∨(v=.int .i64 (-1)∧∀ x∈xs,¬ p x))∧Ext w w':=by
  obtain ⟨A,c,rfl⟩:=hs.form
  have hl:=hs.len
  refine AJ Tryz.func104 rfl Tryz.ntmps104 rfl ?_
  ((repeat (first|refine Ah ?_|refine Al ?_|refine Ae ?_|refine Am ?_|refine Au ?_|refine At ?_|refine Ar rfl ?_|refine Aj rfl ?_))<;>(refine o_as rfl rfl ?_<;>(first|refine Ay ?_|refine Az ?_|refine Aw ?_|refine AA ?_))<;>(repeat (first|refine Ah ?_|refine Al ?_|refine Ae ?_|refine Am ?_|refine Au ?_|refine At ?_|refine Ar rfl ?_|refine Aj rfl ?_))<;>(refine o_mv rfl rfl ?_<;>refine o_ln rfl rfl ?_<;>refine o_mv rfl rfl ?_<;>(first|refine Ay ?_|refine Az ?_|refine Aw ?_|refine AA ?_))<;>(repeat (first|refine Ah ?_|refine Al ?_|refine Ae ?_|refine Am ?_|refine Au ?_|refine At ?_|refine Ar rfl ?_|refine Aj rfl ?_)))
  refine Bu xs.length (by omega) (fun _:Unit=>[(0,.slice A xs.length c),(1,.func (.func g) #[] caps.toArray)]) (fun k _ w'=>Ext w w'∧∀ i,i < k→∀ x,xs[i]?=some x→¬ p x) ()
    ⟨Below.refl _ _,fun i hi=>by omega⟩ ⟨rfl,rfl,rfl,rfl,trivial⟩ (fun _=>⟨rfl,rfl⟩) ⟨rfl,rfl,rfl⟩ ⟨rfl,rfl⟩ ?_ ?_
  · rintro k _ w1 hk ⟨hE,hh⟩
    obtain ⟨x,hx⟩:=AN hk
    obtain ⟨b,o,ce,rfl,_,_,hd1,hR⟩:=(hs.ext hE).elem hx
    obtain ⟨v,rfl⟩:=List.length_eq_one_iff.1 (Rp.len hR)
    ((repeat (first|refine Ah ?_|refine Al ?_|refine Ae ?_|refine Am ?_|refine Au ?_|refine At ?_|refine Ar rfl ?_|refine Aj rfl ?_))<;>(refine o_mv rfl rfl ?_<;>refine o_as rfl rfl ?_<;>(first|refine Ay ?_|refine Az ?_|refine Aw ?_|refine AA ?_))<;>(repeat (first|refine Ah ?_|refine Al ?_|refine Ae ?_|refine Am ?_|refine Au ?_|refine At ?_|refine Ar rfl ?_|refine Aj rfl ?_))<;>(refine o_mv rfl rfl ?_<;>refine o_mv rfl rfl ?_<;>refine o_mv rfl rfl ?_<;>refine o_ia rfl rfl rfl ?_<;>refine o_ld rfl rfl ?_)<;>(repeat (first|refine Ah ?_|refine Al ?_|refine Ae ?_|refine Am ?_|refine Au ?_|refine At ?_|refine Ar rfl ?_|refine Aj rfl ?_)))
    refine IJ rfl rfl rfl (hg v x w1 (List.mem_of_getElem? hx) hE hR) ?_
    rintro _ w2 ⟨rfl,hE2⟩
    by_cases hp:p x
    · rw [bof_t hp]
      ((first|refine Ay ?_|refine Az ?_|refine Aw ?_|refine AA ?_))
      repeat (first|refine Ah ?_|refine Al ?_|refine Ae ?_|refine Am ?_|refine Au ?_|refine At ?_|refine Ar rfl ?_|refine Aj rfl ?_)
      ((repeat (first|refine Ah ?_|refine Al ?_|refine Ae ?_|refine Am ?_|refine Au ?_|refine At ?_|refine Ar rfl ?_|refine Aj rfl ?_))<;>(refine o_mv rfl rfl ?_<;>refine o_as rfl rfl ?_<;>(first|refine Ay ?_|refine Az ?_|refine Aw ?_|refine AA ?_))<;>(repeat (first|refine Ah ?_|refine Al ?_|refine Ae ?_|refine Am ?_|refine Au ?_|refine At ?_|refine Ar rfl ?_|refine Aj rfl ?_)))
      exact ret1 rfl rfl ⟨.inl ⟨k,rfl,x,List.mem_of_getElem? hx,hp⟩,hE.trans' hE2⟩
    · rw [bof_f hp]
      ((first|refine Ay ?_|refine Az ?_|refine Aw ?_|refine AA ?_))
      repeat (first|refine Ah ?_|refine Al ?_|refine Ae ?_|refine Am ?_|refine Au ?_|refine At ?_|refine Ar rfl ?_|refine Aj rfl ?_)
      exact ⟨(),⟨rfl,rfl,rfl,rfl,trivial⟩,hE.trans' hE2,CO hh fun x' hx'=>by rw [hx] at hx';injection hx' with hx';exact hx' ▸ hp⟩
  rintro _ w1 ⟨hE,hh⟩
  repeat (first|refine Ah ?_|refine Al ?_|refine Ae ?_|refine Am ?_|refine Au ?_|refine At ?_|refine Ar rfl ?_|refine Aj rfl ?_)
  ((repeat (first|refine Ah ?_|refine Al ?_|refine Ae ?_|refine Am ?_|refine Au ?_|refine At ?_|refine Ar rfl ?_|refine Aj rfl ?_))<;>(refine o_as rfl rfl ?_<;>(first|refine Ay ?_|refine Az ?_|refine Aw ?_|refine AA ?_))<;>(repeat (first|refine Ah ?_|refine Al ?_|refine Ae ?_|refine Am ?_|refine Au ?_|refine At ?_|refine Ar rfl ?_|refine Aj rfl ?_)))
  refine ret1 rfl rfl ⟨.inr ⟨rfl,fun x hx=>?_⟩,hE⟩
  obtain ⟨i,hi⟩:=List.getElem?_of_mem hx
  exact hh i (Bj hi) x hi
theorem containsFuncInts {w:World} {sv:Value} {xs:List (Int)} {g:FuncId} [Callable Tryz.prog g] {caps:List Value} {p:Int→Prop} (hs:V w sv xs)
    (hg:∀ v x w',x∈xs→Ext w w'→V w' v x→Fn Tryz.prog g ([v] ++ caps) w' fun r w''=>r=.bool (bof (p x))∧Ext w' w'') :
    Fn Tryz.prog 99 [sv,.func (.func g) #[] caps.toArray] w fun v w'=>v=.bool (bof (∃ x∈xs,p x))∧Ext w w':=by
  refine AJ Tryz.func99 rfl Tryz.ntmps99 rfl ?_
  ((repeat (first|refine Ah ?_|refine Al ?_|refine Ae ?_|refine Am ?_|refine Au ?_|refine At ?_|refine Ar rfl ?_|refine Aj rfl ?_))<;>(refine o_as rfl rfl ?_<;>(first|refine Ay ?_|refine Az ?_|refine Aw ?_|refine AA ?_))<;>(repeat (first|refine Ah ?_|refine Al ?_|refine Ae ?_|refine Am ?_|refine Au ?_|refine At ?_|refine Ar rfl ?_|refine Aj rfl ?_))<;>(refine o_mv rfl rfl ?_<;>refine o_mv rfl rfl ?_)<;>(repeat (first|refine Ah ?_|refine Al ?_|refine Ae ?_|refine Am ?_|refine Au ?_|refine At ?_|refine Ar rfl ?_|refine Aj rfl ?_)))
  refine AZ rfl rfl (indexFuncInts hs hg) ?_
  rintro v w1 ⟨h,hE⟩
  rcases h with ⟨k,rfl,h⟩|⟨rfl,h⟩
  · ((first|refine o_geT rfl rfl rfl ?_|refine o_geF rfl rfl rfl ?_)<;>refine o_as rfl rfl ?_<;>(first|refine Ay ?_|refine Az ?_|refine Aw ?_|refine AA ?_))
    repeat (first|refine Ah ?_|refine Al ?_|refine Ae ?_|refine Am ?_|refine Au ?_|refine At ?_|refine Ar rfl ?_|refine Aj rfl ?_)
    exact ret1 rfl rfl ⟨by rw [bof_t h],hE⟩
  · ((first|refine o_geT rfl rfl rfl ?_|refine o_geF rfl rfl rfl ?_)<;>refine o_as rfl rfl ?_<;>(first|refine Ay ?_|refine Az ?_|refine Aw ?_|refine AA ?_))
    repeat (first|refine Ah ?_|refine Al ?_|refine Ae ?_|refine Am ?_|refine Au ?_|refine At ?_|refine Ar rfl ?_|refine Aj rfl ?_)
    exact ret1 rfl rfl ⟨by rw [bof_f (fun ⟨x,hx,hp⟩=>h x hx hp)],hE⟩
end
section
open Go Go.RowKit
attribute [local irreducible] ewp owp hwp hwq hws Ev Evg Fn retPost loud loudS Res1
def preOf (t:Tsk) (op:Int):List Fct:=match t.ops[op.toNat]? with|some o=>o.pre|none=>[]
def tests (t:Tsk) (ops:List Int) (v:Nat):Bool:=ops.any fun op=>(factOn (preOf t op) (v:Int)).isSome
def nextF (t:Tsk) (ops:List Int):Nat→Nat→Nat
  | 0,v=>v
  | k + 1,v=>if tests t ops v=true then v else nextF t ops k (v + 1)
def nextV (t:Tsk) (ops:List Int) (v:Nat):Nat:=nextF t ops (t.vars.length - v) v
def valB (t:Tsk) (u:Nat) (x:Nat) (op:Int):Bool:=match factOn (preOf t op) (u:Int) with|some f=>decide (f.val=(x:Int))|none=>false
def restB (t:Tsk) (u:Nat) (op:Int):Bool:=(factOn (preOf t op) (u:Int)).isNone
def mkT (t:Tsk):Nat→List Int→Nat→Tr
  | 0,_,_=>.nil
  | fuel + 1,ops,v =>
    if ops.isEmpty then .nil
    else if nextV t ops v=t.vars.length then .leaf ops
    else .node (nextV t ops v) (t.vars[nextV t ops v]?.getD 0).toNat (fun x=>mkT t fuel (ops.filter (valB t (nextV t ops v) x)) (nextV t ops v + 1)) (mkT t fuel (ops.filter (restB t (nextV t ops v))) (nextV t ops v + 1))
theorem Gy (t:Tsk) (ops:List Int):∀ (k v:Nat),v≤nextF t ops k v∧nextF t ops k v≤v + k∧(∀ u,v≤u→u < nextF t ops k v→tests t ops u=false)∧(nextF t ops k v < v + k→tests t ops (nextF t ops k v)=true)
  | 0,v=>by simp [nextF];intro u h1 h2;omega
  | k + 1,v=>by
    by_cases h:tests t ops v=true
    · simp only [nextF,h,if_true]
      exact ⟨Nat.le_refl _,by omega,fun u h1 h2=>by omega,fun _=>trivial⟩
    · obtain ⟨h1,h2,h3,h4⟩:=Gy t ops k (v + 1)
      simp only [nextF,h]
      refine ⟨by simp;omega,by simp;omega,fun u hu1 hu2=>?_,fun hlt=>h4 (by simp at hlt;omega)⟩
      by_cases he:u=v
      · subst he;simpa using h
      · exact h3 u (by omega) (by simpa using hu2)
theorem KZ (t:Tsk) (ops:List Int) {v u:Nat} (h1:v≤u) (h2:u≤t.vars.length) (h3:∀ x,v≤x→x < u→tests t ops x=false) (h4:u < t.vars.length→tests t ops u=true):nextV t ops v=u:=by
  obtain ⟨g1,g2,g3,g4⟩:=Gy t ops (t.vars.length - v) v
  unfold nextV
  rcases Nat.lt_trichotomy (nextF t ops (t.vars.length - v) v) u with h|h|h
  · have:=h3 _ g1 h
    rw [g4 (by omega)] at this;cases this
  · exact h
  · have:=g3 u h1 h
    rw [h4 (by omega)] at this;cases this
def OpsIn (t:Tsk) (ops:List Int):Prop:=∀ op∈ops,0≤op∧op < t.ops.length
def FitsVals (t:Tsk):Prop:=∀ (i:Nat) o,t.ops[i]?=some o→∀ (v:Nat) f,factOn o.pre (v:Int)=some f→v < t.vars.length→0≤f.val∧∃ n,t.vars[v]?=some n∧f.val < n
structure ByInv (w:World) (base gby:Nat) (vals:List Value) (rv:Value) (L:Nat→List Int) (R:List Int) (m:Nat):Prop where
  len:vals.length=m
  blk:Blk w gby 22 vals
  own:∀ (i:Nat) (u:Value),vals[i]?=some u→Own w base (fun _=>False) 3 u (L i)
  rest:Own w base (fun _=>False) 3 rv R
  apart:∀ (i j:Nat) (u u':Value),i≠j→vals[i]?=some u→vals[j]?=some u'→∀ g,u.ownBlock=some g→u'.ownBlock≠some g
  apartR:∀ (i:Nat) (u:Value),vals[i]?=some u→∀ g,u.ownBlock=some g→rv.ownBlock≠some g
theorem ByInv.ext {w w':World} {base gby:Nat} {vals:List Value} {rv:Value} {L:Nat→List Int} {R:List Int} {m:Nat} (h:ByInv w base gby vals rv L R m) (hE:Ext w w'):ByInv w' base gby vals rv L R m :=
  ⟨h.len,h.blk.ext hE,fun i u hu=>(h.own i u hu).ext hE fun _ hk=>hk.elim,h.rest.ext hE fun _ hk=>hk.elim,h.apart,h.apartR⟩
theorem ByInv.putRest {w w':World} {base gby:Nat} {vals:List Value} {rv rv':Value} {L:Nat→List Int} {R R':List Int} {m:Nat} (h:ByInv w base gby vals rv L R m) (hK:Kept w w' rv) (ho:Own w' base (fun _=>False) 3 rv' R')
    (hat:rv'.ownBlock=rv.ownBlock∨∃ g,rv'.ownBlock=some g∧w.heap.size≤g):ByInv w' base gby vals rv' L R' m:=by
  refine ⟨h.len,hK.blk h.blk (h.rest.blk_ne h.blk (by decide)),fun i u hu=>(h.own i u hu).kept hK (fun _ hk=>hk.elim) (h.apartR i u hu),ho,h.apart,fun i u hu g hg he=>?_⟩
  rcases hat with hat|⟨g',hat,hge⟩
  · exact h.apartR i u hu g hg (hat ▸ he)
  · have:=((h.own i u hu).lt g hg).2
    rw [hat] at he;injection he with he;omega
theorem ByInv.putVal {w w' w'':World} {base gby:Nat} {vals:List Value} {rv u v':Value} {L:Nat→List Int} {R:List Int} {m i:Nat} {xs:List Int} (h:ByInv w base gby vals rv L R m) (hu:vals[i]?=some u) (hK:Kept w w' u) (ho:Own w' base (fun _=>False) 3 v' xs)
    (hat:v'.ownBlock=u.ownBlock∨∃ g,v'.ownBlock=some g∧w.heap.size≤g) (hU:Upd w' w'' gby 22 (vals.set i v')):ByInv w'' base gby (vals.set i v') rv (fun j=>if j=i then xs else L j) R m:=by
  have hi:i < vals.length:=(List.getElem?_eq_some_iff.1 hu).1
  have key:∀ {v:Value} {ys:List Int},Own w' base (fun _=>False) 3 v ys→Own w'' base (fun _=>False) 3 v ys:=fun hv=>by
    have hne:=hv.blk_ne (hK.blk h.blk ((h.own i u hu).blk_ne h.blk (by decide))) (by decide)
    exact hv.agree (fun _ hk=>hk.elim) fun g hg=>hU.other g fun he=>hne (he ▸ hg)
  have sep:∀ {y:Value} {ys:List Int},Own w base (fun _=>False) 3 y ys→(∀ g,u.ownBlock=some g→y.ownBlock≠some g)→∀ g,v'.ownBlock=some g→y.ownBlock≠some g:=fun hy hsep g hg he=>by
    rcases hat with hat|⟨g',hat,hge⟩
    · exact hsep g (hat ▸ hg) he
    · have:=(hy.lt g he).2
      rw [hat] at hg;injection hg with hg;omega
  refine ⟨by rw [List.length_set];exact h.len,hU.blk,fun j y hy=>?_,key (h.rest.kept hK (fun _ hk=>hk.elim) fun g hg he=>h.apartR i u hu g he hg),fun j k y y' hjk hy hy' g hg=>?_,fun j y hy g hg=>?_⟩
  · by_cases hj:j=i
    · subst hj
      rw [List.getElem?_set_self hi] at hy
      injection hy with hy;subst hy
      rw [if_pos rfl];exact key ho
    · rw [List.getElem?_set_ne (Ne.symm hj)] at hy
      rw [if_neg hj]
      exact key ((h.own j y hy).kept hK (fun _ hk=>hk.elim) (h.apart j i y u hj hy hu))
  · by_cases hj:j=i
    · subst hj
      rw [List.getElem?_set_self hi] at hy
      injection hy with hy;subst hy
      rw [List.getElem?_set_ne hjk] at hy'
      exact sep (h.own k y' hy') (h.apart j k u y' hjk hu hy') g hg
    · rw [List.getElem?_set_ne (Ne.symm hj)] at hy
      by_cases hk:k=i
      · subst hk
        rw [List.getElem?_set_self hi] at hy'
        injection hy' with hy';subst hy'
        intro he
        exact sep (h.own j y hy) (h.apart k j u y (Ne.symm hj) hu hy) g he hg
      · rw [List.getElem?_set_ne (Ne.symm hk)] at hy'
        exact h.apart j k y y' hjk hy hy' g hg
  · by_cases hj:j=i
    · subst hj
      rw [List.getElem?_set_self hi] at hy
      injection hy with hy;subst hy
      exact sep h.rest (h.apartR j u hu) g hg
    · rw [List.getElem?_set_ne (Ne.symm hj)] at hy
      exact h.apartR j y hy g hg
instance:Rp Tr where
  isAgg:=false
  size:=1
  R w F cs T:=∃ q,cs=[.pointer q]∧TrR w F T (.pointer q)
  len:=by rintro w F cs x ⟨v,rfl,_⟩;rfl
  one:=by rintro w F cs x ⟨v,rfl,h⟩ u hu;simp at hu;subst hu;rfl
  agree:=by rintro w w' F cs x ⟨v,rfl,h⟩ ha;exact ⟨v,rfl,TrR.agree ha h⟩
  mono:=by rintro w F G cs x ⟨v,rfl,h⟩ ha;exact ⟨v,rfl,TrR.mono ha h⟩
def more (F:Nat→Prop) (w w':World):Nat→Prop:=fun k=>F k∨w.heap.size≤k∧k < w'.heap.size
theorem EW {p:Int→Bool} {l:List Int} {k:Nat} {x:Int} (h:l[k]?=some x):(l.take (k + 1)).filter p=(l.take k).filter p ++ if p x=true then [x] else []:=by
  rw [List.take_add_one,h,List.filter_append]
  cases hp:p x<;>simp [hp]
theorem KQ (n:Nat):(madeCells (Value.slice none 0 0).cells (n * 1)).toList=List.replicate n (.slice none 0 0):=Jv _ n rfl
theorem genBuild (t:Tsk) (hdom:VarsOk t) (hfv:FitsVals t) (hvl:t.vars.length≤64):∀ (fuel:Nat) (w:World) (gv opsv:Value) (ops:List Int) (v:Nat) (F:Nat→Prop),GenB w (All w) gv t→Vb w F opsv ops→(∀ k,F k→k < w.heap.size)→OpsIn t ops→ops.length≤4096 →
    v≤t.vars.length→t.vars.length < fuel + v→Fn Tryz.prog 88 [gv,opsv,.int .i64 (v:Int)] w fun p w'=>TrR w' (more F w w') (mkT t fuel ops v) p∧Ext w w':=by
  intro fuel
  induction fuel with
  | zero=>intro w gv opsv ops v F _ _ _ _ _ h1 h2;omega
  | succ fuel ih =>
    intro w gv opsv ops v F hg0 hops hF hin hlen hvn hfuel
    obtain ⟨gb,a,b,c,d,rp,rfl,hgb,hbg,hvars,hinit,hgoal,hopsv⟩:=id hg0
    obtain ⟨Av,cv,rfl⟩:=hvars.form
    obtain ⟨Ax,cx,rfl⟩:=hops.form
    refine AJ Tryz.func88 rfl Tryz.ntmps88 rfl ?_
    repeat (first|refine Ah ?_|refine Al ?_|refine Ae ?_|refine Am ?_|refine Au ?_|refine At ?_|refine Ar rfl ?_|refine Aj rfl ?_)
    refine Du rfl rfl fun w1 hN1=>?_
    refine Du rfl rfl fun w2 hN2=>?_
    have hE2:Ext w w2:=hN1.ext.trans' hN2.ext
    have hb1:Blk w2 w.heap.size 104 [.pointer (some ⟨gb,0,none⟩)]:=hN1.blk.ext hN2.ext
    have hb2:Blk w2 w1.heap.size 3 [.int .i64 (v:Int)]:=hN2.blk
    have hg12:w1.heap.size≠w.heap.size:=by rw [hN1.size];omega
    have hg2w:w.heap.size≤w1.heap.size:=hN1.ext.size
    have hz1:w1.heap.size=w.heap.size + 1:=hN1.size
    have hz2:w2.heap.size=w1.heap.size + 1:=hN2.size
    (refine o_as rfl rfl ?_<;>(first|refine Ay ?_|refine Az ?_|refine Aw ?_|refine AA ?_))
    repeat (first|refine Ah ?_|refine Al ?_|refine Ae ?_|refine Am ?_|refine Au ?_|refine At ?_|refine Ar rfl ?_|refine Aj rfl ?_)
    by_cases hemp:ops.length=0
    · have:ops=[]:=List.eq_nil_of_length_eq_zero hemp
      subst this
      ((repeat (first|refine Ah ?_|refine Al ?_|refine Ae ?_|refine Am ?_|refine Au ?_|refine At ?_|refine Ar rfl ?_|refine Aj rfl ?_))<;>(refine o_mv rfl rfl ?_<;>refine o_ln rfl rfl ?_<;>(first|refine o_eeT rfl rfl rfl ?_|refine o_eeF rfl rfl rfl ?_)<;>(first|refine Ay ?_|refine Az ?_|refine Aw ?_|refine AA ?_))<;>(repeat (first|refine Ah ?_|refine Al ?_|refine Ae ?_|refine Am ?_|refine Au ?_|refine At ?_|refine Ar rfl ?_|refine Aj rfl ?_))<;>(refine o_as rfl rfl ?_<;>(first|refine Ay ?_|refine Az ?_|refine Aw ?_|refine AA ?_))<;>(repeat (first|refine Ah ?_|refine Al ?_|refine Ae ?_|refine Am ?_|refine Au ?_|refine At ?_|refine Ar rfl ?_|refine Aj rfl ?_)))
      exact ret1 rfl rfl ⟨rfl,hE2⟩
    have hemp':ops.isEmpty=false:=by cases ops<;>simp at *
    (refine o_mv rfl rfl ?_<;>refine o_ln rfl rfl ?_<;>(first|refine o_eeT rfl rfl rfl ?_|refine o_eeF rfl rfl rfl ?_)<;>(first|refine Ay ?_|refine Az ?_|refine Aw ?_|refine AA ?_))
    refine Aj rfl (Am ?_)
    refine JR (fun l' w'=>∃ u:Nat,subs l' [(1,.slice Ax ops.length cx),(3,.pointer (some ⟨w.heap.size,0,none⟩)),(5,.pointer (some ⟨w1.heap.size,0,none⟩))]∧Ext w w'∧Blk w' w.heap.size 104 [.pointer (some ⟨gb,0,none⟩)]∧Blk w' w1.heap.size 3 [.int .i64 (u:Int)] ∧
      v≤u∧u≤t.vars.length∧(∀ x,v≤x→x < u→tests t ops x=false)∧(u < t.vars.length→tests t ops u=true)) ?_ ?_
    · repeat (first|refine Ah ?_|refine Al ?_|refine Ae ?_|refine Am ?_|refine Au ?_|refine At ?_|refine Ar rfl ?_|refine Aj rfl ?_)
      refine Ef (fun _:Nat=>[(1,.slice Ax ops.length cx),(3,.pointer (some ⟨w.heap.size,0,none⟩)),(5,.pointer (some ⟨w1.heap.size,0,none⟩))]) (fun u w'=>Ext w w'∧Blk w' w.heap.size 104 [.pointer (some ⟨gb,0,none⟩)]∧Blk w' w1.heap.size 3 [.int .i64 (u:Int)] ∧
        v≤u∧u≤t.vars.length∧∀ x,v≤x→x < u→tests t ops x=false) (fun u=>t.vars.length - u) v ⟨hE2,hb1,hb2,Nat.le_refl _,hvn,fun x h1 h2=>by omega⟩ ⟨rfl,rfl,rfl,trivial⟩ ?_
      rintro u w3 ⟨hE3,hb1,hb2,hvu,hun,hno⟩
      have hb3:=hbg.ext hE3
      repeat (first|refine Ah ?_|refine Al ?_|refine Ae ?_|refine Am ?_|refine Au ?_|refine At ?_|refine Ar rfl ?_|refine Aj rfl ?_)
      refine BH (Ext w3) [(0,true),(1,true),(2,true),(3,true),(4,true),(5,true),(6,true),(7,true),(8,true),(9,true),(10,true),(11,false),(12,true),(13,true)] (by kernel_rfl) rfl (by kernel_rfl) (Below.refl _ _) ?_
      by_cases hlt:u < t.vars.length
      · (refine h_ldE rfl rfl rfl ?_<;>refine h_ldE rfl rfl rfl ?_<;>refine h_nc rfl rfl rfl ?_<;>refine h_fa rfl rfl rfl ?_<;>refine h_fa rfl rfl rfl ?_<;>refine h_ldE rfl rfl rfl ?_<;>refine h_ln rfl rfl rfl ?_<;>(first|refine h_ltT rfl rfl rfl rfl ?_|refine h_ltF rfl rfl rfl rfl ?_|refine h_ltS rfl rfl rfl rfl (fun _=>?_) fun _=>?_)<;>refine h_mv rfl rfl rfl ?_<;>(refine hwp_o rfl ?_;(first|(refine AD rfl rfl ?_;refine g_mv rfl rfl ?_)|refine AG rfl rfl rfl rfl ?_))<;>(refine hwp_o rfl ?_;(first|(refine AD rfl rfl ?_;refine g_mf rfl rfl rfl ?_)|refine AG rfl rfl rfl rfl ?_)))
        refine Bk rfl ?_
        refine AC rfl rfl ?_
        have hV3:V w3 (.slice Ax ops.length cx) ops:=Vb.mono (Vb.agree hops (hE3.agree hF)) fun k hk=>Nat.lt_of_lt_of_le (hF k hk) hE3.size
        have hex:(∃ x∈ops,(factOn (preOf t x) (u:Int)).isSome=true)↔tests t ops u=true:=by unfold tests;rw [List.any_eq_true]
        refine DU rfl rfl (containsFuncInts (g:=100) (caps:=[.pointer (some ⟨w.heap.size,0,none⟩),.pointer (some ⟨w1.heap.size,0,none⟩)]) (p:=fun op=>(factOn (preOf t op) (u:Int)).isSome=true) hV3 ?_) ?_ ?_
        · intro vx x w' hx hE' hvx
          obtain ⟨hvx,_⟩:=hvx
          obtain rfl:vx=.int .i64 x:=by simpa using hvx
          obtain ⟨hx0,hx1⟩:=hin x hx
          obtain ⟨j,rfl⟩:=Int.eq_ofNat_of_zero_le hx0
          obtain ⟨o,ho⟩:=AN (l:=t.ops) (k:=j) (by omega)
          refine (genBuild1 (hg0.ext (hE3.trans' hE')) ho (hb1.ext hE') (hb2.ext hE')).mono fun r w'' ⟨hr,hE''⟩=>⟨?_,hE''⟩
          rw [hr,bof_b]
          simp [preOf,ho]
        · intro w4 hp hE4
          refine Bz hE4 ?_
          ((refine hwp_o rfl ?_;(first|(refine AD rfl rfl ?_;(first|refine g_nt rfl rfl ?_|refine g_nf rfl rfl ?_|refine g_nn rfl rfl ?_))|refine AG rfl rfl rfl rfl ?_))<;>(first|refine h_pt rfl rfl rfl rfl ?_|refine h_pf rfl rfl rfl rfl ?_)<;>(first|refine AH ?_|refine BI ?_|refine BE ?_))
          repeat (first|refine Ah ?_|refine Al ?_|refine Ae ?_|refine Am ?_|refine Au ?_|refine At ?_|refine Ar rfl ?_|refine Aj rfl ?_)
          exact ⟨u,⟨rfl,rfl,rfl,trivial⟩,hE3.trans' hE4,hb1.ext hE4,hb2.ext hE4,hvu,hun,hno,fun _=>hex.1 hp⟩
        · intro w4 hp hE4
          refine Bz hE4 ?_
          ((refine hwp_o rfl ?_;(first|(refine AD rfl rfl ?_;(first|refine g_nt rfl rfl ?_|refine g_nf rfl rfl ?_|refine g_nn rfl rfl ?_))|refine AG rfl rfl rfl rfl ?_))<;>(first|refine h_pt rfl rfl rfl rfl ?_|refine h_pf rfl rfl rfl rfl ?_)<;>(first|refine AH ?_|refine BI ?_|refine BE ?_))
          repeat (first|refine Ah ?_|refine Al ?_|refine Ae ?_|refine Am ?_|refine Au ?_|refine At ?_|refine Ar rfl ?_|refine Aj rfl ?_)
          replace hb1:=hb1.ext hE4
          replace hb2:=hb2.ext hE4
          (refine o_ld rfl rfl ?_<;>(first|refine o_ic rfl rfl ?_|refine o_ad rfl rfl rfl ?_))
          refine Bp rfl rfl hb2 rfl (Nat.le_refl _) (by simp [Value.cells,Value.oneCell']) fun w5 hU=>?_
          ((first|refine Ay ?_|refine Az ?_|refine Aw ?_|refine AA ?_))
          refine ⟨u + 1,⟨rfl,rfl,rfl,trivial⟩,⟨(hE3.trans' hE4).trans (hU.below hg2w),hb1.keep (hU.other _ (fun h=>hg12 h.symm)),hU.blk,by omega,by omega,fun x h1 h2=>?_⟩,by omega⟩
          by_cases he:x=u
          · subst he
            cases hq:tests t ops x
            · rfl
            · exact absurd (hex.2 hq) hp
          · exact hno x h1 (by omega)
      · (refine h_ldE rfl rfl rfl ?_<;>refine h_ldE rfl rfl rfl ?_<;>refine h_nc rfl rfl rfl ?_<;>refine h_fa rfl rfl rfl ?_<;>refine h_fa rfl rfl rfl ?_<;>refine h_ldE rfl rfl rfl ?_<;>refine h_ln rfl rfl rfl ?_<;>(first|refine h_ltT rfl rfl rfl rfl ?_|refine h_ltF rfl rfl rfl rfl ?_|refine h_ltS rfl rfl rfl rfl (fun _=>?_) fun _=>?_)<;>refine h_mv rfl rfl rfl ?_<;>(refine hwp_o rfl ?_;(first|(refine AD rfl rfl ?_;refine g_mv rfl rfl ?_)|refine AG rfl rfl rfl rfl ?_))<;>(refine hwp_o rfl ?_;(first|(refine AD rfl rfl ?_;refine g_mf rfl rfl rfl ?_)|refine AG rfl rfl rfl rfl ?_)))
        refine Bk rfl ?_
        refine AB rfl rfl rfl rfl ?_
        refine Bz (Below.refl _ _) ?_
        ((refine hwp_o rfl ?_;(first|(refine AD rfl rfl ?_;(first|refine g_nt rfl rfl ?_|refine g_nf rfl rfl ?_|refine g_nn rfl rfl ?_))|refine AG rfl rfl rfl rfl ?_))<;>(first|refine h_pt rfl rfl rfl rfl ?_|refine h_pf rfl rfl rfl rfl ?_)<;>(first|refine AH ?_|refine BI ?_|refine BE ?_))
        repeat (first|refine Ah ?_|refine Al ?_|refine Ae ?_|refine Am ?_|refine Au ?_|refine At ?_|refine Ar rfl ?_|refine Aj rfl ?_)
        exact ⟨u,⟨rfl,rfl,rfl,trivial⟩,hE3,hb1,hb2,hvu,hun,hno,fun h=>absurd h hlt⟩
    rintro l' w3 ⟨u,hsub,hE3,hb1,hb2,hvu,hun,hno,hyes⟩
    refine AM _ hsub ?_
    clear hsub
    have hnx:nextV t ops v=u:=KZ t ops hvu hun hno hyes
    have hb3:=hbg.ext hE3
    have hV3:Vb w3 F (.slice Ax ops.length cx) ops:=Vb.agree hops (hE3.agree hF)
    repeat (first|refine Ah ?_|refine Al ?_|refine Ae ?_|refine Am ?_|refine Au ?_|refine At ?_|refine Ar rfl ?_|refine Aj rfl ?_)
    refine BH (·=w3) [(0,true),(1,true),(2,true),(3,true),(4,true),(5,true),(6,true),(7,true)] (by kernel_rfl) rfl (by kernel_rfl) rfl ?_
    by_cases hlast:u=t.vars.length
    · (refine h_ldA rfl rfl rfl ?_<;>refine h_ldA rfl rfl rfl ?_<;>refine h_nc rfl rfl rfl ?_<;>refine h_fa rfl rfl rfl ?_<;>refine h_fa rfl rfl rfl ?_<;>refine h_ldA rfl rfl rfl ?_<;>refine h_ln rfl rfl rfl ?_<;>(first|refine h_eeT rfl rfl rfl rfl ?_|refine h_eeF rfl rfl rfl rfl ?_|refine h_eeS rfl rfl rfl rfl (fun _=>?_) fun _=>?_)<;>(first|refine AH ?_|refine BI ?_|refine BE ?_))<;>(repeat (first|refine Ah ?_|refine Al ?_|refine Ae ?_|refine Am ?_|refine Au ?_|refine At ?_|refine Ar rfl ?_|refine Aj rfl ?_))
      (refine o_mv rfl rfl ?_<;>refine o_bd rfl rfl rfl ?_)
      refine Du rfl rfl fun w4 hN4=>?_
      (refine o_as rfl rfl ?_<;>(first|refine Ay ?_|refine Az ?_|refine Aw ?_|refine AA ?_))
      repeat (first|refine Ah ?_|refine Al ?_|refine Ae ?_|refine Am ?_|refine Au ?_|refine At ?_|refine Ar rfl ?_|refine Aj rfl ?_)
      have hE4:Ext w w4:=hE3.trans' hN4.ext
      have hT:mkT t (fuel + 1) ops v=.leaf ops:=by simp only [mkT,hemp',hnx,hlast];simp
      rw [hT]
      refine ret1 rfl rfl ⟨⟨w3.heap.size,.slice Ax ops.length cx,rfl,.inr ⟨hE3.size,hN4.blk.lt⟩,hN4.blk,?_⟩,hE4⟩
      exact Vb.mono (Vb.agree hV3 (hN4.ext.agree fun k hk=>Nat.lt_of_lt_of_le (hF k hk) hE3.size)) fun k hk=>.inl hk
    have hun':u < t.vars.length:=by omega
    obtain ⟨n,hn⟩:=AN hun'
    have hn1:=hdom u n hn
    obtain ⟨m,rfl⟩:=Int.eq_ofNat_of_zero_le (show 0≤n by omega)
    have hT:mkT t (fuel + 1) ops v=.node u m (fun x=>mkT t fuel (ops.filter (valB t u x)) (u + 1)) (mkT t fuel (ops.filter (restB t u)) (u + 1)):=by
      simp only [mkT,hemp',hnx,hlast,hn];simp
    rw [hT]
    clear hT hnx
    (refine h_ldA rfl rfl rfl ?_<;>refine h_ldA rfl rfl rfl ?_<;>refine h_nc rfl rfl rfl ?_<;>refine h_fa rfl rfl rfl ?_<;>refine h_fa rfl rfl rfl ?_<;>refine h_ldA rfl rfl rfl ?_<;>refine h_ln rfl rfl rfl ?_<;>(first|refine h_eeT rfl rfl rfl rfl ?_|refine h_eeF rfl rfl rfl rfl ?_|refine h_eeS rfl rfl rfl rfl (fun _=>?_) fun _=>?_)<;>(first|refine AH ?_|refine BI ?_|refine BE ?_))<;>(repeat (first|refine Ah ?_|refine Al ?_|refine Ae ?_|refine Am ?_|refine Au ?_|refine At ?_|refine Ar rfl ?_|refine Aj rfl ?_))
    obtain ⟨bv,ov,ce,rfl,hbv,_,hdv,rfl,_⟩:=hvars.elem hn
    refine BH (Ext w3) [(0,true),(1,true),(2,true),(3,true),(4,true),(5,true),(6,true),(7,true),(8,false),(9,true)] (by kernel_rfl) rfl (by kernel_rfl) (Below.refl _ _) ?_
    have hb1s:=hb1
    have hb2s:=hb2
    replace hb1:∀ w',Ext w3 w'→Blk w' w.heap.size 104 [.pointer (some ⟨gb,0,none⟩)]:=fun w' h=>hb1s.ext h
    replace hb2:∀ w',Ext w3 w'→Blk w' w1.heap.size 3 [.int .i64 (u:Int)]:=fun w' h=>hb2s.ext h
    have hb3s:=hb3
    replace hb3:∀ w',Ext w3 w'→Blk w' gb 151 [.slice (some ⟨bv,ov,none⟩) t.vars.length cv,b,c,d,.pointer rp]:=fun w' h=>hb3s.ext h
    have hd1:∀ w',Ext w3 w'→cellsAt w' bv (ov + u * 1) [.int .i64 (m:Int)]:=fun w' h=>GX hdv hbv (hE3.trans' h)
    ((first|refine h_ldB rfl rfl rfl ?_|refine h_ldC rfl rfl rfl ?_)<;>refine h_nc rfl rfl rfl ?_<;>refine h_fa rfl rfl rfl ?_<;>refine h_fa rfl rfl rfl ?_<;>(first|refine h_ldB rfl rfl rfl ?_|refine h_ldC rfl rfl rfl ?_)<;>(first|refine h_ldB rfl rfl rfl ?_|refine h_ldC rfl rfl rfl ?_)<;>refine h_ia rfl rfl rfl rfl ?_<;>(first|refine h_ldB rfl rfl rfl ?_|refine h_ldC rfl rfl rfl ?_))
    refine Bk rfl ?_
    refine HI rfl rfl (by omega) (by omega) rfl fun w4 hN4=>?_
    refine Bz hN4.ext ?_
    (refine h_as rfl rfl rfl ?_<;>(first|refine AH ?_|refine BI ?_|refine BE ?_))
    have hE4:Ext w w4:=hE3.trans' hN4.ext
    have hw23:w2.heap.size≤w3.heap.size:=by have:=hb2s.lt;omega
    replace hb1:=hb1s.ext hN4.ext
    replace hb2:=hb2s.ext hN4.ext
    clear hb3 hd1
    repeat (first|refine Ah ?_|refine Al ?_|refine Ae ?_|refine Am ?_|refine Au ?_|refine At ?_|refine Ar rfl ?_|refine Aj rfl ?_)
    ((repeat (first|refine Ah ?_|refine Al ?_|refine Ae ?_|refine Am ?_|refine Au ?_|refine At ?_|refine Ar rfl ?_|refine Aj rfl ?_))<;>(refine o_as rfl rfl ?_<;>(first|refine Ay ?_|refine Az ?_|refine Aw ?_|refine AA ?_))<;>(repeat (first|refine Ah ?_|refine Al ?_|refine Ae ?_|refine Am ?_|refine Au ?_|refine At ?_|refine Ar rfl ?_|refine Aj rfl ?_))<;>(refine o_mv rfl rfl ?_<;>refine o_ln rfl rfl ?_<;>refine o_mv rfl rfl ?_<;>(first|refine Ay ?_|refine Az ?_|refine Aw ?_|refine AA ?_))<;>(repeat (first|refine Ah ?_|refine Al ?_|refine Ae ?_|refine Am ?_|refine Au ?_|refine At ?_|refine Ar rfl ?_|refine Aj rfl ?_)))
    have hby0:ByInv w4 w2.heap.size w3.heap.size (List.replicate m (.slice none 0 0)) (.slice none 0 0) (fun i=>((ops.take 0).filter (valB t u i))) ((ops.take 0).filter (restB t u)) m:=by
      have hget:∀ (i:Nat) (x:Value),(List.replicate m (Value.slice none 0 0))[i]?=some x→x=.slice none 0 0:=fun i x h=>by
        rw [List.getElem?_replicate] at h;split at h<;>simp at h;exact h.symm
      refine ⟨by simp,by have:=hN4.blk;rwa [KQ] at this,fun i x h=>?_,by simpa using Own.nil _ _ _ _,fun i j x y _ hx _ g hg=>?_,fun i x hx g hg=>?_⟩
      · rw [hget i x h];simpa using Own.nil _ _ _ _
      · rw [hget i x hx] at hg;simp [Value.ownBlock] at hg
      · rw [hget i x hx] at hg;simp [Value.ownBlock] at hg
    refine Bu ops.length (by omega) (fun x:List Value×Value=>[(1,.slice Ax ops.length cx),(3,.pointer (some ⟨w.heap.size,0,none⟩)),(5,.pointer (some ⟨w1.heap.size,0,none⟩)),(7,.slice (some ⟨w3.heap.size,0,none⟩) m m),(8,x.2),(55,.slice Ax ops.length cx)])
      (fun k x w'=>Ext w w'∧Blk w' w.heap.size 104 [.pointer (some ⟨gb,0,none⟩)]∧Blk w' w1.heap.size 3 [.int .i64 (u:Int)]∧ByInv w' w2.heap.size w3.heap.size x.1 x.2 (fun i=>((ops.take k).filter (valB t u i))) ((ops.take k).filter (restB t u)) m) (List.replicate m (.slice none 0 0),.slice none 0 0)
      ⟨hE4,hb1,hb2,hby0⟩ ⟨rfl,rfl,rfl,rfl,rfl,rfl,rfl,rfl,trivial⟩ (fun _=>⟨rfl,rfl⟩) ⟨rfl,rfl,rfl⟩ ⟨rfl,rfl⟩ ?_ ?_
    · rintro k ⟨vals,rv⟩ w5 hk ⟨hE5,hb1,hb2,hby⟩
      dsimp only at hby
      obtain ⟨x,hx⟩:=AN hk
      obtain ⟨hx0,hx1⟩:=hin x (List.mem_of_getElem? hx)
      obtain ⟨j,rfl⟩:=Int.eq_ofNat_of_zero_le hx0
      obtain ⟨o,ho⟩:=AN (l:=t.ops) (k:=j) (by omega)
      have hpre:preOf t (j:Int)=o.pre:=by simp [preOf,ho]
      obtain ⟨b2,o2,ce,rfl,hbF,_,hd0,rfl,hxin⟩:=hops.elem hx
      have hd1:=GX hd0 (hF _ hbF) hE5
      ((repeat (first|refine Ah ?_|refine Al ?_|refine Ae ?_|refine Am ?_|refine Au ?_|refine At ?_|refine Ar rfl ?_|refine Aj rfl ?_))<;>(refine o_ia rfl rfl rfl ?_<;>refine o_ld rfl rfl ?_<;>refine o_as rfl rfl ?_<;>(first|refine Ay ?_|refine Az ?_|refine Aw ?_|refine AA ?_))<;>(repeat (first|refine Ah ?_|refine Al ?_|refine Ae ?_|refine Am ?_|refine Au ?_|refine At ?_|refine Ar rfl ?_|refine Aj rfl ?_))<;>(refine o_ld rfl rfl ?_<;>refine o_mv rfl rfl ?_<;>refine o_ld rfl rfl ?_)<;>(repeat (first|refine Ah ?_|refine Al ?_|refine Ae ?_|refine Am ?_|refine Au ?_|refine At ?_|refine Ar rfl ?_|refine Aj rfl ?_)))
      refine AZ rfl rfl (genFact (hg0.ext hE5) ho) ?_
      rintro _ w6 ⟨rfl,hE6⟩
      replace hb1:=hb1.ext hE6
      replace hb2:=hb2.ext hE6
      replace hby:=hby.ext hE6
      have hE06:Ext w w6:=hE5.trans' hE6
      have hkl:((ops.take k).filter (restB t u)).length≤4096:=Nat.le_trans (List.length_filter_le _ _) (by rw [List.length_take];omega)
      cases hf:factOn o.pre (u:Int) with
      | none =>
        simp only [factV]
        (refine o_mv rfl rfl ?_<;>refine o_ex rfl rfl rfl ?_<;>refine o_ex rfl rfl rfl ?_)
        refine BL rfl rfl rfl (by simp [Value.cells,Value.oneCell']) fun w7 hN7=>?_
        replace hb1:=hb1.ext hN7.ext
        replace hb2:=hb2.ext hN7.ext
        replace hby:=hby.ext hN7.ext
        have hE7:Ext w w7:=hE06.trans' hN7.ext
        (refine o_as rfl rfl ?_<;>(first|refine Ay ?_|refine Az ?_|refine Aw ?_|refine AA ?_))
        repeat (first|refine Ah ?_|refine Al ?_|refine Ae ?_|refine Am ?_|refine Au ?_|refine At ?_|refine Ar rfl ?_|refine Aj rfl ?_)
        ((repeat (first|refine Ah ?_|refine Al ?_|refine Ae ?_|refine Am ?_|refine Au ?_|refine At ?_|refine Ar rfl ?_|refine Aj rfl ?_))<;>(refine o_mv rfl rfl ?_<;>(first|refine Ay ?_|refine Az ?_|refine Aw ?_|refine AA ?_))<;>(repeat (first|refine Ah ?_|refine Al ?_|refine Ae ?_|refine Am ?_|refine Au ?_|refine At ?_|refine Ar rfl ?_|refine Aj rfl ?_)))
        (refine o_mv rfl rfl ?_<;>refine o_mv rfl rfl ?_)
        have hl2:=hb2.lt
        refine Jl (a:=(j:Int)) rfl rfl rfl hby.rest (fun _ h=>h.elim) (by omega) ⟨rfl,hxin⟩ (by decide) (by decide) (by omega) (by omega) ⟨rfl,rfl⟩ fun rv' w8 ho8 hK8 hat=>?_
        have hB8:Below w2.heap.size w7 w8:=hby.rest.fits (Nat.le_refl _) (by omega) hK8
        have hby8:=hby.putRest hK8 ho8 hat
        (refine o_as rfl rfl ?_<;>(first|refine Ay ?_|refine Az ?_|refine Aw ?_|refine AA ?_))
        repeat (first|refine Ah ?_|refine Al ?_|refine Ae ?_|refine Am ?_|refine Au ?_|refine At ?_|refine Ar rfl ?_|refine Aj rfl ?_)
        refine ⟨(vals,rv'),⟨rfl,rfl,rfl,rfl,rfl,rfl,rfl,rfl,trivial⟩,hE7.trans (hB8.mono (by omega)),hb1.keep (hB8.block _ (by omega)),hb2.keep (hB8.block _ (by omega)),?_⟩
        have e1:∀ i,(ops.take (k + 1)).filter (valB t u i)=(ops.take k).filter (valB t u i):=fun i=>by rw [EW hx];simp [valB,hpre,hf]
        have e2:(ops.take (k + 1)).filter (restB t u)=(ops.take k).filter (restB t u) ++ [(j:Int)]:=by rw [EW hx];simp [restB,hpre,hf]
        dsimp only
        rw [e2]
        simp only [e1]
        exact hby8
      | some f =>
        obtain ⟨hf0,n',hn',hf1⟩:=hfv j o ho u f hf hun'
        rw [hn] at hn';injection hn' with hn';subst hn'
        obtain ⟨x0,hj1⟩:=Int.eq_ofNat_of_zero_le hf0
        have hx0m:x0 < m:=by omega
        obtain ⟨u0,hu0⟩:=AN (l:=vals) (k:=x0) (by rw [hby.len];exact hx0m)
        simp only [factV]
        (refine o_mv rfl rfl ?_<;>refine o_ex rfl rfl rfl ?_<;>refine o_ex rfl rfl rfl ?_)
        refine BL rfl rfl rfl (by simp [Value.cells,Value.oneCell']) fun w7 hN7=>?_
        replace hb1:=hb1.ext hN7.ext
        replace hb2:=hb2.ext hN7.ext
        replace hby:=hby.ext hN7.ext
        have hE7:Ext w w7:=hE06.trans' hN7.ext
        have hbf:=hN7.blk
        (refine o_as rfl rfl ?_<;>(first|refine Ay ?_|refine Az ?_|refine Aw ?_|refine AA ?_))
        repeat (first|refine Ah ?_|refine Al ?_|refine Ae ?_|refine Am ?_|refine Au ?_|refine At ?_|refine Ar rfl ?_|refine Aj rfl ?_)
        ((repeat (first|refine Ah ?_|refine Al ?_|refine Ae ?_|refine Am ?_|refine Au ?_|refine At ?_|refine Ar rfl ?_|refine Aj rfl ?_))<;>(refine o_mv rfl rfl ?_<;>(first|refine Ay ?_|refine Az ?_|refine Aw ?_|refine AA ?_))<;>(repeat (first|refine Ah ?_|refine Al ?_|refine Ae ?_|refine Am ?_|refine Au ?_|refine At ?_|refine Ar rfl ?_|refine Aj rfl ?_)))
        have hl2:=hb2.lt
        have hown0:=hby.own x0 u0 hu0
        have hkl0:((ops.take k).filter (valB t u x0)).length≤4096:=Nat.le_trans (List.length_filter_le _ _) (by rw [List.length_take];omega)
        refine BH (fun w'=>Blk w' w6.heap.size 62 [.int .i64 f.var,.int .i64 f.val]∧Blk w' w3.heap.size 22 vals) [(0,true),(1,true),(2,true),(3,true),(4,true),(5,true),(6,true),(7,true),(8,true),(9,false),(10,false),(11,true),(12,false)] (by kernel_rfl) rfl (by kernel_rfl) ⟨hbf,hby.blk⟩ ?_
        have hb1s:=hb1
        have hb2s:=hb2
        clear hb2
        replace hb1:∀ w',(Blk w' w6.heap.size 62 [.int .i64 f.var,.int .i64 f.val]∧Blk w' w3.heap.size 22 vals)→Blk w' w6.heap.size 62 [.int .i64 f.var,.int .i64 f.val]:=fun _ h=>h.1
        have hc1:∀ w',(Blk w' w6.heap.size 62 [.int .i64 f.var,.int .i64 f.val]∧Blk w' w3.heap.size 22 vals)→w'.cell? ⟨w3.heap.size,0 + x0 * 1,none⟩=some u0:=fun _ h=>h.2.cell (by rw [Nat.zero_add,Nat.mul_one];exact hu0)
        (refine h_mv rfl rfl rfl ?_<;>refine h_fa rfl rfl rfl ?_<;>(first|refine h_ldB rfl rfl rfl ?_|refine h_ldC rfl rfl rfl ?_)<;>refine h_mv rfl rfl rfl ?_<;>refine h_fa rfl rfl rfl ?_<;>(first|refine h_ldB rfl rfl rfl ?_|refine h_ldC rfl rfl rfl ?_)<;>refine h_ia rfl rfl rfl rfl ?_<;>(first|refine h_ldB rfl rfl rfl ?_|refine h_ldC rfl rfl rfl ?_)<;>refine h_mv rfl rfl rfl ?_)
        refine Bk rfl ?_
        refine Dg rfl rfl rfl (by simp [Value.cells]) (by decide) rfl fun w8 hN8=>?_
        refine Bz ⟨hbf.ext hN8.ext,hby.blk.ext hN8.ext⟩ ?_
        refine Bk rfl ?_
        refine Ee (α:=Int) (A:=some ⟨w7.heap.size,0,none⟩) (c:=1) (ys:=[(j:Int)]) (cells:=[.int .i64 (j:Int)]) rfl rfl (hown0.ext hN8.ext fun _ h=>h.elim) (fun _ h=>h.elim) (by have:=hN8.size;omega) (.single ⟨rfl,hxin⟩) (fun _=>⟨_,_,rfl,hN8.blk.cellsAt⟩) (by decide) (by rw [List.length_singleton];omega) (by rw [List.length_singleton];omega) rfl fun v' w9 ho9 hg9 hat=>?_
        have hK9:Kept w7 w9 u0:=⟨hg9.os.trans hN8.ext.os,hg9.tape.trans hN8.ext.tape,hg9.output.trans hN8.ext.output,Nat.le_trans hN8.ext.size hg9.size,fun k hk hne=>by rw [hg9.block k (Nat.lt_of_lt_of_le hk hN8.ext.size) (fun he=>hne he.symm),hN8.ext.block k hk]⟩
        have hbf9:=hK9.blk hbf (hown0.blk_ne hbf (by decide))
        have hby9:=hK9.blk hby.blk (hown0.blk_ne hby.blk (by decide))
        have hB9:Below w2.heap.size w7 w9:=hown0.fits (Nat.le_refl _) (by omega) hK9
        refine Bz ⟨hbf9,hby9⟩ ?_
        (refine h_ia rfl rfl rfl rfl ?_)
        refine Bk rfl ?_
        obtain ⟨A9,c9,rfl⟩:=ho9.form
        refine Bp (g:=w3.heap.size) (o:=0 + x0 * 1) rfl rfl hby9 rfl (by rw [hby.len];show 0 + x0 * 1 + 1≤m;omega) (by simp [Value.cells,Value.oneCell']) fun w10 hU=>?_
        have hset:setFrom vals (0 + x0 * 1) [.slice A9 (List.filter (valB t u x0) (List.take k ops) ++ [(j:Int)]).length c9]=vals.set x0 (.slice A9 (List.filter (valB t u x0) (List.take k ops) ++ [(j:Int)]).length c9):=by rw [Nat.zero_add,Nat.mul_one];rfl
        have hU':Upd w9 w10 w3.heap.size 22 (vals.set x0 (.slice A9 (List.filter (valB t u x0) (List.take k ops) ++ [(j:Int)]).length c9)):=hset ▸ hU
        have hby10:=hby.putVal hu0 hK9 ho9 (by
          rcases hat with hat|hat
          · exact .inl hat
          · exact .inr ⟨_,hat,hN8.ext.size⟩) hU'
        have hB10:Below w2.heap.size w9 w10:=hU.below hw23
        refine Ew ?_
        ((first|refine AH ?_|refine BI ?_|refine BE ?_))
        repeat (first|refine Ah ?_|refine Al ?_|refine Ae ?_|refine Am ?_|refine Au ?_|refine At ?_|refine Ar rfl ?_|refine Aj rfl ?_)
        refine ⟨(vals.set x0 (.slice A9 (List.filter (valB t u x0) (List.take k ops) ++ [(j:Int)]).length c9),rv),⟨rfl,rfl,rfl,rfl,rfl,rfl,rfl,rfl,trivial⟩,hE7.trans ((hB9.trans hB10).mono (by omega)),hb1s.keep ((hB9.trans hB10).block _ (by omega)),hb2s.keep ((hB9.trans hB10).block _ (by omega)),?_⟩
        have e1:∀ i,(ops.take (k + 1)).filter (valB t u i)=if i=x0 then (ops.take k).filter (valB t u x0) ++ [(j:Int)] else (ops.take k).filter (valB t u i):=fun i=>by
          rw [EW hx]
          by_cases hi:i=x0
          · subst hi;simp [valB,hpre,hf,hj1]
          · have:¬ (f.val=(i:Int)):=by omega
            simp [valB,hpre,hf,hi,this]
        have e2:(ops.take (k + 1)).filter (restB t u)=(ops.take k).filter (restB t u):=by rw [EW hx];simp [restB,hpre,hf]
        dsimp only
        rw [e2]
        simp only [e1]
        exact hby10
    rintro ⟨vals,rv⟩ w5 ⟨hE5,hb1,hb2,hby⟩
    dsimp only at hby
    rw [List.take_length] at hby
    have hl2:=hb2.lt
    have hb1s:=hb1
    have hb2s:=hb2
    have hflt:∀ p:Int→Bool,OpsIn t (ops.filter p)∧(ops.filter p).length≤4096:=fun p=>⟨fun x hx=>hin x (List.mem_filter.1 hx).1,Nat.le_trans (List.length_filter_le _ _) hlen⟩
    have hrv:Vb w5 (fun k=>rv.ownBlock=some k) rv (ops.filter (restB t u)):=hby.rest.vb.mono fun k hk=>hk.resolve_left id
    repeat (first|refine Ah ?_|refine Al ?_|refine Ae ?_|refine Am ?_|refine Au ?_|refine At ?_|refine Ar rfl ?_|refine Aj rfl ?_)
    refine BH (Ext w5) [(0,true),(1,true),(2,true),(3,true),(4,true),(5,false),(6,true),(7,false),(8,true)] (by kernel_rfl) rfl (by kernel_rfl) (Below.refl _ _) ?_
    (refine h_ldE rfl rfl rfl ?_<;>refine h_ldE rfl rfl rfl ?_<;>refine h_mv rfl rfl rfl ?_<;>refine h_ldE rfl rfl rfl ?_<;>(first|refine h_ic rfl rfl rfl ?_|refine h_ad rfl rfl rfl rfl ?_))
    refine Bk rfl ?_
    refine AZ rfl rfl (ih w5 _ rv _ (u + 1) (fun k=>rv.ownBlock=some k) (hg0.ext hE5) hrv (fun k hk=>(hby.rest.lt k hk).2) (hflt _).1 (hflt _).2 (by omega) (by omega)) ?_
    rintro p6 w6 ⟨hT6,hE6⟩
    obtain ⟨q6,rfl⟩:=hT6.form
    refine Bz hE6 ?_
    (refine h_bd rfl rfl rfl rfl ?_)
    refine Bk rfl ?_
    refine Du rfl rfl fun w7 hN7=>?_
    refine Bz (hE6.trans' hN7.ext) ?_
    (refine h_as rfl rfl rfl ?_<;>(first|refine AH ?_|refine BI ?_|refine BE ?_))
    have hnode:Blk w7 w6.heap.size 184 [.slice none 0 0,.bool false,.int .i64 (u:Int),.slice none 0 0,.pointer q6]:=hN7.blk
    have hby6:=hby.ext hE6
    repeat (first|refine Ah ?_|refine Al ?_|refine Ae ?_|refine Am ?_|refine Au ?_|refine At ?_|refine Ar rfl ?_|refine Aj rfl ?_)
    ((repeat (first|refine Ah ?_|refine Al ?_|refine Ae ?_|refine Am ?_|refine Au ?_|refine At ?_|refine Ar rfl ?_|refine Aj rfl ?_))<;>(refine o_mv rfl rfl ?_<;>refine o_ln rfl rfl ?_<;>refine o_mv rfl rfl ?_<;>(first|refine Ay ?_|refine Az ?_|refine Aw ?_|refine AA ?_))<;>(repeat (first|refine Ah ?_|refine Al ?_|refine Ae ?_|refine Am ?_|refine Au ?_|refine At ?_|refine Ar rfl ?_|refine Aj rfl ?_)))
    refine Bu m (by omega) (fun x:Value=>[(3,.pointer (some ⟨w.heap.size,0,none⟩)),(5,.pointer (some ⟨w1.heap.size,0,none⟩)),(13,.pointer (some ⟨w6.heap.size,0,none⟩)),(94,.slice (some ⟨w3.heap.size,0,none⟩) m m)])
      (fun k x w'=>Ext w6 w'∧Blk w' w6.heap.size 184 [.slice none 0 0,.bool false,.int .i64 (u:Int),x,.pointer q6]∧∃ G:Nat→Prop,(∀ k,G k→k < w'.heap.size∧w2.heap.size≤k)∧¬ G w6.heap.size∧Own w' w7.heap.size G 149 x ((List.range k).map fun i=>mkT t fuel (ops.filter (valB t u i)) (u + 1))) (.slice none 0 0)
      ⟨hN7.ext,hnode,fun _=>False,fun _ h=>h.elim,id,Own.nil _ _ _ _⟩ ⟨rfl,rfl,rfl,rfl,rfl,rfl,trivial⟩ (fun _=>⟨rfl,rfl⟩) ⟨rfl,rfl,rfl⟩ ⟨rfl,rfl⟩ ?_ ?_
    · rintro k xv w8 hk ⟨hE8,hnd,G,hG,hGn,hown⟩
      obtain ⟨u0,hu0⟩:=AN (l:=vals) (k:=k) (by rw [hby.len];exact hk)
      have hby8:=hby6.ext hE8
      have hE58:Ext w5 w8:=hE6.trans' hE8
      have hE08:Ext w w8:=hE5.trans' hE58
      have hc1:w8.cell? ⟨w3.heap.size,0 + k * 1,none⟩=some u0:=hby8.blk.cell (by rw [Nat.zero_add,Nat.mul_one];exact hu0)
      have hown0:=hby8.own k u0 hu0
      obtain ⟨Ak,ck,rfl⟩:=hown0.form
      obtain ⟨Ax',cx',rfl⟩:=hown.form
      have hz78:w7.heap.size≤w8.heap.size:=by have:=hnd.lt;have:=hN7.size;omega
      ((repeat (first|refine Ah ?_|refine Al ?_|refine Ae ?_|refine Am ?_|refine Au ?_|refine At ?_|refine Ar rfl ?_|refine Aj rfl ?_))<;>(refine o_ia rfl rfl rfl ?_<;>refine o_ld rfl rfl ?_<;>refine o_as rfl rfl ?_<;>(first|refine Ay ?_|refine Az ?_|refine Aw ?_|refine AA ?_))<;>(repeat (first|refine Ah ?_|refine Al ?_|refine Ae ?_|refine Am ?_|refine Au ?_|refine At ?_|refine Ar rfl ?_|refine Aj rfl ?_)))
      refine BH (fun w'=>Blk w' w6.heap.size 184 [.slice none 0 0,.bool false,.int .i64 (u:Int),.slice Ax' ((List.range k).map fun i=>mkT t fuel (ops.filter (valB t u i)) (u + 1)).length cx',.pointer q6]∧Blk w' w.heap.size 104 [.pointer (some ⟨gb,0,none⟩)]∧Blk w' w1.heap.size 3 [.int .i64 (u:Int)]) [(0,true),(1,true),(2,true),(3,true),(4,true),(5,true),(6,true),(7,true),(8,true),(9,false),(10,false),(11,false),(12,true),(13,true),(14,false)] (by kernel_rfl) rfl (by kernel_rfl) ⟨hnd,hb1s.ext hE58,hb2s.ext hE58⟩ ?_
      have hS8:∀ w',Ext w8 w'→Blk w' w6.heap.size 184 [.slice none 0 0,.bool false,.int .i64 (u:Int),.slice Ax' ((List.range k).map fun i=>mkT t fuel (ops.filter (valB t u i)) (u + 1)).length cx',.pointer q6]∧Blk w' w.heap.size 104 [.pointer (some ⟨gb,0,none⟩)]∧Blk w' w1.heap.size 3 [.int .i64 (u:Int)]:=fun w' h=>⟨hnd.ext h,(hb1s.ext hE58).ext h,(hb2s.ext hE58).ext h⟩
      clear hb1 hb2 hc1
      have hb1:∀ w',(Blk w' w6.heap.size 184 [.slice none 0 0,.bool false,.int .i64 (u:Int),.slice Ax' ((List.range k).map fun i=>mkT t fuel (ops.filter (valB t u i)) (u + 1)).length cx',.pointer q6]∧Blk w' w.heap.size 104 [.pointer (some ⟨gb,0,none⟩)]∧Blk w' w1.heap.size 3 [.int .i64 (u:Int)])→Blk w' w6.heap.size 184 [.slice none 0 0,.bool false,.int .i64 (u:Int),.slice Ax' ((List.range k).map fun i=>mkT t fuel (ops.filter (valB t u i)) (u + 1)).length cx',.pointer q6]:=fun _ h=>h.1
      have hb2:∀ w',(Blk w' w6.heap.size 184 [.slice none 0 0,.bool false,.int .i64 (u:Int),.slice Ax' ((List.range k).map fun i=>mkT t fuel (ops.filter (valB t u i)) (u + 1)).length cx',.pointer q6]∧Blk w' w.heap.size 104 [.pointer (some ⟨gb,0,none⟩)]∧Blk w' w1.heap.size 3 [.int .i64 (u:Int)])→Blk w' w.heap.size 104 [.pointer (some ⟨gb,0,none⟩)]:=fun _ h=>h.2.1
      have hb3:∀ w',(Blk w' w6.heap.size 184 [.slice none 0 0,.bool false,.int .i64 (u:Int),.slice Ax' ((List.range k).map fun i=>mkT t fuel (ops.filter (valB t u i)) (u + 1)).length cx',.pointer q6]∧Blk w' w.heap.size 104 [.pointer (some ⟨gb,0,none⟩)]∧Blk w' w1.heap.size 3 [.int .i64 (u:Int)])→Blk w' w1.heap.size 3 [.int .i64 (u:Int)]:=fun _ h=>h.2.2
      (refine h_mv rfl rfl rfl ?_<;>refine h_mv rfl rfl rfl ?_<;>refine h_nc rfl rfl rfl ?_<;>refine h_fa rfl rfl rfl ?_<;>(first|refine h_ldB rfl rfl rfl ?_|refine h_ldC rfl rfl rfl ?_)<;>(first|refine h_ldB rfl rfl rfl ?_|refine h_ldC rfl rfl rfl ?_)<;>refine h_mv rfl rfl rfl ?_<;>(first|refine h_ldB rfl rfl rfl ?_|refine h_ldC rfl rfl rfl ?_)<;>(first|refine h_ic rfl rfl rfl ?_|refine h_ad rfl rfl rfl rfl ?_))
      refine Bk rfl ?_
      have hu0v:Vb w8 (fun q=>(Value.slice Ak (ops.filter (valB t u k)).length ck).ownBlock=some q) (.slice Ak (ops.filter (valB t u k)).length ck) (ops.filter (valB t u k)):=hown0.vb.mono fun q hq=>hq.resolve_left id
      refine AZ rfl rfl (ih w8 _ _ _ (u + 1) _ (hg0.ext hE08) hu0v (fun q hq=>(hown0.lt q hq).2) (hflt _).1 (hflt _).2 (by omega) (by omega)) ?_
      rintro p9 w9 ⟨hT9,hE9⟩
      obtain ⟨q9,rfl⟩:=hT9.form
      refine Bz (hS8 w9 hE9) ?_
      refine Bk rfl ?_
      refine Dg rfl rfl rfl (by simp [Value.cells]) (by decide) rfl fun w10 hN10=>?_
      have hE10:Ext w8 w10:=hE9.trans' hN10.ext
      refine Bz (hS8 w10 hE10) ?_
      have hG':∀ q,(G q∨(Value.slice Ak (ops.filter (valB t u k)).length ck).ownBlock=some q∨w8.heap.size≤q∧q < w9.heap.size)→q < w9.heap.size∧w2.heap.size≤q:=fun q hq=>by
        have h9:=hE9.size
        have h6:=hE6.size
        have h7:=hN7.size
        rcases hq with hq|hq|hq
        · have:=hG q hq;exact ⟨by omega,this.2⟩
        · have:=hown0.lt q hq;exact ⟨by omega,this.1⟩
        · exact ⟨hq.2,by omega⟩
      have hGx:∀ g,(Value.slice Ax' ((List.range k).map fun i=>mkT t fuel (ops.filter (valB t u i)) (u + 1)).length cx').ownBlock=some g→¬ (G g∨(Value.slice Ak (ops.filter (valB t u k)).length ck).ownBlock=some g∨w8.heap.size≤g∧g < w9.heap.size):=fun g hg h=>by
        rcases h with h|h|h
        · obtain ⟨_,_,_,h3⟩:=hown;exact h3 g hg h
        · exact hown.own_ne hown0 (by decide) g hg h
        · have:=(hown.lt g hg).2;omega
      have hownG:Own w9 w7.heap.size (fun q=>G q∨(Value.slice Ak (ops.filter (valB t u k)).length ck).ownBlock=some q∨w8.heap.size≤q∧q < w9.heap.size) 149 _ _:=(hown.ext hE9 fun q hq=>(hG q hq).1).mono (fun q hq=>.inl hq) hGx
      have hch:Chunks w10 (fun q=>G q∨(Value.slice Ak (ops.filter (valB t u k)).length ck).ownBlock=some q∨w8.heap.size≤q∧q < w9.heap.size) [.pointer q9] [mkT t fuel (ops.filter (valB t u k)) (u + 1)] :=
        .single (show Rp.R w10 _ [.pointer q9] _ from ⟨q9,rfl,TrR.agree (hN10.ext.agree fun q hq=>(hG' q hq).1) (TrR.mono (fun q hq=>by
          rcases hq with hq|hq
          · exact .inr (.inl hq)
          · exact .inr (.inr hq)) hT9)⟩)
      refine Bk rfl ?_
      have hmk:((List.range k).map fun i=>mkT t fuel (ops.filter (valB t u i)) (u + 1)).length≤64:=by simp;omega
      refine Ee (α:=Tr) (A:=some ⟨w9.heap.size,0,none⟩) (c:=1) (ys:=[mkT t fuel (ops.filter (valB t u k)) (u + 1)]) (cells:=[.pointer q9]) rfl rfl (hownG.ext hN10.ext fun q hq=>(hG' q hq).1) (fun q hq=>Nat.lt_of_lt_of_le (hG' q hq).1 hN10.ext.size) (by have:=hE10.size;omega) hch (fun _=>⟨_,_,rfl,hN10.blk.cellsAt⟩) (by decide) (by rw [List.length_singleton];omega) (by rw [List.length_singleton];omega) rfl fun v' w11 ho11 hg11 hat=>?_
      have hown10:=hown.ext hE10 fun q hq=>(hG q hq).1
      have hK11:Kept w8 w11 (.slice Ax' ((List.range k).map fun i=>mkT t fuel (ops.filter (valB t u i)) (u + 1)).length cx'):=⟨hg11.os.trans hE10.os,hg11.tape.trans hE10.tape,hg11.output.trans hE10.output,Nat.le_trans hE10.size hg11.size,fun q hq hne=>by rw [hg11.block q (Nat.lt_of_lt_of_le hq hE10.size) (fun he=>hne he.symm),hE10.block q hq]⟩
      have hB11:Below w7.heap.size w8 w11:=hown.fits (Nat.le_refl _) hz78 hK11
      have hnd11:=hK11.blk hnd (hown.blk_ne hnd (by decide))
      have hz67:=hN7.size
      refine Bz ⟨hnd11,(hb1s.ext hE58).keep (hB11.block _ (by have:=hE6.size;omega)),(hb2s.ext hE58).keep (hB11.block _ (by have:=hE6.size;omega))⟩ ?_
      (refine h_nc rfl rfl rfl ?_<;>refine h_fa rfl rfl rfl ?_)
      refine Bk rfl ?_
      obtain ⟨A11,c11,rfl⟩:=ho11.form
      refine Bp (g:=w6.heap.size) rfl rfl hnd11 rfl (show 0 + 3 + 1≤5 by decide) (by simp [Value.cells,Value.oneCell']) fun w12 hU=>?_
      refine Ew ?_
      ((first|refine AH ?_|refine BI ?_|refine BE ?_))
      repeat (first|refine Ah ?_|refine Al ?_|refine Ae ?_|refine Am ?_|refine Au ?_|refine At ?_|refine Ar rfl ?_|refine Aj rfl ?_)
      refine ⟨_,⟨rfl,rfl,rfl,rfl,rfl,rfl,trivial⟩,?_,hU.blk,(fun q=>G q∨(Value.slice Ak (ops.filter (valB t u k)).length ck).ownBlock=some q∨w8.heap.size≤q∧q < w9.heap.size),?_,?_,?_⟩
      · exact hE8.trans ((hB11.mono (by omega)).trans (hU.below (Nat.le_refl _)))
      · intro q hq
        have:=hG' q hq
        have h1:=hN10.ext.size
        have h2:=hg11.size
        exact ⟨by rw [hU.size];omega,this.2⟩
      · rintro (h|h|h)
        · exact hGn h
        · exact hown0.blk_ne hnd (by decide) h
        · have:=hnd.lt;omega
      · rw [List.range_succ,List.map_append]
        have hne:(Value.slice A11 (((List.range k).map fun i=>mkT t fuel (ops.filter (valB t u i)) (u + 1)) ++ [mkT t fuel (ops.filter (valB t u k)) (u + 1)]).length c11).ownBlock≠some w6.heap.size:=ho11.blk_ne hnd11 (by decide)
        exact ho11.agree (hU.agree (by
          rintro (h|h|h)
          · exact hGn h
          · exact hown0.blk_ne hnd (by decide) h
          · have:=hnd.lt;omega)) fun g hg=>hU.other g fun he=>hne (he ▸ hg)
    rintro xv w8 ⟨hE8,hnd,G,hG,hGn,hown⟩
    repeat (first|refine Ah ?_|refine Al ?_|refine Ae ?_|refine Am ?_|refine Au ?_|refine At ?_|refine Ar rfl ?_|refine Aj rfl ?_)
    ((repeat (first|refine Ah ?_|refine Al ?_|refine Ae ?_|refine Am ?_|refine Au ?_|refine At ?_|refine Ar rfl ?_|refine Aj rfl ?_))<;>(refine o_mv rfl rfl ?_<;>refine o_as rfl rfl ?_<;>(first|refine Ay ?_|refine Az ?_|refine Aw ?_|refine AA ?_))<;>(repeat (first|refine Ah ?_|refine Al ?_|refine Ae ?_|refine Am ?_|refine Au ?_|refine At ?_|refine Ar rfl ?_|refine Aj rfl ?_)))
    have hE08:Ext w w8:=hE5.trans' (hE6.trans' hE8)
    obtain ⟨Ax',cx',rfl⟩:=hown.form
    have hxl:((List.range m).map fun i=>mkT t fuel (ops.filter (valB t u i)) (u + 1)).length=m:=by simp
    rw [hxl] at hnd
    refine ret1 rfl rfl ⟨⟨w6.heap.size,Ax',cx',q6,rfl,.inr ⟨by have:=hE5.size;have:=hE6.size;omega,hnd.lt⟩,hnd,?_,fun i hi=>?_⟩,hE08⟩
    · refine TrR.mono (fun q hq=>?_) (TrR.agree (hE8.agree fun q hq=>?_) hT6)
      · rcases hq with hq|hq
        · have:=hby.rest.lt q hq;have:=hE6.size;have:=hE8.size;exact .inr ⟨by omega,by omega⟩
        · have:=hE8.size;have:=hE5.size;exact .inr ⟨by omega,by omega⟩
      · rcases hq with hq|hq
        · have:=hby.rest.lt q hq;have:=hE6.size;omega
        · exact hq.2
    · have hvb:=hown.vb
      obtain ⟨b9,o9,cs9,hA,hF9,_,hc9,q9,rfl,hT9⟩:=hvb.elem (k:=i) (x:=mkT t fuel (ops.filter (valB t u i)) (u + 1)) (by rw [List.getElem?_map,List.getElem?_range hi];rfl)
      have hsub:∀ q,(G q∨(Value.slice Ax' ((List.range m).map fun i=>mkT t fuel (ops.filter (valB t u i)) (u + 1)).length cx').ownBlock=some q)→more F w w8 q:=fun q hq=>by
        rcases hq with hq|hq
        · have:=hG q hq;exact .inr ⟨by omega,this.1⟩
        · have h1:=hown.lt q hq;have:=hN7.size;have:=hE6.size;exact .inr ⟨by omega,h1.2⟩
      exact ⟨b9,o9,q9,hA,hsub _ hF9,by have:=hc9.1;rwa [show i * Rp.size Tr=i from Nat.mul_one i] at this,TrR.mono hsub hT9⟩
end
section
open Go Go.RowKit
attribute [local irreducible] ewp owp hwp hwq hws Ev Evg Fn retPost loud loudS Res1
def nw (w w':World):Nat→Prop:=fun k=>w.heap.size≤k∧k < w'.heap.size
theorem Ih {w:World} {F G:Nat→Prop}:∀ {xs:List Fct} {cells:List Value},Chunks w F cells xs→Chunks w G cells xs
  | [],_,h=>h
  | _ :: _,_,⟨cs,rest,he,hr,hc⟩=>⟨cs,rest,he,hr,Ih hc⟩
theorem FS {w:World} {F G:Nat→Prop}:∀ {xs:List Int} {cells:List Value},Chunks w F cells xs→Chunks w G cells xs
  | [],_,h=>h
  | _ :: _,_,⟨cs,rest,he,hr,hc⟩=>⟨cs,rest,he,hr,FS hc⟩
theorem cloneIntsN {w:World} {sv:Value} {xs:List Int} (hs:V w sv xs) (hl:xs.length≤1000000):Fn Tryz.prog 50 [sv] w fun v w'=>Vb w' (nw w w') v xs∧Ext w w' :=
  (cloneInts hs (by omega)).mono fun v w' ⟨ho,hE⟩=>⟨by
    obtain ⟨cells,q1,q2,q3⟩:=id ho
    have ho':Own w' w.heap.size (fun _=>False) 3 v xs:=⟨cells,q1,FS q2,fun _ _ h=>h⟩
    exact ho'.vb.mono fun k hk=>ho.lt k (hk.resolve_left id),hE⟩
theorem cloneFactsN {w:World} {sv:Value} {xs:List Fct} (hs:V w sv xs) (hl:xs.length≤1000000):Fn Tryz.prog 51 [sv] w fun v w'=>Vb w' (nw w w') v xs∧Ext w w' :=
  (cloneFacts hs (by omega)).mono fun v w' ⟨ho,hE⟩=>⟨by
    obtain ⟨cells,q1,q2,q3⟩:=id ho
    have ho':Own w' w.heap.size (fun _=>False) 62 v xs:=⟨cells,q1,Ih q2,fun _ _ h=>h⟩
    exact ho'.vb.mono fun k hk=>ho.lt k (hk.resolve_left id),hE⟩
theorem Vb.nwext {α:Type} [Rp α] {w w' w'':World} {v:Value} {x:α} (h:Vb w' (nw w w') v x) (hE:Ext w' w''):Vb w'' (nw w w') v x:=h.agree (hE.agree fun _ hk=>hk.2)
theorem genCopied {w:World} {tv:Value} {t:Tsk} (ht:V w tv t) (hl1:t.vars.length≤1000000) (hl2:t.init.length≤1000000) (hl3:t.goal.length≤1000000) (hl4:t.ops.length≤1000000)
    (hl5:∀ (i:Nat) o,t.ops[i]?=some o→o.pre.length≤1000000∧o.effs.length≤1000000∧∀ (j:Nat) e,o.effs[j]?=some e→e.cond.length≤1000000) :
    Fn Tryz.prog 87 [tv] w fun v w'=>Vb w' (nw w w') v t∧Ext w w':=by
  obtain ⟨cs,rfl,a,b,c,d,rfl,hvars,hinit,hgoal,hops⟩:=ht
  obtain ⟨Av,cv,rfl⟩:=hvars.form
  obtain ⟨Ai,ci,rfl⟩:=hinit.form
  obtain ⟨Ag,cg,rfl⟩:=hgoal.form
  obtain ⟨Ao,co,rfl⟩:=hops.form
  refine AJ Tryz.func87 rfl Tryz.ntmps87 rfl ?_
  repeat (first|refine Ah ?_|refine Al ?_|refine Ae ?_|refine Am ?_|refine Au ?_|refine At ?_|refine Ar rfl ?_|refine Aj rfl ?_)
  refine Du rfl rfl fun w1 hN1=>?_
  refine Df rfl fun w2 hN2=>?_
  have hE2:Ext w w2:=hN1.ext.trans' hN2.ext
  have hz1:w1.heap.size=w.heap.size + 1:=hN1.size
  have hz2:w2.heap.size=w1.heap.size + 1:=hN2.size
  have hb1:Blk w2 w.heap.size 26 [.slice Av t.vars.length cv,.slice Ai t.init.length ci,.slice Ag t.goal.length cg,.slice Ao t.ops.length co]:=hN1.blk.ext hN2.ext
  have hres:Blk w2 w1.heap.size 26 [.slice none 0 0,.slice none 0 0,.slice none 0 0,.slice none 0 0]:=hN2.blk
  ((first|refine Ay ?_|refine Az ?_|refine Aw ?_|refine AA ?_))
  refine JR (fun l' w'=>∃ g3 av bv cv',subs l' [(1,.pointer (some ⟨w.heap.size,0,none⟩)),(2,.pointer (some ⟨w1.heap.size,0,none⟩)),(3,.pointer (some ⟨g3,0,none⟩))]∧Ext w2 w'∧w2.heap.size≤g3∧Blk w' g3 26 [av,bv,cv',.slice none 0 0] ∧
    Vb w' (fun k=>nw w2 w' k∧k≠g3) av t.vars∧Vb w' (fun k=>nw w2 w' k∧k≠g3) bv t.init∧Vb w' (fun k=>nw w2 w' k∧k≠g3) cv' t.goal) ?_ ?_
  · have q0:∀ w',Ext w2 w'→Blk w' w.heap.size 26 [.slice Av t.vars.length cv,.slice Ai t.init.length ci,.slice Ag t.goal.length cg,.slice Ao t.ops.length co]:=fun w' h=>hb1.ext h
    refine KD (Ext w2) ?_
    refine hws_q (i:=0) rfl (by kernel_rfl) (by kernel_rfl) (by kernel_rfl) rfl rfl (evg fun _ _=>CQ rfl) (Below.refl _ _) ?_
    refine hws_q (i:=1) rfl (by kernel_rfl) (by kernel_rfl) (by kernel_rfl) rfl rfl (evg fun _ hS=>Dm rfl ((hb1.ext hS).cell rfl)) (Below.refl _ _) ?_
    refine hws_q (i:=3) rfl (by kernel_rfl) (by kernel_rfl) (by kernel_rfl) rfl rfl (evg fun _ _=>CQ rfl) (Below.refl _ _) ?_
    refine hws_q (i:=4) rfl (by kernel_rfl) (by kernel_rfl) (by kernel_rfl) rfl rfl (evg fun _ hS=>Dm rfl ((hb1.ext hS).cell rfl)) (Below.refl _ _) ?_
    refine hws_q (i:=6) rfl (by kernel_rfl) (by kernel_rfl) (by kernel_rfl) rfl rfl (evg fun _ _=>CQ rfl) (Below.refl _ _) ?_
    refine hws_q (i:=7) rfl (by kernel_rfl) (by kernel_rfl) (by kernel_rfl) rfl rfl (evg fun _ hS=>Dm rfl ((hb1.ext hS).cell rfl)) (Below.refl _ _) ?_
    refine Is (i:=2) (j:=10) (by kernel_rfl) rfl rfl ?_ ?_
    · refine AZ rfl rfl (cloneIntsN (hvars.ext hE2) hl1) ?_
      rintro av w3 ⟨hav,hE3⟩
      refine Ex hE3 ?_
      refine Is (i:=5) (j:=10) (by kernel_rfl) rfl rfl ?_ ?_
      · refine AZ rfl rfl (cloneIntsN (hinit.ext (hE2.trans' hE3)) hl2) ?_
        rintro bv w4 ⟨hbv,hE4⟩
        refine Ex (hE3.trans' hE4) ?_
        refine Is (i:=8) (j:=10) (by kernel_rfl) rfl rfl ?_ ?_
        · refine AZ rfl rfl (cloneFactsN (hgoal.ext (hE2.trans' (hE3.trans' hE4))) hl3) ?_
          rintro cv' w5 ⟨hcv,hE5⟩
          refine Ex (hE3.trans' (hE4.trans' hE5)) ?_
          refine Hs [(9,true),(10,false),(11,false)] (by kernel_rfl) rfl (by kernel_rfl) (hE3.trans' (hE4.trans' hE5)) ?_
          obtain ⟨Aa,ca,rfl⟩:=hav.form
          obtain ⟨Ab,cb,rfl⟩:=hbv.form
          obtain ⟨Ac,cc,rfl⟩:=hcv.form
          refine hwp_o rfl ?_
          refine AW (fun _ _=>ER rfl rfl) rfl ?_
          refine Bk rfl ?_
          refine Df rfl fun w6 hN6=>?_
          refine Bz (hE3.trans' (hE4.trans' (hE5.trans' hN6.ext))) ?_
          refine Bk rfl ?_
          refine Bp rfl rfl hN6.blk rfl (Nat.le_refl _) (by simp [Value.cells,Value.oneCell',setParts,setFrom]) fun w7 hU=>?_
          refine Ew (AH ?_)
          have hE7:Ext w5 w7:=(hN6.upd hU).ext
          have s3:=hE3.size;have s4:=hE4.size;have s5:=hE5.size;have s7:=hE7.size
          refine ⟨w5.heap.size,_,_,_,⟨rfl,rfl,rfl,trivial⟩,hE3.trans' (hE4.trans' (hE5.trans' hE7)),by omega,hU.blk,?_,?_,?_⟩
          · exact ((((hav.nwext hE4).agree (hE5.agree fun k hk=>by have:=hk.2;omega)).agree (hE7.agree fun k hk=>by have:=hk.2;omega)).mono fun k hk=>⟨⟨by have:=hk.1;omega,by have:=hk.2;omega⟩,by have:=hk.2;omega⟩)
          · exact ((hbv.nwext hE5).agree (hE7.agree fun k hk=>by have:=hk.2;omega)).mono fun k hk=>⟨⟨by have:=hk.1;omega,by have:=hk.2;omega⟩,by have:=hk.2;omega⟩
          · exact (hcv.nwext hE7).mono fun k hk=>⟨⟨by have:=hk.1;omega,by have:=hk.2;omega⟩,by have:=hk.2;omega⟩
        · refine Df rfl fun w5 hN=>?_
          have hE5:=hN.ext
          refine Ex (hE3.trans' (hE4.trans' hE5)) ?_
          refine Hs [(8,false),(9,true),(11,false)] (by kernel_rfl) rfl (by kernel_rfl) (hE3.trans' (hE4.trans' hE5)) ?_
          refine Bk rfl ?_
          refine AZ rfl rfl (cloneFactsN (hgoal.ext (hE2.trans' (hE3.trans' (hE4.trans' hE5)))) hl3) ?_
          rintro cv' w6 ⟨hcv,hE6⟩
          refine Bz (hE3.trans' (hE4.trans' (hE5.trans' hE6))) ?_
          have hg3:=hN.blk.ext hE6
          obtain ⟨Aa,ca,rfl⟩:=hav.form
          obtain ⟨Ab,cb,rfl⟩:=hbv.form
          obtain ⟨Ac,cc,rfl⟩:=hcv.form
          refine hwp_o rfl ?_
          refine AW (fun _ _=>ER rfl rfl) rfl ?_
          refine Bk rfl ?_
          refine Bp rfl rfl hg3 rfl (Nat.le_refl _) (by simp [Value.cells,Value.oneCell',setParts,setFrom]) fun w7 hU=>?_
          refine Ew (AH ?_)
          have s3:=hE3.size;have s4:=hE4.size;have s5:=hE5.size;have s6:=hE6.size;have s7:=hU.size;have sN:=hN.size
          refine ⟨_,_,_,_,⟨rfl,rfl,rfl,trivial⟩,(hE3.trans' (hE4.trans' (hE5.trans' hE6))).trans (hU.below (by omega)),by omega,hU.blk,?_,?_,?_⟩
          · exact (hav.agree fun k hk=>(hU.other k (by have:=hk.2;omega)).trans ((hE4.trans' (hE5.trans' hE6)).block k hk.2)).mono fun k hk=>⟨⟨by have:=hk.1;omega,by have:=hk.2;omega⟩,by have:=hk.2;omega⟩
          · exact (hbv.agree fun k hk=>(hU.other k (by have:=hk.2;omega)).trans ((hE5.trans' hE6).block k hk.2)).mono fun k hk=>⟨⟨by have:=hk.1;omega,by have:=hk.2;omega⟩,by have:=hk.2;omega⟩
          · exact (hcv.agree fun k hk=>hU.other k (by have:=hk.1;omega)).mono fun k hk=>⟨⟨by have:=hk.1;omega,by have:=hk.2;omega⟩,by have:=hk.1;omega⟩
      · refine Df rfl fun w4 hN=>?_
        have hE4:=hN.ext
        refine Ex (hE3.trans' hE4) ?_
        refine Hs [(5,false),(8,false),(9,true),(11,false)] (by kernel_rfl) rfl (by kernel_rfl) (hE3.trans' hE4) ?_
        refine Bk rfl ?_
        refine AZ rfl rfl (cloneIntsN (hinit.ext (hE2.trans' (hE3.trans' hE4))) hl2) ?_
        rintro bv w5 ⟨hbv,hE5⟩
        refine Bz (hE3.trans' (hE4.trans' hE5)) ?_
        refine Bk rfl ?_
        refine AZ rfl rfl (cloneFactsN (hgoal.ext (hE2.trans' (hE3.trans' (hE4.trans' hE5)))) hl3) ?_
        rintro cv' w6 ⟨hcv,hE6⟩
        refine Bz (hE3.trans' (hE4.trans' (hE5.trans' hE6))) ?_
        have hg3:=(hN.blk.ext hE5).ext hE6
        obtain ⟨Aa,ca,rfl⟩:=hav.form
        obtain ⟨Ab,cb,rfl⟩:=hbv.form
        obtain ⟨Ac,cc,rfl⟩:=hcv.form
        refine hwp_o rfl ?_
        refine AW (fun _ _=>ER rfl rfl) rfl ?_
        refine Bk rfl ?_
        refine Bp rfl rfl hg3 rfl (Nat.le_refl _) (by simp [Value.cells,Value.oneCell',setParts,setFrom]) fun w7 hU=>?_
        refine Ew (AH ?_)
        have s3:=hE3.size;have s4:=hE4.size;have s5:=hE5.size;have s6:=hE6.size;have s7:=hU.size;have sN:=hN.size
        refine ⟨_,_,_,_,⟨rfl,rfl,rfl,trivial⟩,(hE3.trans' (hE4.trans' (hE5.trans' hE6))).trans (hU.below (by omega)),by omega,hU.blk,?_,?_,?_⟩
        · exact (hav.agree fun k hk=>(hU.other k (by have:=hk.2;omega)).trans ((hE4.trans' (hE5.trans' hE6)).block k hk.2)).mono fun k hk=>⟨⟨by have:=hk.1;omega,by have:=hk.2;omega⟩,by have:=hk.2;omega⟩
        · exact (hbv.agree fun k hk=>(hU.other k (by have:=hk.1;omega)).trans (hE6.block k hk.2)).mono fun k hk=>⟨⟨by have:=hk.1;omega,by have:=hk.2;omega⟩,by have:=hk.1;omega⟩
        · exact (hcv.agree fun k hk=>hU.other k (by have:=hk.1;omega)).mono fun k hk=>⟨⟨by have:=hk.1;omega,by have:=hk.2;omega⟩,by have:=hk.1;omega⟩
    · refine Df rfl fun w3 hN=>?_
      have hE3:=hN.ext
      refine Ex hE3 ?_
      refine Hs [(2,false),(5,false),(8,false),(9,true),(11,false)] (by kernel_rfl) rfl (by kernel_rfl) hE3 ?_
      refine Bk rfl ?_
      refine AZ rfl rfl (cloneIntsN (hvars.ext (hE2.trans' hE3)) hl1) ?_
      rintro av w4 ⟨hav,hE4⟩
      refine Bz (hE3.trans' hE4) ?_
      refine Bk rfl ?_
      refine AZ rfl rfl (cloneIntsN (hinit.ext (hE2.trans' (hE3.trans' hE4))) hl2) ?_
      rintro bv w5 ⟨hbv,hE5⟩
      refine Bz (hE3.trans' (hE4.trans' hE5)) ?_
      refine Bk rfl ?_
      refine AZ rfl rfl (cloneFactsN (hgoal.ext (hE2.trans' (hE3.trans' (hE4.trans' hE5)))) hl3) ?_
      rintro cv' w6 ⟨hcv,hE6⟩
      refine Bz (hE3.trans' (hE4.trans' (hE5.trans' hE6))) ?_
      have hg3:=((hN.blk.ext hE4).ext hE5).ext hE6
      obtain ⟨Aa,ca,rfl⟩:=hav.form
      obtain ⟨Ab,cb,rfl⟩:=hbv.form
      obtain ⟨Ac,cc,rfl⟩:=hcv.form
      refine hwp_o rfl ?_
      refine AW (fun _ _=>ER rfl rfl) rfl ?_
      refine Bk rfl ?_
      refine Bp rfl rfl hg3 rfl (Nat.le_refl _) (by simp [Value.cells,Value.oneCell',setParts,setFrom]) fun w7 hU=>?_
      refine Ew (AH ?_)
      have s3:=hE3.size;have s4:=hE4.size;have s5:=hE5.size;have s6:=hE6.size;have s7:=hU.size;have sN:=hN.size
      refine ⟨_,_,_,_,⟨rfl,rfl,rfl,trivial⟩,(hE3.trans' (hE4.trans' (hE5.trans' hE6))).trans (hU.below (by omega)),by omega,hU.blk,?_,?_,?_⟩
      · exact (hav.agree fun k hk=>(hU.other k (by have:=hk.1;omega)).trans ((hE5.trans' hE6).block k hk.2)).mono fun k hk=>⟨⟨by have:=hk.1;omega,by have:=hk.2;omega⟩,by have:=hk.1;omega⟩
      · exact (hbv.agree fun k hk=>(hU.other k (by have:=hk.1;omega)).trans (hE6.block k hk.2)).mono fun k hk=>⟨⟨by have:=hk.1;omega,by have:=hk.2;omega⟩,by have:=hk.1;omega⟩
      · exact (hcv.agree fun k hk=>hU.other k (by have:=hk.1;omega)).mono fun k hk=>⟨⟨by have:=hk.1;omega,by have:=hk.2;omega⟩,by have:=hk.1;omega⟩
  · rintro l' w3 ⟨g3,av,bv,cv',hsub,hE3,hg3,hb3,hav,hbv,hcv⟩
    refine AM _ hsub ?_
    clear hsub
    replace hb1:=hb1.ext hE3
    replace hres:=hres.ext hE3
    have hE03:Ext w w3:=hE2.trans' hE3
    have hg3z:g3 < w3.heap.size:=hb3.lt
    repeat (first|refine Ah ?_|refine Al ?_|refine Ae ?_|refine Am ?_|refine Au ?_|refine At ?_|refine Ar rfl ?_|refine Aj rfl ?_)
    ((repeat (first|refine Ah ?_|refine Al ?_|refine Ae ?_|refine Am ?_|refine Au ?_|refine At ?_|refine Ar rfl ?_|refine Aj rfl ?_))<;>(refine o_fa rfl rfl ?_<;>refine o_ld rfl rfl ?_<;>refine o_ln rfl rfl ?_<;>refine o_mv rfl rfl ?_<;>(first|refine Ay ?_|refine Az ?_|refine Aw ?_|refine AA ?_))<;>(repeat (first|refine Ah ?_|refine Al ?_|refine Ae ?_|refine Am ?_|refine Au ?_|refine At ?_|refine Ar rfl ?_|refine Aj rfl ?_)))
    refine Bu t.ops.length (by omega) (fun _:Unit=>[(2,.pointer (some ⟨w1.heap.size,0,none⟩)),(3,.pointer (some ⟨g3,0,none⟩)),(20,.slice Ao t.ops.length co)])
      (fun k _ w'=>Below w2.heap.size w2 w'∧w3.heap.size≤w'.heap.size∧(∀ q,q < w3.heap.size→q≠g3→w'.heap[q]?=w3.heap[q]?)∧∃ (ov:Value) (G:Nat→Prop),Blk w' g3 26 [av,bv,cv',ov]∧(∀ q,G q→w3.heap.size≤q∧q < w'.heap.size)∧Own w' w3.heap.size G 67 ov (t.ops.take k)) ()
      ⟨hE3,Nat.le_refl _,fun _ _ _=>rfl,.slice none 0 0,fun _=>False,hb3,fun _ h=>h.elim,Own.nil _ _ _ _⟩ ⟨rfl,rfl,rfl,rfl,rfl,trivial⟩ (fun _=>⟨rfl,rfl⟩) ⟨rfl,rfl,rfl⟩ ⟨rfl,rfl⟩ ?_ ?_
    · rintro k _ w4 hk ⟨hB4,hz34,hkeep,ov,G,hb3,hG,hown⟩
      have hE04:Ext w w4:=hE2.trans (hB4.mono (by omega))
      obtain ⟨o,ho⟩:=AN hk
      obtain ⟨hp5,hq5,hc5⟩:=hl5 k o ho
      obtain ⟨b2,o2,ce,rfl,_,_,hd1,p,q,rfl,hp,hq,hc,hn⟩:=(hops.ext hE04).elem ho
      obtain ⟨Ap,cp,rfl⟩:=hp.form
      obtain ⟨Aq,cq,rfl⟩:=hq.form
      obtain ⟨Aov,cov,rfl⟩:=hown.form
      ((repeat (first|refine Ah ?_|refine Al ?_|refine Ae ?_|refine Am ?_|refine Au ?_|refine At ?_|refine Ar rfl ?_|refine Aj rfl ?_))<;>(refine o_ia rfl rfl rfl ?_<;>refine o_la rfl rfl ?_)<;>(repeat (first|refine Ah ?_|refine Al ?_|refine Ae ?_|refine Am ?_|refine Au ?_|refine At ?_|refine Ar rfl ?_|refine Aj rfl ?_)))
      refine BL rfl rfl rfl (by simp [Value.cells,Value.oneCell']) fun w5 hN5=>?_
      have hb2:Blk w5 w4.heap.size 67 [.string o.name,.int .i64 o.cost,.slice Ap o.pre.length cp,.slice Aq o.effs.length cq]:=hN5.blk
      have hz5:=hN5.size
      ((first|refine Ay ?_|refine Az ?_|refine Aw ?_|refine AA ?_))
      repeat (first|refine Ah ?_|refine Al ?_|refine Ae ?_|refine Am ?_|refine Au ?_|refine At ?_|refine Ar rfl ?_|refine Aj rfl ?_)
      clear hd1
      (refine o_fa rfl rfl ?_<;>refine o_ld rfl rfl ?_)
      refine AZ rfl rfl (cloneFactsN (hp.ext hN5.ext) hp5) ?_
      rintro pv w6 ⟨hpv,hE6⟩
      obtain ⟨Ap',cp',rfl⟩:=hpv.form
      replace hb2:=hb2.ext hE6
      (refine o_fa rfl rfl ?_)
      refine Bp rfl rfl hb2 rfl (show 0 + 2 + 1≤4 by decide) (by simp [Value.cells,Value.oneCell']) fun w7 hU7=>?_
      have hE47:Ext w4 w7:=(hN5.ext.trans' hE6).trans (hU7.below (Nat.le_refl _))
      replace hb2:Blk w7 w4.heap.size 67 [.string o.name,.int .i64 o.cost,.slice Ap' o.pre.length cp',.slice Aq o.effs.length cq]:=hU7.blk
      have hpv7:Vb w7 (nw w5 w6) (.slice Ap' o.pre.length cp') o.pre:=hpv.agree fun q hq=>hU7.other q (by have:=hq.1;omega)
      ((first|refine Ay ?_|refine Az ?_|refine Aw ?_|refine AA ?_))
      repeat (first|refine Ah ?_|refine Al ?_|refine Ae ?_|refine Am ?_|refine Au ?_|refine At ?_|refine Ar rfl ?_|refine Aj rfl ?_)
      ((repeat (first|refine Ah ?_|refine Al ?_|refine Ae ?_|refine Am ?_|refine Au ?_|refine At ?_|refine Ar rfl ?_|refine Aj rfl ?_))<;>(refine o_as rfl rfl ?_<;>(first|refine Ay ?_|refine Az ?_|refine Aw ?_|refine AA ?_))<;>(repeat (first|refine Ah ?_|refine Al ?_|refine Ae ?_|refine Am ?_|refine Au ?_|refine At ?_|refine Ar rfl ?_|refine Aj rfl ?_))<;>(refine o_fa rfl rfl ?_<;>refine o_ld rfl rfl ?_<;>refine o_ln rfl rfl ?_<;>refine o_mv rfl rfl ?_<;>(first|refine Ay ?_|refine Az ?_|refine Aw ?_|refine AA ?_))<;>(repeat (first|refine Ah ?_|refine Al ?_|refine Ae ?_|refine Am ?_|refine Au ?_|refine At ?_|refine Ar rfl ?_|refine Aj rfl ?_)))
      refine Bu o.effs.length (by omega) (fun ev:Value=>[(2,.pointer (some ⟨w1.heap.size,0,none⟩)),(3,.pointer (some ⟨g3,0,none⟩)),(5,.pointer (some ⟨w4.heap.size,0,none⟩)),(6,ev),(20,.slice (some ⟨b2,o2,none⟩) t.ops.length co),(21,.int .i64 (t.ops.length:Int)),(22,.int .i64 (k:Int)),(31,.slice Aq o.effs.length cq)])
        (fun i ev w'=>Ext w7 w'∧∃ H:Nat→Prop,(∀ q,H q→w7.heap.size≤q∧q < w'.heap.size)∧Own w' w7.heap.size H 64 ev (o.effs.take i)) (.slice none 0 0)
        ⟨Below.refl _ _,fun _=>False,fun _ h=>h.elim,Own.nil _ _ _ _⟩ ⟨rfl,rfl,rfl,rfl,rfl,rfl,rfl,rfl,rfl,rfl,trivial⟩ (fun _=>⟨rfl,rfl⟩) ⟨rfl,rfl,rfl⟩ ⟨rfl,rfl⟩ ?_ ?_
      · rintro i ev w8 hi ⟨hE8,H,hH,hev⟩
        obtain ⟨e,he⟩:=AN hi
        have hce:=hc5 i e he
        obtain ⟨b3,o3,ce,rfl,_,_,hd1,cv8,rfl,hcn,hr1,hr2⟩:=(hq.ext (hE47.trans' hE8)).elem he
        obtain ⟨Acn,ccn,rfl⟩:=hcn.form
        ((repeat (first|refine Ah ?_|refine Al ?_|refine Ae ?_|refine Am ?_|refine Au ?_|refine At ?_|refine Ar rfl ?_|refine Aj rfl ?_))<;>(refine o_ia rfl rfl rfl ?_<;>refine o_la rfl rfl ?_)<;>(repeat (first|refine Ah ?_|refine Al ?_|refine Ae ?_|refine Am ?_|refine Au ?_|refine At ?_|refine Ar rfl ?_|refine Aj rfl ?_)))
        refine BL rfl rfl rfl (by simp [Value.cells,Value.oneCell']) fun w9 hN9=>?_
        have hb4:Blk w9 w8.heap.size 64 [.slice Acn e.cond.length ccn,.int .i64 e.var,.int .i64 e.val]:=hN9.blk
        have hz9:=hN9.size
        ((first|refine Ay ?_|refine Az ?_|refine Aw ?_|refine AA ?_))
        repeat (first|refine Ah ?_|refine Al ?_|refine Ae ?_|refine Am ?_|refine Au ?_|refine At ?_|refine Ar rfl ?_|refine Aj rfl ?_)
        clear hd1
        (refine o_fa rfl rfl ?_<;>refine o_ld rfl rfl ?_)
        refine AZ rfl rfl (cloneFactsN (hcn.ext hN9.ext) hce) ?_
        rintro cw w10 ⟨hcw,hE10⟩
        obtain ⟨Acw,ccw,rfl⟩:=hcw.form
        replace hb4:=hb4.ext hE10
        (refine o_fa rfl rfl ?_)
        refine Bp rfl rfl hb4 rfl (show 0 + 0 + 1≤3 by decide) (by simp [Value.cells,Value.oneCell']) fun w11 hU11=>?_
        replace hb4:Blk w11 w8.heap.size 64 [.slice Acw e.cond.length ccw,.int .i64 e.var,.int .i64 e.val]:=hU11.blk
        have hE811:Ext w8 w11:=(hN9.ext.trans' hE10).trans (hU11.below (Nat.le_refl _))
        have hE711:Ext w7 w11:=hE8.trans' hE811
        have hcw11:Vb w11 (nw w9 w10) (.slice Acw e.cond.length ccw) e.cond:=hcw.agree fun q hq=>hU11.other q (by have:=hq.1;omega)
        have s10:=hE10.size
        have s11:=hU11.size
        have hne:∀ g,ev.ownBlock=some g→¬ (H g∨nw w9 w10 g):=fun g hg h=>by
          have hlt:=(hev.lt g hg).2
          rcases h with h|h
          · obtain ⟨_,_,_,h3⟩:=hev;exact h3 g hg h
          · have:=h.1;omega
        have hev11:Own w11 w7.heap.size (fun q=>H q∨nw w9 w10 q) 64 ev _:=(hev.ext hE811 fun q hq=>(hH q hq).2).mono (fun q hq=>.inl hq) hne
        have hH11:∀ q,(H q∨nw w9 w10 q)→w7.heap.size≤q∧q < w11.heap.size:=fun q hq=>by
          rcases hq with hq|hq
          · have:=hH q hq;omega
          · have h1:=hq.1;have h2:=hq.2;have:=hE8.size;omega
        have hil:(o.effs.take i).length≤1000000:=by rw [List.length_take];omega
        ((first|refine Ay ?_|refine Az ?_|refine Aw ?_|refine AA ?_))
        repeat (first|refine Ah ?_|refine Al ?_|refine Ae ?_|refine Am ?_|refine Au ?_|refine At ?_|refine Ar rfl ?_|refine Aj rfl ?_)
        (refine o_mv rfl rfl ?_<;>refine o_la rfl rfl ?_)
        refine En (a:=e) rfl rfl rfl hev11 (fun q hq=>(hH11 q hq).2) hE711.size ⟨_,rfl,_,rfl,hcw11.mono fun q hq=>.inr hq,hr1,hr2⟩ (by decide) (by decide) (by omega) (by omega) ⟨rfl,rfl⟩ fun ev' w12 hev12 hK12=>?_
        (refine o_as rfl rfl ?_<;>(first|refine Ay ?_|refine Az ?_|refine Aw ?_|refine AA ?_))
        repeat (first|refine Ah ?_|refine Al ?_|refine Ae ?_|refine Am ?_|refine Au ?_|refine At ?_|refine Ar rfl ?_|refine Aj rfl ?_)
        exact ⟨ev',⟨rfl,rfl,rfl,rfl,rfl,rfl,rfl,rfl,rfl,rfl,trivial⟩,hE711.trans (hev11.fits (Nat.le_refl _) hE711.size hK12),_,fun q hq=>⟨(hH11 q hq).1,Nat.lt_of_lt_of_le (hH11 q hq).2 hK12.size⟩,by rw [List.take_add_one,he];simpa using hev12⟩
      rintro ev w12 ⟨hE12,H,hH,hev⟩
      rw [List.take_length] at hev
      obtain ⟨Aev,cev,rfl⟩:=hev.form
      replace hb2:=hb2.ext hE12
      repeat (first|refine Ah ?_|refine Al ?_|refine Ae ?_|refine Am ?_|refine Au ?_|refine At ?_|refine Ar rfl ?_|refine Aj rfl ?_)
      (refine o_mv rfl rfl ?_<;>refine o_fa rfl rfl ?_)
      refine Bp rfl rfl hb2 rfl (show 0 + 3 + 1≤4 by decide) (by simp [Value.cells,Value.oneCell']) fun w13 hU13=>?_
      replace hb2:Blk w13 w4.heap.size 67 [.string o.name,.int .i64 o.cost,.slice Ap' o.pre.length cp',.slice Aev o.effs.length cev]:=hU13.blk
      have hE413:Ext w4 w13:=(hE47.trans' hE12).trans (hU13.below (Nat.le_refl _))
      have s6:=hE6.size
      have s7:=hU7.size
      have s12:=hE12.size
      have s13:=hU13.size
      have hb3':=hb3.ext hE413
      have hg3lt:=hb3.lt
      have hpv13:Vb w13 (nw w5 w6) (.slice Ap' o.pre.length cp') o.pre:=hpv7.agree fun q hq=>(hU13.other q (by have:=hq.1;omega)).trans (hE12.block q (by have:=hq.2;omega))
      have hev13:Vb w13 (fun q=>H q∨(Value.slice Aev o.effs.length cev).ownBlock=some q) (.slice Aev o.effs.length cev) o.effs:=hev.vb.agree fun q hq=>hU13.other q (by
        rcases hq with hq|hq
        · have:=(hH q hq).1;omega
        · have:=(hev.lt q hq).1;omega)
      have hne:∀ g,(Value.slice Aov (t.ops.take k).length cov).ownBlock=some g→¬ (G g∨w4.heap.size≤g∧g < w13.heap.size):=fun g hg h=>by
        have hlt:=(hown.lt g hg).2
        rcases h with h|h
        · obtain ⟨_,_,_,h3⟩:=hown;exact h3 g hg h
        · omega
      have hown13:Own w13 w3.heap.size (fun q=>G q∨w4.heap.size≤q∧q < w13.heap.size) 67 _ _:=(hown.ext hE413 fun q hq=>(hG q hq).2).mono (fun q hq=>.inl hq) hne
      have hG13:∀ q,(G q∨w4.heap.size≤q∧q < w13.heap.size)→w3.heap.size≤q∧q < w13.heap.size:=fun q hq=>by
        have:=hE413.size
        rcases hq with hq|hq
        · have:=hG q hq;omega
        · omega
      have hopr:Vb w13 (fun q=>G q∨w4.heap.size≤q∧q < w13.heap.size) (.agg #[.string o.name,.int .i64 o.cost,.slice Ap' o.pre.length cp',.slice Aev o.effs.length cev]) o :=
        ⟨[.string o.name,.int .i64 o.cost,.slice Ap' o.pre.length cp',.slice Aev o.effs.length cev],rfl,_,_,rfl,hpv13.mono fun q hq=>.inr (by have h1:=hq.1;have h2:=hq.2;omega),hev13.mono fun q hq=>.inr (by
          rcases hq with hq|hq
          · have:=hH q hq;omega
          · have:=hev.lt q hq;omega),hc,hn⟩
      have hkl:(t.ops.take k).length≤1000000:=by rw [List.length_take];omega
      ((first|refine Ay ?_|refine Az ?_|refine Aw ?_|refine AA ?_))
      repeat (first|refine Ah ?_|refine Al ?_|refine Ae ?_|refine Am ?_|refine Au ?_|refine At ?_|refine Ar rfl ?_|refine Aj rfl ?_)
      have hbx:=hb2
      clear hb1
      have hb1:=hb3'
      (refine o_fa rfl rfl ?_<;>refine o_ld rfl rfl ?_<;>refine o_la rfl rfl ?_)
      refine En (a:=o) rfl rfl rfl hown13 (fun q hq=>(hG13 q hq).2) (by have:=hE413.size;omega) hopr (by decide) (by decide) (by omega) (by omega) ⟨rfl,rfl⟩ fun ov' w14 hov14 hK14=>?_
      obtain ⟨Aov',cov',rfl⟩:=hov14.form
      have hb3k:=hK14.blk hb3' (hown13.blk_ne hb3' (by decide))
      (refine o_fa rfl rfl ?_)
      refine Bp rfl rfl hb3k rfl (show 0 + 3 + 1≤4 by decide) (by simp [Value.cells,Value.oneCell']) fun w15 hU15=>?_
      ((first|refine Ay ?_|refine Az ?_|refine Aw ?_|refine AA ?_))
      repeat (first|refine Ah ?_|refine Al ?_|refine Ae ?_|refine Am ?_|refine Au ?_|refine At ?_|refine Ar rfl ?_|refine Aj rfl ?_)
      have hB14:Below w3.heap.size w13 w14:=hown13.fits (Nat.le_refl _) (by have:=hE413.size;omega) hK14
      have sz14:=hK14.size
      have sz15:=hU15.size
      refine ⟨(),⟨rfl,rfl,rfl,rfl,rfl,trivial⟩,?_,?_,?_,_,(fun q=>G q∨w4.heap.size≤q∧q < w13.heap.size),hU15.blk,fun q hq=>?_,?_⟩
      · exact hB4.trans (((hE413.mono (by omega)).trans (hB14.mono (by omega))).trans (hU15.below (by omega)))
      · have:=hE413.size;omega
      · intro q hq hne'
        rw [hU15.other q hne',hB14.block q hq,hE413.block q (by omega),hkeep q hq hne']
      · have:=hG13 q hq;omega
      · have hne15:=hov14.blk_ne hb3k (by decide)
        rw [List.take_add_one,ho]
        refine hov14.agree (hU15.agree ?_) fun g hg=>hU15.other g fun he=>hne15 (he ▸ hg)
        rintro (h|h)
        · have:=(hG g3 h).1;omega
        · omega
    rintro _ w4 ⟨hB4,hz34,hkeep,ov,G,hb3,hG,hown⟩
    rw [List.take_length] at hown
    obtain ⟨Aov,cov,rfl⟩:=hown.form
    have hresz:=hres.lt
    replace hres:=hres.keep (hkeep _ hresz (by omega))
    clear hb1
    have hb1:=hb3
    repeat (first|refine Ah ?_|refine Al ?_|refine Ae ?_|refine Am ?_|refine Au ?_|refine At ?_|refine Ar rfl ?_|refine Aj rfl ?_)
    obtain ⟨Aa,ca,rfl⟩:=hav.form
    obtain ⟨Ab,cb,rfl⟩:=hbv.form
    obtain ⟨Ac,cc,rfl⟩:=hcv.form
    (refine o_la rfl rfl ?_)
    refine Bp rfl rfl hres rfl (Nat.le_refl _) (by simp [Value.cells,Value.oneCell']) fun w5 hU=>?_
    ((first|refine Ay ?_|refine Az ?_|refine Aw ?_|refine AA ?_))
    repeat (first|refine Ah ?_|refine Al ?_|refine Ae ?_|refine Am ?_|refine Au ?_|refine At ?_|refine Ar rfl ?_|refine Aj rfl ?_)
    have hE4:Ext w w4:=hE2.trans (hB4.mono (by omega))
    have s5:=hU.size
    have s04:=hE4.size
    have hcl:∀ {α:Type} [Rp α] {v:Value} {x:α},Vb w3 (fun k=>nw w2 w3 k∧k≠g3) v x→Vb w5 (nw w w5) v x:=fun h=>(h.agree fun q hq=>(hU.other q (by have:=hq.1.1;omega)).trans (hkeep q hq.1.2 hq.2)).mono fun q hq=>⟨by have:=hq.1.1;omega,by have:=hq.1.2;omega⟩
    have hovv:Vb w5 (nw w w5) (.slice Aov t.ops.length cov) t.ops:=(hown.vb.agree fun q hq=>hU.other q (by
      rcases hq with hq|hq
      · have:=(hG q hq).1;omega
      · have:=(hown.lt q hq).1;omega)).mono fun q hq=>by
        rcases hq with hq|hq
        · have:=hG q hq;exact ⟨by omega,by omega⟩
        · have:=hown.lt q hq;exact ⟨by omega,by omega⟩
    refine ret1v rfl (Bf rfl rfl hU.blk.cellsAt) ⟨⟨_,rfl,_,_,_,_,rfl,hcl hav,hcl hbv,hcl hcv,hovv⟩,hE4.trans (hU.below (by omega))⟩
end
section
def PreOk (t:Tsk):Prop:=∀ (i:Nat) o,t.ops[i]?=some o→FactsOk t.vars o.pre
theorem TaskOk.pre {t:Tsk} (h:TaskOk t):PreOk t:=fun i o ho=>(h.2.2.2.2.2 i o ho).2.2.2.2.1
theorem Jw {t:Tsk} (h:PreOk t) (op:Int):FactsOk t.vars (preOf t op):=by
  unfold preOf
  cases ho:t.ops[op.toNat]? with
  | none=>exact ⟨fun i x hx=>by simp at hx,fun i x y hx=>by simp at hx⟩
  | some o=>exact h _ o ho
theorem FT {l:List Fct} {v:Int} {f:Fct} (h:factOn l v=some f):f∈l∧f.var=v:=by
  unfold factOn at h
  exact ⟨List.mem_of_find?_eq_some h,by simpa using List.find?_some h⟩
theorem JM {l:List Fct} {v:Int} (h:factOn l v=none):∀ f∈l,f.var≠v:=by
  unfold factOn at h
  rw [List.find?_eq_none] at h
  intro f hf
  simpa using h f hf
theorem JN {vars:List Int} {l:List Fct} (hl:FactsOk vars l) {f g:Fct} (hf:f∈l) (hg:g∈l) (he:f.var=g.var):f=g:=by
  obtain ⟨i,hi⟩:=List.getElem?_of_mem hf
  obtain ⟨j,hj⟩:=List.getElem?_of_mem hg
  rcases Nat.lt_trichotomy i j with h|h|h
  · have:=Gt hl j i f g h hi hj;omega
  · subst h;rw [hi] at hj;injection hj
  · have:=Gt hl i j g f h hj hi;omega
theorem TaskOk.fits {t:Tsk} (h:TaskOk t):FitsVals t:=by
  intro i o ho v f hf hv
  obtain ⟨h1,h2⟩:=FT hf
  obtain ⟨j,hj⟩:=List.getElem?_of_mem h1
  obtain ⟨g1,g2,n,g3,g4⟩:=(h.pre i o ho).1 j f hj
  rw [h2] at g3
  exact ⟨g2,n,by simpa using g3,g4⟩
def hf (t:Tsk) (s:List Int) (v:Nat) (op:Int):Bool:=(preOf t op).all fun f=>decide (f.var < (v:Int)) || hasB s f
theorem Hk {t:Tsk} {s:List Int} {v:Nat} {op:Int}:hf t s v op=true↔∀ f∈preOf t op,f.var < (v:Int)∨hasB s f=true:=by
  unfold hf
  simp [List.all_eq_true]
theorem Ke {t:Tsk} {s:List Int} {v:Nat} {op:Int} (h:factOn (preOf t op) (v:Int)=none):hf t s v op=hf t s (v + 1) op:=by
  rw [Bool.eq_iff_iff,Hk,Hk]
  constructor
  · intro hh f hm
    rcases hh f hm with h1|h1
    · exact .inl (by omega)
    · exact .inr h1
  · intro hh f hm
    have:=JM h f hm
    rcases hh f hm with h1|h1
    · exact .inl (by omega)
    · exact .inr h1
theorem Ls {t:Tsk} {s:List Int} {v:Nat} {op:Int} {f:Fct} (hp:PreOk t) (h:factOn (preOf t op) (v:Int)=some f):hf t s v op=(hasB s f && hf t s (v + 1) op):=by
  obtain ⟨h1,h2⟩:=FT h
  rw [Bool.eq_iff_iff,Bool.and_eq_true,Hk,Hk]
  constructor
  · intro hh
    refine ⟨(hh f h1).resolve_left (by omega),fun g hg=>?_⟩
    rcases hh g hg with h3|h3
    · exact .inl (by omega)
    · exact .inr h3
  · rintro ⟨h3,hh⟩ g hg
    rcases hh g hg with h4|h4
    · by_cases he:g.var=(v:Int)
      · have:g=f:=JN (Jw hp op) hg h1 (by omega)
        subst this;exact .inr h3
      · exact .inl (by omega)
    · exact .inr h4
theorem Kf {t:Tsk} {s:List Int} {ops:List Int}:∀ (k v:Nat),(∀ x,v≤x→x < v + k→tests t ops x=false)→∀ op∈ops,hf t s v op=hf t s (v + k) op
  | 0,_,_,_,_=>rfl
  | k + 1,v,h,op,ho=>by
    have h0:=h v (Nat.le_refl _) (by omega)
    unfold tests at h0
    rw [List.any_eq_false] at h0
    have h1:=h0 op ho
    have h2:factOn (preOf t op) (v:Int)=none:=by simpa using h1
    rw [Ke h2,Kf k (v + 1) (fun x hx1 hx2=>h x (by omega) (by omega)) op ho]
    congr 1;omega
theorem Ii {a b c:Int→Bool} {p:Int→Bool} (h:∀ x,p x=if a x=true then b x else if c x=true then b x else false) (hac:∀ x,a x=true→c x=false) :
    ∀ l:List Int,(l.filter p).Perm ((l.filter a).filter b ++ (l.filter c).filter b)
  | []=>by simp
  | x :: l=>by
    have ih:=Ii h hac l
    have hx:=h x
    cases ha:a x
    · cases hc:c x
      · simp only [ha,hc] at hx
        simpa [List.filter_cons,ha,hc,hx] using ih
      · simp only [ha,hc] at hx
        cases hb:b x
        · rw [hb] at hx
          simpa [List.filter_cons,ha,hc,hb,hx] using ih
        · rw [hb] at hx
          simp only [List.filter_cons,ha,hc,hb,hx,if_true,Bool.false_eq_true,if_false]
          exact (ih.cons x).trans (List.perm_middle.symm)
    · have hc:=hac x ha
      simp only [ha] at hx
      cases hb:b x
      · rw [hb] at hx
        simpa [List.filter_cons,ha,hc,hb,hx] using ih
      · rw [hb] at hx
        simp only [List.filter_cons,ha,hc,hb,hx,if_true,Bool.false_eq_true,if_false,List.cons_append]
        exact ih.cons x
theorem Mb {t:Tsk} {s:List Int} (hp:PreOk t) (op:Int):hf t s t.vars.length op=true:=by
  rw [Hk]
  intro f hfm
  obtain ⟨i,hi⟩:=List.getElem?_of_mem hfm
  obtain ⟨h1,h2,n,h3,_⟩:=(Jw hp op).1 i f hi
  have:=Bj h3
  exact .inl (by omega)
theorem Kr (t:Tsk) (ops:List Int) {v:Nat} (h:v≤t.vars.length):v≤nextV t ops v∧nextV t ops v≤t.vars.length∧(∀ u,v≤u→u < nextV t ops v→tests t ops u=false)∧(nextV t ops v < t.vars.length→tests t ops (nextV t ops v)=true):=by
  obtain ⟨h1,h2,h3,h4⟩:=Gy t ops (t.vars.length - v) v
  exact ⟨h1,by unfold nextV;omega,h3,fun h=>h4 (by unfold nextV at h;omega)⟩
theorem StateOk.at {vars s:List Int} (h:StateOk vars s) {u:Nat} (hu:u < vars.length):∃ (x:Nat) (n:Int),s[u]?=some (x:Int)∧vars[u]?=some n∧(x:Int) < n∧atN s u=x:=by
  obtain ⟨y,hy⟩:=AN (l:=s) (k:=u) (by rw [h.1];exact hu)
  obtain ⟨n,hn⟩:=AN hu
  obtain ⟨h1,h2⟩:=h.2 u y n hy hn
  obtain ⟨x,rfl⟩:=Int.eq_ofNat_of_zero_le h1
  exact ⟨x,n,hy,hn,h2,by simp [atN,hy]⟩
theorem Jx {t:Tsk} {s:List Int} (hp:PreOk t) (hs:StateOk t.vars s):∀ (fuel:Nat) (ops:List Int) (v:Nat),v≤t.vars.length→t.vars.length < fuel + v →
    (coll s (mkT t fuel ops v)).Perm (ops.filter (hf t s v))∧Fits s (mkT t fuel ops v):=by
  intro fuel
  induction fuel with
  | zero=>intro ops v h1 h2;omega
  | succ fuel ih =>
    intro ops v h1 h2
    obtain ⟨g1,g2,g3,g4⟩:=Kr t ops h1
    have hsame:=Kf (t:=t) (s:=s) (ops:=ops) (nextV t ops v - v) v (fun x hx1 hx2=>g3 x hx1 (by omega))
    rw [show v + (nextV t ops v - v)=nextV t ops v from by omega] at hsame
    have hfil:ops.filter (hf t s v)=ops.filter (hf t s (nextV t ops v)):=List.filter_congr hsame
    rw [hfil]
    unfold mkT
    by_cases he:ops.isEmpty=true
    · rw [if_pos he]
      have:ops=[]:=by simpa using he
      subst this
      exact ⟨by simp [coll],trivial⟩
    rw [if_neg he]
    by_cases hn:nextV t ops v=t.vars.length
    · rw [if_pos hn,hn]
      have:ops.filter (hf t s t.vars.length)=ops:=List.filter_eq_self.2 fun x _=>Mb hp x
      rw [this]
      exact ⟨List.Perm.refl _,trivial⟩
    rw [if_neg hn]
    obtain ⟨x,n,q1,q2,q3,q4⟩:=hs.at (u:=nextV t ops v) (by omega)
    have i1:=ih (ops.filter (valB t (nextV t ops v) x)) (nextV t ops v + 1) (by omega) (by omega)
    have i2:=ih (ops.filter (restB t (nextV t ops v))) (nextV t ops v + 1) (by omega) (by omega)
    refine ⟨?_,⟨x,q1,by rw [q2];simp;omega⟩,by rw [q4];exact i1.2,i2.2⟩
    rw [coll,q4]
    refine (i1.1.append i2.1).trans (Ii (a:=valB t (nextV t ops v) x) (c:=restB t (nextV t ops v)) (fun op=>?_) (fun op h=>?_) ops).symm
    · unfold valB restB
      cases ho:factOn (preOf t op) (nextV t ops v:Int) with
      | none=>rw [Ke ho];simp
      | some f =>
        rw [Ls hp ho]
        obtain ⟨_,hv⟩:=FT ho
        rw [Ka (s:=s) hv q1]
        by_cases hx:f.val=(x:Int)
        · simp [hx]
        · simp [hx,Ne.symm hx]
    · unfold valB at h
      unfold restB
      cases ho:factOn (preOf t op) (nextV t ops v:Int) with
      | none=>rw [ho] at h;simp at h
      | some f=>rfl
def allOps (t:Tsk):List Int:=(List.range t.ops.length).map fun i:Nat=>(i:Int)
def treeOf (t:Tsk):Tr:=mkT t (t.vars.length + 1) (allOps t) 0
theorem IT {α:Type} {p q:α→Bool}:∀ {l:List α},(∀ x∈l,p x=q x)→l.all p=l.all q
  | [],_=>rfl
  | x :: l,h=>by rw [List.all_cons,List.all_cons,h x List.mem_cons_self,IT fun y hy=>h y (List.mem_cons_of_mem _ hy)]
theorem Lt {t:Tsk} (hp:PreOk t) (s:List Int):appl t s=(allOps t).filter (hf t s 0):=by
  unfold appl applK allOps
  rw [List.filter_map]
  congr 1
  refine List.filter_congr fun i hi=>?_
  obtain ⟨o,ho⟩:=AN (l:=t.ops) (k:=i) (List.mem_range.1 hi)
  simp only [Function.comp,hf,preOf,holdsB,Int.toNat_natCast,ho]
  refine IT fun f hfm=>?_
  obtain ⟨j,hj⟩:=List.getElem?_of_mem hfm
  have:=((hp i o ho).1 j f hj).1
  have:decide (f.var < ((0:Nat):Int))=false:=decide_eq_false (by omega)
  rw [this,Bool.false_or]
theorem JO (t:Tsk) (s:List Int):(appl t s).Pairwise fun x y=>decide (x≤y)=true:=by
  unfold appl applK
  refine List.Pairwise.map _ (fun a b h=>?_) (List.Pairwise.filter _ List.pairwise_lt_range)
  exact decide_eq_true (by omega)
theorem Ks {l m:List Int} (h:l.Perm m) (hm:m.Pairwise fun x y=>decide (x≤y)=true):sortL l=m:=by
  refine List.Perm.eq_of_pairwise (le:=fun x y:Int=>decide (x≤y)=true) (fun a b _ _ h1 h2=>?_) (List.pairwise_mergeSort (fun a b c h1 h2=>?_) (fun a b=>?_) l) hm ((List.mergeSort_perm _ _).trans h)
  · have:=of_decide_eq_true h1;have:=of_decide_eq_true h2;omega
  · have:=of_decide_eq_true h1;have:=of_decide_eq_true h2;exact decide_eq_true (by omega)
  · simp;omega
theorem Kt {t:Tsk} {s:List Int} (hp:PreOk t) (hs:StateOk t.vars s):findL t (treeOf t) s=appl t s:=by
  unfold findL
  rw [if_pos (bof_t hs)]
  refine Ks ?_ (JO t s)
  rw [Lt hp]
  exact (Jx hp hs _ _ 0 (Nat.zero_le _) (by omega)).1
theorem KR {t:Tsk} {s:List Int} (hp:PreOk t) (hs:StateOk t.vars s):Fits s (treeOf t):=(Jx hp hs _ _ 0 (Nat.zero_le _) (by omega)).2
theorem La (t:Tsk) (s:List Int):∀ (fuel:Nat) (ops:List Int) (v:Nat),(coll s (mkT t fuel ops v)).length≤ops.length:=by
  intro fuel
  induction fuel with
  | zero=>intro ops v;exact Nat.zero_le _
  | succ fuel ih =>
    intro ops v
    unfold mkT
    by_cases he:ops.isEmpty=true
    · rw [if_pos he];exact Nat.zero_le _
    rw [if_neg he]
    by_cases hn:nextV t ops v=t.vars.length
    · rw [if_pos hn];exact Nat.le_refl _
    rw [if_neg hn,coll,List.length_append]
    refine Nat.le_trans (Nat.add_le_add (ih _ _) (ih _ _)) ?_
    generalize nextV t ops v=u
    generalize atN s u=x
    clear he hn ih
    induction ops with
    | nil=>simp
    | cons op ops ih2 =>
      have hac:valB t u x op=true→restB t u op=false:=by
        unfold valB restB
        cases factOn (preOf t op) (u:Int)<;>simp
      rw [List.filter_cons,List.filter_cons]
      cases ha:valB t u x op
      · cases hc:restB t u op<;>simp<;>omega
      · rw [hac ha];simp;omega
theorem Ij (t:Tsk):(allOps t).length=t.ops.length:=by simp [allOps]
theorem Lb (t:Tsk) (s:List Int):(coll s (treeOf t)).length≤t.ops.length:=by
  have:=La t s (t.vars.length + 1) (allOps t) 0
  rwa [Ij] at this
end
section
open Go Go.RowKit
attribute [local irreducible] ewp owp hwp hwq hws Ev Evg Fn retPost loud loudS Res1
theorem JP:∀ k,((List.range (k + 1)).map fun i:Nat=>(i:Int))=((List.range k).map fun i:Nat=>(i:Int)) ++ [(k:Int)]:=fun k=>by
  rw [List.range_succ,List.map_append];rfl
theorem genNew {w:World} {tv:Value} {t:Tsk} (ht:V w tv t):Fn Tryz.prog 76 [tv] w fun v w'=>Ext w w' ∧
    ((TaskOk t∧∃ gv,v=.tuple #[gv,.nilIface]∧GenR w' (nw w w') gv t (treeOf t))∨(¬ TaskOk t∧v=.tuple #[.pointer none,errV (checkN t)])):=by
  have ht0:=ht
  obtain ⟨cs,rfl,a,b,c,d,rfl,hvars,hinit,hgoal,hops⟩:=ht
  refine AJ Tryz.func76 rfl Tryz.ntmps76 rfl ?_
  repeat (first|refine Ah ?_|refine Al ?_|refine Ae ?_|refine Am ?_|refine Au ?_|refine At ?_|refine Ar rfl ?_|refine Aj rfl ?_)
  refine Du rfl rfl fun w1 hN1=>?_
  have hE1:Ext w w1:=hN1.ext
  have hb1:Blk w1 w.heap.size 26 [a,b,c,d]:=hN1.blk
  have ht1:=ht0.ext hE1
  (refine o_as rfl rfl ?_<;>refine o_as rfl rfl ?_<;>(first|refine Ay ?_|refine Az ?_|refine Aw ?_|refine AA ?_))
  repeat (first|refine Ah ?_|refine Al ?_|refine Ae ?_|refine Am ?_|refine Au ?_|refine At ?_|refine Ar rfl ?_|refine Aj rfl ?_)
  (refine o_la rfl rfl ?_)
  refine AZ rfl rfl (taskCheck ht1) ?_
  rintro _ w2 ⟨rfl,hE2⟩
  have hE02:Ext w w2:=hE1.trans' hE2
  have hb1:=hb1.ext hE2
  by_cases hok:TaskOk t
  case neg =>
    have hne:checkN t≠0:=fun h=>hok (Ce.1 h)
    rw [Fz hne]
    (refine o_as rfl rfl ?_<;>(first|refine Ay ?_|refine Az ?_|refine Aw ?_|refine AA ?_))
    repeat (first|refine Ah ?_|refine Al ?_|refine Ae ?_|refine Am ?_|refine Au ?_|refine At ?_|refine Ar rfl ?_|refine Aj rfl ?_)
    ((repeat (first|refine Ah ?_|refine Al ?_|refine Ae ?_|refine Am ?_|refine Au ?_|refine At ?_|refine Ar rfl ?_|refine Aj rfl ?_))<;>(refine o_mv rfl rfl ?_<;>(first|refine o_ep rfl rfl ?_|refine o_eq rfl rfl ?_)<;>(first|refine Ay ?_|refine Az ?_|refine Aw ?_|refine AA ?_))<;>(repeat (first|refine Ah ?_|refine Al ?_|refine Ae ?_|refine Am ?_|refine Au ?_|refine At ?_|refine Ar rfl ?_|refine Aj rfl ?_)))
    ((repeat (first|refine Ah ?_|refine Al ?_|refine Ae ?_|refine Am ?_|refine Au ?_|refine At ?_|refine Ar rfl ?_|refine Aj rfl ?_))<;>(refine o_mv rfl rfl ?_<;>refine o_as rfl rfl ?_<;>refine o_as rfl rfl ?_<;>(first|refine Ay ?_|refine Az ?_|refine Aw ?_|refine AA ?_))<;>(repeat (first|refine Ah ?_|refine Al ?_|refine Ae ?_|refine Am ?_|refine Au ?_|refine At ?_|refine Ar rfl ?_|refine Aj rfl ?_)))
    exact ret2 rfl (AF rfl) (AF rfl) ⟨hE02,.inr ⟨hok,rfl⟩⟩
  rw [Ce.2 hok,EY]
  (refine o_as rfl rfl ?_<;>(first|refine Ay ?_|refine Az ?_|refine Aw ?_|refine AA ?_))
  repeat (first|refine Ah ?_|refine Al ?_|refine Ae ?_|refine Am ?_|refine Au ?_|refine At ?_|refine Ar rfl ?_|refine Aj rfl ?_)
  ((repeat (first|refine Ah ?_|refine Al ?_|refine Ae ?_|refine Am ?_|refine Au ?_|refine At ?_|refine Ar rfl ?_|refine Aj rfl ?_))<;>(refine o_mv rfl rfl ?_<;>(first|refine o_ep rfl rfl ?_|refine o_eq rfl rfl ?_)<;>(first|refine Ay ?_|refine Az ?_|refine Aw ?_|refine AA ?_))<;>(repeat (first|refine Ah ?_|refine Al ?_|refine Ae ?_|refine Am ?_|refine Au ?_|refine At ?_|refine Ar rfl ?_|refine Aj rfl ?_)))
  have hpre:=hok.pre
  have hl1:t.vars.length≤64:=hok.1
  have hl4:t.ops.length≤4096:=hok.2.1
  have hcp:=genCopied (ht1.ext hE2) (by omega) (by rw [hok.2.2.2.1.1];omega) (by have:=CP hok.2.2.2.2.1;omega) (by omega) (fun i o ho=>by
    obtain ⟨_,_,h3,_,h5,h6⟩:=hok.2.2.2.2.2 i o ho
    exact ⟨by have:=CP h5;omega,by omega,fun j e he=>by have:=CP (h6 j e he).1;omega⟩)
  (refine o_la rfl rfl ?_)
  refine AZ rfl rfl hcp ?_
  rintro cvv w3 ⟨hcv,hE3⟩
  obtain ⟨cs',rfl,a',b',c',d',rfl,hvars',hinit',hgoal',hops'⟩:=hcv
  (refine o_bd rfl rfl rfl ?_)
  refine Du rfl rfl fun w4 hN4=>?_
  have hbg:Blk w4 w3.heap.size 151 [a',b',c',d',.pointer none]:=hN4.blk
  have hE34:Ext w3 w4:=hN4.ext
  have s2:=hE02.size
  have s3:=hE3.size
  have s4:w4.heap.size=w3.heap.size + 1:=hN4.size
  obtain ⟨Ao,co,rfl⟩:=hops'.form
  (refine o_as rfl rfl ?_<;>(first|refine Ay ?_|refine Az ?_|refine Aw ?_|refine AA ?_))
  repeat (first|refine Ah ?_|refine Al ?_|refine Ae ?_|refine Am ?_|refine Au ?_|refine At ?_|refine Ar rfl ?_|refine Aj rfl ?_)
  ((repeat (first|refine Ah ?_|refine Al ?_|refine Ae ?_|refine Am ?_|refine Au ?_|refine At ?_|refine Ar rfl ?_|refine Aj rfl ?_))<;>(refine o_as rfl rfl ?_<;>(first|refine Ay ?_|refine Az ?_|refine Aw ?_|refine AA ?_))<;>(repeat (first|refine Ah ?_|refine Al ?_|refine Ae ?_|refine Am ?_|refine Au ?_|refine At ?_|refine Ar rfl ?_|refine Aj rfl ?_)))
  clear hb1
  have hb1:=hbg
  ((repeat (first|refine Ah ?_|refine Al ?_|refine Ae ?_|refine Am ?_|refine Au ?_|refine At ?_|refine Ar rfl ?_|refine Aj rfl ?_))<;>(refine o_mv rfl rfl ?_<;>refine o_nc rfl rfl ?_<;>refine o_fa rfl rfl ?_<;>refine o_fa rfl rfl ?_<;>refine o_ld rfl rfl ?_<;>refine o_ln rfl rfl ?_<;>refine o_mv rfl rfl ?_<;>(first|refine Ay ?_|refine Az ?_|refine Aw ?_|refine AA ?_))<;>(repeat (first|refine Ah ?_|refine Al ?_|refine Ae ?_|refine Am ?_|refine Au ?_|refine At ?_|refine Ar rfl ?_|refine Aj rfl ?_)))
  refine Bu t.ops.length (by omega) (fun v:Value=>[(1,.pointer (some ⟨w.heap.size,0,none⟩)),(5,.pointer (some ⟨w3.heap.size,0,none⟩)),(6,v)]) (fun k v w'=>Ext w4 w'∧Own w' w4.heap.size (fun _=>False) 3 v ((List.range k).map fun i:Nat=>(i:Int))) (.slice none 0 0)
    ⟨Below.refl _ _,Own.nil _ _ _ _⟩ ⟨rfl,rfl,rfl,rfl,rfl,trivial⟩ (fun _=>⟨rfl,rfl⟩) ⟨rfl,rfl,rfl⟩ ⟨rfl,rfl⟩ ?_ ?_
  · rintro k v w5 hk ⟨hE5,hown⟩
    ((repeat (first|refine Ah ?_|refine Al ?_|refine Ae ?_|refine Am ?_|refine Au ?_|refine At ?_|refine Ar rfl ?_|refine Aj rfl ?_))<;>(refine o_mv rfl rfl ?_<;>refine o_as rfl rfl ?_<;>(first|refine Ay ?_|refine Az ?_|refine Aw ?_|refine AA ?_))<;>(repeat (first|refine Ah ?_|refine Al ?_|refine Ae ?_|refine Am ?_|refine Au ?_|refine At ?_|refine Ar rfl ?_|refine Aj rfl ?_)))
    (refine o_mv rfl rfl ?_<;>refine o_mv rfl rfl ?_)
    refine En (a:=(k:Int)) rfl rfl rfl hown (fun _ h=>h.elim) hE5.size ⟨rfl,by omega,by omega⟩ (by decide) (by decide) (by simp;omega) (by simp;omega) ⟨rfl,rfl⟩ fun v' w6 hown6 hK=>?_
    (refine o_as rfl rfl ?_<;>(first|refine Ay ?_|refine Az ?_|refine Aw ?_|refine AA ?_))
    repeat (first|refine Ah ?_|refine Al ?_|refine Ae ?_|refine Am ?_|refine Au ?_|refine At ?_|refine Ar rfl ?_|refine Aj rfl ?_)
    exact ⟨v',⟨rfl,rfl,rfl,rfl,rfl,trivial⟩,hE5.trans (hown.fits (Nat.le_refl _) hE5.size hK),by rw [JP];exact hown6⟩
  rintro v w5 ⟨hE5,hown⟩
  have s5:=hE5.size
  have hE35:=hE34.trans' hE5
  have hbg5:=hbg.ext hE5
  have hB5:GenB w5 (All w5) (.pointer (some ⟨w3.heap.size,0,none⟩)) t:=⟨_,_,_,_,_,_,rfl,by show _ < _;omega,hbg5,(hvars'.agree (hE35.agree fun _ h=>h.2)).mono fun k hk=>by have:=hk.2;show _ < _;omega,(hinit'.agree (hE35.agree fun _ h=>h.2)).mono fun k hk=>by have:=hk.2;show _ < _;omega,(hgoal'.agree (hE35.agree fun _ h=>h.2)).mono fun k hk=>by have:=hk.2;show _ < _;omega,(hops'.agree (hE35.agree fun _ h=>h.2)).mono fun k hk=>by have:=hk.2;show _ < _;omega⟩
  have hov:Vb w5 (nw w4 w5) v (allOps t):=hown.vb.mono fun k hk=>hown.lt k (hk.resolve_left id)
  have hbuild:=genBuild t hok.vars hok.fits hl1 (t.vars.length + 1) w5 _ v (allOps t) 0 (nw w4 w5) hB5 hov (fun k hk=>hk.2) (fun op hop=>by
    obtain ⟨i,hi,rfl⟩:=List.mem_map.1 hop
    have:=List.mem_range.1 hi
    exact ⟨by omega,by omega⟩) (by rw [Ij];omega) (Nat.zero_le _) (by omega)
  repeat (first|refine Ah ?_|refine Al ?_|refine Ae ?_|refine Am ?_|refine Au ?_|refine At ?_|refine Ar rfl ?_|refine Aj rfl ?_)
  (refine o_mv rfl rfl ?_<;>refine o_mv rfl rfl ?_<;>refine o_mv rfl rfl ?_)
  refine AZ rfl rfl hbuild ?_
  rintro p w6 ⟨hT,hE6⟩
  obtain ⟨rp,rfl⟩:=hT.form
  have s6:=hE6.size
  (refine o_nc rfl rfl ?_<;>refine o_fa rfl rfl ?_)
  refine Bp rfl rfl (hbg5.ext hE6) rfl (Nat.le_refl _) (by simp [Value.cells,Value.oneCell']) fun w7 hU=>?_
  ((first|refine Ay ?_|refine Az ?_|refine Aw ?_|refine AA ?_))
  repeat (first|refine Ah ?_|refine Al ?_|refine Ae ?_|refine Am ?_|refine Au ?_|refine At ?_|refine Ar rfl ?_|refine Aj rfl ?_)
  ((repeat (first|refine Ah ?_|refine Al ?_|refine Ae ?_|refine Am ?_|refine Au ?_|refine At ?_|refine Ar rfl ?_|refine Aj rfl ?_))<;>(refine o_mv rfl rfl ?_<;>refine o_as rfl rfl ?_<;>refine o_as rfl rfl ?_<;>(first|refine Ay ?_|refine Az ?_|refine Aw ?_|refine AA ?_))<;>(repeat (first|refine Ah ?_|refine Al ?_|refine Ae ?_|refine Am ?_|refine Au ?_|refine At ?_|refine Ar rfl ?_|refine Aj rfl ?_)))
  have hE36:=hE35.trans' hE6
  have s7:=hU.size
  have hcl:∀ {α:Type} [Rp α] {v:Value} {x:α},Vb w3 (nw w2 w3) v x→Vb w7 (nw w w7) v x:=fun h=>((h.agree (hE36.agree fun _ h=>h.2)).agree fun q hq=>hU.other q (by have:=hq.2;omega)).mono fun k hk=>⟨by have:=hk.1;omega,by have:=hk.2;omega⟩
  refine ret2 rfl (AF rfl) (AF rfl) ⟨(((hE02.trans' hE3).trans' hE36).trans (hU.below (by omega))),.inl ⟨hok,_,rfl,_,_,_,_,_,_,rfl,⟨by omega,by omega⟩,hU.blk,hcl hvars',hcl hinit',hcl hgoal',hcl hops',?_⟩⟩
  refine TrR.mono (fun k hk=>?_) (TrR.agree (fun q hq=>hU.other q ?_) hT)
  · rcases hk with hk|hk
    · exact ⟨by have:=hk.1;omega,by have:=hk.2;omega⟩
    · exact ⟨by omega,by omega⟩
  · rcases hq with hk|hk
    · have:=hk.1;omega
    · omega
end
section
open Go Go.RowKit
attribute [local irreducible] ewp owp hwp hwq hws Ev Evg Fn retPost loud loudS Res1
theorem GenR.mono {w:World} {F G:Nat→Prop} {gv:Value} {t:Tsk} {T:Tr} (h:GenR w F gv t T) (hk:∀ k,F k→G k):GenR w G gv t T:=by
  obtain ⟨gb,a,b,c,d,r,h1,h2,h3,h4,h5,h6,h7,h8⟩:=h
  exact ⟨gb,a,b,c,d,r,h1,hk _ h2,h3,h4.mono hk,h5.mono hk,h6.mono hk,h7.mono hk,TrR.mono hk h8⟩
theorem GenR.agree {w w':World} {F:Nat→Prop} {gv:Value} {t:Tsk} {T:Tr} (h:GenR w F gv t T) (ha:Agree F w w'):GenR w' F gv t T:=by
  obtain ⟨gb,a,b,c,d,r,h1,h2,h3,h4,h5,h6,h7,h8⟩:=h
  exact ⟨gb,a,b,c,d,r,h1,h2,h3.keep (ha gb h2),h4.agree ha,h5.agree ha,h6.agree ha,h7.agree ha,TrR.agree ha h8⟩
theorem GenR.form {w:World} {F:Nat→Prop} {gv:Value} {t:Tsk} {T:Tr} (h:GenR w F gv t T):∃ gb,gv=.pointer (some ⟨gb,0,none⟩):=by
  obtain ⟨gb,a,b,c,d,r,h1,_⟩:=h
  exact ⟨gb,h1⟩
noncomputable def appS (t:Tsk) (s:List Int):List Int:=if bof (StateOk t.vars s)=true then appl t s else []
theorem Kg {t:Tsk} {s:List Int} (h:StateOk t.vars s):appS t s=appl t s:=by unfold appS;rw [if_pos (bof_t h)]
theorem Lu {t:Tsk} {s:List Int} (h:¬ StateOk t.vars s):appS t s=[]:=by unfold appS;rw [bof_f h];rfl
theorem Ku {t:Tsk} (hp:PreOk t) (s:List Int):findL t (treeOf t) s=appS t s:=by
  by_cases h:StateOk t.vars s
  · rw [Kt hp h,Kg h]
  · rw [Lu h];unfold findL;rw [bof_f h];rfl
section
variable {w : World} {gv sv : Value} {t : Tsk} {s : List Int}
theorem applT (hok:TaskOk t) (hg:GenR w (All w) gv t (treeOf t)) (hs:V w sv s) (hsl:s.length≤1000000) :
    Fn Tryz.prog 82 [gv,sv] w fun v w'=>Ext w w'∧Own w' w.heap.size (All w) 3 v (appS t s):=by
  have:=genApplicable hg hs (KR hok.pre) (by have:=Lb t s;have:=hok.2.1;omega) hsl
  rwa [Ku hok.pre] at this
end
theorem nilFind {w:World} {sv:Value}:Fn Tryz.prog 94 [.pointer none,sv] w fun v w'=>v=.tuple #[.slice none 0 0,.int .i64 0]∧Ext w w':=by
  refine AJ Tryz.func94 rfl Tryz.ntmps94 rfl ?_
  ((repeat (first|refine Ah ?_|refine Al ?_|refine Ae ?_|refine Am ?_|refine Au ?_|refine At ?_|refine Ar rfl ?_|refine Aj rfl ?_))<;>(refine o_as rfl rfl ?_<;>refine o_as rfl rfl ?_<;>(first|refine Ay ?_|refine Az ?_|refine Aw ?_|refine AA ?_))<;>(repeat (first|refine Ah ?_|refine Al ?_|refine Ae ?_|refine Am ?_|refine Au ?_|refine At ?_|refine Ar rfl ?_|refine Aj rfl ?_)))
  (refine o_mv rfl rfl ?_<;>refine o_pn rfl rfl ?_<;>refine o_mv rfl rfl ?_<;>(first|(refine AC rfl rfl ?_;refine o_mv rfl rfl ?_)|refine AB rfl rfl rfl rfl ?_)<;>(first|(refine AC rfl rfl ?_;refine o_nc rfl rfl ?_)|refine AB rfl rfl rfl rfl ?_)<;>(first|(refine AC rfl rfl ?_;refine o_fa rfl rfl ?_)|refine AB rfl rfl rfl rfl ?_)<;>(first|(refine AC rfl rfl ?_;refine o_fa rfl rfl ?_)|refine AB rfl rfl rfl rfl ?_)<;>(first|(refine AC rfl rfl ?_;refine o_ld rfl rfl ?_)|refine AB rfl rfl rfl rfl ?_)<;>(first|(refine AC rfl rfl ?_;refine o_mv rfl rfl ?_)|refine AB rfl rfl rfl rfl ?_))
  refine AB rfl rfl rfl rfl ?_
  ((first|(refine AC rfl rfl ?_;(first|refine o_nt rfl rfl ?_|refine o_nf rfl rfl ?_|refine o_nn rfl rfl ?_))|refine AB rfl rfl rfl rfl ?_)<;>(first|refine o_pt rfl rfl rfl ?_|refine o_pf rfl rfl rfl ?_)<;>(first|refine Ay ?_|refine Az ?_|refine Aw ?_|refine AA ?_))
  repeat (first|refine Ah ?_|refine Al ?_|refine Ae ?_|refine Am ?_|refine Au ?_|refine At ?_|refine Ar rfl ?_|refine Aj rfl ?_)
  ((repeat (first|refine Ah ?_|refine Al ?_|refine Ae ?_|refine Am ?_|refine Au ?_|refine At ?_|refine Ar rfl ?_|refine Aj rfl ?_))<;>(refine o_as rfl rfl ?_<;>refine o_as rfl rfl ?_<;>(first|refine Ay ?_|refine Az ?_|refine Aw ?_|refine AA ?_))<;>(repeat (first|refine Ah ?_|refine Al ?_|refine Ae ?_|refine Am ?_|refine Au ?_|refine At ?_|refine Ar rfl ?_|refine Aj rfl ?_)))
  exact ret2 rfl (AF rfl) (AF rfl) ⟨rfl,Below.refl _ _⟩
theorem nilApplicable {w:World} {sv:Value}:Fn Tryz.prog 82 [.pointer none,sv] w fun v w'=>v=.slice none 0 0∧Ext w w':=by
  refine AJ Tryz.func82 rfl Tryz.ntmps82 rfl ?_
  ((repeat (first|refine Ah ?_|refine Al ?_|refine Ae ?_|refine Am ?_|refine Au ?_|refine At ?_|refine Ar rfl ?_|refine Aj rfl ?_))<;>(refine o_as rfl rfl ?_<;>(first|refine Ay ?_|refine Az ?_|refine Aw ?_|refine AA ?_))<;>(repeat (first|refine Ah ?_|refine Al ?_|refine Ae ?_|refine Am ?_|refine Au ?_|refine At ?_|refine Ar rfl ?_|refine Aj rfl ?_))<;>(refine o_mv rfl rfl ?_<;>refine o_mv rfl rfl ?_)<;>(repeat (first|refine Ah ?_|refine Al ?_|refine Ae ?_|refine Am ?_|refine Au ?_|refine At ?_|refine Ar rfl ?_|refine Aj rfl ?_)))
  refine AZ rfl rfl nilFind ?_
  rintro _ w1 ⟨rfl,hE⟩
  (refine o_mv rfl rfl ?_<;>refine o_ex rfl rfl rfl ?_<;>refine o_ex rfl rfl rfl ?_<;>refine o_as rfl rfl ?_<;>refine o_as rfl rfl ?_<;>(first|refine Ay ?_|refine Az ?_|refine Aw ?_|refine AA ?_))
  repeat (first|refine Ah ?_|refine Al ?_|refine Ae ?_|refine Am ?_|refine Au ?_|refine At ?_|refine Ar rfl ?_|refine Aj rfl ?_)
  ((repeat (first|refine Ah ?_|refine Al ?_|refine Ae ?_|refine Am ?_|refine Au ?_|refine At ?_|refine Ar rfl ?_|refine Aj rfl ?_))<;>(refine o_mv rfl rfl ?_<;>refine o_as rfl rfl ?_<;>(first|refine Ay ?_|refine Az ?_|refine Aw ?_|refine AA ?_))<;>(repeat (first|refine Ah ?_|refine Al ?_|refine Ae ?_|refine Am ?_|refine Au ?_|refine At ?_|refine Ar rfl ?_|refine Aj rfl ?_)))
  exact ret1 rfl rfl ⟨rfl,hE⟩
end
section
open Go Go.RowKit
attribute [local irreducible] ewp owp hwp hwq hws Ev Evg Fn retPost loud loudS Res1
structure Gnr where
  t:Tsk
def GnrR (w:World) (F:Nat→Prop) (v:Value):Option Gnr→Prop
  | none=>v=.pointer none
  | some g=>TaskOk g.t∧GenR w F v g.t (treeOf g.t)
theorem GnrR.one {w:World} {F:Nat→Prop} {v:Value}:∀ {x:Option Gnr},GnrR w F v x→v.oneCell'=true
  | none,h=>by    have:v=.pointer none:=h
                  subst this;rfl
  | some g,h=>by
    obtain ⟨gb,rfl⟩:=h.2.form
    rfl
instance:Rp (Option Gnr) where
  isAgg:=false
  size:=1
  R w F cs x:=∃ v,cs=[v]∧GnrR w F v x
  len:=by rintro w F cs x ⟨v,rfl,_⟩;rfl
  one:=by
    rintro w F cs x ⟨v,rfl,h⟩ u hu
    have:u=v:=by simpa using hu
    subst this;exact h.one
  agree:=by
    rintro w w' F cs x ⟨v,rfl,h⟩ ha
    refine ⟨v,rfl,?_⟩
    cases x with
    | none=>exact h
    | some g=>exact ⟨h.1,h.2.agree ha⟩
  mono:=by
    rintro w F G cs x ⟨v,rfl,h⟩ hk
    refine ⟨v,rfl,?_⟩
    cases x with
    | none=>exact h
    | some g=>exact ⟨h.1,h.2.mono hk⟩
theorem vNone {w:World} {F:Nat→Prop}:Vb w F (.pointer none) (none:Option Gnr):=⟨_,rfl,rfl⟩
theorem Vb.gnr {w:World} {F:Nat→Prop} {v:Value} {x:Option Gnr} (h:Vb w F v x):GnrR w F v x:=by
  obtain ⟨u,hu,h'⟩:=h
  have:v=u:=by simpa using hu
  subst this;exact h'
theorem Vb.ptr {w:World} {F:Nat→Prop} {v:Value} {x:Option Gnr} (h:Vb w F v x):∃ p,v=.pointer p∧p.isNone=x.isNone:=by
  cases x with
  | none=>exact ⟨none,h.gnr,rfl⟩
  | some g=>obtain ⟨gb,rfl⟩:=h.gnr.2.form;exact ⟨_,rfl,rfl⟩
theorem Ld {w:World} {F:Nat→Prop} {p:Option Addr} {x:Option Gnr} {g:Gnr} (h:Vb w F (.pointer p) x) (e:x=some g) :
    ∃ gb a b c d r,p=some ⟨gb,0,none⟩∧F gb∧cellsAt w gb 0 [a,b,c,d,r]∧Vb w F a g.t.vars∧Vb w F b g.t.init∧Vb w F c g.t.goal∧Vb w F d g.t.ops:=by
  subst e
  obtain ⟨_,gb,a,b,c,d,r,h1,h2,h3,h4,h5,h6,h7,_⟩:=h.gnr
  injection h1 with h1
  exact ⟨gb,a,b,c,d,r,h1,h2,h3.cellsAt,h4,h5,h6,h7⟩
theorem vGnr {w:World} {F:Nat→Prop} {v:Value} {g:Gnr} (h:TaskOk g.t) (hg:GenR w F v g.t (treeOf g.t)):Vb w F v (some g):=⟨v,rfl,h,hg⟩
theorem Lv {A:Nat→Prop} {w w':World}:∀ k,nw w w' k→upA A w w' k:=fun _ h=>.inr h
theorem Own.intRow {w w':World} {F A:Nat→Prop} {e:TypeId} {v:Value} {xs:List Int} (h:Own w' w.heap.size F e v xs):RowR w w' (upA A w w') e v xs:=by
  obtain ⟨cells,q1,q2,q3⟩:=h
  exact ⟨fun _=>False,fun _ h=>h.elim,cells,q1,FS q2,fun _ _ h=>h⟩
noncomputable def DM (t:Tsk):Option (Option Gnr×Err):=some (if bof (TaskOk t)=true then some ⟨t⟩ else none,⟨checkN t⟩)
theorem IX {w:World} {A:Nat→Prop} (hA:∀ k,A k→k < w.heap.size) {v0:Value} {x0:Tsk} (h0:Vb w A v0 x0) {r:Option Gnr×Err} (hm:DM x0=some r):Fn Tryz.prog 76 [v0] w fun v w'=>Ext w w'∧T2 w' (upA A w w') v r:=by
  obtain rfl:=sm hm
  refine (genNew (h0.mono hA)).mono fun v w' h=>⟨h.1,?_⟩
  rcases h.2 with ⟨hok,gv,rfl,hg⟩|⟨hno,rfl⟩
  · rw [bof_t hok,Ce.2 hok]
    exact ⟨gv,_,rfl,vGnr (g:=⟨x0⟩) hok (hg.mono Lv),vErr0⟩
  · rw [bof_f hno]
    exact ⟨_,_,rfl,vNone,vErr (Ig _)⟩
noncomputable def appG:Option Gnr→List Int→List Int
  | none,_=>[]
  | some g,s=>appS g.t s
noncomputable def BR (x:Option Gnr) (s:List Int):Option (List Int):=if s.length≤1000000 then some (appG x s) else none
theorem EJ {w:World} {A:Nat→Prop} (hA:∀ k,A k→k < w.heap.size) {v0:Value} {x0:Option Gnr} (h0:Vb w A v0 x0) {v1:Value} {x1:List Int} (h1:Vb w A v1 x1) {r:List Int} (hm:BR x0 x1=some r) :
    Fn Tryz.prog 82 [v0,v1] w fun v w'=>Ext w w'∧RowR w w' (upA A w w') 3 v r:=by
  obtain ⟨hl,rfl⟩:=DV hm
  cases x0 with
  | none =>
    have h2:=h0.gnr
    have:v0=.pointer none:=h2
    subst this
    refine nilApplicable.mono fun v w' h=>⟨h.2,?_⟩
    rw [h.1];exact RowR.nil
  | some g =>
    obtain ⟨hok,hg⟩:=h0.gnr
    exact (applT hok (hg.mono hA) (h1.mono hA) hl).mono fun v w' h=>⟨h.1,h.2.intRow⟩
end
section
section
variable {α σ ρ : Type}
theorem fin_d {s:σ} {f:σ→Option ρ}:fin (.done s) f=f s:=rfl
theorem if_t {x y:α}:(if true=true then x else y)=x:=rfl
theorem if_f {x y:α}:(if false=true then x else y)=y:=rfl
theorem Hl {f:Nat→α→σ→Option (Ctl σ ρ)} {I:Nat→σ→Prop} {R:ρ→Prop}:∀ (ys:List α) (j:Nat) (s:σ),I j s →
    (∀ k x s,ys[k]?=some x→I (j + k) s→(∃ s',f (j + k) x s=some (.next s')∧I (j + k + 1) s')∨(∃ r,f (j + k) x s=some (.ret r)∧R r)) →
    (∃ s',rng f ys j s=some (.done s')∧I (j + ys.length) s')∨∃ r,rng f ys j s=some (.ret r)∧R r
  | [],j,s,h0,_=>.inl ⟨s,rfl,h0⟩
  | y :: ys,j,s,h0,h=>by
    rcases h 0 y s rfl h0 with ⟨s',h1,h2⟩|⟨r,h1,h2⟩
    · have h1':f j y s=some (.next s'):=h1
      simp only [rng,h1']
      rcases Hl (I:=I) (R:=R) ys (j + 1) s' h2 (fun k x s hk hI=>by
        have:=h (k + 1) x s (by simpa using hk) (by rwa [show j + (k + 1)=j + 1 + k from by omega])
        rwa [show j + (k + 1)=j + 1 + k from by omega] at this) with ⟨s2,h3,h4⟩|h3
      · exact .inl ⟨s2,h3,by rw [List.length_cons,show j + (ys.length + 1)=j + 1 + ys.length from by omega];exact h4⟩
      · exact .inr h3
    · have h1':f j y s=some (.ret r):=h1
      simp only [rng,h1']
      exact .inr ⟨r,rfl,h2⟩
theorem Lw {f:Nat→α→σ→Option (Ctl σ ρ)} {xs:List α} {s₀:σ} (I:Nat→σ→Prop) (R:ρ→Prop) (h0:I 0 s₀)
    (h:∀ k x s,xs[k]?=some x→I k s→(∃ s',f k x s=some (.next s')∧I (k + 1) s')∨(∃ r,f k x s=some (.ret r)∧R r)) :
    (∃ s',rng f xs 0 s₀=some (.done s')∧I xs.length s')∨∃ r,rng f xs 0 s₀=some (.ret r)∧R r:=by
  have:=Hl (f:=f) (I:=I) (R:=R) xs 0 s₀ h0 (fun k x s hk hI=>by rw [Nat.zero_add] at hI ⊢;exact h k x s hk hI)
  rwa [Nat.zero_add] at this
theorem Lx {f:Nat→α→σ→Option (Ctl σ ρ)} {xs:List α} {s₀:σ} (I:Nat→σ→Prop) (h0:I 0 s₀) (h:∀ k x s,xs[k]?=some x→I k s→∃ s',f k x s=some (.next s')∧I (k + 1) s') :
    ∃ s',rng f xs 0 s₀=some (.done s')∧I xs.length s':=by
  rcases Lw I (fun _=>False) h0 (fun k x s hk hI=>.inl (h k x s hk hI)) with h|⟨_,_,h⟩
  · exact h
  · exact h.elim
theorem Iz {f:Nat→α→σ→Option (Ctl σ ρ)} {xs:List α} (g:Nat→σ) (h:∀ k x,xs[k]?=some x→f k x (g k)=some (.next (g (k + 1)))):rng f xs 0 (g 0)=some (.done (g xs.length)):=by
  obtain ⟨s',h1,h2⟩:=Lx (f:=f) (xs:=xs) (s₀:=g 0) (fun k s=>s=g k) rfl (fun k x s hk hI=>⟨_,by rw [hI];exact h k x hk,rfl⟩)
  rw [h1,h2]
theorem Er {f:Nat→α→σ→Option (Ctl σ ρ)} {xs:List α} {s₀:σ} (g:Nat→σ) (h0:s₀=g 0) (h:∀ k x,xs[k]?=some x→f k x (g k)=some (.next (g (k + 1)))):rng f xs 0 s₀=some (.done (g xs.length)):=by
  rw [h0];exact Iz g h
theorem HN {f:Nat→α→Unit→Option (Ctl Unit ρ)} {xs:List α} (h:∀ k x,xs[k]?=some x→f k x ()=some (.next ())):rng f xs 0 ()=some (.done ()):=Iz (fun _=>()) h
theorem Lf {f:Nat→σ→Option (Ctl σ ρ)} {N:Nat} (g:Nat→σ) (h:∀ k,k < N→f k (g k)=some (.next (g (k + 1)))):rngN f N (g 0)=some (.done (g N)):=by
  have:=Iz (f:=fun _ k s=>f k s) (xs:=List.range N) g (fun k x hk=>by
    obtain ⟨hlt,rfl⟩:=List.getElem?_eq_some_iff.1 hk
    simpa using h k (by simpa using hlt))
  rwa [List.length_range] at this
theorem IU {f:Nat→σ→Option (Ctl σ ρ)} {N:Nat} {s₀:σ} (g:Nat→σ) (h0:s₀=g 0) (h:∀ k,k < N→f k (g k)=some (.next (g (k + 1)))):rngN f N s₀=some (.done (g N)):=by
  rw [h0];exact Lf g h
end
end
section
open Go Go.RowKit
section
attribute [local irreducible] ewp owp hwp hwq hws Ev Evg Fn retPost loud loudS Res1
noncomputable def Bv (x0:Option Gnr) (x1:List Int):Option (List Suc) :=
  bnd (BR x0 x1) fun q7=>bnd (rng (ρ:=(List Suc)) (fun (k23:Nat) (a24:Int) (s21:(List Suc))=>bnd (Bl x1) fun q46=>bnd (x0) fun o56=>bnd (atI o56.t.ops a24) fun a88=>bnd (rng (ρ:=Ctl (List Suc) (List Suc)) (fun (k115:Nat) (a116:Eff) (s113:(List Int))=>bnd (DW a116.cond x1) fun q150=>if q150=true then bnd (atI s113 a116.var) fun a157=>some (.next (s113.set (a116.var:Int).toNat a116.val)) else some (.next s113)) a88.effs 0 q46) fun res111=>fin res111 fun (s175:(List Int))=>bnd (appI 32 s21 [(⟨a24,s175⟩:Suc)]) fun u179=>some (.next u179)) q7 0 ([]:List Suc)) fun res19=>fin res19 fun (s195:(List Suc))=>some s195
theorem EK {w:World} {A:Nat→Prop} (hA:∀ k,A k→k < w.heap.size) {vx0:Value} {x0:Option Gnr} (hx0:Vb w A vx0 x0) {vx1:Value} {x1:List Int} (hx1:Vb w A vx1 x1) {r:(List Suc)} (hm:Bv x0 x1=some r) :
    Fn Tryz.prog 61 [vx0,vx1] w fun v w'=>Ext w w'∧Vb w' (upA A w w') v r:=by
 obtain ⟨O,hB,hA0⟩:=enter hA
 replace hx0:=hx0.mono hA0
 obtain ⟨p3,rfl,hq4⟩:=hx0.ptr
 replace hx1:=hx1.mono hA0
 obtain ⟨A5,c6,rfl⟩:=hx1.form
 refine AJ Tryz.func61 rfl Tryz.ntmps61 rfl ?_
 unfold Bv at hm
 refine Ah (Ae (o_as rfl rfl (o_z ?_)))
 refine Ah (Ae (o_as rfl rfl (o_z ?_)))
 refine Ah (Ah (Ae (o_mv rfl rfl (o_mv rfl rfl ?_))))
 obtain ⟨q7,e8,hm⟩:=bs hm
 refine CC 2 (by decide) (O:=O) (EJ Fr.lt hx0 hx1 e8) rfl rfl fun A14 c15 w9 O10 S11 h12=>?_
 refine o_ln rfl rfl ?_
 have l18:q7.length≤9223372036854775807:=Nat.le_trans h12.len.2.1 h12.len.2.2
 have r17:inI64 (q7.length:Int):=rngNat l18
 refine o_mv rfl rfl (o_z ?_)
 obtain ⟨res19,hL20,hm⟩:=bs hm
 refine AL (aft res19 (fun (s21:(List Suc)) (x22:(Option Addr×Nat))=>[(5,(.slice x22.1 s21.length x22.2))]) (fun s21 x22 w'=>∃ O':Lab,Bs w A w' O'∧Rw 5 w' O' 112 (.slice x22.1 s21.length x22.2) s21)) ?_ ?_
 ·
  refine Al ?_
  replace hB:=hB.st S11
  replace hx0:=hx0.st S11
  replace hx1:=hx1.st S11
  refine Bh (σ:=(List Suc)) (X:=(Option Addr×Nat)) (q7.length) hL20 rfl l18 (fun (s21:(List Suc)) (x22:(Option Addr×Nat))=>[(0,(.pointer p3)),(1,(.slice A5 x1.length c6)),(5,(.slice x22.1 s21.length x22.2)),(13,(.slice A14 q7.length c15))]) _ (fun s21 x22 w'=>∃ O':Lab,Bs w A w' O'∧Vb w' (Fr 0 w' O') (.pointer p3) x0∧Vb w' (Fr 0 w' O') (.slice A5 x1.length c6) x1∧Rw 5 w' O' 112 (.slice x22.1 s21.length x22.2) s21∧Rw 2 w' O' 3 (.slice A14 q7.length c15) q7) _ (none,0) ⟨O10,hB,hx0,hx1,(Rw.nil 5 (by decide)),h12⟩ ⟨rfl,rfl,rfl,rfl,rfl,rfl,trivial⟩ (fun _ _=>⟨rfl,rfl⟩) (fun _ _=>⟨rfl,trivial⟩) (fun _ _ _ ⟨O',hB,hx0,hx1,h36,h12⟩=>⟨O',hB,h36⟩) ⟨rfl,rfl,rfl⟩ ⟨rfl,rfl⟩ ?_
  rintro k23 a24 s21 x22 w25 cc27 hx28 ⟨O26,hB,hx0,hx1,h36,h12⟩ hf29 hret30 hbrk31
  have rk23:inI64 (k23:Int):=rngK hx28 l18
  refine Ah (Ae ?_)
  obtain ⟨b38,o39,ce40,hA41,hl42,hd43,rfl,r45⟩:=h12.elem hx28
  refine o_iaE (hA:=hA41) (hj:=rfl) (hlt:=hl42) rfl rfl rfl ?_
  refine o_ld (hc:=cat0 hd43) rfl rfl ?_
  refine o_as rfl rfl (o_z ?_)
  refine Ah (Ae (o_mv rfl rfl ?_))
  obtain ⟨q46,e47,hf29⟩:=bs hf29
  refine CC 3 (by decide) (O:=O26) (Da Fr.lt hx1 e47) rfl rfl fun A53 c54 w48 O49 S50 h51=>?_
  refine o_as rfl rfl (o_z ?_)
  refine Ah (Ah (Ae (o_mv rfl rfl ?_)))
  obtain ⟨o56,e57,hf29⟩:=bs hf29
  obtain ⟨ad59,hp58⟩:=Iu (hq4.trans (by rw [e57];rfl))
  refine o_ncE (hA:=hp58) rfl rfl ?_
  replace hx0:=hx0.st S50
  obtain ⟨b84,v67,v71,v75,v79,v83,hA85,hF86,hd87,h68,h72,h76,h80⟩:=Ld hx0 e57
  obtain ⟨A69,c70,rfl⟩:=h68.form
  obtain ⟨A73,c74,rfl⟩:=h72.form
  obtain ⟨A77,c78,rfl⟩:=h76.form
  obtain ⟨A81,c82,rfl⟩:=h80.form
  refine o_faE (hA:=hA85) rfl rfl ?_
  refine o_fa rfl rfl (o_ld (hc:=cat3 hd87) rfl rfl ?_)
  refine o_mv rfl rfl ?_
  obtain ⟨a88,e89,hf29⟩:=bs hf29
  obtain ⟨p91,x90⟩:=AP e89
  obtain ⟨b92,o93,ce94,hA95,hl96,hd97,v99,v100,rfl,h101,h104,r107,z108⟩:=h80.elem' x90
  obtain ⟨A102,c103,rfl⟩:=h101.form
  obtain ⟨A105,c106,rfl⟩:=h104.form
  refine o_iaE (hA:=hA95) (hj:=(Int.toNat_of_nonneg p91).symm) (hlt:=hl96) rfl rfl rfl ?_
  refine o_fa rfl rfl (o_ld (hc:=cat3 hd97) rfl rfl ?_)
  refine o_ln rfl rfl ?_
  have l110:a88.effs.length≤9223372036854775807:=Nat.le_trans h104.len.2.1 h104.len.2.2
  have r109:inI64 (a88.effs.length:Int):=rngNat l110
  refine o_mv rfl rfl (o_z ?_)
  obtain ⟨res111,hL112,hf29⟩:=bs hf29
  refine AL (aft res111 (fun (s113:(List Int)) (x114:Unit)=>[(0,(.pointer p3)),(1,(.slice A5 x1.length c6)),(5,(.slice x22.1 s21.length x22.2)),(7,(.int .i64 a24)),(8,(.slice A53 q46.length c54)),(13,(.slice A14 q7.length c15)),(14,(.int .i64 (q7.length:Int))),(15,(.int .i64 (k23:Int)))]) (fun s113 x114 w'=>∃ O':Lab,Bs w A w' O'∧Vb w' (Fr 0 w' O') (.pointer p3) x0∧Vb w' (Fr 0 w' O') (.slice A5 x1.length c6) x1∧Rw 5 w' O' 112 (.slice x22.1 s21.length x22.2) s21∧Rw 3 w' O' 3 (.slice A53 q46.length c54) s113∧Rw 2 w' O' 3 (.slice A14 q7.length c15) q7)) ?_ ?_
  ·
   refine Al ?_
   replace hB:=hB.st S50
   replace hx1:=hx1.st S50
   replace h12:=h12.st S50
   replace h36:=h36.st S50
   refine Bh (σ:=(List Int)) (X:=Unit) (a88.effs.length) hL112 rfl l110 (fun (s113:(List Int)) (x114:Unit)=>[(0,(.pointer p3)),(1,(.slice A5 x1.length c6)),(5,(.slice x22.1 s21.length x22.2)),(7,(.int .i64 a24)),(8,(.slice A53 q46.length c54)),(13,(.slice A14 q7.length c15)),(14,(.int .i64 (q7.length:Int))),(15,(.int .i64 (k23:Int))),(29,(.slice A105 a88.effs.length c106))]) _ (fun s113 x114 w'=>∃ O':Lab,Bs w A w' O'∧Vb w' (Fr 0 w' O') (.pointer p3) x0∧Vb w' (Fr 0 w' O') (.slice A5 x1.length c6) x1∧Rw 5 w' O' 112 (.slice x22.1 s21.length x22.2) s21∧Rw 3 w' O' 3 (.slice A53 q46.length c54) s113∧Rw 2 w' O' 3 (.slice A14 q7.length c15) q7∧Vb w' (Fr 0 w' O') (.slice A105 a88.effs.length c106) a88.effs) _ () ⟨O49,hB,hx0,hx1,h36,h51,h12,h104⟩ ⟨rfl,rfl,rfl,rfl,rfl,rfl,rfl,rfl,rfl,rfl,rfl,trivial⟩ (fun _ _=>⟨rfl,rfl⟩) (fun _ _=>⟨rfl,rfl,rfl,rfl,rfl,rfl,rfl,rfl,trivial⟩) (fun _ _ _ ⟨O',hB,hx0,hx1,h36,h128,h12,h104⟩=>⟨O',hB,hx0,hx1,h36,h128,h12⟩) ⟨rfl,rfl,rfl⟩ ⟨rfl,rfl⟩ ?_
   rintro k115 a116 s113 x114 w117 cc119 hx120 ⟨O118,hB,hx0,hx1,h36,h128,h12,h104⟩ hf121 hret122 hbrk123
   have rk115:inI64 (k115:Int):=rngK hx120 l110
   refine Ah (Ae ?_)
   obtain ⟨b130,o131,ce132,hA133,hl134,hd135,v137,rfl,h138,r141,r142⟩:=h104.elem' hx120
   obtain ⟨A139,c140,rfl⟩:=h138.form
   refine o_iaE (hA:=hA133) (hj:=rfl) (hlt:=hl134) rfl rfl rfl ?_
   refine o_la (hl:=rfl) (hc:=hd135) rfl rfl ?_
   refine AX 4 O118 rfl fun g143 w144 O145 S146 h147=>?_
   refine AK h147 rfl rfl rfl (Nat.le_of_ble_eq_true rfl) (by first|exact allOne rfl|simp [Value.cells,Value.oneCell',AI]) fun w148 S149 h147=>?_
   replace h147:Lc 4 w148 O145 g143 64 [(.slice A139 a116.cond.length c140),(.int .i64 a116.var),(.int .i64 a116.val)]:=h147
   refine o_z ?_
   refine Ah (Ae (o_fa rfl rfl (o_ld (hc:=Blk.cell (i:=0) (h147.1) rfl) rfl rfl ?_)))
   refine o_mv rfl rfl ?_
   obtain ⟨q150,e151,hf121⟩:=bs hf121
   replace hx1:=(hx1.st S146).st S149
   replace h138:=(h138.st S146).st S149
   refine Bg (O:=O145) (A:=All w148) (R:=fun w' F v=>Vb w' F v q150) (Hd (fun _ h=>h) (Vb.mono (F:=Fr 0 w148 O145) h138 Fr.lt) (Vb.mono (F:=Fr 0 w148 O145) hx1 Fr.lt) e151) rfl rfl fun v156 w152 O153 S154 h155=>?_
   obtain rfl:=h155.bool
   cases q150
   case false =>
    replace hf121:=iF hf121
    refine o_z ?_
    refine Aj rfl (Am ?_)
    obtain rfl:=sm hf121
    refine (?_:Exists _)
    replace hx0:=((hx0.st S146).st S149).st S154
    replace hB:=((hB.st S146).st S149).st S154
    replace hx1:=hx1.st S154
    replace h12:=((h12.st S146).st S149).st S154
    replace h36:=((h36.st S146).st S149).st S154
    replace h104:=((h104.st S146).st S149).st S154
    replace h128:=((h128.st S146).st S149).st S154
    exact ⟨_,(),rfl,⟨rfl,rfl,rfl,rfl,rfl,rfl,rfl,rfl,rfl,rfl,rfl,trivial⟩,_,hB,hx0,hx1,h36,h128,h12,h104⟩
   replace hf121:=iT hf121
   refine o_z ?_
   refine Ar rfl (Ae (o_mv rfl rfl (o_fa rfl rfl ?_)))
   replace h147:=h147.st S154
   refine o_ld (hc:=Blk.cell (i:=1) (h147.1) rfl) rfl rfl ?_
   refine o_fa rfl rfl (o_ld (hc:=Blk.cell (i:=2) (h147.1) rfl) rfl rfl ?_)
   obtain ⟨a157,e158,hf121⟩:=bs hf121
   obtain ⟨p160,x159⟩:=AP e158
   replace h128:=((h128.st S146).st S149).st S154
   obtain ⟨b161,o162,ce163,hA164,hl165,hd166,rfl,r168⟩:=h128.elem x159
   refine o_iaE (hA:=hA164) (hj:=(Int.toNat_of_nonneg p160).symm) (hlt:=hl165) rfl rfl rfl ?_
   refine Di rfl h128 (a:=a116.val) (vInt r142) hA164 rfl rfl (Ba x159) fun w169 S170 h128=>?_
   refine o_z ?_
   obtain rfl:=sm hf121
   refine (?_:Exists _)
   replace hx0:=(((hx0.st S146).st S149).st S154).st S170
   replace hB:=(((hB.st S146).st S149).st S154).st S170
   replace hx1:=(hx1.st S154).st S170
   replace h12:=(((h12.st S146).st S149).st S154).st S170
   replace h36:=(((h36.st S146).st S149).st S154).st S170
   replace h104:=(((h104.st S146).st S149).st S154).st S170
   exact ⟨_,(),rfl,⟨rfl,rfl,rfl,rfl,rfl,rfl,rfl,rfl,rfl,rfl,rfl,trivial⟩,_,hB,hx0,hx1,h36,h128,h12,h104⟩
  replace hB:=hB.st S50
  replace hx1:=hx1.st S50
  replace h12:=h12.st S50
  replace h36:=h36.st S50
  rintro l171 w172 ⟨s175,x176,rfl,hs174,O173,hB,hx0,hx1,h36,h128,h12⟩
  replace hf29:=AR hf29
  refine AM _ hs174 ?_
  refine Ae (o_mv rfl rfl (o_mv rfl rfl (o_mv rfl rfl (o_bd rfl rfl rfl ?_))))
  obtain ⟨O177,S178,h128⟩:=h128.freeze
  obtain ⟨u179,e180,hf29⟩:=bs hf29
  obtain ⟨e180,e181,e182⟩:=AO e180
  replace h36:=h36.st S178
  refine CB rfl (a:=(⟨a24,s175⟩:Suc)) h36 (Vb.ofAgg (cs:=[(.int .i64 a24),(.slice A53 q46.length c54)]) (x:=(⟨a24,s175⟩:Suc)) rfl ⟨_,rfl,h128,r45⟩) (fun _=>rfl) rfl (by decide) (by decide) e181 e182 ⟨rfl,rfl⟩ fun g183 A184 c185 w186 O187 S188 h189=>?_
  rw [← e180] at h189 ⊢
  refine o_as rfl rfl (o_z ?_)
  obtain rfl:=sm hf29
  refine (?_:Exists _)
  replace hB:=(hB.st S178).st S188
  replace hx0:=(hx0.st S178).st S188
  replace hx1:=(hx1.st S178).st S188
  replace h12:=(h12.st S178).st S188
  exact ⟨_,(A184,c185),rfl,⟨rfl,rfl,rfl,rfl,rfl,rfl,trivial⟩,_,hB,hx0,hx1,h189,h12⟩
 replace hB:=hB.st S11
 rintro l191 w192 ⟨s195,x196,rfl,hs194,O193,hB,h36⟩
 replace hm:=AR hm
 refine AM _ hs194 ?_
 refine Ah (Ae (o_mv rfl rfl (o_as rfl rfl (o_z ?_))))
 refine At ?_
 obtain ⟨O197,S198,h36⟩:=h36.freeze
 obtain rfl:=sm hm
 replace hB:=hB.st S198
 exact ret1v rfl (AF rfl) ⟨hB.ext,(Vb.mono (F:=Fr 0 w192 O197) h36 hB.out)⟩
end
theorem Mc {t:Tsk} (h:TaskOk t):DM t=some (some ⟨t⟩,⟨0⟩):=by unfold DM;rw [bof_t h,if_t,Ce.2 h]
end
section
open Go Go.RowKit
attribute [local irreducible] ewp owp hwp hwq hws Ev Evg Fn retPost loud loudS Res1
attribute [local irreducible] hwx loudX
structure Spc where
  t:Tsk
  reg:Reg
  gen:Option Gnr
instance:Ow Spc where
  R w F M v x:=∃ (g:Nat) (L:Lab) (c0 c1 c2 c3 c4 c5:Value),v=.pointer (some ⟨g,0,none⟩)∧Blk w g 106 [c0,c1,c2,c3,c4,c5]∧M g∧L g=0∧Vb w F c0 x.t.vars∧Vb w F c1 x.t.init∧Vb w F c2 x.t.goal∧Vb w F c3 x.t.ops∧Ow.R w F (fun k=>M k∧L k=1) c4 x.reg∧Vb w F c5 x.gen
  agree:=by rintro w w' F M v x ⟨g,L,c0,c1,c2,c3,c4,c5,rfl,hb,hM,hL,h0,h1,h2,h3,h4,h5⟩ a1 a2;exact ⟨g,L,c0,c1,c2,c3,c4,c5,rfl,hb.keep (a2 g hM),hM,hL,h0.agree a1,h1.agree a1,h2.agree a1,h3.agree a1,Ow.agree h4 a1 fun k hk=>a2 k hk.1,h5.agree a1⟩
  mono:=by rintro w F M F' M' v x ⟨g,L,c0,c1,c2,c3,c4,c5,rfl,hb,hM,hL,h0,h1,h2,h3,h4,h5⟩ a1 a2 a3;exact ⟨g,L,c0,c1,c2,c3,c4,c5,rfl,hb,a2 g hM,hL,h0.mono a1,h1.mono a1,h2.mono a1,h3.mono a1,Ow.mono h4 a1 (fun k hk=>⟨a2 k hk.1,hk.2⟩) fun k hf hm=>a3 k hf hm.1,h5.mono a1⟩
instance:OwP Spc:=⟨by rintro w F M v x ⟨g,L,c0,c1,c2,c3,c4,c5,rfl,_⟩;exact ⟨g,rfl⟩⟩
theorem Spc.opn {i:Nat} {w:World} {O:Lab} {p:Nat} {x:Spc} (h:Ob i w O (.pointer (some ⟨p,0,none⟩)) x) (l0 l1:Nat) (hl:l0≠0∧l1≠0):∃ (O':Lab) (c0 c1 c2 c3 c4 c5:Value),St (eT i) w O w O'∧(∀ k,Fr i w O k→∃ q,q∈[l0,l1]∧Fr q w O' k)∧Lc l0 w O' p 106 [c0,c1,c2,c3,c4,c5]∧Vb w (Fr 0 w O') c0 x.t.vars∧Vb w (Fr 0 w O') c1 x.t.init∧Vb w (Fr 0 w O') c2 x.t.goal∧Vb w (Fr 0 w O') c3 x.t.ops∧Ob l1 w O' c4 x.reg∧Vb w (Fr 0 w O') c5 x.gen:=by
  obtain ⟨⟨g,L,c0,c1,c2,c3,c4,c5,hv,hb,hM,hL,h0,h1,h2,h3,h4,h5⟩,hi⟩:=h
  obtain rfl:p=g:=by injection hv with hv;injection hv with hv;injection hv
  exact ⟨part O i L [l0,l1],c0,c1,c2,c3,c4,c5,Ht hi,Gp (by simp),⟨hb,(DO (j:=0) rfl p ⟨hM,hL⟩).2⟩,h0.mono (CR hi),h1.mono (CR hi),h2.mono (CR hi),h3.mono (CR hi),⟨Ow.mono h4 (CR hi) (DO (j:=1) rfl) (frNe0 hl.2),hl.2⟩,h5.mono (CR hi)⟩
theorem Spc.shut {w:World} {O:Lab} {p:Nat} {x:Spc} {l0 l1:Nat} {c0 c1 c2 c3 c4 c5:Value} (hd:¬ 0∈[l0,l1]∧[l0,l1].idxOf l0=0∧[l0,l1].idxOf l1=1) (hb:Lc l0 w O p 106 [c0,c1,c2,c3,c4,c5]) (h0:Vb w (Fr 0 w O) c0 x.t.vars) (h1:Vb w (Fr 0 w O) c1 x.t.init) (h2:Vb w (Fr 0 w O) c2 x.t.goal) (h3:Vb w (Fr 0 w O) c3 x.t.ops) (h4:Ob l1 w O c4 x.reg) (h5:Vb w (Fr 0 w O) c5 x.gen):∃ O',St (·∈[l0,l1]) w O w O'∧(∀ k,Fr 0 w O k→Fr 0 w O' k)∧(∀ q,q∈[l0,l1]→∀ k,Fr q w O k→Fr l0 w O' k)∧Ob l0 w O' (.pointer (some ⟨p,0,none⟩)) x:=by
  have hb1:l0≠0:=fun e=>hd.1 (by simp [e])
  have hg:=Do (i:=l0) hd.2.1 (by simp) p ⟨hb.1.lt,hb.2⟩
  exact ⟨whole O l0 [l0,l1],Gq,BT hd.1,FK,⟨p,fun k=>[l0,l1].idxOf (O k),c0,c1,c2,c3,c4,c5,rfl,hb.1,hg.1,hg.2,h0.mono (BT hd.1),h1.mono (BT hd.1),h2.mono (BT hd.1),h3.mono (BT hd.1),Ow.mono h4.1 (BT hd.1) (Do hd.2.2 (by simp)) (fun k a b=>frNe0 hb1 k a b.1),h5.mono (BT hd.1)⟩,hb1⟩
noncomputable def Dj (x0:Tsk):Option ((Option Spc)×Err) :=
  bnd (DM x0) fun q24=>if q24.2.n≠0 then (some (none,(⟨q24.2.n⟩:Err))) else (bnd (Dx x0.vars) fun q39=>if q39.2.n≠0 then (some (none,(⟨q39.2.n⟩:Err))) else (bnd q39.1 fun o52=>bnd (BF o52 x0.init) fun q55=>if q55.2.2.1.n≠0 then (some (none,(⟨q55.2.2.1.n⟩:Err))) else (some ((some (⟨(⟨x0.vars,x0.init,x0.goal,x0.ops⟩:Tsk),q55.2.2.2,q24.1⟩:Spc)),(⟨0⟩:Err)))))
theorem Ik {w:World} {O:Lab} {vx0:Value} {x0:Tsk} (hx0:Vb w (Fr 0 w O) vx0 x0) (j0:Nat) (hj0:j0≠0) {r:(Option Spc)×Err} (hm:Dj x0=some r) :
    Fn Tryz.prog 55 [vx0] w fun v w'=>∃ O',St nT w O w' O'∧∃ v0 v1:Value,v=.tuple #[v0,v1]∧Obo j0 w' O' v0 r.1∧Vb w' (Fr 0 w' O') v1 r.2:=by
 obtain ⟨O0,hE,hz0⟩:=ent0 (w:=w) (O:=O)
 have hB:Bm w O0 w O0:=Bm.refl
 replace hx0:=hx0.mono hz0
 obtain ⟨cs2,rfl,v3,v4,v5,v6,rfl,h7,h10,h13,h16⟩:=hx0
 obtain ⟨A8,c9,rfl⟩:=h7.form
 obtain ⟨A11,c12,rfl⟩:=h10.form
 obtain ⟨A14,c15,rfl⟩:=h13.form
 obtain ⟨A17,c18,rfl⟩:=h16.form
 refine AJ Tryz.func55 rfl Tryz.ntmps55 rfl ?_
 unfold Dj at hm
 refine Ah (Ae (l_box 2 O0 rfl rfl fun g19 w20 O21 S22 h23=>?_))
 replace h23:Lc 2 w20 O21 g19 26 [(.slice A8 x0.vars.length c9),(.slice A11 x0.init.length c12),(.slice A14 x0.goal.length c15),(.slice A17 x0.ops.length c18)]:=h23
 refine o_as rfl rfl (o_as rfl rfl (o_z ?_))
 refine Ah (Ae (o_la (hl:=rfl) (hc:=(h23.1).cellsAt) rfl rfl ?_))
 obtain ⟨q24,e25,hm⟩:=bs hm
 replace h7:=h7.st S22
 replace h10:=h10.st S22
 replace h13:=h13.st S22
 replace h16:=h16.st S22
 refine Dw (O:=O21) (R:=fun w' F v=>T2 w' F v q24) (IX Fr.lt (Vb.ofAgg (cs:=[(.slice A8 x0.vars.length c9),(.slice A11 x0.init.length c12),(.slice A14 x0.goal.length c15),(.slice A17 x0.ops.length c18)]) (x:=x0) rfl ⟨_,_,_,_,rfl,h7,h10,h13,h16⟩) e25) rfl rfl fun v30 w26 O27 S28 h29=>?_
 obtain ⟨v31,v32,rfl,h33,h34⟩:=h29
 obtain ⟨p35,rfl,hq36⟩:=h33.ptr
 obtain ⟨rfl,r37⟩:=h34.err
 refine o_mv rfl rfl (o_ex rfl rfl rfl (o_ex rfl rfl rfl (o_as rfl rfl (o_as rfl rfl (o_z ?_)))))
 refine Ah (Ah (Ae (o_mv rfl rfl (o_rnS rfl rfl (fun c38=>?_) fun c38=>?_))))
 ·
  replace hm:=ip hm c38
  refine o_z ?_
  refine Ar rfl (Ah (Ae (o_mv rfl rfl (o_as rfl rfl (o_as rfl rfl (o_z ?_))))))
  refine At ?_
  obtain rfl:=sm hm
  replace hB:=(hB.st S22).st S28
  obtain ⟨O',hS',hz,hl⟩:=hE.leave (fun _=>0) rfl hB
  exact ret2 rfl (AF rfl) (AF rfl) ⟨O',hS',_,_,rfl,rfl,(vErr r37)⟩
 ·
  replace hm:=im hm c38
  refine o_z ?_
  refine Aj rfl (Am (Ah (Ae (o_fa rfl rfl ?_))))
  replace h23:=h23.st S28
  refine o_ld (hc:=Blk.cell (i:=0) (h23.1) rfl) rfl rfl ?_
  obtain ⟨q39,e40,hm⟩:=bs hm
  replace h7:=h7.st S28
  refine BA (O:=O27) (Iy h7 3 (by decide) e40) rfl rfl fun v45 w41 O42 S43 h44=>?_
  obtain ⟨v46,v47,rfl,h48,h49⟩:=h44
  obtain ⟨rfl,r50⟩:=h49.err
  refine o_mv rfl rfl (o_ex rfl rfl rfl (o_ex rfl rfl rfl (o_as rfl rfl (o_as rfl rfl (o_z ?_)))))
  refine Ah (Ah (Ae (o_mv rfl rfl (o_rnS rfl rfl (fun c51=>?_) fun c51=>?_))))
  ·
   replace hm:=ip hm c51
   refine o_z ?_
   refine Ar rfl (Ah (Ae (o_mv rfl rfl (o_as rfl rfl (o_as rfl rfl (o_z ?_))))))
   refine At ?_
   obtain rfl:=sm hm
   replace hB:=((hB.st S22).st S28).st S43
   obtain ⟨O',hS',hz,hl⟩:=hE.leave (fun _=>0) rfl hB
   exact ret2 rfl (AF rfl) (AF rfl) ⟨O',hS',_,_,rfl,rfl,(vErr r50)⟩
  ·
   replace hm:=im hm c51
   refine o_z ?_
   refine Aj rfl (Am (Ah (Ah (Ae (o_mv rfl rfl (o_fa rfl rfl ?_))))))
   replace h23:=h23.st S43
   refine o_ld (hc:=Blk.cell (i:=1) (h23.1) rfl) rfl rfl ?_
   obtain ⟨o52,e53,hm⟩:=bs hm
   rw [e53] at h48
   obtain ⟨p54,rfl⟩:=Ob.ptr h48
   obtain ⟨q55,e56,hm⟩:=bs hm
   replace h10:=(h10.st S28).st S43
   refine BA (O:=O42) (Eh h48 h10 e56) rfl rfl fun v61 w57 O58 S59 h60=>?_
   obtain ⟨v63,v64,v65,h62,rfl,h66,h67,h68⟩:=h60
   obtain ⟨rfl,r69⟩:=h66.int
   obtain rfl:=h67.bool
   obtain ⟨rfl,r70⟩:=h68.err
   refine o_mv rfl rfl (o_ex rfl rfl rfl (o_ex rfl rfl rfl (o_ex rfl rfl rfl (o_as rfl rfl (o_as rfl rfl (o_as rfl rfl (o_z ?_)))))))
   refine Ah (Ae (o_mv rfl rfl (o_rnS rfl rfl (fun c71=>?_) fun c71=>?_)))
   ·
    replace hm:=ip hm c71
    refine o_z ?_
    refine Ar rfl (Ah (Ae (o_mv rfl rfl (o_as rfl rfl (o_as rfl rfl (o_z ?_))))))
    refine At ?_
    obtain rfl:=sm hm
    replace hB:=(((hB.st S22).st S28).st S43).st S59
    obtain ⟨O',hS',hz,hl⟩:=hE.leave (fun _=>0) rfl hB
    exact ret2 rfl (AF rfl) (AF rfl) ⟨O',hS',_,_,rfl,rfl,(vErr r70)⟩
   ·
    replace hm:=im hm c71
    refine o_z ?_
    refine Aj rfl (Am (Ah (Ae ?_)))
    replace h23:=h23.st S59
    refine o_la (hl:=rfl) (hc:=(h23.1).cellsAt) rfl rfl ?_
    refine o_mv rfl rfl (o_mv rfl rfl (o_bd rfl rfl rfl ?_))
    refine l_box 4 O58 rfl rfl fun g72 w73 O74 S75 h76=>?_
    replace h76:Lc 4 w73 O74 g72 106 [(.slice A8 x0.vars.length c9),(.slice A11 x0.init.length c12),(.slice A14 x0.goal.length c15),(.slice A17 x0.ops.length c18),(.pointer (some ⟨p54,0,none⟩)),(.pointer p35)]:=h76
    refine o_as rfl rfl (o_as rfl rfl (o_z ?_))
    refine At ?_
    replace h7:=((h7.st S43).st S59).st S75
    replace h10:=(h10.st S59).st S75
    replace h13:=(((h13.st S28).st S43).st S59).st S75
    replace h16:=(((h16.st S28).st S43).st S59).st S75
    replace h33:=((h33.st S43).st S59).st S75
    replace h62:=h62.st S75
    obtain ⟨O77,S78,hz80,ha81,h79⟩:=Spc.shut (x:=(⟨(⟨x0.vars,x0.init,x0.goal,x0.ops⟩:Tsk),q55.2.2.2,q24.1⟩:Spc)) (l0:=4) (l1:=3) (by decide) h76 h7 h10 h13 h16 h62 h33
    obtain rfl:=sm hm
    replace hB:=(((((hB.st S22).st S28).st S43).st S59).st S75).st S78
    obtain ⟨O',hS',hz,hl⟩:=hE.leave (fun q=>if q=4 then j0 else 0) rfl hB
    exact ret2 rfl (AF rfl) (AF rfl) ⟨O',hS',_,_,rfl,(Ob.leave h79 hz (hl 4 (by decide) (by decide)) hj0),(vErr (show inI64 0 from by decide))⟩
noncomputable def BZ (x0:Spc) (x1:Int) (x2:Int):Option (Rsl×Err) :=
  bnd (BV x0.reg x1) fun q36=>if q36.2.n≠0 then (some ((⟨0,([]:List Int),0,0⟩:Rsl),(⟨q36.2.n⟩:Err))) else (bnd (rng (ρ:=Rsl×Err) (fun (k77:Nat) (a78:Int) (s75:Int)=>bnd (atI x0.t.ops a78) fun a125=>bnd (chkI (s75 + a125.cost)) fun n146=>some (.next n146)) q36.1 0 0) fun res73=>fin res73 fun (s160:Int)=>some ((⟨1,q36.1,s160,x2⟩:Rsl),(⟨0⟩:Err)))
theorem FU {w:World} {O:Lab} {p0 i0:Nat} {x0:Spc} (hx0:Ob i0 w O (.pointer (some ⟨p0,0,none⟩)) x0) {x1:Int} (rx1:inI64 x1) {x2:Int} (rx2:inI64 x2) {r:Rsl×Err} (hm:BZ x0 x1 x2=some r) :
    Fn Tryz.prog 59 [(.pointer (some ⟨p0,0,none⟩)),(.int .i64 x1),(.int .i64 x2)] w fun v w'=>∃ O',St (eT i0) w O w' O'∧∃ v0 v1:Value,Ob i0 w' O' (.pointer (some ⟨p0,0,none⟩)) x0∧v=.tuple #[v0,v1]∧Vb w' (Fr 0 w' O') v0 r.1∧Vb w' (Fr 0 w' O') v1 r.2:=by
 obtain ⟨O0,hE,hz0,hl2⟩:=ent1 (w:=w) (O:=O) hx0.2
 have hx0':=Ob.leave hx0 hz0 hl2 (j:=2) (by decide)
 have hB:Bm w O0 w O0:=Bm.refl
 refine AJ Tryz.func59 rfl Tryz.ntmps59 rfl ?_
 unfold BZ at hm
 refine Ah (Ae (AX 3 O0 rfl fun g4 w5 O6 S7 h8=>?_))
 refine o_as rfl rfl (o_z ?_)
 refine Ah (Ae (o_mv rfl rfl (o_nc rfl rfl ?_)))
 replace hx0':=hx0'.st S7
 obtain ⟨O9,v13,v17,v21,v25,v29,v32,S10,ha12,h11,h14,h18,h22,h26,h30,h33⟩:=Spc.opn hx0' 2 4 (by decide)
 obtain ⟨A15,c16,rfl⟩:=h14.form
 obtain ⟨A19,c20,rfl⟩:=h18.form
 obtain ⟨A23,c24,rfl⟩:=h22.form
 obtain ⟨A27,c28,rfl⟩:=h26.form
 obtain ⟨p31,rfl⟩:=h30.ptr
 obtain ⟨p34,rfl,hq35⟩:=h33.ptr
 refine o_fa rfl rfl (o_ld (hc:=Blk.cell (i:=4) (h11.1) rfl) rfl rfl ?_)
 refine o_mv rfl rfl ?_
 obtain ⟨q36,e37,hm⟩:=bs hm
 refine BA (O:=O9) (FD h30 rx1 e37) rfl rfl fun v42 w38 O39 S40 h41=>?_
 obtain ⟨v44,v45,h43,rfl,h46,h47⟩:=h41
 obtain ⟨A48,c49,rfl⟩:=h46.form
 obtain ⟨rfl,r50⟩:=h47.err
 refine o_mv rfl rfl (o_ex rfl rfl rfl (o_ex rfl rfl rfl (o_as rfl rfl (o_as rfl rfl (o_z ?_)))))
 refine Ah (Ah (Ae (o_mv rfl rfl (o_rnS rfl rfl (fun c51=>?_) fun c51=>?_))))
 ·
  replace hm:=ip hm c51
  refine o_z ?_
  refine Ar rfl (Ah (Ae (o_bd rfl rfl rfl ?_)))
  refine o_mv rfl rfl ?_
  replace h8:=(h8.st S10).st S40
  refine AK h8 rfl rfl rfl (Nat.le_of_ble_eq_true rfl) (by first|exact allOne rfl|simp [Value.cells,Value.oneCell',AI]) fun w52 S53 h8=>?_
  replace h8:Lc 3 w52 O39 g4 32 [(.int .i64 0),(.slice none 0 0),(.int .i64 0),(.int .i64 0)]:=h8
  refine o_as rfl rfl (o_z ?_)
  refine At ?_
  replace h11:=(h11.st S40).st S53
  replace h14:=(h14.st S40).st S53
  replace h18:=(h18.st S40).st S53
  replace h22:=(h22.st S40).st S53
  replace h26:=(h26.st S40).st S53
  replace h33:=(h33.st S40).st S53
  replace h43:=h43.st S53
  obtain ⟨O54,S55,hz57,ha58,h56⟩:=Spc.shut (x:=x0) (l0:=2) (l1:=4) (by decide) h11 h14 h18 h22 h26 h43 h33
  obtain rfl:=sm hm
  replace hB:=((((hB.st S7).st S10).st S40).st S53).st S55
  obtain ⟨O',hS',hz,hl⟩:=hE.leave (fun q=>if q=2 then i0 else 0) rfl hB
  replace h8:=h8.st S55
  exact ret2 rfl (Bf (cs:=[(.int .i64 0),(.slice none 0 0),(.int .i64 0),(.int .i64 0)]) rfl rfl h8.1.cellsAt) (AF rfl) ⟨O',hS',_,_,(Ob.leave h56 hz (hl 2 (by decide) (by decide)) hx0.2),rfl,(Vb.mono (Vb.ofAgg (cs:=[(.int .i64 0),(.slice none 0 0),(.int .i64 0),(.int .i64 0)]) (x:=(⟨0,([]:List Int),0,0⟩:Rsl)) rfl ⟨_,rfl,(Vb.nil _ _),(show inI64 0 from by decide),(show inI64 0 from by decide),(show inI64 0 from by decide)⟩) hz),(vErr r50)⟩
 ·
  replace hm:=im hm c51
  refine o_z ?_
  refine Aj rfl (Am (Ah (Ae (o_mv rfl rfl (o_mv rfl rfl (o_bd rfl rfl rfl ?_))))))
  refine AX 5 O39 rfl fun g59 w60 O61 S62 h63=>?_
  refine AK h63 rfl rfl rfl (Nat.le_of_ble_eq_true rfl) (by first|exact allOne rfl|simp [Value.cells,Value.oneCell',AI]) fun w64 S65 h63=>?_
  replace h63:Lc 5 w64 O61 g59 32 [(.int .i64 1),(.slice A48 q36.1.length c49),(.int .i64 0),(.int .i64 x2)]:=h63
  refine o_z ?_
  refine Ah (Ah (Ae (o_mv rfl rfl (o_ln rfl rfl ?_))))
  replace h46:=(h46.st S62).st S65
  have l67:q36.1.length≤9223372036854775807:=Nat.le_trans h46.len.2.1 h46.len.2.2
  have r66:inI64 (q36.1.length:Int):=rngNat l67
  refine o_mv rfl rfl (o_z ?_)
  replace h11:=((h11.st S40).st S62).st S65
  replace h14:=((h14.st S40).st S62).st S65
  replace h18:=((h18.st S40).st S62).st S65
  replace h22:=((h22.st S40).st S62).st S65
  replace h26:=((h26.st S40).st S62).st S65
  replace h33:=((h33.st S40).st S62).st S65
  replace h43:=(h43.st S62).st S65
  obtain ⟨O68,S69,hz71,ha72,h70⟩:=Spc.shut (x:=x0) (l0:=2) (l1:=4) (by decide) h11 h14 h18 h22 h26 h43 h33
  obtain ⟨res73,hL74,hm⟩:=bs hm
  refine AL (aft res73 (fun (s75:Int) (x76:Unit)=>[(6,(.pointer (some ⟨g4,0,none⟩))),(10,(.pointer (some ⟨g59,0,none⟩)))]) (fun s75 x76 w'=>∃ O':Lab,Bm w O0 w' O'∧Lc 3 w' O' g4 32 [(.int .i64 0),(.slice none 0 0),(.int .i64 0),(.int .i64 0)]∧Lc 5 w' O' g59 32 [(.int .i64 1),(.slice A48 q36.1.length c49),(.int .i64 s75),(.int .i64 x2)]∧Vb w' (Fr 0 w' O') (.slice A48 q36.1.length c49) q36.1∧Ob 2 w' O' (.pointer (some ⟨p0,0,none⟩)) x0∧inI64 s75)) ?_ ?_
  ·
   refine Al ?_
   replace hB:=(((((hB.st S7).st S10).st S40).st S62).st S65).st S69
   replace h8:=((((h8.st S10).st S40).st S62).st S65).st S69
   replace h46:=h46.st S69
   replace h63:=h63.st S69
   refine Bh (σ:=Int) (X:=Unit) (q36.1.length) hL74 rfl l67 (fun (s75:Int) (x76:Unit)=>[(0,(.pointer (some ⟨p0,0,none⟩))),(6,(.pointer (some ⟨g4,0,none⟩))),(10,(.pointer (some ⟨g59,0,none⟩))),(29,(.slice A48 q36.1.length c49))]) _ (fun s75 x76 w'=>∃ O':Lab,Bm w O0 w' O'∧Ob 2 w' O' (.pointer (some ⟨p0,0,none⟩)) x0∧Lc 3 w' O' g4 32 [(.int .i64 0),(.slice none 0 0),(.int .i64 0),(.int .i64 0)]∧Lc 5 w' O' g59 32 [(.int .i64 1),(.slice A48 q36.1.length c49),(.int .i64 s75),(.int .i64 x2)]∧Vb w' (Fr 0 w' O') (.slice A48 q36.1.length c49) q36.1∧inI64 s75) _ () ⟨O68,hB,h70,h8,h63,h46,(show inI64 0 from by decide)⟩ ⟨rfl,rfl,rfl,rfl,rfl,rfl,trivial⟩ (fun _ _=>⟨rfl,rfl⟩) (fun _ _=>⟨rfl,rfl,trivial⟩) (fun _ _ _ ⟨O',hB,h70,h8,h63,h46,r89⟩=>⟨O',hB,h8,h63,h46,h70,r89⟩) ⟨rfl,rfl,rfl⟩ ⟨rfl,rfl⟩ ?_
   rintro k77 a78 s75 x76 w79 cc81 hx82 ⟨O80,hB,h70,h8,h63,h46,r89⟩ hf83 hret84 hbrk85
   have rk77:inI64 (k77:Int):=rngK hx82 l67
   refine Ah (Ae ?_)
   obtain ⟨b90,o91,ce92,hA93,hl94,hd95,rfl,r97⟩:=h46.elem' hx82
   refine o_iaE (hA:=hA93) (hj:=rfl) (hlt:=hl94) rfl rfl rfl ?_
   refine o_ld (hc:=cat0 hd95) rfl rfl ?_
   refine o_as rfl rfl (o_z ?_)
   obtain ⟨O98,v102,v106,v110,v114,v118,v121,S99,ha101,h100,h103,h107,h111,h115,h119,h122⟩:=Spc.opn h70 2 4 (by decide)
   obtain ⟨A104,c105,rfl⟩:=h103.form
   obtain ⟨A108,c109,rfl⟩:=h107.form
   obtain ⟨A112,c113,rfl⟩:=h111.form
   obtain ⟨A116,c117,rfl⟩:=h115.form
   obtain ⟨p120,rfl⟩:=h119.ptr
   obtain ⟨p123,rfl,hq124⟩:=h122.ptr
   refine Be [] O98 ?_
   refine x_pre (fuel:=1) [] [(0,true),(1,true),(2,true),(3,true),(4,true),(5,true),(6,true),(7,true),(8,true),(9,true),(10,true),(11,true),(12,true)] (by kernel_rfl) rfl ?_
   refine h_fa rfl rfl rfl ?_
   replace h63:=h63.st S99
   refine h_ldC (hc:=fun w' ⟨O',hq⟩=>Blk.cell (i:=2) ((h63.st hq (by decide)).1) rfl) rfl rfl rfl ?_
   refine h_mv rfl rfl rfl (h_nc rfl rfl rfl (h_fa rfl rfl rfl (h_fa rfl rfl rfl (h_ldC (hc:=fun w' ⟨O',hq⟩=>Blk.cell (i:=3) ((h100.st hq (by decide)).1) rfl) rfl rfl rfl ?_))))
   refine h_mv rfl rfl rfl ?_
   obtain ⟨a125,e126,hf83⟩:=bs hf83
   obtain ⟨p128,x127⟩:=AP e126
   obtain ⟨b129,o130,ce131,hA132,hF135,hl133,hd134,v136,v137,rfl,h138,h141,r144,z145⟩:=h115.elem x127
   obtain ⟨A139,c140,rfl⟩:=h138.form
   obtain ⟨A142,c143,rfl⟩:=h141.form
   refine h_iaE (hA:=hA132) (hj:=(Int.toNat_of_nonneg p128).symm) (hlt:=hl133) rfl rfl rfl rfl ?_
   refine h_fa rfl rfl rfl (h_ldC (hc:=fun w' ⟨O',hq⟩=>cat1 (AQ (hq.agree (i:=0) (by decide)) hF135 hd134)) rfl rfl rfl ?_)
   obtain ⟨n146,e147,hf83⟩:=bs hf83
   have r148:=(Bc e147)
   refine h_adE (he:=e147) rfl rfl rfl rfl ?_
   refine h_fa rfl rfl rfl (AH ?_)
   refine x_one (i:=13) (by kernel_rfl) rfl ?_
   refine AK h63 rfl rfl rfl (Nat.le_of_ble_eq_true rfl) (by first|exact allOne rfl|simp [Value.cells,Value.oneCell',AI]) fun w149 S150 h63=>?_
   replace h63:Lc 5 w149 O98 g59 32 [(.int .i64 1),(.slice A48 q36.1.length c49),(.int .i64 n146),(.int .i64 x2)]:=h63
   refine x_end (by kernel_rfl) ?_
   refine x_nil (by kernel_rfl) ?_
   replace h100:=h100.st S150
   replace h103:=h103.st S150
   replace h107:=h107.st S150
   replace h111:=h111.st S150
   replace h115:=h115.st S150
   replace h119:=h119.st S150
   replace h122:=h122.st S150
   obtain ⟨O151,S152,hz154,ha155,h153⟩:=Spc.shut (x:=x0) (l0:=2) (l1:=4) (by decide) h100 h103 h107 h111 h115 h119 h122
   obtain rfl:=sm hf83
   refine (?_:Exists _)
   replace hB:=((hB.st S99).st S150).st S152
   replace h8:=((h8.st S99).st S150).st S152
   replace h46:=((h46.st S99).st S150).st S152
   replace h63:=h63.st S152
   exact ⟨_,(),rfl,⟨rfl,rfl,rfl,rfl,rfl,rfl,trivial⟩,_,hB,h153,h8,h63,h46,r148⟩
  replace hB:=(((((hB.st S7).st S10).st S40).st S62).st S65).st S69
  replace h8:=((((h8.st S10).st S40).st S62).st S65).st S69
  replace h46:=h46.st S69
  replace h63:=h63.st S69
  rintro l156 w157 ⟨s160,x161,rfl,hs159,O158,hB,h8,h63,h46,h70,r89⟩
  replace hm:=AR hm
  refine AM _ hs159 ?_
  refine Ah (Ae (o_la (hl:=rfl) (hc:=(h63.1).cellsAt) rfl rfl ?_))
  refine AK h8 rfl rfl rfl (Nat.le_of_ble_eq_true rfl) (by first|exact allOne rfl|simp [Value.cells,Value.oneCell',AI]) fun w162 S163 h8=>?_
  replace h8:Lc 3 w162 O158 g4 32 [(.int .i64 1),(.slice A48 q36.1.length c49),(.int .i64 s160),(.int .i64 x2)]:=h8
  refine o_as rfl rfl (o_z ?_)
  refine At ?_
  obtain rfl:=sm hm
  replace hB:=hB.st S163
  obtain ⟨O',hS',hz,hl⟩:=hE.leave (fun q=>if q=2 then i0 else 0) rfl hB
  replace h46:=h46.st S163
  replace h70:=h70.st S163
  exact ret2 rfl (Bf (cs:=[(.int .i64 1),(.slice A48 q36.1.length c49),(.int .i64 s160),(.int .i64 x2)]) rfl rfl h8.1.cellsAt) (AF rfl) ⟨O',hS',_,_,(Ob.leave h70 hz (hl 2 (by decide) (by decide)) hx0.2),rfl,(Vb.mono (Vb.ofAgg (cs:=[(.int .i64 1),(.slice A48 q36.1.length c49),(.int .i64 s160),(.int .i64 x2)]) (x:=(⟨1,q36.1,s160,x2⟩:Rsl)) rfl ⟨_,rfl,h46,(show inI64 (1) from by decide),r89,rx2⟩) hz),(vErr (show inI64 0 from by decide))⟩
noncomputable def Cb (x0:Int) (x1:Int):Option (Rsl×Err) :=
  some ((⟨x0,([]:List Int),0,x1⟩:Rsl),(⟨0⟩:Err))
theorem Es {w:World} {A:Nat→Prop} (hA:∀ k,A k→k < w.heap.size) {x0:Int} (rx0:inI64 x0) {x1:Int} (rx1:inI64 x1) {r:Rsl×Err} (hm:Cb x0 x1=some r) :
    Fn Tryz.prog 60 [(.int .i64 x0),(.int .i64 x1)] w fun v w'=>Ext w w'∧T2 w' (upA A w w') v r:=by
 obtain ⟨O,hB,hA0⟩:=enter hA
 refine AJ Tryz.func60 rfl Tryz.ntmps60 rfl ?_
 unfold Cb at hm
 refine Ah (Ae (AX 2 O rfl fun g3 w4 O5 S6 h7=>?_))
 refine o_as rfl rfl (o_z ?_)
 refine Ah (Ae (o_mv rfl rfl (o_mv rfl rfl (o_bd rfl rfl rfl ?_))))
 refine AK h7 rfl rfl rfl (Nat.le_of_ble_eq_true rfl) (by first|exact allOne rfl|simp [Value.cells,Value.oneCell',AI]) fun w8 S9 h7=>?_
 replace h7:Lc 2 w8 O5 g3 32 [(.int .i64 x0),(.slice none 0 0),(.int .i64 0),(.int .i64 x1)]:=h7
 refine o_as rfl rfl (o_z ?_)
 refine At ?_
 obtain rfl:=sm hm
 replace hB:=(hB.st S6).st S9
 exact ret2 rfl (Bf (cs:=[(.int .i64 x0),(.slice none 0 0),(.int .i64 0),(.int .i64 x1)]) rfl rfl h7.1.cellsAt) (AF rfl) ⟨hB.ext,_,_,rfl,(Vb.mono (F:=Fr 0 w8 O5) (Vb.ofAgg (cs:=[(.int .i64 x0),(.slice none 0 0),(.int .i64 0),(.int .i64 x1)]) (x:=(⟨x0,([]:List Int),0,x1⟩:Rsl)) rfl ⟨_,rfl,(Vb.nil _ _),rx0,(show inI64 0 from by decide),rx1⟩) hB.out),(vErr (show inI64 0 from by decide))⟩
noncomputable def CJ (x0:Tsk) (x1:Int):Option (Rsl×Err) :=
  bnd (Dj x0) fun q30=>if q30.2.n≠0 then (some ((⟨0,([]:List Int),0,0⟩:Rsl),(⟨q30.2.n⟩:Err))) else (bnd q30.1 fun o68=>bnd (lop (ρ:=Rsl×Err) (fun (s78:(List Int)×(List Bool)×Int×Int×Spc×(BxR 99 97 Itm))=>bnd (BN s78.2.2.2.2.2.l) fun q116=>if 0 < q116 then (bnd (Ch s78.2.2.2.2.2) fun q130=>bnd (atI s78.2.1 q130.1.x.id) fun a152=>if a152=true then (some (.next (s78.1,s78.2.1,s78.2.2.1,s78.2.2.2.1,s78.2.2.2.2.1,q130.2))) else (bnd (BP s78.2.2.2.2.1.reg q130.1.x.id) fun q191=>if q191.2.n≠0 then (some (.ret ((⟨0,([]:List Int),0,0⟩:Rsl),(⟨q191.2.n⟩:Err)))) else (bnd (DW x0.goal q191.1) fun q209=>if q209=true then bnd (BZ s78.2.2.2.2.1 q130.1.x.id s78.2.2.2.1) fun q581=>some (.ret (q581.1,(⟨q581.2.n⟩:Err))) else if x1≤s78.2.2.2.1 then (bnd (Cb 3 s78.2.2.2.1) fun q217=>some (.ret (q217.1,(⟨q217.2.n⟩:Err)))) else (bnd (atI s78.2.1 q130.1.x.id) fun a239=>bnd (chkI (s78.2.2.2.1 + 1)) fun n252=>bnd (Bv s78.2.2.2.2.1.gen q191.1) fun q255=>bnd (rng (ρ:=Ctl ((List Int)×(List Bool)×Int×Int×Spc×(BxR 99 97 Itm)) (Rsl×Err)) (fun (k275:Nat) (a276:Suc) (s273:(List Int)×(List Bool)×Int×Spc×(BxR 99 97 Itm))=>bnd (BF s273.2.2.2.1.reg a276.state) fun q346=>if q346.2.2.1.n≠0 then (bnd (Cb 3 n252) fun q363=>some (.ret (.ret (q363.1,(⟨q363.2.n⟩:Err))))) else (bnd (atI x0.ops a276.op) fun a385=>bnd (chkI (q130.1.x.cost + a385.cost)) fun n406=>bnd (if q346.2.1=true then (bnd (appI 8 s273.1 [n406]) fun u418=>bnd (appI 1 s273.2.1 [false]) fun u430=>some (.done (u418,u430))) else (bnd (bnd (atI s273.2.1 q346.1) fun a451=>if a451=true then (some true) else (bnd (atI s273.1 q346.1) fun a468=>if a468≤n406 then (some true) else (some false)):Option Bool) fun y447=>if y447=true then (some (.ret (.next (s273.1,s273.2.1,s273.2.2.1,(⟨(⟨s273.2.2.2.1.t.vars,s273.2.2.2.1.t.init,s273.2.2.2.1.t.goal,s273.2.2.2.1.t.ops⟩:Tsk),q346.2.2.2,s273.2.2.2.1.gen⟩:Spc),s273.2.2.2.2)))) else (some (.done (s273.1,s273.2.1)))):Option (Fin ((List Int)×(List Bool)) (Ctl ((List Int)×(List Bool)×Int×Spc×(BxR 99 97 Itm)) (Ctl ((List Int)×(List Bool)×Int×Int×Spc×(BxR 99 97 Itm)) (Rsl×Err))))) fun y409=>fin y409 fun (s411:(List Int)×(List Bool))=>bnd (atI s411.1 q346.1) fun a500=>bnd (BD ((⟨(⟨s273.2.2.2.1.t.vars,s273.2.2.2.1.t.init,s273.2.2.2.1.t.goal,s273.2.2.2.1.t.ops⟩:Tsk),q346.2.2.2,s273.2.2.2.1.gen⟩:Spc).reg) q346.1 q130.1.x.id a276.op n406) fun q541=>if q541.1.n≠0 then (some (.ret (.ret ((⟨0,([]:List Int),0,0⟩:Rsl),(⟨q541.1.n⟩:Err))))) else (bnd (Cd s273.2.2.2.2 (⟨(⟨n406,s273.2.2.1,q346.1⟩:Itm)⟩:An 97 Itm)) fun q554=>bnd (chkI (s273.2.2.1 + 1)) fun n562=>some (.next ((s411.1.set (q346.1:Int).toNat n406),s411.2,n562,(⟨(⟨(⟨(⟨s273.2.2.2.1.t.vars,s273.2.2.2.1.t.init,s273.2.2.2.1.t.goal,s273.2.2.2.1.t.ops⟩:Tsk),q346.2.2.2,s273.2.2.2.1.gen⟩:Spc).t.vars,(⟨(⟨s273.2.2.2.1.t.vars,s273.2.2.2.1.t.init,s273.2.2.2.1.t.goal,s273.2.2.2.1.t.ops⟩:Tsk),q346.2.2.2,s273.2.2.2.1.gen⟩:Spc).t.init,(⟨(⟨s273.2.2.2.1.t.vars,s273.2.2.2.1.t.init,s273.2.2.2.1.t.goal,s273.2.2.2.1.t.ops⟩:Tsk),q346.2.2.2,s273.2.2.2.1.gen⟩:Spc).t.goal,(⟨(⟨s273.2.2.2.1.t.vars,s273.2.2.2.1.t.init,s273.2.2.2.1.t.goal,s273.2.2.2.1.t.ops⟩:Tsk),q346.2.2.2,s273.2.2.2.1.gen⟩:Spc).t.ops⟩:Tsk),q541.2,(⟨(⟨s273.2.2.2.1.t.vars,s273.2.2.2.1.t.init,s273.2.2.2.1.t.goal,s273.2.2.2.1.t.ops⟩:Tsk),q346.2.2.2,s273.2.2.2.1.gen⟩:Spc).gen⟩:Spc),q554))))) q255 0 (s78.1,(s78.2.1.set (q130.1.x.id:Int).toNat true),s78.2.2.1,s78.2.2.2.2.1,q130.2)) fun res271=>fin res271 fun (s574:(List Int)×(List Bool)×Int×Spc×(BxR 99 97 Itm))=>some (.next (s574.1,s574.2.1,s574.2.2.1,n252,s574.2.2.2.1,s574.2.2.2.2)))))) else (some (.brk (s78.1,s78.2.1,s78.2.2.1,s78.2.2.2.1,s78.2.2.2.2.1,s78.2.2.2.2.2)))) (([0]:List Int),[false],1,0,o68,(⟨[(⟨0,0,0⟩:Itm)]⟩:BxR 99 97 Itm))) fun res76=>fin res76 fun (s613:(List Int)×(List Bool)×Int×Int×Spc×(BxR 99 97 Itm))=>bnd (Cb 2 s613.2.2.2.1) fun q615=>some (q615.1,(⟨q615.2.n⟩:Err)))
set_option maxHeartbeats 1000000 in
theorem Hv {w:World} {A:Nat→Prop} (hA:∀ k,A k→k < w.heap.size) {vx0:Value} {x0:Tsk} (hx0:Vb w A vx0 x0) {x1:Int} (rx1:inI64 x1) {r:Rsl×Err} (hm:CJ x0 x1=some r) :
    Fn Tryz.prog 31 [vx0,(.int .i64 x1)] w fun v w'=>Ext w w'∧T2 w' (upA A w w') v r:=by
 obtain ⟨O,hB,hA0⟩:=enter hA
 replace hx0:=hx0.mono hA0
 obtain ⟨cs3,rfl,v4,v5,v6,v7,rfl,h8,h11,h14,h17⟩:=hx0
 obtain ⟨A9,c10,rfl⟩:=h8.form
 obtain ⟨A12,c13,rfl⟩:=h11.form
 obtain ⟨A15,c16,rfl⟩:=h14.form
 obtain ⟨A18,c19,rfl⟩:=h17.form
 refine AJ Tryz.func31 rfl Tryz.ntmps31 rfl ?_
 unfold CJ at hm
 refine Ah (Ae (l_box 2 O rfl rfl fun g20 w21 O22 S23 h24=>?_))
 replace h24:Lc 2 w21 O22 g20 26 [(.slice A9 x0.vars.length c10),(.slice A12 x0.init.length c13),(.slice A15 x0.goal.length c16),(.slice A18 x0.ops.length c19)]:=h24
 refine AX 3 O22 rfl fun g25 w26 O27 S28 h29=>?_
 refine o_as rfl rfl (o_z ?_)
 refine Ah (Ae ?_)
 replace h24:=h24.st S28
 refine o_la (hl:=rfl) (hc:=(h24.1).cellsAt) rfl rfl ?_
 obtain ⟨q30,e31,hm⟩:=bs hm
 replace h8:=(h8.st S23).st S28
 replace h11:=(h11.st S23).st S28
 replace h14:=(h14.st S23).st S28
 replace h17:=(h17.st S23).st S28
 refine BA (O:=O27) (Ik (Vb.ofAgg (cs:=[(.slice A9 x0.vars.length c10),(.slice A12 x0.init.length c13),(.slice A15 x0.goal.length c16),(.slice A18 x0.ops.length c19)]) (x:=x0) rfl ⟨_,_,_,_,rfl,h8,h11,h14,h17⟩) 4 (by decide) e31) rfl rfl fun v36 w32 O33 S34 h35=>?_
 obtain ⟨v37,v38,rfl,h39,h40⟩:=h35
 obtain ⟨rfl,r41⟩:=h40.err
 refine o_mv rfl rfl (o_ex rfl rfl rfl (o_ex rfl rfl rfl (o_as rfl rfl (o_as rfl rfl (o_z ?_)))))
 refine Ah (Ah (Ae (o_mv rfl rfl (o_rnS rfl rfl (fun c42=>?_) fun c42=>?_))))
 ·
  replace hm:=ip hm c42
  refine o_z ?_
  refine Ar rfl (Ah (Ae (o_bd rfl rfl rfl ?_)))
  refine o_mv rfl rfl ?_
  replace h29:=h29.st S34
  refine AK h29 rfl rfl rfl (Nat.le_of_ble_eq_true rfl) (by first|exact allOne rfl|simp [Value.cells,Value.oneCell',AI]) fun w43 S44 h29=>?_
  replace h29:Lc 3 w43 O33 g25 32 [(.int .i64 0),(.slice none 0 0),(.int .i64 0),(.int .i64 0)]:=h29
  refine o_as rfl rfl (o_z ?_)
  refine At ?_
  obtain rfl:=sm hm
  replace hB:=(((hB.st S23).st S28).st S34).st S44
  exact ret2 rfl (Bf (cs:=[(.int .i64 0),(.slice none 0 0),(.int .i64 0),(.int .i64 0)]) rfl rfl h29.1.cellsAt) (AF rfl) ⟨hB.ext,_,_,rfl,(Vb.mono (F:=Fr 0 w43 O33) (Vb.ofAgg (cs:=[(.int .i64 0),(.slice none 0 0),(.int .i64 0),(.int .i64 0)]) (x:=(⟨0,([]:List Int),0,0⟩:Rsl)) rfl ⟨_,rfl,(Vb.nil _ _),(show inI64 0 from by decide),(show inI64 0 from by decide),(show inI64 0 from by decide)⟩) hB.out),(vErr r41)⟩
 ·
  replace hm:=im hm c42
  refine o_z ?_
  refine Aj rfl (Am (Ah (Ae (Bd 5 (by decide) O33 (xs:=(([0]:List Int):List Int)) rfl rfl rfl rfl ⟨(vInt (show inI64 (0) from by decide)),trivial⟩ (by decide) (by decide) rfl fun g45 w46 O47 S48 h49=>?_))))
  refine Bd 6 (by decide) O47 (xs:=([false]:List Bool)) rfl rfl rfl rfl ⟨vBool,trivial⟩ (by decide) (by decide) rfl fun g51 w52 O53 S54 h55=>?_
  refine o_as rfl rfl (o_as rfl rfl (o_z ?_))
  refine Ah (Ae (o_bd rfl rfl rfl ?_))
  refine Bd 7 (by decide) O53 (xs:=([(⟨0,0,0⟩:Itm)]:List Itm)) rfl rfl rfl rfl ⟨(Vb.ofAgg (cs:=[(.int .i64 0),(.int .i64 0),(.int .i64 0)]) (x:=(⟨0,0,0⟩:Itm)) rfl ⟨rfl,(show inI64 0 from by decide),(show inI64 0 from by decide),(show inI64 0 from by decide)⟩),trivial⟩ (by decide) (by decide) rfl fun g57 w58 O59 S60 h61=>?_
  refine l_box 8 O59 rfl rfl fun g63 w64 O65 S66 h67=>?_
  refine o_as rfl rfl (o_z ?_)
  refine Ah (Ae (o_as rfl rfl (o_as rfl rfl (o_z ?_))))
  refine Ah ?_
  obtain ⟨o68,e69,hm⟩:=bs hm
  replace h39:=(((h39.st S48).st S54).st S60).st S66
  rw [e69] at h39
  obtain ⟨p70,rfl⟩:=Ob.ptr h39
  replace h61:=h61.st S66
  obtain ⟨O71,S72,hz74,ha75,h73⟩:=BxR.shut (x:=(⟨[(⟨0,0,0⟩:Itm)]⟩:BxR 99 97 Itm)) (l0:=8) (l1:=7) (by decide) h67 h61
  obtain ⟨res76,hL77,hm⟩:=bs hm
  refine AL (aft res76 (fun (s78:(List Int)×(List Bool)×Int×Int×Spc×(BxR 99 97 Itm)) (x79:(Option Addr×Nat)×(Option Addr×Nat))=>[(4,(.pointer (some ⟨g25,0,none⟩))),(12,(.int .i64 s78.2.2.2.1))]) (fun s78 x79 w'=>∃ O':Lab,Bs w A w' O'∧Lc 3 w' O' g25 32 [(.int .i64 0),(.slice none 0 0),(.int .i64 0),(.int .i64 0)]∧inI64 s78.2.2.1∧inI64 s78.2.2.2.1)) ?_ ?_
  ·
   refine Al ?_
   replace hB:=(((((((hB.st S23).st S28).st S34).st S48).st S54).st S60).st S66).st S72
   replace h8:=(((((h8.st S34).st S48).st S54).st S60).st S66).st S72
   replace h11:=(((((h11.st S34).st S48).st S54).st S60).st S66).st S72
   replace h14:=(((((h14.st S34).st S48).st S54).st S60).st S66).st S72
   replace h17:=(((((h17.st S34).st S48).st S54).st S60).st S66).st S72
   replace h24:=(((((h24.st S34).st S48).st S54).st S60).st S66).st S72
   replace h29:=(((((h29.st S34).st S48).st S54).st S60).st S66).st S72
   replace h39:=h39.st S72
   replace h49:=(((h49.st S54).st S60).st S66).st S72
   replace h55:=((h55.st S60).st S66).st S72
   refine Fq (σ:=(List Int)×(List Bool)×Int×Int×Spc×(BxR 99 97 Itm)) (X:=(Option Addr×Nat)×(Option Addr×Nat)) hL77 (fun (s78:(List Int)×(List Bool)×Int×Int×Spc×(BxR 99 97 Itm)) (x79:(Option Addr×Nat)×(Option Addr×Nat))=>[(1,(.int .i64 x1)),(2,(.pointer (some ⟨g20,0,none⟩))),(4,(.pointer (some ⟨g25,0,none⟩))),(6,(.pointer (some ⟨p70,0,none⟩))),(8,(.slice x79.1.1 s78.1.length x79.1.2)),(9,(.slice x79.2.1 s78.2.1.length x79.2.2)),(10,(.pointer (some ⟨g63,0,none⟩))),(11,(.int .i64 s78.2.2.1)),(12,(.int .i64 s78.2.2.2.1))]) _ (fun s78 x79 w'=>∃ O':Lab,Bs w A w' O'∧Lc 2 w' O' g20 26 [(.slice A9 x0.vars.length c10),(.slice A12 x0.init.length c13),(.slice A15 x0.goal.length c16),(.slice A18 x0.ops.length c19)]∧Vb w' (Fr 0 w' O') (.slice A9 x0.vars.length c10) x0.vars∧Vb w' (Fr 0 w' O') (.slice A12 x0.init.length c13) x0.init∧Vb w' (Fr 0 w' O') (.slice A15 x0.goal.length c16) x0.goal∧Vb w' (Fr 0 w' O') (.slice A18 x0.ops.length c19) x0.ops∧Lc 3 w' O' g25 32 [(.int .i64 0),(.slice none 0 0),(.int .i64 0),(.int .i64 0)]∧Ob 4 w' O' (.pointer (some ⟨p70,0,none⟩)) s78.2.2.2.2.1∧Rw 5 w' O' 3 (.slice x79.1.1 s78.1.length x79.1.2) s78.1∧Rw 6 w' O' 4 (.slice x79.2.1 s78.2.1.length x79.2.2) s78.2.1∧Ob 8 w' O' (.pointer (some ⟨g63,0,none⟩)) s78.2.2.2.2.2∧inI64 s78.2.2.1∧inI64 s78.2.2.2.1) _ (((some ⟨g45,0,none⟩),1),((some ⟨g51,0,none⟩),1)) ⟨O71,hB,h24,h8,h11,h14,h17,h29,h39,h49,h55,h73,(show inI64 (1) from by decide),(show inI64 (0) from by decide)⟩ ⟨rfl,rfl,rfl,rfl,rfl,rfl,rfl,rfl,rfl,trivial⟩ ?_
   rintro s78 x79 w82 cc84 ⟨O83,hB,h24,h8,h11,h14,h17,h29,h105,h99,h101,h106,r103,r104⟩ hf86 hret87 hbrk88
   refine Ah (Ah (Ae (o_mv rfl rfl (o_nc rfl rfl ?_))))
   obtain ⟨O107,v111,S108,ha110,h109,h112⟩:=BxR.opn h106 8 9 (by decide)
   obtain ⟨A113,c114,rfl⟩:=h112.form
   refine o_ld (hc:=Blk.cell (i:=0) (h109.1) rfl) rfl rfl ?_
   obtain ⟨q116,e117,hf86⟩:=bs hf86
   refine Bg (O:=O107) (A:=All w82) (R:=fun w' F v=>Vb w' F v q116) (DQ (fun _ h=>h) (h112).all e117) rfl rfl fun v122 w118 O119 S120 h121=>?_
   obtain ⟨rfl,r123⟩:=h121.int
   refine o_gtS rfl rfl rfl (fun c124=>?_) fun c124=>?_
   ·
    replace hf86:=ip hf86 c124
    refine o_z ?_
    refine Ar rfl (Am (Al (Ah (Ae (o_mv rfl rfl (o_miA rfl rfl ?_))))))
    replace h109:=h109.st S120
    replace h112:=h112.st S120
    obtain ⟨O125,S126,hz128,ha129,h127⟩:=BxR.shut (x:=s78.2.2.2.2.2) (l0:=8) (l1:=9) (by decide) h109 h112
    obtain ⟨q130,e131,hf86⟩:=bs hf86
    refine BA (O:=O125) (Gx h127 e131) rfl rfl fun v136 w132 O133 S134 h135=>?_
    obtain ⟨h137,h138⟩:=h135
    obtain ⟨v139,rfl,h140⟩:=h138.any
    obtain ⟨cs141,rfl,rfl,r142,r143,r144⟩:=h140
    refine o_taA rfl rfl ?_
    refine o_mv rfl rfl (o_ex rfl rfl rfl (o_ex rfl rfl rfl (AX 10 O133 rfl fun g145 w146 O147 S148 h149=>?_)))
    refine AK h149 rfl rfl rfl (Nat.le_of_ble_eq_true rfl) (by first|exact allOne rfl|simp [Value.cells,Value.oneCell',AI]) fun w150 S151 h149=>?_
    replace h149:Lc 10 w150 O147 g145 97 [(.int .i64 q130.1.x.cost),(.int .i64 q130.1.x.order),(.int .i64 q130.1.x.id)]:=h149
    refine o_as rfl rfl (o_z ?_)
    refine Ah (Ah (Ae (o_mv rfl rfl (o_fa rfl rfl (o_ld (hc:=Blk.cell (i:=2) (h149.1) rfl) rfl rfl ?_)))))
    obtain ⟨a152,e153,hf86⟩:=bs hf86
    obtain ⟨p155,x154⟩:=AP e153
    replace h101:=(((((h101.st S108).st S120).st S126).st S134).st S148).st S151
    obtain ⟨b156,o157,ce158,hA159,hl160,hd161,rfl⟩:=h101.elem x154
    refine o_iaE (hA:=hA159) (hj:=(Int.toNat_of_nonneg p155).symm) (hlt:=hl160) rfl rfl rfl ?_
    refine o_ld (hc:=cat0 hd161) rfl rfl ?_
    refine o_z ?_
    refine Ca rfl (fun c163=>?_) (fun c163=>?_)
    ·
     replace hf86:=ip hf86 c163
     refine Au ?_
     obtain rfl:=sm hf86
     refine (?_:Exists _)
     replace hB:=(((((hB.st S108).st S120).st S126).st S134).st S148).st S151
     replace h8:=(((((h8.st S108).st S120).st S126).st S134).st S148).st S151
     replace h11:=(((((h11.st S108).st S120).st S126).st S134).st S148).st S151
     replace h14:=(((((h14.st S108).st S120).st S126).st S134).st S148).st S151
     replace h17:=(((((h17.st S108).st S120).st S126).st S134).st S148).st S151
     replace h24:=(((((h24.st S108).st S120).st S126).st S134).st S148).st S151
     replace h29:=(((((h29.st S108).st S120).st S126).st S134).st S148).st S151
     replace h99:=(((((h99.st S108).st S120).st S126).st S134).st S148).st S151
     replace h105:=(((((h105.st S108).st S120).st S126).st S134).st S148).st S151
     replace h137:=(h137.st S148).st S151
     exact ⟨_,((x79.1.1,x79.1.2),(x79.2.1,x79.2.2)),rfl,⟨rfl,rfl,rfl,rfl,rfl,rfl,rfl,rfl,rfl,trivial⟩,_,hB,h24,h8,h11,h14,h17,h29,h105,h99,h101,h137,r103,r104⟩
    ·
     replace hf86:=im' hf86 c163
     refine Am (Ah ?_)
     replace h105:=(((((h105.st S108).st S120).st S126).st S134).st S148).st S151
     obtain ⟨O164,v168,v172,v176,v180,v184,v187,S165,ha167,h166,h169,h173,h177,h181,h185,h188⟩:=Spc.opn h105 4 11 (by decide)
     obtain ⟨A170,c171,rfl⟩:=h169.form
     obtain ⟨A174,c175,rfl⟩:=h173.form
     obtain ⟨A178,c179,rfl⟩:=h177.form
     obtain ⟨A182,c183,rfl⟩:=h181.form
     obtain ⟨p186,rfl⟩:=h185.ptr
     obtain ⟨p189,rfl,hq190⟩:=h188.ptr
     refine Be [(6,[11])] O164 ?_
     refine x_pre (fuel:=6) [] [(0,true),(1,true),(2,true),(3,true),(4,true),(5,true)] (by kernel_rfl) rfl ?_
     refine h_mv rfl rfl rfl (h_nc rfl rfl rfl (h_fa rfl rfl rfl (h_ldC (hc:=fun w' ⟨O',hq⟩=>Blk.cell (i:=4) ((h166.st hq (by decide)).1) rfl) rfl rfl rfl ?_)))
     refine h_fa rfl rfl rfl ?_
     replace h149:=h149.st S165
     refine h_ldC (hc:=fun w' ⟨O',hq⟩=>Blk.cell (i:=2) ((h149.st hq (by decide)).1) rfl) rfl rfl rfl ?_
     refine AH ?_
     refine x_one (i:=6) (by kernel_rfl) rfl ?_
     obtain ⟨q191,e192,hf86⟩:=bs hf86
     refine BA (O:=O164) (Fj h185 r144 e192) rfl rfl fun v197 w193 O194 S195 h196=>?_
     obtain ⟨v199,v200,h198,rfl,h201,h202⟩:=h196
     obtain ⟨A203,c204,rfl⟩:=h201.form
     obtain ⟨rfl,r205⟩:=h202.err
     have hZ:=S195.lst [11] (fun _ h=>by cases h;decide)
     refine x_go [] hZ (by kernel_rfl) ?_
     refine x_pre (fuel:=0) [] [(7,true),(8,true),(9,true),(10,true),(11,true)] (by kernel_rfl) rfl ?_
     refine h_mv rfl rfl rfl (h_ex rfl rfl rfl rfl (h_ex rfl rfl rfl rfl (h_as rfl rfl rfl (h_as rfl rfl rfl (AH ?_)))))
     refine x_nil (by kernel_rfl) ?_
     refine Ah (Ah (Ae (o_mv rfl rfl (o_rnS rfl rfl (fun c206=>?_) fun c206=>?_))))
     ·
      replace hf86:=ip hf86 c206
      refine o_z ?_
      refine Ar rfl (Ah (Ae (o_bd rfl rfl rfl ?_)))
      refine o_mv rfl rfl ?_
      replace h29:=(((((((h29.st S108).st S120).st S126).st S134).st S148).st S151).st S165).st S195
      refine AK h29 rfl rfl rfl (Nat.le_of_ble_eq_true rfl) (by first|exact allOne rfl|simp [Value.cells,Value.oneCell',AI]) fun w207 S208 h29=>?_
      replace h29:Lc 3 w207 O194 g25 32 [(.int .i64 0),(.slice none 0 0),(.int .i64 0),(.int .i64 0)]:=h29
      refine o_as rfl rfl (o_z ?_)
      refine At ?_
      obtain rfl:=sm hf86
      obtain rfl:=hret87 _ rfl
      obtain rfl:=sm (BW hm)
      replace hB:=((((((((hB.st S108).st S120).st S126).st S134).st S148).st S151).st S165).st S195).st S208
      exact ret2 rfl (Bf (cs:=[(.int .i64 0),(.slice none 0 0),(.int .i64 0),(.int .i64 0)]) rfl rfl h29.1.cellsAt) (AF rfl) ⟨hB.ext,_,_,rfl,(Vb.mono (F:=Fr 0 w207 O194) (Vb.ofAgg (cs:=[(.int .i64 0),(.slice none 0 0),(.int .i64 0),(.int .i64 0)]) (x:=(⟨0,([]:List Int),0,0⟩:Rsl)) rfl ⟨_,rfl,(Vb.nil _ _),(show inI64 0 from by decide),(show inI64 0 from by decide),(show inI64 0 from by decide)⟩) hB.out),(vErr r205)⟩
     ·
      replace hf86:=im hf86 c206
      refine o_z ?_
      refine Aj rfl (Am (Ah (Ah (Ae (o_fa rfl rfl ?_)))))
      replace h24:=(((((((h24.st S108).st S120).st S126).st S134).st S148).st S151).st S165).st S195
      refine o_ld (hc:=Blk.cell (i:=2) (h24.1) rfl) rfl rfl ?_
      refine o_mv rfl rfl ?_
      obtain ⟨q209,e210,hf86⟩:=bs hf86
      replace h14:=(((((((h14.st S108).st S120).st S126).st S134).st S148).st S151).st S165).st S195
      refine Bg (O:=O194) (A:=All w193) (R:=fun w' F v=>Vb w' F v q209) (Hd (fun _ h=>h) (Vb.mono (F:=Fr 0 w193 O194) h14 Fr.lt) (Vb.mono (F:=Fr 0 w193 O194) h201 Fr.lt) e210) rfl rfl fun v215 w211 O212 S213 h214=>?_
      obtain rfl:=h214.bool
      cases q209
      case false =>
       replace hf86:=iF hf86
       refine o_z ?_
       refine Aj rfl (Am (Ah (Ah (Ae (o_mv rfl rfl (o_mv rfl rfl (o_geS rfl rfl rfl (fun c216=>?_) fun c216=>?_)))))))
       ·
        replace hf86:=ip hf86 c216
        refine o_z ?_
        refine Ar rfl (Ah (Ae (o_mv rfl rfl ?_)))
        obtain ⟨q217,e218,hf86⟩:=bs hf86
        refine Dw (O:=O212) (R:=fun w' F v=>T2 w' F v q217) (Es Fr.lt (show inI64 (3) from by decide) r104 e218) rfl rfl fun v223 w219 O220 S221 h222=>?_
        obtain ⟨v224,v225,rfl,h226,h227⟩:=h222
        obtain ⟨cs228,rfl,v229,rfl,h230,r233,r234,r235⟩:=h226
        obtain ⟨A231,c232,rfl⟩:=h230.form
        obtain ⟨rfl,r236⟩:=h227.err
        refine o_ex rfl rfl rfl (o_ex rfl rfl rfl ?_)
        replace h29:=(((((((((h29.st S108).st S120).st S126).st S134).st S148).st S151).st S165).st S195).st S213).st S221
        refine AK h29 rfl rfl rfl (Nat.le_of_ble_eq_true rfl) (by first|exact allOne rfl|simp [Value.cells,Value.oneCell',AI]) fun w237 S238 h29=>?_
        replace h29:Lc 3 w237 O220 g25 32 [(.int .i64 q217.1.verdict),(.slice A231 q217.1.plan.length c232),(.int .i64 q217.1.cost),(.int .i64 q217.1.expanded)]:=h29
        refine o_as rfl rfl (o_z ?_)
        refine At ?_
        obtain rfl:=sm hf86
        obtain rfl:=hret87 _ rfl
        obtain rfl:=sm (BW hm)
        replace hB:=((((((((((hB.st S108).st S120).st S126).st S134).st S148).st S151).st S165).st S195).st S213).st S221).st S238
        replace h230:=h230.st S238
        exact ret2 rfl (Bf (cs:=[(.int .i64 q217.1.verdict),(.slice A231 q217.1.plan.length c232),(.int .i64 q217.1.cost),(.int .i64 q217.1.expanded)]) rfl rfl h29.1.cellsAt) (AF rfl) ⟨hB.ext,_,_,rfl,(Vb.mono (F:=Fr 0 w237 O220) (Vb.ofAgg (cs:=[(.int .i64 q217.1.verdict),(.slice A231 q217.1.plan.length c232),(.int .i64 q217.1.cost),(.int .i64 q217.1.expanded)]) (x:=q217.1) rfl ⟨_,rfl,h230,r233,r234,r235⟩) hB.out),(vErr r236)⟩
       ·
        replace hf86:=im hf86 c216
        refine o_z ?_
        refine Aj rfl (Am (Ah (Ae (o_mv rfl rfl (o_fa rfl rfl ?_)))))
        replace h149:=(h149.st S195).st S213
        refine o_ld (hc:=Blk.cell (i:=2) (h149.1) rfl) rfl rfl ?_
        obtain ⟨a239,e240,hf86⟩:=bs hf86
        obtain ⟨p242,x241⟩:=AP e240
        replace h101:=((h101.st S165).st S195).st S213
        obtain ⟨b243,o244,ce245,hA246,hl247,hd248,rfl⟩:=h101.elem x241
        refine o_iaE (hA:=hA246) (hj:=(Int.toNat_of_nonneg p242).symm) (hlt:=hl247) rfl rfl rfl ?_
        refine Di rfl h101 (a:=true) vBool hA246 rfl rfl (Ba x241) fun w250 S251 h101=>?_
        refine o_z ?_
        refine Ah (Ae (o_mv rfl rfl ?_))
        obtain ⟨n252,e253,hf86⟩:=bs hf86
        have r254:=(Bc e253)
        refine o_adE (he:=e253) rfl rfl rfl ?_
        refine o_as rfl rfl (o_z ?_)
        refine Ah (Ae (o_mv rfl rfl (o_nc rfl rfl (o_fa rfl rfl ?_))))
        replace h166:=((h166.st S195).st S213).st S251
        refine o_ld (hc:=Blk.cell (i:=5) (h166.1) rfl) rfl rfl ?_
        refine o_mv rfl rfl ?_
        obtain ⟨q255,e256,hf86⟩:=bs hf86
        replace h188:=((h188.st S195).st S213).st S251
        replace h201:=(h201.st S213).st S251
        refine Dw (O:=O212) (R:=fun w' F v=>Vb w' F v q255) (EK Fr.lt h188 h201 e256) rfl rfl fun v261 w257 O258 S259 h260=>?_
        obtain ⟨A262,c263,rfl⟩:=h260.form
        refine o_ln rfl rfl ?_
        have l265:q255.length≤9223372036854775807:=Nat.le_trans h260.len.2.1 h260.len.2.2
        have r264:inI64 (q255.length:Int):=rngNat l265
        refine o_mv rfl rfl (o_z ?_)
        replace h166:=h166.st S259
        replace h169:=(((h169.st S195).st S213).st S251).st S259
        replace h173:=(((h173.st S195).st S213).st S251).st S259
        replace h177:=(((h177.st S195).st S213).st S251).st S259
        replace h181:=(((h181.st S195).st S213).st S251).st S259
        replace h188:=h188.st S259
        replace h198:=((h198.st S213).st S251).st S259
        obtain ⟨O266,S267,hz269,ha270,h268⟩:=Spc.shut (x:=s78.2.2.2.2.1) (l0:=4) (l1:=11) (by decide) h166 h169 h173 h177 h181 h198 h188
        obtain ⟨res271,hL272,hf86⟩:=bs hf86
        refine AL (aft res271 (fun (s273:(List Int)×(List Bool)×Int×Spc×(BxR 99 97 Itm)) (x274:(Option Addr×Nat)×(Option Addr×Nat))=>[(1,(.int .i64 x1)),(2,(.pointer (some ⟨g20,0,none⟩))),(4,(.pointer (some ⟨g25,0,none⟩))),(6,(.pointer (some ⟨p70,0,none⟩))),(8,(.slice x274.1.1 s273.1.length x274.1.2)),(9,(.slice x274.2.1 s273.2.1.length x274.2.2)),(10,(.pointer (some ⟨g63,0,none⟩))),(11,(.int .i64 s273.2.2.1)),(12,(.int .i64 n252))]) (fun s273 x274 w'=>∃ O':Lab,Bs w A w' O'∧Lc 2 w' O' g20 26 [(.slice A9 x0.vars.length c10),(.slice A12 x0.init.length c13),(.slice A15 x0.goal.length c16),(.slice A18 x0.ops.length c19)]∧Vb w' (Fr 0 w' O') (.slice A9 x0.vars.length c10) x0.vars∧Vb w' (Fr 0 w' O') (.slice A12 x0.init.length c13) x0.init∧Vb w' (Fr 0 w' O') (.slice A15 x0.goal.length c16) x0.goal∧Vb w' (Fr 0 w' O') (.slice A18 x0.ops.length c19) x0.ops∧Lc 3 w' O' g25 32 [(.int .i64 0),(.slice none 0 0),(.int .i64 0),(.int .i64 0)]∧Ob 4 w' O' (.pointer (some ⟨p70,0,none⟩)) s273.2.2.2.1∧Rw 5 w' O' 3 (.slice x274.1.1 s273.1.length x274.1.2) s273.1∧Rw 6 w' O' 4 (.slice x274.2.1 s273.2.1.length x274.2.2) s273.2.1∧Ob 8 w' O' (.pointer (some ⟨g63,0,none⟩)) s273.2.2.2.2∧inI64 s273.2.2.1)) ?_ ?_
        ·
         refine Al ?_
         replace hB:=(((((((((((hB.st S108).st S120).st S126).st S134).st S148).st S151).st S165).st S195).st S213).st S251).st S259).st S267
         replace h8:=(((((((((((h8.st S108).st S120).st S126).st S134).st S148).st S151).st S165).st S195).st S213).st S251).st S259).st S267
         replace h11:=(((((((((((h11.st S108).st S120).st S126).st S134).st S148).st S151).st S165).st S195).st S213).st S251).st S259).st S267
         replace h14:=(((h14.st S213).st S251).st S259).st S267
         replace h17:=(((((((((((h17.st S108).st S120).st S126).st S134).st S148).st S151).st S165).st S195).st S213).st S251).st S259).st S267
         replace h24:=(((h24.st S213).st S251).st S259).st S267
         replace h29:=(((((((((((h29.st S108).st S120).st S126).st S134).st S148).st S151).st S165).st S195).st S213).st S251).st S259).st S267
         replace h99:=(((((((((((h99.st S108).st S120).st S126).st S134).st S148).st S151).st S165).st S195).st S213).st S251).st S259).st S267
         replace h101:=(h101.st S259).st S267
         replace h137:=(((((((h137.st S148).st S151).st S165).st S195).st S213).st S251).st S259).st S267
         replace h149:=((h149.st S251).st S259).st S267
         replace h260:=h260.st S267
         refine Bh (σ:=(List Int)×(List Bool)×Int×Spc×(BxR 99 97 Itm)) (X:=(Option Addr×Nat)×(Option Addr×Nat)) (q255.length) hL272 rfl l265 (fun (s273:(List Int)×(List Bool)×Int×Spc×(BxR 99 97 Itm)) (x274:(Option Addr×Nat)×(Option Addr×Nat))=>[(1,(.int .i64 x1)),(2,(.pointer (some ⟨g20,0,none⟩))),(4,(.pointer (some ⟨g25,0,none⟩))),(6,(.pointer (some ⟨p70,0,none⟩))),(8,(.slice x274.1.1 s273.1.length x274.1.2)),(9,(.slice x274.2.1 s273.2.1.length x274.2.2)),(10,(.pointer (some ⟨g63,0,none⟩))),(11,(.int .i64 s273.2.2.1)),(12,(.int .i64 n252)),(13,(.pointer (some ⟨g145,0,none⟩))),(98,(.slice A262 q255.length c263))]) _ (fun s273 x274 w'=>∃ O':Lab,Bs w A w' O'∧Lc 2 w' O' g20 26 [(.slice A9 x0.vars.length c10),(.slice A12 x0.init.length c13),(.slice A15 x0.goal.length c16),(.slice A18 x0.ops.length c19)]∧Vb w' (Fr 0 w' O') (.slice A9 x0.vars.length c10) x0.vars∧Vb w' (Fr 0 w' O') (.slice A12 x0.init.length c13) x0.init∧Vb w' (Fr 0 w' O') (.slice A15 x0.goal.length c16) x0.goal∧Vb w' (Fr 0 w' O') (.slice A18 x0.ops.length c19) x0.ops∧Lc 3 w' O' g25 32 [(.int .i64 0),(.slice none 0 0),(.int .i64 0),(.int .i64 0)]∧Ob 4 w' O' (.pointer (some ⟨p70,0,none⟩)) s273.2.2.2.1∧Rw 5 w' O' 3 (.slice x274.1.1 s273.1.length x274.1.2) s273.1∧Rw 6 w' O' 4 (.slice x274.2.1 s273.2.1.length x274.2.2) s273.2.1∧Ob 8 w' O' (.pointer (some ⟨g63,0,none⟩)) s273.2.2.2.2∧Lc 10 w' O' g145 97 [(.int .i64 q130.1.x.cost),(.int .i64 q130.1.x.order),(.int .i64 q130.1.x.id)]∧Vb w' (Fr 0 w' O') (.slice A262 q255.length c263) q255∧inI64 s273.2.2.1) _ ((x79.1.1,x79.1.2),(x79.2.1,x79.2.2)) ⟨O266,hB,h24,h8,h11,h14,h17,h29,h268,h99,h101.relen,h137,h149,h260,r103⟩ ⟨rfl,rfl,rfl,rfl,rfl,rfl,rfl,(congrArg (fun n=>some (Value.slice _ n _)) ((by simp:(s78.2.1.set (q130.1.x.id:Int).toNat true).length=s78.2.1.length).trans rfl).symm),rfl,rfl,rfl,rfl,rfl,trivial⟩ (fun _ _=>⟨rfl,rfl⟩) (fun _ _=>⟨rfl,rfl,rfl,rfl,rfl,rfl,rfl,rfl,rfl,trivial⟩) (fun _ _ _ ⟨O',hB,h24,h8,h11,h14,h17,h29,h298,h293,h295,h299,h149,h260,r297⟩=>⟨O',hB,h24,h8,h11,h14,h17,h29,h298,h293,h295,h299,r297⟩) ⟨rfl,rfl,rfl⟩ ⟨rfl,rfl⟩ ?_
         rintro k275 a276 s273 x274 w277 cc279 hx280 ⟨O278,hB,h24,h8,h11,h14,h17,h29,h298,h293,h295,h299,h149,h260,r297⟩ hf281 hret282 hbrk283
         have rk275:inI64 (k275:Int):=rngK hx280 l265
         refine Ah (Ae ?_)
         obtain ⟨b300,o301,ce302,hA303,hl304,hd305,v307,rfl,h308,r311⟩:=h260.elem' hx280
         obtain ⟨A309,c310,rfl⟩:=h308.form
         refine o_iaE (hA:=hA303) (hj:=rfl) (hlt:=hl304) rfl rfl rfl ?_
         refine o_la (hl:=rfl) (hc:=hd305) rfl rfl ?_
         refine AX 12 O278 rfl fun g312 w313 O314 S315 h316=>?_
         refine AK h316 rfl rfl rfl (Nat.le_of_ble_eq_true rfl) (by first|exact allOne rfl|simp [Value.cells,Value.oneCell',AI]) fun w317 S318 h316=>?_
         replace h316:Lc 12 w317 O314 g312 112 [(.int .i64 a276.op),(.slice A309 a276.state.length c310)]:=h316
         refine o_z ?_
         refine Ah ?_
         replace h298:=(h298.st S315).st S318
         obtain ⟨O319,v323,v327,v331,v335,v339,v342,S320,ha322,h321,h324,h328,h332,h336,h340,h343⟩:=Spc.opn h298 4 11 (by decide)
         obtain ⟨A325,c326,rfl⟩:=h324.form
         obtain ⟨A329,c330,rfl⟩:=h328.form
         obtain ⟨A333,c334,rfl⟩:=h332.form
         obtain ⟨A337,c338,rfl⟩:=h336.form
         obtain ⟨p341,rfl⟩:=h340.ptr
         obtain ⟨p344,rfl,hq345⟩:=h343.ptr
         refine Be [(6,[11])] O319 ?_
         refine x_pre (fuel:=8) [] [(0,true),(1,true),(2,true),(3,true),(4,true),(5,true)] (by kernel_rfl) rfl ?_
         refine h_mv rfl rfl rfl (h_nc rfl rfl rfl (h_fa rfl rfl rfl (h_ldC (hc:=fun w' ⟨O',hq⟩=>Blk.cell (i:=4) ((h321.st hq (by decide)).1) rfl) rfl rfl rfl ?_)))
         refine h_fa rfl rfl rfl ?_
         replace h316:=h316.st S320
         refine h_ldC (hc:=fun w' ⟨O',hq⟩=>Blk.cell (i:=1) ((h316.st hq (by decide)).1) rfl) rfl rfl rfl ?_
         refine AH ?_
         refine x_one (i:=6) (by kernel_rfl) rfl ?_
         obtain ⟨q346,e347,hf281⟩:=bs hf281
         replace h308:=((h308.st S315).st S318).st S320
         refine BA (O:=O319) (Eh h340 h308 e347) rfl rfl fun v352 w348 O349 S350 h351=>?_
         obtain ⟨v354,v355,v356,h353,rfl,h357,h358,h359⟩:=h351
         obtain ⟨rfl,r360⟩:=h357.int
         obtain rfl:=h358.bool
         obtain ⟨rfl,r361⟩:=h359.err
         have hZ:=S350.lst [11] (fun _ h=>by cases h;decide)
         refine x_go [] hZ (by kernel_rfl) ?_
         refine x_pre (fuel:=0) [] [(7,true),(8,true),(9,true),(10,true),(11,true),(12,true),(13,true)] (by kernel_rfl) rfl ?_
         refine h_mv rfl rfl rfl (h_ex rfl rfl rfl rfl (h_ex rfl rfl rfl rfl (h_ex rfl rfl rfl rfl (h_as rfl rfl rfl (h_as rfl rfl rfl (h_as rfl rfl rfl (AH ?_)))))))
         refine x_nil (by kernel_rfl) ?_
         refine Ah (Ah (Ae (o_mv rfl rfl (o_rnS rfl rfl (fun c362=>?_) fun c362=>?_))))
         ·
          replace hf281:=ip hf281 c362
          refine o_z ?_
          refine Ar rfl (Ah (Ae (o_mv rfl rfl ?_)))
          obtain ⟨q363,e364,hf281⟩:=bs hf281
          refine Dw (O:=O349) (R:=fun w' F v=>T2 w' F v q363) (Es Fr.lt (show inI64 (3) from by decide) r254 e364) rfl rfl fun v369 w365 O366 S367 h368=>?_
          obtain ⟨v370,v371,rfl,h372,h373⟩:=h368
          obtain ⟨cs374,rfl,v375,rfl,h376,r379,r380,r381⟩:=h372
          obtain ⟨A377,c378,rfl⟩:=h376.form
          obtain ⟨rfl,r382⟩:=h373.err
          refine o_ex rfl rfl rfl (o_ex rfl rfl rfl ?_)
          replace h29:=((((h29.st S315).st S318).st S320).st S350).st S367
          refine AK h29 rfl rfl rfl (Nat.le_of_ble_eq_true rfl) (by first|exact allOne rfl|simp [Value.cells,Value.oneCell',AI]) fun w383 S384 h29=>?_
          replace h29:Lc 3 w383 O366 g25 32 [(.int .i64 q363.1.verdict),(.slice A377 q363.1.plan.length c378),(.int .i64 q363.1.cost),(.int .i64 q363.1.expanded)]:=h29
          refine o_as rfl rfl (o_z ?_)
          refine At ?_
          obtain rfl:=sm hf281
          obtain rfl:=hret282 _ rfl
          obtain rfl:=sm (BW hf86)
          obtain rfl:=hret87 _ rfl
          obtain rfl:=sm (BW hm)
          replace hB:=(((((hB.st S315).st S318).st S320).st S350).st S367).st S384
          replace h376:=h376.st S384
          exact ret2 rfl (Bf (cs:=[(.int .i64 q363.1.verdict),(.slice A377 q363.1.plan.length c378),(.int .i64 q363.1.cost),(.int .i64 q363.1.expanded)]) rfl rfl h29.1.cellsAt) (AF rfl) ⟨hB.ext,_,_,rfl,(Vb.mono (F:=Fr 0 w383 O366) (Vb.ofAgg (cs:=[(.int .i64 q363.1.verdict),(.slice A377 q363.1.plan.length c378),(.int .i64 q363.1.cost),(.int .i64 q363.1.expanded)]) (x:=q363.1) rfl ⟨_,rfl,h376,r379,r380,r381⟩) hB.out),(vErr r382)⟩
         ·
          replace hf281:=im hf281 c362
          refine o_z ?_
          refine Aj rfl (Am (Ah (BH (·=w348) [(0,true),(1,true),(2,true),(3,true),(4,true),(5,true),(6,true),(7,true),(8,true),(9,true),(10,true)] (by kernel_rfl) rfl (by kernel_rfl) rfl ?_)))
          refine h_fa rfl rfl rfl ?_
          replace h149:=(((h149.st S315).st S318).st S320).st S350
          refine h_ldA (hc:=Blk.cell (i:=0) (h149.1) rfl) rfl rfl rfl ?_
          refine h_fa rfl rfl rfl ?_
          replace h24:=(((h24.st S315).st S318).st S320).st S350
          refine h_ldA (hc:=Blk.cell (i:=3) (h24.1) rfl) rfl rfl rfl ?_
          refine h_fa rfl rfl rfl ?_
          replace h316:=h316.st S350
          refine h_ldA (hc:=Blk.cell (i:=0) (h316.1) rfl) rfl rfl rfl ?_
          obtain ⟨a385,e386,hf281⟩:=bs hf281
          obtain ⟨p388,x387⟩:=AP e386
          replace h17:=(((h17.st S315).st S318).st S320).st S350
          obtain ⟨b389,o390,ce391,hA392,hl393,hd394,v396,v397,rfl,h398,h401,r404,z405⟩:=h17.elem' x387
          obtain ⟨A399,c400,rfl⟩:=h398.form
          obtain ⟨A402,c403,rfl⟩:=h401.form
          refine h_iaE (hA:=hA392) (hj:=(Int.toNat_of_nonneg p388).symm) (hlt:=hl393) rfl rfl rfl rfl ?_
          refine h_fa rfl rfl rfl (h_ldA (hc:=cat1 hd394) rfl rfl rfl ?_)
          obtain ⟨n406,e407,hf281⟩:=bs hf281
          have r408:=(Bc e407)
          refine h_adE (he:=e407) rfl rfl rfl rfl ?_
          refine h_as rfl rfl rfl (h_z ?_)
          refine Ah ?_
          obtain ⟨y409,hy410,hf281⟩:=bs hf281
          refine AL (fun l' w'=>∃ (s411:(List Int)×(List Bool)) (x412:(Option Addr×Nat)×(Option Addr×Nat)) (O':Lab),y409=.done s411∧subs l' [(1,(.int .i64 x1)),(2,(.pointer (some ⟨g20,0,none⟩))),(4,(.pointer (some ⟨g25,0,none⟩))),(6,(.pointer (some ⟨p70,0,none⟩))),(8,(.slice x412.1.1 s411.1.length x412.1.2)),(9,(.slice x412.2.1 s411.2.length x412.2.2)),(10,(.pointer (some ⟨g63,0,none⟩))),(11,(.int .i64 s273.2.2.1)),(12,(.int .i64 n252)),(13,(.pointer (some ⟨g145,0,none⟩))),(18,(.pointer (some ⟨g312,0,none⟩))),(19,(.int .i64 q346.1)),(22,(.int .i64 n406)),(98,(.slice A262 q255.length c263)),(99,(.int .i64 (q255.length:Int))),(100,(.int .i64 (k275:Int)))]∧Bs w A w' O'∧Lc 2 w' O' g20 26 [(.slice A9 x0.vars.length c10),(.slice A12 x0.init.length c13),(.slice A15 x0.goal.length c16),(.slice A18 x0.ops.length c19)]∧Vb w' (Fr 0 w' O') (.slice A9 x0.vars.length c10) x0.vars∧Vb w' (Fr 0 w' O') (.slice A12 x0.init.length c13) x0.init∧Vb w' (Fr 0 w' O') (.slice A15 x0.goal.length c16) x0.goal∧Vb w' (Fr 0 w' O') (.slice A18 x0.ops.length c19) x0.ops∧Lc 3 w' O' g25 32 [(.int .i64 0),(.slice none 0 0),(.int .i64 0),(.int .i64 0)]∧Ob 4 w' O' (.pointer (some ⟨p70,0,none⟩)) (⟨(⟨s273.2.2.2.1.t.vars,s273.2.2.2.1.t.init,s273.2.2.2.1.t.goal,s273.2.2.2.1.t.ops⟩:Tsk),q346.2.2.2,s273.2.2.2.1.gen⟩:Spc)∧Rw 5 w' O' 3 (.slice x412.1.1 s411.1.length x412.1.2) s411.1∧Rw 6 w' O' 4 (.slice x412.2.1 s411.2.length x412.2.2) s411.2∧Ob 8 w' O' (.pointer (some ⟨g63,0,none⟩)) s273.2.2.2.2∧Lc 10 w' O' g145 97 [(.int .i64 q130.1.x.cost),(.int .i64 q130.1.x.order),(.int .i64 q130.1.x.id)]∧Lc 12 w' O' g312 112 [(.int .i64 a276.op),(.slice A309 a276.state.length c310)]∧Vb w' (Fr 0 w' O') (.slice A309 a276.state.length c310) a276.state∧Vb w' (Fr 0 w' O') (.slice A262 q255.length c263) q255) ?_ ?_
          ·
           refine Ah (Ae (o_mv rfl rfl (o_z ?_)))
           refine Ca rfl (fun c417=>?_) (fun c417=>?_)
           ·
            replace hy410:=ip hy410 c417
            refine Ae (o_mv rfl rfl (o_mv rfl rfl ?_))
            obtain ⟨u418,e419,hy410⟩:=bs hy410
            obtain ⟨e419,e420,e421⟩:=AO e419
            replace h293:=(((h293.st S315).st S318).st S320).st S350
            refine CB rfl (a:=n406) h293 (vInt r408) (fun _=>rfl) rfl (by decide) (by decide) e420 e421 ⟨rfl,rfl⟩ fun g422 A423 c424 w425 O426 S427 h428=>?_
            rw [← e419] at h428 ⊢
            refine o_mv rfl rfl ?_
            obtain ⟨u430,e431,hy410⟩:=bs hy410
            obtain ⟨e431,e432,e433⟩:=AO e431
            replace h295:=((((h295.st S315).st S318).st S320).st S350).st S427
            refine CB rfl (a:=false) h295 vBool (fun _=>rfl) rfl (by decide) (by decide) e432 e433 ⟨rfl,rfl⟩ fun g434 A435 c436 w437 O438 S439 h440=>?_
            rw [← e431] at h440 ⊢
            refine o_as rfl rfl (o_as rfl rfl (o_z ?_))
            replace h321:=((h321.st S350).st S427).st S439
            replace h324:=((h324.st S350).st S427).st S439
            replace h328:=((h328.st S350).st S427).st S439
            replace h332:=((h332.st S350).st S427).st S439
            replace h336:=((h336.st S350).st S427).st S439
            replace h343:=((h343.st S350).st S427).st S439
            replace h353:=(h353.st S427).st S439
            obtain ⟨O442,S443,hz445,ha446,h444⟩:=Spc.shut (x:=(⟨(⟨s273.2.2.2.1.t.vars,s273.2.2.2.1.t.init,s273.2.2.2.1.t.goal,s273.2.2.2.1.t.ops⟩:Tsk),q346.2.2.2,s273.2.2.2.1.gen⟩:Spc)) (l0:=4) (l1:=11) (by decide) h321 h324 h328 h332 h336 h353 h343
            obtain rfl:=sm hy410
            replace hB:=((((((hB.st S315).st S318).st S320).st S350).st S427).st S439).st S443
            replace h8:=((((((h8.st S315).st S318).st S320).st S350).st S427).st S439).st S443
            replace h11:=((((((h11.st S315).st S318).st S320).st S350).st S427).st S439).st S443
            replace h14:=((((((h14.st S315).st S318).st S320).st S350).st S427).st S439).st S443
            replace h17:=((h17.st S427).st S439).st S443
            replace h24:=((h24.st S427).st S439).st S443
            replace h29:=((((((h29.st S315).st S318).st S320).st S350).st S427).st S439).st S443
            replace h149:=((h149.st S427).st S439).st S443
            replace h260:=((((((h260.st S315).st S318).st S320).st S350).st S427).st S439).st S443
            replace h299:=((((((h299.st S315).st S318).st S320).st S350).st S427).st S439).st S443
            replace h308:=(((h308.st S350).st S427).st S439).st S443
            replace h316:=((h316.st S427).st S439).st S443
            replace h428:=(h428.st S439).st S443
            replace h440:=h440.st S443
            exact ⟨_,((A423,c424),(A435,c436)),_,rfl,⟨rfl,rfl,rfl,rfl,rfl,rfl,rfl,rfl,rfl,rfl,rfl,rfl,rfl,rfl,rfl,rfl,trivial⟩,hB,h24,h8,h11,h14,h17,h29,h444,h428,h440,h299,h149,h316,h308,h260⟩
           ·
            replace hy410:=im' hy410 c417
            refine Ah ?_
            obtain ⟨y447,hy448,hy410⟩:=bs hy410
            refine AL (fun l' w'=>∃ (x450:Unit) (O':Lab),subs l' [(1,(.int .i64 x1)),(2,(.pointer (some ⟨g20,0,none⟩))),(4,(.pointer (some ⟨g25,0,none⟩))),(6,(.pointer (some ⟨p70,0,none⟩))),(8,(.slice x274.1.1 s273.1.length x274.1.2)),(9,(.slice x274.2.1 s273.2.1.length x274.2.2)),(10,(.pointer (some ⟨g63,0,none⟩))),(11,(.int .i64 s273.2.2.1)),(12,(.int .i64 n252)),(13,(.pointer (some ⟨g145,0,none⟩))),(18,(.pointer (some ⟨g312,0,none⟩))),(19,(.int .i64 q346.1)),(22,(.int .i64 n406)),(98,(.slice A262 q255.length c263)),(99,(.int .i64 (q255.length:Int))),(100,(.int .i64 (k275:Int))),(150,(.bool y447))]∧Bs w A w' O'∧Lc 2 w' O' g20 26 [(.slice A9 x0.vars.length c10),(.slice A12 x0.init.length c13),(.slice A15 x0.goal.length c16),(.slice A18 x0.ops.length c19)]∧Vb w' (Fr 0 w' O') (.slice A9 x0.vars.length c10) x0.vars∧Vb w' (Fr 0 w' O') (.slice A12 x0.init.length c13) x0.init∧Vb w' (Fr 0 w' O') (.slice A15 x0.goal.length c16) x0.goal∧Vb w' (Fr 0 w' O') (.slice A18 x0.ops.length c19) x0.ops∧Lc 3 w' O' g25 32 [(.int .i64 0),(.slice none 0 0),(.int .i64 0),(.int .i64 0)]∧Ob 4 w' O' (.pointer (some ⟨p70,0,none⟩)) (⟨(⟨s273.2.2.2.1.t.vars,s273.2.2.2.1.t.init,s273.2.2.2.1.t.goal,s273.2.2.2.1.t.ops⟩:Tsk),q346.2.2.2,s273.2.2.2.1.gen⟩:Spc)∧Rw 5 w' O' 3 (.slice x274.1.1 s273.1.length x274.1.2) s273.1∧Rw 6 w' O' 4 (.slice x274.2.1 s273.2.1.length x274.2.2) s273.2.1∧Ob 8 w' O' (.pointer (some ⟨g63,0,none⟩)) s273.2.2.2.2∧Lc 10 w' O' g145 97 [(.int .i64 q130.1.x.cost),(.int .i64 q130.1.x.order),(.int .i64 q130.1.x.id)]∧Lc 12 w' O' g312 112 [(.int .i64 a276.op),(.slice A309 a276.state.length c310)]∧Vb w' (Fr 0 w' O') (.slice A309 a276.state.length c310) a276.state∧Vb w' (Fr 0 w' O') (.slice A262 q255.length c263) q255) ?_ ?_
            ·
             refine Ae (o_mv rfl rfl (o_mv rfl rfl ?_))
             obtain ⟨a451,e452,hy448⟩:=bs hy448
             obtain ⟨p454,x453⟩:=AP e452
             replace h295:=(((h295.st S315).st S318).st S320).st S350
             obtain ⟨b455,o456,ce457,hA458,hl459,hd460,rfl⟩:=h295.elem x453
             refine o_iaE (hA:=hA458) (hj:=(Int.toNat_of_nonneg p454).symm) (hlt:=hl459) rfl rfl rfl ?_
             refine o_ld (hc:=cat0 hd460) rfl rfl ?_
             refine o_mv rfl rfl ?_
             rcases Bool.eq_false_or_eq_true a451 with c462|c462
             ·
              try rw [c462]
              replace hy448:=ip hy448 c462
              refine AB rfl rfl rfl rfl (AB rfl rfl rfl rfl (AB rfl rfl rfl rfl (AB rfl rfl rfl rfl (AB rfl rfl rfl rfl (AB rfl rfl rfl rfl (o_pt rfl rfl rfl (o_z ?_)))))))
              replace h321:=h321.st S350
              replace h324:=h324.st S350
              replace h328:=h328.st S350
              replace h332:=h332.st S350
              replace h336:=h336.st S350
              replace h343:=h343.st S350
              obtain ⟨O463,S464,hz466,ha467,h465⟩:=Spc.shut (x:=(⟨(⟨s273.2.2.2.1.t.vars,s273.2.2.2.1.t.init,s273.2.2.2.1.t.goal,s273.2.2.2.1.t.ops⟩:Tsk),q346.2.2.2,s273.2.2.2.1.gen⟩:Spc)) (l0:=4) (l1:=11) (by decide) h321 h324 h328 h332 h336 h353 h343
              obtain rfl:=sm hy448
              replace hB:=((((hB.st S315).st S318).st S320).st S350).st S464
              replace h8:=((((h8.st S315).st S318).st S320).st S350).st S464
              replace h11:=((((h11.st S315).st S318).st S320).st S350).st S464
              replace h14:=((((h14.st S315).st S318).st S320).st S350).st S464
              replace h17:=h17.st S464
              replace h24:=h24.st S464
              replace h29:=((((h29.st S315).st S318).st S320).st S350).st S464
              replace h149:=h149.st S464
              replace h260:=((((h260.st S315).st S318).st S320).st S350).st S464
              replace h293:=((((h293.st S315).st S318).st S320).st S350).st S464
              replace h295:=h295.st S464
              replace h299:=((((h299.st S315).st S318).st S320).st S350).st S464
              replace h308:=(h308.st S350).st S464
              replace h316:=h316.st S464
              exact ⟨(),_,⟨rfl,rfl,rfl,rfl,rfl,rfl,rfl,rfl,rfl,rfl,rfl,rfl,rfl,rfl,rfl,rfl,rfl,trivial⟩,hB,h24,h8,h11,h14,h17,h29,h465,h293,h295,h299,h149,h316,h308,h260⟩
             ·
              try rw [c462]
              replace hy448:=im' hy448 c462
              refine AC rfl rfl (o_mv rfl rfl (AC rfl rfl (o_mv rfl rfl (AC rfl rfl (o_mv rfl rfl (AC rfl rfl ?_))))))
              obtain ⟨a468,e469,hy448⟩:=bs hy448
              obtain ⟨p471,x470⟩:=AP e469
              replace h293:=(((h293.st S315).st S318).st S320).st S350
              obtain ⟨b472,o473,ce474,hA475,hl476,hd477,rfl,r479⟩:=h293.elem x470
              refine o_iaE (hA:=hA475) (hj:=(Int.toNat_of_nonneg p471).symm) (hlt:=hl476) rfl rfl rfl ?_
              refine AC rfl rfl (o_ld (hc:=cat0 hd477) rfl rfl ?_)
              refine AC rfl rfl (o_geS rfl rfl rfl (fun c480=>?_) fun c480=>?_)
              ·
               replace hy448:=ip hy448 c480
               refine o_pf rfl rfl rfl (o_z ?_)
               replace h321:=h321.st S350
               replace h324:=h324.st S350
               replace h328:=h328.st S350
               replace h332:=h332.st S350
               replace h336:=h336.st S350
               replace h343:=h343.st S350
               obtain ⟨O481,S482,hz484,ha485,h483⟩:=Spc.shut (x:=(⟨(⟨s273.2.2.2.1.t.vars,s273.2.2.2.1.t.init,s273.2.2.2.1.t.goal,s273.2.2.2.1.t.ops⟩:Tsk),q346.2.2.2,s273.2.2.2.1.gen⟩:Spc)) (l0:=4) (l1:=11) (by decide) h321 h324 h328 h332 h336 h353 h343
               obtain rfl:=sm hy448
               replace hB:=((((hB.st S315).st S318).st S320).st S350).st S482
               replace h8:=((((h8.st S315).st S318).st S320).st S350).st S482
               replace h11:=((((h11.st S315).st S318).st S320).st S350).st S482
               replace h14:=((((h14.st S315).st S318).st S320).st S350).st S482
               replace h17:=h17.st S482
               replace h24:=h24.st S482
               replace h29:=((((h29.st S315).st S318).st S320).st S350).st S482
               replace h149:=h149.st S482
               replace h260:=((((h260.st S315).st S318).st S320).st S350).st S482
               replace h293:=h293.st S482
               replace h295:=h295.st S482
               replace h299:=((((h299.st S315).st S318).st S320).st S350).st S482
               replace h308:=(h308.st S350).st S482
               replace h316:=h316.st S482
               exact ⟨(),_,⟨rfl,rfl,rfl,rfl,rfl,rfl,rfl,rfl,rfl,rfl,rfl,rfl,rfl,rfl,rfl,rfl,rfl,trivial⟩,hB,h24,h8,h11,h14,h17,h29,h483,h293,h295,h299,h149,h316,h308,h260⟩
              ·
               replace hy448:=im hy448 c480
               refine o_pf rfl rfl rfl (o_z ?_)
               replace h321:=h321.st S350
               replace h324:=h324.st S350
               replace h328:=h328.st S350
               replace h332:=h332.st S350
               replace h336:=h336.st S350
               replace h343:=h343.st S350
               obtain ⟨O486,S487,hz489,ha490,h488⟩:=Spc.shut (x:=(⟨(⟨s273.2.2.2.1.t.vars,s273.2.2.2.1.t.init,s273.2.2.2.1.t.goal,s273.2.2.2.1.t.ops⟩:Tsk),q346.2.2.2,s273.2.2.2.1.gen⟩:Spc)) (l0:=4) (l1:=11) (by decide) h321 h324 h328 h332 h336 h353 h343
               obtain rfl:=sm hy448
               replace hB:=((((hB.st S315).st S318).st S320).st S350).st S487
               replace h8:=((((h8.st S315).st S318).st S320).st S350).st S487
               replace h11:=((((h11.st S315).st S318).st S320).st S350).st S487
               replace h14:=((((h14.st S315).st S318).st S320).st S350).st S487
               replace h17:=h17.st S487
               replace h24:=h24.st S487
               replace h29:=((((h29.st S315).st S318).st S320).st S350).st S487
               replace h149:=h149.st S487
               replace h260:=((((h260.st S315).st S318).st S320).st S350).st S487
               replace h293:=h293.st S487
               replace h295:=h295.st S487
               replace h299:=((((h299.st S315).st S318).st S320).st S350).st S487
               replace h308:=(h308.st S350).st S487
               replace h316:=h316.st S487
               exact ⟨(),_,⟨rfl,rfl,rfl,rfl,rfl,rfl,rfl,rfl,rfl,rfl,rfl,rfl,rfl,rfl,rfl,rfl,rfl,trivial⟩,hB,h24,h8,h11,h14,h17,h29,h488,h293,h295,h299,h149,h316,h308,h260⟩
            replace hB:=(((hB.st S315).st S318).st S320).st S350
            replace h8:=(((h8.st S315).st S318).st S320).st S350
            replace h11:=(((h11.st S315).st S318).st S320).st S350
            replace h14:=(((h14.st S315).st S318).st S320).st S350
            replace h29:=(((h29.st S315).st S318).st S320).st S350
            replace h260:=(((h260.st S315).st S318).st S320).st S350
            replace h293:=(((h293.st S315).st S318).st S320).st S350
            replace h295:=(((h295.st S315).st S318).st S320).st S350
            replace h299:=(((h299.st S315).st S318).st S320).st S350
            replace h308:=h308.st S350
            rintro l491 w492 ⟨x450,O493,hs494,hB,h24,h8,h11,h14,h17,h29,h461,h293,h295,h299,h149,h316,h308,h260⟩
            refine AM _ hs494 ?_
            refine Ca rfl (fun c495=>?_) (fun c495=>?_)
            ·
             replace hy410:=ip hy410 c495
             refine Au ?_
             obtain rfl:=sm hy410
             obtain rfl:=sm (BW hf281)
             refine (?_:Exists _)
             exact ⟨_,((x274.1.1,x274.1.2),(x274.2.1,x274.2.2)),rfl,⟨rfl,rfl,rfl,rfl,rfl,rfl,rfl,rfl,rfl,rfl,rfl,rfl,rfl,trivial⟩,_,hB,h24,h8,h11,h14,h17,h29,h461,h293,h295,h299,h149,h260,r297⟩
            ·
             replace hy410:=im' hy410 c495
             refine Am ?_
             obtain rfl:=sm hy410
             exact ⟨_,((x274.1.1,x274.1.2),(x274.2.1,x274.2.2)),_,rfl,⟨rfl,rfl,rfl,rfl,rfl,rfl,rfl,rfl,rfl,rfl,rfl,rfl,rfl,rfl,rfl,rfl,trivial⟩,hB,h24,h8,h11,h14,h17,h29,h461,h293,h295,h299,h149,h316,h308,h260⟩
          replace hB:=(((hB.st S315).st S318).st S320).st S350
          replace h8:=(((h8.st S315).st S318).st S320).st S350
          replace h11:=(((h11.st S315).st S318).st S320).st S350
          replace h14:=(((h14.st S315).st S318).st S320).st S350
          replace h29:=(((h29.st S315).st S318).st S320).st S350
          replace h260:=(((h260.st S315).st S318).st S320).st S350
          replace h299:=(((h299.st S315).st S318).st S320).st S350
          replace h308:=h308.st S350
          rintro l496 w497 ⟨s411,x412,O498,rfl,hs499,hB,h24,h8,h11,h14,h17,h29,h436,h413,h415,h299,h149,h316,h308,h260⟩
          replace hf281:=AR hf281
          refine AM _ hs499 ?_
          refine Ah (Ae (o_mv rfl rfl (o_mv rfl rfl (o_mv rfl rfl ?_))))
          obtain ⟨a500,e501,hf281⟩:=bs hf281
          obtain ⟨p503,x502⟩:=AP e501
          obtain ⟨b504,o505,ce506,hA507,hl508,hd509,rfl,r511⟩:=h413.elem x502
          refine o_iaE (hA:=hA507) (hj:=(Int.toNat_of_nonneg p503).symm) (hlt:=hl508) rfl rfl rfl ?_
          refine Di rfl h413 (a:=n406) (vInt r408) hA507 rfl rfl (Ba x502) fun w512 S513 h413=>?_
          refine o_z ?_
          refine Ah (Ah ?_)
          replace h436:=h436.st S513
          obtain ⟨O514,v518,v522,v526,v530,v534,v537,S515,ha517,h516,h519,h523,h527,h531,h535,h538⟩:=Spc.opn h436 4 11 (by decide)
          obtain ⟨A520,c521,rfl⟩:=h519.form
          obtain ⟨A524,c525,rfl⟩:=h523.form
          obtain ⟨A528,c529,rfl⟩:=h527.form
          obtain ⟨A532,c533,rfl⟩:=h531.form
          obtain ⟨p536,rfl⟩:=h535.ptr
          obtain ⟨p539,rfl,hq540⟩:=h538.ptr
          refine Be [(10,[11])] O514 ?_
          refine x_pre (fuel:=2) [] [(0,true),(1,true),(2,true),(3,true),(4,true),(5,true),(6,true),(7,true),(8,true),(9,true)] (by kernel_rfl) rfl ?_
          refine h_mv rfl rfl rfl (h_nc rfl rfl rfl (h_fa rfl rfl rfl (h_ldC (hc:=fun w' ⟨O',hq⟩=>Blk.cell (i:=4) ((h516.st hq (by decide)).1) rfl) rfl rfl rfl ?_)))
          refine h_mv rfl rfl rfl (h_fa rfl rfl rfl ?_)
          replace h149:=(h149.st S513).st S515
          refine h_ldC (hc:=fun w' ⟨O',hq⟩=>Blk.cell (i:=2) ((h149.st hq (by decide)).1) rfl) rfl rfl rfl ?_
          refine h_fa rfl rfl rfl ?_
          replace h316:=(h316.st S513).st S515
          refine h_ldC (hc:=fun w' ⟨O',hq⟩=>Blk.cell (i:=0) ((h316.st hq (by decide)).1) rfl) rfl rfl rfl ?_
          refine h_mv rfl rfl rfl (AH ?_)
          refine x_one (i:=10) (by kernel_rfl) rfl ?_
          obtain ⟨q541,e542,hf281⟩:=bs hf281
          refine BA (O:=O514) (EZ h535 r360 r144 r311 r408 e542) rfl rfl fun v547 w543 O544 S545 h546=>?_
          obtain ⟨h548,h549⟩:=h546
          obtain ⟨rfl,r550⟩:=h549.err
          have hZ:=S545.lst [11] (fun _ h=>by cases h;decide)
          refine x_go [] hZ (by kernel_rfl) ?_
          refine x_pre (fuel:=0) [] [(11,true)] (by kernel_rfl) rfl ?_
          refine h_as rfl rfl rfl (AH ?_)
          refine x_nil (by kernel_rfl) ?_
          refine Ah (Ae (o_mv rfl rfl (o_rnS rfl rfl (fun c551=>?_) fun c551=>?_)))
          ·
           replace hf281:=ip hf281 c551
           refine o_z ?_
           refine Ar rfl (Ah (Ae (o_bd rfl rfl rfl ?_)))
           refine o_mv rfl rfl ?_
           replace h29:=((h29.st S513).st S515).st S545
           refine AK h29 rfl rfl rfl (Nat.le_of_ble_eq_true rfl) (by first|exact allOne rfl|simp [Value.cells,Value.oneCell',AI]) fun w552 S553 h29=>?_
           replace h29:Lc 3 w552 O544 g25 32 [(.int .i64 0),(.slice none 0 0),(.int .i64 0),(.int .i64 0)]:=h29
           refine o_as rfl rfl (o_z ?_)
           refine At ?_
           obtain rfl:=sm hf281
           obtain rfl:=hret282 _ rfl
           obtain rfl:=sm (BW hf86)
           obtain rfl:=hret87 _ rfl
           obtain rfl:=sm (BW hm)
           replace hB:=(((hB.st S513).st S515).st S545).st S553
           exact ret2 rfl (Bf (cs:=[(.int .i64 0),(.slice none 0 0),(.int .i64 0),(.int .i64 0)]) rfl rfl h29.1.cellsAt) (AF rfl) ⟨hB.ext,_,_,rfl,(Vb.mono (F:=Fr 0 w552 O544) (Vb.ofAgg (cs:=[(.int .i64 0),(.slice none 0 0),(.int .i64 0),(.int .i64 0)]) (x:=(⟨0,([]:List Int),0,0⟩:Rsl)) rfl ⟨_,rfl,(Vb.nil _ _),(show inI64 0 from by decide),(show inI64 0 from by decide),(show inI64 0 from by decide)⟩) hB.out),(vErr r550)⟩
          ·
           replace hf281:=im hf281 c551
           refine o_z ?_
           refine Aj rfl (Am (Ah (Ae (o_mv rfl rfl (o_miA rfl rfl ?_)))))
           refine o_mv rfl rfl (o_mv rfl rfl (o_mv rfl rfl (o_bd rfl rfl rfl ?_)))
           refine o_miA rfl rfl ?_
           obtain ⟨q554,e555,hf281⟩:=bs hf281
           replace h299:=((h299.st S513).st S515).st S545
           refine BA (O:=O544) (Ge h299 (vAny (Vb.ofAgg (cs:=[(.int .i64 n406),(.int .i64 s273.2.2.1),(.int .i64 q346.1)]) (x:=(⟨n406,s273.2.2.1,q346.1⟩:Itm)) rfl ⟨rfl,r408,r297,r360⟩)) e555) rfl rfl fun v560 w556 O557 S558 h561=>?_
           refine o_z ?_
           refine Ae (o_mv rfl rfl ?_)
           obtain ⟨n562,e563,hf281⟩:=bs hf281
           have r564:=(Bc e563)
           refine o_adE (he:=e563) rfl rfl rfl ?_
           refine o_as rfl rfl (o_z ?_)
           replace h516:=(h516.st S545).st S558
           replace h519:=(h519.st S545).st S558
           replace h523:=(h523.st S545).st S558
           replace h527:=(h527.st S545).st S558
           replace h531:=(h531.st S545).st S558
           replace h538:=(h538.st S545).st S558
           replace h548:=h548.st S558
           obtain ⟨O565,S566,hz568,ha569,h567⟩:=Spc.shut (x:=(⟨(⟨(⟨(⟨s273.2.2.2.1.t.vars,s273.2.2.2.1.t.init,s273.2.2.2.1.t.goal,s273.2.2.2.1.t.ops⟩:Tsk),q346.2.2.2,s273.2.2.2.1.gen⟩:Spc).t.vars,(⟨(⟨s273.2.2.2.1.t.vars,s273.2.2.2.1.t.init,s273.2.2.2.1.t.goal,s273.2.2.2.1.t.ops⟩:Tsk),q346.2.2.2,s273.2.2.2.1.gen⟩:Spc).t.init,(⟨(⟨s273.2.2.2.1.t.vars,s273.2.2.2.1.t.init,s273.2.2.2.1.t.goal,s273.2.2.2.1.t.ops⟩:Tsk),q346.2.2.2,s273.2.2.2.1.gen⟩:Spc).t.goal,(⟨(⟨s273.2.2.2.1.t.vars,s273.2.2.2.1.t.init,s273.2.2.2.1.t.goal,s273.2.2.2.1.t.ops⟩:Tsk),q346.2.2.2,s273.2.2.2.1.gen⟩:Spc).t.ops⟩:Tsk),q541.2,(⟨(⟨s273.2.2.2.1.t.vars,s273.2.2.2.1.t.init,s273.2.2.2.1.t.goal,s273.2.2.2.1.t.ops⟩:Tsk),q346.2.2.2,s273.2.2.2.1.gen⟩:Spc).gen⟩:Spc)) (l0:=4) (l1:=11) (by decide) h516 h519 h523 h527 h531 h548 h538
           obtain rfl:=sm hf281
           refine (?_:Exists _)
           replace hB:=((((hB.st S513).st S515).st S545).st S558).st S566
           replace h8:=((((h8.st S513).st S515).st S545).st S558).st S566
           replace h11:=((((h11.st S513).st S515).st S545).st S558).st S566
           replace h14:=((((h14.st S513).st S515).st S545).st S558).st S566
           replace h17:=((((h17.st S513).st S515).st S545).st S558).st S566
           replace h24:=((((h24.st S513).st S515).st S545).st S558).st S566
           replace h29:=((((h29.st S513).st S515).st S545).st S558).st S566
           replace h149:=((h149.st S545).st S558).st S566
           replace h260:=((((h260.st S513).st S515).st S545).st S558).st S566
           replace h413:=(((h413.st S515).st S545).st S558).st S566
           replace h415:=((((h415.st S513).st S515).st S545).st S558).st S566
           replace h561:=h561.st S566
           exact ⟨_,((x412.1.1,x412.1.2),(x412.2.1,x412.2.2)),rfl,⟨rfl,rfl,rfl,rfl,rfl,rfl,(congrArg (fun n=>some (Value.slice _ n _)) ((by simp:(s411.1.set (q346.1:Int).toNat n406).length=s411.1.length).trans rfl).symm),rfl,rfl,rfl,rfl,rfl,rfl,trivial⟩,_,hB,h24,h8,h11,h14,h17,h29,h567,h413.relen,h415,h561,h149,h260,r564⟩
        replace hB:=(((((((((((hB.st S108).st S120).st S126).st S134).st S148).st S151).st S165).st S195).st S213).st S251).st S259).st S267
        replace h8:=(((((((((((h8.st S108).st S120).st S126).st S134).st S148).st S151).st S165).st S195).st S213).st S251).st S259).st S267
        replace h11:=(((((((((((h11.st S108).st S120).st S126).st S134).st S148).st S151).st S165).st S195).st S213).st S251).st S259).st S267
        replace h14:=(((h14.st S213).st S251).st S259).st S267
        replace h17:=(((((((((((h17.st S108).st S120).st S126).st S134).st S148).st S151).st S165).st S195).st S213).st S251).st S259).st S267
        replace h24:=(((h24.st S213).st S251).st S259).st S267
        replace h29:=(((((((((((h29.st S108).st S120).st S126).st S134).st S148).st S151).st S165).st S195).st S213).st S251).st S259).st S267
        rintro l570 w571 ⟨s574,x575,rfl,hs573,O572,hB,h24,h8,h11,h14,h17,h29,h298,h293,h295,h299,r297⟩
        replace hf86:=AR hf86
        obtain rfl:=sm hf86
        refine (?_:Exists _)
        exact ⟨_,((x575.1.1,x575.1.2),(x575.2.1,x575.2.2)),rfl,⟨(Bt hs573 _ _ rfl),(Bt hs573 _ _ rfl),(Bt hs573 _ _ rfl),(Bt hs573 _ _ rfl),(Bt hs573 _ _ rfl),(Bt hs573 _ _ rfl),(Bt hs573 _ _ rfl),(Bt hs573 _ _ rfl),(Bt hs573 _ _ rfl),trivial⟩,_,hB,h24,h8,h11,h14,h17,h29,h298,h293,h295,h299,r297,r254⟩
      replace hf86:=iT hf86
      refine o_z ?_
      refine Ar rfl (Ah (Ae (o_mv rfl rfl (o_fa rfl rfl ?_))))
      replace h149:=(h149.st S195).st S213
      refine o_ld (hc:=Blk.cell (i:=2) (h149.1) rfl) rfl rfl ?_
      refine o_mv rfl rfl ?_
      replace h166:=(h166.st S195).st S213
      replace h169:=(h169.st S195).st S213
      replace h173:=(h173.st S195).st S213
      replace h177:=(h177.st S195).st S213
      replace h181:=(h181.st S195).st S213
      replace h188:=(h188.st S195).st S213
      replace h198:=h198.st S213
      obtain ⟨O576,S577,hz579,ha580,h578⟩:=Spc.shut (x:=s78.2.2.2.2.1) (l0:=4) (l1:=11) (by decide) h166 h169 h173 h177 h181 h198 h188
      obtain ⟨q581,e582,hf86⟩:=bs hf86
      refine BA (O:=O576) (FU h578 r144 r104 e582) rfl rfl fun v587 w583 O584 S585 h586=>?_
      obtain ⟨v589,v590,h588,rfl,h591,h592⟩:=h586
      obtain ⟨cs593,rfl,v594,rfl,h595,r598,r599,r600⟩:=h591
      obtain ⟨A596,c597,rfl⟩:=h595.form
      obtain ⟨rfl,r601⟩:=h592.err
      refine o_ex rfl rfl rfl (o_ex rfl rfl rfl ?_)
      replace h29:=((((((((((h29.st S108).st S120).st S126).st S134).st S148).st S151).st S165).st S195).st S213).st S577).st S585
      refine AK h29 rfl rfl rfl (Nat.le_of_ble_eq_true rfl) (by first|exact allOne rfl|simp [Value.cells,Value.oneCell',AI]) fun w602 S603 h29=>?_
      replace h29:Lc 3 w602 O584 g25 32 [(.int .i64 q581.1.verdict),(.slice A596 q581.1.plan.length c597),(.int .i64 q581.1.cost),(.int .i64 q581.1.expanded)]:=h29
      refine o_as rfl rfl (o_z ?_)
      refine At ?_
      obtain rfl:=sm hf86
      obtain rfl:=hret87 _ rfl
      obtain rfl:=sm (BW hm)
      replace hB:=(((((((((((hB.st S108).st S120).st S126).st S134).st S148).st S151).st S165).st S195).st S213).st S577).st S585).st S603
      replace h595:=h595.st S603
      exact ret2 rfl (Bf (cs:=[(.int .i64 q581.1.verdict),(.slice A596 q581.1.plan.length c597),(.int .i64 q581.1.cost),(.int .i64 q581.1.expanded)]) rfl rfl h29.1.cellsAt) (AF rfl) ⟨hB.ext,_,_,rfl,(Vb.mono (F:=Fr 0 w602 O584) (Vb.ofAgg (cs:=[(.int .i64 q581.1.verdict),(.slice A596 q581.1.plan.length c597),(.int .i64 q581.1.cost),(.int .i64 q581.1.expanded)]) (x:=q581.1) rfl ⟨_,rfl,h595,r598,r599,r600⟩) hB.out),(vErr r601)⟩
   ·
    replace hf86:=im hf86 c124
    refine o_z ?_
    refine Aj rfl (Au ?_)
    replace h109:=h109.st S120
    replace h112:=h112.st S120
    obtain ⟨O604,S605,hz607,ha608,h606⟩:=BxR.shut (x:=s78.2.2.2.2.2) (l0:=8) (l1:=9) (by decide) h109 h112
    obtain rfl:=sm hf86
    refine (?_:Exists _)
    replace hB:=((hB.st S108).st S120).st S605
    replace h29:=((h29.st S108).st S120).st S605
    exact ⟨_,((x79.1.1,x79.1.2),(x79.2.1,x79.2.2)),hbrk88 _ rfl,⟨rfl,rfl,trivial⟩,_,hB,h29,r103,r104⟩
  replace hB:=(((((((hB.st S23).st S28).st S34).st S48).st S54).st S60).st S66).st S72
  replace h29:=(((((h29.st S34).st S48).st S54).st S60).st S66).st S72
  rintro l609 w610 ⟨s613,x614,rfl,hs612,O611,hB,h29,r103,r104⟩
  replace hm:=AR hm
  refine AM _ hs612 ?_
  refine Ah (Ae (o_mv rfl rfl ?_))
  obtain ⟨q615,e616,hm⟩:=bs hm
  refine Dw (O:=O611) (R:=fun w' F v=>T2 w' F v q615) (Es Fr.lt (show inI64 (2) from by decide) r104 e616) rfl rfl fun v621 w617 O618 S619 h620=>?_
  obtain ⟨v622,v623,rfl,h624,h625⟩:=h620
  obtain ⟨cs626,rfl,v627,rfl,h628,r631,r632,r633⟩:=h624
  obtain ⟨A629,c630,rfl⟩:=h628.form
  obtain ⟨rfl,r634⟩:=h625.err
  refine o_ex rfl rfl rfl (o_ex rfl rfl rfl ?_)
  replace h29:=h29.st S619
  refine AK h29 rfl rfl rfl (Nat.le_of_ble_eq_true rfl) (by first|exact allOne rfl|simp [Value.cells,Value.oneCell',AI]) fun w635 S636 h29=>?_
  replace h29:Lc 3 w635 O618 g25 32 [(.int .i64 q615.1.verdict),(.slice A629 q615.1.plan.length c630),(.int .i64 q615.1.cost),(.int .i64 q615.1.expanded)]:=h29
  refine o_as rfl rfl (o_z ?_)
  refine At ?_
  obtain rfl:=sm hm
  replace hB:=(hB.st S619).st S636
  replace h628:=h628.st S636
  exact ret2 rfl (Bf (cs:=[(.int .i64 q615.1.verdict),(.slice A629 q615.1.plan.length c630),(.int .i64 q615.1.cost),(.int .i64 q615.1.expanded)]) rfl rfl h29.1.cellsAt) (AF rfl) ⟨hB.ext,_,_,rfl,(Vb.mono (F:=Fr 0 w635 O618) (Vb.ofAgg (cs:=[(.int .i64 q615.1.verdict),(.slice A629 q615.1.plan.length c630),(.int .i64 q615.1.cost),(.int .i64 q615.1.expanded)]) (x:=q615.1) rfl ⟨_,rfl,h628,r631,r632,r633⟩) hB.out),(vErr r634)⟩
end
section
open Go Go.RowKit
attribute [local irreducible] ewp owp hwp hwq hws Ev Evg Fn retPost loud loudS Res1
noncomputable def CK (x0:List ByteArray) (x1:List ByteArray):Option Int :=
  bnd (chkI ((x1.length:Int) + 1)) fun n9=>bnd (mkI 8 (0:Int) n9) fun u12=>bnd (rngN (ρ:=Int) (fun (k31:Nat) (s29:(List Int))=>bnd (s29[k31]?) fun a50=>some (.next (s29.set k31 (k31:Int)))) u12.length u12) fun res27=>fin res27 fun (s66:(List Int))=>bnd (rng (ρ:=Int) (fun (k74:Nat) (a75:ByteArray) (s72:(List Int))=>bnd (chkI ((x1.length:Int) + 1)) fun n99=>bnd (mkI 8 (0:Int) n99) fun u102=>bnd (chkI ((k74:Int) + 1)) fun n115=>bnd (atI u102 0) fun a118=>bnd (rng (ρ:=Ctl (List Int) Int) (fun (k138:Nat) (a139:ByteArray) (s136:(List Int))=>bnd (chkI ((k138:Int) + 1)) fun n161=>bnd (s136[k138]?) fun a164=>bnd (chkI ((k138:Int) + 1)) fun n174=>bnd (atI s72 n174) fun a177=>bnd (chkI ((min a164 a177) + 1)) fun n189=>bnd (atI s136 n161) fun a192=>if a75=a139 then (bnd (chkI ((k138:Int) + 1)) fun n207=>bnd (chkI ((k138:Int) + 1)) fun n210=>bnd (atI (s136.set (n161:Int).toNat n189) n210) fun a213=>bnd (s72[k138]?) fun a225=>bnd (atI (s136.set (n161:Int).toNat n189) n207) fun a235=>some (.next ((s136.set (n161:Int).toNat n189).set (n207:Int).toNat (min a213 a225)))) else (some (.next (s136.set (n161:Int).toNat n189)))) x1 0 (u102.set (0:Int).toNat n115)) fun res134=>fin res134 fun (s253:(List Int))=>some (.next s253)) x0 0 s66) fun res70=>fin res70 fun (s261:(List Int))=>bnd (s261[x1.length]?) fun a265=>some a265
theorem Hw {w:World} {A:Nat→Prop} (hA:∀ k,A k→k < w.heap.size) {vx0:Value} {x0:List ByteArray} (hx0:Vb w A vx0 x0) {vx1:Value} {x1:List ByteArray} (hx1:Vb w A vx1 x1) {r:Int} (hm:CK x0 x1=some r) :
    Fn Tryz.prog 32 [vx0,vx1] w fun v w'=>Ext w w'∧Vb w' (upA A w w') v r:=by
 obtain ⟨O,hB,hA0⟩:=enter hA
 replace hx0:=hx0.mono hA0
 obtain ⟨A3,c4,rfl⟩:=hx0.form
 replace hx1:=hx1.mono hA0
 obtain ⟨A5,c6,rfl⟩:=hx1.form
 refine AJ Tryz.func32 rfl Tryz.ntmps32 rfl ?_
 unfold CK at hm
 refine Ah (Ae (o_as rfl rfl (o_z ?_)))
 refine Ah (Ae (o_mv rfl rfl (o_ln rfl rfl ?_)))
 have l8:x1.length≤9223372036854775807:=Nat.le_trans hx1.len.2.1 hx1.len.2.2
 have r7:inI64 (x1.length:Int):=rngNat l8
 obtain ⟨n9,e10,hm⟩:=bs hm
 have r11:=(Bc e10)
 refine o_adE (he:=e10) rfl rfl rfl ?_
 obtain ⟨u12,e13,hm⟩:=bs hm
 obtain ⟨m14,e15,e16,e17,e18⟩:=Gm e13
 refine Ia 2 (by decide) O (z0:=(0:Int)) rfl rfl rfl rfl rfl e15 (vInt (show inI64 0 from by decide)) e16 e17 rfl fun g19 w20 O21 S22 h23=>?_
 rw [← e18] at h23 ⊢
 refine o_as rfl rfl (o_z ?_)
 refine Ah (Ah (Ae (o_mv rfl rfl (o_ln rfl rfl ?_))))
 have l26:u12.length≤9223372036854775807:=Nat.le_trans h23.len.2.1 h23.len.2.2
 have r25:inI64 (u12.length:Int):=rngNat l26
 refine o_mv rfl rfl (o_z ?_)
 obtain ⟨res27,hL28,hm⟩:=bs hm
 refine AL (aft res27 (fun (s29:(List Int)) (x30:Unit)=>[(0,(.slice A3 x0.length c4)),(1,(.slice A5 x1.length c6)),(5,(.slice (some ⟨g19,0,none⟩) u12.length m14))]) (fun s29 x30 w'=>∃ O':Lab,Bs w A w' O'∧Vb w' (Fr 0 w' O') (.slice A3 x0.length c4) x0∧Vb w' (Fr 0 w' O') (.slice A5 x1.length c6) x1∧Rw 2 w' O' 3 (.slice (some ⟨g19,0,none⟩) u12.length m14) s29)) ?_ ?_
 ·
  refine Al ?_
  replace hB:=hB.st S22
  replace hx0:=hx0.st S22
  replace hx1:=hx1.st S22
  refine Gn (σ:=(List Int)) (X:=Unit) (u12.length) hL28 l26 (fun (s29:(List Int)) (x30:Unit)=>[(0,(.slice A3 x0.length c4)),(1,(.slice A5 x1.length c6)),(5,(.slice (some ⟨g19,0,none⟩) u12.length m14))]) _ (fun s29 x30 w'=>∃ O':Lab,Bs w A w' O'∧Vb w' (Fr 0 w' O') (.slice A3 x0.length c4) x0∧Vb w' (Fr 0 w' O') (.slice A5 x1.length c6) x1∧Rw 2 w' O' 3 (.slice (some ⟨g19,0,none⟩) u12.length m14) s29) _ () ⟨O21,hB,hx0,hx1,h23⟩ ⟨rfl,rfl,rfl,rfl,rfl,trivial⟩ (fun _ _=>⟨rfl,rfl⟩) (fun _ _=>⟨rfl,rfl,rfl,trivial⟩) (fun _ _ _ ⟨O',hB,hx0,hx1,h48⟩=>⟨O',hB,hx0,hx1,h48⟩) ⟨rfl,rfl,rfl⟩ ⟨rfl,rfl⟩ ?_
  rintro k31 s29 x30 w33 cc35 hx36 ⟨O34,hB,hx0,hx1,h48⟩ hf37 hret38 hbrk39
  have rk31:inI64 (k31:Int):=rngKN hx36 l26
  refine Ah (Ae (o_mv rfl rfl (o_as rfl rfl (o_z ?_))))
  refine Ae (o_mv rfl rfl (o_mv rfl rfl (o_mv rfl rfl ?_)))
  obtain ⟨a50,e51,hf37⟩:=bs hf37
  obtain ⟨b52,o53,ce54,hA55,hl56,hd57,rfl,r59⟩:=h48.elem e51
  refine o_iaE (hA:=hA55) (hj:=rfl) (hlt:=hl56) rfl rfl rfl ?_
  refine Di rfl h48 (a:=(k31:Int)) (vInt rk31) hA55 rfl rfl (Ba e51) fun w60 S61 h48=>?_
  refine o_z ?_
  obtain rfl:=sm hf37
  refine (?_:Exists _)
  replace hB:=hB.st S61
  replace hx0:=hx0.st S61
  replace hx1:=hx1.st S61
  exact ⟨_,(),rfl,⟨rfl,rfl,rfl,rfl,rfl,trivial⟩,_,hB,hx0,hx1,h48⟩
 replace hB:=hB.st S22
 replace hx0:=hx0.st S22
 replace hx1:=hx1.st S22
 rintro l62 w63 ⟨s66,x67,rfl,hs65,O64,hB,hx0,hx1,h48⟩
 replace hm:=AR hm
 refine AM _ hs65 ?_
 refine Ah (Ah (Ae (o_mv rfl rfl (o_ln rfl rfl ?_))))
 have l69:x0.length≤9223372036854775807:=Nat.le_trans hx0.len.2.1 hx0.len.2.2
 have r68:inI64 (x0.length:Int):=rngNat l69
 refine o_mv rfl rfl (o_z ?_)
 obtain ⟨res70,hL71,hm⟩:=bs hm
 refine AL (aft res70 (fun (s72:(List Int)) (x73:(Option Addr×Nat))=>[(1,(.slice A5 x1.length c6)),(5,(.slice x73.1 s72.length x73.2))]) (fun s72 x73 w'=>∃ O':Lab,Bs w A w' O'∧Vb w' (Fr 0 w' O') (.slice A5 x1.length c6) x1∧Vb w' (Fr 0 w' O') (.slice x73.1 s72.length x73.2) s72)) ?_ ?_
 ·
  refine Al ?_
  obtain ⟨O87,S88,h48⟩:=h48.freeze
  replace hB:=hB.st S88
  replace hx0:=hx0.st S88
  replace hx1:=hx1.st S88
  refine Bh (σ:=(List Int)) (X:=(Option Addr×Nat)) (x0.length) hL71 rfl l69 (fun (s72:(List Int)) (x73:(Option Addr×Nat))=>[(1,(.slice A5 x1.length c6)),(5,(.slice x73.1 s72.length x73.2)),(26,(.slice A3 x0.length c4))]) _ (fun s72 x73 w'=>∃ O':Lab,Bs w A w' O'∧Vb w' (Fr 0 w' O') (.slice A5 x1.length c6) x1∧Vb w' (Fr 0 w' O') (.slice x73.1 s72.length x73.2) s72∧Vb w' (Fr 0 w' O') (.slice A3 x0.length c4) x0) _ ((some ⟨g19,0,none⟩),m14) ⟨O87,hB,hx1,h48.relen,hx0⟩ ⟨rfl,rfl,rfl,(congrArg (fun n=>some (Value.slice _ n _)) h48.len.1.symm.symm),rfl,trivial⟩ (fun _ _=>⟨rfl,rfl⟩) (fun _ _=>⟨rfl,rfl,trivial⟩) (fun _ _ _ ⟨O',hB,hx1,h86,hx0⟩=>⟨O',hB,hx1,h86⟩) ⟨rfl,rfl,rfl⟩ ⟨rfl,rfl⟩ ?_
  rintro k74 a75 s72 x73 w76 cc78 hx79 ⟨O77,hB,hx1,h86,hx0⟩ hf80 hret81 hbrk82
  have rk74:inI64 (k74:Int):=rngK hx79 l69
  refine Ah (Ae (o_mv rfl rfl ?_))
  obtain ⟨b89,o90,ce91,hA92,hl93,hd94,rfl,z96⟩:=hx0.elem' hx79
  refine o_iaE (hA:=hA92) (hj:=rfl) (hlt:=hl93) rfl rfl rfl ?_
  refine o_ld (hc:=cat0 hd94) rfl rfl ?_
  refine o_as rfl rfl (o_as rfl rfl (o_z ?_))
  refine Ah (Ae (o_mv rfl rfl (o_ln rfl rfl ?_)))
  have l98:x1.length≤9223372036854775807:=Nat.le_trans hx1.len.2.1 hx1.len.2.2
  have r97:inI64 (x1.length:Int):=rngNat l98
  obtain ⟨n99,e100,hf80⟩:=bs hf80
  have r101:=(Bc e100)
  refine o_adE (he:=e100) rfl rfl rfl ?_
  obtain ⟨u102,e103,hf80⟩:=bs hf80
  obtain ⟨m104,e105,e106,e107,e108⟩:=Gm e103
  refine Ia 3 (by decide) O77 (z0:=(0:Int)) rfl rfl rfl rfl rfl e105 (vInt (show inI64 0 from by decide)) e106 e107 rfl fun g109 w110 O111 S112 h113=>?_
  rw [← e108] at h113 ⊢
  refine o_as rfl rfl (o_z ?_)
  refine Ah (Ae (o_mv rfl rfl (o_mv rfl rfl ?_)))
  obtain ⟨n115,e116,hf80⟩:=bs hf80
  have r117:=(Bc e116)
  refine o_adE (he:=e116) rfl rfl rfl ?_
  obtain ⟨a118,e119,hf80⟩:=bs hf80
  obtain ⟨p121,x120⟩:=AP e119
  obtain ⟨b122,o123,ce124,hA125,hl126,hd127,rfl,r129⟩:=h113.elem x120
  refine o_iaE (hA:=hA125) (hj:=(Int.toNat_of_nonneg p121).symm) (hlt:=hl126) rfl rfl rfl ?_
  refine Di rfl h113 (a:=n115) (vInt r117) hA125 rfl rfl (Ba x120) fun w130 S131 h113=>?_
  refine o_z ?_
  refine Ah (Ah (Ae (o_mv rfl rfl (o_ln rfl rfl ?_))))
  replace hx1:=(hx1.st S112).st S131
  have l133:x1.length≤9223372036854775807:=Nat.le_trans hx1.len.2.1 hx1.len.2.2
  have r132:inI64 (x1.length:Int):=rngNat l133
  refine o_mv rfl rfl (o_z ?_)
  obtain ⟨res134,hL135,hf80⟩:=bs hf80
  refine AL (aft res134 (fun (s136:(List Int)) (x137:Unit)=>[(1,(.slice A5 x1.length c6)),(9,(.slice (some ⟨g109,0,none⟩) u102.length m104)),(26,(.slice A3 x0.length c4)),(27,(.int .i64 (x0.length:Int))),(28,(.int .i64 (k74:Int)))]) (fun s136 x137 w'=>∃ O':Lab,Bs w A w' O'∧Vb w' (Fr 0 w' O') (.slice A5 x1.length c6) x1∧Rw 3 w' O' 3 (.slice (some ⟨g109,0,none⟩) u102.length m104) s136∧Vb w' (Fr 0 w' O') (.slice A3 x0.length c4) x0)) ?_ ?_
  ·
   refine Al ?_
   replace hB:=(hB.st S112).st S131
   replace hx0:=(hx0.st S112).st S131
   replace h86:=(h86.st S112).st S131
   refine Bh (σ:=(List Int)) (X:=Unit) (x1.length) hL135 rfl l133 (fun (s136:(List Int)) (x137:Unit)=>[(1,(.slice A5 x1.length c6)),(5,(.slice x73.1 s72.length x73.2)),(8,(.string a75)),(9,(.slice (some ⟨g109,0,none⟩) u102.length m104)),(26,(.slice A3 x0.length c4)),(27,(.int .i64 (x0.length:Int))),(28,(.int .i64 (k74:Int))),(41,(.slice A5 x1.length c6))]) _ (fun s136 x137 w'=>∃ O':Lab,Bs w A w' O'∧Vb w' (Fr 0 w' O') (.slice A5 x1.length c6) x1∧Vb w' (Fr 0 w' O') (.slice x73.1 s72.length x73.2) s72∧Rw 3 w' O' 3 (.slice (some ⟨g109,0,none⟩) u102.length m104) s136∧Vb w' (Fr 0 w' O') (.slice A3 x0.length c4) x0) _ () ⟨O111,hB,hx1,h86,h113,hx0⟩ ⟨rfl,rfl,rfl,rfl,rfl,rfl,rfl,rfl,rfl,rfl,trivial⟩ (fun _ _=>⟨rfl,rfl⟩) (fun _ _=>⟨rfl,rfl,rfl,rfl,rfl,trivial⟩) (fun _ _ _ ⟨O',hB,hx1,h86,h151,hx0⟩=>⟨O',hB,hx1,h151,hx0⟩) ⟨rfl,rfl,rfl⟩ ⟨rfl,rfl⟩ ?_
   rintro k138 a139 s136 x137 w140 cc142 hx143 ⟨O141,hB,hx1,h86,h151,hx0⟩ hf144 hret145 hbrk146
   have rk138:inI64 (k138:Int):=rngK hx143 l133
   refine Ah (Ae (o_mv rfl rfl ?_))
   obtain ⟨b153,o154,ce155,hA156,hl157,hd158,rfl,z160⟩:=hx1.elem' hx143
   refine o_iaE (hA:=hA156) (hj:=rfl) (hlt:=hl157) rfl rfl rfl ?_
   refine o_ld (hc:=cat0 hd158) rfl rfl ?_
   refine o_as rfl rfl (o_as rfl rfl (o_z ?_))
   refine Ah (Be [] O141 ?_)
   refine x_pre (fuel:=1) [] [(0,true),(1,true),(2,true),(3,true),(4,true),(5,true),(6,true),(7,true),(8,true),(9,true),(10,true),(11,true),(12,true),(13,true),(14,true)] (by kernel_rfl) rfl ?_
   refine h_mv rfl rfl rfl (h_mv rfl rfl rfl ?_)
   obtain ⟨n161,e162,hf144⟩:=bs hf144
   have r163:=(Bc e162)
   refine h_adE (he:=e162) rfl rfl rfl rfl ?_
   refine h_mv rfl rfl rfl (h_mv rfl rfl rfl ?_)
   obtain ⟨a164,e165,hf144⟩:=bs hf144
   obtain ⟨b166,o167,ce168,hA169,hF172,hl170,hd171,rfl,r173⟩:=h151.elemF e165
   refine h_iaE (hA:=hA169) (hj:=rfl) (hlt:=hl170) rfl rfl rfl rfl ?_
   refine h_ldC (hc:=fun w' ⟨O',hq⟩=>cat0 (AQ (hq.agree (i:=3) (by decide)) hF172 hd171)) rfl rfl rfl ?_
   refine h_mv rfl rfl rfl (h_mv rfl rfl rfl ?_)
   obtain ⟨n174,e175,hf144⟩:=bs hf144
   have r176:=(Bc e175)
   refine h_adE (he:=e175) rfl rfl rfl rfl ?_
   obtain ⟨a177,e178,hf144⟩:=bs hf144
   obtain ⟨p180,x179⟩:=AP e178
   obtain ⟨b181,o182,ce183,hA184,hF187,hl185,hd186,rfl,r188⟩:=h86.elem x179
   refine h_iaE (hA:=hA184) (hj:=(Int.toNat_of_nonneg p180).symm) (hlt:=hl185) rfl rfl rfl rfl ?_
   refine h_ldC (hc:=fun w' ⟨O',hq⟩=>cat0 (AQ (hq.agree (i:=0) (by decide)) hF187 hd186)) rfl rfl rfl ?_
   refine h_min rfl rfl rfl rfl ?_
   obtain ⟨n189,e190,hf144⟩:=bs hf144
   have r191:=(Bc e190)
   refine h_adE (he:=e190) rfl rfl rfl rfl ?_
   obtain ⟨a192,e193,hf144⟩:=bs hf144
   obtain ⟨p195,x194⟩:=AP e193
   obtain ⟨b196,o197,ce198,hA199,hF202,hl200,hd201,rfl,r203⟩:=h151.elemF x194
   refine h_iaE (hA:=hA199) (hj:=(Int.toNat_of_nonneg p195).symm) (hlt:=hl200) rfl rfl rfl rfl ?_
   refine AH ?_
   refine x_one (i:=15) (by kernel_rfl) rfl ?_
   refine Di rfl h151 (a:=n189) (vInt r191) hA199 rfl rfl (Ba x194) fun w204 S205 h151=>?_
   refine x_end (by kernel_rfl) ?_
   refine x_nil (by kernel_rfl) ?_
   refine Ah (Ae (o_mv rfl rfl (o_mv rfl rfl (o_teS rfl rfl rfl (fun c206=>?_) fun c206=>?_))))
   ·
    replace hf144:=ip hf144 c206
    refine o_z ?_
    refine Ar rfl (Be [] O141 ?_)
    refine x_pre (fuel:=1) [] [(0,true),(1,true),(2,true),(3,true),(4,true),(5,true),(6,true),(7,true),(8,true),(9,true),(10,true),(11,true),(12,true),(13,true)] (by kernel_rfl) rfl ?_
    refine h_mv rfl rfl rfl (h_mv rfl rfl rfl ?_)
    obtain ⟨n207,e208,hf144⟩:=bs hf144
    have r209:=(Bc e208)
    refine h_adE (he:=e208) rfl rfl rfl rfl ?_
    refine h_mv rfl rfl rfl (h_mv rfl rfl rfl ?_)
    obtain ⟨n210,e211,hf144⟩:=bs hf144
    have r212:=(Bc e211)
    refine h_adE (he:=e211) rfl rfl rfl rfl ?_
    obtain ⟨a213,e214,hf144⟩:=bs hf144
    obtain ⟨p216,x215⟩:=AP e214
    obtain ⟨b217,o218,ce219,hA220,hF223,hl221,hd222,rfl,r224⟩:=h151.elemF x215
    refine h_iaE (hA:=hA220) (hj:=(Int.toNat_of_nonneg p216).symm) (hlt:=hl221) rfl rfl rfl rfl ?_
    refine h_ldC (hc:=fun w' ⟨O',hq⟩=>cat0 (AQ (hq.agree (i:=3) (by decide)) hF223 hd222)) rfl rfl rfl ?_
    refine h_mv rfl rfl rfl (h_mv rfl rfl rfl ?_)
    obtain ⟨a225,e226,hf144⟩:=bs hf144
    replace h86:=h86.st S205
    obtain ⟨b227,o228,ce229,hA230,hF233,hl231,hd232,rfl,r234⟩:=h86.elem e226
    refine h_iaE (hA:=hA230) (hj:=rfl) (hlt:=hl231) rfl rfl rfl rfl ?_
    refine h_ldC (hc:=fun w' ⟨O',hq⟩=>cat0 (AQ (hq.agree (i:=0) (by decide)) hF233 hd232)) rfl rfl rfl ?_
    refine h_min rfl rfl rfl rfl ?_
    obtain ⟨a235,e236,hf144⟩:=bs hf144
    obtain ⟨p238,x237⟩:=AP e236
    obtain ⟨b239,o240,ce241,hA242,hF245,hl243,hd244,rfl,r246⟩:=h151.elemF x237
    refine h_iaE (hA:=hA242) (hj:=(Int.toNat_of_nonneg p238).symm) (hlt:=hl243) rfl rfl rfl rfl ?_
    refine AH ?_
    refine x_one (i:=14) (by kernel_rfl) rfl ?_
    refine Di rfl h151 (a:=(min a213 a225)) (vInt (rngMin r224 r234)) hA242 rfl rfl (Ba x237) fun w247 S248 h151=>?_
    refine x_end (by kernel_rfl) ?_
    refine x_nil (by kernel_rfl) ?_
    obtain rfl:=sm hf144
    refine (?_:Exists _)
    replace hB:=(hB.st S205).st S248
    replace hx0:=(hx0.st S205).st S248
    replace hx1:=(hx1.st S205).st S248
    replace h86:=h86.st S248
    exact ⟨_,(),rfl,⟨rfl,rfl,rfl,rfl,rfl,rfl,rfl,rfl,rfl,rfl,trivial⟩,_,hB,hx1,h86,h151,hx0⟩
   ·
    replace hf144:=im hf144 c206
    refine o_z ?_
    refine Aj rfl (Am ?_)
    obtain rfl:=sm hf144
    refine (?_:Exists _)
    replace hB:=hB.st S205
    replace hx0:=hx0.st S205
    replace hx1:=hx1.st S205
    replace h86:=h86.st S205
    exact ⟨_,(),rfl,⟨rfl,rfl,rfl,rfl,rfl,rfl,rfl,rfl,rfl,rfl,trivial⟩,_,hB,hx1,h86,h151,hx0⟩
  replace hB:=(hB.st S112).st S131
  replace hx0:=(hx0.st S112).st S131
  rintro l249 w250 ⟨s253,x254,rfl,hs252,O251,hB,hx1,h151,hx0⟩
  replace hf80:=AR hf80
  refine AM _ hs252 ?_
  refine Ae (o_mv rfl rfl (o_as rfl rfl (o_z ?_)))
  obtain ⟨O255,S256,h151⟩:=h151.freeze
  obtain rfl:=sm hf80
  refine (?_:Exists _)
  replace hB:=hB.st S256
  replace hx0:=hx0.st S256
  replace hx1:=hx1.st S256
  exact ⟨_,((some ⟨g109,0,none⟩),m104),rfl,⟨rfl,rfl,rfl,(congrArg (fun n=>some (Value.slice _ n _)) h151.len.1.symm.symm),rfl,trivial⟩,_,hB,hx1,h151.relen,hx0⟩
 rintro l257 w258 ⟨s261,x262,rfl,hs260,O259,hB,hx1,h86⟩
 replace hm:=AR hm
 refine AM _ hs260 ?_
 refine Ah (Ae (o_mv rfl rfl (o_mv rfl rfl (o_ln rfl rfl ?_))))
 have l264:x1.length≤9223372036854775807:=Nat.le_trans hx1.len.2.1 hx1.len.2.2
 have r263:inI64 (x1.length:Int):=rngNat l264
 obtain ⟨a265,e266,hm⟩:=bs hm
 obtain ⟨b267,o268,ce269,hA270,hl271,hd272,rfl,r274⟩:=h86.elem' e266
 refine o_iaE (hA:=hA270) (hj:=rfl) (hlt:=hl271) rfl rfl rfl ?_
 refine o_ld (hc:=cat0 hd272) rfl rfl ?_
 refine o_as rfl rfl (o_z ?_)
 refine At ?_
 obtain rfl:=sm hm
 exact ret1v rfl (AF rfl) ⟨hB.ext,(vInt r274)⟩
noncomputable def DX (x0:List ByteArray):Option Bool :=
  bnd (rng (ρ:=Bool) (fun (k12:Nat) (a13:ByteArray) (s10:Int)=>some (.next (wr (s10 + (a13.size:Int))))) x0 0 (x0.length:Int)) fun res8=>fin res8 fun (s38:Int)=>bnd (if 600 < s38 then (some true) else (some false):Option Bool) fun y40=>some y40
theorem Jy {w:World} {A:Nat→Prop} (hA:∀ k,A k→k < w.heap.size) {vx0:Value} {x0:List ByteArray} (hx0:Vb w A vx0 x0) {r:Bool} (hm:DX x0=some r) :
    Fn Tryz.prog 9 [vx0] w fun v w'=>Ext w w'∧Vb w' (upA A w w') v r:=by
 obtain ⟨O,hB,hA0⟩:=enter hA
 replace hx0:=hx0.mono hA0
 obtain ⟨A2,c3,rfl⟩:=hx0.form
 refine AJ Tryz.func9 rfl Tryz.ntmps9 rfl ?_
 unfold DX at hm
 refine Ah (Ae (o_as rfl rfl (o_z ?_)))
 refine Ah (Ae (o_mv rfl rfl (o_ln rfl rfl ?_)))
 have l5:x0.length≤9223372036854775807:=Nat.le_trans hx0.len.2.1 hx0.len.2.2
 have r4:inI64 (x0.length:Int):=rngNat l5
 refine o_as rfl rfl (o_z ?_)
 refine Ah (Ah (Ae (o_mv rfl rfl (o_ln rfl rfl ?_))))
 have l7:x0.length≤9223372036854775807:=Nat.le_trans hx0.len.2.1 hx0.len.2.2
 have r6:inI64 (x0.length:Int):=rngNat l7
 refine o_mv rfl rfl (o_z ?_)
 obtain ⟨res8,hL9,hm⟩:=bs hm
 refine AL (aft res8 (fun (s10:Int) (x11:Unit)=>[(3,(.int .i64 s10))]) (fun s10 x11 w'=>∃ O':Lab,Bs w A w' O'∧inI64 s10)) ?_ ?_
 ·
  refine Al (Bh (σ:=Int) (X:=Unit) (x0.length) hL9 rfl l7 (fun (s10:Int) (x11:Unit)=>[(3,(.int .i64 s10)),(8,(.slice A2 x0.length c3))]) _ (fun s10 x11 w'=>∃ O':Lab,Bs w A w' O'∧Vb w' (Fr 0 w' O') (.slice A2 x0.length c3) x0∧inI64 s10) _ () ⟨O,hB,hx0,r4⟩ ⟨rfl,rfl,rfl,rfl,trivial⟩ (fun _ _=>⟨rfl,rfl⟩) (fun _ _=>⟨rfl,trivial⟩) (fun _ _ _ ⟨O',hB,hx0,r24⟩=>⟨O',hB,r24⟩) ⟨rfl,rfl,rfl⟩ ⟨rfl,rfl⟩ ?_)
  rintro k12 a13 s10 x11 w14 cc16 hx17 ⟨O15,hB,hx0,r24⟩ hf18 hret19 hbrk20
  have rk12:inI64 (k12:Int):=rngK hx17 l7
  refine Ah (Ae ?_)
  obtain ⟨b25,o26,ce27,hA28,hl29,hd30,rfl,z32⟩:=hx0.elem' hx17
  refine o_iaE (hA:=hA28) (hj:=rfl) (hlt:=hl29) rfl rfl rfl ?_
  refine o_ld (hc:=cat0 hd30) rfl rfl ?_
  refine o_as rfl rfl (o_z ?_)
  refine Ae (o_mv rfl rfl (o_mv rfl rfl (o_ls rfl rfl ?_)))
  have r33:inI64 (a13.size:Int):=rngNat z32
  refine o_adW rfl rfl rfl ?_
  refine o_as rfl rfl (o_z ?_)
  obtain rfl:=sm hf18
  refine (?_:Exists _)
  exact ⟨_,(),rfl,⟨rfl,rfl,rfl,rfl,trivial⟩,_,hB,hx0,(KG _)⟩
 rintro l34 w35 ⟨s38,x39,rfl,hs37,O36,hB,r24⟩
 replace hm:=AR hm
 refine AM _ hs37 ?_
 refine Ah ?_
 obtain ⟨y40,hy41,hm⟩:=bs hm
 refine AL (fun l' w'=>∃ (x43:Unit) (O':Lab),subs l' [(2,(.bool y40))]∧Bs w A w' O') ?_ ?_
 ·
  refine Ae (o_mv rfl rfl (o_gtS rfl rfl rfl (fun c44=>?_) fun c44=>?_))
  ·
   replace hy41:=ip hy41 c44
   refine o_as rfl rfl (o_z ?_)
   obtain rfl:=sm hy41
   exact ⟨(),_,⟨rfl,trivial⟩,hB⟩
  ·
   replace hy41:=im hy41 c44
   refine o_as rfl rfl (o_z ?_)
   obtain rfl:=sm hy41
   exact ⟨(),_,⟨rfl,trivial⟩,hB⟩
 rintro l45 w46 ⟨x43,O47,hs48,hB⟩
 refine AM _ hs48 ?_
 refine At ?_
 obtain rfl:=sm hm
 exact ret1v rfl (AF rfl) ⟨hB.ext,vBool⟩
end
end Go.Proofs.YtafdmfhdjfkooaaGreat

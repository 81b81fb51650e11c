/- Own text: what the proof of orbitSolves_holds uses, part 5: rules, models and their proofs, plain laws. -/
import Derived.Test.YtecegaabajeolaaGreatOsvD
set_option linter.unusedVariables false
set_option linter.unusedSimpArgs false
namespace Go.Proofs.YtecegaabajeolaaGreat
open Go Go.RowKit
section
open Go Go.RowKit
attribute [local irreducible] ewp owp hwp hwq hws Ev Evg Fn retPost loud loudS Res1
theorem GenR.mono {w:World} {F G:Nat→Prop} {gv:Value} {t:Tsk} {T:Tr} (h:GenR w F gv t T) (hk:∀ k,F k→G k):GenR w G gv t T:=by
  obtain ⟨gb,a,b,c,d,r,h1,h2,h3,h4,h5,h6,h7,h8⟩:=h
  exact ⟨gb,a,b,c,d,r,h1,hk _ h2,h3,h4.mono hk,h5.mono hk,h6.mono hk,h7.mono hk,TrR.mono hk h8⟩
theorem GenR.agree {w w':World} {F:Nat→Prop} {gv:Value} {t:Tsk} {T:Tr} (h:GenR w F gv t T) (ha:Agree F w w'):GenR w' F gv t T:=by
  obtain ⟨gb,a,b,c,d,r,h1,h2,h3,h4,h5,h6,h7,h8⟩:=h
  exact ⟨gb,a,b,c,d,r,h1,h2,h3.keep (ha gb h2),h4.agree ha,h5.agree ha,h6.agree ha,h7.agree ha,TrR.agree ha h8⟩
theorem GenR.form {w:World} {F:Nat→Prop} {gv:Value} {t:Tsk} {T:Tr} (h:GenR w F gv t T):∃ gb,gv=.pointer (some ⟨gb,0,none⟩):=by
  obtain ⟨gb,a,b,c,d,r,h1,_⟩:=h
  exact ⟨gb,h1⟩
noncomputable def appS (t:Tsk) (s:List Int):List Int:=if bof (StateOk t.vars s)=true then appl t s else []
theorem II {t:Tsk} {s:List Int} (h:StateOk t.vars s):appS t s=appl t s:=by unfold appS;rw [if_pos (Bf h)]
theorem Ki {t:Tsk} {s:List Int} (h:¬ StateOk t.vars s):appS t s=[]:=by unfold appS;rw [AQ h];rfl
theorem Ni {t:Tsk} (hp:PreOk t) (s:List Int):findL t (treeOf t) s=appS t s:=by
  by_cases h:StateOk t.vars s
  · rw [Nh hp h,II h]
  · rw [Ki h];unfold findL;rw [AQ h];rfl
theorem LG {t:Tsk} {s:List Int} {x:Int} (h:x∈appl t s):∃ (j:Nat) (o:Opr),x=(j:Int)∧t.ops[j]?=some o∧holdsB o.pre s=true:=by
  unfold appl applK at h
  obtain ⟨j,hj,rfl⟩:=List.mem_map.1 h
  obtain ⟨h1,h2⟩:=List.mem_filter.1 hj
  obtain ⟨o,ho⟩:=AF (List.mem_range.1 h1)
  rw [ho] at h2
  exact ⟨j,o,rfl,ho,h2⟩
theorem ON {t:Tsk} {s:List Int} {x:Int} (h:x∈appS t s):StateOk t.vars s∧x∈appl t s:=by
  by_cases hs:StateOk t.vars s
  · rw [II hs] at h;exact ⟨hs,h⟩
  · rw [Ki hs] at h;cases h
theorem LH (t:Tsk) (s:List Int):(appl t s).length≤t.ops.length:=NQ t s _
theorem OO (t:Tsk) (s:List Int):(appS t s).length≤t.ops.length:=by
  by_cases hs:StateOk t.vars s
  · rw [II hs];exact LH t s
  · rw [Ki hs];exact Nat.zero_le _
section
variable {w : World} {gv sv : Value} {t : Tsk} {s : List Int}
theorem applT (hok:TaskOk t) (hg:GenR w (All w) gv t (treeOf t)) (hs:V w sv s) (hsl:s.length≤1000000) :
    Fn Tryz.prog 65 [gv,sv] w fun v w'=>Ext w w'∧Own w' w.heap.size (All w) 3 v (appS t s):=by
  have:=genApplicable hg hs (NT hok.pre) (by have:=OM t s;have:=hok.2.1;omega) hsl
  rwa [Ni hok.pre] at this
end
theorem nilFind {w:World} {sv:Value}:Fn Tryz.prog 92 [.pointer none,sv] w fun v w'=>v=.tuple #[.slice none 0 0,.int .i64 0]∧Ext w w':=by
  refine AK Tryz.func92 rfl Tryz.ntmps92 rfl ?_
  ((repeat (first|refine At ?_|refine Ah rfl ?_|refine Ae rfl ?_))<;>(refine Au rfl rfl ?_<;>refine Au rfl rfl ?_<;>(refine o_z ?_))<;>(repeat (first|refine At ?_|refine Ah rfl ?_|refine Ae rfl ?_)))
  (refine Ar rfl rfl ?_<;>refine Lm rfl rfl ?_<;>refine Ar rfl rfl ?_<;>(first|(refine Az rfl rfl ?_;refine Ar rfl rfl ?_)|refine Ay rfl rfl rfl rfl ?_)<;>(first|(refine Az rfl rfl ?_;refine Dv rfl rfl ?_)|refine Ay rfl rfl rfl rfl ?_)<;>(first|(refine Az rfl rfl ?_;refine AL rfl rfl ?_)|refine Ay rfl rfl rfl rfl ?_)<;>(first|(refine Az rfl rfl ?_;refine AL rfl rfl ?_)|refine Ay rfl rfl rfl rfl ?_)<;>(first|(refine Az rfl rfl ?_;refine AG rfl rfl ?_)|refine Ay rfl rfl rfl rfl ?_)<;>(first|(refine Az rfl rfl ?_;refine Ar rfl rfl ?_)|refine Ay rfl rfl rfl rfl ?_))
  refine Ay rfl rfl rfl rfl ?_
  ((first|(refine Az rfl rfl ?_;(first|refine Ct rfl rfl ?_|refine Cu rfl rfl ?_|refine CW rfl rfl ?_))|refine Ay rfl rfl rfl rfl ?_)<;>(first|refine Bw rfl rfl rfl ?_|refine Bx rfl rfl rfl ?_)<;>(refine o_z ?_))
  repeat (first|refine At ?_|refine Ah rfl ?_|refine Ae rfl ?_)
  ((repeat (first|refine At ?_|refine Ah rfl ?_|refine Ae rfl ?_))<;>(refine Au rfl rfl ?_<;>refine Au rfl rfl ?_<;>(refine o_z ?_))<;>(repeat (first|refine At ?_|refine Ah rfl ?_|refine Ae rfl ?_)))
  exact ret2 rfl (AD rfl) (AD rfl) ⟨rfl,Below.refl _ _⟩
theorem nilApplicable {w:World} {sv:Value}:Fn Tryz.prog 65 [.pointer none,sv] w fun v w'=>v=.slice none 0 0∧Ext w w':=by
  refine AK Tryz.func65 rfl Tryz.ntmps65 rfl ?_
  ((repeat (first|refine At ?_|refine Ah rfl ?_|refine Ae rfl ?_))<;>(refine Au rfl rfl ?_<;>(refine o_z ?_))<;>(repeat (first|refine At ?_|refine Ah rfl ?_|refine Ae rfl ?_))<;>(refine Ar rfl rfl ?_<;>refine Ar rfl rfl ?_)<;>(repeat (first|refine At ?_|refine Ah rfl ?_|refine Ae rfl ?_)))
  refine By rfl rfl nilFind ?_
  rintro _ w1 ⟨rfl,hE⟩
  (refine Ar rfl rfl ?_<;>refine CC rfl rfl rfl ?_<;>refine CC rfl rfl rfl ?_<;>refine Au rfl rfl ?_<;>refine Au rfl rfl ?_<;>(refine o_z ?_))
  repeat (first|refine At ?_|refine Ah rfl ?_|refine Ae rfl ?_)
  ((repeat (first|refine At ?_|refine Ah rfl ?_|refine Ae rfl ?_))<;>(refine Ar rfl rfl ?_<;>refine Au rfl rfl ?_<;>(refine o_z ?_))<;>(repeat (first|refine At ?_|refine Ah rfl ?_|refine Ae rfl ?_)))
  exact ret1 rfl rfl ⟨rfl,hE⟩
end
section
open Go Go.RowKit
attribute [local irreducible] ewp owp hwp hwq hws Ev Evg Fn retPost loud loudS Res1
structure Gnr where
  t:Tsk
def GnrR (w:World) (F:Nat→Prop) (v:Value):Option Gnr→Prop
  | none=>v=.pointer none
  | some g=>TaskOk g.t∧GenR w F v g.t (treeOf g.t)
theorem GnrR.one {w:World} {F:Nat→Prop} {v:Value}:∀ {x:Option Gnr},GnrR w F v x→v.oneCell'=true
  | none,h=>by    have:v=.pointer none:=h
                  subst this;rfl
  | some g,h=>by
    obtain ⟨gb,rfl⟩:=h.2.form
    rfl
instance:Rp (Option Gnr) where
  isAgg:=false
  size:=1
  R w F cs x:=∃ v,cs=[v]∧GnrR w F v x
  len:=by rintro w F cs x ⟨v,rfl,_⟩;rfl
  one:=by
    rintro w F cs x ⟨v,rfl,h⟩ u hu
    have:u=v:=by simpa using hu
    subst this;exact h.one
  agree:=by
    rintro w w' F cs x ⟨v,rfl,h⟩ ha
    refine ⟨v,rfl,?_⟩
    cases x with
    | none=>exact h
    | some g=>exact ⟨h.1,h.2.agree ha⟩
  mono:=by
    rintro w F G cs x ⟨v,rfl,h⟩ hk
    refine ⟨v,rfl,?_⟩
    cases x with
    | none=>exact h
    | some g=>exact ⟨h.1,h.2.mono hk⟩
theorem vNone {w:World} {F:Nat→Prop}:Vb w F (.pointer none) (none:Option Gnr):=⟨_,rfl,rfl⟩
theorem Vb.gnr {w:World} {F:Nat→Prop} {v:Value} {x:Option Gnr} (h:Vb w F v x):GnrR w F v x:=by
  obtain ⟨u,hu,h'⟩:=h
  have:v=u:=by simpa using hu
  subst this;exact h'
theorem Vb.ptr {w:World} {F:Nat→Prop} {v:Value} {x:Option Gnr} (h:Vb w F v x):∃ p,v=.pointer p∧p.isNone=x.isNone:=by
  cases x with
  | none=>exact ⟨none,h.gnr,rfl⟩
  | some g=>obtain ⟨gb,rfl⟩:=h.gnr.2.form;exact ⟨_,rfl,rfl⟩
theorem OP {w:World} {F:Nat→Prop} {p:Option Addr} {x:Option Gnr} {g:Gnr} (h:Vb w F (.pointer p) x) (e:x=some g) :
    ∃ gb a b c d r,p=some ⟨gb,0,none⟩∧F gb∧cellsAt w gb 0 [a,b,c,d,r]∧Vb w F a g.t.vars∧Vb w F b g.t.init∧Vb w F c g.t.goal∧Vb w F d g.t.ops:=by
  subst e
  obtain ⟨_,gb,a,b,c,d,r,h1,h2,h3,h4,h5,h6,h7,_⟩:=h.gnr
  injection h1 with h1
  exact ⟨gb,a,b,c,d,r,h1,h2,h3.cellsAt,h4,h5,h6,h7⟩
theorem vGnr {w:World} {F:Nat→Prop} {v:Value} {g:Gnr} (h:TaskOk g.t) (hg:GenR w F v g.t (treeOf g.t)):Vb w F v (some g):=⟨v,rfl,h,hg⟩
theorem PW {A:Nat→Prop} {w w':World}:∀ k,nw w w' k→upA A w w' k:=fun _ h=>.inr h
theorem Own.intRow {w w':World} {F A:Nat→Prop} {e:TypeId} {v:Value} {xs:List Int} (h:Own w' w.heap.size F e v xs):RowR w w' (upA A w w') e v xs:=by
  obtain ⟨cells,q1,q2,q3⟩:=h
  exact ⟨fun _=>False,fun _ h=>h.elim,cells,q1,GZ q2,fun _ _ h=>h⟩
noncomputable def Ez (t:Tsk):Option (Option Gnr×Err):=some (if bof (TaskOk t)=true then some ⟨t⟩ else none,⟨checkN t⟩)
theorem KT {w:World} {A:Nat→Prop} (hA:∀ k,A k→k < w.heap.size) {v0:Value} {x0:Tsk} (h0:Vb w A v0 x0) {r:Option Gnr×Err} (hm:Ez x0=some r):Fn Tryz.prog 24 [v0] w fun v w'=>Ext w w'∧T2 w' (upA A w w') v r:=by
  obtain rfl:=sm hm
  refine (genNew (h0.mono hA)).mono fun v w' h=>⟨h.1,?_⟩
  rcases h.2 with ⟨hok,gv,rfl,hg⟩|⟨hno,rfl⟩
  · rw [Bf hok,DE.2 hok]
    exact ⟨gv,_,rfl,vGnr (g:=⟨x0⟩) hok (hg.mono PW),vErr0⟩
  · rw [AQ hno]
    exact ⟨_,_,rfl,vNone,vErr (JM _)⟩
noncomputable def appG:Option Gnr→List Int→List Int
  | none,_=>[]
  | some g,s=>appS g.t s
noncomputable def CY (x:Option Gnr) (s:List Int):Option (List Int):=if s.length≤1000000 then some (appG x s) else none
theorem FA {w:World} {A:Nat→Prop} (hA:∀ k,A k→k < w.heap.size) {v0:Value} {x0:Option Gnr} (h0:Vb w A v0 x0) {v1:Value} {x1:List Int} (h1:Vb w A v1 x1) {r:List Int} (hm:CY x0 x1=some r) :
    Fn Tryz.prog 65 [v0,v1] w fun v w'=>Ext w w'∧RowR w w' (upA A w w') 3 v r:=by
  obtain ⟨hl,rfl⟩:=Jd hm
  cases x0 with
  | none =>
    have h2:=h0.gnr
    have:v0=.pointer none:=h2
    subst this
    refine nilApplicable.mono fun v w' h=>⟨h.2,?_⟩
    rw [h.1];exact RowR.nil
  | some g =>
    obtain ⟨hok,hg⟩:=h0.gnr
    exact (applT hok (hg.mono hA) (h1.mono hA) hl).mono fun v w' h=>⟨h.1,h.2.intRow⟩
end
section
section
variable {α σ ρ : Type}
theorem BI {s:σ} {f:σ→Option ρ}:fin (.done s) f=f s:=rfl
theorem Hz {c:ρ} {f:σ→Option ρ}:fin (.ret c) f=some c:=rfl
theorem Bo {x y:α}:(if true=true then x else y)=x:=rfl
theorem BD {x y:α}:(if false=true then x else y)=y:=rfl
theorem PH {x y:α}:(if (!true)=true then x else y)=y:=rfl
theorem PI {x y:α}:(if (!false)=true then x else y)=x:=rfl
theorem In {f:Nat→α→σ→Option (Ctl σ ρ)} {I:Nat→σ→Prop} {R:ρ→Prop}:∀ (ys:List α) (j:Nat) (s:σ),I j s →
    (∀ k x s,ys[k]?=some x→I (j + k) s→(∃ s',f (j + k) x s=some (.next s')∧I (j + k + 1) s')∨(∃ r,f (j + k) x s=some (.ret r)∧R r)) →
    (∃ s',rng f ys j s=some (.done s')∧I (j + ys.length) s')∨∃ r,rng f ys j s=some (.ret r)∧R r
  | [],j,s,h0,_=>.inl ⟨s,rfl,h0⟩
  | y :: ys,j,s,h0,h=>by
    rcases h 0 y s rfl h0 with ⟨s',h1,h2⟩|⟨r,h1,h2⟩
    · have h1':f j y s=some (.next s'):=h1
      simp only [rng,h1']
      rcases In (I:=I) (R:=R) ys (j + 1) s' h2 (fun k x s hk hI=>by
        have:=h (k + 1) x s (by simpa using hk) (by rwa [show j + (k + 1)=j + 1 + k from by omega])
        rwa [show j + (k + 1)=j + 1 + k from by omega] at this) with ⟨s2,h3,h4⟩|h3
      · exact .inl ⟨s2,h3,by rw [List.length_cons,show j + (ys.length + 1)=j + 1 + ys.length from by omega];exact h4⟩
      · exact .inr h3
    · have h1':f j y s=some (.ret r):=h1
      simp only [rng,h1']
      exact .inr ⟨r,rfl,h2⟩
theorem IJ {f:Nat→α→σ→Option (Ctl σ ρ)} {xs:List α} {s₀:σ} (I:Nat→σ→Prop) (R:ρ→Prop) (h0:I 0 s₀)
    (h:∀ k x s,xs[k]?=some x→I k s→(∃ s',f k x s=some (.next s')∧I (k + 1) s')∨(∃ r,f k x s=some (.ret r)∧R r)) :
    (∃ s',rng f xs 0 s₀=some (.done s')∧I xs.length s')∨∃ r,rng f xs 0 s₀=some (.ret r)∧R r:=by
  have:=In (f:=f) (I:=I) (R:=R) xs 0 s₀ h0 (fun k x s hk hI=>by rw [Nat.zero_add] at hI ⊢;exact h k x s hk hI)
  rwa [Nat.zero_add] at this
theorem CS {f:Nat→α→σ→Option (Ctl σ ρ)} {xs:List α} {s₀:σ} (I:Nat→σ→Prop) (h0:I 0 s₀) (h:∀ k x s,xs[k]?=some x→I k s→∃ s',f k x s=some (.next s')∧I (k + 1) s') :
    ∃ s',rng f xs 0 s₀=some (.done s')∧I xs.length s':=by
  rcases IJ I (fun _=>False) h0 (fun k x s hk hI=>.inl (h k x s hk hI)) with h|⟨_,_,h⟩
  · exact h
  · exact h.elim
theorem Kj {f:Nat→α→σ→Option (Ctl σ ρ)} {xs:List α} (g:Nat→σ) (h:∀ k x,xs[k]?=some x→f k x (g k)=some (.next (g (k + 1)))):rng f xs 0 (g 0)=some (.done (g xs.length)):=by
  obtain ⟨s',h1,h2⟩:=CS (f:=f) (xs:=xs) (s₀:=g 0) (fun k s=>s=g k) rfl (fun k x s hk hI=>⟨_,by rw [hI];exact h k x hk,rfl⟩)
  rw [h1,h2]
theorem DZ {f:Nat→α→σ→Option (Ctl σ ρ)} {xs:List α} {s₀:σ} (g:Nat→σ) (h0:s₀=g 0) (h:∀ k x,xs[k]?=some x→f k x (g k)=some (.next (g (k + 1)))):rng f xs 0 s₀=some (.done (g xs.length)):=by
  rw [h0];exact Kj g h
theorem Jp {f:Nat→α→Unit→Option (Ctl Unit ρ)} {xs:List α} (h:∀ k x,xs[k]?=some x→f k x ()=some (.next ())):rng f xs 0 ()=some (.done ()):=Kj (fun _=>()) h
theorem OQ {f:Nat→σ→Option (Ctl σ ρ)} {N:Nat} (g:Nat→σ) (h:∀ k,k < N→f k (g k)=some (.next (g (k + 1)))):rngN f N (g 0)=some (.done (g N)):=by
  have:=Kj (f:=fun _ k s=>f k s) (xs:=List.range N) g (fun k x hk=>by
    obtain ⟨hlt,rfl⟩:=List.getElem?_eq_some_iff.1 hk
    simpa using h k (by simpa using hlt))
  rwa [List.length_range] at this
theorem NU {f:Nat→σ→Option (Ctl σ ρ)} {N:Nat} {s₀:σ} (g:Nat→σ) (h0:s₀=g 0) (h:∀ k,k < N→f k (g k)=some (.next (g (k + 1)))):rngN f N s₀=some (.done (g N)):=by
  rw [h0];exact OQ g h
theorem OS {f:Nat→σ→Option (Ctl σ ρ)} {N:Nat} {s₀:σ} (I:Nat→σ→Prop) (h0:I 0 s₀) (h:∀ k s,k < N→I k s→∃ s',f k s=some (.next s')∧I (k + 1) s') :
    ∃ s',rngN f N s₀=some (.done s')∧I N s':=by
  have:=CS (f:=fun _ k s=>f k s) (xs:=List.range N) (s₀:=s₀) I h0 (fun k x s hk hI=>by
    obtain ⟨hlt,rfl⟩:=List.getElem?_eq_some_iff.1 hk
    simpa using h k s (by simpa using hlt) hI)
  rwa [List.length_range] at this
end
end
section
open Go Go.RowKit
theorem NV {vars:List Int} (h0:∀ (i:Nat) n,vars[i]?=some n→0≤n∧n≤64) (hb:∀ k,(statesL (vars.take k)).length≤1000000) (hvn:vars.length≤1000):Ds vars=some (statesL vars):=by
  unfold Ds
  rw [DZ (fun k=>statesL (vars.take k)) ?_ ?_]
  · rw [Am,BI,List.take_length]
  · rfl
  intro k n hn
  obtain ⟨N,rfl⟩:=Int.eq_ofNat_of_zero_le (h0 k n hn).1
  have hN:=(h0 k _ hn).2
  have hk:=AE hn
  have hlen:=hb k
  rw [DZ (fun i=>((statesL (vars.take k)).take i).flatMap (exts N)) ?_ ?_]
  · rw [Am,BI,List.take_length,EL hn];rfl
  · rfl
  intro i s hs
  have hsl:=Mh vars k (by omega) s (List.mem_of_getElem? hs)
  have hfl:=GS N ((statesL (vars.take k)).take i)
  have hfl2:((statesL (vars.take k)).take i).length * N≤1000000 * 64:=Nat.mul_le_mul (by rw [List.length_take];omega) (by omega)
  rw [My,Am,NU (fun x=>((statesL (vars.take k)).take i).flatMap (exts N) ++ exts x s) ?_ ?_]
  · rw [Am,BI,NK _ hs]
  · simp [exts]
  intro x hx
  rw [Cq (by simp;omega) (by simp;omega),Am,Cq (by simp;omega) (by simp;omega),Am,Cq (by simp only [List.length_append,FL,List.length_singleton];omega) (by simp only [List.length_append,FL,List.length_singleton];omega),Am,NJ]
  simp
theorem Ip {t:Tsk} (h:Mid t):Ds t.vars=some (statesL t.vars) :=
  NV (fun i n hn=>by have:=h.ok.vars i n hn;omega) (fun k=>by have:=h.states k;omega) (by have:=h.ok.1;omega)
end
section
open Go Go.RowKit
theorem GI (f:List Fct) (s:List Int):Dk f s=some (holdsB f s):=rfl
theorem LI {ρ:Type} {s:List Int} {effs:List Eff} (he:EffsIn s effs) (m:List Fct→List Int→Option Bool) (hm:∀ f s,m f s=some (holdsB f s)) (u:List Int) (hu:u.length=s.length) :
    rng (ρ:=ρ) (fun (_:Nat) (e:Eff) (out:List Int)=>bnd (m e.cond s) fun q=>if q=true then bnd (atI out e.var) fun _=>some (.next (out.set (e.var).toNat e.val)) else some (.next out)) effs 0 u=some (.done (effsOn s effs u)):=by
  rw [DZ (fun k=>effsOn s (effs.take k) u) ?_ ?_,List.take_length]
  · rfl
  intro k e hk
  rw [hm,Am,Ml s hk]
  have hin:=he k e hk
  have hl:=HN s (effs.take k) u
  by_cases hb:holdsB e.cond s=true
  · rw [if_pos hb,if_pos hb]
    obtain ⟨j,hj⟩:=Int.eq_ofNat_of_zero_le hin.1
    rw [hj,Bh,List.getElem?_eq_getElem (by omega),Am]
  · rw [if_neg hb,if_neg hb]
theorem OU {t:Tsk} {s:List Int} {j:Nat} {o:Opr} (ho:t.ops[j]?=some o) (hp:holdsB o.pre s=true) (hl:s.length≤1000000) (he:EffsIn s o.effs):Cz t s (j:Int)=some (succ o s,true):=by
  have hj:=AE ho
  unfold Cz
  rw [if_neg (by omega),if_neg (by omega),Bh,ho,Am,GI,Am,hp,Bo,Am,BD,Cq (by simp;omega) (by simp;omega),Am,Am,List.nil_append,LI he Dk GI s rfl,Am,BI]
  rfl
theorem KA {vars s:List Int}:∀ (l:List Eff),(∀ e∈l,EffOk vars e)→∀ (u:List Int),StateOk vars u→StateOk vars (effsOn s l u)
  | [],_,_,hu=>hu
  | e :: l,he,u,hu=>by
    refine KA l (fun e' h'=>he e' (List.mem_cons_of_mem _ h')) _ ?_
    split
    · obtain ⟨_,h1,h2,y,hy,h3⟩:=he e List.mem_cons_self
      refine ⟨by rw [List.length_set];exact hu.1,fun i x n hx hn=>?_⟩
      rw [List.getElem?_set] at hx
      by_cases hi:e.var.toNat=i
      · subst hi
        rw [if_pos rfl] at hx
        split at hx
        · obtain rfl:=Option.some.inj hx
          simp only at hy h2 h3
          rw [hy] at hn
          obtain rfl:=Option.some.inj hn
          exact ⟨h2,h3⟩
        · cases hx
      · rw [if_neg hi] at hx
        exact hu.2 i x n hx hn
    · exact hu
theorem ET {t:Tsk} (h:TaskOk t) {s:List Int} (hs:StateOk t.vars s) {k:Nat} {o:Opr} (ho:t.ops[k]?=some o):StateOk t.vars (succ o s) :=
  KA o.effs (fun e he=>by obtain ⟨j,hj⟩:=List.getElem?_of_mem he;exact (h.2.2.2.2.2 k o ho).2.2.2.2.2 j e hj) s hs
theorem KB {t:Tsk} (h:TaskOk t) {s:List Int} (hs:StateOk t.vars s) {k:Nat} {o:Opr} (ho:t.ops[k]?=some o):Cz t s (k:Int)=some (if holdsB o.pre s=true then (succ o s,true) else ([],false)):=by
  have hk:=AE ho
  by_cases hp:holdsB o.pre s=true
  · rw [OU ho hp (by have:=hs.1;have:=h.1;omega) (h.effs hs k o ho),if_pos hp]
  · unfold Cz
    rw [if_neg (by omega),if_neg (by omega),Bh,ho,Am,GI,Am,if_neg hp,if_neg hp,Am,Bo]
theorem Jq {n:Nat} (hn:0 < n):∀ (l:List (List Int)) (q:Nat),(l.flatMap (exts n))[q]?=(l[q / n]?).map (· ++ [((q % n:Nat):Int)])
  | [],q=>by simp
  | a :: l,q=>by
    rw [List.flatMap_cons]
    by_cases hq:q < n
    · rw [List.getElem?_append_left (by rw [FL];exact hq),Nat.div_eq_of_lt hq,Nat.mod_eq_of_lt hq]
      simp [exts,hq]
    · rw [List.getElem?_append_right (by rw [FL];omega),FL,Jq hn l (q - n)]
      obtain ⟨r,rfl⟩:∃ r,q=r + n:=⟨q - n,by omega⟩
      rw [Nat.add_sub_cancel,Nat.add_div_right _ hn,Nat.add_mod_right]
      simp
theorem JT {vars:List Int} (hv:∀ (i:Nat) n,vars[i]?=some n→1≤n):∀ (k:Nat),k≤vars.length→∀ (i j:Nat) (s:List Int),(statesL (vars.take k))[i]?=some s→(statesL (vars.take k))[j]?=some s→i=j
  | 0,_,i,j,s,h1,h2=>by
    have e1:=AE h1
    have e2:=AE h2
    simp [statesL] at e1 e2
    omega
  | k + 1,hk,i,j,s,h1,h2=>by
    obtain ⟨n,hn⟩:=AF (l:=vars) (k:=k) (by omega)
    have hn1:=hv k n hn
    rw [EL hn] at h1 h2
    unfold grows at h1 h2
    rw [Jq (by omega)] at h1 h2
    obtain ⟨p,hp,rfl⟩:=Option.map_eq_some_iff.1 h1
    obtain ⟨p',hp',e⟩:=Option.map_eq_some_iff.1 h2
    obtain ⟨e1,e2⟩:=List.append_inj' e rfl
    subst e1
    have:=JT hv k (by omega) _ _ _ hp hp'
    have e3:j % n.toNat=i % n.toNat:=by
      have:=List.singleton_inj.1 e2
      omega
    have d1:=Nat.div_add_mod i n.toNat
    have d2:=Nat.div_add_mod j n.toNat
    rw [this,← e3] at d1
    omega
theorem Mq {t:Tsk} (h:TaskOk t) {i j:Nat} {s:List Int} (h1:(statesL t.vars)[i]?=some s) (h2:(statesL t.vars)[j]?=some s):i=j:=by
  have:=JT (vars:=t.vars) (fun i n hn=>(h.vars i n hn).1) t.vars.length (Nat.le_refl _) i j s
  rw [List.take_length] at this
  exact this h1 h2
theorem Kk {t:Tsk} (h:Mid t) {s:List Int} (hs:StateOk t.vars s):∃ i:Nat,DB t.vars s=some (i:Int)∧(statesL t.vars)[i]?=some s:=by
  unfold DB
  obtain ⟨r,h1,i,rfl,h2⟩:=CS (ρ:=Int) (f:=fun (k11:Nat) (a12:Int) (s9:Int)=>bnd (t.vars[k11]?) fun a24=>bnd (chkI (s9 * a24)) fun n34=>bnd (chkI (n34 + a12)) fun n45=>some (.next n45)) (xs:=s) (s₀:=0) (fun k r=>∃ i:Nat,r=(i:Int)∧(statesL (t.vars.take k))[i]?=some (s.take k)) ⟨0,rfl,by simp [statesL]⟩ (fun k x r hk hI=>by
    obtain ⟨i,rfl,hi⟩:=hI
    have hlt:=AE hk
    obtain ⟨n,hn⟩:=AF (l:=t.vars) (k:=k) (by rw [← hs.1];exact hlt)
    have hn1:=h.ok.vars k n hn
    obtain ⟨hx1,hx2⟩:=hs.2 k x n hk hn
    obtain ⟨x,rfl⟩:=Int.eq_ofNat_of_zero_le hx1
    obtain ⟨n,rfl⟩:=Int.eq_ofNat_of_zero_le (by omega:0≤n)
    have hget:(statesL (t.vars.take (k + 1)))[i * n + x]?=some (s.take (k + 1)):=by
      rw [EL hn]
      show ((statesL (t.vars.take k)).flatMap (exts ((n:Int)).toNat))[i * n + x]?=_
      rw [show ((n:Int)).toNat=n from by omega,Jq (by omega)]
      have e1:(i * n + x) / n=i:=by
        rw [Nat.mul_comm,Nat.mul_add_div (by omega),Nat.div_eq_of_lt (by omega)];omega
      have e2:(i * n + x) % n=x:=by
        rw [Nat.mul_comm,Nat.mul_add_mod,Nat.mod_eq_of_lt (by omega)]
      rw [e1,e2,hi,List.take_add_one,hk];rfl
    have hb:=AE hget
    have hb2:=h.states (k + 1)
    have e3:(i:Int) * (n:Int)=((i * n:Nat):Int):=by simp
    rw [hn,Am,e3,Cp (by unfold inI64;omega),Am,Cp (by unfold inI64;omega),Am]
    exact ⟨_,rfl,i * n + x,by omega,hget⟩)
  rw [List.take_length,hs.1,List.take_length] at h2
  exact ⟨i,by rw [h1,Am,BI],h2⟩
def EdgeOk (t:Tsk) (e:Edg):Prop:=∃ (i k j:Nat) (s:List Int) (o:Opr),e=⟨i,k,j⟩∧(statesL t.vars)[i]?=some s∧t.ops[k]?=some o∧holdsB o.pre s=true∧(statesL t.vars)[j]?=some (succ o s)
theorem OV {t:Tsk} (h:Mid t):∃ es,EM t=some es∧∀ e,e∈es↔EdgeOk t e:=by
  have hlen:(statesL t.vars).length≤600:=by have:=h.states t.vars.length;rwa [List.take_length] at this
  have hops:=h.ops
  have uniq:∀ {i i':Nat} {s:List Int},(statesL t.vars)[i]?=some s→(statesL t.vars)[i']?=some s→i=i':=fun h1 h2=>Mq h.ok h1 h2
  unfold EM
  rw [Ip h,Am]
  obtain ⟨es, h1,h2,h3⟩:=CS (ρ:=List Edg) (f:=fun (k38:Nat) (a39:List Int) (s36:(List Edg))=>bnd (rng (ρ:=Ctl (List Edg) (List Edg)) (fun (k70:Nat) (_:Opr) (s68:(List Edg))=>bnd (Cz t a39 (k70:Int)) fun q85=>if q85.2=true then (bnd (DB t.vars q85.1) fun q99=>bnd (appI 24 s68 [(⟨(k38:Int),(k70:Int),q99⟩:Edg)]) fun u107=>some (.next u107)) else (some (.next s68))) t.ops 0 s36) fun res66=>fin res66 fun (s123:(List Edg))=>some (.next s123)) (xs:=statesL t.vars) (s₀:=[])
    (fun n acc=>acc.length≤n * 80∧∀ e,e∈acc↔EdgeOk t e∧e.src < (n:Int)) ⟨by simp,fun e=>⟨fun he=>by simp at he,fun ⟨⟨i,_,_,_,_,hE,_⟩,hlt⟩=>by subst hE;simp only at hlt;omega⟩⟩ (fun n s acc hn hI=>by
      obtain ⟨i1,i2⟩:=hI
      have hnlt:=AE hn
      have hs:StateOk t.vars s:=Fc.1 (List.mem_of_getElem? hn)
      obtain ⟨es,g1,g2,g3⟩:=CS (ρ:=Ctl (List Edg) (List Edg)) (f:=fun (k70:Nat) (_:Opr) (s68:(List Edg))=>bnd (Cz t s (k70:Int)) fun q85=>if q85.2=true then (bnd (DB t.vars q85.1) fun q99=>bnd (appI 24 s68 [(⟨(n:Int),(k70:Int),q99⟩:Edg)]) fun u107=>some (.next u107)) else (some (.next s68))) (xs:=t.ops) (s₀:=acc)
        (fun m acc'=>acc'.length≤n * 80 + m∧∀ e,e∈acc'↔EdgeOk t e∧(e.src < (n:Int)∨e.src=(n:Int)∧e.op < (m:Int))) ⟨by omega,fun e=>by
          rw [i2]
          constructor
          · rintro ⟨a,b⟩;exact ⟨a,.inl b⟩
          · rintro ⟨a,b|⟨b,c⟩⟩
            · exact ⟨a,b⟩
            · obtain ⟨i,k,j,s',o,rfl,_⟩:=a
              simp at c;omega⟩ (fun m o acc' hm hI=>by
          obtain ⟨j1,j2⟩:=hI
          have hmlt:=AE hm
          rw [KB h.ok hs hm,Am]
          by_cases hp:holdsB o.pre s=true
          · obtain ⟨r,hr,hr2⟩:=Kk h (ET h.ok hs hm)
            rw [if_pos hp,Bo,hr,Am,Cq (by simp;omega) (by simp;omega),Am]
            refine ⟨_,rfl,by simp;omega,fun e=>?_⟩
            rw [List.mem_append,j2]
            constructor
            · rintro (⟨a,b⟩|hmem)
              · refine ⟨a,?_⟩
                rcases b with b|⟨b,c⟩
                · exact .inl b
                · exact .inr ⟨b,by omega⟩
              · obtain rfl:e=⟨(n:Int),(m:Int),(r:Int)⟩:=by simpa using hmem
                exact ⟨⟨n,m,r,s,o,rfl,hn,hm,hp,hr2⟩,.inr ⟨rfl,by simp;omega⟩⟩
            · rintro ⟨a,b⟩
              obtain ⟨i,k,j,s',o',rfl,a1,a2,a3,a4⟩:=a
              simp only at b
              by_cases hc:i=n∧k=m
              · obtain ⟨rfl,rfl⟩:=hc
                obtain rfl:s'=s:=by rw [hn] at a1;exact (Option.some.inj a1).symm
                obtain rfl:o'=o:=by rw [hm] at a2;exact (Option.some.inj a2).symm
                obtain rfl:=uniq a4 hr2
                exact .inr (by simp)
              · exact .inl ⟨⟨i,k,j,s',o',rfl,a1,a2,a3,a4⟩,by simp only;omega⟩
          · rw [if_neg hp]
            refine ⟨_,if_neg (by simp),by omega,fun e=>?_⟩
            rw [j2]
            constructor
            · rintro ⟨a,b⟩
              refine ⟨a,?_⟩
              rcases b with b|⟨b,c⟩
              · exact .inl b
              · exact .inr ⟨b,by omega⟩
            · rintro ⟨a,b⟩
              obtain ⟨i,k,j,s',o',rfl,a1,a2,a3,a4⟩:=a
              simp only at b
              by_cases hc:i=n∧k=m
              · obtain ⟨rfl,rfl⟩:=hc
                obtain rfl:s'=s:=by rw [hn] at a1;exact (Option.some.inj a1).symm
                obtain rfl:o'=o:=by rw [hm] at a2;exact (Option.some.inj a2).symm
                exact absurd a3 hp
              · exact ⟨⟨i,k,j,s',o',rfl,a1,a2,a3,a4⟩,by simp only;omega⟩)
      rw [g1,Am,BI]
      refine ⟨_,rfl,by omega,fun e=>?_⟩
      rw [g3]
      constructor
      · rintro ⟨a,b⟩
        exact ⟨a,by rcases b with b|⟨b,_⟩<;>omega⟩
      · rintro ⟨a,b⟩
        refine ⟨a,?_⟩
        obtain ⟨i,k,j,s',o',rfl,a1,a2,a3,a4⟩:=a
        simp only at b ⊢
        have:=AE a2
        omega)
  refine ⟨es,by rw [h1,Am,BI],fun e=>?_⟩
  rw [h3]
  refine ⟨fun a=>a.1,fun a=>⟨a,?_⟩⟩
  obtain ⟨i,k,j,s',o',rfl,a1,a2,a3,a4⟩:=a
  have:=AE a1
  simp only;omega
end
section
open Go Go.RowKit
section
attribute [local irreducible] ewp owp hwp hwq hws Ev Evg Fn retPost loud loudS Res1
noncomputable def BJ (x0:Option Gnr) (x1:List Int):Option (List Suc) :=
  bnd (CY x0 x1) fun q7=>bnd (rng (ρ:=(List Suc)) (fun (k23:Nat) (a24:Int) (s21:(List Suc))=>bnd (Cv x1) fun q46=>bnd (x0) fun o56=>bnd (atI o56.t.ops a24) fun a88=>bnd (rng (ρ:=Ctl (List Suc) (List Suc)) (fun (k115:Nat) (a116:Eff) (s113:(List Int))=>bnd (Eh a116.cond x1) fun q150=>if q150=true then bnd (atI s113 a116.var) fun a157=>some (.next (s113.set (a116.var:Int).toNat a116.val)) else some (.next s113)) a88.effs 0 q46) fun res111=>fin res111 fun (s175:(List Int))=>bnd (appI 32 s21 [(⟨a24,s175⟩:Suc)]) fun u179=>some (.next u179)) q7 0 ([]:List Suc)) fun res19=>fin res19 fun (s195:(List Suc))=>some s195
theorem FB {w:World} {A:Nat→Prop} (hA:∀ k,A k→k < w.heap.size) {vx0:Value} {x0:Option Gnr} (h0:Vb w A vx0 x0) {vx1:Value} {x1:List Int} (g0:Vb w A vx1 x1) {r:(List Suc)} (hm:BJ x0 x1=some r) :
    Fn Tryz.prog 30 [vx0,vx1] w fun v w'=>Ext w w'∧Vb w' (upA A w w') v r:=by
 obtain ⟨O,hB,k3⟩:=enter hA
 replace h0:=h0.mono k3
 obtain ⟨p3,rfl,s3⟩:=h0.ptr
 replace g0:=g0.mono k3
 obtain ⟨A5,c6,rfl⟩:=g0.form
 refine AK Tryz.func30 rfl Tryz.ntmps30 rfl ?_
 unfold BJ at hm
 refine Al (Aj (Au rfl rfl (o_z ?_)))
 refine Al (Aj (Au rfl rfl (o_z ?_)))
 refine Al (Al (Aj (Ar rfl rfl (Ar rfl rfl ?_))))
 obtain ⟨q7,e8,hm⟩:=bs hm
 refine Ic 2 (by decide) (O:=O) (FA Fr.lt h0 g0 e8) rfl rfl fun e1 f1 w9 t3 b2 m0=>?_
 refine AZ rfl rfl ?_
 have e2:q7.length≤9223372036854775807:=Nat.le_trans m0.len.2.1 m0.len.2.2
 have q5:inI64 (q7.length:Int):=rngNat e2
 refine Ar rfl rfl (o_z ?_)
 obtain ⟨h1,f2,hm⟩:=bs hm
 refine AJ (aft h1 (fun (n0:(List Suc)) (i0:(Option Addr×Nat))=>[(5,(.slice i0.1 n0.length i0.2))]) (fun n0 i0 w'=>∃ O':Lab,Bs w A w' O'∧Rw 5 w' O' 85 (.slice i0.1 n0.length i0.2) n0)) ?_ ?_
 ·
  refine AU ?_
  replace hB:=hB.st b2
  replace h0:=h0.st b2
  replace g0:=g0.st b2
  refine Bt (σ:=(List Suc)) (X:=(Option Addr×Nat)) (q7.length) f2 rfl e2 (fun (n0:(List Suc)) (i0:(Option Addr×Nat))=>[(0,(.pointer p3)),(1,(.slice A5 x1.length c6)),(5,(.slice i0.1 n0.length i0.2)),(13,(.slice e1 q7.length f1))]) _ (fun n0 i0 w'=>∃ O':Lab,Bs w A w' O'∧Vb w' (Fr 0 w' O') (.pointer p3) x0∧Vb w' (Fr 0 w' O') (.slice A5 x1.length c6) x1∧Rw 5 w' O' 85 (.slice i0.1 n0.length i0.2) n0∧Rw 2 w' O' 3 (.slice e1 q7.length f1) q7) _ (none,0) ⟨t3,hB,h0,g0,(Rw.nil 5 (by decide)),m0⟩ ⟨rfl,rfl,rfl,rfl,rfl,rfl,trivial⟩ (fun _ _=>⟨rfl,rfl⟩) (fun _ _=>⟨rfl,trivial⟩) (fun _ _ _ ⟨O',hB,h0,g0,j0,m0⟩=>⟨O',hB,j0⟩) ⟨rfl,rfl,rfl⟩ ⟨rfl,rfl⟩ ?_
  rintro g2 i1 n0 i0 r5 u3 j1 ⟨v3,hB,h0,g0,j0,m0⟩ e0 h2 i2
  have rk23:inI64 (g2:Int):=rngK j1 e2
  refine Al (Aj ?_)
  obtain ⟨s5,t5,w3,j2,k2,l2,rfl,x3⟩:=m0.elem j1
  refine Br (hA:=j2) (hj:=rfl) (hlt:=k2) rfl rfl rfl ?_
  refine AG (hc:=cat0 l2) rfl rfl ?_
  refine Au rfl rfl (o_z ?_)
  refine Al (Aj (Ar rfl rfl ?_))
  obtain ⟨k1,y3,e0⟩:=bs e0
  refine Ic 3 (by decide) (O:=v3) (EU Fr.lt g0 y3) rfl rfl fun l1 m1 u5 z3 r0 a4=>?_
  refine Au rfl rfl (o_z ?_)
  refine Al (Al (Aj (Ar rfl rfl ?_)))
  obtain ⟨v5,l3,e0⟩:=bs e0
  obtain ⟨ad59,m2⟩:=Kg (s3.trans (by rw [l3];rfl))
  refine Rv (hA:=m2) rfl rfl ?_
  replace h0:=h0.st r0
  obtain ⟨w5,x5,y5,z5,a6,b6,n2,b4,o2,c4,d4,e4,m3⟩:=OP h0 l3
  obtain ⟨d6,e6,rfl⟩:=c4.form
  obtain ⟨f6,g6,rfl⟩:=d4.form
  obtain ⟨h6,i6,rfl⟩:=e4.form
  obtain ⟨j6,k6,rfl⟩:=m3.form
  refine Ru (hA:=n2) rfl rfl ?_
  refine AL rfl rfl (AG (hc:=cat3 o2) rfl rfl ?_)
  refine Ar rfl rfl ?_
  obtain ⟨g1,f4,e0⟩:=bs e0
  obtain ⟨g4,h4⟩:=AV f4
  obtain ⟨l6,m6,i4,p2,q2,r2,n6,j4,rfl,s2,k0,k4,l4⟩:=m3.elem' h4
  obtain ⟨m4,n4,rfl⟩:=s2.form
  obtain ⟨n1,o1,rfl⟩:=k0.form
  refine Br (hA:=p2) (hj:=(Int.toNat_of_nonneg g4).symm) (hlt:=q2) rfl rfl rfl ?_
  refine AL rfl rfl (AG (hc:=cat3 r2) rfl rfl ?_)
  refine AZ rfl rfl ?_
  have b1:g1.effs.length≤9223372036854775807:=Nat.le_trans k0.len.2.1 k0.len.2.2
  have o4:inI64 (g1.effs.length:Int):=rngNat b1
  refine Ar rfl rfl (o_z ?_)
  obtain ⟨c1,p1,e0⟩:=bs e0
  refine AJ (aft c1 (fun (o0:(List Int)) (s0:Unit)=>[(0,(.pointer p3)),(1,(.slice A5 x1.length c6)),(5,(.slice i0.1 n0.length i0.2)),(7,(.int .i64 i1)),(8,(.slice l1 k1.length m1)),(13,(.slice e1 q7.length f1)),(14,(.int .i64 (q7.length:Int))),(15,(.int .i64 (g2:Int)))]) (fun o0 s0 w'=>∃ O':Lab,Bs w A w' O'∧Vb w' (Fr 0 w' O') (.pointer p3) x0∧Vb w' (Fr 0 w' O') (.slice A5 x1.length c6) x1∧Rw 5 w' O' 85 (.slice i0.1 n0.length i0.2) n0∧Rw 3 w' O' 3 (.slice l1 k1.length m1) o0∧Rw 2 w' O' 3 (.slice e1 q7.length f1) q7)) ?_ ?_
  ·
   refine AU ?_
   replace hB:=hB.st r0
   replace g0:=g0.st r0
   replace m0:=m0.st r0
   replace j0:=j0.st r0
   refine Bt (σ:=(List Int)) (X:=Unit) (g1.effs.length) p1 rfl b1 (fun (o0:(List Int)) (s0:Unit)=>[(0,(.pointer p3)),(1,(.slice A5 x1.length c6)),(5,(.slice i0.1 n0.length i0.2)),(7,(.int .i64 i1)),(8,(.slice l1 k1.length m1)),(13,(.slice e1 q7.length f1)),(14,(.int .i64 (q7.length:Int))),(15,(.int .i64 (g2:Int))),(29,(.slice n1 g1.effs.length o1))]) _ (fun o0 s0 w'=>∃ O':Lab,Bs w A w' O'∧Vb w' (Fr 0 w' O') (.pointer p3) x0∧Vb w' (Fr 0 w' O') (.slice A5 x1.length c6) x1∧Rw 5 w' O' 85 (.slice i0.1 n0.length i0.2) n0∧Rw 3 w' O' 3 (.slice l1 k1.length m1) o0∧Rw 2 w' O' 3 (.slice e1 q7.length f1) q7∧Vb w' (Fr 0 w' O') (.slice n1 g1.effs.length o1) g1.effs) _ () ⟨z3,hB,h0,g0,j0,a4,m0,k0⟩ ⟨rfl,rfl,rfl,rfl,rfl,rfl,rfl,rfl,rfl,rfl,rfl,trivial⟩ (fun _ _=>⟨rfl,rfl⟩) (fun _ _=>⟨rfl,rfl,rfl,rfl,rfl,rfl,rfl,rfl,trivial⟩) (fun _ _ _ ⟨O',hB,h0,g0,j0,f0,m0,k0⟩=>⟨O',hB,h0,g0,j0,f0,m0⟩) ⟨rfl,rfl,rfl⟩ ⟨rfl,rfl⟩ ?_
   rintro t2 t0 o0 s0 p4 n3 z0 ⟨u2,hB,h0,g0,j0,f0,m0,k0⟩ a0 c2 d2
   have rk115:inI64 (t2:Int):=rngK z0 b1
   refine Al (Aj ?_)
   obtain ⟨q4,r4,o3,q1,r1,s1,s4,rfl,u0,t4,v2⟩:=k0.elem' z0
   obtain ⟨w2,x2,rfl⟩:=u0.form
   refine Br (hA:=q1) (hj:=rfl) (hlt:=r1) rfl rfl rfl ?_
   refine Bl (hl:=rfl) (hc:=s1) rfl rfl ?_
   refine Bi 4 u2 rfl fun y2 u4 v0 c0 l0=>?_
   refine Ba l0 rfl rfl rfl (Bk rfl) (allOne rfl) fun w0 d0 l0=>?_
   replace l0:Lc 4 w0 v0 y2 47 [(.slice w2 t0.cond.length x2),(.int .i64 t0.var),(.int .i64 t0.val)]:=l0
   refine o_z ?_
   refine Al (Aj (AL rfl rfl (AG (hc:=Blk.cell (i:=0) (l0.1) rfl) rfl rfl ?_)))
   refine Ar rfl rfl ?_
   obtain ⟨t1,z2,a0⟩:=bs a0
   replace g0:=(g0.st c0).st d0
   replace u0:=(u0.st c0).st d0
   refine Bg (O:=v0) (A:=All w0) (R:=fun w' F v=>Vb w' F v t1) (Id (fun _ h=>h) (Vb.mono (F:=Fr 0 w0 v0) u0 Fr.lt) (Vb.mono (F:=Fr 0 w0 v0) g0 Fr.lt) z2) rfl rfl fun v4 w4 x4 b0 a3=>?_
   obtain rfl:=a3.bool
   cases t1
   case false =>
    replace a0:=iF a0
    refine o_z ?_
    refine Ae rfl (AN ?_)
    obtain rfl:=sm a0
    exact show Exists _ from ⟨_,(),rfl,⟨rfl,rfl,rfl,rfl,rfl,rfl,rfl,rfl,rfl,rfl,rfl,trivial⟩,_,((hB.st c0).st d0).st b0,((h0.st c0).st d0).st b0,g0.st b0,((j0.st c0).st d0).st b0,((f0.st c0).st d0).st b0,((m0.st c0).st d0).st b0,((k0.st c0).st d0).st b0⟩
   replace a0:=iT a0
   refine o_z ?_
   refine Ah rfl (Aj (Ar rfl rfl (AL rfl rfl ?_)))
   replace l0:=l0.st b0
   refine AG (hc:=Blk.cell (i:=1) (l0.1) rfl) rfl rfl ?_
   refine AL rfl rfl (AG (hc:=Blk.cell (i:=2) (l0.1) rfl) rfl rfl ?_)
   obtain ⟨y4,b3,a0⟩:=bs a0
   obtain ⟨c3,u1⟩:=AV b3
   replace f0:=((f0.st c0).st d0).st b0
   obtain ⟨z4,a5,q3,a1,v1,r3,rfl,b5⟩:=f0.elem u1
   refine Br (hA:=a1) (hj:=(Int.toNat_of_nonneg c3).symm) (hlt:=v1) rfl rfl rfl ?_
   refine Di rfl f0 (a:=t0.val) (vInt v2) a1 rfl rfl (AE u1) fun c5 p0 f0=>?_
   refine o_z ?_
   obtain rfl:=sm a0
   exact show Exists _ from ⟨_,(),rfl,⟨rfl,rfl,rfl,rfl,rfl,rfl,rfl,rfl,rfl,rfl,rfl,trivial⟩,_,(((hB.st c0).st d0).st b0).st p0,(((h0.st c0).st d0).st b0).st p0,(g0.st b0).st p0,(((j0.st c0).st d0).st b0).st p0,f0,(((m0.st c0).st d0).st b0).st p0,(((k0.st c0).st d0).st b0).st p0⟩
  replace hB:=hB.st r0
  replace g0:=g0.st r0
  replace m0:=m0.st r0
  replace j0:=j0.st r0
  rintro d5 e5 ⟨w1,f5,rfl,y1,g5,hB,h0,g0,j0,f0,m0⟩
  replace e0:=Be e0
  refine AP _ y1 ?_
  refine Aj (Ar rfl rfl (Ar rfl rfl (Ar rfl rfl (Df rfl rfl rfl ?_))))
  obtain ⟨h5,q0,f0⟩:=f0.freeze
  obtain ⟨i5,d1,e0⟩:=bs e0
  obtain ⟨d1,d3,e3⟩:=Cf d1
  replace j0:=j0.st q0
  refine Dh rfl (a:=(⟨i1,w1⟩:Suc)) j0 (Vb.ofAgg (cs:=[(.int .i64 i1),(.slice l1 k1.length m1)]) (x:=(⟨i1,w1⟩:Suc)) rfl ⟨_,rfl,f0,x3⟩) (fun _=>rfl) rfl (by decide) (by decide) d3 e3 ⟨rfl,rfl⟩ fun j5 f3 g3 k5 l5 y0 z1=>?_
  rw [← d1] at z1 ⊢
  refine Au rfl rfl (o_z ?_)
  obtain rfl:=sm e0
  exact show Exists _ from ⟨_,(f3,g3),rfl,⟨rfl,rfl,rfl,rfl,rfl,rfl,trivial⟩,_,(hB.st q0).st y0,(h0.st q0).st y0,(g0.st q0).st y0,z1,(m0.st q0).st y0⟩
 replace hB:=hB.st b2
 rintro m5 h3 ⟨n5,o5,rfl,a2,p5,hB,j0⟩
 replace hm:=Be hm
 refine AP _ a2 ?_
 refine Al (Aj (Ar rfl rfl (Au rfl rfl (o_z ?_))))
 refine AH ?_
 obtain ⟨i3,j3,j0⟩:=j0.freeze
 obtain rfl:=sm hm
 replace hB:=hB.st j3
 exact ret1v rfl (AD rfl) ⟨hB.ext,(Vb.mono (F:=Fr 0 h3 i3) j0 hB.out)⟩
end
theorem OW {s:List Int} (hl:s.length≤1000000):Cv s=some s:=if_pos ⟨by omega,by omega⟩
theorem PX {t:Tsk} {s:List Int} (hok:TaskOk t) (hl:s.length≤1000000):BJ (some ⟨t⟩) s=some ((appS t s).map (sucOf t s)):=by
  have ha:CY (some ⟨t⟩) s=some (appS t s):=if_pos hl
  have hol:=hok.2.1
  have hal:=OO t s
  unfold BJ
  rw [ha,Am]
  rw [DZ (fun k=>((appS t s).take k).map (sucOf t s)) ?_ ?_,Am,BI,List.take_length]
  · rfl
  intro k x hk
  have hkl:=AE hk
  obtain ⟨hst,hmem⟩:=ON (List.mem_of_getElem? hk)
  obtain ⟨j,o,rfl,hj,hp⟩:=LG hmem
  rw [OW hl,Am,Am,Bh,hj,Am,LI (hok.effs hst j o hj) Eh (fun _ _=>rfl) s rfl,Am,BI,Cq (by simp;omega) (by simp;omega),Am,List.take_add_one,hk,List.map_append]
  simp [sucOf,hj,succ]
theorem QZ {t:Tsk} (h:TaskOk t):Ez t=some (some ⟨t⟩,⟨0⟩):=by unfold Ez;rw [Bf h,Bo,DE.2 h]
end
section
open Go Go.RowKit
attribute [local irreducible] ewp owp hwp hwq hws Ev Evg Fn retPost loud loudS Res1
structure Rsl where
  verdict:Int
  plan:List Int
  cost:Int
  expanded:Int
instance:Rp Rsl where
  isAgg:=true
  size:=4
  R w F cs x:=∃ v0,cs=[.int .i64 x.verdict,v0,.int .i64 x.cost,.int .i64 x.expanded]∧Vb w F v0 x.plan∧inI64 x.verdict∧inI64 x.cost∧inI64 x.expanded
  len:=by rintro w F cs x ⟨v0,rfl,h0,h1,h2,h3⟩;rfl
  one:=by rintro w F cs x ⟨v0,rfl,h0,h1,h2,h3⟩ u hu;simp at hu;rcases hu with rfl|rfl|rfl|rfl<;>first|rfl|exact Vb.one rfl (by assumption)
  agree:=by rintro w w' F cs x ⟨v0,rfl,h0,h1,h2,h3⟩ ha;exact ⟨v0,rfl,h0.agree ha,h1,h2,h3⟩
  mono:=by rintro w F G cs x ⟨v0,rfl,h0,h1,h2,h3⟩ ha;exact ⟨v0,rfl,h0.mono ha,h1,h2,h3⟩
end
section
open Go Go.RowKit
attribute [local irreducible] ewp owp hwp hwq hws Ev Evg Fn retPost loud loudS Res1
attribute [local irreducible] hwx loudX
noncomputable def Ck (x0:List Int):Option (List Int) :=
  bnd (chkI ((x0.length:Int) - 1)) fun n4=>bnd (lop (ρ:=(List Int)) (fun (s9:(List Int)×Int×Int)=>if s9.2.1 < s9.2.2 then (bnd (atI s9.1 s9.2.2) fun a31=>bnd (atI s9.1 s9.2.1) fun a43=>bnd (atI s9.1 s9.2.1) fun a55=>bnd (atI (s9.1.set (s9.2.1:Int).toNat a31) s9.2.2) fun a69=>bnd (chkI (s9.2.1 + 1)) fun n83=>bnd (chkI (s9.2.2 - 1)) fun n86=>some (.next (((s9.1.set (s9.2.1:Int).toNat a31).set (s9.2.2:Int).toNat a43),n83,n86))) else (some (.brk (s9.1,s9.2.1,s9.2.2)))) (x0,0,n4)) fun res7=>fin res7 fun (s93:(List Int)×Int×Int)=>some s93.1
theorem Gs {w:World} {O:Lab} {A0:Option Addr} {m0 c0 i0:Nat} {x0:List Int} (d0:Rw i0 w O 3 (.slice A0 m0 c0) x0) {r:(List Int)} (hm:Ck x0=some r) :
    Fn Tryz.prog 61 [(.slice A0 m0 c0)] w fun v w'=>∃ O',St (eT i0) w O w' O'∧Rw i0 w' O' 3 (.slice A0 m0 c0) r:=by
 obtain ⟨O0,hE,f1,g1⟩:=ent1 (w:=w) (O:=O) d0.2.2
 obtain rfl:m0=x0.length:=d0.len.1
 have d0':=Rw.leave d0 f1 g1 (j:=2) (by decide)
 have hB:Bm w O0 w O0:=Bm.refl
 refine AK Tryz.func61 rfl Tryz.ntmps61 rfl ?_
 unfold Ck at hm
 refine Al (Aj (Ar rfl rfl (AZ rfl rfl ?_)))
 have l3:x0.length≤9223372036854775807:=Nat.le_trans d0'.len.2.1 d0'.len.2.2
 have r2:inI64 (x0.length:Int):=rngNat l3
 obtain ⟨n4,e5,hm⟩:=bs hm
 have r6:=(BW e5)
 refine Hu (he:=e5) rfl rfl rfl ?_
 refine Au rfl rfl (Au rfl rfl (o_z ?_))
 obtain ⟨j0,h1,hm⟩:=bs hm
 refine AJ (aft j0 (fun (s9:(List Int)×Int×Int) (h0:Unit)=>[(0,(.slice A0 x0.length c0))]) (fun s9 h0 w'=>∃ O':Lab,Bm w O0 w' O'∧Rw 2 w' O' 3 (.slice A0 x0.length c0) s9.1∧inI64 s9.2.1∧inI64 s9.2.2)) ?_ ?_
 ·
  refine AU (FI (σ:=(List Int)×Int×Int) (X:=Unit) h1 (fun (s9:(List Int)×Int×Int) (h0:Unit)=>[(0,(.slice A0 x0.length c0)),(2,(.int .i64 s9.2.1)),(3,(.int .i64 s9.2.2))]) _ (fun s9 h0 w'=>∃ O':Lab,Bm w O0 w' O'∧Rw 2 w' O' 3 (.slice A0 x0.length c0) s9.1∧inI64 s9.2.1∧inI64 s9.2.2) _ () ⟨O0,hB,d0',(show inI64 (0) from by decide),r6⟩ ⟨rfl,rfl,rfl,trivial⟩ ?_)
  rintro s9 h0 k2 i1 ⟨j1,hB,b0,y0,z0⟩ a0 k0 e0
  refine Al (Al (Aj (Ar rfl rfl (Ar rfl rfl (DK rfl rfl rfl (fun l0=>?_) fun l0=>?_)))))
  ·
   replace a0:=ip a0 l0
   refine o_z ?_
   refine Ah rfl (AN (Al (AU (Bu [(13,[2])] j1 ?_))))
   refine AR (fuel:=5) [] [(0,true),(1,true),(4,true),(5,true),(6,true),(7,true),(8,true),(9,true),(10,true),(11,true),(12,true)] (by kernel_rfl) rfl ?_
   refine AM rfl rfl rfl (AM rfl rfl rfl (AM rfl rfl rfl (AM rfl rfl rfl ?_)))
   obtain ⟨k1,l1,a0⟩:=bs a0
   obtain ⟨m1,n1⟩:=AV l1
   obtain ⟨l2,m2,o1,n0,o0,p0,q0,rfl,p1⟩:=b0.elemF n1
   refine BB (hA:=n0) (hj:=(Int.toNat_of_nonneg m1).symm) (hlt:=p0) rfl rfl rfl rfl ?_
   refine AW (hc:=fun w' ⟨O',hq⟩=>cat0 (AX (hq.agree (i:=2) (by decide)) o0 q0)) rfl rfl rfl ?_
   refine AM rfl rfl rfl (AM rfl rfl rfl ?_)
   obtain ⟨q1,r1,a0⟩:=bs a0
   obtain ⟨s1,t1⟩:=AV r1
   obtain ⟨n2,o2,u1,r0,s0,t0,u0,rfl,v1⟩:=b0.elemF t1
   refine BB (hA:=r0) (hj:=(Int.toNat_of_nonneg s1).symm) (hlt:=t0) rfl rfl rfl rfl ?_
   refine AW (hc:=fun w' ⟨O',hq⟩=>cat0 (AX (hq.agree (i:=2) (by decide)) s0 u0)) rfl rfl rfl ?_
   obtain ⟨p2,w1,a0⟩:=bs a0
   obtain ⟨x1,a1⟩:=AV w1
   obtain ⟨q2,s2,y1,f0,z1,v0,a2,rfl,t2⟩:=b0.elemF a1
   refine BB (hA:=f0) (hj:=(Int.toNat_of_nonneg x1).symm) (hlt:=v0) rfl rfl rfl rfl ?_
   refine AC ?_
   refine AR (fuel:=3) [2] [(2,true),(3,true)] (by kernel_rfl) rfl ?_
   refine AM rfl rfl rfl (AM rfl rfl rfl (AC ?_))
   refine AO (i:=13) (by kernel_rfl) rfl ?_
   refine Di rfl b0 (a:=k1) (vInt p1) f0 rfl rfl (AE a1) fun u2 b1 b0=>?_
   have hZ:=b1.lst [2] (fun _ h=>by cases h;decide)
   refine AT [] hZ (by kernel_rfl) ?_
   refine AR (fuel:=1) [] [(14,true)] (by kernel_rfl) rfl ?_
   obtain ⟨v2,b2,a0⟩:=bs a0
   obtain ⟨c2,c1⟩:=AV b2
   obtain ⟨w2,x2,d2,g0,e2,w0,f2,rfl,y2⟩:=b0.elemF c1
   refine BB (hA:=g0) (hj:=(Int.toNat_of_nonneg c2).symm) (hlt:=w0) rfl rfl rfl rfl ?_
   refine AC ?_
   refine AO (i:=15) (by kernel_rfl) rfl ?_
   refine Di rfl b0 (a:=q1) (vInt v1) g0 rfl rfl (AE c1) fun z2 g2 b0=>?_
   refine Cg (by kernel_rfl) ?_
   refine Bn (by kernel_rfl) ?_
   refine Aj (Ar rfl rfl ?_)
   obtain ⟨a3,d1,a0⟩:=bs a0
   have h2:=(BW d1)
   refine FT (he:=d1) rfl rfl rfl ?_
   refine Ar rfl rfl ?_
   obtain ⟨b3,e1,a0⟩:=bs a0
   have i2:=(BW e1)
   refine Hu (he:=e1) rfl rfl rfl ?_
   refine Au rfl rfl (Au rfl rfl (o_z ?_))
   obtain rfl:=sm a0
   exact show Exists _ from ⟨_,(),rfl,⟨rfl,rfl,rfl,trivial⟩,_,(hB.st b1).st g2,b0,h2,i2⟩
  replace a0:=im a0 l0
  refine o_z ?_
  refine Ae rfl (DC ?_)
  obtain rfl:=sm a0
  exact show Exists _ from ⟨_,(),e0 _ rfl,⟨rfl,trivial⟩,_,hB,b0,y0,z0⟩
 rintro c3 d3 ⟨e3,f3,rfl,j2,g3,hB,b0,y0,z0⟩
 replace hm:=Be hm
 obtain rfl:=sm hm
 obtain ⟨O',hS',hz,hl⟩:=hE.leave (fun q=>if q=2 then i0 else 0) rfl hB
 exact ret0n rfl  ⟨O',hS',(Rw.leave b0 hz (hl 2 (by decide) (by decide)) d0.2.2)⟩
end
section
open Go Go.RowKit
attribute [local irreducible] ewp owp hwp hwq hws Ev Evg Fn retPost loud loudS Res1
attribute [local irreducible] hwx loudX
structure ONd where
  state:List Int
  cost:Int
  parent:Int
  op:Int
  used:List Int
  fin:Bool
instance:Rp ONd where
  isAgg:=true
  size:=6
  R w F cs x:=∃ v0 v1,cs=[v0,.int .i64 x.cost,.int .i64 x.parent,.int .i64 x.op,v1,.bool x.fin]∧Vb w F v0 x.state∧Vb w F v1 x.used∧inI64 x.cost∧inI64 x.parent∧inI64 x.op
  len:=by rintro w F cs x ⟨v0,v1,rfl,h0,h1,h2,h3,h4⟩;rfl
  one:=by rintro w F cs x ⟨v0,v1,rfl,h0,h1,h2,h3,h4⟩ u hu;simp at hu;rcases hu with rfl|rfl|rfl|rfl|rfl|rfl<;>first|rfl|exact Vb.one rfl (by assumption)
  agree:=by rintro w w' F cs x ⟨v0,v1,rfl,h0,h1,h2,h3,h4⟩ ha;exact ⟨v0,v1,rfl,h0.agree ha,h1.agree ha,h2,h3,h4⟩
  mono:=by rintro w F G cs x ⟨v0,v1,rfl,h0,h1,h2,h3,h4⟩ ha;exact ⟨v0,v1,rfl,h0.mono ha,h1.mono ha,h2,h3,h4⟩
structure Ors where
  t:Tsk
  gens:List Swp
  nodes:List ONd
  tab:MapP ByteArray Int
  open_ : List OEn
  number:Int
instance:Ow Ors where
  R w F M v x:=∃ (g:Nat) (L:Lab) (c0 c1 c2 c3 c4 c5 c6 c7:Value),v=.pointer (some ⟨g,0,none⟩)∧Blk w g 69 [c0,c1,c2,c3,c4,c5,c6,c7,.int .i64 x.number]∧M g∧L g=0∧Vb w F c0 x.t.vars∧Vb w F c1 x.t.init∧Vb w F c2 x.t.goal∧Vb w F c3 x.t.ops∧Vb w F c4 x.gens∧RwM w F (fun k=>M k∧L k=1) 78 c5 x.nodes∧Ow.R w F (fun k=>M k∧L k=2) c6 x.tab∧RwM w F (fun k=>M k∧L k=3) 73 c7 x.open_∧inI64 x.number
  agree:=by rintro w w' F M v x ⟨g,L,c0,c1,c2,c3,c4,c5,c6,c7,rfl,hb,hM,hL,h0,h1,h2,h3,h4,h5,h6,h7,h8⟩ a1 a2;exact ⟨g,L,c0,c1,c2,c3,c4,c5,c6,c7,rfl,hb.keep (a2 g hM),hM,hL,h0.agree a1,h1.agree a1,h2.agree a1,h3.agree a1,h4.agree a1,h5.agree a1 fun k hk=>a2 k hk.1,Ow.agree h6 a1 fun k hk=>a2 k hk.1,h7.agree a1 fun k hk=>a2 k hk.1,h8⟩
  mono:=by rintro w F M F' M' v x ⟨g,L,c0,c1,c2,c3,c4,c5,c6,c7,rfl,hb,hM,hL,h0,h1,h2,h3,h4,h5,h6,h7,h8⟩ a1 a2 a3;exact ⟨g,L,c0,c1,c2,c3,c4,c5,c6,c7,rfl,hb,a2 g hM,hL,h0.mono a1,h1.mono a1,h2.mono a1,h3.mono a1,h4.mono a1,h5.mono a1 (fun k hk=>⟨a2 k hk.1,hk.2⟩) fun k hf hm=>a3 k hf hm.1,Ow.mono h6 a1 (fun k hk=>⟨a2 k hk.1,hk.2⟩) fun k hf hm=>a3 k hf hm.1,h7.mono a1 (fun k hk=>⟨a2 k hk.1,hk.2⟩) fun k hf hm=>a3 k hf hm.1,h8⟩
theorem Ors.opn {i:Nat} {w:World} {O:Lab} {p:Nat} {x:Ors} (h:Ob i w O (.pointer (some ⟨p,0,none⟩)) x) (l0 l1 l2 l3:Nat) (hl:l0≠0∧l1≠0∧l2≠0∧l3≠0):∃ (O':Lab) (c0 c1 c2 c3 c4 c5 c6 c7:Value),St (eT i) w O w O'∧(∀ k,Fr i w O k→∃ q,q∈[l0,l1,l2,l3]∧Fr q w O' k)∧Lc l0 w O' p 69 [c0,c1,c2,c3,c4,c5,c6,c7,.int .i64 x.number]∧Vb w (Fr 0 w O') c0 x.t.vars∧Vb w (Fr 0 w O') c1 x.t.init∧Vb w (Fr 0 w O') c2 x.t.goal∧Vb w (Fr 0 w O') c3 x.t.ops∧Vb w (Fr 0 w O') c4 x.gens∧Rw l1 w O' 78 c5 x.nodes∧Ob l2 w O' c6 x.tab∧Rw l3 w O' 73 c7 x.open_∧inI64 x.number:=by
  obtain ⟨⟨g,L,c0,c1,c2,c3,c4,c5,c6,c7,hv,hb,hM,hL,h0,h1,h2,h3,h4,h5,h6,h7,h8⟩,hi⟩:=h
  obtain rfl:p=g:=by injection hv with hv;injection hv with hv;injection hv
  exact ⟨part O i L [l0,l1,l2,l3],c0,c1,c2,c3,c4,c5,c6,c7,MA hi,Lr (by simp),⟨hb,(Gv (j:=0) rfl p ⟨hM,hL⟩).2⟩,h0.mono (Er hi),h1.mono (Er hi),h2.mono (Er hi),h3.mono (Er hi),h4.mono (Er hi),h5.rw (Er hi) (Gv (j:=1) rfl) hl.2.1,⟨Ow.mono h6 (Er hi) (Gv (j:=2) rfl) (frNe0 hl.2.2.1),hl.2.2.1⟩,h7.rw (Er hi) (Gv (j:=3) rfl) hl.2.2.2,h8⟩
theorem Ors.shut {w:World} {O:Lab} {p:Nat} {x:Ors} {l0 l1 l2 l3:Nat} {c0 c1 c2 c3 c4 c5 c6 c7:Value} (hd:¬ 0∈[l0,l1,l2,l3]∧[l0,l1,l2,l3].idxOf l0=0∧[l0,l1,l2,l3].idxOf l1=1∧[l0,l1,l2,l3].idxOf l2=2∧[l0,l1,l2,l3].idxOf l3=3) (hb:Lc l0 w O p 69 [c0,c1,c2,c3,c4,c5,c6,c7,.int .i64 x.number]) (h0:Vb w (Fr 0 w O) c0 x.t.vars) (h1:Vb w (Fr 0 w O) c1 x.t.init) (h2:Vb w (Fr 0 w O) c2 x.t.goal) (h3:Vb w (Fr 0 w O) c3 x.t.ops) (h4:Vb w (Fr 0 w O) c4 x.gens) (h5:Rw l1 w O 78 c5 x.nodes) (h6:Ob l2 w O c6 x.tab) (h7:Rw l3 w O 73 c7 x.open_) (h8:inI64 x.number):∃ O',St (·∈[l0,l1,l2,l3]) w O w O'∧(∀ k,Fr 0 w O k→Fr 0 w O' k)∧(∀ q,q∈[l0,l1,l2,l3]→∀ k,Fr q w O k→Fr l0 w O' k)∧Ob l0 w O' (.pointer (some ⟨p,0,none⟩)) x:=by
  have hb1:l0≠0:=fun e=>hd.1 (by simp [e])
  have hg:=FJ (i:=l0) hd.2.1 (by simp) p ⟨hb.1.lt,hb.2⟩
  exact ⟨whole O l0 [l0,l1,l2,l3],Ls,Dj hd.1,Ks,⟨p,fun k=>[l0,l1,l2,l3].idxOf (O k),c0,c1,c2,c3,c4,c5,c6,c7,rfl,hb.1,hg.1,hg.2,h0.mono (Dj hd.1),h1.mono (Dj hd.1),h2.mono (Dj hd.1),h3.mono (Dj hd.1),h4.mono (Dj hd.1),h5.m (Dj hd.1) (FJ hd.2.2.1 (by simp)) (fun k a b=>frNe0 hb1 k a b.1),Ow.mono h6.1 (Dj hd.1) (FJ hd.2.2.2.1 (by simp)) (fun k a b=>frNe0 hb1 k a b.1),h7.m (Dj hd.1) (FJ hd.2.2.2.2 (by simp)) (fun k a b=>frNe0 hb1 k a b.1),h8⟩,hb1⟩
noncomputable def Fe (x0:List Int):Option ByteArray :=
  bnd (mkI 1 ((bw 0):Byt) (x0.length:Int)) fun u6=>bnd (rng (ρ:=ByteArray) (fun (k25:Nat) (a26:Int) (s23:(List Byt))=>bnd (s23[k25]?) fun a48=>some (.next (s23.set k25 (bw a26)))) x0 0 u6) fun res21=>fin res21 fun (s64:(List Byt))=>bnd (strI s64) fun n66=>some n66
theorem Mr {w:World} {A:Nat→Prop} (hA:∀ k,A k→k < w.heap.size) {vx0:Value} {x0:List Int} (a0:Vb w A vx0 x0) {r:ByteArray} (hm:Fe x0=some r) :
    Fn Tryz.prog 58 [vx0] w fun v w'=>Ext w w'∧Vb w' (upA A w w') v r:=by
 obtain ⟨O,hB,a1⟩:=enter hA
 replace a0:=a0.mono a1
 obtain ⟨A2,c3,rfl⟩:=a0.form
 refine AK Tryz.func58 rfl Tryz.ntmps58 rfl ?_
 unfold Fe at hm
 refine Al (Aj (Au rfl rfl (o_z ?_)))
 refine Al (Aj (Ar rfl rfl (AZ rfl rfl ?_)))
 have l5:x0.length≤9223372036854775807:=Nat.le_trans a0.len.2.1 a0.len.2.2
 have r4:inI64 (x0.length:Int):=rngNat l5
 obtain ⟨u6,e7,hm⟩:=bs hm
 obtain ⟨m8,e9,b1,c1,d1⟩:=CK e7
 refine Dt 2 (by decide) O (z0:=((bw 0):Byt)) rfl rfl rfl rfl rfl e9 (vByte (x:=(bw 0))) b1 c1 rfl fun h0 k1 e1 j0 t0=>?_
 rw [← d1] at t0 ⊢
 refine Au rfl rfl (o_z ?_)
 refine Al (Al (Aj (Ar rfl rfl (AZ rfl rfl ?_))))
 replace a0:=a0.st j0
 have k0:x0.length≤9223372036854775807:=Nat.le_trans a0.len.2.1 a0.len.2.2
 have l1:inI64 (x0.length:Int):=rngNat k0
 refine Ar rfl rfl (o_z ?_)
 obtain ⟨e0,l0,hm⟩:=bs hm
 refine AJ (aft e0 (fun (d0:(List Byt)) (i0:Unit)=>[(3,(.slice (some ⟨h0,0,none⟩) u6.length m8))]) (fun d0 i0 w'=>∃ O':Lab,Bs w A w' O'∧Rw 2 w' O' 5 (.slice (some ⟨h0,0,none⟩) u6.length m8) d0)) ?_ ?_
 ·
  refine AU ?_
  replace hB:=hB.st j0
  refine Bt (σ:=(List Byt)) (X:=Unit) (x0.length) l0 rfl k0 (fun (d0:(List Byt)) (i0:Unit)=>[(3,(.slice (some ⟨h0,0,none⟩) u6.length m8)),(9,(.slice A2 x0.length c3))]) _ (fun d0 i0 w'=>∃ O':Lab,Bs w A w' O'∧Rw 2 w' O' 5 (.slice (some ⟨h0,0,none⟩) u6.length m8) d0∧Vb w' (Fr 0 w' O') (.slice A2 x0.length c3) x0) _ () ⟨e1,hB,t0,a0⟩ ⟨rfl,rfl,rfl,rfl,trivial⟩ (fun _ _=>⟨rfl,rfl⟩) (fun _ _=>⟨rfl,trivial⟩) (fun _ _ _ ⟨O',hB,b0,a0⟩=>⟨O',hB,b0⟩) ⟨rfl,rfl,rfl⟩ ⟨rfl,rfl⟩ ?_
  rintro f1 u0 d0 i0 m1 g1 f0 ⟨n1,hB,b0,a0⟩ c0 m0 n0
  have rk25:inI64 (f1:Int):=rngK f0 k0
  refine Al (Aj (Ar rfl rfl ?_))
  obtain ⟨o1,p1,h1,o0,p0,q0,rfl,q1⟩:=a0.elem' f0
  refine Br (hA:=o0) (hj:=rfl) (hlt:=p0) rfl rfl rfl ?_
  refine AG (hc:=cat0 q0) rfl rfl ?_
  refine Au rfl rfl (Au rfl rfl (o_z ?_))
  refine Aj (Ar rfl rfl (Ar rfl rfl (Ar rfl rfl (RI rfl rfl ?_))))
  obtain ⟨r1,v0,c0⟩:=bs c0
  obtain ⟨s1,t1,i1,g0,r0,j1,rfl⟩:=b0.elem v0
  refine Br (hA:=g0) (hj:=rfl) (hlt:=r0) rfl rfl rfl ?_
  refine Di rfl b0 (a:=(bw u0)) (vByte (x:=(bw u0))) g0 rfl rfl (AE v0) fun u1 w0 b0=>?_
  refine o_z ?_
  obtain rfl:=sm c0
  exact show Exists _ from ⟨_,(),rfl,⟨rfl,rfl,rfl,rfl,trivial⟩,_,hB.st w0,b0,a0.st w0⟩
 replace hB:=hB.st j0
 rintro v1 w1 ⟨x1,y1,rfl,s0,z1,hB,b0⟩
 replace hm:=Be hm
 refine AP _ s0 ?_
 refine Al (Aj (Ar rfl rfl ?_))
 obtain ⟨a2,y0,hm⟩:=bs hm
 refine RJ (hv:=(b0).all) (he:=y0) rfl rfl ?_
 refine Au rfl rfl (o_z ?_)
 refine AH ?_
 obtain rfl:=sm hm
 exact ret1v rfl (AD rfl) ⟨hB.ext,(vStr (PT y0))⟩
noncomputable def BZ (x0:Ors) (x1:List Int) (x2:Int) (x3:Int) (x4:Int):Option (Err×Ors) :=
  bnd (Ci (⟨x0.t.vars,x0.t.init,x0.t.goal,x0.t.ops⟩:Tsk) x0.gens x1) fun q46=>if q46.2.2.n≠0 then (some ((⟨q46.2.2.n⟩:Err),x0)) else (bnd (Fe q46.1) fun q70=>bnd (if (mhas x0.tab.l q70)=true then (bnd (atI x0.nodes (mget 0 x0.tab.l q70)) fun a87=>if a87.cost≤x2 then (some (true,true)) else (some (true,false))) else (some (false,false)):Option (Bool×Bool)) fun y82=>if y82.2=true then (some ((⟨0⟩:Err),x0)) else (bnd (if y82.1=true then (bnd (atI x0.nodes (mget 0 x0.tab.l q70)) fun a182=>some ((mget 0 x0.tab.l q70),(⟨(⟨x0.t.vars,x0.t.init,x0.t.goal,x0.t.ops⟩:Tsk),x0.gens,(x0.nodes.set ((mget 0 x0.tab.l q70):Int).toNat (⟨q46.1,x2,x3,x4,q46.2.1,false⟩:ONd)),x0.tab,x0.open_,x0.number⟩:Ors))) else (bnd (appI 80 x0.nodes [(⟨q46.1,x2,x3,x4,q46.2.1,false⟩:ONd)]) fun u261=>some ((x0.nodes.length:Int),(⟨(⟨x0.t.vars,x0.t.init,x0.t.goal,x0.t.ops⟩:Tsk),x0.gens,u261,(⟨mput x0.tab.l q70 (x0.nodes.length:Int)⟩:MapP ByteArray Int),x0.open_,x0.number⟩:Ors))):Option (Int×Ors)) fun y137=>bnd (chkI (y137.2.number + 1)) fun n321=>bnd (CD (⟨y137.2.open_⟩:BxR 67 73 OEn) (⟨(⟨x2,n321,y137.1⟩:OEn)⟩:An 73 OEn)) fun q331=>some ((⟨0⟩:Err),(⟨(⟨y137.2.t.vars,y137.2.t.init,y137.2.t.goal,y137.2.t.ops⟩:Tsk),y137.2.gens,y137.2.nodes,y137.2.tab,q331.l,n321⟩:Ors))))
theorem Gb {w:World} {O:Lab} {p0 i0:Nat} {x0:Ors} (s2:Ob i0 w O (.pointer (some ⟨p0,0,none⟩)) x0) {vx1:Value} {x1:List Int} (r3:Vb w (Fr 0 w O) vx1 x1) {x2:Int} (rx2:inI64 x2) {x3:Int} (rx3:inI64 x3) {x4:Int} (rx4:inI64 x4) {r:Err×Ors} (hm:BZ x0 x1 x2 x3 x4=some r) :
    Fn Tryz.prog 25 [(.pointer (some ⟨p0,0,none⟩)),vx1,(.int .i64 x2),(.int .i64 x3),(.int .i64 x4)] w fun v w'=>∃ O',St (eT i0) w O w' O'∧Ob i0 w' O' (.pointer (some ⟨p0,0,none⟩)) r.2∧Vb w' (Fr 0 w' O') v r.1:=by
 obtain ⟨O0,hE,y6,y7⟩:=ent1 (w:=w) (O:=O) s2.2
 have s2':=Ob.leave s2 y6 y7 (j:=2) (by decide)
 have hB:Bm w O0 w O0:=Bm.refl
 replace r3:=r3.mono y6
 obtain ⟨A6,c7,rfl⟩:=r3.form
 refine AK Tryz.func25 rfl Tryz.ntmps25 rfl ?_
 unfold BZ at hm
 refine Al (Aj (Au rfl rfl (o_z ?_)))
 refine Al ?_
 obtain ⟨O8,fC,gC,hC,iC,jC,kC,lC,mC,S9,z7,k1,a1,b1,c1,d1,e1,m1,o1,g1,n4⟩:=Ors.opn s2' 2 3 4 5 (by decide)
 obtain ⟨a8,b8,rfl⟩:=a1.form
 obtain ⟨c8,d8,rfl⟩:=b1.form
 obtain ⟨e8,f8,rfl⟩:=c1.form
 obtain ⟨g8,h8,rfl⟩:=d1.form
 obtain ⟨nC,oC,rfl⟩:=e1.form
 obtain ⟨pC,qC,rfl⟩:=m1.form
 obtain ⟨rC,rfl⟩:=o1.mptr
 obtain ⟨sC,tC,rfl⟩:=g1.form
 refine Bu [] O8 ?_
 refine AR (fuel:=8) [] [(0,true),(1,true),(2,true),(3,true),(4,true),(5,true),(6,true),(7,true),(8,true)] (by kernel_rfl) rfl ?_
 refine AM rfl rfl rfl (Dy rfl rfl rfl (Bd rfl rfl rfl (CV (hl:=rfl) (hb:=fun w' ⟨O',hq⟩=>(Fy 0 4 ((k1.st hq (by decide)).1).cellsAt)) rfl rfl rfl ?_)))
 refine AM rfl rfl rfl (Dy rfl rfl rfl (Bd rfl rfl rfl (AW (hc:=fun w' ⟨O',hq⟩=>Blk.cell (i:=4) ((k1.st hq (by decide)).1) rfl) rfl rfl rfl ?_)))
 refine AM rfl rfl rfl (AC ?_)
 refine AO (i:=9) (by kernel_rfl) rfl ?_
 obtain ⟨g0,i8,hm⟩:=bs hm
 replace r3:=r3.st S9
 refine Bq (O:=O8) (R:=fun w' F v=>T3 w' F v g0) (Hx Fr.lt (Vb.ofAgg (cs:=[(.slice a8 x0.t.vars.length b8),(.slice c8 x0.t.init.length d8),(.slice e8 x0.t.goal.length f8),(.slice g8 x0.t.ops.length h8)]) (x:=(⟨x0.t.vars,x0.t.init,x0.t.goal,x0.t.ops⟩:Tsk)) rfl ⟨_,_,_,_,rfl,a1,b1,c1,d1⟩) e1 r3 i8) rfl rfl fun uC z6 a7 b0 j8=>?_
 obtain ⟨vC,wC,xC,rfl,f1,h1,k8⟩:=j8
 obtain ⟨s3,t3,rfl⟩:=f1.form
 obtain ⟨u3,v3,rfl⟩:=h1.form
 obtain ⟨rfl,l8⟩:=k8.err
 have hZ:=b0.lst [] (fun _ h=>h.elim)
 refine AT [] hZ (by kernel_rfl) ?_
 refine AR (fuel:=0) [] [(10,true),(11,true),(12,true),(13,true),(14,true),(15,true),(16,true)] (by kernel_rfl) rfl ?_
 refine AM rfl rfl rfl (Hq rfl rfl rfl rfl (Hq rfl rfl rfl rfl (Hq rfl rfl rfl rfl (DW rfl rfl rfl (DW rfl rfl rfl (DW rfl rfl rfl (AC ?_)))))))
 refine Bn (by kernel_rfl) ?_
 refine Al (Al (Aj (Ar rfl rfl (EI rfl rfl (fun o4=>?_) fun o4=>?_))))
 ·
  replace hm:=ip hm o4
  refine o_z ?_
  refine Ah rfl (Al (Aj (Ar rfl rfl (Au rfl rfl (o_z ?_)))))
  refine AH ?_
  replace k1:=k1.st b0
  replace a1:=a1.st b0
  replace b1:=b1.st b0
  replace c1:=c1.st b0
  replace d1:=d1.st b0
  replace e1:=e1.st b0
  replace m1:=m1.st b0
  replace o1:=o1.st b0
  replace g1:=g1.st b0
  obtain ⟨yC,m8,n8,o8,p8⟩:=Ors.shut (x:=x0) (l0:=2) (l1:=3) (l2:=4) (l3:=5) (by decide) k1 a1 b1 c1 d1 e1 m1 o1 g1 n4
  obtain rfl:=sm hm
  replace hB:=((hB.st S9).st b0).st m8
  obtain ⟨O',hS',hz,hl⟩:=hE.leave (fun q=>if q=2 then i0 else 0) rfl hB
  exact ret1v rfl (AD rfl) ⟨O',hS',(Ob.leave p8 hz (hl 2 (by decide) (by decide)) s2.2),(vErr l8)⟩
 replace hm:=im hm o4
 refine o_z ?_
 refine Ae rfl (AN (Al (Aj (Ar rfl rfl ?_))))
 obtain ⟨p1,q8,hm⟩:=bs hm
 refine Bg (O:=a7) (A:=All z6) (R:=fun w' F v=>Vb w' F v p1) (Mr (fun _ h=>h) (Vb.mono (F:=Fr 0 z6 a7) f1 Fr.lt) q8) rfl rfl fun zC aD bD d0 r8=>?_
 obtain ⟨rfl,cD⟩:=r8.str
 refine Au rfl rfl (o_z ?_)
 refine Al (Aj (Ar rfl rfl (Dv rfl rfl (AL rfl rfl ?_))))
 replace k1:=(k1.st b0).st d0
 refine AG (hc:=Blk.cell (i:=6) (k1.1) rfl) rfl rfl ?_
 refine Ar rfl rfl ?_
 replace o1:=(o1.st b0).st d0
 obtain ⟨dD,p4,s8⟩:=MapP.get o1 p1 (vInt (show inI64 0 from by decide))
 obtain ⟨rfl,t8⟩:=s8.int
 refine RA p1 p4 rfl rfl rfl ?_
 refine Ar rfl rfl (CC rfl rfl rfl (CC rfl rfl rfl (Au rfl rfl (Au rfl rfl (o_z ?_)))))
 refine Al (Al ?_)
 obtain ⟨b7,f0,hm⟩:=bs hm
 refine AJ (fun l' w'=>∃ (u8:Unit) (O':Lab),subs l' [(0,(.pointer (some ⟨p0,0,none⟩))),(2,(.int .i64 x2)),(3,(.int .i64 x3)),(4,(.int .i64 x4)),(11,(.slice s3 g0.1.length t3)),(12,(.slice u3 g0.2.1.length v3)),(14,(.string p1)),(15,(.int .i64 (mget 0 x0.tab.l p1))),(16,(.bool b7.1)),(58,(.bool b7.2))]∧Bm w O0 w' O'∧Ob 2 w' O' (.pointer (some ⟨p0,0,none⟩)) x0∧Vb w' (Fr 0 w' O') (.slice s3 g0.1.length t3) g0.1∧Vb w' (Fr 0 w' O') (.slice u3 g0.2.1.length v3) g0.2.1) ?_ ?_
 ·
  refine Aj (Ar rfl rfl (Ar rfl rfl ?_))
  rcases Bool.eq_false_or_eq_true (mhas x0.tab.l p1) with w3|w3
  ·
   try rw [w3]
   replace f0:=ip f0 w3
   refine Az rfl rfl (Ar rfl rfl (Az rfl rfl (Dv rfl rfl (Az rfl rfl (AL rfl rfl (Az rfl rfl (AG (hc:=Blk.cell (i:=5) (k1.1) rfl) rfl rfl ?_)))))))
   refine Az rfl rfl (Ar rfl rfl (Az rfl rfl ?_))
   obtain ⟨eD,v8,f0⟩:=bs f0
   obtain ⟨w8,x8⟩:=AV v8
   replace m1:=(m1.st b0).st d0
   obtain ⟨fD,gD,y8,q4,r4,s4,hD,iD,rfl,t4,u4,z8,a9,b9⟩:=m1.elem x8
   obtain ⟨c9,d9,rfl⟩:=t4.form
   obtain ⟨e9,f9,rfl⟩:=u4.form
   refine Br (hA:=q4) (hj:=(Int.toNat_of_nonneg w8).symm) (hlt:=r4) rfl rfl rfl ?_
   refine Az rfl rfl (AL rfl rfl (Az rfl rfl (AG (hc:=cat1 s4) rfl rfl ?_)))
   refine Az rfl rfl (Ar rfl rfl (Az rfl rfl (MV rfl rfl rfl (fun t2=>?_) fun t2=>?_)))
   ·
    replace f0:=ip f0 t2
    refine Bw rfl rfl rfl (o_z ?_)
    replace a1:=(a1.st b0).st d0
    replace b1:=(b1.st b0).st d0
    replace c1:=(c1.st b0).st d0
    replace d1:=(d1.st b0).st d0
    replace e1:=(e1.st b0).st d0
    replace g1:=(g1.st b0).st d0
    obtain ⟨g9,u2,d7,e7,v4⟩:=Ors.shut (x:=x0) (l0:=2) (l1:=3) (l2:=4) (l3:=5) (by decide) k1 a1 b1 c1 d1 e1 m1 o1 g1 n4
    obtain rfl:=sm f0
    exact ⟨(),_,⟨rfl,rfl,rfl,rfl,rfl,rfl,rfl,rfl,rfl,rfl,trivial⟩,(((hB.st S9).st b0).st d0).st u2,v4,(f1.st d0).st u2,(h1.st d0).st u2⟩
   replace f0:=im f0 t2
   refine Bw rfl rfl rfl (o_z ?_)
   replace a1:=(a1.st b0).st d0
   replace b1:=(b1.st b0).st d0
   replace c1:=(c1.st b0).st d0
   replace d1:=(d1.st b0).st d0
   replace e1:=(e1.st b0).st d0
   replace g1:=(g1.st b0).st d0
   obtain ⟨h9,v2,f7,g7,w4⟩:=Ors.shut (x:=x0) (l0:=2) (l1:=3) (l2:=4) (l3:=5) (by decide) k1 a1 b1 c1 d1 e1 m1 o1 g1 n4
   obtain rfl:=sm f0
   exact ⟨(),_,⟨rfl,rfl,rfl,rfl,rfl,rfl,rfl,rfl,rfl,rfl,trivial⟩,(((hB.st S9).st b0).st d0).st v2,w4,(f1.st d0).st v2,(h1.st d0).st v2⟩
  try rw [w3]
  replace f0:=im' f0 w3
  refine Ay rfl rfl rfl rfl (Ay rfl rfl rfl rfl (Ay rfl rfl rfl rfl (Ay rfl rfl rfl rfl (Ay rfl rfl rfl rfl (Ay rfl rfl rfl rfl (Ay rfl rfl rfl rfl (Ay rfl rfl rfl rfl (Ay rfl rfl rfl rfl (Ay rfl rfl rfl rfl (Bx rfl rfl rfl (o_z ?_)))))))))))
  replace a1:=(a1.st b0).st d0
  replace b1:=(b1.st b0).st d0
  replace c1:=(c1.st b0).st d0
  replace d1:=(d1.st b0).st d0
  replace e1:=(e1.st b0).st d0
  replace m1:=(m1.st b0).st d0
  replace g1:=(g1.st b0).st d0
  obtain ⟨i9,w2,h7,i7,y4⟩:=Ors.shut (x:=x0) (l0:=2) (l1:=3) (l2:=4) (l3:=5) (by decide) k1 a1 b1 c1 d1 e1 m1 o1 g1 n4
  obtain rfl:=sm f0
  exact ⟨(),_,⟨rfl,rfl,rfl,rfl,rfl,rfl,rfl,rfl,rfl,rfl,trivial⟩,(((hB.st S9).st b0).st d0).st w2,y4,(f1.st d0).st w2,(h1.st d0).st w2⟩
 replace hB:=((hB.st S9).st b0).st d0
 replace f1:=f1.st d0
 replace h1:=h1.st d0
 rintro j9 k9 ⟨u8,z4,y3,hB,y0,f1,h1⟩
 refine AP _ y3 ?_
 refine BL rfl (fun y2=>?_) (fun y2=>?_)
 ·
  replace hm:=ip hm y2
  refine Al (Aj (Au rfl rfl (o_z ?_)))
  refine AH ?_
  obtain rfl:=sm hm
  obtain ⟨O',hS',hz,hl⟩:=hE.leave (fun q=>if q=2 then i0 else 0) rfl hB
  exact ret1v rfl (AD rfl) ⟨O',hS',(Ob.leave y0 hz (hl 2 (by decide) (by decide)) s2.2),(vErr (show inI64 0 from by decide))⟩
 replace hm:=im' hm y2
 refine AN (Al (Aj (Ar rfl rfl (Ar rfl rfl (Ar rfl rfl (Ar rfl rfl (Ar rfl rfl (Df rfl rfl rfl ?_))))))))
 refine Bi 6 z4 rfl fun a5 l9 b5 o0 m0=>?_
 refine Ba m0 rfl rfl rfl (Bk rfl) (allOne rfl) fun c5 q0 m0=>?_
 replace m0:Lc 6 c5 b5 a5 78 [(.slice s3 g0.1.length t3),(.int .i64 x2),(.int .i64 x3),(.int .i64 x4),(.slice u3 g0.2.1.length v3),(.bool false)]:=m0
 refine o_z ?_
 refine Al ?_
 obtain ⟨a0,e0,hm⟩:=bs hm
 refine AJ (fun l' w'=>∃ (d5:Unit) (O':Lab),subs l' [(0,(.pointer (some ⟨p0,0,none⟩))),(2,(.int .i64 x2)),(15,(.int .i64 a0.1))]∧Bm w O0 w' O'∧Ob 2 w' O' (.pointer (some ⟨p0,0,none⟩)) a0.2∧inI64 a0.1) ?_ ?_
 ·
  refine Al (Aj (Ar rfl rfl (o_z ?_)))
  refine BL rfl (fun z2=>?_) (fun z2=>?_)
  ·
   replace e0:=ip e0 z2
   replace y0:=(y0.st o0).st q0
   obtain ⟨e5,m9,n9,o9,p9,q9,r9,s9,t9,q1,j7,r1,s1,t1,u1,v1,w1,n1,y1,z1,f5⟩:=Ors.opn y0 2 3 4 5 (by decide)
   obtain ⟨u9,v9,rfl⟩:=s1.form
   obtain ⟨w9,x9,rfl⟩:=t1.form
   obtain ⟨y9,z9,rfl⟩:=u1.form
   obtain ⟨aA,bA,rfl⟩:=v1.form
   obtain ⟨cA,dA,rfl⟩:=w1.form
   obtain ⟨eA,fA,rfl⟩:=n1.form
   obtain ⟨gA,rfl⟩:=y1.mptr
   obtain ⟨iA,jA,rfl⟩:=z1.form
   refine Bu [] e5 ?_
   refine AR (fuel:=1) [] [(0,true),(1,true),(2,true),(3,true),(4,true),(5,true),(6,true)] (by kernel_rfl) rfl ?_
   refine AM rfl rfl rfl (Dy rfl rfl rfl (Bd rfl rfl rfl (AW (hc:=fun w' ⟨O',hq⟩=>Blk.cell (i:=5) ((r1.st hq (by decide)).1) rfl) rfl rfl rfl ?_)))
   refine AM rfl rfl rfl ?_
   replace m0:=m0.st q1
   refine CV (hl:=rfl) (hb:=fun w' ⟨O',hq⟩=>((m0.st hq (by decide)).1).cellsAt) rfl rfl rfl ?_
   obtain ⟨kA,g5,e0⟩:=bs e0
   obtain ⟨h5,z3⟩:=AV g5
   obtain ⟨lA,mA,k7,r2,l7,a4,m7,nA,oA,rfl,i5,j5,pA,qA,rA⟩:=n1.elemF z3
   obtain ⟨sA,tA,rfl⟩:=i5.form
   obtain ⟨uA,vA,rfl⟩:=j5.form
   refine BB (hA:=r2) (hj:=(Int.toNat_of_nonneg h5).symm) (hlt:=a4) rfl rfl rfl rfl ?_
   refine AC ?_
   refine AO (i:=7) (by kernel_rfl) rfl ?_
   replace f1:=((f1.st o0).st q0).st q1
   replace h1:=((h1.st o0).st q0).st q1
   refine Di rfl n1 (a:=(⟨g0.1,x2,x3,x4,g0.2.1,false⟩:ONd)) (Vb.ofAgg (cs:=[(.slice s3 g0.1.length t3),(.int .i64 x2),(.int .i64 x3),(.int .i64 x4),(.slice u3 g0.2.1.length v3),(.bool false)]) (x:=(⟨g0.1,x2,x3,x4,g0.2.1,false⟩:ONd)) rfl ⟨_,_,rfl,f1,h1,rx2,rx3,rx4⟩) r2 rfl rfl (AE z3) fun wA r0 n1=>?_
   refine Cg (by kernel_rfl) ?_
   refine Bn (by kernel_rfl) ?_
   replace r1:=r1.st r0
   replace s1:=s1.st r0
   replace t1:=t1.st r0
   replace u1:=u1.st r0
   replace v1:=v1.st r0
   replace w1:=w1.st r0
   replace y1:=y1.st r0
   replace z1:=z1.st r0
   obtain ⟨xA,k5,n7,o7,l5⟩:=Ors.shut (x:=(⟨(⟨x0.t.vars,x0.t.init,x0.t.goal,x0.t.ops⟩:Tsk),x0.gens,(x0.nodes.set ((mget 0 x0.tab.l p1):Int).toNat (⟨g0.1,x2,x3,x4,g0.2.1,false⟩:ONd)),x0.tab,x0.open_,x0.number⟩:Ors)) (l0:=2) (l1:=3) (l2:=4) (l3:=5) (by decide) (by have q:=r1;rw [← ((by simp:(x0.nodes.set ((mget 0 x0.tab.l p1):Int).toNat (⟨g0.1,x2,x3,x4,g0.2.1,false⟩:ONd)).length=x0.nodes.length).trans rfl)] at q;exact q) s1 t1 u1 v1 w1 n1.relen y1 z1 f5
   obtain rfl:=sm e0
   exact ⟨(),_,⟨rfl,rfl,rfl,trivial⟩,((((hB.st o0).st q0).st q1).st r0).st k5,l5,t8⟩
  replace e0:=im' e0 z2
  refine Al (Aj (Ar rfl rfl (Dv rfl rfl ?_)))
  replace y0:=(y0.st o0).st q0
  obtain ⟨b4,yA,zA,aB,bB,cB,dB,eB,fB,a2,p7,h0,b2,c2,d2,e2,f2,i1,c4,g2,m5⟩:=Ors.opn y0 2 3 4 5 (by decide)
  obtain ⟨n5,o5,rfl⟩:=b2.form
  obtain ⟨p5,q5,rfl⟩:=c2.form
  obtain ⟨r5,s5,rfl⟩:=d2.form
  obtain ⟨t5,u5,rfl⟩:=e2.form
  obtain ⟨v5,w5,rfl⟩:=f2.form
  obtain ⟨gB,iB,rfl⟩:=i1.form
  obtain ⟨x5,rfl⟩:=c4.mptr
  obtain ⟨y5,z5,rfl⟩:=g2.form
  refine AL rfl rfl (AG (hc:=Blk.cell (i:=5) (h0.1) rfl) rfl rfl ?_)
  refine AZ rfl rfl ?_
  have a6:x0.nodes.length≤9223372036854775807:=Nat.le_trans i1.len.2.1 i1.len.2.2
  have d4:inI64 (x0.nodes.length:Int):=rngNat a6
  refine Au rfl rfl (o_z ?_)
  refine Al (Aj (Ar rfl rfl (Dv rfl rfl (AL rfl rfl (AG (hc:=Blk.cell (i:=6) (h0.1) rfl) rfl rfl ?_)))))
  refine Ar rfl rfl (Ar rfl rfl (QX (a:=p1) (b:=(x0.nodes.length:Int)) c4 (vInt d4) rfl rfl rfl fun jB j0 a3=>?_))
  refine o_z ?_
  refine Bu [(7,[3])] b4 ?_
  refine AR (fuel:=6) [] [(1,true),(2,true),(3,true),(4,true),(5,true)] (by kernel_rfl) rfl ?_
  refine AM rfl rfl rfl (Dy rfl rfl rfl (Bd rfl rfl rfl ?_))
  replace h0:=h0.st j0
  refine AW (hc:=fun w' ⟨O',hq⟩=>Blk.cell (i:=5) ((h0.st hq (by decide)).1) rfl) rfl rfl rfl ?_
  replace m0:=(m0.st a2).st j0
  refine CV (hl:=rfl) (hb:=fun w' ⟨O',hq⟩=>((m0.st hq (by decide)).1).cellsAt) rfl rfl rfl ?_
  refine AC ?_
  refine AR (fuel:=5) [3] [(0,true)] (by kernel_rfl) rfl ?_
  refine AM rfl rfl rfl (AC ?_)
  refine AO (i:=6) (by kernel_rfl) rfl ?_
  replace f1:=(((f1.st o0).st q0).st a2).st j0
  replace h1:=(((h1.st o0).st q0).st a2).st j0
  refine Co 7 (by decide) b4 (xs:=([(⟨g0.1,x2,x3,x4,g0.2.1,false⟩:ONd)]:List ONd)) rfl rfl rfl rfl ⟨(Vb.ofAgg (cs:=[(.slice s3 g0.1.length t3),(.int .i64 x2),(.int .i64 x3),(.int .i64 x4),(.slice u3 g0.2.1.length v3),(.bool false)]) (x:=(⟨g0.1,x2,x3,x4,g0.2.1,false⟩:ONd)) rfl ⟨_,_,rfl,f1,h1,rx2,rx3,rx4⟩),trivial⟩ (by decide) (by decide) rfl fun kB lB mB k0 b6=>?_
  have hZ:=k0.lst [] (fun _ h=>h.elim)
  refine AT [(7,[3])] hZ (by kernel_rfl) ?_
  refine AO (i:=7) (by kernel_rfl) rfl ?_
  obtain ⟨e4,b3,e0⟩:=bs e0
  obtain ⟨b3,c6,d6⟩:=Cf b3
  replace i1:=(i1.st j0).st k0
  refine DX rfl i1 (b6.rd) rfl rfl (by decide) c6 d6 rfl fun e6 f6 nB g6 n0 h2=>?_
  rw [← b3] at h2 ⊢
  have hZ:=n0.lst [3] (fun _ h=>by cases h;decide)
  refine AT [] hZ (by kernel_rfl) ?_
  refine AR (fuel:=1) [] [(8,true),(9,true)] (by kernel_rfl) rfl ?_
  refine Dy rfl rfl rfl (Bd rfl rfl rfl (AC ?_))
  refine AO (i:=10) (by kernel_rfl) rfl ?_
  replace h0:=(h0.st k0).st n0
  refine Ba h0 rfl rfl rfl (Bk rfl) (allOne rfl) fun h6 s0 h0=>?_
  replace h0:Lc 2 h6 g6 p0 69 [(.slice n5 x0.t.vars.length o5),(.slice p5 x0.t.init.length q5),(.slice r5 x0.t.goal.length s5),(.slice t5 x0.t.ops.length u5),(.slice v5 x0.gens.length w5),(.slice e6 e4.length f6),(.map (some x5)),(.slice y5 x0.open_.length z5),(.int .i64 x0.number)]:=h0
  refine Cg (by kernel_rfl) ?_
  refine Bn (by kernel_rfl) ?_
  replace b2:=(((b2.st j0).st k0).st n0).st s0
  replace c2:=(((c2.st j0).st k0).st n0).st s0
  replace d2:=(((d2.st j0).st k0).st n0).st s0
  replace e2:=(((e2.st j0).st k0).st n0).st s0
  replace f2:=(((f2.st j0).st k0).st n0).st s0
  replace g2:=(((g2.st j0).st k0).st n0).st s0
  replace a3:=((a3.st k0).st n0).st s0
  replace h2:=h2.st s0
  obtain ⟨oB,i6,q7,r7,j6⟩:=Ors.shut (x:=(⟨(⟨x0.t.vars,x0.t.init,x0.t.goal,x0.t.ops⟩:Tsk),x0.gens,e4,(⟨mput x0.tab.l p1 (x0.nodes.length:Int)⟩:MapP ByteArray Int),x0.open_,x0.number⟩:Ors)) (l0:=2) (l1:=3) (l2:=4) (l3:=5) (by decide) h0 b2 c2 d2 e2 f2 h2 a3 g2 m5
  obtain rfl:=sm e0
  exact ⟨(),_,⟨rfl,rfl,rfl,trivial⟩,(((((((hB.st o0).st q0).st a2).st j0).st k0).st n0).st s0).st i6,j6,d4⟩
 replace hB:=(hB.st o0).st q0
 rintro pB qB ⟨d5,rB,f4,hB,k6,l6⟩
 refine AP _ f4 ?_
 refine Al (Aj (Ar rfl rfl (Dv rfl rfl ?_)))
 obtain ⟨g4,sB,tB,uB,vB,wB,xB,yB,zB,m6,s7,z0,i2,j2,k2,m2,n2,o2,p2,q2,aC⟩:=Ors.opn k6 2 3 4 5 (by decide)
 obtain ⟨c3,d3,rfl⟩:=i2.form
 obtain ⟨e3,f3,rfl⟩:=j2.form
 obtain ⟨g3,h3,rfl⟩:=k2.form
 obtain ⟨i3,j3,rfl⟩:=m2.form
 obtain ⟨k3,m3,rfl⟩:=n2.form
 obtain ⟨n3,o3,rfl⟩:=o2.form
 obtain ⟨p3,rfl⟩:=p2.mptr
 obtain ⟨h4,i4,rfl⟩:=q2.form
 refine AL rfl rfl (AG (hc:=Blk.cell (i:=8) (z0.1) rfl) rfl rfl ?_)
 obtain ⟨j1,j4,hm⟩:=bs hm
 have k4:=(BW j4)
 refine FT (he:=j4) rfl rfl rfl ?_
 refine Dv rfl rfl (AL rfl rfl (Ba z0 rfl rfl rfl (Bk rfl) (allOne rfl) fun n6 t0 z0=>?_))
 replace z0:Lc 2 n6 g4 p0 69 [(.slice c3 a0.2.t.vars.length d3),(.slice e3 a0.2.t.init.length f3),(.slice g3 a0.2.t.goal.length h3),(.slice i3 a0.2.t.ops.length j3),(.slice k3 a0.2.gens.length m3),(.slice n3 a0.2.nodes.length o3),(.map (some p3)),(.slice h4 a0.2.open_.length i4),(.int .i64 j1)]:=z0
 refine o_z ?_
 refine Al (Bu [] g4 ?_)
 refine AR (fuel:=1) [] [(0,true),(1,true),(2,true),(3,true),(4,true),(5,true),(6,true),(7,true),(8,true),(9,true),(10,true),(11,true)] (by kernel_rfl) rfl ?_
 refine AM rfl rfl rfl (Dy rfl rfl rfl (Bd rfl rfl rfl (PF rfl rfl rfl ?_)))
 refine AM rfl rfl rfl (AM rfl rfl rfl (Dy rfl rfl rfl (Bd rfl rfl rfl (AW (hc:=fun w' ⟨O',hq⟩=>Blk.cell (i:=8) ((z0.st hq (by decide)).1) rfl) rfl rfl rfl ?_))))
 refine AM rfl rfl rfl (Do rfl rfl rfl rfl ?_)
 refine PF rfl rfl rfl ?_
 refine AC ?_
 refine AO (i:=12) (by kernel_rfl) rfl ?_
 replace q2:=q2.st t0
 obtain ⟨o6,u0,t7,u7,p6⟩:=BxC.shut (cx:=(⟨69,[(.slice c3 a0.2.t.vars.length d3),(.slice e3 a0.2.t.init.length f3),(.slice g3 a0.2.t.goal.length h3),(.slice i3 a0.2.t.ops.length j3),(.slice k3 a0.2.gens.length m3),(.slice n3 a0.2.nodes.length o3),(.map (some p3))],[(.int .i64 j1)]⟩:Cx)) (p:=p0) (c0:=.slice h4 a0.2.open_.length i4) (x:=(⟨a0.2.open_⟩:BxR 67 73 OEn)) (l0:=2) (l1:=5) (by decide) z0 q2
 obtain ⟨l4,q6,hm⟩:=bs hm
 refine Fo (O:=o6) (Hj p6 (vAny (Vb.ofAgg (cs:=[(.int .i64 x2),(.int .i64 j1),(.int .i64 a0.1)]) (x:=(⟨x2,j1,a0.1⟩:OEn)) rfl ⟨rfl,rx2,k4,l6⟩)) q6) rfl rfl fun bC r6 cC v0 s6=>?_
 obtain ⟨t6,dC,w0,v7,q3,m4⟩:=BxC.opn s6 2 5 (by decide)
 obtain ⟨u6,v6,rfl⟩:=m4.form
 replace q3:Lc 2 r6 t6 p0 69 [(.slice c3 a0.2.t.vars.length d3),(.slice e3 a0.2.t.init.length f3),(.slice g3 a0.2.t.goal.length h3),(.slice i3 a0.2.t.ops.length j3),(.slice k3 a0.2.gens.length m3),(.slice n3 a0.2.nodes.length o3),(.map (some p3)),(.slice u6 l4.l.length v6),(.int .i64 j1)]:=q3
 refine Cg (by kernel_rfl) ?_
 refine Bn (by kernel_rfl) ?_
 refine Al (Aj (Au rfl rfl (o_z ?_)))
 refine AH ?_
 replace i2:=(((i2.st t0).st u0).st v0).st w0
 replace j2:=(((j2.st t0).st u0).st v0).st w0
 replace k2:=(((k2.st t0).st u0).st v0).st w0
 replace m2:=(((m2.st t0).st u0).st v0).st w0
 replace n2:=(((n2.st t0).st u0).st v0).st w0
 replace o2:=(((o2.st t0).st u0).st v0).st w0
 replace p2:=(((p2.st t0).st u0).st v0).st w0
 obtain ⟨eC,w6,w7,x7,x6⟩:=Ors.shut (x:=(⟨(⟨a0.2.t.vars,a0.2.t.init,a0.2.t.goal,a0.2.t.ops⟩:Tsk),a0.2.gens,a0.2.nodes,a0.2.tab,l4.l,j1⟩:Ors)) (l0:=2) (l1:=3) (l2:=4) (l3:=5) (by decide) q3 i2 j2 k2 m2 n2 o2 p2 m4 k4
 obtain rfl:=sm hm
 replace hB:=(((((hB.st m6).st t0).st u0).st v0).st w0).st w6
 obtain ⟨O',hS',hz,hl⟩:=hE.leave (fun q=>if q=2 then i0 else 0) rfl hB
 exact ret1v rfl (AD rfl) ⟨O',hS',(Ob.leave x6 hz (hl 2 (by decide) (by decide)) s2.2),(vErr (show inI64 0 from by decide))⟩
noncomputable def CB (x0:Ors) (x1:Int):Option ((List Int)×Err) :=
  bnd (lop (ρ:=(List Int)×Err) (fun (s5:Int×(List Int))=>if 0≤s5.1 then (bnd (appI 8 s5.2 [s5.1]) fun u25=>bnd (atI x0.nodes s5.1) fun a75=>some (.next (a75.parent,u25))) else (some (.brk (s5.1,s5.2)))) (x1,([]:List Int))) fun res3=>fin res3 fun (s106:Int×(List Int))=>bnd (Ck s106.2) fun q108=>bnd (CN (⟨x0.t.vars,x0.t.init,x0.t.goal,x0.t.ops⟩:Tsk)) fun q154=>if q154.2.n≠0 then (some (([]:List Int),(⟨q154.2.n⟩:Err))) else (bnd (rng (ρ:=(List Int)×Err) (fun (k203:Nat) (a204:Int) (s201:(List Int)×(List Int)×(List (List Int))×(List Int))=>bnd (q108[k203]?) fun a224=>bnd (bnd (atI x0.nodes a224) fun a278=>if 0≤a278.op then (bnd (CH (⟨x0.t.vars,x0.t.init,x0.t.goal,x0.t.ops⟩:Tsk) (⟨s201.2.1,s201.2.2.1,s201.2.2.2⟩:Swp)) fun q308=>bnd (some (q308.1.vars,q308.1.vals,q308.1.ops):Option ((List Int)×(List (List Int))×(List Int))) fun y310=>if q308.2.n≠0 then (some (.ret (.ret (([]:List Int),(⟨q308.2.n⟩:Err))))) else (bnd (atI y310.2.2 a278.op) fun a394=>bnd (appI 8 s201.1 [a394]) fun u406=>some (.done u406))) else (some (.done s201.1)):Option (Fin (List Int) (Ctl ((List Int)×(List Int)×(List (List Int))×(List Int)) ((List Int)×Err)))) fun y234=>fin y234 fun (s236:(List Int))=>bnd (atI x0.nodes a224) fun a465=>bnd (rng (ρ:=Ctl ((List Int)×(List Int)×(List (List Int))×(List Int)) ((List Int)×Err)) (fun (k498:Nat) (a499:Int) (s496:(List Int)×(List (List Int))×(List Int))=>bnd (atI x0.gens a499) fun a561=>bnd (Ch (⟨x0.t.vars,x0.t.init,x0.t.goal,x0.t.ops⟩:Tsk) (⟨s496.1,s496.2.1,s496.2.2⟩:Swp) a561) fun q584=>if q584.2.n≠0 then (some (.ret (.ret (([]:List Int),(⟨q584.2.n⟩:Err))))) else (some (.next (q584.1.vars,q584.1.vals,q584.1.ops)))) a465.used 0 (s201.2.1,s201.2.2.1,s201.2.2.2)) fun res494=>fin res494 fun (s626:(List Int)×(List (List Int))×(List Int))=>some (.next (s236,s626.1,s626.2.1,s626.2.2))) s106.2 0 (([]:List Int),q154.1.vars,q154.1.vals,q154.1.ops)) fun res199=>fin res199 fun (s632:(List Int)×(List Int)×(List (List Int))×(List Int))=>some (s632.1,(⟨0⟩:Err)))
theorem HU {w:World} {O:Lab} {p0 i0:Nat} {x0:Ors} (n2:Ob i0 w O (.pointer (some ⟨p0,0,none⟩)) x0) {x1:Int} (rx1:inI64 x1) {r:(List Int)×Err} (hm:CB x0 x1=some r) :
    Fn Tryz.prog 29 [(.pointer (some ⟨p0,0,none⟩)),(.int .i64 x1)] w fun v w'=>∃ O',St (eT i0) w O w' O'∧∃ v0 v1:Value,Ob i0 w' O' (.pointer (some ⟨p0,0,none⟩)) x0∧v=.tuple #[v0,v1]∧Vb w' (Fr 0 w' O') v0 r.1∧Vb w' (Fr 0 w' O') v1 r.2:=by
 obtain ⟨O0,hE,oE,pE⟩:=ent1 (w:=w) (O:=O) n2.2
 have n2':=Ob.leave n2 oE pE (j:=2) (by decide)
 have hB:Bm w O0 w O0:=Bm.refl
 refine AK Tryz.func29 rfl Tryz.ntmps29 rfl ?_
 unfold CB at hm
 refine Al (Aj (Au rfl rfl (Au rfl rfl (o_z ?_))))
 refine Al (Aj (Au rfl rfl (o_z ?_)))
 refine Al ?_
 obtain ⟨s8,qE,hm⟩:=bs hm
 refine AJ (aft s8 (fun (s5:Int×(List Int)) (x6:(Option Addr×Nat))=>[(0,(.pointer (some ⟨p0,0,none⟩))),(6,(.slice x6.1 s5.2.length x6.2))]) (fun s5 x6 w'=>∃ O':Lab,Bm w O0 w' O'∧Ob 2 w' O' (.pointer (some ⟨p0,0,none⟩)) x0∧Rw 3 w' O' 3 (.slice x6.1 s5.2.length x6.2) s5.2∧inI64 s5.1)) ?_ ?_
 ·
  refine AU (FI (σ:=Int×(List Int)) (X:=(Option Addr×Nat)) qE (fun (s5:Int×(List Int)) (x6:(Option Addr×Nat))=>[(0,(.pointer (some ⟨p0,0,none⟩))),(1,(.int .i64 s5.1)),(6,(.slice x6.1 s5.2.length x6.2))]) _ (fun s5 x6 w'=>∃ O':Lab,Bm w O0 w' O'∧Ob 2 w' O' (.pointer (some ⟨p0,0,none⟩)) x0∧Rw 3 w' O' 3 (.slice x6.1 s5.2.length x6.2) s5.2∧inI64 s5.1) _ (none,0) ⟨O0,hB,n2',(Rw.nil 3 (by decide)),rx1⟩ ⟨rfl,rfl,rfl,trivial⟩ ?_)
  rintro s5 x6 w9 rE ⟨vL,hB,n2',p8,t8⟩ b2 u8 k4
  refine Al (Al (Aj (Ar rfl rfl (Fv rfl rfl rfl (fun v8=>?_) fun v8=>?_))))
  ·
   replace b2:=ip b2 v8
   refine o_z ?_
   refine Ah rfl (AN (Al (AU (Aj (Ar rfl rfl (Ar rfl rfl ?_))))))
   obtain ⟨wL,w8,b2⟩:=bs b2
   obtain ⟨w8,sE,tE⟩:=Cf w8
   refine Dh rfl (a:=s5.1) p8 (vInt t8) (fun _=>rfl) rfl (by decide) (by decide) sE tE ⟨rfl,rfl⟩ fun xL uE vE yL zL tC uC=>?_
   rw [← w8] at uC ⊢
   refine Au rfl rfl (o_z ?_)
   refine Aj (Ar rfl rfl (Dv rfl rfl ?_))
   replace n2':=n2'.st tC
   obtain ⟨aM,bM,cM,dM,eM,fM,gM,hM,iM,vC,wE,wC,xC,yC,zC,aD,bD,x8,cD,dD,xE⟩:=Ors.opn n2' 2 4 5 6 (by decide)
   obtain ⟨jM,kM,rfl⟩:=xC.form
   obtain ⟨lM,mM,rfl⟩:=yC.form
   obtain ⟨nM,oM,rfl⟩:=zC.form
   obtain ⟨pM,qM,rfl⟩:=aD.form
   obtain ⟨rM,sM,rfl⟩:=bD.form
   obtain ⟨tM,uM,rfl⟩:=x8.form
   obtain ⟨vM,rfl⟩:=cD.mptr
   obtain ⟨wM,xM,rfl⟩:=dD.form
   refine AL rfl rfl (AG (hc:=Blk.cell (i:=5) (wC.1) rfl) rfl rfl ?_)
   refine Ar rfl rfl ?_
   obtain ⟨yM,yE,b2⟩:=bs b2
   obtain ⟨zE,aF⟩:=AV yE
   obtain ⟨zM,aN,bF,y8,z8,a9,bN,cN,rfl,cF,dF,dN,eF,eN⟩:=x8.elem aF
   obtain ⟨fN,gN,rfl⟩:=cF.form
   obtain ⟨hN,iN,rfl⟩:=dF.form
   refine Br (hA:=y8) (hj:=(Int.toNat_of_nonneg zE).symm) (hlt:=z8) rfl rfl rfl ?_
   refine AL rfl rfl (AG (hc:=cat2 a9) rfl rfl ?_)
   refine Au rfl rfl (o_z ?_)
   obtain ⟨jN,eD,fD,gD,fF⟩:=Ors.shut (x:=x0) (l0:=2) (l1:=4) (l2:=5) (l3:=6) (by decide) wC xC yC zC aD bD x8 cD dD xE
   obtain rfl:=sm b2
   exact show Exists _ from ⟨_,(uE,vE),rfl,⟨rfl,rfl,rfl,trivial⟩,_,((hB.st tC).st vC).st eD,fF,(uC.st vC).st eD,eF⟩
  replace b2:=im b2 v8
  refine o_z ?_
  refine Ae rfl (DC ?_)
  obtain rfl:=sm b2
  exact show Exists _ from ⟨_,(x6.1,x6.2),k4 _ rfl,⟨rfl,rfl,trivial⟩,_,hB,n2',p8,t8⟩
 rintro gF hF ⟨f1,z0,rfl,b5,b9,hB,n2',p8,t8⟩
 replace hm:=Be hm
 refine AP _ b5 ?_
 refine Al (Aj (Ar rfl rfl ?_))
 obtain ⟨v3,c9,hm⟩:=bs hm
 refine Fo (O:=b9) (Gs p8 c9) rfl rfl fun iF jF kF y3 h0=>?_
 refine o_z ?_
 refine Al (Aj (Ar rfl rfl (Dv rfl rfl ?_)))
 replace n2':=n2'.st y3
 obtain ⟨d9,lF,mF,nF,oF,pF,qF,rF,sF,z3,hD,z2,o2,p2,q2,r2,a3,b3,c3,d3,c5⟩:=Ors.opn n2' 2 4 5 6 (by decide)
 obtain ⟨e9,f9,rfl⟩:=o2.form
 obtain ⟨g9,h9,rfl⟩:=p2.form
 obtain ⟨i9,j9,rfl⟩:=q2.form
 obtain ⟨k9,l9,rfl⟩:=r2.form
 obtain ⟨tF,uF,rfl⟩:=a3.form
 obtain ⟨vF,wF,rfl⟩:=b3.form
 obtain ⟨xF,rfl⟩:=c3.mptr
 obtain ⟨yF,zF,rfl⟩:=d3.form
 refine AL rfl rfl (Bl (hl:=rfl) (hc:=(Fy 0 4 (z2.1).cellsAt)) rfl rfl ?_)
 obtain ⟨a4,m9,hm⟩:=bs hm
 refine Bq (O:=d9) (R:=fun w' F v=>T2 w' F v a4) (HT Fr.lt (Vb.ofAgg (cs:=[(.slice e9 x0.t.vars.length f9),(.slice g9 x0.t.init.length h9),(.slice i9 x0.t.goal.length j9),(.slice k9 x0.t.ops.length l9)]) (x:=(⟨x0.t.vars,x0.t.init,x0.t.goal,x0.t.ops⟩:Tsk)) rfl ⟨_,_,_,_,rfl,o2,p2,q2,r2⟩) m9) rfl rfl fun aG bG n9 w0 o9=>?_
 obtain ⟨cG,dG,rfl,p9,q9⟩:=o9
 obtain ⟨iD,rfl,eG,fG,gG,rfl,b4,c4,d4⟩:=p9
 obtain ⟨d5,e5,rfl⟩:=b4.form
 obtain ⟨f5,g5,rfl⟩:=c4.form
 obtain ⟨h5,i5,rfl⟩:=d4.form
 obtain ⟨rfl,r9⟩:=q9.err
 refine Ar rfl rfl (CC rfl rfl rfl (CC rfl rfl rfl (Bi 7 n9 rfl fun t1 hG s9 n0 e0=>?_)))
 refine Ba e0 rfl rfl rfl (Bk rfl) (allOne rfl) fun t9 o0 e0=>?_
 replace e0:Lc 7 t9 s9 t1 53 [(.slice d5 a4.1.vars.length e5),(.slice f5 a4.1.vals.length g5),(.slice h5 a4.1.ops.length i5)]:=e0
 refine Au rfl rfl (o_z ?_)
 refine Al (Al (Aj (Ar rfl rfl (EI rfl rfl (fun l4=>?_) fun l4=>?_))))
 ·
  replace hm:=ip hm l4
  refine o_z ?_
  refine Ah rfl (Al (Aj (Ar rfl rfl (Au rfl rfl (Au rfl rfl (o_z ?_))))))
  refine AH ?_
  replace z2:=((z2.st w0).st n0).st o0
  replace o2:=((o2.st w0).st n0).st o0
  replace p2:=((p2.st w0).st n0).st o0
  replace q2:=((q2.st w0).st n0).st o0
  replace r2:=((r2.st w0).st n0).st o0
  replace a3:=((a3.st w0).st n0).st o0
  replace b3:=((b3.st w0).st n0).st o0
  replace c3:=((c3.st w0).st n0).st o0
  replace d3:=((d3.st w0).st n0).st o0
  obtain ⟨iG,u9,jD,kD,v9⟩:=Ors.shut (x:=x0) (l0:=2) (l1:=4) (l2:=5) (l3:=6) (by decide) z2 o2 p2 q2 r2 a3 b3 c3 d3 c5
  obtain rfl:=sm hm
  replace hB:=(((((hB.st y3).st z3).st w0).st n0).st o0).st u9
  obtain ⟨O',hS',hz,hl⟩:=hE.leave (fun q=>if q=2 then i0 else 0) rfl hB
  exact ret2 rfl (AD rfl) (AD rfl) ⟨O',hS',_,_,(Ob.leave v9 hz (hl 2 (by decide) (by decide)) n2.2),rfl,(Vb.mono (Vb.nil _ _) hz),(vErr r9)⟩
 replace hm:=im hm l4
 refine o_z ?_
 refine Ae rfl (AN (Al (Aj (Au rfl rfl (o_z ?_)))))
 refine Al (Al (Aj (Ar rfl rfl (AZ rfl rfl ?_))))
 replace h0:=(((h0.st z3).st w0).st n0).st o0
 have m4:f1.2.length≤9223372036854775807:=Nat.le_trans h0.len.2.1 h0.len.2.2
 have jG:inI64 (f1.2.length:Int):=rngNat m4
 refine Ar rfl rfl (o_z ?_)
 replace z2:=((z2.st w0).st n0).st o0
 replace o2:=((o2.st w0).st n0).st o0
 replace p2:=((p2.st w0).st n0).st o0
 replace q2:=((q2.st w0).st n0).st o0
 replace r2:=((r2.st w0).st n0).st o0
 replace a3:=((a3.st w0).st n0).st o0
 replace b3:=((b3.st w0).st n0).st o0
 replace c3:=((c3.st w0).st n0).st o0
 replace d3:=((d3.st w0).st n0).st o0
 obtain ⟨x9,e3,lD,mD,i2⟩:=Ors.shut (x:=x0) (l0:=2) (l1:=4) (l2:=5) (l3:=6) (by decide) z2 o2 p2 q2 r2 a3 b3 c3 d3 c5
 obtain ⟨n4,j5,hm⟩:=bs hm
 refine AJ (aft n4 (fun (d0:(List Int)×(List Int)×(List (List Int))×(List Int)) (a0:(Option Addr×Nat)×(Option Addr×Nat)×(Option Addr×Nat)×(Option Addr×Nat))=>[(9,(.slice a0.1.1 d0.1.length a0.1.2))]) (fun d0 a0 w'=>∃ O':Lab,Bm w O0 w' O'∧Rw 10 w' O' 3 (.slice a0.1.1 d0.1.length a0.1.2) d0.1∧Ob 2 w' O' (.pointer (some ⟨p0,0,none⟩)) x0)) ?_ ?_
 ·
  refine AU ?_
  replace hB:=(((((hB.st y3).st z3).st w0).st n0).st o0).st e3
  replace h0:=h0.st e3
  replace b4:=((b4.st n0).st o0).st e3
  replace c4:=((c4.st n0).st o0).st e3
  replace d4:=((d4.st n0).st o0).st e3
  replace e0:=e0.st e3
  refine Bt (σ:=(List Int)×(List Int)×(List (List Int))×(List Int)) (X:=(Option Addr×Nat)×(Option Addr×Nat)×(Option Addr×Nat)×(Option Addr×Nat)) (f1.2.length) j5 rfl m4 (fun (d0:(List Int)×(List Int)×(List (List Int))×(List Int)) (a0:(Option Addr×Nat)×(Option Addr×Nat)×(Option Addr×Nat)×(Option Addr×Nat))=>[(0,(.pointer (some ⟨p0,0,none⟩))),(7,(.pointer (some ⟨t1,0,none⟩))),(9,(.slice a0.1.1 d0.1.length a0.1.2)),(44,(.slice z0.1 f1.2.length z0.2))]) _ (fun d0 a0 w'=>∃ O':Lab,Bm w O0 w' O'∧Ob 2 w' O' (.pointer (some ⟨p0,0,none⟩)) x0∧Lc 7 w' O' t1 53 [(.slice a0.2.1.1 d0.2.1.length a0.2.1.2),(.slice a0.2.2.1.1 d0.2.2.1.length a0.2.2.1.2),(.slice a0.2.2.2.1 d0.2.2.2.length a0.2.2.2.2)]∧Vb w' (Fr 0 w' O') (.slice a0.2.1.1 d0.2.1.length a0.2.1.2) d0.2.1∧Vb w' (Fr 0 w' O') (.slice a0.2.2.1.1 d0.2.2.1.length a0.2.2.1.2) d0.2.2.1∧Vb w' (Fr 0 w' O') (.slice a0.2.2.2.1 d0.2.2.2.length a0.2.2.2.2) d0.2.2.2∧Rw 10 w' O' 3 (.slice a0.1.1 d0.1.length a0.1.2) d0.1∧Rw 3 w' O' 3 (.slice z0.1 f1.2.length z0.2) v3) _ ((none,0),(d5,e5),(f5,g5),(h5,i5)) ⟨x9,hB,i2,e0,b4,c4,d4,(Rw.nil 10 (by decide)),h0⟩ ⟨rfl,rfl,rfl,rfl,rfl,rfl,trivial⟩ (fun _ _=>⟨rfl,rfl⟩) (fun _ _=>⟨rfl,trivial⟩) (fun _ _ _ ⟨O',hB,i2,e0,c1,d1,e1,r1,h0⟩=>⟨O',hB,r1,i2⟩) ⟨rfl,rfl,rfl⟩ ⟨rfl,rfl⟩ ?_
  rintro w3 kG d0 a0 lG nD k5 ⟨mG,hB,i2,e0,c1,d1,e1,r1,h0⟩ r0 q3 q8
  have rk203:inI64 (w3:Int):=rngK k5 m4
  refine Al (Aj ?_)
  obtain ⟨l5,y9,r0⟩:=bs r0
  obtain ⟨nG,oG,oD,m5,n5,o5,rfl,pG⟩:=h0.elem y9
  refine Br (hA:=m5) (hj:=rfl) (hlt:=n5) rfl rfl rfl ?_
  refine AG (hc:=cat0 o5) rfl rfl ?_
  refine Au rfl rfl (o_z ?_)
  refine Al ?_
  obtain ⟨z9,g0,r0⟩:=bs r0
  refine AJ (fun l' w'=>∃ (w1:(List Int)) (n1:(Option Addr×Nat)) (O':Lab),z9=.done w1∧subs l' [(0,(.pointer (some ⟨p0,0,none⟩))),(7,(.pointer (some ⟨t1,0,none⟩))),(9,(.slice n1.1 w1.length n1.2)),(11,(.int .i64 l5)),(44,(.slice z0.1 f1.2.length z0.2)),(45,(.int .i64 (f1.2.length:Int))),(46,(.int .i64 (w3:Int)))]∧Bm w O0 w' O'∧Ob 2 w' O' (.pointer (some ⟨p0,0,none⟩)) x0∧Lc 7 w' O' t1 53 [(.slice a0.2.1.1 d0.2.1.length a0.2.1.2),(.slice a0.2.2.1.1 d0.2.2.1.length a0.2.2.1.2),(.slice a0.2.2.2.1 d0.2.2.2.length a0.2.2.2.2)]∧Vb w' (Fr 0 w' O') (.slice a0.2.1.1 d0.2.1.length a0.2.1.2) d0.2.1∧Vb w' (Fr 0 w' O') (.slice a0.2.2.1.1 d0.2.2.1.length a0.2.2.1.2) d0.2.2.1∧Vb w' (Fr 0 w' O') (.slice a0.2.2.2.1 d0.2.2.2.length a0.2.2.2.2) d0.2.2.2∧Rw 10 w' O' 3 (.slice n1.1 w1.length n1.2) w1∧Rw 3 w' O' 3 (.slice z0.1 f1.2.length z0.2) v3) ?_ ?_
  ·
   refine Al (Aj (Ar rfl rfl (Dv rfl rfl ?_)))
   obtain ⟨aA,qG,rG,sG,tG,uG,vG,wG,xG,k0,pD,s1,g1,h1,i1,j1,c2,y1,d2,e2,o4⟩:=Ors.opn i2 2 4 5 6 (by decide)
   obtain ⟨p5,q5,rfl⟩:=g1.form
   obtain ⟨r5,t5,rfl⟩:=h1.form
   obtain ⟨u5,v5,rfl⟩:=i1.form
   obtain ⟨w5,x5,rfl⟩:=j1.form
   obtain ⟨yG,zG,rfl⟩:=c2.form
   obtain ⟨aH,bH,rfl⟩:=y1.form
   obtain ⟨cH,rfl⟩:=d2.mptr
   obtain ⟨dH,eH,rfl⟩:=e2.form
   refine AL rfl rfl (AG (hc:=Blk.cell (i:=5) (s1.1) rfl) rfl rfl ?_)
   refine Ar rfl rfl ?_
   obtain ⟨k1,bA,g0⟩:=bs g0
   obtain ⟨cA,dA⟩:=AV bA
   obtain ⟨fH,gH,qD,y5,z5,a6,hH,iH,rfl,r3,s3,jH,kH,lH⟩:=y1.elem dA
   obtain ⟨p4,q4,rfl⟩:=r3.form
   obtain ⟨r4,s4,rfl⟩:=s3.form
   refine Br (hA:=y5) (hj:=(Int.toNat_of_nonneg cA).symm) (hlt:=z5) rfl rfl rfl ?_
   refine Bl (hl:=rfl) (hc:=a6) rfl rfl ?_
   refine Bi 8 aA rfl fun t4 mH e4 b0 j2=>?_
   refine Ba j2 rfl rfl rfl (Bk rfl) (allOne rfl) fun eA c0 j2=>?_
   replace j2:Lc 8 eA e4 t4 78 [(.slice p4 k1.state.length q4),(.int .i64 k1.cost),(.int .i64 k1.parent),(.int .i64 k1.op),(.slice r4 k1.used.length s4),(.bool k1.fin)]:=j2
   refine o_z ?_
   refine Al (Aj (AL rfl rfl (AG (hc:=Blk.cell (i:=3) (j2.1) rfl) rfl rfl ?_)))
   refine Fv rfl rfl rfl (fun u4=>?_) fun u4=>?_
   ·
    replace g0:=ip g0 u4
    refine o_z ?_
    refine Ah rfl (Al ?_)
    obtain ⟨f2,b6,g0⟩:=bs g0
    obtain ⟨k2,i4,g0⟩:=bs g0
    refine AJ (fun l' w'=>∃ (o1:Nat×(Option Addr×Nat)×(Option Addr×Nat)×(Option Addr×Nat)) (O':Lab),subs l' [(0,(.pointer (some ⟨p0,0,none⟩))),(7,(.pointer (some ⟨t1,0,none⟩))),(9,(.slice a0.1.1 d0.1.length a0.1.2)),(11,(.int .i64 l5)),(12,(.pointer (some ⟨t4,0,none⟩))),(13,(.pointer (some ⟨o1.1,0,none⟩))),(14,(errV f2.2.n)),(44,(.slice z0.1 f1.2.length z0.2)),(45,(.int .i64 (f1.2.length:Int))),(46,(.int .i64 (w3:Int)))]∧Bm w O0 w' O'∧Ob 2 w' O' (.pointer (some ⟨p0,0,none⟩)) x0∧Lc 7 w' O' t1 53 [(.slice a0.2.1.1 d0.2.1.length a0.2.1.2),(.slice a0.2.2.1.1 d0.2.2.1.length a0.2.2.1.2),(.slice a0.2.2.2.1 d0.2.2.2.length a0.2.2.2.2)]∧Vb w' (Fr 0 w' O') (.slice a0.2.1.1 d0.2.1.length a0.2.1.2) d0.2.1∧Vb w' (Fr 0 w' O') (.slice a0.2.2.1.1 d0.2.2.1.length a0.2.2.1.2) d0.2.2.1∧Vb w' (Fr 0 w' O') (.slice a0.2.2.2.1 d0.2.2.2.length a0.2.2.2.2) d0.2.2.2∧Rw 10 w' O' 3 (.slice a0.1.1 d0.1.length a0.1.2) d0.1∧Lc 8 w' O' t4 78 [(.slice p4 k1.state.length q4),(.int .i64 k1.cost),(.int .i64 k1.parent),(.int .i64 k1.op),(.slice r4 k1.used.length s4),(.bool k1.fin)]∧Vb w' (Fr 0 w' O') (.slice p4 k1.state.length q4) k1.state∧Vb w' (Fr 0 w' O') (.slice r4 k1.used.length s4) k1.used∧Lc 9 w' O' o1.1 53 [(.slice o1.2.1.1 k2.1.length o1.2.1.2),(.slice o1.2.2.1.1 k2.2.1.length o1.2.2.1.2),(.slice o1.2.2.2.1 k2.2.2.length o1.2.2.2.2)]∧Vb w' (Fr 0 w' O') (.slice o1.2.1.1 k2.1.length o1.2.1.2) k2.1∧Vb w' (Fr 0 w' O') (.slice o1.2.2.1.1 k2.2.1.length o1.2.2.1.2) k2.2.1∧Vb w' (Fr 0 w' O') (.slice o1.2.2.2.1 k2.2.2.length o1.2.2.2.2) k2.2.2∧Rw 3 w' O' 3 (.slice z0.1 f1.2.length z0.2) v3∧inI64 f2.2.n) ?_ ?_
    ·
     refine Bu [(10,[9])] e4 ?_
     refine AR (fuel:=7) [] [(0,true),(1,true),(2,true),(3,true),(4,true)] (by kernel_rfl) rfl ?_
     refine AM rfl rfl rfl (Dy rfl rfl rfl (Bd rfl rfl rfl ?_))
     replace s1:=(s1.st b0).st c0
     refine CV (hl:=rfl) (hb:=fun w' ⟨O',hq⟩=>(Fy 0 4 ((s1.st hq (by decide)).1).cellsAt)) rfl rfl rfl ?_
     replace e0:=((e0.st k0).st b0).st c0
     refine CV (hl:=rfl) (hb:=fun w' ⟨O',hq⟩=>((e0.st hq (by decide)).1).cellsAt) rfl rfl rfl ?_
     refine AC ?_
     refine ES (i:=5) (j:=9) (by kernel_rfl) rfl rfl ?_ ?_
     ·
      replace c1:=((c1.st k0).st b0).st c0
      replace d1:=((d1.st k0).st b0).st c0
      replace e1:=((e1.st k0).st b0).st c0
      replace g1:=(g1.st b0).st c0
      replace h1:=(h1.st b0).st c0
      replace i1:=(i1.st b0).st c0
      replace j1:=(j1.st b0).st c0
      refine Bq (O:=e4) (R:=fun w' F v=>T2 w' F v f2) (Ga Fr.lt (Vb.ofAgg (cs:=[(.slice p5 x0.t.vars.length q5),(.slice r5 x0.t.init.length t5),(.slice u5 x0.t.goal.length v5),(.slice w5 x0.t.ops.length x5)]) (x:=(⟨x0.t.vars,x0.t.init,x0.t.goal,x0.t.ops⟩:Tsk)) rfl ⟨_,_,_,_,rfl,g1,h1,i1,j1⟩) (Vb.ofAgg (cs:=[(.slice a0.2.1.1 d0.2.1.length a0.2.1.2),(.slice a0.2.2.1.1 d0.2.2.1.length a0.2.2.1.2),(.slice a0.2.2.2.1 d0.2.2.2.length a0.2.2.2.2)]) (x:=(⟨d0.2.1,d0.2.2.1,d0.2.2.2⟩:Swp)) rfl ⟨_,_,_,rfl,c1,d1,e1⟩) b6) rfl rfl fun nH oH fA a1 gA=>?_
      obtain ⟨pH,qH,rfl,iA,jA⟩:=gA
      obtain ⟨rD,rfl,rH,sH,tH,rfl,c6,d6,e6⟩:=iA
      obtain ⟨f6,g6,rfl⟩:=c6.form
      obtain ⟨h6,i6,rfl⟩:=d6.form
      obtain ⟨j6,k6,rfl⟩:=e6.form
      obtain ⟨rfl,kA⟩:=jA.err
      have hZ:=a1.lst [] (fun _ h=>h.elim)
      refine AT [(10,[9])] hZ (by kernel_rfl) ?_
      refine AR (fuel:=4) [] [(6,true),(7,true)] (by kernel_rfl) rfl ?_
      refine AM rfl rfl rfl (Hq rfl rfl rfl rfl (AC ?_))
      refine AR (fuel:=3) [9] [(8,true)] (by kernel_rfl) rfl ?_
      refine Hq rfl rfl rfl rfl (AC ?_)
      refine AO (i:=9) (by kernel_rfl) rfl ?_
      refine Bi 9 fA rfl fun l6 uH lA s0 x3=>?_
      have hZ:=s0.lst [] (fun _ h=>h.elim)
      refine AT [(10,[9])] hZ (by kernel_rfl) ?_
      refine AO (i:=10) (by kernel_rfl) rfl ?_
      refine Ba x3 rfl rfl rfl (Bk rfl) (allOne rfl) fun mA t0 x3=>?_
      replace x3:Lc 9 mA lA l6 53 [(.slice f6 f2.1.vars.length g6),(.slice h6 f2.1.vals.length i6),(.slice j6 f2.1.ops.length k6)]:=x3
      have hZ:=t0.lst [9] (fun _ h=>by cases h;decide)
      refine AT [] hZ (by kernel_rfl) ?_
      refine AR (fuel:=0) [] [(11,true)] (by kernel_rfl) rfl ?_
      refine DW rfl rfl rfl (AC ?_)
      refine Bn (by kernel_rfl) ?_
      replace s1:=((s1.st a1).st s0).st t0
      replace g1:=((g1.st a1).st s0).st t0
      replace h1:=((h1.st a1).st s0).st t0
      replace i1:=((i1.st a1).st s0).st t0
      replace j1:=((j1.st a1).st s0).st t0
      replace c2:=((((c2.st b0).st c0).st a1).st s0).st t0
      replace y1:=((((y1.st b0).st c0).st a1).st s0).st t0
      replace d2:=((((d2.st b0).st c0).st a1).st s0).st t0
      replace e2:=((((e2.st b0).st c0).st a1).st s0).st t0
      obtain ⟨vH,p1,sD,tD,nA⟩:=Ors.shut (x:=x0) (l0:=2) (l1:=4) (l2:=5) (l3:=6) (by decide) s1 g1 h1 i1 j1 c2 y1 d2 e2 o4
      obtain rfl:=sm i4
      exact ⟨(l6,(f6,g6),(h6,i6),(j6,k6)),_,⟨rfl,rfl,rfl,rfl,rfl,rfl,rfl,rfl,rfl,rfl,trivial⟩,((((((hB.st k0).st b0).st c0).st a1).st s0).st t0).st p1,nA,(((e0.st a1).st s0).st t0).st p1,(((c1.st a1).st s0).st t0).st p1,(((d1.st a1).st s0).st t0).st p1,(((e1.st a1).st s0).st t0).st p1,((((((r1.st k0).st b0).st c0).st a1).st s0).st t0).st p1,(((j2.st a1).st s0).st t0).st p1,(((((r3.st b0).st c0).st a1).st s0).st t0).st p1,(((((s3.st b0).st c0).st a1).st s0).st t0).st p1,x3.st p1,((c6.st s0).st t0).st p1,((d6.st s0).st t0).st p1,((e6.st s0).st t0).st p1,((((((h0.st k0).st b0).st c0).st a1).st s0).st t0).st p1,kA⟩
     refine Bi 9 e4 rfl fun m6 wH oA b1 f3=>?_
     have hZ:=b1.lst [] (fun _ h=>h.elim)
     refine AT [(10,[9])] hZ (by kernel_rfl) ?_
     refine AO (i:=5) (by kernel_rfl) rfl ?_
     replace c1:=(((c1.st k0).st b0).st c0).st b1
     replace d1:=(((d1.st k0).st b0).st c0).st b1
     replace e1:=(((e1.st k0).st b0).st c0).st b1
     replace g1:=((g1.st b0).st c0).st b1
     replace h1:=((h1.st b0).st c0).st b1
     replace i1:=((i1.st b0).st c0).st b1
     replace j1:=((j1.st b0).st c0).st b1
     refine Bq (O:=oA) (R:=fun w' F v=>T2 w' F v f2) (Ga Fr.lt (Vb.ofAgg (cs:=[(.slice p5 x0.t.vars.length q5),(.slice r5 x0.t.init.length t5),(.slice u5 x0.t.goal.length v5),(.slice w5 x0.t.ops.length x5)]) (x:=(⟨x0.t.vars,x0.t.init,x0.t.goal,x0.t.ops⟩:Tsk)) rfl ⟨_,_,_,_,rfl,g1,h1,i1,j1⟩) (Vb.ofAgg (cs:=[(.slice a0.2.1.1 d0.2.1.length a0.2.1.2),(.slice a0.2.2.1.1 d0.2.2.1.length a0.2.2.1.2),(.slice a0.2.2.2.1 d0.2.2.2.length a0.2.2.2.2)]) (x:=(⟨d0.2.1,d0.2.2.1,d0.2.2.2⟩:Swp)) rfl ⟨_,_,_,rfl,c1,d1,e1⟩) b6) rfl rfl fun xH yH pA y0 qA=>?_
     obtain ⟨zH,aI,rfl,rA,sA⟩:=qA
     obtain ⟨uD,rfl,bI,cI,dI,rfl,n6,o6,p6⟩:=rA
     obtain ⟨q6,r6,rfl⟩:=n6.form
     obtain ⟨s6,t6,rfl⟩:=o6.form
     obtain ⟨u6,v6,rfl⟩:=p6.form
     obtain ⟨rfl,tA⟩:=sA.err
     have hZ:=y0.lst [] (fun _ h=>h.elim)
     refine AT [(10,[9])] hZ (by kernel_rfl) ?_
     refine AR (fuel:=3) [] [(6,true),(7,true)] (by kernel_rfl) rfl ?_
     refine AM rfl rfl rfl (Hq rfl rfl rfl rfl (AC ?_))
     refine AR (fuel:=2) [9] [(8,true)] (by kernel_rfl) rfl ?_
     refine Hq rfl rfl rfl rfl (AC ?_)
     refine AO (i:=10) (by kernel_rfl) rfl ?_
     replace f3:=f3.st y0
     refine Ba f3 rfl rfl rfl (Bk rfl) (allOne rfl) fun uA u0 f3=>?_
     replace f3:Lc 9 uA pA m6 53 [(.slice q6 f2.1.vars.length r6),(.slice s6 f2.1.vals.length t6),(.slice u6 f2.1.ops.length v6)]:=f3
     have hZ:=u0.lst [9] (fun _ h=>by cases h;decide)
     refine AT [] hZ (by kernel_rfl) ?_
     refine AR (fuel:=0) [] [(11,true)] (by kernel_rfl) rfl ?_
     refine DW rfl rfl rfl (AC ?_)
     refine Bn (by kernel_rfl) ?_
     replace s1:=((s1.st b1).st y0).st u0
     replace g1:=(g1.st y0).st u0
     replace h1:=(h1.st y0).st u0
     replace i1:=(i1.st y0).st u0
     replace j1:=(j1.st y0).st u0
     replace c2:=((((c2.st b0).st c0).st b1).st y0).st u0
     replace y1:=((((y1.st b0).st c0).st b1).st y0).st u0
     replace d2:=((((d2.st b0).st c0).st b1).st y0).st u0
     replace e2:=((((e2.st b0).st c0).st b1).st y0).st u0
     obtain ⟨eI,q1,vD,wD,vA⟩:=Ors.shut (x:=x0) (l0:=2) (l1:=4) (l2:=5) (l3:=6) (by decide) s1 g1 h1 i1 j1 c2 y1 d2 e2 o4
     obtain rfl:=sm i4
     exact ⟨(m6,(q6,r6),(s6,t6),(u6,v6)),_,⟨rfl,rfl,rfl,rfl,rfl,rfl,rfl,rfl,rfl,rfl,trivial⟩,((((((hB.st k0).st b0).st c0).st b1).st y0).st u0).st q1,vA,(((e0.st b1).st y0).st u0).st q1,((c1.st y0).st u0).st q1,((d1.st y0).st u0).st q1,((e1.st y0).st u0).st q1,((((((r1.st k0).st b0).st c0).st b1).st y0).st u0).st q1,(((j2.st b1).st y0).st u0).st q1,(((((r3.st b0).st c0).st b1).st y0).st u0).st q1,(((((s3.st b0).st c0).st b1).st y0).st u0).st q1,f3.st q1,(n6.st u0).st q1,(o6.st u0).st q1,(p6.st u0).st q1,((((((h0.st k0).st b0).st c0).st b1).st y0).st u0).st q1,tA⟩
    replace hB:=((hB.st k0).st b0).st c0
    replace h0:=((h0.st k0).st b0).st c0
    replace e0:=((e0.st k0).st b0).st c0
    replace r1:=((r1.st k0).st b0).st c0
    replace c1:=((c1.st k0).st b0).st c0
    replace d1:=((d1.st k0).st b0).st c0
    replace e1:=((e1.st k0).st b0).st c0
    replace r3:=(r3.st b0).st c0
    replace s3:=(s3.st b0).st c0
    rintro fI gI ⟨o1,hI,w6,hB,y6,e0,c1,d1,e1,r1,j2,r3,s3,wA,iI,jI,xA,h0,yA⟩
    refine AP _ w6 ?_
    refine Al (Al (Aj (Ar rfl rfl (EI rfl rfl (fun v4=>?_) fun v4=>?_))))
    ·
     replace g0:=ip g0 v4
     refine o_z ?_
     refine Ah rfl (Al (Aj (Ar rfl rfl (Au rfl rfl (Au rfl rfl (o_z ?_))))))
     refine AH ?_
     obtain rfl:=sm g0
     obtain rfl:=sm (BP r0)
     obtain rfl:=q3 _ rfl
     obtain rfl:=sm (BP hm)
     obtain ⟨O',hS',hz,hl⟩:=hE.leave (fun q=>if q=2 then i0 else 0) rfl hB
     exact ret2 rfl (AD rfl) (AD rfl) ⟨O',hS',_,_,(Ob.leave y6 hz (hl 2 (by decide) (by decide)) n2.2),rfl,(Vb.mono (Vb.nil _ _) hz),(vErr yA)⟩
    replace g0:=im g0 v4
    refine o_z ?_
    refine Ae rfl (AN (Aj (Ar rfl rfl (AL rfl rfl (AG (hc:=Blk.cell (i:=2) (wA.1) rfl) rfl rfl ?_)))))
    refine AL rfl rfl (AG (hc:=Blk.cell (i:=3) (j2.1) rfl) rfl rfl ?_)
    obtain ⟨zA,aB,g0⟩:=bs g0
    obtain ⟨bB,cB⟩:=AV aB
    obtain ⟨kI,lI,xD,z6,a7,b7,rfl,dB⟩:=xA.elem' cB
    refine Br (hA:=z6) (hj:=(Int.toNat_of_nonneg bB).symm) (hlt:=a7) rfl rfl rfl ?_
    refine AG (hc:=cat0 b7) rfl rfl ?_
    obtain ⟨mI,w4,g0⟩:=bs g0
    obtain ⟨w4,eB,fB⟩:=Cf w4
    refine Dh rfl (a:=zA) r1 (vInt dB) (fun _=>rfl) rfl (by decide) (by decide) eB fB ⟨rfl,rfl⟩ fun nI gB iB oI pI g3 c7=>?_
    rw [← w4] at c7 ⊢
    refine Au rfl rfl (o_z ?_)
    obtain rfl:=sm g0
    exact ⟨_,(gB,iB),_,rfl,⟨rfl,rfl,rfl,rfl,rfl,rfl,rfl,trivial⟩,hB.st g3,y6.st g3,e0.st g3,c1.st g3,d1.st g3,e1.st g3,c7,h0.st g3⟩
   replace g0:=im g0 u4
   refine o_z ?_
   refine Ae rfl (AN ?_)
   replace s1:=(s1.st b0).st c0
   replace g1:=(g1.st b0).st c0
   replace h1:=(h1.st b0).st c0
   replace i1:=(i1.st b0).st c0
   replace j1:=(j1.st b0).st c0
   replace c2:=(c2.st b0).st c0
   replace y1:=(y1.st b0).st c0
   replace d2:=(d2.st b0).st c0
   replace e2:=(e2.st b0).st c0
   obtain ⟨qI,h3,yD,zD,jB⟩:=Ors.shut (x:=x0) (l0:=2) (l1:=4) (l2:=5) (l3:=6) (by decide) s1 g1 h1 i1 j1 c2 y1 d2 e2 o4
   obtain rfl:=sm g0
   exact ⟨_,(a0.1.1,a0.1.2),_,rfl,⟨rfl,rfl,rfl,rfl,rfl,rfl,rfl,trivial⟩,(((hB.st k0).st b0).st c0).st h3,jB,(((e0.st k0).st b0).st c0).st h3,(((c1.st k0).st b0).st c0).st h3,(((d1.st k0).st b0).st c0).st h3,(((e1.st k0).st b0).st c0).st h3,(((r1.st k0).st b0).st c0).st h3,(((h0.st k0).st b0).st c0).st h3⟩
  rintro rI sI ⟨w1,n1,tI,rfl,d7,hB,kB,e0,c1,d1,e1,z1,h0⟩
  replace r0:=Be r0
  refine AP _ d7 ?_
  refine Al (Aj (Ar rfl rfl (Dv rfl rfl ?_)))
  obtain ⟨uI,vI,wI,xI,yI,zI,aJ,bJ,cJ,a2,aE,e7,f7,g7,h7,i7,j7,x4,k7,l7,lB⟩:=Ors.opn kB 2 4 5 6 (by decide)
  obtain ⟨dJ,eJ,rfl⟩:=f7.form
  obtain ⟨fJ,gJ,rfl⟩:=g7.form
  obtain ⟨hJ,iJ,rfl⟩:=h7.form
  obtain ⟨jJ,kJ,rfl⟩:=i7.form
  obtain ⟨lJ,mJ,rfl⟩:=j7.form
  obtain ⟨nJ,oJ,rfl⟩:=x4.form
  obtain ⟨pJ,rfl⟩:=k7.mptr
  obtain ⟨qJ,rJ,rfl⟩:=l7.form
  refine AL rfl rfl (AG (hc:=Blk.cell (i:=5) (e7.1) rfl) rfl rfl ?_)
  refine Ar rfl rfl ?_
  obtain ⟨t3,mB,r0⟩:=bs r0
  obtain ⟨nB,oB⟩:=AV mB
  obtain ⟨sJ,tJ,bE,m7,n7,o7,uJ,vJ,rfl,pB,g2,wJ,xJ,yJ⟩:=x4.elem oB
  obtain ⟨zJ,aK,rfl⟩:=pB.form
  obtain ⟨p7,q7,rfl⟩:=g2.form
  refine Br (hA:=m7) (hj:=(Int.toNat_of_nonneg nB).symm) (hlt:=n7) rfl rfl rfl ?_
  refine AL rfl rfl (AG (hc:=cat4 o7) rfl rfl ?_)
  refine AZ rfl rfl ?_
  have y4:t3.used.length≤9223372036854775807:=Nat.le_trans g2.len.2.1 g2.len.2.2
  have bK:inI64 (t3.used.length:Int):=rngNat y4
  refine Ar rfl rfl (o_z ?_)
  obtain ⟨qB,u1,cE,dE,i3⟩:=Ors.shut (x:=x0) (l0:=2) (l1:=4) (l2:=5) (l3:=6) (by decide) e7 f7 g7 h7 i7 j7 x4 k7 l7 lB
  obtain ⟨z4,r7,r0⟩:=bs r0
  refine AJ (aft z4 (fun (j0:(List Int)×(List (List Int))×(List Int)) (f0:(Option Addr×Nat)×(Option Addr×Nat)×(Option Addr×Nat))=>[(0,(.pointer (some ⟨p0,0,none⟩))),(7,(.pointer (some ⟨t1,0,none⟩))),(9,(.slice n1.1 w1.length n1.2)),(44,(.slice z0.1 f1.2.length z0.2)),(45,(.int .i64 (f1.2.length:Int))),(46,(.int .i64 (w3:Int)))]) (fun j0 f0 w'=>∃ O':Lab,Bm w O0 w' O'∧Ob 2 w' O' (.pointer (some ⟨p0,0,none⟩)) x0∧Lc 7 w' O' t1 53 [(.slice f0.1.1 j0.1.length f0.1.2),(.slice f0.2.1.1 j0.2.1.length f0.2.1.2),(.slice f0.2.2.1 j0.2.2.length f0.2.2.2)]∧Vb w' (Fr 0 w' O') (.slice f0.1.1 j0.1.length f0.1.2) j0.1∧Vb w' (Fr 0 w' O') (.slice f0.2.1.1 j0.2.1.length f0.2.1.2) j0.2.1∧Vb w' (Fr 0 w' O') (.slice f0.2.2.1 j0.2.2.length f0.2.2.2) j0.2.2∧Rw 10 w' O' 3 (.slice n1.1 w1.length n1.2) w1∧Rw 3 w' O' 3 (.slice z0.1 f1.2.length z0.2) v3)) ?_ ?_
  ·
   refine AU ?_
   replace hB:=(hB.st a2).st u1
   replace h0:=(h0.st a2).st u1
   replace e0:=(e0.st a2).st u1
   replace c1:=(c1.st a2).st u1
   replace d1:=(d1.st a2).st u1
   replace e1:=(e1.st a2).st u1
   replace z1:=(z1.st a2).st u1
   replace g2:=g2.st u1
   refine Bt (σ:=(List Int)×(List (List Int))×(List Int)) (X:=(Option Addr×Nat)×(Option Addr×Nat)×(Option Addr×Nat)) (t3.used.length) r7 rfl y4 (fun (j0:(List Int)×(List (List Int))×(List Int)) (f0:(Option Addr×Nat)×(Option Addr×Nat)×(Option Addr×Nat))=>[(0,(.pointer (some ⟨p0,0,none⟩))),(7,(.pointer (some ⟨t1,0,none⟩))),(9,(.slice n1.1 w1.length n1.2)),(44,(.slice z0.1 f1.2.length z0.2)),(45,(.int .i64 (f1.2.length:Int))),(46,(.int .i64 (w3:Int))),(88,(.slice p7 t3.used.length q7))]) _ (fun j0 f0 w'=>∃ O':Lab,Bm w O0 w' O'∧Ob 2 w' O' (.pointer (some ⟨p0,0,none⟩)) x0∧Lc 7 w' O' t1 53 [(.slice f0.1.1 j0.1.length f0.1.2),(.slice f0.2.1.1 j0.2.1.length f0.2.1.2),(.slice f0.2.2.1 j0.2.2.length f0.2.2.2)]∧Vb w' (Fr 0 w' O') (.slice f0.1.1 j0.1.length f0.1.2) j0.1∧Vb w' (Fr 0 w' O') (.slice f0.2.1.1 j0.2.1.length f0.2.1.2) j0.2.1∧Vb w' (Fr 0 w' O') (.slice f0.2.2.1 j0.2.2.length f0.2.2.2) j0.2.2∧Rw 10 w' O' 3 (.slice n1.1 w1.length n1.2) w1∧Rw 3 w' O' 3 (.slice z0.1 f1.2.length z0.2) v3∧Vb w' (Fr 0 w' O') (.slice p7 t3.used.length q7) t3.used) _ ((a0.2.1.1,a0.2.1.2),(a0.2.2.1.1,a0.2.2.1.2),(a0.2.2.2.1,a0.2.2.2.2)) ⟨qB,hB,i3,e0,c1,d1,e1,z1,h0,g2⟩ ⟨rfl,rfl,rfl,rfl,rfl,rfl,rfl,rfl,rfl,trivial⟩ (fun _ _=>⟨rfl,rfl⟩) (fun _ _=>⟨rfl,rfl,rfl,rfl,rfl,rfl,trivial⟩) (fun _ _ _ ⟨O',hB,i3,e0,j3,k3,m3,z1,h0,g2⟩=>⟨O',hB,i3,e0,j3,k3,m3,z1,h0⟩) ⟨rfl,rfl,rfl⟩ ⟨rfl,rfl⟩ ?_
   rintro rB cK j0 f0 dK eE j4 ⟨eK,hB,i3,e0,j3,k3,m3,z1,h0,g2⟩ m1 f4 r8
   have rk498:inI64 (rB:Int):=rngK j4 y4
   refine Al (Aj ?_)
   obtain ⟨fK,gK,fE,s7,t7,u7,rfl,hK⟩:=g2.elem' j4
   refine Br (hA:=s7) (hj:=rfl) (hlt:=t7) rfl rfl rfl ?_
   refine AG (hc:=cat0 u7) rfl rfl ?_
   refine Au rfl rfl (o_z ?_)
   refine Al ?_
   obtain ⟨v7,iK,jK,kK,lK,mK,nK,oK,pK,m2,gE,s2,t2,u2,v2,w2,x2,n3,o3,p3,w7⟩:=Ors.opn i3 2 4 5 6 (by decide)
   obtain ⟨sB,tB,rfl⟩:=t2.form
   obtain ⟨uB,vB,rfl⟩:=u2.form
   obtain ⟨wB,xB,rfl⟩:=v2.form
   obtain ⟨yB,zB,rfl⟩:=w2.form
   obtain ⟨qK,rK,rfl⟩:=x2.form
   obtain ⟨sK,tK,rfl⟩:=n3.form
   obtain ⟨uK,rfl⟩:=o3.mptr
   obtain ⟨vK,wK,rfl⟩:=p3.form
   refine Bu [(16,[7])] v7 ?_
   refine AR (fuel:=6) [] [(0,true),(1,true),(2,true),(3,true),(4,true),(5,true),(6,true),(7,true),(8,true),(9,true),(10,true),(11,true)] (by kernel_rfl) rfl ?_
   refine AM rfl rfl rfl (Dy rfl rfl rfl (Bd rfl rfl rfl (CV (hl:=rfl) (hb:=fun w' ⟨O',hq⟩=>(Fy 0 4 ((s2.st hq (by decide)).1).cellsAt)) rfl rfl rfl ?_)))
   replace e0:=e0.st m2
   refine CV (hl:=rfl) (hb:=fun w' ⟨O',hq⟩=>((e0.st hq (by decide)).1).cellsAt) rfl rfl rfl ?_
   refine AM rfl rfl rfl (Dy rfl rfl rfl (Bd rfl rfl rfl (AW (hc:=fun w' ⟨O',hq⟩=>Blk.cell (i:=4) ((s2.st hq (by decide)).1) rfl) rfl rfl rfl ?_)))
   refine AM rfl rfl rfl ?_
   obtain ⟨g4,aC,m1⟩:=bs m1
   obtain ⟨bC,cC⟩:=AV aC
   obtain ⟨xK,yK,iE,x7,y7,z7,a8,zK,aL,bL,rfl,b8,c8,d8⟩:=x2.elem cC
   obtain ⟨dC,eC,rfl⟩:=b8.form
   obtain ⟨fC,gC,rfl⟩:=c8.form
   obtain ⟨hC,iC,rfl⟩:=d8.form
   refine BB (hA:=x7) (hj:=(Int.toNat_of_nonneg bC).symm) (hlt:=z7) rfl rfl rfl rfl ?_
   refine CV (hl:=rfl) (hb:=fun w' ⟨O',hq⟩=>(AX (hq.agree (i:=0) (by decide)) y7 a8)) rfl rfl rfl ?_
   refine AC ?_
   refine AO (i:=12) (by kernel_rfl) rfl ?_
   obtain ⟨h4,jC,m1⟩:=bs m1
   replace j3:=j3.st m2
   replace k3:=k3.st m2
   replace m3:=m3.st m2
   refine Bq (O:=v7) (R:=fun w' F v=>T2 w' F v h4) (Ij Fr.lt (Vb.ofAgg (cs:=[(.slice sB x0.t.vars.length tB),(.slice uB x0.t.init.length vB),(.slice wB x0.t.goal.length xB),(.slice yB x0.t.ops.length zB)]) (x:=(⟨x0.t.vars,x0.t.init,x0.t.goal,x0.t.ops⟩:Tsk)) rfl ⟨_,_,_,_,rfl,t2,u2,v2,w2⟩) (Vb.ofAgg (cs:=[(.slice f0.1.1 j0.1.length f0.1.2),(.slice f0.2.1.1 j0.2.1.length f0.2.1.2),(.slice f0.2.2.1 j0.2.2.length f0.2.2.2)]) (x:=(⟨j0.1,j0.2.1,j0.2.2⟩:Swp)) rfl ⟨_,_,_,rfl,j3,k3,m3⟩) (Vb.ofAgg (cs:=[(.slice dC g4.vars.length eC),(.slice fC g4.vals.length gC),(.slice hC g4.ops.length iC)]) (x:=g4) rfl ⟨_,_,_,rfl,b8,c8,d8⟩) jC) rfl rfl fun cL dL kC q0 lC=>?_
   obtain ⟨eL,fL,rfl,mC,nC⟩:=lC
   obtain ⟨jE,rfl,gL,hL,iL,rfl,e8,f8,g8⟩:=mC
   obtain ⟨h8,i8,rfl⟩:=e8.form
   obtain ⟨j8,k8,rfl⟩:=f8.form
   obtain ⟨l8,m8,rfl⟩:=g8.form
   obtain ⟨rfl,oC⟩:=nC.err
   have hZ:=q0.lst [] (fun _ h=>h.elim)
   refine AT [(16,[7])] hZ (by kernel_rfl) ?_
   refine AR (fuel:=3) [] [(13,true),(14,true)] (by kernel_rfl) rfl ?_
   refine AM rfl rfl rfl (Hq rfl rfl rfl rfl (AC ?_))
   refine AR (fuel:=2) [7] [(15,true)] (by kernel_rfl) rfl ?_
   refine Hq rfl rfl rfl rfl (AC ?_)
   refine AO (i:=16) (by kernel_rfl) rfl ?_
   replace e0:=e0.st q0
   refine Ba e0 rfl rfl rfl (Bk rfl) (allOne rfl) fun pC m0 e0=>?_
   replace e0:Lc 7 pC kC t1 53 [(.slice h8 h4.1.vars.length i8),(.slice j8 h4.1.vals.length k8),(.slice l8 h4.1.ops.length m8)]:=e0
   have hZ:=m0.lst [7] (fun _ h=>by cases h;decide)
   refine AT [] hZ (by kernel_rfl) ?_
   refine AR (fuel:=0) [] [(17,true)] (by kernel_rfl) rfl ?_
   refine DW rfl rfl rfl (AC ?_)
   refine Bn (by kernel_rfl) ?_
   refine Al (Aj (Ar rfl rfl (EI rfl rfl (fun a5=>?_) fun a5=>?_)))
   ·
    replace m1:=ip m1 a5
    refine o_z ?_
    refine Ah rfl (Al (Aj (Ar rfl rfl (Au rfl rfl (Au rfl rfl (o_z ?_))))))
    refine AH ?_
    replace s2:=(s2.st q0).st m0
    replace t2:=(t2.st q0).st m0
    replace u2:=(u2.st q0).st m0
    replace v2:=(v2.st q0).st m0
    replace w2:=(w2.st q0).st m0
    replace x2:=(x2.st q0).st m0
    replace n3:=(n3.st q0).st m0
    replace o3:=(o3.st q0).st m0
    replace p3:=(p3.st q0).st m0
    obtain ⟨jL,qC,kE,lE,rC⟩:=Ors.shut (x:=x0) (l0:=2) (l1:=4) (l2:=5) (l3:=6) (by decide) s2 t2 u2 v2 w2 x2 n3 o3 p3 w7
    obtain rfl:=sm m1
    obtain rfl:=f4 _ rfl
    obtain rfl:=sm (BP r0)
    obtain rfl:=q3 _ rfl
    obtain rfl:=sm (BP hm)
    replace hB:=(((hB.st m2).st q0).st m0).st qC
    obtain ⟨O',hS',hz,hl⟩:=hE.leave (fun q=>if q=2 then i0 else 0) rfl hB
    exact ret2 rfl (AD rfl) (AD rfl) ⟨O',hS',_,_,(Ob.leave rC hz (hl 2 (by decide) (by decide)) n2.2),rfl,(Vb.mono (Vb.nil _ _) hz),(vErr oC)⟩
   replace m1:=im m1 a5
   refine o_z ?_
   refine Ae rfl (AN ?_)
   replace s2:=(s2.st q0).st m0
   replace t2:=(t2.st q0).st m0
   replace u2:=(u2.st q0).st m0
   replace v2:=(v2.st q0).st m0
   replace w2:=(w2.st q0).st m0
   replace x2:=(x2.st q0).st m0
   replace n3:=(n3.st q0).st m0
   replace o3:=(o3.st q0).st m0
   replace p3:=(p3.st q0).st m0
   obtain ⟨kL,y2,mE,nE,sC⟩:=Ors.shut (x:=x0) (l0:=2) (l1:=4) (l2:=5) (l3:=6) (by decide) s2 t2 u2 v2 w2 x2 n3 o3 p3 w7
   obtain rfl:=sm m1
   exact show Exists _ from ⟨_,((h8,i8),(j8,k8),(l8,m8)),rfl,⟨rfl,rfl,rfl,rfl,rfl,rfl,rfl,rfl,rfl,trivial⟩,_,(((hB.st m2).st q0).st m0).st y2,sC,e0.st y2,(e8.st m0).st y2,(f8.st m0).st y2,(g8.st m0).st y2,(((z1.st m2).st q0).st m0).st y2,(((h0.st m2).st q0).st m0).st y2,(((g2.st m2).st q0).st m0).st y2⟩
  replace hB:=(hB.st a2).st u1
  replace h0:=(h0.st a2).st u1
  replace e0:=(e0.st a2).st u1
  replace z1:=(z1.st a2).st u1
  rintro lL mL ⟨nL,u3,rfl,h2,oL,hB,i3,e0,j3,k3,m3,z1,h0⟩
  replace r0:=Be r0
  obtain rfl:=sm r0
  exact show Exists _ from ⟨_,((n1.1,n1.2),(u3.1.1,u3.1.2),(u3.2.1.1,u3.2.1.2),(u3.2.2.1,u3.2.2.2)),rfl,⟨(BN h2 _ _ rfl),(BN h2 _ _ rfl),(BN h2 _ _ rfl),(BN h2 _ _ rfl),(BN h2 _ _ rfl),(BN h2 _ _ rfl),trivial⟩,_,hB,i3,e0,j3,k3,m3,z1,h0⟩
 replace hB:=(((((hB.st y3).st z3).st w0).st n0).st o0).st e3
 rintro pL qL ⟨rL,sL,rfl,n8,tL,hB,r1,i2⟩
 replace hm:=Be hm
 refine AP _ n8 ?_
 refine Al (Aj (Ar rfl rfl (Au rfl rfl (Au rfl rfl (o_z ?_)))))
 refine AH ?_
 obtain ⟨uL,o8,r1⟩:=r1.freeze
 obtain rfl:=sm hm
 replace hB:=hB.st o8
 obtain ⟨O',hS',hz,hl⟩:=hE.leave (fun q=>if q=2 then i0 else 0) rfl hB
 replace i2:=i2.st o8
 exact ret2 rfl (AD rfl) (AD rfl) ⟨O',hS',_,_,(Ob.leave i2 hz (hl 2 (by decide) (by decide)) n2.2),rfl,(Vb.mono r1 hz),(vErr (show inI64 0 from by decide))⟩
noncomputable def CJ (x0:Tsk) (x1:List Swp) (x2:Int):Option (Rsl×Err) :=
  bnd (CF x0) fun q33=>if q33.n≠0 then (some ((⟨0,([]:List Int),0,0⟩:Rsl),(⟨q33.n⟩:Err))) else (bnd (rng (ρ:=Rsl×Err) (fun (k50:Nat) (a51:Swp) (s48:Unit)=>bnd (CG x0 a51) fun q87=>if q87=true then some (.next ()) else some (.ret ((⟨0,([]:List Int),0,0⟩:Rsl),(⟨2⟩:Err)))) x1 0 ()) fun res46=>fin res46 fun (s100:Unit)=>bnd (Ez x0) fun q102=>if q102.2.n≠0 then (some ((⟨0,([]:List Int),0,0⟩:Rsl),(⟨q102.2.n⟩:Err))) else (bnd (BZ (⟨(⟨x0.vars,x0.init,x0.goal,x0.ops⟩:Tsk),x1,([]:List ONd),(⟨[]⟩:MapP ByteArray Int),([]:List OEn),0⟩:Ors) x0.init 0 (-1) (-1)) fun q138=>if q138.1.n≠0 then (some ((⟨0,([]:List Int),0,0⟩:Rsl),(⟨q138.1.n⟩:Err))) else (bnd (lop (ρ:=Rsl×Err) (fun (s153:Int×Ors)=>bnd (Cb s153.2.open_) fun q208=>if q208=0 then (some (.ret ((⟨2,([]:List Int),0,s153.1⟩:Rsl),(⟨0⟩:Err)))) else (bnd (CI (⟨s153.2.open_⟩:BxR 67 73 OEn)) fun q224=>bnd (bnd (atI s153.2.nodes q224.1.x.node) fun a259=>if a259.fin=true then (some true) else (bnd (atI s153.2.nodes q224.1.x.node) fun a287=>if a287.cost < q224.1.x.cost then (some true) else (some false)):Option Bool) fun y255=>if y255=true then (some (.next (s153.1,(⟨(⟨s153.2.t.vars,s153.2.t.init,s153.2.t.goal,s153.2.t.ops⟩:Tsk),s153.2.gens,s153.2.nodes,s153.2.tab,q224.2.l,s153.2.number⟩:Ors)))) else (bnd (atI ((⟨(⟨s153.2.t.vars,s153.2.t.init,s153.2.t.goal,s153.2.t.ops⟩:Tsk),s153.2.gens,s153.2.nodes,s153.2.tab,q224.2.l,s153.2.number⟩:Ors).nodes) q224.1.x.node) fun a363=>bnd (Eh x0.goal a363.state) fun q392=>if q392=true then bnd (CB (⟨(⟨s153.2.t.vars,s153.2.t.init,s153.2.t.goal,s153.2.t.ops⟩:Tsk),s153.2.gens,s153.2.nodes,s153.2.tab,q224.2.l,s153.2.number⟩:Ors) q224.1.x.node) fun q540=>if q540.2.n≠0 then (some (.ret ((⟨0,([]:List Int),0,0⟩:Rsl),(⟨q540.2.n⟩:Err)))) else (some (.ret ((⟨1,q540.1,a363.cost,s153.1⟩:Rsl),(⟨0⟩:Err)))) else if x2≤s153.1 then (some (.ret ((⟨3,([]:List Int),0,s153.1⟩:Rsl),(⟨0⟩:Err)))) else (bnd (chkI (s153.1 + 1)) fun n402=>bnd (atI ((⟨(⟨s153.2.t.vars,s153.2.t.init,s153.2.t.goal,s153.2.t.ops⟩:Tsk),s153.2.gens,s153.2.nodes,s153.2.tab,q224.2.l,s153.2.number⟩:Ors).nodes) q224.1.x.node) fun a405=>bnd (BJ q102.1 a363.state) fun q440=>bnd (rng (ρ:=Ctl (Int×Ors) (Rsl×Err)) (fun (k460:Nat) (a461:Suc) (s458:Ors)=>bnd (atI x0.ops a461.op) fun a492=>bnd (chkI (a363.cost + a492.cost)) fun n513=>bnd (BZ s458 a461.state n513 q224.1.x.node a461.op) fun q516=>if q516.1.n≠0 then (some (.ret (.ret ((⟨0,([]:List Int),0,0⟩:Rsl),(⟨q516.1.n⟩:Err))))) else (some (.next q516.2))) q440 0 (⟨(⟨(⟨(⟨s153.2.t.vars,s153.2.t.init,s153.2.t.goal,s153.2.t.ops⟩:Tsk),s153.2.gens,s153.2.nodes,s153.2.tab,q224.2.l,s153.2.number⟩:Ors).t.vars,(⟨(⟨s153.2.t.vars,s153.2.t.init,s153.2.t.goal,s153.2.t.ops⟩:Tsk),s153.2.gens,s153.2.nodes,s153.2.tab,q224.2.l,s153.2.number⟩:Ors).t.init,(⟨(⟨s153.2.t.vars,s153.2.t.init,s153.2.t.goal,s153.2.t.ops⟩:Tsk),s153.2.gens,s153.2.nodes,s153.2.tab,q224.2.l,s153.2.number⟩:Ors).t.goal,(⟨(⟨s153.2.t.vars,s153.2.t.init,s153.2.t.goal,s153.2.t.ops⟩:Tsk),s153.2.gens,s153.2.nodes,s153.2.tab,q224.2.l,s153.2.number⟩:Ors).t.ops⟩:Tsk),(⟨(⟨s153.2.t.vars,s153.2.t.init,s153.2.t.goal,s153.2.t.ops⟩:Tsk),s153.2.gens,s153.2.nodes,s153.2.tab,q224.2.l,s153.2.number⟩:Ors).gens,(((⟨(⟨s153.2.t.vars,s153.2.t.init,s153.2.t.goal,s153.2.t.ops⟩:Tsk),s153.2.gens,s153.2.nodes,s153.2.tab,q224.2.l,s153.2.number⟩:Ors).nodes).set (q224.1.x.node:Int).toNat ({ a405 with fin:=true }:ONd)),(⟨(⟨s153.2.t.vars,s153.2.t.init,s153.2.t.goal,s153.2.t.ops⟩:Tsk),s153.2.gens,s153.2.nodes,s153.2.tab,q224.2.l,s153.2.number⟩:Ors).tab,(⟨(⟨s153.2.t.vars,s153.2.t.init,s153.2.t.goal,s153.2.t.ops⟩:Tsk),s153.2.gens,s153.2.nodes,s153.2.tab,q224.2.l,s153.2.number⟩:Ors).open_,(⟨(⟨s153.2.t.vars,s153.2.t.init,s153.2.t.goal,s153.2.t.ops⟩:Tsk),s153.2.gens,s153.2.nodes,s153.2.tab,q224.2.l,s153.2.number⟩:Ors).number⟩:Ors)) fun res456=>fin res456 fun (s533:Ors)=>some (.next (n402,s533)))))) (0,q138.2)) fun res151=>fin res151 fun (_:Int×Ors)=>none)))
theorem Hk {w:World} {A:Nat→Prop} (hA:∀ k,A k→k < w.heap.size) {vx0:Value} {x0:Tsk} (k8:Vb w A vx0 x0) {vx1:Value} {x1:List Swp} (i2:Vb w A vx1 x1) {x2:Int} (rx2:inI64 x2) {r:Rsl×Err} (hm:CJ x0 x1 x2=some r) :
    Fn Tryz.prog 12 [vx0,vx1,(.int .i64 x2)] w fun v w'=>Ext w w'∧T2 w' (upA A w w') v r:=by
 obtain ⟨O,hB,tC⟩:=enter hA
 replace k8:=k8.mono tC
 obtain ⟨nK,rfl,v5,v6,v7,v8,rfl,h9,w0,y0,z0⟩:=k8
 obtain ⟨j2,k2,rfl⟩:=h9.form
 obtain ⟨m2,n2,rfl⟩:=w0.form
 obtain ⟨o2,p2,rfl⟩:=y0.form
 obtain ⟨q2,r2,rfl⟩:=z0.form
 replace i2:=i2.mono tC
 obtain ⟨n5,o5,rfl⟩:=i2.form
 refine AK Tryz.func12 rfl Tryz.ntmps12 rfl ?_
 unfold CJ at hm
 refine Al (Aj (BO 2 O rfl rfl fun i3 lE uC i4 t0=>?_))
 replace t0:Lc 2 lE uC i3 26 [(.slice j2 x0.vars.length k2),(.slice m2 x0.init.length n2),(.slice o2 x0.goal.length p2),(.slice q2 x0.ops.length r2)]:=t0
 refine Bi 3 uC rfl fun q1 vC wC u3 j0=>?_
 refine Au rfl rfl (o_z ?_)
 refine Al (Al (Aj ?_))
 replace t0:=t0.st u3
 refine Bl (hl:=rfl) (hc:=(t0.1).cellsAt) rfl rfl ?_
 obtain ⟨mE,nE,hm⟩:=bs hm
 replace h9:=(h9.st i4).st u3
 replace w0:=(w0.st i4).st u3
 replace y0:=(y0.st i4).st u3
 replace z0:=(z0.st i4).st u3
 refine Bg (O:=wC) (A:=All vC) (R:=fun w' F v=>Vb w' F v mE) (GG (fun _ h=>h) (Vb.mono (F:=Fr 0 vC wC) (Vb.ofAgg (cs:=[(.slice j2 x0.vars.length k2),(.slice m2 x0.init.length n2),(.slice o2 x0.goal.length p2),(.slice q2 x0.ops.length r2)]) (x:=x0) rfl ⟨_,_,_,_,rfl,h9,w0,y0,z0⟩) Fr.lt) nE) rfl rfl fun oK pK l8 s2 oE=>?_
 obtain ⟨rfl,pE⟩:=oE.err
 refine Au rfl rfl (o_z ?_)
 refine Al (Aj (Ar rfl rfl (EI rfl rfl (fun m8=>?_) fun m8=>?_)))
 ·
  replace hm:=ip hm m8
  refine o_z ?_
  refine Ah rfl (Al (Aj (Df rfl rfl rfl ?_)))
  refine Ar rfl rfl ?_
  replace j0:=j0.st s2
  refine Ba j0 rfl rfl rfl (Bk rfl) (allOne rfl) fun xC qE j0=>?_
  replace j0:Lc 3 xC l8 q1 32 [(.int .i64 0),(.slice none 0 0),(.int .i64 0),(.int .i64 0)]:=j0
  refine Au rfl rfl (o_z ?_)
  refine AH ?_
  obtain rfl:=sm hm
  replace hB:=(((hB.st i4).st u3).st s2).st qE
  exact ret2 rfl (Cm (cs:=[(.int .i64 0),(.slice none 0 0),(.int .i64 0),(.int .i64 0)]) rfl rfl j0.1.cellsAt) (AD rfl) ⟨hB.ext,_,_,rfl,(Vb.mono (F:=Fr 0 xC l8) (Vb.ofAgg (cs:=[(.int .i64 0),(.slice none 0 0),(.int .i64 0),(.int .i64 0)]) (x:=(⟨0,([]:List Int),0,0⟩:Rsl)) rfl ⟨_,rfl,(Vb.nil _ _),(show inI64 0 from by decide),(show inI64 0 from by decide),(show inI64 0 from by decide)⟩) hB.out),(vErr pE)⟩
 replace hm:=im hm m8
 refine o_z ?_
 refine Ae rfl (AN (Al (Al (Aj (Ar rfl rfl (AZ rfl rfl ?_))))))
 replace i2:=((i2.st i4).st u3).st s2
 have n8:x1.length≤9223372036854775807:=Nat.le_trans i2.len.2.1 i2.len.2.2
 have qK:inI64 (x1.length:Int):=rngNat n8
 refine Ar rfl rfl (o_z ?_)
 obtain ⟨p5,o8,hm⟩:=bs hm
 refine AJ (aft p5 (fun (b8:Unit) (c8:Unit)=>[(1,(.slice n5 x1.length o5)),(2,(.int .i64 x2)),(3,(.pointer (some ⟨i3,0,none⟩))),(6,(.pointer (some ⟨q1,0,none⟩)))]) (fun b8 c8 w'=>∃ O':Lab,Bs w A w' O'∧Vb w' (Fr 0 w' O') (.slice n5 x1.length o5) x1∧Lc 2 w' O' i3 26 [(.slice j2 x0.vars.length k2),(.slice m2 x0.init.length n2),(.slice o2 x0.goal.length p2),(.slice q2 x0.ops.length r2)]∧Vb w' (Fr 0 w' O') (.slice j2 x0.vars.length k2) x0.vars∧Vb w' (Fr 0 w' O') (.slice m2 x0.init.length n2) x0.init∧Vb w' (Fr 0 w' O') (.slice o2 x0.goal.length p2) x0.goal∧Vb w' (Fr 0 w' O') (.slice q2 x0.ops.length r2) x0.ops∧Lc 3 w' O' q1 32 [(.int .i64 0),(.slice none 0 0),(.int .i64 0),(.int .i64 0)])) ?_ ?_
 ·
  refine AU ?_
  replace hB:=((hB.st i4).st u3).st s2
  replace h9:=h9.st s2
  replace w0:=w0.st s2
  replace y0:=y0.st s2
  replace z0:=z0.st s2
  replace t0:=t0.st s2
  replace j0:=j0.st s2
  refine Bt (σ:=Unit) (X:=Unit) (x1.length) o8 rfl n8 (fun (b8:Unit) (c8:Unit)=>[(1,(.slice n5 x1.length o5)),(2,(.int .i64 x2)),(3,(.pointer (some ⟨i3,0,none⟩))),(6,(.pointer (some ⟨q1,0,none⟩))),(30,(.slice n5 x1.length o5))]) _ (fun b8 c8 w'=>∃ O':Lab,Bs w A w' O'∧Vb w' (Fr 0 w' O') (.slice n5 x1.length o5) x1∧Lc 2 w' O' i3 26 [(.slice j2 x0.vars.length k2),(.slice m2 x0.init.length n2),(.slice o2 x0.goal.length p2),(.slice q2 x0.ops.length r2)]∧Vb w' (Fr 0 w' O') (.slice j2 x0.vars.length k2) x0.vars∧Vb w' (Fr 0 w' O') (.slice m2 x0.init.length n2) x0.init∧Vb w' (Fr 0 w' O') (.slice o2 x0.goal.length p2) x0.goal∧Vb w' (Fr 0 w' O') (.slice q2 x0.ops.length r2) x0.ops∧Lc 3 w' O' q1 32 [(.int .i64 0),(.slice none 0 0),(.int .i64 0),(.int .i64 0)]) _ () ⟨l8,hB,i2,t0,h9,w0,y0,z0,j0⟩ ⟨rfl,rfl,rfl,rfl,rfl,rfl,rfl,trivial⟩ (fun _ _=>⟨rfl,rfl⟩) (fun _ _=>⟨rfl,rfl,rfl,rfl,trivial⟩) (fun _ _ _ ⟨O',hB,i2,t0,h9,w0,y0,z0,j0⟩=>⟨O',hB,i2,t0,h9,w0,y0,z0,j0⟩) ⟨rfl,rfl,rfl⟩ ⟨rfl,rfl⟩ ?_
  rintro rE l4 b8 c8 rK sE q5 ⟨tE,hB,i2,t0,h9,w0,y0,z0,j0⟩ t2 m4 p8
  have rk50:inI64 (rE:Int):=rngK q5 n8
  refine Al (Aj ?_)
  obtain ⟨sK,tK,uE,q8,r8,s8,uK,vK,wK,rfl,d8,e8,f8⟩:=i2.elem' q5
  obtain ⟨yC,zC,rfl⟩:=d8.form
  obtain ⟨aD,bD,rfl⟩:=e8.form
  obtain ⟨cD,dD,rfl⟩:=f8.form
  refine Br (hA:=q8) (hj:=rfl) (hlt:=r8) rfl rfl rfl ?_
  refine Bl (hl:=rfl) (hc:=s8) rfl rfl ?_
  refine Bi 4 tE rfl fun vE xK g8 j3 r5=>?_
  refine Ba r5 rfl rfl rfl (Bk rfl) (allOne rfl) fun h8 k3 r5=>?_
  replace r5:Lc 4 h8 g8 vE 53 [(.slice yC l4.vars.length zC),(.slice aD l4.vals.length bD),(.slice cD l4.ops.length dD)]:=r5
  refine o_z ?_
  refine Al (Aj ?_)
  replace t0:=(t0.st j3).st k3
  refine Bl (hl:=rfl) (hc:=(t0.1).cellsAt) rfl rfl ?_
  refine Bl (hl:=rfl) (hc:=(r5.1).cellsAt) rfl rfl ?_
  obtain ⟨eD,wE,t2⟩:=bs t2
  replace h9:=(h9.st j3).st k3
  replace w0:=(w0.st j3).st k3
  replace y0:=(y0.st j3).st k3
  replace z0:=(z0.st j3).st k3
  replace d8:=(d8.st j3).st k3
  replace e8:=(e8.st j3).st k3
  replace f8:=(f8.st j3).st k3
  refine Bg (O:=g8) (A:=All h8) (R:=fun w' F v=>Vb w' F v eD) (Jl (fun _ h=>h) (Vb.mono (F:=Fr 0 h8 g8) (Vb.ofAgg (cs:=[(.slice j2 x0.vars.length k2),(.slice m2 x0.init.length n2),(.slice o2 x0.goal.length p2),(.slice q2 x0.ops.length r2)]) (x:=x0) rfl ⟨_,_,_,_,rfl,h9,w0,y0,z0⟩) Fr.lt) (Vb.mono (F:=Fr 0 h8 g8) (Vb.ofAgg (cs:=[(.slice yC l4.vars.length zC),(.slice aD l4.vals.length bD),(.slice cD l4.ops.length dD)]) (x:=l4) rfl ⟨_,_,_,rfl,d8,e8,f8⟩) Fr.lt) wE) rfl rfl fun yK zK fD t3 xE=>?_
  obtain rfl:=xE.bool
  cases eD
  case false =>
   replace t2:=iF t2
   refine Cu rfl rfl (o_z ?_)
   refine Ah rfl (Al (Aj (Df rfl rfl rfl ?_)))
   refine Na rfl rfl ?_
   replace j0:=((j0.st j3).st k3).st t3
   refine Ba j0 rfl rfl rfl (Bk rfl) (allOne rfl) fun gD yE j0=>?_
   replace j0:Lc 3 gD fD q1 32 [(.int .i64 0),(.slice none 0 0),(.int .i64 0),(.int .i64 0)]:=j0
   refine Au rfl rfl (o_z ?_)
   refine AH ?_
   obtain rfl:=sm t2
   obtain rfl:=m4 _ rfl
   obtain rfl:=sm (BP hm)
   replace hB:=(((hB.st j3).st k3).st t3).st yE
   exact ret2 rfl (Cm (cs:=[(.int .i64 0),(.slice none 0 0),(.int .i64 0),(.int .i64 0)]) rfl rfl j0.1.cellsAt) (AD rfl) ⟨hB.ext,_,_,rfl,(Vb.mono (F:=Fr 0 gD fD) (Vb.ofAgg (cs:=[(.int .i64 0),(.slice none 0 0),(.int .i64 0),(.int .i64 0)]) (x:=(⟨0,([]:List Int),0,0⟩:Rsl)) rfl ⟨_,rfl,(Vb.nil _ _),(show inI64 0 from by decide),(show inI64 0 from by decide),(show inI64 0 from by decide)⟩) hB.out),(vErr (by decide))⟩
  replace t2:=iT t2
  refine Ct rfl rfl (o_z ?_)
  refine Ae rfl (AN ?_)
  obtain rfl:=sm t2
  exact show Exists _ from ⟨_,(),rfl,⟨rfl,rfl,rfl,rfl,rfl,rfl,rfl,trivial⟩,_,((hB.st j3).st k3).st t3,((i2.st j3).st k3).st t3,t0.st t3,h9.st t3,w0.st t3,y0.st t3,z0.st t3,((j0.st j3).st k3).st t3⟩
 replace hB:=((hB.st i4).st u3).st s2
 replace h9:=h9.st s2
 replace w0:=w0.st s2
 replace y0:=y0.st s2
 replace z0:=z0.st s2
 replace t0:=t0.st s2
 replace j0:=j0.st s2
 rintro aL bL ⟨zE,aF,rfl,t8,bF,hB,i2,t0,h9,w0,y0,z0,j0⟩
 replace hm:=Be hm
 refine AP _ t8 ?_
 refine Al (Aj (Bl (hl:=rfl) (hc:=(t0.1).cellsAt) rfl rfl ?_))
 obtain ⟨n3,u8,hm⟩:=bs hm
 refine Bq (O:=bF) (R:=fun w' F v=>T2 w' F v n3) (KT Fr.lt (Vb.ofAgg (cs:=[(.slice j2 x0.vars.length k2),(.slice m2 x0.init.length n2),(.slice o2 x0.goal.length p2),(.slice q2 x0.ops.length r2)]) (x:=x0) rfl ⟨_,_,_,_,rfl,h9,w0,y0,z0⟩) u8) rfl rfl fun cF dF n4 m1 w8=>?_
 obtain ⟨eF,fF,rfl,u0,x8⟩:=w8
 obtain ⟨u2,rfl,hD⟩:=u0.ptr
 obtain ⟨rfl,y8⟩:=x8.err
 refine Ar rfl rfl (CC rfl rfl rfl (CC rfl rfl rfl (Au rfl rfl (Au rfl rfl (o_z ?_)))))
 refine Al (Al (Aj (Ar rfl rfl (EI rfl rfl (fun o4=>?_) fun o4=>?_))))
 ·
  replace hm:=ip hm o4
  refine o_z ?_
  refine Ah rfl (Al (Aj (Df rfl rfl rfl ?_)))
  refine Ar rfl rfl ?_
  replace j0:=j0.st m1
  refine Ba j0 rfl rfl rfl (Bk rfl) (allOne rfl) fun s5 z8 j0=>?_
  replace j0:Lc 3 s5 n4 q1 32 [(.int .i64 0),(.slice none 0 0),(.int .i64 0),(.int .i64 0)]:=j0
  refine Au rfl rfl (o_z ?_)
  refine AH ?_
  obtain rfl:=sm hm
  replace hB:=(hB.st m1).st z8
  exact ret2 rfl (Cm (cs:=[(.int .i64 0),(.slice none 0 0),(.int .i64 0),(.int .i64 0)]) rfl rfl j0.1.cellsAt) (AD rfl) ⟨hB.ext,_,_,rfl,(Vb.mono (F:=Fr 0 s5 n4) (Vb.ofAgg (cs:=[(.int .i64 0),(.slice none 0 0),(.int .i64 0),(.int .i64 0)]) (x:=(⟨0,([]:List Int),0,0⟩:Rsl)) rfl ⟨_,rfl,(Vb.nil _ _),(show inI64 0 from by decide),(show inI64 0 from by decide),(show inI64 0 from by decide)⟩) hB.out),(vErr y8)⟩
 replace hm:=im hm o4
 refine o_z ?_
 refine Ae rfl (AN (Al (Aj ?_)))
 replace t0:=t0.st m1
 refine Bl (hl:=rfl) (hc:=(t0.1).cellsAt) rfl rfl ?_
 refine Ar rfl rfl (PQ (K:=ByteArray) (V:=Int) 5 (by decide) n4 rfl fun a9 gF b9 o1 p4=>?_)
 refine Df rfl rfl rfl ?_
 refine BO 6 b9 rfl rfl fun p1 q4 r4 n1 s4=>?_
 replace s4:Lc 6 q4 r4 p1 69 [(.slice j2 x0.vars.length k2),(.slice m2 x0.init.length n2),(.slice o2 x0.goal.length p2),(.slice q2 x0.ops.length r2),(.slice n5 x1.length o5),(.slice none 0 0),(.map (some a9)),(.slice none 0 0),(.int .i64 0)]:=s4
 refine Au rfl rfl (o_z ?_)
 refine Al (Al (Aj (Ar rfl rfl (AL rfl rfl ?_))))
 replace t0:=(t0.st o1).st n1
 refine AG (hc:=Blk.cell (i:=1) (t0.1) rfl) rfl rfl ?_
 have c9:Rw 7 q4 r4 78 (.slice none 0 0) ([]:List ONd):=Rw.nil 7 (by decide)
 have d9:Rw 8 q4 r4 73 (.slice none 0 0) ([]:List OEn):=Rw.nil 8 (by decide)
 replace i2:=((i2.st m1).st o1).st n1
 replace h9:=((h9.st m1).st o1).st n1
 replace w0:=((w0.st m1).st o1).st n1
 replace y0:=((y0.st m1).st o1).st n1
 replace z0:=((z0.st m1).st o1).st n1
 replace p4:=p4.st n1
 obtain ⟨e9,r1,iD,jD,f9⟩:=Ors.shut (x:=(⟨(⟨x0.vars,x0.init,x0.goal,x0.ops⟩:Tsk),x1,([]:List ONd),(⟨[]⟩:MapP ByteArray Int),([]:List OEn),0⟩:Ors)) (l0:=6) (l1:=7) (l2:=5) (l3:=8) (by decide) s4 h9 w0 y0 z0 i2 c9 p4 d9 (show inI64 0 from by decide)
 obtain ⟨hF,g9,hm⟩:=bs hm
 replace w0:=w0.st r1
 refine Fo (O:=e9) (Gb f9 w0 (show inI64 (0) from by decide) (show inI64 (-1) from by decide) (show inI64 (-1) from by decide) g9) rfl rfl fun jF kF t4 s1 i9=>?_
 obtain ⟨j9,k9⟩:=i9
 obtain ⟨rfl,l9⟩:=k9.err
 refine Au rfl rfl (o_z ?_)
 refine Al (Aj (Ar rfl rfl (EI rfl rfl (fun u4=>?_) fun u4=>?_)))
 ·
  replace hm:=ip hm u4
  refine o_z ?_
  refine Ah rfl (Al (Aj (Df rfl rfl rfl ?_)))
  refine Ar rfl rfl ?_
  replace j0:=((((j0.st m1).st o1).st n1).st r1).st s1
  refine Ba j0 rfl rfl rfl (Bk rfl) (allOne rfl) fun t5 m9 j0=>?_
  replace j0:Lc 3 t5 t4 q1 32 [(.int .i64 0),(.slice none 0 0),(.int .i64 0),(.int .i64 0)]:=j0
  refine Au rfl rfl (o_z ?_)
  refine AH ?_
  obtain rfl:=sm hm
  replace hB:=(((((hB.st m1).st o1).st n1).st r1).st s1).st m9
  exact ret2 rfl (Cm (cs:=[(.int .i64 0),(.slice none 0 0),(.int .i64 0),(.int .i64 0)]) rfl rfl j0.1.cellsAt) (AD rfl) ⟨hB.ext,_,_,rfl,(Vb.mono (F:=Fr 0 t5 t4) (Vb.ofAgg (cs:=[(.int .i64 0),(.slice none 0 0),(.int .i64 0),(.int .i64 0)]) (x:=(⟨0,([]:List Int),0,0⟩:Rsl)) rfl ⟨_,rfl,(Vb.nil _ _),(show inI64 0 from by decide),(show inI64 0 from by decide),(show inI64 0 from by decide)⟩) hB.out),(vErr l9)⟩
 replace hm:=im hm u4
 refine o_z ?_
 refine Ae rfl (AN (Al (Aj (Au rfl rfl (o_z ?_)))))
 obtain ⟨v4,u5,hm⟩:=bs hm
 refine AJ (aft v4 (fun (a0:Int×Ors) (v3:Unit)=>[]) (fun a0 v3 w'=>False)) ?_ ?_
 ·
  refine AU ?_
  replace hB:=((((hB.st m1).st o1).st n1).st r1).st s1
  replace h9:=(h9.st r1).st s1
  replace w0:=w0.st s1
  replace y0:=(y0.st r1).st s1
  replace z0:=(z0.st r1).st s1
  replace t0:=(t0.st r1).st s1
  replace j0:=((((j0.st m1).st o1).st n1).st r1).st s1
  replace u0:=(((u0.st o1).st n1).st r1).st s1
  refine FI (σ:=Int×Ors) (X:=Unit) u5 (fun (a0:Int×Ors) (v3:Unit)=>[(2,(.int .i64 x2)),(3,(.pointer (some ⟨i3,0,none⟩))),(6,(.pointer (some ⟨q1,0,none⟩))),(11,(.pointer u2)),(13,(.pointer (some ⟨p1,0,none⟩))),(15,(.int .i64 a0.1))]) _ (fun a0 v3 w'=>∃ O':Lab,Bs w A w' O'∧Lc 2 w' O' i3 26 [(.slice j2 x0.vars.length k2),(.slice m2 x0.init.length n2),(.slice o2 x0.goal.length p2),(.slice q2 x0.ops.length r2)]∧Vb w' (Fr 0 w' O') (.slice j2 x0.vars.length k2) x0.vars∧Vb w' (Fr 0 w' O') (.slice m2 x0.init.length n2) x0.init∧Vb w' (Fr 0 w' O') (.slice o2 x0.goal.length p2) x0.goal∧Vb w' (Fr 0 w' O') (.slice q2 x0.ops.length r2) x0.ops∧Lc 3 w' O' q1 32 [(.int .i64 0),(.slice none 0 0),(.int .i64 0),(.int .i64 0)]∧Vb w' (Fr 0 w' O') (.pointer u2) n3.1∧Ob 6 w' O' (.pointer (some ⟨p1,0,none⟩)) a0.2∧inI64 a0.1) _ () ⟨t4,hB,t0,h9,w0,y0,z0,j0,u0,j9,(show inI64 (0) from by decide)⟩ ⟨rfl,rfl,rfl,rfl,rfl,rfl,trivial⟩ ?_
  rintro a0 v3 n9 kD ⟨lF,hB,t0,h9,w0,y0,z0,j0,u0,o9,w3⟩ b0 i1 i8
  refine AU (Al (Al (Aj (Ar rfl rfl (Dv rfl rfl ?_)))))
  obtain ⟨p9,mF,nF,oF,pF,qF,rF,sF,tF,o0,lD,x3,t1,u1,v1,w1,y1,v2,z1,o3,w4⟩:=Ors.opn o9 6 9 10 11 (by decide)
  obtain ⟨w5,x5,rfl⟩:=t1.form
  obtain ⟨y5,z5,rfl⟩:=u1.form
  obtain ⟨a6,b6,rfl⟩:=v1.form
  obtain ⟨c6,d6,rfl⟩:=w1.form
  obtain ⟨e6,f6,rfl⟩:=y1.form
  obtain ⟨g6,h6,rfl⟩:=v2.form
  obtain ⟨i6,rfl⟩:=z1.mptr
  obtain ⟨q9,r9,rfl⟩:=o3.form
  refine AL rfl rfl (AG (hc:=Blk.cell (i:=7) (x3.1) rfl) rfl rfl ?_)
  obtain ⟨s9,t9,b0⟩:=bs b0
  refine Bg (O:=p9) (A:=All n9) (R:=fun w' F v=>Vb w' F v s9) (Fk (fun _ h=>h) (o3).all t9) rfl rfl fun uF vF j6 d0 u9=>?_
  obtain ⟨rfl,wF⟩:=u9.int
  refine Eb rfl rfl rfl (fun x4=>?_) fun x4=>?_
  ·
   replace b0:=ip b0 x4
   refine o_z ?_
   refine Ah rfl (Al (Aj (Ar rfl rfl (Df rfl rfl rfl ?_))))
   replace j0:=(j0.st o0).st d0
   refine Ba j0 rfl rfl rfl (Bk rfl) (allOne rfl) fun k6 v9 j0=>?_
   replace j0:Lc 3 k6 j6 q1 32 [(.int .i64 2),(.slice none 0 0),(.int .i64 0),(.int .i64 a0.1)]:=j0
   refine Au rfl rfl (o_z ?_)
   refine AH ?_
   obtain rfl:=sm b0
   obtain rfl:=i1 _ rfl
   obtain rfl:=sm (BP hm)
   replace hB:=((hB.st o0).st d0).st v9
   exact ret2 rfl (Cm (cs:=[(.int .i64 2),(.slice none 0 0),(.int .i64 0),(.int .i64 a0.1)]) rfl rfl j0.1.cellsAt) (AD rfl) ⟨hB.ext,_,_,rfl,(Vb.mono (F:=Fr 0 k6 j6) (Vb.ofAgg (cs:=[(.int .i64 2),(.slice none 0 0),(.int .i64 0),(.int .i64 a0.1)]) (x:=(⟨2,([]:List Int),0,a0.1⟩:Rsl)) rfl ⟨_,rfl,(Vb.nil _ _),(show inI64 (2) from by decide),(show inI64 0 from by decide),w3⟩) hB.out),(vErr (show inI64 0 from by decide))⟩
  replace b0:=im b0 x4
  refine o_z ?_
  refine Ae rfl (AN (Al (Aj (Ar rfl rfl (Dv rfl rfl (AL rfl rfl (PE rfl rfl ?_)))))))
  replace x3:=x3.st d0
  replace o3:=o3.st d0
  obtain ⟨w9,g0,mD,nD,x9⟩:=BxC.shut (cx:=(⟨69,[(.slice w5 a0.2.t.vars.length x5),(.slice y5 a0.2.t.init.length z5),(.slice a6 a0.2.t.goal.length b6),(.slice c6 a0.2.t.ops.length d6),(.slice e6 a0.2.gens.length f6),(.slice g6 a0.2.nodes.length h6),(.map (some i6))],[(.int .i64 a0.2.number)]⟩:Cx)) (p:=p1) (c0:=.slice q9 a0.2.open_.length r9) (x:=(⟨a0.2.open_⟩:BxR 67 73 OEn)) (l0:=6) (l1:=11) (by decide) x3 o3
  obtain ⟨r0,y9,b0⟩:=bs b0
  refine Fo (O:=w9) (Hv x9 y9) rfl rfl fun xF z9 yF h0 aA=>?_
  obtain ⟨bA,cA⟩:=aA
  obtain ⟨zF,rfl,dA⟩:=cA.any
  obtain ⟨oD,rfl,rfl,aG,bG,l6⟩:=dA
  obtain ⟨m6,cG,i0,pD,e2,a2⟩:=BxC.opn bA 6 11 (by decide)
  obtain ⟨eA,fA,rfl⟩:=a2.form
  replace e2:Lc 6 z9 m6 p1 69 [(.slice w5 a0.2.t.vars.length x5),(.slice y5 a0.2.t.init.length z5),(.slice a6 a0.2.t.goal.length b6),(.slice c6 a0.2.t.ops.length d6),(.slice e6 a0.2.gens.length f6),(.slice g6 a0.2.nodes.length h6),(.map (some i6)),(.slice eA r0.2.l.length fA),(.int .i64 a0.2.number)]:=e2
  refine PG rfl rfl ?_
  refine Ar rfl rfl (CC rfl rfl rfl (CC rfl rfl rfl (Bi 12 m6 rfl fun p3 dG gA e0 p0=>?_)))
  refine Ba p0 rfl rfl rfl (Bk rfl) (allOne rfl) fun n6 f0 p0=>?_
  replace p0:Lc 12 n6 gA p3 73 [(.int .i64 r0.1.x.cost),(.int .i64 r0.1.x.number),(.int .i64 r0.1.x.node)]:=p0
  refine Au rfl rfl (o_z ?_)
  refine Al (Al ?_)
  obtain ⟨iA,v0,b0⟩:=bs b0
  refine AJ (fun l' w'=>∃ (jA:Unit) (O':Lab),subs l' [(2,(.int .i64 x2)),(3,(.pointer (some ⟨i3,0,none⟩))),(6,(.pointer (some ⟨q1,0,none⟩))),(11,(.pointer u2)),(13,(.pointer (some ⟨p1,0,none⟩))),(15,(.int .i64 a0.1)),(16,(.pointer (some ⟨p3,0,none⟩))),(108,(.bool iA))]∧Bs w A w' O'∧Lc 2 w' O' i3 26 [(.slice j2 x0.vars.length k2),(.slice m2 x0.init.length n2),(.slice o2 x0.goal.length p2),(.slice q2 x0.ops.length r2)]∧Vb w' (Fr 0 w' O') (.slice j2 x0.vars.length k2) x0.vars∧Vb w' (Fr 0 w' O') (.slice m2 x0.init.length n2) x0.init∧Vb w' (Fr 0 w' O') (.slice o2 x0.goal.length p2) x0.goal∧Vb w' (Fr 0 w' O') (.slice q2 x0.ops.length r2) x0.ops∧Lc 3 w' O' q1 32 [(.int .i64 0),(.slice none 0 0),(.int .i64 0),(.int .i64 0)]∧Vb w' (Fr 0 w' O') (.pointer u2) n3.1∧Ob 6 w' O' (.pointer (some ⟨p1,0,none⟩)) (⟨(⟨a0.2.t.vars,a0.2.t.init,a0.2.t.goal,a0.2.t.ops⟩:Tsk),a0.2.gens,a0.2.nodes,a0.2.tab,r0.2.l,a0.2.number⟩:Ors)∧Lc 12 w' O' p3 73 [(.int .i64 r0.1.x.cost),(.int .i64 r0.1.x.number),(.int .i64 r0.1.x.node)]) ?_ ?_
  ·
   refine Cj (·=n6) [(0,true),(1,true),(2,true),(3,true),(4,true),(5,true),(6,true),(7,true),(8,true),(9,true),(10,true),(11,true),(12,true),(13,true),(14,true),(15,true),(16,true),(17,true),(18,true),(19,true),(20,true),(21,true),(22,true),(23,true),(24,true),(25,true),(26,true)] (by kernel_rfl) rfl (by kernel_rfl) rfl ?_
   refine AM rfl rfl rfl (Ln rfl rfl rfl (AM rfl rfl rfl (AA rfl (Aw rfl rfl (Ca rfl rfl (AA rfl (Aw rfl rfl (QH rfl rfl (AA rfl (Aw rfl rfl (BE rfl rfl (AA rfl (Aw rfl rfl ?_)))))))))))))
   replace e2:=(e2.st e0).st f0
   refine Bv (hc:=Blk.cell (i:=5) (e2.1) rfl) rfl rfl ?_
   refine AA rfl (Aw rfl rfl (BE rfl rfl (AA rfl (Aw rfl rfl (Bv (hc:=Blk.cell (i:=2) (p0.1) rfl) rfl rfl ?_)))))
   refine AA rfl (Aw rfl rfl ?_)
   obtain ⟨kA,lA,v0⟩:=bs v0
   obtain ⟨mA,nA⟩:=AV lA
   replace v2:=(((((v2.st d0).st g0).st h0).st i0).st e0).st f0
   obtain ⟨eG,fG,qD,o6,p6,q6,gG,hG,rfl,oA,pA,iG,jG,kG⟩:=v2.elem nA
   obtain ⟨lG,mG,rfl⟩:=oA.form
   obtain ⟨nG,oG,rfl⟩:=pA.form
   refine GR (hA:=o6) (hj:=(Int.toNat_of_nonneg mA).symm) (hlt:=p6) rfl rfl rfl ?_
   refine AA rfl (Aw rfl rfl (BE rfl rfl (AA rfl (Aw rfl rfl (Bv (hc:=cat5 q6) rfl rfl ?_)))))
   refine BM rfl rfl rfl rfl (AM rfl rfl rfl ?_)
   rcases Bool.eq_false_or_eq_true kA.fin with q3|q3
   ·
    try rw [q3]
    replace v0:=ip v0 q3
    refine AY rfl rfl rfl rfl rfl (AY rfl rfl rfl rfl rfl (AY rfl rfl rfl rfl rfl (AY rfl rfl rfl rfl rfl (AY rfl rfl rfl rfl rfl (AY rfl rfl rfl rfl rfl (AY rfl rfl rfl rfl rfl (AY rfl rfl rfl rfl rfl (AY rfl rfl rfl rfl rfl (AY rfl rfl rfl rfl rfl (AY rfl rfl rfl rfl rfl (AY rfl rfl rfl rfl rfl (BU rfl rfl rfl rfl (h_z ?_)))))))))))))
    replace t1:=(((((t1.st d0).st g0).st h0).st i0).st e0).st f0
    replace u1:=(((((u1.st d0).st g0).st h0).st i0).st e0).st f0
    replace v1:=(((((v1.st d0).st g0).st h0).st i0).st e0).st f0
    replace w1:=(((((w1.st d0).st g0).st h0).st i0).st e0).st f0
    replace y1:=(((((y1.st d0).st g0).st h0).st i0).st e0).st f0
    replace z1:=(((((z1.st d0).st g0).st h0).st i0).st e0).st f0
    replace a2:=(a2.st e0).st f0
    obtain ⟨pG,f2,rD,sD,qA⟩:=Ors.shut (x:=(⟨(⟨a0.2.t.vars,a0.2.t.init,a0.2.t.goal,a0.2.t.ops⟩:Tsk),a0.2.gens,a0.2.nodes,a0.2.tab,r0.2.l,a0.2.number⟩:Ors)) (l0:=6) (l1:=9) (l2:=10) (l3:=11) (by decide) e2 t1 u1 v1 w1 y1 v2 z1 a2 w4
    obtain rfl:=sm v0
    exact ⟨(),_,⟨rfl,rfl,rfl,rfl,rfl,rfl,rfl,rfl,trivial⟩,(((((((hB.st o0).st d0).st g0).st h0).st i0).st e0).st f0).st f2,(((((((t0.st o0).st d0).st g0).st h0).st i0).st e0).st f0).st f2,(((((((h9.st o0).st d0).st g0).st h0).st i0).st e0).st f0).st f2,(((((((w0.st o0).st d0).st g0).st h0).st i0).st e0).st f0).st f2,(((((((y0.st o0).st d0).st g0).st h0).st i0).st e0).st f0).st f2,(((((((z0.st o0).st d0).st g0).st h0).st i0).st e0).st f0).st f2,(((((((j0.st o0).st d0).st g0).st h0).st i0).st e0).st f0).st f2,(((((((u0.st o0).st d0).st g0).st h0).st i0).st e0).st f0).st f2,qA,p0.st f2⟩
   try rw [q3]
   replace v0:=im' v0 q3
   refine AA rfl (Aw rfl rfl (Ca rfl rfl (AA rfl (Aw rfl rfl (QH rfl rfl (AA rfl (Aw rfl rfl (BE rfl rfl (AA rfl (Aw rfl rfl (Bv (hc:=Blk.cell (i:=5) (e2.1) rfl) rfl rfl ?_)))))))))))
   refine AA rfl (Aw rfl rfl (BE rfl rfl (AA rfl (Aw rfl rfl (Bv (hc:=Blk.cell (i:=2) (p0.1) rfl) rfl rfl ?_)))))
   refine AA rfl (Aw rfl rfl ?_)
   obtain ⟨qG,rA,v0⟩:=bs v0
   obtain ⟨sA,tA⟩:=AV rA
   obtain ⟨rG,sG,tD,r6,s6,t6,tG,uG,rfl,uA,vA,vG,wG,xG⟩:=v2.elem tA
   obtain ⟨yG,zG,rfl⟩:=uA.form
   obtain ⟨aH,bH,rfl⟩:=vA.form
   refine GR (hA:=r6) (hj:=(Int.toNat_of_nonneg sA).symm) (hlt:=s6) rfl rfl rfl ?_
   refine AA rfl (Aw rfl rfl (BE rfl rfl (AA rfl (Aw rfl rfl (Bv (hc:=cat1 t6) rfl rfl ?_)))))
   refine AA rfl (Aw rfl rfl (BE rfl rfl (AA rfl (Aw rfl rfl (Bv (hc:=Blk.cell (i:=0) (p0.1) rfl) rfl rfl ?_)))))
   refine AA rfl (Aw rfl rfl (Bj (fun _ _=>Cy rfl rfl) rfl (fun y4=>?_) (fun y4=>?_)))
   ·
    replace v0:=ip v0 y4
    refine BM rfl rfl rfl rfl (h_z ?_)
    replace t1:=(((((t1.st d0).st g0).st h0).st i0).st e0).st f0
    replace u1:=(((((u1.st d0).st g0).st h0).st i0).st e0).st f0
    replace v1:=(((((v1.st d0).st g0).st h0).st i0).st e0).st f0
    replace w1:=(((((w1.st d0).st g0).st h0).st i0).st e0).st f0
    replace y1:=(((((y1.st d0).st g0).st h0).st i0).st e0).st f0
    replace z1:=(((((z1.st d0).st g0).st h0).st i0).st e0).st f0
    replace a2:=(a2.st e0).st f0
    obtain ⟨cH,g2,uD,vD,wA⟩:=Ors.shut (x:=(⟨(⟨a0.2.t.vars,a0.2.t.init,a0.2.t.goal,a0.2.t.ops⟩:Tsk),a0.2.gens,a0.2.nodes,a0.2.tab,r0.2.l,a0.2.number⟩:Ors)) (l0:=6) (l1:=9) (l2:=10) (l3:=11) (by decide) e2 t1 u1 v1 w1 y1 v2 z1 a2 w4
    obtain rfl:=sm v0
    exact ⟨(),_,⟨rfl,rfl,rfl,rfl,rfl,rfl,rfl,rfl,trivial⟩,(((((((hB.st o0).st d0).st g0).st h0).st i0).st e0).st f0).st g2,(((((((t0.st o0).st d0).st g0).st h0).st i0).st e0).st f0).st g2,(((((((h9.st o0).st d0).st g0).st h0).st i0).st e0).st f0).st g2,(((((((w0.st o0).st d0).st g0).st h0).st i0).st e0).st f0).st g2,(((((((y0.st o0).st d0).st g0).st h0).st i0).st e0).st f0).st g2,(((((((z0.st o0).st d0).st g0).st h0).st i0).st e0).st f0).st g2,(((((((j0.st o0).st d0).st g0).st h0).st i0).st e0).st f0).st g2,(((((((u0.st o0).st d0).st g0).st h0).st i0).st e0).st f0).st g2,wA,p0.st g2⟩
   replace v0:=im v0 y4
   refine BM rfl rfl rfl rfl (h_z ?_)
   replace t1:=(((((t1.st d0).st g0).st h0).st i0).st e0).st f0
   replace u1:=(((((u1.st d0).st g0).st h0).st i0).st e0).st f0
   replace v1:=(((((v1.st d0).st g0).st h0).st i0).st e0).st f0
   replace w1:=(((((w1.st d0).st g0).st h0).st i0).st e0).st f0
   replace y1:=(((((y1.st d0).st g0).st h0).st i0).st e0).st f0
   replace z1:=(((((z1.st d0).st g0).st h0).st i0).st e0).st f0
   replace a2:=(a2.st e0).st f0
   obtain ⟨dH,h2,wD,xD,xA⟩:=Ors.shut (x:=(⟨(⟨a0.2.t.vars,a0.2.t.init,a0.2.t.goal,a0.2.t.ops⟩:Tsk),a0.2.gens,a0.2.nodes,a0.2.tab,r0.2.l,a0.2.number⟩:Ors)) (l0:=6) (l1:=9) (l2:=10) (l3:=11) (by decide) e2 t1 u1 v1 w1 y1 v2 z1 a2 w4
   obtain rfl:=sm v0
   exact ⟨(),_,⟨rfl,rfl,rfl,rfl,rfl,rfl,rfl,rfl,trivial⟩,(((((((hB.st o0).st d0).st g0).st h0).st i0).st e0).st f0).st h2,(((((((t0.st o0).st d0).st g0).st h0).st i0).st e0).st f0).st h2,(((((((h9.st o0).st d0).st g0).st h0).st i0).st e0).st f0).st h2,(((((((w0.st o0).st d0).st g0).st h0).st i0).st e0).st f0).st h2,(((((((y0.st o0).st d0).st g0).st h0).st i0).st e0).st f0).st h2,(((((((z0.st o0).st d0).st g0).st h0).st i0).st e0).st f0).st h2,(((((((j0.st o0).st d0).st g0).st h0).st i0).st e0).st f0).st h2,(((((((u0.st o0).st d0).st g0).st h0).st i0).st e0).st f0).st h2,xA,p0.st h2⟩
  replace hB:=((((((hB.st o0).st d0).st g0).st h0).st i0).st e0).st f0
  replace h9:=((((((h9.st o0).st d0).st g0).st h0).st i0).st e0).st f0
  replace w0:=((((((w0.st o0).st d0).st g0).st h0).st i0).st e0).st f0
  replace y0:=((((((y0.st o0).st d0).st g0).st h0).st i0).st e0).st f0
  replace z0:=((((((z0.st o0).st d0).st g0).st h0).st i0).st e0).st f0
  replace t0:=((((((t0.st o0).st d0).st g0).st h0).st i0).st e0).st f0
  replace j0:=((((((j0.st o0).st d0).st g0).st h0).st i0).st e0).st f0
  replace u0:=((((((u0.st o0).st d0).st g0).st h0).st i0).st e0).st f0
  rintro eH fH ⟨jA,gH,u6,hB,t0,h9,w0,y0,z0,j0,u0,w6,p0⟩
  refine AP _ u6 ?_
  refine BL rfl (fun z4=>?_) (fun z4=>?_)
  ·
   replace b0:=ip b0 z4
   refine DC ?_
   obtain rfl:=sm b0
   exact show Exists _ from ⟨_,(),rfl,⟨rfl,rfl,rfl,rfl,rfl,rfl,trivial⟩,_,hB,t0,h9,w0,y0,z0,j0,u0,w6,w3⟩
  replace b0:=im' b0 z4
  refine AN (Al ?_)
  obtain ⟨x6,hH,iH,jH,kH,lH,mH,nH,oH,b1,yD,b2,w2,y2,z2,a3,b3,j1,c3,d3,y6⟩:=Ors.opn w6 6 9 10 11 (by decide)
  obtain ⟨pH,qH,rfl⟩:=w2.form
  obtain ⟨rH,sH,rfl⟩:=y2.form
  obtain ⟨tH,uH,rfl⟩:=z2.form
  obtain ⟨vH,wH,rfl⟩:=a3.form
  obtain ⟨xH,yH,rfl⟩:=b3.form
  obtain ⟨zH,aI,rfl⟩:=j1.form
  obtain ⟨bI,rfl⟩:=c3.mptr
  obtain ⟨cI,dI,rfl⟩:=d3.form
  refine Bu [] x6 ?_
  refine AR (fuel:=2) [] [(0,true),(1,true),(2,true),(3,true),(4,true),(5,true),(6,true),(7,true)] (by kernel_rfl) rfl ?_
  refine AM rfl rfl rfl (Dy rfl rfl rfl (Bd rfl rfl rfl (AW (hc:=fun w' ⟨O',hq⟩=>Blk.cell (i:=5) ((b2.st hq (by decide)).1) rfl) rfl rfl rfl ?_)))
  refine Bd rfl rfl rfl ?_
  replace p0:=p0.st b1
  refine AW (hc:=fun w' ⟨O',hq⟩=>Blk.cell (i:=2) ((p0.st hq (by decide)).1) rfl) rfl rfl rfl ?_
  obtain ⟨c1,yA,b0⟩:=bs b0
  obtain ⟨zA,aB⟩:=AV yA
  obtain ⟨eI,fI,zD,z6,a7,b7,c7,gI,hI,rfl,k1,e3,bB,iI,jI⟩:=j1.elemF aB
  obtain ⟨a5,b5,rfl⟩:=k1.form
  obtain ⟨c5,d5,rfl⟩:=e3.form
  refine BB (hA:=z6) (hj:=(Int.toNat_of_nonneg zA).symm) (hlt:=b7) rfl rfl rfl rfl ?_
  refine CV (hl:=rfl) (hb:=fun w' ⟨O',hq⟩=>(AX (hq.agree (i:=9) (by decide)) a7 c7)) rfl rfl rfl ?_
  refine AC ?_
  refine AO (i:=8) (by kernel_rfl) rfl ?_
  refine Bi 13 x6 rfl fun e5 kI y3 m0 d1=>?_
  have hZ:=m0.lst [] (fun _ h=>h.elim)
  refine AT [] hZ (by kernel_rfl) ?_
  refine AO (i:=9) (by kernel_rfl) rfl ?_
  refine Ba d1 rfl rfl rfl (Bk rfl) (allOne rfl) fun z3 n0 d1=>?_
  replace d1:Lc 13 z3 y3 e5 78 [(.slice a5 c1.state.length b5),(.int .i64 c1.cost),(.int .i64 c1.parent),(.int .i64 c1.op),(.slice c5 c1.used.length d5),(.bool c1.fin)]:=d1
  refine Cg (by kernel_rfl) ?_
  refine Bn (by kernel_rfl) ?_
  refine Al (Al (Aj (AL rfl rfl ?_)))
  replace t0:=((t0.st b1).st m0).st n0
  refine AG (hc:=Blk.cell (i:=2) (t0.1) rfl) rfl rfl ?_
  refine AL rfl rfl (AG (hc:=Blk.cell (i:=0) (d1.1) rfl) rfl rfl ?_)
  obtain ⟨d7,cB,b0⟩:=bs b0
  replace y0:=((y0.st b1).st m0).st n0
  replace k1:=(k1.st m0).st n0
  refine Bg (O:=y3) (A:=All z3) (R:=fun w' F v=>Vb w' F v d7) (Id (fun _ h=>h) (Vb.mono (F:=Fr 0 z3 y3) y0 Fr.lt) (Vb.mono (F:=Fr 0 z3 y3) k1 Fr.lt) cB) rfl rfl fun lI mI a4 k0 dB=>?_
  obtain rfl:=dB.bool
  cases d7
  case false =>
   replace b0:=iF b0
   refine o_z ?_
   refine Ae rfl (AN (Al (Al (Aj (Ar rfl rfl (Ar rfl rfl (Fv rfl rfl rfl (fun f5=>?_) fun f5=>?_)))))))
   ·
    replace b0:=ip b0 f5
    refine o_z ?_
    refine Ah rfl (Al (Aj (Ar rfl rfl (Df rfl rfl rfl ?_))))
    replace j0:=(((j0.st b1).st m0).st n0).st k0
    refine Ba j0 rfl rfl rfl (Bk rfl) (allOne rfl) fun e7 eB j0=>?_
    replace j0:Lc 3 e7 a4 q1 32 [(.int .i64 3),(.slice none 0 0),(.int .i64 0),(.int .i64 a0.1)]:=j0
    refine Au rfl rfl (o_z ?_)
    refine AH ?_
    obtain rfl:=sm b0
    obtain rfl:=i1 _ rfl
    obtain rfl:=sm (BP hm)
    replace hB:=((((hB.st b1).st m0).st n0).st k0).st eB
    exact ret2 rfl (Cm (cs:=[(.int .i64 3),(.slice none 0 0),(.int .i64 0),(.int .i64 a0.1)]) rfl rfl j0.1.cellsAt) (AD rfl) ⟨hB.ext,_,_,rfl,(Vb.mono (F:=Fr 0 e7 a4) (Vb.ofAgg (cs:=[(.int .i64 3),(.slice none 0 0),(.int .i64 0),(.int .i64 a0.1)]) (x:=(⟨3,([]:List Int),0,a0.1⟩:Rsl)) rfl ⟨_,rfl,(Vb.nil _ _),(show inI64 (3) from by decide),(show inI64 0 from by decide),w3⟩) hB.out),(vErr (show inI64 0 from by decide))⟩
   replace b0:=im b0 f5
   refine o_z ?_
   refine Ae rfl (AN (Al (Aj (Ar rfl rfl ?_))))
   obtain ⟨f7,g7,b0⟩:=bs b0
   have fB:=(BW g7)
   refine FT (he:=g7) rfl rfl rfl ?_
   refine Au rfl rfl (o_z ?_)
   refine Al (Bu [] a4 ?_)
   refine AR (fuel:=1) [] [(0,true),(1,true),(2,true),(3,true),(4,true),(5,true),(6,true),(7,true)] (by kernel_rfl) rfl ?_
   refine AM rfl rfl rfl (Dy rfl rfl rfl (Bd rfl rfl rfl ?_))
   replace b2:=((b2.st m0).st n0).st k0
   refine AW (hc:=fun w' ⟨O',hq⟩=>Blk.cell (i:=5) ((b2.st hq (by decide)).1) rfl) rfl rfl rfl ?_
   refine Bd rfl rfl rfl ?_
   replace p0:=((p0.st m0).st n0).st k0
   refine AW (hc:=fun w' ⟨O',hq⟩=>Blk.cell (i:=2) ((p0.st hq (by decide)).1) rfl) rfl rfl rfl ?_
   obtain ⟨b4,gB,b0⟩:=bs b0
   obtain ⟨iB,h7⟩:=AV gB
   replace j1:=((j1.st m0).st n0).st k0
   obtain ⟨nI,oI,aE,j4,bE,i7,cE,pI,qI,rfl,jB,kB,rI,sI,tI⟩:=j1.elemF h7
   obtain ⟨uI,vI,rfl⟩:=jB.form
   obtain ⟨wI,xI,rfl⟩:=kB.form
   refine BB (hA:=j4) (hj:=(Int.toNat_of_nonneg iB).symm) (hlt:=i7) rfl rfl rfl rfl ?_
   refine Bd rfl rfl rfl (AC ?_)
   refine AO (i:=8) (by kernel_rfl) rfl ?_
   refine NE (a:=b4) (a':=({ b4 with fin:=true }:ONd)) (off:=5) j1 j4 h7 rfl rfl rfl (Nat.le_of_ble_eq_true rfl) (by first|exact allOne rfl|simp [Value.cells,Value.oneCell',Lp]) (by rintro ce ⟨yI,zI,rfl,lB,mB,nB,oB,pB⟩;exact ⟨_,_,rfl,lB,mB,nB,oB,pB⟩) fun aJ s0 j1=>?_
   refine Cg (by kernel_rfl) ?_
   refine Bn (by kernel_rfl) ?_
   refine Al (Aj (Ar rfl rfl (AL rfl rfl ?_)))
   replace d1:=(d1.st k0).st s0
   refine AG (hc:=Blk.cell (i:=0) (d1.1) rfl) rfl rfl ?_
   obtain ⟨f3,qB,b0⟩:=bs b0
   replace u0:=((((u0.st b1).st m0).st n0).st k0).st s0
   replace k1:=(k1.st k0).st s0
   refine Bq (O:=a4) (R:=fun w' F v=>Vb w' F v f3) (FB Fr.lt u0 k1 qB) rfl rfl fun bJ cJ dJ q0 c2=>?_
   obtain ⟨j7,k7,rfl⟩:=c2.form
   refine AZ rfl rfl ?_
   have g5:f3.length≤9223372036854775807:=Nat.le_trans c2.len.2.1 c2.len.2.2
   have eJ:inI64 (f3.length:Int):=rngNat g5
   refine Ar rfl rfl (o_z ?_)
   replace b2:=(b2.st s0).st q0
   replace w2:=((((w2.st m0).st n0).st k0).st s0).st q0
   replace y2:=((((y2.st m0).st n0).st k0).st s0).st q0
   replace z2:=((((z2.st m0).st n0).st k0).st s0).st q0
   replace a3:=((((a3.st m0).st n0).st k0).st s0).st q0
   replace b3:=((((b3.st m0).st n0).st k0).st s0).st q0
   replace j1:=j1.st q0
   replace c3:=((((c3.st m0).st n0).st k0).st s0).st q0
   replace d3:=((((d3.st m0).st n0).st k0).st s0).st q0
   obtain ⟨rB,a1,dE,eE,sB⟩:=Ors.shut (x:=(⟨(⟨(⟨(⟨a0.2.t.vars,a0.2.t.init,a0.2.t.goal,a0.2.t.ops⟩:Tsk),a0.2.gens,a0.2.nodes,a0.2.tab,r0.2.l,a0.2.number⟩:Ors).t.vars,(⟨(⟨a0.2.t.vars,a0.2.t.init,a0.2.t.goal,a0.2.t.ops⟩:Tsk),a0.2.gens,a0.2.nodes,a0.2.tab,r0.2.l,a0.2.number⟩:Ors).t.init,(⟨(⟨a0.2.t.vars,a0.2.t.init,a0.2.t.goal,a0.2.t.ops⟩:Tsk),a0.2.gens,a0.2.nodes,a0.2.tab,r0.2.l,a0.2.number⟩:Ors).t.goal,(⟨(⟨a0.2.t.vars,a0.2.t.init,a0.2.t.goal,a0.2.t.ops⟩:Tsk),a0.2.gens,a0.2.nodes,a0.2.tab,r0.2.l,a0.2.number⟩:Ors).t.ops⟩:Tsk),(⟨(⟨a0.2.t.vars,a0.2.t.init,a0.2.t.goal,a0.2.t.ops⟩:Tsk),a0.2.gens,a0.2.nodes,a0.2.tab,r0.2.l,a0.2.number⟩:Ors).gens,(((⟨(⟨a0.2.t.vars,a0.2.t.init,a0.2.t.goal,a0.2.t.ops⟩:Tsk),a0.2.gens,a0.2.nodes,a0.2.tab,r0.2.l,a0.2.number⟩:Ors).nodes).set (r0.1.x.node:Int).toNat ({ b4 with fin:=true }:ONd)),(⟨(⟨a0.2.t.vars,a0.2.t.init,a0.2.t.goal,a0.2.t.ops⟩:Tsk),a0.2.gens,a0.2.nodes,a0.2.tab,r0.2.l,a0.2.number⟩:Ors).tab,(⟨(⟨a0.2.t.vars,a0.2.t.init,a0.2.t.goal,a0.2.t.ops⟩:Tsk),a0.2.gens,a0.2.nodes,a0.2.tab,r0.2.l,a0.2.number⟩:Ors).open_,(⟨(⟨a0.2.t.vars,a0.2.t.init,a0.2.t.goal,a0.2.t.ops⟩:Tsk),a0.2.gens,a0.2.nodes,a0.2.tab,r0.2.l,a0.2.number⟩:Ors).number⟩:Ors)) (l0:=6) (l1:=9) (l2:=10) (l3:=11) (by decide) (by have q:=b2;rw [← ((by simp:(((⟨(⟨a0.2.t.vars,a0.2.t.init,a0.2.t.goal,a0.2.t.ops⟩:Tsk),a0.2.gens,a0.2.nodes,a0.2.tab,r0.2.l,a0.2.number⟩:Ors).nodes).set (r0.1.x.node:Int).toNat ({ b4 with fin:=true }:ONd)).length=((⟨(⟨a0.2.t.vars,a0.2.t.init,a0.2.t.goal,a0.2.t.ops⟩:Tsk),a0.2.gens,a0.2.nodes,a0.2.tab,r0.2.l,a0.2.number⟩:Ors).nodes).length).trans rfl)] at q;exact q) w2 y2 z2 a3 b3 j1.relen c3 d3 y6
   obtain ⟨h5,l7,b0⟩:=bs b0
   refine AJ (aft h5 (fun (m3:Ors) (c4:Unit)=>[(2,(.int .i64 x2)),(3,(.pointer (some ⟨i3,0,none⟩))),(6,(.pointer (some ⟨q1,0,none⟩))),(11,(.pointer u2)),(13,(.pointer (some ⟨p1,0,none⟩))),(15,(.int .i64 f7))]) (fun m3 c4 w'=>∃ O':Lab,Bs w A w' O'∧Lc 2 w' O' i3 26 [(.slice j2 x0.vars.length k2),(.slice m2 x0.init.length n2),(.slice o2 x0.goal.length p2),(.slice q2 x0.ops.length r2)]∧Vb w' (Fr 0 w' O') (.slice j2 x0.vars.length k2) x0.vars∧Vb w' (Fr 0 w' O') (.slice m2 x0.init.length n2) x0.init∧Vb w' (Fr 0 w' O') (.slice o2 x0.goal.length p2) x0.goal∧Vb w' (Fr 0 w' O') (.slice q2 x0.ops.length r2) x0.ops∧Lc 3 w' O' q1 32 [(.int .i64 0),(.slice none 0 0),(.int .i64 0),(.int .i64 0)]∧Vb w' (Fr 0 w' O') (.pointer u2) n3.1∧Ob 6 w' O' (.pointer (some ⟨p1,0,none⟩)) m3)) ?_ ?_
   ·
    refine AU ?_
    replace hB:=((((((hB.st b1).st m0).st n0).st k0).st s0).st q0).st a1
    replace h9:=((((((h9.st b1).st m0).st n0).st k0).st s0).st q0).st a1
    replace w0:=((((((w0.st b1).st m0).st n0).st k0).st s0).st q0).st a1
    replace y0:=(((y0.st k0).st s0).st q0).st a1
    replace z0:=((((((z0.st b1).st m0).st n0).st k0).st s0).st q0).st a1
    replace t0:=(((t0.st k0).st s0).st q0).st a1
    replace j0:=((((((j0.st b1).st m0).st n0).st k0).st s0).st q0).st a1
    replace u0:=(u0.st q0).st a1
    replace p0:=((p0.st s0).st q0).st a1
    replace k1:=(k1.st q0).st a1
    replace e3:=(((((e3.st m0).st n0).st k0).st s0).st q0).st a1
    replace d1:=(d1.st q0).st a1
    replace c2:=c2.st a1
    refine Bt (σ:=Ors) (X:=Unit) (f3.length) l7 rfl g5 (fun (m3:Ors) (c4:Unit)=>[(2,(.int .i64 x2)),(3,(.pointer (some ⟨i3,0,none⟩))),(6,(.pointer (some ⟨q1,0,none⟩))),(11,(.pointer u2)),(13,(.pointer (some ⟨p1,0,none⟩))),(15,(.int .i64 f7)),(16,(.pointer (some ⟨p3,0,none⟩))),(18,(.pointer (some ⟨e5,0,none⟩))),(156,(.slice j7 f3.length k7))]) _ (fun m3 c4 w'=>∃ O':Lab,Bs w A w' O'∧Lc 2 w' O' i3 26 [(.slice j2 x0.vars.length k2),(.slice m2 x0.init.length n2),(.slice o2 x0.goal.length p2),(.slice q2 x0.ops.length r2)]∧Vb w' (Fr 0 w' O') (.slice j2 x0.vars.length k2) x0.vars∧Vb w' (Fr 0 w' O') (.slice m2 x0.init.length n2) x0.init∧Vb w' (Fr 0 w' O') (.slice o2 x0.goal.length p2) x0.goal∧Vb w' (Fr 0 w' O') (.slice q2 x0.ops.length r2) x0.ops∧Lc 3 w' O' q1 32 [(.int .i64 0),(.slice none 0 0),(.int .i64 0),(.int .i64 0)]∧Vb w' (Fr 0 w' O') (.pointer u2) n3.1∧Ob 6 w' O' (.pointer (some ⟨p1,0,none⟩)) m3∧Lc 12 w' O' p3 73 [(.int .i64 r0.1.x.cost),(.int .i64 r0.1.x.number),(.int .i64 r0.1.x.node)]∧Lc 13 w' O' e5 78 [(.slice a5 c1.state.length b5),(.int .i64 c1.cost),(.int .i64 c1.parent),(.int .i64 c1.op),(.slice c5 c1.used.length d5),(.bool c1.fin)]∧Vb w' (Fr 0 w' O') (.slice a5 c1.state.length b5) c1.state∧Vb w' (Fr 0 w' O') (.slice c5 c1.used.length d5) c1.used∧Vb w' (Fr 0 w' O') (.slice j7 f3.length k7) f3) _ () ⟨rB,hB,t0,h9,w0,y0,z0,j0,u0,sB,p0,d1,k1,e3,c2⟩ ⟨rfl,rfl,rfl,rfl,rfl,rfl,rfl,rfl,rfl,rfl,rfl,trivial⟩ (fun _ _=>⟨rfl,rfl⟩) (fun _ _=>⟨rfl,rfl,rfl,rfl,rfl,rfl,trivial⟩) (fun _ _ _ ⟨O',hB,t0,h9,w0,y0,z0,j0,u0,g3,p0,d1,k1,e3,c2⟩=>⟨O',hB,t0,h9,w0,y0,z0,j0,u0,g3⟩) ⟨rfl,rfl,rfl⟩ ⟨rfl,rfl⟩ ?_
    rintro tB m7 m3 c4 fJ fE k4 ⟨uB,hB,t0,h9,w0,y0,z0,j0,u0,g3,p0,d1,k1,e3,c2⟩ e1 d4 j8
    have rk460:inI64 (tB:Int):=rngK k4 g5
    refine Al (Aj ?_)
    obtain ⟨gJ,hJ,gE,n7,o7,p7,iJ,rfl,e4,vB⟩:=c2.elem' k4
    obtain ⟨wB,xB,rfl⟩:=e4.form
    refine Br (hA:=n7) (hj:=rfl) (hlt:=o7) rfl rfl rfl ?_
    refine Bl (hl:=rfl) (hc:=p7) rfl rfl ?_
    refine Bi 14 uB rfl fun yB jJ i5 f1 h3=>?_
    refine Ba h3 rfl rfl rfl (Bk rfl) (allOne rfl) fun zB g1 h3=>?_
    replace h3:Lc 14 zB i5 yB 85 [(.int .i64 m7.op),(.slice wB m7.state.length xB)]:=h3
    refine o_z ?_
    refine Al (Bu [(17,[6])] i5 ?_)
    refine AR (fuel:=2) [] [(0,true),(1,true),(2,true),(3,true),(4,true),(5,true),(6,true),(7,true),(8,true),(9,true),(10,true),(11,true),(12,true),(13,true),(14,true),(15,true),(16,true)] (by kernel_rfl) rfl ?_
    refine AM rfl rfl rfl (Bd rfl rfl rfl (AW (hc:=fun w' ⟨O',hq⟩=>Blk.cell (i:=1) ((h3.st hq (by decide)).1) rfl) rfl rfl rfl ?_))
    refine Bd rfl rfl rfl ?_
    replace d1:=(d1.st f1).st g1
    refine AW (hc:=fun w' ⟨O',hq⟩=>Blk.cell (i:=1) ((d1.st hq (by decide)).1) rfl) rfl rfl rfl ?_
    refine Bd rfl rfl rfl ?_
    replace t0:=(t0.st f1).st g1
    refine AW (hc:=fun w' ⟨O',hq⟩=>Blk.cell (i:=3) ((t0.st hq (by decide)).1) rfl) rfl rfl rfl ?_
    refine Bd rfl rfl rfl (AW (hc:=fun w' ⟨O',hq⟩=>Blk.cell (i:=0) ((h3.st hq (by decide)).1) rfl) rfl rfl rfl ?_)
    obtain ⟨kJ,aC,e1⟩:=bs e1
    obtain ⟨bC,cC⟩:=AV aC
    replace z0:=(z0.st f1).st g1
    obtain ⟨lJ,mJ,iE,q7,r7,s7,t7,nJ,oJ,rfl,dC,eC,pJ,qJ⟩:=z0.elem cC
    obtain ⟨rJ,sJ,rfl⟩:=dC.form
    obtain ⟨tJ,uJ,rfl⟩:=eC.form
    refine BB (hA:=q7) (hj:=(Int.toNat_of_nonneg bC).symm) (hlt:=s7) rfl rfl rfl rfl ?_
    refine Bd rfl rfl rfl (AW (hc:=fun w' ⟨O',hq⟩=>cat1 (AX (hq.agree (i:=0) (by decide)) r7 t7)) rfl rfl rfl ?_)
    obtain ⟨vJ,u7,e1⟩:=bs e1
    have fC:=(BW u7)
    refine Nb (he:=u7) rfl rfl rfl rfl ?_
    refine Bd rfl rfl rfl ?_
    replace p0:=(p0.st f1).st g1
    refine AW (hc:=fun w' ⟨O',hq⟩=>Blk.cell (i:=2) ((p0.st hq (by decide)).1) rfl) rfl rfl rfl ?_
    refine Bd rfl rfl rfl (AW (hc:=fun w' ⟨O',hq⟩=>Blk.cell (i:=0) ((h3.st hq (by decide)).1) rfl) rfl rfl rfl ?_)
    refine AC ?_
    refine AO (i:=17) (by kernel_rfl) rfl ?_
    obtain ⟨wJ,gC,e1⟩:=bs e1
    replace g3:=(g3.st f1).st g1
    replace e4:=(e4.st f1).st g1
    refine Fo (O:=i5) (Gb g3 e4 fC l6 vB gC) rfl rfl fun xJ yJ w7 h1 hC=>?_
    obtain ⟨iC,jC⟩:=hC
    obtain ⟨rfl,kC⟩:=jC.err
    have hZ:=h1.lst [6] (fun _ h=>by cases h;decide)
    refine AT [] hZ (by kernel_rfl) ?_
    refine AR (fuel:=0) [] [(18,true)] (by kernel_rfl) rfl ?_
    refine DW rfl rfl rfl (AC ?_)
    refine Bn (by kernel_rfl) ?_
    refine Al (Aj (Ar rfl rfl (EI rfl rfl (fun j5=>?_) fun j5=>?_)))
    ·
     replace e1:=ip e1 j5
     refine o_z ?_
     refine Ah rfl (Al (Aj (Df rfl rfl rfl ?_)))
     refine Ar rfl rfl ?_
     replace j0:=((j0.st f1).st g1).st h1
     refine Ba j0 rfl rfl rfl (Bk rfl) (allOne rfl) fun x7 lC j0=>?_
     replace j0:Lc 3 x7 w7 q1 32 [(.int .i64 0),(.slice none 0 0),(.int .i64 0),(.int .i64 0)]:=j0
     refine Au rfl rfl (o_z ?_)
     refine AH ?_
     obtain rfl:=sm e1
     obtain rfl:=d4 _ rfl
     obtain rfl:=sm (BP b0)
     obtain rfl:=i1 _ rfl
     obtain rfl:=sm (BP hm)
     replace hB:=(((hB.st f1).st g1).st h1).st lC
     exact ret2 rfl (Cm (cs:=[(.int .i64 0),(.slice none 0 0),(.int .i64 0),(.int .i64 0)]) rfl rfl j0.1.cellsAt) (AD rfl) ⟨hB.ext,_,_,rfl,(Vb.mono (F:=Fr 0 x7 w7) (Vb.ofAgg (cs:=[(.int .i64 0),(.slice none 0 0),(.int .i64 0),(.int .i64 0)]) (x:=(⟨0,([]:List Int),0,0⟩:Rsl)) rfl ⟨_,rfl,(Vb.nil _ _),(show inI64 0 from by decide),(show inI64 0 from by decide),(show inI64 0 from by decide)⟩) hB.out),(vErr kC)⟩
    replace e1:=im e1 j5
    refine o_z ?_
    refine Ae rfl (AN ?_)
    obtain rfl:=sm e1
    exact show Exists _ from ⟨_,(),rfl,⟨rfl,rfl,rfl,rfl,rfl,rfl,rfl,rfl,rfl,rfl,rfl,trivial⟩,_,((hB.st f1).st g1).st h1,t0.st h1,((h9.st f1).st g1).st h1,((w0.st f1).st g1).st h1,((y0.st f1).st g1).st h1,z0.st h1,((j0.st f1).st g1).st h1,((u0.st f1).st g1).st h1,iC,p0.st h1,d1.st h1,((k1.st f1).st g1).st h1,((e3.st f1).st g1).st h1,((c2.st f1).st g1).st h1⟩
   replace hB:=((((((hB.st b1).st m0).st n0).st k0).st s0).st q0).st a1
   replace h9:=((((((h9.st b1).st m0).st n0).st k0).st s0).st q0).st a1
   replace w0:=((((((w0.st b1).st m0).st n0).st k0).st s0).st q0).st a1
   replace y0:=(((y0.st k0).st s0).st q0).st a1
   replace z0:=((((((z0.st b1).st m0).st n0).st k0).st s0).st q0).st a1
   replace t0:=(((t0.st k0).st s0).st q0).st a1
   replace j0:=((((((j0.st b1).st m0).st n0).st k0).st s0).st q0).st a1
   replace u0:=(u0.st q0).st a1
   rintro zJ aK ⟨bK,cK,rfl,d2,dK,hB,t0,h9,w0,y0,z0,j0,u0,g3⟩
   replace b0:=Be b0
   obtain rfl:=sm b0
   exact show Exists _ from ⟨_,(),rfl,⟨(BN d2 _ _ rfl),(BN d2 _ _ rfl),(BN d2 _ _ rfl),(BN d2 _ _ rfl),(BN d2 _ _ rfl),(BN d2 _ _ rfl),trivial⟩,_,hB,t0,h9,w0,y0,z0,j0,u0,g3,fB⟩
  replace b0:=iT b0
  refine o_z ?_
  refine Ah rfl (Al (Aj (Ar rfl rfl (AL rfl rfl ?_))))
  replace p0:=((p0.st m0).st n0).st k0
  refine AG (hc:=Blk.cell (i:=2) (p0.1) rfl) rfl rfl ?_
  replace b2:=((b2.st m0).st n0).st k0
  replace w2:=((w2.st m0).st n0).st k0
  replace y2:=((y2.st m0).st n0).st k0
  replace z2:=((z2.st m0).st n0).st k0
  replace a3:=((a3.st m0).st n0).st k0
  replace b3:=((b3.st m0).st n0).st k0
  replace j1:=((j1.st m0).st n0).st k0
  replace c3:=((c3.st m0).st n0).st k0
  replace d3:=((d3.st m0).st n0).st k0
  obtain ⟨mC,r3,jE,kE,nC⟩:=Ors.shut (x:=(⟨(⟨a0.2.t.vars,a0.2.t.init,a0.2.t.goal,a0.2.t.ops⟩:Tsk),a0.2.gens,a0.2.nodes,a0.2.tab,r0.2.l,a0.2.number⟩:Ors)) (l0:=6) (l1:=9) (l2:=10) (l3:=11) (by decide) b2 w2 y2 z2 a3 b3 j1 c3 d3 y6
  obtain ⟨f4,oC,b0⟩:=bs b0
  refine Fo (O:=mC) (HU nC l6 oC) rfl rfl fun eK fK g4 s3 pC=>?_
  obtain ⟨gK,hK,iK,rfl,h4,qC⟩:=pC
  obtain ⟨k5,l5,rfl⟩:=h4.form
  obtain ⟨rfl,rC⟩:=qC.err
  refine Ar rfl rfl (CC rfl rfl rfl (CC rfl rfl rfl (Au rfl rfl (Au rfl rfl (o_z ?_)))))
  refine Al (Al (Aj (Ar rfl rfl (EI rfl rfl (fun m5=>?_) fun m5=>?_))))
  ·
   replace b0:=ip b0 m5
   refine o_z ?_
   refine Ah rfl (Al (Aj (Df rfl rfl rfl ?_)))
   refine Ar rfl rfl ?_
   replace j0:=(((((j0.st b1).st m0).st n0).st k0).st r3).st s3
   refine Ba j0 rfl rfl rfl (Bk rfl) (allOne rfl) fun y7 sC j0=>?_
   replace j0:Lc 3 y7 g4 q1 32 [(.int .i64 0),(.slice none 0 0),(.int .i64 0),(.int .i64 0)]:=j0
   refine Au rfl rfl (o_z ?_)
   refine AH ?_
   obtain rfl:=sm b0
   obtain rfl:=i1 _ rfl
   obtain rfl:=sm (BP hm)
   replace hB:=((((((hB.st b1).st m0).st n0).st k0).st r3).st s3).st sC
   exact ret2 rfl (Cm (cs:=[(.int .i64 0),(.slice none 0 0),(.int .i64 0),(.int .i64 0)]) rfl rfl j0.1.cellsAt) (AD rfl) ⟨hB.ext,_,_,rfl,(Vb.mono (F:=Fr 0 y7 g4) (Vb.ofAgg (cs:=[(.int .i64 0),(.slice none 0 0),(.int .i64 0),(.int .i64 0)]) (x:=(⟨0,([]:List Int),0,0⟩:Rsl)) rfl ⟨_,rfl,(Vb.nil _ _),(show inI64 0 from by decide),(show inI64 0 from by decide),(show inI64 0 from by decide)⟩) hB.out),(vErr rC)⟩
  replace b0:=im b0 m5
  refine o_z ?_
  refine Ae rfl (AN (Al (Aj (Ar rfl rfl (AL rfl rfl ?_)))))
  replace d1:=((d1.st k0).st r3).st s3
  refine AG (hc:=Blk.cell (i:=1) (d1.1) rfl) rfl rfl ?_
  refine Ar rfl rfl (Df rfl rfl rfl ?_)
  replace j0:=(((((j0.st b1).st m0).st n0).st k0).st r3).st s3
  refine Ba j0 rfl rfl rfl (Bk rfl) (allOne rfl) fun z7 a8 j0=>?_
  replace j0:Lc 3 z7 g4 q1 32 [(.int .i64 1),(.slice k5 f4.1.length l5),(.int .i64 c1.cost),(.int .i64 a0.1)]:=j0
  refine Au rfl rfl (o_z ?_)
  refine AH ?_
  obtain rfl:=sm b0
  obtain rfl:=i1 _ rfl
  obtain rfl:=sm (BP hm)
  replace hB:=((((((hB.st b1).st m0).st n0).st k0).st r3).st s3).st a8
  replace h4:=h4.st a8
  exact ret2 rfl (Cm (cs:=[(.int .i64 1),(.slice k5 f4.1.length l5),(.int .i64 c1.cost),(.int .i64 a0.1)]) rfl rfl j0.1.cellsAt) (AD rfl) ⟨hB.ext,_,_,rfl,(Vb.mono (F:=Fr 0 z7 g4) (Vb.ofAgg (cs:=[(.int .i64 1),(.slice k5 f4.1.length l5),(.int .i64 c1.cost),(.int .i64 a0.1)]) (x:=(⟨1,f4.1,c1.cost,a0.1⟩:Rsl)) rfl ⟨_,rfl,h4,(show inI64 (1) from by decide),bB,w3⟩) hB.out),(vErr (show inI64 0 from by decide))⟩
 rintro jK kK ⟨lK,mK,_,_,hE⟩
 exact hE.elim
end
section
open Go Go.RowKit
inductive PlanR (t:Tsk):List Int→List Int→List Int→Int→Prop
  | nil {s:List Int}:PlanR t s [] s 0
  | cons {s rest s':List Int} {k:Nat} {o:Opr} {C:Int}:t.ops[k]?=some o→holdsB o.pre s=true→PlanR t (succ o s) rest s' C→PlanR t s ((k:Int) :: rest) s' (o.cost + C)
theorem NW (f:List Fct) (s:List Int):Eh f s=some (holdsB f s):=rfl
theorem NX {t:Tsk} (h:TaskOk t) {s plan s':List Int} {C:Int} (hr:PlanR t s plan s' C):∀ (j:Nat) (c:Int),StateOk t.vars s→0≤c→c + plan.length * 1048576≤1000000000000000 →
    rng (ρ:=Int×Bool) (fun (_:Nat) (a34:Int) (s31:(List Int)×Int)=>bnd (Cz t s31.1 a34) fun q56=>if (!q56.2)=true then (some (.ret (0,false))) else (bnd (atI t.ops a34) fun a70=>bnd (chkI (s31.2 + a70.cost)) fun n91=>some (.next (q56.1,n91)))) plan j (s,c)=some (.done (s',c + C)):=by
  induction hr with
  | nil=>intro j c _ _ _;simp [rng]
  | @cons s rest s' k o C ho hp hr ih =>
    intro j c hs hc hb
    simp only [List.length_cons] at hb
    have hoo:=h.2.2.2.2.2 k o ho
    have h1:=hoo.1
    have h2:=hoo.2.1
    have e2:(bnd (Cz t s (k:Int)) fun q56=>if (!q56.2)=true then (some (.ret (0,false))) else (bnd (atI t.ops (k:Int)) fun a70=>bnd (chkI (c + a70.cost)) fun n91=>some (.next (q56.1,n91))):Option (Ctl (List Int×Int) (Int×Bool)))=some (.next (succ o s,c + o.cost)):=by
      rw [KB h hs ho,if_pos hp,Am,if_neg (by simp),Bh,ho,Am,Cp (by unfold inI64;omega),Am]
    simp only [rng,e2]
    rw [ih (j + 1) (c + o.cost) (ET h hs ho) (by omega) (by omega),Int.add_assoc]
theorem PY {t:Tsk} (h:TaskOk t) {s plan s':List Int} {C:Int} (hs:StateOk t.vars s) (hr:PlanR t s plan s' C) (hl:plan.length≤1000):Fd t s plan=some (C,holdsB t.goal s'):=by
  unfold Fd
  rw [NX h hr 0 0 hs (by omega) (by omega),Am,BI,GI,Am,Int.zero_add]
  cases holdsB t.goal s'<;>rfl
end
section
section
variable {α σ ρ β : Type}
theorem ML {f:σ→Option (Ctl σ ρ)} (I:σ→Prop) (B:σ→Prop) (R:ρ→Prop) (μ:σ→Nat) (h:∀ s,I s→(∃ s',f s=some (.next s')∧I s'∧μ s' < μ s)∨(∃ s',f s=some (.brk s')∧B s')∨∃ r,f s=some (.ret r)∧R r) :
    ∀ s,I s→(∃ s',lop f s=some (.done s')∧B s')∨∃ r,lop f s=some (.ret r)∧R r:=by
  have key:∀ (n:Nat) s,I s→μ s < n→(∃ s',lop f s=some (.done s')∧B s')∨∃ r,lop f s=some (.ret r)∧R r:=by
    intro n
    induction n with
    | zero=>intro s _ hn;omega
    | succ n ih =>
      intro s hI hn
      rw [Dc]
      rcases h s hI with ⟨s',h1,h2,h3⟩|⟨s',h1,h2⟩|⟨r,h1,h2⟩
      · rw [h1];exact ih s' h2 (by omega)
      · rw [h1];exact .inl ⟨s',rfl,h2⟩
      · rw [h1];exact .inr ⟨r,rfl,h2⟩
  exact fun s hI=>key (μ s + 1) s hI (by omega)
theorem NY {f:σ→Option (Ctl σ ρ)} {s₀:σ} {k:Fin σ ρ→Option β} {P:β→Prop} (I:σ→Prop) (B:σ→Prop) (R:ρ→Prop) (μ:σ→Nat) (h0:I s₀)
    (h:∀ s,I s→(∃ s',f s=some (.next s')∧I s'∧μ s' < μ s)∨(∃ s',f s=some (.brk s')∧B s')∨∃ r,f s=some (.ret r)∧R r)
    (hb:∀ s,B s→∃ r,k (.done s)=some r∧P r) (hr:∀ q,R q→∃ r,k (.ret q)=some r∧P r):∃ r,bnd (lop f s₀) k=some r∧P r:=by
  rcases ML I B R μ h s₀ h0 with ⟨s,h1,h2⟩|⟨q,h1,h2⟩
  · rw [h1,Am];exact hb s h2
  · rw [h1,Am];exact hr q h2
theorem PZ {f:σ→Option (Ctl σ ρ)} {s₀:σ} {k:Fin σ ρ→Option β} {r:Option β} (I:σ→Prop) (B:σ→Prop) (μ:σ→Nat) (h0:I s₀)
    (h:∀ s,I s→(∃ s',f s=some (.next s')∧I s'∧μ s' < μ s)∨(∃ s',f s=some (.brk s')∧B s')) (hb:∀ s,B s→k (.done s)=r):bnd (lop f s₀) k=r:=by
  rcases ML I B (fun _=>False) μ (fun s hI=>(h s hI).imp id .inl) s₀ h0 with ⟨s,h1,h2⟩|⟨q,_,h2⟩
  · rw [h1,Am];exact hb s h2
  · exact h2.elim
theorem JU {f:Nat→α→σ→Option (Ctl σ ρ)} {xs:List α} {s₀:σ} {k:Fin σ ρ→Option β} {P:β→Prop} (I:Nat→σ→Prop) (R:ρ→Prop) (h0:I 0 s₀)
    (h:∀ i x s,xs[i]?=some x→I i s→(∃ s',f i x s=some (.next s')∧I (i + 1) s')∨∃ q,f i x s=some (.ret q)∧R q)
    (hb:∀ s,I xs.length s→∃ r,k (.done s)=some r∧P r) (hr:∀ q,R q→∃ r,k (.ret q)=some r∧P r):∃ r,bnd (rng f xs 0 s₀) k=some r∧P r:=by
  have key:∀ (ys:List α) (j:Nat) (s:σ),(∀ i,ys[i]?=xs[j + i]?)→j + ys.length=xs.length→I j s→∃ r,bnd (rng f ys j s) k=some r∧P r:=by
    intro ys
    induction ys with
    | nil=>intro j s _ hl hI;exact hb s (by simp at hl;rw [← hl];exact hI)
    | cons y ys ih =>
      intro j s hg hl hI
      have hy:xs[j]?=some y:=by have:=hg 0;simpa using this.symm
      simp only [rng]
      rcases h j y s hy hI with ⟨s',h1,h2⟩|⟨q,h1,h2⟩
      · rw [h1]
        exact ih (j + 1) s' (fun i=>by have:=hg (i + 1);rw [show j + 1 + i=j + (i + 1) from by omega,← this];simp) (by simp at hl;omega) h2
      · rw [h1,Am];exact hr q h2
  exact key xs 0 s₀ (fun i=>by rw [Nat.zero_add]) (by omega) h0
theorem MM {f:Nat→α→σ→Option (Ctl σ ρ)} {xs:List α} {s₀:σ} {k:Fin σ ρ→Option β} {r:Option β} (I:Nat→σ→Prop) (h0:I 0 s₀)
    (h:∀ i x s,xs[i]?=some x→I i s→∃ s',f i x s=some (.next s')∧I (i + 1) s') (hb:∀ s,I xs.length s→k (.done s)=r):bnd (rng f xs 0 s₀) k=r:=by
  obtain ⟨s,h1,h2⟩:=CS I h0 h
  rw [h1,Am]
  exact hb s h2
end
end
section
open Go Go.RowKit
inductive Walk (t:Tsk):List Int→Int→Prop
  | goal {s:List Int}:holdsB t.goal s=true→Walk t s 0
  | step {s:List Int} {k:Nat} {o:Opr} {c:Int}:t.ops[k]?=some o→holdsB o.pre s=true→Walk t (succ o s) c→Walk t s (c + o.cost)
def Inf:Int:=1125899906842624
theorem Ra {σ ρ:Type} {f:σ→Option (Ctl σ ρ)} (I:σ→Prop) (B:σ→Prop) (μ:σ→Nat) (h:∀ s,I s→(∃ s',f s=some (.next s')∧I s'∧μ s' < μ s)∨(∃ s',f s=some (.brk s')∧B s')):∀ s,I s→∃ s',lop f s=some (.done s')∧B s':=by
  have key:∀ (n:Nat) s,I s→μ s < n→∃ s',itr f n s=some (.done s')∧B s':=by
    intro n
    induction n with
    | zero=>intro s _ h0;omega
    | succ n ih =>
      intro s hs hn
      rcases h s hs with ⟨s',h1,h2,h3⟩|⟨s',h1,h2⟩
      · obtain ⟨r,hr,hb⟩:=ih s' h2 (by omega)
        exact ⟨r,by simp only [itr,h1];exact hr,hb⟩
      · exact ⟨s',by simp only [itr,h1],h2⟩
  intro s hs
  obtain ⟨r,hr,hb⟩:=key (μ s + 1) s hs (by omega)
  exact ⟨r,Hr.2 ⟨_,hr⟩,hb⟩
def sumN:List Int→Nat
  | []=>0
  | x :: l=>x.toNat + sumN l
theorem LJ:∀ (l:List Int) (i:Nat) (x y:Int),l[i]?=some x→0≤y→y < x→sumN (l.set i y) < sumN l
  | [],i,x,y,h,_,_=>by simp at h
  | a :: l,0,x,y,h,h1,h2=>by
    obtain rfl:a=x:=by simpa using h
    show y.toNat + sumN l < a.toNat + sumN l
    omega
  | a :: l,i + 1,x,y,h,h1,h2=>by
    have:=LJ l i x y (by simpa using h) h1 h2
    show a.toNat + sumN (l.set i y) < a.toNat + sumN l
    omega
def DistI (t:Tsk) (d:List Int):Prop:=d.length=(statesL t.vars).length∧∀ (i:Nat) s,(statesL t.vars)[i]?=some s→∃ c,d[i]?=some c∧0≤c∧c≤Inf∧(c < Inf→Walk t s c)∧(holdsB t.goal s=true→c=0)
def DistP (t:Tsk) (d:List Int):Prop:=DistI t d∧∀ (i:Nat) s c C,(statesL t.vars)[i]?=some s→d[i]?=some c→Walk t s C→c≤C
theorem LK {α:Type} {l:List α} {k:Nat} {x y:α} (h:l[k]?=some x):y∈l.take (k + 1)↔y∈l.take k∨y=x:=by
  rw [List.take_add_one,h,List.mem_append];simp
theorem Qa      {t:Tsk} (h:Mid t):∃ d,DI t=some d∧DistP t d:=by
  have hlen:(statesL t.vars).length≤600:=by have:=h.states t.vars.length;rwa [List.take_length] at this
  unfold DI
  rw [Ip h,Am,FY (by omega) (by omega),Am]
  obtain ⟨d0,h1,h2,h3⟩:=CS (ρ:=List Int) (f:=fun (k53:Nat) (a54:List Int) (s51:(List Int))=>bnd (s51[k53]?) fun _=>bnd (Dk t.goal a54) fun q91=>if q91=true then bnd ((s51.set k53 1125899906842624)[k53]?) fun _=>some (.next ((s51.set k53 1125899906842624).set k53 0)) else some (.next (s51.set k53 1125899906842624))) (xs:=statesL t.vars) (s₀:=List.replicate (statesL t.vars).length 0)
    (fun n d=>d.length=(statesL t.vars).length∧∀ (i:Nat) s,i < n→(statesL t.vars)[i]?=some s→d[i]?=some (if holdsB t.goal s=true then 0 else Inf)) ⟨by simp,fun i s hi=>by omega⟩ (fun n s d hn hI=>by
      obtain ⟨i1,i2⟩:=hI
      have hlt:=AE hn
      obtain ⟨u,hu⟩:=AF (l:=d) (k:=n) (by omega)
      rw [hu,Am,GI,Am]
      by_cases hg:holdsB t.goal s=true
      · rw [if_pos hg,List.getElem?_set_self (by omega),Am]
        refine ⟨_,rfl,by simpa using i1,fun i s' hi hs'=>?_⟩
        by_cases e:i=n
        · subst e
          obtain rfl:s'=s:=by rw [hn] at hs';exact (Option.some.inj hs').symm
          rw [List.getElem?_set_self (by simp;omega),if_pos hg]
        · rw [List.getElem?_set_ne (by omega),List.getElem?_set_ne (by omega)]
          exact i2 i s' (by omega) hs'
      · rw [if_neg hg]
        refine ⟨_,rfl,by simpa using i1,fun i s' hi hs'=>?_⟩
        by_cases e:i=n
        · subst e
          obtain rfl:s'=s:=by rw [hn] at hs';exact (Option.some.inj hs').symm
          rw [List.getElem?_set_self (by omega),if_neg hg];rfl
        · rw [List.getElem?_set_ne (by omega)]
          exact i2 i s' (by omega) hs')
  obtain ⟨es,he,hes⟩:=OV h
  rw [h1,Am,BI,he,Am]
  have hd0:DistI t d0:=⟨h2,fun i s hi=>by
    refine ⟨_,h3 i s (AE hi) hi,?_⟩
    by_cases hg:holdsB t.goal s=true
    · rw [if_pos hg];exact ⟨by omega,by unfold Inf;omega,fun _=>.goal hg,fun _=>rfl⟩
    · rw [if_neg hg];exact ⟨by unfold Inf;omega,by omega,fun hh=>absurd hh (by omega),fun hh=>absurd hh hg⟩⟩
  -- one pass over the edges
  have pass : ∀ d,DistI t d→∃ (d':List Int) (b:Bool),rng (ρ:=Ctl ((List Int)×Bool) (List Int)) (fun (_:Nat) (a152:Edg) (s149:(List Int)×Bool)=>bnd (atI t.ops a152.op) fun a183=>bnd (bnd (atI s149.1 a152.dst) fun a208=>if a208 < 1125899906842624 then (bnd (atI s149.1 a152.dst) fun a221=>bnd (chkI (a221 + a183.cost)) fun n233=>bnd (atI s149.1 a152.src) fun a236=>if n233 < a236 then (some true) else (some false)) else (some false):Option Bool) fun y204=>if y204=true then (bnd (atI s149.1 a152.dst) fun a254=>bnd (chkI (a254 + a183.cost)) fun n266=>bnd (atI s149.1 a152.src) fun _=>some (.next ((s149.1.set (a152.src).toNat n266),true))) else (some (.next (s149.1,s149.2)))) es 0 (d,false)=some (.done (d',b))∧DistI t d'∧(b=true→sumN d' < sumN d)∧(b=false→d'=d∧∀ e∈es,∀ (i k j:Nat) o x y,e=⟨i,k,j⟩→t.ops[k]?=some o→d[i]?=some x→d[j]?=some y→y < Inf→x≤y + o.cost):=by
    intro d hd
    obtain ⟨⟨d',b⟩,g1,g2,g3,g4⟩:=CS (ρ:=Ctl ((List Int)×Bool) (List Int)) (f:=fun (_:Nat) (a152:Edg) (s149:(List Int)×Bool)=>bnd (atI t.ops a152.op) fun a183=>bnd (bnd (atI s149.1 a152.dst) fun a208=>if a208 < 1125899906842624 then (bnd (atI s149.1 a152.dst) fun a221=>bnd (chkI (a221 + a183.cost)) fun n233=>bnd (atI s149.1 a152.src) fun a236=>if n233 < a236 then (some true) else (some false)) else (some false):Option Bool) fun y204=>if y204=true then (bnd (atI s149.1 a152.dst) fun a254=>bnd (chkI (a254 + a183.cost)) fun n266=>bnd (atI s149.1 a152.src) fun _=>some (.next ((s149.1.set (a152.src).toNat n266),true))) else (some (.next (s149.1,s149.2)))) (xs:=es) (s₀:=(d,false))
      (fun m r=>DistI t r.1∧(r.2=true→sumN r.1 < sumN d)∧(r.2=false→r.1=d∧∀ e∈es.take m,∀ (i k j:Nat) o x y,e=⟨i,k,j⟩→t.ops[k]?=some o→d[i]?=some x→d[j]?=some y→y < Inf→x≤y + o.cost)) ⟨hd,fun hh=>by simp at hh,fun _=>⟨rfl,fun e he=>by simp at he⟩⟩ (fun m e r hm hI=>by
        obtain ⟨i1,i2,i3⟩:=hI
        obtain ⟨r1,r2⟩:=r
        simp only at i1 i2 i3
        obtain ⟨i,k,j,s,o,rfl,a1,a2,a3,a4⟩:=(hes e).1 (List.mem_of_getElem? hm)
        obtain ⟨x,x1,x2,x3,x4,x5⟩:=i1.2 i s a1
        obtain ⟨y,y1,y2,y3,y4,y5⟩:=i1.2 j _ a4
        have hco:=h.ok.2.2.2.2.2 k o a2
        have hc1:=hco.1
        have hc2:=hco.2.1
        simp only
        rw [Bh,a2,Am,Bh,y1,Am,Bh,x1]
        have keep:∀ (hx:y < Inf→x≤y + o.cost),DistI t r1∧(r2=true→sumN r1 < sumN d)∧(r2=false→r1=d∧∀ e∈es.take (m + 1),∀ (i k j:Nat) o x y,e=⟨i,k,j⟩→t.ops[k]?=some o→d[i]?=some x→d[j]?=some y→y < Inf→x≤y + o.cost):=fun hx=>by
          refine ⟨i1,i2,fun hf=>⟨(i3 hf).1,fun e' he'=>?_⟩⟩
          obtain ⟨e1,e2⟩:=i3 hf
          rcases (LK hm).1 he' with hh|rfl
          · exact e2 e' hh
          · intro i' k' j' o' x' y' hE ho' hx' hy' hlt
            injection hE with h1 h2 h3
            obtain rfl:i=i':=by omega
            obtain rfl:k=k':=by omega
            obtain rfl:j=j':=by omega
            obtain rfl:o=o':=by rw [a2] at ho';exact Option.some.inj ho'
            rw [← e1,x1] at hx'
            rw [← e1,y1] at hy'
            obtain rfl:=Option.some.inj hx'
            obtain rfl:=Option.some.inj hy'
            exact hx hlt
        by_cases hy:y < 1125899906842624
        · rw [if_pos hy,Am,Cp (by unfold inI64;unfold Inf at *;omega),Am,Am]
          by_cases hx:y + o.cost < x
          · rw [if_pos hx,Am,Bo,Am,Cp (by unfold inI64;unfold Inf at *;omega),Am,Am]
            refine ⟨_,rfl,⟨by simpa using i1.1,fun i' s' hs'=>?_⟩,fun _=>?_,fun hh=>by simp at hh⟩
            · show ∃ c,(r1.set ((i:Int)).toNat (y + o.cost))[i']?=some c∧_
              rw [show ((i:Int)).toNat=i from by omega]
              by_cases e:i=i'
              · subst e
                obtain rfl:s=s':=by rw [a1] at hs';exact Option.some.inj hs'
                refine ⟨_,by rw [List.getElem?_set_self (AE x1)],by omega,by omega,fun _=>.step a2 a3 (y4 hy),fun hg=>?_⟩
                have:=x5 hg;omega
              · rw [List.getElem?_set_ne e];exact i1.2 i' s' hs'
            · show sumN (r1.set ((i:Int)).toNat (y + o.cost)) < _
              rw [show ((i:Int)).toNat=i from by omega]
              have hlt:=LJ r1 i x (y + o.cost) x1 (by omega) hx
              cases hr:r2 with
              | true=>have:=i2 hr;omega
              | false=>rw [(i3 hr).1] at hlt;rwa [(i3 hr).1]
          · rw [if_neg hx,Am,BD]
            exact ⟨_,rfl,keep fun _=>by omega⟩
        · rw [if_neg hy,Am,BD]
          exact ⟨_,rfl,keep fun hh=>absurd hh hy⟩)
    refine ⟨d',b,g1,g2,g3,fun hb=>?_⟩
    obtain ⟨e1,e2⟩:=g4 hb
    rw [List.take_length] at e2
    exact ⟨e1,e2⟩
  obtain ⟨⟨d,b⟩,l1,l2,l3⟩:=Ra (ρ:=List Int) (f:=fun (s127:(List Int)×Bool)=>if s127.2=true then (bnd (rng (ρ:=Ctl ((List Int)×Bool) (List Int)) (fun (_:Nat) (a152:Edg) (s149:(List Int)×Bool)=>bnd (atI t.ops a152.op) fun a183=>bnd (bnd (atI s149.1 a152.dst) fun a208=>if a208 < 1125899906842624 then (bnd (atI s149.1 a152.dst) fun a221=>bnd (chkI (a221 + a183.cost)) fun n233=>bnd (atI s149.1 a152.src) fun a236=>if n233 < a236 then (some true) else (some false)) else (some false):Option Bool) fun y204=>if y204=true then (bnd (atI s149.1 a152.dst) fun a254=>bnd (chkI (a254 + a183.cost)) fun n266=>bnd (atI s149.1 a152.src) fun _=>some (.next ((s149.1.set (a152.src).toNat n266),true))) else (some (.next (s149.1,s149.2)))) es 0 (s127.1,false)) fun res147=>fin res147 fun (s287:(List Int)×Bool)=>some (.next (s287.1,s287.2))) else (some (.brk (s127.1,s127.2))))
    (fun r=>DistI t r.1∧(r.2=false→∀ e∈es,∀ (i k j:Nat) o x y,e=⟨i,k,j⟩→t.ops[k]?=some o→r.1[i]?=some x→r.1[j]?=some y→y < Inf→x≤y + o.cost)) (fun r=>DistI t r.1∧∀ e∈es,∀ (i k j:Nat) o x y,e=⟨i,k,j⟩→t.ops[k]?=some o→r.1[i]?=some x→r.1[j]?=some y→y < Inf→x≤y + o.cost) (fun r=>2 * sumN r.1 + if r.2=true then 1 else 0) (fun r hr=>by
      obtain ⟨r1,r2⟩:=r
      obtain ⟨i1,i2⟩:=hr
      cases r2 with
      | true =>
        obtain ⟨d',b,p1,p2,p3,p4⟩:=pass r1 i1
        refine .inl ⟨(d',b),?_,⟨p2,fun hb=>?_⟩,?_⟩
        · simp only [if_true]
          rw [p1,Am,BI]
        · obtain ⟨e1,e2⟩:=p4 hb
          show ∀ e∈es,_
          intro e he i k j o x y hE ho hx hy
          simp only at hx hy
          rw [e1] at hx hy
          exact e2 e he i k j o x y hE ho hx hy
        · cases b with
          | true=>have:=p3 rfl;simp;omega
          | false=>rw [(p4 rfl).1];simp
      | false=>exact .inr ⟨(r1,false),by simp,i1,i2 rfl⟩) (d0,true) ⟨hd0,fun hh=>by simp at hh⟩
  refine ⟨d,by rw [l1,Am,BI],l2,fun i s c C hi hc hw=>?_⟩
  induction hw generalizing i c with
  | goal hg =>
    obtain ⟨c',q1,_,_,_,q5⟩:=l2.2 i _ hi
    rw [hc] at q1
    obtain rfl:=Option.some.inj q1
    have:=q5 hg;omega
  | @step s k o C' ho hp hw ih =>
    have hs:StateOk t.vars s:=Fc.1 (List.mem_of_getElem? hi)
    obtain ⟨j,_,hj⟩:=Kk h (ET h.ok hs ho)
    obtain ⟨y,y1,y2,y3,y4,y5⟩:=l2.2 j _ hj
    have h5:=ih j y hj y1
    obtain ⟨x,x1,x2,x3,x4,x5⟩:=l2.2 i s hi
    rw [x1] at hc
    obtain rfl:=Option.some.inj hc
    have hco:=(h.ok.2.2.2.2.2 k o ho).1
    by_cases hy:y < Inf
    · have:=l3 ⟨i,k,j⟩ ((hes _).2 ⟨i,k,j,s,o,rfl,hi,ho,hp,hj⟩) i k j o x y rfl ho x1 y1 hy
      omega
    · omega
end
section
open Go Go.RowKit
structure QEn where
  key:Int
  tie:Int
  item:Int
  number:Int
theorem KC {α:Type} {l:List α} {m i:Nat} {x:α} (h:(l.take m)[i]?=some x):l[i]?=some x:=by
  by_cases hi:i < m
  · rwa [List.getElem?_take_of_lt hi] at h
  · rw [List.getElem?_take_eq_none (by omega)] at h;cases h
def bfr (x y:QEn):Prop:=x.key < y.key∨(x.key=y.key∧(x.tie < y.tie∨(x.tie=y.tie∧x.number < y.number)))
instance (x y:QEn):Decidable (bfr x y):=by unfold bfr;infer_instance
def nb (x y:QEn):Prop:=¬ bfr x y
theorem HA {x y z:QEn} (h1:nb x y) (h2:nb y z):nb x z:=by unfold nb bfr at *;omega
theorem KZ {x y:QEn} (h:bfr x y):nb y x:=by unfold nb bfr at *;omega
theorem JV (x:QEn):nb x x:=by unfold nb bfr;omega
theorem NZ {x y:QEn} (h:nb x y):y.key≤x.key:=by unfold nb bfr at h;omega
def HeapOk (l:List QEn):Prop:=∀ (j:Nat) x y,0 < j→l[j]?=some x→l[(j - 1) / 2]?=some y→nb x y
def Over (l:List QEn) (i:Nat):Prop:=∀ (j:Nat) x y,0 < i→0 < j→(j - 1) / 2=i→l[j]?=some x→l[(i - 1) / 2]?=some y→nb x y
def UpI (l:List QEn) (i:Nat):Prop:=(∀ (j:Nat) x y,0 < j→j≠i→l[j]?=some x→l[(j - 1) / 2]?=some y→nb x y)∧Over l i
def DownI (l:List QEn) (i:Nat):Prop:=(∀ (j:Nat) x y,0 < j→(j - 1) / 2≠i→l[j]?=some x→l[(j - 1) / 2]?=some y→nb x y)∧Over l i
theorem Hl {l:List QEn} {i j:Nat} {a b:QEn} (hi:l[i]?=some a) (hj:l[j]?=some b) (hne:i≠j) (k:Nat):((l.set i b).set j a)[k]?=if k=j then some a else if k=i then some b else l[k]?:=by
  by_cases h1:k=j
  · subst h1;rw [if_pos rfl,List.getElem?_set_self (by simpa using AE hj)]
  · rw [if_neg h1,List.getElem?_set_ne (by omega)]
    by_cases h2:k=i
    · subst h2;rw [if_pos rfl,List.getElem?_set_self (AE hi)]
    · rw [if_neg h2,List.getElem?_set_ne (by omega)]
theorem LL {l:List QEn} {i j:Nat} {a b:QEn} (hi:l[i]?=some a) (hj:l[j]?=some b):((l.set i b).set j a).Perm l:=by
  have h1:=AE hi
  have h2:=AE hj
  have e1:l[i]=a:=by rw [List.getElem?_eq_getElem h1] at hi;exact Option.some.inj hi
  have e2:l[j]=b:=by rw [List.getElem?_eq_getElem h2] at hj;exact Option.some.inj hj
  rw [← e1,← e2]
  exact List.set_set_perm h1 h2
theorem UpI.step {l:List QEn} {i:Nat} {a b:QEn} (h:UpI l i) (h0:0 < i) (hi:l[i]?=some a) (hj:l[(i - 1) / 2]?=some b) (hb:bfr a b):UpI ((l.set i b).set ((i - 1) / 2) a) ((i - 1) / 2):=by
  have hne:i≠(i - 1) / 2:=by omega
  constructor
  · intro j x y hj0 hjp hx hy
    rw [Hl hi hj hne,if_neg hjp] at hx
    rw [Hl hi hj hne] at hy
    by_cases e1:j=i
    · subst e1
      rw [if_pos rfl] at hx hy
      obtain rfl:=Option.some.inj hx
      obtain rfl:=Option.some.inj hy
      exact KZ hb
    · rw [if_neg e1] at hx
      by_cases e2:(j - 1) / 2=(i - 1) / 2
      · rw [if_pos e2] at hy
        obtain rfl:=Option.some.inj hy
        have:=h.1 j x b hj0 e1 hx (by rw [e2];exact hj)
        exact HA this (KZ hb)
      · rw [if_neg e2] at hy
        by_cases e3:(j - 1) / 2=i
        · rw [if_pos e3] at hy
          obtain rfl:=Option.some.inj hy
          exact h.2 j x b h0 hj0 e3 hx hj
        · rw [if_neg e3] at hy
          exact h.1 j x y hj0 e1 hx hy
  · intro j x y hp0 hj0 hjp hx hy
    rw [Hl hi hj hne] at hx hy
    have n1:((i - 1) / 2 - 1) / 2≠(i - 1) / 2:=by omega
    have n2:((i - 1) / 2 - 1) / 2≠i:=by omega
    rw [if_neg n1,if_neg n2] at hy
    have hpp:=h.1 ((i - 1) / 2) b y hp0 (by omega) hj hy
    rw [if_neg (by omega)] at hx
    by_cases e1:j=i
    · subst e1
      rw [if_pos rfl] at hx
      obtain rfl:=Option.some.inj hx
      exact hpp
    · rw [if_neg e1] at hx
      exact HA (h.1 j x b hj0 e1 hx (by rw [hjp];exact hj)) hpp
theorem UpI.heap {l:List QEn} {i:Nat} (h:UpI l i) (hi:i=0∨∀ x y,l[i]?=some x→l[(i - 1) / 2]?=some y→nb x y):HeapOk l:=fun j x y hj hx hy=>by
  by_cases e:j=i
  · subst e
    rcases hi with h0|h1
    · omega
    · exact h1 x y hx hy
  · exact h.1 j x y hj e hx hy
theorem DownI.step {l:List QEn} {i c:Nat} {a b:QEn} (h:DownI l i) (hc:c=2 * i + 1∨c=2 * i + 2) (hi:l[i]?=some a) (hj:l[c]?=some b) (hb:bfr b a) (hs:∀ (j:Nat) x,0 < j→(j - 1) / 2=i→l[j]?=some x→nb x b):DownI ((l.set i b).set c a) c:=by
  have hne:i≠c:=by omega
  have hcp:(c - 1) / 2=i:=by omega
  constructor
  · intro j x y hj0 hjp hx hy
    rw [Hl hi hj hne] at hx hy
    rw [if_neg hjp] at hy
    by_cases e1:j=c
    · subst e1
      rw [if_pos rfl] at hx
      rw [if_pos hcp] at hy
      obtain rfl:=Option.some.inj hx
      obtain rfl:=Option.some.inj hy
      exact KZ hb
    · rw [if_neg e1] at hx
      by_cases e2:j=i
      · subst e2
        rw [if_pos rfl] at hx
        rw [if_neg (by omega)] at hy
        obtain rfl:=Option.some.inj hx
        exact h.2 c _ y hj0 (by omega) hcp hj hy
      · rw [if_neg e2] at hx
        by_cases e3:(j - 1) / 2=i
        · rw [if_pos e3] at hy
          obtain rfl:=Option.some.inj hy
          exact hs j x hj0 e3 hx
        · rw [if_neg e3] at hy
          exact h.1 j x y hj0 e3 hx hy
  · intro j x y hc0 hj0 hjc hx hy
    rw [Hl hi hj hne] at hx hy
    rw [if_neg (by omega),if_neg (by omega)] at hx
    rw [if_neg (by omega),if_pos hcp] at hy
    obtain rfl:=Option.some.inj hy
    exact h.1 j x _ hj0 (by omega) hx (by rw [hjc];exact hj)
theorem DownI.heap {l:List QEn} {i:Nat} (h:DownI l i) (hi:∀ (j:Nat) x y,0 < j→(j - 1) / 2=i→l[j]?=some x→l[i]?=some y→nb x y):HeapOk l:=fun j x y hj hx hy=>by
  by_cases e:(j - 1) / 2=i
  · exact hi j x y hj e hx (by rw [← e];exact hy)
  · exact h.1 j x y hj e hx hy
theorem Oa {l:List QEn} (h:HeapOk l) {e:QEn} (he:l[0]?=some e):∀ x∈l,nb x e:=by
  have key:∀ (n j:Nat) x,j≤n→l[j]?=some x→nb x e:=by
    intro n
    induction n with
    | zero =>
      intro j x hj hx
      have hj0:j=0:=by omega
      rw [hj0,he] at hx
      rw [← Option.some.inj hx]
      exact JV _
    | succ n ih =>
      intro j x hj hx
      by_cases h0:j=0
      · exact ih j x (by omega) hx
      · obtain ⟨y,hy⟩:=AF (l:=l) (k:=(j - 1) / 2) (by have:=AE hx;omega)
        exact HA (h j x y (by omega) hx hy) (ih ((j - 1) / 2) y (by omega) hy)
  intro x hx
  obtain ⟨j,hj⟩:=List.getElem?_of_mem hx
  exact key j j x (by omega) hj
end
section
open Go Go.RowKit
theorem KD {K V:Type} [MKey K] (z:V) (k k':K) (v:V):∀ l:List (K×V),mget z (mput l k v) k'=if k=k' then v else mget z l k'
  | []=>by simp only [mput,mget]
  | p :: r=>by
    have ih:=KD z k k' v r
    simp only [mput]
    by_cases h1:p.1=k
    · rw [if_pos h1]
      simp only [mget]
      by_cases h2:k=k'
      · rw [if_pos h2,if_pos h2]
      · rw [if_neg h2,if_neg h2,if_neg (by rw [h1];exact h2)]
    · rw [if_neg h1]
      simp only [mget,ih]
      by_cases h2:k=k'
      · rw [if_pos h2,if_pos h2,if_neg (by rw [← h2];exact h1)]
      · rw [if_neg h2,if_neg h2]
theorem Rb {xs:List Int} (hl:xs.length≤1000000):Ck xs=some xs.reverse:=by
  unfold Ck
  rw [Cp (by unfold inI64;omega),Am]
  refine PZ (fun s=>∃ i:Nat,s.2.1=(i:Int)∧s.2.1 + s.2.2=(xs.length:Int) - 1∧i≤xs.length∧s.1.length=xs.length∧∀ k:Nat,k < xs.length→s.1[k]?=if k < i∨xs.length - 1 - k < i then xs[xs.length - 1 - k]? else xs[k]?) (fun s=>s.1=xs.reverse) (fun s=>(s.2.2 - s.2.1 + 1).toNat) ⟨0,rfl,by dsimp only;omega,by omega,rfl,fun k hk=>by rw [if_neg (by omega)]⟩ ?_ (fun s hs=>by rw [BI,hs])
  rintro ⟨ys,i',j⟩ ⟨i,hi,hij,hil,hlen,hg⟩
  dsimp only at hi hij hlen hg ⊢
  subst hi
  by_cases hlt:(i:Int) < j
  · obtain ⟨jn,rfl⟩:∃ jn:Nat,j=(jn:Int):=⟨j.toNat,by omega⟩
    obtain ⟨a,ha⟩:=AF (l:=ys) (k:=jn) (by omega)
    obtain ⟨b,hb⟩:=AF (l:=ys) (k:=i) (by omega)
    rw [if_pos hlt,Bh,ha,Am,Bh,hb,Am,Am,Int.toNat_natCast,Int.toNat_natCast,Bh,List.getElem?_set_ne (by omega),ha,Am,Cp (by unfold inI64;omega),Am,Cp (by unfold inI64;omega),Am]
    refine .inl ⟨_,rfl,⟨i + 1,by dsimp only;omega,by dsimp only;omega,by omega,by simp [hlen],fun k hk=>?_⟩,by dsimp only;omega⟩
    dsimp only
    have hga:=hg jn (by omega)
    rw [ha,if_neg (by omega)] at hga
    have hgb:=hg i (by omega)
    rw [hb,if_neg (by omega)] at hgb
    by_cases e1:k=jn
    · subst e1
      rw [List.getElem?_set_self (by simp;omega),if_pos (by omega),hgb]
      congr 1;omega
    · rw [List.getElem?_set_ne (by omega)]
      by_cases e2:k=i
      · subst e2
        rw [List.getElem?_set_self (by omega),if_pos (by omega),hga]
        congr 1;omega
      · rw [List.getElem?_set_ne (by omega),hg k hk]
        by_cases e3:k < i∨xs.length - 1 - k < i
        · rw [if_pos e3,if_pos (by omega)]
        · rw [if_neg e3,if_neg (by omega)]
  · rw [if_neg hlt]
    refine .inr ⟨_,rfl,?_⟩
    dsimp only
    apply List.ext_getElem?
    intro k
    rcases Nat.lt_or_ge k xs.length with hk|hk
    · rw [List.getElem?_reverse hk,hg k hk]
      by_cases e3:k < i∨xs.length - 1 - k < i
      · rw [if_pos e3]
      · rw [if_neg e3];congr 1;omega
    · rw [List.getElem?_eq_none (by omega),List.getElem?_eq_none (by simp;omega)]
end
section
open Go Go.RowKit
theorem PlanR.snoc {t:Tsk} {s p s':List Int} {C:Int} (h:PlanR t s p s' C) {k:Nat} {o:Opr} (ho:t.ops[k]?=some o) (hp:holdsB o.pre s'=true):PlanR t s (p ++ [(k:Int)]) (succ o s') (C + o.cost):=by
  induction h with
  | nil=>have:=PlanR.cons ho hp (PlanR.nil (t:=t) (s:=succ o _));simpa [Int.add_comm] using this
  | cons ho' hp' _ ih=>have:=PlanR.cons ho' hp' (ih hp);rw [Int.add_assoc];exact this
theorem PlanR.walk {t:Tsk} {s p s':List Int} {C:Int} (h:PlanR t s p s' C) (hg:holdsB t.goal s'=true):Walk t s C:=by
  induction h with
  | nil=>exact .goal hg
  | cons ho hp _ ih=>have:=Walk.step ho hp (ih hg);rwa [Int.add_comm] at this
end
section
open Go Go.RowKit
attribute [local irreducible] ewp owp hwp hwq hws Ev Evg Fn retPost loud loudS Res1
noncomputable def Ff (x0:List Int) (x1:Int):Option Int :=
  bnd (rng (ρ:=Int) (fun (k11:Nat) (a12:Int) (s9:Int)=>bnd (chkI (x1 + 1)) fun n32=>bnd (chkI (s9 * (min (max a12 0) n32))) fun n35=>if x1 < n35 then (bnd (chkI (x1 + 1)) fun n39=>some (.ret n39)) else (some (.next n35))) x0 0 1) fun res7=>fin res7 fun (s46:Int)=>some s46
theorem Ms {w:World} {A:Nat→Prop} (hA:∀ k,A k→k < w.heap.size) {vx0:Value} {x0:List Int} (b0:Vb w A vx0 x0) {x1:Int} (rx1:inI64 x1) {r:Int} (hm:Ff x0 x1=some r) :
    Fn Tryz.prog 15 [vx0,(.int .i64 x1)] w fun v w'=>Ext w w'∧Vb w' (upA A w w') v r:=by
 obtain ⟨O,hB,q0⟩:=enter hA
 replace b0:=b0.mono q0
 obtain ⟨A3,c4,rfl⟩:=b0.form
 refine AK Tryz.func15 rfl Tryz.ntmps15 rfl ?_
 unfold Ff at hm
 refine Al (Aj (Au rfl rfl (o_z ?_)))
 refine Al (Aj (Au rfl rfl (o_z ?_)))
 refine Al (Al (Aj (Ar rfl rfl (AZ rfl rfl ?_))))
 have l6:x0.length≤9223372036854775807:=Nat.le_trans b0.len.2.1 b0.len.2.2
 have r5:inI64 (x0.length:Int):=rngNat l6
 refine Ar rfl rfl (o_z ?_)
 obtain ⟨g0,r0,hm⟩:=bs hm
 refine AJ (aft g0 (fun (s9:Int) (e0:Unit)=>[(5,(.int .i64 s9))]) (fun s9 e0 w'=>∃ O':Lab,Bs w A w' O'∧inI64 s9)) ?_ ?_
 ·
  refine AU (Bt (σ:=Int) (X:=Unit) (x0.length) r0 rfl l6 (fun (s9:Int) (e0:Unit)=>[(1,(.int .i64 x1)),(5,(.int .i64 s9)),(8,(.slice A3 x0.length c4))]) _ (fun s9 e0 w'=>∃ O':Lab,Bs w A w' O'∧Vb w' (Fr 0 w' O') (.slice A3 x0.length c4) x0∧inI64 s9) _ () ⟨O,hB,b0,(show inI64 (1) from by decide)⟩ ⟨rfl,rfl,rfl,rfl,rfl,trivial⟩ (fun _ _=>⟨rfl,rfl⟩) (fun _ _=>⟨rfl,trivial⟩) (fun _ _ _ ⟨O',hB,b0,f0⟩=>⟨O',hB,f0⟩) ⟨rfl,rfl,rfl⟩ ⟨rfl,rfl⟩ ?_)
  rintro s0 y0 s9 e0 z0 t0 d0 ⟨a1,hB,b0,f0⟩ a0 c0 h0
  have rk11:inI64 (s0:Int):=rngK d0 l6
  refine Al (Aj ?_)
  obtain ⟨b1,c1,u0,i0,j0,k0,rfl,d1⟩:=b0.elem' d0
  refine Br (hA:=i0) (hj:=rfl) (hlt:=j0) rfl rfl rfl ?_
  refine AG (hc:=cat0 k0) rfl rfl ?_
  refine Au rfl rfl (o_z ?_)
  refine Al (Aj (Ar rfl rfl (Ar rfl rfl (Pt rfl rfl rfl ?_))))
  refine Ar rfl rfl ?_
  obtain ⟨e1,n0,a0⟩:=bs a0
  have f1:=(BW n0)
  refine FT (he:=n0) rfl rfl rfl ?_
  refine Ps rfl rfl rfl ?_
  obtain ⟨g1,o0,a0⟩:=bs a0
  have v0:=(BW o0)
  refine PB (he:=o0) rfl rfl rfl ?_
  refine Au rfl rfl (o_z ?_)
  refine Al (Aj (Ar rfl rfl (Ar rfl rfl (Da rfl rfl rfl (fun l0=>?_) fun l0=>?_))))
  ·
   replace a0:=ip a0 l0
   refine o_z ?_
   refine Ah rfl (Al (Aj (Ar rfl rfl ?_)))
   obtain ⟨h1,p0,a0⟩:=bs a0
   have w0:=(BW p0)
   refine FT (he:=p0) rfl rfl rfl ?_
   refine Au rfl rfl (o_z ?_)
   refine AH ?_
   obtain rfl:=sm a0
   obtain rfl:=c0 _ rfl
   obtain rfl:=sm (BP hm)
   exact ret1v rfl (AD rfl) ⟨hB.ext,(vInt w0)⟩
  replace a0:=im a0 l0
  refine o_z ?_
  refine Ae rfl (AN ?_)
  obtain rfl:=sm a0
  exact show Exists _ from ⟨_,(),rfl,⟨rfl,rfl,rfl,rfl,rfl,trivial⟩,_,hB,b0,v0⟩
 rintro i1 j1 ⟨k1,l1,rfl,m0,m1,hB,f0⟩
 replace hm:=Be hm
 refine AP _ m0 ?_
 refine Al (Aj (Ar rfl rfl (Au rfl rfl (o_z ?_))))
 refine AH ?_
 obtain rfl:=sm hm
 exact ret1v rfl (AD rfl) ⟨hB.ext,(vInt f0)⟩
noncomputable def Fg (x0:Tsk):Option Int :=
  bnd (DI x0) fun q24=>bnd (DB x0.vars x0.init) fun q33=>bnd (atI q24 q33) fun a41=>some a41
theorem Mt {w:World} {A:Nat→Prop} (hA:∀ k,A k→k < w.heap.size) {vx0:Value} {x0:Tsk} (h0:Vb w A vx0 x0) {r:Int} (hm:Fg x0=some r) :
    Fn Tryz.prog 14 [vx0] w fun v w'=>Ext w w'∧Vb w' (upA A w w') v r:=by
 obtain ⟨O,hB,w0⟩:=enter hA
 replace h0:=h0.mono w0
 obtain ⟨k1,rfl,v3,v4,v5,v6,rfl,h7,a0,d0,e0⟩:=h0
 obtain ⟨A8,c9,rfl⟩:=h7.form
 obtain ⟨q0,r0,rfl⟩:=a0.form
 obtain ⟨s0,t0,rfl⟩:=d0.form
 obtain ⟨u0,v0,rfl⟩:=e0.form
 refine AK Tryz.func14 rfl Tryz.ntmps14 rfl ?_
 unfold Fg at hm
 refine Al (Aj (BO 2 O rfl rfl fun y0 z0 i0 b0 c0=>?_))
 replace c0:Lc 2 z0 i0 y0 26 [(.slice A8 x0.vars.length c9),(.slice q0 x0.init.length r0),(.slice s0 x0.goal.length t0),(.slice u0 x0.ops.length v0)]:=c0
 refine Au rfl rfl (o_z ?_)
 refine Al (Bu [] i0 ?_)
 refine AR (fuel:=5) [] [(0,true),(2,true),(3,true),(4,true),(5,true)] (by kernel_rfl) rfl ?_
 refine CV (hl:=rfl) (hb:=fun w' ⟨O',hq⟩=>((c0.st hq (by decide)).1).cellsAt) rfl rfl rfl ?_
 refine Bd rfl rfl rfl (AW (hc:=fun w' ⟨O',hq⟩=>Blk.cell (i:=0) ((c0.st hq (by decide)).1) rfl) rfl rfl rfl ?_)
 refine Bd rfl rfl rfl (AW (hc:=fun w' ⟨O',hq⟩=>Blk.cell (i:=1) ((c0.st hq (by decide)).1) rfl) rfl rfl rfl ?_)
 refine AC ?_
 refine AO (i:=1) (by kernel_rfl) rfl ?_
 obtain ⟨a1,b1,hm⟩:=bs hm
 replace h7:=h7.st b0
 replace a0:=a0.st b0
 replace d0:=d0.st b0
 replace e0:=e0.st b0
 refine Bq (O:=i0) (R:=fun w' F v=>Vb w' F v a1) (Jm Fr.lt (Vb.ofAgg (cs:=[(.slice A8 x0.vars.length c9),(.slice q0 x0.init.length r0),(.slice s0 x0.goal.length t0),(.slice u0 x0.ops.length v0)]) (x:=x0) rfl ⟨_,_,_,_,rfl,h7,a0,d0,e0⟩) b1) rfl rfl fun l1 j0 k0 f0 g0=>?_
 obtain ⟨m1,n1,rfl⟩:=g0.form
 have hZ:=f0.lst [] (fun _ h=>h.elim)
 refine AT [] hZ (by kernel_rfl) ?_
 refine AO (i:=6) (by kernel_rfl) rfl ?_
 obtain ⟨c1,d1,hm⟩:=bs hm
 replace h7:=h7.st f0
 replace a0:=a0.st f0
 refine Bg (O:=k0) (A:=All j0) (R:=fun w' F v=>Vb w' F v c1) (IU (fun _ h=>h) (Vb.mono (F:=Fr 0 j0 k0) h7 Fr.lt) (Vb.mono (F:=Fr 0 j0 k0) a0 Fr.lt) d1) rfl rfl fun o1 p1 q1 l0 e1=>?_
 obtain ⟨rfl,r1⟩:=e1.int
 have hZ:=l0.lst [] (fun _ h=>h.elim)
 refine AT [] hZ (by kernel_rfl) ?_
 refine AR (fuel:=0) [] [(7,true),(8,true),(9,true)] (by kernel_rfl) rfl ?_
 obtain ⟨s1,f1,hm⟩:=bs hm
 obtain ⟨g1,h1⟩:=AV f1
 replace g0:=g0.st l0
 obtain ⟨t1,u1,i1,m0,n0,o0,p0,rfl,j1⟩:=g0.elem h1
 refine BB (hA:=m0) (hj:=(Int.toNat_of_nonneg g1).symm) (hlt:=o0) rfl rfl rfl rfl ?_
 refine AW (hc:=fun w' ⟨O',hq⟩=>cat0 (AX (hq.agree (i:=0) (by decide)) n0 p0)) rfl rfl rfl ?_
 refine DW rfl rfl rfl (AC ?_)
 refine Bn (by kernel_rfl) ?_
 refine AH ?_
 obtain rfl:=sm hm
 replace hB:=((hB.st b0).st f0).st l0
 exact ret1v rfl (AD rfl) ⟨hB.ext,(vInt j1)⟩
noncomputable def CZ (x0:Tsk) (x1:Rsl) (x2:Int):Option Bool :=
  if 1125899906842624≤x2 then (bnd (if x1.verdict=2 then (if (x1.plan.length:Int)=0 then (if x1.cost=0 then (some true) else (some false)) else (some false)) else (some false):Option Bool) fun y40=>some y40) else (bnd (Fd x0 x0.init x1.plan) fun q53=>bnd (if x1.verdict=1 then (if q53.2=true then (if q53.1=x2 then (if x1.cost=x2 then (some true) else (some false)) else (some false)) else (some false)) else (some false):Option Bool) fun y65=>some y65)
theorem KU {w:World} {A:Nat→Prop} (hA:∀ k,A k→k < w.heap.size) {vx0:Value} {x0:Tsk} (o0:Vb w A vx0 x0) {vx1:Value} {x1:Rsl} (p0:Vb w A vx1 x1) {x2:Int} (rx2:inI64 x2) {r:Bool} (hm:CZ x0 x1 x2=some r) :
    Fn Tryz.prog 13 [vx0,vx1,(.int .i64 x2)] w fun v w'=>Ext w w'∧Vb w' (upA A w w') v r:=by
 obtain ⟨O,hB,a1⟩:=enter hA
 replace o0:=o0.mono a1
 obtain ⟨b2,rfl,v5,v6,v7,v8,rfl,h9,i0,m0,n0⟩:=o0
 obtain ⟨b1,c1,rfl⟩:=h9.form
 obtain ⟨d1,e1,rfl⟩:=i0.form
 obtain ⟨f1,g1,rfl⟩:=m0.form
 obtain ⟨h1,i1,rfl⟩:=n0.form
 replace p0:=p0.mono a1
 obtain ⟨l1,rfl,c2,rfl,f0,d2,e2,f2⟩:=p0
 obtain ⟨m1,n1,rfl⟩:=f0.form
 refine AK Tryz.func13 rfl Tryz.ntmps13 rfl ?_
 unfold CZ at hm
 refine Al (Aj (BO 2 O rfl rfl fun o1 p1 j1 d0 h0=>?_))
 replace h0:Lc 2 p1 j1 o1 26 [(.slice b1 x0.vars.length c1),(.slice d1 x0.init.length e1),(.slice f1 x0.goal.length g1),(.slice h1 x0.ops.length i1)]:=h0
 refine BO 3 j1 rfl rfl fun q1 j0 k0 c0 e0=>?_
 replace e0:Lc 3 j0 k0 q1 32 [(.int .i64 x1.verdict),(.slice m1 x1.plan.length n1),(.int .i64 x1.cost),(.int .i64 x1.expanded)]:=e0
 refine Au rfl rfl (o_z ?_)
 refine Al (Al (Aj (Ar rfl rfl (Fv rfl rfl rfl (fun q0=>?_) fun q0=>?_))))
 ·
  replace hm:=ip hm q0
  refine o_z ?_
  refine Ah rfl (Al ?_)
  obtain ⟨r1,b0,hm⟩:=bs hm
  refine AJ (fun l' w'=>∃ (s1:Unit) (O':Lab),subs l' [(6,(.bool r1))]∧Bs w A w' O') ?_ ?_
  ·
   refine Aj (AL rfl rfl (AG (hc:=Blk.cell (i:=0) (e0.1) rfl) rfl rfl ?_))
   refine Eb rfl rfl rfl (fun r0=>?_) fun r0=>?_
   ·
    replace b0:=ip b0 r0
    refine Ar rfl rfl (Az rfl rfl (AL rfl rfl (Az rfl rfl (AG (hc:=Blk.cell (i:=1) (e0.1) rfl) rfl rfl ?_))))
    refine Az rfl rfl (AZ rfl rfl ?_)
    replace f0:=(f0.st d0).st c0
    have t1:x1.plan.length≤9223372036854775807:=Nat.le_trans f0.len.2.1 f0.len.2.2
    have g2:inI64 (x1.plan.length:Int):=rngNat t1
    refine Az rfl rfl (Eb rfl rfl rfl (fun s0=>?_) fun s0=>?_)
    ·
     replace b0:=ip b0 s0
     refine Bw rfl rfl rfl (Ar rfl rfl (Az rfl rfl (AL rfl rfl (Az rfl rfl (AG (hc:=Blk.cell (i:=2) (e0.1) rfl) rfl rfl ?_)))))
     refine Az rfl rfl (Eb rfl rfl rfl (fun t0=>?_) fun t0=>?_)
     ·
      replace b0:=ip b0 t0
      refine Bw rfl rfl rfl (Au rfl rfl (o_z ?_))
      obtain rfl:=sm b0
      exact ⟨(),_,⟨rfl,trivial⟩,(hB.st d0).st c0⟩
     replace b0:=im b0 t0
     refine Bw rfl rfl rfl (Au rfl rfl (o_z ?_))
     obtain rfl:=sm b0
     exact ⟨(),_,⟨rfl,trivial⟩,(hB.st d0).st c0⟩
    replace b0:=im b0 s0
    refine Bw rfl rfl rfl (Ar rfl rfl (Ay rfl rfl rfl rfl (Ay rfl rfl rfl rfl (Ay rfl rfl rfl rfl (Bx rfl rfl rfl (Au rfl rfl (o_z ?_)))))))
    obtain rfl:=sm b0
    exact ⟨(),_,⟨rfl,trivial⟩,(hB.st d0).st c0⟩
   replace b0:=im b0 r0
   refine Ar rfl rfl (Ay rfl rfl rfl rfl (Ay rfl rfl rfl rfl (Ay rfl rfl rfl rfl (Ay rfl rfl rfl rfl (Bx rfl rfl rfl (Ar rfl rfl (Ay rfl rfl rfl rfl (Ay rfl rfl rfl rfl (Ay rfl rfl rfl rfl (Bx rfl rfl rfl (Au rfl rfl (o_z ?_))))))))))))
   obtain rfl:=sm b0
   exact ⟨(),_,⟨rfl,trivial⟩,(hB.st d0).st c0⟩
  replace hB:=(hB.st d0).st c0
  rintro h2 i2 ⟨s1,j2,u0,hB⟩
  refine AP _ u0 ?_
  refine AH ?_
  obtain rfl:=sm hm
  exact ret1v rfl (AD rfl) ⟨hB.ext,vBool⟩
 replace hm:=im hm q0
 refine o_z ?_
 refine Ae rfl (AN (Al (Aj ?_)))
 replace h0:=h0.st c0
 refine Bl (hl:=rfl) (hc:=(h0.1).cellsAt) rfl rfl ?_
 refine AL rfl rfl (AG (hc:=Blk.cell (i:=1) (h0.1) rfl) rfl rfl ?_)
 refine AL rfl rfl (AG (hc:=Blk.cell (i:=1) (e0.1) rfl) rfl rfl ?_)
 obtain ⟨k1,u1,hm⟩:=bs hm
 replace h9:=(h9.st d0).st c0
 replace i0:=(i0.st d0).st c0
 replace m0:=(m0.st d0).st c0
 replace n0:=(n0.st d0).st c0
 replace f0:=(f0.st d0).st c0
 refine Bg (O:=k0) (A:=All j0) (R:=fun w' F v=>T2 w' F v k1) (Mk (fun _ h=>h) (Vb.mono (F:=Fr 0 j0 k0) (Vb.ofAgg (cs:=[(.slice b1 x0.vars.length c1),(.slice d1 x0.init.length e1),(.slice f1 x0.goal.length g1),(.slice h1 x0.ops.length i1)]) (x:=x0) rfl ⟨_,_,_,_,rfl,h9,i0,m0,n0⟩) Fr.lt) (Vb.mono (F:=Fr 0 j0 k0) i0 Fr.lt) (Vb.mono (F:=Fr 0 j0 k0) f0 Fr.lt) u1) rfl rfl fun k2 l2 m2 g0 v1=>?_
 obtain ⟨n2,o2,rfl,w1,y1⟩:=v1
 obtain ⟨rfl,p2⟩:=w1.int
 obtain rfl:=y1.bool
 refine Ar rfl rfl (CC rfl rfl rfl (CC rfl rfl rfl (Au rfl rfl (Au rfl rfl (o_z ?_)))))
 refine Al ?_
 obtain ⟨z1,a0,hm⟩:=bs hm
 refine AJ (fun l' w'=>∃ (a2:Unit) (O':Lab),subs l' [(6,(.bool z1))]∧Bs w A w' O') ?_ ?_
 ·
  refine Aj (AL rfl rfl ?_)
  replace e0:=e0.st g0
  refine AG (hc:=Blk.cell (i:=0) (e0.1) rfl) rfl rfl ?_
  refine Eb rfl rfl rfl (fun v0=>?_) fun v0=>?_
  ·
   replace a0:=ip a0 v0
   refine Ar rfl rfl (Az rfl rfl (Ar rfl rfl (Bw rfl rfl rfl (Ar rfl rfl ?_))))
   rcases Bool.eq_false_or_eq_true k1.2 with l0|l0
   ·
    try simp only [l0]
    replace a0:=ip a0 l0
    refine Az rfl rfl (Ar rfl rfl (Az rfl rfl (Ar rfl rfl (Az rfl rfl (Eb rfl rfl rfl (fun w0=>?_) fun w0=>?_)))))
    ·
     replace a0:=ip a0 w0
     refine Bw rfl rfl rfl (Ar rfl rfl (Az rfl rfl (AL rfl rfl (Az rfl rfl (AG (hc:=Blk.cell (i:=2) (e0.1) rfl) rfl rfl ?_)))))
     refine Az rfl rfl (Ar rfl rfl (Az rfl rfl (Eb rfl rfl rfl (fun y0=>?_) fun y0=>?_)))
     ·
      replace a0:=ip a0 y0
      refine Bw rfl rfl rfl (Au rfl rfl (o_z ?_))
      obtain rfl:=sm a0
      exact ⟨(),_,⟨rfl,trivial⟩,((hB.st d0).st c0).st g0⟩
     replace a0:=im a0 y0
     refine Bw rfl rfl rfl (Au rfl rfl (o_z ?_))
     obtain rfl:=sm a0
     exact ⟨(),_,⟨rfl,trivial⟩,((hB.st d0).st c0).st g0⟩
    replace a0:=im a0 w0
    refine Bw rfl rfl rfl (Ar rfl rfl (Ay rfl rfl rfl rfl (Ay rfl rfl rfl rfl (Ay rfl rfl rfl rfl (Ay rfl rfl rfl rfl (Bx rfl rfl rfl (Au rfl rfl (o_z ?_))))))))
    obtain rfl:=sm a0
    exact ⟨(),_,⟨rfl,trivial⟩,((hB.st d0).st c0).st g0⟩
   try simp only [l0]
   replace a0:=im' a0 l0
   refine Ay rfl rfl rfl rfl (Ay rfl rfl rfl rfl (Ay rfl rfl rfl rfl (Bx rfl rfl rfl (Ar rfl rfl (Ay rfl rfl rfl rfl (Ay rfl rfl rfl rfl (Ay rfl rfl rfl rfl (Ay rfl rfl rfl rfl (Bx rfl rfl rfl (Au rfl rfl (o_z ?_)))))))))))
   obtain rfl:=sm a0
   exact ⟨(),_,⟨rfl,trivial⟩,((hB.st d0).st c0).st g0⟩
  replace a0:=im a0 v0
  refine Ar rfl rfl (Ay rfl rfl rfl rfl (Bx rfl rfl rfl (Ar rfl rfl (Ay rfl rfl rfl rfl (Ay rfl rfl rfl rfl (Ay rfl rfl rfl rfl (Bx rfl rfl rfl (Ar rfl rfl (Ay rfl rfl rfl rfl (Ay rfl rfl rfl rfl (Ay rfl rfl rfl rfl (Ay rfl rfl rfl rfl (Bx rfl rfl rfl (Au rfl rfl ?_))))))))))))))
  refine o_z ?_
  obtain rfl:=sm a0
  exact ⟨(),_,⟨rfl,trivial⟩,((hB.st d0).st c0).st g0⟩
 replace hB:=((hB.st d0).st c0).st g0
 rintro q2 r2 ⟨a2,s2,z0,hB⟩
 refine AP _ z0 ?_
 refine AH ?_
 obtain rfl:=sm hm
 exact ret1v rfl (AD rfl) ⟨hB.ext,vBool⟩
end
section
open Go Go.RowKit
theorem Qb {t:Tsk} (h:Mid t):∃ b,Fg t=some b∧0≤b∧b≤Inf∧(b < Inf→Walk t t.init b)∧∀ C,Walk t t.init C→b≤C:=by
  obtain ⟨d,hd,hdP⟩:=Qa h
  obtain ⟨i0,hi0,hi0'⟩:=Kk h h.ok.2.2.2.1
  obtain ⟨c,c1,c2,c3,c4,_⟩:=hdP.1.2 i0 _ hi0'
  refine ⟨c,?_,c2,c3,c4,fun C hw=>hdP.2 i0 _ c C hi0' c1 hw⟩
  unfold Fg
  rw [hd,Am,hi0,Am,Bh,c1,Am]
theorem PlanR.bound {t:Tsk} (h:TaskOk t) {s p s':List Int} {C:Int} (hr:PlanR t s p s' C):0≤C∧C≤(p.length:Int) * 1048576:=by
  induction hr with
  | nil=>simp
  | @cons s rest s' k o C ho _ _ ih =>
    have h1:=(h.2.2.2.2.2 k o ho).1
    have h2:=(h.2.2.2.2.2 k o ho).2.1
    simp only [List.length_cons]
    omega
theorem OX {t:Tsk} (h:Mid t) {r:Rsl} {b:Int} (hbw:b < Inf→Walk t t.init b) (hbl:∀ C,Walk t t.init C→b≤C) (hv:r.verdict=1) (hl:r.plan.length≤1000) {s':List Int} (hp:PlanR t t.init r.plan s' r.cost) (hg:holdsB t.goal s'=true) (hm:∀ C,Walk t t.init C→r.cost≤C):CZ t r b=some true:=by
  have h1:=hp.bound h.ok
  have h2:=hbl _ (hp.walk hg)
  have hlt:b < Inf:=by unfold Inf;omega
  have h3:=hm _ (hbw hlt)
  have he:r.cost=b:=by omega
  unfold CZ
  unfold Inf at hlt
  rw [if_neg (by omega),PY h.ok h.ok.2.2.2.1 hp hl,Am,if_pos hv,hg,Bo,he,if_pos rfl,if_pos rfl]
  rfl
theorem OY {t:Tsk} {r:Rsl} {b:Int} (hbw:b < Inf→Walk t t.init b) (hv:r.verdict=2) (hp:r.plan=[]) (hc:r.cost=0) (hn:∀ C,¬ Walk t t.init C):CZ t r b=some true:=by
  have hlt:¬ b < Inf:=fun hh=>hn _ (hbw hh)
  unfold CZ
  unfold Inf at hlt
  rw [if_pos (by omega),if_pos hv,hp,if_pos (by simp),if_pos hc]
  rfl
theorem Iq {α:Type} [DecidableEq α]:∀ {a b:List α},a.Nodup→(∀ x∈a,x∈b)→a.length≤b.length
  | [],_,_,_=>Nat.zero_le _
  | x :: a,b,hn,hs=>by
    have hx:=hs x List.mem_cons_self
    have h1:=Iq (a:=a) (b:=b.erase x) (List.nodup_cons.1 hn).2 fun y hy=>(List.mem_erase_of_ne (fun e=>(List.nodup_cons.1 hn).1 (by rw [← e];exact hy))).2 (hs y (List.mem_cons_of_mem _ hy))
    have h2:=List.length_erase_of_mem hx
    have h3:=List.length_pos_of_mem hx
    simp only [List.length_cons]
    omega
theorem LM {L:List (List Int)} (h:∀ (i j:Nat) s,L[i]?=some s→L[j]?=some s→i=j):L.Nodup:=by
  rw [List.nodup_iff_pairwise_ne,List.pairwise_iff_getElem]
  intro i j hi hj hij he
  have:=h i j L[i] (List.getElem?_eq_getElem hi) (by rw [he];exact List.getElem?_eq_getElem hj)
  omega
end
section
open Go Go.RowKit
def appB (t:Tsk) (s:List Int) (k:Nat):Bool:=match t.ops[k]? with|some o=>holdsB o.pre s|none=>false
def appN (t:Tsk) (s:List Int) (m:Nat):List Nat:=(List.range m).filter (appB t s)
def sucN (t:Tsk) (s:List Int) (k:Nat):List Int:=match t.ops[k]? with|some o=>succ o s|none=>s
theorem Rc (t:Tsk) (s:List Int):appl t s=(appN t s t.ops.length).map fun k:Nat=>(k:Int):=rfl
theorem Qc (t:Tsk) (s:List Int) (k:Nat):sucOf t s (k:Int)=⟨(k:Int),sucN t s k⟩:=rfl
theorem MN {t:Tsk} {s:List Int} {k:Nat} {o:Opr} (ho:t.ops[k]?=some o):appB t s k=holdsB o.pre s∧sucN t s k=succ o s:=by unfold appB sucN;rw [ho];exact ⟨rfl,rfl⟩
end
section
set_option linter.unusedVariables false
set_option linter.unusedSimpArgs false
open Go Go.RowKit
def UpN {α:Type} (i:Nat) (x:α) (l l':List α):Prop:=l'[i]?=some x∧∀ j,j≠i→l'[j]?=l[j]?
theorem Qd {α:Type} {i:Nat} {x:α} {l:List α} (h:i < l.length):UpN i x l (l.set i x):=⟨List.getElem?_set_self h,fun j hj=>List.getElem?_set_ne (by omega)⟩
theorem Qe {α:Type} {x:α} {l:List α}:UpN l.length x l (l ++ [x]):=⟨by simp,fun j hj=>by
  rcases Nat.lt_or_ge j l.length with h|h
  · exact List.getElem?_append_left h
  · rw [List.getElem?_append_right h,List.getElem?_eq_none (l:=l) h,List.getElem?_eq_none (by simp;omega)]⟩
theorem LN {t:Tsk} {s:List Int} {k:Nat} {o:Opr} (ho:t.ops[k]?=some o) (hp:holdsB o.pre s=true):(k:Int)∈appl t s:=by
  rw [Rc,List.mem_map]
  exact ⟨k,List.mem_filter.2 ⟨List.mem_range.2 (AE ho),by rw [(MN ho).1];exact hp⟩,rfl⟩
def cntN (N:List ONd):Nat:=(N.filter fun n=>n.fin).length
theorem OZ (N:List ONd) {n:ONd} (h:n.fin=false):cntN (N ++ [n])=cntN N:=by simp [cntN,h]
theorem LO:∀ {N:List ONd} {i:Nat} {a b:ONd},N[i]?=some a→a.fin=false→b.fin=false→cntN (N.set i b)=cntN N
  | [],i,_,_,h,_,_=>by simp at h
  | n :: N,0,a,b,h,ha,hb=>by simp at h;subst h;simp [cntN,ha,hb]
  | n :: N,i + 1,a,b,h,ha,hb=>by
    have:=LO (N:=N) (i:=i) (by simpa using h) ha hb
    simp only [cntN,List.set_cons_succ,List.filter_cons] at this ⊢
    split<;>simp [this]
theorem KE:∀ {N:List ONd} {i:Nat} {a b:ONd},N[i]?=some a→a.fin=false→b.fin=true→cntN (N.set i b)=cntN N + 1
  | [],i,_,_,h,_,_=>by simp at h
  | n :: N,0,a,b,h,ha,hb=>by simp at h;subst h;simp [cntN,ha,hb]
  | n :: N,i + 1,a,b,h,ha,hb=>by
    have:=KE (N:=N) (i:=i) (by simpa using h) ha hb
    simp only [cntN,List.set_cons_succ,List.filter_cons] at this ⊢
    split<;>simp [this]
theorem Qf (N:List ONd):cntN N≤N.length:=List.length_filter_le _ _
inductive OR (t:Tsk) (cn:List Int→List Int):List Int→Prop
  | init:OR t cn (cn t.init)
  | step {s:List Int} {k:Nat} {o:Opr}:OR t cn s→holdsB t.goal s=false→t.ops[k]?=some o→holdsB o.pre s=true→OR t cn (cn (succ o s))
inductive WalkC (t:Tsk) (cn:List Int→List Int):List Int→Int→Prop
  | goal {s:List Int}:holdsB t.goal s=true→WalkC t cn s 0
  | step {s:List Int} {k:Nat} {o:Opr} {C:Int}:t.ops[k]?=some o→holdsB o.pre s=true→WalkC t cn (cn (succ o s)) C→WalkC t cn s (C + o.cost)
theorem Oc {t:Tsk} (h:TaskOk t) {cn:List Int→List Int} {s:List Int} {C:Int} (hw:WalkC t cn s C):0≤C:=by
  induction hw with
  | goal _=>omega
  | @step s k o C ho _ _ ih=>have:=(h.2.2.2.2.2 k o ho).1;omega
structure OrI (t:Tsk) (cn wd:List Int→List Int) (D:Nat→Int→Prop) (N:List ONd) (hp:List QEn) (ord:Nat→Nat) (E:Nat):Prop where
  root:∃ n,N[0]?=some n∧n.state=cn t.init∧n.used=wd t.init∧n.cost=0∧n.parent=-1∧n.op=-1
  link:∀ (i:Nat) n,N[i]?=some n→i=0∨∃ (p q:Nat) (o:Opr) (m:ONd),n.parent=(p:Int)∧n.op=(q:Int)∧t.ops[q]?=some o∧N[p]?=some m∧m.fin=true∧holdsB o.pre m.state=true∧n.state=cn (succ o m.state)∧n.used=wd (succ o m.state)∧n.cost=m.cost + o.cost∧(n.fin=true→ord p < ord i)
  ordl:∀ (i:Nat) n,N[i]?=some n→n.fin=true→ord i < E
  lower:∀ (j:Nat) n,N[j]?=some n→n.fin=true→∀ e∈hp,n.cost≤e.key
  ent:∀ e∈hp,∃ (i:Nat) (n:ONd),e.item=(i:Int)∧N[i]?=some n∧n.cost≤e.key
  opn:∀ (i:Nat) n,N[i]?=some n→n.fin=false→∃ e∈hp,e.key=n.cost∧e.item=(i:Int)
  bound:∀ (i:Nat) n,N[i]?=some n→0≤n.cost∧n.cost≤(E:Int) * 1048576
  nogoal:∀ (j:Nat) n,N[j]?=some n→n.fin=true→holdsB t.goal n.state=false
  rel:∀ (j:Nat) n q,N[j]?=some n→n.fin=true→q∈appl t n.state→D j q→∃ (k:Nat) (o:Opr) (i:Nat) (m:ONd),q=(k:Int)∧t.ops[k]?=some o∧N[i]?=some m∧m.state=cn (succ o n.state)∧m.cost≤n.cost + o.cost
  num:cntN N=E
  rch:∀ (i:Nat) n,N[i]?=some n→OR t cn n.state
  first:0 < E→∃ n,N[0]?=some n∧n.fin=true
  uniq:∀ (i j:Nat) n m,N[i]?=some n→N[j]?=some m→n.state=m.state→i=j
section
variable {t : Tsk} {cn wd : List Int → List Int} {D : Nat → Int → Prop} {N N' : List ONd} {hp hp' : List QEn} {ord : Nat → Nat} {E : Nat}
theorem OrI.upd (h:OrI t cn wd D N hp ord E) (hok:TaskOk t) {i p q:Nat} {o:Opr} {n m:ONd} {e:QEn} (hN:UpN i n N N') (hh:hp'.Perm (e :: hp)) (ek:e.key=n.cost) (ei:e.item=(i:Int)) (hle:N.length≤N'.length) (hc:cntN N'=cntN N)
    (hi:(N[i]?=none∧∀ (j:Nat) a,N[j]?=some a→a.state≠n.state)∨∃ a,N[i]?=some a∧a.state=n.state∧a.fin=false∧n.cost < a.cost)
    (hd:n.fin=false) (hpa:n.parent=(p:Int)) (hop:n.op=(q:Int)) (ho:t.ops[q]?=some o) (hm:N[p]?=some m) (hmd:m.fin=true) (hpre:holdsB o.pre m.state=true) (hst:n.state=cn (succ o m.state)) (hus:n.used=wd (succ o m.state)) (hx:n.cost=m.cost + o.cost) (hmax:∀ (j:Nat) a,N[j]?=some a→a.fin=true→a.cost≤m.cost) (hxE:n.cost≤(E:Int) * 1048576) :
    OrI t cn wd D N' hp' ord E:=by
  have hoc:=(hok.2.2.2.2.2 q o ho).1
  have hcp:=(h.bound p m hm).1
  have hfin:∀ (j:Nat) a,N[j]?=some a→a.fin=true→j≠i:=fun j a hj hja e1=>by
    subst e1
    rcases hi with ⟨hn,_⟩|⟨b,hb,_,hbd,_⟩
    · rw [hj] at hn;cases hn
    · rw [hj] at hb;obtain rfl:=Option.some.inj hb;rw [hja] at hbd;cases hbd
  have hfin':∀ (j:Nat) a,N'[j]?=some a→a.fin=true→j≠i∧N[j]?=some a:=fun j a hj hja=>by
    have hne:j≠i:=fun e1=>by subst e1;rw [hN.1] at hj;obtain rfl:=Option.some.inj hj;rw [hd] at hja;cases hja
    exact ⟨hne,by rw [← hN.2 j hne];exact hj⟩
  obtain ⟨n0,r1,r2,r3,r4,r5,r6⟩:=h.root
  have h0:(0:Nat)≠i:=fun e1=>by
    subst e1
    rcases hi with ⟨hn,_⟩|⟨b,hb,_,_,hlt⟩
    · rw [r1] at hn;cases hn
    · rw [r1] at hb;obtain rfl:=Option.some.inj hb;omega
  have hpi:=hfin p m hm hmd
  refine ⟨⟨n0,by rw [hN.2 0 h0];exact r1,r2,r3,r4,r5,r6⟩,?_,?_,?_,?_,?_,?_,?_,?_,by rw [hc];exact h.num,?_,?_,?_⟩
  · intro j a hj
    by_cases e1:j=i
    · subst e1
      rw [hN.1] at hj
      obtain rfl:=Option.some.inj hj
      exact .inr ⟨p,q,o,m,hpa,hop,ho,by rw [hN.2 p hpi];exact hm,hmd,hpre,hst,hus,hx,fun hh=>by rw [hd] at hh;cases hh⟩
    · rw [hN.2 j e1] at hj
      rcases h.link j a hj with hh|⟨p',q',o',m',a1,a2,a3,a4,a5,a6⟩
      · exact .inl hh
      · exact .inr ⟨p',q',o',m',a1,a2,a3,by rw [hN.2 p' (hfin p' m' a4 a5)];exact a4,a5,a6⟩
  · intro j a hj hja
    exact h.ordl j a (hfin' j a hj hja).2 hja
  · intro j a hj hja e' he'
    obtain ⟨_,hj⟩:=hfin' j a hj hja
    rcases List.mem_cons.1 (hh.mem_iff.1 he') with rfl|hm'
    · have:=hmax j a hj hja;omega
    · exact h.lower j a hj hja e' hm'
  · intro e' he'
    rcases List.mem_cons.1 (hh.mem_iff.1 he') with rfl|hm'
    · exact ⟨i,n,ei,hN.1,by omega⟩
    · obtain ⟨j,a,j1,j2,j3⟩:=h.ent e' hm'
      by_cases e1:j=i
      · subst e1
        rcases hi with ⟨hn,_⟩|⟨b,hb,_,_,hlt⟩
        · rw [j2] at hn;cases hn
        · rw [j2] at hb
          obtain rfl:=Option.some.inj hb
          exact ⟨j,n,j1,hN.1,by omega⟩
      · exact ⟨j,a,j1,by rw [hN.2 j e1];exact j2,j3⟩
  · intro j a hj hja
    by_cases e1:j=i
    · subst e1
      rw [hN.1] at hj
      obtain rfl:=Option.some.inj hj
      exact ⟨e,hh.mem_iff.2 List.mem_cons_self,ek,ei⟩
    · rw [hN.2 j e1] at hj
      obtain ⟨e',m',r⟩:=h.opn j a hj hja
      exact ⟨e',hh.mem_iff.2 (List.mem_cons_of_mem _ m'),r⟩
  · intro j a hj
    by_cases e1:j=i
    · subst e1
      rw [hN.1] at hj
      obtain rfl:=Option.some.inj hj
      omega
    · rw [hN.2 j e1] at hj;exact h.bound j a hj
  · intro j a hj hja
    exact h.nogoal j a (hfin' j a hj hja).2 hja
  · intro j a q' hj hja hq hD
    obtain ⟨hne,hj⟩:=hfin' j a hj hja
    obtain ⟨k,o',i',b,a1,a2,a3,a4,a5⟩:=h.rel j a q' hj hja hq hD
    by_cases e1:i'=i
    · subst e1
      rcases hi with ⟨hn,_⟩|⟨b',hb,hbs,_,hlt⟩
      · rw [a3] at hn;cases hn
      · rw [a3] at hb
        obtain rfl:=Option.some.inj hb
        exact ⟨k,o',i',n,a1,a2,hN.1,by rw [← hbs];exact a4,by omega⟩
    · exact ⟨k,o',i',b,a1,a2,by rw [hN.2 i' e1];exact a3,a4,a5⟩
  · intro j a hj
    by_cases e1:j=i
    · subst e1
      rw [hN.1] at hj
      obtain rfl:=Option.some.inj hj
      rw [hst]
      exact (h.rch p m hm).step (h.nogoal p m hm hmd) ho hpre
    · rw [hN.2 j e1] at hj;exact h.rch j a hj
  · intro hE
    obtain ⟨b,b1,b2⟩:=h.first hE
    exact ⟨b,by rw [hN.2 0 h0];exact b1,b2⟩
  · intro a b x y hx' hy' hs
    have key:∀ (j:Nat) z,j≠i→N'[j]?=some z→z.state≠n.state:=fun j z hne hz hzs=>by
      rw [hN.2 j hne] at hz
      rcases hi with ⟨_,hn⟩|⟨b',hb,hbs,_⟩
      · exact hn j z hz hzs
      · exact hne (h.uniq j i z b' hz hb (by rw [hzs,hbs]))
    by_cases ea:a=i
    · subst ea
      rw [hN.1] at hx'
      obtain rfl:=Option.some.inj hx'
      by_cases eb:b=a
      · exact eb.symm
      · exact (key b y eb hy' hs.symm).elim
    · by_cases eb:b=i
      · subst eb
        rw [hN.1] at hy'
        obtain rfl:=Option.some.inj hy'
        exact (key a x ea hx' hs).elim
      · rw [hN.2 a ea] at hx'
        rw [hN.2 b eb] at hy'
        exact h.uniq a b x y hx' hy' hs
theorem OrI.drop (h:OrI t cn wd D N hp ord E) {e:QEn} (hh:hp.Perm (e :: hp')) {i:Nat} {n:ONd} (hi:e.item=(i:Int)) (hn:N[i]?=some n) (hd:n.fin=true∨n.cost≠e.key):OrI t cn wd D N hp' ord E :=
  { h with
    lower:=fun j a hj hja e' he'=>h.lower j a hj hja e' (hh.mem_iff.2 (List.mem_cons_of_mem _ he'))
    ent:=fun e' he'=>h.ent e' (hh.mem_iff.2 (List.mem_cons_of_mem _ he'))
    opn := fun j a hj hja=>by
      obtain ⟨e',m,k1,k2⟩:=h.opn j a hj hja
      rcases List.mem_cons.1 (hh.mem_iff.1 m) with rfl|hm
      · exfalso
        have e1:i=j:=by omega
        subst e1
        rw [hn] at hj
        obtain rfl:=Option.some.inj hj
        rcases hd with hd|hd
        · rw [hja] at hd;cases hd
        · exact hd k1.symm
      · exact ⟨e',hm,k1,k2⟩ }
theorem OrI.mark (h:OrI t cn wd (fun _ _=>True) N hp ord E) {e:QEn} (hh:hp.Perm (e :: hp')) (hmin:∀ x∈hp,nb x e) {i:Nat} {n n':ONd} (hi:e.item=(i:Int)) (hn:N[i]?=some n) (hf:n.fin=false) (hc:n.cost=e.key) (hg:holdsB t.goal n.state=false) (hn':n'={ n with fin:=true }) :
    OrI t cn wd (fun j _=>j≠i) (N.set i n') hp' (fun j=>if j=i then E else ord j) (E + 1):=by
  subst hn'
  have hil:=AE hn
  have hset:∀ (j:Nat) a,(N.set i { n with fin:=true })[j]?=some a→(j=i∧a={ n with fin:=true })∨(j≠i∧N[j]?=some a):=fun j a hj=>by
    by_cases e1:j=i
    · subst e1;rw [List.getElem?_set_self hil] at hj;exact .inl ⟨rfl,(Option.some.inj hj).symm⟩
    · rw [List.getElem?_set_ne (by omega)] at hj;exact .inr ⟨e1,hj⟩
  have hkeep:∀ (j:Nat) a,N[j]?=some a→a.fin=true→j≠i∧(N.set i { n with fin:=true })[j]?=some a:=fun j a hj hja=>by
    have hne:j≠i:=fun e1=>by subst e1;rw [hn] at hj;obtain rfl:=Option.some.inj hj;rw [hja] at hf;cases hf
    exact ⟨hne,by rw [List.getElem?_set_ne (by omega)];exact hj⟩
  have hst:∀ (j:Nat) a,(N.set i { n with fin:=true })[j]?=some a→∃ b,N[j]?=some b∧b.state=a.state∧b.cost=a.cost:=fun j a hj=>by
    rcases hset j a hj with ⟨rfl,rfl⟩|⟨_,h2⟩
    · exact ⟨n,hn,rfl,rfl⟩
    · exact ⟨a,h2,rfl,rfl⟩
  have hto:∀ (j:Nat) b,N[j]?=some b→∃ a,(N.set i { n with fin:=true })[j]?=some a∧a.state=b.state∧a.cost=b.cost∧a.used=b.used∧a.parent=b.parent∧a.op=b.op:=fun j b hj=>by
    by_cases e1:j=i
    · subst e1
      rw [hn] at hj
      obtain rfl:=Option.some.inj hj
      exact ⟨_,List.getElem?_set_self hil,rfl,rfl,rfl,rfl,rfl⟩
    · exact ⟨b,by rw [List.getElem?_set_ne (by omega)];exact hj,rfl,rfl,rfl,rfl,rfl⟩
  have hord:∀ (p:Nat) (m:ONd),N[p]?=some m→m.fin=true→ord p < E:=fun p m h1 h2=>h.ordl p m h1 h2
  refine ⟨?_,?_,?_,?_,?_,?_,?_,?_,?_,by rw [KE hn hf rfl,h.num],?_,?_,?_⟩
  · obtain ⟨n0,r1,r2,r3,r4,r5,r6⟩:=h.root
    obtain ⟨a,a1,a2,a3,a4,a5,a6⟩:=hto 0 n0 r1
    exact ⟨a,a1,a2.trans r2,a4.trans r3,a3.trans r4,a5.trans r5,a6.trans r6⟩
  · intro j a hj
    rcases hset j a hj with ⟨rfl,rfl⟩|⟨hne,hj2⟩
    · rcases h.link j n hn with hh|⟨p',q',o',m',a1,a2,a3,a4,a5,a6,a7,a8,a9,a10⟩
      · exact .inl hh
      · obtain ⟨hne,hp2⟩:=hkeep p' m' a4 a5
        exact .inr ⟨p',q',o',m',a1,a2,a3,hp2,a5,a6,a7,a8,a9,fun _=>by rw [if_neg hne,if_pos rfl];exact hord p' m' a4 a5⟩
    · rcases h.link j a hj2 with hh|⟨p',q',o',m',a1,a2,a3,a4,a5,a6,a7,a8,a9,a10⟩
      · exact .inl hh
      · obtain ⟨hne',hp2⟩:=hkeep p' m' a4 a5
        exact .inr ⟨p',q',o',m',a1,a2,a3,hp2,a5,a6,a7,a8,a9,fun hd=>by rw [if_neg hne',if_neg hne];exact a10 hd⟩
  · intro j a hj hja
    rcases hset j a hj with ⟨rfl,rfl⟩|⟨hne,hj2⟩
    · rw [if_pos rfl];omega
    · rw [if_neg hne];have:=h.ordl j a hj2 hja;omega
  · intro j a hj hja e' he'
    have hm:e'∈hp:=hh.mem_iff.2 (List.mem_cons_of_mem _ he')
    rcases hset j a hj with ⟨rfl,rfl⟩|⟨_,hj2⟩
    · have:=NZ (hmin e' hm);dsimp only;omega
    · exact h.lower j a hj2 hja e' hm
  · intro e' he'
    obtain ⟨j,b,j1,j2,j3⟩:=h.ent e' (hh.mem_iff.2 (List.mem_cons_of_mem _ he'))
    obtain ⟨a,a1,a2,a3,_⟩:=hto j b j2
    exact ⟨j,a,j1,a1,by omega⟩
  · intro j a hj hja
    rcases hset j a hj with ⟨rfl,rfl⟩|⟨hne,hj2⟩
    · cases hja
    · obtain ⟨e',m,k1,k2⟩:=h.opn j a hj2 hja
      rcases List.mem_cons.1 (hh.mem_iff.1 m) with rfl|hm
      · omega
      · exact ⟨e',hm,k1,k2⟩
  · intro j a hj
    obtain ⟨b,b1,_,b3⟩:=hst j a hj
    have:=h.bound j b b1
    omega
  · intro j a hj hja
    rcases hset j a hj with ⟨rfl,rfl⟩|⟨_,hj2⟩
    · exact hg
    · exact h.nogoal j a hj2 hja
  · intro j a q hj hja hq hD
    rcases hset j a hj with ⟨rfl,rfl⟩|⟨_,hj2⟩
    · exact absurd rfl hD
    · obtain ⟨k,o,i',m,a1,a2,a3,a4,a5⟩:=h.rel j a q hj2 hja hq trivial
      obtain ⟨b,b1,b2,b3,_⟩:=hto i' m a3
      exact ⟨k,o,i',b,a1,a2,b1,by rw [b2];exact a4,by omega⟩
  · intro j a hj
    obtain ⟨b,b1,b2,_⟩:=hst j a hj
    rw [← b2];exact h.rch j b b1
  · intro _
    by_cases h0:i=0
    · subst h0;exact ⟨_,List.getElem?_set_self hil,rfl⟩
    · rcases h.link i n hn with hh|⟨p',_,_,m',_,_,_,a4,a5,_⟩
      · exact absurd hh h0
      · have hE:0 < E:=by have:=h.ordl p' m' a4 a5;omega
        obtain ⟨b,b1,b2⟩:=h.first hE
        exact ⟨b,(hkeep 0 b b1 b2).2,b2⟩
  · intro a b x y hx hy hs
    obtain ⟨x',x1,x2,_⟩:=hst a x hx
    obtain ⟨y',y1,y2,_⟩:=hst b y hy
    exact h.uniq a b x' y' x1 y1 (by rw [x2,y2,hs])
theorem OrI.front (h:OrI t cn wd (fun _ _=>True) N hp ord E) (hok:TaskOk t) {s:List Int} {C:Int} (hw:WalkC t cn s C):∀ (i:Nat) n,N[i]?=some n→n.state=s→∃ e∈hp,e.key≤n.cost + C:=by
  induction hw with
  | @goal s hg =>
    intro i n hi hs
    cases hb:n.fin with
    | false=>obtain ⟨e,m,k1,_⟩:=h.opn i n hi hb;exact ⟨e,m,by omega⟩
    | true=>have:=h.nogoal i n hi hb;rw [hs,hg] at this;cases this
  | @step s k o C ho hk hw ih =>
    intro i n hi hs
    have h1:=Oc hok hw
    have h2:=(hok.2.2.2.2.2 k o ho).1
    cases hb:n.fin with
    | false=>obtain ⟨e,m,k1,_⟩:=h.opn i n hi hb;exact ⟨e,m,by omega⟩
    | true =>
      obtain ⟨k',o',i',m,a1,a2,a3,a4,a5⟩:=h.rel i n (k:Int) hi hb (by rw [hs];exact LN ho hk) trivial
      have e1:k=k':=by omega
      subst e1
      rw [ho] at a2
      obtain rfl:=Option.some.inj a2
      rw [hs] at a4
      obtain ⟨e,m',k1⟩:=ih i' m a3 a4
      exact ⟨e,m',by omega⟩
theorem OrI.all (h:OrI t cn wd (fun _ _=>True) N [] ord E) {s:List Int} (hs:OR t cn s):∃ (i:Nat) (n:ONd),N[i]?=some n∧n.state=s∧n.fin=true:=by
  have hdone:∀ (i:Nat) n,N[i]?=some n→n.fin=true:=fun i n hi=>by
    cases hb:n.fin with
    | true=>rfl
    | false=>obtain ⟨e,m,_⟩:=h.opn i n hi hb;simp at m
  induction hs with
  | init=>obtain ⟨n,r1,r2,_⟩:=h.root;exact ⟨0,n,r1,r2,hdone 0 n r1⟩
  | @step s k o _ _ ho hp ih =>
    obtain ⟨i,n,i1,i2,i3⟩:=ih
    obtain ⟨k',o',i',m,a1,a2,a3,a4,_⟩:=h.rel i n (k:Int) i1 i3 (by rw [i2];exact LN ho hp) trivial
    have e1:k=k':=by omega
    subst e1
    rw [ho] at a2
    obtain rfl:=Option.some.inj a2
    exact ⟨i',m,a3,by rw [a4,i2],hdone i' m a3⟩
theorem OrI.more (h:OrI t cn wd D N hp ord E) {D':Nat→Int→Prop} {j₀:Nat} {q₀:Int} (hD:∀ j q,D' j q→D j q∨(j=j₀∧q=q₀)) {n m:ONd} (hn:N[j₀]?=some n) {k:Nat} {o:Opr} {i:Nat} (h1:q₀=(k:Int)) (h2:t.ops[k]?=some o) (h3:N[i]?=some m) (h4:m.state=cn (succ o n.state)) (h6:m.cost≤n.cost + o.cost):OrI t cn wd D' N hp ord E :=
  { h with
    rel := fun j a q hj hja hq hd=>by
      rcases hD j q hd with hd|⟨rfl,rfl⟩
      · exact h.rel j a q hj hja hq hd
      · rw [hn] at hj
        obtain rfl:=Option.some.inj hj
        exact ⟨k,o,i,m,h1,h2,h3,h4,h6⟩ }
inductive TrN (N:List ONd):Nat→List Nat→Prop
  | root {n:ONd}:N[0]?=some n→n.parent=-1→TrN N 0 [0]
  | step {i p:Nat} {n:ONd} {l:List Nat}:N[i]?=some n→n.parent=(p:Int)→TrN N p l→TrN N i (l ++ [i])
theorem OrI.trace (h:OrI t cn wd D N hp ord E):∀ (b i:Nat) n,ord i < b→N[i]?=some n→n.fin=true→∃ l,TrN N i l∧l.length≤ord i + 1:=by
  intro b
  induction b with
  | zero=>intro i n hb;omega
  | succ b ih =>
    intro i n hb hi hd
    rcases h.link i n hi with rfl|⟨p,q,o,m,a1,a2,a3,a4,a5,a6,a7,a8,a9,a10⟩
    · obtain ⟨n0,r1,_,_,_,r5,_⟩:=h.root
      exact ⟨[0],.root r1 r5,by simp⟩
    · have ho:=a10 hd
      obtain ⟨l,l1,l2⟩:=ih p m (by omega) a4 a5
      exact ⟨l ++ [i],.step hi a1 l1,by simp;omega⟩
theorem OrI.path (h:OrI t cn wd D N hp ord E) {i:Nat} {n:ONd} (hi:N[i]?=some n):∃ l,TrN N i l∧l.length≤E + 1:=by
  rcases h.link i n hi with rfl|⟨p,q,o,m,a1,a2,a3,a4,a5,_⟩
  · obtain ⟨n0,r1,_,_,_,r5,_⟩:=h.root
    exact ⟨[0],.root r1 r5,by simp⟩
  · have ho:=h.ordl p m a4 a5
    obtain ⟨l,l1,l2⟩:=h.trace (ord p + 1) p m (by omega) a4 a5
    exact ⟨l ++ [i],.step hi a1 l1,by simp;omega⟩
end
end
section
open Go Go.RowKit
abbrev BQ:=BxR 67 73 OEn
abbrev AI:=An 73 OEn
def toQ (x:OEn):QEn:=⟨x.cost,0,x.node,x.number⟩
def qs (l:List OEn):List QEn:=l.map toQ
theorem Gc (l:List OEn):(qs l).length=l.length:=by simp [qs]
theorem Gd {l:List OEn} {i:Nat} {x:OEn} (h:l[i]?=some x):(qs l)[i]?=some (toQ x):=by unfold qs;rw [List.getElem?_map,h];rfl
theorem Ir (l:List OEn) (i:Nat) (x:OEn):qs (l.set i x)=(qs l).set i (toQ x):=by unfold qs;rw [List.map_set]
theorem Qg (l:List OEn) (n:Nat):qs (l.take n)=(qs l).take n:=by unfold qs;rw [List.map_take]
theorem Jr {l:List OEn} {i j:Nat} {a b:OEn} (ha:l[i]?=some a) (hb:l[j]?=some b):Ce l (i:Int) (j:Int)=some (decide (bfr (toQ a) (toQ b))):=by
  unfold Ce
  rw [Bh,ha,Am,Bh,hb,Am,Am,Am,Am,Am]
  unfold bfr toQ
  by_cases h2:a.cost=b.cost
  · rw [if_neg (by simp [h2])]
    by_cases h3:a.number < b.number
    · rw [if_pos h3,Am];simp [h2,h3]
    · rw [if_neg h3,Am];simp [h2,h3]
  · rw [if_pos h2]
    by_cases h1:a.cost < b.cost
    · rw [if_pos h1,Am];simp [h1]
    · rw [if_neg h1,Am];simp [h1,h2]
theorem Js {l:List OEn} {i j:Nat} {a b:OEn} (ha:l[i]?=some a) (hb:l[j]?=some b):BV l (i:Int) (j:Int)=some ((l.set i b).set j a):=by
  have hil:=AE ha
  have hjl:=AE hb
  obtain ⟨c,hc⟩:=AF (l:=l.set i b) (k:=j) (by simp;exact hjl)
  unfold BV
  rw [Bh,hb,Am,Bh,ha,Am,Am,Int.toNat_natCast,Bh,hc,Am,Int.toNat_natCast]
theorem Re {q:BQ} {i:Nat} (hi:i < q.l.length) (hl:q.l.length≤1000000) (h:UpI (qs q.l) i):∃ r,De q (i:Int)=some r∧HeapOk (qs r.l)∧(qs r.l).Perm (qs q.l):=by
  unfold De
  refine NY (fun s=>∃ i:Nat,s.1=(i:Int)∧i < s.2.l.length∧UpI (qs s.2.l) i∧(qs s.2.l).Perm (qs q.l)) (fun s=>HeapOk (qs s.2.l)∧(qs s.2.l).Perm (qs q.l)) (fun _=>False) (fun s=>s.1.toNat) ⟨i,rfl,hi,h,List.Perm.refl _⟩ ?_ (fun s hs=>⟨_,rfl,hs⟩) (fun s hs=>hs.elim)
  rintro ⟨c,s⟩ ⟨i,hc,hi,hu,hp⟩
  dsimp only at hc hi hu hp ⊢
  subst hc
  have hlen:=hp.length_eq
  rw [Gc,Gc] at hlen
  rw [Cp (by unfold inI64;omega),Am]
  by_cases h0:0 < (i:Int)
  · have hq:quoT ((i:Int) - 1) 2=some (((i - 1) / 2:Nat):Int):=by
      unfold quoT;rw [if_pos (by omega),if_pos (by omega)];congr 1;omega
    obtain ⟨a,ha⟩:=AF (l:=s.l) (k:=i) hi
    obtain ⟨b,hb⟩:=AF (l:=s.l) (k:=(i - 1) / 2) (by omega)
    rw [hq,Am,if_neg (by omega),Jr ha hb,Am]
    by_cases hab:bfr (toQ a) (toQ b)
    · rw [decide_eq_true hab,Bo,Am,BD,Js hb ha,Am]
      have e1:qs ((s.l.set ((i - 1) / 2) a).set i b)=((qs s.l).set i (toQ b)).set ((i - 1) / 2) (toQ a):=by
        rw [Ir,Ir,List.set_comm _ _ (by omega)]
      refine .inl ⟨_,rfl,⟨(i - 1) / 2,rfl,by simp;omega,?_,?_⟩,?_⟩
      · dsimp only;rw [e1];exact hu.step (by omega) (Gd ha) (Gd hb) hab
      · dsimp only;rw [e1];exact (LL (Gd ha) (Gd hb)).trans hp
      · dsimp only;omega
    · rw [decide_eq_false hab,BD,Am,Bo]
      refine .inr (.inl ⟨_,rfl,hu.heap (.inr fun x y hx hy=>?_),hp⟩)
      rw [Gd ha] at hx
      rw [Gd hb] at hy
      obtain rfl:=Option.some.inj hx
      obtain rfl:=Option.some.inj hy
      exact hab
  · have h00:i=0:=by omega
    subst h00
    have hq:quoT (((0:Nat):Int) - 1) 2=some 0:=rfl
    rw [hq,Am,if_pos (show (0:Int)=((0:Nat):Int) from rfl),Am,Bo]
    exact .inr (.inl ⟨_,rfl,hu.heap (.inl rfl),hp⟩)
theorem Pa {q:BQ} (h:HeapOk (qs q.l)) (hl:q.l.length≤900000) (x:OEn):∃ r,CD q ⟨x⟩=some r∧HeapOk (qs r.l)∧(qs r.l).Perm (toQ x :: qs q.l):=by
  unfold CD Ec Cb
  rw [Cq (by simp;omega) (by simp;omega),Am,Am,Am,Cp (by unfold inI64;simp;omega),Am]
  have hlen:(((q.l ++ [x]).length:Int) - 1)=((q.l.length:Nat):Int):=by simp
  rw [hlen]
  have eq1:qs (q.l ++ [x])=qs q.l ++ [toQ x]:=by simp [qs]
  obtain ⟨r,r1,r2,r3⟩:=Re (q:=⟨q.l ++ [x]⟩) (i:=q.l.length) (by simp) (by simp;omega) ⟨fun j y z hj hji hx hy=>by
    dsimp only at hx hy
    rw [eq1] at hx hy
    have hjl:j < (qs q.l).length:=by have:=AE hx;simp at this;rw [Gc] at this ⊢;omega
    rw [List.getElem?_append_left hjl] at hx
    rw [List.getElem?_append_left (by omega)] at hy
    exact h j y z hj hx hy,fun j y z h1 h2 h3 hx hy=>by
    dsimp only at hx
    have:=AE hx
    rw [Gc] at this
    simp at this
    omega⟩
  rw [r1,Am]
  refine ⟨_,rfl,r2,r3.trans ?_⟩
  dsimp only
  rw [eq1]
  exact List.perm_append_comm (l₁:=qs q.l) (l₂:=[_])
theorem Pb {q:BQ} {n:Nat} (hn:n≤q.l.length) (hl:q.l.length≤1000000) (h:DownI (qs (q.l.take n)) 0):∃ r,CR q 0 (n:Int)=some r∧HeapOk (qs (r.2.l.take n))∧(qs (r.2.l.take n)).Perm (qs (q.l.take n))∧r.2.l.drop n=q.l.drop n∧r.2.l.length=q.l.length:=by
  unfold CR
  refine NY (fun s=>∃ i:Nat,s.1=(i:Int)∧DownI (qs (s.2.l.take n)) i∧i≤n∧(qs (s.2.l.take n)).Perm (qs (q.l.take n))∧s.2.l.drop n=q.l.drop n∧s.2.l.length=q.l.length) (fun s=>HeapOk (qs (s.2.l.take n))∧(qs (s.2.l.take n)).Perm (qs (q.l.take n))∧s.2.l.drop n=q.l.drop n∧s.2.l.length=q.l.length) (fun _=>False) (fun s=>n - s.1.toNat) ⟨0,rfl,h,by omega,List.Perm.refl _,rfl,rfl⟩ ?_ ?_ (fun s hs=>hs.elim)
  · rintro ⟨c,s⟩ ⟨i,hc,hd,hi,hp,hdr,hsl⟩
    dsimp only at hc hd hi hp hdr hsl ⊢
    subst hc
    rw [Cp (by unfold inI64;omega),Am,Cp (by unfold inI64;omega),Am]
    by_cases h1:(n:Int)≤2 * (i:Int) + 1
    · rw [if_pos h1,Am,Bo]
      refine .inr (.inl ⟨_,rfl,hd.heap fun j x y hj hji hx _=>?_,hp,hdr,hsl⟩)
      have:=AE hx
      rw [Gc,List.length_take] at this
      omega
    rw [if_neg h1,if_neg (by omega),Am,BD]
    obtain ⟨a,ha⟩:=AF (l:=s.l) (k:=i) (by omega)
    obtain ⟨b,hb⟩:=AF (l:=s.l) (k:=2 * i + 1) (by omega)
    have tk:∀ {k:Nat} {x:OEn},k < n→s.l[k]?=some x→(qs (s.l.take n))[k]?=some (toQ x):=fun {k x} hk hx=>Gd (by rw [List.getElem?_take_of_lt hk];exact hx)
    have cast1:2 * (i:Int) + 1=((2 * i + 1:Nat):Int):=by omega
    have cast2:2 * (i:Int) + 1 + 1=((2 * i + 2:Nat):Int):=by omega
    have rest:∀ (c:Nat) (d:OEn),(c=2 * i + 1∨c=2 * i + 2)→c < n→s.l[c]?=some d→(∀ (j:Nat) x,0 < j→(j - 1) / 2=i→(qs (s.l.take n))[j]?=some x→nb x (toQ d))→(∃ s',(bnd (Ce s.l (c:Int) (i:Int)) fun q97=>if q97=true then bnd (BV s.l (i:Int) (c:Int)) fun q109=>some (Ctl.next (ρ:=Bool×BQ) ((c:Int),(⟨q109⟩:BQ))) else some (.brk ((i:Int),s)))=some (.next s')∧(∃ i:Nat,s'.1=(i:Int)∧DownI (qs (s'.2.l.take n)) i∧i≤n∧(qs (s'.2.l.take n)).Perm (qs (q.l.take n))∧s'.2.l.drop n=q.l.drop n∧s'.2.l.length=q.l.length)∧n - s'.1.toNat < n - ((i:Int)).toNat)∨(∃ s',(bnd (Ce s.l (c:Int) (i:Int)) fun q97=>if q97=true then bnd (BV s.l (i:Int) (c:Int)) fun q109=>some (Ctl.next (ρ:=Bool×BQ) ((c:Int),(⟨q109⟩:BQ))) else some (.brk ((i:Int),s)))=some (.brk s')∧HeapOk (qs (s'.2.l.take n))∧(qs (s'.2.l.take n)).Perm (qs (q.l.take n))∧s'.2.l.drop n=q.l.drop n∧s'.2.l.length=q.l.length)∨∃ r,(bnd (Ce s.l (c:Int) (i:Int)) fun q97=>if q97=true then bnd (BV s.l (i:Int) (c:Int)) fun q109=>some (Ctl.next (ρ:=Bool×BQ) ((c:Int),(⟨q109⟩:BQ))) else some (.brk ((i:Int),s)))=some (.ret r)∧False:=by
      intro c d hc hcn hd' hs
      rw [Jr hd' ha,Am]
      have e1:qs (((s.l.set i d).set c a).take n)=((qs (s.l.take n)).set i (toQ d)).set c (toQ a):=by
        rw [List.take_set,List.take_set,Ir,Ir]
      by_cases hda:bfr (toQ d) (toQ a)
      · rw [decide_eq_true hda,Bo,Js ha hd',Am]
        refine .inl ⟨_,rfl,⟨c,rfl,?_,by omega,?_,?_,by simp;exact hsl⟩,?_⟩
        · dsimp only;rw [e1];exact hd.step hc (tk (by omega) ha) (tk hcn hd') hda hs
        · dsimp only;rw [e1];exact (LL (tk (by omega) ha) (tk hcn hd')).trans hp
        · dsimp only
          rw [← hdr]
          apply List.ext_getElem?
          intro k
          rw [List.getElem?_drop,List.getElem?_drop,List.getElem?_set_ne (by omega),List.getElem?_set_ne (by omega)]
        · dsimp only;omega
      · rw [decide_eq_false hda,BD]
        refine .inr (.inl ⟨_,rfl,hd.heap fun j x y hj hji hx hy=>?_,hp,hdr,hsl⟩)
        rw [tk (by omega) ha] at hy
        obtain rfl:=Option.some.inj hy
        exact HA (hs j x hj hji hx) hda
    rw [Cp (by unfold inI64;omega),Am]
    by_cases h2:2 * (i:Int) + 1 + 1 < (n:Int)
    · obtain ⟨d,hd'⟩:=AF (l:=s.l) (k:=2 * i + 2) (by omega)
      rw [if_pos h2,cast2,cast1,Jr hd' hb,Am]
      by_cases hdb:bfr (toQ d) (toQ b)
      · rw [decide_eq_true hdb,Bo,Am,Bo,Am]
        refine rest (2 * i + 2) d (.inr rfl) (by omega) hd' fun j x hj hji hx=>?_
        have:j=2 * i + 1∨j=2 * i + 2:=by omega
        rcases this with rfl|rfl
        · rw [tk (by omega) hb] at hx;obtain rfl:=Option.some.inj hx;exact KZ hdb
        · rw [tk (by omega) hd'] at hx;obtain rfl:=Option.some.inj hx;exact JV _
      · rw [decide_eq_false hdb,BD,Am,BD,Am]
        refine rest (2 * i + 1) b (.inl rfl) (by omega) hb fun j x hj hji hx=>?_
        have:j=2 * i + 1∨j=2 * i + 2:=by omega
        rcases this with rfl|rfl
        · rw [tk (by omega) hb] at hx;obtain rfl:=Option.some.inj hx;exact JV _
        · rw [tk (by omega) hd'] at hx;obtain rfl:=Option.some.inj hx;exact hdb
    · rw [if_neg h2,Am,BD,Am,cast1]
      refine rest (2 * i + 1) b (.inl rfl) (by omega) hb fun j x hj hji hx=>?_
      have:j=2 * i + 1:=by have:=AE hx;rw [Gc,List.length_take] at this;omega
      subst this
      rw [tk (by omega) hb] at hx;obtain rfl:=Option.some.inj hx;exact JV _
  · intro s hs
    by_cases hz:0 < s.1
    · rw [BI,if_pos hz,Am];exact ⟨_,rfl,hs⟩
    · rw [BI,if_neg hz,Am];exact ⟨_,rfl,hs⟩
theorem Qh {q:BQ} (h:HeapOk (qs q.l)) (h0:0 < q.l.length) (hl:q.l.length≤900000):∃ r,CI q=some r∧∃ (e:OEn) (q':BQ),r=((⟨e⟩:AI),q')∧HeapOk (qs q'.l)∧(qs q.l).Perm (toQ e :: qs q'.l)∧∀ x∈qs q.l,nb x (toQ e):=by
  obtain ⟨e,he⟩:=AF (l:=q.l) (k:=0) h0
  obtain ⟨z,hz⟩:=AF (l:=q.l) (k:=q.l.length - 1) (by omega)
  have cz:((q.l.length:Int) - 1)=((q.l.length - 1:Nat):Int):=by omega
  have sw:BV q.l 0 ((q.l.length - 1:Nat):Int)=some ((q.l.set 0 z).set (q.l.length - 1) e):=Js (i:=0) he hz
  unfold CI Cb
  rw [Am,Cp (by unfold inI64;omega),Am,cz,sw,Am]
  have tk:((q.l.set 0 z).set (q.l.length - 1) e).take (q.l.length - 1)=(q.l.set 0 z).take (q.l.length - 1):=by
    rw [List.take_set]
    exact List.set_eq_of_length_le (by simp)
  have hperm:(qs q.l).Perm (toQ e :: qs ((q.l.set 0 z).take (q.l.length - 1))):=by
    have:q.l.Perm (e :: (q.l.set 0 z).take (q.l.length - 1)):=by
      cases hq:q.l with
      | nil=>rw [hq] at h0;simp at h0
      | cons a tl =>
        rw [hq] at he hz
        simp at he
        subst he
        cases htl:tl.reverse with
        | nil =>
          have:tl=[]:=by simpa using htl
          subst this
          simp
        | cons w r =>
          have htl':tl=r.reverse ++ [w]:=by have:=congrArg List.reverse htl;simpa using this
          subst htl'
          simp at hz
          subst hz
          simp
    exact this.map toQ
  obtain ⟨r,r1,r2,r3,r4,r5⟩:=Pb (q:=⟨(q.l.set 0 z).set (q.l.length - 1) e⟩) (n:=q.l.length - 1) (by simp) (by simp;omega) (by
    dsimp only
    rw [tk]
    refine ⟨fun j x y hj hjp hx hy=>?_,fun j x y h1=>by omega⟩
    rw [Qg,Ir] at hx hy
    have hx':=KC hx
    have hy':=KC hy
    rw [List.getElem?_set_ne (by omega)] at hx' hy'
    exact h j x y hj hx' hy')
  dsimp only at r3 r4 r5
  rw [tk] at r3
  simp only [List.length_set] at r5
  rw [r1,Am]
  unfold Es
  have hlast:r.2.l[q.l.length - 1]?=some e:=by
    have:(r.2.l.drop (q.l.length - 1))[0]?=some e:=by
      rw [r4,List.getElem?_drop,Nat.add_zero,List.getElem?_set_self (by simp;omega)]
    rwa [List.getElem?_drop,Nat.add_zero] at this
  have hcut:cutI r.2.l 0 ((q.l.length - 1:Nat):Int)=some (r.2.l.take (q.l.length - 1)):=by
    unfold cutI
    rw [if_pos (by simp;omega)]
    simp
  rw [r5,cz,Cp (by unfold inI64;omega),Am,Bh,hlast,Am,Am,hcut,Am,Am]
  exact ⟨_,rfl,e,⟨r.2.l.take (q.l.length - 1)⟩,rfl,r2,hperm.trans (List.Perm.cons _ r3.symm),Oa h (Gd he)⟩
end
section
open Go Go.RowKit
def rangeI (n:Nat):List Int:=(List.range n).map fun i:Nat=>(i:Int)
theorem FC {n:Nat} {x:Int}:x∈rangeI n↔0≤x∧x < n:=by
  unfold rangeI
  rw [List.mem_map]
  constructor
  · rintro ⟨i,hi,rfl⟩;have:=List.mem_range.1 hi;omega
  · rintro ⟨h1,h2⟩;exact ⟨x.toNat,List.mem_range.2 (by omega),by omega⟩
theorem Gt (n:Nat):(rangeI n).length=n:=by simp [rangeI]
theorem GJ (n:Nat):(rangeI n).Nodup:=by
  unfold rangeI
  rw [List.nodup_iff_pairwise_ne,List.pairwise_map]
  exact (List.nodup_iff_pairwise_ne.1 List.nodup_range).imp fun h=>by omega
theorem Od {l:List Int} {x:Int} (hn:l.Nodup) (h:x∈l):l.count x=1:=by
  have h1:=List.nodup_iff_count.1 hn x
  have h2:=List.count_pos_iff.2 h
  omega
def PermR (l:List Int) (n:Nat):Prop:=l.Perm (rangeI n)
theorem FM:∀ {l₁ l₂:List Int},l₁.Nodup→(∀ x∈l₁,x∈l₂)→l₂.length≤l₁.length→l₁.Perm l₂
  | [],l₂,_,_,hl=>by
    have:l₂=[]:=List.eq_nil_of_length_eq_zero (by simpa using hl)
    rw [this]
  | x :: l₁,l₂,hn,hs,hl=>by
    have hx:=hs x List.mem_cons_self
    have hp:=List.perm_cons_erase hx
    obtain ⟨h1,h2⟩:=List.nodup_cons.1 hn
    refine (List.Perm.cons x (FM h2 (fun y hy=>?_) ?_)).trans hp.symm
    · have:y≠x:=fun e=>h1 (e ▸ hy)
      exact (List.mem_erase_of_ne this).2 (hs y (List.mem_cons_of_mem _ hy))
    · rw [List.length_erase_of_mem hx]
      simp at hl;omega
theorem PermR.len {l:List Int} {n:Nat} (h:PermR l n):l.length=n:=by rw [h.length_eq,Gt]
theorem PermR.mem {l:List Int} {n:Nat} (h:PermR l n) {x:Int} (hx:x∈l):0≤x∧x < n:=FC.1 (h.mem_iff.1 hx)
theorem PermR.nodup {l:List Int} {n:Nat} (h:PermR l n):l.Nodup:=h.symm.nodup (GJ n)
theorem LP {l:List Int} {n:Nat} (h1:l.Nodup) (h2:∀ x∈l,0≤x∧x < n) (h3:l.length=n):PermR l n:=FM h1 (fun x hx=>FC.2 (h2 x hx)) (by rw [Gt];omega)
theorem Fh {p q:Prop} (h:p↔q):some (bof p)=some (bof q):=by rw [JE h]
theorem DP {α:Type} {l:List α} {k:Nat} {x y:α} (h:l[k]?=some x):y∈l.take (k + 1)↔y∈l.take k∨y=x:=by
  rw [List.take_add_one,h,List.mem_append];simp
theorem Qi      {l:List Int} {n:Int} (hl:l.length≤1000000∨(l.length:Int)≠n):BY l n=some (bof ((l.length:Int)=n∧PermR l l.length)):=by
  unfold BY
  by_cases hn:(l.length:Int)=n
  case neg=>rw [if_pos hn,AQ (fun h=>hn h.1)]
  have hl':l.length≤1000000:=hl.resolve_right fun h=>h hn
  subst hn
  rw [if_neg (by simp),FY (by omega) (by omega),Am]
  rcases IJ (ρ:=Bool) (f:=fun (_:Nat) (a26:Int) (s23:(List Bool))=>bnd (if a26 < 0 then (some true) else (if (l.length:Int)≤a26 then (some true) else (bnd (atI s23 a26) fun a54=>some a54)):Option Bool) fun y48=>if y48=true then (some (.ret false)) else (bnd (atI s23 a26) fun _=>some (.next (s23.set (a26).toNat true)))) (xs:=l) (s₀:=List.replicate l.length false)
    (fun k s=>s.length=l.length∧(∀ j:Nat,j < l.length→s[j]?=some (bof ((j:Int)∈l.take k)))∧(l.take k).Nodup∧∀ x∈l.take k,0≤x∧x < l.length) (fun r=>r=false∧¬ PermR l l.length)
    ⟨by simp, fun j hj=>by rw [List.getElem?_replicate,if_pos hj,List.take_zero,AQ (List.not_mem_nil)],by simp,by simp⟩ (fun k x s hx hI=>by
      obtain ⟨i1,i2,i3,i4⟩:=hI
      by_cases h1:x < 0
      · rw [if_pos h1,Am,Bo]
        exact .inr ⟨_,rfl,rfl,fun hp=>by have:=hp.mem (List.mem_of_getElem? hx);omega⟩
      · rw [if_neg h1]
        by_cases h2:(l.length:Int)≤x
        · rw [if_pos h2,Am,Bo]
          exact .inr ⟨_,rfl,rfl,fun hp=>by have:=hp.mem (List.mem_of_getElem? hx);omega⟩
        · rw [if_neg h2]
          obtain ⟨j,rfl⟩:=Int.eq_ofNat_of_zero_le (by omega:0≤x)
          rw [Bh,i2 j (by omega),Am,Am]
          by_cases hm:(j:Int)∈l.take k
          · rw [Bf hm,Bo]
            refine .inr ⟨_,rfl,rfl,fun hp=>?_⟩
            have hnd:=hp.nodup
            rw [← List.take_append_drop k l,List.nodup_append] at hnd
            have hd:(j:Int)∈l.drop k:=List.mem_of_getElem? (i:=0) (by rw [List.getElem?_drop,Nat.add_zero];exact hx)
            exact hnd.2.2 _ hm _ hd rfl
          · rw [AQ hm,BD,Am]
            refine .inl ⟨_,rfl,by simpa using i1,fun q hq=>?_,?_,fun y hy=>?_⟩
            · rw [show ((j:Int)).toNat=j from by omega,List.getElem?_set]
              by_cases hjq:j=q
              · subst hjq
                rw [if_pos rfl,if_pos (by omega),Bf ((DP hx).2 (.inr rfl))]
              · rw [if_neg hjq,i2 q hq]
                refine Fh ⟨fun h=>(DP hx).2 (.inl h),fun h=>((DP hx).1 h).resolve_right (by omega)⟩
            · rw [List.take_add_one,hx]
              refine List.nodup_append.2 ⟨i3,by simp,fun a ha b hb=>?_⟩
              have:b=(j:Int):=by simpa using hb
              rw [this];exact fun e=>hm (e ▸ ha)
            · rcases (DP hx).1 hy with hy|rfl
              · exact i4 y hy
              · omega) with ⟨s,hr,_,_,hnd,hrg⟩|⟨r,hr,rfl,hno⟩
  · rw [hr,Am,BI]
    rw [List.take_length] at hnd hrg
    rw [Bf ⟨rfl,LP hnd hrg rfl⟩]
  · rw [hr,Am,Hz,AQ (fun h=>hno h.2)]
theorem Nj {l:List Int} {v:Int} {ρ:Type} (hl:l.length≤1000000):rng (ρ:=ρ) (fun (_:Nat) (a28:Int) (s25:Int)=>if a28=v then (bnd (chkI (s25 + 1)) fun n49=>some (.next n49)) else (some (.next s25))) l 0 0=some (.done ((l.count v:Nat):Int)):=by
  rw [DZ (fun k=>(((l.take k).count v:Nat):Int)) ?ha ?hb,List.take_length]
  case ha=>rfl
  case hb =>
    intro k x hx
    have hk:=AE hx
    have hc:=List.count_le_length (a:=v) (l:=l.take k)
    rw [List.length_take] at hc
    rw [List.take_add_one,hx,List.count_append]
    by_cases h:x=v
    · rw [if_pos h,Cp (by unfold inI64;omega),Am]
      subst h;simp
    · rw [if_neg h];simp [h]
theorem Nk {l:List Int} {n:Int} (hl:l.length≤1000000∨(l.length:Int)≠n):Cl l n=some (bof ((l.length:Int)=n∧PermR l l.length)):=by
  unfold Cl
  by_cases hn:(l.length:Int)=n
  case neg=>rw [if_pos hn,AQ (fun h=>hn h.1)]
  have hl':l.length≤1000000:=hl.resolve_right fun h=>h hn
  subst hn
  rw [if_neg (by simp),My,Am]
  have key:=IJ (ρ:=Bool) (f:=fun (_:Nat) (k10:Nat) (_:Unit)=>bnd (rng (ρ:=Ctl Unit Bool) (fun (_:Nat) (a28:Int) (s25:Int)=>if a28=(k10:Int) then (bnd (chkI (s25 + 1)) fun n49=>some (.next n49)) else (some (.next s25))) l 0 0) fun res23=>fin res23 fun (s56:Int)=>if s56≠1 then (some (.ret false)) else (some (.next ()))) (xs:=List.range l.length) (s₀:=())
    (fun k _=>∀ j:Nat,j < k→l.count (j:Int)=1) (fun r=>r=false∧¬ PermR l l.length) (fun j hj=>by omega) (fun k x _ hx hI=>by
      obtain ⟨hlt,rfl⟩:=List.getElem?_eq_some_iff.1 hx
      have hk:k < l.length:=by simpa using hlt
      rw [List.getElem_range,Nj hl',Am,BI]
      by_cases h1:l.count (k:Int)=1
      · rw [if_neg (by rw [h1];simp)]
        exact .inl ⟨_,rfl,fun j hj=>by
          by_cases hjk:j=k
          · rw [hjk];exact h1
          · exact hI j (by omega)⟩
      · rw [if_pos (by omega)]
        refine .inr ⟨_,rfl,rfl,fun hp=>h1 ?_⟩
        rw [hp.count_eq,Od (GJ _) (FC.2 ⟨by omega,by omega⟩)])
  rcases key with ⟨_,hr,hc⟩|⟨r,hr,rfl,hno⟩
  · rw [show rngN _ _ _=_ from hr,Am,BI]
    rw [List.length_range] at hc
    have hp:PermR l l.length:=(FM (GJ l.length) (fun x hx=>by
      obtain ⟨h1,h2⟩:=FC.1 hx
      have:=hc x.toNat (by omega)
      rw [show ((x.toNat:Nat):Int)=x from by omega] at this
      exact List.count_pos_iff.1 (by omega)) (by rw [Gt];omega)).symm
    rw [Bf ⟨rfl,hp⟩]
  · rw [show rngN _ _ _=_ from hr,Am,Hz,AQ (fun h=>hno h.2)]
end
section
open Go Go.RowKit
theorem FN {α:Type} {f:Nat→α→Unit→Option (Ctl Unit Bool)} {xs:List α} (P:Nat→Prop) (h:∀ k x,xs[k]?=some x→f k x ()=if bof (P k)=true then some (.next ()) else some (.ret false)) :
    (bnd (rng (ρ:=Bool) f xs 0 ()) fun r=>fin r fun _=>some true)=some (bof (∀ k,k < xs.length→P k)):=by
  rcases IJ (f:=f) (xs:=xs) (s₀:=()) (fun k _=>∀ j,j < k→P j) (fun r=>r=false∧¬ ∀ k,k < xs.length→P k) (fun j hj=>by omega) (fun k x _ hx hI=>by
    rw [h k x hx]
    by_cases hp:P k
    · rw [Bf hp,Bo]
      exact .inl ⟨_,rfl,CA hI hp⟩
    · rw [AQ hp,BD]
      exact .inr ⟨_,rfl,rfl,fun hh=>hp (hh k (AE hx))⟩) with ⟨_,hr,hc⟩|⟨r,hr,rfl,hno⟩
  · rw [hr,Am,BI,Bf hc]
  · rw [hr,Am,Hz,AQ hno]
theorem LQ {l:List Int} {n:Nat} (hn:n≤1000000):BY l (n:Int)=some (bof (PermR l n)):=by
  rw [Qi (by omega)]
  exact Fh ⟨fun h=>by       have:l.length=n:=by omega
                            rw [← this];exact h.2,fun h=>⟨by rw [h.len],by rw [h.len];exact h⟩⟩
theorem Is {l:List          Int} {n:Nat} (hn:n≤1000000):Cl l (n:Int)=some (bof (PermR l n)):=by
  rw [Nk (by omega)]
  exact Fh ⟨fun h=>by       have:l.length=n:=by omega
                            rw [← this];exact h.2,fun h=>⟨by rw [h.len],by rw [h.len];exact h⟩⟩
def FactsPerm (t:Tsk) (x:Swp):Prop:=PermR x.vars t.vars.length∧x.vals.length=t.vars.length∧∀ (k:Nat),k < t.vars.length→∃ (n:Nat) (a:Int) (l:List Int),t.vars[k]?=some (n:Int)∧x.vars[k]?=some a∧x.vals[k]?=some l∧atI t.vars a=some (n:Int)∧PermR l n
theorem Pc {t:Tsk} {x:Swp} (hok:TaskOk t):DF t x=some (bof (FactsPerm t x)):=by
  obtain ⟨hl,_,hv,_⟩:=hok
  unfold DF
  rw [LQ (by omega),Am]
  by_cases h1:PermR x.vars t.vars.length
  case neg=>rw [AQ h1,BD,Am,Bo,AQ (fun h=>h1 h.1)]
  rw [Bf h1,Bo]
  by_cases h2:x.vals.length=t.vars.length
  case neg=>rw [if_pos (by omega),Am,Bo,AQ (fun h=>h2 h.2.1)]
  rw [if_neg (by omega),Am,BD]
  rw [FN (fun k=>∃ (n:Nat) (a:Int) (l:List Int),t.vars[k]?=some (n:Int)∧x.vars[k]?=some a∧x.vals[k]?=some l∧atI t.vars a=some (n:Int)∧PermR l n) (fun k y hy=>by
    have hk:=AE hy
    obtain ⟨a,ha⟩:=AF (l:=x.vars) (k:=k) (by rw [h1.len];omega)
    obtain ⟨l,hll⟩:=AF (l:=x.vals) (k:=k) (by omega)
    have hy2:=hv k y hy
    obtain ⟨n,rfl⟩:=Int.eq_ofNat_of_zero_le (by omega:0≤y)
    obtain ⟨ha1,ha2⟩:=h1.mem (List.mem_of_getElem? ha)
    obtain ⟨j,rfl⟩:=Int.eq_ofNat_of_zero_le ha1
    obtain ⟨m,hm⟩:=AF (l:=t.vars) (k:=j) (by omega)
    rw [ha,Am,Bh,hm,Am]
    by_cases hmn:m=(n:Int)
    · rw [if_neg (by simpa using hmn),hll,Am,LQ (by omega),Am]
      by_cases hp:PermR l n
      · rw [Bf hp,Bo,Am,BD,Bf ⟨n,_,l,hy,rfl,rfl,by rw [Bh,hm,hmn],hp⟩,Bo]
      · rw [AQ hp,BD,Am,Bo,AQ (fun ⟨n',a',l',q1,q2,q3,q4,q5⟩=>by
          have e1:(n:Int)=n':=by rw [hy] at q1;exact Option.some.inj q1
          have e2:l=l':=Option.some.inj q3
          have e3:n=n':=by omega
          subst e2 e3;exact hp q5),BD]
    · rw [if_pos hmn,Am,Bo,AQ (fun ⟨n',a',l',q1,q2,q3,q4,q5⟩=>by
        have e1:(n:Int)=n':=by rw [hy] at q1;exact Option.some.inj q1
        have e2:(j:Int)=a':=Option.some.inj q2
        rw [← e2,Bh,hm] at q4
        exact hmn (by rw [e1];exact Option.some.inj q4)),BD])]
  exact Fh ⟨fun h=>⟨h1,h2,h⟩,fun h=>h.2.2⟩
theorem Pd {t:Tsk} {x:Swp} (hok:TaskOk t):Ey t x=some (bof (FactsPerm t x∧PermR x.ops t.ops.length)):=by
  obtain ⟨hl,hlo,hv,_⟩:=hok
  unfold Ey
  rw [Is (by omega),Am]
  by_cases h1:PermR x.vars t.vars.length
  case neg=>rw [AQ h1,BD,Am,Bo,AQ (fun h=>h1 h.1.1)]
  rw [Bf h1,Bo]
  by_cases h2:x.vals.length=t.vars.length
  case neg=>rw [if_pos (by omega),Am,Bo,AQ (fun h=>h2 h.1.2.1)]
  rw [if_neg (by omega),Is (by omega),Am]
  by_cases h3:PermR x.ops t.ops.length
  case neg=>rw [AQ h3,BD,Am,Bo,AQ (fun h=>h3 h.2)]
  rw [Bf h3,Bo,Am,BD]
  rw [FN (fun k=>∃ (n:Nat) (a:Int) (l:List Int),t.vars[k]?=some (n:Int)∧x.vars[k]?=some a∧x.vals[k]?=some l∧atI t.vars a=some (n:Int)∧PermR l n) (fun k y hy=>by
    have hk:=AE hy
    obtain ⟨a,ha⟩:=AF (l:=x.vars) (k:=k) (by rw [h1.len];omega)
    obtain ⟨l,hll⟩:=AF (l:=x.vals) (k:=k) (by omega)
    have hy2:=hv k y hy
    obtain ⟨n,rfl⟩:=Int.eq_ofNat_of_zero_le (by omega:0≤y)
    obtain ⟨ha1,ha2⟩:=h1.mem (List.mem_of_getElem? ha)
    obtain ⟨j,rfl⟩:=Int.eq_ofNat_of_zero_le ha1
    obtain ⟨m,hm⟩:=AF (l:=t.vars) (k:=j) (by omega)
    rw [ha,Am,Bh,hm,Am]
    by_cases hmn:m=(n:Int)
    · rw [if_neg (by simpa using hmn),hll,Am,Is (by omega),Am]
      by_cases hp:PermR l n
      · rw [Bf hp,Bo,Am,BD,Bf ⟨n,_,l,hy,rfl,rfl,by rw [Bh,hm,hmn],hp⟩,Bo]
      · rw [AQ hp,BD,Am,Bo,AQ (fun ⟨n',a',l',q1,q2,q3,q4,q5⟩=>by
          have e1:(n:Int)=n':=by rw [hy] at q1;exact Option.some.inj q1
          have e2:l=l':=Option.some.inj q3
          have e3:n=n':=by omega
          subst e2 e3;exact hp q5),BD]
    · rw [if_pos hmn,Am,Bo,AQ (fun ⟨n',a',l',q1,q2,q3,q4,q5⟩=>by
        have e1:(n:Int)=n':=by rw [hy] at q1;exact Option.some.inj q1
        have e2:(j:Int)=a':=Option.some.inj q2
        rw [← e2,Bh,hm] at q4
        exact hmn (by rw [e1];exact Option.some.inj q4)),BD])]
  exact Fh ⟨fun h=>⟨⟨h1,h2,h⟩,h3⟩,fun h=>h.1.2.2⟩
theorem FW (a b:List Fct):BG a b=some (bof (a=b)):=by
  unfold BG
  by_cases hl:a.length=b.length
  case neg=>rw [if_pos (by omega),AQ (fun h=>hl (by rw [h]))]
  rw [if_neg (by omega),FN (fun k=>a[k]?=b[k]?) (fun k y hy=>by
    obtain ⟨z,hz⟩:=AF (l:=b) (k:=k) (by have:=AE hy;omega)
    rw [hz,Am]
    by_cases h:y=z
    · rw [if_neg (by simp [h]),Bf (by rw [hy,h]),Bo]
    · rw [if_pos (fun hh=>h (by cases y;cases z;simpa using hh)),AQ (by rw [hy];simpa using h),BD])]
  refine Fh ⟨fun h=>List.ext_getElem? fun k=>?_,fun h=>by rw [h];exact fun _ _=>rfl⟩
  by_cases hk:k < a.length
  · exact h k hk
  · rw [List.getElem?_eq_none (by omega),List.getElem?_eq_none (by omega)]
theorem HB (a b:List Fct):Ei a b=some (bof (a=b)):=FW a b
theorem alike1 (a b:Eff):Dd a b=some (bof (a=b)):=by
  unfold Dd
  by_cases h1:a.var=b.var
  case neg=>rw [if_neg h1,Am,AQ (fun h=>h1 (by rw [h]))]
  by_cases h2:a.val=b.val
  case neg=>rw [if_pos h1,if_neg h2,Am,AQ (fun h=>h2 (by rw [h]))]
  rw [if_pos h1,if_pos h2,FW,Am]
  by_cases h3:a.cond=b.cond
  · rw [Bf h3,Bo,Am,Bf (by cases a;cases b;simp_all)]
  · rw [AQ h3,BD,Am,AQ (fun h=>h3 (by rw [h]))]
theorem Nl (a b:List Eff):Bb a b=some (bof (a=b)):=by
  unfold Bb
  by_cases hl:a.length=b.length
  case neg=>rw [if_pos (by omega),AQ (fun h=>hl (by rw [h]))]
  rw [if_neg (by omega),FN (fun k=>a[k]?=b[k]?) (fun k y hy=>by
    obtain ⟨z,hz⟩:=AF (l:=b) (k:=k) (by have:=AE hy;omega)
    rw [hz,Am,alike1,Am]
    by_cases h:y=z
    · rw [Bf h,Bo,Bf (by rw [hy,h]),Bo]
    · rw [AQ h,BD,AQ (by rw [hy];simpa using h),BD])]
  refine Fh ⟨fun h=>List.ext_getElem? fun k=>?_,fun h=>by rw [h];exact fun _ _=>rfl⟩
  by_cases hk:k < a.length
  · exact h k hk
  · rw [List.getElem?_eq_none (by omega),List.getElem?_eq_none (by omega)]
theorem Pe (p q:Opr):DG p q=some (bof (p.cost=q.cost∧p.pre=q.pre∧p.effs=q.effs)):=by
  unfold DG
  by_cases h1:p.cost=q.cost
  case neg=>rw [if_neg h1,Am,AQ (fun h=>h1 h.1)]
  rw [if_pos h1,FW,Am]
  by_cases h2:p.pre=q.pre
  case neg=>rw [AQ h2,BD,Am,AQ (fun h=>h2 h.2.1)]
  rw [Bf h2,Bo,Nl,Am]
  by_cases h3:p.effs=q.effs
  · rw [Bf h3,Bo,Am,Bf ⟨h1,h2,h3⟩]
  · rw [AQ h3,BD,Am,AQ (fun h=>h3 h.2.2)]
def imF (x:Swp) (f:Fct):Fct:=⟨(x.vars[f.var.toNat]?).getD 0,(((x.vals[f.var.toNat]?).getD [])[f.val.toNat]?).getD 0⟩
def imL (x:Swp) (fs:List Fct):List Fct:=Bc (fs.map (imF x))
def imE (x:Swp) (e:Eff):Eff:=⟨imL x e.cond,(imF x ⟨e.var,e.val⟩).var,(imF x ⟨e.var,e.val⟩).val⟩
def imO (x:Swp) (o:Opr):Opr:=⟨⟨#[]⟩,o.cost,imL x o.pre,o.effs.map (imE x)⟩
theorem Hm {t:Tsk} {x:Swp} {f:Fct} (hp:FactsPerm t x) (hf:FactOk t.vars f):∃ l,atI x.vars f.var=some (imF x f).var∧atI x.vals f.var=some l∧atI l f.val=some (imF x f).val∧0≤(imF x f).var∧0≤(imF x f).val:=by
  obtain ⟨h1,h2,n,hn,h3⟩:=hf
  obtain ⟨fv,fz⟩:=f
  simp only at h1 h2 hn h3 ⊢
  obtain ⟨j,rfl⟩:=Int.eq_ofNat_of_zero_le h1
  obtain ⟨i,rfl⟩:=Int.eq_ofNat_of_zero_le h2
  rw [show ((j:Int)).toNat=j from by omega] at hn
  obtain ⟨m,a,l,q1,q2,q3,q4,q5⟩:=hp.2.2 j (AE hn)
  have e:(m:Int)=n:=by rw [hn] at q1;exact (Option.some.inj q1).symm
  obtain ⟨z,hz⟩:=AF (l:=l) (k:=i) (by rw [q5.len];omega)
  have ha:=hp.1.mem (List.mem_of_getElem? q2)
  have hz':=q5.mem (List.mem_of_getElem? hz)
  refine ⟨l,?_,?_,?_,?_,?_⟩<;>simp [imF,Bh,q2,q3,hz]<;>omega
end
section
open Go Go.RowKit
theorem EN {vars:List Int} {f:List Fct} (h:FactsOk vars f):(∀ x∈f,FactOk vars x)∧f.Pairwise fun x y=>x.var < y.var:=by
  refine ⟨fun x hx=>by obtain ⟨i,hi⟩:=List.getElem?_of_mem hx;exact h.1 i x hi,?_⟩
  rw [List.pairwise_iff_getElem]
  intro i j hi hj hij
  exact Gq h j i _ _ hij (List.getElem?_eq_getElem hi) (List.getElem?_eq_getElem hj)
theorem KF {a b:List Fct} (hp:a.Perm b) (ha:a.Pairwise fun x y=>x.var < y.var) (hb:b.Pairwise fun x y=>x.var < y.var):a=b :=
  List.Perm.eq_of_pairwise (fun x y _ _ h1 h2=>by omega) ha hb hp
def VarsNe (f:List Fct):Prop:=f.Pairwise fun x y=>x.var≠y.var
theorem VarsNe.perm {a b:List Fct} (hp:a.Perm b) (h:VarsNe a):VarsNe b:=(hp.pairwise_iff (fun h e=>h e.symm)).1 h
theorem HC {a:List Fct} (h:VarsNe a):(Bc a).Pairwise fun x y=>x.var < y.var:=by
  have h1:=Mg a
  have h2:VarsNe (Bc a):=h.perm (DA a).symm
  exact (h1.and h2).imp fun ⟨p,q⟩=>by omega
theorem Qj {t:Tsk} {x:Swp} {f g:Fct} (hp:FactsPerm t x) (hf:FactOk t.vars f) (hg:FactOk t.vars g) (h:(imF x f).var=(imF x g).var):f.var=g.var:=by
  obtain ⟨_,hf1,_⟩:=Hm hp hf
  obtain ⟨_,hg1,_⟩:=Hm hp hg
  obtain ⟨i,hi,hi'⟩:=FH hf1
  obtain ⟨j,hj,hj'⟩:=FH hg1
  rw [h,← hj'] at hi'
  have h1:i < x.vars.length:=by rw [hj'] at hi';exact AE hi'
  have h2:=AE hj'
  rw [List.getElem?_eq_getElem h1,List.getElem?_eq_getElem h2] at hi'
  have hij:=(List.getElem_inj hp.1.nodup).1 (Option.some.inj hi')
  rw [hi,hj,hij]
theorem Nm {t:Tsk} {x:Swp} {fs:List Fct} (hp:FactsPerm t x) (hf:FactsOk t.vars fs):VarsNe (fs.map (imF x)):=by
  obtain ⟨h1,h2⟩:=EN hf
  unfold VarsNe
  rw [List.pairwise_map]
  refine List.Pairwise.imp_of_mem (fun {a b} ha hb hab=>?_) h2
  intro e
  have:=Qj hp (h1 a ha) (h1 b hb) e
  omega
theorem KG {t:Tsk} {fs:List Fct} (hok:TaskOk t) (hf:FactsOk t.vars fs):fs.length≤64:=by have:=Fb hf;have:=hok.1;omega
theorem map_take {α β:Type} {f:α→β} {l:List α} {k:Nat} {x:α} (h:l[k]?=some x):(l.take (k + 1)).map f=(l.take k).map f ++ [f x]:=by
  rw [List.take_add_one,h];simp
theorem It {t:Tsk} {x:Swp} {fs:List Fct} (hok:TaskOk t) (hp:FactsPerm t x) (hf:FactsOk t.vars fs):CL x fs=some (imL x fs):=by
  have hl:=KG hok hf
  unfold CL
  rw [DZ (fun k=>(fs.take k).map (imF x)) (by simp) (fun k f hk=>by
    obtain ⟨l,h1,h2,h3,_⟩:=Hm hp (hf.1 k f hk)
    have:=AE hk
    rw [h1,Am,h2,Am,h3,Am,Cq (by simp;omega) (by simp;omega),Am,map_take hk]),Am,BI,List.take_length,if_pos (by simp;omega),Am]
  rfl
def insF (f:Fct):List Fct→List Fct
  | []=>[f]
  | a :: l=>if f.var < a.var then f :: a :: l else a :: insF f l
theorem Oe {f:Fct} {ρ:Type}:∀ (l acc:List Fct) (k:Nat),acc.length + l.length≤1000→rng (ρ:=ρ) (fun (_:Nat) (a18:Fct) (s15:(List Fct)×Bool)=>bnd (bnd (if (!s15.2)=true then (if f.var < a18.var then (some true) else (some false)) else (some false):Option Bool) fun y54=>if y54=true then (bnd (appI 16 s15.1 [f]) fun u65=>some (u65,true)) else (some (s15.1,s15.2)):Option ((List Fct)×Bool)) fun y48=>bnd (appI 16 y48.1 [a18]) fun u81=>some (.next (u81,y48.2))) l k (acc,true)=some (.done (acc ++ l,true))
  | [],acc,k,_=>by simp [rng]
  | a :: l,acc,k,h=>by
    simp at h
    have:=Oe (f:=f) (ρ:=ρ) l (acc ++ [a]) (k + 1) (by simp;omega)
    rw [rng,PH,Am,BD,Am,Cq (by simp;omega) (by simp;omega),Am]
    simp only
    rw [this];simp
theorem Of {f:Fct} {ρ:Type}:∀ (l acc:List Fct) (k:Nat),acc.length + l.length≤900→∃ r:List Fct×Bool,rng (ρ:=ρ) (fun (_:Nat) (a18:Fct) (s15:(List Fct)×Bool)=>bnd (bnd (if (!s15.2)=true then (if f.var < a18.var then (some true) else (some false)) else (some false):Option Bool) fun y54=>if y54=true then (bnd (appI 16 s15.1 [f]) fun u65=>some (u65,true)) else (some (s15.1,s15.2)):Option ((List Fct)×Bool)) fun y48=>bnd (appI 16 y48.1 [a18]) fun u81=>some (.next (u81,y48.2))) l k (acc,false)=some (.done r)∧r.1.length≤1000∧(if r.2=true then r.1 else r.1 ++ [f])=acc ++ insF f l
  | [],acc,k,h=>⟨(acc,false),by simp [rng],by simp at h;simp;omega,by simp [insF]⟩
  | a :: l,acc,k,h=>by
    simp at h
    rw [rng,PI]
    by_cases hlt:f.var < a.var
    · have:=Oe (f:=f) (ρ:=ρ) l (acc ++ [f] ++ [a]) (k + 1) (by simp;omega)
      refine ⟨(acc ++ [f] ++ [a] ++ l,true),?_,?_,?_⟩
      · rw [if_pos hlt,Am,Bo,Cq (by simp;omega) (by simp;omega),Am,Am,Cq (by simp;omega) (by simp;omega),Am]
        simp only
        rw [this]
      · simp;omega
      · simp [insF,hlt]
    · obtain ⟨r,h1,h2,h3⟩:=Of (f:=f) (ρ:=ρ) l (acc ++ [a]) (k + 1) (by simp;omega)
      refine ⟨r,?_,h2,?_⟩
      · rw [if_neg hlt,Am,BD,Am,Cq (by simp;omega) (by simp;omega),Am]
        simp only
        rw [h1]
      · rw [h3];simp [insF,hlt]
theorem Qk {f:Fct} {l:List Fct} (h:l.length≤900):Ej l f=some (insF f l):=by
  unfold Ej
  obtain ⟨⟨r1,r2⟩,h1,h2,h3⟩:=Of (f:=f) (ρ:=List Fct) l [] 0 (by simpa using h)
  rw [h1,Am,BI]
  simp only at h2 h3 ⊢
  cases r2 with
  | true=>rw [PH,Am];simpa using h3
  | false=>rw [PI,Cq (by simp;omega) (by simp;omega),Am,Am];simpa using h3
theorem Iu (f:Fct):∀ l,(insF f l).Perm (f :: l)
  | []=>by simp [insF]
  | a :: l=>by
    unfold insF
    split
    · exact List.Perm.refl _
    · exact ((Iu f l).cons a).trans (List.Perm.swap f a l)
theorem IV {f:Fct}:∀ {l:List Fct},l.Pairwise (fun x y=>x.var < y.var)→(∀ y∈l,y.var≠f.var)→(insF f l).Pairwise fun x y=>x.var < y.var
  | [],_,_=>by simp [insF]
  | a :: l,h,hn=>by
    obtain ⟨h1,h2⟩:=List.pairwise_cons.1 h
    unfold insF
    split
    · rename_i hlt
      refine List.pairwise_cons.2 ⟨fun y hy=>?_,h⟩
      rcases List.mem_cons.1 hy with rfl|hy
      · exact hlt
      · have:=h1 y hy;omega
    · rename_i hlt
      refine List.pairwise_cons.2 ⟨fun y hy=>?_,IV h2 fun y hy=>hn y (List.mem_cons_of_mem _ hy)⟩
      rcases List.mem_cons.1 ((Iu f l).mem_iff.1 hy) with rfl|hy
      · have:=hn a List.mem_cons_self;omega
      · exact h1 y hy
theorem Pf {l:List Fct} {v:Int} (h:∀ y∈l,y.var≠v):DM l v=some (-1):=by
  unfold DM
  rw [Jp (fun k y hy=>by rw [if_neg (h y (List.mem_of_getElem? hy))]),Am,BI]
theorem Ql {l:List Fct} (hl:l.length≤64) (hv:∀ x∈l,0≤x.var∧0≤x.val) (hn:VarsNe l):EJ l=some (Bc l,0):=by
  unfold EJ
  rw [Jp (fun k y hy=>by
    have:=hv y (List.mem_of_getElem? hy)
    rw [if_neg (by omega),if_neg (by omega),Am,BD]),Am,BI]
  obtain ⟨s,h1,h2,h3⟩:=CS (ρ:=List Fct×Int) (f:=fun (_:Nat) (a60:Fct) (s57:(List Fct))=>bnd (DM s57 a60.var) fun q88=>bnd (if 0≤q88 then (if q88≠a60.val then (some true) else (some false)) else (some false):Option Bool) fun y96=>if y96=true then (some (.ret (([]:List Fct),2))) else (if q88 < 0 then (bnd (Ej s57 a60) fun q108=>some (.next q108)) else (some (.next s57)))) (xs:=l) (s₀:=[]) (fun k s=>s.Perm (l.take k)∧s.Pairwise fun x y=>x.var < y.var) ⟨by simp,by simp⟩ (fun k f s hk hI=>by
    obtain ⟨i1,i2⟩:=hI
    have hne:∀ y∈s,y.var≠f.var:=fun y hy=>by
      have hy:=i1.mem_iff.1 hy
      have hd:f∈l.drop k:=List.mem_of_getElem? (i:=0) (by rw [List.getElem?_drop,Nat.add_zero];exact hk)
      have hn':=hn
      unfold VarsNe at hn'
      rw [← List.take_append_drop k l,List.pairwise_append] at hn'
      exact hn'.2.2 y hy f hd
    have hsl:s.length≤900:=by rw [i1.length_eq,List.length_take];omega
    rw [Pf hne,Am,if_neg (by omega),Am,BD,if_pos (by omega),Qk hsl,Am]
    refine ⟨_,rfl,?_,IV i2 hne⟩
    rw [List.take_add_one,hk]
    exact (Iu f s).trans ((i1.cons f).trans (List.perm_append_singleton f _).symm))
  rw [h1,Am,BI]
  rw [List.take_length] at h2
  rw [KF (h2.trans (DA l).symm) h3 (HC hn)]
theorem JW {t:Tsk} {x:Swp} {f:Fct} (hp:FactsPerm t x) (hf:FactOk t.vars f):Ek x f=some (imF x f):=by
  unfold Ek
  obtain ⟨l,h1,h2,h3,_⟩:=Hm hp hf
  rw [h1,Am,h2,Am,h3,Am]
theorem Hb {t:Tsk} {x:Swp} {fs:List Fct} (hok:TaskOk t) (hp:FactsPerm t x) (hf:FactsOk t.vars fs):Dp x fs=some (imL x fs):=by
  have hl:=KG hok hf
  unfold Dp
  rw [DZ (fun k=>(fs.take k).map (imF x)) (by simp) (fun k f hk=>by
    have:=AE hk
    rw [JW hp (hf.1 k f hk),Am,Cq (by simp;omega) (by simp;omega),Am,map_take hk]),Am,BI,List.take_length,Ql (by simpa using hl) (fun y hy=>by
      obtain ⟨f,hf',rfl⟩:=List.mem_map.1 hy
      obtain ⟨_,_,_,_,h⟩:=Hm hp ((EN hf).1 f hf')
      exact h) (Nm hp hf),Am]
  rfl
theorem Pg {t:Tsk} {x:Swp} {o:Opr} (hok:TaskOk t) (hp:FactsPerm t x) (ho:OpOk t.vars o):DH x o=some (imO x o):=by
  obtain ⟨_,_,hl,_,hpre,heff⟩:=ho
  unfold DH
  rw [It hok hp hpre,Am,Am,DZ (fun k=>(o.effs.take k).map (imE x)) (by simp) (fun k e hk=>by
    obtain ⟨h1,h2⟩:=heff k e hk
    obtain ⟨l,g1,g2,g3,_⟩:=Hm hp h2
    have:=AE hk
    rw [show e.var=(⟨e.var,e.val⟩:Fct).var from rfl,g1,Am,g2,Am,show e.val=(⟨e.var,e.val⟩:Fct).val from rfl,g3,Am,It hok hp h1,Am,Cq (by simp;omega) (by simp;omega),Am,map_take hk]
    rfl),Am,BI,List.take_length]
  rfl
theorem Qm {a b:Eff}:a=b↔a.var=b.var∧a.val=b.val∧a.cond=b.cond:=⟨fun h=>by rw [h];exact ⟨rfl,rfl,rfl⟩,fun ⟨h1,h2,h3⟩=>by cases a;cases b;simp_all⟩
theorem Qn {t:Tsk} {x:Swp} {o p:Opr} (hok:TaskOk t) (hp:FactsPerm t x) (ho:OpOk t.vars o):EK x o p=some (bof (o.cost=p.cost∧imL x o.pre=p.pre∧o.effs.map (imE x)=p.effs)):=by
  obtain ⟨_,_,hl,_,hpre,heff⟩:=ho
  unfold EK
  by_cases h1:o.cost=p.cost
  case neg=>rw [if_pos h1,Am,Bo,AQ (fun h=>h1 h.1)]
  rw [if_neg (by simpa using h1)]
  by_cases h2:o.effs.length=p.effs.length
  case neg=>rw [if_pos (by omega),Am,Bo,AQ (fun h=>h2 (by rw [← h.2.2];simp))]
  rw [if_neg (by omega),Hb hok hp hpre,Am,HB,Am]
  by_cases h3:imL x o.pre=p.pre
  case neg=>rw [AQ h3,BD,Am,Bo,AQ (fun h=>h3 h.2.1)]
  rw [Bf h3,Bo,Am,BD,FN (fun k=>(o.effs.map (imE x))[k]?=p.effs[k]?) (fun k e hk=>by
    obtain ⟨g1,g2⟩:=heff k e hk
    obtain ⟨z,hz⟩:=AF (l:=p.effs) (k:=k) (by have:=AE hk;omega)
    have hE:(o.effs.map (imE x))[k]?=some (imE x e):=by rw [List.getElem?_map,hk];rfl
    rw [JW hp g2,Am,hz,Am,hE]
    have hex:=@Qm (imE x e) z
    by_cases k1:(imF x ⟨e.var,e.val⟩).var=z.var
    case neg=>rw [if_pos k1,Am,Bo,AQ (fun h=>k1 (hex.1 (Option.some.inj h)).1),BD]
    rw [if_neg (by simpa using k1),Am]
    by_cases k2:(imF x ⟨e.var,e.val⟩).val=z.val
    case neg=>rw [if_pos k2,Am,Bo,AQ (fun h=>k2 (hex.1 (Option.some.inj h)).2.1),BD]
    rw [if_neg (by simpa using k2),Am,Hb hok hp g1,Am,HB,Am]
    by_cases k3:imL x e.cond=z.cond
    · rw [Bf k3,Bo,Am,BD,Bf (by rw [hex.2 ⟨k1,k2,k3⟩]),Bo]
    · rw [AQ k3,BD,Am,Bo,AQ (fun h=>k3 (hex.1 (Option.some.inj h)).2.2),BD])]
  refine Fh ⟨fun h=>⟨h1,h3,List.ext_getElem? fun k=>?_⟩,fun h=>by rw [h.2.2];exact fun _ _=>rfl⟩
  by_cases hk:k < o.effs.length
  · exact h k hk
  · rw [List.getElem?_eq_none (by simp;omega),List.getElem?_eq_none (by omega)]
def SymP (t:Tsk) (x:Swp):Prop:=FactsPerm t x∧PermR x.ops t.ops.length∧imL x t.goal=t.goal∧∀ k,k < t.ops.length→∃ (o p:Opr) (a:Int),t.ops[k]?=some o∧x.ops[k]?=some a∧atI t.ops a=some p∧o.cost=p.cost∧imL x o.pre=p.pre∧o.effs.map (imE x)=p.effs
theorem IK {t:Tsk} {x:Swp} (hok:TaskOk t):Dr t x=some (bof (SymP t x)):=by
  unfold Dr
  rw [Pc hok,Am]
  by_cases h1:FactsPerm t x
  case neg=>rw [AQ h1,BD,Am,Bo,AQ (fun h=>h1 h.1)]
  have hlo:=hok.2.1
  rw [Bf h1,Bo,LQ (by omega),Am]
  by_cases h2:PermR x.ops t.ops.length
  case neg=>rw [AQ h2,BD,Am,Bo,AQ (fun h=>h2 h.2.1)]
  rw [Bf h2,Bo,It hok h1 hok.2.2.2.2.1,Am,FW,Am]
  by_cases h3:imL x t.goal=t.goal
  case neg=>rw [AQ h3,BD,Am,Bo,AQ (fun h=>h3 h.2.2.1)]
  rw [Bf h3,Bo,Am,BD,FN (fun k=>∃ (o p:Opr) (a:Int),t.ops[k]?=some o∧x.ops[k]?=some a∧atI t.ops a=some p∧o.cost=p.cost∧imL x o.pre=p.pre∧o.effs.map (imE x)=p.effs) (fun k o hk=>by
    have:=AE hk
    obtain ⟨a,ha⟩:=AF (l:=x.ops) (k:=k) (by rw [h2.len];omega)
    obtain ⟨ha1,ha2⟩:=h2.mem (List.mem_of_getElem? ha)
    obtain ⟨j,rfl⟩:=Int.eq_ofNat_of_zero_le ha1
    obtain ⟨p,hp⟩:=AF (l:=t.ops) (k:=j) (by omega)
    rw [ha,Am,Bh,hp,Am,Pg hok h1 (hok.2.2.2.2.2 k o hk),Am,Pe,Am]
    have e:(∃ (o p:Opr) (a:Int),t.ops[k]?=some o∧some (j:Int)=some a∧atI t.ops a=some p∧o.cost=p.cost∧imL x o.pre=p.pre∧o.effs.map (imE x)=p.effs)↔((imO x o).cost=p.cost∧(imO x o).pre=p.pre∧(imO x o).effs=p.effs):=by
      constructor
      · rintro ⟨o',p',a',q1,q2,q3,q4⟩
        obtain rfl:o=o':=by rw [hk] at q1;exact Option.some.inj q1
        obtain rfl:=Option.some.inj q2
        rw [Bh,hp] at q3
        obtain rfl:=Option.some.inj q3
        exact q4
      · intro h
        exact ⟨o,p,j,hk,rfl,by rw [Bh,hp],h⟩
    rw [JE e])]
  exact Fh ⟨fun h=>⟨h1,h2,h3,h⟩,fun h=>h.2.2.2⟩
theorem Mu {t:Tsk} {x:Swp}:DN t x=some (bof (TaskOk t∧SymP t x)):=by
  unfold DN GY
  rw [Am]
  by_cases hok:TaskOk t
  case neg=>rw [AQ hok,BD,Am,Bo,AQ (fun h=>hok h.1)]
  rw [Bf hok,Bo,Pd hok,Am]
  by_cases h12:FactsPerm t x∧PermR x.ops t.ops.length
  case neg=>rw [AQ h12,BD,Am,Bo,AQ (fun h=>h12 ⟨h.2.1,h.2.2.1⟩)]
  obtain ⟨h1,h2⟩:=h12
  have hlo:=hok.2.1
  rw [Bf ⟨h1,h2⟩,Bo,Hb hok h1 hok.2.2.2.2.1,Am,HB,Am]
  by_cases h3:imL x t.goal=t.goal
  case neg=>rw [AQ h3,BD,Am,Bo,AQ (fun h=>h3 h.2.2.2.1)]
  rw [Bf h3,Bo,Am,BD,FN (fun k=>∃ (o p:Opr) (a:Int),t.ops[k]?=some o∧x.ops[k]?=some a∧atI t.ops a=some p∧o.cost=p.cost∧imL x o.pre=p.pre∧o.effs.map (imE x)=p.effs) (fun k o hk=>by
    have:=AE hk
    obtain ⟨a,ha⟩:=AF (l:=x.ops) (k:=k) (by rw [h2.len];omega)
    obtain ⟨ha1,ha2⟩:=h2.mem (List.mem_of_getElem? ha)
    obtain ⟨j,rfl⟩:=Int.eq_ofNat_of_zero_le ha1
    obtain ⟨p,hp⟩:=AF (l:=t.ops) (k:=j) (by omega)
    rw [ha,Am,Bh,hp,Am,Qn hok h1 (hok.2.2.2.2.2 k o hk),Am]
    have e:(∃ (o p:Opr) (a:Int),t.ops[k]?=some o∧some (j:Int)=some a∧atI t.ops a=some p∧o.cost=p.cost∧imL x o.pre=p.pre∧o.effs.map (imE x)=p.effs)↔(o.cost=p.cost∧imL x o.pre=p.pre∧o.effs.map (imE x)=p.effs):=by
      constructor
      · rintro ⟨o',p',a',q1,q2,q3,q4⟩
        obtain rfl:o=o':=by rw [hk] at q1;exact Option.some.inj q1
        obtain rfl:=Option.some.inj q2
        rw [Bh,hp] at q3
        obtain rfl:=Option.some.inj q3
        exact q4
      · intro h
        exact ⟨o,p,j,hk,rfl,by rw [Bh,hp],h⟩
    rw [JE e])]
  exact Fh ⟨fun h=>⟨hok,h1,h2,h3,h⟩,fun h=>h.2.2.2.2⟩
theorem Ph {t:Tsk} {x:Swp}:CG t x=some (bof (TaskOk t∧SymP t x)):=by
  unfold CG CF
  rw [Am]
  by_cases hok:TaskOk t
  case neg=>rw [if_neg (fun h=>hok (DE.1 h)),Am,AQ (fun h=>hok h.1)]
  rw [if_pos (DE.2 hok),IK hok,Am]
  by_cases h:SymP t x
  · rw [Bf h,Bo,Am,Bf ⟨hok,h⟩]
  · rw [AQ h,BD,Am,AQ (fun hh=>h hh.2)]
end
section
open Go Go.RowKit
theorem demand1 {t:Tsk} {x:Swp} (hok:TaskOk t):BA t [x]=some ⟨if bof (SymP t x)=true then 0 else 2⟩:=by
  unfold BA CF
  rw [Am,if_neg (by rw [DE.2 hok];simp)]
  by_cases h:SymP t x
  · rw [Jp (fun k y hy=>by
      obtain rfl:y=x:=by simpa using List.mem_of_getElem? hy
      rw [IK hok,Am,Bf h,Bo]),Am,BI,Bf h,Bo]
  · have:rng (ρ:=Err) (fun (_:Nat) (a41:Swp) (_:Unit)=>bnd (Dr t a41) fun q77=>if q77=true then some (.next ()) else some (.ret (⟨2⟩:Err))) [x] 0 ()=some (.ret ⟨2⟩):=by
      simp only [rng]
      rw [IK hok,Am,AQ h,BD]
    rw [this,Am,Hz,AQ h,BD]
def ImS (x:Swp) (s r:List Int):Prop:=r.length=s.length∧∀ (k:Nat) v,s[k]?=some v→∃ (a:Nat) (l:List Int) (z:Int),x.vars[k]?=some (a:Int)∧x.vals[k]?=some l∧atI l v=some z∧r[a]?=some z
theorem LR {t:Tsk} {x:Swp} {s:List Int} (hok:TaskOk t) (hp:FactsPerm t x) (hs:StateOk t.vars s):∃ r,Cw x s=some r∧ImS x s r:=by
  obtain ⟨hsl,hsv⟩:=hs
  have hl:=hok.1
  unfold Cw
  rw [FY (by omega) (by omega),Am]
  obtain ⟨r,h1,h2,h3⟩:=CS (ρ:=List Int) (f:=fun (k42:Nat) (a43:Int) (s40:(List Int))=>bnd (x.vars[k42]?) fun a65=>bnd (x.vals[k42]?) fun a75=>bnd (atI a75 a43) fun a88=>bnd (atI s40 a65) fun _=>some (.next (s40.set (a65).toNat a88))) (xs:=s) (s₀:=List.replicate s.length 0)
    (fun k r=>r.length=s.length∧∀ (j:Nat) v,j < k→s[j]?=some v→∃ (a:Nat) (l:List Int) (z:Int),x.vars[j]?=some (a:Int)∧x.vals[j]?=some l∧atI l v=some z∧r[a]?=some z) ⟨by simp,fun j v hj=>by omega⟩ (fun k v r hk hI=>by
    obtain ⟨i1,i2⟩:=hI
    have hlt:=AE hk
    obtain ⟨n,a,l,q1,q2,q3,q4,q5⟩:=hp.2.2 k (by omega)
    obtain ⟨ha1,ha2⟩:=hp.1.mem (List.mem_of_getElem? q2)
    obtain ⟨a,rfl⟩:=Int.eq_ofNat_of_zero_le ha1
    obtain ⟨h1,h2⟩:=hsv k v n hk q1
    obtain ⟨u,rfl⟩:=Int.eq_ofNat_of_zero_le h1
    obtain ⟨z,hz⟩:=AF (l:=l) (k:=u) (by rw [q5.len];omega)
    obtain ⟨y,hy⟩:=AF (l:=r) (k:=a) (by omega)
    rw [q2,Am,q3,Am,Bh,hz,Am,Bh,hy,Am]
    refine ⟨_,rfl,by simpa using i1,fun j v' hj hv'=>?_⟩
    rw [show ((a:Int)).toNat=a from by omega]
    by_cases hjk:j=k
    · subst hjk
      rw [hk] at hv'
      obtain rfl:=Option.some.inj hv'
      exact ⟨a,l,z,q2,q3,by rw [Bh,hz],by rw [List.getElem?_set_self (by omega)]⟩
    · obtain ⟨a',l',z',g1,g2,g3,g4⟩:=i2 j v' (by omega) hv'
      refine ⟨a',l',z',g1,g2,g3,?_⟩
      rw [List.getElem?_set_ne (fun e=>hjk ?_),g4]
      have hj1:=AE g1
      have hk1:=AE q2
      rw [e] at q2
      have:=g1.trans q2.symm
      rw [List.getElem?_eq_getElem hj1,List.getElem?_eq_getElem hk1] at this
      exact (List.getElem_inj hp.1.nodup).1 (Option.some.inj this))
  exact ⟨r,by rw [h1,Am,BI],h2,fun k v hk=>h3 k v (AE hk) hk⟩
theorem KH (x:Swp) (s:List Int):DO x s=Cw x s:=rfl
end
end Go.Proofs.YtecegaabajeolaaGreat

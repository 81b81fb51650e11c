/- Own text: what the proof of compileLeast_holds uses, part 3: rules, models and their proofs, plain laws. -/
import Derived.Test.YtllibjejncelhaaGreatDoorCLB
set_option linter.unusedVariables false
set_option linter.unusedSimpArgs false
namespace Go.Proofs.YtllibjejncelhaaGreatDoor
open Go Go.RowKit Go.Proofs.Tryz
section
open Go Go.RowKit
attribute [local irreducible] ewp owp hwp hwq hws Ev Evg Fn T9 V1 U8 U4
attribute [local irreducible] hwx V7
instance:TMap prog 148 3 22:=⟨underlying148⟩
instance:TKey prog 3 Int:=⟨underlying3⟩
instance:TMap prog 168 3 172:=⟨underlying168⟩
structure Job where
  name:ByteArray
  dur:Int
  start:List Fct
  over:List Fct
  fin:List Fct
  atStart:List Fct
  atEnd:List Fct
instance:Rp Job where
  isAgg:=true
  size:=7
  R w F cs x:=∃ v0 a b c d,cs=[.string x.name,.int .i64 x.dur,v0,a,b,c,d]/\Vb w F v0 x.start/\Vb w F a x.over/\Vb w F b x.fin/\Vb w F c x.atStart/\Vb w F d x.atEnd/\x.name.size<=9223372036854775807/\T3 x.dur
  len:=by rintro w F cs x ⟨v0,a,b,c,d,rfl,h0,h1,h2,h3,h4,h5,h6⟩;rfl
  one:=by rintro w F cs x ⟨v0,a,b,c,d,rfl,h0,h1,h2,h3,h4,h5,h6⟩ u hu;simp at hu;rcases hu with rfl|rfl|rfl|rfl|rfl|rfl|rfl<;>first|rfl|exact Vb.one rfl (by assumption)
  agree:=by rintro w w' F cs x ⟨v0,a,b,c,d,rfl,h0,h1,h2,h3,h4,h5,h6⟩ ha;exact ⟨v0,a,b,c,d,rfl,h0.agree ha,h1.agree ha,h2.agree ha,h3.agree ha,h4.agree ha,h5,h6⟩
  mono:=by rintro w F G cs x ⟨v0,a,b,c,d,rfl,h0,h1,h2,h3,h4,h5,h6⟩ ha;exact ⟨v0,a,b,c,d,rfl,h0.mono ha,h1.mono ha,h2.mono ha,h3.mono ha,h4.mono ha,h5,h6⟩
instance:El Job λ o n w O x G=>∀ (j:Option Addr) (l:Nat) (a:Option Addr) (b:Nat) (c:Option Addr) (d:Nat) (e:Option Addr) (f:Nat) (g:Option Addr) (i:Nat),x.name.size<=9223372036854775807->T3 x.dur->Al o (.V (.slice j x.start.length l) x.start :: .V (.slice a x.over.length b) x.over :: .V (.slice c x.fin.length d) x.fin :: .V (.slice e x.atStart.length f) x.atStart :: .V (.slice g x.atEnd.length i) x.atEnd :: .V (.agg #[(.string x.name),(.int .i64 x.dur),(.slice j x.start.length l),(.slice a x.over.length b),(.slice c x.fin.length d),(.slice e x.atStart.length f),(.slice g x.atEnd.length i)]) x :: n) w O->G (.agg #[(.string x.name),(.int .i64 x.dur),(.slice j x.start.length l),(.slice a x.over.length b),(.slice c x.fin.length d),(.slice e x.atStart.length f),(.slice g x.atEnd.length i)]):=⟨λ p h k=>by
  have m:=h;unfold Vb at m;obtain ⟨cs,rfl,v1,v2,v3,v4,v5,rfl,h6,h9,h12,h15,h18,z21,r22⟩:=m;obtain ⟨j,l,rfl⟩:=h6.form;obtain ⟨a,b,rfl⟩:=h9.form;obtain ⟨c,d,rfl⟩:=h12.form;obtain ⟨e,f,rfl⟩:=h15.form;obtain ⟨g,i,rfl⟩:=h18.form;exact k j l a b c d e f g i z21 r22 ⟨h6,h9,h12,h15,h18,h,p⟩⟩
instance:Ec Job λ t p w O i b o x G=>∀ (m:Option Addr) (n:Nat) (a:Option Addr) (c:Nat) (d:Option Addr) (e:Nat) (f:Option Addr) (g:Nat) (j:Option Addr) (l:Nat),x.name.size<=9223372036854775807->T3 x.dur->Al t (.C i b o [(.string x.name),(.int .i64 x.dur),(.slice m x.start.length n),(.slice a x.over.length c),(.slice d x.fin.length e),(.slice f x.atStart.length g),(.slice j x.atEnd.length l)] :: .V (.slice m x.start.length n) x.start :: .V (.slice a x.over.length c) x.over :: .V (.slice d x.fin.length e) x.fin :: .V (.slice f x.atStart.length g) x.atStart :: .V (.slice j x.atEnd.length l) x.atEnd :: .V (.agg #[(.string x.name),(.int .i64 x.dur),(.slice m x.start.length n),(.slice a x.over.length c),(.slice d x.fin.length e),(.slice f x.atStart.length g),(.slice j x.atEnd.length l)]) x :: p) w O->G:=⟨λ {_ _ _ _ _ _ _ x _ _} u q hc h k=>by
  have r:=Vb.ofAgg (x:=x) rfl h;obtain ⟨s,v2,v3,v4,v5,rfl,h6,h9,h12,h15,h18,z21,r22⟩:=h;obtain ⟨m,n,rfl⟩:=h6.form;obtain ⟨a,c,rfl⟩:=h9.form;obtain ⟨d,e,rfl⟩:=h12.form;obtain ⟨f,g,rfl⟩:=h15.form;obtain ⟨j,l,rfl⟩:=h18.form;exact k m n a c d e f g j l z21 r22 ⟨⟨q,hc⟩,h6,h9,h12,h15,h18,r,u⟩⟩
structure Tpl where
  vars:List Int
  init:List Int
  goal:List Fct
  jobs:List Job
instance:Rp Tpl where
  isAgg:=true
  size:=4
  R w F cs x:=∃ v0 a b c,cs=[v0,a,b,c]/\Vb w F v0 x.vars/\Vb w F a x.init/\Vb w F b x.goal/\Vb w F c x.jobs
  len:=by rintro w F cs x ⟨v0,a,b,c,rfl,h0,h1,h2,h3⟩;rfl
  one:=by rintro w F cs x ⟨v0,a,b,c,rfl,h0,h1,h2,h3⟩ u hu;simp at hu;rcases hu with rfl|rfl|rfl|rfl<;>first|rfl|exact Vb.one rfl (by assumption)
  agree:=by rintro w w' F cs x ⟨v0,a,b,c,rfl,h0,h1,h2,h3⟩ ha;exact ⟨v0,a,b,c,rfl,h0.agree ha,h1.agree ha,h2.agree ha,h3.agree ha⟩
  mono:=by rintro w F G cs x ⟨v0,a,b,c,rfl,h0,h1,h2,h3⟩ ha;exact ⟨v0,a,b,c,rfl,h0.mono ha,h1.mono ha,h2.mono ha,h3.mono ha⟩
instance:El Tpl λ m l w O x G=>∀ (f:Option Addr) (g:Nat) (i:Option Addr) (a:Nat) (b:Option Addr) (c:Nat) (d:Option Addr) (e:Nat),Al m (.V (.slice f x.vars.length g) x.vars :: .V (.slice i x.init.length a) x.init :: .V (.slice b x.goal.length c) x.goal :: .V (.slice d x.jobs.length e) x.jobs :: .V (.agg #[(.slice f x.vars.length g),(.slice i x.init.length a),(.slice b x.goal.length c),(.slice d x.jobs.length e)]) x :: l) w O->G (.agg #[(.slice f x.vars.length g),(.slice i x.init.length a),(.slice b x.goal.length c),(.slice d x.jobs.length e)]):=⟨λ n h k=>by
  have j:=h;unfold Vb at j;obtain ⟨cs,rfl,v1,v2,v3,v4,rfl,h5,h8,h11,h14⟩:=j;obtain ⟨f,g,rfl⟩:=h5.form;obtain ⟨i,a,rfl⟩:=h8.form;obtain ⟨b,c,rfl⟩:=h11.form;obtain ⟨d,e,rfl⟩:=h14.form;exact k f g i a b c d e ⟨h5,h8,h11,h14,h,n⟩⟩
structure Lch where
  tm:Int
  job:Int
instance:Rp Lch where
  isAgg:=true
  size:=2
  R w F cs x:=cs=[.int .i64 x.tm,.int .i64 x.job]/\T3 x.tm/\T3 x.job
  len:=by rintro w F cs x ⟨rfl,h0,h1⟩;rfl
  one:=by rintro w F cs x ⟨rfl,h0,h1⟩ u hu;simp at hu;rcases hu with rfl|rfl<;>first|rfl|exact Vb.one rfl (by assumption)
  agree:=by rintro w w' F cs x ⟨rfl,h0,h1⟩ ha;exact ⟨rfl,h0,h1⟩
  mono:=by rintro w F G cs x ⟨rfl,h0,h1⟩ ha;exact ⟨rfl,h0,h1⟩
instance:El Lch λ c b w O x G=>T3 x.tm->T3 x.job->Al c (.V (.agg #[(.int .i64 x.tm),(.int .i64 x.job)]) x :: b) w O->G (.agg #[(.int .i64 x.tm),(.int .i64 x.job)]):=⟨λ d h k=>by
  have a:=h;unfold Vb at a;obtain ⟨cs,rfl,rfl,r1,r2⟩:=a;exact k r1 r2 ⟨h,d⟩⟩
instance:Ec Lch λ e a w O i b o x G=>T3 x.tm->T3 x.job->Al e (.C i b o [(.int .i64 x.tm),(.int .i64 x.job)] :: .V (.agg #[(.int .i64 x.tm),(.int .i64 x.job)]) x :: a) w O->G:=⟨λ {_ _ _ _ _ _ _ x _ _} f c hc h k=>by
  have d:=Vb.ofAgg (x:=x) rfl h;obtain ⟨rfl,r1,r2⟩:=h;exact k r1 r2 ⟨⟨c,hc⟩,d,f⟩⟩
structure Hap where
  job:Int
  fin:Bool
instance:Rp Hap where
  isAgg:=true
  size:=2
  R w F cs x:=cs=[.int .i64 x.job,.bool x.fin]/\T3 x.job
  len:=by rintro w F cs x ⟨rfl,h0⟩;rfl
  one:=by rintro w F cs x ⟨rfl,h0⟩ u hu;simp at hu;rcases hu with rfl|rfl<;>first|rfl|exact Vb.one rfl (by assumption)
  agree:=by rintro w w' F cs x ⟨rfl,h0⟩ ha;exact ⟨rfl,h0⟩
  mono:=by rintro w F G cs x ⟨rfl,h0⟩ ha;exact ⟨rfl,h0⟩
instance:El Hap λ c b w O x G=>T3 x.job->Al c (.V (.agg #[(.int .i64 x.job),(.bool x.fin)]) x :: b) w O->G (.agg #[(.int .i64 x.job),(.bool x.fin)]):=⟨λ d h k=>by
  have a:=h;unfold Vb at a;obtain ⟨cs,rfl,rfl,r1⟩:=a;exact k r1 ⟨h,d⟩⟩
instance:Ec Hap λ e a w O i b o x G=>T3 x.job->Al e (.C i b o [(.int .i64 x.job),(.bool x.fin)] :: .V (.agg #[(.int .i64 x.job),(.bool x.fin)]) x :: a) w O->G:=⟨λ {_ _ _ _ _ _ _ x _ _} f c hc h k=>by
  have d:=Vb.ofAgg (x:=x) rfl h;obtain ⟨rfl,r1⟩:=h;exact k r1 ⟨⟨c,hc⟩,d,f⟩⟩
noncomputable def Eg (f:Tpl):Option (List (List Fct)) :=
  bnd (rng (ρ:=(List (List Fct))) (λ (g:Nat) (a:Job) (c:(List (List Fct)))=>bnd (T5 24 c [a.start,a.over,a.fin,a.atStart,a.atEnd]) λ d=>some (.next d)) f.jobs 0 [f.goal]) λ b=>fin b λ (e:(List (List Fct)))=>some e
section
attribute [local irreducible] Vb Lc Rw Ob
theorem Pu {w:World} {A:Nat->Prop} (hA:∀ k,A k->k < w.heap.size) {a:Value} {d:Tpl} (g:Vb w A a d) {n:(List (List Fct))} (hm:Eg d=some n) :
    Fn prog 50 [a] w λ v w'=>Ext w w'/\Vb w' (upA A w w') v n:=by
 obtain ⟨_,_,_⟩:=CP hA;apply Ct g;intros;refine AH func50 rfl ntmps50 ?_;unfold Eg at hm;refine Ah (Ae (Do 2 ?_));intros;refine Au rfl (o_z (Ah (Ae (AD rfl (AW ?_)))));refine DC 3 ([d.goal]:List (List Fct)) ?_;intros;refine Au rfl (o_z (Ah (Ah (Ae (AD rfl (AW (AT rfl (Ar rfl (o_z ?_)))))))));refine Df (X:=(Option Addr×Nat)) hm [10] [] [3,4] [] (λ _ _ c e t=>(3,sv e c) :: t) (λ _ _ c e t=>fR 3 23 e c :: t) (_,_) ?_ ?_
 ·intro h b c _ _ _ _ f i _ j;intros;refine Ah (Ae (CZ ?_));intros;refine FL ?_;refine BO 4 ?_;intros;refine Bf ?_;intros;refine o_z (Ae (Ar rfl (AD rfl (AW (AD rfl ?_)))));refine AW (AD rfl ?_);refine AW (AD rfl ?_);refine AW (AD rfl ?_);refine AW ?_;refine DC 5 ([b.start,b.over,b.fin,b.atStart,b.atEnd]:List (List Fct)) ?_;intros;obtain ⟨l,h0,f⟩:=bs f;refine Dp h0 ?_;intros;refine Au rfl (o_z ?_);exact Cl (_,_) f
 intro m _ _ _ _ hm;intros;refine Bu ?_;refine Ah (Ae (Ar rfl (Au rfl (o_z (AE (Gz 3 ?_))))));intros;obtain rfl:=sm hm;exact Cb
end
noncomputable def Ey (a:List Fct):Option Bool :=
  bnd (if 64 < (a.length:Int) then (some true) else (some false):Option Bool) λ b=>some b
section
attribute [local irreducible] Vb Lc Rw Ob
theorem Nl {w:World} {A:Nat->Prop} (hA:∀ k,A k->k < w.heap.size) {b:Value} {e:List Fct} (f:Vb w A b e) {g:Bool} (hm:Ey e=some g) :
    Fn prog 52 [b] w λ v w'=>Ext w w'/\Vb w' (upA A w w') v g:=by
 obtain ⟨_,_,_⟩:=CP hA;apply Ct f;intros;refine AH func52 rfl ntmps52 ?_;unfold Ey at hm;refine Ah (Ae (Au rfl (o_z (Ah (Ck (X:=Unit) hm [] [] [] [] (λ _ _ c _ t=>(2,.bool c) :: t) (λ _ _ _ _ t=>t) ?_ ?_)))))
 ·intro c a;refine Ae (Ar rfl (AT rfl (Cw rfl rfl (λ d=>?_) λ d=>?_)))
  ·replace a:=ip a d;refine Au rfl (o_z ?_);obtain rfl:=sm a;exact AV ()
  replace a:=im a d;refine Au rfl (o_z ?_);obtain rfl:=sm a;exact AV ()
 intro c _ _ _ _ hm;intros;refine Bu ?_;refine AE ?_;obtain rfl:=sm hm;exact Cb
end
noncomputable def Bp (e:List (List Fct)):Option Int :=
  bnd (rng (ρ:=Int) (λ (b:Nat) (c:List Fct) (g:Unit)=>bnd (Ey c) λ d=>if d=true then some (.ret (b:Int)) else some (.next ())) e 0 ()) λ a=>fin a λ (f:Unit)=>some (-1)
section
attribute [local irreducible] Vb Lc Rw Ob
theorem Fl {w:World} {A:Nat->Prop} (hA:∀ k,A k->k < w.heap.size) {b:Value} {c:List (List Fct)} (d:Vb w A b c) {n:Int} (hm:Bp c=some n) :
    Fn prog 94 [b,(.func (.func 52) #[] #[])] w λ v w'=>Ext w w'/\Vb w' (upA A w w') v n:=by
 obtain ⟨_,_,_⟩:=CP hA;apply Ct d;intros;refine AH func94 rfl ntmps94 ?_;unfold Bp at hm;refine Ah (Ae (Au rfl (o_z (Ah (Ah (Ae (Ar rfl (AT rfl (Ar rfl (o_z (Df (X:=Unit) hm [0,1] [] [] [] (λ _ _ _ _ t=>t) (λ _ _ _ _ t=>t) () ?_ ?_)))))))))))
 ·intro g i j _ _ _ _ a l _ e;intros;refine Ah (Ae (Ar rfl (Au rfl (o_z (Ah (Ae (Ar rfl (Ar rfl (Ar rfl (CZ ?_))))))))));intros;refine En ?_;obtain ⟨f,f0,a⟩:=bs a;refine AbR rfl rfl (Nl (λ _ h=>h) zA f0) ?_;intros;cases f
  case false =>
   replace a:=iF a;refine o_z (Aj rfl (AK ?_));exact Cl () a
  replace a:=iT a;refine o_z (Am rfl (Ah (Ae (Ar rfl (Au rfl (o_z (AE ?_)))))));obtain rfl:=sm a;obtain rfl:=e _ rfl;exact Cb
 intro m _ _ _ _ hm;intros;refine Bu ?_;refine Ah (Ae (Au rfl (o_z (AE ?_))));obtain rfl:=sm hm;exact Cb
end
noncomputable def AZ (b:List (List Fct)):Option Bool :=
  bnd (bnd (Bp b) λ a=>if 0<=a then (some true) else (some false):Option Bool) λ c=>some c
section
attribute [local irreducible] Vb Lc Rw Ob
theorem ET {w:World} {A:Nat->Prop} (hA:∀ k,A k->k < w.heap.size) {b:Value} {e:List (List Fct)} (f:Vb w A b e) {i:Bool} (hm:AZ e=some i) :
    Fn prog 51 [b,(.func (.func 52) #[] #[])] w λ v w'=>Ext w w'/\Vb w' (upA A w w') v i:=by
 obtain ⟨_,_,_⟩:=CP hA;apply Ct f;intros;refine AH func51 rfl ntmps51 ?_;unfold AZ at hm;refine Ah (Ae (Au rfl (o_z (Ah (Ck (X:=Unit) hm [] [] [] [] (λ _ _ c _ t=>(4,.bool c) :: t) (λ _ _ _ _ t=>t) ?_ ?_)))))
 ·intro c a;refine Ae (Ar rfl (Ar rfl ?_));obtain ⟨g,d0,a⟩:=bs a;refine Dj rfl (Fl (λ _ h=>h) zA d0) ?_;intros;refine ER rfl rfl (λ d=>?_) λ d=>?_
  ·replace a:=ip a d;refine Au rfl (o_z ?_);obtain rfl:=sm a;exact AV ()
  replace a:=im a d;refine Au rfl (o_z ?_);obtain rfl:=sm a;exact AV ()
 intro c _ _ _ _ hm;intros;refine Bu ?_;refine AE ?_;obtain rfl:=sm hm;exact Cb
end
noncomputable def Ez (c:List Fct) (d:Tpl):Option Bool :=
  bnd (bnd (HX d.vars c) λ a=>if a=true then some false else some true:Option Bool) λ b=>some b
theorem Nm {w:World} {A:Nat->Prop} (hA:∀ k,A k->k < w.heap.size) {d:Value} {j:List Fct} (l:Vb w A d j) {a:Nat} {b:List Value} {m:Tpl} (e:Blk w a 26 b) (f:A a) (c:Rp.R w A b m) {G:Bool} (hm:Ez j m=some G) :
    Fn prog 54 [d,(.pointer (some ⟨a,0,none⟩))] w λ v w'=>Ext w w'/\Vb w' (upA A w w') v G:=by
 obtain ⟨O,hB,d0⟩:=enter hA;have g:Lc 0 w O a 26 b:=⟨e,(d0 a f).2⟩;replace c:=Rp.mono c d0;obtain ⟨t,v3,v4,v5,rfl,h6,h9,f0,g0⟩:=c;obtain ⟨u,c8,rfl⟩:=h6.form;obtain ⟨x,n0,rfl⟩:=h9.form;obtain ⟨y,p0,rfl⟩:=f0.form;obtain ⟨z,r0,rfl⟩:=g0.form;obtain ⟨B,t0,rfl⟩:=l.form;refine AH func54 rfl ntmps54 ?_;unfold Ez at hm;refine Ah (Ae (Au rfl (o_z (Ah ?_))));obtain ⟨o,a0,hm⟩:=bs hm;refine BF (λ p w'=>∃ (q:Unit) (r:Lab),T7 p [(3,(.bool o))]/\Bs w A w' r) ?_ ?_
 ·refine Ae (AD rfl (AQ (hc:=Blk.cell (i:=0) (g.1) rfl) rfl (Ar rfl ?_)));obtain ⟨s,k0,a0⟩:=bs a0;refine Bv (O:=O) (SJ (λ _ h=>h) (vMo h6) (Vb.mono (F:=Fr 0 w O) (l.zs hA hB) Fr.lt) k0) rfl λ C v0 D n l0=>?_;obtain rfl:=l0.bool;cases s
  case false =>
   replace a0:=iF a0;refine EF rfl (Au rfl (o_z ?_));obtain rfl:=sm a0;exact ⟨(),_,⟨rfl,trivial⟩,hB.st n⟩
  replace a0:=iT a0;refine EE rfl (Au rfl (o_z ?_));obtain rfl:=sm a0;exact ⟨(),_,⟨rfl,trivial⟩,hB.st n⟩
 rintro z0 E ⟨q,b1,b0,hB⟩;refine AX _ b0 ?_;refine AE ?_;obtain rfl:=sm hm;exact U0 rfl (AF rfl) ⟨hB.ext,vBool⟩
noncomputable def Bq (e:List (List Fct)) (f:Tpl):Option Int :=
  bnd (rng (ρ:=Int) (λ (b:Nat) (c:List Fct) (g:Unit)=>bnd (Ez c f) λ d=>if d=true then some (.ret (b:Int)) else some (.next ())) e 0 ()) λ a=>fin a λ (h:Unit)=>some (-1)
theorem Fm {w:World} {A:Nat->Prop} (hA:∀ k,A k->k < w.heap.size) {i:Value} {n:List (List Fct)} (o:Vb w A i n) {b:Nat} {d:List Value} {c:Tpl} (j:Blk w b 26 d) (l:A b) (e:Rp.R w A d c) {V:Int} (hm:Bq n c=some V) :
    Fn prog 94 [i,(.func (.func 54) #[] #[(.pointer (some ⟨b,0,none⟩))])] w λ v w'=>Ext w w'/\Vb w' (upA A w w') v V:=by
 obtain ⟨O,hB,q0⟩:=enter hA;have a:Lc 0 w O b 26 d:=⟨j,(q0 b l).2⟩;replace e:=Rp.mono e q0;obtain ⟨G,v4,v5,v6,rfl,h7,d0,e0,f0⟩:=e;obtain ⟨q,c9,rfl⟩:=h7.form;obtain ⟨r,s0,rfl⟩:=d0.form;obtain ⟨s,u0,rfl⟩:=e0.form;obtain ⟨v0,w0,rfl⟩:=f0.form;obtain ⟨D,g1,rfl⟩:=o.form;refine AH func94 rfl ntmps94 ?_;unfold Bq at hm;refine Ah (Ae (Au rfl (o_z (Ah (Ah (Ae (Ar rfl (AT rfl ?_))))))));have p:=BK o.len;have H:=rngNat p;refine Ar rfl (o_z ?_);obtain ⟨z0,k0,hm⟩:=bs hm;refine Dv (X:=Unit) (n.length) k0 rfl p (λ t u=>[(0,(.slice D n.length g1)),(1,(.func (.func 54) #[] #[(.pointer (some ⟨b,0,none⟩))]))]) (λ t u w'=>∃ g:Lab,Bs w A w' g/\Lc 0 w' g b 26 [(.slice q c.vars.length c9),(.slice r c.init.length s0),(.slice s c.goal.length u0),(.slice v0 c.jobs.length w0)]/\Vb w' (Fr 0 w' g) (.slice q c.vars.length c9) c.vars/\Vb w' (Fr 0 w' g) (.slice r c.init.length s0) c.init/\Vb w' (Fr 0 w' g) (.slice s c.goal.length u0) c.goal/\Vb w' (Fr 0 w' g) (.slice v0 c.jobs.length w0) c.jobs) () ⟨O,hB,a,h7,d0,e0,f0⟩ ⟨rfl,rfl,rfl,rfl,trivial⟩ (λ _ _=>rfl) ?_ ?_
 ·rintro I J t u y K z ⟨B,hB,a,h7,d0,e0,f0⟩ a0 b0 l0;have m:=V5 z p;refine Ah (Ae (Ar rfl (Au rfl (o_z (Ah (Ae (Ar rfl (Ar rfl (Ar rfl ?_)))))))));obtain ⟨L,p1,i1,m0,n0,o0,q1,rfl,h0⟩:=(o.zs hA hB).elem' z;replace h0:=Vb.of_slice h0;obtain ⟨M,s1,rfl⟩:=h0.form;refine CN (hA:=m0) (hj:=rfl) (hlt:=n0) rfl rfl (AQ (hc:=cat0 o0) rfl ?_);obtain ⟨C,j1,a0⟩:=bs a0;refine MC (O:=B) (A:=All y) (R:=λ w' F v=>Vb w' F v C) (Nm (λ _ h=>h) (vMo h0) a.1 a.1.lt (Rp.mono (F:=Fr 0 y B) (x:=c) ⟨_,_,_,_,rfl,h7,d0,e0,f0⟩ Fr.lt) j1) rfl rfl rfl rfl λ N P Q f E=>?_;obtain rfl:=E.bool;cases C
  case false =>
   replace a0:=iF a0;refine o_z (Aj rfl (AK ?_));obtain rfl:=sm a0;exact show Exists _ from ⟨_,(),rfl,⟨rfl,rfl,rfl,rfl,trivial⟩,_,hB.st f,a.st f,h7.st f,d0.st f,e0.st f,f0.st f⟩
  replace a0:=iT a0;refine o_z (Am rfl (Ah (Ae (Ar rfl (Au rfl (o_z (AE ?_)))))));obtain rfl:=sm a0;obtain rfl:=b0 _ rfl;obtain rfl:=sm (CU hm);replace hB:=hB.st f;exact U0 rfl (AF rfl) ⟨hB.ext,(vInt m)⟩
 rintro S T ⟨U,z1,rfl,p0,a2,hB,a,h7,d0,e0,f0⟩;replace hm:=BE hm;refine AX _ p0 ?_;refine Ah (Ae (Au rfl (o_z (AE ?_))));obtain rfl:=sm hm;exact U0 rfl (AF rfl) ⟨hB.ext,(vInt (T8 (-1)))⟩
noncomputable def Ba (c:List (List Fct)) (d:Tpl):Option Bool :=
  bnd (bnd (Bq c d) λ a=>if 0<=a then (some true) else (some false):Option Bool) λ b=>some b
theorem EU {w:World} {A:Nat->Prop} (hA:∀ k,A k->k < w.heap.size) {e:Value} {l:List (List Fct)} (m:Vb w A e l) {a:Nat} {b:List Value} {i:Tpl} (f:Blk w a 26 b) (g:A a) (c:Rp.R w A b i) {I:Bool} (hm:Ba l i=some I) :
    Fn prog 51 [e,(.func (.func 54) #[] #[(.pointer (some ⟨a,0,none⟩))])] w λ v w'=>Ext w w'/\Vb w' (upA A w w') v I:=by
 obtain ⟨O,hB,e0⟩:=enter hA;have d:Lc 0 w O a 26 b:=⟨f,(e0 a g).2⟩;replace c:=Rp.mono c e0;obtain ⟨t,v4,v5,v6,rfl,h7,f0,g0,h0⟩:=c;obtain ⟨u,c9,rfl⟩:=h7.form;obtain ⟨y,o0,rfl⟩:=f0.form;obtain ⟨z,q0,rfl⟩:=g0.form;obtain ⟨B,s0,rfl⟩:=h0.form;obtain ⟨C,u0,rfl⟩:=m.form;refine AH func51 rfl ntmps51 ?_;unfold Ba at hm;refine Ah (Ae (Au rfl (o_z (Ah ?_))));obtain ⟨o,a0,hm⟩:=bs hm;refine BF (λ p w'=>∃ (q:Unit) (r:Lab),T7 p [(4,(.bool o))]/\Bs w A w' r) ?_ ?_
 ·refine Ae (Ar rfl (Ar rfl ?_));obtain ⟨v0,l0,a0⟩:=bs a0;refine Bv (O:=O) (Fm (λ _ h=>h) (Vb.mono (F:=Fr 0 w O) (m.zs hA hB) Fr.lt) d.1 d.1.lt (Rp.mono (F:=Fr 0 w O) (x:=i) ⟨_,_,_,_,rfl,h7,f0,g0,h0⟩ Fr.lt) l0) rfl λ D z0 E n s=>?_;obtain ⟨rfl,b1⟩:=s.int;refine ER rfl rfl (λ j=>?_) λ j=>?_
  ·replace a0:=ip a0 j;refine Au rfl (o_z ?_);obtain rfl:=sm a0;exact ⟨(),_,⟨rfl,trivial⟩,hB.st n⟩
  replace a0:=im a0 j;refine Au rfl (o_z ?_);obtain rfl:=sm a0;exact ⟨(),_,⟨rfl,trivial⟩,hB.st n⟩
 rintro G H ⟨q,e1,c0,hB⟩;refine AX _ c0 ?_;refine AE ?_;obtain rfl:=sm hm;exact U0 rfl (AF rfl) ⟨hB.ext,vBool⟩
noncomputable def Dt (a:ByteArray):Option Bool :=
  bnd (rngN (ρ:=Bool) (λ (f:Nat) (h:Unit)=>bnd (bnd (Z8 a (f:Int)) λ b=>if b < 32 then (some true) else (bnd (Z8 a (f:Int)) λ c=>if 126 < c then (some true) else (some false)):Option Bool) λ d=>if d=true then (some (.ret false)) else (some (.next ()))) a.size ()) λ res3=>fin res3 λ (g:Unit)=>bnd (if (a.size:Int)<=256 then (some true) else (some false):Option Bool) λ e=>some e
theorem Pv {w:World} {A:Nat->Prop} (hA:∀ k,A k->k < w.heap.size) {a:ByteArray} (b:a.size<=9223372036854775807) {J:Bool} (hm:Dt a=some J) :
    Fn prog 56 [(.string a)] w λ v w'=>Ext w w'/\Vb w' (upA A w w') v J:=by
 obtain ⟨O,hB,w0⟩:=enter hA;refine AH func56 rfl ntmps56 ?_;unfold Dt at hm;refine Ah (Ae (Au rfl (o_z (Ah (Ah (Ae (Ar rfl (Ny rfl ?_))))))));have h:T3 (a.size:Int):=rngNat b;refine Ar rfl (o_z ?_);obtain ⟨r,q0,hm⟩:=bs hm;refine NB (X:=Unit) (a.size) q0 (rngNat' h) (λ i j=>[(0,(.string a))]) (λ i j w'=>∃ c:Lab,Bs w A w' c) () ⟨O,hB⟩ ⟨rfl,rfl,rfl,trivial⟩ (λ _ _=>rfl) ?_ ?_
 ·rintro l i j s t m ⟨u,hB⟩ b0 d0 f0;have n:=Ac6 m (rngNat' h);refine Ah (Ae (Ar rfl (Au rfl (o_z (Ah ?_)))));obtain ⟨o,a0,b0⟩:=bs b0;refine BF (λ d w'=>∃ (p:Unit) (c:Lab),T7 d [(0,(.string a)),(5,(.int .i64 (a.size:Int))),(6,(.int .i64 (l:Int))),(18,(.bool o))]/\Bs w A w' c) ?_ ?_
  ·refine Ae (Ar rfl (Ar rfl ?_));obtain ⟨z0,n0,a0⟩:=bs a0;have x:=KS n0;refine Sd (he:=n0) rfl rfl rfl (Eb rfl rfl (λ e=>?_) λ e=>?_)
   ·replace a0:=ip a0 e;refine Ar rfl (Aw rfl rfl (Aw rfl rfl (Aw rfl rfl (Aw rfl rfl (Bt rfl rfl (o_z ?_))))));obtain rfl:=sm a0;exact ⟨(),_,⟨rfl,rfl,rfl,rfl,trivial⟩,hB⟩
   replace a0:=im a0 e;refine Ar rfl (Az rfl rfl (Ar rfl (Az rfl rfl (Ar rfl (Az rfl rfl ?_)))));obtain ⟨y,o0,a0⟩:=bs a0;have z:=KS o0;refine Sd (he:=o0) rfl rfl rfl (Az rfl rfl (Cw rfl rfl (λ f=>?_) λ f=>?_))
   ·replace a0:=ip a0 f;refine Bd rfl rfl (o_z ?_);obtain rfl:=sm a0;exact ⟨(),_,⟨rfl,rfl,rfl,rfl,trivial⟩,hB⟩
   replace a0:=im a0 f;refine Bd rfl rfl (o_z ?_);obtain rfl:=sm a0;exact ⟨(),_,⟨rfl,rfl,rfl,rfl,trivial⟩,hB⟩
  rintro B C ⟨p,f1,i0,hB⟩;refine AX _ i0 ?_;refine BH rfl (λ g=>?_) (λ g=>?_)
  ·replace b0:=ip b0 g;refine Ah (Ae (Au rfl (o_z (AE ?_))));obtain rfl:=sm b0;obtain rfl:=d0 _ rfl;obtain rfl:=sm (CU hm);exact U0 rfl (AF rfl) ⟨hB.ext,vBool⟩
  replace b0:=im' b0 g;refine AK ?_;obtain rfl:=sm b0;exact show Exists _ from ⟨_,(),rfl,⟨rfl,rfl,rfl,trivial⟩,_,hB⟩
 rintro D E ⟨F,j1,rfl,k0,k1,hB⟩;replace hm:=BE hm;refine AX _ k0 ?_;refine Ah ?_;obtain ⟨q,c0,hm⟩:=bs hm;refine BF (λ d w'=>∃ (v0:Unit) (c:Lab),T7 d [(2,(.bool q))]/\Bs w A w' c) ?_ ?_
 ·refine Ae (Ar rfl (Ny rfl ?_));have G:T3 (a.size:Int):=rngNat b;refine Om rfl rfl rfl (λ l0=>?_) λ l0=>?_
  ·replace c0:=ip c0 l0;refine Au rfl (o_z ?_);obtain rfl:=sm c0;exact ⟨(),_,⟨rfl,trivial⟩,hB⟩
  replace c0:=im c0 l0;refine Au rfl (o_z ?_);obtain rfl:=sm c0;exact ⟨(),_,⟨rfl,trivial⟩,hB⟩
 rintro H I ⟨v0,o1,m0,hB⟩;refine AX _ m0 ?_;refine AE ?_;obtain rfl:=sm hm;exact U0 rfl (AF rfl) ⟨hB.ext,vBool⟩
noncomputable def Eh (a:Tpl):Option Err :=
  bnd (Eg a) λ f=>bnd (if 64 < (a.vars.length:Int) then (some true) else (if 24 < (a.jobs.length:Int) then (some true) else (bnd (AZ f) λ n=>if n=true then some true else some false)):Option Bool) λ o=>if o=true then (some (⟨5⟩:Err)) else (bnd (rng (ρ:=Err) (λ (w:Nat) (g:Int) (x:Unit)=>bnd (if g < 1 then (some true) else (if 64 < g then (some true) else (some false)):Option Bool) λ p=>if p=true then (some (.ret (⟨1⟩:Err))) else (some (.next ()))) a.vars 0 ()) λ d=>fin d λ (y:Unit)=>bnd (rng (ρ:=Err) (λ (q:Nat) (c:Job) (r:Unit)=>bnd (if c.dur < 1 then (some true) else (if 62 < c.dur then (some true) else (some false)):Option Bool) λ h=>if h=true then (some (.ret (⟨1⟩:Err))) else (some (.next ()))) a.jobs 0 ()) λ e=>fin e λ (s:Unit)=>bnd (bnd (Hw a.vars a.init) λ i=>if i=true then bnd (Ba f a) λ j=>if j=true then some true else some false else some true:Option Bool) λ k=>if k=true then (some (⟨2⟩:Err)) else (bnd (rng (ρ:=Err) (λ (t:Nat) (l:Job) (u:Unit)=>bnd (Dt l.name) λ m=>if m=true then some (.next ()) else some (.ret (⟨8⟩:Err))) a.jobs 0 ()) λ b=>fin b λ (v:Unit)=>some (⟨0⟩:Err)))
theorem La {w:World} {A:Nat->Prop} (hA:∀ k,A k->k < w.heap.size) {vx0:Value} {x0:Tpl} (j4:Vb w A vx0 x0) {r:Err} (hm:Eh x0=some r) :
    Fn prog 17 [vx0] w λ v w'=>Ext w w'/\Vb w' (upA A w w') v r:=by
 obtain ⟨O,hB,h8⟩:=enter hA;obtain ⟨i8,rfl,v3,v4,v5,v6,rfl,h7,m2,k4,z0⟩:=id j4;obtain ⟨A8,c9,rfl⟩:=h7.form;obtain ⟨j1,k1,rfl⟩:=m2.form;obtain ⟨l1,m1,rfl⟩:=k4.form;obtain ⟨q0,r0,rfl⟩:=z0.form;refine AH func17 rfl ntmps17 ?_;unfold Eh at hm;refine Ah (Ae (Fi 2 O rfl λ m0 j8 t4 u4 b0=>?_));refine Au rfl (o_z (Ah (Ae (BX (hl:=rfl) (hc:=(b0.1).cellsAt) rfl ?_))));obtain ⟨l0,w4,hm⟩:=bs hm;replace hB:=hB.st u4;refine Ii (O:=t4) (Pu Fr.lt (j4.zs hA hB) w4) rfl λ k8 l8 x4 a1 e0=>?_;obtain ⟨o0,p0,rfl⟩:=e0.form;refine Au rfl (o_z (Ah (Ah ?_)));obtain ⟨y4,c0,hm⟩:=bs hm;refine BF (λ l' w'=>∃ (z4:Unit) (O':Lab),T7 l' [(1,(.pointer (some ⟨m0,0,none⟩))),(3,(.slice o0 l0.length p0)),(25,(.bool y4))]/\Bs w A w' O'/\Lc 2 w' O' m0 26 [(.slice A8 x0.vars.length c9),(.slice j1 x0.init.length k1),(.slice l1 x0.goal.length m1),(.slice q0 x0.jobs.length r0)]/\Vb w' (Fr 0 w' O') (.slice o0 l0.length p0) l0) ?_ ?_
 ·refine Ae (AD rfl ?_);replace b0:=b0.st a1;refine AQ (hc:=Blk.cell (i:=0) (b0.1) rfl) rfl (AT rfl ?_);have a5:=BK h7.len;have m8:=rngNat a5;refine Cw rfl rfl (λ n2=>?_) λ n2=>?_
  ·replace c0:=ip c0 n2;refine Ar rfl (Aw rfl rfl (Aw rfl rfl (Aw rfl rfl (Aw rfl rfl (Bt rfl rfl (Ar rfl (Aw rfl rfl (Aw rfl rfl (Bt rfl rfl (o_z ?_))))))))));obtain rfl:=sm c0;exact ⟨(),_,⟨rfl,rfl,rfl,trivial⟩,hB.st a1,b0,e0⟩
  replace c0:=im c0 n2;refine Ar rfl (Az rfl rfl (AD rfl (Az rfl rfl (AQ (hc:=Blk.cell (i:=3) (b0.1) rfl) rfl (Az rfl rfl (AT rfl ?_))))));have b5:=BK z0.len;have n8:=rngNat b5;refine Az rfl rfl (Cw rfl rfl (λ o2=>?_) λ o2=>?_)
  ·replace c0:=ip c0 o2;refine Bd rfl rfl (Ar rfl (Aw rfl rfl (Aw rfl rfl (Bt rfl rfl (o_z ?_)))));obtain rfl:=sm c0;exact ⟨(),_,⟨rfl,rfl,rfl,trivial⟩,hB.st a1,b0,e0⟩
  replace c0:=im c0 o2;refine Bd rfl rfl (Ar rfl (Az rfl rfl (Ar rfl (Az rfl rfl ?_))));obtain ⟨c5,d5,c0⟩:=bs c0;refine Bv (O:=x4) (ET (λ _ h=>h) (vMo e0) d5) rfl λ o8 p8 q8 n1 e5=>?_;obtain rfl:=e5.bool;cases c5
  case false =>
   replace c0:=iF c0;refine Bd rfl rfl (o_z ?_);obtain rfl:=sm c0;exact ⟨(),_,⟨rfl,rfl,rfl,trivial⟩,(hB.st a1).st n1,b0.st n1,e0.st n1⟩
  replace c0:=iT c0;refine Bd rfl rfl (o_z ?_);obtain rfl:=sm c0;exact ⟨(),_,⟨rfl,rfl,rfl,trivial⟩,(hB.st a1).st n1,b0.st n1,e0.st n1⟩
 replace hB:=hB.st a1;replace b0:=b0.st a1;rintro r8 s8 ⟨z4,f5,p2,hB,b0,e0⟩;refine AX _ p2 ?_;refine BH rfl (λ q2=>?_) (λ q2=>?_)
 ·replace hm:=ip hm q2;refine Ah (Ae (Ex rfl (Au rfl (o_z (AE ?_)))));obtain rfl:=sm hm;exact U0 rfl (AF rfl) ⟨hB.ext,(vErr (by decide))⟩
 replace hm:=im' hm q2;refine AK (Ah (Ah (Ae (AD rfl (AQ (hc:=Blk.cell (i:=0) (b0.1) rfl) rfl (AT rfl ?_))))));have r2:=BK h7.len;have t8:=rngNat r2;refine Ar rfl (o_z ?_);obtain ⟨l4,s2,hm⟩:=bs hm;refine Dv (X:=Unit) (x0.vars.length) s2 rfl r2 (λ m4 n4=>[(1,(.pointer (some ⟨m0,0,none⟩))),(3,(.slice o0 l0.length p0)),(28,(.slice A8 x0.vars.length c9))]) (λ m4 n4 w'=>∃ O':Lab,Bs w A w' O'/\Lc 2 w' O' m0 26 [(.slice A8 x0.vars.length c9),(.slice j1 x0.init.length k1),(.slice l1 x0.goal.length m1),(.slice q0 x0.jobs.length r0)]/\Vb w' (Fr 0 w' O') (.slice o0 l0.length p0) l0) () ⟨f5,hB,b0,e0⟩ ⟨rfl,rfl,rfl,rfl,rfl,trivial⟩ (λ _ _=>rfl) ?_ ?_
 ·rintro g5 u8 m4 n4 v8 h5 o1 ⟨w8,hB,b0,e0⟩ k0 b1 t2;have rk61:=V5 o1 r2;refine Ah (Ae ?_);obtain ⟨x8,y8,i5,u2,v2,w2,rfl,z8⟩:=(h7.zs hA hB).elem' o1;refine CN (hA:=u2) (hj:=rfl) (hlt:=v2) rfl rfl (AQ (hc:=cat0 w2) rfl (Au rfl (o_z (Ah ?_))));obtain ⟨j5,j0,k0⟩:=bs k0;refine BF (λ l' w'=>∃ (k5:Unit) (O':Lab),T7 l' [(1,(.pointer (some ⟨m0,0,none⟩))),(3,(.slice o0 l0.length p0)),(28,(.slice A8 x0.vars.length c9)),(29,(.int .i64 (x0.vars.length:Int))),(30,(.int .i64 (g5:Int))),(39,(.bool j5))]/\Bs w A w' O'/\Lc 2 w' O' m0 26 [(.slice A8 x0.vars.length c9),(.slice j1 x0.init.length k1),(.slice l1 x0.goal.length m1),(.slice q0 x0.jobs.length r0)]/\Vb w' (Fr 0 w' O') (.slice o0 l0.length p0) l0) ?_ ?_
  ·refine Ae (Ar rfl (Eb rfl rfl (λ x2=>?_) λ x2=>?_))
   ·replace j0:=ip j0 x2;refine Ar rfl (Aw rfl rfl (Aw rfl rfl (Bt rfl rfl (o_z ?_))));obtain rfl:=sm j0;exact ⟨(),_,⟨rfl,rfl,rfl,rfl,rfl,rfl,trivial⟩,hB,b0,e0⟩
   replace j0:=im j0 x2;refine Ar rfl (Az rfl rfl (Ar rfl (Az rfl rfl (Cw rfl rfl (λ y2=>?_) λ y2=>?_))))
   ·replace j0:=ip j0 y2;refine Bd rfl rfl (o_z ?_);obtain rfl:=sm j0;exact ⟨(),_,⟨rfl,rfl,rfl,rfl,rfl,rfl,trivial⟩,hB,b0,e0⟩
   replace j0:=im j0 y2;refine Bd rfl rfl (o_z ?_);obtain rfl:=sm j0;exact ⟨(),_,⟨rfl,rfl,rfl,rfl,rfl,rfl,trivial⟩,hB,b0,e0⟩
  rintro a9 b9 ⟨k5,d9,z2,hB,b0,e0⟩;refine AX _ z2 ?_;refine BH rfl (λ a3=>?_) (λ a3=>?_)
  ·replace k0:=ip k0 a3;refine Ah (Ae (Ex rfl (Au rfl (o_z (AE ?_)))));obtain rfl:=sm k0;obtain rfl:=b1 _ rfl;obtain rfl:=sm (CU hm);exact U0 rfl (AF rfl) ⟨hB.ext,(vErr (by decide))⟩
  replace k0:=im' k0 a3;refine AK ?_;obtain rfl:=sm k0;exact show Exists _ from ⟨_,(),rfl,⟨rfl,rfl,rfl,rfl,rfl,trivial⟩,_,hB,b0,e0⟩
 rintro e9 f9 ⟨g9,h9,rfl,b3,l5,hB,b0,e0⟩;replace hm:=BE hm;refine AX _ b3 ?_;refine Ah (Ah (Ae (AD rfl (AQ (hc:=Blk.cell (i:=3) (b0.1) rfl) rfl (AT rfl ?_)))));have c3:=BK z0.len;have i9:=rngNat c3;refine Ar rfl (o_z ?_);obtain ⟨o4,p1,hm⟩:=bs hm;refine Dv (X:=Unit) (x0.jobs.length) p1 rfl c3 (λ q1 r1=>[(1,(.pointer (some ⟨m0,0,none⟩))),(3,(.slice o0 l0.length p0)),(43,(.slice q0 x0.jobs.length r0))]) (λ q1 r1 w'=>∃ O':Lab,Bs w A w' O'/\Lc 2 w' O' m0 26 [(.slice A8 x0.vars.length c9),(.slice j1 x0.init.length k1),(.slice l1 x0.goal.length m1),(.slice q0 x0.jobs.length r0)]/\Vb w' (Fr 0 w' O') (.slice o0 l0.length p0) l0) () ⟨l5,hB,b0,e0⟩ ⟨rfl,rfl,rfl,rfl,rfl,trivial⟩ (λ _ _=>rfl) ?_ ?_
 ·rintro d3 m5 q1 r1 n5 p4 w0 ⟨e3,hB,b0,e0⟩ f0 s0 k2;have rk103:=V5 w0 c3;refine Ah (Ae ?_);obtain ⟨o5,p5,q4,s1,t1,u1,q5,r5,s5,t5,u5,rfl,f3,g3,h3,i3,j3,w5,x5⟩:=(z0.zs hA hB).elem' w0;obtain ⟨y5,z5,rfl⟩:=f3.form;obtain ⟨a6,b6,rfl⟩:=g3.form;obtain ⟨c6,d6,rfl⟩:=h3.form;obtain ⟨e6,f6,rfl⟩:=i3.form;obtain ⟨g6,h6,rfl⟩:=j3.form;refine CN (hA:=s1) (hj:=rfl) (hlt:=t1) rfl rfl (BX (hl:=rfl) (hc:=u1) rfl ?_);refine Bw 3 e3 λ i6 j6 k6 h0 t0=>?_;refine AR t0 rfl rfl rfl (AY) (allOne) λ l6 i0 t0=>?_;refine o_z (Ah ?_);obtain ⟨k3,d0,f0⟩:=bs f0;refine BF (λ l' w'=>∃ (l3:Unit) (O':Lab),T7 l' [(1,(.pointer (some ⟨m0,0,none⟩))),(3,(.slice o0 l0.length p0)),(43,(.slice q0 x0.jobs.length r0)),(44,(.int .i64 (x0.jobs.length:Int))),(45,(.int .i64 (d3:Int))),(56,(.bool k3))]/\Bs w A w' O'/\Lc 2 w' O' m0 26 [(.slice A8 x0.vars.length c9),(.slice j1 x0.init.length k1),(.slice l1 x0.goal.length m1),(.slice q0 x0.jobs.length r0)]/\Vb w' (Fr 0 w' O') (.slice o0 l0.length p0) l0) ?_ ?_
  ·refine Ae (AD rfl (AQ (hc:=Blk.cell (i:=1) (t0.1) rfl) rfl (Eb rfl rfl (λ c1=>?_) λ c1=>?_)))
   ·replace d0:=ip d0 c1;refine Ar rfl (Aw rfl rfl (Aw rfl rfl (Aw rfl rfl (Bt rfl rfl (o_z ?_)))));obtain rfl:=sm d0;exact ⟨(),_,⟨rfl,rfl,rfl,rfl,rfl,rfl,trivial⟩,(hB.st h0).st i0,(b0.st h0).st i0,(e0.st h0).st i0⟩
   replace d0:=im d0 c1;refine Ar rfl (Az rfl rfl (AD rfl (Az rfl rfl (AQ (hc:=Blk.cell (i:=1) (t0.1) rfl) rfl (Az rfl rfl (Cw rfl rfl (λ d1=>?_) λ d1=>?_))))))
   ·replace d0:=ip d0 d1;refine Bd rfl rfl (o_z ?_);obtain rfl:=sm d0;exact ⟨(),_,⟨rfl,rfl,rfl,rfl,rfl,rfl,trivial⟩,(hB.st h0).st i0,(b0.st h0).st i0,(e0.st h0).st i0⟩
   replace d0:=im d0 d1;refine Bd rfl rfl (o_z ?_);obtain rfl:=sm d0;exact ⟨(),_,⟨rfl,rfl,rfl,rfl,rfl,rfl,trivial⟩,(hB.st h0).st i0,(b0.st h0).st i0,(e0.st h0).st i0⟩
  replace hB:=(hB.st h0).st i0;replace b0:=(b0.st h0).st i0;replace e0:=(e0.st h0).st i0;rintro m6 n6 ⟨l3,o6,v1,hB,b0,e0⟩;refine AX _ v1 ?_;refine BH rfl (λ e1=>?_) (λ e1=>?_)
  ·replace f0:=ip f0 e1;refine Ah (Ae (Ex rfl (Au rfl (o_z (AE ?_)))));obtain rfl:=sm f0;obtain rfl:=s0 _ rfl;obtain rfl:=sm (CU hm);exact U0 rfl (AF rfl) ⟨hB.ext,(vErr (by decide))⟩
  replace f0:=im' f0 e1;refine AK ?_;obtain rfl:=sm f0;exact show Exists _ from ⟨_,(),rfl,⟨rfl,rfl,rfl,rfl,rfl,trivial⟩,_,hB,b0,e0⟩
 rintro p6 w1 ⟨q6,r6,rfl,x1,f1,hB,b0,e0⟩;replace hm:=BE hm;refine AX _ x1 ?_;refine Ah (Ah ?_);obtain ⟨m3,a0,hm⟩:=bs hm;refine BF (λ l' w'=>∃ (n3:Unit) (O':Lab),T7 l' [(1,(.pointer (some ⟨m0,0,none⟩))),(69,(.bool m3))]/\Bs w A w' O'/\Lc 2 w' O' m0 26 [(.slice A8 x0.vars.length c9),(.slice j1 x0.init.length k1),(.slice l1 x0.goal.length m1),(.slice q0 x0.jobs.length r0)]) ?_ ?_
 ·refine Ae (AD rfl (AQ (hc:=Blk.cell (i:=0) (b0.1) rfl) rfl (AD rfl (AQ (hc:=Blk.cell (i:=1) (b0.1) rfl) rfl ?_))));obtain ⟨o3,p3,a0⟩:=bs a0;refine Bv (O:=f1) (RM (λ _ h=>h) (Vb.mono (F:=Fr 0 w1 f1) (h7.zs hA hB) Fr.lt) (Vb.mono (F:=Fr 0 w1 f1) (m2.zs hA hB) Fr.lt) p3) rfl λ s6 q3 y1 n0 r3=>?_;obtain rfl:=r3.bool;cases o3
  case false =>
   replace a0:=iF a0;refine EF rfl (Ar rfl (Aw rfl rfl (Aw rfl rfl (Aw rfl rfl (Bt rfl rfl (o_z ?_))))));obtain rfl:=sm a0;exact ⟨(),_,⟨rfl,rfl,trivial⟩,hB.st n0,b0.st n0⟩
  replace a0:=iT a0;refine EE rfl (Ar rfl (Az rfl rfl (Ar rfl (Az rfl rfl (Ss rfl rfl rfl (Az rfl rfl ?_))))));obtain ⟨s3,t3,a0⟩:=bs a0;replace hB:=hB.st n0;replace b0:=b0.st n0;replace e0:=e0.st n0;refine Bv (O:=y1) (EU (λ _ h=>h) (vMo e0) b0.1 b0.1.lt (Rp.mono (F:=Fr 0 q3 y1) (x:=x0) ⟨_,_,_,_,rfl,(h7.zs hA hB),(m2.zs hA hB),(k4.zs hA hB),(z0.zs hA hB)⟩ Fr.lt) t3) rfl λ t6 u6 w6 u0 u3=>?_;obtain rfl:=u3.bool;cases s3
  case false =>
   replace a0:=iF a0;refine Bd rfl rfl (o_z ?_);obtain rfl:=sm a0;exact ⟨(),_,⟨rfl,rfl,trivial⟩,hB.st u0,b0.st u0⟩
  replace a0:=iT a0;refine Bd rfl rfl (o_z ?_);obtain rfl:=sm a0;exact ⟨(),_,⟨rfl,rfl,trivial⟩,hB.st u0,b0.st u0⟩
 rintro x6 y6 ⟨n3,w3,z1,hB,b0⟩;refine AX _ z1 ?_;refine BH rfl (λ g1=>?_) (λ g1=>?_)
 ·replace hm:=ip hm g1;refine Ah (Ae (Ex rfl (Au rfl (o_z (AE ?_)))));obtain rfl:=sm hm;exact U0 rfl (AF rfl) ⟨hB.ext,(vErr (by decide))⟩
 replace hm:=im' hm g1;refine AK (Ah (Ah (Ae (AD rfl (AQ (hc:=Blk.cell (i:=3) (b0.1) rfl) rfl (AT rfl ?_))))));have h1:=BK z0.len;have z6:=rngNat h1;refine Ar rfl (o_z ?_);obtain ⟨x3,a2,hm⟩:=bs hm;refine Dv (X:=Unit) (x0.jobs.length) a2 rfl h1 (λ b2 c2=>[(72,(.slice q0 x0.jobs.length r0))]) (λ b2 c2 w'=>∃ O':Lab,Bs w A w' O') () ⟨w3,hB⟩ ⟨rfl,rfl,rfl,trivial⟩ (λ _ _=>rfl) ?_ ?_
 ·rintro a7 b7 b2 c2 c7 r4 y0 ⟨y3,hB⟩ g0 v0 l2;have rk196:=V5 y0 h1;refine Ah (Ae ?_);obtain ⟨d7,e7,s4,d2,e2,f2,f7,g7,i7,j7,k7,rfl,z3,a4,b4,c4,d4,e4,l7⟩:=(z0.zs hA hB).elem' y0;obtain ⟨m7,n7,rfl⟩:=z3.form;obtain ⟨o7,p7,rfl⟩:=a4.form;obtain ⟨q7,r7,rfl⟩:=b4.form;obtain ⟨s7,t7,rfl⟩:=c4.form;obtain ⟨u7,v7,rfl⟩:=d4.form;refine CN (hA:=d2) (hj:=rfl) (hlt:=e2) rfl rfl (BX (hl:=rfl) (hc:=f2) rfl ?_);refine Bw 4 y3 λ w7 x7 f4 g2 i1=>?_;refine AR i1 rfl rfl rfl (AY) (allOne) λ y7 h2 i1=>?_;refine o_z (Ah (Ae (AD rfl (AQ (hc:=Blk.cell (i:=0) (i1.1) rfl) rfl ?_))));obtain ⟨g4,h4,g0⟩:=bs g0;refine Bv (O:=f4) (Pv (λ _ h=>h) e4 h4) rfl λ z7 a8 b8 i2 i4=>?_;obtain rfl:=i4.bool;cases g4
  case false =>
   replace g0:=iF g0;refine EF rfl (o_z (Am rfl (Ah (Ae (Ex rfl (Au rfl (o_z (AE ?_))))))));obtain rfl:=sm g0;obtain rfl:=v0 _ rfl;obtain rfl:=sm (CU hm);replace hB:=((hB.st g2).st h2).st i2;exact U0 rfl (AF rfl) ⟨hB.ext,(vErr (by decide))⟩
  replace g0:=iT g0;refine EE rfl (o_z (Aj rfl (AK ?_)));obtain rfl:=sm g0;exact show Exists _ from ⟨_,(),rfl,⟨rfl,rfl,rfl,trivial⟩,_,((hB.st g2).st h2).st i2⟩
 rintro c8 d8 ⟨e8,f8,rfl,j2,g8,hB⟩;replace hm:=BE hm;refine AX _ j2 ?_;refine Ah (Ae (Au rfl (o_z (AE ?_))));obtain rfl:=sm hm;exact U0 rfl (AF rfl) ⟨hB.ext,(vErr (T8 0))⟩
noncomputable def FU (e:Tpl) (f:List Lch):Option Err :=
  bnd (Eh e) λ c=>if c.n≠0 then (some (⟨c.n⟩:Err)) else (if 4096 < (f.length:Int) then (some (⟨5⟩:Err)) else (bnd (rng (ρ:=Err) (λ (g:Nat) (a:Lch) (h:Unit)=>bnd (if a.job < 0 then (some true) else (if (e.jobs.length:Int)<=a.job then (some true) else (if a.tm < 0 then (some true) else (if 1048576 < a.tm then (some true) else (some false)))):Option Bool) λ d=>if d=true then (some (.ret (⟨1⟩:Err))) else (some (.next ()))) f 0 ()) λ b=>fin b λ (i:Unit)=>some (⟨0⟩:Err)))
section
attribute [local irreducible] Vb Lc Rw Ob
theorem OH {w:World} {A:Nat->Prop} (hA:∀ k,A k->k < w.heap.size) {c:Value} {o:Tpl} (l0:Vb w A c o) {d:Value} {p:List Lch} (q:Vb w A d p) {C:Err} (hm:FU o p=some C) :
    Fn prog 85 [c,d] w λ v w'=>Ext w w'/\Vb w' (upA A w w') v C:=by
 obtain ⟨_,_,_⟩:=CP hA;apply Ct l0;intros;apply Ct q;intros;refine AH func85 rfl ntmps85 ?_;unfold FU at hm;refine Ah (Ae (Do 2 ?_));intros;refine Au rfl (o_z (Ah (Ah (Ae (EA ?_)))));obtain ⟨s,n0,hm⟩:=bs hm;refine Dj rfl (La (λ _ h=>h) zA n0) ?_;intros;refine Au rfl (o_z (Ah (Ae (Ar rfl (FA rfl (λ e=>?_) λ e=>?_)))))
 ·replace hm:=ip hm e;refine o_z (Am rfl (Ah (Ae (Ar rfl (Au rfl (o_z (AE ?_)))))));obtain rfl:=sm hm;exact Cb
 replace hm:=im hm e;refine o_z (Aj rfl (AK (Ah (Ah (Ae (Ar rfl (AT rfl (Cw rfl rfl (λ f=>?_) λ f=>?_))))))))
 ·replace hm:=ip hm f;refine o_z (Am rfl (Ah (Ae (Ex rfl (Au rfl (o_z (AE ?_)))))));obtain rfl:=sm hm;exact Cb
 replace hm:=im hm f;refine o_z (Aj rfl (AK (Ah (Ah (Ae (Ar rfl (AT rfl (Ar rfl (o_z (Df (X:=Unit) hm [2,17] [] [3] [] (λ _ _ _ _ t=>t) (λ _ _ _ _ t=>t) () ?_ ?_))))))))))
 ·intro u x y _ _ _ _ b z _ r;intros;refine Ah (Ae (CZ ?_));intros;refine FL ?_;refine BO 3 ?_;intros;refine Bf ?_;intros;refine o_z (Ah (Ck (X:=Unit) b [2,17,18,19] [] [] [] (λ _ _ g _ t=>(43,.bool g) :: t) (λ _ _ _ _ t=>t) ?_ ?_))
  ·intro g a;refine Ae (AD rfl (AW (Eb rfl rfl (λ i=>?_) λ i=>?_)))
   ·replace a:=ip a i;refine Ar rfl (Aw rfl rfl (Aw rfl rfl (Aw rfl rfl (Aw rfl rfl (Aw rfl rfl (Aw rfl rfl (Bt rfl rfl (Ar rfl (Aw rfl rfl (Aw rfl rfl (Aw rfl rfl (Bt rfl rfl (Ar rfl (Aw rfl rfl ?_))))))))))))));refine Aw rfl rfl (Aw rfl rfl (Bt rfl rfl (o_z ?_)));obtain rfl:=sm a;exact AV ()
   replace a:=im a i;refine Ar rfl (Az rfl rfl (AD rfl (Az rfl rfl (AW (Az rfl rfl (AD rfl (Az rfl rfl ?_)))))));refine AW (Az rfl rfl (AT rfl (Az rfl rfl (ER rfl rfl (λ j=>?_) λ j=>?_))))
   ·replace a:=ip a j;refine Bd rfl rfl (Ar rfl (Aw rfl rfl (Aw rfl rfl (Aw rfl rfl (Bt rfl rfl (Ar rfl (Aw rfl rfl (Aw rfl rfl (Aw rfl rfl (Bt rfl rfl (o_z ?_)))))))))));obtain rfl:=sm a;exact AV ()
   replace a:=im a j;refine Bd rfl rfl (Ar rfl (Az rfl rfl (AD rfl (Az rfl rfl (AW (Az rfl rfl (Eb rfl rfl (λ l=>?_) λ l=>?_)))))))
   ·replace a:=ip a l;refine Bd rfl rfl (Ar rfl (Aw rfl rfl (Aw rfl rfl (Aw rfl rfl (Bt rfl rfl (o_z ?_))))));obtain rfl:=sm a;exact AV ()
   replace a:=im a l;refine Bd rfl rfl (Ar rfl (Az rfl rfl (AD rfl (Az rfl rfl (AW (Az rfl rfl (Cw rfl rfl (λ m=>?_) λ m=>?_)))))))
   ·replace a:=ip a m;refine Bd rfl rfl (o_z ?_);obtain rfl:=sm a;exact AV ()
   replace a:=im a m;refine Bd rfl rfl (o_z ?_);obtain rfl:=sm a;exact AV ()
  intro g _ _ _ _ b;intros;refine Bu ?_;refine BH rfl (λ n=>?_) (λ n=>?_)
  ·replace b:=ip b n;refine Ah (Ae (Ex rfl (Au rfl (o_z (AE ?_)))));obtain rfl:=sm b;obtain rfl:=r _ rfl;exact Cb
  replace b:=im' b n;refine AK ?_;exact Cl () b
 intro B _ _ _ _ hm;intros;refine Bu ?_;refine Ah (Ae (Au rfl (o_z (AE ?_))));obtain rfl:=sm hm;exact Cb
end
noncomputable def EG (d:Tpl) (c:Lch):Option Int :=
  bnd (atI d.jobs c.job) λ a=>bnd (T4 (c.tm + a.dur)) λ b=>some b
section
attribute [local irreducible] Vb Lc Rw Ob
theorem EH {w:World} {A:Nat->Prop} (hA:∀ k,A k->k < w.heap.size) {a:Value} {c:Tpl} (e:Vb w A a c) {b:Value} {d:Lch} (f:Vb w A b d) {i:Int} (hm:EG c d=some i) :
    Fn prog 116 [a,b] w λ v w'=>Ext w w'/\Vb w' (upA A w w') v i:=by
 obtain ⟨_,_,_⟩:=CP hA;apply Ct e;intros;apply Ct f;intros;refine AH func116 rfl ntmps116 ?_;unfold EG at hm;refine Ah (Ae (Do 2 ?_));intros;refine Do 3 ?_;intros;refine Au rfl (o_z (Ah (Xn (BL (DX 0 11)) ?_)));refine AU rfl rfl (GI rfl (AU rfl rfl ?_));refine GI rfl (AU rfl rfl ?_);refine GI rfl ?_;obtain ⟨g,e0,hm⟩:=bs hm;refine Vm rfl ?_;intros;refine AU rfl rfl (Vl rfl ?_);obtain ⟨h,c0,hm⟩:=bs hm;refine MD (he:=c0) rfl rfl rfl (Ek rfl rfl (h_z (AE ?_)));obtain rfl:=sm hm;exact Cb
end
noncomputable def Fo (k:Tpl) (j:List Lch) (e:Int):Option Bool :=
  bnd (rng (ρ:=Bool) (λ (f:Nat) (d:Lch) (l:Unit)=>if d.tm≠e then (some (.next ())) else (bnd (rng (ρ:=Ctl Unit Bool) (λ (g:Nat) (a:Lch) (m:Unit)=>bnd (if (f:Int)≠(g:Int) then (if d.job=a.job then (if a.tm<=e then (bnd (EG k a) λ h=>if e<=h then (some true) else (some false)) else (some false)) else (some false)) else (some false):Option Bool) λ i=>if i=true then (some (.ret (.ret true))) else (some (.next ()))) j 0 ()) λ b=>fin b λ (n:Unit)=>some (.next ()))) j 0 ()) λ c=>fin c λ (o:Unit)=>some false
section
attribute [local irreducible] Vb Lc Rw Ob
theorem Nn {w:World} {A:Nat→Prop} (hA:∀ k,A k→k < w.heap.size) {d:Value} {o:Tpl} (q:Vb w A d o) {e:Value} {p:List Lch} (r:Vb w A e p) {f:Int} (s:T3 f) {I:Bool} (hm:Fo o p f=some I) :
    Fn prog 118 [d,e,(.int .i64 f)] w λ v w'=>Ext w w'/\Vb w' (upA A w w') v I:=by
 obtain ⟨_,_,_⟩:=CP hA;apply Ct q;intros;apply Ct r;intros;refine AH func118 rfl ntmps118 ?_;unfold Fo at hm;refine Ah (Ae (Do 2 ?_));intros;refine Au rfl (o_z (Ah (Ah (Ae (Ar rfl (AT rfl (Ar rfl (o_z (Df (X:=Unit) hm [1,2,3,11] [] [3,4] [] (λ _ _ _ _ t=>t) (λ _ _ _ _ t=>t) () ?_ ?_)))))))))
 ·intro y z B _ _ _ _ b C _ u;intros;refine Ah (Ae (Ar rfl (CZ ?_)));intros;refine FL ?_;refine BO 3 ?_;intros;refine Au rfl (Bf ?_);intros;refine o_z (Ah (Ah (Ae (AD rfl (AW (Ar rfl (Kr rfl rfl (λ g=>?_) λ g=>?_)))))))
  ·replace b:=ip b g;refine o_z (Am rfl (Et ?_));exact Cl () b
  replace b:=im b g;refine o_z (Aj rfl (AK (Ah (Ae (Ar rfl (AT rfl (Ar rfl (o_z (Df (X:=Unit) b [1,2,3,7,8,11,12,13,22] [] [4] [] (λ _ _ _ _ t=>t) (λ _ _ _ _ t=>t) () ?_ ?_)))))))))
  ·intro D v0 E _ _ _ _ c F _ x;intros;refine Ah (Ae (Ar rfl (CZ ?_)));intros;refine FL ?_;refine BO 4 ?_;intros;refine Au rfl (Bf ?_);intros;refine o_z (Ah (Ck (X:=Unit) c [1,2,3,7,8,11,12,13,22,23,24] [] [] [] (λ _ _ i _ t=>(51,.bool i) :: t) (λ _ _ _ _ t=>t) ?_ ?_))
   ·intro i a;refine Ae (Ar rfl (Ar rfl (Kr rfl rfl (λ j=>?_) λ j=>?_)))
    ·replace a:=ip a j;refine Ar rfl (Az rfl rfl (AD rfl (Az rfl rfl (AW (Az rfl rfl (AD rfl (Az rfl rfl ?_)))))));refine AW (Az rfl rfl (Gw rfl rfl (λ l=>?_) λ l=>?_))
     ·replace a:=ip a l;refine Bt rfl rfl (Ar rfl (Az rfl rfl (AD rfl (Az rfl rfl (AW (Az rfl rfl (Ar rfl (Az rfl rfl (Om rfl rfl rfl (λ m=>?_) λ m=>?_)))))))))
      ·replace a:=ip a m;refine Bt rfl rfl (Ar rfl (Az rfl rfl (Ar rfl (Az rfl rfl (EA (Az rfl rfl ?_))))));refine EA (Az rfl rfl ?_);obtain ⟨G,q0,a⟩:=bs a;refine Dj rfl (EH (λ _ h=>h) zA zA q0) ?_;intros;refine Az rfl rfl (Om rfl rfl rfl (λ n=>?_) λ n=>?_)
       ·replace a:=ip a n;refine Bt rfl rfl (o_z ?_);obtain rfl:=sm a;exact AV ()
       replace a:=im a n;refine Bt rfl rfl (o_z ?_);obtain rfl:=sm a;exact AV ()
      replace a:=im a m;refine Bt rfl rfl (Ar rfl (Aw rfl rfl (Aw rfl rfl (Aw rfl rfl (Aw rfl rfl (Aw rfl rfl (Bd rfl rfl (o_z ?_))))))));obtain rfl:=sm a;exact AV ()
     replace a:=im a l;refine Bt rfl rfl (Ar rfl (Aw rfl rfl (Aw rfl rfl (Aw rfl rfl (Aw rfl rfl (Bd rfl rfl (Ar rfl (Aw rfl rfl (Aw rfl rfl (Aw rfl rfl (Aw rfl rfl (Aw rfl rfl (Bd rfl rfl (o_z ?_))))))))))))));obtain rfl:=sm a;exact AV ()
    replace a:=im a j;refine Ar rfl (Aw rfl rfl (Aw rfl rfl (Aw rfl rfl (Aw rfl rfl (Aw rfl rfl (Bd rfl rfl (Ar rfl (Aw rfl rfl (Aw rfl rfl (Aw rfl rfl (Aw rfl rfl (Bd rfl rfl (Ar rfl (Aw rfl rfl ?_))))))))))))));refine Aw rfl rfl (Aw rfl rfl (Aw rfl rfl (Aw rfl rfl (Bd rfl rfl (o_z ?_)))));obtain rfl:=sm a;exact AV ()
   intro i _ _ _ _ c;intros;refine Bu ?_;refine BH rfl (λ l0=>?_) (λ l0=>?_)
   ·replace c:=ip c l0;refine Ah (Ae (Au rfl (o_z (AE ?_))));obtain rfl:=sm c;obtain rfl:=x _ rfl;obtain rfl:=u _ rfl;exact Cb
   replace c:=im' c l0;refine AK ?_;exact Cl () c
  intro z0 _ _ _ _ b;intros;exact Cl () b
 intro H _ _ _ _ hm;intros;refine Bu ?_;refine Ah (Ae (Au rfl (o_z (AE ?_))));obtain rfl:=sm hm;exact Cb
end
noncomputable def FV (d:Tpl) (a:Hap):Option (List Fct) :=
  if a.fin=true then (bnd (atI d.jobs a.job) λ b=>some b.atEnd) else (bnd (atI d.jobs a.job) λ c=>some c.atStart)
section
attribute [local irreducible] Vb Lc Rw Ob
theorem OI {w:World} {A:Nat->Prop} (hA:∀ k,A k->k < w.heap.size) {a:Value} {d:Tpl} (f:Vb w A a d) {b:Value} {e:Hap} (g:Vb w A b e) {j:(List Fct)} (hm:FV d e=some j) :
    Fn prog 143 [a,b] w λ v w'=>Ext w w'/\Vb w' (upA A w w') v j:=by
 obtain ⟨_,_,_⟩:=CP hA;apply Ct f;intros;apply Ct g;intros;refine AH func143 rfl ntmps143 ?_;unfold FV at hm;refine Ah (Ae (Do 2 ?_));intros;refine Do 3 ?_;intros;refine Au rfl (o_z (Ah (Ah (Ae (AD rfl (AW (o_z (BH rfl (λ c=>?_) (λ c=>?_)))))))))
 ·replace hm:=ip hm c;refine Ah (Ae (AD rfl (AW (AD rfl ?_))));refine AW ?_;obtain ⟨h,e0,hm⟩:=bs hm;refine LO ?_;intros;refine AD rfl (NE (Au rfl (o_z (AE ?_))));obtain rfl:=sm hm;exact Cb
 replace hm:=im' hm c;refine AK (Ah (Ae (AD rfl (AW (AD rfl ?_)))));refine AW ?_;obtain ⟨i,g0,hm⟩:=bs hm;refine LO ?_;intros;refine AD rfl (NE (Au rfl (o_z (AE ?_))));obtain rfl:=sm hm;exact Cb
end
noncomputable def Gr (d:Tpl) (a:Hap):Option (List Fct) :=
  if a.fin=true then (bnd (atI d.jobs a.job) λ b=>some b.fin) else (bnd (atI d.jobs a.job) λ c=>some c.start)
section
attribute [local irreducible] Vb Lc Rw Ob
theorem Pw {w:World} {A:Nat->Prop} (hA:∀ k,A k->k < w.heap.size) {a:Value} {d:Tpl} (f:Vb w A a d) {b:Value} {e:Hap} (g:Vb w A b e) {j:(List Fct)} (hm:Gr d e=some j) :
    Fn prog 120 [a,b] w λ v w'=>Ext w w'/\Vb w' (upA A w w') v j:=by
 obtain ⟨_,_,_⟩:=CP hA;apply Ct f;intros;apply Ct g;intros;refine AH func120 rfl ntmps120 ?_;unfold Gr at hm;refine Ah (Ae (Do 2 ?_));intros;refine Do 3 ?_;intros;refine Au rfl (o_z (Ah (Ah (Ae (AD rfl (AW (o_z (BH rfl (λ c=>?_) (λ c=>?_)))))))))
 ·replace hm:=ip hm c;refine Ah (Ae (AD rfl (AW (AD rfl ?_))));refine AW ?_;obtain ⟨h,e0,hm⟩:=bs hm;refine LO ?_;intros;refine AD rfl (NE (Au rfl (o_z (AE ?_))));obtain rfl:=sm hm;exact Cb
 replace hm:=im' hm c;refine AK (Ah (Ae (AD rfl (AW (AD rfl ?_)))));refine AW ?_;obtain ⟨i,g0,hm⟩:=bs hm;refine LO ?_;intros;refine AD rfl (NE (Au rfl (o_z (AE ?_))));obtain rfl:=sm hm;exact Cb
end
noncomputable def Hl (a:Tpl) (b:Hap) (c:Hap):Option Bool :=
  none
section
attribute [local irreducible] Vb Lc Rw Ob
theorem MF {w:World} {A:Nat->Prop} (hA:∀ k,A k->k < w.heap.size) {a:Value} {d:Tpl} (g:Vb w A a d) {b:Value} {e:Hap} (h:Vb w A b e) {c:Value} {f:Hap} (i:Vb w A c f) {j:Bool} (hm:Hl d e f=some j) :
    Fn prog 119 [a,b,c] w λ v w'=>Ext w w'/\Vb w' (upA A w w') v j:=by
 exact nomatch hm
end
noncomputable def Gs (t:Tpl) (x:List Int) (y:List Hap):Option (List Int) :=
  bnd (Cx x) λ p=>bnd (rng (ρ:=(List Int)) (λ (z:Nat) (q:Bool) (r:(List Int))=>bnd (rng (ρ:=Ctl (List Int) (List Int)) (λ (s:Nat) (A:Job) (k:(List Int)×Bool)=>bnd (rng (ρ:=Ctl ((List Int)×Bool) (Ctl (List Int) (List Int))) (λ (u:Nat) (a:Hap) (c:(List Int)×Bool)=>bnd (if a.job≠(s:Int) then (some (c.2,true,a.fin)) else (if a.fin=true then (if c.2=true then (some (true,false,true)) else (some (false,true,true))) else (if c.2=true then (some (true,true,false)) else (some (false,false,false)))):Option (Bool×Bool×Bool)) λ b=>if b.2.1=true then (some (.next (c.1,b.1))) else (bnd (FV t (⟨a.job,b.2.2⟩:Hap)) λ l=>bnd (rng (ρ:=Ctl ((List Int)×Bool) (Ctl ((List Int)×Bool) (Ctl (List Int) (List Int)))) (λ (v:Nat) (d:Fct) (f:(List Int))=>bnd (atI f d.var) λ w=>some (.next (f.set (d.var:Int).toNat d.val))) l 0 c.1) λ e=>fin e λ (m:(List Int))=>some (.next (m,b.1)))) y 0 (k.1,k.2)) λ h=>fin h λ (g:(List Int)×Bool)=>some (.next (g.1,g.2))) t.jobs 0 (r,q)) λ i=>fin i λ (n:(List Int)×Bool)=>some (.next n.1)) [true,false] 0 p) λ j=>fin j λ (o:(List Int))=>some o
theorem Px {w:World} {A:Nat->Prop} (hA:∀ k,A k->k < w.heap.size) {vx0:Value} {x0:Tpl} (q4:Vb w A vx0 x0) {vx1:Value} {x1:List Int} (r4:Vb w A vx1 x1) {vx2:Value} {x2:List Hap} (h3:Vb w A vx2 x2) {r:(List Int)} (hm:Gs x0 x1 x2=some r) :
    Fn prog 121 [vx0,vx1,vx2] w λ v w'=>Ext w w'/\Vb w' (upA A w w') v r:=by
 obtain ⟨O,hB,l7⟩:=enter hA;obtain ⟨m7,rfl,v5,v6,v7,v8,rfl,h9,f5,g5,s4⟩:=id q4;obtain ⟨w1,y1,rfl⟩:=h9.form;obtain ⟨z1,a2,rfl⟩:=f5.form;obtain ⟨b2,c2,rfl⟩:=g5.form;obtain ⟨d2,e2,rfl⟩:=s4.form;obtain ⟨n7,o7,rfl⟩:=r4.form;obtain ⟨l1,m1,rfl⟩:=h3.form;refine AH func121 rfl ntmps121 ?_;unfold Gs at hm;refine Ah (Ae (Fi 2 O rfl λ c1 p7 h5 i5 d0=>?_));refine Au rfl (o_z (Ah (Ae (Ar rfl ?_))));obtain ⟨d1,j5,hm⟩:=bs hm;replace hB:=hB.st i5;refine GH 3 (O:=h5) (GA Fr.lt (r4.zs hA hB) j5) rfl rfl λ e1 f1 q7 k5 t4 i3=>?_;refine Au rfl (o_z (Ah (Ah (Ae ?_))));refine BI 4 k5 (xs:=([true,false]:List Bool)) rfl rfl rfl ⟨vBool,vBool,trivial⟩ λ g1 r7 l5 j3 e0=>?_;refine AT rfl ?_;have k3:=BK e0.len;have s7:=rngNat k3;refine Ar rfl (o_z ?_);obtain ⟨u4,l3,hm⟩:=bs hm;replace hB:=(hB.st t4).st j3;replace d0:=(d0.st t4).st j3;replace i3:=i3.st j3;refine Dv (X:=Unit) ([true,false].length) l3 rfl k3 (λ m3 v4=>[(2,(.slice l1 x2.length m1)),(3,(.pointer (some ⟨c1,0,none⟩))),(7,(.slice e1 d1.length f1)),(17,(.slice (some ⟨g1,0,none⟩) [true,false].length 2))]) (λ m3 v4 w'=>∃ O':Lab,Bs w A w' O'/\Lc 2 w' O' c1 26 [(.slice w1 x0.vars.length y1),(.slice z1 x0.init.length a2),(.slice b2 x0.goal.length c2),(.slice d2 x0.jobs.length e2)]/\Rw 3 w' O' 3 (.slice e1 d1.length f1) m3/\Rw 4 w' O' 4 (.slice (some ⟨g1,0,none⟩) [true,false].length 2) [true,false]) () ⟨l5,hB,d0,i3,e0⟩ ⟨rfl,rfl,rfl,rfl,rfl,rfl,trivial⟩ (λ _ _=>rfl) ?_ ?_
 ·rintro b3 t7 m3 v4 u7 m5 f2 ⟨n5,hB,d0,g2,e0⟩ w0 n3 o3;have rk52:=V5 f2 k3;refine Ah (Ae ?_);obtain ⟨w7,x7,o5,p3,q3,r3,rfl⟩:=e0.elem f2;refine CN (hA:=p3) (hj:=rfl) (hlt:=q3) rfl rfl (AQ (hc:=cat0 r3) rfl (Au rfl (o_z (Ah (Ae (AD rfl (AQ (hc:=Blk.cell (i:=3) (d0.1) rfl) rfl (AT rfl ?_))))))));have s3:=BK s4.len;have y7:=rngNat s3;refine Ar rfl (o_z ?_);obtain ⟨w4,t3,w0⟩:=bs w0;refine Dv (X:=Unit) (x0.jobs.length) t3 rfl s3 (λ c3 x4=>[(2,(.slice l1 x2.length m1)),(3,(.pointer (some ⟨c1,0,none⟩))),(7,(.slice e1 d1.length f1)),(9,(.bool c3.2)),(17,(.slice (some ⟨g1,0,none⟩) [true,false].length 2)),(18,(.int .i64 ([true,false].length:Int))),(19,(.int .i64 (b3:Int)))]) (λ c3 x4 w'=>∃ O':Lab,Bs w A w' O'/\Lc 2 w' O' c1 26 [(.slice w1 x0.vars.length y1),(.slice z1 x0.init.length a2),(.slice b2 x0.goal.length c2),(.slice d2 x0.jobs.length e2)]/\Rw 3 w' O' 3 (.slice e1 d1.length f1) c3.1/\Rw 4 w' O' 4 (.slice (some ⟨g1,0,none⟩) [true,false].length 2) [true,false]) () ⟨n5,hB,d0,g2,e0⟩ ⟨rfl,rfl,rfl,rfl,rfl,rfl,rfl,rfl,rfl,trivial⟩ (λ _ _=>rfl) ?_ ?_
  ·rintro v1 z7 c3 x4 a8 p5 u3 ⟨q5,hB,d0,v3,e0⟩ y0 w3 x3;have rk80:=V5 u3 s3;refine Ah (Ae (Ar rfl (Au rfl (o_z (Ah (Ae (Ar rfl (AT rfl ?_))))))));have y3:=BK h3.len;have b8:=rngNat y3;refine Ar rfl (o_z ?_);obtain ⟨y4,z3,y0⟩:=bs y0;refine Dv (X:=Unit) (x2.length) z3 rfl y3 (λ q1 h2=>[(2,(.slice l1 x2.length m1)),(3,(.pointer (some ⟨c1,0,none⟩))),(7,(.slice e1 d1.length f1)),(9,(.bool q1.2)),(10,(.int .i64 (v1:Int))),(17,(.slice (some ⟨g1,0,none⟩) [true,false].length 2)),(18,(.int .i64 ([true,false].length:Int))),(19,(.int .i64 (b3:Int))),(25,(.int .i64 (x0.jobs.length:Int))),(26,(.int .i64 (v1:Int))),(29,(.slice l1 x2.length m1))]) (λ q1 h2 w'=>∃ O':Lab,Bs w A w' O'/\Lc 2 w' O' c1 26 [(.slice w1 x0.vars.length y1),(.slice z1 x0.init.length a2),(.slice b2 x0.goal.length c2),(.slice d2 x0.jobs.length e2)]/\Rw 3 w' O' 3 (.slice e1 d1.length f1) q1.1/\Rw 4 w' O' 4 (.slice (some ⟨g1,0,none⟩) [true,false].length 2) [true,false]) () ⟨q5,hB,d0,v3,e0⟩ ⟨rfl,rfl,rfl,rfl,rfl,rfl,rfl,rfl,rfl,rfl,rfl,rfl,rfl,trivial⟩ (λ _ _=>rfl) ?_ ?_
   ·rintro i2 h1 q1 h2 r5 z4 n1 ⟨a4,hB,d0,f0,e0⟩ b0 d3 e3;have rk101:=V5 n1 y3;refine Ah (Ae ?_);obtain ⟨s5,t5,a5,j2,k2,l2,rfl,b4⟩:=(h3.zs hA hB).elem' n1;refine CN (hA:=j2) (hj:=rfl) (hlt:=k2) rfl rfl (BX (hl:=rfl) (hc:=l2) rfl ?_);refine Bw 5 a4 λ m2 u5 w5 t0 h0=>?_;refine AR h0 rfl rfl rfl (AY) (allOne) λ x5 u0 h0=>?_;refine o_z (Ah (Ah ?_));obtain ⟨v0,a0,b0⟩:=bs b0;refine BF (λ l' w'=>∃ (c4:Unit) (O':Lab),T7 l' [(2,(.slice l1 x2.length m1)),(3,(.pointer (some ⟨c1,0,none⟩))),(7,(.slice e1 d1.length f1)),(9,(.bool v0.1)),(10,(.int .i64 (v1:Int))),(12,(.pointer (some ⟨m2,0,none⟩))),(17,(.slice (some ⟨g1,0,none⟩) [true,false].length 2)),(18,(.int .i64 ([true,false].length:Int))),(19,(.int .i64 (b3:Int))),(25,(.int .i64 (x0.jobs.length:Int))),(26,(.int .i64 (v1:Int))),(29,(.slice l1 x2.length m1)),(30,(.int .i64 (x2.length:Int))),(31,(.int .i64 (i2:Int))),(44,(.bool v0.2.1))]/\Bs w A w' O'/\Lc 2 w' O' c1 26 [(.slice w1 x0.vars.length y1),(.slice z1 x0.init.length a2),(.slice b2 x0.goal.length c2),(.slice d2 x0.jobs.length e2)]/\Rw 3 w' O' 3 (.slice e1 d1.length f1) q1.1/\Lc 5 w' O' m2 212 [(.int .i64 h1.job),(.bool v0.2.2)]/\Rw 4 w' O' 4 (.slice (some ⟨g1,0,none⟩) [true,false].length 2) [true,false]) ?_ ?_
    ·refine Ae (AD rfl (AQ (hc:=Blk.cell (i:=0) (h0.1) rfl) rfl (Ar rfl (Kr rfl rfl (λ r1=>?_) λ r1=>?_))))
     ·replace a0:=ip a0 r1;refine Ar rfl (Aw rfl rfl (Aw rfl rfl (Aw rfl rfl (Aw rfl rfl (Bt rfl rfl (o_z ?_))))));obtain rfl:=sm a0;have m0:=t0.an u0;exact ⟨(),_,⟨rfl,rfl,rfl,rfl,rfl,rfl,rfl,rfl,rfl,rfl,rfl,rfl,rfl,rfl,rfl,trivial⟩,hB.st m0,d0.st m0,f0.st m0,h0,e0.st m0⟩
     replace a0:=im a0 r1;refine Ar rfl (Az rfl rfl (AD rfl (Az rfl rfl (AQ (hc:=Blk.cell (i:=1) (h0.1) rfl) rfl (Az rfl rfl (Ar rfl (Az rfl rfl ?_)))))));rcases C8 h1.fin with k0|k0
     ·(try rw [k0]);rw [k0] at h0;replace a0:=ip a0 k0;rcases C8 q1.2 with z0|z0
      ·(try simp only [z0]);replace a0:=ip a0 z0;refine Vi rfl rfl rfl (Bd rfl rfl (o_z ?_));obtain rfl:=sm a0;have n0:=t0.an u0;exact ⟨(),_,⟨rfl,rfl,rfl,rfl,rfl,rfl,rfl,rfl,rfl,rfl,rfl,rfl,rfl,rfl,rfl,trivial⟩,hB.st n0,d0.st n0,f0.st n0,h0,e0.st n0⟩
      (try simp only [z0]);replace a0:=im' a0 z0;refine Vi rfl rfl rfl (Bd rfl rfl (o_z ?_));obtain rfl:=sm a0;have o0:=t0.an u0;exact ⟨(),_,⟨rfl,rfl,rfl,rfl,rfl,rfl,rfl,rfl,rfl,rfl,rfl,rfl,rfl,rfl,rfl,trivial⟩,hB.st o0,d0.st o0,f0.st o0,h0,e0.st o0⟩
     (try rw [k0]);rw [k0] at h0;replace a0:=im' a0 k0;rcases C8 q1.2 with a1|a1
     ·(try simp only [a1]);replace a0:=ip a0 a1;refine Vi rfl rfl rfl (Bd rfl rfl (o_z ?_));obtain rfl:=sm a0;have p0:=t0.an u0;exact ⟨(),_,⟨rfl,rfl,rfl,rfl,rfl,rfl,rfl,rfl,rfl,rfl,rfl,rfl,rfl,rfl,rfl,trivial⟩,hB.st p0,d0.st p0,f0.st p0,h0,e0.st p0⟩
     (try simp only [a1]);replace a0:=im' a0 a1;refine Vi rfl rfl rfl (Bd rfl rfl (o_z ?_));obtain rfl:=sm a0;have q0:=t0.an u0;exact ⟨(),_,⟨rfl,rfl,rfl,rfl,rfl,rfl,rfl,rfl,rfl,rfl,rfl,rfl,rfl,rfl,rfl,trivial⟩,hB.st q0,d0.st q0,f0.st q0,h0,e0.st q0⟩
    have r0:=t0.an u0;replace hB:=hB.st r0;replace d0:=d0.st r0;replace e0:=e0.st r0;replace f0:=f0.st r0;rintro y5 z5 ⟨c4,d4,n2,hB,d0,f0,h0,e0⟩;refine AX _ n2 ?_;refine BH rfl (λ s1=>?_) (λ s1=>?_)
    ·replace b0:=ip b0 s1;refine Et ?_;obtain rfl:=sm b0;exact show Exists _ from ⟨_,(),rfl,⟨rfl,rfl,rfl,rfl,rfl,rfl,rfl,rfl,rfl,rfl,rfl,rfl,rfl,trivial⟩,_,hB,d0,f0,e0⟩
    replace b0:=im' b0 s1;refine AK (Ah (Ae (BX (hl:=rfl) (hc:=(d0.1).cellsAt) rfl (BX (hl:=rfl) (hc:=(h0.1).cellsAt) rfl ?_))));obtain ⟨i1,e4,b0⟩:=bs b0;refine Ii (O:=d4) (OI Fr.lt (q4.zs hA hB) (Vb.ofAgg (cs:=[(.int .i64 h1.job),(.bool v0.2.2)]) (x:=(⟨h1.job,v0.2.2⟩:Hap)) rfl ⟨rfl,b4⟩) e4) rfl λ a6 b6 f4 j1 l0=>?_;obtain ⟨o2,p2,rfl⟩:=l0.form;refine AT rfl ?_;have t1:=BK l0.len;have c6:=rngNat t1;refine Ar rfl (o_z ?_);obtain ⟨g4,q2,b0⟩:=bs b0;replace hB:=hB.st j1;replace d0:=d0.st j1;replace e0:=e0.st j1;replace f0:=f0.st j1;refine Dv (X:=Unit) (i1.length) q2 rfl t1 (λ u1 r2=>[(2,(.slice l1 x2.length m1)),(3,(.pointer (some ⟨c1,0,none⟩))),(7,(.slice e1 d1.length f1)),(9,(.bool v0.1)),(10,(.int .i64 (v1:Int))),(17,(.slice (some ⟨g1,0,none⟩) [true,false].length 2)),(18,(.int .i64 ([true,false].length:Int))),(19,(.int .i64 (b3:Int))),(25,(.int .i64 (x0.jobs.length:Int))),(26,(.int .i64 (v1:Int))),(29,(.slice l1 x2.length m1)),(30,(.int .i64 (x2.length:Int))),(31,(.int .i64 (i2:Int))),(47,(.slice o2 i1.length p2))]) (λ u1 r2 w'=>∃ O':Lab,Bs w A w' O'/\Lc 2 w' O' c1 26 [(.slice w1 x0.vars.length y1),(.slice z1 x0.init.length a2),(.slice b2 x0.goal.length c2),(.slice d2 x0.jobs.length e2)]/\Rw 3 w' O' 3 (.slice e1 d1.length f1) u1/\Rw 4 w' O' 4 (.slice (some ⟨g1,0,none⟩) [true,false].length 2) [true,false]/\Vb w' (Fr 0 w' O') (.slice o2 i1.length p2) i1) () ⟨f4,hB,d0,f0,e0,l0⟩ ⟨rfl,rfl,rfl,rfl,rfl,rfl,rfl,rfl,rfl,rfl,rfl,rfl,rfl,rfl,rfl,rfl,trivial⟩ (λ _ _=>rfl) ?_ ?_
    ·rintro d6 h4 u1 r2 e6 b5 o1 ⟨i4,hB,d0,j0,e0,l0⟩ b1 f3 g3;have rk159:=V5 o1 t1;refine Ah (Ae ?_);obtain ⟨f6,g6,c5,s2,t2,u2,rfl,h6,j4⟩:=l0.elem' o1;refine CN (hA:=s2) (hj:=rfl) (hlt:=t2) rfl rfl (BX (hl:=rfl) (hc:=u2) rfl ?_);refine Bw 6 i4 λ i6 j6 k6 v2 k1=>?_;refine AR k1 rfl rfl rfl (AY) (allOne) λ l6 w2 k1=>?_;refine o_z (Ae (Ar rfl (AD rfl (AQ (hc:=Blk.cell (i:=0) (k1.1) rfl) rfl (AD rfl (AQ (hc:=Blk.cell (i:=1) (k1.1) rfl) rfl ?_))))));obtain ⟨m6,k4,b1⟩:=bs b1;obtain ⟨l4,y2⟩:=Dz k4;replace j0:=(j0.st v2).st w2;obtain ⟨n6,o6,d5,p1,z2,e5,rfl,p6⟩:=j0.elem y2;refine CN (hA:=p1) (hj:=l4) (hlt:=z2) rfl rfl ?_;refine GG rfl j0 (a:=h4.val) (vInt j4) p1 rfl rfl (AO y2) λ q6 m4 j0=>?_;refine o_z ?_;obtain rfl:=sm b1;have s0:=(v2.an w2).an m4;exact show Exists _ from ⟨_,(),rfl,⟨rfl,rfl,rfl,rfl,rfl,rfl,rfl,rfl,rfl,rfl,rfl,rfl,rfl,rfl,rfl,rfl,trivial⟩,_,hB.st s0,d0.st s0,j0,e0.st s0,l0.st s0⟩
    rintro r6 s6 ⟨t6,u6,rfl,c0,w6,hB,d0,j0,e0,l0⟩;replace b0:=BE b0;obtain rfl:=sm b0;exact show Exists _ from ⟨_,(),rfl,⟨(AN c0 _ _ rfl),(AN c0 _ _ rfl),(AN c0 _ _ rfl),(AN c0 _ _ rfl),(AN c0 _ _ rfl),(AN c0 _ _ rfl),(AN c0 _ _ rfl),(AN c0 _ _ rfl),(AN c0 _ _ rfl),(AN c0 _ _ rfl),(AN c0 _ _ rfl),(AN c0 _ _ rfl),(AN c0 _ _ rfl),trivial⟩,_,hB,d0,j0,e0⟩
   rintro x6 y6 ⟨z6,a7,rfl,g0,b7,hB,d0,f0,e0⟩;replace y0:=BE y0;obtain rfl:=sm y0;exact show Exists _ from ⟨_,(),rfl,⟨(AN g0 _ _ rfl),(AN g0 _ _ rfl),(AN g0 _ _ rfl),(AN g0 _ _ rfl),(AN g0 _ _ rfl),(AN g0 _ _ rfl),(AN g0 _ _ rfl),(AN g0 _ _ rfl),(AN g0 _ _ rfl),trivial⟩,_,hB,d0,f0,e0⟩
  rintro c7 d7 ⟨e7,f7,rfl,i0,g7,hB,d0,v3,e0⟩;replace w0:=BE w0;obtain rfl:=sm w0;exact show Exists _ from ⟨_,(),rfl,⟨(AN i0 _ _ rfl),(AN i0 _ _ rfl),(AN i0 _ _ rfl),(AN i0 _ _ rfl),(AN i0 _ _ rfl),(AN i0 _ _ rfl),trivial⟩,_,hB,d0,v3,e0⟩
 rintro h7 n4 ⟨i7,j7,rfl,a3,k7,hB,d0,g2,e0⟩;replace hm:=BE hm;refine AX _ a3 ?_;refine Ah (Ae (Ar rfl (Au rfl (o_z (AE ?_)))));obtain ⟨o4,p4,g2⟩:=g2.freeze;obtain rfl:=sm hm;replace hB:=hB.st p4;exact U0 rfl (AF rfl) ⟨hB.ext,(Vb.mono (F:=Fr 0 n4 o4) g2 hB.out)⟩
noncomputable def GK (g:Tpl) (w:List Lch) (o:Int) (x:List Int) (n:List Hap):Option ((List Int)×Err) :=
  bnd (Fo g w o) λ p=>if p=true then some (([]:List Int),(⟨18⟩:Err)) else bnd (rng (ρ:=(List Int)×Err) (λ (q:Nat) (r:Hap) (C:Unit)=>bnd (rngN (ρ:=Ctl Unit ((List Int)×Err)) (λ (s:Nat) (D:Unit)=>bnd (n[s]?) λ t=>bnd (Hl g r t) λ u=>if u=true then some (.ret (.ret (([]:List Int),(⟨17⟩:Err)))) else some (.next ())) q ()) λ d=>fin d λ (E:Unit)=>some (.next ())) n 0 ()) λ e=>fin e λ (F:Unit)=>bnd (rng (ρ:=(List Int)×Err) (λ (G:Nat) (v:Hap) (H:Unit)=>bnd (Gr g v) λ h=>bnd (Ef h x) λ i=>if i=true then some (.next ()) else some (.ret (([]:List Int),(⟨12⟩:Err)))) n 0 ()) λ f=>fin f λ (y:Unit)=>bnd (Gs g x n) λ c=>bnd (rng (ρ:=(List Int)×Err) (λ (z:Nat) (a:Lch) (A:Unit)=>bnd (if a.tm<=o then (bnd (EG g a) λ j=>if o < j then (bnd (atI g.jobs a.job) λ k=>bnd (Ef k.over c) λ l=>if l=true then some false else some true) else (some false)) else (some false):Option Bool) λ m=>if m=true then (some (.ret (([]:List Int),(⟨16⟩:Err)))) else (some (.next ()))) w 0 ()) λ b=>fin b λ (B:Unit)=>some (c,(⟨0⟩:Err))
section
attribute [local irreducible] Vb Lc Rw Ob
theorem Ql {w:World} {A:Nat->Prop} (hA:∀ k,A k->k < w.heap.size) {vx0:Value} {x0:Tpl} (v0:Vb w A vx0 x0) {vx1:Value} {x1:List Lch} (w0:Vb w A vx1 x1) {x2:Int} (rx2:T3 x2) {vx3:Value} {x3:List Int} (y0:Vb w A vx3 x3) {vx4:Value} {x4:List Hap} (z0:Vb w A vx4 x4) {r:(List Int)×Err} (hm:GK x0 x1 x2 x3 x4=some r) :
    Fn prog 87 [vx0,vx1,(.int .i64 x2),vx3,vx4] w λ v w'=>Ext w w'/\T2 w' (upA A w w') v r:=by
 obtain ⟨_,_,_⟩:=CP hA;apply Ct v0;intros;apply Ct w0;intros;apply Ct y0;intros;apply Ct z0;intros;refine AH func87 rfl ntmps87 ?_;unfold GK at hm;refine Ah (Ae (Do 2 ?_));intros;refine Au rfl (Au rfl (o_z (Ah (Ah (Ae (EA (Ar rfl (Ar rfl ?_))))))));obtain ⟨a1,b1,hm⟩:=bs hm;refine Dj rfl (Nn (λ _ h=>h) zA zA zI b1) ?_;intros;cases a1
 case false =>
  replace hm:=iF hm;refine o_z (Aj rfl (AK (Ah (Ah (Ae (Ar rfl (AT rfl (Ar rfl (o_z (Df (X:=Unit) hm [1,2,3,4,5] [] [] [] (λ _ _ _ _ t=>t) (λ _ _ _ _ t=>t) () ?_ ?_))))))))))
  ·intro q1 r1 s1 _ _ _ _ f0 c1 _ g0;intros;refine Ah (Ae (Ar rfl (Au rfl (o_z (Ah (Ae (Ar rfl (Ar rfl (o_z (Qf (X:=Unit) f0 [1,2,3,4,5,12,25,26] [] [] [] (λ _ _ _ _ t=>t) (λ _ _ _ _ t=>t) () ?_ ?_))))))))))
   ·intro t1 u1 _ _ _ _ c0 _ _ h0;intros;refine Ah (Ae (Ar rfl (Au rfl (o_z (Ah (IN [] ?_))))));refine AP (fuel:=1) [] (BL (DX 0 9)) rfl (Hk rfl (AS rfl rfl (AS rfl rfl ?_)));refine Ox rfl ?_;intros;refine SC rfl (AS rfl rfl (AS rfl rfl ?_));obtain ⟨v1,w1,c0⟩:=bs c0;refine Ox rfl ?_;intros;refine SC rfl (AC (AJ (i:=9) rfl ?_));obtain ⟨d1,e1,c0⟩:=bs c0;refine Dj rfl (MF (λ _ h=>h) zA zA zA e1) ?_;intros;cases d1
    case false =>
     replace c0:=iF c0;refine BM (Bi (Aj rfl (AK ?_)));exact Cl () c0
    replace c0:=iT c0;refine BM (Bi (Am rfl (Ah (Ae (Ex rfl (Au rfl (Au rfl (o_z (AE ?_)))))))));obtain rfl:=sm c0;obtain rfl:=h0 _ rfl;obtain rfl:=g0 _ rfl;exact KX
   intro y1 _ _ _ _ f0;intros;exact Cl () f0
  intro z1 _ _ _ _ hm;intros;refine Bu ?_;refine Ah (Ah (Ae (Ar rfl (AT rfl (Ar rfl (o_z (Df (X:=Unit) hm [1,2,3,4,5,46] [] [3] [] (λ _ _ _ _ t=>t) (λ _ _ _ _ t=>t) () ?_ ?_)))))))
  ·intro a2 b2 c2 _ _ _ _ d0 f1 _ i0;intros;refine Ah (Ae (CZ ?_));intros;refine FL ?_;refine BO 3 ?_;intros;refine Bf ?_;intros;refine o_z (Ah (Ae (EA ?_)));refine EA ?_;obtain ⟨g1,n0,d0⟩:=bs d0;refine NH rfl (Pw Fr.lt zV zV n0) ?_;intros;refine ab ?_;obtain ⟨o0,p0,d0⟩:=bs d0;refine Dj rfl (HW (λ _ h=>h) zA zA p0) ?_;intros;cases o0
   case false =>
    replace d0:=iF d0;refine EF rfl (o_z (Am rfl (Ah (Ae (Ex rfl (Au rfl (Au rfl (o_z (AE ?_)))))))));obtain rfl:=sm d0;obtain rfl:=i0 _ rfl;exact KX
   replace d0:=iT d0;refine EE rfl (o_z (Aj rfl (AK ?_)));exact Cl () d0
  intro h1 _ _ _ _ hm;intros;refine Bu ?_;refine Ah (Ae (EA (Ar rfl (Ar rfl ?_))));obtain ⟨i1,q0,hm⟩:=bs hm;refine NH rfl (Px Fr.lt zV zV zV q0) ?_;intros;refine Au rfl (o_z (Ah (Ah (Ae (Ar rfl (AT rfl (Ar rfl (o_z (Df (X:=Unit) hm [2,5,16,64] [] [4] [] (λ _ _ _ _ t=>t) (λ _ _ _ _ t=>t) () ?_ ?_)))))))))
  ·intro j1 k1 l1 _ _ _ _ b0 u0 _ e0;intros;refine Ah (Ae (CZ ?_));intros;refine FL ?_;refine BO 4 ?_;intros;refine Bf ?_;intros;refine o_z (Ah (Ck (X:=Unit) b0 [2,5,16,64,65,66] [] [] [] (λ _ _ j0 _ t=>(92,.bool j0) :: t) (λ _ _ _ _ t=>t) ?_ ?_))
   ·intro j0 a0;refine Ae (AD rfl (AW (Ar rfl (Om rfl rfl rfl (λ k0=>?_) λ k0=>?_))))
    ·replace a0:=ip a0 k0;refine Ar rfl (Az rfl rfl (Ar rfl (Az rfl rfl (EA (Az rfl rfl ?_)))));refine EA (Az rfl rfl ?_);obtain ⟨m1,r0,a0⟩:=bs a0;refine Dj rfl (EH (λ _ h=>h) zA zA r0) ?_;intros;refine Az rfl rfl (Eb rfl rfl (λ l0=>?_) λ l0=>?_)
     ·replace a0:=ip a0 l0;refine Bt rfl rfl (Ar rfl (Az rfl rfl (AD rfl (Az rfl rfl (AW (Az rfl rfl (AD rfl (Az rfl rfl ?_))))))));refine AW (Az rfl rfl ?_);obtain ⟨n1,o1,a0⟩:=bs a0;refine LO ?_;intros;refine Az rfl rfl (AD rfl (Az rfl rfl (NE (Az rfl rfl (Ar rfl (Az rfl rfl ?_))))));obtain ⟨s0,t0,a0⟩:=bs a0;refine Dj rfl (HW (λ _ h=>h) zA zA t0) ?_;intros;cases s0
      case false =>
       replace a0:=iF a0;refine Az rfl rfl (EF rfl (Bt rfl rfl (o_z ?_)));obtain rfl:=sm a0;exact AV ()
      replace a0:=iT a0;refine Az rfl rfl (EE rfl (Bt rfl rfl (o_z ?_)));obtain rfl:=sm a0;exact AV ()
     replace a0:=im a0 l0;refine Bt rfl rfl (Ar rfl (Aw rfl rfl (Aw rfl rfl (Aw rfl rfl (Aw rfl rfl (Aw rfl rfl (Aw rfl rfl (Aw rfl rfl (Aw rfl rfl (Aw rfl rfl (Aw rfl rfl (Bd rfl rfl (o_z ?_)))))))))))));obtain rfl:=sm a0;exact AV ()
    replace a0:=im a0 k0;refine Ar rfl (Aw rfl rfl (Aw rfl rfl (Aw rfl rfl (Aw rfl rfl (Aw rfl rfl (Bd rfl rfl (Ar rfl (Aw rfl rfl (Aw rfl rfl (Aw rfl rfl (Aw rfl rfl (Aw rfl rfl (Aw rfl rfl (Aw rfl rfl ?_))))))))))))));refine Aw rfl rfl (Aw rfl rfl (Aw rfl rfl (Bd rfl rfl (o_z ?_))));obtain rfl:=sm a0;exact AV ()
   intro j0 _ _ _ _ b0;intros;refine Bu ?_;refine BH rfl (λ m0=>?_) (λ m0=>?_)
   ·replace b0:=ip b0 m0;refine Ah (Ae (Ex rfl (Au rfl (Au rfl (o_z (AE ?_))))));obtain rfl:=sm b0;obtain rfl:=e0 _ rfl;exact KX
   replace b0:=im' b0 m0;refine AK ?_;exact Cl () b0
  intro p1 _ _ _ _ hm;intros;refine Bu ?_;refine Ah (Ae (Ar rfl (Au rfl (Au rfl (o_z (AE ?_))))));obtain rfl:=sm hm;exact KX
 replace hm:=iT hm;refine o_z (Am rfl (Ah (Ae (Ex rfl (Au rfl (Au rfl (o_z (AE ?_))))))));obtain rfl:=sm hm;exact KX
end
noncomputable def Fp (f:Tpl) (g:List Lch):Option Int :=
  bnd (rng (ρ:=Int) (λ (h:Nat) (b:Lch) (c:Int)=>bnd (EG f b) λ d=>some (.next (max c d))) g 0 0) λ a=>fin a λ (e:Int)=>some e
section
attribute [local irreducible] Vb Lc Rw Ob
theorem No {w:World} {A:Nat->Prop} (hA:∀ k,A k->k < w.heap.size) {a:Value} {e:Tpl} (g:Vb w A a e) {b:Value} {f:List Lch} (i:Vb w A b f) {q:Int} (hm:Fp e f=some q) :
    Fn prog 88 [a,b] w λ v w'=>Ext w w'/\Vb w' (upA A w w') v q:=by
 obtain ⟨_,_,_⟩:=CP hA;apply Ct g;intros;apply Ct i;intros;refine AH func88 rfl ntmps88 ?_;unfold Fp at hm;refine Ah (Ae (Do 2 ?_));intros;refine Au rfl (o_z (Ah (Ae (Au rfl (o_z (Ah (Ah (Ae (Ar rfl (AT rfl (Ar rfl (o_z (Df (X:=Unit) hm [2,8] [] [3] [] (λ _ _ c _ t=>(5,.int .i64 c) :: t) (λ _ _ c _ t=>fI c :: t) () ?_ ?_)))))))))))))
 ·intro j l c _ _ _ _ d m _ n;intros;refine Ah (Ae (CZ ?_));intros;refine FL ?_;refine BO 3 ?_;intros;refine Bf ?_;intros;refine o_z (Ae (Ar rfl (EA ?_)));refine EA ?_;obtain ⟨o,g0,d⟩:=bs d;refine Dj rfl (EH (λ _ h=>h) zA zA g0) ?_;intros;refine Yo rfl rfl rfl (Au rfl (o_z ?_));exact Cl () d
 intro p _ _ _ _ hm;intros;refine Bu ?_;refine Ah (Ae (Ar rfl (Au rfl (o_z (AE ?_)))));obtain rfl:=sm hm;exact Cb
end
noncomputable def Hx (f:Tpl):Option (List (List Fct)) :=
  bnd (rng (ρ:=(List (List Fct))) (λ (g:Nat) (a:Job) (c:(List (List Fct)))=>bnd (T5 24 c [a.start,a.over,a.fin,a.atStart,a.atEnd]) λ d=>some (.next d)) f.jobs 0 [f.goal]) λ b=>fin b λ (e:(List (List Fct)))=>some e
section
attribute [local irreducible] Vb Lc Rw Ob
theorem Nd {w:World} {A:Nat->Prop} (hA:∀ k,A k->k < w.heap.size) {a:Value} {d:Tpl} (g:Vb w A a d) {n:(List (List Fct))} (hm:Hx d=some n) :
    Fn prog 46 [a] w λ v w'=>Ext w w'/\Vb w' (upA A w w') v n:=by
 obtain ⟨_,_,_⟩:=CP hA;apply Ct g;intros;refine AH func46 rfl ntmps46 ?_;unfold Hx at hm;refine Ah (Ae (Do 2 ?_));intros;refine Au rfl (o_z (Ah (Ae (AD rfl (AW ?_)))));refine DC 3 ([d.goal]:List (List Fct)) ?_;intros;refine Au rfl (o_z (Ah (Ah (Ae (AD rfl (AW (AT rfl (Ar rfl (o_z ?_)))))))));refine Df (X:=(Option Addr×Nat)) hm [10] [] [3,4] [] (λ _ _ c e t=>(3,sv e c) :: t) (λ _ _ c e t=>fR 3 23 e c :: t) (_,_) ?_ ?_
 ·intro h b c _ _ _ _ f i _ j;intros;refine Ah (Ae (CZ ?_));intros;refine FL ?_;refine BO 4 ?_;intros;refine Bf ?_;intros;refine o_z (Ae (Ar rfl (AD rfl (AW (AD rfl ?_)))));refine AW (AD rfl ?_);refine AW (AD rfl ?_);refine AW (AD rfl ?_);refine AW ?_;refine DC 5 ([b.start,b.over,b.fin,b.atStart,b.atEnd]:List (List Fct)) ?_;intros;obtain ⟨l,h0,f⟩:=bs f;refine Dp h0 ?_;intros;refine Au rfl (o_z ?_);exact Cl (_,_) f
 intro m _ _ _ _ hm;intros;refine Bu ?_;refine Ah (Ae (Ar rfl (Au rfl (o_z (AE (Gz 3 ?_))))));intros;obtain rfl:=sm hm;exact Cb
end
noncomputable def IK (a:ByteArray):Option Bool :=
  bnd (rngN (ρ:=Bool) (λ (f:Nat) (h:Unit)=>bnd (bnd (Z8 a (f:Int)) λ b=>if b < 32 then (some true) else (bnd (Z8 a (f:Int)) λ c=>if 126 < c then (some true) else (some false)):Option Bool) λ d=>if d=true then (some (.ret false)) else (some (.next ()))) a.size ()) λ res3=>fin res3 λ (g:Unit)=>bnd (if (a.size:Int)<=256 then (some true) else (some false):Option Bool) λ e=>some e
theorem RN {w:World} {A:Nat->Prop} (hA:∀ k,A k->k < w.heap.size) {a:ByteArray} (b:a.size<=9223372036854775807) {J:Bool} (hm:IK a=some J) :
    Fn prog 49 [(.string a)] w λ v w'=>Ext w w'/\Vb w' (upA A w w') v J:=by
 obtain ⟨O,hB,w0⟩:=enter hA;refine AH func49 rfl ntmps49 ?_;unfold IK at hm;refine Ah (Ae (Au rfl (o_z (Ah (Ah (Ae (Ar rfl (Ny rfl ?_))))))));have h:T3 (a.size:Int):=rngNat b;refine Ar rfl (o_z ?_);obtain ⟨r,q0,hm⟩:=bs hm;refine NB (X:=Unit) (a.size) q0 (rngNat' h) (λ i j=>[(0,(.string a))]) (λ i j w'=>∃ c:Lab,Bs w A w' c) () ⟨O,hB⟩ ⟨rfl,rfl,rfl,trivial⟩ (λ _ _=>rfl) ?_ ?_
 ·rintro l i j s t m ⟨u,hB⟩ b0 d0 f0;have n:=Ac6 m (rngNat' h);refine Ah (Ae (Ar rfl (Au rfl (o_z (Ah ?_)))));obtain ⟨o,a0,b0⟩:=bs b0;refine BF (λ d w'=>∃ (p:Unit) (c:Lab),T7 d [(0,(.string a)),(5,(.int .i64 (a.size:Int))),(6,(.int .i64 (l:Int))),(18,(.bool o))]/\Bs w A w' c) ?_ ?_
  ·refine Ae (Ar rfl (Ar rfl ?_));obtain ⟨z0,n0,a0⟩:=bs a0;have x:=KS n0;refine Sd (he:=n0) rfl rfl rfl (Eb rfl rfl (λ e=>?_) λ e=>?_)
   ·replace a0:=ip a0 e;refine Ar rfl (Aw rfl rfl (Aw rfl rfl (Aw rfl rfl (Aw rfl rfl (Bt rfl rfl (o_z ?_))))));obtain rfl:=sm a0;exact ⟨(),_,⟨rfl,rfl,rfl,rfl,trivial⟩,hB⟩
   replace a0:=im a0 e;refine Ar rfl (Az rfl rfl (Ar rfl (Az rfl rfl (Ar rfl (Az rfl rfl ?_)))));obtain ⟨y,o0,a0⟩:=bs a0;have z:=KS o0;refine Sd (he:=o0) rfl rfl rfl (Az rfl rfl (Cw rfl rfl (λ f=>?_) λ f=>?_))
   ·replace a0:=ip a0 f;refine Bd rfl rfl (o_z ?_);obtain rfl:=sm a0;exact ⟨(),_,⟨rfl,rfl,rfl,rfl,trivial⟩,hB⟩
   replace a0:=im a0 f;refine Bd rfl rfl (o_z ?_);obtain rfl:=sm a0;exact ⟨(),_,⟨rfl,rfl,rfl,rfl,trivial⟩,hB⟩
  rintro B C ⟨p,f1,i0,hB⟩;refine AX _ i0 ?_;refine BH rfl (λ g=>?_) (λ g=>?_)
  ·replace b0:=ip b0 g;refine Ah (Ae (Au rfl (o_z (AE ?_))));obtain rfl:=sm b0;obtain rfl:=d0 _ rfl;obtain rfl:=sm (CU hm);exact U0 rfl (AF rfl) ⟨hB.ext,vBool⟩
  replace b0:=im' b0 g;refine AK ?_;obtain rfl:=sm b0;exact show Exists _ from ⟨_,(),rfl,⟨rfl,rfl,rfl,trivial⟩,_,hB⟩
 rintro D E ⟨F,j1,rfl,k0,k1,hB⟩;replace hm:=BE hm;refine AX _ k0 ?_;refine Ah ?_;obtain ⟨q,c0,hm⟩:=bs hm;refine BF (λ d w'=>∃ (v0:Unit) (c:Lab),T7 d [(2,(.bool q))]/\Bs w A w' c) ?_ ?_
 ·refine Ae (Ar rfl (Ny rfl ?_));have G:T3 (a.size:Int):=rngNat b;refine Om rfl rfl rfl (λ l0=>?_) λ l0=>?_
  ·replace c0:=ip c0 l0;refine Au rfl (o_z ?_);obtain rfl:=sm c0;exact ⟨(),_,⟨rfl,trivial⟩,hB⟩
  replace c0:=im c0 l0;refine Au rfl (o_z ?_);obtain rfl:=sm c0;exact ⟨(),_,⟨rfl,trivial⟩,hB⟩
 rintro H I ⟨v0,o1,m0,hB⟩;refine AX _ m0 ?_;refine AE ?_;obtain rfl:=sm hm;exact U0 rfl (AF rfl) ⟨hB.ext,vBool⟩
noncomputable def Hy (a:Tpl):Option Int :=
  bnd (if 64 < (a.vars.length:Int) then (some true) else (if 24 < (a.jobs.length:Int) then (some true) else (some false)):Option Bool) λ p=>if p=true then (some 5) else (bnd (Hx a) λ q=>bnd (rng (ρ:=Int) (λ (A:Nat) (r:List Fct) (B:Unit)=>if 64 < (r.length:Int) then (some (.ret 5)) else (some (.next ()))) q 0 ()) λ e=>fin e λ (C:Unit)=>bnd (rng (ρ:=Int) (λ (D:Nat) (h:Int) (E:Unit)=>bnd (if h < 1 then (some true) else (if 64 < h then (some true) else (some false)):Option Bool) λ s=>if s=true then (some (.ret 1)) else (some (.next ()))) a.vars 0 ()) λ f=>fin f λ (F:Unit)=>bnd (rng (ρ:=Int) (λ (G:Nat) (d:Job) (H:Unit)=>bnd (if d.dur < 1 then (some true) else (if 62 < d.dur then (some true) else (some false)):Option Bool) λ i=>if i=true then (some (.ret 1)) else (some (.next ()))) a.jobs 0 ()) λ g=>fin g λ (t:Unit)=>bnd (KZ a.vars a.init) λ j=>if j=true then bnd (Hx a) λ k=>bnd (rng (ρ:=Int) (λ (u:Nat) (l:List Fct) (v:Unit)=>bnd (Kj a.vars l) λ m=>if m=true then some (.next ()) else some (.ret 2)) k 0 ()) λ b=>fin b λ (w:Unit)=>bnd (rng (ρ:=Int) (λ (x:Nat) (n:Job) (y:Unit)=>bnd (IK n.name) λ o=>if o=true then some (.next ()) else some (.ret 8)) a.jobs 0 ()) λ c=>fin c λ (z:Unit)=>some 0 else some 2)
section
attribute [local irreducible] Vb Lc Rw Ob
theorem RO {w:World} {A:Nat->Prop} (hA:∀ k,A k->k < w.heap.size) {vx0:Value} {x0:Tpl} (l1:Vb w A vx0 x0) {r:Int} (hm:Hy x0=some r) :
    Fn prog 16 [vx0] w λ v w'=>Ext w w'/\Vb w' (upA A w w') v r:=by
 obtain ⟨_,_,_⟩:=CP hA;apply Ct l1;intros;refine AH func16 rfl ntmps16 ?_;unfold Hy at hm;refine Ah (Ae (Do 2 ?_));intros;refine Au rfl (o_z (Ah (Ah (Ck (X:=Unit) hm [1] [] [] [] (λ _ _ r0 _ t=>(22,.bool r0) :: t) (λ _ _ _ _ t=>t) ?_ ?_))))
 ·intro r0 e0;refine Ae (AD rfl (AW (AT rfl (Cw rfl rfl (λ s0=>?_) λ s0=>?_))))
  ·replace e0:=ip e0 s0;refine Ar rfl (Aw rfl rfl (Aw rfl rfl (Aw rfl rfl (Aw rfl rfl (Bt rfl rfl (o_z ?_))))));obtain rfl:=sm e0;exact AV ()
  replace e0:=im e0 s0;refine Ar rfl (Az rfl rfl (AD rfl (Az rfl rfl (AW (Az rfl rfl (AT rfl (Az rfl rfl (Cw rfl rfl (λ t0=>?_) λ t0=>?_))))))))
  ·replace e0:=ip e0 t0;refine Bd rfl rfl (o_z ?_);obtain rfl:=sm e0;exact AV ()
  replace e0:=im e0 t0;refine Bd rfl rfl (o_z ?_);obtain rfl:=sm e0;exact AV ()
 intro r0 _ _ _ _ hm;intros;refine Bu ?_;refine BH rfl (λ u0=>?_) (λ u0=>?_)
 ·replace hm:=ip hm u0;refine Ah (Ae (Au rfl (o_z (AE ?_))));obtain rfl:=sm hm;exact Cb
 replace hm:=im' hm u0;refine AK (Ah (Ah (Ae (EA ?_))));obtain ⟨a2,m1,hm⟩:=bs hm;refine NH rfl (Nd Fr.lt zV m1) ?_;intros;refine AT rfl (Ar rfl (o_z (Df (X:=Unit) hm [1,24] [] [] [] (λ _ _ _ _ t=>t) (λ _ _ _ _ t=>t) () ?_ ?_)))
 ·intro b2 c2 d2 _ _ _ _ h0 n1 _ l0;intros;refine Ah (Ae (CZ ?_));intros;refine En (Au rfl (o_z (Ah (Ae (Ar rfl (AT rfl (Cw rfl rfl (λ v0=>?_) λ v0=>?_)))))))
  ·replace h0:=ip h0 v0;refine o_z (Am rfl (Ah (Ae (Au rfl (o_z (AE ?_))))));obtain rfl:=sm h0;obtain rfl:=l0 _ rfl;exact Cb
  replace h0:=im h0 v0;refine o_z (Aj rfl (AK ?_));exact Cl () h0
 intro e2 _ _ _ _ hm;intros;refine Bu ?_;refine Ah (Ah (Ae (AD rfl (AW (AT rfl (Ar rfl (o_z ?_)))))));refine Df (X:=Unit) hm [1,35] [] [] [] (λ _ _ _ _ t=>t) (λ _ _ _ _ t=>t) () ?_ ?_
 ·intro f2 g2 h2 _ _ _ _ g0 o1 _ m0;intros;refine Ah (Ae (CZ ?_));intros;refine En (Au rfl (o_z (Ah ?_)));refine Ck (X:=Unit) g0 [1,35,36,37] [] [] [] (λ _ _ w0 _ t=>(46,.bool w0) :: t) (λ _ _ _ _ t=>t) ?_ ?_
  ·intro w0 f0;refine Ae (Ar rfl (Eb rfl rfl (λ y0=>?_) λ y0=>?_))
   ·replace f0:=ip f0 y0;refine Ar rfl (Aw rfl rfl (Aw rfl rfl (Bt rfl rfl (o_z ?_))));obtain rfl:=sm f0;exact AV ()
   replace f0:=im f0 y0;refine Ar rfl (Az rfl rfl (Ar rfl (Az rfl rfl (Cw rfl rfl (λ z0=>?_) λ z0=>?_))))
   ·replace f0:=ip f0 z0;refine Bd rfl rfl (o_z ?_);obtain rfl:=sm f0;exact AV ()
   replace f0:=im f0 z0;refine Bd rfl rfl (o_z ?_);obtain rfl:=sm f0;exact AV ()
  intro w0 _ _ _ _ g0;intros;refine Bu ?_;refine BH rfl (λ a1=>?_) (λ a1=>?_)
  ·replace g0:=ip g0 a1;refine Ah (Ae (Au rfl (o_z (AE ?_))));obtain rfl:=sm g0;obtain rfl:=m0 _ rfl;exact Cb
  replace g0:=im' g0 a1;refine AK ?_;exact Cl () g0
 intro i2 _ _ _ _ hm;intros;refine Bu ?_;refine Ah (Ah (Ae (AD rfl (AW (AT rfl (Ar rfl (o_z ?_)))))));refine Df (X:=Unit) hm [1,49] [] [3] [] (λ _ _ _ _ t=>t) (λ _ _ _ _ t=>t) () ?_ ?_
 ·intro j2 p1 k2 _ _ _ _ b0 i1 _ i0;intros;refine Ah (Ae (CZ ?_));intros;refine FL ?_;refine BO 3 ?_;intros;refine Bf ?_;intros;refine o_z (Ah (Ck (X:=Unit) b0 [1,49,50,51] [] [] [] (λ _ _ n0 _ t=>(62,.bool n0) :: t) (λ _ _ _ _ t=>t) ?_ ?_))
  ·intro n0 a0;refine Ae (AD rfl (AW (Eb rfl rfl (λ o0=>?_) λ o0=>?_)))
   ·replace a0:=ip a0 o0;refine Ar rfl (Aw rfl rfl (Aw rfl rfl (Aw rfl rfl (Bt rfl rfl (o_z ?_)))));obtain rfl:=sm a0;exact AV ()
   replace a0:=im a0 o0;refine Ar rfl (Az rfl rfl (AD rfl (Az rfl rfl (AW (Az rfl rfl (Cw rfl rfl (λ p0=>?_) λ p0=>?_))))))
   ·replace a0:=ip a0 p0;refine Bd rfl rfl (o_z ?_);obtain rfl:=sm a0;exact AV ()
   replace a0:=im a0 p0;refine Bd rfl rfl (o_z ?_);obtain rfl:=sm a0;exact AV ()
  intro n0 _ _ _ _ b0;intros;refine Bu ?_;refine BH rfl (λ q0=>?_) (λ q0=>?_)
  ·replace b0:=ip b0 q0;refine Ah (Ae (Au rfl (o_z (AE ?_))));obtain rfl:=sm b0;obtain rfl:=i0 _ rfl;exact Cb
  replace b0:=im' b0 q0;refine AK ?_;exact Cl () b0
 intro q1 _ _ _ _ hm;intros;refine Bu ?_;refine Ah (Ah (Ae (AD rfl (AW (AD rfl ?_)))));refine AW ?_;obtain ⟨b1,c1,hm⟩:=bs hm;refine Dj rfl (SI (λ _ h=>h) zA zA c1) ?_;intros;cases b1
 case false =>
  replace hm:=iF hm;refine EF rfl (o_z (Am rfl (Ah (Ae (Au rfl (o_z (AE ?_)))))));obtain rfl:=sm hm;exact Cb
 replace hm:=iT hm;refine EE rfl (o_z (Aj rfl (AK (Ah (Ah (Ae (EA ?_)))))));obtain ⟨r1,d1,hm⟩:=bs hm;refine NH rfl (Nd Fr.lt zV d1) ?_;intros;refine AT rfl (Ar rfl (o_z (Df (X:=Unit) hm [1,71] [] [] [] (λ _ _ _ _ t=>t) (λ _ _ _ _ t=>t) () ?_ ?_)))
 ·intro s1 t1 u1 _ _ _ _ c0 j1 _ j0;intros;refine Ah (Ae (CZ ?_));intros;refine En (Au rfl (o_z (Ah (Ae (AD rfl ?_)))));refine AW (Ar rfl ?_);obtain ⟨e1,f1,c0⟩:=bs c0;refine Dj rfl (RL (λ _ h=>h) zA zA f1) ?_;intros;cases e1
  case false =>
   replace c0:=iF c0;refine EF rfl (o_z (Am rfl (Ah (Ae (Au rfl (o_z (AE ?_)))))));obtain rfl:=sm c0;obtain rfl:=j0 _ rfl;exact Cb
  replace c0:=iT c0;refine EE rfl (o_z (Aj rfl (AK ?_)));exact Cl () c0
 intro v1 _ _ _ _ hm;intros;refine Bu ?_;refine Ah (Ah (Ae (AD rfl (AW (AT rfl (Ar rfl (o_z ?_)))))));refine Df (X:=Unit) hm [84] [] [4] [] (λ _ _ _ _ t=>t) (λ _ _ _ _ t=>t) () ?_ ?_
 ·intro w1 x1 y1 _ _ _ _ d0 k1 _ k0;intros;refine Ah (Ae (CZ ?_));intros;refine FL ?_;refine BO 4 ?_;intros;refine Bf ?_;intros;refine o_z (Ah (Ae (AD rfl (AW ?_))));obtain ⟨g1,h1,d0⟩:=bs d0;refine Dj rfl (RN (λ _ h=>h) zS h1) ?_;intros;cases g1
  case false =>
   replace d0:=iF d0;refine EF rfl (o_z (Am rfl (Ah (Ae (Au rfl (o_z (AE ?_)))))));obtain rfl:=sm d0;obtain rfl:=k0 _ rfl;exact Cb
  replace d0:=iT d0;refine EE rfl (o_z (Aj rfl (AK ?_)));exact Cl () d0
 intro z1 _ _ _ _ hm;intros;refine Bu ?_;refine Ah (Ae (Au rfl (o_z (AE ?_))));obtain rfl:=sm hm;exact Cb
end
end
section
open Go Go.RowKit Go.ChangeShapes Go.WideShapes Go.Deep
theorem YH:prog.cellsOf 53=7:=by kernel_rfl
theorem AaF:prog.cellsOf 24=1:=by kernel_rfl
theorem AbF:prog.cellsOf 26=4:=by kernel_rfl
theorem Afj {α:Type} {l:List α} (h:l.length=7):∃ a b c d e f g,l=[a,b,c,d,e,f,g]:=by
  match l,h with
  | [a,b,c,d,e,f,g],_=>exact ⟨a,b,c,d,e,f,g,rfl⟩
instance:Reads prog 53 Job:=⟨λ {q enc w n cs x} h=>by
  obtain ⟨hl,m,hf⟩:=AcE underlying53 h;obtain ⟨v0,v1,v2,v3,v4,v5,v6,rfl⟩:=Afj (hl.trans YH);obtain ⟨b,g0⟩:=hf 0 9 0 1 rfl Abj;replace g0:DataW.trod enc prog w 0 (λ _=>true) true m 9 [v0]=some b:=g0;obtain ⟨c,g1⟩:=hf 1 3 1 1 rfl RZ;replace g1:DataW.trod enc prog w 0 (λ _=>true) true m 3 [v1]=some c:=g1;obtain ⟨d,g2⟩:=hf 2 23 2 1 rfl KC;replace g2:DataW.trod enc prog w 0 (λ _=>true) true m 23 [v2]=some d:=g2;obtain ⟨e,g3⟩:=hf 3 23 3 1 rfl KC;replace g3:DataW.trod enc prog w 0 (λ _=>true) true m 23 [v3]=some e:=g3;obtain ⟨f,g4⟩:=hf 4 23 4 1 rfl KC;replace g4:DataW.trod enc prog w 0 (λ _=>true) true m 23 [v4]=some f:=g4;obtain ⟨g,g5⟩:=hf 5 23 5 1 rfl KC;replace g5:DataW.trod enc prog w 0 (λ _=>true) true m 23 [v5]=some g:=g5;obtain ⟨i,g6⟩:=hf 6 23 6 1 rfl KC;replace g6:DataW.trod enc prog w 0 (λ _=>true) true m 23 [v6]=some i:=g6;obtain ⟨z0,e0,_,q0⟩:=DataW.trod_string underlying9 g0;obtain rfl:v0=.string z0:=(by simpa using e0);obtain ⟨a,e1,q1⟩:=(inferInstance:Reads prog 3 Int).of g1;obtain rfl:v1=.int .i64 a:=(by simpa using e1);obtain ⟨j,q2⟩:=(inferInstance:Reads prog 23 (List Fct)).of g2;obtain ⟨k,q3⟩:=(inferInstance:Reads prog 23 (List Fct)).of g3;obtain ⟨l,q4⟩:=(inferInstance:Reads prog 23 (List Fct)).of g4;obtain ⟨o,q5⟩:=(inferInstance:Reads prog 23 (List Fct)).of g5;obtain ⟨p,q6⟩:=(inferInstance:Reads prog 23 (List Fct)).of g6;exact ⟨⟨z0,a,j,k,l,o,p⟩,v2,v3,v4,v5,v6,rfl,q2,q3,q4,q5,q6,by simpa [maxLen] using q0,q1⟩⟩
instance:Reads prog 24 (List Job):=AcG underlying24 YH
instance:Reads prog 26 Tpl:=⟨λ {i enc w n cs x} h=>by
  obtain ⟨hl,m,hf⟩:=AcE underlying26 h;obtain ⟨v0,v1,v2,v3,rfl⟩:=Afl (hl.trans AbF);obtain ⟨a,g0⟩:=hf 0 22 0 1 rfl VT;replace g0:DataW.trod enc prog w 0 (λ _=>true) true m 22 [v0]=some a:=g0;obtain ⟨b,g1⟩:=hf 1 22 1 1 rfl VT;replace g1:DataW.trod enc prog w 0 (λ _=>true) true m 22 [v1]=some b:=g1;obtain ⟨c,g2⟩:=hf 2 23 2 1 rfl KC;replace g2:DataW.trod enc prog w 0 (λ _=>true) true m 23 [v2]=some c:=g2;obtain ⟨d,g3⟩:=hf 3 24 3 1 rfl AaF;replace g3:DataW.trod enc prog w 0 (λ _=>true) true m 24 [v3]=some d:=g3;obtain ⟨z0,q0⟩:=(inferInstance:Reads prog 22 (List Int)).of g0;obtain ⟨e,q1⟩:=(inferInstance:Reads prog 22 (List Int)).of g1;obtain ⟨f,q2⟩:=(inferInstance:Reads prog 23 (List Fct)).of g2;obtain ⟨g,q3⟩:=(inferInstance:Reads prog 24 (List Job)).of g3;exact ⟨⟨z0,e,f,g⟩,v0,v1,v2,v3,rfl,q0,q1,q2,q3⟩⟩
end
section
open Go Go.RowKit
structure LZ where
  idx:Nat
  dst:Nat
  fact:Value->World->Lab->Prop
def LK (zs:List LZ) (p:Nat->Bool) (l:Env) (w:World) (O:Lab):Prop:=∀ z∈zs,p z.idx=true->∃ v,lk l z.dst=some v/\z.fact v w O
def AeB (z:LZ):Prop:=∀ v w O w' a,z.fact v w O->St nT w O w' a->z.fact v w' a
def Ae7 (w:World) (O:Lab) (z:LZ) (l0:Env) (b:Env) (w':World):Prop:=∃ v a,b=(z.dst,v) :: l0/\St nT w O w' a/\z.fact v w' a
theorem SL {α:Type} {f:α->Nat}:∀ {l:List α},(l.map f).Nodup->∀ {a b:α},a∈l->b∈l->f a=f b->a=b
  | [],_,a,b,h,_,_=>by cases h
  | x :: l,hn,a,b,c,hb,e=>by
    rw [Q0,P5] at hn;rcases Q1.1 c with h1|h1<;>rcases Q1.1 hb with h2|h2
    . rw [h1,h2]
    . subst h1;exact absurd (e ▸ H8 h2) hn.1
    . subst h2;exact absurd (e ▸ H8 h1) hn.1
    . exact SL hn.2 h1 h2 e
def Aey (P:Program) (n:Nat) (ops:Array Oper) (zs:List LZ) (l0:Env) (w0:World) (O0:Lab) (z:LZ):Prop :=
  ∃ o,ops[z.idx]?=some o/\∀ l w O,St nT w0 O0 w O->T7 l l0->LK zs (bef ops z.idx) l w O->∃ a,T7 l a/\∀ Q:U3,(∀ b w',Ae7 w O z (a ++ l) b w'->Q .normal b w')->owp P n ops Q [o] (a ++ l) w
def LAll (P:Program) (n:Nat) (ops:Array Oper) (zs:List LZ) (l0:Env) (w0:World) (O0:Lab):List LZ->Prop
  | []=>True
  | z :: r=>(AeB z/\Aey P n ops zs l0 w0 O0 z)/\LAll P n ops zs l0 w0 O0 r
theorem LAll.get {P:Program} {n:Nat} {ops:Array Oper} {zs:List LZ} {l0:Env} {w0:World} {O0:Lab}:∀ {l:List LZ},LAll P n ops zs l0 w0 O0 l->∀ z∈l,AeB z/\Aey P n ops zs l0 w0 O0 z
  | [],_,z,h=>by cases h
  | y :: r,h,z,hz=>by
    rcases Q1.1 hz with rfl|hz
    . exact h.1
    . exact LAll.get h.2 z hz
def AeA (ops:Array Oper) (b c:Array Bool) (ds:List (Nat×Nat)) (l0:Env):Bool :=
  (ds.all λ z=>!b.getD z.1 true && (l0.all λ q=>!Nat.beq q.1 z.2)) && (ds.map (·.2)).Nodup && (ds.map (·.1)).Nodup &&
  (c == ds.foldl (λ a z=>a.setIfInBounds z.1 true) b) && (b.size == ops.size) &&
  ((List.range ops.size).all λ j=>c.getD j false || ds.all λ z=>bef ops j z.1) &&
  ((List.range ops.size).all λ j=>(ops[j]?).all λ o=>o.after.all λ e=>!Region.binds .any e || decide (e.on < j))
theorem SM {l:Env}:∀ {f:Env},T7 l f->∀ i v,lk (f ++ l) i=some v->lk l i=some v
  | [],_,i,v,h=>h
  | (j,u) :: r,hs,i,v,h=>by
    rw [L7,lk] at h;cases hb:Nat.beq j i with
    | true =>
      rw [hb] at h;have:j=i:=E7 hb;subst this;rw [hs.1];exact h
    | false=>rw [hb] at h;exact SM hs.2 i v h
theorem Wr {l f:Env} (hs:T7 l f) {i:Nat} {v:Value} (h:lk l i=some v):lk (f ++ l) i=some v:=by
  induction f with
  | nil=>exact h
  | cons q c b =>
    obtain ⟨j,u⟩:=q;rw [L7,lk];cases hb:Nat.beq j i with
    | true =>
      have:j=i:=E7 hb;subst this;have a:=hs.1;rw [h] at a;exact a.symm
    | false=>exact b hs.2
theorem Ok.front {n:Nat} {a:Act} {l f:Env} (h:Ok n a l) (hs:T7 l f):Ok n a (f ++ l):=⟨h.size,h.defers,λ i v b=>h.knows i v (SM hs i v b)⟩
theorem Ul {l:Env}:∀ {a:Env},(∀ q∈a,lk l q.1=some q.2)->T7 l a
  | [],_=>trivial
  | q :: r,h=>⟨h q J0,Ul λ x b=>h x (G1 _ b)⟩
theorem SN {l:Env}:∀ {a:Env},T7 l a->∀ q∈a,lk l q.1=some q.2
  | [],_,q,h=>by cases h
  | x :: r,hs,q,h=>by
    rcases Q1.1 h with rfl|h
    . exact hs.1
    . exact SN hs.2 q h
theorem Xr (b:List (Nat×Nat)):∀ (a:Array Bool) (j:Nat) (d:Bool),(∀ z∈b,z.1 < a.size)→((b.foldl (λ a z=>a.setIfInBounds z.1 true) a).getD j d=if b.any (λ z=>z.1 == j) then true else a.getD j d):=by
  induction b with
  | nil=>intro a j d _;rfl
  | cons z g e =>
    intro a j d h;rw [N2,e _ _ _ (λ y f=>by rw [C9];exact h y (G1 _ f))];rw [List.any_cons];by_cases hr:g.any (λ z=>z.1 == j)=true
    . rw [hr];simp
    . have c:g.any (λ z=>z.1 == j)=false:=K5.2 hr;rw [c,Bool.or_false];by_cases hz:z.1=j
      . subst hz;have:=h z J0;simp [B1,this]
      . simp [hz,getD_set_ne d hz]
theorem Rl:∀ (b:List (Nat×Nat)) (a:Array Bool),(b.foldl (λ a z=>a.setIfInBounds z.1 true) a).size=a.size
  | [],_=>rfl
  | z :: r,a=>by rw [N2,Rl r,C9]
theorem Mf {a:Array Bool} {j:Nat} (h:j < a.size) (d b:Bool):a.getD j d=a.getD j b:=by simp [B1,h]
theorem AeU (O:Lab):∀ n:Nat,∃ b,∀ k,k < n->O k<=b
  | 0=>⟨0,λ k h=>by omega⟩
  | n + 1=>by
    obtain ⟨b,hb⟩:=AeU O n;refine ⟨max b (O n),λ k hk=>?_⟩;rcases Q8 k n with h|h
    . have:=hb k h;omega
    . have:k=n:=(by omega);subst this;omega
theorem Afb (O:Lab) (n:Nat):∃ j,j≠0/\j≠1/\j≠2/\∀ k,k < n->O k≠j:=by
  obtain ⟨c,hc⟩:=AeU O n;exact ⟨c + 3,by omega,by omega,by omega,λ k hk=>by have:=hc k hk;omega⟩
section
variable {P : Program} {n : Nat} {ops : Array Oper} {Q : U3} {acts : List (Nat × List Nat)} {w0 : World} {O0 : Lab}
theorem Ws {a:Array Bool} (hs:a.size=ops.size) (hc:((List.range ops.size).all λ j=>(ops[j]?).all λ o=>o.after.all λ e=>!Region.binds .any e || decide (e.on < j))=true):∀ (k:Nat),k < ops.size→a.getD k true=false→Region.ready .any ops a≠[]:=by
  intro k
  induction k using Nat.strongRecOn with
  | _ k f =>
    intro hk hl he;by_cases hj:∃ j,j < k/\a.getD j true=false
    . obtain ⟨j,hj,hjl⟩:=hj;exact f j hj (by omega) hjl he
    . have:k∈Region.ready .any ops a:=mem_ready.2 ⟨hl,ops[k],by simp [hk],λ e hm hb=>by
        have b:=M0.1 hc k (P9.2 hk);rw [C1 hk,Option.all_some,Array.all_eq_true'] at b;have c:=b e hm;rw [hb] at c;have g:e.on < k:=(by simpa using c);cases d:a.getD e.on true with
        | false=>exact absurd ⟨e.on,g,d⟩ hj
        | true=>rw [Mf (by omega) false true];exact d⟩
      rw [he] at this;cases this
theorem AaG {zs:List LZ} {l0:Env} {LS:Array Bool} {fend:Nat} {acts':List (Nat×List Nat)} (hA:LAll P n ops zs l0 w0 O0 zs)
    (hac:acts'.all (acts.contains ·)=true)
    (hd:((zs.map λ z=>(z.idx,z.dst)).all λ z=>(l0.all λ q=>!Nat.beq q.1 z.2))=true) (hn:((zs.map λ z=>(z.idx,z.dst)).map (·.2)).Nodup) (hn1:((zs.map λ z=>(z.idx,z.dst)).map (·.1)).Nodup)
    (hLb:((List.range ops.size).all λ j=>LS.getD j false || (zs.map λ z=>(z.idx,z.dst)).all λ z=>bef ops j z.1)=true)
    (hc:((List.range ops.size).all λ j=>(ops[j]?).all λ o=>o.after.all λ e=>!Region.binds .any e || decide (e.on < j))=true)
    (hend:∀ l w O,St nT w0 O0 w O->T7 l l0->LK zs (λ _=>true) l w O->hwx P n ops Q acts' w O fend LS l w) :
    ∀ (m:Nat) (listed:Array Bool) (l:Env) (w:World) (O:Lab),(zs.filter λ z=>!listed.getD z.idx true).length=m->listed.size=ops.size->LS.size=ops.size->(∀ z∈zs,z.idx < ops.size) ->
      (∀ j,listed.getD j false=true->LS.getD j false=true)->(∀ j,LS.getD j false=true->listed.getD j false=true\/∃ z∈zs,z.idx=j) ->
      St nT w0 O0 w O->T7 l l0->LK zs (λ i=>listed.getD i false) l w O->hwx P n ops Q acts w0 O0 (fend + m) listed l w:=by
  intro m
  induction m with
  | zero =>
    intro listed l w O hm hs hLs hzs h1 h2 hS hs0 hk;have hall:∀ z∈zs,listed.getD z.idx false=true:=λ z hz=>by
      have h3:(zs.filter λ z=>!listed.getD z.idx true)=[]:=B0 hm;rw [List.filter_eq_nil_iff] at h3;have:=h3 z hz;rw [Mf (by rw [hs];exact hzs z hz) false true];simpa using this
    have he:listed=LS:=by
      apply Array.ext
      . rw [hs,hLs]
      . intro j hj1 hj2;have e1:listed.getD j false=listed[j]:=(by simp [B1,hj1]);have e2:LS.getD j false=LS[j]:=(by simp [B1,hj2]);rw [<- e1,<- e2];cases hL:LS.getD j false with
        | false =>
          cases hl:listed.getD j false with
          | false=>rfl
          | true=>rw [h1 j hl] at hL;exact hL
        | true =>
          rcases h2 j hL with h|⟨z,hz,rfl⟩
          . exact h
          . exact hall z hz
    subst he;intro hcl a d ha;refine LM (λ _=>True) (λ _ _ h=>h) ?_ _ _ _ _ trivial (hend l w O hS hs0 (λ z hz _=>hk z hz (hall z hz)) hcl a d ha);rintro listed' v _ ⟨e,O'',hS'⟩;refine ⟨e,O'',(hS.mono (λ _ h=>h.elim):St (·∈tcs acts listed') w0 O0 w O).comp (hS'.mono λ q hq=>?_) λ _ h=>h⟩;unfold tcs at hq ⊢;rw [M5] at hq ⊢;obtain ⟨p,h3,h4⟩:=hq;rw [P2] at h3;exact ⟨p,P2.2 ⟨by simpa using M0.1 hac p h3.1,h3.2⟩,h4⟩
  | succ m ih =>
    intro listed l w O hm hs hLs hzs h1 h2 hS hs0 hk hcl a d ha;obtain ⟨z0,hz0⟩:∃ z,z∈zs.filter λ z=>!listed.getD z.idx true:=List.exists_mem_of_length_pos (by omega);rw [P2] at hz0;have hu0:listed.getD z0.idx true=false:=(by simpa using hz0.2);refine ⟨λ he=>(Ws hs hc z0.idx (hzs z0 hz0.1) hu0 he).elim,λ i hi=>?_⟩;obtain ⟨hiu,oi,hoi,hafter⟩:=mem_ready.1 hi;have hilt:i < ops.size:=by
      rcases Q8 i ops.size with h|h
      . exact h
      . rw [D9 h] at hoi;cases hoi
    have hiz:∃ z∈zs,z.idx=i:=by
      cases hL:LS.getD i false with
      | true =>
        rcases h2 i hL with h|h
        . rw [Mf (by rw [hs];exact hilt) false true,hiu] at h;cases h
        . exact h
      | false =>
        exfalso;have h3:=M0.1 hLb i (P9.2 hilt);rw [hL,Q4] at h3;have h4:=M0.1 h3 (z0.idx,z0.dst) (R3.2 ⟨z0,hz0.1,rfl⟩);have h5:=FN hcl ops.size i z0.idx oi hoi hafter (JU h4);rw [Mf (by rw [hs];exact hzs z0 hz0.1) false true,hu0] at h5;cases h5
    obtain ⟨z,hz,rfl⟩:=hiz;obtain ⟨hst,o,ho,hstep⟩:=hA.get z hz;obtain ⟨front,hf,hw⟩:=hstep l w O hS hs0 (λ y hy hb=>hk y hy (FN hcl ops.size z.idx y.idx oi hoi hafter (JU hb)));refine IM (fuel:=fend + m) ho hi (l:=front ++ l) (hw _ ?_) hcl a d (ha.front hf);rintro l' w' ⟨v,O',rfl,hS',hF⟩;have hSS:St nT w0 O0 w' O':=hS.comp hS' λ _ h=>h;refine ⟨λ _=>⟨w'.drawn,O',hSS.mono λ _ h=>h.elim⟩,?_⟩;have hlk:∀ i u,i≠z.dst->lk l i=some u->lk ((z.dst,v) :: (front ++ l)) i=some u:=λ i u hi hu=>by
      rw [lk];cases hb:Nat.beq z.dst i with
      | true=>exact absurd (E7 hb).symm hi
      | false=>exact Wr hf hu
    refine ih (listed.setIfInBounds z.idx true) _ w' O' ?_ (by rw [C9];exact hs) hLs hzs ?_ ?_ hSS ?_ ?_
    . have hnd:(zs.map (·.idx)).Nodup:=(by simpa [R5,K6] using hn1);have key:∀ (q:List LZ),(q.map (·.idx)).Nodup->z∈q->(∀ y∈q,y∈zs)->(q.filter λ y=>!listed.getD y.idx true).length=(q.filter λ y=>!(listed.setIfInBounds z.idx true).getD y.idx true).length + 1:=by
        intro q
        induction q with
        | nil=>intro _ h;cases h
        | cons y r ihq =>
          intro hnq hmem hsub;rw [Q0,P5] at hnq;have hrest:∀ x∈r,x.idx≠y.idx:=λ x hx e=>hnq.1 (e ▸ H8 hx);rcases Q1.1 hmem with rfl|hm2
          . have e1:(listed.setIfInBounds z.idx true).getD z.idx true=true:=by
              simp [B1,hs,hilt]
            have e2:r.filter (λ y=>!(listed.setIfInBounds z.idx true).getD y.idx true)=r.filter (λ y=>!listed.getD y.idx true):=J9 λ x hx=>(by rw [getD_set_ne true (T1 (hrest x hx))]);rw [D2 (by simp [hiu]),D3 (by simp [e1]),e2];rfl
          . have hne:z.idx≠y.idx:=hrest z hm2;have e1:(listed.setIfInBounds z.idx true).getD y.idx true=listed.getD y.idx true:=getD_set_ne true hne;have:=ihq hnq.2 hm2 λ x hx=>hsub x (G1 _ hx);cases hy:listed.getD y.idx true with
            | true=>rw [D3 (by simp [hy]),D3 (by simp [e1,hy])];exact this
            | false=>rw [D2 (by simp [hy]),D2 (by simp [e1,hy]),L6,L6,this]
      have:=key zs hnd hz λ _ h=>h;omega
    . intro j hj;by_cases hji:z.idx=j
      . subst hji;rcases C8 (LS.getD z.idx false) with h|h
        . exact h
        . exfalso;have h3:=M0.1 hLb z.idx (P9.2 hilt);rw [h,Q4] at h3;have h4:=M0.1 h3 (z0.idx,z0.dst) (R3.2 ⟨z0,hz0.1,rfl⟩);have h5:=FN hcl ops.size z.idx z0.idx oi hoi hafter (JU h4);rw [Mf (by rw [hs];exact hzs z0 hz0.1) false true,hu0] at h5;cases h5
      . rw [getD_set_ne false hji] at hj;exact h1 j hj
    . intro j hj;rcases h2 j hj with h|h
      . exact .inl (getD_set_true h)
      . exact .inr h
    . refine Ul λ q hq=>hlk q.1 q.2 ?_ (SN hs0 q hq);have h3:=M0.1 hd (z.idx,z.dst) (R3.2 ⟨z,hz,rfl⟩);have h4:=M0.1 h3 q hq;intro e;rw [e] at h4;simp at h4
    . intro y hy hly;by_cases hyz:y.dst=z.dst
      . have:y=z:=by
          have hnd:(zs.map (·.dst)).Nodup:=(by simpa [R5,K6] using hn);exact SL hnd hy hz hyz
        subst this;exact ⟨v,by rw [lk];simp,hF⟩
      . have hne:y.idx≠z.idx:=λ e=>by
          have hnd:(zs.map (·.idx)).Nodup:=(by simpa [R5,K6] using hn1);exact hyz (by rw [SL hnd hy hz e])
        have hly2:(listed.setIfInBounds z.idx true).getD y.idx false=true:=hly;have hly':listed.getD y.idx false=true:=(by rwa [getD_set_ne false (T1 hne)] at hly2);obtain ⟨u,hu,hfu⟩:=hk y hy hly';exact ⟨u,hlk _ _ hyz hu,(hA.get y hy).1 _ _ _ _ _ hfu hS'⟩
theorem Qm {zs:List LZ} {l l0:Env} {a:Array Bool} {w:World} {g:Nat} (q:Array Bool) (c:Nat) (b:List (Nat×List Nat)) (hl:T7 l l0) (hA:LAll P n ops zs l0 w O0 zs)
    (i:∀ l w' O,St nT w O0 w' O->T7 l l0->LK zs (λ _=>true) l w' O->hwx P n ops Q b w' O c q l w')
    (u:c + zs.length=g)   (r:b.all (acts.contains ·)=true:=by kernel_rfl) (d:AeA ops a q (zs.map λ z=>(z.idx,z.dst)) l0=true:=by kernel_rfl):hwx P n ops Q acts w O0 g a l w:=by
  unfold AeA at d;simp only [L9,beq_iff_eq] at d;obtain ⟨⟨⟨⟨⟨⟨s,c2⟩,c3⟩,c4⟩,c5⟩,c6⟩,c7⟩:=d;have e:∀ z∈zs,a.getD z.idx true=false:=λ z hz=>by
    have:=M0.1 s (z.idx,z.dst) (R3.2 ⟨z,hz,rfl⟩);rw [L9] at this;simpa using this.1
  have f:∀ z∈zs,z.idx < ops.size:=λ z hz=>by
    rcases Q8 z.idx a.size with h|h
    . omega
    . have:=e z hz;rw [B1,D9 h] at this;cases this
  have k:=Xr (zs.map λ z=>(z.idx,z.dst)) a;have m:∀ z∈zs.map (λ z=>(z.idx,z.dst)),z.1 < a.size:=λ z hz=>by
    obtain ⟨y,hy,rfl⟩:=R3.1 hz;rw [c5];exact f y hy
  have o:q.size=ops.size:=by
    rw [c4,<- c5];exact Rl _ _
  subst u;have p:(zs.filter λ z=>!a.getD z.idx true).length=zs.length:=by
    rw [H7.2 λ z hz=>by rw [e z hz];rfl]
  refine AaG hA r ?_ (by simpa using c2) (by simpa using c3) c6 c7 i zs.length a l w O0 p c5 o f ?_ ?_ (St.refl _ _ _) hl ?_
  . rw [M0];intro z hz;have:=M0.1 s z hz;rw [L9] at this;exact this.2
  . intro j hj;rw [c4,k j false m];split
    . rfl
    . exact hj
  . intro j hj;rw [c4,k j false m] at hj;split at hj
    . rename_i h;obtain ⟨z,hz,he⟩:=M4.1 h;obtain ⟨y,hy,rfl⟩:=R3.1 hz;exact .inr ⟨y,hy,by simpa using he⟩
    . exact .inl hj
  . intro z hz h;have t:a.getD z.idx false=true:=h;rw [Mf (by rw [c5];exact f z hz) false true,e z hz] at t;cases t
variable {rest : List Oper} {l : Env} {w : World} {d : Tmp} {ty : TypeId} {pos : String} {aft : Array Edge}
theorem LA {α:Type} [Rp α] (O:Lab) {t e:TypeId} [TSlice P t e] {z:Value} {size bytes a:Nat} [TInfo P e z size bytes] {ps:List (Nat×Operand)} {vs:List Value} {xs:List α} (b:size=Rp.size α) (hk:Acl 0 ps=true) (m:U9 l (ps.map (·.2))=some vs) (f:a=xs.length)
    (o:Vall w (Fr 0 w O) vs xs)   (hd:Nat.blt d n=true)
    (h:∀ g w' j,St nT w O w' j->Vb w' (Fr 0 w' j) (.slice (some ⟨g,0,none⟩) xs.length a) xs->owp P n ops Q rest ((d,.slice (some ⟨g,0,none⟩) xs.length a) :: l) w') (hz:a * size<=16777216:=by decide) (hm:a<=9223372036854775807:=by decide):owp P n ops Q (⟨some d,.buildSlice t a ps.toArray,ty,pos,aft,none⟩ :: rest) l w:=by
  obtain ⟨i,hi,_,_,hf⟩:=Afb O w.heap.size;refine BI i (hi:=hi) O b (hk:=hk) m f o (hz:=hz) (hm:=hm) (hd:=hd) λ g w' j c hR=>?_;obtain ⟨p,hS2,h2⟩:=hR.freeze;refine h g w' p ⟨hS2.os.trans c.os,hS2.tape.trans c.tape,hS2.output.trans c.output,R2 c.size hS2.size,λ k hk q=>?_⟩ h2;obtain ⟨r,e1⟩:=c.same k hk q;obtain ⟨s,e2⟩:=hS2.same k (I6 hk c.size) (by rw [e1];exact hf k hk);exact ⟨s.trans r,e2.trans e1⟩
theorem LK.at {zs:List LZ} {p:Nat->Bool} {l:Env} {w:World} {O:Lab} (h:LK zs p l w O) (k:Nat) {z:LZ} (hz:zs[k]?=some z) (a:p z.idx=true):∃ v,lk l z.dst=some v/\z.fact v w O:=h z (G2 hz) a
end
end
section
open Go Go.RowKit
attribute [local irreducible] ewp owp hwp hwq hws Ev Evg Fn T9 V1 U8 U4
attribute [local irreducible] hwx V7
noncomputable def EI (j:Tpl) (k:List Lch):Option ((MapR 212 Int Hap)×(List Int)) :=
  bnd (rng (ρ:=(MapR 212 Int Hap)×(List Int)) (λ (m:Nat) (a:Lch) (c:(MapR 212 Int Hap))=>bnd (T5 16 (V0 ([]:List Hap) c.l a.tm) [(⟨a.job,false⟩:Hap)]) λ e=>bnd (EG j a) λ f=>bnd (T5 16 (V0 ([]:List Hap) (⟨X7 c.l a.tm e⟩:MapR 212 Int Hap).l f) [(⟨a.job,true⟩:Hap)]) λ i=>some (.next (⟨X7 (⟨X7 c.l a.tm e⟩:MapR 212 Int Hap).l f i⟩:MapR 212 Int Hap))) k 0 (⟨[]⟩:MapR 212 Int Hap)) λ d=>fin d λ (b:(MapR 212 Int Hap))=>bnd (Adm b) λ g=>bnd (Ds g) λ h=>some (b,h)
theorem Mg {w:World} {O:Lab} {vx0:Value} {x0:Tpl} (c1:Vb w (Fr 0 w O) vx0 x0) {vx1:Value} {x1:List Lch} (t1:Vb w (Fr 0 w O) vx1 x1) (j0:Nat) (hj0:j0≠0) {r:(MapR 212 Int Hap)×(List Int)} (hm:EI x0 x1=some r) :
    Fn prog 86 [vx0,vx1] w λ v w'=>∃ O',St nT w O w' O'/\∃ v0 v1:Value,v=.tuple #[v0,v1]/\Ob j0 w' O' v0 (r.1:MapR 212 Int Hap)/\Vb w' (Fr 0 w' O') v1 r.2:=by
 obtain ⟨O0,hE,c4⟩:=AdZ (w:=w) (O:=O);have hB:Bm w O0 w O0:=Bm.refl;replace c1:=c1.mono c4;obtain ⟨z7,rfl,v4,v5,v6,v7,rfl,h8,m4,n4,o4⟩:=id c1;obtain ⟨A9,p4,rfl⟩:=h8.form;obtain ⟨q4,r4,rfl⟩:=m4.form;obtain ⟨s4,t4,rfl⟩:=n4.form;obtain ⟨u4,w4,rfl⟩:=o4.form;replace t1:=t1.mono c4;obtain ⟨x4,y4,rfl⟩:=t1.form;refine AH func86 rfl ntmps86 ?_;unfold EI at hm;refine Ah (Ae (Fi 2 O0 rfl λ d4 a8 z4 a5 i0=>?_));refine Au rfl (Au rfl (o_z (Ah (Ae ?_))));refine SE (K:=Int) (V:=Hap) 212 3 z4 rfl λ e4 b8 b5 f4 c5=>?_;refine Au rfl (o_z (Ah (Ah (Ae (Ar rfl (AT rfl ?_))))));have u2:=BK t1.len;have c8:=rngNat u2;refine Ar rfl (o_z ?_);obtain ⟨g4,v2,hm⟩:=bs hm;replace hB:=(hB.st a5).st f4;replace i0:=i0.st f4;refine Dv (X:=Unit) (x1.length) v2 rfl u2 (λ w2 h4=>[(2,(.pointer (some ⟨d4,0,none⟩))),(6,(.map (some e4))),(12,(.slice x4 x1.length y4))]) (λ w2 h4 w'=>∃ O':Lab,Bm w O0 w' O'/\Lc 2 w' O' d4 26 [(.slice A9 x0.vars.length p4),(.slice q4 x0.init.length r4),(.slice s4 x0.goal.length t4),(.slice u4 x0.jobs.length w4)]/\Ob 3 w' O' (.map (some e4)) w2) () ⟨b5,hB,i0,c5⟩ ⟨rfl,rfl,rfl,rfl,rfl,trivial⟩ (λ _ _=>rfl) ?_ ?_
 ·rintro d8 a0 w2 h4 e8 d5 u1 ⟨e5,hB,i0,g0⟩ b0 x2 y2;have rk38:=V5 u1 u2;refine Ah (Ae ?_);obtain ⟨f8,g8,f5,z2,a3,b3,rfl,w1,o0⟩:=(t1.z hB).elem' u1;refine CN (hA:=z2) (hj:=rfl) (hlt:=a3) rfl rfl (BX (hl:=rfl) (hc:=b3) rfl ?_);refine Bw 4 e5 λ i8 j8 i4 r2 n0=>?_;refine AR n0 rfl rfl rfl (AY) (allOne) λ k8 s2 n0=>?_;refine o_z (Ah ?_);refine BT [(11,[3,6])] i4 ?_;refine AP (fuel:=6) [] (BL (DX 3 7)) rfl (AS rfl rfl (AU rfl rfl (Bc (hc:=By n0 0 rfl) rfl rfl ?_)));replace g0:=(g0.st r2).st s2;obtain ⟨l8,m8,p0,j4⟩:=MapR.get g0 a0.tm;refine SF a0.tm (λ w' ⟨O',hq⟩=>p0.keep (hq.agree (i:=3) (by decide) _ (MapR.at g0))) rfl rfl rfl rfl (AU rfl rfl (Bc (hc:=By n0 1 rfl) rfl rfl (Dk rfl rfl rfl ?_)));refine AC ?_;refine AP (fuel:=3) [3,6] (BL [0,1,2]) rfl (AS rfl rfl (AU rfl rfl (Bc (hc:=By n0 0 rfl) rfl rfl (AC (AJ (i:=10) rfl ?_)))));refine BI 5 i4 (xs:=([(⟨a0.job,false⟩:Hap)]:List Hap)) rfl rfl rfl ⟨(Vb.ofAgg (cs:=[(.int .i64 a0.job),(.bool false)]) (x:=(⟨a0.job,false⟩:Hap)) rfl ⟨rfl,o0⟩),trivial⟩ λ n8 o8 p8 d1 c3=>?_;have hZ:=lZ d1;replace p0:=p0.keep (d1.agree (i:=3) id _ (MapR.at g0));replace j4:=j4.stS d1 id (λ _ _=>id);refine Be [(11,[3,6])] hZ (AJ (i:=11) rfl ?_);replace g0:=g0.st d1;obtain ⟨q8,q1,d3,g5⟩:=MapR.take g0 p0 6 (by decide) (by decide);have hZ:=q1.lst [3] (λ _ h=>by cases h;decide);obtain ⟨r8,e3,b0⟩:=bs b0;obtain ⟨e3,h5,i5⟩:=Bz e3;replace c3:=c3.st q1;refine Cj rfl g5 (c3.rd) rfl rfl h5 i5 λ s8 t8 u8 v8 r1 k4=>?_;rw [<- e3] at k4 ⊢;replace hZ:=hZ.cmp r1 [3,6] (λ _ h=>by cases h;decide) rfl;refine Be [] hZ (AJ (i:=12) rfl ?_);replace d3:=d3.st r1;refine Me d3 k4 rfl rfl rfl λ l4 y1 t2 d0=>?_;refine BM (Bi ?_);obtain ⟨s1,z1,b0⟩:=bs b0;obtain ⟨w8,c0,b0⟩:=bs b0;refine BT [(13,[3,6])] y1 ?_;refine AP (fuel:=7) [] (BL [1,2,4,5,6,9,10,11]) rfl ?_;replace i0:=(((((i0.st r2).st s2).st d1).st q1).st r1).st t2;refine EM (hl:=rfl) (hb:=Gy i0) rfl rfl ?_;replace n0:=(((n0.st d1).st q1).st r1).st t2;refine EM (hl:=rfl) (hb:=Gy n0) rfl rfl (AS rfl rfl (EM (hl:=rfl) (hb:=Gy i0) rfl rfl (EM (hl:=rfl) (hb:=Gy n0) rfl rfl (AU rfl rfl (Bc (hc:=By n0 1 rfl) rfl rfl (Dk rfl rfl rfl ?_))))));refine AC ?_;refine AP (fuel:=6) [3,6] [(0,true)] rfl (AS rfl rfl (AC ?_));refine EC (i:=3) (j:=12) rfl rfl ?_ ?_
  ·replace hB:=(((((hB.st r2).st s2).st d1).st q1).st r1).st t2;refine Bv (O:=y1) (EH (λ _ h=>h) (Vb.mono (F:=Fr 0 l4 y1) (c1.z hB) Fr.lt) (Vb.mono (F:=Fr 0 l4 y1) (Vb.ofAgg (cs:=[(.int .i64 a0.tm),(.int .i64 a0.job)]) (x:=a0) rfl ⟨rfl,w1,o0⟩) Fr.lt) z1) rfl λ j5 a2 q0 e0 f3=>?_;obtain ⟨rfl,k5⟩:=f3.int;have hZ:=lZ e0;refine Be [(13,[3,6])] hZ ?_;refine EC (i:=7) (j:=12) rfl rfl ?_ ?_
   ·replace hB:=hB.st e0;refine Bv (O:=q0) (EH (λ _ h=>h) (Vb.mono (F:=Fr 0 a2 q0) (c1.z hB) Fr.lt) (Vb.mono (F:=Fr 0 a2 q0) (Vb.ofAgg (cs:=[(.int .i64 a0.tm),(.int .i64 a0.job)]) (x:=a0) rfl ⟨rfl,w1,o0⟩) Fr.lt) z1) rfl λ l5 m5 g3 r0 h3=>?_;obtain ⟨rfl,n5⟩:=h3.int;have hZ:=lZ r0;refine Be [(13,[3,6])] hZ ?_;refine AP (fuel:=3) [] [(8,true)] rfl ?_;replace d0:=(d0.st e0).st r0;obtain ⟨o5,p5,f0,b2⟩:=MapR.get d0 s1;refine SF s1 (λ w' ⟨O',hq⟩=>f0.keep (hq.agree (i:=3) (by decide) _ (MapR.at d0))) rfl rfl rfl rfl (AC (AJ (i:=12) rfl ?_));refine BI 7 g3 (xs:=([(⟨a0.job,true⟩:Hap)]:List Hap)) rfl rfl rfl ⟨(Vb.ofAgg (cs:=[(.int .i64 a0.job),(.bool true)]) (x:=(⟨a0.job,true⟩:Hap)) rfl ⟨rfl,o0⟩),trivial⟩ λ q5 r5 s5 h0 g1=>?_;have hZ:=lZ h0;replace f0:=f0.keep (h0.agree (i:=3) id _ (MapR.at d0));replace b2:=b2.stS h0 id (λ _ _=>id);refine Be [(13,[3,6])] hZ (AJ (i:=13) rfl ?_);replace d0:=d0.st h0;obtain ⟨t5,s0,h1,i3⟩:=MapR.take d0 f0 6 (by decide) (by decide);have hZ:=s0.lst [3] (λ _ h=>by cases h;decide);obtain ⟨c0,j3,k3⟩:=Bz c0;replace g1:=g1.st s0;refine Cj rfl i3 (g1.rd) rfl rfl j3 k3 λ u5 w5 x5 y5 t0 c2=>?_;rw [<- c0] at c2 ⊢;replace hZ:=hZ.cmp t0 [3,6] (λ _ h=>by cases h;decide) rfl;refine Be [] hZ (AJ (i:=14) rfl ?_);replace h1:=h1.st t0;refine Me h1 c2 rfl rfl rfl λ z5 a6 d2 l3=>?_;refine BM (Bi ?_);obtain rfl:=sm b0;exact show Exists _ from ⟨_,(),rfl,⟨rfl,rfl,rfl,rfl,rfl,trivial⟩,_,((((hB.st r0).st h0).st s0).st t0).st d2,(((((i0.st e0).st r0).st h0).st s0).st t0).st d2,l3⟩
   refine BI 7 q0 (xs:=([(⟨a0.job,true⟩:Hap)]:List Hap)) rfl rfl rfl ⟨(Vb.ofAgg (cs:=[(.int .i64 a0.job),(.bool true)]) (x:=(⟨a0.job,true⟩:Hap)) rfl ⟨rfl,o0⟩),trivial⟩ λ b6 e2 i1 u0 j1=>?_;have hZ:=lZ u0;refine Be [(13,[3,6])] hZ (AJ (i:=7) rfl ?_);replace hB:=(hB.st e0).st u0;refine Bv (O:=i1) (EH (λ _ h=>h) (Vb.mono (F:=Fr 0 e2 i1) (c1.z hB) Fr.lt) (Vb.mono (F:=Fr 0 e2 i1) (Vb.ofAgg (cs:=[(.int .i64 a0.tm),(.int .i64 a0.job)]) (x:=a0) rfl ⟨rfl,w1,o0⟩) Fr.lt) z1) rfl λ c6 d6 e6 k0 m3=>?_;obtain ⟨rfl,f6⟩:=m3.int;have hZ:=lZ k0;refine Be [(13,[3,6])] hZ ?_;refine AP (fuel:=2) [] [(8,true)] rfl ?_;replace d0:=((d0.st e0).st u0).st k0;obtain ⟨g6,h6,e1,i6⟩:=MapR.get d0 s1;refine SF s1 (λ w' ⟨O',hq⟩=>e1.keep (hq.agree (i:=3) (by decide) _ (MapR.at d0))) rfl rfl rfl rfl (AC (AJ (i:=13) rfl ?_));obtain ⟨j6,w0,k1,n3⟩:=MapR.take d0 e1 6 (by decide) (by decide);have hZ:=w0.lst [3] (λ _ h=>by cases h;decide);obtain ⟨c0,o3,p3⟩:=Bz c0;replace j1:=(j1.st k0).st w0;refine Cj rfl n3 (j1.rd) rfl rfl o3 p3 λ k6 l6 m6 n6 y0 f2=>?_;rw [<- c0] at f2 ⊢;replace hZ:=hZ.cmp y0 [3,6] (λ _ h=>by cases h;decide) rfl;refine Be [] hZ (AJ (i:=14) rfl ?_);replace k1:=k1.st y0;refine Me k1 f2 rfl rfl rfl λ o6 p6 g2 q3=>?_;refine BM (Bi ?_);obtain rfl:=sm b0;exact show Exists _ from ⟨_,(),rfl,⟨rfl,rfl,rfl,rfl,rfl,trivial⟩,_,(((hB.st k0).st w0).st y0).st g2,(((((i0.st e0).st u0).st k0).st w0).st y0).st g2,q3⟩
  refine BI 7 y1 (xs:=([(⟨a0.job,true⟩:Hap)]:List Hap)) rfl rfl rfl ⟨(Vb.ofAgg (cs:=[(.int .i64 a0.job),(.bool true)]) (x:=(⟨a0.job,true⟩:Hap)) rfl ⟨rfl,o0⟩),trivial⟩ λ q6 h2 l1 z0 m1=>?_;have hZ:=lZ z0;refine Be [(13,[3,6])] hZ (AJ (i:=3) rfl ?_);replace hB:=((((((hB.st r2).st s2).st d1).st q1).st r1).st t2).st z0;refine Bv (O:=l1) (EH (λ _ h=>h) (Vb.mono (F:=Fr 0 h2 l1) (c1.z hB) Fr.lt) (Vb.mono (F:=Fr 0 h2 l1) (Vb.ofAgg (cs:=[(.int .i64 a0.tm),(.int .i64 a0.job)]) (x:=a0) rfl ⟨rfl,w1,o0⟩) Fr.lt) z1) rfl λ r6 i2 n1 l0 r3=>?_;obtain ⟨rfl,s6⟩:=r3.int;have hZ:=lZ l0;refine Be [(13,[3,6])] hZ (AJ (i:=7) rfl ?_);replace hB:=hB.st l0;refine Bv (O:=n1) (EH (λ _ h=>h) (Vb.mono (F:=Fr 0 i2 n1) (c1.z hB) Fr.lt) (Vb.mono (F:=Fr 0 i2 n1) (Vb.ofAgg (cs:=[(.int .i64 a0.tm),(.int .i64 a0.job)]) (x:=a0) rfl ⟨rfl,w1,o0⟩) Fr.lt) z1) rfl λ t6 u6 w6 m0 s3=>?_;obtain ⟨rfl,x6⟩:=s3.int;have hZ:=lZ m0;refine Be [(13,[3,6])] hZ ?_;refine AP (fuel:=2) [] [(8,true)] rfl ?_;replace d0:=((d0.st z0).st l0).st m0;obtain ⟨y6,z6,f1,a7⟩:=MapR.get d0 s1;refine SF s1 (λ w' ⟨O',hq⟩=>f1.keep (hq.agree (i:=3) (by decide) _ (MapR.at d0))) rfl rfl rfl rfl (AC (AJ (i:=13) rfl ?_));obtain ⟨b7,a1,o1,t3⟩:=MapR.take d0 f1 6 (by decide) (by decide);have hZ:=a1.lst [3] (λ _ h=>by cases h;decide);obtain ⟨c0,u3,v3⟩:=Bz c0;replace m1:=((m1.st l0).st m0).st a1;refine Cj rfl t3 (m1.rd) rfl rfl u3 v3 λ c7 d7 e7 f7 b1 j2=>?_;rw [<- c0] at j2 ⊢;replace hZ:=hZ.cmp b1 [3,6] (λ _ h=>by cases h;decide) rfl;refine Be [] hZ (AJ (i:=14) rfl ?_);replace o1:=o1.st b1;refine Me o1 j2 rfl rfl rfl λ g7 h7 k2 w3=>?_;refine BM (Bi ?_);obtain rfl:=sm b0;exact show Exists _ from ⟨_,(),rfl,⟨rfl,rfl,rfl,rfl,rfl,trivial⟩,_,(((hB.st m0).st a1).st b1).st k2,(((((i0.st z0).st l0).st m0).st a1).st b1).st k2,w3⟩
 rintro i7 j7 ⟨k7,l7,rfl,l2,m7,hB,i0,g0⟩;replace hm:=BE hm;refine AX _ l2 ?_;refine Ah (Ae (Au rfl (o_z (Ah ?_))));obtain ⟨n7,x3,hm⟩:=bs hm;obtain ⟨y3,rfl⟩:=Vq x3;refine Wp (q:=8) (j:=10) g0 y3 (by decide) (by decide) (by decide) (by decide) (by decide) rfl rfl (h:=λ o7 p7 q7 r7 z3 s7 m2 n2 a4 o2=>?_);rw [Wq m2] at hm;refine AX _ o2 ?_;refine Ah (Ae (Ar rfl ?_));obtain ⟨t7,b4,hm⟩:=bs hm;refine Dm (O:=z3) (LQ a4 b4) rfl λ u7 w7 x7 p2 p1=>?_;refine o_z (Ah (Ae (Ar rfl (Ar rfl (Au rfl (Au rfl (o_z (AE ?_))))))));obtain ⟨y7,q2,p1⟩:=p1.freeze;obtain rfl:=sm hm;replace hB:=((hB.st n2).st p2).st q2;obtain ⟨O',hS',hz,hl⟩:=hE.leave (λ q=>if q=3 then j0 else 0) rfl hB;replace g0:=((g0.st n2).st p2).st q2;exact U6 rfl (AF rfl) (AF rfl) ⟨O',hS',_,_,rfl,(Ob.leave g0 hz (hl 3 (by decide) (by decide)) hj0),(Vb.mono p1 hz)⟩
noncomputable def Fq (c:Tpl) (j:List Lch):Option (Int×Err) :=
  bnd (FU c j) λ d=>if d.n≠0 then (some (0,(⟨d.n⟩:Err))) else (bnd (EI c j) λ e=>bnd (rng (ρ:=Int×Err) (λ (m:Nat) (f:Int) (k:(List Int))=>bnd (GK c j f k (V0 ([]:List Hap) e.1.l f)) λ a=>if a.2.n≠0 then (some (.ret (0,(⟨a.2.n⟩:Err)))) else (some (.next a.1))) e.2 0 c.init) λ b=>fin b λ (g:(List Int))=>bnd (Ef c.goal g) λ h=>if h=true then bnd (Fp c j) λ i=>some (i,(⟨0⟩:Err)) else some (0,(⟨13⟩:Err)))
theorem Np {w:World} {A:Nat->Prop} (hA:∀ k,A k->k < w.heap.size) {vx0:Value} {x0:Tpl} (i0:Vb w A vx0 x0) {vx1:Value} {x1:List Lch} (j0:Vb w A vx1 x1) {r:Int×Err} (hm:Fq x0 x1=some r) :
    Fn prog 42 [vx0,vx1] w λ v w'=>Ext w w'/\T2 w' (upA A w w') v r:=by
 obtain ⟨O,hB,k3⟩:=enter hA;obtain ⟨l3,rfl,v4,v5,v6,v7,rfl,h8,m1,n1,a2⟩:=id i0;obtain ⟨A9,b2,rfl⟩:=h8.form;obtain ⟨o1,p1,rfl⟩:=m1.form;obtain ⟨c2,d2,rfl⟩:=n1.form;obtain ⟨e2,f2,rfl⟩:=a2.form;obtain ⟨g2,h2,rfl⟩:=j0.form;refine AH func42 rfl ntmps42 ?_;unfold Fq at hm;refine Ah (Ae (Fi 2 O rfl λ q1 r1 r0 i2 b0=>?_));refine Au rfl (Au rfl (o_z (Ah (Ah (Ae (BX (hl:=rfl) (hc:=(b0.1).cellsAt) rfl (Ar rfl ?_)))))));obtain ⟨m3,j2,hm⟩:=bs hm;replace hB:=hB.st i2;refine Bv (O:=r0) (OH (λ _ h=>h) (Vb.mono (F:=Fr 0 r1 r0) (i0.zs hA hB) Fr.lt) (Vb.mono (F:=Fr 0 r1 r0) (j0.zs hA hB) Fr.lt) j2) rfl λ n3 o3 k2 s0 l2=>?_;obtain ⟨rfl,m2⟩:=l2.err;refine Au rfl (o_z (Ah (Ae (Ar rfl (FA rfl (λ t0=>?_) λ t0=>?_)))))
 ·replace hm:=ip hm t0;refine o_z (Am rfl (Ah (Ae (Ar rfl (Au rfl (Au rfl (o_z (AE ?_))))))));obtain rfl:=sm hm;replace hB:=hB.st s0;exact U6 rfl (AF rfl) (AF rfl) ⟨hB.ext,_,_,rfl,(vInt (T8 0)),(vErr m2)⟩
 replace hm:=im hm t0;refine o_z (Aj rfl (AK (Ah (Ae (AD rfl ?_)))));replace b0:=b0.st s0;refine AQ (hc:=Blk.cell (i:=1) (b0.1) rfl) rfl (Au rfl (o_z (Ah (Ae (BX (hl:=rfl) (hc:=(b0.1).cellsAt) rfl (Ar rfl ?_))))));obtain ⟨k0,n2,hm⟩:=bs hm;replace hB:=hB.st s0;refine Dm (O:=k2) (Mg (i0.zs hA hB) (j0.zs hA hB) 3 (by decide) n2) rfl λ p3 q3 r3 s1 o2=>?_;obtain ⟨s3,t3,rfl,d0,c0⟩:=o2;obtain ⟨t1,rfl⟩:=d0.mptr;obtain ⟨u1,v1,rfl⟩:=c0.form;obtain ⟨p2,u0,d0⟩:=MapR.freeze d0;refine Ar rfl (BW rfl rfl (BW rfl rfl (Au rfl (Au rfl (o_z (Ah (Ah (Ae (Ar rfl (AT rfl ?_))))))))));replace c0:=c0.st u0;have v0:=BK c0.len;have u3:=rngNat v0;refine Ar rfl (o_z ?_);obtain ⟨w1,w0,hm⟩:=bs hm;replace hB:=(hB.st s1).st u0;replace b0:=(b0.st s1).st u0;refine Dv (X:=(Option Addr×Nat)) (k0.2.length) w0 rfl v0 (λ l0 h0=>[(1,(.slice g2 x1.length h2)),(2,(.pointer (some ⟨q1,0,none⟩))),(7,(.slice h0.1 l0.length h0.2)),(8,(.map (some t1))),(28,(.slice u1 k0.2.length v1))]) (λ l0 h0 w'=>∃ O':Lab,Bs w A w' O'/\Lc 2 w' O' q1 26 [(.slice A9 x0.vars.length b2),(.slice o1 x0.init.length p1),(.slice c2 x0.goal.length d2),(.slice e2 x0.jobs.length f2)]/\Vb w' (Fr 0 w' O') (.slice h0.1 l0.length h0.2) l0/\MapZ w' O' t1 212 k0.1/\Vb w' (Fr 0 w' O') (.slice u1 k0.2.length v1) k0.2) (o1,p1) ⟨p2,hB,b0,(m1.zs hA hB),d0,c0⟩ ⟨rfl,rfl,rfl,rfl,rfl,rfl,rfl,trivial⟩ (λ _ _=>rfl) ?_ ?_
 ·rintro v3 y1 l0 h0 w3 q2 m0 ⟨r2,hB,b0,y0,d0,c0⟩ a0 e0 z0;have rk58:=V5 m0 v0;refine Ah (Ae ?_);obtain ⟨x3,y3,s2,a1,b1,c1,rfl,t2⟩:=c0.elem' m0;refine CN (hA:=a1) (hj:=rfl) (hlt:=b1) rfl rfl (AQ (hc:=cat0 c1) rfl (Au rfl (o_z (Ah (Ae (BX (hl:=rfl) (hc:=(b0.1).cellsAt) rfl (Ar rfl (Ar rfl (Ar rfl (Ar rfl (Ar rfl ?_)))))))))));obtain ⟨z3,a4,d1,u2⟩:=MapZ.get d0 y1;refine AaC y1 d1 rfl rfl rfl ?_;obtain ⟨v2,w2,a0⟩:=bs a0;refine Ix (O:=r2) (R:=λ w' F v=>T2 w' F v v2) (Ql Fr.lt (i0.zs hA hB) (j0.zs hA hB) t2 y0 u2 w2) rfl rfl λ b4 c4 d4 n0 x2=>?_;obtain ⟨e4,f4,rfl,z1,y2⟩:=x2;obtain ⟨z2,a3,rfl⟩:=z1.form;obtain ⟨rfl,b3⟩:=y2.err;refine Ar rfl (BW rfl rfl (BW rfl rfl (Au rfl (Au rfl (o_z (Ah (Ah (Ae (Ar rfl (FA rfl (λ e1=>?_) λ e1=>?_))))))))))
  ·replace a0:=ip a0 e1;refine o_z (Am rfl (Ah (Ae (Ar rfl (Au rfl (Au rfl (o_z (AE ?_))))))));obtain rfl:=sm a0;obtain rfl:=e0 _ rfl;obtain rfl:=sm (CU hm);replace hB:=hB.st n0;exact U6 rfl (AF rfl) (AF rfl) ⟨hB.ext,_,_,rfl,(vInt (T8 0)),(vErr b3)⟩
  replace a0:=im a0 e1;refine o_z (Aj rfl (AK (Ae (Ar rfl (Au rfl (o_z ?_))))));obtain rfl:=sm a0;exact show Exists _ from ⟨_,(z2,a3),rfl,⟨rfl,rfl,rfl,rfl,rfl,rfl,rfl,trivial⟩,_,hB.st n0,b0.st n0,z1,d0.st n0,c0.st n0⟩
 rintro g4 c3 ⟨d3,e3,rfl,o0,p0,hB,b0,y0,d0,c0⟩;replace hm:=BE hm;refine AX _ o0 ?_;refine Ah (Ah (Ae (AD rfl (AQ (hc:=Blk.cell (i:=2) (b0.1) rfl) rfl (Ar rfl ?_)))));obtain ⟨f1,g1,hm⟩:=bs hm;refine Bv (O:=p0) (HW (λ _ h=>h) (Vb.mono (F:=Fr 0 c3 p0) (n1.zs hA hB) Fr.lt) (vMo y0) g1) rfl λ f3 q0 f0 g0 h1=>?_;obtain rfl:=h1.bool;cases f1
 case false =>
  replace hm:=iF hm;refine EF rfl (o_z (Am rfl (Ah (Ae (Ex rfl (Au rfl (Au rfl (o_z (AE ?_)))))))));obtain rfl:=sm hm;replace hB:=hB.st g0;exact U6 rfl (AF rfl) (AF rfl) ⟨hB.ext,_,_,rfl,(vInt (T8 0)),(vErr (by decide))⟩
 replace hm:=iT hm;refine EE rfl (o_z (Aj rfl (AK (Ah (Ae ?_)))));replace b0:=b0.st g0;refine BX (hl:=rfl) (hc:=(b0.1).cellsAt) rfl (Ar rfl ?_);obtain ⟨g3,i1,hm⟩:=bs hm;replace hB:=hB.st g0;refine Bv (O:=f0) (No (λ _ h=>h) (Vb.mono (F:=Fr 0 q0 f0) (i0.zs hA hB) Fr.lt) (Vb.mono (F:=Fr 0 q0 f0) (j0.zs hA hB) Fr.lt) i1) rfl λ h3 i3 j3 j1 k1=>?_;obtain ⟨rfl,l1⟩:=k1.int;refine Au rfl (Au rfl (o_z (AE ?_)));obtain rfl:=sm hm;replace hB:=hB.st j1;exact U6 rfl (AF rfl) (AF rfl) ⟨hB.ext,_,_,rfl,(vInt l1),(vErr (T8 0))⟩
noncomputable def Hz (a:Job) (b:Bool):Option (List Fct) :=
  if b=true then (some a.fin) else (some a.start)
section
attribute [local irreducible] Vb Lc Rw Ob
theorem RP {w:World} {A:Nat->Prop} (hA:∀ k,A k->k < w.heap.size) {a:Value} {c:Job} (e:Vb w A a c) {d:Bool} {f:(List Fct)} (hm:Hz c d=some f) :
    Fn prog 82 [a,(.bool d)] w λ v w'=>Ext w w'/\Vb w' (upA A w w') v f:=by
 obtain ⟨_,_,_⟩:=CP hA;apply Ct e;intros;refine AH func82 rfl ntmps82 ?_;unfold Hz at hm;refine Ah (Ae (Do 2 ?_));intros;refine Au rfl (o_z (Ah (Ah (Ae (Ar rfl (o_z (BH rfl (λ b=>?_) (λ b=>?_))))))))
 ·replace hm:=ip hm b;refine Ah (Ae (AD rfl (AW (Au rfl (o_z (AE ?_))))));obtain rfl:=sm hm;exact Cb
 replace hm:=im' hm b;refine AK (Ah (Ae (AD rfl (AW (Au rfl (o_z (AE ?_)))))));obtain rfl:=sm hm;exact Cb
end
noncomputable def GT (a:Job) (b:Bool):Option (List Fct) :=
  if b=true then (some a.atEnd) else (some a.atStart)
section
attribute [local irreducible] Vb Lc Rw Ob
theorem QQ {w:World} {A:Nat->Prop} (hA:∀ k,A k->k < w.heap.size) {a:Value} {c:Job} (e:Vb w A a c) {d:Bool} {f:(List Fct)} (hm:GT c d=some f) :
    Fn prog 83 [a,(.bool d)] w λ v w'=>Ext w w'/\Vb w' (upA A w w') v f:=by
 obtain ⟨_,_,_⟩:=CP hA;apply Ct e;intros;refine AH func83 rfl ntmps83 ?_;unfold GT at hm;refine Ah (Ae (Do 2 ?_));intros;refine Au rfl (o_z (Ah (Ah (Ae (Ar rfl (o_z (BH rfl (λ b=>?_) (λ b=>?_))))))))
 ·replace hm:=ip hm b;refine Ah (Ae (AD rfl (AW (Au rfl (o_z (AE ?_))))));obtain rfl:=sm hm;exact Cb
 replace hm:=im' hm b;refine AK (Ah (Ae (AD rfl (AW (Au rfl (o_z (AE ?_)))))));obtain rfl:=sm hm;exact Cb
end
end
section
open Go Go.RowKit
def Y1 (i:Nat):ByteArray:=if i < 10 then ⟨#[UInt8.ofNat (48 + i)]⟩ else ⟨#[UInt8.ofNat (48 + i / 10),UInt8.ofNat (48 + i % 10)]⟩
def Ady:ByteArray:=⟨((List.range 10).map λ i=>UInt8.ofNat (48 + i)).toArray ++ ((List.range 26).map λ i=>UInt8.ofNat (97 + i)).toArray⟩
def itoS:ByteArray:=⟨(List.range 100).flatMap (λ i=>[UInt8.ofNat (48 + i / 10),UInt8.ofNat (48 + i % 10)]) |>.toArray⟩
theorem Xs:((List.range 10).all λ i=>(Ady.extract i (i + 1)).data.toList == (Y1 i).data.toList)=true:=by decide +kernel
theorem Xt:((List.range 100).all λ i=>decide (i < 10) || (itoS.extract (i * 2) (i * 2 + 2)).data.toList == (Y1 i).data.toList)=true:=by decide +kernel
theorem Wt {a b:ByteArray} (h:a.data.toList=b.data.toList):a=b:=by
  cases a;cases b;simp only [ByteArray.mk.injEq];exact L8.1 h
theorem YW (i:Nat) (h:i < 10):Ady.extract i (i + 1)=Y1 i:=Wt (by
  have:=M0.1 Xs i (P9.2 h);simpa using this)
theorem YX (i:Nat) (h:i < 100) (b:10<=i):itoS.extract (i * 2) (i * 2 + 2)=Y1 i:=Wt (by
  have:=M0.1 Xt i (P9.2 h);have a:¬ i < 10:=(by omega);simpa [a] using this)
theorem Wu:Ady.size=36:=by decide +kernel
theorem Wv:itoS.size=200:=by decide +kernel
theorem MG (i:Nat):(Y1 i).size<=2:=by unfold Y1;split<;>simp [ByteArray.size]
section
variable {P : Program} {l : Env} {w : World} {dst : Option Tmp} {ty : TypeId} {pos : String} {aft : Array Edge}
theorem SO {t:TypeId} [h:TStr P t] {x i hi:Operand} {s:ByteArray} {a b:Int} (j:opv l x=some (.string s)) (c:opv l i=some (.int .i64 a)) (d:opv l hi=some (.int .i64 b)) (k:0<=a) (f:a<=b) (hb:b<=s.size) :
    Ev P ⟨dst,.slice t x (some i) (some hi) none,ty,pos,aft,none⟩ l w (.string (s.extract a.toNat b.toNat)):=λ _ _ e g=>by
  have:=run_slice_string (P:=P) (dr w e) t s .i64 .i64 a b h.eq k f hb;simp [execOp,g.eval j,g.eval c,g.eval d,Instr.sliceAt,run_underlying h.eq,this]
end
attribute [local irreducible] ewp owp hwp hwq hws Ev Evg Fn T9 V1 U8 U4
attribute [local irreducible] hwx V7
noncomputable def Lb (a:Int):Option ByteArray:=if 0<=a/\a < 100 then some (Y1 a.toNat) else none
set_option maxRecDepth 100000 in
theorem Ld {w:World} {A:Nat->Prop} (hA:∀ k,A k->k < w.heap.size) {a:Int} (c:T3 a) {i:ByteArray} (hm:Lb a=some i) :
    Fn prog 151 [.int .i64 a] w λ v w'=>Ext w w'/\Vb w' (upA A w w') v i:=by
  obtain ⟨⟨g,h1⟩,rfl⟩:=DJ hm;obtain ⟨k,rfl⟩:∃ k:Nat,a=(k:Int):=⟨a.toNat,by omega⟩;refine AH func151 rfl ntmps151 ?_;have d:T4 ((k:Int) + 1)=some ((k:Int) + 1):=if_pos ⟨by omega,by omega⟩;have b:T4 ((k:Int) * 2)=some ((k:Int) * 2):=if_pos ⟨by omega,by omega⟩;have f:T4 ((k:Int) * 2 + 2)=some ((k:Int) * 2 + 2):=if_pos ⟨by omega,by omega⟩;refine aa ?_;refine Au rfl (o_z ?_);refine aa ?_;refine Ar rfl (Eb rfl rfl (λ h=>?_) λ h=>?_)
  . refine o_z ?_;refine aa ?_;refine Ar rfl (Ar rfl ?_);refine DD rfl rfl ?_ d;refine Bb (SO (s:=Ady) rfl rfl rfl (by omega) (by omega) (by rw [Wu];omega)) rfl ?_;refine Au rfl (o_z ?_);refine aa ?_;refine U0 rfl (AF rfl) ⟨T0 _ _,?_⟩;have:=YW k (by omega);have e:Ady.extract (k:Int).toNat ((k:Int) + 1).toNat=Y1 k:=(by rw [<- this];congr 1);rw [e];exact vStr (R2 (MG k) (by decide))
  . refine o_z ?_;refine aa ?_;refine ab ?_;refine JL rfl rfl ?_ b;refine ab ?_;refine JL rfl rfl ?_ b;refine DD rfl rfl ?_ f;refine Bb (SO (s:=itoS) rfl rfl rfl (by omega) (by omega) (by rw [Wv];omega)) rfl ?_;refine Au rfl (o_z ?_);refine aa ?_;refine U0 rfl (AF rfl) ⟨T0 _ _,?_⟩;have:=YX k (by omega) (by omega);have e:itoS.extract ((k:Int) * 2).toNat ((k:Int) * 2 + 2).toNat=Y1 k:=(by rw [<- this];congr 1);rw [e];exact vStr (R2 (MG k) (by decide))
noncomputable def Fu (a:Int) (b:Int):Option ByteArray:=if b=10/\0<=a/\a < 100 then some (Y1 a.toNat) else none
theorem JE {w:World} {A:Nat->Prop} (hA:∀ k,A k->k < w.heap.size) {a:Int} (b:T3 a) {c:Int} (d:T3 c) {f:ByteArray} (hm:Fu a c=some f) :
    Fn prog 136 [.int .i64 a,.int .i64 c] w λ v w'=>Ext w w'/\Vb w' (upA A w w') v f:=by
  obtain ⟨⟨rfl,h0,h1⟩,rfl⟩:=DJ hm;refine AH func136 rfl ntmps136 ?_;refine aa ?_;refine Au rfl (o_z ?_);refine aa ?_;refine Ar rfl (Gw rfl rfl (λ _=>?_) λ h=>absurd rfl h);refine o_z ?_;refine aa ?_;refine Ar rfl (Om rfl rfl rfl (λ _=>?_) λ h=>absurd h0 h);refine ab ?_;refine Az rfl rfl ?_;refine ab ?_;refine Az rfl rfl ?_;refine Eb rfl rfl (λ _=>?_) λ h=>absurd h1 h;refine Bt rfl rfl ?_;refine o_z ?_;refine aa ?_;refine ab ?_;refine BG (R:=λ v w'=>Ext w w'/\Vb w' (upA A w w') v (Y1 a.toNat)) rfl (Ld hA b (if_pos ⟨h0,h1⟩)) λ v w' ⟨e,hv⟩=>?_;refine Au rfl (o_z ?_);refine aa ?_;exact U0 rfl (AF rfl) ⟨e,hv⟩
noncomputable def Fj (a:Int):Option ByteArray :=
  bnd (Fu a 10) λ b=>some b
section
attribute [local irreducible] Vb Lc Rw Ob
theorem Ls {w:World} {A:Nat->Prop} (hA:∀ k,A k->k < w.heap.size) {a:Int} (b:T3 a) {d:ByteArray} (hm:Fj a=some d) :
    Fn prog 103 [(.int .i64 a)] w λ v w'=>Ext w w'/\Vb w' (upA A w w') v d:=by
 obtain ⟨_,_,_⟩:=CP hA;refine AH func103 rfl ntmps103 ?_;unfold Fj at hm;refine Ah (Ae (Au rfl (o_z (Ah (Ae (Ar rfl ?_))))));obtain ⟨c,e3,hm⟩:=bs hm;refine Dj rfl (JE (λ _ h=>h) zI zI e3) ?_;intros;refine Au rfl (o_z (AE ?_));obtain rfl:=sm hm;exact Cb
end
noncomputable def Fv (a:Int):Option ByteArray :=
  bnd (Fj a) λ b=>some b
section
attribute [local irreducible] Vb Lc Rw Ob
theorem Mh {w:World} {A:Nat->Prop} (hA:∀ k,A k->k < w.heap.size) {a:Int} (b:T3 a) {d:ByteArray} (hm:Fv a=some d) :
    Fn prog 68 [(.int .i64 a)] w λ v w'=>Ext w w'/\Vb w' (upA A w w') v d:=by
 obtain ⟨_,_,_⟩:=CP hA;refine AH func68 rfl ntmps68 ?_;unfold Fv at hm;refine Ah (Ae (Au rfl (o_z (Ah (Ae (Ar rfl ?_))))));obtain ⟨c,e3,hm⟩:=bs hm;refine Dj rfl (Ls (λ _ h=>h) zI e3) ?_;intros;refine Au rfl (o_z (AE ?_));obtain rfl:=sm hm;exact Cb
end
end
section
open Go.Shelf
def RQ:Go.Shelf.Ren:=⟨fun|6=>65|15=>101|14=>100|28=>134|29=>135|20=>126|21=>127|22=>128|23=>129|24=>130|25=>131|26=>132|27=>133|46=>146|47=>147|48=>148|49=>149|50=>150|57=>175|n=>n,fun|22=>23|24=>61|25=>131|3=>3|39=>190|0=>0|53=>230|55=>200|4=>4|46=>224|45=>223|50=>100|5=>5|9=>9|66=>245|70=>248|76=>266|77=>267|n=>n,fun|n=>n⟩
theorem Rm:Go.Proofs.SlLaysF0.n6 prog RQ:={
  mixed:=by kernel_rfl
  f6:=⟨f65.name,by decide,func65.trans (congrArg some (by kernel_rfl))⟩
  f14:=⟨f100.name,by decide,func100.trans (congrArg some (by kernel_rfl))⟩
  f15:=func101.trans (congrArg some (by kernel_rfl))
  f20:=⟨f126.name,by decide,func126.trans (congrArg some (by kernel_rfl))⟩
  f21:=⟨f127.name,by decide,func127.trans (congrArg some (by kernel_rfl))⟩
  f22:=⟨f128.name,by decide,func128.trans (congrArg some (by kernel_rfl))⟩
  f23:=⟨f129.name,by decide,func129.trans (congrArg some (by kernel_rfl))⟩
  f24:=⟨f130.name,by decide,func130.trans (congrArg some (by kernel_rfl))⟩
  f25:=⟨f131.name,by decide,func131.trans (congrArg some (by kernel_rfl))⟩
  f26:=⟨f132.name,by decide,func132.trans (congrArg some (by kernel_rfl))⟩
  f27:=⟨f133.name,by decide,func133.trans (congrArg some (by kernel_rfl))⟩
  f28:=func134.trans (congrArg some (by kernel_rfl))
  f29:=func135.trans (congrArg some (by kernel_rfl))
  f46:=⟨f146.name,by decide,func146.trans (congrArg some (by kernel_rfl))⟩
  f47:=func147.trans (congrArg some (by kernel_rfl))
  f48:=func148.trans (congrArg some (by kernel_rfl))
  f49:=⟨f149.name,by decide,func149.trans (congrArg some (by kernel_rfl))⟩
  f50:=⟨f150.name,by decide,func150.trans (congrArg some (by kernel_rfl))⟩
  f57:=⟨f175.name,by decide,func175.trans (congrArg some (by kernel_rfl))⟩
  t0:=underlying0
  a0:=isAgg0
  z0:=sizeOf0
  v0:=zeroValue0
  t3:=underlying3
  a3:=isAgg3
  z3:=sizeOf3
  v3:=zeroValue3
  t4:=underlying4
  a4:=isAgg4
  z4:=sizeOf4
  v4:=zeroValue4
  t5:=underlying5
  a5:=isAgg5
  z5:=sizeOf5
  v5:=zeroValue5
  t9:=underlying9
  a9:=isAgg9
  z9:=sizeOf9
  v9:=zeroValue9
  t22:=underlying23
  a22:=isAgg23
  z22:=sizeOf23
  v22:=zeroValue23
  t25:=underlying131
  a25:=isAgg131
  z25:=sizeOf131
  v25:=zeroValue131
  t39:=underlying190
  a39:=isAgg190
  z39:=sizeOf190
  v39:=zeroValue190
  t45:=underlying223
  a45:=isAgg223
  z45:=sizeOf223
  v45:=zeroValue223
  t46:=underlying224
  a46:=isAgg224
  z46:=sizeOf224
  v46:=zeroValue224
  t50:=underlying100
  a50:=isAgg100
  z50:=sizeOf100
  v50:=zeroValue100
  t53:=underlying230
  a53:=isAgg230
  z53:=sizeOf230
  v53:=zeroValue230
  t55:=underlying200
  a55:=isAgg200
  z55:=sizeOf200
  v55:=zeroValue200
  t66:=underlying245
  a66:=isAgg245
  z66:=sizeOf245
  v66:=zeroValue245
  t70:=underlying248
  a70:=isAgg248
  z70:=sizeOf248
  v70:=zeroValue248
  t76:=underlying266
  a76:=isAgg266
  z76:=sizeOf266
  v76:=zeroValue266
  t77:=underlying267
  a77:=isAgg267
  z77:=sizeOf267
  v77:=zeroValue267 }
open Go.RowKit Go.Lib Go.Sort in
theorem Xu {α:Type} [Inhabited α] (k:Nat) (i:∀ w,(isAgg 61).run prog w=.ok true w) (j:∀ w,(Go.sizeOf 61).run prog w=.ok k w) (enc:α->List Value) (hk:∀ x,(enc x).length=k) (l:∀ x,∀ v∈enc x,v.oneCell'=true) (d:α->α->Int) (m:SWO (ltOf d)) (g:Nat) (f:Array Value) (blk off cap:Nat) (q:Array α) (w:World) (o:∀ a w,(callFunc g a).run prog w=.ok (.enter g a) w) (b:CmpLays prog g f enc k d blk off q.size w) (p:HoldsK enc k w blk off q) (c:blk < w.heap.size) (h:q.size < 4611686018427387904) :
    Calls prog 65 #[.slice (some ⟨blk,off,none⟩) q.size cap,.func (.func g) #[] f] w λ e w' =>
      e=.returned (.tuple #[])/\∃ n os,w'=sortWorldK enc k w blk off n (pdq (ltOf d) q 0 q.size (Lib.bitLen q.size) true true) os:=AnyQ.slices_SortFunc_eq Rm k i j enc hk l d m g f blk off cap q w o b p c h
open Go.RowKit Go.Lib Go.Sort in
theorem Vs {α:Type} [Inhabited α] (p:Option Addr) (cap:Nat) (a:Value) (w:World) :
    Calls prog 65 #[.slice p 0 cap,a] w λ e w'=>e=.returned (.tuple #[])/\w'=w:=AnyF.slices_SortFunc_none Rm p cap a w
end
section
open Go Go.RowKit Go.Lib Go.Sort
instance:Inhabited Fct:=⟨⟨0,0⟩⟩
def W8 (x:Fct):List Value:=[.int .i64 x.var,.int .i64 x.val]
def cfF (x y:Fct):Int:=Lib.compareInt x.var y.var
theorem ltF (x y:Fct):ltOf cfF x y=decide (x.var < y.var):=by
  unfold ltOf cfF Lib.compareInt;by_cases h:x.var < y.var
  . simp [h]
  . by_cases a:y.var < x.var<;>simp [h,a]
theorem AeQ:SWO (ltOf cfF) where
  irrefl x:=by rw [ltF];simp
  trans x y z h1 h2:=by rw [ltF] at *;simp at *;omega
  ntrans x y z h1 h2:=by rw [ltF] at *;simp at *;omega
theorem Ac1 (a b:Int) (i:World):Calls prog 67 #[.int .i64 a,.int .i64 b] i λ e w'=>e=.returned (.int .i64 (Lib.compareInt a b))/\w'=i:=by
  go_enter func67,ntmps67
  go_wp2
  . go_ret
    have h:a < b:=(by assumption);exact ⟨by simp [Lib.compareInt,h],rfl⟩
  . go_ret
    have h:b < a:=(by assumption);have c:¬ a < b:=(by omega);exact ⟨by simp [Lib.compareInt,h,c],rfl⟩
  . go_ret
    have g:b<=a:=(by assumption);have c:a<=b:=(by assumption);have d:¬ a < b:=(by omega);have f:¬ b < a:=(by omega);exact ⟨by simp [Lib.compareInt,d,f],rfl⟩
theorem Aen (x y:Fct) (c:World):Calls prog 66 #[.agg #[.int .i64 x.var,.int .i64 x.val],.agg #[.int .i64 y.var,.int .i64 y.val]] c λ e w'=>e=.returned (.int .i64 (cfF x y))/\∃ q b,w'=grow (c.drewN q) b:=by
  have a:=λ W'=>Ac1 x.var y.var W';unfold cfF;generalize Lib.compareInt x.var y.var=r at a ⊢
  go_enter func66,ntmps66
  go_wp2_with (go_at_call 67;refine (a _).mono ?_;rintro e w' ⟨rfl,rfl⟩)
  go_ret
  exact ⟨rfl,0,_,by rw [alloc_eq_grow,alloc_eq_grow,grow_grow];rfl⟩
theorem Aee (blk off size:Nat) (w:World):CmpLays prog 66 #[] W8 2 cfF blk off size w:=λ _ _ _ _ x y=>Aen x y _
def AM (xs:List Fct):List Fct:=(pdq (ltOf cfF) xs.toArray 0 xs.length (Lib.bitLen xs.length) true true).toList
theorem Um (xs:List Fct):PermIn 0 xs.toArray.size xs.toArray (AM xs).toArray/\SortedIn (ltOf cfF) 0 xs.toArray.size (AM xs).toArray:=by
  have:=pdq_sorts (ltOf cfF) AeQ xs.toArray 0 xs.toArray.size (Lib.bitLen xs.length) true true (S0 _) (R7 _) (Or.inl rfl);simpa [AM] using this
theorem Jf (xs:List Fct):(AM xs).Perm xs:=by
  obtain ⟨⟨a,_,hperm⟩,_⟩:=Um xs;have b:(AM xs).toArray.extract 0 xs.toArray.size=(AM xs).toArray:=(by rw [<- a];exact J6);rw [b,J6] at hperm;simpa using hperm
theorem Ep (xs:List Fct):(AM xs).length=xs.length:=(Jf xs).length_eq
theorem Pa (xs:List Fct):(AM xs).Pairwise λ x y=>x.var<=y.var:=by
  obtain ⟨_,hs⟩:=Um xs;have hl:=Ep xs;rw [C3];intro i j hi hj a;have:=hs i j (S0 _) a (by simp;omega);rw [getElem!_pos _ j (by simpa using hj),getElem!_pos _ i (by simpa using hi),ltF] at this;simpa using this
theorem AdT:∀ (xs:List Fct),(flatK W8 2 xs.toArray).toList=xs.flatMap W8:=λ xs=>by
  apply K0;intro t;have d:∀ (l:List Fct) (t:Nat),(l.flatMap W8)[t]?=(l[t / 2]?).bind λ x=>(W8 x)[t % 2]?:=by
    intro l
    induction l with
    | nil=>intro t;simp
    | cons x l f =>
      intro t;rw [K7]
      match t with
      | 0=>rfl
      | 1=>rfl
      | t + 2 =>
        rw [B4 (by simp [W8]),show t + 2 - (W8 x).length=t from by simp [W8],f];rw [show (t + 2) / 2=t / 2 + 1 from by omega,show (t + 2) % 2=t % 2 from by omega];simp
  rw [d];by_cases e:t < xs.length * 2
  . have b:t / 2 < xs.length:=(by omega);have a:t < (flatK W8 2 xs.toArray).size:=(by simpa using e);rw [F4,C1 a,C4 b,L5];have:=get_flatK W8 2 xs.toArray t (by simpa using e);rw [getElem!_pos (flatK W8 2 xs.toArray) t a,getElem!_pos xs.toArray (t / 2) (by simpa using b)] at this;rw [this];have c:t % 2 < (W8 xs[t / 2]).length:=(by simp [W8];omega);rw [C4 c,G8,getElem!_pos (W8 xs[t / 2]) (t % 2) c]
  . have b:(flatK W8 2 xs.toArray).size<=t:=(by rw [size_flatK];simpa using (by omega:xs.length * 2<=t));have c:xs[t / 2]?=none:=E8 (by omega);rw [F4,D9 b,c];rfl
theorem Qn {w:World} {F:Nat->Prop}:∀ {xs:List Fct} {cells:List Value},Chunks w F cells xs->cells=xs.flatMap W8/\∀ x∈xs,T3 x.var/\T3 x.val
  | [],_,h=>⟨h,λ _ a=>by simp at a⟩
  | x :: xs,cells,⟨cs,rest,he,hr,hc⟩=>by
    obtain ⟨b,h2⟩:=Qn hc;obtain ⟨c,h4⟩:=hr;refine ⟨by rw [he,c,b];rfl,λ y hy=>?_⟩;rcases Q1.1 hy with rfl|hy
    . exact h4
    . exact h2 y hy
theorem Qp {w:World} {F:Nat->Prop}:∀ {xs:List Fct},(∀ x∈xs,T3 x.var/\T3 x.val)->Chunks w F (xs.flatMap W8) xs
  | [],_=>rfl
  | x :: xs,h=>⟨W8 x,xs.flatMap W8,rfl,⟨rfl,h x (by simp)⟩,Qp λ y a=>h y (by simp [a])⟩
theorem Hf (xs:List Fct):(xs.flatMap W8).length=xs.length * 2:=by rw [<- AdT,H4,size_flatK];simp
theorem Jv {i:Nat} {w:World} {O:Lab} {v:Value} {xs:List Fct} (hR:Rw i w O 61 v xs) (hl:xs.length < 4611686018427387904) :
    Fn prog 65 [v,.func (.func 66) #[] #[]] w λ _ w'=>∃ z,St (eT i) w O w' z/\Rw i w' z 61 v (AM xs):=by
  intro L;rcases I8 xs.length with h0|h0
  . have l:xs=[]:=B0 h0;subst l;obtain ⟨p,c,rfl⟩:=hR.form;have hs:AM []=[]:=B0 (Ep []);exact (Vs (α:=Fct) p c _ (dr w L)).mono λ e w' ⟨he,hw⟩=>⟨_,w,L,he,hw,O,St.refl _ _ _,by rw [hs];exact hR⟩
  . obtain ⟨g,cap,cells,sp,rfl,hg,hFg,hb,hc,hlen,hnc,hcm,htot⟩:=hR.1.open h0;obtain ⟨rfl,hin⟩:=Qn hc;have m:=AdT xs;have B:HoldsK W8 2 (dr w L) g 0 xs.toArray:=λ j hj=>by
      have o:j < xs.length * 2:=(by simpa using hj);refine ⟨?_,by rw [R0];exact hb.frozen j⟩;rw [R0];refine hb.cell ?_;rw [B8 (by rw [Hf];exact o),<- m,F4,C1 hj,getElem!_pos _ j hj];rfl
    have C:∀ w,(isAgg 61).run prog w=.ok true w:=λ w=>IG w;have D:∀ w,(Go.sizeOf 61).run prog w=.ok 2 w:=λ w=>EQ w;have E:∀ d w,(callFunc 66 d).run prog w=.ok (.enter 66 d) w:=enters_of func66 (by kernel_rfl) rfl;have b:=Xu 2 C D W8 (λ _=>rfl) (λ x v A=>by simp [W8] at A;rcases A with rfl|rfl<;>rfl) cfF AeQ 66 #[] g 0 cap xs.toArray (dr w L) E (Aee g 0 _ _) B hb.lt (by simpa using hl);have G:xs.toArray.size=xs.length:=(by simp);rw [G] at b;refine b.mono λ e w' ⟨he,n,os,hw⟩=>⟨_,w',w'.drawn,he,rfl,upO O w.heap.size (λ _=>0),?_,?_⟩
    . subst hw;refine ⟨rfl,rfl,rfl,?_,λ k hk q=>⟨?_,FJ hk⟩⟩
      . show w.heap.size<=((w.heap.modify g _) ++ os).size;simp
      . have r:g≠k:=λ e=>q (by rw [<- e];exact hR.2.1 g rfl);show ((w.heap.modify g _) ++ os)[k]?=_;rw [B2 (by simpa using hk),E9,if_neg r]
    . have s:pdq (ltOf cfF) xs.toArray 0 xs.length (Lib.bitLen xs.length) true true=(AM xs).toArray:=(by simp [AM]);rw [s] at hw;have a:=Ep xs;have t:=AdT (AM xs);have f:Blk w' g 61 ((AM xs).flatMap W8 ++ sp):=by
        subst hw;unfold Blk at hb ⊢;have u:g < w.heap.size:=Blk.lt hb;show ((w.heap.modify g _) ++ os)[g]?=_;rw [B2 (by simpa using u),E9,if_pos rfl,hb];simp only [P4,Go.Sort.onCells];congr 2;apply Array.ext
        . simp only [Go.Sort.putCells,Array.size_mapIdx,K8,I5,Hf,a]
        . intro i J K;simp only [Go.Sort.putCells,G7,R0,R1,S0,true_and];have h:(flatK W8 2 (AM xs).toArray).size=xs.length * 2:=(by rw [size_flatK];simp [a]);by_cases hi:i < xs.length * 2
          . rw [if_pos (by rw [h];exact hi)];simp only [G8];rw [C7 (by rw [Hf,a];exact hi)];rw [getElem!_pos _ _ (by rw [h];exact hi)];have:=congrArg (·[i]?) t;simp only [F4] at this;rw [C1 (by rw [h];exact hi),C4 (by rw [Hf,a];exact hi)] at this;exact N4 this
          . rw [if_neg (by rw [h];exact hi)];simp only [G8];rw [C0 (by rw [Hf];omega),C0 (by rw [Hf,a];omega)];simp only [Hf,a]
      have H:∀ k,Fr 0 w O k->Fr 0 w' (upO O w.heap.size λ _=>0) k:=λ k hk=>⟨by subst hw;show k < ((w.heap.modify g _) ++ os).size;have:=hk.1;simp;omega,(FJ hk.1).trans hk.2⟩;have:=Own.close (w:=w') (base:=0) (F:=Fr 0 w O) (cap:=cap) (S0 _) hFg f (Qp (F:=Fr 0 w O) (w:=w') λ x l=>hin x ((Jf xs).mem_iff.1 l)) (by rw [a];exact hnc) hcm (by rw [I5,Hf] at htot ⊢;rw [a];exact htot);rw [a] at this;exact this.rw H (λ I y=>by
        have:g=I:=(by simpa [Value.ownBlock] using y);subst this;exact (FJ hb.lt).trans (hR.2.1 g rfl)) hR.2.2
end
section
open Go Go.RowKit
attribute [local irreducible] ewp owp hwp hwq hws Ev Evg Fn T9 V1 U8 U4
attribute [local irreducible] hwx V7
structure Lay where
  jobs:Int
  write:List Int
  read:List Int
  phase:Int
  vars:List Int
instance:Rp Lay where
  isAgg:=true
  size:=5
  R w F cs x:=∃ v0 a b,cs=[.int .i64 x.jobs,v0,a,.int .i64 x.phase,b]/\Vb w F v0 x.write/\Vb w F a x.read/\Vb w F b x.vars/\T3 x.jobs/\T3 x.phase
  len:=by rintro w F cs x ⟨v0,a,b,rfl,h0,h1,h2,h3,h4⟩;rfl
  one:=by rintro w F cs x ⟨v0,a,b,rfl,h0,h1,h2,h3,h4⟩ u hu;simp at hu;rcases hu with rfl|rfl|rfl|rfl|rfl<;>first|rfl|exact Vb.one rfl (by assumption)
  agree:=by rintro w w' F cs x ⟨v0,a,b,rfl,h0,h1,h2,h3,h4⟩ ha;exact ⟨v0,a,b,rfl,h0.agree ha,h1.agree ha,h2.agree ha,h3,h4⟩
  mono:=by rintro w F G cs x ⟨v0,a,b,rfl,h0,h1,h2,h3,h4⟩ ha;exact ⟨v0,a,b,rfl,h0.mono ha,h1.mono ha,h2.mono ha,h3,h4⟩
instance:El Lay λ j i w O x G=>∀ (c:Option Addr) (d:Nat) (e:Option Addr) (f:Nat) (a:Option Addr) (b:Nat),T3 x.jobs->T3 x.phase->Al j (.V (.slice c x.write.length d) x.write :: .V (.slice e x.read.length f) x.read :: .V (.slice a x.vars.length b) x.vars :: .V (.agg #[(.int .i64 x.jobs),(.slice c x.write.length d),(.slice e x.read.length f),(.int .i64 x.phase),(.slice a x.vars.length b)]) x :: i) w O->G (.agg #[(.int .i64 x.jobs),(.slice c x.write.length d),(.slice e x.read.length f),(.int .i64 x.phase),(.slice a x.vars.length b)]):=⟨λ l h k=>by
  have g:=h;unfold Vb at g;obtain ⟨cs,rfl,v1,v2,v3,rfl,h4,h7,h10,r13,r14⟩:=g;obtain ⟨c,d,rfl⟩:=h4.form;obtain ⟨e,f,rfl⟩:=h7.form;obtain ⟨a,b,rfl⟩:=h10.form;exact k c d e f a b r13 r14 ⟨h4,h7,h10,h,l⟩⟩
noncomputable def Er (b:Fct) (c:Int):Option Bool :=
  bnd (if b.var=c then (some true) else (some false):Option Bool) λ a=>some a
theorem MH {w:World} {A:Nat->Prop} (hA:∀ k,A k->k < w.heap.size) {e:Value} {l:Fct} (n:Vb w A e l) {a:Nat} {b:List Value} {m:Int} (f:Blk w a 3 b) (g:A a) (c:Rp.R w A b m) {C:Bool} (hm:Er l m=some C) :
    Fn prog 97 [e,(.pointer (some ⟨a,0,none⟩))] w λ v w'=>Ext w w'/\Vb w' (upA A w w') v C:=by
 obtain ⟨O,hB,d0⟩:=enter hA;have d:Lc 0 w O a 3 b:=⟨f,(d0 a g).2⟩;replace c:=Rp.mono c d0;obtain ⟨rfl,r2⟩:=c;obtain ⟨t,rfl,rfl,r4,r5⟩:=id n;refine AH func97 rfl ntmps97 ?_;unfold Er at hm;refine Ah (Ae (Fi 2 O rfl λ u x y h o=>?_));refine Au rfl (o_z (Ah ?_));obtain ⟨p,a0,hm⟩:=bs hm;refine BF (λ q w'=>∃ (r:Unit) (s:Lab),T7 q [(3,(.bool p))]/\Bs w A w' s) ?_ ?_
 ·refine Ae (AD rfl (AQ (hc:=Blk.cell (i:=0) (o.1) rfl) rfl ?_));replace d:=d.st h;refine AQ (hc:=Blk.cell (i:=0) (d.1) rfl) rfl (Gw rfl rfl (λ j=>?_) λ j=>?_)
  ·replace a0:=ip a0 j;refine Au rfl (o_z ?_);obtain rfl:=sm a0;exact ⟨(),_,⟨rfl,trivial⟩,hB.st h⟩
  replace a0:=im a0 j;refine Au rfl (o_z ?_);obtain rfl:=sm a0;exact ⟨(),_,⟨rfl,trivial⟩,hB.st h⟩
 replace hB:=hB.st h;rintro z B ⟨r,l0,c0,hB⟩;refine AX _ c0 ?_;refine AE ?_;obtain rfl:=sm hm;exact U0 rfl (AF rfl) ⟨hB.ext,vBool⟩
noncomputable def Br (e:List Fct) (f:Int):Option Int :=
  bnd (rng (ρ:=Int) (λ (b:Nat) (c:Fct) (g:Unit)=>bnd (Er c f) λ d=>if d=true then some (.ret (b:Int)) else some (.next ())) e 0 ()) λ a=>fin a λ (h:Unit)=>some (-1)
theorem Fs {w:World} {A:Nat->Prop} (hA:∀ k,A k->k < w.heap.size) {e:Value} {j:List Fct} (m:Vb w A e j) {b:Nat} {c:List Value} {l:Int} (f:Blk w b 3 c) (g:A b) (d:Rp.R w A c l) {P:Int} (hm:Br j l=some P) :
    Fn prog 125 [e,(.func (.func 97) #[] #[(.pointer (some ⟨b,0,none⟩))])] w λ v w'=>Ext w w'/\Vb w' (upA A w w') v P:=by
 obtain ⟨O,hB,n0⟩:=enter hA;have a:Lc 0 w O b 3 c:=⟨f,(n0 b g).2⟩;replace d:=Rp.mono d n0;obtain ⟨rfl,r3⟩:=d;obtain ⟨z,c5,rfl⟩:=m.form;refine AH func125 rfl ntmps125 ?_;unfold Br at hm;refine Ah (Ae (Au rfl (o_z (Ah (Ah (Ae (Ar rfl (AT rfl ?_))))))));have n:=BK m.len;have C:=rngNat n;refine Ar rfl (o_z ?_);obtain ⟨D,s0,hm⟩:=bs hm;refine Dv (X:=Unit) (j.length) s0 rfl n (λ r s=>[(0,(.slice z j.length c5)),(1,(.func (.func 97) #[] #[(.pointer (some ⟨b,0,none⟩))]))]) (λ r s w'=>∃ t:Lab,Bs w A w' t/\Lc 0 w' t b 3 [(.int .i64 l)]) () ⟨O,hB,a⟩ ⟨rfl,rfl,rfl,rfl,trivial⟩ (λ _ _=>rfl) ?_ ?_
 ·rintro E o r s p G u ⟨q,hB,a⟩ a0 b0 h0;have i:=V5 u n;refine Ah (Ae (Ar rfl (Au rfl (o_z (Ah (Ae (Ar rfl (Ar rfl (Ar rfl ?_)))))))));obtain ⟨H,d1,u0,i0,j0,k0,rfl,v0,w0⟩:=(m.zs hA hB).elem' u;refine CN (hA:=i0) (hj:=rfl) (hlt:=j0) rfl rfl (BX (hl:=rfl) (hc:=k0) rfl ?_);obtain ⟨y,z0,a0⟩:=bs a0;refine MC (O:=q) (A:=All p) (R:=λ w' F v=>Vb w' F v y) (MH (λ _ h=>h) (Vb.mono (F:=Fr 0 p q) (Vb.ofAgg (cs:=[(.int .i64 o.var),(.int .i64 o.val)]) (x:=o) rfl ⟨rfl,v0,w0⟩) Fr.lt) a.1 a.1.lt (Rp.mono (F:=Fr 0 p q) (x:=l) (Vb.cells1 (vInt r3)) Fr.lt) z0) rfl rfl rfl rfl λ I J K l0 B=>?_;obtain rfl:=B.bool;cases y
  case false =>
   replace a0:=iF a0;refine o_z (Aj rfl (AK ?_));obtain rfl:=sm a0;exact show Exists _ from ⟨_,(),rfl,⟨rfl,rfl,rfl,rfl,trivial⟩,_,hB.st l0,a.st l0⟩
  replace a0:=iT a0;refine o_z (Am rfl (Ah (Ae (Ar rfl (Au rfl (o_z (AE ?_)))))));obtain rfl:=sm a0;obtain rfl:=b0 _ rfl;obtain rfl:=sm (CU hm);replace hB:=hB.st l0;exact U0 rfl (AF rfl) ⟨hB.ext,(vInt i)⟩
 rintro L M ⟨N,k1,rfl,m0,l1,hB,a⟩;replace hm:=BE hm;refine AX _ m0 ?_;refine Ah (Ae (Au rfl (o_z (AE ?_))));obtain rfl:=sm hm;exact U0 rfl (AF rfl) ⟨hB.ext,(vInt (T8 (-1)))⟩
noncomputable def Bk (b:List Fct) (c:Int):Option Bool :=
  bnd (bnd (Br b c) λ a=>if 0<=a then (some true) else (some false):Option Bool) λ d=>some d
theorem EV {w:World} {A:Nat->Prop} (hA:∀ k,A k->k < w.heap.size) {e:Value} {l:List Fct} (m:Vb w A e l) {a:Nat} {b:List Value} {i:Int} (f:Blk w a 3 b) (g:A a) (c:Rp.R w A b i) {D:Bool} (hm:Bk l i=some D) :
    Fn prog 96 [e,(.func (.func 97) #[] #[(.pointer (some ⟨a,0,none⟩))])] w λ v w'=>Ext w w'/\Vb w' (upA A w w') v D:=by
 obtain ⟨O,hB,e0⟩:=enter hA;have d:Lc 0 w O a 3 b:=⟨f,(e0 a g).2⟩;replace c:=Rp.mono c e0;obtain ⟨rfl,r3⟩:=c;obtain ⟨t,c5,rfl⟩:=m.form;refine AH func96 rfl ntmps96 ?_;unfold Bk at hm;refine Ah (Ae (Au rfl (o_z (Ah ?_))));obtain ⟨o,a0,hm⟩:=bs hm;refine BF (λ p w'=>∃ (q:Unit) (r:Lab),T7 p [(4,(.bool o))]/\Bs w A w' r) ?_ ?_
 ·refine Ae (Ar rfl (Ar rfl ?_));obtain ⟨u,g0,a0⟩:=bs a0;refine Bv (O:=O) (Fs (λ _ h=>h) (Vb.mono (F:=Fr 0 w O) (m.zs hA hB) Fr.lt) d.1 d.1.lt (Rp.mono (F:=Fr 0 w O) (x:=i) (Vb.cells1 (vInt r3)) Fr.lt) g0) rfl λ y z l0 n s=>?_;obtain ⟨rfl,m0⟩:=s.int;refine ER rfl rfl (λ j=>?_) λ j=>?_
  ·replace a0:=ip a0 j;refine Au rfl (o_z ?_);obtain rfl:=sm a0;exact ⟨(),_,⟨rfl,trivial⟩,hB.st n⟩
  replace a0:=im a0 j;refine Au rfl (o_z ?_);obtain rfl:=sm a0;exact ⟨(),_,⟨rfl,trivial⟩,hB.st n⟩
 rintro B C ⟨q,p0,c0,hB⟩;refine AX _ c0 ?_;refine AE ?_;obtain rfl:=sm hm;exact U0 rfl (AF rfl) ⟨hB.ext,vBool⟩
noncomputable def CD (c:List Fct) (d:Int):Option Bool :=
  bnd (bnd (Bk c d) λ a=>if a=true then some true else some false:Option Bool) λ b=>some b
theorem Fb {w:World} {A:Nat->Prop} (hA:∀ k,A k->k < w.heap.size) {a:Value} {e:List Fct} (f:Vb w A a e) {b:Int} (c:T3 b) {C:Bool} (hm:CD e b=some C) :
    Fn prog 60 [a,(.int .i64 b)] w λ v w'=>Ext w w'/\Vb w' (upA A w w') v C:=by
 obtain ⟨O,hB,j0⟩:=enter hA;obtain ⟨s,c4,rfl⟩:=f.form;refine AH func60 rfl ntmps60 ?_;unfold CD at hm;refine Ah (Ae (Fi 2 O rfl λ t g d i j=>?_));refine Au rfl (o_z (Ah ?_));obtain ⟨m,a0,hm⟩:=bs hm;refine BF (λ n w'=>∃ (o:Unit) (p:Lab),T7 n [(4,(.bool m))]/\Bs w A w' p) ?_ ?_
 ·refine Ae (Ar rfl (Ss rfl rfl rfl ?_));obtain ⟨q,h0,a0⟩:=bs a0;replace hB:=hB.st i;refine Bv (O:=d) (EV (λ _ h=>h) (Vb.mono (F:=Fr 0 g d) (f.zs hA hB) Fr.lt) j.1 j.1.lt (Rp.mono (F:=Fr 0 g d) (x:=b) (Vb.cells1 (vInt c)) Fr.lt) h0) rfl λ u l0 y l r=>?_;obtain rfl:=r.bool;cases q
  case false =>
   replace a0:=iF a0;refine Au rfl (o_z ?_);obtain rfl:=sm a0;exact ⟨(),_,⟨rfl,trivial⟩,hB.st l⟩
  replace a0:=iT a0;refine Au rfl (o_z ?_);obtain rfl:=sm a0;exact ⟨(),_,⟨rfl,trivial⟩,hB.st l⟩
 replace hB:=hB.st i;rintro z B ⟨o,p0,b0,hB⟩;refine AX _ b0 ?_;refine AE ?_;obtain rfl:=sm hm;exact U0 rfl (AF rfl) ⟨hB.ext,vBool⟩
noncomputable def Fw (d:Job) (e:Int):Option Bool :=
  bnd (bnd (CD d.atStart e) λ a=>if a=true then some true else bnd (CD d.atEnd e) λ b=>if b=true then some true else some false:Option Bool) λ c=>some c
theorem Py {w:World} {A:Nat->Prop} (hA:∀ k,A k->k < w.heap.size) {e:Value} {n:Job} (l0:Vb w A e n) {b:Nat} {c:List Value} {o:Int} (f:Blk w b 3 c) (g:A b) (d:Rp.R w A c o) {T:Bool} (hm:Fw n o=some T) :
    Fn prog 59 [e,(.pointer (some ⟨b,0,none⟩))] w λ v w'=>Ext w w'/\Vb w' (upA A w w') v T:=by
 obtain ⟨O,hB,f0⟩:=enter hA;have a:Lc 0 w O b 3 c:=⟨f,(f0 b g).2⟩;replace d:=Rp.mono d f0;obtain ⟨rfl,r2⟩:=d;obtain ⟨D,rfl,v4,v5,v6,v7,v8,rfl,h9,m0,n0,g0,h0,b1,c1⟩:=id l0;obtain ⟨E,e1,rfl⟩:=h9.form;obtain ⟨G,g1,rfl⟩:=m0.form;obtain ⟨H,i1,rfl⟩:=n0.form;obtain ⟨I,k1,rfl⟩:=g0.form;obtain ⟨J,m1,rfl⟩:=h0.form;refine AH func59 rfl ntmps59 ?_;unfold Fw at hm;refine Ah (Ae (Fi 2 O rfl λ K s p m j=>?_));refine Au rfl (o_z (Ah ?_));obtain ⟨t,a0,hm⟩:=bs hm;refine BF (λ u w'=>∃ (x:Unit) (y:Lab),T7 u [(3,(.bool t))]/\Bs w A w' y) ?_ ?_
 ·refine Ae (AD rfl (AQ (hc:=Blk.cell (i:=5) (j.1) rfl) rfl ?_));replace a:=a.st m;refine AQ (hc:=Blk.cell (i:=0) (a.1) rfl) rfl ?_;obtain ⟨z,s0,a0⟩:=bs a0;replace hB:=hB.st m;refine Bv (O:=p) (Fb (λ _ h=>h) (Vb.mono (F:=Fr 0 s p) (g0.zs hA hB) Fr.lt) r2 s0) rfl λ L B q l C=>?_;obtain rfl:=C.bool;cases z
  case false =>
   replace a0:=iF a0;refine Ar rfl (Az rfl rfl (AD rfl (Az rfl rfl ?_)));replace j:=j.st l;refine AQ (hc:=Blk.cell (i:=6) (j.1) rfl) rfl (Az rfl rfl ?_);replace a:=a.st l;refine AQ (hc:=Blk.cell (i:=0) (a.1) rfl) rfl (Az rfl rfl ?_);obtain ⟨v0,w0,a0⟩:=bs a0;replace hB:=hB.st l;refine Bv (O:=q) (Fb (λ _ h=>h) (Vb.mono (F:=Fr 0 B q) (h0.zs hA hB) Fr.lt) r2 w0) rfl λ M N P r z0=>?_;obtain rfl:=z0.bool;cases v0
   case false =>
    replace a0:=iF a0;refine Bd rfl rfl (Au rfl (o_z ?_));obtain rfl:=sm a0;exact ⟨(),_,⟨rfl,trivial⟩,hB.st r⟩
   replace a0:=iT a0;refine Bd rfl rfl (Au rfl (o_z ?_));obtain rfl:=sm a0;exact ⟨(),_,⟨rfl,trivial⟩,hB.st r⟩
  replace a0:=iT a0;refine Ar rfl (Aw rfl rfl (Aw rfl rfl (Aw rfl rfl (Aw rfl rfl (Bt rfl rfl (Au rfl (o_z ?_)))))));obtain rfl:=sm a0;exact ⟨(),_,⟨rfl,trivial⟩,hB.st l⟩
 replace hB:=hB.st m;rintro Q S ⟨x,u1,e0,hB⟩;refine AX _ e0 ?_;refine AE ?_;obtain rfl:=sm hm;exact U0 rfl (AF rfl) ⟨hB.ext,vBool⟩
noncomputable def BC (e:List Job) (f:Int):Option Int :=
  bnd (rng (ρ:=Int) (λ (b:Nat) (c:Job) (g:Unit)=>bnd (Fw c f) λ d=>if d=true then some (.ret (b:Int)) else some (.next ())) e 0 ()) λ a=>fin a λ (h:Unit)=>some (-1)
theorem FW {w:World} {A:Nat->Prop} (hA:∀ k,A k->k < w.heap.size) {f:Value} {l:List Job} (n:Vb w A f l) {b:Nat} {c:List Value} {m:Int} (g:Blk w b 3 c) (i:A b) (d:Rp.R w A c m) {U:Int} (hm:BC l m=some U) :
    Fn prog 95 [f,(.func (.func 59) #[] #[(.pointer (some ⟨b,0,none⟩))])] w λ v w'=>Ext w w'/\Vb w' (upA A w w') v U:=by
 obtain ⟨O,hB,n0⟩:=enter hA;have a:Lc 0 w O b 3 c:=⟨g,(n0 b i).2⟩;replace d:=Rp.mono d n0;obtain ⟨rfl,r3⟩:=d;obtain ⟨y,c5,rfl⟩:=n.form;refine AH func95 rfl ntmps95 ?_;unfold BC at hm;refine Ah (Ae (Au rfl (o_z (Ah (Ah (Ae (Ar rfl (AT rfl ?_))))))));have o:=BK n.len;have H:=rngNat o;refine Ar rfl (o_z ?_);obtain ⟨I,z0,hm⟩:=bs hm;refine Dv (X:=Unit) (l.length) z0 rfl o (λ r s=>[(0,(.slice y l.length c5)),(1,(.func (.func 59) #[] #[(.pointer (some ⟨b,0,none⟩))]))]) (λ r s w'=>∃ t:Lab,Bs w A w' t/\Lc 0 w' t b 3 [(.int .i64 m)]) () ⟨O,hB,a⟩ ⟨rfl,rfl,rfl,rfl,trivial⟩ (λ _ _=>rfl) ?_ ?_
 ·rintro J e r s p K u ⟨q,hB,a⟩ a0 c0 h0;have j:=V5 u o;refine Ah (Ae (Ar rfl (Au rfl (o_z (Ah (Ae (Ar rfl (Ar rfl (Ar rfl ?_)))))))));obtain ⟨L,s1,b1,i0,j0,k0,t1,u1,v1,w1,x1,rfl,q0,r0,s0,t0,u0,c1,d1⟩:=(n.zs hA hB).elem' u;obtain ⟨z,f1,rfl⟩:=q0.form;obtain ⟨B,h1,rfl⟩:=r0.form;obtain ⟨C,j1,rfl⟩:=s0.form;obtain ⟨D,l1,rfl⟩:=t0.form;obtain ⟨E,n1,rfl⟩:=u0.form;refine CN (hA:=i0) (hj:=rfl) (hlt:=j0) rfl rfl (BX (hl:=rfl) (hc:=k0) rfl ?_);obtain ⟨v0,o1,a0⟩:=bs a0;refine MC (O:=q) (A:=All p) (R:=λ w' F v=>Vb w' F v v0) (Py (λ _ h=>h) (Vb.mono (F:=Fr 0 p q) (Vb.ofAgg (cs:=[(.string e.name),(.int .i64 e.dur),(.slice z e.start.length f1),(.slice B e.over.length h1),(.slice C e.fin.length j1),(.slice D e.atStart.length l1),(.slice E e.atEnd.length n1)]) (x:=e) rfl ⟨_,_,_,_,_,rfl,q0,r0,s0,t0,u0,c1,d1⟩) Fr.lt) a.1 a.1.lt (Rp.mono (F:=Fr 0 p q) (x:=m) (Vb.cells1 (vInt r3)) Fr.lt) o1) rfl rfl rfl rfl λ M N P l0 G=>?_;obtain rfl:=G.bool;cases v0
  case false =>
   replace a0:=iF a0;refine o_z (Aj rfl (AK ?_));obtain rfl:=sm a0;exact show Exists _ from ⟨_,(),rfl,⟨rfl,rfl,rfl,rfl,trivial⟩,_,hB.st l0,a.st l0⟩
  replace a0:=iT a0;refine o_z (Am rfl (Ah (Ae (Ar rfl (Au rfl (o_z (AE ?_)))))));obtain rfl:=sm a0;obtain rfl:=c0 _ rfl;obtain rfl:=sm (CU hm);replace hB:=hB.st l0;exact U0 rfl (AF rfl) ⟨hB.ext,(vInt j)⟩
 rintro Q S ⟨T,e2,rfl,m0,f2,hB,a⟩;replace hm:=BE hm;refine AX _ m0 ?_;refine Ah (Ae (Au rfl (o_z (AE ?_))));obtain rfl:=sm hm;exact U0 rfl (AF rfl) ⟨hB.ext,(vInt (T8 (-1)))⟩
noncomputable def Bg (b:List Job) (c:Int):Option Bool :=
  bnd (bnd (BC b c) λ a=>if 0<=a then (some true) else (some false):Option Bool) λ d=>some d
theorem FG {w:World} {A:Nat->Prop} (hA:∀ k,A k->k < w.heap.size) {e:Value} {l:List Job} (m:Vb w A e l) {a:Nat} {b:List Value} {i:Int} (f:Blk w a 3 b) (g:A a) (c:Rp.R w A b i) {D:Bool} (hm:Bg l i=some D) :
    Fn prog 58 [e,(.func (.func 59) #[] #[(.pointer (some ⟨a,0,none⟩))])] w λ v w'=>Ext w w'/\Vb w' (upA A w w') v D:=by
 obtain ⟨O,hB,e0⟩:=enter hA;have d:Lc 0 w O a 3 b:=⟨f,(e0 a g).2⟩;replace c:=Rp.mono c e0;obtain ⟨rfl,r3⟩:=c;obtain ⟨t,c5,rfl⟩:=m.form;refine AH func58 rfl ntmps58 ?_;unfold Bg at hm;refine Ah (Ae (Au rfl (o_z (Ah ?_))));obtain ⟨o,a0,hm⟩:=bs hm;refine BF (λ p w'=>∃ (q:Unit) (r:Lab),T7 p [(4,(.bool o))]/\Bs w A w' r) ?_ ?_
 ·refine Ae (Ar rfl (Ar rfl ?_));obtain ⟨u,g0,a0⟩:=bs a0;refine Bv (O:=O) (FW (λ _ h=>h) (Vb.mono (F:=Fr 0 w O) (m.zs hA hB) Fr.lt) d.1 d.1.lt (Rp.mono (F:=Fr 0 w O) (x:=i) (Vb.cells1 (vInt r3)) Fr.lt) g0) rfl λ y z l0 n s=>?_;obtain ⟨rfl,m0⟩:=s.int;refine ER rfl rfl (λ j=>?_) λ j=>?_
  ·replace a0:=ip a0 j;refine Au rfl (o_z ?_);obtain rfl:=sm a0;exact ⟨(),_,⟨rfl,trivial⟩,hB.st n⟩
  replace a0:=im a0 j;refine Au rfl (o_z ?_);obtain rfl:=sm a0;exact ⟨(),_,⟨rfl,trivial⟩,hB.st n⟩
 rintro B C ⟨q,p0,c0,hB⟩;refine AX _ c0 ?_;refine AE ?_;obtain rfl:=sm hm;exact U0 rfl (AF rfl) ⟨hB.ext,vBool⟩
noncomputable def Fx (d:Job) (e:Int):Option Bool :=
  bnd (bnd (CD d.start e) λ a=>if a=true then some true else bnd (CD d.fin e) λ b=>if b=true then some true else some false:Option Bool) λ c=>some c
theorem Pz {w:World} {A:Nat->Prop} (hA:∀ k,A k->k < w.heap.size) {e:Value} {n:Job} (s:Vb w A e n) {b:Nat} {c:List Value} {o:Int} (f:Blk w b 3 c) (g:A b) (d:Rp.R w A c o) {U:Bool} (hm:Fx n o=some U) :
    Fn prog 61 [e,(.pointer (some ⟨b,0,none⟩))] w λ v w'=>Ext w w'/\Vb w' (upA A w w') v U:=by
 obtain ⟨O,hB,f0⟩:=enter hA;have a:Lc 0 w O b 3 c:=⟨f,(f0 b g).2⟩;replace d:=Rp.mono d f0;obtain ⟨rfl,r2⟩:=d;obtain ⟨E,rfl,v4,v5,v6,v7,v8,rfl,h9,l0,g0,m0,n0,b1,c1⟩:=id s;obtain ⟨G,e1,rfl⟩:=h9.form;obtain ⟨H,g1,rfl⟩:=l0.form;obtain ⟨I,i1,rfl⟩:=g0.form;obtain ⟨J,k1,rfl⟩:=m0.form;obtain ⟨K,m1,rfl⟩:=n0.form;refine AH func61 rfl ntmps61 ?_;unfold Fx at hm;refine Ah (Ae (Fi 2 O rfl λ L t p m j=>?_));refine Au rfl (o_z (Ah ?_));obtain ⟨u,a0,hm⟩:=bs hm;refine BF (λ x w'=>∃ (y:Unit) (z:Lab),T7 x [(3,(.bool u))]/\Bs w A w' z) ?_ ?_
 ·refine Ae (AD rfl (AQ (hc:=Blk.cell (i:=2) (j.1) rfl) rfl ?_));replace a:=a.st m;refine AQ (hc:=Blk.cell (i:=0) (a.1) rfl) rfl ?_;obtain ⟨B,s0,a0⟩:=bs a0;replace hB:=hB.st m;refine Bv (O:=p) (Fb (λ _ h=>h) (Vb.mono (F:=Fr 0 t p) (h9.zs hA hB) Fr.lt) r2 s0) rfl λ M C q l D=>?_;obtain rfl:=D.bool;cases B
  case false =>
   replace a0:=iF a0;refine Ar rfl (Az rfl rfl (AD rfl (Az rfl rfl ?_)));replace j:=j.st l;refine AQ (hc:=Blk.cell (i:=4) (j.1) rfl) rfl (Az rfl rfl ?_);replace a:=a.st l;refine AQ (hc:=Blk.cell (i:=0) (a.1) rfl) rfl (Az rfl rfl ?_);obtain ⟨v0,w0,a0⟩:=bs a0;replace hB:=hB.st l;refine Bv (O:=q) (Fb (λ _ h=>h) (Vb.mono (F:=Fr 0 C q) (g0.zs hA hB) Fr.lt) r2 w0) rfl λ N P Q r z0=>?_;obtain rfl:=z0.bool;cases v0
   case false =>
    replace a0:=iF a0;refine Bd rfl rfl (Au rfl (o_z ?_));obtain rfl:=sm a0;exact ⟨(),_,⟨rfl,trivial⟩,hB.st r⟩
   replace a0:=iT a0;refine Bd rfl rfl (Au rfl (o_z ?_));obtain rfl:=sm a0;exact ⟨(),_,⟨rfl,trivial⟩,hB.st r⟩
  replace a0:=iT a0;refine Ar rfl (Aw rfl rfl (Aw rfl rfl (Aw rfl rfl (Aw rfl rfl (Bt rfl rfl (Au rfl (o_z ?_)))))));obtain rfl:=sm a0;exact ⟨(),_,⟨rfl,trivial⟩,hB.st l⟩
 replace hB:=hB.st m;rintro S T ⟨y,u1,e0,hB⟩;refine AX _ e0 ?_;refine AE ?_;obtain rfl:=sm hm;exact U0 rfl (AF rfl) ⟨hB.ext,vBool⟩
noncomputable def BD (e:List Job) (f:Int):Option Int :=
  bnd (rng (ρ:=Int) (λ (b:Nat) (c:Job) (g:Unit)=>bnd (Fx c f) λ d=>if d=true then some (.ret (b:Int)) else some (.next ())) e 0 ()) λ a=>fin a λ (h:Unit)=>some (-1)
theorem FX {w:World} {A:Nat->Prop} (hA:∀ k,A k->k < w.heap.size) {f:Value} {l:List Job} (n:Vb w A f l) {b:Nat} {c:List Value} {m:Int} (g:Blk w b 3 c) (i:A b) (d:Rp.R w A c m) {U:Int} (hm:BD l m=some U) :
    Fn prog 95 [f,(.func (.func 61) #[] #[(.pointer (some ⟨b,0,none⟩))])] w λ v w'=>Ext w w'/\Vb w' (upA A w w') v U:=by
 obtain ⟨O,hB,n0⟩:=enter hA;have a:Lc 0 w O b 3 c:=⟨g,(n0 b i).2⟩;replace d:=Rp.mono d n0;obtain ⟨rfl,r3⟩:=d;obtain ⟨y,c5,rfl⟩:=n.form;refine AH func95 rfl ntmps95 ?_;unfold BD at hm;refine Ah (Ae (Au rfl (o_z (Ah (Ah (Ae (Ar rfl (AT rfl ?_))))))));have o:=BK n.len;have H:=rngNat o;refine Ar rfl (o_z ?_);obtain ⟨I,z0,hm⟩:=bs hm;refine Dv (X:=Unit) (l.length) z0 rfl o (λ r s=>[(0,(.slice y l.length c5)),(1,(.func (.func 61) #[] #[(.pointer (some ⟨b,0,none⟩))]))]) (λ r s w'=>∃ t:Lab,Bs w A w' t/\Lc 0 w' t b 3 [(.int .i64 m)]) () ⟨O,hB,a⟩ ⟨rfl,rfl,rfl,rfl,trivial⟩ (λ _ _=>rfl) ?_ ?_
 ·rintro J e r s p K u ⟨q,hB,a⟩ a0 c0 h0;have j:=V5 u o;refine Ah (Ae (Ar rfl (Au rfl (o_z (Ah (Ae (Ar rfl (Ar rfl (Ar rfl ?_)))))))));obtain ⟨L,s1,b1,i0,j0,k0,t1,u1,v1,w1,x1,rfl,q0,r0,s0,t0,u0,c1,d1⟩:=(n.zs hA hB).elem' u;obtain ⟨z,f1,rfl⟩:=q0.form;obtain ⟨B,h1,rfl⟩:=r0.form;obtain ⟨C,j1,rfl⟩:=s0.form;obtain ⟨D,l1,rfl⟩:=t0.form;obtain ⟨E,n1,rfl⟩:=u0.form;refine CN (hA:=i0) (hj:=rfl) (hlt:=j0) rfl rfl (BX (hl:=rfl) (hc:=k0) rfl ?_);obtain ⟨v0,o1,a0⟩:=bs a0;refine MC (O:=q) (A:=All p) (R:=λ w' F v=>Vb w' F v v0) (Pz (λ _ h=>h) (Vb.mono (F:=Fr 0 p q) (Vb.ofAgg (cs:=[(.string e.name),(.int .i64 e.dur),(.slice z e.start.length f1),(.slice B e.over.length h1),(.slice C e.fin.length j1),(.slice D e.atStart.length l1),(.slice E e.atEnd.length n1)]) (x:=e) rfl ⟨_,_,_,_,_,rfl,q0,r0,s0,t0,u0,c1,d1⟩) Fr.lt) a.1 a.1.lt (Rp.mono (F:=Fr 0 p q) (x:=m) (Vb.cells1 (vInt r3)) Fr.lt) o1) rfl rfl rfl rfl λ M N P l0 G=>?_;obtain rfl:=G.bool;cases v0
  case false =>
   replace a0:=iF a0;refine o_z (Aj rfl (AK ?_));obtain rfl:=sm a0;exact show Exists _ from ⟨_,(),rfl,⟨rfl,rfl,rfl,rfl,trivial⟩,_,hB.st l0,a.st l0⟩
  replace a0:=iT a0;refine o_z (Am rfl (Ah (Ae (Ar rfl (Au rfl (o_z (AE ?_)))))));obtain rfl:=sm a0;obtain rfl:=c0 _ rfl;obtain rfl:=sm (CU hm);replace hB:=hB.st l0;exact U0 rfl (AF rfl) ⟨hB.ext,(vInt j)⟩
 rintro Q S ⟨T,e2,rfl,m0,f2,hB,a⟩;replace hm:=BE hm;refine AX _ m0 ?_;refine Ah (Ae (Au rfl (o_z (AE ?_))));obtain rfl:=sm hm;exact U0 rfl (AF rfl) ⟨hB.ext,(vInt (T8 (-1)))⟩
noncomputable def Bh (b:List Job) (c:Int):Option Bool :=
  bnd (bnd (BD b c) λ a=>if 0<=a then (some true) else (some false):Option Bool) λ d=>some d
theorem FH {w:World} {A:Nat->Prop} (hA:∀ k,A k->k < w.heap.size) {e:Value} {l:List Job} (m:Vb w A e l) {a:Nat} {b:List Value} {i:Int} (f:Blk w a 3 b) (g:A a) (c:Rp.R w A b i) {D:Bool} (hm:Bh l i=some D) :
    Fn prog 58 [e,(.func (.func 61) #[] #[(.pointer (some ⟨a,0,none⟩))])] w λ v w'=>Ext w w'/\Vb w' (upA A w w') v D:=by
 obtain ⟨O,hB,e0⟩:=enter hA;have d:Lc 0 w O a 3 b:=⟨f,(e0 a g).2⟩;replace c:=Rp.mono c e0;obtain ⟨rfl,r3⟩:=c;obtain ⟨t,c5,rfl⟩:=m.form;refine AH func58 rfl ntmps58 ?_;unfold Bh at hm;refine Ah (Ae (Au rfl (o_z (Ah ?_))));obtain ⟨o,a0,hm⟩:=bs hm;refine BF (λ p w'=>∃ (q:Unit) (r:Lab),T7 p [(4,(.bool o))]/\Bs w A w' r) ?_ ?_
 ·refine Ae (Ar rfl (Ar rfl ?_));obtain ⟨u,g0,a0⟩:=bs a0;refine Bv (O:=O) (FX (λ _ h=>h) (Vb.mono (F:=Fr 0 w O) (m.zs hA hB) Fr.lt) d.1 d.1.lt (Rp.mono (F:=Fr 0 w O) (x:=i) (Vb.cells1 (vInt r3)) Fr.lt) g0) rfl λ y z l0 n s=>?_;obtain ⟨rfl,m0⟩:=s.int;refine ER rfl rfl (λ j=>?_) λ j=>?_
  ·replace a0:=ip a0 j;refine Au rfl (o_z ?_);obtain rfl:=sm a0;exact ⟨(),_,⟨rfl,trivial⟩,hB.st n⟩
  replace a0:=im a0 j;refine Au rfl (o_z ?_);obtain rfl:=sm a0;exact ⟨(),_,⟨rfl,trivial⟩,hB.st n⟩
 rintro B C ⟨q,p0,c0,hB⟩;refine AX _ c0 ?_;refine AE ?_;obtain rfl:=sm hm;exact U0 rfl (AF rfl) ⟨hB.ext,vBool⟩
noncomputable def FO (h:Tpl):Option Lay :=
  bnd (Cx h.vars) λ u=>bnd (rng (ρ:=Lay) (λ (v:Nat) (i:Job) (j:(List Int))=>bnd (T4 (i.dur + 2)) λ k=>bnd (T5 8 j ([k,2]:List Int)) λ l=>some (.next l)) h.jobs 0 u) λ e=>fin e λ (m:(List Int))=>bnd (rng (ρ:=Lay) (λ (g:Nat) (w:Int) (a:(List Int)×(List Int)×(List Int))=>bnd (bnd (Bg h.jobs (g:Int)) λ n=>if n=true then bnd (T5 8 a.2.2 [2]) λ c=>bnd (Bh h.jobs (g:Int)) λ o=>if o=true then bnd (T5 8 c [2]) λ p=>some ((a.2.2.length:Int),(c.length:Int),p) else some ((a.2.2.length:Int),(-1),c) else some ((-1),(-1),a.2.2):Option (Int×Int×(List Int))) λ d=>bnd (T5 8 a.1 ([d.1]:List Int)) λ q=>bnd (T5 8 a.2.1 ([d.2.1]:List Int)) λ r=>some (.next (q,r,d.2.2))) h.vars 0 (([]:List Int),([]:List Int),m)) λ f=>fin f λ (b:(List Int)×(List Int)×(List Int))=>bnd (T4 ((h.jobs.length:Int) + 2)) λ s=>bnd (T5 8 b.2.2 [s]) λ t=>some (⟨(h.vars.length:Int),b.1,b.2.1,(b.2.2.length:Int),t⟩:Lay)
theorem RR {w:World} {A:Nat->Prop} (hA:∀ k,A k->k < w.heap.size) {vx0:Value} {x0:Tpl} (g9:Vb w A vx0 x0) {r:Lay} (hm:FO x0=some r) :
    Fn prog 18 [vx0] w λ v w'=>Ext w w'/\Vb w' (upA A w w') v r:=by
 obtain ⟨O,hB,fE⟩:=enter hA;obtain ⟨gE,rfl,v3,v4,v5,v6,rfl,h7,h9,i9,w3⟩:=id g9;obtain ⟨A8,c9,rfl⟩:=h7.form;obtain ⟨m5,n5,rfl⟩:=h9.form;obtain ⟨o5,p5,rfl⟩:=i9.form;obtain ⟨b5,c5,rfl⟩:=w3.form;refine AH func18 rfl ntmps18 ?_;unfold FO at hm;refine Ah (Ae (Fi 2 O rfl λ n2 hE j9 y8 g0=>?_));refine Bw 3 j9 λ o2 iE k9 q5 i0=>?_;refine o_z (Ah ?_);obtain ⟨m1,l9,hm⟩:=bs hm;refine BT [] k9 ?_;refine AP (fuel:=4) [] (BL (DX 0 5)) rfl (AU rfl rfl ?_);replace g0:=g0.st q5;refine Bc (hc:=By g0 0 rfl) rfl rfl (LL rfl rfl ?_);have m9:=BK h7.len;have n9:=rngNat m9;refine AU rfl rfl (Bc (hc:=By g0 0 rfl) rfl rfl (AC (Qm (l0:=[(1,(.pointer (some ⟨n2,0,none⟩))),(2,(.pointer (some ⟨o2,0,none⟩))),(11,(.int .i64 (x0.vars.length:Int))),(13,(.slice A8 x0.vars.length c9))]) (zs:=[⟨5,14,λ v w O=>∃ (d5:Option Addr),∃ (e5:Nat),v=(.slice d5 m1.length e5)/\Rw 4 w O 3 (.slice d5 m1.length e5) m1⟩,⟨6,15,λ v w O=>∃ (f5:Option Addr),∃ (g5:Nat),v=(.agg #[(.int .i64 (x0.vars.length:Int)),(.slice none 0 0),(.slice none 0 0),(.int .i64 0),(.slice f5 m1.length g5)])/\T3 (x0.vars.length:Int)/\Rw 4 w O 3 (.slice f5 m1.length g5) m1⟩,⟨7,3,λ v w O=>∃ (h5:Nat),v=(.pointer (some ⟨h5,0,none⟩))/\Lc 5 w O h5 57 [(.int .i64 0),(.slice none 0 0),(.slice none 0 0),(.int .i64 0),(.slice none 0 0)]⟩]) #[true,true,true,true,true,true,true,true,false] 1 [] ⟨rfl,rfl,rfl,rfl,trivial⟩ ⟨⟨λ _ _ _ _ _ ⟨d5,e5,e,o9⟩ hS=>⟨d5,e5,e,o9.st hS id id⟩,?_⟩,⟨λ _ _ _ _ _ ⟨f5,g5,e,p9,q9⟩ hS=>⟨f5,g5,e,p9,q9.st hS id id⟩,?_⟩,⟨λ _ _ _ _ _ ⟨h5,e,r9⟩ hS=>⟨h5,e,r9.st hS id⟩,?_⟩,trivial⟩ ?_ rfl)))
 ·refine ⟨_,rfl,λ jE kE s9 t9 r5 hD49=>?_⟩;refine ⟨[(13,(.slice A8 x0.vars.length c9))],⟨AN r5 13 _ rfl,trivial⟩,λ Q50 hQ51=>?_⟩;replace hB:=((hB.st y8).st q5).st t9;refine GH 4 (O:=s9) (GA Fr.lt (h7.zs hA hB) l9) rfl rfl λ lE mE nE oE u9 v9=>?_;refine Cv (hQ51 _ _ ⟨_,_,rfl,u9,⟨_,_,rfl,v9⟩⟩)
 ·refine ⟨_,rfl,λ pE w9 x9 qE s5 hD77=>?_⟩;obtain ⟨_,y9,z8,a9,rfl,t5⟩:=hD77.at 0 rfl (by kernel_rfl);replace t5:Rw 4 w9 x9 3 (.slice z8 m1.length a9) m1:=t5;refine ⟨[(11,(.int .i64 (x0.vars.length:Int))),(14,(.slice z8 m1.length a9))],⟨AN s5 11 _ rfl,y9,trivial⟩,λ Q78 hQ79=>?_⟩;refine ai ?_;refine Cv (hQ79 _ _ ⟨_,_,rfl,St.refl _ _ _,⟨_,_,rfl,n9,t5⟩⟩)
 ·refine ⟨_,rfl,λ z9 aA u5 bA b9 hD105=>?_⟩;refine ⟨[],trivial,λ Q106 hQ107=>?_⟩;refine Bw 5 u5 λ cA dA eA w5 x5=>?_;refine Cv (hQ107 _ _ ⟨_,_,rfl,w5,⟨_,rfl,x5⟩⟩)
 intro fA y5 x3 t2 p2 hD124;obtain ⟨_,z5,b1,rfl,a0⟩:=hD124.at 2 rfl rfl;obtain ⟨_,a6,u2,v2,rfl,w2,n1⟩:=hD124.at 1 rfl rfl;replace w2:T3 (x0.vars.length:Int):=w2;replace n1:Rw 4 y5 x3 3 (.slice u2 m1.length v2) m1:=n1;refine Qb [(1,(.pointer (some ⟨n2,0,none⟩))),(2,(.pointer (some ⟨o2,0,none⟩))),(3,(.pointer (some ⟨b1,0,none⟩))),(15,(.agg #[(.int .i64 (x0.vars.length:Int)),(.slice none 0 0),(.slice none 0 0),(.int .i64 0),(.slice u2 m1.length v2)]))] ⟨AN p2 1 _ rfl,AN p2 2 _ rfl,z5,a6,trivial⟩ ?_;refine AJ (i:=8) rfl ?_;refine AR a0 rfl rfl rfl (AY) (allOne) λ gA a2 a0=>?_;refine BM (Bi (Ah (Ah (Ae (AD rfl ?_)))));replace g0:=(g0.st t2).st a2;refine AQ (hc:=Blk.cell (i:=3) (g0.1) rfl) rfl (AT rfl ?_);have x2:=BK w3.len;have iA:=rngNat x2;refine Ar rfl (o_z ?_);obtain ⟨b6,y3,hm⟩:=bs hm;replace hB:=(((hB.st y8).st q5).st t2).st a2;replace i0:=(i0.st t2).st a2;replace n1:=n1.st a2;refine Dv (X:=(Option Addr×Nat)) (x0.jobs.length) y3 rfl x2 (λ o1 f1=>[(1,(.pointer (some ⟨n2,0,none⟩))),(2,(.pointer (some ⟨o2,0,none⟩))),(3,(.pointer (some ⟨b1,0,none⟩))),(17,(.slice b5 x0.jobs.length c5))]) (λ o1 f1 w'=>∃ O':Lab,Bs w A w' O'/\Lc 2 w' O' n2 26 [(.slice A8 x0.vars.length c9),(.slice m5 x0.init.length n5),(.slice o5 x0.goal.length p5),(.slice b5 x0.jobs.length c5)]/\Lc 3 w' O' o2 57 [(.int .i64 0),(.slice none 0 0),(.slice none 0 0),(.int .i64 0),(.slice none 0 0)]/\Lc 5 w' O' b1 57 [(.int .i64 (x0.vars.length:Int)),(.slice none 0 0),(.slice none 0 0),(.int .i64 0),(.slice f1.1 o1.length f1.2)]/\Rw 4 w' O' 3 (.slice f1.1 o1.length f1.2) o1) (u2,v2) ⟨x3,hB,g0,i0,a0,n1⟩ ⟨rfl,rfl,rfl,rfl,rfl,rfl,trivial⟩ (λ _ _=>rfl) ?_ ?_
 ·rintro jA kA o1 f1 lA d9 q2 ⟨c6,hB,g0,i0,a0,p1⟩ u0 i5 j5;have rk142:=V5 q2 x2;refine Ah (Ae ?_);obtain ⟨mA,nA,e9,z3,a4,b4,oA,pA,qA,rA,sA,rfl,d6,e6,f6,g6,h6,tA,uA⟩:=(w3.zs hA hB).elem' q2;obtain ⟨vA,wA,rfl⟩:=d6.form;obtain ⟨xA,yA,rfl⟩:=e6.form;obtain ⟨zA,aB,rfl⟩:=f6.form;obtain ⟨bB,cB,rfl⟩:=g6.form;obtain ⟨dB,eB,rfl⟩:=h6.form;refine CN (hA:=z3) (hj:=rfl) (hlt:=a4) rfl rfl (BX (hl:=rfl) (hc:=b4) rfl ?_);refine Bw 6 c6 λ fB gB i6 y2 z2=>?_;refine AR z2 rfl rfl rfl (AY) (allOne) λ iB a3 z2=>?_;refine o_z (Ae (AD rfl ?_));replace a0:=(a0.st y2).st a3;refine AQ (hc:=Blk.cell (i:=4) (a0.1) rfl) rfl (AD rfl (AQ (hc:=Blk.cell (i:=1) (z2.1) rfl) rfl ?_));obtain ⟨j6,c4,u0⟩:=bs u0;have k6:=(BJ c4);refine DD (he:=c4) rfl rfl ?_;refine BI 7 i6 (xs:=(([j6,2]:List Int):List Int)) rfl rfl rfl ⟨(vInt k6),(vInt (T8 2)),trivial⟩ λ jB kB lB b3 l6=>?_;obtain ⟨mB,c3,u0⟩:=bs u0;obtain ⟨c3,m6,n6⟩:=Bz c3;replace p1:=((p1.st y2).st a3).st b3;refine Cj rfl p1 (l6.rd) rfl rfl m6 n6 λ o6 p6 nB oB d4 e4=>?_;rw [<- c3] at e4 ⊢;refine AD rfl ?_;replace a0:=(a0.st b3).st d4;refine AR a0 rfl rfl rfl (AY) (allOne) λ pB f4 a0=>?_;refine o_z ?_;obtain rfl:=sm u0;have q1:=(((y2.an a3).an b3).an d4).an f4;exact show Exists _ from ⟨_,(o6,p6),rfl,⟨rfl,rfl,rfl,rfl,rfl,rfl,trivial⟩,_,hB.st q1,g0.st q1,i0.st q1,a0,e4.st f4⟩
 rintro qB rB ⟨sB,g4,rfl,h4,q6,hB,g0,i0,a0,p1⟩;replace hm:=BE hm;refine AX _ h4 ?_;refine Ah (Ah (Ae (AD rfl (AQ (hc:=Blk.cell (i:=0) (g0.1) rfl) rfl (AT rfl ?_)))));have d3:=BK h7.len;have tB:=rngNat d3;refine Ar rfl (o_z ?_);obtain ⟨r6,i4,hm⟩:=bs hm;refine Dv (X:=(Option Addr×Nat)×(Option Addr×Nat)×(Option Addr×Nat)) (x0.vars.length) i4 rfl d3 (λ f0 c0=>[(1,(.pointer (some ⟨n2,0,none⟩))),(2,(.pointer (some ⟨o2,0,none⟩))),(3,(.pointer (some ⟨b1,0,none⟩)))]) (λ f0 c0 w'=>∃ O':Lab,Bs w A w' O'/\Lc 2 w' O' n2 26 [(.slice A8 x0.vars.length c9),(.slice m5 x0.init.length n5),(.slice o5 x0.goal.length p5),(.slice b5 x0.jobs.length c5)]/\Lc 3 w' O' o2 57 [(.int .i64 0),(.slice none 0 0),(.slice none 0 0),(.int .i64 0),(.slice none 0 0)]/\Lc 5 w' O' b1 57 [(.int .i64 (x0.vars.length:Int)),(.slice c0.1.1 f0.1.length c0.1.2),(.slice c0.2.1.1 f0.2.1.length c0.2.1.2),(.int .i64 0),(.slice c0.2.2.1 f0.2.2.length c0.2.2.2)]/\Rw 10 w' O' 3 (.slice c0.1.1 f0.1.length c0.1.2) f0.1/\Rw 12 w' O' 3 (.slice c0.2.1.1 f0.2.1.length c0.2.1.2) f0.2.1/\Rw 4 w' O' 3 (.slice c0.2.2.1 f0.2.2.length c0.2.2.2) f0.2.2) ((none,0),(none,0),(g4.1,g4.2)) ⟨q6,hB,g0,i0,a0,(Rw.nil 10 (by decide)),(Rw.nil 12 (by decide)),p1⟩ ⟨rfl,rfl,rfl,rfl,rfl,trivial⟩ (λ _ _=>rfl) ?_ ?_
 ·rintro e3 uB f0 c0 vB f9 j4 ⟨s6,hB,g0,i0,a0,d0,e0,m0⟩ h0 k5 l5;have rk227:=V5 j4 d3;refine Ah (Ae (Ar rfl (Bw 8 s6 λ wB xB f3 v0 w0=>?_)));refine AR w0 rfl rfl rfl (AY) (allOne) λ k4 y0 w0=>?_;refine o_z (Ah (Ae (Au rfl (Au rfl (o_z (Ah ?_))))));obtain ⟨j0,b0,h0⟩:=bs h0;refine BF (λ l' w'=>∃ (k0:(Option Addr×Nat)) (O':Lab),T7 l' [(1,(.pointer (some ⟨n2,0,none⟩))),(2,(.pointer (some ⟨o2,0,none⟩))),(3,(.pointer (some ⟨b1,0,none⟩))),(7,(.int .i64 j0.1)),(8,(.int .i64 j0.2.1)),(34,(.int .i64 (x0.vars.length:Int))),(35,(.int .i64 (e3:Int)))]/\Bs w A w' O'/\Lc 2 w' O' n2 26 [(.slice A8 x0.vars.length c9),(.slice m5 x0.init.length n5),(.slice o5 x0.goal.length p5),(.slice b5 x0.jobs.length c5)]/\Lc 3 w' O' o2 57 [(.int .i64 0),(.slice none 0 0),(.slice none 0 0),(.int .i64 0),(.slice none 0 0)]/\Lc 5 w' O' b1 57 [(.int .i64 (x0.vars.length:Int)),(.slice c0.1.1 f0.1.length c0.1.2),(.slice c0.2.1.1 f0.2.1.length c0.2.1.2),(.int .i64 0),(.slice k0.1 j0.2.2.length k0.2)]/\Rw 10 w' O' 3 (.slice c0.1.1 f0.1.length c0.1.2) f0.1/\Rw 12 w' O' 3 (.slice c0.2.1.1 f0.2.1.length c0.2.1.2) f0.2.1/\Rw 4 w' O' 3 (.slice k0.1 j0.2.2.length k0.2) j0.2.2/\T3 j0.1/\T3 j0.2.1) ?_ ?_
  ·refine Ah (Ae (AD rfl ?_));replace g0:=(g0.st v0).st y0;refine AQ (hc:=Blk.cell (i:=3) (g0.1) rfl) rfl (Ss rfl rfl rfl ?_);obtain ⟨t6,u6,b0⟩:=bs b0;replace hB:=(hB.st v0).st y0;refine Bv (O:=f3) (FG (λ _ h=>h) (Vb.mono (F:=Fr 0 k4 f3) (w3.zs hA hB) Fr.lt) w0.1 w0.1.lt (Rp.mono (F:=Fr 0 k4 f3) (x:=(e3:Int)) (Vb.cells1 (vInt rk227)) Fr.lt) u6) rfl λ yB zB aC o0 w6=>?_;obtain rfl:=w6.bool;cases t6
   case false =>
    replace b0:=iF b0;refine o_z (Aj rfl (AK ?_));obtain rfl:=sm b0;have z0:=(v0.an y0).an o0;exact ⟨(c0.2.2.1,c0.2.2.2),_,⟨rfl,rfl,rfl,rfl,rfl,rfl,rfl,trivial⟩,hB.st o0,g0.st o0,i0.st z0,a0.st z0,d0.st z0,e0.st z0,m0.st z0,(T8 (-1)),(T8 (-1))⟩
   replace b0:=iT b0;refine o_z (Am rfl (Ah (Ae (AD rfl ?_))));replace a0:=((a0.st v0).st y0).st o0;refine AQ (hc:=Blk.cell (i:=4) (a0.1) rfl) rfl (AT rfl ?_);replace m0:=((m0.st v0).st y0).st o0;have x6:=BK m0.len;have l4:=rngNat x6;refine Au rfl (o_z (Ah (Ae (AD rfl (AQ (hc:=Blk.cell (i:=4) (a0.1) rfl) rfl ?_)))));obtain ⟨bC,g3,b0⟩:=bs b0;obtain ⟨g3,y6,z6⟩:=Bz g3;refine DQ rfl (a:=2) m0 (vInt (T8 2)) (λ _=>rfl) rfl y6 z6 ⟨rfl,rfl⟩ λ cC a7 b7 dC h3 r1 g1=>?_;rw [<- g3] at g1 ⊢;refine AD rfl ?_;replace a0:=a0.st r1;refine AR a0 rfl rfl rfl (AY) (allOne) λ m4 h1 a0=>?_;refine o_z (Ah (Ae (AD rfl ?_)));replace g0:=((g0.st o0).st r1).st h1;refine AQ (hc:=Blk.cell (i:=3) (g0.1) rfl) rfl (Ss rfl rfl rfl ?_);obtain ⟨c7,d7,b0⟩:=bs b0;have r2:=(o0.an r1).an h1;replace hB:=hB.st r2;replace w0:=w0.st r2;refine Bv (O:=h3) (FH (λ _ h=>h) (Vb.mono (F:=Fr 0 m4 h3) (w3.zs hA hB) Fr.lt) w0.1 w0.1.lt (Rp.mono (F:=Fr 0 m4 h3) (x:=(e3:Int)) (Vb.cells1 (vInt rk227)) Fr.lt) d7) rfl λ eC fC gC p0 e7=>?_;obtain rfl:=e7.bool;cases c7
   case false =>
    replace b0:=iF b0;refine o_z (Aj rfl (AK ?_));obtain rfl:=sm b0;have s1:=((((v0.an y0).an o0).an r1).an h1).an p0;exact ⟨(a7,b7),_,⟨rfl,rfl,rfl,rfl,rfl,rfl,rfl,trivial⟩,hB.st p0,g0.st p0,i0.st s1,a0.st p0,d0.st s1,e0.st s1,(g1.st h1).st p0,l4,(T8 (-1))⟩
   replace b0:=iT b0;refine o_z (Am rfl (Ah (Ae (AD rfl ?_))));replace a0:=a0.st p0;refine AQ (hc:=Blk.cell (i:=4) (a0.1) rfl) rfl (AT rfl ?_);replace g1:=(g1.st h1).st p0;have f7:=BK g1.len;have g7:=rngNat f7;refine Au rfl (o_z (Ae (AD rfl (AQ (hc:=Blk.cell (i:=4) (a0.1) rfl) rfl ?_))));obtain ⟨hC,i3,b0⟩:=bs b0;obtain ⟨i3,i7,j7⟩:=Bz i3;refine DQ rfl (a:=2) g1 (vInt (T8 2)) (λ _=>rfl) rfl i7 j7 ⟨rfl,rfl⟩ λ iC k7 l7 jC kC j3 n4=>?_;rw [<- i3] at n4 ⊢;refine AD rfl ?_;replace a0:=a0.st j3;refine AR a0 rfl rfl rfl (AY) (allOne) λ lC k3 a0=>?_;refine o_z ?_;obtain rfl:=sm b0;have s2:=(p0.an j3).an k3;have t1:=((((((v0.an y0).an o0).an r1).an h1).an p0).an j3).an k3;exact ⟨(k7,l7),_,⟨rfl,rfl,rfl,rfl,rfl,rfl,rfl,trivial⟩,hB.st s2,g0.st s2,i0.st t1,a0,d0.st t1,e0.st t1,n4.st k3,l4,g7⟩
  have n0:=v0.an y0;replace hB:=hB.st n0;replace g0:=g0.st n0;replace i0:=i0.st n0;replace a0:=a0.st n0;replace d0:=d0.st n0;replace e0:=e0.st n0;rintro mC nC ⟨k0,l3,o4,hB,g0,i0,a0,d0,e0,m3,p4,n3⟩;refine AX _ o4 ?_;obtain ⟨oC,q0,h0⟩:=bs h0;obtain ⟨pC,r0,h0⟩:=bs h0;refine BT [(4,[10]),(9,[12]),(11,[5])] l3 ?_;refine AP (fuel:=11) [] (BL [0,1,2]) rfl (AU rfl rfl (Bc (hc:=By a0 1 rfl) rfl rfl (AS rfl rfl (AC ?_))));refine AP (fuel:=8) [10] (BL [5,6,7]) rfl (AU rfl rfl (Bc (hc:=By a0 2 rfl) rfl rfl (AS rfl rfl (AC ?_))));refine EC (i:=3) (j:=8) rfl rfl ?_ ?_
  ·refine BI 9 l3 (xs:=(([j0.1]:List Int):List Int)) rfl rfl rfl ⟨(vInt p4),trivial⟩ λ qC rC m7 s0 b2=>?_;have hZ:=lZ s0;refine Be [(4,[10]),(9,[12]),(11,[5])] hZ ?_;refine EC (i:=4) (j:=8) rfl rfl ?_ ?_
   ·obtain ⟨q0,n7,o7⟩:=Bz q0;replace d0:=d0.st s0;refine Cj rfl d0 (b2.rd) rfl rfl n7 o7 λ p7 q7 sC r7 c2 q4=>?_;rw [<- q0] at q4 ⊢;have hZ:=c2.lst [10] (λ _ h=>by cases h;decide);refine Be [(9,[12]),(11,[5])] hZ ?_;refine AP (fuel:=5) [12] [(10,true)] rfl (AU rfl rfl (AC (AJ (i:=8) rfl ?_)));refine BI 11 r7 (xs:=(([j0.2.1]:List Int):List Int)) rfl rfl rfl ⟨(vInt n3),trivial⟩ λ tC uC vC u1 s7=>?_;have hZ:=lZ u1;refine Be [(9,[12]),(11,[5])] hZ (AJ (i:=9) rfl ?_);obtain ⟨r0,t7,u7⟩:=Bz r0;replace e0:=((e0.st s0).st c2).st u1;refine Cj rfl e0 (s7.rd) rfl rfl t7 u7 λ v7 w7 wC xC d2 r4=>?_;rw [<- r0] at r4 ⊢;have hZ:=d2.lst [12] (λ _ h=>by cases h;decide);refine Be [(11,[5])] hZ (AJ (i:=11) rfl ?_);replace a0:=(((a0.st s0).st c2).st u1).st d2;refine AR a0 rfl rfl rfl (AY) (allOne) λ yC e2 a0=>?_;have hZ:=e2.lst [5] (λ _ h=>by cases h;decide);refine Be [] hZ ?_;refine AP (fuel:=1) [] [(12,true)] rfl (AU rfl rfl (AC (AJ (i:=13) rfl ?_)));refine AR a0 rfl rfl rfl (AY) (allOne) λ zC o3 a0=>?_;refine BM (Bi ?_);obtain rfl:=sm h0;have c1:=((((s0.an c2).an u1).an d2).an e2).an o3;exact show Exists _ from ⟨_,((p7,q7),(v7,w7),(k0.1,k0.2)),rfl,⟨rfl,rfl,rfl,rfl,rfl,trivial⟩,_,hB.st c1,g0.st c1,i0.st c1,a0,(((q4.st u1).st d2).st e2).st o3,(r4.st e2).st o3,m3.st c1⟩
   refine BI 11 m7 (xs:=(([j0.2.1]:List Int):List Int)) rfl rfl rfl ⟨(vInt n3),trivial⟩ λ aD bD cD i1 p3=>?_;have hZ:=lZ i1;refine Be [(4,[10]),(9,[12]),(11,[5])] hZ (AJ (i:=4) rfl ?_);obtain ⟨q0,x7,y7⟩:=Bz q0;replace d0:=(d0.st s0).st i1;replace b2:=b2.st i1;refine Cj rfl d0 (b2.rd) rfl rfl x7 y7 λ z7 a8 dD eD v1 s4=>?_;rw [<- q0] at s4 ⊢;have hZ:=v1.lst [10] (λ _ h=>by cases h;decide);refine Be [(9,[12]),(11,[5])] hZ ?_;refine AP (fuel:=4) [12] [(10,true)] rfl (AU rfl rfl (AC (AJ (i:=9) rfl ?_)));obtain ⟨r0,b8,c8⟩:=Bz r0;replace e0:=((e0.st s0).st i1).st v1;replace p3:=p3.st v1;refine Cj rfl e0 (p3.rd) rfl rfl b8 c8 λ d8 e8 fD gD f2 t4=>?_;rw [<- r0] at t4 ⊢;have hZ:=f2.lst [12] (λ _ h=>by cases h;decide);refine Be [(11,[5])] hZ (AJ (i:=11) rfl ?_);replace a0:=(((a0.st s0).st i1).st v1).st f2;refine AR a0 rfl rfl rfl (AY) (allOne) λ hD g2 a0=>?_;have hZ:=g2.lst [5] (λ _ h=>by cases h;decide);refine Be [] hZ ?_;refine AP (fuel:=1) [] [(12,true)] rfl (AU rfl rfl (AC (AJ (i:=13) rfl ?_)));refine AR a0 rfl rfl rfl (AY) (allOne) λ iD q3 a0=>?_;refine BM (Bi ?_);obtain rfl:=sm h0;have d1:=((((s0.an i1).an v1).an f2).an g2).an q3;exact show Exists _ from ⟨_,((z7,a8),(d8,e8),(k0.1,k0.2)),rfl,⟨rfl,rfl,rfl,rfl,rfl,trivial⟩,_,hB.st d1,g0.st d1,i0.st d1,a0,((s4.st f2).st g2).st q3,(t4.st g2).st q3,m3.st d1⟩
  refine BI 11 l3 (xs:=(([j0.2.1]:List Int):List Int)) rfl rfl rfl ⟨(vInt n3),trivial⟩ λ jD kD f8 w1 r3=>?_;have hZ:=lZ w1;refine Be [(4,[10]),(9,[12]),(11,[5])] hZ (AJ (i:=3) rfl ?_);refine BI 9 f8 (xs:=(([j0.1]:List Int):List Int)) rfl rfl rfl ⟨(vInt p4),trivial⟩ λ lD mD nD j1 g8=>?_;have hZ:=lZ j1;refine Be [(4,[10]),(9,[12]),(11,[5])] hZ (AJ (i:=4) rfl ?_);obtain ⟨q0,h8,i8⟩:=Bz q0;replace d0:=(d0.st w1).st j1;refine Cj rfl d0 (g8.rd) rfl rfl h8 i8 λ j8 k8 oD pD x1 u4=>?_;rw [<- q0] at u4 ⊢;have hZ:=x1.lst [10] (λ _ h=>by cases h;decide);refine Be [(9,[12]),(11,[5])] hZ ?_;refine AP (fuel:=4) [12] [(10,true)] rfl (AU rfl rfl (AC (AJ (i:=9) rfl ?_)));obtain ⟨r0,l8,m8⟩:=Bz r0;replace e0:=((e0.st w1).st j1).st x1;replace r3:=(r3.st j1).st x1;refine Cj rfl e0 (r3.rd) rfl rfl l8 m8 λ n8 o8 qD rD h2 w4=>?_;rw [<- r0] at w4 ⊢;have hZ:=h2.lst [12] (λ _ h=>by cases h;decide);refine Be [(11,[5])] hZ (AJ (i:=11) rfl ?_);replace a0:=(((a0.st w1).st j1).st x1).st h2;refine AR a0 rfl rfl rfl (AY) (allOne) λ sD i2 a0=>?_;have hZ:=i2.lst [5] (λ _ h=>by cases h;decide);refine Be [] hZ ?_;refine AP (fuel:=1) [] [(12,true)] rfl (AU rfl rfl (AC (AJ (i:=13) rfl ?_)));refine AR a0 rfl rfl rfl (AY) (allOne) λ tD s3 a0=>?_;refine BM (Bi ?_);obtain rfl:=sm h0;have e1:=((((w1.an j1).an x1).an h2).an i2).an s3;exact show Exists _ from ⟨_,((j8,k8),(n8,o8),(k0.1,k0.2)),rfl,⟨rfl,rfl,rfl,rfl,rfl,trivial⟩,_,hB.st e1,g0.st e1,i0.st e1,a0,((u4.st h2).st i2).st s3,(w4.st i2).st s3,m3.st e1⟩
 rintro uD vD ⟨t0,a1,rfl,x4,wD,hB,g0,i0,a0,d0,e0,m0⟩;replace hm:=BE hm;refine AX _ x4 ?_;refine Ah (Ae (AD rfl (AQ (hc:=Blk.cell (i:=4) (a0.1) rfl) rfl (AT rfl ?_))));have p8:=BK m0.len;have q8:=rngNat p8;refine AD rfl (AR a0 rfl rfl rfl (AY) (allOne) λ xD k1 a0=>?_);refine o_z (Ah (Ae (AD rfl (AQ (hc:=Blk.cell (i:=4) (a0.1) rfl) rfl (AD rfl ?_)))));replace g0:=g0.st k1;refine AQ (hc:=Blk.cell (i:=3) (g0.1) rfl) rfl (AT rfl ?_);have r8:=BK w3.len;have yD:=rngNat r8;obtain ⟨s8,y4,hm⟩:=bs hm;have t8:=(BJ y4);refine DD (he:=y4) rfl rfl ?_;obtain ⟨t3,u3,hm⟩:=bs hm;obtain ⟨u3,u8,v8⟩:=Bz u3;replace m0:=m0.st k1;refine DQ rfl (a:=s8) m0 (vInt t8) (λ _=>rfl) rfl u8 v8 ⟨rfl,rfl⟩ λ zD z4 a5 aE bE y1 l1=>?_;rw [<- u3] at l1 ⊢;refine AD rfl ?_;replace a0:=a0.st y1;refine AR a0 rfl rfl rfl (AY) (allOne) λ cE z1 a0=>?_;refine o_z (Ah (Ae (BX (hl:=rfl) (hc:=(a0.1).cellsAt) rfl ?_)));replace i0:=((i0.st k1).st y1).st z1;refine AR i0 rfl rfl rfl (AY) (allOne) λ w8 j2 i0=>?_;refine o_z (AE ?_);replace d0:=(((d0.st k1).st y1).st z1).st j2;obtain ⟨dE,k2,d0⟩:=d0.freeze;replace e0:=((((e0.st k1).st y1).st z1).st j2).st k2;obtain ⟨eE,l2,e0⟩:=e0.freeze;replace l1:=(((l1.st z1).st j2).st k2).st l2;obtain ⟨x8,m2,l1⟩:=l1.freeze;obtain rfl:=sm hm;replace hB:=((((((hB.st k1).st y1).st z1).st j2).st k2).st l2).st m2;replace i0:=((i0.st k2).st l2).st m2;replace d0:=(d0.st l2).st m2;replace e0:=e0.st m2;exact U0 rfl (DH (cs:=[(.int .i64 (x0.vars.length:Int)),(.slice a1.1.1 t0.1.length a1.1.2),(.slice a1.2.1.1 t0.2.1.length a1.2.1.2),(.int .i64 (t0.2.2.length:Int)),(.slice z4 t3.length a5)]) rfl rfl i0.1.cellsAt) ⟨hB.ext,(Vb.mono (F:=Fr 0 w8 x8) (Vb.ofAgg (cs:=[(.int .i64 (x0.vars.length:Int)),(.slice a1.1.1 t0.1.length a1.1.2),(.slice a1.2.1.1 t0.2.1.length a1.2.1.2),(.int .i64 (t0.2.2.length:Int)),(.slice z4 t3.length a5)]) (x:=(⟨(x0.vars.length:Int),t0.1,t0.2.1,(t0.2.2.length:Int),t3⟩:Lay)) rfl ⟨_,_,_,rfl,d0,e0,l1,w2,q8⟩) hB.out)⟩
noncomputable def BP (c:Lay) (d:Int):Option Int :=
  bnd (T4 (2 * d)) λ a=>bnd (T4 (c.jobs + a)) λ b=>some b
section
attribute [local irreducible] Vb Lc Rw Ob
theorem BZ {w:World} {A:Nat->Prop} (hA:∀ k,A k->k < w.heap.size) {a:Value} {c:Lay} (d:Vb w A a c) {b:Int} (e:T3 b) {h:Int} (hm:BP c b=some h) :
    Fn prog 20 [a,(.int .i64 b)] w λ v w'=>Ext w w'/\Vb w' (upA A w w') v h:=by
 obtain ⟨_,_,_⟩:=CP hA;apply Ct d;intros;refine AH func20 rfl ntmps20 ?_;unfold BP at hm;refine Ah (Ae (Do 2 ?_));intros;refine Au rfl (o_z (Ah (Ae (AD rfl (AW (Ar rfl ?_))))));obtain ⟨f,b0,hm⟩:=bs hm;refine JL (he:=b0) rfl rfl ?_;obtain ⟨g,c0,hm⟩:=bs hm;refine DD (he:=c0) rfl rfl (Au rfl (o_z (AE ?_)));obtain rfl:=sm hm;exact Cb
end
noncomputable def CV (d:Lay) (e:Int):Option Int :=
  bnd (T4 (2 * e)) λ a=>bnd (T4 (d.jobs + a)) λ b=>bnd (T4 (b + 1)) λ c=>some c
section
attribute [local irreducible] Vb Lc Rw Ob
theorem BV {w:World} {A:Nat->Prop} (hA:∀ k,A k->k < w.heap.size) {a:Value} {c:Lay} (d:Vb w A a c) {b:Int} (e:T3 b) {i:Int} (hm:CV c b=some i) :
    Fn prog 21 [a,(.int .i64 b)] w λ v w'=>Ext w w'/\Vb w' (upA A w w') v i:=by
 obtain ⟨_,_,_⟩:=CP hA;apply Ct d;intros;refine AH func21 rfl ntmps21 ?_;unfold CV at hm;refine Ah (Ae (Do 2 ?_));intros;refine Au rfl (o_z (Ah (Ae (AD rfl (AW (Ar rfl ?_))))));obtain ⟨f,b0,hm⟩:=bs hm;refine JL (he:=b0) rfl rfl ?_;obtain ⟨g,c0,hm⟩:=bs hm;refine DD (he:=c0) rfl rfl ?_;obtain ⟨h,d0,hm⟩:=bs hm;refine DD (he:=d0) rfl rfl (Au rfl (o_z (AE ?_)));obtain rfl:=sm hm;exact Cb
end
noncomputable def BY (k:List (List Fct)):Option (List Fct) :=
  bnd (rng (ρ:=(List Fct)) (λ (n:Nat) (d:List Fct) (l:Int)=>bnd (T4 (l + (d.length:Int))) λ b=>if b < 0 then (none) else (some (.next b))) k 0 0) λ c=>fin c λ (e:Int)=>bnd (Dd e) λ f=>bnd (rng (ρ:=(List Fct)) (λ (m:Nat) (g:List Fct) (h:(List Fct))=>bnd (T5 16 h g) λ i=>some (.next i)) k 0 f) λ a=>fin a λ (j:(List Fct))=>some j
section
attribute [local irreducible] Vb Lc Rw Ob
theorem Ir {w:World} {A:Nat->Prop} (hA:∀ k,A k->k < w.heap.size) {b:Value} {h:List (List Fct)} (i:Vb w A b h) {z:(List Fct)} (hm:BY h=some z) :
    Fn prog 62 [b] w λ v w'=>Ext w w'/\RowR w w' (upA A w w') 61 v z:=by
 obtain ⟨_,_,_⟩:=CP hA;apply Ct i;intros;refine AH func62 rfl ntmps62 ?_;unfold BY at hm;refine Ah (Ae (Au rfl (o_z (Ah (Ae (Au rfl (o_z (Ah (Ah (Ae (Ar rfl (AT rfl (Ar rfl (o_z ?_))))))))))))));refine Df (X:=Unit) hm [0,9] [] [] [] (λ _ _ c _ t=>(3,.int .i64 c) :: t) (λ _ _ c _ t=>fI c :: t) () ?_ ?_
 ·intro j l c _ _ _ _ a m _ n;intros;refine Ah (Ae (CZ ?_));intros;refine En (Au rfl (o_z (Ah (Ae (Ar rfl (Ar rfl (AT rfl ?_)))))));obtain ⟨o,j0,a⟩:=bs a;refine DD (he:=j0) rfl rfl (Au rfl (o_z (Ah (Ae (Ar rfl (Eb rfl rfl (λ e=>?_) λ e=>?_))))))
  ·replace a:=ip a e;refine o_z (Am rfl ?_);exact nomatch a
  replace a:=im a e;refine o_z (Aj rfl (AK ?_));exact Cl () a
 intro p _ _ _ _ hm;intros;refine Bu ?_;refine Ah (Ae (Ar rfl ?_));obtain ⟨q,k0,hm⟩:=bs hm;refine Xm 2 rfl (IO Fr.lt zI k0) ?_;intros;refine Au rfl (o_z (Ah (Ah (Ae (Ar rfl (AT rfl (Ar rfl (o_z (Df (X:=(Option Addr×Nat)) hm [25] [] [2] [] (λ _ _ d f t=>(6,sv f d) :: t) (λ _ _ d f t=>fR 2 61 f d :: t) (_,_) ?_ ?_)))))))))
 ·intro r s d _ _ _ _ g l0 _ u;intros;refine Ah (Ae (CZ ?_));intros;refine En (Au rfl (o_z (Ae (Ar rfl (Ar rfl ?_)))));obtain ⟨x,m0,g⟩:=bs g;refine Dp m0 ?_;intros;refine Au rfl (o_z ?_);exact Cl (_,_) g
 intro y _ _ _ _ hm;intros;refine Bu ?_;refine Ah (Ae (Ar rfl (Au rfl (o_z (AE ?_)))));obtain rfl:=sm hm;exact AaB
end
noncomputable def Du (l:Lay) (s:List Fct) (t:List Fct):Option ((List Fct)×(List Eff)) :=
  bnd (rng (ρ:=(List Fct)×(List Eff)) (λ (b:Nat) (c:Int) (a:(List Fct)×(List Eff))=>bnd (CD t (b:Int)) λ m=>if m=true then bnd (T5 16 a.1 [(⟨c,0⟩:Fct)]) λ f=>bnd (bnd (l.read[b]?) λ g=>if 0<=g then (bnd (l.read[b]?) λ h=>bnd (T5 16 f [(⟨h,0⟩:Fct)]) λ i=>some i) else (some f):Option (List Fct)) λ j=>bnd (T5 40 a.2 [(⟨([]:List Fct),c,1⟩:Eff)]) λ k=>some (.next (j,k)) else bnd (bnd (CD s (b:Int)) λ n=>if n=true then if 0<=c then (some true) else (some false) else some false:Option Bool) λ o=>if o=true then (bnd (T5 16 a.1 [(⟨c,0⟩:Fct)]) λ p=>bnd (l.read[b]?) λ q=>bnd (T5 40 a.2 [(⟨([]:List Fct),q,1⟩:Eff)]) λ r=>some (.next (p,r))) else (some (.next (a.1,a.2)))) l.write 0 (([]:List Fct),([]:List Eff))) λ e=>fin e λ (d:(List Fct)×(List Eff))=>some (d.1,d.2)
section
attribute [local irreducible] Vb Lc Rw Ob
theorem LR {w:World} {A:Nat->Prop} (hA:∀ k,A k->k < w.heap.size) {e:Value} {p:Lay} (s:Vb w A e p) {f:Value} {q:List Fct} (u:Vb w A f q) {g:Value} {r:List Fct} (x:Vb w A g r) {O:(List Fct)×(List Eff)} (hm:Du p q r=some O) :
    Fn prog 63 [e,f,g] w λ v w'=>Ext w w'/\T2 w' (upA A w w') v O:=by
 obtain ⟨_,_,_⟩:=CP hA;apply Ct s;intros;apply Ct u;intros;apply Ct x;intros;refine AH func63 rfl ntmps63 ?_;unfold Du at hm;refine Ah (Ae (Do 2 ?_));intros;refine Au rfl (Au rfl (o_z (Ah (Ah (Ae (AD rfl (AW (AT rfl (Ar rfl (o_z ?_))))))))));refine Df (X:=(Option Addr×Nat)×(Option Addr×Nat)) hm [1,2,3] [] [3,4] [] (λ _ _ d i t=>(6,sv i.1 d.1) :: (7,sv i.2 d.2) :: t) (λ _ _ d i t=>fR 3 61 i.1 d.1 :: fR 4 68 i.2 d.2 :: t) ((_,_),(_,_)) ?_ ?_
 ·intro B C d _ _ _ _ a D _ E;intros;refine Ah (Ae (Ar rfl (Au rfl (o_z (Ci (Ah (Ae (Ar rfl (Ar rfl ?_)))))))));obtain ⟨y,t0,a⟩:=bs a;refine Dj rfl (Fb (λ _ h=>h) zA zI t0) ?_;intros;cases y
  case false =>
   replace a:=iF a;refine Au rfl (o_z (Aj rfl (Ah (Ck (X:=Unit) a [1,2,3,6,7,8,11,12] [] [] [] (λ _ _ l _ t=>(52,.bool l) :: t) (λ _ _ _ _ t=>t) ?_ ?_))))
   ·intro l b;refine Ae (Ar rfl (Ar rfl ?_));obtain ⟨z,v0,b⟩:=bs b;refine Dj rfl (Fb (λ _ h=>h) zA zI v0) ?_;intros;cases z
    case false =>
     replace b:=iF b;refine Ar rfl (Aw rfl rfl (Aw rfl rfl (Aw rfl rfl (Aw rfl rfl (Aw rfl rfl (Aw rfl rfl (Bd rfl rfl (Au rfl (o_z ?_)))))))));obtain rfl:=sm b;exact AV ()
    replace b:=iT b;refine Ar rfl (Az rfl rfl (AD rfl (Az rfl rfl (AW (Az rfl rfl (Ar rfl (Az rfl rfl ?_)))))));refine CZ ?_;intros;refine Az rfl rfl (En (Az rfl rfl (ER rfl rfl (λ m=>?_) λ m=>?_)))
    ·replace b:=ip b m;refine Bt rfl rfl (Au rfl (o_z ?_));obtain rfl:=sm b;exact AV ()
    replace b:=im b m;refine Bt rfl rfl (Au rfl (o_z ?_));obtain rfl:=sm b;exact AV ()
   intro l _ _ _ _ a;intros;refine Bu ?_;refine BH rfl (λ l0=>?_) (λ l0=>?_)
   ·replace a:=ip a l0;refine Ah (Ae (Ar rfl (AD rfl (AW (Ar rfl ?_)))));refine CZ ?_;intros;refine En (CX rfl rfl ?_);obtain ⟨F,w0,a⟩:=bs a;refine NG w0 ?_;intros;refine Au rfl (o_z (Ae (Ar rfl (AD rfl (AW (Ar rfl ?_))))));obtain ⟨G,l1,a⟩:=bs a;refine CZ ?_;intros;refine En (CX rfl rfl ?_);obtain ⟨H,y0,a⟩:=bs a;refine NG y0 ?_;intros;refine Au rfl (o_z ?_);exact Cl ((_,_),(_,_)) a
   replace a:=im' a l0;refine AK ?_;exact Cl ((_,_),(_,_)) a
  replace a:=iT a;refine Au rfl (o_z (Am rfl (Ah (Ae (Ar rfl (AD rfl (AW (Ar rfl ?_))))))));refine CZ ?_;intros;refine En (CX rfl rfl ?_);obtain ⟨I,z0,a⟩:=bs a;refine NG z0 ?_;intros;refine Au rfl (o_z (Ah (Ck (X:=(Option Addr×Nat)) a [1,2,3,7,8,11,12] [] [3] [] (λ _ _ j n t=>(6,sv n j) :: t) (λ _ _ j n t=>fR 3 61 n j :: t) ?_ ?_)))
  ·intro j c;refine Ah (Ae (AD rfl (AW (Ar rfl ?_))));obtain ⟨J,b1,c⟩:=bs c;refine CZ ?_;intros;refine En (ER rfl rfl (λ o=>?_) λ o=>?_)
   ·replace c:=ip c o;refine o_z (Am rfl (Ae (Ar rfl (AD rfl (AW (Ar rfl ?_))))));obtain ⟨K,d1,c⟩:=bs c;refine CZ ?_;intros;refine En (CX rfl rfl ?_);obtain ⟨L,m0,c⟩:=bs c;refine NG m0 ?_;intros;refine Au rfl (o_z ?_);obtain rfl:=sm c;exact AV (_,_)
   replace c:=im c o;refine o_z (Aj rfl (AK ?_));obtain rfl:=sm c;exact AV (_,_)
  intro j _ _ _ _ a;intros;refine Bu ?_;refine Ae (Ar rfl (AD rfl (AW (Ar rfl ?_))));refine CZ ?_;intros;refine En (CX rfl rfl ?_);obtain ⟨M,n0,a⟩:=bs a;refine NG n0 ?_;intros;refine Au rfl (o_z ?_);exact Cl ((_,_),(_,_)) a
 intro N _ _ _ _ hm;intros;refine Bu ?_;refine Ah (Ae (Ar rfl (Ar rfl (Au rfl (Au rfl (o_z (AE (Gz 3 ?_))))))));intros;refine Gz 4 ?_;intros;obtain rfl:=sm hm;exact KX
end
noncomputable def BR (k:List (List Eff)):Option (List Eff) :=
  bnd (rng (ρ:=(List Eff)) (λ (n:Nat) (d:List Eff) (l:Int)=>bnd (T4 (l + (d.length:Int))) λ b=>if b < 0 then (none) else (some (.next b))) k 0 0) λ c=>fin c λ (e:Int)=>bnd (CJ e) λ f=>bnd (rng (ρ:=(List Eff)) (λ (m:Nat) (g:List Eff) (h:(List Eff))=>bnd (T5 40 h g) λ i=>some (.next i)) k 0 f) λ a=>fin a λ (j:(List Eff))=>some j
section
attribute [local irreducible] Vb Lc Rw Ob
theorem HH {w:World} {A:Nat->Prop} (hA:∀ k,A k->k < w.heap.size) {b:Value} {h:List (List Eff)} (i:Vb w A b h) {z:(List Eff)} (hm:BR h=some z) :
    Fn prog 64 [b] w λ v w'=>Ext w w'/\RowR w w' (upA A w w') 68 v z:=by
 obtain ⟨_,_,_⟩:=CP hA;apply Ct i;intros;refine AH func64 rfl ntmps64 ?_;unfold BR at hm;refine Ah (Ae (Au rfl (o_z (Ah (Ae (Au rfl (o_z (Ah (Ah (Ae (Ar rfl (AT rfl (Ar rfl (o_z ?_))))))))))))));refine Df (X:=Unit) hm [0,9] [] [] [] (λ _ _ c _ t=>(3,.int .i64 c) :: t) (λ _ _ c _ t=>fI c :: t) () ?_ ?_
 ·intro j l c _ _ _ _ a m _ n;intros;refine Ah (Ae (CZ ?_));intros;refine En (Au rfl (o_z (Ah (Ae (Ar rfl (Ar rfl (AT rfl ?_)))))));obtain ⟨o,j0,a⟩:=bs a;refine DD (he:=j0) rfl rfl (Au rfl (o_z (Ah (Ae (Ar rfl (Eb rfl rfl (λ e=>?_) λ e=>?_))))))
  ·replace a:=ip a e;refine o_z (Am rfl ?_);exact nomatch a
  replace a:=im a e;refine o_z (Aj rfl (AK ?_));exact Cl () a
 intro p _ _ _ _ hm;intros;refine Bu ?_;refine Ah (Ae (Ar rfl ?_));obtain ⟨q,k0,hm⟩:=bs hm;refine Xm 2 rfl (HV Fr.lt zI k0) ?_;intros;refine Au rfl (o_z (Ah (Ah (Ae (Ar rfl (AT rfl (Ar rfl (o_z (Df (X:=(Option Addr×Nat)) hm [25] [] [2] [] (λ _ _ d f t=>(6,sv f d) :: t) (λ _ _ d f t=>fR 2 68 f d :: t) (_,_) ?_ ?_)))))))))
 ·intro r s d _ _ _ _ g l0 _ u;intros;refine Ah (Ae (CZ ?_));intros;refine En (Au rfl (o_z (Ae (Ar rfl (Ar rfl ?_)))));obtain ⟨x,m0,g⟩:=bs g;refine Dp m0 ?_;intros;refine Au rfl (o_z ?_);exact Cl (_,_) g
 intro y _ _ _ _ hm;intros;refine Bu ?_;refine Ah (Ae (Ar rfl (Au rfl (o_z (AE ?_)))));obtain rfl:=sm hm;exact AaB
end
noncomputable def Cu (k:Lay) (n:ByteArray) (l:List Fct) (m:List Fct) (o:List Fct) (p:List Eff):Option Opr :=
  bnd (BY [l,o,[(⟨k.phase,0⟩:Fct)]]) λ i=>bnd (rng (ρ:=Opr) (λ (q:Nat) (d:Fct) (j:(List Eff))=>bnd (T5 40 j [(⟨([]:List Fct),d.var,d.val⟩:Eff)]) λ e=>some (.next e)) m 0 ([]:List Eff)) λ c=>fin c λ (f:(List Eff))=>bnd (Du k l m) λ a=>bnd (T5 16 i a.1) λ b=>bnd (BR [f,p,a.2]) λ g=>bnd (if b.length < 4611686018427387904 then some (AM b) else none) λ h=>some (⟨n,0,h,g⟩:Opr)
theorem HA {w:World} {A:Nat->Prop} (hA:∀ k,A k->k < w.heap.size) {vx0:Value} {x0:Lay} (e3:Vb w A vx0 x0) {x1:ByteArray} (zx1:x1.size<=9223372036854775807) {vx2:Value} {x2:List Fct} (w1:Vb w A vx2 x2) {vx3:Value} {x3:List Fct} (v1:Vb w A vx3 x3) {vx4:Value} {x4:List Fct} (f3:Vb w A vx4 x4) {vx5:Value} {x5:List Eff} (g3:Vb w A vx5 x5) {r:Opr} (hm:Cu x0 x1 x2 x3 x4 x5=some r) :
    Fn prog 22 [vx0,(.string x1),vx2,vx3,vx4,vx5] w λ v w'=>Ext w w'/\Vb w' (upA A w w') v r:=by
 obtain ⟨O,hB,f6⟩:=enter hA;obtain ⟨g6,rfl,v8,v9,h6,rfl,v3,w3,y3,i6,z3⟩:=id e3;obtain ⟨a4,b4,rfl⟩:=v3.form;obtain ⟨c4,d4,rfl⟩:=w3.form;obtain ⟨e4,f4,rfl⟩:=y3.form;obtain ⟨g4,h4,rfl⟩:=w1.form;obtain ⟨h3,i3,rfl⟩:=v1.form;obtain ⟨j6,k6,rfl⟩:=f3.form;obtain ⟨i4,j4,rfl⟩:=g3.form;refine AH func22 rfl ntmps22 ?_;unfold Cu at hm;refine Ah (Ae (Fi 2 O rfl λ j3 l6 k4 l4 j0=>?_));refine Bw 3 k4 λ k3 m6 m4 l3 d0=>?_;refine o_z (Ah (Ae (Ar rfl (Ar rfl (Ar rfl (AD rfl ?_))))));replace j0:=j0.st l3;refine AQ (hc:=Blk.cell (i:=3) (j0.1) rfl) rfl (CX rfl rfl ?_);refine BI 4 m4 (xs:=([(⟨x0.phase,0⟩:Fct)]:List Fct)) rfl rfl rfl ⟨(Vb.ofAgg (cs:=[(.int .i64 x0.phase),(.int .i64 0)]) (x:=(⟨x0.phase,0⟩:Fct)) rfl ⟨rfl,z3,(T8 0)⟩),trivial⟩ λ n6 o6 p6 m3 y1=>?_;obtain ⟨n4,n3,y1⟩:=y1.freeze;replace hB:=(((hB.st l4).st l3).st m3).st n3;refine BI 5 n4 (xs:=([x2,x4,[(⟨x0.phase,0⟩:Fct)]]:List (List Fct))) rfl rfl rfl ⟨(w1.zs hA hB),(f3.zs hA hB),y1,trivial⟩ λ q6 r6 s6 o3 z1=>?_;obtain ⟨o4,p3,z1⟩:=z1.freeze;obtain ⟨a2,p4,hm⟩:=bs hm;refine GH 6 (O:=o4) (Ir Fr.lt z1 p4) rfl rfl λ q3 r3 t6 q4 s3 k0=>?_;refine ai ?_;refine Bw 7 q4 λ t3 u6 r4 b2 a0=>?_;refine AR a0 rfl rfl rfl (AY) (allOne) λ v6 c2 a0=>?_;refine o_z (Ah (Ah (Ae (Ar rfl (AT rfl ?_)))));have d2:=BK v1.len;have w6:=rngNat d2;refine Ar rfl (o_z ?_);obtain ⟨u3,e2,hm⟩:=bs hm;have t0:=(((((m3.an n3).an o3).an p3).an s3).an b2).an c2;replace hB:=((((hB.st o3).st p3).st s3).st b2).st c2;replace j0:=j0.st t0;replace d0:=d0.st t0;replace k0:=(k0.st b2).st c2;refine Dv (X:=(Option Addr×Nat)) (x3.length) e2 rfl d2 (λ i1 g1=>[(2,(.slice g4 x2.length h4)),(3,(.slice h3 x3.length i3)),(5,(.slice i4 x5.length j4)),(6,(.pointer (some ⟨j3,0,none⟩))),(12,(.pointer (some ⟨k3,0,none⟩))),(13,(.pointer (some ⟨t3,0,none⟩))),(28,(.slice h3 x3.length i3))]) (λ i1 g1 w'=>∃ O':Lab,Bs w A w' O'/\Lc 2 w' O' j3 57 [(.int .i64 x0.jobs),(.slice a4 x0.write.length b4),(.slice c4 x0.read.length d4),(.int .i64 x0.phase),(.slice e4 x0.vars.length f4)]/\Lc 3 w' O' k3 65 [(.string (⟨#[]⟩:ByteArray)),(.int .i64 0),(.slice none 0 0),(.slice none 0 0)]/\Lc 7 w' O' t3 65 [(.string x1),(.int .i64 0),(.slice q3 a2.length r3),(.slice g1.1 i1.length g1.2)]/\Rw 6 w' O' 61 (.slice q3 a2.length r3) a2/\Rw 9 w' O' 68 (.slice g1.1 i1.length g1.2) i1) (none,0) ⟨r4,hB,j0,d0,a0,k0,(Rw.nil 9 (by decide))⟩ ⟨rfl,rfl,rfl,rfl,rfl,rfl,rfl,rfl,rfl,trivial⟩ (λ _ _=>rfl) ?_ ?_
 ·rintro x6 h1 i1 g1 y6 s4 j1 ⟨t4,hB,j0,d0,a0,k0,l0⟩ u0 f2 g2;have rk79:=V5 j1 d2;refine Ah (Ae ?_);obtain ⟨z6,a7,u4,h2,i2,j2,rfl,k2,l2⟩:=(v1.zs hA hB).elem' j1;refine CN (hA:=h2) (hj:=rfl) (hlt:=i2) rfl rfl (BX (hl:=rfl) (hc:=j2) rfl ?_);refine Bw 8 t4 λ v4 w4 y4 v0 m0=>?_;refine AR m0 rfl rfl rfl (AY) (allOne) λ z4 w0 m0=>?_;refine o_z (Ae (AD rfl ?_));replace a0:=(a0.st v0).st w0;refine AQ (hc:=Blk.cell (i:=3) (a0.1) rfl) rfl (AD rfl (AQ (hc:=Blk.cell (i:=0) (m0.1) rfl) rfl (AD rfl (AQ (hc:=Blk.cell (i:=1) (m0.1) rfl) rfl (CX rfl rfl ?_)))));obtain ⟨a5,y0,u0⟩:=bs u0;obtain ⟨y0,m2,n2⟩:=Bz y0;replace l0:=(l0.st v0).st w0;refine DQ rfl (a:=(⟨([]:List Fct),h1.var,h1.val⟩:Eff)) l0 (Vb.ofAgg (cs:=[(.slice none 0 0),(.int .i64 h1.var),(.int .i64 h1.val)]) (x:=(⟨([]:List Fct),h1.var,h1.val⟩:Eff)) rfl ⟨_,rfl,(Vb.nil _ _),k2,l2⟩) (λ _=>rfl) rfl m2 n2 ⟨rfl,rfl⟩ λ b5 o2 p2 c5 d5 k1 l1=>?_;rw [<- y0] at l1 ⊢;refine AD rfl ?_;replace a0:=a0.st k1;refine AR a0 rfl rfl rfl (AY) (allOne) λ e5 m1 a0=>?_;refine o_z ?_;obtain rfl:=sm u0;have c0:=((v0.an w0).an k1).an m1;exact show Exists _ from ⟨_,(o2,p2),rfl,⟨rfl,rfl,rfl,rfl,rfl,rfl,rfl,rfl,rfl,trivial⟩,_,hB.st c0,j0.st c0,d0.st c0,a0,k0.st c0,l1.st m1⟩
 rintro f5 g5 ⟨q2,h5,rfl,n1,r2,hB,j0,d0,a0,k0,l0⟩;replace hm:=BE hm;refine AX _ n1 ?_;refine Ah (Ae (BX (hl:=rfl) (hc:=(j0.1).cellsAt) rfl (Ar rfl (Ar rfl ?_))));obtain ⟨o1,s2,hm⟩:=bs hm;refine Ix (O:=r2) (R:=λ w' F v=>T2 w' F v o1) (LR Fr.lt (e3.zs hA hB) (w1.zs hA hB) (v1.zs hA hB) s2) rfl rfl λ i5 j5 k5 e0 t2=>?_;obtain ⟨l5,m5,rfl,p1,n0⟩:=t2;obtain ⟨n5,o5,rfl⟩:=p1.form;obtain ⟨p5,q5,rfl⟩:=n0.form;refine Ar rfl (BW rfl rfl (BW rfl rfl (Au rfl (Au rfl (o_z (Ah (Ae (AD rfl ?_))))))));replace a0:=a0.st e0;refine AQ (hc:=Blk.cell (i:=2) (a0.1) rfl) rfl (Ar rfl ?_);obtain ⟨q1,z0,hm⟩:=bs hm;obtain ⟨z0,u2,v2⟩:=Bz z0;replace k0:=k0.st e0;refine Cj rfl k0 (p1.rd) rfl rfl u2 v2 λ r1 s1 r5 s5 f0 b0=>?_;rw [<- z0] at b0 ⊢;refine AD rfl ?_;replace a0:=a0.st f0;refine AR a0 rfl rfl rfl (AY) (allOne) λ t5 g0 a0=>?_;refine o_z (Ah (Ae (AD rfl (AQ (hc:=Blk.cell (i:=3) (a0.1) rfl) rfl (Ar rfl (Ar rfl ?_))))));replace l0:=((l0.st e0).st f0).st g0;obtain ⟨w2,h0,l0⟩:=l0.freeze;replace hB:=(((hB.st e0).st f0).st g0).st h0;replace n0:=((n0.st f0).st g0).st h0;refine BI 10 w2 (xs:=([q2,x5,o1.2]:List (List Eff))) rfl rfl rfl ⟨l0,(g3.zs hA hB),n0,trivial⟩ λ u5 v5 w5 o0 a1=>?_;obtain ⟨y2,p0,a1⟩:=a1.freeze;obtain ⟨b1,z2,hm⟩:=bs hm;refine GH 11 (O:=y2) (HH Fr.lt a1 z2) rfl rfl λ t1 u1 y5 z5 q0 i0=>?_;refine AD rfl ?_;replace a0:=(((a0.st h0).st o0).st p0).st q0;refine AR a0 rfl rfl rfl (AY) (allOne) λ a6 r0 a0=>?_;refine o_z (Ah (Ae (AD rfl (AQ (hc:=Blk.cell (i:=2) (a0.1) rfl) rfl ?_))));obtain ⟨a3,c1,hm⟩:=bs hm;obtain ⟨b3,c1⟩:=DJ c1;replace b0:=(((((b0.st g0).st h0).st o0).st p0).st q0).st r0;refine VW (Jv b0 b3) rfl rfl λ b6 c6 d6 s0 b0=>?_;rw [c1] at b0;refine o_z (Ah (Ae ?_));replace a0:=a0.st s0;refine BX (hl:=rfl) (hc:=(a0.1).cellsAt) rfl ?_;replace d0:=((((((((d0.st e0).st f0).st g0).st h0).st o0).st p0).st q0).st r0).st s0;refine AR d0 rfl rfl rfl (AY) (allOne) λ c3 d1 d0=>?_;refine o_z (AE ?_);replace b0:=b0.st d1;obtain ⟨e6,e1,b0⟩:=b0.freeze;replace i0:=(((i0.st r0).st s0).st d1).st e1;obtain ⟨d3,f1,i0⟩:=i0.freeze;obtain rfl:=sm hm;replace hB:=(((((((hB.st o0).st p0).st q0).st r0).st s0).st d1).st e1).st f1;replace d0:=(d0.st e1).st f1;replace b0:=b0.st f1;exact U0 rfl (DH (cs:=[(.string x1),(.int .i64 0),(.slice r1 q1.length s1),(.slice t1 b1.length u1)]) rfl rfl d0.1.cellsAt) ⟨hB.ext,(Vb.mono (F:=Fr 0 c3 d3) (Vb.ofAgg (cs:=[(.string x1),(.int .i64 0),(.slice r1 q1.length s1),(.slice t1 b1.length u1)]) (x:=(⟨x1,0,a3,b1⟩:Opr)) rfl ⟨_,_,rfl,b0,i0,(T8 0),zx1⟩) hB.out)⟩
noncomputable def Dh (b:Lay) (p:Job) (c:Int) (a:Int):Option Opr :=
  bnd (Z4 (⟨#[119,97,105,116,32]⟩:ByteArray) p.name) λ q=>bnd (Z4 q (⟨#[32]⟩:ByteArray)) λ r=>bnd (Fv a) λ s=>bnd (Z4 r s) λ t=>bnd (some ():Option Unit) λ w=>bnd (if 0 < a then (bnd (BU p.over) λ u=>some u) else (some ([]:List Fct)):Option (List Fct)) λ v=>bnd (T4 (c + 1)) λ d=>bnd (BP b c) λ e=>bnd (T5 16 v [(⟨e,a⟩:Fct),(⟨b.phase,d⟩:Fct)]) λ f=>bnd (if 1 < a then (bnd (T4 (a - 1)) λ g=>bnd (BP b c) λ h=>bnd (T5 40 ([]:List Eff) [(⟨([]:List Fct),h,g⟩:Eff)]) λ i=>some i) else (if a=1 then (bnd (T4 (p.dur + 1)) λ j=>bnd (BP b c) λ k=>bnd (T5 40 ([]:List Eff) [(⟨([]:List Fct),k,j⟩:Eff)]) λ l=>some l) else (some ([]:List Eff))):Option (List Eff)) λ m=>bnd (T4 (c + 2)) λ n=>bnd (T5 40 m [(⟨([]:List Fct),b.phase,n⟩:Eff)]) λ o=>some (⟨t,0,f,o⟩:Opr)
section
attribute [local irreducible] Vb Lc Rw Ob
theorem Mi {w:World} {A:Nat->Prop} (hA:∀ k,A k->k < w.heap.size) {c:Value} {l:Lay} (z:Vb w A c l) {d:Value} {s:Job} (B:Vb w A d s) {m:Int} (C:T3 m) {e:Int} (D:T3 e) {W:Opr} (hm:Dh l s m e=some W) :
    Fn prog 23 [c,d,(.int .i64 m),(.int .i64 e)] w λ v w'=>Ext w w'/\Vb w' (upA A w w') v W:=by
 obtain ⟨_,_,_⟩:=CP hA;apply Ct z;intros;apply Ct B;intros;refine AH func23 rfl ntmps23 ?_;unfold Dh at hm;refine Ah (Ae (Do 2 ?_));intros;refine Do 3 ?_;intros;refine BO 4 ?_;intros;refine o_z (Ah ?_);obtain ⟨N,h1,hm⟩:=bs hm;obtain ⟨O,i1,hm⟩:=bs hm;obtain ⟨P,c1,hm⟩:=bs hm;obtain ⟨E,d1,hm⟩:=bs hm;refine Ck (X:=Nat) hm [2,3,4,5,8] [] [5] [] (λ _ _ _ n t=>(9,pv n) :: t) (λ _ _ _ n t=>.L 5 n 65 [.string E,.int .i64 0,.slice none 0 0,.slice none 0 0] :: t) ?_ ?_
 ·intro F u;refine IN [] ?_;refine AP (fuel:=5) [] (BL (DX 0 5)) rfl (AU rfl rfl (GI rfl (Oy (he:=h1) rfl rfl rfl rfl (Oy (he:=i1) rfl rfl rfl rfl (AS rfl rfl (AC ?_))))));refine EC (i:=5) (j:=8) rfl rfl ?_ ?_
  ·refine q_S [] ?_;intros;refine Dj rfl (Mh (λ _ h=>h) zI c1) ?_;intros;refine Bj [] ?_;refine AP (fuel:=2) [] (BL [6,7]) rfl (Oy (he:=d1) rfl rfl rfl rfl (Dk rfl rfl rfl ?_));refine AC (AJ (i:=8) rfl (q_S [] ?_));intros;refine BO 5 ?_;intros;refine Bj [] ?_;refine AJ (i:=9) rfl (Bf ?_);intros;refine BM (Bi ?_);obtain rfl:=sm u;exact AV _
  refine q_S [] ?_;intros;refine BO 5 ?_;intros;refine Bj [] ?_;refine AJ (i:=5) rfl (q_S [] ?_);intros;refine Dj rfl (Mh (λ _ h=>h) zI c1) ?_;intros;refine Bj [] ?_;refine AP (fuel:=1) [] (BL [6,7]) rfl (Oy (he:=d1) rfl rfl rfl rfl (Dk rfl rfl rfl ?_));refine AC (AJ (i:=9) rfl (Bf ?_));intros;refine BM (Bi ?_);obtain rfl:=sm u;exact AV _
 intro F _ _ _ _ hm;intros;refine Bu ?_;refine Ah (Ck (X:=(Option Addr×Nat)) hm [2,3,4,5,8,9] [] [5,6] [5] (λ _ _ _ _ t=>t) (λ _ o f x t=>fR 6 61 x f :: uL (o 5) 5 65 [(2,sv x f)] :: t) ?_ ?_)
 ·intro f b;refine Ah (Ae (Ar rfl (Cw rfl rfl (λ p=>?_) λ p=>?_)))
  ·replace b:=ip b p;refine o_z (Am rfl (Ae (AD rfl (AW ?_))));obtain ⟨Q,l1,b⟩:=bs b;refine Xm 6 rfl (Gj Fr.lt zV l1) ?_;intros;refine AD rfl (Bf ?_);intros;refine o_z ?_;obtain rfl:=sm b;exact AV (_,_)
  replace b:=im b p;refine o_z (Aj rfl (AK ?_));obtain rfl:=sm b;exact AV (_,_)
 intro f _ _ _ _ hm;intros;refine Bu ?_;refine Ah (IN [(13,[6])] ?_);refine AP (fuel:=6) [] (BL [0,1,2,3,5,7,8,9,10,11]) rfl (AU rfl rfl (GI rfl ?_));refine Hk rfl (AS rfl rfl (AS rfl rfl (AU rfl rfl ?_)));refine GI rfl (AS rfl rfl ?_);obtain ⟨G,l0,hm⟩:=bs hm;refine MD (he:=l0) rfl rfl rfl (Dk rfl rfl rfl ?_);refine AC (AJ (i:=4) rfl (q_S [] ?_));intros;obtain ⟨H,n0,hm⟩:=bs hm;refine Dj rfl (BZ (λ _ h=>h) zA zI n0) ?_;intros;refine Bj [(13,[6])] ?_;refine AP (fuel:=4) [] [(6,true)] rfl (Dk rfl rfl rfl ?_);refine AC (AJ (i:=12) rfl (q_S [] ?_));intros;refine DC 7 ([(⟨H,e⟩:Fct),(⟨l.phase,G⟩:Fct)]:List Fct) ?_;intros;refine Bj [(13,[6])] ?_;refine AJ (i:=13) rfl (q_S [6] ?_);intros;obtain ⟨R,o0,hm⟩:=bs hm;refine Dp o0 ?_;intros;refine Bj [] ?_;refine AP (fuel:=1) [] [(14,true)] rfl (AU rfl rfl (AC (AJ (i:=15) rfl (Bf ?_))));intros;refine BM (Bi (Ah (Ck (X:=(Option Addr×Nat)) hm [2,4,8,9] [] [5,9] [5] (λ _ _ _ _ t=>t) (λ _ o g y t=>fR 9 68 y g :: uL (o 5) 5 65 [(3,sv y g)] :: t) ?_ ?_)))
 ·intro g a;refine Ci (Ah (Ae (Ar rfl (Cw rfl rfl (λ q=>?_) λ q=>?_))))
  ·replace a:=ip a q;refine Au rfl (o_z (Am rfl (IN [(9,[9])] ?_)));refine AP (fuel:=6) [] (BL [0,1,2,3,5,6]) rfl (AU rfl rfl (GI rfl ?_));refine Hk rfl (AS rfl rfl (AS rfl rfl ?_));obtain ⟨I,q0,a⟩:=bs a;refine Se (he:=q0) rfl rfl rfl rfl (AC (AJ (i:=4) rfl (q_S [] ?_)));intros;obtain ⟨J,s0,a⟩:=bs a;refine Dj rfl (BZ (λ _ h=>h) zA zI s0) ?_;intros;refine Bj [(9,[9])] ?_;refine AP (fuel:=4) [] [(7,true)] rfl (Dk rfl rfl rfl ?_);refine AC (AJ (i:=8) rfl (q_S [] ?_));intros;refine DC 8 ([(⟨([]:List Fct),J,I⟩:Eff)]:List Eff) ?_;intros;refine Bj [(9,[9])] ?_;refine AJ (i:=9) rfl (q_S [9] ?_);intros;obtain ⟨S,t0,a⟩:=bs a;refine YF 9 t0 ?_;intros;refine Bj [] ?_;refine AP (fuel:=1) [] [(10,true)] rfl (AU rfl rfl (AC (AJ (i:=11) rfl (Bf ?_))));intros;refine BM (Bi ?_);obtain rfl:=sm a;exact AV (_,_)
  replace a:=im a q;refine Au rfl (o_z (Aj rfl (Ah (Ae (Ar rfl (Gw rfl rfl (λ r=>?_) λ r=>?_))))))
  ·replace a:=ip a r;refine Au rfl (o_z (Am rfl (IN [(10,[9])] ?_)));refine AP (fuel:=6) [] (BL [0,1,2,3,5,6,7]) rfl (AU rfl rfl (GI rfl ?_));refine Hk rfl (AS rfl rfl (AU rfl rfl ?_));refine GI rfl ?_;obtain ⟨K,v0,a⟩:=bs a;refine MD (he:=v0) rfl rfl rfl (AC (AJ (i:=4) rfl (q_S [] ?_)));intros;obtain ⟨M,y0,a⟩:=bs a;refine Dj rfl (BZ (λ _ h=>h) zA zI y0) ?_;intros;refine Bj [(10,[9])] ?_;refine AP (fuel:=4) [] [(8,true)] rfl (Dk rfl rfl rfl ?_);refine AC (AJ (i:=9) rfl (q_S [] ?_));intros;refine DC 10 ([(⟨([]:List Fct),M,K⟩:Eff)]:List Eff) ?_;intros;refine Bj [(10,[9])] ?_;refine AJ (i:=10) rfl (q_S [9] ?_);intros;obtain ⟨T,z0,a⟩:=bs a;refine YF 9 z0 ?_;intros;refine Bj [] ?_;refine AP (fuel:=1) [] [(11,true)] rfl (AU rfl rfl (AC (AJ (i:=12) rfl (Bf ?_))));intros;refine BM (Bi ?_);obtain rfl:=sm a;exact AV (_,_)
  replace a:=im a r;refine Au rfl (o_z (Aj rfl (AK ?_)));obtain rfl:=sm a;exact AV (_,_)
 intro g _ _ _ _ hm;intros;refine Bu ?_;refine Ah (Ae (AD rfl (AW (AD rfl ?_))));refine AW (Ar rfl ?_);obtain ⟨U,a1,hm⟩:=bs hm;refine DD (he:=a1) rfl rfl (CX rfl rfl ?_);obtain ⟨V,b1,hm⟩:=bs hm;refine NG b1 ?_;intros;refine AD rfl (Bf ?_);intros;refine o_z (Ah (Ae (EA ?_)));refine Bf ?_;intros;refine o_z (AE (Gz 6 ?_));intros;refine Gz 9 ?_;intros;obtain rfl:=sm hm;exact Cb
end
noncomputable def CK (d:Lay) (u:Int):Option Opr :=
  bnd (T4 (u + 1)) λ n=>bnd (Y5 u) λ o=>bnd (rngN (ρ:=Opr) (λ (p:Nat) (q:(List Eff))=>bnd (CV d (p:Int)) λ r=>bnd (T5 40 q [(⟨([]:List Fct),r,0⟩:Eff)]) λ s=>some (.next s)) o ([]:List Eff)) λ b=>fin b λ (t:(List Eff))=>bnd (rng (ρ:=Opr) (λ (e:Nat) (f:Int) (g:(List Eff))=>bnd (if 0<=f then (bnd (T5 40 g [(⟨([]:List Fct),f,0⟩:Eff)]) λ h=>some h) else (some g):Option (List Eff)) λ a=>bnd (d.read[e]?) λ i=>if 0<=i then (bnd (d.read[e]?) λ j=>bnd (T5 40 a [(⟨([]:List Fct),j,0⟩:Eff)]) λ k=>some (.next k)) else (some (.next a))) d.write 0 t) λ c=>fin c λ (l:(List Eff))=>bnd (T5 40 l [(⟨([]:List Fct),d.phase,0⟩:Eff)]) λ m=>some (⟨(⟨#[97,100,118,97,110,99,101]⟩:ByteArray),1,[(⟨d.phase,n⟩:Fct)],m⟩:Opr)
section
attribute [local irreducible] Vb Lc Rw Ob
theorem Lf {w:World} {A:Nat->Prop} (hA:∀ k,A k->k < w.heap.size) {c:Value} {f:Lay} (s:Vb w A c f) {g:Int} (u:T3 g) {N:Opr} (hm:CK f g=some N) :
    Fn prog 24 [c,(.int .i64 g)] w λ v w'=>Ext w w'/\Vb w' (upA A w w') v N:=by
 obtain ⟨_,_,_⟩:=CP hA;apply Ct s;intros;refine AH func24 rfl ntmps24 ?_;unfold CK at hm;refine Ah (Ae (Do 2 ?_));intros;refine BO 3 ?_;intros;refine o_z (Ah (Ae (AD rfl (AW (Ar rfl ?_)))));obtain ⟨x,t0,hm⟩:=bs hm;refine DD (he:=t0) rfl rfl (CX rfl rfl ?_);refine DC 4 ([(⟨f.phase,x⟩:Fct)]:List Fct) ?_;intros;refine ai ?_;refine BO 5 ?_;intros;refine Bf ?_;intros;refine o_z (Ah (Ah (Ae (Ar rfl (Ar rfl (o_z (Wk (X:=(Option Addr×Nat)) hm [2,4,5] [] [5,7] [5] (λ _ _ _ _ t=>t) (λ _ o j p t=>fR 7 68 p j :: uL (o 5) 5 65 [(3,sv p j)] :: t) (_,_) ?_ ?_)))))))
 ·intro y B j _ _ _ _ d _ _ _ C;intros;refine Ah (Ae (Ar rfl (Au rfl (o_z (IN [(7,[7])] ?_)))));refine AP (fuel:=6) [] (BL [0,1,2,3]) rfl (AU rfl rfl (GI rfl ?_));refine Hk rfl (AS rfl rfl (AC (AJ (i:=4) rfl ?_)));refine q_S [] ?_;intros;obtain ⟨v0,w0,d⟩:=bs d;refine Dj rfl (BV (λ _ h=>h) zA zI w0) ?_;intros;refine Bj [(7,[7])] ?_;refine AP (fuel:=4) [] [(5,true)] rfl (Dk rfl rfl rfl ?_);refine AC (AJ (i:=6) rfl (q_S [] ?_));intros;refine DC 6 ([(⟨([]:List Fct),v0,0⟩:Eff)]:List Eff) ?_;intros;refine Bj [(7,[7])] ?_;refine AJ (i:=7) rfl (q_S [7] ?_);intros;obtain ⟨D,y0,d⟩:=bs d;refine Dp y0 ?_;intros;refine Bj [] ?_;refine AP (fuel:=1) [] [(8,true)] rfl (AU rfl rfl (AC (AJ (i:=9) rfl (Bf ?_))));intros;refine BM (Bi ?_);exact Cl (_,_) d
 intro y E _ _ _ _ hm;intros;refine Bu ?_;refine Ah (Ah (Ae (AD rfl (AW (AT rfl (Ar rfl (o_z ?_)))))));refine Df (X:=(Option Addr×Nat)) hm [2,4,5] [] [5,7] [5] (λ _ _ _ _ t=>t) (λ _ o l q t=>fR 7 68 q l :: uL (o 5) 5 65 [(3,sv q l)] :: t) (_,_) ?_ ?_
 ·intro F z0 l _ _ _ _ a G _ H;intros;refine Ah (Ae (Ar rfl (Au rfl (o_z (Ah (Ck (X:=(Option Addr×Nat)) a [2,4,5,7,31,32] [] [5,7] [5] (λ _ _ _ _ t=>t) (λ _ o e r t=>fR 7 68 r e :: uL (o 5) 5 65 [(3,sv r e)] :: t) ?_ ?_))))))
  ·intro e b;refine Ah (Ae (AD rfl (AW (Ar rfl ?_))));refine CZ ?_;intros;refine En (ER rfl rfl (λ m=>?_) λ m=>?_)
   ·replace b:=ip b m;refine o_z (Am rfl (IN [(9,[7])] ?_));refine AP (fuel:=4) [] (BL (DX 0 8)) rfl (AU rfl rfl (GI rfl (AU rfl rfl ?_)));refine GI rfl (AS rfl rfl ?_);refine Ox rfl ?_;intros;refine SB rfl (Dk rfl rfl rfl ?_);refine AC (AJ (i:=8) rfl (q_S [] ?_));intros;refine DC 8 ([(⟨([]:List Fct),z0,0⟩:Eff)]:List Eff) ?_;intros;refine Bj [(9,[7])] ?_;refine AJ (i:=9) rfl (q_S [7] ?_);intros;obtain ⟨I,l0,b⟩:=bs b;refine Dp l0 ?_;intros;refine Bj [] ?_;refine AP (fuel:=1) [] [(10,true)] rfl (AU rfl rfl (AC (AJ (i:=11) rfl (Bf ?_))));intros;refine BM (Bi ?_);obtain rfl:=sm b;exact AV (_,_)
   replace b:=im b m;refine o_z (Aj rfl (AK ?_));obtain rfl:=sm b;exact AV (_,_)
  intro e _ _ _ _ a;intros;refine Bu ?_;refine Ah (Ae (AD rfl (AW (Ar rfl ?_))));obtain ⟨J,d1,a⟩:=bs a;refine CZ ?_;intros;refine En (ER rfl rfl (λ n=>?_) λ n=>?_)
  ·replace a:=ip a n;refine o_z (Am rfl (IN [(9,[7])] ?_));refine AP (fuel:=4) [] (BL (DX 0 8)) rfl (AU rfl rfl (GI rfl (AU rfl rfl ?_)));refine GI rfl (AS rfl rfl ?_);obtain ⟨z,e1,a⟩:=bs a;refine Ox rfl ?_;intros;refine SB rfl (Dk rfl rfl rfl ?_);refine AC (AJ (i:=8) rfl (q_S [] ?_));intros;refine DC 9 ([(⟨([]:List Fct),z,0⟩:Eff)]:List Eff) ?_;intros;refine Bj [(9,[7])] ?_;refine AJ (i:=9) rfl (q_S [7] ?_);intros;obtain ⟨K,n0,a⟩:=bs a;refine Dp n0 ?_;intros;refine Bj [] ?_;refine AP (fuel:=1) [] [(10,true)] rfl (AU rfl rfl (AC (AJ (i:=11) rfl (Bf ?_))));intros;refine BM (Bi ?_);exact Cl (_,_) a
  replace a:=im a n;refine o_z (Aj rfl (AK ?_));exact Cl (_,_) a
 intro L _ _ _ _ hm;intros;refine Bu ?_;refine Ah (Ae (AD rfl (AW (AD rfl ?_))));refine AW (CX rfl rfl ?_);obtain ⟨M,o0,hm⟩:=bs hm;refine NG o0 ?_;intros;refine AD rfl (Bf ?_);intros;refine o_z (Ah (Ae (EA ?_)));refine Bf ?_;intros;refine o_z (AE (Gz 4 ?_));intros;refine Gz 7 ?_;intros;obtain rfl:=sm hm;exact Cb
end
noncomputable def DA (i:Tpl):Option (Tsk×Err) :=
  bnd (Eh i) λ C=>if C.n≠0 then (some ((⟨([]:List Int),([]:List Int),([]:List Fct),([]:List Opr)⟩:Tsk),(⟨C.n⟩:Err))) else (bnd (FO i) λ a=>bnd (mkI 8 (0:Int) (a.vars.length:Int)) λ D=>bnd (BU i.goal) λ R=>bnd (rng (ρ:=Tsk×Err) (λ (c:Nat) (b:Job) (k:(List Fct)×(List Opr))=>bnd (BP a (c:Int)) λ l=>bnd (CV a (c:Int)) λ E=>bnd (some ():Option Unit) λ S=>bnd (Z4 (⟨#[115,116,97,114,116,32]⟩:ByteArray) b.name) λ F=>bnd (BP a (c:Int)) λ G=>bnd (Cu a F b.start b.atStart ([(⟨l,0⟩:Fct),(⟨E,0⟩:Fct)]:List Fct) ([(⟨([]:List Fct),G,b.dur⟩:Eff)]:List Eff)) λ H=>bnd (T5 72 k.2 [H]) λ I=>bnd (T4 (b.dur + 1)) λ J=>bnd (BP a (c:Int)) λ K=>bnd (Z4 (⟨#[101,110,100,32]⟩:ByteArray) b.name) λ L=>bnd (BP a (c:Int)) λ M=>bnd (CV a (c:Int)) λ N=>bnd (Cu a L b.fin b.atEnd ([(⟨K,J⟩:Fct)]:List Fct) ([(⟨([]:List Fct),M,0⟩:Eff),(⟨([]:List Fct),N,1⟩:Eff)]:List Eff)) λ O=>bnd (T5 72 I [O]) λ P=>bnd (T5 16 k.1 [(⟨l,0⟩:Fct)]) λ Q=>some (.next (Q,P))) i.jobs 0 (R,([]:List Opr))) λ j=>fin j λ (d:(List Fct)×(List Opr))=>bnd (T5 16 d.1 [(⟨a.phase,0⟩:Fct)]) λ m=>bnd (if 0 < (i.jobs.length:Int) then (bnd (T5 72 d.2 [(⟨(⟨#[116,105,99,107]⟩:ByteArray),0,[(⟨a.phase,0⟩:Fct)],[(⟨([]:List Fct),a.phase,1⟩:Eff)]⟩:Opr)]) λ p=>bnd (rng (ρ:=(List Opr)) (λ (q:Nat) (e:Job) (r:(List Opr))=>bnd (T4 (e.dur + 1)) λ s=>bnd (Y5 s) λ t=>bnd (rngN (ρ:=Ctl (List Opr) (List Opr)) (λ (u:Nat) (v:(List Opr))=>bnd (Dh a e (q:Int) (u:Int)) λ w=>bnd (T5 72 v [w]) λ x=>some (.next x)) t r) λ f=>fin f λ (y:(List Opr))=>some (.next y)) i.jobs 0 p) λ g=>fin g λ (z:(List Opr))=>bnd (CK a (i.jobs.length:Int)) λ A=>bnd (T5 72 z [A]) λ B=>some B) else (some d.2):Option (List Opr)) λ o=>bnd (HY (⟨a.vars,(cpyL D i.init),m,o⟩:Tsk)) λ h=>if h.n≠0 then (some ((⟨([]:List Int),([]:List Int),([]:List Fct),([]:List Opr)⟩:Tsk),(⟨h.n⟩:Err))) else (some ((⟨a.vars,(cpyL D i.init),m,o⟩:Tsk),(⟨0⟩:Err))))
set_option maxHeartbeats 1000000 in
theorem Is {w:World} {A:Nat->Prop} (hA:∀ k,A k->k < w.heap.size) {vx0:Value} {x0:Tpl} (gK:Vb w A vx0 x0) {r:Tsk×Err} (hm:DA x0=some r) :
    Fn prog 7 [vx0] w λ v w'=>Ext w w'/\T2 w' (upA A w w') v r:=by
 obtain ⟨O,hB,hA0⟩:=enter hA;obtain ⟨cs2,rfl,v3,v4,v5,v6,rfl,h7,xR,yR,bD⟩:=id gK;obtain ⟨A8,c9,rfl⟩:=h7.form;obtain ⟨oJ,pJ,rfl⟩:=xR.form;obtain ⟨wE,xE,rfl⟩:=yR.form;obtain ⟨o5,p5,rfl⟩:=bD.form;refine AH func7 rfl ntmps7 ?_;unfold DA at hm;refine Ah (Ae (Fi 2 O rfl λ h5 w20 uU vU r0=>?_));refine Bw 3 uU λ j4 wU zR aS o0=>?_;refine Au rfl (o_z (Ah (Ah (Ae ?_))));replace r0:=r0.st aS;refine BX (hl:=rfl) (hc:=(r0.1).cellsAt) rfl ?_;obtain ⟨q29,xU,hm⟩:=bs hm;replace hB:=(hB.st vU).st aS;refine Bv (O:=zR) (La (λ _ h=>h) (Vb.mono (F:=Fr 0 wU zR) (gK.zs hA hB) Fr.lt) xU) rfl λ v35 w31 bS aF yU=>?_;obtain ⟨rfl,zU⟩:=yU.err;refine Au rfl (o_z (Ah (Ae (Ar rfl (FA rfl (λ hK=>?_) λ hK=>?_)))))
 ·replace hm:=ip hm hK;refine o_z (Am rfl (Ah (Ae (CX rfl rfl ?_))));refine ab ?_;replace o0:=o0.st aF;refine AR o0 rfl rfl rfl (AY) (allOne) λ aV bV o0=>?_;refine Au rfl (o_z (AE ?_));obtain rfl:=sm hm;replace hB:=(hB.st aF).st bV;exact U6 rfl (DH (cs:=[(.slice none 0 0),(.slice none 0 0),(.slice none 0 0),(.slice none 0 0)]) rfl rfl o0.1.cellsAt) (AF rfl) ⟨hB.ext,_,_,rfl,(Vb.mono (F:=Fr 0 aV bS) (Vb.ofAgg (cs:=[(.slice none 0 0),(.slice none 0 0),(.slice none 0 0),(.slice none 0 0)]) (x:=(⟨([]:List Int),([]:List Int),([]:List Fct),([]:List Opr)⟩:Tsk)) rfl ⟨_,_,_,_,rfl,(Vb.nil _ _),(Vb.nil _ _),(Vb.nil _ _),(Vb.nil _ _)⟩) hB.out),(vErr zU)⟩
 replace hm:=im hm hK;refine o_z (Aj rfl (AK (Ah (Ae ?_))));replace r0:=r0.st aF;refine BX (hl:=rfl) (hc:=(r0.1).cellsAt) rfl ?_;obtain ⟨a0,cV,hm⟩:=bs hm;replace hB:=hB.st aF;refine Ii (O:=bS) (RR Fr.lt (gK.zs hA hB) cV) rfl λ v46 w42 dV qJ eV=>?_;obtain ⟨fV,rfl,v48,v49,v50,rfl,d0,e0,c0,k3,w2⟩:=eV;obtain ⟨c1,d1,rfl⟩:=d0.form;obtain ⟨e1,f1,rfl⟩:=e0.form;obtain ⟨w0,y0,rfl⟩:=c0.form;refine Bw 4 dV λ i5 w63 gV yE k0=>?_;refine AR k0 rfl rfl rfl (AY) (allOne) λ w67 zE k0=>?_;refine o_z (Ah ?_);obtain ⟨k2,hV,hm⟩:=bs hm;obtain ⟨r6,iV,hm⟩:=bs hm;refine BT [] gV ?_;refine AP (fuel:=5) [] (BL [0,1,2,3,4,6,7]) rfl (AU rfl rfl (Bc (hc:=By k0 4 rfl) rfl rfl (AU rfl rfl (Bc (hc:=By k0 4 rfl) rfl rfl (LL rfl rfl ?_)))));replace c0:=(c0.st yE).st zE;have jV:=BK c0.len;have r73:=rngNat jV;refine AU rfl rfl ?_;replace r0:=((r0.st qJ).st yE).st zE;refine Bc (hc:=By r0 2 rfl) rfl rfl (AC (Qm (l0:=[(1,(.pointer (some ⟨h5,0,none⟩))),(2,(.pointer (some ⟨j4,0,none⟩))),(5,(.pointer (some ⟨i5,0,none⟩))),(25,(.slice w0 a0.vars.length y0)),(28,(.int .i64 (a0.vars.length:Int))),(31,(.slice wE x0.goal.length xE))]) (zs:=[⟨5,29,λ v w O=>∃ (rJ:Option Addr),∃ (sJ:Nat),v=(.slice rJ k2.length sJ)/\Rw 5 w O 3 (.slice rJ k2.length sJ) k2⟩,⟨8,32,λ v w O=>∃ (tJ:Option Addr),∃ (uJ:Nat),v=(.slice tJ r6.length uJ)/\Rw 6 w O 61 (.slice tJ r6.length uJ) r6⟩,⟨9,33,λ v w O=>∃ (vJ:Option Addr),∃ (wJ:Nat),∃ (xJ:Option Addr),∃ (yJ:Nat),∃ (zJ:Option Addr),∃ (aK:Nat),v=(.agg #[(.slice vJ a0.vars.length wJ),(.slice xJ k2.length yJ),(.slice zJ r6.length aK),(.slice none 0 0)])/\Vb w (Fr 0 w O) (.slice vJ a0.vars.length wJ) a0.vars/\Rw 5 w O 3 (.slice xJ k2.length yJ) k2/\Rw 6 w O 61 (.slice zJ r6.length aK) r6⟩,⟨10,6,λ v w O=>∃ (bK:Nat),v=(.pointer (some ⟨bK,0,none⟩))/\Lc 7 w O bK 32 [(.slice none 0 0),(.slice none 0 0),(.slice none 0 0),(.slice none 0 0)]⟩]) #[true,true,true,true,true,true,true,true,true,true,true,false] 1 [] ⟨rfl,rfl,rfl,rfl,rfl,rfl,trivial⟩ ⟨⟨λ _ _ _ _ _ ⟨rJ,sJ,e,kV⟩ hS=>⟨rJ,sJ,e,kV.st hS id id⟩,?_⟩,⟨λ _ _ _ _ _ ⟨tJ,uJ,e,lV⟩ hS=>⟨tJ,uJ,e,lV.st hS id id⟩,?_⟩,⟨λ _ _ _ _ _ ⟨vJ,wJ,xJ,yJ,zJ,aK,e,mV,nV,oV⟩ hS=>⟨vJ,wJ,xJ,yJ,zJ,aK,e,mV.st hS id,nV.st hS id id,oV.st hS id id⟩,?_⟩,⟨λ _ _ _ _ _ ⟨bK,e,pV⟩ hS=>⟨bK,e,pV.st hS id⟩,?_⟩,trivial⟩ ?_ rfl))
 ·refine ⟨_,rfl,λ l96 w97 qV S99 bF hD101=>?_⟩;refine ⟨[(28,(.int .i64 (a0.vars.length:Int)))],⟨AN bF 28 _ rfl,trivial⟩,λ Q102 hQ103=>?_⟩;obtain ⟨rV,iK,jK,kK,lK⟩:=MA hV;refine PY 5 qV (z0:=(0:Int)) rfl rfl rfl rfl rfl iK (vInt (T8 0)) jK kK rfl λ sV tV uV mK cF=>?_;rw [<- lK] at cF ⊢;refine Cv (hQ103 _ _ ⟨_,_,rfl,mK,⟨_,_,rfl,cF⟩⟩)
 ·refine ⟨_,rfl,λ vV wV nK oK dF hD132=>?_⟩;refine ⟨[(31,(.slice wE x0.goal.length xE))],⟨AN dF 31 _ rfl,trivial⟩,λ Q133 hQ134=>?_⟩;replace hB:=(((hB.st qJ).st yE).st zE).st oK;refine GH 6 (O:=nK) (Gj Fr.lt (yR.zs hA hB) iV) rfl rfl λ xV yV zV aW pK qK=>?_;refine Cv (hQ134 _ _ ⟨_,_,rfl,pK,⟨_,_,rfl,qK⟩⟩)
 ·refine ⟨_,rfl,λ bW eF fF rK gF hD160=>?_⟩;obtain ⟨_,sK,hF,iF,rfl,cD⟩:=hD160.at 0 rfl (by kernel_rfl);replace cD:Rw 5 eF fF 3 (.slice hF k2.length iF) k2:=cD;obtain ⟨_,tK,jF,kF,rfl,dD⟩:=hD160.at 1 rfl (by kernel_rfl);replace dD:Rw 6 eF fF 61 (.slice jF r6.length kF) r6:=dD;refine ⟨[(25,(.slice w0 a0.vars.length y0)),(29,(.slice hF k2.length iF)),(32,(.slice jF r6.length kF))],⟨AN gF 25 _ rfl,sK,tK,trivial⟩,λ Q161 hQ162=>?_⟩;refine ai ?_;replace c0:=c0.st rK;refine Cv (hQ162 _ _ ⟨_,_,rfl,St.refl _ _ _,⟨_,_,_,_,_,_,rfl,c0,cD,dD⟩⟩)
 ·refine ⟨_,rfl,λ cW dW uK eW cS hD211=>?_⟩;refine ⟨[],trivial,λ Q212 hQ213=>?_⟩;refine Bw 7 uK λ fW gW hW vK wK=>?_;refine Cv (hQ213 _ _ ⟨_,_,rfl,vK,⟨_,rfl,wK⟩⟩)
 intro iW w9 x9 s6 t6 hD230;obtain ⟨_,xK,c2,rfl,b0⟩:=hD230.at 3 rfl rfl;obtain ⟨_,yK,m2,n2,o2,p2,eD,fD,rfl,h0,f0,u6⟩:=hD230.at 2 rfl rfl;replace h0:Vb w9 (Fr 0 w9 x9) (.slice m2 a0.vars.length n2) a0.vars:=h0;replace f0:Rw 5 w9 x9 3 (.slice o2 k2.length p2) k2:=f0;replace u6:Rw 6 w9 x9 61 (.slice eD r6.length fD) r6:=u6;refine Qb [(1,(.pointer (some ⟨h5,0,none⟩))),(2,(.pointer (some ⟨j4,0,none⟩))),(5,(.pointer (some ⟨i5,0,none⟩))),(6,(.pointer (some ⟨c2,0,none⟩))),(33,(.agg #[(.slice m2 a0.vars.length n2),(.slice o2 k2.length p2),(.slice eD r6.length fD),(.slice none 0 0)]))] ⟨AN t6 1 _ rfl,AN t6 2 _ rfl,AN t6 5 _ rfl,xK,yK,trivial⟩ ?_;refine AJ (i:=11) rfl ?_;refine AR b0 rfl rfl rfl (AY) (allOne) λ jW k4 b0=>?_;refine BM (Bi (Ah (Ae (AD rfl (AQ (hc:=Blk.cell (i:=1) (b0.1) rfl) rfl (AD rfl ?_))))));replace r0:=(r0.st s6).st k4;refine AQ (hc:=Blk.cell (i:=1) (r0.1) rfl) rfl ?_;replace hB:=((((hB.st qJ).st yE).st zE).st s6).st k4;replace f0:=f0.st k4;refine AaE f0 (xR.zs hA hB) rfl rfl rfl λ kW l4 f0 _=>?_;refine o_z (Ah (Ah (Ae (AD rfl ?_))));replace r0:=r0.st l4;refine AQ (hc:=Blk.cell (i:=3) (r0.1) rfl) rfl (AT rfl ?_);have gD:=BK bD.len;have lW:=rngNat gD;refine Ar rfl (o_z ?_);obtain ⟨zK,lF,hm⟩:=bs hm;have pB:=(s6.an k4).an l4;have qB:=(((yE.an zE).an s6).an k4).an l4;replace hB:=hB.st l4;replace o0:=((((((o0.st aF).st qJ).st yE).st zE).st s6).st k4).st l4;replace d0:=d0.st qB;replace e0:=e0.st qB;replace c0:=c0.st pB;replace k0:=k0.st pB;replace b0:=b0.st l4;replace h0:=(h0.st k4).st l4;replace u6:=(u6.st k4).st l4;refine Dv (X:=(Option Addr×Nat)×(Option Addr×Nat)) (x0.jobs.length) lF rfl gD (λ h2 a1=>[(1,(.pointer (some ⟨h5,0,none⟩))),(2,(.pointer (some ⟨j4,0,none⟩))),(5,(.pointer (some ⟨i5,0,none⟩))),(6,(.pointer (some ⟨c2,0,none⟩))),(40,(.slice o5 x0.jobs.length p5))]) (λ h2 a1 w'=>∃ O':Lab,Bs w A w' O'/\Lc 2 w' O' h5 26 [(.slice A8 x0.vars.length c9),(.slice oJ x0.init.length pJ),(.slice wE x0.goal.length xE),(.slice o5 x0.jobs.length p5)]/\Lc 3 w' O' j4 32 [(.slice none 0 0),(.slice none 0 0),(.slice none 0 0),(.slice none 0 0)]/\Lc 4 w' O' i5 57 [(.int .i64 a0.jobs),(.slice c1 a0.write.length d1),(.slice e1 a0.read.length f1),(.int .i64 a0.phase),(.slice w0 a0.vars.length y0)]/\Vb w' (Fr 0 w' O') (.slice c1 a0.write.length d1) a0.write/\Vb w' (Fr 0 w' O') (.slice e1 a0.read.length f1) a0.read/\Vb w' (Fr 0 w' O') (.slice w0 a0.vars.length y0) a0.vars/\Lc 7 w' O' c2 32 [(.slice m2 a0.vars.length n2),(.slice o2 k2.length p2),(.slice a1.1.1 h2.1.length a1.1.2),(.slice a1.2.1 h2.2.length a1.2.2)]/\Vb w' (Fr 0 w' O') (.slice m2 a0.vars.length n2) a0.vars/\Rw 5 w' O' 3 (.slice o2 k2.length p2) (cpyL k2 x0.init)/\Rw 6 w' O' 61 (.slice a1.1.1 h2.1.length a1.1.2) h2.1/\Rw 14 w' O' 65 (.slice a1.2.1 h2.2.length a1.2.2) h2.2) ((eD,fD),(none,0)) ⟨x9,hB,r0,o0,k0,d0,e0,c0,b0,h0,f0,u6,(Rw.nil 14 (by decide))⟩ ⟨rfl,rfl,rfl,rfl,rfl,rfl,rfl,trivial⟩ (λ _ _=>rfl) ?_ ?_
 ·rintro g1 i0 h2 a1 mW dS rB ⟨aL,hB,r0,o0,k0,d0,e0,c0,b0,h0,f0,h1,u0⟩ g0 cK dK;have rk256:=V5 rB gD;refine Ah (Ae (Ar rfl ?_));obtain ⟨nW,oW,eS,mF,nF,oF,pW,qW,rW,sW,tW,rfl,v1,i2,w1,x1,y1,uW,bL⟩:=(bD.zs hA hB).elem' rB;obtain ⟨y9,z9,rfl⟩:=v1.form;obtain ⟨pF,qF,rfl⟩:=i2.form;obtain ⟨aA,bA,rfl⟩:=w1.form;obtain ⟨cA,dA,rfl⟩:=x1.form;obtain ⟨eA,fA,rfl⟩:=y1.form;refine CN (hA:=mF) (hj:=rfl) (hlt:=nF) rfl rfl (BX (hl:=rfl) (hc:=oF) rfl ?_);refine Bw 8 aL λ c6 vW w6 q2 n0=>?_;refine Au rfl (AR n0 rfl rfl rfl (AY) (allOne) λ cL r2 n0=>?_);refine o_z (Ah ?_);obtain ⟨j2,x6,g0⟩:=bs g0;obtain ⟨x2,l3,g0⟩:=bs g0;obtain ⟨wW,b2,g0⟩:=bs g0;refine BF (λ l' w'=>∃ (m3:Nat×Nat) (O':Lab),T7 l' [(1,(.pointer (some ⟨h5,0,none⟩))),(2,(.pointer (some ⟨j4,0,none⟩))),(5,(.pointer (some ⟨i5,0,none⟩))),(6,(.pointer (some ⟨c2,0,none⟩))),(7,(.int .i64 (g1:Int))),(8,(.pointer (some ⟨c6,0,none⟩))),(9,(.pointer (some ⟨m3.1,0,none⟩))),(10,(.pointer (some ⟨m3.2,0,none⟩))),(40,(.slice o5 x0.jobs.length p5)),(41,(.int .i64 (x0.jobs.length:Int))),(42,(.int .i64 (g1:Int)))]/\Bs w A w' O'/\Lc 2 w' O' h5 26 [(.slice A8 x0.vars.length c9),(.slice oJ x0.init.length pJ),(.slice wE x0.goal.length xE),(.slice o5 x0.jobs.length p5)]/\Lc 3 w' O' j4 32 [(.slice none 0 0),(.slice none 0 0),(.slice none 0 0),(.slice none 0 0)]/\Lc 4 w' O' i5 57 [(.int .i64 a0.jobs),(.slice c1 a0.write.length d1),(.slice e1 a0.read.length f1),(.int .i64 a0.phase),(.slice w0 a0.vars.length y0)]/\Vb w' (Fr 0 w' O') (.slice c1 a0.write.length d1) a0.write/\Vb w' (Fr 0 w' O') (.slice e1 a0.read.length f1) a0.read/\Vb w' (Fr 0 w' O') (.slice w0 a0.vars.length y0) a0.vars/\Lc 7 w' O' c2 32 [(.slice m2 a0.vars.length n2),(.slice o2 k2.length p2),(.slice a1.1.1 h2.1.length a1.1.2),(.slice a1.2.1 h2.2.length a1.2.2)]/\Vb w' (Fr 0 w' O') (.slice m2 a0.vars.length n2) a0.vars/\Rw 5 w' O' 3 (.slice o2 k2.length p2) (cpyL k2 x0.init)/\Rw 6 w' O' 61 (.slice a1.1.1 h2.1.length a1.1.2) h2.1/\Rw 14 w' O' 65 (.slice a1.2.1 h2.2.length a1.2.2) h2.2/\Lc 8 w' O' c6 53 [(.string i0.name),(.int .i64 i0.dur),(.slice y9 i0.start.length z9),(.slice pF i0.over.length qF),(.slice aA i0.fin.length bA),(.slice cA i0.atStart.length dA),(.slice eA i0.atEnd.length fA)]/\Vb w' (Fr 0 w' O') (.slice y9 i0.start.length z9) i0.start/\Vb w' (Fr 0 w' O') (.slice pF i0.over.length qF) i0.over/\Vb w' (Fr 0 w' O') (.slice aA i0.fin.length bA) i0.fin/\Vb w' (Fr 0 w' O') (.slice cA i0.atStart.length dA) i0.atStart/\Vb w' (Fr 0 w' O') (.slice eA i0.atEnd.length fA) i0.atEnd/\Lc 9 w' O' m3.1 61 [(.int .i64 j2),(.int .i64 0)]/\Lc 10 w' O' m3.2 61 [(.int .i64 x2),(.int .i64 0)]/\T3 j2/\T3 x2) ?_ ?_
  ·refine BT [(10,[9])] w6 ?_;refine AP (fuel:=8) [] (BL [0,1,4,5]) rfl ?_;replace k0:=(k0.st q2).st r2;refine EM (hl:=rfl) (hb:=Gy k0) rfl rfl (AS rfl rfl (EM (hl:=rfl) (hb:=Gy k0) rfl rfl (AS rfl rfl (AC (Ou (i:=2) (j:=8) (k:=9) rfl rfl rfl ?_ ?_ ?_)))))
   ·replace d0:=(d0.st q2).st r2;replace e0:=(e0.st q2).st r2;replace c0:=(c0.st q2).st r2;refine Bv (O:=w6) (BZ (λ _ h=>h) (Vb.mono (F:=Fr 0 cL w6) (Vb.ofAgg (cs:=[(.int .i64 a0.jobs),(.slice c1 a0.write.length d1),(.slice e1 a0.read.length f1),(.int .i64 a0.phase),(.slice w0 a0.vars.length y0)]) (x:=a0) rfl ⟨_,_,_,rfl,d0,e0,c0,k3,w2⟩) Fr.lt) rk256 x6) rfl λ xW dL gA b1 eL=>?_;obtain ⟨rfl,d6⟩:=eL.int;have hZ:=lZ b1;refine Be [(10,[9])] hZ ?_;refine AP (fuel:=6) [] [(3,true)] rfl (Dk rfl rfl rfl ?_);refine AC (Ou (i:=6) (j:=8) (k:=9) rfl rfl rfl ?_ ?_ ?_)
    ·replace d0:=d0.st b1;replace e0:=e0.st b1;replace c0:=c0.st b1;refine Bv (O:=gA) (BV (λ _ h=>h) (Vb.mono (F:=Fr 0 dL gA) (Vb.ofAgg (cs:=[(.int .i64 a0.jobs),(.slice c1 a0.write.length d1),(.slice e1 a0.read.length f1),(.int .i64 a0.phase),(.slice w0 a0.vars.length y0)]) (x:=a0) rfl ⟨_,_,_,rfl,d0,e0,c0,k3,w2⟩) Fr.lt) rk256 l3) rfl λ yW zW rF j5 fL=>?_;obtain ⟨rfl,sF⟩:=fL.int;have hZ:=lZ j5;refine Be [(10,[9])] hZ ?_;refine AP (fuel:=4) [9] [(7,true)] rfl (Dk rfl rfl rfl ?_);refine AC ?_;refine EC (i:=8) (j:=9) rfl rfl ?_ ?_
     ·refine Bw 9 rF λ gL aX hL iA y6=>?_;have hZ:=lZ iA;refine Be [(10,[9])] hZ (AJ (i:=9) rfl ?_);refine Bw 10 hL λ iL bX cX z6 a7=>?_;have hZ:=lZ z6;refine Be [(10,[9])] hZ (AJ (i:=10) rfl ?_);replace y6:=y6.st z6;refine AR y6 rfl rfl rfl (AY) (allOne) λ dX b7 y6=>?_;have hZ:=b7.lst [9] (λ _ h=>by cases h;decide);refine Be [] hZ (AJ (i:=11) rfl ?_);replace a7:=a7.st b7;refine AR a7 rfl rfl rfl (AY) (allOne) λ eX jA a7=>?_;refine BM (Bi ?_);obtain rfl:=sm b2;have c7:=(((j5.an iA).an z6).an b7).an jA;have sB:=((((b1.an j5).an iA).an z6).an b7).an jA;have i1:=((((((q2.an r2).an b1).an j5).an iA).an z6).an b7).an jA;exact ⟨(gL,iL),_,⟨rfl,rfl,rfl,rfl,rfl,rfl,rfl,rfl,rfl,rfl,rfl,trivial⟩,hB.st i1,r0.st i1,o0.st i1,k0.st sB,d0.st c7,e0.st c7,c0.st c7,b0.st i1,h0.st i1,f0.st i1,h1.st i1,u0.st i1,n0.st sB,v1.st i1,i2.st i1,w1.st i1,x1.st i1,y1.st i1,y6.st jA,a7,d6,sF⟩
     refine Bw 10 rF λ jL fX kL kA d7=>?_;have hZ:=lZ kA;refine Be [(10,[9])] hZ (AJ (i:=8) rfl ?_);refine Bw 9 kL λ lL gX hX e7 hD=>?_;have hZ:=lZ e7;refine Be [(10,[9])] hZ (AJ (i:=10) rfl ?_);refine AR hD rfl rfl rfl (AY) (allOne) λ iX f7 hD=>?_;have hZ:=f7.lst [9] (λ _ h=>by cases h;decide);refine Be [] hZ (AJ (i:=11) rfl ?_);replace d7:=(d7.st e7).st f7;refine AR d7 rfl rfl rfl (AY) (allOne) λ jX lA d7=>?_;refine BM (Bi ?_);obtain rfl:=sm b2;have g7:=(((j5.an kA).an e7).an f7).an lA;have tB:=((((b1.an j5).an kA).an e7).an f7).an lA;have j1:=((((((q2.an r2).an b1).an j5).an kA).an e7).an f7).an lA;exact ⟨(lL,jL),_,⟨rfl,rfl,rfl,rfl,rfl,rfl,rfl,rfl,rfl,rfl,rfl,trivial⟩,hB.st j1,r0.st j1,o0.st j1,k0.st tB,d0.st g7,e0.st g7,c0.st g7,b0.st j1,h0.st j1,f0.st j1,h1.st j1,u0.st j1,n0.st tB,v1.st j1,i2.st j1,w1.st j1,x1.st j1,y1.st j1,hD.st lA,d7,d6,sF⟩
    ·refine Bw 9 gA λ tF mL iD m4 w3=>?_;have hZ:=lZ m4;refine Be [(10,[9])] hZ ?_;refine EC (i:=6) (j:=9) rfl rfl ?_ ?_
     ·replace d0:=(d0.st b1).st m4;replace e0:=(e0.st b1).st m4;replace c0:=(c0.st b1).st m4;refine Bv (O:=iD) (BV (λ _ h=>h) (Vb.mono (F:=Fr 0 mL iD) (Vb.ofAgg (cs:=[(.int .i64 a0.jobs),(.slice c1 a0.write.length d1),(.slice e1 a0.read.length f1),(.int .i64 a0.phase),(.slice w0 a0.vars.length y0)]) (x:=a0) rfl ⟨_,_,_,rfl,d0,e0,c0,k3,w2⟩) Fr.lt) rk256 l3) rfl λ kX lX nL i7 oL=>?_;obtain ⟨rfl,pL⟩:=oL.int;have hZ:=lZ i7;refine Be [(10,[9])] hZ ?_;refine AP (fuel:=3) [9] [(7,true)] rfl (Dk rfl rfl rfl ?_);refine AC (AJ (i:=9) rfl ?_);refine Bw 10 nL λ qL mX nX j7 k7=>?_;have hZ:=lZ j7;refine Be [(10,[9])] hZ (AJ (i:=10) rfl ?_);replace w3:=(w3.st i7).st j7;refine AR w3 rfl rfl rfl (AY) (allOne) λ oX l7 w3=>?_;have hZ:=l7.lst [9] (λ _ h=>by cases h;decide);refine Be [] hZ (AJ (i:=11) rfl ?_);replace k7:=k7.st l7;refine AR k7 rfl rfl rfl (AY) (allOne) λ pX mA k7=>?_;refine BM (Bi ?_);obtain rfl:=sm b2;have m7:=((i7.an j7).an l7).an mA;have uB:=((((b1.an m4).an i7).an j7).an l7).an mA;have k1:=((((((q2.an r2).an b1).an m4).an i7).an j7).an l7).an mA;exact ⟨(tF,qL),_,⟨rfl,rfl,rfl,rfl,rfl,rfl,rfl,rfl,rfl,rfl,rfl,trivial⟩,hB.st k1,r0.st k1,o0.st k1,k0.st uB,d0.st m7,e0.st m7,c0.st m7,b0.st k1,h0.st k1,f0.st k1,h1.st k1,u0.st k1,n0.st uB,v1.st k1,i2.st k1,w1.st k1,x1.st k1,y1.st k1,w3.st mA,k7,d6,pL⟩
     refine Bw 10 iD λ rL sL uF nA n7=>?_;have hZ:=lZ nA;refine Be [(10,[9])] hZ (AJ (i:=6) rfl ?_);have q5:=(b1.an m4).an nA;replace d0:=d0.st q5;replace e0:=e0.st q5;replace c0:=c0.st q5;refine Bv (O:=uF) (BV (λ _ h=>h) (Vb.mono (F:=Fr 0 sL uF) (Vb.ofAgg (cs:=[(.int .i64 a0.jobs),(.slice c1 a0.write.length d1),(.slice e1 a0.read.length f1),(.int .i64 a0.phase),(.slice w0 a0.vars.length y0)]) (x:=a0) rfl ⟨_,_,_,rfl,d0,e0,c0,k3,w2⟩) Fr.lt) rk256 l3) rfl λ qX rX sX e6 tL=>?_;obtain ⟨rfl,uL⟩:=tL.int;have hZ:=lZ e6;refine Be [(10,[9])] hZ ?_;refine AP (fuel:=2) [9] [(7,true)] rfl (Dk rfl rfl rfl ?_);refine AC (AJ (i:=10) rfl ?_);replace w3:=(w3.st nA).st e6;refine AR w3 rfl rfl rfl (AY) (allOne) λ tX o7 w3=>?_;have hZ:=o7.lst [9] (λ _ h=>by cases h;decide);refine Be [] hZ (AJ (i:=11) rfl ?_);replace n7:=(n7.st e6).st o7;refine AR n7 rfl rfl rfl (AY) (allOne) λ uX oA n7=>?_;refine BM (Bi ?_);obtain rfl:=sm b2;have p7:=(e6.an o7).an oA;have vB:=((q5.an e6).an o7).an oA;have l1:=((((((q2.an r2).an b1).an m4).an nA).an e6).an o7).an oA;exact ⟨(tF,rL),_,⟨rfl,rfl,rfl,rfl,rfl,rfl,rfl,rfl,rfl,rfl,rfl,trivial⟩,hB.st l1,r0.st l1,o0.st l1,k0.st vB,d0.st p7,e0.st p7,c0.st p7,b0.st l1,h0.st l1,f0.st l1,h1.st l1,u0.st l1,n0.st vB,v1.st l1,i2.st l1,w1.st l1,x1.st l1,y1.st l1,w3.st oA,n7,d6,uL⟩
    refine Bw 10 gA λ vF vL jD n4 x3=>?_;have hZ:=lZ n4;refine Be [(10,[9])] hZ ?_;refine EC (i:=6) (j:=8) rfl rfl ?_ ?_
    ·replace d0:=(d0.st b1).st n4;replace e0:=(e0.st b1).st n4;replace c0:=(c0.st b1).st n4;refine Bv (O:=jD) (BV (λ _ h=>h) (Vb.mono (F:=Fr 0 vL jD) (Vb.ofAgg (cs:=[(.int .i64 a0.jobs),(.slice c1 a0.write.length d1),(.slice e1 a0.read.length f1),(.int .i64 a0.phase),(.slice w0 a0.vars.length y0)]) (x:=a0) rfl ⟨_,_,_,rfl,d0,e0,c0,k3,w2⟩) Fr.lt) rk256 l3) rfl λ vX wX wL q7 xL=>?_;obtain ⟨rfl,yL⟩:=xL.int;have hZ:=lZ q7;refine Be [(10,[9])] hZ ?_;refine AP (fuel:=3) [9] [(7,true)] rfl (Dk rfl rfl rfl ?_);refine AC (AJ (i:=8) rfl ?_);refine Bw 9 wL λ zL xX yX r7 kD=>?_;have hZ:=lZ r7;refine Be [(10,[9])] hZ (AJ (i:=10) rfl ?_);refine AR kD rfl rfl rfl (AY) (allOne) λ zX s7 kD=>?_;have hZ:=s7.lst [9] (λ _ h=>by cases h;decide);refine Be [] hZ (AJ (i:=11) rfl ?_);replace x3:=((x3.st q7).st r7).st s7;refine AR x3 rfl rfl rfl (AY) (allOne) λ aY pA x3=>?_;refine BM (Bi ?_);obtain rfl:=sm b2;have t7:=((q7.an r7).an s7).an pA;have wB:=((((b1.an n4).an q7).an r7).an s7).an pA;have m1:=((((((q2.an r2).an b1).an n4).an q7).an r7).an s7).an pA;exact ⟨(zL,vF),_,⟨rfl,rfl,rfl,rfl,rfl,rfl,rfl,rfl,rfl,rfl,rfl,trivial⟩,hB.st m1,r0.st m1,o0.st m1,k0.st wB,d0.st t7,e0.st t7,c0.st t7,b0.st m1,h0.st m1,f0.st m1,h1.st m1,u0.st m1,n0.st wB,v1.st m1,i2.st m1,w1.st m1,x1.st m1,y1.st m1,kD.st pA,x3,d6,yL⟩
    refine Bw 9 jD λ aM bM wF qA u7=>?_;have hZ:=lZ qA;refine Be [(10,[9])] hZ (AJ (i:=6) rfl ?_);have r5:=(b1.an n4).an qA;replace d0:=d0.st r5;replace e0:=e0.st r5;replace c0:=c0.st r5;refine Bv (O:=wF) (BV (λ _ h=>h) (Vb.mono (F:=Fr 0 bM wF) (Vb.ofAgg (cs:=[(.int .i64 a0.jobs),(.slice c1 a0.write.length d1),(.slice e1 a0.read.length f1),(.int .i64 a0.phase),(.slice w0 a0.vars.length y0)]) (x:=a0) rfl ⟨_,_,_,rfl,d0,e0,c0,k3,w2⟩) Fr.lt) rk256 l3) rfl λ bY cY dY f6 cM=>?_;obtain ⟨rfl,dM⟩:=cM.int;have hZ:=lZ f6;refine Be [(10,[9])] hZ ?_;refine AP (fuel:=2) [9] [(7,true)] rfl (Dk rfl rfl rfl ?_);refine AC (AJ (i:=10) rfl ?_);replace u7:=u7.st f6;refine AR u7 rfl rfl rfl (AY) (allOne) λ eY v7 u7=>?_;have hZ:=v7.lst [9] (λ _ h=>by cases h;decide);refine Be [] hZ (AJ (i:=11) rfl ?_);replace x3:=((x3.st qA).st f6).st v7;refine AR x3 rfl rfl rfl (AY) (allOne) λ fY rA x3=>?_;refine BM (Bi ?_);obtain rfl:=sm b2;have w7:=(f6.an v7).an rA;have xB:=((r5.an f6).an v7).an rA;have n1:=((((((q2.an r2).an b1).an n4).an qA).an f6).an v7).an rA;exact ⟨(aM,vF),_,⟨rfl,rfl,rfl,rfl,rfl,rfl,rfl,rfl,rfl,rfl,rfl,trivial⟩,hB.st n1,r0.st n1,o0.st n1,k0.st xB,d0.st w7,e0.st w7,c0.st w7,b0.st n1,h0.st n1,f0.st n1,h1.st n1,u0.st n1,n0.st xB,v1.st n1,i2.st n1,w1.st n1,x1.st n1,y1.st n1,u7.st rA,x3,d6,dM⟩
   ·refine Bw 9 w6 λ lD eM mD g6 s2=>?_;have hZ:=lZ g6;refine Be [(10,[9])] hZ ?_;refine EC (i:=2) (j:=9) rfl rfl ?_ ?_
    ·have o4:=(q2.an r2).an g6;replace d0:=d0.st o4;replace e0:=e0.st o4;replace c0:=c0.st o4;refine Bv (O:=mD) (BZ (λ _ h=>h) (Vb.mono (F:=Fr 0 eM mD) (Vb.ofAgg (cs:=[(.int .i64 a0.jobs),(.slice c1 a0.write.length d1),(.slice e1 a0.read.length f1),(.int .i64 a0.phase),(.slice w0 a0.vars.length y0)]) (x:=a0) rfl ⟨_,_,_,rfl,d0,e0,c0,k3,w2⟩) Fr.lt) rk256 x6) rfl λ gY fM nD y2 gM=>?_;obtain ⟨rfl,xF⟩:=gM.int;have hZ:=lZ y2;refine Be [(10,[9])] hZ ?_;refine AP (fuel:=5) [] [(3,true)] rfl (Dk rfl rfl rfl ?_);refine AC ?_;refine EC (i:=6) (j:=9) rfl rfl ?_ ?_
     ·replace d0:=d0.st y2;replace e0:=e0.st y2;replace c0:=c0.st y2;refine Bv (O:=nD) (BV (λ _ h=>h) (Vb.mono (F:=Fr 0 fM nD) (Vb.ofAgg (cs:=[(.int .i64 a0.jobs),(.slice c1 a0.write.length d1),(.slice e1 a0.read.length f1),(.int .i64 a0.phase),(.slice w0 a0.vars.length y0)]) (x:=a0) rfl ⟨_,_,_,rfl,d0,e0,c0,k3,w2⟩) Fr.lt) rk256 l3) rfl λ hY iY hM x7 iM=>?_;obtain ⟨rfl,jM⟩:=iM.int;have hZ:=lZ x7;refine Be [(10,[9])] hZ ?_;refine AP (fuel:=3) [9] [(7,true)] rfl (Dk rfl rfl rfl ?_);refine AC (AJ (i:=9) rfl ?_);refine Bw 10 hM λ kM jY kY y7 z7=>?_;have hZ:=lZ y7;refine Be [(10,[9])] hZ (AJ (i:=10) rfl ?_);replace s2:=((s2.st y2).st x7).st y7;refine AR s2 rfl rfl rfl (AY) (allOne) λ lY a8 s2=>?_;have hZ:=a8.lst [9] (λ _ h=>by cases h;decide);refine Be [] hZ (AJ (i:=11) rfl ?_);replace z7:=z7.st a8;refine AR z7 rfl rfl rfl (AY) (allOne) λ mY sA z7=>?_;refine BM (Bi ?_);obtain rfl:=sm b2;have b8:=((x7.an y7).an a8).an sA;have yB:=((((g6.an y2).an x7).an y7).an a8).an sA;have o1:=((((o4.an y2).an x7).an y7).an a8).an sA;exact ⟨(lD,kM),_,⟨rfl,rfl,rfl,rfl,rfl,rfl,rfl,rfl,rfl,rfl,rfl,trivial⟩,hB.st o1,r0.st o1,o0.st o1,k0.st yB,d0.st b8,e0.st b8,c0.st b8,b0.st o1,h0.st o1,f0.st o1,h1.st o1,u0.st o1,n0.st yB,v1.st o1,i2.st o1,w1.st o1,x1.st o1,y1.st o1,s2.st sA,z7,xF,jM⟩
     refine Bw 10 nD λ lM mM yF k5 c8=>?_;have hZ:=lZ k5;refine Be [(10,[9])] hZ (AJ (i:=6) rfl ?_);replace d0:=(d0.st y2).st k5;replace e0:=(e0.st y2).st k5;replace c0:=(c0.st y2).st k5;refine Bv (O:=yF) (BV (λ _ h=>h) (Vb.mono (F:=Fr 0 mM yF) (Vb.ofAgg (cs:=[(.int .i64 a0.jobs),(.slice c1 a0.write.length d1),(.slice e1 a0.read.length f1),(.int .i64 a0.phase),(.slice w0 a0.vars.length y0)]) (x:=a0) rfl ⟨_,_,_,rfl,d0,e0,c0,k3,w2⟩) Fr.lt) rk256 l3) rfl λ nY oY pY h6 nM=>?_;obtain ⟨rfl,oM⟩:=nM.int;have hZ:=lZ h6;refine Be [(10,[9])] hZ ?_;refine AP (fuel:=2) [9] [(7,true)] rfl (Dk rfl rfl rfl ?_);refine AC (AJ (i:=10) rfl ?_);replace s2:=((s2.st y2).st k5).st h6;refine AR s2 rfl rfl rfl (AY) (allOne) λ qY d8 s2=>?_;have hZ:=d8.lst [9] (λ _ h=>by cases h;decide);refine Be [] hZ (AJ (i:=11) rfl ?_);replace c8:=(c8.st h6).st d8;refine AR c8 rfl rfl rfl (AY) (allOne) λ rY tA c8=>?_;refine BM (Bi ?_);obtain rfl:=sm b2;have e8:=(h6.an d8).an tA;have zB:=((((g6.an y2).an k5).an h6).an d8).an tA;have p1:=((((o4.an y2).an k5).an h6).an d8).an tA;exact ⟨(lD,lM),_,⟨rfl,rfl,rfl,rfl,rfl,rfl,rfl,rfl,rfl,rfl,rfl,trivial⟩,hB.st p1,r0.st p1,o0.st p1,k0.st zB,d0.st e8,e0.st e8,c0.st e8,b0.st p1,h0.st p1,f0.st p1,h1.st p1,u0.st p1,n0.st zB,v1.st p1,i2.st p1,w1.st p1,x1.st p1,y1.st p1,s2.st tA,c8,xF,oM⟩
    refine Bw 10 mD λ pM qM zF uA f8=>?_;have hZ:=lZ uA;refine Be [(10,[9])] hZ (AJ (i:=2) rfl ?_);have s5:=((q2.an r2).an g6).an uA;replace d0:=d0.st s5;replace e0:=e0.st s5;replace c0:=c0.st s5;refine Bv (O:=zF) (BZ (λ _ h=>h) (Vb.mono (F:=Fr 0 qM zF) (Vb.ofAgg (cs:=[(.int .i64 a0.jobs),(.slice c1 a0.write.length d1),(.slice e1 a0.read.length f1),(.int .i64 a0.phase),(.slice w0 a0.vars.length y0)]) (x:=a0) rfl ⟨_,_,_,rfl,d0,e0,c0,k3,w2⟩) Fr.lt) rk256 x6) rfl λ sY rM aG p4 sM=>?_;obtain ⟨rfl,tM⟩:=sM.int;have hZ:=lZ p4;refine Be [(10,[9])] hZ ?_;refine AP (fuel:=4) [] [(3,true)] rfl (Dk rfl rfl rfl ?_);refine AC (AJ (i:=6) rfl ?_);replace d0:=d0.st p4;replace e0:=e0.st p4;replace c0:=c0.st p4;refine Bv (O:=aG) (BV (λ _ h=>h) (Vb.mono (F:=Fr 0 rM aG) (Vb.ofAgg (cs:=[(.int .i64 a0.jobs),(.slice c1 a0.write.length d1),(.slice e1 a0.read.length f1),(.int .i64 a0.phase),(.slice w0 a0.vars.length y0)]) (x:=a0) rfl ⟨_,_,_,rfl,d0,e0,c0,k3,w2⟩) Fr.lt) rk256 l3) rfl λ tY uY vY i6 uM=>?_;obtain ⟨rfl,vM⟩:=uM.int;have hZ:=lZ i6;refine Be [(10,[9])] hZ ?_;refine AP (fuel:=2) [9] [(7,true)] rfl (Dk rfl rfl rfl ?_);refine AC (AJ (i:=10) rfl ?_);replace s2:=((s2.st uA).st p4).st i6;refine AR s2 rfl rfl rfl (AY) (allOne) λ wY g8 s2=>?_;have hZ:=g8.lst [9] (λ _ h=>by cases h;decide);refine Be [] hZ (AJ (i:=11) rfl ?_);replace f8:=((f8.st p4).st i6).st g8;refine AR f8 rfl rfl rfl (AY) (allOne) λ xY vA f8=>?_;refine BM (Bi ?_);obtain rfl:=sm b2;have h8:=(i6.an g8).an vA;have aC:=((((g6.an uA).an p4).an i6).an g8).an vA;have q1:=(((s5.an p4).an i6).an g8).an vA;exact ⟨(lD,pM),_,⟨rfl,rfl,rfl,rfl,rfl,rfl,rfl,rfl,rfl,rfl,rfl,trivial⟩,hB.st q1,r0.st q1,o0.st q1,k0.st aC,d0.st h8,e0.st h8,c0.st h8,b0.st q1,h0.st q1,f0.st q1,h1.st q1,u0.st q1,n0.st aC,v1.st q1,i2.st q1,w1.st q1,x1.st q1,y1.st q1,s2.st vA,f8,tM,vM⟩
   refine Bw 10 w6 λ oD wM pD j6 t2=>?_;have hZ:=lZ j6;refine Be [(10,[9])] hZ ?_;refine EC (i:=2) (j:=8) rfl rfl ?_ ?_
   ·have q4:=(q2.an r2).an j6;replace d0:=d0.st q4;replace e0:=e0.st q4;replace c0:=c0.st q4;refine Bv (O:=pD) (BZ (λ _ h=>h) (Vb.mono (F:=Fr 0 wM pD) (Vb.ofAgg (cs:=[(.int .i64 a0.jobs),(.slice c1 a0.write.length d1),(.slice e1 a0.read.length f1),(.int .i64 a0.phase),(.slice w0 a0.vars.length y0)]) (x:=a0) rfl ⟨_,_,_,rfl,d0,e0,c0,k3,w2⟩) Fr.lt) rk256 x6) rfl λ yY xM qD z2 yM=>?_;obtain ⟨rfl,bG⟩:=yM.int;have hZ:=lZ z2;refine Be [(10,[9])] hZ ?_;refine AP (fuel:=5) [] [(3,true)] rfl (Dk rfl rfl rfl ?_);refine AC ?_;refine EC (i:=6) (j:=8) rfl rfl ?_ ?_
    ·replace d0:=d0.st z2;replace e0:=e0.st z2;replace c0:=c0.st z2;refine Bv (O:=qD) (BV (λ _ h=>h) (Vb.mono (F:=Fr 0 xM qD) (Vb.ofAgg (cs:=[(.int .i64 a0.jobs),(.slice c1 a0.write.length d1),(.slice e1 a0.read.length f1),(.int .i64 a0.phase),(.slice w0 a0.vars.length y0)]) (x:=a0) rfl ⟨_,_,_,rfl,d0,e0,c0,k3,w2⟩) Fr.lt) rk256 l3) rfl λ zY aZ zM i8 aN=>?_;obtain ⟨rfl,bN⟩:=aN.int;have hZ:=lZ i8;refine Be [(10,[9])] hZ ?_;refine AP (fuel:=3) [9] [(7,true)] rfl (Dk rfl rfl rfl ?_);refine AC (AJ (i:=8) rfl ?_);refine Bw 9 zM λ cN bZ cZ j8 rD=>?_;have hZ:=lZ j8;refine Be [(10,[9])] hZ (AJ (i:=10) rfl ?_);refine AR rD rfl rfl rfl (AY) (allOne) λ dZ k8 rD=>?_;have hZ:=k8.lst [9] (λ _ h=>by cases h;decide);refine Be [] hZ (AJ (i:=11) rfl ?_);replace t2:=(((t2.st z2).st i8).st j8).st k8;refine AR t2 rfl rfl rfl (AY) (allOne) λ eZ wA t2=>?_;refine BM (Bi ?_);obtain rfl:=sm b2;have l8:=((i8.an j8).an k8).an wA;have bC:=((((j6.an z2).an i8).an j8).an k8).an wA;have r1:=((((q4.an z2).an i8).an j8).an k8).an wA;exact ⟨(cN,oD),_,⟨rfl,rfl,rfl,rfl,rfl,rfl,rfl,rfl,rfl,rfl,rfl,trivial⟩,hB.st r1,r0.st r1,o0.st r1,k0.st bC,d0.st l8,e0.st l8,c0.st l8,b0.st r1,h0.st r1,f0.st r1,h1.st r1,u0.st r1,n0.st bC,v1.st r1,i2.st r1,w1.st r1,x1.st r1,y1.st r1,rD.st wA,t2,bG,bN⟩
    refine Bw 9 qD λ dN eN cG l5 m8=>?_;have hZ:=lZ l5;refine Be [(10,[9])] hZ (AJ (i:=6) rfl ?_);replace d0:=(d0.st z2).st l5;replace e0:=(e0.st z2).st l5;replace c0:=(c0.st z2).st l5;refine Bv (O:=cG) (BV (λ _ h=>h) (Vb.mono (F:=Fr 0 eN cG) (Vb.ofAgg (cs:=[(.int .i64 a0.jobs),(.slice c1 a0.write.length d1),(.slice e1 a0.read.length f1),(.int .i64 a0.phase),(.slice w0 a0.vars.length y0)]) (x:=a0) rfl ⟨_,_,_,rfl,d0,e0,c0,k3,w2⟩) Fr.lt) rk256 l3) rfl λ fZ gZ iZ k6 fN=>?_;obtain ⟨rfl,gN⟩:=fN.int;have hZ:=lZ k6;refine Be [(10,[9])] hZ ?_;refine AP (fuel:=2) [9] [(7,true)] rfl (Dk rfl rfl rfl ?_);refine AC (AJ (i:=10) rfl ?_);replace m8:=m8.st k6;refine AR m8 rfl rfl rfl (AY) (allOne) λ jZ n8 m8=>?_;have hZ:=n8.lst [9] (λ _ h=>by cases h;decide);refine Be [] hZ (AJ (i:=11) rfl ?_);replace t2:=(((t2.st z2).st l5).st k6).st n8;refine AR t2 rfl rfl rfl (AY) (allOne) λ kZ xA t2=>?_;refine BM (Bi ?_);obtain rfl:=sm b2;have o8:=(k6.an n8).an xA;have cC:=((((j6.an z2).an l5).an k6).an n8).an xA;have s1:=((((q4.an z2).an l5).an k6).an n8).an xA;exact ⟨(dN,oD),_,⟨rfl,rfl,rfl,rfl,rfl,rfl,rfl,rfl,rfl,rfl,rfl,trivial⟩,hB.st s1,r0.st s1,o0.st s1,k0.st cC,d0.st o8,e0.st o8,c0.st o8,b0.st s1,h0.st s1,f0.st s1,h1.st s1,u0.st s1,n0.st cC,v1.st s1,i2.st s1,w1.st s1,x1.st s1,y1.st s1,m8.st xA,t2,bG,gN⟩
   refine Bw 9 pD λ hN iN dG yA p8=>?_;have hZ:=lZ yA;refine Be [(10,[9])] hZ (AJ (i:=2) rfl ?_);have t5:=((q2.an r2).an j6).an yA;replace d0:=d0.st t5;replace e0:=e0.st t5;replace c0:=c0.st t5;refine Bv (O:=dG) (BZ (λ _ h=>h) (Vb.mono (F:=Fr 0 iN dG) (Vb.ofAgg (cs:=[(.int .i64 a0.jobs),(.slice c1 a0.write.length d1),(.slice e1 a0.read.length f1),(.int .i64 a0.phase),(.slice w0 a0.vars.length y0)]) (x:=a0) rfl ⟨_,_,_,rfl,d0,e0,c0,k3,w2⟩) Fr.lt) rk256 x6) rfl λ mZ jN eG r4 kN=>?_;obtain ⟨rfl,lN⟩:=kN.int;have hZ:=lZ r4;refine Be [(10,[9])] hZ ?_;refine AP (fuel:=4) [] [(3,true)] rfl (Dk rfl rfl rfl ?_);refine AC (AJ (i:=6) rfl ?_);replace d0:=d0.st r4;replace e0:=e0.st r4;replace c0:=c0.st r4;refine Bv (O:=eG) (BV (λ _ h=>h) (Vb.mono (F:=Fr 0 jN eG) (Vb.ofAgg (cs:=[(.int .i64 a0.jobs),(.slice c1 a0.write.length d1),(.slice e1 a0.read.length f1),(.int .i64 a0.phase),(.slice w0 a0.vars.length y0)]) (x:=a0) rfl ⟨_,_,_,rfl,d0,e0,c0,k3,w2⟩) Fr.lt) rk256 l3) rfl λ nZ oZ pZ l6 mN=>?_;obtain ⟨rfl,nN⟩:=mN.int;have hZ:=lZ l6;refine Be [(10,[9])] hZ ?_;refine AP (fuel:=2) [9] [(7,true)] rfl (Dk rfl rfl rfl ?_);refine AC (AJ (i:=10) rfl ?_);replace p8:=(p8.st r4).st l6;refine AR p8 rfl rfl rfl (AY) (allOne) λ qZ q8 p8=>?_;have hZ:=q8.lst [9] (λ _ h=>by cases h;decide);refine Be [] hZ (AJ (i:=11) rfl ?_);replace t2:=(((t2.st yA).st r4).st l6).st q8;refine AR t2 rfl rfl rfl (AY) (allOne) λ rZ zA t2=>?_;refine BM (Bi ?_);obtain rfl:=sm b2;have r8:=(l6.an q8).an zA;have dC:=((((j6.an yA).an r4).an l6).an q8).an zA;have t1:=(((t5.an r4).an l6).an q8).an zA;exact ⟨(hN,oD),_,⟨rfl,rfl,rfl,rfl,rfl,rfl,rfl,rfl,rfl,rfl,rfl,trivial⟩,hB.st t1,r0.st t1,o0.st t1,k0.st dC,d0.st r8,e0.st r8,c0.st r8,b0.st t1,h0.st t1,f0.st t1,h1.st t1,u0.st t1,n0.st dC,v1.st t1,i2.st t1,w1.st t1,x1.st t1,y1.st t1,p8.st zA,t2,lN,nN⟩
  have p0:=q2.an r2;replace hB:=hB.st p0;replace r0:=r0.st p0;replace o0:=o0.st p0;replace d0:=d0.st p0;replace e0:=e0.st p0;replace c0:=c0.st p0;replace k0:=k0.st p0;replace b0:=b0.st p0;replace h0:=h0.st p0;replace f0:=f0.st p0;replace h1:=h1.st p0;replace u0:=u0.st p0;replace v1:=v1.st p0;replace i2:=i2.st p0;replace w1:=w1.st p0;replace x1:=x1.st p0;replace y1:=y1.st p0;rintro sZ tZ ⟨m3,oN,fG,hB,r0,o0,k0,d0,e0,c0,b0,h0,f0,h1,u0,n0,v1,i2,w1,x1,y1,aB,pN,gG,qN⟩;refine AX _ fG ?_;refine Ah ?_;obtain ⟨hG,iG,g0⟩:=bs g0;obtain ⟨d2,rN,g0⟩:=bs g0;obtain ⟨m6,sN,g0⟩:=bs g0;obtain ⟨jG,sD,g0⟩:=bs g0;refine BT [(20,[11,12]),(22,[14])] oN ?_;refine AP (fuel:=9) [11,12,14] (BL [0,1,2,3,4,6,7,8,9,10,11,13,14,16,17,5]) rfl (AU rfl rfl (Bc (hc:=By b0 3 rfl) rfl rfl (EM (hl:=rfl) (hb:=Gy k0) rfl rfl (AU rfl rfl (Bc (hc:=By n0 0 rfl) rfl rfl (AU rfl rfl (Bc (hc:=By n0 2 rfl) rfl rfl (AU rfl rfl (Bc (hc:=By n0 5 rfl) rfl rfl (EM (hl:=rfl) (hb:=Gy aB) rfl rfl (EM (hl:=rfl) (hb:=Gy pN) rfl rfl (EM (hl:=rfl) (hb:=Gy k0) rfl rfl (AS rfl rfl (AU rfl rfl ?_))))))))))))));refine Bc (hc:=By n0 1 rfl) rfl rfl (Oy (he:=iG) rfl rfl rfl rfl (AC (Qm (l0:=[(1,(.pointer (some ⟨h5,0,none⟩))),(2,(.pointer (some ⟨j4,0,none⟩))),(5,(.pointer (some ⟨i5,0,none⟩))),(6,(.pointer (some ⟨c2,0,none⟩))),(7,(.int .i64 (g1:Int))),(8,(.pointer (some ⟨c6,0,none⟩))),(9,(.pointer (some ⟨m3.1,0,none⟩))),(40,(.slice o5 x0.jobs.length p5)),(41,(.int .i64 (x0.jobs.length:Int))),(42,(.int .i64 (g1:Int))),(56,(.slice a1.2.1 h2.2.length a1.2.2)),(57,(.agg #[(.int .i64 a0.jobs),(.slice c1 a0.write.length d1),(.slice e1 a0.read.length f1),(.int .i64 a0.phase),(.slice w0 a0.vars.length y0)])),(60,(.string hG)),(62,(.slice y9 i0.start.length z9)),(64,(.slice cA i0.atStart.length dA)),(65,(.agg #[(.int .i64 j2),(.int .i64 0)])),(66,(.agg #[(.int .i64 x2),(.int .i64 0)])),(68,(.agg #[(.int .i64 a0.jobs),(.slice c1 a0.write.length d1),(.slice e1 a0.read.length f1),(.int .i64 a0.phase),(.slice w0 a0.vars.length y0)])),(69,(.int .i64 (g1:Int))),(72,(.int .i64 i0.dur))]) (zs:=[⟨12,67,λ v w O=>∃ (bB:Option Addr),∃ (cB:Nat),v=(.slice bB ([(⟨j2,0⟩:Fct),(⟨x2,0⟩:Fct)]:List Fct).length cB)/\Vb w (Fr 0 w O) (.slice bB ([(⟨j2,0⟩:Fct),(⟨x2,0⟩:Fct)]:List Fct).length cB) ([(⟨j2,0⟩:Fct),(⟨x2,0⟩:Fct)]:List Fct)⟩,⟨15,70,λ v w O=>v=(.int .i64 d2)/\T3 d2⟩,⟨18,73,λ v w O=>v=(.agg #[(.slice none 0 0),(.int .i64 d2),(.int .i64 i0.dur)])/\T3 d2⟩,⟨19,74,λ v w O=>∃ (dB:Option Addr),∃ (eB:Nat),v=(.slice dB ([(⟨([]:List Fct),d2,i0.dur⟩:Eff)]:List Eff).length eB)/\Vb w (Fr 0 w O) (.slice dB ([(⟨([]:List Fct),d2,i0.dur⟩:Eff)]:List Eff).length eB) ([(⟨([]:List Fct),d2,i0.dur⟩:Eff)]:List Eff)⟩]) #[true,true,true,true,true,true,true,true,true,true,true,true,true,true,true,true,true,true,true,true,false,false,false,false,false] 5 [(20,[11,12]),(22,[14])] ⟨rfl,rfl,rfl,rfl,rfl,rfl,rfl,rfl,rfl,rfl,rfl,rfl,rfl,rfl,rfl,rfl,rfl,rfl,rfl,rfl,trivial⟩ ⟨⟨λ _ _ _ _ _ ⟨bB,cB,e,tN⟩ hS=>⟨bB,cB,e,tN.st hS id⟩,?_⟩,⟨λ _ _ _ _ _ ⟨e,uN⟩ hS=>⟨e,uN⟩,?_⟩,⟨λ _ _ _ _ _ ⟨e,vN⟩ hS=>⟨e,vN⟩,?_⟩,⟨λ _ _ _ _ _ ⟨dB,eB,e,wN⟩ hS=>⟨dB,eB,e,wN.st hS id⟩,?_⟩,trivial⟩ ?_ rfl)))
  ·refine ⟨_,rfl,λ uZ vZ xN wZ eC hD582=>?_⟩;refine ⟨[(65,(.agg #[(.int .i64 j2),(.int .i64 0)])),(66,(.agg #[(.int .i64 x2),(.int .i64 0)]))],⟨AN eC 65 _ rfl,AN eC 66 _ rfl,trivial⟩,λ Q583 hQ584=>?_⟩;refine LA xN (xs:=([(⟨j2,0⟩:Fct),(⟨x2,0⟩:Fct)]:List Fct)) rfl rfl rfl rfl ⟨(Vb.ofAgg (cs:=[(.int .i64 j2),(.int .i64 0)]) (x:=(⟨j2,0⟩:Fct)) rfl ⟨rfl,gG,(T8 0)⟩),(Vb.ofAgg (cs:=[(.int .i64 x2),(.int .i64 0)]) (x:=(⟨x2,0⟩:Fct)) rfl ⟨rfl,qN,(T8 0)⟩),trivial⟩ rfl λ xZ yZ zZ yN zN=>?_;refine Cv (hQ584 _ _ ⟨_,_,rfl,yN,⟨_,_,rfl,zN⟩⟩)
  ·refine ⟨_,rfl,λ l599 aO kG tD fC hD604=>?_⟩;refine ⟨[(68,(.agg #[(.int .i64 a0.jobs),(.slice c1 a0.write.length d1),(.slice e1 a0.read.length f1),(.int .i64 a0.phase),(.slice w0 a0.vars.length y0)])),(69,(.int .i64 (g1:Int)))],⟨AN fC 68 _ rfl,AN fC 69 _ rfl,trivial⟩,λ Q605 hQ606=>?_⟩;replace d0:=d0.st tD;replace e0:=e0.st tD;replace c0:=c0.st tD;refine Bv (O:=kG) (BZ (λ _ h=>h) (Vb.mono (F:=Fr 0 aO kG) (Vb.ofAgg (cs:=[(.int .i64 a0.jobs),(.slice c1 a0.write.length d1),(.slice e1 a0.read.length f1),(.int .i64 a0.phase),(.slice w0 a0.vars.length y0)]) (x:=a0) rfl ⟨_,_,_,rfl,d0,e0,c0,k3,w2⟩) Fr.lt) rk256 rN) rfl λ v611 w607 O608 bO cO=>?_;obtain ⟨rfl,dO⟩:=cO.int;refine Cv (hQ606 _ _ ⟨_,_,rfl,bO,⟨rfl,dO⟩⟩)
  ·refine ⟨_,rfl,λ l616 w617 O618 S619 lG hD621=>?_⟩;obtain ⟨_,eO,rfl,uD⟩:=hD621.at 1 rfl (by kernel_rfl);replace uD:T3 d2:=uD;refine ⟨[(70,(.int .i64 d2)),(72,(.int .i64 i0.dur))],⟨eO,AN lG 72 _ rfl,trivial⟩,λ Q622 hQ623=>?_⟩;refine ai ?_;refine Cv (hQ623 _ _ ⟨_,_,rfl,St.refl _ _ _,⟨rfl,uD⟩⟩)
  ·refine ⟨_,rfl,λ l629 w630 fO S632 fS hD634=>?_⟩;obtain ⟨_,gO,rfl,vD⟩:=hD634.at 2 rfl (by kernel_rfl);replace vD:T3 d2:=vD;refine ⟨[(73,(.agg #[(.slice none 0 0),(.int .i64 d2),(.int .i64 i0.dur)]))],⟨gO,trivial⟩,λ Q635 hQ636=>?_⟩;refine LA fO (xs:=([(⟨([]:List Fct),d2,i0.dur⟩:Eff)]:List Eff)) rfl rfl rfl rfl ⟨(Vb.ofAgg (cs:=[(.slice none 0 0),(.int .i64 d2),(.int .i64 i0.dur)]) (x:=(⟨([]:List Fct),d2,i0.dur⟩:Eff)) rfl ⟨_,rfl,(Vb.nil _ _),vD,bL⟩),trivial⟩ rfl λ g639 w640 O641 hO iO=>?_;refine Cv (hQ636 _ _ ⟨_,_,rfl,hO,⟨_,_,rfl,iO⟩⟩)
  intro l653 fB wD y3 v0 hD658;obtain ⟨_,jO,mG,nG,rfl,xD⟩:=hD658.at 0 rfl rfl;replace xD:Vb fB (Fr 0 fB wD) (.slice mG ([(⟨j2,0⟩:Fct),(⟨x2,0⟩:Fct)]:List Fct).length nG) ([(⟨j2,0⟩:Fct),(⟨x2,0⟩:Fct)]:List Fct):=xD;obtain ⟨_,kO,oG,pG,rfl,yD⟩:=hD658.at 3 rfl rfl;replace yD:Vb fB (Fr 0 fB wD) (.slice oG ([(⟨([]:List Fct),d2,i0.dur⟩:Eff)]:List Eff).length pG) ([(⟨([]:List Fct),d2,i0.dur⟩:Eff)]:List Eff):=yD;refine Qb [(1,(.pointer (some ⟨h5,0,none⟩))),(2,(.pointer (some ⟨j4,0,none⟩))),(5,(.pointer (some ⟨i5,0,none⟩))),(6,(.pointer (some ⟨c2,0,none⟩))),(7,(.int .i64 (g1:Int))),(8,(.pointer (some ⟨c6,0,none⟩))),(9,(.pointer (some ⟨m3.1,0,none⟩))),(40,(.slice o5 x0.jobs.length p5)),(41,(.int .i64 (x0.jobs.length:Int))),(42,(.int .i64 (g1:Int))),(56,(.slice a1.2.1 h2.2.length a1.2.2)),(57,(.agg #[(.int .i64 a0.jobs),(.slice c1 a0.write.length d1),(.slice e1 a0.read.length f1),(.int .i64 a0.phase),(.slice w0 a0.vars.length y0)])),(60,(.string hG)),(62,(.slice y9 i0.start.length z9)),(64,(.slice cA i0.atStart.length dA)),(67,(.slice mG ([(⟨j2,0⟩:Fct),(⟨x2,0⟩:Fct)]:List Fct).length nG)),(74,(.slice oG ([(⟨([]:List Fct),d2,i0.dur⟩:Eff)]:List Eff).length pG))] ⟨AN v0 1 _ rfl,AN v0 2 _ rfl,AN v0 5 _ rfl,AN v0 6 _ rfl,AN v0 7 _ rfl,AN v0 8 _ rfl,AN v0 9 _ rfl,AN v0 40 _ rfl,AN v0 41 _ rfl,AN v0 42 _ rfl,AN v0 56 _ rfl,AN v0 57 _ rfl,AN v0 60 _ rfl,AN v0 62 _ rfl,AN v0 64 _ rfl,jO,kO,trivial⟩ ?_;refine AJ (i:=20) rfl ?_;replace d0:=d0.st y3;replace e0:=e0.st y3;replace c0:=c0.st y3;replace v1:=v1.st y3;replace x1:=x1.st y3;refine Ii (O:=wD) (HA Fr.lt (Vb.ofAgg (cs:=[(.int .i64 a0.jobs),(.slice c1 a0.write.length d1),(.slice e1 a0.read.length f1),(.int .i64 a0.phase),(.slice w0 a0.vars.length y0)]) (x:=a0) rfl ⟨_,_,_,rfl,d0,e0,c0,k3,w2⟩) (QO iG) v1 x1 xD yD sN) rfl λ v671 w667 lO z3 mO=>?_;obtain ⟨gS,rfl,v673,v674,rfl,qG,rG,nO,oO⟩:=mO;obtain ⟨pO,qO,rfl⟩:=qG.form;obtain ⟨rO,sO,rfl⟩:=rG.form;have hZ:=lZ z3;refine Be [(22,[14])] hZ (AJ (i:=21) rfl ?_);refine BI 13 lO (xs:=([m6]:List Opr)) rfl rfl rfl ⟨(Vb.ofAgg (cs:=[(.string m6.name),(.int .i64 m6.cost),(.slice pO m6.pre.length qO),(.slice rO m6.effs.length sO)]) (x:=m6) rfl ⟨_,_,rfl,qG,rG,nO,oO⟩),trivial⟩ λ g683 w684 O685 a4 tO=>?_;have hZ:=lZ a4;refine Be [(22,[14])] hZ (AJ (i:=22) rfl ?_);obtain ⟨sD,uO,vO⟩:=Bz sD;replace u0:=((u0.st y3).st z3).st a4;refine Cj rfl u0 (tO.rd) rfl rfl uO vO λ sG tG w693 wO f4 gB=>?_;rw [<- sD] at gB ⊢;have hZ:=f4.lst [14] (λ _ h=>by cases h;decide);refine Be [] hZ ?_;refine AP (fuel:=1) [] [(23,true)] rfl (AU rfl rfl (AC (AJ (i:=24) rfl ?_)));replace b0:=(((b0.st y3).st z3).st a4).st f4;refine AR b0 rfl rfl rfl (AY) (allOne) λ w698 s4 b0=>?_;refine BM (Bi (Ah ?_));obtain ⟨e2,uG,g0⟩:=bs g0;obtain ⟨z1,xO,g0⟩:=bs g0;refine BT [] wO ?_;refine AP (fuel:=4) [] (BL [0,1,3,4,5]) rfl ?_;replace k0:=((((k0.st y3).st z3).st a4).st f4).st s4;refine EM (hl:=rfl) (hb:=Gy k0) rfl rfl (AS rfl rfl (AU rfl rfl ?_));replace n0:=((((n0.st y3).st z3).st a4).st f4).st s4;refine Bc (hc:=By n0 1 rfl) rfl rfl ?_;have yO:=(BJ uG);refine MD (he:=uG) rfl rfl rfl (AC (Qm (l0:=[(1,(.pointer (some ⟨h5,0,none⟩))),(2,(.pointer (some ⟨j4,0,none⟩))),(5,(.pointer (some ⟨i5,0,none⟩))),(6,(.pointer (some ⟨c2,0,none⟩))),(7,(.int .i64 (g1:Int))),(8,(.pointer (some ⟨c6,0,none⟩))),(9,(.pointer (some ⟨m3.1,0,none⟩))),(40,(.slice o5 x0.jobs.length p5)),(41,(.int .i64 (x0.jobs.length:Int))),(42,(.int .i64 (g1:Int))),(79,(.agg #[(.int .i64 a0.jobs),(.slice c1 a0.write.length d1),(.slice e1 a0.read.length f1),(.int .i64 a0.phase),(.slice w0 a0.vars.length y0)])),(80,(.int .i64 (g1:Int))),(84,(.int .i64 e2))]) (zs:=[⟨2,81,λ v w O=>v=(.int .i64 z1)/\T3 z1⟩,⟨6,85,λ v w O=>v=(.agg #[(.int .i64 z1),(.int .i64 e2)])/\T3 z1/\T3 e2⟩,⟨7,11,λ v w O=>∃ (iB:Nat),v=(.pointer (some ⟨iB,0,none⟩))/\Lc 15 w O iB 61 [(.int .i64 0),(.int .i64 0)]⟩]) #[true,true,true,true,true,true,true,true,false] 1 [] ⟨rfl,rfl,rfl,rfl,rfl,rfl,rfl,rfl,rfl,rfl,rfl,rfl,rfl,trivial⟩ ⟨⟨λ _ _ _ _ _ ⟨e,zO⟩ hS=>⟨e,zO⟩,?_⟩,⟨λ _ _ _ _ _ ⟨e,aP,bP⟩ hS=>⟨e,aP,bP⟩,?_⟩,⟨λ _ _ _ _ _ ⟨iB,e,cP⟩ hS=>⟨iB,e,cP.st hS id⟩,?_⟩,trivial⟩ ?_ rfl))
  ·refine ⟨_,rfl,λ l710 dP vG eP gC hD715=>?_⟩;refine ⟨[(79,(.agg #[(.int .i64 a0.jobs),(.slice c1 a0.write.length d1),(.slice e1 a0.read.length f1),(.int .i64 a0.phase),(.slice w0 a0.vars.length y0)])),(80,(.int .i64 (g1:Int)))],⟨AN gC 79 _ rfl,AN gC 80 _ rfl,trivial⟩,λ Q716 hQ717=>?_⟩;have s8:=(((z3.an a4).an f4).an s4).an eP;replace d0:=d0.st s8;replace e0:=e0.st s8;replace c0:=c0.st s8;refine Bv (O:=vG) (BZ (λ _ h=>h) (Vb.mono (F:=Fr 0 dP vG) (Vb.ofAgg (cs:=[(.int .i64 a0.jobs),(.slice c1 a0.write.length d1),(.slice e1 a0.read.length f1),(.int .i64 a0.phase),(.slice w0 a0.vars.length y0)]) (x:=a0) rfl ⟨_,_,_,rfl,d0,e0,c0,k3,w2⟩) Fr.lt) rk256 xO) rfl λ v722 w718 O719 fP gP=>?_;obtain ⟨rfl,hP⟩:=gP.int;refine Cv (hQ717 _ _ ⟨_,_,rfl,fP,⟨rfl,hP⟩⟩)
  ·refine ⟨_,rfl,λ l727 w728 O729 S730 wG hD732=>?_⟩;obtain ⟨_,iP,rfl,zD⟩:=hD732.at 0 rfl (by kernel_rfl);replace zD:T3 z1:=zD;refine ⟨[(81,(.int .i64 z1)),(84,(.int .i64 e2))],⟨iP,AN wG 84 _ rfl,trivial⟩,λ Q733 hQ734=>?_⟩;refine ai ?_;refine Cv (hQ734 _ _ ⟨_,_,rfl,St.refl _ _ _,⟨rfl,zD,yO⟩⟩)
  ·refine ⟨_,rfl,λ l743 w744 jP S746 iS hD748=>?_⟩;refine ⟨[],trivial,λ Q749 hQ750=>?_⟩;refine Bw 15 jP λ g751 w752 O753 kP lP=>?_;refine Cv (hQ750 _ _ ⟨_,_,rfl,kP,⟨_,rfl,lP⟩⟩)
  intro l762 w763 mP t4 l2 hD767;obtain ⟨_,nP,oP,rfl,aE⟩:=hD767.at 2 rfl rfl;obtain ⟨_,pP,rfl,bE,cE⟩:=hD767.at 1 rfl rfl;replace bE:T3 z1:=bE;replace cE:T3 e2:=cE;refine Qb [(1,(.pointer (some ⟨h5,0,none⟩))),(2,(.pointer (some ⟨j4,0,none⟩))),(5,(.pointer (some ⟨i5,0,none⟩))),(6,(.pointer (some ⟨c2,0,none⟩))),(7,(.int .i64 (g1:Int))),(8,(.pointer (some ⟨c6,0,none⟩))),(9,(.pointer (some ⟨m3.1,0,none⟩))),(11,(.pointer (some ⟨oP,0,none⟩))),(40,(.slice o5 x0.jobs.length p5)),(41,(.int .i64 (x0.jobs.length:Int))),(42,(.int .i64 (g1:Int))),(85,(.agg #[(.int .i64 z1),(.int .i64 e2)]))] ⟨AN l2 1 _ rfl,AN l2 2 _ rfl,AN l2 5 _ rfl,AN l2 6 _ rfl,AN l2 7 _ rfl,AN l2 8 _ rfl,AN l2 9 _ rfl,nP,AN l2 40 _ rfl,AN l2 41 _ rfl,AN l2 42 _ rfl,pP,trivial⟩ ?_;refine AJ (i:=8) rfl ?_;refine AR aE rfl rfl rfl (AY) (allOne) λ w774 u4 aE=>?_;refine BM (Bi (Ah ?_));obtain ⟨xG,yG,g0⟩:=bs g0;obtain ⟨f2,qP,g0⟩:=bs g0;obtain ⟨g2,rP,g0⟩:=bs g0;obtain ⟨n6,sP,g0⟩:=bs g0;obtain ⟨u784,dE,g0⟩:=bs g0;refine BT [(21,[16,17]),(23,[14])] mP ?_;refine AP (fuel:=11) [14,16,17] (BL [0,1,2,3,4,6,7,8,9,10,12,13,16,17,5]) rfl (AU rfl rfl ?_);replace b0:=(b0.st t4).st u4;refine Bc (hc:=By b0 3 rfl) rfl rfl ?_;replace k0:=(k0.st t4).st u4;refine EM (hl:=rfl) (hb:=Gy k0) rfl rfl (AU rfl rfl ?_);replace n0:=(n0.st t4).st u4;refine Bc (hc:=By n0 0 rfl) rfl rfl (AU rfl rfl (Bc (hc:=By n0 4 rfl) rfl rfl (AU rfl rfl (Bc (hc:=By n0 6 rfl) rfl rfl (EM (hl:=rfl) (hb:=Gy aE) rfl rfl (EM (hl:=rfl) (hb:=Gy k0) rfl rfl (AS rfl rfl (EM (hl:=rfl) (hb:=Gy k0) rfl rfl (AS rfl rfl (Oy (he:=yG) rfl rfl rfl rfl (AC (Qm (l0:=[(1,(.pointer (some ⟨h5,0,none⟩))),(2,(.pointer (some ⟨j4,0,none⟩))),(5,(.pointer (some ⟨i5,0,none⟩))),(6,(.pointer (some ⟨c2,0,none⟩))),(9,(.pointer (some ⟨m3.1,0,none⟩))),(40,(.slice o5 x0.jobs.length p5)),(41,(.int .i64 (x0.jobs.length:Int))),(42,(.int .i64 (g1:Int))),(87,(.slice sG jG.length tG)),(88,(.agg #[(.int .i64 a0.jobs),(.slice c1 a0.write.length d1),(.slice e1 a0.read.length f1),(.int .i64 a0.phase),(.slice w0 a0.vars.length y0)])),(91,(.string xG)),(93,(.slice aA i0.fin.length bA)),(95,(.slice eA i0.atEnd.length fA)),(96,(.agg #[(.int .i64 z1),(.int .i64 e2)])),(98,(.agg #[(.int .i64 a0.jobs),(.slice c1 a0.write.length d1),(.slice e1 a0.read.length f1),(.int .i64 a0.phase),(.slice w0 a0.vars.length y0)])),(99,(.int .i64 (g1:Int))),(102,(.agg #[(.int .i64 a0.jobs),(.slice c1 a0.write.length d1),(.slice e1 a0.read.length f1),(.int .i64 a0.phase),(.slice w0 a0.vars.length y0)])),(103,(.int .i64 (g1:Int)))]) (zs:=[⟨11,97,λ v w O=>∃ (jB:Option Addr),∃ (kB:Nat),v=(.slice jB ([(⟨z1,e2⟩:Fct)]:List Fct).length kB)/\Vb w (Fr 0 w O) (.slice jB ([(⟨z1,e2⟩:Fct)]:List Fct).length kB) ([(⟨z1,e2⟩:Fct)]:List Fct)⟩,⟨14,100,λ v w O=>v=(.int .i64 f2)/\T3 f2⟩,⟨15,101,λ v w O=>v=(.agg #[(.slice none 0 0),(.int .i64 f2),(.int .i64 0)])/\T3 f2⟩,⟨18,104,λ v w O=>v=(.int .i64 g2)/\T3 g2⟩,⟨19,105,λ v w O=>v=(.agg #[(.slice none 0 0),(.int .i64 g2),(.int .i64 1)])/\T3 g2⟩,⟨20,106,λ v w O=>∃ (lB:Option Addr),∃ (mB:Nat),v=(.slice lB ([(⟨([]:List Fct),f2,0⟩:Eff),(⟨([]:List Fct),g2,1⟩:Eff)]:List Eff).length mB)/\Vb w (Fr 0 w O) (.slice lB ([(⟨([]:List Fct),f2,0⟩:Eff),(⟨([]:List Fct),g2,1⟩:Eff)]:List Eff).length mB) ([(⟨([]:List Fct),f2,0⟩:Eff),(⟨([]:List Fct),g2,1⟩:Eff)]:List Eff)⟩]) #[true,true,true,true,true,true,true,true,true,true,true,true,true,true,true,true,true,true,true,true,true,false,false,false,false,false] 5 [(21,[16,17]),(23,[14])] ⟨rfl,rfl,rfl,rfl,rfl,rfl,rfl,rfl,rfl,rfl,rfl,rfl,rfl,rfl,rfl,rfl,rfl,rfl,trivial⟩ ⟨⟨λ _ _ _ _ _ ⟨jB,kB,e,tP⟩ hS=>⟨jB,kB,e,tP.st hS id⟩,?_⟩,⟨λ _ _ _ _ _ ⟨e,uP⟩ hS=>⟨e,uP⟩,?_⟩,⟨λ _ _ _ _ _ ⟨e,vP⟩ hS=>⟨e,vP⟩,?_⟩,⟨λ _ _ _ _ _ ⟨e,wP⟩ hS=>⟨e,wP⟩,?_⟩,⟨λ _ _ _ _ _ ⟨e,xP⟩ hS=>⟨e,xP⟩,?_⟩,⟨λ _ _ _ _ _ ⟨lB,mB,e,yP⟩ hS=>⟨lB,mB,e,yP.st hS id⟩,?_⟩,trivial⟩ ?_ rfl))))))))))))
  ·refine ⟨_,rfl,λ l796 w797 zP S799 zG hD801=>?_⟩;refine ⟨[(96,(.agg #[(.int .i64 z1),(.int .i64 e2)]))],⟨AN zG 96 _ rfl,trivial⟩,λ Q802 hQ803=>?_⟩;refine LA zP (xs:=([(⟨z1,e2⟩:Fct)]:List Fct)) rfl rfl rfl rfl ⟨(Vb.ofAgg (cs:=[(.int .i64 z1),(.int .i64 e2)]) (x:=(⟨z1,e2⟩:Fct)) rfl ⟨rfl,bE,cE⟩),trivial⟩ rfl λ g804 w805 O806 aQ bQ=>?_;refine Cv (hQ803 _ _ ⟨_,_,rfl,aQ,⟨_,_,rfl,bQ⟩⟩)
  ·refine ⟨_,rfl,λ l818 cQ aH dQ hC hD823=>?_⟩;refine ⟨[(98,(.agg #[(.int .i64 a0.jobs),(.slice c1 a0.write.length d1),(.slice e1 a0.read.length f1),(.int .i64 a0.phase),(.slice w0 a0.vars.length y0)])),(99,(.int .i64 (g1:Int)))],⟨AN hC 98 _ rfl,AN hC 99 _ rfl,trivial⟩,λ Q824 hQ825=>?_⟩;have t8:=(((((z3.an a4).an f4).an s4).an t4).an u4).an dQ;replace d0:=d0.st t8;replace e0:=e0.st t8;replace c0:=c0.st t8;refine Bv (O:=aH) (BZ (λ _ h=>h) (Vb.mono (F:=Fr 0 cQ aH) (Vb.ofAgg (cs:=[(.int .i64 a0.jobs),(.slice c1 a0.write.length d1),(.slice e1 a0.read.length f1),(.int .i64 a0.phase),(.slice w0 a0.vars.length y0)]) (x:=a0) rfl ⟨_,_,_,rfl,d0,e0,c0,k3,w2⟩) Fr.lt) rk256 qP) rfl λ v830 w826 O827 eQ fQ=>?_;obtain ⟨rfl,gQ⟩:=fQ.int;refine Cv (hQ825 _ _ ⟨_,_,rfl,eQ,⟨rfl,gQ⟩⟩)
  ·refine ⟨_,rfl,λ l835 w836 O837 S838 jS hD840=>?_⟩;obtain ⟨_,hQ,rfl,eE⟩:=hD840.at 1 rfl (by kernel_rfl);replace eE:T3 f2:=eE;refine ⟨[(100,(.int .i64 f2))],⟨hQ,trivial⟩,λ Q841 hQ842=>?_⟩;refine ai ?_;refine Cv (hQ842 _ _ ⟨_,_,rfl,St.refl _ _ _,⟨rfl,eE⟩⟩)
  ·refine ⟨_,rfl,λ l848 iQ bH jQ iC hD853=>?_⟩;refine ⟨[(102,(.agg #[(.int .i64 a0.jobs),(.slice c1 a0.write.length d1),(.slice e1 a0.read.length f1),(.int .i64 a0.phase),(.slice w0 a0.vars.length y0)])),(103,(.int .i64 (g1:Int)))],⟨AN iC 102 _ rfl,AN iC 103 _ rfl,trivial⟩,λ Q854 hQ855=>?_⟩;have u8:=(((((z3.an a4).an f4).an s4).an t4).an u4).an jQ;replace d0:=d0.st u8;replace e0:=e0.st u8;replace c0:=c0.st u8;refine Bv (O:=bH) (BV (λ _ h=>h) (Vb.mono (F:=Fr 0 iQ bH) (Vb.ofAgg (cs:=[(.int .i64 a0.jobs),(.slice c1 a0.write.length d1),(.slice e1 a0.read.length f1),(.int .i64 a0.phase),(.slice w0 a0.vars.length y0)]) (x:=a0) rfl ⟨_,_,_,rfl,d0,e0,c0,k3,w2⟩) Fr.lt) rk256 rP) rfl λ v860 w856 O857 kQ lQ=>?_;obtain ⟨rfl,mQ⟩:=lQ.int;refine Cv (hQ855 _ _ ⟨_,_,rfl,kQ,⟨rfl,mQ⟩⟩)
  ·refine ⟨_,rfl,λ l865 w866 O867 S868 kS hD870=>?_⟩;obtain ⟨_,nQ,rfl,fE⟩:=hD870.at 3 rfl (by kernel_rfl);replace fE:T3 g2:=fE;refine ⟨[(104,(.int .i64 g2))],⟨nQ,trivial⟩,λ Q871 hQ872=>?_⟩;refine ai ?_;refine Cv (hQ872 _ _ ⟨_,_,rfl,St.refl _ _ _,⟨rfl,fE⟩⟩)
  ·refine ⟨_,rfl,λ l878 w879 oQ S881 lS hD883=>?_⟩;obtain ⟨_,pQ,rfl,gE⟩:=hD883.at 2 rfl (by kernel_rfl);replace gE:T3 f2:=gE;obtain ⟨_,qQ,rfl,hE⟩:=hD883.at 4 rfl (by kernel_rfl);replace hE:T3 g2:=hE;refine ⟨[(101,(.agg #[(.slice none 0 0),(.int .i64 f2),(.int .i64 0)])),(105,(.agg #[(.slice none 0 0),(.int .i64 g2),(.int .i64 1)]))],⟨pQ,qQ,trivial⟩,λ Q884 hQ885=>?_⟩;refine LA oQ (xs:=([(⟨([]:List Fct),f2,0⟩:Eff),(⟨([]:List Fct),g2,1⟩:Eff)]:List Eff)) rfl rfl rfl rfl ⟨(Vb.ofAgg (cs:=[(.slice none 0 0),(.int .i64 f2),(.int .i64 0)]) (x:=(⟨([]:List Fct),f2,0⟩:Eff)) rfl ⟨_,rfl,(Vb.nil _ _),gE,(T8 0)⟩),(Vb.ofAgg (cs:=[(.slice none 0 0),(.int .i64 g2),(.int .i64 1)]) (x:=(⟨([]:List Fct),g2,1⟩:Eff)) rfl ⟨_,rfl,(Vb.nil _ _),hE,(T8 1)⟩),trivial⟩ rfl λ g890 w891 O892 rQ sQ=>?_;refine Cv (hQ885 _ _ ⟨_,_,rfl,rQ,⟨_,_,rfl,sQ⟩⟩)
  intro l904 nB iE v8 u1 hD909;obtain ⟨_,tQ,cH,dH,rfl,jE⟩:=hD909.at 0 rfl rfl;replace jE:Vb nB (Fr 0 nB iE) (.slice cH ([(⟨z1,e2⟩:Fct)]:List Fct).length dH) ([(⟨z1,e2⟩:Fct)]:List Fct):=jE;obtain ⟨_,uQ,eH,fH,rfl,kE⟩:=hD909.at 5 rfl rfl;replace kE:Vb nB (Fr 0 nB iE) (.slice eH ([(⟨([]:List Fct),f2,0⟩:Eff),(⟨([]:List Fct),g2,1⟩:Eff)]:List Eff).length fH) ([(⟨([]:List Fct),f2,0⟩:Eff),(⟨([]:List Fct),g2,1⟩:Eff)]:List Eff):=kE;refine Qb [(1,(.pointer (some ⟨h5,0,none⟩))),(2,(.pointer (some ⟨j4,0,none⟩))),(5,(.pointer (some ⟨i5,0,none⟩))),(6,(.pointer (some ⟨c2,0,none⟩))),(9,(.pointer (some ⟨m3.1,0,none⟩))),(40,(.slice o5 x0.jobs.length p5)),(41,(.int .i64 (x0.jobs.length:Int))),(42,(.int .i64 (g1:Int))),(87,(.slice sG jG.length tG)),(88,(.agg #[(.int .i64 a0.jobs),(.slice c1 a0.write.length d1),(.slice e1 a0.read.length f1),(.int .i64 a0.phase),(.slice w0 a0.vars.length y0)])),(91,(.string xG)),(93,(.slice aA i0.fin.length bA)),(95,(.slice eA i0.atEnd.length fA)),(97,(.slice cH ([(⟨z1,e2⟩:Fct)]:List Fct).length dH)),(106,(.slice eH ([(⟨([]:List Fct),f2,0⟩:Eff),(⟨([]:List Fct),g2,1⟩:Eff)]:List Eff).length fH))] ⟨AN u1 1 _ rfl,AN u1 2 _ rfl,AN u1 5 _ rfl,AN u1 6 _ rfl,AN u1 9 _ rfl,AN u1 40 _ rfl,AN u1 41 _ rfl,AN u1 42 _ rfl,AN u1 87 _ rfl,AN u1 88 _ rfl,AN u1 91 _ rfl,AN u1 93 _ rfl,AN u1 95 _ rfl,tQ,uQ,trivial⟩ ?_;refine AJ (i:=21) rfl ?_;have w8:=(((((z3.an a4).an f4).an s4).an t4).an u4).an v8;have x8:=((((((y3.an z3).an a4).an f4).an s4).an t4).an u4).an v8;replace d0:=d0.st w8;replace e0:=e0.st w8;replace c0:=c0.st w8;replace w1:=w1.st x8;replace y1:=y1.st x8;refine Ii (O:=iE) (HA Fr.lt (Vb.ofAgg (cs:=[(.int .i64 a0.jobs),(.slice c1 a0.write.length d1),(.slice e1 a0.read.length f1),(.int .i64 a0.phase),(.slice w0 a0.vars.length y0)]) (x:=a0) rfl ⟨_,_,_,rfl,d0,e0,c0,k3,w2⟩) (QO yG) w1 y1 jE kE sP) rfl λ v922 w918 vQ o6 wQ=>?_;obtain ⟨mS,rfl,v924,v925,rfl,gH,hH,xQ,yQ⟩:=wQ;obtain ⟨zQ,aR,rfl⟩:=gH.form;obtain ⟨bR,cR,rfl⟩:=hH.form;have hZ:=lZ o6;refine Be [(23,[14])] hZ (AJ (i:=22) rfl ?_);refine BI 18 vQ (xs:=([n6]:List Opr)) rfl rfl rfl ⟨(Vb.ofAgg (cs:=[(.string n6.name),(.int .i64 n6.cost),(.slice zQ n6.pre.length aR),(.slice bR n6.effs.length cR)]) (x:=n6) rfl ⟨_,_,rfl,gH,hH,xQ,yQ⟩),trivial⟩ λ g934 w935 O936 p6 dR=>?_;have hZ:=lZ p6;refine Be [(23,[14])] hZ (AJ (i:=23) rfl ?_);obtain ⟨dE,eR,fR⟩:=Bz dE;replace gB:=(((((gB.st s4).st t4).st u4).st v8).st o6).st p6;refine Cj rfl gB (dR.rd) rfl rfl eR fR λ gR hR w944 O945 y8 iH=>?_;rw [<- dE] at iH ⊢;have hZ:=y8.lst [14] (λ _ h=>by cases h;decide);refine Be [] hZ ?_;refine AP (fuel:=1) [] [(24,true)] rfl (AU rfl rfl (AC (AJ (i:=25) rfl ?_)));replace b0:=(((b0.st v8).st o6).st p6).st y8;refine AR b0 rfl rfl rfl (AY) (allOne) λ w949 oB b0=>?_;refine BM (Bi (Ae (AD rfl (AQ (hc:=Blk.cell (i:=2) (b0.1) rfl) rfl ?_))));have z8:=(((x8.an o6).an p6).an y8).an oB;replace aB:=aB.st z8;refine BX (hl:=rfl) (hc:=(aB.1).cellsAt) rfl ?_;obtain ⟨u951,lE,g0⟩:=bs g0;obtain ⟨lE,iR,jR⟩:=Bz lE;replace h1:=h1.st z8;refine DQ rfl (a:=(⟨j2,0⟩:Fct)) h1 (Vb.ofAgg (cs:=[(.int .i64 j2),(.int .i64 0)]) (x:=(⟨j2,0⟩:Fct)) rfl ⟨rfl,gG,(T8 0)⟩) (λ _=>rfl) rfl iR jR ⟨rfl,rfl⟩ λ g955 kR lR w958 O959 a9 jH=>?_;rw [<- lE] at jH ⊢;refine AD rfl ?_;replace b0:=b0.st a9;refine AR b0 rfl rfl rfl (AY) (allOne) λ w963 b9 b0=>?_;refine o_z ?_;obtain rfl:=sm g0;have d9:=((((o6.an p6).an y8).an oB).an a9).an b9;have w4:=(z8.an a9).an b9;exact show Exists _ from ⟨_,((kR,lR),(gR,hR)),rfl,⟨rfl,rfl,rfl,rfl,rfl,rfl,rfl,trivial⟩,_,hB.st w4,r0.st w4,o0.st w4,((((((k0.st v8).st o6).st p6).st y8).st oB).st a9).st b9,d0.st d9,e0.st d9,c0.st d9,b0,h0.st w4,f0.st w4,jH.st b9,((iH.st oB).st a9).st b9⟩
 rintro l965 w966 ⟨s969,kH,rfl,lH,O967,hB,r0,o0,k0,d0,e0,c0,b0,h0,f0,h1,u0⟩;replace hm:=BE hm;refine AX _ lH ?_;refine Ah (Ae (AD rfl (AQ (hc:=Blk.cell (i:=2) (b0.1) rfl) rfl (AD rfl (AQ (hc:=Blk.cell (i:=3) (k0.1) rfl) rfl (CX rfl rfl ?_))))));obtain ⟨v2,mE,hm⟩:=bs hm;obtain ⟨mE,mR,nR⟩:=Bz mE;refine DQ rfl (a:=(⟨a0.phase,0⟩:Fct)) h1 (Vb.ofAgg (cs:=[(.int .i64 a0.phase),(.int .i64 0)]) (x:=(⟨a0.phase,0⟩:Fct)) rfl ⟨rfl,w2,(T8 0)⟩) (λ _=>rfl) rfl mR nR ⟨rfl,rfl⟩ λ g975 g4 h4 w978 oR m5 m0=>?_;rw [<- mE] at m0 ⊢;refine AD rfl ?_;replace b0:=b0.st m5;refine AR b0 rfl rfl rfl (AY) (allOne) λ w983 i4 b0=>?_;refine o_z (Ah ?_);obtain ⟨x4,s0,hm⟩:=bs hm;refine BF (λ l' w'=>∃ (n3:(Option Addr×Nat)) (O':Lab),T7 l' [(2,(.pointer (some ⟨j4,0,none⟩))),(6,(.pointer (some ⟨c2,0,none⟩)))]/\Bs w A w' O'/\Lc 3 w' O' j4 32 [(.slice none 0 0),(.slice none 0 0),(.slice none 0 0),(.slice none 0 0)]/\Lc 7 w' O' c2 32 [(.slice m2 a0.vars.length n2),(.slice o2 k2.length p2),(.slice g4 v2.length h4),(.slice n3.1 x4.length n3.2)]/\Vb w' (Fr 0 w' O') (.slice m2 a0.vars.length n2) a0.vars/\Rw 5 w' O' 3 (.slice o2 k2.length p2) (cpyL k2 x0.init)/\Rw 6 w' O' 61 (.slice g4 v2.length h4) v2/\Rw 14 w' O' 65 (.slice n3.1 x4.length n3.2) x4) ?_ ?_
 ·refine Ah (Ae (AD rfl ?_));replace r0:=(r0.st m5).st i4;refine AQ (hc:=Blk.cell (i:=3) (r0.1) rfl) rfl (AT rfl ?_);have pR:=BK bD.len;have r991:=rngNat pR;refine Cw rfl rfl (λ nE=>?_) λ nE=>?_
  ·replace s0:=ip s0 nE;refine o_z (Am rfl (Ah (Ae (AD rfl (AQ (hc:=Blk.cell (i:=3) (b0.1) rfl) rfl (AD rfl ?_))))));replace k0:=(k0.st m5).st i4;refine AQ (hc:=Blk.cell (i:=3) (k0.1) rfl) rfl (CX rfl rfl ?_);refine BI 19 oR (xs:=([(⟨a0.phase,0⟩:Fct)]:List Fct)) rfl rfl rfl ⟨(Vb.ofAgg (cs:=[(.int .i64 a0.phase),(.int .i64 0)]) (x:=(⟨a0.phase,0⟩:Fct)) rfl ⟨rfl,w2,(T8 0)⟩),trivial⟩ λ qR w995 rR q6 n5=>?_;refine AD rfl ?_;replace k0:=k0.st q6;refine AQ (hc:=Blk.cell (i:=3) (k0.1) rfl) rfl (CX rfl rfl ?_);refine BI 20 rR (xs:=([(⟨([]:List Fct),a0.phase,1⟩:Eff)]:List Eff)) rfl rfl rfl ⟨(Vb.ofAgg (cs:=[(.slice none 0 0),(.int .i64 a0.phase),(.int .i64 1)]) (x:=(⟨([]:List Fct),a0.phase,1⟩:Eff)) rfl ⟨_,rfl,(Vb.nil _ _),w2,(T8 1)⟩),trivial⟩ λ mH nS oS o3 y4=>?_;refine ai ?_;replace n5:=n5.st o3;obtain ⟨pS,p3,n5⟩:=n5.freeze;replace y4:=y4.st p3;obtain ⟨qS,q3,y4⟩:=y4.freeze;obtain ⟨rS,e9,s0⟩:=bs s0;obtain ⟨e9,nH,oH⟩:=Bz e9;replace u0:=(((((u0.st m5).st i4).st q6).st o3).st p3).st q3;replace n5:=n5.st q3;refine DQ rfl (a:=(⟨(⟨#[116,105,99,107]⟩:ByteArray),0,[(⟨a0.phase,0⟩:Fct)],[(⟨([]:List Fct),a0.phase,1⟩:Eff)]⟩:Opr)) u0 (Vb.ofAgg (cs:=[(.string (⟨#[116,105,99,107]⟩:ByteArray)),(.int .i64 0),(.slice (some ⟨qR,0,none⟩) [(⟨a0.phase,0⟩:Fct)].length 1),(.slice (some ⟨mH,0,none⟩) [(⟨([]:List Fct),a0.phase,1⟩:Eff)].length 1)]) (x:=(⟨(⟨#[116,105,99,107]⟩:ByteArray),0,[(⟨a0.phase,0⟩:Fct)],[(⟨([]:List Fct),a0.phase,1⟩:Eff)]⟩:Opr)) rfl ⟨_,_,rfl,n5,y4,(T8 0),(show (⟨#[116,105,99,107]⟩:ByteArray).size<=9223372036854775807 from by decide)⟩) (λ _=>rfl) rfl nH oH ⟨rfl,rfl⟩ λ sS pH qH tS rH z4 u5=>?_;rw [<- e9] at u5 ⊢;refine AD rfl ?_;replace b0:=((((b0.st q6).st o3).st p3).st q3).st z4;refine AR b0 rfl rfl rfl (AY) (allOne) λ uS a5 b0=>?_;refine o_z (Ah (Ah (Ae (AD rfl ?_))));replace r0:=(((((r0.st q6).st o3).st p3).st q3).st z4).st a5;refine AQ (hc:=Blk.cell (i:=3) (r0.1) rfl) rfl (AT rfl ?_);have f9:=BK bD.len;have vS:=rngNat f9;refine Ar rfl (o_z ?_);obtain ⟨eK,oE,s0⟩:=bs s0;have r3:=((((((m5.an i4).an q6).an o3).an p3).an q3).an z4).an a5;replace hB:=hB.st r3;replace o0:=o0.st r3;replace d0:=d0.st r3;replace e0:=e0.st r3;replace c0:=c0.st r3;replace k0:=((((k0.st o3).st p3).st q3).st z4).st a5;replace h0:=h0.st r3;replace f0:=f0.st r3;replace m0:=((((((m0.st i4).st q6).st o3).st p3).st q3).st z4).st a5;replace u5:=u5.st a5;refine Dv (X:=(Option Addr×Nat)) (x0.jobs.length) oE rfl f9 (λ b5 a3=>[(1,(.pointer (some ⟨h5,0,none⟩))),(2,(.pointer (some ⟨j4,0,none⟩))),(5,(.pointer (some ⟨i5,0,none⟩))),(6,(.pointer (some ⟨c2,0,none⟩))),(145,(.slice o5 x0.jobs.length p5))]) (λ b5 a3 w'=>∃ O':Lab,Bs w A w' O'/\Lc 2 w' O' h5 26 [(.slice A8 x0.vars.length c9),(.slice oJ x0.init.length pJ),(.slice wE x0.goal.length xE),(.slice o5 x0.jobs.length p5)]/\Lc 3 w' O' j4 32 [(.slice none 0 0),(.slice none 0 0),(.slice none 0 0),(.slice none 0 0)]/\Lc 4 w' O' i5 57 [(.int .i64 a0.jobs),(.slice c1 a0.write.length d1),(.slice e1 a0.read.length f1),(.int .i64 a0.phase),(.slice w0 a0.vars.length y0)]/\Vb w' (Fr 0 w' O') (.slice c1 a0.write.length d1) a0.write/\Vb w' (Fr 0 w' O') (.slice e1 a0.read.length f1) a0.read/\Vb w' (Fr 0 w' O') (.slice w0 a0.vars.length y0) a0.vars/\Lc 7 w' O' c2 32 [(.slice m2 a0.vars.length n2),(.slice o2 k2.length p2),(.slice g4 v2.length h4),(.slice a3.1 b5.length a3.2)]/\Vb w' (Fr 0 w' O') (.slice m2 a0.vars.length n2) a0.vars/\Rw 5 w' O' 3 (.slice o2 k2.length p2) (cpyL k2 x0.init)/\Rw 6 w' O' 61 (.slice g4 v2.length h4) v2/\Rw 14 w' O' 65 (.slice a3.1 b5.length a3.2) b5) (pH,qH) ⟨rH,hB,r0,o0,k0,d0,e0,c0,b0,h0,f0,m0,u5⟩ ⟨rfl,rfl,rfl,rfl,rfl,rfl,rfl,trivial⟩ (λ _ _=>rfl) ?_ ?_
   ·rintro jC j0 b5 a3 wS sR g9 ⟨sH,hB,r0,o0,k0,d0,e0,c0,b0,h0,f0,m0,s3⟩ a2 tH uH;have rk1030:=V5 g9 f9;refine Ah (Ae (Ar rfl ?_));obtain ⟨xS,yS,tR,pE,qE,rE,zS,aT,bT,cT,dT,rfl,b3,c3,d3,e3,f3,vH,wH⟩:=(bD.zs hA hB).elem' g9;obtain ⟨h9,i9,rfl⟩:=b3.form;obtain ⟨j9,k9,rfl⟩:=c3.form;obtain ⟨l9,m9,rfl⟩:=d3.form;obtain ⟨n9,o9,rfl⟩:=e3.form;obtain ⟨p9,q9,rfl⟩:=f3.form;refine CN (hA:=pE) (hj:=rfl) (hlt:=qE) rfl rfl (BX (hl:=rfl) (hc:=rE) rfl ?_);refine Bw 21 sH λ kC eT xH yH g3=>?_;refine Au rfl (AR g3 rfl rfl rfl (AY) (allOne) λ fT zH g3=>?_);refine o_z (Ah (Ae (AD rfl (AQ (hc:=Blk.cell (i:=1) (g3.1) rfl) rfl ?_))));obtain ⟨gT,lC,a2⟩:=bs a2;have mC:=(BJ lC);refine DD (he:=lC) rfl rfl (Ar rfl (o_z ?_));obtain ⟨aI,t3,a2⟩:=bs a2;replace t3:=NA t3;obtain ⟨fK,sE,a2⟩:=bs a2;have q0:=yH.an zH;replace hB:=hB.st q0;replace r0:=r0.st q0;replace o0:=o0.st q0;replace d0:=d0.st q0;replace e0:=e0.st q0;replace c0:=c0.st q0;replace k0:=k0.st q0;replace b0:=b0.st q0;replace h0:=h0.st q0;replace f0:=f0.st q0;replace m0:=m0.st q0;replace s3:=s3.st q0;replace b3:=b3.st q0;replace c3:=c3.st q0;replace d3:=d3.st q0;replace e3:=e3.st q0;replace f3:=f3.st q0;refine NB (X:=(Option Addr×Nat)) aI sE (Ot t3 mC) (λ c5 b4=>[(1,(.pointer (some ⟨h5,0,none⟩))),(2,(.pointer (some ⟨j4,0,none⟩))),(5,(.pointer (some ⟨i5,0,none⟩))),(6,(.pointer (some ⟨c2,0,none⟩))),(12,(.int .i64 (jC:Int))),(13,(.pointer (some ⟨kC,0,none⟩))),(145,(.slice o5 x0.jobs.length p5)),(146,(.int .i64 (x0.jobs.length:Int))),(147,(.int .i64 (jC:Int)))]) (λ c5 b4 w'=>∃ O':Lab,Bs w A w' O'/\Lc 2 w' O' h5 26 [(.slice A8 x0.vars.length c9),(.slice oJ x0.init.length pJ),(.slice wE x0.goal.length xE),(.slice o5 x0.jobs.length p5)]/\Lc 3 w' O' j4 32 [(.slice none 0 0),(.slice none 0 0),(.slice none 0 0),(.slice none 0 0)]/\Lc 4 w' O' i5 57 [(.int .i64 a0.jobs),(.slice c1 a0.write.length d1),(.slice e1 a0.read.length f1),(.int .i64 a0.phase),(.slice w0 a0.vars.length y0)]/\Vb w' (Fr 0 w' O') (.slice c1 a0.write.length d1) a0.write/\Vb w' (Fr 0 w' O') (.slice e1 a0.read.length f1) a0.read/\Vb w' (Fr 0 w' O') (.slice w0 a0.vars.length y0) a0.vars/\Lc 7 w' O' c2 32 [(.slice m2 a0.vars.length n2),(.slice o2 k2.length p2),(.slice g4 v2.length h4),(.slice b4.1 c5.length b4.2)]/\Vb w' (Fr 0 w' O') (.slice m2 a0.vars.length n2) a0.vars/\Rw 5 w' O' 3 (.slice o2 k2.length p2) (cpyL k2 x0.init)/\Rw 6 w' O' 61 (.slice g4 v2.length h4) v2/\Rw 14 w' O' 65 (.slice b4.1 c5.length b4.2) c5/\Lc 21 w' O' kC 53 [(.string j0.name),(.int .i64 j0.dur),(.slice h9 j0.start.length i9),(.slice j9 j0.over.length k9),(.slice l9 j0.fin.length m9),(.slice n9 j0.atStart.length o9),(.slice p9 j0.atEnd.length q9)]/\Vb w' (Fr 0 w' O') (.slice h9 j0.start.length i9) j0.start/\Vb w' (Fr 0 w' O') (.slice j9 j0.over.length k9) j0.over/\Vb w' (Fr 0 w' O') (.slice l9 j0.fin.length m9) j0.fin/\Vb w' (Fr 0 w' O') (.slice n9 j0.atStart.length o9) j0.atStart/\Vb w' (Fr 0 w' O') (.slice p9 j0.atEnd.length q9) j0.atEnd) (a3.1,a3.2) ⟨xH,hB,r0,o0,k0,d0,e0,c0,b0,h0,f0,m0,s3,g3,b3,c3,d3,e3,f3⟩ ⟨rfl,(congrArg (λ z=>some (Value.int .i64 z)) t3),rfl,rfl,rfl,rfl,rfl,rfl,rfl,rfl,rfl,trivial⟩ (λ _ _=>rfl) ?_ ?_
    ·rintro hT c5 b4 iT uR tE ⟨nC,hB,r0,o0,k0,d0,e0,c0,b0,h0,f0,m0,d5,g3,b3,c3,d3,e3,f3⟩ u3 bI cI;have rk1088:=Ac6 tE (Ot t3 mC);refine Ah (Ae (Ar rfl (Au rfl (o_z ?_))));refine BT [(8,[14])] nC ?_;refine AP (fuel:=5) [] (BL (DX 0 6)) rfl (AU rfl rfl (Bc (hc:=By b0 3 rfl) rfl rfl (EM (hl:=rfl) (hb:=Gy k0) rfl rfl (EM (hl:=rfl) (hb:=Gy g3) rfl rfl (AS rfl rfl (AS rfl rfl (AC (AJ (i:=6) rfl ?_))))))));obtain ⟨c4,dI,u3⟩:=bs u3;refine Ii (O:=nC) (Mi Fr.lt (Vb.ofAgg (cs:=[(.int .i64 a0.jobs),(.slice c1 a0.write.length d1),(.slice e1 a0.read.length f1),(.int .i64 a0.phase),(.slice w0 a0.vars.length y0)]) (x:=a0) rfl ⟨_,_,_,rfl,d0,e0,c0,k3,w2⟩) (Vb.ofAgg (cs:=[(.string j0.name),(.int .i64 j0.dur),(.slice h9 j0.start.length i9),(.slice j9 j0.over.length k9),(.slice l9 j0.fin.length m9),(.slice n9 j0.atStart.length o9),(.slice p9 j0.atEnd.length q9)]) (x:=j0) rfl ⟨_,_,_,_,_,rfl,b3,c3,d3,e3,f3,vH,wH⟩) rk1030 rk1088 dI) rfl λ jT kT eI w5 fI=>?_;obtain ⟨vR,rfl,lT,mT,rfl,oC,pC,gI,hI⟩:=fI;obtain ⟨iI,jI,rfl⟩:=oC.form;obtain ⟨kI,lI,rfl⟩:=pC.form;have hZ:=lZ w5;refine Be [(8,[14])] hZ (AJ (i:=7) rfl ?_);refine BI 22 eI (xs:=([c4]:List Opr)) rfl rfl rfl ⟨(Vb.ofAgg (cs:=[(.string c4.name),(.int .i64 c4.cost),(.slice iI c4.pre.length jI),(.slice kI c4.effs.length lI)]) (x:=c4) rfl ⟨_,_,rfl,oC,pC,gI,hI⟩),trivial⟩ λ nT oT pT x5 mI=>?_;have hZ:=lZ x5;refine Be [(8,[14])] hZ (AJ (i:=8) rfl ?_);obtain ⟨qT,r9,u3⟩:=bs u3;obtain ⟨r9,nI,oI⟩:=Bz r9;replace d5:=(d5.st w5).st x5;refine Cj rfl d5 (mI.rd) rfl rfl nI oI λ pI qI rT sT s9 qC=>?_;rw [<- r9] at qC ⊢;have hZ:=s9.lst [14] (λ _ h=>by cases h;decide);refine Be [] hZ ?_;refine AP (fuel:=1) [] [(9,true)] rfl (AU rfl rfl (AC (AJ (i:=10) rfl ?_)));replace b0:=((b0.st w5).st x5).st s9;refine AR b0 rfl rfl rfl (AY) (allOne) λ tT rC b0=>?_;refine BM (Bi ?_);obtain rfl:=sm u3;have t0:=((w5.an x5).an s9).an rC;exact show Exists _ from ⟨_,(pI,qI),rfl,⟨rfl,rfl,rfl,rfl,rfl,rfl,rfl,rfl,rfl,rfl,rfl,trivial⟩,_,hB.st t0,r0.st t0,o0.st t0,k0.st t0,d0.st t0,e0.st t0,c0.st t0,b0,h0.st t0,f0.st t0,m0.st t0,qC.st rC,g3.st t0,b3.st t0,c3.st t0,d3.st t0,e3.st t0,f3.st t0⟩
    rintro uT vT ⟨wT,sC,rfl,u2,xT,hB,r0,o0,k0,d0,e0,c0,b0,h0,f0,m0,d5,g3,b3,c3,d3,e3,f3⟩;replace a2:=BE a2;obtain rfl:=sm a2;exact show Exists _ from ⟨_,(sC.1,sC.2),rfl,⟨(AN u2 _ _ rfl),(AN u2 _ _ rfl),(AN u2 _ _ rfl),(AN u2 _ _ rfl),(AN u2 _ _ rfl),(AN u2 _ _ rfl),(AN u2 _ _ rfl),trivial⟩,_,hB,r0,o0,k0,d0,e0,c0,b0,h0,f0,m0,d5⟩
   rintro yT zT ⟨aU,bU,rfl,uE,tC,hB,r0,o0,k0,d0,e0,c0,b0,h0,f0,m0,s3⟩;replace s0:=BE s0;refine AX _ uE ?_;refine BT [(8,[14])] tC ?_;refine AP (fuel:=5) [] (BL (DX 0 6)) rfl (AU rfl rfl (Bc (hc:=By b0 3 rfl) rfl rfl (EM (hl:=rfl) (hb:=Gy k0) rfl rfl (AU rfl rfl (Bc (hc:=By r0 3 rfl) rfl rfl (LL rfl rfl ?_))))));have rI:=BK bD.len;have sI:=rngNat rI;refine AC (AJ (i:=6) rfl ?_);obtain ⟨d4,tI,s0⟩:=bs s0;refine Ii (O:=tC) (Lf Fr.lt (Vb.ofAgg (cs:=[(.int .i64 a0.jobs),(.slice c1 a0.write.length d1),(.slice e1 a0.read.length f1),(.int .i64 a0.phase),(.slice w0 a0.vars.length y0)]) (x:=a0) rfl ⟨_,_,_,rfl,d0,e0,c0,k3,w2⟩) sI tI) rfl λ cU dU uI y5 vI=>?_;obtain ⟨wR,rfl,eU,fU,rfl,uC,vC,wI,xI⟩:=vI;obtain ⟨yI,zI,rfl⟩:=uC.form;obtain ⟨aJ,bJ,rfl⟩:=vC.form;have hZ:=lZ y5;refine Be [(8,[14])] hZ (AJ (i:=7) rfl ?_);refine BI 23 uI (xs:=([d4]:List Opr)) rfl rfl rfl ⟨(Vb.ofAgg (cs:=[(.string d4.name),(.int .i64 d4.cost),(.slice yI d4.pre.length zI),(.slice aJ d4.effs.length bJ)]) (x:=d4) rfl ⟨_,_,rfl,uC,vC,wI,xI⟩),trivial⟩ λ gU hU iU z5 cJ=>?_;have hZ:=lZ z5;refine Be [(8,[14])] hZ (AJ (i:=8) rfl ?_);obtain ⟨jU,t9,s0⟩:=bs s0;obtain ⟨t9,dJ,eJ⟩:=Bz t9;replace s3:=(s3.st y5).st z5;refine Cj rfl s3 (cJ.rd) rfl rfl dJ eJ λ fJ gJ kU lU u9 wC=>?_;rw [<- t9] at wC ⊢;have hZ:=u9.lst [14] (λ _ h=>by cases h;decide);refine Be [] hZ ?_;refine AP (fuel:=1) [] [(9,true)] rfl (AU rfl rfl (AC (AJ (i:=10) rfl ?_)));replace b0:=((b0.st y5).st z5).st u9;refine AR b0 rfl rfl rfl (AY) (allOne) λ mU xC b0=>?_;refine BM (Bi ?_);obtain rfl:=sm s0;have e5:=((y5.an z5).an u9).an xC;exact ⟨(fJ,gJ),_,⟨rfl,rfl,trivial⟩,hB.st e5,o0.st e5,b0,h0.st e5,f0.st e5,m0.st e5,wC.st xC⟩
  replace s0:=im s0 nE;refine o_z (Aj rfl (AK ?_));obtain rfl:=sm s0;have f5:=m5.an i4;exact ⟨(kH.2.1,kH.2.2),_,⟨rfl,rfl,trivial⟩,hB.st f5,o0.st f5,b0,h0.st f5,f0.st f5,m0.st i4,u0.st f5⟩
 have a6:=m5.an i4;replace hB:=hB.st a6;replace o0:=o0.st a6;replace h0:=h0.st a6;replace f0:=f0.st a6;replace m0:=m0.st i4;rintro nU hJ ⟨n3,oU,vE,hB,o0,b0,h0,f0,m0,g5⟩;refine AX _ vE ?_;refine Ah (Ah (Ae (BX (hl:=rfl) (hc:=(b0.1).cellsAt) rfl ?_)));obtain ⟨pU,h3,f0⟩:=f0.freeze;replace m0:=m0.st h3;obtain ⟨qU,i3,m0⟩:=m0.freeze;replace g5:=(g5.st h3).st i3;obtain ⟨yC,j3,g5⟩:=g5.freeze;obtain ⟨rU,iJ,hm⟩:=bs hm;replace h0:=((h0.st h3).st i3).st j3;replace f0:=(f0.st i3).st j3;replace m0:=m0.st j3;refine Bv (O:=yC) (SK (λ _ h=>h) (Vb.mono (F:=Fr 0 hJ yC) (Vb.ofAgg (cs:=[(.slice m2 a0.vars.length n2),(.slice o2 k2.length p2),(.slice g4 v2.length h4),(.slice n3.1 x4.length n3.2)]) (x:=(⟨a0.vars,(cpyL k2 x0.init),v2,x4⟩:Tsk)) rfl ⟨_,_,_,_,rfl,h0,f0,m0,g5⟩) Fr.lt) iJ) rfl λ sU tU zC e4 jJ=>?_;obtain ⟨rfl,kJ⟩:=jJ.err;refine Au rfl (o_z (Ah (Ae (Ar rfl (FA rfl (λ v9=>?_) λ v9=>?_)))))
 ·replace hm:=ip hm v9;refine o_z (Am rfl (Ah (Ae (CX rfl rfl ?_))));refine ab ?_;replace o0:=(((o0.st h3).st i3).st j3).st e4;refine AR o0 rfl rfl rfl (AY) (allOne) λ lJ mJ o0=>?_;refine Au rfl (o_z (AE ?_));obtain rfl:=sm hm;replace hB:=((((hB.st h3).st i3).st j3).st e4).st mJ;exact U6 rfl (DH (cs:=[(.slice none 0 0),(.slice none 0 0),(.slice none 0 0),(.slice none 0 0)]) rfl rfl o0.1.cellsAt) (AF rfl) ⟨hB.ext,_,_,rfl,(Vb.mono (F:=Fr 0 lJ zC) (Vb.ofAgg (cs:=[(.slice none 0 0),(.slice none 0 0),(.slice none 0 0),(.slice none 0 0)]) (x:=(⟨([]:List Int),([]:List Int),([]:List Fct),([]:List Opr)⟩:Tsk)) rfl ⟨_,_,_,_,rfl,(Vb.nil _ _),(Vb.nil _ _),(Vb.nil _ _),(Vb.nil _ _)⟩) hB.out),(vErr kJ)⟩
 replace hm:=im hm v9;refine o_z (Aj rfl (AK (Ah (Ae ?_))));replace b0:=(((b0.st h3).st i3).st j3).st e4;refine BX (hl:=rfl) (hc:=(b0.1).cellsAt) rfl ?_;replace o0:=(((o0.st h3).st i3).st j3).st e4;refine AR o0 rfl rfl rfl (AY) (allOne) λ nJ aD o0=>?_;refine Au rfl (o_z (AE ?_));obtain rfl:=sm hm;have b6:=e4.an aD;replace hB:=((((hB.st h3).st i3).st j3).st e4).st aD;replace h0:=h0.st b6;replace f0:=f0.st b6;replace m0:=m0.st b6;replace g5:=g5.st b6;exact U6 rfl (DH (cs:=[(.slice m2 a0.vars.length n2),(.slice o2 k2.length p2),(.slice g4 v2.length h4),(.slice n3.1 x4.length n3.2)]) rfl rfl o0.1.cellsAt) (AF rfl) ⟨hB.ext,_,_,rfl,(Vb.mono (F:=Fr 0 nJ zC) (Vb.ofAgg (cs:=[(.slice m2 a0.vars.length n2),(.slice o2 k2.length p2),(.slice g4 v2.length h4),(.slice n3.1 x4.length n3.2)]) (x:=(⟨a0.vars,(cpyL k2 x0.init),v2,x4⟩:Tsk)) rfl ⟨_,_,_,_,rfl,h0,f0,m0,g5⟩) hB.out),(vErr (T8 0))⟩
end
section
open Go Go.RowKit
def Acm (n:Nat) (Q:U3) (e:Exit) (a:Act) (w:World):Prop:=Ac9 e/\∃ l,Ok n a l/\Q e l w
def Y4 (P:Program) (n:Nat) (c:Code) (Q:U3) (l:Env) (w:World):Prop:=∀ a,Ok n a l->c.wp P (Acm n Q) a w
def AbU (P:Program) (n:Nat) (ops:Array Oper) (Q:U3) (rest:List Oper) (l:Env) (w:World):Prop:=∀ a,Ok n a l->wpList P ops (Acm n Q) rest a w
section
variable {P : Program} {n : Nat} {Q : U3} {l : Env} {w : World}
theorem Gl {x y:Code} (h:Y4 P n x (thn (Y4 P n y Q) Q) l w):Y4 P n (.seq x y) Q l w:=λ a b =>
  wp_seq (Q6 (λ e a w hl=>by
    obtain ⟨hn,l',ho,hq⟩:=hl;cases e with
    | normal=>exact hq a ho
    | panic c=>exact hn.elim
    | outgrown=>exact hn.elim
    | exit i=>exact ⟨trivial,l',ho,hq⟩
    | goto i=>exact ⟨trivial,l',ho,hq⟩
    | ret=>exact ⟨trivial,l',ho,hq⟩) (h a b))
theorem SP (h:Q .normal l w):Y4 P n .skip Q l w:=λ _ a=>wp_skip ⟨trivial,l,a,h⟩
theorem Xv {i:Nat} (h:Q (.exit i) l w):Y4 P n (.exit i) Q l w:=λ _ a=>wp_exit ⟨trivial,l,a,h⟩
theorem QR (h:Q .ret l w):Y4 P n .ret Q l w:=λ _ a=>wp_ret ⟨trivial,l,a,h⟩
theorem SR {c:Operand} {x y:Code} (hc:opv l c=some (.bool true)) (h:Y4 P n x Q l w):Y4 P n (.cond c x y) Q l w:=λ a b=>wp_cond_true (b.eval hc) (h a b)
theorem Rn {c:Operand} {x y:Code} (hc:opv l c=some (.bool false)) (h:Y4 P n y Q l w):Y4 P n (.cond c x y) Q l w:=λ a b=>wp_cond_false (b.eval hc) (h a b)
theorem Ro {id:Nat} {c:Code} (h:Y4 P n c (U7 id Q) l w):Y4 P n (.block id c) Q l w:=λ a b =>
  wp_block (Q6 (λ e a w hl=>by
    obtain ⟨hn,l',ho,hq⟩:=hl;cases e with
    | exit i =>
      simp only [Exit.inBlock];simp only [U7] at hq;by_cases hi:i=id
      . subst hi;have hb:Nat.beq i i=true:=Q7 i;rw [hb] at hq;rw [if_pos rfl];exact ⟨trivial,l',ho,hq⟩
      . have hb:Nat.beq i id=false:=by
          cases d:Nat.beq i id
          . rfl
          . exact absurd (E7 d) hi
        rw [hb] at hq;rw [if_neg hi];exact ⟨trivial,l',ho,hq⟩
    | panic c=>exact hn.elim
    | outgrown=>exact hn.elim
    | normal=>exact ⟨trivial,l',ho,hq⟩
    | goto i=>exact ⟨trivial,l',ho,hq⟩
    | ret=>exact ⟨trivial,l',ho,hq⟩) (h a b))
theorem FC {id:Nat} {L:List Oper} (h:AbU P n L.toArray Q L l w):Y4 P n (.region id L.toArray false) Q l w:=λ a b=>wp_region_lit (h a b)
theorem Xw {c:Code} (E:Nat→Env) (I:Nat→Prop) (N d:Nat) (hs:T7 l (E d)) (o:I d)
    (f:∀ k,I k->k<=N/\Y4 P n c (thn (λ p w'=>w'=w/\T7 p (E (k + 1))/\I (k + 1)) Q) (E k) w):Y4 P n (.loop c) Q l w:=by
  intro a D;have r:∀ a' w',(∃ k,w'=w/\Ok n a' (E k)/\I k)->∃ m,(∃ k,w'=w/\Ok n a' (E k)/\I k/\N - k=m)/\∀ k,Ok n a' (E k)->I k->m<=N - k:=by
    intro a' w' ⟨k,v,B,h3⟩;have:∀ (q k:Nat),N - k<=q->Ok n a' (E k)->I k->∃ m,(∃ k,w'=w/\Ok n a' (E k)/\I k/\N - k=m)/\∀ k,Ok n a' (E k)->I k->m<=N - k:=by
      intro q
      induction q with
      | zero=>intro k j s t;exact ⟨N - k,⟨k,v,s,t,rfl⟩,λ _ _ _=>by omega⟩
      | succ q F =>
        intro k j s t;by_cases C:∃ g,Ok n a' (E g)/\I g/\N - g<=q
        . obtain ⟨g,x,y,g3⟩:=C;exact F g g3 x y
        . refine ⟨N - k,⟨k,v,s,t,rfl⟩,λ g x y=>?_⟩;rcases Q8 (N - g) (N - k) with h|h
          . exact absurd ⟨g,x,y,by omega⟩ C
          . exact h
    exact this _ k (R7 _) B h3
  refine wp_loop (λ a' w'=>∃ k,w'=w/\Ok n a' (E k)/\I k) (λ a' w'=>Classical.epsilon λ m=>(∃ k,w'=w/\Ok n a' (E k)/\I k/\N - k=m)/\∀ k,Ok n a' (E k)->I k->m<=N - k) ⟨d,rfl,D.sub hs,o⟩ ?_;intro a' w' u;obtain ⟨⟨k,rfl,s,t,hk⟩,_⟩:=D7 (r a' w' u);obtain ⟨G,hr⟩:=f k t;refine Q6 (λ e z A hl=>?_) (hr a' s);obtain ⟨hn,p,ho',j⟩:=hl;cases e with
  | normal =>
    obtain ⟨rfl,hs₂,hI₂⟩:=j;have b:=ho'.sub hs₂;refine ⟨⟨k + 1,rfl,b,hI₂⟩,?_⟩;obtain ⟨_,hmin⟩:=D7 (r z A ⟨k + 1,rfl,b,hI₂⟩);have v:=hmin (k + 1) b hI₂;have B:=(f (k + 1) hI₂).1;exact Nat.lt_of_le_of_lt v (Nat.lt_of_lt_of_eq (by omega) hk)
  | panic c=>exact hn.elim
  | outgrown=>exact hn.elim
  | exit i=>exact ⟨trivial,p,ho',j⟩
  | goto i=>exact ⟨trivial,p,ho',j⟩
  | ret=>exact ⟨trivial,p,ho',j⟩
variable {ops : Array Oper} {rest : List Oper} {d : Tmp} {ty : TypeId} {pos : String} {aft : Array Edge}
theorem JN {K:Env->World->Prop} [h:NilQ Q K] (hk:K l w):AbU P n ops Q [] l w:=λ _ a=>wpList_nil ⟨trivial,l,a,h.of l w hk⟩
theorem EW {b:Op} {v:Value} (he:Ev P ⟨some d,b,ty,pos,aft,none⟩ l w v)  (h:AbU P n ops Q rest ((d,v) :: l) w) (hd:Nat.blt d n=true:=by exact rfl):AbU P n ops Q (⟨some d,b,ty,pos,aft,none⟩ :: rest) l w :=
  λ a c=>wpList_plain rfl λ K e=>by
    unfold Oper.wp;have:=he n a w.drawn c;rw [Ja] at this;rw [this];exact e _ _ (h _ (c.put hd v))
theorem PA {f:FuncId} [hf:Callable P f] {xs:List Operand} {vs:List Value} {i:Array TypeId} {v:Value} (m:U9 l xs=some vs) (hd:Nat.blt d n=true) (hc:Calls P f vs.toArray w λ e w'=>e=.returned v/\w'=w)
    (h:AbU P n ops Q rest ((d,v) :: l) w):AbU P n ops Q (⟨some d,.call { callee:=.value (.func f),args:=xs.toArray,argTypes:=i },ty,pos,aft,none⟩ :: rest) l w :=
  fun a j=>wpList_plain rfl λ K o=>by
    obtain ⟨k,h1,h2,h3⟩:=hf.eq;have b:¬ k.body=none:=λ e=>(by rw [e] at h2;simp at h2);have c : ¬ k.name = "runtime.NumGoroutine" := fun e => by rw [e] at h3; simp at h3
    unfold Oper.wp;have g:a.eval (.func f)=.func (.func f) #[] #[]:=rfl;have:(execOp a.eval ⟨some d,.call { callee:=.value (.func f),args:=xs.toArray,argTypes:=i },ty,pos,aft,none⟩).run P w=.ok (.enter f vs.toArray) w:=by
      simp [execOp,resolve,g,Deferred.ofValue,invoke,callFunc,h1,b,c,j.evals m]
    rw [this];exact hc.mono λ _ _ ⟨he,hw⟩=>by subst he;subst hw;exact o _ _ (h _ (j.put hd v))
end
theorem Ww {P:Program} {f:FuncId} {b:Func} {c:Code} {vs:List Value} {w:World} {v:Value} {n:Nat} (hf:P.funcs[f]?=some b) (hb:b.body=some c) (hn:b.ntmps=n) (hl:Nat.ble vs.length n=true)
    (h:Y4 P n c (T9 P b λ u w'=>u=v/\w'=w) (ent 0 vs) w):Calls P f vs.toArray w λ e w'=>e=.returned v/\w'=w:=by
  have k:vs.length<=n:=(by simpa using hl);refine calls_of_wp hf hb (Q6 (λ e a w' m=>?_) (h _ (?_:Ok n { tmps:=vs.toArray ++ Array.replicate (b.ntmps - vs.toArray.size) undef,defers:=[] } (ent 0 vs))))
  . obtain ⟨j,l,ho,q⟩:=m;cases e with
    | normal=>obtain ⟨g,hr,d,hw⟩:=q;subst d hw;have:=hr n a w'.drawn ho;rw [Ja] at this;exact ⟨ho.defers,g,this,rfl,rfl⟩
    | ret=>obtain ⟨g,hr,d,hw⟩:=q;subst d hw;have:=hr n a w'.drawn ho;rw [Ja] at this;exact ⟨ho.defers,g,this,rfl,rfl⟩
    | panic c=>exact j.elim
    | outgrown=>exact j.elim
    | exit i=>exact q.elim
    | goto i=>exact q.elim
  . refine ⟨by simp [hn];omega,rfl,λ i v d=>?_⟩;obtain ⟨_,h2⟩:=PT vs 0 i v d;simp only [R1] at h2;have hi:i < vs.length:=(B7.1 h2).1;simp only [B1];rw [B2 (by simpa using hi)];simp [h2]
end
end Go.Proofs.YtllibjejncelhaaGreatDoor

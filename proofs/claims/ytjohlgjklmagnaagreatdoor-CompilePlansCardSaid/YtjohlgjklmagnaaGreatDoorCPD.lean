/- Own text: what the proof of compilePlans_holds uses, part 4: rules, models and their proofs, plain laws. -/
import Derived.Test.YtjohlgjklmagnaaGreatDoorCPC
set_option linter.unusedVariables false
set_option linter.unusedSimpArgs false
namespace Go.Proofs.YtjohlgjklmagnaaGreatDoor
open Go Go.RowKit
section
open Go Go.RowKit
section
variable {t : Tpl} {l : List Lch} {u : Tsk}
def blk (t:Tpl) (l:List Lch) (τ:Nat):List Hh:=cano t.jobs.length (hapA t l τ)
def qsV (t:Tpl) (l:List Lch):Nat→(Nat→Int)
  | 0=>fun _=>0
  | τ + 1=>nxq t (stA t (qsV t l τ) (blk t l τ))
theorem VOk.novs (h:VOk t l) (τ:Nat):Nov t l τ:=fun a ha b hb hne hj _ _=>h.nov a ha b hb hne hj
theorem Ga (h:VOk t l) {τ:Nat} {x:Hh}:x∈blk t l τ↔x∈hapA t l τ:=OX (OY h.rng)
theorem SC (ht:TplOk t) (h:VOk t l) (τ:Nat):(hapA t l τ).Perm (blk t l τ):=by
  have hd:=Fj ht h.rng h.nd (h.novs (τ + 1))
  exact Rv (OY h.rng) hd hd fun x=>Iff.rfl
theorem TX (ht:TplOk t) (h:VOk t l) (τ:Nat) (hq:Qc t l τ (qsV t l τ)):HBok t (Sv t l τ) (qsV t l τ) (blk t l τ):=by
  refine ⟨fun x hx=>OY h.rng x ((Ga h).1 hx),Rx (SC ht h τ) (h.tick τ).non,?_,fun x hx=>?_,fun x hx=>(h.tick τ).reads x ((Ga h).1 hx)⟩
  · have hd:(blk t l τ).Nodup:=MV (Fj ht h.rng h.nd (h.novs (τ + 1)))
    unfold List.Nodup
    rw [List.pairwise_map]
    refine List.Pairwise.imp_of_mem (fun {a b} ha hb hne e=>?_) hd
    obtain ⟨x,hx,x1,x2⟩:=CY.1 ((Ga h).1 ha)
    obtain ⟨y,hy,y1,y2⟩:=CY.1 ((Ga h).1 hb)
    have rx:=h.rng x hx
    have ry:=h.rng y hy
    have gx:=GV ht x
    have gy:=GV ht y
    have hj:x.job=y.job:=by omega
    obtain ⟨a1,a2⟩:=a
    obtain ⟨b1,b2⟩:=b
    simp only at e x1 x2 y1 y2
    by_cases hxy:x=y
    · subst hxy
      cases a2<;>cases b2<;>simp only [Bool.false_eq_true,if_false,if_true] at x2 y2
      · exact hne (by rw [e])
      · omega
      · omega
      · exact hne (by rw [e])
    · have:=h.nov x hx y hy hxy hj
      cases a2<;>cases b2<;>simp only [Bool.false_eq_true,if_false,if_true] at x2 y2<;>omega
  · obtain ⟨i,e⟩:=x
    obtain ⟨x,hx',x1,x2⟩:=CY.1 ((Ga h).1 hx)
    have rx:=h.rng x hx'
    have gx:=GV ht x
    simp only at x1 x2
    have hi:i < t.jobs.length:=by omega
    rcases hq i hi with ⟨q1,q2⟩|⟨y,hy,y1,y2,y3,y4⟩
    · cases e
      · simp only [Bool.false_eq_true,if_false];exact q1
      · simp only [if_true] at x2
        have:=q2 x hx' (by omega) (by omega);omega
    · by_cases hxy:x=y
      · subst hxy
        cases e
        · simp only [Bool.false_eq_true,if_false] at x2;omega
        · simp only [if_true] at x2 ⊢
          rw [y4];unfold cd;rw [if_pos x2,x1]
      · have:=h.nov x hx' y hy hxy (by omega)
        have gy:=GV ht y
        cases e<;>simp only [Bool.false_eq_true,if_false,if_true] at x2<;>omega
theorem IG (ht:TplOk t) (h:VOk t l):∀ τ,Qc t l τ (qsV t l τ)∧HBok t (Sv t l τ) (qsV t l τ) (blk t l τ)∧Mc t l τ (stA t (qsV t l τ) (blk t l τ))
  | τ => by
    have hq:Qc t l τ (qsV t l τ):=by
      cases τ with
      | zero=>exact fun i hi=>.inl ⟨rfl,fun x hx _ h1=>by have:=h.rng x hx;omega⟩
      | succ τ=>exact Vz ht (IG ht h τ).2.2
    have hb:=TX ht h τ hq
    refine ⟨hq,hb,(TW ht h.rng (h.novs τ) hq hb (fun i=>?_) (fun i hi e=>?_)).2.2⟩
    · rw [Ga h,CY]
      constructor
      · rintro ⟨x,hx,h1,h2⟩
        have:=h.rng x hx
        exact ⟨x,hx,by simp only at h1;omega,by simpa using h2⟩
      · rintro ⟨x,hx,h1,h2⟩
        exact ⟨x,hx,by simp only;omega,by simpa using h2⟩
    · have hd:=ht.dur i
      rcases hq i hi with ⟨q1,q2⟩|⟨y,hy,y1,y2,y3,y4⟩
      · omega
      · rw [Ga h,CY]
        refine ⟨y,hy,by simp only;omega,?_⟩
        simp only [if_true]
        have e':y.job.toNat=i:=by omega
        have he:en t y=y.tm + (jb t i).dur:=by unfold en;rw [e']
        unfold cd at y4
        rw [e'] at y4
        split at y4
        · assumption
        · omega
def blks (t:Tpl) (l:List Lch) (τ m:Nat):List (List Hh):=(List.range' τ m).map (blk t l)
theorem OZ (ht:TplOk t) (h:VOk t l) (hn:0 < t.jobs.length) (τ:Nat):Pass t (afH t (Sv t l τ) (blk t l τ)) (stA t (qsV t l τ) (blk t l τ)):=by
  refine ⟨hn,fun i hi=>?_⟩
  have hd:=ht.dur i
  rcases (IG ht h τ).2.2 i hi with ⟨h1,_⟩|⟨x,hx,h1,h2,h3,h4⟩
  · rw [h1];exact ⟨by omega,by omega,fun h=>by omega⟩
  · have e:x.job.toNat=i:=by omega
    have he:en t x=x.tm + (jb t i).dur:=by unfold en;rw [e]
    refine ⟨by omega,by omega,fun _=>?_⟩
    have:=(h.tick τ).over x hx h2 h3
    rw [e] at this;exact this
theorem Mj (ht:TplOk t) (h:VOk t l):∀ (m τ:Nat),(m=0∨0 < t.jobs.length)→Trc t (Sv t l τ) (qsV t l τ) (blk t l τ) (blks t l (τ + 1) m) (Sv t l (τ + m + 1)) (stA t (qsV t l (τ + m)) (blk t l (τ + m)))
  | 0,τ,_=>.last (IG ht h τ).2.1
  | m + 1,τ,hm=>by
    have hn:0 < t.jobs.length:=by omega
    have:=Mj ht h m (τ + 1) (.inr hn)
    rw [show τ + 1 + m=τ + (m + 1) from by omega] at this
    unfold blks
    rw [List.range'_succ,List.map_cons]
    exact .more (IG ht h τ).2.1 (OZ ht h hn τ) this
theorem TY (ht:TplOk t) (h:VOk t l) {M:Nat} (hM:∀ x∈l,en t x≤(M:Int)):∀ i,i < t.jobs.length→stA t (qsV t l M) (blk t l M) i=0:=fun i hi=>by
  rcases (IG ht h M).2.2 i hi with ⟨h1,_⟩|⟨x,hx,h1,h2,h3,h4⟩
  · exact h1
  · have:=hM x hx;omega
def planV (t:Tpl) (l:List Lch) (M:Nat):List Int:=pl t (fun _=>0) (blk t l 0) (blks t l 1 M)
theorem NT (c:Cmd t u) (ht:TplOk t) (h:VOk t l) {M:Nat} (hM:∀ x∈l,en t x≤(M:Int)) (hn:M=0∨0 < t.jobs.length) :
    ∃ x,PlanR u u.init (planV t l M) x M∧holdsB u.goal x=true:=by
  have h1:=Mj ht h M 0 hn
  simp only [Nat.zero_add] at h1
  obtain ⟨hl,h2⟩:=TV c ht h1 (MW ht l 0)
  have e:(((blks t l 1 M).length:Nat):Int)=(M:Int):=by unfold blks;simp
  rw [e] at h2
  refine ⟨_,by rw [c.init];exact h2,(SB c ht (MW ht l _)).2 ⟨h.goal (M + 1) fun x hx=>by have:=hM x hx;omega,TY ht h hM,rfl⟩⟩
end
end
section
open Go Go.RowKit
attribute [local irreducible] ewp owp hwp hwq Ev Evg Fn retPost Res1
attribute [local irreducible] hwx loudX
noncomputable def Ce (x0:Tpl) (x1:List Lch):Option ((MapR 182 Int Hap)×(List Int)) :=
  bnd (rng (ρ:=(MapR 182 Int Hap)×(List Int)) (fun (k38:Nat) (a39:Lch) (s36:(MapR 182 Int Hap))=>bnd (appI 16 (mget ([]:List Hap) s36.l a39.tm) [(⟨a39.job,false⟩:Hap)]) fun u82=>bnd (Cu x0 a39) fun q97=>bnd (appI 16 (mget ([]:List Hap) (⟨mput s36.l a39.tm u82⟩:MapR 182 Int Hap).l q97) [(⟨a39.job,true⟩:Hap)]) fun u99=>some (.next (⟨mput (⟨mput s36.l a39.tm u82⟩:MapR 182 Int Hap).l q97 u99⟩:MapR 182 Int Hap))) x1 0 (⟨[]⟩:MapR 182 Int Hap)) fun res34=>fin res34 fun (s219:(MapR 182 Int Hap))=>bnd (keysI s219) fun u221=>bnd (BT u221) fun q235=>some (s219,q235)
theorem JF {w:World} {O:Lab} {vx0:Value} {x0:Tpl} (j3:Vb w (Fr 0 w O) vx0 x0) {vx1:Value} {x1:List Lch} (i1:Vb w (Fr 0 w O) vx1 x1) (j0:Nat) (hj0:j0≠0) {r:(MapR 182 Int Hap)×(List Int)} (hm:Ce x0 x1=some r) :
    Fn Tryz.prog 71 [vx0,vx1] w fun v w'=>∃ O',St nT w O w' O'∧∃ v0 v1:Value,v=.tuple #[v0,v1]∧Ob j0 w' O' v0 (r.1:MapR 182 Int Hap)∧Vb w' (Fr 0 w' O') v1 r.2:=by
 obtain ⟨O0,hE,u4⟩:=ent0 (w:=w) (O:=O)
 have hB:Bm w O0 w O0:=Bm.refl
 replace j3:=j3.mono u4
 obtain ⟨d8,rfl,v4,v5,v6,v7,rfl,h8,c0,d0,e0⟩:=j3
 obtain ⟨A9,q1,rfl⟩:=h8.form
 obtain ⟨r1,s1,rfl⟩:=c0.form
 obtain ⟨t1,u1,rfl⟩:=d0.form
 obtain ⟨w1,y1,rfl⟩:=e0.form
 replace i1:=i1.mono u4
 obtain ⟨w4,x4,rfl⟩:=i1.form
 refine AH Tryz.func71 rfl Tryz.ntmps71 ?_
 unfold Ce at hm
 refine Ab (Aa (BQ 2 O0 rfl fun k3 b5 y4 c2 j1=>?_))
 replace j1:Lc 2 b5 y4 k3 26 [(.slice A9 x0.vars.length q1),(.slice r1 x0.init.length s1),(.slice t1 x0.goal.length u1),(.slice w1 x0.jobs.length y1)]:=j1
 refine Al rfl (Al rfl (o_z ?_))
 refine Ab (Aa (Sb (K:=Int) (V:=Hap) 182 3 (by decide) y4 rfl fun h3 e8 c5 z1 d5=>?_))
 refine Al rfl (o_z ?_)
 refine Ab (Ab (Aa (Ak rfl (AR rfl ?_))))
 replace i1:=(i1.st c2).st z1
 have l3:x1.length≤9223372036854775807:=Nat.le_trans i1.len.2.1 i1.len.2.2
 have f8:inI64 (x1.length:Int):=rngNat l3
 refine Ak rfl (o_z ?_)
 obtain ⟨s2,m3,hm⟩:=bs hm
 refine Au (aft s2 (fun (r2:(MapR 182 Int Hap)) (i3:Unit)=>[(6,(.map (some h3)))]) (fun r2 i3 w'=>∃ O':Lab,Bm w O0 w' O'∧Ob 3 w' O' (.map (some h3)) r2)) ?_ ?_
 ·
  refine AJ ?_
  replace hB:=(hB.st c2).st z1
  replace h8:=(h8.st c2).st z1
  replace c0:=(c0.st c2).st z1
  replace d0:=(d0.st c2).st z1
  replace e0:=(e0.st c2).st z1
  replace j1:=j1.st z1
  refine Bh (σ:=(MapR 182 Int Hap)) (X:=Unit) (x1.length) m3 rfl l3 (fun (r2:(MapR 182 Int Hap)) (i3:Unit)=>[(2,(.pointer (some ⟨k3,0,none⟩))),(6,(.map (some h3))),(12,(.slice w4 x1.length x4))]) _ (fun r2 i3 w'=>∃ O':Lab,Bm w O0 w' O'∧Lc 2 w' O' k3 26 [(.slice A9 x0.vars.length q1),(.slice r1 x0.init.length s1),(.slice t1 x0.goal.length u1),(.slice w1 x0.jobs.length y1)]∧Vb w' (Fr 0 w' O') (.slice A9 x0.vars.length q1) x0.vars∧Vb w' (Fr 0 w' O') (.slice r1 x0.init.length s1) x0.init∧Vb w' (Fr 0 w' O') (.slice t1 x0.goal.length u1) x0.goal∧Vb w' (Fr 0 w' O') (.slice w1 x0.jobs.length y1) x0.jobs∧Ob 3 w' O' (.map (some h3)) r2∧Vb w' (Fr 0 w' O') (.slice w4 x1.length x4) x1) _ () ⟨c5,hB,j1,h8,c0,d0,e0,d5,i1⟩ ⟨rfl,rfl,rfl,rfl,rfl,trivial⟩ (fun _ _=>⟨rfl,rfl⟩) (fun _ _=>⟨rfl,trivial⟩) (fun _ _ _ ⟨O',hB,j1,h8,c0,d0,e0,e1,i1⟩=>⟨O',hB,e1⟩) ⟨rfl,rfl,rfl⟩ ⟨rfl,rfl⟩ ?_
  rintro e5 b0 r2 i3 g8 f5 t2 ⟨g5,hB,j1,h8,c0,d0,e0,e1,i1⟩ l0 n3 o3
  have rk38:inI64 (e5:Int):=rngK t2 l3
  refine Ab (Aa ?_)
  obtain ⟨i8,j8,h5,p3,q3,r3,rfl,u2,n1⟩:=i1.elem' t2
  refine Bv (hA:=p3) (hj:=rfl) (hlt:=q3) rfl rfl ?_
  refine Bg (hl:=rfl) (hc:=r3) rfl ?_
  refine AT 4 g5 fun i5 k8 s3 b1 l1=>?_
  refine AD l1 rfl rfl rfl (AL) (allOne) fun j5 c1 l1=>?_
  replace l1:Lc 4 j5 s3 i5 52 [(.int .i64 b0.tm),(.int .i64 b0.job)]:=l1
  refine o_z ?_
  refine Ab (BP [(11,[3,6])] s3 ?_)
  refine AM (fuel:=6) [] [(3,true),(4,true),(5,true),(6,true),(7,true),(8,true),(9,true)] rfl ?_
  refine Bp rfl rfl (Bo rfl rfl (BK (hc:=fun w' ⟨O',hq⟩=>Blk.cell (i:=0) ((l1.st hq (by decide)).1) rfl) rfl rfl ?_))
  replace e1:=(e1.st b1).st c1
  obtain ⟨l8,m8,o1,z4⟩:=MapR.get e1 b0.tm
  refine Qy b0.tm (fun w' ⟨O',hq⟩=>o1.keep (hq.agree (i:=3) (by decide) _ (MapR.at e1))) rfl rfl rfl rfl ?_
  refine Bo rfl rfl (BK (hc:=fun w' ⟨O',hq⟩=>Blk.cell (i:=1) ((l1.st hq (by decide)).1) rfl) rfl rfl ?_)
  refine CE rfl rfl rfl ?_
  refine Ay ?_
  refine AM (fuel:=3) [3,6] [(0,true),(1,true),(2,true)] rfl ?_
  refine Bp rfl rfl (Bo rfl rfl (BK (hc:=fun w' ⟨O',hq⟩=>Blk.cell (i:=0) ((l1.st hq (by decide)).1) rfl) rfl rfl ?_))
  refine Ay ?_
  refine Ax (i:=10) rfl ?_
  refine AN 5 (by decide) s3 (xs:=([(⟨b0.job,false⟩:Hap)]:List Hap)) rfl rfl rfl ⟨(Vb.ofAgg (cs:=[(.int .i64 b0.job),(.bool false)]) (x:=(⟨b0.job,false⟩:Hap)) rfl ⟨rfl,n1⟩),trivial⟩ (by decide) (by decide) rfl fun n8 o8 p8 k0 t3=>?_
  have hZ:=k0.lst [] (fun _ h=>h.elim)
  replace o1:=o1.keep (k0.agree (i:=3) id _ (MapR.at e1))
  replace z4:=z4.stS k0 id (fun _ _=>id)
  refine AF [(11,[3,6])] hZ ?_
  refine Ax (i:=11) rfl ?_
  replace e1:=e1.st k0
  obtain ⟨q8,y0,u3,k5⟩:=MapR.take e1 o1 6 (by decide) (by decide)
  have hZ:=y0.lst [3] (fun _ h=>by cases h;decide)
  obtain ⟨r8,v3,l0⟩:=bs l0
  obtain ⟨v3,l5,m5⟩:=AO v3
  replace t3:=t3.st y0
  refine BE rfl k5 (t3.rd) rfl rfl (by decide) l5 m5 rfl fun s8 t8 u8 v8 z0 a5=>?_
  rw [← v3] at a5 ⊢
  replace hZ:=hZ.cmp z0 [3,6] (fun _ h=>by cases h;decide) rfl
  refine AF [] hZ ?_
  refine Ax (i:=12) rfl ?_
  replace u3:=u3.st z0
  refine Lu u3 a5 rfl rfl rfl fun w3 v2 d1 a1=>?_
  refine BL ?_
  refine BG ?_
  obtain ⟨m1,w2,l0⟩:=bs l0
  obtain ⟨w8,m0,l0⟩:=bs l0
  refine BP [(13,[3,6])] v2 ?_
  refine AM (fuel:=7) [] [(1,true),(2,true),(4,true),(5,true),(6,true),(9,true),(10,true),(11,true)] rfl ?_
  replace j1:=(((((j1.st b1).st c1).st k0).st y0).st z0).st d1
  refine CN (hl:=rfl) (hb:=fun w' ⟨O',hq⟩=>((j1.st hq (by decide)).1).cellsAt) rfl rfl ?_
  replace l1:=(((l1.st k0).st y0).st z0).st d1
  refine CN (hl:=rfl) (hb:=fun w' ⟨O',hq⟩=>((l1.st hq (by decide)).1).cellsAt) rfl rfl ?_
  refine Bp rfl rfl (CN (hl:=rfl) (hb:=fun w' ⟨O',hq⟩=>((j1.st hq (by decide)).1).cellsAt) rfl rfl ?_)
  refine CN (hl:=rfl) (hb:=fun w' ⟨O',hq⟩=>((l1.st hq (by decide)).1).cellsAt) rfl rfl ?_
  refine Bo rfl rfl (BK (hc:=fun w' ⟨O',hq⟩=>Blk.cell (i:=1) ((l1.st hq (by decide)).1) rfl) rfl rfl ?_)
  refine CE rfl rfl rfl ?_
  refine Ay ?_
  refine AM (fuel:=6) [3,6] [(0,true)] rfl ?_
  refine Bp rfl rfl (Ay ?_)
  refine Ec (i:=3) (j:=12) rfl rfl ?_ ?_
  ·
   replace h8:=(((((h8.st b1).st c1).st k0).st y0).st z0).st d1
   replace c0:=(((((c0.st b1).st c1).st k0).st y0).st z0).st d1
   replace d0:=(((((d0.st b1).st c1).st k0).st y0).st z0).st d1
   replace e0:=(((((e0.st b1).st c1).st k0).st y0).st z0).st d1
   refine AG (O:=v2) (A:=All w3) (R:=fun w' F v=>Vb w' F v m1) (DC (fun _ h=>h) (Vb.mono (F:=Fr 0 w3 v2) (Vb.ofAgg (cs:=[(.slice A9 x0.vars.length q1),(.slice r1 x0.init.length s1),(.slice t1 x0.goal.length u1),(.slice w1 x0.jobs.length y1)]) (x:=x0) rfl ⟨_,_,_,_,rfl,h8,c0,d0,e0⟩) Fr.lt) (Vb.mono (F:=Fr 0 w3 v2) (Vb.ofAgg (cs:=[(.int .i64 b0.tm),(.int .i64 b0.job)]) (x:=b0) rfl ⟨rfl,u2,n1⟩) Fr.lt) w2) rfl fun n5 d2 p1 a0 x3=>?_
   obtain ⟨rfl,o5⟩:=x3.int
   have hZ:=a0.lst [] (fun _ h=>h.elim)
   refine AF [(13,[3,6])] hZ ?_
   refine Ec (i:=7) (j:=12) rfl rfl ?_ ?_
   ·
    replace h8:=h8.st a0
    replace c0:=c0.st a0
    replace d0:=d0.st a0
    replace e0:=e0.st a0
    refine AG (O:=p1) (A:=All d2) (R:=fun w' F v=>Vb w' F v m1) (DC (fun _ h=>h) (Vb.mono (F:=Fr 0 d2 p1) (Vb.ofAgg (cs:=[(.slice A9 x0.vars.length q1),(.slice r1 x0.init.length s1),(.slice t1 x0.goal.length u1),(.slice w1 x0.jobs.length y1)]) (x:=x0) rfl ⟨_,_,_,_,rfl,h8,c0,d0,e0⟩) Fr.lt) (Vb.mono (F:=Fr 0 d2 p1) (Vb.ofAgg (cs:=[(.int .i64 b0.tm),(.int .i64 b0.job)]) (x:=b0) rfl ⟨rfl,u2,n1⟩) Fr.lt) w2) rfl fun p5 q5 y3 n0 z3=>?_
    obtain ⟨rfl,r5⟩:=z3.int
    have hZ:=n0.lst [] (fun _ h=>h.elim)
    refine AF [(13,[3,6])] hZ ?_
    refine AM (fuel:=3) [] [(8,true)] rfl ?_
    replace a1:=(a1.st a0).st n0
    obtain ⟨s5,t5,k1,x2⟩:=MapR.get a1 m1
    refine Qy m1 (fun w' ⟨O',hq⟩=>k1.keep (hq.agree (i:=3) (by decide) _ (MapR.at a1))) rfl rfl rfl rfl ?_
    refine Ay ?_
    refine Ax (i:=12) rfl ?_
    refine AN 7 (by decide) y3 (xs:=([(⟨b0.job,true⟩:Hap)]:List Hap)) rfl rfl rfl ⟨(Vb.ofAgg (cs:=[(.int .i64 b0.job),(.bool true)]) (x:=(⟨b0.job,true⟩:Hap)) rfl ⟨rfl,n1⟩),trivial⟩ (by decide) (by decide) rfl fun u5 w5 x5 f0 e2=>?_
    have hZ:=f0.lst [] (fun _ h=>h.elim)
    replace k1:=k1.keep (f0.agree (i:=3) id _ (MapR.at a1))
    replace x2:=x2.stS f0 id (fun _ _=>id)
    refine AF [(13,[3,6])] hZ ?_
    refine Ax (i:=13) rfl ?_
    replace a1:=a1.st f0
    obtain ⟨y5,o0,f2,a4⟩:=MapR.take a1 k1 6 (by decide) (by decide)
    have hZ:=o0.lst [3] (fun _ h=>by cases h;decide)
    obtain ⟨m0,b4,c4⟩:=AO m0
    replace e2:=e2.st o0
    refine BE rfl a4 (e2.rd) rfl rfl (by decide) b4 c4 rfl fun z5 a6 b6 c6 p0 y2=>?_
    rw [← m0] at y2 ⊢
    replace hZ:=hZ.cmp p0 [3,6] (fun _ h=>by cases h;decide) rfl
    refine AF [] hZ ?_
    refine Ax (i:=14) rfl ?_
    replace f2:=f2.st p0
    refine Lu f2 y2 rfl rfl rfl fun d6 e6 f1 d4=>?_
    refine BL ?_
    refine BG ?_
    obtain rfl:=sm l0
    exact show Exists _ from ⟨_,(),rfl,⟨rfl,rfl,rfl,rfl,rfl,trivial⟩,_,(((((((((((hB.st b1).st c1).st k0).st y0).st z0).st d1).st a0).st n0).st f0).st o0).st p0).st f1,(((((j1.st a0).st n0).st f0).st o0).st p0).st f1,((((h8.st n0).st f0).st o0).st p0).st f1,((((c0.st n0).st f0).st o0).st p0).st f1,((((d0.st n0).st f0).st o0).st p0).st f1,((((e0.st n0).st f0).st o0).st p0).st f1,d4,(((((((((((i1.st b1).st c1).st k0).st y0).st z0).st d1).st a0).st n0).st f0).st o0).st p0).st f1⟩
   refine AN 7 (by decide) p1 (xs:=([(⟨b0.job,true⟩:Hap)]:List Hap)) rfl rfl rfl ⟨(Vb.ofAgg (cs:=[(.int .i64 b0.job),(.bool true)]) (x:=(⟨b0.job,true⟩:Hap)) rfl ⟨rfl,n1⟩),trivial⟩ (by decide) (by decide) rfl fun f6 g2 h2 q0 i2=>?_
   have hZ:=q0.lst [] (fun _ h=>h.elim)
   refine AF [(13,[3,6])] hZ ?_
   refine Ax (i:=7) rfl ?_
   replace h8:=(h8.st a0).st q0
   replace c0:=(c0.st a0).st q0
   replace d0:=(d0.st a0).st q0
   replace e0:=(e0.st a0).st q0
   refine AG (O:=h2) (A:=All g2) (R:=fun w' F v=>Vb w' F v m1) (DC (fun _ h=>h) (Vb.mono (F:=Fr 0 g2 h2) (Vb.ofAgg (cs:=[(.slice A9 x0.vars.length q1),(.slice r1 x0.init.length s1),(.slice t1 x0.goal.length u1),(.slice w1 x0.jobs.length y1)]) (x:=x0) rfl ⟨_,_,_,_,rfl,h8,c0,d0,e0⟩) Fr.lt) (Vb.mono (F:=Fr 0 g2 h2) (Vb.ofAgg (cs:=[(.int .i64 b0.tm),(.int .i64 b0.job)]) (x:=b0) rfl ⟨rfl,u2,n1⟩) Fr.lt) w2) rfl fun g6 h6 i6 g0 e4=>?_
   obtain ⟨rfl,j6⟩:=e4.int
   have hZ:=g0.lst [] (fun _ h=>h.elim)
   refine AF [(13,[3,6])] hZ ?_
   refine AM (fuel:=2) [] [(8,true)] rfl ?_
   replace a1:=((a1.st a0).st q0).st g0
   obtain ⟨k6,l6,a2,m6⟩:=MapR.get a1 m1
   refine Qy m1 (fun w' ⟨O',hq⟩=>a2.keep (hq.agree (i:=3) (by decide) _ (MapR.at a1))) rfl rfl rfl rfl ?_
   refine Ay ?_
   refine Ax (i:=13) rfl ?_
   obtain ⟨n6,r0,j2,f4⟩:=MapR.take a1 a2 6 (by decide) (by decide)
   have hZ:=r0.lst [3] (fun _ h=>by cases h;decide)
   obtain ⟨m0,g4,h4⟩:=AO m0
   replace i2:=(i2.st g0).st r0
   refine BE rfl f4 (i2.rd) rfl rfl (by decide) g4 h4 rfl fun o6 p6 q6 r6 s0 z2=>?_
   rw [← m0] at z2 ⊢
   replace hZ:=hZ.cmp s0 [3,6] (fun _ h=>by cases h;decide) rfl
   refine AF [] hZ ?_
   refine Ax (i:=14) rfl ?_
   replace j2:=j2.st s0
   refine Lu j2 z2 rfl rfl rfl fun s6 t6 g1 i4=>?_
   refine BL ?_
   refine BG ?_
   obtain rfl:=sm l0
   exact show Exists _ from ⟨_,(),rfl,⟨rfl,rfl,rfl,rfl,rfl,trivial⟩,_,(((((((((((hB.st b1).st c1).st k0).st y0).st z0).st d1).st a0).st q0).st g0).st r0).st s0).st g1,(((((j1.st a0).st q0).st g0).st r0).st s0).st g1,(((h8.st g0).st r0).st s0).st g1,(((c0.st g0).st r0).st s0).st g1,(((d0.st g0).st r0).st s0).st g1,(((e0.st g0).st r0).st s0).st g1,i4,(((((((((((i1.st b1).st c1).st k0).st y0).st z0).st d1).st a0).st q0).st g0).st r0).st s0).st g1⟩
  refine AN 7 (by decide) v2 (xs:=([(⟨b0.job,true⟩:Hap)]:List Hap)) rfl rfl rfl ⟨(Vb.ofAgg (cs:=[(.int .i64 b0.job),(.bool true)]) (x:=(⟨b0.job,true⟩:Hap)) rfl ⟨rfl,n1⟩),trivial⟩ (by decide) (by decide) rfl fun u6 k2 l2 t0 m2=>?_
  have hZ:=t0.lst [] (fun _ h=>h.elim)
  refine AF [(13,[3,6])] hZ ?_
  refine Ax (i:=3) rfl ?_
  replace h8:=((((((h8.st b1).st c1).st k0).st y0).st z0).st d1).st t0
  replace c0:=((((((c0.st b1).st c1).st k0).st y0).st z0).st d1).st t0
  replace d0:=((((((d0.st b1).st c1).st k0).st y0).st z0).st d1).st t0
  replace e0:=((((((e0.st b1).st c1).st k0).st y0).st z0).st d1).st t0
  refine AG (O:=l2) (A:=All k2) (R:=fun w' F v=>Vb w' F v m1) (DC (fun _ h=>h) (Vb.mono (F:=Fr 0 k2 l2) (Vb.ofAgg (cs:=[(.slice A9 x0.vars.length q1),(.slice r1 x0.init.length s1),(.slice t1 x0.goal.length u1),(.slice w1 x0.jobs.length y1)]) (x:=x0) rfl ⟨_,_,_,_,rfl,h8,c0,d0,e0⟩) Fr.lt) (Vb.mono (F:=Fr 0 k2 l2) (Vb.ofAgg (cs:=[(.int .i64 b0.tm),(.int .i64 b0.job)]) (x:=b0) rfl ⟨rfl,u2,n1⟩) Fr.lt) w2) rfl fun w6 n2 o2 h0 j4=>?_
  obtain ⟨rfl,x6⟩:=j4.int
  have hZ:=h0.lst [] (fun _ h=>h.elim)
  refine AF [(13,[3,6])] hZ ?_
  refine Ax (i:=7) rfl ?_
  replace h8:=h8.st h0
  replace c0:=c0.st h0
  replace d0:=d0.st h0
  replace e0:=e0.st h0
  refine AG (O:=o2) (A:=All n2) (R:=fun w' F v=>Vb w' F v m1) (DC (fun _ h=>h) (Vb.mono (F:=Fr 0 n2 o2) (Vb.ofAgg (cs:=[(.slice A9 x0.vars.length q1),(.slice r1 x0.init.length s1),(.slice t1 x0.goal.length u1),(.slice w1 x0.jobs.length y1)]) (x:=x0) rfl ⟨_,_,_,_,rfl,h8,c0,d0,e0⟩) Fr.lt) (Vb.mono (F:=Fr 0 n2 o2) (Vb.ofAgg (cs:=[(.int .i64 b0.tm),(.int .i64 b0.job)]) (x:=b0) rfl ⟨rfl,u2,n1⟩) Fr.lt) w2) rfl fun y6 z6 a7 i0 k4=>?_
  obtain ⟨rfl,b7⟩:=k4.int
  have hZ:=i0.lst [] (fun _ h=>h.elim)
  refine AF [(13,[3,6])] hZ ?_
  refine AM (fuel:=2) [] [(8,true)] rfl ?_
  replace a1:=((a1.st t0).st h0).st i0
  obtain ⟨c7,d7,b2,e7⟩:=MapR.get a1 m1
  refine Qy m1 (fun w' ⟨O',hq⟩=>b2.keep (hq.agree (i:=3) (by decide) _ (MapR.at a1))) rfl rfl rfl rfl ?_
  refine Ay ?_
  refine Ax (i:=13) rfl ?_
  obtain ⟨f7,u0,p2,l4⟩:=MapR.take a1 b2 6 (by decide) (by decide)
  have hZ:=u0.lst [3] (fun _ h=>by cases h;decide)
  obtain ⟨m0,m4,n4⟩:=AO m0
  replace m2:=((m2.st h0).st i0).st u0
  refine BE rfl l4 (m2.rd) rfl rfl (by decide) m4 n4 rfl fun g7 h7 i7 j7 w0 a3=>?_
  rw [← m0] at a3 ⊢
  replace hZ:=hZ.cmp w0 [3,6] (fun _ h=>by cases h;decide) rfl
  refine AF [] hZ ?_
  refine Ax (i:=14) rfl ?_
  replace p2:=p2.st w0
  refine Lu p2 a3 rfl rfl rfl fun k7 l7 h1 o4=>?_
  refine BL ?_
  refine BG ?_
  obtain rfl:=sm l0
  exact show Exists _ from ⟨_,(),rfl,⟨rfl,rfl,rfl,rfl,rfl,trivial⟩,_,(((((((((((hB.st b1).st c1).st k0).st y0).st z0).st d1).st t0).st h0).st i0).st u0).st w0).st h1,(((((j1.st t0).st h0).st i0).st u0).st w0).st h1,(((h8.st i0).st u0).st w0).st h1,(((c0.st i0).st u0).st w0).st h1,(((d0.st i0).st u0).st w0).st h1,(((e0.st i0).st u0).st w0).st h1,o4,(((((((((((i1.st b1).st c1).st k0).st y0).st z0).st d1).st t0).st h0).st i0).st u0).st w0).st h1⟩
 replace hB:=(hB.st c2).st z1
 rintro m7 n7 ⟨o7,p7,rfl,b3,q7,hB,e1⟩
 replace hm:=AP hm
 refine AE _ b3 ?_
 refine Ab (Aa (Al rfl (o_z ?_)))
 refine Ab ?_
 obtain ⟨r7,p4,hm⟩:=bs hm
 obtain ⟨q4,rfl⟩:=QB p4
 refine Rf (q:=8) (j:=10) e1 q4 (by decide) (by decide) (by decide) (by decide) (by decide) rfl rfl (h:=fun s7 t7 u7 w7 r4 x7 c3 d3 s4 e3=>?_)
 rw [Rg c3] at hm
 refine AE _ e3 ?_
 refine Ab (Aa (Ak rfl ?_))
 obtain ⟨y7,t4,hm⟩:=bs hm
 refine Nn (O:=r4) (Jk s4 t4) rfl rfl fun z7 a8 b8 f3 q2=>?_
 refine o_z ?_
 refine Ab (Aa (Ak rfl (Ak rfl (Al rfl (Al rfl (o_z ?_))))))
 refine AC ?_
 obtain ⟨c8,g3,q2⟩:=q2.freeze
 obtain rfl:=sm hm
 replace hB:=((hB.st d3).st f3).st g3
 obtain ⟨O',hS',hz,hl⟩:=hE.leave (fun q=>if q=3 then j0 else 0) rfl hB
 replace e1:=((e1.st d3).st f3).st g3
 exact ret2 rfl (At rfl) (At rfl) ⟨O',hS',_,_,rfl,(Ob.leave e1 hz (hl 3 (by decide) (by decide)) hj0),(Vb.mono q2 hz)⟩
noncomputable def Cf (x0:Tpl) (x1:List Lch):Option (Int×Err) :=
  bnd (CU x0 x1) fun q27=>if q27.n≠0 then (some (0,(⟨q27.n⟩:Err))) else (bnd (Ce x0 x1) fun q36=>bnd (rng (ρ:=Int×Err) (fun (k58:Nat) (a59:Int) (s56:(List Int))=>bnd (Dc x0 x1 a59 s56 (mget ([]:List Hap) q36.1.l a59)) fun q83=>if q83.2.n≠0 then (some (.ret (0,(⟨q83.2.n⟩:Err)))) else (some (.next q83.1))) q36.2 0 x0.init) fun res54=>fin res54 fun (s102:(List Int))=>bnd (Cq x0.goal s102) fun q104=>if q104=true then bnd (CJ x0 x1) fun q111=>some (q111,(⟨0⟩:Err)) else some (0,(⟨13⟩:Err)))
theorem HD {w:World} {A:Nat→Prop} (hA:∀ k,A k→k < w.heap.size) {vx0:Value} {x0:Tpl} (n1:Vb w A vx0 x0) {vx1:Value} {x1:List Lch} (a0:Vb w A vx1 x1) {r:Int×Err} (hm:Cf x0 x1=some r) :
    Fn Tryz.prog 23 [vx0,vx1] w fun v w'=>Ext w w'∧T2 w' (upA A w w') v r:=by
 obtain ⟨O,hB,g2⟩:=enter hA
 replace n1:=n1.mono g2
 obtain ⟨n3,rfl,v4,v5,v6,v7,rfl,h8,b0,c0,e0⟩:=n1
 obtain ⟨A9,p0,rfl⟩:=h8.form
 obtain ⟨k0,l0,rfl⟩:=b0.form
 obtain ⟨q0,r0,rfl⟩:=c0.form
 obtain ⟨s0,t0,rfl⟩:=e0.form
 replace a0:=a0.mono g2
 obtain ⟨j1,k1,rfl⟩:=a0.form
 refine AH Tryz.func23 rfl Tryz.ntmps23 ?_
 unfold Cf at hm
 refine Ab (Aa (BQ 2 O rfl fun d1 l1 m1 v0 d0=>?_))
 replace d0:Lc 2 l1 m1 d1 26 [(.slice A9 x0.vars.length p0),(.slice k0 x0.init.length l0),(.slice q0 x0.goal.length r0),(.slice s0 x0.jobs.length t0)]:=d0
 refine Al rfl (Al rfl (o_z ?_))
 refine Ab (Ab (Aa (Bg (hl:=rfl) (hc:=(d0.1).cellsAt) rfl ?_)))
 refine Ak rfl ?_
 obtain ⟨m2,n2,hm⟩:=bs hm
 replace a0:=a0.st v0
 replace h8:=h8.st v0
 replace b0:=b0.st v0
 replace c0:=c0.st v0
 replace e0:=e0.st v0
 refine AG (O:=m1) (A:=All l1) (R:=fun w' F v=>Vb w' F v m2) (Lz (fun _ h=>h) (Vb.mono (F:=Fr 0 l1 m1) (Vb.ofAgg (cs:=[(.slice A9 x0.vars.length p0),(.slice k0 x0.init.length l0),(.slice q0 x0.goal.length r0),(.slice s0 x0.jobs.length t0)]) (x:=x0) rfl ⟨_,_,_,_,rfl,h8,b0,c0,e0⟩) Fr.lt) (Vb.mono (F:=Fr 0 l1 m1) a0 Fr.lt) n2) rfl fun o3 p3 o2 u0 p2=>?_
 obtain ⟨rfl,q2⟩:=p2.err
 refine Al rfl (o_z ?_)
 refine Ab (Aa (Ak rfl (Gi rfl (fun o1=>?_) fun o1=>?_)))
 ·
  replace hm:=ip hm o1
  refine o_z ?_
  refine Aj rfl (Ab (Aa (Ak rfl (Al rfl (Al rfl (o_z ?_))))))
  refine AC ?_
  obtain rfl:=sm hm
  replace hB:=(hB.st v0).st u0
  exact ret2 rfl (At rfl) (At rfl) ⟨hB.ext,_,_,rfl,(vInt (show inI64 (0) from by decide)),(vErr q2)⟩
 replace hm:=im hm o1
 refine o_z ?_
 refine Ah rfl (AK (Ab (Aa (AB rfl ?_))))
 replace d0:=d0.st u0
 refine Az (hc:=Blk.cell (i:=1) (d0.1) rfl) rfl ?_
 refine Al rfl (o_z ?_)
 refine Ab (Aa (Bg (hl:=rfl) (hc:=(d0.1).cellsAt) rfl ?_))
 refine Ak rfl ?_
 obtain ⟨y0,r2,hm⟩:=bs hm
 replace a0:=a0.st u0
 replace h8:=h8.st u0
 replace b0:=b0.st u0
 replace c0:=c0.st u0
 replace e0:=e0.st u0
 refine Nn (O:=o2) (JF (Vb.ofAgg (cs:=[(.slice A9 x0.vars.length p0),(.slice k0 x0.init.length l0),(.slice q0 x0.goal.length r0),(.slice s0 x0.jobs.length t0)]) (x:=x0) rfl ⟨_,_,_,_,rfl,h8,b0,c0,e0⟩) a0 3 (by decide) r2) rfl rfl fun q3 r3 s3 i0 s2=>?_
 obtain ⟨t3,u3,rfl,w0,m0⟩:=s2
 obtain ⟨h2,rfl⟩:=w0.mptr
 obtain ⟨i2,j2,rfl⟩:=m0.form
 obtain ⟨t2,h0,w0⟩:=MapR.freeze w0
 refine Ak rfl (CS rfl rfl (CS rfl rfl (Al rfl (Al rfl (o_z ?_)))))
 refine Ab (Ab (Aa (Ak rfl (AR rfl ?_))))
 replace m0:=m0.st h0
 have p1:y0.2.length≤9223372036854775807:=Nat.le_trans m0.len.2.1 m0.len.2.2
 have v3:inI64 (y0.2.length:Int):=rngNat p1
 refine Ak rfl (o_z ?_)
 obtain ⟨e1,q1,hm⟩:=bs hm
 refine Au (aft e1 (fun (n0:(List Int)) (j0:(Option Addr×Nat))=>[(1,(.slice j1 x1.length k1)),(2,(.pointer (some ⟨d1,0,none⟩))),(7,(.slice j0.1 n0.length j0.2))]) (fun n0 j0 w'=>∃ O':Lab,Bs w A w' O'∧Vb w' (Fr 0 w' O') (.slice j1 x1.length k1) x1∧Lc 2 w' O' d1 26 [(.slice A9 x0.vars.length p0),(.slice k0 x0.init.length l0),(.slice q0 x0.goal.length r0),(.slice s0 x0.jobs.length t0)]∧Vb w' (Fr 0 w' O') (.slice A9 x0.vars.length p0) x0.vars∧Vb w' (Fr 0 w' O') (.slice k0 x0.init.length l0) x0.init∧Vb w' (Fr 0 w' O') (.slice q0 x0.goal.length r0) x0.goal∧Vb w' (Fr 0 w' O') (.slice s0 x0.jobs.length t0) x0.jobs∧Vb w' (Fr 0 w' O') (.slice j0.1 n0.length j0.2) n0)) ?_ ?_
 ·
  refine AJ ?_
  replace hB:=(((hB.st v0).st u0).st i0).st h0
  replace a0:=(a0.st i0).st h0
  replace h8:=(h8.st i0).st h0
  replace b0:=(b0.st i0).st h0
  replace c0:=(c0.st i0).st h0
  replace e0:=(e0.st i0).st h0
  replace d0:=(d0.st i0).st h0
  refine Bh (σ:=(List Int)) (X:=(Option Addr×Nat)) (y0.2.length) q1 rfl p1 (fun (n0:(List Int)) (j0:(Option Addr×Nat))=>[(1,(.slice j1 x1.length k1)),(2,(.pointer (some ⟨d1,0,none⟩))),(7,(.slice j0.1 n0.length j0.2)),(8,(.map (some h2))),(28,(.slice i2 y0.2.length j2))]) _ (fun n0 j0 w'=>∃ O':Lab,Bs w A w' O'∧Vb w' (Fr 0 w' O') (.slice j1 x1.length k1) x1∧Lc 2 w' O' d1 26 [(.slice A9 x0.vars.length p0),(.slice k0 x0.init.length l0),(.slice q0 x0.goal.length r0),(.slice s0 x0.jobs.length t0)]∧Vb w' (Fr 0 w' O') (.slice A9 x0.vars.length p0) x0.vars∧Vb w' (Fr 0 w' O') (.slice k0 x0.init.length l0) x0.init∧Vb w' (Fr 0 w' O') (.slice q0 x0.goal.length r0) x0.goal∧Vb w' (Fr 0 w' O') (.slice s0 x0.jobs.length t0) x0.jobs∧Vb w' (Fr 0 w' O') (.slice j0.1 n0.length j0.2) n0∧MapZ w' O' h2 182 y0.1∧Vb w' (Fr 0 w' O') (.slice i2 y0.2.length j2) y0.2) _ (k0,l0) ⟨t2,hB,a0,d0,h8,b0,c0,e0,b0,w0,m0⟩ ⟨rfl,rfl,rfl,rfl,rfl,rfl,rfl,trivial⟩ (fun _ _=>⟨rfl,rfl⟩) (fun _ _=>⟨rfl,rfl,rfl,trivial⟩) (fun _ _ _ ⟨O',hB,a0,d0,h8,b0,c0,e0,f1,w0,m0⟩=>⟨O',hB,a0,d0,h8,b0,c0,e0,f1⟩) ⟨rfl,rfl,rfl⟩ ⟨rfl,rfl⟩ ?_
  rintro u2 k2 n0 j0 w3 v2 g1 ⟨w2,hB,a0,d0,h8,b0,c0,e0,f1,w0,m0⟩ f0 z0 r1
  have rk58:inI64 (u2:Int):=rngK g1 p1
  refine Ab (Aa ?_)
  obtain ⟨x3,y3,x2,s1,t1,u1,rfl,y2⟩:=m0.elem' g1
  refine Bv (hA:=s1) (hj:=rfl) (hlt:=t1) rfl rfl ?_
  refine Az (hc:=cat0 u1) rfl ?_
  refine Al rfl (o_z ?_)
  refine Ab (Aa (Bg (hl:=rfl) (hc:=(d0.1).cellsAt) rfl ?_))
  refine Ak rfl (Ak rfl (Ak rfl (Ak rfl (Ak rfl ?_))))
  obtain ⟨z3,a4,v1,z2⟩:=MapZ.get w0 k2
  refine VC k2 v1 rfl rfl rfl ?_
  obtain ⟨a3,b3,f0⟩:=bs f0
  refine BU (O:=w2) (R:=fun w' F v=>T2 w' F v a3) (MQ Fr.lt (Vb.ofAgg (cs:=[(.slice A9 x0.vars.length p0),(.slice k0 x0.init.length l0),(.slice q0 x0.goal.length r0),(.slice s0 x0.jobs.length t0)]) (x:=x0) rfl ⟨_,_,_,_,rfl,h8,b0,c0,e0⟩) a0 y2 f1 z2 b3) rfl fun b4 c4 d4 o0 c3=>?_
  obtain ⟨e4,f4,rfl,l2,d3⟩:=c3
  obtain ⟨e3,f3,rfl⟩:=l2.form
  obtain ⟨rfl,g3⟩:=d3.err
  refine Ak rfl (CS rfl rfl (CS rfl rfl (Al rfl (Al rfl (o_z ?_)))))
  refine Ab (Ab (Aa (Ak rfl (Gi rfl (fun w1=>?_) fun w1=>?_))))
  ·
   replace f0:=ip f0 w1
   refine o_z ?_
   refine Aj rfl (Ab (Aa (Ak rfl (Al rfl (Al rfl (o_z ?_))))))
   refine AC ?_
   obtain rfl:=sm f0
   obtain rfl:=z0 _ rfl
   obtain rfl:=sm (CG hm)
   replace hB:=hB.st o0
   exact ret2 rfl (At rfl) (At rfl) ⟨hB.ext,_,_,rfl,(vInt (show inI64 (0) from by decide)),(vErr g3)⟩
  replace f0:=im f0 w1
  refine o_z ?_
  refine Ah rfl (AK (Aa (Ak rfl (Al rfl (o_z ?_)))))
  obtain rfl:=sm f0
  exact show Exists _ from ⟨_,(e3,f3),rfl,⟨rfl,rfl,rfl,rfl,rfl,rfl,rfl,trivial⟩,_,hB.st o0,a0.st o0,d0.st o0,h8.st o0,b0.st o0,c0.st o0,e0.st o0,l2,w0.st o0,m0.st o0⟩
 replace hB:=(((hB.st v0).st u0).st i0).st h0
 replace a0:=(a0.st i0).st h0
 replace h8:=(h8.st i0).st h0
 replace b0:=(b0.st i0).st h0
 replace c0:=(c0.st i0).st h0
 replace e0:=(e0.st i0).st h0
 replace d0:=(d0.st i0).st h0
 rintro g4 y1 ⟨h3,i3,rfl,h1,a1,hB,a0,d0,h8,b0,c0,e0,f1⟩
 replace hm:=AP hm
 refine AE _ h1 ?_
 refine Ab (Ab (Aa (AB rfl (Az (hc:=Blk.cell (i:=2) (d0.1) rfl) rfl ?_))))
 refine Ak rfl ?_
 obtain ⟨i1,z1,hm⟩:=bs hm
 refine AG (O:=a1) (A:=All y1) (R:=fun w' F v=>Vb w' F v i1) (Gq (fun _ h=>h) (Vb.mono (F:=Fr 0 y1 a1) c0 Fr.lt) (Vb.mono (F:=Fr 0 y1 a1) f1 Fr.lt) z1) rfl fun j3 b1 c1 g0 a2=>?_
 obtain rfl:=a2.bool
 cases i1
 case false =>
  replace hm:=iF hm
  refine Fd rfl (o_z ?_)
  refine Aj rfl (Ab (Aa (Fb rfl ?_)))
  refine Al rfl (Al rfl (o_z ?_))
  refine AC ?_
  obtain rfl:=sm hm
  replace hB:=hB.st g0
  exact ret2 rfl (At rfl) (At rfl) ⟨hB.ext,_,_,rfl,(vInt (show inI64 (0) from by decide)),(vErr (by decide))⟩
 replace hm:=iT hm
 refine Fc rfl (o_z ?_)
 refine Ah rfl (AK (Ab (Aa ?_)))
 replace d0:=d0.st g0
 refine Bg (hl:=rfl) (hc:=(d0.1).cellsAt) rfl ?_
 refine Ak rfl ?_
 obtain ⟨b2,c2,hm⟩:=bs hm
 replace a0:=a0.st g0
 replace h8:=h8.st g0
 replace b0:=b0.st g0
 replace c0:=c0.st g0
 replace e0:=e0.st g0
 refine AG (O:=c1) (A:=All b1) (R:=fun w' F v=>Vb w' F v b2) (KH (fun _ h=>h) (Vb.mono (F:=Fr 0 b1 c1) (Vb.ofAgg (cs:=[(.slice A9 x0.vars.length p0),(.slice k0 x0.init.length l0),(.slice q0 x0.goal.length r0),(.slice s0 x0.jobs.length t0)]) (x:=x0) rfl ⟨_,_,_,_,rfl,h8,b0,c0,e0⟩) Fr.lt) (Vb.mono (F:=Fr 0 b1 c1) a0 Fr.lt) c2) rfl fun k3 l3 m3 d2 e2=>?_
 obtain ⟨rfl,f2⟩:=e2.int
 refine Al rfl (Al rfl (o_z ?_))
 refine AC ?_
 obtain rfl:=sm hm
 replace hB:=(hB.st g0).st d2
 exact ret2 rfl (At rfl) (At rfl) ⟨hB.ext,_,_,rfl,(vInt f2),(vErr (show inI64 0 from by decide))⟩
noncomputable def CA (x0:Tpl) (x1:Lch):Option Int :=
  bnd (atI x0.jobs x1.job) fun a33=>bnd (chkI (x1.tm + a33.dur)) fun n66=>some n66
theorem HS {w:World} {A:Nat→Prop} (hA:∀ k,A k→k < w.heap.size) {vx0:Value} {x0:Tpl} (d0:Vb w A vx0 x0) {vx1:Value} {x1:Lch} (e0:Vb w A vx1 x1) {r:Int} (hm:CA x0 x1=some r) :
    Fn Tryz.prog 77 [vx0,vx1] w fun v w'=>Ext w w'∧Vb w' (upA A w w') v r:=by
 obtain ⟨O,hB,j0⟩:=enter hA
 replace d0:=d0.mono j0
 obtain ⟨n1,rfl,v4,v5,v6,v7,rfl,h8,o0,p0,b0⟩:=d0
 obtain ⟨A9,q0,rfl⟩:=h8.form
 obtain ⟨r0,s0,rfl⟩:=o0.form
 obtain ⟨t0,u0,rfl⟩:=p0.form
 obtain ⟨v0,w0,rfl⟩:=b0.form
 replace e0:=e0.mono j0
 obtain ⟨y0,rfl,rfl,o1,p1⟩:=e0
 refine AH Tryz.func77 rfl Tryz.ntmps77 ?_
 unfold CA at hm
 refine Ab (Aa (BQ 2 O rfl fun z0 a1 k0 l0 a0=>?_))
 replace a0:Lc 2 a1 k0 z0 26 [(.slice A9 x0.vars.length q0),(.slice r0 x0.init.length s0),(.slice t0 x0.goal.length u0),(.slice v0 x0.jobs.length w0)]:=a0
 refine BQ 3 k0 rfl fun b1 m0 c1 f0 c0=>?_
 replace c0:Lc 3 m0 c1 b1 52 [(.int .i64 x1.tm),(.int .i64 x1.job)]:=c0
 refine Al rfl (o_z ?_)
 refine Ab (Fl (·=m0) [(0,true),(1,true),(2,true),(3,true),(4,true),(5,true),(6,true),(7,true),(8,true),(9,true),(10,true)] rfl rfl ?_)
 refine Bo rfl rfl (Fa (hc:=Blk.cell (i:=0) (c0.1) rfl) rfl rfl ?_)
 refine Bo rfl rfl ?_
 replace a0:=a0.st f0
 refine Fa (hc:=Blk.cell (i:=3) (a0.1) rfl) rfl rfl ?_
 refine Bo rfl rfl (Fa (hc:=Blk.cell (i:=1) (c0.1) rfl) rfl rfl ?_)
 obtain ⟨q1,d1,hm⟩:=bs hm
 obtain ⟨e1,f1⟩:=BO d1
 replace b0:=(b0.st l0).st f0
 obtain ⟨r1,s1,g1,g0,h0,i0,t1,u1,v1,w1,y1,rfl,h1,i1,j1,k1,l1,z1,a2⟩:=b0.elem' f1
 obtain ⟨b2,c2,rfl⟩:=h1.form
 obtain ⟨d2,e2,rfl⟩:=i1.form
 obtain ⟨f2,g2,rfl⟩:=j1.form
 obtain ⟨h2,i2,rfl⟩:=k1.form
 obtain ⟨j2,k2,rfl⟩:=l1.form
 refine EF (hA:=g0) (hj:=(Int.toNat_of_nonneg e1).symm) (hlt:=h0) rfl rfl rfl ?_
 refine Bo rfl rfl (Fa (hc:=cat1 i0) rfl rfl ?_)
 obtain ⟨l2,n0,hm⟩:=bs hm
 have m1:=(AX n0)
 refine JY (he:=n0) rfl rfl rfl ?_
 refine JT rfl rfl (h_z ?_)
 refine AC ?_
 obtain rfl:=sm hm
 replace hB:=(hB.st l0).st f0
 exact ret1v rfl (At rfl) ⟨hB.ext,(vInt m1)⟩
noncomputable def FS (x0:Tpl) (x1:List Lch):Option Int :=
  bnd (rng (ρ:=Int) (fun (k33:Nat) (a34:Lch) (s31:Int)=>bnd (CA x0 a34) fun q62=>some (.next (max s31 q62))) x1 0 0) fun res29=>fin res29 fun (s74:Int)=>some s74
theorem Mk {w:World} {A:Nat→Prop} (hA:∀ k,A k→k < w.heap.size) {vx0:Value} {x0:Tpl} (b1:Vb w A vx0 x0) {vx1:Value} {x1:List Lch} (a0:Vb w A vx1 x1) {r:Int} (hm:FS x0 x1=some r) :
    Fn Tryz.prog 75 [vx0,vx1] w fun v w'=>Ext w w'∧Vb w' (upA A w w') v r:=by
 obtain ⟨O,hB,l1⟩:=enter hA
 replace b1:=b1.mono l1
 obtain ⟨c2,rfl,v4,v5,v6,v7,rfl,h8,b0,c0,d0⟩:=b1
 obtain ⟨A9,q0,rfl⟩:=h8.form
 obtain ⟨r0,s0,rfl⟩:=b0.form
 obtain ⟨t0,u0,rfl⟩:=c0.form
 obtain ⟨v0,w0,rfl⟩:=d0.form
 replace a0:=a0.mono l1
 obtain ⟨m1,n1,rfl⟩:=a0.form
 refine AH Tryz.func75 rfl Tryz.ntmps75 ?_
 unfold FS at hm
 refine Ab (Aa (BQ 2 O rfl fun c1 p1 o1 g0 e0=>?_))
 replace e0:Lc 2 p1 o1 c1 26 [(.slice A9 x0.vars.length q0),(.slice r0 x0.init.length s0),(.slice t0 x0.goal.length u0),(.slice v0 x0.jobs.length w0)]:=e0
 refine Al rfl (o_z ?_)
 refine Ab (Aa (Al rfl (o_z ?_)))
 refine Ab (Ab (Aa (Ak rfl (AR rfl ?_))))
 replace a0:=a0.st g0
 have d1:x1.length≤9223372036854775807:=Nat.le_trans a0.len.2.1 a0.len.2.2
 have d2:inI64 (x1.length:Int):=rngNat d1
 refine Ak rfl (o_z ?_)
 obtain ⟨l0,e1,hm⟩:=bs hm
 refine Au (aft l0 (fun (f0:Int) (y0:Unit)=>[(5,(.int .i64 f0))]) (fun f0 y0 w'=>∃ O':Lab,Bs w A w' O'∧inI64 f0)) ?_ ?_
 ·
  refine AJ ?_
  replace hB:=hB.st g0
  replace h8:=h8.st g0
  replace b0:=b0.st g0
  replace c0:=c0.st g0
  replace d0:=d0.st g0
  refine Bh (σ:=Int) (X:=Unit) (x1.length) e1 rfl d1 (fun (f0:Int) (y0:Unit)=>[(2,(.pointer (some ⟨c1,0,none⟩))),(5,(.int .i64 f0)),(8,(.slice m1 x1.length n1))]) _ (fun f0 y0 w'=>∃ O':Lab,Bs w A w' O'∧Lc 2 w' O' c1 26 [(.slice A9 x0.vars.length q0),(.slice r0 x0.init.length s0),(.slice t0 x0.goal.length u0),(.slice v0 x0.jobs.length w0)]∧Vb w' (Fr 0 w' O') (.slice A9 x0.vars.length q0) x0.vars∧Vb w' (Fr 0 w' O') (.slice r0 x0.init.length s0) x0.init∧Vb w' (Fr 0 w' O') (.slice t0 x0.goal.length u0) x0.goal∧Vb w' (Fr 0 w' O') (.slice v0 x0.jobs.length w0) x0.jobs∧Vb w' (Fr 0 w' O') (.slice m1 x1.length n1) x1∧inI64 f0) _ () ⟨o1,hB,e0,h8,b0,c0,d0,a0,(show inI64 (0) from by decide)⟩ ⟨rfl,rfl,rfl,rfl,rfl,trivial⟩ (fun _ _=>⟨rfl,rfl⟩) (fun _ _=>⟨rfl,trivial⟩) (fun _ _ _ ⟨O',hB,e0,h8,b0,c0,d0,a0,m0⟩=>⟨O',hB,m0⟩) ⟨rfl,rfl,rfl⟩ ⟨rfl,rfl⟩ ?_
  rintro q1 n0 f0 y0 e2 r1 o0 ⟨s1,hB,e0,h8,b0,c0,d0,a0,m0⟩ h0 f1 g1
  have rk33:inI64 (q1:Int):=rngK o0 d1
  refine Ab (Aa ?_)
  obtain ⟨f2,g2,t1,h1,i1,j1,rfl,u1,v1⟩:=a0.elem' o0
  refine Bv (hA:=h1) (hj:=rfl) (hlt:=i1) rfl rfl ?_
  refine Bg (hl:=rfl) (hc:=j1) rfl ?_
  refine AT 3 s1 fun w1 h2 z0 i0 p0=>?_
  refine AD p0 rfl rfl rfl (AL) (allOne) fun a1 j0 p0=>?_
  replace p0:Lc 3 a1 z0 w1 52 [(.int .i64 n0.tm),(.int .i64 n0.job)]:=p0
  refine o_z ?_
  refine Aa (Ak rfl ?_)
  replace e0:=(e0.st i0).st j0
  refine Bg (hl:=rfl) (hc:=(e0.1).cellsAt) rfl ?_
  refine Bg (hl:=rfl) (hc:=(p0.1).cellsAt) rfl ?_
  obtain ⟨y1,z1,h0⟩:=bs h0
  replace h8:=(h8.st i0).st j0
  replace b0:=(b0.st i0).st j0
  replace c0:=(c0.st i0).st j0
  replace d0:=(d0.st i0).st j0
  refine AG (O:=z0) (A:=All a1) (R:=fun w' F v=>Vb w' F v y1) (HS (fun _ h=>h) (Vb.mono (F:=Fr 0 a1 z0) (Vb.ofAgg (cs:=[(.slice A9 x0.vars.length q0),(.slice r0 x0.init.length s0),(.slice t0 x0.goal.length u0),(.slice v0 x0.jobs.length w0)]) (x:=x0) rfl ⟨_,_,_,_,rfl,h8,b0,c0,d0⟩) Fr.lt) (Vb.mono (F:=Fr 0 a1 z0) (Vb.ofAgg (cs:=[(.int .i64 n0.tm),(.int .i64 n0.job)]) (x:=n0) rfl ⟨rfl,u1,v1⟩) Fr.lt) z1) rfl fun i2 j2 k2 k0 a2=>?_
  obtain ⟨rfl,b2⟩:=a2.int
  refine Tc rfl rfl rfl ?_
  refine Al rfl (o_z ?_)
  obtain rfl:=sm h0
  exact show Exists _ from ⟨_,(),rfl,⟨rfl,rfl,rfl,rfl,rfl,trivial⟩,_,((hB.st i0).st j0).st k0,e0.st k0,h8.st k0,b0.st k0,c0.st k0,d0.st k0,((a0.st i0).st j0).st k0,(rngMax m0 b2)⟩
 replace hB:=hB.st g0
 rintro l2 m2 ⟨n2,o2,rfl,k1,p2,hB,m0⟩
 replace hm:=AP hm
 refine AE _ k1 ?_
 refine Ab (Aa (Ak rfl (Al rfl (o_z ?_))))
 refine AC ?_
 obtain rfl:=sm hm
 exact ret1v rfl (At rfl) ⟨hB.ext,(vInt m0)⟩
noncomputable def GD (x0:Tpl) (x1:List Lch) (x2:Int):Option (List Hp5) :=
  bnd (rng (ρ:=(List Hp5)) (fun (k40:Nat) (a41:Bool) (s38:(List Hp5))=>bnd (rng (ρ:=Ctl (List Hp5) (List Hp5)) (fun (k68:Nat) (a69:Job) (s66:(List Hp5)×Bool)=>bnd (rng (ρ:=Ctl ((List Hp5)×Bool) (Ctl (List Hp5) (List Hp5))) (fun (k89:Nat) (a90:Lch) (s87:(List Hp5)×Bool)=>bnd (if a90.job=(k68:Int) then (if s87.2=true then (bnd (CA x0 a90) fun q126=>if q126=x2 then (some (true,true)) else (some (true,false))) else (if a90.tm=x2 then (some (false,true)) else (some (false,false)))) else (some (s87.2,false)):Option (Bool×Bool)) fun y120=>if y120.2=true then (bnd (appI 16 s87.1 [(⟨(k89:Int),y120.1⟩:Hp5)]) fun u141=>some (.next (u141,y120.1))) else (some (.next (s87.1,y120.1)))) x1 0 (s66.1,s66.2)) fun res85=>fin res85 fun (s157:(List Hp5)×Bool)=>some (.next (s157.1,s157.2))) x0.jobs 0 (s38,a41)) fun res64=>fin res64 fun (s163:(List Hp5)×Bool)=>some (.next s163.1)) [true,false] 0 ([]:List Hp5)) fun res36=>fin res36 fun (s169:(List Hp5))=>some s169
theorem QI {w:World} {A:Nat→Prop} (hA:∀ k,A k→k < w.heap.size) {vx0:Value} {x0:Tpl} (q2:Vb w A vx0 x0) {vx1:Value} {x1:List Lch} (e0:Vb w A vx1 x1) {x2:Int} (rx2:inI64 x2) {r:(List Hp5)} (hm:GD x0 x1 x2=some r) :
    Fn Tryz.prog 76 [vx0,vx1,(.int .i64 x2)] w fun v w'=>Ext w w'∧Vb w' (upA A w w') v r:=by
 obtain ⟨O,hB,w3⟩:=enter hA
 replace q2:=q2.mono w3
 obtain ⟨i5,rfl,v5,v6,v7,v8,rfl,h9,i0,j0,f0⟩:=q2
 obtain ⟨s0,t0,rfl⟩:=h9.form
 obtain ⟨u0,v0,rfl⟩:=i0.form
 obtain ⟨w0,y0,rfl⟩:=j0.form
 obtain ⟨z0,a1,rfl⟩:=f0.form
 replace e0:=e0.mono w3
 obtain ⟨b1,c1,rfl⟩:=e0.form
 refine AH Tryz.func76 rfl Tryz.ntmps76 ?_
 unfold GD at hm
 refine Ab (Aa (BQ 2 O rfl fun f1 z3 x3 q1 g0=>?_))
 replace g0:Lc 2 z3 x3 f1 26 [(.slice s0 x0.vars.length t0),(.slice u0 x0.init.length v0),(.slice w0 x0.goal.length y0),(.slice z0 x0.jobs.length a1)]:=g0
 refine Al rfl (o_z ?_)
 refine Ab (Aa (Al rfl (o_z ?_)))
 refine Ab (Ab (Aa (AN 3 (by decide) x3 (xs:=([true,false]:List Bool)) rfl rfl rfl ⟨vBool,vBool,trivial⟩ (by decide) (by decide) rfl fun g1 j5 a4 p1 l0=>?_)))
 refine AR rfl ?_
 have r2:[true,false].length≤9223372036854775807:=Nat.le_trans l0.len.2.1 l0.len.2.2
 have k5:inI64 ([true,false].length:Int):=rngNat r2
 refine Ak rfl (o_z ?_)
 obtain ⟨b2,s2,hm⟩:=bs hm
 refine Au (aft b2 (fun (m1:(List Hp5)) (d1:(Option Addr×Nat))=>[(7,(.slice d1.1 m1.length d1.2))]) (fun m1 d1 w'=>∃ O':Lab,Bs w A w' O'∧Rw 5 w' O' 124 (.slice d1.1 m1.length d1.2) m1)) ?_ ?_
 ·
  refine AJ ?_
  replace hB:=(hB.st q1).st p1
  replace e0:=(e0.st q1).st p1
  replace h9:=(h9.st q1).st p1
  replace i0:=(i0.st q1).st p1
  replace j0:=(j0.st q1).st p1
  replace f0:=(f0.st q1).st p1
  replace g0:=g0.st p1
  refine Bh (σ:=(List Hp5)) (X:=(Option Addr×Nat)) ([true,false].length) s2 rfl r2 (fun (m1:(List Hp5)) (d1:(Option Addr×Nat))=>[(1,(.slice b1 x1.length c1)),(2,(.int .i64 x2)),(3,(.pointer (some ⟨f1,0,none⟩))),(7,(.slice d1.1 m1.length d1.2)),(13,(.slice (some ⟨g1,0,none⟩) [true,false].length 2))]) _ (fun m1 d1 w'=>∃ O':Lab,Bs w A w' O'∧Vb w' (Fr 0 w' O') (.slice b1 x1.length c1) x1∧Lc 2 w' O' f1 26 [(.slice s0 x0.vars.length t0),(.slice u0 x0.init.length v0),(.slice w0 x0.goal.length y0),(.slice z0 x0.jobs.length a1)]∧Vb w' (Fr 0 w' O') (.slice s0 x0.vars.length t0) x0.vars∧Vb w' (Fr 0 w' O') (.slice u0 x0.init.length v0) x0.init∧Vb w' (Fr 0 w' O') (.slice w0 x0.goal.length y0) x0.goal∧Vb w' (Fr 0 w' O') (.slice z0 x0.jobs.length a1) x0.jobs∧Rw 5 w' O' 124 (.slice d1.1 m1.length d1.2) m1∧Rw 3 w' O' 4 (.slice (some ⟨g1,0,none⟩) [true,false].length 2) [true,false]) _ (none,0) ⟨a4,hB,e0,g0,h9,i0,j0,f0,(Rw.nil 5 (by decide)),l0⟩ ⟨rfl,rfl,rfl,rfl,rfl,rfl,rfl,trivial⟩ (fun _ _=>⟨rfl,rfl⟩) (fun _ _=>⟨rfl,trivial⟩) (fun _ _ _ ⟨O',hB,e0,g0,h9,i0,j0,f0,r1,l0⟩=>⟨O',hB,r1⟩) ⟨rfl,rfl,rfl⟩ ⟨rfl,rfl⟩ ?_
  rintro y1 l5 m1 d1 m5 b4 c2 ⟨c4,hB,e0,g0,h9,i0,j0,f0,r1,l0⟩ h1 t2 u2
  have rk40:inI64 (y1:Int):=rngK c2 r2
  refine Ab (Aa ?_)
  obtain ⟨n5,o5,d4,v2,w2,y2,rfl⟩:=l0.elem c2
  refine Bv (hA:=v2) (hj:=rfl) (hlt:=w2) rfl rfl ?_
  refine Az (hc:=cat0 y2) rfl ?_
  refine Al rfl (o_z ?_)
  refine Ab (Aa (AB rfl (Az (hc:=Blk.cell (i:=3) (g0.1) rfl) rfl ?_)))
  refine AR rfl ?_
  have z2:x0.jobs.length≤9223372036854775807:=Nat.le_trans f0.len.2.1 f0.len.2.2
  have p5:inI64 (x0.jobs.length:Int):=rngNat z2
  refine Ak rfl (o_z ?_)
  obtain ⟨d2,a3,h1⟩:=bs h1
  refine Au (aft d2 (fun (i1:(List Hp5)×Bool) (e1:(Option Addr×Nat))=>[(1,(.slice b1 x1.length c1)),(2,(.int .i64 x2)),(3,(.pointer (some ⟨f1,0,none⟩))),(7,(.slice e1.1 i1.1.length e1.2)),(13,(.slice (some ⟨g1,0,none⟩) [true,false].length 2)),(14,(.int .i64 ([true,false].length:Int))),(15,(.int .i64 (y1:Int)))]) (fun i1 e1 w'=>∃ O':Lab,Bs w A w' O'∧Vb w' (Fr 0 w' O') (.slice b1 x1.length c1) x1∧Lc 2 w' O' f1 26 [(.slice s0 x0.vars.length t0),(.slice u0 x0.init.length v0),(.slice w0 x0.goal.length y0),(.slice z0 x0.jobs.length a1)]∧Vb w' (Fr 0 w' O') (.slice s0 x0.vars.length t0) x0.vars∧Vb w' (Fr 0 w' O') (.slice u0 x0.init.length v0) x0.init∧Vb w' (Fr 0 w' O') (.slice w0 x0.goal.length y0) x0.goal∧Vb w' (Fr 0 w' O') (.slice z0 x0.jobs.length a1) x0.jobs∧Rw 5 w' O' 124 (.slice e1.1 i1.1.length e1.2) i1.1∧Rw 3 w' O' 4 (.slice (some ⟨g1,0,none⟩) [true,false].length 2) [true,false])) ?_ ?_
  ·
   refine AJ (Bh (σ:=(List Hp5)×Bool) (X:=(Option Addr×Nat)) (x0.jobs.length) a3 rfl z2 (fun (i1:(List Hp5)×Bool) (e1:(Option Addr×Nat))=>[(1,(.slice b1 x1.length c1)),(2,(.int .i64 x2)),(3,(.pointer (some ⟨f1,0,none⟩))),(7,(.slice e1.1 i1.1.length e1.2)),(9,(.bool i1.2)),(13,(.slice (some ⟨g1,0,none⟩) [true,false].length 2)),(14,(.int .i64 ([true,false].length:Int))),(15,(.int .i64 (y1:Int)))]) _ (fun i1 e1 w'=>∃ O':Lab,Bs w A w' O'∧Vb w' (Fr 0 w' O') (.slice b1 x1.length c1) x1∧Lc 2 w' O' f1 26 [(.slice s0 x0.vars.length t0),(.slice u0 x0.init.length v0),(.slice w0 x0.goal.length y0),(.slice z0 x0.jobs.length a1)]∧Vb w' (Fr 0 w' O') (.slice s0 x0.vars.length t0) x0.vars∧Vb w' (Fr 0 w' O') (.slice u0 x0.init.length v0) x0.init∧Vb w' (Fr 0 w' O') (.slice w0 x0.goal.length y0) x0.goal∧Vb w' (Fr 0 w' O') (.slice z0 x0.jobs.length a1) x0.jobs∧Rw 5 w' O' 124 (.slice e1.1 i1.1.length e1.2) i1.1∧Rw 3 w' O' 4 (.slice (some ⟨g1,0,none⟩) [true,false].length 2) [true,false]) _ (d1.1,d1.2) ⟨c4,hB,e0,g0,h9,i0,j0,f0,r1,l0⟩ ⟨rfl,rfl,rfl,rfl,rfl,rfl,rfl,rfl,rfl,rfl,trivial⟩ (fun _ _=>⟨rfl,rfl⟩) (fun _ _=>⟨rfl,rfl,rfl,rfl,rfl,rfl,rfl,trivial⟩) (fun _ _ _ ⟨O',hB,e0,g0,h9,i0,j0,f0,e2,l0⟩=>⟨O',hB,e0,g0,h9,i0,j0,f0,e2,l0⟩) ⟨rfl,rfl,rfl⟩ ⟨rfl,rfl⟩ ?_)
   rintro z1 q5 i1 e1 r5 e4 b3 ⟨f4,hB,e0,g0,h9,i0,j0,f0,e2,l0⟩ j1 c3 d3
   have rk68:inI64 (z1:Int):=rngK b3 z2
   refine Ab (Aa (Ak rfl (Al rfl (o_z ?_))))
   refine Ab (Aa (Ak rfl (AR rfl ?_)))
   have e3:x1.length≤9223372036854775807:=Nat.le_trans e0.len.2.1 e0.len.2.2
   have s5:inI64 (x1.length:Int):=rngNat e3
   refine Ak rfl (o_z ?_)
   obtain ⟨f2,f3,j1⟩:=bs j1
   refine Au (aft f2 (fun (q0:(List Hp5)×Bool) (o0:(Option Addr×Nat))=>[(1,(.slice b1 x1.length c1)),(2,(.int .i64 x2)),(3,(.pointer (some ⟨f1,0,none⟩))),(7,(.slice o0.1 q0.1.length o0.2)),(9,(.bool q0.2)),(13,(.slice (some ⟨g1,0,none⟩) [true,false].length 2)),(14,(.int .i64 ([true,false].length:Int))),(15,(.int .i64 (y1:Int))),(21,(.int .i64 (x0.jobs.length:Int))),(22,(.int .i64 (z1:Int)))]) (fun q0 o0 w'=>∃ O':Lab,Bs w A w' O'∧Vb w' (Fr 0 w' O') (.slice b1 x1.length c1) x1∧Lc 2 w' O' f1 26 [(.slice s0 x0.vars.length t0),(.slice u0 x0.init.length v0),(.slice w0 x0.goal.length y0),(.slice z0 x0.jobs.length a1)]∧Vb w' (Fr 0 w' O') (.slice s0 x0.vars.length t0) x0.vars∧Vb w' (Fr 0 w' O') (.slice u0 x0.init.length v0) x0.init∧Vb w' (Fr 0 w' O') (.slice w0 x0.goal.length y0) x0.goal∧Vb w' (Fr 0 w' O') (.slice z0 x0.jobs.length a1) x0.jobs∧Rw 5 w' O' 124 (.slice o0.1 q0.1.length o0.2) q0.1∧Rw 3 w' O' 4 (.slice (some ⟨g1,0,none⟩) [true,false].length 2) [true,false])) ?_ ?_
   ·
    refine AJ (Bh (σ:=(List Hp5)×Bool) (X:=(Option Addr×Nat)) (x1.length) f3 rfl e3 (fun (q0:(List Hp5)×Bool) (o0:(Option Addr×Nat))=>[(1,(.slice b1 x1.length c1)),(2,(.int .i64 x2)),(3,(.pointer (some ⟨f1,0,none⟩))),(7,(.slice o0.1 q0.1.length o0.2)),(9,(.bool q0.2)),(10,(.int .i64 (z1:Int))),(13,(.slice (some ⟨g1,0,none⟩) [true,false].length 2)),(14,(.int .i64 ([true,false].length:Int))),(15,(.int .i64 (y1:Int))),(21,(.int .i64 (x0.jobs.length:Int))),(22,(.int .i64 (z1:Int))),(25,(.slice b1 x1.length c1))]) _ (fun q0 o0 w'=>∃ O':Lab,Bs w A w' O'∧Vb w' (Fr 0 w' O') (.slice b1 x1.length c1) x1∧Lc 2 w' O' f1 26 [(.slice s0 x0.vars.length t0),(.slice u0 x0.init.length v0),(.slice w0 x0.goal.length y0),(.slice z0 x0.jobs.length a1)]∧Vb w' (Fr 0 w' O') (.slice s0 x0.vars.length t0) x0.vars∧Vb w' (Fr 0 w' O') (.slice u0 x0.init.length v0) x0.init∧Vb w' (Fr 0 w' O') (.slice w0 x0.goal.length y0) x0.goal∧Vb w' (Fr 0 w' O') (.slice z0 x0.jobs.length a1) x0.jobs∧Rw 5 w' O' 124 (.slice o0.1 q0.1.length o0.2) q0.1∧Rw 3 w' O' 4 (.slice (some ⟨g1,0,none⟩) [true,false].length 2) [true,false]) _ (e1.1,e1.2) ⟨f4,hB,e0,g0,h9,i0,j0,f0,e2,l0⟩ ⟨rfl,rfl,rfl,rfl,rfl,rfl,rfl,rfl,rfl,rfl,rfl,rfl,rfl,rfl,trivial⟩ (fun _ _=>⟨rfl,rfl⟩) (fun _ _=>⟨rfl,rfl,rfl,rfl,rfl,rfl,rfl,rfl,rfl,rfl,trivial⟩) (fun _ _ _ ⟨O',hB,e0,g0,h9,i0,j0,f0,k0,l0⟩=>⟨O',hB,e0,g0,h9,i0,j0,f0,k0,l0⟩) ⟨rfl,rfl,rfl⟩ ⟨rfl,rfl⟩ ?_)
    rintro a2 g2 q0 o0 t5 g4 h2 ⟨h4,hB,e0,g0,h9,i0,j0,f0,k0,l0⟩ n0 g3 h3
    have rk89:inI64 (a2:Int):=rngK h2 e3
    refine Ab (Aa (Ak rfl ?_))
    obtain ⟨i4,j4,y3,i2,j2,k2,rfl,i3,j3⟩:=e0.elem' h2
    refine Bv (hA:=i2) (hj:=rfl) (hlt:=j2) rfl rfl ?_
    refine Bg (hl:=rfl) (hc:=k2) rfl ?_
    refine AT 4 h4 fun k3 k4 n1 a0 r0=>?_
    refine Al rfl (AD r0 rfl rfl rfl (AL) (allOne) fun o1 b0 r0=>?_)
    replace r0:Lc 4 o1 n1 k3 52 [(.int .i64 g2.tm),(.int .i64 g2.job)]:=r0
    refine o_z ?_
    refine Ab ?_
    obtain ⟨k1,c0,n0⟩:=bs n0
    refine Au (fun l' w'=>∃ (l3:Unit) (O':Lab),subs l' [(1,(.slice b1 x1.length c1)),(2,(.int .i64 x2)),(3,(.pointer (some ⟨f1,0,none⟩))),(7,(.slice o0.1 q0.1.length o0.2)),(9,(.bool k1.1)),(10,(.int .i64 (z1:Int))),(11,(.int .i64 (a2:Int))),(13,(.slice (some ⟨g1,0,none⟩) [true,false].length 2)),(14,(.int .i64 ([true,false].length:Int))),(15,(.int .i64 (y1:Int))),(21,(.int .i64 (x0.jobs.length:Int))),(22,(.int .i64 (z1:Int))),(25,(.slice b1 x1.length c1)),(26,(.int .i64 (x1.length:Int))),(27,(.int .i64 (a2:Int))),(55,(.bool k1.2))]∧Bs w A w' O'∧Vb w' (Fr 0 w' O') (.slice b1 x1.length c1) x1∧Lc 2 w' O' f1 26 [(.slice s0 x0.vars.length t0),(.slice u0 x0.init.length v0),(.slice w0 x0.goal.length y0),(.slice z0 x0.jobs.length a1)]∧Vb w' (Fr 0 w' O') (.slice s0 x0.vars.length t0) x0.vars∧Vb w' (Fr 0 w' O') (.slice u0 x0.init.length v0) x0.init∧Vb w' (Fr 0 w' O') (.slice w0 x0.goal.length y0) x0.goal∧Vb w' (Fr 0 w' O') (.slice z0 x0.jobs.length a1) x0.jobs∧Rw 5 w' O' 124 (.slice o0.1 q0.1.length o0.2) q0.1∧Rw 3 w' O' 4 (.slice (some ⟨g1,0,none⟩) [true,false].length 2) [true,false]) ?_ ?_
    ·
     refine Aa (AB rfl (Az (hc:=Blk.cell (i:=1) (r0.1) rfl) rfl ?_))
     refine Ak rfl (EZ rfl rfl (fun s1=>?_) fun s1=>?_)
     ·
      replace c0:=ip c0 s1
      refine Ak rfl (An rfl rfl (Ak rfl (An rfl rfl (Ak rfl ?_))))
      rcases Bool.eq_false_or_eq_true q0.2 with l1|l1
      ·
       try simp only [l1]
       replace c0:=ip c0 l1
       refine An rfl rfl ?_
       replace g0:=(g0.st a0).st b0
       refine Bg (hl:=rfl) (hc:=(g0.1).cellsAt) rfl ?_
       refine An rfl rfl (Bg (hl:=rfl) (hc:=(r0.1).cellsAt) rfl ?_)
       refine An rfl rfl ?_
       obtain ⟨m3,n3,c0⟩:=bs c0
       replace h9:=(h9.st a0).st b0
       replace i0:=(i0.st a0).st b0
       replace j0:=(j0.st a0).st b0
       replace f0:=(f0.st a0).st b0
       refine AG (O:=n1) (A:=All o1) (R:=fun w' F v=>Vb w' F v m3) (HS (fun _ h=>h) (Vb.mono (F:=Fr 0 o1 n1) (Vb.ofAgg (cs:=[(.slice s0 x0.vars.length t0),(.slice u0 x0.init.length v0),(.slice w0 x0.goal.length y0),(.slice z0 x0.jobs.length a1)]) (x:=x0) rfl ⟨_,_,_,_,rfl,h9,i0,j0,f0⟩) Fr.lt) (Vb.mono (F:=Fr 0 o1 n1) (Vb.ofAgg (cs:=[(.int .i64 g2.tm),(.int .i64 g2.job)]) (x:=g2) rfl ⟨rfl,i3,j3⟩) Fr.lt) n3) rfl fun l4 m4 n4 d0 o3=>?_
       obtain ⟨rfl,o4⟩:=o3.int
       refine An rfl rfl (Ak rfl (An rfl rfl (EZ rfl rfl (fun t1=>?_) fun t1=>?_)))
       ·
        replace c0:=ip c0 t1
        refine An rfl rfl (BD rfl rfl (An rfl rfl (Ak rfl (Am rfl rfl (Am rfl rfl (Am rfl rfl (Am rfl rfl (Am rfl rfl (Am rfl rfl (Am rfl rfl (Am rfl rfl (An rfl rfl (BD rfl rfl (BD rfl rfl ?_))))))))))))))
        refine o_z ?_
        obtain rfl:=sm c0
        exact ⟨(),_,⟨rfl,rfl,rfl,rfl,rfl,rfl,rfl,rfl,rfl,rfl,rfl,rfl,rfl,rfl,rfl,rfl,trivial⟩,((hB.st a0).st b0).st d0,((e0.st a0).st b0).st d0,g0.st d0,h9.st d0,i0.st d0,j0.st d0,f0.st d0,((k0.st a0).st b0).st d0,((l0.st a0).st b0).st d0⟩
       replace c0:=im c0 t1
       refine An rfl rfl (BD rfl rfl (An rfl rfl (Ak rfl (An rfl rfl (Ak rfl (An rfl rfl (Fc rfl (An rfl rfl (Ak rfl (Am rfl rfl (Am rfl rfl (Am rfl rfl (Am rfl rfl (An rfl rfl ?_))))))))))))))
       refine By rfl rfl (An rfl rfl (By rfl rfl (BD rfl rfl (o_z ?_))))
       obtain rfl:=sm c0
       exact ⟨(),_,⟨rfl,rfl,rfl,rfl,rfl,rfl,rfl,rfl,rfl,rfl,rfl,rfl,rfl,rfl,rfl,rfl,trivial⟩,((hB.st a0).st b0).st d0,((e0.st a0).st b0).st d0,g0.st d0,h9.st d0,i0.st d0,j0.st d0,f0.st d0,((k0.st a0).st b0).st d0,((l0.st a0).st b0).st d0⟩
      try simp only [l1]
      replace c0:=im' c0 l1
      refine Am rfl rfl (Am rfl rfl (Am rfl rfl (Am rfl rfl (Am rfl rfl (An rfl rfl (By rfl rfl (An rfl rfl (Ak rfl (An rfl rfl (Ak rfl (An rfl rfl (Fd rfl (An rfl rfl (Ak rfl ?_))))))))))))))
      refine An rfl rfl (AB rfl (An rfl rfl (Az (hc:=Blk.cell (i:=0) (r0.1) rfl) rfl ?_)))
      refine An rfl rfl (Ak rfl (An rfl rfl (EZ rfl rfl (fun u1=>?_) fun u1=>?_)))
      ·
       replace c0:=ip c0 u1
       refine An rfl rfl (BD rfl rfl (An rfl rfl (By rfl rfl (BD rfl rfl (o_z ?_)))))
       obtain rfl:=sm c0
       exact ⟨(),_,⟨rfl,rfl,rfl,rfl,rfl,rfl,rfl,rfl,rfl,rfl,rfl,rfl,rfl,rfl,rfl,rfl,trivial⟩,(hB.st a0).st b0,(e0.st a0).st b0,(g0.st a0).st b0,(h9.st a0).st b0,(i0.st a0).st b0,(j0.st a0).st b0,(f0.st a0).st b0,(k0.st a0).st b0,(l0.st a0).st b0⟩
      replace c0:=im c0 u1
      refine An rfl rfl (BD rfl rfl (An rfl rfl (By rfl rfl (BD rfl rfl (o_z ?_)))))
      obtain rfl:=sm c0
      exact ⟨(),_,⟨rfl,rfl,rfl,rfl,rfl,rfl,rfl,rfl,rfl,rfl,rfl,rfl,rfl,rfl,rfl,rfl,trivial⟩,(hB.st a0).st b0,(e0.st a0).st b0,(g0.st a0).st b0,(h9.st a0).st b0,(i0.st a0).st b0,(j0.st a0).st b0,(f0.st a0).st b0,(k0.st a0).st b0,(l0.st a0).st b0⟩
     replace c0:=im c0 s1
     refine Ak rfl (Am rfl rfl (Am rfl rfl (Am rfl rfl (Am rfl rfl (Am rfl rfl (Am rfl rfl (Am rfl rfl (Am rfl rfl (Am rfl rfl (Am rfl rfl (Am rfl rfl (Am rfl rfl (Am rfl rfl (Am rfl rfl ?_))))))))))))))
     refine Am rfl rfl (Am rfl rfl (Am rfl rfl (Am rfl rfl (By rfl rfl (o_z ?_)))))
     obtain rfl:=sm c0
     exact ⟨(),_,⟨rfl,rfl,rfl,rfl,rfl,rfl,rfl,rfl,rfl,rfl,rfl,rfl,rfl,rfl,rfl,rfl,trivial⟩,(hB.st a0).st b0,(e0.st a0).st b0,(g0.st a0).st b0,(h9.st a0).st b0,(i0.st a0).st b0,(j0.st a0).st b0,(f0.st a0).st b0,(k0.st a0).st b0,(l0.st a0).st b0⟩
    replace hB:=(hB.st a0).st b0
    replace e0:=(e0.st a0).st b0
    replace h9:=(h9.st a0).st b0
    replace i0:=(i0.st a0).st b0
    replace j0:=(j0.st a0).st b0
    replace f0:=(f0.st a0).st b0
    replace g0:=(g0.st a0).st b0
    replace l0:=(l0.st a0).st b0
    replace k0:=(k0.st a0).st b0
    rintro p4 q4 ⟨l3,r4,l2,hB,e0,g0,h9,i0,j0,f0,k0,l0⟩
    refine AE _ l2 ?_
    refine Cw rfl (fun v1=>?_) (fun v1=>?_)
    ·
     replace n0:=ip n0 v1
     refine Aa (Ak rfl (Ak rfl (Ak rfl (Eh rfl rfl ?_))))
     obtain ⟨s4,w1,n0⟩:=bs n0
     obtain ⟨w1,p3,q3⟩:=AO w1
     refine Co rfl (a:=(⟨(a2:Int),k1.1⟩:Hp5)) k0 (Vb.ofAgg (cs:=[(.int .i64 (a2:Int)),(.bool k1.1)]) (x:=(⟨(a2:Int),k1.1⟩:Hp5)) rfl ⟨rfl,rk89⟩) (fun _=>rfl) rfl p3 q3 ⟨rfl,rfl⟩ fun t4 r3 s3 u4 v4 p0 m2=>?_
     rw [← w1] at m2 ⊢
     refine Al rfl (o_z ?_)
     obtain rfl:=sm n0
     exact show Exists _ from ⟨_,(r3,s3),rfl,⟨rfl,rfl,rfl,rfl,rfl,rfl,rfl,rfl,rfl,rfl,rfl,rfl,rfl,rfl,trivial⟩,_,hB.st p0,e0.st p0,g0.st p0,h9.st p0,i0.st p0,j0.st p0,f0.st p0,m2,l0.st p0⟩
    replace n0:=im' n0 v1
    refine AK ?_
    obtain rfl:=sm n0
    exact show Exists _ from ⟨_,(o0.1,o0.2),rfl,⟨rfl,rfl,rfl,rfl,rfl,rfl,rfl,rfl,rfl,rfl,rfl,rfl,rfl,rfl,trivial⟩,_,hB,e0,g0,h9,i0,j0,f0,k0,l0⟩
   rintro w4 x4 ⟨y4,n2,rfl,h0,z4,hB,e0,g0,h9,i0,j0,f0,k0,l0⟩
   replace j1:=AP j1
   obtain rfl:=sm j1
   exact show Exists _ from ⟨_,(n2.1,n2.2),rfl,⟨(AS h0 _ _ rfl),(AS h0 _ _ rfl),(AS h0 _ _ rfl),(AS h0 _ _ rfl),(AS h0 _ _ rfl),(AS h0 _ _ rfl),(AS h0 _ _ rfl),(AS h0 _ _ rfl),(AS h0 _ _ rfl),(AS h0 _ _ rfl),trivial⟩,_,hB,e0,g0,h9,i0,j0,f0,k0,l0⟩
  rintro a5 b5 ⟨c5,o2,rfl,m0,d5,hB,e0,g0,h9,i0,j0,f0,e2,l0⟩
  replace h1:=AP h1
  obtain rfl:=sm h1
  exact show Exists _ from ⟨_,(o2.1,o2.2),rfl,⟨(AS m0 _ _ rfl),(AS m0 _ _ rfl),(AS m0 _ _ rfl),(AS m0 _ _ rfl),(AS m0 _ _ rfl),(AS m0 _ _ rfl),(AS m0 _ _ rfl),trivial⟩,_,hB,e0,g0,h9,i0,j0,f0,e2,l0⟩
 replace hB:=(hB.st q1).st p1
 rintro e5 t3 ⟨f5,g5,rfl,p2,h5,hB,r1⟩
 replace hm:=AP hm
 refine AE _ p2 ?_
 refine Ab (Aa (Ak rfl (Al rfl (o_z ?_))))
 refine AC ?_
 obtain ⟨u3,v3,r1⟩:=r1.freeze
 obtain rfl:=sm hm
 replace hB:=hB.st v3
 exact ret1v rfl (At rfl) ⟨hB.ext,(Vb.mono (F:=Fr 0 t3 u3) r1 hB.out)⟩
end
section
open Go Go.RowKit
theorem PR {α ρ:Type} {f:Nat→α→Unit→Option (Ctl Unit ρ)} (P:Nat→α→Prop) (c:ρ):∀ (xs:List α) (k0:Nat),(∀ k a,xs[k]?=some a→(P (k0 + k) a∧f (k0 + k) a ()=some (.ret c))∨(¬ P (k0 + k) a∧f (k0 + k) a ()=some (.next ()))) →
    ((∃ k a,xs[k]?=some a∧P (k0 + k) a)∧rng f xs k0 ()=some (.ret c))∨((∀ k a,xs[k]?=some a→¬ P (k0 + k) a)∧rng f xs k0 ()=some (.done ()))
  | [],k0,_=>.inr ⟨fun k a h=>by simp at h,rfl⟩
  | x :: xs,k0,h=>by
    rcases h 0 x rfl with ⟨h1,h2⟩|⟨h1,h2⟩
    · exact .inl ⟨⟨0,x,rfl,h1⟩,by rw [Nat.add_zero] at h2;rw [rng,h2]⟩
    · rw [Nat.add_zero] at h2
      have ih:=PR P c xs (k0 + 1) fun k a hk=>by
        have:=h (k + 1) a (by simpa using hk)
        rwa [show k0 + (k + 1)=k0 + 1 + k from by omega] at this
      rcases ih with ⟨⟨k,a,g1,g2⟩,g3⟩|⟨g1,g2⟩
      · exact .inl ⟨⟨k + 1,a,by simpa using g1,by rwa [show k0 + (k + 1)=k0 + 1 + k from by omega]⟩,by rw [rng,h2];exact g3⟩
      · refine .inr ⟨fun k a hk=>?_,by rw [rng,h2];exact g2⟩
        cases k with
        | zero=>simp at hk;subst hk;exact h1
        | succ k=>rw [show k0 + (k + 1)=k0 + 1 + k from by omega];exact g1 k a (by simpa using hk)
theorem Gw {α ρ:Type} {f:Nat→α→Unit→Option (Ctl Unit ρ)} (P:Nat→α→Prop) (c:ρ) {xs:List α} (h:∀ k a,xs[k]?=some a→(P k a∧f k a ()=some (.ret c))∨(¬ P k a∧f k a ()=some (.next ()))) :
    ((∃ k a,xs[k]?=some a∧P k a)∧rng f xs 0 ()=some (.ret c))∨((∀ k a,xs[k]?=some a→¬ P k a)∧rng f xs 0 ()=some (.done ())):=by
  have:=PR (f:=f) P c xs 0 fun k a hk=>by rw [Nat.zero_add];exact h k a hk
  simpa only [Nat.zero_add] using this
def meetB (a b:List Fct):Bool:=a.any fun x=>b.any fun y=>decide (x.var=y.var)
theorem La {a b:List Fct}:meetB a b=true↔∃ v,hasV a v=true∧hasV b v=true:=by
  unfold meetB
  rw [List.any_eq_true]
  constructor
  · rintro ⟨x,hx,h⟩
    rw [List.any_eq_true] at h
    obtain ⟨y,hy,e⟩:=h
    exact ⟨x.var,Gu.2 ⟨x,hx,rfl⟩,Gu.2 ⟨y,hy,(of_decide_eq_true e).symm⟩⟩
  · rintro ⟨v,h1,h2⟩
    obtain ⟨x,hx,rfl⟩:=Gu.1 h1
    obtain ⟨y,hy,e⟩:=Gu.1 h2
    exact ⟨x,hx,List.any_eq_true.2 ⟨y,hy,decide_eq_true e.symm⟩⟩
theorem PS (b:Bool):(if b=true then some true else some false:Option Bool)=some b:=by cases b<;>rfl
theorem TZ (a b:List Fct):Db a b=some (meetB a b):=by
  unfold Db Bf Bn
  have inner:∀ x:Fct,Dk x b=some (b.any fun y=>decide (x.var=y.var)):=fun x=>by
    unfold Dk Bc Be
    rw [Gs (fun y:Fct=>decide (x.var=y.var)) fun k y hk=>by
      unfold De
      by_cases h:x.var=y.var<;>simp [h,Ae]]
    rw [Ae,PS,Ae]
  rw [Gs (fun x:Fct=>b.any fun y=>decide (x.var=y.var)) fun k x hk=>by
    rw [inner,Ae]]
  rw [Ae,PS,Ae]
  rfl
def hO (h:Hap):Hh:=(h.job.toNat,h.fin)
section
variable {t : Tpl} {l : List Lch}
theorem Lb {j:Int} (h0:0≤j) (h1:j < t.jobs.length):atI t.jobs j=some (jb t j.toNat):=by
  unfold atI
  rw [if_pos h0,Ro (by omega)]
theorem Ld {h:Hap} (h0:0≤h.job) (h1:h.job < t.jobs.length):BZ t h=some (hW t (hO h)):=by
  unfold BZ hW hO
  rw [Lb h0 h1,Ae,Ae]
  cases h.fin<;>rfl
theorem Ml {h:Hap} (h0:0≤h.job) (h1:h.job < t.jobs.length):CH t h=some (hR t (hO h)):=by
  unfold CH hR hO
  rw [Lb h0 h1,Ae,Ae]
  cases h.fin<;>rfl
theorem Ry {a b:Hap} (a0:0≤a.job) (a1:a.job < t.jobs.length) (b0:0≤b.job) (b1:b.job < t.jobs.length):∃ x,BV t a b=some x∧(x=true↔IntF t (hO a) (hO b)):=by
  refine ⟨meetB (hW t (hO a)) (hW t (hO b)) || (meetB (hW t (hO a)) (hR t (hO b)) || meetB (hR t (hO a)) (hW t (hO b))),?_,?_⟩
  · unfold BV
    simp only [Ld a0 a1,Ld b0 b1,Ml a0 a1,Ml b0 b1,TZ,Ae]
    cases meetB (hW t (hO a)) (hW t (hO b))<;>cases meetB (hW t (hO a)) (hR t (hO b))<;>cases meetB (hR t (hO a)) (hW t (hO b))<;>rfl
  · rw [Bool.or_eq_true,Bool.or_eq_true,La,La,La]
    unfold IntF
    constructor
    · rintro (⟨v,h1,h2⟩|⟨v,h1,h2⟩|⟨v,h1,h2⟩)
      · exact ⟨v,.inl ⟨h1,.inl h2⟩⟩
      · exact ⟨v,.inl ⟨h1,.inr h2⟩⟩
      · exact ⟨v,.inr ⟨h1,h2⟩⟩
    · rintro ⟨v,⟨h1,h2|h2⟩|⟨h1,h2⟩⟩
      · exact .inl ⟨v,h1,h2⟩
      · exact .inr (.inl ⟨v,h1,h2⟩)
      · exact .inr (.inr ⟨v,h1,h2⟩)
def LIn (t:Tpl) (l:List Lch):Prop:=∀ x∈l,(0≤x.tm∧0≤x.job∧x.job < t.jobs.length)∧x.tm≤1048576
theorem LIn.rng (h:LIn t l):LRng t l:=fun x hx=>(h x hx).1
theorem JG (ht:TplOk t) {x:Lch} (h:(0≤x.tm∧0≤x.job∧x.job < t.jobs.length)∧x.tm≤1048576):Cu t x=some (en t x):=by
  have hd:=ht.dur x.job.toNat
  unfold Cu
  rw [Lb h.1.2.1 h.1.2.2,Ae,Ba (by unfold inI64;omega),Ae]
  rfl
theorem Rz (hj:t.jobs.length≤30) (l:List Lch):∃ e,CU t l=some ⟨e⟩∧(e=0↔tck t=0∧l.length≤4096∧LIn t l):=by
  unfold CU
  rw [HZ hj,Ae]
  by_cases h1:tck t=0
  · rw [h1,if_neg (by simp)]
    by_cases h2:4096 < (l.length:Int)
    · rw [if_pos h2]
      exact ⟨5,rfl,⟨fun h=>(by cases h),fun h=>(by omega)⟩⟩
    · rw [if_neg h2]
      have hl:=Gw (ρ:=Err) (f:=fun (k45:Nat) (a46:Lch) (s43:Unit)=>bnd (if a46.job < 0 then (some true) else (if (t.jobs.length:Int)≤a46.job then (some true) else (if a46.tm < 0 then (some true) else (if 1048576 < a46.tm then (some true) else (some false)))):Option Bool) fun y72=>if y72=true then (some (.ret (⟨1⟩:Err))) else (some (.next ()))) (xs:=l) (fun _ a=>¬ ((0≤a.tm∧0≤a.job∧a.job < t.jobs.length)∧a.tm≤1048576)) ⟨1⟩ fun k a hk=>by
        by_cases g1:a.job < 0
        · exact .inl ⟨by omega,by rw [if_pos g1];rfl⟩
        by_cases g2:(t.jobs.length:Int)≤a.job
        · exact .inl ⟨by omega,by rw [if_neg g1,if_pos g2];rfl⟩
        by_cases g3:a.tm < 0
        · exact .inl ⟨by omega,by rw [if_neg g1,if_neg g2,if_pos g3];rfl⟩
        by_cases g4:1048576 < a.tm
        · exact .inl ⟨by omega,by rw [if_neg g1,if_neg g2,if_neg g3,if_pos g4];rfl⟩
        · exact .inr ⟨by omega,by rw [if_neg g1,if_neg g2,if_neg g3,if_neg g4];rfl⟩
      rcases hl with ⟨⟨k,a,h3,h4⟩,h5⟩|⟨h3,h4⟩
      · rw [h5,Ae]
        exact ⟨1,rfl,⟨fun h=>(by cases h),fun h=>absurd (h.2.2 a (List.mem_of_getElem? h3)) h4⟩⟩
      · rw [h4,Ae]
        refine ⟨0,rfl,⟨fun _=>⟨rfl,by omega,fun x hx=>?_⟩,fun _=>rfl⟩⟩
        obtain ⟨k,hk⟩:=List.getElem?_of_mem hx
        exact Classical.byContradiction fun hn=>h3 k x hk hn
  · rw [if_pos h1]
    exact ⟨tck t,rfl,⟨fun h=>absurd h h1,fun h=>absurd h.1 h1⟩⟩
def hapI1 (t:Tpl) (τ:Int) (x:Lch):List Hap:=(if x.tm=τ then [⟨x.job,false⟩] else []) ++ (if en t x=τ then [⟨x.job,true⟩] else [])
def hapI (t:Tpl) (l:List Lch) (τ:Int):List Hap:=l.flatMap (hapI1 t τ)
theorem SD (τ:Nat):(hapI t l (τ:Int)).map hO=hapA t l τ:=by
  unfold hapI hapA
  rw [List.map_flatMap]
  refine congrArg (fun f=>List.flatMap f l) (funext fun x=>?_)
  unfold hapI1 hap1
  rw [List.map_append]
  congr 1<;>split<;>rfl
theorem SE (h:LIn t l) {τ:Int}:∀ x∈hapI t l τ,0≤x.job∧x.job < t.jobs.length:=fun x hx=>by
  unfold hapI at hx
  obtain ⟨y,hy,hx⟩:=List.mem_flatMap.1 hx
  have:=(h y hy).1
  unfold hapI1 at hx
  rcases List.mem_append.1 hx with hx|hx
  · split at hx
    · have:x=⟨y.job,false⟩:=by simpa using hx
      subst this;exact ⟨this.2.1,this.2.2⟩
    · cases hx
  · split at hx
    · have:x=⟨y.job,true⟩:=by simpa using hx
      subst this;exact ⟨this.2.1,this.2.2⟩
    · cases hx
theorem Je {V:Type} (z:V) (k:Int) (v:V) (k':Int):∀ l:List (Int×V),mget z (mput l k v) k'=if k=k' then v else mget z l k'
  | []=>rfl
  | p :: r=>by
    have ih:=Je z k v k' r
    unfold mput
    by_cases h:p.1=k
    · rw [if_pos h]
      show (if k=k' then v else mget z r k')=_
      by_cases h2:k=k'
      · rw [if_pos h2,if_pos h2]
      · rw [if_neg h2,if_neg h2]
        show _=if p.1=k' then p.2 else mget z r k'
        rw [if_neg (by rw [h];exact h2)]
    · rw [if_neg h]
      show (if p.1=k' then p.2 else mget z (mput r k v) k')=_
      rw [ih]
      show _=if k=k' then v else if p.1=k' then p.2 else mget z r k'
      by_cases h2:k=k'
      · subst h2;rw [if_neg h,if_pos rfl,if_pos rfl]
      · rw [if_neg h2,if_neg h2]
theorem Ki {V:Type} {k k':Int} {v:V}:∀ {l:List (Int×V)},k'∈(mput l k v).map (·.1)↔k'=k∨k'∈l.map (·.1)
  | []=>by simp [mput]
  | p :: r=>by
    have ih:=Ki (k:=k) (k':=k') (v:=v) (l:=r)
    unfold mput
    by_cases h:p.1=k
    · rw [if_pos h];simp [h]
    · rw [if_neg h,List.map_cons,List.mem_cons,ih,List.map_cons,List.mem_cons]
      constructor
      · rintro (a|a|a)
        · exact .inr (.inl a)
        · exact .inl a
        · exact .inr (.inr a)
      · rintro (a|a|a)
        · exact .inr (.inl a)
        · exact .inl a
        · exact .inr (.inr a)
theorem Kj {V:Type} {k:Int} {v:V}:∀ {l:List (Int×V)},(l.map (·.1)).Nodup→((mput l k v).map (·.1)).Nodup
  | [],_=>by simp [mput]
  | p :: r,h=>by
    rw [List.map_cons,List.nodup_cons] at h
    unfold mput
    by_cases hk:p.1=k
    · rw [if_pos hk,List.map_cons,List.nodup_cons]
      exact ⟨by rw [← hk];exact h.1,h.2⟩
    · rw [if_neg hk,List.map_cons,List.nodup_cons,Ki]
      exact ⟨fun hh=>hh.elim hk h.1,Kj h.2⟩
theorem Mm {V:Type} {k:Int} {v:V}:∀ {l:List (Int×V)},(mput l k v).length≤l.length + 1
  | []=>by simp [mput]
  | p :: r=>by
    have:=Mm (k:=k) (v:=v) (l:=r)
    unfold mput
    split<;>simp;omega
theorem Pa (t:Tpl) (τ:Int):∀ l:List Lch,(hapI t l τ).length≤2 * l.length
  | []=>by simp [hapI]
  | x :: l=>by
    have:=Pa t τ l
    unfold hapI at *
    rw [List.flatMap_cons,List.length_append]
    have:(hapI1 t τ x).length≤2:=by unfold hapI1;split<;>split<;>simp
    simp only [List.length_cons];omega
theorem RB (t:Tpl) (l:List Lch) (x:Lch) (τ:Int):hapI t (l ++ [x]) τ=hapI t l τ ++ hapI1 t τ x:=by
  unfold hapI;rw [List.flatMap_append];simp
theorem Ua (ht:TplOk t) (hl:LIn t l) (hn:l.length≤4096):∃ M ks,Ce t l=some (M,ks)∧(∀ τ,mget [] M.l τ=hapI t l τ)∧(∀ τ,τ∈ks↔∃ x∈l,x.tm=τ∨en t x=τ)∧ks.Pairwise fun a b=>a < b:=by
  have h : ∃ r,Ce t l=some r∧((∀ τ,mget [] r.1.l τ=hapI t l τ)∧(∀ τ,τ∈r.2↔∃ x∈l,x.tm=τ∨en t x=τ)∧r.2.Pairwise fun a b=>a < b):=by
   unfold Ce
   refine UO (I:=fun k (s:MapR 182 Int Hap)=>(∀ τ,mget [] s.l τ=hapI t (l.take k) τ)∧(∀ τ,τ∈mkeys s↔∃ x∈l.take k,x.tm=τ∨en t x=τ)∧(mkeys s).Nodup∧s.l.length≤2 * k) (R:=fun _=>False) ?_ ?_ ?_ (fun q h=>h.elim)
   · exact ⟨fun τ=>rfl,fun τ=>by simp [mkeys],by simp [mkeys],by simp⟩
   · rintro i x s hx ⟨h1,h2,h3,h4⟩
     have hxl:=hl x (List.mem_of_getElem? hx)
     have hd:=ht.dur x.job.toNat
     have hi:=Bl hx
     have hlen:∀ τ,(hapI t (l.take i) τ).length≤10000:=fun τ=>by
       have:=Pa t τ (l.take i)
       rw [List.length_take] at this;omega
     refine .inl ⟨(⟨mput (mput s.l x.tm (hapI t (l.take i) x.tm ++ [(⟨x.job,false⟩:Hap)])) (en t x) (hapI t (l.take i) (en t x) ++ [(⟨x.job,true⟩:Hap)])⟩:MapR 182 Int Hap),?_,?_,?_,?_,?_⟩
     · rw [h1,Bb (by have:=hlen x.tm;simp;omega) (by have:=hlen x.tm;simp;omega),Ae,JG ht hxl,Ae]
       rw [Je,if_neg (by unfold en;omega),h1,Bb (by have:=hlen (en t x);simp;omega) (by have:=hlen (en t x);simp;omega),Ae]
     · intro τ
       dsimp only
       rw [Je,Je,List.take_add_one,hx,h1]
       show _=hapI t (l.take i ++ [x]) τ
       rw [RB]
       unfold hapI1
       have he:en t x=x.tm + (jb t x.job.toNat).dur:=rfl
       by_cases g1:en t x=τ
       · rw [if_pos g1,if_pos g1,if_neg (by omega),g1];rfl
       · rw [if_neg g1,if_neg g1]
         by_cases g2:x.tm=τ
         · rw [if_pos g2,if_pos g2,g2];rfl
         · rw [if_neg g2,if_neg g2];simp
     · intro τ
       unfold mkeys
       dsimp only
       rw [Ki,Ki,List.take_add_one,hx]
       have:=h2 τ
       unfold mkeys at this
       rw [this]
       constructor
       · rintro (a|a|⟨y,hy,a⟩)
         · exact ⟨x,by simp,.inr a.symm⟩
         · exact ⟨x,by simp,.inl a.symm⟩
         · exact ⟨y,List.mem_append_left _ hy,a⟩
       · rintro ⟨y,hy,a⟩
         rcases List.mem_append.1 hy with hy|hy
         · exact .inr (.inr ⟨y,hy,a⟩)
         · have:y=x:=by simpa using hy
           subst this
           rcases a with a|a
           · exact .inr (.inl a.symm)
           · exact .inl a.symm
     · unfold mkeys at *
       exact Kj (Kj h3)
     · dsimp only
       have a1:=Mm (k:=en t x) (v:=hapI t (l.take i) (en t x) ++ [(⟨x.job,true⟩:Hap)]) (l:=mput s.l x.tm (hapI t (l.take i) x.tm ++ [(⟨x.job,false⟩:Hap)]))
       have a2:=Mm (k:=x.tm) (v:=hapI t (l.take i) x.tm ++ [(⟨x.job,false⟩:Hap)]) (l:=s.l)
       omega
   · rintro s ⟨h1,h2,h3,h4⟩
     rw [List.take_length] at h1 h2
     have hk:keysI s=some (mkeys s):=if_pos ⟨fun a ha=>by
       obtain ⟨x,hx,e⟩:=(h2 a).1 ha
       have:=hl x hx
       have hd:=ht.dur x.job.toNat
       have he:en t x=x.tm + (jb t x.job.toNat).dur:=rfl
       unfold inI64
       rcases e with e|e<;>omega,by unfold mkeys;rw [List.length_map];omega⟩
     rw [BH,hk,Ae]
     unfold BT
     rw [if_pos (by unfold mkeys;rw [List.length_map];omega),Ae]
     refine ⟨_,rfl,h1,fun τ=>?_,?_⟩
     · rw [← h2];exact (Ht _).mem_iff
     · have hs:=Hs (mkeys s)
       have hd:(sortL (mkeys s)).Nodup:=(Ht _).nodup_iff.2 h3
       refine List.Pairwise.imp₂ (fun a b h1 h2=>?_) hs hd
       have:a≠b:=h2
       omega
  obtain ⟨⟨M,ks⟩,h1,h2⟩:=h
  exact ⟨M,ks,h1,h2⟩
end
end
section
open Go Go.RowKit
section
variable {t : Tpl} {l : List Lch}
def OvC (t:Tpl) (l:List Lch) (τ:Int):Prop:=∀ (i k:Nat) a b,l[i]?=some a→l[k]?=some b→i≠k→a.tm=τ→a.job=b.job→b.tm≤τ→τ≤en t b→False
theorem SF (ht:TplOk t) (hl:LIn t l) (τ:Int):∃ b,CW t l τ=some b∧(b=true↔¬ OvC t l τ):=by
  unfold CW
  have inner:∀ (k:Nat) (a:Lch),l[k]?=some a→((∃ (j:Nat) (b:Lch),l[j]?=some b∧(k≠j∧a.job=b.job∧b.tm≤τ∧τ≤en t b))∧rng (ρ:=Ctl Unit Bool) (fun (k68:Nat) (a69:Lch) (s66:Unit)=>bnd (if (k:Int)≠(k68:Int) then (if a.job=a69.job then (if a69.tm≤τ then (bnd (Cu t a69) fun q102=>if τ≤q102 then (some true) else (some false)) else (some false)) else (some false)) else (some false):Option Bool) fun y95=>if y95=true then (some (.ret (.ret true))) else (some (.next ()))) l 0 ()=some (.ret (.ret true)))∨((∀ (j:Nat) (b:Lch),l[j]?=some b→¬ (k≠j∧a.job=b.job∧b.tm≤τ∧τ≤en t b))∧rng (ρ:=Ctl Unit Bool) (fun (k68:Nat) (a69:Lch) (s66:Unit)=>bnd (if (k:Int)≠(k68:Int) then (if a.job=a69.job then (if a69.tm≤τ then (bnd (Cu t a69) fun q102=>if τ≤q102 then (some true) else (some false)) else (some false)) else (some false)) else (some false):Option Bool) fun y95=>if y95=true then (some (.ret (.ret true))) else (some (.next ()))) l 0 ()=some (.done ())):=fun k a _ =>
    Gw (P:=fun j b=>k≠j∧a.job=b.job∧b.tm≤τ∧τ≤en t b) (c:=Ctl.ret true) fun j b hj=>by
      rw [JG ht (hl b (List.mem_of_getElem? hj)),Ae]
      by_cases g1:k=j
      · exact .inr ⟨fun h=>h.1 g1,by rw [if_neg (by omega)];rfl⟩
      by_cases g2:a.job=b.job
      · by_cases g3:b.tm≤τ
        · by_cases g4:τ≤en t b
          · exact .inl ⟨⟨g1,g2,g3,g4⟩,by rw [if_pos (by omega),if_pos g2,if_pos g3,if_pos g4];rfl⟩
          · exact .inr ⟨fun h=>g4 h.2.2.2,by rw [if_pos (by omega),if_pos g2,if_pos g3,if_neg g4];rfl⟩
        · exact .inr ⟨fun h=>g3 h.2.2.1,by rw [if_pos (by omega),if_pos g2,if_neg g3];rfl⟩
      · exact .inr ⟨fun h=>g2 h.2.1,by rw [if_pos (by omega),if_neg g2];rfl⟩
  have outer:=Gw (ρ:=Bool) (xs:=l) (f:=fun (k34:Nat) (a35:Lch) (s32:Unit)=>if a35.tm≠τ then (some (.next ())) else (bnd (rng (ρ:=Ctl Unit Bool) (fun (k68:Nat) (a69:Lch) (s66:Unit)=>bnd (if (k34:Int)≠(k68:Int) then (if a35.job=a69.job then (if a69.tm≤τ then (bnd (Cu t a69) fun q102=>if τ≤q102 then (some true) else (some false)) else (some false)) else (some false)) else (some false):Option Bool) fun y95=>if y95=true then (some (.ret (.ret true))) else (some (.next ()))) l 0 ()) fun res64=>fin res64 fun (s120:Unit)=>some (.next ())))
    (P:=fun k a=>a.tm=τ∧∃ (j:Nat) (b:Lch),l[j]?=some b∧(k≠j∧a.job=b.job∧b.tm≤τ∧τ≤en t b)) (c:=true) fun k a hk=>by
      by_cases g:a.tm=τ
      · rcases inner k a hk with ⟨h1,h2⟩|⟨h1,h2⟩
        · exact .inl ⟨⟨g,h1⟩,by rw [if_neg (by omega),h2];rfl⟩
        · exact .inr ⟨fun ⟨_,j,b,h3,h4⟩=>h1 j b h3 h4,by rw [if_neg (by omega),h2];rfl⟩
      · exact .inr ⟨fun h=>g h.1,by rw [if_pos g]⟩
  rcases outer with ⟨⟨k,a,h1,h2,j,b,h3,h4⟩,h5⟩|⟨h1,h2⟩
  · rw [h5]
    exact ⟨true,rfl,⟨fun _ hn=>hn k j a b h1 h3 h4.1 h2 h4.2.1 h4.2.2.1 h4.2.2.2,fun _=>rfl⟩⟩
  · rw [h2]
    refine ⟨false,rfl,⟨fun h=>(by cases h),fun hn=>absurd ?_ hn⟩⟩
    intro i k a b ha hb hik g1 g2 g3 g4
    exact h1 i a ha ⟨g1,k,b,hb,hik,g2,g3,g4⟩
theorem PT {ρ:Type} (ht:TplOk t) (h:Hh):∀ (w:List Fct) (s:List Int) (j:Nat),(∀ f∈w,FactOk t.vars f)→s.length=t.vars.length →
    rng (ρ:=ρ) (fun (_:Nat) (a160:Fct) (s157:(List Int))=>bnd (atI s157 a160.var) fun a190=>some (.next (s157.set (a160.var:Int).toNat a160.val))) w j s=some (.done (wrL s w))
  | [],s,j,_,_=>rfl
  | f :: w,s,j,hf,hs=>by
    have h1:=Fz (hf f List.mem_cons_self)
    obtain ⟨x,hx⟩:=BB (l:=s) (k:=f.var.toNat) (by omega)
    rw [rng,show atI s f.var=some x from by unfold atI;rw [if_pos h1.1];exact hx]
    exact PT ht h w _ _ (fun g hg=>hf g (List.mem_cons_of_mem _ hg)) (by rw [List.length_set];exact hs)
theorem NU {ρ:Type} (ht:TplOk t) (i:Nat) (e:Bool):∀ (H:List Hap) (s:List Int) (j:Nat),(∀ h∈H,0≤h.job∧h.job < t.jobs.length)→s.length=t.vars.length →
    rng (ρ:=Ctl ((List Int)×Bool) ρ) (fun (k101:Nat) (a102:Hap) (s99:(List Int)×Bool)=>bnd (if a102.job≠(i:Int) then (some (s99.2,true,a102.fin)) else (if a102.fin=true then (if s99.2=true then (some (true,false,true)) else (some (false,true,true))) else (if s99.2=true then (some (true,true,false)) else (some (false,false,false)))):Option (Bool×Bool×Bool)) fun y131=>if y131.2.1=true then (some (.next (s99.1,y131.1))) else (bnd (BZ t (⟨a102.job,y131.2.2⟩:Hap)) fun q144=>bnd (rng (ρ:=Ctl ((List Int)×Bool) (Ctl ((List Int)×Bool) ρ)) (fun (k159:Nat) (a160:Fct) (s157:(List Int))=>bnd (atI s157 a160.var) fun a190=>some (.next (s157.set (a160.var:Int).toNat a160.val))) q144 0 s99.1) fun res155=>fin res155 fun (s208:(List Int))=>some (.next (s208,y131.1)))) H j (s,e)=some (.done (afH t s ((H.map hO).filter fun h=>decide (h=(i,e))),e))
  | [],s,j,_,_=>rfl
  | h :: H,s,j,hj,hs=>by
    obtain ⟨h0,h1⟩:=hj h List.mem_cons_self
    have ih:=fun s j hs=>NU (ρ:=ρ) ht i e H s j (fun g hg=>hj g (List.mem_cons_of_mem _ hg)) hs
    rw [rng,List.map_cons,List.filter_cons]
    by_cases g1:h.job=(i:Int)
    · by_cases g2:h.fin=e
      · have eh:hO h=(i,e):=by unfold hO;rw [g1,g2];rfl
        have ehh:(⟨h.job,e⟩:Hap)=h:=by rw [← g2]
        rw [if_neg (show ¬ h.job≠(i:Int) by omega),if_pos (decide_eq_true eh)]
        have key:(if h.fin=true then (if e=true then (some (true,false,true)) else (some (false,true,true))) else (if e=true then (some (true,true,false)) else (some (false,false,false))):Option (Bool×Bool×Bool))=some (e,false,e):=by rw [g2];cases e<;>rfl
        dsimp only
        rw [key,Ae]
        dsimp only
        rw [if_neg (by simp),ehh,Ld h0 h1,Ae,PT ht (hO h) _ _ _ (fun f hf=>(factsPw.1 (ht.hW (hO h))).1 f hf) hs]
        show rng _ H (j + 1) (wrL s (hW t (hO h)),e)=_
        rw [ih _ _ (by rw [Nr];exact hs)]
        rfl
      · have eh:hO h≠(i,e):=by unfold hO;intro hh;injection hh with _ hh;exact g2 hh
        rw [if_neg (show ¬ h.job≠(i:Int) by omega),if_neg (fun hh:decide (hO h=(i,e))=true=>eh (of_decide_eq_true hh))]
        have key:(if h.fin=true then (if e=true then (some (true,false,true)) else (some (false,true,true))) else (if e=true then (some (true,true,false)) else (some (false,false,false))):Option (Bool×Bool×Bool))=some (e,true,h.fin):=by cases hf:h.fin<;>cases e<;>simp_all
        dsimp only
        rw [key,Ae]
        dsimp only
        rw [if_pos rfl]
        exact ih s (j + 1) hs
    · have eh:hO h≠(i,e):=by unfold hO;intro hh;injection hh with hh _;omega
      rw [if_pos g1,if_neg (fun hh:decide (hO h=(i,e))=true=>eh (of_decide_eq_true hh)),Ae]
      dsimp only
      rw [if_pos rfl]
      exact ih s (j + 1) hs
theorem Pb {ρ:Type} (ht:TplOk t) (H:List Hap) (hj:∀ h∈H,0≤h.job∧h.job < t.jobs.length) (e:Bool) (s:List Int) (hs:s.length=t.vars.length) :
    rng (ρ:=ρ) (fun (k80:Nat) (a81:Job) (s78:(List Int)×Bool)=>bnd (rng (ρ:=Ctl ((List Int)×Bool) ρ) (fun (k101:Nat) (a102:Hap) (s99:(List Int)×Bool)=>bnd (if a102.job≠(k80:Int) then (some (s99.2,true,a102.fin)) else (if a102.fin=true then (if s99.2=true then (some (true,false,true)) else (some (false,true,true))) else (if s99.2=true then (some (true,true,false)) else (some (false,false,false)))):Option (Bool×Bool×Bool)) fun y131=>if y131.2.1=true then (some (.next (s99.1,y131.1))) else (bnd (BZ t (⟨a102.job,y131.2.2⟩:Hap)) fun q144=>bnd (rng (ρ:=Ctl ((List Int)×Bool) (Ctl ((List Int)×Bool) ρ)) (fun (k159:Nat) (a160:Fct) (s157:(List Int))=>bnd (atI s157 a160.var) fun a190=>some (.next (s157.set (a160.var:Int).toNat a160.val))) q144 0 s99.1) fun res155=>fin res155 fun (s208:(List Int))=>some (.next (s208,y131.1)))) H 0 (s78.1,s78.2)) fun res97=>fin res97 fun (s214:(List Int)×Bool)=>some (.next (s214.1,s214.2))) t.jobs 0 (s,e)=some (.done (afH t s ((List.range t.jobs.length).flatMap fun i=>(H.map hO).filter fun h=>decide (h=(i,e))),e)):=by
  exact CF (fun k=>(afH t s ((List.range k).flatMap fun i=>(H.map hO).filter fun h=>decide (h=(i,e))),e)) rfl fun k x hk=>by
    rw [NU ht k e H _ 0 hj (by rw [Ho];exact hs),Ae,BH]
    rw [List.range_succ,List.flatMap_append,Ns]
    simp
theorem SG (ht:TplOk t) {H:List Hap} (hj:∀ h∈H,0≤h.job∧h.job < t.jobs.length) {s:List Int} (hs:s.length=t.vars.length):DB t s H=some (afH t s (cano t.jobs.length (H.map hO))):=by
  have hn:=ht.nv
  unfold DB
  rw [show Bw s=some s from if_pos ⟨by omega,by omega⟩,Ae]
  simp only [rng]
  rw [Pb ht H hj true s hs,Ae,BH]
  dsimp only
  rw [Pb ht H hj false _ (by rw [Ho];exact hs),Ae,BH,Ae,BH]
  unfold cano
  rw [List.flatMap_cons,List.flatMap_cons,List.flatMap_nil,List.append_nil,Ns]
theorem UR {α:Type} {R:α→α→Prop} {H:List α} (sym:∀ {x y},R x y→R y x):H.Pairwise R↔∀ (i:Nat) a,H[i]?=some a→∀ (k:Nat) b,k < i→H[k]?=some b→R a b:=by
  rw [List.pairwise_iff_getElem]
  constructor
  · intro h i a ha k b hk hb
    obtain ⟨h1,rfl⟩:=List.getElem?_eq_some_iff.1 ha
    obtain ⟨h2,rfl⟩:=List.getElem?_eq_some_iff.1 hb
    exact sym (h k i h2 h1 hk)
  · intro h i j hi hj hij
    exact sym (h j _ (List.getElem?_eq_getElem hj) i _ hij (List.getElem?_eq_getElem hi))
theorem RC (ht:TplOk t) {H:List Hap} (hj:∀ h∈H,0≤h.job∧h.job < t.jobs.length) :
    ((¬ (H.map hO).Pairwise fun a b=>¬ IntF t a b)∧rng (ρ:=(List Int)×Err) (fun (k47:Nat) (a48:Hap) (s45:Unit)=>bnd (rngN (ρ:=Ctl Unit ((List Int)×Err)) (fun (k62:Nat) (s60:Unit)=>bnd (H[k62]?) fun a81=>bnd (BV t a48 a81) fun q91=>if q91=true then some (.ret (.ret (([]:List Int),(⟨17⟩:Err)))) else some (.next ())) k47 ()) fun res58=>fin res58 fun (s102:Unit)=>some (.next ())) H 0 ()=some (.ret (([]:List Int),(⟨17⟩:Err)))) ∨
    (((H.map hO).Pairwise fun a b=>¬ IntF t a b)∧rng (ρ:=(List Int)×Err) (fun (k47:Nat) (a48:Hap) (s45:Unit)=>bnd (rngN (ρ:=Ctl Unit ((List Int)×Err)) (fun (k62:Nat) (s60:Unit)=>bnd (H[k62]?) fun a81=>bnd (BV t a48 a81) fun q91=>if q91=true then some (.ret (.ret (([]:List Int),(⟨17⟩:Err)))) else some (.next ())) k47 ()) fun res58=>fin res58 fun (s102:Unit)=>some (.next ())) H 0 ()=some (.done ())):=by
  have hpw:=UR (R:=fun a b:Hh=>¬ IntF t a b) (H:=H.map hO) (fun h=>PQ h)
  have outer:=Gw (ρ:=(List Int)×Err) (xs:=H) (f:=fun (k47:Nat) (a48:Hap) (s45:Unit)=>bnd (rngN (ρ:=Ctl Unit ((List Int)×Err)) (fun (k62:Nat) (s60:Unit)=>bnd (H[k62]?) fun a81=>bnd (BV t a48 a81) fun q91=>if q91=true then some (.ret (.ret (([]:List Int),(⟨17⟩:Err)))) else some (.next ())) k47 ()) fun res58=>fin res58 fun (s102:Unit)=>some (.next ()))
    (P := fun i a=>∃ (k:Nat) (b:Hap),k < i∧H[k]?=some b∧IntF t (hO a) (hO b)) (c:=(([]:List Int),(⟨17⟩:Err))) fun i a hi=>by
      have inner:=Gw (ρ:=Ctl Unit ((List Int)×Err)) (xs:=List.range i) (f:=fun (_:Nat) (k62:Nat) (s60:Unit)=>bnd (H[k62]?) fun a81=>bnd (BV t a a81) fun q91=>if q91=true then some (.ret (.ret (([]:List Int),(⟨17⟩:Err)))) else some (.next ()))
        (P:=fun _ k=>∃ b,H[k]?=some b∧IntF t (hO a) (hO b)) (c:=Ctl.ret (([]:List Int),(⟨17⟩:Err))) fun k' k hk=>by
          have hki:k < i:=List.mem_range.1 (List.mem_of_getElem? hk)
          obtain ⟨b,hb⟩:=BB (l:=H) (k:=k) (by have:=Bl hi;omega)
          have ha':=hj a (List.mem_of_getElem? hi)
          have hb':=hj b (List.mem_of_getElem? hb)
          obtain ⟨x,x1,x2⟩:=Ry (t:=t) ha'.1 ha'.2 hb'.1 hb'.2
          rw [hb,Ae,x1,Ae]
          cases x
          · exact .inr ⟨fun ⟨b',h1,h2⟩=>(by cases h1;exact absurd (x2.2 h2) (by decide)),rfl⟩
          · exact .inl ⟨⟨b,rfl,x2.1 rfl⟩,rfl⟩
      unfold rngN
      rcases inner with ⟨⟨k',k,h1,b,h2,h3⟩,h4⟩|⟨h1,h2⟩
      · exact .inl ⟨⟨k,b,List.mem_range.1 (List.mem_of_getElem? h1),h2,h3⟩,by rw [h4];rfl⟩
      · refine .inr ⟨fun ⟨k,b,g1,g2,g3⟩=>?_,by rw [h2];rfl⟩
        obtain ⟨k',hk'⟩:=List.getElem?_of_mem (List.mem_range.2 g1)
        exact h1 k' k hk' ⟨b,g2,g3⟩
  rcases outer with ⟨⟨i,a,h1,k,b,h2,h3,h4⟩,h5⟩|⟨h1,h2⟩
  · refine .inl ⟨fun hp=>?_,h5⟩
    exact hpw.1 hp i (hO a) (by rw [List.getElem?_map,h1];rfl) k (hO b) h2 (by rw [List.getElem?_map,h3];rfl) h4
  · refine .inr ⟨hpw.2 fun i a ha k b hk hb hI=>?_,h2⟩
    rw [List.getElem?_map] at ha hb
    obtain ⟨a',ha',rfl⟩:=Option.map_eq_some_iff.1 ha
    obtain ⟨b',hb',rfl⟩:=Option.map_eq_some_iff.1 hb
    exact h1 i a' ha' ⟨k,b',hk,hb',hI⟩
theorem SH (ht:TplOk t) (hl:LIn t l) (τ:Int) {H:List Hap} (hj:∀ h∈H,0≤h.job∧h.job < t.jobs.length) {s:List Int} (hs:s.length=t.vars.length):∃ r e,Dc t l τ s H=some (r,⟨e⟩) ∧
    (e=0↔OvC t l τ∧((H.map hO).Pairwise fun a b=>¬ IntF t a b)∧(∀ h∈H.map hO,holdsB (hR t h) s=true)∧∀ x∈l,x.tm≤τ→τ < en t x→holdsB (jb t x.job.toNat).over (afH t s (cano t.jobs.length (H.map hO)))=true) ∧
    (e=0→r=afH t s (cano t.jobs.length (H.map hO))):=by
  unfold Dc
  obtain ⟨b,b1,b2⟩:=SF ht hl τ
  rw [b1,Ae]
  cases b with
  | true=>exact ⟨[],18,rfl,⟨fun h=>(by cases h),fun h=>absurd h.1 (b2.1 rfl)⟩,fun h=>by cases h⟩
  | false =>
    have hov:OvC t l τ:=Classical.byContradiction fun h=>by have:=b2.2 h;cases this
    rw [GI]
    rcases RC ht hj with ⟨h1,h2⟩|⟨h1,h2⟩
    · rw [h2,Ae]
      exact ⟨[],17,rfl,⟨fun h=>(by cases h),fun h=>absurd h.2.1 h1⟩,fun h=>by cases h⟩
    · rw [h2, Ae,BH]
      have l2:=Gw (ρ:=(List Int)×Err) (xs:=H) (f:=fun (k116:Nat) (a117:Hap) (s114:Unit)=>bnd (CH t a117) fun q142=>bnd (Cq q142 s) fun q151=>if q151=true then some (.next ()) else some (.ret (([]:List Int),(⟨12⟩:Err))))
        (P:=fun _ a=>holdsB (hR t (hO a)) s=false) (c:=(([]:List Int),(⟨12⟩:Err))) fun k a hk=>by
          have ha':=hj a (List.mem_of_getElem? hk)
          rw [Ml ha'.1 ha'.2,Ae]
          unfold Cq
          rw [Ae]
          cases holdsB (hR t (hO a)) s
          · exact .inl ⟨rfl,rfl⟩
          · exact .inr ⟨(by decide),rfl⟩
      rcases l2 with ⟨⟨k,a,g1,g2⟩,g3⟩|⟨g1,g2⟩
      · rw [g3,Ae]
        refine ⟨[],12,rfl,⟨fun h=>(by cases h),fun h=>?_⟩,fun h=>by cases h⟩
        have:=h.2.2.1 (hO a) (List.mem_map_of_mem (List.mem_of_getElem? g1))
        rw [g2] at this;cases this
      · rw [g2, Ae,BH,SG ht hj hs,Ae]
        have hrd:∀ h∈H.map hO,holdsB (hR t h) s=true:=fun h hh=>by
          obtain ⟨a,ha,rfl⟩:=List.mem_map.1 hh
          obtain ⟨k,hk⟩:=List.getElem?_of_mem ha
          cases hb:holdsB (hR t (hO a)) s with
          | true=>rfl
          | false=>exact absurd hb (g1 k a hk)
        have l3 := Gw (ρ:=(List Int)×Err) (xs:=l) (f:=fun (k179:Nat) (a180:Lch) (s177:Unit)=>bnd (if a180.tm≤τ then (bnd (Cu t a180) fun q211=>if τ < q211 then (bnd (atI t.jobs a180.job) fun a220=>bnd (Cq a220.over (afH t s (cano t.jobs.length (H.map hO)))) fun q253=>if q253=true then some false else some true) else (some false)) else (some false):Option Bool) fun y206=>if y206=true then (some (.ret (([]:List Int),(⟨16⟩:Err)))) else (some (.next ())))
          (P := fun _ x=>¬ (x.tm≤τ→τ < en t x→holdsB (jb t x.job.toNat).over (afH t s (cano t.jobs.length (H.map hO)))=true)) (c:=(([]:List Int),(⟨16⟩:Err))) fun k x hk=>by
            have hx:=hl x (List.mem_of_getElem? hk)
            rw [JG ht hx,Ae,Lb hx.1.2.1 hx.1.2.2,Ae]
            unfold Cq
            rw [Ae]
            by_cases p1:x.tm≤τ
            · rw [if_pos p1]
              by_cases p2:τ < en t x
              · rw [if_pos p2]
                cases hb:holdsB (jb t x.job.toNat).over (afH t s (cano t.jobs.length (H.map hO)))
                · exact .inl ⟨fun h=>(by have:=h p1 p2;cases this),rfl⟩
                · exact .inr ⟨fun h=>h fun _ _=>rfl,rfl⟩
              · rw [if_neg p2]
                exact .inr ⟨fun h=>h fun _ h2=>absurd h2 p2,rfl⟩
            · rw [if_neg p1]
              exact .inr ⟨fun h=>h fun h1 _=>absurd h1 p1,rfl⟩
        rcases l3 with ⟨⟨k,x,p1,p2⟩,p3⟩|⟨p1,p2⟩
        · rw [p3,Ae]
          exact ⟨[],16,rfl,⟨fun h=>(by cases h),fun h=>absurd (h.2.2.2 x (List.mem_of_getElem? p1)) p2⟩,fun h=>by cases h⟩
        · rw [p2,Ae,BH]
          refine ⟨_,0,rfl,⟨fun _=>⟨hov,h1,hrd,fun x hx=>?_⟩,fun _=>rfl⟩,fun _=>rfl⟩
          obtain ⟨k,hk⟩:=List.getElem?_of_mem hx
          exact Classical.byContradiction fun hn=>p1 k x hk hn
def mks (t:Tpl) (l:List Lch):Int:=l.foldl (fun m x=>max m (en t x)) 0
theorem Jf (t:Tpl):∀ (l:List Lch) (m:Int),m≤l.foldl (fun m x=>max m (en t x)) m∧(∀ x∈l,en t x≤l.foldl (fun m x=>max m (en t x)) m)∧(l.foldl (fun m x=>max m (en t x)) m=m∨∃ x∈l,l.foldl (fun m x=>max m (en t x)) m=en t x)
  | [],m=>⟨Int.le_refl _,fun x hx=>(by cases hx),.inl rfl⟩
  | y :: l,m=>by
    obtain ⟨h1,h2,h3⟩:=Jf t l (max m (en t y))
    show m≤l.foldl _ (max m (en t y))∧_∧_
    refine ⟨by omega,fun x hx=>?_,?_⟩
    · show en t x≤l.foldl _ (max m (en t y))
      rcases List.mem_cons.1 hx with rfl|hx
      · omega
      · exact h2 x hx
    · show l.foldl _ (max m (en t y))=m∨_
      rcases h3 with h3|⟨x,hx,h3⟩
      · by_cases hm:en t y≤m
        · exact .inl (by rw [h3];omega)
        · exact .inr ⟨y,List.mem_cons_self,by show l.foldl _ (max m (en t y))=_;rw [h3];omega⟩
      · exact .inr ⟨x,List.mem_cons_of_mem _ hx,h3⟩
theorem US (t:Tpl) (l:List Lch):∀ x∈l,en t x≤mks t l:=(Jf t l 0).2.1
theorem UT (t:Tpl) (l:List Lch):0≤mks t l:=(Jf t l 0).1
theorem UU (t:Tpl) (l:List Lch):mks t l=0∨∃ x∈l,mks t l=en t x:=(Jf t l 0).2.2
theorem RD (ht:TplOk t) (hl:LIn t l):CJ t l=some (mks t l):=by
  unfold CJ
  rw [CF (fun k=>(l.take k).foldl (fun m x=>max m (en t x)) 0) (by rfl) fun k x hk=>by
    rw [JG ht (hl x (List.mem_of_getElem? hk)),Ae,List.take_add_one,hk]
    simp]
  rw [Ae,BH,List.take_length]
  rfl
theorem Mn {a b:Nat} (hab:a≤b) (h:∀ τ:Nat,a≤τ→τ < b→hapA t l τ=[]):Sv t l b=Sv t l a:=by
  obtain ⟨k,rfl⟩:=Nat.exists_eq_add_of_le hab
  induction k with
  | zero=>rfl
  | succ k ih =>
    show afH t (Sv t l (a + k)) (cano t.jobs.length (hapA t l (a + k)))=_
    rw [ih (by omega) (fun τ h1 h2=>h τ h1 (by omega)),h (a + k) (by omega) (by omega)]
    have:cano t.jobs.length []=[]:=by unfold cano;simp
    rw [this];rfl
theorem Lf {τ:Nat} (h:∀ x∈l,x.tm≠(τ:Int)∧en t x≠(τ:Int)):hapA t l τ=[]:=by
  refine List.eq_nil_iff_forall_not_mem.2 fun y hy=>?_
  obtain ⟨x,hx,_,e⟩:=CY.1 hy
  have:=h x hx
  split at e
  · exact this.2 e
  · exact this.1 e
def TickP (t:Tpl) (l:List Lch) (τ:Nat):Prop:=OvC t l (τ:Int)∧TickC t l τ
theorem UV (ht:TplOk t) (hl:LIn t l) (hT:∀ τ:Nat,(∃ x∈l,x.tm=(τ:Int)∨en t x=(τ:Int))→TickP t l τ) (hg:∀ τ:Nat,(∀ x∈l,en t x < (τ:Int))→holdsB t.goal (Sv t l τ)=true):VOk t l:=by
  have hov:∀ (i k:Nat) a b,l[i]?=some a→l[k]?=some b→i≠k→a.job=b.job→b.tm≤a.tm→a.tm≤en t b→False:=fun i k a b ha hb hik hj h1 h2=>by
    have ra:=hl a (List.mem_of_getElem? ha)
    have e:((a.tm.toNat:Nat):Int)=a.tm:=by omega
    exact (hT a.tm.toNat ⟨a,List.mem_of_getElem? ha,.inl e.symm⟩).1 i k a b ha hb hik e.symm hj (by omega) (by omega)
  refine ⟨hl.rng,?_,fun a ha b hb hne hj=>?_,fun τ=>?_,hg⟩
  · unfold List.Nodup
    rw [List.pairwise_iff_getElem]
    intro i j hi hj hij e
    have:=GV ht l[j]
    refine hov i j l[i] l[j] (List.getElem?_eq_getElem hi) (List.getElem?_eq_getElem hj) (by omega) (by rw [e]) (by rw [e];exact Int.le_refl _) (by rw [e];omega)
  · obtain ⟨i,hi⟩:=List.getElem?_of_mem ha
    obtain ⟨k,hk⟩:=List.getElem?_of_mem hb
    have hik:i≠k:=by rintro rfl;rw [hi] at hk;exact hne (Option.some.inj hk)
    refine Classical.byContradiction fun hno=>?_
    by_cases h1:b.tm≤a.tm
    · exact hov i k a b hi hk hik hj h1 (by omega)
    · exact hov k i b a hk hi (Ne.symm hik) hj.symm (by omega) (by omega)
  · by_cases h:∃ x∈l,x.tm=(τ:Int)∨en t x=(τ:Int)
    · exact (hT τ h).2
    · have hno:∀ τ':Nat,(¬ ∃ x∈l,x.tm=(τ':Int)∨en t x=(τ':Int))→hapA t l τ'=[]:=fun τ' h=>Lf fun x hx=>⟨fun e=>h ⟨x,hx,.inl e⟩,fun e=>h ⟨x,hx,.inr e⟩⟩
      refine ⟨(by rw [hno τ h];exact .nil),fun y hy=>(by rw [hno τ h] at hy;cases hy),?_⟩
      -- what runs was tested when something happened last
      induction τ with
      | zero =>
        intro x hx h1 h2
        have:=hl x hx
        exact absurd ⟨x,hx,.inl (by omega)⟩ h
      | succ τ ih =>
        intro x hx h1 h2
        have hS:Sv t l (τ + 1 + 1)=Sv t l (τ + 1):=Mn (by omega) fun τ' g1 g2=>by
          have:τ'=τ + 1:=by omega
          subst this;exact hno _ h
        have hx1:x.tm≤(τ:Int):=by
          have:x.tm≠((τ + 1:Nat):Int):=fun e=>h ⟨x,hx,.inl e⟩
          omega
        rw [hS]
        by_cases hτ:∃ x∈l,x.tm=(τ:Int)∨en t x=(τ:Int)
        · exact (hT τ hτ).2.over x hx hx1 (by omega)
        · exact ih hτ x hx hx1 (by omega)
theorem SI (ht:TplOk t) (h:VOk t l) (τ:Nat):TickP t l τ:=⟨fun i k a b ha hb hik h1 hj h2 h3=>by
  by_cases he:a=b
  · subst he
    have hn:=h.nd
    unfold List.Nodup at hn
    rw [List.pairwise_iff_getElem] at hn
    obtain ⟨g1,e1⟩:=List.getElem?_eq_some_iff.1 ha
    obtain ⟨g2,e2⟩:=List.getElem?_eq_some_iff.1 hb
    rcases Nat.lt_or_gt_of_ne hik with g|g
    · exact hn i k g1 g2 g (by rw [e1,e2])
    · exact hn k i g2 g1 g (by rw [e1,e2])
  · rcases h.nov a (List.mem_of_getElem? ha) b (List.mem_of_getElem? hb) he hj with g|g
    · omega
    · have:=GV ht a;omega,h.tick τ⟩
theorem Pc (ht:TplOk t) (hl:LIn t l) {M:MapR 182 Int Hap} (hM:∀ τ,mget [] M.l τ=hapI t l τ):∀ (ks:List Int) (j:Nat) (τ₀:Nat),(ks.Pairwise fun a b=>a < b)→(∀ a∈ks,(τ₀:Int)≤a∧∃ x∈l,x.tm=a∨en t x=a)→(∀ a:Int,(τ₀:Int)≤a→(∃ x∈l,x.tm=a∨en t x=a)→a∈ks) →
    (∃ τ₁:Nat,τ₀≤τ₁∧(∀ x∈l,en t x < (τ₁:Int))∧rng (ρ:=Int×Err) (fun (k58:Nat) (a59:Int) (s56:(List Int))=>bnd (Dc t l a59 s56 (mget ([]:List Hap) M.l a59)) fun q83=>if q83.2.n≠0 then (some (.ret (0,(⟨q83.2.n⟩:Err)))) else (some (.next q83.1))) ks j (Sv t l τ₀)=some (.done (Sv t l τ₁))∧∀ τ:Nat,τ₀≤τ→(∃ x∈l,x.tm=(τ:Int)∨en t x=(τ:Int))→TickP t l τ) ∨
    ∃ e:Int,e≠0∧rng (ρ:=Int×Err) (fun (k58:Nat) (a59:Int) (s56:(List Int))=>bnd (Dc t l a59 s56 (mget ([]:List Hap) M.l a59)) fun q83=>if q83.2.n≠0 then (some (.ret (0,(⟨q83.2.n⟩:Err)))) else (some (.next q83.1))) ks j (Sv t l τ₀)=some (.ret (0,⟨e⟩))∧∃ τ:Nat,¬ TickP t l τ
  | [],j,τ₀,_,_,h3=>by
    refine .inl ⟨τ₀,Nat.le_refl _,fun x hx=>?_,rfl,fun τ h1 h2=>absurd (h3 _ (by omega) h2) (by simp)⟩
    refine Classical.byContradiction fun hn=>?_
    have:=h3 (en t x) (by omega) ⟨x,hx,.inr rfl⟩
    cases this
  | a :: ks,j,τ₀,h1,h2,h3=>by
    obtain ⟨g1,g2⟩:=h2 a List.mem_cons_self
    obtain ⟨n,rfl⟩:∃ n:Nat,a=(n:Int):=⟨a.toNat,by omega⟩
    rw [List.pairwise_cons] at h1
    have hS:Sv t l n=Sv t l τ₀:=Mn (by omega) fun τ p1 p2=>Lf fun x hx=>by
      have key:∀ b:Int,b=(τ:Int)→¬ ∃ x∈l,x.tm=b∨en t x=b:=fun b hb hh=>by
        have:=h3 b (by omega) hh
        rcases List.mem_cons.1 this with e|e
        · omega
        · have:=h1.1 b e;omega
      exact ⟨fun e=>key _ rfl ⟨x,hx,.inl e⟩,fun e=>key _ rfl ⟨x,hx,.inr e⟩⟩
    obtain ⟨r,e,q1,q2,q3⟩:=SH ht hl (n:Int) (H:=hapI t l (n:Int)) (SE hl) (s:=Sv t l n) (MW ht l n)
    rw [SD] at q2 q3
    have hTP:e=0↔TickP t l n:=by
      rw [q2]
      constructor
      · rintro ⟨p1,p2,p3,p4⟩
        exact ⟨p1,p2,p3,p4⟩
      · rintro ⟨p1,p2,p3,p4⟩
        exact ⟨p1,p2,p3,p4⟩
    rw [rng,← hS,hM,q1,Ae]
    dsimp only
    by_cases he:e=0
    · have hr:=q3 he
      rw [if_neg (by simpa using he),hr]
      show (∃ τ₁,_∧_∧rng _ ks (j + 1) (Sv t l (n + 1))=_∧_)∨∃ e',_∧rng _ ks (j + 1) (Sv t l (n + 1))=_∧_
      rcases Pc ht hl hM ks (j + 1) (n + 1) h1.2 (fun b hb=>⟨by have:=h1.1 b hb;omega,(h2 b (List.mem_cons_of_mem _ hb)).2⟩) (fun b hb hh=>by
        rcases List.mem_cons.1 (h3 b (by omega) hh) with p|p
        · omega
        · exact p) with ⟨τ₁,p1,p2,p3,p4⟩|⟨e',p1,p2,p3⟩
      · refine .inl ⟨τ₁,by omega,p2,p3,fun τ w1 w2=>?_⟩
        by_cases hτ:τ=n
        · subst hτ;exact hTP.1 he
        · by_cases hτ2:n < τ
          · exact p4 τ (by omega) w2
          · rcases List.mem_cons.1 (h3 _ (by omega) w2) with p|p
            · omega
            · have:=h1.1 _ p;omega
      · exact .inr ⟨e',p1,p2,p3⟩
    · rw [if_pos (by simpa using he)]
      exact .inr ⟨e,he,rfl,n,fun h=>he (hTP.2 h)⟩
theorem Pd (hj:t.jobs.length≤30) (l:List Lch):∃ m e,Cf t l=some (m,⟨e⟩)∧(e=0↔tck t=0∧l.length≤4096∧LIn t l∧VOk t l)∧(e=0→m=mks t l)∧(e≠0→m=0):=by
  unfold Cf
  obtain ⟨e,e1,e2⟩:=Rz hj l
  rw [e1,Ae]
  dsimp only
  by_cases he:e=0
  · obtain ⟨h1,h2,h3⟩:=e2.1 he
    have ht:=JA h1
    rw [if_neg (by simpa using he)]
    obtain ⟨M,ks,k1,k2,k3,k4⟩:=Ua ht h3 h2
    rw [k1,Ae]
    dsimp only
    rcases Pc ht h3 k2 ks 0 0 k4 (fun a ha=>⟨by
      obtain ⟨x,hx,e⟩:=(k3 a).1 ha
      have:=h3 x hx
      have:=GV ht x
      rcases e with e|e<;>omega,(k3 a).1 ha⟩) (fun a _ ha=>(k3 a).2 ha) with ⟨τ₁,p1,p2,p3,p4⟩|⟨e',p1,p2,τ,p3⟩
    · rw [show t.init=Sv t l 0 from rfl,p3,Ae,BH]
      unfold Cq
      rw [Ae]
      -- behind the last end nothing changes
      have hSg:∀ τ:Nat,(∀ x∈l,en t x < (τ:Int))→Sv t l τ=Sv t l τ₁:=fun τ hτ=>by
        have emp:∀ a b:Nat,(∀ x∈l,en t x < (a:Int))→a≤b→Sv t l b=Sv t l a:=fun a b ha hab=>Mn hab fun τ' w1 w2=>Lf fun x hx=>by
          have:=ha x hx
          have:=GV ht x
          constructor<;>omega
        rcases Nat.le_total τ τ₁ with h|h
        · exact (emp τ τ₁ hτ h).symm
        · exact emp τ₁ τ p2 h
      cases hg:holdsB t.goal (Sv t l τ₁) with
      | true =>
        rw [EG,RD ht h3,Ae]
        exact ⟨_,0,rfl,⟨fun _=>⟨h1,h2,h3,UV ht h3 (fun τ w=>p4 τ (Nat.zero_le _) w) fun τ hτ=>by rw [hSg τ hτ];exact hg⟩,fun _=>rfl⟩,fun _=>rfl,fun h=>absurd rfl h⟩
      | false =>
        rw [GI]
        refine ⟨0,13,rfl,⟨fun h=>(by cases h),fun h=>?_⟩,fun h=>(by cases h),fun _=>rfl⟩
        have:=h.2.2.2.goal τ₁ p2
        rw [hg] at this;cases this
    · rw [show t.init=Sv t l 0 from rfl,p2,Ae]
      exact ⟨0,e',rfl,⟨fun h=>absurd h p1,fun h=>absurd (SI ht h.2.2.2 τ) p3⟩,fun h=>absurd h p1,fun _=>rfl⟩
  · rw [if_pos (by simpa using he)]
    exact ⟨0,e,rfl,⟨fun h=>absurd h he,fun h=>absurd (e2.2 ⟨h.1,h.2.1,h.2.2.1⟩) he⟩,fun h=>absurd h he,fun _=>rfl⟩
end
end
section
open Go.Shelf
def Tryz.laysS_f101_ren:Go.Shelf.Ren:=⟨fun|6=>101|15=>139|14=>138|28=>169|29=>170|20=>161|21=>162|22=>163|23=>164|24=>165|25=>166|26=>167|27=>168|46=>192|47=>193|48=>194|49=>195|50=>196|57=>213|n=>n,fun|22=>23|24=>78|25=>170|3=>3|39=>224|0=>0|53=>258|55=>239|4=>4|46=>252|45=>251|50=>48|5=>5|9=>9|66=>280|70=>283|76=>296|77=>297|n=>n,fun|n=>n⟩
theorem Tryz.laysS_f101:Go.Proofs.SlLaysF0.n6 Tryz.prog Tryz.laysS_f101_ren:={
  mixed:=by kernel_rfl
  f6:=⟨Tryz.f101.name,by decide,Tryz.func101.trans (congrArg some (by kernel_rfl))⟩
  f14:=⟨Tryz.f138.name,by decide,Tryz.func138.trans (congrArg some (by kernel_rfl))⟩
  f15:=Tryz.func139.trans (congrArg some (by kernel_rfl))
  f20:=⟨Tryz.f161.name,by decide,Tryz.func161.trans (congrArg some (by kernel_rfl))⟩
  f21:=⟨Tryz.f162.name,by decide,Tryz.func162.trans (congrArg some (by kernel_rfl))⟩
  f22:=⟨Tryz.f163.name,by decide,Tryz.func163.trans (congrArg some (by kernel_rfl))⟩
  f23:=⟨Tryz.f164.name,by decide,Tryz.func164.trans (congrArg some (by kernel_rfl))⟩
  f24:=⟨Tryz.f165.name,by decide,Tryz.func165.trans (congrArg some (by kernel_rfl))⟩
  f25:=⟨Tryz.f166.name,by decide,Tryz.func166.trans (congrArg some (by kernel_rfl))⟩
  f26:=⟨Tryz.f167.name,by decide,Tryz.func167.trans (congrArg some (by kernel_rfl))⟩
  f27:=⟨Tryz.f168.name,by decide,Tryz.func168.trans (congrArg some (by kernel_rfl))⟩
  f28:=Tryz.func169.trans (congrArg some (by kernel_rfl))
  f29:=Tryz.func170.trans (congrArg some (by kernel_rfl))
  f46:=⟨Tryz.f192.name,by decide,Tryz.func192.trans (congrArg some (by kernel_rfl))⟩
  f47:=Tryz.func193.trans (congrArg some (by kernel_rfl))
  f48:=Tryz.func194.trans (congrArg some (by kernel_rfl))
  f49:=⟨Tryz.f195.name,by decide,Tryz.func195.trans (congrArg some (by kernel_rfl))⟩
  f50:=⟨Tryz.f196.name,by decide,Tryz.func196.trans (congrArg some (by kernel_rfl))⟩
  f57:=⟨Tryz.f213.name,by decide,Tryz.func213.trans (congrArg some (by kernel_rfl))⟩
  t0:=Tryz.underlying0
  a0:=Tryz.isAgg0
  z0:=Tryz.sizeOf0
  v0:=Tryz.zeroValue0
  t3:=Tryz.underlying3
  a3:=Tryz.isAgg3
  z3:=Tryz.sizeOf3
  v3:=Tryz.zeroValue3
  t4:=Tryz.underlying4
  a4:=Tryz.isAgg4
  z4:=Tryz.sizeOf4
  v4:=Tryz.zeroValue4
  t5:=Tryz.underlying5
  a5:=Tryz.isAgg5
  z5:=Tryz.sizeOf5
  v5:=Tryz.zeroValue5
  t9:=Tryz.underlying9
  a9:=Tryz.isAgg9
  z9:=Tryz.sizeOf9
  v9:=Tryz.zeroValue9
  t22:=Tryz.underlying23
  a22:=Tryz.isAgg23
  z22:=Tryz.sizeOf23
  v22:=Tryz.zeroValue23
  t25:=Tryz.underlying170
  a25:=Tryz.isAgg170
  z25:=Tryz.sizeOf170
  v25:=Tryz.zeroValue170
  t39:=Tryz.underlying224
  a39:=Tryz.isAgg224
  z39:=Tryz.sizeOf224
  v39:=Tryz.zeroValue224
  t45:=Tryz.underlying251
  a45:=Tryz.isAgg251
  z45:=Tryz.sizeOf251
  v45:=Tryz.zeroValue251
  t46:=Tryz.underlying252
  a46:=Tryz.isAgg252
  z46:=Tryz.sizeOf252
  v46:=Tryz.zeroValue252
  t50:=Tryz.underlying48
  a50:=Tryz.isAgg48
  z50:=Tryz.sizeOf48
  v50:=Tryz.zeroValue48
  t53:=Tryz.underlying258
  a53:=Tryz.isAgg258
  z53:=Tryz.sizeOf258
  v53:=Tryz.zeroValue258
  t55:=Tryz.underlying239
  a55:=Tryz.isAgg239
  z55:=Tryz.sizeOf239
  v55:=Tryz.zeroValue239
  t66:=Tryz.underlying280
  a66:=Tryz.isAgg280
  z66:=Tryz.sizeOf280
  v66:=Tryz.zeroValue280
  t70:=Tryz.underlying283
  a70:=Tryz.isAgg283
  z70:=Tryz.sizeOf283
  v70:=Tryz.zeroValue283
  t76:=Tryz.underlying296
  a76:=Tryz.isAgg296
  z76:=Tryz.sizeOf296
  v76:=Tryz.zeroValue296
  t77:=Tryz.underlying297
  a77:=Tryz.isAgg297
  z77:=Tryz.sizeOf297
  v77:=Tryz.zeroValue297 }
open Go.RowKit Go.Lib Go.Sort in
theorem Tryz.sortF_eq {α:Type} [Inhabited α] (k:Nat) (aE:∀ w,(isAgg 78).run Tryz.prog w=.ok true w) (zE:∀ w,(Go.sizeOf 78).run Tryz.prog w=.ok k w) (enc:α→List Value) (hk:∀ x,(enc x).length=k) (h1:∀ x,∀ v∈enc x,v.oneCell'=true) (cf:α→α→Int) (hO:SWO (ltOf cf)) (g:Nat) (cb:Array Value) (blk off cap:Nat) (d:Array α) (w:World) (eg:∀ args w,(callFunc g args).run Tryz.prog w=.ok (.enter g args) w) (hcmp:CmpLays Tryz.prog g cb enc k cf blk off d.size w) (hH:HoldsK enc k w blk off d) (hblk:blk < w.heap.size) (hsz:d.size < 4611686018427387904) :
    Calls Tryz.prog 101 #[.slice (some ⟨blk,off,none⟩) d.size cap,.func (.func g) #[] cb] w fun e w' =>
      e=.returned (.tuple #[])∧∃ n os,w'=sortWorldK enc k w blk off n (pdq (ltOf cf) d 0 d.size (Lib.bitLen d.size) true true) os:=AnyQ.slices_SortFunc_eq Tryz.laysS_f101 k aE zE enc hk h1 cf hO g cb blk off cap d w eg hcmp hH hblk hsz
open Go.RowKit Go.Lib Go.Sort in
theorem Tryz.sortF_none {α:Type} [Inhabited α] (p:Option Addr) (cap:Nat) (fv:Value) (w:World) :
    Calls Tryz.prog 101 #[.slice p 0 cap,fv] w fun e w'=>e=.returned (.tuple #[])∧w'=w:=AnyF.slices_SortFunc_none Tryz.laysS_f101 p cap fv w
end
section
open Go Go.RowKit Go.Lib Go.Sort
instance:Inhabited Fct:=⟨⟨0,0⟩⟩
def encF (x:Fct):List Value:=[.int .i64 x.var,.int .i64 x.val]
def cfF (x y:Fct):Int:=Lib.compareInt x.var y.var
theorem ltF (x y:Fct):ltOf cfF x y=decide (x.var < y.var):=by
  unfold ltOf cfF Lib.compareInt
  by_cases h:x.var < y.var
  · simp [h]
  · by_cases h2:y.var < x.var<;>simp [h,h2]
theorem swoF:SWO (ltOf cfF) where
  irrefl x:=by rw [ltF];simp
  trans x y z h1 h2:=by rw [ltF] at *;simp at *;omega
  ntrans x y z h1 h2:=by rw [ltF] at *;simp at *;omega
theorem compareI (a b:Int) (W:World):Calls Tryz.prog 103 #[.int .i64 a,.int .i64 b] W fun e w'=>e=.returned (.int .i64 (Lib.compareInt a b))∧w'=W:=by
  go_enter Tryz.func103,Tryz.ntmps103
  go_wp2
  · go_ret
    have h:a < b:=by assumption
    exact ⟨by simp [Lib.compareInt,h],rfl⟩
  · go_ret
    have h:b < a:=by assumption
    have h2:¬ a < b:=by omega
    exact ⟨by simp [Lib.compareInt,h,h2],rfl⟩
  · go_ret
    have h1:b≤a:=by assumption
    have h2:a≤b:=by assumption
    have h3:¬ a < b:=by omega
    have h4:¬ b < a:=by omega
    exact ⟨by simp [Lib.compareInt,h3,h4],rfl⟩
theorem closureF (x y:Fct) (W:World):Calls Tryz.prog 102 #[.agg #[.int .i64 x.var,.int .i64 x.val],.agg #[.int .i64 y.var,.int .i64 y.val]] W fun e w'=>e=.returned (.int .i64 (cfF x y))∧∃ q os',w'=grow (W.drewN q) os':=by
  have hcon:=fun W'=>compareI x.var y.var W'
  unfold cfF
  generalize Lib.compareInt x.var y.var=r at hcon ⊢
  go_enter Tryz.func102,Tryz.ntmps102
  go_wp2_with (go_at_call 103;refine (hcon _).mono ?_;rintro e w' ⟨rfl,rfl⟩)
  go_ret
  exact ⟨rfl,0,_,by rw [alloc_eq_grow,alloc_eq_grow,grow_grow];rfl⟩
theorem cmpLaysF (blk off size:Nat) (w:World):CmpLays Tryz.prog 102 #[] encF 2 cfF blk off size w:=fun _ _ _ _ x y=>closureF x y _
def AI (xs:List Fct):List Fct:=(pdq (ltOf cfF) xs.toArray 0 xs.length (Lib.bitLen xs.length) true true).toList
theorem PU (xs:List Fct):PermIn 0 xs.toArray.size xs.toArray (AI xs).toArray∧SortedIn (ltOf cfF) 0 xs.toArray.size (AI xs).toArray:=by
  have:=pdq_sorts (ltOf cfF) swoF xs.toArray 0 xs.toArray.size (Lib.bitLen xs.length) true true (Nat.zero_le _) (Nat.le_refl _) (Or.inl rfl)
  simpa [AI] using this
theorem Jg (xs:List Fct):(AI xs).Perm xs:=by
  obtain ⟨⟨hsz,_,hperm⟩,_⟩:=PU xs
  have e1:(AI xs).toArray.extract 0 xs.toArray.size=(AI xs).toArray:=by rw [← hsz];exact Array.extract_size
  rw [e1,Array.extract_size] at hperm
  simpa using hperm
theorem Do (xs:List Fct):(AI xs).length=xs.length:=(Jg xs).length_eq
theorem PB (xs:List Fct):(AI xs).Pairwise fun x y=>x.var≤y.var:=by
  obtain ⟨_,hs⟩:=PU xs
  have hl:=Do xs
  rw [List.pairwise_iff_getElem]
  intro i j hi hj hij
  have:=hs i j (Nat.zero_le _) hij (by simp;omega)
  rw [getElem!_pos _ j (by simpa using hj),getElem!_pos _ i (by simpa using hi),ltF] at this
  simpa using this
theorem flatF:∀ (xs:List Fct),(flatK encF 2 xs.toArray).toList=xs.flatMap encF:=fun xs=>by
  apply List.ext_getElem?
  intro t
  have key:∀ (l:List Fct) (t:Nat),(l.flatMap encF)[t]?=(l[t / 2]?).bind fun x=>(encF x)[t % 2]?:=by
    intro l
    induction l with
    | nil=>intro t;simp
    | cons x l ih =>
      intro t
      rw [List.flatMap_cons]
      match t with
      | 0=>rfl
      | 1=>rfl
      | t + 2 =>
        rw [List.getElem?_append_right (by simp [encF]),show t + 2 - (encF x).length=t from by simp [encF],ih]
        rw [show (t + 2) / 2=t / 2 + 1 from by omega,show (t + 2) % 2=t % 2 from by omega]
        simp
  rw [key]
  by_cases ht:t < xs.length * 2
  · have h1:t / 2 < xs.length:=by omega
    have hsz:t < (flatK encF 2 xs.toArray).size:=by simpa using ht
    rw [Array.getElem?_toList,Array.getElem?_eq_getElem hsz,List.getElem?_eq_getElem h1,Option.bind_some]
    have:=get_flatK encF 2 xs.toArray t (by simpa using ht)
    rw [getElem!_pos (flatK encF 2 xs.toArray) t hsz,getElem!_pos xs.toArray (t / 2) (by simpa using h1)] at this
    rw [this]
    have h2:t % 2 < (encF xs[t / 2]).length:=by simp [encF];omega
    rw [List.getElem?_eq_getElem h2,List.getElem_toArray,getElem!_pos (encF xs[t / 2]) (t % 2) h2]
  · have h1:(flatK encF 2 xs.toArray).size≤t:=by rw [size_flatK];simpa using (by omega:xs.length * 2≤t)
    have h2:xs[t / 2]?=none:=List.getElem?_eq_none (by omega)
    rw [Array.getElem?_toList,Array.getElem?_eq_none h1,h2]
    rfl
theorem MX {w:World} {F:Nat→Prop}:∀ {xs:List Fct} {cells:List Value},Chunks w F cells xs→cells=xs.flatMap encF∧∀ x∈xs,inI64 x.var∧inI64 x.val
  | [],_,h=>⟨h,fun _ hx=>by simp at hx⟩
  | x :: xs,cells,⟨cs,rest,he,hr,hc⟩=>by
    obtain ⟨h1,h2⟩:=MX hc
    obtain ⟨h3,h4⟩:=hr
    refine ⟨by rw [he,h3,h1];rfl,fun y hy=>?_⟩
    rcases List.mem_cons.1 hy with rfl|hy
    · exact h4
    · exact h2 y hy
theorem MY {w:World} {F:Nat→Prop}:∀ {xs:List Fct},(∀ x∈xs,inI64 x.var∧inI64 x.val)→Chunks w F (xs.flatMap encF) xs
  | [],_=>rfl
  | x :: xs,h=>⟨encF x,xs.flatMap encF,rfl,⟨rfl,h x (by simp)⟩,MY fun y hy=>h y (by simp [hy])⟩
theorem FM (xs:List Fct):(xs.flatMap encF).length=xs.length * 2:=by rw [← flatF,Array.length_toList,size_flatK];simp
theorem HB {i:Nat} {w:World} {O:Lab} {v:Value} {xs:List Fct} (hR:Rw i w O 78 v xs) (hl:xs.length < 4611686018427387904) :
    Fn Tryz.prog 101 [v,.func (.func 102) #[] #[]] w fun _ w'=>∃ O',St (eT i) w O w' O'∧Rw i w' O' 78 v (AI xs):=by
  intro d
  rcases Nat.eq_zero_or_pos xs.length with h0|h0
  · have hx:xs=[]:=List.eq_nil_of_length_eq_zero h0
    subst hx
    obtain ⟨p,c,rfl⟩:=hR.form
    have hs:AI []=[]:=List.eq_nil_of_length_eq_zero (Do [])
    exact (Tryz.sortF_none (α:=Fct) p c _ (dr w d)).mono fun e w' ⟨he,hw⟩=>⟨_,w,d,he,hw,O,St.refl _ _ _,by rw [hs];exact hR⟩
  · obtain ⟨g,cap,cells,sp,rfl,hg,hFg,hb,hc,hlen,hnc,hcm,htot⟩:=hR.1.open h0
    obtain ⟨rfl,hin⟩:=MX hc
    have hfl:=flatF xs
    have hH:HoldsK encF 2 (dr w d) g 0 xs.toArray:=fun j hj=>by
      have hj':j < xs.length * 2:=by simpa using hj
      refine ⟨?_,by rw [Nat.zero_add];exact hb.frozen j⟩
      rw [Nat.zero_add]
      refine hb.cell ?_
      rw [List.getElem?_append_left (by rw [FM];exact hj'),← hfl,Array.getElem?_toList,Array.getElem?_eq_getElem hj,getElem!_pos _ j hj]
      rfl
    have aE:∀ w,(isAgg 78).run Tryz.prog w=.ok true w:=fun w=>GR w
    have zE:∀ w,(Go.sizeOf 78).run Tryz.prog w=.ok 2 w:=fun w=>DL w
    have eg:∀ args w,(callFunc 102 args).run Tryz.prog w=.ok (.enter 102 args) w:=enters_of Tryz.func102 (by kernel_rfl) rfl
    have hcall:=Tryz.sortF_eq 2 aE zE encF (fun _=>rfl) (fun x v hv=>by simp [encF] at hv;rcases hv with rfl|rfl<;>rfl) cfF swoF 102 #[] g 0 cap xs.toArray (dr w d) eg (cmpLaysF g 0 _ _) hH hb.lt (by simpa using hl)
    have e1:xs.toArray.size=xs.length:=by simp
    rw [e1] at hcall
    refine hcall.mono fun e w' ⟨he,n,os,hw⟩=>⟨_,w',w'.drawn,he,rfl,upO O w.heap.size (fun _=>0),?_,?_⟩
    · subst hw
      refine ⟨rfl,rfl,rfl,?_,fun k hk hne=>⟨?_,ER hk⟩⟩
      · show w.heap.size≤((w.heap.modify g _) ++ os).size
        simp
      · have hkg:g≠k:=fun e=>hne (by rw [← e];exact hR.2.1 g rfl)
        show ((w.heap.modify g _) ++ os)[k]?=_
        rw [Array.getElem?_append_left (by simpa using hk),Array.getElem?_modify,if_neg hkg]
    · have hpd:pdq (ltOf cfF) xs.toArray 0 xs.length (Lib.bitLen xs.length) true true=(AI xs).toArray:=by simp [AI]
      rw [hpd] at hw
      have hsl:=Do xs
      have hf2:=flatF (AI xs)
      have hblk:Blk w' g 78 ((AI xs).flatMap encF ++ sp):=by
        subst hw
        unfold Blk at hb ⊢
        have hsz:g < w.heap.size:=Blk.lt hb
        show ((w.heap.modify g _) ++ os)[g]?=_
        rw [Array.getElem?_append_left (by simpa using hsz),Array.getElem?_modify,if_pos rfl,hb]
        simp only [Option.map_some,Go.Sort.onCells]
        congr 2
        apply Array.ext
        · simp only [Go.Sort.putCells,Array.size_mapIdx,List.size_toArray,List.length_append,FM,hsl]
        · intro i h1 h2
          simp only [Go.Sort.putCells,Array.getElem_mapIdx,Nat.zero_add,Nat.sub_zero,Nat.zero_le,true_and]
          have e2:(flatK encF 2 (AI xs).toArray).size=xs.length * 2:=by rw [size_flatK];simp [hsl]
          by_cases hi:i < xs.length * 2
          · rw [if_pos (by rw [e2];exact hi)]
            simp only [List.getElem_toArray]
            rw [List.getElem_append_left (by rw [FM,hsl];exact hi)]
            rw [getElem!_pos _ _ (by rw [e2];exact hi)]
            have:=congrArg (·[i]?) hf2
            simp only [Array.getElem?_toList] at this
            rw [Array.getElem?_eq_getElem (by rw [e2];exact hi),List.getElem?_eq_getElem (by rw [FM,hsl];exact hi)] at this
            exact Option.some.inj this
          · rw [if_neg (by rw [e2];exact hi)]
            simp only [List.getElem_toArray]
            rw [List.getElem_append_right (by rw [FM];omega),List.getElem_append_right (by rw [FM,hsl];omega)]
            simp only [FM,hsl]
      have hS:∀ k,Fr 0 w O k→Fr 0 w' (upO O w.heap.size fun _=>0) k:=fun k hk=>⟨by subst hw;show k < ((w.heap.modify g _) ++ os).size;have:=hk.1;simp;omega,(ER hk.1).trans hk.2⟩
      have:=Own.close (w:=w') (base:=0) (F:=Fr 0 w O) (cap:=cap) (Nat.zero_le _) hFg hblk (MY (F:=Fr 0 w O) (w:=w') fun x hx=>hin x ((Jg xs).mem_iff.1 hx)) (by rw [hsl];exact hnc) hcm (by rw [List.length_append,FM] at htot ⊢;rw [hsl];exact htot)
      rw [hsl] at this
      exact this.rw hS (fun g' hg'=>by
        have:g=g':=by simpa [Value.ownBlock] using hg'
        subst this
        exact (ER hb.lt).trans (hR.2.1 g rfl)) hR.2.2
end
end Go.Proofs.YtjohlgjklmagnaaGreatDoor

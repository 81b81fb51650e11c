/- Own text: what the proof of orbitFinds_holds uses, part 3: rules, models and their proofs, plain laws. -/
import Derived.Test.YtdlhmdckakbboaaGreatDoorOFeB
set_option linter.unusedVariables false
set_option linter.unusedSimpArgs false
namespace Go.Proofs.YtdlhmdckakbboaaGreatDoor
open Go Go.RowKit Go.Proofs.Tryz
section
open Go Go.RowKit Go.Lib Go.Sort
instance:Inhabited Fct:=⟨⟨0,0⟩⟩
def U4 (x:Fct):List Value:=[.int .i64 x.var,.int .i64 x.val]
def cfF (x y:Fct):Int:=Lib.compareInt x.var y.var
theorem ltF (x y:Fct):ltOf cfF x y=decide (x.var < y.var):=by
  unfold ltOf cfF Lib.compareInt
  by_cases b:x.var < y.var
  . simp [b]
  . by_cases a:y.var < x.var<;>simp [b,a]
theorem AbZ:SWO (ltOf cfF) where
  irrefl x:=by rw [ltF];simp
  trans x y z h1 h2:=by rw [ltF] at *;simp at *;omega
  ntrans x y z h1 h2:=by rw [ltF] at *;simp at *;omega
theorem Abi (a b:Int) (h:World):Calls prog 73 #[.int .i64 a,.int .i64 b] h λ e w'=>e=.returned (.int .i64 (Lib.compareInt a b))/\w'=h:=by
  go_enter func73,ntmps73
  go_wp2
  . go_ret
    have i:a < b:=by assumption
    exact ⟨by simp [Lib.compareInt,i],rfl⟩
  . go_ret
    have i:b < a:=by assumption
    have c:¬ a < b:=by omega
    exact ⟨by simp [Lib.compareInt,i,c],rfl⟩
  . go_ret
    have g:b<=a:=by assumption
    have c:a<=b:=by assumption
    have d:¬ a < b:=by omega
    have f:¬ b < a:=by omega
    exact ⟨by simp [Lib.compareInt,d,f],rfl⟩
theorem Abo (x y:Fct) (c:World):Calls prog 92 #[.agg #[.int .i64 x.var,.int .i64 x.val],.agg #[.int .i64 y.var,.int .i64 y.val]] c λ e w'=>e=.returned (.int .i64 (cfF x y))/\∃ q b,w'=grow (c.drewN q) b:=by
  have a:=λ W'=>Abi x.var y.var W'
  unfold cfF
  generalize Lib.compareInt x.var y.var=r at a ⊢
  go_enter func92,ntmps92
  go_wp2_with (go_at_call 73;refine (a _).mono ?_;rintro e w' ⟨rfl,rfl⟩)
  go_ret
  exact ⟨rfl,0,_,by rw [alloc_eq_grow,alloc_eq_grow,grow_grow];rfl⟩
theorem Abw (a off size:Nat) (w:World):CmpLays prog 92 #[] U4 2 cfF a off size w:=λ _ _ _ _ x y=>Abo x y _
def Be (xs:List Fct):List Fct:=(pdq (ltOf cfF) xs.toArray 0 xs.length (Lib.bitLen xs.length) true true).toList
theorem RO (xs:List Fct):PermIn 0 xs.toArray.size xs.toArray (Be xs).toArray/\SortedIn (ltOf cfF) 0 xs.toArray.size (Be xs).toArray:=by
  have:=pdq_sorts (ltOf cfF) AbZ xs.toArray 0 xs.toArray.size (Lib.bitLen xs.length) true true (P4 _) (P1 _) (Or.inl rfl)
  simpa [Be] using this
theorem Fd (xs:List Fct):(Be xs).Perm xs:=by
  obtain ⟨⟨a,_,hperm⟩,_⟩:=RO xs
  have b:(Be xs).toArray.extract 0 xs.toArray.size=(Be xs).toArray:=by rw [<- a];exact Array.extract_size
  rw [b,Array.extract_size] at hperm
  simpa using hperm
theorem EP (xs:List Fct):(Be xs).length=xs.length:=(Fd xs).length_eq
theorem Rg (xs:List Fct):(Be xs).Pairwise λ x y=>x.var<=y.var:=by
  obtain ⟨_,hs⟩:=RO xs
  have hl:=EP xs
  rw [C0]
  intro i j hi hj a
  have:=hs i j (P4 _) a (by simp;omega)
  rw [getElem!_pos _ j (by simpa using hj),getElem!_pos _ i (by simpa using hi),ltF] at this
  simpa using this
theorem AaX:∀ (xs:List Fct),(flatK U4 2 xs.toArray).toList=xs.flatMap U4:=λ xs=>by
  apply I3
  intro t
  have d:∀ (l:List Fct) (t:Nat),(l.flatMap U4)[t]?=(l[t / 2]?).bind λ x=>(U4 x)[t % 2]?:=by
    intro l
    induction l with
    | nil=>intro t;simp
    | cons x l f =>
      intro t
      rw [I7]
      match t with
      | 0=>rfl
      | 1=>rfl
      | t + 2 =>
        rw [B4 (by simp [U4]),show t + 2 - (U4 x).length=t from by simp [U4],f]
        rw [show (t + 2) / 2=t / 2 + 1 from by omega,show (t + 2) % 2=t % 2 from by omega]
        simp
  rw [d]
  by_cases e:t < xs.length * 2
  . have b:t / 2 < xs.length:=by omega
    have a:t < (flatK U4 2 xs.toArray).size:=by simpa using e
    rw [F1,C1 a,C4 b,J4]
    have:=get_flatK U4 2 xs.toArray t (by simpa using e)
    rw [getElem!_pos (flatK U4 2 xs.toArray) t a,getElem!_pos xs.toArray (t / 2) (by simpa using b)] at this
    rw [this]
    have c:t % 2 < (U4 xs[t / 2]).length:=by simp [U4];omega
    rw [C4 c,G4,getElem!_pos (U4 xs[t / 2]) (t % 2) c]
  . have b:(flatK U4 2 xs.toArray).size<=t:=by rw [size_flatK];simpa using (by omega:xs.length * 2<=t)
    have c:xs[t / 2]?=none:=E6 (by omega)
    rw [F1,D5 b,c]
    rfl
theorem No {w:World} {F:Nat->Prop}:∀ {xs:List Fct} {cells:List Value},Chunks w F cells xs->cells=xs.flatMap U4/\∀ x∈xs,P9 x.var/\P9 x.val
  | [],_,h=>⟨h,λ _ a=>by simp at a⟩
  | x :: xs,cells,⟨cs,rest,he,hr,hc⟩=>by
    obtain ⟨b,h2⟩:=No hc
    obtain ⟨c,h4⟩:=hr
    refine ⟨by rw [he,c,b];rfl,λ y hy=>?_⟩
    rcases M8.1 hy with rfl|hy
    . exact h4
    . exact h2 y hy
theorem Np {w:World} {F:Nat->Prop}:∀ {xs:List Fct},(∀ x∈xs,P9 x.var/\P9 x.val)->Chunks w F (xs.flatMap U4) xs
  | [],_=>rfl
  | x :: xs,h=>⟨U4 x,xs.flatMap U4,rfl,⟨rfl,h x (by simp)⟩,Np λ y a=>h y (by simp [a])⟩
theorem Gj (xs:List Fct):(xs.flatMap U4).length=xs.length * 2:=by rw [<- AaX,G7,size_flatK];simp
theorem Kg {i:Nat} {w:World} {O:Lab} {v:Value} {xs:List Fct} (h:Rw i w O 45 v xs) (hl:xs.length < 4611686018427387904) :
    Fn prog 91 [v,.func (.func 92) #[] #[]] w λ _ w'=>∃ B,St (eT i) w O w' B/\Rw i w' B 45 v (Be xs):=by
  intro d
  rcases H5 xs.length with h0|h0
  . have o:xs=[]:=B0 h0
    subst o
    obtain ⟨p,c,rfl⟩:=h.form
    have hs:Be []=[]:=B0 (EP [])
    exact (SI (α:=Fct) p c _ (dr w d)).mono λ e w' ⟨he,hw⟩=>⟨_,w,d,he,hw,O,St.refl _ _ _,by rw [hs];exact h⟩
  . obtain ⟨g,cap,cells,sp,rfl,hg,hFg,hb,hc,hlen,hnc,hcm,htot⟩:=h.1.open h0
    obtain ⟨rfl,hin⟩:=No hc
    have q:=AaX xs
    have C:HoldsK U4 2 (dr w d) g 0 xs.toArray:=λ j hj=>by
      have r:j < xs.length * 2:=by simpa using hj
      refine ⟨?_,by rw [N4];exact hb.frozen j⟩
      rw [N4]
      refine hb.cell ?_
      rw [B8 (by rw [Gj];exact r),<- q,F1,C1 hj,getElem!_pos _ j hj]
      rfl
    have D:∀ w,(isAgg 45).run prog w=.ok true w:=λ w=>Ip w
    have E:∀ w,(Go.sizeOf 45).run prog w=.ok 2 w:=λ w=>EV w
    have G:∀ f w,(callFunc 92 f).run prog w=.ok (.enter 92 f) w:=enters_of func92 (by kernel_rfl) rfl
    have b:=UY 2 D E U4 (λ _=>rfl) (λ x v hv=>by simp [U4] at hv;rcases hv with rfl|rfl<;>rfl) cfF AbZ 92 #[] g 0 cap xs.toArray (dr w d) G (Abw g 0 _ _) C hb.lt (by simpa using hl)
    have H:xs.toArray.size=xs.length:=by simp
    rw [H] at b
    refine b.mono λ e w' ⟨he,n,os,hw⟩=>⟨_,w',w'.drawn,he,rfl,upO O w.heap.size (λ _=>0),?_,?_⟩
    . subst hw
      refine ⟨rfl,rfl,rfl,?_,λ k hk s=>⟨?_,Fw hk⟩⟩
      . show w.heap.size<=((w.heap.modify g _) ++ os).size
        simp
      . have t:g≠k:=λ e=>s (by rw [<- e];exact h.2.1 g rfl)
        show ((w.heap.modify g _) ++ os)[k]?=_
        rw [B2 (by simpa using hk),E7,if_neg t]
    . have u:pdq (ltOf cfF) xs.toArray 0 xs.length (Lib.bitLen xs.length) true true=(Be xs).toArray:=by simp [Be]
      rw [u] at hw
      have a:=EP xs
      have y:=AaX (Be xs)
      have l:Blk w' g 45 ((Be xs).flatMap U4 ++ sp):=by
        subst hw
        unfold Blk at hb ⊢
        have z:g < w.heap.size:=Blk.lt hb
        show ((w.heap.modify g _) ++ os)[g]?=_
        rw [B2 (by simpa using z),E7,if_pos rfl,hb]
        simp only [L8,Go.Sort.onCells]
        congr 2
        apply Array.ext
        . simp only [Go.Sort.putCells,Array.size_mapIdx,List.size_toArray,H2,Gj,a]
        . intro i K L
          simp only [Go.Sort.putCells,G5,N4,N5,P4,true_and]
          have m:(flatK U4 2 (Be xs).toArray).size=xs.length * 2:=by rw [size_flatK];simp [a]
          by_cases hi:i < xs.length * 2
          . rw [if_pos (by rw [m];exact hi)]
            simp only [G4]
            rw [C9 (by rw [Gj,a];exact hi)]
            rw [getElem!_pos _ _ (by rw [m];exact hi)]
            have:=congrArg (·[i]?) y
            simp only [F1] at this
            rw [C1 (by rw [m];exact hi),C4 (by rw [Gj,a];exact hi)] at this
            exact L1 this
          . rw [if_neg (by rw [m];exact hi)]
            simp only [G4]
            rw [C2 (by rw [Gj];omega),C2 (by rw [Gj,a];omega)]
            simp only [Gj,a]
      have I:∀ k,Fr 0 w O k->Fr 0 w' (upO O w.heap.size λ _=>0) k:=λ k hk=>⟨by subst hw;show k < ((w.heap.modify g _) ++ os).size;have:=hk.1;simp;omega,(Fw hk.1).trans hk.2⟩
      have:=Own.close (w:=w') (base:=0) (F:=Fr 0 w O) (cap:=cap) (P4 _) hFg l (Np (F:=Fr 0 w O) (w:=w') λ x o=>hin x ((Fd xs).mem_iff.1 o)) (by rw [a];exact hnc) hcm (by rw [H2,Gj] at htot ⊢;rw [a];exact htot)
      rw [a] at this
      exact this.rw I (λ J A=>by
        have:g=J:=by simpa [Value.ownBlock] using A
        subst this
        exact (Fw hb.lt).trans (h.2.1 g rfl)) h.2.2
end
section
open Go Go.RowKit
attribute [local irreducible] ewp owp hwp hwq hws Ev Evg Fn Q4 R7 R2 Q9
noncomputable def CN (j:Swp) (k:List Fct):Option (List Fct) :=
  bnd (rng (ρ:=(List Fct)) (λ (l:Nat) (b:Fct) (f:(List Fct))=>bnd (atI j.vars b.var) λ g=>bnd (atI j.vals b.var) λ h=>bnd (atI h b.val) λ i=>bnd (R8 16 f [(⟨g,i⟩:Fct)]) λ d=>some (.next d)) k 0 ([]:List Fct)) λ c=>fin c λ (a:(List Fct))=>bnd (if a.length < 4611686018427387904 then some (Be a) else none) λ e=>some e
theorem ET {w:World} {A:Nat->Prop} (hA:∀ k,A k->k < w.heap.size) {vx0:Value} {x0:Swp} (c2:Vb w A vx0 x0) {vx1:Value} {x1:List Fct} (o0:Vb w A vx1 x1) {r:(List Fct)} (hm:CN x0 x1=some r) :
    Fn prog 65 [vx0,vx1] w λ v w'=>Ext w w'/\Vb w' (upA A w w') v r:=by
 obtain ⟨O,hB,q3⟩:=enter hA
 obtain ⟨r3,rfl,v4,v5,v6,rfl,h7,y1,d2⟩:=id c2
 obtain ⟨A8,c9,rfl⟩:=h7.form
 obtain ⟨e2,f2,rfl⟩:=y1.form
 obtain ⟨g2,h2,rfl⟩:=d2.form
 obtain ⟨i2,j2,rfl⟩:=o0.form
 refine AK func65 rfl ntmps65 ?_
 unfold CN at hm
 refine Am (Ah (Ft 2 O rfl λ z1 s3 k2 l2 d0=>?_))
 refine Au rfl (o_z (Am (Ah (Au rfl (o_z (Am (Am (Ah (At rfl (AU rfl ?_))))))))))
 have p0:=Cv o0.len
 have t3:=rngNat p0
 refine At rfl (o_z ?_)
 obtain ⟨a2,q0,hm⟩:=bs hm
 replace hB:=hB.st l2
 refine EB (X:=(Option Addr×Nat)) (x1.length) q0 rfl p0 (λ i0 h0=>[(2,(.pointer (some ⟨z1,0,none⟩))),(5,(.slice h0.1 i0.length h0.2)),(8,(.slice i2 x1.length j2))]) (λ i0 h0 w'=>∃ O':Lab,Bs w A w' O'/\Lc 2 w' O' z1 55 [(.slice A8 x0.vars.length c9),(.slice e2 x0.vals.length f2),(.slice g2 x0.ops.length h2)]/\Rw 5 w' O' 45 (.slice h0.1 i0.length h0.2) i0) (none,0) ⟨k2,hB,d0,(Rw.nil 5 (by decide))⟩ ⟨rfl,rfl,rfl,rfl,rfl,trivial⟩ (λ _ _=>rfl) ?_ ?_
 ·
  rintro u3 v3 i0 h0 w3 m2 j0 ⟨n2,hB,d0,b0⟩ a0 r0 s0
  have rk29:=U9 j0 p0
  refine Am (Ah ?_)
  obtain ⟨x3,y3,o2,t0,u0,v0,rfl,z3,a4⟩:=(o0.zs hA hB).elem' j0
  refine CZ (hA:=t0) (hj:=rfl) (hlt:=u0) rfl rfl (BH (hl:=rfl) (hc:=v0) rfl ?_)
  refine BL 3 n2 λ b4 c4 b2 w0 k0=>?_
  refine AT k0 rfl rfl rfl (Bf) (allOne) λ d4 y0 k0=>?_
  refine o_z ?_
  refine Bl [(19,[5])] b2 ?_
  refine AH (fuel:=3) [] (AX (CR 0 18)) rfl (AJ rfl rfl (AL rfl rfl ?_))
  replace d0:=(d0.st w0).st y0
  refine AZ (hc:=Bn d0 0 rfl) rfl rfl (AL rfl rfl (AZ (hc:=Bn k0 0 rfl) rfl rfl ?_))
  obtain ⟨z0,p2,a0⟩:=bs a0
  obtain ⟨q2,r2⟩:=Br p2
  replace hB:=(hB.st w0).st y0
  obtain ⟨e4,f4,s2,a1,b1,c1,d1,rfl,t2⟩:=(h7.zs hA hB).elem r2
  refine BT (hA:=a1) (hj:=q2) (hlt:=c1) rfl rfl rfl (AZ (hc:=Jv b1 d1) rfl rfl (AL rfl rfl (AZ (hc:=Bn d0 1 rfl) rfl rfl (AL rfl rfl (AZ (hc:=Bn k0 0 rfl) rfl rfl ?_)))))
  obtain ⟨g4,u2,a0⟩:=bs a0
  obtain ⟨v2,w2⟩:=Br u2
  obtain ⟨h4,i4,x2,e1,f1,g1,h1,j4,rfl,n0⟩:=(y1.zs hA hB).elem w2
  replace n0:=Vb.of_slice n0
  obtain ⟨k4,l4,rfl⟩:=n0.form
  refine BT (hA:=e1) (hj:=v2) (hlt:=g1) rfl rfl rfl (AZ (hc:=Jv f1 h1) rfl rfl (AL rfl rfl (AZ (hc:=Bn k0 1 rfl) rfl rfl ?_)))
  obtain ⟨i1,y2,a0⟩:=bs a0
  obtain ⟨z2,a3⟩:=Br y2
  obtain ⟨m4,n4,b3,j1,k1,l1,m1,rfl,c3⟩:=n0.elem a3
  refine BT (hA:=j1) (hj:=z2) (hlt:=l1) rfl rfl rfl (AZ (hc:=Jv k1 m1) rfl rfl (Ew rfl rfl rfl ?_))
  refine AC (AF (i:=18) rfl ?_)
  refine DW 4 b2 (xs:=([(⟨z0,i1⟩:Fct)]:List Fct)) rfl rfl rfl ⟨(Vb.ofAgg (cs:=[(.int .i64 z0),(.int .i64 i1)]) (x:=(⟨z0,i1⟩:Fct)) rfl ⟨rfl,t2,c3⟩),trivial⟩ rfl λ o4 d3 e3 c0 n1=>?_
  have hZ:=lZ c0
  refine AV [(19,[5])] hZ (AF (i:=19) rfl ?_)
  obtain ⟨f3,e0,a0⟩:=bs a0
  obtain ⟨e0,o1,p1⟩:=Bt e0
  replace b0:=((b0.st w0).st y0).st c0
  refine EL rfl b0 (n1.rd) rfl rfl o1 p1 rfl λ q1 r1 g3 h3 f0 l0=>?_
  rw [<- e0] at l0 ⊢
  have hZ:=f0.lst [5] (λ _ h=>by cases h;decide)
  refine AV [] hZ ?_
  refine AH (fuel:=0) [] [(20,true)] rfl (Ei rfl rfl (AC (Ba ?_)))
  obtain rfl:=sm a0
  exact show Exists _ from ⟨_,(q1,r1),rfl,⟨rfl,rfl,rfl,rfl,rfl,trivial⟩,_,(hB.st c0).st f0,(d0.st c0).st f0,l0⟩
 rintro i3 j3 ⟨k3,l3,rfl,m0,m3,hB,d0,b0⟩
 replace hm:=BF hm
 refine Bg _ m0 ?_
 refine Am (Ah (At rfl ?_))
 obtain ⟨n3,g0,hm⟩:=bs hm
 obtain ⟨s1,g0⟩:=EM g0
 refine Tp (Kg b0 s1) rfl rfl λ o3 t1 p3 u1 b0=>?_
 rw [g0] at b0
 refine o_z (Am (Ah (At rfl (Au rfl (o_z (AM ?_))))))
 obtain ⟨v1,w1,b0⟩:=b0.freeze
 obtain rfl:=sm hm
 replace hB:=(hB.st u1).st w1
 exact T8 rfl (Bc rfl) ⟨hB.ext,(Vb.mono (F:=Fr 0 t1 v1) b0 hB.out)⟩
noncomputable def DY (i:Swp) (j:Opr):Option Opr :=
  bnd (CN i j.pre) λ k=>bnd (some k:Option (List Fct)) λ l=>bnd (rng (ρ:=Opr) (λ (n:Nat) (a:Eff) (m:(List Eff))=>bnd (atI i.vars a.var) λ c=>bnd (atI i.vals a.var) λ d=>bnd (atI d a.val) λ e=>bnd (CN i a.cond) λ f=>bnd (R8 40 m [(⟨f,c,e⟩:Eff)]) λ g=>some (.next g)) j.effs 0 ([]:List Eff)) λ b=>fin b λ (h:(List Eff))=>some (⟨(⟨#[]⟩:ByteArray),j.cost,l,h⟩:Opr)
section
attribute [local irreducible] Vb Lc Rw Ob
theorem Hk {w:World} {A:Nat->Prop} (hA:∀ k,A k->k < w.heap.size) {b:Value} {h:Swp} (n0:Vb w A b h) {c:Value} {f:Opr} (m:Vb w A c f) {r:Opr} (hm:DY h f=some r) :
    Fn prog 67 [b,c] w λ v w'=>Ext w w'/\Vb w' (upA A w w') v r:=by
 obtain ⟨_,_,_⟩:=CW hA
 apply Cj n0;intros
 apply Cj m;intros
 refine AK func67 rfl ntmps67 ?_
 unfold DY at hm
 refine Am (Ah (Dt 2 ?_));intros
 refine Dt 3 ?_;intros
 refine Ck 4 ?_;intros
 refine o_z (Am ?_)
 obtain ⟨s,l0,hm⟩:=bs hm
 refine DE (X:=Nat×(Option Addr×Nat)) hm [2,3,4] [] [5] [] (λ _ _ _ d t=>(5,pv d.1) :: t) (λ _ _ e d t=>fV d.2 e :: .L 5 d.1 43 [.string (⟨#[]⟩:ByteArray),.int .i64 f.cost,sv d.2 e,.slice none 0 0] :: t) ?_ ?_
 ·
  intro e c0
  refine Hj [] ?_
  refine AH (fuel:=4) [] (AX (CR 0 5)) rfl (AL rfl rfl (Cp rfl ?_))
  refine Kf rfl (AL rfl rfl ?_)
  refine Cp rfl (AC ?_)
  refine DQ (i:=5) (j:=7) rfl rfl ?_ ?_
  ·
   refine q_S [] ?_;intros
   refine Dn rfl (ET Fr.lt zV zV l0) ?_;intros
   refine Bv [] ?_
   refine AH (fuel:=2) [] [(6,true)] rfl (Ew rfl rfl rfl ?_)
   refine AC (AF (i:=7) rfl (q_S [] ?_));intros
   refine Ck 5 ?_;intros
   refine Bv [] ?_
   refine AF (i:=8) rfl (BN ?_);intros
   refine Bz (Ba ?_)
   obtain rfl:=sm c0
   exact BA (_,(_,_))
  refine q_S [] ?_;intros
  refine Ck 5 ?_;intros
  refine Bv [] ?_
  refine AF (i:=5) rfl (q_S [] ?_);intros
  refine Dn rfl (ET Fr.lt zV zV l0) ?_;intros
  refine Bv [] ?_
  refine AH (fuel:=1) [] [(6,true)] rfl (Ew rfl rfl rfl ?_)
  refine AC (AF (i:=8) rfl (BN ?_));intros
  refine Bz (Ba ?_)
  obtain rfl:=sm c0
  exact BA (_,(_,_))
 intro e _ _ _ _ hm;intros
 refine BY ?_
 refine Am (Am (Ah (AO rfl (CF (AU rfl (At rfl (o_z ?_)))))))
 refine DT (X:=(Option Addr×Nat)) hm [2,4,5,16] [] [5,6,8] [5] (λ _ _ _ _ t=>t) (λ _ o g l t=>fR 8 47 l g :: uL (o 5) 5 43 [(3,sv l g)] :: t) (_,_) ?_ ?_
 ·
  intro u z0 g _ _ _ _ a x _ y;intros
  refine Am (Ah (Ep ?_));intros
  refine Jh ?_
  refine Ck 6 ?_;intros
  refine BN ?_;intros
  refine o_z (Hj [(24,[8])] ?_)
  refine AH (fuel:=6) [] (AX [0,1,2,3,4,6,7,8,9,10,11,12,13,14,15,16,17,18,19,20,21]) rfl (AL rfl rfl (Cp rfl ?_))
  refine Kf rfl (AL rfl rfl ?_)
  refine Cp rfl (AL rfl rfl ?_)
  refine Cp rfl (AL rfl rfl ?_)
  refine Cp rfl ?_
  obtain ⟨n,q0,a⟩:=bs a
  refine Fb rfl ?_;intros
  refine EE rfl (AL rfl rfl ?_)
  refine Cp rfl (AL rfl rfl ?_)
  refine Cp rfl ?_
  obtain ⟨z,s0,a⟩:=bs a
  refine Fb rfl ?_;intros
  refine EE rfl (AL rfl rfl ?_)
  refine Cp rfl ?_
  obtain ⟨p,t0,a⟩:=bs a
  refine Fb rfl ?_;intros
  refine EE rfl (AC (AF (i:=5) rfl ?_))
  refine q_S [] ?_;intros
  obtain ⟨q,j0,a⟩:=bs a
  refine Dn rfl (ET Fr.lt zV zV j0) ?_;intros
  refine Bv [(24,[8])] ?_
  refine AH (fuel:=4) [] [(22,true)] rfl (Ew rfl rfl rfl ?_)
  refine AC (AF (i:=23) rfl (q_S [] ?_));intros
  refine Gx 7 ([(⟨q,n,p⟩:Eff)]:List Eff) ?_;intros
  refine Bv [(24,[8])] ?_
  refine AF (i:=24) rfl (q_S [8] ?_);intros
  obtain ⟨B,k0,a⟩:=bs a
  refine NY k0 ?_;intros
  refine Bv [] ?_
  refine AH (fuel:=1) [] [(25,true)] rfl (AL rfl rfl (AC (AF (i:=26) rfl (BN ?_))));intros
  refine Bz (Ba ?_)
  exact DF (_,_) a
 intro C _ _ _ _ hm;intros
 refine BY ?_
 refine Am (Ah (EY ?_))
 refine BN ?_;intros
 refine o_z (AM (Fv 8 ?_));intros
 obtain rfl:=sm hm
 exact Cl
end
noncomputable def EQ (b:Tsk) (c:Swp):Option Bool :=
  bnd (bnd (Fk b c) λ g=>if g=true then bnd (CB c.ops (b.ops.length:Int)) λ h=>if h=true then bnd (CN c b.goal) λ i=>bnd (BI i b.goal) λ j=>if j=true then some false else some true else some true else some true:Option Bool) λ k=>if k=true then (some false) else (bnd (rng (ρ:=Bool) (λ (l:Nat) (m:Opr) (p:Unit)=>bnd (c.ops[l]?) λ n=>bnd (atI b.ops n) λ d=>bnd (DY c m) λ e=>bnd (Do e d) λ f=>if f=true then some (.next ()) else some (.ret false)) b.ops 0 ()) λ a=>fin a λ (o:Unit)=>some true)
section
attribute [local irreducible] Vb Lc Rw Ob
theorem KD {w:World} {A:Nat->Prop} (hA:∀ k,A k->k < w.heap.size) {c:Value} {g:Tsk} (j:Vb w A c g) {d:Value} {h:Swp} (l:Vb w A d h) {r:Bool} (hm:EQ g h=some r) :
    Fn prog 32 [c,d] w λ v w'=>Ext w w'/\Vb w' (upA A w w') v r:=by
 obtain ⟨_,_,_⟩:=CW hA
 apply Cj j;intros
 apply Cj l;intros
 refine AK func32 rfl ntmps32 ?_
 unfold EQ at hm
 refine Am (Ah (Dt 2 ?_));intros
 refine Dt 3 ?_;intros
 refine Au rfl (o_z (Am (Am (DE (X:=Unit) hm [2,3] [] [] [] (λ _ _ e _ t=>(29,.bool e) :: t) (λ _ _ _ _ t=>t) ?_ ?_))))
 ·
  intro e a
  refine Hj [] ?_
  refine AH (fuel:=21) [] (AX [0,1]) rfl (Kf rfl ?_)
  refine Kf rfl (AC (AF (i:=2) rfl ?_))
  refine q_S [] ?_;intros
  obtain ⟨m,l0,a⟩:=bs a
  refine DO rfl (Mw (λ _ D=>D) zA zA l0) ?_;intros
  cases m
  case false =>
   replace a:=iF a
   refine Bv [] ?_
   refine AH (fuel:=13) [] (AX (CR 3 7)) rfl (SB rfl rfl rfl (AJ rfl rfl (AW rfl rfl rfl (AW rfl rfl rfl (AW rfl rfl rfl (AW rfl rfl rfl (AW rfl rfl rfl (AC (AF (i:=10) rfl (q_S [] ?_))))))))));intros
   refine AA rfl rfl (Bv [] ?_)
   refine AH (fuel:=4) [] (AX [11,12,13,14,15,16,18,19]) rfl (AW rfl rfl rfl (CL rfl rfl rfl (AJ rfl rfl (AW rfl rfl rfl (AW rfl rfl rfl (AW rfl rfl rfl (AW rfl rfl rfl (AW rfl rfl rfl (AC (AF (i:=17) rfl (q_S [] ?_)))))))))));intros
   refine AA rfl rfl (Bv [] ?_)
   refine AF (i:=20) rfl (q_S [] ?_);intros
   refine AA rfl rfl (Bv [] ?_)
   refine AH (fuel:=0) [] (AX [21,22]) rfl (AW rfl rfl rfl (CL rfl rfl rfl (AC (Ba ?_))))
   obtain rfl:=sm a
   exact BA ()
  replace a:=iT a
  refine Bv [] ?_
  refine AH (fuel:=13) [] (AX (CR 3 7)) rfl (PL rfl rfl rfl (AJ rfl rfl (Az rfl (Aw rfl rfl (BM rfl (Az rfl (Aw rfl rfl (Ke (Az rfl (Aw rfl rfl (BM rfl (Az rfl (Aw rfl rfl ?_)))))))))))))
  refine Ke (Az rfl (Aw rfl rfl (Ju rfl (AC (AF (i:=10) rfl ?_)))))
  refine q_S [] ?_;intros
  refine AB rfl rfl ?_
  obtain ⟨n,n0,a⟩:=bs a
  refine DO rfl (FP (λ _ D=>D) zA zI n0) ?_;intros
  cases n
  case false =>
   replace a:=iF a
   refine Bv [] ?_
   refine AH (fuel:=4) [] (AX [11,12,13,14,15,16,18,19]) rfl (Az rfl (Aw rfl rfl (Mr rfl (CE rfl rfl rfl (AJ rfl rfl (AW rfl rfl rfl (AW rfl rfl rfl (AW rfl rfl rfl (AW rfl rfl rfl (AW rfl rfl rfl (AC (AF (i:=17) rfl (q_S [] ?_)))))))))))));intros
   refine AA rfl rfl (Bv [] ?_)
   refine AF (i:=20) rfl (q_S [] ?_);intros
   refine AA rfl rfl (Bv [] ?_)
   refine AH (fuel:=0) [] (AX [21,22]) rfl (AW rfl rfl rfl (CL rfl rfl rfl (AC (Ba ?_))))
   obtain rfl:=sm a
   exact BA ()
  replace a:=iT a
  refine Bv [] ?_
  refine AH (fuel:=4) [] (AX [11,12,13,14,15,16,18,19]) rfl (Az rfl (Aw rfl rfl (Mq rfl (CE rfl rfl rfl (AJ rfl rfl (Az rfl (Aw rfl rfl (YV (Az rfl (Aw rfl rfl (BM rfl (Az rfl (Aw rfl rfl ?_)))))))))))))
  refine Ke (Az rfl (Aw rfl rfl (BM rfl (Az rfl (Aw rfl rfl ?_)))))
  refine Ke (AC (AF (i:=17) rfl ?_))
  refine q_S [] ?_;intros
  refine AB rfl rfl ?_
  obtain ⟨q,o0,a⟩:=bs a
  refine Dn rfl (ET Fr.lt zV zV o0) ?_;intros
  refine Bv [] ?_
  refine AF (i:=20) rfl (q_S [] ?_);intros
  refine AB rfl rfl ?_
  obtain ⟨o,q0,a⟩:=bs a
  refine DO rfl (Dg (λ _ D=>D) zA zA q0) ?_;intros
  cases o
  case false =>
   replace a:=iF a
   refine Bv [] ?_
   refine AH (fuel:=0) [] (AX [21,22]) rfl (Az rfl (Aw rfl rfl (Mr rfl (CE rfl rfl rfl (AC (Ba ?_))))))
   obtain rfl:=sm a
   exact BA ()
  replace a:=iT a
  refine Bv [] ?_
  refine AH (fuel:=0) [] (AX [21,22]) rfl (Az rfl (Aw rfl rfl (Mq rfl (CE rfl rfl rfl (AC (Ba ?_))))))
  obtain rfl:=sm a
  exact BA ()
 intro e _ _ _ _ hm;intros
 refine BY ?_
 refine BP rfl (λ f=>?_) (λ f=>?_)
 ·
  replace hm:=ip hm f
  refine Am (Ah (Au rfl (o_z (AM ?_))))
  obtain rfl:=sm hm
  exact Cl
 replace hm:=im' hm f
 refine AN (Am (Am (Ah (AO rfl (CF (AU rfl (At rfl (o_z ?_))))))))
 refine DT (X:=Unit) hm [2,3,31] [] [4] [] (λ _ _ _ _ t=>t) (λ _ _ _ _ t=>t) () ?_ ?_
 ·
  intro s z0 u _ _ _ _ b x _ c0;intros
  refine Am (Ah (At rfl (Ep ?_)));intros
  refine Jh ?_
  refine Ck 4 ?_;intros
  refine Au rfl (BN ?_);intros
  refine o_z (Am (Hj [] ?_))
  refine AH (fuel:=3) [] (AX [0,1,3,4,5,6,7,8,9,10,11]) rfl (Kf rfl ?_)
  refine Kf rfl (AL rfl rfl ?_)
  refine Cp rfl (AL rfl rfl ?_)
  refine Cp rfl (AJ rfl rfl ?_)
  obtain ⟨y,c1,b⟩:=bs b
  refine HU rfl ?_;intros
  refine EE rfl ?_
  obtain ⟨z,t0,b⟩:=bs b
  refine Fb rfl ?_;intros
  refine PS rfl (AC (AF (i:=2) rfl ?_))
  refine q_S [] ?_;intros
  obtain ⟨B,f0,b⟩:=bs b
  refine Dn rfl (Hk Fr.lt zV zV f0) ?_;intros
  refine Bv [] ?_
  refine AF (i:=12) rfl (q_S [] ?_);intros
  obtain ⟨p,h0,b⟩:=bs b
  refine DO rfl (IS (λ _ D=>D) zA zA h0) ?_;intros
  cases p
  case false =>
   replace b:=iF b
   refine Bv [] ?_
   refine AH (fuel:=0) [] [(13,true)] rfl (SB rfl rfl rfl (AC (Ba (Aj rfl (Am (Ah (Au rfl (o_z (AM ?_)))))))))
   obtain rfl:=sm b
   obtain rfl:=c0 _ rfl
   exact Cl
  replace b:=iT b
  refine Bv [] ?_
  refine AH (fuel:=0) [] [(13,true)] rfl (PL rfl rfl rfl (AC (Ba (Ae rfl (AN ?_)))))
  exact DF () b
 intro C _ _ _ _ hm;intros
 refine BY ?_
 refine Am (Ah (Au rfl (o_z (AM ?_))))
 obtain rfl:=sm hm
 exact Cl
end
noncomputable def DH (d:Tsk) (e:Swp):Option Bool :=
  bnd (bnd (Dr d) λ a=>if a.n=0 then (bnd (EQ d e) λ b=>if b=true then some true else some false) else (some false):Option Bool) λ c=>some c
section
attribute [local irreducible] Vb Lc Rw Ob
theorem My {w:World} {A:Nat->Prop} (hA:∀ k,A k->k < w.heap.size) {b:Value} {e:Tsk} (g:Vb w A b e) {c:Value} {f:Swp} (h:Vb w A c f) {r:Bool} (hm:DH e f=some r) :
    Fn prog 18 [b,c] w λ v w'=>Ext w w'/\Vb w' (upA A w w') v r:=by
 obtain ⟨_,_,_⟩:=CW hA
 apply Cj g;intros
 apply Cj h;intros
 refine AK func18 rfl ntmps18 ?_
 unfold DH at hm
 refine Am (Ah (Dt 2 ?_));intros
 refine Dt 3 ?_;intros
 refine Au rfl (o_z (Am (DE (X:=Unit) hm [] [] [] [] (λ _ _ d _ t=>(4,.bool d) :: t) (λ _ _ _ _ t=>t) ?_ ?_)))
 ·
  intro d a
  refine Ah (EY ?_)
  obtain ⟨j,f0,a⟩:=bs a
  refine DO rfl (IR (λ _ l=>l) zA f0) ?_;intros
  refine Wn rfl rfl (λ c0=>?_) λ c0=>?_
  ·
   replace a:=ip a c0
   refine At rfl (AB rfl rfl (EY (AB rfl rfl ?_)))
   refine EY (AB rfl rfl ?_)
   obtain ⟨i,h0,a⟩:=bs a
   refine DO rfl (KD (λ _ l=>l) zA zA h0) ?_;intros
   cases i
   case false =>
    replace a:=iF a
    refine BJ rfl rfl (Au rfl (o_z ?_))
    obtain rfl:=sm a
    exact BA ()
   replace a:=iT a
   refine BJ rfl rfl (Au rfl (o_z ?_))
   obtain rfl:=sm a
   exact BA ()
  replace a:=im a c0
  refine At rfl (AA rfl rfl (AA rfl rfl (AA rfl rfl (BK rfl rfl (Au rfl (o_z ?_))))))
  obtain rfl:=sm a
  exact BA ()
 intro d _ _ _ _ hm;intros
 refine BY ?_
 refine AM ?_
 obtain rfl:=sm hm
 exact Cl
end
noncomputable def By (e:Tsk) (f:List Swp):Option Err :=
  bnd (Dr e) λ b=>if b.n≠0 then (some (⟨b.n⟩:Err)) else (bnd (rng (ρ:=Err) (λ (g:Nat) (c:Swp) (h:Unit)=>bnd (EQ e c) λ d=>if d=true then some (.next ()) else some (.ret (⟨2⟩:Err))) f 0 ()) λ a=>fin a λ (i:Unit)=>some (⟨0⟩:Err))
section
attribute [local irreducible] Vb Lc Rw Ob
theorem EU {w:World} {A:Nat->Prop} (hA:∀ k,A k->k < w.heap.size) {b:Value} {d:Tsk} (f:Vb w A b d) {c:Value} {e:List Swp} (g:Vb w A c e) {r:Err} (hm:By d e=some r) :
    Fn prog 14 [b,c] w λ v w'=>Ext w w'/\Vb w' (upA A w w') v r:=by
 obtain ⟨_,_,_⟩:=CW hA
 apply Cj f;intros
 apply Cj g;intros
 refine AK func14 rfl ntmps14 ?_
 unfold By at hm
 refine Am (Ah (Dt 2 ?_));intros
 refine Au rfl (o_z (Am (Am (Ah (EY ?_)))))
 obtain ⟨j,f0,hm⟩:=bs hm
 refine DO rfl (IR (λ _ o=>o) zA f0) ?_;intros
 refine Au rfl (o_z (Am (Ah (At rfl (FS rfl (λ c0=>?_) λ c0=>?_)))))
 ·
  replace hm:=ip hm c0
  refine o_z (Aj rfl (Am (Ah (At rfl (Au rfl (o_z (AM ?_)))))))
  obtain rfl:=sm hm
  exact Cl
 replace hm:=im hm c0
 refine o_z (Ae rfl (AN (Am (Am (Ah (At rfl (AU rfl (At rfl (o_z (DT (X:=Unit) hm [2,13] [] [3] [] (λ _ _ _ _ t=>t) (λ _ _ _ _ t=>t) () ?_ ?_))))))))))
 ·
  intro l l0 m _ _ _ _ a n _ h;intros
  refine Am (Ah (Ep ?_));intros
  refine Jh ?_
  refine Ck 3 ?_;intros
  refine BN ?_;intros
  refine o_z (Am (Ah (EY ?_)))
  refine EY ?_
  obtain ⟨i,i0,a⟩:=bs a
  refine DO rfl (KD (λ _ o=>o) zA zA i0) ?_;intros
  cases i
  case false =>
   replace a:=iF a
   refine DB rfl (o_z (Aj rfl (Am (Ah (Pw rfl rfl (Au rfl (o_z (AM ?_))))))))
   obtain rfl:=sm a
   obtain rfl:=h _ rfl
   exact Cl
  replace a:=iT a
  refine DA rfl (o_z (Ae rfl (AN ?_)))
  exact DF () a
 intro n0 _ _ _ _ hm;intros
 refine BY ?_
 refine Am (Ah (Au rfl (o_z (AM ?_))))
 obtain rfl:=sm hm
 exact Cl
end
end
section
open Go Go.RowKit
attribute [local irreducible] ewp owp hwp hwq hws Ev Evg Fn Q4 R7 R2 Q9
noncomputable def Dk (o:Fnd):Option ((List Int)×Bool) :=
  bnd (mkI 1 (false:Bool) (o.t.ops.length:Int)) λ p=>bnd (rng (ρ:=(List Int)×Bool) (λ (s:Nat) (q:Opr) (c:(List Int)×(List Bool))=>bnd (DY o.x q) λ a=>bnd (some (a.pre,a.effs):Option ((List Fct)×(List Eff))) λ e=>bnd (rng (ρ:=Ctl ((List Int)×(List Bool)) ((List Int)×Bool)) (λ (f:Nat) (h:Opr) (i:Int)=>bnd (bnd (c.2[f]?) λ j=>if (!j)=true then (bnd (Do (⟨a.name,a.cost,e.1,e.2⟩:Opr) h) λ k=>if k=true then some true else some false) else (some false):Option Bool) λ l=>if l=true then (some (.brk (f:Int))) else (some (.next i))) o.t.ops 0 (-1)) λ d=>fin d λ (b:Int)=>if b < 0 then (some (.ret (([]:List Int),false))) else (bnd (atI c.2 b) λ r=>bnd (R8 8 c.1 [b]) λ m=>some (.next (m,(c.2.set (b:Int).toNat true))))) o.t.ops 0 (([]:List Int),p)) λ g=>fin g λ (n:(List Int)×(List Bool))=>some (n.1,true)
theorem Ie {w:World} {O:Lab} {p0 i0:Nat} {x0:Fnd} (j4:Ob i0 w O (.pointer (some ⟨p0,0,none⟩)) x0) {r:(List Int)×Bool} (hm:Dk x0=some r) :
    Fn prog 102 [(.pointer (some ⟨p0,0,none⟩))] w λ v w'=>∃ O',St (eT i0) w O w' O'/\∃ v0 v1:Value,Ob i0 w' O' (.pointer (some ⟨p0,0,none⟩)) x0/\v=.tuple #[v0,v1]/\Vb w' (Fr 0 w' O') v0 r.1/\Vb w' (Fr 0 w' O') v1 r.2:=by
 obtain ⟨O0,hE,d9,e9⟩:=V0 (w:=w) (O:=O) j4.2
 have j4':=Ob.leave j4 d9 e9 (j:=2) (by decide)
 have hB:Bm w O0 w O0:=Bm.refl
 refine AK func102 rfl ntmps102 ?_
 unfold Dk at hm
 refine Am (Ah (Au rfl (Au rfl (o_z (Am (Ah (Au rfl (o_z (Am (Ah (At rfl (CV rfl ?_))))))))))))
 obtain ⟨O2,v6,lE,mE,nE,oE,pE,qE,rE,sE,tE,uE,S3,vE,h4,h7,f6,g6,j0,h6,i6,j6,k6,l6,m6,n6,f9,g9⟩:=Fnd.opn j4' 2 3 4 5 6 7 (by decide)
 obtain ⟨A8,c9,rfl⟩:=h7.form
 obtain ⟨wE,xE,rfl⟩:=f6.form
 obtain ⟨yE,zE,rfl⟩:=g6.form
 obtain ⟨r2,s2,rfl⟩:=j0.form
 obtain ⟨aF,bF,rfl⟩:=h6.form
 obtain ⟨cF,dF,rfl⟩:=i6.form
 obtain ⟨eF,fF,rfl⟩:=j6.form
 obtain ⟨gF,hF,rfl⟩:=k6.form
 obtain ⟨jF,kF,rfl⟩:=l6.form
 obtain ⟨lF,mF,rfl⟩:=m6.form
 obtain ⟨nF,oF,rfl⟩:=n6.form
 refine AO rfl (AO rfl (AQ (hc:=Blk.cell (i:=3) (h4.1) rfl) rfl (AU rfl ?_)))
 have h9:=Cv j0.len
 have pF:=rngNat h9
 obtain ⟨t2,i9,hm⟩:=bs hm
 obtain ⟨u2,j9,k9,l9,m9⟩:=EN i9
 refine Gp 8 O2 (z0:=(false:Bool)) rfl rfl rfl rfl rfl j9 vBool k9 l9 λ v2 qF rF e2 o6=>?_
 rw [<- m9] at o6 ⊢
 refine Au rfl (o_z (Am (Am (Ah (At rfl (CV rfl (AO rfl (AO rfl ?_))))))))
 replace h4:=h4.st e2
 refine AQ (hc:=Blk.cell (i:=3) (h4.1) rfl) rfl (AU rfl ?_)
 replace j0:=j0.st e2
 have r6:=Cv j0.len
 have sF:=rngNat r6
 refine At rfl (o_z ?_)
 replace h7:=h7.st e2
 replace f6:=f6.st e2
 replace g6:=g6.st e2
 replace h6:=h6.st e2
 replace i6:=i6.st e2
 replace j6:=j6.st e2
 replace k6:=k6.st e2
 replace l6:=l6.st e2
 replace m6:=m6.st e2
 replace n6:=n6.st e2
 obtain ⟨n9,s6,o9,p9,x2⟩:=Fnd.shut (x:=x0) (l0:=2) (by decide) h4 h7 f6 g6 j0 h6 i6 j6 k6 l6 m6 n6 f9 g9
 obtain ⟨s8,t6,hm⟩:=bs hm
 replace hB:=((hB.st S3).st e2).st s6
 replace j0:=j0.st s6
 replace o6:=o6.st s6
 refine EB (X:=(Option Addr×Nat)) (x0.t.ops.length) t6 rfl r6 (λ a1 b1=>[(0,(.pointer (some ⟨p0,0,none⟩))),(4,(.slice b1.1 a1.1.length b1.2)),(5,(.slice (some ⟨v2,0,none⟩) t2.length u2)),(23,(.slice r2 x0.t.ops.length s2))]) (λ a1 b1 w'=>∃ O':Lab,Bm w O0 w' O'/\Ob 2 w' O' (.pointer (some ⟨p0,0,none⟩)) x0/\Rw 12 w' O' 3 (.slice b1.1 a1.1.length b1.2) a1.1/\Rw 8 w' O' 4 (.slice (some ⟨v2,0,none⟩) t2.length u2) a1.2/\Vb w' (Fr 0 w' O') (.slice r2 x0.t.ops.length s2) x0.t.ops) (none,0) ⟨n9,hB,x2,(Rw.nil 12 (by decide)),o6,j0⟩ ⟨rfl,rfl,rfl,rfl,rfl,rfl,trivial⟩ (λ _ _=>rfl) ?_ ?_
 ·
  rintro p6 w2 a1 b1 tF q9 k4 ⟨r9,hB,x2,o0,b0,j0⟩ h0 x3 u6
  have rk83:=U9 k4 r6
  refine Am (Ah ?_)
  obtain ⟨s9,t9,t8,l4,m4,n4,u9,v9,rfl,m1,n1,o4,p4⟩:=j0.elem' k4
  obtain ⟨q4,r4,rfl⟩:=m1.form
  obtain ⟨s4,t4,rfl⟩:=n1.form
  refine CZ (hA:=l4) (hj:=rfl) (hlt:=m4) rfl rfl (BH (hl:=rfl) (hc:=n4) rfl ?_)
  refine BL 9 r9 λ w9 x9 y9 y2 i2=>?_
  refine AT i2 rfl rfl rfl (Bf) (allOne) λ z9 z2 i2=>?_
  refine o_z (Am ?_)
  replace x2:=(x2.st y2).st z2
  obtain ⟨y3,aA,bA,cA,dA,eA,fA,gA,iA,jA,kA,lA,a3,u8,o1,p1,q1,r1,s1,t1,u1,t0,u0,w0,w1,x1,u4,v4⟩:=Fnd.opn x2 2 3 4 5 6 7 (by decide)
  obtain ⟨mA,nA,rfl⟩:=p1.form
  obtain ⟨oA,pA,rfl⟩:=q1.form
  obtain ⟨qA,rA,rfl⟩:=r1.form
  obtain ⟨sA,tA,rfl⟩:=s1.form
  obtain ⟨uA,vA,rfl⟩:=t1.form
  obtain ⟨wA,xA,rfl⟩:=u1.form
  obtain ⟨w4,x4,rfl⟩:=t0.form
  obtain ⟨y4,z4,rfl⟩:=u0.form
  obtain ⟨a5,b5,rfl⟩:=w0.form
  obtain ⟨yA,zA,rfl⟩:=w1.form
  obtain ⟨aB,bB,rfl⟩:=x1.form
  obtain ⟨q0,c5,h0⟩:=bs h0
  obtain ⟨d0,n3,h0⟩:=bs h0
  refine Bi (λ l' w'=>∃ (a0:Nat×(Option Addr×Nat)×(Option Addr×Nat)) (O':Lab),Q2 l' [(0,(.pointer (some ⟨p0,0,none⟩))),(4,(.slice b1.1 a1.1.length b1.2)),(5,(.slice (some ⟨v2,0,none⟩) t2.length u2)),(8,(.pointer (some ⟨a0.1,0,none⟩))),(23,(.slice r2 x0.t.ops.length s2)),(24,(.int .i64 (x0.t.ops.length:Int))),(25,(.int .i64 (p6:Int)))]/\Bm w O0 w' O'/\Ob 2 w' O' (.pointer (some ⟨p0,0,none⟩)) x0/\Rw 12 w' O' 3 (.slice b1.1 a1.1.length b1.2) a1.1/\Rw 8 w' O' 4 (.slice (some ⟨v2,0,none⟩) t2.length u2) a1.2/\Lc 10 w' O' a0.1 43 [(.string q0.name),(.int .i64 q0.cost),(.slice a0.2.1.1 d0.1.length a0.2.1.2),(.slice a0.2.2.1 d0.2.length a0.2.2.2)]/\Vb w' (FrS [2] w' O') (.slice a0.2.1.1 d0.1.length a0.2.1.2) d0.1/\Vb w' (FrS [2] w' O') (.slice a0.2.2.1 d0.2.length a0.2.2.2) d0.2/\Vb w' (Fr 0 w' O') (.slice r2 x0.t.ops.length s2) x0.t.ops/\q0.name.size<=9223372036854775807/\P9 q0.cost) ?_ ?_
  ·
   refine Bl [] y3 ?_
   refine AH (fuel:=3) [] (AX (CR 0 5)) rfl (AJ rfl rfl (BG rfl rfl (AL rfl rfl (Dm (hl:=rfl) (hb:=λ w' ⟨O',hq⟩=>(FZ 6 3 ((o1.st hq (by decide)).1).cellsAt)) rfl rfl ?_))))
   replace i2:=i2.st a3
   refine Dm (hl:=rfl) (hb:=Gl i2) rfl rfl (AC ?_)
   refine DQ (i:=5) (j:=6) rfl rfl ?_ ?_
   ·
    have j2:=(y2.an z2).an a3
    replace m1:=m1.st j2
    replace n1:=n1.st j2
    refine Oa (O:=y3) (ls:=[4,5]) (R:=λ w' F v=>Vb w' F v q0) (Hk FrS.lt (Vb.ofAgg (cs:=[(.slice w4 x0.x.vars.length x4),(.slice y4 x0.x.vals.length z4),(.slice a5 x0.x.ops.length b5)]) (x:=x0.x) rfl ⟨_,_,_,rfl,(t0.lend [4,5] (by decide)),(Vb.subS u0.lend (by decide)),(w0.lend [4,5])⟩) ((Vb.ofAgg (cs:=[(.string w2.name),(.int .i64 w2.cost),(.slice q4 w2.pre.length r4),(.slice s4 w2.effs.length t4)]) (x:=w2) rfl ⟨_,_,rfl,m1,n1,o4,p4⟩).lend [4,5]) c5) rfl rfl λ cB dB w6 z3 x6=>?_
    obtain ⟨v8,rfl,eB,fB,rfl,g1,h1,y6,z6⟩:=x6
    obtain ⟨a7,b7,rfl⟩:=g1.form
    obtain ⟨c7,d7,rfl⟩:=h1.form
    have hZ:=lZ z3
    refine AV [] hZ (AF (i:=6) rfl ?_)
    refine BL 10 w6 λ e7 gB iB k2 a4=>?_
    have hZ:=lZ k2
    replace g1:=g1.stS k2 id (λ _ _=>id)
    replace h1:=h1.stS k2 id (λ _ _=>id)
    refine AV [] hZ (AF (i:=7) rfl ?_)
    refine AT a4 rfl rfl rfl (Bf) (allOne) λ jB b3 a4=>?_
    replace g1:=g1.stS b3 (by decide) (by decide)
    replace h1:=h1.stS b3 (by decide) (by decide)
    refine Bz (Ba ?_)
    have g0:=(z3.an k2).an b3
    replace o1:=o1.st g0
    replace p1:=p1.st g0
    replace q1:=q1.st g0
    replace r1:=r1.st g0
    replace s1:=s1.st g0
    replace t1:=t1.st g0
    replace u1:=u1.st g0
    replace t0:=t0.st g0
    replace u0:=u0.st g0
    replace w0:=w0.st g0
    replace w1:=w1.st g0
    replace x1:=x1.st g0
    obtain ⟨kB,c3,o3,p3,f7⟩:=Fnd.shut (x:=x0) (l0:=2) (by decide) o1 p1 q1 r1 s1 t1 u1 t0 u0 w0 w1 x1 u4 v4
    replace g1:=g1.shutS c3 o3 p3 [2] (by decide)
    replace h1:=h1.shutS c3 o3 p3 [2] (by decide)
    obtain rfl:=sm n3
    have a2:=(((j2.an z3).an k2).an b3).an c3
    exact ⟨(e7,(a7,b7),(c7,d7)),_,⟨rfl,rfl,rfl,rfl,rfl,rfl,rfl,trivial⟩,hB.st a2,f7,o0.st a2,b0.st a2,a4.st c3,g1,h1,j0.st a2,z6,y6⟩
   refine BL 10 y3 λ g7 lB i7 f2 l2=>?_
   have hZ:=lZ f2
   refine AV [] hZ (AF (i:=5) rfl ?_)
   have m2:=((y2.an z2).an a3).an f2
   replace m1:=m1.st m2
   replace n1:=n1.st m2
   replace t0:=t0.st f2
   replace u0:=u0.st f2
   replace w0:=w0.st f2
   refine Oa (O:=i7) (ls:=[4,5]) (R:=λ w' F v=>Vb w' F v q0) (Hk FrS.lt (Vb.ofAgg (cs:=[(.slice w4 x0.x.vars.length x4),(.slice y4 x0.x.vals.length z4),(.slice a5 x0.x.ops.length b5)]) (x:=x0.x) rfl ⟨_,_,_,rfl,(t0.lend [4,5] (by decide)),(Vb.subS u0.lend (by decide)),(w0.lend [4,5])⟩) ((Vb.ofAgg (cs:=[(.string w2.name),(.int .i64 w2.cost),(.slice q4 w2.pre.length r4),(.slice s4 w2.effs.length t4)]) (x:=w2) rfl ⟨_,_,rfl,m1,n1,o4,p4⟩).lend [4,5]) c5) rfl rfl λ mB nB oB y1 j7=>?_
   obtain ⟨w8,rfl,pB,qB,rfl,g2,h2,k7,l7⟩:=j7
   obtain ⟨m7,n7,rfl⟩:=g2.form
   obtain ⟨o7,p7,rfl⟩:=h2.form
   have hZ:=lZ y1
   refine AV [] hZ (AF (i:=7) rfl ?_)
   replace l2:=l2.st y1
   refine AT l2 rfl rfl rfl (Bf) (allOne) λ rB z1 l2=>?_
   replace g2:=g2.stS z1 (by decide) (by decide)
   replace h2:=h2.stS z1 (by decide) (by decide)
   refine Bz (Ba ?_)
   have r0:=(f2.an y1).an z1
   replace o1:=o1.st r0
   replace p1:=p1.st r0
   replace q1:=q1.st r0
   replace r1:=r1.st r0
   replace s1:=s1.st r0
   replace t1:=t1.st r0
   replace u1:=u1.st r0
   replace t0:=(t0.st y1).st z1
   replace u0:=(u0.st y1).st z1
   replace w0:=(w0.st y1).st z1
   replace w1:=w1.st r0
   replace x1:=x1.st r0
   obtain ⟨sB,d3,q3,r3,q7⟩:=Fnd.shut (x:=x0) (l0:=2) (by decide) o1 p1 q1 r1 s1 t1 u1 t0 u0 w0 w1 x1 u4 v4
   replace g2:=g2.shutS d3 q3 r3 [2] (by decide)
   replace h2:=h2.shutS d3 q3 r3 [2] (by decide)
   obtain rfl:=sm n3
   have b2:=((m2.an y1).an z1).an d3
   exact ⟨(g7,(m7,n7),(o7,p7)),_,⟨rfl,rfl,rfl,rfl,rfl,rfl,rfl,trivial⟩,hB.st b2,q7,o0.st b2,b0.st b2,l2.st d3,g2,h2,j0.st b2,l7,k7⟩
  have c2:=(y2.an z2).an a3
  replace hB:=hB.st c2
  replace j0:=j0.st c2
  replace o0:=o0.st c2
  replace b0:=b0.st c2
  rintro tB uB ⟨a0,vB,d5,hB,r7,o0,b0,m0,e0,f0,j0,s7,t7⟩
  refine Bg _ d5 ?_
  refine Am (Ah (Au rfl (o_z (Am (Am (Ah (At rfl (CV rfl ?_))))))))
  obtain ⟨wB,xB,yB,zB,aC,bC,cC,dC,eC,fC,gC,hC,e3,s3,e5,f5,g5,h5,k0,i5,j5,k5,l5,m5,n5,o5,u7,v7⟩:=Fnd.opn r7 2 3 4 5 6 7 (by decide)
  obtain ⟨iC,jC,rfl⟩:=f5.form
  obtain ⟨kC,lC,rfl⟩:=g5.form
  obtain ⟨mC,nC,rfl⟩:=h5.form
  obtain ⟨f3,g3,rfl⟩:=k0.form
  obtain ⟨oC,pC,rfl⟩:=i5.form
  obtain ⟨qC,rC,rfl⟩:=j5.form
  obtain ⟨sC,tC,rfl⟩:=k5.form
  obtain ⟨uC,vC,rfl⟩:=l5.form
  obtain ⟨wC,xC,rfl⟩:=m5.form
  obtain ⟨yC,zC,rfl⟩:=n5.form
  obtain ⟨aD,bD,rfl⟩:=o5.form
  replace e0:=e0.opnS e3 (by decide) s3 [2,3,4,5,6,7] (by decide)
  replace f0:=f0.opnS e3 (by decide) s3 [2,3,4,5,6,7] (by decide)
  refine AO rfl (AO rfl (AQ (hc:=Blk.cell (i:=3) (e5.1) rfl) rfl (AU rfl ?_)))
  have b4:=Cv k0.len
  have cD:=rngNat b4
  refine At rfl (o_z ?_)
  obtain ⟨w7,n2,t3,u3,n0⟩:=Fnd.shut (x:=x0) (l0:=2) (by decide) e5 f5 g5 h5 k0 i5 j5 k5 l5 m5 n5 o5 u7 v7
  replace e0:=e0.shutS n2 t3 u3 [2] (by decide)
  replace f0:=f0.shutS n2 t3 u3 [2] (by decide)
  obtain ⟨c4,p5,h0⟩:=bs h0
  refine Bi (aft c4 (λ (f1:Int) (h3:Unit)=>[(0,(.pointer (some ⟨p0,0,none⟩))),(4,(.slice b1.1 a1.1.length b1.2)),(5,(.slice (some ⟨v2,0,none⟩) t2.length u2)),(9,(.int .i64 f1)),(23,(.slice r2 x0.t.ops.length s2)),(24,(.int .i64 (x0.t.ops.length:Int))),(25,(.int .i64 (p6:Int)))]) (λ f1 h3 w'=>∃ O':Lab,Bm w O0 w' O'/\Ob 2 w' O' (.pointer (some ⟨p0,0,none⟩)) x0/\Rw 12 w' O' 3 (.slice b1.1 a1.1.length b1.2) a1.1/\Rw 8 w' O' 4 (.slice (some ⟨v2,0,none⟩) t2.length u2) a1.2/\Vb w' (Fr 0 w' O') (.slice r2 x0.t.ops.length s2) x0.t.ops/\P9 f1)) ?_ ?_
  ·
   refine Bx ?_
   have i1:=e3.an n2
   replace hB:=hB.st i1
   replace j0:=j0.st i1
   replace o0:=o0.st i1
   replace b0:=b0.st i1
   replace m0:=m0.st i1
   replace k0:=k0.st n2
   refine LJ (σ:=Int) (X:=Unit) (x0.t.ops.length) p5 rfl b4 (λ (f1:Int) (h3:Unit)=>[(0,(.pointer (some ⟨p0,0,none⟩))),(4,(.slice b1.1 a1.1.length b1.2)),(5,(.slice (some ⟨v2,0,none⟩) t2.length u2)),(8,(.pointer (some ⟨a0.1,0,none⟩))),(9,(.int .i64 f1)),(23,(.slice r2 x0.t.ops.length s2)),(24,(.int .i64 (x0.t.ops.length:Int))),(25,(.int .i64 (p6:Int))),(39,(.slice f3 x0.t.ops.length g3))]) _ (λ f1 h3 w'=>∃ O':Lab,Bm w O0 w' O'/\Ob 2 w' O' (.pointer (some ⟨p0,0,none⟩)) x0/\Rw 12 w' O' 3 (.slice b1.1 a1.1.length b1.2) a1.1/\Rw 8 w' O' 4 (.slice (some ⟨v2,0,none⟩) t2.length u2) a1.2/\Lc 10 w' O' a0.1 43 [(.string q0.name),(.int .i64 q0.cost),(.slice a0.2.1.1 d0.1.length a0.2.1.2),(.slice a0.2.2.1 d0.2.length a0.2.2.2)]/\Vb w' (FrS [2] w' O') (.slice a0.2.1.1 d0.1.length a0.2.1.2) d0.1/\Vb w' (FrS [2] w' O') (.slice a0.2.2.1 d0.2.length a0.2.2.2) d0.2/\Vb w' (Fr 0 w' O') (.slice r2 x0.t.ops.length s2) x0.t.ops/\Vb w' (Fr 0 w' O') (.slice f3 x0.t.ops.length g3) x0.t.ops/\P9 f1) _ () ⟨w7,hB,n0,o0,b0,m0,e0,f0,j0,k0,(R0 (-1))⟩ ⟨rfl,rfl,rfl,rfl,rfl,rfl,rfl,rfl,rfl,rfl,rfl,trivial⟩ (λ _ _=>⟨rfl,rfl⟩) (λ _ _=>⟨rfl,rfl,rfl,rfl,rfl,rfl,rfl,trivial⟩) (λ _ _ _ ⟨O',hB,n0,o0,b0,m0,e0,f0,j0,k0,o2⟩=>⟨O',hB,n0,o0,b0,j0,o2⟩) ⟨rfl,rfl,rfl⟩ ⟨rfl,rfl⟩ ?_
   rintro q5 p2 f1 h3 dD x8 v3 ⟨x7,hB,n0,o0,b0,m0,e0,f0,j0,k0,o2⟩ s0 q6 i3
   have rk318:=U9 v3 b4
   refine Am (Ah (At rfl ?_))
   obtain ⟨eD,fD,y8,r5,s5,t5,gD,hD,rfl,j3,k3,y7,z7⟩:=k0.elem' v3
   obtain ⟨a8,b8,rfl⟩:=j3.form
   obtain ⟨c8,d8,rfl⟩:=k3.form
   refine CZ (hA:=r5) (hj:=rfl) (hlt:=s5) rfl rfl (BH (hl:=rfl) (hc:=t5) rfl ?_)
   refine BL 11 x7 λ iD jD d4 c1 e4=>?_
   replace e0:=e0.stS c1 id (λ _ _=>id)
   replace f0:=f0.stS c1 id (λ _ _=>id)
   refine Au rfl (AT e4 rfl rfl rfl (Bf) (allOne) λ u5 d1 e4=>?_)
   replace e0:=e0.stS d1 (by decide) (by decide)
   replace f0:=f0.stS d1 (by decide) (by decide)
   refine o_z (Am ?_)
   obtain ⟨e8,c0,s0⟩:=bs s0
   refine Bi (λ l' w'=>∃ (f8:Unit) (O':Lab),Q2 l' [(0,(.pointer (some ⟨p0,0,none⟩))),(4,(.slice b1.1 a1.1.length b1.2)),(5,(.slice (some ⟨v2,0,none⟩) t2.length u2)),(8,(.pointer (some ⟨a0.1,0,none⟩))),(9,(.int .i64 f1)),(10,(.int .i64 (q5:Int))),(23,(.slice r2 x0.t.ops.length s2)),(24,(.int .i64 (x0.t.ops.length:Int))),(25,(.int .i64 (p6:Int))),(39,(.slice f3 x0.t.ops.length g3)),(40,(.int .i64 (x0.t.ops.length:Int))),(41,(.int .i64 (q5:Int))),(55,(.bool e8))]/\Bm w O0 w' O'/\Ob 2 w' O' (.pointer (some ⟨p0,0,none⟩)) x0/\Rw 12 w' O' 3 (.slice b1.1 a1.1.length b1.2) a1.1/\Rw 8 w' O' 4 (.slice (some ⟨v2,0,none⟩) t2.length u2) a1.2/\Lc 10 w' O' a0.1 43 [(.string q0.name),(.int .i64 q0.cost),(.slice a0.2.1.1 d0.1.length a0.2.1.2),(.slice a0.2.2.1 d0.2.length a0.2.2.2)]/\Vb w' (FrS [2] w' O') (.slice a0.2.1.1 d0.1.length a0.2.1.2) d0.1/\Vb w' (FrS [2] w' O') (.slice a0.2.2.1 d0.2.length a0.2.2.2) d0.2/\Vb w' (Fr 0 w' O') (.slice r2 x0.t.ops.length s2) x0.t.ops/\Vb w' (Fr 0 w' O') (.slice f3 x0.t.ops.length g3) x0.t.ops) ?_ ?_
   ·
    refine Ah (At rfl (At rfl ?_))
    obtain ⟨g8,h8,c0⟩:=bs c0
    replace b0:=(b0.st c1).st d1
    obtain ⟨kD,lD,z8,v5,w5,x5,rfl⟩:=b0.elem h8
    refine CZ (hA:=v5) (hj:=rfl) (hlt:=w5) rfl rfl (AQ (hc:=cat0 x5) rfl (Eh rfl (At rfl ?_)))
    rcases C8 (!g8) with q2|q2
    ·
     try rw [q2]
     replace c0:=ip c0 q2
     refine AB rfl rfl ?_
     replace m0:=(m0.st c1).st d1
     refine BH (hl:=rfl) (hc:=(m0.1).cellsAt) rfl (AB rfl rfl (BH (hl:=rfl) (hc:=(e4.1).cellsAt) rfl (AB rfl rfl ?_)))
     obtain ⟨i8,j8,c0⟩:=bs c0
     replace j3:=(j3.st c1).st d1
     replace k3:=(k3.st c1).st d1
     refine Du (O:=d4) (IS (λ _ h=>h) (Vb.mono (F:=FrS [2] u5 d4) (Vb.ofAgg (cs:=[(.string q0.name),(.int .i64 q0.cost),(.slice a0.2.1.1 d0.1.length a0.2.1.2),(.slice a0.2.2.1 d0.2.length a0.2.2.2)]) (x:=(⟨q0.name,q0.cost,d0.1,d0.2⟩:Opr)) rfl ⟨_,_,rfl,(Vb.subS e0 (by decide)),(Vb.subS f0 (by decide)),t7,s7⟩) FrS.lt) (Vb.mono (F:=Fr 0 u5 d4) (Vb.ofAgg (cs:=[(.string p2.name),(.int .i64 p2.cost),(.slice a8 p2.pre.length b8),(.slice c8 p2.effs.length d8)]) (x:=p2) rfl ⟨_,_,rfl,j3,k3,y7,z7⟩) Fr.lt) j8) rfl λ mD nD oD j1 k8=>?_
     obtain rfl:=k8.bool
     replace e0:=e0.stS j1 id (λ _ _=>id)
     replace f0:=f0.stS j1 id (λ _ _=>id)
     cases i8
     case false =>
      replace c0:=iF c0
      refine BJ rfl rfl (o_z ?_)
      obtain rfl:=sm c0
      have k1:=(c1.an d1).an j1
      exact ⟨(),_,⟨rfl,rfl,rfl,rfl,rfl,rfl,rfl,rfl,rfl,rfl,rfl,rfl,rfl,trivial⟩,hB.st k1,n0.st k1,o0.st k1,b0.st j1,m0.st j1,e0,f0,j0.st k1,k0.st k1⟩
     replace c0:=iT c0
     refine BJ rfl rfl (o_z ?_)
     obtain rfl:=sm c0
     have l1:=(c1.an d1).an j1
     exact ⟨(),_,⟨rfl,rfl,rfl,rfl,rfl,rfl,rfl,rfl,rfl,rfl,rfl,rfl,rfl,trivial⟩,hB.st l1,n0.st l1,o0.st l1,b0.st j1,m0.st j1,e0,f0,j0.st l1,k0.st l1⟩
    try rw [q2]
    replace c0:=im' c0 q2
    refine AA rfl rfl (AA rfl rfl (AA rfl rfl (BK rfl rfl (o_z ?_))))
    obtain rfl:=sm c0
    have e1:=c1.an d1
    exact ⟨(),_,⟨rfl,rfl,rfl,rfl,rfl,rfl,rfl,rfl,rfl,rfl,rfl,rfl,rfl,trivial⟩,hB.st e1,n0.st e1,o0.st e1,b0,m0.st e1,e0,f0,j0.st e1,k0.st e1⟩
   have y0:=c1.an d1
   replace hB:=hB.st y0
   replace j0:=j0.st y0
   replace o0:=o0.st y0
   replace b0:=b0.st y0
   replace m0:=m0.st y0
   replace k0:=k0.st y0
   replace n0:=n0.st y0
   rintro pD qD ⟨f8,rD,y5,hB,n0,o0,b0,m0,e0,f0,j0,k0⟩
   refine Bg _ y5 ?_
   refine BP rfl (λ f4=>?_) (λ f4=>?_)
   ·
    replace s0:=ip s0 f4
    refine Am (Ah (At rfl (Au rfl (o_z (Cq ?_)))))
    obtain rfl:=sm s0
    exact show Exists _ from ⟨_,(),i3 _ rfl,⟨rfl,rfl,rfl,rfl,rfl,rfl,rfl,trivial⟩,_,hB,n0,o0,b0,j0,rk318⟩
   replace s0:=im' s0 f4
   refine AN ?_
   obtain rfl:=sm s0
   exact show Exists _ from ⟨_,(),rfl,⟨rfl,rfl,rfl,rfl,rfl,rfl,rfl,rfl,rfl,rfl,rfl,trivial⟩,_,hB,n0,o0,b0,m0,e0,f0,j0,k0,o2⟩
  have d2:=e3.an n2
  replace hB:=hB.st d2
  replace j0:=j0.st d2
  replace o0:=o0.st d2
  replace b0:=b0.st d2
  rintro sD tD ⟨l8,uD,rfl,z5,vD,hB,n0,o0,b0,j0,o2⟩
  replace h0:=BF h0
  refine Bg _ z5 ?_
  refine Am (Am (Ah (At rfl (Eq rfl rfl (λ g4=>?_) λ g4=>?_))))
  ·
   replace h0:=ip h0 g4
   refine o_z (Aj rfl (Am (Ah (Au rfl (Au rfl (o_z (AM ?_)))))))
   obtain rfl:=sm h0
   obtain rfl:=x3 _ rfl
   obtain rfl:=sm (Eb hm)
   obtain ⟨O',hS',hz,hl⟩:=hE.leave (λ q=>if q=2 then i0 else 0) rfl hB
   exact T4 rfl (Bc rfl) (Bc rfl) ⟨O',hS',_,_,(Ob.leave n0 hz (hl 2 (by decide) (by decide)) j4.2),rfl,(Vb.mono (Vb.nil _ _) hz),vBool⟩
  replace h0:=im h0 g4
  refine o_z (Ae rfl (AN (Am (Ah (At rfl (At rfl ?_))))))
  obtain ⟨wD,m8,h0⟩:=bs h0
  obtain ⟨n8,a6⟩:=Br m8
  obtain ⟨xD,yD,a9,w3,b6,b9,rfl⟩:=b0.elem a6
  refine CZ (hA:=w3) (hj:=n8) (hlt:=b6) rfl rfl ?_
  refine Fi rfl b0 (a:=true) vBool w3 rfl rfl (AD a6) λ zD l3 b0=>?_
  refine o_z (Ah (At rfl (At rfl ?_)))
  obtain ⟨aE,i4,h0⟩:=bs h0
  obtain ⟨i4,o8,p8⟩:=Bt i4
  replace o0:=o0.st l3
  refine FE rfl (a:=l8) o0 (vInt o2) (λ _=>rfl) rfl o8 p8 ⟨rfl,rfl⟩ λ bE q8 r8 cE dE m3 c6=>?_
  rw [<- i4] at c6 ⊢
  refine Au rfl (o_z ?_)
  obtain rfl:=sm h0
  exact show Exists _ from ⟨_,(q8,r8),rfl,⟨rfl,rfl,rfl,rfl,rfl,rfl,trivial⟩,_,(hB.st l3).st m3,(n0.st l3).st m3,c6,b0.st m3,(j0.st l3).st m3⟩
 rintro eE fE ⟨gE,iE,rfl,d6,jE,hB,x2,o0,b0,j0⟩
 replace hm:=BF hm
 refine Bg _ d6 ?_
 refine Am (Ah (At rfl (Au rfl (Au rfl (o_z (AM ?_))))))
 obtain ⟨kE,e6,o0⟩:=o0.freeze
 obtain rfl:=sm hm
 replace hB:=hB.st e6
 obtain ⟨O',hS',hz,hl⟩:=hE.leave (λ q=>if q=2 then i0 else 0) rfl hB
 replace x2:=x2.st e6
 exact T4 rfl (Bc rfl) (Bc rfl) ⟨O',hS',_,_,(Ob.leave x2 hz (hl 2 (by decide) (by decide)) j4.2),rfl,(Vb.mono o0 hz),vBool⟩
noncomputable def DI (h:Fnd) (i:List Int):Option Swp :=
  bnd (BW h.x.vars) λ e=>bnd (rng (ρ:=Swp) (λ (j:Nat) (f:List Int) (g:(List (List Int)))=>bnd (BW f) λ b=>bnd (R8 24 g [b]) λ c=>some (.next c)) h.x.vals 0 ([]:List (List Int))) λ a=>fin a λ (d:(List (List Int)))=>some (⟨e,d,i⟩:Swp)
theorem IT {w:World} {O:Lab} {p0 i0:Nat} {x0:Fnd} (t0:Ob i0 w O (.pointer (some ⟨p0,0,none⟩)) x0) {vx1:Value} {x1:List Int} (q1:Vb w (Fr 0 w O) vx1 x1) {r:Swp} (hm:DI x0 x1=some r) :
    Fn prog 103 [(.pointer (some ⟨p0,0,none⟩)),vx1] w λ v w'=>∃ O',St (eT i0) w O w' O'/\Ob i0 w' O' (.pointer (some ⟨p0,0,none⟩)) x0/\Vb w' (Fr 0 w' O') v r:=by
 obtain ⟨O0,hE,s2,z2⟩:=V0 (w:=w) (O:=O) t0.2
 have t0':=Ob.leave t0 s2 z2 (j:=2) (by decide)
 have hB:Bm w O0 w O0:=Bm.refl
 replace q1:=q1.mono s2
 obtain ⟨A3,c4,rfl⟩:=q1.form
 refine AK func103 rfl ntmps103 ?_
 unfold DI at hm
 refine Am (Ah (BL 3 O0 λ g5 w6 O7 S8 h9=>?_))
 refine o_z (Am (Ah (At rfl (CV rfl ?_))))
 replace t0':=t0'.st S8
 obtain ⟨a3,g4,h4,i4,j4,k4,l4,m4,n4,o4,p4,q4,t2,b3,f1,r1,s1,t1,u1,v1,w1,g1,a1,y1,z1,a2,c3,d3⟩:=Fnd.opn t0' 2 4 5 6 7 8 (by decide)
 obtain ⟨r4,s4,rfl⟩:=r1.form
 obtain ⟨t4,u4,rfl⟩:=s1.form
 obtain ⟨v4,w4,rfl⟩:=t1.form
 obtain ⟨x4,y4,rfl⟩:=u1.form
 obtain ⟨z4,a5,rfl⟩:=v1.form
 obtain ⟨b5,c5,rfl⟩:=w1.form
 obtain ⟨d5,e5,rfl⟩:=g1.form
 obtain ⟨u2,v2,rfl⟩:=a1.form
 obtain ⟨f5,h5,rfl⟩:=y1.form
 obtain ⟨i5,j5,rfl⟩:=z1.form
 obtain ⟨k5,l5,rfl⟩:=a2.form
 refine AO rfl (AO rfl (AQ (hc:=Blk.cell (i:=6) (f1.1) rfl) rfl ?_))
 obtain ⟨b1,e3,hm⟩:=bs hm
 refine FF 9 (O:=a3) ((Es (λ _ h=>h) (g1).all e3).mono λ _ _ hh=>⟨hh.1,hh.2.ints⟩) rfl rfl λ b2 c2 m5 f3 h1 g0=>?_
 refine At rfl (DU rfl rfl ?_)
 refine BL 10 f3 λ w2 n5 o5 c1 e0=>?_
 refine AT e0 rfl rfl rfl (Bf) (allOne) λ p5 d1 e0=>?_
 refine o_z (Am (Am (Ah (At rfl (CV rfl (AO rfl (AO rfl ?_)))))))
 replace f1:=((f1.st h1).st c1).st d1
 refine AQ (hc:=Blk.cell (i:=7) (f1.1) rfl) rfl (AU rfl ?_)
 replace a1:=((a1.st h1).st c1).st d1
 have f2:=Cv a1.len
 have q5:=rngNat f2
 refine At rfl (o_z ?_)
 have a0:=(h1.an c1).an d1
 replace r1:=r1.st a0
 replace s1:=s1.st a0
 replace t1:=t1.st a0
 replace u1:=u1.st a0
 replace v1:=v1.st a0
 replace w1:=w1.st a0
 replace g1:=g1.st a0
 replace y1:=y1.st a0
 replace z1:=z1.st a0
 replace a2:=a2.st a0
 obtain ⟨g3,i1,g2,h2,u0⟩:=Fnd.shut (x:=x0) (l0:=2) (by decide) f1 r1 s1 t1 u1 v1 w1 g1 a1 y1 z1 a2 c3 d3
 have d0:=(a1.lend).shutS i1 g2 h2 [2] (by decide)
 obtain ⟨x2,i2,hm⟩:=bs hm
 replace hB:=(((((hB.st S8).st t2).st h1).st c1).st d1).st i1
 replace h9:=((((h9.st t2).st h1).st c1).st d1).st i1
 replace g0:=((g0.st c1).st d1).st i1
 replace e0:=e0.st i1
 refine EB (X:=(Option Addr×Nat)) (x0.x.vals.length) i2 rfl f2 (λ j1 e1=>[(4,(.pointer (some ⟨g5,0,none⟩))),(5,(.pointer (some ⟨w2,0,none⟩))),(20,(.slice u2 x0.x.vals.length v2))]) (λ j1 e1 w'=>∃ O':Lab,Bm w O0 w' O'/\Lc 3 w' O' g5 55 [(.slice none 0 0),(.slice none 0 0),(.slice none 0 0)]/\Lc 10 w' O' w2 55 [(.slice b2 b1.length c2),(.slice e1.1 j1.length e1.2),(.slice A3 x1.length c4)]/\Rw 9 w' O' 3 (.slice b2 b1.length c2) b1/\Rw 13 w' O' 22 (.slice e1.1 j1.length e1.2) j1/\Vb w' (FrS [2] w' O') (.slice u2 x0.x.vals.length v2) x0.x.vals/\Ob 2 w' O' (.pointer (some ⟨p0,0,none⟩)) x0) (none,0) ⟨g3,hB,h9,e0,g0,(Rw.nil 13 (by decide)),d0,u0⟩ ⟨rfl,rfl,rfl,rfl,rfl,trivial⟩ (λ _ _=>rfl) ?_ ?_
 ·
  rintro r5 s5 j1 e1 h3 i3 k1 ⟨j2,hB,h9,e0,g0,b0,d0,u0⟩ c0 d2 e2
  have rk94:=U9 k1 f2
  refine Am (Ah ?_)
  obtain ⟨j3,k3,y2,l1,m1,n1,l3,rfl,m0⟩:=d0.elem' k1
  replace m0:=Vb.of_slice m0
  obtain ⟨m3,n3,rfl⟩:=m0.form
  refine CZ (hA:=l1) (hj:=rfl) (hlt:=m1) rfl rfl (AQ (hc:=cat0 n1) rfl (Au rfl (o_z ?_)))
  refine Bl [(4,[11]),(5,[13])] j2 ?_
  refine AH (fuel:=7) [] [(2,true)] rfl (AJ rfl rfl (AC ?_))
  refine AH (fuel:=5) [11] (AX [0,1]) rfl (AL rfl rfl (AZ (hc:=Bn e0 1 rfl) rfl rfl (AC (AF (i:=3) rfl ?_))))
  obtain ⟨k2,l2,c0⟩:=bs c0
  refine FF 11 (O:=j2) ((Es (λ _ h=>h) (Vb.mono (F:=FrS [2] h3 j2) m0 FrS.lt) l2).mono λ _ _ hh=>⟨hh.1,hh.2.ints⟩) rfl rfl λ o3 p3 q3 r3 h0 v0=>?_
  have hZ:=lZ h0
  replace d0:=d0.stS h0 id (λ _ _=>id)
  refine AV [(4,[11]),(5,[13])] hZ (AF (i:=4) rfl ?_)
  obtain ⟨m2,j0,v0⟩:=v0.freeze
  have hZ:=j0.lst [11] (λ _ h=>by cases h;decide)
  replace d0:=d0.stS j0 (by decide) (by decide)
  refine DW 12 m2 (xs:=([k2]:List (List Int))) rfl rfl rfl ⟨v0,trivial⟩ rfl λ s3 t3 u3 k0 n2=>?_
  replace hZ:=hZ.cmp k0 [11] (λ _ h=>h.elim) rfl
  replace d0:=d0.stS k0 id (λ _ _=>id)
  refine AV [(5,[13])] hZ (AF (i:=5) rfl ?_)
  obtain ⟨v3,w0,c0⟩:=bs c0
  obtain ⟨w0,o2,p2⟩:=Bt w0
  replace b0:=((b0.st h0).st j0).st k0
  refine EL rfl b0 (n2.rd) rfl rfl o2 p2 rfl λ q2 r2 w3 x3 n0 o1=>?_
  rw [<- w0] at o1 ⊢
  have hZ:=n0.lst [13] (λ _ h=>by cases h;decide)
  replace d0:=d0.stS n0 (by decide) (by decide)
  refine AV [] hZ ?_
  refine AH (fuel:=1) [] [(6,true)] rfl (AL rfl rfl (AC (AF (i:=7) rfl ?_)))
  replace e0:=(((e0.st h0).st j0).st k0).st n0
  refine AT e0 rfl rfl rfl (Bf) (allOne) λ y3 y0 e0=>?_
  replace d0:=d0.stS y0 (by decide) (by decide)
  refine Bz (Ba ?_)
  obtain rfl:=sm c0
  have f0:=(((h0.an j0).an k0).an n0).an y0
  exact show Exists _ from ⟨_,(q2,r2),rfl,⟨rfl,rfl,rfl,rfl,rfl,trivial⟩,_,hB.st f0,h9.st f0,e0,g0.st f0,o1.st y0,d0,u0.st f0⟩
 rintro z3 a4 ⟨z0,o0,rfl,p1,b4,hB,h9,e0,g0,b0,d0,u0⟩
 replace hm:=BF hm
 refine Bg _ p1 ?_
 refine Am (Ah (BH (hl:=rfl) (hc:=(e0.1).cellsAt) rfl ?_))
 refine AT h9 rfl rfl rfl (Bf) (allOne) λ d4 q0 h9=>?_
 refine o_z (AM ?_)
 replace g0:=g0.st q0
 obtain ⟨e4,r0,g0⟩:=g0.freeze
 replace b0:=(b0.st q0).st r0
 obtain ⟨f4,s0,b0⟩:=b0.freeze
 obtain rfl:=sm hm
 replace hB:=((hB.st q0).st r0).st s0
 obtain ⟨O',hS',hz,hl⟩:=hE.leave (λ q=>if q=2 then i0 else 0) rfl hB
 replace h9:=(h9.st r0).st s0
 replace g0:=g0.st s0
 replace u0:=((u0.st q0).st r0).st s0
 exact T8 rfl (Dc (cs:=[(.slice b2 b1.length c2),(.slice o0.1 z0.length o0.2),(.slice A3 x1.length c4)]) rfl rfl h9.1.cellsAt) ⟨O',hS',(Ob.leave u0 hz (hl 2 (by decide) (by decide)) t0.2),(Vb.mono (Vb.ofAgg (cs:=[(.slice b2 b1.length c2),(.slice o0.1 z0.length o0.2),(.slice A3 x1.length c4)]) (x:=(⟨b1,z0,x1⟩:Swp)) rfl ⟨_,_,_,rfl,g0,b0,(q1.z hB)⟩) hz)⟩
end
section
open Go Go.RowKit
instance:DecidableEq Fct:=λ a b=>if c:a.var=b.var/\a.val=b.val then isTrue (by cases a;cases b;cases c.1;cases c.2;rfl) else isFalse λ e=>c (by rw [e];exact ⟨rfl,rfl⟩)
def R4 (a:Fct):Value:=.agg #[.int .i64 a.var,.int .i64 a.val]
theorem Kh (a b:Fct) (w:World):(Op.equal 45 (R4 a) (R4 b)).run prog w=.ok (decide (a=b)) w:=by
  have c:∀ (n:Nat) (x y:Int) (w:World),(Op.equalIn (n + 1) 3 (.int .i64 x) (.int .i64 y)).run prog w=.ok (x == y) w:=λ n x y w=>by simp [Op.equalIn,run_underlying underlying3]
  have hs:prog.stoodInHeld 45=false:=by kernel_rfl
  have hd:∀ n:Nat,(Op.equalIn (n + 2) 45 (R4 a) (R4 b)).run prog w=.ok (decide (a=b)) w:=λ n=>by
    rw [Op.equalIn]
    simp [R4,run_underlying underlying45,hs,Go.part,FV (P:=prog) (t:=3),c]
    obtain ⟨x,y⟩:=a
    obtain ⟨u,v⟩:=b
    by_cases d:x=u<;>by_cases e:y=v<;>simp [d,e]
  exact hd 9998
theorem Fx (a:Fct) (e:Bool) (w:World):(Instr.checkKey e 10000 45 (R4 a)).run prog w=.ok () w:=by
  have b:∀ (n:Nat) (x:Int) (w:World),(Instr.checkKey e (n + 1) 3 (.int .i64 x)).run prog w=.ok () w:=λ n x w=>G0 underlying3 (k:=.int .i64 x) rfl e n
  have hd:∀ n:Nat,(Instr.checkKey e (n + 2) 45 (R4 a)).run prog w=.ok () w:=λ n=>by
    rw [Instr.checkKey]
    simp [R4,run_underlying underlying45,Go.part,FV (P:=prog) (t:=3),b]
  exact hd 9998
section
variable {V : Type}
def Aac:List (Fct×V)->Fct->Bool
  | [],_=>false
  | p :: r,k=>if p.1=k then true else Aac r k
def fget (z:V):List (Fct×V)->Fct->V
  | [],_=>z
  | p :: r,k=>if p.1=k then p.2 else fget z r k
def fput:List (Fct×V)->Fct->V->List (Fct×V)
  | [],k,v=>[(k,v)]
  | p :: r,k,v=>if p.1=k then (k,v) :: r else p :: fput r k v
def U8:List (Fct×V)->Fct->Option Nat
  | [],_=>none
  | p :: r,k=>if p.1=k then some 0 else (U8 r k).map (· + 1)
def AskF (a:Fct) (b:List MapEntry) (i:Nat) (q:Option (Nat×Value)):Prop:=∀ w,(Instr.findAsking 45 (R4 a) b i).run prog w=.ok q w
theorem AskF.find {a:Fct} {b:List MapEntry} {q:Option (Nat×Value)} (g:AskF a b 0 q) (w:World):(Instr.findKey 45 (R4 a) b).run prog w=.ok q w:=by
  cases b with
  | nil =>
    have c:=g w
    rw [Instr.findAsking] at c
    simp [Instr.findKey,run_underlying underlying45,Result.andThen,Instr.findNow]
    simpa using c
  | cons e b =>
    have c:=g w
    have hn:∀ d v,(∃ f,d=TypeDesc.struct f)->Instr.sameNow d (R4 a) v=none:=by rintro d v ⟨f,rfl⟩;rfl
    simp only [Instr.findKey,Sem.run_bind,run_underlying underlying45,Result.andThen,Instr.findNow,hn _ _ ⟨_,rfl⟩]
    exact c
theorem FH (a:Fct):∀ (c:List MapEntry) (x:List (Fct×V)) (i:Nat),c.map (·.key)=x.map (λ p=>R4 p.1) →
    (U8 x a=none/\AskF a c i none/\Aac x a=false/\(∀ z,fget z x a=z)/\∀ v,fput x a v=x ++ [(a,v)]) \/
    ∃ j e p,U8 x a=some j/\c[j]?=some e/\x[j]?=some p/\AskF a c i (some (i + j,e.val))/\e.key=R4 a/\Aac x a=true/\(∀ z,fget z x a=p.2)/\∀ v,fput x a v=x.set j (a,v)
  | [],[],_,_=>.inl ⟨rfl,λ w=>by rw [Instr.findAsking];rfl,rfl,λ _=>rfl,λ _=>rfl⟩
  | [],_ :: _,_,h=>by simp at h
  | _ :: _,[],_,h=>by simp at h
  | e :: c,p :: x,i,h=>by
    rw [M7,M7] at h
    injection h with f k
    by_cases b:p.1=a
    . refine .inr ⟨0,e,p,by simp [U8,b],rfl,rfl,λ w=>?_,by rw [f,b],by simp [Aac,b],λ z=>by simp [fget,b],λ v=>by simp [fput,b]⟩
      rw [Instr.findAsking]
      simp [f,Kh,b,Result.andThen]
    . have d:¬ a=p.1:=λ e=>b e.symm
      rcases FH a c x (i + 1) k with ⟨g,g1,g2,g3,g4⟩|⟨j,e',p',g,g1,g2,g3,g4,g5,g6,g7⟩
      . refine .inl ⟨by simp [U8,b,g],λ w=>?_,by simp [Aac,b,g2],λ z=>by simp [fget,b,g3],λ v=>by simp [fput,b,g4]⟩
        rw [Instr.findAsking]
        simp [f,Kh,d,Result.andThen]
        exact g1 w
      . refine .inr ⟨j + 1,e',p',by simp [U8,b,g],by simpa using g1,by simpa using g2,λ w=>?_,g4,by simp [Aac,b,g5],λ z=>by simp [fget,b,g6],λ v=>by simp [fput,b,g7]⟩
        rw [Instr.findAsking]
        simp [f,Kh,d,Result.andThen]
        have:=g3 w
        rw [show i + 1 + j=i + (j + 1) from by omega] at this
        exact this
end
def LkF (z:Value) (w:World) (r:Nat) (a:Fct) (v:Value) (b:Bool):Prop:=∃ c ck q,w.heap[r]?=some (.map c ck)/\AskF a c.toList 0 q/\v=(match q with|some p=>p.2|none=>z)/\b=q.isSome
theorem LkF.keep {z:Value} {w w':World} {r:Nat} {a:Fct} {v:Value} {b:Bool} (d:LkF z w r a v b) (e:w'.heap[r]?=w.heap[r]?):LkF z w' r a v b:=by
  obtain ⟨c,ck,q,h1,h2⟩:=d
  exact ⟨c,ck,q,e.trans h1,h2⟩
section
variable {l : Env} {w : World} {dst : Option Tmp} {ty : TypeId} {pos : String} {aft : Array Edge}
theorem PW {t e:TypeId} [f:TMap prog t 45 e] {z:Value} {size bytes:Nat} [TInfo prog e z size bytes] {x y:Operand} {r:Nat} {a:Fct} {v:Value} {b:Bool} (g:opv l x=some (.map (some r))) (h:opv l y=some (R4 a)) (hv:LkF z w r a v b) :
    Ev prog ⟨dst,.lookup t x y false,ty,pos,aft,none⟩ l w v:=λ _ _ d c=>by
  obtain ⟨i,ck,q,h1,h2,h3,h4⟩:=hv
  have hb:(dr w d).heap[r]?=some (.map i ck):=h1
  subst h3
  cases q with
  | none=>simp [execOp,c.eval g,c.eval h,Instr.lookup,run_underlying f.eq,D7 hb,Fx,h2.find,Result.andThen,Hh (P:=prog) (t:=e)]
  | some p=>simp [execOp,c.eval g,c.eval h,Instr.lookup,run_underlying f.eq,D7 hb,Fx,h2.find,Result.andThen]
end
def X6 (a:List MapEntry) (ck:Nat) (key v:Value):Option Nat->List MapEntry
  | none=>a ++ [{ key:=key,val:=v,born:=ck }]
  | some j=>a.modify j λ e=>{ e with key:=key,val:=v }
section
variable {n : Nat} {ops : Array Oper} {Q : Q8} {rest : List Oper} {l : Env} {w : World} {d : Tmp} {ty : TypeId} {pos : String} {aft : Array Edge}
theorem Nq (a:Fct) (w:World):(Instr.keyThatStays (R4 a) (R4 a)).run prog w=.ok (R4 a) w:=by
  simp [Instr.keyThatStays,R4,Instr.sameBits]
set_option maxRecDepth 100000 in
theorem TF {V:Type} {t e:TypeId} [o:TMap prog t 45 e] {x y u:Operand} {r ck:Nat} {a:Fct} {v:Value} {b:List MapEntry} {xs:List (Fct×V)} (hb:w.heap[r]?=some (.map b.toArray ck)) (g:b.map (·.key)=xs.map (λ p=>R4 p.1)) (s:opv l x=some (.map (some r))) (z:opv l y=some (R4 a)) (hu:opv l u=some v)
    (D:∀ w' h,w'.os=w.os->w'.tape=w.tape->w'.output=w.output->w'.heap.size=w.heap.size->w'.heap[r]?=some (.map (X6 b ck (R4 a) v (U8 xs a)).toArray h)->(∀ q,q≠r->w'.heap[q]?=w.heap[q]?)->owp prog n ops Q rest l w'):owp prog n ops Q (⟨none,.mapUpdate t x y u,ty,pos,aft,none⟩ :: rest) l w:=λ A d f=>by
  refine wpList_plain rfl λ C B=>?_
  have c:(dr w d).heap[r]?=some (.map b.toArray ck):=hb
  unfold Oper.wp
  rcases FH a b xs 0 g with ⟨i,g1,_⟩|⟨j,e',p,i,g1,g2,g3,g4,_⟩
  . have hr:(execOp A.eval ⟨none,.mapUpdate t x y u,ty,pos,aft,none⟩).run prog (dr w d)=.ok .skip { (dr w d) with heap:=(dr w d).heap.setIfInBounds r (.map (b.toArray.push { key:=R4 a,val:=v,born:=ck }) (ck + 1)) }:=by
      simp [execOp,f.eval s,f.eval z,f.eval hu,Instr.mapUpdate,run_underlying o.eq,D7 c,Fx,g1.find,D8 _ c,Result.andThen]
    rw [hr]
    refine B _ _ (D { w with heap:=w.heap.setIfInBounds r (.map (b.toArray.push { key:=R4 a,val:=v,born:=ck }) (ck + 1)) } (ck + 1) rfl rfl rfl (by simp) ?_ (λ q k=>(K3 hb).2 q k) _ d f)
    rw [i]
    simpa [X6] using (K3 hb).1
  . have hj:b.toArray[j]?=some e':=by simpa using g1
    have m:b[j]?=some e':=g1
    rw [N4] at g3
    have hr:(execOp A.eval ⟨none,.mapUpdate t x y u,ty,pos,aft,none⟩).run prog (dr w d)=.ok .skip { (dr w d) with heap:=(dr w d).heap.setIfInBounds r (.map (b.toArray.modify j λ e=>{ e with key:=R4 a,val:=v }) ck) }:=by
      simp [execOp,f.eval s,f.eval z,f.eval hu,Instr.mapUpdate,run_underlying o.eq,D7 c,Fx,g3.find,m,g4,Nq,D8 _ c,Result.andThen]
    rw [hr]
    refine B _ _ (D { w with heap:=w.heap.setIfInBounds r (.map (b.toArray.modify j λ e=>{ e with key:=R4 a,val:=v }) ck) } ck rfl rfl rfl (by simp) ?_ (λ q k=>(K3 hb).2 q k) _ d f)
    rw [i]
    have:=(K3 (o':=.map (b.toArray.modify j λ e=>{ e with key:=R4 a,val:=v }) ck) hb).1
    simpa [X6] using this
end
theorem Rh {V:Type} {b:List MapEntry} {xs:List (Fct×V)} (ck:Nat) (a:Fct) (v:Value) (y:V) (e:b.map (·.key)=xs.map (λ p=>R4 p.1)):(X6 b ck (R4 a) v (U8 xs a)).map (·.key)=(fput xs a y).map (λ p=>R4 p.1):=by
  rcases FH a b xs 0 e with ⟨c,_,_,_,g4⟩|⟨j,e',p,c,g1,g2,g3,g4,_,_,g7⟩
  . rw [c,g4];simp [X6,e]
  . rw [c,g7]
    simp only [X6,N7,<- e]
    apply I3
    intro q
    rw [I4,G1,I5]
    by_cases d:j=q
    . subst d
      have hlt:j < b.length:=AD g1
      simp [g1,hlt]
    . simp [d]
structure MapF (V:Type) where
  l:List (Fct×V)
instance {V:Type} [Rp V]:Ow (MapF V) where
  R w F M v x:=∃ (r:Nat) (a:List MapEntry) (ck:Nat),v=.map (some r)/\w.heap[r]?=some (.map a.toArray ck)/\M r/\a.map (·.key)=x.l.map (λ p=>R4 p.1)/\VA w F a x.l
  agree:=by rintro w w' F M v x ⟨r,a,ck,rfl,hb,hM,hk,hv⟩ a1 a2;exact ⟨r,a,ck,rfl,(a2 r hM).trans hb,hM,hk,λ j e p b c=>(hv j e p b c).agree a1⟩
  mono:=by rintro w F M d f v x ⟨r,a,ck,rfl,hb,hM,hk,hv⟩ a1 a2 a3;exact ⟨r,a,ck,rfl,hb,a2 r hM,hk,λ j e p b c=>(hv j e p b c).mono a1⟩
instance {V:Type} [Rp V]:OwM (MapF V):=⟨by rintro w F M v x ⟨r,es,ck,rfl,_⟩;exact ⟨r,rfl⟩⟩
theorem VA.putF {V:Type} [Rp V] {w:World} {F:Nat→Prop} {d:List MapEntry} {xs:List (Fct×V)} {ck:Nat} {a:Fct} {v:Value} {y:V} (hk:d.map (·.key)=xs.map (λ p=>R4 p.1)) (i:VA w F d xs) (hv:Vb w F v y):VA w F (X6 d ck (R4 a) v (U8 xs a)) (fput xs a y):=by
  have h:d.length=xs.length:=by have:=congrArg List.length hk;simpa using this
  intro q e p b c
  rcases FH a d xs 0 hk with ⟨g,_,_,_,g4⟩|⟨j,e',p',g,g1,g2,g3,g4,_,_,g7⟩
  . rw [g] at b
    rw [g4] at c
    simp only [X6] at b
    by_cases f:q < d.length
    . rw [B8 f] at b
      rw [B8 (by omega)] at c
      exact i q e p b c
    . rw [B4 (by omega)] at b
      rw [B4 (by omega)] at c
      cases hz:q - d.length with
      | zero =>
        rw [hz] at b
        rw [show q - xs.length=0 from by omega] at c
        simp at b c
        subst b;subst c
        exact hv
      | succ m=>rw [hz] at b;simp at b
  . rw [g] at b
    rw [g7] at c
    simp only [X6] at b
    rw [G1] at b
    rw [I5] at c
    by_cases f:j=q
    . subst f
      have hlt:=AD g2
      rw [g1] at b
      simp [hlt] at b c
      subst b;subst c
      exact hv
    . simp [f] at b c
      exact i q e p b c
section
variable {V : Type} [Rp V] {i : Nat} {w : World} {O : Lab} {r : Nat} {x : MapF V}
theorem MapF.at (a:Ob i w O (.map (some r)) x):Fr i w O r:=by
  obtain ⟨⟨r',es,ck,hv,hb,hM,_⟩,_⟩:=a
  injection hv with hv
  injection hv with hv
  subst hv
  exact hM
theorem MapF.get (d:Ob i w O (.map (some r)) x) (a:Fct) {z:Value} {z0:V} (hz:Vb w (Fr 0 w O) z z0):∃ v,LkF z w r a v (Aac x.l a)/\Vb w (Fr 0 w O) v (fget z0 x.l a):=by
  obtain ⟨⟨r',b,ck,hv,hb,hM,hk,hva⟩,_⟩:=d
  injection hv with hv
  injection hv with hv
  subst hv
  rcases FH a b x.l 0 hk with ⟨c,g1,g2,g3,g4⟩|⟨j,e',p,c,g1,g2,g3,g4,g5,g6,g7⟩
  . exact ⟨z,⟨_,ck,none,hb,by simpa using g1,rfl,g2⟩,by rw [g3];exact hz⟩
  . exact ⟨e'.val,⟨_,ck,some (0 + j,e'.val),hb,by simpa using g3,rfl,g5⟩,by rw [g6];exact hva j e' p g1 g2⟩
end
section
variable {n : Nat} {ops : Array Oper} {Q : Q8} {rest : List Oper} {l : Env} {w : World} {d : Tmp} {ty : TypeId} {pos : String} {aft : Array Edge} {i : Nat} {O : Lab} {r : Nat}
theorem RP {V:Type} [Rp V] {x:MapF V} {t e:TypeId} [TMap prog t 45 e] {m y u:Operand} {a:Fct} {v:Value} {b:V} (h:Ob i w O (.map (some r)) x) (hv:Vb w (Fr 0 w O) v b) (k:opv l m=some (.map (some r))) (o:opv l y=some (R4 a)) (hu:opv l u=some v)
    (I:∀ w',St (eT i) w O w' O->Ob i w' O (.map (some r)) (⟨fput x.l a b⟩:MapF V)->owp prog n ops Q rest l w'):owp prog n ops Q (⟨none,.mapUpdate t m y u,ty,pos,aft,none⟩ :: rest) l w:=by
  obtain ⟨⟨r',es,ck,c,hb,hM',hk,hva⟩,hi⟩:=h
  injection c with c
  injection c with c
  subst c
  refine TF hb hk k o hu λ w' d s z A B C D=>?_
  have f:St (eT i) w O w' O:=⟨s,z,A,by omega,λ q H E=>⟨D q λ e=>E (by rw [e];exact hM'.2),rfl⟩⟩
  have g:¬ (eT i) 0:=λ e=>hi e.symm
  refine I w' f ⟨⟨r,_,d,rfl,C,⟨by rw [B];exact hM'.1,hM'.2⟩,Rh ck a v b hk,?_⟩,hi⟩
  have:=hva.putF (ck:=ck) hk hv (a:=a)
  exact λ j e p F G=>((this j e p F G).agree (f.agree g)).mono (f.fr g)
theorem PX {V:Type} [Rp V] {t:TypeId} (i:Nat)  (O:Lab) (hd:Nat.blt d n=true) (f:∀ g w' a,St nT w O w' a->Ob i w' a (.map (some g)) (⟨[]⟩:MapF V)->owp prog n ops Q rest ((d,.map (some g)) :: l) w') (hi:i≠0:=by decide):owp prog n ops Q (⟨some d,.makeMap t none,ty,pos,aft,none⟩ :: rest) l w :=
  La hd λ w' b hs hb=>f _ w' _ (b.st O λ _=>i) ⟨⟨w.heap.size,[],0,rfl,hb,⟨by omega,Ff (P1 _)⟩,rfl,λ j e p c _=>by simp at c⟩,hi⟩
theorem SJ {t e:TypeId} [TMap prog t 45 e] {z:Value} {size bytes:Nat} [TInfo prog e z size bytes] {x y:Operand} {r:Nat} {v:Value} {b:Bool} (a:Fct) (hv:LkF z w r a v b) (c:opv l x=some (.map (some r))) (f:opv l y=some (R4 a)) (hd:Nat.blt d n=true) (g:owp prog n ops Q rest ((d,v) :: l) w):owp prog n ops Q (⟨some d,.lookup t x y false,ty,pos,aft,none⟩ :: rest) l w:=Bp (PW c f hv) hd g
theorem Ri {j:Nat} {f:FuncId} [Callable prog f] {xs:List Operand} {vs:List Value} {c:Array TypeId} {O:Lab} {x:MapF Bool} (hc:Fn prog f vs w λ v w'=>∃ a,St nT w (λ _=>0) w' a/\Ob j w' a v x) (g:R6 l xs=some vs) (hd:Nat.blt d n=true)
    (s:∀ v w' a,St nT w O w' a->Ob j w' a v x->owp prog n ops Q rest ((d,v) :: l) w'):owp prog n ops Q (⟨some d,.call { callee:=.value (.func f),args:=xs.toArray,argTypes:=c },ty,pos,aft,none⟩ :: rest) l w :=
  BD g (hd:=hd) hc λ v w' ⟨o,hS,hM⟩=>by
    obtain ⟨⟨r,es,ck,rfl,hb,hr,hk,hv⟩,hj⟩:=hM
    have b:w.heap.size<=r:=by
      rcases N2 r w.heap.size with hlt|hge
      . exact absurd ((hr.2.symm.trans (hS.same r hlt λ s=>s).2)) hj
      . exact hge
    have h:Ext w w':=⟨hS.os,hS.tape,hS.output,hS.size,λ k hk=>(hS.same k hk λ s=>s).1⟩
    refine s _ w' (upO O w.heap.size λ k=>if k=r then j else 0) (h.st O _) ⟨⟨r,es,ck,rfl,hb,⟨hr.1,by rw [Ff b,if_pos rfl]⟩,hk,λ q e p i m=>?_⟩,hj⟩
    rw [(hv q e p i m).bool]
    exact vBool
variable {S : World → Prop} {rr : List (Nat × Bool)} {i' : Nat}
theorem Ze {t e:TypeId} [TMap prog t 45 e] {z:Value} {size bytes:Nat} [TInfo prog e z size bytes] {x y:Operand} {r:Nat} {v:Value} {b:Bool} (a:Fct) (hv:∀ w',S w'->LkF z w' r a v b) (hi:ops[i']?=some ⟨some d,.lookup t x y false,ty,pos,aft,none⟩) (c:opv l x=some (.map (some r))) (f:opv l y=some (R4 a)) (hd:Nat.blt d n=true) (h:hwp prog n ops Q S rr ((d,v) :: l) w):hwp prog n ops Q S ((i',true) :: rr) l w:=Az hi (Bh (λ w' g=>PW c f (hv w' g)) hd h)
theorem Zf {t e:TypeId} [TMap prog t 45 e] {z:Value} {size bytes:Nat} [TInfo prog e z size bytes] {x y:Operand} {r:Nat} {v:Value} {b:Bool} (a:Fct) (hv:∀ w',S w'->LkF z w' r a v b) (c:opv l x=some (.map (some r))) (f:opv l y=some (R4 a)) (hd:Nat.blt d n=true) (h:hwp prog n ops Q S rr ((d,v) :: l) w):hwq prog n ops Q S ⟨some d,.lookup t x y false,ty,pos,aft,none⟩ rr l w:=Bh (λ w' g=>PW c f (hv w' g)) hd h
end
end
section
open Go Go.RowKit
attribute [local irreducible] ewp owp hwp hwq hws Ev Evg Fn Q4 R7 R2 Q9
instance:TMap prog 68 9 3:=⟨underlying68⟩
instance:TKey prog 9 ByteArray:=⟨underlying9⟩
instance:TMap prog 100 45 4:=⟨underlying100⟩
abbrev MeT:=Fnd->Int->Option (Swp×Bool×Fnd)
def MeC (h:MeT):Prop:=∀ {w:World} {O:Lab} {b c:Nat} {e:Fnd},Ob c w O (.pointer (some ⟨b,0,none⟩)) e→∀ {d:Int},P9 d→∀ {r:Swp×Bool×Fnd},h e d=some r →
    Fn prog 77 [(.pointer (some ⟨b,0,none⟩)),(.int .i64 d)] w λ v w'=>∃ a,St (eT c) w O w' a/\∃ f g:Value,Ob c w' a (.pointer (some ⟨b,0,none⟩)) r.2.2/\v=.tuple #[f,g]/\Vb w' (Fr 0 w' a) f r.1/\Vb w' (Fr 0 w' a) g r.2.1
noncomputable def GK (k:MeT) (a:Fnd) (g:Int) (j:Fct):Option (Swp×Bool×Fnd) :=
  if a.most<=a.steps then (some ((⟨([]:List Int),([]:List (List Int)),([]:List Int)⟩:Swp),false,(⟨(⟨a.t.vars,a.t.init,a.t.goal,a.t.ops⟩:Tsk),a.list,a.signs,(⟨a.x.vars,a.x.vals,a.x.ops⟩:Swp),a.taken,a.vars,a.steps,a.most,true⟩:Fnd))) else (bnd (Q1 (a.steps + 1)) λ h=>bnd (atI a.list g) λ i=>bnd (CG (⟨(⟨a.t.vars,a.t.init,a.t.goal,a.t.ops⟩:Tsk),a.list,a.signs,(⟨a.x.vars,a.x.vals,a.x.ops⟩:Swp),a.taken,a.vars,h,a.most,a.full⟩:Fnd) i j) λ c=>bnd (Q1 (g + 1)) λ d=>bnd (k c.2 d) λ b=>bnd (atI b.2.2.list g) λ e=>bnd (BU b.2.2 e j c.1) λ f=>some (b.1,b.2.1,f))
theorem RQ {me:MeT} (hme:MeC me) {w:World} {O:Lab} {p0 i0:Nat} {x0:Fnd} (t0:Ob i0 w O (.pointer (some ⟨p0,0,none⟩)) x0) {x1:Int} (rx1:P9 x1) {vx2:Value} {x2:Fct} (m1:Vb w (Fr 0 w O) vx2 x2) {r:Swp×Bool×Fnd} (hm:GK me x0 x1 x2=some r) :
    Fn prog 39 [(.pointer (some ⟨p0,0,none⟩)),(.int .i64 x1),vx2] w λ v w'=>∃ O',St (eT i0) w O w' O'/\∃ v0 v1:Value,Ob i0 w' O' (.pointer (some ⟨p0,0,none⟩)) r.2.2/\v=.tuple #[v0,v1]/\Vb w' (Fr 0 w' O') v0 r.1/\Vb w' (Fr 0 w' O') v1 r.2.1:=by
 obtain ⟨O0,hE,i3,q3⟩:=V0 (w:=w) (O:=O) t0.2
 have t0':=Ob.leave t0 i3 q3 (j:=2) (by decide)
 have hB:Bm w O0 w O0:=Bm.refl
 replace m1:=m1.mono i3
 obtain ⟨d5,rfl,rfl,r5,r6⟩:=id m1
 refine AK func39 rfl ntmps39 ?_
 unfold GK at hm
 refine Am (Ah (Ft 3 O0 rfl λ g7 w8 O9 e2 l1=>?_))
 refine BL 4 O9 λ e5 r3 f5 d2 d0=>?_
 refine Au rfl (o_z (Am (Am ?_)))
 refine Dd (·=r3) [(0,true),(1,true),(2,true),(3,true),(4,true),(5,true),(6,true),(7,true),(8,true)] rfl rfl ?_
 refine AJ rfl rfl (BG rfl rfl ?_)
 replace t0':=(t0'.st e2).st d2
 obtain ⟨s3,g5,h5,i5,j5,k5,l5,m5,n5,o5,p5,q5,n1,t3,e0,w0,y0,z0,a1,u0,b1,c1,d1,e1,f1,g1,u3,j3⟩:=Fnd.opn t0' 2 5 6 7 8 9 (by decide)
 obtain ⟨s5,t5,rfl⟩:=w0.form
 obtain ⟨u5,v5,rfl⟩:=y0.form
 obtain ⟨w5,x5,rfl⟩:=z0.form
 obtain ⟨y5,z5,rfl⟩:=a1.form
 obtain ⟨a6,b6,rfl⟩:=u0.form
 obtain ⟨c6,d6,rfl⟩:=b1.form
 obtain ⟨e6,f6,rfl⟩:=c1.form
 obtain ⟨g6,h6,rfl⟩:=d1.form
 obtain ⟨i6,j6,rfl⟩:=e1.form
 obtain ⟨k6,l6,rfl⟩:=f1.form
 obtain ⟨m6,n6,rfl⟩:=g1.form
 refine AL rfl rfl (CY (hc:=Blk.cell (i:=11) (e0.1) rfl) rfl rfl (AJ rfl rfl (BG rfl rfl (AL rfl rfl (CY (hc:=Blk.cell (i:=12) (e0.1) rfl) rfl rfl (Wj rfl rfl rfl rfl (λ f2=>?_) λ f2=>?_))))))
 ·
  replace hm:=ip hm f2
  refine h_z (Aj rfl (Am (Ah (At rfl (CV rfl (AO rfl ?_))))))
  refine AT e0 rfl rfl rfl (Bf) (allOne) λ o6 g2 e0=>?_
  refine o_z (Am (Ah (DU rfl rfl ?_)))
  replace d0:=(d0.st n1).st g2
  refine AT d0 rfl rfl rfl (Bf) (allOne) λ p6 h2 d0=>?_
  refine Au rfl (o_z (AM ?_))
  have a0:=g2.an h2
  replace e0:=e0.st h2
  replace w0:=w0.st a0
  replace y0:=y0.st a0
  replace z0:=z0.st a0
  replace a1:=a1.st a0
  replace u0:=u0.st a0
  replace b1:=b1.st a0
  replace c1:=c1.st a0
  replace d1:=d1.st a0
  replace e1:=e1.st a0
  replace f1:=f1.st a0
  replace g1:=g1.st a0
  obtain ⟨q6,k3,v3,w3,x3⟩:=Fnd.shut (x:=(⟨(⟨x0.t.vars,x0.t.init,x0.t.goal,x0.t.ops⟩:Tsk),x0.list,x0.signs,(⟨x0.x.vars,x0.x.vals,x0.x.ops⟩:Swp),x0.taken,x0.vars,x0.steps,x0.most,true⟩:Fnd)) (l0:=2) (by decide) e0 w0 y0 z0 a1 u0 b1 c1 d1 e1 f1 g1 u3 j3
  obtain rfl:=sm hm
  replace hB:=(((((hB.st e2).st d2).st n1).st g2).st h2).st k3
  obtain ⟨O',hS',hz,hl⟩:=hE.leave (λ q=>if q=2 then i0 else 0) rfl hB
  replace d0:=d0.st k3
  exact T4 rfl (Dc (cs:=[(.slice none 0 0),(.slice none 0 0),(.slice none 0 0)]) rfl rfl d0.1.cellsAt) (Bc rfl) ⟨O',hS',_,_,(Ob.leave x3 hz (hl 2 (by decide) (by decide)) t0.2),rfl,(Vb.mono (Vb.ofAgg (cs:=[(.slice none 0 0),(.slice none 0 0),(.slice none 0 0)]) (x:=(⟨([]:List Int),([]:List (List Int)),([]:List Int)⟩:Swp)) rfl ⟨_,_,_,rfl,(Vb.nil _ _),(Vb.nil _ _),(Vb.nil _ _)⟩) hz),vBool⟩
 replace hm:=im hm f2
 refine h_z (Ae rfl (AN (Am (Ah (At rfl (CV rfl (AO rfl (AQ (hc:=Blk.cell (i:=11) (e0.1) rfl) rfl ?_))))))))
 obtain ⟨y3,l3,hm⟩:=bs hm
 have z3:=(BE l3)
 refine Fu (he:=l3) rfl rfl (CV rfl (AO rfl ?_))
 refine AT e0 rfl rfl rfl (Bf) (allOne) λ s6 c0 e0=>?_
 refine o_z (Am ?_)
 refine Bl [(9,[2,5,6,7,8,9])] s3 ?_
 refine AH (fuel:=2) [] (AX (CR 0 9)) rfl (AJ rfl rfl (AJ rfl rfl (BG rfl rfl (AL rfl rfl (AZ (hc:=Bn e0 4 rfl) rfl rfl (AJ rfl rfl ?_))))))
 obtain ⟨i2,a4,hm⟩:=bs hm
 obtain ⟨b4,c4⟩:=Br a4
 replace u0:=u0.st c0
 obtain ⟨t6,u6,d4,j2,k2,l2,m2,rfl,e4,f4⟩:=u0.elem c4
 refine BT (hA:=j2) (hj:=b4) (hlt:=l2) rfl rfl rfl (Dm (hl:=rfl) (hb:=Hi k2 m2) rfl rfl ?_)
 replace l1:=((l1.st d2).st n1).st c0
 refine Dm (hl:=rfl) (hb:=Gl l1) rfl rfl (AC (AF (i:=9) rfl ?_))
 replace w0:=w0.st c0
 replace y0:=y0.st c0
 replace z0:=z0.st c0
 replace a1:=a1.st c0
 replace b1:=b1.st c0
 replace c1:=c1.st c0
 replace d1:=d1.st c0
 replace e1:=e1.st c0
 replace f1:=f1.st c0
 replace g1:=g1.st c0
 obtain ⟨n2,m0,m3,n3,o2⟩:=Fnd.shut (x:=(⟨(⟨x0.t.vars,x0.t.init,x0.t.goal,x0.t.ops⟩:Tsk),x0.list,x0.signs,(⟨x0.x.vars,x0.x.vals,x0.x.ops⟩:Swp),x0.taken,x0.vars,y3,x0.most,x0.full⟩:Fnd)) (l0:=2) (by decide) e0 w0 y0 z0 a1 u0 b1 c1 d1 e1 f1 g1 z3 j3
 have hZ:=m0.lst [2,5,6,7,8,9] (by decide)
 obtain ⟨g4,p2,hm⟩:=bs hm
 replace hB:=((((hB.st e2).st d2).st n1).st c0).st m0
 refine Cg (O:=n2) (Gy o2 (Vb.ofAgg (cs:=[(.int .i64 i2.var),(.int .i64 i2.val)]) (x:=i2) rfl ⟨rfl,e4,f4⟩) (m1.z hB) p2) rfl λ h4 i4 q2 n0 r2=>?_
 obtain ⟨s2,t2⟩:=r2
 obtain rfl:=t2.bool
 replace hZ:=hZ.cmp n0 [2,5,6,7,8,9] (λ _ h=>by cases h;decide) rfl
 refine AV [] hZ ?_
 refine AH (fuel:=0) [] [(10,true)] rfl (Ei rfl rfl (AC (Ba (Am (Ah (At rfl (At rfl ?_)))))))
 obtain ⟨j4,o1,hm⟩:=bs hm
 have u2:=(BE o1)
 refine Fu (he:=o1) rfl rfl ?_
 obtain ⟨b0,v2,hm⟩:=bs hm
 refine Cg (O:=q2) (hme s2 u2 v2) rfl λ k4 l4 w2 h1 y2=>?_
 obtain ⟨m4,n4,f0,rfl,z2,a3⟩:=y2
 obtain ⟨o3,rfl,o4,p4,q4,rfl,o0,q0,r0⟩:=z2
 obtain ⟨p1,q1,rfl⟩:=o0.form
 obtain ⟨r1,s1,rfl⟩:=q0.form
 obtain ⟨t1,u1,rfl⟩:=r0.form
 obtain rfl:=a3.bool
 refine At rfl (CK rfl rfl (CK rfl rfl (BL 10 w2 λ r4 s4 w1 g0 h0=>?_)))
 refine AT h0 rfl rfl rfl (Bf) (allOne) λ t4 j0 h0=>?_
 refine Au rfl (o_z (Am ?_))
 refine Bl [] w1 ?_
 refine AH (fuel:=1) [] (AX (CR 0 10)) rfl (AJ rfl rfl (AJ rfl rfl (BG rfl rfl (AL rfl rfl ?_))))
 replace f0:=(f0.st g0).st j0
 obtain ⟨u4,v4,y1,b3⟩:=Fnd.pk_list f0
 refine AZ (hc:=Fnd.kq f0 y1) rfl rfl (AJ rfl rfl ?_)
 obtain ⟨i1,c3,hm⟩:=bs hm
 obtain ⟨d3,e3⟩:=Br c3
 obtain ⟨w4,x4,p3,z1,a2,b2,c2,rfl,f3,g3⟩:=b3.elem e3
 refine BT (hA:=z1) (hj:=d3) (hlt:=b2) rfl rfl rfl (Dm (hl:=rfl) (hb:=Hi a2 c2) rfl rfl ?_)
 replace l1:=((((l1.st m0).st n0).st h1).st g0).st j0
 refine Dm (hl:=rfl) (hb:=Gl l1) rfl rfl (AJ rfl rfl (AC (AF (i:=10) rfl ?_)))
 obtain ⟨y4,h3,hm⟩:=bs hm
 replace hB:=(((hB.st n0).st h1).st g0).st j0
 refine Cg (O:=w1) (FQ f0 (Vb.ofAgg (cs:=[(.int .i64 i1.var),(.int .i64 i1.val)]) (x:=i1) rfl ⟨rfl,f3,g3⟩) (m1.z hB) h3) rfl λ z4 a5 b5 s0 j1=>?_
 refine Bz (Ba (Am (Ah ?_)))
 replace h0:=h0.st s0
 refine BH (hl:=rfl) (hc:=(h0.1).cellsAt) rfl (At rfl ?_)
 replace d0:=(((((((d0.st n1).st c0).st m0).st n0).st h1).st g0).st j0).st s0
 refine AT d0 rfl rfl rfl (Bf) (allOne) λ c5 k1 d0=>?_
 refine Au rfl (o_z (AM ?_))
 obtain rfl:=sm hm
 replace hB:=(hB.st s0).st k1
 obtain ⟨O',hS',hz,hl⟩:=hE.leave (λ q=>if q=2 then i0 else 0) rfl hB
 have k0:=((g0.an j0).an s0).an k1
 replace o0:=o0.st k0
 replace q0:=q0.st k0
 replace r0:=r0.st k0
 replace j1:=j1.st k1
 exact T4 rfl (Dc (cs:=[(.slice p1 b0.1.vars.length q1),(.slice r1 b0.1.vals.length s1),(.slice t1 b0.1.ops.length u1)]) rfl rfl d0.1.cellsAt) (Bc rfl) ⟨O',hS',_,_,(Ob.leave j1 hz (hl 2 (by decide) (by decide)) t0.2),rfl,(Vb.mono (Vb.ofAgg (cs:=[(.slice p1 b0.1.vars.length q1),(.slice r1 b0.1.vals.length s1),(.slice t1 b0.1.ops.length u1)]) (x:=b0.1) rfl ⟨_,_,_,rfl,o0,q0,r0⟩) hz),vBool⟩
noncomputable def FI (q:MeT) (c:Fnd) (o:Int):Option (Swp×Bool×Fnd) :=
  if o=(c.list.length:Int) then (bnd (Dk c) λ g=>bnd (if (!g.2)=true then (some true) else (bnd (CN c.x c.t.goal) λ h=>bnd (BI h c.t.goal) λ i=>if i=true then some false else some true):Option Bool) λ j=>if j=true then (some ((⟨([]:List Int),([]:List (List Int)),([]:List Int)⟩:Swp),false,c)) else (bnd (DI c g.1) λ k=>some (k,true,c))) else (bnd (rng (ρ:=Swp×Bool×Fnd) (λ (p:Nat) (e:Fct) (b:Fnd)=>bnd (atI b.list o) λ l=>bnd (CC b l e) λ m=>if m=true then bnd (GK q b o e) λ a=>bnd (if a.2.1=true then (some (true,true)) else (some (false,a.2.2.full)):Option (Bool×Bool)) λ f=>if f.2=true then (some (.ret (a.1,f.1,a.2.2))) else (some (.next a.2.2)) else some (.next b)) c.list 0 c) λ d=>fin d λ (n:Fnd)=>some ((⟨([]:List Int),([]:List (List Int)),([]:List Int)⟩:Swp),false,n))
theorem TG {me:MeT} (hme:MeC me) {w:World} {O:Lab} {p0 i0:Nat} {x0:Fnd} (z1:Ob i0 w O (.pointer (some ⟨p0,0,none⟩)) x0) {x1:Int} (rx1:P9 x1) {r:Swp×Bool×Fnd} (hm:FI me x0 x1=some r) :
    Fn prog 77 [(.pointer (some ⟨p0,0,none⟩)),(.int .i64 x1)] w λ v w'=>∃ O',St (eT i0) w O w' O'/\∃ v0 v1:Value,Ob i0 w' O' (.pointer (some ⟨p0,0,none⟩)) r.2.2/\v=.tuple #[v0,v1]/\Vb w' (Fr 0 w' O') v0 r.1/\Vb w' (Fr 0 w' O') v1 r.2.1:=by
 obtain ⟨O0,hE,f8,g8⟩:=V0 (w:=w) (O:=O) z1.2
 have z1':=Ob.leave z1 f8 g8 (j:=2) (by decide)
 have hB:Bm w O0 w O0:=Bm.refl
 refine AK func77 rfl ntmps77 ?_
 unfold FI at hm
 refine Am (Ah (BL 3 O0 λ g3 w4 O5 S6 h7=>?_))
 refine Au rfl (o_z (Am (Am (Ah (At rfl (At rfl (CV rfl ?_)))))))
 replace z1':=z1'.st S6
 obtain ⟨O8,wC,xC,yC,zC,aD,bD,cD,dD,eD,fD,gD,S9,h8,z4,e5,f5,g5,h5,t0,i5,j5,k5,l5,m5,n5,k7,l7⟩:=Fnd.opn z1' 2 4 5 6 7 8 (by decide)
 obtain ⟨hD,iD,rfl⟩:=e5.form
 obtain ⟨jD,kD,rfl⟩:=f5.form
 obtain ⟨lD,mD,rfl⟩:=g5.form
 obtain ⟨nD,oD,rfl⟩:=h5.form
 obtain ⟨a5,b5,rfl⟩:=t0.form
 obtain ⟨pD,qD,rfl⟩:=i5.form
 obtain ⟨rD,sD,rfl⟩:=j5.form
 obtain ⟨tD,uD,rfl⟩:=k5.form
 obtain ⟨vD,wD,rfl⟩:=l5.form
 obtain ⟨xD,yD,rfl⟩:=m5.form
 obtain ⟨zD,aE,rfl⟩:=n5.form
 refine AO rfl (AQ (hc:=Blk.cell (i:=4) (z4.1) rfl) rfl (AU rfl ?_))
 have i8:=Cv t0.len
 have bE:=rngNat i8
 refine FD rfl rfl (λ o5=>?_) λ o5=>?_
 ·
  replace hm:=ip hm o5
  refine o_z (Aj rfl (Am (Ah (At rfl ?_))))
  obtain ⟨j8,m2,k8,l8,m8⟩:=Fnd.shut (x:=x0) (l0:=2) (by decide) z4 e5 f5 g5 h5 t0 i5 j5 k5 l5 m5 n5 k7 l7
  obtain ⟨c5,n8,hm⟩:=bs hm
  refine Cg (O:=j8) (Ie m8 n8) rfl λ cE dE eE n2 o8=>?_
  obtain ⟨fE,gE,p8,rfl,o2,q8⟩:=o8
  obtain ⟨m7,n7,rfl⟩:=o2.form
  obtain rfl:=q8.bool
  refine At rfl (CK rfl rfl (CK rfl rfl (Au rfl (Au rfl (o_z (Am (Am ?_)))))))
  obtain ⟨o7,iE,jE,kE,r8,s8,t8,u8,v8,w8,x8,y8,k1,z8,a2,p2,q2,l1,u0,w0,y0,k0,m0,n0,z0,a1,s2,t2⟩:=Fnd.opn p8 2 4 5 6 7 8 (by decide)
  obtain ⟨lE,mE,rfl⟩:=p2.form
  obtain ⟨nE,oE,rfl⟩:=q2.form
  obtain ⟨pE,a9,rfl⟩:=l1.form
  obtain ⟨b9,c9,rfl⟩:=u0.form
  obtain ⟨d9,e9,rfl⟩:=w0.form
  obtain ⟨f9,g9,rfl⟩:=y0.form
  obtain ⟨p5,q5,rfl⟩:=k0.form
  obtain ⟨r5,s5,rfl⟩:=m0.form
  obtain ⟨t5,u5,rfl⟩:=n0.form
  obtain ⟨h9,i9,rfl⟩:=z0.form
  obtain ⟨j9,k9,rfl⟩:=a1.form
  obtain ⟨v5,b0,hm⟩:=bs hm
  refine Bi (λ l' w'=>∃ (w5:Unit) (O':Lab),Q2 l' [(0,(.pointer (some ⟨p0,0,none⟩))),(4,(.pointer (some ⟨g3,0,none⟩))),(6,(.slice m7 c5.1.length n7)),(44,(.bool v5))]/\Bm w O0 w' O'/\Ob 2 w' O' (.pointer (some ⟨p0,0,none⟩)) x0/\Lc 3 w' O' g3 55 [(.slice none 0 0),(.slice none 0 0),(.slice none 0 0)]/\Vb w' (Fr 0 w' O') (.slice m7 c5.1.length n7) c5.1) ?_ ?_
  ·
   refine Bl [] o7 ?_
   refine AH (fuel:=4) [] (AX [0,1,2,3,4,5,6,7,8,9,10,11,13,14,15,16,17]) rfl (AJ rfl rfl (XO rfl rfl rfl (AJ rfl rfl ?_)))
   rcases C8 (!c5.2) with m1|m1
   ·
    try simp only [m1]
    replace b0:=ip b0 m1
    refine AW rfl rfl rfl (AW rfl rfl rfl (AW rfl rfl rfl (AW rfl rfl rfl (AW rfl rfl rfl (AW rfl rfl rfl (AW rfl rfl rfl (AW rfl rfl rfl (AW rfl rfl rfl (AW rfl rfl rfl (AW rfl rfl rfl (AW rfl rfl rfl (AW rfl rfl rfl (AW rfl rfl rfl (AC ?_))))))))))))))
    refine AF (i:=12) rfl (AA rfl rfl ?_)
    refine AV [] (lZ (St.refl nT _ _)) (AF (i:=18) rfl (AA rfl rfl ?_))
    refine AV [] (lZ (St.refl nT _ _)) ?_
    refine AH (fuel:=0) [] (AX [19,20]) rfl (AW rfl rfl rfl (CL rfl rfl rfl (AC (Ba ?_))))
    obtain ⟨l9,u2,p7,q7,x5⟩:=Fnd.shut (x:=x0) (l0:=2) (by decide) a2 p2 q2 l1 u0 w0 y0 k0 m0 n0 z0 a1 s2 t2
    obtain rfl:=sm b0
    exact ⟨(),_,⟨rfl,rfl,rfl,rfl,trivial⟩,(((((hB.st S6).st S9).st m2).st n2).st k1).st u2,x5,((((h7.st S9).st m2).st n2).st k1).st u2,(o2.st k1).st u2⟩
   try simp only [m1]
   replace b0:=im' b0 m1
   refine Az rfl (Aw rfl rfl (Ce rfl (Az rfl (Aw rfl rfl (Jt rfl (Az rfl (Aw rfl rfl (BM rfl (Az rfl (Aw rfl rfl (Je (hl:=rfl) (hb:=λ w' ⟨O',hq⟩=>(FZ 6 3 ((a2.st hq (by decide)).1).cellsAt)) rfl ?_)))))))))))
   refine Az rfl (Aw rfl rfl (Ce rfl (Az rfl (Aw rfl rfl (Jt rfl (Az rfl (Aw rfl rfl (BM rfl (Az rfl (Aw rfl rfl (BM rfl (Az rfl (Aw rfl rfl (SD (hc:=Bn a2 2 rfl) rfl rfl ?_))))))))))))))
   refine Az rfl (Aw rfl rfl (Ce rfl (Az rfl (Aw rfl rfl (Jt rfl (Az rfl (Aw rfl rfl (BM rfl (Az rfl (Aw rfl rfl (BM rfl (Az rfl (Aw rfl rfl (SD (hc:=Bn a2 2 rfl) rfl rfl ?_))))))))))))))
   refine AC (AF (i:=12) rfl (AB rfl rfl ?_))
   obtain ⟨y5,z5,b0⟩:=bs b0
   refine Oa (O:=o7) (ls:=[5,6]) (R:=λ w' F v=>Vb w' F v y5) (ET FrS.lt (Vb.ofAgg (cs:=[(.slice p5 x0.x.vars.length q5),(.slice r5 x0.x.vals.length s5),(.slice t5 x0.x.ops.length u5)]) (x:=x0.x) rfl ⟨_,_,_,rfl,(k0.lend [5,6] (by decide)),(Vb.subS m0.lend (by decide)),(n0.lend [5,6])⟩) (l1.lend [5,6]) z5) rfl rfl λ m9 a6 i3 h0 j3=>?_
   obtain ⟨n9,o9,rfl⟩:=j3.form
   have hZ:=lZ h0
   refine AV [] hZ (AF (i:=18) rfl (AB rfl rfl ?_))
   obtain ⟨b6,c6,b0⟩:=bs b0
   replace l1:=l1.st h0
   refine Du (O:=i3) (Dg (λ _ h=>h) (Vb.mono (F:=FrS [5,6] a6 i3) j3 FrS.lt) (vMo l1) c6) rfl λ p9 q9 r9 f0 d6=>?_
   obtain rfl:=d6.bool
   have hZ:=lZ f0
   cases b6
   case false =>
    replace b0:=iF b0
    refine AV [] hZ ?_
    refine AH (fuel:=0) [] (AX [19,20]) rfl (Az rfl (Aw rfl rfl (Mr rfl (CE rfl rfl rfl (AC (Ba ?_))))))
    have d0:=h0.an f0
    replace a2:=a2.st d0
    replace p2:=p2.st d0
    replace q2:=q2.st d0
    replace l1:=l1.st f0
    replace u0:=u0.st d0
    replace w0:=w0.st d0
    replace y0:=y0.st d0
    replace k0:=k0.st d0
    replace m0:=m0.st d0
    replace n0:=n0.st d0
    replace z0:=z0.st d0
    replace a1:=a1.st d0
    obtain ⟨s9,v2,r7,s7,e6⟩:=Fnd.shut (x:=x0) (l0:=2) (by decide) a2 p2 q2 l1 u0 w0 y0 k0 m0 n0 z0 a1 s2 t2
    obtain rfl:=sm b0
    exact ⟨(),_,⟨rfl,rfl,rfl,rfl,trivial⟩,(((((((hB.st S6).st S9).st m2).st n2).st k1).st h0).st f0).st v2,e6,((((((h7.st S9).st m2).st n2).st k1).st h0).st f0).st v2,(((o2.st k1).st h0).st f0).st v2⟩
   replace b0:=iT b0
   refine AV [] hZ ?_
   refine AH (fuel:=0) [] (AX [19,20]) rfl (Az rfl (Aw rfl rfl (Mq rfl (CE rfl rfl rfl (AC (Ba ?_))))))
   have e0:=h0.an f0
   replace a2:=a2.st e0
   replace p2:=p2.st e0
   replace q2:=q2.st e0
   replace l1:=l1.st f0
   replace u0:=u0.st e0
   replace w0:=w0.st e0
   replace y0:=y0.st e0
   replace k0:=k0.st e0
   replace m0:=m0.st e0
   replace n0:=n0.st e0
   replace z0:=z0.st e0
   replace a1:=a1.st e0
   obtain ⟨t9,w2,t7,u7,f6⟩:=Fnd.shut (x:=x0) (l0:=2) (by decide) a2 p2 q2 l1 u0 w0 y0 k0 m0 n0 z0 a1 s2 t2
   obtain rfl:=sm b0
   exact ⟨(),_,⟨rfl,rfl,rfl,rfl,trivial⟩,(((((((hB.st S6).st S9).st m2).st n2).st k1).st h0).st f0).st w2,f6,((((((h7.st S9).st m2).st n2).st k1).st h0).st f0).st w2,(((o2.st k1).st h0).st f0).st w2⟩
  replace hB:=((((hB.st S6).st S9).st m2).st n2).st k1
  replace h7:=(((h7.st S9).st m2).st n2).st k1
  replace o2:=o2.st k1
  rintro u9 v9 ⟨w5,g6,k3,hB,b2,h7,o2⟩
  refine Bg _ k3 ?_
  refine BP rfl (λ x2=>?_) (λ x2=>?_)
  ·
   replace hm:=ip hm x2
   refine Am (Ah (DU rfl rfl ?_))
   refine AT h7 rfl rfl rfl (Bf) (allOne) λ w9 l3 h7=>?_
   refine Au rfl (o_z (AM ?_))
   obtain rfl:=sm hm
   replace hB:=hB.st l3
   obtain ⟨O',hS',hz,hl⟩:=hE.leave (λ q=>if q=2 then i0 else 0) rfl hB
   replace b2:=b2.st l3
   exact T4 rfl (Dc (cs:=[(.slice none 0 0),(.slice none 0 0),(.slice none 0 0)]) rfl rfl h7.1.cellsAt) (Bc rfl) ⟨O',hS',_,_,(Ob.leave b2 hz (hl 2 (by decide) (by decide)) z1.2),rfl,(Vb.mono (Vb.ofAgg (cs:=[(.slice none 0 0),(.slice none 0 0),(.slice none 0 0)]) (x:=(⟨([]:List Int),([]:List (List Int)),([]:List Int)⟩:Swp)) rfl ⟨_,_,_,rfl,(Vb.nil _ _),(Vb.nil _ _),(Vb.nil _ _)⟩) hz),vBool⟩
  replace hm:=im' hm x2
  refine AN (Am (Ah (At rfl (At rfl ?_))))
  obtain ⟨b1,h6,hm⟩:=bs hm
  refine Cg (O:=g6) (IT b2 o2 h6) rfl λ x9 y9 z9 m3 i6=>?_
  obtain ⟨y2,j6⟩:=i6
  obtain ⟨v7,rfl,aA,bA,cA,rfl,c2,d2,e2⟩:=j6
  obtain ⟨n3,o3,rfl⟩:=c2.form
  obtain ⟨p3,q3,rfl⟩:=d2.form
  obtain ⟨r3,s3,rfl⟩:=e2.form
  replace h7:=h7.st m3
  refine AT h7 rfl rfl rfl (Bf) (allOne) λ dA n1 h7=>?_
  refine Au rfl (o_z (AM ?_))
  obtain rfl:=sm hm
  replace hB:=(hB.st m3).st n1
  obtain ⟨O',hS',hz,hl⟩:=hE.leave (λ q=>if q=2 then i0 else 0) rfl hB
  replace y2:=y2.st n1
  replace c2:=c2.st n1
  replace d2:=d2.st n1
  replace e2:=e2.st n1
  exact T4 rfl (Dc (cs:=[(.slice n3 b1.vars.length o3),(.slice p3 b1.vals.length q3),(.slice r3 b1.ops.length s3)]) rfl rfl h7.1.cellsAt) (Bc rfl) ⟨O',hS',_,_,(Ob.leave y2 hz (hl 2 (by decide) (by decide)) z1.2),rfl,(Vb.mono (Vb.ofAgg (cs:=[(.slice n3 b1.vars.length o3),(.slice p3 b1.vals.length q3),(.slice r3 b1.ops.length s3)]) (x:=b1) rfl ⟨_,_,_,rfl,c2,d2,e2⟩) hz),vBool⟩
 replace hm:=im hm o5
 refine o_z (Ae rfl (AN (Am (Am (Ah (At rfl (CV rfl (AO rfl (AQ (hc:=Blk.cell (i:=4) (z4.1) rfl) rfl (AU rfl ?_))))))))))
 have z2:=Cv t0.len
 have eA:=rngNat z2
 refine At rfl (o_z ?_)
 obtain ⟨k6,a3,w7,x7,l6⟩:=Fnd.shut (x:=x0) (l0:=2) (by decide) z4 e5 f5 g5 h5 t0 i5 j5 k5 l5 m5 n5 k7 l7
 obtain ⟨m6,t3,hm⟩:=bs hm
 replace hB:=((hB.st S6).st S9).st a3
 replace h7:=(h7.st S9).st a3
 replace t0:=t0.st a3
 refine EB (X:=Unit) (x0.list.length) t3 rfl z2 (λ b3 u3=>[(0,(.pointer (some ⟨p0,0,none⟩))),(1,(.int .i64 x1)),(4,(.pointer (some ⟨g3,0,none⟩))),(52,(.slice a5 x0.list.length b5))]) (λ b3 u3 w'=>∃ O':Lab,Bm w O0 w' O'/\Ob 2 w' O' (.pointer (some ⟨p0,0,none⟩)) b3/\Lc 3 w' O' g3 55 [(.slice none 0 0),(.slice none 0 0),(.slice none 0 0)]/\Vb w' (Fr 0 w' O') (.slice a5 x0.list.length b5) x0.list) () ⟨k6,hB,l6,h7,t0⟩ ⟨rfl,rfl,rfl,rfl,rfl,rfl,trivial⟩ (λ _ _=>rfl) ?_ ?_
 ·
  rintro n6 g1 b3 u3 fA y7 r2 ⟨o6,hB,o0,h7,t0⟩ a0 f2 d5
  have rk218:=U9 r2 z2
  refine Am (Ah ?_)
  obtain ⟨gA,iA,z7,v3,w3,x3,rfl,y3,z3⟩:=t0.elem' r2
  refine CZ (hA:=v3) (hj:=rfl) (hlt:=w3) rfl rfl (BH (hl:=rfl) (hc:=x3) rfl ?_)
  refine BL 9 o6 λ jA kA a4 o1 h1=>?_
  refine AT h1 rfl rfl rfl (Bf) (allOne) λ lA p1 h1=>?_
  refine o_z (Am (Am ?_))
  refine Bl [(9,[2])] a4 ?_
  refine AH (fuel:=2) [] (AX (CR 0 9)) rfl (AJ rfl rfl (AJ rfl rfl (BG rfl rfl (AL rfl rfl ?_))))
  replace o0:=(o0.st o1).st p1
  obtain ⟨mA,nA,b4,p6⟩:=Fnd.pk_list o0
  refine AZ (hc:=Fnd.kq o0 b4) rfl rfl (AJ rfl rfl ?_)
  obtain ⟨c3,q6,a0⟩:=bs a0
  obtain ⟨r6,s6⟩:=Br q6
  obtain ⟨oA,pA,a8,c4,d4,e4,f4,rfl,t6,u6⟩:=p6.elem s6
  refine BT (hA:=c4) (hj:=r6) (hlt:=e4) rfl rfl rfl (Dm (hl:=rfl) (hb:=Hi d4 f4) rfl rfl (Dm (hl:=rfl) (hb:=Gl h1) rfl rfl (AC (AF (i:=9) rfl ?_))))
  obtain ⟨v6,w6,a0⟩:=bs a0
  refine Cg (O:=a4) (GX o0 (Vb.ofAgg (cs:=[(.int .i64 c3.var),(.int .i64 c3.val)]) (x:=c3) rfl ⟨rfl,t6,u6⟩) (Vb.ofAgg (cs:=[(.int .i64 g1.var),(.int .i64 g1.val)]) (x:=g1) rfl ⟨rfl,y3,z3⟩) w6) rfl λ qA rA x6 i1 y6=>?_
  obtain ⟨g4,z6⟩:=y6
  obtain rfl:=z6.bool
  have hZ:=i1.lst [2] (λ _ h=>by cases h;decide)
  cases v6
  case false =>
   replace a0:=iF a0
   refine AV [] hZ ?_
   refine AH (fuel:=0) [] [(10,true)] rfl (SB rfl rfl rfl (AC (Ba (Aj rfl (Cq ?_)))))
   obtain rfl:=sm a0
   have q1:=(o1.an p1).an i1
   exact show Exists _ from ⟨_,(),rfl,⟨rfl,rfl,rfl,rfl,rfl,rfl,trivial⟩,_,hB.st q1,g4,h7.st q1,t0.st q1⟩
  replace a0:=iT a0
  refine AV [] hZ ?_
  refine AH (fuel:=0) [] [(10,true)] rfl (PL rfl rfl rfl (AC (Ba (Ae rfl (AN (Am (Ah (At rfl (At rfl ?_)))))))))
  replace h1:=h1.st i1
  refine BH (hl:=rfl) (hc:=(h1.1).cellsAt) rfl ?_
  obtain ⟨c0,a7,a0⟩:=bs a0
  refine Cg (O:=x6) (RQ hme g4 rx1 (Vb.ofAgg (cs:=[(.int .i64 g1.var),(.int .i64 g1.val)]) (x:=g1) rfl ⟨rfl,y3,z3⟩) a7) rfl λ sA tA b7 d3 c7=>?_
  obtain ⟨uA,vA,g0,rfl,d7,e7⟩:=c7
  obtain ⟨b8,rfl,wA,xA,yA,rfl,q0,r0,s0⟩:=d7
  obtain ⟨g2,h2,rfl⟩:=q0.form
  obtain ⟨i2,j2,rfl⟩:=r0.form
  obtain ⟨k2,l2,rfl⟩:=s0.form
  obtain rfl:=e7.bool
  refine At rfl (CK rfl rfl (CK rfl rfl (BL 10 b7 λ h4 zA aB c1 j1=>?_)))
  refine AT j1 rfl rfl rfl (Bf) (allOne) λ bB d1 j1=>?_
  refine Au rfl (o_z (Am ?_))
  obtain ⟨i4,j0,a0⟩:=bs a0
  refine Bi (λ l' w'=>∃ (f7:Unit) (O':Lab),Q2 l' [(0,(.pointer (some ⟨p0,0,none⟩))),(1,(.int .i64 x1)),(4,(.pointer (some ⟨g3,0,none⟩))),(10,(.pointer (some ⟨h4,0,none⟩))),(11,(.bool i4.1)),(52,(.slice a5 x0.list.length b5)),(53,(.int .i64 (x0.list.length:Int))),(54,(.int .i64 (n6:Int))),(82,(.bool i4.2))]/\Bm w O0 w' O'/\Ob 2 w' O' (.pointer (some ⟨p0,0,none⟩)) c0.2.2/\Lc 3 w' O' g3 55 [(.slice none 0 0),(.slice none 0 0),(.slice none 0 0)]/\Lc 10 w' O' h4 55 [(.slice g2 c0.1.vars.length h2),(.slice i2 c0.1.vals.length j2),(.slice k2 c0.1.ops.length l2)]/\Vb w' (Fr 0 w' O') (.slice g2 c0.1.vars.length h2) c0.1.vars/\Vb w' (Fr 0 w' O') (.slice i2 c0.1.vals.length j2) c0.1.vals/\Vb w' (Fr 0 w' O') (.slice k2 c0.1.ops.length l2) c0.1.ops/\Vb w' (Fr 0 w' O') (.slice a5 x0.list.length b5) x0.list) ?_ ?_
  ·
   refine Ah (At rfl (At rfl ?_))
   rcases C8 c0.2.1 with r1|r1
   ·
    try simp only [r1]
    replace j0:=ip j0 r1
    refine AA rfl rfl (AA rfl rfl (AA rfl rfl (AA rfl rfl (BJ rfl rfl (o_z ?_)))))
    obtain rfl:=sm j0
    have e1:=c1.an d1
    have s1:=((((o1.an p1).an i1).an d3).an c1).an d1
    exact ⟨(),_,⟨rfl,rfl,rfl,rfl,rfl,rfl,rfl,rfl,rfl,trivial⟩,hB.st s1,g0.st e1,h7.st s1,j1,q0.st e1,r0.st e1,s0.st e1,t0.st s1⟩
   try simp only [r1]
   replace j0:=im' j0 r1
   refine AB rfl rfl (At rfl (AB rfl rfl (CV rfl (AB rfl rfl ?_))))
   replace g0:=(g0.st c1).st d1
   obtain ⟨cB,dB,eB,fB,gB,iB,jB,kB,lB,mB,nB,oB,e3,c8,j4,k4,l4,m4,n4,o4,p4,q4,r4,s4,t4,u4,g7,i7⟩:=Fnd.opn g0 2 4 5 6 7 8 (by decide)
   obtain ⟨pB,qB,rfl⟩:=k4.form
   obtain ⟨rB,sB,rfl⟩:=l4.form
   obtain ⟨tB,uB,rfl⟩:=m4.form
   obtain ⟨vB,wB,rfl⟩:=n4.form
   obtain ⟨xB,yB,rfl⟩:=o4.form
   obtain ⟨zB,aC,rfl⟩:=p4.form
   obtain ⟨bC,cC,rfl⟩:=q4.form
   obtain ⟨dC,eC,rfl⟩:=r4.form
   obtain ⟨fC,gC,rfl⟩:=s4.form
   obtain ⟨hC,iC,rfl⟩:=t4.form
   obtain ⟨jC,kC,rfl⟩:=u4.form
   refine AO rfl (AB rfl rfl (AQ (hc:=Blk.cell (i:=13) (j4.1) rfl) rfl (BK rfl rfl (o_z ?_))))
   obtain ⟨lC,f3,d8,e8,j7⟩:=Fnd.shut (x:=c0.2.2) (l0:=2) (by decide) j4 k4 l4 m4 n4 o4 p4 q4 r4 s4 t4 u4 g7 i7
   obtain rfl:=sm j0
   have t1:=((c1.an d1).an e3).an f3
   have u1:=((((((o1.an p1).an i1).an d3).an c1).an d1).an e3).an f3
   exact ⟨(),_,⟨rfl,rfl,rfl,rfl,rfl,rfl,rfl,rfl,rfl,trivial⟩,hB.st u1,j7,h7.st u1,(j1.st e3).st f3,q0.st t1,r0.st t1,s0.st t1,t0.st u1⟩
  have f1:=c1.an d1
  have w1:=((((o1.an p1).an i1).an d3).an c1).an d1
  replace hB:=hB.st w1
  replace h7:=h7.st w1
  replace t0:=t0.st w1
  replace g0:=g0.st f1
  replace q0:=q0.st f1
  replace r0:=r0.st f1
  replace s0:=s0.st f1
  rintro mC nC ⟨f7,oC,v4,hB,g0,h7,j1,q0,r0,s0,t0⟩
  refine Bg _ v4 ?_
  refine BP rfl (λ h3=>?_) (λ h3=>?_)
  ·
   replace a0:=ip a0 h3
   refine Am (Ah (BH (hl:=rfl) (hc:=(j1.1).cellsAt) rfl (At rfl ?_)))
   refine AT h7 rfl rfl rfl (Bf) (allOne) λ pC y1 h7=>?_
   refine Au rfl (o_z (AM ?_))
   obtain rfl:=sm a0
   obtain rfl:=f2 _ rfl
   obtain rfl:=sm (Eb hm)
   replace hB:=hB.st y1
   obtain ⟨O',hS',hz,hl⟩:=hE.leave (λ q=>if q=2 then i0 else 0) rfl hB
   replace g0:=g0.st y1
   replace q0:=q0.st y1
   replace r0:=r0.st y1
   replace s0:=s0.st y1
   exact T4 rfl (Dc (cs:=[(.slice g2 c0.1.vars.length h2),(.slice i2 c0.1.vals.length j2),(.slice k2 c0.1.ops.length l2)]) rfl rfl h7.1.cellsAt) (Bc rfl) ⟨O',hS',_,_,(Ob.leave g0 hz (hl 2 (by decide) (by decide)) z1.2),rfl,(Vb.mono (Vb.ofAgg (cs:=[(.slice g2 c0.1.vars.length h2),(.slice i2 c0.1.vals.length j2),(.slice k2 c0.1.ops.length l2)]) (x:=c0.1) rfl ⟨_,_,_,rfl,q0,r0,s0⟩) hz),vBool⟩
  replace a0:=im' a0 h3
  refine AN ?_
  obtain rfl:=sm a0
  exact show Exists _ from ⟨_,(),rfl,⟨rfl,rfl,rfl,rfl,rfl,rfl,trivial⟩,_,hB,g0,h7,t0⟩
 rintro qC rC ⟨sC,tC,rfl,x4,uC,hB,o0,h7,t0⟩
 replace hm:=BF hm
 refine Bg _ x4 ?_
 refine Am (Ah (DU rfl rfl ?_))
 refine AT h7 rfl rfl rfl (Bf) (allOne) λ vC y4 h7=>?_
 refine Au rfl (o_z (AM ?_))
 obtain rfl:=sm hm
 replace hB:=hB.st y4
 obtain ⟨O',hS',hz,hl⟩:=hE.leave (λ q=>if q=2 then i0 else 0) rfl hB
 replace o0:=o0.st y4
 exact T4 rfl (Dc (cs:=[(.slice none 0 0),(.slice none 0 0),(.slice none 0 0)]) rfl rfl h7.1.cellsAt) (Bc rfl) ⟨O',hS',_,_,(Ob.leave o0 hz (hl 2 (by decide) (by decide)) z1.2),rfl,(Vb.mono (Vb.ofAgg (cs:=[(.slice none 0 0),(.slice none 0 0),(.slice none 0 0)]) (x:=(⟨([]:List Int),([]:List (List Int)),([]:List Int)⟩:Swp)) rfl ⟨_,_,_,rfl,(Vb.nil _ _),(Vb.nil _ _),(Vb.nil _ _)⟩) hz),vBool⟩
end
section
open Go Go.RowKit
attribute [local irreducible] ewp owp hwp hwq hws Ev Evg Fn Q4 R7 R2 Q9
noncomputable def mxE:Nat->MeT
  | 0=>λ _ _=>none
  | d + 1=>FI (mxE d)
theorem Wv:∀ d,MeC (mxE d)
  | 0=>λ _ _ _ _ hm=>nomatch hm
  | d + 1=>λ a _ b _ hm=>TG (Wv d) a b hm
noncomputable def Dv (a:Fnd) (b:Int) (c:Fct):Option (Swp×Bool×Fnd):=GK (mxE (a.list.length + 1)) a b c
theorem Jz {w:World} {O:Lab} {c d:Nat} {g:Fnd} (k:Ob d w O (.pointer (some ⟨c,0,none⟩)) g) {e:Int} (f:P9 e) {a:Value} {h:Fct} (l:Vb w (Fr 0 w O) a h) {r:Swp×Bool×Fnd} (hm:Dv g e h=some r) :
    Fn prog 39 [(.pointer (some ⟨c,0,none⟩)),(.int .i64 e),a] w λ v w'=>∃ b,St (eT d) w O w' b/\∃ i j:Value,Ob d w' b (.pointer (some ⟨c,0,none⟩)) r.2.2/\v=.tuple #[i,j]/\Vb w' (Fr 0 w' b) i r.1/\Vb w' (Fr 0 w' b) j r.2.1 :=
  RQ (Wv _) k f l hm
noncomputable def Ez (r:List Swp) (q:Fct):Option (MapF Bool) :=
  bnd (lop (ρ:=(MapF Bool)) (λ (a:(List Fct)×Int×(MapF Bool))=>if a.2.1 < (a.1.length:Int) then (bnd (rng (ρ:=Ctl ((List Fct)×Int×(MapF Bool)) (MapF Bool)) (λ (s:Nat) (h:Swp) (b:(List Fct)×(MapF Bool))=>bnd (atI b.1 a.2.1) λ i=>bnd (atI h.vars i.var) λ c=>bnd (atI b.1 a.2.1) λ j=>bnd (atI h.vals j.var) λ k=>bnd (atI b.1 a.2.1) λ m=>bnd (atI k m.val) λ d=>if (!(fget false b.2.l (⟨c,d⟩:Fct)))=true then (bnd (R8 16 b.1 [(⟨c,d⟩:Fct)]) λ n=>some (.next (n,(⟨fput b.2.l (⟨c,d⟩:Fct) true⟩:MapF Bool)))) else (some (.next (b.1,b.2)))) r 0 (a.1,a.2.2)) λ f=>fin f λ (e:(List Fct)×(MapF Bool))=>bnd (Q1 (a.2.1 + 1)) λ o=>some (.next (e.1,o,e.2))) else (some (.brk (a.1,a.2.1,a.2.2)))) ([q],0,(⟨fput (⟨[]⟩:MapF Bool).l q true⟩:MapF Bool))) λ g=>fin g λ (p:(List Fct)×Int×(MapF Bool))=>some p.2.2
theorem Mz {w:World} {O:Lab} {u:Value} {h:List Swp} (z0:Vb w (Fr 0 w O) u h) {y:Value} {A:Fct} (B:Vb w (Fr 0 w O) y A) (D:Nat) (E:D≠0) {r:(MapF Bool)} (hm:Ez h A=some r) :
    Fn prog 38 [u,y] w λ v w'=>∃ d,St nT w O w' d/\Ob D w' d v (r:MapF Bool):=by
 obtain ⟨j,hE,z3⟩:=AbR (w:=w) (O:=O)
 have c:Bm w j w j:=Bm.refl
 replace z0:=z0.mono z3
 obtain ⟨F,c4,rfl⟩:=z0.form
 replace B:=B.mono z3
 obtain ⟨w6,rfl,rfl,r6,r7⟩:=id B
 refine AK func38 rfl ntmps38 ?_
 unfold Ez at hm
 refine Am (Ah (Ft 2 j rfl λ g8 w9 W Y k=>?_))
 refine Au rfl (o_z (Am (Ah ?_)))
 refine PX (V:=Bool) 3 W rfl λ l x6 Z N q4=>?_
 replace k:=k.st N
 refine BH (hl:=rfl) (hc:=(k.1).cellsAt) rfl ?_
 refine Zb ?_
 refine RP (a:=A) (b:=true) q4 vBool rfl rfl rfl λ y6 P G=>?_
 refine At rfl (Au rfl (o_z (Am (Ah ?_))))
 replace k:=k.st P
 refine BH (hl:=rfl) (hc:=(k.1).cellsAt) rfl ?_
 replace c:=((c.st Y).st N).st P
 refine DW 4 Z (xs:=([A]:List Fct)) rfl rfl rfl ⟨(B.z c),trivial⟩ rfl λ r4 z6 s4 H t4=>?_
 refine Au rfl (o_z (Am (Am (Ah (Au rfl (o_z ?_))))))
 obtain ⟨a1,o2,hm⟩:=bs hm
 refine Bi (aft a1 (λ (e:(List Fct)×Int×(MapF Bool)) (f:(Option Addr×Nat))=>[(5,(.map (some l)))]) (λ e f w'=>∃ d:Lab,Bm w j w' d/\Ob 3 w' d (.map (some l)) e.2.2/\P9 e.2.1)) ?_ ?_
 ·
  refine Bx ?_
  replace c:=c.st H
  replace G:=G.st H
  refine Ex (σ:=(List Fct)×Int×(MapF Bool)) (X:=(Option Addr×Nat)) o2 (λ (e:(List Fct)×Int×(MapF Bool)) (f:(Option Addr×Nat))=>[(0,(.slice F h.length c4)),(5,(.map (some l))),(6,(.slice f.1 e.1.length f.2)),(7,(.int .i64 e.2.1))]) _ (λ e f w'=>∃ d:Lab,Bm w j w' d/\Ob 3 w' d (.map (some l)) e.2.2/\Rw 4 w' d 45 (.slice f.1 e.1.length f.2) e.1/\P9 e.2.1) _ ((some ⟨r4,0,none⟩),1) ⟨s4,c,G,t4,(R0 0)⟩ ⟨rfl,rfl,rfl,rfl,trivial⟩ ?_
  rintro e f a7 u4 ⟨v4,c,j2,d4,e4⟩ b0 p2 p0
  refine Am (Am (Ah (At rfl (At rfl (AU rfl ?_)))))
  have w4:=Cv d4.len
  have b7:=rngNat w4
  refine Eq rfl rfl (λ I=>?_) λ I=>?_
  ·
   replace b0:=ip b0 I
   refine o_z (Aj rfl (AN (Am (Bx (Am (Ah (At rfl (AU rfl ?_))))))))
   have J:=Cv z0.len
   have c7:=rngNat J
   refine At rfl (o_z ?_)
   obtain ⟨f4,s2,b0⟩:=bs b0
   refine EB (X:=(Option Addr×Nat)) (h.length) s2 rfl J (λ m g=>[(0,(.slice F h.length c4)),(5,(.map (some l))),(6,(.slice g.1 m.1.length g.2)),(7,(.int .i64 e.2.1)),(22,(.slice F h.length c4))]) (λ m g w'=>∃ d:Lab,Bm w j w' d/\Ob 3 w' d (.map (some l)) m.2/\Rw 4 w' d 45 (.slice g.1 m.1.length g.2) m.1) (f.1,f.2) ⟨v4,c,j2,d4⟩ ⟨rfl,rfl,rfl,rfl,rfl,rfl,rfl,trivial⟩ (λ _ _=>rfl) ?_ ?_
   ·
    rintro d7 e7 m g f7 x4 Q ⟨y4,c,q0,k0⟩ a0 t2 u2
    have R:=U9 Q J
    refine Am (Ah ?_)
    obtain ⟨g7,h7,z4,v2,w2,x2,i7,j7,k7,rfl,k2,l2,a5⟩:=(z0.z c).elem' Q
    obtain ⟨l7,m7,rfl⟩:=k2.form
    obtain ⟨n7,o7,rfl⟩:=l2.form
    obtain ⟨p7,q7,rfl⟩:=a5.form
    refine CZ (hA:=v2) (hj:=rfl) (hlt:=w2) rfl rfl (BH (hl:=rfl) (hc:=x2) rfl ?_)
    refine BL 5 y4 λ s7 t7 S n C=>?_
    refine AT C rfl rfl rfl (Bf) (allOne) λ b5 o C=>?_
    refine o_z (Am ?_)
    refine Bl [] S ?_
    refine AH (fuel:=2) [] (AX (CR 0 26)) rfl (AL rfl rfl (AZ (hc:=Bn C 0 rfl) rfl rfl (AJ rfl rfl (AJ rfl rfl ?_))))
    obtain ⟨c5,y2,a0⟩:=bs a0
    obtain ⟨z2,a3⟩:=Br y2
    replace k0:=(k0.st n).st o
    obtain ⟨d5,e5,h4,c1,d1,e1,f1,rfl,f5,g5⟩:=k0.elemF a3
    refine BT (hA:=c1) (hj:=z2) (hlt:=e1) rfl rfl rfl (AL rfl rfl (AZ (hc:=Jv d1 f1) rfl rfl ?_))
    obtain ⟨p,b3,a0⟩:=bs a0
    obtain ⟨c3,d3⟩:=Br b3
    replace k2:=(k2.st n).st o
    obtain ⟨h5,i5,i4,g1,h1,i1,j1,rfl,e3⟩:=k2.elem d3
    refine BT (hA:=g1) (hj:=c3) (hlt:=i1) rfl rfl rfl (AZ (hc:=Jv h1 j1) rfl rfl (AL rfl rfl (AZ (hc:=Bn C 1 rfl) rfl rfl (AJ rfl rfl (AJ rfl rfl ?_)))))
    obtain ⟨j5,f3,a0⟩:=bs a0
    obtain ⟨g3,h3⟩:=Br f3
    obtain ⟨k5,l5,j4,k1,l1,m1,n1,rfl,m5,n5⟩:=k0.elemF h3
    refine BT (hA:=k1) (hj:=g3) (hlt:=m1) rfl rfl rfl (AL rfl rfl (AZ (hc:=Jv l1 n1) rfl rfl ?_))
    obtain ⟨o5,i3,a0⟩:=bs a0
    obtain ⟨j3,k3⟩:=Br i3
    replace l2:=(l2.st n).st o
    obtain ⟨p5,q5,k4,o1,p1,q1,r1,r5,rfl,n0⟩:=l2.elem k3
    replace n0:=Vb.of_slice n0
    obtain ⟨s5,t5,rfl⟩:=n0.form
    refine BT (hA:=o1) (hj:=j3) (hlt:=q1) rfl rfl rfl (AZ (hc:=Jv p1 r1) rfl rfl (AJ rfl rfl (AJ rfl rfl ?_)))
    obtain ⟨u5,l3,a0⟩:=bs a0
    obtain ⟨m3,n3⟩:=Br l3
    obtain ⟨v5,w5,l4,s1,t1,u1,v1,rfl,x5,y5⟩:=k0.elemF n3
    refine BT (hA:=s1) (hj:=m3) (hlt:=u1) rfl rfl rfl (AL rfl rfl (AZ (hc:=λ w' ⟨d,hq⟩=>cat1 (Dq (hq.agree (i:=4) (by decide)) t1 v1)) rfl rfl ?_))
    obtain ⟨s,o3,a0⟩:=bs a0
    obtain ⟨p3,q3⟩:=Br o3
    obtain ⟨z5,a6,m4,w1,y1,z1,a2,rfl,r3⟩:=n0.elem q3
    refine BT (hA:=w1) (hj:=p3) (hlt:=z1) rfl rfl rfl (AZ (hc:=Jv y1 a2) rfl rfl (Ew rfl rfl rfl ?_))
    refine AC (AF (i:=26) rfl ?_)
    refine BL 6 S λ b6 c6 d6 t c0=>?_
    have hZ:=lZ t
    refine AV [] hZ (AF (i:=27) rfl ?_)
    refine AT c0 rfl rfl rfl (Bf) (allOne) λ e6 l0 c0=>?_
    refine Bz (Ba (Am (Ah (At rfl (BH (hl:=rfl) (hc:=(c0.1).cellsAt) rfl ?_)))))
    replace q0:=(((q0.st n).st o).st t).st l0
    obtain ⟨f6,b2,s3⟩:=MapF.get q0 (⟨p,s⟩:Fct) vBool
    obtain rfl:=s3.bool
    refine SJ (⟨p,s⟩:Fct) b2 rfl rfl rfl (Eh rfl (o_z (BP rfl (λ K=>?_) (λ K=>?_))))
    ·
     replace a0:=ip a0 K
     refine Am (Ah (At rfl (BH (hl:=rfl) (hc:=(c0.1).cellsAt) rfl ?_)))
     refine RP (a:=(⟨p,s⟩:Fct)) (b:=true) q0 vBool rfl rfl rfl λ g6 L t3=>?_
     refine o_z (Ah (At rfl ?_))
     replace c0:=c0.st L
     refine BH (hl:=rfl) (hc:=(c0.1).cellsAt) rfl ?_
     obtain ⟨h6,M,a0⟩:=bs a0
     obtain ⟨M,u3,v3⟩:=Bt M
     replace k0:=((k0.st t).st l0).st L
     refine FE rfl (a:=(⟨p,s⟩:Fct)) k0 (Vb.ofAgg (cs:=[(.int .i64 p),(.int .i64 s)]) (x:=(⟨p,s⟩:Fct)) rfl ⟨rfl,e3,r3⟩) (λ _=>rfl) rfl u3 v3 ⟨rfl,rfl⟩ λ i6 w3 x3 j6 k6 T U=>?_
     rw [<- M] at U ⊢
     refine Au rfl (o_z ?_)
     obtain rfl:=sm a0
     exact show Exists _ from ⟨_,(w3,x3),rfl,⟨rfl,rfl,rfl,rfl,rfl,rfl,rfl,trivial⟩,_,(((((c.st n).st o).st t).st l0).st L).st T,t3.st T,U⟩
    replace a0:=im' a0 K
    refine AN ?_
    obtain rfl:=sm a0
    exact show Exists _ from ⟨_,(g.1,g.2),rfl,⟨rfl,rfl,rfl,rfl,rfl,rfl,rfl,trivial⟩,_,(((c.st n).st o).st t).st l0,q0,(k0.st t).st l0⟩
   rintro l6 m6 ⟨n6,e2,rfl,f2,o6,c,q0,k0⟩
   replace b0:=BF b0
   refine Bg _ f2 ?_
   refine Ah (At rfl ?_)
   obtain ⟨p6,g2,b0⟩:=bs b0
   have y3:=(BE g2)
   refine Fu (he:=g2) rfl rfl (Au rfl (o_z ?_))
   obtain rfl:=sm b0
   exact show Exists _ from ⟨_,(e2.1,e2.2),rfl,⟨rfl,rfl,rfl,rfl,trivial⟩,_,c,q0,k0,y3⟩
  replace b0:=im b0 I
  refine o_z (Ae rfl (Cq ?_))
  obtain rfl:=sm b0
  exact show Exists _ from ⟨_,(f.1,f.2),p0 _ rfl,⟨rfl,trivial⟩,_,c,j2,e4⟩
 replace c:=c.st H
 rintro q6 s6 ⟨t6,u6,rfl,h2,v6,c,j2,e4⟩
 replace hm:=BF hm
 refine Bg _ h2 ?_
 refine Am (Ah (At rfl (Au rfl (o_z (AM ?_)))))
 obtain rfl:=sm hm
 obtain ⟨d,hS',hz,hl⟩:=hE.leave (λ q=>if q=3 then D else 0) rfl c
 exact T8 rfl (Bc rfl) ⟨d,hS',(Ob.leave j2 hz (hl 3 (by decide) (by decide)) E)⟩
noncomputable def Dl (G:Fnd) (j:Int) (H:List Swp):Option ((List Swp)×Fnd) :=
  bnd (Aab j) λ z=>bnd (ZA (ρ:=(List Swp)×Fnd) (λ (E:Nat) (A:Fnd)=>bnd (A.list[E]?) λ B=>bnd (A.list[E]?) λ C=>bnd (CG A B C) λ D=>some (.next D.2)) z G) λ k=>fin k λ (m:Fnd)=>bnd (rng (ρ:=(List Swp)×Fnd) (λ (F:Nat) (e:Fct) (a:(List Swp)×Fnd)=>bnd (bnd (atI a.2.list j) λ n=>bnd (CC a.2 n e) λ o=>if o=true then bnd (atI a.2.list j) λ p=>bnd (Ez a.1 p) λ q=>some (fget false q.l e) else some true:Option Bool) λ r=>if r=true then (some (.next (a.1,a.2))) else (bnd (Dv a.2 j e) λ c=>bnd (if c.2.1=true then (bnd (R8 72 a.1 [c.1]) λ s=>some s) else (some a.1):Option (List Swp)) λ h=>if c.2.2.full=true then (some (.brk (h,c.2.2))) else (some (.next (h,c.2.2))))) m.list 0 (H,m)) λ f=>fin f λ (i:(List Swp)×Fnd)=>bnd (Q1 (j - 1)) λ t=>bnd (lop (ρ:=(List Swp)×Fnd) (λ (b:Int×Fnd)=>if 0<=b.1 then (bnd (bnd (atI b.2.list b.1) λ d=>if d.val=0 then (bnd (BU b.2 d d true) λ u=>some u) else (bnd (BU b.2 d d false) λ v=>some v):Option Fnd) λ w=>bnd (Q1 (b.1 - 1)) λ x=>some (.next (x,w))) else (some (.brk (b.1,b.2)))) (t,i.2)) λ g=>fin g λ (y:Int×Fnd)=>some (i.1,y.2)
theorem Ja {w:World} {O:Lab} {p0 i0:Nat} {x0:Fnd} (c4:Ob i0 w O (.pointer (some ⟨p0,0,none⟩)) x0) {x1:Int} (rx1:P9 x1) {A2:Option Addr} {m2 c2 i1:Nat} {x2:List Swp} (t1:Rw i1 w O 55 (.slice A2 m2 c2) x2) (hne:i0≠i1) {r:(List Swp)×Fnd} (hm:Dl x0 x1 x2=some r) :
    Fn prog 16 [(.pointer (some ⟨p0,0,none⟩)),(.int .i64 x1),(.slice A2 m2 c2)] w λ v w'=>∃ O',St (λ j=>j=i0\/j=i1) w O w' O'/\Ob i0 w' O' (.pointer (some ⟨p0,0,none⟩)) r.2/\Rw i1 w' O' 55 v r.1:=by
 obtain ⟨O0,hE,i9,mA,nA⟩:=AbQ (w:=w) (O:=O) hne c4.2 t1.2.2
 have c4':=Ob.leave c4 i9 mA (j:=2) (by decide)
 obtain rfl:m2=x2.length:=t1.len.1
 have t1':=Rw.leave t1 i9 nA (j:=3) (by decide)
 have hB:Bm w O0 w O0:=Bm.refl
 refine AK func16 rfl ntmps16 ?_
 unfold Dl at hm
 refine Am (Ah (Au rfl (o_z (Am (Am (Ah (At rfl (At rfl (o_z ?_)))))))))
 obtain ⟨oA,u1,hm⟩:=bs hm
 replace u1:=KW u1
 obtain ⟨pA,qA,hm⟩:=bs hm
 refine PN (X:=Unit) oA qA (LI u1 rx1) (λ s6 x7=>[(0,(.pointer (some ⟨p0,0,none⟩))),(1,(.int .i64 x1)),(2,(.slice A2 x2.length c2))]) (λ s6 x7 w'=>∃ O':Lab,Bm w O0 w' O'/\Ob 2 w' O' (.pointer (some ⟨p0,0,none⟩)) s6/\Rw 3 w' O' 55 (.slice A2 x2.length c2) x2) () ⟨O0,hB,c4',t1'⟩ ⟨rfl,(congrArg (λ z=>some (Value.int .i64 z)) u1),rfl,rfl,rfl,trivial⟩ (λ _ _=>rfl) ?_ ?_
 ·
  rintro k8 s6 x7 eH rA a6 ⟨j9,hB,y2,t1'⟩ b1 b6 c6
  have rk8:=AaW a6 (LI u1 rx1)
  refine Am (Ah (At rfl (Au rfl (o_z ?_))))
  refine Bl [] j9 ?_
  refine AH (fuel:=1) [] (AX (CR 0 15)) rfl (AJ rfl rfl (AJ rfl rfl (BG rfl rfl (AL rfl rfl ?_))))
  obtain ⟨fH,gH,d6,sA⟩:=Fnd.pk_list y2
  refine AZ (hc:=Fnd.kq y2 d6) rfl rfl (AJ rfl rfl ?_)
  obtain ⟨e6,tA,b1⟩:=bs b1
  obtain ⟨hH,iH,uA,f6,g6,h6,i6,rfl,vA,wA⟩:=sA.elem tA
  refine BT (hA:=f6) (hj:=rfl) (hlt:=h6) rfl rfl rfl (Dm (hl:=rfl) (hb:=Hi g6 i6) rfl rfl (AJ rfl rfl (BG rfl rfl (AL rfl rfl ?_))))
  obtain ⟨jH,kH,j6,xA⟩:=Fnd.pk_list y2
  refine AZ (hc:=Fnd.kq y2 j6) rfl rfl (AJ rfl rfl ?_)
  obtain ⟨k6,yA,b1⟩:=bs b1
  obtain ⟨lH,mH,zA,l6,m6,n6,o6,rfl,aB,bB⟩:=xA.elem yA
  refine BT (hA:=l6) (hj:=rfl) (hlt:=n6) rfl rfl rfl (Dm (hl:=rfl) (hb:=Hi m6 o6) rfl rfl (AC (AF (i:=15) rfl ?_)))
  obtain ⟨nH,cB,b1⟩:=bs b1
  refine Cg (O:=j9) (Gy y2 (Vb.ofAgg (cs:=[(.int .i64 e6.var),(.int .i64 e6.val)]) (x:=e6) rfl ⟨rfl,vA,wA⟩) (Vb.ofAgg (cs:=[(.int .i64 k6.var),(.int .i64 k6.val)]) (x:=k6) rfl ⟨rfl,aB,bB⟩) cB) rfl λ oH pH qH k9 dB=>?_
  obtain ⟨eB,fB⟩:=dB
  obtain rfl:=fB.bool
  refine Bz (Ba ?_)
  obtain rfl:=sm b1
  exact show Exists _ from ⟨_,(),rfl,⟨rfl,rfl,rfl,rfl,rfl,trivial⟩,_,hB.st k9,eB,t1'.st k9⟩
 rintro rH sH ⟨q1,tH,rfl,p6,uH,hB,y2,t1'⟩
 replace hm:=BF hm
 refine Bg _ p6 ?_
 refine Am (Am (Ah (At rfl (CV rfl ?_))))
 obtain ⟨vH,wH,xH,yH,zH,aI,bI,cI,gB,iB,jB,kB,q6,lB,l9,m9,n9,o9,p9,q0,q9,r9,d4,e4,f4,g4,r6,t6⟩:=Fnd.opn y2 2 4 5 6 7 8 (by decide)
 obtain ⟨dI,eI,rfl⟩:=m9.form
 obtain ⟨fI,gI,rfl⟩:=n9.form
 obtain ⟨hI,iI,rfl⟩:=o9.form
 obtain ⟨jI,kI,rfl⟩:=p9.form
 obtain ⟨a4,b4,rfl⟩:=q0.form
 obtain ⟨lI,mI,rfl⟩:=q9.form
 obtain ⟨nI,oI,rfl⟩:=r9.form
 obtain ⟨mB,nB,rfl⟩:=d4.form
 obtain ⟨oB,pB,rfl⟩:=e4.form
 obtain ⟨qB,rB,rfl⟩:=f4.form
 obtain ⟨sB,tB,rfl⟩:=g4.form
 refine AO rfl (AQ (hc:=Blk.cell (i:=4) (l9.1) rfl) rfl (AU rfl ?_))
 have z2:=Cv q0.len
 have uB:=rngNat z2
 refine At rfl (o_z ?_)
 obtain ⟨u6,b2,s9,t9,v6⟩:=Fnd.shut (x:=q1) (l0:=2) (by decide) l9 m9 n9 o9 p9 q0 q9 r9 d4 e4 f4 g4 r6 t6
 obtain ⟨a3,h4,hm⟩:=bs hm
 refine Bi (aft a3 (λ (h0:(List Swp)×Fnd) (d0:(Option Addr×Nat))=>[(0,(.pointer (some ⟨p0,0,none⟩))),(1,(.int .i64 x1)),(2,(.slice d0.1 h0.1.length d0.2))]) (λ h0 d0 w'=>∃ O':Lab,Bm w O0 w' O'/\Ob 2 w' O' (.pointer (some ⟨p0,0,none⟩)) h0.2/\Rw 3 w' O' 55 (.slice d0.1 h0.1.length d0.2) h0.1)) ?_ ?_
 ·
  refine Bx ?_
  replace hB:=(hB.st q6).st b2
  replace t1':=(t1'.st q6).st b2
  replace q0:=q0.st b2
  refine LJ (σ:=(List Swp)×Fnd) (X:=(Option Addr×Nat)) (q1.list.length) h4 rfl z2 (λ (h0:(List Swp)×Fnd) (d0:(Option Addr×Nat))=>[(0,(.pointer (some ⟨p0,0,none⟩))),(1,(.int .i64 x1)),(2,(.slice d0.1 h0.1.length d0.2)),(38,(.slice a4 q1.list.length b4))]) _ (λ h0 d0 w'=>∃ O':Lab,Bm w O0 w' O'/\Ob 2 w' O' (.pointer (some ⟨p0,0,none⟩)) h0.2/\Rw 3 w' O' 55 (.slice d0.1 h0.1.length d0.2) h0.1/\Vb w' (Fr 0 w' O') (.slice a4 q1.list.length b4) q1.list) _ (A2,c2) ⟨u6,hB,v6,t1',q0⟩ ⟨rfl,rfl,rfl,rfl,rfl,rfl,trivial⟩ (λ _ _=>⟨rfl,rfl⟩) (λ _ _=>⟨rfl,rfl,rfl,trivial⟩) (λ _ _ _ ⟨O',hB,v0,b0,q0⟩=>⟨O',hB,v0,b0⟩) ⟨rfl,rfl,rfl⟩ ⟨rfl,rfl⟩ ?_
  rintro i4 r0 h0 d0 vB u9 r2 ⟨w6,hB,v0,b0,q0⟩ a0 y5 d2
  have rk132:=U9 r2 z2
  refine Am (Ah ?_)
  obtain ⟨wB,xB,v9,j4,k4,l4,rfl,m4,n4⟩:=q0.elem' r2
  refine CZ (hA:=j4) (hj:=rfl) (hlt:=k4) rfl rfl (BH (hl:=rfl) (hc:=l4) rfl ?_)
  refine BL 9 w6 λ o4 yB p4 c1 s0=>?_
  refine AT s0 rfl rfl rfl (Bf) (allOne) λ zB d1 s0=>?_
  refine o_z (Am (Am ?_))
  obtain ⟨x6,c0,a0⟩:=bs a0
  refine Bi (λ l' w'=>∃ (y6:Unit) (O':Lab),Q2 l' [(0,(.pointer (some ⟨p0,0,none⟩))),(1,(.int .i64 x1)),(2,(.slice d0.1 h0.1.length d0.2)),(9,(.pointer (some ⟨o4,0,none⟩))),(38,(.slice a4 q1.list.length b4)),(39,(.int .i64 (q1.list.length:Int))),(40,(.int .i64 (i4:Int))),(67,(.bool x6))]/\Bm w O0 w' O'/\Ob 2 w' O' (.pointer (some ⟨p0,0,none⟩)) h0.2/\Rw 3 w' O' 55 (.slice d0.1 h0.1.length d0.2) h0.1/\Lc 9 w' O' o4 45 [(.int .i64 r0.var),(.int .i64 r0.val)]/\Vb w' (Fr 0 w' O') (.slice a4 q1.list.length b4) q1.list) ?_ ?_
  ·
   refine Bl [(9,[2])] p4 ?_
   refine AH (fuel:=15) [] (AX (CR 0 9)) rfl (AJ rfl rfl (AJ rfl rfl (BG rfl rfl (AL rfl rfl ?_))))
   replace v0:=(v0.st c1).st d1
   obtain ⟨aC,bC,q4,z6⟩:=Fnd.pk_list v0
   refine AZ (hc:=Fnd.kq v0 q4) rfl rfl (AJ rfl rfl ?_)
   obtain ⟨b3,a7,c0⟩:=bs c0
   obtain ⟨b7,c7⟩:=Br a7
   obtain ⟨cC,dC,w9,r4,s4,t4,u4,rfl,d7,e7⟩:=z6.elem c7
   refine BT (hA:=r4) (hj:=b7) (hlt:=t4) rfl rfl rfl (Dm (hl:=rfl) (hb:=Hi s4 u4) rfl rfl (Dm (hl:=rfl) (hb:=Gl s0) rfl rfl (AC (AF (i:=9) rfl ?_))))
   obtain ⟨f7,g7,c0⟩:=bs c0
   refine Cg (O:=p4) (GX v0 (Vb.ofAgg (cs:=[(.int .i64 b3.var),(.int .i64 b3.val)]) (x:=b3) rfl ⟨rfl,d7,e7⟩) (Vb.ofAgg (cs:=[(.int .i64 r0.var),(.int .i64 r0.val)]) (x:=r0) rfl ⟨rfl,m4,n4⟩) g7) rfl λ eC h7 v4 r1 i7=>?_
   obtain ⟨e2,j7⟩:=i7
   obtain rfl:=j7.bool
   have hZ:=r1.lst [2] (λ _ h=>by cases h;decide)
   cases f7
   case false =>
    replace c0:=iF c0
    refine AV [] hZ ?_
    refine AH (fuel:=3) [] (AX [10,11,12,13,14,15,16,17,18,19,21]) rfl (SB rfl rfl rfl (AJ rfl rfl (AW rfl rfl rfl (AW rfl rfl rfl (AW rfl rfl rfl (AW rfl rfl rfl (AW rfl rfl rfl (AW rfl rfl rfl (AW rfl rfl rfl (AW rfl rfl rfl (AW rfl rfl rfl (AC (AF (i:=20) rfl (AA rfl rfl ?_))))))))))))))
    refine AV [] (lZ (St.refl nT _ _)) ?_
    refine AH (fuel:=0) [] (AX [22,23]) rfl (AW rfl rfl rfl (CL rfl rfl rfl (AC (Ba ?_))))
    obtain rfl:=sm c0
    have v1:=(c1.an d1).an r1
    exact ⟨(),_,⟨rfl,rfl,rfl,rfl,rfl,rfl,rfl,rfl,trivial⟩,hB.st v1,e2,b0.st v1,s0.st r1,q0.st v1⟩
   replace c0:=iT c0
   refine AV [] hZ ?_
   refine AH (fuel:=3) [] (AX [10,11,12,13,14,15,16,17,18,19,21]) rfl (PL rfl rfl rfl (AJ rfl rfl (Az rfl (Aw rfl rfl (Ce rfl (Az rfl (Aw rfl rfl (Ce rfl (Az rfl (Aw rfl rfl (Jt rfl (Az rfl (Aw rfl rfl (BM rfl ?_))))))))))))))
   refine Az rfl (Aw rfl rfl ?_)
   obtain ⟨fC,gC,w4,k7⟩:=Fnd.pk_list e2
   refine SD (hc:=Fnd.kq e2 w4) rfl rfl (Az rfl (Aw rfl rfl (Ce rfl (Az rfl (Aw rfl rfl ?_)))))
   obtain ⟨c3,l7,c0⟩:=bs c0
   obtain ⟨m7,n7⟩:=Br l7
   obtain ⟨hC,iC,x9,x4,y4,z4,a5,rfl,o7,p7⟩:=k7.elem n7
   refine Hx (hA:=x4) (hj:=m7) (hlt:=z4) rfl rfl (Az rfl (Aw rfl rfl (Je (hl:=rfl) (hb:=Hi y4 a5) rfl (Az rfl (Aw rfl rfl ?_)))))
   replace s0:=s0.st r1
   refine Je (hl:=rfl) (hb:=Gl s0) rfl (AC (AF (i:=20) rfl (AB rfl rfl ?_)))
   obtain ⟨jC,q7,c0⟩:=bs c0
   replace b0:=((b0.st c1).st d1).st r1
   refine Ri (O:=v4) (Mz (O:=λ _=>0) (Vb.all0 (b0).all) (Vb.all0 (Vb.mono (F:=Fr 0 h7 v4) (Vb.ofAgg (cs:=[(.int .i64 c3.var),(.int .i64 c3.val)]) (x:=c3) rfl ⟨rfl,o7,p7⟩) Fr.lt)) 10 (by decide) q7) rfl rfl λ kC lC mC w1 d3=>?_
   obtain ⟨nC,rfl⟩:=d3.mptr
   have hZ:=lZ w1
   refine AV [] hZ ?_
   refine AH (fuel:=0) [] (AX [22,23]) rfl (Az rfl (Aw rfl rfl ?_))
   obtain ⟨oC,b5,r7⟩:=MapF.get d3 r0 vBool
   obtain rfl:=r7.bool
   refine Zf r0 (λ w' ⟨O',hq⟩=>b5.keep (hq.agree (i:=10) (by decide) _ (MapF.at d3))) rfl rfl rfl (CE rfl rfl rfl (AC (Ba ?_)))
   obtain rfl:=sm c0
   have s2:=((c1.an d1).an r1).an w1
   exact ⟨(),_,⟨rfl,rfl,rfl,rfl,rfl,rfl,rfl,rfl,trivial⟩,hB.st s2,e2.st w1,b0.st w1,s0.st w1,q0.st s2⟩
  replace hB:=(hB.st c1).st d1
  replace q0:=(q0.st c1).st d1
  replace b0:=(b0.st c1).st d1
  rintro pC qC ⟨y6,s7,c5,hB,d5,b0,s0,q0⟩
  refine Bg _ c5 ?_
  refine BP rfl (λ e3=>?_) (λ e3=>?_)
  ·
   replace a0:=ip a0 e3
   refine Cq ?_
   obtain rfl:=sm a0
   exact show Exists _ from ⟨_,(d0.1,d0.2),rfl,⟨rfl,rfl,rfl,rfl,rfl,rfl,trivial⟩,_,hB,d5,b0,q0⟩
  replace a0:=im' a0 e3
  refine AN (Am (Am (Ah (At rfl (At rfl (BH (hl:=rfl) (hc:=(s0.1).cellsAt) rfl ?_))))))
  obtain ⟨z0,t7,a0⟩:=bs a0
  refine Cg (O:=s7) (Jz d5 rx1 (Vb.ofAgg (cs:=[(.int .i64 r0.var),(.int .i64 r0.val)]) (x:=r0) rfl ⟨rfl,m4,n4⟩) t7) rfl λ rC sC u7 f2 v7=>?_
  obtain ⟨tC,uC,s1,rfl,w7,y7⟩:=v7
  obtain ⟨y9,rfl,vC,wC,xC,rfl,g2,h2,i2⟩:=w7
  obtain ⟨z7,a8,rfl⟩:=g2.form
  obtain ⟨b8,c8,rfl⟩:=h2.form
  obtain ⟨d8,e8,rfl⟩:=i2.form
  obtain rfl:=y7.bool
  refine At rfl (CK rfl rfl (CK rfl rfl (BL 11 u7 λ yC zC aD t0 f3=>?_)))
  refine AT f3 rfl rfl rfl (Bf) (allOne) λ bD u0 f3=>?_
  refine Au rfl (o_z (Am (Ah (At rfl (o_z ?_)))))
  obtain ⟨g3,k0,a0⟩:=bs a0
  refine Bi (λ l' w'=>∃ (w0:(Option Addr×Nat)) (O':Lab),Q2 l' [(0,(.pointer (some ⟨p0,0,none⟩))),(1,(.int .i64 x1)),(2,(.slice w0.1 g3.length w0.2)),(38,(.slice a4 q1.list.length b4)),(39,(.int .i64 (q1.list.length:Int))),(40,(.int .i64 (i4:Int)))]/\Bm w O0 w' O'/\Ob 2 w' O' (.pointer (some ⟨p0,0,none⟩)) z0.2.2/\Rw 3 w' O' 55 (.slice w0.1 g3.length w0.2) g3/\Vb w' (Fr 0 w' O') (.slice a4 q1.list.length b4) q1.list) ?_ ?_
  ·
   refine BP rfl (λ h3=>?_) (λ h3=>?_)
   ·
    replace k0:=ip k0 h3
    refine Ah (At rfl (BH (hl:=rfl) (hc:=(f3.1).cellsAt) rfl ?_))
    obtain ⟨cD,i3,k0⟩:=bs k0
    obtain ⟨i3,f8,g8⟩:=Bt i3
    replace b0:=((b0.st f2).st t0).st u0
    replace g2:=(g2.st t0).st u0
    replace h2:=(h2.st t0).st u0
    replace i2:=(i2.st t0).st u0
    refine FE rfl (a:=z0.1) b0 (Vb.ofAgg (cs:=[(.slice z7 z0.1.vars.length a8),(.slice b8 z0.1.vals.length c8),(.slice d8 z0.1.ops.length e8)]) (x:=z0.1) rfl ⟨_,_,_,rfl,g2,h2,i2⟩) (λ _=>rfl) rfl f8 g8 ⟨rfl,rfl⟩ λ dD h8 i8 eD fD e5 f5=>?_
    rw [<- i3] at f5 ⊢
    refine Au rfl (o_z ?_)
    obtain rfl:=sm k0
    have t2:=((f2.an t0).an u0).an e5
    exact ⟨(h8,i8),_,⟨rfl,rfl,rfl,rfl,rfl,rfl,trivial⟩,hB.st t2,((s1.st t0).st u0).st e5,f5,q0.st t2⟩
   replace k0:=im' k0 h3
   refine AN ?_
   obtain rfl:=sm k0
   have y1:=(f2.an t0).an u0
   exact ⟨(d0.1,d0.2),_,⟨rfl,rfl,rfl,rfl,rfl,rfl,trivial⟩,hB.st y1,(s1.st t0).st u0,b0.st y1,q0.st y1⟩
  have u2:=(f2.an t0).an u0
  replace hB:=hB.st u2
  replace q0:=q0.st u2
  replace s1:=(s1.st t0).st u0
  rintro gD hD ⟨w0,iD,g5,hB,s1,h5,q0⟩
  refine Bg _ g5 ?_
  refine Am (Ah (At rfl (CV rfl ?_)))
  obtain ⟨jD,kD,lD,mD,nD,oD,pD,qD,rD,sD,tD,uD,z1,z9,j3,k3,l3,m3,n3,o3,p3,q3,r3,s3,t3,u3,i5,j5⟩:=Fnd.opn s1 2 4 5 6 7 8 (by decide)
  obtain ⟨vD,wD,rfl⟩:=k3.form
  obtain ⟨xD,yD,rfl⟩:=l3.form
  obtain ⟨zD,aE,rfl⟩:=m3.form
  obtain ⟨bE,cE,rfl⟩:=n3.form
  obtain ⟨dE,eE,rfl⟩:=o3.form
  obtain ⟨fE,gE,rfl⟩:=p3.form
  obtain ⟨iE,jE,rfl⟩:=q3.form
  obtain ⟨kE,lE,rfl⟩:=r3.form
  obtain ⟨mE,nE,rfl⟩:=s3.form
  obtain ⟨oE,pE,rfl⟩:=t3.form
  obtain ⟨qE,rE,rfl⟩:=u3.form
  refine AO rfl (AQ (hc:=Blk.cell (i:=13) (j3.1) rfl) rfl (o_z (BP rfl (λ v3=>?_) (λ v3=>?_))))
  ·
   replace a0:=ip a0 v3
   refine Cq ?_
   obtain ⟨sE,k5,aA,bA,j8⟩:=Fnd.shut (x:=z0.2.2) (l0:=2) (by decide) j3 k3 l3 m3 n3 o3 p3 q3 r3 s3 t3 u3 i5 j5
   obtain rfl:=sm a0
   exact show Exists _ from ⟨_,(w0.1,w0.2),d2 _ rfl,⟨rfl,rfl,rfl,trivial⟩,_,(hB.st z1).st k5,j8,(h5.st z1).st k5⟩
  replace a0:=im' a0 v3
  refine AN ?_
  obtain ⟨tE,w3,cA,dA,l8⟩:=Fnd.shut (x:=z0.2.2) (l0:=2) (by decide) j3 k3 l3 m3 n3 o3 p3 q3 r3 s3 t3 u3 i5 j5
  obtain rfl:=sm a0
  exact show Exists _ from ⟨_,(w0.1,w0.2),rfl,⟨rfl,rfl,rfl,rfl,rfl,rfl,trivial⟩,_,(hB.st z1).st w3,l8,(h5.st z1).st w3,(q0.st z1).st w3⟩
 replace hB:=(hB.st q6).st b2
 rintro uE vE ⟨y0,m0,rfl,l5,m8,hB,v0,b0⟩
 replace hm:=BF hm
 refine Bg _ l5 ?_
 refine Am (Am (Ah (At rfl ?_)))
 obtain ⟨wE,m5,hm⟩:=bs hm
 have n8:=(BE m5)
 refine Hf (he:=m5) rfl rfl (Au rfl (o_z ?_))
 obtain ⟨x3,n5,hm⟩:=bs hm
 refine Bi (aft x3 (λ (n0:Int×Fnd) (j2:Unit)=>[(2,(.slice m0.1 y0.1.length m0.2))]) (λ n0 j2 w'=>∃ O':Lab,Bm w O0 w' O'/\Rw 3 w' O' 55 (.slice m0.1 y0.1.length m0.2) y0.1/\Ob 2 w' O' (.pointer (some ⟨p0,0,none⟩)) n0.2/\P9 n0.1)) ?_ ?_
 ·
  refine Bx (Ex (σ:=Int×Fnd) (X:=Unit) n5 (λ (n0:Int×Fnd) (j2:Unit)=>[(0,(.pointer (some ⟨p0,0,none⟩))),(2,(.slice m0.1 y0.1.length m0.2)),(12,(.int .i64 n0.1))]) _ (λ n0 j2 w'=>∃ O':Lab,Bm w O0 w' O'/\Ob 2 w' O' (.pointer (some ⟨p0,0,none⟩)) n0.2/\Rw 3 w' O' 55 (.slice m0.1 y0.1.length m0.2) y0.1/\P9 n0.1) _ () ⟨m8,hB,v0,b0,n8⟩ ⟨rfl,rfl,rfl,trivial⟩ ?_)
  rintro n0 j2 xE eA ⟨yE,hB,k2,b0,o5⟩ j0 z5 l2
  refine Am (Am (Ah (At rfl (GH rfl rfl (λ y3=>?_) λ y3=>?_))))
  ·
   replace j0:=ip j0 y3
   refine o_z (Aj rfl (AN (Am ?_)))
   obtain ⟨o8,e0,j0⟩:=bs j0
   refine Bi (λ l' w'=>∃ (p8:Unit) (O':Lab),Q2 l' [(0,(.pointer (some ⟨p0,0,none⟩))),(2,(.slice m0.1 y0.1.length m0.2)),(12,(.int .i64 n0.1))]/\Bm w O0 w' O'/\Ob 2 w' O' (.pointer (some ⟨p0,0,none⟩)) o8/\Rw 3 w' O' 55 (.slice m0.1 y0.1.length m0.2) y0.1) ?_ ?_
   ·
    refine Bx (Am (Ah (At rfl (CV rfl ?_))))
    obtain ⟨q8,zE,aF,bF,cF,dF,eF,fF,gF,hF,jF,kF,p5,fA,e1,f1,g1,h1,j1,a1,k1,l1,m1,n1,o1,p1,q5,r5⟩:=Fnd.opn k2 2 4 5 6 7 8 (by decide)
    obtain ⟨lF,mF,rfl⟩:=f1.form
    obtain ⟨nF,oF,rfl⟩:=g1.form
    obtain ⟨pF,qF,rfl⟩:=h1.form
    obtain ⟨rF,sF,rfl⟩:=j1.form
    obtain ⟨tF,uF,rfl⟩:=a1.form
    obtain ⟨vF,wF,rfl⟩:=k1.form
    obtain ⟨xF,yF,rfl⟩:=l1.form
    obtain ⟨zF,aG,rfl⟩:=m1.form
    obtain ⟨bG,cG,rfl⟩:=n1.form
    obtain ⟨dG,eG,rfl⟩:=o1.form
    obtain ⟨fG,gG,rfl⟩:=p1.form
    refine AO rfl (AQ (hc:=Blk.cell (i:=4) (e1.1) rfl) rfl (At rfl ?_))
    obtain ⟨o0,r8,e0⟩:=bs e0
    obtain ⟨s8,t8⟩:=Br r8
    obtain ⟨hG,iG,gA,s5,t5,u5,rfl,n2,o2⟩:=a1.elem' t8
    refine CZ (hA:=s5) (hj:=s8) (hlt:=t5) rfl rfl (BH (hl:=rfl) (hc:=u5) rfl ?_)
    refine BL 12 q8 λ jG kG lG p2 a2=>?_
    refine AT a2 rfl rfl rfl (Bf) (allOne) λ mG q2 a2=>?_
    refine o_z (Ah (At rfl (BH (hl:=rfl) (hc:=(a2.1).cellsAt) rfl (BH (hl:=rfl) (hc:=(a2.1).cellsAt) rfl (AO rfl (AQ (hc:=Blk.cell (i:=1) (a2.1) rfl) rfl (FD rfl rfl (λ z3=>?_) λ z3=>?_)))))))
    ·
     replace e0:=ip e0 z3
     have f0:=p2.an q2
     replace e1:=e1.st f0
     replace f1:=f1.st f0
     replace g1:=g1.st f0
     replace h1:=h1.st f0
     replace j1:=j1.st f0
     replace a1:=a1.st f0
     replace k1:=k1.st f0
     replace l1:=l1.st f0
     replace m1:=m1.st f0
     replace n1:=n1.st f0
     replace o1:=o1.st f0
     replace p1:=p1.st f0
     obtain ⟨u8,v8,iA,jA,w8⟩:=Fnd.shut (x:=n0.2) (l0:=2) (by decide) e1 f1 g1 h1 j1 a1 k1 l1 m1 n1 o1 p1 q5 r5
     obtain ⟨nG,x8,e0⟩:=bs e0
     refine Cg (O:=u8) (FQ w8 (Vb.ofAgg (cs:=[(.int .i64 o0.var),(.int .i64 o0.val)]) (x:=o0) rfl ⟨rfl,n2,o2⟩) (Vb.ofAgg (cs:=[(.int .i64 o0.var),(.int .i64 o0.val)]) (x:=o0) rfl ⟨rfl,n2,o2⟩) x8) rfl λ oG pG qG y8 z8=>?_
     refine o_z ?_
     obtain rfl:=sm e0
     have v2:=(((p5.an p2).an q2).an v8).an y8
     exact ⟨(),_,⟨rfl,rfl,rfl,trivial⟩,hB.st v2,z8,b0.st v2⟩
    replace e0:=im e0 z3
    have g0:=p2.an q2
    replace e1:=e1.st g0
    replace f1:=f1.st g0
    replace g1:=g1.st g0
    replace h1:=h1.st g0
    replace j1:=j1.st g0
    replace a1:=a1.st g0
    replace k1:=k1.st g0
    replace l1:=l1.st g0
    replace m1:=m1.st g0
    replace n1:=n1.st g0
    replace o1:=o1.st g0
    replace p1:=p1.st g0
    obtain ⟨a9,b9,kA,lA,c9⟩:=Fnd.shut (x:=n0.2) (l0:=2) (by decide) e1 f1 g1 h1 j1 a1 k1 l1 m1 n1 o1 p1 q5 r5
    obtain ⟨rG,d9,e0⟩:=bs e0
    refine Cg (O:=a9) (FQ c9 (Vb.ofAgg (cs:=[(.int .i64 o0.var),(.int .i64 o0.val)]) (x:=o0) rfl ⟨rfl,n2,o2⟩) (Vb.ofAgg (cs:=[(.int .i64 o0.var),(.int .i64 o0.val)]) (x:=o0) rfl ⟨rfl,n2,o2⟩) d9) rfl λ sG tG uG e9 f9=>?_
    refine o_z ?_
    obtain rfl:=sm e0
    have w2:=(((p5.an p2).an q2).an b9).an e9
    exact ⟨(),_,⟨rfl,rfl,rfl,trivial⟩,hB.st w2,f9,b0.st w2⟩
   rintro vG wG ⟨p8,xG,v5,hB,g9,b0⟩
   refine Bg _ v5 ?_
   refine Ah (At rfl ?_)
   obtain ⟨yG,w5,j0⟩:=bs j0
   have h9:=(BE w5)
   refine Hf (he:=w5) rfl rfl (Au rfl (o_z ?_))
   obtain rfl:=sm j0
   exact show Exists _ from ⟨_,(),rfl,⟨rfl,rfl,rfl,trivial⟩,_,hB,g9,b0,h9⟩
  replace j0:=im j0 y3
  refine o_z (Ae rfl (Cq ?_))
  obtain rfl:=sm j0
  exact show Exists _ from ⟨_,(),l2 _ rfl,⟨rfl,trivial⟩,_,hB,b0,k2,o5⟩
 rintro zG aH ⟨bH,cH,rfl,x5,dH,hB,b0,k2,o5⟩
 replace hm:=BF hm
 refine Bg _ x5 ?_
 refine Am (Ah (At rfl (Au rfl (o_z (AM ?_)))))
 obtain rfl:=sm hm
 obtain ⟨O',hS',hz,hl⟩:=hE.leave (λ q=>if q=2 then i0 else if q=3 then i1 else 0) rfl hB
 exact T8 rfl (Bc rfl) ⟨O',hS',(Ob.leave k2 hz (hl 2 (by decide) (by decide)) c4.2),(Rw.leave b0 hz (hl 3 (by decide) (by decide)) t1.2.2)⟩
end
section
open Go Go.RowKit
structure EnI (es:List MapEntry) (ck:Nat) (m:List (Fct×Int)):Prop where
  keys:es.map (·.key)=m.map (λ p=>R4 p.1)
  nodup:(es.map (·.born)).Nodup
  old:∀ e∈es,e.born < ck
  vals:es.map (·.val)=m.map (λ p=>Value.int .i64 p.2)
  rng:∀ p∈m,P9 p.2
def IM (w:World) (q:Nat) (m:List (Fct×Int)):Prop:=∃ a ck,w.heap[q]?=some (.map a.toArray ck)/\EnI a ck m
structure MapM where
  l:List (ByteArray×List (Fct×Int))
def R5:List (ByteArray×List (Fct×Int))->ByteArray->Option (List (Fct×Int))
  | [],_=>none
  | p :: r,k=>if p.1=k then some p.2 else R5 r k
def InA (w:World) (M:Nat->Prop) (b:Lab) (a:List MapEntry) (xs:List (ByteArray×List (Fct×Int))):Prop:=∀ (j:Nat) (e:MapEntry) (p:ByteArray×List (Fct×Int)),a[j]?=some e->xs[j]?=some p->∃ q,e.val=.map (some q)/\M q/\b q=j + 1/\IM w q p.2
instance:Ow MapM where
  R w _ M v x:=∃ (r:Nat) (g:Lab) (a:List MapEntry) (ck:Nat),v=.map (some r)/\w.heap[r]?=some (.map a.toArray ck)/\M r/\g r=0/\a.map (·.key)=x.l.map (λ p=>MKey.enc p.1)/\InA w M g a x.l
  agree:=by
    rintro w w' F M v x ⟨r,g,a,ck,rfl,hb,hM,hL,hk,hv⟩ _ a2
    refine ⟨r,g,a,ck,rfl,(a2 r hM).trans hb,hM,hL,hk,λ j e p b c=>?_⟩
    obtain ⟨q,e1,e2,e3,es',ck',e4,e5⟩:=hv j e p b c
    exact ⟨q,e1,e2,e3,es',ck',(a2 q e2).trans e4,e5⟩
  mono:=by
    rintro w F M d f v x ⟨r,g,a,ck,rfl,hb,hM,hL,hk,hv⟩ _ a2 _
    refine ⟨r,g,a,ck,rfl,hb,a2 r hM,hL,hk,λ j e p b c=>?_⟩
    obtain ⟨q,e1,e2,e3,e4⟩:=hv j e p b c
    exact ⟨q,e1,a2 q e2,e3,e4⟩
instance:OwM MapM:=⟨by rintro w F M v x ⟨r,L,es,ck,rfl,_⟩;exact ⟨r,rfl⟩⟩
def InnV (i:Nat) (w:World) (O:Lab) (x:MapM) (a:ByteArray) (v:Value):Prop:=(mhas x.l a=false/\R5 x.l a=none/\v=.map none)\/(mhas x.l a=true/\∃ q m,v=.map (some q)/\Fr i w O q/\R5 x.l a=some m/\IM w q m)
theorem Ix:∀ (x:List (ByteArray×List (Fct×Int))) (a:ByteArray),(V4 x a=none/\mhas x a=false/\R5 x a=none)\/∃ j p,V4 x a=some j/\x[j]?=some p/\p.1=a/\mhas x a=true/\R5 x a=some p.2
  | [],_=>.inl ⟨rfl,rfl,rfl⟩
  | p :: r,a=>by
    by_cases b:p.1=a
    . exact .inr ⟨0,p,by simp [V4,b],rfl,b,by simp [mhas,b],by simp [R5,b]⟩
    . rcases Ix r a with ⟨c,h2,h3⟩|⟨j,q,c,h2,h3,h4,h5⟩
      . exact .inl ⟨by simp [V4,b,c],by simp [mhas,b,h2],by simp [R5,b,h3]⟩
      . exact .inr ⟨j + 1,q,by simp [V4,b,c],by simpa using h2,h3,by simp [mhas,b,h4],by simp [R5,b,h5]⟩
section
variable {i j : Nat} {w w' : World} {O O' : Lab} {r : Nat} {x : MapM} {T : Nat → Prop}
theorem MapM.at (a:Ob i w O (.map (some r)) x):Fr i w O r:=by
  obtain ⟨⟨r',L,es,ck,hv,hb,hM,_⟩,_⟩:=a
  injection hv with hv
  injection hv with hv
  subst hv
  exact hM
theorem MapM.get (h:Ob i w O (.map (some r)) x) (a:ByteArray):∃ v,LkV (MKey.desc ByteArray) (.map none) w r (MKey.enc a) v (mhas x.l a)/\InnV i w O x a v:=by
  obtain ⟨⟨r',L,f,ck,hv,hb,hM,hL,hk,hva⟩,_⟩:=h
  injection hv with hv
  injection hv with hv
  subst hv
  rcases Ix x.l a with ⟨e,k2,k3⟩|⟨g,pp,e,k2,k3,k4,k5⟩
  . rcases FG a f x.l 0 hk with ⟨c,g1,d,g3,g4⟩|⟨q,e',p,c,_⟩
    . exact ⟨.map none,⟨_,ck,none,hb,by simpa using g1,rfl,d⟩,.inl ⟨k2,k3,rfl⟩⟩
    . rw [e] at c;cases c
  . rcases FG a f x.l 0 hk with ⟨c,_⟩|⟨q,e',p,c,g1,d,g3,g4,g5,g6,g7⟩
    . rw [e] at c;cases c
    . rw [e] at c
      injection c with c
      subst c
      rw [k2] at d
      injection d with d
      subst d
      obtain ⟨b,e1,e2,e3,e4⟩:=hva g e' pp g1 k2
      exact ⟨e'.val,⟨_,ck,some (0 + g,e'.val),hb,by simpa using g3,rfl,g5⟩,.inr ⟨k4,b,_,e1,e2,k5,e4⟩⟩
theorem InnV.some {a:ByteArray} {v:Value} {m:List (Fct×Int)} (b:InnV i w O x a v) (hm:R5 x.l a=.some m):∃ q,v=.map (.some q)/\Fr i w O q/\IM w q m:=by
  rcases b with ⟨_,b,_⟩|⟨_,q,m',h1,h2,h3,h4⟩
  . rw [b] at hm;cases hm
  . rw [h3] at hm
    injection hm with hm
    exact ⟨q,h1,h2,hm ▸ h4⟩
theorem IM.get {q:Nat} {m:List (Fct×Int)} (f:IM w q m) (a:Fct):LkF (.int .i64 0) w q a (.int .i64 (fget 0 m a)) (Aac m a)/\P9 (fget 0 m a):=by
  obtain ⟨d,ck,hb,he⟩:=f
  rcases FH a d m 0 he.keys with ⟨e,g1,g2,g3,g4⟩|⟨j,e',p,e,g1,g2,g3,g4,g5,g6,g7⟩
  . rw [g3,g2]
    exact ⟨⟨_,ck,none,hb,by simpa using g1,rfl,rfl⟩,by decide⟩
  . rw [g6,g5]
    have b:e'.val=.int .i64 p.2:=by
      have c:(d.map (·.val))[j]?=some e'.val:=by rw [I4,g1];rfl
      rw [he.vals,I4,g2] at c
      injection c with c
      exact c.symm
    exact ⟨⟨_,ck,some (0 + j,e'.val),hb,by simpa using g3,b.symm,rfl⟩,he.rng p (F9 g2)⟩
theorem IM.keep {q:Nat} {m:List (Fct×Int)} (b:IM w q m) (e:w'.heap[q]?=w.heap[q]?):IM w' q m:=by
  obtain ⟨a,ck,h1,h2⟩:=b
  exact ⟨a,ck,e.trans h1,h2⟩
theorem UZ {a b:Fct} (d:R4 a=R4 b):a=b:=by
  simp [R4] at d
  obtain ⟨c,h2⟩:=d
  cases a;cases b
  simp_all
theorem sme {α:Type} {a b:α} (c:some a=some b):a=b:=by injection c
theorem OE:∀ (m:List (Fct×Int)) (k:Fct) (a b:Int),fput (fput m k a) k b=fput m k b
  | [],k,a,b=>by simp [fput]
  | p :: r,k,a,b=>by
    by_cases c:p.1=k
    . simp [fput,c]
    . simp [fput,c,OE r k a b]
theorem OF:∀ (x:List (ByteArray×List (Fct×Int))) (k:ByteArray) (a b:List (Fct×Int)),R3 (R3 x k a) k b=R3 x k b
  | [],k,a,b=>by simp [R3]
  | p :: r,k,a,b=>by
    by_cases c:p.1=k
    . simp [R3,c]
    . simp [R3,c,OF r k a b]
theorem PY {K V:Type} [MKey K]:∀ (x:List (K×V)) (a:K) (y:V),(V4 x a=none/\R3 x a y=x ++ [(a,y)])\/∃ j p,V4 x a=some j/\x[j]?=some p/\p.1=a/\R3 x a y=x.set j (a,y)
  | [],_,_=>.inl ⟨rfl,rfl⟩
  | p :: r,a,y=>by
    by_cases b:p.1=a
    . exact .inr ⟨0,p,by simp [V4,b],rfl,b,by simp [R3,b]⟩
    . rcases PY r a y with ⟨c,h2⟩|⟨j,q,c,h2,h3,h4⟩
      . exact .inl ⟨by simp [V4,b,c],by simp [R3,b,h2]⟩
      . exact .inr ⟨j + 1,q,by simp [V4,b,c],by simpa using h2,h3,by simp [R3,b,h4]⟩
theorem OG:∀ (x:List (ByteArray×List (Fct×Int))) (k:ByteArray) (a:List (Fct×Int)),R5 (R3 x k a) k=some a
  | [],k,a=>by simp [R3,R5]
  | p :: r,k,a=>by
    by_cases b:p.1=k
    . simp [R3,R5,b]
    . simp [R3,R5,b,OG r k a]
theorem MapM.inner {a:ByteArray} {q:Nat} {b:Bool} (I:Ob i w O (.map (some r)) x) (hl:LkV (MKey.desc ByteArray) (.map none) w r (MKey.enc a) (.map (some q)) b) :
    ∃ m,R5 x.l a=some m/\Fr i w O q/\q≠r/\IM w q m/\∀ (w':World) (h:List (Fct×Int)),w'.heap.size=w.heap.size->(∀ p,p≠q->w'.heap[p]?=w.heap[p]?)->IM w' q h->Ob i w' O (.map (some r)) (⟨R3 x.l a h⟩:MapM)/\LkV (MKey.desc ByteArray) (.map none) w' r (MKey.enc a) (.map (some q)) b:=by
  obtain ⟨⟨r',L,j,ck,hv,hb,hM,hL,hk,hva⟩,hi⟩:=I
  injection hv with hv
  injection hv with hv
  subst hv
  obtain ⟨t,ck',o,c,d,u,h4⟩:=hl
  have v:LkV (MKey.desc ByteArray) (.map none) w r (MKey.enc a) (.map (some q)) b:=⟨t,ck',o,c,d,u,h4⟩
  rw [hb] at c
  injection c with c
  injection c with c E
  subst c
  rw [List.toList_toArray] at d
  rcases Ix x.l a with ⟨n,k2,k3⟩|⟨s,pp,n,k2,k3,k4,k5⟩
  . rcases FG a j x.l 0 hk with ⟨f,g1,k,g3,g4⟩|⟨_,e',p,f,_⟩
    . rw [g1] at d
      have:=sme d
      subst this
      cases u
    . rw [n] at f;cases f
  . rcases FG a j x.l 0 hk with ⟨f,_⟩|⟨_,e',p,f,g1,k,g3,g4,g5,g6,g7⟩
    . rw [n] at f;cases f
    . rw [n] at f
      injection f with f
      subst f
      rw [k2] at k
      injection k with k
      subst k
      rw [g3] at d
      have:=sme d
      subst this
      obtain ⟨D,e1,e2,e3,e4⟩:=hva s e' pp g1 k2
      have y:q=D:=by
        have:Value.map (some q)=.map (some D):=u.trans e1
        injection this with this
        injection this
      subst y
      have g:q≠r:=λ e=>by rw [e,hL] at e3;omega
      refine ⟨_,k5,e2,g,e4,λ w' h hs A F=>⟨⟨⟨r,L,j,ck,rfl,(A r (P8 g)).trans hb,⟨by rw [hs];exact hM.1,hM.2⟩,hL,?_,?_⟩,hi⟩,v.keep (A r (P8 g))⟩⟩
      . show j.map (·.key)=(R3 x.l a h).map _
        rw [g7,N7,hk]
        apply I3
        intro z
        rw [I5]
        by_cases hz:s=z
        . subst hz
          have hlt:=AD k2
          have G:x.l[s]=pp:=by rw [C4 hlt] at k2;injection k2
          simp [G,k3,hlt]
        . simp [hz]
      . show InA w' _ L j (R3 x.l a h)
        rw [g7]
        intro p e H c d
        rw [I5] at d
        by_cases hz:s=p
        . subst hz
          have hlt:=AD k2
          simp [hlt] at d
          subst d
          rw [g1] at c
          injection c with c
          subst c
          exact ⟨q,e1,⟨by rw [hs];exact e2.1,e2.2⟩,e3,F⟩
        . simp [hz] at d
          obtain ⟨B,f1,f2,f3,f4⟩:=hva p e H c d
          have C:B≠q:=λ e=>by rw [e,e3] at f3;omega
          exact ⟨B,f1,⟨by rw [hs];exact f2.1,f2.2⟩,f3,f4.keep (A B C)⟩
def MapE (i:Nat) (w:World) (O:Lab) (r:Nat) (x:MapM) (a:ByteArray) (m:List (Fct×Int)) (q:Nat) (k:Fct) (s:Nat):Prop :=
  Ob i w O (.map (some r)) (⟨R3 x.l a (fput m k (fget 0 m k))⟩:MapM)/\(∃ b,LkV (MKey.desc ByteArray) (.map none) w r (MKey.enc a) (.map (some q)) b)/\Fr i w O q/\∃ c ck,w.heap[q]?=some (.map c.toArray ck)/\EnI c ck (fput m k (fget 0 m k))/\∃ (j:Nat) (e:MapEntry),c[j]?=some e/\U8 (fput m k (fget 0 m k)) k=some j/\e.born=s
theorem MA:∀ (m:List (Fct×Int)) (k:Fct) (b:Int),(U8 m k=none→U8 (fput m k b) k=some m.length)∧∀ j,U8 m k=some j→U8 (fput m k b) k=some j
  | [],k,b=>⟨λ _=>by simp [fput,U8],λ j d=>by simp [U8] at d⟩
  | p :: r,k,b=>by
    obtain ⟨a,h2⟩:=MA r k b
    by_cases d:p.1=k
    . exact ⟨λ e=>by simp [U8,d] at e,λ j e=>by simp [U8,d] at e;subst e;simp [fput,U8,d]⟩
    . refine ⟨λ e=>?_,λ j e=>?_⟩
      . simp [U8,d] at e
        simp [fput,U8,d,a e]
      . simp [U8,d] at e
        obtain ⟨c,e1,e2⟩:=e
        subst e2
        simp [fput,U8,d,h2 c e1]
theorem PZ (z:Int):∀ (m:List (Fct×Int)) (k:Fct) (b:Int),fget z (fput m k b) k=b
  | [],k,b=>by simp [fput,fget]
  | p :: r,k,b=>by
    by_cases a:p.1=k
    . simp [fput,fget,a]
    . simp [fput,fget,a,PZ z r k b]
theorem MapE.get {a:ByteArray} {m:List (Fct×Int)} {q:Nat} {k:Fct} {s:Nat} (c:MapE i w O r x a m q k s):∃ b,LkF (.int .i64 0) w q k (.int .i64 (fget 0 m k)) b/\P9 (fget 0 m k):=by
  obtain ⟨_,_,_,es,ck,h4,h5,_⟩:=c
  have:=IM.get (⟨es,ck,h4,h5⟩:IM w q _) k
  rw [PZ] at this
  exact ⟨_,this⟩
end
section
variable {n : Nat} {ops : Array Oper} {Q : Q8} {rest : List Oper} {l : Env} {w : World} {d : Tmp} {ty : TypeId} {pos : String} {aft : Array Edge} {i j : Nat} {O : Lab} {r q : Nat}
theorem Va {t:TypeId} (i:Nat) (hi:i≠0) (O:Lab) (hd:Nat.blt d n=true) (c:∀ g w' O',St nT w O w' O'->Ob i w' O' (.map (some g)) (⟨[]⟩:MapM)->owp prog n ops Q rest ((d,.map (some g)) :: l) w'):owp prog n ops Q (⟨some d,.makeMap t none,ty,pos,aft,none⟩ :: rest) l w :=
  La hd λ w' a hs hb=>c _ w' _ (a.st O λ _=>i) ⟨⟨w.heap.size,λ _=>0,[],0,rfl,hb,⟨by omega,Ff (P1 _)⟩,rfl,rfl,λ j e p b _=>by simp at b⟩,hi⟩
theorem WN {x:MapM} {t k e:TypeId} [TMap prog t k e] [TKey prog k ByteArray] {m y u:Operand} {a:ByteArray} (hM:Ob i w O (.map (some r)) x) (hv:Ob j w O (.map (some q)) (⟨[]⟩:MapF Int)) (hij:j≠i) (hx:opv l m=some (.map (some r))) (hy:opv l y=some (MKey.enc a)) (hu:opv l u=some (.map (some q)))
    (h:∀ w' O',St (λ q=>q=i\/q=j) w O w' O'->Ob i w' O' (.map (some r)) (⟨R3 x.l a []⟩:MapM)->owp prog n ops Q rest l w'):owp prog n ops Q (⟨none,.mapUpdate t m y u,ty,pos,aft,none⟩ :: rest) l w:=by
  obtain ⟨⟨r',L,es,ck,hv',hb,hM',hL,hk,hva⟩,hi⟩:=hM
  injection hv' with hv'
  injection hv' with hv'
  subst hv'
  obtain ⟨⟨q',es2,ck2,hq',hb2,hM2,hk2,_⟩,hj⟩:=hv
  injection hq' with hq'
  injection hq' with hq'
  subst hq'
  have hes:es2=[]:=by
    have:=congrArg List.length hk2
    simpa using this
  subst hes
  have hqr:q≠r:=λ e=>hij (by rw [<- hM2.2,e,hM'.2])
  refine PU hb hk hx hy hu λ w' ck' _ e1 e2 e3 e4 e5 e6=>?_
  have hlen:es.length=x.l.length:=by have:=congrArg List.length hk;simpa using this
  have hS:St (λ q=>q=i\/q=j) w O w' (λ k=>if O k=j then i else O k):=⟨e1,e2,e3,by omega,λ p hp hT=>⟨e6 p λ e=>hT (by rw [e];exact .inl hM'.2),if_neg λ e=>hT (.inr e)⟩⟩
  refine h w' _ hS ⟨⟨r,λ k=>if k=q then (match V4 x.l a with|some jj=>jj|none=>x.l.length) + 1 else L k,_,ck',rfl,e5,⟨by rw [e4];exact hM'.1,?_⟩,?_,Nk ck a (.map (some q)) [] hk,?_⟩,hi⟩
  . show (if _ then _ else _)=_
    split
    . rfl
    . exact hM'.2
  . show (if _ then _ else _)=_
    rw [if_neg (P8 hqr)];exact hL
  . have hq:IM w' q []:=⟨[],ck2,(e6 q hqr).trans hb2,rfl,by simp,by simp,rfl,by simp⟩
    have hqm:Fr i w' (λ k=>if O k=j then i else O k) q:=⟨by rw [e4];exact hM2.1,by show (if _ then _ else _)=_;rw [if_pos hM2.2]⟩
    have hold:∀ (jj:Nat) (e:MapEntry) (p:ByteArray×List (Fct×Int)),es[jj]?=some e->x.l[jj]?=some p->∃ b,b≠q/\e.val=.map (some b)/\Fr i w' (λ k=>if O k=j then i else O k) b/\L b=jj + 1/\IM w' b p.2:=λ jj e p h1 h2=>by
      obtain ⟨b,g1,g2,g3,g4⟩:=hva jj e p h1 h2
      have hbq:b≠q:=λ e=>hij (by rw [<- hM2.2,<- e,g2.2])
      have hbr:b≠r:=λ e=>by rw [e,hL] at g3;omega
      refine ⟨b,hbq,g1,⟨by rw [e4];exact g2.1,?_⟩,g3,g4.keep (e6 b hbr)⟩
      show (if _ then _ else _)=_
      split
      . rfl
      . exact g2.2
    rcases PY x.l a ([]:List (Fct×Int)) with ⟨m1,m2⟩|⟨jj,p0,m1,m2,m3,m4⟩
    . rw [m1,m2]
      intro p e pr h1 h2
      simp only [X8] at h1
      by_cases hp:p < es.length
      . rw [B8 hp] at h1
        rw [B8 (by omega)] at h2
        obtain ⟨b,b0,b1,b2,b3,b4⟩:=hold p e pr h1 h2
        exact ⟨b,b1,b2,(if_neg b0).trans b3,b4⟩
      . rw [B4 (by omega)] at h1
        rw [B4 (by omega)] at h2
        cases hz:p - es.length with
        | zero =>
          rw [hz] at h1
          rw [show p - x.l.length=0 from by omega] at h2
          simp at h1 h2
          subst h1;subst h2
          exact ⟨q,rfl,hqm,(if_pos rfl).trans (by simp;omega),hq⟩
        | succ z=>rw [hz] at h1;simp at h1
    . rw [m1,m4]
      intro p e pr h1 h2
      simp only [X8] at h1
      rw [G1] at h1
      rw [I5] at h2
      by_cases hp:jj=p
      . subst hp
        have hlt:jj < x.l.length:=AD m2
        have hlt2:jj < es.length:=by omega
        rw [C4 hlt2] at h1
        simp [hlt] at h1 h2
        subst h1;subst h2
        exact ⟨q,rfl,hqm,if_pos rfl,hq⟩
      . simp [hp] at h1 h2
        obtain ⟨b,b0,b1,b2,b3,b4⟩:=hold p e pr h1 h2
        exact ⟨b,b1,b2,(if_neg b0).trans b3,b4⟩
theorem EnI.val {b:List MapEntry} {ck:Nat} {m:List (Fct×Int)} (f:EnI b ck m) {j:Nat} {e:MapEntry} {p:Fct×Int} (c:b[j]?=some e) (d:m[j]?=some p):e.key=R4 p.1/\e.val=.int .i64 p.2:=by
  constructor
  . have a:(b.map (·.key))[j]?=some e.key:=by rw [I4,c];rfl
    rw [f.keys,I4,d] at a
    injection a with a
    exact a.symm
  . have a:(b.map (·.val))[j]?=some e.val:=by rw [I4,c];rfl
    rw [f.vals,I4,d] at a
    injection a with a
    exact a.symm
set_option maxRecDepth 100000 in
theorem TH {x:MapM} {t e:TypeId} [L:TMap prog t 45 e] {size bytes:Nat} [TInfo prog e (.int .i64 0) size bytes] {M N:Operand} {a:ByteArray} {m:List (Fct×Int)} {k:Fct} {b:Bool}
    (R:Ob i w O (.map (some r)) x) (hl:LkV (MKey.desc ByteArray) (.map none) w r (MKey.enc a) (.map (some q)) b) (hm:R5 x.l a=some m) (S:opv l M=some (.map (some q))) (T:opv l N=some (R4 k)) (hd:Nat.blt d n=true)
    (Y:∀ w' s v,St (eT i) w O w' O->MapE i w' O r x a m q k s->owp prog n ops Q rest ((d,.tuple #[v,.int .i64 (s:Int)]) :: l) w'):owp prog n ops Q (⟨some d,.mapEntry t M N,ty,pos,aft,none⟩ :: rest) l w:=by
  obtain ⟨X,C,h2,h3,⟨g,ck,hb,he⟩,h4⟩:=MapM.inner R hl
  rw [hm] at C
  injection C with C
  subst C
  have hi:=R.2
  have fin:∀ (c:List MapEntry) (f s:Nat),EnI c f (fput m k (fget 0 m k))->(∃ (j:Nat) (e:MapEntry),c[j]?=some e/\U8 (fput m k (fget 0 m k)) k=some j/\e.born=s) ->
      St (eT i) w O { w with heap:=w.heap.setIfInBounds q (.map c.toArray f) } O/\MapE i { w with heap:=w.heap.setIfInBounds q (.map c.toArray f) } O r x a m q k s:=λ c f s D hs=>by
    have E:=K3 (o':=.map c.toArray f) hb
    have U:IM { w with heap:=w.heap.setIfInBounds q (.map c.toArray f) } q (fput m k (fget 0 m k)):=⟨c,f,E.1,D⟩
    obtain ⟨o,g2⟩:=h4 { w with heap:=w.heap.setIfInBounds q (.map c.toArray f) } _ (by simp) (λ p hp=>E.2 p hp) U
    exact ⟨⟨rfl,rfl,rfl,by simp,λ p hp V=>⟨E.2 p λ e=>V (by rw [e];exact h2.2),rfl⟩⟩,o,⟨b,g2⟩,⟨by simpa using h2.1,h2.2⟩,c,f,E.1,D,hs⟩
  rcases FH k g m 0 he.keys with ⟨F,o,g2,g3,g4⟩|⟨j,A,p,F,o,g2,g3,g4,g5,g6,g7⟩
  . have D:EnI (g ++ [(⟨R4 k,.int .i64 0,ck⟩:MapEntry)]) (ck + 1) (fput m k (fget 0 m k)):=by
      rw [g4,g3]
      refine ⟨by simp [he.keys],?_,?_,by simp [he.vals],?_⟩
      . rw [L9,I8]
        refine ⟨he.nodup,by simp,λ u hu v hv e=>?_⟩
        simp at hv
        obtain ⟨G,he0,rfl⟩:=N8.1 hu
        have:=he.old G he0
        omega
      . intro G h0
        rw [K9] at h0
        rcases h0 with h0|h0
        . have:=he.old G h0;omega
        . simp at h0;subst h0;simp
      . intro p hp
        rw [K9] at hp
        rcases hp with hp|hp
        . exact he.rng p hp
        . simp at hp;subst hp;exact (R0 0)
    obtain ⟨H,f2⟩:=fin _ _ ck D ⟨g.length,_,by simp;rfl,by rw [show g.length=m.length from by have:=congrArg List.length he.keys;simpa using this];exact (MA m k _).1 F,rfl⟩
    refine GE (w':=({ w with heap:=w.heap.setIfInBounds q (.map (g ++ [(⟨R4 k,.int .i64 0,ck⟩:MapEntry)]).toArray (ck + 1)) }:World)) (λ W z y=>.inl ⟨.tuple #[.int .i64 0,.int .i64 (ck:Int)],z,?_,y.put hd _⟩) (Y _ ck _ H f2)
    have h:(dr w z).heap[q]?=some (.map g.toArray ck):=hb
    simp [execOp,y.eval S,y.eval T,Instr.mapEntry,run_underlying L.eq,D7 h,Fx,o.find,Hh (P:=prog) (t:=e),D8 _ h,Result.andThen,goInt]
    rfl
  . have I:=(he.val o g2).1
    have J:R4 p.1=R4 k:=I.symm.trans g4
    have B:g.modify j (λ e=>{ e with key:=R4 k })=g:=by
      apply I3
      intro z
      rw [G1]
      by_cases hz:j=z
      . subst hz
        rw [o]
        simp
        cases A
        simp at g4
        simp [g4]
      . simp [hz]
    have K:fput m k (fget 0 m k)=m:=by
      rw [g7,g6]
      apply I3
      intro z
      rw [I5]
      by_cases hz:j=z
      . subst hz
        have hlt:=AD g2
        rw [g2]
        simp [hlt]
        have:p.1=k:=UZ J
        rw [<- this]
      . simp [hz]
    obtain ⟨H,f2⟩:=fin g ck A.born (by rw [K];exact he) ⟨j,A,o,(MA m k _).2 j F,rfl⟩
    refine GE (w':=({ w with heap:=w.heap.setIfInBounds q (.map g.toArray ck) }:World)) (λ W z y=>.inl ⟨.tuple #[A.val,.int .i64 (A.born:Int)],z,?_,y.put hd _⟩) (Y _ A.born _ H f2)
    have h:(dr w z).heap[q]?=some (.map g.toArray ck):=hb
    rw [N4] at g3
    simp [execOp,y.eval S,y.eval T,Instr.mapEntry,run_underlying L.eq,D7 h,Fx,g3.find,o,g4,Nq,D8 _ h,Result.andThen,goInt,B]
    rfl
theorem Ww {x:MapM} {t:TypeId} {G H I:Operand} {a:ByteArray} {m:List (Fct×Int)} {k:Fct} {s:Nat} {b:Int}
    (L:MapE i w O r x a m q k s) (M:opv l G=some (.map (some q))) (hs:opv l H=some (.int .i64 (s:Int))) (hv:opv l I=some (.int .i64 b)) (hb:P9 b)
    (Z:∀ w',St (eT i) w O w' O->Ob i w' O (.map (some r)) (⟨R3 x.l a (fput m k b)⟩:MapM)->owp prog n ops Q rest l w'):owp prog n ops Q (⟨none,.entryStore t G H I,ty,pos,aft,none⟩ :: rest) l w:=by
  obtain ⟨N,⟨b0,h2⟩,h3,c,ck,h4,f,j,e,h6,h7,h8⟩:=L
  obtain ⟨U,o,g2,g3,g4,g5⟩:=MapM.inner N h2
  rw [OG] at o
  injection o with o
  subst o
  have y:c.toArray.findIdx? (λ e=>(e.born:Int) == (s:Int))=some j:=by
    rw [List.findIdx?_toArray,List.findIdx?_eq_some_iff_getElem]
    have hlt:=AD h6
    have d:c[j]=e:=by rw [C4 hlt] at h6;injection h6
    refine ⟨hlt,by simp [d,h8],λ A B=>?_⟩
    have g:A < c.length:=by omega
    simp
    intro C
    have C:c[A].born=s:=by omega
    have:=(C0.1 f.nodup) A j (by simpa using g) (by simpa using hlt) B
    simp [d,h8] at this
    omega
  have D:=K3 (o':=.map (c.toArray.modify j λ e=>{ e with val:=.int .i64 b }) ck) h4
  have P  : IM { w with heap:=w.heap.setIfInBounds q (.map (c.toArray.modify j λ e=>{ e with val:=.int .i64 b }) ck) } q (fput m k b):=by
    refine ⟨c.modify j (λ e=>{ e with val:=.int .i64 b }),ck,by rw [D.1];congr 2;apply J6.1;rw [Array.toList_modify],?_⟩
    rcases FH k c (fput m k (fget 0 m k)) 0 f.keys with ⟨z0,_⟩|⟨V,e2,p2,z0,u,z2,_,z4,_,_,z7⟩
    . rw [h7] at z0;cases z0
    . rw [h7] at z0
      injection z0 with z0
      subst z0
      rw [h6] at u
      injection u with u
      subst u
      have R:R4 p2.1=R4 k:=(f.val h6 z2).1.symm.trans z4
      rw [show fput m k b=(fput m k (fget 0 m k)).set j (k,b) from by rw [<- z7 b,OE]]
      refine ⟨?_,?_,?_,?_,?_⟩
      . rw [N7,<- f.keys]
        apply I3
        intro z
        rw [I4,G1,I5]
        by_cases hz:j=z
        . subst hz
          have hlt:=AD h6
          have d:c[j]=e:=by rw [C4 hlt] at h6;injection h6
          simp [hlt,d,z4]
        . simp [hz]
      . rw [show (c.modify j λ e=>{ e with val:=.int .i64 b }).map (·.born)=c.map (·.born) from by
          apply I3
          intro z
          rw [I4,G1,I4]
          by_cases hz:j=z<;>cases c[z]?<;>simp [hz]]
        exact f.nodup
      . intro W h0
        obtain ⟨z,hz⟩:=G3 h0
        rw [G1] at hz
        cases E:c[z]? with
        | none=>rw [E] at hz;simp at hz
        | some S =>
          rw [E] at hz
          have:=f.old S (F9 E)
          simp at hz
          subst hz
          by_cases hz:j=z<;>simp [hz,this]
      . rw [N7,<- f.vals]
        apply I3
        intro z
        rw [I4,G1,I5]
        by_cases hz:j=z
        . subst hz
          have hlt:=AD h6
          simp [h6,hlt]
        . simp [hz]
      . intro X F
        rcases List.mem_or_eq_of_mem_set F with h0|h0
        . exact f.rng _ h0
        . subst h0;exact hb
  obtain ⟨J,f2⟩:=g5 _ _ (by simp) (λ p K=>D.2 p K) P
  rw [OF] at J
  refine GE (w':=({ w with heap:=w.heap.setIfInBounds q (.map (c.toArray.modify j λ e=>{ e with val:=.int .i64 b }) ck) }:World)) (λ Y z v=>.inr ⟨z,?_,v⟩) (Z _ ⟨rfl,rfl,rfl,by simp,λ p K T=>⟨D.2 p λ e=>T (by rw [e];exact h3.2),rfl⟩⟩ J)
  have h:(dr w z).heap[q]?=some (.map c.toArray ck):=h4
  simp [execOp,v.eval M,v.eval hs,v.eval hv,Instr.entryStore,D7 h,D8 _ h,y,Result.andThen,asInt,asIntOf]
  rfl
theorem Od {t k e:TypeId} [a:TMap prog t k e] (r:Option Nat) (w:World):(Op.equal t (.map r) (.map none)).run prog w=.ok r.isNone w:=by
  have hm:=a.eq
  have hd:∀ d:Nat,(Op.equalIn (d + 1) t (.map r) (.map none)).run prog w=.ok r.isNone w:=λ d=>by
    cases r<;>simp [Op.equalIn,run_underlying hm]
  exact hd 9999
theorem Zg {t k e u:TypeId} [TMap prog t k e] {x:Operand} {a:ByteArray} {v:Value} {X:MapM} {dst:Option Tmp} {d:World} (hv:InnV i d O X a v) (f:opv l x=some v):Ev prog ⟨dst,.binOp .eql t x (.const (.map none)) u,ty,pos,aft,none⟩ l w (.bool (!mhas X.l a)):=λ _ _ e b=>by
  have g:=b.eval (x:=.const (.map none)) (v:=.map none) rfl
  rcases hv with ⟨c,_,rfl⟩|⟨c,q,m,rfl,_⟩<;>simp [execOp,b.eval f,g,eqGuard,binOp,Od (t:=t),c]
theorem Zw {t k e u:TypeId} [TMap prog t k e] {x:Operand} {a:ByteArray} {v:Value} {X:MapM} {b:World} (hv:InnV i b O X a v) (c:opv l x=some v) (hd:Nat.blt d n=true) (f:owp prog n ops Q rest ((d,.bool (!mhas X.l a)) :: l) w):owp prog n ops Q (⟨some d,.binOp .eql t x (.const (.map none)) u,ty,pos,aft,none⟩ :: rest) l w:=Bp (Zg hv c) hd f
end
structure BxM where
  l:MapM
instance:Ow BxM where
  R w F M v x:=∃ (g:Nat) (c:Lab) (c0:Value),v=.pointer (some ⟨g,0,none⟩)/\Blk w g 148 [c0]/\M g/\c g=0/\Ow.R w F (λ k=>M k/\c k=1) c0 x.l
  agree:=by rintro w w' F M v x ⟨g,c,c0,rfl,hb,hM,hL,h0⟩ a1 a2;exact ⟨g,c,c0,rfl,hb.keep (a2 g hM),hM,hL,Ow.agree h0 a1 λ k hk=>a2 k hk.1⟩
  mono:=by rintro w F M a b v x ⟨g,c,c0,rfl,hb,hM,hL,h0⟩ a1 a2 a3;exact ⟨g,c,c0,rfl,hb,a2 g hM,hL,Ow.mono h0 a1 (λ k hk=>⟨a2 k hk.1,hk.2⟩) λ k hf hm=>a3 k hf hm.1⟩
theorem BxM.opn {i:Nat} {w:World} {O:Lab} {p:Nat} {x:BxM} (a:Ob i w O (.pointer (some ⟨p,0,none⟩)) x) (l0 l1:Nat) (hl:l0≠0/\l1≠0):∃ (O':Lab) (c0:Value),St (eT i) w O w O'/\(∀ k,Fr i w O k->∃ q,q∈[l0,l1]/\Fr q w O' k)/\Lc l0 w O' p 148 [c0]/\Ob l1 w O' c0 x.l:=by
  obtain ⟨⟨g,L,c0,hv,hb,hM,hL,h0⟩,hi⟩:=a
  obtain rfl:p=g:=by injection hv with hv;injection hv with hv;injection hv
  exact ⟨part O i L [l0,l1],c0,JH hi,IO (by simp),⟨hb,(Em (j:=0) rfl p ⟨hM,hL⟩).2⟩,Ow.mono h0 (CQ hi) (Em (j:=1) rfl) (S4 hl.2),hl.2⟩
theorem BxM.shut {w:World} {O:Lab} {p:Nat} {x:BxM} {l0 l1:Nat} {c0:Value} (hd:¬ 0∈[l0,l1]/\[l0,l1].idxOf l0=0/\[l0,l1].idxOf l1=1) (hb:Lc l0 w O p 148 [c0]) (f:Ob l1 w O c0 x.l):∃ O',St (·∈[l0,l1]) w O w O'/\(∀ k,Fr 0 w O k->Fr 0 w O' k)/\(∀ q,q∈[l0,l1]->∀ k,Fr q w O k->Fr l0 w O' k)/\Ob l0 w O' (.pointer (some ⟨p,0,none⟩)) x:=by
  have c:l0≠0:=λ e=>hd.1 (by simp [e])
  have d:=DN (i:=l0) hd.2.1 (by simp) p ⟨hb.1.lt,hb.2⟩
  exact ⟨X2 O l0 [l0,l1],IP,BX hd.1,Id,⟨p,λ k=>[l0,l1].idxOf (O k),c0,rfl,hb.1,d.1,d.2,Ow.mono f.1 (BX hd.1) (DN hd.2.2 (by simp)) (λ k a b=>S4 c k a b.1)⟩,c⟩
end
section
open Go Go.RowKit
theorem HX {w:World} {F:Nat->Prop}:∀ {xs:List Int} {cells:List Value},Chunks w F cells xs->cells=xs.map (Value.int .i64)/\∀ x∈xs,P9 x
  | [],_,h=>⟨h,λ _ a=>by simp at a⟩
  | x :: xs,cells,⟨cs,rest,he,hr,hc⟩=>by
    obtain ⟨b,h2⟩:=HX hc
    obtain ⟨c,h4⟩:=hr
    refine ⟨by rw [he,c,b];rfl,λ y hy=>?_⟩
    rcases M8.1 hy with rfl|hy
    . exact h4
    . exact h2 y hy
theorem Mh {w:World} {F:Nat->Prop}:∀ {xs:List Int},(∀ x∈xs,P9 x)->Chunks w F (xs.map (Value.int .i64)) xs
  | [],_=>rfl
  | x :: xs,h=>⟨[.int .i64 x],xs.map (Value.int .i64),rfl,⟨rfl,h x (by simp)⟩,Mh λ y a=>h y (by simp [a])⟩
def AaB {α:Type} (a b:List α):List α:=b.take a.length ++ a.drop b.length
def cpn {α:Type} (a b:List α):Nat:=min b.length a.length
def ckN (xs ys:List Int):Option Int:=if 0 < xs.length/\0 < ys.length/\xs.length<=9223372036854775807 then some (cpn xs ys:Int) else none
theorem WO {xs ys:List Int} {q:Int} (a:ckN xs ys=some q):P9 q:=by
  obtain ⟨⟨_,_,h3⟩,rfl⟩:=EM a
  refine rngNat ?_
  unfold cpn
  omega
def Aaz (xs:List Int) (k:Int):Option (List Int×Int) :=
  if 0 < k/\k < xs.length/\xs.length<=9223372036854775807 then some (xs.take k.toNat ++ ((xs.take k.toNat).take (xs.length - k.toNat) ++ xs.drop (k.toNat + ((xs.take k.toNat).take (xs.length - k.toNat)).length)),(((xs.take k.toNat).take (xs.length - k.toNat)).length:Int)) else none
section
variable {P : Program} {n : Nat} {ops : Array Oper} {Q : Q8} {rest : List Oper} {l : Env} {w : World} {d : Tmp} {ty : TypeId} {pos : String} {aft : Array Edge}
theorem Ym {i:Nat} {O:Lab} {e:TypeId} {A:Option Addr} {m c:Nat} {xs:List Int} {k:Int} {q:List Int×Int} (d:Rw i w O e (.slice A m c) xs) (j:Aaz xs k=some q):∃ f g,ZS 1 A m c k (m:Int) f (m - k.toNat) g:=by
  obtain ⟨⟨h,h2,_⟩,rfl⟩:=EM j
  obtain ⟨a,b,_⟩:=d.len
  subst a
  exact ⟨_,_,k.toNat,xs.length,by omega,rfl,by omega,P1 _,by omega,rfl⟩
theorem Yn {i:Nat} {O:Lab} {e:TypeId} {A:Option Addr} {m c:Nat} {xs:List Int} {k:Int} {q:List Int×Int} (d:Rw i w O e (.slice A m c) xs) (j:Aaz xs k=some q):∃ f g,ZS 1 A m c 0 k f k.toNat g:=by
  obtain ⟨⟨h,h2,_⟩,rfl⟩:=EM j
  obtain ⟨a,b,_⟩:=d.len
  subst a
  exact ⟨_,_,0,k.toNat,rfl,by omega,by omega,by omega,by omega,rfl⟩
theorem RR {i:Nat} {O:Lab} {E I e:TypeId} [U:TSlice P E e] {z:Value} {bytes:Nat} [hi:TInfo P e z 1 bytes] {x y:Operand} {g c off G J H K:Nat} {a:Addr} {xs ys:List Int} (p:Rw i w O e (.slice (some ⟨g,0,none⟩) xs.length c) xs)
    (V:opv l x=some (.slice (some ⟨g,off,none⟩) G J)) (W:opv l y=some (.slice (some a) H K)) (L:ys.length=Nat.min H G) (r:∀ y∈ys,P9 y) (s:∀ j (v:Int),ys[j]?=some v->w.cell? (a.add j)=some (.int .i64 v)) (X:off + ys.length<=xs.length) (Y:0 < xs.length) (hd:Nat.blt d n=true)
    (h:∀ w',St (eT i) w O w' O->Rw i w' O e (.slice (some ⟨g,0,none⟩) xs.length c) (xs.take off ++ (ys ++ xs.drop (off + ys.length)))->owp P n ops Q rest ((d,.int .i64 (ys.length:Int)) :: l) w'):owp P n ops Q (⟨some d,.call { callee:=.builtin .copy,args:=#[x,y],argTypes:=#[E,I] },ty,pos,aft,none⟩ :: rest) l w:=by
  have M:((P.info? e).map (·.size))=some 1:=by obtain ⟨Z,o,_,N,_⟩:=hi.eq;rw [o];simp [N]
  obtain ⟨g',cap,cells2,sp,hv2,hg,hF,hblk,hch,hl2,hn2,hm2,ht2⟩:=p.1.open Y
  injection hv2 with o e2 N
  injection o with o
  injection o with o _ _
  subst o;subst N
  obtain ⟨rfl,hin⟩:=HX hch
  have t:w.heap[g]?=some (.cells (xs.map (Value.int .i64) ++ sp).toArray e (0,0)):=hblk
  let cs:=ys.map (Value.int .i64)
  have m:cs.length=ys.length:=by simp [cs]
  let f:=((xs.map (Value.int .i64) ++ sp).take off ++ cs ++ (xs.map (Value.int .i64) ++ sp).drop (off + cs.length)).toArray
  have u:∀ z,(Builtin.copy_ #[E,I] ty #[.slice (some ⟨g,off,none⟩) G J,.slice (some a) H K]).run P (dr w z)=.ok (goInt cs.length) (dr (w.setRow g f) z):=λ z=>by
    have A:(dr w z).heap[g]?=some (.cells (xs.map (Value.int .i64) ++ sp).toArray e (0,0)):=t
    have:=run_copy_row (P:=P) (dr w z) E I ty e g off G J a H K _ e cs U.eq M A (by rw [m];exact L) (λ j v hj=>by
      simp only [cs,I4] at hj
      cases B:ys[j]? with
      | none=>rw [B] at hj;simp at hj
      | some q=>rw [B] at hj;simp at hj;subst hj;exact s j q B) (by simp [m];omega) (λ v hv=>by
      obtain ⟨a,_,rfl⟩:=N8.1 hv
      rfl)
    rw [this]
    rfl
  have R:f=((xs.take off ++ (ys ++ xs.drop (off + ys.length))).map (Value.int .i64) ++ sp).toArray:=by
    simp only [f,m,cs]
    congr 1
    rw [List.take_append_of_le_length (by simp;omega),List.drop_append_of_le_length (by simp;omega)]
    simp only [L9,I1,List.map_drop,List.map_take]
  refine GE (w':=w.setRow g f) (λ ac z C=>.inl ⟨goInt cs.length,z,?_,C.put hd _⟩) ?_
  . simp [execOp,resolve,invoke,builtin,C.eval V,C.eval W,u z]
  . have hK:∀ cs,St (eT i) w O (w.setRow g cs) O:=λ cs=>⟨rfl,rfl,rfl,by simp,λ k hk hT=>⟨setRow_other w g k cs λ e=>hT (by rw [e];exact p.2.1 g rfl),rfl⟩⟩
    have b:(xs.take off ++ (ys ++ xs.drop (off + ys.length))).length=xs.length:=by simp;omega
    have S:goInt cs.length=.int .i64 (ys.length:Int):=by rw [m];rfl
    rw [S]
    refine h _ (hK _) ?_
    have T:Blk (w.setRow g f) g e ((xs.take off ++ (ys ++ xs.drop (off + ys.length))).map (Value.int .i64) ++ sp):=by
      rw [R];exact setRow_heap w g _ _ e (0,0) t
    have D:∀ a∈xs.take off ++ (ys ++ xs.drop (off + ys.length)),P9 a:=λ a C=>by
      rcases K9.1 C with h|h
      . exact hin a (G6 h)
      . rcases K9.1 h with h|h
        . exact r a h
        . exact hin a (List.mem_of_mem_drop h)
    have:=Own.close (base:=0) (cap:=c) (F:=Fr 0 (w.setRow g f) O) (P4 g) (λ B=>p.2.2 ((p.2.1 g rfl).symm.trans B.2)) T (Mh D) (by rw [b];exact hn2) hm2 (by
      have:=ht2
      simp only [H2,L7] at this b ⊢
      rw [b]
      exact this)
    rw [b] at this
    exact ⟨this,p.2.1,p.2.2⟩
theorem WP {i:Nat} {O:Lab} {s t e:TypeId} [F:TSlice P s e] {z:Value} {bytes:Nat} [hi:TInfo P e z 1 bytes] {x y:Operand} {A:Option Addr} {m c:Nat} {v:Value} {xs ys:List Int} (h:Rw i w O e (.slice A m c) xs) (hv:Vb w (Fr 0 w O) v ys) {q:Int} (he:ckN xs ys=some q) (u:opv l x=some (.slice A m c)) (k:opv l y=some v) (hd:Nat.blt d n=true)
    (I:∀ w',St (eT i) w O w' O->Rw i w' O e (.slice A m c) (AaB xs ys)->owp P n ops Q rest ((d,.int .i64 q) :: l) w'):owp P n ops Q (⟨some d,.call { callee:=.builtin .copy,args:=#[x,y],argTypes:=#[s,t] },ty,pos,aft,none⟩ :: rest) l w:=by
  obtain ⟨⟨B,n2,_⟩,rfl⟩:=EM he
  have a:0 < xs.length/\0 < ys.length:=⟨B,n2⟩
  obtain rfl:=h.len.1
  obtain ⟨G,c',cells,rfl,h1,h2,h3,h4⟩:=hv.rd
  obtain ⟨rfl,hin⟩:=HX h3
  obtain ⟨b,o,rfl,hat⟩:=h4 a.2
  obtain ⟨g,cap,cells2,sp,hv2,_⟩:=h.1.open a.1
  injection hv2 with C H D
  subst C;subst D
  have f:(ys.take xs.length).length=cpn xs ys:=by simp [cpn,Nat.min_comm]
  refine RR (ys:=ys.take xs.length) (off:=0) h u k (by simp [Nat.min_comm]) (λ y k=>hin y (G6 k)) (λ j v hj=>?_) (by simp;omega) a.1 hd λ w' E p=>?_
  . rw [Hr]
    refine Eg hat j _ ?_
    rw [H4] at hj
    split at hj
    . rw [I4,hj];rfl
    . simp at hj
  . rw [f]
    refine I w' E ?_
    have:xs.take 0 ++ (ys.take xs.length ++ xs.drop (0 + (ys.take xs.length).length))=AaB xs ys:=by
      unfold AaB
      rw [List.take_zero,L3,N4]
      congr 1
      by_cases r:xs.length<=ys.length
      . rw [E3 (by rw [K0];omega),E3 r]
      . rw [K0,Nat.min_eq_right (by omega)]
    rwa [this] at p
theorem WQ {i:Nat} {O:Lab} {E H e:TypeId} [N:TSlice P E e] {z:Value} {bytes:Nat} [hi:TInfo P e z 1 bytes] {x y:Operand} {A F G:Option Addr} {m c o p:Nat} {xs:List Int} {k:Int} {q:List Int×Int} (b:Rw i w O e (.slice A m c) xs) (I:Aaz xs k=some q)
    (r:ZS 1 A m c k (m:Int) F (m - k.toNat) o) (s:ZS 1 A m c 0 k G k.toNat p) (J:opv l x=some (.slice F (m - k.toNat) o)) (t:opv l y=some (.slice G k.toNat p)) (hd:Nat.blt d n=true)
    (X:∀ w',St (eT i) w O w' O->Rw i w' O e (.slice A m c) q.1->owp P n ops Q rest ((d,.int .i64 q.2) :: l) w'):owp P n ops Q (⟨some d,.call { callee:=.builtin .copy,args:=#[x,y],argTypes:=#[E,H] },ty,pos,aft,none⟩ :: rest) l w:=by
  obtain ⟨⟨R,h2,_⟩,rfl⟩:=EM I
  obtain rfl:=b.len.1
  have K:=b.len.2.1
  obtain ⟨g,cap,cells2,sp,hv2,_,_,hblk,hch,_⟩:=b.1.open (by omega)
  injection hv2 with L S M
  subst L;subst M
  obtain ⟨rfl,hin⟩:=HX hch
  obtain ⟨u,rfl⟩:∃ u:Nat,k=(u:Int):=⟨k.toNat,by omega⟩
  simp only [I9] at *
  obtain ⟨a,hi1,a1,a2,a3,a4,a5,f⟩:=r
  obtain ⟨B,hi2,b1,b2,b3,b4,b5,h⟩:=s
  obtain rfl:a=u:=by omega
  obtain rfl:hi2=a:=by omega
  obtain rfl:B=0:=by omega
  rw [if_neg (by omega)] at f h
  injection f with f T U
  injection h with h V W
  subst f;subst h
  have C:opv l x=some (.slice (some ⟨g,hi2,none⟩) (xs.length - hi2) o):=by rw [J];simp [Hr]
  have D:opv l y=some (.slice (some ⟨g,0,none⟩) hi2 p):=by rw [t];simp [Hr]
  refine RR (ys:=(xs.take hi2).take (xs.length - hi2)) (off:=hi2) b C D (by show _=min _ _;simp;omega) (λ y t=>hin y (G6 (G6 t))) (λ j v hj=>?_) (by simp;omega) (by omega) hd X
  rw [H4] at hj
  split at hj
  . rw [H4] at hj
    split at hj
    . have:=hblk.cell (i:=j) (v:=.int .i64 v) (by rw [B8 (by simp;exact AD hj),I4,hj];rfl)
      rw [Hr];simpa using this
    . simp at hj
  . simp at hj
end
end
section
open Go.Shelf
def Qa:Go.Shelf.Ren:=⟨fun|171=>75|243=>99|246=>111|283=>133|284=>134|285=>135|286=>136|129=>122|317=>156|318=>157|319=>158|320=>159|337=>165|338=>166|n=>n,fun|3=>3|9=>9|2=>2|4=>4|171=>211|0=>0|53=>180|37=>165|5=>5|173=>213|212=>230|51=>177|20=>20|213=>231|46=>140|232=>239|233=>240|n=>n,fun|17=>0|18=>1|19=>2|n=>n⟩
theorem Abv:Go.Proofs.LaysM.n171 prog Qa:={
  mixed:=by kernel_rfl
  f129:=func122.trans (congrArg some (by kernel_rfl))
  f171:=func75.trans (congrArg some (by kernel_rfl))
  f243:=func99.trans (congrArg some (by kernel_rfl))
  f246:=func111.trans (congrArg some (by kernel_rfl))
  f283:=func133.trans (congrArg some (by kernel_rfl))
  f284:=func134.trans (congrArg some (by kernel_rfl))
  f285:=func135.trans (congrArg some (by kernel_rfl))
  f286:=func136.trans (congrArg some (by kernel_rfl))
  f317:=func156.trans (congrArg some (by kernel_rfl))
  f318:=func157.trans (congrArg some (by kernel_rfl))
  f319:=func158.trans (congrArg some (by kernel_rfl))
  f320:=func159.trans (congrArg some (by kernel_rfl))
  f337:=func165.trans (congrArg some (by kernel_rfl))
  f338:=func166.trans (congrArg some (by kernel_rfl))
  t0:=underlying0
  a0:=isAgg0
  z0:=sizeOf0
  v0:=zeroValue0
  t2:=underlying2
  a2:=isAgg2
  z2:=sizeOf2
  v2:=zeroValue2
  t3:=underlying3
  a3:=isAgg3
  z3:=sizeOf3
  v3:=zeroValue3
  t4:=underlying4
  a4:=isAgg4
  z4:=sizeOf4
  v4:=zeroValue4
  t5:=underlying5
  a5:=isAgg5
  z5:=sizeOf5
  v5:=zeroValue5
  t9:=underlying9
  a9:=isAgg9
  z9:=sizeOf9
  v9:=zeroValue9
  t20:=underlying20
  a20:=isAgg20
  z20:=sizeOf20
  v20:=zeroValue20
  t37:=underlying165
  a37:=isAgg165
  z37:=sizeOf165
  v37:=zeroValue165
  t46:=underlying140
  a46:=isAgg140
  z46:=sizeOf140
  v46:=zeroValue140
  t51:=underlying177
  a51:=isAgg177
  z51:=sizeOf177
  v51:=zeroValue177
  t53:=underlying180
  a53:=isAgg180
  z53:=sizeOf180
  v53:=zeroValue180
  t171:=underlying211
  a171:=isAgg211
  z171:=sizeOf211
  v171:=zeroValue211
  t173:=underlying213
  a173:=isAgg213
  z173:=sizeOf213
  v173:=zeroValue213
  t212:=underlying230
  a212:=isAgg230
  z212:=sizeOf230
  v212:=zeroValue230
  t213:=underlying231
  a213:=isAgg231
  z213:=sizeOf231
  t232:=underlying239
  a232:=isAgg239
  z232:=sizeOf239
  v232:=zeroValue239
  t233:=underlying240
  a233:=isAgg240
  z233:=sizeOf240
  v233:=zeroValue240
  g17:=by kernel_rfl
  g18:=by kernel_rfl
  g19:=by kernel_rfl
  i0:=by kernel_rfl
  i2:=by kernel_rfl
  i3:=by kernel_rfl
  i4:=by kernel_rfl
  i5:=by kernel_rfl
  i9:=by kernel_rfl
  i20:=by kernel_rfl
  i37:=by kernel_rfl
  i46:=by kernel_rfl
  i51:=by kernel_rfl
  i53:=by kernel_rfl
  i171:=by kernel_rfl
  i173:=by kernel_rfl
  i212:=by kernel_rfl
  i232:=by kernel_rfl
  i233:=by kernel_rfl
  m17:=by kernel_rfl
  m18:=by kernel_rfl
  m19:=by kernel_rfl }
open Go.RowKit Go.Sort Go.Lib in
theorem strconv_Itoa (n : Int) (b : -9223372036854775808 ≤ n) (c : n ≤ 9223372036854775807) (w : World) (a : Lib.TabIs prog w "internal/strconv.uint64pow10" .u64 Lib.pow10Tab) :
    Calls prog 75 #[.int .i64 n] w λ e w'=>e=.returned (.string ⟨(Lib.itoa n).toArray⟩)/\∃ k os,w'=grow (w.drewN k) os:=Any.strconv_Itoa Abv n b c w a
open Go.RowKit Go.Sort Go.Lib in
def Rj:Go.Shelf.Ren:=⟨fun|190=>76|125=>101|258=>100|128=>121|129=>122|302=>112|303=>113|304=>114|305=>115|306=>116|307=>117|308=>118|309=>119|310=>120|333=>137|329=>138|330=>139|334=>140|335=>141|336=>142|344=>160|n=>n,fun|31=>96|9=>9|3=>3|46=>140|0=>0|51=>177|53=>180|4=>4|183=>197|182=>196|131=>90|5=>5|218=>215|222=>219|228=>232|229=>233|n=>n,fun|n=>n⟩
theorem AaS:Go.Proofs.Lays.n190 prog Rj:={
  mixed:=by kernel_rfl
  f125:=func101.trans (congrArg some (by kernel_rfl))
  f128:=func121.trans (congrArg some (by kernel_rfl))
  f129:=func122.trans (congrArg some (by kernel_rfl))
  f190:=func76.trans (congrArg some (by kernel_rfl))
  f258:=func100.trans (congrArg some (by kernel_rfl))
  f302:=func112.trans (congrArg some (by kernel_rfl))
  f303:=func113.trans (congrArg some (by kernel_rfl))
  f304:=func114.trans (congrArg some (by kernel_rfl))
  f305:=func115.trans (congrArg some (by kernel_rfl))
  f306:=func116.trans (congrArg some (by kernel_rfl))
  f307:=func117.trans (congrArg some (by kernel_rfl))
  f308:=func118.trans (congrArg some (by kernel_rfl))
  f309:=func119.trans (congrArg some (by kernel_rfl))
  f310:=func120.trans (congrArg some (by kernel_rfl))
  f329:=func138.trans (congrArg some (by kernel_rfl))
  f330:=func139.trans (congrArg some (by kernel_rfl))
  f333:=func137.trans (congrArg some (by kernel_rfl))
  f334:=func140.trans (congrArg some (by kernel_rfl))
  f335:=func141.trans (congrArg some (by kernel_rfl))
  f336:=func142.trans (congrArg some (by kernel_rfl))
  f344:=func160.trans (congrArg some (by kernel_rfl))
  t0:=underlying0
  a0:=isAgg0
  z0:=sizeOf0
  v0:=zeroValue0
  t3:=underlying3
  a3:=isAgg3
  z3:=sizeOf3
  v3:=zeroValue3
  t4:=underlying4
  a4:=isAgg4
  z4:=sizeOf4
  v4:=zeroValue4
  t5:=underlying5
  a5:=isAgg5
  z5:=sizeOf5
  v5:=zeroValue5
  t9:=underlying9
  a9:=isAgg9
  z9:=sizeOf9
  v9:=zeroValue9
  t31:=underlying96
  a31:=isAgg96
  z31:=sizeOf96
  v31:=zeroValue96
  t46:=underlying140
  a46:=isAgg140
  z46:=sizeOf140
  v46:=zeroValue140
  t51:=underlying177
  a51:=isAgg177
  z51:=sizeOf177
  v51:=zeroValue177
  t53:=underlying180
  a53:=isAgg180
  z53:=sizeOf180
  v53:=zeroValue180
  t131:=underlying90
  a131:=isAgg90
  z131:=sizeOf90
  v131:=zeroValue90
  t182:=underlying196
  a182:=isAgg196
  z182:=sizeOf196
  v182:=zeroValue196
  t183:=underlying197
  a183:=isAgg197
  z183:=sizeOf197
  v183:=zeroValue197
  t218:=underlying215
  a218:=isAgg215
  z218:=sizeOf215
  v218:=zeroValue215
  t222:=underlying219
  a222:=isAgg219
  z222:=sizeOf219
  v222:=zeroValue219
  t228:=underlying232
  a228:=isAgg232
  z228:=sizeOf232
  v228:=zeroValue232
  t229:=underlying233
  a229:=isAgg233
  z229:=sizeOf233
  v229:=zeroValue233 }
open Go.Sort Go.RowKit in
theorem slices_Sort_string (a off cap:Nat) (b:List (List UInt8)) (w:World) (f:Holds encStr w a off b.toArray) (c:a < w.heap.size) (d:b.length < 4611686018427387904) :
    Calls prog 76 #[.slice (some ⟨a,off,none⟩) b.length cap] w λ e w' =>
      e=.returned (.tuple #[])/\∃ n os,w'=grow (putRow encStr (Sort.ahead w n) a off (b.mergeSort λ x y=>decide (x<=y)).toArray) os:=Any.slices_Sort_string AaS a off cap b w f c d
def Rk:Go.Shelf.Ren:=⟨fun|212=>68|263=>95|264=>96|n=>n,fun|46=>140|51=>177|146=>178|53=>180|148=>181|n=>n,fun|n=>n⟩
theorem AbH:Go.Proofs.Lays.n212 prog Rk:={
  mixed:=by kernel_rfl
  f212:=func68.trans (congrArg some (by kernel_rfl))
  f263:=func95.trans (congrArg some (by kernel_rfl))
  f264:=func96.trans (congrArg some (by kernel_rfl))
  t46:=underlying140
  a46:=isAgg140
  z46:=sizeOf140
  v46:=zeroValue140
  t51:=underlying177
  a51:=isAgg177
  z51:=sizeOf177
  v51:=zeroValue177
  t53:=underlying180
  a53:=isAgg180
  z53:=sizeOf180
  v53:=zeroValue180
  t146:=underlying178
  a146:=isAgg178
  z146:=sizeOf178
  v146:=zeroValue178
  t148:=underlying181
  a148:=isAgg181
  z148:=sizeOf181
  v148:=zeroValue181 }
open Go.RowKit Go.Lib in
theorem bits_Mul (x y:Nat) (a:x < 18446744073709551616) (b:y < 18446744073709551616) (w:World) :
    Calls prog 68 #[.int .u64 x,.int .u64 y] w λ e w'=>e=.returned (.tuple #[.int .u64 ((x * y / 18446744073709551616:Nat):Int),.int .u64 ((x * y % 18446744073709551616:Nat):Int)])/\w'=w:=Any.bits_Mul AbH x y a b w
open Go.RowKit Go.Sort in
theorem slices_Sort_string_none (p:Option Addr) (cap:Nat) (w:World) :
    Calls prog 76 #[.slice p 0 cap] w λ e w'=>e=.returned (.tuple #[])/\w'=w:=Any.slices_Sort_string_none AaS p cap w
end
section
open Go Go.RowKit Go.Sort
def lsB (b:ByteArray):List UInt8:=b.data.toList
def ofB (l:List UInt8):ByteArray:=⟨l.toArray⟩
def V2 (xs:List ByteArray):List ByteArray:=((xs.map lsB).mergeSort λ x y=>decide (x<=y)).map ofB
theorem Ki (xs:List ByteArray):(V2 xs).Perm xs:=by
  have:=(G9 (xs.map lsB) λ x y=>decide (x<=y)).map ofB
  rwa [N9,show ofB ∘ lsB=id from rfl,P6] at this
theorem EG (xs:List ByteArray):(V2 xs).length=xs.length:=(Ki xs).length_eq
theorem KE {w:World} {F:Nat->Prop}:∀ {xs:List ByteArray} {cells:List Value},Chunks w F cells xs->cells=xs.map Value.string/\∀ x∈xs,x.size<=9223372036854775807
  | [],_,h=>⟨h,λ _ a=>by simp at a⟩
  | x :: xs,cells,⟨cs,rest,he,hr,hc⟩=>by
    obtain ⟨b,h2⟩:=KE hc
    obtain ⟨c,h4⟩:=hr
    refine ⟨by rw [he,c,b];rfl,λ y hy=>?_⟩
    rcases M8.1 hy with rfl|hy
    . exact h4
    . exact h2 y hy
theorem KF {w:World} {F:Nat->Prop}:∀ {xs:List ByteArray},(∀ x∈xs,x.size<=9223372036854775807)->Chunks w F (xs.map Value.string) xs
  | [],_=>rfl
  | x :: xs,h=>⟨[.string x],xs.map Value.string,rfl,⟨rfl,h x (by simp)⟩,KF λ y a=>h y (by simp [a])⟩
theorem Abj {w:World} {base:Nat} {F:Nat→Prop} {v:Value} {xs:List ByteArray} (z:Own w base F 9 v xs) (hl:xs.length≤1000000) :
    Fn prog 76 [v] w λ r w'=>r=.tuple #[]/\Own w' base F 9 v (V2 xs)/\Kept w w' v:=by
  intro d
  rcases H5 xs.length with h0|h0
  . have h:xs=[]:=B0 h0
    subst h
    have hv:∃ p c,v=.slice p 0 c:=by
      obtain ⟨cells,s,_⟩:=z
      rcases s.2 with ⟨rfl,_⟩|⟨g,cap,cur,rfl,_⟩
      . exact ⟨_,_,rfl⟩
      . exact ⟨_,_,rfl⟩
    obtain ⟨p,c,rfl⟩:=hv
    refine (slices_Sort_string_none p c (dr w d)).mono λ e w' ⟨he,hw⟩=>⟨_,w,d,he,hw,rfl,by simpa [V2] using z,⟨rfl,rfl,rfl,P1 _,λ _ _ _=>rfl⟩⟩
  . obtain ⟨g,cap,cells,sp,rfl,hg,hFg,hb,hc,hlen,hnc,hcm,htot⟩:=z.open h0
    obtain ⟨rfl,hin⟩:=KE hc
    have b:(xs.map lsB).length=xs.length:=L7 ..
    have t:Go.Sort.Holds encStr (dr w d) g 0 (xs.map lsB).toArray:=λ j hj=>by
      have a:j < xs.length:=by simpa using hj
      refine ⟨?_,by rw [N4];exact hb.frozen j⟩
      rw [N4]
      refine hb.cell ?_
      rw [B8 (by simpa using a),I4,C4 a]
      simp [a,encStr,lsB]
    have hs:=slices_Sort_string g 0 cap (xs.map lsB) (dr w d) t hb.lt (by omega)
    rw [b] at hs
    refine hs.mono λ e w' ⟨he,n,os,hw⟩=>⟨_,w',w'.drawn,he,rfl,rfl,?_,?_⟩
    . have f:Blk w' g 9 ((V2 xs).map Value.string ++ sp):=by
        subst hw
        unfold Blk at hb ⊢
        have l:g < w.heap.size:=Blk.lt hb
        show ((w.heap.modify g _) ++ os)[g]?=_
        rw [B2 (by simpa using l),E7,if_pos rfl,hb]
        simp only [L8,Go.Sort.onCells]
        congr 2
        apply Array.ext
        . simp [Go.Sort.putCells,EG]
        . intro i s u
          simp only [Go.Sort.putCells,G5,N4,N5,P4,true_and]
          have m:(List.mergeSort (xs.map lsB) λ x y=>decide (x<=y)).length=xs.length:=(F4 _).trans b
          by_cases hi:i < xs.length
          . rw [if_pos (by simpa [m] using hi)]
            simp only [G4]
            rw [C9 (by simpa [EG] using hi),List.getElem_map]
            rw [getElem!_pos _ _ (by simpa [m] using hi)]
            simp [V2,encStr,ofB]
          . rw [if_neg (by simpa [m] using hi)]
            simp only [G4]
            rw [C2 (by simp;omega),C2 (by simp [EG];omega)]
            simp [EG]
      have:=Own.close (w:=w') (base:=base) (cap:=cap) hg hFg f (KF (F:=F) (w:=w') λ x h=>hin x ((Ki xs).mem_iff.1 h)) (by rw [EG];exact hnc) hcm (by simpa [EG] using htot)
      rwa [EG] at this
    . subst hw
      refine ⟨rfl,rfl,rfl,?_,λ k hk o=>?_⟩
      . show w.heap.size<=((w.heap.modify g _) ++ os).size
        simp
      . have q:g≠k:=λ e=>o (by simp [Value.ownBlock,e])
        show ((w.heap.modify g _) ++ os)[k]?=_
        rw [B2 (by simpa using hk),E7,if_neg q]
def Gc (xs:List ByteArray):Option (List ByteArray):=if xs.length<=1000000 then some (V2 xs) else none
theorem HK {w:World} {O:Lab} {b:Option Addr} {c c0 d:Nat} {e:List ByteArray} (a:Rw d w O 9 (.slice b c c0) e) {r:List ByteArray} (hm:Gc e=some r) :
    Fn prog 76 [.slice b c c0] w λ _ w'=>∃ f,St (eT d) w O w' f/\Rw d w' f 9 (.slice b c c0) r:=by
  obtain ⟨hl,rfl⟩:=EM hm
  refine (Abj a.1 hl).mono λ v w' ⟨_,ho,hK⟩=>⟨O,?_,?_⟩
  . exact ⟨hK.os,hK.tape,hK.output,hK.size,λ k hk g=>⟨hK.block k hk λ he=>g (a.2.1 k he),rfl⟩⟩
  . exact ho.rw (λ k hk=>⟨H3 hk.1 hK.size,hk.2⟩) a.2.1 a.2.2
end
section
open Go Go.RowKit
def Hz (x y:U64):Option (U64×U64):=some (BitVec.ofNat 64 (x.toNat * y.toNat / 18446744073709551616),BitVec.ofNat 64 (x.toNat * y.toNat % 18446744073709551616))
theorem Nr {w:World} {A:Nat->Prop} (_:∀ k,A k->k < w.heap.size) {a b:U64} {r:U64×U64} (hm:Hz a b=some r) :
    Fn prog 68 [.int .u64 a.toNat,.int .u64 b.toNat] w λ v w'=>Ext w w'/\T2 w' (upA A w w') v r:=by
  injection hm with hm
  subst hm
  intro d
  have f:=a.isLt
  have g:=b.isLt
  refine (bits_Mul a.toNat b.toNat f g (dr w d)).mono λ e w' ⟨he,hw⟩=>⟨_,w,d,he,hw,P7 _ _,_,_,rfl,?_,?_⟩
  . have c:a.toNat * b.toNat / 18446744073709551616 < 18446744073709551616:=by
      refine Nat.div_lt_of_lt_mul ?_
      exact Nat.mul_lt_mul'' f g
    have:=AbS (w:=w) (F:=upA A w w) (x:=BitVec.ofNat 64 (a.toNat * b.toNat / 18446744073709551616))
    rwa [BitVec.toNat_ofNat,K6 c] at this
  . have c:a.toNat * b.toNat % 18446744073709551616 < 18446744073709551616:=Nat.mod_lt _ (by decide)
    have:=AbS (w:=w) (F:=upA A w w) (x:=BitVec.ofNat 64 (a.toNat * b.toNat % 18446744073709551616))
    rwa [BitVec.toNat_ofNat,K6 c] at this
attribute [local irreducible] ewp owp hwp hwq hws Ev Evg Fn Q4 R7 R2 Q9
attribute [local irreducible] hwx U0
noncomputable def DJ (e:List Int) (k:Int):Option (List Int) :=
  if k < 0 then (none) else (bnd (Hz (BitVec.ofInt 64 (e.length:Int)) (BitVec.ofInt 64 k)) λ f=>bnd (if ((0:U64).toNat:Int) < (f.1.toNat:Int) then (some true) else (if ((9223372036854775807:U64).toNat:Int) < (f.2.toNat:Int) then (some true) else (some false)):Option Bool) λ g=>if g=true then (none) else (bnd (mkI 8 (0:Int) f.2.toInt) λ b=>bnd (ckN b e) λ h=>bnd (lop (ρ:=(List Int)) (λ (a:(List Int)×Int)=>if a.2 < (b.length:Int) then (bnd (Aaz a.1 a.2) λ d=>bnd (Q1 (a.2 + d.2)) λ i=>some (.next (d.1,i))) else (some (.brk (a.1,a.2)))) ((AaB b e),h)) λ c=>fin c λ (j:(List Int)×Int)=>some j.1))
theorem Fl {w:World} {A:Nat->Prop} (hA:∀ k,A k->k < w.heap.size) {vx0:Value} {x0:List Int} (m0:Vb w A vx0 x0) {x1:Int} (rx1:P9 x1) {r:(List Int)} (hm:DJ x0 x1=some r) :
    Fn prog 33 [vx0,(.int .i64 x1)] w λ v w'=>Ext w w'/\RowR w w' (upA A w w') 3 v r:=by
 obtain ⟨O,hB,w1⟩:=enter hA
 obtain ⟨A3,c4,rfl⟩:=m0.form
 refine AK func33 rfl ntmps33 ?_
 unfold DJ at hm
 refine Am (Ah (Au rfl (o_z (Am (Am (Ah (At rfl (Eq rfl rfl (λ c5=>?_) λ c5=>?_))))))))
 ·
  replace hm:=ip hm c5
  refine o_z (Aj rfl ?_)
  exact nomatch hm
 replace hm:=im hm c5
 refine o_z (Ae rfl (AN (Am (Ah (At rfl (AU rfl ?_))))))
 have l7:=Cv m0.len
 have r6:=rngNat l7
 refine Wp rfl rfl (At rfl (Wp rfl rfl ?_))
 obtain ⟨q8,e9,hm⟩:=bs hm
 refine LH (O:=O) (A:=All w) (R:=λ w' F v=>T2 w' F v q8) (Nr (λ _ h=>h)  e9) rfl rfl λ y1 z1 a2 g0 f1=>?_
 obtain ⟨b2,c2,rfl,g1,h1⟩:=f1
 obtain rfl:=g1.u64
 obtain rfl:=h1.u64
 refine At rfl (CK rfl rfl (CK rfl rfl (Au rfl (Au rfl (o_z (Am (Am ?_)))))))
 obtain ⟨i1,a0,hm⟩:=bs hm
 refine Bi (λ l' w'=>∃ (j1:Unit) (O':Lab),Q2 l' [(0,(.slice A3 x0.length c4)),(6,(.int .u64 q8.2.toNat)),(26,(.bool i1))]/\Bs w A w' O') ?_ ?_
 ·
  refine Ah (At rfl (Er rfl rfl (λ n0=>?_) λ n0=>?_))
  ·
   replace a0:=ip a0 n0
   refine At rfl (AA rfl rfl (AA rfl rfl (BJ rfl rfl (o_z ?_))))
   obtain rfl:=sm a0
   exact ⟨(),_,⟨rfl,rfl,rfl,trivial⟩,hB.st g0⟩
  replace a0:=im a0 n0
  refine At rfl (AB rfl rfl (At rfl (AB rfl rfl (Er rfl rfl (λ o0=>?_) λ o0=>?_))))
  ·
   replace a0:=ip a0 o0
   refine BK rfl rfl (o_z ?_)
   obtain rfl:=sm a0
   exact ⟨(),_,⟨rfl,rfl,rfl,trivial⟩,hB.st g0⟩
  replace a0:=im a0 o0
  refine BK rfl rfl (o_z ?_)
  obtain rfl:=sm a0
  exact ⟨(),_,⟨rfl,rfl,rfl,trivial⟩,hB.st g0⟩
 replace hB:=hB.st g0
 rintro d2 e2 ⟨j1,k1,p0,hB⟩
 refine Bg _ p0 ?_
 refine BP rfl (λ q0=>?_) (λ q0=>?_)
 ·
  replace hm:=ip hm q0
  exact nomatch hm
 replace hm:=im' hm q0
 refine AN (Am (Ah (At rfl (YT (a:=q8.2) rfl rfl ?_))))
 obtain ⟨h0,l1,hm⟩:=bs hm
 obtain ⟨i0,m1,n1,o1,p1⟩:=EN l1
 refine Gp 2 k1 (z0:=(0:Int)) rfl rfl rfl rfl rfl m1 (vInt (R0 0)) n1 o1 λ j0 f2 q1 r1 k0=>?_
 rw [<- p1] at k0 ⊢
 refine Au rfl (o_z (Am (Ah (At rfl (At rfl ?_)))))
 obtain ⟨g2,w0,hm⟩:=bs hm
 replace hB:=hB.st r1
 refine WP k0 (m0.zs hA hB) w0 rfl rfl rfl λ h2 y0 k0=>?_
 refine Au rfl (o_z (Am ?_))
 obtain ⟨f0,r0,hm⟩:=bs hm
 refine Bi (aft f0 (λ (c0:(List Int)×Int) (l0:Unit)=>[(7,(.slice (some ⟨j0,0,none⟩) h0.length i0))]) (λ c0 l0 w'=>∃ O':Lab,Bs w A w' O'/\Rw 2 w' O' 3 (.slice (some ⟨j0,0,none⟩) h0.length i0) c0.1/\P9 c0.2)) ?_ ?_
 ·
  refine Bx ?_
  replace hB:=hB.st y0
  refine Ex (σ:=(List Int)×Int) (X:=Unit) r0 (λ (c0:(List Int)×Int) (l0:Unit)=>[(7,(.slice (some ⟨j0,0,none⟩) h0.length i0)),(8,(.int .i64 c0.2))]) _ (λ c0 l0 w'=>∃ O':Lab,Bs w A w' O'/\Rw 2 w' O' 3 (.slice (some ⟨j0,0,none⟩) h0.length i0) c0.1/\P9 c0.2) _ () ⟨q1,hB,k0,(WO w0)⟩ ⟨rfl,rfl,trivial⟩ ?_
  rintro c0 l0 i2 s1 ⟨t1,hB,d0,a1⟩ b0 s0 e0
  refine Am (Am (Ah (At rfl (At rfl (AU rfl ?_)))))
  have u1:=Cv d0.len
  have j2:=rngNat u1
  refine Eq rfl rfl (λ t0=>?_) λ t0=>?_
  ·
   replace b0:=ip b0 t0
   refine o_z (Aj rfl (AN (Bx ?_)))
   refine Bl [(7,[2])] t1 ?_
   refine AH (fuel:=4) [] (AX (CR 1 6)) rfl (AJ rfl rfl (AJ rfl rfl ?_))
   obtain ⟨k2,u0,b0⟩:=bs b0
   obtain ⟨l2,m2,b1⟩:=Ym d0 u0
   refine Ya (hc:=b1) rfl rfl rfl rfl (AJ rfl rfl (AJ rfl rfl ?_))
   obtain ⟨n2,o2,c1⟩:=Yn d0 u0
   refine Yb (hc:=c1) rfl rfl rfl rfl (AC ?_)
   refine AH (fuel:=3) [2] [(0,true)] rfl (AJ rfl rfl (AC (AF (i:=7) rfl ?_)))
   refine WQ d0 u0 b1 c1 rfl rfl rfl λ p2 d1 d0=>?_
   have hZ:=d1.lst [2] (λ _ h=>by cases h;decide)
   refine AV [] hZ ?_
   refine AH (fuel:=0) [] (AX [8,9]) rfl ?_
   obtain ⟨q2,e1,b0⟩:=bs b0
   have v1:=(BE e1)
   refine LK (he:=e1) rfl rfl rfl rfl (Ei rfl rfl (AC (Ba ?_)))
   obtain rfl:=sm b0
   exact show Exists _ from ⟨_,(),rfl,⟨rfl,rfl,trivial⟩,_,hB.st d1,d0,v1⟩
  replace b0:=im b0 t0
  refine o_z (Ae rfl (Cq ?_))
  obtain rfl:=sm b0
  exact show Exists _ from ⟨_,(),e0 _ rfl,⟨rfl,trivial⟩,_,hB,d0,a1⟩
 replace hB:=hB.st y0
 rintro r2 s2 ⟨t2,u2,rfl,v0,v2,hB,d0,a1⟩
 replace hm:=BF hm
 refine Bg _ v0 ?_
 refine Am (Ah (At rfl (Au rfl (o_z (AM ?_)))))
 obtain rfl:=sm hm
 exact T8 rfl (Bc rfl) ⟨hB.ext,(d0.out hB (by decide))⟩
def DD (xs:List Opr):Option (List Opr):=if xs.length * 72<=140737488355328/\xs.length<=9223372036854775807 then some xs else none
theorem HD {w:World} {A:Nat->Prop} (hA:∀ k,A k->k < w.heap.size) {d:Value} {b:List Opr} (a:Vb w A d b) {r:List Opr} (hm:DD b=some r) :
    Fn prog 69 [d] w λ v w'=>Ext w w'/\RowR w w' (upA A w w') 43 v r:=by
  obtain ⟨⟨hl,a0⟩,rfl⟩:=EM hm
  obtain ⟨O,hB,b0⟩:=enter hA
  replace a:=a.mono b0
  obtain ⟨h,c,rfl⟩:=a.form
  refine AK func69 rfl ntmps69 ?_
  cases h with
  | none =>
    have i:b=[]:=by
      cases b with
      | nil=>rfl
      | cons x xs=>obtain ⟨_,_,_,u,_⟩:=a.elem (k:=0) (x:=x) rfl;cases u
    subst i
    refine aW ?_<;>refine ae ?_
    exact Q5 rfl rfl ⟨P7 _ _,RowR.nil⟩
  | some m =>
    refine aW ?_<;>refine ab ?_
    refine DW 2 O (xs:=([]:List Opr)) rfl rfl rfl trivial rfl λ g n o e j=>?_
    replace hB:=hB.st e (λ u=>u) (λ u=>u)
    replace a:=a.st e (λ u=>u)
    refine ad ?_
    refine EL rfl j a.rd rfl rfl (by simpa using hl) (by simpa using a0) rfl λ p q s t l f=>?_
    replace hB:=hB.st l (by decide) (by decide)
    rw [L3] at f ⊢
    refine af ?_
    refine ab ?_
    exact Q5 rfl rfl ⟨hB.ext,f.out hB (by decide)⟩
noncomputable def Ci (_:List Opr) (_ _ _:Int):Option (List Opr):=none
theorem Db {w:World} {O:Lab} {a:Option Addr} {b c0 c:Nat} {g:List Opr} (_:Rw c w O 43 (.slice a b c0) g) {d:Int} (_:P9 d) {e:Int} (_:P9 e) {f:Int} (_:P9 f) {r:List Opr} (hm:Ci g d e f=some r) :
    Fn prog 110 [(.slice a b c0),(.int .i64 d),(.int .i64 e),(.int .i64 f),(.func (.func 71) #[] #[])] w λ _ w'=>∃ h,St (eT c) w O w' h/\Rw c w' h 43 (.slice a b c0) r:=nomatch hm
noncomputable def GA (c:List Int):Option Int :=
  bnd (rng (ρ:=Int) (λ (e:Nat) (a:Int) (f:Unit)=>if a≠0 then (some (.ret a)) else (some (.next ()))) c 0 ()) λ b=>fin b λ (d:Unit)=>some 0
section
attribute [local irreducible] Vb Lc Rw Ob
theorem Qb {w:World} {A:Nat->Prop} (hA:∀ k,A k->k < w.heap.size) {b:Value} {c:List Int} (d:Vb w A b c) {r:Int} (hm:GA c=some r) :
    Fn prog 72 [b] w λ v w'=>Ext w w'/\Vb w' (upA A w w') v r:=by
 obtain ⟨_,_,_⟩:=CW hA
 apply Cj d;intros
 refine AK func72 rfl ntmps72 ?_
 unfold GA at hm
 refine Am (Ah (Au rfl (o_z (Am (Ah (Au rfl (o_z (Am (Am (Ah (At rfl (AU rfl (At rfl (o_z ?_))))))))))))))
 refine DT (X:=Unit) hm [3,6] [] [] [] (λ _ _ _ _ t=>t) (λ _ _ _ _ t=>t) () ?_ ?_
 ·
  intro f g h _ _ _ _ a i _ e;intros
  refine Am (Ah (Ep ?_));intros
  refine EZ (Au rfl (o_z (Am (Ah (At rfl (At rfl (JZ rfl rfl (λ c0=>?_) λ c0=>?_)))))))
  ·
   replace a:=ip a c0
   refine o_z (Aj rfl (Am (Ah (At rfl (Au rfl (o_z (AM ?_)))))))
   obtain rfl:=sm a
   obtain rfl:=e _ rfl
   exact Cl
  replace a:=im a c0
  refine o_z (Ae rfl (AN ?_))
  exact DF () a
 intro j _ _ _ _ hm;intros
 refine BY ?_
 refine Am (Ah (At rfl (Au rfl (o_z (AM ?_)))))
 obtain rfl:=sm hm
 exact Cl
end
noncomputable def CU (a:Opr) (b:Opr):Option Int :=
  bnd (CM a.cost b.cost) λ c=>bnd (CM (a.pre.length:Int) (b.pre.length:Int)) λ d=>bnd (CM (a.effs.length:Int) (b.effs.length:Int)) λ e=>bnd (GA ([c,d,e]:List Int)) λ f=>some f
section
attribute [local irreducible] Vb Lc Rw Ob
theorem Ir {w:World} {A:Nat->Prop} (hA:∀ k,A k->k < w.heap.size) {a:Value} {c:Opr} (e:Vb w A a c) {b:Value} {d:Opr} (f:Vb w A b d) {r:Int} (hm:CU c d=some r) :
    Fn prog 71 [a,b] w λ v w'=>Ext w w'/\Vb w' (upA A w w') v r:=by
 obtain ⟨_,_,_⟩:=CW hA
 apply Cj e;intros
 apply Cj f;intros
 refine AK func71 rfl ntmps71 ?_
 unfold CU at hm
 refine Am (Ah (Dt 2 ?_));intros
 refine Dt 3 ?_;intros
 refine Au rfl (o_z (Am (Hj [] ?_)))
 refine AH (fuel:=6) [] (AX [0,1,2,3,5,6,7,8,9,10,12,13,14,15,16,17]) rfl (AL rfl rfl (Cp rfl (AL rfl rfl ?_)))
 refine Cp rfl (AL rfl rfl ?_)
 refine Cp rfl (Hu rfl rfl (AL rfl rfl ?_))
 refine Cp rfl (Hu rfl rfl (AL rfl rfl ?_))
 refine Cp rfl (Hu rfl rfl (AL rfl rfl ?_))
 refine Cp rfl (Hu rfl rfl (AC (AF (i:=4) rfl ?_)))
 refine q_S [] ?_;intros
 obtain ⟨c0,d0,hm⟩:=bs hm
 refine DO rfl (FT (λ _ l=>l) zI zI d0) ?_;intros
 refine Bv [] ?_
 refine AF (i:=11) rfl (q_S [] ?_);intros
 obtain ⟨g,f0,hm⟩:=bs hm
 refine DO rfl (FT (λ _ l=>l) zI zI f0) ?_;intros
 refine Bv [] ?_
 refine AF (i:=18) rfl (q_S [] ?_);intros
 obtain ⟨h,h0,hm⟩:=bs hm
 refine DO rfl (FT (λ _ l=>l) zI zI h0) ?_;intros
 refine Bv [] ?_
 refine AF (i:=19) rfl (q_S [] ?_);intros
 refine Gx 4 (([c0,g,h]:List Int):List Int) ?_;intros
 refine Bv [] ?_
 refine AF (i:=20) rfl (q_S [] ?_);intros
 obtain ⟨j,i0,hm⟩:=bs hm
 refine DO rfl (Qb (λ _ l=>l) zAr i0) ?_;intros
 refine Bv [] ?_
 refine AH (fuel:=0) [] [(21,true)] rfl (Ei rfl rfl (AC (Ba (AM ?_))))
 obtain rfl:=sm hm
 exact Cl
end
noncomputable def AR (u:List Opr) (r:Int) (v:Int):Option (List Opr) :=
  bnd (Q1 (r + 1)) λ w=>bnd (lop (ρ:=(List Opr)) (λ (b:(List Opr)×Int)=>if b.2 < v then (bnd (lop (ρ:=Ctl ((List Opr)×Int) (List Opr)) (λ (a:(List Opr)×Int)=>bnd (if r < a.2 then (bnd (atI a.1 a.2) λ n=>bnd (Q1 (a.2 - 1)) λ o=>bnd (atI a.1 o) λ p=>bnd (CU n p) λ f=>if f < 0 then (some true) else (some false)) else (some false):Option Bool) λ q=>if q=true then (bnd (Q1 (a.2 - 1)) λ g=>bnd (atI a.1 g) λ c=>bnd (atI a.1 a.2) λ h=>bnd (atI a.1 a.2) λ s=>bnd (Q1 (a.2 - 1)) λ d=>bnd (atI (a.1.set (a.2:Int).toNat c) d) λ t=>bnd (Q1 (a.2 - 1)) λ i=>some (.next (((a.1.set (a.2:Int).toNat c).set (d:Int).toNat h),i))) else (some (.brk (a.1,a.2)))) (b.1,b.2)) λ e=>fin e λ (j:(List Opr)×Int)=>bnd (Q1 (b.2 + 1)) λ k=>some (.next (j.1,k))) else (some (.brk (b.1,b.2)))) (u,w)) λ l=>fin l λ (m:(List Opr)×Int)=>some m.1
theorem CP {w:World} {O:Lab} {A0:Option Addr} {m0 c0 i0:Nat} {x0:List Opr} (v0:Rw i0 w O 43 (.slice A0 m0 c0) x0) {x1:Int} (rx1:P9 x1) {x2:Int} (rx2:P9 x2) {r:(List Opr)} (hm:AR x0 x1 x2=some r) :
    Fn prog 109 [(.slice A0 m0 c0),(.int .i64 x1),(.int .i64 x2),(.func (.func 71) #[] #[])] w λ v w'=>∃ O',St (eT i0) w O w' O'/\Rw i0 w' O' 43 (.slice A0 m0 c0) r:=by
 obtain ⟨O0,hE,n4,o4⟩:=V0 (w:=w) (O:=O) v0.2.2
 obtain rfl:m0=x0.length:=v0.len.1
 have v0':=Rw.leave v0 n4 o4 (j:=2) (by decide)
 have hB:Bm w O0 w O0:=Bm.refl
 refine AK func109 rfl ntmps109 ?_
 unfold AR at hm
 refine Am (Ah (At rfl ?_))
 obtain ⟨n5,e6,hm⟩:=bs hm
 have r7:=(BE e6)
 refine Fu (he:=e6) rfl rfl (Au rfl (o_z ?_))
 obtain ⟨z1,p4,hm⟩:=bs hm
 refine Bi (aft z1 (λ (h0:(List Opr)×Int) (u1:Unit)=>[(0,(.slice A0 x0.length c0))]) (λ h0 u1 w'=>∃ O':Lab,Bm w O0 w' O'/\Rw 2 w' O' 43 (.slice A0 x0.length c0) h0.1/\P9 h0.2)) ?_ ?_
 ·
  refine Bx (Ex (σ:=(List Opr)×Int) (X:=Unit) p4 (λ (h0:(List Opr)×Int) (u1:Unit)=>[(0,(.slice A0 x0.length c0)),(1,(.int .i64 x1)),(2,(.int .i64 x2)),(3,(.func (.func 71) #[] #[])),(8,(.int .i64 h0.2))]) _ (λ h0 u1 w'=>∃ O':Lab,Bm w O0 w' O'/\Rw 2 w' O' 43 (.slice A0 x0.length c0) h0.1/\P9 h0.2) _ () ⟨O0,hB,v0',r7⟩ ⟨rfl,rfl,rfl,rfl,rfl,trivial⟩ ?_)
  rintro h0 u1 t7 q4 ⟨r4,hB,v1,a2⟩ d0 b2 r0
  refine Am (Am (Ah (At rfl (At rfl (Eq rfl rfl (λ c2=>?_) λ c2=>?_)))))
  ·
   replace d0:=ip d0 c2
   refine o_z (Aj rfl (AN (Am (Bx (Am (Ah (At rfl (Au rfl (o_z ?_)))))))))
   obtain ⟨w0,d2,d0⟩:=bs d0
   refine Bi (aft w0 (λ (j0:(List Opr)×Int) (w1:Unit)=>[(0,(.slice A0 x0.length c0)),(1,(.int .i64 x1)),(2,(.int .i64 x2)),(3,(.func (.func 71) #[] #[])),(8,(.int .i64 h0.2))]) (λ j0 w1 w'=>∃ O':Lab,Bm w O0 w' O'/\Rw 2 w' O' 43 (.slice A0 x0.length c0) j0.1/\P9 j0.2)) ?_ ?_
   ·
    refine Bx (Ex (σ:=(List Opr)×Int) (X:=Unit) d2 (λ (j0:(List Opr)×Int) (w1:Unit)=>[(0,(.slice A0 x0.length c0)),(1,(.int .i64 x1)),(2,(.int .i64 x2)),(3,(.func (.func 71) #[] #[])),(8,(.int .i64 h0.2)),(9,(.int .i64 j0.2))]) _ (λ j0 w1 w'=>∃ O':Lab,Bm w O0 w' O'/\Rw 2 w' O' 43 (.slice A0 x0.length c0) j0.1/\P9 j0.2) _ () ⟨r4,hB,v1,a2⟩ ⟨rfl,rfl,rfl,rfl,rfl,rfl,trivial⟩ ?_)
    rintro j0 w1 e2 s4 ⟨y1,hB,e0,y3⟩ a0 f2 s0
    refine Am (Am ?_)
    obtain ⟨t4,b0,a0⟩:=bs a0
    refine Bi (λ l' w'=>∃ (u4:Unit) (O':Lab),Q2 l' [(0,(.slice A0 x0.length c0)),(1,(.int .i64 x1)),(2,(.int .i64 x2)),(3,(.func (.func 71) #[] #[])),(8,(.int .i64 h0.2)),(9,(.int .i64 j0.2)),(34,(.bool t4))]/\Bm w O0 w' O'/\Rw 2 w' O' 43 (.slice A0 x0.length c0) j0.1) ?_ ?_
    ·
     refine Bl [] y1 ?_
     refine AH (fuel:=3) [] (AX (CR 0 14)) rfl (AJ rfl rfl (AJ rfl rfl (YI rfl rfl rfl rfl (λ g2=>?_) λ g2=>?_)))
     ·
      replace b0:=ip b0 g2
      refine AJ rfl rfl (Az rfl (Aw rfl rfl (Ce rfl (Az rfl (Aw rfl rfl (Ce rfl (Az rfl (Aw rfl rfl (Ce rfl (Az rfl (Aw rfl rfl ?_)))))))))))
      obtain ⟨y0,v4,b0⟩:=bs b0
      obtain ⟨w4,x4⟩:=Br v4
      obtain ⟨u7,v7,y4,h2,i2,j2,k2,w7,x7,rfl,z3,a4,z4,a5⟩:=e0.elemF x4
      obtain ⟨b5,c5,rfl⟩:=z3.form
      obtain ⟨d5,e5,rfl⟩:=a4.form
      refine Hx (hA:=h2) (hj:=w4) (hlt:=j2) rfl rfl (Az rfl (Aw rfl rfl (Je (hl:=rfl) (hb:=Hi i2 k2) rfl (Az rfl (Aw rfl rfl (Ce rfl (Az rfl (Aw rfl rfl (Ce rfl (Az rfl (Aw rfl rfl ?_)))))))))))
      obtain ⟨y7,b4,b0⟩:=bs b0
      have z7:=(BE b4)
      refine YR (he:=b4) rfl rfl rfl (Az rfl (Aw rfl rfl ?_))
      obtain ⟨z0,f5,b0⟩:=bs b0
      obtain ⟨g5,h5⟩:=Br f5
      obtain ⟨a8,b8,i5,l2,m2,n2,o2,c8,d8,rfl,c4,d4,j5,p2⟩:=e0.elemF h5
      obtain ⟨k5,l5,rfl⟩:=c4.form
      obtain ⟨m5,o5,rfl⟩:=d4.form
      refine Hx (hA:=l2) (hj:=g5) (hlt:=n2) rfl rfl (Az rfl (Aw rfl rfl (Je (hl:=rfl) (hb:=Hi m2 o2) rfl (AC (AF (i:=14) rfl (AB rfl rfl ?_))))))
      obtain ⟨q2,r2,b0⟩:=bs b0
      refine PM (O:=y1) (A:=All e2) (R:=λ w' F v=>Vb w' F v q2) (Ir (λ _ h=>h) (Vb.mono (F:=Fr 0 e2 y1) (Vb.ofAgg (cs:=[(.string y0.name),(.int .i64 y0.cost),(.slice b5 y0.pre.length c5),(.slice d5 y0.effs.length e5)]) (x:=y0) rfl ⟨_,_,rfl,z3,a4,z4,a5⟩) Fr.lt) (Vb.mono (F:=Fr 0 e2 y1) (Vb.ofAgg (cs:=[(.string z0.name),(.int .i64 z0.cost),(.slice k5 z0.pre.length l5),(.slice m5 z0.effs.length o5)]) (x:=z0) rfl ⟨_,_,rfl,c4,d4,j5,p2⟩) Fr.lt) r2) rfl rfl rfl λ p5 q5 r5 k0 s2=>?_
      obtain ⟨rfl,s5⟩:=s2.int
      have hZ:=lZ k0
      refine AV [] hZ ?_
      refine AH (fuel:=0) [] (AX [15,16]) rfl (Az rfl (Aw rfl rfl (Bj (λ _ _=>Di rfl rfl) (λ t0=>?_) (λ t0=>?_))))
      ·
       replace b0:=ip b0 t0
       refine CL rfl rfl rfl (AC (Ba ?_))
       obtain rfl:=sm b0
       exact ⟨(),_,⟨rfl,rfl,rfl,rfl,rfl,rfl,rfl,trivial⟩,hB.st k0,e0.st k0⟩
      replace b0:=im b0 t0
      refine CL rfl rfl rfl (AC (Ba ?_))
      obtain rfl:=sm b0
      exact ⟨(),_,⟨rfl,rfl,rfl,rfl,rfl,rfl,rfl,trivial⟩,hB.st k0,e0.st k0⟩
     replace b0:=im b0 g2
     refine AJ rfl rfl (AW rfl rfl rfl (AW rfl rfl rfl (AW rfl rfl rfl (AW rfl rfl rfl (AW rfl rfl rfl (AW rfl rfl rfl (AW rfl rfl rfl (AW rfl rfl rfl (AW rfl rfl rfl (AW rfl rfl rfl (AC (AF (i:=14) rfl (AA rfl rfl ?_)))))))))))))
     refine AV [] (lZ (St.refl nT _ _)) ?_
     refine AH (fuel:=0) [] (AX [15,16]) rfl (AW rfl rfl rfl (CE rfl rfl rfl (AC (Ba ?_))))
     obtain rfl:=sm b0
     exact ⟨(),_,⟨rfl,rfl,rfl,rfl,rfl,rfl,rfl,trivial⟩,hB,e0⟩
    rintro t5 u5 ⟨u4,t2,a1,hB,e0⟩
    refine Bg _ a1 ?_
    refine BP rfl (λ u0=>?_) (λ u0=>?_)
    ·
     replace a0:=ip a0 u0
     refine AN (Am (Bx (Bl [(15,[2])] t2 ?_)))
     refine AH (fuel:=6) [] (AX [0,1,5,6,7,8,9,10,11,12,13,14]) rfl (AJ rfl rfl (AJ rfl rfl (AJ rfl rfl (AJ rfl rfl ?_))))
     obtain ⟨v5,b1,a0⟩:=bs a0
     have w5:=(BE b1)
     refine Wo (he:=b1) rfl rfl rfl rfl ?_
     obtain ⟨f0,u2,a0⟩:=bs a0
     obtain ⟨v2,w2⟩:=Br u2
     obtain ⟨x5,y5,e4,c1,d1,e1,f1,z5,a6,rfl,g1,h1,y2,z2⟩:=e0.elemF w2
     obtain ⟨a3,b3,rfl⟩:=g1.form
     obtain ⟨c3,d3,rfl⟩:=h1.form
     refine BT (hA:=c1) (hj:=v2) (hlt:=e1) rfl rfl rfl (Dm (hl:=rfl) (hb:=Hi d1 f1) rfl rfl (AJ rfl rfl (AJ rfl rfl ?_)))
     obtain ⟨g0,e3,a0⟩:=bs a0
     obtain ⟨f3,g3⟩:=Br e3
     obtain ⟨b6,c6,f4,i1,j1,k1,l1,d6,f6,rfl,l0,n0,h3,i3⟩:=e0.elemF g3
     obtain ⟨j3,k3,rfl⟩:=l0.form
     obtain ⟨l3,m3,rfl⟩:=n0.form
     refine BT (hA:=i1) (hj:=f3) (hlt:=k1) rfl rfl rfl (Dm (hl:=rfl) (hb:=Hi j1 l1) rfl rfl ?_)
     obtain ⟨g6,n3,a0⟩:=bs a0
     obtain ⟨o3,m1⟩:=Br n3
     obtain ⟨h6,i6,g4,p0,h4,n1,i4,j6,k6,rfl,p3,q3,l6,m6⟩:=e0.elemF m1
     obtain ⟨n6,o6,rfl⟩:=p3.form
     obtain ⟨p6,q6,rfl⟩:=q3.form
     refine BT (hA:=p0) (hj:=o3) (hlt:=n1) rfl rfl rfl (AC ?_)
     refine AH (fuel:=3) [2] (AX [2,3,4]) rfl (AJ rfl rfl (AJ rfl rfl ?_))
     obtain ⟨r6,o1,a0⟩:=bs a0
     have s6:=(BE o1)
     refine Wo (he:=o1) rfl rfl rfl rfl (AC (AF (i:=15) rfl ?_))
     refine Fi rfl e0 (a:=f0) (Vb.ofAgg (cs:=[(.string f0.name),(.int .i64 f0.cost),(.slice a3 f0.pre.length b3),(.slice c3 f0.effs.length d3)]) (x:=f0) rfl ⟨_,_,rfl,g1,h1,y2,z2⟩) p0 rfl rfl (AD m1) λ t6 o0 e0=>?_
     have hZ:=o0.lst [2] (λ _ h=>by cases h;decide)
     refine AV [] hZ ?_
     refine AH (fuel:=1) [] [(16,true)] rfl ?_
     obtain ⟨u6,r3,a0⟩:=bs a0
     obtain ⟨s3,p1⟩:=Br r3
     obtain ⟨v6,w6,j4,q0,k4,q1,l4,x6,y6,rfl,t3,u3,z6,a7⟩:=e0.elemF p1
     obtain ⟨b7,c7,rfl⟩:=t3.form
     obtain ⟨d7,e7,rfl⟩:=u3.form
     refine BT (hA:=q0) (hj:=s3) (hlt:=q1) rfl rfl rfl (AC (AF (i:=17) rfl ?_))
     replace l0:=l0.st o0
     replace n0:=n0.st o0
     refine Fi rfl e0 (a:=g0) (Vb.ofAgg (cs:=[(.string g0.name),(.int .i64 g0.cost),(.slice j3 g0.pre.length k3),(.slice l3 g0.effs.length m3)]) (x:=g0) rfl ⟨_,_,rfl,l0,n0,h3,i3⟩) q0 rfl rfl (AD p1) λ f7 v3 e0=>?_
     refine Bz (Ba (Ah (At rfl ?_)))
     obtain ⟨g7,r1,a0⟩:=bs a0
     have w3:=(BE r1)
     refine Hf (he:=r1) rfl rfl (Au rfl (o_z ?_))
     obtain rfl:=sm a0
     exact show Exists _ from ⟨_,(),rfl,⟨rfl,rfl,rfl,rfl,rfl,rfl,trivial⟩,_,(hB.st o0).st v3,e0,w3⟩
    replace a0:=im' a0 u0
    refine Cq ?_
    obtain rfl:=sm a0
    exact show Exists _ from ⟨_,(),s0 _ rfl,⟨rfl,rfl,rfl,rfl,rfl,trivial⟩,_,hB,e0,y3⟩
   rintro h7 i7 ⟨j7,k7,rfl,s1,l7,hB,e0,y3⟩
   replace d0:=BF d0
   refine Bg _ s1 ?_
   refine Ah (At rfl ?_)
   obtain ⟨m7,t1,d0⟩:=bs d0
   have x3:=(BE t1)
   refine Fu (he:=t1) rfl rfl (Au rfl (o_z ?_))
   obtain rfl:=sm d0
   exact show Exists _ from ⟨_,(),rfl,⟨rfl,rfl,rfl,rfl,rfl,trivial⟩,_,hB,e0,x3⟩
  replace d0:=im d0 c2
  refine o_z (Ae rfl (Cq ?_))
  obtain rfl:=sm d0
  exact show Exists _ from ⟨_,(),r0 _ rfl,⟨rfl,trivial⟩,_,hB,v1,a2⟩
 rintro n7 o7 ⟨p7,q7,rfl,m4,s7,hB,v1,a2⟩
 replace hm:=BF hm
 obtain rfl:=sm hm
 obtain ⟨O',hS',hz,hl⟩:=hE.leave (λ q=>if q=2 then i0 else 0) rfl hB
 exact W3 rfl  ⟨O',hS',(Rw.leave v1 hz (hl 2 (by decide) (by decide)) v0.2.2)⟩
noncomputable def BO (w:List Opr) (h:Int):Option (List Opr) :=
  bnd (lop (ρ:=(List Opr)) (λ (d:(List Opr)×Int×Int)=>if d.2.2<=h then (bnd (AR d.1 d.2.1 d.2.2) λ s=>bnd (Q1 (d.2.2 + 20)) λ t=>some (.next (s,d.2.2,t))) else (some (.brk (d.1,d.2.1,d.2.2)))) (w,0,20)) λ i=>fin i λ (j:(List Opr)×Int×Int)=>bnd (AR j.1 j.2.1 h) λ u=>bnd (lop (ρ:=(List Opr)) (λ (b:(List Opr)×Int)=>if b.2 < h then (bnd (Q1 (2 * b.2)) λ v=>bnd (lop (ρ:=Ctl ((List Opr)×Int) (List Opr)) (λ (a:(List Opr)×Int×Int)=>if a.2.2<=h then (bnd (Q1 (a.2.1 + b.2)) λ k=>bnd (Ci a.1 a.2.1 k a.2.2) λ l=>bnd (Q1 (2 * b.2)) λ m=>bnd (Q1 (a.2.2 + m)) λ n=>some (.next (l,a.2.2,n))) else (some (.brk (a.1,a.2.1,a.2.2)))) (b.1,0,v)) λ f=>fin f λ (c:(List Opr)×Int×Int)=>bnd (bnd (Q1 (c.2.1 + b.2)) λ e=>if e < h then (bnd (Ci c.1 c.2.1 e h) λ o=>some o) else (some c.1):Option (List Opr)) λ p=>bnd (Q1 (b.2 * 2)) λ q=>some (.next (p,q))) else (some (.brk (b.1,b.2)))) (u,20)) λ g=>fin g λ (r:(List Opr)×Int)=>some r.1
theorem EC {w:World} {O:Lab} {c:Option Addr} {l c0 m:Nat} {d:List Opr} (n:Rw m w O 43 (.slice c l c0) d) {i:Int} (k:P9 i) {r:(List Opr)} (hm:BO d i=some r) :
    Fn prog 97 [(.slice c l c0),(.int .i64 i),(.func (.func 71) #[] #[])] w λ v w'=>∃ a,St (eT m) w O w' a/\Rw m w' a 43 (.slice c l c0) r:=by
 obtain ⟨h,hE,l2,m2⟩:=V0 (w:=w) (O:=O) n.2.2
 obtain rfl:l=d.length:=n.len.1
 have t:=Rw.leave n l2 m2 (j:=2) (by decide)
 have b:Bm w h w h:=Bm.refl
 refine AK func97 rfl ntmps97 ?_
 unfold BO at hm
 refine Am (Ah (Au rfl (o_z (Am (Ah (At rfl (Au rfl (Au rfl (o_z (Am ?_))))))))))
 obtain ⟨A,n2,hm⟩:=bs hm
 refine Bi (aft A (λ (e:(List Opr)×Int×Int) (o:Unit)=>[(0,(.slice c d.length c0)),(1,(.int .i64 i)),(2,(.func (.func 71) #[] #[])),(6,(.int .i64 20)),(7,(.int .i64 e.2.1))]) (λ e o w'=>∃ a:Lab,Bm w h w' a/\Rw 2 w' a 43 (.slice c d.length c0) e.1/\P9 e.2.1/\P9 e.2.2)) ?_ ?_
 ·
  refine Bx (Ex (σ:=(List Opr)×Int×Int) (X:=Unit) n2 (λ (e:(List Opr)×Int×Int) (o:Unit)=>[(0,(.slice c d.length c0)),(1,(.int .i64 i)),(2,(.func (.func 71) #[] #[])),(6,(.int .i64 20)),(7,(.int .i64 e.2.1)),(8,(.int .i64 e.2.2))]) _ (λ e o w'=>∃ a:Lab,Bm w h w' a/\Rw 2 w' a 43 (.slice c d.length c0) e.1/\P9 e.2.1/\P9 e.2.2) _ () ⟨h,b,t,(R0 0),(R0 20)⟩ ⟨rfl,rfl,rfl,rfl,rfl,rfl,trivial⟩ ?_)
  rintro e o Z o2 ⟨B,b,b1,c1,d1⟩ e0 j1 j0
  refine Am (Am (Ah (At rfl (At rfl (JY rfl rfl (λ u=>?_) λ u=>?_)))))
  ·
   replace e0:=ip e0 u
   refine o_z (Aj rfl (AN (Bx (Am (Ah (At rfl (At rfl (At rfl (At rfl ?_)))))))))
   obtain ⟨e4,q2,e0⟩:=bs e0
   refine Cg (O:=B) (CP b1 c1 d1 q2) rfl λ f4 g4 h4 C D=>?_
   refine o_z (Am (Ah (At rfl (Au rfl (o_z (Ah (At rfl (At rfl ?_))))))))
   obtain ⟨i4,g2,e0⟩:=bs e0
   have E:=(BE g2)
   refine Fu (he:=g2) rfl rfl (Au rfl (o_z ?_))
   obtain rfl:=sm e0
   exact show Exists _ from ⟨_,(),rfl,⟨rfl,rfl,rfl,rfl,rfl,rfl,trivial⟩,_,b.st C,D,d1,E⟩
  replace e0:=im e0 u
  refine o_z (Ae rfl (Cq ?_))
  obtain rfl:=sm e0
  exact show Exists _ from ⟨_,(),j0 _ rfl,⟨rfl,rfl,rfl,rfl,rfl,trivial⟩,_,b,b1,c1,d1⟩
 rintro j4 k4 ⟨l4,m4,rfl,l1,u2,b,b1,c1,d1⟩
 replace hm:=BF hm
 refine Bg _ l1 ?_
 refine Am (Ah (At rfl (At rfl (At rfl (At rfl ?_)))))
 obtain ⟨n4,v2,hm⟩:=bs hm
 refine Cg (O:=u2) (CP b1 c1 k v2) rfl λ o4 p4 F z G=>?_
 refine o_z ?_
 obtain ⟨H,m1,hm⟩:=bs hm
 refine Bi (aft H (λ (g:(List Opr)×Int) (p:Unit)=>[(0,(.slice c d.length c0))]) (λ g p w'=>∃ a:Lab,Bm w h w' a/\Rw 2 w' a 43 (.slice c d.length c0) g.1/\P9 g.2)) ?_ ?_
 ·
  refine Bx ?_
  replace b:=b.st z
  refine Ex (σ:=(List Opr)×Int) (X:=Unit) m1 (λ (g:(List Opr)×Int) (p:Unit)=>[(0,(.slice c d.length c0)),(1,(.int .i64 i)),(2,(.func (.func 71) #[] #[])),(6,(.int .i64 g.2))]) _ (λ g p w'=>∃ a:Lab,Bm w h w' a/\Rw 2 w' a 43 (.slice c d.length c0) g.1/\P9 g.2) _ () ⟨F,b,G,(R0 20)⟩ ⟨rfl,rfl,rfl,rfl,trivial⟩ ?_
  rintro g p q4 y2 ⟨I,b,f1,i2⟩ a0 n1 k0
  refine Am (Am (Ah (At rfl (At rfl (Eq rfl rfl (λ x=>?_) λ x=>?_)))))
  ·
   replace a0:=ip a0 x
   refine o_z (Aj rfl (AN (Bx (Am (Ah (At rfl ?_))))))
   obtain ⟨r4,j2,a0⟩:=bs a0
   have J:=(BE j2)
   refine Nj (he:=j2) rfl rfl rfl (Au rfl (Au rfl (o_z (Am ?_))))
   obtain ⟨K,p1,a0⟩:=bs a0
   refine Bi (aft K (λ (f:(List Opr)×Int×Int) (s:Unit)=>[(0,(.slice c d.length c0)),(1,(.int .i64 i)),(2,(.func (.func 71) #[] #[])),(6,(.int .i64 g.2)),(7,(.int .i64 f.2.1))]) (λ f s w'=>∃ a:Lab,Bm w h w' a/\Rw 2 w' a 43 (.slice c d.length c0) f.1/\P9 f.2.1/\P9 f.2.2)) ?_ ?_
   ·
    refine Bx (Ex (σ:=(List Opr)×Int×Int) (X:=Unit) p1 (λ (f:(List Opr)×Int×Int) (s:Unit)=>[(0,(.slice c d.length c0)),(1,(.int .i64 i)),(2,(.func (.func 71) #[] #[])),(6,(.int .i64 g.2)),(7,(.int .i64 f.2.1)),(8,(.int .i64 f.2.2))]) _ (λ f s w'=>∃ a:Lab,Bm w h w' a/\Rw 2 w' a 43 (.slice c d.length c0) f.1/\P9 f.2.1/\P9 f.2.2) _ () ⟨I,b,f1,(R0 0),J⟩ ⟨rfl,rfl,rfl,rfl,rfl,rfl,trivial⟩ ?_)
    rintro f s s4 b3 ⟨L,b,s0,h1,h0⟩ d0 q1 l0
    refine Am (Am (Ah (At rfl (At rfl (JY rfl rfl (λ n0=>?_) λ n0=>?_)))))
    ·
     replace d0:=ip d0 n0
     refine o_z (Aj rfl (AN (Bx (Am (Ah (At rfl (At rfl (At rfl (At rfl ?_)))))))))
     obtain ⟨d3,t0,d0⟩:=bs d0
     have M:=(BE t0)
     refine Fu (he:=t0) rfl rfl (At rfl (At rfl ?_))
     obtain ⟨e3,s1,d0⟩:=bs d0
     refine Cg (O:=L) (Db s0 h1 M h0 s1) rfl λ f3 g3 h3 N P=>?_
     refine o_z (Am (Ah (At rfl (Au rfl (o_z (Ah (At rfl (At rfl ?_))))))))
     obtain ⟨i3,u0,d0⟩:=bs d0
     have j3:=(BE u0)
     refine Nj (he:=u0) rfl rfl rfl ?_
     obtain ⟨k3,v0,d0⟩:=bs d0
     have Q:=(BE v0)
     refine Fu (he:=v0) rfl rfl (Au rfl (o_z ?_))
     obtain rfl:=sm d0
     exact show Exists _ from ⟨_,(),rfl,⟨rfl,rfl,rfl,rfl,rfl,rfl,trivial⟩,_,b.st N,P,h0,Q⟩
    replace d0:=im d0 n0
    refine o_z (Ae rfl (Cq ?_))
    obtain rfl:=sm d0
    exact show Exists _ from ⟨_,(),l0 _ rfl,⟨rfl,rfl,rfl,rfl,rfl,trivial⟩,_,b,s0,h1,h0⟩
   rintro l3 m3 ⟨n3,o3,rfl,w0,w1,b,s0,h1,h0⟩
   replace a0:=BF a0
   refine Bg _ w0 ?_
   refine Am ?_
   obtain ⟨R,b0,a0⟩:=bs a0
   refine Bi (λ S w'=>∃ (T:Unit) (a:Lab),Q2 S [(0,(.slice c d.length c0)),(1,(.int .i64 i)),(2,(.func (.func 71) #[] #[])),(6,(.int .i64 g.2))]/\Bm w h w' a/\Rw 2 w' a 43 (.slice c d.length c0) R) ?_ ?_
   ·
    refine Am (Ah (At rfl (At rfl ?_)))
    obtain ⟨p3,y0,b0⟩:=bs b0
    have U:=(BE y0)
    refine Fu (he:=y0) rfl rfl (Au rfl (o_z (Am (Ah (At rfl (At rfl (Eq rfl rfl (λ y=>?_) λ y=>?_)))))))
    ·
     replace b0:=ip b0 y
     refine o_z (Aj rfl (Ah (At rfl (At rfl (At rfl (At rfl (At rfl ?_)))))))
     obtain ⟨q3,b2,b0⟩:=bs b0
     refine Cg (O:=w1) (Db s0 h1 U k b2) rfl λ r3 s3 t3 V W=>?_
     refine o_z ?_
     obtain rfl:=sm b0
     exact ⟨(),_,⟨rfl,rfl,rfl,rfl,trivial⟩,b.st V,W⟩
    replace b0:=im b0 y
    refine o_z (Ae rfl (AN ?_))
    obtain rfl:=sm b0
    exact ⟨(),_,⟨rfl,rfl,rfl,rfl,trivial⟩,b,s0⟩
   rintro u3 v3 ⟨T,w3,z0,b,e2⟩
   refine Bg _ z0 ?_
   refine Ah (At rfl ?_)
   obtain ⟨x3,a1,a0⟩:=bs a0
   have Y:=(BE a1)
   refine Nj (he:=a1) rfl rfl rfl (Au rfl (o_z ?_))
   obtain rfl:=sm a0
   exact show Exists _ from ⟨_,(),rfl,⟨rfl,rfl,rfl,rfl,trivial⟩,_,b,e2,Y⟩
  replace a0:=im a0 x
  refine o_z (Ae rfl (Cq ?_))
  obtain rfl:=sm a0
  exact show Exists _ from ⟨_,(),k0 _ rfl,⟨rfl,trivial⟩,_,b,f1,i2⟩
 replace b:=b.st z
 rintro y3 z3 ⟨a4,b4,rfl,k2,c4,b,f1,i2⟩
 replace hm:=BF hm
 obtain rfl:=sm hm
 obtain ⟨a,hS',hz,hl⟩:=hE.leave (λ q=>if q=2 then m else 0) rfl b
 exact W3 rfl  ⟨a,hS',(Rw.leave f1 hz (hl 2 (by decide) (by decide)) n.2.2)⟩
noncomputable def Bo (a:List Opr):Option (List Opr) :=
  bnd (BO a (a.length:Int)) λ b=>some b
theorem DZ {w:World} {O:Lab} {f:Option Addr} {b c0 c:Nat} {g:List Opr} (d:Rw c w O 43 (.slice f b c0) g) {r:(List Opr)} (hm:Bo g=some r) :
    Fn prog 70 [(.slice f b c0),(.func (.func 71) #[] #[])] w λ v w'=>∃ e,St (eT c) w O w' e/\Rw c w' e 43 (.slice f b c0) r:=by
 obtain ⟨h,hE,b0,d0⟩:=V0 (w:=w) (O:=O) d.2.2
 obtain rfl:b=g.length:=d.len.1
 have a:=Rw.leave d b0 d0 (j:=2) (by decide)
 have i:Bm w h w h:=Bm.refl
 refine AK func70 rfl ntmps70 ?_
 unfold Bo at hm
 refine Ah (At rfl (At rfl (AU rfl ?_)))
 have k:=Cv a.len
 have l:=rngNat k
 refine ad ?_
 obtain ⟨o,e6,hm⟩:=bs hm
 refine Cg (O:=h) (EC a l e6) rfl λ p s t m n=>?_
 refine o_z ?_
 obtain rfl:=sm hm
 replace i:=i.st m
 obtain ⟨e,hS',hz,hl⟩:=hE.leave (λ q=>if q=2 then c else 0) rfl i
 exact W3 rfl  ⟨e,hS',(Rw.leave n hz (hl 2 (by decide) (by decide)) d.2.2)⟩
end
section
open Go Go.RowKit
def TabF (w : World) (F : Nat → Prop) : Prop := ∀ w', Agree F w w' → Lib.TabIs prog w' "internal/strconv.uint64pow10" .u64 Lib.pow10Tab
theorem TabF.mono {w:World} {F a:Nat->Prop} (c:TabF w F) (hf:∀ k,F k->a k):TabF w a:=λ w' b=>c w' λ k hk=>b k (hf k hk)
theorem TabF.bm {w w':World} {O b:Lab} (f:TabF w (Fr 0 w O)) (c:Bm w O w' b):TabF w' (Fr 0 w' b):=λ a d=>f a λ k hk=>by
  obtain ⟨e,h2⟩:=c.same k hk.1 (by rw [hk.2];omega)
  rw [d k ⟨H3 hk.1 c.size,h2.trans hk.2⟩,e]
theorem TabF.bs {w w':World} {A:Nat->Prop} {a:Lab} (hA:∀ k,A k->k < w.heap.size) (g:TabF w A) (b:Bs w A w' a):TabF w' (Fr 0 w' a):=λ c d=>g c λ k hk=>by
  have f:a k=0:=by
    rcases b.lab k (hA k hk) with ⟨_,e⟩|⟨e,_⟩
    . exact e
    . exact absurd hk e
  rw [d k ⟨H3 (hA k hk) b.ext.size,f⟩,b.ext.block k (hA k hk)]
def S5 (x:Int):ByteArray:=⟨(Lib.itoa x).toArray⟩
def Bq (a:Int):Option ByteArray:=some (S5 a)
theorem Iy {x:Int} (a:P9 x):(S5 x).size<=21:=by
  have:=Lib.itoa_length_le x a.1 a.2
  simpa [S5,ByteArray.size] using this
theorem Fg {w:World} {A:Nat->Prop} (hA:∀ k,A k->k < w.heap.size) {b:Int} (a:P9 b) (f:TabF w A) {r:ByteArray} (hm:Bq b=some r) :
    Fn prog 75 [.int .i64 b] w λ v w'=>Ext w w'/\Vb w' (upA A w w') v r:=by
  injection hm with hm
  subst hm
  intro d
  have c : Lib.TabIs prog (dr w d) "internal/strconv.uint64pow10" .u64 Lib.pow10Tab := f (dr w d) fun _ _ => rfl
  refine (strconv_Itoa b a.1 a.2 (dr w d) c).mono λ e w' ⟨he,k,os,hw⟩=>?_
  subst hw
  refine ⟨_,Go.Sort.grow w os,d + k,he,rfl,⟨rfl,rfl,rfl,by simp [Go.Sort.grow],λ q g=>?_⟩,vStr (N6 (Iy a) (by decide))⟩
  show (w.heap ++ os)[q]?=w.heap[q]?
  rw [B2 g]
attribute [local irreducible] ewp owp hwp hwq hws Ev Evg Fn Q4 R7 R2 Q9
attribute [local irreducible] hwx U0
instance:TKey prog 9 ByteArray:=⟨underlying9⟩
instance:TMap prog 148 9 149:=⟨underlying148⟩
instance:TMap prog 149 45 3:=⟨underlying149⟩
noncomputable def AP (b:ByteArray) (g:Fct) (d:BxM) (h:BxR 96 9 ByteArray):Option (BxM×(BxR 96 9 ByteArray)) :=
  bnd (if (!mhas d.l.l b)=true then (bnd (R8 16 h.l [b]) λ e=>some ((⟨(⟨R3 d.l.l b []⟩:MapM)⟩:BxM),(⟨e⟩:BxR 96 9 ByteArray))) else (some (d,h)):Option (BxM×(BxR 96 9 ByteArray))) λ a=>bnd (R5 a.1.l.l b) λ c=>bnd (Q1 ((fget 0 c g) + 1)) λ f=>some ((⟨(⟨R3 a.1.l.l b (fput c g f)⟩:MapM)⟩:BxM),a.2)
theorem ER {w:World} {O:Lab} {x0:ByteArray} (zx0:x0.size<=9223372036854775807) {vx1:Value} {x1:Fct} (j1:Vb w (Fr 0 w O) vx1 x1) {p2 i0:Nat} {x2:BxM} (e0:Ob i0 w O (.pointer (some ⟨p2,0,none⟩)) x2) {p3 i1:Nat} {x3:BxR 96 9 ByteArray} (b0:Ob i1 w O (.pointer (some ⟨p3,0,none⟩)) x3)  {r:BxM×(BxR 96 9 ByteArray)} (hm:AP x0 x1 x2 x3=some r) (hne:i0≠i1:=by decide) :
    Fn prog 74 [(.string x0),vx1,(.pointer (some ⟨p2,0,none⟩)),(.pointer (some ⟨p3,0,none⟩))] w λ v w'=>∃ O',St (λ j=>j=i0\/j=i1) w O w' O'/\Ob i0 w' O' (.pointer (some ⟨p2,0,none⟩)) r.1/\Ob i1 w' O' (.pointer (some ⟨p3,0,none⟩)) r.2:=by
 obtain ⟨O0,hE,k1,k2,l2⟩:=AbQ (w:=w) (O:=O) hne e0.2 b0.2
 have e0':=Ob.leave e0 k1 k2 (j:=2) (by decide)
 have b0':=Ob.leave b0 k1 l2 (j:=3) (by decide)
 have hB:Bm w O0 w O0:=Bm.refl
 replace j1:=j1.mono k1
 obtain ⟨v3,rfl,rfl,r4,r5⟩:=id j1
 refine AK func74 rfl ntmps74 ?_
 unfold AP at hm
 refine Am (Ah (Ft 4 O0 rfl λ g6 w7 O8 S9 n0=>?_))
 refine o_z (Am ?_)
 obtain ⟨c1,a0,hm⟩:=bs hm
 refine Bi (λ l' w'=>∃ (m2:Unit) (O':Lab),Q2 l' [(0,(.string x0)),(2,(.pointer (some ⟨p2,0,none⟩))),(5,(.pointer (some ⟨g6,0,none⟩)))]/\Bm w O0 w' O'/\Ob 2 w' O' (.pointer (some ⟨p2,0,none⟩)) c1.1/\Lc 4 w' O' g6 45 [(.int .i64 x1.var),(.int .i64 x1.val)]/\Ob 3 w' O' (.pointer (some ⟨p3,0,none⟩)) c1.2) ?_ ?_
 ·
  refine Am (Ah ?_)
  replace e0':=e0'.st S9
  obtain ⟨n2,w3,r0,o2,o0,p0⟩:=BxM.opn e0' 2 5 (by decide)
  obtain ⟨y3,rfl⟩:=p0.mptr
  refine AQ (hc:=Blk.cell (i:=0) (o0.1) rfl) rfl (At rfl ?_)
  obtain ⟨z3,l1,m1⟩:=MapM.get p0 x0
  refine Zt x0 l1 rfl rfl rfl (Zw m1 rfl rfl (o_z (BP rfl (λ n1=>?_) (λ n1=>?_))))
  ·
   replace a0:=ip a0 n1
   refine Am (Ah (AQ (hc:=Blk.cell (i:=0) (o0.1) rfl) rfl (At rfl ?_)))
   refine PX (V:=Int) 6 n2 rfl λ a4 b4 c4 s0 q2=>?_
   replace p0:=p0.st s0
   refine WN p0 q2 (by decide) rfl rfl rfl λ d4 e4 d1 o1=>?_
   refine o_z (Ah ?_)
   replace b0':=(((b0'.st S9).st r0).st s0).st d1
   obtain ⟨f4,g4,e1,r2,f0,c2⟩:=BxR.opn b0' 3 7 (by decide)
   obtain ⟨h4,i4,rfl⟩:=c2.form
   refine AQ (hc:=Blk.cell (i:=0) (f0.1) rfl) rfl (At rfl ?_)
   obtain ⟨s2,p1,a0⟩:=bs a0
   obtain ⟨p1,t2,u2⟩:=Bt p1
   refine FE rfl (a:=x0) c2 (vStr zx0) (λ _=>rfl) rfl t2 u2 ⟨rfl,rfl⟩ λ j4 k4 l4 m4 n4 t0 f1=>?_
   rw [<- p1] at f1 ⊢
   replace f0:=f0.st t0
   refine AT f0 rfl rfl rfl (Bf) (allOne) λ o4 u0 f0=>?_
   refine o_z ?_
   replace o0:=((((o0.st s0).st d1).st e1).st t0).st u0
   replace o1:=((o1.st e1).st t0).st u0
   obtain ⟨p4,g1,v2,w2,y2⟩:=BxM.shut (x:=(⟨(⟨R3 x2.l.l x0 []⟩:MapM)⟩:BxM)) (l0:=2) (by decide) o0 o1
   replace f0:=f0.st g1
   replace f1:=(f1.st u0).st g1
   obtain ⟨q4,q1,z2,a3,b3⟩:=BxR.shut (x:=(⟨s2⟩:BxR 96 9 ByteArray)) (l0:=3) (by decide) f0 f1
   obtain rfl:=sm a0
   exact ⟨(),_,⟨rfl,rfl,rfl,trivial⟩,((((((((hB.st S9).st r0).st s0).st d1).st e1).st t0).st u0).st g1).st q1,y2.st q1,(((((((n0.st r0).st s0).st d1).st e1).st t0).st u0).st g1).st q1,b3⟩
  replace a0:=im' a0 n1
  refine AN ?_
  obtain ⟨s4,d2,c3,d3,e3⟩:=BxM.shut (x:=x2) (l0:=2) (by decide) o0 p0
  obtain rfl:=sm a0
  have g0:=(S9.an r0).an d2
  exact ⟨(),_,⟨rfl,rfl,rfl,trivial⟩,hB.st g0,e3,(n0.st r0).st d2,b0'.st g0⟩
 replace hB:=hB.st S9
 rintro t4 u4 ⟨m2,v4,r1,hB,f3,n0,q0⟩
 refine Bg _ r1 ?_
 obtain ⟨g3,w4,v0,h3,h0,w0⟩:=BxM.opn f3 2 5 (by decide)
 obtain ⟨x4,rfl⟩:=w0.mptr
 obtain ⟨e2,s1,hm⟩:=bs hm
 obtain ⟨f2,h1,hm⟩:=bs hm
 refine Bl [(6,[5])] g3 ?_
 refine AH (fuel:=5) [] (AX [0,1,2,3]) rfl (AZ (hc:=Bn h0 0 rfl) rfl rfl (AJ rfl rfl ?_))
 obtain ⟨y4,j0,t1⟩:=MapM.get w0 x0
 refine Yl x0 (λ w' ⟨O',hq⟩=>j0.keep (hq.agree (i:=5) (by decide) _ (MapM.at w0))) rfl rfl rfl rfl ?_
 obtain ⟨z4,rfl,i3,hI95⟩:=InnV.some t1 s1
 replace n0:=n0.st v0
 refine Dm (hl:=rfl) (hb:=Gl n0) rfl rfl (AC ?_)
 refine DQ (i:=4) (j:=6) rfl rfl ?_ ?_
 ·
  obtain ⟨u1,a5⟩:=IM.get hI95 x1
  refine SJ x1 u1 rfl rfl rfl ?_
  refine AV [(6,[5])] (lZ (St.refl nT _ _)) ?_
  refine AH (fuel:=3) [5] [(5,true)] rfl ?_
  have j3:=(BE h1)
  refine LK (he:=h1) rfl rfl rfl rfl (AC (AF (i:=6) rfl ?_))
  refine TH (a:=x0) (k:=x1) w0 j0 s1 rfl rfl rfl λ b5 k3 l3 c0 v1=>?_
  have hZ:=c0.lst [5] (λ _ h=>by cases h;decide)
  refine AV [] hZ ?_
  refine AH (fuel:=1) [] [(7,true)] rfl (IL rfl rfl rfl (AC (AF (i:=8) rfl ?_)))
  refine Ww v1 rfl rfl rfl j3 λ m3 k0 w1=>?_
  refine Bz (Ba ?_)
  replace h0:=(h0.st c0).st k0
  obtain ⟨n3,y0,g2,h2,y1⟩:=BxM.shut (x:=(⟨(⟨R3 c1.1.l.l x0 (fput e2 x1 f2)⟩:MapM)⟩:BxM)) (l0:=2) (by decide) h0 w1
  obtain rfl:=sm hm
  replace hB:=(((hB.st v0).st c0).st k0).st y0
  obtain ⟨O',hS',hz,hl⟩:=hE.leave (λ q=>if q=2 then i0 else if q=3 then i1 else 0) rfl hB
  replace q0:=(((q0.st v0).st c0).st k0).st y0
  exact W3 rfl  ⟨O',hS',(Ob.leave y1 hz (hl 2 (by decide) (by decide)) e0.2),(Ob.leave q0 hz (hl 3 (by decide) (by decide)) b0.2)⟩
 refine TH (a:=x0) (k:=x1) w0 j0 s1 rfl rfl rfl λ o3 q3 r3 d0 z0=>?_
 have hZ:=d0.lst [5] (λ _ h=>by cases h;decide)
 refine AV [] hZ ?_
 refine AH (fuel:=3) [] [(7,true)] rfl (IL rfl rfl rfl (AC (AF (i:=4) rfl ?_)))
 obtain ⟨_,a1,s3⟩:=MapE.get z0
 refine SJ x1 a1 rfl rfl rfl ?_
 refine AV [] (lZ (St.refl nT _ _)) ?_
 refine AH (fuel:=1) [] [(5,true)] rfl ?_
 have z1:=(BE h1)
 refine LK (he:=h1) rfl rfl rfl rfl (AC (AF (i:=8) rfl ?_))
 refine Ww z0 rfl rfl rfl z1 λ t3 m0 a2=>?_
 refine Bz (Ba ?_)
 replace h0:=(h0.st d0).st m0
 obtain ⟨u3,b1,i2,j2,b2⟩:=BxM.shut (x:=(⟨(⟨R3 c1.1.l.l x0 (fput e2 x1 f2)⟩:MapM)⟩:BxM)) (l0:=2) (by decide) h0 a2
 obtain rfl:=sm hm
 replace hB:=(((hB.st v0).st d0).st m0).st b1
 obtain ⟨O',hS',hz,hl⟩:=hE.leave (λ q=>if q=2 then i0 else if q=3 then i1 else 0) rfl hB
 replace q0:=(((q0.st v0).st d0).st m0).st b1
 exact W3 rfl  ⟨O',hS',(Ob.leave b2 hz (hl 2 (by decide) (by decide)) e0.2),(Ob.leave q0 hz (hl 3 (by decide) (by decide)) b0.2)⟩
noncomputable def CT (x0:Fnd):Option Fnd :=
  bnd (DD x0.t.ops) λ z=>bnd (Bo z) λ Z=>bnd (rng (ρ:=Fnd) (λ (A:Nat) (a0:Opr) (k:BxM×(BxR 96 9 ByteArray))=>bnd (Z[A]?) λ a=>bnd (Bq a.cost) λ B=>bnd (R9 B (⟨#[32]⟩:ByteArray)) λ C=>bnd (Bq (a.pre.length:Int)) λ D=>bnd (R9 C D) λ E=>bnd (R9 E (⟨#[32]⟩:ByteArray)) λ F=>bnd (Bq (a.effs.length:Int)) λ G=>bnd (R9 F G) λ b=>bnd (rng (ρ:=Ctl (BxM×(BxR 96 9 ByteArray)) Fnd) (λ (b0:Nat) (H:Fct) (m:BxM×(BxR 96 9 ByteArray))=>bnd (R9 b (⟨#[32,112,114,101]⟩:ByteArray)) λ I=>bnd (AP I H m.1 m.2) λ n=>some (.next (n.1,n.2))) a.pre 0 (k.1,k.2)) λ e=>fin e λ (o:BxM×(BxR 96 9 ByteArray))=>bnd (rng (ρ:=Ctl (BxM×(BxR 96 9 ByteArray)) Fnd) (λ (p:Nat) (c:Eff) (q:BxM×(BxR 96 9 ByteArray))=>bnd (R9 b (⟨#[32,101,102,102,32]⟩:ByteArray)) λ J=>bnd (Bq (p:Int)) λ K=>bnd (R9 J K) λ L=>bnd (AP L (⟨c.var,c.val⟩:Fct) q.1 q.2) λ r=>bnd (rng (ρ:=Ctl (BxM×(BxR 96 9 ByteArray)) (Ctl (BxM×(BxR 96 9 ByteArray)) Fnd)) (λ (c0:Nat) (M:Fct) (s:BxM×(BxR 96 9 ByteArray))=>bnd (R9 b (⟨#[32,119,104,101,110,32]⟩:ByteArray)) λ N=>bnd (Bq (p:Int)) λ O=>bnd (R9 N O) λ P=>bnd (AP P M s.1 s.2) λ u=>some (.next (u.1,u.2))) c.cond 0 (r.1,r.2)) λ f=>fin f λ (v:BxM×(BxR 96 9 ByteArray))=>some (.next (v.1,v.2))) a.effs 0 (o.1,o.2)) λ g=>fin g λ (w:BxM×(BxR 96 9 ByteArray))=>some (.next (w.1,w.2))) z 0 ((⟨(⟨[]⟩:MapM)⟩:BxM),(⟨([]:List ByteArray)⟩:BxR 96 9 ByteArray))) λ h=>fin h λ (d:BxM×(BxR 96 9 ByteArray))=>bnd (Gc d.2.l) λ Q=>bnd (rng (ρ:=Fnd) (λ (R:Nat) (d0:ByteArray) (x:Fnd)=>bnd (Q[R]?) λ S=>bnd (rng (ρ:=Ctl Fnd Fnd) (λ (e0:Nat) (y:Fct) (T:Fnd)=>bnd (R5 d.1.l.l S) λ U=>bnd (Bq (fget 0 U y)) λ V=>bnd (Ca T y V) λ W=>some (.next W)) x.list 0 x) λ i=>fin i λ (X:Fnd)=>some (.next X)) d.2.l 0 x0) λ j=>fin j λ (Y:Fnd)=>some Y
theorem Jb {w:World} {O:Lab} {p0 i0:Nat} {x0:Fnd} (c4:Ob i0 w O (.pointer (some ⟨p0,0,none⟩)) x0) (hT:TabF w (Fr 0 w O)) {r:Fnd} (hm:CT x0=some r) :
    Fn prog 35 [(.pointer (some ⟨p0,0,none⟩))] w λ v w'=>∃ O',St (eT i0) w O w' O'/\Ob i0 w' O' (.pointer (some ⟨p0,0,none⟩)) r:=by
 obtain ⟨O0,hE,nB,oC⟩:=V0 (w:=w) (O:=O) c4.2
 have c4':=Ob.leave c4 nB oC (j:=2) (by decide)
 have hB:Bm w O0 w O0:=Bm.refl
 have hT':=hT.mono nB
 refine AK func35 rfl ntmps35 ?_
 unfold CT at hm
 refine Am (Ah (At rfl (CV rfl ?_)))
 obtain ⟨O2,v6,nJ,oJ,pJ,qJ,rJ,sJ,tJ,uJ,vJ,wJ,S3,xJ,h4,h7,b7,c7,d4,d7,e7,f7,g7,i7,j7,k7,pC,qC⟩:=Fnd.opn c4' 2 3 4 5 6 7 (by decide)
 obtain ⟨A8,c9,rfl⟩:=h7.form
 obtain ⟨yJ,zJ,rfl⟩:=b7.form
 obtain ⟨aK,bK,rfl⟩:=c7.form
 obtain ⟨cK,dK,rfl⟩:=d4.form
 obtain ⟨eK,fK,rfl⟩:=d7.form
 obtain ⟨gK,hK,rfl⟩:=e7.form
 obtain ⟨iK,jK,rfl⟩:=f7.form
 obtain ⟨kK,lK,rfl⟩:=g7.form
 obtain ⟨mK,nK,rfl⟩:=i7.form
 obtain ⟨oK,pK,rfl⟩:=j7.form
 obtain ⟨qK,rK,rfl⟩:=k7.form
 refine AO rfl (AO rfl (AQ (hc:=Blk.cell (i:=3) (h4.1) rfl) rfl ?_))
 obtain ⟨o1,rC,hm⟩:=bs hm
 refine FF 8 (O:=O2) (HD Fr.lt d4 rC) rfl rfl λ y2 z2 sK sC oB tC=>?_
 refine Au rfl (o_z (Am (Ah (At rfl ?_))))
 obtain ⟨l7,uC,hm⟩:=bs hm
 refine Cg (O:=sC) (DZ tC uC) rfl λ tK uK vC pB m0=>?_
 refine o_z (Am (Ah ?_))
 refine Va 9 (by decide) vC rfl λ vK wK wC a8 b8=>?_
 refine BL 10 wC λ c1 xK xC m7 e4=>?_
 refine AT e4 rfl rfl rfl (Bf) (allOne) λ yK n7 e4=>?_
 refine o_z (Am (Ah ?_))
 refine BL 11 xC λ p1 yC zK f4 c8=>?_
 refine o_z (Am (Ah (Zn rfl rfl rfl (Au rfl (o_z (Am (Am (Ah (At rfl (AU rfl ?_))))))))))
 replace m0:=(((m0.st a8).st m7).st n7).st f4
 have d8:=Cv m0.len
 have aL:=rngNat d8
 refine At rfl (o_z ?_)
 have e0:=((((oB.an pB).an a8).an m7).an n7).an f4
 replace h4:=h4.st e0
 replace h7:=h7.st e0
 replace b7:=b7.st e0
 replace c7:=c7.st e0
 replace d4:=d4.st e0
 replace d7:=d7.st e0
 replace e7:=e7.st e0
 replace f7:=f7.st e0
 replace g7:=g7.st e0
 replace i7:=i7.st e0
 replace j7:=j7.st e0
 replace k7:=k7.st e0
 obtain ⟨bL,g4,zC,aD,n0⟩:=Fnd.shut (x:=x0) (l0:=2) (by decide) h4 h7 b7 c7 d4 d7 e7 f7 g7 i7 j7 k7 pC qC
 replace b8:=(((b8.st m7).st n7).st f4).st g4
 replace e4:=(e4.st f4).st g4
 obtain ⟨bD,j2,qB,rB,e3⟩:=BxM.shut (x:=(⟨(⟨[]⟩:MapM)⟩:BxM)) (l0:=10) (by decide) e4 b8
 have e8:Rw 12 yC bD 9 (.slice none 0 0) ([]:List ByteArray):=Rw.nil 12 (by decide)
 replace c8:=(c8.st g4).st j2
 obtain ⟨f8,k2,sB,tB,g8⟩:=BxR.shut (x:=(⟨([]:List ByteArray)⟩:BxR 96 9 ByteArray)) (l0:=11) (by decide) c8 e8
 obtain ⟨h8,i4,hm⟩:=bs hm
 replace hB:=(((((((((hB.st S3).st oB).st pB).st a8).st m7).st n7).st f4).st g4).st j2).st k2
 replace m0:=((m0.st g4).st j2).st k2
 replace n0:=(n0.st j2).st k2
 replace e3:=e3.st k2
 refine EB (X:=Unit) (o1.length) i4 rfl d8 (λ l2 j4=>[(0,(.pointer (some ⟨p0,0,none⟩))),(3,(.pointer (some ⟨c1,0,none⟩))),(4,(.pointer (some ⟨p1,0,none⟩))),(5,(.func (.func 74) #[] #[(.pointer (some ⟨c1,0,none⟩)),(.pointer (some ⟨p1,0,none⟩))])),(29,(.slice y2 o1.length z2))]) (λ l2 j4 w'=>∃ O':Lab,Bm w O0 w' O'/\Ob 2 w' O' (.pointer (some ⟨p0,0,none⟩)) x0/\Ob 10 w' O' (.pointer (some ⟨c1,0,none⟩)) l2.1/\Ob 11 w' O' (.pointer (some ⟨p1,0,none⟩)) l2.2/\Rw 8 w' O' 43 (.slice y2 o1.length z2) l7) () ⟨f8,hB,n0,e3,g8,m0⟩ ⟨rfl,rfl,rfl,rfl,rfl,rfl,rfl,trivial⟩ (λ _ _=>rfl) ?_ ?_
 ·
  rintro f3 cD l2 j4 dD uB k4 ⟨i8,hB,n0,f0,q1,m0⟩ a0 o7 p7
  have rk115:=U9 k4 d8
  refine Am (Ah ?_)
  obtain ⟨g0,j8,a0⟩:=bs a0
  obtain ⟨eD,fD,vB,l4,m4,n4,gD,hD,rfl,o0,c0,k8,iD⟩:=m0.elem j8
  obtain ⟨g3,h3,rfl⟩:=o0.form
  obtain ⟨h1,i1,rfl⟩:=c0.form
  refine CZ (hA:=l4) (hj:=rfl) (hlt:=m4) rfl rfl (BH (hl:=rfl) (hc:=n4) rfl ?_)
  refine BL 13 i8 λ o4 jD p4 m2 k0=>?_
  refine AT k0 rfl rfl rfl (Bf) (allOne) λ kD n2 k0=>?_
  refine o_z (Am ?_)
  refine Bl [] p4 ?_
  refine AH (fuel:=8) [] (AX [0,1,4,5,6,10,11,12]) rfl (AL rfl rfl (AZ (hc:=Bn k0 1 rfl) rfl rfl (AL rfl rfl (AZ (hc:=Bn k0 2 rfl) rfl rfl (Hu rfl rfl ?_)))))
  replace o0:=(o0.st m2).st n2
  have l8:=Cv o0.len
  have m8:=rngNat l8
  refine AL rfl rfl (AZ (hc:=Bn k0 3 rfl) rfl rfl (Hu rfl rfl ?_))
  replace c0:=(c0.st m2).st n2
  have n8:=Cv c0.len
  have o8:=rngNat n8
  refine AC (AF (i:=2) rfl ?_)
  obtain ⟨lD,p8,a0⟩:=bs a0
  replace hB:=(hB.st m2).st n2
  refine Du (O:=p4) (Fg (λ _ h=>h) k8 (TabF.mono (TabF.bm hT' hB) Fr.lt) p8) rfl λ mD nD q8 j1 r8=>?_
  obtain ⟨rfl,oD⟩:=r8.str
  have hZ:=lZ j1
  refine AV [] hZ ?_
  refine AH (fuel:=6) [] [(3,true)] rfl ?_
  obtain ⟨pD,s8,a0⟩:=bs a0
  refine HV (he:=s8) rfl rfl rfl (AC (AF (i:=7) rfl ?_))
  obtain ⟨qD,t8,a0⟩:=bs a0
  replace hB:=hB.st j1
  refine Du (O:=q8) (Fg (λ _ h=>h) m8 (TabF.mono (TabF.bm hT' hB) Fr.lt) t8) rfl λ rD sD u8 k1 v8=>?_
  obtain ⟨rfl,tD⟩:=v8.str
  have hZ:=lZ k1
  refine AV [] hZ ?_
  refine AH (fuel:=3) [] (AX [8,9]) rfl ?_
  obtain ⟨uD,w8,a0⟩:=bs a0
  refine HV (he:=w8) rfl rfl rfl ?_
  obtain ⟨vD,x8,a0⟩:=bs a0
  refine HV (he:=x8) rfl rfl rfl (AC (AF (i:=13) rfl ?_))
  obtain ⟨wD,y8,a0⟩:=bs a0
  replace hB:=hB.st k1
  refine Du (O:=u8) (Fg (λ _ h=>h) o8 (TabF.mono (TabF.bm hT' hB) Fr.lt) y8) rfl λ xD yD z8 l1 a9=>?_
  obtain ⟨rfl,zD⟩:=a9.str
  have hZ:=lZ l1
  refine AV [] hZ ?_
  refine AH (fuel:=0) [] (AX [14,15]) rfl ?_
  obtain ⟨i3,b9,a0⟩:=bs a0
  refine HV (he:=b9) rfl rfl rfl (Ei rfl rfl (AC (Ba (Am (Am (Ah (AO rfl ?_)))))))
  replace k0:=((k0.st j1).st k1).st l1
  refine AQ (hc:=Blk.cell (i:=2) (k0.1) rfl) rfl (AU rfl ?_)
  replace o0:=((o0.st j1).st k1).st l1
  have j3:=Cv o0.len
  have aE:=rngNat j3
  refine At rfl (o_z ?_)
  obtain ⟨d9,q4,a0⟩:=bs a0
  have f1:=(((m2.an n2).an j1).an k1).an l1
  replace hB:=hB.st l1
  replace m0:=m0.st f1
  replace n0:=n0.st f1
  replace f0:=f0.st f1
  replace q1:=q1.st f1
  replace c0:=((c0.st j1).st k1).st l1
  refine EB (X:=Unit) (g0.pre.length) q4 rfl j3 (λ o2 r4=>[(0,(.pointer (some ⟨p0,0,none⟩))),(3,(.pointer (some ⟨c1,0,none⟩))),(4,(.pointer (some ⟨p1,0,none⟩))),(5,(.func (.func 74) #[] #[(.pointer (some ⟨c1,0,none⟩)),(.pointer (some ⟨p1,0,none⟩))])),(7,(.pointer (some ⟨o4,0,none⟩))),(8,(.string i3)),(29,(.slice y2 o1.length z2)),(30,(.int .i64 (o1.length:Int))),(31,(.int .i64 (f3:Int))),(51,(.slice g3 g0.pre.length h3))]) (λ o2 r4 w'=>∃ O':Lab,Bm w O0 w' O'/\Ob 2 w' O' (.pointer (some ⟨p0,0,none⟩)) x0/\Ob 10 w' O' (.pointer (some ⟨c1,0,none⟩)) o2.1/\Ob 11 w' O' (.pointer (some ⟨p1,0,none⟩)) o2.2/\Lc 13 w' O' o4 43 [(.string g0.name),(.int .i64 g0.cost),(.slice g3 g0.pre.length h3),(.slice h1 g0.effs.length i1)]/\Vb w' (Fr 0 w' O') (.slice g3 g0.pre.length h3) g0.pre/\Vb w' (Fr 0 w' O') (.slice h1 g0.effs.length i1) g0.effs/\Rw 8 w' O' 43 (.slice y2 o1.length z2) l7) () ⟨z8,hB,n0,f0,q1,k0,o0,c0,m0⟩ ⟨rfl,rfl,rfl,rfl,rfl,rfl,rfl,rfl,rfl,rfl,rfl,rfl,trivial⟩ (λ _ _=>rfl) ?_ ?_
  ·
   rintro bE k3 o2 r4 cE wB a3 ⟨e9,hB,n0,r1,s1,k0,o0,c0,m0⟩ y0 q7 r7
   have rk198:=U9 a3 j3
   refine Am (Ah ?_)
   obtain ⟨dE,eE,xB,s4,t4,u4,rfl,f9,g9⟩:=o0.elem' a3
   refine CZ (hA:=s4) (hj:=rfl) (hlt:=t4) rfl rfl (BH (hl:=rfl) (hc:=u4) rfl ?_)
   refine BL 14 e9 λ fE gE h9 l3 m3=>?_
   refine AT m3 rfl rfl rfl (Bf) (allOne) λ iE n3 m3=>?_
   refine o_z (Ah (At rfl (At rfl ?_)))
   obtain ⟨jE,v4,y0⟩:=bs y0
   refine Zd (he:=v4) rfl rfl rfl (BH (hl:=rfl) (hc:=(m3.1).cellsAt) rfl ?_)
   obtain ⟨kE,i9,y0⟩:=bs y0
   replace r1:=(r1.st l3).st n3
   replace s1:=(s1.st l3).st n3
   refine Mu (O:=h9) (ER (LM v4) (Vb.ofAgg (cs:=[(.int .i64 k3.var),(.int .i64 k3.val)]) (x:=k3) rfl ⟨rfl,f9,g9⟩) r1 s1 i9) rfl rfl rfl rfl λ lE mE nE j9 k9=>?_
   obtain ⟨l9,m9⟩:=k9
   refine o_z ?_
   obtain rfl:=sm y0
   have u0:=(l3.an n3).an j9
   exact show Exists _ from ⟨_,(),rfl,⟨rfl,rfl,rfl,rfl,rfl,rfl,rfl,rfl,rfl,rfl,rfl,rfl,trivial⟩,_,hB.st u0,n0.st u0,l9,m9,k0.st u0,o0.st u0,c0.st u0,m0.st u0⟩
  rintro oE pE ⟨qE,rE,rfl,w4,n9,hB,n0,r1,s1,k0,o0,c0,m0⟩
  replace a0:=BF a0
  refine Bg _ w4 ?_
  refine Am (Ah (AO rfl (AQ (hc:=Blk.cell (i:=3) (k0.1) rfl) rfl (AU rfl ?_))))
  have o3:=Cv c0.len
  have sE:=rngNat o3
  refine At rfl (o_z ?_)
  obtain ⟨o9,x4,a0⟩:=bs a0
  refine EB (X:=Unit) (g0.effs.length) x4 rfl o3 (λ p2 y4=>[(0,(.pointer (some ⟨p0,0,none⟩))),(3,(.pointer (some ⟨c1,0,none⟩))),(4,(.pointer (some ⟨p1,0,none⟩))),(5,(.func (.func 74) #[] #[(.pointer (some ⟨c1,0,none⟩)),(.pointer (some ⟨p1,0,none⟩))])),(8,(.string i3)),(29,(.slice y2 o1.length z2)),(30,(.int .i64 (o1.length:Int))),(31,(.int .i64 (f3:Int))),(64,(.slice h1 g0.effs.length i1))]) (λ p2 y4 w'=>∃ O':Lab,Bm w O0 w' O'/\Ob 2 w' O' (.pointer (some ⟨p0,0,none⟩)) x0/\Ob 10 w' O' (.pointer (some ⟨c1,0,none⟩)) p2.1/\Ob 11 w' O' (.pointer (some ⟨p1,0,none⟩)) p2.2/\Rw 8 w' O' 43 (.slice y2 o1.length z2) l7/\Vb w' (Fr 0 w' O') (.slice h1 g0.effs.length i1) g0.effs) () ⟨n9,hB,n0,r1,s1,m0,c0⟩ ⟨rfl,rfl,rfl,rfl,rfl,rfl,rfl,rfl,rfl,rfl,rfl,trivial⟩ (λ _ _=>rfl) ?_ ?_
  ·
   rintro z4 z0 p2 y4 tE yB b3 ⟨p9,hB,n0,t1,u1,m0,c0⟩ d0 s7 t7
   have rk252:=U9 b3 o3
   refine Am (Ah (At rfl ?_))
   obtain ⟨uE,vE,zB,a5,b5,c5,wE,rfl,v0,q9,r9⟩:=c0.elem' b3
   obtain ⟨d5,e5,rfl⟩:=v0.form
   refine CZ (hA:=a5) (hj:=rfl) (hlt:=b5) rfl rfl (BH (hl:=rfl) (hc:=c5) rfl ?_)
   refine BL 15 p9 λ xE yE f5 p3 d1=>?_
   refine Au rfl (AT d1 rfl rfl rfl (Bf) (allOne) λ zE q3 d1=>?_)
   refine o_z (Am ?_)
   refine Bl [] f5 ?_
   refine AH (fuel:=3) [] (AX [0,1,2,3,6,7,8,9,10]) rfl (AJ rfl rfl (AJ rfl rfl ?_))
   obtain ⟨aF,s9,d0⟩:=bs d0
   refine HV (he:=s9) rfl rfl rfl (AJ rfl rfl (AL rfl rfl (AZ (hc:=Bn d1 1 rfl) rfl rfl (AL rfl rfl (AZ (hc:=Bn d1 2 rfl) rfl rfl (Ew rfl rfl rfl ?_))))))
   refine AC (AF (i:=4) rfl ?_)
   obtain ⟨bF,t9,d0⟩:=bs d0
   replace hB:=(hB.st p3).st q3
   refine Du (O:=f5) (Fg (λ _ h=>h) rk252 (TabF.mono (TabF.bm hT' hB) Fr.lt) t9) rfl λ cF dF u9 v1 v9=>?_
   obtain ⟨rfl,eF⟩:=v9.str
   have hZ:=lZ v1
   refine AV [] hZ ?_
   refine AH (fuel:=1) [] [(5,true)] rfl ?_
   obtain ⟨fF,g5,d0⟩:=bs d0
   refine HV (he:=g5) rfl rfl rfl (AC (AF (i:=11) rfl ?_))
   obtain ⟨gF,w9,d0⟩:=bs d0
   have w1:=(p3.an q3).an v1
   replace t1:=t1.st w1
   replace u1:=u1.st w1
   refine Mu (O:=u9) (ER (LM g5) (Vb.ofAgg (cs:=[(.int .i64 z0.var),(.int .i64 z0.val)]) (x:=(⟨z0.var,z0.val⟩:Fct)) rfl ⟨rfl,q9,r9⟩) t1 u1 w9) rfl rfl rfl rfl λ hF iF x9 q2 y9=>?_
   obtain ⟨z9,aA⟩:=y9
   refine Bz (Ba (Am (Ah (AO rfl ?_))))
   replace d1:=(d1.st v1).st q2
   refine AQ (hc:=Blk.cell (i:=0) (d1.1) rfl) rfl (AU rfl ?_)
   replace v0:=(((v0.st p3).st q3).st v1).st q2
   have r3:=Cv v0.len
   have jF:=rngNat r3
   refine At rfl (o_z ?_)
   obtain ⟨bA,h5,d0⟩:=bs d0
   have x1:=w1.an q2
   replace hB:=(hB.st v1).st q2
   replace m0:=m0.st x1
   replace n0:=n0.st x1
   replace c0:=c0.st x1
   refine EB (X:=Unit) (z0.cond.length) h5 rfl r3 (λ r2 i5=>[(0,(.pointer (some ⟨p0,0,none⟩))),(3,(.pointer (some ⟨c1,0,none⟩))),(4,(.pointer (some ⟨p1,0,none⟩))),(5,(.func (.func 74) #[] #[(.pointer (some ⟨c1,0,none⟩)),(.pointer (some ⟨p1,0,none⟩))])),(8,(.string i3)),(11,(.int .i64 (z4:Int))),(29,(.slice y2 o1.length z2)),(30,(.int .i64 (o1.length:Int))),(31,(.int .i64 (f3:Int))),(64,(.slice h1 g0.effs.length i1)),(65,(.int .i64 (g0.effs.length:Int))),(66,(.int .i64 (z4:Int))),(84,(.slice d5 z0.cond.length e5))]) (λ r2 i5 w'=>∃ O':Lab,Bm w O0 w' O'/\Ob 2 w' O' (.pointer (some ⟨p0,0,none⟩)) x0/\Ob 10 w' O' (.pointer (some ⟨c1,0,none⟩)) r2.1/\Ob 11 w' O' (.pointer (some ⟨p1,0,none⟩)) r2.2/\Rw 8 w' O' 43 (.slice y2 o1.length z2) l7/\Vb w' (Fr 0 w' O') (.slice h1 g0.effs.length i1) g0.effs/\Vb w' (Fr 0 w' O') (.slice d5 z0.cond.length e5) z0.cond) () ⟨x9,hB,n0,z9,aA,m0,c0,v0⟩ ⟨rfl,rfl,rfl,rfl,rfl,rfl,rfl,rfl,rfl,rfl,rfl,rfl,rfl,rfl,rfl,trivial⟩ (λ _ _=>rfl) ?_ ?_
   ·
    rintro kF s3 r2 i5 lF aC c3 ⟨cA,hB,n0,y1,z1,m0,c0,v0⟩ j0 u7 v7
    have rk314:=U9 c3 r3
    refine Am (Ah ?_)
    obtain ⟨mF,nF,bC,j5,k5,l5,rfl,dA,eA⟩:=v0.elem' c3
    refine CZ (hA:=j5) (hj:=rfl) (hlt:=k5) rfl rfl (BH (hl:=rfl) (hc:=l5) rfl ?_)
    refine BL 16 cA λ oF pF m5 n5 t3=>?_
    refine AT t3 rfl rfl rfl (Bf) (allOne) λ qF o5 t3=>?_
    refine o_z ?_
    refine Bl [] m5 ?_
    refine AH (fuel:=3) [] (AX [0,1,2,3,6]) rfl (AJ rfl rfl (AJ rfl rfl ?_))
    obtain ⟨rF,fA,j0⟩:=bs j0
    refine HV (he:=fA) rfl rfl rfl (AJ rfl rfl (Dm (hl:=rfl) (hb:=Gl t3) rfl rfl (AC (AF (i:=4) rfl ?_))))
    obtain ⟨sF,gA,j0⟩:=bs j0
    replace hB:=(hB.st n5).st o5
    refine Du (O:=m5) (Fg (λ _ h=>h) rk252 (TabF.mono (TabF.bm hT' hB) Fr.lt) gA) rfl λ tF uF iA u3 jA=>?_
    obtain ⟨rfl,vF⟩:=jA.str
    have hZ:=lZ u3
    refine AV [] hZ ?_
    refine AH (fuel:=1) [] [(5,true)] rfl ?_
    obtain ⟨wF,p5,j0⟩:=bs j0
    refine HV (he:=p5) rfl rfl rfl (AC (AF (i:=7) rfl ?_))
    obtain ⟨xF,kA,j0⟩:=bs j0
    have a2:=(n5.an o5).an u3
    replace y1:=y1.st a2
    replace z1:=z1.st a2
    refine Mu (O:=iA) (ER (LM p5) (Vb.ofAgg (cs:=[(.int .i64 s3.var),(.int .i64 s3.val)]) (x:=s3) rfl ⟨rfl,dA,eA⟩) y1 z1 kA) rfl rfl rfl rfl λ yF zF aG q5 lA=>?_
    obtain ⟨mA,nA⟩:=lA
    refine Bz (Ba ?_)
    obtain rfl:=sm j0
    have g1:=a2.an q5
    exact show Exists _ from ⟨_,(),rfl,⟨rfl,rfl,rfl,rfl,rfl,rfl,rfl,rfl,rfl,rfl,rfl,rfl,rfl,rfl,rfl,trivial⟩,_,(hB.st u3).st q5,n0.st g1,mA,nA,m0.st g1,c0.st g1,v0.st g1⟩
   rintro bG cG ⟨dG,eG,rfl,h0,fG,hB,n0,y1,z1,m0,c0,v0⟩
   replace d0:=BF d0
   obtain rfl:=sm d0
   exact show Exists _ from ⟨_,(),rfl,⟨(BC h0 _ _ rfl),(BC h0 _ _ rfl),(BC h0 _ _ rfl),(BC h0 _ _ rfl),(BC h0 _ _ rfl),(BC h0 _ _ rfl),(BC h0 _ _ rfl),(BC h0 _ _ rfl),(BC h0 _ _ rfl),(BC h0 _ _ rfl),(BC h0 _ _ rfl),trivial⟩,_,hB,n0,y1,z1,m0,c0⟩
  rintro gG hG ⟨iG,jG,rfl,q0,kG,hB,n0,t1,u1,m0,c0⟩
  replace a0:=BF a0
  obtain rfl:=sm a0
  exact show Exists _ from ⟨_,(),rfl,⟨(BC q0 _ _ rfl),(BC q0 _ _ rfl),(BC q0 _ _ rfl),(BC q0 _ _ rfl),(BC q0 _ _ rfl),(BC q0 _ _ rfl),(BC q0 _ _ rfl),trivial⟩,_,hB,n0,t1,u1,m0⟩
 rintro lG mG ⟨w0,nG,rfl,r5,oG,hB,n0,f0,q1,m0⟩
 replace hm:=BF hm
 refine Bg _ r5 ?_
 refine Am (Ah ?_)
 obtain ⟨oA,pG,pA,cC,b2,s5⟩:=BxR.opn q1 11 17 (by decide)
 obtain ⟨s2,t2,rfl⟩:=s5.form
 refine AQ (hc:=Blk.cell (i:=0) (b2.1) rfl) rfl ?_
 obtain ⟨v3,qA,hm⟩:=bs hm
 refine Cg (O:=oA) (HK s5 qA) rfl λ qG rG sG t5 u2=>?_
 refine o_z (Am (Ah ?_))
 replace b2:=b2.st t5
 refine AQ (hc:=Blk.cell (i:=0) (b2.1) rfl) rfl (AU rfl ?_)
 have w3:=Cv u2.len
 have tG:=rngNat w3
 refine At rfl (o_z ?_)
 obtain ⟨rA,u5,v5,w5,uG⟩:=BxR.shut (x:=(⟨v3⟩:BxR 96 9 ByteArray)) (l0:=11) (by decide) (by have q:=b2;rw [<- u2.len.1.symm] at q;exact q) u2.relen
 have b0:=(u2.lend [17] (by decide)).shutS u5 v5 w5 [11] (by decide)
 obtain ⟨sA,x5,hm⟩:=bs hm
 have c2:=(pA.an t5).an u5
 replace hB:=hB.st c2
 replace n0:=n0.st c2
 replace f0:=f0.st c2
 refine EB (X:=Unit) (w0.2.l.length) x5 rfl w3 (λ a1 y5=>[(0,(.pointer (some ⟨p0,0,none⟩))),(3,(.pointer (some ⟨c1,0,none⟩))),(103,(.slice s2 w0.2.l.length t2))]) (λ a1 y5 w'=>∃ O':Lab,Bm w O0 w' O'/\Ob 2 w' O' (.pointer (some ⟨p0,0,none⟩)) a1/\Ob 10 w' O' (.pointer (some ⟨c1,0,none⟩)) w0.1/\Vb w' (FrS [11] w' O') (.slice s2 w0.2.l.length t2) v3) () ⟨rA,hB,n0,f0,b0⟩ ⟨rfl,rfl,rfl,rfl,rfl,trivial⟩ (λ _ _=>rfl) ?_ ?_
 ·
  rintro tA vG a1 y5 wG dC z5 ⟨xG,hB,x3,f0,b0⟩ r0 w7 x7
  have rk413:=U9 z5 w3
  refine Am (Ah ?_)
  obtain ⟨y3,uA,r0⟩:=bs r0
  obtain ⟨yG,zG,eC,a6,b6,c6,rfl,aH⟩:=b0.elem' uA
  refine CZ (hA:=a6) (hj:=rfl) (hlt:=b6) rfl rfl (AQ (hc:=cat0 c6) rfl (Au rfl (o_z (Am (Ah (At rfl (CV rfl ?_)))))))
  obtain ⟨bH,cH,dH,eH,fH,gH,hH,iH,jH,kH,lH,mH,z3,fC,d6,e6,f6,g6,h6,t0,i6,j6,k6,l6,m6,n6,vA,wA⟩:=Fnd.opn x3 2 3 4 5 6 7 (by decide)
  obtain ⟨nH,oH,rfl⟩:=e6.form
  obtain ⟨pH,qH,rfl⟩:=f6.form
  obtain ⟨rH,sH,rfl⟩:=g6.form
  obtain ⟨tH,uH,rfl⟩:=h6.form
  obtain ⟨o6,p6,rfl⟩:=t0.form
  obtain ⟨vH,wH,rfl⟩:=i6.form
  obtain ⟨xH,yH,rfl⟩:=j6.form
  obtain ⟨zH,aI,rfl⟩:=k6.form
  obtain ⟨bI,cI,rfl⟩:=l6.form
  obtain ⟨dI,eI,rfl⟩:=m6.form
  obtain ⟨fI,gI,rfl⟩:=n6.form
  replace b0:=b0.stS z3 (by decide) (by decide)
  refine AO rfl (AQ (hc:=Blk.cell (i:=4) (d6.1) rfl) rfl (AU rfl ?_))
  have a4:=Cv t0.len
  have hI:=rngNat a4
  refine At rfl (o_z ?_)
  obtain ⟨xA,v2,gC,hC,yA⟩:=Fnd.shut (x:=a1) (l0:=2) (by decide) d6 e6 f6 g6 h6 t0 i6 j6 k6 l6 m6 n6 vA wA
  replace b0:=b0.stS v2 (by decide) (by decide)
  obtain ⟨zA,q6,r0⟩:=bs r0
  replace hB:=(hB.st z3).st v2
  replace f0:=(f0.st z3).st v2
  replace t0:=t0.st v2
  refine EB (X:=Unit) (a1.list.length) q6 rfl a4 (λ b4 r6=>[(0,(.pointer (some ⟨p0,0,none⟩))),(3,(.pointer (some ⟨c1,0,none⟩))),(16,(.string y3)),(103,(.slice s2 w0.2.l.length t2)),(104,(.int .i64 (w0.2.l.length:Int))),(105,(.int .i64 (tA:Int))),(112,(.slice o6 a1.list.length p6))]) (λ b4 r6 w'=>∃ O':Lab,Bm w O0 w' O'/\Ob 2 w' O' (.pointer (some ⟨p0,0,none⟩)) b4/\Ob 10 w' O' (.pointer (some ⟨c1,0,none⟩)) w0.1/\Vb w' (FrS [11] w' O') (.slice s2 w0.2.l.length t2) v3/\Vb w' (Fr 0 w' O') (.slice o6 a1.list.length p6) a1.list) () ⟨xA,hB,yA,f0,b0,t0⟩ ⟨rfl,rfl,rfl,rfl,rfl,rfl,rfl,rfl,rfl,trivial⟩ (λ _ _=>rfl) ?_ ?_
  ·
   rintro iI d2 b4 r6 jI iC d3 ⟨aB,hB,e2,f0,b0,t0⟩ s0 y7 z7
   have rk502:=U9 d3 a4
   refine Am (Ah ?_)
   obtain ⟨kI,lI,jC,s6,t6,u6,rfl,bB,cB⟩:=t0.elem' d3
   refine CZ (hA:=s6) (hj:=rfl) (hlt:=t6) rfl rfl (BH (hl:=rfl) (hc:=u6) rfl ?_)
   refine BL 18 aB λ mI nI oI f2 m1=>?_
   replace b0:=b0.stS f2 id (λ _ _=>id)
   refine AT m1 rfl rfl rfl (Bf) (allOne) λ pI g2 m1=>?_
   replace b0:=b0.stS g2 (by decide) (by decide)
   refine o_z ?_
   replace f0:=(f0.st f2).st g2
   obtain ⟨w6,qI,h2,kC,w2,n1⟩:=BxM.opn f0 10 19 (by decide)
   obtain ⟨rI,rfl⟩:=n1.mptr
   replace b0:=b0.stS h2 (by decide) (by decide)
   refine Bl [] w6 ?_
   refine AH (fuel:=2) [] (AX (CR 0 7)) rfl (AJ rfl rfl ?_)
   replace m1:=m1.st h2
   refine Dm (hl:=rfl) (hb:=Gl m1) rfl rfl (AZ (hc:=Bn w2 0 rfl) rfl rfl (AJ rfl rfl ?_))
   obtain ⟨sI,x6,y6⟩:=MapM.get n1 y3
   refine Yl y3 (λ w' ⟨O',hq⟩=>x6.keep (hq.agree (i:=19) (by decide) _ (MapM.at n1))) rfl rfl rfl rfl ?_
   obtain ⟨tI,dB,s0⟩:=bs s0
   obtain ⟨uI,rfl,z6,hI545⟩:=InnV.some y6 dB
   refine Dm (hl:=rfl) (hb:=Gl m1) rfl rfl ?_
   obtain ⟨a7,eB⟩:=IM.get hI545 d2
   refine Ze d2 (λ w' ⟨O',hq⟩=>a7.keep (hq.agree (i:=19) (by decide) _ z6)) rfl rfl rfl rfl (AC (AF (i:=7) rfl ?_))
   obtain ⟨vI,fB,s0⟩:=bs s0
   replace hB:=((hB.st f2).st g2).st h2
   refine Du (O:=w6) (Fg (λ _ h=>h) eB (TabF.mono (TabF.bm hT' hB) Fr.lt) fB) rfl λ wI xI gB e1 iB=>?_
   obtain ⟨rfl,jB⟩:=iB.str
   have hZ:=lZ e1
   replace b0:=b0.stS e1 id (λ _ _=>id)
   refine AV [] hZ (AF (i:=8) rfl ?_)
   obtain ⟨yI,kB,s0⟩:=bs s0
   replace e2:=(((e2.st f2).st g2).st h2).st e1
   refine Cg (O:=gB) (GW e2 (Vb.ofAgg (cs:=[(.int .i64 d2.var),(.int .i64 d2.val)]) (x:=d2) rfl ⟨rfl,bB,cB⟩) jB kB) rfl λ zI aJ bJ i2 lB=>?_
   replace b0:=b0.stS i2 (by decide) (by decide)
   refine Bz (Ba ?_)
   replace w2:=(w2.st e1).st i2
   replace n1:=(n1.st e1).st i2
   obtain ⟨cJ,x2,lC,mC,mB⟩:=BxM.shut (x:=w0.1) (l0:=10) (by decide) w2 n1
   replace b0:=b0.stS x2 (by decide) (by decide)
   obtain rfl:=sm s0
   exact show Exists _ from ⟨_,(),rfl,⟨rfl,rfl,rfl,rfl,rfl,rfl,rfl,rfl,rfl,trivial⟩,_,((hB.st e1).st i2).st x2,lB.st x2,mB,b0,(((((t0.st f2).st g2).st h2).st e1).st i2).st x2⟩
  rintro dJ eJ ⟨fJ,gJ,rfl,b1,hJ,hB,e2,f0,b0,t0⟩
  replace r0:=BF r0
  obtain rfl:=sm r0
  exact show Exists _ from ⟨_,(),rfl,⟨(BC b1 _ _ rfl),(BC b1 _ _ rfl),(BC b1 _ _ rfl),(BC b1 _ _ rfl),(BC b1 _ _ rfl),trivial⟩,_,hB,e2,f0,b0⟩
 rintro iJ jJ ⟨kJ,lJ,rfl,nC,mJ,hB,x3,f0,b0⟩
 replace hm:=BF hm
 obtain rfl:=sm hm
 obtain ⟨O',hS',hz,hl⟩:=hE.leave (λ q=>if q=2 then i0 else 0) rfl hB
 exact W3 rfl  ⟨O',hS',(Ob.leave x3 hz (hl 2 (by decide) (by decide)) c4.2)⟩
noncomputable def Dp (g:Tsk) (D:Int):Option (Option Fnd) :=
  bnd (mkI 1 (false:Bool) (g.vars.length:Int)) λ w=>bnd (rng (ρ:=(Option Fnd)) (λ (x:Nat) (c:Int) (b:(List Fct)×(List (List ByteArray))×(List Int)×(List (List Int))×(List (List Bool)))=>bnd (mkI 16 ((⟨#[]⟩:ByteArray):ByteArray) c) λ y=>bnd (R8 24 b.2.1 ([y]:List (List ByteArray))) λ z=>bnd (mkI 1 (false:Bool) c) λ A=>bnd (R8 24 b.2.2.2.2 ([A]:List (List Bool))) λ B=>bnd (some (z,B):Option ((List (List ByteArray))×(List (List Bool)))) λ i=>bnd (R8 8 b.2.2.1 ([(-1)]:List Int)) λ j=>bnd (DJ ([(-1)]:List Int) c) λ k=>bnd (R8 24 b.2.2.2.1 ([k]:List (List Int))) λ l=>bnd (some (j,l):Option ((List Int)×(List (List Int)))) λ f=>bnd (Aab c) λ m=>bnd (ZA (ρ:=Ctl ((List Fct)×(List (List ByteArray))×(List Int)×(List (List Int))×(List (List Bool))) (Option Fnd)) (λ (n:Nat) (o:(List Fct))=>bnd (R8 16 o [(⟨(x:Int),(n:Int)⟩:Fct)]) λ p=>some (.next p)) m b.1) λ d=>fin d λ (q:(List Fct))=>some (.next (q,i.1,f.1,f.2,i.2))) g.vars 0 (([]:List Fct),([]:List (List ByteArray)),([]:List Int),([]:List (List Int)),([]:List (List Bool)))) λ h=>fin h λ (a:(List Fct)×(List (List ByteArray))×(List Int)×(List (List Int))×(List (List Bool)))=>bnd (rng (ρ:=(Option Fnd)) (λ (C:Nat) (r:Fct) (s:Fnd)=>bnd (Ca s r (⟨#[103,111,97,108]⟩:ByteArray)) λ t=>some (.next t)) g.goal 0 (⟨(⟨g.vars,g.init,g.goal,g.ops⟩:Tsk),a.1,a.2.1,(⟨a.2.2.1,a.2.2.2.1,([]:List Int)⟩:Swp),a.2.2.2.2,w,0,D,false⟩:Fnd)) λ e=>fin e λ (u:Fnd)=>bnd (CT u) λ v=>some (some v)
theorem Kj {w:World} {O:Lab} {ba:Value} {d:Tsk} (i9:Vb w (Fr 0 w O) ba d) {Q:Int} (da:P9 Q) (j0:Nat) (ea:j0≠0) (hT:TabF w (Fr 0 w O)) {r:(Option Fnd)} (hm:Dp d Q=some r) :
    Fn prog 15 [ba,(.int .i64 Q)] w λ v w'=>∃ e,St nT w O w' e/\Obo j0 w' e v r:=by
 obtain ⟨R,hE,tG⟩:=AbR (w:=w) (O:=O)
 have f:Bm w R w R:=Bm.refl
 have fa:=hT.mono tG
 replace i9:=i9.mono tG
 obtain ⟨gQ,rfl,v4,v5,v6,v7,rfl,h8,uG,b9,vG⟩:=id i9
 obtain ⟨D,s2,rfl⟩:=h8.form
 obtain ⟨S,s5,rfl⟩:=uG.form
 obtain ⟨K,j4,rfl⟩:=b9.form
 obtain ⟨T,u5,rfl⟩:=vG.form
 refine AK func15 rfl ntmps15 ?_
 unfold Dp at hm
 refine Am (Ah (Ft 2 R rfl λ U hQ wG eH l=>?_))
 refine Au rfl (o_z (Am ?_))
 refine Bl [] wG ?_
 refine AH (fuel:=4) [] (AX (CR 0 5)) rfl (Dm (hl:=rfl) (hb:=Gl l) rfl rfl (AJ rfl rfl (AL rfl rfl (AZ (hc:=Bn l 0 rfl) rfl rfl (Hu rfl rfl ?_)))))
 have fH:=Cv h8.len
 have iQ:=rngNat fH
 refine AC (AF (i:=5) rfl ?_)
 obtain ⟨B,gH,hm⟩:=bs hm
 obtain ⟨V,hH,iH,jH,kH⟩:=EN gH
 refine Gp 3 wG (z0:=(false:Bool)) rfl rfl rfl rfl rfl hH vBool iH jH λ W jQ lH j9 m=>?_
 rw [<- kH] at m ⊢
 have b:=lZ j9
 refine AV [] b ?_
 refine AH (fuel:=2) [] [(6,true)] rfl (Ew rfl rfl rfl ?_)
 refine AC (AF (i:=7) rfl ?_)
 refine Ft 4 lH rfl λ J kQ mH c9 c=>?_
 have b:=lZ c9
 refine AV [] b ?_
 refine AH (fuel:=0) [] [(8,true)] rfl (Ei rfl rfl (AC (Ba (Am (Am (Ah (AO rfl ?_)))))))
 replace l:=(l.st j9).st c9
 refine AQ (hc:=Blk.cell (i:=0) (l.1) rfl) rfl (AU rfl ?_)
 have k9:=Cv h8.len
 have lQ:=rngNat k9
 refine At rfl (o_z ?_)
 obtain ⟨xG,l9,hm⟩:=bs hm
 replace f:=((f.st eH).st j9).st c9
 replace m:=m.st c9
 refine EB (X:=(Option Addr×Nat)×(Option Addr×Nat)×(Option Addr×Nat)×(Option Addr×Nat)×(Option Addr×Nat)) (d.vars.length) l9 rfl k9 (λ n g=>[(2,(.pointer (some ⟨U,0,none⟩))),(5,(.pointer (some ⟨J,0,none⟩))),(20,(.slice D d.vars.length s2))]) (λ n g w'=>∃ e:Lab,Bm w R w' e/\Lc 2 w' e U 26 [(.slice D d.vars.length s2),(.slice S d.init.length s5),(.slice K d.goal.length j4),(.slice T d.ops.length u5)]/\Lc 4 w' e J 59 [(.slice D d.vars.length s2),(.slice S d.init.length s5),(.slice K d.goal.length j4),(.slice T d.ops.length u5),(.slice g.1.1 n.1.length g.1.2),(.slice g.2.1.1 n.2.1.length g.2.1.2),(.slice g.2.2.1.1 n.2.2.1.length g.2.2.1.2),(.slice g.2.2.2.1.1 n.2.2.2.1.length g.2.2.2.1.2),(.slice none 0 0),(.slice g.2.2.2.2.1 n.2.2.2.2.length g.2.2.2.2.2),(.slice (some ⟨W,0,none⟩) B.length V),(.int .i64 0),(.int .i64 Q),(.bool false)]/\Rw 17 w' e 45 (.slice g.1.1 n.1.length g.1.2) n.1/\NR ByteArray 7 w' e 96 9 (.slice g.2.1.1 n.2.1.length g.2.1.2) n.2.1 none/\Rw 12 w' e 3 (.slice g.2.2.1.1 n.2.2.1.length g.2.2.1.2) n.2.2.1/\NR Int 16 w' e 22 3 (.slice g.2.2.2.1.1 n.2.2.2.1.length g.2.2.2.1.2) n.2.2.2.1 none/\NR Bool 10 w' e 57 4 (.slice g.2.2.2.2.1 n.2.2.2.2.length g.2.2.2.2.2) n.2.2.2.2 none/\Rw 3 w' e 4 (.slice (some ⟨W,0,none⟩) B.length V) B) ((none,0),(none,0),(none,0),(none,0),(none,0)) ⟨mH,f,l,c,(Rw.nil 17 (by decide)),(NR.nil 7 (by decide)),(Rw.nil 12 (by decide)),(NR.nil 16 (by decide)),(NR.nil 10 (by decide)),m⟩ ⟨rfl,rfl,rfl,rfl,rfl,trivial⟩ (λ _ _=>rfl) ?_ ?_
 ·
  rintro L yG n g mQ nH e7 ⟨m9,f,l,c,e1,h0,u0,v0,i0,m⟩ c0 n9 o9
  have ca:=U9 e7 k9
  refine Am (Ah (At rfl ?_))
  obtain ⟨nQ,oQ,oH,p9,q9,r9,rfl,f7⟩:=(h8.z f).elem' e7
  refine CZ (hA:=p9) (hj:=rfl) (hlt:=q9) rfl rfl (AQ (hc:=cat0 r9) rfl (Au rfl (Au rfl (o_z (Am ?_)))))
  obtain ⟨pQ,s9,c0⟩:=bs c0
  obtain ⟨qQ,n0,c0⟩:=bs c0
  obtain ⟨rQ,d9,c0⟩:=bs c0
  obtain ⟨sQ,k,c0⟩:=bs c0
  obtain ⟨t,d1,c0⟩:=bs c0
  refine Bi (λ l' w'=>∃ (o:(Option Addr×Nat)×(Option Addr×Nat)) (e:Lab),Q2 l' [(2,(.pointer (some ⟨U,0,none⟩))),(5,(.pointer (some ⟨J,0,none⟩))),(6,(.int .i64 (L:Int))),(7,(.int .i64 yG)),(20,(.slice D d.vars.length s2)),(21,(.int .i64 (d.vars.length:Int))),(22,(.int .i64 (L:Int)))]/\Bm w R w' e/\Lc 2 w' e U 26 [(.slice D d.vars.length s2),(.slice S d.init.length s5),(.slice K d.goal.length j4),(.slice T d.ops.length u5)]/\Lc 4 w' e J 59 [(.slice D d.vars.length s2),(.slice S d.init.length s5),(.slice K d.goal.length j4),(.slice T d.ops.length u5),(.slice g.1.1 n.1.length g.1.2),(.slice o.1.1 t.1.length o.1.2),(.slice g.2.2.1.1 n.2.2.1.length g.2.2.1.2),(.slice g.2.2.2.1.1 n.2.2.2.1.length g.2.2.2.1.2),(.slice none 0 0),(.slice o.2.1 t.2.length o.2.2),(.slice (some ⟨W,0,none⟩) B.length V),(.int .i64 0),(.int .i64 Q),(.bool false)]/\Rw 17 w' e 45 (.slice g.1.1 n.1.length g.1.2) n.1/\NR ByteArray 7 w' e 96 9 (.slice o.1.1 t.1.length o.1.2) t.1 none/\Rw 12 w' e 3 (.slice g.2.2.1.1 n.2.2.1.length g.2.2.1.2) n.2.2.1/\NR Int 16 w' e 22 3 (.slice g.2.2.2.1.1 n.2.2.2.1.length g.2.2.2.1.2) n.2.2.2.1 none/\NR Bool 10 w' e 57 4 (.slice o.2.1 t.2.length o.2.2) t.2 none/\Rw 3 w' e 4 (.slice (some ⟨W,0,none⟩) B.length V) B) ?_ ?_
  ·
   refine Bl [(8,[5]),(9,[6,7]),(16,[8]),(17,[9,10]),(20,[4])] m9 ?_
   refine AH (fuel:=23) [8] [(6,true)] rfl (AJ rfl rfl (AC ?_))
   refine AH (fuel:=19) [5,8] (AX [2,3,4,5]) rfl (AJ rfl rfl (BG rfl rfl (AL rfl rfl (AZ (hc:=Bn c 5 rfl) rfl rfl (AC ?_)))))
   refine AH (fuel:=18) [5,6,7] [(14,true)] rfl (AJ rfl rfl (AC ?_))
   refine AH (fuel:=14) [5,6,7,8] (AX [10,11,12,13]) rfl (AJ rfl rfl (BG rfl rfl (AL rfl rfl (AZ (hc:=Bn c 9 rfl) rfl rfl (AC ?_)))))
   refine AH (fuel:=13) [5,6,7,8,9,10] [(0,true)] rfl (AJ rfl rfl (AC ?_))
   refine AH (fuel:=12) [4,5,6,7,8,9,10] [(1,true)] rfl (AJ rfl rfl (AC ?_))
   refine DQ (i:=7) (j:=15) rfl rfl ?_ ?_
   ·
    obtain ⟨pH,t9,u9,v9,w9⟩:=EN s9
    refine Gp 5 m9 (z0:=((⟨#[]⟩:ByteArray):ByteArray)) rfl rfl rfl rfl rfl t9 (vStr (show (⟨#[]⟩:ByteArray).size<=9223372036854775807 from by decide)) u9 v9 λ qH rH x9 p Y=>?_
    rw [<- w9] at Y ⊢
    have b:=lZ p
    refine AV [(8,[5]),(9,[6,7]),(16,[8]),(17,[9,10]),(20,[4])] b ?_
    refine DQ (i:=8) (j:=15) rfl rfl ?_ ?_
    ·
     refine Cw (β:=ByteArray) 6 rfl Y rfl λ sH tH y9 C d2=>?_
     have b:=C.lst [5] (λ _ h=>by cases h;decide)
     refine AV [(9,[6,7]),(16,[8]),(17,[9,10]),(20,[4])] b ?_
     refine DQ (i:=9) (j:=15) rfl rfl ?_ ?_
     ·
      obtain ⟨n0,z9,aA⟩:=Bt n0
      replace h0:=(h0.st p).st C
      refine Cb rfl h0 d2 rfl rfl z9 aA λ bA cA uH dA l4 g7=>?_
      rw [<- n0] at g7 ⊢
      have b:=l4.lst [6,7] (by rintro _ (h|h)<;>cases h<;>decide)
      refine AV [(16,[8]),(17,[9,10]),(20,[4])] b (AF (i:=15) rfl ?_)
      obtain ⟨vH,eA,fA,gA,iA⟩:=EN d9
      refine Gp 8 dA (z0:=(false:Bool)) rfl rfl rfl rfl rfl eA vBool fA gA λ wH xH yH t2 h7=>?_
      rw [<- iA] at h7 ⊢
      have b:=lZ t2
      refine AV [(16,[8]),(17,[9,10]),(20,[4])] b (AF (i:=16) rfl ?_)
      refine Cw (β:=Bool) 9 rfl h7 rfl λ zH aI bI u2 jA=>?_
      have b:=u2.lst [8] (λ _ h=>by cases h;decide)
      refine AV [(17,[9,10]),(20,[4])] b (AF (i:=17) rfl ?_)
      obtain ⟨k,kA,lA⟩:=Bt k
      replace i0:=((((i0.st p).st C).st l4).st t2).st u2
      refine Cb rfl i0 jA rfl rfl kA lA λ mA nA cI dI m4 i7=>?_
      rw [<- k] at i7 ⊢
      have b:=m4.lst [9,10] (by rintro _ (h|h)<;>cases h<;>decide)
      refine AV [(20,[4])] b ?_
      refine AH (fuel:=4) [] (AX [18,19]) rfl (BG rfl rfl (AL rfl rfl (AC (AF (i:=20) rfl ?_))))
      replace c:=(((((c.st p).st C).st l4).st t2).st u2).st m4
      refine AT c rfl rfl rfl (Bf) (allOne) λ eI n4 c=>?_
      have b:=n4.lst [4] (λ _ h=>by cases h;decide)
      refine AV [] b ?_
      refine AH (fuel:=1) [] (AX [21,22]) rfl (BG rfl rfl (AL rfl rfl (AC (AF (i:=23) rfl ?_))))
      refine AT c rfl rfl rfl (Bf) (allOne) λ fI a6 c=>?_
      refine Bz (Ba ?_)
      obtain rfl:=sm d1
      have f1:=((((((p.an C).an l4).an t2).an u2).an m4).an n4).an a6
      exact ⟨((bA,cA),(mA,nA)),_,⟨rfl,rfl,rfl,rfl,rfl,rfl,rfl,trivial⟩,f.st f1,l.st f1,c,e1.st f1,((((g7.st t2).st u2).st m4).st n4).st a6,u0.st f1,v0.st f1,(i7.st n4).st a6,m.st f1⟩
     obtain ⟨gI,oA,pA,qA,rA⟩:=EN d9
     refine Gp 8 y9 (z0:=(false:Bool)) rfl rfl rfl rfl rfl oA vBool pA qA λ hI iI jI F v2=>?_
     rw [<- rA] at v2 ⊢
     have b:=lZ F
     refine AV [(9,[6,7]),(16,[8]),(17,[9,10]),(20,[4])] b ?_
     refine DQ (i:=9) (j:=16) rfl rfl ?_ ?_
     ·
      obtain ⟨n0,sA,tA⟩:=Bt n0
      replace h0:=((h0.st p).st C).st F
      replace d2:=d2.st F
      refine Cb rfl h0 d2 rfl rfl sA tA λ uA vA kI lI w2 j7=>?_
      rw [<- n0] at j7 ⊢
      have b:=w2.lst [6,7] (by rintro _ (h|h)<;>cases h<;>decide)
      refine AV [(16,[8]),(17,[9,10]),(20,[4])] b (AF (i:=16) rfl ?_)
      replace v2:=v2.st w2
      refine Cw (β:=Bool) 9 rfl v2 rfl λ mI nI oI x2 wA=>?_
      have b:=x2.lst [8] (λ _ h=>by cases h;decide)
      refine AV [(17,[9,10]),(20,[4])] b (AF (i:=17) rfl ?_)
      obtain ⟨k,xA,yA⟩:=Bt k
      replace i0:=((((i0.st p).st C).st F).st w2).st x2
      refine Cb rfl i0 wA rfl rfl xA yA λ zA aB pI qI o4 k7=>?_
      rw [<- k] at k7 ⊢
      have b:=o4.lst [9,10] (by rintro _ (h|h)<;>cases h<;>decide)
      refine AV [(20,[4])] b ?_
      refine AH (fuel:=4) [] (AX [18,19]) rfl (BG rfl rfl (AL rfl rfl (AC (AF (i:=20) rfl ?_))))
      replace c:=(((((c.st p).st C).st F).st w2).st x2).st o4
      refine AT c rfl rfl rfl (Bf) (allOne) λ rI p4 c=>?_
      have b:=p4.lst [4] (λ _ h=>by cases h;decide)
      refine AV [] b ?_
      refine AH (fuel:=1) [] (AX [21,22]) rfl (BG rfl rfl (AL rfl rfl (AC (AF (i:=23) rfl ?_))))
      refine AT c rfl rfl rfl (Bf) (allOne) λ sI b6 c=>?_
      refine Bz (Ba ?_)
      obtain rfl:=sm d1
      have g1:=((((((p.an C).an F).an w2).an x2).an o4).an p4).an b6
      exact ⟨((uA,vA),(zA,aB)),_,⟨rfl,rfl,rfl,rfl,rfl,rfl,rfl,trivial⟩,f.st g1,l.st g1,c,e1.st g1,(((j7.st x2).st o4).st p4).st b6,u0.st g1,v0.st g1,(k7.st p4).st b6,m.st g1⟩
     refine Cw (β:=Bool) 9 rfl v2 rfl λ tI uI vI g2 c6=>?_
     have b:=g2.lst [8] (λ _ h=>by cases h;decide)
     refine AV [(9,[6,7]),(17,[9,10]),(20,[4])] b (AF (i:=9) rfl ?_)
     obtain ⟨n0,bB,cB⟩:=Bt n0
     replace h0:=(((h0.st p).st C).st F).st g2
     replace d2:=(d2.st F).st g2
     refine Cb rfl h0 d2 rfl rfl bB cB λ dB eB wI xI y2 l7=>?_
     rw [<- n0] at l7 ⊢
     have b:=y2.lst [6,7] (by rintro _ (h|h)<;>cases h<;>decide)
     refine AV [(17,[9,10]),(20,[4])] b (AF (i:=17) rfl ?_)
     obtain ⟨k,fB,gB⟩:=Bt k
     replace i0:=((((i0.st p).st C).st F).st g2).st y2
     replace c6:=c6.st y2
     refine Cb rfl i0 c6 rfl rfl fB gB λ iB jB yI zI q4 m7=>?_
     rw [<- k] at m7 ⊢
     have b:=q4.lst [9,10] (by rintro _ (h|h)<;>cases h<;>decide)
     refine AV [(20,[4])] b ?_
     refine AH (fuel:=4) [] (AX [18,19]) rfl (BG rfl rfl (AL rfl rfl (AC (AF (i:=20) rfl ?_))))
     replace c:=(((((c.st p).st C).st F).st g2).st y2).st q4
     refine AT c rfl rfl rfl (Bf) (allOne) λ aJ r4 c=>?_
     have b:=r4.lst [4] (λ _ h=>by cases h;decide)
     refine AV [] b ?_
     refine AH (fuel:=1) [] (AX [21,22]) rfl (BG rfl rfl (AL rfl rfl (AC (AF (i:=23) rfl ?_))))
     refine AT c rfl rfl rfl (Bf) (allOne) λ bJ d6 c=>?_
     refine Bz (Ba ?_)
     obtain rfl:=sm d1
     have h1:=((((((p.an C).an F).an g2).an y2).an q4).an r4).an d6
     exact ⟨((dB,eB),(iB,jB)),_,⟨rfl,rfl,rfl,rfl,rfl,rfl,rfl,trivial⟩,f.st h1,l.st h1,c,e1.st h1,((l7.st q4).st r4).st d6,u0.st h1,v0.st h1,(m7.st r4).st d6,m.st h1⟩
    obtain ⟨cJ,kB,lB,mB,nB⟩:=EN d9
    refine Gp 8 x9 (z0:=(false:Bool)) rfl rfl rfl rfl rfl kB vBool lB mB λ dJ eJ fJ A Z=>?_
    rw [<- nB] at Z ⊢
    have b:=lZ A
    refine AV [(8,[5]),(9,[6,7]),(16,[8]),(17,[9,10]),(20,[4])] b ?_
    refine DQ (i:=8) (j:=16) rfl rfl ?_ ?_
    ·
     replace Y:=Y.st A
     refine Cw (β:=ByteArray) 6 rfl Y rfl λ gJ hJ iJ G s4=>?_
     have b:=G.lst [5] (λ _ h=>by cases h;decide)
     refine AV [(9,[6,7]),(16,[8]),(17,[9,10]),(20,[4])] b ?_
     refine DQ (i:=9) (j:=16) rfl rfl ?_ ?_
     ·
      obtain ⟨n0,oB,pB⟩:=Bt n0
      replace h0:=((h0.st p).st A).st G
      refine Cb rfl h0 s4 rfl rfl oB pB λ qB rB jJ kJ z2 n7=>?_
      rw [<- n0] at n7 ⊢
      have b:=z2.lst [6,7] (by rintro _ (h|h)<;>cases h<;>decide)
      refine AV [(16,[8]),(17,[9,10]),(20,[4])] b (AF (i:=16) rfl ?_)
      replace Z:=(Z.st G).st z2
      refine Cw (β:=Bool) 9 rfl Z rfl λ lJ mJ nJ a3 sB=>?_
      have b:=a3.lst [8] (λ _ h=>by cases h;decide)
      refine AV [(17,[9,10]),(20,[4])] b (AF (i:=17) rfl ?_)
      obtain ⟨k,tB,uB⟩:=Bt k
      replace i0:=((((i0.st p).st A).st G).st z2).st a3
      refine Cb rfl i0 sB rfl rfl tB uB λ vB wB oJ pJ t4 o7=>?_
      rw [<- k] at o7 ⊢
      have b:=t4.lst [9,10] (by rintro _ (h|h)<;>cases h<;>decide)
      refine AV [(20,[4])] b ?_
      refine AH (fuel:=4) [] (AX [18,19]) rfl (BG rfl rfl (AL rfl rfl (AC (AF (i:=20) rfl ?_))))
      replace c:=(((((c.st p).st A).st G).st z2).st a3).st t4
      refine AT c rfl rfl rfl (Bf) (allOne) λ qJ u4 c=>?_
      have b:=u4.lst [4] (λ _ h=>by cases h;decide)
      refine AV [] b ?_
      refine AH (fuel:=1) [] (AX [21,22]) rfl (BG rfl rfl (AL rfl rfl (AC (AF (i:=23) rfl ?_))))
      refine AT c rfl rfl rfl (Bf) (allOne) λ rJ e6 c=>?_
      refine Bz (Ba ?_)
      obtain rfl:=sm d1
      have i1:=((((((p.an A).an G).an z2).an a3).an t4).an u4).an e6
      exact ⟨((qB,rB),(vB,wB)),_,⟨rfl,rfl,rfl,rfl,rfl,rfl,rfl,trivial⟩,f.st i1,l.st i1,c,e1.st i1,(((n7.st a3).st t4).st u4).st e6,u0.st i1,v0.st i1,(o7.st u4).st e6,m.st i1⟩
     replace Z:=Z.st G
     refine Cw (β:=Bool) 9 rfl Z rfl λ sJ tJ uJ h2 f6=>?_
     have b:=h2.lst [8] (λ _ h=>by cases h;decide)
     refine AV [(9,[6,7]),(17,[9,10]),(20,[4])] b (AF (i:=9) rfl ?_)
     obtain ⟨n0,xB,yB⟩:=Bt n0
     replace h0:=(((h0.st p).st A).st G).st h2
     replace s4:=s4.st h2
     refine Cb rfl h0 s4 rfl rfl xB yB λ zB aC vJ wJ b3 p7=>?_
     rw [<- n0] at p7 ⊢
     have b:=b3.lst [6,7] (by rintro _ (h|h)<;>cases h<;>decide)
     refine AV [(17,[9,10]),(20,[4])] b (AF (i:=17) rfl ?_)
     obtain ⟨k,bC,cC⟩:=Bt k
     replace i0:=((((i0.st p).st A).st G).st h2).st b3
     replace f6:=f6.st b3
     refine Cb rfl i0 f6 rfl rfl bC cC λ dC eC xJ yJ w4 q7=>?_
     rw [<- k] at q7 ⊢
     have b:=w4.lst [9,10] (by rintro _ (h|h)<;>cases h<;>decide)
     refine AV [(20,[4])] b ?_
     refine AH (fuel:=4) [] (AX [18,19]) rfl (BG rfl rfl (AL rfl rfl (AC (AF (i:=20) rfl ?_))))
     replace c:=(((((c.st p).st A).st G).st h2).st b3).st w4
     refine AT c rfl rfl rfl (Bf) (allOne) λ zJ x4 c=>?_
     have b:=x4.lst [4] (λ _ h=>by cases h;decide)
     refine AV [] b ?_
     refine AH (fuel:=1) [] (AX [21,22]) rfl (BG rfl rfl (AL rfl rfl (AC (AF (i:=23) rfl ?_))))
     refine AT c rfl rfl rfl (Bf) (allOne) λ aK g6 c=>?_
     refine Bz (Ba ?_)
     obtain rfl:=sm d1
     have j1:=((((((p.an A).an G).an h2).an b3).an w4).an x4).an g6
     exact ⟨((zB,aC),(dC,eC)),_,⟨rfl,rfl,rfl,rfl,rfl,rfl,rfl,trivial⟩,f.st j1,l.st j1,c,e1.st j1,((p7.st w4).st x4).st g6,u0.st j1,v0.st j1,(q7.st x4).st g6,m.st j1⟩
    refine Cw (β:=Bool) 9 rfl Z rfl λ bK cK dK i2 h6=>?_
    have b:=i2.lst [8] (λ _ h=>by cases h;decide)
    refine AV [(8,[5]),(9,[6,7]),(17,[9,10]),(20,[4])] b (AF (i:=8) rfl ?_)
    replace Y:=(Y.st A).st i2
    refine Cw (β:=ByteArray) 6 rfl Y rfl λ eK fK gK j2 fC=>?_
    have b:=j2.lst [5] (λ _ h=>by cases h;decide)
    refine AV [(9,[6,7]),(17,[9,10]),(20,[4])] b (AF (i:=9) rfl ?_)
    obtain ⟨n0,gC,hC⟩:=Bt n0
    replace h0:=(((h0.st p).st A).st i2).st j2
    refine Cb rfl h0 fC rfl rfl gC hC λ iC jC hK iK c3 r7=>?_
    rw [<- n0] at r7 ⊢
    have b:=c3.lst [6,7] (by rintro _ (h|h)<;>cases h<;>decide)
    refine AV [(17,[9,10]),(20,[4])] b (AF (i:=17) rfl ?_)
    obtain ⟨k,kC,lC⟩:=Bt k
    replace i0:=((((i0.st p).st A).st i2).st j2).st c3
    replace h6:=(h6.st j2).st c3
    refine Cb rfl i0 h6 rfl rfl kC lC λ mC nC jK kK y4 s7=>?_
    rw [<- k] at s7 ⊢
    have b:=y4.lst [9,10] (by rintro _ (h|h)<;>cases h<;>decide)
    refine AV [(20,[4])] b ?_
    refine AH (fuel:=4) [] (AX [18,19]) rfl (BG rfl rfl (AL rfl rfl (AC (AF (i:=20) rfl ?_))))
    replace c:=(((((c.st p).st A).st i2).st j2).st c3).st y4
    refine AT c rfl rfl rfl (Bf) (allOne) λ lK z4 c=>?_
    have b:=z4.lst [4] (λ _ h=>by cases h;decide)
    refine AV [] b ?_
    refine AH (fuel:=1) [] (AX [21,22]) rfl (BG rfl rfl (AL rfl rfl (AC (AF (i:=23) rfl ?_))))
    refine AT c rfl rfl rfl (Bf) (allOne) λ mK i6 c=>?_
    refine Bz (Ba ?_)
    obtain rfl:=sm d1
    have k1:=((((((p.an A).an i2).an j2).an c3).an y4).an z4).an i6
    exact ⟨((iC,jC),(mC,nC)),_,⟨rfl,rfl,rfl,rfl,rfl,rfl,rfl,trivial⟩,f.st k1,l.st k1,c,e1.st k1,((r7.st y4).st z4).st i6,u0.st k1,v0.st k1,(s7.st z4).st i6,m.st k1⟩
   obtain ⟨nK,oC,pC,qC,rC⟩:=EN d9
   refine Gp 8 m9 (z0:=(false:Bool)) rfl rfl rfl rfl rfl oC vBool pC qC λ oK pK sC u H=>?_
   rw [<- rC] at H ⊢
   have b:=lZ u
   refine AV [(8,[5]),(9,[6,7]),(16,[8]),(17,[9,10]),(20,[4])] b ?_
   refine DQ (i:=7) (j:=16) rfl rfl ?_ ?_
   ·
    obtain ⟨qK,tC,uC,vC,wC⟩:=EN s9
    refine Gp 5 sC (z0:=((⟨#[]⟩:ByteArray):ByteArray)) rfl rfl rfl rfl rfl tC (vStr (show (⟨#[]⟩:ByteArray).size<=9223372036854775807 from by decide)) uC vC λ rK sK tK y d3=>?_
    rw [<- wC] at d3 ⊢
    have b:=lZ y
    refine AV [(8,[5]),(9,[6,7]),(16,[8]),(17,[9,10]),(20,[4])] b ?_
    refine DQ (i:=8) (j:=16) rfl rfl ?_ ?_
    ·
     refine Cw (β:=ByteArray) 6 rfl d3 rfl λ uK vK wK I a5=>?_
     have b:=I.lst [5] (λ _ h=>by cases h;decide)
     refine AV [(9,[6,7]),(16,[8]),(17,[9,10]),(20,[4])] b ?_
     refine DQ (i:=9) (j:=16) rfl rfl ?_ ?_
     ·
      obtain ⟨n0,xC,yC⟩:=Bt n0
      replace h0:=((h0.st u).st y).st I
      refine Cb rfl h0 a5 rfl rfl xC yC λ zC aD xK yK e3 t7=>?_
      rw [<- n0] at t7 ⊢
      have b:=e3.lst [6,7] (by rintro _ (h|h)<;>cases h<;>decide)
      refine AV [(16,[8]),(17,[9,10]),(20,[4])] b (AF (i:=16) rfl ?_)
      replace H:=((H.st y).st I).st e3
      refine Cw (β:=Bool) 9 rfl H rfl λ zK aL bL f3 bD=>?_
      have b:=f3.lst [8] (λ _ h=>by cases h;decide)
      refine AV [(17,[9,10]),(20,[4])] b (AF (i:=17) rfl ?_)
      obtain ⟨k,cD,dD⟩:=Bt k
      replace i0:=((((i0.st u).st y).st I).st e3).st f3
      refine Cb rfl i0 bD rfl rfl cD dD λ eD fD cL dL b5 u7=>?_
      rw [<- k] at u7 ⊢
      have b:=b5.lst [9,10] (by rintro _ (h|h)<;>cases h<;>decide)
      refine AV [(20,[4])] b ?_
      refine AH (fuel:=4) [] (AX [18,19]) rfl (BG rfl rfl (AL rfl rfl (AC (AF (i:=20) rfl ?_))))
      replace c:=(((((c.st u).st y).st I).st e3).st f3).st b5
      refine AT c rfl rfl rfl (Bf) (allOne) λ eL c5 c=>?_
      have b:=c5.lst [4] (λ _ h=>by cases h;decide)
      refine AV [] b ?_
      refine AH (fuel:=1) [] (AX [21,22]) rfl (BG rfl rfl (AL rfl rfl (AC (AF (i:=23) rfl ?_))))
      refine AT c rfl rfl rfl (Bf) (allOne) λ fL j6 c=>?_
      refine Bz (Ba ?_)
      obtain rfl:=sm d1
      have l1:=((((((u.an y).an I).an e3).an f3).an b5).an c5).an j6
      exact ⟨((zC,aD),(eD,fD)),_,⟨rfl,rfl,rfl,rfl,rfl,rfl,rfl,trivial⟩,f.st l1,l.st l1,c,e1.st l1,(((t7.st f3).st b5).st c5).st j6,u0.st l1,v0.st l1,(u7.st c5).st j6,m.st l1⟩
     replace H:=(H.st y).st I
     refine Cw (β:=Bool) 9 rfl H rfl λ gL hL iL k2 k6=>?_
     have b:=k2.lst [8] (λ _ h=>by cases h;decide)
     refine AV [(9,[6,7]),(17,[9,10]),(20,[4])] b (AF (i:=9) rfl ?_)
     obtain ⟨n0,gD,hD⟩:=Bt n0
     replace h0:=(((h0.st u).st y).st I).st k2
     replace a5:=a5.st k2
     refine Cb rfl h0 a5 rfl rfl gD hD λ iD jD jL kL g3 w7=>?_
     rw [<- n0] at w7 ⊢
     have b:=g3.lst [6,7] (by rintro _ (h|h)<;>cases h<;>decide)
     refine AV [(17,[9,10]),(20,[4])] b (AF (i:=17) rfl ?_)
     obtain ⟨k,kD,lD⟩:=Bt k
     replace i0:=((((i0.st u).st y).st I).st k2).st g3
     replace k6:=k6.st g3
     refine Cb rfl i0 k6 rfl rfl kD lD λ mD nD lL mL d5 x7=>?_
     rw [<- k] at x7 ⊢
     have b:=d5.lst [9,10] (by rintro _ (h|h)<;>cases h<;>decide)
     refine AV [(20,[4])] b ?_
     refine AH (fuel:=4) [] (AX [18,19]) rfl (BG rfl rfl (AL rfl rfl (AC (AF (i:=20) rfl ?_))))
     replace c:=(((((c.st u).st y).st I).st k2).st g3).st d5
     refine AT c rfl rfl rfl (Bf) (allOne) λ nL e5 c=>?_
     have b:=e5.lst [4] (λ _ h=>by cases h;decide)
     refine AV [] b ?_
     refine AH (fuel:=1) [] (AX [21,22]) rfl (BG rfl rfl (AL rfl rfl (AC (AF (i:=23) rfl ?_))))
     refine AT c rfl rfl rfl (Bf) (allOne) λ oL l6 c=>?_
     refine Bz (Ba ?_)
     obtain rfl:=sm d1
     have m1:=((((((u.an y).an I).an k2).an g3).an d5).an e5).an l6
     exact ⟨((iD,jD),(mD,nD)),_,⟨rfl,rfl,rfl,rfl,rfl,rfl,rfl,trivial⟩,f.st m1,l.st m1,c,e1.st m1,((w7.st d5).st e5).st l6,u0.st m1,v0.st m1,(x7.st e5).st l6,m.st m1⟩
    replace H:=H.st y
    refine Cw (β:=Bool) 9 rfl H rfl λ pL qL rL l2 m6=>?_
    have b:=l2.lst [8] (λ _ h=>by cases h;decide)
    refine AV [(8,[5]),(9,[6,7]),(17,[9,10]),(20,[4])] b (AF (i:=8) rfl ?_)
    replace d3:=d3.st l2
    refine Cw (β:=ByteArray) 6 rfl d3 rfl λ sL tL uL m2 oD=>?_
    have b:=m2.lst [5] (λ _ h=>by cases h;decide)
    refine AV [(9,[6,7]),(17,[9,10]),(20,[4])] b (AF (i:=9) rfl ?_)
    obtain ⟨n0,pD,qD⟩:=Bt n0
    replace h0:=(((h0.st u).st y).st l2).st m2
    refine Cb rfl h0 oD rfl rfl pD qD λ rD sD vL wL h3 y7=>?_
    rw [<- n0] at y7 ⊢
    have b:=h3.lst [6,7] (by rintro _ (h|h)<;>cases h<;>decide)
    refine AV [(17,[9,10]),(20,[4])] b (AF (i:=17) rfl ?_)
    obtain ⟨k,tD,uD⟩:=Bt k
    replace i0:=((((i0.st u).st y).st l2).st m2).st h3
    replace m6:=(m6.st m2).st h3
    refine Cb rfl i0 m6 rfl rfl tD uD λ vD wD xL yL f5 z7=>?_
    rw [<- k] at z7 ⊢
    have b:=f5.lst [9,10] (by rintro _ (h|h)<;>cases h<;>decide)
    refine AV [(20,[4])] b ?_
    refine AH (fuel:=4) [] (AX [18,19]) rfl (BG rfl rfl (AL rfl rfl (AC (AF (i:=20) rfl ?_))))
    replace c:=(((((c.st u).st y).st l2).st m2).st h3).st f5
    refine AT c rfl rfl rfl (Bf) (allOne) λ zL g5 c=>?_
    have b:=g5.lst [4] (λ _ h=>by cases h;decide)
    refine AV [] b ?_
    refine AH (fuel:=1) [] (AX [21,22]) rfl (BG rfl rfl (AL rfl rfl (AC (AF (i:=23) rfl ?_))))
    refine AT c rfl rfl rfl (Bf) (allOne) λ aM n6 c=>?_
    refine Bz (Ba ?_)
    obtain rfl:=sm d1
    have n1:=((((((u.an y).an l2).an m2).an h3).an f5).an g5).an n6
    exact ⟨((rD,sD),(vD,wD)),_,⟨rfl,rfl,rfl,rfl,rfl,rfl,rfl,trivial⟩,f.st n1,l.st n1,c,e1.st n1,((y7.st f5).st g5).st n6,u0.st n1,v0.st n1,(z7.st g5).st n6,m.st n1⟩
   refine Cw (β:=Bool) 9 rfl H rfl λ bM cM xD i3 o6=>?_
   have b:=i3.lst [8] (λ _ h=>by cases h;decide)
   refine AV [(8,[5]),(9,[6,7]),(17,[9,10]),(20,[4])] b (AF (i:=7) rfl ?_)
   obtain ⟨dM,yD,zD,aE,bE⟩:=EN s9
   refine Gp 5 xD (z0:=((⟨#[]⟩:ByteArray):ByteArray)) rfl rfl rfl rfl rfl yD (vStr (show (⟨#[]⟩:ByteArray).size<=9223372036854775807 from by decide)) zD aE λ eM fM gM n2 a8=>?_
   rw [<- bE] at a8 ⊢
   have b:=lZ n2
   refine AV [(8,[5]),(9,[6,7]),(17,[9,10]),(20,[4])] b (AF (i:=8) rfl ?_)
   refine Cw (β:=ByteArray) 6 rfl a8 rfl λ hM iM jM o2 cE=>?_
   have b:=o2.lst [5] (λ _ h=>by cases h;decide)
   refine AV [(9,[6,7]),(17,[9,10]),(20,[4])] b (AF (i:=9) rfl ?_)
   obtain ⟨n0,dE,eE⟩:=Bt n0
   replace h0:=(((h0.st u).st i3).st n2).st o2
   refine Cb rfl h0 cE rfl rfl dE eE λ fE gE kM lM j3 b8=>?_
   rw [<- n0] at b8 ⊢
   have b:=j3.lst [6,7] (by rintro _ (h|h)<;>cases h<;>decide)
   refine AV [(17,[9,10]),(20,[4])] b (AF (i:=17) rfl ?_)
   obtain ⟨k,iE,jE⟩:=Bt k
   replace i0:=((((i0.st u).st i3).st n2).st o2).st j3
   replace o6:=((o6.st n2).st o2).st j3
   refine Cb rfl i0 o6 rfl rfl iE jE λ kE lE mM nM h5 c8=>?_
   rw [<- k] at c8 ⊢
   have b:=h5.lst [9,10] (by rintro _ (h|h)<;>cases h<;>decide)
   refine AV [(20,[4])] b ?_
   refine AH (fuel:=4) [] (AX [18,19]) rfl (BG rfl rfl (AL rfl rfl (AC (AF (i:=20) rfl ?_))))
   replace c:=(((((c.st u).st i3).st n2).st o2).st j3).st h5
   refine AT c rfl rfl rfl (Bf) (allOne) λ oM i5 c=>?_
   have b:=i5.lst [4] (λ _ h=>by cases h;decide)
   refine AV [] b ?_
   refine AH (fuel:=1) [] (AX [21,22]) rfl (BG rfl rfl (AL rfl rfl (AC (AF (i:=23) rfl ?_))))
   refine AT c rfl rfl rfl (Bf) (allOne) λ pM p6 c=>?_
   refine Bz (Ba ?_)
   obtain rfl:=sm d1
   have o1:=((((((u.an i3).an n2).an o2).an j3).an h5).an i5).an p6
   exact ⟨((fE,gE),(kE,lE)),_,⟨rfl,rfl,rfl,rfl,rfl,rfl,rfl,trivial⟩,f.st o1,l.st o1,c,e1.st o1,((b8.st h5).st i5).st p6,u0.st o1,v0.st o1,(c8.st i5).st p6,m.st o1⟩
  rintro qM rM ⟨o,q6,d8,f,l,c,e1,s1,u0,v0,t1,m⟩
  refine Bg _ d8 ?_
  refine Am ?_
  obtain ⟨sM,M,c0⟩:=bs c0
  obtain ⟨tM,r6,c0⟩:=bs c0
  obtain ⟨uM,N,c0⟩:=bs c0
  obtain ⟨E,k3,c0⟩:=bs c0
  refine Bi (λ l' w'=>∃ (s:(Option Addr×Nat)×(Option Addr×Nat)) (e:Lab),Q2 l' [(2,(.pointer (some ⟨U,0,none⟩))),(5,(.pointer (some ⟨J,0,none⟩))),(6,(.int .i64 (L:Int))),(7,(.int .i64 yG)),(20,(.slice D d.vars.length s2)),(21,(.int .i64 (d.vars.length:Int))),(22,(.int .i64 (L:Int)))]/\Bm w R w' e/\Lc 2 w' e U 26 [(.slice D d.vars.length s2),(.slice S d.init.length s5),(.slice K d.goal.length j4),(.slice T d.ops.length u5)]/\Lc 4 w' e J 59 [(.slice D d.vars.length s2),(.slice S d.init.length s5),(.slice K d.goal.length j4),(.slice T d.ops.length u5),(.slice g.1.1 n.1.length g.1.2),(.slice o.1.1 t.1.length o.1.2),(.slice s.1.1 E.1.length s.1.2),(.slice s.2.1 E.2.length s.2.2),(.slice none 0 0),(.slice o.2.1 t.2.length o.2.2),(.slice (some ⟨W,0,none⟩) B.length V),(.int .i64 0),(.int .i64 Q),(.bool false)]/\Rw 17 w' e 45 (.slice g.1.1 n.1.length g.1.2) n.1/\NR ByteArray 7 w' e 96 9 (.slice o.1.1 t.1.length o.1.2) t.1 none/\Rw 12 w' e 3 (.slice s.1.1 E.1.length s.1.2) E.1/\NR Int 16 w' e 22 3 (.slice s.2.1 E.2.length s.2.2) E.2 none/\NR Bool 10 w' e 57 4 (.slice o.2.1 t.2.length o.2.2) t.2 none/\Rw 3 w' e 4 (.slice (some ⟨W,0,none⟩) B.length V) B) ?_ ?_
  ·
   refine Bl [(8,[12]),(16,[13]),(17,[14]),(18,[15,16]),(22,[4])] q6 ?_
   refine AH (fuel:=22) [] (AX (CR 2 5)) rfl (AJ rfl rfl (BG rfl rfl (AL rfl rfl (AL rfl rfl (AZ (hc:=Bn c 6 rfl) rfl rfl (AC ?_))))))
   refine AH (fuel:=21) [12] [(15,true)] rfl (AJ rfl rfl (AC ?_))
   refine AH (fuel:=16) [12,13,14] (AX (CR 9 5)) rfl (AJ rfl rfl (BG rfl rfl (AL rfl rfl (AL rfl rfl (AZ (hc:=Bn c 7 rfl) rfl rfl (AC ?_))))))
   refine AH (fuel:=15) [12,13,14,15,16] [(0,true)] rfl (AJ rfl rfl (AC ?_))
   refine AH (fuel:=14) [4,12,13,14,15,16] [(1,true)] rfl (AJ rfl rfl (AC ?_))
   refine DQ (i:=7) (j:=14) rfl rfl ?_ ?_
   ·
    refine DW 11 q6 (xs:=(([(-1)]:List Int):List Int)) rfl rfl rfl ⟨(vInt (R0 (-1))),trivial⟩ rfl λ vM wM mE P j5=>?_
    have b:=lZ P
    refine AV [(8,[12]),(16,[13]),(17,[14]),(18,[15,16]),(22,[4])] b ?_
    refine DQ (i:=8) (j:=14) rfl rfl ?_ ?_
    ·
     obtain ⟨M,nE,oE⟩:=Bt M
     replace u0:=u0.st P
     refine EL rfl u0 (j5.rd) rfl rfl nE oE rfl λ pE qE xM rE k5 e8=>?_
     rw [<- M] at e8 ⊢
     have b:=k5.lst [12] (λ _ h=>by cases h;decide)
     refine AV [(16,[13]),(17,[14]),(18,[15,16]),(22,[4])] b (AF (i:=14) rfl ?_)
     refine DW 13 rE (xs:=(([(-1)]:List Int):List Int)) rfl rfl rfl ⟨(vInt (R0 (-1))),trivial⟩ rfl λ yM zM aN l3 s6=>?_
     have b:=lZ l3
     refine AV [(16,[13]),(17,[14]),(18,[15,16]),(22,[4])] b (AF (i:=16) rfl ?_)
     obtain ⟨sE,m3,s6⟩:=s6.freeze
     have b:=m3.lst [13] (λ _ h=>by cases h;decide)
     refine FF 14 (O:=sE) (Fl Fr.lt s6 f7 r6) rfl rfl λ bN cN dN eN n3 tE=>?_
     replace b:=b.cmp n3 [13] (λ _ h=>h.elim) rfl
     refine AV [(17,[14]),(18,[15,16]),(22,[4])] b (AF (i:=17) rfl ?_)
     refine Cw (β:=Int) 15 rfl tE rfl λ fN gN hN o3 uE=>?_
     have b:=o3.lst [14] (λ _ h=>by cases h;decide)
     refine AV [(18,[15,16]),(22,[4])] b (AF (i:=18) rfl ?_)
     obtain ⟨N,vE,wE⟩:=Bt N
     replace v0:=(((((v0.st P).st k5).st l3).st m3).st n3).st o3
     refine Cb rfl v0 uE rfl rfl vE wE λ xE yE iN jN l5 f8=>?_
     rw [<- N] at f8 ⊢
     have b:=l5.lst [15,16] (by rintro _ (h|h)<;>cases h<;>decide)
     refine AV [(22,[4])] b ?_
     refine AH (fuel:=5) [] (AX [19,20,21]) rfl (BG rfl rfl (AL rfl rfl (AL rfl rfl (AC (AF (i:=22) rfl ?_)))))
     replace c:=((((((c.st P).st k5).st l3).st m3).st n3).st o3).st l5
     refine AT c rfl rfl rfl (Bf) (allOne) λ kN m5 c=>?_
     have b:=m5.lst [4] (λ _ h=>by cases h;decide)
     refine AV [] b ?_
     refine AH (fuel:=1) [] (AX [23,24,25]) rfl (BG rfl rfl (AL rfl rfl (AL rfl rfl (AC (AF (i:=26) rfl ?_)))))
     refine AT c rfl rfl rfl (Bf) (allOne) λ lN t6 c=>?_
     refine Bz (Ba ?_)
     obtain rfl:=sm k3
     have p1:=(((((((P.an k5).an l3).an m3).an n3).an o3).an l5).an m5).an t6
     exact ⟨((pE,qE),(xE,yE)),_,⟨rfl,rfl,rfl,rfl,rfl,rfl,rfl,trivial⟩,f.st p1,l.st p1,c,e1.st p1,s1.st p1,((((((e8.st l3).st m3).st n3).st o3).st l5).st m5).st t6,(f8.st m5).st t6,t1.st p1,m.st p1⟩
    refine DW 13 mE (xs:=(([(-1)]:List Int):List Int)) rfl rfl rfl ⟨(vInt (R0 (-1))),trivial⟩ rfl λ mN nN oN p2 p3=>?_
    have b:=lZ p2
    refine AV [(8,[12]),(16,[13]),(17,[14]),(18,[15,16]),(22,[4])] b (AF (i:=8) rfl ?_)
    obtain ⟨M,zE,aF⟩:=Bt M
    replace u0:=(u0.st P).st p2
    replace j5:=j5.st p2
    refine EL rfl u0 (j5.rd) rfl rfl zE aF rfl λ bF cF pN qN q3 g8=>?_
    rw [<- M] at g8 ⊢
    have b:=q3.lst [12] (λ _ h=>by cases h;decide)
    refine AV [(16,[13]),(17,[14]),(18,[15,16]),(22,[4])] b (AF (i:=16) rfl ?_)
    replace p3:=p3.st q3
    obtain ⟨dF,r3,p3⟩:=p3.freeze
    have b:=r3.lst [13] (λ _ h=>by cases h;decide)
    refine FF 14 (O:=dF) (Fl Fr.lt p3 f7 r6) rfl rfl λ rN sN tN uN s3 eF=>?_
    replace b:=b.cmp s3 [13] (λ _ h=>h.elim) rfl
    refine AV [(17,[14]),(18,[15,16]),(22,[4])] b (AF (i:=17) rfl ?_)
    refine Cw (β:=Int) 15 rfl eF rfl λ vN wN xN t3 fF=>?_
    have b:=t3.lst [14] (λ _ h=>by cases h;decide)
    refine AV [(18,[15,16]),(22,[4])] b (AF (i:=18) rfl ?_)
    obtain ⟨N,gF,hF⟩:=Bt N
    replace v0:=(((((v0.st P).st p2).st q3).st r3).st s3).st t3
    refine Cb rfl v0 fF rfl rfl gF hF λ iF jF yN zN n5 i8=>?_
    rw [<- N] at i8 ⊢
    have b:=n5.lst [15,16] (by rintro _ (h|h)<;>cases h<;>decide)
    refine AV [(22,[4])] b ?_
    refine AH (fuel:=5) [] (AX [19,20,21]) rfl (BG rfl rfl (AL rfl rfl (AL rfl rfl (AC (AF (i:=22) rfl ?_)))))
    replace c:=((((((c.st P).st p2).st q3).st r3).st s3).st t3).st n5
    refine AT c rfl rfl rfl (Bf) (allOne) λ aO o5 c=>?_
    have b:=o5.lst [4] (λ _ h=>by cases h;decide)
    refine AV [] b ?_
    refine AH (fuel:=1) [] (AX [23,24,25]) rfl (BG rfl rfl (AL rfl rfl (AL rfl rfl (AC (AF (i:=26) rfl ?_)))))
    refine AT c rfl rfl rfl (Bf) (allOne) λ bO u6 c=>?_
    refine Bz (Ba ?_)
    obtain rfl:=sm k3
    have q1:=(((((((P.an p2).an q3).an r3).an s3).an t3).an n5).an o5).an u6
    exact ⟨((bF,cF),(iF,jF)),_,⟨rfl,rfl,rfl,rfl,rfl,rfl,rfl,trivial⟩,f.st q1,l.st q1,c,e1.st q1,s1.st q1,(((((g8.st r3).st s3).st t3).st n5).st o5).st u6,(i8.st o5).st u6,t1.st q1,m.st q1⟩
   refine DW 13 q6 (xs:=(([(-1)]:List Int):List Int)) rfl rfl rfl ⟨(vInt (R0 (-1))),trivial⟩ rfl λ cO dO kF u3 v3=>?_
   have b:=lZ u3
   refine AV [(8,[12]),(16,[13]),(17,[14]),(18,[15,16]),(22,[4])] b (AF (i:=7) rfl ?_)
   refine DW 11 kF (xs:=(([(-1)]:List Int):List Int)) rfl rfl rfl ⟨(vInt (R0 (-1))),trivial⟩ rfl λ eO fO gO q2 lF=>?_
   have b:=lZ q2
   refine AV [(8,[12]),(16,[13]),(17,[14]),(18,[15,16]),(22,[4])] b (AF (i:=8) rfl ?_)
   obtain ⟨M,mF,nF⟩:=Bt M
   replace u0:=(u0.st u3).st q2
   refine EL rfl u0 (lF.rd) rfl rfl mF nF rfl λ oF pF hO iO w3 j8=>?_
   rw [<- M] at j8 ⊢
   have b:=w3.lst [12] (λ _ h=>by cases h;decide)
   refine AV [(16,[13]),(17,[14]),(18,[15,16]),(22,[4])] b (AF (i:=16) rfl ?_)
   replace v3:=(v3.st q2).st w3
   obtain ⟨qF,x3,v3⟩:=v3.freeze
   have b:=x3.lst [13] (λ _ h=>by cases h;decide)
   refine FF 14 (O:=qF) (Fl Fr.lt v3 f7 r6) rfl rfl λ jO kO lO mO y3 rF=>?_
   replace b:=b.cmp y3 [13] (λ _ h=>h.elim) rfl
   refine AV [(17,[14]),(18,[15,16]),(22,[4])] b (AF (i:=17) rfl ?_)
   refine Cw (β:=Int) 15 rfl rF rfl λ nO oO pO z3 sF=>?_
   have b:=z3.lst [14] (λ _ h=>by cases h;decide)
   refine AV [(18,[15,16]),(22,[4])] b (AF (i:=18) rfl ?_)
   obtain ⟨N,tF,uF⟩:=Bt N
   replace v0:=(((((v0.st u3).st q2).st w3).st x3).st y3).st z3
   refine Cb rfl v0 sF rfl rfl tF uF λ vF wF qO rO p5 k8=>?_
   rw [<- N] at k8 ⊢
   have b:=p5.lst [15,16] (by rintro _ (h|h)<;>cases h<;>decide)
   refine AV [(22,[4])] b ?_
   refine AH (fuel:=5) [] (AX [19,20,21]) rfl (BG rfl rfl (AL rfl rfl (AL rfl rfl (AC (AF (i:=22) rfl ?_)))))
   replace c:=((((((c.st u3).st q2).st w3).st x3).st y3).st z3).st p5
   refine AT c rfl rfl rfl (Bf) (allOne) λ sO q5 c=>?_
   have b:=q5.lst [4] (λ _ h=>by cases h;decide)
   refine AV [] b ?_
   refine AH (fuel:=1) [] (AX [23,24,25]) rfl (BG rfl rfl (AL rfl rfl (AL rfl rfl (AC (AF (i:=26) rfl ?_)))))
   refine AT c rfl rfl rfl (Bf) (allOne) λ tO w6 c=>?_
   refine Bz (Ba ?_)
   obtain rfl:=sm k3
   have r1:=(((((((u3.an q2).an w3).an x3).an y3).an z3).an p5).an q5).an w6
   exact ⟨((oF,pF),(vF,wF)),_,⟨rfl,rfl,rfl,rfl,rfl,rfl,rfl,trivial⟩,f.st r1,l.st r1,c,e1.st r1,s1.st r1,(((((j8.st x3).st y3).st z3).st p5).st q5).st w6,(k8.st q5).st w6,t1.st r1,m.st r1⟩
  rintro uO vO ⟨s,xF,l8,f,l,c,e1,s1,a4,b4,t1,m⟩
  refine Bg _ l8 ?_
  refine Am (Ah (At rfl (At rfl (o_z ?_))))
  obtain ⟨yF,b2,c0⟩:=bs c0
  replace b2:=KW b2
  obtain ⟨zF,m8,c0⟩:=bs c0
  refine PN (X:=(Option Addr×Nat)) yF m8 (LI b2 f7) (λ c4 r2=>[(2,(.pointer (some ⟨U,0,none⟩))),(5,(.pointer (some ⟨J,0,none⟩))),(6,(.int .i64 (L:Int))),(20,(.slice D d.vars.length s2)),(21,(.int .i64 (d.vars.length:Int))),(22,(.int .i64 (L:Int)))]) (λ c4 r2 w'=>∃ e:Lab,Bm w R w' e/\Lc 2 w' e U 26 [(.slice D d.vars.length s2),(.slice S d.init.length s5),(.slice K d.goal.length j4),(.slice T d.ops.length u5)]/\Lc 4 w' e J 59 [(.slice D d.vars.length s2),(.slice S d.init.length s5),(.slice K d.goal.length j4),(.slice T d.ops.length u5),(.slice r2.1 c4.length r2.2),(.slice o.1.1 t.1.length o.1.2),(.slice s.1.1 E.1.length s.1.2),(.slice s.2.1 E.2.length s.2.2),(.slice none 0 0),(.slice o.2.1 t.2.length o.2.2),(.slice (some ⟨W,0,none⟩) B.length V),(.int .i64 0),(.int .i64 Q),(.bool false)]/\Rw 17 w' e 45 (.slice r2.1 c4.length r2.2) c4/\NR ByteArray 7 w' e 96 9 (.slice o.1.1 t.1.length o.1.2) t.1 none/\Rw 12 w' e 3 (.slice s.1.1 E.1.length s.1.2) E.1/\NR Int 16 w' e 22 3 (.slice s.2.1 E.2.length s.2.2) E.2 none/\NR Bool 10 w' e 57 4 (.slice o.2.1 t.2.length o.2.2) t.2 none/\Rw 3 w' e 4 (.slice (some ⟨W,0,none⟩) B.length V) B) (g.1.1,g.1.2) ⟨xF,f,l,c,e1,s1,a4,b4,t1,m⟩ ⟨rfl,(congrArg (λ z=>some (Value.int .i64 z)) b2),rfl,rfl,rfl,rfl,rfl,rfl,trivial⟩ (λ _ _=>rfl) ?_ ?_
  ·
   rintro x6 c4 r2 wO zG n8 ⟨xO,f,l,c,y6,s1,a4,b4,t1,m⟩ d4 e9 f9
   have aa:=AaW n8 (LI b2 f7)
   refine Am (Ah (At rfl (Au rfl (o_z (Ah (At rfl (At rfl (CV rfl (AO rfl (AQ (hc:=Blk.cell (i:=4) (c.1) rfl) rfl (At rfl (At rfl (DU rfl rfl ?_)))))))))))))
   obtain ⟨yO,z6,d4⟩:=bs d4
   obtain ⟨z6,aG,bG⟩:=Bt z6
   refine FE rfl (a:=(⟨(L:Int),(x6:Int)⟩:Fct)) y6 (Vb.ofAgg (cs:=[(.int .i64 (L:Int)),(.int .i64 (x6:Int))]) (x:=(⟨(L:Int),(x6:Int)⟩:Fct)) rfl ⟨rfl,ca,aa⟩) (λ _=>rfl) rfl aG bG ⟨rfl,rfl⟩ λ zO cG dG aP bP o8 p8=>?_
   rw [<- z6] at p8 ⊢
   refine CV rfl (AO rfl ?_)
   replace c:=c.st o8
   refine AT c rfl rfl rfl (Bf) (allOne) λ cP q8 c=>?_
   refine o_z ?_
   obtain rfl:=sm d4
   have c1:=o8.an q8
   exact show Exists _ from ⟨_,(cG,dG),rfl,⟨rfl,rfl,rfl,rfl,rfl,rfl,rfl,rfl,trivial⟩,_,f.st c1,l.st c1,c,p8.st q8,s1.st c1,a4.st c1,b4.st c1,t1.st c1,m.st c1⟩
  rintro dP eP ⟨fP,r8,rfl,c2,gP,f,l,c,y6,s1,a4,b4,t1,m⟩
  replace c0:=BF c0
  obtain rfl:=sm c0
  exact show Exists _ from ⟨_,((r8.1,r8.2),(o.1.1,o.1.2),(s.1.1,s.1.2),(s.2.1,s.2.2),(o.2.1,o.2.2)),rfl,⟨(BC c2 _ _ rfl),(BC c2 _ _ rfl),(BC c2 _ _ rfl),(BC c2 _ _ rfl),(BC c2 _ _ rfl),trivial⟩,_,f,l,c,y6,s1,a4,b4,t1,m⟩
 rintro hP iP ⟨e4,jP,rfl,s8,kP,f,l,c,e1,h0,u0,v0,i0,m⟩
 replace hm:=BF hm
 refine Bg _ s8 ?_
 refine Am (Am (Ah (AO rfl (AQ (hc:=Blk.cell (i:=2) (l.1) rfl) rfl (AU rfl ?_)))))
 have a7:=Cv b9.len
 have lP:=rngNat a7
 refine At rfl (o_z ?_)
 obtain ⟨mP,e2,e1⟩:=e1.freeze
 replace f:=f.st e2
 replace m:=m.st e2
 replace c:=c.st e2
 replace h0:=h0.st e2
 replace u0:=u0.st e2
 replace v0:=v0.st e2
 replace i0:=i0.st e2
 obtain ⟨eG,fG,aH,bH,gG⟩:=Fnd.shut (x:=(⟨(⟨d.vars,d.init,d.goal,d.ops⟩:Tsk),e4.1,e4.2.1,(⟨e4.2.2.1,e4.2.2.2.1,([]:List Int)⟩:Swp),e4.2.2.2.2,B,0,Q,false⟩:Fnd)) (l0:=4) (by decide) c (h8.z f) (uG.z f) (b9.z f) (vG.z f) e1 h0 u0 v0 (Vb.nil _ _) i0 m (R0 0) da
 obtain ⟨hG,t8,hm⟩:=bs hm
 replace f:=f.st fG
 refine EB (X:=Unit) (d.goal.length) t8 rfl a7 (λ b7 u8=>[(5,(.pointer (some ⟨J,0,none⟩))),(93,(.slice K d.goal.length j4))]) (λ b7 u8 w'=>∃ e:Lab,Bm w R w' e/\Ob 4 w' e (.pointer (some ⟨J,0,none⟩)) b7) () ⟨eG,f,gG⟩ ⟨rfl,rfl,rfl,rfl,trivial⟩ (λ _ _=>rfl) ?_ ?_
 ·
  rintro nP c7 b7 u8 oP cH z5 ⟨iG,f,f4⟩ g4 g9 h9
  have ga:=U9 z5 a7
  refine Am (Ah ?_)
  obtain ⟨pP,qP,dH,v8,w8,x8,rfl,jG,kG⟩:=(b9.z f).elem' z5
  refine CZ (hA:=v8) (hj:=rfl) (hlt:=w8) rfl rfl (BH (hl:=rfl) (hc:=x8) rfl ?_)
  refine BL 18 iG λ rP sP lG y8 d7=>?_
  refine AT d7 rfl rfl rfl (Bf) (allOne) λ tP z8 d7=>?_
  refine o_z (Ah (At rfl (BH (hl:=rfl) (hc:=(d7.1).cellsAt) rfl ?_)))
  obtain ⟨uP,mG,g4⟩:=bs g4
  replace f4:=(f4.st y8).st z8
  refine Cg (O:=lG) (GW f4 (Vb.ofAgg (cs:=[(.int .i64 c7.var),(.int .i64 c7.val)]) (x:=c7) rfl ⟨rfl,jG,kG⟩) (show (⟨#[103,111,97,108]⟩:ByteArray).size<=9223372036854775807 from by decide) mG) rfl λ vP wP xP nG oG=>?_
  refine o_z ?_
  obtain rfl:=sm g4
  exact show Exists _ from ⟨_,(),rfl,⟨rfl,rfl,rfl,rfl,trivial⟩,_,((f.st y8).st z8).st nG,oG⟩
 rintro yP zP ⟨aQ,bQ,rfl,a9,pG,f,f4⟩
 replace hm:=BF hm
 refine Bg _ a9 ?_
 refine Am (Ah (At rfl ?_))
 obtain ⟨cQ,qG,hm⟩:=bs hm
 refine Cg (O:=pG) (Jb f4 (TabF.bm fa f) qG) rfl λ dQ eQ fQ rG sG=>?_
 refine o_z (Am (Ah (At rfl (Au rfl (o_z (AM ?_))))))
 obtain rfl:=sm hm
 replace f:=f.st rG
 obtain ⟨e,hS',hz,hl⟩:=hE.leave (λ q=>if q=4 then j0 else 0) rfl f
 exact T8 rfl (Bc rfl) ⟨e,hS',(Ob.leave sG hz (hl 4 (by decide) (by decide)) ea)⟩
noncomputable def DR (j:Tsk) (k:Int):Option ((List Swp)×Err) :=
  bnd (By j ([]:List Swp)) λ d=>if d.n≠0 then (some (([]:List Swp),(⟨d.n⟩:Err))) else (bnd (Dp j (max 0 (min k 1048576))) λ i=>bnd i λ e=>bnd (Q1 ((e.list.length:Int) - 1)) λ f=>bnd (lop (ρ:=(List Swp)×Err) (λ (a:(List Swp)×Int×Fnd)=>if 0<=a.2.1 then (bnd (Dl a.2.2 a.2.1 a.1) λ b=>if b.2.full=true then (some (.ret (([]:List Swp),(⟨10⟩:Err)))) else (bnd (Q1 (a.2.1 - 1)) λ g=>some (.next (b.1,g,b.2)))) else (some (.brk (a.1,a.2.1,a.2.2)))) (([]:List Swp),f,e)) λ c=>fin c λ (h:(List Swp)×Int×Fnd)=>some (h.1,(⟨0⟩:Err)))
theorem Ns {w:World} {A:Nat->Prop} (hA:∀ k,A k->k < w.heap.size) {vx0:Value} {x0:Tsk} (i1:Vb w A vx0 x0) {x1:Int} (rx1:P9 x1) (hT:TabF w A) {r:(List Swp)×Err} (hm:DR x0 x1=some r) :
    Fn prog 7 [vx0,(.int .i64 x1)] w λ v w'=>Ext w w'/\T2 w' (upA A w w') v r:=by
 obtain ⟨O,hB,n5⟩:=enter hA
 obtain ⟨o5,rfl,v4,v5,v6,v7,rfl,h8,f3,g3,h3⟩:=id i1
 obtain ⟨A9,p5,rfl⟩:=h8.form
 obtain ⟨q5,r5,rfl⟩:=f3.form
 obtain ⟨s5,t5,rfl⟩:=g3.form
 obtain ⟨u5,w5,rfl⟩:=h3.form
 refine AK func7 rfl ntmps7 ?_
 unfold DR at hm
 refine Am (Ah (Ft 2 O rfl λ x5 i3 j2 j3 h1=>?_))
 refine Au rfl (Au rfl (o_z (Am (Am (Ah (BH (hl:=rfl) (hc:=(h1.1).cellsAt) rfl ?_))))))
 obtain ⟨y5,k3,hm⟩:=bs hm
 replace hB:=hB.st j3
 refine Du (O:=j2) (EU (λ _ h=>h) (Vb.mono (F:=Fr 0 i3 j2) (i1.zs hA hB) Fr.lt) (Vb.nil _ _) k3) rfl λ z5 l3 k2 j1 m3=>?_
 obtain ⟨rfl,n3⟩:=m3.err
 refine Au rfl (o_z (Am (Ah (At rfl (FS rfl (λ k1=>?_) λ k1=>?_)))))
 ·
  replace hm:=ip hm k1
  refine o_z (Aj rfl (Am (Ah (At rfl (Au rfl (Au rfl (o_z (AM ?_))))))))
  obtain rfl:=sm hm
  replace hB:=hB.st j1
  exact T4 rfl (Bc rfl) (Bc rfl) ⟨hB.ext,_,_,rfl,(Vb.mono (F:=Fr 0 l3 k2) (Vb.nil _ _) hB.out),(vErr n3)⟩
 replace hm:=im hm k1
 refine o_z (Ae rfl (AN (Am (Ah ?_))))
 replace h1:=h1.st j1
 refine BH (hl:=rfl) (hc:=(h1.1).cellsAt) rfl (At rfl (Sv rfl rfl rfl (We rfl rfl rfl ?_)))
 obtain ⟨a6,o3,hm⟩:=bs hm
 replace hB:=hB.st j1
 refine Cg (O:=k2) (Kj (i1.zs hA hB) (rngMax (R0 0) (rngMin rx1 (R0 1048576))) 3 (by decide) (TabF.bs hA hT hB) o3) rfl λ b6 c6 d6 l2 l1=>?_
 refine Au rfl (o_z (Am (Ah (Au rfl (o_z (Am (Am (Ah (At rfl ?_)))))))))
 obtain ⟨p3,q3,hm⟩:=bs hm
 rw [q3] at l1
 obtain ⟨m2,rfl⟩:=Ob.ptr l1
 refine CV rfl ?_
 obtain ⟨e6,f6,g6,h6,i6,j6,k6,l6,m6,n6,o6,p6,n2,r3,o2,p2,q2,r2,s2,m1,t2,u2,v2,w2,x2,y2,s3,t3⟩:=Fnd.opn l1 3 4 5 6 7 8 (by decide)
 obtain ⟨q6,r6,rfl⟩:=p2.form
 obtain ⟨s6,t6,rfl⟩:=q2.form
 obtain ⟨u6,w6,rfl⟩:=r2.form
 obtain ⟨x6,y6,rfl⟩:=s2.form
 obtain ⟨z6,a7,rfl⟩:=m1.form
 obtain ⟨b7,c7,rfl⟩:=t2.form
 obtain ⟨d7,e7,rfl⟩:=u2.form
 obtain ⟨f7,g7,rfl⟩:=v2.form
 obtain ⟨h7,i7,rfl⟩:=w2.form
 obtain ⟨j7,k7,rfl⟩:=x2.form
 obtain ⟨l7,m7,rfl⟩:=y2.form
 refine AO rfl (AQ (hc:=Blk.cell (i:=4) (o2.1) rfl) rfl (AU rfl ?_))
 have n1:=Cv m1.len
 have u3:=rngNat n1
 obtain ⟨v3,m0,hm⟩:=bs hm
 have o1:=(BE m0)
 refine Hf (he:=m0) rfl rfl (Au rfl (o_z ?_))
 obtain ⟨p1,n0,z2,a3,q1⟩:=Fnd.shut (x:=p3) (l0:=3) (by decide) o2 p2 q2 r2 s2 m1 t2 u2 v2 w2 x2 y2 s3 t3
 obtain ⟨g0,o0,hm⟩:=bs hm
 refine Bi (aft g0 (λ (b0:(List Swp)×Int×Fnd) (c0:(Option Addr×Nat))=>[(8,(.slice c0.1 b0.1.length c0.2))]) (λ b0 c0 w'=>∃ O':Lab,Bs w A w' O'/\Rw 9 w' O' 55 (.slice c0.1 b0.1.length c0.2) b0.1/\P9 b0.2.1)) ?_ ?_
 ·
  refine Bx ?_
  replace hB:=((hB.st l2).st n2).st n0
  refine Ex (σ:=(List Swp)×Int×Fnd) (X:=(Option Addr×Nat)) o0 (λ (b0:(List Swp)×Int×Fnd) (c0:(Option Addr×Nat))=>[(7,(.pointer (some ⟨m2,0,none⟩))),(8,(.slice c0.1 b0.1.length c0.2)),(9,(.int .i64 b0.2.1))]) _ (λ b0 c0 w'=>∃ O':Lab,Bs w A w' O'/\Ob 3 w' O' (.pointer (some ⟨m2,0,none⟩)) b0.2.2/\Rw 9 w' O' 55 (.slice c0.1 b0.1.length c0.2) b0.1/\P9 b0.2.1) _ (none,0) ⟨p1,hB,q1,(Rw.nil 9 (by decide)),o1⟩ ⟨rfl,rfl,rfl,trivial⟩ ?_
  rintro b0 c0 w3 b3 ⟨r1,hB,s1,d0,h0⟩ a0 e0 f0
  refine Am (Am (Ah (At rfl (GH rfl rfl (λ i0=>?_) λ i0=>?_))))
  ·
   replace a0:=ip a0 i0
   refine o_z (Aj rfl (AN (Am (Bx (Am (Ah (At rfl (At rfl (At rfl ?_)))))))))
   obtain ⟨t1,u1,a0⟩:=bs a0
   refine Cg (O:=r1) (Ja s1 h0 d0 (by decide) u1) rfl λ x3 v1 y3 p0 w1=>?_
   obtain ⟨y1,q0⟩:=w1
   obtain ⟨z1,a2,rfl⟩:=q0.form
   refine Au rfl (o_z (Am (Ah (At rfl (CV rfl ?_)))))
   obtain ⟨b2,z3,a4,b4,c4,d4,e4,f4,g4,h4,i4,j4,j0,c3,r0,s0,t0,u0,v0,w0,y0,z0,a1,b1,c1,d1,c2,d2⟩:=Fnd.opn y1 3 4 5 6 7 8 (by decide)
   obtain ⟨k4,l4,rfl⟩:=s0.form
   obtain ⟨m4,n4,rfl⟩:=t0.form
   obtain ⟨o4,p4,rfl⟩:=u0.form
   obtain ⟨q4,r4,rfl⟩:=v0.form
   obtain ⟨s4,t4,rfl⟩:=w0.form
   obtain ⟨u4,w4,rfl⟩:=y0.form
   obtain ⟨x4,y4,rfl⟩:=z0.form
   obtain ⟨z4,a5,rfl⟩:=a1.form
   obtain ⟨b5,c5,rfl⟩:=b1.form
   obtain ⟨d5,e5,rfl⟩:=c1.form
   obtain ⟨f5,g5,rfl⟩:=d1.form
   refine AO rfl (AQ (hc:=Blk.cell (i:=13) (r0.1) rfl) rfl (o_z (BP rfl (λ k0=>?_) (λ k0=>?_))))
   ·
    replace a0:=ip a0 k0
    refine Am (Ah (Pw rfl rfl (Au rfl (Au rfl (o_z (AM ?_))))))
    obtain rfl:=sm a0
    obtain rfl:=e0 _ rfl
    obtain rfl:=sm (Eb hm)
    replace hB:=(hB.st p0).st j0
    exact T4 rfl (Bc rfl) (Bc rfl) ⟨hB.ext,_,_,rfl,(Vb.mono (F:=Fr 0 v1 b2) (Vb.nil _ _) hB.out),(vErr (by decide))⟩
   replace a0:=im' a0 k0
   refine AN (Ah (At rfl ?_))
   obtain ⟨h5,e1,a0⟩:=bs a0
   have e2:=(BE e1)
   refine Hf (he:=e1) rfl rfl (Au rfl (o_z ?_))
   obtain ⟨i5,f1,d3,e3,f2⟩:=Fnd.shut (x:=t1.2) (l0:=3) (by decide) r0 s0 t0 u0 v0 w0 y0 z0 a1 b1 c1 d1 c2 d2
   obtain rfl:=sm a0
   exact show Exists _ from ⟨_,(z1,a2),rfl,⟨rfl,rfl,rfl,trivial⟩,_,((hB.st p0).st j0).st f1,f2,(q0.st j0).st f1,e2⟩
  replace a0:=im a0 i0
  refine o_z (Ae rfl (Cq ?_))
  obtain rfl:=sm a0
  exact show Exists _ from ⟨_,(c0.1,c0.2),f0 _ rfl,⟨rfl,trivial⟩,_,hB,d0,h0⟩
 replace hB:=((hB.st l2).st n2).st n0
 rintro j5 g2 ⟨k5,l5,rfl,g1,m5,hB,d0,h0⟩
 replace hm:=BF hm
 refine Bg _ g1 ?_
 refine Am (Ah (At rfl (Au rfl (Au rfl (o_z (AM ?_))))))
 obtain ⟨h2,i2,d0⟩:=d0.freeze
 obtain rfl:=sm hm
 replace hB:=hB.st i2
 exact T4 rfl (Bc rfl) (Bc rfl) ⟨hB.ext,_,_,rfl,(Vb.mono (F:=Fr 0 g2 h2) d0 hB.out),(vErr (R0 0))⟩
end
section
open Go Go.RowKit Go.ChangeShapes Go.WideShapes Go.Deep
section
variable {H : Type} {enc : TypeId × Value → H} {P : Program} {w : World}
class Reads (P:Program) (t:TypeId) (α:Type) [Rp α]:Prop where
  of:∀ {H:Type} {enc:TypeId×Value->H} {w:World} {n:Nat} {cs:List Value} {x:DataW H×List MemPlace},DataW.trod enc P w 0 (λ _=>true) true n t cs=some x->∃ a:α,Rp.R w (All w) cs a
theorem Ace {z:Int} (a:(Lit.int .i64 z).wf=true):P9 z:=by
  simpa [Lit.wf,IntKind.min,IntKind.max,IntKind.signed,IntKind.bits,P9] using a
theorem Abm {t:TypeId} (a:P.underlying t=some (.int .i64)):Reads P t Int:=⟨λ b=>by
  obtain ⟨z,rfl,_,hw⟩:=DataW.trod_int a b
  exact ⟨z,rfl,Ace hw⟩⟩
theorem WR {a:Addr} {v:Value} (b:w.cell? a=some v):a.block < w.heap.size/\a.spot=none:=by
  unfold World.cell? at b
  split at b
  . next hb =>
    refine ⟨(Array.getElem?_eq_some_iff.1 hb).1,?_⟩
    cases hs:a.spot with
    | none=>rfl
    | some k=>rw [hs] at b;simp at b
  . cases b
theorem ZI {t e:TypeId} {α:Type} [Rp α] [hr:Reads P e α] (A:P.underlying t=some (.slice e)) (hc:P.cellsOf e=Rp.size α)  (F:0 < Rp.size α:=by decide):Reads P t (List α):=⟨λ {H enc w n cs x} G=>by
  rcases open_slice A G with ⟨rfl,_⟩|⟨a,len,cap,m,n',D,Pl,rfl,_,hl,hm,hmm,_,hi⟩
  . exact ⟨[],_,rfl,none,0,[],rfl,P1 _,by omega,rfl,λ G=>by simp at G⟩
  . have B:len<=m:=by rw [hmm];simpa using hl
    have p:∀ k,k<=len->∃ (xs:List α) (cells:List Value),xs.length=k/\Chunks w (All w) cells xs/\(0 < k->a.spot=none/\a.block < w.heap.size)/\∀ (j:Nat) v,cells[j]?=some v->w.cell? ⟨a.block,a.off + j,none⟩=some v:=by
      intro k
      induction k with
      | zero=>intro _;exact ⟨[],[],rfl,rfl,λ G=>by omega,λ j v G=>by simp at G⟩
      | succ k C =>
        intro hk
        obtain ⟨xs,cells,h1,h2,h3,h4⟩:=C (by omega)
        obtain ⟨d,hcs,hel⟩:=hi k (by omega)
        obtain ⟨y,hy⟩:=hr.of hel
        obtain ⟨_,hlen,hat⟩:=World.cells?_some hcs
        rw [hc] at hlen hat
        have q:=h2.length
        have h:∀ j,j < Rp.size α->((a.add (k * Rp.size α)).add j).block=a.block/\((a.add (k * Rp.size α)).add j).off=a.off + (cells.length + j):=λ j hj=>by
          rw [q,h1]
          unfold Addr.add
          by_cases g:k * Rp.size α=0
          . by_cases f:j=0
            . simp [g,f]
            . simp [g,f]
          . by_cases f:j=0
            . simp [g,f]
            . simp [g,f];omega
        have c:∀ (j:Nat) v,d[j]?=some v->w.cell? ⟨a.block,a.off + (cells.length + j),none⟩=some v/\a.block < w.heap.size/\((a.add (k * Rp.size α)).add j).spot=none:=λ j v hv=>by
          have hj:j < Rp.size α:=by rw [<- hlen];exact (B6.1 hv).1
          have l:=hat j hj
          rw [hv] at l
          obtain ⟨i,q2⟩:=WR l
          obtain ⟨g,f⟩:=h j hj
          have:(a.add (k * Rp.size α)).add j=⟨a.block,a.off + (cells.length + j),none⟩:=by
            cases E:(a.add (k * Rp.size α)).add j with
            | mk b o s=>rw [E] at g f q2;simp only at g f q2;subst g;subst f;subst q2;rfl
          rw [this] at l i
          exact ⟨l,i,q2⟩
        obtain ⟨u,hv0⟩:∃ v,d[0]?=some v:=⟨d[0]'(by omega),C4 (by omega)⟩
        refine ⟨xs ++ [y],cells ++ d,by simp [h1],h2.append (.single hy),λ _=>⟨?_,(c 0 u hv0).2.1⟩,λ j v hv=>?_⟩
        . by_cases r:k=0
          . subst r
            have:=(c 0 u hv0).2.2
            simpa [Addr.add] using this
          . exact (h3 (by omega)).1
        . by_cases hj:j < cells.length
          . rw [B8 hj] at hv;exact h4 j v hv
          . rw [B4 (by omega)] at hv
            have:=(c _ v hv).1
            rwa [show cells.length + (j - cells.length)=j from by omega] at this
    obtain ⟨xs,cells,h1,h2,h3,h4⟩:=p len (P1 _)
    refine ⟨xs,_,rfl,some a,cap,cells,by rw [h1],by omega,by simpa [maxLen] using hm,h2,λ z=>?_⟩
    obtain ⟨i,q2⟩:=h3 (by omega)
    refine ⟨a.block,a.off,?_,q2,GF h4⟩
    cases a;simp only at i;subst i;rfl⟩
end
end
section
open Go Go.RowKit
theorem WS {laid : List (String × DataW Unit)} {f : World} (d : ((laid.filter fun x => x.2.handleName?.isNone).filter fun x => x.1 == "internal/strconv.uint64pow10") = [("internal/strconv.uint64pow10", Lib.tabData .u64 Lib.pow10Tab)]) (h : laidMetH prog laid f) : TabF f (All f) := by
  have c := (laidMetH_iff.1 h).1.filter fun x => x.1 == "internal/strconv.uint64pow10"
  rw [d] at c
  obtain ⟨g, hg⟩ := C7.1 (show (prog.globalNamed "internal/strconv.uint64pow10").isSome = true by kernel_rfl)
  have a : Lib.TabIs prog f "internal/strconv.uint64pow10" .u64 Lib.pow10Tab := by
    have b : (prog.globalNamed "internal/strconv.uint64pow10").bind (fun g => (prog.globals[g]?).map (·.type)) = some 230 := by kernel_rfl
    rw [hg,J4] at b
    exact Lib.tabIs_of_head hg b underlying230 underlying180 (by kernel_rfl) (by kernel_rfl) c
  intro W' e
  unfold Lib.TabIs World.var? at a ⊢
  rw [hg] at a ⊢
  have hb:W'.heap[g]?=f.heap[g]?:=e g (by
    show g < f.heap.size
    refine B9 λ hn=>?_
    rw [J4,D5 (by omega)] at a
    cases a)
  rw [J4,hb]
  exact a
end
end Go.Proofs.YtdlhmdckakbboaaGreatDoor

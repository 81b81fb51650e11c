/- Own text: what the proof of compileLeast_holds uses, part 4: rules, models and their proofs, plain laws. -/
import Derived.Test.YtllibjejncelhaaGreatDoorCLC
set_option linter.unusedVariables false
set_option linter.unusedSimpArgs false
namespace Go.Proofs.YtllibjejncelhaaGreatDoor
open Go Go.RowKit Go.Proofs.Tryz
section
open Go Go.RowKit
section
variable {P : Program} {n : Nat} {Q : U3} {ops : Array Oper} {rest : List Oper} {l : Env} {w : World} {d : Tmp} {ty : TypeId} {pos : String} {aft : Array Edge} {S : World → Prop}
theorem Oz (h:Q .normal l w):AbU P n ops Q [] l w:=λ _ a=>wpList_nil ⟨trivial,l,a,h⟩
theorem Un {b:Op} {v:Value} {w':World} (he:∀ a,Ok n a l->(execOp a.eval ⟨some d,b,ty,pos,aft,none⟩).run P w=.ok (.value v) w') (hd:Nat.blt d n=true) (h:AbU P n ops Q rest ((d,v) :: l) w'):AbU P n ops Q (⟨some d,b,ty,pos,aft,none⟩ :: rest) l w :=
  λ a c=>wpList_plain rfl λ K e=>by
    unfold Oper.wp;rw [he a c];exact e _ _ (h _ (c.put hd v))
theorem Uo {t:TypeId} {x:Operand} {v:Value} (b:opv l x=some v) (hd:Nat.blt d n=true) (h:AbU P n ops Q rest ((d,.pointer (some ⟨w.heap.size,0,none⟩)) :: l) (w.alloc (.cells v.cells t))):AbU P n ops Q (⟨some d,.box t x,ty,pos,aft,none⟩ :: rest) l w :=
  Un (λ a c=>by simp [execOp,Instr.box,c.eval b,newVar,Hi]) hd h
theorem Vt {t e:TypeId} [hs:TSlice P t e] {z:Value} {size bytes b:Nat} [TInfo P e z size bytes] {ps:List (Nat×Operand)} {vs:List Value} (hk:Acl 0 ps=true) (q:U9 l (ps.map (·.2))=some vs) (f:vs.length=b) (r:∀ v∈vs,v.cells.toList.length=size) (hz:b * size<=16777216) (hd:Nat.blt d n=true)
    (h:AbU P n ops Q rest ((d,.slice (some ⟨w.heap.size,0,none⟩) b b) :: l) (w.alloc (.cells (vs.flatMap λ v=>v.cells.toList).toArray e))):AbU P n ops Q (⟨some d,.buildSlice t b ps.toArray,ty,pos,aft,none⟩ :: rest) l w :=
  Un (λ a s=>by
    have g:(ps.map λ p=>(p.1,a.eval p.2))=Aca 0 vs:=by
      rw [Pi ps 0 hk,Pj,s.evals q]
    have k:∀ v∈vs,v.cells.size=size:=λ v hm=>(by simpa using r v hm);have m:¬ 16777216 < b * size:=(by omega);have hf:∀ c:Array Value,c.size=b * size->Instr.fill (λ i=>some (i * size,size)) c (Aca 0 vs)=some (vs.flatMap λ v=>v.cells.toList).toArray:=λ c j=>by
      obtain ⟨u,ho1,ho2⟩:=Pk (size:=size) vs 0 c [] c.toList (by simp) (by simp) (by simp [j,f]) k;rw [ho1];congr 1;apply L8.1;rw [ho2];simp
    simp only [execOp,Instr.buildSlice];by_cases o:b * size=0
    . simp [run_underlying hs.eq,EQ (P:=P) (t:=e),o];rw [g,hf _ (by simp [o])];simp [Hi]
    . simp [run_underlying hs.eq,EQ (P:=P) (t:=e),KJ (P:=P) (t:=e),o,m];rw [g,hf _ (by simp)];simp [Hi]) hd h
def Adg (P:Program) (n:Nat) (ops:Array Oper) (Q:U3) (S:World->Prop) (b:List (Nat×Bool)) (l:Env) (w:World):Prop:=∀ a,Ok n a l->Acj P ops (Acm n Q) S b a w
theorem YY (h:Q .normal l w):Adg P n ops Q S [] l w:=λ _ a=>⟨trivial,l,a,h⟩
theorem Ku {i:Nat} {b:Op} {f:List (Nat×Bool)} {v:Value} (hi:ops[i]?=some ⟨some d,b,ty,pos,aft,none⟩) (he:∀ w',S w'->Ev P ⟨some d,b,ty,pos,aft,none⟩ l w' v)  (h:Adg P n ops Q S f ((d,v) :: l) w) (hn:Nat.blt d n=true:=by exact rfl):Adg P n ops Q S ((i,true) :: f) l w:=λ a c =>
  ⟨_,v,hi,.inl ⟨by simp [Region.wanted],λ w' e=>by have:=he w' e n a w'.drawn c;rwa [Ja] at this⟩,h _ (c.put hn v)⟩
def AdS (P:Program) (n:Nat) (ops:Array Oper) (Q:U3) (S:World->Prop) (a:List (Nat×Bool)):U3
  | .normal,l,w=>(a≠[]->S w)/\Adg P n ops Q S a l w
  | _,_,_=>False
theorem MI {i:Nat} {o:Oper} {r:List (Nat×Bool)} (hi:ops[i]?=some o) (h:AbU P n ops (AdS P n ops Q S r) [o] l w):Adg P n ops Q S ((i,false) :: r) l w:=λ a k=>by
  have b:=h a k;show wpOp P ops (Acm n Q) i _ a w;unfold wpList at b;unfold wpOp;simp only [hi];have conv:∀ a' w',Acm n (AdS P n ops Q S r) .normal a' w'->(r≠[]->S w')/\Acj P ops (Acm n Q) S r a' w':=by
    rintro a' w' ⟨_,l',ho,hS,g⟩;exact ⟨hS,g a' ho⟩
  have d:∀ e a' w',Acm n (AdS P n ops Q S r) e a' w'->e=.normal:=by
    rintro e a' w' ⟨hn,l',ho,g⟩;cases e<;>first|rfl|exact g.elim
  by_cases f:Region.wanted o (yielded ops a.tmps)=true
  . rw [if_pos f] at b;rw [if_pos f];rcases b with b|⟨b,m,w0,h2⟩
    . refine .inl ?_;unfold Oper.wp at *
      generalize (execOp a.eval o).run P w=j at *
      cases j with
      | ok p w' =>
        cases p<;>simp only [Oper.upon] at b ⊢ <;>
          first
            | exact conv _ _ b
            | exact Calls.mono b (λ en q he=>by
                cases en with
                | returned v=>exact conv _ _ he
                | panicked c=>exact absurd (d _ _ _ he) (by simp)
                | outgrown=>obtain ⟨m,w0,hq⟩:=he;exact absurd (d _ _ _ hq) (by simp))
            | exact Rows.mono b (λ _ _ he=>conv _ _ he)
            | exact b.elim
      | halt x w'=>cases x<;>simp only [Oper.upon] at b ⊢<;>first|exact b.elim|exact absurd (d _ _ _ b) (by simp)
    . exact absurd (d _ _ _ h2) (by simp)
  . rw [if_neg f] at b;rw [if_neg f];exact conv _ _ b
theorem Xx [hm:Mixed P] {id:Nat} {L:List Oper} (S:World->Prop) (b:List (Nat×Bool)) (hs:Region.noSelect L.toArray=true) (hl:b.length=L.toArray.size) (hc:ordOk L.toArray (Array.replicate L.toArray.size false) b=true) (d:S (dr w (w.drawn + 1)))
    (h:Adg P n L.toArray Q S b l (dr w (w.drawn + 1))):Y4 P n (.region id L.toArray true) Q l w:=λ a e =>
  wp_region_any hm.eq (by
    have:=HD (P:=P) hs (Q:=Acm n Q) (S:=S) (λ c a w f=>f.1) b (Array.replicate L.toArray.size false) a (dr w (w.drawn + 1)) (λ m g hm=>by
      simp only [B1,C6] at hm;split at hm<;>simp at hm) hc (λ _=>d) (h a e)
    rw [hl] at this;exact Kn _ _ _ _ this)
end
theorem Vu {P:Program} {f:FuncId} {b:Func} {c:Code} {vs:List Value} {w:World} {R:Value->World->Prop} {n:Nat} (hf:P.funcs[f]?=some b) (hb:b.body=some c) (hn:b.ntmps=n) (hl:Nat.ble vs.length n=true)
    (h:Y4 P n c (T9 P b R) (ent 0 vs) w):Calls P f vs.toArray w λ e w'=>∃ v,e=.returned v/\R v w':=by
  have k:vs.length<=n:=(by simpa using hl);refine calls_of_wp hf hb (Q6 (λ e a w' m=>?_) (h _ (?_:Ok n { tmps:=vs.toArray ++ Array.replicate (b.ntmps - vs.toArray.size) undef,defers:=[] } (ent 0 vs))))
  . obtain ⟨j,l,ho,q⟩:=m;cases e with
    | normal=>obtain ⟨d,hr,g⟩:=q;have:=hr n a w'.drawn ho;rw [Ja] at this;exact ⟨ho.defers,d,this,d,rfl,g⟩
    | ret=>obtain ⟨d,hr,g⟩:=q;have:=hr n a w'.drawn ho;rw [Ja] at this;exact ⟨ho.defers,d,this,d,rfl,g⟩
    | panic c=>exact j.elim
    | outgrown=>exact j.elim
    | exit i=>exact q.elim
    | goto i=>exact q.elim
  . refine ⟨by simp [hn];omega,rfl,λ i v g=>?_⟩;obtain ⟨_,h2⟩:=PT vs 0 i v g;simp only [R1] at h2;have hi:i < vs.length:=(B7.1 h2).1;simp only [B1];rw [B2 (by simpa using hi)];simp [h2]
end
section
open Go Go.RowKit Go.Lib Go.Sort
def orL:List Int->Int
  | []=>0
  | x :: xs=>if x≠0 then x else orL xs
theorem Xy {xs:List Int} {k:Nat} {x:Int} (h:xs[k]?=some x):orL (xs.drop k)=if x≠0 then x else orL (xs.drop (k + 1)):=by
  have:xs.drop k=x :: xs.drop (k + 1):=by
    rw [B9 (AO h)];rw [C4 (AO h)] at h;rw [N4 h]
  rw [this];rfl
theorem Xz {i:World} {F:Nat->Prop} {v:Value} {xs:List Int} (b:Vb i F v xs):Calls prog 92 [v].toArray i λ e w'=>e=.returned (.int .i64 (orL xs))/\w'=i:=by
  obtain ⟨d,c1,rfl⟩:=b.form;have f:xs.length<=9223372036854775807:=R2 b.len.2.1 b.len.2.2;refine Ww func92 rfl ntmps92 rfl ?_;refine Gl (FC (EW (GD rfl) (JN ?_)));refine Gl (FC (EW (GD rfl) (JN ?_)));refine Gl (Gl (FC (EW (GP rfl) (EW (PO rfl) (EW (GP rfl) (JN ?_))))));refine Ro (Xw (λ k=>[(3,.int .i64 0),(6,.slice d xs.length c1),(7,.int .i64 (xs.length:Int)),(8,.int .i64 (k:Int))]) (λ k=>k<=xs.length/\orL xs=orL (xs.drop k)) xs.length 0 ⟨rfl,rfl,rfl,rfl,trivial⟩ ⟨S0 _,rfl⟩ λ k hk=>⟨hk.1,?_⟩);obtain ⟨g,k3⟩:=hk;refine Gl (FC (EW (DM rfl rfl) (JN ?_)));refine Gl ?_;by_cases hlt:(k:Int) < (xs.length:Int)
  . rw [decide_eq_true hlt];refine SR rfl (SP ?_);obtain ⟨x,hx⟩:∃ x,xs[k]?=some x:=⟨xs[k],C4 (by omega)⟩;obtain ⟨h,o1,ce1,hA1,hl1,hd1,rfl,r1⟩:=b.elem' hx;have a:=Xy hx;refine Gl (Ro ?_);refine Gl (FC (EW (Iy rfl rfl hA1 rfl hl1) (EW (Dc rfl (cat0 hd1)) (EW (GD rfl) (JN ?_)))));refine Gl (FC (EW (GP rfl) (EW (GP rfl) (EW (Gb rfl rfl) (JN ?_)))));by_cases hc:x≠0
    . rw [decide_eq_true hc];rw [if_pos hc] at a;refine SR rfl (Gl (FC (EW (GP rfl) (EW (GD rfl) (JN ?_)))));refine QR ?_;exact ⟨_,Ads rfl (AF rfl),by rw [k3,a],rfl⟩
    . rw [decide_eq_false hc];rw [if_neg hc] at a;refine Rn rfl (SP ?_);refine FC (EW (PN rfl rfl (by omega)) (EW (GP rfl) (JN ?_)));exact ⟨rfl,⟨rfl,rfl,rfl,rfl,trivial⟩,by omega,by rw [k3,a]⟩
  . rw [decide_eq_false hlt];refine Rn rfl (Xv ?_);refine Gl (FC (EW (GP rfl) (EW (GD rfl) (JN ?_))));have c:k=xs.length:=(by omega);refine QR ?_;exact ⟨_,Ads rfl (AF rfl),by rw [k3,c,List.drop_length];rfl,rfl⟩
def U5 (x:Lch):List Value:=[.int .i64 x.tm,.int .i64 x.job]
def cfU (x y:Lch):Int:=orL [Lib.compareInt x.tm y.tm,Lib.compareInt x.job y.job]
theorem Up (a b:Int):T3 (Lib.compareInt a b):=by unfold Lib.compareInt T3;split<;>(try split)<;>omega
theorem Aet (x y:Lch) (s:World):Calls prog 91 #[.agg #[.int .i64 x.tm,.int .i64 x.job],.agg #[.int .i64 y.tm,.int .i64 y.job]] s λ e w'=>e=.returned (.int .i64 (cfU x y))/\∃ q c,w'=grow (s.drewN q) c:=by
  have g:=Vu (P:=prog) (f:=91) (vs:=[.agg #[.int .i64 x.tm,.int .i64 x.job],.agg #[.int .i64 y.tm,.int .i64 y.job]]) (w:=s) (R:=λ v w'=>v=.int .i64 (cfU x y)/\∃ q c,w'=grow (s.drewN q) c) func91 rfl ntmps91 rfl ?_
  . exact g.mono λ e w' ⟨v,he,l,hg⟩=>⟨by rw [he,l],hg⟩
  refine Gl (FC (Uo rfl rfl (Uo rfl rfl (EW (GD rfl) (JN ?_)))));have a:Blk ((s.alloc (.cells (U5 x).toArray 49)).alloc (.cells (U5 y).toArray 49)) s.heap.size 49 (U5 x) :=
    (New.mk' s _ (U5 x)).blk.keep ((New.mk' _ _ (U5 y)).ext.block _ (New.mk' s _ (U5 x)).blk.lt)
  have b:Blk ((s.alloc (.cells (U5 x).toArray 49)).alloc (.cells (U5 y).toArray 49)) (s.alloc (.cells (U5 x).toArray 49)).heap.size 49 (U5 y):=(New.mk' _ _ (U5 y)).blk;generalize hW:(s.alloc (.cells (U5 x).toArray 49)).alloc (.cells (U5 y).toArray 49)=W2 at a b;have m:(s.alloc (.cells (Value.agg #[.int .i64 x.tm,.int .i64 x.job]).cells 49)).alloc (.cells (Value.agg #[.int .i64 y.tm,.int .i64 y.job]).cells 49)=W2:=hW;rw [m];generalize p:s.heap.size=b1 at a;generalize n:(s.alloc (.cells (U5 x).toArray 49)).heap.size=b2 at b;have h:(s.alloc (.cells (Value.agg #[.int .i64 x.tm,.int .i64 x.job]).cells 49)).heap.size=b2:=n;rw [h];refine Gl (Xx (λ w'=>Blk w' b1 49 (U5 x)/\Blk w' b2 49 (U5 y)) [(0,true),(1,true),(2,true),(3,true),(5,true),(6,true),(7,true),(8,true),(4,false),(9,false),(10,false),(11,false),(12,true)] (by kernel_rfl) rfl (by kernel_rfl) ⟨a,b⟩ ?_);refine Ku rfl (λ _ _=>Ed rfl) ?_;refine Ku rfl (λ _ d=>Dc rfl (d.1.cell (i:=0) rfl)) ?_;refine Ku rfl (λ _ _=>Ed rfl) ?_;refine Ku rfl (λ _ d=>Dc rfl (d.2.cell (i:=0) rfl)) ?_;refine Ku rfl (λ _ _=>Ed rfl) ?_;refine Ku rfl (λ _ d=>Dc rfl (d.1.cell (i:=1) rfl)) ?_;refine Ku rfl (λ _ _=>Ed rfl) ?_;refine Ku rfl (λ _ d=>Dc rfl (d.2.cell (i:=1) rfl)) ?_;refine MI rfl (PA rfl rfl (Ac1 x.tm y.tm _) (Oz ⟨λ _=>⟨a,b⟩,?_⟩));refine MI rfl (PA rfl rfl (Ac1 x.job y.job _) (Oz ⟨λ _=>⟨a,b⟩,?_⟩));have o:=New.mk' (dr W2 (W2.drawn + 1)) 3 [.int .i64 (Lib.compareInt x.tm y.tm),.int .i64 (Lib.compareInt x.job y.job)];have j:=a.keep (o.ext.block b1 a.lt);have k:=b.keep (o.ext.block b2 b.lt);have r:Vb ((dr W2 (W2.drawn + 1)).alloc (.cells [.int .i64 (Lib.compareInt x.tm y.tm),.int .i64 (Lib.compareInt x.job y.job)].toArray 3)) (λ _=>True) (.slice (some ⟨(dr W2 (W2.drawn + 1)).heap.size,0,none⟩) 2 2) [Lib.compareInt x.tm y.tm,Lib.compareInt x.job y.job] :=
    Vb.made o ⟨[_],_,rfl,⟨rfl,Up _ _⟩,[_],_,rfl,⟨rfl,Up _ _⟩,rfl⟩ rfl trivial (by decide)
  refine MI rfl (Vt rfl rfl rfl (λ v l=>by simp at l;rcases l with rfl|rfl<;>rfl) (by decide) rfl (Oz ⟨λ _=>⟨j,k⟩,?_⟩));refine MI rfl (PA rfl rfl (Xz r) (Oz ⟨λ _=>⟨j,k⟩,?_⟩));refine Ku rfl (λ _ _=>GD rfl) ?_;refine YY ?_;refine QR ?_;refine ⟨_,Ads rfl (AF rfl),rfl,1,#[.cells (U5 x).toArray 49,.cells (U5 y).toArray 49,.cells [.int .i64 (Lib.compareInt x.tm y.tm),.int .i64 (Lib.compareInt x.job y.job)].toArray 3],?_⟩;subst hW;have hd:∀ os t,dr (grow s os) t=grow (dr s t) os:=λ _ _=>rfl;rw [alloc_eq_grow,alloc_eq_grow,alloc_eq_grow,grow_grow,hd,grow_grow];rfl
end
section
open Go.Shelf
def QS:Go.Shelf.Ren:=⟨fun|6=>123|15=>101|14=>145|28=>134|29=>135|20=>167|21=>168|22=>169|23=>170|24=>171|25=>172|26=>173|27=>174|46=>183|47=>147|48=>148|49=>184|50=>185|57=>189|n=>n,fun|22=>50|24=>49|25=>179|3=>3|39=>190|0=>0|53=>230|55=>200|4=>4|46=>224|45=>223|50=>100|5=>5|9=>9|66=>245|70=>248|76=>266|77=>267|n=>n,fun|n=>n⟩
theorem Qq:Go.Proofs.SlLaysF0.n6 prog QS:={
  mixed:=by kernel_rfl
  f6:=⟨f123.name,by decide,func123.trans (congrArg some (by kernel_rfl))⟩
  f14:=⟨f145.name,by decide,func145.trans (congrArg some (by kernel_rfl))⟩
  f15:=func101.trans (congrArg some (by kernel_rfl))
  f20:=⟨f167.name,by decide,func167.trans (congrArg some (by kernel_rfl))⟩
  f21:=⟨f168.name,by decide,func168.trans (congrArg some (by kernel_rfl))⟩
  f22:=⟨f169.name,by decide,func169.trans (congrArg some (by kernel_rfl))⟩
  f23:=⟨f170.name,by decide,func170.trans (congrArg some (by kernel_rfl))⟩
  f24:=⟨f171.name,by decide,func171.trans (congrArg some (by kernel_rfl))⟩
  f25:=⟨f172.name,by decide,func172.trans (congrArg some (by kernel_rfl))⟩
  f26:=⟨f173.name,by decide,func173.trans (congrArg some (by kernel_rfl))⟩
  f27:=⟨f174.name,by decide,func174.trans (congrArg some (by kernel_rfl))⟩
  f28:=func134.trans (congrArg some (by kernel_rfl))
  f29:=func135.trans (congrArg some (by kernel_rfl))
  f46:=⟨f183.name,by decide,func183.trans (congrArg some (by kernel_rfl))⟩
  f47:=func147.trans (congrArg some (by kernel_rfl))
  f48:=func148.trans (congrArg some (by kernel_rfl))
  f49:=⟨f184.name,by decide,func184.trans (congrArg some (by kernel_rfl))⟩
  f50:=⟨f185.name,by decide,func185.trans (congrArg some (by kernel_rfl))⟩
  f57:=⟨f189.name,by decide,func189.trans (congrArg some (by kernel_rfl))⟩
  t0:=underlying0
  a0:=isAgg0
  z0:=sizeOf0
  v0:=zeroValue0
  t3:=underlying3
  a3:=isAgg3
  z3:=sizeOf3
  v3:=zeroValue3
  t4:=underlying4
  a4:=isAgg4
  z4:=sizeOf4
  v4:=zeroValue4
  t5:=underlying5
  a5:=isAgg5
  z5:=sizeOf5
  v5:=zeroValue5
  t9:=underlying9
  a9:=isAgg9
  z9:=sizeOf9
  v9:=zeroValue9
  t22:=underlying50
  a22:=isAgg50
  z22:=sizeOf50
  v22:=zeroValue50
  t25:=underlying179
  a25:=isAgg179
  z25:=sizeOf179
  v25:=zeroValue179
  t39:=underlying190
  a39:=isAgg190
  z39:=sizeOf190
  v39:=zeroValue190
  t45:=underlying223
  a45:=isAgg223
  z45:=sizeOf223
  v45:=zeroValue223
  t46:=underlying224
  a46:=isAgg224
  z46:=sizeOf224
  v46:=zeroValue224
  t50:=underlying100
  a50:=isAgg100
  z50:=sizeOf100
  v50:=zeroValue100
  t53:=underlying230
  a53:=isAgg230
  z53:=sizeOf230
  v53:=zeroValue230
  t55:=underlying200
  a55:=isAgg200
  z55:=sizeOf200
  v55:=zeroValue200
  t66:=underlying245
  a66:=isAgg245
  z66:=sizeOf245
  v66:=zeroValue245
  t70:=underlying248
  a70:=isAgg248
  z70:=sizeOf248
  v70:=zeroValue248
  t76:=underlying266
  a76:=isAgg266
  z76:=sizeOf266
  v76:=zeroValue266
  t77:=underlying267
  a77:=isAgg267
  z77:=sizeOf267
  v77:=zeroValue267 }
open Go.RowKit Go.Lib Go.Sort in
theorem XA {α:Type} [Inhabited α] (k:Nat) (i:∀ w,(isAgg 49).run prog w=.ok true w) (j:∀ w,(Go.sizeOf 49).run prog w=.ok k w) (enc:α->List Value) (hk:∀ x,(enc x).length=k) (l:∀ x,∀ v∈enc x,v.oneCell'=true) (d:α->α->Int) (m:SWO (ltOf d)) (g:Nat) (f:Array Value) (blk off cap:Nat) (q:Array α) (w:World) (o:∀ a w,(callFunc g a).run prog w=.ok (.enter g a) w) (b:CmpLays prog g f enc k d blk off q.size w) (p:HoldsK enc k w blk off q) (c:blk < w.heap.size) (h:q.size < 4611686018427387904) :
    Calls prog 123 #[.slice (some ⟨blk,off,none⟩) q.size cap,.func (.func g) #[] f] w λ e w' =>
      e=.returned (.tuple #[])/\∃ n os,w'=sortWorldK enc k w blk off n (pdq (ltOf d) q 0 q.size (Lib.bitLen q.size) true true) os:=AnyQ.slices_SortFunc_eq Qq k i j enc hk l d m g f blk off cap q w o b p c h
open Go.RowKit Go.Lib Go.Sort in
theorem Vv {α:Type} [Inhabited α] (p:Option Addr) (cap:Nat) (a:Value) (w:World) :
    Calls prog 123 #[.slice p 0 cap,a] w λ e w'=>e=.returned (.tuple #[])/\w'=w:=AnyF.slices_SortFunc_none Qq p cap a w
end
section
open Go Go.RowKit Go.Lib Go.Sort
instance:Inhabited Lch:=⟨⟨0,0⟩⟩
def Acr (x y:Lch):Prop:=x.tm < y.tm\/(x.tm=y.tm/\x.job < y.job)
instance (x y:Lch):Decidable (Acr x y):=by unfold Acr;infer_instance
theorem AeO (a b:Int):(a < b/\Lib.compareInt a b=-1)\/(a=b/\Lib.compareInt a b=0)\/(b < a/\Lib.compareInt a b=1):=by
  unfold Lib.compareInt;by_cases h:a < b
  . simp [h]
  . by_cases c:b < a
    . simp [h,c]
    . right;left;simp [h,c];omega
theorem AaH (a b:Int):orL [a,b] < 0↔a < 0\/(a=0/\b < 0):=by
  simp only [orL];by_cases c:a=0
  . rw [if_neg (by simp [c])];by_cases d:b=0
    . rw [if_neg (by simp [d])];omega
    . rw [if_pos d];omega
  . rw [if_pos c];omega
theorem ltU (x y:Lch):ltOf cfU x y=decide (Acr x y):=by
  unfold ltOf cfU;rw [P7];simp only [decide_eq_true_eq];rw [AaH];unfold Acr;have a:=AeO x.tm y.tm;have b:=AeO x.job y.job;omega
theorem AeP:SWO (ltOf cfU) where
  irrefl x:=by rw [ltU];simp [Acr]
  trans x y z h1 h2:=by rw [ltU] at *;simp only [decide_eq_true_eq] at *;unfold Acr at *;omega
  ntrans x y z h1 h2:=by rw [ltU] at *;simp only [decide_eq_false_iff_not] at *;unfold Acr at *;omega
theorem Aep (blk off size:Nat) (w:World):CmpLays prog 91 #[] U5 2 cfU blk off size w:=λ _ _ _ _ x y=>Aet x y _
def Bl (xs:List Lch):List Lch:=(pdq (ltOf cfU) xs.toArray 0 xs.length (Lib.bitLen xs.length) true true).toList
theorem Uq (xs:List Lch):PermIn 0 xs.toArray.size xs.toArray (Bl xs).toArray/\SortedIn (ltOf cfU) 0 xs.toArray.size (Bl xs).toArray:=by
  have:=pdq_sorts (ltOf cfU) AeP xs.toArray 0 xs.toArray.size (Lib.bitLen xs.length) true true (S0 _) (R7 _) (Or.inl rfl);simpa [Bl] using this
theorem NJ (xs:List Lch):(Bl xs).Perm xs:=by
  obtain ⟨⟨a,_,hperm⟩,_⟩:=Uq xs;have b:(Bl xs).toArray.extract 0 xs.toArray.size=(Bl xs).toArray:=(by rw [<- a];exact J6);rw [b,J6] at hperm;simpa using hperm
theorem Gc (xs:List Lch):(Bl xs).length=xs.length:=(NJ xs).length_eq
theorem TP (xs:List Lch):(Bl xs).Pairwise λ x y=>¬ Acr y x:=by
  obtain ⟨_,hs⟩:=Uq xs;have hl:=Gc xs;rw [C3];intro i j hi hj a;have:=hs i j (S0 _) a (by simp;omega);rw [getElem!_pos _ j (by simpa using hj),getElem!_pos _ i (by simpa using hi),ltU] at this;simpa using this
theorem AdW:∀ (xs:List Lch),(flatK U5 2 xs.toArray).toList=xs.flatMap U5:=λ xs=>by
  apply K0;intro t;have d:∀ (l:List Lch) (t:Nat),(l.flatMap U5)[t]?=(l[t / 2]?).bind λ x=>(U5 x)[t % 2]?:=by
    intro l
    induction l with
    | nil=>intro t;simp
    | cons x l f =>
      intro t;rw [K7]
      match t with
      | 0=>rfl
      | 1=>rfl
      | t + 2 =>
        rw [B4 (by simp [U5]),show t + 2 - (U5 x).length=t from by simp [U5],f];rw [show (t + 2) / 2=t / 2 + 1 from by omega,show (t + 2) % 2=t % 2 from by omega];simp
  rw [d];by_cases e:t < xs.length * 2
  . have b:t / 2 < xs.length:=(by omega);have a:t < (flatK U5 2 xs.toArray).size:=(by simpa using e);rw [F4,C1 a,C4 b,L5];have:=get_flatK U5 2 xs.toArray t (by simpa using e);rw [getElem!_pos (flatK U5 2 xs.toArray) t a,getElem!_pos xs.toArray (t / 2) (by simpa using b)] at this;rw [this];have c:t % 2 < (U5 xs[t / 2]).length:=(by simp [U5];omega);rw [C4 c,G8,getElem!_pos (U5 xs[t / 2]) (t % 2) c]
  . have b:(flatK U5 2 xs.toArray).size<=t:=(by rw [size_flatK];simpa using (by omega:xs.length * 2<=t));have c:xs[t / 2]?=none:=E8 (by omega);rw [F4,D9 b,c];rfl
theorem Kv {w:World} {F:Nat->Prop}:∀ {xs:List Lch} {cells:List Value},Chunks w F cells xs->cells=xs.flatMap U5/\∀ x∈xs,T3 x.tm/\T3 x.job
  | [],_,h=>⟨h,λ _ a=>by simp at a⟩
  | x :: xs,cells,⟨cs,rest,he,hr,hc⟩=>by
    obtain ⟨b,h2⟩:=Kv hc;obtain ⟨c,h4⟩:=hr;refine ⟨by rw [he,c,b];rfl,λ y hy=>?_⟩;rcases Q1.1 hy with rfl|hy
    . exact h4
    . exact h2 y hy
theorem Jm {w:World} {F:Nat->Prop}:∀ {xs:List Lch},(∀ x∈xs,T3 x.tm/\T3 x.job)->Chunks w F (xs.flatMap U5) xs
  | [],_=>rfl
  | x :: xs,h=>⟨U5 x,xs.flatMap U5,rfl,⟨rfl,h x (by simp)⟩,Jm λ y a=>h y (by simp [a])⟩
theorem Hg (xs:List Lch):(xs.flatMap U5).length=xs.length * 2:=by rw [<- AdW,H4,size_flatK];simp
theorem Nq {i:Nat} {w:World} {O:Lab} {v:Value} {xs:List Lch} (hR:Rw i w O 49 v xs) (hl:xs.length < 4611686018427387904) :
    Fn prog 123 [v,.func (.func 91) #[] #[]] w λ _ w'=>∃ z,St (eT i) w O w' z/\Rw i w' z 49 v (Bl xs):=by
  intro L;rcases I8 xs.length with h0|h0
  . have l:xs=[]:=B0 h0;subst l;obtain ⟨p,c,rfl⟩:=hR.form;have hs:Bl []=[]:=B0 (Gc []);exact (Vv (α:=Lch) p c _ (dr w L)).mono λ e w' ⟨he,hw⟩=>⟨_,w,L,he,hw,O,St.refl _ _ _,by rw [hs];exact hR⟩
  . obtain ⟨g,cap,cells,sp,rfl,hg,hFg,hb,hc,hlen,hnc,hcm,htot⟩:=hR.1.open h0;obtain ⟨rfl,hin⟩:=Kv hc;have m:=AdW xs;have B:HoldsK U5 2 (dr w L) g 0 xs.toArray:=λ j hj=>by
      have o:j < xs.length * 2:=(by simpa using hj);refine ⟨?_,by rw [R0];exact hb.frozen j⟩;rw [R0];refine hb.cell ?_;rw [B8 (by rw [Hg];exact o),<- m,F4,C1 hj,getElem!_pos _ j hj];rfl
    have C:∀ w,(isAgg 49).run prog w=.ok true w:=λ w=>IG w;have D:∀ w,(Go.sizeOf 49).run prog w=.ok 2 w:=λ w=>EQ w;have E:∀ d w,(callFunc 91 d).run prog w=.ok (.enter 91 d) w:=enters_of func91 (by kernel_rfl) rfl;have b:=XA 2 C D U5 (λ _=>rfl) (λ x v A=>by simp [U5] at A;rcases A with rfl|rfl<;>rfl) cfU AeP 91 #[] g 0 cap xs.toArray (dr w L) E (Aep g 0 _ _) B hb.lt (by simpa using hl);have G:xs.toArray.size=xs.length:=(by simp);rw [G] at b;refine b.mono λ e w' ⟨he,n,os,hw⟩=>⟨_,w',w'.drawn,he,rfl,upO O w.heap.size (λ _=>0),?_,?_⟩
    . subst hw;refine ⟨rfl,rfl,rfl,?_,λ k hk q=>⟨?_,FJ hk⟩⟩
      . show w.heap.size<=((w.heap.modify g _) ++ os).size;simp
      . have r:g≠k:=λ e=>q (by rw [<- e];exact hR.2.1 g rfl);show ((w.heap.modify g _) ++ os)[k]?=_;rw [B2 (by simpa using hk),E9,if_neg r]
    . have s:pdq (ltOf cfU) xs.toArray 0 xs.length (Lib.bitLen xs.length) true true=(Bl xs).toArray:=(by simp [Bl]);rw [s] at hw;have a:=Gc xs;have t:=AdW (Bl xs);have f:Blk w' g 49 ((Bl xs).flatMap U5 ++ sp):=by
        subst hw;unfold Blk at hb ⊢;have u:g < w.heap.size:=Blk.lt hb;show ((w.heap.modify g _) ++ os)[g]?=_;rw [B2 (by simpa using u),E9,if_pos rfl,hb];simp only [P4,Go.Sort.onCells];congr 2;apply Array.ext
        . simp only [Go.Sort.putCells,Array.size_mapIdx,K8,I5,Hg,a]
        . intro i J K;simp only [Go.Sort.putCells,G7,R0,R1,S0,true_and];have h:(flatK U5 2 (Bl xs).toArray).size=xs.length * 2:=(by rw [size_flatK];simp [a]);by_cases hi:i < xs.length * 2
          . rw [if_pos (by rw [h];exact hi)];simp only [G8];rw [C7 (by rw [Hg,a];exact hi)];rw [getElem!_pos _ _ (by rw [h];exact hi)];have:=congrArg (·[i]?) t;simp only [F4] at this;rw [C1 (by rw [h];exact hi),C4 (by rw [Hg,a];exact hi)] at this;exact N4 this
          . rw [if_neg (by rw [h];exact hi)];simp only [G8];rw [C0 (by rw [Hg];omega),C0 (by rw [Hg,a];omega)];simp only [Hg,a]
      have H:∀ k,Fr 0 w O k->Fr 0 w' (upO O w.heap.size λ _=>0) k:=λ k hk=>⟨by subst hw;show k < ((w.heap.modify g _) ++ os).size;have:=hk.1;simp;omega,(FJ hk.1).trans hk.2⟩;have:=Own.close (w:=w') (base:=0) (F:=Fr 0 w O) (cap:=cap) (S0 _) hFg f (Jm (F:=Fr 0 w O) (w:=w') λ x l=>hin x ((NJ xs).mem_iff.1 l)) (by rw [a];exact hnc) hcm (by rw [I5,Hg] at htot ⊢;rw [a];exact htot);rw [a] at this;exact this.rw H (λ I y=>by
        have:g=I:=(by simpa [Value.ownBlock] using y);subst this;exact (FJ hb.lt).trans (hR.2.1 g rfl)) hR.2.2
theorem Pb {α:Type} {R:α→α→Prop}:∀ {a b:List α},a.Perm b→a.Pairwise R→b.Pairwise R→(∀ x y,R x y→R y x→x=y)→a=b
  | [],b,h,_,_,_=>(List.nil_perm.1 h).symm
  | x :: a,[],h,_,_,_=>by simp at h
  | x :: a,y :: b,h,ha,hb,hR=>by
    obtain ⟨c,ha2⟩:=J4.1 ha;obtain ⟨d,hb2⟩:=J4.1 hb;have hx:x∈y :: b:=h.mem_iff.1 J0;have hy:y∈x :: a:=h.mem_iff.2 J0;have e:x=y:=by
      rcases Q1.1 hx with rfl|hx
      . rfl
      . rcases Q1.1 hy with rfl|hy
        . rfl
        . exact hR x y (c y hy) (d x hx)
    subst e;rw [Pb ((List.perm_cons x).1 h) ha2 hb2 hR]
theorem YZ {xs:List Lch} (h:xs.Pairwise λ x y=>¬ Acr y x):Bl xs=xs :=
  Pb (NJ xs) (TP xs) h λ x y c d=>by
    obtain ⟨a,b⟩:=x;obtain ⟨a',b'⟩:=y;unfold Acr at c d;dsimp only at c d;have e:a=a':=(by omega);have f:b=b':=(by omega);rw [e,f]
end
section
open Go Go.RowKit Go.Shelf Go.Proofs
attribute [local go_sem] Oper.semAt_some
def Adv (x:Lch):Value:=.agg #[.int .i64 x.tm,.int .i64 x.job]
set_option maxRecDepth 100000 in
set_option maxHeartbeats 2000000 in
theorem Vw (F:Fence) (n:Nat) (d:F.fn 124) (h:F.round=none) (hn:1≤n) (l Bs c b off cap:Nat) (zs:List Lch) (g:zs.length * 16≤140737488351232) (hb:b < c) (C r:List Lch→World→Prop)
    (s:∀ a x D,C a D->a.length < zs.length->YieldAt F (n - 1) prog l #[Adv x] D λ e W' =>
      (e=.returned (.bool true)/\C (a ++ [x]) W'/\Below c D W')\/(e=.returned (.bool false)/\r (a ++ [x]) W'))
    (D:World) (t:AbidesFrom D.heap.size C) (m:c<=D.heap.size) (u:D.cell? ⟨Bs,0,none⟩=some (.slice (some ⟨b,off,none⟩) zs.length cap)) (hc:∀ j x,zs[j]?=some x->D.cell? ⟨b,off + j * 2,none⟩=some (.int .i64 x.tm)/\D.cell? ⟨b,off + j * 2 + 1,none⟩=some (.int .i64 x.job)) (w:C [] D) :
    CallsIn F n prog 124 #[.func (.yield l) #[] #[],.pointer (some ⟨Bs,0,none⟩)] D λ e W'=>(∃ v,e=.returned v) /\
      (C zs W'\/(∃ a,a <+: zs/\r a W')):=by
  refine callsIn_of_wp func124 rfl d ?_ h;simp only [ntmps124,K8,L6,N8,Nat.reduceAdd,Nat.reduceSub,G9,H0,K9,H9,N6,L7]
  gi_wp2
  gi_loopw [7] (λ i wr=>∃ k:Nat,k<=zs.length/\i=.int .i64 k/\C (zs.take k) wr/\Below c D wr/\D.heap.size<=wr.heap.size)
    (λ i _=>zs.length - (intOf i).toNat)
  case atStart=>exact ⟨0,S0 _,rfl,by simpa using w,T0 _ _,R7 _⟩
  case round =>
    obtain ⟨k,hk,rfl,hJs,hnx,hsz⟩:=hrel;by_cases hlt:k < zs.length
    . have o:zs[k]?=some zs[k]:=C4 hlt;have y:=(hnx.cell (p:=⟨b,off + k * 2,none⟩) hb).trans (hc k _ o).1;have z:=(hnx.cell (p:=⟨b,off + k * 2 + 1,none⟩) hb).trans (hc k _ o).2;have q:=t _ wr (wr.alloc (.cells #[.int .i64 zs[k].tm,.int .i64 zs[k].job] 49)) none hJs (World.grownBy_alloc wr _ none) (λ E e=>by cases e);obtain ⟨A,tmps,assign,body,hy,hR⟩:=s _ zs[k] _ q (by simp;omega);dsimp only [Adv] at hy
      gi_wp2
      refine hR.mono ?_;have f:zs.take k ++ [zs[k]]=zs.take (k + 1):=(by rw [K4,o];rfl);rintro e B (⟨rfl,hJ3,hk3⟩|⟨rfl,hJx3⟩)
      . gi_wp2
        go_roundw
        case rel=>exact ⟨k + 1,by omega,by simp,by rw [<- f];exact hJ3,(hnx.alloc (R2 m hsz) _).trans hk3,by have:=hk3.size;simp at this;omega⟩
        case measure=>simp [intOf];omega
      . gi_wp2
        refine bodyPost_ret (results_none rfl _ _ _) rfl ?_;exact ⟨⟨_,rfl⟩,.inr ⟨_,by rw [f];exact List.take_prefix _ _,hJx3⟩⟩
    . obtain rfl:k=zs.length:=by omega
      gi_wp2
      go_end0
      exact ⟨⟨_,rfl⟩,.inl (by simpa using hJs)⟩
theorem TQ (F:Fence) (n:Nat) (a:F.fn 124) (b:F.round=none) (l Bs:Nat) (g:List Lch->World->Prop) (h:World) {A:Option Addr} {c:Nat} (d:h.cell? ⟨Bs,0,none⟩=some (.slice A 0 c)) (f:g [] h) :
    CallsIn F n prog 124 #[.func (.yield l) #[] #[],.pointer (some ⟨Bs,0,none⟩)] h λ e W'=>(∃ v,e=.returned v)/\g [] W':=by
  refine callsIn_of_wp func124 rfl a ?_ b;simp only [ntmps124,K8,L6,N8,Nat.reduceAdd,Nat.reduceSub,G9,H0,K9,H9,N6,L7]
  gi_wp2
  gi_loopw [7] (λ i wr=>i=.int .i64 0/\g [] wr) (λ _ _=>0)
  case atStart=>exact ⟨rfl,f⟩
  case round =>
    obtain ⟨rfl,hJs⟩:=hrel
    gi_wp2
    go_end0
    exact ⟨⟨_,rfl⟩,hJs⟩
def LchAt (a:Nat) (d:World) (sv:Value) (zs:List Lch):Prop :=
  ((∃ A c,sv=.slice A 0 c)/\zs=[])\/∃ b off cap,sv=.slice (some ⟨b,off,none⟩) zs.length cap/\b < a/\∀ j x,zs[j]?=some x->d.cell? ⟨b,off + j * 2,none⟩=some (.int .i64 x.tm)/\d.cell? ⟨b,off + j * 2 + 1,none⟩=some (.int .i64 x.job)
theorem LchAt.below {a:Nat} {A c:World} (h:Below a A c) {sv:Value} {zs:List Lch}:LchAt a A sv zs->LchAt a c sv zs
  | .inl e=>.inl e
  | .inr ⟨b,off,cap,e,hb,hc⟩=>.inr ⟨b,off,cap,e,hb,λ j x hj=>⟨(h.cell (p:=⟨b,off + j * 2,none⟩) hb).trans (hc j x hj).1,(h.cell (p:=⟨b,off + j * 2 + 1,none⟩) hb).trans (hc j x hj).2⟩⟩
theorem ST (F:Fence) (n:Nat) (g:F.fn 124) (h:F.round=none) (hn:1<=n) (Bs a:Nat) (sv:Value) (zs:List Lch) (f:zs.length * 16<=140737488351232) (w:World) (k:Bs < w.heap.size) (d:a<=w.heap.size)
    (hc:w.cell? ⟨Bs,0,none⟩=some sv) (o:LchAt a w sv zs) :
    SeqStopsK F n prog 124 #[.pointer (some ⟨Bs,0,none⟩)] (λ x:Lch=>#[Adv x]) (Below a) (λ ys=>ys=zs) (λ i=>i <+: zs) zs.length w:=λ l t q u hW r _ s m=>by
  have j:=(hW.cell (p:=⟨Bs,0,none⟩) k).trans hc;rcases o.below (hW.mono d) with ⟨⟨A,c,rfl⟩,rfl⟩|⟨b,off,cap,rfl,hb,hcs⟩
  . exact (TQ F n g h l Bs t u j m).mono λ e W' ⟨he,hj⟩=>⟨he,.inl ⟨_,rfl,hj⟩⟩
  . refine (Vw F n g h hn l Bs a b off cap zs f hb t q s u r (R2 d hW.size) j hcs m).mono ?_;rintro e W' ⟨he,hj|⟨i,hp,hj⟩⟩
    . exact ⟨he,.inl ⟨_,rfl,hj⟩⟩
    . exact ⟨he,.inr ⟨_,hp,hj⟩⟩
def Two (a:World) (b:Nat) (x:Lch):Prop:=a.heap[b]?=some (.cells #[.int .i64 x.tm,.int .i64 x.job] 49 (0,0))
theorem Two.lt {a:World} {b:Nat} {x:Lch} (h:Two a b x):b < a.heap.size:=(B3.1 h).1
theorem Za (f:Nat) (x:Lch) {X g:World} {a:Option Nat} (h:Two X f x) (d:X.grownBy g a) (b:∀ i,a=some i->∃ o:Obj,X.heap[i]?=some o/\o.isCells=false):Two g f x :=
  (d.block f h.lt λ e=>by obtain ⟨o,c,hc⟩:=b f e.symm;rw [show X.heap[f]?=_ from h] at c;cases c;cases hc).trans h
theorem Zb (w:World) (x:Lch):∀ j u,(U5 x)[j]?=some u->(w.alloc (.cells #[.int .i64 x.tm,.int .i64 x.job] 49)).cell? ((⟨w.heap.size,0,none⟩:Addr).add j)=some u:=by
  intro j u hj;have hb:(w.alloc (.cells #[.int .i64 x.tm,.int .i64 x.job] 49)).heap[w.heap.size]?=some (.cells #[.int .i64 x.tm,.int .i64 x.job] 49 (0,0)):=World.alloc_heap_new w _;rw [KH,R0]
  match j,hj with
  | 0,hj=>simp only [World.cell?,hb];simpa [U5] using hj
  | 1,hj=>simp only [World.cell?,hb];simpa [U5] using hj
  | j + 2,hj=>simp [U5] at hj
set_option maxRecDepth 100000 in
set_option maxHeartbeats 4000000 in
theorem Ad7 (zs:List Lch) (Bs:Nat) (sv:Value) (f:zs.length * 16<=140737488351232) (w:World) (k:Bs < w.heap.size) (hc:w.cell? ⟨Bs,0,none⟩=some sv) (t:LchAt w.heap.size w sv zs) :
    Calls prog 144 #[.slice none 0 0,.func (.func 124) #[] #[.pointer (some ⟨Bs,0,none⟩)]] w λ e w' =>
      ∃ v,e=.returned v/\w'.ownsRow w.heap.size 49 2 v zs.length (zs.flatMap U5)/\Below w.heap.size w w':=by
  refine (callsIn_wide (n:=6)).1 ?_;have m:1<=6:=(by omega);refine callsIn_of_wp_marks func144 rfl trivial ?_ rfl;simp only [ntmps144,K8,L6,N8,Nat.reduceAdd,Nat.reduceSub,G9,H0,K9,H9,N6,L7]
  gi_wp2
  have bS:=Boxed.new w 50 (.slice none 0 0);have g:Below w.heap.size w (w.alloc (.cells #[.slice none 0 0] 50)):=(T0 _ w).alloc (R7 _) _;have o:(w.alloc (.cells #[.slice none 0 0] 50)).heap.size=w.heap.size + 1:=(by simp);have i:(w.alloc (.cells #[.slice none 0 0] 50)).cell? ⟨Bs,0,none⟩=some sv:=(g.cell (p:=⟨Bs,0,none⟩) k).trans hc;obtain ⟨q,hW0⟩:∃ q,w.alloc (.cells #[.slice none 0 0] 50)=q:=⟨_,rfl⟩;rw [hW0] at bS g o i ⊢;clear hW0;refine wpIn_rangeFunc_ownH rfl m (gf:=124) (lb:=#[.pointer (some ⟨Bs,0,none⟩)]) rfl trivial (enters_of func124 (by kernel_rfl) rfl)
    (ST Fence.wide 5 trivial rfl (by omega) Bs w.heap.size sv zs f q (by omega) (by omega) i (t.below g)) belowK_t (belowK_b (by omega)) (T0 _ _) (λ _=>rfl)
    (λ a N=>(∃ v,Boxed N w.heap.size 50 v/\N.ownsRow w.heap.size 49 2 v a.length (a.flatMap U5)/\True)/\Below w.heap.size w N)
    (λ _ _ _=>False)
    (OwnFrom.and (Own.from (holdsRow_own w.heap.size w.heap.size 50 49 2 (λ a:List Lch=>a.length) (λ a=>a.flatMap U5) (λ _ _=>True)) _) (ownFrom_below (R7 _) (by omega)))
    (λ _ _ _ _ _ hs _ _=>hs)
    ⟨⟨_,bS,World.ownsRow_nil _ _ _ _,trivial⟩,g⟩
    (λ x a' N=>∃ b,w.heap.size < b/\Two N b x/\a'={ tmps:=#[.slice none 0 0,.func (.func 124) #[] #[.pointer (some ⟨Bs,0,none⟩)],.pointer (some ⟨w.heap.size,0,none⟩),undef,.slice none 0 0,.pointer (some ⟨b,0,none⟩),.func (.func 124) #[] #[.pointer (some ⟨Bs,0,none⟩)],Adv x,undef,undef,undef,undef,undef],defers:=[] })
    (λ x a' _ X O y hs z hr=>by obtain ⟨b,m,h2,h3⟩:=hs;exact ⟨b,m,Za b x h2 z (λ P e=>(hr P e).2),h3⟩)
    ?assign ?body ?done ?stop
  case assign =>
    rintro l a x N K ⟨⟨v,bS1,hr1,_⟩,hB1⟩ hK;unfold Adv
    gi_wp2
    have hlt:=bS1.lt;exact hK _ _ ((KeepsOthers.alloc _ _).from _) ((T0 _ N).alloc hB1.size _) ⟨⟨v,bS1.alloc _,hr1.alloc _,trivial⟩,hB1.alloc hB1.size _⟩ ⟨N.heap.size,hlt,World.alloc_heap_new N _,rfl⟩
  case body =>
    rintro l a x a' N hl ⟨P,hr⟩ ⟨⟨v,bS1,hrow,_⟩,hB1⟩ ⟨b,hBx,bX,rfl⟩ hlt;have A:=bS1.cell;have H:=bS1.frozen;have B:N.cell? ⟨b,0,none⟩=some (.int .i64 x.tm):=(by simp [World.cell?,show N.heap[b]?=_ from bX]);have C:N.cell? ⟨b,1,none⟩=some (.int .i64 x.job):=(by simp [World.cell?,show N.heap[b]?=_ from bX]);obtain ⟨D,hi,hz0,hz1,hz2⟩:=(inferInstance:TInfo prog 49 (.agg #[.int .i64 0,.int .i64 0]) 2 16).eq;have E:a.length < zs.length:=hlt
    gi_wp2_with (
      gi_at_builtin
      refine wpListIn_append_own _ rfl _ _ 50 rfl w.heap.size 49 D (.agg #[.int .i64 0,.int .i64 0]) 2 16 underlying50 hi hz0 hz1 hz2 rfl (by decide) v a.length (a.flatMap U5) rfl (hrow.alloc _) ⟨N.heap.size,0,none⟩ 1 1 (U5 x) rfl rfl (Zb N x) (by intro u hu;simp [U5] at hu;rcases hu with rfl|rfl<;>rfl) (by unfold maxLen;omega) (by omega) (by have:=hB1.size;simp;omega) ?_;intro I J d r s;obtain ⟨j,h2a,h3a,h4a,h5a⟩:=bS1.appended (by decide) hrow hB1.size (R7 _) d r;have F:=j.cell;have G:=j.frozen;obtain ⟨L,cap',rfl⟩:=ownsRow_succ d)
    exact ⟨h4a.from _,h5a,⟨_,h2a,by simpa [I0] using h3a,trivial⟩,hB1.trans h5a⟩
  case done =>
    rintro Q ys N M rfl ⟨⟨v,bS1,hrow,_⟩,hB1⟩ hK;have A:=bS1.cell
    gi_wp2
    refine ⟨by simp,.inl ⟨_,_,rfl,run_takeDeferred hK,?_⟩⟩;exact ⟨_,results_tmp rfl _ _ _,v,rfl,ownsRow_putObj hrow _ hK rfl,hB1.trans (belowK_b (w:=w) (R7 _) N Q _ _ (by omega) hK rfl rfl)⟩
  case stop =>
    rintro Q c a N _ _ h _;exact h.elim
theorem LchAt.of {w:World} {A:Nat->Prop} (hA:∀ k,A k->k < w.heap.size) {v:Value} {zs:List Lch} (h:Vb w A v zs):LchAt w.heap.size w v zs:=by
  obtain ⟨a,c,rfl⟩:=h.form;cases zs with
  | nil=>exact .inl ⟨⟨a,c,rfl⟩,rfl⟩
  | cons z zs =>
    obtain ⟨b,o,cs,rfl,hb,_,_,_⟩:=h.elem (k:=0) (x:=z) rfl;refine .inr ⟨b,o,c,rfl,hA b hb,λ j x d=>?_⟩;obtain ⟨i,o',cs',e,_,_,hd,hr⟩:=h.elem d;injection e with e;injection e with f g;subst f;subst g;obtain ⟨rfl,_,_⟩:=hr;exact ⟨cat0 hd,cat1 hd⟩
theorem LchAt.up {n m:Nat} {c:World} {sv:Value} {zs:List Lch} (h:LchAt n c sv zs) (a:n<=m):LchAt m c sv zs:=by
  rcases h with h|⟨b,off,cap,e,hb,hc⟩
  . exact .inl h
  . exact .inr ⟨b,off,cap,e,I6 hb a,hc⟩
theorem SU {w:World} {zs:List Lch} {Bs:Nat} {sv:Value} (a:zs.length * 16<=140737488351232) (b:∀ x∈zs,T3 x.tm/\T3 x.job) (c:Bs < w.heap.size) (hc:w.cell? ⟨Bs,0,none⟩=some sv) (d:LchAt w.heap.size w sv zs) :
    Fn prog 144 [.slice none 0 0,.func (.func 124) #[] #[.pointer (some ⟨Bs,0,none⟩)]] w λ v w'=>Ext w w'/\Own w' w.heap.size (λ k=>k < w.heap.size) 49 v zs:=by
  intro h;refine (Ad7 zs Bs sv a (dr w h) c hc d).mono λ e w' ⟨v,he,hr,hb⟩=>⟨v,w',w'.drawn,he,rfl,⟨hb.os,hb.tape,hb.output,hb.size,hb.block⟩,⟨_,hr,Jm b,λ g f hlt=>?_⟩⟩;have:=(hr.lt g f).1;exact Q2 _ (I6 hlt this)
attribute [local irreducible] ewp owp hwp hwq hws Ev Evg Fn T9 V1 U8 U4
attribute [local irreducible] hwx V7
theorem Wx {w:World} (sv:Value) (b:sv.cells.toList=[sv]:=by rfl) :
    Fn prog 90 [sv] w λ v w'=>v=.func (.func 124) #[] #[.pointer (some ⟨w.heap.size,0,none⟩)]/\New w w' 50 [sv]:=by
  refine AH func90 rfl ntmps90 ?_;refine aa ?_;refine GC rfl λ c a=>?_;refine Au rfl (o_z ?_);refine aa ?_;refine Ss rfl rfl rfl (Au rfl (o_z ?_));refine aa ?_;rw [b] at a;exact U0 rfl (AF rfl) ⟨rfl,a⟩
theorem Vx {w:World} {zs:List Lch} {Bs:Nat} {sv:Value} (a:zs.length * 16<=140737488351232) (b:∀ x∈zs,T3 x.tm/\T3 x.job) (c:Bs < w.heap.size) (hc:w.cell? ⟨Bs,0,none⟩=some sv) (d:LchAt w.heap.size w sv zs) :
    Fn prog 122 [.func (.func 124) #[] #[.pointer (some ⟨Bs,0,none⟩)]] w λ v w'=>Ext w w'/\Own w' w.heap.size (λ k=>k < w.heap.size) 49 v zs:=by
  refine AH func122 rfl ntmps122 ?_;refine aa ?_;refine Au rfl (o_z ?_);refine aa ?_;refine ab ?_;refine BG rfl (SU a b c hc d) λ v w' ⟨e,hv⟩=>?_;refine Au rfl (o_z ?_);refine aa ?_;exact U0 rfl (AF rfl) ⟨e,hv⟩
theorem RS {w:World} {zs:List Lch} {Bs:Nat} {sv:Value} (a:zs.length * 16<=140737488351232) (hl:zs.length < 4611686018427387904) (f:∀ x∈zs,T3 x.tm/\T3 x.job) (i:Bs < w.heap.size) (hc:w.cell? ⟨Bs,0,none⟩=some sv) (m:LchAt w.heap.size w sv zs) :
    Fn prog 89 [.func (.func 124) #[] #[.pointer (some ⟨Bs,0,none⟩)],.func (.func 91) #[] #[]] w λ v w'=>Ext w w'/\Own w' w.heap.size (λ k=>k < w.heap.size) 49 v (Bl zs):=by
  refine AH func89 rfl ntmps89 ?_;refine aa ?_;refine Au rfl (o_z ?_);refine aa ?_;refine ab ?_;refine BG rfl (Vx a f i hc m) λ v w' ⟨b,hv⟩=>?_;refine Au rfl (o_z ?_);refine aa ?_;refine Ar rfl (Ar rfl ?_);have hR:Rw 1 w' (λ k=>if k < w.heap.size then 0 else 1) 49 v zs:=by
    obtain ⟨cells,d,h2,h3⟩:=hv;refine ⟨⟨cells,⟨d.1,?_⟩,h2.mono (λ k hk=>⟨I6 hk b.size,if_pos hk⟩),λ g c n=>?_⟩,λ g c=>?_,by decide⟩
    . rcases d.2 with h|⟨g,cap,cur,e,_,r⟩
      . exact .inl h
      . exact .inr ⟨g,cap,cur,e,S0 _,r⟩
    . have:=(d.lt g c).1;have j:(if g < w.heap.size then 0 else 1)=0:=n.2;rw [if_neg (by omega)] at j;exact absurd j (by decide)
    . have:=(d.lt g c).1;exact if_neg (by omega)
  refine BG rfl (Nq hR hl) λ u o ⟨p,hS,hR2⟩=>?_;refine o_z ?_;refine aa ?_;refine Ar rfl (Au rfl (o_z ?_));refine aa ?_;refine U0 rfl (AF rfl) ⟨⟨hS.os.trans b.os,hS.tape.trans b.tape,hS.output.trans b.output,R2 b.size hS.size,λ k hk=>?_⟩,?_⟩
  . refine (hS.same k (I6 hk b.size) ?_).1.trans (b.block k hk);rw [if_pos hk];decide
  . obtain ⟨q,g1,_,_⟩:=hv;obtain ⟨s,l,k2,_⟩:=hR2.1;obtain ⟨rfl,hin'⟩:=Kv k2;refine ⟨_,⟨l.1,?_⟩,Jm hin',λ g c hlt=>?_⟩
    . rcases l.2 with h|⟨g,cap,cur,e,_,r⟩
      . exact .inl h
      . exact .inr ⟨g,cap,cur,e,(g1.lt g (by rw [e];rfl)).1,r⟩
    . have:=(g1.lt g c).1;exact Q2 _ (I6 hlt this)
noncomputable def Hm (a:List Lch):Option (List Lch):=if a.length * 16<=140737488351232 then some (Bl a) else none
theorem PB {w:World} {A:Nat->Prop} (hA:∀ k,A k->k < w.heap.size) {e:Value} {d:List Lch} (f:Vb w A e d) {s:List Lch} (hm:Hm d=some s) :
    Fn prog 43 [e] w λ v w'=>Ext w w'/\Vb w' (upA A w w') v s:=by
  obtain ⟨hl,rfl⟩:=DJ hm;obtain ⟨m,c,rfl⟩:=f.form;have g:∀ x∈d,T3 x.tm/\T3 x.job:=λ x o=>by
    obtain ⟨j,hj⟩:=G6 o;obtain ⟨_,_,cs,_,_,_,_,hr⟩:=f.elem hj;exact ⟨hr.2.1,hr.2.2⟩
  have l:=LchAt.of hA f;refine AH func43 rfl ntmps43 ?_;refine aa ?_;refine Au rfl (o_z ?_);refine aa ?_;refine ab ?_;refine BG rfl (Wx (.slice m d.length c)) λ v n ⟨p,hN⟩=>?_;subst p;have a:Ext w n:=hN.ext;refine BG rfl (RS hl (by omega) g (Bs:=w.heap.size) (sv:=.slice m d.length c) (by rw [hN.size];omega) (hN.blk.cell (i:=0) rfl) ((l.below a).up a.size)) λ u q ⟨r,ho⟩=>?_;refine Au rfl (o_z ?_);refine aa ?_;refine U0 rfl (AF rfl) ⟨a.trans (r.mono a.size),?_⟩;obtain ⟨cells,k1,k2,k3⟩:=ho;obtain ⟨rfl,hin'⟩:=Kv k2;have b:Own q n.heap.size (λ _=>False) 49 u (Bl d):=⟨_,k1,Jm hin',λ _ _ h=>h⟩;refine b.vb.mono λ k hk=>?_;rcases hk with h|h
  . exact h.elim
  . exact .inr ⟨R2 a.size (b.lt k h).1,(b.lt k h).2⟩
end
section
open Go Go.RowKit
attribute [local irreducible] ewp owp hwp hwq hws Ev Evg Fn T9 V1 U8 U4
structure Rsl where
  verdict:Int
  plan:List Int
  cost:Int
  expanded:Int
instance:Rp Rsl where
  isAgg:=true
  size:=4
  R w F cs x:=∃ v0,cs=[.int .i64 x.verdict,v0,.int .i64 x.cost,.int .i64 x.expanded]/\Vb w F v0 x.plan/\T3 x.verdict/\T3 x.cost/\T3 x.expanded
  len:=by rintro w F cs x ⟨v0,rfl,h0,h1,h2,h3⟩;rfl
  one:=by rintro w F cs x ⟨v0,rfl,h0,h1,h2,h3⟩ u hu;simp at hu;rcases hu with rfl|rfl|rfl|rfl<;>first|rfl|exact Vb.one rfl (by assumption)
  agree:=by rintro w w' F cs x ⟨v0,rfl,h0,h1,h2,h3⟩ ha;exact ⟨v0,rfl,h0.agree ha,h1,h2,h3⟩
  mono:=by rintro w F G cs x ⟨v0,rfl,h0,h1,h2,h3⟩ ha;exact ⟨v0,rfl,h0.mono ha,h1,h2,h3⟩
instance:El Rsl λ e d w O x G=>∀ (a:Option Addr) (b:Nat),T3 x.verdict->T3 x.cost->T3 x.expanded->Al e (.V (.slice a x.plan.length b) x.plan :: .V (.agg #[(.int .i64 x.verdict),(.slice a x.plan.length b),(.int .i64 x.cost),(.int .i64 x.expanded)]) x :: d) w O->G (.agg #[(.int .i64 x.verdict),(.slice a x.plan.length b),(.int .i64 x.cost),(.int .i64 x.expanded)]):=⟨λ f h k=>by
  have c:=h;unfold Vb at c;obtain ⟨cs,rfl,v1,rfl,h2,r5,r6,r7⟩:=c;obtain ⟨a,b,rfl⟩:=h2.form;exact k a b r5 r6 r7 ⟨h2,h,f⟩⟩
end
section
open Go Go.RowKit
attribute [local irreducible] ewp owp hwp hwq hws Ev Evg Fn T9 V1 U8 U4
attribute [local irreducible] hwx V7
structure Wtr where
  t:Tpl
  first:List Int
  last:Int
  left:List Int
  out:List Int
instance:Ow Wtr where
  R w F l v x:=∃ (g:Nat) (L:Lab) (a b c d e f h:Value),v=.pointer (some ⟨g,0,none⟩)/\Blk w g 112 [a,b,c,d,e,.int .i64 x.last,f,h]/\l g/\L g=0/\Vb w F a x.t.vars/\Vb w F b x.t.init/\Vb w F c x.t.goal/\Vb w F d x.t.jobs/\RwM w F (λ k=>l k/\L k=1) 3 e x.first/\T3 x.last/\RwM w F (λ k=>l k/\L k=2) 3 f x.left/\RwM w F (λ k=>l k/\L k=3) 3 h x.out
  agree:=by rintro w w' F l v x ⟨g,L,a,b,c,d,e,f,h,rfl,hb,hM,hL,h0,h1,h2,h3,h4,h5,h6,h7⟩ a1 a2;exact ⟨g,L,a,b,c,d,e,f,h,rfl,hb.keep (a2 g hM),hM,hL,h0.agree a1,h1.agree a1,h2.agree a1,h3.agree a1,h4.agree a1 λ k hk=>a2 k hk.1,h5,h6.agree a1 λ k hk=>a2 k hk.1,h7.agree a1 λ k hk=>a2 k hk.1⟩
  mono:=by rintro w F l i j v x ⟨g,L,a,b,c,d,e,f,h,rfl,hb,hM,hL,h0,h1,h2,h3,h4,h5,h6,h7⟩ a1 a2 a3;exact ⟨g,L,a,b,c,d,e,f,h,rfl,hb,a2 g hM,hL,h0.mono a1,h1.mono a1,h2.mono a1,h3.mono a1,h4.mono a1 (λ k hk=>⟨a2 k hk.1,hk.2⟩) λ k hf hm=>a3 k hf hm.1,h5,h6.mono a1 (λ k hk=>⟨a2 k hk.1,hk.2⟩) λ k hf hm=>a3 k hf hm.1,h7.mono a1 (λ k hk=>⟨a2 k hk.1,hk.2⟩) λ k hf hm=>a3 k hf hm.1⟩
theorem Wtr.opn {i:Nat} {w:World} {O:Lab} {p:Nat} {x:Wtr} (h:Ob i w O (.pointer (some ⟨p,0,none⟩)) x) (l0 c d e:Nat) (hl:l0≠0/\c≠0/\d≠0/\e≠0):∃ (a:Lab) (f l m n o r s:Value),St (eT i) w O w a/\(∀ k,Fr i w O k->∃ q,q∈[l0,c,d,e]/\Fr q w a k)/\Lc l0 w a p 112 [f,l,m,n,o,.int .i64 x.last,r,s]/\Vb w (Fr 0 w a) f x.t.vars/\Vb w (Fr 0 w a) l x.t.init/\Vb w (Fr 0 w a) m x.t.goal/\Vb w (Fr 0 w a) n x.t.jobs/\Rw c w a 3 o x.first/\T3 x.last/\Rw d w a 3 r x.left/\Rw e w a 3 s x.out:=by
  obtain ⟨⟨g,L,f,l,m,n,o,r,s,b,hb,hM,hL,h0,h1,h2,h3,h4,h5,h6,h7⟩,hi⟩:=h;obtain rfl:p=g:=(by injection b with b;injection b with b;injection b);exact ⟨part O i L [l0,c,d,e],f,l,m,n,o,r,s,Md hi,KU (by simp),⟨hb,(FK (j:=0) rfl p ⟨hM,hL⟩).2⟩,h0.mono (DS hi),h1.mono (DS hi),h2.mono (DS hi),h3.mono (DS hi),h4.rw (DS hi) (FK (j:=1) rfl) hl.2.1,h5,h6.rw (DS hi) (FK (j:=2) rfl) hl.2.2.1,h7.rw (DS hi) (FK (j:=3) rfl) hl.2.2.2⟩
theorem Wtr.shut {w:World} {O:Lab} {p:Nat} {x:Wtr} {l0 c d f:Nat} {j l n o r s u:Value} (hd:¬ 0∈[l0,c,d,f]/\[l0,c,d,f].idxOf l0=0/\[l0,c,d,f].idxOf c=1/\[l0,c,d,f].idxOf d=2/\[l0,c,d,f].idxOf f=3) (hb:Lc l0 w O p 112 [j,l,n,o,r,.int .i64 x.last,s,u]) (y:Vb w (Fr 0 w O) j x.t.vars) (z:Vb w (Fr 0 w O) l x.t.init) (A:Vb w (Fr 0 w O) n x.t.goal) (B:Vb w (Fr 0 w O) o x.t.jobs) (C:Rw c w O 3 r x.first) (D:T3 x.last) (E:Rw d w O 3 s x.left) (F:Rw f w O 3 u x.out):∃ h,St (·∈[l0,c,d,f]) w O w h/\(∀ k,Fr 0 w O k->Fr 0 w h k)/\(∀ q,q∈[l0,c,d,f]->∀ k,Fr q w O k->Fr l0 w h k)/\Ob l0 w h (.pointer (some ⟨p,0,none⟩)) x:=by
  have g:l0≠0:=λ e=>hd.1 (by simp [e]);have v:=ES (i:=l0) hd.2.1 (by simp) p ⟨hb.1.lt,hb.2⟩;exact ⟨Z3 O l0 [l0,c,d,f],KV,CI hd.1,JT,⟨p,λ k=>[l0,c,d,f].idxOf (O k),j,l,n,o,r,s,u,rfl,hb.1,v.1,v.2,y.mono (CI hd.1),z.mono (CI hd.1),A.mono (CI hd.1),B.mono (CI hd.1),C.m (CI hd.1) (ES hd.2.2.1 (by simp)) (λ k a b=>W6 g k a b.1),D,E.m (CI hd.1) (ES hd.2.2.2.1 (by simp)) (λ k a b=>W6 g k a b.1),F.m (CI hd.1) (ES hd.2.2.2.2 (by simp)) (λ k a b=>W6 g k a b.1)⟩,g⟩
noncomputable def CC (e:List Lch) (d:Lch):Option Int :=
  bnd (rng (ρ:=Int) (λ (c:Nat) (b:Lch) (f:Unit)=>if d.tm=b.tm/\d.job=b.job then (some (.ret (c:Int))) else (some (.next ()))) e 0 ()) λ a=>fin a λ (g:Unit)=>some (-1)
section
attribute [local irreducible] Vb Lc Rw Ob
theorem HR {w:World} {A:Nat->Prop} (hA:∀ k,A k->k < w.heap.size) {b:Value} {e:List Lch} (g:Vb w A b e) {c:Value} {f:Lch} (h:Vb w A c f) {p:Int} (hm:CC e f=some p) :
    Fn prog 93 [b,c] w λ v w'=>Ext w w'/\Vb w' (upA A w w') v p:=by
 obtain ⟨_,_,_⟩:=CP hA;apply Ct g;intros;apply Ct h;intros;refine AH func93 rfl ntmps93 ?_;unfold CC at hm;refine Ah (Ae (Do 2 ?_));intros;refine Au rfl (o_z (Ah (Ah (Ae (Ar rfl (AT rfl (Ar rfl (o_z (Df (X:=Unit) hm [0,3] [] [] [] (λ _ _ _ _ t=>t) (λ _ _ _ _ t=>t) () ?_ ?_)))))))))
 ·intro j l m _ _ _ _ a n _ i;intros;refine Ah (Ae (Ar rfl (Au rfl (o_z (Ah (Xn (BL (DX 0 6)) ?_))))));refine Hk rfl (AS rfl rfl (AS rfl rfl ?_));refine Ox rfl ?_;intros;refine SC rfl (AbE rfl rfl rfl rfl (λ d=>?_) λ d=>?_)
  ·replace a:=ip a d;refine h_z (Am rfl (Ah (Ae (Ar rfl (Au rfl (o_z (AE ?_)))))));obtain rfl:=sm a;obtain rfl:=i _ rfl;exact Cb
  replace a:=im a d;refine h_z (Aj rfl (AK ?_));exact Cl () a
 intro o _ _ _ _ hm;intros;refine Bu ?_;refine Ah (Ae (Au rfl (o_z (AE ?_))));obtain rfl:=sm hm;exact Cb
end
noncomputable def Cm (c:List Lch) (d:Lch):Option Bool :=
  bnd (bnd (CC c d) λ a=>if 0<=a then (some true) else (some false):Option Bool) λ b=>some b
section
attribute [local irreducible] Vb Lc Rw Ob
theorem Hn {w:World} {A:Nat->Prop} (hA:∀ k,A k->k < w.heap.size) {b:Value} {f:List Lch} (i:Vb w A b f) {c:Value} {g:Lch} (j:Vb w A c g) {m:Bool} (hm:Cm f g=some m) :
    Fn prog 44 [b,c] w λ v w'=>Ext w w'/\Vb w' (upA A w w') v m:=by
 obtain ⟨_,_,_⟩:=CP hA;apply Ct i;intros;apply Ct j;intros;refine AH func44 rfl ntmps44 ?_;unfold Cm at hm;refine Ah (Ae (Do 2 ?_));intros;refine Au rfl (o_z (Ah (Ck (X:=Unit) hm [] [] [] [] (λ _ _ d _ t=>(4,.bool d) :: t) (λ _ _ _ _ t=>t) ?_ ?_)))
 ·intro d a;refine Ae (Ar rfl (EA ?_));obtain ⟨l,f0,a⟩:=bs a;refine Dj rfl (HR (λ _ h=>h) zA zA f0) ?_;intros;refine ER rfl rfl (λ e=>?_) λ e=>?_
  ·replace a:=ip a e;refine Au rfl (o_z ?_);obtain rfl:=sm a;exact AV ()
  replace a:=im a e;refine Au rfl (o_z ?_);obtain rfl:=sm a;exact AV ()
 intro d _ _ _ _ hm;intros;refine Bu ?_;refine AE ?_;obtain rfl:=sm hm;exact Cb
end
noncomputable def EJ (d:Wtr):Option Wtr :=
  bnd (T4 (2 * (d.t.jobs.length:Int))) λ m=>bnd (T5 8 d.out ([m]:List Int)) λ n=>bnd (rng (ρ:=Wtr) (λ (c:Nat) (p:Job) (b:Wtr)=>bnd (b.first[c]?) λ f=>bnd (b.left[c]?) λ g=>bnd (T4 (f + g)) λ h=>bnd (T5 8 b.out ([h]:List Int)) λ i=>bnd (b.left[c]?) λ j=>bnd (T4 (j - 1)) λ k=>bnd (b.left[c]?) λ o=>some (.next (⟨(⟨b.t.vars,b.t.init,b.t.goal,b.t.jobs⟩:Tpl),b.first,b.last,(b.left.set c (max 0 k)),i⟩:Wtr))) d.t.jobs 0 (⟨(⟨d.t.vars,d.t.init,d.t.goal,d.t.jobs⟩:Tpl),d.first,d.last,d.left,n⟩:Wtr)) λ e=>fin e λ (a:Wtr)=>bnd (T5 8 a.out ([a.last]:List Int)) λ l=>some (⟨(⟨a.t.vars,a.t.init,a.t.goal,a.t.jobs⟩:Tpl),a.first,a.last,a.left,l⟩:Wtr)
theorem Mj {w:World} {O:Lab} {p0 i0:Nat} {x0:Wtr} (m1:Ob i0 w O (.pointer (some ⟨p0,0,none⟩)) x0) {r:Wtr} (hm:EJ x0=some r) :
    Fn prog 45 [(.pointer (some ⟨p0,0,none⟩))] w λ v w'=>∃ O',St (eT i0) w O w' O'/\Ob i0 w' O' (.pointer (some ⟨p0,0,none⟩)) r:=by
 obtain ⟨O0,hE,k4,l4⟩:=X9 (w:=w) (O:=O) m1.2;have m1':=Ob.leave m1 k4 l4 (j:=2) (by decide);have hB:Bm w O0 w O0:=Bm.refl;refine AH func45 rfl ntmps45 ?_;unfold EJ at hm;refine Ah ?_;obtain ⟨O2,v6,z7,a8,b8,c8,d8,e8,S3,f8,h4,h7,h2,i2,k1,j2,m4,k2,l2⟩:=Wtr.opn m1' 2 3 4 5 (by decide);obtain ⟨A8,c9,rfl⟩:=h7.form;obtain ⟨g8,h8,rfl⟩:=h2.form;obtain ⟨i8,j8,rfl⟩:=i2.form;obtain ⟨k8,l8,rfl⟩:=k1.form;obtain ⟨m8,n8,rfl⟩:=j2.form;obtain ⟨o8,p8,rfl⟩:=k2.form;obtain ⟨q8,r8,rfl⟩:=l2.form;refine BT [(13,[5])] O2 ?_;refine AP (fuel:=6) [] (BL (DX 1 11)) rfl (AS rfl rfl (DN rfl rfl (AU rfl rfl (Bc (hc:=By h4 7 rfl) rfl rfl (AS rfl rfl (DN rfl rfl (AU rfl rfl (AU rfl rfl (Bc (hc:=By h4 3 rfl) rfl rfl (LL rfl rfl ?_))))))))));have n4:=BK k1.len;have s8:=rngNat n4;obtain ⟨o4,t3,hm⟩:=bs hm;have p4:=(BJ t3);refine Yy (he:=t3) rfl rfl rfl rfl (AC ?_);refine AP (fuel:=5) [5] [(0,true)] rfl (AS rfl rfl (AC (AJ (i:=12) rfl ?_)));refine BI 6 O2 (xs:=(([o4]:List Int):List Int)) rfl rfl rfl ⟨(vInt p4),trivial⟩ λ t8 u8 v8 l1 q4=>?_;have hZ:=lZ l1;refine Be [(13,[5])] hZ (AJ (i:=13) rfl ?_);obtain ⟨r4,r2,hm⟩:=bs hm;obtain ⟨r2,s4,t4⟩:=Bz r2;replace l2:=l2.st l1;refine Cj rfl l2 (q4.rd) rfl rfl s4 t4 λ w8 x8 y8 z8 n1 m2=>?_;rw [<- r2] at m2 ⊢;have hZ:=n1.lst [5] (λ _ h=>by cases h;decide);refine Be [] hZ ?_;refine AP (fuel:=1) [] (BL [14,15]) rfl (DN rfl rfl (AU rfl rfl (AC (AJ (i:=16) rfl ?_))));replace h4:=(h4.st l1).st n1;refine AR h4 rfl rfl rfl (AY) (allOne) λ a9 n2 h4=>?_;refine BM (Bi (Ah (Ah (Ae (Ar rfl (Dr rfl (AD rfl (AD rfl (AQ (hc:=Blk.cell (i:=3) (h4.1) rfl) rfl (AT rfl ?_))))))))));replace k1:=((k1.st l1).st n1).st n2;have s2:=BK k1.len;have b9:=rngNat s2;refine Ar rfl (o_z ?_);have d0:=(l1.an n1).an n2;replace h7:=h7.st d0;replace h2:=h2.st d0;replace i2:=i2.st d0;replace j2:=j2.st d0;replace k2:=k2.st d0;replace m2:=m2.st n2;obtain ⟨u4,v4,w4,x4,y4⟩:=Wtr.shut (x:=(⟨(⟨x0.t.vars,x0.t.init,x0.t.goal,x0.t.jobs⟩:Tpl),x0.first,x0.last,x0.left,r4⟩:Wtr)) (l0:=2) (by decide) h4 h7 h2 i2 k1 j2 m4 k2 m2;obtain ⟨u3,t2,hm⟩:=bs hm;replace hB:=((((hB.st S3).st l1).st n1).st n2).st v4;refine Dv (X:=Unit) (x0.t.jobs.length) t2 rfl s2 (λ j0 v3=>[(0,(.pointer (some ⟨p0,0,none⟩)))]) (λ j0 v3 w'=>∃ O':Lab,Bm w O0 w' O'/\Ob 2 w' O' (.pointer (some ⟨p0,0,none⟩)) j0) () ⟨u4,hB,y4⟩ ⟨rfl,rfl,rfl,trivial⟩ (λ _ _=>rfl) ?_ ?_
 ·rintro w3 d9 j0 v3 e9 z4 u2 ⟨f9,hB,v2⟩ a0 w2 x2;have rk73:=V5 u2 s2;refine Ah (Ae (Ar rfl (Au rfl (o_z (Ah ?_)))));obtain ⟨x3,g9,h9,i9,a5,b5,c5,d5,e5,f5,k0,o2,p2,q2,q0,m0,y2,c0,r0⟩:=Wtr.opn v2 2 3 4 5 (by decide);obtain ⟨j9,k9,rfl⟩:=o2.form;obtain ⟨l9,m9,rfl⟩:=p2.form;obtain ⟨g5,h5,rfl⟩:=q2.form;obtain ⟨i5,j5,rfl⟩:=q0.form;obtain ⟨k5,l5,rfl⟩:=m0.form;obtain ⟨m5,n5,rfl⟩:=c0.form;obtain ⟨o5,p5,rfl⟩:=r0.form;refine BT [(21,[5])] x3 ?_;refine AP (fuel:=6) [] (BL (DX 1 19)) rfl (AS rfl rfl (DN rfl rfl (AU rfl rfl (Bc (hc:=By k0 7 rfl) rfl rfl (AS rfl rfl (DN rfl rfl (AU rfl rfl (Bc (hc:=By k0 4 rfl) rfl rfl (AS rfl rfl ?_)))))))));obtain ⟨q5,z2,a0⟩:=bs a0;obtain ⟨r5,s5,y3,o1,p1,q1,r1,rfl,t5⟩:=m0.elemF z2;refine Em (hA:=o1) (hj:=rfl) (hlt:=q1) rfl rfl rfl (Bc (hc:=LN p1 r1) rfl rfl (AS rfl rfl (DN rfl rfl (AU rfl rfl (Bc (hc:=By k0 6 rfl) rfl rfl (AS rfl rfl ?_))))));obtain ⟨u5,a3,a0⟩:=bs a0;obtain ⟨v5,w5,z3,s1,t1,u1,v1,rfl,x5⟩:=c0.elemF a3;refine Em (hA:=s1) (hj:=rfl) (hlt:=u1) rfl rfl rfl (Bc (hc:=LN t1 v1) rfl rfl ?_);obtain ⟨b3,w1,a0⟩:=bs a0;have c3:=(BJ w1);refine MD (he:=w1) rfl rfl rfl (AC ?_);refine AP (fuel:=5) [5] [(0,true)] rfl (AS rfl rfl (AC (AJ (i:=20) rfl ?_)));refine BI 7 x3 (xs:=(([b3]:List Int):List Int)) rfl rfl rfl ⟨(vInt c3),trivial⟩ λ y5 z5 a6 h0 d3=>?_;have hZ:=lZ h0;refine Be [(21,[5])] hZ (AJ (i:=21) rfl ?_);obtain ⟨e3,g1,a0⟩:=bs a0;obtain ⟨g1,f3,g3⟩:=Bz g1;replace r0:=r0.st h0;refine Cj rfl r0 (d3.rd) rfl rfl f3 g3 λ b6 c6 d6 h3 n0 s0=>?_;rw [<- g1] at s0 ⊢;have hZ:=n0.lst [5] (λ _ h=>by cases h;decide);refine Be [] hZ ?_;refine AP (fuel:=1) [] (BL [22,23]) rfl (DN rfl rfl (AU rfl rfl (AC (AJ (i:=24) rfl ?_))));replace k0:=(k0.st h0).st n0;refine AR k0 rfl rfl rfl (AY) (allOne) λ e6 t0 k0=>?_;refine BM (Bi ?_);refine BT [] h3 ?_;refine AP (fuel:=1) [] (BL (DX 0 15)) rfl (AS rfl rfl (DN rfl rfl (AU rfl rfl (Bc (hc:=By k0 6 rfl) rfl rfl (AS rfl rfl (AS rfl rfl (DN rfl rfl (AU rfl rfl (Bc (hc:=By k0 6 rfl) rfl rfl (AS rfl rfl ?_))))))))));obtain ⟨f6,i3,a0⟩:=bs a0;replace c0:=((c0.st h0).st n0).st t0;obtain ⟨g6,h6,a4,x1,y1,z1,a2,rfl,i6⟩:=c0.elemF i3;refine Em (hA:=x1) (hj:=rfl) (hlt:=z1) rfl rfl rfl (Bc (hc:=LN y1 a2) rfl rfl ?_);obtain ⟨h1,b2,a0⟩:=bs a0;have j3:=(BJ b2);refine Se (he:=b2) rfl rfl rfl rfl (Abf rfl rfl rfl rfl ?_);obtain ⟨j6,c2,a0⟩:=bs a0;obtain ⟨k6,l6,b4,f1,c4,d2,d4,rfl,m6⟩:=c0.elemF c2;refine Em (hA:=f1) (hj:=rfl) (hlt:=d2) rfl rfl rfl (AC (AJ (i:=15) rfl ?_));refine GG rfl c0 (a:=(max 0 h1)) (vInt (rngMax (T8 0) j3)) f1 rfl rfl (AO c2) λ n6 u0 c0=>?_;refine BM (Bi ?_);have e0:=((h0.an n0).an t0).an u0;replace k0:=k0.st u0;replace o2:=o2.st e0;replace p2:=p2.st e0;replace q2:=q2.st e0;replace q0:=q0.st e0;replace m0:=m0.st e0;replace s0:=(s0.st t0).st u0;obtain ⟨o6,k3,e4,f4,l3⟩:=Wtr.shut (x:=(⟨(⟨j0.t.vars,j0.t.init,j0.t.goal,j0.t.jobs⟩:Tpl),j0.first,j0.last,(j0.left.set w3 (max 0 h1)),e3⟩:Wtr)) (l0:=2) (by decide) (by have q:=k0;rw [<- ((by simp:(j0.left.set w3 (max 0 h1)).length=j0.left.length).trans rfl)] at q;exact q) o2 p2 q2 q0 m0 y2 c0.relen s0;obtain rfl:=sm a0;exact show Exists _ from ⟨_,(),rfl,⟨rfl,rfl,rfl,trivial⟩,_,(((((hB.st e5).st h0).st n0).st t0).st u0).st k3,l3⟩
 rintro p6 q6 ⟨f0,r6,rfl,e2,s6,hB,v2⟩;replace hm:=BE hm;refine AX _ e2 ?_;obtain ⟨f2,t6,u6,w6,x6,y6,z6,a7,m3,g4,g0,v0,w0,y0,z0,a1,g2,b1,c1⟩:=Wtr.opn v2 2 3 4 5 (by decide);obtain ⟨b7,c7,rfl⟩:=v0.form;obtain ⟨d7,e7,rfl⟩:=w0.form;obtain ⟨f7,g7,rfl⟩:=y0.form;obtain ⟨i7,j7,rfl⟩:=z0.form;obtain ⟨k7,l7,rfl⟩:=a1.form;obtain ⟨m7,n7,rfl⟩:=b1.form;obtain ⟨o7,p7,rfl⟩:=c1.form;refine BT [(10,[5])] f2 ?_;refine AP (fuel:=6) [] (BL (DX 1 8)) rfl (AS rfl rfl (DN rfl rfl (AU rfl rfl (Bc (hc:=By g0 7 rfl) rfl rfl (AS rfl rfl (DN rfl rfl (AU rfl rfl (Bc (hc:=By g0 5 rfl) rfl rfl (AC ?_)))))))));refine AP (fuel:=5) [5] [(0,true)] rfl (AS rfl rfl (AC (AJ (i:=9) rfl ?_)));refine BI 8 f2 (xs:=(([f0.last]:List Int):List Int)) rfl rfl rfl ⟨(vInt g2),trivial⟩ λ q7 r7 s7 o0 n3=>?_;have hZ:=lZ o0;refine Be [(10,[5])] hZ (AJ (i:=10) rfl ?_);obtain ⟨o3,i1,hm⟩:=bs hm;obtain ⟨i1,p3,q3⟩:=Bz i1;replace c1:=c1.st o0;refine Cj rfl c1 (n3.rd) rfl rfl p3 q3 λ t7 u7 v7 w7 d1 e1=>?_;rw [<- i1] at e1 ⊢;have hZ:=d1.lst [5] (λ _ h=>by cases h;decide);refine Be [] hZ ?_;refine AP (fuel:=1) [] (BL [11,12]) rfl (DN rfl rfl (AU rfl rfl (AC (AJ (i:=13) rfl ?_))));replace g0:=(g0.st o0).st d1;refine AR g0 rfl rfl rfl (AY) (allOne) λ x7 j1 g0=>?_;refine BM (Bi ?_);have b0:=(o0.an d1).an j1;replace v0:=v0.st b0;replace w0:=w0.st b0;replace y0:=y0.st b0;replace z0:=z0.st b0;replace a1:=a1.st b0;replace b1:=b1.st b0;replace e1:=e1.st j1;obtain ⟨y7,r3,i4,j4,s3⟩:=Wtr.shut (x:=(⟨(⟨f0.t.vars,f0.t.init,f0.t.goal,f0.t.jobs⟩:Tpl),f0.first,f0.last,f0.left,o3⟩:Wtr)) (l0:=2) (by decide) g0 v0 w0 y0 z0 a1 g2 b1 e1;obtain rfl:=sm hm;replace hB:=((((hB.st m3).st o0).st d1).st j1).st r3;obtain ⟨O',hS',hz,hl⟩:=hE.leave (λ q=>if q=2 then i0 else 0) rfl hB;exact AcQ rfl  ⟨O',hS',(Ob.leave s3 hz (hl 2 (by decide) (by decide)) m1.2)⟩
noncomputable def GU (e:Tpl) (O:List Lch):Option ((List Int)×Err) :=
  bnd (Fq e O) λ f=>if f.2.n≠0 then (some (([]:List Int),(⟨f.2.n⟩:Err))) else (bnd (DA e) λ o=>if o.2.n≠0 then (some (([]:List Int),(⟨o.2.n⟩:Err))) else (bnd (T4 (2 * (O.length:Int))) λ P=>bnd (T4 ((e.jobs.length:Int) + 2)) λ Q=>bnd (T4 (f.1 * Q)) λ R=>bnd (T4 (P + R)) λ S=>if 65536 < S then (some (([]:List Int),(⟨5⟩:Err))) else (bnd (T4 ((o.1.ops.length:Int) - 1)) λ T=>bnd (mkI 8 (0:Int) (e.jobs.length:Int)) λ p=>bnd (T4 (2 * (e.jobs.length:Int))) λ q=>bnd (T4 (q + 1)) λ r=>bnd (rng (ρ:=(List Int)×Err) (λ (U:Nat) (s:Job) (a:Int×Wtr)=>bnd (T5 8 a.2.first [a.1]) λ u=>bnd (T4 (s.dur + 1)) λ v=>bnd (T4 (a.1 + v)) λ w=>some (.next (w,(⟨(⟨a.2.t.vars,a.2.t.init,a.2.t.goal,a.2.t.jobs⟩:Tpl),u,a.2.last,a.2.left,a.2.out⟩:Wtr)))) e.jobs 0 (r,(⟨(⟨e.vars,e.init,e.goal,e.jobs⟩:Tpl),([]:List Int),T,p,([]:List Int)⟩:Wtr))) λ h=>fin h λ (x:Int×Wtr)=>bnd (Hm O) λ y=>bnd (T4 (f.1 + 1)) λ z=>bnd (Y5 z) λ A=>bnd (rngN (ρ:=(List Int)×Err) (λ (g:Nat) (B:Wtr)=>bnd (rng (ρ:=Ctl Wtr ((List Int)×Err)) (λ (l:Nat) (C:Job) (c:Wtr)=>bnd (T4 ((g:Int) - C.dur)) λ D=>bnd (Cm O (⟨D,(l:Int)⟩:Lch)) λ E=>if E=true then bnd (T4 (2 * (l:Int))) λ F=>bnd (T4 (F + 1)) λ G=>bnd (T5 8 c.out [G]) λ H=>some (.next (⟨(⟨c.t.vars,c.t.init,c.t.goal,c.t.jobs⟩:Tpl),c.first,c.last,c.left,H⟩:Wtr)) else some (.next c)) e.jobs 0 B) λ i=>fin i λ (I:Wtr)=>bnd (rng (ρ:=Ctl Wtr ((List Int)×Err)) (λ (V:Nat) (d:Lch) (b:Wtr)=>if d.tm=(g:Int) then (bnd (T4 (2 * d.job)) λ J=>bnd (T5 8 b.out ([J]:List Int)) λ K=>bnd (atI e.jobs d.job) λ L=>bnd (atI b.left d.job) λ W=>some (.next (⟨(⟨b.t.vars,b.t.init,b.t.goal,b.t.jobs⟩:Tpl),b.first,b.last,(b.left.set (d.job:Int).toNat L.dur),K⟩:Wtr))) else (some (.next b))) y 0 I) λ j=>fin j λ (m:Wtr)=>if (g:Int) < f.1 then (bnd (EJ m) λ M=>some (.next M)) else (some (.next m))) A x.2) λ k=>fin k λ (N:Wtr)=>some (N.out,(⟨0⟩:Err)))))
theorem QT {w:World} {A:Nat->Prop} (hA:∀ k,A k->k < w.heap.size) {vx0:Value} {x0:Tpl} (w6:Vb w A vx0 x0) {vx1:Value} {x1:List Lch} (v3:Vb w A vx1 x1) {r:(List Int)×Err} (hm:GU x0 x1=some r) :
    Fn prog 13 [vx0,vx1] w λ v w'=>Ext w w'/\T2 w' (upA A w w') v r:=by
 obtain ⟨O,hB,yL⟩:=enter hA;obtain ⟨zL,rfl,v4,v5,v6,v7,rfl,h8,sA,tA,m1⟩:=id w6;obtain ⟨A9,d6,rfl⟩:=h8.form;obtain ⟨e6,f6,rfl⟩:=sA.form;obtain ⟨g6,h6,rfl⟩:=tA.form;obtain ⟨t3,u3,rfl⟩:=m1.form;obtain ⟨i6,j6,rfl⟩:=v3.form;refine AH func13 rfl ntmps13 ?_;unfold GU at hm;refine Ah (Ae (Fi 2 O rfl λ u2 x6 y6 zB d0=>?_));refine Au rfl (Au rfl (o_z (Ah (Ae (BX (hl:=rfl) (hc:=(d0.1).cellsAt) rfl (Ar rfl ?_))))));obtain ⟨w3,aC,hm⟩:=bs hm;replace hB:=hB.st zB;refine Oq (O:=y6) (A:=All x6) (R:=λ w' F v=>T2 w' F v w3) (Np (λ _ h=>h) (Vb.mono (F:=Fr 0 x6 y6) (w6.zs hA hB) Fr.lt) (Vb.mono (F:=Fr 0 x6 y6) (v3.zs hA hB) Fr.lt) aC) rfl rfl λ aM bC uA z6 cC=>?_;obtain ⟨bM,cM,rfl,dC,eC⟩:=cC;obtain ⟨rfl,dM⟩:=dC.int;obtain ⟨rfl,fC⟩:=eC.err;refine Ar rfl (BW rfl rfl (BW rfl rfl (Au rfl (Au rfl (o_z (Ah (Ah (Ae (Ar rfl (FA rfl (λ a7=>?_) λ a7=>?_))))))))))
 ·replace hm:=ip hm a7;refine o_z (Am rfl (Ah (Ae (Ar rfl (Au rfl (Au rfl (o_z (AE ?_))))))));obtain rfl:=sm hm;replace hB:=hB.st z6;exact U6 rfl (AF rfl) (AF rfl) ⟨hB.ext,_,_,rfl,(Vb.mono (F:=Fr 0 bC uA) (Vb.nil _ _) hB.out),(vErr fC)⟩
 replace hm:=im hm a7;refine o_z (Aj rfl (AK (Ah (Ae ?_))));replace d0:=d0.st z6;refine BX (hl:=rfl) (hc:=(d0.1).cellsAt) rfl ?_;obtain ⟨gC,hC,hm⟩:=bs hm;replace hB:=hB.st z6;refine Ix (O:=uA) (R:=λ w' F v=>T2 w' F v gC) (Is Fr.lt (w6.zs hA hB) hC) rfl rfl λ eM fM iC k6 jC=>?_;obtain ⟨gM,hM,rfl,kC,lC⟩:=jC;obtain ⟨mC,rfl,iM,jM,kM,lM,rfl,nC,oC,pC,l6⟩:=kC;obtain ⟨mM,nM,rfl⟩:=nC.form;obtain ⟨oM,pM,rfl⟩:=oC.form;obtain ⟨qM,rM,rfl⟩:=pC.form;obtain ⟨sM,tM,rfl⟩:=l6.form;obtain ⟨rfl,qC⟩:=lC.err;refine Ar rfl (BW rfl rfl (BW rfl rfl (Bw 3 iC λ uM vM m6 x3 b7=>?_)));refine AR b7 rfl rfl rfl (AY) (allOne) λ vA y3 b7=>?_;refine Au rfl (o_z (Ah (Ah (Ae (Ar rfl (FA rfl (λ c7=>?_) λ c7=>?_))))))
 ·replace hm:=ip hm c7;refine o_z (Am rfl (Ah (Ae (Ar rfl (Au rfl (Au rfl (o_z (AE ?_))))))));obtain rfl:=sm hm;replace hB:=((hB.st k6).st x3).st y3;exact U6 rfl (AF rfl) (AF rfl) ⟨hB.ext,_,_,rfl,(Vb.mono (F:=Fr 0 vA m6) (Vb.nil _ _) hB.out),(vErr qC)⟩
 replace hm:=im hm c7;refine o_z (Aj rfl (AK (Ah (Ah (Ae (Ar rfl (AT rfl ?_)))))));have rC:=BK v3.len;have wM:=rngNat rC;obtain ⟨xM,wA,hm⟩:=bs hm;have yM:=(BJ wA);refine JL (he:=wA) rfl rfl (Ar rfl (AD rfl ?_));replace d0:=((d0.st k6).st x3).st y3;refine AQ (hc:=Blk.cell (i:=3) (d0.1) rfl) rfl (AT rfl ?_);have sC:=BK m1.len;have zM:=rngNat sC;obtain ⟨aN,xA,hm⟩:=bs hm;have bN:=(BJ xA);refine DD (he:=xA) rfl rfl ?_;obtain ⟨cN,yA,hm⟩:=bs hm;have dN:=(BJ yA);refine JL (he:=yA) rfl rfl ?_;obtain ⟨eN,zA,hm⟩:=bs hm;have fN:=(BJ zA);refine DD (he:=zA) rfl rfl (Cw rfl rfl (λ d7=>?_) λ d7=>?_)
 ·replace hm:=ip hm d7;refine o_z (Am rfl (Ah (Ae (Ex rfl (Au rfl (Au rfl (o_z (AE ?_))))))));obtain rfl:=sm hm;replace hB:=((hB.st k6).st x3).st y3;exact U6 rfl (AF rfl) (AF rfl) ⟨hB.ext,_,_,rfl,(Vb.mono (F:=Fr 0 vA m6) (Vb.nil _ _) hB.out),(vErr (by decide))⟩
 replace hm:=im hm d7;refine o_z (Aj rfl (AK (Ah ?_)));refine BT [] m6 ?_;refine AP (fuel:=4) [] (BL (DX 0 8)) rfl (EM (hl:=rfl) (hb:=Gy d0) rfl rfl (AU rfl rfl (Bc (hc:=By b7 3 rfl) rfl rfl (LL rfl rfl ?_))));replace l6:=(l6.st x3).st y3;have tC:=BK l6.len;have gN:=rngNat tC;obtain ⟨uC,aB,hm⟩:=bs hm;have vC:=(BJ aB);refine Se (he:=aB) rfl rfl rfl rfl (AU rfl rfl (Bc (hc:=By d0 3 rfl) rfl rfl (LL rfl rfl ?_)));have e7:=BK m1.len;have wC:=rngNat e7;refine AC (AJ (i:=8) rfl ?_);obtain ⟨f7,g7,hm⟩:=bs hm;obtain ⟨xC,h7,i7,j7,k7⟩:=MA g7;refine PY 4 m6 (z0:=(0:Int)) rfl rfl rfl rfl rfl h7 (vInt (T8 0)) i7 j7 rfl λ yC zC l7 b3 n1=>?_;rw [<- k7] at n1 ⊢;have hZ:=lZ b3;refine Be [] hZ ?_;refine AP (fuel:=2) [] [(9,true)] rfl (Dk rfl rfl rfl ?_);refine AC (AJ (i:=10) rfl ?_);refine Fi 5 l7 rfl λ q0 z3 a4 o1 m7=>?_;have hZ:=lZ o1;refine Be [] hZ ?_;refine AP (fuel:=0) [] [(11,true)] rfl (Ek rfl rfl (AC (Bi (Ah (Ae (AD rfl ?_))))));replace d0:=(d0.st b3).st o1;refine AQ (hc:=Blk.cell (i:=3) (d0.1) rfl) rfl (AT rfl ?_);have n7:=BK m1.len;have aD:=rngNat n7;obtain ⟨bD,b4,hm⟩:=bs hm;have cD:=(BJ b4);refine JL (he:=b4) rfl rfl ?_;obtain ⟨dD,c4,hm⟩:=bs hm;have o7:=(BJ c4);refine DD (he:=c4) rfl rfl (Au rfl (o_z (Ah (Ah (Ae (AD rfl (AQ (hc:=Blk.cell (i:=3) (d0.1) rfl) rfl (AT rfl ?_))))))));have c3:=BK m1.len;have eD:=rngNat c3;refine Ar rfl (o_z ?_);have p7:Rw 6 z3 a4 3 (.slice none 0 0) ([]:List Int):=Rw.nil 6 (by decide);have q7:Rw 7 z3 a4 3 (.slice none 0 0) ([]:List Int):=Rw.nil 7 (by decide);replace hB:=((((hB.st k6).st x3).st y3).st b3).st o1;replace n1:=n1.st o1;obtain ⟨r7,d4,bB,cB,s7⟩:=Wtr.shut (x:=(⟨(⟨x0.vars,x0.init,x0.goal,x0.jobs⟩:Tpl),([]:List Int),uC,f7,([]:List Int)⟩:Wtr)) (l0:=5) (by decide) m7 (h8.zs hA hB) (sA.zs hA hB) (tA.zs hA hB) (m1.zs hA hB) p7 vC n1 q7;obtain ⟨t7,e4,hm⟩:=bs hm;replace hB:=hB.st d4;replace d0:=d0.st d4;refine Dv (X:=Unit) (x0.jobs.length) e4 rfl c3 (λ f0 f4=>[(1,(.slice i6 x1.length j6)),(2,(.pointer (some ⟨u2,0,none⟩))),(6,(.int .i64 w3.1)),(9,(.pointer (some ⟨q0,0,none⟩))),(10,(.int .i64 f0.1)),(65,(.slice t3 x0.jobs.length u3))]) (λ f0 f4 w'=>∃ O':Lab,Bs w A w' O'/\Lc 2 w' O' u2 26 [(.slice A9 x0.vars.length d6),(.slice e6 x0.init.length f6),(.slice g6 x0.goal.length h6),(.slice t3 x0.jobs.length u3)]/\Ob 5 w' O' (.pointer (some ⟨q0,0,none⟩)) f0.2/\T3 f0.1) () ⟨r7,hB,d0,s7,o7⟩ ⟨rfl,rfl,rfl,rfl,rfl,rfl,rfl,rfl,trivial⟩ (λ _ _=>rfl) ?_ ?_
 ·rintro fD gD f0 f4 hD dB v2 ⟨u7,hB,d0,u0,g4⟩ h0 n6 o6;have rk143:=V5 v2 c3;refine Ah (Ae ?_);obtain ⟨iD,jD,eB,h4,i4,j4,kD,lD,mD,nD,oD,rfl,w7,x7,y7,z7,a8,pD,qD⟩:=(m1.zs hA hB).elem' v2;obtain ⟨rD,sD,rfl⟩:=w7.form;obtain ⟨tD,uD,rfl⟩:=x7.form;obtain ⟨vD,wD,rfl⟩:=y7.form;obtain ⟨xD,yD,rfl⟩:=z7.form;obtain ⟨zD,aE,rfl⟩:=a8.form;refine CN (hA:=h4) (hj:=rfl) (hlt:=i4) rfl rfl (BX (hl:=rfl) (hc:=j4) rfl ?_);refine Bw 8 u7 λ bE cE dE k4 h1=>?_;refine AR h1 rfl rfl rfl (AY) (allOne) λ eE l4 h1=>?_;refine o_z (Ah (Ae (Ar rfl (Ar rfl (Dr rfl ?_)))));replace u0:=(u0.st k4).st l4;obtain ⟨fE,gE,hE,iE,jE,kE,lE,mE,m4,fB,d1,p1,q1,r1,s1,n4,b8,t1,u1⟩:=Wtr.opn u0 5 9 10 11 (by decide);obtain ⟨nE,oE,rfl⟩:=p1.form;obtain ⟨pE,qE,rfl⟩:=q1.form;obtain ⟨rE,sE,rfl⟩:=r1.form;obtain ⟨tE,uE,rfl⟩:=s1.form;obtain ⟨vE,wE,rfl⟩:=n4.form;obtain ⟨xE,yE,rfl⟩:=t1.form;obtain ⟨zE,aF,rfl⟩:=u1.form;refine AD rfl (AQ (hc:=Blk.cell (i:=4) (d1.1) rfl) rfl (Ar rfl ?_));obtain ⟨c8,d3,h0⟩:=bs h0;obtain ⟨d3,d8,e8⟩:=Bz d3;refine DQ rfl (a:=f0.1) n4 (vInt g4) (λ _=>rfl) rfl d8 e8 ⟨rfl,rfl⟩ λ bF cF dF eF fF v1 w1=>?_;rw [<- d3] at w1 ⊢;refine Dr rfl (AD rfl ?_);replace d1:=d1.st v1;refine AR d1 rfl rfl rfl (AY) (allOne) λ gF y1 d1=>?_;refine o_z (Ae (Ar rfl (AD rfl ?_)));replace h1:=((h1.st m4).st v1).st y1;refine AQ (hc:=Blk.cell (i:=1) (h1.1) rfl) rfl ?_;obtain ⟨hF,o4,h0⟩:=bs h0;have jF:=(BJ o4);refine DD (he:=o4) rfl rfl ?_;obtain ⟨kF,p4,h0⟩:=bs h0;have f8:=(BJ p4);refine DD (he:=p4) rfl rfl (Au rfl (o_z ?_));have m0:=v1.an y1;replace p1:=p1.st m0;replace q1:=q1.st m0;replace r1:=r1.st m0;replace s1:=s1.st m0;replace t1:=t1.st m0;replace u1:=u1.st m0;replace w1:=w1.st y1;obtain ⟨lF,g8,gB,iB,i8⟩:=Wtr.shut (x:=(⟨(⟨f0.2.t.vars,f0.2.t.init,f0.2.t.goal,f0.2.t.jobs⟩:Tpl),c8,f0.2.last,f0.2.left,f0.2.out⟩:Wtr)) (l0:=5) (by decide) d1 p1 q1 r1 s1 w1 b8 t1 u1;obtain rfl:=sm h0;have w2:=((((k4.an l4).an m4).an v1).an y1).an g8;exact show Exists _ from ⟨_,(),rfl,⟨rfl,rfl,rfl,rfl,rfl,rfl,rfl,rfl,trivial⟩,_,hB.st w2,d0.st w2,i8,f8⟩
 rintro mF nF ⟨oF,pF,rfl,q4,j8,hB,d0,u0,g4⟩;replace hm:=BE hm;refine AX _ q4 ?_;refine Ah (Ae (Ar rfl ?_));obtain ⟨i0,k8,hm⟩:=bs hm;refine Ii (O:=j8) (PB Fr.lt (v3.zs hA hB) k8) rfl λ qF rF l8 e3 e0=>?_;obtain ⟨v0,w0,rfl⟩:=e0.form;refine Au rfl (o_z (Ah (Ah (Ae (Ar rfl ?_)))));obtain ⟨sF,r4,hm⟩:=bs hm;have s4:=(BJ r4);refine DD (he:=r4) rfl rfl (Ar rfl (o_z ?_));obtain ⟨f3,r0,hm⟩:=bs hm;replace r0:=NA r0;obtain ⟨m8,t4,hm⟩:=bs hm;replace hB:=hB.st e3;replace d0:=d0.st e3;replace u0:=u0.st e3;refine NB (X:=Unit) f3 t4 (Ot r0 s4) (λ g3 u4=>[(1,(.slice i6 x1.length j6)),(2,(.pointer (some ⟨u2,0,none⟩))),(6,(.int .i64 w3.1)),(9,(.pointer (some ⟨q0,0,none⟩))),(13,(.slice v0 i0.length w0))]) (λ g3 u4 w'=>∃ O':Lab,Bs w A w' O'/\Lc 2 w' O' u2 26 [(.slice A9 x0.vars.length d6),(.slice e6 x0.init.length f6),(.slice g6 x0.goal.length h6),(.slice t3 x0.jobs.length u3)]/\Ob 5 w' O' (.pointer (some ⟨q0,0,none⟩)) g3/\Vb w' (Fr 0 w' O') (.slice v0 i0.length w0) i0) () ⟨l8,hB,d0,u0,e0⟩ ⟨rfl,(congrArg (λ z=>some (Value.int .i64 z)) r0),rfl,rfl,rfl,rfl,rfl,trivial⟩ (λ _ _=>rfl) ?_ ?_
 ·rintro z1 g3 u4 tF jB w4 ⟨n8,hB,d0,h3,e0⟩ a0 p6 q6;have rk277:=Ac6 w4 (Ot r0 s4);refine Ah (Ae (Ar rfl (Au rfl (o_z (Ah (Ah (Ae (AD rfl (AQ (hc:=Blk.cell (i:=3) (d0.1) rfl) rfl (AT rfl ?_))))))))));have i3:=BK m1.len;have uF:=rngNat i3;refine Ar rfl (o_z ?_);obtain ⟨o8,x4,a0⟩:=bs a0;refine Dv (X:=Unit) (x0.jobs.length) x4 rfl i3 (λ j0 y4=>[(1,(.slice i6 x1.length j6)),(2,(.pointer (some ⟨u2,0,none⟩))),(6,(.int .i64 w3.1)),(9,(.pointer (some ⟨q0,0,none⟩))),(13,(.slice v0 i0.length w0)),(14,(.int .i64 (z1:Int))),(90,(.int .i64 (f3:Int))),(91,(.int .i64 (z1:Int))),(95,(.slice t3 x0.jobs.length u3))]) (λ j0 y4 w'=>∃ O':Lab,Bs w A w' O'/\Lc 2 w' O' u2 26 [(.slice A9 x0.vars.length d6),(.slice e6 x0.init.length f6),(.slice g6 x0.goal.length h6),(.slice t3 x0.jobs.length u3)]/\Ob 5 w' O' (.pointer (some ⟨q0,0,none⟩)) j0/\Vb w' (Fr 0 w' O') (.slice v0 i0.length w0) i0) () ⟨n8,hB,d0,h3,e0⟩ ⟨rfl,rfl,rfl,rfl,rfl,rfl,rfl,rfl,rfl,rfl,rfl,trivial⟩ (λ _ _=>rfl) ?_ ?_
  ·rintro z4 vF j0 y4 wF kB x2 ⟨p8,hB,d0,e1,e0⟩ b0 r6 s6;have rk296:=V5 x2 i3;refine Ah (Ae (Ar rfl ?_));obtain ⟨xF,yF,lB,a5,b5,c5,zF,aG,bG,cG,dG,rfl,q8,r8,s8,t8,u8,eG,fG⟩:=(m1.zs hA hB).elem' x2;obtain ⟨gG,hG,rfl⟩:=q8.form;obtain ⟨iG,jG,rfl⟩:=r8.form;obtain ⟨kG,lG,rfl⟩:=s8.form;obtain ⟨mG,nG,rfl⟩:=t8.form;obtain ⟨oG,pG,rfl⟩:=u8.form;refine CN (hA:=a5) (hj:=rfl) (hlt:=b5) rfl rfl (BX (hl:=rfl) (hc:=c5) rfl ?_);refine Bw 12 p8 λ qG rG j3 a2 k3=>?_;refine Au rfl (AR k3 rfl rfl rfl (AY) (allOne) λ d5 b2 k3=>?_);refine o_z (Ah (Ae (Ar rfl (Ar rfl (AD rfl (AQ (hc:=Blk.cell (i:=1) (k3.1) rfl) rfl ?_))))));obtain ⟨e5,f5,b0⟩:=bs b0;have v8:=(BJ f5);refine II (he:=f5) rfl rfl (Ar rfl (CX rfl rfl ?_));obtain ⟨w8,x8,b0⟩:=bs b0;replace hB:=(hB.st a2).st b2;refine Bv (O:=j3) (Hn (λ _ h=>h) (Vb.mono (F:=Fr 0 d5 j3) (v3.zs hA hB) Fr.lt) (Vb.mono (F:=Fr 0 d5 j3) (Vb.ofAgg (cs:=[(.int .i64 e5),(.int .i64 (z4:Int))]) (x:=(⟨e5,(z4:Int)⟩:Lch)) rfl ⟨rfl,v8,rk296⟩) Fr.lt) x8) rfl λ sG tG uG i1 y8=>?_;obtain rfl:=y8.bool;cases w8
   case false =>
    replace b0:=iF b0;refine o_z (Aj rfl (AK ?_));obtain rfl:=sm b0;have j1:=(a2.an b2).an i1;exact show Exists _ from ⟨_,(),rfl,⟨rfl,rfl,rfl,rfl,rfl,rfl,rfl,rfl,rfl,rfl,rfl,trivial⟩,_,hB.st i1,d0.st j1,e1.st j1,e0.st j1⟩
   replace b0:=iT b0;refine o_z (Am rfl (Ae (Ar rfl (Ar rfl (Dr rfl ?_)))));replace e1:=((e1.st a2).st b2).st i1;obtain ⟨vG,wG,xG,yG,zG,aH,bH,cH,g5,mB,f1,c2,d2,e2,f2,g2,z8,h2,h5⟩:=Wtr.opn e1 5 9 10 11 (by decide);obtain ⟨dH,eH,rfl⟩:=c2.form;obtain ⟨fH,gH,rfl⟩:=d2.form;obtain ⟨hH,iH,rfl⟩:=e2.form;obtain ⟨jH,kH,rfl⟩:=f2.form;obtain ⟨lH,mH,rfl⟩:=g2.form;obtain ⟨nH,oH,rfl⟩:=h2.form;obtain ⟨pH,qH,rfl⟩:=h5.form;refine AD rfl (AQ (hc:=Blk.cell (i:=7) (f1.1) rfl) rfl (Ar rfl ?_));obtain ⟨rH,i5,b0⟩:=bs b0;have sH:=(BJ i5);refine JL (he:=i5) rfl rfl ?_;obtain ⟨a9,j5,b0⟩:=bs b0;have b9:=(BJ j5);refine DD (he:=j5) rfl rfl ?_;obtain ⟨c9,l3,b0⟩:=bs b0;obtain ⟨l3,d9,e9⟩:=Bz l3;refine DQ rfl (a:=a9) h5 (vInt b9) (λ _=>rfl) rfl d9 e9 ⟨rfl,rfl⟩ λ tH uH vH wH xH i2 j2=>?_;rw [<- l3] at j2 ⊢;refine Dr rfl (AD rfl ?_);replace f1:=f1.st i2;refine AR f1 rfl rfl rfl (AY) (allOne) λ yH k2 f1=>?_;refine o_z ?_;have n0:=i2.an k2;replace c2:=c2.st n0;replace d2:=d2.st n0;replace e2:=e2.st n0;replace f2:=f2.st n0;replace g2:=g2.st n0;replace h2:=h2.st n0;replace j2:=j2.st k2;obtain ⟨zH,k5,nB,oB,f9⟩:=Wtr.shut (x:=(⟨(⟨j0.t.vars,j0.t.init,j0.t.goal,j0.t.jobs⟩:Tpl),j0.first,j0.last,j0.left,c9⟩:Wtr)) (l0:=5) (by decide) f1 c2 d2 e2 f2 g2 z8 h2 j2;obtain rfl:=sm b0;have y2:=(((((a2.an b2).an i1).an g5).an i2).an k2).an k5;exact show Exists _ from ⟨_,(),rfl,⟨rfl,rfl,rfl,rfl,rfl,rfl,rfl,rfl,rfl,rfl,rfl,trivial⟩,_,((((hB.st i1).st g5).st i2).st k2).st k5,d0.st y2,f9,e0.st y2⟩
  rintro aI bI ⟨cI,dI,rfl,l5,g9,hB,d0,e1,e0⟩;replace a0:=BE a0;refine AX _ l5 ?_;refine Ah (Ah (Ae (Ar rfl (AT rfl ?_))));have m3:=BK e0.len;have eI:=rngNat m3;refine Ar rfl (o_z ?_);obtain ⟨h9,m5,a0⟩:=bs a0;refine Dv (X:=Unit) (i0.length) m5 rfl m3 (λ g0 n5=>[(1,(.slice i6 x1.length j6)),(2,(.pointer (some ⟨u2,0,none⟩))),(6,(.int .i64 w3.1)),(9,(.pointer (some ⟨q0,0,none⟩))),(13,(.slice v0 i0.length w0)),(14,(.int .i64 (z1:Int))),(90,(.int .i64 (f3:Int))),(91,(.int .i64 (z1:Int))),(123,(.slice v0 i0.length w0))]) (λ g0 n5 w'=>∃ O':Lab,Bs w A w' O'/\Lc 2 w' O' u2 26 [(.slice A9 x0.vars.length d6),(.slice e6 x0.init.length f6),(.slice g6 x0.goal.length h6),(.slice t3 x0.jobs.length u3)]/\Ob 5 w' O' (.pointer (some ⟨q0,0,none⟩)) g0/\Vb w' (Fr 0 w' O') (.slice v0 i0.length w0) i0) () ⟨g9,hB,d0,e1,e0⟩ ⟨rfl,rfl,rfl,rfl,rfl,rfl,rfl,rfl,rfl,rfl,rfl,trivial⟩ (λ _ _=>rfl) ?_ ?_
  ·rintro fI o5 g0 n5 gI pB z2 ⟨i9,hB,d0,y0,e0⟩ c0 t6 u6;have rk428:=V5 z2 m3;refine Ah (Ae ?_);obtain ⟨hI,iI,qB,p5,q5,r5,rfl,jI,kI⟩:=e0.elem' z2;refine CN (hA:=p5) (hj:=rfl) (hlt:=q5) rfl rfl (BX (hl:=rfl) (hc:=r5) rfl ?_);refine Bw 13 i9 λ lI mI nI k1 k0=>?_;refine AR k0 rfl rfl rfl (AY) (allOne) λ oI l1 k0=>?_;refine o_z (Ah (Ae (AD rfl (AQ (hc:=Blk.cell (i:=0) (k0.1) rfl) rfl (Ar rfl (Gw rfl rfl (λ n3=>?_) λ n3=>?_))))))
   ·replace c0:=ip c0 n3;refine o_z (Am rfl (Ah ?_));replace y0:=(y0.st k1).st l1;obtain ⟨s5,pI,qI,rI,sI,tI,uI,vI,l2,rB,o0,m2,n2,o2,p2,q2,j9,a1,r2⟩:=Wtr.opn y0 5 9 10 11 (by decide);obtain ⟨wI,xI,rfl⟩:=m2.form;obtain ⟨yI,zI,rfl⟩:=n2.form;obtain ⟨aJ,bJ,rfl⟩:=o2.form;obtain ⟨cJ,dJ,rfl⟩:=p2.form;obtain ⟨eJ,fJ,rfl⟩:=q2.form;obtain ⟨gJ,hJ,rfl⟩:=a1.form;obtain ⟨iJ,jJ,rfl⟩:=r2.form;refine BT [(9,[11])] s5 ?_;refine AP (fuel:=6) [] (BL (DX 1 7)) rfl (AS rfl rfl (DN rfl rfl (AU rfl rfl (Bc (hc:=By o0 7 rfl) rfl rfl (AU rfl rfl ?_)))));replace k0:=k0.st l2;refine Bc (hc:=By k0 1 rfl) rfl rfl ?_;obtain ⟨k9,t5,c0⟩:=bs c0;have l9:=(BJ t5);refine Yy (he:=t5) rfl rfl rfl rfl (AC ?_);refine AP (fuel:=5) [11] [(0,true)] rfl (AS rfl rfl (AC (AJ (i:=8) rfl ?_)));refine BI 14 s5 (xs:=(([k9]:List Int):List Int)) rfl rfl rfl ⟨(vInt l9),trivial⟩ λ kJ lJ mJ p0 m9=>?_;have hZ:=lZ p0;refine Be [(9,[11])] hZ (AJ (i:=9) rfl ?_);obtain ⟨n9,o3,c0⟩:=bs c0;obtain ⟨o3,o9,p9⟩:=Bz o3;replace r2:=r2.st p0;refine Cj rfl r2 (m9.rd) rfl rfl o9 p9 λ nJ oJ pJ q9 s0 s2=>?_;rw [<- o3] at s2 ⊢;have hZ:=s0.lst [11] (λ _ h=>by cases h;decide);refine Be [] hZ ?_;refine AP (fuel:=1) [] (BL [10,11]) rfl (DN rfl rfl (AU rfl rfl (AC (AJ (i:=12) rfl ?_))));replace o0:=(o0.st p0).st s0;refine AR o0 rfl rfl rfl (AY) (allOne) λ qJ b1 o0=>?_;refine BM (Bi ?_);refine BT [] q9 ?_;refine AP (fuel:=1) [] (BL (DX 0 14)) rfl (AS rfl rfl (DN rfl rfl (AU rfl rfl (Bc (hc:=By o0 6 rfl) rfl rfl (AU rfl rfl ?_)))));replace k0:=((k0.st p0).st s0).st b1;refine Bc (hc:=By k0 1 rfl) rfl rfl (AU rfl rfl ?_);replace d0:=(((((d0.st k1).st l1).st l2).st p0).st s0).st b1;refine Bc (hc:=By d0 3 rfl) rfl rfl (AU rfl rfl (Bc (hc:=By k0 1 rfl) rfl rfl ?_));obtain ⟨p3,r9,c0⟩:=bs c0;obtain ⟨s9,t9⟩:=Dz r9;replace hB:=(((((hB.st k1).st l1).st l2).st p0).st s0).st b1;obtain ⟨rJ,sJ,sB,u5,w5,x5,y5,tJ,uJ,vJ,wJ,xJ,rfl,u9,v9,w9,x9,y9,yJ,z9⟩:=(m1.zs hA hB).elem t9;obtain ⟨zJ,aK,rfl⟩:=u9.form;obtain ⟨bK,cK,rfl⟩:=v9.form;obtain ⟨dK,eK,rfl⟩:=w9.form;obtain ⟨fK,gK,rfl⟩:=x9.form;obtain ⟨hK,iK,rfl⟩:=y9.form;refine Em (hA:=u5) (hj:=s9) (hlt:=x5) rfl rfl rfl (AU rfl rfl (Bc (hc:=λ w' ⟨O',hq⟩=>cat1 (Ej (hq.agree (i:=0) (by decide)) w5 y5)) rfl rfl ?_));obtain ⟨jK,aA,c0⟩:=bs c0;obtain ⟨bA,z5⟩:=Dz aA;replace a1:=((a1.st p0).st s0).st b1;obtain ⟨kK,lK,tB,a3,uB,a6,vB,rfl,mK⟩:=a1.elemF z5;refine Em (hA:=a3) (hj:=bA) (hlt:=a6) rfl rfl rfl (AC (AJ (i:=14) rfl ?_));refine GG rfl a1 (a:=p3.dur) (vInt z9) a3 rfl rfl (AO z5) λ nK g1 a1=>?_;refine BM (Bi ?_);have t0:=((p0.an s0).an b1).an g1;replace o0:=o0.st g1;replace m2:=m2.st t0;replace n2:=n2.st t0;replace o2:=o2.st t0;replace p2:=p2.st t0;replace q2:=q2.st t0;replace s2:=(s2.st b1).st g1;obtain ⟨oK,q3,wB,xB,cA⟩:=Wtr.shut (x:=(⟨(⟨g0.t.vars,g0.t.init,g0.t.goal,g0.t.jobs⟩:Tpl),g0.first,g0.last,(g0.left.set (o5.job:Int).toNat p3.dur),n9⟩:Wtr)) (l0:=5) (by decide) (by have q:=o0;rw [<- ((by simp:(g0.left.set (o5.job:Int).toNat p3.dur).length=g0.left.length).trans rfl)] at q;exact q) m2 n2 o2 p2 q2 j9 a1.relen s2;obtain rfl:=sm c0;exact show Exists _ from ⟨_,(),rfl,⟨rfl,rfl,rfl,rfl,rfl,rfl,rfl,rfl,rfl,rfl,rfl,trivial⟩,_,(hB.st g1).st q3,(d0.st g1).st q3,cA,(((((((e0.st k1).st l1).st l2).st p0).st s0).st b1).st g1).st q3⟩
   replace c0:=im c0 n3;refine o_z (Aj rfl (AK ?_));obtain rfl:=sm c0;have c1:=k1.an l1;exact show Exists _ from ⟨_,(),rfl,⟨rfl,rfl,rfl,rfl,rfl,rfl,rfl,rfl,rfl,rfl,rfl,trivial⟩,_,hB.st c1,d0.st c1,y0.st c1,e0.st c1⟩
  rintro pK qK ⟨rK,sK,rfl,b6,dA,hB,d0,y0,e0⟩;replace a0:=BE a0;refine AX _ b6 ?_;refine Ah (Ae (Ar rfl (Ar rfl (Eb rfl rfl (λ r3=>?_) λ r3=>?_))))
  ·replace a0:=ip a0 r3;refine o_z (Am rfl (Ae (Ar rfl ?_)));obtain ⟨tK,eA,a0⟩:=bs a0;refine Dm (O:=dA) (Mj y0 eA) rfl λ uK vK wK s3 fA=>?_;refine o_z ?_;obtain rfl:=sm a0;exact show Exists _ from ⟨_,(),rfl,⟨rfl,rfl,rfl,rfl,rfl,rfl,rfl,trivial⟩,_,hB.st s3,d0.st s3,fA,e0.st s3⟩
  replace a0:=im a0 r3;refine o_z (Aj rfl (AK ?_));obtain rfl:=sm a0;exact show Exists _ from ⟨_,(),rfl,⟨rfl,rfl,rfl,rfl,rfl,rfl,rfl,trivial⟩,_,hB,d0,y0,e0⟩
 rintro xK gA ⟨yK,zK,rfl,c6,aL,hB,d0,h3,e0⟩;replace hm:=BE hm;refine AX _ c6 ?_;refine Ah (Ae (Ar rfl (Dr rfl ?_)));obtain ⟨bL,cL,dL,eL,fL,gL,hL,iL,iA,yB,jA,kA,lA,mA,nA,oA,jL,pA,t2⟩:=Wtr.opn h3 5 9 10 11 (by decide);obtain ⟨kL,lL,rfl⟩:=kA.form;obtain ⟨mL,nL,rfl⟩:=lA.form;obtain ⟨oL,pL,rfl⟩:=mA.form;obtain ⟨qL,rL,rfl⟩:=nA.form;obtain ⟨sL,tL,rfl⟩:=oA.form;obtain ⟨uL,vL,rfl⟩:=pA.form;obtain ⟨wL,xL,rfl⟩:=t2.form;refine AD rfl (AQ (hc:=Blk.cell (i:=7) (jA.1) rfl) rfl (Au rfl (Au rfl (o_z (AE ?_)))));obtain ⟨qA,rA,t2⟩:=t2.freeze;obtain rfl:=sm hm;replace hB:=(hB.st iA).st rA;exact U6 rfl (AF rfl) (AF rfl) ⟨hB.ext,_,_,rfl,(Vb.mono (F:=Fr 0 gA qA) t2 hB.out),(vErr (T8 0))⟩
end
section
open Go Go.RowKit
attribute [local irreducible] ewp owp hwp hwq hws Ev Evg Fn T9 V1 U8 U4
def Ada (n:Nat) (s:List Int):List (List Int):=(List.range n).map λ x:Nat=>s ++ [(x:Int)]
def AcC (a:List (List Int)) (k:Int):List (List Int):=a.flatMap (Ada k.toNat)
def V8 (a:List Int):List (List Int):=a.foldl AcC [[]]
theorem SV {a:List Int} {k:Nat} {n:Int} (h:a[k]?=some n):V8 (a.take (k + 1))=AcC (V8 (a.take k)) n:=by
  unfold V8;rw [K4,h,L0];rfl
theorem XB (n:Nat) (s:List Int):(Ada n s).length=n:=by simp [Ada]
theorem NK (n:Nat):∀ l:List (List Int),(l.flatMap (Ada n)).length=l.length * n
  | []=>by simp
  | s :: l=>by rw [K7,I5,XB,NK n l,L6,R8];omega
end
section
open Go Go.RowKit
theorem NL {y x:Int} {vs s:List Int}:StateOk (y :: vs) (x :: s)↔(0<=x/\x < y)/\StateOk vs s:=by
  constructor
  . intro h;exact ⟨h.2 0 x y rfl rfl,by have:=h.1;simpa using this,λ i a b c hb=>h.2 (i + 1) a b (by simpa using c) (by simpa using hb)⟩
  . rintro ⟨d,h2,h3⟩;refine ⟨by simpa using h2,λ i a b c hb=>?_⟩;cases i with
    | zero=>simp at c hb;subst c;subst hb;exact d
    | succ i=>exact h3 i a b (by simpa using c) (by simpa using hb)
theorem TR:StateOk [] []:=⟨rfl,λ i a b c=>by simp at c⟩
theorem SW {n:Nat} {s t:List Int}:t∈Ada n s↔∃ x:Nat,x < n/\t=s ++ [(x:Int)]:=by
  unfold Ada;rw [R3];constructor
  . rintro ⟨x,hx,rfl⟩;exact ⟨x,P9.1 hx,rfl⟩
  . rintro ⟨x,hx,rfl⟩;exact ⟨x,P9.2 hx,rfl⟩
theorem LB:∀ (b:List Int) (a:List (List Int)) (s:List Int),s∈b.foldl AcC a↔∃ c∈a,∃ f,s=c ++ f∧StateOk b f
  | [],a,s=>by
    constructor
    . intro h;exact ⟨s,h,[],by simp,TR⟩
    . rintro ⟨c,h,f,rfl,hr⟩;have:f=[]:=B0 hr.1;subst this;simpa using h
  | k :: vs,a,s=>by
    simp only [N2];rw [LB vs (AcC a k) s];constructor
    . rintro ⟨e,d,f,rfl,hr⟩;obtain ⟨c,h0,h2⟩:=M5.1 d;obtain ⟨x,hx,rfl⟩:=SW.1 h2;exact ⟨c,h0,(x:Int) :: f,by simp,NL.2 ⟨⟨by omega,by omega⟩,hr⟩⟩
    . rintro ⟨c,h0,f,rfl,hr⟩;cases f with
      | nil=>have:=hr.1;simp at this
      | cons x f =>
        obtain ⟨⟨d,h2⟩,h3⟩:=NL.1 hr;exact ⟨c ++ [x],M5.2 ⟨c,h0,SW.2 ⟨x.toNat,by omega,by rw [show ((x.toNat:Nat):Int)=x from by omega]⟩⟩,f,by simp,h3⟩
theorem TS {a s:List Int}:s∈V8 a↔StateOk a s:=by
  unfold V8;rw [LB];constructor
  . rintro ⟨b,h0,r,rfl,hr⟩;have:b=[]:=(by simpa using h0);subst this;exact hr
  . intro h;exact ⟨[],by simp,s,rfl,h⟩
end
section
open Go Go.RowKit
attribute [local irreducible] ewp owp hwp hwq hws Ev Evg Fn T9 V1 U8 U4
noncomputable def EX (g:Tsk) (h:List Int) (f:Int):Option ((List Int)×Bool) :=
  bnd (if f < 0 then (some true) else (if (g.ops.length:Int)<=f then (some true) else (bnd (atI g.ops f) λ i=>bnd (DO i.pre h) λ j=>if j=true then some false else some true)):Option Bool) λ k=>if k=true then (some (([]:List Int),false)) else (bnd (T5 8 ([]:List Int) h) λ l=>bnd (atI g.ops f) λ m=>bnd (rng (ρ:=(List Int)×Bool) (λ (o:Nat) (a:Eff) (b:(List Int))=>bnd (DO a.cond h) λ d=>if d=true then bnd (atI b a.var) λ n=>some (.next (b.set (a.var:Int).toNat a.val)) else some (.next b)) m.effs 0 l) λ c=>fin c λ (e:(List Int))=>some (e,true))
section
attribute [local irreducible] Vb Lc Rw Ob
theorem SX {w:World} {A:Nat->Prop} (hA:∀ k,A k->k < w.heap.size) {c:Value} {l:Tsk} (p:Vb w A c l) {d:Value} {m:List Int} (l0:Vb w A d m) {e:Int} (q:T3 e) {E:(List Int)×Bool} (hm:EX l m e=some E) :
    Fn prog 81 [c,d,(.int .i64 e)] w λ v w'=>Ext w w'/\T2 w' (upA A w w') v E:=by
 obtain ⟨_,_,_⟩:=CP hA;apply Ct p;intros;apply Ct l0;intros;refine AH func81 rfl ntmps81 ?_;unfold EX at hm;refine Ah (Ae (Do 2 ?_));intros;refine Au rfl (Au rfl (o_z (Ah (Ah (Ck (X:=Unit) hm [1,2,3] [] [] [] (λ _ _ f _ t=>(30,.bool f) :: t) (λ _ _ _ _ t=>t) ?_ ?_)))))
 ·intro f a;refine Ae (Ar rfl (Eb rfl rfl (λ g=>?_) λ g=>?_))
  ·replace a:=ip a g;refine Ar rfl (Aw rfl rfl (Aw rfl rfl (Aw rfl rfl (Aw rfl rfl (Aw rfl rfl (Bt rfl rfl (Ar rfl (Aw rfl rfl (Aw rfl rfl (Aw rfl rfl (Aw rfl rfl (Aw rfl rfl (Aw rfl rfl (Aw rfl rfl ?_))))))))))))));refine Aw rfl rfl (Aw rfl rfl (Bt rfl rfl (o_z ?_)));obtain rfl:=sm a;exact AV ()
  replace a:=im a g;refine Ar rfl (Az rfl rfl (Ar rfl (Az rfl rfl (AD rfl (Az rfl rfl (AW (Az rfl rfl (AT rfl (Az rfl rfl (ER rfl rfl (λ i=>?_) λ i=>?_))))))))))
  ·replace a:=ip a i;refine Bd rfl rfl (Ar rfl (Aw rfl rfl (Aw rfl rfl (Aw rfl rfl (Aw rfl rfl (Aw rfl rfl (Aw rfl rfl (Aw rfl rfl (Aw rfl rfl (Aw rfl rfl (Bt rfl rfl (o_z ?_))))))))))));obtain rfl:=sm a;exact AV ()
  replace a:=im a i;refine Bd rfl rfl (Ar rfl (Az rfl rfl (AD rfl (Az rfl rfl (AW (Az rfl rfl (Ar rfl (Az rfl rfl ?_))))))));obtain ⟨u,u0,a⟩:=bs a;refine LO ?_;intros;refine Az rfl rfl (AD rfl (Az rfl rfl (NE (Az rfl rfl (Ar rfl (Az rfl rfl ?_))))));obtain ⟨r,n0,a⟩:=bs a;refine Dj rfl (GS (λ _ h=>h) zA zA n0) ?_;intros;cases r
  case false =>
   replace a:=iF a;refine Az rfl rfl (EF rfl (Bd rfl rfl (o_z ?_)));obtain rfl:=sm a;exact AV ()
  replace a:=iT a;refine Az rfl rfl (EE rfl (Bd rfl rfl (o_z ?_)));obtain rfl:=sm a;exact AV ()
 intro f _ _ _ _ hm;intros;refine Bu ?_;refine BH rfl (λ j=>?_) (λ j=>?_)
 ·replace hm:=ip hm j;refine Ah (Ae (Au rfl (Au rfl (o_z (AE ?_)))));obtain rfl:=sm hm;exact KX
 replace hm:=im' hm j;refine AK (Ah (Ae (DC 3 (([]:List Int):List Int) ?_)));intros;refine ab ?_;obtain ⟨v0,o0,hm⟩:=bs hm;refine Dp o0 ?_;intros;refine Au rfl (o_z (Ah (Ah (Ae (AD rfl (AW (Ar rfl ?_)))))));obtain ⟨x,y0,hm⟩:=bs hm;refine LO ?_;intros;refine AD rfl (NE (AT rfl (Ar rfl (o_z ?_))));refine Df (X:=Unit) hm [1,8,39] [] [3,4] [3] (λ _ _ _ _ t=>t) (λ _ o n _ t=>uR (o 3) 3 n :: t) () ?_ ?_
 ·intro z0 y n _ _ _ _ b z _ B;intros;refine Ah (Ae (CZ ?_));intros;refine FL ?_;refine BO 4 ?_;intros;refine Bf ?_;intros;refine o_z (Ah (Ae (AD rfl (AW (Ar rfl ?_)))));obtain ⟨s,i0,b⟩:=bs b;refine Dj rfl (GS (λ _ h=>h) zA zA i0) ?_;intros;cases s
  case false =>
   replace b:=iF b;refine o_z (Aj rfl (AK ?_));exact Cl () b
  replace b:=iT b;refine o_z (Am rfl (Ae (Ar rfl (AD rfl (AW (AD rfl ?_))))));refine AW ?_;obtain ⟨C,r0,b⟩:=bs b;refine LO ?_;intros;refine NF ?_;intros;refine o_z ?_;exact Cl () b
 intro D _ _ _ _ hm;intros;refine Bu ?_;refine Ah (Ae (Ar rfl (Au rfl (Au rfl (o_z (AE (Gz 3 ?_)))))));intros;obtain rfl:=sm hm;exact KX
end
noncomputable def Iz (f:Tsk) (k:List Int) (l:List Int):Option (Int×Bool) :=
  bnd (rng (ρ:=Int×Bool) (λ (m:Nat) (b:Int) (c:(List Int)×Int)=>bnd (EX f c.1 b) λ d=>if (!d.2)=true then (some (.ret (0,false))) else (bnd (atI f.ops b) λ g=>bnd (T4 (c.2 + g.cost)) λ h=>some (.next (d.1,h)))) l 0 (k,0)) λ a=>fin a λ (e:(List Int)×Int)=>bnd (bnd (DO f.goal e.1) λ i=>if i=true then some true else some false:Option Bool) λ j=>some (e.2,j)
section
attribute [local irreducible] Vb Lc Rw Ob
theorem TT {w:World} {A:Nat->Prop} (hA:∀ k,A k->k < w.heap.size) {d:Value} {l:Tsk} (o:Vb w A d l) {e:Value} {m:List Int} (p:Vb w A e m) {f:Value} {n:List Int} (q:Vb w A f n) {F:Int×Bool} (hm:Iz l m n=some F) :
    Fn prog 38 [d,e,f] w λ v w'=>Ext w w'/\T2 w' (upA A w w') v F:=by
 obtain ⟨_,_,_⟩:=CP hA;apply Ct o;intros;apply Ct p;intros;apply Ct q;intros;refine AH func38 rfl ntmps38 ?_;unfold Iz at hm;refine Ah (Ae (Do 2 ?_));intros;refine Au rfl (Au rfl (o_z (Ah (Ae (Au rfl (o_z (Ah (Ah (Ae (Ar rfl (AT rfl (Ar rfl (o_z (Df (X:=(Option Addr×Nat)) hm [3,13] [] [] [] (λ _ _ c g t=>(1,sv g c.1) :: (8,.int .i64 c.2) :: t) (λ _ _ c g t=>fV g c.1 :: fI c.2 :: t) (_,_) ?_ ?_))))))))))))))
 ·intro z B c _ _ _ _ a C _ r;intros;refine Ah (Ae (CZ ?_));intros;refine En (Au rfl (o_z (Ah (Ae ?_))));refine EA (Ar rfl (Ar rfl ?_));obtain ⟨D,l0,a⟩:=bs a;refine SD rfl (SX Fr.lt zV zV zI l0) λ _ _ _ _ _ s u=>?_;apply Kh s;intros;apply Kh u;intros;refine Ar rfl (BW rfl rfl (BW rfl rfl (Au rfl (Au rfl (o_z (Ah (Ah (Ae (Ar rfl (Iq rfl (o_z (BH rfl (λ i=>?_) (λ i=>?_)))))))))))))
  ·replace a:=ip a i;refine Ah (Ae (Au rfl (Au rfl (o_z (AE ?_)))));obtain rfl:=sm a;obtain rfl:=r _ rfl;exact KX
  replace a:=im' a i;refine AK (Ah (Ae (Ar rfl (Au rfl (o_z (Ae (Ar rfl (AD rfl (AW (Ar rfl ?_))))))))));obtain ⟨v0,w0,a⟩:=bs a;refine LO ?_;intros;refine AD rfl (NE ?_);obtain ⟨E,o0,a⟩:=bs a;refine DD (he:=o0) rfl rfl (Au rfl (o_z ?_));exact Cl (_,_) a
 intro x _ _ _ _ hm;intros;refine Bu ?_;refine Ah (Ck (X:=Unit) hm [] [] [] [] (λ _ _ j _ t=>(6,.int .i64 x.2) :: (7,.bool j) :: t) (λ _ _ _ _ t=>t) ?_ ?_)
 ·intro j b;refine Ae (Ar rfl (AD rfl (AW (Ar rfl ?_))));obtain ⟨y,r0,b⟩:=bs b;refine Dj rfl (GS (λ _ h=>h) zA zA r0) ?_;intros;cases y
  case false =>
   replace b:=iF b;refine Au rfl (Au rfl (o_z ?_));obtain rfl:=sm b;exact AV ()
  replace b:=iT b;refine Au rfl (Au rfl (o_z ?_));obtain rfl:=sm b;exact AV ()
 intro j _ _ _ _ hm;intros;refine Bu ?_;refine AE ?_;obtain rfl:=sm hm;exact KX
end
end
section
open Go Go.RowKit
attribute [local irreducible] ewp owp hwp hwq hws Ev Evg Fn T9 V1 U8 U4
noncomputable def NM (a:Err) (b:Int):Option Bool :=
  bnd (if a.n≠0 then (bnd (Qk (⟨a.n⟩:Err)) λ c=>if c=b then (some true) else (some false)) else (some false):Option Bool) λ d=>some d
section
attribute [local irreducible] Vb Lc Rw Ob
theorem Wy {w:World} {A:Nat->Prop} (hA:∀ k,A k->k < w.heap.size) {b:Err} (g:T3 b.n) {c:Int} (i:T3 c) {l:Bool} (hm:NM b c=some l) :
    Fn prog 8 [(X6 b.n),(.int .i64 c)] w λ v w'=>Ext w w'/\Vb w' (upA A w w') v l:=by
 obtain ⟨_,_,_⟩:=CP hA;refine AH func8 rfl ntmps8 ?_;unfold NM at hm;refine Ah (Ae (Au rfl (o_z (Ah (Ck (X:=Unit) hm [] [] [] [] (λ _ _ d _ t=>(4,.bool d) :: t) (λ _ _ _ _ t=>t) ?_ ?_)))))
 ·intro d a;refine Ae (Ar rfl (FA rfl (λ e=>?_) λ e=>?_))
  ·replace a:=ip a e;refine Ar rfl (Az rfl rfl (Ar rfl (Az rfl rfl ?_)));obtain ⟨j,c0,a⟩:=bs a;refine Dj rfl (Vr (λ _ h=>h) zI c0) ?_;intros;refine Az rfl rfl (Ar rfl (Az rfl rfl (Gw rfl rfl (λ f=>?_) λ f=>?_)))
   ·replace a:=ip a f;refine Bt rfl rfl (Au rfl (o_z ?_));obtain rfl:=sm a;exact AV ()
   replace a:=im a f;refine Bt rfl rfl (Au rfl (o_z ?_));obtain rfl:=sm a;exact AV ()
  replace a:=im a e;refine Ar rfl (Aw rfl rfl (Aw rfl rfl (Aw rfl rfl (Aw rfl rfl (Bd rfl rfl (Au rfl (o_z ?_)))))));obtain rfl:=sm a;exact AV ()
 intro d _ _ _ _ hm;intros;refine Bu ?_;refine AE ?_;obtain rfl:=sm hm;exact Cb
end
noncomputable def IA (h:List Int) (c:Int):Option Int :=
  bnd (rng (ρ:=Int) (λ (i:Nat) (d:Int) (j:Int)=>bnd (T4 (c + 1)) λ e=>bnd (T4 (j * (min (max d 0) e))) λ a=>if c < a then (bnd (T4 (c + 1)) λ f=>some (.ret f)) else (some (.next a))) h 0 1) λ b=>fin b λ (g:Int)=>some g
section
attribute [local irreducible] Vb Lc Rw Ob
theorem TU {w:World} {A:Nat->Prop} (hA:∀ k,A k->k < w.heap.size) {b:Value} {f:List Int} (g:Vb w A b f) {d:Int} (h:T3 d) {q:Int} (hm:IA f d=some q) :
    Fn prog 15 [b,(.int .i64 d)] w λ v w'=>Ext w w'/\Vb w' (upA A w w') v q:=by
 obtain ⟨_,_,_⟩:=CP hA;apply Ct g;intros;refine AH func15 rfl ntmps15 ?_;unfold IA at hm;refine Ah (Ae (Au rfl (o_z (Ah (Ae (Au rfl (o_z (Ah (Ah (Ae (Ar rfl (AT rfl (Ar rfl (o_z ?_))))))))))))));refine Df (X:=Unit) hm [1,8] [] [] [] (λ _ _ c _ t=>(5,.int .i64 c) :: t) (λ _ _ c _ t=>fI c :: t) () ?_ ?_
 ·intro j l c _ _ _ _ a m _ i;intros;refine Ah (Ae (CZ ?_));intros;refine En (Au rfl (o_z (Ah (Ae (Ar rfl (Ar rfl (Yo rfl rfl rfl (Ar rfl ?_))))))));obtain ⟨n,f0,a⟩:=bs a;refine DD (he:=f0) rfl rfl (Abe rfl rfl rfl ?_);obtain ⟨l0,g0,a⟩:=bs a;refine JL (he:=g0) rfl rfl (Au rfl (o_z (Ah (Ae (Ar rfl (Ar rfl (Cw rfl rfl (λ e=>?_) λ e=>?_)))))))
  ·replace a:=ip a e;refine o_z (Am rfl (Ah (Ae (Ar rfl ?_))));obtain ⟨o,h0,a⟩:=bs a;refine DD (he:=h0) rfl rfl (Au rfl (o_z (AE ?_)));obtain rfl:=sm a;obtain rfl:=i _ rfl;exact Cb
  replace a:=im a e;refine o_z (Aj rfl (AK ?_));exact Cl () a
 intro p _ _ _ _ hm;intros;refine Bu ?_;refine Ah (Ae (Ar rfl (Au rfl (o_z (AE ?_)))));obtain rfl:=sm hm;exact Cb
end
noncomputable def FP (f:Tsk) (a:Rsl) (c:Int):Option Bool :=
  if 1125899906842624<=c then (bnd (if a.verdict=2 then (if (a.plan.length:Int)=0 then (if a.cost=0 then (some true) else (some false)) else (some false)) else (some false):Option Bool) λ d=>some d) else (bnd (Iz f f.init a.plan) λ b=>bnd (if a.verdict=1 then (if b.2=true then (if b.1=c then (if a.cost=c then (some true) else (some false)) else (some false)) else (some false)) else (some false):Option Bool) λ e=>some e)
section
attribute [local irreducible] Vb Lc Rw Ob
theorem RT {w:World} {A:Nat->Prop} (hA:∀ k,A k->k < w.heap.size) {c:Value} {p:Tsk} (r:Vb w A c p) {d:Value} {q:Rsl} (s:Vb w A d q) {e:Int} (u:T3 e) {B:Bool} (hm:FP p q e=some B) :
    Fn prog 10 [c,d,(.int .i64 e)] w λ v w'=>Ext w w'/\Vb w' (upA A w w') v B:=by
 obtain ⟨_,_,_⟩:=CP hA;apply Ct r;intros;apply Ct s;intros;refine AH func10 rfl ntmps10 ?_;unfold FP at hm;refine Ah (Ae (Do 2 ?_));intros;refine Do 3 ?_;intros;refine Au rfl (o_z (Ah (Ah (Ae (Ar rfl (ER rfl rfl (λ f=>?_) λ f=>?_))))))
 ·replace hm:=ip hm f;refine o_z (Am rfl (Ah (Ck (X:=Unit) hm [] [] [] [] (λ _ _ g _ t=>(6,.bool g) :: t) (λ _ _ _ _ t=>t) ?_ ?_)))
  ·intro g b;refine Ae (AD rfl (AW (Gw rfl rfl (λ i=>?_) λ i=>?_)))
   ·replace b:=ip b i;refine Ar rfl (Az rfl rfl (AD rfl (Az rfl rfl (AW (Az rfl rfl (AT rfl (Az rfl rfl (Gw rfl rfl (λ j=>?_) λ j=>?_))))))))
    ·replace b:=ip b j;refine Bt rfl rfl (Ar rfl (Az rfl rfl (AD rfl (Az rfl rfl (AW (Az rfl rfl (Gw rfl rfl (λ l=>?_) λ l=>?_)))))))
     ·replace b:=ip b l;refine Bt rfl rfl (Au rfl (o_z ?_));obtain rfl:=sm b;exact AV ()
     replace b:=im b l;refine Bt rfl rfl (Au rfl (o_z ?_));obtain rfl:=sm b;exact AV ()
    replace b:=im b j;refine Bt rfl rfl (Ar rfl (Aw rfl rfl (Aw rfl rfl (Aw rfl rfl (Bd rfl rfl (Au rfl (o_z ?_)))))));obtain rfl:=sm b;exact AV ()
   replace b:=im b i;refine Ar rfl (Aw rfl rfl (Aw rfl rfl (Aw rfl rfl (Aw rfl rfl (Bd rfl rfl (Ar rfl (Aw rfl rfl (Aw rfl rfl (Aw rfl rfl (Bd rfl rfl (Au rfl (o_z ?_))))))))))));obtain rfl:=sm b;exact AV ()
  intro g _ _ _ _ hm;intros;refine Bu ?_;refine AE ?_;obtain rfl:=sm hm;exact Cb
 replace hm:=im hm f;refine o_z (Aj rfl (AK (Ah (Ae (EA (AD rfl ?_))))));refine AW (AD rfl ?_);refine AW ?_;obtain ⟨x,p0,hm⟩:=bs hm;refine AbB rfl (TT (λ _ h=>h) zA zA zA p0) λ _ _ _ _ _ y z=>?_;apply Kh y;intros;apply Kh z;intros;refine Ar rfl (BW rfl rfl (BW rfl rfl (Au rfl (Au rfl (o_z (Ah (Ck (X:=Unit) hm [] [] [] [] (λ _ _ m _ t=>(6,.bool m) :: t) (λ _ _ _ _ t=>t) ?_ ?_)))))))
 ·intro m a;refine Ae (AD rfl (AW (Gw rfl rfl (λ n=>?_) λ n=>?_)))
  ·replace a:=ip a n;refine Ar rfl (Az rfl rfl (Ar rfl (Bt rfl rfl (Ar rfl ?_))));rcases C8 x.2 with c0|c0
   ·(try simp only [c0]);replace a:=ip a c0;refine Az rfl rfl (Ar rfl (Az rfl rfl (Ar rfl (Az rfl rfl (Gw rfl rfl (λ o=>?_) λ o=>?_)))))
    ·replace a:=ip a o;refine Bt rfl rfl (Ar rfl (Az rfl rfl (AD rfl (Az rfl rfl (AW (Az rfl rfl (Ar rfl (Az rfl rfl (Gw rfl rfl (λ l0=>?_) λ l0=>?_)))))))))
     ·replace a:=ip a l0;refine Bt rfl rfl (Au rfl (o_z ?_));obtain rfl:=sm a;exact AV ()
     replace a:=im a l0;refine Bt rfl rfl (Au rfl (o_z ?_));obtain rfl:=sm a;exact AV ()
    replace a:=im a o;refine Bt rfl rfl (Ar rfl (Aw rfl rfl (Aw rfl rfl (Aw rfl rfl (Aw rfl rfl (Bd rfl rfl (Au rfl (o_z ?_))))))));obtain rfl:=sm a;exact AV ()
   (try simp only [c0]);replace a:=im' a c0;refine Aw rfl rfl (Aw rfl rfl (Aw rfl rfl (Bd rfl rfl (Ar rfl (Aw rfl rfl (Aw rfl rfl (Aw rfl rfl (Aw rfl rfl (Bd rfl rfl (Au rfl (o_z ?_)))))))))));obtain rfl:=sm a;exact AV ()
  replace a:=im a n;refine Ar rfl (Aw rfl rfl (Bd rfl rfl (Ar rfl (Aw rfl rfl (Aw rfl rfl (Aw rfl rfl (Bd rfl rfl (Ar rfl (Aw rfl rfl (Aw rfl rfl (Aw rfl rfl (Aw rfl rfl (Bd rfl rfl (Au rfl ?_))))))))))))));refine o_z ?_;obtain rfl:=sm a;exact AV ()
 intro m _ _ _ _ hm;intros;refine Bu ?_;refine AE ?_;obtain rfl:=sm hm;exact Cb
end
end
section
open Go Go.RowKit
attribute [local irreducible] ewp owp hwp hwq hws Ev Evg Fn T9 V1 U8 U4
attribute [local irreducible] hwx V7
noncomputable def GV  : Option Tpl :=
  some (⟨([2]:List Int),([0]:List Int),[(⟨0,0⟩:Fct)],[(⟨(⟨#[108,105,103,104,116]⟩:ByteArray),3,[(⟨0,0⟩:Fct)],[(⟨0,1⟩:Fct)],([]:List Fct),[(⟨0,1⟩:Fct)],[(⟨0,0⟩:Fct)]⟩:Job)]⟩:Tpl)
theorem NN {w:World} {A:Nat->Prop} (hA:∀ k,A k->k < w.heap.size)  {S:Tpl} (hm:GV  = some S) :
    Fn prog 12 [] w λ v w'=>Ext w w'/\Vb w' (upA A w w') v S:=by
 obtain ⟨O,hB,z0⟩:=enter hA;refine AH func12 rfl ntmps12 ?_;unfold GV at hm;refine Ah (Ae (Bw 2 O λ E G s t b=>?_));refine o_z (Ah (Ae (CX rfl rfl ?_)));refine BI 3 s (xs:=([(⟨0,0⟩:Fct)]:List Fct)) rfl rfl rfl ⟨(Vb.ofAgg (cs:=[(.int .i64 0),(.int .i64 0)]) (x:=(⟨0,0⟩:Fct)) rfl ⟨rfl,(T8 0),(T8 0)⟩),trivial⟩ λ j H u n a=>?_;refine ai ?_;refine BI 4 u (xs:=([(⟨0,1⟩:Fct)]:List Fct)) rfl rfl rfl ⟨(Vb.ofAgg (cs:=[(.int .i64 0),(.int .i64 1)]) (x:=(⟨0,1⟩:Fct)) rfl ⟨rfl,(T8 0),(T8 1)⟩),trivial⟩ λ o I y m e=>?_;refine Au rfl (Au rfl (o_z (Ah (Ae ?_))));refine BI 5 y (xs:=(([2]:List Int):List Int)) rfl rfl rfl ⟨(vInt (T8 2)),trivial⟩ λ p J v0 l c=>?_;refine BI 6 v0 (xs:=(([0]:List Int):List Int)) rfl rfl rfl ⟨(vInt (T8 0)),trivial⟩ λ q K L f d=>?_;refine Ar rfl (Ar rfl (Ar rfl (Ar rfl (Ar rfl (CX rfl rfl ?_)))));replace a:=((a.st m).st l).st f;obtain ⟨M,f0,a⟩:=a.freeze;replace e:=((e.st l).st f).st f0;obtain ⟨z,g0,e⟩:=e.freeze;replace a:=a.st g0;refine BI 7 z (xs:=([(⟨(⟨#[108,105,103,104,116]⟩:ByteArray),3,[(⟨0,0⟩:Fct)],[(⟨0,1⟩:Fct)],([]:List Fct),[(⟨0,1⟩:Fct)],[(⟨0,0⟩:Fct)]⟩:Job)]:List Job)) rfl rfl rfl ⟨(Vb.ofAgg (cs:=[(.string (⟨#[108,105,103,104,116]⟩:ByteArray)),(.int .i64 3),(.slice (some ⟨j,0,none⟩) [(⟨0,0⟩:Fct)].length 1),(.slice (some ⟨o,0,none⟩) [(⟨0,1⟩:Fct)].length 1),(.slice none 0 0),(.slice (some ⟨o,0,none⟩) [(⟨0,1⟩:Fct)].length 1),(.slice (some ⟨j,0,none⟩) [(⟨0,0⟩:Fct)].length 1)]) (x:=(⟨(⟨#[108,105,103,104,116]⟩:ByteArray),3,[(⟨0,0⟩:Fct)],[(⟨0,1⟩:Fct)],([]:List Fct),[(⟨0,1⟩:Fct)],[(⟨0,0⟩:Fct)]⟩:Job)) rfl ⟨_,_,_,_,_,rfl,a,e,(Vb.nil _ _),e,a,(show (⟨#[108,105,103,104,116]⟩:ByteArray).size<=9223372036854775807 from by decide),(T8 3)⟩),trivial⟩ λ r N P g h=>?_;refine ai ?_;replace b:=((((((b.st n).st m).st l).st f).st f0).st g0).st g;refine AR b rfl rfl rfl (AY) (allOne) λ B i b=>?_;refine o_z (AE ?_);replace c:=((((c.st f).st f0).st g0).st g).st i;obtain ⟨Q,k0,c⟩:=c.freeze;replace d:=((((d.st f0).st g0).st g).st i).st k0;obtain ⟨R,l0,d⟩:=d.freeze;replace h:=((h.st i).st k0).st l0;obtain ⟨C,m0,h⟩:=h.freeze;obtain rfl:=sm hm;have D:=((((((((((t.an n).an m).an l).an f).an f0).an g0).an g).an i).an k0).an l0).an m0;replace hB:=hB.st D;replace b:=((b.st k0).st l0).st m0;replace a:=((((a.st g).st i).st k0).st l0).st m0;replace c:=(c.st l0).st m0;replace d:=d.st m0;exact U0 rfl (DH (cs:=[(.slice (some ⟨p,0,none⟩) ([2]:List Int).length 1),(.slice (some ⟨q,0,none⟩) ([0]:List Int).length 1),(.slice (some ⟨j,0,none⟩) [(⟨0,0⟩:Fct)].length 1),(.slice (some ⟨r,0,none⟩) [(⟨(⟨#[108,105,103,104,116]⟩:ByteArray),3,[(⟨0,0⟩:Fct)],[(⟨0,1⟩:Fct)],([]:List Fct),[(⟨0,1⟩:Fct)],[(⟨0,0⟩:Fct)]⟩:Job)].length 1)]) rfl rfl b.1.cellsAt) ⟨hB.ext,(Vb.mono (F:=Fr 0 B C) (Vb.ofAgg (cs:=[(.slice (some ⟨p,0,none⟩) ([2]:List Int).length 1),(.slice (some ⟨q,0,none⟩) ([0]:List Int).length 1),(.slice (some ⟨j,0,none⟩) [(⟨0,0⟩:Fct)].length 1),(.slice (some ⟨r,0,none⟩) [(⟨(⟨#[108,105,103,104,116]⟩:ByteArray),3,[(⟨0,0⟩:Fct)],[(⟨0,1⟩:Fct)],([]:List Fct),[(⟨0,1⟩:Fct)],[(⟨0,0⟩:Fct)]⟩:Job)].length 1)]) (x:=(⟨([2]:List Int),([0]:List Int),[(⟨0,0⟩:Fct)],[(⟨(⟨#[108,105,103,104,116]⟩:ByteArray),3,[(⟨0,0⟩:Fct)],[(⟨0,1⟩:Fct)],([]:List Fct),[(⟨0,1⟩:Fct)],[(⟨0,0⟩:Fct)]⟩:Job)]⟩:Tpl)) rfl ⟨_,_,_,_,rfl,c,d,a,h⟩) hB.out)⟩
noncomputable def FQ  : Option Bool :=
  bnd (GV) λ g=>bnd (DA g) λ a=>bnd (GV) λ d=>bnd (GU d [(⟨0,0⟩:Lch)]) λ b=>bnd (if a.2.n=0 then (if b.2.n=0 then (bnd (Gi a.1.vars ([2,5,2,2,2,3]:List Int)) λ e=>if e=true then bnd (Gi b.1 ([0,2,6,7,2,5,7,2,4,7,1]:List Int)) λ c=>if c=true then some true else some false else some false) else (some false)) else (some false):Option Bool) λ f=>some f
section
attribute [local irreducible] Vb Lc Rw Ob
theorem Nf {w:World} {A:Nat->Prop} (hA:∀ k,A k->k < w.heap.size)  {p:Bool} (hm:FQ  = some p) :
    Fn prog 4 [] w λ v w'=>Ext w w'/\Vb w' (upA A w w') v p:=by
 obtain ⟨_,_,_⟩:=CP hA;refine AH func4 rfl ntmps4 ?_;unfold FQ at hm;refine Ah (Ae (Au rfl (o_z (Ah (Ae ?_)))));obtain ⟨l,e2,hm⟩:=bs hm;refine NH rfl (NN Fr.lt e2) ?_;intros;obtain ⟨m,g0,hm⟩:=bs hm;refine SD rfl (Is Fr.lt zV g0) λ _ _ _ _ _ e f=>?_;apply Kh e;intros;apply Kh f;intros;refine Ar rfl (BW rfl rfl (BW rfl rfl (BO 2 ?_)));intros;refine Bf ?_;intros;refine Au rfl (o_z (Ah (Ae ?_)));obtain ⟨n,j0,hm⟩:=bs hm;refine NH rfl (NN Fr.lt j0) ?_;intros;refine ai ?_;refine DC 3 ([(⟨0,0⟩:Lch)]:List Lch) ?_;intros;refine Gz 3 ?_;intros;obtain ⟨o,k0,hm⟩:=bs hm;refine SD rfl (QT Fr.lt zV zV k0) λ _ _ _ _ _ l0 g=>?_;apply Kh l0;intros;apply Kh g;intros;refine Ar rfl (BW rfl rfl (BW rfl rfl (Au rfl (Au rfl (o_z (Ah (Ck (X:=Unit) hm [] [] [] [] (λ _ _ b _ t=>(0,.bool b) :: t) (λ _ _ _ _ t=>t) ?_ ?_)))))))
 ·intro b a;refine Ae (Ar rfl (Yx rfl rfl (λ c=>?_) λ c=>?_))
  ·replace a:=ip a c;refine Ar rfl (Az rfl rfl (Ar rfl (Az rfl rfl (Yx rfl rfl (λ d=>?_) λ d=>?_))))
   ·replace a:=ip a d;refine Bt rfl rfl (Ar rfl (Az rfl rfl (AD rfl (Az rfl rfl (AW (Az rfl rfl ?_))))));refine DC 4 (([2,5,2,2,2,3]:List Int):List Int) ?_;intros;refine Az rfl rfl ?_;obtain ⟨i,o0,a⟩:=bs a;refine Dj rfl (JM (λ _ h=>h) zA zAr o0) ?_;intros;cases i
    case false =>
     replace a:=iF a;refine Bt rfl rfl (Ar rfl (Aw rfl rfl (Aw rfl rfl (Aw rfl rfl (Bd rfl rfl (Au rfl (o_z ?_)))))));obtain rfl:=sm a;exact AV ()
    replace a:=iT a;refine Bt rfl rfl (Ar rfl (Az rfl rfl (Ar rfl (Az rfl rfl (DC 5 (([0,2,6,7,2,5,7,2,4,7,1]:List Int):List Int) ?_)))));intros;refine Az rfl rfl ?_;obtain ⟨j,f0,a⟩:=bs a;refine Dj rfl (JM (λ _ h=>h) zA zAr f0) ?_;intros;cases j
    case false =>
     replace a:=iF a;refine Bt rfl rfl (Au rfl (o_z ?_));obtain rfl:=sm a;exact AV ()
    replace a:=iT a;refine Bt rfl rfl (Au rfl (o_z ?_));obtain rfl:=sm a;exact AV ()
   replace a:=im a d;refine Bt rfl rfl (Ar rfl (Aw rfl rfl (Aw rfl rfl (Aw rfl rfl (Aw rfl rfl (Bd rfl rfl (Ar rfl (Aw rfl rfl (Aw rfl rfl (Aw rfl rfl (Bd rfl rfl (Au rfl (o_z ?_)))))))))))));obtain rfl:=sm a;exact AV ()
  replace a:=im a c;refine Ar rfl (Aw rfl rfl (Aw rfl rfl (Bd rfl rfl (Ar rfl (Aw rfl rfl (Aw rfl rfl (Aw rfl rfl (Aw rfl rfl (Bd rfl rfl (Ar rfl (Aw rfl rfl (Aw rfl rfl (Aw rfl rfl (Bd rfl rfl ?_))))))))))))));refine Au rfl (o_z ?_);obtain rfl:=sm a;exact AV ()
 intro b _ _ _ _ hm;intros;refine Bu ?_;refine AE ?_;obtain rfl:=sm hm;exact Cb
end
noncomputable def IB (c:Tpl) (f:List Lch):Option Bool :=
  bnd (if 70 < (c.vars.length:Int) then (some true) else (if 30 < (c.jobs.length:Int) then (some true) else (if 12 < (f.length:Int) then (some true) else (if 80 < (c.goal.length:Int) then (some true) else (some false)))):Option Bool) λ d=>if d=true then (some false) else (bnd (rng (ρ:=Bool) (λ (g:Nat) (a:Job) (h:Unit)=>bnd (if 100 < (wr ((wr ((wr ((wr ((a.start.length:Int) + (a.over.length:Int))) + (a.fin.length:Int))) + (a.atStart.length:Int))) + (a.atEnd.length:Int))) then (some true) else (if 300 < (a.name.size:Int) then (some true) else (some false)):Option Bool) λ e=>if e=true then (some (.ret false)) else (some (.next ()))) c.jobs 0 ()) λ b=>fin b λ (i:Unit)=>some true)
section
attribute [local irreducible] Vb Lc Rw Ob
theorem TV {w:World} {A:Nat->Prop} (hA:∀ k,A k->k < w.heap.size) {d:Value} {p:Tpl} (r:Vb w A d p) {e:Value} {q:List Lch} (s:Vb w A e q) {D:Bool} (hm:IB p q=some D) :
    Fn prog 5 [d,e] w λ v w'=>Ext w w'/\Vb w' (upA A w w') v D:=by
 obtain ⟨_,_,_⟩:=CP hA;apply Ct r;intros;apply Ct s;intros;refine AH func5 rfl ntmps5 ?_;unfold IB at hm;refine Ah (Ae (Do 2 ?_));intros;refine Au rfl (o_z (Ah (Ah (Ck (X:=Unit) hm [2] [] [] [] (λ _ _ f _ t=>(27,.bool f) :: t) (λ _ _ _ _ t=>t) ?_ ?_))))
 ·intro f a;refine Ae (AD rfl (AW (AT rfl (Cw rfl rfl (λ g=>?_) λ g=>?_))))
  ·replace a:=ip a g;refine Ar rfl (Aw rfl rfl (Aw rfl rfl (Aw rfl rfl (Aw rfl rfl (Bt rfl rfl (Ar rfl (Aw rfl rfl (Aw rfl rfl (Aw rfl rfl (Bt rfl rfl (Ar rfl (Aw rfl rfl (Aw rfl rfl (Aw rfl rfl ?_))))))))))))));refine Aw rfl rfl (Bt rfl rfl (o_z ?_));obtain rfl:=sm a;exact AV ()
  replace a:=im a g;refine Ar rfl (Az rfl rfl (AD rfl (Az rfl rfl (AW (Az rfl rfl (AT rfl (Az rfl rfl (Cw rfl rfl (λ h=>?_) λ h=>?_))))))))
  ·replace a:=ip a h;refine Bd rfl rfl (Ar rfl (Aw rfl rfl (Aw rfl rfl (Aw rfl rfl (Bt rfl rfl (Ar rfl (Aw rfl rfl (Aw rfl rfl (Aw rfl rfl (Aw rfl rfl (Bt rfl rfl (o_z ?_))))))))))));obtain rfl:=sm a;exact AV ()
  replace a:=im a h;refine Bd rfl rfl (Ar rfl (Az rfl rfl (Ar rfl (Az rfl rfl (AT rfl (Az rfl rfl (Cw rfl rfl (λ i=>?_) λ i=>?_)))))))
  ·replace a:=ip a i;refine Bd rfl rfl (Ar rfl (Aw rfl rfl (Aw rfl rfl (Aw rfl rfl (Aw rfl rfl (Bt rfl rfl (o_z ?_)))))));obtain rfl:=sm a;exact AV ()
  replace a:=im a i;refine Bd rfl rfl (Ar rfl (Az rfl rfl (AD rfl (Az rfl rfl (AW (Az rfl rfl (AT rfl (Az rfl rfl (Cw rfl rfl (λ j=>?_) λ j=>?_)))))))))
  ·replace a:=ip a j;refine Bd rfl rfl (o_z ?_);obtain rfl:=sm a;exact AV ()
  replace a:=im a j;refine Bd rfl rfl (o_z ?_);obtain rfl:=sm a;exact AV ()
 intro f _ _ _ _ hm;intros;refine Bu ?_;refine BH rfl (λ l=>?_) (λ l=>?_)
 ·replace hm:=ip hm l;refine Ah (Ae (Au rfl (o_z (AE ?_))));obtain rfl:=sm hm;exact Cb
 replace hm:=im' hm l;refine AK (Ah (Ah (Ae (AD rfl (AW (AT rfl (Ar rfl (o_z ?_))))))));refine Df (X:=Unit) hm [29] [] [3] [] (λ _ _ _ _ t=>t) (λ _ _ _ _ t=>t) () ?_ ?_
 ·intro x y z _ _ _ _ c B _ u;intros;refine Ah (Ae (CZ ?_));intros;refine FL ?_;refine BO 3 ?_;intros;refine Bf ?_;intros;refine o_z (Ah (Ck (X:=Unit) c [29,30,31] [] [] [] (λ _ _ m _ t=>(60,.bool m) :: t) (λ _ _ _ _ t=>t) ?_ ?_))
  ·intro m b;refine Ae (AD rfl (AW (AT rfl (AD rfl ?_))));refine AW (AT rfl (Sa rfl rfl rfl (AD rfl ?_)));refine AW (AT rfl (Sa rfl rfl rfl (AD rfl ?_)));refine AW (AT rfl (Sa rfl rfl rfl (AD rfl ?_)));refine AW (AT rfl (Sa rfl rfl rfl (Cw rfl rfl (λ l0=>?_) λ l0=>?_)))
   ·replace b:=ip b l0;refine Ar rfl (Aw rfl rfl (Aw rfl rfl (Aw rfl rfl (Aw rfl rfl (Bt rfl rfl (o_z ?_))))));obtain rfl:=sm b;exact AV ()
   replace b:=im b l0;refine Ar rfl (Az rfl rfl (AD rfl (Az rfl rfl (AW (Az rfl rfl (Ny rfl (Az rfl rfl (Cw rfl rfl (λ n=>?_) λ n=>?_))))))))
   ·replace b:=ip b n;refine Bd rfl rfl (o_z ?_);obtain rfl:=sm b;exact AV ()
   replace b:=im b n;refine Bd rfl rfl (o_z ?_);obtain rfl:=sm b;exact AV ()
  intro m _ _ _ _ c;intros;refine Bu ?_;refine BH rfl (λ o=>?_) (λ o=>?_)
  ·replace c:=ip c o;refine Ah (Ae (Au rfl (o_z (AE ?_))));obtain rfl:=sm c;obtain rfl:=u _ rfl;exact Cb
  replace c:=im' c o;refine AK ?_;exact Cl () c
 intro C _ _ _ _ hm;intros;refine Bu ?_;refine Ah (Ae (Au rfl (o_z (AE ?_))));obtain rfl:=sm hm;exact Cb
end
end
section
open Go Go.RowKit
theorem Rw.outO {α:Type} [Rp α] {i:Nat} {w a:World} {O:Lab} {e:TypeId} {v:Value} {xs:List α} {A:Nat->Prop} (h:Rw i w O e v xs) (b:Bs a A w O) (hi:i≠1):Own w a.heap.size (Fr 0 w O) e v xs:=h.1.raise λ g c=>by
  rcases Q8 g a.heap.size with hlt|hge
  . have:=h.2.1 g c;have:=h.2.2;rcases b.lab g hlt with ⟨_,e⟩|⟨_,e⟩<;>omega
  . exact hge
end
section
open Go Go.RowKit
structure Nd6 where
  values:List Int
  left:List Int
instance:Rp Nd6 where
  isAgg:=true
  size:=2
  R w F cs x:=∃ v0 a,cs=[v0,a]/\Vb w F v0 x.values/\Vb w F a x.left
  len:=by rintro w F cs x ⟨v0,a,rfl,h0,h1⟩;rfl
  one:=by rintro w F cs x ⟨v0,a,rfl,h0,h1⟩ u hu;simp at hu;rcases hu with rfl|rfl<;>first|rfl|exact Vb.one rfl (by assumption)
  agree:=by rintro w w' F cs x ⟨v0,a,rfl,h0,h1⟩ ha;exact ⟨v0,a,rfl,h0.agree ha,h1.agree ha⟩
  mono:=by rintro w F G cs x ⟨v0,a,rfl,h0,h1⟩ ha;exact ⟨v0,a,rfl,h0.mono ha,h1.mono ha⟩
instance:El Nd6 λ B Γ w O x G=>∀ (a:Option Addr) (b:Nat) (c:Option Addr) (d:Nat),Al B (.V (.slice a x.values.length b) x.values :: .V (.slice c x.left.length d) x.left :: .V (.agg #[(.slice a x.values.length b),(.slice c x.left.length d)]) x :: Γ) w O->G (.agg #[(.slice a x.values.length b),(.slice c x.left.length d)]):=⟨λ f h k=>by
  have e:=h;unfold Vb at e;obtain ⟨cs,rfl,v1,v2,rfl,h3,h6⟩:=e;obtain ⟨a,b,rfl⟩:=h3.form;obtain ⟨c,d,rfl⟩:=h6.form;exact k a b c d ⟨h3,h6,h,f⟩⟩
instance:Ec Nd6 λ B Γ w O i b o x G=>∀ (a:Option Addr) (c:Nat) (d:Option Addr) (e:Nat),Al B (.C i b o [(.slice a x.values.length c),(.slice d x.left.length e)] :: .V (.slice a x.values.length c) x.values :: .V (.slice d x.left.length e) x.left :: .V (.agg #[(.slice a x.values.length c),(.slice d x.left.length e)]) x :: Γ) w O->G:=⟨λ {_ _ _ _ _ _ _ x _ _} l f hc h k=>by
  have g:=Vb.ofAgg (x:=x) rfl h;obtain ⟨j,v2,rfl,h3,h6⟩:=h;obtain ⟨a,c,rfl⟩:=h3.form;obtain ⟨d,e,rfl⟩:=h6.form;exact k a c d e ⟨⟨f,hc⟩,h3,h6,g,l⟩⟩
def NdS (a w:World) (F:Nat->Prop) (e:TypeId) (v:Value) (x:Nd6×Bool):Prop :=
  ∃ (G:Nat->Prop) (p u:Value),(∀ k,G k->F k/\k < w.heap.size)/\v=.tuple #[.agg #[p,u],.bool x.2]/\Vb w G p x.1.values/\Own w a.heap.size G e u x.1.left
section
variable {P : Program} {n : Nat} {ops : Array Oper} {Q : U3} {rest : List Oper} {l : Env} {w : World} {d : Tmp} {ty : TypeId} {pos : String} {aft : Array Edge}
theorem Wz (i:Nat) (hi:i≠0) {f:FuncId} [Callable P f] {xs:List Operand} {vs:List Value} {t:Array TypeId} {O:Lab} {e:TypeId} {x:Nd6×Bool} (hc:Fn P f vs w λ v w'=>Ext w w'/\NdS w w' (upA (Fr 0 w O) w w') e v x) (y:U9 l xs=some vs) (hd:Nat.blt d n=true)
    (h:∀ m o a b w' q,St nT w O w' q->Vb w' (Fr 0 w' q) (.slice m x.1.values.length o) x.1.values->Rw i w' q e (.slice a x.1.left.length b) x.1.left->owp P n ops Q rest ((d,.tuple #[.agg #[.slice m x.1.values.length o,.slice a x.1.left.length b],.bool x.2]) :: l) w'):owp P n ops Q (⟨some d,.call { callee:=.value (.func f),args:=xs.toArray,argTypes:=t },ty,pos,aft,none⟩ :: rest) l w :=
  BG y (hd:=hd) hc λ v w' ⟨z,G,p,u,r,hv,hp,ho⟩=>by
    subst hv;obtain ⟨a,b,_,rfl,_⟩:=ho.chunk;obtain ⟨m,o,rfl⟩:=hp.form;have A:=z.st O λ k=>if (Value.slice a x.1.left.length b).ownBlock=some k then i else 0;have c:∀ k,G k->Fr 0 w' (upO O w.heap.size λ k=>if (Value.slice a x.1.left.length b).ownBlock=some k then i else 0) k:=λ k hk=>by
      obtain ⟨_,_,_,hno⟩:=ho;refine ⟨(r k hk).2,?_⟩;rcases (r k hk).1 with h1|h1
      . exact (FJ h1.1).trans h1.2
      . rw [Gk h1.1,if_neg λ he=>hno k he hk]
    refine h m o a b w' _ A (hp.mono c) ⟨(ho.lower (S0 _)).mono c (λ g j hf=>?_),λ g j=>?_,hi⟩
    . have h1:=(ho.lt g j).1;have s:=hf.2;rw [Gk h1,if_pos j] at s;exact hi s
    . rw [Gk (ho.lt g j).1,if_pos j]
end
section
variable {P : Program} {B : Bse} {Γ : List Fa} {O : Lab} {w : World} {l : Env}
theorem AbG {n:Nat} {ops:Array Oper} {Q:U3} {rest:List Oper} {d:Tmp} {ty:TypeId} {pos:String} {aft:Array Edge} (i:Nat) {f:FuncId} [Callable P f] {xs:List Operand} {vs:List Value} {k:Array TypeId} {e:TypeId} {x:Nd6×Bool} (m:U9 l xs=some vs) (hc:Fn P f vs w λ v w'=>Ext w w'/\NdS w w' (upA (Fr 0 w O) w w') e v x)
    (h:∀ a b c g w' j,Al B (.V (.slice a x.1.values.length b) x.1.values :: .R i e (.slice c x.1.left.length g) x.1.left :: Γ) w' j->owp P n ops Q rest ((d,.tuple #[.agg #[.slice a x.1.values.length b,.slice c x.1.left.length g],.bool x.2]) :: l) w') (q:Al B Γ w O:=by assumption) (hi:Nat.ble 2 i=true:=by exact rfl) (hd:Nat.blt d n=true:=by exact rfl) :
    owp P n ops Q (⟨some d,.call { callee:=.value (.func f),args:=xs.toArray,argTypes:=k },ty,pos,aft,none⟩ :: rest) l w :=
  Wz i (λ e=>(Hv hi).1 e.symm) hc m hd λ a b c g w' j o p hR=>h a b c g w' j ⟨p,hR,q.no o⟩
theorem AbT {α:Type} [Rp α] (i:Nat) {G:Prop} {e:TypeId} {A:Option Addr} {m c:Nat} {xs:List α} (h:m=xs.length->Al B Γ w O->G) (a:Al B Γ w O:=by assumption) (hs:In Γ (.R i e (.slice A m c) xs):=by exact In.go):G:=h (Rw.len (a.at hs)).1 a
theorem SY {b:Func} {a:World} {A:Nat->Prop} {c d:ResultVar} {p u:Value} {y:Bool} {x:Nd6} {e:TypeId} {i:Nat} (f:b.results=#[c,d]:=by exact rfl) (g:U4 P l w c (.agg #[p,u]):=by exact zR) (h:U4 P l w d (.bool y):=by exact zR) (m:Al (bS a A) Γ w O:=by assumption) (j:Vb w (Fr 0 w O) p x.values:=by exact zV) (hs:In Γ (.R i e u x.left):=by exact In.go) (hi:Nat.ble 2 i=true:=by exact rfl) :
    T9 P b (λ v w'=>Ext a w'/\NdS a w' (upA A a w') e v (x,y)) .ret l w :=
  U6 f g h ⟨m.base.ext,Fr 0 w O,_,_,λ k hk=>⟨m.base.out k hk,hk.1⟩,rfl,j,Rw.outO (m.at hs) m.base λ e=>(Hv hi).2 e.symm⟩
end
end
section
open Go Go.RowKit
def AcF (a q:Int):Option Int:=if 0<=q then some (a.fdiv (2 ^ (min q.toNat 64))) else none
def AcZ (a b:Int):Int:=wr (((BitVec.ofInt 64 a &&& BitVec.ofInt 64 b).toNat:Nat):Int)
theorem SZ {a q c:Int} (d:T3 a) (h:AcF a q=some c):T3 c:=by
  unfold AcF at h;split at h
  . rw [← sm h,B6 _ (by exact Int.le_of_lt (Int.pow_pos (by decide)))];have e:(1:Int)<=2 ^ (min q.toNat 64):=Int.pow_pos (by decide);have f:a / 2 ^ (min q.toNat 64)<=max a 0:=by
      by_cases b:0<=a
      . exact Int.le_trans (M1 _ b) (by omega)
      . have:=Int.ediv_neg_of_neg_of_pos (by omega:a < 0) (by omega:0 < (2:Int) ^ (min q.toNat 64));omega
    have g:min a 0<=a / 2 ^ (min q.toNat 64):=by
      by_cases b:0<=a
      . exact Int.le_trans (by omega) (O4 b (by omega))
      . have:a<=a / 2 ^ (min q.toNat 64):=by
          rw [Int.le_ediv_iff_mul_le (by omega)];have:=Int.mul_le_mul_of_nonpos_left (a:=a) (by omega) e;omega
        omega
    unfold T3 at d ⊢;omega
  . cases h
section
variable {P : Program} {l : Env} {w : World} {dst : Option Tmp} {ty : TypeId} {pos : String} {aft : Array Edge}
theorem AaI {t u:TypeId} {x y:Operand} {a c q:Int} (e:opv l x=some (.int .i64 a)) (f:opv l y=some (.int .i64 q)) (he:AcF a q=some c):Ev P ⟨dst,.binOp .shr t x y u,ty,pos,aft,none⟩ l w (.int .i64 c):=λ _ _ d b=>by
  unfold AcF at he;split at he
  . rename_i hq;have hc:=sm he;subst hc;have hn:¬ q < 0:=(by omega);simp [execOp,b.eval e,b.eval f,eqGuard,binOp,Op.shift,hn,IntKind.bits]
  . cases he
theorem AaJ {t u:TypeId} {x y:Operand} {a b:Int} (e:opv l x=some (.int .i64 a)) (f:opv l y=some (.int .i64 b)):Ev P ⟨dst,.binOp .and t x y u,ty,pos,aft,none⟩ l w (.int .i64 (AcZ a b)):=λ _ _ d c=>by
  simp [execOp,c.eval e,c.eval f,eqGuard,binOp,Op.intBits,AcZ,wr,IntKind.bits];have h:(BitVec.ofInt 64 a &&& BitVec.ofInt 64 b).toNat=(a % 18446744073709551616).toNat &&& (b % 18446744073709551616).toNat:=(by rw [BitVec.toNat_and,J2,J2];rfl);exact congrArg (λ n:Nat=>IntKind.i64.wrap (n:Int)) h
end
section
variable {P : Program} {n : Nat} {ops : Array Oper} {Q : U3} {rest : List Oper} {l : Env} {w : World} {d : Tmp} {ty : TypeId} {pos : String} {aft : Array Edge}
theorem AbH {t u:TypeId} {x y:Operand} {a c q:Int} (b:opv l x=some (.int .i64 a)) (e:opv l y=some (.int .i64 q)) (hd:Nat.blt d n=true) (h:owp P n ops Q rest ((d,.int .i64 c) :: l) w) (he:AcF a q=some c:=by assumption):owp P n ops Q (⟨some d,.binOp .shr t x y u,ty,pos,aft,none⟩ :: rest) l w:=Bb (AaI b e he) hd h
theorem AbI {t u:TypeId} {x y:Operand} {a b:Int} (c:opv l x=some (.int .i64 a)) (e:opv l y=some (.int .i64 b)) (hd:Nat.blt d n=true) (h:owp P n ops Q rest ((d,.int .i64 (AcZ a b)) :: l) w):owp P n ops Q (⟨some d,.binOp .and t x y u,ty,pos,aft,none⟩ :: rest) l w:=Bb (AaJ c e) hd h
end
end
section
open Go Go.RowKit
noncomputable def HF (c:List Fct) (d:Int):Option Bool :=
  bnd (rng (ρ:=Bool) (λ (e:Nat) (b:Fct) (g:Unit)=>if b.var=d then (some (.ret true)) else (some (.next ()))) c 0 ()) λ a=>fin a λ (f:Unit)=>some false
section
attribute [local irreducible] Vb Lc Rw Ob
theorem Pc {w:World} {A:Nat->Prop} (hA:∀ k,A k->k < w.heap.size) {b:Value} {e:List Fct} (f:Vb w A b e) {c:Int} (g:T3 c) {o:Bool} (hm:HF e c=some o) :
    Fn prog 84 [b,(.int .i64 c)] w λ v w'=>Ext w w'/\Vb w' (upA A w w') v o:=by
 obtain ⟨_,_,_⟩:=CP hA;apply Ct f;intros;refine AH func84 rfl ntmps84 ?_;unfold HF at hm;refine Ah (Ae (Au rfl (o_z (Ah (Ah (Ae (Ar rfl (AT rfl (Ar rfl (o_z (Df (X:=Unit) hm [1,7] [] [2] [] (λ _ _ _ _ t=>t) (λ _ _ _ _ t=>t) () ?_ ?_)))))))))))
 ·intro i j l _ _ _ _ a m _ h;intros;refine Ah (Ae (CZ ?_));intros;refine FL ?_;refine BO 2 ?_;intros;refine Bf ?_;intros;refine o_z (Ah (Ae (AD rfl (AW (Ar rfl (Gw rfl rfl (λ d=>?_) λ d=>?_))))))
  ·replace a:=ip a d;refine o_z (Am rfl (Ah (Ae (Au rfl (o_z (AE ?_))))));obtain rfl:=sm a;obtain rfl:=h _ rfl;exact Cb
  replace a:=im a d;refine o_z (Aj rfl (AK ?_));exact Cl () a
 intro n _ _ _ _ hm;intros;refine Bu ?_;refine Ah (Ae (Au rfl (o_z (AE ?_))));obtain rfl:=sm hm;exact Cb
end
noncomputable def HZ (U:Tpl) (v:Nd6) (x2:Int):Option (Nd6×Bool) :=
  bnd (T5 8 ([]:List Int) v.values) λ S=>bnd (T5 8 ([]:List Int) v.left) λ T=>bnd (some (S,T):Option ((List Int)×(List Int))) λ u=>bnd (rng (ρ:=Nd6×Bool) (λ (c:Nat) (e:Job) (a:(List (List Fct))×(List (List Fct))×(List Int))=>bnd (bnd (AcF x2 (c:Int)) λ w=>if (AcZ w 1)=1 then (some true) else (some false):Option Bool) λ x=>bnd (if x=true then (bnd (v.left[c]?) λ y=>if 0<=y then (some (true,true)) else (some (true,false))) else (some (false,false)):Option (Bool×Bool)) λ d=>if d.2=true then (some (.ret ((⟨u.1,a.2.2⟩:Nd6),false))) else (bnd (if (!d.1)=true then (bnd (v.left[c]?) λ z=>if z≠0 then (some true) else (some false)) else (some false):Option Bool) λ A=>if A=true then (some (.next (a.1,a.2.1,a.2.2))) else (bnd (Hz e (!d.1)) λ B=>bnd (T5 24 a.1 [B]) λ p=>bnd (GT e (!d.1)) λ C=>bnd (T5 24 a.2.1 [C]) λ q=>bnd (a.2.2[c]?) λ V=>if d.1=true then (bnd ((a.2.2.set c (-1))[c]?) λ W=>some (.next (p,q,((a.2.2.set c (-1)).set c e.dur)))) else (some (.next (p,q,(a.2.2.set c (-1)))))))) U.jobs 0 (([]:List (List Fct)),([]:List (List Fct)),u.2)) λ j=>fin j λ (b:(List (List Fct))×(List (List Fct))×(List Int))=>bnd (rng (ρ:=Nd6×Bool) (λ (f:Nat) (D:List Fct) (g:(List Int))=>bnd (DO D v.values) λ E=>if E=true then bnd (rng (ρ:=Ctl (List Int) (Nd6×Bool)) (λ (r:Nat) (F:List Fct) (X:Unit)=>bnd (b.2.1[f]?) λ G=>bnd (rng (ρ:=Ctl Unit (Ctl (List Int) (Nd6×Bool))) (λ (Y:Nat) (s:Fct) (Z:Unit)=>bnd (if (f:Int)≠(r:Int) then (bnd (HF F s.var) λ H=>if H=true then some true else bnd (b.2.1[r]?) λ I=>bnd (HF I s.var) λ J=>if J=true then some true else some false) else (some false):Option Bool) λ K=>if K=true then (some (.ret (.ret (.ret ((⟨g,b.2.2⟩:Nd6),false))))) else (some (.next ()))) G 0 ()) λ k=>fin k λ (a0:Unit)=>some (.next ())) b.1 0 ()) λ l=>fin l λ (b0:Unit)=>bnd (b.2.1[f]?) λ L=>bnd (rng (ρ:=Ctl (List Int) (Nd6×Bool)) (λ (c0:Nat) (h:Fct) (t:(List Int))=>bnd (atI t h.var) λ d0=>some (.next (t.set (h.var:Int).toNat h.val))) L 0 g) λ m=>fin m λ (M:(List Int))=>some (.next M) else some (.ret ((⟨g,b.2.2⟩:Nd6),false))) b.1 0 u.1) λ n=>fin n λ (i:(List Int))=>bnd (rng (ρ:=Nd6×Bool) (λ (N:Nat) (O:Job) (e0:Unit)=>bnd (bnd (b.2.2[N]?) λ P=>if 0<=P then (bnd (DO O.over i) λ Q=>if Q=true then some false else some true) else (some false):Option Bool) λ R=>if R=true then (some (.ret ((⟨i,b.2.2⟩:Nd6),false))) else (some (.next ()))) U.jobs 0 ()) λ o=>fin o λ (f0:Unit)=>some ((⟨i,b.2.2⟩:Nd6),true)
section
attribute [local irreducible] Vb Lc Rw Ob
set_option maxHeartbeats 1000000 in
theorem Ta {w:World} {A:Nat→Prop} (hA:∀ k,A k→k < w.heap.size) {vx0:Value} {x0:Tpl} (p2:Vb w A vx0 x0) {vx1:Value} {x1:Nd6} (q2:Vb w A vx1 x1) {x2:Int} (rx2:T3 x2) {r:Nd6×Bool} (hm:HZ x0 x1 x2=some r) :
    Fn prog 39 [vx0,vx1,(.int .i64 x2)] w λ v w'=>Ext w w'/\NdS w w' (upA A w w') 3 v r:=by
 obtain ⟨_,_,_⟩:=CP hA;apply Ct p2;intros;apply Ct q2;intros;refine AH func39 rfl ntmps39 ?_;unfold HZ at hm;refine Ah (Ae (Do 2 ?_));intros;refine Do 3 ?_;intros;refine BO 4 ?_;intros;refine Au rfl (o_z (Ah (Ae (Au rfl (Au rfl (o_z (Ah ?_)))))));obtain ⟨i4,o0,hm⟩:=bs hm;obtain ⟨j4,l0,hm⟩:=bs hm;refine Ck (X:=Nat×(Option Addr×Nat)×(Option Addr×Nat)) hm [2,3,4,6,8,9] [] [5,6,7] [] (λ _ _ _ b1 t=>(10,pv b1.1) :: t) (λ _ _ c1 b1 t=>fR 5 3 b1.2.1 c1.1 :: fR 6 3 b1.2.2 c1.2 :: .L 7 b1.1 103 [sv b1.2.1 c1.1,sv b1.2.2 c1.2] :: t) ?_ ?_
 ·intro c1 g0;refine IN [(3,[5]),(7,[6])] ?_;refine AP (fuel:=9) [] (BL [1,2]) rfl (AU rfl rfl (GI rfl (AC ?_)));refine AP (fuel:=7) [5] (BL [5,6]) rfl (AU rfl rfl (GI rfl (AC (Ou (i:=0) (j:=4) (k:=9) rfl rfl rfl ?_ ?_ ?_))))
  ·refine q_S [] ?_;intros;refine DC 5 (([]:List Int):List Int) ?_;intros;refine Bj [(3,[5]),(7,[6])] ?_;refine Ou (i:=3) (j:=4) (k:=9) rfl rfl rfl ?_ ?_ ?_
   ·refine q_S [5] ?_;intros;refine Dp o0 ?_;intros;refine Bj [(7,[6])] ?_;refine EC (i:=4) (j:=9) rfl rfl ?_ ?_
    ·refine q_S [] ?_;intros;refine DC 6 (([]:List Int):List Int) ?_;intros;refine Bj [(7,[6])] ?_;refine EC (i:=7) (j:=9) rfl rfl ?_ ?_
     ·refine q_S [6] ?_;intros;refine Dp l0 ?_;intros;refine Bj [] ?_;refine AP (fuel:=2) [] [(8,true)] rfl (Dk rfl rfl rfl ?_);refine AC (AJ (i:=9) rfl (q_S [] ?_));intros;refine BO 7 ?_;intros;refine Bj [] ?_;refine AJ (i:=10) rfl (Bf ?_);intros;refine BM (Bi ?_);obtain rfl:=sm g0;exact AV (_,(_,_),(_,_))
     refine q_S [] ?_;intros;refine BO 7 ?_;intros;refine Bj [(7,[6])] ?_;refine AJ (i:=7) rfl (q_S [6] ?_);intros;refine Dp l0 ?_;intros;refine Bj [] ?_;refine AP (fuel:=1) [] [(8,true)] rfl (Dk rfl rfl rfl ?_);refine AC (AJ (i:=10) rfl (Bf ?_));intros;refine BM (Bi ?_);obtain rfl:=sm g0;exact AV (_,(_,_),(_,_))
    refine q_S [] ?_;intros;refine BO 7 ?_;intros;refine Bj [(7,[6])] ?_;refine AJ (i:=4) rfl (q_S [] ?_);intros;refine DC 6 (([]:List Int):List Int) ?_;intros;refine Bj [(7,[6])] ?_;refine AJ (i:=7) rfl (q_S [6] ?_);intros;refine Dp l0 ?_;intros;refine Bj [] ?_;refine AP (fuel:=1) [] [(8,true)] rfl (Dk rfl rfl rfl ?_);refine AC (AJ (i:=10) rfl (Bf ?_));intros;refine BM (Bi ?_);obtain rfl:=sm g0;exact AV (_,(_,_),(_,_))
   ·refine q_S [] ?_;intros;refine DC 6 (([]:List Int):List Int) ?_;intros;refine Bj [(3,[5]),(7,[6])] ?_;refine EC (i:=3) (j:=9) rfl rfl ?_ ?_
    ·refine q_S [5] ?_;intros;refine Dp o0 ?_;intros;refine Bj [(7,[6])] ?_;refine EC (i:=7) (j:=9) rfl rfl ?_ ?_
     ·refine q_S [6] ?_;intros;refine Dp l0 ?_;intros;refine Bj [] ?_;refine AP (fuel:=2) [] [(8,true)] rfl (Dk rfl rfl rfl ?_);refine AC (AJ (i:=9) rfl (q_S [] ?_));intros;refine BO 7 ?_;intros;refine Bj [] ?_;refine AJ (i:=10) rfl (Bf ?_);intros;refine BM (Bi ?_);obtain rfl:=sm g0;exact AV (_,(_,_),(_,_))
     refine q_S [] ?_;intros;refine BO 7 ?_;intros;refine Bj [(7,[6])] ?_;refine AJ (i:=7) rfl (q_S [6] ?_);intros;refine Dp l0 ?_;intros;refine Bj [] ?_;refine AP (fuel:=1) [] [(8,true)] rfl (Dk rfl rfl rfl ?_);refine AC (AJ (i:=10) rfl (Bf ?_));intros;refine BM (Bi ?_);obtain rfl:=sm g0;exact AV (_,(_,_),(_,_))
    refine q_S [] ?_;intros;refine BO 7 ?_;intros;refine Bj [(3,[5]),(7,[6])] ?_;refine AJ (i:=3) rfl (q_S [5] ?_);intros;refine Dp o0 ?_;intros;refine Bj [(7,[6])] ?_;refine AJ (i:=7) rfl (q_S [6] ?_);intros;refine Dp l0 ?_;intros;refine Bj [] ?_;refine AP (fuel:=1) [] [(8,true)] rfl (Dk rfl rfl rfl ?_);refine AC (AJ (i:=10) rfl (Bf ?_));intros;refine BM (Bi ?_);obtain rfl:=sm g0;exact AV (_,(_,_),(_,_))
   refine q_S [] ?_;intros;refine BO 7 ?_;intros;refine Bj [(3,[5]),(7,[6])] ?_;refine EC (i:=3) (j:=4) rfl rfl ?_ ?_
   ·refine q_S [5] ?_;intros;refine Dp o0 ?_;intros;refine Bj [(7,[6])] ?_;refine AJ (i:=4) rfl (q_S [] ?_);intros;refine DC 6 (([]:List Int):List Int) ?_;intros;refine Bj [(7,[6])] ?_;refine AJ (i:=7) rfl (q_S [6] ?_);intros;refine Dp l0 ?_;intros;refine Bj [] ?_;refine AP (fuel:=1) [] [(8,true)] rfl (Dk rfl rfl rfl ?_);refine AC (AJ (i:=10) rfl (Bf ?_));intros;refine BM (Bi ?_);obtain rfl:=sm g0;exact AV (_,(_,_),(_,_))
   refine q_S [] ?_;intros;refine DC 6 (([]:List Int):List Int) ?_;intros;refine Bj [(3,[5]),(7,[6])] ?_;refine AJ (i:=3) rfl (q_S [5] ?_);intros;refine Dp o0 ?_;intros;refine Bj [(7,[6])] ?_;refine AJ (i:=7) rfl (q_S [6] ?_);intros;refine Dp l0 ?_;intros;refine Bj [] ?_;refine AP (fuel:=1) [] [(8,true)] rfl (Dk rfl rfl rfl ?_);refine AC (AJ (i:=10) rfl (Bf ?_));intros;refine BM (Bi ?_);obtain rfl:=sm g0;exact AV (_,(_,_),(_,_))
  ·refine q_S [] ?_;intros;refine DC 6 (([]:List Int):List Int) ?_;intros;refine Bj [(3,[5]),(7,[6])] ?_;refine EC (i:=0) (j:=9) rfl rfl ?_ ?_
   ·refine q_S [] ?_;intros;refine DC 5 (([]:List Int):List Int) ?_;intros;refine Bj [(3,[5]),(7,[6])] ?_;refine EC (i:=3) (j:=9) rfl rfl ?_ ?_
    ·refine q_S [5] ?_;intros;refine Dp o0 ?_;intros;refine Bj [(7,[6])] ?_;refine EC (i:=7) (j:=9) rfl rfl ?_ ?_
     ·refine q_S [6] ?_;intros;refine Dp l0 ?_;intros;refine Bj [] ?_;refine AP (fuel:=2) [] [(8,true)] rfl (Dk rfl rfl rfl ?_);refine AC (AJ (i:=9) rfl (q_S [] ?_));intros;refine BO 7 ?_;intros;refine Bj [] ?_;refine AJ (i:=10) rfl (Bf ?_);intros;refine BM (Bi ?_);obtain rfl:=sm g0;exact AV (_,(_,_),(_,_))
     refine q_S [] ?_;intros;refine BO 7 ?_;intros;refine Bj [(7,[6])] ?_;refine AJ (i:=7) rfl (q_S [6] ?_);intros;refine Dp l0 ?_;intros;refine Bj [] ?_;refine AP (fuel:=1) [] [(8,true)] rfl (Dk rfl rfl rfl ?_);refine AC (AJ (i:=10) rfl (Bf ?_));intros;refine BM (Bi ?_);obtain rfl:=sm g0;exact AV (_,(_,_),(_,_))
    refine q_S [] ?_;intros;refine BO 7 ?_;intros;refine Bj [(3,[5]),(7,[6])] ?_;refine AJ (i:=3) rfl (q_S [5] ?_);intros;refine Dp o0 ?_;intros;refine Bj [(7,[6])] ?_;refine AJ (i:=7) rfl (q_S [6] ?_);intros;refine Dp l0 ?_;intros;refine Bj [] ?_;refine AP (fuel:=1) [] [(8,true)] rfl (Dk rfl rfl rfl ?_);refine AC (AJ (i:=10) rfl (Bf ?_));intros;refine BM (Bi ?_);obtain rfl:=sm g0;exact AV (_,(_,_),(_,_))
   refine q_S [] ?_;intros;refine BO 7 ?_;intros;refine Bj [(3,[5]),(7,[6])] ?_;refine AJ (i:=0) rfl (q_S [] ?_);intros;refine DC 5 (([]:List Int):List Int) ?_;intros;refine Bj [(3,[5]),(7,[6])] ?_;refine AJ (i:=3) rfl (q_S [5] ?_);intros;refine Dp o0 ?_;intros;refine Bj [(7,[6])] ?_;refine AJ (i:=7) rfl (q_S [6] ?_);intros;refine Dp l0 ?_;intros;refine Bj [] ?_;refine AP (fuel:=1) [] [(8,true)] rfl (Dk rfl rfl rfl ?_);refine AC (AJ (i:=10) rfl (Bf ?_));intros;refine BM (Bi ?_);obtain rfl:=sm g0;exact AV (_,(_,_),(_,_))
  refine q_S [] ?_;intros;refine BO 7 ?_;intros;refine Bj [(3,[5]),(7,[6])] ?_;refine EC (i:=0) (j:=4) rfl rfl ?_ ?_
  ·refine q_S [] ?_;intros;refine DC 5 (([]:List Int):List Int) ?_;intros;refine Bj [(3,[5]),(7,[6])] ?_;refine EC (i:=3) (j:=4) rfl rfl ?_ ?_
   ·refine q_S [5] ?_;intros;refine Dp o0 ?_;intros;refine Bj [(7,[6])] ?_;refine AJ (i:=4) rfl (q_S [] ?_);intros;refine DC 6 (([]:List Int):List Int) ?_;intros;refine Bj [(7,[6])] ?_;refine AJ (i:=7) rfl (q_S [6] ?_);intros;refine Dp l0 ?_;intros;refine Bj [] ?_;refine AP (fuel:=1) [] [(8,true)] rfl (Dk rfl rfl rfl ?_);refine AC (AJ (i:=10) rfl (Bf ?_));intros;refine BM (Bi ?_);obtain rfl:=sm g0;exact AV (_,(_,_),(_,_))
   refine q_S [] ?_;intros;refine DC 6 (([]:List Int):List Int) ?_;intros;refine Bj [(3,[5]),(7,[6])] ?_;refine AJ (i:=3) rfl (q_S [5] ?_);intros;refine Dp o0 ?_;intros;refine Bj [(7,[6])] ?_;refine AJ (i:=7) rfl (q_S [6] ?_);intros;refine Dp l0 ?_;intros;refine Bj [] ?_;refine AP (fuel:=1) [] [(8,true)] rfl (Dk rfl rfl rfl ?_);refine AC (AJ (i:=10) rfl (Bf ?_));intros;refine BM (Bi ?_);obtain rfl:=sm g0;exact AV (_,(_,_),(_,_))
  refine q_S [] ?_;intros;refine DC 6 (([]:List Int):List Int) ?_;intros;refine Bj [(3,[5]),(7,[6])] ?_;refine AJ (i:=0) rfl (q_S [] ?_);intros;refine DC 5 (([]:List Int):List Int) ?_;intros;refine Bj [(3,[5]),(7,[6])] ?_;refine AJ (i:=3) rfl (q_S [5] ?_);intros;refine Dp o0 ?_;intros;refine Bj [(7,[6])] ?_;refine AJ (i:=7) rfl (q_S [6] ?_);intros;refine Dp l0 ?_;intros;refine Bj [] ?_;refine AP (fuel:=1) [] [(8,true)] rfl (Dk rfl rfl rfl ?_);refine AC (AJ (i:=10) rfl (Bf ?_));intros;refine BM (Bi ?_);obtain rfl:=sm g0;exact AV (_,(_,_),(_,_))
 intro c1 _ _ _ _ hm;intros;refine Bu ?_;refine Ah (Ah (Ae (AD rfl (AW (AT rfl (Ar rfl (o_z ?_)))))));refine Df (X:=(Option Addr×Nat)×(Option Addr×Nat)) hm [2,3,4,6,10,32] [] [4,5,6,8,10,12] [4,5,6] (λ _ _ m0 p0 t=>(8,sv p0.1 m0.1) :: (9,sv p0.2 m0.2.1) :: t) (λ _ o m0 p0 t=>fR 10 23 p0.1 m0.1 :: fR 12 23 p0.2 m0.2.1 :: uL (o 4) 4 103 [] :: uR (o 5) 5 c1.1 :: uR (o 6) 6 m0.2.2 :: t) ((none,0),(none,0)) ?_ ?_
 ·intro r2 s2 m0 _ _ _ _ a0 j2 _ u0;intros;refine Ah (Ae (Ar rfl (CZ ?_)));intros;refine FL ?_;refine BO 8 ?_;intros;refine Au rfl (Bf ?_);intros;refine o_z (Ah (Ck (X:=Unit) a0 [2,3,4,6,8,9,10,11,12,32,33,34] [] [] [] (λ _ _ v0 _ t=>(13,.bool v0) :: t) (λ _ _ _ _ t=>t) ?_ ?_))
  ·intro v0 h0;refine Ae (Ar rfl (Ar rfl ?_));obtain ⟨t2,q1,h0⟩:=bs h0;have u2:=SZ zI q1;refine AbH (he:=q1) rfl rfl rfl (AbI rfl rfl rfl (Gw rfl rfl (λ d1=>?_) λ d1=>?_))
   ·replace h0:=ip h0 d1;refine Au rfl (o_z ?_);obtain rfl:=sm h0;exact AV ()
   replace h0:=im h0 d1;refine Au rfl (o_z ?_);obtain rfl:=sm h0;exact AV ()
  intro v0 _ _ _ _ a0;intros;refine Bu ?_;refine Ah (Ah (Ck (X:=Unit) a0 [2,3,4,6,8,9,10,11,12,32,33,34] [] [] [] (λ _ _ q0 _ t=>(13,.bool q0.1) :: (52,.bool q0.2) :: t) (λ _ _ _ _ t=>t) ?_ ?_))
  ·intro q0 e0;refine Ae (Ar rfl (Ar rfl ?_));rcases C8 v0 with r0|r0
   ·(try rw [r0]);replace e0:=ip e0 r0;refine Az rfl rfl (AD rfl (Az rfl rfl (AW (Az rfl rfl (Ar rfl (Az rfl rfl ?_))))));obtain ⟨v2,w2,e0⟩:=bs e0;refine CZ ?_;intros;refine Az rfl rfl (En (Az rfl rfl (ER rfl rfl (λ e1=>?_) λ e1=>?_)))
    ·replace e0:=ip e0 e1;refine Bt rfl rfl (o_z ?_);obtain rfl:=sm e0;exact AV ()
    replace e0:=im e0 e1;refine Bt rfl rfl (o_z ?_);obtain rfl:=sm e0;exact AV ()
   (try rw [r0]);replace e0:=im' e0 r0;refine Aw rfl rfl (Aw rfl rfl (Aw rfl rfl (Aw rfl rfl (Aw rfl rfl (Aw rfl rfl (Bd rfl rfl (o_z ?_)))))));obtain rfl:=sm e0;exact AV ()
  intro q0 _ _ _ _ a0;intros;refine Bu ?_;refine BH rfl (λ f1=>?_) (λ f1=>?_)
  ·replace a0:=ip a0 f1;refine Ah (Ae (EA ?_));refine Bf ?_;intros;refine Au rfl (o_z (AE (Gz 5 ?_)));intros;obtain rfl:=sm a0;obtain rfl:=u0 _ rfl;dsimp only [thn,U7];exact SY
  replace a0:=im' a0 f1;refine AK (Ah (Ah (Ck (X:=Unit) a0 [2,3,4,6,8,9,10,11,12,13,32,33,34] [] [] [] (λ _ _ g1 _ t=>(63,.bool g1) :: t) (λ _ _ _ _ t=>t) ?_ ?_)))
  ·intro g1 f0;refine Ae (Ar rfl (Iq rfl (Ar rfl ?_)));rcases C8 (!q0.1) with s0|s0
   ·(try simp only [s0]);replace f0:=ip f0 s0;refine Az rfl rfl (AD rfl (Az rfl rfl (AW (Az rfl rfl (Ar rfl (Az rfl rfl ?_))))));obtain ⟨y2,z2,f0⟩:=bs f0;refine CZ ?_;intros;refine Az rfl rfl (En (Az rfl rfl (Kr rfl rfl (λ h1=>?_) λ h1=>?_)))
    ·replace f0:=ip f0 h1;refine Bt rfl rfl (o_z ?_);obtain rfl:=sm f0;exact AV ()
    replace f0:=im f0 h1;refine Bt rfl rfl (o_z ?_);obtain rfl:=sm f0;exact AV ()
   (try simp only [s0]);replace f0:=im' f0 s0;refine Aw rfl rfl (Aw rfl rfl (Aw rfl rfl (Aw rfl rfl (Aw rfl rfl (Aw rfl rfl (Bd rfl rfl (o_z ?_)))))));obtain rfl:=sm f0;exact AV ()
  intro g1 _ _ _ _ a0;intros;refine Bu ?_;refine BH rfl (λ i1=>?_) (λ i1=>?_)
  ·replace a0:=ip a0 i1;refine Et ?_;exact Cl ((_,_),(_,_)) a0
  replace a0:=im' a0 i1;refine AK (Ah (IN [(6,[10]),(13,[12])] ?_));refine AP (fuel:=12) [] (BL [0,1,2,3]) rfl (AS rfl rfl (Hk rfl (AS rfl rfl (Aab rfl rfl rfl (AC ?_)))));refine AP (fuel:=8) [10] (BL [7,8,9,10]) rfl (AS rfl rfl (Hk rfl (AS rfl rfl (Aab rfl rfl rfl (AC (AJ (i:=4) rfl ?_))))));refine q_S [] ?_;intros;obtain ⟨t1,u1,a0⟩:=bs a0;refine NH rfl (RP Fr.lt zV u1) ?_;intros;refine Bj [(6,[10]),(13,[12])] ?_;refine AJ (i:=5) rfl (q_S [] ?_);intros;refine DC 9 ([t1]:List (List Fct)) ?_;intros;refine Bj [(6,[10]),(13,[12])] ?_;refine AJ (i:=6) rfl (q_S [10] ?_);intros;obtain ⟨a3,v1,a0⟩:=bs a0;refine Dp v1 ?_;intros;refine Bj [(13,[12])] ?_;refine AJ (i:=11) rfl (q_S [] ?_);intros;obtain ⟨w1,y1,a0⟩:=bs a0;refine NH rfl (QQ Fr.lt zV y1) ?_;intros;refine Bj [(13,[12])] ?_;refine AJ (i:=12) rfl (q_S [] ?_);intros;refine DC 11 ([w1]:List (List Fct)) ?_;intros;refine Bj [(13,[12])] ?_;refine AJ (i:=13) rfl (q_S [12] ?_);intros;obtain ⟨b3,z1,a0⟩:=bs a0;refine Dp z1 ?_;intros;refine Bj [] ?_;refine AP (fuel:=0) [] (BL [14,15]) rfl (Ek rfl rfl (Ek rfl rfl (AC (Bi (Ah (Ae (AD rfl (AW (Ar rfl ?_)))))))));obtain ⟨c3,d3,a0⟩:=bs a0;refine CZ ?_;intros;refine NF ?_;intros;refine o_z (Ah (Ae (Ar rfl (o_z (BH rfl (λ j1=>?_) (λ j1=>?_))))))
  ·replace a0:=ip a0 j1;refine Ae (AD rfl (AW (Ar rfl (AD rfl ?_))));refine AW ?_;obtain ⟨e3,f3,a0⟩:=bs a0;refine CZ ?_;intros;refine NF ?_;intros;refine o_z ?_;exact Cl ((_,_),(_,_)) a0
  replace a0:=im' a0 j1;refine AK ?_;exact Cl ((_,_),(_,_)) a0
 intro g3 _ _ _ _ hm;intros;refine Bu ?_;refine Ah (Ah (Ae (Ar rfl (AT rfl (Ar rfl (o_z (Df (X:=Unit) hm [3,4,6,8,9,10] [] [4,5,13,14] [4,5] (λ _ _ _ _ t=>t) (λ _ o w0 _ t=>uL (o 4) 4 103 [] :: uR (o 5) 5 w0 :: t) () ?_ ?_)))))))
 ·intro h3 i3 w0 _ _ _ _ d0 k2 _ n0;intros;refine Ah (Ae (Ar rfl (Au rfl (o_z (Ah (Ah (IN [] ?_)))))));refine AP (fuel:=2) [] (BL (DX 0 6)) rfl (AS rfl rfl (AS rfl rfl (Ox rfl ?_)));intros;refine SB rfl (AU rfl rfl ?_);refine GI rfl (AC (AJ (i:=6) rfl ?_));refine q_S [] ?_;intros;obtain ⟨a2,b2,d0⟩:=bs d0;refine Dj rfl (GS (λ _ h=>h) zA zA b2) ?_;intros;cases a2
  case false =>
   replace d0:=iF d0;refine Bj [] ?_;refine AP (fuel:=0) [] [(7,true)] rfl (AbQ rfl rfl rfl (AC (Bi (Am rfl (Ah (Ae (EA ?_)))))));refine Bf ?_;intros;refine Au rfl (o_z (AE (Gz 5 ?_)));intros;obtain rfl:=sm d0;obtain rfl:=n0 _ rfl;dsimp only [thn,U7];exact SY
  replace d0:=iT d0;refine Bj [] ?_;refine AP (fuel:=0) [] [(7,true)] rfl (AbP rfl rfl rfl (AC (Bi (Aj rfl (AK (Ah (Ah (Ae (Ar rfl (AT rfl (Ar rfl (o_z (Df (X:=Unit) d0 [3,4,6,8,9,10,14,91,92] [] [4,5,13] [4,5] (λ _ _ _ _ t=>t) (λ _ o _ _ t=>uL (o 4) 4 103 [] :: uR (o 5) 5 w0 :: t) () ?_ ?_)))))))))))))
  ·intro j3 k3 l3 _ _ _ _ k0 l2 _ y0;intros;refine Ah (Ae (Ar rfl (Au rfl (o_z (Ah (Ae (Ar rfl (Ar rfl ?_))))))));obtain ⟨m3,n3,k0⟩:=bs k0;refine CZ ?_;intros;refine En (AT rfl (Ar rfl (o_z ?_)));refine Df (X:=Unit) k0 [3,4,6,8,9,10,14,15,91,92,105,106,112] [] [4,5,13] [4,5] (λ _ _ _ _ t=>t) (λ _ o _ _ t=>uL (o 4) 4 103 [] :: uR (o 5) 5 w0 :: t) () ?_ ?_
   ·intro o3 p3 q3 _ _ _ _ i0 m2 _ z0;intros;refine Ah (Ae (CZ ?_));intros;refine FL ?_;refine BO 13 ?_;intros;refine Bf ?_;intros;refine o_z (Ah (Ck (X:=Unit) i0 [3,4,6,8,9,10,14,15,91,92,105,106,112,113,114] [] [] [] (λ _ _ k1 _ t=>(138,.bool k1) :: t) (λ _ _ _ _ t=>t) ?_ ?_))
    ·intro k1 b0;refine IN [] ?_;refine AP (fuel:=11) [] (BL (DX 0 10)) rfl (AS rfl rfl (AS rfl rfl (Vg rfl rfl rfl rfl (λ l1=>?_) λ l1=>?_)))
     ·replace b0:=ip b0 l1;refine AS rfl rfl (AB rfl (AA rfl rfl (CE rfl (AB rfl (AA rfl rfl (CE rfl (AB rfl (AA rfl rfl (YE ?_)))))))));intros;refine AB rfl (AA rfl rfl (Wi (AB rfl (AA rfl rfl (Dl rfl (AB rfl (AA rfl rfl ?_)))))));refine YD (AC (AJ (i:=10) rfl ?_));refine q_S [] ?_;intros;refine Az rfl rfl ?_;obtain ⟨c2,d2,b0⟩:=bs b0;refine Dj rfl (Pc (λ _ h=>h) zA zI d2) ?_;intros;cases c2
      case false =>
       replace b0:=iF b0;refine Bj [] ?_;refine AP (fuel:=3) [] (BL (DX 11 7)) rfl (AB rfl (AA rfl rfl (CE rfl (AB rfl (AA rfl rfl (CE rfl (AB rfl (AA rfl rfl (CE rfl (AB rfl (AA rfl rfl ?_)))))))))));obtain ⟨r3,s3,b0⟩:=bs b0;refine YE ?_;intros;refine AB rfl (AA rfl rfl (Wi (AB rfl (AA rfl rfl (Dl rfl (AB rfl (AA rfl rfl ?_)))))));refine YD (AC (AJ (i:=18) rfl ?_));refine q_S [] ?_;intros;refine Az rfl rfl ?_;obtain ⟨e2,f2,b0⟩:=bs b0;refine Dj rfl (Pc (λ _ h=>h) zA zI f2) ?_;intros;cases e2
       case false =>
        replace b0:=iF b0;refine Bj [] ?_;refine AP (fuel:=0) [] (BL [19,20]) rfl (AB rfl (AA rfl rfl (QK rfl rfl rfl (Ee rfl rfl rfl (AC (Bi ?_))))));obtain rfl:=sm b0;exact AV ()
       replace b0:=iT b0;refine Bj [] ?_;refine AP (fuel:=0) [] (BL [19,20]) rfl (AB rfl (AA rfl rfl (QK rfl rfl rfl (Ee rfl rfl rfl (AC (Bi ?_))))));obtain rfl:=sm b0;exact AV ()
      replace b0:=iT b0;refine Bj [] ?_;refine AP (fuel:=3) [] (BL (DX 11 7)) rfl (AB rfl (AA rfl rfl (CE rfl (Ce rfl rfl rfl (Ce rfl rfl rfl (Ce rfl rfl rfl (Ce rfl rfl rfl (Ce rfl rfl rfl (Ce rfl rfl rfl (AC (AJ (i:=18) rfl (q_S [] ?_))))))))))));intros;refine Aw rfl rfl (Bj [] ?_);refine AP (fuel:=0) [] (BL [19,20]) rfl (AB rfl (AA rfl rfl (QJ rfl rfl rfl (Ee rfl rfl rfl (AC (Bi ?_))))));obtain rfl:=sm b0;exact AV ()
     replace b0:=im b0 l1;refine AS rfl rfl (Ce rfl rfl rfl (Ce rfl rfl rfl (Ce rfl rfl rfl (Ce rfl rfl rfl (Ce rfl rfl rfl (Ce rfl rfl rfl (AC (AJ (i:=10) rfl (q_S [] ?_)))))))));intros;refine Aw rfl rfl (Bj [] ?_);refine AP (fuel:=3) [] (BL (DX 11 7)) rfl (Ce rfl rfl rfl (Ce rfl rfl rfl (Ce rfl rfl rfl (Ce rfl rfl rfl (Ce rfl rfl rfl (Ce rfl rfl rfl (Ce rfl rfl rfl (AC (AJ (i:=18) rfl (q_S [] ?_))))))))));intros;refine Aw rfl rfl (Bj [] ?_);refine AP (fuel:=0) [] (BL [19,20]) rfl (Ce rfl rfl rfl (DW rfl rfl rfl (AC (Bi ?_))));obtain rfl:=sm b0;exact AV ()
    intro k1 _ _ _ _ i0;intros;refine Bu ?_;refine BH rfl (λ m1=>?_) (λ m1=>?_)
    ·replace i0:=ip i0 m1;refine Ah (Ae (EA ?_));refine Bf ?_;intros;refine Au rfl (o_z (AE (Gz 5 ?_)));intros;obtain rfl:=sm i0;obtain rfl:=z0 _ rfl;obtain rfl:=y0 _ rfl;obtain rfl:=n0 _ rfl;dsimp only [thn,U7];exact SY
    replace i0:=im' i0 m1;refine AK ?_;exact Cl () i0
   intro t3 _ _ _ _ k0;intros;exact Cl () k0
  intro u3 _ _ _ _ d0;intros;refine Bu ?_;refine Ah (Ae (Ar rfl (Ar rfl ?_)));obtain ⟨v3,w3,d0⟩:=bs d0;refine CZ ?_;intros;refine En (AT rfl (Ar rfl (o_z ?_)));refine Df (X:=Unit) d0 [3,4,6,8,9,10,91,92,145] [] [5,14] [5] (λ _ _ _ _ t=>t) (λ _ o r1 _ t=>uR (o 5) 5 r1 :: t) () ?_ ?_
  ·intro x3 y3 r1 _ _ _ _ t0 n2 _ s1;intros;refine Ah (Ae (CZ ?_));intros;refine FL ?_;refine BO 14 ?_;intros;refine Bf ?_;intros;refine o_z (Ae (AD rfl (AW (AD rfl ?_))));refine AW (AD rfl ?_);refine AW ?_;obtain ⟨z3,a4,t0⟩:=bs t0;refine LO ?_;intros;refine NF ?_;intros;refine o_z ?_;exact Cl () t0
  intro b4 _ _ _ _ d0;intros;exact Cl () d0
 intro g2 _ _ _ _ hm;intros;refine Bu ?_;refine Ah (Ah (Ae (AD rfl (AW (AT rfl (Ar rfl (o_z ?_)))))));refine Df (X:=Unit) hm [6,10,161] [] [4,5,15] [4,5] (λ _ _ _ _ t=>t) (λ _ o _ _ t=>uL (o 4) 4 103 [] :: uR (o 5) 5 g2 :: t) () ?_ ?_
 ·intro c4 d4 e4 _ _ _ _ j0 o2 _ a1;intros;refine Ah (Ae (Ar rfl (CZ ?_)));intros;refine FL ?_;refine BO 15 ?_;intros;refine Au rfl (Bf ?_);intros;refine o_z (Ah (Ck (X:=Unit) j0 [6,10,161,162,163] [] [] [] (λ _ _ n1 _ t=>(181,.bool n1) :: t) (λ _ _ _ _ t=>t) ?_ ?_))
  ·intro n1 c0;refine Ae (AD rfl (AW (Ar rfl ?_)));obtain ⟨f4,g4,c0⟩:=bs c0;refine CZ ?_;intros;refine En (ER rfl rfl (λ o1=>?_) λ o1=>?_)
   ·replace c0:=ip c0 o1;refine Ar rfl (Az rfl rfl (AD rfl (Az rfl rfl (AW (Az rfl rfl (AD rfl (Az rfl rfl ?_)))))));refine AW (Az rfl rfl ?_);obtain ⟨h2,i2,c0⟩:=bs c0;refine Dj rfl (GS (λ _ h=>h) zA zAr i2) ?_;intros;cases h2
    case false =>
     replace c0:=iF c0;refine Az rfl rfl (EF rfl (Bt rfl rfl (o_z ?_)));obtain rfl:=sm c0;exact AV ()
    replace c0:=iT c0;refine Az rfl rfl (EE rfl (Bt rfl rfl (o_z ?_)));obtain rfl:=sm c0;exact AV ()
   replace c0:=im c0 o1;refine Ar rfl (Aw rfl rfl (Aw rfl rfl (Aw rfl rfl (Aw rfl rfl (Aw rfl rfl (Aw rfl rfl (Bd rfl rfl (o_z ?_))))))));obtain rfl:=sm c0;exact AV ()
  intro n1 _ _ _ _ j0;intros;refine Bu ?_;refine BH rfl (λ p1=>?_) (λ p1=>?_)
  ·replace j0:=ip j0 p1;refine Ah (Ae (EA ?_));refine Bf ?_;intros;refine Au rfl (o_z (AE (Gz 5 ?_)));intros;obtain rfl:=sm j0;obtain rfl:=a1 _ rfl;dsimp only [thn,U7];exact SY
  replace j0:=im' j0 p1;refine AK ?_;exact Cl () j0
 intro h4 _ _ _ _ hm;intros;refine Bu ?_;refine Ah (Ae (EA ?_));refine Bf ?_;intros;refine Au rfl (o_z (AE (Gz 5 ?_)));intros;obtain rfl:=sm hm;exact SY
end
noncomputable def GW (d:Nd6) (e:Nd6):Option Bool :=
  bnd (bnd (Gi d.values e.values) λ a=>if a=true then bnd (Gi d.left e.left) λ b=>if b=true then some true else some false else some false:Option Bool) λ c=>some c
section
attribute [local irreducible] Vb Lc Rw Ob
theorem Tb {w:World} {A:Nat->Prop} (hA:∀ k,A k->k < w.heap.size) {b:Value} {e:Nd6} (g:Vb w A b e) {c:Value} {f:Nd6} (i:Vb w A c f) {m:Bool} (hm:GW e f=some m) :
    Fn prog 41 [b,c] w λ v w'=>Ext w w'/\Vb w' (upA A w w') v m:=by
 obtain ⟨_,_,_⟩:=CP hA;apply Ct g;intros;apply Ct i;intros;refine AH func41 rfl ntmps41 ?_;unfold GW at hm;refine Ah (Ae (Do 2 ?_));intros;refine Do 3 ?_;intros;refine Au rfl (o_z (Ah (Ck (X:=Unit) hm [] [] [] [] (λ _ _ d _ t=>(4,.bool d) :: t) (λ _ _ _ _ t=>t) ?_ ?_)))
 ·intro d a;refine Ae (AD rfl (AW (AD rfl ?_)));refine AW ?_;obtain ⟨j,f0,a⟩:=bs a;refine Dj rfl (JM (λ _ h=>h) zA zA f0) ?_;intros;cases j
  case false =>
   replace a:=iF a;refine Ar rfl (Aw rfl rfl (Aw rfl rfl (Aw rfl rfl (Aw rfl rfl (Aw rfl rfl (Bd rfl rfl (Au rfl (o_z ?_))))))));obtain rfl:=sm a;exact AV ()
  replace a:=iT a;refine Ar rfl (Az rfl rfl (AD rfl (Az rfl rfl (AW (Az rfl rfl (AD rfl (Az rfl rfl ?_)))))));refine AW (Az rfl rfl ?_);obtain ⟨l,h0,a⟩:=bs a;refine Dj rfl (JM (λ _ h=>h) zA zA h0) ?_;intros;cases l
  case false =>
   replace a:=iF a;refine Bt rfl rfl (Au rfl (o_z ?_));obtain rfl:=sm a;exact AV ()
  replace a:=iT a;refine Bt rfl rfl (Au rfl (o_z ?_));obtain rfl:=sm a;exact AV ()
 intro d _ _ _ _ hm;intros;refine Bu ?_;refine AE ?_;obtain rfl:=sm hm;exact Cb
end
noncomputable def HB (r:Tpl):Option Int :=
  bnd (T5 8 ([]:List Int) r.init) λ s=>bnd (rng (ρ:=Int) (λ (U:Nat) (V:Job) (O:(List Int))=>bnd (T5 8 O [(-1)]) λ P=>some (.next P)) r.jobs 0 ([]:List Int)) λ q=>fin q λ (t:(List Int))=>bnd (some ([(⟨s,t⟩:Nd6)],[(⟨s,t⟩:Nd6)]):Option ((List Nd6)×(List Nd6))) λ u=>bnd (lop (ρ:=Int) (λ (b:(List Nd6)×(List Nd6)×Int)=>if 0 < (b.2.1.length:Int) then (bnd (rng (ρ:=Ctl ((List Nd6)×(List Nd6)×Int) Int) (λ (Q:Nat) (v:Nd6) (n:(List Nd6)×(List Nd6))=>bnd (Acp 1 (r.jobs.length:Int)) λ w=>bnd (Y5 w) λ x=>bnd (rngN (ρ:=Ctl ((List Nd6)×(List Nd6)) (Ctl ((List Nd6)×(List Nd6)×Int) Int)) (λ (y:Nat) (c:(List Nd6)×(List Nd6))=>bnd (HZ r v (y:Int)) λ a=>if (!a.2)=true then (some (.next (c.1,c.2))) else (bnd (rngN (ρ:=Ctl ((List Nd6)×(List Nd6)) (Ctl ((List Nd6)×(List Nd6)) (Ctl ((List Nd6)×(List Nd6)×Int) Int))) (λ (z:Nat) (A:Bool)=>if A=true then (some (.next true)) else (bnd (a.1.left[z]?) λ B=>if 0<=B then (some (.next true)) else (some (.next false)))) a.1.left.length false) λ h=>fin h λ (C:Bool)=>bnd (if (!C)=true then (bnd (DO r.goal a.1.values) λ D=>if D=true then some true else some false) else (some false):Option Bool) λ E=>if E=true then (some (.ret (.ret (.ret b.2.2)))) else (bnd (rngN (ρ:=Ctl ((List Nd6)×(List Nd6)) (Ctl ((List Nd6)×(List Nd6)) (Ctl ((List Nd6)×(List Nd6)×Int) Int))) (λ (f:Nat) (d:(List Int))=>bnd (d[f]?) λ F=>if 0 < F then (bnd (d[f]?) λ G=>bnd (T4 (G - 1)) λ H=>bnd (d[f]?) λ R=>some (.next (d.set f H))) else (some (.next d))) a.1.left.length a.1.left) λ i=>fin i λ (I:(List Int))=>bnd (rng (ρ:=Ctl ((List Nd6)×(List Nd6)) (Ctl ((List Nd6)×(List Nd6)) (Ctl ((List Nd6)×(List Nd6)×Int) Int))) (λ (S:Nat) (J:Nd6) (e:Bool×(List Int))=>if e.1=true then (some (.next (true,e.2))) else (bnd (GW (⟨a.1.values,e.2⟩:Nd6) J) λ K=>if K=true then some (.next (true,e.2)) else some (.next (false,e.2)))) c.1 0 (false,I)) λ j=>fin j λ (g:Bool×(List Int))=>if (!g.1)=true then (bnd (T5 48 c.1 [(⟨a.1.values,g.2⟩:Nd6)]) λ L=>bnd (T5 48 c.2 [(⟨a.1.values,g.2⟩:Nd6)]) λ M=>some (.next (L,M))) else (some (.next (c.1,c.2)))))) x (n.1,n.2)) λ k=>fin k λ (o:(List Nd6)×(List Nd6))=>some (.next (o.1,o.2))) b.2.1 0 (b.1,([]:List Nd6))) λ l=>fin l λ (p:(List Nd6)×(List Nd6))=>bnd (T4 (b.2.2 + 1)) λ N=>some (.next (p.1,p.2,N))) else (some (.brk (b.1,b.2.1,b.2.2)))) (u.1,u.2,0)) λ m=>fin m λ (T:(List Nd6)×(List Nd6)×Int)=>some 1125899906842624
section
attribute [local irreducible] Vb Lc Rw Ob
set_option maxHeartbeats 1000000 in
theorem RU {w:World} {A:Nat→Prop} (hA:∀ k,A k→k < w.heap.size) {vx0:Value} {x0:Tpl} (i2:Vb w A vx0 x0) {r:Int} (hm:HB x0=some r) :
    Fn prog 11 [vx0] w λ v w'=>Ext w w'/\Vb w' (upA A w w') v r:=by
 obtain ⟨_,_,_⟩:=CP hA;apply Ct i2;intros;refine AH func11 rfl ntmps11 ?_;unfold HB at hm;refine Ah (Ae (Do 2 ?_));intros;refine Au rfl (o_z (Ah (Ae (DC 3 (([]:List Int):List Int) ?_))));intros;refine AD rfl (AW ?_);obtain ⟨n1,j2,hm⟩:=bs hm;refine Dp j2 ?_;intros;refine ai ?_;refine BO 4 ?_;intros;refine Bf ?_;intros;refine o_z (Ah (Ah (Ae (AD rfl (AW (AT rfl (Ar rfl (o_z ?_))))))));refine Df (X:=(Option Addr×Nat)) hm [1,3] [] [4,5] [4] (λ _ _ _ _ t=>t) (λ _ o s1 f2 t=>fR 5 3 f2 s1 :: uL (o 4) 4 103 [(1,sv f2 s1)] :: t) (none,0) ?_ ?_
 ·intro k3 l3 s1 _ _ _ _ w0 k2 _ t1;intros;refine Ae (AD rfl (AW ?_));obtain ⟨m3,l2,w0⟩:=bs w0;refine NG l2 ?_;intros;refine AD rfl (Bf ?_);intros;refine o_z ?_;exact Cl (_,_) w0
 intro o1 _ _ _ _ hm;intros;refine Bu ?_;refine Ah (Ck (X:=(Option Addr×Nat)×(Option Addr×Nat)) hm [1] [] [3,5,6,7] [] (λ _ _ y0 j1 t=>(4,sv j1.1 y0.1) :: (5,sv j1.2 y0.2) :: t) (λ _ _ y0 j1 t=>fR 6 103 j1.1 y0.1 :: fR 7 103 j1.2 y0.2 :: t) ?_ ?_)
 ·intro y0 k1;refine IN [(1,[3,5]),(3,[3,5])] ?_;refine AP (fuel:=4) [3,5] (BL [0,2]) rfl (Hk rfl ?_);refine Hk rfl (AC ?_);refine EC (i:=1) (j:=3) rfl rfl ?_ ?_
  ·refine q_S [3,5] ?_;intros;refine Gz 3 ?_;intros;refine Gz 5 ?_;intros;refine DC 6 ([(⟨n1,o1⟩:Nd6)]:List Nd6) ?_;intros;refine Bj [(3,[3,5])] ?_;refine AP (fuel:=2) [3,5] [(4,true)] rfl (Ek rfl rfl (AC (AJ (i:=3) rfl (q_S [3,5] ?_))));intros;refine DC 7 ([(⟨n1,o1⟩:Nd6)]:List Nd6) ?_;intros;refine Bj [] ?_;refine AP (fuel:=0) [] [(5,true)] rfl (Ek rfl rfl (AC (Bi ?_)));obtain rfl:=sm k1;exact AV ((_,_),(_,_))
  refine q_S [3,5] ?_;intros;refine Gz 3 ?_;intros;refine Gz 5 ?_;intros;refine DC 7 ([(⟨n1,o1⟩:Nd6)]:List Nd6) ?_;intros;refine Bj [(1,[3,5])] ?_;refine AJ (i:=1) rfl (q_S [3,5] ?_);intros;refine DC 6 ([(⟨n1,o1⟩:Nd6)]:List Nd6) ?_;intros;refine Bj [] ?_;refine AP (fuel:=0) [] (BL [4,5]) rfl (Ek rfl rfl (Ek rfl rfl (AC (Bi ?_))));obtain rfl:=sm k1;exact AV ((_,_),(_,_))
 intro y0 _ _ _ _ hm;intros;refine Bu ?_;refine Ah (Ah (Ae (Au rfl (o_z (Gz 7 ?_)))));intros;refine AbC (X:=(Option Addr×Nat)×(Option Addr×Nat)) hm [1] [] [6,8,9,10,11,14] [] (λ _ _ g0 l0 t=>(4,sv l0.1 g0.1) :: (5,sv l0.2 g0.2.1) :: (6,.int .i64 g0.2.2) :: t) (λ _ _ g0 l0 t=>fR 6 103 l0.1 g0.1 :: fV l0.2 g0.2.1 :: fI g0.2.2 :: t) [] (λ _ _ _ _ t=>t) ((_,_),(_,_)) ?_ ?_
 ·intro g0 _ _ _ _ f0 t0;intros;refine Ah (Ah (Ae (Ar rfl (AT rfl (Cw rfl rfl (λ z0=>?_) λ z0=>?_)))))
  ·replace f0:=ip f0 z0;refine o_z (Am rfl (AK (Ah (Ci (Ah (Ae (Au rfl (o_z (Ah (Ah (Ae (Ar rfl (AT rfl (Ar rfl ?_))))))))))))));refine o_z (Df (X:=(Option Addr×Nat)×(Option Addr×Nat)) f0 [1,6,44] [] [6,8,9,10,11,14] [] (λ _ _ i0 m0 t=>(4,sv m0.1 i0.1) :: (7,sv m0.2 i0.2) :: t) (λ _ _ i0 m0 t=>fR 6 103 m0.1 i0.1 :: fR 14 103 m0.2 i0.2 :: t) ((_,_),(none,0)) ?_ ?_)
   ·intro m2 n2 i0 _ _ _ _ h0 g2 _ u0;intros;refine Ah (Ae (CZ ?_));intros;refine FL ?_;refine BO 8 ?_;intros;refine Bf ?_;intros;refine o_z (Ah (Ae (AD rfl (AW (AT rfl ?_)))));obtain ⟨o2,u1,h0⟩:=bs h0;refine YB (he:=u1) rfl rfl rfl (Ar rfl (o_z (Wk (X:=(Option Addr×Nat)×(Option Addr×Nat)) h0 [1,6,9,44,45,46] [] [6,9,10,11,14] [] (λ _ _ j0 n0 t=>(4,sv n0.1 j0.1) :: (7,sv n0.2 j0.2) :: t) (λ _ _ j0 n0 t=>fR 6 103 n0.1 j0.1 :: fR 14 103 n0.2 j0.2 :: t) ((_,_),(_,_)) ?_ ?_)))
    ·intro v1 p2 j0 _ _ _ _ a0 _ _ _ v0;intros;refine Ah (Ae (Ar rfl (Au rfl (o_z (Ah (Ae (EA ?_)))))));refine EA (Ar rfl ?_);obtain ⟨o0,w1,a0⟩:=bs a0;refine AbG 9 rfl (Ta Fr.lt zV zV zI w1) ?_;intros;refine Ar rfl (BW rfl rfl (BW rfl rfl (BO 10 ?_)));intros;refine Bf ?_;intros;refine Au rfl (o_z (Ah (Ah (Ae (Ar rfl (Iq rfl (o_z (BH rfl (λ a1=>?_) (λ a1=>?_)))))))))
     ·replace a0:=ip a0 a1;refine Et ?_;exact Cl ((_,_),(_,_)) a0
     replace a0:=im' a0 a1;refine AK (Ah (Ae (Au rfl (o_z (Ah (Ah (Ae (AD rfl (AW (AT rfl (Ar rfl (o_z ?_))))))))))));refine Qf (X:=Unit) a0 [1,4,6,7,9,11,44,45,46,53,54] [] [] [] (λ _ _ b1 _ t=>(13,.bool b1) :: t) (λ _ _ _ _ t=>t) () ?_ ?_
     ·intro q2 b1 _ _ _ _ c0 _ _ p1;intros;refine Ah (Ae (Ar rfl (Au rfl (o_z (Ae (Ar rfl (Ar rfl ?_)))))));rcases C8 b1 with p0|p0
      ·(try rw [p0]);replace c0:=ip c0 p0;refine Aw rfl rfl (Aw rfl rfl (Aw rfl rfl (Aw rfl rfl (Aw rfl rfl (Aw rfl rfl (Bt rfl rfl (Au rfl (o_z ?_))))))));exact Cl () c0
      (try rw [p0]);replace c0:=im' c0 p0;refine Az rfl rfl (AD rfl (Az rfl rfl (AW (Az rfl rfl (Ar rfl (Az rfl rfl ?_))))));obtain ⟨r2,s2,c0⟩:=bs c0;refine CZ ?_;intros;refine Az rfl rfl (En (Az rfl rfl (ER rfl rfl (λ c1=>?_) λ c1=>?_)))
      ·replace c0:=ip c0 c1;refine Bd rfl rfl (Au rfl (o_z ?_));exact Cl () c0
      replace c0:=im c0 c1;refine Bd rfl rfl (Au rfl (o_z ?_));exact Cl () c0
     intro x1 _ _ _ _ a0;intros;refine Bu ?_;refine Ah (Ah (Ck (X:=Unit) a0 [1,4,6,7,9,11,44,45,46,53,54] [] [] [] (λ _ _ d1 _ t=>(90,.bool d1) :: t) (λ _ _ _ _ t=>t) ?_ ?_))
     ·intro d1 d0;refine Ae (Ar rfl (Iq rfl (Ar rfl ?_)));rcases C8 (!x1) with q0|q0
      ·(try rw [q0]);replace d0:=ip d0 q0;refine Az rfl rfl (AD rfl (Az rfl rfl (AW (Az rfl rfl (AD rfl (Az rfl rfl ?_))))));refine AW (Az rfl rfl ?_);obtain ⟨y1,z1,d0⟩:=bs d0;refine Dj rfl (GS (λ _ h=>h) zA zA z1) ?_;intros;cases y1
       case false =>
        replace d0:=iF d0;refine Bt rfl rfl (o_z ?_);obtain rfl:=sm d0;exact AV ()
       replace d0:=iT d0;refine Bt rfl rfl (o_z ?_);obtain rfl:=sm d0;exact AV ()
      (try rw [q0]);replace d0:=im' d0 q0;refine Aw rfl rfl (Aw rfl rfl (Aw rfl rfl (Aw rfl rfl (Aw rfl rfl (Bd rfl rfl (o_z ?_))))));obtain rfl:=sm d0;exact AV ()
     intro d1 _ _ _ _ a0;intros;refine Bu ?_;refine BH rfl (λ e1=>?_) (λ e1=>?_)
     ·replace a0:=ip a0 e1;refine Ah (Ae (Ar rfl (Au rfl (o_z (AE ?_)))));obtain rfl:=sm a0;obtain rfl:=v0 _ rfl;obtain rfl:=u0 _ rfl;obtain rfl:=t0 _ rfl;dsimp only [thn,U7];exact Cb
     replace a0:=im' a0 e1;refine AK (Ah (Ah (Ae (AD rfl (AW (AT rfl (Ar rfl (o_z ?_))))))));refine Qf (X:=Unit) a0 [1,4,6,7,9,11,44,45,46,53,54] [] [9] [9] (λ _ _ _ _ t=>t) (λ _ o l1 _ t=>uR (o 9) 9 l1 :: t) () ?_ ?_
     ·intro t2 l1 _ _ _ _ b0 _ _ q1;intros;refine Ah (Ae (Ar rfl (Au rfl (o_z (Ah (Ae (AD rfl (AW (Ar rfl ?_)))))))));obtain ⟨u2,v2,b0⟩:=bs b0;refine CZ ?_;intros;refine En (Cw rfl rfl (λ f1=>?_) λ f1=>?_)
      ·replace b0:=ip b0 f1;refine o_z (Am rfl (Ae (AD rfl (AW (Ar rfl ?_)))));obtain ⟨w2,x2,b0⟩:=bs b0;refine CZ ?_;intros;refine En ?_;obtain ⟨y2,a2,b0⟩:=bs b0;refine II (he:=a2) rfl rfl ?_;obtain ⟨z2,a3,b0⟩:=bs b0;refine CZ ?_;intros;refine NF ?_;intros;refine o_z ?_;exact Cl () b0
      replace b0:=im b0 f1;refine o_z (Aj rfl (AK ?_));exact Cl () b0
     intro b3 _ _ _ _ a0;intros;refine Bu ?_;refine Ah (Ae (Au rfl (o_z (Ah (Ah (Ae (Ar rfl (AT rfl (Ar rfl (o_z (AbT 9 λ b2=>?_)))))))))));rw [b2];intros;refine Gz 9 ?_;intros;refine Df (X:=(Option Addr×Nat)) a0 [1,4,6,7,9,11,44,45,46,53,54,112] [] [10,11] [10] (λ _ _ k0 _ t=>(16,.bool k0.1) :: t) (λ _ o k0 m1 t=>fV m1 k0.2 :: uL (o 10) 10 103 [(1,sv m1 k0.2)] :: t) (_,_) ?_ ?_
     ·intro c3 d3 k0 _ _ _ _ e0 h2 _ r1;intros;refine Ah (Ae (CZ ?_));intros;refine FL ?_;refine BO 11 ?_;intros;refine Bf ?_;intros;refine o_z (Ae (Ar rfl (Ar rfl ?_)));rcases C8 k0.1 with r0|r0
      ·(try simp only [r0]);replace e0:=ip e0 r0;refine Aw rfl rfl (Aw rfl rfl (Aw rfl rfl (Bt rfl rfl (Au rfl (o_z ?_)))));exact Cl (_,_) e0
      (try simp only [r0]);replace e0:=im' e0 r0;refine Az rfl rfl (EA (Az rfl rfl ?_));refine EA (Az rfl rfl ?_);obtain ⟨c2,d2,e0⟩:=bs e0;refine Dj rfl (Tb (λ _ h=>h) zA zA d2) ?_;intros;cases c2
      case false =>
       replace e0:=iF e0;refine Bd rfl rfl (Au rfl (o_z ?_));exact Cl (_,_) e0
      replace e0:=iT e0;refine Bd rfl rfl (Au rfl (o_z ?_));exact Cl (_,_) e0
     intro s0 _ _ _ _ a0;intros;refine Bu ?_;refine Ah (Ae (Ar rfl (Iq rfl (o_z (BH rfl (λ g1=>?_) (λ g1=>?_))))))
     ·replace a0:=ip a0 g1;obtain ⟨e3,h1,a0⟩:=bs a0;obtain ⟨f3,i1,a0⟩:=bs a0;refine IN [(3,[6]),(7,[14])] ?_;refine AP (fuel:=8) [] (BL [0,1]) rfl (AS rfl rfl (Hk rfl (AC ?_)));refine AP (fuel:=6) [6] (BL [4,5]) rfl (AS rfl rfl (Hk rfl (AC ?_)));refine EC (i:=2) (j:=6) rfl rfl ?_ ?_
      ·refine q_S [] ?_;intros;refine DC 12 ([(⟨o0.1.values,s0.2⟩:Nd6)]:List Nd6) ?_;intros;refine Bj [(3,[6]),(7,[14])] ?_;refine EC (i:=3) (j:=6) rfl rfl ?_ ?_
       ·refine q_S [6] ?_;intros;refine Dp h1 ?_;intros;refine Bj [(7,[14])] ?_;refine AJ (i:=6) rfl (q_S [] ?_);intros;refine DC 13 ([(⟨o0.1.values,s0.2⟩:Nd6)]:List Nd6) ?_;intros;refine Bj [(7,[14])] ?_;refine AJ (i:=7) rfl (q_S [14] ?_);intros;refine Dp i1 ?_;intros;refine Bj [] ?_;refine AP (fuel:=0) [] (BL [8,9]) rfl (Ek rfl rfl (Ek rfl rfl (AC (Bi ?_))));exact Cl ((_,_),(_,_)) a0
       refine q_S [] ?_;intros;refine DC 13 ([(⟨o0.1.values,s0.2⟩:Nd6)]:List Nd6) ?_;intros;refine Bj [(3,[6]),(7,[14])] ?_;refine AJ (i:=3) rfl (q_S [6] ?_);intros;refine Dp h1 ?_;intros;refine Bj [(7,[14])] ?_;refine AJ (i:=7) rfl (q_S [14] ?_);intros;refine Dp i1 ?_;intros;refine Bj [] ?_;refine AP (fuel:=0) [] (BL [8,9]) rfl (Ek rfl rfl (Ek rfl rfl (AC (Bi ?_))));exact Cl ((_,_),(_,_)) a0
      refine q_S [] ?_;intros;refine DC 13 ([(⟨o0.1.values,s0.2⟩:Nd6)]:List Nd6) ?_;intros;refine Bj [(3,[6]),(7,[14])] ?_;refine AJ (i:=2) rfl (q_S [] ?_);intros;refine DC 12 ([(⟨o0.1.values,s0.2⟩:Nd6)]:List Nd6) ?_;intros;refine Bj [(3,[6]),(7,[14])] ?_;refine AJ (i:=3) rfl (q_S [6] ?_);intros;refine Dp h1 ?_;intros;refine Bj [(7,[14])] ?_;refine AJ (i:=7) rfl (q_S [14] ?_);intros;refine Dp i1 ?_;intros;refine Bj [] ?_;refine AP (fuel:=0) [] (BL [8,9]) rfl (Ek rfl rfl (Ek rfl rfl (AC (Bi ?_))));exact Cl ((_,_),(_,_)) a0
     replace a0:=im' a0 g1;refine AK ?_;exact Cl ((_,_),(_,_)) a0
    intro v1 g3 _ _ _ _ h0;intros;exact Cl ((_,_),(_,_)) h0
   intro h3 _ _ _ _ f0;intros;refine Bu ?_;refine Ae (Ar rfl (Au rfl (o_z (Ae (Ar rfl ?_)))));obtain ⟨i3,e2,f0⟩:=bs f0;refine DD (he:=e2) rfl rfl (Au rfl (o_z (Gz 14 ?_)));intros;exact Cl ((_,_),(_,_)) f0
  replace f0:=im f0 z0;refine o_z (Aj rfl (Et ?_));exact AbS ((_,_),(_,_)) f0
 intro j3 _ _ _ _ hm;intros;refine Bu ?_;refine Ah (Ae (Au rfl (o_z (AE ?_))));obtain rfl:=sm hm;exact Cb
end
end
section
open Go Go.RowKit
attribute [local irreducible] ewp owp hwp hwq hws Ev Evg Fn T9 V1 U8 U4
attribute [local irreducible] hwx V7
def Fd (xs:List U64):Option (List U64):=if xs.length * 8<=140737488355328/\xs.length<=9223372036854775807 then some xs else none
theorem Jw {w:World} {A:Nat->Prop} (hA:∀ k,A k->k < w.heap.size) {v0:Value} {b:List U64} (a:Vb w A v0 b) {t:List U64} (hm:Fd b=some t) :
    Fn prog 108 [v0] w λ v w'=>Ext w w'/\RowR w w' (upA A w w') 200 v t:=by
  obtain ⟨⟨hl,a0⟩,rfl⟩:=DJ hm;obtain ⟨O,hB,b0⟩:=enter hA;replace a:=a.mono b0;obtain ⟨f,c,rfl⟩:=a.form;refine AH func108 rfl ntmps108 ?_;cases f with
  | none =>
    have i:b=[]:=by
      cases b with
      | nil=>rfl
      | cons x xs=>obtain ⟨_,_,_,h,_⟩:=a.elem (k:=0) (x:=x) rfl;cases h
    subst i;refine ax ?_<;>refine ad ?_;exact U2 rfl rfl ⟨T0 _ _,RowR.nil⟩
  | some m =>
    refine ax ?_<;>refine aa ?_;refine BI 2 O (xs:=([]:List U64)) rfl rfl rfl trivial λ g n o d j=>?_;replace hB:=hB.st d (λ h=>h) (λ h=>h);replace a:=a.st d (λ h=>h);refine ab ?_;refine Cj rfl j a.rd rfl rfl (by simpa using hl) (by simpa using a0) λ p q r s l e=>?_;replace hB:=hB.st l (by decide) (by decide);rw [N6] at e ⊢;refine ac ?_;refine aa ?_;exact U2 rfl rfl ⟨hB.ext,e.out hB (by decide)⟩
structure PFd where
  word:Int
  bit:Int
  width:Int
  size:Int
instance:Rp PFd where
  isAgg:=true
  size:=4
  R w F cs x:=cs=[.int .i64 x.word,.int .i64 x.bit,.int .i64 x.width,.int .i64 x.size]/\T3 x.word/\T3 x.bit/\T3 x.width/\T3 x.size
  len:=by rintro w F cs x ⟨rfl,h0,h1,h2,h3⟩;rfl
  one:=by rintro w F cs x ⟨rfl,h0,h1,h2,h3⟩ u hu;simp at hu;rcases hu with rfl|rfl|rfl|rfl<;>first|rfl|exact Vb.one rfl (by assumption)
  agree:=by rintro w w' F cs x ⟨rfl,h0,h1,h2,h3⟩ ha;exact ⟨rfl,h0,h1,h2,h3⟩
  mono:=by rintro w F G cs x ⟨rfl,h0,h1,h2,h3⟩ ha;exact ⟨rfl,h0,h1,h2,h3⟩
structure Pkr where
  fields:List PFd
  words:Int
instance:Ow Pkr where
  R w F d v x:=∃ (g:Nat) (L:Lab) (a:Value),v=.pointer (some ⟨g,0,none⟩)/\Blk w g 198 [a,.int .i64 x.words]/\d g/\L g=0/\RwM w F (λ k=>d k/\L k=1) 202 a x.fields/\T3 x.words
  agree:=by rintro w w' F d v x ⟨g,L,a,rfl,hb,hM,hL,h0,h1⟩ a1 a2;exact ⟨g,L,a,rfl,hb.keep (a2 g hM),hM,hL,h0.agree a1 λ k hk=>a2 k hk.1,h1⟩
  mono:=by rintro w F d b c v x ⟨g,L,a,rfl,hb,hM,hL,h0,h1⟩ a1 a2 a3;exact ⟨g,L,a,rfl,hb,a2 g hM,hL,h0.mono a1 (λ k hk=>⟨a2 k hk.1,hk.2⟩) λ k hf hm=>a3 k hf hm.1,h1⟩
instance:OwP Pkr:=⟨by rintro w F a v x ⟨g,L,c0,rfl,_⟩;exact ⟨g,rfl⟩⟩
theorem Pkr.opn {i:Nat} {w:World} {O:Lab} {p:Nat} {x:Pkr} (h:Ob i w O (.pointer (some ⟨p,0,none⟩)) x) (l0 b:Nat) (hl:l0≠0/\b≠0):∃ (c:Lab) (d:Value),St (eT i) w O w c/\(∀ k,Fr i w O k->∃ q,q∈[l0,b]/\Fr q w c k)/\Lc l0 w c p 198 [d,.int .i64 x.words]/\Rw b w c 202 d x.fields/\T3 x.words:=by
  obtain ⟨⟨g,L,d,a,hb,hM,hL,h0,h1⟩,hi⟩:=h;obtain rfl:p=g:=(by injection a with a;injection a with a;injection a);exact ⟨part O i L [l0,b],d,Md hi,KU (by simp),⟨hb,(FK (j:=0) rfl p ⟨hM,hL⟩).2⟩,h0.rw (DS hi) (FK (j:=1) rfl) hl.2,h1⟩
theorem Pkr.shut {w:World} {O:Lab} {p:Nat} {x:Pkr} {l0 c:Nat} {g:Value} (hd:¬ 0∈[l0,c]/\[l0,c].idxOf l0=0/\[l0,c].idxOf c=1) (hb:Lc l0 w O p 198 [g,.int .i64 x.words]) (j:Rw c w O 202 g x.fields) (l:T3 x.words):∃ f,St (·∈[l0,c]) w O w f/\(∀ k,Fr 0 w O k->Fr 0 w f k)/\(∀ q,q∈[l0,c]->∀ k,Fr q w O k->Fr l0 w f k)/\Ob l0 w f (.pointer (some ⟨p,0,none⟩)) x:=by
  have d:l0≠0:=λ e=>hd.1 (by simp [e]);have h:=ES (i:=l0) hd.2.1 (by simp) p ⟨hb.1.lt,hb.2⟩;exact ⟨Z3 O l0 [l0,c],KV,CI hd.1,JT,⟨p,λ k=>[l0,c].idxOf (O k),g,rfl,hb.1,h.1,h.2,j.m (CI hd.1) (ES hd.2.2 (by simp)) (λ k a b=>W6 d k a b.1),l⟩,d⟩
noncomputable def Jn (q:List Int):Option ((Option Pkr)×Err) :=
  if 64 < (q.length:Int) then (some (none,(⟨5⟩:Err))) else (bnd (rng (ρ:=(Option Pkr)×Err) (λ (r:Nat) (c:Int) (a:Int×Pkr)=>bnd (if c < 1 then (some true) else (if 64 < c then (some true) else (some false)):Option Bool) λ m=>if m=true then (some (.ret (none,(⟨1⟩:Err)))) else (bnd (lop (ρ:=Ctl (Int×Pkr) ((Option Pkr)×Err)) (λ (d:Int)=>bnd (Acp 1 d) λ n=>if n < c then (bnd (T4 (d + 1)) λ o=>some (.next o)) else (some (.brk d))) 0) λ e=>fin e λ (f:Int)=>bnd (bnd (T4 (a.1 + f)) λ p=>if 64 < p then (bnd (T4 (a.2.words + 1)) λ h=>some (0,(⟨a.2.fields,h⟩:Pkr))) else (some (a.1,a.2)):Option (Int×Pkr)) λ b=>bnd (T4 (b.2.words - 1)) λ i=>bnd (T5 32 b.2.fields [(⟨i,b.1,f,c⟩:PFd)]) λ j=>bnd (T4 (b.1 + f)) λ k=>some (.next (k,(⟨j,b.2.words⟩:Pkr))))) q 0 (0,(⟨([]:List PFd),1⟩:Pkr))) λ g=>fin g λ (l:Int×Pkr)=>some ((some l.2),(⟨0⟩:Err)))
theorem Vy {w:World} {O:Lab} {vx0:Value} {x0:List Int} (y0:Vb w (Fr 0 w O) vx0 x0) (j0:Nat) (hj0:j0≠0) {r:(Option Pkr)×Err} (hm:Jn x0=some r) :
    Fn prog 107 [vx0] w λ v w'=>∃ O',St nT w O w' O'/\∃ v0 v1:Value,v=.tuple #[v0,v1]/\Obo j0 w' O' v0 r.1/\Vb w' (Fr 0 w' O') v1 r.2:=by
 obtain ⟨O0,hE,f3⟩:=AdZ (w:=w) (O:=O);have hB:Bm w O0 w O0:=Bm.refl;replace y0:=y0.mono f3;obtain ⟨A2,c3,rfl⟩:=y0.form;refine AH func107 rfl ntmps107 ?_;unfold Jn at hm;refine Ah (Ae (Au rfl (Au rfl (o_z (Ah (Ah (Ae (Ar rfl (AT rfl ?_)))))))));have l5:=BK y0.len;have r4:=rngNat l5;refine Cw rfl rfl (λ c6=>?_) λ c6=>?_
 ·replace hm:=ip hm c6;refine o_z (Am rfl (Ah (Ae (Ex rfl (Au rfl (Au rfl (o_z (AE ?_))))))));obtain rfl:=sm hm;obtain ⟨O',hS',hz,hl⟩:=hE.leave (λ _=>0) rfl hB;exact U6 rfl (AF rfl) (AF rfl) ⟨O',hS',_,_,rfl,rfl,(vErr (by decide))⟩
 replace hm:=im hm c6;refine o_z (Aj rfl (AK (Ah (Ae (CX rfl rfl ?_)))));refine Fi 2 O0 rfl λ g7 w8 O9 g3 h3=>?_;refine Au rfl (o_z (Ah (Ae (Au rfl (o_z (Ah (Ah (Ae (Ar rfl (AT rfl ?_))))))))));have m1:=BK y0.len;have b5:=rngNat m1;refine Ar rfl (o_z ?_);have i3:Rw 3 w8 O9 202 (.slice none 0 0) ([]:List PFd):=Rw.nil 3 (by decide);obtain ⟨j3,k3,l3,m3,n3⟩:=Pkr.shut (x:=(⟨([]:List PFd),1⟩:Pkr)) (l0:=2) (by decide) h3 i3 (T8 1);obtain ⟨s2,n1,hm⟩:=bs hm;replace hB:=(hB.st g3).st k3;refine Dv (X:=Unit) (x0.length) n1 rfl m1 (λ g0 t2=>[(4,(.pointer (some ⟨g7,0,none⟩))),(5,(.int .i64 g0.1)),(15,(.slice A2 x0.length c3))]) (λ g0 t2 w'=>∃ O':Lab,Bm w O0 w' O'/\Ob 2 w' O' (.pointer (some ⟨g7,0,none⟩)) g0.2/\T3 g0.1) () ⟨j3,hB,n3,(T8 0)⟩ ⟨rfl,rfl,rfl,rfl,rfl,trivial⟩ (λ _ _=>rfl) ?_ ?_
 ·rintro j1 p0 g0 t2 c5 o3 z0 ⟨d5,hB,f0,u2⟩ a0 q0 o1;have rk25:=V5 z0 m1;refine Ah (Ae ?_);obtain ⟨e5,f5,p3,p1,q1,r1,rfl,q3⟩:=(y0.z hB).elem' z0;refine CN (hA:=p1) (hj:=rfl) (hlt:=q1) rfl rfl (AQ (hc:=cat0 r1) rfl (Au rfl (o_z (Ah (Ah ?_)))));obtain ⟨r3,b0,a0⟩:=bs a0;refine BF (λ l' w'=>∃ (s3:Unit) (O':Lab),T7 l' [(4,(.pointer (some ⟨g7,0,none⟩))),(5,(.int .i64 g0.1)),(7,(.int .i64 p0)),(15,(.slice A2 x0.length c3)),(16,(.int .i64 (x0.length:Int))),(17,(.int .i64 (j1:Int))),(26,(.bool r3))]/\Bm w O0 w' O'/\Ob 2 w' O' (.pointer (some ⟨g7,0,none⟩)) g0.2) ?_ ?_
  ·refine Ae (Ar rfl (Eb rfl rfl (λ s1=>?_) λ s1=>?_))
   ·replace b0:=ip b0 s1;refine Ar rfl (Aw rfl rfl (Aw rfl rfl (Bt rfl rfl (o_z ?_))));obtain rfl:=sm b0;exact ⟨(),_,⟨rfl,rfl,rfl,rfl,rfl,rfl,rfl,trivial⟩,hB,f0⟩
   replace b0:=im b0 s1;refine Ar rfl (Az rfl rfl (Ar rfl (Az rfl rfl (Cw rfl rfl (λ t1=>?_) λ t1=>?_))))
   ·replace b0:=ip b0 t1;refine Bd rfl rfl (o_z ?_);obtain rfl:=sm b0;exact ⟨(),_,⟨rfl,rfl,rfl,rfl,rfl,rfl,rfl,trivial⟩,hB,f0⟩
   replace b0:=im b0 t1;refine Bd rfl rfl (o_z ?_);obtain rfl:=sm b0;exact ⟨(),_,⟨rfl,rfl,rfl,rfl,rfl,rfl,rfl,trivial⟩,hB,f0⟩
  rintro g5 h5 ⟨s3,t3,u1,hB,f0⟩;refine AX _ u1 ?_;refine BH rfl (λ w1=>?_) (λ w1=>?_)
  ·replace a0:=ip a0 w1;refine Ah (Ae (Ex rfl (Au rfl (Au rfl (o_z (AE ?_))))));obtain rfl:=sm a0;obtain rfl:=q0 _ rfl;obtain rfl:=sm (CU hm);obtain ⟨O',hS',hz,hl⟩:=hE.leave (λ _=>0) rfl hB;exact U6 rfl (AF rfl) (AF rfl) ⟨O',hS',_,_,rfl,rfl,(vErr (by decide))⟩
  replace a0:=im' a0 w1;refine AK (Ah (Ae (Au rfl (o_z (Ah ?_)))));obtain ⟨a1,x1,a0⟩:=bs a0;refine BF (aft a1 (λ (o0:Int) (k1:Unit)=>[(4,(.pointer (some ⟨g7,0,none⟩))),(5,(.int .i64 g0.1)),(7,(.int .i64 p0)),(8,(.int .i64 o0)),(15,(.slice A2 x0.length c3)),(16,(.int .i64 (x0.length:Int))),(17,(.int .i64 (j1:Int)))]) (λ o0 k1 w'=>∃ O':Lab,Bm w O0 w' O'/\Ob 2 w' O' (.pointer (some ⟨g7,0,none⟩)) g0.2/\T3 o0)) ?_ ?_
  ·refine Ci (JC (σ:=Int) (X:=Unit) x1 (λ (o0:Int) (k1:Unit)=>[(4,(.pointer (some ⟨g7,0,none⟩))),(5,(.int .i64 g0.1)),(7,(.int .i64 p0)),(8,(.int .i64 o0)),(15,(.slice A2 x0.length c3)),(16,(.int .i64 (x0.length:Int))),(17,(.int .i64 (j1:Int)))]) _ (λ o0 k1 w'=>∃ O':Lab,Bm w O0 w' O'/\Ob 2 w' O' (.pointer (some ⟨g7,0,none⟩)) g0.2/\T3 o0) _ () ⟨t3,hB,f0,(T8 0)⟩ ⟨rfl,rfl,rfl,rfl,rfl,rfl,rfl,trivial⟩ ?_);rintro o0 k1 i5 u3 ⟨j5,hB,f0,y1⟩ c0 z1 r0;refine Ah (Ah (Ae (Ar rfl ?_)));obtain ⟨k5,v2,c0⟩:=bs c0;have m5:=Sz v2;refine YB (he:=v2) rfl rfl rfl (Ar rfl (Eb rfl rfl (λ a2=>?_) λ a2=>?_))
   ·replace c0:=ip c0 a2;refine o_z (Am rfl (AK (Ci (Ae (Ar rfl ?_)))));obtain ⟨n5,w2,c0⟩:=bs c0;have v3:=(BJ w2);refine DD (he:=w2) rfl rfl (Au rfl (o_z ?_));obtain rfl:=sm c0;exact show Exists _ from ⟨_,(),rfl,⟨rfl,rfl,rfl,rfl,rfl,rfl,rfl,trivial⟩,_,hB,f0,v3⟩
   replace c0:=im c0 a2;refine o_z (Aj rfl (Et ?_));obtain rfl:=sm c0;exact show Exists _ from ⟨_,(),r0 _ rfl,⟨rfl,rfl,rfl,rfl,rfl,rfl,rfl,trivial⟩,_,hB,f0,y1⟩
  rintro o5 p5 ⟨l1,q5,rfl,b2,r5,hB,f0,y1⟩;replace a0:=BE a0;refine AX _ b2 ?_;refine Ah ?_;obtain ⟨s0,d0,a0⟩:=bs a0;refine BF (λ l' w'=>∃ (w3:Unit) (O':Lab),T7 l' [(4,(.pointer (some ⟨g7,0,none⟩))),(5,(.int .i64 s0.1)),(7,(.int .i64 p0)),(8,(.int .i64 l1)),(15,(.slice A2 x0.length c3)),(16,(.int .i64 (x0.length:Int))),(17,(.int .i64 (j1:Int)))]/\Bm w O0 w' O'/\Ob 2 w' O' (.pointer (some ⟨g7,0,none⟩)) s0.2/\T3 s0.1) ?_ ?_
  ·refine Ah (Ae (Ar rfl (Ar rfl ?_)));obtain ⟨s5,x2,d0⟩:=bs d0;have t5:=(BJ x2);refine DD (he:=x2) rfl rfl (Cw rfl rfl (λ c2=>?_) λ c2=>?_)
   ·replace d0:=ip d0 c2;refine o_z (Am rfl (Ah (Ae (Ar rfl (Dr rfl ?_)))));obtain ⟨u5,x3,d2,y2,h0,i0,y3⟩:=Pkr.opn f0 2 4 (by decide);obtain ⟨z3,a4,rfl⟩:=i0.form;refine AD rfl (AQ (hc:=Blk.cell (i:=1) (h0.1) rfl) rfl ?_);obtain ⟨e2,b1,d0⟩:=bs d0;have f2:=(BJ b1);refine DD (he:=b1) rfl rfl (Dr rfl (AD rfl ?_));refine AR h0 rfl rfl rfl (AY) (allOne) λ b4 c1 h0=>?_;refine o_z (Ae (Au rfl (o_z ?_)));replace i0:=i0.st c1;obtain ⟨c4,g2,z2,a3,h2⟩:=Pkr.shut (x:=(⟨g0.2.fields,e2⟩:Pkr)) (l0:=2) (by decide) h0 i0 f2;obtain rfl:=sm d0;exact ⟨(),_,⟨rfl,rfl,rfl,rfl,rfl,rfl,rfl,trivial⟩,((hB.st d2).st c1).st g2,h2,(T8 0)⟩
   replace d0:=im d0 c2;refine o_z (Aj rfl (AK ?_));obtain rfl:=sm d0;exact ⟨(),_,⟨rfl,rfl,rfl,rfl,rfl,rfl,rfl,trivial⟩,hB,f0,u2⟩
  rintro d4 e4 ⟨w3,f4,d1,hB,g4,h4⟩;refine AX _ d1 ?_;refine Ah ?_;obtain ⟨e1,i4,i2,b3,e0,k0,j2⟩:=Pkr.opn g4 2 4 (by decide);obtain ⟨j4,k4,rfl⟩:=k0.form;refine BT [(15,[4])] e1 ?_;refine AP (fuel:=6) [] (BL (DX 1 13)) rfl (AS rfl rfl (DN rfl rfl (AU rfl rfl (Bc (hc:=By e0 0 rfl) rfl rfl (AS rfl rfl (DN rfl rfl (AU rfl rfl (Bc (hc:=By e0 1 rfl) rfl rfl ?_))))))));obtain ⟨t0,f1,a0⟩:=bs a0;have k2:=(BJ f1);refine Se (he:=f1) rfl rfl rfl rfl (AS rfl rfl (AS rfl rfl (AS rfl rfl (Dk rfl rfl rfl ?_))));refine AC ?_;refine AP (fuel:=5) [4] [(0,true)] rfl (AS rfl rfl (AC (AJ (i:=14) rfl ?_)));refine BI 5 e1 (xs:=([(⟨t0,s0.1,l1,p0⟩:PFd)]:List PFd)) rfl rfl rfl ⟨(Vb.ofAgg (cs:=[(.int .i64 t0),(.int .i64 s0.1),(.int .i64 l1),(.int .i64 p0)]) (x:=(⟨t0,s0.1,l1,p0⟩:PFd)) rfl ⟨rfl,k2,h4,y1,q3⟩),trivial⟩ λ l4 m4 n4 m0 l2=>?_;have hZ:=lZ m0;refine Be [(15,[4])] hZ (AJ (i:=15) rfl ?_);obtain ⟨m2,u0,a0⟩:=bs a0;obtain ⟨u0,n2,o2⟩:=Bz u0;replace k0:=k0.st m0;refine Cj rfl k0 (l2.rd) rfl rfl n2 o2 λ o4 p4 q4 s4 w0 n0=>?_;rw [<- u0] at n0 ⊢;have hZ:=w0.lst [4] (λ _ h=>by cases h;decide);refine Be [] hZ ?_;refine AP (fuel:=1) [] (BL [16,17]) rfl (DN rfl rfl (AU rfl rfl (AC (AJ (i:=18) rfl ?_))));replace e0:=(e0.st m0).st w0;refine AR e0 rfl rfl rfl (AY) (allOne) λ t4 g1 e0=>?_;refine BM (Bi (Ae (Ar rfl (Ar rfl ?_))));obtain ⟨u4,h1,a0⟩:=bs a0;have p2:=(BJ h1);refine DD (he:=h1) rfl rfl (Au rfl (o_z ?_));replace n0:=n0.st g1;obtain ⟨v4,q2,d3,e3,r2⟩:=Pkr.shut (x:=(⟨m2,s0.2.words⟩:Pkr)) (l0:=2) (by decide) e0 n0 j2;obtain rfl:=sm a0;exact show Exists _ from ⟨_,(),rfl,⟨rfl,rfl,rfl,rfl,rfl,trivial⟩,_,((((hB.st i2).st m0).st w0).st g1).st q2,r2,p2⟩
 rintro w4 x4 ⟨y4,z4,rfl,i1,a5,hB,f0,u2⟩;replace hm:=BE hm;refine AX _ i1 ?_;refine Ah (Ae (Ar rfl (Au rfl (Au rfl (o_z (AE ?_))))));obtain rfl:=sm hm;obtain ⟨O',hS',hz,hl⟩:=hE.leave (λ q=>if q=2 then j0 else 0) rfl hB;exact U6 rfl (AF rfl) (AF rfl) ⟨O',hS',_,_,rfl,(Ob.leave f0 hz (hl 2 (by decide) (by decide)) hj0),(vErr (T8 0))⟩
noncomputable def Fc (c:PFd):Option U64 :=
  bnd (AcM (1:U64) c.width) λ a=>bnd (AcM (a - (1:U64)) c.bit) λ b=>some b
theorem Kl {w:World} {A:Nat->Prop} (hA:∀ k,A k->k < w.heap.size) {c:Value} {d:PFd} (g:Vb w A c d) {p:U64} (hm:Fc d=some p) :
    Fn prog 110 [c] w λ v w'=>Ext w w'/\Vb w' (upA A w w') v p:=by
 obtain ⟨O,hB,g0⟩:=enter hA;obtain ⟨l,rfl,rfl,r3,r4,r5,r6⟩:=id g;refine AH func110 rfl ntmps110 ?_;unfold Fc at hm;refine Ah (Ae (Fi 2 O rfl λ m h n j e=>?_));refine Au rfl (o_z (Ah ?_));refine DI (·=h) [(0,true),(1,true),(2,true),(3,true),(4,true),(5,true),(6,true),(7,true)] rfl rfl ?_;refine AU rfl rfl (DV (hc:=Blk.cell (i:=2) (e.1) rfl) rfl rfl ?_);obtain ⟨f,e0,hm⟩:=bs hm;refine Vj (a:=(1:U64)) (he:=e0) rfl rfl rfl rfl (Abw (a:=f) (b:=(1:U64)) rfl rfl rfl rfl (AU rfl rfl (DV (hc:=Blk.cell (i:=1) (e.1) rfl) rfl rfl ?_)));obtain ⟨o,f0,hm⟩:=bs hm;refine Vj (a:=(f - (1:U64))) (he:=f0) rfl rfl rfl rfl (Ek rfl rfl (h_z (AE ?_)));obtain rfl:=sm hm;replace hB:=hB.st j;exact U0 rfl (AF rfl) ⟨hB.ext,vU64⟩
noncomputable def Gt (a:PFd) (e:List U64):Option Int :=
  bnd (atI e a.word) λ b=>bnd (Fc a) λ c=>bnd (AcI (b &&& c) a.bit) λ d=>some d.toInt
theorem PC {w:World} {A:Nat->Prop} (hA:∀ k,A k->k < w.heap.size) {c:Value} {g:PFd} (j:Vb w A c g) {d:Value} {l:List U64} (m:Vb w A d l) {E:Int} (hm:Gt g l=some E) :
    Fn prog 109 [c,d] w λ v w'=>Ext w w'/\Vb w' (upA A w w') v E:=by
 obtain ⟨O,hB,v0⟩:=enter hA;obtain ⟨x,rfl,rfl,r4,r5,r6,r7⟩:=id j;obtain ⟨y,c9,rfl⟩:=m.form;refine AH func109 rfl ntmps109 ?_;unfold Gt at hm;refine Ah (Ae (Fi 2 O rfl λ z l0 e q f=>?_));refine Au rfl (o_z (Ah ?_));refine BT [] e ?_;refine AP (fuel:=5) [] (BL [0,1,2,3,4,5,8,9]) rfl (AS rfl rfl (AU rfl rfl (Bc (hc:=By f 0 rfl) rfl rfl ?_)));obtain ⟨n,n0,hm⟩:=bs hm;obtain ⟨r,p0⟩:=Dz n0;replace hB:=hB.st q;obtain ⟨z0,a1,q0,c0,d0,e0,f0,rfl⟩:=(m.zs hA hB).elem p0;refine Em (hA:=c0) (hj:=r) (hlt:=e0) rfl rfl rfl (Bc (hc:=LN d0 f0) rfl rfl (EM (hl:=rfl) (hb:=Gy f) rfl rfl (AU rfl rfl (Bc (hc:=By f 1 rfl) rfl rfl (AC (AJ (i:=6) rfl ?_))))));obtain ⟨o,r0,hm⟩:=bs hm;refine Bv (O:=e) (Kl (λ _ h=>h) (Vb.mono (F:=Fr 0 l0 e) (j.zs hA hB) Fr.lt) r0) rfl λ B C D p s=>?_;obtain rfl:=s.u64;have t:=lZ p;refine Be [] t ?_;refine AP (fuel:=0) [] (BL [7,10,11,12]) rfl (Abt (a:=n) (b:=o) rfl rfl rfl rfl ?_);obtain ⟨u,u0,hm⟩:=bs hm;refine Abx (a:=(n &&& o)) (he:=u0) rfl rfl rfl rfl (Abz (a:=u) rfl rfl rfl (Ek rfl rfl (AC (Bi (AE ?_)))));obtain rfl:=sm hm;replace hB:=hB.st p;exact U0 rfl (AF rfl) ⟨hB.ext,(vInt (Aea _))⟩
noncomputable def Dq (i:Pkr) (h:List Int):Option ((List U64)×Err) :=
  if (h.length:Int)≠(i.fields.length:Int) then (some (([]:List U64),(⟨2⟩:Err))) else (bnd (mkI 8 ((0:U64):U64) i.words) λ j=>bnd (rng (ρ:=(List U64)×Err) (λ (b:Nat) (a:PFd) (c:(List U64))=>bnd (bnd (h[b]?) λ k=>if k < 0 then (some true) else (bnd (h[b]?) λ l=>if a.size<=l then (some true) else (some false)):Option Bool) λ m=>if m=true then (some (.ret (([]:List U64),(⟨2⟩:Err)))) else (bnd (atI c a.word) λ e=>bnd (h[b]?) λ f=>bnd (AcM (BitVec.ofInt 64 f) a.bit) λ n135=>bnd (atI c a.word) λ n=>some (.next (c.set (a.word:Int).toNat (e ||| n135))))) i.fields 0 j) λ d=>fin d λ (g:(List U64))=>some (g,(⟨0⟩:Err)))
theorem NO {w:World} {O:Lab} {p0 i0:Nat} {x0:Pkr} (m0:Ob i0 w O (.pointer (some ⟨p0,0,none⟩)) x0) {vx1:Value} {x1:List Int} (n0:Vb w (Fr 0 w O) vx1 x1) {r:(List U64)×Err} (hm:Dq x0 x1=some r) :
    Fn prog 113 [(.pointer (some ⟨p0,0,none⟩)),vx1] w λ v w'=>∃ O',St (eT i0) w O w' O'/\∃ v0 v1:Value,Ob i0 w' O' (.pointer (some ⟨p0,0,none⟩)) x0/\v=.tuple #[v0,v1]/\Vb w' (Fr 0 w' O') v0 r.1/\Vb w' (Fr 0 w' O') v1 r.2:=by
 obtain ⟨O0,hE,x2,j3⟩:=X9 (w:=w) (O:=O) m0.2;have m0':=Ob.leave m0 x2 j3 (j:=2) (by decide);have hB:Bm w O0 w O0:=Bm.refl;replace n0:=n0.mono x2;obtain ⟨A3,c4,rfl⟩:=n0.form;refine AH func113 rfl ntmps113 ?_;unfold Dq at hm;refine Ah (Ae (Au rfl (Au rfl (o_z (Ah (Ah (Ae (Ar rfl (Kg rfl (o_z (Aj rfl (AK (Ah (Ah ?_))))))))))))));refine Ae (Ar rfl (AT rfl ?_));have l6:=BK n0.len;have r5:=rngNat l6;refine Ar rfl (Dr rfl ?_);obtain ⟨O7,a5,S8,k3,h9,j0,y2⟩:=Pkr.opn m0' 2 3 (by decide);obtain ⟨p1,q1,rfl⟩:=j0.form;refine AD rfl (AQ (hc:=Blk.cell (i:=0) (h9.1) rfl) rfl (AT rfl ?_));have l3:=BK j0.len;have b5:=rngNat l3;refine Kr rfl rfl (λ z1=>?_) λ z1=>?_
 ·replace hm:=ip hm z1;refine o_z (Am rfl (Ah (Ae (Ex rfl (Au rfl (Au rfl (o_z (AE ?_))))))));obtain ⟨c5,m3,n3,o3,p3⟩:=Pkr.shut (x:=x0) (l0:=2) (by decide) h9 j0 y2;obtain rfl:=sm hm;replace hB:=(hB.st S8).st m3;obtain ⟨O',hS',hz,hl⟩:=hE.leave (λ q=>if q=2 then i0 else 0) rfl hB;exact U6 rfl (AF rfl) (AF rfl) ⟨O',hS',_,_,(Ob.leave p3 hz (hl 2 (by decide) (by decide)) m0.2),rfl,(Vb.mono (Vb.nil _ _) hz),(vErr (by decide))⟩
 replace hm:=im hm z1;refine o_z (Aj rfl (AK (Ah (Ae (Ar rfl (Dr rfl (AD rfl (AQ (hc:=Blk.cell (i:=1) (h9.1) rfl) rfl ?_))))))));obtain ⟨r1,q3,hm⟩:=bs hm;obtain ⟨s1,r3,s3,t3,u3⟩:=MA q3;refine PY 4 O7 (z0:=((0:U64):U64)) rfl rfl rfl rfl rfl r3 vU64 s3 t3 rfl λ t1 d5 e5 a2 u1=>?_;rw [<- u3] at u1 ⊢;refine Au rfl (o_z (Ah (Ah (Ae (Ar rfl (Dr rfl (AD rfl ?_)))))));replace h9:=h9.st a2;refine AQ (hc:=Blk.cell (i:=0) (h9.1) rfl) rfl (AT rfl ?_);replace j0:=j0.st a2;have b2:=BK j0.len;have f5:=rngNat b2;refine Ar rfl (o_z ?_);obtain ⟨v3,c2,d2,e2,e0⟩:=Pkr.shut (x:=x0) (l0:=2) (by decide) h9 j0 y2;have c0:=(j0.lend [3] (by decide)).shutS c2 d2 e2 [2] (by decide);obtain ⟨z2,f2,hm⟩:=bs hm;replace hB:=((hB.st S8).st a2).st c2;replace u1:=u1.st c2;refine Dv (X:=Unit) (x0.fields.length) f2 rfl b2 (λ w1 a3=>[(1,(.slice A3 x1.length c4)),(6,(.slice (some ⟨t1,0,none⟩) r1.length s1)),(29,(.slice p1 x0.fields.length q1))]) (λ w1 a3 w'=>∃ O':Lab,Bm w O0 w' O'/\Rw 4 w' O' 200 (.slice (some ⟨t1,0,none⟩) r1.length s1) w1/\Vb w' (FrS [2] w' O') (.slice p1 x0.fields.length q1) x0.fields/\Ob 2 w' O' (.pointer (some ⟨p0,0,none⟩)) x0) () ⟨v3,hB,u1,c0,e0⟩ ⟨rfl,rfl,rfl,rfl,rfl,trivial⟩ (λ _ _=>rfl) ?_ ?_
 ·rintro b3 y1 w1 a3 g5 w3 t0 ⟨x3,hB,d0,c0,e0⟩ a0 o0 g2;have rk50:=V5 t0 b2;refine Ah (Ae (Ar rfl ?_));obtain ⟨h5,i5,y3,h2,i2,j2,rfl,j5,k5,l5,m5⟩:=c0.elem' t0;refine CN (hA:=h2) (hj:=rfl) (hlt:=i2) rfl rfl (BX (hl:=rfl) (hc:=j2) rfl ?_);refine Bw 5 x3 λ c3 n5 o5 f0 h0=>?_;replace c0:=c0.stS f0 id (λ _ _=>id);refine Au rfl (AR h0 rfl rfl rfl (AY) (allOne) λ z3 g0 h0=>?_);replace c0:=c0.stS g0 (by decide) (by decide);refine o_z (Ah (Ah ?_));obtain ⟨a4,b0,a0⟩:=bs a0;refine BF (λ l' w'=>∃ (b4:Unit) (O':Lab),T7 l' [(1,(.slice A3 x1.length c4)),(6,(.slice (some ⟨t1,0,none⟩) r1.length s1)),(7,(.int .i64 (b3:Int))),(8,(.pointer (some ⟨c3,0,none⟩))),(29,(.slice p1 x0.fields.length q1)),(30,(.int .i64 (x0.fields.length:Int))),(31,(.int .i64 (b3:Int))),(49,(.bool a4))]/\Bm w O0 w' O'/\Rw 4 w' O' 200 (.slice (some ⟨t1,0,none⟩) r1.length s1) w1/\Lc 5 w' O' c3 202 [(.int .i64 y1.word),(.int .i64 y1.bit),(.int .i64 y1.width),(.int .i64 y1.size)]/\Vb w' (FrS [2] w' O') (.slice p1 x0.fields.length q1) x0.fields/\Ob 2 w' O' (.pointer (some ⟨p0,0,none⟩)) x0) ?_ ?_
  ·refine DI (·=z3) [(0,true),(1,true),(2,true),(3,true),(4,true),(5,true),(6,true),(7,true),(8,true),(9,true),(10,true),(11,true),(12,true),(13,true)] rfl rfl ?_;refine AS rfl rfl (AS rfl rfl ?_);obtain ⟨p5,d4,b0⟩:=bs b0;replace hB:=(hB.st f0).st g0;obtain ⟨q5,s5,e4,k2,l2,m2,rfl,t5⟩:=(n0.z hB).elem' d4;refine Em (hA:=k2) (hj:=rfl) (hlt:=l2) rfl rfl rfl (DV (hc:=cat0 m2) rfl rfl (IH rfl rfl rfl (λ n2=>?_) λ n2=>?_))
   ·replace b0:=ip b0 n2;refine AS rfl rfl (Ce rfl rfl rfl (Ce rfl rfl rfl (Ce rfl rfl rfl (Ce rfl rfl rfl (Ce rfl rfl rfl (Ce rfl rfl rfl (Ce rfl rfl rfl (Ee rfl rfl rfl (h_z ?_)))))))));obtain rfl:=sm b0;exact ⟨(),_,⟨rfl,rfl,rfl,rfl,rfl,rfl,rfl,rfl,trivial⟩,hB,(d0.st f0).st g0,h0,c0,(e0.st f0).st g0⟩
   replace b0:=im b0 n2;refine AS rfl rfl (AB rfl (AA rfl rfl (CE rfl (AB rfl (AA rfl rfl (CE rfl (AB rfl (AA rfl rfl ?_))))))));obtain ⟨u5,f4,b0⟩:=bs b0;obtain ⟨g4,h4,d3,u0,w0,y0,rfl,i4⟩:=(n0.z hB).elem' f4;refine Abo (hA:=u0) (hj:=rfl) (hlt:=w0) rfl rfl rfl (AB rfl (AA rfl rfl (Ca (hc:=cat0 y0) rfl (AB rfl (AA rfl rfl (Dl rfl (AB rfl (AA rfl rfl (Ca (hc:=Blk.cell (i:=3) (h0.1) rfl) rfl (AB rfl (AA rfl rfl (BB (λ _ _=>BA rfl rfl) (λ q0=>?_) (λ q0=>?_)))))))))))))
   ·replace b0:=ip b0 q0;refine DW rfl rfl rfl (h_z ?_);obtain rfl:=sm b0;exact ⟨(),_,⟨rfl,rfl,rfl,rfl,rfl,rfl,rfl,rfl,trivial⟩,hB,(d0.st f0).st g0,h0,c0,(e0.st f0).st g0⟩
   replace b0:=im b0 q0;refine DW rfl rfl rfl (h_z ?_);obtain rfl:=sm b0;exact ⟨(),_,⟨rfl,rfl,rfl,rfl,rfl,rfl,rfl,rfl,trivial⟩,hB,(d0.st f0).st g0,h0,c0,(e0.st f0).st g0⟩
  replace hB:=(hB.st f0).st g0;replace e0:=(e0.st f0).st g0;replace d0:=(d0.st f0).st g0;rintro j4 k4 ⟨b4,o2,a1,hB,d0,h0,c0,e0⟩;refine AX _ a1 ?_;refine BH rfl (λ r0=>?_) (λ r0=>?_)
  ·replace a0:=ip a0 r0;refine Ah (Ae (Ex rfl (Au rfl (Au rfl (o_z (AE ?_))))));obtain rfl:=sm a0;obtain rfl:=o0 _ rfl;obtain rfl:=sm (CU hm);obtain ⟨O',hS',hz,hl⟩:=hE.leave (λ q=>if q=2 then i0 else 0) rfl hB;exact U6 rfl (AF rfl) (AF rfl) ⟨O',hS',_,_,(Ob.leave e0 hz (hl 2 (by decide) (by decide)) m0.2),rfl,(Vb.mono (Vb.nil _ _) hz),(vErr (by decide))⟩
  replace a0:=im' a0 r0;refine AK (BT [] o2 ?_);refine AP (fuel:=1) [] (BL (DX 0 15)) rfl (AS rfl rfl (AU rfl rfl (Bc (hc:=By h0 0 rfl) rfl rfl ?_)));obtain ⟨b1,p2,a0⟩:=bs a0;obtain ⟨q2,r2⟩:=Dz p2;obtain ⟨l4,m4,e3,c1,d1,e1,f1,rfl⟩:=d0.elemF r2;refine Em (hA:=c1) (hj:=q2) (hlt:=e1) rfl rfl rfl (Bc (hc:=LN d1 f1) rfl rfl (AS rfl rfl (AS rfl rfl ?_)));obtain ⟨s2,t2,a0⟩:=bs a0;obtain ⟨n4,o4,f3,g1,h1,i1,j1,rfl,p4⟩:=(n0.z hB).elem t2;refine Em (hA:=g1) (hj:=rfl) (hlt:=i1) rfl rfl rfl (Bc (hc:=LN h1 j1) rfl rfl (Aby rfl rfl rfl (AU rfl rfl (Bc (hc:=By h0 1 rfl) rfl rfl ?_))));obtain ⟨k1,u2,a0⟩:=bs a0;refine Vj (a:=(BitVec.ofInt 64 s2)) (he:=u2) rfl rfl rfl rfl (Abu (a:=b1) (b:=k1) rfl rfl rfl rfl ?_);obtain ⟨q4,v2,a0⟩:=bs a0;obtain ⟨w2,l1⟩:=Dz v2;obtain ⟨r4,s4,g3,k0,h3,m1,i3,rfl⟩:=d0.elemF l1;refine Em (hA:=k0) (hj:=w2) (hlt:=m1) rfl rfl rfl (AC (AJ (i:=15) rfl ?_));refine GG rfl d0 (a:=(b1 ||| k1)) vU64 k0 rfl rfl (AO l1) λ t4 s0 d0=>?_;replace c0:=c0.stS s0 (by decide) (by decide);refine BM (Bi ?_);obtain rfl:=sm a0;exact show Exists _ from ⟨_,(),rfl,⟨rfl,rfl,rfl,rfl,rfl,trivial⟩,_,hB.st s0,d0,c0,e0.st s0⟩
 rintro u4 v4 ⟨w4,x4,rfl,n1,y4,hB,d0,c0,e0⟩;replace hm:=BE hm;refine AX _ n1 ?_;refine Ah (Ae (Ar rfl (Au rfl (Au rfl (o_z (AE ?_))))));obtain ⟨z4,o1,d0⟩:=d0.freeze;obtain rfl:=sm hm;replace hB:=hB.st o1;obtain ⟨O',hS',hz,hl⟩:=hE.leave (λ q=>if q=2 then i0 else 0) rfl hB;replace e0:=e0.st o1;exact U6 rfl (AF rfl) (AF rfl) ⟨O',hS',_,_,(Ob.leave e0 hz (hl 2 (by decide) (by decide)) m0.2),rfl,(Vb.mono d0 hz),(vErr (T8 0))⟩
noncomputable def EY (n:Pkr) (o:List U64):Option ((List Int)×Err) :=
  if (o.length:Int)≠n.words then (some (([]:List Int),(⟨2⟩:Err))) else (bnd (mkI 8 (0:Int) (n.fields.length:Int)) λ p=>bnd (Fd o) λ g=>bnd (rng (ρ:=(List Int)×Err) (λ (c:Nat) (a:PFd) (b:(List Int)×(List U64))=>bnd (Gt a o) λ h=>bnd (b.1[c]?) λ q=>bnd ((b.1.set c h)[c]?) λ i=>if a.size<=i then (some (.ret (([]:List Int),(⟨2⟩:Err)))) else (bnd (atI b.2 a.word) λ j=>bnd (Fc a) λ k=>bnd (atI b.2 a.word) λ r=>some (.next ((b.1.set c h),(b.2.set (a.word:Int).toNat (j &&& ~~~k)))))) n.fields 0 (p,g)) λ f=>fin f λ (e:(List Int)×(List U64))=>bnd (rng (ρ:=(List Int)×Err) (λ (l:Nat) (s:U64) (t:Unit)=>bnd (e.2[l]?) λ m=>if (m.toNat:Int)≠((0:U64).toNat:Int) then (some (.ret (([]:List Int),(⟨2⟩:Err)))) else (some (.next ()))) g 0 ()) λ d=>fin d λ (u:Unit)=>some (e.1,(⟨0⟩:Err)))
theorem MJ {w:World} {O:Lab} {p0 i0:Nat} {x0:Pkr} (o0:Ob i0 w O (.pointer (some ⟨p0,0,none⟩)) x0) {vx1:Value} {x1:List U64} (c1:Vb w (Fr 0 w O) vx1 x1) {r:(List Int)×Err} (hm:EY x0 x1=some r) :
    Fn prog 76 [(.pointer (some ⟨p0,0,none⟩)),vx1] w λ v w'=>∃ O',St (eT i0) w O w' O'/\∃ v0 v1:Value,Ob i0 w' O' (.pointer (some ⟨p0,0,none⟩)) x0/\v=.tuple #[v0,v1]/\Vb w' (Fr 0 w' O') v0 r.1/\Vb w' (Fr 0 w' O') v1 r.2:=by
 obtain ⟨O0,hE,r3,m4⟩:=X9 (w:=w) (O:=O) o0.2;have o0':=Ob.leave o0 r3 m4 (j:=2) (by decide);have hB:Bm w O0 w O0:=Bm.refl;replace c1:=c1.mono r3;obtain ⟨A3,c4,rfl⟩:=c1.form;refine AH func76 rfl ntmps76 ?_;unfold EY at hm;refine Ah (Ae (Au rfl (Au rfl (o_z (Ah (Ah (Ae (Ar rfl (Kg rfl (o_z (Aj rfl (AK (Ah (Ah ?_))))))))))))));refine Ae (Ar rfl (AT rfl ?_));have l6:=BK c1.len;have r5:=rngNat l6;refine Ar rfl (Dr rfl ?_);obtain ⟨O7,r6,S8,n4,h9,q0,s3⟩:=Pkr.opn o0' 2 3 (by decide);obtain ⟨t3,u3,rfl⟩:=q0.form;refine AD rfl (AQ (hc:=Blk.cell (i:=1) (h9.1) rfl) rfl (Kr rfl rfl (λ s2=>?_) λ s2=>?_))
 ·replace hm:=ip hm s2;refine o_z (Am rfl (Ah (Ae (Ex rfl (Au rfl (Au rfl (o_z (AE ?_))))))));obtain ⟨s6,o4,p4,q4,r4⟩:=Pkr.shut (x:=x0) (l0:=2) (by decide) h9 q0 s3;obtain rfl:=sm hm;replace hB:=(hB.st S8).st o4;obtain ⟨O',hS',hz,hl⟩:=hE.leave (λ q=>if q=2 then i0 else 0) rfl hB;exact U6 rfl (AF rfl) (AF rfl) ⟨O',hS',_,_,(Ob.leave r4 hz (hl 2 (by decide) (by decide)) o0.2),rfl,(Vb.mono (Vb.nil _ _) hz),(vErr (by decide))⟩
 replace hm:=im hm s2;refine o_z (Aj rfl (AK (Ah (Ae (Ar rfl (Dr rfl (AD rfl (AQ (hc:=Blk.cell (i:=0) (h9.1) rfl) rfl (AT rfl ?_)))))))));have s4:=BK q0.len;have t6:=rngNat s4;obtain ⟨i2,t4,hm⟩:=bs hm;obtain ⟨j2,u4,v4,w4,x4⟩:=MA t4;refine PY 4 O7 (z0:=(0:Int)) rfl rfl rfl rfl rfl u4 (vInt (T8 0)) v4 w4 rfl λ k2 u6 y4 t2 l2=>?_;rw [<- x4] at l2 ⊢;refine Au rfl (o_z (Ah (Ae (Ar rfl ?_))));obtain ⟨f1,z4,hm⟩:=bs hm;replace hB:=(hB.st S8).st t2;refine GH 5 (O:=y4) (Jw Fr.lt (c1.z hB) z4) rfl rfl λ m2 n2 v6 w6 o2 u2=>?_;refine Au rfl (o_z (Ah (Ah (Ae (Ar rfl (Dr rfl (AD rfl ?_)))))));replace h9:=(h9.st t2).st o2;refine AQ (hc:=Blk.cell (i:=0) (h9.1) rfl) rfl (AT rfl ?_);replace q0:=(q0.st t2).st o2;have v2:=BK q0.len;have x6:=rngNat v2;refine Ar rfl (o_z ?_);obtain ⟨a5,p2,w2,x2,f0⟩:=Pkr.shut (x:=x0) (l0:=2) (by decide) h9 q0 s3;have c0:=(q0.lend [3] (by decide)).shutS p2 w2 x2 [2] (by decide);obtain ⟨v3,y2,hm⟩:=bs hm;replace hB:=(hB.st o2).st p2;replace l2:=(l2.st o2).st p2;replace u2:=u2.st p2;refine Dv (X:=Unit) (x0.fields.length) y2 rfl v2 (λ q2 w3=>[(1,(.slice A3 x1.length c4)),(6,(.slice (some ⟨k2,0,none⟩) i2.length j2)),(7,(.slice m2 f1.length n2)),(34,(.slice t3 x0.fields.length u3))]) (λ q2 w3 w'=>∃ O':Lab,Bm w O0 w' O'/\Rw 4 w' O' 3 (.slice (some ⟨k2,0,none⟩) i2.length j2) q2.1/\Rw 5 w' O' 200 (.slice m2 f1.length n2) q2.2/\Vb w' (FrS [2] w' O') (.slice t3 x0.fields.length u3) x0.fields/\Ob 2 w' O' (.pointer (some ⟨p0,0,none⟩)) x0) () ⟨a5,hB,l2,u2,c0,f0⟩ ⟨rfl,rfl,rfl,rfl,rfl,rfl,trivial⟩ (λ _ _=>rfl) ?_ ?_
 ·rintro y6 k0 q2 w3 z6 b5 g1 ⟨c5,hB,g0,e0,c0,f0⟩ a0 u0 z2;have rk60:=V5 g1 v2;refine Ah (Ae (Ar rfl ?_));obtain ⟨a7,b7,d5,a3,b3,c3,rfl,x3,y3,z3,a4⟩:=c0.elem' g1;refine CN (hA:=a3) (hj:=rfl) (hlt:=b3) rfl rfl (BX (hl:=rfl) (hc:=c3) rfl ?_);refine Bw 6 c5 λ c7 d7 d3 d1 r0=>?_;replace c0:=c0.stS d1 id (λ _ _=>id);refine Au rfl (AR r0 rfl rfl rfl (AY) (allOne) λ b4 e1 r0=>?_);replace c0:=c0.stS e1 (by decide) (by decide);refine o_z (Ah (Ae (Ar rfl (Ar rfl (BX (hl:=rfl) (hc:=(r0.1).cellsAt) rfl (Ar rfl ?_))))));obtain ⟨e5,f5,a0⟩:=bs a0;replace hB:=(hB.st d1).st e1;refine Bv (O:=d3) (PC (λ _ h=>h) (Vb.mono (F:=Fr 0 b4 d3) (Vb.ofAgg (cs:=[(.int .i64 k0.word),(.int .i64 k0.bit),(.int .i64 k0.width),(.int .i64 k0.size)]) (x:=k0) rfl ⟨rfl,x3,y3,z3,a4⟩) Fr.lt) (Vb.mono (F:=Fr 0 b4 d3) (c1.z hB) Fr.lt) f5) rfl λ g5 e7 w0 d0 e3=>?_;obtain ⟨rfl,f3⟩:=e3.int;replace c0:=c0.stS d0 id (λ _ _=>id);obtain ⟨h5,h1,a0⟩:=bs a0;replace g0:=((g0.st d1).st e1).st d0;obtain ⟨i5,j5,d4,s0,i1,e4,rfl,k5⟩:=g0.elem h1;refine CN (hA:=s0) (hj:=rfl) (hlt:=i1) rfl rfl ?_;refine GG rfl g0 (a:=e5) (vInt f3) s0 rfl rfl (AO h1) λ j1 h0 g0=>?_;replace c0:=c0.stS h0 (by decide) (by decide);refine o_z (Ah (Ah ?_));refine DI (·=j1) [(0,true),(1,true),(2,true),(3,true),(4,true),(5,true),(6,true)] rfl rfl ?_;refine AS rfl rfl (AS rfl rfl ?_);obtain ⟨l5,g3,a0⟩:=bs a0;obtain ⟨m5,n5,f4,k1,l1,m1,rfl,o5⟩:=g0.elem g3;refine Em (hA:=k1) (hj:=rfl) (hlt:=l1) rfl rfl rfl (DV (hc:=cat0 m1) rfl rfl (AU rfl rfl ?_));replace r0:=(r0.st d0).st h0;refine DV (hc:=Blk.cell (i:=3) (r0.1) rfl) rfl rfl (Abg rfl rfl rfl rfl (λ y0=>?_) λ y0=>?_)
  ·replace a0:=ip a0 y0;refine h_z (Am rfl (Ah (Ae (Ex rfl (Au rfl (Au rfl (o_z (AE ?_))))))));obtain rfl:=sm a0;obtain rfl:=u0 _ rfl;obtain rfl:=sm (CU hm);replace hB:=(hB.st d0).st h0;obtain ⟨O',hS',hz,hl⟩:=hE.leave (λ q=>if q=2 then i0 else 0) rfl hB;replace f0:=(((f0.st d1).st e1).st d0).st h0;exact U6 rfl (AF rfl) (AF rfl) ⟨O',hS',_,_,(Ob.leave f0 hz (hl 2 (by decide) (by decide)) o0.2),rfl,(Vb.mono (Vb.nil _ _) hz),(vErr (by decide))⟩
  replace a0:=im a0 y0;refine h_z (Aj rfl (AK ?_));refine BT [] w0 ?_;refine AP (fuel:=4) [] (BL (DX 0 6)) rfl (AS rfl rfl (AU rfl rfl (Bc (hc:=By r0 0 rfl) rfl rfl ?_)));obtain ⟨n1,h3,a0⟩:=bs a0;obtain ⟨i3,j3⟩:=Dz h3;replace e0:=(((e0.st d1).st e1).st d0).st h0;obtain ⟨p5,q5,g4,o1,p1,q1,r1,rfl⟩:=e0.elemF j3;refine Em (hA:=o1) (hj:=i3) (hlt:=q1) rfl rfl rfl (Bc (hc:=LN p1 r1) rfl rfl (EM (hl:=rfl) (hb:=Gy r0) rfl rfl (AC (AJ (i:=6) rfl ?_))));obtain ⟨s1,k3,a0⟩:=bs a0;refine Bv (O:=w0) (Kl (λ _ h=>h) (Vb.mono (F:=Fr 0 j1 w0) (Vb.ofAgg (cs:=[(.int .i64 k0.word),(.int .i64 k0.bit),(.int .i64 k0.width),(.int .i64 k0.size)]) (x:=k0) rfl ⟨rfl,x3,y3,z3,a4⟩) Fr.lt) k3) rfl λ s5 t5 u5 j0 l3=>?_;obtain rfl:=l3.u64;have hZ:=lZ j0;replace c0:=c0.stS j0 id (λ _ _=>id);refine Be [] hZ ?_;refine AP (fuel:=1) [] (BL [7,8]) rfl (Abv (a:=n1) (b:=s1) rfl rfl rfl rfl ?_);obtain ⟨v5,m3,a0⟩:=bs a0;obtain ⟨n3,t1⟩:=Dz m3;replace e0:=e0.st j0;obtain ⟨w5,x5,h4,t0,i4,u1,j4,rfl⟩:=e0.elemF t1;refine Em (hA:=t0) (hj:=n3) (hlt:=u1) rfl rfl rfl (AC (AJ (i:=9) rfl ?_));refine GG rfl e0 (a:=(n1 &&& ~~~s1)) vU64 t0 rfl rfl (AO t1) λ y5 m0 e0=>?_;replace c0:=c0.stS m0 (by decide) (by decide);refine BM (Bi ?_);obtain rfl:=sm a0;exact show Exists _ from ⟨_,(),rfl,⟨rfl,rfl,rfl,rfl,rfl,rfl,trivial⟩,_,(((hB.st d0).st h0).st j0).st m0,(g0.st j0).st m0,e0,c0,(((((f0.st d1).st e1).st d0).st h0).st j0).st m0⟩
 rintro z5 a6 ⟨w1,b6,rfl,y1,o3,hB,g0,e0,c0,f0⟩;replace hm:=BE hm;refine AX _ y1 ?_;refine Ah (Ah (Ae (Ar rfl (AT rfl ?_))));have a1:=BK e0.len;have c6:=rngNat a1;refine Ar rfl (o_z ?_);obtain ⟨p3,z1,hm⟩:=bs hm;refine Dv (X:=Unit) (f1.length) z1 rfl a1 (λ a2 b2=>[(6,(.slice (some ⟨k2,0,none⟩) i2.length j2)),(65,(.slice m2 f1.length n2))]) (λ a2 b2 w'=>∃ O':Lab,Bm w O0 w' O'/\Rw 4 w' O' 3 (.slice (some ⟨k2,0,none⟩) i2.length j2) w1.1/\Rw 5 w' O' 200 (.slice m2 f1.length n2) w1.2/\Ob 2 w' O' (.pointer (some ⟨p0,0,none⟩)) x0) () ⟨o3,hB,g0,e0,f0⟩ ⟨rfl,rfl,rfl,rfl,trivial⟩ (λ _ _=>rfl) ?_ ?_
 ·rintro d6 e6 a2 b2 f6 k4 c2 ⟨g6,hB,g0,e0,f0⟩ b0 n0 r2;have rk171:=V5 c2 a1;refine Ah (Ae ?_);obtain ⟨h6,q3,b0⟩:=bs b0;obtain ⟨i6,j6,l4,d2,e2,f2,rfl⟩:=e0.elem q3;refine CN (hA:=d2) (hj:=rfl) (hlt:=e2) rfl rfl (AQ (hc:=cat0 f2) rfl (Au rfl (o_z (Ah (Ae (Ar rfl (Kr rfl rfl (λ b1=>?_) λ b1=>?_)))))))
  ·replace b0:=ip b0 b1;refine o_z (Am rfl (Ah (Ae (Ex rfl (Au rfl (Au rfl (o_z (AE ?_))))))));obtain rfl:=sm b0;obtain rfl:=n0 _ rfl;obtain rfl:=sm (CU hm);obtain ⟨O',hS',hz,hl⟩:=hE.leave (λ q=>if q=2 then i0 else 0) rfl hB;exact U6 rfl (AF rfl) (AF rfl) ⟨O',hS',_,_,(Ob.leave f0 hz (hl 2 (by decide) (by decide)) o0.2),rfl,(Vb.mono (Vb.nil _ _) hz),(vErr (by decide))⟩
  replace b0:=im b0 b1;refine o_z (Aj rfl (AK ?_));obtain rfl:=sm b0;exact show Exists _ from ⟨_,(),rfl,⟨rfl,rfl,rfl,rfl,trivial⟩,_,hB,g0,e0,f0⟩
 rintro k6 m6 ⟨n6,o6,rfl,g2,p6,hB,g0,e0,f0⟩;replace hm:=BE hm;refine AX _ g2 ?_;refine Ah (Ae (Ar rfl (Au rfl (Au rfl (o_z (AE ?_))))));obtain ⟨q6,h2,g0⟩:=g0.freeze;obtain rfl:=sm hm;replace hB:=hB.st h2;obtain ⟨O',hS',hz,hl⟩:=hE.leave (λ q=>if q=2 then i0 else 0) rfl hB;replace f0:=f0.st h2;exact U6 rfl (AF rfl) (AF rfl) ⟨O',hS',_,_,(Ob.leave f0 hz (hl 2 (by decide) (by decide)) o0.2),rfl,(Vb.mono g0 hz),(vErr (T8 0))⟩
noncomputable def DG (i:Pkr) (g:List U64):Option Int :=
  bnd (rng (ρ:=Int) (λ (h:Nat) (a:U64) (b:U64)=>bnd (AcI ((b ^^^ a) * (13787848793156543929:U64)) 29) λ d=>some (.next (((b ^^^ a) * (13787848793156543929:U64)) ^^^ d))) g 0 ((BitVec.ofInt 64 (g.length:Int)) + (11400714819323198485:U64))) λ c=>fin c λ (e:U64)=>bnd (AcI e 2) λ f=>some f.toInt
theorem NP {w:World} {O:Lab} {k l:Nat} {m:Pkr} (p:Ob l w O (.pointer (some ⟨k,0,none⟩)) m) {h:Value} {i:List U64} (f:Vb w (Fr 0 w O) h i) {L:Int} (hm:DG m i=some L) :
    Fn prog 114 [(.pointer (some ⟨k,0,none⟩)),h] w λ v w'=>∃ d,St (eT l) w O w' d/\Ob l w' d (.pointer (some ⟨k,0,none⟩)) m/\Vb w' (Fr 0 w' d) v L:=by
 obtain ⟨n,hE,o0,r0⟩:=X9 (w:=w) (O:=O) p.2;have c:=Ob.leave p o0 r0 (j:=2) (by decide);have g:Bm w n w n:=Bm.refl;replace f:=f.mono o0;obtain ⟨x,c4,rfl⟩:=f.form;refine AH func114 rfl ntmps114 ?_;unfold DG at hm;refine Ah (Ae (Au rfl (o_z (Ah (Ah (Ae (Ar rfl (Kg rfl (o_z (Aj rfl (AK (Ah (Ae (Ar rfl ?_))))))))))))));refine AT rfl ?_;have y:=BK f.len;have B:=rngNat y;refine Abr rfl rfl (Abp (a:=(BitVec.ofInt 64 (i.length:Int))) (b:=(11400714819323198485:U64)) rfl rfl rfl (Au rfl (o_z (Ah (Ah (Ae (Ar rfl (AT rfl ?_))))))));have r:=BK f.len;have C:=rngNat r;refine Ar rfl (o_z ?_);obtain ⟨D,g0,hm⟩:=bs hm;refine Dv (X:=Unit) (i.length) g0 rfl r (λ e s=>[(5,(.int .u64 e.toNat)),(14,(.slice x i.length c4))]) (λ e s w'=>∃ d:Lab,Bm w n w' d/\Ob 2 w' d (.pointer (some ⟨k,0,none⟩)) m) () ⟨n,g,c⟩ ⟨rfl,rfl,rfl,rfl,trivial⟩ (λ _ _=>rfl) ?_ ?_
 ·rintro E o e s F G t ⟨H,g,c⟩ c0 h0 j0;have u:=V5 t r;refine Ah (Ae ?_);obtain ⟨I,f1,u0,k0,l0,m0,rfl⟩:=(f.z g).elem' t;refine CN (hA:=k0) (hj:=rfl) (hlt:=l0) rfl rfl (AQ (hc:=cat0 m0) rfl (Au rfl (o_z (Ah (Ae (Ar rfl (Ar rfl (Yz (a:=e) (b:=o) rfl rfl rfl (Au rfl (o_z (Ah (Ae (Ar rfl (Abq (a:=(e ^^^ o)) (b:=(13787848793156543929:U64)) rfl rfl rfl ?_))))))))))))));refine Au rfl (o_z (Ae (Ar rfl (Ar rfl ?_))));obtain ⟨v0,w0,c0⟩:=bs c0;refine YA (a:=((e ^^^ o) * (13787848793156543929:U64))) (he:=w0) rfl rfl rfl (Yz (a:=((e ^^^ o) * (13787848793156543929:U64))) (b:=v0) rfl rfl rfl (Au rfl (o_z ?_)));obtain rfl:=sm c0;exact show Exists _ from ⟨_,(),rfl,⟨rfl,rfl,rfl,rfl,trivial⟩,_,g,c⟩
 rintro J K ⟨A,i1,rfl,n0,j1,g,c⟩;replace hm:=BE hm;refine AX _ n0 ?_;refine Ah (Ae (Ar rfl ?_));obtain ⟨z0,a1,hm⟩:=bs hm;refine YA (a:=A) (he:=a1) rfl rfl rfl (Abs (a:=z0) rfl rfl (Au rfl (o_z (AE ?_))));obtain rfl:=sm hm;obtain ⟨d,hS',hz,hl⟩:=hE.leave (λ q=>if q=2 then l else 0) rfl g;exact U0 rfl (AF rfl) ⟨d,hS',(Ob.leave c hz (hl 2 (by decide) (by decide)) p.2),(vInt (Aea _))⟩
noncomputable def Dy (e:List U64) (f:List U64):Option Bool :=
  if (e.length:Int)≠(f.length:Int) then (some false) else (bnd (rng (ρ:=Bool) (λ (b:Nat) (c:U64) (g:Unit)=>bnd (f[b]?) λ d=>if (c.toNat:Int)≠(d.toNat:Int) then (some (.ret false)) else (some (.next ()))) e 0 ()) λ a=>fin a λ (h:Unit)=>some true)
theorem Jy {w:World} {A:Nat->Prop} (hA:∀ k,A k->k < w.heap.size) {a:Value} {c:List U64} (d:Vb w A a c) {b:Value} {e:List U64} (f:Vb w A b e) {K:Bool} (hm:Dy c e=some K) :
    Fn prog 115 [a,b] w λ v w'=>Ext w w'/\Vb w' (upA A w w') v K:=by
 obtain ⟨O,hB,b1⟩:=enter hA;obtain ⟨o,c4,rfl⟩:=d.form;obtain ⟨p,c6,rfl⟩:=f.form;refine AH func115 rfl ntmps115 ?_;unfold Dy at hm;refine Ah (Ae (Au rfl (o_z (Ah (Ah (Ae (Ar rfl (AT rfl ?_))))))));have q:=BK d.len;have t:=rngNat q;refine Ar rfl (AT rfl ?_);have r:=BK f.len;have u:=rngNat r;refine Kr rfl rfl (λ g=>?_) λ g=>?_
 ·replace hm:=ip hm g;refine o_z (Am rfl (Ah (Ae (Au rfl (o_z (AE ?_))))));obtain rfl:=sm hm;exact U0 rfl (AF rfl) ⟨hB.ext,vBool⟩
 replace hm:=im hm g;refine o_z (Aj rfl (AK (Ah (Ah (Ae (Ar rfl (AT rfl ?_)))))));have h:=BK d.len;have x:=rngNat h;refine Ar rfl (o_z ?_);obtain ⟨y,h0,hm⟩:=bs hm;refine Dv (X:=Unit) (c.length) h0 rfl h (λ j l=>[(0,(.slice o c.length c4)),(1,(.slice p e.length c6))]) (λ j l w'=>∃ s:Lab,Bs w A w' s) () ⟨O,hB⟩ ⟨rfl,rfl,rfl,rfl,trivial⟩ (λ _ _=>rfl) ?_ ?_
 ·rintro z B j l v0 C m ⟨D,hB⟩ a0 b0 i0;have n:=V5 m h;refine Ah (Ae (Ar rfl (Au rfl (o_z (Ah ?_)))));refine DI (·=v0) [(0,true),(1,true),(2,true),(3,true),(4,true),(5,true),(6,true),(7,true),(8,true)] rfl rfl ?_;refine AS rfl rfl (AS rfl rfl ?_);obtain ⟨E,h1,y0,j0,k0,l0,rfl⟩:=(d.zs hA hB).elem' m;refine Em (hA:=j0) (hj:=rfl) (hlt:=k0) rfl rfl rfl (DV (hc:=cat0 l0) rfl rfl (AS rfl rfl (AS rfl rfl ?_)));obtain ⟨F,z0,a0⟩:=bs a0;obtain ⟨G,k1,a1,m0,n0,o0,rfl⟩:=(f.zs hA hB).elem' z0;refine Em (hA:=m0) (hj:=rfl) (hlt:=n0) rfl rfl rfl (DV (hc:=cat0 o0) rfl rfl (Vg rfl rfl rfl rfl (λ i=>?_) λ i=>?_))
  ·replace a0:=ip a0 i;refine h_z (Am rfl (Ah (Ae (Au rfl (o_z (AE ?_))))));obtain rfl:=sm a0;obtain rfl:=b0 _ rfl;obtain rfl:=sm (CU hm);exact U0 rfl (AF rfl) ⟨hB.ext,vBool⟩
  replace a0:=im a0 i;refine h_z (Aj rfl (AK ?_));obtain rfl:=sm a0;exact show Exists _ from ⟨_,(),rfl,⟨rfl,rfl,rfl,rfl,trivial⟩,_,hB⟩
 rintro H I ⟨J,o1,rfl,q0,p1,hB⟩;replace hm:=BE hm;refine AX _ q0 ?_;refine Ah (Ae (Au rfl (o_z (AE ?_))));obtain rfl:=sm hm;exact U0 rfl (AF rfl) ⟨hB.ext,vBool⟩
end
section
open Go Go.RowKit
attribute [local irreducible] ewp owp hwp hwq hws Ev Evg Fn T9 V1 U8 U4
attribute [local irreducible] hwx V7
structure RLk where
  parent:Int
  op:Int
  cost:Int
structure REn where
  words:List U64
  link:RLk
instance:Rp REn where
  isAgg:=true
  size:=4
  R w F cs x:=∃ v0,cs=[v0,.int .i64 x.link.parent,.int .i64 x.link.op,.int .i64 x.link.cost]/\Vb w F v0 x.words/\T3 x.link.parent/\T3 x.link.op/\T3 x.link.cost
  len:=by rintro w F cs x ⟨v0,rfl,h0,h1,h2,h3⟩;rfl
  one:=by rintro w F cs x ⟨v0,rfl,h0,h1,h2,h3⟩ u hu;simp at hu;rcases hu with rfl|rfl|rfl|rfl<;>first|rfl|exact Vb.one rfl (by assumption)
  agree:=by rintro w w' F cs x ⟨v0,rfl,h0,h1,h2,h3⟩ ha;exact ⟨v0,rfl,h0.agree ha,h1,h2,h3⟩
  mono:=by rintro w F G cs x ⟨v0,rfl,h0,h1,h2,h3⟩ ha;exact ⟨v0,rfl,h0.mono ha,h1,h2,h3⟩
structure Reg where
  packer:Pkr
  entries:List REn
  table:MapR 3 Int Int
instance:Ow Reg where
  R w F f v x:=∃ (g:Nat) (L:Lab) (a b c:Value),v=.pointer (some ⟨g,0,none⟩)/\Blk w g 150 [a,b,c]/\f g/\L g=0/\Ow.R w F (λ k=>f k/\L k=1) a x.packer/\RwM w F (λ k=>f k/\L k=2) 156 b x.entries/\Ow.R w F (λ k=>f k/\L k=3) c x.table
  agree:=by rintro w w' F f v x ⟨g,L,a,b,c,rfl,hb,hM,hL,h0,h1,h2⟩ a1 a2;exact ⟨g,L,a,b,c,rfl,hb.keep (a2 g hM),hM,hL,Ow.agree h0 a1 λ k hk=>a2 k hk.1,h1.agree a1 λ k hk=>a2 k hk.1,Ow.agree h2 a1 λ k hk=>a2 k hk.1⟩
  mono:=by rintro w F f d e v x ⟨g,L,a,b,c,rfl,hb,hM,hL,h0,h1,h2⟩ a1 a2 a3;exact ⟨g,L,a,b,c,rfl,hb,a2 g hM,hL,Ow.mono h0 a1 (λ k hk=>⟨a2 k hk.1,hk.2⟩) λ k hf hm=>a3 k hf hm.1,h1.mono a1 (λ k hk=>⟨a2 k hk.1,hk.2⟩) λ k hf hm=>a3 k hf hm.1,Ow.mono h2 a1 (λ k hk=>⟨a2 k hk.1,hk.2⟩) λ k hf hm=>a3 k hf hm.1⟩
instance:OwP Reg:=⟨by rintro w F a v x ⟨g,L,c0,c1,c2,rfl,_⟩;exact ⟨g,rfl⟩⟩
theorem Reg.opn {i:Nat} {w:World} {O:Lab} {p:Nat} {x:Reg} (h:Ob i w O (.pointer (some ⟨p,0,none⟩)) x) (l0 c d e:Nat) (hl:l0≠0/\c≠0/\d≠0/\e≠0):∃ (a:Lab) (f l m:Value),St (eT i) w O w a/\(∀ k,Fr i w O k->∃ q,q∈[l0,c,d,e]/\Fr q w a k)/\Lc l0 w a p 150 [f,l,m]/\Ob c w a f x.packer/\Rw d w a 156 l x.entries/\Ob e w a m x.table:=by
  obtain ⟨⟨g,L,f,l,m,b,hb,hM,hL,h0,h1,h2⟩,hi⟩:=h;obtain rfl:p=g:=(by injection b with b;injection b with b;injection b);exact ⟨part O i L [l0,c,d,e],f,l,m,Md hi,KU (by simp),⟨hb,(FK (j:=0) rfl p ⟨hM,hL⟩).2⟩,⟨Ow.mono h0 (DS hi) (FK (j:=1) rfl) (W6 hl.2.1),hl.2.1⟩,h1.rw (DS hi) (FK (j:=2) rfl) hl.2.2.1,⟨Ow.mono h2 (DS hi) (FK (j:=3) rfl) (W6 hl.2.2.2),hl.2.2.2⟩⟩
theorem Reg.shut {w:World} {O:Lab} {p:Nat} {x:Reg} {l0 c d f:Nat} {j l n:Value} (hd:¬ 0∈[l0,c,d,f]/\[l0,c,d,f].idxOf l0=0/\[l0,c,d,f].idxOf c=1/\[l0,c,d,f].idxOf d=2/\[l0,c,d,f].idxOf f=3) (hb:Lc l0 w O p 150 [j,l,n]) (r:Ob c w O j x.packer) (s:Rw d w O 156 l x.entries) (t:Ob f w O n x.table):∃ h,St (·∈[l0,c,d,f]) w O w h/\(∀ k,Fr 0 w O k->Fr 0 w h k)/\(∀ q,q∈[l0,c,d,f]->∀ k,Fr q w O k->Fr l0 w h k)/\Ob l0 w h (.pointer (some ⟨p,0,none⟩)) x:=by
  have g:l0≠0:=λ e=>hd.1 (by simp [e]);have o:=ES (i:=l0) hd.2.1 (by simp) p ⟨hb.1.lt,hb.2⟩;exact ⟨Z3 O l0 [l0,c,d,f],KV,CI hd.1,JT,⟨p,λ k=>[l0,c,d,f].idxOf (O k),j,l,n,rfl,hb.1,o.1,o.2,Ow.mono r.1 (CI hd.1) (ES hd.2.2.1 (by simp)) (λ k a b=>W6 g k a b.1),s.m (CI hd.1) (ES hd.2.2.2.1 (by simp)) (λ k a b=>W6 g k a b.1),Ow.mono t.1 (CI hd.1) (ES hd.2.2.2.2 (by simp)) (λ k a b=>W6 g k a b.1)⟩,g⟩
noncomputable def GX (c:List Int):Option ((Option Reg)×Err) :=
  bnd (Jn c) λ a=>if a.2.n≠0 then (some (none,(⟨a.2.n⟩:Err))) else (bnd a.1 λ b=>some ((some (⟨b,([]:List REn),(⟨[]⟩:MapR 3 Int Int)⟩:Reg)),(⟨0⟩:Err)))
theorem QU {w:World} {O:Lab} {c:Value} {k:List Int} (d:Vb w (Fr 0 w O) c k) (e:Nat) (f:e≠0) {L:(Option Reg)×Err} (hm:GX k=some L) :
    Fn prog 73 [c] w λ v w'=>∃ a,St nT w O w' a/\∃ v0 l:Value,v=.tuple #[v0,l]/\Obo e w' a v0 L.1/\Vb w' (Fr 0 w' a) l L.2:=by
 obtain ⟨g,hE,g0⟩:=AdZ (w:=w) (O:=O);have b:Bm w g w g:=Bm.refl;replace d:=d.mono g0;obtain ⟨B,c3,rfl⟩:=d.form;refine AH func73 rfl ntmps73 ?_;unfold GX at hm;refine Ah (Ae (Au rfl (Au rfl (o_z (Ah (Ae (Ar rfl ?_)))))));obtain ⟨C,e5,hm⟩:=bs hm;refine Dm (O:=g) (Vy (d.z b) 2 (by decide) e5) rfl λ D E o m p=>?_;obtain ⟨z0,a1,rfl,a0,h0⟩:=p;obtain ⟨rfl,i0⟩:=h0.err;refine Ar rfl (BW rfl rfl (BW rfl rfl (Au rfl (Au rfl (o_z (Ah (Ah (Ae (Ar rfl (FA rfl (λ h=>?_) λ h=>?_))))))))))
 ·replace hm:=ip hm h;refine o_z (Am rfl (Ah (Ae (Ar rfl (Au rfl (Au rfl (o_z (AE ?_))))))));obtain rfl:=sm hm;replace b:=b.st m;obtain ⟨a,hS',hz,hl⟩:=hE.leave (λ _=>0) rfl b;exact U6 rfl (AF rfl) (AF rfl) ⟨a,hS',_,_,rfl,rfl,(vErr i0)⟩
 replace hm:=im hm h;refine o_z (Aj rfl (AK (Ah (Ae (Ar rfl ?_)))));refine SE (K:=Int) (V:=Int) 3 3 o rfl λ F G r n i=>?_;obtain ⟨s,n0,hm⟩:=bs hm;replace a0:=a0.st n;rw [n0] at a0;obtain ⟨H,rfl⟩:=Ob.ptr a0;refine ai ?_;refine Fi 4 r rfl λ I t u j y=>?_;refine Au rfl (Au rfl (o_z (AE ?_)));have A:Rw 5 t u 156 (.slice none 0 0) ([]:List REn):=Rw.nil 5 (by decide);replace a0:=a0.st j;replace i:=i.st j;obtain ⟨J,s0,t0,u0,w0⟩:=Reg.shut (x:=(⟨s,([]:List REn),(⟨[]⟩:MapR 3 Int Int)⟩:Reg)) (l0:=4) (by decide) y a0 A i;obtain rfl:=sm hm;replace b:=(((b.st m).st n).st j).st s0;obtain ⟨a,hS',hz,hl⟩:=hE.leave (λ q=>if q=4 then e else 0) rfl b;exact U6 rfl (AF rfl) (AF rfl) ⟨a,hS',_,_,rfl,(Ob.leave w0 hz (hl 4 (by decide) (by decide)) f),(vErr (T8 0))⟩
noncomputable def De (g:Reg) (i:List Int):Option ((List U64)×Int×Int×Err) :=
  bnd (Dq g.packer i) λ a=>if a.2.n≠0 then (some (([]:List U64),0,(-1),(⟨2⟩:Err))) else (bnd (DG g.packer a.1) λ b=>bnd (rng (ρ:=(List U64)×Int×Int×Err) (λ (j:Nat) (d:Int) (k:Unit)=>bnd (atI g.entries d) λ e=>bnd (Dy e.words a.1) λ f=>if f=true then some (.ret (a.1,b,d,(⟨0⟩:Err))) else some (.next ())) (V0 ([]:List Int) g.table.l b) 0 ()) λ c=>fin c λ (h:Unit)=>some (a.1,b,(-1),(⟨0⟩:Err)))
theorem Lg {w:World} {O:Lab} {p0 i0:Nat} {x0:Reg} (h0:Ob i0 w O (.pointer (some ⟨p0,0,none⟩)) x0) {vx1:Value} {x1:List Int} (f1:Vb w (Fr 0 w O) vx1 x1) {r:(List U64)×Int×Int×Err} (hm:De x0 x1=some r) :
    Fn prog 79 [(.pointer (some ⟨p0,0,none⟩)),vx1] w λ v w'=>∃ O',St (eT i0) w O w' O'/\∃ v0 v1 v2 v3:Value,Ob i0 w' O' (.pointer (some ⟨p0,0,none⟩)) x0/\v=.tuple #[v0,v1,v2,v3]/\Vb w' (Fr 0 w' O') v0 r.1/\Vb w' (Fr 0 w' O') v1 r.2.1/\Vb w' (Fr 0 w' O') v2 r.2.2.1/\Vb w' (Fr 0 w' O') v3 r.2.2.2:=by
 obtain ⟨O0,hE,e2,s2⟩:=X9 (w:=w) (O:=O) h0.2;have h0':=Ob.leave h0 e2 s2 (j:=2) (by decide);have hB:Bm w O0 w O0:=Bm.refl;replace f1:=f1.mono e2;obtain ⟨A3,c4,rfl⟩:=f1.form;refine AH func79 rfl ntmps79 ?_;unfold De at hm;refine Ah (Ae (Au rfl (Au rfl (Au rfl (Au rfl (o_z (Ah (Ae (Ar rfl (Dr rfl ?_))))))))));obtain ⟨O5,v9,g4,h4,S6,i4,h7,f2,j0,e0⟩:=Reg.opn h0' 2 3 4 5 (by decide);obtain ⟨j4,rfl⟩:=f2.ptr;obtain ⟨k4,l4,rfl⟩:=j0.form;obtain ⟨m4,rfl⟩:=e0.mptr;refine AD rfl (AQ (hc:=Blk.cell (i:=0) (h7.1) rfl) rfl (Ar rfl ?_));obtain ⟨h1,t2,hm⟩:=bs hm;replace hB:=hB.st S6;refine Dm (O:=O5) (NO f2 (f1.z hB) t2) rfl λ n4 o4 u2 f0 w2=>?_;obtain ⟨p4,q4,g2,rfl,c0,x2⟩:=w2;obtain ⟨h2,i2,rfl⟩:=c0.form;obtain ⟨rfl,r4⟩:=x2.err;refine Ar rfl (BW rfl rfl (BW rfl rfl (Au rfl (Au rfl (o_z (Ah (Ah (Ae (Ar rfl (FA rfl (λ i1=>?_) λ i1=>?_))))))))))
 ·replace hm:=ip hm i1;refine o_z (Am rfl (Ah (Ae (Ex rfl (Au rfl (Au rfl (Au rfl (Au rfl (o_z (AE ?_))))))))));replace h7:=h7.st f0;replace j0:=j0.st f0;replace e0:=e0.st f0;obtain ⟨s4,y2,z2,a3,b3⟩:=Reg.shut (x:=x0) (l0:=2) (by decide) h7 g2 j0 e0;obtain rfl:=sm hm;replace hB:=(hB.st f0).st y2;obtain ⟨O',hS',hz,hl⟩:=hE.leave (λ q=>if q=2 then i0 else 0) rfl hB;exact Aer rfl (AF rfl) (AF rfl) (AF rfl) (AF rfl) ⟨O',hS',_,_,_,_,(Ob.leave b3 hz (hl 2 (by decide) (by decide)) h0.2),rfl,(Vb.mono (Vb.nil _ _) hz),(vInt (T8 0)),(vInt (T8 (-1))),(vErr (by decide))⟩
 replace hm:=im hm i1;refine o_z (Aj rfl (AK (Ah (Ae (Ar rfl (Dr rfl (AD rfl ?_)))))));replace h7:=h7.st f0;refine AQ (hc:=Blk.cell (i:=0) (h7.1) rfl) rfl (Ar rfl ?_);obtain ⟨k0,c3,hm⟩:=bs hm;refine Dm (O:=u2) (NP g2 c0 c3) rfl λ t4 u4 v4 s0 d3=>?_;obtain ⟨e3,f3⟩:=d3;obtain ⟨rfl,j2⟩:=f3.int;refine Au rfl (o_z (Ah (Ah (Ae (Ar rfl (Dr rfl (AD rfl ?_)))))));replace h7:=h7.st s0;refine AQ (hc:=Blk.cell (i:=2) (h7.1) rfl) rfl (Ar rfl ?_);replace e0:=(e0.st f0).st s0;obtain ⟨k2,l2,j1,d0⟩:=MapR.get e0 k0;refine AaC k0 j1 rfl rfl rfl (AT rfl ?_);have k1:=BK d0.len;have w4:=rngNat k1;refine Ar rfl (o_z ?_);replace j0:=(j0.st f0).st s0;obtain ⟨g3,l1,m1,n1,t0⟩:=Reg.shut (x:=x0) (l0:=2) (by decide) h7 e3 j0 e0;replace d0:=d0.shutS l1 m1 n1 [2] (by decide);obtain ⟨m2,o1,hm⟩:=bs hm;replace hB:=((hB.st f0).st s0).st l1;replace c0:=(c0.st s0).st l1;refine Dv (X:=Unit) ((V0 ([]:List Int) x0.table.l k0).length) o1 rfl k1 (λ n2 o2=>[(0,(.pointer (some ⟨p0,0,none⟩))),(8,(.slice h2 h1.1.length i2)),(10,(.int .i64 k0)),(36,(.slice k2 (V0 ([]:List Int) x0.table.l k0).length l2))]) (λ n2 o2 w'=>∃ O':Lab,Bm w O0 w' O'/\Ob 2 w' O' (.pointer (some ⟨p0,0,none⟩)) x0/\Vb w' (Fr 0 w' O') (.slice h2 h1.1.length i2) h1.1/\Vb w' (FrS [2] w' O') (.slice k2 (V0 ([]:List Int) x0.table.l k0).length l2) (V0 ([]:List Int) x0.table.l k0)) () ⟨g3,hB,t0,c0,d0⟩ ⟨rfl,rfl,rfl,rfl,rfl,rfl,trivial⟩ (λ _ _=>rfl) ?_ ?_
 ·rintro x4 y4 n2 o2 z4 h3 u0 ⟨a5,hB,t0,c0,d0⟩ b0 m0 p1;have rk66:=V5 u0 k1;refine Ah (Ae ?_);obtain ⟨b5,c5,i3,q1,r1,s1,rfl,j3⟩:=d0.elem' u0;refine CN (hA:=q1) (hj:=rfl) (hlt:=r1) rfl rfl (AQ (hc:=cat0 s1) rfl (Au rfl (o_z (Ah (Ae (Ar rfl (Dr rfl ?_)))))));obtain ⟨k3,d5,e5,f5,g1,t1,n0,o0,g0,q0⟩:=Reg.opn t0 2 3 4 5 (by decide);obtain ⟨g5,rfl⟩:=o0.ptr;obtain ⟨h5,i5,rfl⟩:=g0.form;obtain ⟨j5,rfl⟩:=q0.mptr;replace d0:=d0.opnS g1 (by decide) t1 [2,3,4,5] (by decide);refine AD rfl (AQ (hc:=Blk.cell (i:=1) (n0.1) rfl) rfl (Ar rfl ?_));obtain ⟨l3,u1,b0⟩:=bs b0;obtain ⟨w1,y1⟩:=Dz u1;obtain ⟨m3,n3,p2,w0,y0,z0,o3,rfl,a1,p3,q3,r3⟩:=g0.elem y1;obtain ⟨s3,t3,rfl⟩:=a1.form;refine CN (hA:=w0) (hj:=w1) (hlt:=y0) rfl rfl (AD rfl (AQ (hc:=cat0 z0) rfl (Ar rfl ?_)));obtain ⟨z1,a2,b0⟩:=bs b0;replace c0:=c0.st g1;refine Bv (O:=k3) (Jy (λ _ h=>h) (vMo a1) (vMo c0) a2) rfl λ u3 w3 x3 a0 b2=>?_;obtain rfl:=b2.bool;replace d0:=d0.stS a0 id (λ _ _=>id);cases z1
  case false =>
   replace b0:=iF b0;refine o_z (Aj rfl (AK ?_));replace n0:=n0.st a0;replace o0:=o0.st a0;replace g0:=g0.st a0;replace q0:=q0.st a0;obtain ⟨y3,r0,b1,c1,c2⟩:=Reg.shut (x:=x0) (l0:=2) (by decide) n0 o0 g0 q0;replace d0:=d0.shutS r0 b1 c1 [2] (by decide);obtain rfl:=sm b0;exact show Exists _ from ⟨_,(),rfl,⟨rfl,rfl,rfl,rfl,rfl,rfl,trivial⟩,_,((hB.st g1).st a0).st r0,c2,(c0.st a0).st r0,d0⟩
  replace b0:=iT b0;refine o_z (Am rfl (Ah (Ae (Ar rfl (Ar rfl (Ar rfl (Au rfl (Au rfl (Au rfl (Au rfl (o_z (AE ?_))))))))))));replace n0:=n0.st a0;replace o0:=o0.st a0;replace g0:=g0.st a0;replace q0:=q0.st a0;obtain ⟨z3,d1,q2,r2,d2⟩:=Reg.shut (x:=x0) (l0:=2) (by decide) n0 o0 g0 q0;obtain rfl:=sm b0;obtain rfl:=m0 _ rfl;obtain rfl:=sm (CU hm);replace hB:=((hB.st g1).st a0).st d1;obtain ⟨O',hS',hz,hl⟩:=hE.leave (λ q=>if q=2 then i0 else 0) rfl hB;replace c0:=(c0.st a0).st d1;exact Aer rfl (AF rfl) (AF rfl) (AF rfl) (AF rfl) ⟨O',hS',_,_,_,_,(Ob.leave d2 hz (hl 2 (by decide) (by decide)) h0.2),rfl,(Vb.mono c0 hz),(vInt j2),(vInt j3),(vErr (T8 0))⟩
 rintro a4 b4 ⟨d4,e4,rfl,e1,f4,hB,t0,c0,d0⟩;replace hm:=BE hm;refine AX _ e1 ?_;refine Ah (Ae (Ar rfl (Ar rfl (Au rfl (Au rfl (Au rfl (Au rfl (o_z (AE ?_)))))))));obtain rfl:=sm hm;obtain ⟨O',hS',hz,hl⟩:=hE.leave (λ q=>if q=2 then i0 else 0) rfl hB;exact Aer rfl (AF rfl) (AF rfl) (AF rfl) (AF rfl) ⟨O',hS',_,_,_,_,(Ob.leave t0 hz (hl 2 (by decide) (by decide)) h0.2),rfl,(Vb.mono c0 hz),(vInt j2),(vInt (T8 (-1))),(vErr (T8 0))⟩
noncomputable def BS (a:Reg) (e:List Int):Option (Int×Bool×Err×Reg) :=
  bnd (De a e) λ b=>if b.2.2.2.n≠0 then (some (0,false,(⟨b.2.2.2.n⟩:Err),a)) else (if 0<=b.2.2.1 then (some (b.2.2.1,false,(⟨0⟩:Err),a)) else (if 65536<=(a.entries.length:Int) then (some (0,false,(⟨10⟩:Err),a)) else (bnd (T5 48 a.entries [(⟨b.1,(⟨(-1),(-1),0⟩:RLk)⟩:REn)]) λ c=>bnd (T5 8 (V0 ([]:List Int) a.table.l b.2.1) ([(a.entries.length:Int)]:List Int)) λ d=>some ((a.entries.length:Int),true,(⟨0⟩:Err),(⟨a.packer,c,(⟨X7 a.table.l b.2.1 d⟩:MapR 3 Int Int)⟩:Reg)))))
theorem Il {w:World} {O:Lab} {p0 i0:Nat} {x0:Reg} (d0:Ob i0 w O (.pointer (some ⟨p0,0,none⟩)) x0) {vx1:Value} {x1:List Int} (k0:Vb w (Fr 0 w O) vx1 x1) {r:Int×Bool×Err×Reg} (hm:BS x0 x1=some r) :
    Fn prog 35 [(.pointer (some ⟨p0,0,none⟩)),vx1] w λ v w'=>∃ O',St (eT i0) w O w' O'/\∃ v0 v1 v2:Value,Ob i0 w' O' (.pointer (some ⟨p0,0,none⟩)) r.2.2.2/\v=.tuple #[v0,v1,v2]/\Vb w' (Fr 0 w' O') v0 r.1/\Vb w' (Fr 0 w' O') v1 r.2.1/\Vb w' (Fr 0 w' O') v2 r.2.2.1:=by
 obtain ⟨O0,hE,d1,k1⟩:=X9 (w:=w) (O:=O) d0.2;have d0':=Ob.leave d0 d1 k1 (j:=2) (by decide);have hB:Bm w O0 w O0:=Bm.refl;replace k0:=k0.mono d1;obtain ⟨A3,c4,rfl⟩:=k0.form;refine AH func35 rfl ntmps35 ?_;unfold BS at hm;refine Ah (Ae (Au rfl (Au rfl (Au rfl (o_z (Ah (Ah (Ae (Ar rfl (Kg rfl (o_z (Aj rfl (AK (Ah ?_))))))))))))));refine Ae (Ar rfl (Ar rfl ?_));obtain ⟨q5,e6,hm⟩:=bs hm;refine Dm (O:=O0) (Lg d0' (k0.z hB) e6) rfl λ m2 w7 O8 S9 l1=>?_;obtain ⟨n2,o2,p2,q2,s0,rfl,m0,m1,n1,o1⟩:=l1;obtain ⟨p1,q1,rfl⟩:=m0.form;obtain ⟨rfl,r2⟩:=m1.int;obtain ⟨rfl,r1⟩:=n1.int;obtain ⟨rfl,s1⟩:=o1.err;refine Ar rfl (BW rfl rfl (BW rfl rfl (BW rfl rfl (BW rfl rfl (Au rfl (Au rfl (Au rfl (Au rfl (o_z (Ah (Ci (Ah (Ae (Ar rfl ?_))))))))))))));refine FA rfl (λ t0=>?_) λ t0=>?_
 ·replace hm:=ip hm t0;refine Au rfl (o_z (Am rfl (Ah (Ae (Ar rfl (Au rfl (Au rfl (Au rfl (o_z (AE ?_))))))))));obtain rfl:=sm hm;replace hB:=hB.st S9;obtain ⟨O',hS',hz,hl⟩:=hE.leave (λ q=>if q=2 then i0 else 0) rfl hB;exact AdR rfl (AF rfl) (AF rfl) (AF rfl) ⟨O',hS',_,_,_,(Ob.leave s0 hz (hl 2 (by decide) (by decide)) d0.2),rfl,(vInt (T8 0)),vBool,(vErr s1)⟩
 replace hm:=im hm t0;refine Au rfl (o_z (Aj rfl (Ah (Ae (Ar rfl (ER rfl rfl (λ u0=>?_) λ u0=>?_))))))
 ·replace hm:=ip hm u0;refine Au rfl (o_z (Am rfl (Ah (Ae (Ar rfl (Au rfl (Au rfl (Au rfl (o_z (AE ?_))))))))));obtain rfl:=sm hm;replace hB:=hB.st S9;obtain ⟨O',hS',hz,hl⟩:=hE.leave (λ q=>if q=2 then i0 else 0) rfl hB;exact AdR rfl (AF rfl) (AF rfl) (AF rfl) ⟨O',hS',_,_,_,(Ob.leave s0 hz (hl 2 (by decide) (by decide)) d0.2),rfl,(vInt r1),vBool,(vErr (T8 0))⟩
 replace hm:=im hm u0;refine Au rfl (o_z (Aj rfl (Ah (Ae (Ar rfl (Dr rfl ?_))))));obtain ⟨s2,t2,u2,w2,w0,t1,a0,h0,j0,b0⟩:=Reg.opn s0 2 3 4 5 (by decide);obtain ⟨x2,rfl⟩:=h0.ptr;obtain ⟨y2,z2,rfl⟩:=j0.form;obtain ⟨a3,rfl⟩:=b0.mptr;refine AD rfl (AQ (hc:=Blk.cell (i:=1) (a0.1) rfl) rfl (AT rfl ?_));have u1:=BK j0.len;have b3:=rngNat u1;refine ER rfl rfl (λ y0=>?_) λ y0=>?_
 ·replace hm:=ip hm y0;refine Au rfl (o_z (Am rfl (Ah (Ae (Ex rfl (Au rfl (Au rfl (Au rfl (o_z (AE ?_))))))))));obtain ⟨c3,w1,y1,z1,a2⟩:=Reg.shut (x:=x0) (l0:=2) (by decide) a0 h0 j0 b0;obtain rfl:=sm hm;replace hB:=((hB.st S9).st w0).st w1;obtain ⟨O',hS',hz,hl⟩:=hE.leave (λ q=>if q=2 then i0 else 0) rfl hB;exact AdR rfl (AF rfl) (AF rfl) (AF rfl) ⟨O',hS',_,_,_,(Ob.leave a2 hz (hl 2 (by decide) (by decide)) d0.2),rfl,(vInt (T8 0)),vBool,(vErr (by decide))⟩
 replace hm:=im hm y0;refine Au rfl (o_z (Aj rfl (AK (Ah (Ae (Ar rfl (Dr rfl (AD rfl (AQ (hc:=Blk.cell (i:=1) (a0.1) rfl) rfl (AT rfl ?_))))))))));have b2:=BK j0.len;have e1:=rngNat b2;refine Au rfl (o_z (Ah (Ae (Ar rfl (Ar rfl (Dr rfl (AD rfl (AQ (hc:=Blk.cell (i:=1) (a0.1) rfl) rfl (Ar rfl (CX rfl rfl ?_))))))))));refine ai ?_;obtain ⟨c2,z0,hm⟩:=bs hm;obtain ⟨z0,d2,e2⟩:=Bz z0;replace m0:=m0.st w0;refine DQ rfl (a:=(⟨q5.1,(⟨(-1),(-1),0⟩:RLk)⟩:REn)) j0 (Vb.ofAgg (cs:=[(.slice p1 q5.1.length q1),(.int .i64 (-1)),(.int .i64 (-1)),(.int .i64 0)]) (x:=(⟨q5.1,(⟨(-1),(-1),0⟩:RLk)⟩:REn)) rfl ⟨_,rfl,m0,(T8 (-1)),(T8 (-1)),(T8 0)⟩) (λ _=>rfl) rfl d2 e2 ⟨rfl,rfl⟩ λ d3 e3 f3 g3 f1 n0 o0=>?_;rw [<- z0] at o0 ⊢;refine Dr rfl (AD rfl ?_);replace a0:=a0.st n0;refine AR a0 rfl rfl rfl (AY) (allOne) λ h3 q0 a0=>?_;refine o_z (Ah ?_);refine BT [(13,[5,7])] f1 ?_;refine AP (fuel:=8) [] (BL (DX 5 7)) rfl (AS rfl rfl (DN rfl rfl (AU rfl rfl (Bc (hc:=By a0 2 rfl) rfl rfl (AS rfl rfl ?_)))));replace b0:=(b0.st n0).st q0;obtain ⟨i3,j3,c0,g1⟩:=MapR.get b0 q5.2.1;refine SF q5.2.1 (λ w' ⟨O',hq⟩=>c0.keep (hq.agree (i:=5) (by decide) _ (MapR.at b0))) rfl rfl rfl rfl (AS rfl rfl (AC ?_));refine AP (fuel:=3) [5,7] (BL (DX 0 5)) rfl (AS rfl rfl (DN rfl rfl (AU rfl rfl (Bc (hc:=By a0 2 rfl) rfl rfl (AS rfl rfl (AC (AJ (i:=12) rfl ?_)))))));refine BI 6 f1 (xs:=(([(x0.entries.length:Int)]:List Int):List Int)) rfl rfl rfl ⟨(vInt e1),trivial⟩ λ k3 l3 m3 e0 a1=>?_;have hZ:=lZ e0;replace c0:=c0.keep (e0.agree (i:=5) id _ (MapR.at b0));replace g1:=g1.stS e0 id (λ _ _=>id);refine Be [(13,[5,7])] hZ (AJ (i:=13) rfl ?_);replace b0:=b0.st e0;obtain ⟨n3,f0,b1,f2⟩:=MapR.take b0 c0 7 (by decide) (by decide);have hZ:=f0.lst [5] (λ _ h=>by cases h;decide);obtain ⟨g2,c1,hm⟩:=bs hm;obtain ⟨c1,h2,i2⟩:=Bz c1;replace a1:=a1.st f0;refine Cj rfl f2 (a1.rd) rfl rfl h2 i2 λ o3 p3 q3 r3 g0 h1=>?_;rw [<- c1] at h1 ⊢;replace hZ:=hZ.cmp g0 [5,7] (λ _ h=>by cases h;decide) rfl;refine Be [] hZ (AJ (i:=14) rfl ?_);replace b1:=b1.st g0;refine Me b1 h1 rfl rfl rfl λ s3 t3 r0 j2=>?_;refine BM (Bi (Ah (Ae (Ar rfl (Au rfl (Au rfl (Au rfl (o_z (AE ?_)))))))));replace a0:=(((a0.st e0).st f0).st g0).st r0;replace h0:=(((((h0.st n0).st q0).st e0).st f0).st g0).st r0;replace o0:=((((o0.st q0).st e0).st f0).st g0).st r0;obtain ⟨u3,k2,i1,j1,l2⟩:=Reg.shut (x:=(⟨x0.packer,c2,(⟨X7 x0.table.l q5.2.1 g2⟩:MapR 3 Int Int)⟩:Reg)) (l0:=2) (by decide) a0 h0 o0 j2;obtain rfl:=sm hm;replace hB:=((((((((hB.st S9).st w0).st n0).st q0).st e0).st f0).st g0).st r0).st k2;obtain ⟨O',hS',hz,hl⟩:=hE.leave (λ q=>if q=2 then i0 else 0) rfl hB;exact AdR rfl (AF rfl) (AF rfl) (AF rfl) ⟨O',hS',_,_,_,(Ob.leave l2 hz (hl 2 (by decide) (by decide)) d0.2),rfl,(vInt e1),vBool,(vErr (T8 0))⟩
noncomputable def Cd (b:Reg) (a:Int):Option Bool :=
  bnd (if 0<=a then (if a < (b.entries.length:Int) then (some true) else (some false)) else (some false):Option Bool) λ c=>some c
theorem Fk {w:World} {O:Lab} {e f:Nat} {b:Reg} (g:Ob f w O (.pointer (some ⟨e,0,none⟩)) b) {h:Int} (n:T3 h) {F:Bool} (hm:Cd b h=some F) :
    Fn prog 75 [(.pointer (some ⟨e,0,none⟩)),(.int .i64 h)] w λ v w'=>∃ a,St (eT f) w O w' a/\Ob f w' a (.pointer (some ⟨e,0,none⟩)) b/\Vb w' (Fr 0 w' a) v F:=by
 obtain ⟨k,hE,j0,k0⟩:=X9 (w:=w) (O:=O) g.2;have c:=Ob.leave g j0 k0 (j:=2) (by decide);have d:Bm w k w k:=Bm.refl;refine AH func75 rfl ntmps75 ?_;unfold Cd at hm;refine Ah (Ae (Au rfl (o_z (Ah ?_))));obtain ⟨o,a0,hm⟩:=bs hm;refine BF (λ p w'=>∃ (r:Unit) (a:Lab),T7 p [(4,(.bool o))]/\Bm w k w' a/\Ob 2 w' a (.pointer (some ⟨e,0,none⟩)) b) ?_ ?_
 ·refine Ae (Ar rfl (ER rfl rfl (λ l=>?_) λ l=>?_))
  ·replace a0:=ip a0 l;refine Ar rfl (Az rfl rfl (Ar rfl (Az rfl rfl (Ar rfl (Az rfl rfl (Dr rfl (Az rfl rfl ?_)))))));obtain ⟨t,z0,a1,b1,S9,m0,d0,e0,c0,f0⟩:=Reg.opn c 2 3 4 5 (by decide);obtain ⟨u,rfl⟩:=e0.ptr;obtain ⟨y,e1,rfl⟩:=c0.form;obtain ⟨z,rfl⟩:=f0.mptr;refine AD rfl (Az rfl rfl (AQ (hc:=Blk.cell (i:=1) (d0.1) rfl) rfl (Az rfl rfl (AT rfl ?_))));have s:=BK c0.len;have A:=rngNat s;refine Az rfl rfl (Eb rfl rfl (λ m=>?_) λ m=>?_)
   ·replace a0:=ip a0 m;refine Bt rfl rfl (Au rfl (o_z ?_));obtain ⟨B,o0,q0,r0,s0⟩:=Reg.shut (x:=b) (l0:=2) (by decide) d0 e0 c0 f0;obtain rfl:=sm a0;exact ⟨(),_,⟨rfl,trivial⟩,(d.st S9).st o0,s0⟩
   replace a0:=im a0 m;refine Bt rfl rfl (Au rfl (o_z ?_));obtain ⟨C,t0,u0,v0,w0⟩:=Reg.shut (x:=b) (l0:=2) (by decide) d0 e0 c0 f0;obtain rfl:=sm a0;exact ⟨(),_,⟨rfl,trivial⟩,(d.st S9).st t0,w0⟩
  replace a0:=im a0 l;refine Ar rfl (Aw rfl rfl (Aw rfl rfl (Aw rfl rfl (Aw rfl rfl (Aw rfl rfl (Aw rfl rfl (Aw rfl rfl (Bd rfl rfl (Au rfl (o_z ?_))))))))));obtain rfl:=sm a0;exact ⟨(),_,⟨rfl,trivial⟩,d,c⟩
 rintro D E ⟨r,l1,h0,d,y0⟩;refine AX _ h0 ?_;refine AE ?_;obtain rfl:=sm hm;obtain ⟨a,hS',hz,hl⟩:=hE.leave (λ q=>if q=2 then f else 0) rfl d;exact U0 rfl (AF rfl) ⟨a,hS',(Ob.leave y0 hz (hl 2 (by decide) (by decide)) g.2),vBool⟩
noncomputable def Dw (b:Reg) (d:Int):Option ((List Int)×Err) :=
  bnd (Cd b d) λ e=>if e=true then bnd (atI b.entries d) λ c=>bnd (EY b.packer c.words) λ a=>some (a.1,(⟨a.2.n⟩:Err)) else some (([]:List Int),(⟨1⟩:Err))
theorem Kw {w:World} {O:Lab} {g c:Nat} {e:Reg} (f:Ob c w O (.pointer (some ⟨g,0,none⟩)) e) {k:Int} (l:T3 k) {S:(List Int)×Err} (hm:Dw e k=some S) :
    Fn prog 30 [(.pointer (some ⟨g,0,none⟩)),(.int .i64 k)] w λ v w'=>∃ a,St (eT c) w O w' a/\∃ v0 o:Value,Ob c w' a (.pointer (some ⟨g,0,none⟩)) e/\v=.tuple #[v0,o]/\Vb w' (Fr 0 w' a) v0 S.1/\Vb w' (Fr 0 w' a) o S.2:=by
 obtain ⟨m,hE,s0,t0⟩:=X9 (w:=w) (O:=O) f.2;have n:=Ob.leave f s0 t0 (j:=2) (by decide);have b:Bm w m w m:=Bm.refl;refine AH func30 rfl ntmps30 ?_;unfold Dw at hm;refine Ah (Ae (Au rfl (Au rfl (o_z (Ah (Ci (Ah (Ae (Ar rfl (Kg rfl (Au rfl (o_z (Aj rfl (Ah ?_))))))))))))));refine Ae (Ar rfl (Ar rfl ?_));obtain ⟨t,e4,hm⟩:=bs hm;refine Dm (O:=m) (Fk n l e4) rfl λ B C D p u=>?_;obtain ⟨r,u0⟩:=u;obtain rfl:=u0.bool;cases t
 case false =>
  replace hm:=iF hm;refine EF rfl (Au rfl (o_z (Am rfl (Ah (Ae (Ex rfl (Au rfl (Au rfl (o_z (AE ?_))))))))));obtain rfl:=sm hm;replace b:=b.st p;obtain ⟨a,hS',hz,hl⟩:=hE.leave (λ q=>if q=2 then c else 0) rfl b;exact U6 rfl (AF rfl) (AF rfl) ⟨a,hS',_,_,(Ob.leave r hz (hl 2 (by decide) (by decide)) f.2),rfl,(Vb.mono (Vb.nil _ _) hz),(vErr (by decide))⟩
 replace hm:=iT hm;refine EE rfl (Au rfl (o_z (Aj rfl (AK (Ah ?_)))));obtain ⟨s,l1,m1,n1,w0,y0,b0,o0,c0,e0⟩:=Reg.opn r 2 3 4 5 (by decide);obtain ⟨E,rfl⟩:=o0.ptr;obtain ⟨F,q1,rfl⟩:=c0.form;obtain ⟨G,rfl⟩:=e0.mptr;refine BT [(12,[3])] s ?_;refine AP (fuel:=5) [] (BL (DX 0 12)) rfl (AS rfl rfl (DN rfl rfl (AU rfl rfl (Bc (hc:=By b0 0 rfl) rfl rfl (AS rfl rfl (DN rfl rfl (AU rfl rfl (Bc (hc:=By b0 1 rfl) rfl rfl (AS rfl rfl ?_)))))))));obtain ⟨H,z0,hm⟩:=bs hm;obtain ⟨y,b1⟩:=Dz z0;obtain ⟨I,u1,c1,g0,h0,j0,k0,w1,rfl,q0,y1,z1,a2⟩:=c0.elemF b1;obtain ⟨J,c2,rfl⟩:=q0.form;refine Em (hA:=g0) (hj:=y) (hlt:=j0) rfl rfl rfl (AU rfl rfl (Bc (hc:=LN h0 k0) rfl rfl (AC (AJ (i:=12) rfl ?_))));obtain ⟨K,d1,hm⟩:=bs hm;refine Dm (O:=s) (MJ o0 q0 d1) rfl λ L M N d z=>?_;obtain ⟨P,i2,f1,rfl,f0,g1⟩:=z;obtain ⟨Q,k2,rfl⟩:=f0.form;obtain ⟨rfl,h1⟩:=g1.err;have A:=d.lst [3] (λ _ h=>by cases h;decide);refine Be [] A ?_;refine AP (fuel:=0) [] (BL [13,14,15,16]) rfl (Pp rfl rfl rfl (Pp rfl rfl rfl (Ek rfl rfl (Ek rfl rfl (AC (Bi (AE ?_)))))));replace b0:=b0.st d;replace c0:=c0.st d;replace e0:=e0.st d;obtain ⟨R,r0,i1,j1,k1⟩:=Reg.shut (x:=e) (l0:=2) (by decide) b0 f1 c0 e0;obtain rfl:=sm hm;replace b:=(((b.st p).st w0).st d).st r0;obtain ⟨a,hS',hz,hl⟩:=hE.leave (λ q=>if q=2 then c else 0) rfl b;replace f0:=f0.st r0;exact U6 rfl (AF rfl) (AF rfl) ⟨a,hS',_,_,(Ob.leave k1 hz (hl 2 (by decide) (by decide)) f.2),rfl,(Vb.mono f0 hz),(vErr h1)⟩
noncomputable def Di (a:Reg) (b:Int) (c:Int) (g:Int) (h:Int):Option (Err×Reg) :=
  bnd (bnd (Cd a b) λ d=>if d=true then if c≠(-1) then (bnd (Cd a c) λ e=>if e=true then some false else some true) else (some false) else some true:Option Bool) λ i=>if i=true then (some ((⟨1⟩:Err),a)) else (bnd (atI a.entries b) λ f=>some ((⟨0⟩:Err),(⟨a.packer,(a.entries.set (b:Int).toNat ({ f with link:=(⟨c,g,h⟩:RLk) }:REn)),a.table⟩:Reg)))
theorem JX {w:World} {O:Lab} {p0 i0:Nat} {x0:Reg} (b0:Ob i0 w O (.pointer (some ⟨p0,0,none⟩)) x0) {x1:Int} (rx1:T3 x1) {x2:Int} (rx2:T3 x2) {x3:Int} (rx3:T3 x3) {x4:Int} (rx4:T3 x4) {r:Err×Reg} (hm:Di x0 x1 x2 x3 x4=some r) :
    Fn prog 36 [(.pointer (some ⟨p0,0,none⟩)),(.int .i64 x1),(.int .i64 x2),(.int .i64 x3),(.int .i64 x4)] w λ v w'=>∃ O',St (eT i0) w O w' O'/\Ob i0 w' O' (.pointer (some ⟨p0,0,none⟩)) r.2/\Vb w' (Fr 0 w' O') v r.1:=by
 obtain ⟨O0,hE,w0,y0⟩:=X9 (w:=w) (O:=O) b0.2;have b0':=Ob.leave b0 w0 y0 (j:=2) (by decide);have hB:Bm w O0 w O0:=Bm.refl;refine AH func36 rfl ntmps36 ?_;unfold Di at hm;refine Ah (Ae (Au rfl (o_z (Ah (Ci (Ah (Ae (Ar rfl (Kg rfl (Au rfl (o_z (Aj rfl (Ah ?_)))))))))))));obtain ⟨y6,a0,hm⟩:=bs hm;refine BF (λ l' w'=>∃ (x9:Unit) (O':Lab),T7 l' [(0,(.pointer (some ⟨p0,0,none⟩))),(1,(.int .i64 x1)),(2,(.int .i64 x2)),(3,(.int .i64 x3)),(4,(.int .i64 x4)),(15,(.bool y6))]/\Bm w O0 w' O'/\Ob 2 w' O' (.pointer (some ⟨p0,0,none⟩)) x0) ?_ ?_
 ·refine Ae (Ar rfl (Ar rfl ?_));obtain ⟨z0,a1,a0⟩:=bs a0;refine Dm (O:=O0) (Fk b0' rx1 a1) rfl λ u1 v1 b1 e0 c1=>?_;obtain ⟨m0,d1⟩:=c1;obtain rfl:=d1.bool;cases z0
  case false =>
   replace a0:=iF a0;refine EF rfl (Ar rfl (Aw rfl rfl (Aw rfl rfl (Aw rfl rfl (Aw rfl rfl (Aw rfl rfl (Aw rfl rfl (Aw rfl rfl (Aw rfl rfl (Bt rfl rfl (Au rfl (o_z ?_))))))))))));obtain rfl:=sm a0;exact ⟨(),_,⟨rfl,rfl,rfl,rfl,rfl,rfl,trivial⟩,hB.st e0,m0⟩
  replace a0:=iT a0;refine EE rfl (Ar rfl (Az rfl rfl (Ar rfl (Az rfl rfl (Kr rfl rfl (λ n0=>?_) λ n0=>?_)))))
  ·replace a0:=ip a0 n0;refine Az rfl rfl (Ar rfl (Az rfl rfl (Ar rfl (Az rfl rfl (Ar rfl (Az rfl rfl ?_))))));obtain ⟨e1,f1,a0⟩:=bs a0;refine Dm (O:=b1) (Fk m0 rx2 f1) rfl λ w1 y1 z1 s0 g1=>?_;obtain ⟨t0,h1⟩:=g1;obtain rfl:=h1.bool;cases e1
   case false =>
    replace a0:=iF a0;refine Az rfl rfl (EF rfl (Az rfl rfl (Bt rfl rfl (Bd rfl rfl (Au rfl (o_z ?_))))));obtain rfl:=sm a0;exact ⟨(),_,⟨rfl,rfl,rfl,rfl,rfl,rfl,trivial⟩,(hB.st e0).st s0,t0⟩
   replace a0:=iT a0;refine Az rfl rfl (EE rfl (Az rfl rfl (Bt rfl rfl (Bd rfl rfl (Au rfl (o_z ?_))))));obtain rfl:=sm a0;exact ⟨(),_,⟨rfl,rfl,rfl,rfl,rfl,rfl,trivial⟩,(hB.st e0).st s0,t0⟩
  replace a0:=im a0 n0;refine Az rfl rfl (Ar rfl (Aw rfl rfl (Aw rfl rfl (Aw rfl rfl (Aw rfl rfl (Az rfl rfl (Bd rfl rfl (Bd rfl rfl (Au rfl (o_z ?_))))))))));obtain rfl:=sm a0;exact ⟨(),_,⟨rfl,rfl,rfl,rfl,rfl,rfl,trivial⟩,hB.st e0,m0⟩
 rintro a2 b2 ⟨x9,c2,o0,hB,u0⟩;refine AX _ o0 ?_;refine BH rfl (λ q0=>?_) (λ q0=>?_)
 ·replace hm:=ip hm q0;refine Ah (Ae (Ex rfl (Au rfl (o_z (AE ?_)))));obtain rfl:=sm hm;obtain ⟨O',hS',hz,hl⟩:=hE.leave (λ q=>if q=2 then i0 else 0) rfl hB;exact U0 rfl (AF rfl) ⟨O',hS',(Ob.leave u0 hz (hl 2 (by decide) (by decide)) b0.2),(vErr (by decide))⟩
 replace hm:=im' hm q0;refine AK (Ah (Ae (Ar rfl (Dr rfl ?_))));obtain ⟨d2,e2,f2,g2,i1,j1,f0,g0,c0,h0⟩:=Reg.opn u0 2 3 4 5 (by decide);obtain ⟨h2,rfl⟩:=g0.ptr;obtain ⟨i2,j2,rfl⟩:=c0.form;obtain ⟨k2,rfl⟩:=h0.mptr;refine AD rfl (AQ (hc:=Blk.cell (i:=1) (f0.1) rfl) rfl (Ar rfl (Ar rfl (Ar rfl (Ar rfl (CX rfl rfl ?_))))));obtain ⟨j0,k1,hm⟩:=bs hm;obtain ⟨l1,v0⟩:=Dz k1;obtain ⟨l2,m2,m1,d0,r0,n1,n2,rfl,o1,o2,p2,q2⟩:=c0.elem v0;obtain ⟨r2,s2,rfl⟩:=o1.form;refine CN (hA:=d0) (hj:=l1) (hlt:=r0) rfl rfl (AD rfl ?_);refine VV (a:=j0) (a':=({ j0 with link:=(⟨x2,x3,x4⟩:RLk) }:REn)) (off:=1) c0 d0 v0 rfl rfl rfl (F0 rfl) (by first|exact allOne|simp [Value.cells,Value.oneCell',Pr]) (by rintro ce ⟨t2,rfl,p1,u2,v2,w2⟩;exact ⟨_,rfl,p1,rx2,rx3,rx4⟩) λ y2 k0 c0=>?_;refine o_z (Ah (Ae (Au rfl (o_z (AE ?_)))));replace f0:=f0.st k0;replace g0:=g0.st k0;replace h0:=h0.st k0;obtain ⟨z2,q1,r1,s1,t1⟩:=Reg.shut (x:=(⟨x0.packer,(x0.entries.set (x1:Int).toNat ({ j0 with link:=(⟨x2,x3,x4⟩:RLk) }:REn)),x0.table⟩:Reg)) (l0:=2) (by decide) (by have q:=f0;rw [<- ((by simp:(x0.entries.set (x1:Int).toNat ({ j0 with link:=(⟨x2,x3,x4⟩:RLk) }:REn)).length=x0.entries.length).trans rfl)] at q;exact q) g0 c0.relen h0;obtain rfl:=sm hm;replace hB:=((hB.st i1).st k0).st q1;obtain ⟨O',hS',hz,hl⟩:=hE.leave (λ q=>if q=2 then i0 else 0) rfl hB;exact U0 rfl (AF rfl) ⟨O',hS',(Ob.leave t1 hz (hl 2 (by decide) (by decide)) b0.2),(vErr (T8 0))⟩
noncomputable def Dx (h:List Int):Option (List Int) :=
  bnd (T4 ((h.length:Int) - 1)) λ i=>bnd (lop (ρ:=(List Int)) (λ (a:(List Int)×Int×Int)=>if a.2.1 < a.2.2 then (bnd (atI a.1 a.2.2) λ b=>bnd (atI a.1 a.2.1) λ d=>bnd (atI a.1 a.2.1) λ j=>bnd (atI (a.1.set (a.2.1:Int).toNat b) a.2.2) λ k=>bnd (T4 (a.2.1 + 1)) λ e=>bnd (T4 (a.2.2 - 1)) λ f=>some (.next (((a.1.set (a.2.1:Int).toNat b).set (a.2.2:Int).toNat d),e,f))) else (some (.brk (a.1,a.2.1,a.2.2)))) (h,0,i)) λ c=>fin c λ (g:(List Int)×Int×Int)=>some g.1
theorem Kx {w:World} {O:Lab} {A0:Option Addr} {m0 c0 i0:Nat} {x0:List Int} (d0:Rw i0 w O 3 (.slice A0 m0 c0) x0) {r:(List Int)} (hm:Dx x0=some r) :
    Fn prog 111 [(.slice A0 m0 c0)] w λ v w'=>∃ O',St (eT i0) w O w' O'/\Rw i0 w' O' 3 (.slice A0 m0 c0) r:=by
 obtain ⟨O0,hE,f1,g1⟩:=X9 (w:=w) (O:=O) d0.2.2;obtain rfl:m0=x0.length:=d0.len.1;have d0':=Rw.leave d0 f1 g1 (j:=2) (by decide);have hB:Bm w O0 w O0:=Bm.refl;refine AH func111 rfl ntmps111 ?_;unfold Dx at hm;refine Ah (Ae (Ar rfl (AT rfl ?_)));have l3:=BK d0'.len;have r2:=rngNat l3;obtain ⟨n4,e5,hm⟩:=bs hm;have r6:=(BJ e5);refine II (he:=e5) rfl rfl (Au rfl (Au rfl (o_z ?_)));obtain ⟨j0,h1,hm⟩:=bs hm;refine BF (aft j0 (λ (s9:(List Int)×Int×Int) (h0:Unit)=>[(0,(.slice A0 x0.length c0))]) (λ s9 h0 w'=>∃ O':Lab,Bm w O0 w' O'/\Rw 2 w' O' 3 (.slice A0 x0.length c0) s9.1/\T3 s9.2.1/\T3 s9.2.2)) ?_ ?_
 ·refine Ci (JC (σ:=(List Int)×Int×Int) (X:=Unit) h1 (λ (s9:(List Int)×Int×Int) (h0:Unit)=>[(0,(.slice A0 x0.length c0)),(2,(.int .i64 s9.2.1)),(3,(.int .i64 s9.2.2))]) _ (λ s9 h0 w'=>∃ O':Lab,Bm w O0 w' O'/\Rw 2 w' O' 3 (.slice A0 x0.length c0) s9.1/\T3 s9.2.1/\T3 s9.2.2) _ () ⟨O0,hB,d0',(T8 0),r6⟩ ⟨rfl,rfl,rfl,trivial⟩ ?_);rintro s9 h0 k2 i1 ⟨j1,hB,b0,y0,z0⟩ a0 k0 e0;refine Ah (Ah (Ae (Ar rfl (Ar rfl (Eb rfl rfl (λ l0=>?_) λ l0=>?_)))))
  ·replace a0:=ip a0 l0;refine o_z (Am rfl (AK (Ah (Ci ?_))));refine BT [(13,[2])] j1 ?_;refine AP (fuel:=5) [] (BL [0,1,4,5,6,7,8,9,10,11,12]) rfl (AS rfl rfl (AS rfl rfl (AS rfl rfl (AS rfl rfl ?_))));obtain ⟨k1,l1,a0⟩:=bs a0;obtain ⟨m1,n1⟩:=Dz l1;obtain ⟨l2,m2,o1,n0,o0,p0,q0,rfl,p1⟩:=b0.elemF n1;refine Em (hA:=n0) (hj:=m1) (hlt:=p0) rfl rfl rfl (Bc (hc:=LN o0 q0) rfl rfl (AS rfl rfl (AS rfl rfl ?_)));obtain ⟨q1,r1,a0⟩:=bs a0;obtain ⟨s1,t1⟩:=Dz r1;obtain ⟨n2,o2,u1,r0,s0,t0,u0,rfl,v1⟩:=b0.elemF t1;refine Em (hA:=r0) (hj:=s1) (hlt:=t0) rfl rfl rfl (Bc (hc:=LN s0 u0) rfl rfl ?_);obtain ⟨p2,w1,a0⟩:=bs a0;obtain ⟨x1,a1⟩:=Dz w1;obtain ⟨q2,s2,y1,f0,z1,v0,a2,rfl,t2⟩:=b0.elemF a1;refine Em (hA:=f0) (hj:=x1) (hlt:=v0) rfl rfl rfl (AC ?_);refine AP (fuel:=3) [2] (BL [2,3]) rfl (AS rfl rfl (AS rfl rfl (AC (AJ (i:=13) rfl ?_))));refine GG rfl b0 (a:=k1) (vInt p1) f0 rfl rfl (AO a1) λ u2 b1 b0=>?_;have hZ:=b1.lst [2] (λ _ h=>by cases h;decide);refine Be [] hZ ?_;refine AP (fuel:=1) [] [(14,true)] rfl ?_;obtain ⟨v2,b2,a0⟩:=bs a0;obtain ⟨c2,c1⟩:=Dz b2;obtain ⟨w2,x2,d2,g0,e2,w0,f2,rfl,y2⟩:=b0.elemF c1;refine Em (hA:=g0) (hj:=c2) (hlt:=w0) rfl rfl rfl (AC (AJ (i:=15) rfl ?_));refine GG rfl b0 (a:=q1) (vInt v1) g0 rfl rfl (AO c1) λ z2 g2 b0=>?_;refine BM (Bi (Ae (Ar rfl ?_)));obtain ⟨a3,d1,a0⟩:=bs a0;have h2:=(BJ d1);refine DD (he:=d1) rfl rfl (Ar rfl ?_);obtain ⟨b3,e1,a0⟩:=bs a0;have i2:=(BJ e1);refine II (he:=e1) rfl rfl (Au rfl (Au rfl (o_z ?_)));obtain rfl:=sm a0;exact show Exists _ from ⟨_,(),rfl,⟨rfl,rfl,rfl,trivial⟩,_,(hB.st b1).st g2,b0,h2,i2⟩
  replace a0:=im a0 l0;refine o_z (Aj rfl (Et ?_));obtain rfl:=sm a0;exact show Exists _ from ⟨_,(),e0 _ rfl,⟨rfl,trivial⟩,_,hB,b0,y0,z0⟩
 rintro c3 d3 ⟨e3,f3,rfl,j2,g3,hB,b0,y0,z0⟩;replace hm:=BE hm;obtain rfl:=sm hm;obtain ⟨O',hS',hz,hl⟩:=hE.leave (λ q=>if q=2 then i0 else 0) rfl hB;exact AcQ rfl  ⟨O',hS',(Rw.leave b0 hz (hl 2 (by decide) (by decide)) d0.2.2)⟩
noncomputable def Ei (e:Reg) (g:Int):Option ((List Int)×Err) :=
  bnd (Cd e g) λ h=>if h=true then bnd (lop (ρ:=(List Int)×Err) (λ (a:Int×(List Int))=>bnd (atI e.entries a.1) λ b=>if b.link.parent < 0 then (bnd (Dx a.2) λ f=>some (.ret (f,(⟨0⟩:Err)))) else (bnd (T5 8 a.2 [b.link.op]) λ d=>if (e.entries.length:Int) < (d.length:Int) then (some (.ret (([]:List Int),(⟨21⟩:Err)))) else (some (.next (b.link.parent,d))))) (g,([]:List Int))) λ c=>fin c λ (_:Int×(List Int))=>none else some (([]:List Int),(⟨1⟩:Err))
theorem Lh {w:World} {O:Lab} {p0 i0:Nat} {x0:Reg} (q0:Ob i0 w O (.pointer (some ⟨p0,0,none⟩)) x0) {x1:Int} (rx1:T3 x1) {r:(List Int)×Err} (hm:Ei x0 x1=some r) :
    Fn prog 77 [(.pointer (some ⟨p0,0,none⟩)),(.int .i64 x1)] w λ v w'=>∃ O',St (eT i0) w O w' O'/\∃ v0 v1:Value,Ob i0 w' O' (.pointer (some ⟨p0,0,none⟩)) x0/\v=.tuple #[v0,v1]/\Vb w' (Fr 0 w' O') v0 r.1/\Vb w' (Fr 0 w' O') v1 r.2:=by
 obtain ⟨O0,hE,y1,z1⟩:=X9 (w:=w) (O:=O) q0.2;have q0':=Ob.leave q0 y1 z1 (j:=2) (by decide);have hB:Bm w O0 w O0:=Bm.refl;refine AH func77 rfl ntmps77 ?_;unfold Ei at hm;refine Ah (Ae (Au rfl (Au rfl (o_z (Ah (Ci (Ah (Ae (Ar rfl (Kg rfl (Au rfl (o_z (Aj rfl (Ah ?_))))))))))))));refine Ae (Ar rfl (Ar rfl ?_));obtain ⟨q3,e4,hm⟩:=bs hm;refine Dm (O:=O0) (Fk q0' rx1 e4) rfl λ v9 w5 O6 S7 h8=>?_;obtain ⟨b1,a2⟩:=h8;obtain rfl:=a2.bool;cases q3
 case false =>
  replace hm:=iF hm;refine EF rfl (Au rfl (o_z (Am rfl (Ah (Ae (Ex rfl (Au rfl (Au rfl (o_z (AE ?_))))))))));obtain rfl:=sm hm;replace hB:=hB.st S7;obtain ⟨O',hS',hz,hl⟩:=hE.leave (λ q=>if q=2 then i0 else 0) rfl hB;exact U6 rfl (AF rfl) (AF rfl) ⟨O',hS',_,_,(Ob.leave b1 hz (hl 2 (by decide) (by decide)) q0.2),rfl,(Vb.mono (Vb.nil _ _) hz),(vErr (by decide))⟩
 replace hm:=iT hm;refine EE rfl (Au rfl (o_z (Aj rfl (AK (Ah (Ae (Au rfl (o_z ?_))))))));obtain ⟨w0,c1,hm⟩:=bs hm;refine BF (aft w0 (λ (j0:Int×(List Int)) (m0:(Option Addr×Nat))=>[]) (λ j0 m0 w'=>False)) ?_ ?_
 ·refine Ci ?_;replace hB:=hB.st S7;refine JC (σ:=Int×(List Int)) (X:=(Option Addr×Nat)) c1 (λ (j0:Int×(List Int)) (m0:(Option Addr×Nat))=>[(0,(.pointer (some ⟨p0,0,none⟩))),(1,(.int .i64 j0.1)),(6,(.slice m0.1 j0.2.length m0.2))]) _ (λ j0 m0 w'=>∃ O':Lab,Bm w O0 w' O'/\Ob 2 w' O' (.pointer (some ⟨p0,0,none⟩)) x0/\Rw 8 w' O' 3 (.slice m0.1 j0.2.length m0.2) j0.2/\T3 j0.1) _ (none,0) ⟨O6,hB,b1,(Rw.nil 8 (by decide)),rx1⟩ ⟨rfl,rfl,rfl,trivial⟩ ?_;rintro j0 m0 d3 b2 ⟨e3,hB,b1,u0,f3⟩ a0 c0 d1;refine Ci (Ah (Ae (Ar rfl (Dr rfl ?_))));obtain ⟨c2,g3,h3,i3,y0,d2,k0,d0,e0,f0⟩:=Reg.opn b1 2 3 4 5 (by decide);obtain ⟨j3,rfl⟩:=d0.ptr;obtain ⟨k3,l3,rfl⟩:=e0.form;obtain ⟨m3,rfl⟩:=f0.mptr;refine AD rfl (AQ (hc:=Blk.cell (i:=1) (k0.1) rfl) rfl (Ar rfl ?_));obtain ⟨e2,f2,a0⟩:=bs a0;obtain ⟨g2,h2⟩:=Dz f2;obtain ⟨n3,o3,i2,e1,f1,g1,p3,rfl,j2,k2,l2,r3⟩:=e0.elem h2;obtain ⟨s3,t3,rfl⟩:=j2.form;refine CN (hA:=e1) (hj:=g2) (hlt:=f1) rfl rfl (AD rfl (BX (hl:=rfl) (hc:=(Su 1 3 g1)) rfl ?_));refine Bw 6 c2 λ u3 v3 m2 g0 r0=>?_;refine AR r0 rfl rfl rfl (AY) (allOne) λ w3 h0 r0=>?_;refine o_z (Ah (Ah (Ae (AD rfl (AQ (hc:=Blk.cell (i:=0) (r0.1) rfl) rfl (Eb rfl rfl (λ h1=>?_) λ h1=>?_))))))
  ·replace a0:=ip a0 h1;refine o_z (Am rfl (Ah (Ae (Ar rfl ?_))));obtain ⟨x3,n2,a0⟩:=bs a0;replace u0:=((u0.st y0).st g0).st h0;refine Dm (O:=m2) (Kx u0 n2) rfl λ y3 z3 a4 p1 z0=>?_;refine o_z (Ah (Ae (Ar rfl (Au rfl (Au rfl (o_z (AE ?_)))))));obtain ⟨b4,q1,z0⟩:=z0.freeze;have b0:=((g0.an h0).an p1).an q1;replace k0:=k0.st b0;replace d0:=d0.st b0;replace e0:=e0.st b0;replace f0:=f0.st b0;obtain ⟨c4,r1,o2,p2,q2⟩:=Reg.shut (x:=x0) (l0:=2) (by decide) k0 d0 e0 f0;obtain rfl:=sm a0;obtain rfl:=c0 _ rfl;obtain rfl:=sm (CU hm);replace hB:=(((((hB.st y0).st g0).st h0).st p1).st q1).st r1;obtain ⟨O',hS',hz,hl⟩:=hE.leave (λ q=>if q=2 then i0 else 0) rfl hB;replace z0:=z0.st r1;exact U6 rfl (AF rfl) (AF rfl) ⟨O',hS',_,_,(Ob.leave q2 hz (hl 2 (by decide) (by decide)) q0.2),rfl,(Vb.mono z0 hz),(vErr (T8 0))⟩
  replace a0:=im a0 h1;refine o_z (Aj rfl (AK (Ah (Ae (Ar rfl (AD rfl (AQ (hc:=Blk.cell (i:=1) (r0.1) rfl) rfl ?_)))))));obtain ⟨d4,i1,a0⟩:=bs a0;obtain ⟨i1,r2,s2⟩:=Bz i1;replace u0:=((u0.st y0).st g0).st h0;refine DQ rfl (a:=e2.link.op) u0 (vInt l2) (λ _=>rfl) rfl r2 s2 ⟨rfl,rfl⟩ λ f4 t2 u2 g4 h4 s0 j1=>?_;rw [<- i1] at j1 ⊢;refine Au rfl (o_z (Ah (Ah (Ae (Ar rfl (AT rfl ?_))))));have k1:=BK j1.len;have v2:=rngNat k1;refine Ar rfl (Dr rfl (AD rfl ?_));replace k0:=((k0.st g0).st h0).st s0;refine AQ (hc:=Blk.cell (i:=1) (k0.1) rfl) rfl (AT rfl ?_);replace e0:=((e0.st g0).st h0).st s0;have l1:=BK e0.len;have w2:=rngNat l1;refine Cw rfl rfl (λ t0=>?_) λ t0=>?_
  ·replace a0:=ip a0 t0;refine o_z (Am rfl (Ah (Ae (Ex rfl (Au rfl (Au rfl (o_z (AE ?_))))))));have n0:=(g0.an h0).an s0;replace d0:=d0.st n0;replace f0:=f0.st n0;obtain ⟨x2,m1,s1,t1,n1⟩:=Reg.shut (x:=x0) (l0:=2) (by decide) k0 d0 e0 f0;obtain rfl:=sm a0;obtain rfl:=c0 _ rfl;obtain rfl:=sm (CU hm);replace hB:=((((hB.st y0).st g0).st h0).st s0).st m1;obtain ⟨O',hS',hz,hl⟩:=hE.leave (λ q=>if q=2 then i0 else 0) rfl hB;exact U6 rfl (AF rfl) (AF rfl) ⟨O',hS',_,_,(Ob.leave n1 hz (hl 2 (by decide) (by decide)) q0.2),rfl,(Vb.mono (Vb.nil _ _) hz),(vErr (by decide))⟩
  replace a0:=im a0 t0;refine o_z (Aj rfl (AK (Ae (AD rfl ?_))));replace r0:=r0.st s0;refine AQ (hc:=Blk.cell (i:=0) (r0.1) rfl) rfl (Au rfl (o_z ?_));have o0:=(g0.an h0).an s0;replace d0:=d0.st o0;replace f0:=f0.st o0;obtain ⟨y2,a1,u1,w1,o1⟩:=Reg.shut (x:=x0) (l0:=2) (by decide) k0 d0 e0 f0;obtain rfl:=sm a0;exact show Exists _ from ⟨_,(t2,u2),rfl,⟨rfl,rfl,rfl,trivial⟩,_,((((hB.st y0).st g0).st h0).st s0).st a1,o1,j1.st a1,k2⟩
 rintro z2 a3 ⟨b3,c3,_,_,hE⟩;exact hE.elim
end
section
open Go Go.RowKit
attribute [local irreducible] ewp owp hwp hwq hws Ev Evg Fn T9 V1 U8 U4
attribute [local irreducible] hwx V7
structure Itm where
  cost:Int
  order:Int
  id:Int
instance:Rp Itm where
  isAgg:=true
  size:=3
  R w F cs x:=cs=[.int .i64 x.cost,.int .i64 x.order,.int .i64 x.id]/\T3 x.cost/\T3 x.order/\T3 x.id
  len:=by rintro w F cs x ⟨rfl,h0,h1,h2⟩;rfl
  one:=by rintro w F cs x ⟨rfl,h0,h1,h2⟩ u hu;simp at hu;rcases hu with rfl|rfl|rfl<;>first|rfl|exact Vb.one rfl (by assumption)
  agree:=by rintro w w' F cs x ⟨rfl,h0,h1,h2⟩ ha;exact ⟨rfl,h0,h1,h2⟩
  mono:=by rintro w F G cs x ⟨rfl,h0,h1,h2⟩ ha;exact ⟨rfl,h0,h1,h2⟩
instance:Ec Itm λ e a w O i b o x G=>T3 x.cost->T3 x.order->T3 x.id->Al e (.C i b o [(.int .i64 x.cost),(.int .i64 x.order),(.int .i64 x.id)] :: .V (.agg #[(.int .i64 x.cost),(.int .i64 x.order),(.int .i64 x.id)]) x :: a) w O->G:=⟨λ {_ _ _ _ _ _ _ x _ _} f c hc h k=>by
  have d:=Vb.ofAgg (x:=x) rfl h;obtain ⟨rfl,r1,r2,r3⟩:=h;exact k r1 r2 r3 ⟨⟨c,hc⟩,d,f⟩⟩
instance : TMth prog 77 "Len" 28 false := ⟨by kernel_rfl⟩
instance : TMth prog 77 "Less" 207 false := ⟨by kernel_rfl⟩
instance : TMth prog 77 "Pop" 208 true := ⟨by kernel_rfl⟩
instance : TMth prog 77 "Push" 209 true := ⟨by kernel_rfl⟩
instance : TMth prog 77 "Swap" 210 false := ⟨by kernel_rfl⟩
noncomputable def Cy (a:List Itm):Option Int :=
  some (a.length:Int)
section
attribute [local irreducible] Vb Lc Rw Ob
theorem HI {w:World} {A:Nat->Prop} (hA:∀ k,A k->k < w.heap.size) {a:Value} {b:List Itm} (c:Vb w A a b) {d:Int} (hm:Cy b=some d) :
    Fn prog 28 [a] w λ v w'=>Ext w w'/\Vb w' (upA A w w') v d:=by
 obtain ⟨_,_,_⟩:=CP hA;apply Ct c;intros;refine AH func28 rfl ntmps28 ?_;unfold Cy at hm;refine Ah (Ae (Au rfl (o_z (Ah (Ae (Ar rfl (AT rfl (Au rfl (o_z (AE ?_))))))))));obtain rfl:=sm hm;exact Cb
end
noncomputable def CG (a:List Itm) (b:Int) (c:Int):Option Bool :=
  bnd (bnd (atI a b) λ d=>bnd (atI a c) λ e=>if d.cost < e.cost then (some true) else (bnd (atI a b) λ f=>bnd (atI a c) λ g=>if f.cost=g.cost then (bnd (atI a b) λ h=>bnd (atI a c) λ i=>if h.order < i.order then (some true) else (some false)) else (some false)):Option Bool) λ j=>some j
section
attribute [local irreducible] Vb Lc Rw Ob
theorem Ho {w:World} {A:Nat->Prop} (hA:∀ k,A k->k < w.heap.size) {b:Value} {i:List Itm} (j:Vb w A b i) {c:Int} (l:T3 c) {d:Int} (m:T3 d) {s:Bool} (hm:CG i c d=some s) :
    Fn prog 207 [b,(.int .i64 c),(.int .i64 d)] w λ v w'=>Ext w w'/\Vb w' (upA A w w') v s:=by
 obtain ⟨_,_,_⟩:=CP hA;apply Ct j;intros;refine AH func207 rfl ntmps207 ?_;unfold CG at hm;refine Ah (Ae (Au rfl (o_z (Ah (Ck (X:=Unit) hm [] [] [] [] (λ _ _ e _ t=>(6,.bool e) :: t) (λ _ _ _ _ t=>t) ?_ ?_)))))
 ·intro e a;refine Xn (BL (DX 0 38)) ?_;refine AS rfl rfl (AS rfl rfl ?_);obtain ⟨n,g0,a⟩:=bs a;refine Vm rfl ?_;intros;refine AU rfl rfl (Vl rfl (AS rfl rfl (AS rfl rfl ?_)));obtain ⟨o,i0,a⟩:=bs a;refine Vm rfl ?_;intros;refine AU rfl rfl (Vl rfl (IH rfl rfl rfl (λ f=>?_) λ f=>?_))
  ·replace a:=ip a f;refine AS rfl rfl (Ce rfl rfl rfl (Ce rfl rfl rfl (Ce rfl rfl rfl (Ce rfl rfl rfl (Ce rfl rfl rfl (Ce rfl rfl rfl (Ce rfl rfl rfl (Ce rfl rfl rfl (Ce rfl rfl rfl (Ce rfl rfl rfl (Ce rfl rfl rfl (Ce rfl rfl rfl (Ce rfl rfl rfl (Ce rfl rfl rfl ?_))))))))))))));refine Ce rfl rfl rfl (Ce rfl rfl rfl (Ce rfl rfl rfl (Ce rfl rfl rfl (Ce rfl rfl rfl (Ce rfl rfl rfl (Ce rfl rfl rfl (Ce rfl rfl rfl (Ce rfl rfl rfl (Ce rfl rfl rfl (Ee rfl rfl rfl (Ek rfl rfl (h_z ?_))))))))))));obtain rfl:=sm a;exact AV ()
  replace a:=im a f;refine AS rfl rfl (AB rfl (AA rfl rfl (CE rfl (AB rfl (AA rfl rfl (CE rfl (AB rfl (AA rfl rfl ?_))))))));obtain ⟨p,k0,a⟩:=bs a;refine Sh ?_;intros;refine AB rfl (AA rfl rfl (Dl rfl (AB rfl (AA rfl rfl (Sg (AB rfl (AA rfl rfl (CE rfl (AB rfl (AA rfl rfl (CE rfl (AB rfl (AA rfl rfl ?_)))))))))))));obtain ⟨l0,m0,a⟩:=bs a;refine Sh ?_;intros;refine AB rfl (AA rfl rfl (Dl rfl (AB rfl (AA rfl rfl (Sg (AB rfl (AA rfl rfl (BB (λ _ _=>KK rfl rfl) (λ g=>?_) (λ g=>?_)))))))))
  ·replace a:=ip a g;refine AB rfl (AA rfl rfl (CE rfl (AB rfl (AA rfl rfl (CE rfl (AB rfl (AA rfl rfl (CE rfl (AB rfl (AA rfl rfl ?_))))))))));obtain ⟨q,o0,a⟩:=bs a;refine Sh ?_;intros;refine AB rfl (AA rfl rfl (Dl rfl (AB rfl (AA rfl rfl (Sg (AB rfl (AA rfl rfl (CE rfl (AB rfl (AA rfl rfl (CE rfl (AB rfl (AA rfl rfl ?_)))))))))))));obtain ⟨r,q0,a⟩:=bs a;refine Sh ?_;intros;refine AB rfl (AA rfl rfl (Dl rfl (AB rfl (AA rfl rfl (Sg (AB rfl (AA rfl rfl (BB (λ _ _=>DM rfl rfl) (λ h=>?_) (λ h=>?_)))))))))
   ·replace a:=ip a h;refine AB rfl (AA rfl rfl (QJ rfl rfl rfl (DW rfl rfl rfl (Ek rfl rfl (h_z ?_)))));obtain rfl:=sm a;exact AV ()
   replace a:=im a h;refine AB rfl (AA rfl rfl (QJ rfl rfl rfl (DW rfl rfl rfl (Ek rfl rfl (h_z ?_)))));obtain rfl:=sm a;exact AV ()
  replace a:=im a g;refine AB rfl (AA rfl rfl (CE rfl (Ce rfl rfl rfl (Ce rfl rfl rfl (Ce rfl rfl rfl (Ce rfl rfl rfl (Ce rfl rfl rfl (Ce rfl rfl rfl (Ce rfl rfl rfl (Ce rfl rfl rfl (Ce rfl rfl rfl (Ce rfl rfl rfl (Ce rfl rfl rfl (AB rfl ?_))))))))))))));refine AA rfl rfl (QK rfl rfl rfl (DW rfl rfl rfl (Ek rfl rfl (h_z ?_))));obtain rfl:=sm a;exact AV ()
 intro e _ _ _ _ hm;intros;refine Bu ?_;refine AE ?_;obtain rfl:=sm hm;exact Cb
end
noncomputable def Cn (a:List Itm) (b:Int) (c:Int):Option (List Itm) :=
  bnd (atI a c) λ e=>bnd (atI a b) λ d=>bnd (atI a b) λ f=>bnd (atI (a.set (b:Int).toNat e) c) λ g=>some ((a.set (b:Int).toNat e).set (c:Int).toNat d)
theorem Hp {w:World} {O:Lab} {l:Option Addr} {e m f:Nat} {n:List Itm} (g:Rw f w O 79 (.slice l e m) n) {o:Int} (u:T3 o) {p:Int} (y:T3 p) {N:(List Itm)} (hm:Cn n o p=some N) :
    Fn prog 210 [(.slice l e m),(.int .i64 o),(.int .i64 p)] w λ v w'=>∃ k,St (eT f) w O w' k/\Rw f w' k 79 (.slice l e m) N:=by
 obtain ⟨r,hE,u0,v0⟩:=X9 (w:=w) (O:=O) g.2.2;obtain rfl:e=n.length:=g.len.1;have b:=Rw.leave g u0 v0 (j:=2) (by decide);have s:Bm w r w r:=Bm.refl;refine AH func210 rfl ntmps210 ?_;unfold Cn at hm;refine BT [(13,[2])] r ?_;refine AP (fuel:=5) [] (BL [0,1,4,5,6,7,8,9,10,11,12]) rfl (AS rfl rfl (AS rfl rfl (AS rfl rfl (AS rfl rfl ?_))));obtain ⟨c,e5,hm⟩:=bs hm;obtain ⟨z,x6⟩:=Dz e5;obtain ⟨F,o9,w0,f0,g0,h0,j0,rfl,y0,z0,a1⟩:=b.elemF x6;refine Em (hA:=f0) (hj:=z) (hlt:=h0) rfl rfl rfl (EM (hl:=rfl) (hb:=Aag g0 j0) rfl rfl (AS rfl rfl (AS rfl rfl ?_)));obtain ⟨d,b1,hm⟩:=bs hm;obtain ⟨A,d1⟩:=Dz b1;obtain ⟨G,u1,e1,k0,l0,n0,o0,rfl,f1,g1,h1⟩:=b.elemF d1;refine Em (hA:=k0) (hj:=A) (hlt:=n0) rfl rfl rfl (EM (hl:=rfl) (hb:=Aag l0 o0) rfl rfl ?_);obtain ⟨H,i1,hm⟩:=bs hm;obtain ⟨B,r0⟩:=Dz i1;obtain ⟨I,y1,k1,d0,l1,p0,m1,rfl,z1,a2,b2⟩:=b.elemF r0;refine Em (hA:=d0) (hj:=B) (hlt:=p0) rfl rfl rfl (AC ?_);refine AP (fuel:=3) [2] (BL [2,3]) rfl (AS rfl rfl (AS rfl rfl (AC (AJ (i:=13) rfl ?_))));refine GG rfl b (a:=c) (Vb.ofAgg (cs:=[(.int .i64 c.cost),(.int .i64 c.order),(.int .i64 c.id)]) (x:=c) rfl ⟨rfl,y0,z0,a1⟩) d0 rfl rfl (AO r0) λ J t b=>?_;have C:=t.lst [2] (λ _ h=>by cases h;decide);refine Be [] C ?_;refine AP (fuel:=1) [] [(14,true)] rfl ?_;obtain ⟨K,n1,hm⟩:=bs hm;obtain ⟨D,t0⟩:=Dz n1;obtain ⟨L,f2,p1,e0,q1,q0,r1,rfl,g2,h2,i2⟩:=b.elemF t0;refine Em (hA:=e0) (hj:=D) (hlt:=q0) rfl rfl rfl (AC (AJ (i:=15) rfl ?_));refine GG rfl b (a:=d) (Vb.ofAgg (cs:=[(.int .i64 d.cost),(.int .i64 d.order),(.int .i64 d.id)]) (x:=d) rfl ⟨rfl,f1,g1,h1⟩) e0 rfl rfl (AO t0) λ M E b=>?_;refine BM (Bi ?_);obtain rfl:=sm hm;replace s:=(s.st t).st E;obtain ⟨k,hS',hz,hl⟩:=hE.leave (λ q=>if q=2 then f else 0) rfl s;exact AcQ rfl  ⟨k,hS',(Rw.leave b hz (hl 2 (by decide) (by decide)) g.2.2)⟩
noncomputable def Gd (b:BxR 81 79 Itm) (c:An 79 Itm):Option (BxR 81 79 Itm) :=
  bnd (T5 24 b.l [c.x]) λ a=>some (⟨a⟩:BxR 81 79 Itm)
theorem MK {w:World} {O:Lab} {m f:Nat} {y:BxR 81 79 Itm} (n:Ob f w O (.pointer (some ⟨m,0,none⟩)) y) {d:Value} {a:An 79 Itm} (o:Vb w (Fr 0 w O) d a) {V:(BxR 81 79 Itm)} (hm:Gd y a=some V) :
    Fn prog 209 [(.pointer (some ⟨m,0,none⟩)),d] w λ v w'=>∃ g,St (eT f) w O w' g/\Ob f w' g (.pointer (some ⟨m,0,none⟩)) V:=by
 obtain ⟨p,hE,k0,s0⟩:=X9 (w:=w) (O:=O) n.2;have b:=Ob.leave n k0 s0 (j:=2) (by decide);have r:Bm w p w p:=Bm.refl;replace o:=o.mono k0;obtain ⟨E,rfl,h4⟩:=o.any;obtain ⟨F,rfl,rfl,r6,r7,r8⟩:=h4;refine AH func209 rfl ntmps209 ?_;unfold Gd at hm;refine Ah (Ae (Ar rfl (YC rfl rfl (Ar rfl (BW rfl rfl (BW rfl rfl ?_))))));refine Bw 3 p λ G H I z e=>?_;refine AR e rfl rfl rfl (AY) (allOne) λ J A e=>?_;refine Au rfl (o_z (Ah (Ae (Ar rfl (o_z (Am rfl ?_))))));replace b:=(b.st z).st A;obtain ⟨B,h1,q0,t0,c,d0⟩:=BxR.opn b 2 4 (by decide);obtain ⟨K,j1,rfl⟩:=d0.form;refine BT [(6,[4])] B ?_;refine AP (fuel:=5) [] (BL [1,2,3,4]) rfl (AS rfl rfl (DN rfl rfl (Bc (hc:=By c 0 rfl) rfl rfl ?_)));replace e:=e.st q0;refine EM (hl:=rfl) (hb:=Gy e) rfl rfl (AC ?_);refine AP (fuel:=4) [4] [(0,true)] rfl (AS rfl rfl (AC (AJ (i:=5) rfl ?_)));refine BI 5 B (xs:=([a.x]:List Itm)) rfl rfl rfl ⟨(Vb.ofAgg (cs:=[(.int .i64 a.x.cost),(.int .i64 a.x.order),(.int .i64 a.x.id)]) (x:=a.x) rfl ⟨rfl,r6,r7,r8⟩),trivial⟩ λ L M N k D=>?_;have s:=lZ k;refine Be [(6,[4])] s (AJ (i:=6) rfl ?_);obtain ⟨v0,t,hm⟩:=bs hm;obtain ⟨t,w0,y0⟩:=Bz t;replace d0:=d0.st k;refine Cj rfl d0 (D.rd) rfl rfl w0 y0 λ P Q R S u l=>?_;rw [<- t] at l ⊢;have s:=u.lst [4] (λ _ h=>by cases h;decide);refine Be [] s ?_;refine AP (fuel:=1) [] [(7,true)] rfl (DN rfl rfl (AC (AJ (i:=8) rfl ?_)));replace c:=(c.st k).st u;refine AR c rfl rfl rfl (AY) (allOne) λ T C c=>?_;refine BM (Bi ?_);replace l:=l.st C;obtain ⟨U,z0,a1,b1,c1⟩:=BxR.shut (x:=(⟨v0⟩:BxR 81 79 Itm)) (l0:=2) (by decide) c l;obtain rfl:=sm hm;replace r:=((((((r.st z).st A).st q0).st k).st u).st C).st z0;obtain ⟨g,hS',hz,hl⟩:=hE.leave (λ q=>if q=2 then f else 0) rfl r;exact AcQ rfl  ⟨g,hS',(Ob.leave c1 hz (hl 2 (by decide) (by decide)) n.2)⟩
noncomputable def Gx (b:BxR 81 79 Itm):Option ((An 79 Itm)×(BxR 81 79 Itm)) :=
  bnd (T4 ((b.l.length:Int) - 1)) λ a=>bnd (atI b.l a) λ c=>bnd (Adb b.l 0 a) λ d=>some ((⟨c⟩:An 79 Itm),(⟨d⟩:BxR 81 79 Itm))
theorem Nr {w:World} {O:Lab} {f d:Nat} {p:BxR 81 79 Itm} (g:Ob d w O (.pointer (some ⟨f,0,none⟩)) p) {J:(An 79 Itm)×(BxR 81 79 Itm)} (hm:Gx p=some J) :
    Fn prog 208 [(.pointer (some ⟨f,0,none⟩))] w λ v w'=>∃ b,St (eT d) w O w' b/\Ob d w' b (.pointer (some ⟨f,0,none⟩)) J.2/\Vb w' (Fr 0 w' b) v J.1:=by
 obtain ⟨r,hE,n0,o0⟩:=X9 (w:=w) (O:=O) g.2;have h:=Ob.leave g n0 o0 (j:=2) (by decide);have k:Bm w r w r:=Bm.refl;refine AH func208 rfl ntmps208 ?_;unfold Gx at hm;refine Ah (Ae (Au rfl (o_z (Ah (Ae (Ar rfl (Dr rfl ?_)))))));obtain ⟨s,v6,S3,g1,a,h7⟩:=BxR.opn h 2 3 (by decide);obtain ⟨y,c9,rfl⟩:=h7.form;refine AQ (hc:=Blk.cell (i:=0) (a.1) rfl) rfl (AT rfl ?_);have t:=BK h7.len;have z:=rngNat t;obtain ⟨A,m0,hm⟩:=bs hm;have B:=(BJ m0);refine II (he:=m0) rfl rfl (Au rfl (o_z (Ah (Ae (Ar rfl (Dr rfl (AQ (hc:=Blk.cell (i:=0) (a.1) rfl) rfl (Ar rfl ?_))))))));obtain ⟨e,r0,hm⟩:=bs hm;obtain ⟨u,t0⟩:=Dz r0;obtain ⟨C,l1,u0,d0,e0,f0,rfl,v0,w0,y0⟩:=h7.elem t0;refine CN (hA:=d0) (hj:=u) (hlt:=e0) rfl rfl (BX (hl:=rfl) (hc:=f0) rfl ?_);refine Bw 4 s λ D E F l c=>?_;refine AR c rfl rfl rfl (AY) (allOne) λ G m c=>?_;refine o_z (Ah (Ae (Ar rfl (Ar rfl (Dr rfl ?_)))));replace a:=(a.st l).st m;refine AQ (hc:=Blk.cell (i:=0) (a.1) rfl) rfl (Ar rfl ?_);obtain ⟨z0,a1,hm⟩:=bs hm;replace h7:=(h7.st l).st m;obtain ⟨n,b1⟩:=Ae9 h7 a1;refine Aan (hc:=b1) rfl rfl rfl (Dr rfl ?_);refine AR a rfl rfl rfl (AY) (allOne) λ H o a=>?_;refine o_z (Ah (Ae ?_));replace c:=c.st o;refine BX (hl:=rfl) (hc:=(c.1).cellsAt) rfl (Sf rfl rfl (Au rfl (o_z (AE ?_))));replace n:=n.st o;obtain ⟨I,c1,d1,e1,f1⟩:=BxR.shut (x:=(⟨z0⟩:BxR 81 79 Itm)) (l0:=2) (by decide) a n;obtain rfl:=sm hm;replace k:=((((k.st S3).st l).st m).st o).st c1;obtain ⟨b,hS',hz,hl⟩:=hE.leave (λ q=>if q=2 then d else 0) rfl k;exact U0 rfl (AF rfl) ⟨b,hS',(Ob.leave f1 hz (hl 2 (by decide) (by decide)) g.2),(AdO (Vb.ofAgg (cs:=[(.int .i64 e.cost),(.int .i64 e.order),(.int .i64 e.id)]) (x:=e) rfl ⟨rfl,v0,w0,y0⟩))⟩
noncomputable def Ft (h:BxR 81 79 Itm) (i:Int):Option (BxR 81 79 Itm) :=
  bnd (lop (ρ:=(BxR 81 79 Itm)) (λ (b:Int×(BxR 81 79 Itm))=>bnd (T4 (b.1 - 1)) λ c=>bnd (Acz c 2) λ a=>bnd (if a=b.1 then (some true) else (bnd (CG b.2.l b.1 a) λ d=>if d=true then some false else some true):Option Bool) λ e=>if e=true then (some (.brk (b.1,b.2))) else (bnd (Cn b.2.l a b.1) λ f=>some (.next (a,(⟨f⟩:BxR 81 79 Itm))))) (i,h)) λ res3=>fin res3 λ (g:Int×(BxR 81 79 Itm))=>some g.2
theorem Ns {w:World} {O:Lab} {p0 i0:Nat} {x0:BxR 81 79 Itm} (h0:Ob i0 w O (.pointer (some ⟨p0,0,none⟩)) x0) {x1:Int} (rx1:T3 x1) {r:(BxR 81 79 Itm)} (hm:Ft x0 x1=some r) :
    Fn prog 80 [(.iface 77 (.pointer (some ⟨p0,0,none⟩))),(.int .i64 x1)] w λ v w'=>∃ O',St (eT i0) w O w' O'/\Ob i0 w' O' (.pointer (some ⟨p0,0,none⟩)) r:=by
 obtain ⟨O0,hE,c1,d1⟩:=X9 (w:=w) (O:=O) h0.2;have h0':=Ob.leave h0 c1 d1 (j:=2) (by decide);have hB:Bm w O0 w O0:=Bm.refl;refine AH func80 rfl ntmps80 ?_;unfold Ft at hm;obtain ⟨m0,e1,hm⟩:=bs hm;refine BF (aft m0 (λ (s5:Int×(BxR 81 79 Itm)) (x6:Unit)=>[]) (λ s5 x6 w'=>∃ O':Lab,Bm w O0 w' O'/\Ob 2 w' O' (.pointer (some ⟨p0,0,none⟩)) s5.2/\T3 s5.1)) ?_ ?_
 ·refine Ci (JC (σ:=Int×(BxR 81 79 Itm)) (X:=Unit) e1 (λ (s5:Int×(BxR 81 79 Itm)) (x6:Unit)=>[(0,(.iface 77 (.pointer (some ⟨p0,0,none⟩)))),(1,(.int .i64 s5.1))]) _ (λ s5 x6 w'=>∃ O':Lab,Bm w O0 w' O'/\Ob 2 w' O' (.pointer (some ⟨p0,0,none⟩)) s5.2/\T3 s5.1) _ () ⟨O0,hB,h0',rx1⟩ ⟨rfl,rfl,trivial⟩ ?_);rintro s5 x6 w9 f1 ⟨g2,hB,d0,j0⟩ a0 n0 e0;refine Ci (Ah (Ae (Ar rfl ?_)));obtain ⟨h2,t0,a0⟩:=bs a0;have u0:=(BJ t0);refine II (he:=t0) rfl rfl ?_;obtain ⟨g1,v0,a0⟩:=bs a0;have o0:=Uk v0 u0;refine AbA (he:=v0) (hr:=u0) rfl rfl rfl (Au rfl (o_z (Ah (Ah ?_))));obtain ⟨h1,b0,a0⟩:=bs a0;refine BF (λ l' w'=>∃ (i1:Unit) (O':Lab),T7 l' [(0,(.iface 77 (.pointer (some ⟨p0,0,none⟩)))),(1,(.int .i64 s5.1)),(4,(.int .i64 g1)),(17,(.bool h1))]/\Bm w O0 w' O'/\Ob 2 w' O' (.pointer (some ⟨p0,0,none⟩)) s5.2) ?_ ?_
  ·refine Ae (Ar rfl (Ar rfl (Gw rfl rfl (λ q0=>?_) λ q0=>?_)))
   ·replace b0:=ip b0 q0;refine Ar rfl (Aw rfl rfl (Aw rfl rfl (Aw rfl rfl (Aw rfl rfl (Aw rfl rfl (Bt rfl rfl (o_z ?_)))))));obtain rfl:=sm b0;exact ⟨(),_,⟨rfl,rfl,rfl,rfl,trivial⟩,hB,d0⟩
   replace b0:=im b0 q0;refine Ar rfl (Az rfl rfl (Ar rfl (Az rfl rfl (Ar rfl (Az rfl rfl (Ar rfl (Az rfl rfl ?_)))))));obtain ⟨j1,i2,w0,k1,f0,c0⟩:=BxR.opn d0 2 3 (by decide);obtain ⟨j2,k2,rfl⟩:=c0.form;obtain ⟨y0,l1,b0⟩:=bs b0;refine ND (O:=j1) (A:=All w9) (R:=λ w' F v=>Vb w' F v y0) (Ho (λ _ h=>h) (c0).all j0 o0 l1) (Je (Blk.cell (i:=0) f0.1 rfl)) rfl rfl rfl λ l2 m2 n2 g0 m1=>?_;obtain rfl:=m1.bool;cases y0
   case false =>
    replace b0:=iF b0;refine Az rfl rfl (EF rfl (Bd rfl rfl (o_z ?_)));replace f0:=f0.st g0;replace c0:=c0.st g0;obtain ⟨o2,n1,o1,p1,q1⟩:=BxR.shut (x:=s5.2) (l0:=2) (by decide) f0 c0;obtain rfl:=sm b0;exact ⟨(),_,⟨rfl,rfl,rfl,rfl,trivial⟩,((hB.st w0).st g0).st n1,q1⟩
   replace b0:=iT b0;refine Az rfl rfl (EE rfl (Bd rfl rfl (o_z ?_)));replace f0:=f0.st g0;replace c0:=c0.st g0;obtain ⟨p2,r1,s1,t1,u1⟩:=BxR.shut (x:=s5.2) (l0:=2) (by decide) f0 c0;obtain rfl:=sm b0;exact ⟨(),_,⟨rfl,rfl,rfl,rfl,trivial⟩,((hB.st w0).st g0).st r1,u1⟩
  rintro q2 r2 ⟨i1,s2,r0,hB,d0⟩;refine AX _ r0 ?_;refine BH rfl (λ s0=>?_) (λ s0=>?_)
  ·replace a0:=ip a0 s0;refine Et ?_;obtain rfl:=sm a0;exact show Exists _ from ⟨_,(),e0 _ rfl,trivial,_,hB,d0,j0⟩
  replace a0:=im' a0 s0;refine AK (Ah (Ae (Ar rfl (Ar rfl (Ar rfl ?_)))));obtain ⟨v1,t2,w1,y1,k0,z0⟩:=BxR.opn d0 2 3 (by decide);obtain ⟨u2,v2,rfl⟩:=z0.form;obtain ⟨z1,a2,a0⟩:=bs a0;refine NC (O:=v1) (Hp z0 o0 j0 a2) (Je (Blk.cell (i:=0) k0.1 rfl)) rfl rfl rfl λ w2 x2 y2 a1 b1=>?_;refine o_z (Ae (Ar rfl (Au rfl (o_z ?_))));replace k0:=k0.st a1;obtain ⟨z2,b2,c2,d2,e2⟩:=BxR.shut (x:=(⟨z1⟩:BxR 81 79 Itm)) (l0:=2) (by decide) (by have q:=k0;rw [<- b1.len.1.symm] at q;exact q) b1.relen;obtain rfl:=sm a0;exact show Exists _ from ⟨_,(),rfl,⟨rfl,rfl,trivial⟩,_,((hB.st w1).st a1).st b2,e2,o0⟩
 rintro a3 b3 ⟨c3,d3,rfl,f2,e3,hB,d0,j0⟩;replace hm:=BE hm;obtain rfl:=sm hm;obtain ⟨O',hS',hz,hl⟩:=hE.leave (λ q=>if q=2 then i0 else 0) rfl hB;exact AcQ rfl  ⟨O',hS',(Ob.leave d0 hz (hl 2 (by decide) (by decide)) h0.2)⟩
noncomputable def EK (q:BxR 81 79 Itm) (o:Int) (p:Int):Option (Bool×(BxR 81 79 Itm)) :=
  bnd (lop (ρ:=Bool×(BxR 81 79 Itm)) (λ (b:Int×(BxR 81 79 Itm))=>bnd (T4 (2 * b.1)) λ i=>bnd (T4 (i + 1)) λ a=>bnd (if p<=a then (some true) else (if a < 0 then (some true) else (some false)):Option Bool) λ j=>if j=true then (some (.brk (b.1,b.2))) else (bnd (bnd (T4 (a + 1)) λ d=>bnd (if d < p then (bnd (CG b.2.l d a) λ k=>if k=true then some true else some false) else (some false):Option Bool) λ m=>if m=true then (some d) else (some a):Option Int) λ e=>bnd (CG b.2.l e b.1) λ n=>if n=true then bnd (Cn b.2.l b.1 e) λ f=>some (.next (e,(⟨f⟩:BxR 81 79 Itm))) else some (.brk (b.1,b.2)))) (o,q)) λ g=>fin g λ (c:Int×(BxR 81 79 Itm))=>bnd (if o < c.1 then (some true) else (some false):Option Bool) λ h=>some (h,c.2)
theorem Mk {w:World} {O:Lab} {p0 i0:Nat} {x0:BxR 81 79 Itm} (r0:Ob i0 w O (.pointer (some ⟨p0,0,none⟩)) x0) {x1:Int} (rx1:T3 x1) {x2:Int} (rx2:T3 x2) {r:Bool×(BxR 81 79 Itm)} (hm:EK x0 x1 x2=some r) :
    Fn prog 74 [(.iface 77 (.pointer (some ⟨p0,0,none⟩))),(.int .i64 x1),(.int .i64 x2)] w λ v w'=>∃ O',St (eT i0) w O w' O'/\Ob i0 w' O' (.pointer (some ⟨p0,0,none⟩)) r.2/\Vb w' (Fr 0 w' O') v r.1:=by
 obtain ⟨O0,hE,l2,m2⟩:=X9 (w:=w) (O:=O) r0.2;have r0':=Ob.leave r0 l2 m2 (j:=2) (by decide);have hB:Bm w O0 w O0:=Bm.refl;refine AH func74 rfl ntmps74 ?_;unfold EK at hm;refine Ah (Ae (Au rfl (o_z (Ah (Ae (Ar rfl (Au rfl (o_z (Ah ?_)))))))));obtain ⟨z0,n2,hm⟩:=bs hm;refine BF (aft z0 (λ (s6:Int×(BxR 81 79 Itm)) (x7:Unit)=>[(1,(.int .i64 x1)),(7,(.int .i64 s6.1))]) (λ s6 x7 w'=>∃ O':Lab,Bm w O0 w' O'/\Ob 2 w' O' (.pointer (some ⟨p0,0,none⟩)) s6.2/\T3 s6.1)) ?_ ?_
 ·refine Ci (JC (σ:=Int×(BxR 81 79 Itm)) (X:=Unit) n2 (λ (s6:Int×(BxR 81 79 Itm)) (x7:Unit)=>[(0,(.iface 77 (.pointer (some ⟨p0,0,none⟩)))),(1,(.int .i64 x1)),(2,(.int .i64 x2)),(7,(.int .i64 s6.1))]) _ (λ s6 x7 w'=>∃ O':Lab,Bm w O0 w' O'/\Ob 2 w' O' (.pointer (some ⟨p0,0,none⟩)) s6.2/\T3 s6.1) _ () ⟨O0,hB,r0',rx1⟩ ⟨rfl,rfl,rfl,rfl,trivial⟩ ?_);rintro s6 x7 a4 o2 ⟨b4,hB,g0,s0⟩ a0 a1 h0;refine Ci (Ah (Ae (Ar rfl ?_)));obtain ⟨c4,v1,a0⟩:=bs a0;have d4:=(BJ v1);refine JL (he:=v1) rfl rfl ?_;obtain ⟨w1,y1,a0⟩:=bs a0;have z1:=(BJ y1);refine DD (he:=y1) rfl rfl (Au rfl (o_z (Ah (Ah ?_))));obtain ⟨p2,c0,a0⟩:=bs a0;refine BF (λ l' w'=>∃ (q2:Unit) (O':Lab),T7 l' [(0,(.iface 77 (.pointer (some ⟨p0,0,none⟩)))),(1,(.int .i64 x1)),(2,(.int .i64 x2)),(7,(.int .i64 s6.1)),(8,(.int .i64 w1)),(21,(.bool p2))]/\Bm w O0 w' O'/\Ob 2 w' O' (.pointer (some ⟨p0,0,none⟩)) s6.2) ?_ ?_
  ·refine Ae (Ar rfl (Ar rfl (ER rfl rfl (λ b1=>?_) λ b1=>?_)))
   ·replace c0:=ip c0 b1;refine Ar rfl (Aw rfl rfl (Aw rfl rfl (Bt rfl rfl (o_z ?_))));obtain rfl:=sm c0;exact ⟨(),_,⟨rfl,rfl,rfl,rfl,rfl,rfl,trivial⟩,hB,g0⟩
   replace c0:=im c0 b1;refine Ar rfl (Az rfl rfl (Ar rfl (Az rfl rfl (Eb rfl rfl (λ c1=>?_) λ c1=>?_))))
   ·replace c0:=ip c0 c1;refine Bd rfl rfl (o_z ?_);obtain rfl:=sm c0;exact ⟨(),_,⟨rfl,rfl,rfl,rfl,rfl,rfl,trivial⟩,hB,g0⟩
   replace c0:=im c0 c1;refine Bd rfl rfl (o_z ?_);obtain rfl:=sm c0;exact ⟨(),_,⟨rfl,rfl,rfl,rfl,rfl,rfl,trivial⟩,hB,g0⟩
  rintro e4 r2 ⟨q2,f4,d1,hB,g0⟩;refine AX _ d1 ?_;refine BH rfl (λ e1=>?_) (λ e1=>?_)
  ·replace a0:=ip a0 e1;refine Et ?_;obtain rfl:=sm a0;exact show Exists _ from ⟨_,(),h0 _ rfl,⟨rfl,rfl,trivial⟩,_,hB,g0,s0⟩
  replace a0:=im' a0 e1;refine AK (Ah (Ae (Ar rfl (Au rfl (o_z (Ah ?_))))));obtain ⟨a2,d0,a0⟩:=bs a0;refine BF (λ l' w'=>∃ (s2:Unit) (O':Lab),T7 l' [(0,(.iface 77 (.pointer (some ⟨p0,0,none⟩)))),(1,(.int .i64 x1)),(2,(.int .i64 x2)),(7,(.int .i64 s6.1)),(9,(.int .i64 a2))]/\Bm w O0 w' O'/\Ob 2 w' O' (.pointer (some ⟨p0,0,none⟩)) s6.2/\T3 a2) ?_ ?_
  ·refine Ah (Ae (Ar rfl ?_));obtain ⟨t2,b2,d0⟩:=bs d0;have c2:=(BJ b2);refine DD (he:=b2) rfl rfl (Au rfl (o_z (Ah ?_)));obtain ⟨u2,b0,d0⟩:=bs d0;refine BF (λ l' w'=>∃ (v2:Unit) (O':Lab),T7 l' [(0,(.iface 77 (.pointer (some ⟨p0,0,none⟩)))),(1,(.int .i64 x1)),(2,(.int .i64 x2)),(7,(.int .i64 s6.1)),(9,(.int .i64 w1)),(10,(.int .i64 t2)),(33,(.bool u2))]/\Bm w O0 w' O'/\Ob 2 w' O' (.pointer (some ⟨p0,0,none⟩)) s6.2) ?_ ?_
   ·refine Ae (Ar rfl (Ar rfl (Eb rfl rfl (λ f1=>?_) λ f1=>?_)))
    ·replace b0:=ip b0 f1;refine Ar rfl (Az rfl rfl (Ar rfl (Az rfl rfl (Ar rfl (Az rfl rfl (Ar rfl (Az rfl rfl ?_)))))));obtain ⟨w2,g4,d2,y2,n0,k0⟩:=BxR.opn g0 2 3 (by decide);obtain ⟨h4,i4,rfl⟩:=k0.form;obtain ⟨e2,z2,b0⟩:=bs b0;refine ND (O:=w2) (A:=All r2) (R:=λ w' F v=>Vb w' F v e2) (Ho (λ _ h=>h) (k0).all c2 z1 z2) (Je (Blk.cell (i:=0) n0.1 rfl)) rfl rfl rfl λ j4 k4 l4 q0 y0=>?_;obtain rfl:=y0.bool;cases e2
     case false =>
      replace b0:=iF b0;refine Bt rfl rfl (o_z ?_);replace n0:=n0.st q0;replace k0:=k0.st q0;obtain ⟨m4,a3,b3,c3,d3⟩:=BxR.shut (x:=s6.2) (l0:=2) (by decide) n0 k0;obtain rfl:=sm b0;exact ⟨(),_,⟨rfl,rfl,rfl,rfl,rfl,rfl,rfl,trivial⟩,((hB.st d2).st q0).st a3,d3⟩
     replace b0:=iT b0;refine Bt rfl rfl (o_z ?_);replace n0:=n0.st q0;replace k0:=k0.st q0;obtain ⟨n4,e3,f3,g3,h3⟩:=BxR.shut (x:=s6.2) (l0:=2) (by decide) n0 k0;obtain rfl:=sm b0;exact ⟨(),_,⟨rfl,rfl,rfl,rfl,rfl,rfl,rfl,trivial⟩,((hB.st d2).st q0).st e3,h3⟩
    replace b0:=im b0 f1;refine Ar rfl (Aw rfl rfl (Aw rfl rfl (Aw rfl rfl (Aw rfl rfl (Bd rfl rfl (o_z ?_))))));obtain rfl:=sm b0;exact ⟨(),_,⟨rfl,rfl,rfl,rfl,rfl,rfl,rfl,trivial⟩,hB,g0⟩
   rintro o4 p4 ⟨v2,q4,g1,hB,y0⟩;refine AX _ g1 ?_;refine BH rfl (λ h1=>?_) (λ h1=>?_)
   ·replace d0:=ip d0 h1;refine Ae (Ar rfl (Au rfl (o_z ?_)));obtain rfl:=sm d0;exact ⟨(),_,⟨rfl,rfl,rfl,rfl,rfl,trivial⟩,hB,y0,c2⟩
   replace d0:=im' d0 h1;refine AK ?_;obtain rfl:=sm d0;exact ⟨(),_,⟨rfl,rfl,rfl,rfl,rfl,trivial⟩,hB,y0,z1⟩
  rintro r4 i3 ⟨s2,s4,i1,hB,j3,j1⟩;refine AX _ i1 ?_;refine Ah (Ah (Ae (Ar rfl (Ar rfl (Ar rfl ?_)))));obtain ⟨k3,t4,f2,l3,j0,m0⟩:=BxR.opn j3 2 3 (by decide);obtain ⟨u4,v4,rfl⟩:=m0.form;obtain ⟨g2,m3,a0⟩:=bs a0;refine ND (O:=k3) (A:=All i3) (R:=λ w' F v=>Vb w' F v g2) (Ho (λ _ h=>h) (m0).all j1 s0 m3) (Je (Blk.cell (i:=0) j0.1 rfl)) rfl rfl rfl λ n3 w4 k1 f0 l1=>?_;obtain rfl:=l1.bool;cases g2
  case false =>
   replace a0:=iF a0;refine EF rfl (o_z (Am rfl (Et ?_)));replace j0:=j0.st f0;replace m0:=m0.st f0;obtain ⟨o3,m1,h2,i2,n1⟩:=BxR.shut (x:=s6.2) (l0:=2) (by decide) j0 m0;obtain rfl:=sm a0;exact show Exists _ from ⟨_,(),h0 _ rfl,⟨rfl,rfl,trivial⟩,_,((hB.st f2).st f0).st m1,n1,s0⟩
  replace a0:=iT a0;refine EE rfl (o_z (Aj rfl (AK (Ah (Ae (Ar rfl (Ar rfl (Ar rfl ?_))))))));obtain ⟨o1,p1,a0⟩:=bs a0;replace j0:=j0.st f0;replace m0:=m0.st f0;refine NC (O:=k1) (Hp m0 s0 j1 p1) (Je (Blk.cell (i:=0) j0.1 rfl)) rfl rfl rfl λ p3 q3 r3 t0 u0=>?_;refine o_z (Ae (Ar rfl (Au rfl (o_z ?_))));replace j0:=j0.st t0;obtain ⟨s3,q1,j2,k2,r1⟩:=BxR.shut (x:=(⟨o1⟩:BxR 81 79 Itm)) (l0:=2) (by decide) (by have q:=j0;rw [<- u0.len.1.symm] at q;exact q) u0.relen;obtain rfl:=sm a0;exact show Exists _ from ⟨_,(),rfl,⟨rfl,rfl,rfl,rfl,trivial⟩,_,(((hB.st f2).st f0).st t0).st q1,r1,j1⟩
 rintro t3 u3 ⟨s1,v3,rfl,v0,w3,hB,g0,s0⟩;replace hm:=BE hm;refine AX _ v0 ?_;refine Ah ?_;obtain ⟨t1,e0,hm⟩:=bs hm;refine BF (λ l' w'=>∃ (u1:Unit) (O':Lab),T7 l' [(6,(.bool t1))]/\Bm w O0 w' O'/\Ob 2 w' O' (.pointer (some ⟨p0,0,none⟩)) s1.2) ?_ ?_
 ·refine Ae (Ar rfl (Ar rfl (Cw rfl rfl (λ o0=>?_) λ o0=>?_)))
  ·replace e0:=ip e0 o0;refine Au rfl (o_z ?_);obtain rfl:=sm e0;exact ⟨(),_,⟨rfl,trivial⟩,hB,g0⟩
  replace e0:=im e0 o0;refine Au rfl (o_z ?_);obtain rfl:=sm e0;exact ⟨(),_,⟨rfl,trivial⟩,hB,g0⟩
 rintro x3 y3 ⟨u1,z3,w0,hB,g0⟩;refine AX _ w0 ?_;refine AE ?_;obtain rfl:=sm hm;obtain ⟨O',hS',hz,hl⟩:=hE.leave (λ q=>if q=2 then i0 else 0) rfl hB;exact U0 rfl (AF rfl) ⟨O',hS',(Ob.leave g0 hz (hl 2 (by decide) (by decide)) r0.2),vBool⟩
noncomputable def DZ (e:BxR 81 79 Itm) (f:An 79 Itm):Option (BxR 81 79 Itm) :=
  bnd (Gd e (⟨f.x⟩:An 79 Itm)) λ d=>bnd (Cy d.l) λ a=>bnd (T4 (a - 1)) λ b=>bnd (Ft d b) λ c=>some c
theorem Ml {w:World} {O:Lab} {e c:Nat} {o:BxR 81 79 Itm} (f:Ob c w O (.pointer (some ⟨e,0,none⟩)) o) {b:Value} {a:An 79 Itm} (g:Vb w (Fr 0 w O) b a) {U:(BxR 81 79 Itm)} (hm:DZ o a=some U) :
    Fn prog 37 [(.iface 77 (.pointer (some ⟨e,0,none⟩))),b] w λ v w'=>∃ d,St (eT c) w O w' d/\Ob c w' d (.pointer (some ⟨e,0,none⟩)) U:=by
 obtain ⟨k,hE,f0,h0⟩:=X9 (w:=w) (O:=O) f.2;have l:=Ob.leave f f0 h0 (j:=2) (by decide);have m:Bm w k w k:=Bm.refl;replace g:=g.mono f0;obtain ⟨E,rfl,h4⟩:=g.any;obtain ⟨G,rfl,rfl,r6,r7,r8⟩:=h4;refine AH func37 rfl ntmps37 ?_;unfold DZ at hm;refine Ah (Ae (Ar rfl (Ar rfl ?_)));obtain ⟨p,j0,hm⟩:=bs hm;refine NC (O:=k) (MK l (AdO (Vb.ofAgg (cs:=[(.int .i64 a.x.cost),(.int .i64 a.x.order),(.int .i64 a.x.id)]) (x:=a.x) rfl ⟨rfl,r6,r7,r8⟩)) j0) Ui rfl rfl rfl λ H r I s t=>?_;refine o_z (Ae (Ar rfl (Ar rfl ?_)));obtain ⟨u,i1,q0,r0,c0,b0⟩:=BxR.opn t 2 3 (by decide);obtain ⟨J,k1,rfl⟩:=b0.form;obtain ⟨y,t0,hm⟩:=bs hm;refine ND (O:=u) (A:=All r) (R:=λ w' F v=>Vb w' F v y) (HI (λ _ h=>h) (b0).all t0) (Je (Blk.cell (i:=0) c0.1 rfl)) rfl rfl rfl λ K L M n z=>?_;obtain ⟨rfl,o1⟩:=z.int;obtain ⟨N,g0,hm⟩:=bs hm;have v0:=(BJ g0);refine II (he:=g0) rfl rfl ?_;replace c0:=c0.st n;replace b0:=b0.st n;obtain ⟨B,y0,z0,a1,b1⟩:=BxR.shut (x:=p) (l0:=2) (by decide) c0 b0;obtain ⟨P,c1,hm⟩:=bs hm;refine Dm (O:=B) (Ns b1 v0 c1) rfl λ Q S T C D=>?_;refine o_z ?_;obtain rfl:=sm hm;replace m:=((((m.st s).st q0).st n).st y0).st C;obtain ⟨d,hS',hz,hl⟩:=hE.leave (λ q=>if q=2 then c else 0) rfl m;exact AcQ rfl  ⟨d,hS',(Ob.leave D hz (hl 2 (by decide) (by decide)) f.2)⟩
noncomputable def Es (f:BxR 81 79 Itm):Option ((An 79 Itm)×(BxR 81 79 Itm)) :=
  bnd (Cy f.l) λ c=>bnd (T4 (c - 1)) λ a=>bnd (Cn f.l 0 a) λ d=>bnd (EK (⟨d⟩:BxR 81 79 Itm) 0 a) λ e=>bnd (Gx e.2) λ b=>some ((⟨b.1.x⟩:An 79 Itm),b.2)
theorem ML {w:World} {O:Lab} {d b:Nat} {l:BxR 81 79 Itm} (e:Ob b w O (.pointer (some ⟨d,0,none⟩)) l) {Z:(An 79 Itm)×(BxR 81 79 Itm)} (hm:Es l=some Z) :
    Fn prog 29 [(.iface 77 (.pointer (some ⟨d,0,none⟩)))] w λ v w'=>∃ a,St (eT b) w O w' a/\Ob b w' a (.pointer (some ⟨d,0,none⟩)) Z.2/\Vb w' (Fr 0 w' a) v Z.1:=by
 obtain ⟨m,hE,h0,j0⟩:=X9 (w:=w) (O:=O) e.2;have f:=Ob.leave e h0 j0 (j:=2) (by decide);have g:Bm w m w m:=Bm.refl;refine AH func29 rfl ntmps29 ?_;unfold Es at hm;refine Ah (Ae (Au rfl (o_z (Ah (Ae (Ar rfl ?_))))));obtain ⟨r,v6,S3,o1,h4,h7⟩:=BxR.opn f 2 3 (by decide);obtain ⟨I,c9,rfl⟩:=h7.form;obtain ⟨s,m0,hm⟩:=bs hm;refine ND (O:=r) (A:=All w) (R:=λ w' F v=>Vb w' F v s) (HI (λ _ h=>h) (h7).all m0) (Je (Blk.cell (i:=0) h4.1 rfl)) rfl rfl rfl λ J K t k u=>?_;obtain ⟨rfl,r1⟩:=u.int;obtain ⟨L,d0,hm⟩:=bs hm;have n:=(BJ d0);refine II (he:=d0) rfl rfl (Au rfl (o_z (Ah (Ae (Ar rfl (Ar rfl ?_))))));obtain ⟨y,r0,hm⟩:=bs hm;replace h4:=h4.st k;replace h7:=h7.st k;refine NC (O:=t) (Hp h7 (T8 0) n r0) (Je (Blk.cell (i:=0) h4.1 rfl)) rfl rfl rfl λ M N P o p=>?_;refine o_z (Ah (Ae (Ar rfl (Ar rfl ?_))));replace h4:=h4.st o;obtain ⟨z,t0,u0,v0,w0⟩:=BxR.shut (x:=(⟨y⟩:BxR 81 79 Itm)) (l0:=2) (by decide) (by have q:=h4;rw [<- p.len.1.symm] at q;exact q) p.relen;obtain ⟨Q,y0,hm⟩:=bs hm;refine Dm (O:=z) (Mk w0 (T8 0) n y0) rfl λ S T z0 B C=>?_;obtain ⟨D,d1⟩:=C;obtain rfl:=d1.bool;refine o_z (Ah (Ae (Ar rfl ?_)));obtain ⟨c,e1,hm⟩:=bs hm;refine NC (O:=z0) (Nr D e1) Ui rfl rfl rfl λ U V W E G=>?_;obtain ⟨H,i1⟩:=G;obtain ⟨X,rfl,j1⟩:=i1.any;obtain ⟨Y,rfl,rfl,l1,m1,n1⟩:=j1;refine Au rfl (o_z (AE ?_));obtain rfl:=sm hm;replace g:=(((((g.st S3).st k).st o).st t0).st B).st E;obtain ⟨a,hS',hz,hl⟩:=hE.leave (λ q=>if q=2 then b else 0) rfl g;exact U0 rfl (AF rfl) ⟨a,hS',(Ob.leave H hz (hl 2 (by decide) (by decide)) e.2),(AdO (Vb.ofAgg (cs:=[(.int .i64 c.1.x.cost),(.int .i64 c.1.x.order),(.int .i64 c.1.x.id)]) (x:=c.1.x) rfl ⟨rfl,l1,m1,n1⟩))⟩
end
section
open Go Go.RowKit
def effsOn (s:List Int):List Eff->List Int->List Int
  | [],a=>a
  | e :: r,a=>effsOn s r (if holdsB e.cond s=true then a.set e.var.toNat e.val else a)
theorem Ng (s:List Int):∀ (a b:List Eff) (c:List Int),effsOn s (a ++ b) c=effsOn s b (effsOn s a c)
  | [],_,_=>rfl
  | e :: a,b,c=>by simp [effsOn,Ng s a b]
theorem Nh (s:List Int):∀ (a:List Eff) (b:List Int),(effsOn s a b).length=b.length
  | [],_=>rfl
  | e :: a,b=>by
    rw [effsOn,Nh s a];split<;>simp
theorem TW (s:List Int) {l:List Eff} {k:Nat} {e:Eff} (h:l[k]?=some e) (a:List Int):effsOn s (l.take (k + 1)) a=if holdsB e.cond s=true then (effsOn s (l.take k) a).set e.var.toNat e.val else effsOn s (l.take k) a:=by
  rw [K4,h,Ng];rfl
def Adt (s:List Int) (l:List Eff):Prop:=∀ (i:Nat) e,l[i]?=some e->0<=e.var/\e.var < s.length
def succ (o:Opr) (s:List Int):List Int:=effsOn s o.effs s
end
section
open Go Go.RowKit
attribute [local irreducible] ewp owp hwp hwq hws Ev Evg Fn T9 V1 U8 U4
theorem Aec {w:World} {sv:Value} {xs:List Int} (hs:V w sv xs) (hl:xs.length * 8<=140737488355328) :
    Fn prog 57 [sv] w λ v w'=>Own w' w.heap.size (All w) 3 v xs/\Ext w w':=by
  obtain ⟨A,c,rfl⟩:=hs.form;refine AH func57 rfl ntmps57 ?_;cases A with
  | none =>
    have e:xs=[]:=by
      cases xs with
      | nil=>rfl
      | cons x xs=>obtain ⟨_,_,_,h,_⟩:=hs.elem (k:=0) (x:=x) rfl;cases h
    subst e;refine ax ?_<;>refine ad ?_;exact U2 rfl rfl ⟨Own.nil _ _ _ _,T0 _ _⟩
  | some j =>
    refine ax ?_<;>refine aa ?_;refine GF rfl rfl rfl (by simp) rfl λ f d=>?_;have b:=d.ext;have a:Own f w.heap.size (All w) 3 (.slice (some ⟨w.heap.size,0,none⟩) 0 0) ([]:List Int):=Own.made d rfl rfl (Q2 _) (by decide);refine ab ?_;refine LI rfl rfl rfl a (λ k hk=>I6 hk b.size) b.size (Vb.agree hs (b.agree λ _ h=>h)) (by simpa using hl) (by simp;omega) rfl λ l m g i=>?_;refine ac ?_;refine aa ?_;refine U2 rfl rfl ⟨by simpa using g,b.trans (a.fits (R7 _) b.size i)⟩
theorem AdG {w:World} {sv:Value} {xs:List Fct} (hs:V w sv xs) (hl:xs.length * 16<=140737488355328) :
    Fn prog 19 [sv] w λ v w'=>Own w' w.heap.size (All w) 61 v xs/\Ext w w':=by
  obtain ⟨A,c,rfl⟩:=hs.form;refine AH func19 rfl ntmps19 ?_;cases A with
  | none =>
    have e:xs=[]:=by
      cases xs with
      | nil=>rfl
      | cons x xs=>obtain ⟨_,_,_,h,_⟩:=hs.elem (k:=0) (x:=x) rfl;cases h
    subst e;refine ax ?_<;>refine ad ?_;exact U2 rfl rfl ⟨Own.nil _ _ _ _,T0 _ _⟩
  | some j =>
    refine ax ?_<;>refine aa ?_;refine GF rfl rfl rfl (by simp) rfl λ f d=>?_;have b:=d.ext;have a:Own f w.heap.size (All w) 61 (.slice (some ⟨w.heap.size,0,none⟩) 0 0) ([]:List Fct):=Own.made d rfl rfl (Q2 _) (by decide);refine ab ?_;refine LI rfl rfl rfl a (λ k hk=>I6 hk b.size) b.size (Vb.agree hs (b.agree λ _ h=>h)) (by simpa using hl) (by simp;omega) rfl λ l m g i=>?_;refine ac ?_;refine aa ?_;refine U2 rfl rfl ⟨by simpa using g,b.trans (a.fits (R7 _) b.size i)⟩
def AcN (t:Tsk) (s:List Int) (k:Nat):List Int:=((List.range k).filter λ i=>match t.ops[i]? with|some o=>holdsB o.pre s|none=>false).map λ i:Nat=>(i:Int)
def X2 (t:Tsk) (s:List Int):List Int:=AcN t s t.ops.length
theorem WA (t:Tsk) (s:List Int) (k:Nat):(AcN t s k).length<=k:=by
  unfold AcN;rw [P6];exact R2 (F6 _ _) (by simp)
end
section
open Go Go.RowKit
attribute [local irreducible] ewp owp hwp hwq hws Ev Evg Fn T9 V1 U8 U4
inductive Tr where
  | nil
  | leaf (ops:List Int)
  | node (nx many:Nat) (vals:Nat->Tr) (rest:Tr)
def TrR (w:World) (F:Nat->Prop):Tr->Value->Prop
  | .nil,p=>p=.pointer none
  | .leaf ops,p=>∃ g e,p=.pointer (some ⟨g,0,none⟩)/\F g/\Blk w g 238 [e,.bool true,.int .i64 0,.slice none 0 0,.pointer none]/\Vb w F e ops
  | .node h k a d,p=>∃ g A c f,p=.pointer (some ⟨g,0,none⟩)/\F g/\Blk w g 238 [.slice none 0 0,.bool false,.int .i64 (h:Int),.slice A k c,.pointer f]/\TrR w F d (.pointer f) /\
      ∀ i,i < k->∃ b o q,A=some ⟨b,o,none⟩/\F b/\w.cell? ⟨b,o + i,none⟩=some (.pointer q)/\TrR w F (a i) (.pointer q)
theorem TrR.agree {w w':World} {F:Nat->Prop} (a:Agree F w w'):∀ {T:Tr} {p:Value},TrR w F T p->TrR w' F T p
  | .nil,_,h=>h
  | .leaf ops,_,⟨g,ov,h1,h2,h3,h4⟩=>⟨g,ov,h1,h2,h3.keep (a g h2),h4.agree a⟩
  | .node f k d e,_,⟨g,A,c,rp,h1,h2,h3,h4,h5⟩=>⟨g,A,c,rp,h1,h2,h3.keep (a g h2),TrR.agree a h4,λ i hi=>by
      obtain ⟨b,o,q,g1,g2,g3,g4⟩:=h5 i hi;exact ⟨b,o,q,g1,g2,(a.cell g2).trans g3,TrR.agree a g4⟩⟩
theorem TrR.mono {w:World} {F G:Nat->Prop} (hk:∀ k,F k->G k):∀ {T:Tr} {p:Value},TrR w F T p->TrR w G T p
  | .nil,_,h=>h
  | .leaf ops,_,⟨g,ov,h1,h2,h3,h4⟩=>⟨g,ov,h1,hk _ h2,h3,h4.mono hk⟩
  | .node e k a d,_,⟨g,A,c,rp,h1,h2,h3,h4,h5⟩=>⟨g,A,c,rp,h1,hk _ h2,h3,TrR.mono hk h4,λ i hi=>by
      obtain ⟨b,o,q,g1,g2,g3,g4⟩:=h5 i hi;exact ⟨b,o,q,g1,hk _ g2,g3,TrR.mono hk g4⟩⟩
theorem TrR.form {w:World} {F:Nat->Prop}:∀ {T:Tr} {p:Value},TrR w F T p->∃ q,p=.pointer q
  | .nil,_,h=>⟨none,h⟩
  | .leaf _,_,⟨_,_,h,_⟩=>⟨_,h⟩
  | .node ..,_,⟨_,_,_,_,h,_⟩=>⟨_,h⟩
def atN (s:List Int) (i:Nat):Nat:=(s[i]?.getD 0).toNat
def Y3 (s:List Int):Tr->List Int
  | .nil=>[]
  | .leaf ops=>ops
  | .node c _ a b=>Y3 s (a (atN s c)) ++ Y3 s b
def Ab7 (s:List Int):Tr->List Bool->List Bool
  | .nil,l=>l
  | .leaf _,l=>l
  | .node c _ a b,l=>Ab7 s b (Ab7 s (a (atN s c)) (l.set c true))
def AcW (s:List Int):Tr->Prop
  | .nil=>True
  | .leaf _=>True
  | .node c k a b=>(∃ x:Nat,s[c]?=some (x:Int)/\x < k)/\AcW s (a (atN s c))/\AcW s b
theorem JO (s:List Int):∀ (T:Tr) (l:List Bool),(Ab7 s T l).length=l.length
  | .nil,_=>rfl
  | .leaf _,_=>rfl
  | .node c k a b,l=>by rw [Ab7,JO s b,JO s (a _)];simp
theorem Own.own_ne {α e:Type} [Rp α] [Rp e] {w:World} {m n:Nat} {F G:Nat->Prop} {f i:TypeId} {u v:Value} {xs:List α} {ys:List e} (h:Own w m F f u xs) (k:Own w n G i v ys) (b:f≠i):∀ g,u.ownBlock=some g->v.ownBlock≠some g:=by
  intro g j l;obtain ⟨t,o,_⟩:=h;obtain ⟨x,p,_⟩:=k;rcases o.2 with ⟨rfl,_⟩|⟨q,cap1,cur1,rfl,_,hh1,_⟩
  . simp [Value.ownBlock] at j
  . rcases p.2 with ⟨rfl,_⟩|⟨r,cap2,cur2,rfl,_,a,_⟩
    . simp [Value.ownBlock] at l
    . have c:q=g:=(by simpa [Value.ownBlock] using j);have d:r=g:=(by simpa [Value.ownBlock] using l);subst c;subst d;rw [hh1] at a;injection a with a;injection a with _ s;exact b s
theorem Own.kept {α:Type} [Rp α] {w w':World} {base:Nat} {F:Nat->Prop} {e:TypeId} {v u:Value} {xs:List α} (h:Own w base F e v xs) (b:Kept w w' u) (c:∀ k,F k->k < w.heap.size/\u.ownBlock≠some k) (a:∀ g,v.ownBlock=some g->u.ownBlock≠some g):Own w' base F e v xs :=
  h.agree (λ k hk=>b.block k (c k hk).1 (c k hk).2) λ g d=>b.block g (h.lt g d).2 (a g d)
theorem bq {G H:Prop} (g:H) (h:Wr0 H->G:=by intro x;refine DN rfl rfl ?_;refine AU rfl rfl ?_;exact x.o):G:=h ⟨g⟩
theorem am {G H:Prop} (g:H) (h:Wr0 H->G:=by intro x;(first|refine Hj rfl rfl ?_|refine Bc rfl rfl ?_);exact x.o):G:=h ⟨g⟩
theorem bz {G H:Prop} (g:H) (h:Wr0 H->G:=by intro x;refine ah ?_;refine bq ?_;refine am ?_;exact x.o):G:=h ⟨g⟩
theorem AeF (B:Nat) (s:List Int):∀ (T:Tr) (w:World) (p ov sv lv:Value) (out:List Int) (looked:List Bool),B<=w.heap.size->TrR w (· < B) T p->Vb w (· < B) sv s->Own w B (· < B) 3 ov out->Own w B (· < B) 4 lv looked ->
    AcW s T->looked.length=s.length->out.length + (Y3 s T).length<=1000000 ->
    Fn prog 140 [p,ov,sv,lv] w λ v w'=>Own w' B (· < B) 3 v (out ++ Y3 s T)/\Own w' B (· < B) 4 lv (Ab7 s T looked)/\Below B w w':=by
  intro T
  induction T with
  | nil =>
    intro w p ov sv lv out looked hB hT hs ho hl _ _ hlen;have hp:p=.pointer none:=hT;subst hp;refine AH func140 rfl ntmps140 ?_;refine ap ?_<;>refine Kg rfl ?_<;>refine o_z ?_<;>refine al ?_;exact U2 rfl rfl ⟨by simpa [Y3] using ho,hl,T0 _ _⟩
  | leaf ops =>
    intro w p ov sv lv out looked hB hT hs ho hl _ _ hlen;obtain ⟨g,opv',rfl,hg,hb1,hops⟩:=hT;refine AH func140 rfl ntmps140 ?_;refine ap ?_<;>refine Kg rfl ?_<;>refine o_z ?_<;>refine af ?_<;>refine Dr rfl ?_<;>refine ae ?_<;>refine o_z ?_<;>refine af ?_<;>refine ab ?_<;>refine Dr rfl ?_<;>refine ae ?_<;>refine aa ?_;simp only [Y3] at hlen;refine LI rfl rfl rfl ho (λ k hk=>I6 hk hB) hB hops (by omega) (by omega) rfl λ v' w1 ho1 hK=>?_;refine ac ?_;refine aa ?_;refine U2 rfl rfl ⟨ho1,?_,ho.fits (R7 _) hB hK⟩;exact hl.kept hK (λ k hk=>⟨I6 hk hB,λ he=>by have:=(ho.lt k he).1;have:k < B:=hk;omega⟩) (λ g hg=>hl.own_ne ho (by decide) g hg)
  | node nx k vals rest ih1 ih2 =>
    intro w p ov sv lv out looked hB hT hs ho hl hfit hll hlen;obtain ⟨g,A,c,rp,rfl,hg,hb1,hrest,hvals⟩:=hT;obtain ⟨⟨x,hx,hxk⟩,hfit1,hfit2⟩:=hfit;obtain ⟨bv,ovv,q,rfl,hbv,hcv,hq⟩:=hvals x hxk;obtain ⟨As,cs,rfl⟩:=hs.form;obtain ⟨bs,os,ce,rfl,hbs,_,hds,rfl,_⟩:=hs.elem hx;have hnx:=CF hx;have hat:atN s nx=x:=(by simp [atN,hx]);obtain ⟨gl,capl,_,_,rfl,_⟩:=hl.open (by omega);refine AH func140 rfl ntmps140 ?_;have hll':nx < looked.length:=(by omega);refine ap ?_<;>refine Kg rfl ?_<;>refine o_z ?_<;>refine af ?_<;>refine Dr rfl ?_<;>refine ae ?_<;>refine o_z ?_<;>refine af ?_<;>refine ab ?_<;>refine Dr rfl ?_<;>refine ae ?_<;>refine FF rfl rfl ?_<;>refine aa ?_;refine OU (i:=nx) (a:=true) rfl rfl rfl hl hll' (show Vb w (· < B) (.bool true) true from rfl) λ w1 hl1 hK1 hz1=>?_;have hB1:Below B w w1:=hl.fits (R7 _) hB hK1;have ho1:Own w1 B (· < B) 3 ov out:=ho.kept hK1 (λ k hk=>⟨I6 hk hB,λ he=>by have:=(hl.lt k he).1;have:k < B:=hk;omega⟩) (λ g hg=>ho.own_ne hl (by decide) g hg);refine o_z ?_;refine aa ?_;have hag:∀ w',Below B w1 w'->Agree (· < B) w w':=λ w' h k hk=>(hB1.trans h).block k hk;replace hb1:∀ w',Below B w1 w'->Blk w' g 238 [.slice none 0 0,.bool false,.int .i64 (nx:Int),.slice (some ⟨bv,ovv,none⟩) k c,.pointer rp]:=λ w' h=>hb1.keep (hag w' h g hg);have hd1:∀ w',Below B w1 w'->cellsAt w' bs (os + nx * 1) [.int .i64 (x:Int)]:=λ w' h=>Ej (hag w' h) hbs hds;have hc1:∀ w',Below B w1 w'->w'.cell? ⟨bv,ovv + x * 1,none⟩=some (.pointer q):=λ w' h=>(by rw [S5];exact ((hag w' h).cell hbv).trans hcv);refine DI (Below B w1) [(0,true),(1,true),(2,true),(3,true),(4,true),(5,true),(6,true),(7,true),(8,true),(9,true),(10,true),(11,true),(12,true),(13,true),(14,true),(15,true),(16,true),(17,true),(18,true),(19,true),(21,true),(22,true),(20,false),(23,false),(24,true)] rfl (T0 _ _) ?_;refine bz ?_<;>refine bz ?_<;>refine ah ?_<;>refine bz ?_<;>refine Nz rfl rfl rfl ?_<;>refine am ?_<;>refine Nz rfl rfl rfl ?_<;>refine am ?_<;>refine ah ?_<;>refine ah ?_<;>refine ah ?_<;>refine ah ?_<;>refine ah ?_;refine CW rfl ?_;simp only [Y3,hat,I5] at hlen;refine BG rfl (ih1 x w1 (.pointer q) ov _ _ out (looked.set nx true) (R2 hB hB1.size) (TrR.agree (hag w1 (T0 _ _)) hq) (hs.agree (hag w1 (T0 _ _))) ho1 hl1 (hat ▸ hfit1) (by simpa using hll) (by omega)) ?_;rintro v2 w2 ⟨ho2,hl2,hB2⟩;refine DB hB2 ?_;refine CW rfl ?_;refine BG rfl (ih2 w2 (.pointer rp) v2 _ _ (out ++ Y3 s (vals x)) (Ab7 s (vals x) (looked.set nx true)) (R2 hB (hB1.trans hB2).size) (TrR.agree (hag w2 hB2) hrest) (hs.agree (hag w2 hB2)) ho2 hl2 hfit2 (by rw [JO];simpa using hll) (by rw [I5];omega)) ?_;rintro v3 w3 ⟨ho3,hl3,hB3⟩;refine DB (hB2.trans hB3) ?_;refine Ek rfl rfl ?_<;>refine h_z ?_;refine aa ?_;exact U2 rfl rfl ⟨by simpa [Y3,hat] using ho3,by simpa [Ab7,hat] using hl3,hB1.trans (hB2.trans hB3)⟩
end
section
open Go Go.RowKit
attribute [local irreducible] ewp owp hwp hwq hws Ev Evg Fn T9 V1 U8 U4
def GenR (w:World) (F:Nat->Prop) (gv:Value) (t:Tsk) (T:Tr):Prop :=
  ∃ d a b c e f,gv=.pointer (some ⟨d,0,none⟩)/\F d/\Blk w d 159 [a,b,c,e,f]/\Vb w F a t.vars/\Vb w F b t.init/\Vb w F c t.goal/\Vb w F e t.ops/\TrR w F T f
theorem Tc (z:Value) (n:Nat) (hz:z.cells=#[z]):(madeCells z.cells (n * 1)).toList=List.replicate n z:=by
  rw [hz,S5];apply List.ext_getElem
  . simp [madeCells]
  . intro i a b;simp [madeCells,Nat.mod_one]
theorem NQ {w:World} {F:Nat->Prop}:∀ n,Chunks w F (List.replicate n (.bool false)) (List.replicate n false)
  | 0=>rfl
  | n + 1=>⟨[.bool false],List.replicate n (.bool false),rfl,rfl,NQ n⟩
noncomputable def Aci (t:Tsk) (T:Tr) (s:List Int):List Int:=if bof (StateOk t.vars s)=true then Z9 (Y3 s T) else []
noncomputable def findN (t:Tsk) (T:Tr) (s:List Int):Nat:=if bof (StateOk t.vars s)=true then (Ab7 s T (List.replicate s.length false)).count true else 0
theorem Vz {l:List Bool} {k:Nat} {b:Bool} (h:l[k]?=some b):(l.take (k + 1)).count true=(l.take k).count true + if b=true then 1 else 0:=by
  rw [K4,h,List.count_append];cases b<;>simp
theorem AeM {w:World} {gv sv:Value} {t:Tsk} {T:Tr} {s:List Int} (A:GenR w (All w) gv t T) (hs:V w sv s) (q:StateOk t.vars s->AcW s T) (j:(Y3 s T).length<=1000000) (L:s.length<=1000000) :
    Fn prog 112 [gv,sv] w λ v w'=>Ext w w'/\∃ u,v=.tuple #[u,.int .i64 (findN t T s:Int)]/\Own w' w.heap.size (All w) 3 u (Aci t T s):=by
  obtain ⟨Q,a,b,c,d,r,rfl,hgb,hb1,hvars,hinit,hgoal,hops,hT⟩:=A;obtain ⟨R,cv,rfl⟩:=hvars.form;obtain ⟨S,cs,rfl⟩:=hs.form;obtain ⟨M,rfl⟩:=hT.form;refine AH func112 rfl ntmps112 ?_
  (refine aa ?_<;>refine ba ?_<;>(refine ab ?_<;>refine Kg rfl ?_<;>refine ab ?_<;>(first|(refine Az rfl rfl ?_;refine Ar rfl ?_)|refine Aw rfl rfl ?_)<;>(first|(refine Az rfl rfl ?_;refine Dr rfl ?_)|refine Aw rfl rfl ?_)<;>(first|(refine Az rfl rfl ?_;refine AD rfl ?_)|refine Aw rfl rfl ?_)<;>(first|(refine Az rfl rfl ?_;refine AD rfl ?_)|refine Aw rfl rfl ?_)<;>(first|(refine Az rfl rfl ?_;refine AQ rfl ?_)|refine Aw rfl rfl ?_)<;>(first|(refine Az rfl rfl ?_;refine Ar rfl ?_)|refine Aw rfl rfl ?_))<;>refine aa ?_)
  refine Az rfl rfl ?_;refine HU rfl (AcA hvars hs) ?_ ?_
  case refine_2 =>
    intro z J e
    ((first|(refine Az rfl rfl ?_;(first|refine EE rfl ?_|refine EF rfl ?_|refine Iq rfl ?_))|refine Aw rfl rfl ?_)<;>refine bc ?_)
    refine aa ?_;refine aa ?_<;>refine ba ?_;refine U6 rfl (AF rfl) (AF rfl) ⟨e,.slice none 0 0,?_,?_⟩
    . rw [findN,Cc J];rfl
    . rw [Aci,Cc J];exact Own.nil _ _ _ _
  intro z m e;replace hb1:=hb1.ext e
  ((first|(refine Az rfl rfl ?_;(first|refine EE rfl ?_|refine EF rfl ?_|refine Iq rfl ?_))|refine Aw rfl rfl ?_)<;>refine bc ?_)
  refine aa ?_;refine ab ?_<;>refine AT rfl ?_;refine Pm rfl rfl (by omega) (by omega) rfl λ B o=>?_;replace hb1:=hb1.ext o.ext;have i:Ext w B:=e.trans' o.ext;have C:Own B w.heap.size (· < w.heap.size) 4 (.slice (some ⟨z.heap.size,0,none⟩) s.length s.length) (List.replicate s.length false) :=
    (Own.made o (by rw [Tc _ _ rfl];exact NQ _) (by simp) (by have:=e.size;omega) (by omega)).lower e.size
  refine ac ?_;refine aa ?_;refine ab ?_<;>refine Dr rfl ?_<;>refine ae ?_<;>refine bo ?_;refine BG rfl (AeF w.heap.size s T B (.pointer M) (.slice none 0 0) _ _ [] _ i.size (TrR.agree (i.agree λ _ h=>h) hT) (Vb.agree hs (i.agree λ _ h=>h)) (Own.nil _ _ _ _) C (q m) (by simp) (by simpa using j)) ?_;rintro K N ⟨f,hl3,hB3⟩;have p:Ext w N:=i.trans hB3;rw [N6] at f;refine ac ?_;refine aa ?_;refine ab ?_;refine BG rfl (Adr f j) ?_;rintro _ D ⟨rfl,ho4,hK4⟩;have E:Ext w D:=p.trans (f.fits (R7 _) p.size hK4);have F:=hl3.kept hK4 (λ k hk=>⟨I6 hk p.size,λ he=>by have:=(f.lt k he).1;have:k < w.heap.size:=hk;omega⟩) (λ g A=>hl3.own_ne f (by decide) g A);have G:Vb D _ (.slice (some ⟨z.heap.size,0,none⟩) s.length s.length) (Ab7 s T (List.replicate s.length false)):=F.vb;have O:(Ab7 s T (List.replicate s.length false)).length=s.length:=(by rw [JO];simp);refine o_z ?_;refine aa ?_;refine bf ?_;refine Dn s.length (by omega) (λ n:Nat=>[(7,K),(8,.int .i64 (n:Int)),(35,.slice (some ⟨z.heap.size,0,none⟩) s.length s.length)]) (λ k n w'=>w'=D/\n=((Ab7 s T (List.replicate s.length false)).take k).count true) 0
    ⟨rfl,by simp⟩ ⟨rfl,rfl,rfl,rfl,rfl,trivial⟩ (λ _=>⟨rfl,rfl⟩) ⟨rfl,rfl,rfl⟩ ⟨rfl,rfl⟩ ?_ ?_
  . rintro k n _ hk ⟨rfl,hn⟩;obtain ⟨x,hx⟩:=AL (l:=Ab7 s T (List.replicate s.length false)) (k:=k) (by omega);obtain ⟨U,o2,ce,he,_,_,hd1,rfl⟩:=G.elem hx;injection he with he;injection he with H I;subst H;subst I;have P:n<=k:=by
      rw [hn];exact R2 List.count_le_length (by rw [M3];omega)
    have y:=Vz hx;cases x
    . refine bp ?_<;>refine ab ?_<;>refine o_z ?_<;>refine aa ?_;exact ⟨n,⟨rfl,rfl,rfl,rfl,rfl,trivial⟩,rfl,by rw [y,hn];simp⟩
    . refine bp ?_<;>refine ab ?_<;>refine o_z ?_<;>refine af ?_<;>(first|refine KR rfl ?_|refine KQ rfl rfl ?_)<;>refine aj ?_;exact ⟨n + 1,⟨rfl,rfl,rfl,rfl,rfl,trivial⟩,rfl,by rw [y,hn];simp⟩
  rintro n _ ⟨rfl,hn⟩;refine aa ?_;refine af ?_<;>refine ab ?_<;>refine ba ?_;refine U6 rfl (AF rfl) (AF rfl) ⟨E,K,?_,?_⟩
  . rw [findN,CT m,if_pos rfl,hn,D8 (by omega)]
  . rw [Aci,CT m,if_pos rfl];exact ho4
section
variable {w : World} {gv sv : Value} {t : Tsk} {T : Tr} {s : List Int}
theorem Adk (d:GenR w (All w) gv t T) (hs:V w sv s) (a:StateOk t.vars s->AcW s T) (b:(Y3 s T).length<=1000000) (c:s.length<=1000000) :
    Fn prog 78 [gv,sv] w λ v w'=>Ext w w'/\Own w' w.heap.size (All w) 3 v (Aci t T s):=by
  refine AH func78 rfl ntmps78 ?_;refine bw ?_;refine BG rfl (AeM d hs a b c) ?_;rintro _ f ⟨e,u,rfl,ho⟩;refine bj ?_<;>refine Au rfl ?_<;>refine ac ?_;refine aa ?_;refine al ?_;exact U2 rfl rfl ⟨e,ho⟩
theorem Own.form {α:Type} [Rp α] {w:World} {base:Nat} {F:Nat->Prop} {e:TypeId} {v:Value} {xs:List α} (h:Own w base F e v xs):∃ A c,v=.slice A xs.length c:=h.vb.form
end
structure Suc where
  op:Int
  state:List Int
instance:Rp Suc where
  isAgg:=true
  size:=2
  R w F cs x:=∃ v,cs=[.int .i64 x.op,v]/\Vb w F v x.state/\T3 x.op
  len:=by rintro w F cs x ⟨v,rfl,_⟩;rfl
  one:=by rintro w F cs x ⟨v,rfl,h,_⟩ u hu;simp at hu;rcases hu with rfl|rfl<;>first|rfl|exact Vb.one rfl (by assumption)
  agree:=by rintro w w' F cs x ⟨v,rfl,h,h2⟩ ha;exact ⟨v,rfl,h.agree ha,h2⟩
  mono:=by rintro w F G cs x ⟨v,rfl,h,h2⟩ ha;exact ⟨v,rfl,h.mono ha,h2⟩
def Acc (t:Tsk) (s:List Int) (a:Int):Suc:=⟨a,match t.ops[a.toNat]? with|some o=>succ o s|none=>s⟩
end
section
open Go Go.RowKit
attribute [local irreducible] ewp owp hwp hwq hws Ev Evg Fn T9 V1 U8 U4
def GenB (w:World) (F:Nat->Prop) (e:Value) (t:Tsk):Prop :=
  ∃ d a b c g f,e=.pointer (some ⟨d,0,none⟩)/\F d/\Blk w d 159 [a,b,c,g,.pointer f]/\Vb w F a t.vars/\Vb w F b t.init/\Vb w F c t.goal/\Vb w F g t.ops
theorem GenB.agree {w w':World} {F:Nat->Prop} {f:Value} {t:Tsk} (h:GenB w F f t) (e:Agree F w w'):GenB w' F f t:=by
  obtain ⟨g,a,b,c,d,r,h1,h2,h3,h4,h5,h6,h7⟩:=h;exact ⟨g,a,b,c,d,r,h1,h2,h3.keep (e g h2),h4.agree e,h5.agree e,h6.agree e,h7.agree e⟩
theorem GenB.mono {w:World} {F G:Nat->Prop} {f:Value} {t:Tsk} (h:GenB w F f t) (e:∀ k,F k->G k):GenB w G f t:=by
  obtain ⟨g,a,b,c,d,r,h1,h2,h3,h4,h5,h6,h7⟩:=h;exact ⟨g,a,b,c,d,r,h1,e _ h2,h3,h4.mono e,h5.mono e,h6.mono e,h7.mono e⟩
theorem GenB.ext {w w':World} {a:Value} {t:Tsk} (h:GenB w (All w) a t) (b:Ext w w'):GenB w' (All w') a t:=(h.agree (b.agree λ _ h=>h)).mono λ k hk=>I6 hk b.size
def factOn (l:List Fct) (v:Int):Option Fct:=l.find? λ f=>decide (f.var=v)
def Ac7:Option Fct->Value
  | some f=>.tuple #[.agg #[.int .i64 f.var,.int .i64 f.val],.bool true]
  | none=>.tuple #[.agg #[.int .i64 0,.int .i64 0],.bool false]
theorem Rq {α:Type} (p:α->Bool):∀ {l:List α} {k:Nat} {x:α},l[k]?=some x->p x=true->(∀ i,i < k->∀ y,l[i]?=some y->p y=false)->l.find? p=some x
  | [],_,_,h,_,_=>by simp at h
  | y :: l,0,x,h,hp,_=>by
    have:y=x:=(by simpa using h);subst this;simp [hp]
  | y :: l,k + 1,x,h,hp,hn=>by
    have a:=hn 0 (by omega) y rfl;rw [List.find?_cons,a];exact Rq p (k:=k) (by simpa using h) hp λ i hi z hz=>hn (i + 1) (by omega) z (by simpa using hz)
theorem WB {α:Type} (p:α->Bool) {l:List α} (hn:∀ i,i < l.length->∀ y,l[i]?=some y->p y=false):l.find? p=none:=by
  rw [List.find?_eq_none];intro x a;obtain ⟨i,hi⟩:=G6 a;simp [hn i (CF hi) x hi]
theorem AdA {w:World} {y:Value} {t:Tsk} {j:Nat} {o:Opr} {v:Int} (z:GenB w (All w) y t) (A:t.ops[j]?=some o) :
    Fn prog 139 [y,.int .i64 (j:Int),.int .i64 v] w λ M w'=>M=Ac7 (factOn o.pre v)/\Ext w w':=by
  obtain ⟨I,a,b,c,d,rp,rfl,hgb,hb0,hvars,hinit,hgoal,hops⟩:=z;obtain ⟨J,co,rfl⟩:=hops.form;obtain ⟨K,o2,ce,rfl,hbl,hjl,hd0,p,q,rfl,hp,hq,hc,hnm⟩:=hops.elem A;obtain ⟨B,cp,rfl⟩:=hp.form;have C:=hp.len;refine AH func139 rfl ntmps139 ?_;refine aa ?_;refine GE rfl λ u n=>?_;have e:=n.blk;have g:Ext w u:=n.ext;have D:=hb0.ext g;have x:=Nv hd0 hbl g;refine ac ?_;refine aa ?_;refine af ?_<;>refine Dr rfl ?_<;>refine AD rfl ?_<;>refine ae ?_<;>refine ab ?_<;>refine FF rfl rfl ?_<;>refine ae ?_<;>refine ar ?_;refine Dn o.pre.length (by omega) (λ _:Unit=>[(2,.int .i64 v),(6,.pointer (some ⟨w.heap.size,0,none⟩)),(18,.slice B o.pre.length cp)]) (λ k _ w'=>Ext u w'/\∀ i,i < k->∀ f,o.pre[i]?=some f->decide (f.var=v)=false) ()
    ⟨T0 _ _,λ i hi=>by omega⟩ ⟨rfl,rfl,rfl,rfl,rfl,trivial⟩ (λ _=>⟨rfl,rfl⟩) ⟨rfl,rfl,rfl⟩ ⟨rfl,rfl⟩ ?_ ?_
  . rintro k _ E hk ⟨h,hh⟩;obtain ⟨f,hf⟩:=AL hk;obtain ⟨L,o3,ce,rfl,_,_,x,rfl,hr1,hr2⟩:=(hp.ext (g.trans' h)).elem hf;refine aw ?_;refine DF rfl rfl (by simp [Value.cells,Value.oneCell']) λ F r=>?_;have G:=r.blk;have m:Ext u F:=h.trans' r.ext;replace e:=e.ext m;refine o_z ?_;refine aa ?_
    (refine aa ?_<;>(refine ae ?_<;>refine ab ?_<;>(first|refine Ve rfl rfl rfl ?_|refine Vf rfl rfl rfl ?_|refine Gw rfl rfl (λ _=>?_) λ _=>?_)<;>refine o_z ?_)<;>refine aa ?_)
    . refine BX rfl ?_;refine Dg rfl rfl e rfl (R7 _) (by simp [Value.cells,Value.oneCell']) λ H s=>?_;refine ac ?_;refine aa ?_;refine U6 rfl (DH rfl rfl s.blk.cellsAt) (AF rfl) ⟨?_,g.trans ((m.mono g.size).trans (s.below (R7 _)))⟩;rw [factOn,Rq _ hf (by simpa using ‹f.var=v›) hh];rfl
    . exact ⟨(),⟨rfl,rfl,rfl,rfl,rfl,trivial⟩,m,Gg hh λ f' l=>by rw [hf] at l;injection l with l;subst l;simpa using ‹¬ f.var=v›⟩
  rintro _ E ⟨h,hh⟩;replace e:=e.ext h;refine aa ?_;refine ai ?_;refine Dg rfl rfl e rfl (R7 _) (by simp [Value.cells,Value.oneCell',W1]) λ H s=>?_;refine ac ?_;refine aa ?_;refine U6 rfl (DH rfl rfl s.blk.cellsAt) (AF rfl) ⟨?_,g.trans ((h.mono g.size).trans (s.below (R7 _)))⟩;rw [factOn,WB _ hh];rfl
theorem Ad2 {w:World} {b:Value} {t:Tsk} {j:Nat} {o:Opr} {v:Int} {c d:Nat} {e g:TypeId} (h:GenB w (All w) b t) (i:t.ops[j]?=some o) (k:Blk w c e [b]) (l:Blk w d g [.int .i64 v]) :
    Fn prog 138 ([.int .i64 (j:Int)] ++ [.pointer (some ⟨c,0,none⟩),.pointer (some ⟨d,0,none⟩)]) w λ r w'=>r=.bool (factOn o.pre v).isSome/\Ext w w':=by
  have m:=k;have n:=l;refine AH func138 rfl ntmps138 ?_;refine ad ?_<;>refine AQ rfl ?_<;>refine ab ?_<;>refine AQ rfl ?_<;>refine aa ?_;refine BG rfl (AdA h i) ?_;rintro _ q ⟨rfl,hE1⟩;cases hf:factOn o.pre v with
  | none =>
    simp only [Ac7];refine bj ?_;refine DF rfl rfl (by simp [Value.cells,Value.oneCell']) λ p a=>?_;refine ac ?_;refine aa ?_;refine al ?_;exact U2 rfl rfl ⟨rfl,hE1.trans' a.ext⟩
  | some f =>
    simp only [Ac7];refine bj ?_;refine DF rfl rfl (by simp [Value.cells,Value.oneCell']) λ p a=>?_;refine ac ?_;refine aa ?_;refine al ?_;exact U2 rfl rfl ⟨rfl,hE1.trans' a.ext⟩
end
end Go.Proofs.YtllibjejncelhaaGreatDoor

/- OrbitSame returns true for every task, all generators and every name, and all read behind the call as before. No conditions. -/
import Derived.Test.YtecegaabajeolaaGreatOsaD
import Derived.Test.YtecegaabajeolaaGreatRows
set_option linter.unusedVariables false
set_option linter.unusedSimpArgs false
namespace Go.Proofs.YtecegaabajeolaaGreat
open Go Go.RowKit
section
open Go Go.RowKit
theorem Fw {α:Type} {f:Nat→α→Unit→Option (Ctl Unit Bool)} {xs:List α} (P:Nat→Prop) (h:∀ k x,xs[k]?=some x→f k x ()=if bof (P k)=true then some (.next ()) else some (.ret false)) :
    (bnd (rng (ρ:=Bool) f xs 0 ()) fun r=>fin r fun _=>some true)=some (bof (∀ k,k < xs.length→P k)):=by
  rcases Ir (f:=f) (xs:=xs) (s₀:=()) (fun k _=>∀ j,j < k→P j) (fun r=>r=false∧¬ ∀ k,k < xs.length→P k) (fun j hj=>by omega) (fun k x _ hx hI=>by
    rw [h k x hx]
    by_cases hp:P k
    · rw [Bd hp,Bj]
      exact .inl ⟨_,rfl,Cv hI hp⟩
    · rw [AM hp,BB]
      exact .inr ⟨_,rfl,rfl,fun hh=>hp (hh k (AF hx))⟩) with ⟨_,hr,hc⟩|⟨r,hr,rfl,hno⟩
  · rw [hr,Am,BP,Bd hc]
  · rw [hr,Am,GE,AM hno]
theorem Ly {l:List Int} {n:Nat} (hn:n≤1000000):BZ l (n:Int)=some (bof (PermR l n)):=by
  rw [PE (by omega)]
  exact EX ⟨fun h=>by       have:l.length=n:=by omega
                            rw [← this];exact h.2,fun h=>⟨by rw [h.len],by rw [h.len];exact h⟩⟩
theorem HZ {l:List          Int} {n:Nat} (hn:n≤1000000):Cj l (n:Int)=some (bof (PermR l n)):=by
  rw [MQ (by omega)]
  exact EX ⟨fun h=>by       have:l.length=n:=by omega
                            rw [← this];exact h.2,fun h=>⟨by rw [h.len],by rw [h.len];exact h⟩⟩
def FactsPerm (t:Tsk) (x:Swp):Prop:=PermR x.vars t.vars.length∧x.vals.length=t.vars.length∧∀ (k:Nat),k < t.vars.length→∃ (n:Nat) (a:Int) (l:List Int),t.vars[k]?=some (n:Int)∧x.vars[k]?=some a∧x.vals[k]?=some l∧atI t.vars a=some (n:Int)∧PermR l n
theorem Oq {t:Tsk} {x:Swp} (hok:TaskOk t):Dw t x=some (bof (FactsPerm t x)):=by
  obtain ⟨hl,_,hv,_⟩:=hok
  unfold Dw
  rw [Ly (by omega),Am]
  by_cases h1:PermR x.vars t.vars.length
  case neg=>rw [AM h1,BB,Am,Bj,AM (fun h=>h1 h.1)]
  rw [Bd h1,Bj]
  by_cases h2:x.vals.length=t.vars.length
  case neg=>rw [if_pos (by omega),Am,Bj,AM (fun h=>h2 h.2.1)]
  rw [if_neg (by omega),Am,BB]
  rw [Fw (fun k=>∃ (n:Nat) (a:Int) (l:List Int),t.vars[k]?=some (n:Int)∧x.vars[k]?=some a∧x.vals[k]?=some l∧atI t.vars a=some (n:Int)∧PermR l n) (fun k y hy=>by
    have hk:=AF hy
    obtain ⟨a,ha⟩:=AD (l:=x.vars) (k:=k) (by rw [h1.len];omega)
    obtain ⟨l,hll⟩:=AD (l:=x.vals) (k:=k) (by omega)
    have hy2:=hv k y hy
    obtain ⟨n,rfl⟩:=Int.eq_ofNat_of_zero_le (by omega:0≤y)
    obtain ⟨ha1,ha2⟩:=h1.mem (List.mem_of_getElem? ha)
    obtain ⟨j,rfl⟩:=Int.eq_ofNat_of_zero_le ha1
    obtain ⟨m,hm⟩:=AD (l:=t.vars) (k:=j) (by omega)
    rw [ha,Am,Bh,hm,Am]
    by_cases hmn:m=(n:Int)
    · rw [if_neg (by simpa using hmn),hll,Am,Ly (by omega),Am]
      by_cases hp:PermR l n
      · rw [Bd hp,Bj,Am,BB,Bd ⟨n,_,l,hy,rfl,rfl,by rw [Bh,hm,hmn],hp⟩,Bj]
      · rw [AM hp,BB,Am,Bj,AM (fun ⟨n',a',l',q1,q2,q3,q4,q5⟩=>by
          have e1:(n:Int)=n':=by rw [hy] at q1;exact Option.some.inj q1
          have e2:l=l':=Option.some.inj q3
          have e3:n=n':=by omega
          subst e2 e3;exact hp q5),BB]
    · rw [if_pos hmn,Am,Bj,AM (fun ⟨n',a',l',q1,q2,q3,q4,q5⟩=>by
        have e1:(n:Int)=n':=by rw [hy] at q1;exact Option.some.inj q1
        have e2:(j:Int)=a':=Option.some.inj q2
        rw [← e2,Bh,hm] at q4
        exact hmn (by rw [e1];exact Option.some.inj q4)),BB])]
  exact EX ⟨fun h=>⟨h1,h2,h⟩,fun h=>h.2.2⟩
theorem Ot {t:Tsk} {x:Swp} (hok:TaskOk t):Ep t x=some (bof (FactsPerm t x∧PermR x.ops t.ops.length)):=by
  obtain ⟨hl,hlo,hv,_⟩:=hok
  unfold Ep
  rw [HZ (by omega),Am]
  by_cases h1:PermR x.vars t.vars.length
  case neg=>rw [AM h1,BB,Am,Bj,AM (fun h=>h1 h.1.1)]
  rw [Bd h1,Bj]
  by_cases h2:x.vals.length=t.vars.length
  case neg=>rw [if_pos (by omega),Am,Bj,AM (fun h=>h2 h.1.2.1)]
  rw [if_neg (by omega),HZ (by omega),Am]
  by_cases h3:PermR x.ops t.ops.length
  case neg=>rw [AM h3,BB,Am,Bj,AM (fun h=>h3 h.2)]
  rw [Bd h3,Bj,Am,BB]
  rw [Fw (fun k=>∃ (n:Nat) (a:Int) (l:List Int),t.vars[k]?=some (n:Int)∧x.vars[k]?=some a∧x.vals[k]?=some l∧atI t.vars a=some (n:Int)∧PermR l n) (fun k y hy=>by
    have hk:=AF hy
    obtain ⟨a,ha⟩:=AD (l:=x.vars) (k:=k) (by rw [h1.len];omega)
    obtain ⟨l,hll⟩:=AD (l:=x.vals) (k:=k) (by omega)
    have hy2:=hv k y hy
    obtain ⟨n,rfl⟩:=Int.eq_ofNat_of_zero_le (by omega:0≤y)
    obtain ⟨ha1,ha2⟩:=h1.mem (List.mem_of_getElem? ha)
    obtain ⟨j,rfl⟩:=Int.eq_ofNat_of_zero_le ha1
    obtain ⟨m,hm⟩:=AD (l:=t.vars) (k:=j) (by omega)
    rw [ha,Am,Bh,hm,Am]
    by_cases hmn:m=(n:Int)
    · rw [if_neg (by simpa using hmn),hll,Am,HZ (by omega),Am]
      by_cases hp:PermR l n
      · rw [Bd hp,Bj,Am,BB,Bd ⟨n,_,l,hy,rfl,rfl,by rw [Bh,hm,hmn],hp⟩,Bj]
      · rw [AM hp,BB,Am,Bj,AM (fun ⟨n',a',l',q1,q2,q3,q4,q5⟩=>by
          have e1:(n:Int)=n':=by rw [hy] at q1;exact Option.some.inj q1
          have e2:l=l':=Option.some.inj q3
          have e3:n=n':=by omega
          subst e2 e3;exact hp q5),BB]
    · rw [if_pos hmn,Am,Bj,AM (fun ⟨n',a',l',q1,q2,q3,q4,q5⟩=>by
        have e1:(n:Int)=n':=by rw [hy] at q1;exact Option.some.inj q1
        have e2:(j:Int)=a':=Option.some.inj q2
        rw [← e2,Bh,hm] at q4
        exact hmn (by rw [e1];exact Option.some.inj q4)),BB])]
  exact EX ⟨fun h=>⟨⟨h1,h2,h⟩,h3⟩,fun h=>h.1.2.2⟩
theorem FD (a b:List Fct):BF a b=some (bof (a=b)):=by
  unfold BF
  by_cases hl:a.length=b.length
  case neg=>rw [if_pos (by omega),AM (fun h=>hl (by rw [h]))]
  rw [if_neg (by omega),Fw (fun k=>a[k]?=b[k]?) (fun k y hy=>by
    obtain ⟨z,hz⟩:=AD (l:=b) (k:=k) (by have:=AF hy;omega)
    rw [hz,Am]
    by_cases h:y=z
    · rw [if_neg (by simp [h]),Bd (by rw [hy,h]),Bj]
    · rw [if_pos (fun hh=>h (by cases y;cases z;simpa using hh)),AM (by rw [hy];simpa using h),BB])]
  refine EX ⟨fun h=>List.ext_getElem? fun k=>?_,fun h=>by rw [h];exact fun _ _=>rfl⟩
  by_cases hk:k < a.length
  · exact h k hk
  · rw [List.getElem?_eq_none (by omega),List.getElem?_eq_none (by omega)]
theorem Hk (a b:List Fct):DY a b=some (bof (a=b)):=FD a b
theorem alike1 (a b:Eff):Da a b=some (bof (a=b)):=by
  unfold Da
  by_cases h1:a.var=b.var
  case neg=>rw [if_neg h1,Am,AM (fun h=>h1 (by rw [h]))]
  by_cases h2:a.val=b.val
  case neg=>rw [if_pos h1,if_neg h2,Am,AM (fun h=>h2 (by rw [h]))]
  rw [if_pos h1,if_pos h2,FD,Am]
  by_cases h3:a.cond=b.cond
  · rw [Bd h3,Bj,Am,Bd (by cases a;cases b;simp_all)]
  · rw [AM h3,BB,Am,AM (fun h=>h3 (by rw [h]))]
theorem MR (a b:List Eff):AX a b=some (bof (a=b)):=by
  unfold AX
  by_cases hl:a.length=b.length
  case neg=>rw [if_pos (by omega),AM (fun h=>hl (by rw [h]))]
  rw [if_neg (by omega),Fw (fun k=>a[k]?=b[k]?) (fun k y hy=>by
    obtain ⟨z,hz⟩:=AD (l:=b) (k:=k) (by have:=AF hy;omega)
    rw [hz,Am,alike1,Am]
    by_cases h:y=z
    · rw [Bd h,Bj,Bd (by rw [hy,h]),Bj]
    · rw [AM h,BB,AM (by rw [hy];simpa using h),BB])]
  refine EX ⟨fun h=>List.ext_getElem? fun k=>?_,fun h=>by rw [h];exact fun _ _=>rfl⟩
  by_cases hk:k < a.length
  · exact h k hk
  · rw [List.getElem?_eq_none (by omega),List.getElem?_eq_none (by omega)]
theorem Ou (p q:Opr):Dx p q=some (bof (p.cost=q.cost∧p.pre=q.pre∧p.effs=q.effs)):=by
  unfold Dx
  by_cases h1:p.cost=q.cost
  case neg=>rw [if_neg h1,Am,AM (fun h=>h1 h.1)]
  rw [if_pos h1,FD,Am]
  by_cases h2:p.pre=q.pre
  case neg=>rw [AM h2,BB,Am,AM (fun h=>h2 h.2.1)]
  rw [Bd h2,Bj,MR,Am]
  by_cases h3:p.effs=q.effs
  · rw [Bd h3,Bj,Am,Bd ⟨h1,h2,h3⟩]
  · rw [AM h3,BB,Am,AM (fun h=>h3 h.2.2)]
def imF (x:Swp) (f:Fct):Fct:=⟨(x.vars[f.var.toNat]?).getD 0,(((x.vals[f.var.toNat]?).getD [])[f.val.toNat]?).getD 0⟩
def imL (x:Swp) (fs:List Fct):List Fct:=Ba (fs.map (imF x))
def imE (x:Swp) (e:Eff):Eff:=⟨imL x e.cond,(imF x ⟨e.var,e.val⟩).var,(imF x ⟨e.var,e.val⟩).val⟩
def imO (x:Swp) (o:Opr):Opr:=⟨⟨#[]⟩,o.cost,imL x o.pre,o.effs.map (imE x)⟩
theorem GX {t:Tsk} {x:Swp} {f:Fct} (hp:FactsPerm t x) (hf:FactOk t.vars f):∃ l,atI x.vars f.var=some (imF x f).var∧atI x.vals f.var=some l∧atI l f.val=some (imF x f).val∧0≤(imF x f).var∧0≤(imF x f).val:=by
  obtain ⟨h1,h2,n,hn,h3⟩:=hf
  obtain ⟨fv,fz⟩:=f
  simp only at h1 h2 hn h3 ⊢
  obtain ⟨j,rfl⟩:=Int.eq_ofNat_of_zero_le h1
  obtain ⟨i,rfl⟩:=Int.eq_ofNat_of_zero_le h2
  rw [show ((j:Int)).toNat=j from by omega] at hn
  obtain ⟨m,a,l,q1,q2,q3,q4,q5⟩:=hp.2.2 j (AF hn)
  have e:(m:Int)=n:=by rw [hn] at q1;exact (Option.some.inj q1).symm
  obtain ⟨z,hz⟩:=AD (l:=l) (k:=i) (by rw [q5.len];omega)
  have ha:=hp.1.mem (List.mem_of_getElem? q2)
  have hz':=q5.mem (List.mem_of_getElem? hz)
  refine ⟨l,?_,?_,?_,?_,?_⟩<;>simp [imF,Bh,q2,q3,hz]<;>omega
end
section
open Go Go.RowKit
theorem EF {vars:List Int} {f:List Fct} (h:FactsOk vars f):(∀ x∈f,FactOk vars x)∧f.Pairwise fun x y=>x.var < y.var:=by
  refine ⟨fun x hx=>by obtain ⟨i,hi⟩:=List.getElem?_of_mem hx;exact h.1 i x hi,?_⟩
  rw [List.pairwise_iff_getElem]
  intro i j hi hj hij
  exact FW h j i _ _ hij (List.getElem?_eq_getElem hi) (List.getElem?_eq_getElem hj)
theorem Kr {a b:List Fct} (hp:a.Perm b) (ha:a.Pairwise fun x y=>x.var < y.var) (hb:b.Pairwise fun x y=>x.var < y.var):a=b :=
  List.Perm.eq_of_pairwise (fun x y _ _ h1 h2=>by omega) ha hb hp
def VarsNe (f:List Fct):Prop:=f.Pairwise fun x y=>x.var≠y.var
theorem VarsNe.perm {a b:List Fct} (hp:a.Perm b) (h:VarsNe a):VarsNe b:=(hp.pairwise_iff (fun h e=>h e.symm)).1 h
theorem Hl {a:List Fct} (h:VarsNe a):(Ba a).Pairwise fun x y=>x.var < y.var:=by
  have h1:=LN a
  have h2:VarsNe (Ba a):=h.perm (Dt a).symm
  exact (h1.and h2).imp fun ⟨p,q⟩=>by omega
theorem PF {t:Tsk} {x:Swp} {f g:Fct} (hp:FactsPerm t x) (hf:FactOk t.vars f) (hg:FactOk t.vars g) (h:(imF x f).var=(imF x g).var):f.var=g.var:=by
  obtain ⟨_,hf1,_⟩:=GX hp hf
  obtain ⟨_,hg1,_⟩:=GX hp hg
  obtain ⟨i,hi,hi'⟩:=Fs hf1
  obtain ⟨j,hj,hj'⟩:=Fs hg1
  rw [h,← hj'] at hi'
  have h1:i < x.vars.length:=by rw [hj'] at hi';exact AF hi'
  have h2:=AF hj'
  rw [List.getElem?_eq_getElem h1,List.getElem?_eq_getElem h2] at hi'
  have hij:=(List.getElem_inj hp.1.nodup).1 (Option.some.inj hi')
  rw [hi,hj,hij]
theorem MS {t:Tsk} {x:Swp} {fs:List Fct} (hp:FactsPerm t x) (hf:FactsOk t.vars fs):VarsNe (fs.map (imF x)):=by
  obtain ⟨h1,h2⟩:=EF hf
  unfold VarsNe
  rw [List.pairwise_map]
  refine List.Pairwise.imp_of_mem (fun {a b} ha hb hab=>?_) h2
  intro e
  have:=PF hp (h1 a ha) (h1 b hb) e
  omega
theorem Ks {t:Tsk} {fs:List Fct} (hok:TaskOk t) (hf:FactsOk t.vars fs):fs.length≤64:=by have:=EV hf;have:=hok.1;omega
theorem map_take {α β:Type} {f:α→β} {l:List α} {k:Nat} {x:α} (h:l[k]?=some x):(l.take (k + 1)).map f=(l.take k).map f ++ [f x]:=by
  rw [List.take_add_one,h];simp
theorem Ia {t:Tsk} {x:Swp} {fs:List Fct} (hok:TaskOk t) (hp:FactsPerm t x) (hf:FactsOk t.vars fs):CI x fs=some (imL x fs):=by
  have hl:=Ks hok hf
  unfold CI
  rw [EE (fun k=>(fs.take k).map (imF x)) (by simp) (fun k f hk=>by
    obtain ⟨l,h1,h2,h3,_⟩:=GX hp (hf.1 k f hk)
    have:=AF hk
    rw [h1,Am,h2,Am,h3,Am,CF (by simp;omega) (by simp;omega),Am,map_take hk]),Am,BP,List.take_length,if_pos (by simp;omega),Am]
  rfl
def insF (f:Fct):List Fct→List Fct
  | []=>[f]
  | a :: l=>if f.var < a.var then f :: a :: l else a :: insF f l
theorem NA {f:Fct} {ρ:Type}:∀ (l acc:List Fct) (k:Nat),acc.length + l.length≤1000→rng (ρ:=ρ) (fun (_:Nat) (a18:Fct) (s15:(List Fct)×Bool)=>bnd (bnd (if (!s15.2)=true then (if f.var < a18.var then (some true) else (some false)) else (some false):Option Bool) fun y54=>if y54=true then (bnd (appI 16 s15.1 [f]) fun u65=>some (u65,true)) else (some (s15.1,s15.2)):Option ((List Fct)×Bool)) fun y48=>bnd (appI 16 y48.1 [a18]) fun u81=>some (.next (u81,y48.2))) l k (acc,true)=some (.done (acc ++ l,true))
  | [],acc,k,_=>by simp [rng]
  | a :: l,acc,k,h=>by
    simp at h
    have:=NA (f:=f) (ρ:=ρ) l (acc ++ [a]) (k + 1) (by simp;omega)
    rw [rng,Pc,Am,BB,Am,CF (by simp;omega) (by simp;omega),Am]
    simp only
    rw [this];simp
theorem NB {f:Fct} {ρ:Type}:∀ (l acc:List Fct) (k:Nat),acc.length + l.length≤900→∃ r:List Fct×Bool,rng (ρ:=ρ) (fun (_:Nat) (a18:Fct) (s15:(List Fct)×Bool)=>bnd (bnd (if (!s15.2)=true then (if f.var < a18.var then (some true) else (some false)) else (some false):Option Bool) fun y54=>if y54=true then (bnd (appI 16 s15.1 [f]) fun u65=>some (u65,true)) else (some (s15.1,s15.2)):Option ((List Fct)×Bool)) fun y48=>bnd (appI 16 y48.1 [a18]) fun u81=>some (.next (u81,y48.2))) l k (acc,false)=some (.done r)∧r.1.length≤1000∧(if r.2=true then r.1 else r.1 ++ [f])=acc ++ insF f l
  | [],acc,k,h=>⟨(acc,false),by simp [rng],by simp at h;simp;omega,by simp [insF]⟩
  | a :: l,acc,k,h=>by
    simp at h
    rw [rng,Pd]
    by_cases hlt:f.var < a.var
    · have:=NA (f:=f) (ρ:=ρ) l (acc ++ [f] ++ [a]) (k + 1) (by simp;omega)
      refine ⟨(acc ++ [f] ++ [a] ++ l,true),?_,?_,?_⟩
      · rw [if_pos hlt,Am,Bj,CF (by simp;omega) (by simp;omega),Am,Am,CF (by simp;omega) (by simp;omega),Am]
        simp only
        rw [this]
      · simp;omega
      · simp [insF,hlt]
    · obtain ⟨r,h1,h2,h3⟩:=NB (f:=f) (ρ:=ρ) l (acc ++ [a]) (k + 1) (by simp;omega)
      refine ⟨r,?_,h2,?_⟩
      · rw [if_neg hlt,Am,BB,Am,CF (by simp;omega) (by simp;omega),Am]
        simp only
        rw [h1]
      · rw [h3];simp [insF,hlt]
theorem PG {f:Fct} {l:List Fct} (h:l.length≤900):DZ l f=some (insF f l):=by
  unfold DZ
  obtain ⟨⟨r1,r2⟩,h1,h2,h3⟩:=NB (f:=f) (ρ:=List Fct) l [] 0 (by simpa using h)
  rw [h1,Am,BP]
  simp only at h2 h3 ⊢
  cases r2 with
  | true=>rw [Pc,Am];simpa using h3
  | false=>rw [Pd,CF (by simp;omega) (by simp;omega),Am,Am];simpa using h3
theorem Ib (f:Fct):∀ l,(insF f l).Perm (f :: l)
  | []=>by simp [insF]
  | a :: l=>by
    unfold insF
    split
    · exact List.Perm.refl _
    · exact ((Ib f l).cons a).trans (List.Perm.swap f a l)
theorem IF {f:Fct}:∀ {l:List Fct},l.Pairwise (fun x y=>x.var < y.var)→(∀ y∈l,y.var≠f.var)→(insF f l).Pairwise fun x y=>x.var < y.var
  | [],_,_=>by simp [insF]
  | a :: l,h,hn=>by
    obtain ⟨h1,h2⟩:=List.pairwise_cons.1 h
    unfold insF
    split
    · rename_i hlt
      refine List.pairwise_cons.2 ⟨fun y hy=>?_,h⟩
      rcases List.mem_cons.1 hy with rfl|hy
      · exact hlt
      · have:=h1 y hy;omega
    · rename_i hlt
      refine List.pairwise_cons.2 ⟨fun y hy=>?_,IF h2 fun y hy=>hn y (List.mem_cons_of_mem _ hy)⟩
      rcases List.mem_cons.1 ((Ib f l).mem_iff.1 hy) with rfl|hy
      · have:=hn a List.mem_cons_self;omega
      · exact h1 y hy
theorem Ov {l:List Fct} {v:Int} (h:∀ y∈l,y.var≠v):DA l v=some (-1):=by
  unfold DA
  rw [IZ (fun k y hy=>by rw [if_neg (h y (List.mem_of_getElem? hy))]),Am,BP]
theorem PH {l:List Fct} (hl:l.length≤64) (hv:∀ x∈l,0≤x.var∧0≤x.val) (hn:VarsNe l):EC l=some (Ba l,0):=by
  unfold EC
  rw [IZ (fun k y hy=>by
    have:=hv y (List.mem_of_getElem? hy)
    rw [if_neg (by omega),if_neg (by omega),Am,BB]),Am,BP]
  obtain ⟨s,h1,h2,h3⟩:=DD (ρ:=List Fct×Int) (f:=fun (_:Nat) (a60:Fct) (s57:(List Fct))=>bnd (DA s57 a60.var) fun q88=>bnd (if 0≤q88 then (if q88≠a60.val then (some true) else (some false)) else (some false):Option Bool) fun y96=>if y96=true then (some (.ret (([]:List Fct),2))) else (if q88 < 0 then (bnd (DZ s57 a60) fun q108=>some (.next q108)) else (some (.next s57)))) (xs:=l) (s₀:=[]) (fun k s=>s.Perm (l.take k)∧s.Pairwise fun x y=>x.var < y.var) ⟨by simp,by simp⟩ (fun k f s hk hI=>by
    obtain ⟨i1,i2⟩:=hI
    have hne:∀ y∈s,y.var≠f.var:=fun y hy=>by
      have hy:=i1.mem_iff.1 hy
      have hd:f∈l.drop k:=List.mem_of_getElem? (i:=0) (by rw [List.getElem?_drop,Nat.add_zero];exact hk)
      have hn':=hn
      unfold VarsNe at hn'
      rw [← List.take_append_drop k l,List.pairwise_append] at hn'
      exact hn'.2.2 y hy f hd
    have hsl:s.length≤900:=by rw [i1.length_eq,List.length_take];omega
    rw [Ov hne,Am,if_neg (by omega),Am,BB,if_pos (by omega),PG hsl,Am]
    refine ⟨_,rfl,?_,IF i2 hne⟩
    rw [List.take_add_one,hk]
    exact (Ib f s).trans ((i1.cons f).trans (List.perm_append_singleton f _).symm))
  rw [h1,Am,BP]
  rw [List.take_length] at h2
  rw [Kr (h2.trans (Dt l).symm) h3 (Hl hn)]
theorem JH {t:Tsk} {x:Swp} {f:Fct} (hp:FactsPerm t x) (hf:FactOk t.vars f):Ea x f=some (imF x f):=by
  unfold Ea
  obtain ⟨l,h1,h2,h3,_⟩:=GX hp hf
  rw [h1,Am,h2,Am,h3,Am]
theorem GL {t:Tsk} {x:Swp} {fs:List Fct} (hok:TaskOk t) (hp:FactsPerm t x) (hf:FactsOk t.vars fs):Dk x fs=some (imL x fs):=by
  have hl:=Ks hok hf
  unfold Dk
  rw [EE (fun k=>(fs.take k).map (imF x)) (by simp) (fun k f hk=>by
    have:=AF hk
    rw [JH hp (hf.1 k f hk),Am,CF (by simp;omega) (by simp;omega),Am,map_take hk]),Am,BP,List.take_length,PH (by simpa using hl) (fun y hy=>by
      obtain ⟨f,hf',rfl⟩:=List.mem_map.1 hy
      obtain ⟨_,_,_,_,h⟩:=GX hp ((EF hf).1 f hf')
      exact h) (MS hp hf),Am]
  rfl
theorem Ox {t:Tsk} {x:Swp} {o:Opr} (hok:TaskOk t) (hp:FactsPerm t x) (ho:OpOk t.vars o):Dy x o=some (imO x o):=by
  obtain ⟨_,_,hl,_,hpre,heff⟩:=ho
  unfold Dy
  rw [Ia hok hp hpre,Am,Am,EE (fun k=>(o.effs.take k).map (imE x)) (by simp) (fun k e hk=>by
    obtain ⟨h1,h2⟩:=heff k e hk
    obtain ⟨l,g1,g2,g3,_⟩:=GX hp h2
    have:=AF hk
    rw [show e.var=(⟨e.var,e.val⟩:Fct).var from rfl,g1,Am,g2,Am,show e.val=(⟨e.var,e.val⟩:Fct).val from rfl,g3,Am,Ia hok hp h1,Am,CF (by simp;omega) (by simp;omega),Am,map_take hk]
    rfl),Am,BP,List.take_length]
  rfl
theorem PI {a b:Eff}:a=b↔a.var=b.var∧a.val=b.val∧a.cond=b.cond:=⟨fun h=>by rw [h];exact ⟨rfl,rfl,rfl⟩,fun ⟨h1,h2,h3⟩=>by cases a;cases b;simp_all⟩
theorem PJ {t:Tsk} {x:Swp} {o p:Opr} (hok:TaskOk t) (hp:FactsPerm t x) (ho:OpOk t.vars o):ED x o p=some (bof (o.cost=p.cost∧imL x o.pre=p.pre∧o.effs.map (imE x)=p.effs)):=by
  obtain ⟨_,_,hl,_,hpre,heff⟩:=ho
  unfold ED
  by_cases h1:o.cost=p.cost
  case neg=>rw [if_pos h1,Am,Bj,AM (fun h=>h1 h.1)]
  rw [if_neg (by simpa using h1)]
  by_cases h2:o.effs.length=p.effs.length
  case neg=>rw [if_pos (by omega),Am,Bj,AM (fun h=>h2 (by rw [← h.2.2];simp))]
  rw [if_neg (by omega),GL hok hp hpre,Am,Hk,Am]
  by_cases h3:imL x o.pre=p.pre
  case neg=>rw [AM h3,BB,Am,Bj,AM (fun h=>h3 h.2.1)]
  rw [Bd h3,Bj,Am,BB,Fw (fun k=>(o.effs.map (imE x))[k]?=p.effs[k]?) (fun k e hk=>by
    obtain ⟨g1,g2⟩:=heff k e hk
    obtain ⟨z,hz⟩:=AD (l:=p.effs) (k:=k) (by have:=AF hk;omega)
    have hE:(o.effs.map (imE x))[k]?=some (imE x e):=by rw [List.getElem?_map,hk];rfl
    rw [JH hp g2,Am,hz,Am,hE]
    have hex:=@PI (imE x e) z
    by_cases k1:(imF x ⟨e.var,e.val⟩).var=z.var
    case neg=>rw [if_pos k1,Am,Bj,AM (fun h=>k1 (hex.1 (Option.some.inj h)).1),BB]
    rw [if_neg (by simpa using k1),Am]
    by_cases k2:(imF x ⟨e.var,e.val⟩).val=z.val
    case neg=>rw [if_pos k2,Am,Bj,AM (fun h=>k2 (hex.1 (Option.some.inj h)).2.1),BB]
    rw [if_neg (by simpa using k2),Am,GL hok hp g1,Am,Hk,Am]
    by_cases k3:imL x e.cond=z.cond
    · rw [Bd k3,Bj,Am,BB,Bd (by rw [hex.2 ⟨k1,k2,k3⟩]),Bj]
    · rw [AM k3,BB,Am,Bj,AM (fun h=>k3 (hex.1 (Option.some.inj h)).2.2),BB])]
  refine EX ⟨fun h=>⟨h1,h3,List.ext_getElem? fun k=>?_⟩,fun h=>by rw [h.2.2];exact fun _ _=>rfl⟩
  by_cases hk:k < o.effs.length
  · exact h k hk
  · rw [List.getElem?_eq_none (by simp;omega),List.getElem?_eq_none (by omega)]
def SymP (t:Tsk) (x:Swp):Prop:=FactsPerm t x∧PermR x.ops t.ops.length∧imL x t.goal=t.goal∧∀ k,k < t.ops.length→∃ (o p:Opr) (a:Int),t.ops[k]?=some o∧x.ops[k]?=some a∧atI t.ops a=some p∧o.cost=p.cost∧imL x o.pre=p.pre∧o.effs.map (imE x)=p.effs
theorem Is {t:Tsk} {x:Swp} (hok:TaskOk t):Dm t x=some (bof (SymP t x)):=by
  unfold Dm
  rw [Oq hok,Am]
  by_cases h1:FactsPerm t x
  case neg=>rw [AM h1,BB,Am,Bj,AM (fun h=>h1 h.1)]
  have hlo:=hok.2.1
  rw [Bd h1,Bj,Ly (by omega),Am]
  by_cases h2:PermR x.ops t.ops.length
  case neg=>rw [AM h2,BB,Am,Bj,AM (fun h=>h2 h.2.1)]
  rw [Bd h2,Bj,Ia hok h1 hok.2.2.2.2.1,Am,FD,Am]
  by_cases h3:imL x t.goal=t.goal
  case neg=>rw [AM h3,BB,Am,Bj,AM (fun h=>h3 h.2.2.1)]
  rw [Bd h3,Bj,Am,BB,Fw (fun k=>∃ (o p:Opr) (a:Int),t.ops[k]?=some o∧x.ops[k]?=some a∧atI t.ops a=some p∧o.cost=p.cost∧imL x o.pre=p.pre∧o.effs.map (imE x)=p.effs) (fun k o hk=>by
    have:=AF hk
    obtain ⟨a,ha⟩:=AD (l:=x.ops) (k:=k) (by rw [h2.len];omega)
    obtain ⟨ha1,ha2⟩:=h2.mem (List.mem_of_getElem? ha)
    obtain ⟨j,rfl⟩:=Int.eq_ofNat_of_zero_le ha1
    obtain ⟨p,hp⟩:=AD (l:=t.ops) (k:=j) (by omega)
    rw [ha,Am,Bh,hp,Am,Ox hok h1 (hok.2.2.2.2.2 k o hk),Am,Ou,Am]
    have e:(∃ (o p:Opr) (a:Int),t.ops[k]?=some o∧some (j:Int)=some a∧atI t.ops a=some p∧o.cost=p.cost∧imL x o.pre=p.pre∧o.effs.map (imE x)=p.effs)↔((imO x o).cost=p.cost∧(imO x o).pre=p.pre∧(imO x o).effs=p.effs):=by
      constructor
      · rintro ⟨o',p',a',q1,q2,q3,q4⟩
        obtain rfl:o=o':=by rw [hk] at q1;exact Option.some.inj q1
        obtain rfl:=Option.some.inj q2
        rw [Bh,hp] at q3
        obtain rfl:=Option.some.inj q3
        exact q4
      · intro h
        exact ⟨o,p,j,hk,rfl,by rw [Bh,hp],h⟩
    rw [HJ e])]
  exact EX ⟨fun h=>⟨h1,h2,h3,h⟩,fun h=>h.2.2.2⟩
theorem LW {t:Tsk} {x:Swp}:DB t x=some (bof (TaskOk t∧SymP t x)):=by
  unfold DB Ew
  rw [Am]
  by_cases hok:TaskOk t
  case neg=>rw [AM hok,BB,Am,Bj,AM (fun h=>hok h.1)]
  rw [Bd hok,Bj,Ot hok,Am]
  by_cases h12:FactsPerm t x∧PermR x.ops t.ops.length
  case neg=>rw [AM h12,BB,Am,Bj,AM (fun h=>h12 ⟨h.2.1,h.2.2.1⟩)]
  obtain ⟨h1,h2⟩:=h12
  have hlo:=hok.2.1
  rw [Bd ⟨h1,h2⟩,Bj,GL hok h1 hok.2.2.2.2.1,Am,Hk,Am]
  by_cases h3:imL x t.goal=t.goal
  case neg=>rw [AM h3,BB,Am,Bj,AM (fun h=>h3 h.2.2.2.1)]
  rw [Bd h3,Bj,Am,BB,Fw (fun k=>∃ (o p:Opr) (a:Int),t.ops[k]?=some o∧x.ops[k]?=some a∧atI t.ops a=some p∧o.cost=p.cost∧imL x o.pre=p.pre∧o.effs.map (imE x)=p.effs) (fun k o hk=>by
    have:=AF hk
    obtain ⟨a,ha⟩:=AD (l:=x.ops) (k:=k) (by rw [h2.len];omega)
    obtain ⟨ha1,ha2⟩:=h2.mem (List.mem_of_getElem? ha)
    obtain ⟨j,rfl⟩:=Int.eq_ofNat_of_zero_le ha1
    obtain ⟨p,hp⟩:=AD (l:=t.ops) (k:=j) (by omega)
    rw [ha,Am,Bh,hp,Am,PJ hok h1 (hok.2.2.2.2.2 k o hk),Am]
    have e:(∃ (o p:Opr) (a:Int),t.ops[k]?=some o∧some (j:Int)=some a∧atI t.ops a=some p∧o.cost=p.cost∧imL x o.pre=p.pre∧o.effs.map (imE x)=p.effs)↔(o.cost=p.cost∧imL x o.pre=p.pre∧o.effs.map (imE x)=p.effs):=by
      constructor
      · rintro ⟨o',p',a',q1,q2,q3,q4⟩
        obtain rfl:o=o':=by rw [hk] at q1;exact Option.some.inj q1
        obtain rfl:=Option.some.inj q2
        rw [Bh,hp] at q3
        obtain rfl:=Option.some.inj q3
        exact q4
      · intro h
        exact ⟨o,p,j,hk,rfl,by rw [Bh,hp],h⟩
    rw [HJ e])]
  exact EX ⟨fun h=>⟨hok,h1,h2,h3,h⟩,fun h=>h.2.2.2.2⟩
theorem Oy {t:Tsk} {x:Swp}:CD t x=some (bof (TaskOk t∧SymP t x)):=by
  unfold CD Cn
  rw [Am]
  by_cases hok:TaskOk t
  case neg=>rw [if_neg (fun h=>hok (CN.1 h)),Am,AM (fun h=>hok h.1)]
  rw [if_pos (CN.2 hok),Is hok,Am]
  by_cases h:SymP t x
  · rw [Bd h,Bj,Am,Bd ⟨hok,h⟩]
  · rw [AM h,BB,Am,AM (fun hh=>h hh.2)]
end
section
open Go Go.RowKit
theorem demand1 {t:Tsk} {x:Swp} (hok:TaskOk t):Bk t [x]=some ⟨if bof (SymP t x)=true then 0 else 2⟩:=by
  unfold Bk Cn
  rw [Am,if_neg (by rw [CN.2 hok];simp)]
  by_cases h:SymP t x
  · rw [IZ (fun k y hy=>by
      obtain rfl:y=x:=by simpa using List.mem_of_getElem? hy
      rw [Is hok,Am,Bd h,Bj]),Am,BP,Bd h,Bj]
  · have:rng (ρ:=Err) (fun (_:Nat) (a41:Swp) (_:Unit)=>bnd (Dm t a41) fun q77=>if q77=true then some (.next ()) else some (.ret (⟨2⟩:Err))) [x] 0 ()=some (.ret ⟨2⟩):=by
      simp only [rng]
      rw [Is hok,Am,AM h,BB]
    rw [this,Am,GE,AM h,BB]
def ImS (x:Swp) (s r:List Int):Prop:=r.length=s.length∧∀ (k:Nat) v,s[k]?=some v→∃ (a:Nat) (l:List Int) (z:Int),x.vars[k]?=some (a:Int)∧x.vals[k]?=some l∧atI l v=some z∧r[a]?=some z
theorem Lz {t:Tsk} {x:Swp} {s:List Int} (hok:TaskOk t) (hp:FactsPerm t x) (hs:StateOk t.vars s):∃ r,Cu x s=some r∧ImS x s r:=by
  obtain ⟨hsl,hsv⟩:=hs
  have hl:=hok.1
  unfold Cu
  rw [Gm (by omega) (by omega),Am]
  obtain ⟨r,h1,h2,h3⟩:=DD (ρ:=List Int) (f:=fun (k42:Nat) (a43:Int) (s40:(List Int))=>bnd (x.vars[k42]?) fun a65=>bnd (x.vals[k42]?) fun a75=>bnd (atI a75 a43) fun a88=>bnd (atI s40 a65) fun _=>some (.next (s40.set (a65).toNat a88))) (xs:=s) (s₀:=List.replicate s.length 0)
    (fun k r=>r.length=s.length∧∀ (j:Nat) v,j < k→s[j]?=some v→∃ (a:Nat) (l:List Int) (z:Int),x.vars[j]?=some (a:Int)∧x.vals[j]?=some l∧atI l v=some z∧r[a]?=some z) ⟨by simp,fun j v hj=>by omega⟩ (fun k v r hk hI=>by
    obtain ⟨i1,i2⟩:=hI
    have hlt:=AF hk
    obtain ⟨n,a,l,q1,q2,q3,q4,q5⟩:=hp.2.2 k (by omega)
    obtain ⟨ha1,ha2⟩:=hp.1.mem (List.mem_of_getElem? q2)
    obtain ⟨a,rfl⟩:=Int.eq_ofNat_of_zero_le ha1
    obtain ⟨h1,h2⟩:=hsv k v n hk q1
    obtain ⟨u,rfl⟩:=Int.eq_ofNat_of_zero_le h1
    obtain ⟨z,hz⟩:=AD (l:=l) (k:=u) (by rw [q5.len];omega)
    obtain ⟨y,hy⟩:=AD (l:=r) (k:=a) (by omega)
    rw [q2,Am,q3,Am,Bh,hz,Am,Bh,hy,Am]
    refine ⟨_,rfl,by simpa using i1,fun j v' hj hv'=>?_⟩
    rw [show ((a:Int)).toNat=a from by omega]
    by_cases hjk:j=k
    · subst hjk
      rw [hk] at hv'
      obtain rfl:=Option.some.inj hv'
      exact ⟨a,l,z,q2,q3,by rw [Bh,hz],by rw [List.getElem?_set_self (by omega)]⟩
    · obtain ⟨a',l',z',g1,g2,g3,g4⟩:=i2 j v' (by omega) hv'
      refine ⟨a',l',z',g1,g2,g3,?_⟩
      rw [List.getElem?_set_ne (fun e=>hjk ?_),g4]
      have hj1:=AF g1
      have hk1:=AF q2
      rw [e] at q2
      have:=g1.trans q2.symm
      rw [List.getElem?_eq_getElem hj1,List.getElem?_eq_getElem hk1] at this
      exact (List.getElem_inj hp.1.nodup).1 (Option.some.inj this))
  exact ⟨r,by rw [h1,Am,BP],h2,fun k v hk=>h3 k v (AF hk) hk⟩
theorem Kt (x:Swp) (s:List Int):DC x s=Cu x s:=rfl
end
section
open Go Go.RowKit
theorem Fx {l:List Int} {n:Nat} (h:PermR l n) {k:Nat} (hk:k < n):∃ a:Nat,l[k]?=some (a:Int)∧a < n:=by
  obtain ⟨z,hz⟩:=AD (l:=l) (k:=k) (by rw [h.len];exact hk)
  obtain ⟨h1,h2⟩:=h.mem (List.mem_of_getElem? hz)
  obtain ⟨a,rfl⟩:=Int.eq_ofNat_of_zero_le h1
  exact ⟨a,hz,by omega⟩
theorem Fh {l:List Int} {n:Nat} (h:PermR l n) {a:Nat} (ha:a < n):∃ k:Nat,k < n∧l[k]?=some (a:Int):=by
  have:(a:Int)∈l:=h.mem_iff.2 (Fo.2 ⟨by omega,by omega⟩)
  obtain ⟨k,hk⟩:=List.getElem?_of_mem this
  exact ⟨k,by rw [← h.len];exact AF hk,hk⟩
theorem Gt {l:List Int} {n:Nat} (h:PermR l n) {i j:Nat} {a:Int} (hi:l[i]?=some a) (hj:l[j]?=some a):i=j:=by
  have h1:=AF hi
  have h2:=AF hj
  have:=hi.trans hj.symm
  rw [List.getElem?_eq_getElem h1,List.getElem?_eq_getElem h2] at this
  exact (List.getElem_inj h.nodup).1 (Option.some.inj this)
theorem Ku {l:List Int} {n:Nat} (hl:l.length=n) (h1:∀ (k:Nat) (a:Int),l[k]?=some a→0≤a∧a < n) (h2:∀ (i j:Nat) (a:Int),l[i]?=some a→l[j]?=some a→i=j):PermR l n:=by
  refine Lx ?_ (fun x hx=>?_) hl
  · rw [List.nodup_iff_pairwise_ne,List.pairwise_iff_getElem]
    intro i j hi hj hij e
    have:=h2 i j l[i] (List.getElem?_eq_getElem hi) (by rw [List.getElem?_eq_getElem hj,e])
    omega
  · obtain ⟨k,hk⟩:=List.getElem?_of_mem hx
    exact h1 k x hk
theorem El {n k:Nat} (h:k < n):(rangeI n)[k]?=some (k:Int):=by
  unfold rangeI
  rw [List.getElem?_map,List.getElem?_range h];rfl
theorem GM (n:Nat):PermR (rangeI n) n:=List.Perm.refl _
theorem Kv {l:List Int} {n:Nat} (hl:l.length=n) (h:∀ k,k < n→l[k]?=some (k:Int)):l=rangeI n:=List.ext_getElem? fun k=>by
  by_cases hk:k < n
  · rw [h k hk,El hk]
  · rw [List.getElem?_eq_none (by omega),List.getElem?_eq_none (by rw [FZ];omega)]
theorem JV {n:Nat} (h:n≤1000000):CS (n:Int)=some (rangeI n):=by
  unfold CS
  rw [Gm (by omega) (by omega),Am,List.length_replicate]
  obtain ⟨s,h1,h2,h3⟩:=Lq (ρ:=List Int) (f:=fun (k20:Nat) (s18:(List Int))=>bnd (s18[k20]?) fun _=>some (.next (s18.set k20 (k20:Int)))) (N:=n) (s₀:=List.replicate n 0) (fun k s=>s.length=n∧∀ j,j < k→s[j]?=some (j:Int)) ⟨by simp,fun j hj=>by omega⟩ (fun k s hk hI=>by
    obtain ⟨i1,i2⟩:=hI
    obtain ⟨z,hz⟩:=AD (l:=s) (k:=k) (by omega)
    rw [hz,Am]
    refine ⟨_,rfl,by simpa using i1,fun j hj=>?_⟩
    rw [List.getElem?_set]
    by_cases e:k=j
    · rw [if_pos e,if_pos (by omega),e]
    · rw [if_neg e];exact i2 j (by omega))
  rw [h1,Am,BP,Kv h2 h3]
def alongL (a b:List Int):List Int:=a.map fun k=>(b[k.toNat]?).getD 0
theorem DL {a b:List Int} {n:Nat} (ha:PermR a n) (hb:b.length=n) {k i:Nat} {z:Int} (h1:a[k]?=some (i:Int)) (h2:b[i]?=some z):(alongL a b)[k]?=some z:=by
  unfold alongL
  rw [List.getElem?_map,h1]
  simp [h2]
theorem Jc {a b:List Int} {n:Nat} (ha:PermR a n) (hb:b.length=n) (hn:n≤1000000):CO a b=some (alongL a b):=by
  unfold CO
  have hl:=ha.len
  rw [Gm (by omega) (by omega),Am]
  obtain ⟨s,h1,h2,h3⟩:=DD (ρ:=List Int) (f:=fun (k26:Nat) (a27:Int) (s24:(List Int))=>bnd (atI b a27) fun a49=>bnd (s24[k26]?) fun _=>some (.next (s24.set k26 a49))) (xs:=a) (s₀:=List.replicate a.length 0) (fun k s=>s.length=a.length∧∀ j,j < k→s[j]?=(alongL a b)[j]?) ⟨by simp,fun j hj=>by omega⟩ (fun k y s hk hI=>by
    obtain ⟨i1,i2⟩:=hI
    have hlt:=AF hk
    obtain ⟨i,hi,hin⟩:=Fx ha (k:=k) (by omega)
    obtain rfl:y=(i:Int):=by rw [hi] at hk;exact (Option.some.inj hk).symm
    obtain ⟨z,hz⟩:=AD (l:=b) (k:=i) (by omega)
    obtain ⟨u,hu⟩:=AD (l:=s) (k:=k) (by omega)
    rw [Bh,hz,Am,hu,Am]
    refine ⟨_,rfl,by simpa using i1,fun j hj=>?_⟩
    rw [List.getElem?_set]
    by_cases e:k=j
    · subst e;rw [if_pos rfl,if_pos (by omega),DL ha hb hi hz]
    · rw [if_neg e];exact i2 j (by omega))
  rw [h1,Am,BP]
  refine congrArg some (List.ext_getElem? fun k=>?_)
  by_cases hk:k < a.length
  · exact h3 k hk
  · rw [List.getElem?_eq_none (by omega),List.getElem?_eq_none (by simp [alongL];omega)]
theorem Hm {a b:List Int} {n:Nat} (ha:PermR a n) (hb:PermR b n):PermR (alongL a b) n:=by
  have hl:(alongL a b).length=n:=by simp [alongL,ha.len]
  have key:∀ (k:Nat) (z:Int),(alongL a b)[k]?=some z→∃ i:Nat,a[k]?=some (i:Int)∧b[i]?=some z:=fun k z hz=>by
    obtain ⟨i,hi,hin⟩:=Fx ha (k:=k) (by rw [← hl];exact AF hz)
    obtain ⟨y,hy,_⟩:=Fx hb hin
    rw [DL ha hb.len hi hy] at hz
    exact ⟨i,hi,hy.trans hz⟩
  refine Ku hl (fun k z hz=>?_) (fun k j z h1 h2=>?_)
  · obtain ⟨i,hi,hz⟩:=key k z hz
    exact hb.mem (List.mem_of_getElem? hz)
  · obtain ⟨i,hi,hz⟩:=key k z h1
    obtain ⟨i',hi',hz'⟩:=key j z h2
    have:=Gt hb hz hz'
    subst this
    exact Gt ha hi hi'
noncomputable def backL (l:List Int):List Int:=(Cp l).getD []
theorem Ex {l:List Int} {n:Nat} (hp:PermR l n) (hn:n≤1000000):Cp l=some (backL l)∧(backL l).length=n∧∀ i k:Nat,l[i]?=some (k:Int)→(backL l)[k]?=some (i:Int):=by
  have hl:=hp.len
  have:∃ s,Cp l=some s∧s.length=n∧∀ i k:Nat,l[i]?=some (k:Int)→s[k]?=some (i:Int):=by
    unfold Cp
    rw [Gm (by omega) (by omega),Am]
    obtain ⟨s,h1,h2,h3⟩:=DD (ρ:=List Int) (f:=fun (k24:Nat) (a25:Int) (s22:(List Int))=>bnd (atI s22 a25) fun _=>some (.next (s22.set (a25).toNat (k24:Int)))) (xs:=l) (s₀:=List.replicate l.length 0) (fun k s=>s.length=n∧∀ i j:Nat,i < k→l[i]?=some (j:Int)→s[j]?=some (i:Int)) ⟨by simpa using hl,fun i j hi=>by omega⟩ (fun k y s hk hI=>by
      obtain ⟨i1,i2⟩:=hI
      have hlt:=AF hk
      obtain ⟨j,hj,hjn⟩:=Fx hp (k:=k) (by omega)
      obtain rfl:y=(j:Int):=by rw [hj] at hk;exact (Option.some.inj hk).symm
      obtain ⟨u,hu⟩:=AD (l:=s) (k:=j) (by omega)
      rw [Bh,hu,Am]
      refine ⟨_,rfl,by simpa using i1,fun i j' hi hij=>?_⟩
      rw [show ((j:Int)).toNat=j from by omega,List.getElem?_set]
      by_cases e:j=j'
      · subst e
        rw [if_pos rfl,if_pos (by omega),Gt hp hij hk]
      · rw [if_neg e]
        refine i2 i j' ?_ hij
        have:i≠k:=fun h=>e (by subst h;rw [hij] at hk;have:=Option.some.inj hk;omega)
        omega)
    exact ⟨s,by rw [h1,Am,BP],h2,fun i k h=>h3 i k (AF h) h⟩
  obtain ⟨s,h1,h2,h3⟩:=this
  have e:backL l=s:=by unfold backL;rw [h1];rfl
  rw [e];exact ⟨h1,h2,h3⟩
theorem Ic {l:List Int} {n:Nat} (hp:PermR l n) (hn:n≤1000000):PermR (backL l) n:=by
  obtain ⟨_,h2,h3⟩:=Ex hp hn
  have key:∀ (k:Nat) (z:Int),(backL l)[k]?=some z→∃ i:Nat,z=(i:Int)∧i < n∧l[i]?=some (k:Int):=fun k z hz=>by
    obtain ⟨i,hin,hi⟩:=Fh hp (a:=k) (by rw [← h2];exact AF hz)
    have:=h3 i k hi
    rw [hz] at this
    exact ⟨i,Option.some.inj this,hin,hi⟩
  refine Ku h2 (fun k z hz=>?_) (fun k j z g1 g2=>?_)
  · obtain ⟨i,rfl,hi,_⟩:=key k z hz;omega
  · obtain ⟨i,rfl,_,hi⟩:=key k z g1
    obtain ⟨i',e,_,hi'⟩:=key j _ g2
    obtain rfl:i=i':=by omega
    rw [hi] at hi'
    have:=Option.some.inj hi'
    omega
theorem Hn {l:List Int} {n:Nat} (hp:PermR l n) (hn:n≤1000000):alongL l (backL l)=rangeI n:=by
  obtain ⟨_,h2,h3⟩:=Ex hp hn
  refine Kv (by simp [alongL,hp.len]) fun k hk=>?_
  obtain ⟨a,ha,_⟩:=Fx hp hk
  exact DL hp h2 ha (h3 k a ha)
theorem JI {x:Swp} {v u a z:Nat} {l:List Int} (h1:x.vars[v]?=some (a:Int)) (h2:x.vals[v]?=some l) (h3:l[u]?=some (z:Int)):imF x ⟨v,u⟩=⟨a,z⟩:=by simp [imF,h1,h2,h3]
theorem Em {t:Tsk} {x:Swp} {f:Fct} (hok:TaskOk t) (hp:FactsPerm t x) (hf:FactOk t.vars f):∃ (v u n a z:Nat) (l:List Int),f=⟨v,u⟩∧v < t.vars.length∧t.vars[v]?=some (n:Int)∧n≤64∧u < n∧x.vars[v]?=some (a:Int)∧x.vals[v]?=some l∧PermR l n∧l[u]?=some (z:Int)∧z < n∧a < t.vars.length∧t.vars[a]?=some (n:Int)∧imF x f=⟨a,z⟩:=by
  obtain ⟨fv,fu⟩:=f
  obtain ⟨h1,h2,n,hn,h3⟩:=hf
  simp only at h1 h2 hn h3
  obtain ⟨v,rfl⟩:=Int.eq_ofNat_of_zero_le h1
  obtain ⟨u,rfl⟩:=Int.eq_ofNat_of_zero_le h2
  rw [show ((v:Int)).toNat=v from by omega] at hn
  have hlt:=AF hn
  obtain ⟨m,a,l,q1,q2,q3,q4,q5⟩:=hp.2.2 v hlt
  have e:(m:Int)=n:=by rw [hn] at q1;exact (Option.some.inj q1).symm
  subst e
  obtain ⟨ha1,ha2⟩:=hp.1.mem (List.mem_of_getElem? q2)
  obtain ⟨a,rfl⟩:=Int.eq_ofNat_of_zero_le ha1
  obtain ⟨z,hz,hzn⟩:=Fx q5 (k:=u) (by omega)
  have hm:=hok.2.2.1 v m hn
  rw [Bh] at q4
  exact ⟨v,u,m,a,z,l,rfl,hlt,hn,by omega,by omega,q2,q3,q5,hz,hzn,by omega,q4,JI q2 q3 hz⟩
theorem NC {t:Tsk} {x:Swp} {f:Fct} (hok:TaskOk t) (hp:FactsPerm t x) (hf:FactOk t.vars f):FactOk t.vars (imF x f):=by
  obtain ⟨v,u,n,a,z,l,rfl,_,_,_,_,_,_,_,_,hz,ha,hta,e⟩:=Em hok hp hf
  rw [e]
  exact ⟨by simp,by simp,n,by simpa using hta,by simpa using hz⟩
theorem LA {t:Tsk} {x:Swp} {fs:List Fct} (hok:TaskOk t) (hp:FactsPerm t x) (hf:FactsOk t.vars fs):(∀ f∈imL x fs,FactOk t.vars f)∧(imL x fs).Pairwise fun a b=>a.var < b.var:=by
  refine ⟨fun f h=>?_,Hl (MS hp hf)⟩
  have h:=(Dt _).mem_iff.1 h
  obtain ⟨g,hg,rfl⟩:=List.mem_map.1 h
  exact NC hok hp ((EF hf).1 g hg)
theorem ND {t:Tsk} {x:Swp} {fs gs:List Fct} (hp:FactsPerm t x) (hf:FactsOk t.vars fs) (hg:gs.Pairwise fun a b=>a.var < b.var) (h:gs.Perm (fs.map (imF x))):imL x fs=gs :=
  Kr ((Dt _).trans h.symm) (Hl (MS hp hf)) hg
theorem Jd {t:Tsk} {x y z:Swp} {fs:List Fct} (hok:TaskOk t) (hx:FactsPerm t x) (hy:FactsPerm t y) (hz:FactsPerm t z) (hf:FactsOk t.vars fs) (hgs:FactsOk t.vars (imL x fs)) (h:∀ f,FactOk t.vars f→imF z f=imF y (imF x f)):imL z fs=imL y (imL x fs):=by
  refine ND hz hf (LA hok hy hgs).2 ?_
  refine (Dt _).trans ?_
  have e:fs.map (imF z)=(fs.map (imF x)).map (imF y):=by
    rw [List.map_map]
    exact List.map_congr_left fun f hf'=>h f ((EF hf).1 f hf')
  rw [e]
  exact (Dt _).map _
theorem MT {vars:List Int} {f:List Fct} (h1:∀ x∈f,FactOk vars x) (h2:f.Pairwise fun x y=>x.var < y.var):FactsOk vars f:=by
  refine ⟨fun i x hx=>h1 x (List.mem_of_getElem? hx),fun i x y hx hy=>?_⟩
  obtain ⟨hi,rfl⟩:=List.getElem?_eq_some_iff.1 hx
  obtain ⟨hj,rfl⟩:=List.getElem?_eq_some_iff.1 hy
  exact List.pairwise_iff_getElem.1 h2 i (i + 1) hi hj (Nat.lt_succ_self i)
theorem Id {t:Tsk} {x:Swp} {fs:List Fct} (hok:TaskOk t) (hp:FactsPerm t x) (hf:FactsOk t.vars fs):FactsOk t.vars (imL x fs):=MT (LA hok hp hf).1 (LA hok hp hf).2
theorem Ho {t:Tsk} {x:Swp} {fs:List Fct} (hp:FactsPerm t x) (hf:FactsOk t.vars fs) (h:∀ f,FactOk t.vars f→imF x f=f):imL x fs=fs:=by
  refine ND hp hf (EF hf).2 ?_
  have:fs.map (imF x)=fs.map id:=List.map_congr_left fun f hf'=>h f ((EF hf).1 f hf')
  rw [this,List.map_id]
theorem LB {t:Tsk} {x y z:Swp} {e:Eff} (hok:TaskOk t) (hx:FactsPerm t x) (hy:FactsPerm t y) (hz:FactsPerm t z) (he:EffOk t.vars e) (h:∀ f,FactOk t.vars f→imF z f=imF y (imF x f)):imE z e=imE y (imE x e):=by
  have h1:=Jd hok hx hy hz he.1 (Id hok hx he.1) h
  have h2:=h ⟨e.var,e.val⟩ he.2
  show (⟨imL z e.cond,(imF z ⟨e.var,e.val⟩).var,(imF z ⟨e.var,e.val⟩).val⟩:Eff)=⟨imL y (imL x e.cond),(imF y (imF x ⟨e.var,e.val⟩)).var,(imF y (imF x ⟨e.var,e.val⟩)).val⟩
  rw [h1,h2]
theorem LC {t:Tsk} {x:Swp} {e:Eff} (hp:FactsPerm t x) (he:EffOk t.vars e) (h:∀ f,FactOk t.vars f→imF x f=f):imE x e=e:=by
  show (⟨imL x e.cond,(imF x ⟨e.var,e.val⟩).var,(imF x ⟨e.var,e.val⟩).val⟩:Eff)=e
  rw [Ho hp he.1 h,h _ he.2]
theorem It {vars:List Int} {o:Opr} (ho:OpOk vars o):∀ e∈o.effs,EffOk vars e:=fun e he=>by
  obtain ⟨j,hj⟩:=List.getElem?_of_mem he
  exact ho.2.2.2.2.2 j e hj
def idX (t:Tsk):Swp:=⟨rangeI t.vars.length,t.vars.map fun n=>rangeI n.toNat,rangeI t.ops.length⟩
theorem Ey {t:Tsk} (hok:TaskOk t):FactsPerm t (idX t):=by
  refine ⟨GM _,by simp [idX],fun k hk=>?_⟩
  obtain ⟨n,hn⟩:=AD (l:=t.vars) (k:=k) hk
  have:=hok.2.2.1 k n hn
  obtain ⟨m,rfl⟩:=Int.eq_ofNat_of_zero_le (by omega:0≤n)
  exact ⟨m,k,rangeI m,hn,El hk,by simp [idX,hn],by rw [Bh,hn],GM _⟩
theorem Fy {t:Tsk} (hok:TaskOk t) {f:Fct} (hf:FactOk t.vars f):imF (idX t) f=f:=by
  obtain ⟨v,u,n,a,z,l,rfl,h1,h2,_,hu,h3,h4,_,h5,_,_,_,e⟩:=Em hok (Ey hok) hf
  have e1:(idX t).vars[v]?=some (v:Int):=El h1
  have e2:(idX t).vals[v]?=some (rangeI n):=by simp [idX,h2]
  exact JI e1 e2 (El hu)
theorem NE {t:Tsk} (hok:TaskOk t):SymP t (idX t):=by
  refine ⟨Ey hok,GM _,Ho (Ey hok) hok.2.2.2.2.1 fun f=>Fy hok,fun k hk=>?_⟩
  obtain ⟨o,ho⟩:=AD (l:=t.ops) (k:=k) hk
  have hoo:=hok.2.2.2.2.2 k o ho
  refine ⟨o,o,k,ho,El hk,by rw [Bh,ho],rfl,Ho (Ey hok) hoo.2.2.2.2.1 fun f=>Fy hok,?_⟩
  have:o.effs.map (imE (idX t))=o.effs.map id:=List.map_congr_left fun e he=>LC (Ey hok) (It hoo e he) fun f=>Fy hok
  rw [this,List.map_id]
theorem demand0 {t:Tsk} (hok:TaskOk t):Bk t []=some ⟨0⟩:=by
  unfold Bk Cn
  rw [Am,if_neg (by rw [CN.2 hok];simp)]
  rfl
theorem demand2 {t:Tsk} {x y:Swp} (hok:TaskOk t):Bk t [x,y]=some ⟨if bof (SymP t x∧SymP t y)=true then 0 else 2⟩:=by
  unfold Bk Cn
  rw [Am,if_neg (by rw [CN.2 hok];simp)]
  simp only [rng]
  rw [Is hok,Is hok,Am,Am]
  by_cases hx:SymP t x
  · rw [Bd hx,Bj]
    by_cases hy:SymP t y
    · rw [Bd hy,Bj,Bd (p:=SymP t x∧SymP t y) ⟨hx,hy⟩];rfl
    · rw [AM hy,BB,AM (p:=SymP t x∧SymP t y) (fun h=>hy h.2)];rfl
  · rw [AM hx,BB,AM (p:=SymP t x∧SymP t y) (fun h=>hx h.1)];rfl
def compX (x y:Swp):Swp:=⟨alongL x.vars y.vars,x.vals.mapIdx fun v l=>alongL l ((y.vals[((x.vars[v]?).getD 0).toNat]?).getD []),alongL x.ops y.ops⟩
theorem FK {x y:Swp} {v a:Nat} {l m:List Int} (h1:x.vars[v]?=some (a:Int)) (h2:x.vals[v]?=some l) (h3:y.vals[a]?=some m):(compX x y).vals[v]?=some (alongL l m):=by
  simp [compX,List.getElem?_mapIdx,h1,h2,h3]
theorem NF {t:Tsk} {x y:Swp} (hx:FactsPerm t x) (hy:FactsPerm t y):FactsPerm t (compX x y):=by
  refine ⟨Hm hx.1 hy.1,by simp [compX,hx.2.1],fun k hk=>?_⟩
  obtain ⟨n,a,l,q1,q2,q3,q4,q5⟩:=hx.2.2 k hk
  obtain ⟨ha1,ha2⟩:=hx.1.mem (List.mem_of_getElem? q2)
  obtain ⟨a,rfl⟩:=Int.eq_ofNat_of_zero_le ha1
  obtain ⟨n',b,m,p1,p2,p3,p4,p5⟩:=hy.2.2 a (by omega)
  rw [Bh] at q4
  have e:n=n':=by rw [q4] at p1;have:=Option.some.inj p1;omega
  subst e
  exact ⟨n,b,alongL l m,q1,DL hx.1 hy.1.len q2 p2,FK q2 q3 p3,p4,Hm q5 p5⟩
theorem NG {t:Tsk} {x y:Swp} (hok:TaskOk t) (hx:FactsPerm t x) (hy:FactsPerm t y) {f:Fct} (hf:FactOk t.vars f):imF (compX x y) f=imF y (imF x f):=by
  obtain ⟨v,u,n,a,z,l,rfl,h1,h2,h3,hu,h4,h5,h6,h7,h8,h9,h10,e⟩:=Em hok hx hf
  have hf2:=NC hok hx hf
  rw [e] at hf2 ⊢
  obtain ⟨v',u',n',a',z',l',e',g1,g2,g3,gu,g4,g5,g6,g7,g8,g9,g10,e2⟩:=Em hok hy hf2
  have e3:v'=a:=by have:=congrArg Fct.var e';simp at this;omega
  have e4:u'=z:=by have:=congrArg Fct.val e';simp at this;omega
  subst e3 e4
  rw [e2]
  have hn:n'=n:=by rw [g2] at h10;have:=Option.some.inj h10;omega
  subst hn
  exact JI (DL hx.1 hy.1.len h4 g4) (FK h4 h5 g5) (DL h6 g6.len h7 g7)
theorem Fi {t:Tsk} {x:Swp} (hx:SymP t x) {k:Nat} (hk:k < t.ops.length):∃ (o p:Opr) (a:Nat),t.ops[k]?=some o∧x.ops[k]?=some (a:Int)∧a < t.ops.length∧t.ops[a]?=some p∧o.cost=p.cost∧imL x o.pre=p.pre∧o.effs.map (imE x)=p.effs:=by
  obtain ⟨o,p,a,h1,h2,h3,h4⟩:=hx.2.2.2 k hk
  obtain ⟨ha1,ha2⟩:=hx.2.1.mem (List.mem_of_getElem? h2)
  obtain ⟨a,rfl⟩:=Int.eq_ofNat_of_zero_le ha1
  rw [Bh] at h3
  exact ⟨o,p,a,h1,h2,by omega,h3,h4⟩
theorem LD {t:Tsk} {x y:Swp} (hok:TaskOk t) (hx:SymP t x) (hy:SymP t y):SymP t (compX x y):=by
  have hz:=NF hx.1 hy.1
  have hc:∀ f,FactOk t.vars f→imF (compX x y) f=imF y (imF x f):=fun f=>NG hok hx.1 hy.1
  have hL:∀ fs,FactsOk t.vars fs→imL (compX x y) fs=imL y (imL x fs):=fun fs hf=>Jd hok hx.1 hy.1 hz hf (Id hok hx.1 hf) hc
  refine ⟨hz,Hm hx.2.1 hy.2.1,by rw [hL _ hok.2.2.2.2.1,hx.2.2.1,hy.2.2.1],fun k hk=>?_⟩
  obtain ⟨o,p,a,h1,h2,ha,h3,h4,h5,h6⟩:=Fi hx hk
  obtain ⟨p',q,b,g1,g2,hb,g3,g4,g5,g6⟩:=Fi hy ha
  obtain rfl:p=p':=by rw [g1] at h3;exact (Option.some.inj h3).symm
  have hoo:=hok.2.2.2.2.2 k o h1
  refine ⟨o,q,b,h1,DL hx.2.1 hy.2.1.len h2 g2,by rw [Bh,g3],h4.trans g4,by rw [hL _ hoo.2.2.2.2.1,h5,g5],?_⟩
  have:o.effs.map (imE (compX x y))=o.effs.map (imE y ∘ imE x):=List.map_congr_left fun e he=>LB hok hx.1 hy.1 hz (It hoo e he) hc
  rw [this,← List.map_map,h6,g6]
noncomputable def invX (x:Swp):Swp:=⟨backL x.vars,(List.range x.vals.length).map fun w=>backL ((x.vals[(((backL x.vars)[w]?).getD 0).toNat]?).getD []),backL x.ops⟩
theorem Hp {t:Tsk} {x:Swp} (hok:TaskOk t) (hx:FactsPerm t x) {v a:Nat} {l:List Int} (h1:x.vars[v]?=some (a:Int)) (h2:x.vals[v]?=some l):(invX x).vals[a]?=some (backL l):=by
  obtain ⟨_,h4,h5⟩:=Ex hx.1 (by have:=hok.1;omega)
  have:=hx.1.mem (List.mem_of_getElem? h1)
  have h6:=h5 v a h1
  show ((List.range x.vals.length).map _)[a]?=_
  rw [List.getElem?_map,List.getElem?_range (by rw [hx.2.1];omega)]
  simp [h6,h2]
theorem Je {t:Tsk} {x:Swp} (hok:TaskOk t) (hx:FactsPerm t x):FactsPerm t (invX x):=by
  have hl:t.vars.length≤1000000:=by have:=hok.1;omega
  refine ⟨Ic hx.1 hl,by simp [invX,hx.2.1],fun k hk=>?_⟩
  obtain ⟨v,hv,hvk⟩:=Fh hx.1 hk
  obtain ⟨n,a,l,q1,q2,q3,q4,q5⟩:=hx.2.2 v hv
  obtain rfl:a=(k:Int):=by rw [hvk] at q2;exact (Option.some.inj q2).symm
  rw [Bh] at q4
  have hn:=hok.2.2.1 v n q1
  obtain ⟨_,h4,h5⟩:=Ex hx.1 hl
  exact ⟨n,v,backL l,q4,h5 v k hvk,Hp hok hx hvk q3,by rw [Bh,q1],Ic q5 (by omega)⟩
theorem LE {t:Tsk} {x:Swp} (hok:TaskOk t) (hx:FactsPerm t x) {f:Fct} (hf:FactOk t.vars f):imF (invX x) (imF x f)=f:=by
  obtain ⟨v,u,n,a,z,l,rfl,h1,h2,h3,hu,h4,h5,h6,h7,h8,h9,h10,e⟩:=Em hok hx hf
  rw [e]
  have hl:t.vars.length≤1000000:=by have:=hok.1;omega
  exact JI ((Ex hx.1 hl).2.2 v a h4) (Hp hok hx h4 h5) ((Ex h6 (by omega)).2.2 u z h7)
theorem LF {t:Tsk} {x:Swp} (hok:TaskOk t) (hx:FactsPerm t x) {fs:List Fct} (hf:FactsOk t.vars fs):imL (invX x) (imL x fs)=fs:=by
  rw [← Jd hok hx (Je hok hx) (Ey hok) hf (Id hok hx hf) (fun f hf=>by rw [LE hok hx hf,Fy hok hf])]
  exact Ho (Ey hok) hf fun f=>Fy hok
theorem PK {t:Tsk} {x:Swp} (hok:TaskOk t) (hx:FactsPerm t x) {e:Eff} (he:EffOk t.vars e):imE (invX x) (imE x e)=e:=by
  rw [← LB hok hx (Je hok hx) (Ey hok) he (fun f hf=>by rw [LE hok hx hf,Fy hok hf])]
  exact LC (Ey hok) he fun f=>Fy hok
theorem JW {t:Tsk} {x:Swp} (hok:TaskOk t) (hx:SymP t x):SymP t (invX x):=by
  have hl:t.ops.length≤1000000:=by have:=hok.2.1;omega
  refine ⟨Je hok hx.1,Ic hx.2.1 hl,?_,fun k hk=>?_⟩
  · have:=LF hok hx.1 hok.2.2.2.2.1
    rwa [hx.2.2.1] at this
  · obtain ⟨j,hj,hjk⟩:=Fh hx.2.1 hk
    obtain ⟨o,p,a,h1,h2,ha,h3,h4,h5,h6⟩:=Fi hx hj
    obtain rfl:a=k:=by rw [hjk] at h2;have:=Option.some.inj h2;omega
    have hoo:=hok.2.2.2.2.2 j o h1
    refine ⟨p,o,j,h3,(Ex hx.2.1 hl).2.2 j a hjk,by rw [Bh,h1],h4.symm,by rw [← h5,LF hok hx.1 hoo.2.2.2.2.1],?_⟩
    rw [← h6,List.map_map]
    have:o.effs.map (imE (invX x) ∘ imE x)=o.effs.map id:=List.map_congr_left fun e he=>PK hok hx.1 (It hoo e he)
    rw [this,List.map_id]
theorem Oz {t:Tsk} {x:Swp} (hok:TaskOk t) (hx:SymP t x):compX x (invX x)=idX t:=by
  have hl:t.vars.length≤1000000:=by have:=hok.1;omega
  have hl2:t.ops.length≤1000000:=by have:=hok.2.1;omega
  have h1:(compX x (invX x)).vars=(idX t).vars:=Hn hx.1.1 hl
  have h2:(compX x (invX x)).ops=(idX t).ops:=Hn hx.2.1 hl2
  have h3:(compX x (invX x)).vals=(idX t).vals:=List.ext_getElem? fun k=>by
    by_cases hk:k < t.vars.length
    · obtain ⟨n,a,l,q1,q2,q3,q4,q5⟩:=hx.1.2.2 k hk
      obtain ⟨ha1,ha2⟩:=hx.1.1.mem (List.mem_of_getElem? q2)
      obtain ⟨a,rfl⟩:=Int.eq_ofNat_of_zero_le ha1
      have hn:=hok.2.2.1 k n q1
      rw [FK q2 q3 (Hp hok hx.1 q2 q3),Hn q5 (by omega)]
      simp [idX,q1]
    · rw [List.getElem?_eq_none (by simp [compX,hx.1.2.1];omega),List.getElem?_eq_none (by simp [idX];omega)]
  cases h:compX x (invX x)
  rw [h] at h1 h2 h3
  cases h':idX t
  rw [h'] at h1 h2 h3
  simp_all
theorem LG {t:Tsk} {x:Swp} {s r r':List Int} (hx:FactsPerm t x) (hs:s.length=t.vars.length) (h:ImS x s r) (h':ImS x s r'):r=r':=List.ext_getElem? fun a=>by
  by_cases ha:a < t.vars.length
  · obtain ⟨v,hv,hva⟩:=Fh hx.1 ha
    obtain ⟨u,hu⟩:=AD (l:=s) (k:=v) (by omega)
    obtain ⟨b,l,z,q1,q2,q3,q4⟩:=h.2 v u hu
    obtain ⟨b',l',z',p1,p2,p3,p4⟩:=h'.2 v u hu
    obtain rfl:b=a:=by rw [hva] at q1;have:=Option.some.inj q1;omega
    obtain rfl:b'=b:=by rw [hva] at p1;have:=Option.some.inj p1;omega
    obtain rfl:l=l':=by rw [q2] at p2;exact Option.some.inj p2
    rw [q4,p4];rw [q3] at p3;exact p3
  · rw [List.getElem?_eq_none (by rw [h.1];omega),List.getElem?_eq_none (by rw [h'.1];omega)]
theorem NH {t:Tsk} {x:Swp} {s r:List Int} (hx:FactsPerm t x) (hs:StateOk t.vars s) (h:ImS x s r):StateOk t.vars r:=by
  refine ⟨h.1.trans hs.1,fun a z n hz hn=>?_⟩
  obtain ⟨v,hv,hva⟩:=Fh hx.1 (AF hn)
  obtain ⟨u,hu⟩:=AD (l:=s) (k:=v) (by rw [hs.1];exact hv)
  obtain ⟨b,l,z',q1,q2,q3,q4⟩:=h.2 v u hu
  obtain rfl:b=a:=by rw [hva] at q1;have:=Option.some.inj q1;omega
  obtain ⟨m,b',l',p1,p2,p3,p4,p5⟩:=hx.2.2 v hv
  obtain rfl:b'=(b:Int):=by rw [hva] at p2;exact (Option.some.inj p2).symm
  obtain rfl:l=l':=by rw [q2] at p3;exact Option.some.inj p3
  rw [Bh,hn] at p4
  rw [q4] at hz
  obtain rfl:=Option.some.inj hz
  obtain ⟨j,_,hj⟩:=Fs q3
  have:=p5.mem (List.mem_of_getElem? hj)
  have:=Option.some.inj p4
  omega
theorem Jf {t:Tsk} {x y:Swp} {s a b:List Int} (hx:FactsPerm t x) (hy:FactsPerm t y) (hs:StateOk t.vars s) (ha:ImS x s a) (hb:ImS y a b):ImS (compX x y) s b:=by
  refine ⟨hb.1.trans ha.1,fun k v hk=>?_⟩
  obtain ⟨i,l,z,q1,q2,q3,q4⟩:=ha.2 k v hk
  obtain ⟨j,m,z',p1,p2,p3,p4⟩:=hb.2 i z q4
  obtain ⟨c,rfl,hc⟩:=Fs q3
  obtain ⟨d,rfl,hd⟩:=Fs p3
  have hkl:k < t.vars.length:=by rw [← hs.1];exact AF hk
  obtain ⟨n,a',l',u1,u2,u3,u4,u5⟩:=hx.2.2 k hkl
  obtain rfl:l=l':=by rw [q2] at u3;exact Option.some.inj u3
  obtain rfl:a'=(i:Int):=by rw [q1] at u2;exact (Option.some.inj u2).symm
  have hil:i < t.vars.length:=by have:=hx.1.mem (List.mem_of_getElem? q1);omega
  obtain ⟨n',b',m',w1,w2,w3,w4,w5⟩:=hy.2.2 i hil
  obtain rfl:m=m':=by rw [p2] at w3;exact Option.some.inj w3
  rw [Bh] at u4
  have e:n=n':=by rw [u4] at w1;have:=Option.some.inj w1;omega
  subst e
  exact ⟨j,alongL l m,z',DL hx.1 hy.1.len q1 p1,FK q1 q2 p2,by rw [Bh,DL u5 w5.len hc hd],p4⟩
theorem LH {t:Tsk} {s:List Int} (hok:TaskOk t) (hs:StateOk t.vars s):ImS (idX t) s s:=by
  refine ⟨rfl,fun k v hk=>?_⟩
  have hkl:k < t.vars.length:=by rw [← hs.1];exact AF hk
  obtain ⟨n,hn⟩:=AD (l:=t.vars) (k:=k) hkl
  obtain ⟨h1,h2⟩:=hs.2 k v n hk hn
  obtain ⟨v,rfl⟩:=Int.eq_ofNat_of_zero_le h1
  obtain ⟨n,rfl⟩:=Int.eq_ofNat_of_zero_le (by omega:0≤n)
  exact ⟨k,rangeI n,v,El hkl,by simp [idX,hn],by rw [Bh,El (by omega)],hk⟩
end
section
open Go Go.RowKit
theorem PL (a b:Int):Dn a b=some (Lib.compareInt a b):=by
  unfold Dn DK
  rcases Ek a b with ⟨h1,h2⟩|⟨h1,h2⟩|⟨h1,h2⟩
  · simp [bnd,h1,h2]
  · subst h1;simp [bnd,h2]
  · have:¬ a < b:=by omega
    simp [bnd,h1,h2,this]
theorem PM (xs ys:List Int):BY xs ys=some (cfL xs ys):=by
  have:∃ r,BY xs ys=some r∧r=cfL xs ys:=by
    unfold BY
    refine JF (fun m _=>m≤ys.length∧cfL xs ys=cfL (xs.drop m) (ys.drop m)) (fun r=>r=cfL xs ys) ⟨Nat.zero_le _,rfl⟩ ?_ ?_ (fun q hq=>⟨_,rfl,hq⟩)
    · rintro m x _ hx ⟨h1,h2⟩
      by_cases hge:(ys.length:Int)≤(m:Int)
      · rw [if_pos hge]
        refine .inr ⟨_,rfl,?_⟩
        rw [h2,IX (l:=ys) (by omega),List.drop_eq_getElem_cons (AF hx)]
        rfl
      · rw [if_neg hge]
        obtain ⟨y,hy⟩:=Fg (l:=ys) (k:=m) (by omega)
        have hst:=Lk hx hy
        rw [hy,Am,PL,Am]
        by_cases hc:Lib.compareInt x y≠0
        · rw [if_pos hc]
          rw [if_pos hc] at hst
          exact .inr ⟨_,rfl,by rw [h2,hst]⟩
        · rw [if_neg hc]
          rw [if_neg hc] at hst
          exact .inl ⟨(),rfl,by omega,by rw [h2,hst]⟩
    · rintro _ ⟨h1,h2⟩
      rw [BP]
      rw [List.drop_length] at h2
      by_cases hll:(xs.length:Int) < (ys.length:Int)
      · rw [if_pos hll]
        refine ⟨_,rfl,?_⟩
        rw [h2,List.drop_eq_getElem_cons (l:=ys) (i:=xs.length) (by omega)]
        rfl
      · rw [if_neg hll]
        refine ⟨_,rfl,?_⟩
        rw [h2,IX (l:=ys) (by omega)]
        rfl
  obtain ⟨r,h1,h2⟩:=this
  rw [h1,h2]
theorem PN {xs ys:List Int} (hl:xs.length=ys.length):Eb xs ys=some (decide (cfL xs ys < 0)):=by
  have:∃ r,Eb xs ys=some r∧r=decide (cfL xs ys < 0):=by
    unfold Eb
    refine JF (fun m _=>cfL xs ys=cfL (xs.drop m) (ys.drop m)) (fun r=>r=decide (cfL xs ys < 0)) rfl ?_ ?_ (fun q hq=>⟨_,rfl,hq⟩)
    · rintro m x _ hx h2
      obtain ⟨y,hy⟩:=Fg (l:=ys) (k:=m) (by have:=AF hx;omega)
      have hst:=Lk hx hy
      rw [hy,Am]
      rcases Ek x y with ⟨p1,p2⟩|⟨p1,p2⟩|⟨p1,p2⟩
      · rw [if_pos (by omega),Am,if_pos p1,Am]
        rw [p2] at hst
        exact .inr ⟨_,rfl,by rw [h2,hst];rfl⟩
      · rw [if_neg (by omega)]
        rw [p2] at hst
        exact .inl ⟨(),rfl,by rw [h2,hst];rfl⟩
      · rw [if_pos (by omega),Am,if_neg (by omega),Am]
        rw [p2] at hst
        exact .inr ⟨_,rfl,by rw [h2,hst];rfl⟩
    · intro _ h2
      refine ⟨_,rfl,?_⟩
      rw [List.drop_length,IX (l:=ys) (by omega)] at h2
      rw [h2];rfl
  obtain ⟨r,h1,h2⟩:=this
  rw [h1,h2]
def txt (s:List Int):ByteArray:=strB (s.map bw)
end
section
open Go Go.RowKit
noncomputable def imS (x:Swp) (s:List Int):List Int:=(Cu x s).getD []
theorem Gu {t:Tsk} {x:Swp} {s:List Int} (hok:TaskOk t) (hp:FactsPerm t x) (hs:StateOk t.vars s):Cu x s=some (imS x s)∧ImS x s (imS x s)∧StateOk t.vars (imS x s):=by
  obtain ⟨r,h1,h2⟩:=Lz hok hp hs
  have:imS x s=r:=by unfold imS;rw [h1];rfl
  rw [this]
  exact ⟨h1,h2,NH hp hs h2⟩
def muL (vars s:List Int):Nat:=((statesL vars).filter fun x=>decide (cfL x s < 0)).length
theorem Kw {α:Type} {p q:α→Bool}:∀ {l:List α},(∀ x∈l,p x=true→q x=true)→(∃ x∈l,q x=true∧p x=false)→(l.filter p).length < (l.filter q).length
  | [],_,h=>by obtain ⟨x,hx,_⟩:=h;cases hx
  | y :: l,hsub,⟨x,hx,h1,h2⟩=>by
    have hle:(l.filter p).length≤(l.filter q).length:=by
      clear hx
      induction l with
      | nil=>simp
      | cons z l ih =>
        have ihh:=ih fun a ha=>hsub a (by rcases List.mem_cons.1 ha with rfl|ha;exact List.mem_cons_self;exact List.mem_cons_of_mem _ (List.mem_cons_of_mem _ ha))
        have hz:=hsub z (List.mem_cons_of_mem _ List.mem_cons_self)
        rw [List.filter_cons,List.filter_cons]
        cases hp:p z with
        | true=>rw [hz hp];simp;omega
        | false=>cases q z<;>simp<;>omega
    rw [List.filter_cons,List.filter_cons]
    rcases List.mem_cons.1 hx with rfl|hx
    · rw [h1,h2];simp;omega
    · have ih:=Kw (l:=l) (fun a ha=>hsub a (List.mem_cons_of_mem _ ha)) ⟨x,hx,h1,h2⟩
      have hy:=hsub y List.mem_cons_self
      cases hp:p y with
      | true=>rw [hy hp];simp;omega
      | false=>cases q y<;>simp<;>omega
theorem QD {vars s r:List Int} (hr:StateOk vars r) (h:cfL r s < 0):muL vars r < muL vars s:=by
  refine Kw (fun x _ hx=>?_) ⟨r,GI.2 hr,by simpa using h,by rw [IY];simp⟩
  simp at hx ⊢
  have h3:=HT (Int.le_of_lt hx) (Int.le_of_lt h)
  rcases Int.lt_or_eq_of_le h3 with h4|h4
  · exact h4
  · exfalso
    have:=Np h4
    rw [← this,Mk] at h
    omega
noncomputable def canF (x1:List Swp):(List Int)×(List Int)×Int→Option (Ctl ((List Int)×(List Int)×Int) ((List Int)×(List Int)×Err)) :=
  fun (s58:(List Int)×(List Int)×Int)=>if s58.2.2 < (x1.length:Int) then (bnd (atI x1 s58.2.2) fun a84=>bnd (Cu a84 s58.1) fun q107=>bnd (BY q107 s58.1) fun q116=>if 0≤q116 then (bnd (chkI (s58.2.2 + 1)) fun n125=>some (.next (s58.1,s58.2.1,n125))) else (bnd (appI 8 s58.2.1 [s58.2.2]) fun u128=>some (.next (q107,u128,0)))) else (some (.brk (s58.1,s58.2.1,s58.2.2)))
noncomputable def canG (x0:List Swp):(List Int)×(List Int)→Option (Ctl ((List Int)×(List Int)) ((List Int)×(List Int))) :=
  fun (s9:(List Int)×(List Int))=>bnd (rng (ρ:=Ctl ((List Int)×(List Int)) ((List Int)×(List Int))) (fun (k34:Nat) (a35:Swp) (s32:Int)=>bnd (if s32 < 0 then (bnd (DC a35 s9.1) fun q71=>bnd (Eb q71 s9.1) fun q80=>if q80=true then some true else some false) else (some false):Option Bool) fun y47=>if y47=true then (some (.next (k34:Int))) else (some (.next s32))) x0 0 (-1)) fun res30=>fin res30 fun (s96:Int)=>if s96 < 0 then (some (.ret (s9.1,s9.2))) else (bnd (atI x0 s96) fun a101=>bnd (DC a101 s9.1) fun q124=>bnd (appI 8 s9.2 [s96]) fun u133=>some (.next (q124,u133)))
def FstL (gens:List Swp) (s:List Int) (k:Nat):Prop:=∃ x,gens[k]?=some x∧cfL (imS x s) s < 0
theorem NI {t:Tsk} (hok:TaskOk t) {gens:List Swp} (hg:∀ x∈gens,SymP t x) (hgl:gens.length≤1000) {s used:List Int} (hs:StateOk t.vars s) (hu:used.length≤100000):∀ (n k:Nat),gens.length - k=n→k≤gens.length →
    ((∀ j,k≤j→¬ FstL gens s j)∧lop (canF gens) (s,used,(k:Int))=some (.done (s,used,(gens.length:Int))))∨∃ m x,k≤m∧(∀ j,k≤j→j < m→¬ FstL gens s j)∧gens[m]?=some x∧cfL (imS x s) s < 0∧lop (canF gens) (s,used,(k:Int))=lop (canF gens) (imS x s,used ++ [(m:Int)],0):=by
  intro n
  induction n with
  | zero =>
    intro k hk hkl
    have:k=gens.length:=by omega
    subst this
    refine .inl ⟨fun j hj hf=>by obtain ⟨x,hx,_⟩:=hf;have:=AF hx;omega,?_⟩
    rw [CZ]
    simp only [canF]
    rw [if_neg (by omega)]
  | succ n ih =>
    intro k hk hkl
    obtain ⟨x,hx⟩:=Fg (l:=gens) (k:=k) (by omega)
    obtain ⟨h1,h2,h3⟩:=Gu hok (hg x (List.mem_of_getElem? hx)).1 hs
    have hkl':=AF hx
    have step:canF gens (s,used,(k:Int))=if 0≤cfL (imS x s) s then some (.next (s,used,(k:Int) + 1)) else some (.next (imS x s,used ++ [(k:Int)],0)):=by
      simp only [canF]
      rw [if_pos (by omega),Bh,hx,Am,h1,Am,PM,Am,CT (by unfold inI64;omega),Am,CF (by simp;omega) (by simp;omega),Am]
    by_cases hc:0≤cfL (imS x s) s
    · have e1:lop (canF gens) (s,used,(k:Int))=lop (canF gens) (s,used,((k + 1:Nat):Int)):=by
        rw [CZ,step,if_pos hc]
        simp
      have hnot:¬ FstL gens s k:=fun ⟨y,hy,hlt⟩=>by
        rw [hx] at hy
        obtain rfl:=Option.some.inj hy
        omega
      rcases ih (k + 1) (by omega) (by omega) with ⟨g1,g2⟩|⟨m,y,g1,g2,g3,g4,g5⟩
      · refine .inl ⟨fun j hj=>?_,by rw [e1,g2]⟩
        by_cases e:j=k
        · subst e;exact hnot
        · exact g1 j (by omega)
      · refine .inr ⟨m,y,by omega,fun j hj hjm=>?_,g3,g4,by rw [e1,g5]⟩
        by_cases e:j=k
        · subst e;exact hnot
        · exact g2 j (by omega) hjm
    · refine .inr ⟨k,x,Nat.le_refl _,fun j h1 h2=>by omega,hx,by omega,?_⟩
      rw [CZ,step,if_neg hc]
theorem Kx {t:Tsk} (hok:TaskOk t) {gens:List Swp} (hg:∀ x∈gens,SymP t x) {s used:List Int} (hs:StateOk t.vars s) (hu:used.length≤100000) :
    ((∀ j,¬ FstL gens s j)∧canG gens (s,used)=some (.ret (s,used)))∨∃ (m:Nat) (x:Swp),(∀ j,j < m→¬ FstL gens s j)∧gens[m]?=some x∧cfL (imS x s) s < 0∧canG gens (s,used)=some (.next (imS x s,used ++ [(m:Int)])):=by
  have key:=DD (ρ:=Ctl ((List Int)×(List Int)) ((List Int)×(List Int))) (xs:=gens) (s₀:=(-1:Int)) (f:=fun (k34:Nat) (a35:Swp) (s32:Int)=>bnd (if s32 < 0 then (bnd (DC a35 s) fun q71=>bnd (Eb q71 s) fun q80=>if q80=true then some true else some false) else (some false):Option Bool) fun y47=>if y47=true then (some (.next (k34:Int))) else (some (.next s32))) (fun m a=>(a=-1∧∀ j,j < m→¬ FstL gens s j)∨∃ (q:Nat) (x:Swp),a=(q:Int)∧(∀ j,j < q→¬ FstL gens s j)∧gens[q]?=some x∧cfL (imS x s) s < 0) (.inl ⟨rfl,fun j hj=>by omega⟩) (fun k x a hx hI=>by
      obtain ⟨h1,h2,h3⟩:=Gu hok (hg x (List.mem_of_getElem? hx)).1 hs
      rcases hI with ⟨rfl,hno⟩|⟨q,y,rfl,hno,hy,hlt⟩
      · rw [if_pos (by omega),Kt,h1,Am,PN (by rw [h3.1,hs.1]),Am]
        by_cases hlt:cfL (imS x s) s < 0
        · rw [decide_eq_true hlt,Bj,Am,Bj]
          exact ⟨_,rfl,.inr ⟨k,x,rfl,hno,hx,hlt⟩⟩
        · rw [decide_eq_false hlt,BB,Am,BB]
          refine ⟨_,rfl,.inl ⟨rfl,fun j hj=>?_⟩⟩
          by_cases e:j=k
          · subst e
            rintro ⟨y,hy,hl⟩
            rw [hx] at hy
            obtain rfl:=Option.some.inj hy
            exact hlt hl
          · exact hno j (by omega)
      · rw [if_neg (by omega),Am,BB]
        exact ⟨_,rfl,.inr ⟨q,y,rfl,hno,hy,hlt⟩⟩)
  obtain ⟨a,g1,g2⟩:=key
  unfold canG
  dsimp only
  rw [g1,Am,BP]
  rcases g2 with ⟨rfl,hno⟩|⟨q,x,rfl,hno,hx,hlt⟩
  · rw [if_pos (by omega)]
    refine .inl ⟨fun j hf=>?_,rfl⟩
    obtain ⟨x,hx,hl⟩:=hf
    exact hno j (AF hx) ⟨x,hx,hl⟩
  · obtain ⟨h1,h2,h3⟩:=Gu hok (hg x (List.mem_of_getElem? hx)).1 hs
    rw [if_neg (by omega),Bh,hx,Am,Kt,h1,Am,CF (by simp;omega) (by simp;omega),Am]
    exact .inr ⟨q,x,hno,hx,hlt,rfl⟩
inductive Word (gens:List Swp):List Int→List Int→List Int→Prop
  | nil {s:List Int}:Word gens s [] s
  | cons {s r ws:List Int} {m:Nat} {x:Swp}:gens[m]?=some x→Word gens (imS x s) ws r→Word gens s ((m:Int) :: ws) r
theorem OA {t:Tsk} (hok:TaskOk t) {gens:List Swp} (hg:∀ x∈gens,SymP t x) (hgl:gens.length≤1000):∀ (n:Nat) (s used:List Int),StateOk t.vars s→muL t.vars s < n→used.length + n≤100000 →
    ∃ r ws,lop (canF gens) (s,used,0)=some (.done (r,used ++ ws,(gens.length:Int)))∧lop (canG gens) (s,used)=some (.ret (r,used ++ ws))∧StateOk t.vars r∧cfL r s≤0∧Word gens s ws r:=by
  intro n
  induction n with
  | zero=>intro s used _ h;omega
  | succ n ih =>
    intro s used hs hmu hul
    rcases NI hok hg hgl hs (used:=used) (by omega) gens.length 0 (by omega) (by omega) with ⟨f1,f2⟩|⟨m,x,f1,f2,f3,f4,f5⟩
    · rcases Kx hok hg hs (used:=used) (by omega) with ⟨g1,g2⟩|⟨q,y,_,g3,g4,_⟩
      · refine ⟨s,[],by simpa using f2,by rw [CZ,g2,List.append_nil],hs,by rw [IY];omega,.nil⟩
      · exact absurd ⟨y,g3,g4⟩ (f1 q (by omega))
    · rcases Kx hok hg hs (used:=used) (by omega) with ⟨g1,_⟩|⟨q,y,g2,g3,g4,g5⟩
      · exact absurd ⟨x,f3,f4⟩ (g1 m)
      · have hqm:q=m:=by
          rcases Nat.lt_trichotomy q m with h|h|h
          · exact absurd ⟨y,g3,g4⟩ (f2 q (by omega) h)
          · exact h
          · exact absurd ⟨x,f3,f4⟩ (g2 m h)
        subst hqm
        rw [f3] at g3
        obtain rfl:=Option.some.inj g3
        obtain ⟨h1,h2,h3⟩:=Gu hok (hg x (List.mem_of_getElem? f3)).1 hs
        have hlt:=QD h3 f4
        obtain ⟨r,ws,r1,r2,r3,r4,r5⟩:=ih (imS x s) (used ++ [(q:Int)]) h3 (by omega) (by simp;omega)
        refine ⟨r,(q:Int) :: ws,?_,?_,r3,HT r4 (by omega),.cons f3 r5⟩
        · have f5':lop (canF gens) (s,used,0)=lop (canF gens) (imS x s,used ++ [(q:Int)],0):=f5
          rw [f5',r1]
          simp
        · rw [CZ,g5]
          simp only
          rw [r2]
          simp
theorem demandL {t:Tsk} (hok:TaskOk t) {gens:List Swp}:Bk t gens=some ⟨if bof (∀ x∈gens,SymP t x)=true then 0 else 2⟩:=by
  have:∃ r,Bk t gens=some r∧r=⟨if bof (∀ x∈gens,SymP t x)=true then 0 else 2⟩:=by
    unfold Bk Cn
    rw [CN.2 hok,Am,if_neg (by simp)]
    refine JF (fun m _=>∀ x∈gens.take m,SymP t x) (fun r=>r=⟨2⟩∧¬ ∀ x∈gens,SymP t x) (fun x hx=>by simp at hx) ?_ ?_ ?_
    · intro m x _ hx hI
      rw [Is hok,Am]
      by_cases h:SymP t x
      · rw [Bd h,Bj]
        refine .inl ⟨(),rfl,fun y hy=>?_⟩
        rcases (DE hx).1 hy with hy|rfl
        · exact hI y hy
        · exact h
      · rw [AM h,BB]
        exact .inr ⟨_,rfl,rfl,fun hh=>h (hh x (List.mem_of_getElem? hx))⟩
    · intro _ hI
      rw [List.take_length] at hI
      exact ⟨_,rfl,by rw [Bd hI];rfl⟩
    · rintro q ⟨rfl,hn⟩
      exact ⟨_,rfl,by rw [AM hn];rfl⟩
  obtain ⟨r,h1,h2⟩:=this
  rw [h1,h2]
theorem PO {t:Tsk} (hs:SmallOk t) (s:List Int):muL t.vars s≤512:=Nat.le_trans (List.length_filter_le _ _) hs.many
theorem OB {t:Tsk} (hsm:SmallOk t) {gens:List Swp} (hg:∀ x∈gens,SymP t x) (hgl:gens.length≤1000) {s:List Int} (hs:StateOk t.vars s) :
    ∃ r ws,Bx t gens s=some (r,ws,⟨0⟩)∧ER gens s=some (r,ws)∧StateOk t.vars r∧cfL r s≤0∧Word gens s ws r:=by
  have hok:=hsm.ok
  obtain ⟨r,ws,r1,r2,r3,r4,r5⟩:=OA hok hg hgl 513 s [] hs (by have:=PO hsm s;omega) (by simp)
  rw [List.nil_append] at r1 r2
  refine ⟨r,ws,?_,?_,r3,r4,r5⟩
  · have unf:Bx t gens s=bnd (Bk t gens) fun q30=>if q30.n≠0 then (some (([]:List Int),([]:List Int),(⟨q30.n⟩:Err))) else (bnd (EZ t.vars s) fun q39=>if q39=true then bnd (Ct s) fun q46=>bnd (lop (canF gens) (q46,([]:List Int),0)) fun res56=>fin res56 fun (s144:(List Int)×(List Int)×Int)=>some (s144.1,s144.2.1,(⟨0⟩:Err)) else some (([]:List Int),([]:List Int),(⟨2⟩:Err))):=rfl
    have hc:Ct s=some s:=if_pos ⟨by have:=hs.1;have:=hok.1;omega,by have:=hs.1;have:=hok.1;omega⟩
    rw [unf,demandL hok,Bd hg,Am,Bj,if_neg (by simp)]
    unfold EZ
    rw [Bd hs,Am,Bj,hc,Am,r1,Am,BP]
  · have unf:ER gens s=bnd (lop (canG gens) (s,([]:List Int))) fun res7=>fin res7 fun (_:(List Int)×(List Int))=>none:=rfl
    rw [unf,r2,Am,GE]
end
section
open Go Go.RowKit
theorem PP {t:Tsk} (hok:TaskOk t) {a b:List Int} (ha:StateOk t.vars a) (hb:StateOk t.vars b) (h:txt a=txt b):a=b:=by
  have h1:(a.map bw).map (fun b:Byt=>UInt8.ofNat b.n.toNat)=(b.map bw).map fun b:Byt=>UInt8.ofNat b.n.toNat:=by
    unfold txt strB at h
    have:=congrArg ByteArray.data h
    simpa using this
  apply List.ext_getElem?
  intro i
  rcases Nat.lt_or_ge i t.vars.length with hi|hi
  · obtain ⟨n,hn⟩:=Fg (l:=t.vars) (k:=i) hi
    obtain ⟨x,hx⟩:=Fg (l:=a) (k:=i) (by rw [ha.1];exact hi)
    obtain ⟨y,hy⟩:=Fg (l:=b) (k:=i) (by rw [hb.1];exact hi)
    have hx1:=ha.2 i x n hx hn
    have hy1:=hb.2 i y n hy hn
    have hn1:=hok.2.2.1 i n hn
    have h2:=congrArg (·[i]?) h1
    simp only [List.getElem?_map,hx,hy,Option.map_some] at h2
    have h3:=congrArg UInt8.toNat (Option.some.inj h2)
    simp [bw] at h3
    rw [hx,hy]
    congr 1
    omega
  · rw [List.getElem?_eq_none (by rw [ha.1];exact hi),List.getElem?_eq_none (by rw [hb.1];exact hi)]
end
section
open Go Go.RowKit
def imP (x:Swp) (p:List Int):List Int:=p.map fun op=>(x.ops[op.toNat]?).getD 0
def Inside (n:Nat) (p:List Int):Prop:=∀ a∈p,0≤a∧a < n
end
section
open Go Go.RowKit
theorem LI {s:List Int} {v u:Nat}:hasB s ⟨v,u⟩=true↔s[v]?=some (u:Int):=by
  unfold hasB
  simp
theorem NJ {t:Tsk} {x:Swp} {f:Fct} {s a:List Int} (hok:TaskOk t) (hp:FactsPerm t x) (hf:FactOk t.vars f) (hs:StateOk t.vars s) (ha:ImS x s a):hasB a (imF x f)=hasB s f:=by
  obtain ⟨v,u,n,b,z,l,rfl,h1,h2,h3,hu,h4,h5,h6,h7,h8,h9,h10,e⟩:=Em hok hp hf
  rw [e,Bool.eq_iff_iff,LI,LI]
  obtain ⟨y,hy⟩:=AD (l:=s) (k:=v) (by rw [hs.1];exact h1)
  obtain ⟨b',l',z',q1,q2,q3,q4⟩:=ha.2 v y hy
  obtain rfl:b=b':=by rw [h4] at q1;have:=Option.some.inj q1;omega
  obtain rfl:l=l':=by rw [h5] at q2;exact Option.some.inj q2
  obtain ⟨y,rfl,hy2⟩:=Fs q3
  rw [q4,hy]
  constructor
  · intro hz
    rw [Option.some.inj hz] at hy2
    rw [Gt h6 hy2 h7]
  · intro hz
    have:y=u:=by have:=Option.some.inj hz;omega
    subst this
    rw [h7] at hy2
    exact hy2.symm
theorem Jg {t:Tsk} {x:Swp} {fs:List Fct} {s a:List Int} (hok:TaskOk t) (hp:FactsPerm t x) (hf:FactsOk t.vars fs) (hs:StateOk t.vars s) (ha:ImS x s a):holdsB (imL x fs) a=holdsB fs s:=by
  unfold holdsB imL
  rw [Bool.eq_iff_iff,List.all_eq_true,List.all_eq_true]
  constructor
  · intro h f hf'
    rw [← NJ hok hp ((EF hf).1 f hf') hs ha]
    exact h _ ((Dt _).mem_iff.2 (List.mem_map.2 ⟨f,hf',rfl⟩))
  · intro h g hg
    obtain ⟨f,hf',rfl⟩:=List.mem_map.1 ((Dt _).mem_iff.1 hg)
    rw [NJ hok hp ((EF hf).1 f hf') hs ha]
    exact h f hf'
theorem PQ {t:Tsk} {x:Swp} {f:Fct} {u b:List Int} (hok:TaskOk t) (hp:FactsPerm t x) (hf:FactOk t.vars f) (hu:u.length=t.vars.length) (hb:ImS x u b):ImS x (u.set f.var.toNat f.val) (b.set (imF x f).var.toNat (imF x f).val):=by
  obtain ⟨v,y,n,c,z,l,rfl,h1,h2,h3,hy,h4,h5,h6,h7,h8,h9,h10,e⟩:=Em hok hp hf
  rw [e]
  simp only [Int.toNat_natCast]
  refine ⟨by simp [hb.1],fun k w hk=>?_⟩
  rw [List.getElem?_set] at hk
  by_cases hvk:v=k
  · subst hvk
    rw [if_pos rfl,if_pos (by omega)] at hk
    obtain rfl:=Option.some.inj hk
    exact ⟨c,l,z,h4,h5,by rw [Bh,h7],by rw [List.getElem?_set_self (by rw [hb.1];omega)]⟩
  · rw [if_neg hvk] at hk
    obtain ⟨c',l',z',q1,q2,q3,q4⟩:=hb.2 k w hk
    refine ⟨c',l',z',q1,q2,q3,?_⟩
    rw [List.getElem?_set_ne (fun ec=>hvk ?_),q4]
    subst ec
    exact Gt hp.1 h4 q1
theorem Jh {t:Tsk} {x:Swp} {s a:List Int} (hok:TaskOk t) (hp:FactsPerm t x) (hs:StateOk t.vars s) (ha:ImS x s a):∀ (l:List Eff),(∀ e∈l,EffOk t.vars e)→∀ (u b:List Int),u.length=t.vars.length→ImS x u b→ImS x (effsOn s l u) (effsOn a (l.map (imE x)) b)
  | [],_,_,_,_,hb=>hb
  | e :: l,he,u,b,hu,hb=>by
    obtain ⟨h1,h2⟩:=he e List.mem_cons_self
    rw [List.map_cons]
    unfold effsOn
    have hc:holdsB (imE x e).cond a=holdsB e.cond s:=Jg hok hp h1 hs ha
    rw [hc]
    by_cases hh:holdsB e.cond s=true
    · rw [if_pos hh,if_pos hh]
      exact Jh hok hp hs ha l (fun e' h'=>he e' (List.mem_cons_of_mem _ h')) _ _ (by simp [hu]) (PQ hok hp h2 hu hb)
    · rw [if_neg hh,if_neg hh]
      exact Jh hok hp hs ha l (fun e' h'=>he e' (List.mem_cons_of_mem _ h')) _ _ hu hb
theorem Mq {t:Tsk} {x:Swp} {s a:List Int} {k b:Nat} {o p:Opr} (hok:TaskOk t) (hx:SymP t x) (hs:StateOk t.vars s) (ha:ImS x s a) (ho:t.ops[k]?=some o) (hk:x.ops[k]?=some (b:Int)) (hb:t.ops[b]?=some p) :
    holdsB p.pre a=holdsB o.pre s∧ImS x (succ o s) (succ p a)∧p.cost=o.cost:=by
  obtain ⟨o',p',b',h1,h2,_,h3,h4,h5,h6⟩:=Fi hx (AF ho)
  obtain rfl:o=o':=by rw [ho] at h1;exact Option.some.inj h1
  obtain rfl:b=b':=by rw [hk] at h2;have:=Option.some.inj h2;omega
  obtain rfl:p=p':=by rw [hb] at h3;exact Option.some.inj h3
  have hoo:=hok.2.2.2.2.2 k o ho
  refine ⟨by rw [← h5];exact Jg hok hx.1 hoo.2.2.2.2.1 hs ha,?_,h4.symm⟩
  unfold succ
  rw [← h6]
  exact Jh hok hx.1 hs ha o.effs (It hoo) s a hs.1 ha
theorem Hq {t:Tsk} {x:Swp} {s a:List Int} (hok:TaskOk t) (hx:SymP t x) (hs:StateOk t.vars s) (ha:ImS x s a):ImS (invX x) a s:=by
  have hi:=JW hok hx
  obtain ⟨r,_,hr⟩:=Lz hok hi.1 (NH hx.1 hs ha)
  have:=Jf hx.1 hi.1 hs ha hr
  rw [Oz hok hx] at this
  rwa [LG (Ey hok) hs.1 this (LH hok hs)] at hr
end
section
open Go Go.RowKit
theorem Mr {t:Tsk} {x:Swp} (hok:TaskOk t) (hx:SymP t x) {s p s':List Int} {C:Int} (hr:PlanR t s p s' C):∀ {a:List Int},StateOk t.vars s→ImS x s a→Inside t.ops.length p∧StateOk t.vars s'∧∃ a',PlanR t a (imP x p) a' C∧ImS x s' a':=by
  induction hr with
  | nil=>intro a hs ha;exact ⟨fun b hb=>by simp at hb,hs,a,.nil,ha⟩
  | @cons s rest s' k o C ho hp hr ih =>
    intro a hs ha
    obtain ⟨o',p,b,h1,h2,hb,h3,_⟩:=Fi hx (AF ho)
    obtain ⟨g1,g2,g3⟩:=Mq hok hx hs ha ho h2 h3
    obtain ⟨i1,i2,a',i3,i4⟩:=ih (Gd hok hs ho) g2
    refine ⟨fun q hq=>?_,i2,a',?_,i4⟩
    · rcases List.mem_cons.1 hq with rfl|hq
      · have:=AF ho;omega
      · exact i1 q hq
    · have:imP x ((k:Int) :: rest)=(b:Int) :: imP x rest:=by simp [imP,h2]
      rw [this,← g3]
      exact .cons h3 (by rw [g1];exact hp) i3
end
section
set_option linter.unusedVariables false
set_option linter.unusedSimpArgs false
open Go Go.RowKit
noncomputable def cnP (t:Tsk) (gens:List Swp) (s:List Int):List Int×List Int:=((Bx t gens s).map fun r=>(r.1,r.2.1)).getD ([],[])
noncomputable def cnS (t:Tsk) (gens:List Swp) (s:List Int):List Int:=(cnP t gens s).1
noncomputable def wdS (t:Tsk) (gens:List Swp) (s:List Int):List Int:=(cnP t gens s).2
structure Sy (t:Tsk) (gens:List Swp):Prop where
  sm:SmallOk t
  sy:∀ x∈gens,SymP t x
  len:gens.length≤1000
theorem Hr {t:Tsk} {gens:List Swp} (h:Sy t gens) {s:List Int} (hs:StateOk t.vars s):Bx t gens s=some (cnS t gens s,wdS t gens s,⟨0⟩)∧ER gens s=some (cnS t gens s,wdS t gens s)∧StateOk t.vars (cnS t gens s)∧Word gens s (wdS t gens s) (cnS t gens s):=by
  obtain ⟨r,ws,h1,h2,h3,_,h5⟩:=OB h.sm h.sy h.len hs
  have e1:cnS t gens s=r:=by unfold cnS cnP;rw [h1];rfl
  have e2:wdS t gens s=ws:=by unfold wdS cnP;rw [h1];rfl
  rw [e1,e2]
  exact ⟨h1,h2,h3,h5⟩
theorem QE {s:List Int} (hl:s.length≤1000000):EW s=some (txt s):=by
  unfold EW
  rw [Gm (by omega) (by omega),Am]
  refine Px (fun m l=>l.length=s.length∧∀ (i:Nat) x,i < m→s[i]?=some x→l[i]?=some (bw x)) ⟨by simp,fun i x hi=>by omega⟩ ?_ ?_
  · rintro m x l hx ⟨h1,h2⟩
    have hm:=AF hx
    obtain ⟨u,hu⟩:=Fg (l:=l) (k:=m) (by omega)
    rw [hu,Am]
    refine ⟨_,rfl,by simpa using h1,fun i y hi hy=>?_⟩
    by_cases e:i=m
    · subst e
      rw [hx] at hy
      rw [List.getElem?_set_self (by omega),Option.some.inj hy]
    · rw [List.getElem?_set_ne (by omega)]
      exact h2 i y (by omega) hy
  · rintro l ⟨h1,h2⟩
    have hls:l=s.map bw:=by
      apply List.ext_getElem?
      intro i
      rw [List.getElem?_map]
      rcases Nat.lt_or_ge i s.length with hi|hi
      · obtain ⟨x,hx⟩:=Fg (l:=s) (k:=i) hi
        rw [hx,h2 i x hi hx];rfl
      · rw [List.getElem?_eq_none (by omega),List.getElem?_eq_none hi];rfl
    subst hls
    rw [BP,Pr (by simp;omega),Am]
    rfl
theorem Ky {K V:Type} [MKey K] (k k':K) (v:V):∀ l:List (K×V),mhas (mput l k v) k'=if k=k' then true else mhas l k'
  | []=>by simp only [mput,mhas]
  | p :: r=>by
    have ih:=Ky k k' v r
    simp only [mput]
    by_cases h1:p.1=k
    · rw [if_pos h1]
      simp only [mhas]
      by_cases h2:k=k'
      · rw [if_pos h2,if_pos h2]
      · rw [if_neg h2,if_neg h2,if_neg (by rw [h1];exact h2)]
    · rw [if_neg h1]
      simp only [mhas,ih]
      by_cases h2:k=k'
      · rw [if_pos h2,if_pos h2,if_neg (by rw [← h2];exact h1)]
      · rw [if_neg h2,if_neg h2]
def TabI (vars:List Int) (N:List ONd) (tab:List (ByteArray×Int)):Prop:=∀ y,StateOk vars y→(mhas tab (txt y)=false∧∀ (i:Nat) n,N[i]?=some n→n.state≠y)∨(∃ (i:Nat) (n:ONd),mhas tab (txt y)=true∧mget 0 tab (txt y)=(i:Int)∧N[i]?=some n∧n.state=y)
theorem TabI.set {vars:List Int} {N:List ONd} {tab:List (ByteArray×Int)} (h:TabI vars N tab) {i:Nat} {a b:ONd} (ha:N[i]?=some a) (hb:b.state=a.state):TabI vars (N.set i b) tab:=fun y hy=>by
  have hil:=AF ha
  rcases h y hy with ⟨h1,h2⟩|⟨j,n,h1,h2,h3,h4⟩
  · refine .inl ⟨h1,fun j n hj=>?_⟩
    by_cases e:i=j
    · subst e;rw [List.getElem?_set_self hil] at hj;obtain rfl:=Option.some.inj hj;rw [hb];exact h2 i a ha
    · rw [List.getElem?_set_ne e] at hj;exact h2 j n hj
  · by_cases e:i=j
    · subst e
      rw [ha] at h3
      obtain rfl:=Option.some.inj h3
      exact .inr ⟨i,b,h1,h2,List.getElem?_set_self hil,hb.trans h4⟩
    · exact .inr ⟨j,n,h1,h2,by rw [List.getElem?_set_ne e];exact h3,h4⟩
theorem TabI.app {t:Tsk} (hok:TaskOk t) {N:List ONd} {tab:List (ByteArray×Int)} (h:TabI t.vars N tab) {b:ONd} (hb:StateOk t.vars b.state):TabI t.vars (N ++ [b]) (mput tab (txt b.state) (N.length:Int)):=fun y hy=>by
  rw [Ky,Kp]
  by_cases e:txt b.state=txt y
  · have:=PP hok hb hy e
    rw [if_pos e,if_pos e]
    exact .inr ⟨N.length,b,rfl,rfl,by simp,this⟩
  · rw [if_neg e,if_neg e]
    rcases h y hy with ⟨h1,h2⟩|⟨j,n,h1,h2,h3,h4⟩
    · refine .inl ⟨h1,fun j n hj=>?_⟩
      rcases Nat.lt_or_ge j N.length with hl|hl
      · rw [List.getElem?_append_left hl] at hj;exact h2 j n hj
      · rw [List.getElem?_append_right hl] at hj
        have:n=b:=by
          cases hk:j - N.length with
          | zero=>rw [hk] at hj;simpa using hj.symm
          | succ k=>rw [hk] at hj;simp at hj
        subst this
        exact fun e2=>e (by rw [e2])
    · exact .inr ⟨j,n,h1,h2,by rw [List.getElem?_append_left (AF h3)];exact h3,h4⟩
theorem Pe {t:Tsk} {gens:List Swp} (h:Sy t gens) {x:Ors} (ht:x.t=t) (hg:x.gens=gens) (htab:TabI t.vars x.nodes x.tab.l) (hh:HeapOk (qs x.open_)) (hn0:0≤x.number) (hn1:x.number≤100000) (hq:x.open_.length≤100000) (hN:x.nodes.length≤600) {s:List Int} (hs:StateOk t.vars s) (c p q:Int) :
    (∃ (i:Nat) (n:ONd),x.nodes[i]?=some n∧n.state=cnS t gens s∧n.cost≤c∧Bt x s c p q=some (⟨0⟩,x)) ∨
    ∃ (i:Nat) (x':Ors),Bt x s c p q=some (⟨0⟩,x')∧x'.t=t∧x'.gens=gens∧TabI t.vars x'.nodes x'.tab.l∧HeapOk (qs x'.open_)∧x'.number=x.number + 1∧x'.open_.length=x.open_.length + 1∧(qs x'.open_).Perm (⟨c,0,(i:Int),x.number + 1⟩ :: qs x.open_) ∧
      ((i=x.nodes.length∧x'.nodes=x.nodes ++ [⟨cnS t gens s,c,p,q,wdS t gens s,false⟩]∧∀ (j:Nat) n,x.nodes[j]?=some n→n.state≠cnS t gens s)∨∃ a,x.nodes[i]?=some a∧a.state=cnS t gens s∧c < a.cost∧x'.nodes=x.nodes.set i ⟨cnS t gens s,c,p,q,wdS t gens s,false⟩):=by
  have hok:=h.sm.ok
  obtain ⟨c1,_,c3,_⟩:=Hr h hs
  obtain ⟨tt,gg,N,tab,op,num⟩:=x
  dsimp only at ht hg htab hh hn0 hn1 hq hN ⊢
  subst ht hg
  have c1':Bx (⟨tt.vars,tt.init,tt.goal,tt.ops⟩:Tsk) gg s=some (cnS tt gg s,wdS tt gg s,⟨0⟩):=c1
  have hkl:(cnS tt gg s).length≤1000000:=by have:=c3.1;have:=hok.1;omega
  have push:∀ i:Nat,∃ r,CA (⟨op⟩:BQ) ⟨⟨c,num + 1,(i:Int)⟩⟩=some r∧HeapOk (qs r.l)∧(qs r.l).Perm (⟨c,0,(i:Int),num + 1⟩ :: qs op):=fun i=>On (q:=⟨op⟩) hh (by dsimp only;omega) ⟨c,num + 1,(i:Int)⟩
  have plen:∀ {l:List OEn} {e:QEn},(qs l).Perm (e :: qs op)→l.length=op.length + 1:=fun {l e} hp=>by
    have:=hp.length_eq
    simpa [FI] using this
  unfold Bt
  dsimp only
  rw [c1',Am,if_neg (by simp)]
  dsimp only
  rw [QE hkl,Am]
  rcases htab _ c3 with ⟨h1,h2⟩|⟨j,n,h1,h2,h3,h4⟩
  · refine .inr ⟨N.length,?_⟩
    obtain ⟨r,r1,r2,r3⟩:=push N.length
    rw [h1,BB,Am]
    dsimp only
    rw [BB,BB,CF (by simp;omega) (by simp;omega),Am,Am]
    dsimp only
    rw [CT (by unfold inI64;omega),Am,r1,Am]
    exact ⟨_,rfl,rfl,rfl,TabI.app hok htab (b:=⟨cnS tt gg s,c,p,q,wdS tt gg s,false⟩) c3,r2,rfl,plen r3,r3,.inl ⟨rfl,rfl,h2⟩⟩
  · rw [h1,Bj,h2,Bh,h3,Am]
    by_cases hle:n.cost≤c
    · rw [if_pos hle,Am]
      dsimp only
      rw [Bj]
      exact .inl ⟨j,n,h3,h4,hle,rfl⟩
    · refine .inr ⟨j,?_⟩
      obtain ⟨r,r1,r2,r3⟩:=push j
      rw [if_neg hle,Am]
      dsimp only
      rw [BB,Bj,Am,Am]
      dsimp only
      rw [CT (by unfold inI64;omega),Am,r1,Am]
      exact ⟨_,rfl,rfl,rfl,htab.set h3 (b:=⟨cnS tt gg s,c,p,q,wdS tt gg s,false⟩) h4.symm,r2,rfl,plen r3,r3,.inr ⟨n,h3,h4,by omega,by dsimp only;rw [Int.toNat_natCast]⟩⟩
end
section
open Go Go.RowKit
theorem GN {t:Tsk} (hok:TaskOk t):BR t=some (idX t,⟨0⟩):=by
  unfold BR
  have h1:=hok.1
  have h2:=hok.2.1
  rw [demand0 hok,Am,if_neg (by simp),JV (by omega),Am,JV (by omega),Am,Am,EE (fun k=>(t.vars.take k).map fun n=>rangeI n.toNat) (by simp) (fun k n hk=>by
    have hn:=hok.2.2.1 k n hk
    have:=AF hk
    obtain ⟨m,rfl⟩:=Int.eq_ofNat_of_zero_le (by omega:0≤n)
    rw [JV (by omega),Am,CF (by simp;omega) (by simp;omega),Am,map_take hk]
    simp),Am,BP,List.take_length]
  rfl
theorem MU {t:Tsk} {x y:Swp} (hok:TaskOk t) (hx:SymP t x) (hy:SymP t y):BE t x y=some (compX x y,⟨0⟩):=by
  unfold BE
  have h1:=hok.1
  have h2:=hok.2.1
  rw [demand2 hok,Am,Bd ⟨hx,hy⟩,Bj,if_neg (by simp),Jc hx.1.1 hy.1.1.len (by omega),Am,Jc hx.2.1 hy.2.1.len (by omega),Am,Am,EE (fun k=>(compX x y).vals.take k) (by simp) (fun k l hk=>by
    have hlt:=AF hk
    rw [hx.1.2.1] at hlt
    obtain ⟨n,a,l',q1,q2,q3,q4,q5⟩:=hx.1.2.2 k hlt
    obtain rfl:l=l':=by rw [hk] at q3;exact Option.some.inj q3
    obtain ⟨ha1,ha2⟩:=hx.1.1.mem (List.mem_of_getElem? q2)
    obtain ⟨a,rfl⟩:=Int.eq_ofNat_of_zero_le ha1
    obtain ⟨n',b,m,p1,p2,p3,p4,p5⟩:=hy.1.2.2 a (by omega)
    rw [Bh] at q4
    have e:n=n':=by rw [q4] at p1;have:=Option.some.inj p1;omega
    subst e
    have hn:=hok.2.2.1 k n q1
    rw [q2,Am,Bh,p3,Am,Jc q5 p5.len (by omega),Am,CF (by simp;omega) (by simp;omega),Am,List.take_add_one,FK q2 q3 p3]
    rfl),Am,BP]
  have:x.vals.length=(compX x y).vals.length:=by simp [compX]
  rw [this,List.take_length]
  rfl
theorem MV {t:Tsk} {x:Swp} (hok:TaskOk t) (hx:SymP t x):BN t x=some (invX x,⟨0⟩):=by
  unfold BN
  have hl:t.vars.length≤1000000:=by have:=hok.1;omega
  have hl2:t.ops.length≤1000000:=by have:=hok.2.1;omega
  have hvl:=hx.1.2.1
  rw [demand1 hok,Am,Bd hx,Bj,if_neg (by simp),(Ex hx.1.1 hl).1,Am,(Ex hx.2.1 hl2).1,Am,Gm (by omega) (by omega),Am,Am]
  simp only
  obtain ⟨s,h1,h2,h3⟩:=DD (ρ:=Swp×Err) (f:=fun (k414:Nat) (a415:List Int) (s412:(List (List Int)))=>bnd (x.vars[k414]?) fun a440=>bnd (Cp a415) fun q450=>bnd (atI s412 a440) fun _=>some (.next (s412.set (a440).toNat q450))) (xs:=x.vals) (s₀:=List.replicate x.vals.length []) (fun k s=>s.length=x.vals.length∧∀ v a:Nat,v < k→x.vars[v]?=some (a:Int)→s[a]?=(invX x).vals[a]?) ⟨by simp,fun v a h=>by omega⟩ (fun k l s hk hI=>by
    obtain ⟨i1,i2⟩:=hI
    have hlt:=AF hk
    obtain ⟨n,a,l',q1,q2,q3,q4,q5⟩:=hx.1.2.2 k (by omega)
    obtain rfl:l=l':=by rw [hk] at q3;exact Option.some.inj q3
    obtain ⟨ha1,ha2⟩:=hx.1.1.mem (List.mem_of_getElem? q2)
    obtain ⟨a,rfl⟩:=Int.eq_ofNat_of_zero_le ha1
    obtain ⟨u,hu⟩:=AD (l:=s) (k:=a) (by omega)
    have hn:=hok.2.2.1 k n q1
    rw [q2,Am,(Ex q5 (by omega)).1,Am,Bh,hu,Am]
    refine ⟨_,rfl,by simpa using i1,fun v b hv hvb=>?_⟩
    rw [show ((a:Int)).toNat=a from by omega,List.getElem?_set]
    by_cases e:a=b
    · subst e;rw [if_pos rfl,if_pos (by omega),Hp hok hx.1 q2 q3]
    · rw [if_neg e]
      refine i2 v b ?_ hvb
      have:v≠k:=fun h=>e (by subst h;rw [hvb] at q2;have:=Option.some.inj q2;omega)
      omega)
  rw [h1,Am,BP]
  have:s=(invX x).vals:=List.ext_getElem? fun a=>by
    by_cases ha:a < x.vals.length
    · obtain ⟨v,hv,hva⟩:=Fh hx.1.1 (a:=a) (by omega)
      exact h3 v a (by omega) hva
    · rw [List.getElem?_eq_none (by omega),List.getElem?_eq_none (by simp [invX];omega)]
  rw [this]
  rfl
end
section
set_option linter.unusedVariables false
set_option linter.unusedSimpArgs false
open Go Go.RowKit
theorem Iu {t:Tsk} {gens:List Swp} (h:Sy t gens) {s:List Int} (ho:OR t (cnS t gens) s):StateOk t.vars s:=by
  have hok:=h.sm.ok
  induction ho with
  | init=>exact (Hr h hok.2.2.2.1).2.2.1
  | step _ _ ho _ ih=>exact (Hr h (Gd hok ih ho)).2.2.1
theorem OC {N:List ONd} {i:Nat} {l:List Nat} (h:TrN N i l):∀ (acc:List Int),acc.length + l.length≤100000 →
    lop (ρ:=(List Int)×Err) (fun (s5:Int×(List Int))=>if 0≤s5.1 then (bnd (appI 8 s5.2 [s5.1]) fun u25=>bnd (atI N s5.1) fun a75=>some (.next (a75.parent,u25))) else (some (.brk (s5.1,s5.2)))) ((i:Int),acc)=some (.done (-1,acc ++ (l.reverse.map fun k:Nat=>(k:Int)))):=by
  induction h with
  | @root n h0 hp =>
    intro acc ha
    simp only [List.length_singleton] at ha
    rw [CZ]
    dsimp only
    rw [if_pos (by omega),CF (by simp;omega) (by simp;omega),Am,Bh,h0,Am,hp]
    dsimp only
    rw [CZ]
    dsimp only
    rw [if_neg (by omega)]
    rfl
  | @step i p n l hi hp hl ih =>
    intro acc ha
    simp only [List.length_append,List.length_singleton] at ha
    rw [CZ]
    dsimp only
    rw [if_pos (by omega),CF (by simp;omega) (by simp;omega),Am,Bh,hi,Am,hp]
    dsimp only
    rw [ih (acc ++ [(i:Int)]) (by simp;omega)]
    simp
theorem TrN.way {N:List ONd} {i:Nat} {l:List Nat} (h:TrN N i l):l[0]?=some 0∧l.getLast?=some i∧∀ (k a b:Nat),l[k]?=some a→l[k + 1]?=some b→∃ n,N[b]?=some n∧n.parent=(a:Int):=by
  induction h with
  | root h0 hp=>exact ⟨rfl,rfl,fun k a b _ hb=>by simp at hb⟩
  | @step i p n l hi hp hl ih =>
    obtain ⟨i1,i2,i3⟩:=ih
    have hl0:=AF i1
    refine ⟨by rw [List.getElem?_append_left hl0];exact i1,by simp,fun k a b ha hb=>?_⟩
    rcases Nat.lt_or_ge (k + 1) l.length with hk|hk
    · rw [List.getElem?_append_left hk] at hb
      rw [List.getElem?_append_left (by omega)] at ha
      exact i3 k a b ha hb
    · have hbl:=AF hb
      simp only [List.length_append,List.length_singleton] at hbl
      have hk2:k + 1=l.length:=by omega
      rw [hk2] at hb
      simp at hb
      subst hb
      rw [List.getElem?_append_left (by omega)] at ha
      rw [List.getLast?_eq_getElem?,show l.length - 1=k from by omega,ha] at i2
      obtain rfl:=Option.some.inj i2
      exact ⟨n,hi,hp⟩
theorem TrN.mem {N:List ONd} {i:Nat} {l:List Nat} (h:TrN N i l):∀ k∈l,∃ n,N[k]?=some n:=by
  induction h with
  | root h0 hp=>intro k hk;simp at hk;subst hk;exact ⟨_,h0⟩
  | step hi hp hl ih =>
    intro k hk
    rcases List.mem_append.1 hk with hk|hk
    · exact ih k hk
    · simp at hk;subst hk;exact ⟨_,hi⟩
theorem NK {t:Tsk} {gens:List Swp} (h:Sy t gens) {L s ws r:List Int} (hw:Word gens s ws r) {ρ:Type} (bad:(Swp×Err)→ρ) (hL:StateOk t.vars L):∀ (j:Nat) (x:Swp),SymP t x→StateOk t.vars s→ImS x L s →
    ∃ y:Swp,rng (ρ:=ρ) (fun (k498:Nat) (a499:Int) (s496:(List Int)×(List (List Int))×(List Int))=>bnd (atI gens a499) fun a561=>bnd (BE t (⟨s496.1,s496.2.1,s496.2.2⟩:Swp) a561) fun q584=>if q584.2.n≠0 then (some (.ret (bad q584))) else (some (.next (q584.1.vars,q584.1.vals,q584.1.ops)))) ws j (x.vars,x.vals,x.ops)=some (.done (y.vars,y.vals,y.ops))∧SymP t y∧ImS y L r:=by
  have hok:=h.sm.ok
  induction hw with
  | nil=>intro j x hx _ ha;exact ⟨x,rfl,hx,ha⟩
  | @cons s r ws m g hm hw ih =>
    intro j x hx hs ha
    have hg:=h.sy g (List.mem_of_getElem? hm)
    obtain ⟨g1,g2,g3⟩:=Gu hok hg.1 hs
    obtain ⟨y,y1,y2,y3⟩:=ih (j + 1) (compX x g) (LD hok hx hg) g3 (Jf hx.1 hg.1 hL ha g2)
    refine ⟨y,?_,y2,y3⟩
    have e:BE t (⟨x.vars,x.vals,x.ops⟩:Swp) g=some (compX x g,⟨0⟩):=MU hok hx hg
    simp only [rng]
    rw [Bh,hm,Am,e,Am,if_neg (by simp)]
    exact y1
theorem OD {t:Tsk} {gens:List Swp} (h:Sy t gens) {x:Ors} (ht:x.t=t) (hg:x.gens=gens) {D:Nat→Int→Prop} {hp:List QEn} {ord:Nat→Nat} {E:Nat} (hinv:OrI t (cnS t gens) (wdS t gens) D x.nodes hp ord E) {i:Nat} {n:ONd} {l:List Nat} (hi:x.nodes[i]?=some n) (hl:TrN x.nodes i l) (hlen:l.length≤1000) :
    ∃ p L,BS x (i:Int)=some (p,⟨0⟩)∧p.length≤l.length∧PlanR t t.init p L n.cost∧StateOk t.vars L∧∃ y,SymP t y∧ImS y L n.state:=by
  have hok:=h.sm.ok
  have hs0:=hok.2.2.2.1
  obtain ⟨tt,gg,N,tab,op,num⟩:=x
  dsimp only at ht hg hinv hi hl ⊢
  subst ht hg
  obtain ⟨w1,w2,w3⟩:=hl.way
  have hid:BR (⟨tt.vars,tt.init,tt.goal,tt.ops⟩:Tsk)=some (idX tt,⟨0⟩):=GN hok
  have hrev:Ci (l.reverse.map fun k:Nat=>(k:Int))=some (l.map fun k:Nat=>(k:Int)):=by
    rw [QB (by simp;omega)]
    simp
  have hsp:∀ (j:Nat) m,N[j]?=some m→StateOk tt.vars m.state:=fun j m hj=>Iu h (hinv.rch j m hj)
  unfold BS
  dsimp only
  rw [OC hl [] (by simp;omega),Am,BP]
  dsimp only
  rw [List.nil_append,hrev,Am,hid,Am,if_neg (by simp)]
  dsimp only
  refine (?_:∃ p L,_∧p.length≤l.length∧PlanR tt tt.init p L n.cost∧StateOk tt.vars L∧∃ y,SymP tt y∧ImS y L n.state)
  obtain ⟨z,z1,z2⟩:=DD (ρ:=(List Int)×Err) (xs:=l.reverse.map fun k:Nat=>(k:Int)) (s₀:=(([]:List Int),(idX tt).vars,(idX tt).vals,(idX tt).ops)) (f:=fun (k203:Nat) (a204:Int) (s201:(List Int)×(List Int)×(List (List Int))×(List Int))=>bnd ((l.map fun k:Nat=>(k:Int))[k203]?) fun a224=>bnd (bnd (atI N a224) fun a278=>if 0≤a278.op then (bnd (BN (⟨tt.vars,tt.init,tt.goal,tt.ops⟩:Tsk) (⟨s201.2.1,s201.2.2.1,s201.2.2.2⟩:Swp)) fun q308=>bnd (some (q308.1.vars,q308.1.vals,q308.1.ops):Option ((List Int)×(List (List Int))×(List Int))) fun y310=>if q308.2.n≠0 then (some (.ret (.ret (([]:List Int),(⟨q308.2.n⟩:Err))))) else (bnd (atI y310.2.2 a278.op) fun a394=>bnd (appI 8 s201.1 [a394]) fun u406=>some (.done u406))) else (some (.done s201.1)):Option (Fin (List Int) (Ctl ((List Int)×(List Int)×(List (List Int))×(List Int)) ((List Int)×Err)))) fun y234=>fin y234 fun (s236:(List Int))=>bnd (atI N a224) fun a465=>bnd (rng (ρ:=Ctl ((List Int)×(List Int)×(List (List Int))×(List Int)) ((List Int)×Err)) (fun (k498:Nat) (a499:Int) (s496:(List Int)×(List (List Int))×(List Int))=>bnd (atI gg a499) fun a561=>bnd (BE (⟨tt.vars,tt.init,tt.goal,tt.ops⟩:Tsk) (⟨s496.1,s496.2.1,s496.2.2⟩:Swp) a561) fun q584=>if q584.2.n≠0 then (some (.ret (.ret (([]:List Int),(⟨q584.2.n⟩:Err))))) else (some (.next (q584.1.vars,q584.1.vals,q584.1.ops)))) a465.used 0 (s201.2.1,s201.2.2.1,s201.2.2.2)) fun res494=>fin res494 fun (s626:(List Int)×(List (List Int))×(List Int))=>some (.next (s236,s626.1,s626.2.1,s626.2.2)))
    (fun k st=>∃ y:Swp,SymP tt y∧st.2=(y.vars,y.vals,y.ops)∧st.1.length≤k∧((k=0∧st.1=[]∧y=idX tt)∨∃ (k' j:Nat) (m:ONd) (L:List Int),k=k' + 1∧l[k']?=some j∧N[j]?=some m∧PlanR tt tt.init st.1 L m.cost∧StateOk tt.vars L∧ImS y L m.state))
    ⟨idX tt,NE hok,rfl,by simp,.inl ⟨rfl,rfl,rfl⟩⟩ (fun k a st hk hI=>by
      have hkl:=AF hk
      simp only [List.length_map,List.length_reverse] at hkl
      obtain ⟨j,hj⟩:=AD (l:=l) (k:=k) hkl
      obtain ⟨m,hm⟩:=hl.mem j (List.mem_of_getElem? hj)
      obtain ⟨pl,st2⟩:=st
      obtain ⟨y,y1,y2,y3,y4⟩:=hI
      dsimp only at y2 y3 y4 ⊢
      subst y2
      dsimp only
      rw [List.getElem?_map,hj]
      dsimp only [Option.map_some]
      rw [Am,Bh,hm,Am]
      have wloop:∀ {L s:List Int},StateOk tt.vars L→StateOk tt.vars s→ImS y L s→m.state=cnS tt gg s→m.used=wdS tt gg s→∃ y':Swp,rng (ρ:=Ctl ((List Int)×(List Int)×(List (List Int))×(List Int)) ((List Int)×Err)) (fun (k498:Nat) (a499:Int) (s496:(List Int)×(List (List Int))×(List Int))=>bnd (atI gg a499) fun a561=>bnd (BE (⟨tt.vars,tt.init,tt.goal,tt.ops⟩:Tsk) (⟨s496.1,s496.2.1,s496.2.2⟩:Swp) a561) fun q584=>if q584.2.n≠0 then (some (.ret (.ret (([]:List Int),(⟨q584.2.n⟩:Err))))) else (some (.next (q584.1.vars,q584.1.vals,q584.1.ops)))) m.used 0 (y.vars,y.vals,y.ops)=some (.done (y'.vars,y'.vals,y'.ops))∧SymP tt y'∧ImS y' L m.state:=fun {L s} hL hs ha e1 e2=>by
        rw [e1,e2]
        exact NK h (Hr h hs).2.2.2 (fun q584=>Ctl.ret (σ:=(List Int)×(List Int)×(List (List Int))×(List Int)) (([]:List Int),(⟨q584.2.n⟩:Err))) hL 0 y y1 hs ha
      rcases y4 with ⟨rfl,rfl,rfl⟩|⟨k',j',m',L,rfl,hj',hm',hpl,hL,hIm⟩
      · rw [w1] at hj
        obtain rfl:=Option.some.inj hj
        obtain ⟨n0,r1,r2,r3,r4,r5,r6⟩:=hinv.root
        rw [r1] at hm
        obtain rfl:=Option.some.inj hm
        obtain ⟨y',q1,q2,q3⟩:=wloop hs0 hs0 (LH hok hs0) r2 r3
        rw [r6,if_neg (by omega),Am,BP,Am,q1,Am,BP]
        refine ⟨_,rfl,y',q2,rfl,by simp,.inr ⟨0,0,n0,tt.init,rfl,w1,r1,?_,hs0,q3⟩⟩
        rw [r4]
        exact .nil
      · obtain ⟨m2,hm2,hpar⟩:=w3 k' j' j hj' hj
        rw [hm] at hm2
        obtain rfl:=Option.some.inj hm2
        rcases hinv.link j m hm with rfl|⟨pp,q,o,mm,a1,a2,a3,a4,a5,a6,a7,a8,a9,_⟩
        · obtain ⟨n0,r1,_,_,_,r5,_⟩:=hinv.root
          rw [r1] at hm
          obtain rfl:=Option.some.inj hm
          omega
        have epp:pp=j':=by omega
        subst epp
        rw [hm'] at a4
        obtain rfl:=Option.some.inj a4
        have hst:=hsp pp m' hm'
        have hiv:=JW hok y1
        obtain ⟨o',p2,b,o1,o2,o3,o4,o5,_⟩:=Fi hiv (AF a3)
        have hback:=Hq hok y1 hL hIm
        obtain ⟨g1,g2,g3⟩:=Mq hok hiv hst hback a3 o2 o4
        have hs2:=Gd hok hst a3
        have hL2:=Gd hok hL o4
        have hIm2:ImS y (succ p2 L) (succ o m'.state):=by
          obtain ⟨c1,c2,c3⟩:=Gu hok y1.1 hL2
          have e1:=Hq hok y1 hL2 c2
          have e2:=Hq hok hiv c3 e1
          have e3:=Hq hok hiv hs2 g2
          have e4:=LG (JW hok hiv).1 hL2.1 e2 e3
          rw [e4] at c2
          exact c2
        obtain ⟨y',q1,q2,q3⟩:=wloop hL2 hs2 hIm2 a7 a8
        have ei:BN (⟨tt.vars,tt.init,tt.goal,tt.ops⟩:Tsk) (⟨y.vars,y.vals,y.ops⟩:Swp)=some (invX y,⟨0⟩):=MV hok y1
        rw [a2,if_pos (by omega),ei,Am,Am,if_neg (by simp)]
        dsimp only
        rw [Bh,o2,Am,CF (by simp;omega) (by simp;omega),Am,Am,BP,Am,q1,Am,BP]
        refine ⟨_,rfl,y',q2,rfl,by simp;omega,.inr ⟨k' + 1,j,m,succ p2 L,rfl,hj,hm,?_,hL2,q3⟩⟩
        rw [a9,← g3]
        exact hpl.snoc o4 (by rw [g1];exact a6))
  obtain ⟨y,y1,y2,y3,y4⟩:=z2
  rw [z1,Am,BP]
  simp only [List.length_map,List.length_reverse] at y3 y4
  have hlp:=AF w1
  rcases y4 with ⟨e,_⟩|⟨k',j,m,L,e,hj,hm,hpl,hL,hIm⟩
  · omega
  rw [List.getLast?_eq_getElem?,show l.length - 1=k' from by omega,hj] at w2
  obtain rfl:=Option.some.inj w2
  rw [hi] at hm
  obtain rfl:=Option.some.inj hm
  exact ⟨z.1,L,rfl,y3,hpl,hL,y,y1,hIm⟩
end
section
set_option linter.unusedVariables false
set_option linter.unusedSimpArgs false
open Go Go.RowKit
abbrev OT:=Int×Ors
noncomputable def oIn (t:Tsk) (c:Int) (id:Int) (s:Ors) (a:Suc):Option (Ctl Ors (Ctl OT (Rsl×Err))):=bnd (atI t.ops a.op) fun o=>bnd (chkI (c + o.cost)) fun n=>bnd (Bt s a.state n id a.op) fun q=>if q.1.n≠0 then (some (.ret (.ret ((⟨0,([]:List Int),0,0⟩:Rsl),(⟨q.1.n⟩:Err))))) else (some (.next q.2))
noncomputable def orbF (t:Tsk) (g:Option Gnr) (lim:Int):OT→Option (Ctl OT (Rsl×Err)):=fun s=>bnd (Ca s.2.open_) fun q=>if q=0 then (some (.ret ((⟨2,([]:List Int),0,s.1⟩:Rsl),(⟨0⟩:Err)))) else (bnd (CG (⟨s.2.open_⟩:BQ)) fun e=>bnd (bnd (atI s.2.nodes e.1.x.node) fun a=>if a.fin=true then (some true) else (bnd (atI s.2.nodes e.1.x.node) fun b=>if b.cost < e.1.x.cost then (some true) else (some false)):Option Bool) fun y=>if y=true then (some (.next (s.1,(⟨s.2.t,s.2.gens,s.2.nodes,s.2.tab,e.2.l,s.2.number⟩:Ors)))) else (bnd (atI s.2.nodes e.1.x.node) fun n=>bnd (DX t.goal n.state) fun b=>if b=true then bnd (BS (⟨s.2.t,s.2.gens,s.2.nodes,s.2.tab,e.2.l,s.2.number⟩:Ors) e.1.x.node) fun p=>if p.2.n≠0 then (some (.ret ((⟨0,([]:List Int),0,0⟩:Rsl),(⟨p.2.n⟩:Err)))) else (some (.ret ((⟨1,p.1,n.cost,s.1⟩:Rsl),(⟨0⟩:Err)))) else if lim≤s.1 then (some (.ret ((⟨3,([]:List Int),0,s.1⟩:Rsl),(⟨0⟩:Err)))) else (bnd (chkI (s.1 + 1)) fun n2=>bnd (atI s.2.nodes e.1.x.node) fun m=>bnd (Bp g n.state) fun l=>bnd (rng (ρ:=Ctl OT (Rsl×Err)) (fun (_:Nat) (a:Suc) (y:Ors)=>oIn t n.cost e.1.x.node y a) l 0 (⟨s.2.t,s.2.gens,s.2.nodes.set (e.1.x.node:Int).toNat { m with fin:=true },s.2.tab,e.2.l,s.2.number⟩:Ors)) fun r=>fin r fun (z:Ors)=>some (.next (n2,z)))))
theorem JX (t:Tsk) (gens:List Swp) (lim:Int):BI t gens lim=bnd (Cn t) fun q33=>if q33.n≠0 then (some ((⟨0,([]:List Int),0,0⟩:Rsl),(⟨q33.n⟩:Err))) else (bnd (rng (ρ:=Rsl×Err) (fun (k50:Nat) (a51:Swp) (s48:Unit)=>bnd (CD t a51) fun q87=>if q87=true then some (.next ()) else some (.ret ((⟨0,([]:List Int),0,0⟩:Rsl),(⟨2⟩:Err)))) gens 0 ()) fun res46=>fin res46 fun (s100:Unit)=>bnd (Eq t) fun q102=>if q102.2.n≠0 then (some ((⟨0,([]:List Int),0,0⟩:Rsl),(⟨q102.2.n⟩:Err))) else (bnd (Bt (⟨t,gens,([]:List ONd),(⟨[]⟩:MapP ByteArray Int),([]:List OEn),0⟩:Ors) t.init 0 (-1) (-1)) fun q138=>if q138.1.n≠0 then (some ((⟨0,([]:List Int),0,0⟩:Rsl),(⟨q138.1.n⟩:Err))) else (bnd (lop (orbF t q102.1 lim) (0,q138.2)) fun res151=>fin res151 fun (_:OT)=>none))):=rfl
theorem OE {t:Tsk} {gens:List Swp} (h:Sy t gens) {s ws r:List Int} (hw:Word gens s ws r) (hs:StateOk t.vars s):∃ x,SymP t x∧ImS x s r:=by
  have hok:=h.sm.ok
  induction hw with
  | nil=>exact ⟨idX t,NE hok,LH hok hs⟩
  | @cons s r ws m g hm hw ih =>
    have hg:=h.sy g (List.mem_of_getElem? hm)
    obtain ⟨g1,g2,g3⟩:=Gu hok hg.1 hs
    obtain ⟨x,x1,x2⟩:=ih g3
    exact ⟨compX g x,LD hok hg x1,Jf hg.1 x1.1 hs g2 x2⟩
theorem NL {t:Tsk} {gens:List Swp} (h:Sy t gens) {s:List Int} (hs:StateOk t.vars s):∃ x,SymP t x∧ImS x s (cnS t gens s):=OE h (Hr h hs).2.2.2 hs
theorem JY {t:Tsk} {x:Swp} (hok:TaskOk t) (hx:SymP t x) {s a:List Int} (hs:StateOk t.vars s) (ha:ImS x s a):holdsB t.goal a=holdsB t.goal s:=by
  have:=Jg hok hx.1 hok.2.2.2.2.1 hs ha
  rwa [hx.2.2.1] at this
theorem NM {t:Tsk} {s:List Int} {C:Int} (hw:Walk t s C):∃ p s',PlanR t s p s' C∧holdsB t.goal s'=true:=by
  induction hw with
  | goal h=>exact ⟨[],_,.nil,h⟩
  | @step s k o C ho hp _ ih =>
    obtain ⟨p,s',h1,h2⟩:=ih
    refine ⟨(k:Int) :: p,s',?_,h2⟩
    rw [Int.add_comm]
    exact .cons ho hp h1
theorem QF {t:Tsk} {gens:List Swp} (h:Sy t gens):∀ (n:Nat) (p s s':List Int) (C:Int),p.length≤n→StateOk t.vars s→PlanR t s p s' C→holdsB t.goal s'=true→WalkC t (cnS t gens) s C:=by
  have hok:=h.sm.ok
  intro n
  induction n with
  | zero =>
    intro p s s' C hp hs hr hg
    cases hr with
    | nil=>exact .goal hg
    | cons _ _ _=>simp at hp
  | succ n ih =>
    intro p s s' C hp hs hr hg
    cases hr with
    | nil=>exact .goal hg
    | @cons _ rest _ k o C ho hpre hr =>
      have hs2:=Gd hok hs ho
      obtain ⟨x,x1,x2⟩:=NL h hs2
      obtain ⟨i1,i2,a',i3,i4⟩:=Mr hok x1 hr hs2 x2
      have hg':holdsB t.goal a'=true:=by rw [JY hok x1 i2 i4];exact hg
      rw [Int.add_comm]
      exact .step ho hpre (ih _ _ _ _ (by simp [imP] at hp ⊢;omega) (Hr h hs2).2.2.1 i3 hg')
theorem QG {t:Tsk} {gens:List Swp} (h:Sy t gens) {C:Int} (hw:Walk t t.init C):WalkC t (cnS t gens) (cnS t gens t.init) C:=by
  have hok:=h.sm.ok
  have hs:=hok.2.2.2.1
  obtain ⟨x,x1,x2⟩:=NL h hs
  obtain ⟨p,s',p1,p2⟩:=NM hw
  obtain ⟨i1,i2,a',i3,i4⟩:=Mr hok x1 p1 hs x2
  exact QF h _ _ _ _ _ (Nat.le_refl _) (Hr h hs).2.2.1 i3 (by rw [JY hok x1 i2 i4];exact p2)
structure AS (t:Tsk) (gens:List Swp) (x:Ors):Prop where
  tt:x.t=t
  gg:x.gens=gens
  tab:TabI t.vars x.nodes x.tab.l
  heap:HeapOk (qs x.open_)
  num0:0≤x.number
def KPN (N N':List ONd):Prop:=∀ (j:Nat) n,N'[j]?=some n→n.fin=true→N[j]?=some n
def HMN (N:List ONd) (c:Int):Prop:=∀ (j:Nat) n,N[j]?=some n→n.fin=true→n.cost≤c
theorem HMN.kp {N N':List ONd} {c:Int} (h:HMN N c) (k:KPN N N'):HMN N' c:=fun j n hj hf=>h j n (k j n hj hf) hf
theorem NO {N N':List ONd} {i:Nat} {n:ONd} (h:UpN i n N N') (hf:n.fin=false):KPN N N':=fun j a hj ha=>by
  have hne:j≠i:=fun e=>by subst e;rw [h.1] at hj;obtain rfl:=Option.some.inj hj;rw [hf] at ha;cases ha
  rw [← h.2 j hne];exact hj
theorem Kz {t:Tsk} {gens:List Swp} (h:Sy t gens) {D:Nat→Int→Prop} {N:List ONd} {hp:List QEn} {ord:Nat→Nat} {E:Nat} (hinv:OrI t (cnS t gens) (wdS t gens) D N hp ord E):N.length≤512:=by
  have h1:(N.map (·.state)).length≤(statesL t.vars).length:=HX (Lt fun i j s hi hj=>by
    rw [List.getElem?_map] at hi hj
    obtain ⟨n,hn,e1⟩:=Option.map_eq_some_iff.1 hi
    obtain ⟨m,hm,e2⟩:=Option.map_eq_some_iff.1 hj
    exact hinv.uniq i j n m hn hm (e1.trans e2.symm)) fun s hs=>by
      obtain ⟨n,hn,rfl⟩:=List.mem_map.1 hs
      obtain ⟨i,hi⟩:=List.getElem?_of_mem hn
      exact GI.2 (Iu h (hinv.rch i n hi))
  rw [List.length_map] at h1
  exact Nat.le_trans h1 h.sm.many
theorem Re {t:Tsk} {gens:List Swp} (h:Sy t gens) {D:Nat→Int→Prop} {ord:Nat→Nat} {E:Nat} {x:Ors} (hx:AS t gens x) (hinv:OrI t (cnS t gens) (wdS t gens) D x.nodes (qs x.open_) ord E) (hn1:x.number≤100000) (hql:x.open_.length≤100000) (hE:E≤601)
    {p k:Nat} {o:Opr} {m:ONd} (ho:t.ops[k]?=some o) (hm:x.nodes[p]?=some m) (hmf:m.fin=true) (hpre:holdsB o.pre m.state=true) (hmax:HMN x.nodes m.cost) (hcb:m.cost + 1048576≤(E:Int) * 1048576) :
    ∃ y:Ors,oIn t m.cost (p:Int) x ⟨(k:Int),succ o m.state⟩=some (.next y)∧AS t gens y∧OrI t (cnS t gens) (wdS t gens) D y.nodes (qs y.open_) ord E∧y.number≤x.number + 1∧y.open_.length≤x.open_.length + 1∧KPN x.nodes y.nodes∧y.nodes[p]?=some m∧∃ (i:Nat) (m':ONd),y.nodes[i]?=some m'∧m'.state=cnS t gens (succ o m.state)∧m'.cost≤m.cost + o.cost:=by
  have hok:=h.sm.ok
  have hoo:=hok.2.2.2.2.2 k o ho
  have ho1':=hoo.1
  have ho2:=hoo.2.1
  have hN:=Kz h hinv
  have hcp:=(hinv.bound p m hm).1
  have hsm:=Iu h (hinv.rch p m hm)
  have hs:=Gd hok hsm ho
  unfold oIn
  dsimp only
  rw [Bh,ho,Am,CT (by unfold inI64;omega),Am]
  rcases Pe h hx.tt hx.gg hx.tab hx.heap hx.num0 hn1 hql (by omega) hs (m.cost + o.cost) (p:Int) (k:Int) with ⟨i,n,a1,a2,a3,a4⟩|⟨i,y,a1,a2,a3,a4,a5,a6,a7,a8,a9⟩
  · rw [a4,Am,if_neg (by simp)]
    exact ⟨x,rfl,hx,hinv,by omega,by omega,fun j n hj _=>hj,hm,i,n,a1,a2,a3⟩
  · rw [a1,Am,if_neg (by simp)]
    have hAS:AS t gens y:=⟨a2,a3,a4,a5,by have:=hx.num0;omega⟩
    rcases a9 with ⟨rfl,b2,b3⟩|⟨a,b1,b2,b3,b4⟩
    · have hup:UpN x.nodes.length (⟨cnS t gens (succ o m.state),m.cost + o.cost,(p:Int),(k:Int),wdS t gens (succ o m.state),false⟩:ONd) x.nodes y.nodes:=by rw [b2];exact PA
      have hpl:=AF hm
      have hpy:y.nodes[p]?=some m:=by rw [hup.2 p (by omega)];exact hm
      refine ⟨y,rfl,hAS,?_,by omega,by omega,NO hup rfl,hpy,x.nodes.length,_,hup.1,rfl,Int.le_refl _⟩
      exact hinv.upd hok hup a8 rfl rfl (by rw [b2];simp) (by rw [b2];exact Om _ rfl) (.inl ⟨List.getElem?_eq_none (Nat.le_refl _),b3⟩) rfl rfl rfl ho hm hmf hpre rfl rfl rfl hmax (by dsimp only;omega)
    · have haf:a.fin=false:=by
        cases hb:a.fin with
        | false=>rfl
        | true=>have:=hmax i a b1 hb;omega
      have hup:UpN i (⟨cnS t gens (succ o m.state),m.cost + o.cost,(p:Int),(k:Int),wdS t gens (succ o m.state),false⟩:ONd) x.nodes y.nodes:=by rw [b4];exact Pz (AF b1)
      have hip:p≠i:=fun e=>by subst e;rw [hm] at b1;obtain rfl:=Option.some.inj b1;rw [hmf] at haf;cases haf
      refine ⟨y,rfl,hAS,?_,by omega,by omega,NO hup rfl,by rw [hup.2 p hip];exact hm,i,_,hup.1,rfl,Int.le_refl _⟩
      exact hinv.upd hok hup a8 rfl rfl (by rw [b4];simp) (by rw [b4];exact Lw b1 haf rfl) (.inr ⟨a,b1,b2,haf,b3⟩) rfl rfl rfl ho hm hmf hpre rfl rfl rfl hmax (by dsimp only;omega)
structure OJ (t:Tsk) (gens:List Swp) (D:Nat→Int→Prop) (ord:Nat→Nat) (E NN:Nat) (i:Nat) (m:ONd) (y:Ors):Prop where
  ob:AS t gens y
  inv:OrI t (cnS t gens) (wdS t gens) D y.nodes (qs y.open_) ord E
  num1:y.number≤NN
  qlen:y.open_.length≤NN
  hi:y.nodes[i]?=some m
  hm:HMN y.nodes m.cost
theorem Rf {t:Tsk} {gens:List Swp} (h:Sy t gens) {ord:Nat→Nat} {E NN i:Nat} {m:ONd} {y:Ors} (hj:OJ t gens (fun j _=>j≠i) ord E NN i m y) (hmf:m.fin=true) (hN:NN≤90000) (hE:E≤601) (hcb:m.cost + 1048576≤(E:Int) * 1048576) :
    ∃ y':Ors,rng (ρ:=Ctl OT (Rsl×Err)) (fun (_:Nat) (a:Suc) (y:Ors)=>oIn t m.cost (i:Int) y a) ((appS t m.state).map (sucOf t m.state)) 0 y=some (.done y')∧OJ t gens (fun _ _=>True) ord E (NN + 20) i m y':=by
  have hok:=h.sm.ok
  have hops:t.ops.length≤20:=h.sm.2.1
  have hsok:=Iu h (hj.inv.rch i m hj.hi)
  have hlen:(appl t m.state).length≤20:=Nat.le_trans (Lp t m.state) hops
  rw [Iq hsok]
  obtain ⟨y',h1,h2⟩:=DD (ρ:=Ctl OT (Rsl×Err)) (f:=fun (_:Nat) (a:Suc) (y:Ors)=>oIn t m.cost (i:Int) y a) (xs:=(appl t m.state).map (sucOf t m.state)) (s₀:=y) (fun b z=>OJ t gens (fun j q=>j≠i∨q∈(appl t m.state).take b) ord E (NN + b) i m z)
    { hj with inv:={ hj.inv with rel:=fun j a q hj' hs' hq hd=>hj.inv.rel j a q hj' hs' hq (by rcases hd with hd|hd;exact hd;simp at hd) } } (fun b a z hb hz=>by
      rw [List.getElem?_map] at hb
      obtain ⟨op,hop,rfl⟩:=Option.map_eq_some_iff.1 hb
      obtain ⟨k,o,rfl,ho,hp⟩:=Lo (List.mem_of_getElem? hop)
      have hml:=AF hop
      have hq:=hz.qlen
      have hnu:=hz.num1
      have e1:sucOf t m.state (k:Int)=⟨(k:Int),succ o m.state⟩:=by rw [Py,(Mp ho).2]
      obtain ⟨z',z1,z2,z3,z4,z5,z6,z7,i',m',z8,z9,z10⟩:=Re h hz.ob hz.inv (by omega) (by omega) hE ho hz.hi hmf hp hz.hm hcb
      refine ⟨z',by rw [e1];exact z1,⟨z2,?_,by omega,by omega,z7,hz.hm.kp z6⟩⟩
      refine z3.more (j₀:=i) (q₀:=(k:Int)) (fun j q hd=>?_) z7 rfl ho z8 z9 z10
      rcases hd with hd|hd
      · exact .inl (.inl hd)
      · rcases (Ol hop).1 hd with hd|rfl
        · exact .inl (.inr hd)
        · by_cases e:j=i
          · exact .inr ⟨e,rfl⟩
          · exact .inl (.inl e))
  rw [List.length_map] at h2
  have hinv:=h2.inv
  have hq:=h2.qlen
  have hnu:=h2.num1
  refine ⟨y',h1,{ h2 with
    inv := { hinv with rel:=fun j s' q hj2 hs' hq2 hd=>hinv.rel j s' q hj2 hs' hq2 (by
      by_cases e:j=i
      · subst e
        rw [h2.hi] at hj2
        obtain rfl:=Option.some.inj hj2
        exact .inr (by rw [List.take_of_length_le (Nat.le_refl _)];exact hq2)
      · exact .inl e) }
    num1:=by omega
    qlen:=by omega }⟩
structure OI (t:Tsk) (gens:List Swp) (ord:Nat→Nat) (NN:Nat) (st:OT):Prop where
  ob:AS t gens st.2
  inv:OrI t (cnS t gens) (wdS t gens) (fun _ _=>True) st.2.nodes (qs st.2.open_) ord st.1.toNat
  num1:st.2.number≤NN
  qlen:st.2.open_.length≤NN
  exp0:0≤st.1
  nn:(NN:Int)≤1 + 20 * st.1
theorem OI.exp {t:Tsk} {gens:List Swp} (h:Sy t gens) {ord:Nat→Nat} {NN:Nat} {st:OT} (hi:OI t gens ord NN st):st.1≤512:=by
  have h1:=Kz h hi.inv
  have h2:=hi.inv.num
  have h3:=PB st.2.nodes
  have:=hi.exp0
  omega
theorem QH {t:Tsk} {gens:List Swp} (h:Sy t gens) {ord:Nat→Nat} {NN:Nat} {st:OT} (hi:OI t gens ord NN st) :
    (∃ st':OT,(∀ lim,orbF t (some ⟨t⟩) lim st=some (.next st'))∧OI t gens ord NN st'∧st'.1=st.1∧st'.2.open_.length < st.2.open_.length) ∨
    ((∀ lim,orbF t (some ⟨t⟩) lim st=some (.ret (⟨2,[],0,st.1⟩,⟨0⟩)))∧st.2.open_.length=0) ∨
    (∃ p c,(∀ lim,orbF t (some ⟨t⟩) lim st=some (.ret (⟨1,p,c,st.1⟩,⟨0⟩)))∧p.length≤600∧(∃ s',PlanR t t.init p s' c∧holdsB t.goal s'=true)∧(∀ e∈qs st.2.open_,c≤e.key)∧∃ (i:Nat) (n:ONd),st.2.nodes[i]?=some n∧n.fin=false) ∨
    (∃ (st':OT) (ord':Nat→Nat) (NN':Nat),(∀ lim,orbF t (some ⟨t⟩) lim st=if lim≤st.1 then some (.ret (⟨3,[],0,st.1⟩,⟨0⟩)) else some (.next st'))∧OI t gens ord' NN' st'∧st'.1=st.1 + 1∧∃ (i:Nat) (n:ONd),st.2.nodes[i]?=some n∧n.fin=false):=by
  have hok:=h.sm.ok
  have hE:=hi.exp h
  have hE0:=hi.exp0
  have hnn:=hi.nn
  have hql:=hi.qlen
  have hnu:=hi.num1
  obtain ⟨exp,tt,gg,N,tab,op,num⟩:=st
  obtain ⟨⟨e1,e2,has3,has4,has5⟩,hinv,_,_,_,_⟩:=hi
  dsimp only at e1 e2 has3 has4 has5 hinv hE hE0 hnn hql hnu ⊢
  subst e1 e2
  by_cases h0:op.length=0
  · refine .inr (.inl ⟨fun lim=>?_,h0⟩)
    unfold orbF Ca
    dsimp only
    rw [Am,if_pos (by omega)]
  obtain ⟨pr,p1,e,q',rfl,p3,p4,p5⟩:=PD (q:=⟨op⟩) has4 (by dsimp only;omega) (by dsimp only;omega)
  dsimp only at p4 p5
  have hem:toQ e∈qs op:=p4.mem_iff.2 List.mem_cons_self
  obtain ⟨i,n,hei,hn,hle⟩:=hinv.ent _ hem
  change e.node=(i:Int) at hei
  change n.cost≤e.cost at hle
  have hpl:=p4.length_eq
  simp only [List.length_cons,FI] at hpl
  have hst:=Iu h (hinv.rch i n hn)
  by_cases hstale:n.fin=true∨n.cost < e.cost
  · refine .inl ⟨(exp,⟨tt,gg,N,tab,q'.l,num⟩),fun lim=>?_,⟨⟨rfl,rfl,has3,p3,has5⟩,hinv.drop p4 hei hn (hstale.imp id fun hl=>by change n.cost≠e.cost;omega),hnu,by dsimp only;omega,hE0,hnn⟩,rfl,by dsimp only;omega⟩
    unfold orbF Ca
    dsimp only
    rw [Am,if_neg (by omega),p1,Am]
    dsimp only
    rw [hei,Bh,hn,Am]
    by_cases hf:n.fin=true
    · rw [if_pos hf,Am,Bj]
    · rw [if_neg hf,Am,if_pos (hstale.resolve_left hf),Am,Bj]
  · have hff:n.fin=false:=by
      cases hb:n.fin with
      | false=>rfl
      | true=>exact absurd (.inl hb) hstale
    have hke:n.cost=e.cost:=by
      have:¬ n.cost < e.cost:=fun hl=>hstale (.inr hl)
      omega
    have start:∀ lim,orbF tt (some ⟨tt⟩) lim (exp,⟨tt,gg,N,tab,op,num⟩)=if holdsB tt.goal n.state=true then bnd (BS (⟨tt,gg,N,tab,q'.l,num⟩:Ors) (i:Int)) fun p=>if p.2.n≠0 then (some (.ret ((⟨0,([]:List Int),0,0⟩:Rsl),(⟨p.2.n⟩:Err)))) else (some (.ret ((⟨1,p.1,n.cost,exp⟩:Rsl),(⟨0⟩:Err)))) else if lim≤exp then (some (.ret ((⟨3,([]:List Int),0,exp⟩:Rsl),(⟨0⟩:Err)))) else (bnd (chkI (exp + 1)) fun n2=>bnd (Bp (some ⟨tt⟩) n.state) fun l=>bnd (rng (ρ:=Ctl OT (Rsl×Err)) (fun (_:Nat) (a:Suc) (y:Ors)=>oIn tt n.cost (i:Int) y a) l 0 (⟨tt,gg,N.set i { n with fin:=true },tab,q'.l,num⟩:Ors)) fun r=>fin r fun (z:Ors)=>some (.next (n2,z))):=by
      intro lim
      unfold orbF Ca
      dsimp only
      rw [Am,if_neg (by omega),p1,Am]
      dsimp only
      rw [hei,Bh,hn,Am,hff,BB,Am,if_neg (by omega),Am,BB,Am,Nu,Am,Int.toNat_natCast]
      simp only [Am]
    have hleast:∀ e'∈qs op,n.cost≤e'.key:=fun e' m=>by have:=Nw (p5 e' m);change e.cost≤e'.key at this;omega
    by_cases hg:holdsB tt.goal n.state=true
    · obtain ⟨l,l1,l2⟩:=hinv.path hn
      obtain ⟨p,L,g1,g2,g3,g4,y,g5,g6⟩:=OD h (x:=⟨tt,gg,N,tab,q'.l,num⟩) rfl rfl hinv hn l1 (by omega)
      refine .inr (.inr (.inl ⟨p,n.cost,fun lim=>?_,by omega,⟨L,g3,by rw [← JY hok g5 g4 g6];exact hg⟩,hleast,i,n,hn,hff⟩))
      rw [start,if_pos hg,g1,Am,if_neg (by simp)]
    · have hgf:holdsB tt.goal n.state=false:=by simpa using hg
      have hm:=hinv.mark p4 p5 hei hn hff hke hgf rfl
      have hbd:=hinv.bound i n hn
      rw [Int.toNat_of_nonneg hE0] at hbd
      have hil:=AF hn
      have hself:(N.set i { n with fin:=true })[i]?=some { n with fin:=true }:=List.getElem?_set_self hil
      obtain ⟨y',y1,y2⟩:=Rf h (E:=exp.toNat + 1) (NN:=NN) (i:=i) (m:={ n with fin:=true }) (y:=(⟨tt,gg,N.set i { n with fin:=true },tab,q'.l,num⟩:Ors)) ⟨⟨rfl,rfl,has3.set hn rfl,p3,has5⟩,hm,hnu,by dsimp only;omega,hself,fun j a hj hja=>by
          by_cases e1:i=j
          · subst e1;rw [hself] at hj;obtain rfl:=Option.some.inj hj;exact Int.le_refl _
          · rw [List.getElem?_set_ne e1] at hj
            have:=hinv.lower j a hj hja _ hem
            change a.cost≤e.cost at this
            change a.cost≤n.cost
            omega⟩ rfl (by omega) (by omega) (by
        have:((exp.toNat + 1:Nat):Int)=exp + 1:=by omega
        rw [this]
        dsimp only
        omega)
      refine .inr (.inr (.inr ⟨(exp + 1,y'),(fun j=>if j=i then exp.toNat else ord j),NN + 20,fun lim=>?_,⟨y2.ob,?_,by have:=y2.num1;dsimp only;omega,y2.qlen,by dsimp only;omega,by dsimp only;omega⟩,rfl,i,n,hn,hff⟩))
      · rw [start,if_neg hg]
        by_cases hlim:lim≤exp
        · rw [if_pos hlim,if_pos hlim]
        · rw [if_neg hlim,if_neg hlim,CT (by unfold inI64;omega),Am,JU hok (by have:=hst.1;have:=hok.1;omega),Am,y1,Am,BP]
      · dsimp only
        rw [show (exp + 1).toNat=exp.toNat + 1 from by omega]
        exact y2.inv
end
section
set_option linter.unusedVariables false
set_option linter.unusedSimpArgs false
open Go Go.RowKit
def ResO (t:Tsk) (gens:List Swp) (m:Int) (r:Rsl):Prop:=0≤r.expanded∧r.expanded≤m∧∃ M:List (List Int),M.Nodup∧(M.length:Int)=r.expanded∧(∀ s∈M,OR t (cnS t gens) s) ∧
  ((r.verdict=1∧r.plan.length≤600∧(∃ s',PlanR t t.init r.plan s' r.cost∧holdsB t.goal s'=true)∧(∀ C,Walk t t.init C→r.cost≤C)∧∃ s,¬ s∈M∧OR t (cnS t gens) s) ∨
   (r.verdict=2∧r.plan=[]∧r.cost=0∧(∀ C,¬ Walk t t.init C)∧∀ s,OR t (cnS t gens) s→s∈M) ∨
   (r.verdict=3∧r.plan=[]∧r.cost=0∧m≤r.expanded∧∃ s,¬ s∈M∧OR t (cnS t gens) s))
def finS (N:List ONd):List (List Int):=(N.filter (·.fin)).map (·.state)
theorem Ji {N:List ONd} {s:List Int}:s∈finS N↔∃ (i:Nat) (n:ONd),N[i]?=some n∧n.fin=true∧n.state=s:=by
  unfold finS
  rw [List.mem_map]
  constructor
  · rintro ⟨n,hn,rfl⟩
    obtain ⟨h1,h2⟩:=List.mem_filter.1 hn
    obtain ⟨i,hi⟩:=List.getElem?_of_mem h1
    exact ⟨i,n,hi,h2,rfl⟩
  · rintro ⟨i,n,hi,h2,rfl⟩
    exact ⟨n,List.mem_filter.2 ⟨List.mem_of_getElem? hi,h2⟩,rfl⟩
section
variable {t : Tsk} {gens : List Swp} {ord : Nat → Nat} {NN : Nat} {st : OT}
theorem OI.set (h:Sy t gens) (hi:OI t gens ord NN st):(finS st.2.nodes).Nodup∧((finS st.2.nodes).length:Int)=st.1∧∀ s∈finS st.2.nodes,OR t (cnS t gens) s:=by
  have hE0:=hi.exp0
  refine ⟨?_,?_,fun s hs=>?_⟩
  · have h1:(st.2.nodes.map (·.state)).Nodup:=Lt fun i j s hi' hj'=>by
      rw [List.getElem?_map] at hi' hj'
      obtain ⟨n,hn,e1⟩:=Option.map_eq_some_iff.1 hi'
      obtain ⟨m,hm,e2⟩:=Option.map_eq_some_iff.1 hj'
      exact hi.inv.uniq i j n m hn hm (e1.trans e2.symm)
    exact h1.sublist ((List.filter_sublist).map _)
  · unfold finS
    rw [List.length_map]
    have:=hi.inv.num
    unfold cntN at this
    omega
  · obtain ⟨i,n,hn,_,rfl⟩:=Ji.1 hs
    exact hi.inv.rch i n hn
theorem OI.left (hi:OI t gens ord NN st) {i:Nat} {n:ONd} (hn:st.2.nodes[i]?=some n) (hf:n.fin=false):∃ s,¬ s∈finS st.2.nodes∧OR t (cnS t gens) s:=by
  refine ⟨n.state,fun hm=>?_,hi.inv.rch i n hn⟩
  obtain ⟨j,m,hm,hmf,e⟩:=Ji.1 hm
  have:=hi.inv.uniq j i m n hm hn e
  subst this
  rw [hn] at hm
  obtain rfl:=Option.some.inj hm
  rw [hf] at hmf
  cases hmf
theorem OI.len (h:Sy t gens) (hi:OI t gens ord NN st):st.2.open_.length≤90000:=by
  have h1:=hi.exp h
  have h2:=hi.qlen
  have h3:=hi.nn
  have:=hi.exp0
  omega
theorem OI.front (h:Sy t gens) (hi:OI t gens ord NN st) {C:Int} (hw:Walk t t.init C):∃ e∈qs st.2.open_,e.key≤C:=by
  obtain ⟨n,r1,r2,_,r4,_⟩:=hi.inv.root
  obtain ⟨e,e1,e2⟩:=hi.inv.front h.sm.ok (QG h hw) 0 n r1 r2
  exact ⟨e,e1,by omega⟩
end
theorem PR {M K a q q' n:Nat} (ha:a < M) (h:(M - a) * K + q < n + 1) (hq:q' < K):(M - (a + 1)) * K + q' < n:=by
  obtain ⟨b,hb⟩:∃ b,M - a=b + 1:=⟨M - a - 1,by omega⟩
  have hb':M - (a + 1)=b:=by omega
  rw [hb,Nat.add_mul,Nat.one_mul] at h
  rw [hb']
  omega
theorem Rg {t:Tsk} {gens:List Swp} (h:Sy t gens) (lim:Int):∀ (n:Nat) (st:OT) (ord:Nat→Nat) (NN:Nat),OI t gens ord NN st→st.1≤max lim 0→(601 - st.1.toNat) * 100000 + st.2.open_.length < n→∃ r,lop (orbF t (some ⟨t⟩) lim) st=some (.ret (r,⟨0⟩))∧ResO t gens (max lim 0) r∧st.1≤r.expanded∧∀ lim',r.verdict≠3→r.expanded≤max lim' 0→lop (orbF t (some ⟨t⟩) lim') st=some (.ret (r,⟨0⟩)):=by
  intro n
  induction n with
  | zero=>intro st ord NN _ _ hn;omega
  | succ n ih =>
    intro st ord NN hi hsl hn
    have hE:=hi.exp h
    have hE0:=hi.exp0
    have hok:=h.sm.ok
    obtain ⟨m1,m2,m3⟩:=hi.set h
    rcases QH h hi with ⟨st',h1,h2,h3,h4⟩|⟨h1,h2⟩|⟨p,c,h1,h2,h3,h4,i,nd,h5,h6⟩|⟨st',ord',NN',h1,h2,h3,i,nd,h5,h6⟩
    · obtain ⟨r,f1,f2,f3,f4⟩:=ih st' ord NN h2 (by omega) (by rw [h3];omega)
      refine ⟨r,by rw [CZ,h1];exact f1,f2,by omega,fun lim' hv hl=>?_⟩
      rw [CZ,h1];exact f4 lim' hv hl
    · have hnil:st.2.open_=[]:=List.length_eq_zero_iff.1 h2
      have hq:qs st.2.open_=[]:=by rw [hnil];rfl
      refine ⟨⟨2,[],0,st.1⟩,by rw [CZ,h1],⟨hE0,hsl,finS st.2.nodes,m1,m2,m3,.inr (.inl ⟨rfl,rfl,rfl,fun C hw=>?_,fun s hs=>?_⟩)⟩,Int.le_refl _,fun lim' _ _=>by rw [CZ,h1]⟩
      · obtain ⟨e',m,_⟩:=hi.front h hw
        rw [hq] at m;simp at m
      · have hinv:=hi.inv
        rw [hq] at hinv
        obtain ⟨i,nd,i1,i2,i3⟩:=hinv.all hs
        exact Ji.2 ⟨i,nd,i1,i3,i2⟩
    · refine ⟨⟨1,p,c,st.1⟩,by rw [CZ,h1],⟨hE0,hsl,finS st.2.nodes,m1,m2,m3,.inl ⟨rfl,h2,h3,fun C hw=>?_,hi.left h5 h6⟩⟩,Int.le_refl _,fun lim' _ _=>by rw [CZ,h1]⟩
      obtain ⟨e',m,k⟩:=hi.front h hw
      have:=h4 e' m
      show c≤C
      omega
    · by_cases hlim:lim≤st.1
      · exact ⟨⟨3,[],0,st.1⟩,by rw [CZ,h1,if_pos hlim],⟨hE0,hsl,finS st.2.nodes,m1,m2,m3,.inr (.inr ⟨rfl,rfl,rfl,by show max lim 0≤st.1;omega,hi.left h5 h6⟩)⟩,Int.le_refl _,fun lim' hv _=>absurd rfl hv⟩
      · have hmany:=h2.len h
        obtain ⟨r,f1,f2,f3,f4⟩:=ih st' ord' NN' h2 (by omega) (by
          have:st'.1.toNat=st.1.toNat + 1:=by omega
          rw [this];exact PR (by omega) hn (by omega))
        refine ⟨r,by rw [CZ,h1,if_neg hlim];exact f1,f2,by omega,fun lim' hv hl=>?_⟩
        rw [CZ,h1,if_neg (by omega)];exact f4 lim' hv hl
theorem QI {t:Tsk} {gens:List Swp} (h:Sy t gens):∃ x,Bt (⟨t,gens,([]:List ONd),(⟨[]⟩:MapP ByteArray Int),([]:List OEn),0⟩:Ors) t.init 0 (-1) (-1)=some (⟨0⟩,x)∧OI t gens (fun _=>0) 1 (0,x):=by
  have hok:=h.sm.ok
  have one:∀ {α:Type} {a b:α} {i:Nat},[a][i]?=some b→i=0∧b=a:=fun {α a b i} h=>by
    cases i with
    | zero=>simp at h;exact ⟨rfl,h.symm⟩
    | succ i=>simp at h
  have tab0:TabI t.vars [] ([]:List (ByteArray×Int)):=fun y _=>.inl ⟨rfl,fun i n hi=>by simp at hi⟩
  rcases Pe h (x:=(⟨t,gens,([]:List ONd),(⟨[]⟩:MapP ByteArray Int),([]:List OEn),0⟩:Ors)) rfl rfl tab0 (fun j x y _ hx=>by simp [qs] at hx) (by simp) (by simp) (by simp) (by simp) hok.2.2.2.1 0 (-1) (-1) with ⟨i,n,a1,_⟩|⟨i,y,a1,a2,a3,a4,a5,a6,a7,a8,a9⟩
  · simp at a1
  rcases a9 with ⟨rfl,b2,b3⟩|⟨a,b1,_⟩
  case inr=>simp at b1
  dsimp only at a1 a2 a3 a4 a5 a6 a7 a8 b2 b3
  rw [List.nil_append] at b2
  refine ⟨y,a1,⟨⟨a2,a3,a4,a5,by show 0≤y.number;omega⟩,?_,by show y.number≤1;omega,by dsimp only;rw [a7];simp,by simp,by simp⟩⟩
  have hn0:∀ (i:Nat) n,y.nodes[i]?=some n→i=0∧n=⟨cnS t gens t.init,0,-1,-1,wdS t gens t.init,false⟩:=fun i n hi=>by rw [b2] at hi;exact one hi
  have hq0:∀ e,e∈qs y.open_↔e=⟨0,0,((0:Nat):Int),0 + 1⟩:=fun e=>by rw [a8.mem_iff];simp [qs]
  dsimp only
  refine ⟨⟨_,by rw [b2];rfl,rfl,rfl,rfl,rfl,rfl⟩,fun i n hi=>.inl (hn0 i n hi).1,fun i n hi hf=>?_,fun i n hi hf=>?_,fun e he=>?_,fun i n hi hf=>?_,fun i n hi=>?_,fun i n hi hf=>?_,fun i n q hi hf=>?_,by rw [b2];rfl,fun i n hi=>?_,fun hE=>by simp at hE,fun i j n m hi hj _=>by rw [(hn0 i n hi).1,(hn0 j m hj).1]⟩
  · rw [(hn0 i n hi).2] at hf;cases hf
  · rw [(hn0 i n hi).2] at hf;cases hf
  · rw [(hq0 e).1 he]
    exact ⟨0,_,rfl,by rw [b2];rfl,by simp⟩
  · obtain ⟨rfl,rfl⟩:=hn0 i n hi
    exact ⟨_,(hq0 _).2 rfl,rfl,rfl⟩
  · rw [(hn0 i n hi).2]
    simp
  · rw [(hn0 i n hi).2] at hf;cases hf
  · rw [(hn0 i n hi).2] at hf;cases hf
  · rw [(hn0 i n hi).2];exact .init
theorem Hs {t:Tsk} {gens:List Swp} (hok:TaskOk t) (hs:∀ x∈gens,SymP t x):rng (ρ:=Rsl×Err) (fun (k50:Nat) (a51:Swp) (s48:Unit)=>bnd (CD t a51) fun q87=>if q87=true then some (.next ()) else some (.ret ((⟨0,([]:List Int),0,0⟩:Rsl),(⟨2⟩:Err)))) gens 0 ()=some (.done ()):=by
  obtain ⟨⟨⟩,h1,_⟩:=DD (ρ:=Rsl×Err) (f:=fun (k50:Nat) (a51:Swp) (s48:Unit)=>bnd (CD t a51) fun q87=>if q87=true then some (.next ()) else some (.ret ((⟨0,([]:List Int),0,0⟩:Rsl),(⟨2⟩:Err)))) (xs:=gens) (s₀:=()) (fun _ _=>True) trivial fun k x s hk _=>by
    rw [Oy,Am,Bd ⟨hok,hs x (List.mem_of_getElem? hk)⟩,Bj]
    exact ⟨(),rfl,trivial⟩
  exact h1
theorem Jj {t:Tsk} {gens:List Swp} (h:Sy t gens) (lim:Int):∃ r,BI t gens lim=some (r,⟨0⟩)∧ResO t gens (max lim 0) r∧(r.verdict≠3→∀ lim',r.expanded≤max lim' 0→BI t gens lim'=some (r,⟨0⟩)):=by
  have hok:=h.sm.ok
  obtain ⟨x,x1,x2⟩:=QI h
  have unf:∀ l,BI t gens l=bnd (lop (orbF t (some ⟨t⟩) l) (0,x)) fun res151=>fin res151 fun (_:OT)=>none:=fun l=>by
    rw [JX]
    unfold Cn
    rw [CN.2 hok,Am,if_neg (by simp),Hs hok h.sy,Am,BP,Lr hok,Am,if_neg (by simp),x1,Am,if_neg (by simp)]
  obtain ⟨r,f1,f2,f3,f4⟩:=Rg h lim _ _ _ _ x2 (by dsimp only;omega) (Nat.lt_succ_self _)
  refine ⟨r,by rw [unf,f1,Am,GE],f2,fun hv lim' hl=>?_⟩
  rw [unf,f4 lim' hv hl,Am,GE]
theorem Ht {t:Tsk} {gens:List Swp} (h:Sy t gens) {m:Int} {r:Rsl} (hr:ResO t gens m r) (hm:600≤m):r.verdict≠3∧r.expanded≤((statesL t.vars).length:Int):=by
  obtain ⟨_,_,M,m1,m2,m3,hc⟩:=hr
  have hM:M.length≤(statesL t.vars).length:=HX m1 fun s hs=>GI.2 (Iu h (m3 s hs))
  refine ⟨fun hv=>?_,by omega⟩
  have:=h.sm.many
  rcases hc with h1|h1|⟨_,_,_,h4,_⟩<;>omega
end
section
set_option linter.unusedVariables false
set_option linter.unusedSimpArgs false
open Go Go.RowKit
attribute [local irreducible] ewp owp hwp hwq hws Ev Evg Fn retPost loud loudS Res1
attribute [local irreducible] hwx loudX
noncomputable def DF  : Option Bool :=
  bnd (BI (⟨([2]:List Int),([0]:List Int),[(⟨0,1⟩:Fct)],[(⟨(⟨#[]⟩:ByteArray),3,([]:List Fct),[(⟨([]:List Fct),0,1⟩:Eff)]⟩:Opr)]⟩:Tsk) ([]:List Swp) 10) fun q48=>bnd (if q48.2.n=0 then (if q48.1.verdict=1 then (if q48.1.cost=3 then (bnd (Eu q48.1.plan ([0]:List Int)) fun q88=>if q88=true then some true else some false) else (some false)) else (some false)) else (some false):Option Bool) fun y75=>some y75
theorem HA {w:World} {A:Nat→Prop} (hA:∀ k,A k→k < w.heap.size)  {r:Bool} (hm:DF  = some r) :
    Fn Tryz.prog 11 [] w fun v w'=>Ext w w'∧Vb w' (upA A w w') v r:=by
 obtain ⟨O,hB,h2⟩:=enter hA
 refine AK Tryz.func11 rfl Tryz.ntmps11 rfl ?_
 unfold DF at hm
 refine Al (Aj (Aw rfl rfl (o_z ?_)))
 refine Al (Aj (CB 2 (by decide) O (xs:=(([2]:List Int):List Int)) rfl rfl rfl rfl ⟨(vInt (show inI64 (2) from by decide)),trivial⟩ (by decide) (by decide) rfl fun g1 w2 O3 S4 h5=>?_))
 refine CB 3 (by decide) O3 (xs:=(([0]:List Int):List Int)) rfl rfl rfl rfl ⟨(vInt (show inI64 (0) from by decide)),trivial⟩ (by decide) (by decide) rfl fun g7 w8 O9 l0 m0=>?_
 refine Dd rfl rfl rfl ?_
 refine CB 4 (by decide) O9 (xs:=([(⟨0,1⟩:Fct)]:List Fct)) rfl rfl rfl rfl ⟨(Vb.ofAgg (cs:=[(.int .i64 0),(.int .i64 1)]) (x:=(⟨0,1⟩:Fct)) rfl ⟨rfl,(show inI64 (0) from by decide),(show inI64 (1) from by decide)⟩),trivial⟩ (by decide) (by decide) rfl fun c1 i2 k1 k0 n0=>?_
 refine Dd rfl rfl rfl ?_
 refine CB 5 (by decide) k1 (xs:=([(⟨([]:List Fct),0,1⟩:Eff)]:List Eff)) rfl rfl rfl rfl ⟨(Vb.ofAgg (cs:=[(.slice none 0 0),(.int .i64 0),(.int .i64 1)]) (x:=(⟨([]:List Fct),0,1⟩:Eff)) rfl ⟨_,rfl,(Vb.nil _ _),(show inI64 (0) from by decide),(show inI64 (1) from by decide)⟩),trivial⟩ (by decide) (by decide) rfl fun l1 j2 k2 d0 w0=>?_
 refine Dd rfl rfl rfl ?_
 obtain ⟨m1,e0,w0⟩:=w0.freeze
 refine CB 6 (by decide) m1 (xs:=([(⟨(⟨#[]⟩:ByteArray),3,([]:List Fct),[(⟨([]:List Fct),0,1⟩:Eff)]⟩:Opr)]:List Opr)) rfl rfl rfl rfl ⟨(Vb.ofAgg (cs:=[(.string (⟨#[]⟩:ByteArray)),(.int .i64 3),(.slice none 0 0),(.slice (some ⟨l1,0,none⟩) [(⟨([]:List Fct),0,1⟩:Eff)].length 1)]) (x:=(⟨(⟨#[]⟩:ByteArray),3,([]:List Fct),[(⟨([]:List Fct),0,1⟩:Eff)]⟩:Opr)) rfl ⟨_,_,rfl,(Vb.nil _ _),w0,(show inI64 (3) from by decide),(show (⟨#[]⟩:ByteArray).size≤9223372036854775807 from by decide)⟩),trivial⟩ (by decide) (by decide) rfl fun d1 l2 n1 f0 s0=>?_
 refine Dd rfl rfl rfl ?_
 refine Bf 7 n1 rfl fun o1 m2 p1 b0 t0=>?_
 refine AT t0 rfl rfl rfl (Bg rfl) (allOne rfl) fun q1 c0 t0=>?_
 replace t0:Lc 7 q1 p1 o1 26 [(.slice (some ⟨g1,0,none⟩) ([2]:List Int).length 1),(.slice (some ⟨g7,0,none⟩) ([0]:List Int).length 1),(.slice (some ⟨c1,0,none⟩) [(⟨0,1⟩:Fct)].length 1),(.slice (some ⟨d1,0,none⟩) [(⟨(⟨#[]⟩:ByteArray),3,([]:List Fct),[(⟨([]:List Fct),0,1⟩:Eff)]⟩:Opr)].length 1)]:=t0
 refine o_z ?_
 refine Al (Aj (Bi (hl:=rfl) (hc:=(t0.1).cellsAt) rfl rfl ?_))
 replace h5:=((((((h5.st l0).st k0).st d0).st e0).st f0).st b0).st c0
 obtain ⟨n2,g0,h5⟩:=h5.freeze
 replace m0:=((((((m0.st k0).st d0).st e0).st f0).st b0).st c0).st g0
 obtain ⟨o2,h0,m0⟩:=m0.freeze
 replace n0:=((((((n0.st d0).st e0).st f0).st b0).st c0).st g0).st h0
 obtain ⟨p2,i0,n0⟩:=n0.freeze
 replace s0:=((((s0.st b0).st c0).st g0).st h0).st i0
 obtain ⟨r1,j0,s0⟩:=s0.freeze
 obtain ⟨u0,s1,hm⟩:=bs hm
 replace h5:=((h5.st h0).st i0).st j0
 replace m0:=(m0.st i0).st j0
 replace n0:=n0.st j0
 refine Bw (O:=r1) (R:=fun w' F v=>T2 w' F v u0) (EN Fr.lt (Vb.ofAgg (cs:=[(.slice (some ⟨g1,0,none⟩) ([2]:List Int).length 1),(.slice (some ⟨g7,0,none⟩) ([0]:List Int).length 1),(.slice (some ⟨c1,0,none⟩) [(⟨0,1⟩:Fct)].length 1),(.slice (some ⟨d1,0,none⟩) [(⟨(⟨#[]⟩:ByteArray),3,([]:List Fct),[(⟨([]:List Fct),0,1⟩:Eff)]⟩:Opr)].length 1)]) (x:=(⟨([2]:List Int),([0]:List Int),[(⟨0,1⟩:Fct)],[(⟨(⟨#[]⟩:ByteArray),3,([]:List Fct),[(⟨([]:List Fct),0,1⟩:Eff)]⟩:Opr)]⟩:Tsk)) rfl ⟨_,_,_,_,rfl,h5,m0,n0,s0⟩) (Vb.nil _ _) (show inI64 (10) from by decide) s1) rfl rfl fun q2 r2 t1 r0 u1=>?_
 obtain ⟨s2,t2,rfl,v1,w1⟩:=u1
 obtain ⟨x1,rfl,u2,rfl,v0,v2,x2,y2⟩:=v1
 obtain ⟨y1,z1,rfl⟩:=v0.form
 obtain ⟨rfl,z2⟩:=w1.err
 refine Ar rfl rfl (CE rfl rfl rfl (CE rfl rfl rfl (Bf 8 t1 rfl fun a2 a3 e1 o0 p0=>?_)))
 refine AT p0 rfl rfl rfl (Bg rfl) (allOne rfl) fun b2 q0 p0=>?_
 replace p0:Lc 8 b2 e1 a2 32 [(.int .i64 u0.1.verdict),(.slice y1 u0.1.plan.length z1),(.int .i64 u0.1.cost),(.int .i64 u0.1.expanded)]:=p0
 refine Aw rfl rfl (o_z ?_)
 refine Al ?_
 obtain ⟨c2,a0,hm⟩:=bs hm
 refine AL (fun l' w'=>∃ (d2:Unit) (O':Lab),subs l' [(0,(.bool c2))]∧Bs w A w' O') ?_ ?_
 ·
  refine Aj (Ar rfl rfl (MI rfl rfl (fun x0=>?_) fun x0=>?_))
  ·
   replace a0:=ip a0 x0
   refine Ar rfl rfl (Az rfl rfl (AJ rfl rfl (Az rfl rfl (AG (hc:=Blk.cell (i:=0) (p0.1) rfl) rfl rfl ?_))))
   refine Az rfl rfl (EJ rfl rfl rfl (fun y0=>?_) fun y0=>?_)
   ·
    replace a0:=ip a0 y0
    refine Bq rfl rfl rfl (Ar rfl rfl (Az rfl rfl (AJ rfl rfl (Az rfl rfl (AG (hc:=Blk.cell (i:=2) (p0.1) rfl) rfl rfl ?_)))))
    refine Az rfl rfl (EJ rfl rfl rfl (fun z0=>?_) fun z0=>?_)
    ·
     replace a0:=ip a0 z0
     refine Bq rfl rfl rfl (Ar rfl rfl (Az rfl rfl (AJ rfl rfl (Az rfl rfl (AG (hc:=Blk.cell (i:=1) (p0.1) rfl) rfl rfl ?_)))))
     refine Az rfl rfl (CB 9 (by decide) e1 (xs:=(([0]:List Int):List Int)) rfl rfl rfl rfl ⟨(vInt (show inI64 (0) from by decide)),trivial⟩ (by decide) (by decide) rfl fun b3 f1 h1 a1 e2=>?_)
     refine Az rfl rfl ?_
     obtain ⟨i1,f2,a0⟩:=bs a0
     replace v0:=((v0.st o0).st q0).st a1
     refine Bn (O:=h1) (A:=All f1) (R:=fun w' F v=>Vb w' F v i1) (ID (fun _ h=>h) (Vb.mono (F:=Fr 0 f1 h1) v0 Fr.lt) (e2).all f2) rfl rfl fun c3 d3 e3 j1 g2=>?_
     obtain rfl:=g2.bool
     cases i1
     case false =>
      replace a0:=iF a0
      refine Bq rfl rfl rfl (Aw rfl rfl (o_z ?_))
      obtain rfl:=sm a0
      exact ⟨(),_,⟨rfl,trivial⟩,((((((((((((((((hB.st S4).st l0).st k0).st d0).st e0).st f0).st b0).st c0).st g0).st h0).st i0).st j0).st r0).st o0).st q0).st a1).st j1⟩
     replace a0:=iT a0
     refine Bq rfl rfl rfl (Aw rfl rfl (o_z ?_))
     obtain rfl:=sm a0
     exact ⟨(),_,⟨rfl,trivial⟩,((((((((((((((((hB.st S4).st l0).st k0).st d0).st e0).st f0).st b0).st c0).st g0).st h0).st i0).st j0).st r0).st o0).st q0).st a1).st j1⟩
    replace a0:=im a0 z0
    refine Bq rfl rfl rfl (Ar rfl rfl (Au rfl rfl rfl rfl (Au rfl rfl rfl rfl (Au rfl rfl rfl rfl (Au rfl rfl rfl rfl (Br rfl rfl rfl (Aw rfl rfl (o_z ?_))))))))
    obtain rfl:=sm a0
    exact ⟨(),_,⟨rfl,trivial⟩,((((((((((((((hB.st S4).st l0).st k0).st d0).st e0).st f0).st b0).st c0).st g0).st h0).st i0).st j0).st r0).st o0).st q0⟩
   replace a0:=im a0 y0
   refine Bq rfl rfl rfl (Ar rfl rfl (Au rfl rfl rfl rfl (Au rfl rfl rfl rfl (Au rfl rfl rfl rfl (Br rfl rfl rfl (Ar rfl rfl (Au rfl rfl rfl rfl (Au rfl rfl rfl rfl (Au rfl rfl rfl rfl (Au rfl rfl rfl rfl (Br rfl rfl rfl (Aw rfl rfl (o_z ?_)))))))))))))
   obtain rfl:=sm a0
   exact ⟨(),_,⟨rfl,trivial⟩,((((((((((((((hB.st S4).st l0).st k0).st d0).st e0).st f0).st b0).st c0).st g0).st h0).st i0).st j0).st r0).st o0).st q0⟩
  replace a0:=im a0 x0
  refine Ar rfl rfl (Au rfl rfl rfl rfl (Au rfl rfl rfl rfl (Au rfl rfl rfl rfl (Br rfl rfl rfl (Ar rfl rfl (Au rfl rfl rfl rfl (Au rfl rfl rfl rfl (Au rfl rfl rfl rfl (Br rfl rfl rfl (Ar rfl rfl (Au rfl rfl rfl rfl (Au rfl rfl rfl rfl (Au rfl rfl rfl rfl (Au rfl rfl rfl rfl ?_))))))))))))))
  refine Br rfl rfl rfl (Aw rfl rfl (o_z ?_))
  obtain rfl:=sm a0
  exact ⟨(),_,⟨rfl,trivial⟩,((((((((((((((hB.st S4).st l0).st k0).st d0).st e0).st f0).st b0).st c0).st g0).st h0).st i0).st j0).st r0).st o0).st q0⟩
 replace hB:=((((((((((((((hB.st S4).st l0).st k0).st d0).st e0).st f0).st b0).st c0).st g0).st h0).st i0).st j0).st r0).st o0).st q0
 rintro f3 g3 ⟨d2,h3,b1,hB⟩
 refine AQ _ b1 ?_
 refine AH ?_
 obtain rfl:=sm hm
 exact ret1v rfl (AE rfl) ⟨hB.ext,vBool⟩
noncomputable def Er (x0:Tsk) (x1:List Swp):Option Bool :=
  if 12 < (x1.length:Int) then (some false) else (bnd (rng (ρ:=Bool) (fun (k36:Nat) (a37:Swp) (s34:Unit)=>bnd (DB x0 a37) fun q73=>if q73=true then some (.next ()) else some (.ret false)) x1 0 ()) fun res32=>fin res32 fun (s84:Unit)=>some true)
theorem KG {w:World} {A:Nat→Prop} (hA:∀ k,A k→k < w.heap.size) {vx0:Value} {x0:Tsk} (e1:Vb w A vx0 x0) {vx1:Value} {x1:List Swp} (b0:Vb w A vx1 x1) {r:Bool} (hm:Er x0 x1=some r) :
    Fn Tryz.prog 10 [vx0,vx1] w fun v w'=>Ext w w'∧Vb w' (upA A w w') v r:=by
 obtain ⟨O,hB,o1⟩:=enter hA
 replace e1:=e1.mono o1
 obtain ⟨j2,rfl,v4,v5,v6,v7,rfl,h8,e0,f0,g0⟩:=e1
 obtain ⟨A9,p0,rfl⟩:=h8.form
 obtain ⟨q0,r0,rfl⟩:=e0.form
 obtain ⟨s0,t0,rfl⟩:=f0.form
 obtain ⟨u0,v0,rfl⟩:=g0.form
 replace b0:=b0.mono o1
 obtain ⟨p1,q1,rfl⟩:=b0.form
 refine AK Tryz.func10 rfl Tryz.ntmps10 rfl ?_
 unfold Er at hm
 refine Al (Aj (Cb 2 O rfl rfl fun f1 a2 r1 i0 h0=>?_))
 replace h0:Lc 2 a2 r1 f1 26 [(.slice A9 x0.vars.length p0),(.slice q0 x0.init.length r0),(.slice s0 x0.goal.length t0),(.slice u0 x0.ops.length v0)]:=h0
 refine Aw rfl rfl (o_z ?_)
 refine Al (Al (Aj (Ar rfl rfl (AY rfl rfl ?_))))
 replace b0:=b0.st i0
 have b2:x1.length≤9223372036854775807:=Nat.le_trans b0.len.2.1 b0.len.2.2
 have k2:inI64 (x1.length:Int):=rngNat b2
 refine CX rfl rfl rfl (fun g1=>?_) fun g1=>?_
 ·
  replace hm:=ip hm g1
  refine o_z ?_
  refine Ah rfl (Al (Aj (Aw rfl rfl (o_z ?_))))
  refine AH ?_
  obtain rfl:=sm hm
  replace hB:=hB.st i0
  exact ret1v rfl (AE rfl) ⟨hB.ext,vBool⟩
 replace hm:=im hm g1
 refine o_z ?_
 refine Ae rfl (AO (Al (Al (Aj (Ar rfl rfl (AY rfl rfl ?_))))))
 have h1:x1.length≤9223372036854775807:=Nat.le_trans b0.len.2.1 b0.len.2.2
 have l2:inI64 (x1.length:Int):=rngNat h1
 refine Ar rfl rfl (o_z ?_)
 obtain ⟨m0,i1,hm⟩:=bs hm
 refine AL (aft m0 (fun (w0:Unit) (y0:Unit)=>[]) (fun w0 y0 w'=>∃ O':Lab,Bs w A w' O')) ?_ ?_
 ·
  refine Bb ?_
  replace hB:=hB.st i0
  replace h8:=h8.st i0
  replace e0:=e0.st i0
  replace f0:=f0.st i0
  replace g0:=g0.st i0
  refine BL (σ:=Unit) (X:=Unit) (x1.length) i1 rfl h1 (fun (w0:Unit) (y0:Unit)=>[(2,(.pointer (some ⟨f1,0,none⟩))),(10,(.slice p1 x1.length q1))]) _ (fun w0 y0 w'=>∃ O':Lab,Bs w A w' O'∧Lc 2 w' O' f1 26 [(.slice A9 x0.vars.length p0),(.slice q0 x0.init.length r0),(.slice s0 x0.goal.length t0),(.slice u0 x0.ops.length v0)]∧Vb w' (Fr 0 w' O') (.slice A9 x0.vars.length p0) x0.vars∧Vb w' (Fr 0 w' O') (.slice q0 x0.init.length r0) x0.init∧Vb w' (Fr 0 w' O') (.slice s0 x0.goal.length t0) x0.goal∧Vb w' (Fr 0 w' O') (.slice u0 x0.ops.length v0) x0.ops∧Vb w' (Fr 0 w' O') (.slice p1 x1.length q1) x1) _ () ⟨r1,hB,h0,h8,e0,f0,g0,b0⟩ ⟨rfl,rfl,rfl,rfl,trivial⟩ (fun _ _=>⟨rfl,rfl⟩) (fun _ _=>trivial) (fun _ _ _ ⟨O',hB,h0,h8,e0,f0,g0,b0⟩=>⟨O',hB⟩) ⟨rfl,rfl,rfl⟩ ⟨rfl,rfl⟩ ?_
  rintro c2 k0 w0 y0 m2 d2 n0 ⟨e2,hB,h0,h8,e0,f0,g0,b0⟩ a0 l0 j1
  have rk36:inI64 (c2:Int):=rngK n0 h1
  refine Al (Aj ?_)
  obtain ⟨n2,o2,f2,k1,l1,m1,p2,q2,r2,rfl,z0,a1,b1⟩:=b0.elem' n0
  obtain ⟨s1,t1,rfl⟩:=z0.form
  obtain ⟨u1,v1,rfl⟩:=a1.form
  obtain ⟨w1,y1,rfl⟩:=b1.form
  refine BJ (hA:=k1) (hj:=rfl) (hlt:=l1) rfl rfl rfl ?_
  refine Bi (hl:=rfl) (hc:=m1) rfl rfl ?_
  refine Bf 3 e2 rfl fun g2 s2 c1 c0 o0=>?_
  refine AT o0 rfl rfl rfl (Bg rfl) (allOne rfl) fun d1 d0 o0=>?_
  replace o0:Lc 3 d1 c1 g2 53 [(.slice s1 k0.vars.length t1),(.slice u1 k0.vals.length v1),(.slice w1 k0.ops.length y1)]:=o0
  refine o_z ?_
  refine Al (Aj ?_)
  replace h0:=(h0.st c0).st d0
  refine Bi (hl:=rfl) (hc:=(h0.1).cellsAt) rfl rfl ?_
  refine Bi (hl:=rfl) (hc:=(o0.1).cellsAt) rfl rfl ?_
  obtain ⟨z1,h2,a0⟩:=bs a0
  replace h8:=(h8.st c0).st d0
  replace e0:=(e0.st c0).st d0
  replace f0:=(f0.st c0).st d0
  replace g0:=(g0.st c0).st d0
  replace z0:=(z0.st c0).st d0
  replace a1:=(a1.st c0).st d0
  replace b1:=(b1.st c0).st d0
  refine Bn (O:=c1) (A:=All d1) (R:=fun w' F v=>Vb w' F v z1) (KE (fun _ h=>h) (Vb.mono (F:=Fr 0 d1 c1) (Vb.ofAgg (cs:=[(.slice A9 x0.vars.length p0),(.slice q0 x0.init.length r0),(.slice s0 x0.goal.length t0),(.slice u0 x0.ops.length v0)]) (x:=x0) rfl ⟨_,_,_,_,rfl,h8,e0,f0,g0⟩) Fr.lt) (Vb.mono (F:=Fr 0 d1 c1) (Vb.ofAgg (cs:=[(.slice s1 k0.vars.length t1),(.slice u1 k0.vals.length v1),(.slice w1 k0.ops.length y1)]) (x:=k0) rfl ⟨_,_,_,rfl,z0,a1,b1⟩) Fr.lt) h2) rfl rfl fun t2 u2 v2 j0 i2=>?_
  obtain rfl:=i2.bool
  cases z1
  case false =>
   replace a0:=iF a0
   refine Cr rfl rfl (o_z ?_)
   refine Ah rfl (Al (Aj (Aw rfl rfl (o_z ?_))))
   refine AH ?_
   obtain rfl:=sm a0
   obtain rfl:=l0 _ rfl
   obtain rfl:=sm (BV hm)
   replace hB:=((hB.st c0).st d0).st j0
   exact ret1v rfl (AE rfl) ⟨hB.ext,vBool⟩
  replace a0:=iT a0
  refine Cq rfl rfl (o_z ?_)
  refine Ae rfl (AO ?_)
  obtain rfl:=sm a0
  exact show Exists _ from ⟨_,(),rfl,⟨rfl,rfl,rfl,rfl,trivial⟩,_,((hB.st c0).st d0).st j0,h0.st j0,h8.st j0,e0.st j0,f0.st j0,g0.st j0,((b0.st c0).st d0).st j0⟩
 replace hB:=hB.st i0
 rintro w2 x2 ⟨y2,z2,rfl,n1,a3,hB⟩
 replace hm:=Bl hm
 refine AQ _ n1 ?_
 refine Al (Aj (Aw rfl rfl (o_z ?_)))
 refine AH ?_
 obtain rfl:=sm hm
 exact ret1v rfl (AE rfl) ⟨hB.ext,vBool⟩
noncomputable def DT (x0:Tsk) (x1:List Swp) (x2:ByteArray):Option Bool :=
  bnd (bnd (Gp x0) fun q32=>if q32=true then bnd (Er x0 x1) fun q39=>if q39=true then if 100 < (x2.size:Int) then (some true) else (bnd (DF) fun q48=>if q48=true then some false else some true) else some true else some true:Option Bool) fun y28=>if y28=true then (bnd (bnd (DF) fun q64=>if q64=true then some true else some false:Option Bool) fun y60=>some y60) else (bnd (BI x0 x1 1000) fun q75=>bnd (BI x0 ([]:List Swp) 1000) fun q102=>bnd (appI 72 ([]:List Opr) x0.ops) fun u142=>bnd (rngN (ρ:=Bool) (fun (k161:Nat) (s159:(List Opr))=>bnd (s159[k161]?) fun a180=>some (.next (s159.set k161 ({ a180 with name:=x2 }:Opr)))) u142.length u142) fun res157=>fin res157 fun (s215:(List Opr))=>bnd (BI (⟨x0.vars,x0.init,x0.goal,s215⟩:Tsk) x1 1000) fun q219=>bnd (if q75.2.n≠0 then (some true) else (if q102.2.n≠0 then (some true) else (if q75.1.verdict≠q102.1.verdict then (some true) else (if q75.1.cost≠q102.1.cost then (some true) else (some false)))):Option Bool) fun y246=>if y246=true then (some false) else (bnd (Ew (⟨x0.vars,x0.init,x0.goal,s215⟩:Tsk)) fun q259=>if q259=true then bnd (if q219.2.n=0 then (if q219.1.verdict=q75.1.verdict then (if q219.1.cost=q75.1.cost then (bnd (Eu q219.1.plan q75.1.plan) fun q282=>if q282=true then if q219.1.expanded=q75.1.expanded then (some true) else (some false) else some false) else (some false)) else (some false)) else (some false):Option Bool) fun y275=>some y275 else bnd (if q219.2.n≠0 then (some true) else (some false):Option Bool) fun y266=>some y266))
theorem Iy {w:World} {A:Nat→Prop} (hA:∀ k,A k→k < w.heap.size) {vx0:Value} {x0:Tsk} (e4:Vb w A vx0 x0) {vx1:Value} {x1:List Swp} (z0:Vb w A vx1 x1) {x2:ByteArray} (zx2:x2.size≤9223372036854775807) {r:Bool} (hm:DT x0 x1 x2=some r) :
    Fn Tryz.prog 7 [vx0,vx1,(.string x2)] w fun v w'=>Ext w w'∧Vb w' (upA A w w') v r:=by
 obtain ⟨O,hB,z5⟩:=enter hA
 replace e4:=e4.mono z5
 obtain ⟨q9,rfl,v5,v6,v7,v8,rfl,h9,j0,k0,h1⟩:=e4
 obtain ⟨o1,p1,rfl⟩:=h9.form
 obtain ⟨q1,r1,rfl⟩:=j0.form
 obtain ⟨s1,t1,rfl⟩:=k0.form
 obtain ⟨k2,l2,rfl⟩:=h1.form
 replace z0:=z0.mono z5
 obtain ⟨k3,l3,rfl⟩:=z0.form
 refine AK Tryz.func7 rfl Tryz.ntmps7 rfl ?_
 unfold DT at hm
 refine Al (Aj (Cb 2 O rfl rfl fun f4 g4 h4 u1 i1=>?_))
 replace i1:Lc 2 g4 h4 f4 26 [(.slice o1 x0.vars.length p1),(.slice q1 x0.init.length r1),(.slice s1 x0.goal.length t1),(.slice k2 x0.ops.length l2)]:=i1
 refine Aw rfl rfl (o_z ?_)
 refine Al (Al ?_)
 obtain ⟨m6,g0,hm⟩:=bs hm
 refine AL (fun l' w'=>∃ (n6:Unit) (O':Lab),subs l' [(1,(.slice k3 x1.length l3)),(2,(.string x2)),(3,(.pointer (some ⟨f4,0,none⟩))),(32,(.bool m6))]∧Bs w A w' O'∧Vb w' (Fr 0 w' O') (.slice k3 x1.length l3) x1∧Lc 2 w' O' f4 26 [(.slice o1 x0.vars.length p1),(.slice q1 x0.init.length r1),(.slice s1 x0.goal.length t1),(.slice k2 x0.ops.length l2)]∧Vb w' (Fr 0 w' O') (.slice o1 x0.vars.length p1) x0.vars∧Vb w' (Fr 0 w' O') (.slice q1 x0.init.length r1) x0.init∧Vb w' (Fr 0 w' O') (.slice s1 x0.goal.length t1) x0.goal∧Vb w' (Fr 0 w' O') (.slice k2 x0.ops.length l2) x0.ops) ?_ ?_
 ·
  refine Aj (Bi (hl:=rfl) (hc:=(i1.1).cellsAt) rfl rfl ?_)
  obtain ⟨a6,o6,g0⟩:=bs g0
  replace h9:=h9.st u1
  replace j0:=j0.st u1
  replace k0:=k0.st u1
  replace h1:=h1.st u1
  refine Bn (O:=h4) (A:=All g4) (R:=fun w' F v=>Vb w' F v a6) (Le (fun _ h=>h) (Vb.mono (F:=Fr 0 g4 h4) (Vb.ofAgg (cs:=[(.slice o1 x0.vars.length p1),(.slice q1 x0.init.length r1),(.slice s1 x0.goal.length t1),(.slice k2 x0.ops.length l2)]) (x:=x0) rfl ⟨_,_,_,_,rfl,h9,j0,k0,h1⟩) Fr.lt) o6) rfl rfl fun r9 i4 j4 v1 p6=>?_
  obtain rfl:=p6.bool
  cases a6
  case false =>
   replace g0:=iF g0
   refine Cr rfl rfl (Ar rfl rfl (Au rfl rfl rfl rfl (Au rfl rfl rfl rfl (Au rfl rfl rfl rfl (Au rfl rfl rfl rfl (Bq rfl rfl rfl (Ar rfl rfl (Au rfl rfl rfl rfl (Au rfl rfl rfl rfl (Au rfl rfl rfl rfl (Bq rfl rfl rfl (Ar rfl rfl (Au rfl rfl rfl rfl (Au rfl rfl rfl rfl ?_))))))))))))))
   refine Bq rfl rfl rfl (o_z ?_)
   obtain rfl:=sm g0
   exact ⟨(),_,⟨rfl,rfl,rfl,rfl,trivial⟩,(hB.st u1).st v1,(z0.st u1).st v1,i1.st v1,h9.st v1,j0.st v1,k0.st v1,h1.st v1⟩
  replace g0:=iT g0
  refine Cq rfl rfl (Ar rfl rfl (Az rfl rfl ?_))
  replace i1:=i1.st v1
  refine Bi (hl:=rfl) (hc:=(i1.1).cellsAt) rfl rfl ?_
  refine Az rfl rfl (Ar rfl rfl (Az rfl rfl ?_))
  obtain ⟨b6,q6,g0⟩:=bs g0
  replace z0:=(z0.st u1).st v1
  replace h9:=h9.st v1
  replace j0:=j0.st v1
  replace k0:=k0.st v1
  replace h1:=h1.st v1
  refine Bn (O:=j4) (A:=All i4) (R:=fun w' F v=>Vb w' F v b6) (KG (fun _ h=>h) (Vb.mono (F:=Fr 0 i4 j4) (Vb.ofAgg (cs:=[(.slice o1 x0.vars.length p1),(.slice q1 x0.init.length r1),(.slice s1 x0.goal.length t1),(.slice k2 x0.ops.length l2)]) (x:=x0) rfl ⟨_,_,_,_,rfl,h9,j0,k0,h1⟩) Fr.lt) (Vb.mono (F:=Fr 0 i4 j4) z0 Fr.lt) q6) rfl rfl fun s9 r6 s6 a1 t6=>?_
  obtain rfl:=t6.bool
  cases b6
  case false =>
   replace g0:=iF g0
   refine Az rfl rfl (Cr rfl rfl (Br rfl rfl rfl (Ar rfl rfl (Au rfl rfl rfl rfl (Au rfl rfl rfl rfl (Au rfl rfl rfl rfl (Bq rfl rfl rfl (Ar rfl rfl (Au rfl rfl rfl rfl (Au rfl rfl rfl rfl (Bq rfl rfl rfl (o_z ?_))))))))))))
   obtain rfl:=sm g0
   exact ⟨(),_,⟨rfl,rfl,rfl,rfl,trivial⟩,((hB.st u1).st v1).st a1,z0.st a1,i1.st a1,h9.st a1,j0.st a1,k0.st a1,h1.st a1⟩
  replace g0:=iT g0
  refine Az rfl rfl (Cq rfl rfl (Br rfl rfl rfl (Ar rfl rfl (Az rfl rfl (Ar rfl rfl (Az rfl rfl (JO rfl rfl ?_)))))))
  have t9:inI64 (x2.size:Int):=rngNat zx2
  refine Az rfl rfl (CX rfl rfl rfl (fun k4=>?_) fun k4=>?_)
  ·
   replace g0:=ip g0 k4
   refine Br rfl rfl rfl (Ar rfl rfl (Au rfl rfl rfl rfl (Au rfl rfl rfl rfl (Bq rfl rfl rfl (o_z ?_)))))
   obtain rfl:=sm g0
   exact ⟨(),_,⟨rfl,rfl,rfl,rfl,trivial⟩,((hB.st u1).st v1).st a1,z0.st a1,i1.st a1,h9.st a1,j0.st a1,k0.st a1,h1.st a1⟩
  replace g0:=im g0 k4
  refine Br rfl rfl rfl (Ar rfl rfl (Az rfl rfl ?_))
  obtain ⟨c6,u6,g0⟩:=bs g0
  refine Bn (O:=s6) (A:=All r6) (R:=fun w' F v=>Vb w' F v c6) (HA (fun _ h=>h)  u6) rfl rfl fun u9 v9 w9 z1 w6=>?_
  obtain rfl:=w6.bool
  cases c6
  case false =>
   replace g0:=iF g0
   refine Az rfl rfl (Cr rfl rfl (Br rfl rfl rfl (o_z ?_)))
   obtain rfl:=sm g0
   exact ⟨(),_,⟨rfl,rfl,rfl,rfl,trivial⟩,(((hB.st u1).st v1).st a1).st z1,(z0.st a1).st z1,(i1.st a1).st z1,(h9.st a1).st z1,(j0.st a1).st z1,(k0.st a1).st z1,(h1.st a1).st z1⟩
  replace g0:=iT g0
  refine Az rfl rfl (Cq rfl rfl (Br rfl rfl rfl (o_z ?_)))
  obtain rfl:=sm g0
  exact ⟨(),_,⟨rfl,rfl,rfl,rfl,trivial⟩,(((hB.st u1).st v1).st a1).st z1,(z0.st a1).st z1,(i1.st a1).st z1,(h9.st a1).st z1,(j0.st a1).st z1,(k0.st a1).st z1,(h1.st a1).st z1⟩
 replace hB:=hB.st u1
 replace z0:=z0.st u1
 replace h9:=h9.st u1
 replace j0:=j0.st u1
 replace k0:=k0.st u1
 replace h1:=h1.st u1
 rintro x9 x6 ⟨n6,d6,l4,hB,z0,i1,h9,j0,k0,h1⟩
 refine AQ _ l4 ?_
 refine BW rfl (fun m4=>?_) (fun m4=>?_)
 ·
  replace hm:=ip hm m4
  refine Al ?_
  obtain ⟨y6,w1,hm⟩:=bs hm
  refine AL (fun l' w'=>∃ (z6:Unit) (O':Lab),subs l' [(6,(.bool y6))]∧Bs w A w' O') ?_ ?_
  ·
   refine Aj ?_
   obtain ⟨e6,a7,w1⟩:=bs w1
   refine Bn (O:=d6) (A:=All x6) (R:=fun w' F v=>Vb w' F v e6) (HA (fun _ h=>h)  a7) rfl rfl fun y9 z9 aA f6 b7=>?_
   obtain rfl:=b7.bool
   cases e6
   case false =>
    replace w1:=iF w1
    refine Aw rfl rfl (o_z ?_)
    obtain rfl:=sm w1
    exact ⟨(),_,⟨rfl,trivial⟩,hB.st f6⟩
   replace w1:=iT w1
   refine Aw rfl rfl (o_z ?_)
   obtain rfl:=sm w1
   exact ⟨(),_,⟨rfl,trivial⟩,hB.st f6⟩
  rintro bA cA ⟨z6,dA,n4,hB⟩
  refine AQ _ n4 ?_
  refine AH ?_
  obtain rfl:=sm hm
  exact ret1v rfl (AE rfl) ⟨hB.ext,vBool⟩
 replace hm:=im' hm m4
 refine AO (Al (Aj (Bi (hl:=rfl) (hc:=(i1.1).cellsAt) rfl rfl ?_)))
 refine Ar rfl rfl ?_
 obtain ⟨b1,c7,hm⟩:=bs hm
 refine Bw (O:=d6) (R:=fun w' F v=>T2 w' F v b1) (EN Fr.lt (Vb.ofAgg (cs:=[(.slice o1 x0.vars.length p1),(.slice q1 x0.init.length r1),(.slice s1 x0.goal.length t1),(.slice k2 x0.ops.length l2)]) (x:=x0) rfl ⟨_,_,_,_,rfl,h9,j0,k0,h1⟩) z0 (show inI64 (1000) from by decide) c7) rfl rfl fun eA fA d7 i2 e7=>?_
 obtain ⟨gA,iA,rfl,f7,g7⟩:=e7
 obtain ⟨h7,rfl,jA,rfl,j1,kA,lA,mA⟩:=f7
 obtain ⟨n2,o2,rfl⟩:=j1.form
 obtain ⟨rfl,nA⟩:=g7.err
 refine Ar rfl rfl (CE rfl rfl rfl (CE rfl rfl rfl (Bf 3 d7 rfl fun p2 oA g6 c2 v0=>?_)))
 refine AT v0 rfl rfl rfl (Bg rfl) (allOne rfl) fun o4 f1 v0=>?_
 replace v0:Lc 3 o4 g6 p2 32 [(.int .i64 b1.1.verdict),(.slice n2 b1.1.plan.length o2),(.int .i64 b1.1.cost),(.int .i64 b1.1.expanded)]:=v0
 refine Aw rfl rfl (o_z ?_)
 refine Al (Aj ?_)
 replace i1:=((i1.st i2).st c2).st f1
 refine Bi (hl:=rfl) (hc:=(i1.1).cellsAt) rfl rfl ?_
 obtain ⟨n0,p4,hm⟩:=bs hm
 replace h9:=((h9.st i2).st c2).st f1
 replace j0:=((j0.st i2).st c2).st f1
 replace k0:=((k0.st i2).st c2).st f1
 replace h1:=((h1.st i2).st c2).st f1
 refine Bw (O:=g6) (R:=fun w' F v=>T2 w' F v n0) (EN Fr.lt (Vb.ofAgg (cs:=[(.slice o1 x0.vars.length p1),(.slice q1 x0.init.length r1),(.slice s1 x0.goal.length t1),(.slice k2 x0.ops.length l2)]) (x:=x0) rfl ⟨_,_,_,_,rfl,h9,j0,k0,h1⟩) (Vb.nil _ _) (show inI64 (1000) from by decide) p4) rfl rfl fun i7 j7 q4 w0 r4=>?_
 obtain ⟨k7,l7,rfl,s4,t4⟩:=r4
 obtain ⟨h6,rfl,m7,rfl,g1,n7,o7,p7⟩:=s4
 obtain ⟨d2,e2,rfl⟩:=g1.form
 obtain ⟨rfl,q7⟩:=t4.err
 refine Ar rfl rfl (CE rfl rfl rfl (CE rfl rfl rfl (Bf 4 q4 rfl fun f2 r7 m3 r0 s0=>?_)))
 refine AT s0 rfl rfl rfl (Bg rfl) (allOne rfl) fun u4 t0 s0=>?_
 replace s0:Lc 4 u4 m3 f2 32 [(.int .i64 n0.1.verdict),(.slice d2 n0.1.plan.length e2),(.int .i64 n0.1.cost),(.int .i64 n0.1.expanded)]:=s0
 refine Aw rfl rfl (o_z ?_)
 refine Al (Aj ?_)
 replace i1:=((i1.st w0).st r0).st t0
 refine Bi (hl:=rfl) (hc:=(i1.1).cellsAt) rfl rfl ?_
 refine Bf 5 m3 rfl fun y1 s7 n3 l0 f0=>?_
 refine AT f0 rfl rfl rfl (Bg rfl) (allOne rfl) fun v4 m0 f0=>?_
 replace f0:Lc 5 v4 n3 y1 26 [(.slice o1 x0.vars.length p1),(.slice q1 x0.init.length r1),(.slice s1 x0.goal.length t1),(.slice k2 x0.ops.length l2)]:=f0
 refine o_z ?_
 refine Al (Aj (CB 6 (by decide) n3 (xs:=(([]:List Opr):List Opr)) rfl rfl rfl rfl trivial (by decide) (by decide) rfl fun t7 u7 w7 i0 w4=>?_))
 refine AJ rfl rfl ?_
 replace i1:=((i1.st l0).st m0).st i0
 refine AG (hc:=Blk.cell (i:=3) (i1.1) rfl) rfl rfl ?_
 obtain ⟨c1,q2,hm⟩:=bs hm
 obtain ⟨q2,x4,y4⟩:=CC q2
 replace h1:=(((((h1.st w0).st r0).st t0).st l0).st m0).st i0
 refine Eh rfl w4 (h1.rd) rfl rfl (by decide) x4 y4 rfl fun m1 n1 x7 o3 o0 a2=>?_
 rw [← q2] at a2 ⊢
 refine AJ rfl rfl ?_
 replace f0:=(f0.st i0).st o0
 refine AT f0 rfl rfl rfl (Bg rfl) (allOne rfl) fun z4 p0 f0=>?_
 replace f0:Lc 5 z4 o3 y1 26 [(.slice o1 x0.vars.length p1),(.slice q1 x0.init.length r1),(.slice s1 x0.goal.length t1),(.slice m1 c1.length n1)]:=f0
 refine o_z ?_
 refine Al (Al (Aj (AJ rfl rfl (AG (hc:=Blk.cell (i:=3) (f0.1) rfl) rfl rfl ?_))))
 refine AY rfl rfl ?_
 replace a2:=a2.st p0
 have r2:c1.length≤9223372036854775807:=Nat.le_trans a2.len.2.1 a2.len.2.2
 have y7:inI64 (c1.length:Int):=rngNat r2
 refine Ar rfl rfl (o_z ?_)
 obtain ⟨s2,p3,hm⟩:=bs hm
 refine AL (aft s2 (fun (b2:(List Opr)) (j2:Unit)=>[(1,(.slice k3 x1.length l3)),(7,(.pointer (some ⟨p2,0,none⟩))),(8,(errV b1.2.n)),(9,(.pointer (some ⟨f2,0,none⟩))),(10,(errV n0.2.n)),(11,(.pointer (some ⟨y1,0,none⟩)))]) (fun b2 j2 w'=>∃ O':Lab,Bs w A w' O'∧Vb w' (Fr 0 w' O') (.slice k3 x1.length l3) x1∧Lc 3 w' O' p2 32 [(.int .i64 b1.1.verdict),(.slice n2 b1.1.plan.length o2),(.int .i64 b1.1.cost),(.int .i64 b1.1.expanded)]∧Vb w' (Fr 0 w' O') (.slice n2 b1.1.plan.length o2) b1.1.plan∧Lc 4 w' O' f2 32 [(.int .i64 n0.1.verdict),(.slice d2 n0.1.plan.length e2),(.int .i64 n0.1.cost),(.int .i64 n0.1.expanded)]∧Vb w' (Fr 0 w' O') (.slice d2 n0.1.plan.length e2) n0.1.plan∧Lc 5 w' O' y1 26 [(.slice o1 x0.vars.length p1),(.slice q1 x0.init.length r1),(.slice s1 x0.goal.length t1),(.slice m1 c1.length n1)]∧Vb w' (Fr 0 w' O') (.slice o1 x0.vars.length p1) x0.vars∧Vb w' (Fr 0 w' O') (.slice q1 x0.init.length r1) x0.init∧Vb w' (Fr 0 w' O') (.slice s1 x0.goal.length t1) x0.goal∧Rw 6 w' O' 50 (.slice m1 c1.length n1) b2)) ?_ ?_
 ·
  refine Bb ?_
  replace hB:=((((((((((hB.st i2).st c2).st f1).st w0).st r0).st t0).st l0).st m0).st i0).st o0).st p0
  replace z0:=((((((((((z0.st i2).st c2).st f1).st w0).st r0).st t0).st l0).st m0).st i0).st o0).st p0
  replace h9:=(((((((h9.st w0).st r0).st t0).st l0).st m0).st i0).st o0).st p0
  replace j0:=(((((((j0.st w0).st r0).st t0).st l0).st m0).st i0).st o0).st p0
  replace k0:=(((((((k0.st w0).st r0).st t0).st l0).st m0).st i0).st o0).st p0
  replace j1:=(((((((((j1.st c2).st f1).st w0).st r0).st t0).st l0).st m0).st i0).st o0).st p0
  replace v0:=(((((((v0.st w0).st r0).st t0).st l0).st m0).st i0).st o0).st p0
  replace g1:=((((((g1.st r0).st t0).st l0).st m0).st i0).st o0).st p0
  replace s0:=((((s0.st l0).st m0).st i0).st o0).st p0
  refine IP (σ:=(List Opr)) (X:=Unit) (c1.length) p3 r2 (fun (b2:(List Opr)) (j2:Unit)=>[(1,(.slice k3 x1.length l3)),(2,(.string x2)),(7,(.pointer (some ⟨p2,0,none⟩))),(8,(errV b1.2.n)),(9,(.pointer (some ⟨f2,0,none⟩))),(10,(errV n0.2.n)),(11,(.pointer (some ⟨y1,0,none⟩)))]) _ (fun b2 j2 w'=>∃ O':Lab,Bs w A w' O'∧Vb w' (Fr 0 w' O') (.slice k3 x1.length l3) x1∧Lc 3 w' O' p2 32 [(.int .i64 b1.1.verdict),(.slice n2 b1.1.plan.length o2),(.int .i64 b1.1.cost),(.int .i64 b1.1.expanded)]∧Vb w' (Fr 0 w' O') (.slice n2 b1.1.plan.length o2) b1.1.plan∧Lc 4 w' O' f2 32 [(.int .i64 n0.1.verdict),(.slice d2 n0.1.plan.length e2),(.int .i64 n0.1.cost),(.int .i64 n0.1.expanded)]∧Vb w' (Fr 0 w' O') (.slice d2 n0.1.plan.length e2) n0.1.plan∧Lc 5 w' O' y1 26 [(.slice o1 x0.vars.length p1),(.slice q1 x0.init.length r1),(.slice s1 x0.goal.length t1),(.slice m1 c1.length n1)]∧Vb w' (Fr 0 w' O') (.slice o1 x0.vars.length p1) x0.vars∧Vb w' (Fr 0 w' O') (.slice q1 x0.init.length r1) x0.init∧Vb w' (Fr 0 w' O') (.slice s1 x0.goal.length t1) x0.goal∧Rw 6 w' O' 50 (.slice m1 c1.length n1) b2) _ () ⟨o3,hB,z0,v0,j1,s0,g1,f0,h9,j0,k0,a2⟩ ⟨rfl,rfl,rfl,rfl,rfl,rfl,rfl,rfl,rfl,trivial⟩ (fun _ _=>⟨rfl,rfl⟩) (fun _ _=>⟨rfl,rfl,rfl,rfl,rfl,rfl,trivial⟩) (fun _ _ _ ⟨O',hB,z0,v0,j1,s0,g1,f0,h9,j0,k0,q0⟩=>⟨O',hB,z0,v0,j1,s0,g1,f0,h9,j0,k0,q0⟩) ⟨rfl,rfl,rfl⟩ ⟨rfl,rfl⟩ ?_
  rintro a5 b2 j2 z7 i6 q3 ⟨a8,hB,z0,v0,j1,s0,g1,f0,h9,j0,k0,q0⟩ g2 c4 d4
  have rk161:inI64 (a5:Int):=rngKN q3 r2
  refine Al (Aj (Ar rfl rfl (Aw rfl rfl (o_z ?_))))
  refine Aj (AJ rfl rfl (AG (hc:=Blk.cell (i:=3) (f0.1) rfl) rfl rfl ?_))
  refine Ar rfl rfl (Ar rfl rfl ?_)
  obtain ⟨r3,s3,g2⟩:=bs g2
  obtain ⟨b8,c8,j6,m2,t3,k6,d8,e8,rfl,b5,c5,f8,g8⟩:=q0.elem s3
  obtain ⟨h8,i8,rfl⟩:=b5.form
  obtain ⟨j8,k8,rfl⟩:=c5.form
  refine BJ (hA:=m2) (hj:=rfl) (hlt:=t3) rfl rfl rfl ?_
  refine AJ rfl rfl (Kd (a:=r3) (a':=({ r3 with name:=x2 }:Opr)) (off:=0) q0 m2 s3 rfl rfl rfl (Nat.le_of_ble_eq_true rfl) (by first|exact allOne rfl|simp [Value.cells,Value.oneCell',IQ]) (by rintro ce ⟨l8,m8,rfl,d5,e5,f5,n8⟩;exact ⟨_,_,rfl,d5,e5,f5,zx2⟩) fun o8 k1 q0=>?_)
  refine o_z ?_
  obtain rfl:=sm g2
  exact show Exists _ from ⟨_,(),rfl,⟨rfl,rfl,rfl,rfl,rfl,rfl,rfl,rfl,rfl,trivial⟩,_,hB.st k1,z0.st k1,v0.st k1,j1.st k1,s0.st k1,g1.st k1,f0.st k1,h9.st k1,j0.st k1,k0.st k1,q0⟩
 replace hB:=((((((((((hB.st i2).st c2).st f1).st w0).st r0).st t0).st l0).st m0).st i0).st o0).st p0
 replace z0:=((((((((((z0.st i2).st c2).st f1).st w0).st r0).st t0).st l0).st m0).st i0).st o0).st p0
 replace h9:=(((((((h9.st w0).st r0).st t0).st l0).st m0).st i0).st o0).st p0
 replace j0:=(((((((j0.st w0).st r0).st t0).st l0).st m0).st i0).st o0).st p0
 replace k0:=(((((((k0.st w0).st r0).st t0).st l0).st m0).st i0).st o0).st p0
 replace j1:=(((((((((j1.st c2).st f1).st w0).st r0).st t0).st l0).st m0).st i0).st o0).st p0
 replace v0:=(((((((v0.st w0).st r0).st t0).st l0).st m0).st i0).st o0).st p0
 replace g1:=((((((g1.st r0).st t0).st l0).st m0).st i0).st o0).st p0
 replace s0:=((((s0.st l0).st m0).st i0).st o0).st p0
 rintro p8 q8 ⟨t2,r8,rfl,u3,s8,hB,z0,v0,j1,s0,g1,f0,h9,j0,k0,q0⟩
 replace hm:=Bl hm
 refine AQ _ u3 ?_
 refine Al (Aj (Bi (hl:=rfl) (hc:=(f0.1).cellsAt) rfl rfl ?_))
 refine Ar rfl rfl ?_
 obtain ⟨g5,h0,q0⟩:=q0.freeze
 obtain ⟨d1,h5,hm⟩:=bs hm
 replace z0:=z0.st h0
 replace h9:=h9.st h0
 replace j0:=j0.st h0
 replace k0:=k0.st h0
 refine Bw (O:=g5) (R:=fun w' F v=>T2 w' F v d1) (EN Fr.lt (Vb.ofAgg (cs:=[(.slice o1 x0.vars.length p1),(.slice q1 x0.init.length r1),(.slice s1 x0.goal.length t1),(.slice m1 c1.length n1)]) (x:=(⟨x0.vars,x0.init,x0.goal,t2⟩:Tsk)) rfl ⟨_,_,_,_,rfl,h9,j0,k0,q0⟩) z0 (show inI64 (1000) from by decide) h5) rfl rfl fun t8 u8 i5 c0 j5=>?_
 obtain ⟨w8,x8,rfl,k5,l5⟩:=j5
 obtain ⟨l6,rfl,y8,rfl,e1,z8,a9,b9⟩:=k5
 obtain ⟨u2,v2,rfl⟩:=e1.form
 obtain ⟨rfl,c9⟩:=l5.err
 refine Ar rfl rfl (CE rfl rfl rfl (CE rfl rfl rfl (Bf 7 i5 rfl fun w2 d9 m5 a0 u0=>?_)))
 refine AT u0 rfl rfl rfl (Bg rfl) (allOne rfl) fun n5 b0 u0=>?_
 replace u0:Lc 7 n5 m5 w2 32 [(.int .i64 d1.1.verdict),(.slice u2 d1.1.plan.length v2),(.int .i64 d1.1.cost),(.int .i64 d1.1.expanded)]:=u0
 refine Aw rfl rfl (o_z ?_)
 refine Al (Al ?_)
 obtain ⟨o5,e0,hm⟩:=bs hm
 refine AL (fun l' w'=>∃ (p5:Unit) (O':Lab),subs l' [(7,(.pointer (some ⟨p2,0,none⟩))),(11,(.pointer (some ⟨y1,0,none⟩))),(13,(.pointer (some ⟨w2,0,none⟩))),(14,(errV d1.2.n)),(89,(.bool o5))]∧Bs w A w' O'∧Lc 3 w' O' p2 32 [(.int .i64 b1.1.verdict),(.slice n2 b1.1.plan.length o2),(.int .i64 b1.1.cost),(.int .i64 b1.1.expanded)]∧Vb w' (Fr 0 w' O') (.slice n2 b1.1.plan.length o2) b1.1.plan∧Lc 5 w' O' y1 26 [(.slice o1 x0.vars.length p1),(.slice q1 x0.init.length r1),(.slice s1 x0.goal.length t1),(.slice m1 c1.length n1)]∧Vb w' (Fr 0 w' O') (.slice o1 x0.vars.length p1) x0.vars∧Vb w' (Fr 0 w' O') (.slice q1 x0.init.length r1) x0.init∧Vb w' (Fr 0 w' O') (.slice s1 x0.goal.length t1) x0.goal∧Vb w' (Fr 0 w' O') (.slice m1 c1.length n1) t2∧Lc 7 w' O' w2 32 [(.int .i64 d1.1.verdict),(.slice u2 d1.1.plan.length v2),(.int .i64 d1.1.cost),(.int .i64 d1.1.expanded)]∧Vb w' (Fr 0 w' O') (.slice u2 d1.1.plan.length v2) d1.1.plan) ?_ ?_
 ·
  refine Aj (Ar rfl rfl (DJ rfl rfl (fun y2=>?_) fun y2=>?_))
  ·
   replace e0:=ip e0 y2
   refine Ar rfl rfl (Au rfl rfl rfl rfl (Au rfl rfl rfl rfl (Bq rfl rfl rfl (Ar rfl rfl (Au rfl rfl rfl rfl (Au rfl rfl rfl rfl (Au rfl rfl rfl rfl (Au rfl rfl rfl rfl (Au rfl rfl rfl rfl (Bq rfl rfl rfl (Ar rfl rfl (Au rfl rfl rfl rfl (Au rfl rfl rfl rfl (Au rfl rfl rfl rfl ?_))))))))))))))
   refine Au rfl rfl rfl rfl (Au rfl rfl rfl rfl (Bq rfl rfl rfl (o_z ?_)))
   obtain rfl:=sm e0
   exact ⟨(),_,⟨rfl,rfl,rfl,rfl,rfl,trivial⟩,(((hB.st h0).st c0).st a0).st b0,(((v0.st h0).st c0).st a0).st b0,(((j1.st h0).st c0).st a0).st b0,(((f0.st h0).st c0).st a0).st b0,((h9.st c0).st a0).st b0,((j0.st c0).st a0).st b0,((k0.st c0).st a0).st b0,((q0.st c0).st a0).st b0,u0,(e1.st a0).st b0⟩
  replace e0:=im e0 y2
  refine Ar rfl rfl (Az rfl rfl (Ar rfl rfl (Az rfl rfl (DJ rfl rfl (fun z2=>?_) fun z2=>?_))))
  ·
   replace e0:=ip e0 z2
   refine Br rfl rfl rfl (Ar rfl rfl (Au rfl rfl rfl rfl (Au rfl rfl rfl rfl (Au rfl rfl rfl rfl (Au rfl rfl rfl rfl (Au rfl rfl rfl rfl (Bq rfl rfl rfl (Ar rfl rfl (Au rfl rfl rfl rfl (Au rfl rfl rfl rfl (Au rfl rfl rfl rfl (Au rfl rfl rfl rfl (Au rfl rfl rfl rfl (Bq rfl rfl rfl ?_))))))))))))))
   refine o_z ?_
   obtain rfl:=sm e0
   exact ⟨(),_,⟨rfl,rfl,rfl,rfl,rfl,trivial⟩,(((hB.st h0).st c0).st a0).st b0,(((v0.st h0).st c0).st a0).st b0,(((j1.st h0).st c0).st a0).st b0,(((f0.st h0).st c0).st a0).st b0,((h9.st c0).st a0).st b0,((j0.st c0).st a0).st b0,((k0.st c0).st a0).st b0,((q0.st c0).st a0).st b0,u0,(e1.st a0).st b0⟩
  replace e0:=im e0 z2
  refine Br rfl rfl rfl (Ar rfl rfl (Az rfl rfl (AJ rfl rfl (Az rfl rfl ?_))))
  replace v0:=(((v0.st h0).st c0).st a0).st b0
  refine AG (hc:=Blk.cell (i:=0) (v0.1) rfl) rfl rfl ?_
  refine Az rfl rfl (AJ rfl rfl (Az rfl rfl ?_))
  replace s0:=(((s0.st h0).st c0).st a0).st b0
  refine AG (hc:=Blk.cell (i:=0) (s0.1) rfl) rfl rfl ?_
  refine Az rfl rfl (EK rfl rfl rfl (fun a3=>?_) fun a3=>?_)
  ·
   replace e0:=ip e0 a3
   refine Br rfl rfl rfl (Ar rfl rfl (Au rfl rfl rfl rfl (Au rfl rfl rfl rfl (Au rfl rfl rfl rfl (Au rfl rfl rfl rfl (Au rfl rfl rfl rfl (Bq rfl rfl rfl (o_z ?_))))))))
   obtain rfl:=sm e0
   exact ⟨(),_,⟨rfl,rfl,rfl,rfl,rfl,trivial⟩,(((hB.st h0).st c0).st a0).st b0,v0,(((j1.st h0).st c0).st a0).st b0,(((f0.st h0).st c0).st a0).st b0,((h9.st c0).st a0).st b0,((j0.st c0).st a0).st b0,((k0.st c0).st a0).st b0,((q0.st c0).st a0).st b0,u0,(e1.st a0).st b0⟩
  replace e0:=im e0 a3
  refine Br rfl rfl rfl (Ar rfl rfl (Az rfl rfl (AJ rfl rfl (Az rfl rfl (AG (hc:=Blk.cell (i:=2) (v0.1) rfl) rfl rfl ?_)))))
  refine Az rfl rfl (AJ rfl rfl (Az rfl rfl (AG (hc:=Blk.cell (i:=2) (s0.1) rfl) rfl rfl ?_)))
  refine Az rfl rfl (EK rfl rfl rfl (fun b3=>?_) fun b3=>?_)
  ·
   replace e0:=ip e0 b3
   refine Br rfl rfl rfl (o_z ?_)
   obtain rfl:=sm e0
   exact ⟨(),_,⟨rfl,rfl,rfl,rfl,rfl,trivial⟩,(((hB.st h0).st c0).st a0).st b0,v0,(((j1.st h0).st c0).st a0).st b0,(((f0.st h0).st c0).st a0).st b0,((h9.st c0).st a0).st b0,((j0.st c0).st a0).st b0,((k0.st c0).st a0).st b0,((q0.st c0).st a0).st b0,u0,(e1.st a0).st b0⟩
  replace e0:=im e0 b3
  refine Br rfl rfl rfl (o_z ?_)
  obtain rfl:=sm e0
  exact ⟨(),_,⟨rfl,rfl,rfl,rfl,rfl,trivial⟩,(((hB.st h0).st c0).st a0).st b0,v0,(((j1.st h0).st c0).st a0).st b0,(((f0.st h0).st c0).st a0).st b0,((h9.st c0).st a0).st b0,((j0.st c0).st a0).st b0,((k0.st c0).st a0).st b0,((q0.st c0).st a0).st b0,u0,(e1.st a0).st b0⟩
 replace hB:=(((hB.st h0).st c0).st a0).st b0
 replace h9:=((h9.st c0).st a0).st b0
 replace j0:=((j0.st c0).st a0).st b0
 replace k0:=((k0.st c0).st a0).st b0
 replace j1:=(((j1.st h0).st c0).st a0).st b0
 replace v0:=(((v0.st h0).st c0).st a0).st b0
 replace f0:=(((f0.st h0).st c0).st a0).st b0
 replace q0:=((q0.st c0).st a0).st b0
 replace e1:=(e1.st a0).st b0
 rintro e9 v3 ⟨p5,w3,x3,hB,v0,j1,f0,h9,j0,k0,q0,u0,e1⟩
 refine AQ _ x3 ?_
 refine BW rfl (fun c3=>?_) (fun c3=>?_)
 ·
  replace hm:=ip hm c3
  refine Al (Aj (Aw rfl rfl (o_z ?_)))
  refine AH ?_
  obtain rfl:=sm hm
  exact ret1v rfl (AE rfl) ⟨hB.ext,vBool⟩
 replace hm:=im' hm c3
 refine AO (Al (Al (Aj (Bi (hl:=rfl) (hc:=(f0.1).cellsAt) rfl rfl ?_))))
 obtain ⟨y3,q5,hm⟩:=bs hm
 refine Bn (O:=w3) (A:=All v3) (R:=fun w' F v=>Vb w' F v y3) (IE (fun _ h=>h) (Vb.mono (F:=Fr 0 v3 w3) (Vb.ofAgg (cs:=[(.slice o1 x0.vars.length p1),(.slice q1 x0.init.length r1),(.slice s1 x0.goal.length t1),(.slice m1 c1.length n1)]) (x:=(⟨x0.vars,x0.init,x0.goal,t2⟩:Tsk)) rfl ⟨_,_,_,_,rfl,h9,j0,k0,q0⟩) Fr.lt) q5) rfl rfl fun f9 d3 e3 y0 r5=>?_
 obtain rfl:=r5.bool
 cases y3
 case false =>
  replace hm:=iF hm
  refine Cr rfl rfl (o_z ?_)
  refine Ah rfl (Al ?_)
  obtain ⟨s5,l1,hm⟩:=bs hm
  refine AL (fun l' w'=>∃ (t5:Unit) (O':Lab),subs l' [(6,(.bool s5))]∧Bs w A w' O') ?_ ?_
  ·
   refine Aj (Ar rfl rfl (DJ rfl rfl (fun f3=>?_) fun f3=>?_))
   ·
    replace l1:=ip l1 f3
    refine Aw rfl rfl (o_z ?_)
    obtain rfl:=sm l1
    exact ⟨(),_,⟨rfl,trivial⟩,hB.st y0⟩
   replace l1:=im l1 f3
   refine Aw rfl rfl (o_z ?_)
   obtain rfl:=sm l1
   exact ⟨(),_,⟨rfl,trivial⟩,hB.st y0⟩
  replace hB:=hB.st y0
  rintro g9 i9 ⟨t5,j9,z3,hB⟩
  refine AQ _ z3 ?_
  refine AH ?_
  obtain rfl:=sm hm
  exact ret1v rfl (AE rfl) ⟨hB.ext,vBool⟩
 replace hm:=iT hm
 refine Cq rfl rfl (o_z ?_)
 refine Ae rfl (AO (Al ?_))
 obtain ⟨u5,d0,hm⟩:=bs hm
 refine AL (fun l' w'=>∃ (w5:Unit) (O':Lab),subs l' [(6,(.bool u5))]∧Bs w A w' O') ?_ ?_
 ·
  refine Aj (Ar rfl rfl (MI rfl rfl (fun g3=>?_) fun g3=>?_))
  ·
   replace d0:=ip d0 g3
   refine Ar rfl rfl (Az rfl rfl (AJ rfl rfl (Az rfl rfl ?_)))
   replace u0:=u0.st y0
   refine AG (hc:=Blk.cell (i:=0) (u0.1) rfl) rfl rfl ?_
   refine Az rfl rfl (AJ rfl rfl (Az rfl rfl ?_))
   replace v0:=v0.st y0
   refine AG (hc:=Blk.cell (i:=0) (v0.1) rfl) rfl rfl ?_
   refine Az rfl rfl (EJ rfl rfl rfl (fun h3=>?_) fun h3=>?_)
   ·
    replace d0:=ip d0 h3
    refine Bq rfl rfl rfl (Ar rfl rfl (Az rfl rfl (AJ rfl rfl (Az rfl rfl (AG (hc:=Blk.cell (i:=2) (u0.1) rfl) rfl rfl ?_)))))
    refine Az rfl rfl (AJ rfl rfl (Az rfl rfl (AG (hc:=Blk.cell (i:=2) (v0.1) rfl) rfl rfl ?_)))
    refine Az rfl rfl (EJ rfl rfl rfl (fun i3=>?_) fun i3=>?_)
    ·
     replace d0:=ip d0 i3
     refine Bq rfl rfl rfl (Ar rfl rfl (Az rfl rfl (AJ rfl rfl (Az rfl rfl (AG (hc:=Blk.cell (i:=1) (u0.1) rfl) rfl rfl ?_)))))
     refine Az rfl rfl (AJ rfl rfl (Az rfl rfl (AG (hc:=Blk.cell (i:=1) (v0.1) rfl) rfl rfl ?_)))
     refine Az rfl rfl ?_
     obtain ⟨a4,x5,d0⟩:=bs d0
     replace j1:=j1.st y0
     replace e1:=e1.st y0
     refine Bn (O:=e3) (A:=All d3) (R:=fun w' F v=>Vb w' F v a4) (ID (fun _ h=>h) (Vb.mono (F:=Fr 0 d3 e3) e1 Fr.lt) (Vb.mono (F:=Fr 0 d3 e3) j1 Fr.lt) x5) rfl rfl fun k9 l9 m9 h2 y5=>?_
     obtain rfl:=y5.bool
     cases a4
     case false =>
      replace d0:=iF d0
      refine Bq rfl rfl rfl (Ar rfl rfl (Au rfl rfl rfl rfl (Au rfl rfl rfl rfl (Au rfl rfl rfl rfl (Au rfl rfl rfl rfl (Au rfl rfl rfl rfl (Br rfl rfl rfl (Aw rfl rfl (o_z ?_)))))))))
      obtain rfl:=sm d0
      exact ⟨(),_,⟨rfl,trivial⟩,(hB.st y0).st h2⟩
     replace d0:=iT d0
     refine Bq rfl rfl rfl (Ar rfl rfl (Az rfl rfl (AJ rfl rfl (Az rfl rfl ?_))))
     replace u0:=u0.st h2
     refine AG (hc:=Blk.cell (i:=3) (u0.1) rfl) rfl rfl ?_
     refine Az rfl rfl (AJ rfl rfl (Az rfl rfl ?_))
     replace v0:=v0.st h2
     refine AG (hc:=Blk.cell (i:=3) (v0.1) rfl) rfl rfl ?_
     refine Az rfl rfl (EJ rfl rfl rfl (fun j3=>?_) fun j3=>?_)
     ·
      replace d0:=ip d0 j3
      refine Bq rfl rfl rfl (Aw rfl rfl (o_z ?_))
      obtain rfl:=sm d0
      exact ⟨(),_,⟨rfl,trivial⟩,(hB.st y0).st h2⟩
     replace d0:=im d0 j3
     refine Bq rfl rfl rfl (Aw rfl rfl (o_z ?_))
     obtain rfl:=sm d0
     exact ⟨(),_,⟨rfl,trivial⟩,(hB.st y0).st h2⟩
    replace d0:=im d0 i3
    refine Bq rfl rfl rfl (Ar rfl rfl (Au rfl rfl rfl rfl (Au rfl rfl rfl rfl (Au rfl rfl rfl rfl (Au rfl rfl rfl rfl (Au rfl rfl rfl rfl (Br rfl rfl rfl (Ar rfl rfl (Au rfl rfl rfl rfl (Au rfl rfl rfl rfl (Au rfl rfl rfl rfl (Au rfl rfl rfl rfl (Au rfl rfl rfl rfl (Br rfl rfl rfl ?_))))))))))))))
    refine Aw rfl rfl (o_z ?_)
    obtain rfl:=sm d0
    exact ⟨(),_,⟨rfl,trivial⟩,hB.st y0⟩
   replace d0:=im d0 h3
   refine Bq rfl rfl rfl (Ar rfl rfl (Au rfl rfl rfl rfl (Au rfl rfl rfl rfl (Au rfl rfl rfl rfl (Au rfl rfl rfl rfl (Au rfl rfl rfl rfl (Br rfl rfl rfl (Ar rfl rfl (Au rfl rfl rfl rfl (Au rfl rfl rfl rfl (Au rfl rfl rfl rfl (Au rfl rfl rfl rfl (Au rfl rfl rfl rfl (Br rfl rfl rfl ?_))))))))))))))
   refine Ar rfl rfl (Au rfl rfl rfl rfl (Au rfl rfl rfl rfl (Au rfl rfl rfl rfl (Au rfl rfl rfl rfl (Au rfl rfl rfl rfl (Br rfl rfl rfl (Aw rfl rfl (o_z ?_))))))))
   obtain rfl:=sm d0
   exact ⟨(),_,⟨rfl,trivial⟩,hB.st y0⟩
  replace d0:=im d0 g3
  refine Ar rfl rfl (Au rfl rfl rfl rfl (Au rfl rfl rfl rfl (Au rfl rfl rfl rfl (Au rfl rfl rfl rfl (Au rfl rfl rfl rfl (Br rfl rfl rfl (Ar rfl rfl (Au rfl rfl rfl rfl (Au rfl rfl rfl rfl (Au rfl rfl rfl rfl (Au rfl rfl rfl rfl (Au rfl rfl rfl rfl (Br rfl rfl rfl (Ar rfl rfl ?_))))))))))))))
  refine Au rfl rfl rfl rfl (Au rfl rfl rfl rfl (Au rfl rfl rfl rfl (Au rfl rfl rfl rfl (Au rfl rfl rfl rfl (Br rfl rfl rfl (Ar rfl rfl (Au rfl rfl rfl rfl (Au rfl rfl rfl rfl (Au rfl rfl rfl rfl (Au rfl rfl rfl rfl (Au rfl rfl rfl rfl (Br rfl rfl rfl (Aw rfl rfl (o_z ?_))))))))))))))
  obtain rfl:=sm d0
  exact ⟨(),_,⟨rfl,trivial⟩,hB.st y0⟩
 replace hB:=hB.st y0
 rintro n9 o9 ⟨w5,p9,b4,hB⟩
 refine AQ _ b4 ?_
 refine AH ?_
 obtain rfl:=sm hm
 exact ret1v rfl (AE rfl) ⟨hB.ext,vBool⟩
end
section
open Go Go.RowKit
def factB (vars:List Int) (x:Fct):Bool:=decide (0≤x.var) && (decide (0≤x.val) && (match vars[x.var.toNat]? with|some y=>decide (x.val < y)|none=>false))
theorem LJ {vars:List Int} {x:Fct} (h:factB vars x=true):FactOk vars x:=by
  unfold factB at h
  simp only [Bool.and_eq_true,decide_eq_true_eq] at h
  obtain ⟨h1,h2,h3⟩:=h
  cases hv:vars[x.var.toNat]? with
  | none=>rw [hv] at h3;cases h3
  | some y=>rw [hv] at h3;exact ⟨h1,h2,y,hv,by simpa using h3⟩
def ascB:List Fct→Bool
  | x :: y :: r=>decide (x.var < y.var) && ascB (y :: r)
  | _=>true
theorem Ms:∀ {f:List Fct},ascB f=true→∀ (i:Nat) x y,f[i]?=some x→f[i + 1]?=some y→x.var < y.var
  | [],_,i,x,y,h,_=>by simp at h
  | [_],_,i,x,y,_,h=>by simp at h
  | a :: b :: r,h,i,x,y,h1,h2=>by
    simp only [ascB,Bool.and_eq_true,decide_eq_true_eq] at h
    cases i with
    | zero=>simp at h1 h2;subst h1;subst h2;exact h.1
    | succ i=>exact Ms h.2 i x y (by simpa using h1) (by simpa using h2)
def factsB (vars:List Int) (f:List Fct):Bool:=f.all (factB vars) && ascB f
theorem Ie {vars:List Int} {f:List Fct} (h:factsB vars f=true):FactsOk vars f:=by
  unfold factsB at h
  rw [Bool.and_eq_true,List.all_eq_true] at h
  exact ⟨fun i x hx=>LJ (h.1 x (List.mem_of_getElem? hx)),Ms h.2⟩
def stateB:List Int→List Int→Bool
  | [],[]=>true
  | y :: vars,x :: s=>decide (0≤x) && (decide (x < y) && stateB vars s)
  | _,_=>false
theorem KA:∀ {vars s:List Int},stateB vars s=true→StateOk vars s
  | [],[],_=>⟨rfl,fun i x y h=>by simp at h⟩
  | y :: vars,x :: s,h=>by
    simp only [stateB,Bool.and_eq_true,decide_eq_true_eq] at h
    obtain ⟨h1,h2⟩:=KA h.2.2
    refine ⟨by simp [h1],fun i a b ha hb=>?_⟩
    cases i with
    | zero=>simp at ha hb;subst ha;subst hb;exact ⟨h.1,h.2.1⟩
    | succ i=>exact h2 i a b (by simpa using ha) (by simpa using hb)
  | [],_ :: _,h=>by simp [stateB] at h
  | _ :: _,[],h=>by simp [stateB] at h
def nameB (s:ByteArray):Bool:=decide (s.size≤256) && s.data.toList.all fun c=>decide (32≤c.toNat) && decide (c.toNat≤126)
theorem OF {s:ByteArray} (h:nameB s=true):NameOk s:=by
  unfold nameB at h
  simp only [Bool.and_eq_true,decide_eq_true_eq,List.all_eq_true] at h
  refine ⟨h.1,fun i hi=>h.2 _ ?_⟩
  show s.data[i]∈_
  simp
def opB (vars:List Int) (o:Opr):Bool:=decide (0≤o.cost) && (decide (o.cost≤1048576) && (decide (o.effs.length≤64) && (nameB o.name && (factsB vars o.pre && o.effs.all fun e=>factsB vars e.cond && factB vars ⟨e.var,e.val⟩))))
theorem QJ {vars:List Int} {o:Opr} (h:opB vars o=true):OpOk vars o:=by
  unfold opB at h
  simp only [Bool.and_eq_true,decide_eq_true_eq,List.all_eq_true] at h
  obtain ⟨h1,h2,h3,h4,h5,h6⟩:=h
  exact ⟨h1,h2,h3,OF h4,Ie h5,fun i e he=>⟨Ie (h6 e (List.mem_of_getElem? he)).1,LJ (h6 e (List.mem_of_getElem? he)).2⟩⟩
def taskB (t:Tsk):Bool:=decide (t.vars.length≤64) && (decide (t.ops.length≤4096) && ((t.vars.all fun n=>decide (1≤n) && decide (n≤64)) && (stateB t.vars t.init && (factsB t.vars t.goal && t.ops.all (opB t.vars)))))
theorem OG {t:Tsk} (h:taskB t=true):TaskOk t:=by
  unfold taskB at h
  simp only [Bool.and_eq_true,decide_eq_true_eq,List.all_eq_true] at h
  obtain ⟨h1,h2,h3,h4,h5,h6⟩:=h
  exact ⟨h1,h2,fun i n hn=>h3 n (List.mem_of_getElem? hn),KA h4,Ie h5,fun i o ho=>QJ (h6 o (List.mem_of_getElem? ho))⟩
end
section
set_option linter.unusedVariables false
set_option linter.unusedSimpArgs false
open Go Go.RowKit
theorem OH (t:Tsk) (gens:List Swp):Er t gens=some (bof (gens.length≤12∧∀ x∈gens,TaskOk t∧SymP t x)):=by
  unfold Er
  by_cases hl:12 < (gens.length:Int)
  · rw [if_pos hl,AM (fun h=>by omega)]
  rw [if_neg hl]
  have:∃ r,(bnd (rng (ρ:=Bool) (fun (k36:Nat) (a37:Swp) (s34:Unit)=>bnd (DB t a37) fun q73=>if q73=true then some (.next ()) else some (.ret false)) gens 0 ()) fun res32=>fin res32 fun (s84:Unit)=>some true)=some r∧r=bof (gens.length≤12∧∀ x∈gens,TaskOk t∧SymP t x):=by
    refine JF (fun m _=>∀ x∈gens.take m,TaskOk t∧SymP t x) (fun r=>r=false∧¬ ∀ x∈gens,TaskOk t∧SymP t x) (fun x hx=>by simp at hx) ?_ ?_ ?_
    · intro m x _ hx hI
      rw [LW,Am]
      by_cases h:TaskOk t∧SymP t x
      · rw [Bd h,Bj]
        refine .inl ⟨(),rfl,fun y hy=>?_⟩
        rcases (DE hx).1 hy with hy|rfl
        · exact hI y hy
        · exact h
      · rw [AM h,BB]
        exact .inr ⟨_,rfl,rfl,fun hh=>h (hh x (List.mem_of_getElem? hx))⟩
    · intro _ hI
      rw [List.take_length] at hI
      exact ⟨_,rfl,by rw [Bd ⟨by omega,hI⟩]⟩
    · rintro q ⟨rfl,hn⟩
      exact ⟨_,rfl,by rw [AM (fun h=>hn h.2)]⟩
  obtain ⟨r,h1,h2⟩:=this
  rw [h1,h2]
def ex52:Tsk:=⟨[2],[0],[(⟨0,1⟩:Fct)],[(⟨(⟨#[]⟩:ByteArray),3,([]:List Fct),[(⟨([]:List Fct),0,1⟩:Eff)]⟩:Opr)]⟩
theorem PS:TaskOk ex52:=OG (by kernel_rfl)
theorem MW:SmallOk ex52:=by
  refine ⟨by decide,by decide,fun i o ho=>?_,PS,by decide⟩
  have:o∈ex52.ops:=List.mem_of_getElem? ho
  simp [ex52] at this
  subst this
  decide
theorem NP {s p s':List Int} {C:Int} (h:PlanR ex52 s p s' C):C=3 * (p.length:Int)∧∀ x∈p,x=0:=by
  induction h with
  | nil=>simp
  | @cons s rest s' k o C ho _ _ ih =>
    have hk:=AF ho
    simp [ex52] at hk
    subst hk
    have:o.cost=3:=by simp [ex52] at ho;rw [← ho]
    refine ⟨by rw [this,ih.1];simp;omega,fun x hx=>?_⟩
    rcases List.mem_cons.1 hx with rfl|hx
    · rfl
    · exact ih.2 x hx
theorem awake52:DF=some true:=by
  unfold DF
  show (bnd (BI ex52 [] 10) _)=_
  have hsy:Sy ex52 []:=⟨MW,fun x hx=>by simp at hx,by simp⟩
  obtain ⟨r,r1,r2,r3⟩:=Jj hsy 1000
  obtain ⟨hv,hx⟩:=Ht hsy r2 (by decide)
  have hst:(statesL ex52.vars).length=2:=by decide
  rw [r3 hv 10 (by omega),Am,if_pos rfl]
  have hw:Walk ex52 ex52.init 3:=by
    have h1:PlanR ex52 ex52.init [((0:Nat):Int)] _ (3 + 0):=.cons (k:=0) (o:=(⟨(⟨#[]⟩:ByteArray),3,([]:List Fct),[(⟨([]:List Fct),0,1⟩:Eff)]⟩:Opr)) rfl (by decide) .nil
    exact h1.walk (by decide)
  obtain ⟨_,_,M,_,_,_,⟨h1,h2,⟨s',h3,h4⟩,h5,_⟩|⟨h1,h2,h3,h4,_⟩|⟨h1,_⟩⟩:=r2
  · have g1:=NP h3
    have g2:=h5 3 hw
    have hp:r.plan=[0]:=by
      cases hpl:r.plan with
      | nil =>
        rw [hpl] at h3
        have e:s'=ex52.init:=by
          generalize r.cost=c at h3
          cases h3
          rfl
        rw [e] at h4
        exact absurd h4 (by decide)
      | cons a l =>
        rw [hpl] at g1
        have:=g1.2 a List.mem_cons_self
        subst this
        cases l with
        | nil=>rfl
        | cons b l=>simp at g1;omega
    rw [hp] at g1
    dsimp only
    rw [if_pos h1,if_pos (by simpa using g1.1),hp]
    unfold Eu
    rw [Bd rfl]
    rfl
  · exact absurd hw (h4 3)
  · exact absurd h1 hv
theorem Sy.of {t:Tsk} {gens:List Swp} (hs:SmallOk t) (hr:gens.length≤12∧∀ x∈gens,TaskOk t∧SymP t x):Sy t gens:=⟨hs,fun x hx=>(hr.2 x hx).2,by omega⟩
end
section
set_option linter.unusedVariables false
set_option linter.unusedSimpArgs false
open Go Go.RowKit
theorem NQ {t:Tsk} (h:¬ TaskOk t) (gens:List Swp) (lim:Int):BI t gens lim=some (⟨0,[],0,0⟩,⟨checkN t⟩):=by
  have hn:checkN t≠0:=fun e=>h (CN.1 e)
  rw [JX]
  unfold Cn
  rw [Am,if_pos hn]
end
section
set_option linter.unusedVariables false
set_option linter.unusedSimpArgs false
open Go Go.RowKit
def cm {σ ρ:Type} (φ:σ→σ):Ctl σ ρ→Ctl σ ρ
  | .next s=>.next (φ s)
  | .brk s=>.brk (φ s)
  | .ret r=>.ret r
def fm {σ ρ:Type} (φ:σ→σ):Fin σ ρ→Fin σ ρ
  | .done s=>.done (φ s)
  | .ret r=>.ret r
theorem Mt {α σ ρ:Type} {φ:σ→σ} {P:σ→Prop} {Q:ρ→Prop} {f g:Nat→α→σ→Option (Ctl σ ρ)} (h:∀ k x s,P s→f k x (φ s)=(g k x s).map (cm φ)) (hP:∀ k x s s',P s→g k x s=some (.next s')→P s') (hB:∀ k x s s',P s→g k x s=some (.brk s')→P s') (hR:∀ k x s r,g k x s=some (.ret r)→Q r):∀ (xs:List α) (j:Nat) (s:σ),P s→rng f xs j (φ s)=(rng g xs j s).map (fm φ)∧(∀ s',rng g xs j s=some (.done s')→P s')∧∀ r,rng g xs j s=some (.ret r)→Q r
  | [],j,s,hs=>by
    refine ⟨rfl,fun s' hs'=>?_,fun r hr=>?_⟩
    · simp only [rng] at hs'
      have:=Option.some.inj hs'
      injection this with e
      subst e
      exact hs
    · simp only [rng] at hr
      cases hr
  | x :: xs,j,s,hs=>by
    simp only [rng]
    rw [h j x s hs]
    cases hg:g j x s with
    | none =>
      refine ⟨rfl,fun s' hs'=>?_,fun r hr=>?_⟩
      · cases hs'
      · cases hr
    | some c =>
      cases c with
      | next s'=>exact Mt h hP hB hR xs (j + 1) s' (hP j x s s' hs hg)
      | brk s' =>
        refine ⟨rfl,fun s2 hs2=>?_,fun r hr=>?_⟩
        · have:=Option.some.inj hs2
          injection this with e
          subst e
          exact hB j x s s' hs hg
        · cases hr
      | ret r =>
        refine ⟨rfl,fun s2 hs2=>?_,fun r2 hr=>?_⟩
        · cases hs2
        · have:=Option.some.inj hr
          injection this with e
          subst e
          exact hR j x s r hg
theorem CK {α β γ:Type} {a:Option α} {f:α→Option γ} {g:α→Option β} {h:β→γ} (H:∀ x,f x=(g x).map h):bnd a f=(bnd a g).map h:=by
  cases a with
  | none=>rfl
  | some x=>rw [Am,Am];exact H x
theorem Iv {α β γ:Type} {a:Option α} {f:α→Option β} {g:β→Option γ}:bnd (bnd a f) g=bnd a fun x=>bnd (f x) g:=by
  cases a<;>rfl
theorem Mu {σ ρ:Type} {φ:σ→σ} {P:σ→Prop} {f g:σ→Option (Ctl σ ρ)} (h:∀ s,P s→f (φ s)=(g s).map (cm φ)) (hP:∀ s s',P s→g s=some (.next s')→P s'):∀ (n:Nat) (s:σ) (z:Fin σ ρ),P s→itr g n s=some z→itr f n (φ s)=some (fm φ z)
  | 0,s,z,_,hz=>by cases hz
  | n + 1,s,z,hs,hz=>by
    simp only [itr] at hz ⊢
    rw [h s hs]
    cases hg:g s with
    | none=>rw [hg] at hz;cases hz
    | some c =>
      rw [hg] at hz
      cases c with
      | next s'=>exact Mu h hP n s' z (hP s s' hs hg) hz
      | brk s'=>have:=Option.some.inj hz;subst this;rfl
      | ret r=>have:=Option.some.inj hz;subst this;rfl
theorem PT {σ ρ:Type} {φ:σ→σ} {P:σ→Prop} {f g:σ→Option (Ctl σ ρ)} (h:∀ s,P s→f (φ s)=(g s).map (cm φ)) (hP:∀ s s',P s→g s=some (.next s')→P s') {s:σ} {z:Fin σ ρ} (hs:P s) (hz:lop g s=some z):lop f (φ s)=some (fm φ z):=by
  obtain ⟨n,hn⟩:=Gn.1 hz
  exact Gn.2 ⟨n,Mu h hP n s z hs hn⟩
def rnO (nm:ByteArray) (o:Opr):Opr:={ o with name:=nm }
def rnT (nm:ByteArray) (t:Tsk):Tsk:=⟨t.vars,t.init,t.goal,t.ops.map (rnO nm)⟩
theorem Gv {nm:ByteArray} {t:Tsk} {k:Nat}:(rnT nm t).ops[k]?=(t.ops[k]?).map (rnO nm):=List.getElem?_map ..
theorem LK {nm:ByteArray} {t:Tsk} {x:Swp}:SymP (rnT nm t) x↔SymP t x:=by
  have hl:(rnT nm t).ops.length=t.ops.length:=by simp [rnT]
  unfold SymP
  rw [hl]
  constructor
  · rintro ⟨h1,h2,h3,h4⟩
    refine ⟨h1,h2,h3,fun k hk=>?_⟩
    obtain ⟨o,p,a,e1,e2,e3,e4,e5,e6⟩:=h4 k hk
    rw [Gv] at e1
    obtain ⟨o',e1',rfl⟩:=Option.map_eq_some_iff.1 e1
    obtain ⟨a0,a1⟩:=h2.mem (List.mem_of_getElem? e2)
    obtain ⟨a,rfl⟩:=Int.eq_ofNat_of_zero_le a0
    rw [Bh,Gv] at e3
    obtain ⟨p',e3',rfl⟩:=Option.map_eq_some_iff.1 e3
    exact ⟨o',p',_,e1',e2,by rw [Bh];exact e3',e4,e5,e6⟩
  · rintro ⟨h1,h2,h3,h4⟩
    refine ⟨h1,h2,h3,fun k hk=>?_⟩
    obtain ⟨o,p,a,e1,e2,e3,e4,e5,e6⟩:=h4 k hk
    obtain ⟨a0,a1⟩:=h2.mem (List.mem_of_getElem? e2)
    obtain ⟨a,rfl⟩:=Int.eq_ofNat_of_zero_le a0
    rw [Bh] at e3
    exact ⟨rnO nm o,rnO nm p,_,by rw [Gv,e1];rfl,e2,by rw [Bh,Gv,e3];rfl,e4,e5,e6⟩
section
variable {nm : ByteArray} {t : Tsk} (hok : TaskOk t) (hok' : TaskOk (rnT nm t))
include hok hok'
theorem GF (gens:List Swp):Bk (rnT nm t) gens=Bk t gens:=by
  rw [demandL hok,demandL hok']
  have:(∀ x∈gens,SymP (rnT nm t) x)↔∀ x∈gens,SymP t x:=⟨fun h x hx=>LK.1 (h x hx),fun h x hx=>LK.2 (h x hx)⟩
  rw [HJ this]
theorem OK (gens:List Swp) (s:List Int):Bx (rnT nm t) gens s=Bx t gens s:=by
  unfold Bx
  have:∀ y,Bk (⟨(rnT nm t).vars,(rnT nm t).init,(rnT nm t).goal,(rnT nm t).ops⟩:Tsk) y=Bk (⟨t.vars,t.init,t.goal,t.ops⟩:Tsk) y:=fun y=>GF hok hok' y
  first
    | rw [GF hok hok'];rfl
    | simp only [this];rfl
theorem QK (y:Swp):BN (rnT nm t) y=BN t y:=by
  unfold BN
  rw [GF hok hok']
theorem PU (y z:Swp):BE (rnT nm t) y z=BE t y z:=by
  unfold BE
  rw [GF hok hok']
theorem Rh:BR (rnT nm t)=BR t:=by
  rw [GN hok,GN hok']
  have hl:(rnT nm t).ops.length=t.ops.length:=by simp [rnT]
  unfold idX
  rw [hl]
  rfl
omit hok hok' in
theorem PV (s:List Int):(appS (rnT nm t) s).map (sucOf (rnT nm t) s)=(appS t s).map (sucOf t s):=by
  have hl:(rnT nm t).ops.length=t.ops.length:=by simp [rnT]
  have h1:appl (rnT nm t) s=appl t s:=by
    have hb:∀ k,appB (rnT nm t) s k=appB t s k:=fun k=>by
      unfold appB
      rw [Gv]
      cases t.ops[k]?<;>rfl
    rw [Lu,Lu,hl]
    have:appB (rnT nm t) s=appB t s:=funext hb
    unfold appN
    rw [this]
  have h2:∀ x,sucOf (rnT nm t) s x=sucOf t s x:=fun x=>by
    unfold sucOf
    rw [Gv]
    cases t.ops[x.toNat]?<;>rfl
  have h3:sucOf (rnT nm t) s=sucOf t s:=funext h2
  rw [h3]
  unfold appS
  rw [h1]
  rfl
theorem PW (s:List Int):Bp (some ⟨rnT nm t⟩) s=Bp (some ⟨t⟩) s:=by
  by_cases hl:s.length≤1000000
  · rw [JU hok hl,JU hok' hl,PV]
  · have ha:∀ t:Tsk,Cz (some ⟨t⟩) s=none:=fun t=>if_neg hl
    unfold Bp
    rw [ha,ha]
    rfl
def rnX (nm:ByteArray) (x:Ors):Ors:=⟨rnT nm x.t,x.gens,x.nodes,x.tab,x.open_,x.number⟩
omit hok hok' in
theorem Pf {x:Ors} {s:List Int} {c p q:Int} {r:Err×Ors} (h:Bt x s c p q=some r):r.2.t=x.t:=by
  unfold Bt at h
  cases h1:Bx (⟨x.t.vars,x.t.init,x.t.goal,x.t.ops⟩:Tsk) x.gens s with
  | none=>rw [h1] at h;cases h
  | some k =>
    rw [h1,Am] at h
    by_cases h2:k.2.2.n≠0
    · rw [if_pos h2] at h;obtain rfl:=Option.some.inj h;rfl
    rw [if_neg h2] at h
    obtain ⟨y1,_,h⟩:=bs h
    obtain ⟨y2,_,h⟩:=bs h
    by_cases h3:y2.2=true
    · rw [if_pos h3] at h;obtain rfl:=Option.some.inj h;rfl
    rw [if_neg h3] at h
    obtain ⟨y3,e3,h⟩:=bs h
    have ht:y3.2.t=x.t:=by
      by_cases h4:y2.1=true
      · rw [if_pos h4] at e3
        obtain ⟨_,_,e3⟩:=bs e3
        obtain rfl:=Option.some.inj e3
        rfl
      · rw [if_neg h4] at e3
        obtain ⟨_,_,e3⟩:=bs e3
        obtain rfl:=Option.some.inj e3
        rfl
    obtain ⟨_,_,h⟩:=bs h
    obtain ⟨_,_,h⟩:=bs h
    obtain rfl:=Option.some.inj h
    exact ht
theorem Mv {x:Ors} (hx:x.t=t) (s:List Int) (c p q:Int):Bt (rnX nm x) s c p q=(Bt x s c p q).map fun r=>(r.1,rnX nm r.2):=by
  obtain ⟨tt,gg,N,tab,op,num⟩:=x
  dsimp only at hx
  subst hx
  unfold Bt
  dsimp only [rnX]
  have hc:Bx (⟨(rnT nm tt).vars,(rnT nm tt).init,(rnT nm tt).goal,(rnT nm tt).ops⟩:Tsk) gg s=Bx (⟨tt.vars,tt.init,tt.goal,tt.ops⟩:Tsk) gg s:=OK hok hok' gg s
  rw [hc]
  refine CK fun k=>?_
  by_cases h2:k.2.2.n≠0
  · rw [if_pos h2,if_pos h2];rfl
  rw [if_neg h2,if_neg h2]
  refine CK fun y1=>CK fun y2=>?_
  by_cases h3:y2.2=true
  · rw [if_pos h3,if_pos h3];rfl
  rw [if_neg h3,if_neg h3]
  by_cases h4:y2.1=true
  · rw [if_pos h4,if_pos h4,Iv,Iv]
    refine CK fun a=>?_
    rw [Am,Am]
    exact CK fun n=>CK fun r=>rfl
  · rw [if_neg h4,if_neg h4,Iv,Iv]
    refine CK fun a=>?_
    rw [Am,Am]
    exact CK fun n=>CK fun r=>rfl
theorem OL {x:Ors} (hx:x.t=t) (i:Int):BS (rnX nm x) i=BS x i:=by
  obtain ⟨tt,gg,N,tab,op,num⟩:=x
  dsimp only at hx
  subst hx
  unfold BS
  dsimp only [rnX]
  have h1:BR (⟨(rnT nm tt).vars,(rnT nm tt).init,(rnT nm tt).goal,(rnT nm tt).ops⟩:Tsk)=BR (⟨tt.vars,tt.init,tt.goal,tt.ops⟩:Tsk):=Rh hok hok'
  have h2:∀ y,BN (⟨(rnT nm tt).vars,(rnT nm tt).init,(rnT nm tt).goal,(rnT nm tt).ops⟩:Tsk) y=BN (⟨tt.vars,tt.init,tt.goal,tt.ops⟩:Tsk) y:=fun y=>QK hok hok' y
  have h3:∀ y z,BE (⟨(rnT nm tt).vars,(rnT nm tt).init,(rnT nm tt).goal,(rnT nm tt).ops⟩:Tsk) y z=BE (⟨tt.vars,tt.init,tt.goal,tt.ops⟩:Tsk) y z:=fun y z=>PU hok hok' y z
  simp only [h1,h2,h3]
theorem PX {x:Ors} (hx:x.t=t) (c id:Int) (a:Suc):oIn (rnT nm t) c id (rnX nm x) a=(oIn t c id x a).map (cm (rnX nm)):=by
  unfold oIn
  have h0:atI (rnT nm t).ops a.op=(atI t.ops a.op).map (rnO nm):=by
    unfold atI
    split
    · exact Gv
    · rfl
  rw [h0]
  cases atI t.ops a.op with
  | none=>rfl
  | some o =>
    rw [Option.map_some,Am,Am]
    show (bnd (chkI (c + o.cost)) _)=_
    cases chkI (c + o.cost) with
    | none=>rfl
    | some n =>
      rw [Am,Am,Mv hok hok' hx]
      cases Bt x a.state n id a.op with
      | none=>rfl
      | some r =>
        rw [Option.map_some,Am,Am]
        dsimp only
        by_cases h:r.1.n≠0
        · rw [if_pos h,if_pos h];rfl
        · rw [if_neg h,if_neg h];rfl
omit hok hok' in
theorem Ri {x y:Ors} {c id:Int} {a:Suc} (h:oIn t c id x a=some (.next y)):y.t=x.t:=by
  unfold oIn at h
  obtain ⟨_,_,h⟩:=bs h
  obtain ⟨_,_,h⟩:=bs h
  obtain ⟨r,e,h⟩:=bs h
  by_cases hn:r.1.n≠0
  · rw [if_pos hn] at h;cases h
  · rw [if_neg hn] at h
    have:=Option.some.inj h
    injection this with e2
    subst e2
    exact Pf e
omit hok hok' in
theorem PY {x y:Ors} {c id:Int} {a:Suc}:¬ oIn t c id x a=some (.brk y):=fun h=>by
  unfold oIn at h
  obtain ⟨_,_,h⟩:=bs h
  obtain ⟨_,_,h⟩:=bs h
  obtain ⟨r,e,h⟩:=bs h
  by_cases hn:r.1.n≠0
  · rw [if_pos hn] at h;cases h
  · rw [if_neg hn] at h;cases h
omit hok hok' in
theorem PZ {x:Ors} {c id:Int} {a:Suc} {z:Ctl OT (Rsl×Err)} (h:oIn t c id x a=some (.ret z)):∃ r,z=.ret r:=by
  unfold oIn at h
  obtain ⟨_,_,h⟩:=bs h
  obtain ⟨_,_,h⟩:=bs h
  obtain ⟨r,e,h⟩:=bs h
  by_cases hn:r.1.n≠0
  · rw [if_pos hn] at h
    have:=Option.some.inj h
    injection this with e2
    exact ⟨_,e2.symm⟩
  · rw [if_neg hn] at h;cases h
def rnS (nm:ByteArray) (s:OT):OT:=(s.1,rnX nm s.2)
theorem Mw {l:List Suc} {c id:Int} {x:Ors} (hx:x.t=t):rng (ρ:=Ctl OT (Rsl×Err)) (fun (_:Nat) (a:Suc) (y:Ors)=>oIn (rnT nm t) c id y a) l 0 (rnX nm x)=(rng (ρ:=Ctl OT (Rsl×Err)) (fun (_:Nat) (a:Suc) (y:Ors)=>oIn t c id y a) l 0 x).map (fm (rnX nm))∧(∀ y,rng (ρ:=Ctl OT (Rsl×Err)) (fun (_:Nat) (a:Suc) (y:Ors)=>oIn t c id y a) l 0 x=some (.done y)→y.t=t)∧∀ z,rng (ρ:=Ctl OT (Rsl×Err)) (fun (_:Nat) (a:Suc) (y:Ors)=>oIn t c id y a) l 0 x=some (.ret z)→∃ r,z=.ret r :=
  Mt (ρ:=Ctl OT (Rsl×Err)) (φ:=rnX nm) (P:=fun x:Ors=>x.t=t) (Q:=fun z=>∃ r,z=.ret r) (fun _ a x hx=>PX hok hok' hx _ _ a) (fun _ a x y hx h=>(Ri h).trans hx) (fun _ a x y hx h=>absurd h PY) (fun _ a x z h=>PZ h) l 0 x hx
theorem QL {s s':OT} (hs:s.2.t=t) {lim:Int} (h:orbF t (some ⟨t⟩) lim s=some (.next s')):s'.2.t=t:=by
  unfold orbF at h
  obtain ⟨q,_,h⟩:=bs h
  by_cases h1:q=0
  · rw [if_pos h1] at h;cases h
  rw [if_neg h1] at h
  obtain ⟨e,_,h⟩:=bs h
  obtain ⟨y,_,h⟩:=bs h
  by_cases h2:y=true
  · rw [if_pos h2] at h
    have:=Option.some.inj h
    injection this with e
    subst e
    exact hs
  rw [if_neg h2] at h
  obtain ⟨n,_,h⟩:=bs h
  obtain ⟨b,_,h⟩:=bs h
  by_cases h3:b=true
  · rw [if_pos h3] at h
    obtain ⟨p,_,h⟩:=bs h
    by_cases h4:p.2.n≠0
    · rw [if_pos h4] at h;cases h
    · rw [if_neg h4] at h;cases h
  rw [if_neg h3] at h
  by_cases h5:lim≤s.1
  · rw [if_pos h5] at h;cases h
  rw [if_neg h5] at h
  obtain ⟨n2,_,h⟩:=bs h
  obtain ⟨m,_,h⟩:=bs h
  obtain ⟨l,_,h⟩:=bs h
  obtain ⟨r,hr,h⟩:=bs h
  obtain ⟨_,g2,g3⟩:=Mw (nm:=nm) hok hok' (l:=l) (c:=n.cost) (id:=e.1.x.node) (x:=(⟨s.2.t,s.2.gens,s.2.nodes.set (e.1.x.node:Int).toNat { m with fin:=true },s.2.tab,e.2.l,s.2.number⟩:Ors)) hs
  cases r with
  | done z =>
    rw [BP] at h
    have:=Option.some.inj h
    injection this with e
    subst e
    exact g2 z hr
  | ret z =>
    obtain ⟨r,rfl⟩:=g3 z hr
    rw [GE] at h
    cases h
theorem OM {s:OT} (hs:s.2.t=t) (lim:Int):orbF (rnT nm t) (some ⟨rnT nm t⟩) lim (rnS nm s)=(orbF t (some ⟨t⟩) lim s).map (cm (rnS nm)):=by
  obtain ⟨exp,tt,gg,N,tab,op,num⟩:=s
  dsimp only at hs
  subst hs
  unfold orbF rnS
  dsimp only [rnX]
  refine CK fun q=>?_
  by_cases h1:q=0
  · rw [if_pos h1,if_pos h1];rfl
  rw [if_neg h1,if_neg h1]
  refine CK fun e=>CK fun y=>?_
  by_cases h2:y=true
  · rw [if_pos h2,if_pos h2];rfl
  rw [if_neg h2,if_neg h2]
  refine CK fun n=>CK fun b=>?_
  by_cases h3:b=true
  · rw [if_pos h3,if_pos h3]
    have hp:=OL hok hok' (x:=(⟨tt,gg,N,tab,e.2.l,num⟩:Ors)) rfl e.1.x.node
    dsimp only [rnX] at hp
    rw [hp]
    refine CK fun p=>?_
    by_cases h4:p.2.n≠0
    · rw [if_pos h4];rfl
    · rw [if_neg h4];rfl
  rw [if_neg h3,if_neg h3]
  by_cases h5:lim≤exp
  · rw [if_pos h5,if_pos h5];rfl
  rw [if_neg h5,if_neg h5]
  refine CK fun n2=>CK fun m=>?_
  rw [PW hok hok']
  refine CK fun l=>?_
  obtain ⟨g1,g2,g3⟩:=Mw (nm:=nm) hok hok' (l:=l) (c:=n.cost) (id:=e.1.x.node) (x:=(⟨tt,gg,N.set (e.1.x.node:Int).toNat { m with fin:=true },tab,e.2.l,num⟩:Ors)) rfl
  dsimp only [rnX] at g1
  rw [g1]
  cases hr:rng (ρ:=Ctl OT (Rsl×Err)) (fun (_:Nat) (a:Suc) (y:Ors)=>oIn tt n.cost e.1.x.node y a) l 0 (⟨tt,gg,N.set (e.1.x.node:Int).toNat { m with fin:=true },tab,e.2.l,num⟩:Ors) with
  | none=>rfl
  | some r =>
    cases r with
    | done z=>rfl
    | ret z =>
      obtain ⟨r,rfl⟩:=g3 z hr
      rfl
theorem JJ {gens:List Swp} (hg:∀ x∈gens,SymP t x) {lim:Int} {r:Rsl} (h:BI t gens lim=some (r,⟨0⟩)):BI (rnT nm t) gens lim=some (r,⟨0⟩):=by
  have hg':∀ x∈gens,SymP (rnT nm t) x:=fun x hx=>LK.2 (hg x hx)
  rw [JX] at h ⊢
  unfold Cn at h ⊢
  rw [CN.2 hok,Am,if_neg (by simp),Hs hok hg,Am,BP,Lr hok,Am,if_neg (by simp)] at h
  rw [CN.2 hok',Am,if_neg (by simp),Hs hok' hg',Am,BP,Lr hok',Am,if_neg (by simp)]
  have ha:=Mv hok hok' (x:=(⟨t,gens,([]:List ONd),(⟨[]⟩:MapP ByteArray Int),([]:List OEn),0⟩:Ors)) rfl t.init 0 (-1) (-1)
  dsimp only [rnX] at ha
  show (bnd (Bt (⟨rnT nm t,gens,([]:List ONd),(⟨[]⟩:MapP ByteArray Int),([]:List OEn),0⟩:Ors) t.init 0 (-1) (-1)) _)=_
  rw [ha]
  obtain ⟨q,e,h⟩:=bs h
  have ht:=Pf e
  rw [e,Option.map_some,Am]
  by_cases h1:q.1.n≠0
  · rw [if_pos h1] at h ⊢
    exact h
  rw [if_neg h1] at h ⊢
  obtain ⟨z,hz,h⟩:=bs h
  have:=PT (φ:=rnS nm) (P:=fun s:OT=>s.2.t=t) (fun s hs=>OM hok hok' hs lim) (fun s s' hs h=>QL (nm:=nm) hok hok' hs h) (s:=(0,q.2)) ht hz
  show bnd (lop (orbF (rnT nm t) (some ⟨rnT nm t⟩) lim) (rnS nm (0,q.2))) (fun res151=>fin res151 fun (_:OT)=>none)=_
  rw [this,Am]
  cases z with
  | done s=>rw [BP] at h;cases h
  | ret r=>exact h
end
theorem LX (nm:ByteArray) (l:List Opr):rngN (ρ:=Bool) (fun (k161:Nat) (s159:(List Opr))=>bnd (s159[k161]?) fun a180=>some (.next (s159.set k161 ({ a180 with name:=nm }:Opr)))) l.length l=some (.done (l.map (rnO nm))):=by
  obtain ⟨z,h1,h2,h3⟩:=Lq (ρ:=Bool) (f:=fun (k161:Nat) (s159:(List Opr))=>bnd (s159[k161]?) fun a180=>some (.next (s159.set k161 ({ a180 with name:=nm }:Opr)))) (N:=l.length) (s₀:=l) (fun k s=>s.length=l.length∧∀ i:Nat,s[i]?=if i < k then (l[i]?).map (rnO nm) else l[i]?) ⟨rfl,fun i=>by rw [if_neg (by omega)]⟩ (fun k s hk hI=>by
    obtain ⟨i1,i2⟩:=hI
    obtain ⟨a,ha⟩:=AD (l:=s) (k:=k) (by omega)
    have hla:l[k]?=some a:=by have:=i2 k;rw [if_neg (by omega),ha] at this;exact this.symm
    rw [ha,Am]
    refine ⟨_,rfl,by simpa using i1,fun i=>?_⟩
    by_cases e:k=i
    · subst e
      rw [List.getElem?_set_self (by omega),if_pos (by omega),hla]
      rfl
    · rw [List.getElem?_set_ne e,i2 i]
      by_cases h:i < k
      · rw [if_pos h,if_pos (by omega)]
      · rw [if_neg h,if_neg (by omega)])
  rw [h1]
  congr 2
  apply List.ext_getElem?
  intro i
  rw [h3 i,List.getElem?_map]
  by_cases h:i < l.length
  · rw [if_pos h]
  · rw [if_neg h,List.getElem?_eq_none (by omega)];rfl
theorem ON {t:Tsk} {g1 g2:List Swp} {m:Int} {r q:Rsl} (h1:ResO t g1 m r) (h2:ResO t g2 m q) (v1:r.verdict≠3) (v2:q.verdict≠3):r.verdict=q.verdict∧r.cost=q.cost:=by
  obtain ⟨_,_,_,_,_,_,⟨a1,_,⟨s,a2,a3⟩,a4,_⟩|⟨a1,_,a2,a3,_⟩|⟨a1,_⟩⟩:=h1
  · obtain ⟨_,_,_,_,_,_,⟨b1,_,⟨s',b2,b3⟩,b4,_⟩|⟨b1,_,b2,b3,_⟩|⟨b1,_⟩⟩:=h2
    · have h3:=a4 _ (b2.walk b3)
      have h4:=b4 _ (a2.walk a3)
      exact ⟨by omega,by omega⟩
    · exact absurd (a2.walk a3) (b3 _)
    · exact absurd b1 v2
  · obtain ⟨_,_,_,_,_,_,⟨b1,_,⟨s',b2,b3⟩,b4,_⟩|⟨b1,_,b2,b3,_⟩|⟨b1,_⟩⟩:=h2
    · exact absurd (b2.walk b3) (a3 _)
    · exact ⟨by omega,by omega⟩
    · exact absurd b1 v2
  · exact absurd a1 v1
theorem OO (t:Tsk) (gens:List Swp) (nm:ByteArray):DT t gens nm=some true:=by
  unfold DT Gp
  rw [Am,awake52,OH,Am,Am,Am]
  by_cases hs:SmallOk t
  case neg=>rw [AM hs,BB,Am,Bj,Bj,Am]
  by_cases hr:gens.length≤12∧∀ x∈gens,TaskOk t∧SymP t x
  case neg=>rw [Bd hs,Bj,AM hr,BB,Am,Bj,Bj,Am]
  by_cases hz:100 < (nm.size:Int)
  · rw [Bd hs,Bj,Bd hr,Bj,if_pos hz,Am,Bj,Bj,Am]
  have h:=Sy.of hs hr
  have h0:Sy t []:=⟨hs,fun x hx=>by simp at hx,by simp⟩
  have hok:=hs.ok
  obtain ⟨r,r1,r2,_⟩:=Jj h 1000
  obtain ⟨q,q1,q2,_⟩:=Jj h0 1000
  have hv:=(Ht h r2 (by decide)).1
  have hw:=(Ht h0 q2 (by decide)).1
  obtain ⟨e1,e2⟩:=ON r2 q2 hv hw
  have hops:t.ops.length≤20:=hs.2.1
  rw [Bd hs,Bj,Bd hr,Bj,if_neg hz,Bj,Am,BB,r1,Am,q1,Am,CF (by simp;omega) (by simp;omega),Am,List.nil_append,LX,Am,BP]
  have fin2:∀ (p:Rsl×Err),BI (rnT nm t) gens 1000=some p→(bnd (BI (rnT nm t) gens 1000) fun q219=>bnd (if ((r,(⟨0⟩:Err)).2).n≠0 then (some true) else (if ((q,(⟨0⟩:Err)).2).n≠0 then (some true) else (if r.verdict≠q.verdict then (some true) else (if r.cost≠q.cost then (some true) else (some false)))):Option Bool) fun y246=>if y246=true then (some false) else (bnd (Ew (rnT nm t)) fun q259=>if q259=true then bnd (if q219.2.n=0 then (if q219.1.verdict=r.verdict then (if q219.1.cost=r.cost then (bnd (Eu q219.1.plan r.plan) fun q282=>if q282=true then if q219.1.expanded=r.expanded then (some true) else (some false) else some false) else (some false)) else (some false)) else (some false):Option Bool) fun y275=>some y275 else bnd (if q219.2.n≠0 then (some true) else (some false):Option Bool) fun y266=>some y266))=some true:=fun p hp=>by
    rw [hp,Am,if_neg (by simp),if_neg (by simp),if_neg (by simp [e1]),if_neg (by simp [e2]),Am,BB]
    unfold Ew
    rw [Am]
    by_cases hok':TaskOk (rnT nm t)
    · have:=JJ hok hok' h.sy r1
      rw [hp] at this
      obtain rfl:=Option.some.inj this
      rw [Bd hok',Bj,if_pos rfl,if_pos rfl,if_pos rfl]
      unfold Eu
      rw [Bd rfl,Am,Bj,if_pos rfl,Am]
    · have:=NQ hok' gens 1000
      rw [hp] at this
      obtain rfl:=Option.some.inj this
      have hn:checkN (rnT nm t)≠0:=fun e=>hok' (CN.1 e)
      rw [AM hok',BB,if_pos hn,Am]
  have hp:∃ p,BI (rnT nm t) gens 1000=some p:=by
    by_cases hok':TaskOk (rnT nm t)
    · exact ⟨_,JJ hok hok' h.sy r1⟩
    · exact ⟨_,NQ hok' gens 1000⟩
  obtain ⟨p,hp⟩:=hp
  exact fin2 p hp
end
section
open Go Go.RowKit Go.ChangeShapes Go.WideShapes Go.Deep
instance:Reads Tryz.prog 9 ByteArray:=⟨fun {H enc w n cs x} h=>by
  obtain ⟨z0,e0,_,q0⟩:=DataW.trod_string Tryz.underlying9 h
  exact ⟨z0,e0,by simpa [maxLen] using q0⟩⟩
theorem lawOSame {w:World} {v0:Value} {a0:Tsk} (h0:V w v0 a0) {v1:Value} {a1:List Swp} (h1:V w v1 a1) {v2:Value} {a2:ByteArray} (h2:V w v2 a2):Fn Tryz.prog 7 [v0,v1,v2] w fun v w'=>v=.bool true∧Ext w w':=by
  obtain ⟨rfl,r2⟩:=Vb.str h2
  exact (Iy (fun _ h=>h) h0 h1 r2 (OO a0 a1 a2)).mono fun _ _ h=>⟨h.2.bool,h.1⟩
set_option maxRecDepth 100000 in
theorem Jk (os:Os) (started:os.Started) (H:Type) (enc:TypeId×Value→H) :
    ReturnsInHanded {} Tryz.checked os 7 .any (Rows.orbitSameSpec.pre6 enc Tryz.prog Tryz.f7 Rows.orbitSameRow.domain false) (Rows.orbitSameSpec.post enc Tryz.prog Tryz.f7 false true false false):=by
  refine returnsInHanded_of_change (C:=Tryz.checked) ownTry started (by kernel_rfl) Tryz.func7 (ChangeSpec.witness6 (enc:=enc) (C:=Tryz.checked) false ⟨#[],#[(.agg #[.slice none 0 0,.slice none 0 0,.slice none 0 0,.slice none 0 0]),(.slice none 0 0),(.string ⟨#[]⟩)],[]⟩ 8 (by kernel_rfl) (by kernel_rfl) (by kernel_rfl) (by kernel_rfl)) ?_
  intro W base args ds gs before hval hW _ _
  have hopen:∀ p,DataW.TrodAll enc Tryz.prog W 0 (fun _=>true) true Tryz.f7.params.toList args.toList ds p→∃ v0 v1 v2 d0 d1 d2,args=#[v0,v1,v2]∧ds=[d0,d1,d2]∧(∃ a:Tsk,V W v0 a)∧(∃ a:List Swp,V W v1 a)∧(∃ a:ByteArray,V W v2 a):=by
    intro p hA
    rw [Tryz.params7] at hA
    replace hval:∀ (j:Nat) t v,(#[26,27,9]:Array TypeId)[j]?=some t→args[j]?=some v→Value.okWide Tryz.prog W .any base t v:=by rw [← Tryz.params7];exact hval
    obtain ⟨v0,vs0,d0,ds0,p0,q0,g0,e0,_,h0,r0⟩:=trodAll_cons hA
    obtain ⟨v1,vs1,d1,ds1,p1,q1,g1,e1,_,h1,r1⟩:=trodAll_cons r0
    obtain ⟨v2,vs2,d2,ds2,p2,q2,g2,e2,_,h2,r2⟩:=trodAll_cons r1
    obtain ⟨g,e,_⟩:=trodAll_nil r2
    rw [g] at g2;rw [e] at e2
    rw [g2] at g1;rw [e2] at e1
    rw [g1] at g0;rw [e1] at e0
    obtain rfl:args=#[v0,v1,v2]:=by cases args;simp_all
    exact ⟨v0,v1,v2,d0,d1,d2,rfl,e0,(by first|exact openAgg rfl (hval 0 26 v0 rfl rfl) h0|exact openOne rfl (hval 0 26 v0 rfl rfl) h0),(by first|exact openAgg rfl (hval 1 27 v1 rfl rfl) h1|exact openOne rfl (hval 1 27 v1 rfl rfl) h1),(by first|exact openAgg rfl (hval 2 9 v2 rfl rfl) h2|exact openOne rfl (hval 2 9 v2 rfl rfl) h2)⟩
  refine lawPost rfl (by kernel_rfl) (by rw [Tryz.params7];exact of_decide_eq_true (by kernel_rfl)) hW ?_ ?_
  · intro p hA
    obtain ⟨v0,v1,v2,d0,d1,d2,_,rfl,_⟩:=hopen p hA
    rfl
  · intro p hA
    obtain ⟨v0,v1,v2,d0,d1,d2,rfl,_,⟨a0,h0⟩,⟨a1,h1⟩,⟨a2,h2⟩⟩:=hopen p hA
    exact lawOSame h0 h1 h2
theorem orbitSame_holds:Rows.OrbitSameSaid :=
  OpenClaim.holds_of_wide 7 Tryz.f7 rfl rfl rfl rfl rfl rfl rfl ⟨rfl,rfl,rfl,rfl,rfl⟩ rfl rfl rfl rfl rfl (by kernel_rfl) Tryz.func7 (by kernel_rfl)
    (of_decide_eq_true (by kernel_rfl)) (by unfold Func.isWrapper;first|(rw [if_pos (by decide +kernel)];kernel_rfl)|(rw [if_neg (by decide +kernel)];exact ⟨rfl,rfl⟩))
    (fun os started H enc _=>Jk os started H enc)
#print axioms orbitSame_holds
end
end Go.Proofs.YtecegaabajeolaaGreat

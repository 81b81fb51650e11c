/- CompileLaunches returns true for every temporal task and every list of numbers, and these read behind the call as before. No conditions. -/
import Derived.Test.YtjohlgjklmagnaaGreatDoorCLF
import Derived.Test.YtjohlgjklmagnaaGreatDoorRows
set_option linter.unusedVariables false
set_option linter.unusedSimpArgs false
namespace Go.Proofs.YtjohlgjklmagnaaGreatDoor
open Go Go.RowKit
section
open Go Go.RowKit
abbrev srtU (l:List Lch):List Lch:=AU l
theorem QP {x y:Lch} (h1:¬ lexU y x) (h2:¬ lexU x y):x=y:=by
  unfold lexU at *
  obtain ⟨a,b⟩:=x
  obtain ⟨c,d⟩:=y
  simp only at *
  have e1:a=c:=by omega
  have e2:b=d:=by omega
  rw [e1,e2]
theorem PB {a b:List Lch} (h:a.Perm b) (hb:b.Pairwise fun x y=>¬ lexU y x):srtU a=b :=
  List.Perm.eq_of_pairwise (le:=fun x y=>¬ lexU y x) (fun _ _ _ _ h1 h2=>QP h1 h2) (IT a) hb ((Gg a).trans h)
theorem QQ (a:List Lch):srtU (srtU a)=srtU a:=PB (.refl _) (IT a)
theorem QR {l:List Lch} (h:l.length≤1000000):Ee l=some (srtU l):=if_pos (by omega)
structure InsI (l₀:List Lch) (m:Nat) (s:List Lch×Int):Prop where
  perm:s.1.Perm l₀
  pos:∃ k:Nat,s.2=(k:Int)∧k≤m∧m < s.1.length∧(∀ (i j:Nat) a b,i < j→j≤m→i≠k→j≠k→s.1[i]?=some a→s.1[j]?=some b→¬ lexU b a)∧(∀ (j:Nat) a b,k < j→j≤m→s.1[k]?=some a→s.1[j]?=some b→¬ lexU b a)
theorem PZ {x y z:Lch} (h1:¬ lexU y x) (h2:¬ lexU z y):¬ lexU z x:=by unfold lexU at *;omega
theorem Tb {x y:Lch} (h:lexU x y):¬ lexU y x:=by unfold lexU at *;omega
theorem QS {l:List Lch} {k:Nat} {a b:Lch} (ha:l[k + 1]?=some a) (hb:l[k]?=some b):((l.set (k + 1) b).set k a).Perm l:=by
  have h1:=BA ha
  obtain ⟨_,e1⟩:=List.getElem?_eq_some_iff.1 ha
  obtain ⟨_,e2⟩:=List.getElem?_eq_some_iff.1 hb
  have hl:l=l.take k ++ (b :: a :: l.drop (k + 2)):=by
    rw [← e1,← e2]
    rw [List.getElem_cons_drop,List.getElem_cons_drop,List.take_append_drop]
  have hs:(l.set (k + 1) b).set k a=l.take k ++ (a :: b :: l.drop (k + 2)):=by
    have hk:(l.take k).length=k:=by rw [List.length_take];omega
    conv=>lhs;rw [hl]
    rw [List.set_append_right _ _ (by omega),hk,show k + 1 - k=1 from by omega,List.set_append_right _ _ (by omega),hk,Nat.sub_self]
    rfl
  rw [hs]
  conv=>rhs;rw [hl]
  exact List.Perm.append_left _ (List.Perm.swap _ _ _)
theorem RS {l₀:List Lch} (hl:l₀.length≤1000000) {ρ:Type} {m:Nat} (s:List Lch×Int) (hI:InsI l₀ m s):∃ s':List Lch×Int,lop (ρ:=ρ) (fun (s48:(List Lch)×Int)=>bnd (if 0 < s48.2 then (bnd (atI s48.1 s48.2) fun a72=>bnd (chkI (s48.2 - 1)) fun n85=>bnd (atI s48.1 n85) fun a88=>if a72.tm < a88.tm then (some true) else (bnd (atI s48.1 s48.2) fun a102=>bnd (chkI (s48.2 - 1)) fun n115=>bnd (atI s48.1 n115) fun a118=>if a102.tm=a118.tm then (bnd (atI s48.1 s48.2) fun a132=>bnd (chkI (s48.2 - 1)) fun n145=>bnd (atI s48.1 n145) fun a148=>if a132.job < a148.job then (some true) else (some false)) else (some false))) else (some false):Option Bool) fun y67=>if y67=true then (bnd (chkI (s48.2 - 1)) fun n167=>bnd (atI s48.1 n167) fun a170=>bnd (atI s48.1 s48.2) fun a183=>bnd (atI s48.1 s48.2) fun a196=>bnd (chkI (s48.2 - 1)) fun n209=>bnd (atI (s48.1.set (s48.2:Int).toNat a170) n209) fun a214=>bnd (chkI (s48.2 - 1)) fun n229=>some (.next (((s48.1.set (s48.2:Int).toNat a170).set (n209:Int).toNat a183),n229))) else (some (.brk (s48.1,s48.2)))) s=some (.done s')∧s'.1.Perm l₀∧(∀ (i j:Nat) a b,i < j→j≤m→s'.1[i]?=some a→s'.1[j]?=some b→¬ lexU b a):=by
  have := SC (f:=fun (s48:(List Lch)×Int)=>bnd (if 0 < s48.2 then (bnd (atI s48.1 s48.2) fun a72=>bnd (chkI (s48.2 - 1)) fun n85=>bnd (atI s48.1 n85) fun a88=>if a72.tm < a88.tm then (some true) else (bnd (atI s48.1 s48.2) fun a102=>bnd (chkI (s48.2 - 1)) fun n115=>bnd (atI s48.1 n115) fun a118=>if a102.tm=a118.tm then (bnd (atI s48.1 s48.2) fun a132=>bnd (chkI (s48.2 - 1)) fun n145=>bnd (atI s48.1 n145) fun a148=>if a132.job < a148.job then (some true) else (some false)) else (some false))) else (some false):Option Bool) fun y67=>if y67=true then (bnd (chkI (s48.2 - 1)) fun n167=>bnd (atI s48.1 n167) fun a170=>bnd (atI s48.1 s48.2) fun a183=>bnd (atI s48.1 s48.2) fun a196=>bnd (chkI (s48.2 - 1)) fun n209=>bnd (atI (s48.1.set (s48.2:Int).toNat a170) n209) fun a214=>bnd (chkI (s48.2 - 1)) fun n229=>some (.next (ρ:=ρ) (((s48.1.set (s48.2:Int).toNat a170).set (n209:Int).toNat a183),n229))) else (some (.brk (s48.1,s48.2))))
    (I := InsI l₀ m) (B:=fun s'=>s'.1.Perm l₀∧(∀ (i j:Nat) a b,i < j→j≤m→s'.1[i]?=some a→s'.1[j]?=some b→¬ lexU b a)) (R:=fun _=>False) (μ:=fun s=>s.2.toNat) (fun s h=>by
      obtain ⟨l,k'⟩:=s
      obtain ⟨hp,k,rfl,hk,hm,h1,h2⟩:=h
      simp only at hp hm h1 h2
      have hlen:l.length≤1000000:=by rw [hp.length_eq];exact hl
      cases k with
      | zero =>
        refine .inr (.inl ⟨(l,0),by simp only;rw [if_neg (by simp)];rfl,hp,fun i j a b hij hj ha hb=>?_⟩)
        by_cases hi:i=0
        · subst hi;exact h2 j a b hij hj ha hb
        · exact h1 i j a b hij hj hi (by omega) ha hb
      | succ k =>
        obtain ⟨a,ha⟩:=Bt (l:=l) (k:=k + 1) (by omega)
        obtain ⟨b,hb⟩:=Bt (l:=l) (k:=k) (by omega)
        have g1:atI l ((k + 1:Nat):Int)=some a:=by rw [Ha];exact ha
        have g0:chkI (((k + 1:Nat):Int) - 1)=some (k:Int):=by rw [Cm (by unfold inI64;omega)];congr 1;omega
        have g2:atI l (k:Int)=some b:=by rw [Ha];exact hb
        have key:(if 0 < ((k + 1:Nat):Int) then (bnd (atI l ((k + 1:Nat):Int)) fun a72=>bnd (chkI (((k + 1:Nat):Int) - 1)) fun n85=>bnd (atI l n85) fun a88=>if a72.tm < a88.tm then (some true) else (bnd (atI l ((k + 1:Nat):Int)) fun a102=>bnd (chkI (((k + 1:Nat):Int) - 1)) fun n115=>bnd (atI l n115) fun a118=>if a102.tm=a118.tm then (bnd (atI l ((k + 1:Nat):Int)) fun a132=>bnd (chkI (((k + 1:Nat):Int) - 1)) fun n145=>bnd (atI l n145) fun a148=>if a132.job < a148.job then (some true) else (some false)) else (some false))) else (some false):Option Bool)=some (decide (lexU a b)):=by
          rw [if_pos (by omega)]
          simp only [g1,g0,g2,Ak]
          by_cases c1:a.tm < b.tm
          · rw [if_pos c1,decide_eq_true (show lexU a b from .inl c1)]
          · rw [if_neg c1]
            by_cases c2:a.tm=b.tm
            · rw [if_pos c2]
              by_cases c3:a.job < b.job
              · rw [if_pos c3,decide_eq_true (show lexU a b from .inr ⟨c2,c3⟩)]
              · rw [if_neg c3,decide_eq_false (show ¬ lexU a b by unfold lexU;omega)]
            · rw [if_neg c2,decide_eq_false (show ¬ lexU a b by unfold lexU;omega)]
        simp only
        rw [key,Ak]
        by_cases hab:lexU a b
        · rw [decide_eq_true hab,if_pos rfl]
          have g3:atI (l.set (k + 1) b) (k:Int)=some b:=by rw [Ha,List.getElem?_set_ne (by omega)];exact hb
          refine .inl ⟨((l.set (k + 1) b).set k a,(k:Int)),by simp only [g0,g1,g2,Ak,Int.toNat_natCast,g3],⟨(QS ha hb).trans hp,k,rfl,by omega,by simp;omega,?_,?_⟩,by simp⟩
          · intro i j x y hij hj hik hjk hx hy
            simp only at hx hy
            rw [List.getElem?_set_ne (Ne.symm hik)] at hx
            rw [List.getElem?_set_ne (Ne.symm hjk)] at hy
            by_cases hi1:i=k + 1
            · subst hi1
              rw [List.getElem?_set_self (by omega)] at hx
              rw [List.getElem?_set_ne (by omega)] at hy
              cases hx
              exact h1 k j b y (by omega) hj (by omega) (by omega) hb hy
            · rw [List.getElem?_set_ne (Ne.symm hi1)] at hx
              by_cases hj1:j=k + 1
              · subst hj1
                rw [List.getElem?_set_self (by omega)] at hy
                cases hy
                exact h1 i k x b (by omega) (by omega) hi1 (by omega) hx hb
              · rw [List.getElem?_set_ne (Ne.symm hj1)] at hy
                exact h1 i j x y hij hj hi1 hj1 hx hy
          · intro j x y hkj hj hx hy
            simp only at hx hy
            rw [List.getElem?_set_self (by simp;omega)] at hx
            rw [List.getElem?_set_ne (by omega)] at hy
            cases hx
            by_cases hj1:j=k + 1
            · subst hj1
              rw [List.getElem?_set_self (by omega)] at hy
              cases hy
              exact Tb hab
            · rw [List.getElem?_set_ne (Ne.symm hj1)] at hy
              exact h2 j a y (by omega) hj ha hy
        · rw [decide_eq_false hab,if_neg (by decide)]
          refine .inr (.inl ⟨(l,((k + 1:Nat):Int)),rfl,hp,fun i j x y hij hj hx hy=>?_⟩)
          simp only at hx hy
          by_cases hi1:i=k + 1
          · subst hi1;exact h2 j x y hij hj hx hy
          · by_cases hj1:j=k + 1
            · subst hj1
              rw [ha] at hy;cases hy
              by_cases hik:i=k
              · subst hik;rw [hb] at hx;cases hx;exact hab
              · exact PZ (h1 i k x b (by omega) (by omega) hi1 (by omega) hx hb) hab
            · exact h1 i j x y hij hj hi1 hj1 hx hy) s hI
  rcases this with ⟨s',h1,h2⟩|⟨_,_,h⟩
  · exact ⟨s',h1,h2⟩
  · exact h.elim
theorem QT {l:List Lch} (hl:l.length≤1000000):Fm l=some (srtU l):=by
  unfold Fm
  rw [Bv (by simp;omega) (by simp;omega),Ak,List.nil_append]
  unfold rngN
  refine SD (I:=fun m (s:List Lch)=>s.Perm l∧∀ (i j:Nat) a b,i < j→j < m→s[i]?=some a→s[j]?=some b→¬ lexU b a) ⟨.refl _,fun i j a b h1 h2=>by omega⟩ (fun m x s hx ⟨h1,h2⟩=>?_) fun s ⟨h1,h2⟩=>?_
  · have hm:m < l.length:=by have:=BA hx;simpa using this
    have hxm:x=m:=by
      obtain ⟨_,e⟩:=List.getElem?_eq_some_iff.1 hx
      simpa using e.symm
    subst hxm
    obtain ⟨s',g1,g2,g3⟩:=RS (ρ:=Ctl (List Lch) (List Lch)) hl (m:=x) (s,(x:Int)) ⟨h1,x,rfl,Nat.le_refl _,by rw [h1.length_eq];exact hm,fun i j a b hij hj _ hjk ha hb=>h2 i j a b hij (by omega) ha hb,fun j a b h3 h4=>by omega⟩
    refine ⟨s'.1,?_,g2,fun i j a b hij hj ha hb=>g3 i j a b hij (by omega) ha hb⟩
    dsimp only
    rw [g1,Ak,CA]
  · rw [CA]
    congr 1
    refine (PB h1.symm ?_).symm
    rw [List.pairwise_iff_getElem]
    intro i j hi hj hij
    exact h2 i j _ _ hij (by have:=h1.length_eq;simp;omega) (List.getElem?_eq_getElem hi) (List.getElem?_eq_getElem hj)
end
section
open Go Go.RowKit
def lchL (n2 la:Int):Int→List Int→List Lch
  | _,[]=>[]
  | now,op :: p=>if op < n2∧op % 2=0 then ⟨now,op / 2⟩ :: lchL n2 la now p else if op=la then lchL n2 la (now + 1) p else lchL n2 la now p
def nowL (n2 la:Int):Int→List Int→Int
  | now,[]=>now
  | now,op :: p=>if op < n2∧op % 2=0 then nowL n2 la now p else if op=la then nowL n2 la (now + 1) p else nowL n2 la now p
section
variable {n2 la now op : Int} {p : List Int}
theorem lchS (h:op < n2∧op % 2=0):lchL n2 la now (op :: p)=⟨now,op / 2⟩ :: lchL n2 la now p∧nowL n2 la now (op :: p)=nowL n2 la now p:=⟨by rw [lchL,if_pos h],by rw [nowL,if_pos h]⟩
theorem lchA (h:¬ (op < n2∧op % 2=0)) (e:op=la):lchL n2 la now (op :: p)=lchL n2 la (now + 1) p∧nowL n2 la now (op :: p)=nowL n2 la (now + 1) p:=⟨by rw [lchL,if_neg h,if_pos e],by rw [nowL,if_neg h,if_pos e]⟩
theorem lchN (h:¬ (op < n2∧op % 2=0)) (e:op≠la):lchL n2 la now (op :: p)=lchL n2 la now p∧nowL n2 la now (op :: p)=nowL n2 la now p:=⟨by rw [lchL,if_neg h,if_neg e],by rw [nowL,if_neg h,if_neg e]⟩
end
theorem Iw (n2 la:Int):∀ (p q:List Int) (now:Int),lchL n2 la now (p ++ q)=lchL n2 la now p ++ lchL n2 la (nowL n2 la now p) q
  | [],_,_=>rfl
  | op :: p,q,now=>by
    rw [List.cons_append,lchL,lchL,nowL]
    split
    · rw [Iw,List.cons_append]
    · split<;>rw [Iw]
theorem LY (n2 la:Int):∀ (p q:List Int) (now:Int),nowL n2 la now (p ++ q)=nowL n2 la (nowL n2 la now p) q
  | [],_,_=>rfl
  | op :: p,q,now=>by
    rw [List.cons_append,nowL,nowL]
    split
    · rw [LY]
    · split<;>rw [LY]
theorem Ix (n2 la:Int):∀ (p:List Int) (now:Int),(lchL n2 la now p).length≤p.length
  | [],_=>Nat.le_refl _
  | op :: p,now=>by
    rw [lchL]
    split
    · have:=Ix n2 la p now;simp;omega
    · split
      · have:=Ix n2 la p (now + 1);simp;omega
      · have:=Ix n2 la p now;simp;omega
section
variable {t : Tpl} {u : Tsk}
def lchF {ρ:Type} (t:Tpl) (u:Tsk):Nat→Int→(List Lch)×Int→Option (Ctl ((List Lch)×Int) ρ):=fun (k88:Nat) (a89:Int) (s86:(List Lch)×Int)=>bnd (bnd (chkI (2 * (t.jobs.length:Int))) fun n119=>if a89 < n119 then (bnd (remI a89 2) fun n123=>if n123=0 then (some true) else (some false)) else (some false):Option Bool) fun y113=>if y113=true then (bnd (quoI a89 2) fun n132=>bnd (appI 16 s86.1 [(⟨s86.2,n132⟩:Lch)]) fun u135=>some (.next (u135,s86.2))) else (bnd (chkI ((u.ops.length:Int) - 1)) fun n149=>if a89=n149 then (bnd (chkI (s86.2 + 1)) fun n153=>some (.next (s86.1,n153))) else (some (.next (s86.1,s86.2))))
theorem Tc {ρ:Type} (hj:t.jobs.length≤30) (hu:u.ops.length≤4096) (k:Nat) {op:Int} (h0:0≤op) {acc:List Lch} {now:Int} (hn:0≤now) (hb:now≤1000000) (ha:acc.length≤1000000) :
    lchF (ρ:=ρ) t u k op (acc,now)=some (.next (if op < 2 * (t.jobs.length:Int)∧op % 2=0 then (acc ++ [⟨now,op / 2⟩],now) else if op=(u.ops.length:Int) - 1 then (acc,now + 1) else (acc,now))):=by
  unfold lchF
  rw [Cm (by unfold inI64;omega),Ak,Sl h0 (by omega),Ak,Sn h0 (by omega),Ak]
  by_cases h1:op < 2 * (t.jobs.length:Int)
  · rw [if_pos h1]
    by_cases h2:op % 2=0
    · rw [if_pos h2,Ak,if_pos rfl,if_pos ⟨h1,h2⟩]
      dsimp only
      rw [Bv (by simp;omega) (by simp;omega),Ak]
    · rw [if_neg h2,Ak,if_neg (by decide),Cm (by unfold inI64;omega),Ak,if_neg (fun h:op < 2 * (t.jobs.length:Int)∧op % 2=0=>h2 h.2)]
      dsimp only
      by_cases h3:op=(u.ops.length:Int) - 1
      · rw [if_pos h3,if_pos h3,Cm (by unfold inI64;omega),Ak]
      · rw [if_neg h3,if_neg h3]
  · rw [if_neg h1,Ak,if_neg (by decide),Cm (by unfold inI64;omega),Ak,if_neg (fun h:op < 2 * (t.jobs.length:Int)∧op % 2=0=>h1 h.1)]
    dsimp only
    by_cases h3:op=(u.ops.length:Int) - 1
    · rw [if_pos h3,if_pos h3,Cm (by unfold inI64;omega),Ak]
    · rw [if_neg h3,if_neg h3]
theorem JY {ρ:Type} (hj:t.jobs.length≤30) (hu:u.ops.length≤4096):∀ (p:List Int) (j:Nat) (acc:List Lch) (now:Int),(∀ op∈p,0≤op)→0≤now→now + p.length≤1000000→acc.length + p.length≤1000000 →
    rng (lchF (ρ:=ρ) t u) p j (acc,now)=some (.done (acc ++ lchL (2 * (t.jobs.length:Int)) ((u.ops.length:Int) - 1) now p,nowL (2 * (t.jobs.length:Int)) ((u.ops.length:Int) - 1) now p))
  | [],j,acc,now,_,_,_,_=>by rw [rng,lchL,nowL,List.append_nil]
  | op :: p,j,acc,now,h,hn,hb,ha=>by
    have h0:=h op List.mem_cons_self
    have hp:=fun o ho=>h o (List.mem_cons_of_mem op ho)
    simp only [List.length_cons] at hb ha
    rw [rng,Tc hj hu j h0 hn (by omega) (by omega),lchL,nowL]
    by_cases h1:op < 2 * (t.jobs.length:Int)∧op % 2=0
    · rw [if_pos h1,if_pos h1,if_pos h1]
      dsimp only
      rw [JY hj hu p (j + 1) _ now hp hn (by omega) (by simp;omega)]
      simp
    · rw [if_neg h1,if_neg h1,if_neg h1]
      by_cases h3:op=(u.ops.length:Int) - 1
      · rw [if_pos h3,if_pos h3,if_pos h3]
        dsimp only
        rw [JY hj hu p (j + 1) acc (now + 1) hp (by omega) (by omega) (by omega)]
      · rw [if_neg h3,if_neg h3,if_neg h3]
        dsimp only
        rw [JY hj hu p (j + 1) acc now hp hn (by omega) (by omega)]
theorem ND {t:Tsk} (h:TaskOk t):∀ (plan:List Int) (j:Nat) (s:List Int) (c:Int),StateOk t.vars s→0≤c→c + plan.length * 1048576≤1000000000000000 →
    (∃ s' C,rng (ρ:=(List Int)×Int×Err) (fun (_:Nat) (a63:Int) (s60:(List Int)×Int)=>bnd (DG t s60.1 a63) fun q87=>if q87.2.n≠0 then (some (.ret (([]:List Int),0,(⟨q87.2.n⟩:Err)))) else (bnd (atI t.ops a63) fun a102=>bnd (chkI (s60.2 + a102.cost)) fun n123=>some (.next (q87.1,n123)))) plan j (s,c)=some (.done (s',c + C))∧PlanR t s plan s' C) ∨
    ∃ n:Int,n≠0∧rng (ρ:=(List Int)×Int×Err) (fun (_:Nat) (a63:Int) (s60:(List Int)×Int)=>bnd (DG t s60.1 a63) fun q87=>if q87.2.n≠0 then (some (.ret (([]:List Int),0,(⟨q87.2.n⟩:Err)))) else (bnd (atI t.ops a63) fun a102=>bnd (chkI (s60.2 + a102.cost)) fun n123=>some (.next (q87.1,n123)))) plan j (s,c)=some (.ret ([],0,⟨n⟩))
  | [],j,s,c,_,_,_=>.inl ⟨s,0,by simp [rng],.nil⟩
  | op :: plan,j,s,c,hs,hc,hb=>by
    simp only [List.length_cons] at hb
    rcases tapply h hs op with ⟨k,o,rfl,ho,hp,e⟩|⟨n,hn,e⟩
    · have hoo:=h.2.2.2.2.2 k o ho
      have h1:=hoo.1
      have h2:=hoo.2.1
      have e2:(bnd (DG t s (k:Int)) fun q87=>if q87.2.n≠0 then (some (.ret (([]:List Int),0,(⟨q87.2.n⟩:Err)))) else (bnd (atI t.ops (k:Int)) fun a102=>bnd (chkI (c + a102.cost)) fun n123=>some (.next (q87.1,n123))):Option (Ctl (List Int×Int) (List Int×Int×Err)))=some (.next (Go.Proofs.YtjohlgjklmagnaaGreatDoor.succ o s,c + o.cost)):=by
        rw [e,Ak,if_neg (by simp),Ha,ho,Ak,Cm (by unfold inI64;omega),Ak]
      rcases ND h plan (j + 1) (Go.Proofs.YtjohlgjklmagnaaGreatDoor.succ o s) (c + o.cost) (Pe h hs ho) (by omega) (by omega) with ⟨s',C,g1,g2⟩|⟨n,hn,g1⟩
      · refine .inl ⟨s',o.cost + C,?_,.cons ho hp g2⟩
        simp only [rng,e2]
        rw [g1,Int.add_assoc]
      · refine .inr ⟨n,hn,?_⟩
        simp only [rng,e2]
        rw [g1]
    · refine .inr ⟨n,hn,?_⟩
      simp only [rng]
      rw [e,Ak,if_pos hn]
theorem Td {t:Tsk} (h:TaskOk t) {plan:List Int} (hl:plan.length≤60000):(∃ s' C,PlanR t t.init plan s' C∧EI t t.init plan=some (s',C,⟨0⟩))∨∃ (n:Int),n≠0∧EI t t.init plan=some ([],0,⟨n⟩):=by
  unfold EI EP Dp
  have hs:=h.2.2.2.1
  have hc:BD t.init=some t.init:=if_pos ⟨by have:=hs.1;have:=h.1;omega,by have:=hs.1;have:=h.1;omega⟩
  rw [Ak,if_neg (by rw [Im.2 h];simp),Ak,DD hs,Gs,if_neg (by omega),hc,Ak]
  rcases ND h plan 0 t.init 0 hs (by omega) (by omega) with ⟨s',C,g1,g2⟩|⟨n,hn,g1⟩
  · rw [g1,Ak,CA]
    refine .inl ⟨s',C,g2,?_⟩
    rw [Int.zero_add]
  · exact .inr ⟨n,hn,by rw [g1,Ak];rfl⟩
theorem RT {t:Tsk} (h:TaskOk t) {s plan s':List Int} {C:Int} (hs:StateOk t.vars s) (hr:PlanR t s plan s' C) (hl:plan.length≤60000):Gy t s plan=some (C,holdsB t.goal s'):=by
  unfold Gy
  rw [Qx h hr 0 0 hs (by omega) (by omega),Ak,CA,JF,Ak,Int.zero_add]
  cases holdsB t.goal s'<;>rfl
theorem RU {t:Tsk} {s p s':List Int} {C:Int} (h:PlanR t s p s' C):∀ op∈p,0≤op:=by
  induction h with
  | nil=>intro op h;cases h
  | cons _ _ _ ih =>
    intro op ho
    rcases List.mem_cons.1 ho with rfl|ho
    · omega
    · exact ih op ho
theorem OW (h0:tck t=0) (hnm:∀ j∈t.jobs,j.name.size≤300) (hc:checkN (cTask t)=0) {plan:List Int} (hl:plan.length≤60000) :
    (∃ s' C,PlanR (cTask t) (cTask t).init plan s' C∧EI (cTask t) (cTask t).init plan=some (s',C,⟨0⟩)∧CK t plan=some (srtU (lchL (2 * (t.jobs.length:Int)) (((cTask t).ops.length:Int) - 1) 0 plan),⟨0⟩)) ∨
    ∃ n:Int,n≠0∧EI (cTask t) (cTask t).init plan=some ([],0,⟨n⟩)∧CK t plan=some ([],⟨n⟩):=by
  have hok:=Im.1 hc
  have ht:=Mt h0
  have hj:=ht.nj
  unfold CK
  rw [MH h0 hnm,if_neg (by simpa using hc),Ak]
  dsimp only
  rw [if_neg (by simp)]
  rcases Td hok hl with ⟨s',C,g1,g2⟩|⟨n,hn,g1⟩
  · refine .inl ⟨s',C,g1,g2,?_⟩
    rw [g2,Ak]
    dsimp only
    rw [if_neg (by simp)]
    have hL:=JY (ρ:=(List Lch)×Err) (t:=t) (u:=cTask t) (by omega) hok.2.1 plan 0 [] 0 (RU g1) (by omega) (by omega) (by simp;omega)
    unfold lchF at hL
    rw [hL,Ak,CA]
    dsimp only
    rw [List.nil_append,QR (by have:=Ix (2 * (t.jobs.length:Int)) (((cTask t).ops.length:Int) - 1) plan 0;omega),Ak]
  · refine .inr ⟨n,hn,g1,?_⟩
    rw [g1,Ak]
    dsimp only
    rw [if_pos hn]
def lst (t:Tpl):Int:=((wNo t t.jobs.length:Nat):Int)
theorem TQ {h:Hh} (hi:h.1 < t.jobs.length):hNoI h < 2 * (t.jobs.length:Int):=by
  unfold hNoI hNo;split<;>omega
theorem QU:2 * (t.jobs.length:Int) < lst t:=by unfold lst wNo;omega
theorem KS:∀ (b:List Hh) (now:Nat),(∀ h∈b,h.1 < t.jobs.length)→lchL (2 * (t.jobs.length:Int)) (lst t) (now:Int) (b.map hNoI)=(b.filter fun h=>!h.2).map (fun h=>(⟨(now:Int),(h.1:Int)⟩:Lch))∧nowL (2 * (t.jobs.length:Int)) (lst t) (now:Int) (b.map hNoI)=(now:Int)
  | [],now,_=>⟨rfl,rfl⟩
  | h :: b,now,hb=>by
    obtain ⟨i1,i2⟩:=KS b now fun g hg=>hb g (List.mem_cons_of_mem _ hg)
    have hlt:=TQ (hb h List.mem_cons_self)
    have hge:=QU (t:=t)
    rw [List.map_cons,List.filter_cons]
    obtain ⟨i,e⟩:=h
    cases e
    · have e1:hNoI (i,false) % 2=0:=by unfold hNoI hNo;simp
      have e2:hNoI (i,false) / 2=(i:Int):=by unfold hNoI hNo;simp
      obtain ⟨g1,g2⟩:=lchS (la:=lst t) (now:=(now:Int)) (p:=b.map hNoI) ⟨hlt,e1⟩
      rw [g1,g2,i1,i2,e2]
      exact ⟨rfl,rfl⟩
    · have e1:¬ hNoI (i,true) % 2=0:=by unfold hNoI hNo;simp
      obtain ⟨g1,g2⟩:=lchN (la:=lst t) (now:=(now:Int)) (p:=b.map hNoI) (fun h:hNoI (i,true) < 2 * (t.jobs.length:Int)∧_=>e1 h.2) (by omega)
      rw [g1,g2,i1,i2]
      exact ⟨rfl,rfl⟩
theorem OM {n2 la:Int}:∀ {p:List Int} {now:Int},(∀ op∈p,n2≤op∧op≠la)→lchL n2 la now p=[]∧nowL n2 la now p=now
  | [],_,_=>⟨rfl,rfl⟩
  | op :: p,now,h=>by
    obtain ⟨h1,h2⟩:=h op List.mem_cons_self
    obtain ⟨i1,i2⟩:=OM (now:=now) fun o ho=>h o (List.mem_cons_of_mem op ho)
    obtain ⟨g1,g2⟩:=lchN (la:=la) (now:=now) (p:=p) (fun h:op < n2∧op % 2=0=>by omega) h2
    rw [g1,g2]
    exact ⟨i1,i2⟩
theorem QV {s:List Int} {q:Nat→Int} (hp:Pass t s q) (now:Int):lchL (2 * (t.jobs.length:Int)) (lst t) now (passP t q)=[]∧nowL (2 * (t.jobs.length:Int)) (lst t) now (passP t q)=now + 1:=by
  have hge:=QU (t:=t)
  unfold passP
  have hw:∀ op∈waitsP t q 0 t.jobs.length,2 * (t.jobs.length:Int)≤op∧op≠lst t:=fun op ho=>by
    unfold waitsP at ho
    obtain ⟨i,hi,rfl⟩:=List.mem_map.1 ho
    have hi:i < t.jobs.length:=by have:=List.mem_range'.1 hi;omega
    obtain ⟨h1,h2,_⟩:=hp.2 i hi
    have h3:=Mv t (a:=i + 1) (b:=t.jobs.length) (by omega)
    rw [HH] at h3
    unfold lst wNo
    constructor<;>omega
  obtain ⟨w1,w2⟩:=OM (now:=now) hw
  have hl:((wNo t t.jobs.length:Nat):Int)=lst t:=rfl
  obtain ⟨g1,g2⟩:=lchN (n2:=2 * (t.jobs.length:Int)) (la:=lst t) (now:=now) (op:=((2 * t.jobs.length:Nat):Int)) (p:=waitsP t q 0 t.jobs.length ++ [((wNo t t.jobs.length:Nat):Int)]) (fun h=>by omega) (by omega)
  obtain ⟨k1,k2⟩:=lchA (n2:=2 * (t.jobs.length:Int)) (la:=lst t) (now:=now) (op:=((wNo t t.jobs.length:Nat):Int)) (p:=[]) (fun h=>by omega) hl
  rw [g1,g2,Iw,LY,w1,w2,k1,k2]
  exact ⟨rfl,rfl⟩
theorem Te {s:List Int} {q:Nat→Int} {b:List Hh} {bs:List (List Hh)} {s':List Int} {q':Nat→Int} (h:Trc t s q b bs s' q'):∀ now:Nat,lchL (2 * (t.jobs.length:Int)) (lst t) (now:Int) (pl t q b bs)=lau now (b :: bs):=by
  induction h with
  | @last s q b hb =>
    intro now
    unfold pl plR
    rw [List.append_nil,(KS b now hb.jobs).1]
    simp [lau]
  | @more s q b b' bs s' q' hb hp _ ih =>
    intro now
    obtain ⟨h1,h2⟩:=KS b now hb.jobs
    obtain ⟨p1,p2⟩:=QV hp (now:Int)
    unfold pl
    rw [plR,Iw,h1,h2,Iw,p1,p2,List.nil_append]
    rw [show (now:Int) + 1=((now + 1:Nat):Int) from by omega]
    have:=ih (now + 1)
    unfold pl at this
    rw [this]
    rfl
theorem Qa (h:0 < t.jobs.length):((cTask t).ops.length:Int) - 1=lst t:=by
  unfold cTask lst
  dsimp only
  rw [List.length_map,Ov t h];omega
theorem NE:∀ {bs:List (List Hh)} {τ:Nat},(∀ b∈bs,b.Nodup)→(lau τ bs).Nodup
  | [],_,_=>by simp [lau]
  | b :: bs,τ,h=>by
    rw [lau,List.nodup_append]
    refine ⟨?_,NE fun b' hb'=>h b' (List.mem_cons_of_mem _ hb'),fun x hx y hy e=>?_⟩
    · unfold List.Nodup
      rw [List.pairwise_map]
      refine List.Pairwise.imp_of_mem (fun {a c} ha hc hne e=>?_) (List.Pairwise.filter (fun h=>!h.2) (h b List.mem_cons_self))
      have h1:=(List.mem_filter.1 ha).2
      have h2:=(List.mem_filter.1 hc).2
      obtain ⟨a1,a2⟩:=a
      obtain ⟨c1,c2⟩:=c
      injection e with _ e
      have:a1=c1:=by simp only at e;omega
      subst this
      have e1:a2=false:=by simpa using h1
      have e2:c2=false:=by simpa using h2
      subst e1;subst e2
      exact hne rfl
    · obtain ⟨g,_,rfl⟩:=List.mem_map.1 hx
      have:=QI hy
      rw [← e] at this
      simp only at this
      omega
theorem Trc.blocks {s:List Int} {q:Nat→Int} {b:List Hh} {bs:List (List Hh)} {s':List Int} {q':Nat→Int} (h:Trc t s q b bs s' q'):∀ c∈b :: bs,c.Nodup∧∀ x∈c,x.1 < t.jobs.length:=by
  induction h with
  | @last s q b hb =>
    intro c hc
    have:c=b:=by simpa using hc
    subst this;exact ⟨hb.nodup,hb.jobs⟩
  | more hb _ _ ih =>
    intro c hc
    rcases List.mem_cons.1 hc with rfl|hc
    · exact ⟨hb.nodup,hb.jobs⟩
    · exact ih c hc
end
end
section
open Go Go.RowKit
theorem ON (l:List Lch):(srtU l).length=l.length:=Dw l
theorem Qb (l:List Lch):FJ l l=some true:=by
  unfold FJ
  rw [if_neg (by simp)]
  rw [Ex (fun _=>()) (by rfl) (fun k x hk=>by
    rw [hk,Ak,if_neg (by simp)])]
  rfl
theorem QW (n:Int):Gl ⟨n⟩=some n:=rfl
theorem OX {t:Tpl} (hj:t.jobs.length≤30) (hnm:∀ j∈t.jobs,j.name.size≤300):(tck t=0∧checkN (cTask t)=0∧BT t=some (cTask t,⟨0⟩))∨∃ n:Int,n≠0∧BT t=some (⟨[],[],[],[]⟩,⟨n⟩):=by
  by_cases h0:tck t=0
  · have:=MH h0 hnm
    by_cases hc:checkN (cTask t)=0
    · rw [if_neg (by simpa using hc)] at this
      exact .inl ⟨h0,hc,this⟩
    · rw [if_pos hc] at this
      exact .inr ⟨_,hc,this⟩
  · refine .inr ⟨tck t,h0,?_⟩
    unfold BT
    rw [Kz hj,Ak,if_pos h0]
theorem Qd (t:Tpl) (plan:List Int):DV t plan=some true:=by
  unfold DV
  rw [awake56,Ak,Gs]
  obtain ⟨b,hb,hf⟩:=SW t []
  rw [hb,Ak]
  cases b with
  | false=>rfl
  | true =>
    obtain ⟨f1,f2,_,_,f5⟩:=hf rfl
    rw [Gs]
    by_cases hp:300 < (plan.length:Int)
    · rw [if_pos hp];rfl
    rw [if_neg hp,Ak,IR]
    rcases OX f2 f5 with ⟨h0,hc,h1⟩|⟨n,hn,h1⟩
    · have hok := Im.1 hc
      have ht:=Mt h0
      have hcm:=TP hc
      rw [h1,Ak]
      rcases OW h0 f5 hc (plan:=plan) (by omega) with ⟨s',C,g1,g2,g3⟩|⟨n,hn,g1,g2⟩
      · rw [g3, Ak]
        dsimp only
        rw [if_neg (by simp),g2,Ak]
        dsimp only
        rw [if_neg (by simp),if_neg (by simp)]
        have ll:=Ix (2 * (t.jobs.length:Int)) (((cTask t).ops.length:Int) - 1) plan 0
        have lsr:=ON (lchL (2 * (t.jobs.length:Int)) (((cTask t).ops.length:Int) - 1) 0 plan)
        rw [QT (by omega),Ak,QQ,Qb,Ak,Gs,Ak,IR]
        rw [RT hok hok.2.2.2.1 g1 (by omega),Ak]
        dsimp only
        cases hg:holdsB (cTask t).goal s' with
        | false=>rfl
        | true =>
          rw [Uj]
          -- the run,tick by tick
          have hx:s'[kpos t (5,0)]?=some 0:=by
            have hm:toF t ((5,0),0)∈(cTask t).goal:=by unfold cTask;simp
            have:=(List.all_eq_true.1 hg) _ hm
            unfold hasB toF at this
            rw [Bool.and_eq_true] at this
            simpa using of_decide_eq_true this.2
          have h2:PlanR (cTask t) (Mdt t t.init (fun _=>0) []) plan s' C:=by
            have:=g1
            rw [hcm.init] at this
            exact this
          obtain ⟨b,bs,s0,q0,bl,r1,r2,r3,r4,r5,r6⟩:=SM hcm ht hx plan.length plan (Nat.le_refl _) t.init (fun _=>0) [] C ht.init.1 (HBok.nil _ _) h2
          rw [List.nil_append] at r1 r2
          have hgl:=(Ry (s:=afH t s0 bl) (q:=stA t q0 bl) (hs:=bl) (p:=0) hcm ht (by rw [Gm];exact r5)).1 (by rw [r3] at hg;exact hg)
          have hplan:plan=pl t (fun _=>0) b bs:=r2
          generalize hl:lchL (2 * (t.jobs.length:Int)) (((cTask t).ops.length:Int) - 1) 0 plan=L at *
          have hLe:L=lau 0 (b :: bs):=by
            by_cases hj0:t.jobs.length=0
            · -- without jobs there is nothing
              have hbl:=r1.blocks
              have hall:∀ c∈b :: bs,c=[]:=fun c hc=>by
                cases c with
                | nil=>rfl
                | cons x c=>have:=(hbl _ hc).2 x List.mem_cons_self;omega
              have e1:lau 0 (b :: bs)=[]:=by
                have:∀ (bs:List (List Hh)) (τ:Nat),(∀ c∈bs,c=[])→lau τ bs=[]:=fun bs=>by
                  induction bs with
                  | nil=>intro τ _;rfl
                  | cons c bs ih =>
                    intro τ h
                    rw [lau,ih _ fun c' hc'=>h c' (List.mem_cons_of_mem _ hc'),h c List.mem_cons_self];rfl
                exact this _ _ hall
              have e2:bs=[]:=by
                cases bs with
                | nil=>rfl
                | cons c bs =>
                  cases r1 with
                  | more _ hps _=>have:=hps.1;omega
              have e3:plan=[]:=by
                rw [hplan,e2,hall b List.mem_cons_self];rfl
              rw [e1,← hl,e3];rfl
            · rw [← hl,Qa (by omega),hplan]
              exact Te r1 0
          have hnd:L.Nodup:=by rw [hLe];exact NE fun c hc=>(r1.blocks c hc).1
          have hC : (bs.length:Int)≤300:=by
            have h3:∀ {s p s':List Int} {C:Int},PlanR (cTask t) s p s' C→C≤p.length:=fun {s p s' C} h=>by
              induction h with
              | nil=>simp
              | @cons s rest s' k o C ho _ _ ih =>
                have:o.cost≤1:=by
                  obtain ⟨ko,hko⟩:=Bt (l:=opsK t) (k:=k) (by rw [← hcm.len];exact BA ho)
                  obtain ⟨p,p1,p2,_⟩:=hcm.ops k ko hko
                  rw [ho] at p1;cases p1
                  rw [p2]
                  rcases Lb (t:=t) (p:=k) (BA hko) with ⟨h,hi,rfl⟩|⟨hz,rfl|⟨i,k',hi,hk,rfl⟩|rfl⟩
                  · rw [KZ hi] at hko;cases hko;exact (by decide:(0:Int)≤1)
                  · rw [JM hz] at hko;cases hko;exact (by decide:(0:Int)≤1)
                  · rw [JN hi hk] at hko;cases hko;exact (by decide:(0:Int)≤1)
                  · rw [La hz] at hko;cases hko;exact (by decide:(1:Int)≤1)
                simp only [List.length_cons];omega
            have:=h3 g1
            omega
          have hlin:LIn t (srtU L):=fun x hx=>by
            have hx:x∈lau 0 (b :: bs):=by rw [← hLe];exact (Gg L).mem_iff.1 hx
            obtain ⟨k,c,i,c1,c2,rfl⟩:=GX.1 hx
            have hk:=BA c1
            have:=(r1.blocks c (List.mem_of_getElem? c1)).2 _ c2
            simp only [List.length_cons] at hk this
            simp only
            omega
          obtain ⟨v1,v2⟩:=RB ht hlin.rng ((Gg L).nodup_iff.2 hnd) r1 (fun x=>by rw [← hLe];exact (Gg L).mem_iff) hgl.2.1 hgl.1
          obtain ⟨m,e,w1,w2,w3,_⟩:=TI f2 (srtU L)
          have lsl:=ON L
          have he:e=0:=w2.2 ⟨h0,by omega,hlin,v1⟩
          have hm:=w3 he
          subst he
          rw [w1,Ak]
          dsimp only
          have hmC:m≤C:=by
            rw [hm]
            rcases TF t (srtU L) with e|⟨x,hx,e⟩
            · omega
            · have:=v2 x hx;omega
          rw [if_pos rfl,if_pos hmC]
          rfl
      · rw [g2,Ak]
        dsimp only
        rw [if_neg (by simp),g1,Ak]
        dsimp only
        rw [if_pos hn,if_pos (by simp),QW,Ak,Ak,if_pos rfl]
        rfl
    · have h2:CK t plan=some ([],⟨n⟩):=by
        unfold CK
        rw [h1,Ak]
        dsimp only
        rw [if_pos hn]
      rw [h1,Ak,h2,Ak]
      dsimp only
      rw [if_pos hn,if_pos (by simp),QW,Ak,Ak,if_pos rfl]
      rfl
end
section
open Go Go.RowKit Go.ChangeShapes Go.WideShapes Go.Deep
theorem lawCLaunches {w:World} {v0:Value} {a0:Tpl} (h0:V w v0 a0) {v1:Value} {a1:List Int} (h1:V w v1 a1):Fn Tryz.prog 6 [v0,v1] w fun v w'=>v=.bool true∧Ext w w':=by
  exact (Iz (fun _ h=>h) h0 h1 (Qd a0 a1)).mono fun _ _ h=>⟨h.2.bool,h.1⟩
set_option maxRecDepth 100000 in
theorem doorMet (os:Os) (args:Array Value):laidMetH Tryz.prog Rows.compileLaunchesRow.laid ((World.doorLaid Tryz.prog 4000 os).forCall (fun _ _=>0) ⟨#[],args,[]⟩).memory :=
  laidMetH_of_parts3 (fuel:=8) (laidMet_of_run' 8 (by kernel_rfl) (by kernel_rfl)) (by kernel_rfl) (by kernel_rfl)
set_option maxRecDepth 100000 in
theorem IY (os:Os) (started:os.Started) (H:Type) (enc:TypeId×Value→H) :
    ReturnsInHanded {} Tryz.checked os 6 .any (fun w args=>(Rows.compileLaunchesSpec.pre enc Tryz.prog Tryz.f6 Rows.compileLaunchesRow.domain false w args∧laidMetH Tryz.prog Rows.compileLaunchesRow.laid w)∧sizedMet enc Tryz.prog Tryz.f6 (OpenSpec.ofChange Rows.compileLaunchesSpec) false w args) (Rows.compileLaunchesSpec.post enc Tryz.prog Tryz.f6 false true false false):=by
  refine returnsInHanded_of_change_and (C:=Tryz.checked) (X:=fun w _=>laidMetH Tryz.prog Rows.compileLaunchesRow.laid w) (fun _ _ _ hh h=>h.of_heap hh) ownTry started (by kernel_rfl) Tryz.func6 (ChangeSpec.witness_shaped (enc:=enc) (C:=Tryz.checked) (os:=os) (X:=fun w _=>laidMetH Tryz.prog Rows.compileLaunchesRow.laid w) false (World.doorLaid Tryz.prog 4000 os) #[(.agg #[.slice none 0 0,.slice none 0 0,.slice none 0 0,.slice none 0 0]),.slice none 0 0] 8 rfl (World.shaped_of_RefB (by kernel_rfl) (by kernel_rfl)) (by kernel_rfl) (by kernel_rfl) (by kernel_rfl) (doorMet os _)) ?_
  intro W base args ds gs before hval hW _ _ _ _
  have hopen:∀ p,DataW.TrodAll enc Tryz.prog W 0 (fun _=>true) true Tryz.f6.params.toList args.toList ds p→∃ v0 v1 d0 d1,args=#[v0,v1]∧ds=[d0,d1]∧(∃ a:Tpl,V W v0 a)∧(∃ a:List Int,V W v1 a):=by
    intro p hA
    rw [Tryz.params6] at hA
    replace hval:∀ (j:Nat) t v,(#[26,22]:Array TypeId)[j]?=some t→args[j]?=some v→Value.okWide Tryz.prog W .any base t v:=by rw [← Tryz.params6];exact hval
    obtain ⟨v0,vs0,d0,ds0,p0,q0,g0,e0,_,h0,r0⟩:=trodAll_cons hA
    obtain ⟨v1,vs1,d1,ds1,p1,q1,g1,e1,_,h1,r1⟩:=trodAll_cons r0
    obtain ⟨g,e,_⟩:=trodAll_nil r1
    rw [g] at g1;rw [e] at e1
    rw [g1] at g0;rw [e1] at e0
    obtain rfl:args=#[v0,v1]:=by cases args;simp_all
    exact ⟨v0,v1,d0,d1,rfl,e0,(by first|exact openAgg rfl (hval 0 26 v0 rfl rfl) h0|exact openOne rfl (hval 0 26 v0 rfl rfl) h0),(by first|exact openAgg rfl (hval 1 22 v1 rfl rfl) h1|exact openOne rfl (hval 1 22 v1 rfl rfl) h1)⟩
  refine lawPost rfl (by kernel_rfl) (by rw [Tryz.params6];exact of_decide_eq_true (by kernel_rfl)) hW ?_ ?_
  · intro p hA
    obtain ⟨v0,v1,d0,d1,_,rfl,_⟩:=hopen p hA
    rfl
  · intro p hA
    obtain ⟨v0,v1,d0,d1,rfl,_,⟨a0,h0⟩,⟨a1,h1⟩⟩:=hopen p hA
    exact lawCLaunches h0 h1
theorem JZ:Rows.CompileLaunchesSaid :=
  OpenClaim.holds_of_wide 6 Tryz.f6 rfl rfl rfl rfl rfl rfl rfl ⟨rfl,rfl,rfl,rfl,rfl⟩ rfl rfl rfl rfl rfl (by kernel_rfl) Tryz.func6 (by kernel_rfl)
    (of_decide_eq_true (by kernel_rfl)) (by unfold Func.isWrapper;first|(rw [if_pos (by decide +kernel)];kernel_rfl)|(rw [if_neg (by decide +kernel)];exact ⟨rfl,rfl⟩))
    (fun os started H enc _=>IY os started H enc)
theorem compileLaunches_holds:Rows.CompileLaunchesCardSaid :=
  Claim7.holds_tied_plain_at .later [] [.data, .data, .data] true (true, "34bf7b83ccd1ea9b6c8ba645e64f1db955c21e4cca4b8b45735daa4898591402") true
    JZ (fun _ h=>by cases h) (by kernel_rfl) (fun _ h=>by cases h) compileLaunches_row_tie rfl ⟨rfl,rfl⟩ (by kernel_rfl) rfl
    (fun f fn hf hfn=>by
      obtain rfl : f = 6 := Option.some.inj ((show Tryz.prog.funcNamed "stratagem/stratagemlaw56.CompileLaunches" = some 6 by kernel_rfl).symm.trans hf) |>.symm
      obtain rfl:fn=Tryz.f6:=(Option.some.inj (Tryz.func6.symm.trans hfn)).symm
      exact ⟨by kernel_rfl,fun j t ht=>by
        rw [Tryz.params6] at ht
        have hm:t∈[26,22]:=by simpa using Array.mem_of_getElem? ht
        have hall:([26,22].all fun u=>!Tryz.prog.wantsStandIn u)=true:=by kernel_rfl
        exact (show Tryz.prog.wantsStandIn t=false by simpa using List.all_eq_true.1 hall t hm)⟩)
    (by kernel_rfl)
#print axioms compileLaunches_holds
end
end Go.Proofs.YtjohlgjklmagnaaGreatDoor

/- OrbitExpands returns true for every task and all generators, and both read behind the call as before. No conditions. -/
import Derived.Test.YtecegaabajeolaaGreatOexE
import Derived.Test.YtecegaabajeolaaGreatRows
set_option linter.unusedVariables false
set_option linter.unusedSimpArgs false
namespace Go.Proofs.YtecegaabajeolaaGreat
open Go Go.RowKit
section
set_option linter.unusedVariables false
set_option linter.unusedSimpArgs false
open Go Go.RowKit
abbrev OT:=Int×Ors
noncomputable def oIn (t:Tsk) (c:Int) (id:Int) (s:Ors) (a:Suc):Option (Ctl Ors (Ctl OT (Rsl×Err))):=bnd (atI t.ops a.op) fun o=>bnd (chkI (c + o.cost)) fun n=>bnd (BW s a.state n id a.op) fun q=>if q.1.n≠0 then (some (.ret (.ret ((⟨0,([]:List Int),0,0⟩:Rsl),(⟨q.1.n⟩:Err))))) else (some (.next q.2))
noncomputable def orbF (t:Tsk) (g:Option Gnr) (lim:Int):OT→Option (Ctl OT (Rsl×Err)):=fun s=>bnd (BY s.2.open_) fun q=>if q=0 then (some (.ret ((⟨2,([]:List Int),0,s.1⟩:Rsl),(⟨0⟩:Err)))) else (bnd (CJ (⟨s.2.open_⟩:BQ)) fun e=>bnd (bnd (atI s.2.nodes e.1.x.node) fun a=>if a.fin=true then (some true) else (bnd (atI s.2.nodes e.1.x.node) fun b=>if b.cost < e.1.x.cost then (some true) else (some false)):Option Bool) fun y=>if y=true then (some (.next (s.1,(⟨s.2.t,s.2.gens,s.2.nodes,s.2.tab,e.2.l,s.2.number⟩:Ors)))) else (bnd (atI s.2.nodes e.1.x.node) fun n=>bnd (Eh t.goal n.state) fun b=>if b=true then bnd (CB (⟨s.2.t,s.2.gens,s.2.nodes,s.2.tab,e.2.l,s.2.number⟩:Ors) e.1.x.node) fun p=>if p.2.n≠0 then (some (.ret ((⟨0,([]:List Int),0,0⟩:Rsl),(⟨p.2.n⟩:Err)))) else (some (.ret ((⟨1,p.1,n.cost,s.1⟩:Rsl),(⟨0⟩:Err)))) else if lim≤s.1 then (some (.ret ((⟨3,([]:List Int),0,s.1⟩:Rsl),(⟨0⟩:Err)))) else (bnd (chkI (s.1 + 1)) fun n2=>bnd (atI s.2.nodes e.1.x.node) fun m=>bnd (BI g n.state) fun l=>bnd (rng (ρ:=Ctl OT (Rsl×Err)) (fun (_:Nat) (a:Suc) (y:Ors)=>oIn t n.cost e.1.x.node y a) l 0 (⟨s.2.t,s.2.gens,s.2.nodes.set (e.1.x.node:Int).toNat { m with fin:=true },s.2.tab,e.2.l,s.2.number⟩:Ors)) fun r=>fin r fun (z:Ors)=>some (.next (n2,z)))))
theorem Qg (t:Tsk) (gens:List Swp) (lim:Int):CK t gens lim=bnd (CF t) fun q33=>if q33.n≠0 then (some ((⟨0,([]:List Int),0,0⟩:Rsl),(⟨q33.n⟩:Err))) else (bnd (rng (ρ:=Rsl×Err) (fun (k50:Nat) (a51:Swp) (s48:Unit)=>bnd (CG t a51) fun q87=>if q87=true then some (.next ()) else some (.ret ((⟨0,([]:List Int),0,0⟩:Rsl),(⟨2⟩:Err)))) gens 0 ()) fun res46=>fin res46 fun (s100:Unit)=>bnd (Ez t) fun q102=>if q102.2.n≠0 then (some ((⟨0,([]:List Int),0,0⟩:Rsl),(⟨q102.2.n⟩:Err))) else (bnd (BW (⟨t,gens,([]:List ONd),(⟨[]⟩:MapP ByteArray Int),([]:List OEn),0⟩:Ors) t.init 0 (-1) (-1)) fun q138=>if q138.1.n≠0 then (some ((⟨0,([]:List Int),0,0⟩:Rsl),(⟨q138.1.n⟩:Err))) else (bnd (lop (orbF t q102.1 lim) (0,q138.2)) fun res151=>fin res151 fun (_:OT)=>none))):=rfl
theorem Pb {t:Tsk} {gens:List Swp} (h:Sy t gens) {s ws r:List Int} (hw:Word gens s ws r) (hs:StateOk t.vars s):∃ x,SymP t x∧ImS x s r:=by
  have hok:=h.sm.ok
  induction hw with
  | nil=>exact ⟨idX t,NX hok,LY hok hs⟩
  | @cons s r ws m g hm hw ih =>
    have hg:=h.sy g (List.mem_of_getElem? hm)
    obtain ⟨g1,g2,g3⟩:=GI hok hg.1 hs
    obtain ⟨x,x1,x2⟩:=ih g3
    exact ⟨compX g x,LU hok hg x1,Js hg.1 x1.1 hs g2 x2⟩
theorem Of {t:Tsk} {gens:List Swp} (h:Sy t gens) {s:List Int} (hs:StateOk t.vars s):∃ x,SymP t x∧ImS x s (cnS t gens s):=Pb h (Gp h hs).2.2.2 hs
theorem Km {t:Tsk} {x:Swp} (hok:TaskOk t) (hx:SymP t x) {s a:List Int} (hs:StateOk t.vars s) (ha:ImS x s a):holdsB t.goal a=holdsB t.goal s:=by
  have:=Jt hok hx.1 hok.2.2.2.2.1 hs ha
  rwa [hx.2.2.1] at this
theorem Og {t:Tsk} {s:List Int} {C:Int} (hw:Walk t s C):∃ p s',PlanR t s p s' C∧holdsB t.goal s'=true:=by
  induction hw with
  | goal h=>exact ⟨[],_,.nil,h⟩
  | @step s k o C ho hp _ ih =>
    obtain ⟨p,s',h1,h2⟩:=ih
    refine ⟨(k:Int) :: p,s',?_,h2⟩
    rw [Int.add_comm]
    exact .cons ho hp h1
theorem QR {t:Tsk} {gens:List Swp} (h:Sy t gens):∀ (n:Nat) (p s s':List Int) (C:Int),p.length≤n→StateOk t.vars s→PlanR t s p s' C→holdsB t.goal s'=true→WalkC t (cnS t gens) s C:=by
  have hok:=h.sm.ok
  intro n
  induction n with
  | zero =>
    intro p s s' C hp hs hr hg
    cases hr with
    | nil=>exact .goal hg
    | cons _ _ _=>simp at hp
  | succ n ih =>
    intro p s s' C hp hs hr hg
    cases hr with
    | nil=>exact .goal hg
    | @cons _ rest _ k o C ho hpre hr =>
      have hs2:=FF hok hs ho
      obtain ⟨x,x1,x2⟩:=Of h hs2
      obtain ⟨i1,i2,a',i3,i4⟩:=MK hok x1 hr hs2 x2
      have hg':holdsB t.goal a'=true:=by rw [Km hok x1 i2 i4];exact hg
      rw [Int.add_comm]
      exact .step ho hpre (ih _ _ _ _ (by simp [imP] at hp ⊢;omega) (Gp h hs2).2.2.1 i3 hg')
theorem QS {t:Tsk} {gens:List Swp} (h:Sy t gens) {C:Int} (hw:Walk t t.init C):WalkC t (cnS t gens) (cnS t gens t.init) C:=by
  have hok:=h.sm.ok
  have hs:=hok.2.2.2.1
  obtain ⟨x,x1,x2⟩:=Of h hs
  obtain ⟨p,s',p1,p2⟩:=Og hw
  obtain ⟨i1,i2,a',i3,i4⟩:=MK hok x1 p1 hs x2
  exact QR h _ _ _ _ _ (Nat.le_refl _) (Gp h hs).2.2.1 i3 (by rw [Km hok x1 i2 i4];exact p2)
structure AS (t:Tsk) (gens:List Swp) (x:Ors):Prop where
  tt:x.t=t
  gg:x.gens=gens
  tab:TabI t.vars x.nodes x.tab.l
  heap:HeapOk (qs x.open_)
  num0:0≤x.number
def KPN (N N':List ONd):Prop:=∀ (j:Nat) n,N'[j]?=some n→n.fin=true→N[j]?=some n
def HMN (N:List ONd) (c:Int):Prop:=∀ (j:Nat) n,N[j]?=some n→n.fin=true→n.cost≤c
theorem HMN.kp {N N':List ONd} {c:Int} (h:HMN N c) (k:KPN N N'):HMN N' c:=fun j n hj hf=>h j n (k j n hj hf) hf
theorem Oh {N N':List ONd} {i:Nat} {n:ONd} (h:UpN i n N N') (hf:n.fin=false):KPN N N':=fun j a hj ha=>by
  have hne:j≠i:=fun e=>by subst e;rw [h.1] at hj;obtain rfl:=Option.some.inj hj;rw [hf] at ha;cases ha
  rw [← h.2 j hne];exact hj
theorem KL {t:Tsk} {gens:List Swp} (h:Sy t gens) {D:Nat→Int→Prop} {N:List ONd} {hp:List QEn} {ord:Nat→Nat} {E:Nat} (hinv:OrI t (cnS t gens) (wdS t gens) D N hp ord E):N.length≤512:=by
  have h1:(N.map (·.state)).length≤(statesL t.vars).length:=EL (Jm fun i j s hi hj=>by
    rw [List.getElem?_map] at hi hj
    obtain ⟨n,hn,e1⟩:=Option.map_eq_some_iff.1 hi
    obtain ⟨m,hm,e2⟩:=Option.map_eq_some_iff.1 hj
    exact hinv.uniq i j n m hn hm (e1.trans e2.symm)) fun s hs=>by
      obtain ⟨n,hn,rfl⟩:=List.mem_map.1 hs
      obtain ⟨i,hi⟩:=List.getElem?_of_mem hn
      exact Fa.2 (Gq h (hinv.rch i n hi))
  rw [List.length_map] at h1
  exact Nat.le_trans h1 h.sm.many
theorem Ro {t:Tsk} {gens:List Swp} (h:Sy t gens) {D:Nat→Int→Prop} {ord:Nat→Nat} {E:Nat} {x:Ors} (hx:AS t gens x) (hinv:OrI t (cnS t gens) (wdS t gens) D x.nodes (qs x.open_) ord E) (hn1:x.number≤100000) (hql:x.open_.length≤100000) (hE:E≤601)
    {p k:Nat} {o:Opr} {m:ONd} (ho:t.ops[k]?=some o) (hm:x.nodes[p]?=some m) (hmf:m.fin=true) (hpre:holdsB o.pre m.state=true) (hmax:HMN x.nodes m.cost) (hcb:m.cost + 1048576≤(E:Int) * 1048576) :
    ∃ y:Ors,oIn t m.cost (p:Int) x ⟨(k:Int),succ o m.state⟩=some (.next y)∧AS t gens y∧OrI t (cnS t gens) (wdS t gens) D y.nodes (qs y.open_) ord E∧y.number≤x.number + 1∧y.open_.length≤x.open_.length + 1∧KPN x.nodes y.nodes∧y.nodes[p]?=some m∧∃ (i:Nat) (m':ONd),y.nodes[i]?=some m'∧m'.state=cnS t gens (succ o m.state)∧m'.cost≤m.cost + o.cost:=by
  have hok:=h.sm.ok
  have hoo:=hok.2.2.2.2.2 k o ho
  have ho1':=hoo.1
  have ho2:=hoo.2.1
  have hN:=KL h hinv
  have hcp:=(hinv.bound p m hm).1
  have hsm:=Gq h (hinv.rch p m hm)
  have hs:=FF hok hsm ho
  unfold oIn
  dsimp only
  rw [Bg,ho,Am,Cy (by unfold inI64;omega),Am]
  rcases Pv h hx.tt hx.gg hx.tab hx.heap hx.num0 hn1 hql (by omega) hs (m.cost + o.cost) (p:Int) (k:Int) with ⟨i,n,a1,a2,a3,a4⟩|⟨i,y,a1,a2,a3,a4,a5,a6,a7,a8,a9⟩
  · rw [a4,Am,if_neg (by simp)]
    exact ⟨x,rfl,hx,hinv,by omega,by omega,fun j n hj _=>hj,hm,i,n,a1,a2,a3⟩
  · rw [a1,Am,if_neg (by simp)]
    have hAS:AS t gens y:=⟨a2,a3,a4,a5,by have:=hx.num0;omega⟩
    rcases a9 with ⟨rfl,b2,b3⟩|⟨a,b1,b2,b3,b4⟩
    · have hup:UpN x.nodes.length (⟨cnS t gens (succ o m.state),m.cost + o.cost,(p:Int),(k:Int),wdS t gens (succ o m.state),false⟩:ONd) x.nodes y.nodes:=by rw [b2];exact PP
      have hpl:=AE hm
      have hpy:y.nodes[p]?=some m:=by rw [hup.2 p (by omega)];exact hm
      refine ⟨y,rfl,hAS,?_,by omega,by omega,Oh hup rfl,hpy,x.nodes.length,_,hup.1,rfl,Int.le_refl _⟩
      exact hinv.upd hok hup a8 rfl rfl (by rw [b2];simp) (by rw [b2];exact OL _ rfl) (.inl ⟨List.getElem?_eq_none (Nat.le_refl _),b3⟩) rfl rfl rfl ho hm hmf hpre rfl rfl rfl hmax (by dsimp only;omega)
    · have haf:a.fin=false:=by
        cases hb:a.fin with
        | false=>rfl
        | true=>have:=hmax i a b1 hb;omega
      have hup:UpN i (⟨cnS t gens (succ o m.state),m.cost + o.cost,(p:Int),(k:Int),wdS t gens (succ o m.state),false⟩:ONd) x.nodes y.nodes:=by rw [b4];exact PO (AE b1)
      have hip:p≠i:=fun e=>by subst e;rw [hm] at b1;obtain rfl:=Option.some.inj b1;rw [hmf] at haf;cases haf
      refine ⟨y,rfl,hAS,?_,by omega,by omega,Oh hup rfl,by rw [hup.2 p hip];exact hm,i,_,hup.1,rfl,Int.le_refl _⟩
      exact hinv.upd hok hup a8 rfl rfl (by rw [b4];simp) (by rw [b4];exact LN b1 haf rfl) (.inr ⟨a,b1,b2,haf,b3⟩) rfl rfl rfl ho hm hmf hpre rfl rfl rfl hmax (by dsimp only;omega)
structure OJ (t:Tsk) (gens:List Swp) (D:Nat→Int→Prop) (ord:Nat→Nat) (E NN:Nat) (i:Nat) (m:ONd) (y:Ors):Prop where
  ob:AS t gens y
  inv:OrI t (cnS t gens) (wdS t gens) D y.nodes (qs y.open_) ord E
  num1:y.number≤NN
  qlen:y.open_.length≤NN
  hi:y.nodes[i]?=some m
  hm:HMN y.nodes m.cost
theorem Rq {t:Tsk} {gens:List Swp} (h:Sy t gens) {ord:Nat→Nat} {E NN i:Nat} {m:ONd} {y:Ors} (hj:OJ t gens (fun j _=>j≠i) ord E NN i m y) (hmf:m.fin=true) (hN:NN≤90000) (hE:E≤601) (hcb:m.cost + 1048576≤(E:Int) * 1048576) :
    ∃ y':Ors,rng (ρ:=Ctl OT (Rsl×Err)) (fun (_:Nat) (a:Suc) (y:Ors)=>oIn t m.cost (i:Int) y a) ((appS t m.state).map (sucOf t m.state)) 0 y=some (.done y')∧OJ t gens (fun _ _=>True) ord E (NN + 20) i m y':=by
  have hok:=h.sm.ok
  have hops:t.ops.length≤20:=h.sm.2.1
  have hsok:=Gq h (hj.inv.rch i m hj.hi)
  have hlen:(appl t m.state).length≤20:=Nat.le_trans (LH t m.state) hops
  rw [ID hsok]
  obtain ⟨y',h1,h2⟩:=DE (ρ:=Ctl OT (Rsl×Err)) (f:=fun (_:Nat) (a:Suc) (y:Ors)=>oIn t m.cost (i:Int) y a) (xs:=(appl t m.state).map (sucOf t m.state)) (s₀:=y) (fun b z=>OJ t gens (fun j q=>j≠i∨q∈(appl t m.state).take b) ord E (NN + b) i m z)
    { hj with inv:={ hj.inv with rel:=fun j a q hj' hs' hq hd=>hj.inv.rel j a q hj' hs' hq (by rcases hd with hd|hd;exact hd;simp at hd) } } (fun b a z hb hz=>by
      rw [List.getElem?_map] at hb
      obtain ⟨op,hop,rfl⟩:=Option.map_eq_some_iff.1 hb
      obtain ⟨k,o,rfl,ho,hp⟩:=LG (List.mem_of_getElem? hop)
      have hml:=AE hop
      have hq:=hz.qlen
      have hnu:=hz.num1
      have e1:sucOf t m.state (k:Int)=⟨(k:Int),succ o m.state⟩:=by rw [PN,(MI ho).2]
      obtain ⟨z',z1,z2,z3,z4,z5,z6,z7,i',m',z8,z9,z10⟩:=Ro h hz.ob hz.inv (by omega) (by omega) hE ho hz.hi hmf hp hz.hm hcb
      refine ⟨z',by rw [e1];exact z1,⟨z2,?_,by omega,by omega,z7,hz.hm.kp z6⟩⟩
      refine z3.more (j₀:=i) (q₀:=(k:Int)) (fun j q hd=>?_) z7 rfl ho z8 z9 z10
      rcases hd with hd|hd
      · exact .inl (.inl hd)
      · rcases (OH hop).1 hd with hd|rfl
        · exact .inl (.inr hd)
        · by_cases e:j=i
          · exact .inr ⟨e,rfl⟩
          · exact .inl (.inl e))
  rw [List.length_map] at h2
  have hinv:=h2.inv
  have hq:=h2.qlen
  have hnu:=h2.num1
  refine ⟨y',h1,{ h2 with
    inv := { hinv with rel:=fun j s' q hj2 hs' hq2 hd=>hinv.rel j s' q hj2 hs' hq2 (by
      by_cases e:j=i
      · subst e
        rw [h2.hi] at hj2
        obtain rfl:=Option.some.inj hj2
        exact .inr (by rw [List.take_of_length_le (Nat.le_refl _)];exact hq2)
      · exact .inl e) }
    num1:=by omega
    qlen:=by omega }⟩
structure OI (t:Tsk) (gens:List Swp) (ord:Nat→Nat) (NN:Nat) (st:OT):Prop where
  ob:AS t gens st.2
  inv:OrI t (cnS t gens) (wdS t gens) (fun _ _=>True) st.2.nodes (qs st.2.open_) ord st.1.toNat
  num1:st.2.number≤NN
  qlen:st.2.open_.length≤NN
  exp0:0≤st.1
  nn:(NN:Int)≤1 + 20 * st.1
theorem OI.exp {t:Tsk} {gens:List Swp} (h:Sy t gens) {ord:Nat→Nat} {NN:Nat} {st:OT} (hi:OI t gens ord NN st):st.1≤512:=by
  have h1:=KL h hi.inv
  have h2:=hi.inv.num
  have h3:=PQ st.2.nodes
  have:=hi.exp0
  omega
theorem QT {t:Tsk} {gens:List Swp} (h:Sy t gens) {ord:Nat→Nat} {NN:Nat} {st:OT} (hi:OI t gens ord NN st) :
    (∃ st':OT,(∀ lim,orbF t (some ⟨t⟩) lim st=some (.next st'))∧OI t gens ord NN st'∧st'.1=st.1∧st'.2.open_.length < st.2.open_.length) ∨
    ((∀ lim,orbF t (some ⟨t⟩) lim st=some (.ret (⟨2,[],0,st.1⟩,⟨0⟩)))∧st.2.open_.length=0) ∨
    (∃ p c,(∀ lim,orbF t (some ⟨t⟩) lim st=some (.ret (⟨1,p,c,st.1⟩,⟨0⟩)))∧p.length≤600∧(∃ s',PlanR t t.init p s' c∧holdsB t.goal s'=true)∧(∀ e∈qs st.2.open_,c≤e.key)∧∃ (i:Nat) (n:ONd),st.2.nodes[i]?=some n∧n.fin=false) ∨
    (∃ (st':OT) (ord':Nat→Nat) (NN':Nat),(∀ lim,orbF t (some ⟨t⟩) lim st=if lim≤st.1 then some (.ret (⟨3,[],0,st.1⟩,⟨0⟩)) else some (.next st'))∧OI t gens ord' NN' st'∧st'.1=st.1 + 1∧∃ (i:Nat) (n:ONd),st.2.nodes[i]?=some n∧n.fin=false):=by
  have hok:=h.sm.ok
  have hE:=hi.exp h
  have hE0:=hi.exp0
  have hnn:=hi.nn
  have hql:=hi.qlen
  have hnu:=hi.num1
  obtain ⟨exp,tt,gg,N,tab,op,num⟩:=st
  obtain ⟨⟨e1,e2,has3,has4,has5⟩,hinv,_,_,_,_⟩:=hi
  dsimp only at e1 e2 has3 has4 has5 hinv hE hE0 hnn hql hnu ⊢
  subst e1 e2
  by_cases h0:op.length=0
  · refine .inr (.inl ⟨fun lim=>?_,h0⟩)
    unfold orbF BY
    dsimp only
    rw [Am,if_pos (by omega)]
  obtain ⟨pr,p1,e,q',rfl,p3,p4,p5⟩:=PS (q:=⟨op⟩) has4 (by dsimp only;omega) (by dsimp only;omega)
  dsimp only at p4 p5
  have hem:toQ e∈qs op:=p4.mem_iff.2 List.mem_cons_self
  obtain ⟨i,n,hei,hn,hle⟩:=hinv.ent _ hem
  change e.node=(i:Int) at hei
  change n.cost≤e.cost at hle
  have hpl:=p4.length_eq
  simp only [List.length_cons,FW] at hpl
  have hst:=Gq h (hinv.rch i n hn)
  by_cases hstale:n.fin=true∨n.cost < e.cost
  · refine .inl ⟨(exp,⟨tt,gg,N,tab,q'.l,num⟩),fun lim=>?_,⟨⟨rfl,rfl,has3,p3,has5⟩,hinv.drop p4 hei hn (hstale.imp id fun hl=>by change n.cost≠e.cost;omega),hnu,by dsimp only;omega,hE0,hnn⟩,rfl,by dsimp only;omega⟩
    unfold orbF BY
    dsimp only
    rw [Am,if_neg (by omega),p1,Am]
    dsimp only
    rw [hei,Bg,hn,Am]
    by_cases hf:n.fin=true
    · rw [if_pos hf,Am,Bl]
    · rw [if_neg hf,Am,if_pos (hstale.resolve_left hf),Am,Bl]
  · have hff:n.fin=false:=by
      cases hb:n.fin with
      | false=>rfl
      | true=>exact absurd (.inl hb) hstale
    have hke:n.cost=e.cost:=by
      have:¬ n.cost < e.cost:=fun hl=>hstale (.inr hl)
      omega
    have start:∀ lim,orbF tt (some ⟨tt⟩) lim (exp,⟨tt,gg,N,tab,op,num⟩)=if holdsB tt.goal n.state=true then bnd (CB (⟨tt,gg,N,tab,q'.l,num⟩:Ors) (i:Int)) fun p=>if p.2.n≠0 then (some (.ret ((⟨0,([]:List Int),0,0⟩:Rsl),(⟨p.2.n⟩:Err)))) else (some (.ret ((⟨1,p.1,n.cost,exp⟩:Rsl),(⟨0⟩:Err)))) else if lim≤exp then (some (.ret ((⟨3,([]:List Int),0,exp⟩:Rsl),(⟨0⟩:Err)))) else (bnd (chkI (exp + 1)) fun n2=>bnd (BI (some ⟨tt⟩) n.state) fun l=>bnd (rng (ρ:=Ctl OT (Rsl×Err)) (fun (_:Nat) (a:Suc) (y:Ors)=>oIn tt n.cost (i:Int) y a) l 0 (⟨tt,gg,N.set i { n with fin:=true },tab,q'.l,num⟩:Ors)) fun r=>fin r fun (z:Ors)=>some (.next (n2,z))):=by
      intro lim
      unfold orbF BY
      dsimp only
      rw [Am,if_neg (by omega),p1,Am]
      dsimp only
      rw [hei,Bg,hn,Am,hff,BB,Am,if_neg (by omega),Am,BB,Am,NO,Am,Int.toNat_natCast]
      simp only [Am]
    have hleast:∀ e'∈qs op,n.cost≤e'.key:=fun e' m=>by have:=NP (p5 e' m);change e.cost≤e'.key at this;omega
    by_cases hg:holdsB tt.goal n.state=true
    · obtain ⟨l,l1,l2⟩:=hinv.path hn
      obtain ⟨p,L,g1,g2,g3,g4,y,g5,g6⟩:=Pa h (x:=⟨tt,gg,N,tab,q'.l,num⟩) rfl rfl hinv hn l1 (by omega)
      refine .inr (.inr (.inl ⟨p,n.cost,fun lim=>?_,by omega,⟨L,g3,by rw [← Km hok g5 g4 g6];exact hg⟩,hleast,i,n,hn,hff⟩))
      rw [start,if_pos hg,g1,Am,if_neg (by simp)]
    · have hgf:holdsB tt.goal n.state=false:=by simpa using hg
      have hm:=hinv.mark p4 p5 hei hn hff hke hgf rfl
      have hbd:=hinv.bound i n hn
      rw [Int.toNat_of_nonneg hE0] at hbd
      have hil:=AE hn
      have hself:(N.set i { n with fin:=true })[i]?=some { n with fin:=true }:=List.getElem?_set_self hil
      obtain ⟨y',y1,y2⟩:=Rq h (E:=exp.toNat + 1) (NN:=NN) (i:=i) (m:={ n with fin:=true }) (y:=(⟨tt,gg,N.set i { n with fin:=true },tab,q'.l,num⟩:Ors)) ⟨⟨rfl,rfl,has3.set hn rfl,p3,has5⟩,hm,hnu,by dsimp only;omega,hself,fun j a hj hja=>by
          by_cases e1:i=j
          · subst e1;rw [hself] at hj;obtain rfl:=Option.some.inj hj;exact Int.le_refl _
          · rw [List.getElem?_set_ne e1] at hj
            have:=hinv.lower j a hj hja _ hem
            change a.cost≤e.cost at this
            change a.cost≤n.cost
            omega⟩ rfl (by omega) (by omega) (by
        have:((exp.toNat + 1:Nat):Int)=exp + 1:=by omega
        rw [this]
        dsimp only
        omega)
      refine .inr (.inr (.inr ⟨(exp + 1,y'),(fun j=>if j=i then exp.toNat else ord j),NN + 20,fun lim=>?_,⟨y2.ob,?_,by have:=y2.num1;dsimp only;omega,y2.qlen,by dsimp only;omega,by dsimp only;omega⟩,rfl,i,n,hn,hff⟩))
      · rw [start,if_neg hg]
        by_cases hlim:lim≤exp
        · rw [if_pos hlim,if_pos hlim]
        · rw [if_neg hlim,if_neg hlim,Cy (by unfold inI64;omega),Am,PK hok (by have:=hst.1;have:=hok.1;omega),Am,y1,Am,BL]
      · dsimp only
        rw [show (exp + 1).toNat=exp.toNat + 1 from by omega]
        exact y2.inv
end
section
set_option linter.unusedVariables false
set_option linter.unusedSimpArgs false
open Go Go.RowKit
def ResO (t:Tsk) (gens:List Swp) (m:Int) (r:Rsl):Prop:=0≤r.expanded∧r.expanded≤m∧∃ M:List (List Int),M.Nodup∧(M.length:Int)=r.expanded∧(∀ s∈M,OR t (cnS t gens) s) ∧
  ((r.verdict=1∧r.plan.length≤600∧(∃ s',PlanR t t.init r.plan s' r.cost∧holdsB t.goal s'=true)∧(∀ C,Walk t t.init C→r.cost≤C)∧∃ s,¬ s∈M∧OR t (cnS t gens) s) ∨
   (r.verdict=2∧r.plan=[]∧r.cost=0∧(∀ C,¬ Walk t t.init C)∧∀ s,OR t (cnS t gens) s→s∈M) ∨
   (r.verdict=3∧r.plan=[]∧r.cost=0∧m≤r.expanded∧∃ s,¬ s∈M∧OR t (cnS t gens) s))
def finS (N:List ONd):List (List Int):=(N.filter (·.fin)).map (·.state)
theorem Jv {N:List ONd} {s:List Int}:s∈finS N↔∃ (i:Nat) (n:ONd),N[i]?=some n∧n.fin=true∧n.state=s:=by
  unfold finS
  rw [List.mem_map]
  constructor
  · rintro ⟨n,hn,rfl⟩
    obtain ⟨h1,h2⟩:=List.mem_filter.1 hn
    obtain ⟨i,hi⟩:=List.getElem?_of_mem h1
    exact ⟨i,n,hi,h2,rfl⟩
  · rintro ⟨i,n,hi,h2,rfl⟩
    exact ⟨n,List.mem_filter.2 ⟨List.mem_of_getElem? hi,h2⟩,rfl⟩
section
variable {t : Tsk} {gens : List Swp} {ord : Nat → Nat} {NN : Nat} {st : OT}
theorem OI.set (h:Sy t gens) (hi:OI t gens ord NN st):(finS st.2.nodes).Nodup∧((finS st.2.nodes).length:Int)=st.1∧∀ s∈finS st.2.nodes,OR t (cnS t gens) s:=by
  have hE0:=hi.exp0
  refine ⟨?_,?_,fun s hs=>?_⟩
  · have h1:(st.2.nodes.map (·.state)).Nodup:=Jm fun i j s hi' hj'=>by
      rw [List.getElem?_map] at hi' hj'
      obtain ⟨n,hn,e1⟩:=Option.map_eq_some_iff.1 hi'
      obtain ⟨m,hm,e2⟩:=Option.map_eq_some_iff.1 hj'
      exact hi.inv.uniq i j n m hn hm (e1.trans e2.symm)
    exact h1.sublist ((List.filter_sublist).map _)
  · unfold finS
    rw [List.length_map]
    have:=hi.inv.num
    unfold cntN at this
    omega
  · obtain ⟨i,n,hn,_,rfl⟩:=Jv.1 hs
    exact hi.inv.rch i n hn
theorem OI.left (hi:OI t gens ord NN st) {i:Nat} {n:ONd} (hn:st.2.nodes[i]?=some n) (hf:n.fin=false):∃ s,¬ s∈finS st.2.nodes∧OR t (cnS t gens) s:=by
  refine ⟨n.state,fun hm=>?_,hi.inv.rch i n hn⟩
  obtain ⟨j,m,hm,hmf,e⟩:=Jv.1 hm
  have:=hi.inv.uniq j i m n hm hn e
  subst this
  rw [hn] at hm
  obtain rfl:=Option.some.inj hm
  rw [hf] at hmf
  cases hmf
theorem OI.len (h:Sy t gens) (hi:OI t gens ord NN st):st.2.open_.length≤90000:=by
  have h1:=hi.exp h
  have h2:=hi.qlen
  have h3:=hi.nn
  have:=hi.exp0
  omega
theorem OI.front (h:Sy t gens) (hi:OI t gens ord NN st) {C:Int} (hw:Walk t t.init C):∃ e∈qs st.2.open_,e.key≤C:=by
  obtain ⟨n,r1,r2,_,r4,_⟩:=hi.inv.root
  obtain ⟨e,e1,e2⟩:=hi.inv.front h.sm.ok (QS h hw) 0 n r1 r2
  exact ⟨e,e1,by omega⟩
end
theorem Qh {M K a q q' n:Nat} (ha:a < M) (h:(M - a) * K + q < n + 1) (hq:q' < K):(M - (a + 1)) * K + q' < n:=by
  obtain ⟨b,hb⟩:∃ b,M - a=b + 1:=⟨M - a - 1,by omega⟩
  have hb':M - (a + 1)=b:=by omega
  rw [hb,Nat.add_mul,Nat.one_mul] at h
  rw [hb']
  omega
theorem Rr {t:Tsk} {gens:List Swp} (h:Sy t gens) (lim:Int):∀ (n:Nat) (st:OT) (ord:Nat→Nat) (NN:Nat),OI t gens ord NN st→st.1≤max lim 0→(601 - st.1.toNat) * 100000 + st.2.open_.length < n→∃ r,lop (orbF t (some ⟨t⟩) lim) st=some (.ret (r,⟨0⟩))∧ResO t gens (max lim 0) r∧st.1≤r.expanded∧∀ lim',r.verdict≠3→r.expanded≤max lim' 0→lop (orbF t (some ⟨t⟩) lim') st=some (.ret (r,⟨0⟩)):=by
  intro n
  induction n with
  | zero=>intro st ord NN _ _ hn;omega
  | succ n ih =>
    intro st ord NN hi hsl hn
    have hE:=hi.exp h
    have hE0:=hi.exp0
    have hok:=h.sm.ok
    obtain ⟨m1,m2,m3⟩:=hi.set h
    rcases QT h hi with ⟨st',h1,h2,h3,h4⟩|⟨h1,h2⟩|⟨p,c,h1,h2,h3,h4,i,nd,h5,h6⟩|⟨st',ord',NN',h1,h2,h3,i,nd,h5,h6⟩
    · obtain ⟨r,f1,f2,f3,f4⟩:=ih st' ord NN h2 (by omega) (by rw [h3];omega)
      refine ⟨r,by rw [Db,h1];exact f1,f2,by omega,fun lim' hv hl=>?_⟩
      rw [Db,h1];exact f4 lim' hv hl
    · have hnil:st.2.open_=[]:=List.length_eq_zero_iff.1 h2
      have hq:qs st.2.open_=[]:=by rw [hnil];rfl
      refine ⟨⟨2,[],0,st.1⟩,by rw [Db,h1],⟨hE0,hsl,finS st.2.nodes,m1,m2,m3,.inr (.inl ⟨rfl,rfl,rfl,fun C hw=>?_,fun s hs=>?_⟩)⟩,Int.le_refl _,fun lim' _ _=>by rw [Db,h1]⟩
      · obtain ⟨e',m,_⟩:=hi.front h hw
        rw [hq] at m;simp at m
      · have hinv:=hi.inv
        rw [hq] at hinv
        obtain ⟨i,nd,i1,i2,i3⟩:=hinv.all hs
        exact Jv.2 ⟨i,nd,i1,i3,i2⟩
    · refine ⟨⟨1,p,c,st.1⟩,by rw [Db,h1],⟨hE0,hsl,finS st.2.nodes,m1,m2,m3,.inl ⟨rfl,h2,h3,fun C hw=>?_,hi.left h5 h6⟩⟩,Int.le_refl _,fun lim' _ _=>by rw [Db,h1]⟩
      obtain ⟨e',m,k⟩:=hi.front h hw
      have:=h4 e' m
      show c≤C
      omega
    · by_cases hlim:lim≤st.1
      · exact ⟨⟨3,[],0,st.1⟩,by rw [Db,h1,if_pos hlim],⟨hE0,hsl,finS st.2.nodes,m1,m2,m3,.inr (.inr ⟨rfl,rfl,rfl,by show max lim 0≤st.1;omega,hi.left h5 h6⟩)⟩,Int.le_refl _,fun lim' hv _=>absurd rfl hv⟩
      · have hmany:=h2.len h
        obtain ⟨r,f1,f2,f3,f4⟩:=ih st' ord' NN' h2 (by omega) (by
          have:st'.1.toNat=st.1.toNat + 1:=by omega
          rw [this];exact Qh (by omega) hn (by omega))
        refine ⟨r,by rw [Db,h1,if_neg hlim];exact f1,f2,by omega,fun lim' hv hl=>?_⟩
        rw [Db,h1,if_neg (by omega)];exact f4 lim' hv hl
theorem QU {t:Tsk} {gens:List Swp} (h:Sy t gens):∃ x,BW (⟨t,gens,([]:List ONd),(⟨[]⟩:MapP ByteArray Int),([]:List OEn),0⟩:Ors) t.init 0 (-1) (-1)=some (⟨0⟩,x)∧OI t gens (fun _=>0) 1 (0,x):=by
  have hok:=h.sm.ok
  have one:∀ {α:Type} {a b:α} {i:Nat},[a][i]?=some b→i=0∧b=a:=fun {α a b i} h=>by
    cases i with
    | zero=>simp at h;exact ⟨rfl,h.symm⟩
    | succ i=>simp at h
  have tab0:TabI t.vars [] ([]:List (ByteArray×Int)):=fun y _=>.inl ⟨rfl,fun i n hi=>by simp at hi⟩
  rcases Pv h (x:=(⟨t,gens,([]:List ONd),(⟨[]⟩:MapP ByteArray Int),([]:List OEn),0⟩:Ors)) rfl rfl tab0 (fun j x y _ hx=>by simp [qs] at hx) (by simp) (by simp) (by simp) (by simp) hok.2.2.2.1 0 (-1) (-1) with ⟨i,n,a1,_⟩|⟨i,y,a1,a2,a3,a4,a5,a6,a7,a8,a9⟩
  · simp at a1
  rcases a9 with ⟨rfl,b2,b3⟩|⟨a,b1,_⟩
  case inr=>simp at b1
  dsimp only at a1 a2 a3 a4 a5 a6 a7 a8 b2 b3
  rw [List.nil_append] at b2
  refine ⟨y,a1,⟨⟨a2,a3,a4,a5,by show 0≤y.number;omega⟩,?_,by show y.number≤1;omega,by dsimp only;rw [a7];simp,by simp,by simp⟩⟩
  have hn0:∀ (i:Nat) n,y.nodes[i]?=some n→i=0∧n=⟨cnS t gens t.init,0,-1,-1,wdS t gens t.init,false⟩:=fun i n hi=>by rw [b2] at hi;exact one hi
  have hq0:∀ e,e∈qs y.open_↔e=⟨0,0,((0:Nat):Int),0 + 1⟩:=fun e=>by rw [a8.mem_iff];simp [qs]
  dsimp only
  refine ⟨⟨_,by rw [b2];rfl,rfl,rfl,rfl,rfl,rfl⟩,fun i n hi=>.inl (hn0 i n hi).1,fun i n hi hf=>?_,fun i n hi hf=>?_,fun e he=>?_,fun i n hi hf=>?_,fun i n hi=>?_,fun i n hi hf=>?_,fun i n q hi hf=>?_,by rw [b2];rfl,fun i n hi=>?_,fun hE=>by simp at hE,fun i j n m hi hj _=>by rw [(hn0 i n hi).1,(hn0 j m hj).1]⟩
  · rw [(hn0 i n hi).2] at hf;cases hf
  · rw [(hn0 i n hi).2] at hf;cases hf
  · rw [(hq0 e).1 he]
    exact ⟨0,_,rfl,by rw [b2];rfl,by simp⟩
  · obtain ⟨rfl,rfl⟩:=hn0 i n hi
    exact ⟨_,(hq0 _).2 rfl,rfl,rfl⟩
  · rw [(hn0 i n hi).2]
    simp
  · rw [(hn0 i n hi).2] at hf;cases hf
  · rw [(hn0 i n hi).2] at hf;cases hf
  · rw [(hn0 i n hi).2];exact .init
theorem Nk {t:Tsk} {gens:List Swp} (hok:TaskOk t) (hs:∀ x∈gens,SymP t x):rng (ρ:=Rsl×Err) (fun (k50:Nat) (a51:Swp) (s48:Unit)=>bnd (CG t a51) fun q87=>if q87=true then some (.next ()) else some (.ret ((⟨0,([]:List Int),0,0⟩:Rsl),(⟨2⟩:Err)))) gens 0 ()=some (.done ()):=by
  obtain ⟨⟨⟩,h1,_⟩:=DE (ρ:=Rsl×Err) (f:=fun (k50:Nat) (a51:Swp) (s48:Unit)=>bnd (CG t a51) fun q87=>if q87=true then some (.next ()) else some (.ret ((⟨0,([]:List Int),0,0⟩:Rsl),(⟨2⟩:Err)))) (xs:=gens) (s₀:=()) (fun _ _=>True) trivial fun k x s hk _=>by
    rw [OV,Am,Bf ⟨hok,hs x (List.mem_of_getElem? hk)⟩,Bl]
    exact ⟨(),rfl,trivial⟩
  exact h1
theorem Ma {t:Tsk} {gens:List Swp} (h:Sy t gens) (lim:Int):∃ r,CK t gens lim=some (r,⟨0⟩)∧ResO t gens (max lim 0) r∧(r.verdict≠3→∀ lim',r.expanded≤max lim' 0→CK t gens lim'=some (r,⟨0⟩)):=by
  have hok:=h.sm.ok
  obtain ⟨x,x1,x2⟩:=QU h
  have unf:∀ l,CK t gens l=bnd (lop (orbF t (some ⟨t⟩) l) (0,x)) fun res151=>fin res151 fun (_:OT)=>none:=fun l=>by
    rw [Qg]
    unfold CF
    rw [DG.2 hok,Am,if_neg (by simp),Nk hok h.sy,Am,BL,QK hok,Am,if_neg (by simp),x1,Am,if_neg (by simp)]
  obtain ⟨r,f1,f2,f3,f4⟩:=Rr h lim _ _ _ _ x2 (by dsimp only;omega) (Nat.lt_succ_self _)
  refine ⟨r,by rw [unf,f1,Am,Ht],f2,fun hv lim' hl=>?_⟩
  rw [unf,f4 lim' hv hl,Am,Ht]
theorem JX {t:Tsk} {gens:List Swp} (h:Sy t gens) {m:Int} {r:Rsl} (hr:ResO t gens m r) (hm:600≤m):r.verdict≠3∧r.expanded≤((statesL t.vars).length:Int):=by
  obtain ⟨_,_,M,m1,m2,m3,hc⟩:=hr
  have hM:M.length≤(statesL t.vars).length:=EL m1 fun s hs=>Fa.2 (Gq h (m3 s hs))
  refine ⟨fun hv=>?_,by omega⟩
  have:=h.sm.many
  rcases hc with h1|h1|⟨_,_,_,h4,_⟩<;>omega
end
section
set_option linter.unusedVariables false
set_option linter.unusedSimpArgs false
open Go Go.RowKit
attribute [local irreducible] ewp owp hwp hwq hws Ev Evg Fn retPost loud loudS Res1
attribute [local irreducible] hwx loudX
noncomputable def DQ  : Option Bool :=
  bnd (CK (⟨([2]:List Int),([0]:List Int),[(⟨0,1⟩:Fct)],[(⟨(⟨#[]⟩:ByteArray),3,([]:List Fct),[(⟨([]:List Fct),0,1⟩:Eff)]⟩:Opr)]⟩:Tsk) ([]:List Swp) 10) fun q48=>bnd (if q48.2.n=0 then (if q48.1.verdict=1 then (if q48.1.cost=3 then (bnd (GR q48.1.plan ([0]:List Int)) fun q88=>if q88=true then some true else some false) else (some false)) else (some false)) else (some false):Option Bool) fun y75=>some y75
theorem HM {w:World} {A:Nat→Prop} (hA:∀ k,A k→k < w.heap.size)  {r:Bool} (hm:DQ  = some r) :
    Fn Tryz.prog 11 [] w fun v w'=>Ext w w'∧Vb w' (upA A w w') v r:=by
 obtain ⟨O,hB,h2⟩:=enter hA
 refine AK Tryz.func11 rfl Tryz.ntmps11 rfl ?_
 unfold DQ at hm
 refine Al (Aj (Au rfl rfl (o_z ?_)))
 refine Al (Aj (Cj 2 (by decide) O (xs:=(([2]:List Int):List Int)) rfl rfl rfl rfl ⟨(vInt (show inI64 (2) from by decide)),trivial⟩ (by decide) (by decide) rfl fun g1 w2 O3 S4 h5=>?_))
 refine Cj 3 (by decide) O3 (xs:=(([0]:List Int):List Int)) rfl rfl rfl rfl ⟨(vInt (show inI64 (0) from by decide)),trivial⟩ (by decide) (by decide) rfl fun g7 w8 O9 l0 m0=>?_
 refine Dh rfl rfl rfl ?_
 refine Cj 4 (by decide) O9 (xs:=([(⟨0,1⟩:Fct)]:List Fct)) rfl rfl rfl rfl ⟨(Vb.ofAgg (cs:=[(.int .i64 0),(.int .i64 1)]) (x:=(⟨0,1⟩:Fct)) rfl ⟨rfl,(show inI64 (0) from by decide),(show inI64 (1) from by decide)⟩),trivial⟩ (by decide) (by decide) rfl fun c1 i2 k1 k0 n0=>?_
 refine Dh rfl rfl rfl ?_
 refine Cj 5 (by decide) k1 (xs:=([(⟨([]:List Fct),0,1⟩:Eff)]:List Eff)) rfl rfl rfl rfl ⟨(Vb.ofAgg (cs:=[(.slice none 0 0),(.int .i64 0),(.int .i64 1)]) (x:=(⟨([]:List Fct),0,1⟩:Eff)) rfl ⟨_,rfl,(Vb.nil _ _),(show inI64 (0) from by decide),(show inI64 (1) from by decide)⟩),trivial⟩ (by decide) (by decide) rfl fun l1 j2 k2 d0 w0=>?_
 refine Dh rfl rfl rfl ?_
 obtain ⟨m1,e0,w0⟩:=w0.freeze
 refine Cj 6 (by decide) m1 (xs:=([(⟨(⟨#[]⟩:ByteArray),3,([]:List Fct),[(⟨([]:List Fct),0,1⟩:Eff)]⟩:Opr)]:List Opr)) rfl rfl rfl rfl ⟨(Vb.ofAgg (cs:=[(.string (⟨#[]⟩:ByteArray)),(.int .i64 3),(.slice none 0 0),(.slice (some ⟨l1,0,none⟩) [(⟨([]:List Fct),0,1⟩:Eff)].length 1)]) (x:=(⟨(⟨#[]⟩:ByteArray),3,([]:List Fct),[(⟨([]:List Fct),0,1⟩:Eff)]⟩:Opr)) rfl ⟨_,_,rfl,(Vb.nil _ _),w0,(show inI64 (3) from by decide),(show (⟨#[]⟩:ByteArray).size≤9223372036854775807 from by decide)⟩),trivial⟩ (by decide) (by decide) rfl fun d1 l2 n1 f0 s0=>?_
 refine Dh rfl rfl rfl ?_
 refine Bh 7 n1 rfl fun o1 m2 p1 b0 t0=>?_
 refine AZ t0 rfl rfl rfl (Bj rfl) (allOne rfl) fun q1 c0 t0=>?_
 replace t0:Lc 7 q1 p1 o1 26 [(.slice (some ⟨g1,0,none⟩) ([2]:List Int).length 1),(.slice (some ⟨g7,0,none⟩) ([0]:List Int).length 1),(.slice (some ⟨c1,0,none⟩) [(⟨0,1⟩:Fct)].length 1),(.slice (some ⟨d1,0,none⟩) [(⟨(⟨#[]⟩:ByteArray),3,([]:List Fct),[(⟨([]:List Fct),0,1⟩:Eff)]⟩:Opr)].length 1)]:=t0
 refine o_z ?_
 refine Al (Aj (Bk (hl:=rfl) (hc:=(t0.1).cellsAt) rfl rfl ?_))
 replace h5:=((((((h5.st l0).st k0).st d0).st e0).st f0).st b0).st c0
 obtain ⟨n2,g0,h5⟩:=h5.freeze
 replace m0:=((((((m0.st k0).st d0).st e0).st f0).st b0).st c0).st g0
 obtain ⟨o2,h0,m0⟩:=m0.freeze
 replace n0:=((((((n0.st d0).st e0).st f0).st b0).st c0).st g0).st h0
 obtain ⟨p2,i0,n0⟩:=n0.freeze
 replace s0:=((((s0.st b0).st c0).st g0).st h0).st i0
 obtain ⟨r1,j0,s0⟩:=s0.freeze
 obtain ⟨u0,s1,hm⟩:=bs hm
 replace h5:=((h5.st h0).st i0).st j0
 replace m0:=(m0.st i0).st j0
 replace n0:=n0.st j0
 refine Bq (O:=r1) (R:=fun w' F v=>T2 w' F v u0) (Hg Fr.lt (Vb.ofAgg (cs:=[(.slice (some ⟨g1,0,none⟩) ([2]:List Int).length 1),(.slice (some ⟨g7,0,none⟩) ([0]:List Int).length 1),(.slice (some ⟨c1,0,none⟩) [(⟨0,1⟩:Fct)].length 1),(.slice (some ⟨d1,0,none⟩) [(⟨(⟨#[]⟩:ByteArray),3,([]:List Fct),[(⟨([]:List Fct),0,1⟩:Eff)]⟩:Opr)].length 1)]) (x:=(⟨([2]:List Int),([0]:List Int),[(⟨0,1⟩:Fct)],[(⟨(⟨#[]⟩:ByteArray),3,([]:List Fct),[(⟨([]:List Fct),0,1⟩:Eff)]⟩:Opr)]⟩:Tsk)) rfl ⟨_,_,_,_,rfl,h5,m0,n0,s0⟩) (Vb.nil _ _) (show inI64 (10) from by decide) s1) rfl rfl fun q2 r2 t1 r0 u1=>?_
 obtain ⟨s2,t2,rfl,v1,w1⟩:=u1
 obtain ⟨x1,rfl,u2,rfl,v0,v2,x2,y2⟩:=v1
 obtain ⟨y1,z1,rfl⟩:=v0.form
 obtain ⟨rfl,z2⟩:=w1.err
 refine Ar rfl rfl (CI rfl rfl rfl (CI rfl rfl rfl (Bh 8 t1 rfl fun a2 a3 e1 o0 p0=>?_)))
 refine AZ p0 rfl rfl rfl (Bj rfl) (allOne rfl) fun b2 q0 p0=>?_
 replace p0:Lc 8 b2 e1 a2 32 [(.int .i64 u0.1.verdict),(.slice y1 u0.1.plan.length z1),(.int .i64 u0.1.cost),(.int .i64 u0.1.expanded)]:=p0
 refine Au rfl rfl (o_z ?_)
 refine Al ?_
 obtain ⟨c2,a0,hm⟩:=bs hm
 refine AH (fun l' w'=>∃ (d2:Unit) (O':Lab),subs l' [(0,(.bool c2))]∧Bs w A w' O') ?_ ?_
 ·
  refine Aj (Ar rfl rfl (Pn rfl rfl (fun x0=>?_) fun x0=>?_))
  ·
   replace a0:=ip a0 x0
   refine Ar rfl rfl (Az rfl rfl (AN rfl rfl (Az rfl rfl (AG (hc:=Blk.cell (i:=0) (p0.1) rfl) rfl rfl ?_))))
   refine Az rfl rfl (EP rfl rfl rfl (fun y0=>?_) fun y0=>?_)
   ·
    replace a0:=ip a0 y0
    refine BA rfl rfl rfl (Ar rfl rfl (Az rfl rfl (AN rfl rfl (Az rfl rfl (AG (hc:=Blk.cell (i:=2) (p0.1) rfl) rfl rfl ?_)))))
    refine Az rfl rfl (EP rfl rfl rfl (fun z0=>?_) fun z0=>?_)
    ·
     replace a0:=ip a0 z0
     refine BA rfl rfl rfl (Ar rfl rfl (Az rfl rfl (AN rfl rfl (Az rfl rfl (AG (hc:=Blk.cell (i:=1) (p0.1) rfl) rfl rfl ?_)))))
     refine Az rfl rfl (Cj 9 (by decide) e1 (xs:=(([0]:List Int):List Int)) rfl rfl rfl rfl ⟨(vInt (show inI64 (0) from by decide)),trivial⟩ (by decide) (by decide) rfl fun b3 f1 h1 a1 e2=>?_)
     refine Az rfl rfl ?_
     obtain ⟨i1,f2,a0⟩:=bs a0
     replace v0:=((v0.st o0).st q0).st a1
     refine Bi (O:=h1) (A:=All f1) (R:=fun w' F v=>Vb w' F v i1) (Mc (fun _ h=>h) (Vb.mono (F:=Fr 0 f1 h1) v0 Fr.lt) (e2).all f2) rfl rfl fun c3 d3 e3 j1 g2=>?_
     obtain rfl:=g2.bool
     cases i1
     case false =>
      replace a0:=iF a0
      refine BA rfl rfl rfl (Au rfl rfl (o_z ?_))
      obtain rfl:=sm a0
      exact ⟨(),_,⟨rfl,trivial⟩,((((((((((((((((hB.st S4).st l0).st k0).st d0).st e0).st f0).st b0).st c0).st g0).st h0).st i0).st j0).st r0).st o0).st q0).st a1).st j1⟩
     replace a0:=iT a0
     refine BA rfl rfl rfl (Au rfl rfl (o_z ?_))
     obtain rfl:=sm a0
     exact ⟨(),_,⟨rfl,trivial⟩,((((((((((((((((hB.st S4).st l0).st k0).st d0).st e0).st f0).st b0).st c0).st g0).st h0).st i0).st j0).st r0).st o0).st q0).st a1).st j1⟩
    replace a0:=im a0 z0
    refine BA rfl rfl rfl (Ar rfl rfl (Ay rfl rfl rfl rfl (Ay rfl rfl rfl rfl (Ay rfl rfl rfl rfl (Ay rfl rfl rfl rfl (BD rfl rfl rfl (Au rfl rfl (o_z ?_))))))))
    obtain rfl:=sm a0
    exact ⟨(),_,⟨rfl,trivial⟩,((((((((((((((hB.st S4).st l0).st k0).st d0).st e0).st f0).st b0).st c0).st g0).st h0).st i0).st j0).st r0).st o0).st q0⟩
   replace a0:=im a0 y0
   refine BA rfl rfl rfl (Ar rfl rfl (Ay rfl rfl rfl rfl (Ay rfl rfl rfl rfl (Ay rfl rfl rfl rfl (BD rfl rfl rfl (Ar rfl rfl (Ay rfl rfl rfl rfl (Ay rfl rfl rfl rfl (Ay rfl rfl rfl rfl (Ay rfl rfl rfl rfl (BD rfl rfl rfl (Au rfl rfl (o_z ?_)))))))))))))
   obtain rfl:=sm a0
   exact ⟨(),_,⟨rfl,trivial⟩,((((((((((((((hB.st S4).st l0).st k0).st d0).st e0).st f0).st b0).st c0).st g0).st h0).st i0).st j0).st r0).st o0).st q0⟩
  replace a0:=im a0 x0
  refine Ar rfl rfl (Ay rfl rfl rfl rfl (Ay rfl rfl rfl rfl (Ay rfl rfl rfl rfl (BD rfl rfl rfl (Ar rfl rfl (Ay rfl rfl rfl rfl (Ay rfl rfl rfl rfl (Ay rfl rfl rfl rfl (BD rfl rfl rfl (Ar rfl rfl (Ay rfl rfl rfl rfl (Ay rfl rfl rfl rfl (Ay rfl rfl rfl rfl (Ay rfl rfl rfl rfl ?_))))))))))))))
  refine BD rfl rfl rfl (Au rfl rfl (o_z ?_))
  obtain rfl:=sm a0
  exact ⟨(),_,⟨rfl,trivial⟩,((((((((((((((hB.st S4).st l0).st k0).st d0).st e0).st f0).st b0).st c0).st g0).st h0).st i0).st j0).st r0).st o0).st q0⟩
 replace hB:=((((((((((((((hB.st S4).st l0).st k0).st d0).st e0).st f0).st b0).st c0).st g0).st h0).st i0).st j0).st r0).st o0).st q0
 rintro f3 g3 ⟨d2,h3,b1,hB⟩
 refine AO _ b1 ?_
 refine AJ ?_
 obtain rfl:=sm hm
 exact ret1v rfl (AD rfl) ⟨hB.ext,vBool⟩
noncomputable def EA (x0:Tsk) (x1:List Swp):Option Bool :=
  if 12 < (x1.length:Int) then (some false) else (bnd (rng (ρ:=Bool) (fun (k36:Nat) (a37:Swp) (s34:Unit)=>bnd (DN x0 a37) fun q73=>if q73=true then some (.next ()) else some (.ret false)) x1 0 ()) fun res32=>fin res32 fun (s84:Unit)=>some true)
theorem KT {w:World} {A:Nat→Prop} (hA:∀ k,A k→k < w.heap.size) {vx0:Value} {x0:Tsk} (e1:Vb w A vx0 x0) {vx1:Value} {x1:List Swp} (b0:Vb w A vx1 x1) {r:Bool} (hm:EA x0 x1=some r) :
    Fn Tryz.prog 10 [vx0,vx1] w fun v w'=>Ext w w'∧Vb w' (upA A w w') v r:=by
 obtain ⟨O,hB,o1⟩:=enter hA
 replace e1:=e1.mono o1
 obtain ⟨j2,rfl,v4,v5,v6,v7,rfl,h8,e0,f0,g0⟩:=e1
 obtain ⟨A9,p0,rfl⟩:=h8.form
 obtain ⟨q0,r0,rfl⟩:=e0.form
 obtain ⟨s0,t0,rfl⟩:=f0.form
 obtain ⟨u0,v0,rfl⟩:=g0.form
 replace b0:=b0.mono o1
 obtain ⟨p1,q1,rfl⟩:=b0.form
 refine AK Tryz.func10 rfl Tryz.ntmps10 rfl ?_
 unfold EA at hm
 refine Al (Aj (BS 2 O rfl rfl fun f1 a2 r1 i0 h0=>?_))
 replace h0:Lc 2 a2 r1 f1 26 [(.slice A9 x0.vars.length p0),(.slice q0 x0.init.length r0),(.slice s0 x0.goal.length t0),(.slice u0 x0.ops.length v0)]:=h0
 refine Au rfl rfl (o_z ?_)
 refine Al (Al (Aj (Ar rfl rfl (AY rfl rfl ?_))))
 replace b0:=b0.st i0
 have b2:x1.length≤9223372036854775807:=Nat.le_trans b0.len.2.1 b0.len.2.2
 have k2:inI64 (x1.length:Int):=rngNat b2
 refine Dg rfl rfl rfl (fun g1=>?_) fun g1=>?_
 ·
  replace hm:=ip hm g1
  refine o_z ?_
  refine Ah rfl (Al (Aj (Au rfl rfl (o_z ?_))))
  refine AJ ?_
  obtain rfl:=sm hm
  replace hB:=hB.st i0
  exact ret1v rfl (AD rfl) ⟨hB.ext,vBool⟩
 replace hm:=im hm g1
 refine o_z ?_
 refine Ae rfl (AM (Al (Al (Aj (Ar rfl rfl (AY rfl rfl ?_))))))
 have h1:x1.length≤9223372036854775807:=Nat.le_trans b0.len.2.1 b0.len.2.2
 have l2:inI64 (x1.length:Int):=rngNat h1
 refine Ar rfl rfl (o_z ?_)
 obtain ⟨m0,i1,hm⟩:=bs hm
 refine AH (aft m0 (fun (w0:Unit) (y0:Unit)=>[]) (fun w0 y0 w'=>∃ O':Lab,Bs w A w' O')) ?_ ?_
 ·
  refine AU ?_
  replace hB:=hB.st i0
  replace h8:=h8.st i0
  replace e0:=e0.st i0
  replace f0:=f0.st i0
  replace g0:=g0.st i0
  refine Bu (σ:=Unit) (X:=Unit) (x1.length) i1 rfl h1 (fun (w0:Unit) (y0:Unit)=>[(2,(.pointer (some ⟨f1,0,none⟩))),(10,(.slice p1 x1.length q1))]) _ (fun w0 y0 w'=>∃ O':Lab,Bs w A w' O'∧Lc 2 w' O' f1 26 [(.slice A9 x0.vars.length p0),(.slice q0 x0.init.length r0),(.slice s0 x0.goal.length t0),(.slice u0 x0.ops.length v0)]∧Vb w' (Fr 0 w' O') (.slice A9 x0.vars.length p0) x0.vars∧Vb w' (Fr 0 w' O') (.slice q0 x0.init.length r0) x0.init∧Vb w' (Fr 0 w' O') (.slice s0 x0.goal.length t0) x0.goal∧Vb w' (Fr 0 w' O') (.slice u0 x0.ops.length v0) x0.ops∧Vb w' (Fr 0 w' O') (.slice p1 x1.length q1) x1) _ () ⟨r1,hB,h0,h8,e0,f0,g0,b0⟩ ⟨rfl,rfl,rfl,rfl,trivial⟩ (fun _ _=>⟨rfl,rfl⟩) (fun _ _=>trivial) (fun _ _ _ ⟨O',hB,h0,h8,e0,f0,g0,b0⟩=>⟨O',hB⟩) ⟨rfl,rfl,rfl⟩ ⟨rfl,rfl⟩ ?_
  rintro c2 k0 w0 y0 m2 d2 n0 ⟨e2,hB,h0,h8,e0,f0,g0,b0⟩ a0 l0 j1
  have rk36:inI64 (c2:Int):=rngK n0 h1
  refine Al (Aj ?_)
  obtain ⟨n2,o2,f2,k1,l1,m1,p2,q2,r2,rfl,z0,a1,b1⟩:=b0.elem' n0
  obtain ⟨s1,t1,rfl⟩:=z0.form
  obtain ⟨u1,v1,rfl⟩:=a1.form
  obtain ⟨w1,y1,rfl⟩:=b1.form
  refine Bv (hA:=k1) (hj:=rfl) (hlt:=l1) rfl rfl rfl ?_
  refine Bk (hl:=rfl) (hc:=m1) rfl rfl ?_
  refine Bh 3 e2 rfl fun g2 s2 c1 c0 o0=>?_
  refine AZ o0 rfl rfl rfl (Bj rfl) (allOne rfl) fun d1 d0 o0=>?_
  replace o0:Lc 3 d1 c1 g2 53 [(.slice s1 k0.vars.length t1),(.slice u1 k0.vals.length v1),(.slice w1 k0.ops.length y1)]:=o0
  refine o_z ?_
  refine Al (Aj ?_)
  replace h0:=(h0.st c0).st d0
  refine Bk (hl:=rfl) (hc:=(h0.1).cellsAt) rfl rfl ?_
  refine Bk (hl:=rfl) (hc:=(o0.1).cellsAt) rfl rfl ?_
  obtain ⟨z1,h2,a0⟩:=bs a0
  replace h8:=(h8.st c0).st d0
  replace e0:=(e0.st c0).st d0
  replace f0:=(f0.st c0).st d0
  replace g0:=(g0.st c0).st d0
  replace z0:=(z0.st c0).st d0
  replace a1:=(a1.st c0).st d0
  replace b1:=(b1.st c0).st d0
  refine Bi (O:=c1) (A:=All d1) (R:=fun w' F v=>Vb w' F v z1) (KQ (fun _ h=>h) (Vb.mono (F:=Fr 0 d1 c1) (Vb.ofAgg (cs:=[(.slice A9 x0.vars.length p0),(.slice q0 x0.init.length r0),(.slice s0 x0.goal.length t0),(.slice u0 x0.ops.length v0)]) (x:=x0) rfl ⟨_,_,_,_,rfl,h8,e0,f0,g0⟩) Fr.lt) (Vb.mono (F:=Fr 0 d1 c1) (Vb.ofAgg (cs:=[(.slice s1 k0.vars.length t1),(.slice u1 k0.vals.length v1),(.slice w1 k0.ops.length y1)]) (x:=k0) rfl ⟨_,_,_,rfl,z0,a1,b1⟩) Fr.lt) h2) rfl rfl fun t2 u2 v2 j0 i2=>?_
  obtain rfl:=i2.bool
  cases z1
  case false =>
   replace a0:=iF a0
   refine Ct rfl rfl (o_z ?_)
   refine Ah rfl (Al (Aj (Au rfl rfl (o_z ?_))))
   refine AJ ?_
   obtain rfl:=sm a0
   obtain rfl:=l0 _ rfl
   obtain rfl:=sm (BM hm)
   replace hB:=((hB.st c0).st d0).st j0
   exact ret1v rfl (AD rfl) ⟨hB.ext,vBool⟩
  replace a0:=iT a0
  refine Cs rfl rfl (o_z ?_)
  refine Ae rfl (AM ?_)
  obtain rfl:=sm a0
  exact show Exists _ from ⟨_,(),rfl,⟨rfl,rfl,rfl,rfl,trivial⟩,_,((hB.st c0).st d0).st j0,h0.st j0,h8.st j0,e0.st j0,f0.st j0,g0.st j0,((b0.st c0).st d0).st j0⟩
 replace hB:=hB.st i0
 rintro w2 x2 ⟨y2,z2,rfl,n1,a3,hB⟩
 replace hm:=Be hm
 refine AO _ n1 ?_
 refine Al (Aj (Au rfl rfl (o_z ?_)))
 refine AJ ?_
 obtain rfl:=sm hm
 exact ret1v rfl (AD rfl) ⟨hB.ext,vBool⟩
noncomputable def Dw (x0:Tsk) (x1:List Swp):Option (List Bool) :=
  bnd (DO x0.vars) fun q27=>bnd (mkI 1 (false:Bool) (q27.length:Int)) fun u38=>bnd (CA x1 x0.init) fun q51=>bnd (DY x0.vars q51.1) fun q72=>bnd (atI u38 q72) fun a80=>bnd (lop (ρ:=(List Bool)) (fun (s95:(List Bool)×(List (List Int))×Int)=>if s95.2.2 < (s95.2.1.length:Int) then (bnd (bnd (atI s95.2.1 s95.2.2) fun a129=>bnd (Eg x0.goal a129) fun q144=>if q144=true then some (s95.1,s95.2.1) else bnd (rng (ρ:=(List Bool)×(List (List Int))) (fun (k157:Nat) (a158:Opr) (s155:(List Bool)×(List (List Int)))=>bnd (atI s155.2 s95.2.2) fun a176=>bnd (Dl x0 a176 (k157:Int)) fun q191=>if (!q191.2)=true then (some (.next (s155.1,s155.2))) else (bnd (CA x1 q191.1) fun q205=>bnd (DY x0.vars q205.1) fun q220=>bnd (atI s155.1 q220) fun a228=>if (!a228)=true then (bnd (atI s155.1 q220) fun a240=>bnd (appI 24 s155.2 [q205.1]) fun u253=>some (.next ((s155.1.set (q220:Int).toNat true),u253))) else (some (.next (s155.1,s155.2))))) x0.ops 0 (s95.1,s95.2.1)) fun res153=>fin res153 fun (s269:(List Bool)×(List (List Int)))=>some (s269.1,s269.2):Option ((List Bool)×(List (List Int)))) fun y121=>bnd (chkI (s95.2.2 + 1)) fun n275=>some (.next (y121.1,y121.2,n275))) else (some (.brk (s95.1,s95.2.1,s95.2.2)))) ((u38.set (q72:Int).toNat true),[q51.1],0)) fun res93=>fin res93 fun (s282:(List Bool)×(List (List Int))×Int)=>some s282.1
theorem IJ {w:World} {A:Nat→Prop} (hA:∀ k,A k→k < w.heap.size) {vx0:Value} {x0:Tsk} (q3:Vb w A vx0 x0) {vx1:Value} {x1:List Swp} (j0:Vb w A vx1 x1) {r:(List Bool)} (hm:Dw x0 x1=some r) :
    Fn Tryz.prog 16 [vx0,vx1] w fun v w'=>Ext w w'∧Vb w' (upA A w w') v r:=by
 obtain ⟨O,hB,l5⟩:=enter hA
 replace q3:=q3.mono l5
 obtain ⟨d9,rfl,v4,v5,v6,v7,rfl,h8,l0,n0,o0⟩:=q3
 obtain ⟨A9,b1,rfl⟩:=h8.form
 obtain ⟨c1,d1,rfl⟩:=l0.form
 obtain ⟨e1,f1,rfl⟩:=n0.form
 obtain ⟨g1,h1,rfl⟩:=o0.form
 replace j0:=j0.mono l5
 obtain ⟨v1,w1,rfl⟩:=j0.form
 refine AK Tryz.func16 rfl Tryz.ntmps16 rfl ?_
 unfold Dw at hm
 refine Al (Aj (BS 2 O rfl rfl fun n1 x5 m5 b2 f0=>?_))
 replace f0:Lc 2 x5 m5 n1 26 [(.slice A9 x0.vars.length b1),(.slice c1 x0.init.length d1),(.slice e1 x0.goal.length f1),(.slice g1 x0.ops.length h1)]:=f0
 refine Au rfl rfl (o_z ?_)
 refine Al (Aj (AN rfl rfl (AG (hc:=Blk.cell (i:=0) (f0.1) rfl) rfl rfl ?_)))
 obtain ⟨r3,y5,hm⟩:=bs hm
 replace h8:=h8.st b2
 refine Bq (O:=m5) (R:=fun w' F v=>Vb w' F v r3) (KR Fr.lt h8 y5) rfl rfl fun e9 f9 z5 y1 s3=>?_
 obtain ⟨g9,h9,rfl⟩:=s3.form
 refine Au rfl rfl (o_z ?_)
 refine Al (Aj (Ar rfl rfl (AY rfl rfl ?_)))
 have a6:r3.length≤9223372036854775807:=Nat.le_trans s3.len.2.1 s3.len.2.2
 have i9:inI64 (r3.length:Int):=rngNat a6
 obtain ⟨i1,b6,hm⟩:=bs hm
 obtain ⟨j1,c6,d6,e6,f6⟩:=CE b6
 refine Di 3 (by decide) z5 (z0:=(false:Bool)) rfl rfl rfl rfl rfl c6 vBool d6 e6 rfl fun k1 j9 g6 z1 c2=>?_
 rw [← f6] at c2 ⊢
 refine Au rfl rfl (o_z ?_)
 refine Al (Aj (Ar rfl rfl (AN rfl rfl ?_)))
 replace f0:=(f0.st y1).st z1
 refine AG (hc:=Blk.cell (i:=1) (f0.1) rfl) rfl rfl ?_
 obtain ⟨n5,h6,hm⟩:=bs hm
 replace j0:=((j0.st b2).st y1).st z1
 replace l0:=((l0.st b2).st y1).st z1
 refine Bq (O:=g6) (R:=fun w' F v=>T2 w' F v n5) (Gd Fr.lt j0 l0 h6) rfl rfl fun k9 l9 i6 o1 j6=>?_
 obtain ⟨m9,n9,rfl,l2,k6⟩:=j6
 obtain ⟨o9,p9,rfl⟩:=l2.form
 obtain ⟨q9,r9,rfl⟩:=k6.form
 refine Ar rfl rfl (CI rfl rfl rfl (CI rfl rfl rfl (Au rfl rfl (Au rfl rfl (o_z ?_)))))
 refine Al (Aj (Ar rfl rfl (Cj 4 (by decide) i6 (xs:=([n5.1]:List (List Int))) rfl rfl rfl rfl ⟨l2,trivial⟩ (by decide) (by decide) rfl fun l6 t3 u3 l1 v3=>?_)))
 refine Au rfl rfl (o_z ?_)
 refine Al (Aj (Ar rfl rfl (AN rfl rfl ?_)))
 replace f0:=(f0.st o1).st l1
 refine AG (hc:=Blk.cell (i:=0) (f0.1) rfl) rfl rfl ?_
 refine Ar rfl rfl ?_
 obtain ⟨m6,n6,hm⟩:=bs hm
 replace h8:=(((h8.st y1).st z1).st o1).st l1
 replace l2:=l2.st l1
 refine Bi (O:=u3) (A:=All t3) (R:=fun w' F v=>Vb w' F v m6) (IP (fun _ h=>h) (Vb.mono (F:=Fr 0 t3 u3) h8 Fr.lt) (Vb.mono (F:=Fr 0 t3 u3) l2 Fr.lt) n6) rfl rfl fun s9 t9 o6 m1 p6=>?_
 obtain ⟨rfl,u9⟩:=p6.int
 obtain ⟨v9,q6,hm⟩:=bs hm
 obtain ⟨r6,o5⟩:=AW q6
 replace c2:=((c2.st o1).st l1).st m1
 obtain ⟨w9,x9,s6,m2,w3,t6,rfl⟩:=c2.elem o5
 refine Bv (hA:=m2) (hj:=(Int.toNat_of_nonneg r6).symm) (hlt:=w3) rfl rfl rfl ?_
 refine Dj rfl c2 (a:=true) vBool m2 rfl rfl (AE o5) fun y9 p1 c2=>?_
 refine o_z ?_
 refine Al (Al (Aj (Au rfl rfl (o_z ?_))))
 obtain ⟨n2,x3,hm⟩:=bs hm
 refine AH (aft n2 (fun (s0:(List Bool)×(List (List Int))×Int) (y0:(Option Addr×Nat))=>[(6,(.slice (some ⟨k1,0,none⟩) i1.length j1))]) (fun s0 y0 w'=>∃ O':Lab,Bs w A w' O'∧Rw 3 w' O' 4 (.slice (some ⟨k1,0,none⟩) i1.length j1) s0.1∧inI64 s0.2.2)) ?_ ?_
 ·
  refine AU ?_
  replace hB:=((((((hB.st b2).st y1).st z1).st o1).st l1).st m1).st p1
  replace j0:=(((j0.st o1).st l1).st m1).st p1
  replace h8:=(h8.st m1).st p1
  replace l0:=(((l0.st o1).st l1).st m1).st p1
  replace n0:=((((((n0.st b2).st y1).st z1).st o1).st l1).st m1).st p1
  replace o0:=((((((o0.st b2).st y1).st z1).st o1).st l1).st m1).st p1
  replace f0:=(f0.st m1).st p1
  replace v3:=(v3.st m1).st p1
  refine Fi (σ:=(List Bool)×(List (List Int))×Int) (X:=(Option Addr×Nat)) x3 (fun (s0:(List Bool)×(List (List Int))×Int) (y0:(Option Addr×Nat))=>[(1,(.slice v1 x1.length w1)),(2,(.pointer (some ⟨n1,0,none⟩))),(6,(.slice (some ⟨k1,0,none⟩) i1.length j1)),(9,(.slice y0.1 s0.2.1.length y0.2)),(10,(.int .i64 s0.2.2))]) _ (fun s0 y0 w'=>∃ O':Lab,Bs w A w' O'∧Vb w' (Fr 0 w' O') (.slice v1 x1.length w1) x1∧Lc 2 w' O' n1 26 [(.slice A9 x0.vars.length b1),(.slice c1 x0.init.length d1),(.slice e1 x0.goal.length f1),(.slice g1 x0.ops.length h1)]∧Vb w' (Fr 0 w' O') (.slice A9 x0.vars.length b1) x0.vars∧Vb w' (Fr 0 w' O') (.slice c1 x0.init.length d1) x0.init∧Vb w' (Fr 0 w' O') (.slice e1 x0.goal.length f1) x0.goal∧Vb w' (Fr 0 w' O') (.slice g1 x0.ops.length h1) x0.ops∧Rw 3 w' O' 4 (.slice (some ⟨k1,0,none⟩) i1.length j1) s0.1∧Rw 4 w' O' 22 (.slice y0.1 s0.2.1.length y0.2) s0.2.1∧inI64 s0.2.2) _ ((some ⟨l6,0,none⟩),1) ⟨o6,hB,j0,f0,h8,l0,n0,o0,c2,v3,(show inI64 (0) from by decide)⟩ ⟨rfl,rfl,rfl,rfl,rfl,trivial⟩ ?_
  rintro s0 y0 y3 p5 ⟨q1,hB,j0,f0,h8,l0,n0,o0,q0,v0,o2⟩ h0 n3 r1
  refine Al (Al (Aj (Ar rfl rfl (Ar rfl rfl (AY rfl rfl ?_)))))
  have z3:s0.2.1.length≤9223372036854775807:=Nat.le_trans v0.len.2.1 v0.len.2.2
  have u6:inI64 (s0.2.1.length:Int):=rngNat z3
  refine Da rfl rfl rfl (fun d2=>?_) fun d2=>?_
  ·
   replace h0:=ip h0 d2
   refine o_z ?_
   refine Ah rfl (AM (Al ?_))
   obtain ⟨s1,d0,h0⟩:=bs h0
   refine AH (fun l' w'=>∃ (w0:(Option Addr×Nat)) (O':Lab),subs l' [(1,(.slice v1 x1.length w1)),(2,(.pointer (some ⟨n1,0,none⟩))),(6,(.slice (some ⟨k1,0,none⟩) i1.length j1)),(9,(.slice w0.1 s1.2.length w0.2)),(10,(.int .i64 s0.2.2))]∧Bs w A w' O'∧Vb w' (Fr 0 w' O') (.slice v1 x1.length w1) x1∧Lc 2 w' O' n1 26 [(.slice A9 x0.vars.length b1),(.slice c1 x0.init.length d1),(.slice e1 x0.goal.length f1),(.slice g1 x0.ops.length h1)]∧Vb w' (Fr 0 w' O') (.slice A9 x0.vars.length b1) x0.vars∧Vb w' (Fr 0 w' O') (.slice c1 x0.init.length d1) x0.init∧Vb w' (Fr 0 w' O') (.slice e1 x0.goal.length f1) x0.goal∧Vb w' (Fr 0 w' O') (.slice g1 x0.ops.length h1) x0.ops∧Rw 3 w' O' 4 (.slice (some ⟨k1,0,none⟩) i1.length j1) s1.1∧Rw 4 w' O' 22 (.slice w0.1 s1.2.length w0.2) s1.2) ?_ ?_
   ·
    refine AU (Al (Al (Bt [] q1 ?_)))
    refine AT (fuel:=1) [] [(0,true),(1,true),(2,true),(3,true),(4,true),(5,true)] (by kernel_rfl) rfl ?_
    refine Bc rfl rfl rfl (AV (hc:=fun w' ⟨O',hq⟩=>Blk.cell (i:=2) ((f0.st hq (by decide)).1) rfl) rfl rfl rfl ?_)
    refine AL rfl rfl rfl (AL rfl rfl rfl ?_)
    obtain ⟨w6,a4,d0⟩:=bs d0
    obtain ⟨b4,c4⟩:=AW a4
    obtain ⟨x6,y6,q5,p2,q2,r2,s2,z6,rfl,t1⟩:=v0.elemF c4
    replace t1:=Vb.of_slice t1
    obtain ⟨a7,b7,rfl⟩:=t1.form
    refine Br (hA:=p2) (hj:=(Int.toNat_of_nonneg b4).symm) (hlt:=r2) rfl rfl rfl rfl ?_
    refine AV (hc:=fun w' ⟨O',hq⟩=>cat0 (AR (hq.agree (i:=4) (by decide)) q2 s2)) rfl rfl rfl ?_
    refine AC ?_
    refine AP (i:=6) (by kernel_rfl) rfl ?_
    obtain ⟨t2,d4,d0⟩:=bs d0
    refine Bi (O:=q1) (A:=All y3) (R:=fun w' F v=>Vb w' F v t2) (GC (fun _ h=>h) (Vb.mono (F:=Fr 0 y3 q1) n0 Fr.lt) (Vb.mono (F:=Fr 0 y3 q1) t1 Fr.lt) d4) rfl rfl fun c7 d7 e4 c0 f4=>?_
    obtain rfl:=f4.bool
    cases t2
    case false =>
     replace d0:=iF d0
     refine BZ (by kernel_rfl) ?_
     refine Bn (by kernel_rfl) ?_
     refine Ae rfl (AM (Al (Aj (AN rfl rfl ?_))))
     replace f0:=f0.st c0
     refine AG (hc:=Blk.cell (i:=3) (f0.1) rfl) rfl rfl ?_
     refine AY rfl rfl ?_
     replace o0:=o0.st c0
     have e2:x0.ops.length≤9223372036854775807:=Nat.le_trans o0.len.2.1 o0.len.2.2
     have e7:inI64 (x0.ops.length:Int):=rngNat e2
     refine Ar rfl rfl (o_z ?_)
     obtain ⟨f2,u2,d0⟩:=bs d0
     refine AH (aft f2 (fun (m0:(List Bool)×(List (List Int))) (g0:(Option Addr×Nat))=>[(1,(.slice v1 x1.length w1)),(2,(.pointer (some ⟨n1,0,none⟩))),(6,(.slice (some ⟨k1,0,none⟩) i1.length j1)),(9,(.slice g0.1 m0.2.length g0.2)),(10,(.int .i64 s0.2.2))]) (fun m0 g0 w'=>∃ O':Lab,Bs w A w' O'∧Vb w' (Fr 0 w' O') (.slice v1 x1.length w1) x1∧Lc 2 w' O' n1 26 [(.slice A9 x0.vars.length b1),(.slice c1 x0.init.length d1),(.slice e1 x0.goal.length f1),(.slice g1 x0.ops.length h1)]∧Vb w' (Fr 0 w' O') (.slice A9 x0.vars.length b1) x0.vars∧Vb w' (Fr 0 w' O') (.slice c1 x0.init.length d1) x0.init∧Vb w' (Fr 0 w' O') (.slice e1 x0.goal.length f1) x0.goal∧Vb w' (Fr 0 w' O') (.slice g1 x0.ops.length h1) x0.ops∧Rw 3 w' O' 4 (.slice (some ⟨k1,0,none⟩) i1.length j1) m0.1∧Rw 4 w' O' 22 (.slice g0.1 m0.2.length g0.2) m0.2)) ?_ ?_
     ·
      refine AU ?_
      replace hB:=hB.st c0
      replace j0:=j0.st c0
      replace h8:=h8.st c0
      replace l0:=l0.st c0
      replace n0:=n0.st c0
      replace q0:=q0.st c0
      replace v0:=v0.st c0
      refine Bu (σ:=(List Bool)×(List (List Int))) (X:=(Option Addr×Nat)) (x0.ops.length) u2 rfl e2 (fun (m0:(List Bool)×(List (List Int))) (g0:(Option Addr×Nat))=>[(1,(.slice v1 x1.length w1)),(2,(.pointer (some ⟨n1,0,none⟩))),(6,(.slice (some ⟨k1,0,none⟩) i1.length j1)),(9,(.slice g0.1 m0.2.length g0.2)),(10,(.int .i64 s0.2.2))]) _ (fun m0 g0 w'=>∃ O':Lab,Bs w A w' O'∧Vb w' (Fr 0 w' O') (.slice v1 x1.length w1) x1∧Lc 2 w' O' n1 26 [(.slice A9 x0.vars.length b1),(.slice c1 x0.init.length d1),(.slice e1 x0.goal.length f1),(.slice g1 x0.ops.length h1)]∧Vb w' (Fr 0 w' O') (.slice A9 x0.vars.length b1) x0.vars∧Vb w' (Fr 0 w' O') (.slice c1 x0.init.length d1) x0.init∧Vb w' (Fr 0 w' O') (.slice e1 x0.goal.length f1) x0.goal∧Vb w' (Fr 0 w' O') (.slice g1 x0.ops.length h1) x0.ops∧Rw 3 w' O' 4 (.slice (some ⟨k1,0,none⟩) i1.length j1) m0.1∧Rw 4 w' O' 22 (.slice g0.1 m0.2.length g0.2) m0.2) _ (y0.1,y0.2) ⟨e4,hB,j0,f0,h8,l0,n0,o0,q0,v0⟩ ⟨rfl,rfl,rfl,rfl,rfl,rfl,rfl,trivial⟩ (fun _ _=>⟨rfl,rfl⟩) (fun _ _=>⟨rfl,rfl,rfl,rfl,rfl,trivial⟩) (fun _ _ _ ⟨O',hB,j0,f0,h8,l0,n0,o0,k0,p0⟩=>⟨O',hB,j0,f0,h8,l0,n0,o0,k0,p0⟩) ⟨rfl,rfl,rfl⟩ ⟨rfl,rfl⟩ ?_
      rintro g4 f7 m0 g0 g7 r5 v2 ⟨w2,hB,j0,f0,h8,l0,n0,o0,k0,p0⟩ a0 o3 p3
      have rk157:inI64 (g4:Int):=rngK v2 e2
      refine Al (Aj (Ar rfl rfl (Au rfl rfl (o_z ?_))))
      refine Al (Bt [] w2 ?_)
      refine AT (fuel:=6) [] [(0,true),(1,true),(2,true),(3,true),(4,true),(5,true)] (by kernel_rfl) rfl ?_
      refine CU (hl:=rfl) (hb:=fun w' ⟨O',hq⟩=>((f0.st hq (by decide)).1).cellsAt) rfl rfl rfl ?_
      refine AL rfl rfl rfl (AL rfl rfl rfl ?_)
      obtain ⟨h7,h4,a0⟩:=bs a0
      obtain ⟨i4,j4⟩:=AW h4
      obtain ⟨i7,j7,s5,x2,y2,z2,a3,k7,rfl,u1⟩:=p0.elemF j4
      replace u1:=Vb.of_slice u1
      obtain ⟨l7,m7,rfl⟩:=u1.form
      refine Br (hA:=x2) (hj:=(Int.toNat_of_nonneg i4).symm) (hlt:=z2) rfl rfl rfl rfl ?_
      refine AV (hc:=fun w' ⟨O',hq⟩=>cat0 (AR (hq.agree (i:=4) (by decide)) y2 a3)) rfl rfl rfl ?_
      refine AL rfl rfl rfl (AC ?_)
      refine AP (i:=6) (by kernel_rfl) rfl ?_
      obtain ⟨k4,l4,a0⟩:=bs a0
      refine Bq (O:=w2) (R:=fun w' F v=>T2 w' F v k4) (LA Fr.lt (Vb.ofAgg (cs:=[(.slice A9 x0.vars.length b1),(.slice c1 x0.init.length d1),(.slice e1 x0.goal.length f1),(.slice g1 x0.ops.length h1)]) (x:=x0) rfl ⟨_,_,_,_,rfl,h8,l0,n0,o0⟩) u1 rk157 l4) rfl rfl fun n7 o7 m4 b0 n4=>?_
      obtain ⟨p7,q7,rfl,b3,o4⟩:=n4
      obtain ⟨r7,s7,rfl⟩:=b3.form
      obtain rfl:=o4.bool
      have hZ:=b0.lst [] (fun _ h=>h.elim)
      refine AX [] hZ (by kernel_rfl) ?_
      refine AT (fuel:=0) [] [(7,true),(8,true),(9,true),(10,true),(11,true)] (by kernel_rfl) rfl ?_
      refine AL rfl rfl rfl (Gz rfl rfl rfl rfl (Gz rfl rfl rfl rfl (Ef rfl rfl rfl (Ef rfl rfl rfl (AC ?_)))))
      refine Bn (by kernel_rfl) ?_
      refine Al (Al (Aj (Ar rfl rfl (CV rfl rfl (o_z ?_)))))
      refine BK rfl (fun g2=>?_) (fun g2=>?_)
      ·
       replace a0:=ip a0 g2
       refine De ?_
       obtain rfl:=sm a0
       exact show Exists _ from ⟨_,(g0.1,g0.2),rfl,⟨rfl,rfl,rfl,rfl,rfl,rfl,rfl,trivial⟩,_,hB.st b0,j0.st b0,f0.st b0,h8.st b0,l0.st b0,n0.st b0,o0.st b0,k0.st b0,p0.st b0⟩
      replace a0:=im' a0 g2
      refine AM (Al (Aj (Ar rfl rfl (Ar rfl rfl ?_))))
      obtain ⟨c3,p4,a0⟩:=bs a0
      replace j0:=j0.st b0
      refine Bq (O:=m4) (R:=fun w' F v=>T2 w' F v c3) (Gd Fr.lt j0 b3 p4) rfl rfl fun t7 h2 i2 i0 q4=>?_
      obtain ⟨u7,w7,rfl,a1,r4⟩:=q4
      obtain ⟨x7,y7,rfl⟩:=a1.form
      obtain ⟨z7,a8,rfl⟩:=r4.form
      refine Ar rfl rfl (CI rfl rfl rfl (CI rfl rfl rfl (Au rfl rfl (o_z ?_))))
      refine Al (Aj (AN rfl rfl ?_))
      replace f0:=(f0.st b0).st i0
      refine AG (hc:=Blk.cell (i:=0) (f0.1) rfl) rfl rfl ?_
      refine Ar rfl rfl ?_
      obtain ⟨s4,t4,a0⟩:=bs a0
      replace h8:=(h8.st b0).st i0
      refine Bi (O:=i2) (A:=All h2) (R:=fun w' F v=>Vb w' F v s4) (IP (fun _ h=>h) (Vb.mono (F:=Fr 0 h2 i2) h8 Fr.lt) (Vb.mono (F:=Fr 0 h2 i2) a1 Fr.lt) t4) rfl rfl fun b8 c8 d8 e0 u4=>?_
      obtain ⟨rfl,e8⟩:=u4.int
      refine Au rfl rfl (o_z ?_)
      refine Al (Aj (Ar rfl rfl (Ar rfl rfl ?_)))
      obtain ⟨f8,w4,a0⟩:=bs a0
      obtain ⟨x4,y4⟩:=AW w4
      replace k0:=((k0.st b0).st i0).st e0
      obtain ⟨g8,i8,t5,d3,e3,f3,rfl⟩:=k0.elem y4
      refine Bv (hA:=d3) (hj:=(Int.toNat_of_nonneg x4).symm) (hlt:=e3) rfl rfl rfl ?_
      refine AG (hc:=cat0 f3) rfl rfl ?_
      refine CV rfl rfl (o_z ?_)
      refine BK rfl (fun j2=>?_) (fun j2=>?_)
      ·
       replace a0:=ip a0 j2
       refine Al (Aj (Ar rfl rfl (Ar rfl rfl ?_)))
       obtain ⟨j8,z4,a0⟩:=bs a0
       obtain ⟨a5,g3⟩:=AW z4
       obtain ⟨k8,l8,u5,a2,h3,w5,rfl⟩:=k0.elem g3
       refine Bv (hA:=a2) (hj:=(Int.toNat_of_nonneg a5).symm) (hlt:=h3) rfl rfl rfl ?_
       refine Dj rfl k0 (a:=true) vBool a2 rfl rfl (AE g3) fun m8 r0 k0=>?_
       refine o_z ?_
       refine Aj (Ar rfl rfl (Ar rfl rfl ?_))
       obtain ⟨n8,k2,a0⟩:=bs a0
       obtain ⟨k2,b5,c5⟩:=Cc k2
       replace p0:=(((p0.st b0).st i0).st e0).st r0
       replace a1:=(a1.st e0).st r0
       refine CY rfl (a:=c3.1) p0 a1 (fun _=>rfl) rfl (by decide) (by decide) b5 c5 ⟨rfl,rfl⟩ fun o8 d5 e5 p8 q8 t0 i3=>?_
       rw [← k2] at i3 ⊢
       refine Au rfl rfl (o_z ?_)
       obtain rfl:=sm a0
       exact show Exists _ from ⟨_,(d5,e5),rfl,⟨rfl,rfl,rfl,rfl,rfl,rfl,rfl,trivial⟩,_,((((hB.st b0).st i0).st e0).st r0).st t0,(((j0.st i0).st e0).st r0).st t0,((f0.st e0).st r0).st t0,((h8.st e0).st r0).st t0,((((l0.st b0).st i0).st e0).st r0).st t0,((((n0.st b0).st i0).st e0).st r0).st t0,((((o0.st b0).st i0).st e0).st r0).st t0,k0.st t0,i3⟩
      replace a0:=im' a0 j2
      refine AM ?_
      obtain rfl:=sm a0
      exact show Exists _ from ⟨_,(g0.1,g0.2),rfl,⟨rfl,rfl,rfl,rfl,rfl,rfl,rfl,trivial⟩,_,((hB.st b0).st i0).st e0,(j0.st i0).st e0,f0.st e0,h8.st e0,((l0.st b0).st i0).st e0,((n0.st b0).st i0).st e0,((o0.st b0).st i0).st e0,k0,((p0.st b0).st i0).st e0⟩
     replace hB:=hB.st c0
     replace j0:=j0.st c0
     replace h8:=h8.st c0
     replace l0:=l0.st c0
     replace n0:=n0.st c0
     rintro r8 s8 ⟨t8,j3,rfl,u0,u8,hB,j0,f0,h8,l0,n0,o0,k0,p0⟩
     replace d0:=Be d0
     obtain rfl:=sm d0
     exact ⟨(j3.1,j3.2),_,⟨(BX u0 _ _ rfl),(BX u0 _ _ rfl),(BX u0 _ _ rfl),(BX u0 _ _ rfl),(BX u0 _ _ rfl),trivial⟩,hB,j0,f0,h8,l0,n0,o0,k0,p0⟩
    replace d0:=iT d0
    refine BZ (by kernel_rfl) ?_
    refine Bn (by kernel_rfl) ?_
    refine Ah rfl (De ?_)
    obtain rfl:=sm d0
    exact ⟨(y0.1,y0.2),_,⟨rfl,rfl,rfl,rfl,rfl,trivial⟩,hB.st c0,j0.st c0,f0.st c0,h8.st c0,l0.st c0,n0.st c0,o0.st c0,q0.st c0,v0.st c0⟩
   rintro v8 w8 ⟨w0,x8,k3,hB,j0,f0,h8,l0,n0,o0,f5,g5⟩
   refine AO _ k3 ?_
   refine Aj (Ar rfl rfl ?_)
   obtain ⟨y8,l3,h0⟩:=bs h0
   have h5:=(Co l3)
   refine Gk (he:=l3) rfl rfl rfl ?_
   refine Au rfl rfl (o_z ?_)
   obtain rfl:=sm h0
   exact show Exists _ from ⟨_,(w0.1,w0.2),rfl,⟨rfl,rfl,rfl,rfl,rfl,trivial⟩,_,hB,j0,f0,h8,l0,n0,o0,f5,g5,h5⟩
  replace h0:=im h0 d2
  refine o_z ?_
  refine Ae rfl (De ?_)
  obtain rfl:=sm h0
  exact show Exists _ from ⟨_,(y0.1,y0.2),r1 _ rfl,⟨rfl,trivial⟩,_,hB,q0,o2⟩
 replace hB:=((((((hB.st b2).st y1).st z1).st o1).st l1).st m1).st p1
 rintro z8 i5 ⟨a9,b9,rfl,m3,c9,hB,q0,o2⟩
 replace hm:=Be hm
 refine AO _ m3 ?_
 refine Al (Aj (Ar rfl rfl (Au rfl rfl (o_z ?_))))
 refine AJ ?_
 obtain ⟨j5,k5,q0⟩:=q0.freeze
 obtain rfl:=sm hm
 replace hB:=hB.st k5
 exact ret1v rfl (AD rfl) ⟨hB.ext,(Vb.mono (F:=Fr 0 i5 j5) q0 hB.out)⟩
noncomputable def DB (x0:Tsk) (x1:List Swp):Option Bool :=
  bnd (bnd (GD x0) fun q31=>if q31=true then bnd (EA x0 x1) fun q38=>if q38=true then bnd (DQ) fun q45=>if q45=true then some false else some true else some true else some true:Option Bool) fun y27=>if y27=true then (bnd (bnd (DQ) fun q61=>if q61=true then some true else some false:Option Bool) fun y57=>some y57) else (bnd (CK x0 x1 1000) fun q72=>bnd (Dw x0 x1) fun q99=>bnd (rng (ρ:=Bool) (fun (k114:Nat) (a115:Bool) (s112:Int)=>if a115=true then (bnd (chkI (s112 + 1)) fun n135=>some (.next n135)) else (some (.next s112))) q99 0 0) fun res110=>fin res110 fun (s142:Int)=>if q72.2.n≠0 then (some false) else (if q72.1.verdict=2 then (bnd (if q72.1.expanded=s142 then (some true) else (some false):Option Bool) fun y146=>some y146) else (bnd (if q72.1.verdict=1 then (if q72.1.expanded < s142 then (some true) else (some false)) else (some false):Option Bool) fun y155=>some y155)))
theorem HD {w:World} {A:Nat→Prop} (hA:∀ k,A k→k < w.heap.size) {vx0:Value} {x0:Tsk} (h2:Vb w A vx0 x0) {vx1:Value} {x1:List Swp} (l0:Vb w A vx1 x1) {r:Bool} (hm:DB x0 x1=some r) :
    Fn Tryz.prog 4 [vx0,vx1] w fun v w'=>Ext w w'∧Vb w' (upA A w w') v r:=by
 obtain ⟨O,hB,y2⟩:=enter hA
 replace h2:=h2.mono y2
 obtain ⟨b5,rfl,v4,v5,v6,v7,rfl,h8,i0,j0,k0⟩:=h2
 obtain ⟨A9,b1,rfl⟩:=h8.form
 obtain ⟨c1,d1,rfl⟩:=i0.form
 obtain ⟨e1,f1,rfl⟩:=j0.form
 obtain ⟨g1,h1,rfl⟩:=k0.form
 replace l0:=l0.mono y2
 obtain ⟨z2,a3,rfl⟩:=l0.form
 refine AK Tryz.func4 rfl Tryz.ntmps4 rfl ?_
 unfold DB at hm
 refine Al (Aj (BS 2 O rfl rfl fun i2 j2 k2 o0 q0=>?_))
 replace q0:Lc 2 j2 k2 i2 26 [(.slice A9 x0.vars.length b1),(.slice c1 x0.init.length d1),(.slice e1 x0.goal.length f1),(.slice g1 x0.ops.length h1)]:=q0
 refine Au rfl rfl (o_z ?_)
 refine Al (Al ?_)
 obtain ⟨k3,a0,hm⟩:=bs hm
 refine AH (fun l' w'=>∃ (l3:Unit) (O':Lab),subs l' [(1,(.slice z2 x1.length a3)),(2,(.pointer (some ⟨i2,0,none⟩))),(22,(.bool k3))]∧Bs w A w' O'∧Vb w' (Fr 0 w' O') (.slice z2 x1.length a3) x1∧Lc 2 w' O' i2 26 [(.slice A9 x0.vars.length b1),(.slice c1 x0.init.length d1),(.slice e1 x0.goal.length f1),(.slice g1 x0.ops.length h1)]∧Vb w' (Fr 0 w' O') (.slice A9 x0.vars.length b1) x0.vars∧Vb w' (Fr 0 w' O') (.slice c1 x0.init.length d1) x0.init∧Vb w' (Fr 0 w' O') (.slice e1 x0.goal.length f1) x0.goal∧Vb w' (Fr 0 w' O') (.slice g1 x0.ops.length h1) x0.ops) ?_ ?_
 ·
  refine Aj (Bk (hl:=rfl) (hc:=(q0.1).cellsAt) rfl rfl ?_)
  obtain ⟨b3,m3,a0⟩:=bs a0
  replace h8:=h8.st o0
  replace i0:=i0.st o0
  replace j0:=j0.st o0
  replace k0:=k0.st o0
  refine Bi (O:=k2) (A:=All j2) (R:=fun w' F v=>Vb w' F v b3) (Lu (fun _ h=>h) (Vb.mono (F:=Fr 0 j2 k2) (Vb.ofAgg (cs:=[(.slice A9 x0.vars.length b1),(.slice c1 x0.init.length d1),(.slice e1 x0.goal.length f1),(.slice g1 x0.ops.length h1)]) (x:=x0) rfl ⟨_,_,_,_,rfl,h8,i0,j0,k0⟩) Fr.lt) m3) rfl rfl fun c5 l2 m2 p0 n3=>?_
  obtain rfl:=n3.bool
  cases b3
  case false =>
   replace a0:=iF a0
   refine Ct rfl rfl (Ar rfl rfl (Ay rfl rfl rfl rfl (Ay rfl rfl rfl rfl (Ay rfl rfl rfl rfl (Ay rfl rfl rfl rfl (BA rfl rfl rfl (Ar rfl rfl (Ay rfl rfl rfl rfl (Ay rfl rfl rfl rfl (BA rfl rfl rfl (o_z ?_)))))))))))
   obtain rfl:=sm a0
   exact ⟨(),_,⟨rfl,rfl,rfl,trivial⟩,(hB.st o0).st p0,(l0.st o0).st p0,q0.st p0,h8.st p0,i0.st p0,j0.st p0,k0.st p0⟩
  replace a0:=iT a0
  refine Cs rfl rfl (Ar rfl rfl (Az rfl rfl ?_))
  replace q0:=q0.st p0
  refine Bk (hl:=rfl) (hc:=(q0.1).cellsAt) rfl rfl ?_
  refine Az rfl rfl (Ar rfl rfl (Az rfl rfl ?_))
  obtain ⟨c3,o3,a0⟩:=bs a0
  replace l0:=(l0.st o0).st p0
  replace h8:=h8.st p0
  replace i0:=i0.st p0
  replace j0:=j0.st p0
  replace k0:=k0.st p0
  refine Bi (O:=m2) (A:=All l2) (R:=fun w' F v=>Vb w' F v c3) (KT (fun _ h=>h) (Vb.mono (F:=Fr 0 l2 m2) (Vb.ofAgg (cs:=[(.slice A9 x0.vars.length b1),(.slice c1 x0.init.length d1),(.slice e1 x0.goal.length f1),(.slice g1 x0.ops.length h1)]) (x:=x0) rfl ⟨_,_,_,_,rfl,h8,i0,j0,k0⟩) Fr.lt) (Vb.mono (F:=Fr 0 l2 m2) l0 Fr.lt) o3) rfl rfl fun d5 p3 q3 d0 r3=>?_
  obtain rfl:=r3.bool
  cases c3
  case false =>
   replace a0:=iF a0
   refine Az rfl rfl (Ct rfl rfl (BD rfl rfl rfl (Ar rfl rfl (Ay rfl rfl rfl rfl (Ay rfl rfl rfl rfl (BA rfl rfl rfl (o_z ?_)))))))
   obtain rfl:=sm a0
   exact ⟨(),_,⟨rfl,rfl,rfl,trivial⟩,((hB.st o0).st p0).st d0,l0.st d0,q0.st d0,h8.st d0,i0.st d0,j0.st d0,k0.st d0⟩
  replace a0:=iT a0
  refine Az rfl rfl (Cs rfl rfl (BD rfl rfl rfl (Ar rfl rfl (Az rfl rfl ?_))))
  obtain ⟨d3,s3,a0⟩:=bs a0
  refine Bi (O:=q3) (A:=All p3) (R:=fun w' F v=>Vb w' F v d3) (HM (fun _ h=>h)  s3) rfl rfl fun e5 f5 g5 r0 t3=>?_
  obtain rfl:=t3.bool
  cases d3
  case false =>
   replace a0:=iF a0
   refine Az rfl rfl (Ct rfl rfl (BD rfl rfl rfl (o_z ?_)))
   obtain rfl:=sm a0
   exact ⟨(),_,⟨rfl,rfl,rfl,trivial⟩,(((hB.st o0).st p0).st d0).st r0,(l0.st d0).st r0,(q0.st d0).st r0,(h8.st d0).st r0,(i0.st d0).st r0,(j0.st d0).st r0,(k0.st d0).st r0⟩
  replace a0:=iT a0
  refine Az rfl rfl (Cs rfl rfl (BD rfl rfl rfl (o_z ?_)))
  obtain rfl:=sm a0
  exact ⟨(),_,⟨rfl,rfl,rfl,trivial⟩,(((hB.st o0).st p0).st d0).st r0,(l0.st d0).st r0,(q0.st d0).st r0,(h8.st d0).st r0,(i0.st d0).st r0,(j0.st d0).st r0,(k0.st d0).st r0⟩
 replace hB:=hB.st o0
 replace l0:=l0.st o0
 replace h8:=h8.st o0
 replace i0:=i0.st o0
 replace j0:=j0.st o0
 replace k0:=k0.st o0
 rintro h5 u3 ⟨l3,e3,n2,hB,l0,q0,h8,i0,j0,k0⟩
 refine AO _ n2 ?_
 refine BK rfl (fun o2=>?_) (fun o2=>?_)
 ·
  replace hm:=ip hm o2
  refine Al ?_
  obtain ⟨v3,m0,hm⟩:=bs hm
  refine AH (fun l' w'=>∃ (w3:Unit) (O':Lab),subs l' [(4,(.bool v3))]∧Bs w A w' O') ?_ ?_
  ·
   refine Aj ?_
   obtain ⟨f3,x3,m0⟩:=bs m0
   refine Bi (O:=e3) (A:=All u3) (R:=fun w' F v=>Vb w' F v f3) (HM (fun _ h=>h)  x3) rfl rfl fun i5 j5 k5 g3 y3=>?_
   obtain rfl:=y3.bool
   cases f3
   case false =>
    replace m0:=iF m0
    refine Au rfl rfl (o_z ?_)
    obtain rfl:=sm m0
    exact ⟨(),_,⟨rfl,trivial⟩,hB.st g3⟩
   replace m0:=iT m0
   refine Au rfl rfl (o_z ?_)
   obtain rfl:=sm m0
   exact ⟨(),_,⟨rfl,trivial⟩,hB.st g3⟩
  rintro l5 m5 ⟨w3,n5,p2,hB⟩
  refine AO _ p2 ?_
  refine AJ ?_
  obtain rfl:=sm hm
  exact ret1v rfl (AD rfl) ⟨hB.ext,vBool⟩
 replace hm:=im' hm o2
 refine AM (Al (Aj (Bk (hl:=rfl) (hc:=(q0.1).cellsAt) rfl rfl ?_)))
 refine Ar rfl rfl ?_
 obtain ⟨f0,z3,hm⟩:=bs hm
 refine Bq (O:=e3) (R:=fun w' F v=>T2 w' F v f0) (Hg Fr.lt (Vb.ofAgg (cs:=[(.slice A9 x0.vars.length b1),(.slice c1 x0.init.length d1),(.slice e1 x0.goal.length f1),(.slice g1 x0.ops.length h1)]) (x:=x0) rfl ⟨_,_,_,_,rfl,h8,i0,j0,k0⟩) l0 (show inI64 (1000) from by decide) z3) rfl rfl fun o5 p5 a4 z0 b4=>?_
 obtain ⟨q5,r5,rfl,c4,d4⟩:=b4
 obtain ⟨e4,rfl,s5,rfl,t0,t5,u5,w5⟩:=c4
 obtain ⟨r1,s1,rfl⟩:=t0.form
 obtain ⟨rfl,x5⟩:=d4.err
 refine Ar rfl rfl (CI rfl rfl rfl (CI rfl rfl rfl (Bh 3 a4 rfl fun t1 y5 h3 u0 g0=>?_)))
 refine AZ g0 rfl rfl rfl (Bj rfl) (allOne rfl) fun f4 v0 g0=>?_
 replace g0:Lc 3 f4 h3 t1 32 [(.int .i64 f0.1.verdict),(.slice r1 f0.1.plan.length s1),(.int .i64 f0.1.cost),(.int .i64 f0.1.expanded)]:=g0
 refine Au rfl rfl (o_z ?_)
 refine Al (Aj (Au rfl rfl (o_z ?_)))
 refine Al (Al (Aj ?_))
 replace q0:=((q0.st z0).st u0).st v0
 refine Bk (hl:=rfl) (hc:=(q0.1).cellsAt) rfl rfl ?_
 refine Ar rfl rfl ?_
 obtain ⟨i1,q2,hm⟩:=bs hm
 replace l0:=((l0.st z0).st u0).st v0
 replace h8:=((h8.st z0).st u0).st v0
 replace i0:=((i0.st z0).st u0).st v0
 replace j0:=((j0.st z0).st u0).st v0
 replace k0:=((k0.st z0).st u0).st v0
 refine Bq (O:=h3) (R:=fun w' F v=>Vb w' F v i1) (IJ Fr.lt (Vb.ofAgg (cs:=[(.slice A9 x0.vars.length b1),(.slice c1 x0.init.length d1),(.slice e1 x0.goal.length f1),(.slice g1 x0.ops.length h1)]) (x:=x0) rfl ⟨_,_,_,_,rfl,h8,i0,j0,k0⟩) l0 q2) rfl rfl fun g4 h4 r2 s0 h0=>?_
 obtain ⟨u1,v1,rfl⟩:=h0.form
 refine AY rfl rfl ?_
 have j1:i1.length≤9223372036854775807:=Nat.le_trans h0.len.2.1 h0.len.2.2
 have i4:inI64 (i1.length:Int):=rngNat j1
 refine Ar rfl rfl (o_z ?_)
 obtain ⟨k1,w1,hm⟩:=bs hm
 refine AH (aft k1 (fun (n0:Int) (w0:Unit)=>[(5,(.pointer (some ⟨t1,0,none⟩))),(6,(errV f0.2.n)),(7,(.int .i64 n0))]) (fun n0 w0 w'=>∃ O':Lab,Bs w A w' O'∧Lc 3 w' O' t1 32 [(.int .i64 f0.1.verdict),(.slice r1 f0.1.plan.length s1),(.int .i64 f0.1.cost),(.int .i64 f0.1.expanded)]∧Vb w' (Fr 0 w' O') (.slice r1 f0.1.plan.length s1) f0.1.plan∧inI64 n0)) ?_ ?_
 ·
  refine AU ?_
  replace hB:=(((hB.st z0).st u0).st v0).st s0
  replace t0:=((t0.st u0).st v0).st s0
  replace g0:=g0.st s0
  refine Bu (σ:=Int) (X:=Unit) (i1.length) w1 rfl j1 (fun (n0:Int) (w0:Unit)=>[(5,(.pointer (some ⟨t1,0,none⟩))),(6,(errV f0.2.n)),(7,(.int .i64 n0)),(32,(.slice u1 i1.length v1))]) _ (fun n0 w0 w'=>∃ O':Lab,Bs w A w' O'∧Lc 3 w' O' t1 32 [(.int .i64 f0.1.verdict),(.slice r1 f0.1.plan.length s1),(.int .i64 f0.1.cost),(.int .i64 f0.1.expanded)]∧Vb w' (Fr 0 w' O') (.slice r1 f0.1.plan.length s1) f0.1.plan∧Vb w' (Fr 0 w' O') (.slice u1 i1.length v1) i1∧inI64 n0) _ () ⟨r2,hB,g0,t0,h0,(show inI64 (0) from by decide)⟩ ⟨rfl,rfl,rfl,rfl,rfl,rfl,trivial⟩ (fun _ _=>⟨rfl,rfl⟩) (fun _ _=>⟨rfl,rfl,rfl,trivial⟩) (fun _ _ _ ⟨O',hB,g0,t0,h0,y0⟩=>⟨O',hB,g0,t0,y0⟩) ⟨rfl,rfl,rfl⟩ ⟨rfl,rfl⟩ ?_
  rintro s2 j4 n0 w0 k4 i3 a1 ⟨l4,hB,g0,t0,h0,y0⟩ c0 f2 g2
  have rk114:inI64 (s2:Int):=rngK a1 j1
  refine Al (Aj ?_)
  obtain ⟨m4,n4,j3,y1,z1,a2,rfl⟩:=h0.elem' a1
  refine Bv (hA:=y1) (hj:=rfl) (hlt:=z1) rfl rfl rfl ?_
  refine AG (hc:=cat0 a2) rfl rfl ?_
  refine Au rfl rfl (o_z ?_)
  refine Al (Aj (Ar rfl rfl (o_z ?_)))
  refine BK rfl (fun l1=>?_) (fun l1=>?_)
  ·
   replace c0:=ip c0 l1
   refine Aj (Ar rfl rfl ?_)
   obtain ⟨o4,b2,c0⟩:=bs c0
   have t2:=(Co b2)
   refine Gk (he:=b2) rfl rfl rfl ?_
   refine Au rfl rfl (o_z ?_)
   obtain rfl:=sm c0
   exact show Exists _ from ⟨_,(),rfl,⟨rfl,rfl,rfl,rfl,rfl,rfl,trivial⟩,_,hB,g0,t0,h0,t2⟩
  replace c0:=im' c0 l1
  refine AM ?_
  obtain rfl:=sm c0
  exact show Exists _ from ⟨_,(),rfl,⟨rfl,rfl,rfl,rfl,rfl,rfl,trivial⟩,_,hB,g0,t0,h0,y0⟩
 replace hB:=(((hB.st z0).st u0).st v0).st s0
 replace t0:=((t0.st u0).st v0).st s0
 replace g0:=g0.st s0
 rintro p4 q4 ⟨r4,s4,rfl,c2,t4,hB,g0,t0,y0⟩
 replace hm:=Be hm
 refine AO _ c2 ?_
 refine Al (Al (Aj (Ar rfl rfl (Eq rfl rfl (fun m1=>?_) fun m1=>?_))))
 ·
  replace hm:=ip hm m1
  refine o_z ?_
  refine Ah rfl (Al (Aj (Au rfl rfl (o_z ?_))))
  refine AJ ?_
  obtain rfl:=sm hm
  exact ret1v rfl (AD rfl) ⟨hB.ext,vBool⟩
 replace hm:=im hm m1
 refine o_z ?_
 refine Ae rfl (AM (Al (Al (Aj (AN rfl rfl (AG (hc:=Blk.cell (i:=0) (g0.1) rfl) rfl rfl ?_))))))
 refine EP rfl rfl rfl (fun n1=>?_) fun n1=>?_
 ·
  replace hm:=ip hm n1
  refine o_z ?_
  refine Ah rfl (Al ?_)
  obtain ⟨u2,e0,hm⟩:=bs hm
  refine AH (fun l' w'=>∃ (v2:Unit) (O':Lab),subs l' [(4,(.bool u2))]∧Bs w A w' O') ?_ ?_
  ·
   refine Aj (AN rfl rfl (AG (hc:=Blk.cell (i:=3) (g0.1) rfl) rfl rfl ?_))
   refine Ar rfl rfl (EP rfl rfl rfl (fun o1=>?_) fun o1=>?_)
   ·
    replace e0:=ip e0 o1
    refine Au rfl rfl (o_z ?_)
    obtain rfl:=sm e0
    exact ⟨(),_,⟨rfl,trivial⟩,hB⟩
   replace e0:=im e0 o1
   refine Au rfl rfl (o_z ?_)
   obtain rfl:=sm e0
   exact ⟨(),_,⟨rfl,trivial⟩,hB⟩
  rintro u4 w4 ⟨v2,x4,d2,hB⟩
  refine AO _ d2 ?_
  refine AJ ?_
  obtain rfl:=sm hm
  exact ret1v rfl (AD rfl) ⟨hB.ext,vBool⟩
 replace hm:=im hm n1
 refine o_z ?_
 refine Ae rfl (AM (Al ?_))
 obtain ⟨w2,b0,hm⟩:=bs hm
 refine AH (fun l' w'=>∃ (x2:Unit) (O':Lab),subs l' [(4,(.bool w2))]∧Bs w A w' O') ?_ ?_
 ·
  refine Aj (AN rfl rfl (AG (hc:=Blk.cell (i:=0) (g0.1) rfl) rfl rfl ?_))
  refine EP rfl rfl rfl (fun p1=>?_) fun p1=>?_
  ·
   replace b0:=ip b0 p1
   refine Ar rfl rfl (Az rfl rfl (AN rfl rfl (Az rfl rfl (AG (hc:=Blk.cell (i:=3) (g0.1) rfl) rfl rfl ?_))))
   refine Az rfl rfl (Ar rfl rfl (Az rfl rfl (Da rfl rfl rfl (fun q1=>?_) fun q1=>?_)))
   ·
    replace b0:=ip b0 q1
    refine BA rfl rfl rfl (Au rfl rfl (o_z ?_))
    obtain rfl:=sm b0
    exact ⟨(),_,⟨rfl,trivial⟩,hB⟩
   replace b0:=im b0 q1
   refine BA rfl rfl rfl (Au rfl rfl (o_z ?_))
   obtain rfl:=sm b0
   exact ⟨(),_,⟨rfl,trivial⟩,hB⟩
  replace b0:=im b0 p1
  refine Ar rfl rfl (Ay rfl rfl rfl rfl (Ay rfl rfl rfl rfl (Ay rfl rfl rfl rfl (Ay rfl rfl rfl rfl (BD rfl rfl rfl (Au rfl rfl (o_z ?_)))))))
  obtain rfl:=sm b0
  exact ⟨(),_,⟨rfl,trivial⟩,hB⟩
 rintro y4 z4 ⟨x2,a5,e2,hB⟩
 refine AO _ e2 ?_
 refine AJ ?_
 obtain rfl:=sm hm
 exact ret1v rfl (AD rfl) ⟨hB.ext,vBool⟩
end
section
open Go Go.RowKit
def factB (vars:List Int) (x:Fct):Bool:=decide (0≤x.var) && (decide (0≤x.val) && (match vars[x.var.toNat]? with|some y=>decide (x.val < y)|none=>false))
theorem Mb {vars:List Int} {x:Fct} (h:factB vars x=true):FactOk vars x:=by
  unfold factB at h
  simp only [Bool.and_eq_true,decide_eq_true_eq] at h
  obtain ⟨h1,h2,h3⟩:=h
  cases hv:vars[x.var.toNat]? with
  | none=>rw [hv] at h3;cases h3
  | some y=>rw [hv] at h3;exact ⟨h1,h2,y,hv,by simpa using h3⟩
def ascB:List Fct→Bool
  | x :: y :: r=>decide (x.var < y.var) && ascB (y :: r)
  | _=>true
theorem ML:∀ {f:List Fct},ascB f=true→∀ (i:Nat) x y,f[i]?=some x→f[i + 1]?=some y→x.var < y.var
  | [],_,i,x,y,h,_=>by simp at h
  | [_],_,i,x,y,_,h=>by simp at h
  | a :: b :: r,h,i,x,y,h1,h2=>by
    simp only [ascB,Bool.and_eq_true,decide_eq_true_eq] at h
    cases i with
    | zero=>simp at h1 h2;subst h1;subst h2;exact h.1
    | succ i=>exact ML h.2 i x y (by simpa using h1) (by simpa using h2)
def factsB (vars:List Int) (f:List Fct):Bool:=f.all (factB vars) && ascB f
theorem Is {vars:List Int} {f:List Fct} (h:factsB vars f=true):FactsOk vars f:=by
  unfold factsB at h
  rw [Bool.and_eq_true,List.all_eq_true] at h
  exact ⟨fun i x hx=>Mb (h.1 x (List.mem_of_getElem? hx)),ML h.2⟩
def stateB:List Int→List Int→Bool
  | [],[]=>true
  | y :: vars,x :: s=>decide (0≤x) && (decide (x < y) && stateB vars s)
  | _,_=>false
theorem KM:∀ {vars s:List Int},stateB vars s=true→StateOk vars s
  | [],[],_=>⟨rfl,fun i x y h=>by simp at h⟩
  | y :: vars,x :: s,h=>by
    simp only [stateB,Bool.and_eq_true,decide_eq_true_eq] at h
    obtain ⟨h1,h2⟩:=KM h.2.2
    refine ⟨by simp [h1],fun i a b ha hb=>?_⟩
    cases i with
    | zero=>simp at ha hb;subst ha;subst hb;exact ⟨h.1,h.2.1⟩
    | succ i=>exact h2 i a b (by simpa using ha) (by simpa using hb)
  | [],_ :: _,h=>by simp [stateB] at h
  | _ :: _,[],h=>by simp [stateB] at h
def nameB (s:ByteArray):Bool:=decide (s.size≤256) && s.data.toList.all fun c=>decide (32≤c.toNat) && decide (c.toNat≤126)
theorem Pc {s:ByteArray} (h:nameB s=true):NameOk s:=by
  unfold nameB at h
  simp only [Bool.and_eq_true,decide_eq_true_eq,List.all_eq_true] at h
  refine ⟨h.1,fun i hi=>h.2 _ ?_⟩
  show s.data[i]∈_
  simp
def opB (vars:List Int) (o:Opr):Bool:=decide (0≤o.cost) && (decide (o.cost≤1048576) && (decide (o.effs.length≤64) && (nameB o.name && (factsB vars o.pre && o.effs.all fun e=>factsB vars e.cond && factB vars ⟨e.var,e.val⟩))))
theorem QV {vars:List Int} {o:Opr} (h:opB vars o=true):OpOk vars o:=by
  unfold opB at h
  simp only [Bool.and_eq_true,decide_eq_true_eq,List.all_eq_true] at h
  obtain ⟨h1,h2,h3,h4,h5,h6⟩:=h
  exact ⟨h1,h2,h3,Pc h4,Is h5,fun i e he=>⟨Is (h6 e (List.mem_of_getElem? he)).1,Mb (h6 e (List.mem_of_getElem? he)).2⟩⟩
def taskB (t:Tsk):Bool:=decide (t.vars.length≤64) && (decide (t.ops.length≤4096) && ((t.vars.all fun n=>decide (1≤n) && decide (n≤64)) && (stateB t.vars t.init && (factsB t.vars t.goal && t.ops.all (opB t.vars)))))
theorem Pd {t:Tsk} (h:taskB t=true):TaskOk t:=by
  unfold taskB at h
  simp only [Bool.and_eq_true,decide_eq_true_eq,List.all_eq_true] at h
  obtain ⟨h1,h2,h3,h4,h5,h6⟩:=h
  exact ⟨h1,h2,fun i n hn=>h3 n (List.mem_of_getElem? hn),KM h4,Is h5,fun i o ho=>QV (h6 o (List.mem_of_getElem? ho))⟩
end
section
set_option linter.unusedVariables false
set_option linter.unusedSimpArgs false
open Go Go.RowKit
theorem Pe (t:Tsk) (gens:List Swp):EA t gens=some (bof (gens.length≤12∧∀ x∈gens,TaskOk t∧SymP t x)):=by
  unfold EA
  by_cases hl:12 < (gens.length:Int)
  · rw [if_pos hl,AQ (fun h=>by omega)]
  rw [if_neg hl]
  have:∃ r,(bnd (rng (ρ:=Bool) (fun (k36:Nat) (a37:Swp) (s34:Unit)=>bnd (DN t a37) fun q73=>if q73=true then some (.next ()) else some (.ret false)) gens 0 ()) fun res32=>fin res32 fun (s84:Unit)=>some true)=some r∧r=bof (gens.length≤12∧∀ x∈gens,TaskOk t∧SymP t x):=by
    refine Ik (fun m _=>∀ x∈gens.take m,TaskOk t∧SymP t x) (fun r=>r=false∧¬ ∀ x∈gens,TaskOk t∧SymP t x) (fun x hx=>by simp at hx) ?_ ?_ ?_
    · intro m x _ hx hI
      rw [Mp,Am]
      by_cases h:TaskOk t∧SymP t x
      · rw [Bf h,Bl]
        refine .inl ⟨(),rfl,fun y hy=>?_⟩
        rcases (DP hx).1 hy with hy|rfl
        · exact hI y hy
        · exact h
      · rw [AQ h,BB]
        exact .inr ⟨_,rfl,rfl,fun hh=>h (hh x (List.mem_of_getElem? hx))⟩
    · intro _ hI
      rw [List.take_length] at hI
      exact ⟨_,rfl,by rw [Bf ⟨by omega,hI⟩]⟩
    · rintro q ⟨rfl,hn⟩
      exact ⟨_,rfl,by rw [AQ (fun h=>hn h.2)]⟩
  obtain ⟨r,h1,h2⟩:=this
  rw [h1,h2]
def ex52:Tsk:=⟨[2],[0],[(⟨0,1⟩:Fct)],[(⟨(⟨#[]⟩:ByteArray),3,([]:List Fct),[(⟨([]:List Fct),0,1⟩:Eff)]⟩:Opr)]⟩
theorem Qi:TaskOk ex52:=Pd (by kernel_rfl)
theorem Nl:SmallOk ex52:=by
  refine ⟨by decide,by decide,fun i o ho=>?_,Qi,by decide⟩
  have:o∈ex52.ops:=List.mem_of_getElem? ho
  simp [ex52] at this
  subst this
  decide
theorem Oi {s p s':List Int} {C:Int} (h:PlanR ex52 s p s' C):C=3 * (p.length:Int)∧∀ x∈p,x=0:=by
  induction h with
  | nil=>simp
  | @cons s rest s' k o C ho _ _ ih =>
    have hk:=AE ho
    simp [ex52] at hk
    subst hk
    have:o.cost=3:=by simp [ex52] at ho;rw [← ho]
    refine ⟨by rw [this,ih.1];simp;omega,fun x hx=>?_⟩
    rcases List.mem_cons.1 hx with rfl|hx
    · rfl
    · exact ih.2 x hx
theorem awake52:DQ=some true:=by
  unfold DQ
  show (bnd (CK ex52 [] 10) _)=_
  have hsy:Sy ex52 []:=⟨Nl,fun x hx=>by simp at hx,by simp⟩
  obtain ⟨r,r1,r2,r3⟩:=Ma hsy 1000
  obtain ⟨hv,hx⟩:=JX hsy r2 (by decide)
  have hst:(statesL ex52.vars).length=2:=by decide
  rw [r3 hv 10 (by omega),Am,if_pos rfl]
  have hw:Walk ex52 ex52.init 3:=by
    have h1:PlanR ex52 ex52.init [((0:Nat):Int)] _ (3 + 0):=.cons (k:=0) (o:=(⟨(⟨#[]⟩:ByteArray),3,([]:List Fct),[(⟨([]:List Fct),0,1⟩:Eff)]⟩:Opr)) rfl (by decide) .nil
    exact h1.walk (by decide)
  obtain ⟨_,_,M,_,_,_,⟨h1,h2,⟨s',h3,h4⟩,h5,_⟩|⟨h1,h2,h3,h4,_⟩|⟨h1,_⟩⟩:=r2
  · have g1:=Oi h3
    have g2:=h5 3 hw
    have hp:r.plan=[0]:=by
      cases hpl:r.plan with
      | nil =>
        rw [hpl] at h3
        have e:s'=ex52.init:=by
          generalize r.cost=c at h3
          cases h3
          rfl
        rw [e] at h4
        exact absurd h4 (by decide)
      | cons a l =>
        rw [hpl] at g1
        have:=g1.2 a List.mem_cons_self
        subst this
        cases l with
        | nil=>rfl
        | cons b l=>simp at g1;omega
    rw [hp] at g1
    dsimp only
    rw [if_pos h1,if_pos (by simpa using g1.1),hp]
    unfold GR
    rw [Bf rfl]
    rfl
  · exact absurd hw (h4 3)
  · exact absurd h1 hv
theorem Sy.of {t:Tsk} {gens:List Swp} (hs:SmallOk t) (hr:gens.length≤12∧∀ x∈gens,TaskOk t∧SymP t x):Sy t gens:=⟨hs,fun x hx=>(hr.2 x hx).2,by omega⟩
end
section
set_option linter.unusedVariables false
set_option linter.unusedSimpArgs false
open Go Go.RowKit
theorem JY:∀ (l:List (List Int)) (bs:List Bool),(marked l bs).Sublist l
  | [],bs=>by simp [marked]
  | s :: l,[]=>by simp [marked]
  | s :: l,b :: bs=>by
    have ih:=JY l bs
    simp only [marked]
    split
    · exact ih.cons_cons s
    · exact ih.cons s
theorem HE:∀ {l:List (List Int)} {bs:List Bool} {s:List Int},s∈marked l bs→∃ i:Nat,l[i]?=some s∧bs[i]?=some true
  | [],bs,s,h=>by simp [marked] at h
  | s :: l,[],s',h=>by simp [marked] at h
  | s :: l,b :: bs,s',h=>by
    simp only [marked] at h
    by_cases hb:b=true
    · rw [if_pos hb] at h
      rcases List.mem_cons.1 h with rfl|h
      · exact ⟨0,rfl,by simp [hb]⟩
      · obtain ⟨i,h1,h2⟩:=HE h;exact ⟨i + 1,by simpa using h1,by simpa using h2⟩
    · rw [if_neg hb] at h
      obtain ⟨i,h1,h2⟩:=HE h;exact ⟨i + 1,by simpa using h1,by simpa using h2⟩
theorem KU {t:Tsk} (h:TaskOk t):(statesL t.vars).Nodup:=Jm fun _ _ _ h1 h2=>GV h h1 h2
structure MkO (t:Tsk) (gens:List Swp) (bs:List Bool) (L:List (List Int)):Prop where
  len:bs.length=(statesL t.vars).length
  mrk:∀ (i:Nat) s,(statesL t.vars)[i]?=some s→(bs[i]?=some true↔s∈L)
  nd:L.Nodup
  orr:∀ s∈L,OR t (cnS t gens) s
  ini:cnS t gens t.init∈L
theorem MkO.few {t:Tsk} {gens:List Swp} (h:Sy t gens) {bs:List Bool} {L:List (List Int)} (hm:MkO t gens bs L):L.length≤512 :=
  Nat.le_trans (EL hm.nd fun s hs=>Fa.2 (Gq h (hm.orr s hs))) h.sm.many
theorem MkO.add {t:Tsk} {gens:List Swp} (hok:TaskOk t) {bs:List Bool} {L:List (List Int)} (hm:MkO t gens bs L) {j:Nat} {y:List Int} (hj:(statesL t.vars)[j]?=some y) (hy:¬ y∈L) (ho:OR t (cnS t gens) y):MkO t gens (bs.set j true) (L ++ [y]):=by
  have hjl:j < bs.length:=by rw [hm.len];exact AE hj
  refine ⟨by simpa using hm.len,fun i s hi=>?_,?_,fun s hs=>?_,List.mem_append_left _ hm.ini⟩
  · by_cases e:j=i
    · subst e
      rw [hj] at hi
      obtain rfl:=Option.some.inj hi
      rw [List.getElem?_set_self hjl]
      simp
    · rw [List.getElem?_set_ne e,hm.mrk i s hi,List.mem_append]
      constructor
      · exact fun h=>.inl h
      · rintro (h|h)
        · exact h
        · simp at h
          subst h
          exact absurd (GV hok hj hi) e
  · rw [List.nodup_append]
    exact ⟨hm.nd,by simp,fun a ha b hb hab=>by simp at hb;subst hb hab;exact hy ha⟩
  · rcases List.mem_append.1 hs with hs|hs
    · exact hm.orr s hs
    · simp at hs;subst hs;exact ho
theorem nx52 {σ ρ:Type} {x:Option (Ctl σ ρ)} {I:σ→Prop} (h:∃ r,x=some r∧∃ s',r=Ctl.next s'∧I s'):∃ s',x=some (.next s')∧I s':=by
  obtain ⟨_,h1,s',rfl,h2⟩:=h
  exact ⟨s',h1,h2⟩
theorem canonical52 {t:Tsk} {gens:List Swp} (h:Sy t gens):∃ bs,Dw t gens=some bs∧bs.length=(statesL t.vars).length∧∀ (i:Nat) s,(statesL t.vars)[i]?=some s→(bs[i]?=some true↔OR t (cnS t gens) s):=by
  have hok:=h.sm.ok
  have hs0:=hok.2.2.2.1
  obtain ⟨_,c1,c2,_⟩:=Gp h hs0
  obtain ⟨j,hj,hj2⟩:=MG h.sm.mid c2
  have hmany:=h.sm.many
  have hjl:=AE hj2
  unfold Dw
  have hget:(List.replicate (statesL t.vars).length false)[j]?=some false:=by rw [List.getElem?_replicate,if_pos hjl]
  rw [LI h.sm.mid,Am,FS (by omega) (by omega),Am,c1,Am]
  dsimp only
  rw [hj,Am,Bg,hget,Am,Int.toNat_natCast]
  refine LK (fun st=>MkO t gens st.1 st.2.1∧∃ i:Nat,st.2.2=(i:Int)∧i≤st.2.1.length∧∀ j,j < i→∀ s,st.2.1[j]?=some s→holdsB t.goal s=false→∀ (k:Nat) o,t.ops[k]?=some o→holdsB o.pre s=true→cnS t gens (succ o s)∈st.2.1) (fun st=>MkO t gens st.1 st.2.1∧∀ s∈st.2.1,holdsB t.goal s=false→∀ (k:Nat) o,t.ops[k]?=some o→holdsB o.pre s=true→cnS t gens (succ o s)∈st.2.1) (fun _=>False) (fun st=>600 - st.2.2.toNat) ⟨?_,0,rfl,by simp,fun j hj=>by omega⟩ ?_ ?_ (fun q hq=>hq.elim)
  · dsimp only
    refine ⟨by simp,fun i s hi=>?_,by simp,fun s hs=>by simp at hs;subst hs;exact .init,by simp⟩
    by_cases e:j=i
    · subst e
      rw [hj2] at hi
      obtain rfl:=Option.some.inj hi
      rw [List.getElem?_set_self (by simpa using hjl)]
      simp
    · rw [List.getElem?_set_ne e,List.getElem?_replicate,if_pos (AE hi)]
      constructor
      · intro hh;cases hh
      · intro hh;simp at hh;subst hh;exact absurd (GV hok hj2 hi) e
  · rintro ⟨bs, L,i'⟩ ⟨hm,i,rfl,hil,hC⟩
    dsimp only at hm hil hC ⊢
    have hLl:=hm.few h
    by_cases h1:(i:Int) < (L.length:Int)
    case neg =>
      rw [if_neg h1]
      refine .inr (.inl ⟨_,rfl,hm,fun s hs=>?_⟩)
      obtain ⟨j,hj⟩:=List.getElem?_of_mem hs
      have hjl:j < L.length:=AE hj
      exact hC j (by omega) s hj
    rw [if_pos h1]
    obtain ⟨si,hsi⟩:=EE (l:=L) (k:=i) (by omega)
    have hor:=hm.orr si (List.mem_of_getElem? hsi)
    have hsio:=Gq h hor
    refine .inl (nx52 ?_)
    rw [Bg,hsi,Am,Hu,Am]
    by_cases hg:holdsB t.goal si=true
    · rw [if_pos hg,Am,Cy (by unfold inI64;omega),Am]
      refine ⟨_,rfl,_,rfl,⟨hm,i + 1,rfl,by dsimp only;omega,fun j hj s hs hgs=>?_⟩,by dsimp only;omega⟩
      dsimp only at hs ⊢
      by_cases e:j=i
      · subst e
        rw [hsi] at hs
        obtain rfl:=Option.some.inj hs
        rw [hg] at hgs;cases hgs
      · exact hC j (by omega) s hs hgs
    · have hgf:holdsB t.goal si=false:=by simpa using hg
      rw [if_neg hg]
      have inner:∃ z:List Bool×List (List Int),(bnd (rng (ρ:=(List Bool)×(List (List Int))) (fun (k157:Nat) (a158:Opr) (s155:(List Bool)×(List (List Int)))=>bnd (atI s155.2 (i:Int)) fun a176=>bnd (Dl t a176 (k157:Int)) fun q191=>if (!q191.2)=true then (some (.next (s155.1,s155.2))) else (bnd (CA gens q191.1) fun q205=>bnd (DY t.vars q205.1) fun q220=>bnd (atI s155.1 q220) fun a228=>if (!a228)=true then (bnd (atI s155.1 q220) fun a240=>bnd (appI 24 s155.2 [q205.1]) fun u253=>some (.next ((s155.1.set (q220:Int).toNat true),u253))) else (some (.next (s155.1,s155.2))))) t.ops 0 (bs,L)) fun res153=>fin res153 fun (s269:(List Bool)×(List (List Int)))=>some (s269.1,s269.2):Option ((List Bool)×(List (List Int))))=some z∧(MkO t gens z.1 z.2∧(∃ r,z.2=L ++ r)∧∀ (k:Nat) o,t.ops[k]?=some o→holdsB o.pre si=true→cnS t gens (succ o si)∈z.2):=by
        refine Ik (fun q st=>MkO t gens st.1 st.2∧(∃ r,st.2=L ++ r)∧∀ (k:Nat) o,k < q→t.ops[k]?=some o→holdsB o.pre si=true→cnS t gens (succ o si)∈st.2) (fun _=>False) ⟨hm,⟨[],by simp⟩,fun k o hk=>by omega⟩ ?_ ?_ (fun q hq=>hq.elim)
        · rintro q o ⟨b1,l1⟩ hx ⟨j1,⟨r,j2⟩,j3⟩
          dsimp only at j1 j2 j3 ⊢
          refine .inl ?_
          have hgi:l1[i]?=some si:=by rw [j2,List.getElem?_append_left (by omega)];exact hsi
          have hl1:=j1.few h
          rw [Bg,hgi,Am,NM hok hsio hx,Am]
          by_cases hp:holdsB o.pre si=true
          · rw [if_pos hp]
            have hs2:=FF hok hsio hx
            obtain ⟨_,d1,d2,_⟩:=Gp h hs2
            obtain ⟨y,hy,hy2⟩:=MG h.sm.mid d2
            obtain ⟨b,hb⟩:=EE (l:=b1) (k:=y) (by rw [j1.len];exact AE hy2)
            dsimp only
            rw [show (!true)=false from rfl,BB,d1,Am]
            dsimp only
            rw [hy,Am,Bg,hb,Am]
            cases b with
            | true =>
              have hin:=(j1.mrk y _ hy2).1 hb
              rw [show (!true)=false from rfl,BB]
              refine ⟨_,rfl,j1,⟨r,j2⟩,fun k o' hk ho' hp'=>?_⟩
              by_cases e:k=q
              · subst e;rw [hx] at ho';obtain rfl:=Option.some.inj ho';exact hin
              · exact j3 k o' (by omega) ho' hp'
            | false =>
              have hnin:¬ cnS t gens (succ o si)∈l1:=fun hin=>by
                rw [(j1.mrk y _ hy2).2 hin] at hb;cases hb
              rw [show (!false)=true from rfl,Bl,Am,Cp (by simp;omega) (by simp;omega),Am,Int.toNat_natCast]
              refine ⟨_,rfl,j1.add hok hy2 hnin (hor.step hgf hx hp),⟨r ++ [cnS t gens (succ o si)],by dsimp only;rw [j2];simp⟩,fun k o' hk ho' hp'=>?_⟩
              dsimp only
              by_cases e:k=q
              · subst e;rw [hx] at ho';obtain rfl:=Option.some.inj ho';simp
              · exact List.mem_append_left _ (j3 k o' (by omega) ho' hp')
          · rw [if_neg hp]
            dsimp only
            rw [show (!false)=true from rfl,Bl]
            refine ⟨_,rfl,j1,⟨r,j2⟩,fun k o' hk ho' hp'=>?_⟩
            by_cases e:k=q
            · subst e;rw [hx] at ho';obtain rfl:=Option.some.inj ho';exact absurd hp' hp
            · exact j3 k o' (by omega) ho' hp'
        · rintro ⟨b1,l1⟩ ⟨j1,j2,j3⟩
          exact ⟨_,rfl,j1,j2,fun k o hk hp=>j3 k o (AE hk) hk hp⟩
      obtain ⟨z,z1,z2,⟨r,z3⟩,z4⟩:=inner
      rw [z1,Am,Cy (by unfold inI64;omega),Am]
      refine ⟨_,rfl,_,rfl,⟨z2,i + 1,rfl,by dsimp only;rw [z3];simp;omega,fun j hj s hs hgs=>?_⟩,by dsimp only;omega⟩
      dsimp only at hs ⊢
      by_cases e:j=i
      · subst e
        rw [z3,List.getElem?_append_left (by omega),hsi] at hs
        obtain rfl:=Option.some.inj hs
        exact z4
      · rw [z3,List.getElem?_append_left (by omega)] at hs
        intro k o hk hp
        rw [z3]
        exact List.mem_append_left _ (hC j (by omega) s hs hgs k o hk hp)
  · rintro ⟨bs,L,i⟩ ⟨hm,hC⟩
    dsimp only at hm hC
    rw [BL]
    refine ⟨_,rfl,hm.len,fun i s hi=>?_⟩
    rw [hm.mrk i s hi]
    constructor
    · exact hm.orr s
    · intro hs
      have:∀ {s},OR t (cnS t gens) s→s∈L:=fun {s} hs=>by
        induction hs with
        | init=>exact hm.ini
        | @step s k o _ hg ho hp ih=>exact hC s ih hg k o ho hp
      exact this hs
theorem Mr (t:Tsk) (gens:List Swp):DB t gens=some true:=by
  unfold DB GD
  rw [Am,awake52,Pe,Am,Am,Am]
  by_cases hs:SmallOk t
  case neg=>rw [AQ hs,BB,Am,Bl,Bl,Am]
  by_cases hr:gens.length≤12∧∀ x∈gens,TaskOk t∧SymP t x
  case neg=>rw [Bf hs,Bl,AQ hr,BB,Am,Bl,Bl,Am]
  have h:=Sy.of hs hr
  obtain ⟨r,r1,r2,_⟩:=Ma h 1000
  obtain ⟨bs,b1,b2,b3⟩:=canonical52 h
  obtain ⟨hv,hx⟩:=JX h r2 (by decide)
  have hmany:=hs.many
  rw [Bf hs,Bl,Bf hr,Bl,Bl,Am,BB,r1,Am,b1,Am,OK (by omega),Am,BL,if_neg (by simp)]
  dsimp only
  obtain ⟨_,_,M,m1,m2,m3,hc⟩:=r2
  have hml:=JT (statesL t.vars) bs b2
  have hin:∀ s,OR t (cnS t gens) s→s∈marked (statesL t.vars) bs:=fun s hs'=>by
    obtain ⟨i,hi⟩:=List.getElem?_of_mem (Fa.2 (Gq h hs'))
    exact JU hi ((b3 i s hi).2 hs')
  have hout:∀ s∈marked (statesL t.vars) bs,OR t (cnS t gens) s:=fun s hs'=>by
    obtain ⟨i,i1,i2⟩:=HE hs'
    exact (b3 i s i1).1 i2
  have hnd:(marked (statesL t.vars) bs).Nodup:=(KU hs.ok).sublist (JY _ _)
  rcases hc with ⟨h1,_,_,_,s,h5,h6⟩|⟨h1,_,_,_,h5⟩|⟨h1,_⟩
  · have h7:(s :: M).length≤(marked (statesL t.vars) bs).length:=EL (List.nodup_cons.2 ⟨h5,m1⟩) fun x hx'=>by
      rcases List.mem_cons.1 hx' with rfl|hx'
      · exact hin _ h6
      · exact hin _ (m3 _ hx')
    rw [List.length_cons,hml] at h7
    rw [if_neg (show ¬ r.verdict=2 by omega),if_pos h1,if_pos (show r.expanded < _ by omega),Am]
  · have h7:M.length≤(marked (statesL t.vars) bs).length:=EL m1 fun x hx'=>hin _ (m3 _ hx')
    have h8:(marked (statesL t.vars) bs).length≤M.length:=EL hnd fun x hx'=>h5 _ (hout _ hx')
    rw [hml] at h7 h8
    rw [if_pos h1,if_pos (by omega),Am]
  · exact absurd h1 hv
end
section
open Go Go.RowKit Go.ChangeShapes Go.WideShapes Go.Deep
theorem lawOExpands {w:World} {v0:Value} {a0:Tsk} (h0:V w v0 a0) {v1:Value} {a1:List Swp} (h1:V w v1 a1):Fn Tryz.prog 4 [v0,v1] w fun v w'=>v=.bool true∧Ext w w':=by
  exact (HD (fun _ h=>h) h0 h1 (Mr a0 a1)).mono fun _ _ h=>⟨h.2.bool,h.1⟩
set_option maxRecDepth 100000 in
theorem HR (os:Os) (started:os.Started) (H:Type) (enc:TypeId×Value→H) :
    ReturnsInHanded {} Tryz.checked os 4 .any (Rows.orbitExpandsSpec.pre6 enc Tryz.prog Tryz.f4 Rows.orbitExpandsRow.domain false) (Rows.orbitExpandsSpec.post enc Tryz.prog Tryz.f4 false true false false):=by
  refine returnsInHanded_of_change (C:=Tryz.checked) ownTry started (by kernel_rfl) Tryz.func4 (ChangeSpec.witness6 (enc:=enc) (C:=Tryz.checked) false ⟨#[],#[(.agg #[.slice none 0 0,.slice none 0 0,.slice none 0 0,.slice none 0 0]),(.slice none 0 0)],[]⟩ 8 (by kernel_rfl) (by kernel_rfl) (by kernel_rfl) (by kernel_rfl)) ?_
  intro W base args ds gs before hval hW _ _
  have hopen:∀ p,DataW.TrodAll enc Tryz.prog W 0 (fun _=>true) true Tryz.f4.params.toList args.toList ds p→∃ v0 v1 d0 d1,args=#[v0,v1]∧ds=[d0,d1]∧(∃ a:Tsk,V W v0 a)∧(∃ a:List Swp,V W v1 a):=by
    intro p hA
    rw [Tryz.params4] at hA
    replace hval:∀ (j:Nat) t v,(#[26,27]:Array TypeId)[j]?=some t→args[j]?=some v→Value.okWide Tryz.prog W .any base t v:=by rw [← Tryz.params4];exact hval
    obtain ⟨v0,vs0,d0,ds0,p0,q0,g0,e0,_,h0,r0⟩:=trodAll_cons hA
    obtain ⟨v1,vs1,d1,ds1,p1,q1,g1,e1,_,h1,r1⟩:=trodAll_cons r0
    obtain ⟨g,e,_⟩:=trodAll_nil r1
    rw [g] at g1;rw [e] at e1
    rw [g1] at g0;rw [e1] at e0
    obtain rfl:args=#[v0,v1]:=by cases args;simp_all
    exact ⟨v0,v1,d0,d1,rfl,e0,(by first|exact openAgg rfl (hval 0 26 v0 rfl rfl) h0|exact openOne rfl (hval 0 26 v0 rfl rfl) h0),(by first|exact openAgg rfl (hval 1 27 v1 rfl rfl) h1|exact openOne rfl (hval 1 27 v1 rfl rfl) h1)⟩
  refine lawPost rfl (by kernel_rfl) (by rw [Tryz.params4];exact of_decide_eq_true (by kernel_rfl)) hW ?_ ?_
  · intro p hA
    obtain ⟨v0,v1,d0,d1,_,rfl,_⟩:=hopen p hA
    rfl
  · intro p hA
    obtain ⟨v0,v1,d0,d1,rfl,_,⟨a0,h0⟩,⟨a1,h1⟩⟩:=hopen p hA
    exact lawOExpands h0 h1
theorem orbitExpands_holds:Rows.OrbitExpandsSaid :=
  OpenClaim.holds_of_wide 4 Tryz.f4 rfl rfl rfl rfl rfl rfl rfl ⟨rfl,rfl,rfl,rfl,rfl⟩ rfl rfl rfl rfl rfl (by kernel_rfl) Tryz.func4 (by kernel_rfl)
    (of_decide_eq_true (by kernel_rfl)) (by unfold Func.isWrapper;first|(rw [if_pos (by decide +kernel)];kernel_rfl)|(rw [if_neg (by decide +kernel)];exact ⟨rfl,rfl⟩))
    (fun os started H enc _=>HR os started H enc)
#print axioms orbitExpands_holds
end
end Go.Proofs.YtecegaabajeolaaGreat
